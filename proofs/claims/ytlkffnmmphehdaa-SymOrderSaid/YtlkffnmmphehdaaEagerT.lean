/-
  A region that leaves its order open and in which two operations that do something may come in either order: walked once for each of the two. Over any program.
-/
import Derived.Test.YtlkffnmmphehdaaEager
namespace Go.Proofs.Ytlkffnmmphehdaa

section
variable {P : Program} {ops : Array Oper} {Q : Exit → Act → World → Prop} {S : World → Prop}

/-- A plan: a row of operations, then the end, or one of two comes first. -/
inductive Pl where
  | fin (l : List (Nat × Cls))
  | fork (l : List (Nat × Cls)) (i : Nat) (r : Pl) (j : Nat) (s : Pl)

def setL (listed : Array Bool) (l : List (Nat × Cls)) : Array Bool := l.foldl (fun g x => g.setIfInBounds x.1 true) listed
def okL (ops : Array Oper) : List (Nat × Cls) → Array Bool → Bool
  | [], _ => true
  | (k, c) :: rest, listed => (if c == 2 then Region.ready .any ops listed == [k] else (Region.ready .any ops listed).contains k && Region.free .any ops listed k) && okL ops rest (listed.setIfInBounds k true)
def chkL (qs ls : List Nat) (l : List (Nat × Cls)) : Bool := l.all fun (k, c) => (c != 2) == qs.contains k && (c != 1 || ls.contains k)
def okPl (ops : Array Oper) (qs ls : List Nat) : Pl → Nat → Array Bool → Bool
  | .fin l, n, listed => n == l.length && chkL qs ls l && okL ops l listed && (Region.ready .any ops (setL listed l)).isEmpty && l.all fun x => x.1 < ops.size
  | .fork l i r j s, n, listed => decide (l.length + 1 ≤ n) && chkL qs ls l && okL ops l listed && (l.all fun x => x.1 < ops.size) && Region.ready .any ops (setL listed l) == [i, j] && !qs.contains i && !qs.contains j &&
      okPl ops qs ls r (n - l.length - 1) ((setL listed l).setIfInBounds i true) && okPl ops qs ls s (n - l.length - 1) ((setL listed l).setIfInBounds j true)

/-- A row of operations, each beside its number, and then R. -/
def wpY (P : Program) (ops : Array Oper) (Q : Exit → Act → World → Prop) (S : World → Prop) (ns : Nat → Bool) (R : Act → World → Prop) : List (Nat × Cls × Oper) → Act → World → Prop
  | [], a, w => R a w
  | (i, c, o) :: rest, a, w =>
    if c = 2 then (if Region.wanted o (yielded ops a.tmps) = true then o.wp P a w (fun a' w' => (ns i = true → S w') ∧ wpY P ops Q S ns R rest a' w') Q else (ns i = true → S w) ∧ wpY P ops Q S ns R rest (a.put o.dst undef) w)
    else ∃ v, (if c = 1 then YieldsIf P ops S o v a ∧ S w else Yields P ops o v a) ∧ wpY P ops Q S ns R rest (a.put o.dst v) w
def wpPl (P : Program) (ops : Array Oper) (Q : Exit → Act → World → Prop) (S : World → Prop) (ns : Nat → Bool) : Pl → Act → World → Prop
  | .fin l, a, w => wpY P ops Q S ns (fun a w => Q .normal a w) (beside ops l) a w
  | .fork l i r j s, a, w => wpY P ops Q S ns (fun a w => wpOp P ops Q i (fun a' w' => (ns i = true → S w') ∧ wpPl P ops Q S ns r a' w') a w ∧ wpOp P ops Q j (fun a' w' => (ns j = true → S w') ∧ wpPl P ops Q S ns s a' w') a w) (beside ops l) a w

theorem closed_setL : ∀ (l : List (Nat × Cls)) (listed : Array Bool), Closed ops listed → okL ops l listed = true → Closed ops (setL listed l)
  | [], _, h, _ => h
  | (k, c) :: rest, listed, h, hB => by
    simp only [okL, Bool.and_eq_true] at hB
    refine closed_setL rest _ (closed_ready h ?_) hB.2
    by_cases hc : c = 2
    · subst hc
      have hB1 := hB.1
      simp only [beq_self_eq_true, if_true] at hB1
      have hr : Region.ready .any ops listed = [k] := by simpa using hB1
      rw [hr]; simp
    · have hB1 := hB.1
      rw [if_neg (by simpa using hc)] at hB1
      simp only [Bool.and_eq_true] at hB1
      simpa using hB1.1

theorem wpAnyE_list {qt ns : Nat → Bool} {R : Act → World → Prop} {n : Nat} (hsel : Region.noSelect ops = true) (hQ : ∀ c a a' w, Q (.panic c) a w → Q (.panic c) a' w) :
    ∀ (rest : List (Nat × Cls)) (listed : Array Bool) (a : Act) (w : World), Closed ops listed → okL ops rest listed = true → (∀ x ∈ rest, x.1 < ops.size) →
      (∀ k c, (k, c) ∈ rest → (qt k = true ↔ c ≠ 2)) → (∀ k, (k, 1) ∈ rest → ∀ j, waitsT ops ops.size j k = false → j ≠ k → j < ops.size → ns j = true) →
      (∀ a w, R a w → wpAnyE P ops Q S qt ns n (setL listed rest) a w) → wpY P ops Q S ns R (beside ops rest) a w → wpAnyE P ops Q S qt ns (rest.length + n) listed a w
  | [], listed, a, w, _, _, _, _, _, hR, h => by
    have := hR a w h
    simpa [setL] using this
  | (k, c) :: rest, listed, a, w, hcl, hB, hl, hqt, hns, hR, h => by
    simp only [okL, Bool.and_eq_true] at hB
    obtain ⟨hB1, hB2⟩ := hB
    have hi : k < ops.size := hl (k, c) (by simp)
    have ho : ops[k]? = some ops[k] := Array.getElem?_eq_getElem hi
    have hb : beside ops ((k, c) :: rest) = (k, c, ops[k]) :: beside ops rest := by simp [beside, ho]
    have ih := fun listed' a w hcl' hB' hR' h' => wpAnyE_list (R := R) (n := n) hsel hQ rest listed' a w hcl' hB' (fun x hx => hl x (by simp [hx])) (fun k c hk => hqt k c (by simp [hk])) (fun k hk => hns k (by simp [hk])) hR' h'
    rw [hb] at h
    simp only [wpY] at h
    have hlen : ((k, c) :: rest).length + n = (rest.length + n) + 1 := by simp; omega
    rw [hlen]
    by_cases hc : c = 2
    · subst hc
      simp only [beq_self_eq_true, if_true] at hB1
      have hr : Region.ready .any ops listed = [k] := by simpa using hB1
      simp only [if_true] at h
      have hcl2 := closed_ready hcl (i := k) (by rw [hr]; simp)
      refine ⟨fun h0 => (by rw [hr] at h0; cases h0), fun i hi' => ?_⟩
      rw [hr] at hi'
      obtain rfl : i = k := by simpa using hi'
      have hbh : ∀ w', (ns i = true → S w') → behind S qt ns i w w' := fun w' hs => by
        unfold behind
        rw [if_neg (fun hq => (hqt i 2 (by simp)).1 hq rfl)]
        exact hs
      unfold wpOp
      simp only [ho]
      split
      · rename_i hw
        rw [if_pos hw] at h
        exact .inl (Oper.wp_mono (fun a' w' h' => ⟨hbh w' h'.1, ih _ a' w' hcl2 hB2 hR h'.2⟩) h)
      · rename_i hw
        rw [if_neg hw] at h
        exact ⟨hbh w h.1, ih _ _ w hcl2 hB2 hR h.2⟩
    · rw [if_neg (by simpa using hc)] at hB1
      simp only [Bool.and_eq_true] at hB1
      rw [if_neg hc] at h
      obtain ⟨v, hy, hk⟩ := h
      have hrdy : k ∈ Region.ready .any ops listed := by simpa using hB1.1
      have hrest := ih _ _ w (closed_ready hcl hrdy) hB2 hR hk
      by_cases h1 : c = 1
      · subst h1
        rw [if_pos rfl] at hy
        exact wpAnyE_first ho (Region.noSelect_spec hsel) (fun c a w => hQ c _ _ w) true ((hqt k 1 (by simp)).2 hc) (fun _ => hns k (by simp)) (rest.length + n) listed a w hcl (Region.free_spec ho hB1.2) hrdy
          (hy.1.imp (fun ⟨p, q⟩ => ⟨p, fun w' hw' => q w' (hw' rfl)⟩) id) (fun _ => hy.2) hrest
      · rw [if_neg h1] at hy
        exact wpAnyE_first ho (Region.noSelect_spec hsel) (fun c a w => hQ c _ _ w) false ((hqt k c (by simp)).2 hc) (fun h => by cases h) (rest.length + n) listed a w hcl (Region.free_spec ho hB1.2) hrdy
          (hy.imp (fun ⟨p, q⟩ => ⟨p, fun w' _ => q w'⟩) id) (fun h => by cases h) hrest

theorem wpAnyE_pl {qs ls : List Nat} (hsel : Region.noSelect ops = true) (hQ : ∀ c a a' w, Q (.panic c) a w → Q (.panic c) a' w) (p : Pl) :
    ∀ (n : Nat) (listed : Array Bool) (a : Act) (w : World), Closed ops listed → okPl ops qs ls p n listed = true →
      wpPl P ops Q S (fun j => ls.any fun k => k != j && !waitsT ops ops.size j k) p a w → wpAnyE P ops Q S (fun k => qs.contains k) (fun j => ls.any fun k => k != j && !waitsT ops ops.size j k) n listed a w := by
  have hq : ∀ l, chkL qs ls l = true → ∀ k c, (k, c) ∈ l → (qs.contains k = true ↔ c ≠ 2) := fun l hl k c hk => by
    have := List.all_eq_true.1 hl (k, c) hk
    simp only [Bool.and_eq_true, beq_iff_eq] at this
    rw [← this.1]; simp
  have hn : ∀ l, chkL qs ls l = true → ∀ k, (k, 1) ∈ l → ∀ j, waitsT ops ops.size j k = false → j ≠ k → j < ops.size → (ls.any fun k => k != j && !waitsT ops ops.size j k) = true := fun l hl k hk j hw hjk _ => by
    have := List.all_eq_true.1 hl (k, 1) hk
    simp only [Bool.and_eq_true] at this
    have h2 : ls.contains k = true := by simpa using this.2
    rw [List.any_eq_true]
    exact ⟨k, by simpa using h2, by rw [hw]; simp [Ne.symm hjk]⟩
  induction p with
  | fin l =>
    intro n listed a w hcl hB h
    simp only [okPl, Bool.and_eq_true, beq_iff_eq] at hB
    obtain ⟨⟨⟨⟨rfl, hc⟩, hL⟩, he⟩, hlt⟩ := hB
    have := wpAnyE_list (P := P) (Q := Q) (S := S) (qt := fun k => qs.contains k) (ns := fun j => ls.any fun k => k != j && !waitsT ops ops.size j k) (R := fun a w => Q .normal a w) (n := 0) hsel hQ l listed a w hcl hL (by simpa [List.all_eq_true] using hlt) (hq l hc) (hn l hc)
      (fun a w h => ⟨by simpa using he, h⟩) h
    simpa using this
  | fork l i r j s ihr ihs =>
    intro n listed a w hcl hB h
    simp only [okPl, Bool.and_eq_true, beq_iff_eq, decide_eq_true_eq, Bool.not_eq_true'] at hB
    obtain ⟨⟨⟨⟨⟨⟨⟨⟨hlen, hc⟩, hL⟩, hlt⟩, hrd⟩, hqi⟩, hqj⟩, hr⟩, hs⟩ := hB
    obtain ⟨m, rfl⟩ : ∃ m, n = l.length + (m + 1) := ⟨n - l.length - 1, by omega⟩
    have em : l.length + (m + 1) - l.length - 1 = m := by omega
    rw [em] at hr hs
    have hcl2 := closed_setL l listed hcl hL
    refine wpAnyE_list (P := P) (Q := Q) (S := S) (qt := fun k => qs.contains k) (ns := fun j => ls.any fun k => k != j && !waitsT ops ops.size j k) (n := m + 1) hsel hQ l listed a w hcl hL (by simpa [List.all_eq_true] using hlt) (hq l hc) (hn l hc) (fun a w hR => ?_) h
    refine ⟨fun h0 => (by rw [hrd] at h0; cases h0), fun k hk => ?_⟩
    have hcl3 := closed_ready hcl2 hk
    rw [hrd] at hk
    simp only [List.mem_cons, List.not_mem_nil, or_false] at hk
    rcases hk with rfl | rfl
    · refine wpOp_mono (fun a' w' h' => ⟨?_, ihr m _ a' w' hcl3 hr h'.2⟩) hR.1
      unfold behind
      rw [if_neg (by simp only [hqi]; simp)]
      exact h'.1
    · refine wpOp_mono (fun a' w' h' => ⟨?_, ihs m _ a' w' hcl3 hs h'.2⟩) hR.2
      unfold behind
      rw [if_neg (by simp only [hqj]; simp)]
      exact h'.1

/-- A REGION THAT DRAWS ITS ORDER, BY A PLAN. -/
theorem wp_region_Pl {id : Nat} {l : List Oper} {a : Act} {w : World} (S : World → Prop) (qs ls : List Nat) (p : Pl) (hm : P.follows .mixedOrders = true) (hsel : Region.noSelect l.toArray = true)
    (hB : okPl l.toArray qs ls p l.toArray.size (Array.replicate l.toArray.size false) = true)
    (h : ∀ K : Act → World → Prop, (∀ a w, Q .normal a w → K a w) → wpPl P l.toArray (OnlyN K) S (fun j => ls.any fun k => k != j && !waitsT l.toArray l.toArray.size j k) p a w.drew) : (Code.region id l.toArray true).wp P Q a w := by
  refine Code.wp_mono (Q := OnlyN fun a w => Q .normal a w) (fun e a w hq => by cases e <;> first | exact hq | exact hq.elim) (wp_region_any hm ?_)
  have hcl : Closed l.toArray (Array.replicate l.toArray.size false) := fun m o hm => by rw [getD_replicate_false] at hm; cases hm
  exact wpAny_of_E _ _ _ _ (wpAnyE_pl (P := P) (Q := OnlyN fun a w => Q .normal a w) (S := S) hsel (fun c a a' w h => h) p _ _ a w.drew hcl hB (h _ (fun _ _ h => h)))

/-! ### the steps -/
variable {ns : Nat → Bool} {R : Act → World → Prop} {rest : List (Nat × Cls × Oper)} {a : Act} {w : World} {i : Nat} {o : Oper}
theorem wpY_nil (h : R a w) : wpY P ops Q S ns R [] a w := h
theorem wpY_w (v : Value) (hy : Yields P ops o v a) (h : wpY P ops Q S ns R rest (a.put o.dst v) w) : wpY P ops Q S ns R ((i, 0, o) :: rest) a w := by
  simp only [wpY]
  exact ⟨v, by simpa using hy, h⟩
theorem wpY_l (v : Value) (hS : S w) (hy : YieldsIf P ops S o v a) (h : wpY P ops Q S ns R rest (a.put o.dst v) w) : wpY P ops Q S ns R ((i, 1, o) :: rest) a w := by
  simp only [wpY]
  exact ⟨v, by simpa using ⟨hy, hS⟩, h⟩
/-- Nothing is asked of the world behind it. -/
theorem wpY_e (hn : ns i = false)
    (h : ∀ K : Act → World → Prop, (∀ a w, wpY P ops Q S ns R rest a w → K a w) → if Region.wanted o (yielded ops a.tmps) = true then Oper.wp P o a w K Q else K (a.put o.dst undef) w) : wpY P ops Q S ns R ((i, 2, o) :: rest) a w := by
  have := h (fun a' w' => (ns i = true → S w') ∧ wpY P ops Q S ns R rest a' w') (fun a w h2 => ⟨fun h => absurd h (by rw [hn]; simp), h2⟩)
  simpa only [wpY, if_true] using this
theorem wpY_es
    (h : ∀ K : Act → World → Prop, (∀ a w, S w → wpY P ops Q S ns R rest a w → K a w) → if Region.wanted o (yielded ops a.tmps) = true then Oper.wp P o a w K Q else K (a.put o.dst undef) w) : wpY P ops Q S ns R ((i, 2, o) :: rest) a w := by
  have := h (fun a' w' => (ns i = true → S w') ∧ wpY P ops Q S ns R rest a' w') (fun a w h1 h2 => ⟨fun _ => h1, h2⟩)
  simpa only [wpY, if_true] using this
/-- One of the two comes first: nothing is asked of the world behind it. -/
theorem wpOp_e {H : Act → World → Prop} (ho : ops[i]? = some o) (hn : ns i = false)
    (h : ∀ K : Act → World → Prop, (∀ a w, H a w → K a w) → if Region.wanted o (yielded ops a.tmps) = true then Oper.wp P o a w K Q else K (a.put o.dst undef) w) :
    wpOp P ops Q i (fun a' w' => (ns i = true → S w') ∧ H a' w') a w := by
  have h2 := h (fun a' w' => (ns i = true → S w') ∧ H a' w') (fun a w h2 => ⟨fun h => absurd h (by rw [hn]; simp), h2⟩)
  unfold wpOp
  simp only [ho]
  split
  · rename_i hw
    rw [if_pos hw] at h2
    exact .inl h2
  · rename_i hw
    rw [if_neg hw] at h2
    exact h2
theorem wpOp_c {C : World → Prop} {H : Act → World → Prop} (hC : ∀ w, C w) (ho : ops[i]? = some o)
    (h : ∀ K : Act → World → Prop, (∀ a w, H a w → K a w) → if Region.wanted o (yielded ops a.tmps) = true then Oper.wp P o a w K Q else K (a.put o.dst undef) w) :
    wpOp P ops Q i (fun a' w' => C w' ∧ H a' w') a w := by
  have h2 := h (fun a' w' => C w' ∧ H a' w') (fun a w h2 => ⟨hC w, h2⟩)
  unfold wpOp
  simp only [ho]
  split
  · rename_i hw
    rw [if_pos hw] at h2
    exact .inl h2
  · rename_i hw
    rw [if_neg hw] at h2
    exact h2
theorem wpOp_cs {C : World → Prop} {H : Act → World → Prop} (ho : ops[i]? = some o)
    (h : ∀ K : Act → World → Prop, (∀ a w, C w → H a w → K a w) → if Region.wanted o (yielded ops a.tmps) = true then Oper.wp P o a w K Q else K (a.put o.dst undef) w) :
    wpOp P ops Q i (fun a' w' => C w' ∧ H a' w') a w := by
  have h2 := h (fun a' w' => C w' ∧ H a' w') (fun a w h1 h2 => ⟨h1, h2⟩)
  unfold wpOp
  simp only [ho]
  split
  · rename_i hw
    rw [if_pos hw] at h2
    exact .inl h2
  · rename_i hw
    rw [if_neg hw] at h2
    exact h2
theorem wpOp_es {H : Act → World → Prop} (ho : ops[i]? = some o)
    (h : ∀ K : Act → World → Prop, (∀ a w, S w → H a w → K a w) → if Region.wanted o (yielded ops a.tmps) = true then Oper.wp P o a w K Q else K (a.put o.dst undef) w) :
    wpOp P ops Q i (fun a' w' => (ns i = true → S w') ∧ H a' w') a w := by
  have h2 := h (fun a' w' => (ns i = true → S w') ∧ H a' w') (fun a w h1 h2 => ⟨fun _ => h1, h2⟩)
  unfold wpOp
  simp only [ho]
  split
  · rename_i hw
    rw [if_pos hw] at h2
    exact .inl h2
  · rename_i hw
    rw [if_neg hw] at h2
    exact h2
end
end Go.Proofs.Ytlkffnmmphehdaa
