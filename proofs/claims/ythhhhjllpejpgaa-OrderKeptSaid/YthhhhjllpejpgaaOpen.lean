/-
  The row's ends, over any program: a slice argument opened as a list; a law that answers true and leaves all that was there.
-/
import Derived.Test.YthhhhjllpejpgaaMem
import Derived.ProofKit
import Derived.Carry
import Derived.ChangeSame
import Derived.Deep.Slices
import Derived.Deep.Strs
namespace Go.Proofs.Ythhhhjllpejpgaa
open Go.RowKit Go.ChangeShapes Go.WideShapes Go.Deep

section
variable {H : Type} {enc : TypeId × Value → H} {P : Program}
theorem post_of_below {f : Func} {s : ChangeSpec} {apart fresh handsOn again : Bool} {W W' : World} {args : Array Value} {v : Value} {ds gs : List (DataW H)} {before pa pv : List MemPlace}
    (hW : DataW.Whole enc P f.params.toList s.vars apart W args.toList ds gs before)
    (hres : ∀ (b : Nat) (sp : Nat → Bool) (hd : Bool), DataW.TrodAll enc P W' b sp hd f.resultTypes.toList (v.resultList f.resultTypes.size) (s.fn H (ds ++ gs)).results [])
    (hargs : ∀ sp : Nat → Bool, (∀ p ∈ before, sp p.block = true) → DataW.TrodAll enc P W' 0 sp true f.params.toList args.toList (s.fn H (ds ++ gs)).args pa)
    (hvars : ∀ sp : Nat → Bool, (∀ p ∈ before, sp p.block = true) → DataW.TrodVars enc P W' sp s.vars (s.fn H (ds ++ gs)).vars pv)
    (hps : before = pa ++ pv) (hb : Below W.heap.size W W')
    (hok : ∀ (j : Nat) (t : TypeId) (r : Value), f.resultTypes[j]? = some t → (v.resultList f.resultTypes.size)[j]? = some r → Value.okWide P W' .any 0 t r) :
    s.post enc P f apart fresh handsOn again W args v W' := by
  have hlt : ∀ p ∈ before, p.block < W.heap.size := fun p hp => hW.lt p hp
  have hold : ∀ p ∈ before, (fun b => decide (b < W.heap.size)) p.block = true := fun p hp => by simpa using hlt p hp
  refine ⟨ds, gs, before, [], pa, pv, hW, hres _ _ _, hargs _ hold, hvars _ hold, World.keptBut_mono (fun p hp => ⟨hp, ?_⟩) (hb.frame (· ∈ before)), fun _ => ?_⟩
  · rw [hps, List.mem_append] at hp
    exact Or.inr hp
  · obtain ⟨_, _, _, _, _, hz, hn⟩ := hW
    refine ⟨hok, _, _, ([] ++ pa) ++ pv, ⟨[] ++ pa, pv, trodAll_append (hargs _ (fun _ _ => rfl)) (hres _ _ _), hvars _ (fun _ _ => rfl), rfl, ?_, ?_⟩, ?_⟩
    · intro b off hp
      have hin : MemPlace.cell b off ∈ before := by rw [hps]; simpa using hp
      rw [hb.frozen (hlt _ hin)]
      exact hz b off hin
    · intro ha
      have := hn ha
      rw [hps] at this
      simpa using this
    · intro p hp _
      rw [hps]
      simpa using hp
theorem trodAll_stays (hl : laidOutB P = true) {W W' : World} {sp : Nat → Bool} (hb : Below W.heap.size W W') : ∀ (ts : List TypeId) (vs : List Value) (ds : List (DataW H)) (ps : List MemPlace),
    (∀ t ∈ ts, P.readableRec t = true ∧ t < P.types.size) → DataW.TrodAll enc P W 0 (fun _ => true) true ts vs ds ps → (∀ p ∈ ps, p.block < W.heap.size) → (∀ p ∈ ps, sp p.block = true) → DataW.TrodAll enc P W' 0 sp true ts vs ds ps
  | [], [], [], ps, _, h, _, _ => h
  | t :: ts, v :: vs, d :: ds, ps, ht, ⟨p, q, h1, h2, he⟩, hlt, hsp => by
    subst he
    refine ⟨p, q, WideElems.Trod_stays hl (ht t (by simp)).1 (ht t (by simp)).2 h1 (fun x hx => hb.same (hlt x (by simp [hx]))) (fun x hx => hsp x (by simp [hx])), ?_, rfl⟩
    exact trodAll_stays hl hb ts vs ds q (fun t' h' => ht t' (by simp [h'])) h2 (fun x hx => hlt x (by simp [hx])) (fun x hx => hsp x (by simp [hx]))
  | [], _ :: _, _, _, _, h, _, _ => h.elim
  | [], [], _ :: _, _, _, h, _, _ => h.elim
  | _ :: _, [], _, _, _, h, _, _ => h.elim
  | _ :: _, _ :: _, [], _, _, h, _, _ => h.elim
/-- THE ROW's LAST STEP of a law: true; all that was there is as it was. -/
theorem post_true {f : Func} {s : ChangeSpec} {apart fresh handsOn again : Bool} {W W' : World} {args : Array Value} {ds gs : List (DataW H)} {before : List MemPlace} {tb : TypeId}
    (hl : laidOutB P = true) (hv : s.vars = []) (hW : DataW.Whole enc P f.params.toList s.vars apart W args.toList ds gs before) (hr : f.resultTypes = #[tb]) (htb : P.underlying tb = some .bool)
    (hp : ∀ t ∈ f.params.toList, P.readableRec t = true ∧ t < P.types.size) (h1 : (s.fn H (ds ++ gs)).results = [.lit (.bool true)]) (h2 : (s.fn H (ds ++ gs)).args = ds) (h3 : (s.fn H (ds ++ gs)).vars = [])
    (hb : Below W.heap.size W W') : s.post enc P f apart fresh handsOn again W args (.bool true) W' := by
  have hlt : ∀ p ∈ before, p.block < W.heap.size := fun p hp => hW.lt p hp
  have hW0 := hW
  obtain ⟨p, q, hA, hV, he, _⟩ := hW
  rw [hv] at hV
  have hq : q = [] := by cases gs <;> simp [DataW.TrodVars] at hV; exact hV
  subst hq
  rw [List.append_nil] at he
  subst he
  refine post_of_below (pa := before) (pv := []) hW0 (fun b sp hd => ?_) (fun sp hsp => ?_) (fun sp hsp => ?_) (by simp) hb ?_
  · rw [hr, h1]; exact trodAll_mk1 (shut_bool htb true)
  · rw [h2]; exact trodAll_stays hl hb _ _ _ _ hp hA hlt hsp
  · rw [hv, h3]; rfl
  · exact ok_one hr rfl (okWide_bool_mk htb true)
end

/-! ### arguments opened -/
/-- Values of type e read as an α, by these cells. -/
def Reads {α : Type} (P : Program) (e : TypeId) (size : Nat) (cells : α → List Value) : Prop :=
  P.cellsOf e = size ∧ ∀ (H : Type) (enc : TypeId × Value → H) (w : World) (base : Nat) (spare : Nat → Bool) (held : Bool) (n : Nat) (cs : List Value) (x : DataW H × List MemPlace),
    DataW.trod enc P w base spare held n e cs = some x → ∃ a : α, cs = cells a
theorem list_of {α : Type} {Q : Nat → α → Prop} : ∀ (n : Nat), (∀ i, i < n → ∃ a, Q i a) → ∃ l : List α, l.length = n ∧ ∀ i, (h : i < l.length) → Q i l[i]
  | 0, _ => ⟨[], rfl, fun i h => absurd h (by simp)⟩
  | n + 1, h => by
    obtain ⟨l, hl, hq⟩ := list_of n (fun i hi => h i (by omega))
    obtain ⟨a, ha⟩ := h n (by omega)
    refine ⟨l ++ [a], by simp [hl], fun i hi => ?_⟩
    by_cases hi' : i < l.length
    · rw [List.getElem_append_left hi']; exact hq i hi'
    · have : i = n := by simp at hi; omega
      subst this
      rw [List.getElem_append_right (by omega)]
      simpa [hl] using ha
theorem open_row {H : Type} {enc : TypeId × Value → H} {P : Program} {w : World} {r : Reach} {b0 base : Nat} {spare : Nat → Bool} {held : Bool} {α : Type} {t e : TypeId} {size : Nat} {cells : α → List Value} {v : Value} {d : DataW H} {ps : List MemPlace}
    (ht : P.underlying t = some (.slice e)) (h0 : 0 < size) (hr : Reads P e size cells) (hval : Value.okWide P w r b0 t v) (h : DataW.Trod enc P w base spare held t v d ps) :
    ∃ A c, ∃ l : List α, v = .slice A l.length c ∧ RowRd w size cells A c l := by
  obtain ⟨A, len, cap, rfl⟩ := okWide_slice ht hval
  obtain ⟨fuel, hf⟩ := h
  have hcs : (Value.slice A len cap).cells.toList = [.slice A len cap] := by simp [Value.cells]
  rw [hcs] at hf
  rcases open_slice ht hf with ⟨h1, _⟩ | ⟨a, len', cap', m, n, D, Pl, h1, _, hl, hm, hmm, _, hx⟩
  · simp at h1
    obtain ⟨rfl, rfl, rfl⟩ := h1
    exact ⟨none, 0, [], rfl, RowRd.nil _ _ _⟩
  · simp at h1
    obtain ⟨rfl, rfl, rfl⟩ := h1
    have hlm : len ≤ m := by rw [hmm]; split <;> omega
    obtain ⟨l, hll, hq⟩ := list_of (α := α) (Q := fun i x => ∀ j u, (cells x)[j]? = some u → w.cell? ((a.add (i * size)).add j) = some u) len (fun i hi => by
      obtain ⟨cs', c1, c2⟩ := hx i (by omega)
      obtain ⟨x, rfl⟩ := hr.2 H enc w base spare held n cs' _ c2
      obtain ⟨_, hlen, hcell⟩ := World.cells?_some c1
      rw [hr.1] at hcell hlen
      exact ⟨x, fun j u hu => (hcell j (by rw [← hlen]; exact (List.getElem?_eq_some_iff.1 hu).1)).trans hu⟩)
    subst hll
    refine ⟨some a, cap, l, rfl, hl, hm, fun hpos => ?_⟩
    obtain ⟨cs', c1, c2⟩ := hx 0 (by omega)
    obtain ⟨_, hlen, hcell⟩ := World.cells?_some c1
    rw [hr.1] at hlen hcell
    have hspot : a.spot = none := by
      have := hcell 0 h0
      rw [List.getElem?_eq_getElem (by omega)] at this
      have e2 : (a.add (0 * size)).add 0 = a := by simp [Addr.add]
      rw [e2] at this
      exact World.cell?_spot this
    obtain ⟨b, off, spot⟩ := a
    simp only at hspot
    subst hspot
    refine ⟨b, off, rfl, ?_, fun k hk j u hu => ?_⟩
    · have := hcell 0 h0
      rw [List.getElem?_eq_getElem (by omega)] at this
      have e2 : ((⟨b, off, none⟩ : Addr).add (0 * size)).add 0 = ⟨b, off, none⟩ := by simp [Addr.add]
      rw [e2] at this
      exact World.block_lt_of_cell? w _ this
    · have := hq k hk j u hu
      rwa [add_plain, add_plain] at this
theorem reads_int {P : Program} {e : TypeId} (he : P.underlying e = some (.int .i64)) (hc : P.cellsOf e = 1) : Reads P e 1 (fun n : Int => [Value.int .i64 n]) :=
  ⟨hc, fun H enc w base spare held n cs x h => by
    obtain ⟨k, rfl, _⟩ := DataW.trod_int he h
    exact ⟨k, rfl⟩⟩
end Go.Proofs.Ythhhhjllpejpgaa
