/-
  What stands while the law runs: the sets, and rows that lie under protection.
-/
import Derived.Test.YthhhhjllpejpgaaMeetElem
import Derived.Test.YthhhhjllpejpgaaJoinElem
import Derived.Test.YthhhhjllpejpgaaWorkElem
import Derived.Test.YthhhhjllpejpgaaMiscElem
import Derived.Test.YthhhhjllpejpgaaNewElem
namespace Go.Proofs.Ythhhhjllpejpgaa
open Go.RowKit
abbrev ERow := Option Addr × Nat × List Elem
def StE (w W : World) (S : Nat → Option (List Elem)) (R : List ERow) : Prop :=
  ∃ D σ, ElemSets D W S σ ∧ (∀ j, j < w.heap.size → D j) ∧ Below w.heap.size w W ∧ ∀ r ∈ R, RowRd W 12 Elem.cells r.1 r.2.1 r.2.2 ∧ AIn r.1 D
section
variable {w W W' : World} {S : Nat → Option (List Elem)} {R : List ERow}
theorem StE.start (w : World) : StE w w (fun _ => none) [] := ⟨_, _, Sets.start _ _ _ _ _ w, fun _ h => h, Below.refl _ _, fun r hr => by simp at hr⟩
theorem StE.bel (h : StE w W S R) : Below w.heap.size w W := by obtain ⟨D, σ, _, _, h3, _⟩ := h; exact h3
theorem StE.rd (h : StE w W S R) {A : Option Addr} {c : Nat} {l : List Elem} (hr : (A, c, l) ∈ R) : RowRd W 12 Elem.cells A c l := by obtain ⟨D, σ, _, _, _, h4⟩ := h; exact (h4 _ hr).1
theorem StE.quiet (h : StE w W S R) (hb : Below W.heap.size W W') : StE w W' S R := by
  obtain ⟨D, σ, h1, h2, h3, h4⟩ := h
  exact ⟨D, σ, h1.below hb, h2, h3.trans (hb.mono h3.size), fun r hr => ⟨(h4 r hr).1.new_ hb, (h4 r hr).2⟩⟩
theorem StE.row (h : StE w W S R) (hb : Below W.heap.size W W') {A : Option Addr} {c : Nat} {l : List Elem} (hr : RowRd W' 12 Elem.cells A c l) (hA : AIn A (fun k => W.heap.size ≤ k ∧ k < W'.heap.size)) : StE w W' S ((A, c, l) :: R) := by
  obtain ⟨D, σ, h1, h2, h3, h4⟩ := h
  refine ⟨_, σ, h1.protect hb, fun j hj => .inl (h2 j hj), h3.trans (hb.mono h3.size), fun r hr' => ?_⟩
  rcases List.mem_cons.1 hr' with rfl | hr'
  · exact ⟨hr, hA.mono (fun k hk => .inr hk)⟩
  · exact ⟨(h4 r hr').1.new_ hb, (h4 r hr').2.mono (fun k hk => .inl hk)⟩
theorem StE.sub {R' : List ERow} (h : StE w W S R) (hs : ∀ r ∈ R', r ∈ R) : StE w W S R' := by
  obtain ⟨D, σ, h1, h2, h3, h4⟩ := h
  exact ⟨D, σ, h1, h2, h3, fun r hr => h4 r (hs r hr)⟩
/-- Behind a maker of a set. -/
def Made (w W : World) (S : Nat → Option (List Elem)) (R : List ERow) (l : List Elem) (e : Ending) (W' : World) : Prop :=
  ∃ k S', e = .returned (.pointer (some ⟨k, 0, none⟩)) ∧ S' k = some l ∧ (∀ b m, S b = some m → S' b = some m) ∧ Srt cmpElem l ∧ StE w W' S' R
theorem StE.made {D : Nat → Prop} {σ : Nat → St} {l : List Elem} {e : Ending} (h1 : ElemSets D W S σ) (h2 : ∀ j, j < w.heap.size → D j) (h3 : Below w.heap.size w W) (h4 : ∀ r ∈ R, RowRd W 12 Elem.cells r.1 r.2.1 r.2.2 ∧ AIn r.1 D) (hm : MadeElem D W S σ l e W') : Made w W S R l e W' := by
  obtain ⟨k, he, hk, hne, σ', hs, hF⟩ := hm
  exact ⟨k, _, he, upd_same _ _ _, fun b m hb => by rw [upd_ne _ _ (hne b m hb)]; exact hb, hs.srt k l (upd_same _ _ _), D, σ', hs, h2, h3.trans (hF.below h3.size (fun j hj hd => hd (h2 j hj))), fun r hr => ⟨(h4 r hr).1.fr hF ((h4 r hr).2.mono (fun _ hk hn => hn hk)), (h4 r hr).2⟩⟩
theorem StE.new_ (h : StE w W S R) (A : Option Addr) (c : Nat) (xs : List Elem) (hrd : RowRd W 12 Elem.cells A c xs) (hl : (xs.length : Int) ≤ 10000000) :
    Calls Try.prog 40 #[.slice A xs.length c] W (Made w W S R (puts cmpElem [] xs)) := by
  obtain ⟨D, σ, h1, h2, h3, h4⟩ := h
  refine (sNew_Elem A c xs h1 hrd hl).mono ?_
  rintro e W' ⟨hm, _⟩
  exact StE.made h1 h2 h3 h4 hm
theorem StE.union (h : StE w W S R) {a b : Nat} {l m : List Elem} (ha : S a = some l) (hb : S b = some m) (hl : (l.length : Int) + m.length ≤ 1000000) :
    Calls Try.prog 45 #[.pointer (some ⟨a, 0, none⟩), .pointer (some ⟨b, 0, none⟩)] W (Made w W S R (puts cmpElem l m)) := by
  obtain ⟨D, σ, h1, h2, h3, h4⟩ := h
  refine (sUnion_Elem h1 ha hb hl).mono ?_
  intro e W' hm
  exact StE.made h1 h2 h3 h4 hm
theorem StE.meet (h : StE w W S R) {a b : Nat} {l m : List Elem} (ha : S a = some l) (hb : S b = some m) (hl : (l.length : Int) ≤ 1000000) (hl2 : (m.length : Int) ≤ 1000000) :
    Calls Try.prog 46 #[.pointer (some ⟨a, 0, none⟩), .pointer (some ⟨b, 0, none⟩)] W (Made w W S R (l.filter fun x => has cmpElem m x)) := by
  obtain ⟨D, σ, h1, h2, h3, h4⟩ := h
  refine (sMeet_Elem h1 ha hb hl hl2).mono ?_
  intro e W' hm
  exact StE.made h1 h2 h3 h4 hm
/-- The sequence of a set, told: a row that is laid under protection. -/
theorem StE.list (h : StE w W S R) {b : Nat} {l : List Elem} (kb : Nat) (hb : S b = some l) (hbox : W.cell? ⟨kb, 0, none⟩ = some (.pointer (some ⟨b, 0, none⟩))) (hl : (l.length : Int) ≤ 100000000) :
    Calls Try.prog 43 #[.func (.func 66) #[] #[.pointer (some ⟨kb, 0, none⟩)]] W fun e W' => ∃ A c, e = .returned (.slice A l.length c) ∧ RowRd W' 12 Elem.cells A c l ∧ StE w W' S R := by
  obtain ⟨D, σ, h1, h2, h3, h4⟩ := h
  refine (sSeq_Elem kb h1 hb hbox hl).mono ?_
  rintro e W' ⟨A, c, he, hr, hA, ⟨σ', hs⟩, hF, _⟩
  exact ⟨A, c, he, hr, _, σ', hs, fun j hj => .inl (h2 j hj), h3.trans (hF.below h3.size (fun j hj hd => hd (h2 j hj))), fun r hr => ⟨(h4 r hr).1.fr hF ((h4 r hr).2.mono (fun _ hk hn => hn hk)), (h4 r hr).2.mono (fun _ hk => .inl hk)⟩⟩
theorem StE.srt (h : StE w W S R) {b : Nat} {l : List Elem} (hb : S b = some l) : Srt cmpElem l := by
  obtain ⟨D, σ, h1, _⟩ := h
  exact h1.srt b l hb
theorem StE.get (h : StE w W S R) {b : Nat} {l : List Elem} (hb : S b = some l) (x y : Elem) (hl : (l.length : Int) ≤ 1000000000) (hh : has cmpElem l x = true) (hy : l[rank cmpElem l x]? = some y) :
    Calls Try.prog 49 #[.pointer (some ⟨b, 0, none⟩), .agg #[.int .i64 x.id.kind, .string x.id.text, .int .i64 x.id.n, .int .i64 x.attr.kind, .string x.attr.text, .int .i64 x.attr.n, .int .i64 x.value.kind, .string x.value.text, .int .i64 x.value.n, .bool x.acc, .bool x.goal, .int .i64 x.tag]] W fun e W' => e = .returned (.tuple #[.agg #[.int .i64 y.id.kind, .string y.id.text, .int .i64 y.id.n, .int .i64 y.attr.kind, .string y.attr.text, .int .i64 y.attr.n, .int .i64 y.value.kind, .string y.value.text, .int .i64 y.value.n, .bool y.acc, .bool y.goal, .int .i64 y.tag], .bool true]) ∧ Below W.heap.size W W' := by
  obtain ⟨D, σ, h1, _⟩ := h
  exact get_is_Elem b _ _ _ l x y W (h1.at_ b l hb) (h1.srt b l hb) hl hh hy
end
end Go.Proofs.Ythhhhjllpejpgaa
