/-
  Two elements told apart: every field asked.
-/
import Derived.Test.YthhhhjllpejpgaaRefBefore
import Derived.Test.YthhhhjllpejpgaaKitSyms
import Derived.Test.YthhhhjllpejpgaaLeafElem
namespace Go.Proofs.Ythhhhjllpejpgaa
open Go.RowKit
theorem Elem.ext' : ∀ {x y : Elem}, x.id = y.id → x.attr = y.attr → x.value = y.value → x.acc = y.acc → x.goal = y.goal → x.tag = y.tag → x = y
  | ⟨_, _, _, _, _, _⟩, ⟨_, _, _, _, _, _⟩, rfl, rfl, rfl, rfl, rfl, rfl => rfl
set_option maxRecDepth 100000 in
set_option maxHeartbeats 4000000 in
theorem neq_elem (x y : Elem) (W : World) : (binOp .neq 72 (.agg #[.int .i64 x.id.kind, .string x.id.text, .int .i64 x.id.n, .int .i64 x.attr.kind, .string x.attr.text, .int .i64 x.attr.n, .int .i64 x.value.kind, .string x.value.text, .int .i64 x.value.n, .bool x.acc, .bool x.goal, .int .i64 x.tag]) (.agg #[.int .i64 y.id.kind, .string y.id.text, .int .i64 y.id.n, .int .i64 y.attr.kind, .string y.attr.text, .int .i64 y.attr.n, .int .i64 y.value.kind, .string y.value.text, .int .i64 y.value.n, .bool y.acc, .bool y.goal, .int .i64 y.tag])).run Try.prog W = .ok (.bool (!decide (x = y))) W := by
  rw [run_neq_struct]
  go_simp
  by_cases h : x = y
  · subst h; simp
  · rw [decide_eq_false h]
    have hs : ∀ a b : Sym, a.kind = b.kind → a.text.toList = b.text.toList → a.n = b.n → a = b := fun a b h1 h2 h3 => Sym.ext' h1 (toList_inj h2) h3
    by_cases e0 : x.id.kind = y.id.kind
    case neg => rw [if_neg e0]; rfl
    rw [if_pos e0]
    by_cases e1 : x.id.text.toList = y.id.text.toList
    case neg => rw [if_neg e1]; rfl
    rw [if_pos e1]
    by_cases e2 : x.id.n = y.id.n
    case neg => rw [if_neg e2]; rfl
    rw [if_pos e2]
    by_cases e3 : x.attr.kind = y.attr.kind
    case neg => rw [if_neg e3]; rfl
    rw [if_pos e3]
    by_cases e4 : x.attr.text.toList = y.attr.text.toList
    case neg => rw [if_neg e4]; rfl
    rw [if_pos e4]
    by_cases e5 : x.attr.n = y.attr.n
    case neg => rw [if_neg e5]; rfl
    rw [if_pos e5]
    by_cases e6 : x.value.kind = y.value.kind
    case neg => rw [if_neg e6]; rfl
    rw [if_pos e6]
    by_cases e7 : x.value.text.toList = y.value.text.toList
    case neg => rw [if_neg e7]; rfl
    rw [if_pos e7]
    by_cases e8 : x.value.n = y.value.n
    case neg => rw [if_neg e8]; rfl
    rw [if_pos e8]
    by_cases e9 : x.acc = y.acc
    case neg => rw [if_neg e9]; rfl
    rw [if_pos e9]
    by_cases e10 : x.goal = y.goal
    case neg => rw [if_neg e10]; rfl
    rw [if_pos e10]
    by_cases e11 : x.tag = y.tag
    case neg => rw [if_neg e11]; rfl
    rw [if_pos e11]
    exact absurd (Elem.ext' (hs _ _ e0 e1 e2) (hs _ _ e3 e4 e5) (hs _ _ e6 e7 e8) e9 e10 e11) h
theorem elem_rd {w : World} {A : Option Addr} {c k : Nat} {l : List Elem} (h : RowRd w 12 Elem.cells A c l) (hk : k < l.length) : ∃ g off, A = some ⟨g, off, none⟩ ∧ g < w.heap.size ∧ w.cell? ⟨g, off + k * 12, none⟩ = some (.int .i64 l[k].id.kind) ∧ w.cell? ⟨g, off + k * 12 + 1, none⟩ = some (.string l[k].id.text) ∧ w.cell? ⟨g, off + k * 12 + 2, none⟩ = some (.int .i64 l[k].id.n) ∧ w.cell? ⟨g, off + k * 12 + 3, none⟩ = some (.int .i64 l[k].attr.kind) ∧ w.cell? ⟨g, off + k * 12 + 4, none⟩ = some (.string l[k].attr.text) ∧ w.cell? ⟨g, off + k * 12 + 5, none⟩ = some (.int .i64 l[k].attr.n) ∧ w.cell? ⟨g, off + k * 12 + 6, none⟩ = some (.int .i64 l[k].value.kind) ∧ w.cell? ⟨g, off + k * 12 + 7, none⟩ = some (.string l[k].value.text) ∧ w.cell? ⟨g, off + k * 12 + 8, none⟩ = some (.int .i64 l[k].value.n) ∧ w.cell? ⟨g, off + k * 12 + 9, none⟩ = some (.bool l[k].acc) ∧ w.cell? ⟨g, off + k * 12 + 10, none⟩ = some (.bool l[k].goal) ∧ w.cell? ⟨g, off + k * 12 + 11, none⟩ = some (.int .i64 l[k].tag) := by
  obtain ⟨g, off, hA, hg, hc⟩ := h.at_ hk
  exact ⟨g, off, hA, hg, by simpa using hc 0 _ rfl, by simpa using hc 1 _ rfl, by simpa using hc 2 _ rfl, by simpa using hc 3 _ rfl, by simpa using hc 4 _ rfl, by simpa using hc 5 _ rfl, by simpa using hc 6 _ rfl, by simpa using hc 7 _ rfl, by simpa using hc 8 _ rfl, by simpa using hc 9 _ rfl, by simpa using hc 10 _ rfl, by simpa using hc 11 _ rfl⟩
theorem take_snocE {α : Type} {l : List α} {i : Nat} (h : i < l.length) : l.take (i + 1) = l.take i ++ [l[i]] := by
  rw [List.take_add_one, List.getElem?_eq_getElem h]; rfl
end Go.Proofs.Ythhhhjllpejpgaa
