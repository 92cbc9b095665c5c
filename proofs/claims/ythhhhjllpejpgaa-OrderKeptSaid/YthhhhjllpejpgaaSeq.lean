/-
  A sequence that a caller holds: what ranging over it needs (Seq).
-/
import Derived.Test.YthhhhjllpejpgaaIterBase
namespace Go.Proofs.Ythhhhjllpejpgaa
open Go.RowKit Go.Shelf
attribute [local go_sem] Oper.semAt_some
/-- In every world that is w with new memory beside it, the function value gf, lb yields xs. -/
structure Seq {α : Type} (gf : Nat) (lb : Array Value) (encs : α → Array Value) (xs : List α) (w : World) (start Kp : World → World → Prop) : Prop where
  enter : ∀ args w, (callFunc gf args).run Try.prog w = .ok (.enter gf args) w
  iter : ∀ W, Below w.heap.size w W → Iter Try.prog gf lb encs xs W start (fun X Y => Kp X Y ∧ KeepsFrom W.heap.size X Y)
  trans : ∀ A B C, Kp A B → Kp B C → Kp A C
  keep : ∀ A B, Priv w.heap.size A B → Kp A B
  below : ∀ A B, Below w.heap.size A B → Kp A B
  mods : ∀ W W1, start W W1 → Fr (· < w.heap.size) W W1
theorem keepsFrom_of_fr {B : Nat} {X Y : World} (h : Fr (· < B) X Y) : KeepsFrom B X Y := ⟨h.size, fun k _ hB hk _ => (h.block k (Array.getElem?_eq_some_iff.1 hk).1 (by omega)).trans hk⟩
theorem keepsFrom_of_below {B C : Nat} {X Y : World} (h : Below B X Y) (hs : X.heap.size ≤ B) : KeepsFrom C X Y := ⟨h.size, fun k _ _ hk _ => (h.block k (Nat.lt_of_lt_of_le (Array.getElem?_eq_some_iff.1 hk).1 hs)).trans hk⟩
theorem owns_base {W : World} {base base' : Nat} {e : TypeId} {size : Nat} {v : Value} {n : Nat} {xs : List Value} (h : W.ownsRow base e size v n xs) (hb : base' ≤ base) : W.ownsRow base' e size v n xs :=
  ⟨h.1, h.2.imp id fun ⟨g, cap, cur, hv, h0, hg, hr⟩ => ⟨g, cap, cur, hv, Nat.le_trans hb h0, hg, hr⟩⟩
theorem owns_form {W : World} {base : Nat} {e : TypeId} {size : Nat} {v : Value} {n : Nat} {xs : List Value} (h : W.ownsRow base e size v n xs) : ∃ A c, v = .slice A n c ∧ AIn A (base ≤ ·) := by
  rcases h.2 with ⟨rfl, rfl⟩ | ⟨g, cap, cur, rfl, h0, _⟩
  · exact ⟨none, 0, rfl, AIn.none_ _⟩
  · exact ⟨_, cap, rfl, fun a e => by cases e; exact h0⟩
theorem owns_block {W : World} {base : Nat} {e : TypeId} {size : Nat} {v : Value} {n : Nat} {xs : List Value} (h : W.ownsRow base e size v n xs) : ∀ k, v.ownBlock = some k → base ≤ k := by
  rcases h.2 with ⟨rfl, rfl⟩ | ⟨g, cap, cur, rfl, h0, _⟩
  · intro k hk; cases hk
  · intro k hk; cases hk; exact h0
theorem owns_below {W W' : World} {base : Nat} {e : TypeId} {size : Nat} {v : Value} {n : Nat} {xs : List Value} (h : W.ownsRow base e size v n xs) (hb : Below W.heap.size W W') : W'.ownsRow base e size v n xs :=
  ⟨h.1, h.2.imp id fun ⟨g, cap, cur, hv, h0, hg, hr⟩ => ⟨g, cap, cur, hv, h0, Blk.new_ (t := e) hg hb, hr⟩⟩
theorem KeepsFrom.grown_ {B : Nat} {X Y Z : World} {row : Option Nat} (h : KeepsFrom B X Y) (hg : Y.grownBy Z row) (hr : ∀ k, row = some k → k < X.heap.size → cellsAt X k) : KeepsFrom B X Z :=
  ⟨Nat.le_trans h.size hg.size, fun k o hB hk hc => by
    have hlt := (Array.getElem?_eq_some_iff.1 hk).1
    refine (hg.block k (Nat.lt_of_lt_of_le hlt h.size) (fun e => ?_)).trans (h.same k o hB hk hc)
    obtain ⟨c, t, f, hh⟩ := hr k e.symm hlt
    rw [hh] at hk
    cases hk
    cases hc⟩
theorem owns_cells {W : World} {base : Nat} {e : TypeId} {size : Nat} {v : Value} {n : Nat} {xs : List Value} (h : W.ownsRow base e size v n xs) : ∀ k, v.ownBlock = some k → cellsAt W k := by
  rcases h.2 with ⟨rfl, rfl⟩ | ⟨g, cap, cur, rfl, h0, hg, _⟩
  · intro k hk; cases hk
  · intro k hk; cases hk; exact ⟨_, _, _, hg⟩
theorem owns_nil (W : World) (base : Nat) (e : TypeId) (size : Nat) : W.ownsRow base e size (.slice none 0 0) 0 [] := ⟨by simp, .inl ⟨rfl, rfl⟩⟩
theorem Seq.new_ {α : Type} {gf : Nat} {lb : Array Value} {encs : α → Array Value} {xs : List α} {w w' : World} {start Kp : World → World → Prop} (h : Seq gf lb encs xs w start Kp) (hb : Below w.heap.size w w') : Seq gf lb encs xs w' start Kp :=
  ⟨h.enter, fun W hW => h.iter W (hb.trans (hW.mono hb.size)), h.trans, fun A B hp => h.keep A B (hp.mono hb.size), fun A B hp => h.below A B (hp.mono hb.size), fun W W1 hs => (h.mods W W1 hs).mono (fun _ _ hk => Nat.lt_of_lt_of_le hk hb.size)⟩
end Go.Proofs.Ythhhhjllpejpgaa
