/-
  Several sets: what book-keeping leaves of them, and what is laid under protection.
-/
import Derived.Test.YthhhhjllpejpgaaSets
import Derived.Test.YthhhhjllpejpgaaSeq
namespace Go.Proofs.Ythhhhjllpejpgaa
open Go.RowKit Go.Shelf

section
variable {α : Type} {tSet tE size : Nat} {cells : α → List Value} {cmp : α → α → Int} {D D' : Nat → Prop} {w w' : World} {S : Nat → Option (List α)} {σ : Nat → St} {b b' : Nat} {l l' : List α}
theorem Sets.priv {B : Nat} (h : Sets tSet tE size cells cmp D w S σ) (hp : Priv B w w') : Sets tSet tE size cells cmp D w' S σ :=
  ⟨fun b l hb => (h.at_ b l hb).priv hp, h.srt, h.out, h.apart, fun k hk => Nat.lt_of_lt_of_le (h.low k hk) hp.size⟩
theorem Sets.keepsFrom (h : Sets tSet tE size cells cmp D w S σ) (hb : S b = some l) (hF : Fr (SetMod b (σ b).sn (σ b).A) w w') (B : Nat) : KeepsFrom B w w' :=
  KeepsFrom.of_fr hF (fun k hk _ => by
    have hB := h.at_ b l hb
    rcases hk with rfl | ⟨_, a, ha, rfl⟩
    · exact hB.blk.at_
    · exact owns_cells hB.row a.block (by rw [ha]; rfl)) B
theorem keepsFrom_refl (B : Nat) (w : World) : KeepsFrom B w w := KeepsFrom.of_fr (Fr.refl (fun _ => False) w) (fun _ h => h.elim) B
end

theorem Sets.guard {α : Type} {tSet tE size : Nat} {cells : α → List Value} {cmp : α → α → Int} {D : Nat → Prop} {w : World} {S : Nat → Option (List α)} {σ : Nat → St} (h : Sets tSet tE size cells cmp D w S σ) (P : Nat → Prop) (hP : ∀ b l, S b = some l → ¬ P b ∧ ((σ b).sn = false → AIn (σ b).A (fun k => ¬ P k))) (hl : ∀ k, P k → k < w.heap.size) :
    Sets tSet tE size cells cmp (fun k => D k ∨ P k) w S σ :=
  ⟨h.at_, h.srt, fun b l hb => ⟨fun hk => hk.elim (h.out b l hb).1 (hP b l hb).1, fun hs a ha hk => hk.elim ((h.out b l hb).2 hs a ha) ((hP b l hb).2 hs a ha)⟩, h.apart, fun k hk => hk.elim (h.low k) (hl k)⟩
end Go.Proofs.Ythhhhjllpejpgaa
