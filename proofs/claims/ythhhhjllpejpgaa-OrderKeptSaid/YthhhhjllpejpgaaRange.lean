/-
  A range over a function whose list is known: the iterator's contract (Iter), the statement's law, and a region that draws inside a round. Over any program.
-/
import Derived.Test.YthhhhjllpejpgaaEager
import Derived.RangeFuncNested
import Derived.RangeFuncBound
import Derived.RangeFuncCalls
import Derived.RangeFuncLeaves
import Derived.OrdersIn
import Derived.OwnWalkIn
import Derived.TacticsInMore
import Derived.LoopNIn
import Derived.LoopIn
import Derived.Shelf.Abstract
namespace Go.Proofs.Ythhhhjllpejpgaa
open Go.RowKit

def cellsAt (W : World) (k : Nat) : Prop := ∃ c e f, W.heap[k]? = some (.cells c e f)
/-- What an iterator and the book-keeping of loops do by themselves: new blocks; old blocks from B on that hold no cells. -/
structure Priv (B : Nat) (W W' : World) : Prop where
  os : W'.os = W.os
  tape : W'.tape = W.tape
  output : W'.output = W.output
  size : W.heap.size ≤ W'.heap.size
  block : ∀ k, k < W.heap.size → (k < B ∨ cellsAt W k) → W'.heap[k]? = W.heap[k]?
section
variable {B B' : Nat} {W W' X Y Z : World}
theorem Priv.refl (B : Nat) (W : World) : Priv B W W := ⟨rfl, rfl, rfl, Nat.le_refl _, fun _ _ _ => rfl⟩
theorem Priv.trans (h : Priv B X Y) (k : Priv B Y Z) : Priv B X Z :=
  ⟨k.os.trans h.os, k.tape.trans h.tape, k.output.trans h.output, Nat.le_trans h.size k.size, fun i hi hc => by
    have e := h.block i hi hc
    refine (k.block i (Nat.lt_of_lt_of_le hi h.size) (hc.imp id fun ⟨c, t, f, hh⟩ => ⟨c, t, f, e.trans hh⟩)).trans e⟩
theorem Priv.alloc (h : Priv B X Y) (o : Obj) : Priv B X (Y.alloc o) :=
  ⟨h.os, h.tape, h.output, Nat.le_trans h.size (by simp), fun k hk hc => (Below.heap_alloc Y o k (Nat.lt_of_lt_of_le hk h.size)).trans (h.block k hk hc)⟩
theorem Priv.drew (h : Priv B X Y) : Priv B X Y.drew := ⟨h.os, h.tape, h.output, h.size, h.block⟩
theorem Priv.putObj (h : Priv B X Y) {l : Nat} {o : Obj} (hl : B ≤ l) (ho : Y.heap[l]? = some o) (hc : o.isCells = false) (o' : Obj) : Priv B X (Y.putObj l o') :=
  ⟨h.os, h.tape, h.output, by simpa using h.size, fun k hk hk2 => by
    have e := h.block k hk hk2
    rw [World.putObj_heap_other, e]
    rintro rfl
    rcases hk2 with hk2 | ⟨c, t, f, hh⟩
    · omega
    · rw [e, hh] at ho
      cases ho
      cases hc⟩
theorem Priv.of_below (h : Below X.heap.size X Y) (B : Nat) : Priv B X Y := ⟨h.os, h.tape, h.output, h.size, fun k hk _ => h.block k hk⟩
theorem Priv.mono (h : Priv B' X Y) (hB : B ≤ B') : Priv B X Y := ⟨h.os, h.tape, h.output, h.size, fun k hk hc => h.block k hk (hc.imp (fun h => by omega) id)⟩
theorem Blk.at_ {g : Nat} {t : TypeId} {cs : Array Value} (h : Blk W g t cs) : cellsAt W g := ⟨_, _, _, h⟩
theorem Blk.priv {g : Nat} {t : TypeId} {cs : Array Value} (h : Blk W g t cs) (hp : Priv B W W') : Blk W' g t cs := (hp.block g h.lt (.inr h.at_)).trans h
theorem ownsRow_priv {base : Nat} {e : TypeId} {size : Nat} {v : Value} {n : Nat} {xs : List Value} (h : W.ownsRow base e size v n xs) (hp : Priv B W W') : W'.ownsRow base e size v n xs :=
  ⟨h.1, h.2.imp id fun ⟨g, cap, cur, hv, h0, hg, hr⟩ => ⟨g, cap, cur, hv, h0, Blk.priv (t := e) hg hp, hr⟩⟩
theorem cell_at {a : Addr} {v : Value} (h : W.cell? a = some v) : cellsAt W a.block := by
  unfold World.cell? at h
  cases ho : W.heap[a.block]? with
  | none => simp [ho] at h
  | some o => cases o <;> simp_all [cellsAt]
theorem cell_priv {a : Addr} {v : Value} (h : W.cell? a = some v) (hp : Priv B W W') : W'.cell? a = some v :=
  (World.cell?_of_block (hp.block _ (World.block_lt_of_cell? W a h) (.inr (cell_at h)))).trans h
theorem RowRd.priv {α : Type} {size c : Nat} {cells : α → List Value} {A : Option Addr} {l : List α} (h : RowRd W size cells A c l) (hp : Priv B W W') : RowRd W' size cells A c l :=
  ⟨h.1, h.2.1, fun h0 => by
    obtain ⟨b, off, hA, hb, hc⟩ := h.2.2 h0
    exact ⟨b, off, hA, Nat.lt_of_lt_of_le hb hp.size, fun k hk j u hu => cell_priv (hc k hk j u hu) hp⟩⟩
theorem SetAt.priv {α : Type} {tSet tE size : Nat} {cells : α → List Value} {b : Nat} {sn : Bool} {A : Option Addr} {c : Nat} {l : List α} (h : SetAt tSet tE size cells W b sn A c l) (hp : Priv B W W') : SetAt tSet tE size cells W' b sn A c l :=
  ⟨h.blk.priv hp, ownsRow_priv h.row hp⟩
theorem Fr.priv {M : Nat → Prop} (h : Fr M X Y) (hp : Priv B Y Z) (hB : X.heap.size ≤ B) : Fr M X Z :=
  ⟨hp.os.trans h.os, hp.tape.trans h.tape, hp.output.trans h.output, Nat.le_trans h.size hp.size, fun k hk hn => (hp.block k (Nat.lt_of_lt_of_le hk h.size) (.inl (by omega))).trans (h.block k hk hn)⟩
theorem Fr.of_priv (hp : Priv B X Y) : Fr (fun k => B ≤ k) X Y := ⟨hp.os, hp.tape, hp.output, hp.size, fun k hk hn => hp.block k hk (.inl (by omega))⟩
theorem Below.priv' {A : Nat} (h : Below A X Y) (hp : Priv B Y Z) (hB : A ≤ B) (hA : A ≤ Y.heap.size) : Below A X Z :=
  ⟨hp.os.trans h.os, hp.tape.trans h.tape, hp.output.trans h.output, Nat.le_trans h.size hp.size, fun k hk => (hp.block k (by omega) (.inl (by omega))).trans (h.block k hk)⟩
theorem KeepsFrom.of_fr {M : Nat → Prop} (h : Fr M X Y) (hm : ∀ k, M k → k < X.heap.size → cellsAt X k) (B : Nat) : KeepsFrom B X Y :=
  ⟨h.size, fun k o _ hk hc => (h.block k (Array.getElem?_eq_some_iff.1 hk).1 (fun hM => by
    obtain ⟨c, t, f, hh⟩ := hm k hM (Array.getElem?_eq_some_iff.1 hk).1
    rw [hh] at hk
    cases hk
    cases hc)).trans hk⟩
theorem KeepsFrom.alloc_ (h : KeepsFrom B X Y) (o : Obj) : KeepsFrom B X (Y.alloc o) := h.trans ((KeepsOthers.alloc Y o).from B)
theorem KeepsFrom.set_ (h : KeepsFrom B X Y) (a : Addr) (v : Value) : KeepsFrom B X (Y.setCell a v) := h.trans ((KeepsOthers.setCell Y a v).from B)
theorem KeepsFrom.drew_ (h : KeepsFrom B X Y) : KeepsFrom B X Y.drew := ⟨h.size, h.same⟩
end

variable {P : Program}
/-- THE ITERATOR's CONTRACT: called in W it yields xs, one behind the other; 'start' is what it does ahead of the first; 'Kp' what a round that goes on must keep. -/
def Iter {α : Type} (P : Program) (gf : Nat) (lb : Array Value) (encs : α → Array Value) (xs : List α) (W : World) (start Kp : World → World → Prop) : Prop :=
  ∀ (l : Nat) (J Jx : List α → World → Prop), (∀ p X Y, J p X → Priv W.heap.size X Y → J p Y) → (∀ p X Y, Jx p X → Priv W.heap.size X Y → Jx p Y) →
    (∀ W1, start W W1 → J [] W1) →
    (∀ pre x post W1, xs = pre ++ x :: post → J pre W1 → YieldAt Fence.wide 0 P l (encs x) W1 fun e W' =>
      (e = .returned (.bool true) ∧ J (pre ++ [x]) W' ∧ Kp W1 W') ∨ (e = .returned (.bool false) ∧ Jx (pre ++ [x]) W')) →
    CallsIn Fence.wide 0 P gf (#[.func (.yield l) #[] #[]] ++ lb) W fun e W' => (∃ v, e = .returned v) ∧ (J xs W' ∨ ∃ pre post, xs = pre ++ post ∧ Jx pre W')

theorem Iter.weak {α : Type} {gf : Nat} {lb : Array Value} {encs : α → Array Value} {xs : List α} {W : World} {start Kp Kp' : World → World → Prop} (h : Iter P gf lb encs xs W start Kp) (hk : ∀ X Y, Kp' X Y → Kp X Y) : Iter P gf lb encs xs W start Kp' := by
  intro l J Jx h1 h2 h3 h4
  refine h l J Jx h1 h2 h3 (fun pre x post W1 hx hJ => ?_)
  obtain ⟨fn, tmps, assign, body, hy, hR⟩ := h4 pre x post W1 hx hJ
  refine ⟨fn, tmps, assign, body, hy, hR.mono ?_⟩
  rintro e W' (⟨g1, g2, g3⟩ | g)
  · exact .inl ⟨g1, g2, hk _ _ g3⟩
  · exact .inr g
theorem KeepsFrom.put_ {B l : Nat} {X Y : World} (h : KeepsFrom B X Y) (hl : l < B) (o : Obj) : KeepsFrom B X (Y.putObj l o) :=
  ⟨by simpa using h.size, fun k o' hB hk hc => (World.putObj_heap_other (by omega)).trans (h.same k o' hB hk hc)⟩
theorem KeepsFrom.up {B C : Nat} {X Y : World} (h : KeepsFrom B X Y) (hB : B ≤ C) : KeepsFrom C X Y := ⟨h.size, fun k o hC hk hc => h.same k o (by omega) hk hc⟩

/-- How the body of a round may be left. -/
def rPost {α : Type} (KpW : World → Prop) (B : Nat) (I : List α → World → Prop) (Ix : Code → List α → World → Prop) (p : List α) (W : World) : Exit → Act → World → Prop
  | .normal, _, W' => KeepsFrom B W W' ∧ KpW W' ∧ I p W'
  | .ret, _, W' => KeepsFrom B W W' ∧ Ix .ret p W'
  | .exit id, _, W' => KeepsFrom B W W' ∧ Ix (.exit id) p W'
  | .goto t, _, W' => KeepsFrom B W W' ∧ Ix (.goto t) p W'
  | .panic _, _, _ => False
  | .outgrown, _, _ => False

/-- THE STATEMENT, at an outermost loop. -/
theorem wpIn_range {α : Type} {g : Operand} {ps : Array Tmp} {assign body : Code} {Q : Exit → Act → World → Prop} {a : Act} {w : World} {gf : Nat} {lb : Array Value}
    (hg : a.eval g = .func (.func gf) #[] lb) (eg : ∀ args w, (callFunc gf args).run P w = .ok (.enter gf args) w)
    {encs : α → Array Value} {xs : List α} {start Kp : World → World → Prop} (hseq : ∀ W, Below w.heap.size w W → Iter P gf lb encs xs W start (fun X Y => Kp X Y ∧ KeepsFrom W.heap.size X Y))
    (hps : ∀ x, (encs x).size = ps.size) (hKt : ∀ A B C, Kp A B → Kp B C → Kp A C) (hKp : ∀ A B, Priv w.heap.size A B → Kp A B) (hst : ∀ W W1, start W W1 → KeepsFrom w.heap.size W W1)
    (I : List α → World → Prop) (Ix : Code → List α → World → Prop) (hI : ∀ p X Y, I p X → Priv w.heap.size X Y → I p Y) (hIx : ∀ c p X Y, Ix c p X → Priv w.heap.size X Y → Ix c p Y)
    (h0 : ∀ W W1, Below w.heap.size w W → start W W1 → I [] W1)
    (hround : ∀ (l : Nat) (pre : List α) (x : α) (post : List α) (W : World), xs = pre ++ x :: post → w.heap.size ≤ l → I pre W →
      assign.wpIn (Fence.wide.inRound l) 0 P (Exit.then (fun a1 W1 => KeepsFrom w.heap.size W W1 ∧ ∀ W2, Priv w.heap.size W1 W2 → W2.heap.size = W1.heap.size → (∃ r, W2.heap[l]? = some (.loop r)) →
        body.wpIn (Fence.wide.inRound l) 0 P (rPost (Kp W) w.heap.size I Ix (pre ++ [x]) W2) a1 W2) (fun _ _ _ => False))
        { tmps := (ps.zip (encs x)).foldl (fun t (p, v) => t.setIfInBounds p v) a.tmps, defers := [] } W)
    (hdone : ∀ (D : Nat) (W : World), w.heap.size ≤ D → I xs W → W.heap[D]? = some (.deferred (some [])) → Q .normal { a with defers := { target := .collected D, args := #[] } :: a.defers } W)
    (hstop : ∀ (D : Nat) (c : Code) (pre post : List α) (W : World), w.heap.size ≤ D → xs = pre ++ post → Ix c pre W → W.heap[D]? = some (.deferred (some [])) → c.wpIn Fence.wide 0 P Q { a with defers := { target := .collected D, args := #[] } :: a.defers } W) :
    (Code.rangeFunc g ps assign body).wpIn Fence.wide 0 P Q a w := by
  refine wpIn_rangeFunc ?_
  intro fn hfn
  obtain ⟨rec, hrec⟩ : ∃ rec : LoopState → Option Code → Loop, rec = fun st pe => { state := st, pending := pe, fn, tmps := a.tmps, params := ps, assign, body, defers := w.heap.size } := ⟨_, rfl⟩
  obtain ⟨W1, hW1⟩ : ∃ W1, (w.alloc (.deferred (some []))).alloc (.loop (rec .ready none)) = W1 := ⟨_, rfl⟩
  have hL1 : W1.heap[w.heap.size + 1]? = some (.loop (rec .ready none)) := by
    rw [← hW1]; have := World.alloc_heap_new (w.alloc (.deferred (some []))) (.loop (rec .ready none)); rwa [World.size_alloc] at this
  have hK1 : W1.heap[w.heap.size]? = some (.deferred (some [])) := by
    rw [← hW1]; exact (Below.heap_alloc _ _ _ (by simp)).trans (World.alloc_heap_new w _)
  have hb1 : Below w.heap.size w W1 := by
    rw [← hW1]; exact ((Below.refl _ w).alloc (Nat.le_refl _) _).alloc (by simp) _
  have hz1 : W1.heap.size = w.heap.size + 2 := by rw [← hW1]; simp
  refine ⟨w.heap.size + 1, [{ target := .collected w.heap.size, args := #[] }], W1, { target := .fn (.func gf) lb, args := #[.func (.yield (w.heap.size + 1)) #[] #[]] }, W1, gf,
    #[.func (.yield (w.heap.size + 1)) #[] #[]] ++ lb, W1, ?_, ?_, fun _ _ => trivial, ?_, fun h => by simp [Fence.wide] at h, ?_⟩
  · rw [← hW1, hrec]; exact run_enterLoop_outer _ _ _ _ _
  · simp only [resolve, hg]
    simp [go_sem]
  · simp [invoke, go_sem, eg]
  · have keep : ∀ {X Y : World} {k : Nat} {o : Obj}, Priv W1.heap.size X Y → X.heap[k]? = some o → k < W1.heap.size → Y.heap[k]? = some o := fun hp hk hlt =>
      (hp.block _ (Array.getElem?_eq_some_iff.1 hk).1 (.inl hlt)).trans hk
    refine (hseq W1 hb1 (w.heap.size + 1)
      (fun pre W => I pre W ∧ W.heap[w.heap.size + 1]? = some (.loop (rec .ready none)) ∧ W.heap[w.heap.size]? = some (.deferred (some [])))
      (fun pre W => ∃ c, Ix c pre W ∧ W.heap[w.heap.size + 1]? = some (.loop (rec .done (some c))) ∧ W.heap[w.heap.size]? = some (.deferred (some [])))
      (fun p X Y ⟨h1, h2, h3⟩ hp => ⟨hI p X Y h1 (hp.mono (by omega)), keep hp h2 (by omega), keep hp h3 (by omega)⟩)
      (fun p X Y ⟨c, h1, h2, h3⟩ hp => ⟨c, hIx c p X Y h1 (hp.mono (by omega)), keep hp h2 (by omega), keep hp h3 (by omega)⟩)
      (fun W2 hs => ⟨h0 W1 W2 hb1 hs, (hst _ _ hs).same _ _ (by omega) hL1 rfl, (hst _ _ hs).same _ _ (by omega) hK1 rfl⟩) ?_).mono ?_
    · rintro pre x post W hx ⟨hi, hl, hk⟩
      have hy := run_yield (P := P) (args := encs x) hl (by rw [hrec]; exact hps x)
      rw [hrec] at hy
      refine ⟨fn, _, assign, body, hy, roundIn_of_wpIn hfn ?_⟩
      refine wpIn_mono (hround (w.heap.size + 1) pre x post W hx (by omega) hi) ?_
      rintro e a1 Wa hp
      cases e with
      | normal =>
        obtain ⟨hka, hbody⟩ := hp
        have hla := hka.same _ _ (by omega) hl rfl
        have hkd := hka.same _ _ (by omega) hk rfl
        have hlt : w.heap.size + 1 < Wa.heap.size := (Array.getElem?_eq_some_iff.1 hla).1
        have hbr := run_beginRound (P := P) hla (by rw [hrec])
        refine ⟨_, hbr, ?_⟩
        have hl2 : (Wa.putObj (w.heap.size + 1) (.loop { rec .ready none with state := .busy })).heap[w.heap.size + 1]? = some (.loop { rec .ready none with state := .busy }) := World.putObj_heap_same hlt
        have hk2 : (Wa.putObj (w.heap.size + 1) (.loop { rec .ready none with state := .busy })).heap[w.heap.size]? = some (.deferred (some [])) := (World.putObj_heap_other (by omega)).trans hkd
        refine wpIn_mono (hbody _ ((Priv.refl _ Wa).putObj (by omega) hla rfl _) (by simp) ⟨_, hl2⟩) ?_
        have fin : ∀ (jump : Option Code) (W3 : World), KeepsFrom w.heap.size (Wa.putObj (w.heap.size + 1) (.loop { rec .ready none with state := .busy })) W3 →
            (Instr.endRound (w.heap.size + 1) jump).run P W3 = .ok (.bool jump.isNone) (W3.putObj (w.heap.size + 1) (.loop (rec (if jump.isNone then .ready else .done) jump))) ∧
            Priv w.heap.size W3 (W3.putObj (w.heap.size + 1) (.loop (rec (if jump.isNone then .ready else .done) jump))) ∧
            (W3.putObj (w.heap.size + 1) (.loop (rec (if jump.isNone then .ready else .done) jump))).heap[w.heap.size + 1]? = some (.loop (rec (if jump.isNone then .ready else .done) jump)) ∧
            (W3.putObj (w.heap.size + 1) (.loop (rec (if jump.isNone then .ready else .done) jump))).heap[w.heap.size]? = some (.deferred (some [])) := fun jump W3 hk3 => by
          have hl3 := hk3.same _ _ (by omega) hl2 rfl
          have := run_endRound (P := P) jump hl3
          rw [hrec] at this ⊢
          exact ⟨this, (Priv.refl _ _).putObj (by omega) hl3 rfl _, World.putObj_heap_same (Array.getElem?_eq_some_iff.1 hl3).1, (World.putObj_heap_other (by omega)).trans (hk3.same _ _ (Nat.le_refl _) hk2 rfl)⟩
        rintro e a3 W3 hp
        cases e with
        | normal =>
          obtain ⟨hk3, hkp3, hi3⟩ := hp
          obtain ⟨hr, hpv, hl4, hk4⟩ := fin none W3 hk3
          refine ⟨_, _, hr, .inl ⟨rfl, ⟨hI _ _ _ hi3 hpv, hl4, hk4⟩, hKt _ _ _ hkp3 (hKp _ _ hpv), ?_⟩⟩
          exact KeepsFrom.put_ ((KeepsFrom.put_ (KeepsFrom.up hka (by omega)) (by omega) _).trans (KeepsFrom.up hk3 (by omega))) (by omega) _
        | ret =>
          obtain ⟨hk3, hi3⟩ := hp
          obtain ⟨hr, hpv, hl4, hk4⟩ := fin (some .ret) W3 hk3
          exact ⟨_, _, hr, .inr ⟨rfl, .ret, hIx _ _ _ _ hi3 hpv, hl4, hk4⟩⟩
        | exit id =>
          obtain ⟨hk3, hi3⟩ := hp
          obtain ⟨hr, hpv, hl4, hk4⟩ := fin (some (.exit id)) W3 hk3
          exact ⟨_, _, hr, .inr ⟨rfl, .exit id, hIx _ _ _ _ hi3 hpv, hl4, hk4⟩⟩
        | goto t =>
          obtain ⟨hk3, hi3⟩ := hp
          obtain ⟨hr, hpv, hl4, hk4⟩ := fin (some (.goto t)) W3 hk3
          exact ⟨_, _, hr, .inr ⟨rfl, .goto t, hIx _ _ _ _ hi3 hpv, hl4, hk4⟩⟩
        | panic ch => exact hp.elim
        | outgrown => exact hp.elim
      | exit id => exact hp.elim
      | goto l => exact hp.elim
      | ret => exact hp.elim
      | panic ch => exact hp.elim
      | outgrown => exact hp.elim
    · rintro e W2 ⟨⟨v, rfl⟩, (⟨hi, hl, hk⟩ | ⟨pre, post, hS, c, hi, hl, hk⟩)⟩
      · exact ⟨none, _, by have := run_endLoop (P := P) hl (by rw [hrec]; simp); rw [hrec] at this; exact this, hdone _ _ (Nat.le_refl _) (hI _ _ _ hi ((Priv.refl _ _).putObj (by omega) hl rfl _)) ((World.putObj_heap_other (by omega)).trans hk)⟩
      · exact ⟨some c, _, by have := run_endLoop (P := P) hl (by rw [hrec]; simp); rw [hrec] at this; exact this, hstop _ c pre post _ (Nat.le_refl _) hS (hIx c _ _ _ hi ((Priv.refl _ _).putObj (by omega) hl rfl _)) ((World.putObj_heap_other (by omega)).trans hk)⟩

/-! ### what is shown of an operation in a plain walk holds in a round -/
theorem uponIn_of_upon {l : Nat} {o : Oper} {a : Act} {K : Act → World → Prop} {Q : Exit → Act → World → Prop} {r : Result Next} (h : o.upon P a K Q r) : o.uponIn (Fence.wide.inRound l) 0 P a K Q r := by
  cases r with
  | ok n w =>
    cases n <;> simp only [Oper.upon] at h <;> simp only [Oper.uponIn]
    case value => exact h
    case skip => exact h
    case defer => exact h
    case enter f args => exact ⟨fun h => by simp [Fence.wide] at h, callsIn_wide.2 h⟩
    case row row args =>
      refine ⟨fun h => by simp [Fence.wide] at h, fun c cs _ => ?_⟩
      obtain ⟨v, w', hr, hs⟩ := h c cs
      exact ⟨v, w', hr, stepsIn_wide.2 hs⟩
  | halt x w => cases x <;> simp only [Oper.upon] at h <;> simp only [Oper.uponIn] <;> exact h
/-- A region that draws, in a round, by a plain walk. -/
theorem wpIn_region_E {id l0 : Nat} {l : List Oper} {Q : Exit → Act → World → Prop} {a : Act} {w : World} (S : World → Prop) (ord : List (Nat × Cls)) (hm : P.follows .mixedOrders = true) (hB : okOrd l.toArray ord = true)
    (hd : (l.all fun o => match o.op with | .defer _ => false | _ => true) = true)
    (h : ∀ K : Act → World → Prop, (∀ a w, Q .normal a w → K a w) → wpX P l.toArray (OnlyN K) S (needS l.toArray ord) (beside l.toArray ord) a w.drew) : (Code.region id l.toArray true).wpIn (Fence.wide.inRound l0) 0 P Q a w := by
  have hnd : ∀ (i : Nat) (o : Oper), l.toArray[i]? = some o → ∀ c, o.op ≠ .defer c := fun i o ho c hc => by
    have hmem : o ∈ l := by
      have := Array.mem_of_getElem? ho
      simpa using this
    have := List.all_eq_true.1 hd o hmem
    rw [hc] at this
    cases this
  have conv : ∀ (fuel : Nat) (listed : Array Bool) (a : Act) (w : World), wpAny P .any l.toArray (OnlyN fun a w => Q .normal a w) fuel listed a w → wpAnyIn (Fence.wide.inRound l0) 0 P .any l.toArray (OnlyN fun a w => Q .normal a w) fuel listed a w := by
    intro fuel
    induction fuel with
    | zero => exact fun _ _ _ h => h
    | succ fuel ih =>
      intro listed a w hh
      refine ⟨hh.1, fun i hi => ?_⟩
      have h1 := hh.2 i hi
      unfold wpOp at h1
      unfold wpOpIn
      cases ho : l.toArray[i]? with
      | none => simp only [ho] at h1 ⊢; exact ih _ _ _ h1
      | some o =>
        simp only [ho] at h1 ⊢
        by_cases hw : Region.wanted o (yielded l.toArray a.tmps) = true
        · rw [if_pos hw] at h1 ⊢
          rcases h1 with h1 | ⟨_, ⟨a', w', hlet⟩⟩
          · refine ⟨fun _ _ => trivial, ?_⟩
            rw [show (Fence.wide.inRound l0).round = some l0 from rfl, Oper.semAt_some l0 a.eval o (hnd i o ho)]
            refine uponIn_of_upon ?_
            exact Oper.wp_mono (fun a w h => ih _ _ _ h) h1
          · exact hlet.elim
        · rw [if_neg hw] at h1 ⊢
          exact ⟨fun _ _ => trivial, ih _ _ _ h1⟩
  refine wpIn_mono (Q := OnlyN fun a w => Q .normal a w) (wpIn_region_any hm (conv _ _ _ _ ?_)) (fun e a w hq => by cases e <;> first | exact hq | exact hq.elim)
  exact wpAny_E S ord hB h
end Go.Proofs.Ythhhhjllpejpgaa
