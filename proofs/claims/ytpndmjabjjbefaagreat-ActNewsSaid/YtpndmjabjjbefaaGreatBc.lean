/-
  Texts put together: RangeO, Store, RangeO2, Shape1, Shape3, Shape4.
-/
import Derived.Test.YtpndmjabjjbefaaGreatBb
import Derived.Test.YtpndmjabjjbefaaGreatBa
import Derived.Deep.MidRow
namespace Go.Proofs.YtpndmjabjjbefaaGreat
open Go.RowKit
variable {P : Program}
def Plus (D : Nat → Prop) (X Y : World) : Nat → Prop := fun k => D k ∨ (X.heap.size ≤ k ∧ k < Y.heap.size)
def FromB (B : Nat) (D : Nat → Prop) : Nat → Prop := fun k => D k ∧ B ≤ k
theorem Plus.same {D : Nat → Prop} {X Y : World} (h : Y.heap.size = X.heap.size) : Plus D X Y = D := by
 funext k; apply propext; unfold Plus; constructor
 · rintro (h | h)
   · exact h
   · omega
 · exact .inl
def Steady {α : Type} (B : Nat) (J : (Nat → Prop) → List α → World → Prop) : Prop := ∀ D p X Y, J D p X → Fr (FromB B D) X Y → J (Plus D X Y) p Y
theorem Steady.same {α : Type} {B : Nat} {J : (Nat → Prop) → List α → World → Prop} (h : Steady B J) {D : Nat → Prop} {p : List α} {X Y : World} (hJ : J D p X) (hF : Fr (FromB B D) X Y) (hz : Y.heap.size = X.heap.size) : J D p Y := by
 have := h D p X Y hJ hF
 rwa [Plus.same hz] at this
def RoundsO {α : Type} (P : Program) (l : Nat) (encs : α → Array Value) (xs : List α) (J Jx : (Nat → Prop) → List α → World → Prop) : Prop :=
 ∀ D pre x post W1, xs = pre ++ x :: post → J D pre W1 → YieldAt Fence.wide 0 P l (encs x) W1 fun e W' =>
   (e = .returned (.bool true) ∧ J D (pre ++ [x]) W' ∧ Fr (fun k => ¬ D k) W1 W') ∨ (e = .returned (.bool false) ∧ Jx D (pre ++ [x]) W' ∧ Fr (fun k => ¬ D k) W1 W')
def ToldO {α : Type} (xs : List α) (J Jx : (Nat → Prop) → List α → World → Prop) (W' : World) : Prop := ∃ D, J D xs W' ∨ ∃ pre post, xs = pre ++ post ∧ Jx D pre W'
def IterO {α : Type} (P : Program) (gf : Nat) (lb : Array Value) (encs : α → Array Value) (xs : List α) (W : World) (D : Nat → Prop) : Prop :=
 ∀ (l : Nat) (J Jx : (Nat → Prop) → List α → World → Prop), Steady W.heap.size J → Steady W.heap.size Jx → J D [] W → RoundsO P l encs xs J Jx →
   CallsIn Fence.wide 0 P gf (#[.func (.yield l) #[] #[]] ++ lb) W fun e W' => (∃ v, e = .returned v) ∧ ToldO xs J Jx W'
theorem Fr.putObj {M : Nat → Prop} {X Y : World} (h : Fr M X Y) {l : Nat} (hl : M l ∨ X.heap.size ≤ l) (o : Obj) : Fr M X (Y.putObj l o) :=
 ⟨h.os, h.tape, h.output, by simpa using h.size, fun k hk hn => (World.putObj_heap_other (by
  rintro rfl
  rcases hl with hl | hl
  · exact hn hl
  · omega)).trans (h.block k hk hn)⟩
def rPostO {α : Type} (D : Nat → Prop) (I : (Nat → Prop) → List α → World → Prop) (Ix : Code → (Nat → Prop) → List α → World → Prop) (p : List α) (W : World) : Exit → Act → World → Prop
 | .normal, _, W' => Fr (fun k => ¬ D k) W W' ∧ I D p W'
 | .ret, _, W' => Fr (fun k => ¬ D k) W W' ∧ Ix .ret D p W'
 | .exit id, _, W' => Fr (fun k => ¬ D k) W W' ∧ Ix (.exit id) D p W'
 | .goto t, _, W' => Fr (fun k => ¬ D k) W W' ∧ Ix (.goto t) D p W'
 | .panic _, _, _ => False
 | .outgrown, _, _ => False
theorem wpIn_rangeO {α : Type} {g : Operand} {ps : Array Tmp} {assign body : Code} {Q : Exit → Act → World → Prop} {a : Act} {w : World} {gf : Nat} {lb : Array Value}
 (hg : a.eval g = .func (.func gf) #[] lb) (eg : ∀ args w, (callFunc gf args).run P w = .ok (.enter gf args) w)
 {encs : α → Array Value} {xs : List α} {D : Nat → Prop} (hD : ∀ k, D k → k < w.heap.size) (hseq : ∀ W, Below w.heap.size w W → IterO P gf lb encs xs W D)
 (hps : ∀ x, (encs x).size = ps.size)
 (I : (Nat → Prop) → List α → World → Prop) (Ix : Code → (Nat → Prop) → List α → World → Prop) (hI : Steady w.heap.size I) (hIx : ∀ c, Steady w.heap.size (Ix c))
 (h0 : I D [] w)
 (hround : ∀ (D : Nat → Prop) (l : Nat) (pre : List α) (x : α) (post : List α) (W : World), xs = pre ++ x :: post → w.heap.size ≤ l → D l → I D pre W →
  assign.wpIn (Fence.wide.inRound l) 0 P (Exit.then (fun a1 W1 => Fr (fun k => ¬ D k) W W1 ∧ ∀ W2, Fr (· = l) W1 W2 → W2.heap.size = W1.heap.size → (∃ r, W2.heap[l]? = some (.loop r)) →
   body.wpIn (Fence.wide.inRound l) 0 P (rPostO D I Ix (pre ++ [x]) W2) a1 W2) (fun _ _ _ => False))
   { tmps := (ps.zip (encs x)).foldl (fun t (p, v) => t.setIfInBounds p v) a.tmps, defers := [] } W)
 (hdone : ∀ (D : Nat → Prop) (d : Nat) (W : World), w.heap.size ≤ d → D d → I D xs W → W.heap[d]? = some (.deferred (some [])) → Q .normal { a with defers := { target := .collected d, args := #[] } :: a.defers } W)
 (hstop : ∀ (D : Nat → Prop) (d : Nat) (c : Code) (pre post : List α) (W : World), w.heap.size ≤ d → D d → xs = pre ++ post → Ix c D pre W → W.heap[d]? = some (.deferred (some [])) → c.wpIn Fence.wide 0 P Q { a with defers := { target := .collected d, args := #[] } :: a.defers } W) :
 (Code.rangeFunc g ps assign body).wpIn Fence.wide 0 P Q a w := by
 refine wpIn_rangeFunc ?_
 intro fn hfn
 obtain ⟨rec, hrec⟩ : ∃ rec : LoopState → Option Code → Loop, rec = fun st pe => { state := st, pending := pe, fn, tmps := a.tmps, params := ps, assign, body, defers := w.heap.size } := ⟨_, rfl⟩
 obtain ⟨W1, hW1⟩ : ∃ W1, (w.alloc (.deferred (some []))).alloc (.loop (rec .ready none)) = W1 := ⟨_, rfl⟩
 have hL1 : W1.heap[w.heap.size + 1]? = some (.loop (rec .ready none)) := by
  rw [← hW1]; have := World.alloc_heap_new (w.alloc (.deferred (some []))) (.loop (rec .ready none)); rwa [World.size_alloc] at this
 have hK1 : W1.heap[w.heap.size]? = some (.deferred (some [])) := by
  rw [← hW1]; exact (Below.heap_alloc _ _ _ (by simp)).trans (World.alloc_heap_new w _)
 have hb1 : Below w.heap.size w W1 := by
  rw [← hW1]; exact ((Below.refl _ w).alloc (Nat.le_refl _) _).alloc (by simp) _
 have hz1 : W1.heap.size = w.heap.size + 2 := by rw [← hW1]; simp
 obtain ⟨U, hU⟩ : ∃ U : (Nat → Prop) → Nat → Prop, U = fun D' k => D' k ∨ (w.heap.size ≤ k ∧ k < w.heap.size + 2) := ⟨_, rfl⟩
 have u0 : ∀ D', U D' w.heap.size := fun D' => by rw [hU]; exact .inr ⟨by omega, by omega⟩
 have u1 : ∀ D', U D' (w.heap.size + 1) := fun D' => by rw [hU]; exact .inr ⟨by omega, by omega⟩
 have us : ∀ D' k, D' k → U D' k := fun D' k h => by rw [hU]; exact .inl h
 have up : ∀ D' (X Y : World), Plus (U D') X Y = U (Plus D' X Y) := fun D' X Y => by
  funext k; apply propext; rw [hU]; unfold Plus; dsimp only; constructor
  · rintro ((h | h) | h)
    · exact .inl (.inl h)
    · exact .inr h
    · exact .inl (.inr h)
  · rintro ((h | h) | h)
    · exact .inl (.inl h)
    · exact .inr h
    · exact .inl (.inr h)
 have hstart : I (U D) [] W1 := by
  have h9 := hI D [] w W1 h0 (Fr.of_new hb1)
  have e : Plus D w W1 = U D := by funext k; rw [hU]; unfold Plus; rw [hz1]
  rwa [e] at h9
 refine ⟨w.heap.size + 1, [{ target := .collected w.heap.size, args := #[] }], W1, { target := .fn (.func gf) lb, args := #[.func (.yield (w.heap.size + 1)) #[] #[]] }, W1, gf,
  #[.func (.yield (w.heap.size + 1)) #[] #[]] ++ lb, W1, ?_, ?_, fun _ _ => trivial, ?_, fun h => by simp [Fence.wide] at h, ?_⟩
 · rw [← hW1, hrec]; exact run_enterLoop_outer _ _ _ _ _
 · simp only [resolve, hg]
   simp [go_sem]
 · simp [invoke, go_sem, eg]
 · refine (hseq W1 hb1 (w.heap.size + 1)
    (fun D' pre W => I (U D') pre W ∧ ¬ D' w.heap.size ∧ ¬ D' (w.heap.size + 1) ∧ W.heap[w.heap.size + 1]? = some (.loop (rec .ready none)) ∧ W.heap[w.heap.size]? = some (.deferred (some [])))
    (fun D' pre W => ¬ D' w.heap.size ∧ ¬ D' (w.heap.size + 1) ∧ ∃ c, Ix c (U D') pre W ∧ W.heap[w.heap.size + 1]? = some (.loop (rec .done (some c))) ∧ W.heap[w.heap.size]? = some (.deferred (some [])))
    (fun D' p X Y ⟨h1, h2, h3, h4, h5⟩ hF => ?_) (fun D' p X Y ⟨h2, h3, c, h1, h4, h5⟩ hF => ?_)
    ⟨hstart, fun h => by have := hD _ h; omega, fun h => by have := hD _ h; omega, hL1, hK1⟩ ?_).mono ?_
   · have z4 := (Array.getElem?_eq_some_iff.1 h4).1
     have z5 := (Array.getElem?_eq_some_iff.1 h5).1
     refine ⟨by rw [← up]; exact hI _ _ _ _ h1 (hF.mono (fun k _ hk => ⟨us _ _ hk.1, by have := hk.2; omega⟩)), ?_, ?_, (hF.block _ z4 (fun hk => h3 hk.1)).trans h4, (hF.block _ z5 (fun hk => h2 hk.1)).trans h5⟩
     · rintro (h | h)
       · exact h2 h
       · omega
     · rintro (h | h)
       · exact h3 h
       · omega
   · have z4 := (Array.getElem?_eq_some_iff.1 h4).1
     have z5 := (Array.getElem?_eq_some_iff.1 h5).1
     refine ⟨?_, ?_, c, by rw [← up]; exact hIx c _ _ _ _ h1 (hF.mono (fun k _ hk => ⟨us _ _ hk.1, by have := hk.2; omega⟩)), (hF.block _ z4 (fun hk => h3 hk.1)).trans h4, (hF.block _ z5 (fun hk => h2 hk.1)).trans h5⟩
     · rintro (h | h)
       · exact h2 h
       · omega
     · rintro (h | h)
       · exact h3 h
       · omega
   · rintro D' pre x post W hx ⟨hi, nd, nl, hl, hk⟩
     have hy := run_yield (P := P) (args := encs x) hl (by rw [hrec]; exact hps x)
     rw [hrec] at hy
     refine ⟨fn, _, assign, body, hy, roundIn_of_wpIn hfn ?_⟩
     refine wpIn_mono (hround (U D') (w.heap.size + 1) pre x post W hx (by omega) (u1 _) hi) ?_
     rintro e a1 Wa hp
     have lu : ∀ {X Y : World}, Fr (fun k => ¬ U D' k) X Y → Fr (fun k => ¬ D' k) X Y := fun h => h.mono (fun k _ hk hd => hk (us _ _ hd))
     cases e with
     | normal =>
       obtain ⟨hfa, hbody⟩ := hp
       have zl := (Array.getElem?_eq_some_iff.1 hl).1
       have zk := (Array.getElem?_eq_some_iff.1 hk).1
       have hla := (hfa.block _ zl (fun hn => hn (u1 _))).trans hl
       have hkd := (hfa.block _ zk (fun hn => hn (u0 _))).trans hk
       have hlt : w.heap.size + 1 < Wa.heap.size := (Array.getElem?_eq_some_iff.1 hla).1
       have hbr := run_beginRound (P := P) hla (by rw [hrec])
       refine ⟨_, hbr, ?_⟩
       have hl2 : (Wa.putObj (w.heap.size + 1) (.loop { rec .ready none with state := .busy })).heap[w.heap.size + 1]? = some (.loop { rec .ready none with state := .busy }) := World.putObj_heap_same hlt
       have hk2 : (Wa.putObj (w.heap.size + 1) (.loop { rec .ready none with state := .busy })).heap[w.heap.size]? = some (.deferred (some [])) := (World.putObj_heap_other (by omega)).trans hkd
       have hfb : Fr (fun k => ¬ D' k) W (Wa.putObj (w.heap.size + 1) (.loop { rec .ready none with state := .busy })) := (lu hfa).trans ((Fr.refl _ Wa).putObj (.inl nl) _)
       refine wpIn_mono (hbody _ ((Fr.refl (· = w.heap.size + 1) Wa).putObj (.inl rfl) _) (by simp) ⟨_, hl2⟩) ?_
       have fin : ∀ (jump : Option Code) (W3 : World), Fr (fun k => ¬ U D' k) (Wa.putObj (w.heap.size + 1) (.loop { rec .ready none with state := .busy })) W3 →
        (Instr.endRound (w.heap.size + 1) jump).run P W3 = .ok (.bool jump.isNone) (W3.putObj (w.heap.size + 1) (.loop (rec (if jump.isNone then .ready else .done) jump))) ∧
        Fr (FromB w.heap.size (U D')) W3 (W3.putObj (w.heap.size + 1) (.loop (rec (if jump.isNone then .ready else .done) jump))) ∧
        Fr (fun k => ¬ D' k) W (W3.putObj (w.heap.size + 1) (.loop (rec (if jump.isNone then .ready else .done) jump))) ∧
        (W3.putObj (w.heap.size + 1) (.loop (rec (if jump.isNone then .ready else .done) jump))).heap[w.heap.size + 1]? = some (.loop (rec (if jump.isNone then .ready else .done) jump)) ∧
        (W3.putObj (w.heap.size + 1) (.loop (rec (if jump.isNone then .ready else .done) jump))).heap[w.heap.size]? = some (.deferred (some [])) := fun jump W3 hk3 => by
        have hl3 := (hk3.block _ (by simpa using hlt) (fun hn => hn (u1 _))).trans hl2
        have hd3 := (hk3.block _ (by have := hlt; simp; omega) (fun hn => hn (u0 _))).trans hk2
        have := run_endRound (P := P) jump hl3
        rw [hrec] at this ⊢
        exact ⟨this, (Fr.refl _ W3).putObj (.inl ⟨u1 _, by omega⟩) _, (hfb.trans (lu hk3)).trans ((Fr.refl _ W3).putObj (.inl nl) _), World.putObj_heap_same (Array.getElem?_eq_some_iff.1 hl3).1, (World.putObj_heap_other (by omega)).trans hd3⟩
       rintro e a3 W3 hp
       cases e with
       | normal =>
         obtain ⟨hk3, hi3⟩ := hp
         obtain ⟨hr, hst, hfr, hl4, hk4⟩ := fin none W3 hk3
         exact ⟨_, _, hr, .inl ⟨rfl, ⟨hI.same hi3 hst (by simp), nd, nl, hl4, hk4⟩, hfr⟩⟩
       | ret =>
         obtain ⟨hk3, hi3⟩ := hp
         obtain ⟨hr, hst, hfr, hl4, hk4⟩ := fin (some .ret) W3 hk3
         exact ⟨_, _, hr, .inr ⟨rfl, ⟨nd, nl, .ret, (hIx .ret).same hi3 hst (by simp), hl4, hk4⟩, hfr⟩⟩
       | exit id =>
         obtain ⟨hk3, hi3⟩ := hp
         obtain ⟨hr, hst, hfr, hl4, hk4⟩ := fin (some (.exit id)) W3 hk3
         exact ⟨_, _, hr, .inr ⟨rfl, ⟨nd, nl, .exit id, (hIx (.exit id)).same hi3 hst (by simp), hl4, hk4⟩, hfr⟩⟩
       | goto t =>
         obtain ⟨hk3, hi3⟩ := hp
         obtain ⟨hr, hst, hfr, hl4, hk4⟩ := fin (some (.goto t)) W3 hk3
         exact ⟨_, _, hr, .inr ⟨rfl, ⟨nd, nl, .goto t, (hIx (.goto t)).same hi3 hst (by simp), hl4, hk4⟩, hfr⟩⟩
       | panic ch => exact hp.elim
       | outgrown => exact hp.elim
     | exit id => exact hp.elim
     | goto l => exact hp.elim
     | ret => exact hp.elim
     | panic ch => exact hp.elim
     | outgrown => exact hp.elim
   · have pst : ∀ (D' : Nat → Prop) (X : World) (o : Obj), Fr (FromB w.heap.size (U D')) X (X.putObj (w.heap.size + 1) o) := fun D' X o => (Fr.refl _ X).putObj (.inl ⟨u1 _, by omega⟩) _
     rintro e W2 ⟨⟨v, rfl⟩, D', (⟨hi, nd, nl, hl, hk⟩ | ⟨pre, post, hS, nd, nl, c, hi, hl, hk⟩)⟩
     · exact ⟨none, _, by have := run_endLoop (P := P) hl (by rw [hrec]; simp); rw [hrec] at this; exact this, hdone (U D') _ _ (Nat.le_refl _) (u0 _) (hI.same hi (pst _ _ _) (by simp)) ((World.putObj_heap_other (by omega)).trans hk)⟩
     · exact ⟨some c, _, by have := run_endLoop (P := P) hl (by rw [hrec]; simp); rw [hrec] at this; exact this, hstop (U D') _ c pre post _ (Nat.le_refl _) (u0 _) hS ((hIx c).same hi (pst _ _ _) (by simp)) ((World.putObj_heap_other (by omega)).trans hk)⟩
end Go.Proofs.YtpndmjabjjbefaaGreat
namespace Go.Proofs.YtpndmjabjjbefaaGreat
open Go.RowKit
theorem Fr.setCells {M : Nat → Prop} {a : World} {g : Nat} : ∀ (vs : List Value) (o : Nat) {b : World}, Fr M a b → (M g ∨ a.heap.size ≤ g) → Fr M a (b.setCells g o vs)
 | [], _, _, h, _ => h
 | v :: vs, o, _, h, hg => Fr.setCells vs (o + 1) (h.setCell (p := ⟨g, o, none⟩) hg v) hg
theorem Room.there {w : World} {g : Nat} {e : TypeId} {m : Nat} (h : Room w g e m) {o n : Nat} (hn : o + n ≤ m) : w.there g o n := fun j hj => by
 obtain ⟨u, hu⟩ := h.cell (i := o + j) (by omega)
 exact ⟨by rw [hu]; rfl, h.frozen _⟩
theorem Blk.there {w : World} {g : Nat} {t : TypeId} {cs : Array Value} (h : Blk w g t cs) : w.there g 0 cs.size := fun j hj => by
 rw [Nat.zero_add]
 exact ⟨by rw [h.cell, Array.getElem?_eq_getElem hj]; rfl, h.frozen j⟩
theorem Below.setCells' {B : Nat} {a : World} {g : Nat} : ∀ (vs : List Value) (o : Nat) {b : World}, Below B a b → B ≤ g → Below B a (b.setCells g o vs)
 | [], _, _, h, _ => h
 | v :: vs, o, _, h, hg => Below.setCells' vs (o + 1) (h.setCell (show B ≤ (⟨g, o, none⟩ : Addr).block from hg) v) hg
end Go.Proofs.YtpndmjabjjbefaaGreat
namespace Go.Proofs.YtpndmjabjjbefaaGreat
open Go.RowKit
variable {P : Program} {α : Type}
def ItSt (J : (Nat → Prop) → List α → World → Prop) (D E : Nat → Prop) (W : World) (pre : List α) (X : World) : Prop :=
 ∃ D', (∀ k, D k → D' k) ∧ (∀ k, E k → D' k) ∧ J D' pre X ∧ Fr (fun j => ¬ D j) W X ∧ (∀ k, E k → W.heap.size ≤ k)
section
variable {J Jx : (Nat → Prop) → List α → World → Prop} {D E E' : Nat → Prop} {W X Y : World} {pre xs : List α}
theorem ItSt.start (h : J D [] W) : ItSt J D (fun _ => False) W [] W := ⟨D, fun _ h => h, fun _ h => h.elim, h, Fr.refl _ _, fun _ h => h.elim⟩
theorem ItSt.fr (h : ItSt J D E W pre X) : Fr (fun j => ¬ D j) W X := by
 obtain ⟨_, _, _, _, h, _⟩ := h
 exact h
theorem ItSt.weak (h : ItSt J D E W pre X) (hE : ∀ k, E' k → E k) : ItSt J D E' W pre X := by
 obtain ⟨D', h1, h2, h3, h4, h5⟩ := h
 exact ⟨D', h1, fun k hk => h2 k (hE k hk), h3, h4, fun k hk => h5 k (hE k hk)⟩
theorem ItSt.step (h : ItSt J D E W pre X) (hJ : Steady W.heap.size J) (hF : Fr E X Y) : ItSt J D (Plus E X Y) W pre Y := by
 obtain ⟨D', h1, h2, h3, h4, h5⟩ := h
 refine ⟨Plus D' X Y, fun k hk => .inl (h1 k hk), fun k hk => hk.imp (h2 k) id, hJ _ _ _ _ h3 (hF.mono (fun k _ hk => ⟨h2 k hk, h5 k hk⟩)), h4.into hF (fun k hk => .inr (h5 k hk)), fun k hk => ?_⟩
 rcases hk with hk | hk
 · exact h5 k hk
 · exact Nat.le_trans h4.size hk.1
theorem ItSt.new_ (h : ItSt J D E W pre X) (hJ : Steady W.heap.size J) (hb : Below X.heap.size X Y) : ItSt J D (Plus E X Y) W pre Y := h.step hJ (Fr.of_new hb)
theorem ItSt.round {l : Nat} {encs : α → Array Value} {x : α} {post : List α} (h : ItSt J D E W pre X) (hY : RoundsO P l encs xs J Jx) (hx : xs = pre ++ x :: post) :
 YieldAt Fence.wide 0 P l (encs x) X fun e W' => (e = .returned (.bool true) ∧ ItSt J D E W (pre ++ [x]) W' ∧ Fr (fun k => ¬ (D k ∨ E k)) X W') ∨ (e = .returned (.bool false) ∧ ToldO xs J Jx W' ∧ Fr (fun k => ¬ (D k ∨ E k)) X W') := by
 obtain ⟨D', h1, h2, h3, h4, h5⟩ := h
 obtain ⟨fn, tmps, assign, body, hy, hR⟩ := hY D' pre x post X hx h3
 refine ⟨fn, tmps, assign, body, hy, hR.mono ?_⟩
 rintro e W' (⟨g1, g2, g3⟩ | ⟨g1, g2, g3⟩)
 · exact .inl ⟨g1, ⟨D', h1, h2, g2, h4.trans (g3.mono (fun k _ hk hd => hk (h1 k hd))), h5⟩, g3.mono (fun k _ hk hd => hk (hd.elim (h1 k) (h2 k)))⟩
 · exact .inr ⟨g1, ⟨D', .inr ⟨pre ++ [x], post, by rw [hx]; simp, g2⟩⟩, g3.mono (fun k _ hk hd => hk (hd.elim (h1 k) (h2 k)))⟩
theorem ItSt.told (h : ItSt J D E W xs X) : ToldO xs J Jx X := by
 obtain ⟨D', _, _, h3, _, _⟩ := h
 exact ⟨D', .inl h3⟩
end
theorem wpListIn_app {F : Fence} {n1 : Nat} (w : World) {ops : Array Oper} {rest : List Oper} {o : Oper} {a : Go.Act} {Q : Exit → Go.Act → World → Prop} (hgd : o.guard = none) (s x : Operand) (t : TypeId)
 (ho : o.op = .call { callee := .builtin .append, args := #[s, x], argTypes := #[t, t] })
 (e : TypeId) (i : TypeInfo) (z : Value) (size bytes : Nat) (ht : P.underlying t = some (.slice e)) (hi : P.info? e = some i) (hz : i.zero = some z)
 (hsize : i.size = size) (hby : i.bytes = bytes) (hzs : z.cells.size = size) (hsz : 0 < size)
 (v : Value) (n : Nat) (xs : List Value) (hs : a.eval s = v) (hown : w.ownsRow 0 e size v n xs)
 (A : Option Addr) (m c : Nat) (news : List Value) (hx : a.eval x = .slice A m c) (hl : news.length = m * size)
 (hnews : 0 < m → ∃ ad, A = some ad ∧ ∀ j u, news[j]? = some u → w.cell? (ad.add j) = some u) (h1 : ∀ u ∈ news, u.oneCell' = true)
 (h63 : n + m ≤ maxLen) (hbytes : (n + m) * bytes ≤ 140737488355328)
 (h : ∀ v' w', w'.ownsRow 0 e size v' (n + m) (xs ++ news) → w.grownBy w' v.ownBlock → (v' = .slice none 0 0 ↔ v = .slice none 0 0 ∧ m = 0) → (v'.ownBlock = v.ownBlock ∨ v'.ownBlock = some w.heap.size) → wpListIn F n1 P ops Q rest (a.put o.dst v') w') :
 wpListIn F n1 P ops Q (o :: rest) a w := by
 refine wpListIn_plain hgd fun K hK' => ?_
 obtain ⟨v', w', hrun, r1, r2, r3, r4⟩ := run_append_src (P := P) w t o.type e i z size bytes ht hi hz hsize hby hzs hsz v n xs hown A m c news hl hnews h1 h63 hbytes
 unfold Oper.wpIn
 refine ⟨?_, ?_⟩
 · simp [Oper.about, ho, resolve, Target.leads, Sem.run_pure]
 · rw [Oper.semAt_plain F _ _ (by rw [ho]; intro c hc'; cases hc')]
   simp [execOp, ho, resolve, invoke, builtin, hs, hx, hrun, Result.andThen]
   exact hK' _ _ (h v' w' r1 r2 r3 r4)
theorem wpListIn_load_mid {F : Fence} {n1 : Nat} {w : World} {ops : Array Oper} {rest : List Oper} {o : Oper} {a : Go.Act} {Q : Exit → Go.Act → World → Prop} (hgd : o.guard = none) (ty : TypeId) (x : Operand) (ho : o.op = .load ty x)
 (b of : Nat) (hx : a.eval x = .pointer (some ⟨b, of, none⟩)) (cs : List Value) (d : TypeDesc) (hc : w.rangeAt b of cs)
 (hu : P.underlying ty = some d) (hd : d.isRow = true) (hi : (P.info? ty).map (·.size) = some cs.length)
 (h : wpListIn F n1 P ops Q rest (a.put o.dst (.agg cs.toArray)) w) : wpListIn F n1 P ops Q (o :: rest) a w := by
 refine wpListIn_plain hgd fun K hK' => ?_
 unfold Oper.wpIn
 refine ⟨?_, ?_⟩
 · simp [Oper.about, ho]
 · rw [Oper.semAt_plain F _ _ (by rw [ho]; intro c hc'; cases hc')]
   unfold execOp
   simp only [ho, hx, Instr.loadAt, Instr.sureAddr, Sem.run_bind, Sem.run_pure, Result.andThen_ok, run_loadVar_mid w b of ty cs d hc hu hd hi]
   exact hK' _ _ h
theorem wpListIn_store_mid {F : Fence} {n1 : Nat} {w : World} {ops : Array Oper} {rest : List Oper} {o : Oper} {a : Go.Act} {Q : Exit → Go.Act → World → Prop} (hgd : o.guard = none) (ty : TypeId) (x y : Operand) (ho : o.op = .store ty x y)
 (b of : Nat) (cells : Array Value) (hx : a.eval x = .pointer (some ⟨b, of, none⟩)) (hy : a.eval y = .agg cells)
 (ht : w.there b of cells.size) (hi : (P.info? ty).map (·.size) = some cells.size) (h1 : cells.all (·.oneCell') = true)
 (h : wpListIn F n1 P ops Q rest (a.put o.dst undef) (w.setCells b of cells.toList)) : wpListIn F n1 P ops Q (o :: rest) a w := by
 refine wpListIn_plain hgd fun K hK' => ?_
 unfold Oper.wpIn
 refine ⟨?_, ?_⟩
 · simp [Oper.about, ho]
 · rw [Oper.semAt_plain F _ _ (by rw [ho]; intro c hc'; cases hc')]
   unfold execOp
   simp only [ho, hx, hy, Instr.storeAt, Instr.sureAddr, Sem.run_bind, Sem.run_pure, Result.andThen_ok, run_storeVar_mid w b of ty cells ht hi h1]
   exact hK' _ _ h
theorem size_setCells (b : Nat) : ∀ (vs : List Value) (o : Nat) (w : World), (w.setCells b o vs).heap.size = w.heap.size
 | [], _, _ => rfl
 | v :: r, o, w => by rw [World.setCells, size_setCells b r (o + 1)]; simp [World.setCell]
theorem kept_new {w : World} {t : TypeId} (zs vs : List Value) (hl : zs.length = vs.length) :
 ∃ W, W = (w.alloc (.cells zs.toArray t)).setCells w.heap.size 0 vs ∧ (w.alloc (.cells zs.toArray t)).there w.heap.size 0 vs.toArray.size ∧ W.rangeAt w.heap.size 0 vs ∧ Below w.heap.size w W ∧ W.heap.size = w.heap.size + 1 := by
 have ht : (w.alloc (.cells zs.toArray t)).there w.heap.size 0 vs.length := by
  have := (Blk.new w t zs.toArray).there
  rwa [show zs.toArray.size = vs.length by simpa using hl] at this
 refine ⟨_, rfl, by simpa using ht, World.rangeAt_setCells_same _ _ _ _ ht, Below.setCells' _ _ ((Below.refl _ _).alloc (Nat.le_refl _) _) (Nat.le_refl _), ?_⟩
 rw [size_setCells, World.size_alloc]
theorem Blk.setCells_ {g : Nat} {t : TypeId} : ∀ (vs : List Value) (o : Nat) {w : World} {cs : Array Value}, Blk w g t cs → ∃ cs', Blk (w.setCells g o vs) g t cs' ∧ cs'.size = cs.size
 | [], _, _, cs, h => ⟨cs, h, rfl⟩
 | v :: vs, o, w, cs, h => by
   obtain ⟨cs', h1, h2⟩ := Blk.setCells_ vs (o + 1) (h.set_ o v)
   exact ⟨cs', h1, by rw [h2]; simp⟩
theorem kept_blk {w W : World} {t : TypeId} {zs vs : List Value} (hl : zs.length = vs.length) (hW : W = (w.alloc (.cells zs.toArray t)).setCells w.heap.size 0 vs) (hr : W.rangeAt w.heap.size 0 vs) : Blk W w.heap.size t vs.toArray := by
 obtain ⟨cs', h1, h2⟩ := Blk.setCells_ vs 0 (Blk.new w t zs.toArray)
 rw [← hW] at h1
 have e : cs' = vs.toArray := by
  apply Array.ext
  · rw [h2]; simpa using hl
  · intro i hi hj
    have hj' : i < vs.length := by simpa using hj
    have h3 := hr i vs[i] (List.getElem?_eq_getElem hj')
    rw [show (0 + i) = i by omega, h1.cell i, Array.getElem?_eq_getElem hi] at h3
    simpa using h3
 rw [← e]; exact h1
theorem grown_own {E : Nat → Prop} {X Y : World} {e : TypeId} {size n m : Nat} {A : Option Addr} {c : Nat} {v' : Value} {xs news : List Value} (hA : AIn A E) (hown' : Y.ownsRow 0 e size v' (n + m) (xs ++ news)) (hg : X.grownBy Y (Value.slice A n c).ownBlock)
 (hat : v'.ownBlock = (Value.slice A n c).ownBlock ∨ v'.ownBlock = some X.heap.size) : ∃ A' c', v' = .slice A' (n + m) c' ∧ Fr E X Y ∧ AIn A' (Plus E X Y) ∧ Y.ownsRow 0 e size (.slice A' (n + m) c') (n + m) (xs ++ news) := by
 obtain ⟨A', c', rfl, hc, _, hz⟩ := own_form2 hown'
 refine ⟨A', c', rfl, (Fr.refl E X).grown hg (fun k hk => ?_), fun a ha => ?_, hown'⟩
 · rcases A with _ | a
   · simp [Value.ownBlock] at hk
   · have e : a.block = k := by simpa [Value.ownBlock] using hk
     exact .inl (e ▸ hA a rfl)
 · subst ha
   rcases hat with h | h
   · rcases A with _ | b
     · simp [Value.ownBlock] at h
     · have e : a.block = b.block := by simpa [Value.ownBlock] using h
       exact .inl (e ▸ hA b rfl)
   · have e : a.block = X.heap.size := by simpa [Value.ownBlock] using h
     refine .inr ⟨by omega, ?_⟩
     rcases ownsRow_form hown' with ⟨hv, _⟩ | ⟨g, cap, hv, _, _, hr, _⟩
     · cases hv
     · injection hv with hv
       injection hv with hv
       subst hv
       exact hr.lt
end Go.Proofs.YtpndmjabjjbefaaGreat
namespace Go.Proofs.YtpndmjabjjbefaaGreat
open Go.RowKit Go.Shelf
set_option maxHeartbeats 1000000 in
theorem none_is (s : Sym) (w : World) : Calls Tryz.prog 132 #[.agg #[.int .i64 s.kind, .string s.text, .int .i64 s.n]] w fun e w' => e = .returned (.bool (noneB s)) ∧ Below w.heap.size w w' := by
 have hq : ∀ W : World, (binOp .eql 23 (.agg #[.int .i64 s.kind, .string s.text, .int .i64 s.n]) (.agg #[.int .i64 0, .string ⟨#[]⟩, .int .i64 0])).run Tryz.prog W = .ok (.bool (noneB s)) W := fun W => eql_sym s zS W
 go_enter Tryz.func132, Tryz.ntmps132
 go_wp2_with fail
 go_ret
 exact ⟨rfl, (Below.refl _ _).alloc (Nat.le_refl _) _⟩
theorem other_is (k : Int) (w : World) : Calls Tryz.prog 116 #[.int .i64 k] w fun e w' => e = .returned (.bool (otherB k)) ∧ w = w' := by
 have HV := Lib.hid (show otherB k = (k == 8 || k == 9 || k == 10) from rfl)
 go_enter Tryz.func116, Tryz.ntmps116
 go_wp2_with fail
 all_goals
  go_ret
  refine ⟨?_, rfl⟩
  rw [HV.out]
  refine ret_bool ?_
  simp_all
set_option maxRecDepth 100000 in
set_option maxHeartbeats 8000000 in
theorem constant_is (s : Sym) (w : World) : Calls Tryz.prog 133 #[.agg #[.int .i64 s.kind, .string s.text, .int .i64 s.n]] w fun e w' => e = .returned (.bool (constB s)) ∧ Below w.heap.size w w' := by
 obtain ⟨r, hr⟩ : ∃ r, r = constB s := ⟨_, rfl⟩
 rw [← hr]
 have HR := Lib.hid hr
 clear hr
 have HB := Lib.hid ((Below.refl w.heap.size w).alloc (Nat.le_refl _) (.cells #[.int .i64 s.kind, .string s.text, .int .i64 s.n] 23))
 go_enter Tryz.func133, Tryz.ntmps133
 obtain ⟨W1, hW1⟩ : ∃ W1, W1 = w.alloc (.cells #[.int .i64 s.kind, .string s.text, .int .i64 s.n] 23) := ⟨_, rfl⟩
 go_wp2_with (first
  | (go_at_call 58; refine (valid_is s _).mono ?_; rintro e w9 ⟨rfl, hb9⟩; have HB := Lib.hid (HB.out.trans (hb9.mono HB.out.size)); clear hb9))
 all_goals
  go_ret
  refine ⟨?_, by (first | exact HB.out | (exact (Below.refl _ _).alloc (Nat.le_refl _) _) | (simpa using HB.out))⟩
  rw [HR.out]
  refine ret_bool ?_
  first | (simp_all [constB]; done) | (simp_all [constB]; rfl)
set_option maxRecDepth 100000 in
set_option maxHeartbeats 8000000 in
theorem empty_is (a : AtomT) (w : World) : Calls Tryz.prog 117 #[.agg #[.string a.var, .int .i64 a.sym.kind, .string a.sym.text, .int .i64 a.sym.n]] w fun e w' => e = .returned (.bool (emptyB a)) ∧ Below w.heap.size w w' := by
 obtain ⟨r, hr⟩ : ∃ r, r = emptyB a := ⟨_, rfl⟩
 rw [← hr]
 have HR := Lib.hid hr
 clear hr
 have HB := Lib.hid ((Below.refl w.heap.size w).alloc (Nat.le_refl _) (.cells #[.string a.var, .int .i64 a.sym.kind, .string a.sym.text, .int .i64 a.sym.n] 25))
 go_enter Tryz.func117, Tryz.ntmps117
 obtain ⟨W1, hW1⟩ : ∃ W1, W1 = w.alloc (.cells #[.string a.var, .int .i64 a.sym.kind, .string a.sym.text, .int .i64 a.sym.n] 25) := ⟨_, rfl⟩
 go_wp2_with (first
  | (go_at_call 132; refine (none_is a.sym _).mono ?_; rintro e w9 ⟨rfl, hb9⟩; have HB := Lib.hid (HB.out.trans (hb9.mono HB.out.size)); clear hb9))
 all_goals
  go_ret
  refine ⟨?_, by (first | exact HB.out | (exact (Below.refl _ _).alloc (Nat.le_refl _) _) | (simpa using HB.out))⟩
  rw [HR.out]
  refine ret_bool ?_
  first | (simp_all [emptyB]; done) | (simp_all [emptyB]; rfl)
set_option maxRecDepth 100000 in
set_option maxHeartbeats 8000000 in
theorem wordA_is (a : AtomT) (w : World) : Calls Tryz.prog 134 #[.agg #[.string a.var, .int .i64 a.sym.kind, .string a.sym.text, .int .i64 a.sym.n]] w fun e w' => e = .returned (.bool (wordAB a)) ∧ Below w.heap.size w w' := by
 obtain ⟨r, hr⟩ : ∃ r, r = wordAB a := ⟨_, rfl⟩
 rw [← hr]
 have HR := Lib.hid hr
 clear hr
 have HB := Lib.hid ((Below.refl w.heap.size w).alloc (Nat.le_refl _) (.cells #[.string a.var, .int .i64 a.sym.kind, .string a.sym.text, .int .i64 a.sym.n] 25))
 go_enter Tryz.func134, Tryz.ntmps134
 obtain ⟨W1, hW1⟩ : ∃ W1, W1 = w.alloc (.cells #[.string a.var, .int .i64 a.sym.kind, .string a.sym.text, .int .i64 a.sym.n] 25) := ⟨_, rfl⟩
 go_wp2_with (first
  | fail)
 all_goals
  go_ret
  refine ⟨?_, by (first | exact HB.out | (exact (Below.refl _ _).alloc (Nat.le_refl _) _) | (simpa using HB.out))⟩
  rw [HR.out]
  refine ret_bool ?_
  first | (simp_all [wordAB]; done) | (simp_all [wordAB]; rfl)
set_option maxRecDepth 100000 in
set_option maxHeartbeats 8000000 in
theorem atomS_is (a : AtomT) (w : World) : Calls Tryz.prog 114 #[.agg #[.string a.var, .int .i64 a.sym.kind, .string a.sym.text, .int .i64 a.sym.n]] w fun e w' => e = .returned (.bool (atomB a)) ∧ Below w.heap.size w w' := by
 obtain ⟨r, hr⟩ : ∃ r, r = atomB a := ⟨_, rfl⟩
 rw [← hr]
 have HR := Lib.hid hr
 clear hr
 have HB := Lib.hid ((Below.refl w.heap.size w).alloc (Nat.le_refl _) (.cells #[.string a.var, .int .i64 a.sym.kind, .string a.sym.text, .int .i64 a.sym.n] 25))
 go_enter Tryz.func114, Tryz.ntmps114
 obtain ⟨W1, hW1⟩ : ∃ W1, W1 = w.alloc (.cells #[.string a.var, .int .i64 a.sym.kind, .string a.sym.text, .int .i64 a.sym.n] 25) := ⟨_, rfl⟩
 go_wp2_with (first
  | (go_at_call 132; refine (none_is a.sym _).mono ?_; rintro e w9 ⟨rfl, hb9⟩; have HB := Lib.hid (HB.out.trans (hb9.mono HB.out.size)); clear hb9)
  | (go_at_call 133; refine (constant_is a.sym _).mono ?_; rintro e w9 ⟨rfl, hb9⟩; have HB := Lib.hid (HB.out.trans (hb9.mono HB.out.size)); clear hb9)
  | (go_at_call 81; refine (word_is a.var _).mono ?_; rintro e w9 ⟨rfl, rfl⟩))
 all_goals
  go_ret
  refine ⟨?_, by (first | exact HB.out | (exact (Below.refl _ _).alloc (Nat.le_refl _) _) | (simpa using HB.out))⟩
  rw [HR.out]
  refine ret_bool ?_
  first | (simp_all [atomB]; done) | (simp_all [atomB]; rfl)
set_option maxRecDepth 100000 in
set_option maxHeartbeats 8000000 in
theorem term_is (t : TermT) (w : World) : Calls Tryz.prog 115 #[.agg #[.int .i64 t.op, .string t.a.var, .int .i64 t.a.sym.kind, .string t.a.sym.text, .int .i64 t.a.sym.n, .string t.b.var, .int .i64 t.b.sym.kind, .string t.b.sym.text, .int .i64 t.b.sym.n]] w fun e w' => e = .returned (.bool (termB t)) ∧ Below w.heap.size w w' := by
 by_cases c0 : t.op < 0
 · have t0 : decide (t.op < 0) = true := by simp [*]
   have HR := Lib.hid (show termB t = false by simp [termB, *])
   clear c0
   go_enter Tryz.func115, Tryz.ntmps115
   go_upto_region 1 with fail
   obtain ⟨W1, hW1⟩ : ∃ W1, W1 = w.alloc (.cells #[.int .i64 t.op, .string t.a.var, .int .i64 t.a.sym.kind, .string t.a.sym.text, .int .i64 t.a.sym.n, .string t.b.var, .int .i64 t.b.sym.kind, .string t.b.sym.text, .int .i64 t.b.sym.n] 27) := ⟨_, rfl⟩
   rw [← hW1]
   have hBk : Blk W1 w.heap.size 27 #[.int .i64 t.op, .string t.a.var, .int .i64 t.a.sym.kind, .string t.a.sym.text, .int .i64 t.a.sym.n, .string t.b.var, .int .i64 t.b.sym.kind, .string t.b.sym.text, .int .i64 t.b.sym.n] := by rw [hW1]; exact Blk.new _ _ _
   have HB := Lib.hid (show Below w.heap.size w W1 by rw [hW1]; exact (Below.refl _ _).alloc (Nat.le_refl _) _)
   have e0 : W1.cell? ⟨w.heap.size, 0, none⟩ = some (.int .i64 t.op) := (hBk.cell 0).trans rfl
   have e1 : W1.cell? ⟨w.heap.size, 1, none⟩ = some (.string t.a.var) := (hBk.cell 1).trans rfl
   have e2 : W1.cell? ⟨w.heap.size, 2, none⟩ = some (.int .i64 t.a.sym.kind) := (hBk.cell 2).trans rfl
   have e3 : W1.cell? ⟨w.heap.size, 3, none⟩ = some (.string t.a.sym.text) := (hBk.cell 3).trans rfl
   have e4 : W1.cell? ⟨w.heap.size, 4, none⟩ = some (.int .i64 t.a.sym.n) := (hBk.cell 4).trans rfl
   have e5 : W1.cell? ⟨w.heap.size, 5, none⟩ = some (.string t.b.var) := (hBk.cell 5).trans rfl
   have e6 : W1.cell? ⟨w.heap.size, 6, none⟩ = some (.int .i64 t.b.sym.kind) := (hBk.cell 6).trans rfl
   have e7 : W1.cell? ⟨w.heap.size, 7, none⟩ = some (.string t.b.sym.text) := (hBk.cell 7).trans rfl
   have e8 : W1.cell? ⟨w.heap.size, 8, none⟩ = some (.int .i64 t.b.sym.n) := (hBk.cell 8).trans rfl
   have hbl := hBk.lt
   clear hW1 hBk
   go_wp2_with (first
    | (go_at_call 117; refine (empty_is t.b _).mono ?_; rintro e w9 ⟨rfl, hb9⟩; have HB := Lib.hid (HB.out.trans (hb9.mono HB.out.size)); replace e0 := (hb9.cell (p := ⟨w.heap.size, 0, none⟩) hbl).trans e0; replace e1 := (hb9.cell (p := ⟨w.heap.size, 1, none⟩) hbl).trans e1; replace e2 := (hb9.cell (p := ⟨w.heap.size, 2, none⟩) hbl).trans e2; replace e3 := (hb9.cell (p := ⟨w.heap.size, 3, none⟩) hbl).trans e3; replace e4 := (hb9.cell (p := ⟨w.heap.size, 4, none⟩) hbl).trans e4; replace e5 := (hb9.cell (p := ⟨w.heap.size, 5, none⟩) hbl).trans e5; replace e6 := (hb9.cell (p := ⟨w.heap.size, 6, none⟩) hbl).trans e6; replace e7 := (hb9.cell (p := ⟨w.heap.size, 7, none⟩) hbl).trans e7; replace e8 := (hb9.cell (p := ⟨w.heap.size, 8, none⟩) hbl).trans e8; replace hbl := Nat.lt_of_lt_of_le hbl hb9.size; clear hb9)
    | (go_at_call 114; (first | (with_reducible refine (atomS_is t.a _).mono ?_) | (with_reducible refine (atomS_is t.b _).mono ?_)); rintro e w9 ⟨rfl, hb9⟩; have HB := Lib.hid (HB.out.trans (hb9.mono HB.out.size)); replace e0 := (hb9.cell (p := ⟨w.heap.size, 0, none⟩) hbl).trans e0; replace e1 := (hb9.cell (p := ⟨w.heap.size, 1, none⟩) hbl).trans e1; replace e2 := (hb9.cell (p := ⟨w.heap.size, 2, none⟩) hbl).trans e2; replace e3 := (hb9.cell (p := ⟨w.heap.size, 3, none⟩) hbl).trans e3; replace e4 := (hb9.cell (p := ⟨w.heap.size, 4, none⟩) hbl).trans e4; replace e5 := (hb9.cell (p := ⟨w.heap.size, 5, none⟩) hbl).trans e5; replace e6 := (hb9.cell (p := ⟨w.heap.size, 6, none⟩) hbl).trans e6; replace e7 := (hb9.cell (p := ⟨w.heap.size, 7, none⟩) hbl).trans e7; replace e8 := (hb9.cell (p := ⟨w.heap.size, 8, none⟩) hbl).trans e8; replace hbl := Nat.lt_of_lt_of_le hbl hb9.size; clear hb9)
    | (go_at_call 134; (first | (with_reducible refine (wordA_is t.a _).mono ?_) | (with_reducible refine (wordA_is t.b _).mono ?_)); rintro e w9 ⟨rfl, hb9⟩; have HB := Lib.hid (HB.out.trans (hb9.mono HB.out.size)); replace e0 := (hb9.cell (p := ⟨w.heap.size, 0, none⟩) hbl).trans e0; replace e1 := (hb9.cell (p := ⟨w.heap.size, 1, none⟩) hbl).trans e1; replace e2 := (hb9.cell (p := ⟨w.heap.size, 2, none⟩) hbl).trans e2; replace e3 := (hb9.cell (p := ⟨w.heap.size, 3, none⟩) hbl).trans e3; replace e4 := (hb9.cell (p := ⟨w.heap.size, 4, none⟩) hbl).trans e4; replace e5 := (hb9.cell (p := ⟨w.heap.size, 5, none⟩) hbl).trans e5; replace e6 := (hb9.cell (p := ⟨w.heap.size, 6, none⟩) hbl).trans e6; replace e7 := (hb9.cell (p := ⟨w.heap.size, 7, none⟩) hbl).trans e7; replace e8 := (hb9.cell (p := ⟨w.heap.size, 8, none⟩) hbl).trans e8; replace hbl := Nat.lt_of_lt_of_le hbl hb9.size; clear hb9))
   go_ret
   exact ⟨by rw [HR.out] <;> rfl, by (first | exact HB.out | (exact (Below.refl _ _).alloc (Nat.le_refl _) _) | (simpa using HB.out))⟩
 by_cases c1 : 3 < t.op
 · have t0 : decide (t.op < 0) = false := by simp; omega
   have t1 : decide (3 < t.op) = true := by simp [*]
   have HR := Lib.hid (show termB t = false by simp [termB, *])
   clear c0 c1
   go_enter Tryz.func115, Tryz.ntmps115
   go_upto_region 1 with fail
   obtain ⟨W1, hW1⟩ : ∃ W1, W1 = w.alloc (.cells #[.int .i64 t.op, .string t.a.var, .int .i64 t.a.sym.kind, .string t.a.sym.text, .int .i64 t.a.sym.n, .string t.b.var, .int .i64 t.b.sym.kind, .string t.b.sym.text, .int .i64 t.b.sym.n] 27) := ⟨_, rfl⟩
   rw [← hW1]
   have hBk : Blk W1 w.heap.size 27 #[.int .i64 t.op, .string t.a.var, .int .i64 t.a.sym.kind, .string t.a.sym.text, .int .i64 t.a.sym.n, .string t.b.var, .int .i64 t.b.sym.kind, .string t.b.sym.text, .int .i64 t.b.sym.n] := by rw [hW1]; exact Blk.new _ _ _
   have HB := Lib.hid (show Below w.heap.size w W1 by rw [hW1]; exact (Below.refl _ _).alloc (Nat.le_refl _) _)
   have e0 : W1.cell? ⟨w.heap.size, 0, none⟩ = some (.int .i64 t.op) := (hBk.cell 0).trans rfl
   have e1 : W1.cell? ⟨w.heap.size, 1, none⟩ = some (.string t.a.var) := (hBk.cell 1).trans rfl
   have e2 : W1.cell? ⟨w.heap.size, 2, none⟩ = some (.int .i64 t.a.sym.kind) := (hBk.cell 2).trans rfl
   have e3 : W1.cell? ⟨w.heap.size, 3, none⟩ = some (.string t.a.sym.text) := (hBk.cell 3).trans rfl
   have e4 : W1.cell? ⟨w.heap.size, 4, none⟩ = some (.int .i64 t.a.sym.n) := (hBk.cell 4).trans rfl
   have e5 : W1.cell? ⟨w.heap.size, 5, none⟩ = some (.string t.b.var) := (hBk.cell 5).trans rfl
   have e6 : W1.cell? ⟨w.heap.size, 6, none⟩ = some (.int .i64 t.b.sym.kind) := (hBk.cell 6).trans rfl
   have e7 : W1.cell? ⟨w.heap.size, 7, none⟩ = some (.string t.b.sym.text) := (hBk.cell 7).trans rfl
   have e8 : W1.cell? ⟨w.heap.size, 8, none⟩ = some (.int .i64 t.b.sym.n) := (hBk.cell 8).trans rfl
   have hbl := hBk.lt
   clear hW1 hBk
   go_wp2_with (first
    | (go_at_call 117; refine (empty_is t.b _).mono ?_; rintro e w9 ⟨rfl, hb9⟩; have HB := Lib.hid (HB.out.trans (hb9.mono HB.out.size)); replace e0 := (hb9.cell (p := ⟨w.heap.size, 0, none⟩) hbl).trans e0; replace e1 := (hb9.cell (p := ⟨w.heap.size, 1, none⟩) hbl).trans e1; replace e2 := (hb9.cell (p := ⟨w.heap.size, 2, none⟩) hbl).trans e2; replace e3 := (hb9.cell (p := ⟨w.heap.size, 3, none⟩) hbl).trans e3; replace e4 := (hb9.cell (p := ⟨w.heap.size, 4, none⟩) hbl).trans e4; replace e5 := (hb9.cell (p := ⟨w.heap.size, 5, none⟩) hbl).trans e5; replace e6 := (hb9.cell (p := ⟨w.heap.size, 6, none⟩) hbl).trans e6; replace e7 := (hb9.cell (p := ⟨w.heap.size, 7, none⟩) hbl).trans e7; replace e8 := (hb9.cell (p := ⟨w.heap.size, 8, none⟩) hbl).trans e8; replace hbl := Nat.lt_of_lt_of_le hbl hb9.size; clear hb9)
    | (go_at_call 114; (first | (with_reducible refine (atomS_is t.a _).mono ?_) | (with_reducible refine (atomS_is t.b _).mono ?_)); rintro e w9 ⟨rfl, hb9⟩; have HB := Lib.hid (HB.out.trans (hb9.mono HB.out.size)); replace e0 := (hb9.cell (p := ⟨w.heap.size, 0, none⟩) hbl).trans e0; replace e1 := (hb9.cell (p := ⟨w.heap.size, 1, none⟩) hbl).trans e1; replace e2 := (hb9.cell (p := ⟨w.heap.size, 2, none⟩) hbl).trans e2; replace e3 := (hb9.cell (p := ⟨w.heap.size, 3, none⟩) hbl).trans e3; replace e4 := (hb9.cell (p := ⟨w.heap.size, 4, none⟩) hbl).trans e4; replace e5 := (hb9.cell (p := ⟨w.heap.size, 5, none⟩) hbl).trans e5; replace e6 := (hb9.cell (p := ⟨w.heap.size, 6, none⟩) hbl).trans e6; replace e7 := (hb9.cell (p := ⟨w.heap.size, 7, none⟩) hbl).trans e7; replace e8 := (hb9.cell (p := ⟨w.heap.size, 8, none⟩) hbl).trans e8; replace hbl := Nat.lt_of_lt_of_le hbl hb9.size; clear hb9)
    | (go_at_call 134; (first | (with_reducible refine (wordA_is t.a _).mono ?_) | (with_reducible refine (wordA_is t.b _).mono ?_)); rintro e w9 ⟨rfl, hb9⟩; have HB := Lib.hid (HB.out.trans (hb9.mono HB.out.size)); replace e0 := (hb9.cell (p := ⟨w.heap.size, 0, none⟩) hbl).trans e0; replace e1 := (hb9.cell (p := ⟨w.heap.size, 1, none⟩) hbl).trans e1; replace e2 := (hb9.cell (p := ⟨w.heap.size, 2, none⟩) hbl).trans e2; replace e3 := (hb9.cell (p := ⟨w.heap.size, 3, none⟩) hbl).trans e3; replace e4 := (hb9.cell (p := ⟨w.heap.size, 4, none⟩) hbl).trans e4; replace e5 := (hb9.cell (p := ⟨w.heap.size, 5, none⟩) hbl).trans e5; replace e6 := (hb9.cell (p := ⟨w.heap.size, 6, none⟩) hbl).trans e6; replace e7 := (hb9.cell (p := ⟨w.heap.size, 7, none⟩) hbl).trans e7; replace e8 := (hb9.cell (p := ⟨w.heap.size, 8, none⟩) hbl).trans e8; replace hbl := Nat.lt_of_lt_of_le hbl hb9.size; clear hb9))
   go_ret
   exact ⟨by rw [HR.out] <;> rfl, by (first | exact HB.out | (exact (Below.refl _ _).alloc (Nat.le_refl _) _) | (simpa using HB.out))⟩
 by_cases c2 : atomB t.a = false
 · have t0 : decide (t.op < 0) = false := by simp; omega
   have t1 : decide (3 < t.op) = false := by simp; omega
   have t2 := c2
   have HR := Lib.hid (show termB t = false by simp [termB, *])
   clear c0 c1 c2
   go_enter Tryz.func115, Tryz.ntmps115
   go_upto_region 1 with fail
   obtain ⟨W1, hW1⟩ : ∃ W1, W1 = w.alloc (.cells #[.int .i64 t.op, .string t.a.var, .int .i64 t.a.sym.kind, .string t.a.sym.text, .int .i64 t.a.sym.n, .string t.b.var, .int .i64 t.b.sym.kind, .string t.b.sym.text, .int .i64 t.b.sym.n] 27) := ⟨_, rfl⟩
   rw [← hW1]
   have hBk : Blk W1 w.heap.size 27 #[.int .i64 t.op, .string t.a.var, .int .i64 t.a.sym.kind, .string t.a.sym.text, .int .i64 t.a.sym.n, .string t.b.var, .int .i64 t.b.sym.kind, .string t.b.sym.text, .int .i64 t.b.sym.n] := by rw [hW1]; exact Blk.new _ _ _
   have HB := Lib.hid (show Below w.heap.size w W1 by rw [hW1]; exact (Below.refl _ _).alloc (Nat.le_refl _) _)
   have e0 : W1.cell? ⟨w.heap.size, 0, none⟩ = some (.int .i64 t.op) := (hBk.cell 0).trans rfl
   have e1 : W1.cell? ⟨w.heap.size, 1, none⟩ = some (.string t.a.var) := (hBk.cell 1).trans rfl
   have e2 : W1.cell? ⟨w.heap.size, 2, none⟩ = some (.int .i64 t.a.sym.kind) := (hBk.cell 2).trans rfl
   have e3 : W1.cell? ⟨w.heap.size, 3, none⟩ = some (.string t.a.sym.text) := (hBk.cell 3).trans rfl
   have e4 : W1.cell? ⟨w.heap.size, 4, none⟩ = some (.int .i64 t.a.sym.n) := (hBk.cell 4).trans rfl
   have e5 : W1.cell? ⟨w.heap.size, 5, none⟩ = some (.string t.b.var) := (hBk.cell 5).trans rfl
   have e6 : W1.cell? ⟨w.heap.size, 6, none⟩ = some (.int .i64 t.b.sym.kind) := (hBk.cell 6).trans rfl
   have e7 : W1.cell? ⟨w.heap.size, 7, none⟩ = some (.string t.b.sym.text) := (hBk.cell 7).trans rfl
   have e8 : W1.cell? ⟨w.heap.size, 8, none⟩ = some (.int .i64 t.b.sym.n) := (hBk.cell 8).trans rfl
   have hbl := hBk.lt
   clear hW1 hBk
   go_wp2_with (first
    | (go_at_call 117; refine (empty_is t.b _).mono ?_; rintro e w9 ⟨rfl, hb9⟩; have HB := Lib.hid (HB.out.trans (hb9.mono HB.out.size)); replace e0 := (hb9.cell (p := ⟨w.heap.size, 0, none⟩) hbl).trans e0; replace e1 := (hb9.cell (p := ⟨w.heap.size, 1, none⟩) hbl).trans e1; replace e2 := (hb9.cell (p := ⟨w.heap.size, 2, none⟩) hbl).trans e2; replace e3 := (hb9.cell (p := ⟨w.heap.size, 3, none⟩) hbl).trans e3; replace e4 := (hb9.cell (p := ⟨w.heap.size, 4, none⟩) hbl).trans e4; replace e5 := (hb9.cell (p := ⟨w.heap.size, 5, none⟩) hbl).trans e5; replace e6 := (hb9.cell (p := ⟨w.heap.size, 6, none⟩) hbl).trans e6; replace e7 := (hb9.cell (p := ⟨w.heap.size, 7, none⟩) hbl).trans e7; replace e8 := (hb9.cell (p := ⟨w.heap.size, 8, none⟩) hbl).trans e8; replace hbl := Nat.lt_of_lt_of_le hbl hb9.size; clear hb9)
    | (go_at_call 114; (first | (with_reducible refine (atomS_is t.a _).mono ?_) | (with_reducible refine (atomS_is t.b _).mono ?_)); rintro e w9 ⟨rfl, hb9⟩; have HB := Lib.hid (HB.out.trans (hb9.mono HB.out.size)); replace e0 := (hb9.cell (p := ⟨w.heap.size, 0, none⟩) hbl).trans e0; replace e1 := (hb9.cell (p := ⟨w.heap.size, 1, none⟩) hbl).trans e1; replace e2 := (hb9.cell (p := ⟨w.heap.size, 2, none⟩) hbl).trans e2; replace e3 := (hb9.cell (p := ⟨w.heap.size, 3, none⟩) hbl).trans e3; replace e4 := (hb9.cell (p := ⟨w.heap.size, 4, none⟩) hbl).trans e4; replace e5 := (hb9.cell (p := ⟨w.heap.size, 5, none⟩) hbl).trans e5; replace e6 := (hb9.cell (p := ⟨w.heap.size, 6, none⟩) hbl).trans e6; replace e7 := (hb9.cell (p := ⟨w.heap.size, 7, none⟩) hbl).trans e7; replace e8 := (hb9.cell (p := ⟨w.heap.size, 8, none⟩) hbl).trans e8; replace hbl := Nat.lt_of_lt_of_le hbl hb9.size; clear hb9)
    | (go_at_call 134; (first | (with_reducible refine (wordA_is t.a _).mono ?_) | (with_reducible refine (wordA_is t.b _).mono ?_)); rintro e w9 ⟨rfl, hb9⟩; have HB := Lib.hid (HB.out.trans (hb9.mono HB.out.size)); replace e0 := (hb9.cell (p := ⟨w.heap.size, 0, none⟩) hbl).trans e0; replace e1 := (hb9.cell (p := ⟨w.heap.size, 1, none⟩) hbl).trans e1; replace e2 := (hb9.cell (p := ⟨w.heap.size, 2, none⟩) hbl).trans e2; replace e3 := (hb9.cell (p := ⟨w.heap.size, 3, none⟩) hbl).trans e3; replace e4 := (hb9.cell (p := ⟨w.heap.size, 4, none⟩) hbl).trans e4; replace e5 := (hb9.cell (p := ⟨w.heap.size, 5, none⟩) hbl).trans e5; replace e6 := (hb9.cell (p := ⟨w.heap.size, 6, none⟩) hbl).trans e6; replace e7 := (hb9.cell (p := ⟨w.heap.size, 7, none⟩) hbl).trans e7; replace e8 := (hb9.cell (p := ⟨w.heap.size, 8, none⟩) hbl).trans e8; replace hbl := Nat.lt_of_lt_of_le hbl hb9.size; clear hb9))
   go_ret
   exact ⟨by rw [HR.out] <;> rfl, by (first | exact HB.out | (exact (Below.refl _ _).alloc (Nat.le_refl _) _) | (simpa using HB.out))⟩
 by_cases c3 : t.op = 0
 · have t0 : decide (t.op < 0) = false := by simp; omega
   have t1 : decide (3 < t.op) = false := by simp; omega
   have t2 : atomB t.a = true := by simpa using c2
   have t3 : decide (t.op = 0) = true := by simp [*]
   have t3b : (t.op == 0) = true := by simp [*]
   have HR := Lib.hid (show termB t = emptyB t.b by simp [termB, *])
   clear c0 c1 c2 c3
   go_enter Tryz.func115, Tryz.ntmps115
   go_upto_region 1 with fail
   obtain ⟨W1, hW1⟩ : ∃ W1, W1 = w.alloc (.cells #[.int .i64 t.op, .string t.a.var, .int .i64 t.a.sym.kind, .string t.a.sym.text, .int .i64 t.a.sym.n, .string t.b.var, .int .i64 t.b.sym.kind, .string t.b.sym.text, .int .i64 t.b.sym.n] 27) := ⟨_, rfl⟩
   rw [← hW1]
   have hBk : Blk W1 w.heap.size 27 #[.int .i64 t.op, .string t.a.var, .int .i64 t.a.sym.kind, .string t.a.sym.text, .int .i64 t.a.sym.n, .string t.b.var, .int .i64 t.b.sym.kind, .string t.b.sym.text, .int .i64 t.b.sym.n] := by rw [hW1]; exact Blk.new _ _ _
   have HB := Lib.hid (show Below w.heap.size w W1 by rw [hW1]; exact (Below.refl _ _).alloc (Nat.le_refl _) _)
   have e0 : W1.cell? ⟨w.heap.size, 0, none⟩ = some (.int .i64 t.op) := (hBk.cell 0).trans rfl
   have e1 : W1.cell? ⟨w.heap.size, 1, none⟩ = some (.string t.a.var) := (hBk.cell 1).trans rfl
   have e2 : W1.cell? ⟨w.heap.size, 2, none⟩ = some (.int .i64 t.a.sym.kind) := (hBk.cell 2).trans rfl
   have e3 : W1.cell? ⟨w.heap.size, 3, none⟩ = some (.string t.a.sym.text) := (hBk.cell 3).trans rfl
   have e4 : W1.cell? ⟨w.heap.size, 4, none⟩ = some (.int .i64 t.a.sym.n) := (hBk.cell 4).trans rfl
   have e5 : W1.cell? ⟨w.heap.size, 5, none⟩ = some (.string t.b.var) := (hBk.cell 5).trans rfl
   have e6 : W1.cell? ⟨w.heap.size, 6, none⟩ = some (.int .i64 t.b.sym.kind) := (hBk.cell 6).trans rfl
   have e7 : W1.cell? ⟨w.heap.size, 7, none⟩ = some (.string t.b.sym.text) := (hBk.cell 7).trans rfl
   have e8 : W1.cell? ⟨w.heap.size, 8, none⟩ = some (.int .i64 t.b.sym.n) := (hBk.cell 8).trans rfl
   have hbl := hBk.lt
   clear hW1 hBk
   go_wp2_with (first
    | (go_at_call 117; refine (empty_is t.b _).mono ?_; rintro e w9 ⟨rfl, hb9⟩; have HB := Lib.hid (HB.out.trans (hb9.mono HB.out.size)); replace e0 := (hb9.cell (p := ⟨w.heap.size, 0, none⟩) hbl).trans e0; replace e1 := (hb9.cell (p := ⟨w.heap.size, 1, none⟩) hbl).trans e1; replace e2 := (hb9.cell (p := ⟨w.heap.size, 2, none⟩) hbl).trans e2; replace e3 := (hb9.cell (p := ⟨w.heap.size, 3, none⟩) hbl).trans e3; replace e4 := (hb9.cell (p := ⟨w.heap.size, 4, none⟩) hbl).trans e4; replace e5 := (hb9.cell (p := ⟨w.heap.size, 5, none⟩) hbl).trans e5; replace e6 := (hb9.cell (p := ⟨w.heap.size, 6, none⟩) hbl).trans e6; replace e7 := (hb9.cell (p := ⟨w.heap.size, 7, none⟩) hbl).trans e7; replace e8 := (hb9.cell (p := ⟨w.heap.size, 8, none⟩) hbl).trans e8; replace hbl := Nat.lt_of_lt_of_le hbl hb9.size; clear hb9)
    | (go_at_call 114; (first | (with_reducible refine (atomS_is t.a _).mono ?_) | (with_reducible refine (atomS_is t.b _).mono ?_)); rintro e w9 ⟨rfl, hb9⟩; have HB := Lib.hid (HB.out.trans (hb9.mono HB.out.size)); replace e0 := (hb9.cell (p := ⟨w.heap.size, 0, none⟩) hbl).trans e0; replace e1 := (hb9.cell (p := ⟨w.heap.size, 1, none⟩) hbl).trans e1; replace e2 := (hb9.cell (p := ⟨w.heap.size, 2, none⟩) hbl).trans e2; replace e3 := (hb9.cell (p := ⟨w.heap.size, 3, none⟩) hbl).trans e3; replace e4 := (hb9.cell (p := ⟨w.heap.size, 4, none⟩) hbl).trans e4; replace e5 := (hb9.cell (p := ⟨w.heap.size, 5, none⟩) hbl).trans e5; replace e6 := (hb9.cell (p := ⟨w.heap.size, 6, none⟩) hbl).trans e6; replace e7 := (hb9.cell (p := ⟨w.heap.size, 7, none⟩) hbl).trans e7; replace e8 := (hb9.cell (p := ⟨w.heap.size, 8, none⟩) hbl).trans e8; replace hbl := Nat.lt_of_lt_of_le hbl hb9.size; clear hb9)
    | (go_at_call 134; (first | (with_reducible refine (wordA_is t.a _).mono ?_) | (with_reducible refine (wordA_is t.b _).mono ?_)); rintro e w9 ⟨rfl, hb9⟩; have HB := Lib.hid (HB.out.trans (hb9.mono HB.out.size)); replace e0 := (hb9.cell (p := ⟨w.heap.size, 0, none⟩) hbl).trans e0; replace e1 := (hb9.cell (p := ⟨w.heap.size, 1, none⟩) hbl).trans e1; replace e2 := (hb9.cell (p := ⟨w.heap.size, 2, none⟩) hbl).trans e2; replace e3 := (hb9.cell (p := ⟨w.heap.size, 3, none⟩) hbl).trans e3; replace e4 := (hb9.cell (p := ⟨w.heap.size, 4, none⟩) hbl).trans e4; replace e5 := (hb9.cell (p := ⟨w.heap.size, 5, none⟩) hbl).trans e5; replace e6 := (hb9.cell (p := ⟨w.heap.size, 6, none⟩) hbl).trans e6; replace e7 := (hb9.cell (p := ⟨w.heap.size, 7, none⟩) hbl).trans e7; replace e8 := (hb9.cell (p := ⟨w.heap.size, 8, none⟩) hbl).trans e8; replace hbl := Nat.lt_of_lt_of_le hbl hb9.size; clear hb9))
   go_ret
   exact ⟨by rw [HR.out] <;> rfl, by (first | exact HB.out | (exact (Below.refl _ _).alloc (Nat.le_refl _) _) | (simpa using HB.out))⟩
 by_cases c4 : atomB t.b = false
 · have t0 : decide (t.op < 0) = false := by simp; omega
   have t1 : decide (3 < t.op) = false := by simp; omega
   have t2 : atomB t.a = true := by simpa using c2
   have t3 : decide (t.op = 0) = false := by simp [*]
   have t3b : (t.op == 0) = false := by simp [*]
   have t4 := c4
   have HR := Lib.hid (show termB t = false by simp [termB, *])
   clear c0 c1 c2 c3 c4
   go_enter Tryz.func115, Tryz.ntmps115
   go_upto_region 1 with fail
   obtain ⟨W1, hW1⟩ : ∃ W1, W1 = w.alloc (.cells #[.int .i64 t.op, .string t.a.var, .int .i64 t.a.sym.kind, .string t.a.sym.text, .int .i64 t.a.sym.n, .string t.b.var, .int .i64 t.b.sym.kind, .string t.b.sym.text, .int .i64 t.b.sym.n] 27) := ⟨_, rfl⟩
   rw [← hW1]
   have hBk : Blk W1 w.heap.size 27 #[.int .i64 t.op, .string t.a.var, .int .i64 t.a.sym.kind, .string t.a.sym.text, .int .i64 t.a.sym.n, .string t.b.var, .int .i64 t.b.sym.kind, .string t.b.sym.text, .int .i64 t.b.sym.n] := by rw [hW1]; exact Blk.new _ _ _
   have HB := Lib.hid (show Below w.heap.size w W1 by rw [hW1]; exact (Below.refl _ _).alloc (Nat.le_refl _) _)
   have e0 : W1.cell? ⟨w.heap.size, 0, none⟩ = some (.int .i64 t.op) := (hBk.cell 0).trans rfl
   have e1 : W1.cell? ⟨w.heap.size, 1, none⟩ = some (.string t.a.var) := (hBk.cell 1).trans rfl
   have e2 : W1.cell? ⟨w.heap.size, 2, none⟩ = some (.int .i64 t.a.sym.kind) := (hBk.cell 2).trans rfl
   have e3 : W1.cell? ⟨w.heap.size, 3, none⟩ = some (.string t.a.sym.text) := (hBk.cell 3).trans rfl
   have e4 : W1.cell? ⟨w.heap.size, 4, none⟩ = some (.int .i64 t.a.sym.n) := (hBk.cell 4).trans rfl
   have e5 : W1.cell? ⟨w.heap.size, 5, none⟩ = some (.string t.b.var) := (hBk.cell 5).trans rfl
   have e6 : W1.cell? ⟨w.heap.size, 6, none⟩ = some (.int .i64 t.b.sym.kind) := (hBk.cell 6).trans rfl
   have e7 : W1.cell? ⟨w.heap.size, 7, none⟩ = some (.string t.b.sym.text) := (hBk.cell 7).trans rfl
   have e8 : W1.cell? ⟨w.heap.size, 8, none⟩ = some (.int .i64 t.b.sym.n) := (hBk.cell 8).trans rfl
   have hbl := hBk.lt
   clear hW1 hBk
   go_wp2_with (first
    | (go_at_call 117; refine (empty_is t.b _).mono ?_; rintro e w9 ⟨rfl, hb9⟩; have HB := Lib.hid (HB.out.trans (hb9.mono HB.out.size)); replace e0 := (hb9.cell (p := ⟨w.heap.size, 0, none⟩) hbl).trans e0; replace e1 := (hb9.cell (p := ⟨w.heap.size, 1, none⟩) hbl).trans e1; replace e2 := (hb9.cell (p := ⟨w.heap.size, 2, none⟩) hbl).trans e2; replace e3 := (hb9.cell (p := ⟨w.heap.size, 3, none⟩) hbl).trans e3; replace e4 := (hb9.cell (p := ⟨w.heap.size, 4, none⟩) hbl).trans e4; replace e5 := (hb9.cell (p := ⟨w.heap.size, 5, none⟩) hbl).trans e5; replace e6 := (hb9.cell (p := ⟨w.heap.size, 6, none⟩) hbl).trans e6; replace e7 := (hb9.cell (p := ⟨w.heap.size, 7, none⟩) hbl).trans e7; replace e8 := (hb9.cell (p := ⟨w.heap.size, 8, none⟩) hbl).trans e8; replace hbl := Nat.lt_of_lt_of_le hbl hb9.size; clear hb9)
    | (go_at_call 114; (first | (with_reducible refine (atomS_is t.a _).mono ?_) | (with_reducible refine (atomS_is t.b _).mono ?_)); rintro e w9 ⟨rfl, hb9⟩; have HB := Lib.hid (HB.out.trans (hb9.mono HB.out.size)); replace e0 := (hb9.cell (p := ⟨w.heap.size, 0, none⟩) hbl).trans e0; replace e1 := (hb9.cell (p := ⟨w.heap.size, 1, none⟩) hbl).trans e1; replace e2 := (hb9.cell (p := ⟨w.heap.size, 2, none⟩) hbl).trans e2; replace e3 := (hb9.cell (p := ⟨w.heap.size, 3, none⟩) hbl).trans e3; replace e4 := (hb9.cell (p := ⟨w.heap.size, 4, none⟩) hbl).trans e4; replace e5 := (hb9.cell (p := ⟨w.heap.size, 5, none⟩) hbl).trans e5; replace e6 := (hb9.cell (p := ⟨w.heap.size, 6, none⟩) hbl).trans e6; replace e7 := (hb9.cell (p := ⟨w.heap.size, 7, none⟩) hbl).trans e7; replace e8 := (hb9.cell (p := ⟨w.heap.size, 8, none⟩) hbl).trans e8; replace hbl := Nat.lt_of_lt_of_le hbl hb9.size; clear hb9)
    | (go_at_call 134; (first | (with_reducible refine (wordA_is t.a _).mono ?_) | (with_reducible refine (wordA_is t.b _).mono ?_)); rintro e w9 ⟨rfl, hb9⟩; have HB := Lib.hid (HB.out.trans (hb9.mono HB.out.size)); replace e0 := (hb9.cell (p := ⟨w.heap.size, 0, none⟩) hbl).trans e0; replace e1 := (hb9.cell (p := ⟨w.heap.size, 1, none⟩) hbl).trans e1; replace e2 := (hb9.cell (p := ⟨w.heap.size, 2, none⟩) hbl).trans e2; replace e3 := (hb9.cell (p := ⟨w.heap.size, 3, none⟩) hbl).trans e3; replace e4 := (hb9.cell (p := ⟨w.heap.size, 4, none⟩) hbl).trans e4; replace e5 := (hb9.cell (p := ⟨w.heap.size, 5, none⟩) hbl).trans e5; replace e6 := (hb9.cell (p := ⟨w.heap.size, 6, none⟩) hbl).trans e6; replace e7 := (hb9.cell (p := ⟨w.heap.size, 7, none⟩) hbl).trans e7; replace e8 := (hb9.cell (p := ⟨w.heap.size, 8, none⟩) hbl).trans e8; replace hbl := Nat.lt_of_lt_of_le hbl hb9.size; clear hb9))
   go_ret
   exact ⟨by rw [HR.out] <;> rfl, by (first | exact HB.out | (exact (Below.refl _ _).alloc (Nat.le_refl _) _) | (simpa using HB.out))⟩
 by_cases c5 : wordAB t.a = true
 · have t0 : decide (t.op < 0) = false := by simp; omega
   have t1 : decide (3 < t.op) = false := by simp; omega
   have t2 : atomB t.a = true := by simpa using c2
   have t3 : decide (t.op = 0) = false := by simp [*]
   have t3b : (t.op == 0) = false := by simp [*]
   have t4 : atomB t.b = true := by simpa using c4
   have t5 := c5
   have HR := Lib.hid (show termB t = false by simp [termB, *])
   clear c0 c1 c2 c3 c4 c5
   go_enter Tryz.func115, Tryz.ntmps115
   go_upto_region 1 with fail
   obtain ⟨W1, hW1⟩ : ∃ W1, W1 = w.alloc (.cells #[.int .i64 t.op, .string t.a.var, .int .i64 t.a.sym.kind, .string t.a.sym.text, .int .i64 t.a.sym.n, .string t.b.var, .int .i64 t.b.sym.kind, .string t.b.sym.text, .int .i64 t.b.sym.n] 27) := ⟨_, rfl⟩
   rw [← hW1]
   have hBk : Blk W1 w.heap.size 27 #[.int .i64 t.op, .string t.a.var, .int .i64 t.a.sym.kind, .string t.a.sym.text, .int .i64 t.a.sym.n, .string t.b.var, .int .i64 t.b.sym.kind, .string t.b.sym.text, .int .i64 t.b.sym.n] := by rw [hW1]; exact Blk.new _ _ _
   have HB := Lib.hid (show Below w.heap.size w W1 by rw [hW1]; exact (Below.refl _ _).alloc (Nat.le_refl _) _)
   have e0 : W1.cell? ⟨w.heap.size, 0, none⟩ = some (.int .i64 t.op) := (hBk.cell 0).trans rfl
   have e1 : W1.cell? ⟨w.heap.size, 1, none⟩ = some (.string t.a.var) := (hBk.cell 1).trans rfl
   have e2 : W1.cell? ⟨w.heap.size, 2, none⟩ = some (.int .i64 t.a.sym.kind) := (hBk.cell 2).trans rfl
   have e3 : W1.cell? ⟨w.heap.size, 3, none⟩ = some (.string t.a.sym.text) := (hBk.cell 3).trans rfl
   have e4 : W1.cell? ⟨w.heap.size, 4, none⟩ = some (.int .i64 t.a.sym.n) := (hBk.cell 4).trans rfl
   have e5 : W1.cell? ⟨w.heap.size, 5, none⟩ = some (.string t.b.var) := (hBk.cell 5).trans rfl
   have e6 : W1.cell? ⟨w.heap.size, 6, none⟩ = some (.int .i64 t.b.sym.kind) := (hBk.cell 6).trans rfl
   have e7 : W1.cell? ⟨w.heap.size, 7, none⟩ = some (.string t.b.sym.text) := (hBk.cell 7).trans rfl
   have e8 : W1.cell? ⟨w.heap.size, 8, none⟩ = some (.int .i64 t.b.sym.n) := (hBk.cell 8).trans rfl
   have hbl := hBk.lt
   clear hW1 hBk
   go_wp2_with (first
    | (go_at_call 117; refine (empty_is t.b _).mono ?_; rintro e w9 ⟨rfl, hb9⟩; have HB := Lib.hid (HB.out.trans (hb9.mono HB.out.size)); replace e0 := (hb9.cell (p := ⟨w.heap.size, 0, none⟩) hbl).trans e0; replace e1 := (hb9.cell (p := ⟨w.heap.size, 1, none⟩) hbl).trans e1; replace e2 := (hb9.cell (p := ⟨w.heap.size, 2, none⟩) hbl).trans e2; replace e3 := (hb9.cell (p := ⟨w.heap.size, 3, none⟩) hbl).trans e3; replace e4 := (hb9.cell (p := ⟨w.heap.size, 4, none⟩) hbl).trans e4; replace e5 := (hb9.cell (p := ⟨w.heap.size, 5, none⟩) hbl).trans e5; replace e6 := (hb9.cell (p := ⟨w.heap.size, 6, none⟩) hbl).trans e6; replace e7 := (hb9.cell (p := ⟨w.heap.size, 7, none⟩) hbl).trans e7; replace e8 := (hb9.cell (p := ⟨w.heap.size, 8, none⟩) hbl).trans e8; replace hbl := Nat.lt_of_lt_of_le hbl hb9.size; clear hb9)
    | (go_at_call 114; (first | (with_reducible refine (atomS_is t.a _).mono ?_) | (with_reducible refine (atomS_is t.b _).mono ?_)); rintro e w9 ⟨rfl, hb9⟩; have HB := Lib.hid (HB.out.trans (hb9.mono HB.out.size)); replace e0 := (hb9.cell (p := ⟨w.heap.size, 0, none⟩) hbl).trans e0; replace e1 := (hb9.cell (p := ⟨w.heap.size, 1, none⟩) hbl).trans e1; replace e2 := (hb9.cell (p := ⟨w.heap.size, 2, none⟩) hbl).trans e2; replace e3 := (hb9.cell (p := ⟨w.heap.size, 3, none⟩) hbl).trans e3; replace e4 := (hb9.cell (p := ⟨w.heap.size, 4, none⟩) hbl).trans e4; replace e5 := (hb9.cell (p := ⟨w.heap.size, 5, none⟩) hbl).trans e5; replace e6 := (hb9.cell (p := ⟨w.heap.size, 6, none⟩) hbl).trans e6; replace e7 := (hb9.cell (p := ⟨w.heap.size, 7, none⟩) hbl).trans e7; replace e8 := (hb9.cell (p := ⟨w.heap.size, 8, none⟩) hbl).trans e8; replace hbl := Nat.lt_of_lt_of_le hbl hb9.size; clear hb9)
    | (go_at_call 134; (first | (with_reducible refine (wordA_is t.a _).mono ?_) | (with_reducible refine (wordA_is t.b _).mono ?_)); rintro e w9 ⟨rfl, hb9⟩; have HB := Lib.hid (HB.out.trans (hb9.mono HB.out.size)); replace e0 := (hb9.cell (p := ⟨w.heap.size, 0, none⟩) hbl).trans e0; replace e1 := (hb9.cell (p := ⟨w.heap.size, 1, none⟩) hbl).trans e1; replace e2 := (hb9.cell (p := ⟨w.heap.size, 2, none⟩) hbl).trans e2; replace e3 := (hb9.cell (p := ⟨w.heap.size, 3, none⟩) hbl).trans e3; replace e4 := (hb9.cell (p := ⟨w.heap.size, 4, none⟩) hbl).trans e4; replace e5 := (hb9.cell (p := ⟨w.heap.size, 5, none⟩) hbl).trans e5; replace e6 := (hb9.cell (p := ⟨w.heap.size, 6, none⟩) hbl).trans e6; replace e7 := (hb9.cell (p := ⟨w.heap.size, 7, none⟩) hbl).trans e7; replace e8 := (hb9.cell (p := ⟨w.heap.size, 8, none⟩) hbl).trans e8; replace hbl := Nat.lt_of_lt_of_le hbl hb9.size; clear hb9))
   go_ret
   exact ⟨by rw [HR.out] <;> rfl, by (first | exact HB.out | (exact (Below.refl _ _).alloc (Nat.le_refl _) _) | (simpa using HB.out))⟩
 have t0 : decide (t.op < 0) = false := by simp; omega
 have t1 : decide (3 < t.op) = false := by simp; omega
 have t2 : atomB t.a = true := by simpa using c2
 have t3 : decide (t.op = 0) = false := by simp [*]
 have t3b : (t.op == 0) = false := by simp [*]
 have t4 : atomB t.b = true := by simpa using c4
 have t5 : wordAB t.a = false := by simpa using c5
 have HR := Lib.hid (show termB t = (!wordAB t.b) by simp [termB, *])
 clear c0 c1 c2 c3 c4 c5
 go_enter Tryz.func115, Tryz.ntmps115
 go_upto_region 1 with fail
 obtain ⟨W1, hW1⟩ : ∃ W1, W1 = w.alloc (.cells #[.int .i64 t.op, .string t.a.var, .int .i64 t.a.sym.kind, .string t.a.sym.text, .int .i64 t.a.sym.n, .string t.b.var, .int .i64 t.b.sym.kind, .string t.b.sym.text, .int .i64 t.b.sym.n] 27) := ⟨_, rfl⟩
 rw [← hW1]
 have hBk : Blk W1 w.heap.size 27 #[.int .i64 t.op, .string t.a.var, .int .i64 t.a.sym.kind, .string t.a.sym.text, .int .i64 t.a.sym.n, .string t.b.var, .int .i64 t.b.sym.kind, .string t.b.sym.text, .int .i64 t.b.sym.n] := by rw [hW1]; exact Blk.new _ _ _
 have HB := Lib.hid (show Below w.heap.size w W1 by rw [hW1]; exact (Below.refl _ _).alloc (Nat.le_refl _) _)
 have e0 : W1.cell? ⟨w.heap.size, 0, none⟩ = some (.int .i64 t.op) := (hBk.cell 0).trans rfl
 have e1 : W1.cell? ⟨w.heap.size, 1, none⟩ = some (.string t.a.var) := (hBk.cell 1).trans rfl
 have e2 : W1.cell? ⟨w.heap.size, 2, none⟩ = some (.int .i64 t.a.sym.kind) := (hBk.cell 2).trans rfl
 have e3 : W1.cell? ⟨w.heap.size, 3, none⟩ = some (.string t.a.sym.text) := (hBk.cell 3).trans rfl
 have e4 : W1.cell? ⟨w.heap.size, 4, none⟩ = some (.int .i64 t.a.sym.n) := (hBk.cell 4).trans rfl
 have e5 : W1.cell? ⟨w.heap.size, 5, none⟩ = some (.string t.b.var) := (hBk.cell 5).trans rfl
 have e6 : W1.cell? ⟨w.heap.size, 6, none⟩ = some (.int .i64 t.b.sym.kind) := (hBk.cell 6).trans rfl
 have e7 : W1.cell? ⟨w.heap.size, 7, none⟩ = some (.string t.b.sym.text) := (hBk.cell 7).trans rfl
 have e8 : W1.cell? ⟨w.heap.size, 8, none⟩ = some (.int .i64 t.b.sym.n) := (hBk.cell 8).trans rfl
 have hbl := hBk.lt
 clear hW1 hBk
 go_wp2_with (first
  | (go_at_call 117; refine (empty_is t.b _).mono ?_; rintro e w9 ⟨rfl, hb9⟩; have HB := Lib.hid (HB.out.trans (hb9.mono HB.out.size)); replace e0 := (hb9.cell (p := ⟨w.heap.size, 0, none⟩) hbl).trans e0; replace e1 := (hb9.cell (p := ⟨w.heap.size, 1, none⟩) hbl).trans e1; replace e2 := (hb9.cell (p := ⟨w.heap.size, 2, none⟩) hbl).trans e2; replace e3 := (hb9.cell (p := ⟨w.heap.size, 3, none⟩) hbl).trans e3; replace e4 := (hb9.cell (p := ⟨w.heap.size, 4, none⟩) hbl).trans e4; replace e5 := (hb9.cell (p := ⟨w.heap.size, 5, none⟩) hbl).trans e5; replace e6 := (hb9.cell (p := ⟨w.heap.size, 6, none⟩) hbl).trans e6; replace e7 := (hb9.cell (p := ⟨w.heap.size, 7, none⟩) hbl).trans e7; replace e8 := (hb9.cell (p := ⟨w.heap.size, 8, none⟩) hbl).trans e8; replace hbl := Nat.lt_of_lt_of_le hbl hb9.size; clear hb9)
  | (go_at_call 114; (first | (with_reducible refine (atomS_is t.a _).mono ?_) | (with_reducible refine (atomS_is t.b _).mono ?_)); rintro e w9 ⟨rfl, hb9⟩; have HB := Lib.hid (HB.out.trans (hb9.mono HB.out.size)); replace e0 := (hb9.cell (p := ⟨w.heap.size, 0, none⟩) hbl).trans e0; replace e1 := (hb9.cell (p := ⟨w.heap.size, 1, none⟩) hbl).trans e1; replace e2 := (hb9.cell (p := ⟨w.heap.size, 2, none⟩) hbl).trans e2; replace e3 := (hb9.cell (p := ⟨w.heap.size, 3, none⟩) hbl).trans e3; replace e4 := (hb9.cell (p := ⟨w.heap.size, 4, none⟩) hbl).trans e4; replace e5 := (hb9.cell (p := ⟨w.heap.size, 5, none⟩) hbl).trans e5; replace e6 := (hb9.cell (p := ⟨w.heap.size, 6, none⟩) hbl).trans e6; replace e7 := (hb9.cell (p := ⟨w.heap.size, 7, none⟩) hbl).trans e7; replace e8 := (hb9.cell (p := ⟨w.heap.size, 8, none⟩) hbl).trans e8; replace hbl := Nat.lt_of_lt_of_le hbl hb9.size; clear hb9)
  | (go_at_call 134; (first | (with_reducible refine (wordA_is t.a _).mono ?_) | (with_reducible refine (wordA_is t.b _).mono ?_)); rintro e w9 ⟨rfl, hb9⟩; have HB := Lib.hid (HB.out.trans (hb9.mono HB.out.size)); replace e0 := (hb9.cell (p := ⟨w.heap.size, 0, none⟩) hbl).trans e0; replace e1 := (hb9.cell (p := ⟨w.heap.size, 1, none⟩) hbl).trans e1; replace e2 := (hb9.cell (p := ⟨w.heap.size, 2, none⟩) hbl).trans e2; replace e3 := (hb9.cell (p := ⟨w.heap.size, 3, none⟩) hbl).trans e3; replace e4 := (hb9.cell (p := ⟨w.heap.size, 4, none⟩) hbl).trans e4; replace e5 := (hb9.cell (p := ⟨w.heap.size, 5, none⟩) hbl).trans e5; replace e6 := (hb9.cell (p := ⟨w.heap.size, 6, none⟩) hbl).trans e6; replace e7 := (hb9.cell (p := ⟨w.heap.size, 7, none⟩) hbl).trans e7; replace e8 := (hb9.cell (p := ⟨w.heap.size, 8, none⟩) hbl).trans e8; replace hbl := Nat.lt_of_lt_of_le hbl hb9.size; clear hb9))
 go_ret
 exact ⟨by rw [HR.out] <;> rfl, by (first | exact HB.out | (exact (Below.refl _ _).alloc (Nat.le_refl _) _) | (simpa using HB.out))⟩
end Go.Proofs.YtpndmjabjjbefaaGreat
namespace Go.Proofs.YtpndmjabjjbefaaGreat
open Go.RowKit Go.Shelf
set_option maxRecDepth 100000 in
set_option maxHeartbeats 8000000 in
theorem test_is (t : TestT) (A : Option Addr) (c : Nat) (w : World) (hrd : RowRd w 3 Sym.cells A c t.list) : Calls Tryz.prog 131 #[.agg #[.int .i64 t.rel, .string t.var, .int .i64 t.sym.kind, .string t.sym.text, .int .i64 t.sym.n, .slice A t.list.length c]] w fun e w' => e = .returned (.bool (testB t)) ∧ Below w.heap.size w w' := by
 have HRD := Lib.hid hrd
 have hlc := hrd.cap
 clear hrd
 by_cases h8 : t.rel = 8
 · by_cases hv : t.var.toList = []
   · by_cases hn : noneB t.sym = false
     · have r1 : (t.rel == 8) = true := by simp [h8]
       have r2 : decide (t.rel = 8) = true := by simp [h8]
       have v1 : (t.var.toList == []) = true := by simp [hv]
       have v2 : t.var.toList.isEmpty = true := by simp [hv]
       have v3 : decide (t.var.toList = []) = true := by simp [hv]
       have n1 := hn
       have HR := Lib.hid (show testB t = false by simp [testB, *])
       clear h8 hv hn
       go_enter Tryz.func131, Tryz.ntmps131
       go_upto_region 1 with fail
       obtain ⟨W1, hW1⟩ : ∃ W1, W1 = w.alloc (.cells #[.int .i64 t.rel, .string t.var, .int .i64 t.sym.kind, .string t.sym.text, .int .i64 t.sym.n, .slice A t.list.length c] 59) := ⟨_, rfl⟩
       rw [← hW1]
       have hBk : Blk W1 w.heap.size 59 #[.int .i64 t.rel, .string t.var, .int .i64 t.sym.kind, .string t.sym.text, .int .i64 t.sym.n, .slice A t.list.length c] := by rw [hW1]; exact Blk.new _ _ _
       have HB := Lib.hid (show Below w.heap.size w W1 by rw [hW1]; exact (Below.refl _ _).alloc (Nat.le_refl _) _)
       have e0 : W1.cell? ⟨w.heap.size, 0, none⟩ = some (.int .i64 t.rel) := (hBk.cell 0).trans rfl
       have e1 : W1.cell? ⟨w.heap.size, 1, none⟩ = some (.string t.var) := (hBk.cell 1).trans rfl
       have e2 : W1.cell? ⟨w.heap.size, 2, none⟩ = some (.int .i64 t.sym.kind) := (hBk.cell 2).trans rfl
       have e3 : W1.cell? ⟨w.heap.size, 3, none⟩ = some (.string t.sym.text) := (hBk.cell 3).trans rfl
       have e4 : W1.cell? ⟨w.heap.size, 4, none⟩ = some (.int .i64 t.sym.n) := (hBk.cell 4).trans rfl
       have e5 : W1.cell? ⟨w.heap.size, 5, none⟩ = some (.slice A t.list.length c) := (hBk.cell 5).trans rfl
       have hbl := hBk.lt
       clear hW1 hBk
       go_wp2_with (first | (go_at_call 132; refine (none_is t.sym _).mono ?_; rintro e w9 ⟨rfl, hb9⟩; have HB := Lib.hid (HB.out.trans (hb9.mono HB.out.size)); replace e0 := (hb9.cell (p := ⟨w.heap.size, 0, none⟩) hbl).trans e0; replace e1 := (hb9.cell (p := ⟨w.heap.size, 1, none⟩) hbl).trans e1; replace e2 := (hb9.cell (p := ⟨w.heap.size, 2, none⟩) hbl).trans e2; replace e3 := (hb9.cell (p := ⟨w.heap.size, 3, none⟩) hbl).trans e3; replace e4 := (hb9.cell (p := ⟨w.heap.size, 4, none⟩) hbl).trans e4; replace e5 := (hb9.cell (p := ⟨w.heap.size, 5, none⟩) hbl).trans e5; replace hbl := Nat.lt_of_lt_of_le hbl hb9.size; clear hb9) | (go_at_call 133; refine (constant_is t.sym _).mono ?_; rintro e w9 ⟨rfl, hb9⟩; have HB := Lib.hid (HB.out.trans (hb9.mono HB.out.size)); replace e0 := (hb9.cell (p := ⟨w.heap.size, 0, none⟩) hbl).trans e0; replace e1 := (hb9.cell (p := ⟨w.heap.size, 1, none⟩) hbl).trans e1; replace e2 := (hb9.cell (p := ⟨w.heap.size, 2, none⟩) hbl).trans e2; replace e3 := (hb9.cell (p := ⟨w.heap.size, 3, none⟩) hbl).trans e3; replace e4 := (hb9.cell (p := ⟨w.heap.size, 4, none⟩) hbl).trans e4; replace e5 := (hb9.cell (p := ⟨w.heap.size, 5, none⟩) hbl).trans e5; replace hbl := Nat.lt_of_lt_of_le hbl hb9.size; clear hb9) | (go_at_call 81; refine (word_is t.var _).mono ?_; rintro e w9 ⟨rfl, rfl⟩))
       go_ret
       exact ⟨by rw [HR.out] <;> rfl, HB.out⟩
     by_cases h1 : t.list.length < 1
     · have r1 : (t.rel == 8) = true := by simp [h8]
       have r2 : decide (t.rel = 8) = true := by simp [h8]
       have v1 : (t.var.toList == []) = true := by simp [hv]
       have v2 : t.var.toList.isEmpty = true := by simp [hv]
       have v3 : decide (t.var.toList = []) = true := by simp [hv]
       have n1 : noneB t.sym = true := by simpa using hn
       have l1 : decide ((t.list.length : Int) < 1) = true := decide_eq_true (by omega)
       have l2 : decide (t.list.length < 1) = true := decide_eq_true (by omega)
       have l3 : t.list.length = 0 := by omega
       have l4 := l3
       have HR := Lib.hid (show testB t = false by simp [testB, *])
       clear h8 hv hn h1 l3 l4
       go_enter Tryz.func131, Tryz.ntmps131
       go_upto_region 1 with fail
       obtain ⟨W1, hW1⟩ : ∃ W1, W1 = w.alloc (.cells #[.int .i64 t.rel, .string t.var, .int .i64 t.sym.kind, .string t.sym.text, .int .i64 t.sym.n, .slice A t.list.length c] 59) := ⟨_, rfl⟩
       rw [← hW1]
       have hBk : Blk W1 w.heap.size 59 #[.int .i64 t.rel, .string t.var, .int .i64 t.sym.kind, .string t.sym.text, .int .i64 t.sym.n, .slice A t.list.length c] := by rw [hW1]; exact Blk.new _ _ _
       have HB := Lib.hid (show Below w.heap.size w W1 by rw [hW1]; exact (Below.refl _ _).alloc (Nat.le_refl _) _)
       have e0 : W1.cell? ⟨w.heap.size, 0, none⟩ = some (.int .i64 t.rel) := (hBk.cell 0).trans rfl
       have e1 : W1.cell? ⟨w.heap.size, 1, none⟩ = some (.string t.var) := (hBk.cell 1).trans rfl
       have e2 : W1.cell? ⟨w.heap.size, 2, none⟩ = some (.int .i64 t.sym.kind) := (hBk.cell 2).trans rfl
       have e3 : W1.cell? ⟨w.heap.size, 3, none⟩ = some (.string t.sym.text) := (hBk.cell 3).trans rfl
       have e4 : W1.cell? ⟨w.heap.size, 4, none⟩ = some (.int .i64 t.sym.n) := (hBk.cell 4).trans rfl
       have e5 : W1.cell? ⟨w.heap.size, 5, none⟩ = some (.slice A t.list.length c) := (hBk.cell 5).trans rfl
       have hbl := hBk.lt
       clear hW1 hBk
       go_wp2_with (first | (go_at_call 132; refine (none_is t.sym _).mono ?_; rintro e w9 ⟨rfl, hb9⟩; have HB := Lib.hid (HB.out.trans (hb9.mono HB.out.size)); replace e0 := (hb9.cell (p := ⟨w.heap.size, 0, none⟩) hbl).trans e0; replace e1 := (hb9.cell (p := ⟨w.heap.size, 1, none⟩) hbl).trans e1; replace e2 := (hb9.cell (p := ⟨w.heap.size, 2, none⟩) hbl).trans e2; replace e3 := (hb9.cell (p := ⟨w.heap.size, 3, none⟩) hbl).trans e3; replace e4 := (hb9.cell (p := ⟨w.heap.size, 4, none⟩) hbl).trans e4; replace e5 := (hb9.cell (p := ⟨w.heap.size, 5, none⟩) hbl).trans e5; replace hbl := Nat.lt_of_lt_of_le hbl hb9.size; clear hb9) | (go_at_call 133; refine (constant_is t.sym _).mono ?_; rintro e w9 ⟨rfl, hb9⟩; have HB := Lib.hid (HB.out.trans (hb9.mono HB.out.size)); replace e0 := (hb9.cell (p := ⟨w.heap.size, 0, none⟩) hbl).trans e0; replace e1 := (hb9.cell (p := ⟨w.heap.size, 1, none⟩) hbl).trans e1; replace e2 := (hb9.cell (p := ⟨w.heap.size, 2, none⟩) hbl).trans e2; replace e3 := (hb9.cell (p := ⟨w.heap.size, 3, none⟩) hbl).trans e3; replace e4 := (hb9.cell (p := ⟨w.heap.size, 4, none⟩) hbl).trans e4; replace e5 := (hb9.cell (p := ⟨w.heap.size, 5, none⟩) hbl).trans e5; replace hbl := Nat.lt_of_lt_of_le hbl hb9.size; clear hb9) | (go_at_call 81; refine (word_is t.var _).mono ?_; rintro e w9 ⟨rfl, rfl⟩))
       go_ret
       exact ⟨by rw [HR.out] <;> rfl, HB.out⟩
     by_cases h9 : 8 < t.list.length
     · have r1 : (t.rel == 8) = true := by simp [h8]
       have r2 : decide (t.rel = 8) = true := by simp [h8]
       have v1 : (t.var.toList == []) = true := by simp [hv]
       have v2 : t.var.toList.isEmpty = true := by simp [hv]
       have v3 : decide (t.var.toList = []) = true := by simp [hv]
       have n1 : noneB t.sym = true := by simpa using hn
       have l1 : decide ((t.list.length : Int) < 1) = false := decide_eq_false (by omega)
       have l2 : decide (t.list.length < 1) = false := decide_eq_false (by omega)
       have l3 : decide ((8 : Int) < (t.list.length : Int)) = true := decide_eq_true (by omega)
       have l4 : decide (8 < t.list.length) = true := decide_eq_true (by omega)
       have l5 : ¬ t.list.length ≤ 8 := by omega
       have HR := Lib.hid (show testB t = false by simp [testB, *])
       clear h8 hv hn h1 h9 l5
       go_enter Tryz.func131, Tryz.ntmps131
       go_upto_region 1 with fail
       obtain ⟨W1, hW1⟩ : ∃ W1, W1 = w.alloc (.cells #[.int .i64 t.rel, .string t.var, .int .i64 t.sym.kind, .string t.sym.text, .int .i64 t.sym.n, .slice A t.list.length c] 59) := ⟨_, rfl⟩
       rw [← hW1]
       have hBk : Blk W1 w.heap.size 59 #[.int .i64 t.rel, .string t.var, .int .i64 t.sym.kind, .string t.sym.text, .int .i64 t.sym.n, .slice A t.list.length c] := by rw [hW1]; exact Blk.new _ _ _
       have HB := Lib.hid (show Below w.heap.size w W1 by rw [hW1]; exact (Below.refl _ _).alloc (Nat.le_refl _) _)
       have e0 : W1.cell? ⟨w.heap.size, 0, none⟩ = some (.int .i64 t.rel) := (hBk.cell 0).trans rfl
       have e1 : W1.cell? ⟨w.heap.size, 1, none⟩ = some (.string t.var) := (hBk.cell 1).trans rfl
       have e2 : W1.cell? ⟨w.heap.size, 2, none⟩ = some (.int .i64 t.sym.kind) := (hBk.cell 2).trans rfl
       have e3 : W1.cell? ⟨w.heap.size, 3, none⟩ = some (.string t.sym.text) := (hBk.cell 3).trans rfl
       have e4 : W1.cell? ⟨w.heap.size, 4, none⟩ = some (.int .i64 t.sym.n) := (hBk.cell 4).trans rfl
       have e5 : W1.cell? ⟨w.heap.size, 5, none⟩ = some (.slice A t.list.length c) := (hBk.cell 5).trans rfl
       have hbl := hBk.lt
       clear hW1 hBk
       go_wp2_with (first | (go_at_call 132; refine (none_is t.sym _).mono ?_; rintro e w9 ⟨rfl, hb9⟩; have HB := Lib.hid (HB.out.trans (hb9.mono HB.out.size)); replace e0 := (hb9.cell (p := ⟨w.heap.size, 0, none⟩) hbl).trans e0; replace e1 := (hb9.cell (p := ⟨w.heap.size, 1, none⟩) hbl).trans e1; replace e2 := (hb9.cell (p := ⟨w.heap.size, 2, none⟩) hbl).trans e2; replace e3 := (hb9.cell (p := ⟨w.heap.size, 3, none⟩) hbl).trans e3; replace e4 := (hb9.cell (p := ⟨w.heap.size, 4, none⟩) hbl).trans e4; replace e5 := (hb9.cell (p := ⟨w.heap.size, 5, none⟩) hbl).trans e5; replace hbl := Nat.lt_of_lt_of_le hbl hb9.size; clear hb9) | (go_at_call 133; refine (constant_is t.sym _).mono ?_; rintro e w9 ⟨rfl, hb9⟩; have HB := Lib.hid (HB.out.trans (hb9.mono HB.out.size)); replace e0 := (hb9.cell (p := ⟨w.heap.size, 0, none⟩) hbl).trans e0; replace e1 := (hb9.cell (p := ⟨w.heap.size, 1, none⟩) hbl).trans e1; replace e2 := (hb9.cell (p := ⟨w.heap.size, 2, none⟩) hbl).trans e2; replace e3 := (hb9.cell (p := ⟨w.heap.size, 3, none⟩) hbl).trans e3; replace e4 := (hb9.cell (p := ⟨w.heap.size, 4, none⟩) hbl).trans e4; replace e5 := (hb9.cell (p := ⟨w.heap.size, 5, none⟩) hbl).trans e5; replace hbl := Nat.lt_of_lt_of_le hbl hb9.size; clear hb9) | (go_at_call 81; refine (word_is t.var _).mono ?_; rintro e w9 ⟨rfl, rfl⟩))
       go_ret
       exact ⟨by rw [HR.out] <;> rfl, HB.out⟩
     have r1 : (t.rel == 8) = true := by simp [h8]
     have r2 : decide (t.rel = 8) = true := by simp [h8]
     have v1 : (t.var.toList == []) = true := by simp [hv]
     have v2 : t.var.toList.isEmpty = true := by simp [hv]
     have v3 : decide (t.var.toList = []) = true := by simp [hv]
     have n1 : noneB t.sym = true := by simpa using hn
     have l1 : decide ((t.list.length : Int) < 1) = false := decide_eq_false (by omega)
     have l2 : decide (t.list.length < 1) = false := decide_eq_false (by omega)
     have l3 : decide ((8 : Int) < (t.list.length : Int)) = false := decide_eq_false (by omega)
     have l4 : decide (8 < t.list.length) = false := decide_eq_false (by omega)
     have l5 : t.list.length ≤ 8 := by omega
     have l6 : 1 ≤ t.list.length := by omega
     have HR := Lib.hid (show testB t = t.list.all constB by simp [testB, *])
     clear h8 hv hn h1 h9 l5 l6
     go_enter Tryz.func131, Tryz.ntmps131
     go_upto_region 1 with fail
     obtain ⟨W1, hW1⟩ : ∃ W1, W1 = w.alloc (.cells #[.int .i64 t.rel, .string t.var, .int .i64 t.sym.kind, .string t.sym.text, .int .i64 t.sym.n, .slice A t.list.length c] 59) := ⟨_, rfl⟩
     rw [← hW1]
     have hBk : Blk W1 w.heap.size 59 #[.int .i64 t.rel, .string t.var, .int .i64 t.sym.kind, .string t.sym.text, .int .i64 t.sym.n, .slice A t.list.length c] := by rw [hW1]; exact Blk.new _ _ _
     have HB := Lib.hid (show Below w.heap.size w W1 by rw [hW1]; exact (Below.refl _ _).alloc (Nat.le_refl _) _)
     have e0 : W1.cell? ⟨w.heap.size, 0, none⟩ = some (.int .i64 t.rel) := (hBk.cell 0).trans rfl
     have e1 : W1.cell? ⟨w.heap.size, 1, none⟩ = some (.string t.var) := (hBk.cell 1).trans rfl
     have e2 : W1.cell? ⟨w.heap.size, 2, none⟩ = some (.int .i64 t.sym.kind) := (hBk.cell 2).trans rfl
     have e3 : W1.cell? ⟨w.heap.size, 3, none⟩ = some (.string t.sym.text) := (hBk.cell 3).trans rfl
     have e4 : W1.cell? ⟨w.heap.size, 4, none⟩ = some (.int .i64 t.sym.n) := (hBk.cell 4).trans rfl
     have e5 : W1.cell? ⟨w.heap.size, 5, none⟩ = some (.slice A t.list.length c) := (hBk.cell 5).trans rfl
     have hbl := hBk.lt
     clear hW1 hBk
     go_wp2_with (first | (go_at_call 132; refine (none_is t.sym _).mono ?_; rintro e w9 ⟨rfl, hb9⟩; have HB := Lib.hid (HB.out.trans (hb9.mono HB.out.size)); replace e0 := (hb9.cell (p := ⟨w.heap.size, 0, none⟩) hbl).trans e0; replace e1 := (hb9.cell (p := ⟨w.heap.size, 1, none⟩) hbl).trans e1; replace e2 := (hb9.cell (p := ⟨w.heap.size, 2, none⟩) hbl).trans e2; replace e3 := (hb9.cell (p := ⟨w.heap.size, 3, none⟩) hbl).trans e3; replace e4 := (hb9.cell (p := ⟨w.heap.size, 4, none⟩) hbl).trans e4; replace e5 := (hb9.cell (p := ⟨w.heap.size, 5, none⟩) hbl).trans e5; replace hbl := Nat.lt_of_lt_of_le hbl hb9.size; clear hb9) | (go_at_call 133; refine (constant_is t.sym _).mono ?_; rintro e w9 ⟨rfl, hb9⟩; have HB := Lib.hid (HB.out.trans (hb9.mono HB.out.size)); replace e0 := (hb9.cell (p := ⟨w.heap.size, 0, none⟩) hbl).trans e0; replace e1 := (hb9.cell (p := ⟨w.heap.size, 1, none⟩) hbl).trans e1; replace e2 := (hb9.cell (p := ⟨w.heap.size, 2, none⟩) hbl).trans e2; replace e3 := (hb9.cell (p := ⟨w.heap.size, 3, none⟩) hbl).trans e3; replace e4 := (hb9.cell (p := ⟨w.heap.size, 4, none⟩) hbl).trans e4; replace e5 := (hb9.cell (p := ⟨w.heap.size, 5, none⟩) hbl).trans e5; replace hbl := Nat.lt_of_lt_of_le hbl hb9.size; clear hb9) | (go_at_call 81; refine (word_is t.var _).mono ?_; rintro e w9 ⟨rfl, rfl⟩))
     clear e0 e1 e2 e3 e4 e5
     have HBX := Lib.hid HB.out
     go_loopw [32] (fun s wr => ∃ i : Nat, s = .int .i64 i ∧ i ≤ t.list.length ∧ (∀ k, (h : k < t.list.length) → k < i → constB t.list[k] = true) ∧ Below w.heap.size w wr) (fun s wr => t.list.length - (intOf s).toNat)
     case atStart => exact ⟨0, rfl, Nat.zero_le _, fun k _ h => absurd h (by omega), HBX.out⟩
     case round =>
      obtain ⟨i, rfl, hi, hall, hB⟩ := hrel
      have HALL := Lib.hid hall
      have HBr := Lib.hid hB
      clear hall hB
      by_cases hlt : i < t.list.length
      · obtain ⟨y, hy⟩ : ∃ y, y = t.list[i] := ⟨_, rfl⟩
        obtain ⟨g, off, rfl, hg, q0, q1, q2⟩ := sym_at (HRD.out.new_ HBr.out) hlt
        rw [← hy] at q0 q1 q2
        have HY := Lib.hid hy
        have b1 : (0 : Int) ≤ (i : Int) := by omega
        have b2 : (i : Int) < (t.list.length : Int) := by omega
        have hzr := HBr.out.size
        clear hy
        go_wp2_with fail
        refine (constant_is y _).mono ?_
        rintro e w9 ⟨rfl, hb9⟩
        have HB9 := Lib.hid (HBr.out.trans ((Below.trans (show Below wr.heap.size wr _ from (by (repeat (first | exact Below.refl _ _ | refine Below.drew ?_ | refine Below.al ?_ _ | refine Below.sc ?_ _)))) (hb9.mono (by simp)) : Below wr.heap.size wr w9).mono hzr))
        clear hb9 q0 q1 q2
        cases hcb : constB y
        · have HRf := Lib.hid (show t.list.all constB = false from List.all_eq_false.2 ⟨y, by rw [HY.out]; exact List.getElem_mem hlt, by rw [hcb]; simp⟩)
          clear hcb
          go_wp2_with fail
          go_ret
          exact ⟨by rw [HR.out, HRf.out] <;> rfl, HB9.out⟩
        · have HCB := Lib.hid hcb
          clear hcb
          go_wp2_with fail
          go_roundw
          case rel => exact ⟨i + 1, by go_num, by omega, fun k hk hki => by
           by_cases e : k = i
           · subst e; rw [← HY.out]; exact HCB.out
           · exact HALL.out k hk (by omega), HB9.out⟩
          case measure => simp [intOf] <;> omega
      · have hie : i = t.list.length := by omega
        subst hie
        have HRt := Lib.hid (show t.list.all constB = true from List.all_eq_true.2 (fun x hx => by
         obtain ⟨k, hk, rfl⟩ := List.getElem_of_mem hx
         exact HALL.out k hk hk))
        go_wp2_with fail
        go_ret
        exact ⟨by rw [HR.out, HRt.out] <;> rfl, HBr.out⟩
   · have r1 : (t.rel == 8) = true := by simp [h8]
     have r2 : decide (t.rel = 8) = true := by simp [h8]
     have v1 : (t.var.toList == []) = false := by simp [hv]
     have v2 : t.var.toList.isEmpty = false := by simp [hv]
     have v3 : decide (t.var.toList = []) = false := by simp [hv]
     have HR := Lib.hid (show testB t = false by simp [testB, *])
     clear h8 hv
     go_enter Tryz.func131, Tryz.ntmps131
     go_upto_region 1 with fail
     obtain ⟨W1, hW1⟩ : ∃ W1, W1 = w.alloc (.cells #[.int .i64 t.rel, .string t.var, .int .i64 t.sym.kind, .string t.sym.text, .int .i64 t.sym.n, .slice A t.list.length c] 59) := ⟨_, rfl⟩
     rw [← hW1]
     have hBk : Blk W1 w.heap.size 59 #[.int .i64 t.rel, .string t.var, .int .i64 t.sym.kind, .string t.sym.text, .int .i64 t.sym.n, .slice A t.list.length c] := by rw [hW1]; exact Blk.new _ _ _
     have HB := Lib.hid (show Below w.heap.size w W1 by rw [hW1]; exact (Below.refl _ _).alloc (Nat.le_refl _) _)
     have e0 : W1.cell? ⟨w.heap.size, 0, none⟩ = some (.int .i64 t.rel) := (hBk.cell 0).trans rfl
     have e1 : W1.cell? ⟨w.heap.size, 1, none⟩ = some (.string t.var) := (hBk.cell 1).trans rfl
     have e2 : W1.cell? ⟨w.heap.size, 2, none⟩ = some (.int .i64 t.sym.kind) := (hBk.cell 2).trans rfl
     have e3 : W1.cell? ⟨w.heap.size, 3, none⟩ = some (.string t.sym.text) := (hBk.cell 3).trans rfl
     have e4 : W1.cell? ⟨w.heap.size, 4, none⟩ = some (.int .i64 t.sym.n) := (hBk.cell 4).trans rfl
     have e5 : W1.cell? ⟨w.heap.size, 5, none⟩ = some (.slice A t.list.length c) := (hBk.cell 5).trans rfl
     have hbl := hBk.lt
     clear hW1 hBk
     go_wp2_with (first | (go_at_call 132; refine (none_is t.sym _).mono ?_; rintro e w9 ⟨rfl, hb9⟩; have HB := Lib.hid (HB.out.trans (hb9.mono HB.out.size)); replace e0 := (hb9.cell (p := ⟨w.heap.size, 0, none⟩) hbl).trans e0; replace e1 := (hb9.cell (p := ⟨w.heap.size, 1, none⟩) hbl).trans e1; replace e2 := (hb9.cell (p := ⟨w.heap.size, 2, none⟩) hbl).trans e2; replace e3 := (hb9.cell (p := ⟨w.heap.size, 3, none⟩) hbl).trans e3; replace e4 := (hb9.cell (p := ⟨w.heap.size, 4, none⟩) hbl).trans e4; replace e5 := (hb9.cell (p := ⟨w.heap.size, 5, none⟩) hbl).trans e5; replace hbl := Nat.lt_of_lt_of_le hbl hb9.size; clear hb9) | (go_at_call 133; refine (constant_is t.sym _).mono ?_; rintro e w9 ⟨rfl, hb9⟩; have HB := Lib.hid (HB.out.trans (hb9.mono HB.out.size)); replace e0 := (hb9.cell (p := ⟨w.heap.size, 0, none⟩) hbl).trans e0; replace e1 := (hb9.cell (p := ⟨w.heap.size, 1, none⟩) hbl).trans e1; replace e2 := (hb9.cell (p := ⟨w.heap.size, 2, none⟩) hbl).trans e2; replace e3 := (hb9.cell (p := ⟨w.heap.size, 3, none⟩) hbl).trans e3; replace e4 := (hb9.cell (p := ⟨w.heap.size, 4, none⟩) hbl).trans e4; replace e5 := (hb9.cell (p := ⟨w.heap.size, 5, none⟩) hbl).trans e5; replace hbl := Nat.lt_of_lt_of_le hbl hb9.size; clear hb9) | (go_at_call 81; refine (word_is t.var _).mono ?_; rintro e w9 ⟨rfl, rfl⟩))
     go_ret
     exact ⟨by rw [HR.out] <;> rfl, HB.out⟩
 by_cases h1 : t.rel < 1
 · have r1 : (t.rel == 8) = false := by simp [h8]
   have r2 : decide (t.rel = 8) = false := by simp [h8]
   have r3 : decide (t.rel < 1) = true := decide_eq_true (by omega)
   have HR := Lib.hid (show testB t = false by simp [testB, *])
   clear h8 h1
   go_enter Tryz.func131, Tryz.ntmps131
   go_upto_region 1 with fail
   obtain ⟨W1, hW1⟩ : ∃ W1, W1 = w.alloc (.cells #[.int .i64 t.rel, .string t.var, .int .i64 t.sym.kind, .string t.sym.text, .int .i64 t.sym.n, .slice A t.list.length c] 59) := ⟨_, rfl⟩
   rw [← hW1]
   have hBk : Blk W1 w.heap.size 59 #[.int .i64 t.rel, .string t.var, .int .i64 t.sym.kind, .string t.sym.text, .int .i64 t.sym.n, .slice A t.list.length c] := by rw [hW1]; exact Blk.new _ _ _
   have HB := Lib.hid (show Below w.heap.size w W1 by rw [hW1]; exact (Below.refl _ _).alloc (Nat.le_refl _) _)
   have e0 : W1.cell? ⟨w.heap.size, 0, none⟩ = some (.int .i64 t.rel) := (hBk.cell 0).trans rfl
   have e1 : W1.cell? ⟨w.heap.size, 1, none⟩ = some (.string t.var) := (hBk.cell 1).trans rfl
   have e2 : W1.cell? ⟨w.heap.size, 2, none⟩ = some (.int .i64 t.sym.kind) := (hBk.cell 2).trans rfl
   have e3 : W1.cell? ⟨w.heap.size, 3, none⟩ = some (.string t.sym.text) := (hBk.cell 3).trans rfl
   have e4 : W1.cell? ⟨w.heap.size, 4, none⟩ = some (.int .i64 t.sym.n) := (hBk.cell 4).trans rfl
   have e5 : W1.cell? ⟨w.heap.size, 5, none⟩ = some (.slice A t.list.length c) := (hBk.cell 5).trans rfl
   have hbl := hBk.lt
   clear hW1 hBk
   go_wp2_with (first | (go_at_call 132; refine (none_is t.sym _).mono ?_; rintro e w9 ⟨rfl, hb9⟩; have HB := Lib.hid (HB.out.trans (hb9.mono HB.out.size)); replace e0 := (hb9.cell (p := ⟨w.heap.size, 0, none⟩) hbl).trans e0; replace e1 := (hb9.cell (p := ⟨w.heap.size, 1, none⟩) hbl).trans e1; replace e2 := (hb9.cell (p := ⟨w.heap.size, 2, none⟩) hbl).trans e2; replace e3 := (hb9.cell (p := ⟨w.heap.size, 3, none⟩) hbl).trans e3; replace e4 := (hb9.cell (p := ⟨w.heap.size, 4, none⟩) hbl).trans e4; replace e5 := (hb9.cell (p := ⟨w.heap.size, 5, none⟩) hbl).trans e5; replace hbl := Nat.lt_of_lt_of_le hbl hb9.size; clear hb9) | (go_at_call 133; refine (constant_is t.sym _).mono ?_; rintro e w9 ⟨rfl, hb9⟩; have HB := Lib.hid (HB.out.trans (hb9.mono HB.out.size)); replace e0 := (hb9.cell (p := ⟨w.heap.size, 0, none⟩) hbl).trans e0; replace e1 := (hb9.cell (p := ⟨w.heap.size, 1, none⟩) hbl).trans e1; replace e2 := (hb9.cell (p := ⟨w.heap.size, 2, none⟩) hbl).trans e2; replace e3 := (hb9.cell (p := ⟨w.heap.size, 3, none⟩) hbl).trans e3; replace e4 := (hb9.cell (p := ⟨w.heap.size, 4, none⟩) hbl).trans e4; replace e5 := (hb9.cell (p := ⟨w.heap.size, 5, none⟩) hbl).trans e5; replace hbl := Nat.lt_of_lt_of_le hbl hb9.size; clear hb9) | (go_at_call 81; refine (word_is t.var _).mono ?_; rintro e w9 ⟨rfl, rfl⟩))
   go_ret
   exact ⟨by rw [HR.out] <;> rfl, HB.out⟩
 by_cases h7 : 7 < t.rel
 · have r1 : (t.rel == 8) = false := by simp [h8]
   have r2 : decide (t.rel = 8) = false := by simp [h8]
   have r3 : decide (t.rel < 1) = false := decide_eq_false (by omega)
   have r4 : decide (7 < t.rel) = true := decide_eq_true (by omega)
   have HR := Lib.hid (show testB t = false by simp [testB, *])
   clear h8 h1 h7
   go_enter Tryz.func131, Tryz.ntmps131
   go_upto_region 1 with fail
   obtain ⟨W1, hW1⟩ : ∃ W1, W1 = w.alloc (.cells #[.int .i64 t.rel, .string t.var, .int .i64 t.sym.kind, .string t.sym.text, .int .i64 t.sym.n, .slice A t.list.length c] 59) := ⟨_, rfl⟩
   rw [← hW1]
   have hBk : Blk W1 w.heap.size 59 #[.int .i64 t.rel, .string t.var, .int .i64 t.sym.kind, .string t.sym.text, .int .i64 t.sym.n, .slice A t.list.length c] := by rw [hW1]; exact Blk.new _ _ _
   have HB := Lib.hid (show Below w.heap.size w W1 by rw [hW1]; exact (Below.refl _ _).alloc (Nat.le_refl _) _)
   have e0 : W1.cell? ⟨w.heap.size, 0, none⟩ = some (.int .i64 t.rel) := (hBk.cell 0).trans rfl
   have e1 : W1.cell? ⟨w.heap.size, 1, none⟩ = some (.string t.var) := (hBk.cell 1).trans rfl
   have e2 : W1.cell? ⟨w.heap.size, 2, none⟩ = some (.int .i64 t.sym.kind) := (hBk.cell 2).trans rfl
   have e3 : W1.cell? ⟨w.heap.size, 3, none⟩ = some (.string t.sym.text) := (hBk.cell 3).trans rfl
   have e4 : W1.cell? ⟨w.heap.size, 4, none⟩ = some (.int .i64 t.sym.n) := (hBk.cell 4).trans rfl
   have e5 : W1.cell? ⟨w.heap.size, 5, none⟩ = some (.slice A t.list.length c) := (hBk.cell 5).trans rfl
   have hbl := hBk.lt
   clear hW1 hBk
   go_wp2_with (first | (go_at_call 132; refine (none_is t.sym _).mono ?_; rintro e w9 ⟨rfl, hb9⟩; have HB := Lib.hid (HB.out.trans (hb9.mono HB.out.size)); replace e0 := (hb9.cell (p := ⟨w.heap.size, 0, none⟩) hbl).trans e0; replace e1 := (hb9.cell (p := ⟨w.heap.size, 1, none⟩) hbl).trans e1; replace e2 := (hb9.cell (p := ⟨w.heap.size, 2, none⟩) hbl).trans e2; replace e3 := (hb9.cell (p := ⟨w.heap.size, 3, none⟩) hbl).trans e3; replace e4 := (hb9.cell (p := ⟨w.heap.size, 4, none⟩) hbl).trans e4; replace e5 := (hb9.cell (p := ⟨w.heap.size, 5, none⟩) hbl).trans e5; replace hbl := Nat.lt_of_lt_of_le hbl hb9.size; clear hb9) | (go_at_call 133; refine (constant_is t.sym _).mono ?_; rintro e w9 ⟨rfl, hb9⟩; have HB := Lib.hid (HB.out.trans (hb9.mono HB.out.size)); replace e0 := (hb9.cell (p := ⟨w.heap.size, 0, none⟩) hbl).trans e0; replace e1 := (hb9.cell (p := ⟨w.heap.size, 1, none⟩) hbl).trans e1; replace e2 := (hb9.cell (p := ⟨w.heap.size, 2, none⟩) hbl).trans e2; replace e3 := (hb9.cell (p := ⟨w.heap.size, 3, none⟩) hbl).trans e3; replace e4 := (hb9.cell (p := ⟨w.heap.size, 4, none⟩) hbl).trans e4; replace e5 := (hb9.cell (p := ⟨w.heap.size, 5, none⟩) hbl).trans e5; replace hbl := Nat.lt_of_lt_of_le hbl hb9.size; clear hb9) | (go_at_call 81; refine (word_is t.var _).mono ?_; rintro e w9 ⟨rfl, rfl⟩))
   go_ret
   exact ⟨by rw [HR.out] <;> rfl, HB.out⟩
 by_cases hl : 0 < t.list.length
 · have r1 : (t.rel == 8) = false := by simp [h8]
   have r2 : decide (t.rel = 8) = false := by simp [h8]
   have r3 : decide (t.rel < 1) = false := decide_eq_false (by omega)
   have r4 : decide (7 < t.rel) = false := decide_eq_false (by omega)
   have l1 : decide ((0 : Int) < (t.list.length : Int)) = true := decide_eq_true (by omega)
   have l2 : decide (0 < t.list.length) = true := decide_eq_true (by omega)
   have HR := Lib.hid (show testB t = false by simp [testB, *])
   clear h8 h1 h7 hl
   go_enter Tryz.func131, Tryz.ntmps131
   go_upto_region 1 with fail
   obtain ⟨W1, hW1⟩ : ∃ W1, W1 = w.alloc (.cells #[.int .i64 t.rel, .string t.var, .int .i64 t.sym.kind, .string t.sym.text, .int .i64 t.sym.n, .slice A t.list.length c] 59) := ⟨_, rfl⟩
   rw [← hW1]
   have hBk : Blk W1 w.heap.size 59 #[.int .i64 t.rel, .string t.var, .int .i64 t.sym.kind, .string t.sym.text, .int .i64 t.sym.n, .slice A t.list.length c] := by rw [hW1]; exact Blk.new _ _ _
   have HB := Lib.hid (show Below w.heap.size w W1 by rw [hW1]; exact (Below.refl _ _).alloc (Nat.le_refl _) _)
   have e0 : W1.cell? ⟨w.heap.size, 0, none⟩ = some (.int .i64 t.rel) := (hBk.cell 0).trans rfl
   have e1 : W1.cell? ⟨w.heap.size, 1, none⟩ = some (.string t.var) := (hBk.cell 1).trans rfl
   have e2 : W1.cell? ⟨w.heap.size, 2, none⟩ = some (.int .i64 t.sym.kind) := (hBk.cell 2).trans rfl
   have e3 : W1.cell? ⟨w.heap.size, 3, none⟩ = some (.string t.sym.text) := (hBk.cell 3).trans rfl
   have e4 : W1.cell? ⟨w.heap.size, 4, none⟩ = some (.int .i64 t.sym.n) := (hBk.cell 4).trans rfl
   have e5 : W1.cell? ⟨w.heap.size, 5, none⟩ = some (.slice A t.list.length c) := (hBk.cell 5).trans rfl
   have hbl := hBk.lt
   clear hW1 hBk
   go_wp2_with (first | (go_at_call 132; refine (none_is t.sym _).mono ?_; rintro e w9 ⟨rfl, hb9⟩; have HB := Lib.hid (HB.out.trans (hb9.mono HB.out.size)); replace e0 := (hb9.cell (p := ⟨w.heap.size, 0, none⟩) hbl).trans e0; replace e1 := (hb9.cell (p := ⟨w.heap.size, 1, none⟩) hbl).trans e1; replace e2 := (hb9.cell (p := ⟨w.heap.size, 2, none⟩) hbl).trans e2; replace e3 := (hb9.cell (p := ⟨w.heap.size, 3, none⟩) hbl).trans e3; replace e4 := (hb9.cell (p := ⟨w.heap.size, 4, none⟩) hbl).trans e4; replace e5 := (hb9.cell (p := ⟨w.heap.size, 5, none⟩) hbl).trans e5; replace hbl := Nat.lt_of_lt_of_le hbl hb9.size; clear hb9) | (go_at_call 133; refine (constant_is t.sym _).mono ?_; rintro e w9 ⟨rfl, hb9⟩; have HB := Lib.hid (HB.out.trans (hb9.mono HB.out.size)); replace e0 := (hb9.cell (p := ⟨w.heap.size, 0, none⟩) hbl).trans e0; replace e1 := (hb9.cell (p := ⟨w.heap.size, 1, none⟩) hbl).trans e1; replace e2 := (hb9.cell (p := ⟨w.heap.size, 2, none⟩) hbl).trans e2; replace e3 := (hb9.cell (p := ⟨w.heap.size, 3, none⟩) hbl).trans e3; replace e4 := (hb9.cell (p := ⟨w.heap.size, 4, none⟩) hbl).trans e4; replace e5 := (hb9.cell (p := ⟨w.heap.size, 5, none⟩) hbl).trans e5; replace hbl := Nat.lt_of_lt_of_le hbl hb9.size; clear hb9) | (go_at_call 81; refine (word_is t.var _).mono ?_; rintro e w9 ⟨rfl, rfl⟩))
   go_ret
   exact ⟨by rw [HR.out] <;> rfl, HB.out⟩
 by_cases hv : t.var.toList = []
 · have r1 : (t.rel == 8) = false := by simp [h8]
   have r2 : decide (t.rel = 8) = false := by simp [h8]
   have r3 : decide (t.rel < 1) = false := decide_eq_false (by omega)
   have r4 : decide (7 < t.rel) = false := decide_eq_false (by omega)
   have l1 : decide ((0 : Int) < (t.list.length : Int)) = false := decide_eq_false (by omega)
   have l2 : decide (0 < t.list.length) = false := decide_eq_false (by omega)
   have l3 : t.list.length = 0 := by omega
   have l9 : t.list = [] := List.length_eq_zero_iff.1 l3
   have v1 : (t.var.toList == []) = true := by simp [hv]
   have v2 : t.var.toList.isEmpty = true := by simp [hv]
   have v3 : decide (t.var.toList = []) = true := by simp [hv]
   have HR := Lib.hid (show testB t = constB t.sym by simp [testB, *])
   clear h8 h1 h7 hl hv l3 l9
   go_enter Tryz.func131, Tryz.ntmps131
   go_upto_region 1 with fail
   obtain ⟨W1, hW1⟩ : ∃ W1, W1 = w.alloc (.cells #[.int .i64 t.rel, .string t.var, .int .i64 t.sym.kind, .string t.sym.text, .int .i64 t.sym.n, .slice A t.list.length c] 59) := ⟨_, rfl⟩
   rw [← hW1]
   have hBk : Blk W1 w.heap.size 59 #[.int .i64 t.rel, .string t.var, .int .i64 t.sym.kind, .string t.sym.text, .int .i64 t.sym.n, .slice A t.list.length c] := by rw [hW1]; exact Blk.new _ _ _
   have HB := Lib.hid (show Below w.heap.size w W1 by rw [hW1]; exact (Below.refl _ _).alloc (Nat.le_refl _) _)
   have e0 : W1.cell? ⟨w.heap.size, 0, none⟩ = some (.int .i64 t.rel) := (hBk.cell 0).trans rfl
   have e1 : W1.cell? ⟨w.heap.size, 1, none⟩ = some (.string t.var) := (hBk.cell 1).trans rfl
   have e2 : W1.cell? ⟨w.heap.size, 2, none⟩ = some (.int .i64 t.sym.kind) := (hBk.cell 2).trans rfl
   have e3 : W1.cell? ⟨w.heap.size, 3, none⟩ = some (.string t.sym.text) := (hBk.cell 3).trans rfl
   have e4 : W1.cell? ⟨w.heap.size, 4, none⟩ = some (.int .i64 t.sym.n) := (hBk.cell 4).trans rfl
   have e5 : W1.cell? ⟨w.heap.size, 5, none⟩ = some (.slice A t.list.length c) := (hBk.cell 5).trans rfl
   have hbl := hBk.lt
   clear hW1 hBk
   go_wp2_with (first | (go_at_call 132; refine (none_is t.sym _).mono ?_; rintro e w9 ⟨rfl, hb9⟩; have HB := Lib.hid (HB.out.trans (hb9.mono HB.out.size)); replace e0 := (hb9.cell (p := ⟨w.heap.size, 0, none⟩) hbl).trans e0; replace e1 := (hb9.cell (p := ⟨w.heap.size, 1, none⟩) hbl).trans e1; replace e2 := (hb9.cell (p := ⟨w.heap.size, 2, none⟩) hbl).trans e2; replace e3 := (hb9.cell (p := ⟨w.heap.size, 3, none⟩) hbl).trans e3; replace e4 := (hb9.cell (p := ⟨w.heap.size, 4, none⟩) hbl).trans e4; replace e5 := (hb9.cell (p := ⟨w.heap.size, 5, none⟩) hbl).trans e5; replace hbl := Nat.lt_of_lt_of_le hbl hb9.size; clear hb9) | (go_at_call 133; refine (constant_is t.sym _).mono ?_; rintro e w9 ⟨rfl, hb9⟩; have HB := Lib.hid (HB.out.trans (hb9.mono HB.out.size)); replace e0 := (hb9.cell (p := ⟨w.heap.size, 0, none⟩) hbl).trans e0; replace e1 := (hb9.cell (p := ⟨w.heap.size, 1, none⟩) hbl).trans e1; replace e2 := (hb9.cell (p := ⟨w.heap.size, 2, none⟩) hbl).trans e2; replace e3 := (hb9.cell (p := ⟨w.heap.size, 3, none⟩) hbl).trans e3; replace e4 := (hb9.cell (p := ⟨w.heap.size, 4, none⟩) hbl).trans e4; replace e5 := (hb9.cell (p := ⟨w.heap.size, 5, none⟩) hbl).trans e5; replace hbl := Nat.lt_of_lt_of_le hbl hb9.size; clear hb9) | (go_at_call 81; refine (word_is t.var _).mono ?_; rintro e w9 ⟨rfl, rfl⟩))
   go_ret
   exact ⟨by rw [HR.out] <;> rfl, HB.out⟩
 by_cases hw : isWord t.var = false
 · have r1 : (t.rel == 8) = false := by simp [h8]
   have r2 : decide (t.rel = 8) = false := by simp [h8]
   have r3 : decide (t.rel < 1) = false := decide_eq_false (by omega)
   have r4 : decide (7 < t.rel) = false := decide_eq_false (by omega)
   have l1 : decide ((0 : Int) < (t.list.length : Int)) = false := decide_eq_false (by omega)
   have l2 : decide (0 < t.list.length) = false := decide_eq_false (by omega)
   have l3 : t.list.length = 0 := by omega
   have l9 : t.list = [] := List.length_eq_zero_iff.1 l3
   have v1 : (t.var.toList == []) = false := by simp [hv]
   have v2 : t.var.toList.isEmpty = false := by simp [hv]
   have v3 : decide (t.var.toList = []) = false := by simp [hv]
   have x1 := hw
   have HR := Lib.hid (show testB t = false by simp [testB, *])
   clear h8 h1 h7 hl hv hw l3 l9
   go_enter Tryz.func131, Tryz.ntmps131
   go_upto_region 1 with fail
   obtain ⟨W1, hW1⟩ : ∃ W1, W1 = w.alloc (.cells #[.int .i64 t.rel, .string t.var, .int .i64 t.sym.kind, .string t.sym.text, .int .i64 t.sym.n, .slice A t.list.length c] 59) := ⟨_, rfl⟩
   rw [← hW1]
   have hBk : Blk W1 w.heap.size 59 #[.int .i64 t.rel, .string t.var, .int .i64 t.sym.kind, .string t.sym.text, .int .i64 t.sym.n, .slice A t.list.length c] := by rw [hW1]; exact Blk.new _ _ _
   have HB := Lib.hid (show Below w.heap.size w W1 by rw [hW1]; exact (Below.refl _ _).alloc (Nat.le_refl _) _)
   have e0 : W1.cell? ⟨w.heap.size, 0, none⟩ = some (.int .i64 t.rel) := (hBk.cell 0).trans rfl
   have e1 : W1.cell? ⟨w.heap.size, 1, none⟩ = some (.string t.var) := (hBk.cell 1).trans rfl
   have e2 : W1.cell? ⟨w.heap.size, 2, none⟩ = some (.int .i64 t.sym.kind) := (hBk.cell 2).trans rfl
   have e3 : W1.cell? ⟨w.heap.size, 3, none⟩ = some (.string t.sym.text) := (hBk.cell 3).trans rfl
   have e4 : W1.cell? ⟨w.heap.size, 4, none⟩ = some (.int .i64 t.sym.n) := (hBk.cell 4).trans rfl
   have e5 : W1.cell? ⟨w.heap.size, 5, none⟩ = some (.slice A t.list.length c) := (hBk.cell 5).trans rfl
   have hbl := hBk.lt
   clear hW1 hBk
   go_wp2_with (first | (go_at_call 132; refine (none_is t.sym _).mono ?_; rintro e w9 ⟨rfl, hb9⟩; have HB := Lib.hid (HB.out.trans (hb9.mono HB.out.size)); replace e0 := (hb9.cell (p := ⟨w.heap.size, 0, none⟩) hbl).trans e0; replace e1 := (hb9.cell (p := ⟨w.heap.size, 1, none⟩) hbl).trans e1; replace e2 := (hb9.cell (p := ⟨w.heap.size, 2, none⟩) hbl).trans e2; replace e3 := (hb9.cell (p := ⟨w.heap.size, 3, none⟩) hbl).trans e3; replace e4 := (hb9.cell (p := ⟨w.heap.size, 4, none⟩) hbl).trans e4; replace e5 := (hb9.cell (p := ⟨w.heap.size, 5, none⟩) hbl).trans e5; replace hbl := Nat.lt_of_lt_of_le hbl hb9.size; clear hb9) | (go_at_call 133; refine (constant_is t.sym _).mono ?_; rintro e w9 ⟨rfl, hb9⟩; have HB := Lib.hid (HB.out.trans (hb9.mono HB.out.size)); replace e0 := (hb9.cell (p := ⟨w.heap.size, 0, none⟩) hbl).trans e0; replace e1 := (hb9.cell (p := ⟨w.heap.size, 1, none⟩) hbl).trans e1; replace e2 := (hb9.cell (p := ⟨w.heap.size, 2, none⟩) hbl).trans e2; replace e3 := (hb9.cell (p := ⟨w.heap.size, 3, none⟩) hbl).trans e3; replace e4 := (hb9.cell (p := ⟨w.heap.size, 4, none⟩) hbl).trans e4; replace e5 := (hb9.cell (p := ⟨w.heap.size, 5, none⟩) hbl).trans e5; replace hbl := Nat.lt_of_lt_of_le hbl hb9.size; clear hb9) | (go_at_call 81; refine (word_is t.var _).mono ?_; rintro e w9 ⟨rfl, rfl⟩))
   go_ret
   exact ⟨by rw [HR.out] <;> rfl, HB.out⟩
 have r1 : (t.rel == 8) = false := by simp [h8]
 have r2 : decide (t.rel = 8) = false := by simp [h8]
 have r3 : decide (t.rel < 1) = false := decide_eq_false (by omega)
 have r4 : decide (7 < t.rel) = false := decide_eq_false (by omega)
 have l1 : decide ((0 : Int) < (t.list.length : Int)) = false := decide_eq_false (by omega)
 have l2 : decide (0 < t.list.length) = false := decide_eq_false (by omega)
 have l3 : t.list.length = 0 := by omega
 have l9 : t.list = [] := List.length_eq_zero_iff.1 l3
 have v1 : (t.var.toList == []) = false := by simp [hv]
 have v2 : t.var.toList.isEmpty = false := by simp [hv]
 have v3 : decide (t.var.toList = []) = false := by simp [hv]
 have x1 : isWord t.var = true := by simpa using hw
 have HR := Lib.hid (show testB t = noneB t.sym by simp [testB, *])
 clear h8 h1 h7 hl hv hw l3 l9
 go_enter Tryz.func131, Tryz.ntmps131
 go_upto_region 1 with fail
 obtain ⟨W1, hW1⟩ : ∃ W1, W1 = w.alloc (.cells #[.int .i64 t.rel, .string t.var, .int .i64 t.sym.kind, .string t.sym.text, .int .i64 t.sym.n, .slice A t.list.length c] 59) := ⟨_, rfl⟩
 rw [← hW1]
 have hBk : Blk W1 w.heap.size 59 #[.int .i64 t.rel, .string t.var, .int .i64 t.sym.kind, .string t.sym.text, .int .i64 t.sym.n, .slice A t.list.length c] := by rw [hW1]; exact Blk.new _ _ _
 have HB := Lib.hid (show Below w.heap.size w W1 by rw [hW1]; exact (Below.refl _ _).alloc (Nat.le_refl _) _)
 have e0 : W1.cell? ⟨w.heap.size, 0, none⟩ = some (.int .i64 t.rel) := (hBk.cell 0).trans rfl
 have e1 : W1.cell? ⟨w.heap.size, 1, none⟩ = some (.string t.var) := (hBk.cell 1).trans rfl
 have e2 : W1.cell? ⟨w.heap.size, 2, none⟩ = some (.int .i64 t.sym.kind) := (hBk.cell 2).trans rfl
 have e3 : W1.cell? ⟨w.heap.size, 3, none⟩ = some (.string t.sym.text) := (hBk.cell 3).trans rfl
 have e4 : W1.cell? ⟨w.heap.size, 4, none⟩ = some (.int .i64 t.sym.n) := (hBk.cell 4).trans rfl
 have e5 : W1.cell? ⟨w.heap.size, 5, none⟩ = some (.slice A t.list.length c) := (hBk.cell 5).trans rfl
 have hbl := hBk.lt
 clear hW1 hBk
 go_wp2_with (first | (go_at_call 132; refine (none_is t.sym _).mono ?_; rintro e w9 ⟨rfl, hb9⟩; have HB := Lib.hid (HB.out.trans (hb9.mono HB.out.size)); replace e0 := (hb9.cell (p := ⟨w.heap.size, 0, none⟩) hbl).trans e0; replace e1 := (hb9.cell (p := ⟨w.heap.size, 1, none⟩) hbl).trans e1; replace e2 := (hb9.cell (p := ⟨w.heap.size, 2, none⟩) hbl).trans e2; replace e3 := (hb9.cell (p := ⟨w.heap.size, 3, none⟩) hbl).trans e3; replace e4 := (hb9.cell (p := ⟨w.heap.size, 4, none⟩) hbl).trans e4; replace e5 := (hb9.cell (p := ⟨w.heap.size, 5, none⟩) hbl).trans e5; replace hbl := Nat.lt_of_lt_of_le hbl hb9.size; clear hb9) | (go_at_call 133; refine (constant_is t.sym _).mono ?_; rintro e w9 ⟨rfl, hb9⟩; have HB := Lib.hid (HB.out.trans (hb9.mono HB.out.size)); replace e0 := (hb9.cell (p := ⟨w.heap.size, 0, none⟩) hbl).trans e0; replace e1 := (hb9.cell (p := ⟨w.heap.size, 1, none⟩) hbl).trans e1; replace e2 := (hb9.cell (p := ⟨w.heap.size, 2, none⟩) hbl).trans e2; replace e3 := (hb9.cell (p := ⟨w.heap.size, 3, none⟩) hbl).trans e3; replace e4 := (hb9.cell (p := ⟨w.heap.size, 4, none⟩) hbl).trans e4; replace e5 := (hb9.cell (p := ⟨w.heap.size, 5, none⟩) hbl).trans e5; replace hbl := Nat.lt_of_lt_of_le hbl hb9.size; clear hb9) | (go_at_call 81; refine (word_is t.var _).mono ?_; rintro e w9 ⟨rfl, rfl⟩))
 go_ret
 exact ⟨by rw [HR.out] <;> rfl, HB.out⟩
end Go.Proofs.YtpndmjabjjbefaaGreat
namespace Go.Proofs.YtpndmjabjjbefaaGreat
open Go.RowKit Go.Shelf
set_option maxRecDepth 100000 in
set_option maxHeartbeats 4000000 in
theorem tests_is {D : Nat → Prop} (A : Option Addr) (c : Nat) (l : List TestT) (w : World) (h : RowR repTestT D w A c l) : Calls Tryz.prog 113 #[.slice A l.length c] w fun e w' => e = .returned (.bool (l.all testB)) ∧ Below w.heap.size w w' := by
 have HR := Lib.hid h
 have hlc := h.cap
 clear h
 go_enter Tryz.func113, Tryz.ntmps113
 go_wp2_with fail
 go_loopw [7] (fun s wr => ∃ i : Nat, s = .int .i64 i ∧ i ≤ l.length ∧ (∀ k, (h : k < l.length) → k < i → testB l[k] = true) ∧ Below w.heap.size w wr) (fun s wr => l.length - (intOf s).toNat)
 case atStart => exact ⟨0, rfl, Nat.zero_le _, fun k _ h => absurd h (by omega), Below.refl _ _⟩
 case round =>
  obtain ⟨i, rfl, hi, hall, hB⟩ := hrel
  have HALL := Lib.hid hall
  have HB := Lib.hid hB
  clear hall hB
  by_cases hlt : i < l.length
  · obtain ⟨y, hy⟩ : ∃ y, y = l[i] := ⟨_, rfl⟩
    obtain ⟨g, off, A1, c1, rfl, _, hg, q0, q1, q2, q3, q4, q5, hrow⟩ := at_TestT (HR.out.new_ HB.out) hlt
    rw [← hy] at q0 q1 q2 q3 q4 q5 hrow
    have HROW := Lib.hid (show RowRd wr 3 Sym.cells A1 c1 y.list from RowR.rd (hs := Sym.cells_length) hrow)
    have HY := Lib.hid hy
    have b1 : (0 : Int) ≤ (i : Int) := by omega
    have b2 : (i : Int) < (l.length : Int) := by omega
    have hzr := HB.out.size
    clear hy hrow
    go_wp2_with fail
    refine (test_is y A1 c1 _ (HROW.out.new_ (by (repeat (first | exact Below.refl _ _ | refine Below.drew ?_ | refine Below.al ?_ _ | refine Below.sc ?_ _))))).mono ?_
    rintro e w9 ⟨rfl, hb9⟩
    have HB9 := Lib.hid (HB.out.trans ((Below.trans (show Below wr.heap.size wr _ from (by (repeat (first | exact Below.refl _ _ | refine Below.drew ?_ | refine Below.al ?_ _ | refine Below.sc ?_ _)))) (hb9.mono (by simp)) : Below wr.heap.size wr w9).mono hzr))
    clear hb9 q0 q1 q2 q3 q4 q5
    cases hcb : testB y
    · have HRf := Lib.hid (show l.all testB = false from List.all_eq_false.2 ⟨y, by rw [HY.out]; exact List.getElem_mem hlt, by rw [hcb]; simp⟩)
      clear hcb
      go_wp2_with fail
      go_ret
      exact ⟨by rw [HRf.out] <;> rfl, HB9.out⟩
    · have HCB := Lib.hid hcb
      clear hcb
      go_wp2_with fail
      go_roundw
      case rel => exact ⟨i + 1, by go_num, by omega, fun k hk hki => by
       by_cases e : k = i
       · subst e; rw [← HY.out]; exact HCB.out
       · exact HALL.out k hk (by omega), HB9.out⟩
      case measure => simp [intOf] <;> omega
  · have hie : i = l.length := by omega
    subst hie
    have HRt := Lib.hid (show l.all testB = true from List.all_eq_true.2 (fun x hx => by
     obtain ⟨k, hk, rfl⟩ := List.getElem_of_mem hx
     exact HALL.out k hk hk))
    go_wp2_with fail
    go_ret
    exact ⟨by rw [HRt.out] <;> rfl, HB.out⟩
set_option maxRecDepth 100000 in
set_option maxHeartbeats 8000000 in
theorem cond_is {D : Nat → Prop} (x : CondT) (deep : Nat) (A1 A2 A3 : Option Addr) (c1 c2 c3 : Nat) (w : World) (h1 : RowR repTestT D w A1 c1 x.attr) (h2 : RowR repTestT D w A2 c2 x.value) (hn3 : (x.conds.length : Int) ≤ 9223372036854775807) :
 Calls Tryz.prog 95 #[.agg #[.int .i64 x.kind, .bool x.goal, .string x.id, .slice A1 x.attr.length c1, .slice A2 x.value.length c2, .bool x.acc, .slice A3 x.conds.length c3], .int .i64 deep] w fun e w' => e = .returned (.int .i64 (condE x deep)) ∧ Below w.heap.size w w' := by
 have H1 := Lib.hid h1
 have H2 := Lib.hid h2
 have hl1 := h1.cap
 have hl2 := h2.cap
 clear h1 h2
 go_enter Tryz.func95, Tryz.ntmps95
 go_upto_region 1 with fail
 obtain ⟨W1, hW1⟩ : ∃ W1, W1 = w.alloc (.cells #[.int .i64 x.kind, .bool x.goal, .string x.id, .slice A1 x.attr.length c1, .slice A2 x.value.length c2, .bool x.acc, .slice A3 x.conds.length c3] 62) := ⟨_, rfl⟩
 rw [← hW1]
 have hBk : Blk W1 w.heap.size 62 #[.int .i64 x.kind, .bool x.goal, .string x.id, .slice A1 x.attr.length c1, .slice A2 x.value.length c2, .bool x.acc, .slice A3 x.conds.length c3] := by rw [hW1]; exact Blk.new _ _ _
 have HB := Lib.hid (show Below w.heap.size w W1 by rw [hW1]; exact (Below.refl _ _).alloc (Nat.le_refl _) _)
 obtain ⟨e0, e1, e2, e3, e4, e5, e6⟩ := hBk.c7
 have hbl := hBk.lt
 have HK := Lib.hid hBk
 clear hW1 hBk
 by_cases hk3 : x.kind = 3
 · have hk3x := hk3
   by_cases hg : x.goal = true
   · have k3 : (x.kind == 3) = true := by simp [*]
     have k3b : decide (x.kind = 3) = true := by simp [*]
     have g1 := hg
     have HR := Lib.hid (show condE x deep = 9 by simp [condE, *])
     clear hk3 hk3x hg
     go_wp2_with (first | (go_at_call 81; refine (word_is x.id _).mono ?_; rintro e w9 ⟨rfl, rfl⟩) | (go_at_call 113; (first | (with_reducible refine (tests_is A1 c1 x.attr _ (H1.out.new_ HB.out)).mono ?_) | (with_reducible refine (tests_is A2 c2 x.value _ (H2.out.new_ HB.out)).mono ?_)); rintro e w9 ⟨rfl, hb9⟩; have HB := Lib.hid (HB.out.trans (hb9.mono HB.out.size)); have HK := Lib.hid (HK.out.new_ hb9); clear e0 e1 e2 e3 e4 e5 e6 hbl hb9; obtain ⟨e0, e1, e2, e3, e4, e5, e6⟩ := HK.out.c7; have hbl := HK.out.lt))
     go_ret
     exact ⟨by rw [HR.out] <;> rfl, HB.out⟩
   by_cases hv : ¬ x.id.toList = []
   · have k3 : (x.kind == 3) = true := by simp [*]
     have k3b : decide (x.kind = 3) = true := by simp [*]
     have g1 : x.goal = false := by simpa using hg
     have v1 : (x.id.toList == []) = false := by simp [hv]
     have v2 : x.id.toList.isEmpty = false := by simp [hv]
     have v3 : decide (x.id.toList = []) = false := by simp [hv]
     have HR := Lib.hid (show condE x deep = 9 by simp [condE, *])
     clear hk3 hk3x hg hv
     go_wp2_with (first | (go_at_call 81; refine (word_is x.id _).mono ?_; rintro e w9 ⟨rfl, rfl⟩) | (go_at_call 113; (first | (with_reducible refine (tests_is A1 c1 x.attr _ (H1.out.new_ HB.out)).mono ?_) | (with_reducible refine (tests_is A2 c2 x.value _ (H2.out.new_ HB.out)).mono ?_)); rintro e w9 ⟨rfl, hb9⟩; have HB := Lib.hid (HB.out.trans (hb9.mono HB.out.size)); have HK := Lib.hid (HK.out.new_ hb9); clear e0 e1 e2 e3 e4 e5 e6 hbl hb9; obtain ⟨e0, e1, e2, e3, e4, e5, e6⟩ := HK.out.c7; have hbl := HK.out.lt))
     go_ret
     exact ⟨by rw [HR.out] <;> rfl, HB.out⟩
   by_cases ha : 0 < x.attr.length
   · have k3 : (x.kind == 3) = true := by simp [*]
     have k3b : decide (x.kind = 3) = true := by simp [*]
     have g1 : x.goal = false := by simpa using hg
     have hv2 : x.id.toList = [] := Classical.byContradiction hv
     have v1 : (x.id.toList == []) = true := by simp [hv2]
     have v2 : x.id.toList.isEmpty = true := by simp [hv2]
     have v3 : decide (x.id.toList = []) = true := by simp [hv2]
     have aa : decide ((0 : Int) < (x.attr.length : Int)) = true := decide_eq_true (by omega)
     have ab : decide (0 < x.attr.length) = true := decide_eq_true (by omega)
     have HR := Lib.hid (show condE x deep = 9 by simp [condE, *])
     clear hk3 hk3x hg hv ha
     go_wp2_with (first | (go_at_call 81; refine (word_is x.id _).mono ?_; rintro e w9 ⟨rfl, rfl⟩) | (go_at_call 113; (first | (with_reducible refine (tests_is A1 c1 x.attr _ (H1.out.new_ HB.out)).mono ?_) | (with_reducible refine (tests_is A2 c2 x.value _ (H2.out.new_ HB.out)).mono ?_)); rintro e w9 ⟨rfl, hb9⟩; have HB := Lib.hid (HB.out.trans (hb9.mono HB.out.size)); have HK := Lib.hid (HK.out.new_ hb9); clear e0 e1 e2 e3 e4 e5 e6 hbl hb9; obtain ⟨e0, e1, e2, e3, e4, e5, e6⟩ := HK.out.c7; have hbl := HK.out.lt))
     go_ret
     exact ⟨by rw [HR.out] <;> rfl, HB.out⟩
   by_cases hb : 0 < x.value.length
   · have k3 : (x.kind == 3) = true := by simp [*]
     have k3b : decide (x.kind = 3) = true := by simp [*]
     have g1 : x.goal = false := by simpa using hg
     have hv2 : x.id.toList = [] := Classical.byContradiction hv
     have v1 : (x.id.toList == []) = true := by simp [hv2]
     have v2 : x.id.toList.isEmpty = true := by simp [hv2]
     have v3 : decide (x.id.toList = []) = true := by simp [hv2]
     have aa : decide ((0 : Int) < (x.attr.length : Int)) = false := decide_eq_false (by omega)
     have ab : decide (0 < x.attr.length) = false := decide_eq_false (by omega)
     have ba : decide ((0 : Int) < (x.value.length : Int)) = true := decide_eq_true (by omega)
     have bb : decide (0 < x.value.length) = true := decide_eq_true (by omega)
     have HR := Lib.hid (show condE x deep = 9 by simp [condE, *])
     clear hk3 hk3x hg hv ha hb
     go_wp2_with (first | (go_at_call 81; refine (word_is x.id _).mono ?_; rintro e w9 ⟨rfl, rfl⟩) | (go_at_call 113; (first | (with_reducible refine (tests_is A1 c1 x.attr _ (H1.out.new_ HB.out)).mono ?_) | (with_reducible refine (tests_is A2 c2 x.value _ (H2.out.new_ HB.out)).mono ?_)); rintro e w9 ⟨rfl, hb9⟩; have HB := Lib.hid (HB.out.trans (hb9.mono HB.out.size)); have HK := Lib.hid (HK.out.new_ hb9); clear e0 e1 e2 e3 e4 e5 e6 hbl hb9; obtain ⟨e0, e1, e2, e3, e4, e5, e6⟩ := HK.out.c7; have hbl := HK.out.lt))
     go_ret
     exact ⟨by rw [HR.out] <;> rfl, HB.out⟩
   by_cases hc : x.acc = true
   · have k3 : (x.kind == 3) = true := by simp [*]
     have k3b : decide (x.kind = 3) = true := by simp [*]
     have g1 : x.goal = false := by simpa using hg
     have hv2 : x.id.toList = [] := Classical.byContradiction hv
     have v1 : (x.id.toList == []) = true := by simp [hv2]
     have v2 : x.id.toList.isEmpty = true := by simp [hv2]
     have v3 : decide (x.id.toList = []) = true := by simp [hv2]
     have aa : decide ((0 : Int) < (x.attr.length : Int)) = false := decide_eq_false (by omega)
     have ab : decide (0 < x.attr.length) = false := decide_eq_false (by omega)
     have ba : decide ((0 : Int) < (x.value.length : Int)) = false := decide_eq_false (by omega)
     have bb : decide (0 < x.value.length) = false := decide_eq_false (by omega)
     have g2 := hc
     have HR := Lib.hid (show condE x deep = 9 by simp [condE, *])
     clear hk3 hk3x hg hv ha hb hc
     go_wp2_with (first | (go_at_call 81; refine (word_is x.id _).mono ?_; rintro e w9 ⟨rfl, rfl⟩) | (go_at_call 113; (first | (with_reducible refine (tests_is A1 c1 x.attr _ (H1.out.new_ HB.out)).mono ?_) | (with_reducible refine (tests_is A2 c2 x.value _ (H2.out.new_ HB.out)).mono ?_)); rintro e w9 ⟨rfl, hb9⟩; have HB := Lib.hid (HB.out.trans (hb9.mono HB.out.size)); have HK := Lib.hid (HK.out.new_ hb9); clear e0 e1 e2 e3 e4 e5 e6 hbl hb9; obtain ⟨e0, e1, e2, e3, e4, e5, e6⟩ := HK.out.c7; have hbl := HK.out.lt))
     go_ret
     exact ⟨by rw [HR.out] <;> rfl, HB.out⟩
   by_cases hd : x.conds.length = 0
   · have k3 : (x.kind == 3) = true := by simp [*]
     have k3b : decide (x.kind = 3) = true := by simp [*]
     have g1 : x.goal = false := by simpa using hg
     have hv2 : x.id.toList = [] := Classical.byContradiction hv
     have v1 : (x.id.toList == []) = true := by simp [hv2]
     have v2 : x.id.toList.isEmpty = true := by simp [hv2]
     have v3 : decide (x.id.toList = []) = true := by simp [hv2]
     have aa : decide ((0 : Int) < (x.attr.length : Int)) = false := decide_eq_false (by omega)
     have ab : decide (0 < x.attr.length) = false := decide_eq_false (by omega)
     have ba : decide ((0 : Int) < (x.value.length : Int)) = false := decide_eq_false (by omega)
     have bb : decide (0 < x.value.length) = false := decide_eq_false (by omega)
     have g2 : x.acc = false := by simpa using hc
     have dz : ((x.conds.length : Int) == 0) = true := by rw [beq_iff_eq]; omega
     have dy : decide ((x.conds.length : Int) = 0) = true := decide_eq_true (by omega)
     have HR := Lib.hid (show condE x deep = 9 by simp [condE, *])
     clear hk3 hk3x hg hv ha hb hc hd
     go_wp2_with (first | (go_at_call 81; refine (word_is x.id _).mono ?_; rintro e w9 ⟨rfl, rfl⟩) | (go_at_call 113; (first | (with_reducible refine (tests_is A1 c1 x.attr _ (H1.out.new_ HB.out)).mono ?_) | (with_reducible refine (tests_is A2 c2 x.value _ (H2.out.new_ HB.out)).mono ?_)); rintro e w9 ⟨rfl, hb9⟩; have HB := Lib.hid (HB.out.trans (hb9.mono HB.out.size)); have HK := Lib.hid (HK.out.new_ hb9); clear e0 e1 e2 e3 e4 e5 e6 hbl hb9; obtain ⟨e0, e1, e2, e3, e4, e5, e6⟩ := HK.out.c7; have hbl := HK.out.lt))
     go_ret
     exact ⟨by rw [HR.out] <;> rfl, HB.out⟩
   by_cases he : 3 ≤ deep
   · have k3 : (x.kind == 3) = true := by simp [*]
     have k3b : decide (x.kind = 3) = true := by simp [*]
     have g1 : x.goal = false := by simpa using hg
     have hv2 : x.id.toList = [] := Classical.byContradiction hv
     have v1 : (x.id.toList == []) = true := by simp [hv2]
     have v2 : x.id.toList.isEmpty = true := by simp [hv2]
     have v3 : decide (x.id.toList = []) = true := by simp [hv2]
     have aa : decide ((0 : Int) < (x.attr.length : Int)) = false := decide_eq_false (by omega)
     have ab : decide (0 < x.attr.length) = false := decide_eq_false (by omega)
     have ba : decide ((0 : Int) < (x.value.length : Int)) = false := decide_eq_false (by omega)
     have bb : decide (0 < x.value.length) = false := decide_eq_false (by omega)
     have g2 : x.acc = false := by simpa using hc
     have dz : ((x.conds.length : Int) == 0) = false := by rw [beq_eq_false_iff_ne]; omega
     have dy : decide ((x.conds.length : Int) = 0) = false := decide_eq_false (by omega)
     have p1 : decide ((3 : Int) ≤ (deep : Int)) = true := decide_eq_true (by omega)
     have p2 : decide (3 ≤ deep) = true := decide_eq_true (by omega)
     have HR := Lib.hid (show condE x deep = 8 by simp [condE, *])
     clear hk3 hk3x hg hv ha hb hc hd he
     go_wp2_with (first | (go_at_call 81; refine (word_is x.id _).mono ?_; rintro e w9 ⟨rfl, rfl⟩) | (go_at_call 113; (first | (with_reducible refine (tests_is A1 c1 x.attr _ (H1.out.new_ HB.out)).mono ?_) | (with_reducible refine (tests_is A2 c2 x.value _ (H2.out.new_ HB.out)).mono ?_)); rintro e w9 ⟨rfl, hb9⟩; have HB := Lib.hid (HB.out.trans (hb9.mono HB.out.size)); have HK := Lib.hid (HK.out.new_ hb9); clear e0 e1 e2 e3 e4 e5 e6 hbl hb9; obtain ⟨e0, e1, e2, e3, e4, e5, e6⟩ := HK.out.c7; have hbl := HK.out.lt))
     go_ret
     exact ⟨by rw [HR.out] <;> rfl, HB.out⟩
   have k3 : (x.kind == 3) = true := by simp [*]
   have k3b : decide (x.kind = 3) = true := by simp [*]
   have g1 : x.goal = false := by simpa using hg
   have hv2 : x.id.toList = [] := Classical.byContradiction hv
   have v1 : (x.id.toList == []) = true := by simp [hv2]
   have v2 : x.id.toList.isEmpty = true := by simp [hv2]
   have v3 : decide (x.id.toList = []) = true := by simp [hv2]
   have aa : decide ((0 : Int) < (x.attr.length : Int)) = false := decide_eq_false (by omega)
   have ab : decide (0 < x.attr.length) = false := decide_eq_false (by omega)
   have ba : decide ((0 : Int) < (x.value.length : Int)) = false := decide_eq_false (by omega)
   have bb : decide (0 < x.value.length) = false := decide_eq_false (by omega)
   have g2 : x.acc = false := by simpa using hc
   have dz : ((x.conds.length : Int) == 0) = false := by rw [beq_eq_false_iff_ne]; omega
   have dy : decide ((x.conds.length : Int) = 0) = false := decide_eq_false (by omega)
   have p1 : decide ((3 : Int) ≤ (deep : Int)) = false := decide_eq_false (by omega)
   have p2 : decide (3 ≤ deep) = false := decide_eq_false (by omega)
   have HR := Lib.hid (show condE x deep = 0 by simp [condE, *])
   clear hk3 hk3x hg hv ha hb hc hd he
   go_wp2_with (first | (go_at_call 81; refine (word_is x.id _).mono ?_; rintro e w9 ⟨rfl, rfl⟩) | (go_at_call 113; (first | (with_reducible refine (tests_is A1 c1 x.attr _ (H1.out.new_ HB.out)).mono ?_) | (with_reducible refine (tests_is A2 c2 x.value _ (H2.out.new_ HB.out)).mono ?_)); rintro e w9 ⟨rfl, hb9⟩; have HB := Lib.hid (HB.out.trans (hb9.mono HB.out.size)); have HK := Lib.hid (HK.out.new_ hb9); clear e0 e1 e2 e3 e4 e5 e6 hbl hb9; obtain ⟨e0, e1, e2, e3, e4, e5, e6⟩ := HK.out.c7; have hbl := HK.out.lt))
   go_ret
   exact ⟨by rw [HR.out] <;> rfl, HB.out⟩
 by_cases hk1 : x.kind = 1
 · have hk1x := hk1
   by_cases ha : 0 < x.conds.length
   · have k3 : (x.kind == 3) = false := by simp [*]
     have k3b : decide (x.kind = 3) = false := by simp [*]
     have k1 : (x.kind == 1) = true := by simp [*]
     have k1b : decide (x.kind = 1) = true := by simp [*]
     have aa : decide ((0 : Int) < (x.conds.length : Int)) = true := decide_eq_true (by omega)
     have ab : decide (0 < x.conds.length) = true := decide_eq_true (by omega)
     have HR := Lib.hid (show condE x deep = 9 by simp [condE, *])
     clear hk3 hk1 hk1x ha
     go_wp2_with (first | (go_at_call 81; refine (word_is x.id _).mono ?_; rintro e w9 ⟨rfl, rfl⟩) | (go_at_call 113; (first | (with_reducible refine (tests_is A1 c1 x.attr _ (H1.out.new_ HB.out)).mono ?_) | (with_reducible refine (tests_is A2 c2 x.value _ (H2.out.new_ HB.out)).mono ?_)); rintro e w9 ⟨rfl, hb9⟩; have HB := Lib.hid (HB.out.trans (hb9.mono HB.out.size)); have HK := Lib.hid (HK.out.new_ hb9); clear e0 e1 e2 e3 e4 e5 e6 hbl hb9; obtain ⟨e0, e1, e2, e3, e4, e5, e6⟩ := HK.out.c7; have hbl := HK.out.lt))
     go_ret
     exact ⟨by rw [HR.out] <;> rfl, HB.out⟩
   by_cases hb : isWord x.id = false
   · have k3 : (x.kind == 3) = false := by simp [*]
     have k3b : decide (x.kind = 3) = false := by simp [*]
     have k1 : (x.kind == 1) = true := by simp [*]
     have k1b : decide (x.kind = 1) = true := by simp [*]
     have aa : decide ((0 : Int) < (x.conds.length : Int)) = false := decide_eq_false (by omega)
     have ab : decide (0 < x.conds.length) = false := decide_eq_false (by omega)
     have w1 := hb
     have HR := Lib.hid (show condE x deep = 9 by simp [condE, *])
     clear hk3 hk1 hk1x ha hb
     go_wp2_with (first | (go_at_call 81; refine (word_is x.id _).mono ?_; rintro e w9 ⟨rfl, rfl⟩) | (go_at_call 113; (first | (with_reducible refine (tests_is A1 c1 x.attr _ (H1.out.new_ HB.out)).mono ?_) | (with_reducible refine (tests_is A2 c2 x.value _ (H2.out.new_ HB.out)).mono ?_)); rintro e w9 ⟨rfl, hb9⟩; have HB := Lib.hid (HB.out.trans (hb9.mono HB.out.size)); have HK := Lib.hid (HK.out.new_ hb9); clear e0 e1 e2 e3 e4 e5 e6 hbl hb9; obtain ⟨e0, e1, e2, e3, e4, e5, e6⟩ := HK.out.c7; have hbl := HK.out.lt))
     go_ret
     exact ⟨by rw [HR.out] <;> rfl, HB.out⟩
   by_cases hc : x.attr.length = 0
   · have k3 : (x.kind == 3) = false := by simp [*]
     have k3b : decide (x.kind = 3) = false := by simp [*]
     have k1 : (x.kind == 1) = true := by simp [*]
     have k1b : decide (x.kind = 1) = true := by simp [*]
     have aa : decide ((0 : Int) < (x.conds.length : Int)) = false := decide_eq_false (by omega)
     have ab : decide (0 < x.conds.length) = false := decide_eq_false (by omega)
     have w1 : isWord x.id = true := by simpa using hb
     have dz : ((x.attr.length : Int) == 0) = true := by rw [beq_iff_eq]; omega
     have dy : decide ((x.attr.length : Int) = 0) = true := decide_eq_true (by omega)
     have l1 : x.attr = [] := List.length_eq_zero_iff.1 hc
     have HR := Lib.hid (show condE x deep = 9 by simp [condE, *])
     clear hk3 hk1 hk1x ha hb hc
     go_wp2_with (first | (go_at_call 81; refine (word_is x.id _).mono ?_; rintro e w9 ⟨rfl, rfl⟩) | (go_at_call 113; (first | (with_reducible refine (tests_is A1 c1 x.attr _ (H1.out.new_ HB.out)).mono ?_) | (with_reducible refine (tests_is A2 c2 x.value _ (H2.out.new_ HB.out)).mono ?_)); rintro e w9 ⟨rfl, hb9⟩; have HB := Lib.hid (HB.out.trans (hb9.mono HB.out.size)); have HK := Lib.hid (HK.out.new_ hb9); clear e0 e1 e2 e3 e4 e5 e6 hbl hb9; obtain ⟨e0, e1, e2, e3, e4, e5, e6⟩ := HK.out.c7; have hbl := HK.out.lt))
     go_ret
     exact ⟨by rw [HR.out] <;> rfl, HB.out⟩
   by_cases hd : 4 < x.attr.length
   · have k3 : (x.kind == 3) = false := by simp [*]
     have k3b : decide (x.kind = 3) = false := by simp [*]
     have k1 : (x.kind == 1) = true := by simp [*]
     have k1b : decide (x.kind = 1) = true := by simp [*]
     have aa : decide ((0 : Int) < (x.conds.length : Int)) = false := decide_eq_false (by omega)
     have ab : decide (0 < x.conds.length) = false := decide_eq_false (by omega)
     have w1 : isWord x.id = true := by simpa using hb
     have dz : ((x.attr.length : Int) == 0) = false := by rw [beq_eq_false_iff_ne]; omega
     have dy : decide ((x.attr.length : Int) = 0) = false := decide_eq_false (by omega)
     have fa : decide ((4 : Int) < (x.attr.length : Int)) = true := decide_eq_true (by omega)
     have fb : decide (4 < x.attr.length) = true := decide_eq_true (by omega)
     have HR := Lib.hid (show condE x deep = 7 by simp [condE, *])
     clear hk3 hk1 hk1x ha hb hc hd
     go_wp2_with (first | (go_at_call 81; refine (word_is x.id _).mono ?_; rintro e w9 ⟨rfl, rfl⟩) | (go_at_call 113; (first | (with_reducible refine (tests_is A1 c1 x.attr _ (H1.out.new_ HB.out)).mono ?_) | (with_reducible refine (tests_is A2 c2 x.value _ (H2.out.new_ HB.out)).mono ?_)); rintro e w9 ⟨rfl, hb9⟩; have HB := Lib.hid (HB.out.trans (hb9.mono HB.out.size)); have HK := Lib.hid (HK.out.new_ hb9); clear e0 e1 e2 e3 e4 e5 e6 hbl hb9; obtain ⟨e0, e1, e2, e3, e4, e5, e6⟩ := HK.out.c7; have hbl := HK.out.lt))
     go_ret
     exact ⟨by rw [HR.out] <;> rfl, HB.out⟩
   by_cases he : 4 < x.value.length
   · have k3 : (x.kind == 3) = false := by simp [*]
     have k3b : decide (x.kind = 3) = false := by simp [*]
     have k1 : (x.kind == 1) = true := by simp [*]
     have k1b : decide (x.kind = 1) = true := by simp [*]
     have aa : decide ((0 : Int) < (x.conds.length : Int)) = false := decide_eq_false (by omega)
     have ab : decide (0 < x.conds.length) = false := decide_eq_false (by omega)
     have w1 : isWord x.id = true := by simpa using hb
     have dz : ((x.attr.length : Int) == 0) = false := by rw [beq_eq_false_iff_ne]; omega
     have dy : decide ((x.attr.length : Int) = 0) = false := decide_eq_false (by omega)
     have fa : decide ((4 : Int) < (x.attr.length : Int)) = false := decide_eq_false (by omega)
     have fb : decide (4 < x.attr.length) = false := decide_eq_false (by omega)
     have ga : decide ((4 : Int) < (x.value.length : Int)) = true := decide_eq_true (by omega)
     have gb : decide (4 < x.value.length) = true := decide_eq_true (by omega)
     have HR := Lib.hid (show condE x deep = 7 by simp [condE, *])
     clear hk3 hk1 hk1x ha hb hc hd he
     go_wp2_with (first | (go_at_call 81; refine (word_is x.id _).mono ?_; rintro e w9 ⟨rfl, rfl⟩) | (go_at_call 113; (first | (with_reducible refine (tests_is A1 c1 x.attr _ (H1.out.new_ HB.out)).mono ?_) | (with_reducible refine (tests_is A2 c2 x.value _ (H2.out.new_ HB.out)).mono ?_)); rintro e w9 ⟨rfl, hb9⟩; have HB := Lib.hid (HB.out.trans (hb9.mono HB.out.size)); have HK := Lib.hid (HK.out.new_ hb9); clear e0 e1 e2 e3 e4 e5 e6 hbl hb9; obtain ⟨e0, e1, e2, e3, e4, e5, e6⟩ := HK.out.c7; have hbl := HK.out.lt))
     go_ret
     exact ⟨by rw [HR.out] <;> rfl, HB.out⟩
   by_cases hf : x.attr.all testB = false
   · have k3 : (x.kind == 3) = false := by simp [*]
     have k3b : decide (x.kind = 3) = false := by simp [*]
     have k1 : (x.kind == 1) = true := by simp [*]
     have k1b : decide (x.kind = 1) = true := by simp [*]
     have aa : decide ((0 : Int) < (x.conds.length : Int)) = false := decide_eq_false (by omega)
     have ab : decide (0 < x.conds.length) = false := decide_eq_false (by omega)
     have w1 : isWord x.id = true := by simpa using hb
     have dz : ((x.attr.length : Int) == 0) = false := by rw [beq_eq_false_iff_ne]; omega
     have dy : decide ((x.attr.length : Int) = 0) = false := decide_eq_false (by omega)
     have fa : decide ((4 : Int) < (x.attr.length : Int)) = false := decide_eq_false (by omega)
     have fb : decide (4 < x.attr.length) = false := decide_eq_false (by omega)
     have ga : decide ((4 : Int) < (x.value.length : Int)) = false := decide_eq_false (by omega)
     have gb : decide (4 < x.value.length) = false := decide_eq_false (by omega)
     have t1 := hf
     have HR := Lib.hid (show condE x deep = 9 by simp [condE, *])
     clear hk3 hk1 hk1x ha hb hc hd he hf
     go_wp2_with (first | (go_at_call 81; refine (word_is x.id _).mono ?_; rintro e w9 ⟨rfl, rfl⟩) | (go_at_call 113; (first | (with_reducible refine (tests_is A1 c1 x.attr _ (H1.out.new_ HB.out)).mono ?_) | (with_reducible refine (tests_is A2 c2 x.value _ (H2.out.new_ HB.out)).mono ?_)); rintro e w9 ⟨rfl, hb9⟩; have HB := Lib.hid (HB.out.trans (hb9.mono HB.out.size)); have HK := Lib.hid (HK.out.new_ hb9); clear e0 e1 e2 e3 e4 e5 e6 hbl hb9; obtain ⟨e0, e1, e2, e3, e4, e5, e6⟩ := HK.out.c7; have hbl := HK.out.lt))
     go_ret
     exact ⟨by rw [HR.out] <;> rfl, HB.out⟩
   by_cases hg : x.value.all testB = false
   · have k3 : (x.kind == 3) = false := by simp [*]
     have k3b : decide (x.kind = 3) = false := by simp [*]
     have k1 : (x.kind == 1) = true := by simp [*]
     have k1b : decide (x.kind = 1) = true := by simp [*]
     have aa : decide ((0 : Int) < (x.conds.length : Int)) = false := decide_eq_false (by omega)
     have ab : decide (0 < x.conds.length) = false := decide_eq_false (by omega)
     have w1 : isWord x.id = true := by simpa using hb
     have dz : ((x.attr.length : Int) == 0) = false := by rw [beq_eq_false_iff_ne]; omega
     have dy : decide ((x.attr.length : Int) = 0) = false := decide_eq_false (by omega)
     have fa : decide ((4 : Int) < (x.attr.length : Int)) = false := decide_eq_false (by omega)
     have fb : decide (4 < x.attr.length) = false := decide_eq_false (by omega)
     have ga : decide ((4 : Int) < (x.value.length : Int)) = false := decide_eq_false (by omega)
     have gb : decide (4 < x.value.length) = false := decide_eq_false (by omega)
     have t1 : x.attr.all testB = true := by simpa using hf
     have t2 := hg
     have HR := Lib.hid (show condE x deep = 9 by simp [condE, *])
     clear hk3 hk1 hk1x ha hb hc hd he hf hg
     go_wp2_with (first | (go_at_call 81; refine (word_is x.id _).mono ?_; rintro e w9 ⟨rfl, rfl⟩) | (go_at_call 113; (first | (with_reducible refine (tests_is A1 c1 x.attr _ (H1.out.new_ HB.out)).mono ?_) | (with_reducible refine (tests_is A2 c2 x.value _ (H2.out.new_ HB.out)).mono ?_)); rintro e w9 ⟨rfl, hb9⟩; have HB := Lib.hid (HB.out.trans (hb9.mono HB.out.size)); have HK := Lib.hid (HK.out.new_ hb9); clear e0 e1 e2 e3 e4 e5 e6 hbl hb9; obtain ⟨e0, e1, e2, e3, e4, e5, e6⟩ := HK.out.c7; have hbl := HK.out.lt))
     go_ret
     exact ⟨by rw [HR.out] <;> rfl, HB.out⟩
   have k3 : (x.kind == 3) = false := by simp [*]
   have k3b : decide (x.kind = 3) = false := by simp [*]
   have k1 : (x.kind == 1) = true := by simp [*]
   have k1b : decide (x.kind = 1) = true := by simp [*]
   have aa : decide ((0 : Int) < (x.conds.length : Int)) = false := decide_eq_false (by omega)
   have ab : decide (0 < x.conds.length) = false := decide_eq_false (by omega)
   have w1 : isWord x.id = true := by simpa using hb
   have dz : ((x.attr.length : Int) == 0) = false := by rw [beq_eq_false_iff_ne]; omega
   have dy : decide ((x.attr.length : Int) = 0) = false := decide_eq_false (by omega)
   have fa : decide ((4 : Int) < (x.attr.length : Int)) = false := decide_eq_false (by omega)
   have fb : decide (4 < x.attr.length) = false := decide_eq_false (by omega)
   have ga : decide ((4 : Int) < (x.value.length : Int)) = false := decide_eq_false (by omega)
   have gb : decide (4 < x.value.length) = false := decide_eq_false (by omega)
   have t1 : x.attr.all testB = true := by simpa using hf
   have t2 : x.value.all testB = true := by simpa using hg
   have HR := Lib.hid (show condE x deep = 0 by simp [condE, *])
   clear hk3 hk1 hk1x ha hb hc hd he hf hg
   go_wp2_with (first | (go_at_call 81; refine (word_is x.id _).mono ?_; rintro e w9 ⟨rfl, rfl⟩) | (go_at_call 113; (first | (with_reducible refine (tests_is A1 c1 x.attr _ (H1.out.new_ HB.out)).mono ?_) | (with_reducible refine (tests_is A2 c2 x.value _ (H2.out.new_ HB.out)).mono ?_)); rintro e w9 ⟨rfl, hb9⟩; have HB := Lib.hid (HB.out.trans (hb9.mono HB.out.size)); have HK := Lib.hid (HK.out.new_ hb9); clear e0 e1 e2 e3 e4 e5 e6 hbl hb9; obtain ⟨e0, e1, e2, e3, e4, e5, e6⟩ := HK.out.c7; have hbl := HK.out.lt))
   go_ret
   exact ⟨by rw [HR.out] <;> rfl, HB.out⟩
 by_cases hk2 : x.kind = 2
 · have hk2x := hk2
   by_cases ha : 0 < x.conds.length
   · have k3 : (x.kind == 3) = false := by simp [*]
     have k3b : decide (x.kind = 3) = false := by simp [*]
     have k1 : (x.kind == 1) = false := by simp [*]
     have k1b : decide (x.kind = 1) = false := by simp [*]
     have k2 : (x.kind == 2) = true := by simp [*]
     have k2b : decide (x.kind = 2) = true := by simp [*]
     have aa : decide ((0 : Int) < (x.conds.length : Int)) = true := decide_eq_true (by omega)
     have ab : decide (0 < x.conds.length) = true := decide_eq_true (by omega)
     have HR := Lib.hid (show condE x deep = 9 by simp [condE, *])
     clear hk3 hk1 hk2 hk2x ha
     go_wp2_with (first | (go_at_call 81; refine (word_is x.id _).mono ?_; rintro e w9 ⟨rfl, rfl⟩) | (go_at_call 113; (first | (with_reducible refine (tests_is A1 c1 x.attr _ (H1.out.new_ HB.out)).mono ?_) | (with_reducible refine (tests_is A2 c2 x.value _ (H2.out.new_ HB.out)).mono ?_)); rintro e w9 ⟨rfl, hb9⟩; have HB := Lib.hid (HB.out.trans (hb9.mono HB.out.size)); have HK := Lib.hid (HK.out.new_ hb9); clear e0 e1 e2 e3 e4 e5 e6 hbl hb9; obtain ⟨e0, e1, e2, e3, e4, e5, e6⟩ := HK.out.c7; have hbl := HK.out.lt))
     go_ret
     exact ⟨by rw [HR.out] <;> rfl, HB.out⟩
   by_cases hb : isWord x.id = false
   · have k3 : (x.kind == 3) = false := by simp [*]
     have k3b : decide (x.kind = 3) = false := by simp [*]
     have k1 : (x.kind == 1) = false := by simp [*]
     have k1b : decide (x.kind = 1) = false := by simp [*]
     have k2 : (x.kind == 2) = true := by simp [*]
     have k2b : decide (x.kind = 2) = true := by simp [*]
     have aa : decide ((0 : Int) < (x.conds.length : Int)) = false := decide_eq_false (by omega)
     have ab : decide (0 < x.conds.length) = false := decide_eq_false (by omega)
     have w1 := hb
     have HR := Lib.hid (show condE x deep = 9 by simp [condE, *])
     clear hk3 hk1 hk2 hk2x ha hb
     go_wp2_with (first | (go_at_call 81; refine (word_is x.id _).mono ?_; rintro e w9 ⟨rfl, rfl⟩) | (go_at_call 113; (first | (with_reducible refine (tests_is A1 c1 x.attr _ (H1.out.new_ HB.out)).mono ?_) | (with_reducible refine (tests_is A2 c2 x.value _ (H2.out.new_ HB.out)).mono ?_)); rintro e w9 ⟨rfl, hb9⟩; have HB := Lib.hid (HB.out.trans (hb9.mono HB.out.size)); have HK := Lib.hid (HK.out.new_ hb9); clear e0 e1 e2 e3 e4 e5 e6 hbl hb9; obtain ⟨e0, e1, e2, e3, e4, e5, e6⟩ := HK.out.c7; have hbl := HK.out.lt))
     go_ret
     exact ⟨by rw [HR.out] <;> rfl, HB.out⟩
   by_cases hc : x.attr.length = 0
   · have k3 : (x.kind == 3) = false := by simp [*]
     have k3b : decide (x.kind = 3) = false := by simp [*]
     have k1 : (x.kind == 1) = false := by simp [*]
     have k1b : decide (x.kind = 1) = false := by simp [*]
     have k2 : (x.kind == 2) = true := by simp [*]
     have k2b : decide (x.kind = 2) = true := by simp [*]
     have aa : decide ((0 : Int) < (x.conds.length : Int)) = false := decide_eq_false (by omega)
     have ab : decide (0 < x.conds.length) = false := decide_eq_false (by omega)
     have w1 : isWord x.id = true := by simpa using hb
     have dz : ((x.attr.length : Int) == 0) = true := by rw [beq_iff_eq]; omega
     have dy : decide ((x.attr.length : Int) = 0) = true := decide_eq_true (by omega)
     have l1 : x.attr = [] := List.length_eq_zero_iff.1 hc
     have HR := Lib.hid (show condE x deep = 9 by simp [condE, *])
     clear hk3 hk1 hk2 hk2x ha hb hc
     go_wp2_with (first | (go_at_call 81; refine (word_is x.id _).mono ?_; rintro e w9 ⟨rfl, rfl⟩) | (go_at_call 113; (first | (with_reducible refine (tests_is A1 c1 x.attr _ (H1.out.new_ HB.out)).mono ?_) | (with_reducible refine (tests_is A2 c2 x.value _ (H2.out.new_ HB.out)).mono ?_)); rintro e w9 ⟨rfl, hb9⟩; have HB := Lib.hid (HB.out.trans (hb9.mono HB.out.size)); have HK := Lib.hid (HK.out.new_ hb9); clear e0 e1 e2 e3 e4 e5 e6 hbl hb9; obtain ⟨e0, e1, e2, e3, e4, e5, e6⟩ := HK.out.c7; have hbl := HK.out.lt))
     go_ret
     exact ⟨by rw [HR.out] <;> rfl, HB.out⟩
   by_cases hd : 4 < x.attr.length
   · have k3 : (x.kind == 3) = false := by simp [*]
     have k3b : decide (x.kind = 3) = false := by simp [*]
     have k1 : (x.kind == 1) = false := by simp [*]
     have k1b : decide (x.kind = 1) = false := by simp [*]
     have k2 : (x.kind == 2) = true := by simp [*]
     have k2b : decide (x.kind = 2) = true := by simp [*]
     have aa : decide ((0 : Int) < (x.conds.length : Int)) = false := decide_eq_false (by omega)
     have ab : decide (0 < x.conds.length) = false := decide_eq_false (by omega)
     have w1 : isWord x.id = true := by simpa using hb
     have dz : ((x.attr.length : Int) == 0) = false := by rw [beq_eq_false_iff_ne]; omega
     have dy : decide ((x.attr.length : Int) = 0) = false := decide_eq_false (by omega)
     have fa : decide ((4 : Int) < (x.attr.length : Int)) = true := decide_eq_true (by omega)
     have fb : decide (4 < x.attr.length) = true := decide_eq_true (by omega)
     have HR := Lib.hid (show condE x deep = 7 by simp [condE, *])
     clear hk3 hk1 hk2 hk2x ha hb hc hd
     go_wp2_with (first | (go_at_call 81; refine (word_is x.id _).mono ?_; rintro e w9 ⟨rfl, rfl⟩) | (go_at_call 113; (first | (with_reducible refine (tests_is A1 c1 x.attr _ (H1.out.new_ HB.out)).mono ?_) | (with_reducible refine (tests_is A2 c2 x.value _ (H2.out.new_ HB.out)).mono ?_)); rintro e w9 ⟨rfl, hb9⟩; have HB := Lib.hid (HB.out.trans (hb9.mono HB.out.size)); have HK := Lib.hid (HK.out.new_ hb9); clear e0 e1 e2 e3 e4 e5 e6 hbl hb9; obtain ⟨e0, e1, e2, e3, e4, e5, e6⟩ := HK.out.c7; have hbl := HK.out.lt))
     go_ret
     exact ⟨by rw [HR.out] <;> rfl, HB.out⟩
   by_cases he : 4 < x.value.length
   · have k3 : (x.kind == 3) = false := by simp [*]
     have k3b : decide (x.kind = 3) = false := by simp [*]
     have k1 : (x.kind == 1) = false := by simp [*]
     have k1b : decide (x.kind = 1) = false := by simp [*]
     have k2 : (x.kind == 2) = true := by simp [*]
     have k2b : decide (x.kind = 2) = true := by simp [*]
     have aa : decide ((0 : Int) < (x.conds.length : Int)) = false := decide_eq_false (by omega)
     have ab : decide (0 < x.conds.length) = false := decide_eq_false (by omega)
     have w1 : isWord x.id = true := by simpa using hb
     have dz : ((x.attr.length : Int) == 0) = false := by rw [beq_eq_false_iff_ne]; omega
     have dy : decide ((x.attr.length : Int) = 0) = false := decide_eq_false (by omega)
     have fa : decide ((4 : Int) < (x.attr.length : Int)) = false := decide_eq_false (by omega)
     have fb : decide (4 < x.attr.length) = false := decide_eq_false (by omega)
     have ga : decide ((4 : Int) < (x.value.length : Int)) = true := decide_eq_true (by omega)
     have gb : decide (4 < x.value.length) = true := decide_eq_true (by omega)
     have HR := Lib.hid (show condE x deep = 7 by simp [condE, *])
     clear hk3 hk1 hk2 hk2x ha hb hc hd he
     go_wp2_with (first | (go_at_call 81; refine (word_is x.id _).mono ?_; rintro e w9 ⟨rfl, rfl⟩) | (go_at_call 113; (first | (with_reducible refine (tests_is A1 c1 x.attr _ (H1.out.new_ HB.out)).mono ?_) | (with_reducible refine (tests_is A2 c2 x.value _ (H2.out.new_ HB.out)).mono ?_)); rintro e w9 ⟨rfl, hb9⟩; have HB := Lib.hid (HB.out.trans (hb9.mono HB.out.size)); have HK := Lib.hid (HK.out.new_ hb9); clear e0 e1 e2 e3 e4 e5 e6 hbl hb9; obtain ⟨e0, e1, e2, e3, e4, e5, e6⟩ := HK.out.c7; have hbl := HK.out.lt))
     go_ret
     exact ⟨by rw [HR.out] <;> rfl, HB.out⟩
   by_cases hf : x.attr.all testB = false
   · have k3 : (x.kind == 3) = false := by simp [*]
     have k3b : decide (x.kind = 3) = false := by simp [*]
     have k1 : (x.kind == 1) = false := by simp [*]
     have k1b : decide (x.kind = 1) = false := by simp [*]
     have k2 : (x.kind == 2) = true := by simp [*]
     have k2b : decide (x.kind = 2) = true := by simp [*]
     have aa : decide ((0 : Int) < (x.conds.length : Int)) = false := decide_eq_false (by omega)
     have ab : decide (0 < x.conds.length) = false := decide_eq_false (by omega)
     have w1 : isWord x.id = true := by simpa using hb
     have dz : ((x.attr.length : Int) == 0) = false := by rw [beq_eq_false_iff_ne]; omega
     have dy : decide ((x.attr.length : Int) = 0) = false := decide_eq_false (by omega)
     have fa : decide ((4 : Int) < (x.attr.length : Int)) = false := decide_eq_false (by omega)
     have fb : decide (4 < x.attr.length) = false := decide_eq_false (by omega)
     have ga : decide ((4 : Int) < (x.value.length : Int)) = false := decide_eq_false (by omega)
     have gb : decide (4 < x.value.length) = false := decide_eq_false (by omega)
     have t1 := hf
     have HR := Lib.hid (show condE x deep = 9 by simp [condE, *])
     clear hk3 hk1 hk2 hk2x ha hb hc hd he hf
     go_wp2_with (first | (go_at_call 81; refine (word_is x.id _).mono ?_; rintro e w9 ⟨rfl, rfl⟩) | (go_at_call 113; (first | (with_reducible refine (tests_is A1 c1 x.attr _ (H1.out.new_ HB.out)).mono ?_) | (with_reducible refine (tests_is A2 c2 x.value _ (H2.out.new_ HB.out)).mono ?_)); rintro e w9 ⟨rfl, hb9⟩; have HB := Lib.hid (HB.out.trans (hb9.mono HB.out.size)); have HK := Lib.hid (HK.out.new_ hb9); clear e0 e1 e2 e3 e4 e5 e6 hbl hb9; obtain ⟨e0, e1, e2, e3, e4, e5, e6⟩ := HK.out.c7; have hbl := HK.out.lt))
     go_ret
     exact ⟨by rw [HR.out] <;> rfl, HB.out⟩
   by_cases hg : x.value.all testB = false
   · have k3 : (x.kind == 3) = false := by simp [*]
     have k3b : decide (x.kind = 3) = false := by simp [*]
     have k1 : (x.kind == 1) = false := by simp [*]
     have k1b : decide (x.kind = 1) = false := by simp [*]
     have k2 : (x.kind == 2) = true := by simp [*]
     have k2b : decide (x.kind = 2) = true := by simp [*]
     have aa : decide ((0 : Int) < (x.conds.length : Int)) = false := decide_eq_false (by omega)
     have ab : decide (0 < x.conds.length) = false := decide_eq_false (by omega)
     have w1 : isWord x.id = true := by simpa using hb
     have dz : ((x.attr.length : Int) == 0) = false := by rw [beq_eq_false_iff_ne]; omega
     have dy : decide ((x.attr.length : Int) = 0) = false := decide_eq_false (by omega)
     have fa : decide ((4 : Int) < (x.attr.length : Int)) = false := decide_eq_false (by omega)
     have fb : decide (4 < x.attr.length) = false := decide_eq_false (by omega)
     have ga : decide ((4 : Int) < (x.value.length : Int)) = false := decide_eq_false (by omega)
     have gb : decide (4 < x.value.length) = false := decide_eq_false (by omega)
     have t1 : x.attr.all testB = true := by simpa using hf
     have t2 := hg
     have HR := Lib.hid (show condE x deep = 9 by simp [condE, *])
     clear hk3 hk1 hk2 hk2x ha hb hc hd he hf hg
     go_wp2_with (first | (go_at_call 81; refine (word_is x.id _).mono ?_; rintro e w9 ⟨rfl, rfl⟩) | (go_at_call 113; (first | (with_reducible refine (tests_is A1 c1 x.attr _ (H1.out.new_ HB.out)).mono ?_) | (with_reducible refine (tests_is A2 c2 x.value _ (H2.out.new_ HB.out)).mono ?_)); rintro e w9 ⟨rfl, hb9⟩; have HB := Lib.hid (HB.out.trans (hb9.mono HB.out.size)); have HK := Lib.hid (HK.out.new_ hb9); clear e0 e1 e2 e3 e4 e5 e6 hbl hb9; obtain ⟨e0, e1, e2, e3, e4, e5, e6⟩ := HK.out.c7; have hbl := HK.out.lt))
     go_ret
     exact ⟨by rw [HR.out] <;> rfl, HB.out⟩
   have k3 : (x.kind == 3) = false := by simp [*]
   have k3b : decide (x.kind = 3) = false := by simp [*]
   have k1 : (x.kind == 1) = false := by simp [*]
   have k1b : decide (x.kind = 1) = false := by simp [*]
   have k2 : (x.kind == 2) = true := by simp [*]
   have k2b : decide (x.kind = 2) = true := by simp [*]
   have aa : decide ((0 : Int) < (x.conds.length : Int)) = false := decide_eq_false (by omega)
   have ab : decide (0 < x.conds.length) = false := decide_eq_false (by omega)
   have w1 : isWord x.id = true := by simpa using hb
   have dz : ((x.attr.length : Int) == 0) = false := by rw [beq_eq_false_iff_ne]; omega
   have dy : decide ((x.attr.length : Int) = 0) = false := decide_eq_false (by omega)
   have fa : decide ((4 : Int) < (x.attr.length : Int)) = false := decide_eq_false (by omega)
   have fb : decide (4 < x.attr.length) = false := decide_eq_false (by omega)
   have ga : decide ((4 : Int) < (x.value.length : Int)) = false := decide_eq_false (by omega)
   have gb : decide (4 < x.value.length) = false := decide_eq_false (by omega)
   have t1 : x.attr.all testB = true := by simpa using hf
   have t2 : x.value.all testB = true := by simpa using hg
   have HR := Lib.hid (show condE x deep = 0 by simp [condE, *])
   clear hk3 hk1 hk2 hk2x ha hb hc hd he hf hg
   go_wp2_with (first | (go_at_call 81; refine (word_is x.id _).mono ?_; rintro e w9 ⟨rfl, rfl⟩) | (go_at_call 113; (first | (with_reducible refine (tests_is A1 c1 x.attr _ (H1.out.new_ HB.out)).mono ?_) | (with_reducible refine (tests_is A2 c2 x.value _ (H2.out.new_ HB.out)).mono ?_)); rintro e w9 ⟨rfl, hb9⟩; have HB := Lib.hid (HB.out.trans (hb9.mono HB.out.size)); have HK := Lib.hid (HK.out.new_ hb9); clear e0 e1 e2 e3 e4 e5 e6 hbl hb9; obtain ⟨e0, e1, e2, e3, e4, e5, e6⟩ := HK.out.c7; have hbl := HK.out.lt))
   go_ret
   exact ⟨by rw [HR.out] <;> rfl, HB.out⟩
 have k3 : (x.kind == 3) = false := by simp [*]
 have k3b : decide (x.kind = 3) = false := by simp [*]
 have k1 : (x.kind == 1) = false := by simp [*]
 have k1b : decide (x.kind = 1) = false := by simp [*]
 have k2 : (x.kind == 2) = false := by simp [*]
 have k2b : decide (x.kind = 2) = false := by simp [*]
 have HR := Lib.hid (show condE x deep = 9 by simp [condE, *])
 clear hk3 hk1 hk2
 go_wp2_with (first | (go_at_call 81; refine (word_is x.id _).mono ?_; rintro e w9 ⟨rfl, rfl⟩) | (go_at_call 113; (first | (with_reducible refine (tests_is A1 c1 x.attr _ (H1.out.new_ HB.out)).mono ?_) | (with_reducible refine (tests_is A2 c2 x.value _ (H2.out.new_ HB.out)).mono ?_)); rintro e w9 ⟨rfl, hb9⟩; have HB := Lib.hid (HB.out.trans (hb9.mono HB.out.size)); have HK := Lib.hid (HK.out.new_ hb9); clear e0 e1 e2 e3 e4 e5 e6 hbl hb9; obtain ⟨e0, e1, e2, e3, e4, e5, e6⟩ := HK.out.c7; have hbl := HK.out.lt))
 go_ret
 exact ⟨by rw [HR.out] <;> rfl, HB.out⟩
end Go.Proofs.YtpndmjabjjbefaaGreat
