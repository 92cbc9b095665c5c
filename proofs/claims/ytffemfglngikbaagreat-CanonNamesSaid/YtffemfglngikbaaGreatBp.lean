/-
  Texts put together: KeepHeavy, CanonFit, ActsSame, ProdSame, KeepTexts.
-/
import Derived.Test.YtffemfglngikbaaGreatBl
import Derived.Test.YtffemfglngikbaaGreatBn
import Derived.Test.YtffemfglngikbaaGreatBb
import Derived.Test.YtffemfglngikbaaGreatBc
import Derived.Deep.MidRow
import Derived.Test.YtffemfglngikbaaGreatBe
import Derived.Test.YtffemfglngikbaaGreatBd
import Derived.Maps.RangeWalk
namespace Go.Proofs.YtffemfglngikbaaGreat
open Go.RowKit Go.Shelf
def goK (most : Nat) (f : CondT → Nat) : List CondT → Nat → Nat
 | [], s => s
 | c :: l, s => if s ≤ most then goK most f l (s + (1 + f c)) else s
def sizeK (most : Nat) : Nat → Nat → List CondT → Nat
 | 0, d, l => if 20 < d then most + 1 else if l = [] then 0 else most + 1
 | n + 1, d, l => if 20 < d then most + 1 else min (goK most (fun c => sizeK most n (d + 1) c.conds) l 0) (most + 1)
theorem goK_ge (most : Nat) (f : CondT → Nat) : ∀ (l : List CondT) (s : Nat), s ≤ goK most f l s
 | [], s => Nat.le_refl _
 | c :: l, s => by
   rw [goK]
   split
   · have := goK_ge most f l (s + (1 + f c)); omega
   · omega
theorem goK_all (most : Nat) (f : CondT → Nat) : ∀ (l : List CondT) (s : Nat), goK most f l s ≤ most → goK most f l s = s + (l.map fun c => 1 + f c).sum ∧ ∀ c ∈ l, f c ≤ most
 | [], s, _ => by simp [goK]
 | c :: l, s, h => by
   rw [goK] at h ⊢
   by_cases hs : s ≤ most
   · rw [if_pos hs] at h ⊢
     obtain ⟨h1, h2⟩ := goK_all most f l _ h
     have := goK_ge most f l (s + (1 + f c))
     refine ⟨by rw [h1, List.map_cons, List.sum_cons]; omega, fun x hx => ?_⟩
     rcases List.mem_cons.1 hx with rfl | hx
     · omega
     · exact h2 x hx
   · rw [if_neg hs] at h
     omega
theorem goK_snoc (most : Nat) (f : CondT → Nat) : ∀ (l : List CondT) (c : CondT) (s : Nat), goK most f (l ++ [c]) s = if goK most f l s ≤ most then goK most f l s + (1 + f c) else goK most f l s
 | [], c, s => rfl
 | x :: l, c, s => by
   rw [List.cons_append, goK, goK]
   by_cases hs : s ≤ most
   · rw [if_pos hs, if_pos hs, goK_snoc most f l c]
   · rw [if_neg hs, if_neg hs, if_neg hs]
theorem goK_stop (most : Nat) (f : CondT → Nat) : ∀ (l m : List CondT) (s : Nat), ¬ goK most f l s ≤ most → goK most f (l ++ m) s = goK most f l s
 | [], m, s, h => by
   rw [goK] at h
   cases m with
   | nil => rfl
   | cons c m => simp only [List.nil_append, goK]; rw [if_neg h]
 | x :: l, m, s, h => by
   rw [List.cons_append, goK, goK]
   rw [goK] at h
   by_cases hs : s ≤ most
   · rw [if_pos hs, if_pos hs]
     rw [if_pos hs] at h
     exact goK_stop most f l m _ h
   · rw [if_neg hs, if_neg hs]
theorem sum_le_of {α : Type} (f g : α → Nat) : ∀ l : List α, (∀ c ∈ l, f c ≤ g c) → (l.map f).sum ≤ (l.map g).sum
 | [], _ => Nat.le_refl _
 | c :: l, h => by
   rw [List.map_cons, List.map_cons, List.sum_cons, List.sum_cons]
   have h1 := h c List.mem_cons_self
   have h2 := sum_le_of f g l (fun x hx => h x (List.mem_cons_of_mem _ hx))
   omega
theorem flatC_len (m d : Nat) (l : List CondT) : (flatC (m + 1) d l).length = (l.map fun c => 1 + (flatC m (d + 1) c.conds).length).sum := by
 rw [flatC_succ, List.length_flatMap]
 congr 1
 apply List.map_congr_left
 intro c _
 simp; omega
theorem sizeK_flat (most : Nat) : ∀ (n m d e : Nat) (l : List CondT), sizeK most n d l ≤ most → (flatC m e l).length ≤ sizeK most n d l
 | 0, m, d, e, l, h => by
   rw [sizeK] at h
   by_cases h1 : 20 < d
   · rw [if_pos h1] at h; omega
   · rw [if_neg h1] at h
     by_cases h2 : l = []
     · subst h2; cases m <;> simp [flatC]
     · rw [if_neg h2] at h; omega
 | n + 1, m, d, e, l, h => by
   rw [sizeK] at h ⊢
   by_cases h1 : 20 < d
   · rw [if_pos h1] at h; omega
   · rw [if_neg h1] at h ⊢
     obtain ⟨h2, h3⟩ := goK_all most (fun c => sizeK most n (d + 1) c.conds) l 0 (by omega)
     cases m with
     | zero => simp [flatC]
     | succ m =>
       have h4 := sum_le_of (fun c : CondT => 1 + (flatC m (e + 1) c.conds).length) (fun c => 1 + sizeK most n (d + 1) c.conds) l (fun c hc => by
        have := sizeK_flat most n m (d + 1) (e + 1) c.conds (h3 c hc)
        omega)
       rw [flatC_len]
       omega
theorem sizeK_deep (most : Nat) : ∀ (n d : Nat) (l : List CondT), sizeK most n d l ≤ most → d ≤ 20 ∧ ∀ {D : Nat → Prop} {w : World} {A : Option Addr} {c : Nat}, RowR (repCondT n) D w A c l → RowR (repCondT (20 - d)) D w A c l
 | 0, d, l, h => by
   rw [sizeK] at h
   by_cases h1 : 20 < d
   · rw [if_pos h1] at h; omega
   · rw [if_neg h1] at h
     by_cases h2 : l = []
     · subst h2
       exact ⟨by omega, fun g => ⟨g.1, g.2.1, fun h => absurd h (by simp)⟩⟩
     · rw [if_neg h2] at h; omega
 | n + 1, d, l, h => by
   rw [sizeK] at h
   by_cases h1 : 20 < d
   · rw [if_pos h1] at h; omega
   · rw [if_neg h1] at h
     obtain ⟨_, h3⟩ := goK_all most (fun c => sizeK most n (d + 1) c.conds) l 0 (by omega)
     refine ⟨by omega, fun {D w A c} g => ?_⟩
     refine ⟨g.1, g.2.1, fun h0 => ?_⟩
     obtain ⟨b, off, g1, g2, g3, g4⟩ := g.2.2 h0
     obtain ⟨d1, _⟩ := sizeK_deep most n (d + 1) _ (h3 l[0] (List.getElem_mem h0))
     obtain ⟨k, hk⟩ : ∃ k, 20 - d = k + 1 := ⟨20 - d - 1, by omega⟩
     refine ⟨b, off, g1, g2, g3, fun j hj => ?_⟩
     obtain ⟨cs, r, hc⟩ := g4 j hj
     obtain ⟨A1, c1, A2, c2, A3, c3, e0, e1, e2, e3⟩ := r
     have h5 := (sizeK_deep most n (d + 1) _ (h3 l[j] (List.getElem_mem hj))).2 e3
     rw [hk]
     rw [show 20 - (d + 1) = k by omega] at h5
     exact ⟨cs, ⟨A1, c1, A2, c2, A3, c3, e0, e1, e2, h5⟩, hc⟩
def heavyT (t : TestT) : Bool := decide (20 < t.list.length) || (decide (100 < t.var.size) || decide (100 < t.sym.text.size))
def heavyO (c : CondT) : Bool := decide (100 < c.id.size) || (decide (10 < c.attr.length) || (decide (10 < c.value.length) || (c.attr.any heavyT || c.value.any heavyT)))
def heavyC : Nat → List CondT → Bool
 | 0, _ => false
 | n + 1, l => l.any fun c => heavyO c || heavyC n c.conds
def heavyP (n : Nat) (p : ProdT) : Bool := decide (40 < sizeK 40 n 0 p.conds) || (decide (40 < p.acts.length) || (decide (100 < p.name.size) || heavyC n p.conds))
set_option maxRecDepth 100000 in
set_option maxHeartbeats 2000000 in
theorem heavyTests_is {D : Nat → Prop} {A : Option Addr} {c : Nat} (l : List TestT) (w : World) (h : RowR repTestT D w A c l) : Calls Tryz.prog 109 #[.slice A l.length c] w fun e w' => e = .returned (.bool (l.any heavyT)) ∧ w = w' := by
 have H := Lib.hid h
 have hlc := h.cap
 clear h
 go_enter Tryz.func109, Tryz.ntmps109
 go_wp2_with fail
 go_loopw [3] (fun s wr => ∃ i : Nat, s = .int .i64 i ∧ i ≤ l.length ∧ (∀ k, (h : k < l.length) → k < i → heavyT l[k] = false) ∧ wr = w) (fun s wr => l.length - (intOf s).toNat)
 case atStart => exact ⟨0, rfl, Nat.zero_le _, fun k _ h => absurd h (by omega), rfl⟩
 case round =>
  obtain ⟨i, rfl, hi, hall, rfl⟩ := hrel
  have HALL := Lib.hid hall
  clear hall
  by_cases hlt : i < l.length
  · obtain ⟨x, hx⟩ : ∃ x, x = l[i] := ⟨_, rfl⟩
    obtain ⟨g, off, A1, c1, rfl, _, hgs, q0, q1, q2, q3, q4, q5, hr⟩ := at_TestT H.out hlt
    rw [← hx] at q0 q1 q2 q3 q4 q5 hr
    have hcap := hr.cap
    have b1 : (0 : Int) ≤ (i : Int) := by omega
    have b2 : (i : Int) < (l.length : Int) := by omega
    have HX := Lib.hid hx
    have HYES := Lib.hid (show heavyT x = true → l.any heavyT = true from fun h => List.any_eq_true.2 ⟨x, by rw [HX.out]; exact List.getElem_mem hlt, h⟩)
    clear hx hr
    cases t1 : decide (20 < x.list.length)
    · cases t2 : decide (100 < x.var.size)
      · cases t3 : decide (100 < x.sym.text.size)
        · have s1 : decide ((20 : Int) < (x.list.length : Int)) = false := by simp at t1 ⊢; omega
          have s2 : decide ((100 : Int) < (x.var.size : Int)) = false := by simp at t2 ⊢; omega
          have s3 : decide ((100 : Int) < (x.sym.text.size : Int)) = false := by simp at t3 ⊢; omega
          have HN := Lib.hid (show heavyT x = false by simp [heavyT, t1, t2, t3])
          clear t1 t2 t3
          go_wp2_with fail
          go_roundw
          case rel =>
           refine ⟨i + 1, by go_num, by omega, fun k h hk => ?_, by trivial⟩
           rcases Nat.lt_or_ge k i with h3 | h3
           · exact HALL.out k h h3
           · obtain rfl : k = i := by omega
             rw [← HX.out]
             exact HN.out
          case measure => simp [intOf] <;> omega
        · have s1 : decide ((20 : Int) < (x.list.length : Int)) = false := by simp at t1 ⊢; omega
          have s2 : decide ((100 : Int) < (x.var.size : Int)) = false := by simp at t2 ⊢; omega
          have s3 : decide ((100 : Int) < (x.sym.text.size : Int)) = true := by simp at t3 ⊢; omega
          have HN := Lib.hid (HYES.out (by simp [heavyT, t3]))
          clear t1 t2 t3
          go_wp2_with fail
          go_ret
          exact ⟨by rw [HN.out]; rfl, rfl⟩
      · have s1 : decide ((20 : Int) < (x.list.length : Int)) = false := by simp at t1 ⊢; omega
        have s2 : decide ((100 : Int) < (x.var.size : Int)) = true := by simp at t2 ⊢; omega
        have HN := Lib.hid (HYES.out (by simp [heavyT, t2]))
        clear t1 t2
        go_wp2_with fail
        go_ret
        exact ⟨by rw [HN.out]; rfl, rfl⟩
    · have s1 : decide ((20 : Int) < (x.list.length : Int)) = true := by simp at t1 ⊢; omega
      have HN := Lib.hid (HYES.out (by simp [heavyT, t1]))
      clear t1
      go_wp2_with fail
      go_ret
      exact ⟨by rw [HN.out]; rfl, rfl⟩
  · have hie : i = l.length := by omega
    subst hie
    have HN := Lib.hid (show l.any heavyT = false by
     rw [List.any_eq_false]
     intro x hx
     obtain ⟨k, hk, rfl⟩ := List.getElem_of_mem hx
     simp [HALL.out k hk hk])
    go_wp2_with fail
    go_ret
    exact ⟨by rw [HN.out]; rfl, rfl⟩
set_option maxRecDepth 100000 in
set_option maxHeartbeats 4000000 in
theorem size_is (most : Nat) (hm : most ≤ 1000) : ∀ (n : Nat) (D : Nat → Prop) (A : Option Addr) (c : Nat) (d : Nat) (l : List CondT) (w : World), RowR (repCondT n) D w A c l → d ≤ 21 →
 Calls Tryz.prog 45 #[.slice A l.length c, .int .i64 (most : Int), .int .i64 (d : Int)] w fun e w' => e = .returned (.int .i64 (sizeK most n d l : Int)) ∧ w = w' := by
 intro n
 induction n with
 | zero =>
   intro D A c d l w h hd
   have hl0 : l = [] := by
    cases l with
    | nil => rfl
    | cons x l =>
      obtain ⟨b, off, cs, _, _, _, hr, _⟩ := h.at_ (k := 0) (by simp)
      exact hr.elim
   subst hl0
   clear h
   by_cases h20 : 20 < d
   · have t1 : decide ((20 : Int) < (d : Int)) = true := by simp; omega
     have v1 : IntKind.i64.wrap ((most : Int) + 1) = (most : Int) + 1 := IntWalk.i64_in _ (by omega)
     have HR := Lib.hid (show ((sizeK most 0 d [] : Nat) : Int) = (most : Int) + 1 by rw [sizeK, if_pos h20]; rfl)
     clear h20
     go_enter Tryz.func45, Tryz.ntmps45
     go_wp2_with fail
     go_ret
     exact ⟨by rw [HR.out]; rfl, rfl⟩
   · have t1 : decide ((20 : Int) < (d : Int)) = false := by simp; omega
     have v1 : IntKind.i64.wrap ((most : Int) + 1) = (most : Int) + 1 := IntWalk.i64_in _ (by omega)
     have HR := Lib.hid (show ((sizeK most 0 d [] : Nat) : Int) = 0 by rw [sizeK, if_neg h20, if_pos rfl]; rfl)
     have hmin : min (0 : Int) ((most : Int) + 1) = 0 := by omega
     clear h20
     go_enter Tryz.func45, Tryz.ntmps45
     go_wp2_with fail
     go_loopw [7, 8] (fun a s wr => s = .int .i64 0 ∧ a = .int .i64 0 ∧ wr = w) (fun a s wr => 0)
     case atStart => exact ⟨rfl, rfl, rfl⟩
     case round =>
      obtain ⟨rfl, rfl, rfl⟩ := hrel
      go_wp2_with fail
      go_ret
      exact ⟨by rw [HR.out]; rfl, rfl⟩
 | succ n ih =>
   intro D A c d l w h hd
   have IH := Lib.hid ih
   have H := Lib.hid h
   have hlc := h.cap
   clear h ih
   have v1 : IntKind.i64.wrap ((most : Int) + 1) = (most : Int) + 1 := IntWalk.i64_in _ (by omega)
   by_cases h20 : 20 < d
   · have t1 : decide ((20 : Int) < (d : Int)) = true := by simp; omega
     have HR := Lib.hid (show ((sizeK most (n + 1) d l : Nat) : Int) = (most : Int) + 1 by rw [sizeK, if_pos h20]; rfl)
     clear h20
     go_enter Tryz.func45, Tryz.ntmps45
     go_wp2_with fail
     go_ret
     exact ⟨by rw [HR.out]; rfl, rfl⟩
   · have t1 : decide ((20 : Int) < (d : Int)) = false := by simp; omega
     obtain ⟨f, hf⟩ : ∃ f : CondT → Nat, f = fun c => sizeK most n (d + 1) c.conds := ⟨_, rfl⟩
     have hfle : ∀ c, f c ≤ most + 1 := fun c => by
      rw [hf]
      cases n with
      | zero => simp only [sizeK]; split; omega; split <;> omega
      | succ n => simp only [sizeK]; split; omega; omega
     have HFLE := Lib.hid hfle
     have HR := Lib.hid (show ((sizeK most (n + 1) d l : Nat) : Int) = min ((goK most f l 0 : Nat) : Int) ((most : Int) + 1) by rw [sizeK, if_neg h20, ← hf]; omega)
     have HF := Lib.hid hf
     have hd20 : d ≤ 20 := by omega
     clear h20 hfle hf
     go_enter Tryz.func45, Tryz.ntmps45
     go_wp2_with fail
     go_loopw [7, 8] (fun a s wr => ∃ i : Nat, s = .int .i64 i ∧ i ≤ l.length ∧ a = .int .i64 ((goK most f (l.take i) 0 : Nat) : Int) ∧ goK most f (l.take i) 0 ≤ 2 * most + 2 ∧ wr = w) (fun a s wr => l.length - (intOf s).toNat)
     case atStart => exact ⟨0, rfl, Nat.zero_le _, rfl, by simp [goK], rfl⟩
     case round =>
      obtain ⟨i, rfl, hi, rfl, hle, rfl⟩ := hrel
      obtain ⟨s, hs⟩ : ∃ s, s = goK most f (l.take i) 0 := ⟨_, rfl⟩
      rw [← hs] at hle ⊢
      have HS := Lib.hid hs
      clear hs
      by_cases hlt : i < l.length
      · by_cases hsm : s ≤ most
        · have t2 : decide ((s : Int) ≤ (most : Int)) = true := by simp; omega
          obtain ⟨x, hx⟩ : ∃ x, x = l[i] := ⟨_, rfl⟩
          obtain ⟨g, off, A1, c1, A2, c2, A3, c3, rfl, _, hgs, q0, q1, q2, q3, q4, q5, q6, r1, r2, r3⟩ := at_CondT H.out hlt
          rw [← hx] at q6 r3
          have HR3 := Lib.hid r3
          have hn3 := r3.cap
          have b1 : (0 : Int) ≤ (i : Int) := by omega
          have b2 : (i : Int) < (l.length : Int) := by omega
          obtain ⟨y, hy⟩ : ∃ y, y = f x := ⟨_, rfl⟩
          have hyle : y ≤ most + 1 := by rw [hy]; exact HFLE.out x
          have HCL := Lib.hid (show Calls Tryz.prog 45 #[.slice A3 x.conds.length c3, .int .i64 (most : Int), .int .i64 ((d : Int) + 1)] wr fun e w' => e = .returned (.int .i64 (y : Int)) ∧ wr = w' by
           have := IH.out D A3 c3 (d + 1) x.conds wr HR3.out (by omega)
           rw [hy, HF.out]
           exact this)
          have HN := Lib.hid (show goK most f (l.take (i + 1)) 0 = s + (1 + y) by
           rw [List.take_succ_eq_append_getElem hlt, goK_snoc, ← HS.out, if_pos hsm, ← hx, hy])
          have v2 : IntKind.i64.wrap ((d : Int) + 1) = (d : Int) + 1 := IntWalk.i64_in _ (by omega)
          have v3 : IntKind.i64.wrap (1 + (y : Int)) = 1 + (y : Int) := IntWalk.i64_in _ (by omega)
          have v4 : IntKind.i64.wrap ((s : Int) + (1 + (y : Int))) = (s : Int) + (1 + (y : Int)) := IntWalk.i64_in _ (by omega)
          clear hx hy r1 r2 r3 q0 q1 q2 q3 q4 q5
          go_wp2_with fail
          refine HCL.out.mono ?_
          rintro e w2 ⟨rfl, rfl⟩
          go_wp2_with fail
          go_roundw
          case rel => exact ⟨i + 1, by go_num, by omega, by rw [HN.out]; simp, by rw [HN.out]; omega, by trivial⟩
          case measure => simp [intOf] <;> omega
        · have t2 : decide ((s : Int) ≤ (most : Int)) = false := by simp; omega
          have b2 : (i : Int) < (l.length : Int) := by omega
          have hmin : min (s : Int) ((most : Int) + 1) = (most : Int) + 1 := by omega
          have HN := Lib.hid (show goK most f l 0 = s by
           have := goK_stop most f (l.take i) (l.drop i) 0 (by rw [← HS.out]; exact hsm)
           rwa [List.take_append_drop, ← HS.out] at this)
          clear hsm
          go_wp2_with fail
          go_ret
          exact ⟨by rw [HR.out, HN.out, hmin]; rfl, rfl⟩
      · have hie : i = l.length := by omega
        subst hie
        have HN := Lib.hid (show goK most f l 0 = s by rw [HS.out, List.take_length])
        obtain ⟨z, hz⟩ : ∃ z, z = min (s : Int) ((most : Int) + 1) := ⟨_, rfl⟩
        have HZ := Lib.hid hz
        clear hz
        go_wp2_with fail
        go_ret
        exact ⟨by rw [HR.out, HN.out]; rfl, rfl⟩
theorem heavyC_succ (n : Nat) (l : List CondT) : heavyC (n + 1) l = l.any fun c => heavyO c || heavyC n c.conds := rfl
set_option maxRecDepth 100000 in
set_option maxHeartbeats 4000000 in
theorem heavyConds_is : ∀ (n : Nat) (D : Nat → Prop) (A : Option Addr) (c : Nat) (l : List CondT) (w : World), RowR (repCondT n) D w A c l →
 Calls Tryz.prog 46 #[.slice A l.length c] w fun e w' => e = .returned (.bool (heavyC n l)) ∧ Below w.heap.size w w' := by
 intro n
 induction n with
 | zero =>
   intro D A c l w h
   have hl0 : l = [] := by
    cases l with
    | nil => rfl
    | cons x l =>
      obtain ⟨b, off, cs, _, _, _, hr, _⟩ := h.at_ (k := 0) (by simp)
      exact hr.elim
   subst hl0
   clear h
   go_enter Tryz.func46, Tryz.ntmps46
   go_wp2_with fail
   go_loopw [3] (fun s wr => s = .int .i64 0 ∧ wr = w) (fun s wr => 0)
   case atStart => exact ⟨rfl, rfl⟩
   case round =>
    obtain ⟨rfl, rfl⟩ := hrel
    go_wp2_with fail
    go_ret
    exact ⟨rfl, Below.refl _ _⟩
 | succ n ih =>
   intro D A c l w h
   have IH := Lib.hid ih
   have H := Lib.hid h
   have hlc := h.cap
   clear h ih
   obtain ⟨R, hR⟩ : ∃ R, R = heavyC (n + 1) l := ⟨_, rfl⟩
   rw [← hR]
   have HR := Lib.hid (show R = l.any fun c => heavyO c || heavyC n c.conds by rw [hR, heavyC_succ])
   clear hR
   go_enter Tryz.func46, Tryz.ntmps46
   go_wp2_with fail
   go_loopw [3] (fun s wr => ∃ i : Nat, s = .int .i64 i ∧ i ≤ l.length ∧ (∀ k, (h : k < l.length) → k < i → (heavyO l[k] || heavyC n l[k].conds) = false) ∧ Below w.heap.size w wr) (fun s wr => l.length - (intOf s).toNat)
   case atStart => exact ⟨0, rfl, Nat.zero_le _, fun k _ h => absurd h (by omega), Below.refl _ _⟩
   case round =>
    obtain ⟨i, rfl, hi, hall, hB⟩ := hrel
    have HALL := Lib.hid hall
    have HB0 := Lib.hid hB
    clear hall hB
    by_cases hlt : i < l.length
    · obtain ⟨x, hx⟩ : ∃ x, x = l[i] := ⟨_, rfl⟩
      obtain ⟨g, off, A1, c1, A2, c2, A3, c3, rfl, _, hgs, q0, q1, q2, q3, q4, q5, q6, r1, r2, r3⟩ := at_CondT (H.out.new_ HB0.out) hlt
      rw [← hx] at q0 q1 q2 q3 q4 q5 q6 r1 r2 r3
      have HR1 := Lib.hid r1
      have HR2 := Lib.hid r2
      have HR3 := Lib.hid r3
      have hn1 := r1.cap
      have hn2 := r2.cap
      have hn3 := r3.cap
      have b1 : (0 : Int) ≤ (i : Int) := by omega
      have b2 : (i : Int) < (l.length : Int) := by omega
      have HX := Lib.hid hx
      have HYES := Lib.hid (show (heavyO x || heavyC n x.conds) = true → R = true from fun h => by rw [HR.out]; exact List.any_eq_true.2 ⟨x, by rw [HX.out]; exact List.getElem_mem hlt, h⟩)
      have hsz := HB0.out.size
      clear hx r1 r2 r3
      go_upto_region 5 with fail
      obtain ⟨X, hX⟩ : ∃ X, X = wr.alloc (.cells #[.int .i64 x.kind, .bool x.goal, .string x.id, .slice A1 x.attr.length c1, .slice A2 x.value.length c2, .bool x.acc, .slice A3 x.conds.length c3] 59) := ⟨_, rfl⟩
      rw [← hX]
      have hbX : Below wr.heap.size wr X := by rw [hX]; exact (Below.refl _ _).alloc (Nat.le_refl _) _
      have Kx := Lib.hid (show Blk X wr.heap.size 59 #[.int .i64 x.kind, .bool x.goal, .string x.id, .slice A1 x.attr.length c1, .slice A2 x.value.length c2, .bool x.acc, .slice A3 x.conds.length c3] by rw [hX]; exact Blk.new _ _ _)
      have HB := Lib.hid hbX
      have HBW := Lib.hid (HB0.out.trans (hbX.mono hsz))
      clear hX hbX q0 q1 q2 q3 q4 q5 q6
      obtain ⟨-, -, x2, x3, x4, -, x6⟩ := Kx.out.c7
      have xz := Kx.out.lt
      cases t1 : decide (100 < x.id.size)
      · skip
        cases t2 : decide (10 < x.attr.length)
        · skip
          cases t3 : decide (10 < x.value.length)
          · skip
            have s1 : decide ((100 : Int) < (x.id.size : Int)) = false := by simp at t1 ⊢; omega
            have s2 : decide ((10 : Int) < (x.attr.length : Int)) = false := by simp at t2 ⊢; omega
            have s3 : decide ((10 : Int) < (x.value.length : Int)) = false := by simp at t3 ⊢; omega
            cases t4 : x.attr.any heavyT
            · skip
              cases t5 : x.value.any heavyT
              · skip
                cases t6 : heavyC n x.conds
                · skip
                  have hc1 := heavyTests_is x.attr X (HR1.out.new_ HB.out)
                  rw [t4] at hc1
                  have HC1 := Lib.hid hc1
                  clear hc1
                  have hc2 := heavyTests_is x.value X (HR2.out.new_ HB.out)
                  rw [t5] at hc2
                  have HC2 := Lib.hid hc2
                  clear hc2
                  have hc3 := IH.out D A3 c3 x.conds X (HR3.out.new_ HB.out)
                  rw [t6] at hc3
                  have HC3 := Lib.hid hc3
                  clear hc3
                  have HN := Lib.hid (show (heavyO x || heavyC n x.conds) = false by simp [heavyO, t1, t2, t3, t4, t5, t6])
                  clear t1 t2 t3 t4 t5 t6
                  go_wp2_with fail
                  refine HC1.out.mono ?_
                  rintro e w9 ⟨rfl, rfl⟩
                  go_wp2_with fail
                  refine HC2.out.mono ?_
                  rintro e w9 ⟨rfl, rfl⟩
                  go_wp2_with fail
                  refine HC3.out.mono ?_
                  rintro e w5 ⟨rfl, hb5⟩
                  have HB5 := Lib.hid (HBW.out.trans (hb5.mono HBW.out.size))
                  clear hb5
                  clear x2 x3 x4 x6
                  go_wp2_with fail
                  go_roundw
                  case rel =>
                   refine ⟨i + 1, by go_num, by omega, fun k h hk => ?_, HB5.out⟩
                   rcases Nat.lt_or_ge k i with h3 | h3
                   · exact HALL.out k h h3
                   · obtain rfl : k = i := by omega
                     rw [← HX.out]
                     exact HN.out
                  case measure => simp [intOf] <;> omega
                · skip
                  have hc1 := heavyTests_is x.attr X (HR1.out.new_ HB.out)
                  rw [t4] at hc1
                  have HC1 := Lib.hid hc1
                  clear hc1
                  have hc2 := heavyTests_is x.value X (HR2.out.new_ HB.out)
                  rw [t5] at hc2
                  have HC2 := Lib.hid hc2
                  clear hc2
                  have hc3 := IH.out D A3 c3 x.conds X (HR3.out.new_ HB.out)
                  rw [t6] at hc3
                  have HC3 := Lib.hid hc3
                  clear hc3
                  have HN := Lib.hid (HYES.out (by simp [t6]))
                  clear t1 t2 t3 t4 t5 t6
                  go_wp2_with fail
                  refine HC1.out.mono ?_
                  rintro e w9 ⟨rfl, rfl⟩
                  go_wp2_with fail
                  refine HC2.out.mono ?_
                  rintro e w9 ⟨rfl, rfl⟩
                  go_wp2_with fail
                  refine HC3.out.mono ?_
                  rintro e w5 ⟨rfl, hb5⟩
                  have HB5 := Lib.hid (HBW.out.trans (hb5.mono HBW.out.size))
                  clear hb5
                  clear x2 x3 x4 x6
                  go_wp2_with fail
                  go_ret
                  exact ⟨by rw [HN.out]; rfl, HB5.out⟩
              · skip
                have hc1 := heavyTests_is x.attr X (HR1.out.new_ HB.out)
                rw [t4] at hc1
                have HC1 := Lib.hid hc1
                clear hc1
                have hc2 := heavyTests_is x.value X (HR2.out.new_ HB.out)
                rw [t5] at hc2
                have HC2 := Lib.hid hc2
                clear hc2
                have HN := Lib.hid (HYES.out (by simp [heavyO, t5]))
                clear t1 t2 t3 t4 t5
                go_wp2_with fail
                refine HC1.out.mono ?_
                rintro e w9 ⟨rfl, rfl⟩
                go_wp2_with fail
                refine HC2.out.mono ?_
                rintro e w9 ⟨rfl, rfl⟩
                go_wp2_with fail
                go_ret
                exact ⟨by rw [HN.out]; rfl, HBW.out⟩
            · skip
              have hc1 := heavyTests_is x.attr X (HR1.out.new_ HB.out)
              rw [t4] at hc1
              have HC1 := Lib.hid hc1
              clear hc1
              have HN := Lib.hid (HYES.out (by simp [heavyO, t4]))
              clear t1 t2 t3 t4
              go_wp2_with fail
              refine HC1.out.mono ?_
              rintro e w9 ⟨rfl, rfl⟩
              go_wp2_with fail
              go_ret
              exact ⟨by rw [HN.out]; rfl, HBW.out⟩
          · skip
            have s1 : decide ((100 : Int) < (x.id.size : Int)) = false := by simp at t1 ⊢; omega
            have s2 : decide ((10 : Int) < (x.attr.length : Int)) = false := by simp at t2 ⊢; omega
            have s3 : decide ((10 : Int) < (x.value.length : Int)) = true := by simp at t3 ⊢; omega
            have HN := Lib.hid (HYES.out (by simp [heavyO, t3]))
            clear t1 t2 t3
            go_wp2_with fail
            go_ret
            exact ⟨by rw [HN.out]; rfl, HBW.out⟩
        · skip
          have s1 : decide ((100 : Int) < (x.id.size : Int)) = false := by simp at t1 ⊢; omega
          have s2 : decide ((10 : Int) < (x.attr.length : Int)) = true := by simp at t2 ⊢; omega
          have HN := Lib.hid (HYES.out (by simp [heavyO, t2]))
          clear t1 t2
          go_wp2_with fail
          go_ret
          exact ⟨by rw [HN.out]; rfl, HBW.out⟩
      · skip
        have s1 : decide ((100 : Int) < (x.id.size : Int)) = true := by simp at t1 ⊢; omega
        have HN := Lib.hid (HYES.out (by simp [heavyO, t1]))
        clear t1
        go_wp2_with fail
        go_ret
        exact ⟨by rw [HN.out]; rfl, HBW.out⟩
    · have hie : i = l.length := by omega
      subst hie
      have HN := Lib.hid (show R = false by
       rw [HR.out, List.any_eq_false]
       intro x hx
       obtain ⟨k, hk, rfl⟩ := List.getElem_of_mem hx
       have := HALL.out k hk hk
       simpa using this)
      go_wp2_with fail
      go_ret
      exact ⟨by rw [HN.out]; rfl, HB0.out⟩
set_option maxRecDepth 100000 in
set_option maxHeartbeats 4000000 in
theorem heavy_is {D : Nat → Prop} (n : Nat) (p : ProdT) (A1 A2 : Option Addr) (c1 c2 : Nat) (w : World) (h1 : RowR (repCondT n) D w A1 c1 p.conds) (h2 : RowR repActT D w A2 c2 p.acts) :
 Calls Tryz.prog 9 #[.agg #[.string p.name, .slice A1 p.conds.length c1, .slice A2 p.acts.length c2]] w fun e w' => e = .returned (.bool (heavyP n p)) ∧ Below w.heap.size w w' := by
 have H1 := Lib.hid h1
 have hac := h2.cap
 obtain ⟨R, hR⟩ : ∃ R, R = heavyP n p := ⟨_, rfl⟩
 rw [← hR]
 have HR := Lib.hid hR
 obtain ⟨s, hs⟩ : ∃ s, s = sizeK 40 n 0 p.conds := ⟨_, rfl⟩
 unfold heavyP at hR
 rw [← hs] at hR
 have HV := Lib.hid hR
 clear hR h1 h2
 go_enter Tryz.func9, Tryz.ntmps9
 go_upto_region 1 with fail
 obtain ⟨w1, hw1⟩ : ∃ w1, w1 = (w.alloc (.cells #[.string p.name, .slice A1 p.conds.length c1, .slice A2 p.acts.length c2] 25)) := ⟨_, rfl⟩
 rw [← hw1]
 have HB := Lib.hid (show Below w.heap.size w w1 by rw [hw1]; exact (by repeat (first | exact Below.refl _ _ | refine Below.drew ?_ | refine Below.al ?_ _ | refine Below.sc ?_ _)))
 have Kp := Lib.hid (show Blk w1 (w.heap.size) 25 #[.string p.name, .slice A1 p.conds.length c1, .slice A2 p.acts.length c2] by rw [hw1]; exact (Blk.new w 25 #[.string p.name, .slice A1 p.conds.length c1, .slice A2 p.acts.length c2]))
 clear hw1
 obtain ⟨p0, p1, p2⟩ := Kp.out.c3
 have pz := Kp.out.lt
 have hc1 : Calls Tryz.prog 45 #[.slice A1 p.conds.length c1, .int .i64 40, .int .i64 0] w1 _ := size_is 40 (by decide) n D A1 c1 0 p.conds w1 (H1.out.new_ HB.out) (by decide)
 rw [← hs] at hc1
 have HC1 := Lib.hid hc1
 clear hc1 hs
 cases t1 : decide (40 < s)
 · skip
   cases t2 : decide (40 < p.acts.length)
   · skip
     cases t3 : decide (100 < p.name.size)
     · skip
       have s1 : decide ((40 : Int) < (s : Int)) = false := by simp at t1 ⊢; omega
       have s2 : decide ((40 : Int) < (p.acts.length : Int)) = false := by simp at t2 ⊢; omega
       have s3 : decide ((100 : Int) < (p.name.size : Int)) = false := by simp at t3 ⊢; omega
       have HN := Lib.hid (show R = heavyC n p.conds by rw [HV.out, t1, t2, t3]; simp)
       clear t1 t2 t3
       go_wp2_with fail
       with_reducible refine (HC1.out).mono ?_
       rintro e w0 ⟨rfl, rfl⟩
       go_wp2_with fail
       with_reducible refine (heavyConds_is n D A1 c1 p.conds _ (H1.out.new_ HB.out)).mono ?_
       rintro e w2 ⟨rfl, hb⟩
       have hbs := Below.trans (show Below w1.heap.size w1 _ from (by (repeat (first | exact Below.refl _ _ | refine Below.drew ?_ | refine Below.al ?_ _ | refine Below.sc ?_ _)))) (hb.mono (by simp <;> omega))
       have Kp := Lib.hid (Kp.out.new_ hbs)
       have HB := Lib.hid (HB.out.trans (hbs.mono HB.out.size))
       have hsz2 := hbs.size
       clear p0 p1 p2 pz hb hbs
       obtain ⟨p0, p1, p2⟩ := Kp.out.c3
       have pz := Kp.out.lt
       go_wp2_with fail
       go_ret
       exact ⟨by rw [HN.out]; rfl, HB.out⟩
     · skip
       have s1 : decide ((40 : Int) < (s : Int)) = false := by simp at t1 ⊢; omega
       have s2 : decide ((40 : Int) < (p.acts.length : Int)) = false := by simp at t2 ⊢; omega
       have s3 : decide ((100 : Int) < (p.name.size : Int)) = true := by simp at t3 ⊢; omega
       have HN := Lib.hid (show R = true by rw [HV.out, t1, t2, t3]; simp)
       clear t1 t2 t3
       go_wp2_with fail
       with_reducible refine (HC1.out).mono ?_
       rintro e w0 ⟨rfl, rfl⟩
       go_wp2_with fail
       go_ret
       exact ⟨by rw [HN.out]; rfl, HB.out⟩
   · skip
     have s1 : decide ((40 : Int) < (s : Int)) = false := by simp at t1 ⊢; omega
     have s2 : decide ((40 : Int) < (p.acts.length : Int)) = true := by simp at t2 ⊢; omega
     have HN := Lib.hid (show R = true by rw [HV.out, t1, t2]; simp)
     clear t1 t2
     go_wp2_with fail
     with_reducible refine (HC1.out).mono ?_
     rintro e w0 ⟨rfl, rfl⟩
     go_wp2_with fail
     go_ret
     exact ⟨by rw [HN.out]; rfl, HB.out⟩
 · skip
   have s1 : decide ((40 : Int) < (s : Int)) = true := by simp at t1 ⊢; omega
   have HN := Lib.hid (show R = true by rw [HV.out, t1]; simp)
   clear t1
   go_wp2_with fail
   with_reducible refine (HC1.out).mono ?_
   rintro e w0 ⟨rfl, rfl⟩
   go_wp2_with fail
   go_ret
   exact ⟨by rw [HN.out]; rfl, HB.out⟩
theorem heavyP_light {n : Nat} {p : ProdT} (h : heavyP n p = false) : (∀ {D : Nat → Prop} {w : World} {A : Option Addr} {c : Nat}, RowR (repCondT n) D w A c p.conds → RowR (repCondT 20) D w A c p.conds) ∧ (∀ m e, (flatC m e p.conds).length ≤ 40) ∧ p.acts.length ≤ 40 ∧ p.name.size ≤ 100 := by
 unfold heavyP at h
 simp only [Bool.or_eq_false_iff, decide_eq_false_iff_not] at h
 obtain ⟨h1, h2, h3, h4⟩ := h
 have h5 : sizeK 40 n 0 p.conds ≤ 40 := by omega
 exact ⟨fun g => (sizeK_deep 40 n 0 p.conds h5).2 g, fun m e => Nat.le_trans (sizeK_flat 40 n m 0 e p.conds h5) h5, by omega, by omega⟩
end Go.Proofs.YtffemfglngikbaaGreat
namespace Go.Proofs.YtffemfglngikbaaGreat
open Go.RowKit Go.Shelf
theorem fm_congr {α β : Type} {f g : α → List β} : ∀ {l : List α}, (∀ x ∈ l, f x = g x) → l.flatMap f = l.flatMap g
 | [], _ => rfl
 | x :: l, h => by rw [List.flatMap_cons, List.flatMap_cons, h x (by simp), fm_congr (l := l) (fun y hy => h y (by simp [hy]))]
theorem sizeK_zero {d : Nat} {l : List CondT} (h : sizeK 40 0 d l ≤ 40) : l = [] := by
 rw [sizeK] at h
 by_cases h1 : 20 < d
 · rw [if_pos h1] at h; omega
 · rw [if_neg h1] at h
   by_cases h2 : l = []
   · exact h2
   · rw [if_neg h2] at h; omega
theorem sizeK_go {n d : Nat} {l : List CondT} (h : sizeK 40 (n + 1) d l ≤ 40) : sizeK 40 (n + 1) d l = (l.map fun c => 1 + sizeK 40 n (d + 1) c.conds).sum ∧ ∀ c ∈ l, sizeK 40 n (d + 1) c.conds ≤ 40 := by
 rw [sizeK] at h ⊢
 by_cases h1 : 20 < d
 · rw [if_pos h1] at h; omega
 · rw [if_neg h1] at h ⊢
   obtain ⟨g1, g2⟩ := goK_all 40 (fun c => sizeK 40 n (d + 1) c.conds) l 0 (by omega)
   exact ⟨by omega, g2⟩
theorem len_sum (f : CondT → Nat) : ∀ l : List CondT, l.length ≤ (l.map fun c => 1 + f c).sum
 | [] => by simp
 | c :: l => by have := len_sum f l; rw [List.map_cons, List.sum_cons, List.length_cons]; omega
theorem sizeK_len : ∀ (n d : Nat) (l : List CondT), sizeK 40 n d l ≤ 40 → l.length ≤ 40
 | 0, d, l, h => by rw [sizeK_zero h]; simp
 | n + 1, d, l, h => by
   obtain ⟨g1, _⟩ := sizeK_go h
   have := len_sum (fun c => sizeK 40 n (d + 1) c.conds) l
   omega
theorem heavy_in {n : Nat} {l : List CondT} (h : heavyC (n + 1) l = false) {c : CondT} (hc : c ∈ l) : heavyO c = false ∧ heavyC n c.conds = false := by
 have h2 := List.any_eq_false.1 (show (l.any fun c => heavyO c || heavyC n c.conds) = false from h) c hc
 simp only [Bool.or_eq_true, not_or, Bool.not_eq_true] at h2
 exact h2
theorem heavyT_sm {l : List TestT} (h1 : l.length ≤ 10) (h2 : l.any heavyT = false) : SmT l := by
 refine ⟨by omega, fun t ht => ?_⟩
 have h3 := List.any_eq_false.1 h2 t ht
 unfold heavyT at h3
 simp only [Bool.or_eq_true, decide_eq_true_eq, not_or] at h3
 omega
theorem heavyO_sm {c : CondT} (h : heavyO c = false) : c.id.size ≤ 100 ∧ c.attr.length ≤ 10 ∧ c.value.length ≤ 10 ∧ SmT c.attr ∧ SmT c.value ∧ c.attr.any heavyT = false ∧ c.value.any heavyT = false := by
 unfold heavyO at h
 simp only [Bool.or_eq_false_iff, decide_eq_false_iff_not] at h
 obtain ⟨h1, h2, h3, h4, h5⟩ := h
 exact ⟨by omega, by omega, by omega, heavyT_sm (by omega) h4, heavyT_sm (by omega) h5, h4, h5⟩
theorem smc_of40 : ∀ (n d m : Nat) (l : List CondT), sizeK 40 n d l ≤ 40 → heavyC n l = false → ∀ c ∈ l, SmC m c
 | 0, d, m, l, h1, _, c, hc => by rw [sizeK_zero h1] at hc; cases hc
 | n + 1, d, 0, l, _, _, c, hc => trivial
 | n + 1, d, m + 1, l, h1, h2, c, hc => by
   obtain ⟨g1, g2⟩ := sizeK_go h1
   obtain ⟨k1, k2⟩ := heavy_in h2 hc
   obtain ⟨-, -, -, s1, s2, -, -⟩ := heavyO_sm k1
   have := sizeK_len n (d + 1) c.conds (g2 c hc)
   exact ⟨s1, s2, by omega, smc_of40 n (d + 1) m c.conds (g2 c hc) k2⟩
theorem flat_sum40 {β : Type} (f : CondT → List β) (g : CondT → Nat) (k : Nat) : ∀ l : List CondT, (∀ c ∈ l, (f c).length ≤ k * g c) → (l.flatMap f).length ≤ k * (l.map g).sum
 | [], _ => by simp
 | c :: l, h => by
   have h1 := h c (by simp)
   have h2 := flat_sum40 f g k l (fun x hx => h x (by simp [hx]))
   rw [List.flatMap_cons, List.length_append, List.map_cons, List.sum_cons, Nat.mul_add]
   omega
theorem names_len40 : ∀ (n d m : Nat) (l : List CondT), sizeK 40 n d l ≤ 40 → heavyC n l = false → (l.flatMap (namesN m)).length ≤ 21 * sizeK 40 n d l
 | 0, d, m, l, h1, _ => by rw [sizeK_zero h1]; simp
 | n + 1, d, 0, l, _, _ => by
   have : l.flatMap (namesN 0) = [] := by
    rw [List.flatMap_eq_nil_iff]
    intro x _
    rfl
   rw [this]; simp
 | n + 1, d, m + 1, l, h1, h2 => by
   obtain ⟨g1, g2⟩ := sizeK_go h1
   rw [g1]
   refine flat_sum40 (namesN (m + 1)) (fun c : CondT => 1 + sizeK 40 n (d + 1) c.conds) 21 l (fun c hc => ?_)
   obtain ⟨k1, k2⟩ := heavy_in h2 hc
   obtain ⟨-, s1, s2, -⟩ := heavyO_sm k1
   have h5 := names_len40 n (d + 1) m c.conds (g2 c hc) k2
   have k1 := varsT_len c.attr
   have k2 := varsT_len c.value
   have k3 := oneN_len c.id
   rw [namesN, List.length_append, List.length_append, List.length_append]
   omega
theorem varsA_len (a : ActT) : (varsA a).length ≤ 5 := by
 have h1 := oneN_len a.id
 have h2 := oneN_len a.attr.var
 have h3 := oneN_len a.value.a.var
 have h4 := oneN_len a.value.b.var
 have h5 := oneN_len a.other.var
 simp only [varsA, fives, List.flatMap_cons, List.flatMap_nil, List.length_append, List.length_nil]
 omega
theorem varsAs_len : ∀ l : List ActT, (l.flatMap varsA).length ≤ 5 * l.length
 | [] => by simp
 | a :: l => by have h1 := varsA_len a; have h2 := varsAs_len l; rw [List.flatMap_cons, List.length_append, List.length_cons]; omega
theorem heavyP_no {n : Nat} {p : ProdT} (h : heavyP n p = false) : sizeK 40 n 0 p.conds ≤ 40 ∧ p.acts.length ≤ 40 ∧ p.name.size ≤ 100 ∧ heavyC n p.conds = false := by
 unfold heavyP at h
 simp only [Bool.or_eq_false_iff, decide_eq_false_iff_not] at h
 obtain ⟨h1, h2, h3, h4⟩ := h
 exact ⟨by omega, by omega, by omega, h4⟩
theorem vars_len40 {n : Nat} {p : ProdT} (h : heavyP n p = false) (m : Nat) : (varsP m p).length ≤ 1100 := by
 obtain ⟨h1, h2, _, h4⟩ := heavyP_no h
 have g1 := names_len40 n 0 m p.conds h1 h4
 have g2 := varsAs_len p.acts
 unfold varsP
 rw [List.length_append]
 omega
theorem fit_of {n : Nat} {p : ProdT} (h : heavyP n p = false) {D : Nat → Prop} {w : World} {A : Option Addr} {c : Nat} (hr : RowR (repCondT n) D w A c p.conds) : RowR (repCondT 20) D w A c p.conds ∧ Fit 20 p := by
 obtain ⟨h1, h2, _, h4⟩ := heavyP_no h
 have hr20 := (heavyP_light h).1 hr
 exact ⟨hr20, ⟨by have := sizeK_len n 0 p.conds h1; omega, by omega, smc_of40 n 0 20 p.conds h1 h4, by have := vars_len40 h 20; omega, by have := (heavyP_light h).2.1 20 0; omega, by omega, row_dp 20 hr20⟩⟩
end Go.Proofs.YtffemfglngikbaaGreat
namespace Go.Proofs.YtffemfglngikbaaGreat
open Go.RowKit Go.Shelf
theorem neqs_ActT (x : ActT) (W : World) : (binOp .neq 99 (.agg #[.string x.id, .string x.attr.var, .int .i64 x.attr.sym.kind, .string x.attr.sym.text, .int .i64 x.attr.sym.n, .int .i64 x.value.op, .string x.value.a.var, .int .i64 x.value.a.sym.kind, .string x.value.a.sym.text, .int .i64 x.value.a.sym.n, .string x.value.b.var, .int .i64 x.value.b.sym.kind, .string x.value.b.sym.text, .int .i64 x.value.b.sym.n, .int .i64 x.pref, .string x.other.var, .int .i64 x.other.sym.kind, .string x.other.sym.text, .int .i64 x.other.sym.n]) (.agg #[.string x.id, .string x.attr.var, .int .i64 x.attr.sym.kind, .string x.attr.sym.text, .int .i64 x.attr.sym.n, .int .i64 x.value.op, .string x.value.a.var, .int .i64 x.value.a.sym.kind, .string x.value.a.sym.text, .int .i64 x.value.a.sym.n, .string x.value.b.var, .int .i64 x.value.b.sym.kind, .string x.value.b.sym.text, .int .i64 x.value.b.sym.n, .int .i64 x.pref, .string x.other.var, .int .i64 x.other.sym.kind, .string x.other.sym.text, .int .i64 x.other.sym.n])).run Tryz.prog W = .ok (.bool false) W := by
 rw [run_neq_struct]
 go_simp
set_option maxRecDepth 100000 in
set_option maxHeartbeats 4000000 in
theorem acts_same {D D' : Nat → Prop} {A B : Option Addr} {c d : Nat} (l : List ActT) (w : World) (hl : RowR repActT D w A c l) (hm : RowR repActT D' w B d l) :
 Calls Tryz.prog 86 #[.slice A l.length c, .slice B l.length d] w fun e w' => e = .returned (.bool true) ∧ Below w.heap.size w w' := by
 have HL := Lib.hid hl
 have HM := Lib.hid hm
 have hlc := hl.cap
 clear hl hm
 go_enter Tryz.func86, Tryz.ntmps86
 go_wp2_with fail
 go_loopw [5] (fun s wr => ∃ i : Nat, s = .int .i64 i ∧ i ≤ l.length ∧ Below w.heap.size w wr) (fun s wr => l.length - (intOf s).toNat)
 case atStart => exact ⟨0, rfl, Nat.zero_le _, Below.refl _ _⟩
 case round =>
  obtain ⟨i, rfl, hi, hB⟩ := hrel
  have HB := Lib.hid hB
  clear hB
  by_cases hlt : i < l.length
  · obtain ⟨y, hy⟩ : ∃ y, y = l[i] := ⟨_, rfl⟩
    have b1 : (0 : Int) ≤ (i : Int) := by omega
    have b2 : (i : Int) < (l.length : Int) := by omega
    have HY := Lib.hid hy
    obtain ⟨g, off, hAA, _, hgs, _⟩ := at_ActT (HL.out.new_ HB.out) hlt
    subst hAA
    obtain ⟨g2, off2, hAA, _, hgs2, _⟩ := at_ActT (HM.out.new_ HB.out) hlt
    subst hAA
    have LA := Lib.hid (show ∀ w9, Below wr.heap.size wr w9 → w9.rangeAt g (off + i * 19) [.string y.id, .string y.attr.var, .int .i64 y.attr.sym.kind, .string y.attr.sym.text, .int .i64 y.attr.sym.n, .int .i64 y.value.op, .string y.value.a.var, .int .i64 y.value.a.sym.kind, .string y.value.a.sym.text, .int .i64 y.value.a.sym.n, .string y.value.b.var, .int .i64 y.value.b.sym.kind, .string y.value.b.sym.text, .int .i64 y.value.b.sym.n, .int .i64 y.pref, .string y.other.var, .int .i64 y.other.sym.kind, .string y.other.sym.text, .int .i64 y.other.sym.n] from fun w9 h9 j v hv => by
     obtain ⟨g', off', cs, e1, _, _, hr, hc⟩ := (HL.out.new_ (HB.out.trans (h9.mono HB.out.size))).at_ hlt
     cases e1
     have hr2 : cs = ActT.cells l[i] := hr
     subst hr2
     rw [← HY.out] at hc
     exact hc j v hv)
    have LB := Lib.hid (show ∀ w9, Below wr.heap.size wr w9 → w9.rangeAt g2 (off2 + i * 19) [.string y.id, .string y.attr.var, .int .i64 y.attr.sym.kind, .string y.attr.sym.text, .int .i64 y.attr.sym.n, .int .i64 y.value.op, .string y.value.a.var, .int .i64 y.value.a.sym.kind, .string y.value.a.sym.text, .int .i64 y.value.a.sym.n, .string y.value.b.var, .int .i64 y.value.b.sym.kind, .string y.value.b.sym.text, .int .i64 y.value.b.sym.n, .int .i64 y.pref, .string y.other.var, .int .i64 y.other.sym.kind, .string y.other.sym.text, .int .i64 y.other.sym.n] from fun w9 h9 j v hv => by
     obtain ⟨g', off', cs, e1, _, _, hr, hc⟩ := (HM.out.new_ (HB.out.trans (h9.mono HB.out.size))).at_ hlt
     cases e1
     have hr2 : cs = ActT.cells l[i] := hr
     subst hr2
     rw [← HY.out] at hc
     exact hc j v hv)
    have hbe := fun W => neqs_ActT y W
    clear hy
    go_wp2_with fail
    refine wp_region_E (fun w9 => Below wr.heap.size wr w9) [(0, 0), (1, 0), (2, 0), (3, 1), (4, 0), (5, 0), (6, 0), (7, 1), (8, 0)] (by kernel_rfl) (by kernel_rfl) (fun KK hKK => ?_)
    simp only [beside, List.filterMap_cons, List.filterMap_nil, List.getElem?_toArray, List.getElem?_cons_zero, List.getElem?_cons_succ, Option.map_some]
    repeat ((first | (refine wpX_l _ ((Below.refl _ _).drew) (yieldsIf_load_mid (by rfl) 99 _ rfl g (off + i * 19) rfl [.string y.id, .string y.attr.var, .int .i64 y.attr.sym.kind, .string y.attr.sym.text, .int .i64 y.attr.sym.n, .int .i64 y.value.op, .string y.value.a.var, .int .i64 y.value.a.sym.kind, .string y.value.a.sym.text, .int .i64 y.value.a.sym.n, .string y.value.b.var, .int .i64 y.value.b.sym.kind, .string y.value.b.sym.text, .int .i64 y.value.b.sym.n, .int .i64 y.pref, .string y.other.var, .int .i64 y.other.sym.kind, .string y.other.sym.text, .int .i64 y.other.sym.n] _ LA.out Tryz.underlying99 rfl (by kernel_rfl)) ?_) | (refine wpX_l _ ((Below.refl _ _).drew) (yieldsIf_load_mid (by rfl) 99 _ rfl g2 (off2 + i * 19) rfl [.string y.id, .string y.attr.var, .int .i64 y.attr.sym.kind, .string y.attr.sym.text, .int .i64 y.attr.sym.n, .int .i64 y.value.op, .string y.value.a.var, .int .i64 y.value.a.sym.kind, .string y.value.a.sym.text, .int .i64 y.value.a.sym.n, .string y.value.b.var, .int .i64 y.value.b.sym.kind, .string y.value.b.sym.text, .int .i64 y.value.b.sym.n, .int .i64 y.pref, .string y.other.var, .int .i64 y.other.sym.kind, .string y.other.sym.text, .int .i64 y.other.sym.n] _ LB.out Tryz.underlying99 rfl (by kernel_rfl)) ?_) | (refine wpX_w ?_ (Or.inl ⟨by rfl, fun w9 => ?_⟩) ?_; rotate_left 1; go_simp; with_reducible rfl) | (refine wpX_l ?_ (((Below.refl _ _).drew)) (Or.inl ⟨by rfl, fun w9 hw9 => ?_⟩) ?_; rotate_left 1; fail; go_simp; with_reducible rfl) | refine wpX_w undef (Or.inr ⟨by rfl, rfl⟩) ?_ | refine wpX_l undef (((Below.refl _ _).drew)) (Or.inr ⟨by rfl, rfl⟩) ?_); go_frame)
    refine wpX_nil ?_
    simp only [OnlyN_normal]
    refine hKK _ _ ?_
    clear hKK KK
    have HB2 := Lib.hid (HB.out.drew)
    go_wp2_with fail
    go_roundw
    case rel => exact ⟨i + 1, by go_num, by omega, HB2.out⟩
    case measure => simp [intOf] <;> omega
  · obtain rfl : i = l.length := by omega
    go_wp2_with fail
    go_ret
    exact ⟨rfl, HB.out⟩
end Go.Proofs.YtffemfglngikbaaGreat
namespace Go.Proofs.YtffemfglngikbaaGreat
open Go.RowKit Go.Shelf
set_option maxRecDepth 100000 in
set_option maxHeartbeats 4000000 in
theorem prod_same {D D' : Nat → Prop} (n : Nat) (p : ProdT) (A1 : Option Addr) (c1 : Nat) (A2 : Option Addr) (c2 : Nat) (B1 : Option Addr) (d1 : Nat) (B2 : Option Addr) (d2 : Nat) (w : World) (g1 : RowR (repCondT n) D w A1 c1 p.conds) (g2 : RowR repActT D w A2 c2 p.acts) (k1 : RowR (repCondT n) D' w B1 d1 p.conds) (k2 : RowR repActT D' w B2 d2 p.acts) :
 Calls Tryz.prog 33 #[.agg #[.string p.name, .slice A1 p.conds.length c1, .slice A2 p.acts.length c2], .agg #[.string p.name, .slice B1 p.conds.length d1, .slice B2 p.acts.length d2]] w fun e w' => e = .returned (.bool true) ∧ Below w.heap.size w w' := by
 have G1 := Lib.hid g1
 have G2 := Lib.hid g2
 have K1 := Lib.hid k1
 have K2 := Lib.hid k2
 clear g1 g2 k1 k2
 go_enter Tryz.func33, Tryz.ntmps33
 go_upto_region 1 with fail
 obtain ⟨w1, hw1⟩ : ∃ w1, w1 = ((w.alloc (.cells #[.string p.name, .slice A1 p.conds.length c1, .slice A2 p.acts.length c2] 25)).alloc (.cells #[.string p.name, .slice B1 p.conds.length d1, .slice B2 p.acts.length d2] 25)) := ⟨_, rfl⟩
 rw [← hw1]
 have HB := Lib.hid (show Below w.heap.size w w1 by rw [hw1]; exact (by repeat (first | exact Below.refl _ _ | refine Below.drew ?_ | refine Below.al ?_ _ | refine Below.sc ?_ _)))
 have Ka := Lib.hid (show Blk w1 (w.heap.size) 25 #[.string p.name, .slice A1 p.conds.length c1, .slice A2 p.acts.length c2] by rw [hw1]; exact ((Blk.new w 25 #[.string p.name, .slice A1 p.conds.length c1, .slice A2 p.acts.length c2]).alloc (.cells #[.string p.name, .slice B1 p.conds.length d1, .slice B2 p.acts.length d2] 25)))
 have Kb := Lib.hid (show Blk w1 (w.heap.size + 1) 25 #[.string p.name, .slice B1 p.conds.length d1, .slice B2 p.acts.length d2] by rw [hw1]; have hh := (Blk.new (w.alloc (.cells #[.string p.name, .slice A1 p.conds.length c1, .slice A2 p.acts.length c2] 25)) 25 #[.string p.name, .slice B1 p.conds.length d1, .slice B2 p.acts.length d2]); simp only [World.size_alloc] at hh; exact hh)
 clear hw1
 obtain ⟨a0, a1, a2⟩ := Ka.out.c3
 have az := Ka.out.lt
 obtain ⟨b0, b1, b2⟩ := Kb.out.c3
 have bz := Kb.out.lt
 go_wp2_with fail
 with_reducible refine (conds_same n _ _ _ _ _ _ p.conds _ (G1.out.new_ (by (repeat (first | exact Below.refl _ _ | exact HB.out | refine Below.drew ?_ | refine Below.al ?_ _ | refine Below.sc ?_ _)))) (K1.out.new_ (by (repeat (first | exact Below.refl _ _ | exact HB.out | refine Below.drew ?_ | refine Below.al ?_ _ | refine Below.sc ?_ _))))).mono ?_
 rintro e w2 ⟨rfl, hb⟩
 have hbs := Below.trans (show Below w1.heap.size w1 _ from (by (repeat (first | exact Below.refl _ _ | refine Below.drew ?_ | refine Below.al ?_ _ | refine Below.sc ?_ _)))) (hb.mono (by simp <;> omega))
 have Ka := Lib.hid (Ka.out.new_ hbs)
 have Kb := Lib.hid (Kb.out.new_ hbs)
 have HB := Lib.hid (HB.out.trans (hbs.mono HB.out.size))
 have hsz2 := hbs.size
 clear a0 a1 a2 az b0 b1 b2 bz hb hbs
 obtain ⟨a0, a1, a2⟩ := Ka.out.c3
 have az := Ka.out.lt
 obtain ⟨b0, b1, b2⟩ := Kb.out.c3
 have bz := Kb.out.lt
 go_wp2_with fail
 with_reducible refine (acts_same p.acts _ (G2.out.new_ (by (repeat (first | exact Below.refl _ _ | exact HB.out | refine Below.drew ?_ | refine Below.al ?_ _ | refine Below.sc ?_ _)))) (K2.out.new_ (by (repeat (first | exact Below.refl _ _ | exact HB.out | refine Below.drew ?_ | refine Below.al ?_ _ | refine Below.sc ?_ _))))).mono ?_
 rintro e w3 ⟨rfl, hb⟩
 have hbs := Below.trans (show Below w2.heap.size w2 _ from (by (repeat (first | exact Below.refl _ _ | refine Below.drew ?_ | refine Below.al ?_ _ | refine Below.sc ?_ _)))) (hb.mono (by simp <;> omega))
 have Ka := Lib.hid (Ka.out.new_ hbs)
 have Kb := Lib.hid (Kb.out.new_ hbs)
 have HB := Lib.hid (HB.out.trans (hbs.mono HB.out.size))
 have hsz3 := hbs.size
 clear a0 a1 a2 az b0 b1 b2 bz hb hbs
 obtain ⟨a0, a1, a2⟩ := Ka.out.c3
 have az := Ka.out.lt
 obtain ⟨b0, b1, b2⟩ := Kb.out.c3
 have bz := Kb.out.lt
 go_wp2_with fail
 go_ret
 exact ⟨rfl, by (repeat (first | exact Below.refl _ _ | exact HB.out | refine Below.drew ?_ | refine Below.al ?_ _ | refine Below.sc ?_ _))⟩
end Go.Proofs.YtffemfglngikbaaGreat
namespace Go.Proofs.YtffemfglngikbaaGreat
open Go.RowKit Go.Shelf
def strC (s : ByteArray) : List Value := [.string s]
theorem strC_len (s : ByteArray) : (strC s).length = 1 := rfl
theorem str_one (l : List ByteArray) : ∀ u ∈ l.flatMap strC, u.oneCell' = true := by
 intro u hu
 obtain ⟨s, _, h⟩ := List.mem_flatMap.1 hu
 simp only [strC, List.mem_cons, List.not_mem_nil, or_false] at h
 subst h; rfl
theorem info_Str : (Tryz.prog.info? 9).map (fun i => (i.zero, i.size, i.bytes)) = some (some (.string ⟨#[]⟩), 1, 16) := by kernel_rfl
def StrsTo (W : World) (xs : List ByteArray) (e : Ending) (W' : World) : Prop :=
 ∃ A c, e = .returned (.slice A xs.length c) ∧ W'.ownsRow 0 9 1 (.slice A xs.length c) xs.length (xs.flatMap strC) ∧ AIn A (W.heap.size ≤ ·) ∧ Below W.heap.size W W'
theorem str_at {D : Nat → Prop} {w : World} {A : Option Addr} {c k : Nat} {l : List ByteArray} (h : RowR repStr D w A c l) (hk : k < l.length) : ∃ g off, A = some ⟨g, off, none⟩ ∧ g < w.heap.size ∧ w.cell? ⟨g, off + k, none⟩ = some (.string l[k]) := by
 obtain ⟨g, off, cs, hA, hD, hg, hr, hc⟩ := h.at_ hk
 have hr2 : cs = [Value.string l[k]] := hr
 subst hr2
 exact ⟨g, off, hA, hg, by simpa [repStr, RepT.flat] using hc 0 _ rfl⟩
theorem strs_row {w : World} {A : Option Addr} {c n : Nat} {l : List ByteArray} (hn : l.length = n) (h : w.ownsRow 0 9 1 (.slice A n c) n (l.flatMap strC)) : RowR repStr (fun _ => True) w A c l := by
 subst hn
 exact RowR.of_rd (ownsRow_rd strC_len h) (fun _ _ => trivial)
def inB (l : List ByteArray) (v : ByteArray) : Bool := l.any fun s => decide (s.toList = v.toList)
set_option maxRecDepth 100000 in
set_option maxHeartbeats 2000000 in
theorem inB_is {D : Nat → Prop} {A : Option Addr} {c : Nat} (l : List ByteArray) (v : ByteArray) (w : World) (h : RowR repStr D w A c l) : Calls Tryz.prog 82 #[.slice A l.length c, .string v] w fun e w' => e = .returned (.bool (inB l v)) ∧ w = w' := by
 have H := Lib.hid h
 have hlc := h.cap
 clear h
 go_enter Tryz.func82, Tryz.ntmps82
 go_wp2_with fail
 go_loopw [5] (fun s wr => ∃ i : Nat, s = .int .i64 i ∧ i ≤ l.length ∧ (∀ k, (h : k < l.length) → k < i → ¬ l[k].toList = v.toList) ∧ wr = w) (fun s wr => l.length - (intOf s).toNat)
 case atStart => exact ⟨0, rfl, Nat.zero_le _, fun k _ h => absurd h (by omega), rfl⟩
 case round =>
  obtain ⟨i, rfl, hi, hall, rfl⟩ := hrel
  have HALL := Lib.hid hall
  clear hall
  by_cases hlt : i < l.length
  · obtain ⟨x, hx⟩ : ∃ x, x = l[i] := ⟨_, rfl⟩
    obtain ⟨g, off, rfl, hgs, q0⟩ := str_at H.out hlt
    rw [← hx] at q0
    have b1 : (0 : Int) ≤ (i : Int) := by omega
    have b2 : (i : Int) < (l.length : Int) := by omega
    have HX := Lib.hid hx
    clear hx
    by_cases he : x.toList = v.toList
    · have t1 : (x.toList == v.toList) = true := by simp [he]
      have t2 : decide (x.toList = v.toList) = true := by simp [he]
      have HN := Lib.hid (show inB l v = true from List.any_eq_true.2 ⟨x, by rw [HX.out]; exact List.getElem_mem hlt, t2⟩)
      clear he
      go_wp2_with fail
      go_ret
      exact ⟨by rw [HN.out]; rfl, rfl⟩
    · have t1 : (x.toList == v.toList) = false := by simp [he]
      have t2 : decide (x.toList = v.toList) = false := by simp [he]
      have HE := Lib.hid he
      clear he
      go_wp2_with fail
      go_roundw
      case rel =>
       refine ⟨i + 1, by go_num, by omega, fun k h hk => ?_, by trivial⟩
       rcases Nat.lt_or_ge k i with h3 | h3
       · exact HALL.out k h h3
       · obtain rfl : k = i := by omega
         rw [← HX.out]
         exact HE.out
      case measure => simp [intOf] <;> omega
  · have hie : i = l.length := by omega
    subst hie
    have HN := Lib.hid (show inB l v = false by
     unfold inB
     rw [List.any_eq_false]
     intro x hx
     obtain ⟨k, hk, rfl⟩ := List.getElem_of_mem hx
     simpa using HALL.out k hk hk)
    go_wp2_with fail
    go_ret
    exact ⟨by rw [HN.out]; rfl, rfl⟩
end Go.Proofs.YtffemfglngikbaaGreat
