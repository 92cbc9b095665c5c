/-
  A production is told to be the same as itself.
-/
import Derived.Test.YtffemfglngikbaaBh
import Derived.Test.YtffemfglngikbaaBj
import Derived.Test.YtffemfglngikbaaBb
import Derived.Test.YtffemfglngikbaaBc
import Derived.Deep.MidRow
import Derived.Test.YtffemfglngikbaaBd
import Derived.Test.YtffemfglngikbaaBf
import Derived.Maps.RangeWalk
namespace Go.Proofs.Ytffemfglngikbaa
open Go.RowKit Go.Shelf
def goK (most : Nat) (f : CondT → Nat) : List CondT → Nat → Nat
 | [], s => s
 | c :: l, s => if s ≤ most then goK most f l (s + (1 + f c)) else s
def sizeK (most : Nat) : Nat → Nat → List CondT → Nat
 | 0, d, l => if 20 < d then most + 1 else if l = [] then 0 else most + 1
 | n + 1, d, l => if 20 < d then most + 1 else min (goK most (fun c => sizeK most n (d + 1) c.conds) l 0) (most + 1)
theorem goK_ge (most : Nat) (f : CondT → Nat) : ∀ (l : List CondT) (s : Nat), s ≤ goK most f l s
 | [], s => Nat.le_refl _
 | c :: l, s => by
   rw [goK]
   split
   · have := goK_ge most f l (s + (1 + f c)); omega
   · omega
theorem goK_all (most : Nat) (f : CondT → Nat) : ∀ (l : List CondT) (s : Nat), goK most f l s ≤ most → goK most f l s = s + (l.map fun c => 1 + f c).sum ∧ ∀ c ∈ l, f c ≤ most
 | [], s, _ => by simp [goK]
 | c :: l, s, h => by
   rw [goK] at h ⊢
   by_cases hs : s ≤ most
   · rw [if_pos hs] at h ⊢
     obtain ⟨h1, h2⟩ := goK_all most f l _ h
     have := goK_ge most f l (s + (1 + f c))
     refine ⟨by rw [h1, List.map_cons, List.sum_cons]; omega, fun x hx => ?_⟩
     rcases List.mem_cons.1 hx with rfl | hx
     · omega
     · exact h2 x hx
   · rw [if_neg hs] at h
     omega
theorem goK_snoc (most : Nat) (f : CondT → Nat) : ∀ (l : List CondT) (c : CondT) (s : Nat), goK most f (l ++ [c]) s = if goK most f l s ≤ most then goK most f l s + (1 + f c) else goK most f l s
 | [], c, s => rfl
 | x :: l, c, s => by
   rw [List.cons_append, goK, goK]
   by_cases hs : s ≤ most
   · rw [if_pos hs, if_pos hs, goK_snoc most f l c]
   · rw [if_neg hs, if_neg hs, if_neg hs]
theorem goK_stop (most : Nat) (f : CondT → Nat) : ∀ (l m : List CondT) (s : Nat), ¬ goK most f l s ≤ most → goK most f (l ++ m) s = goK most f l s
 | [], m, s, h => by
   rw [goK] at h
   cases m with
   | nil => rfl
   | cons c m => simp only [List.nil_append, goK]; rw [if_neg h]
 | x :: l, m, s, h => by
   rw [List.cons_append, goK, goK]
   rw [goK] at h
   by_cases hs : s ≤ most
   · rw [if_pos hs, if_pos hs]
     rw [if_pos hs] at h
     exact goK_stop most f l m _ h
   · rw [if_neg hs, if_neg hs]
theorem sum_le_of {α : Type} (f g : α → Nat) : ∀ l : List α, (∀ c ∈ l, f c ≤ g c) → (l.map f).sum ≤ (l.map g).sum
 | [], _ => Nat.le_refl _
 | c :: l, h => by
   rw [List.map_cons, List.map_cons, List.sum_cons, List.sum_cons]
   have h1 := h c List.mem_cons_self
   have h2 := sum_le_of f g l (fun x hx => h x (List.mem_cons_of_mem _ hx))
   omega
theorem flatC_len (m d : Nat) (l : List CondT) : (flatC (m + 1) d l).length = (l.map fun c => 1 + (flatC m (d + 1) c.conds).length).sum := by
 rw [flatC_succ, List.length_flatMap]
 congr 1
 apply List.map_congr_left
 intro c _
 simp; omega
theorem sizeK_flat (most : Nat) : ∀ (n m d e : Nat) (l : List CondT), sizeK most n d l ≤ most → (flatC m e l).length ≤ sizeK most n d l
 | 0, m, d, e, l, h => by
   rw [sizeK] at h
   by_cases h1 : 20 < d
   · rw [if_pos h1] at h; omega
   · rw [if_neg h1] at h
     by_cases h2 : l = []
     · subst h2; cases m <;> simp [flatC]
     · rw [if_neg h2] at h; omega
 | n + 1, m, d, e, l, h => by
   rw [sizeK] at h ⊢
   by_cases h1 : 20 < d
   · rw [if_pos h1] at h; omega
   · rw [if_neg h1] at h ⊢
     obtain ⟨h2, h3⟩ := goK_all most (fun c => sizeK most n (d + 1) c.conds) l 0 (by omega)
     cases m with
     | zero => simp [flatC]
     | succ m =>
       have h4 := sum_le_of (fun c : CondT => 1 + (flatC m (e + 1) c.conds).length) (fun c => 1 + sizeK most n (d + 1) c.conds) l (fun c hc => by
        have := sizeK_flat most n m (d + 1) (e + 1) c.conds (h3 c hc)
        omega)
       rw [flatC_len]
       omega
theorem sizeK_deep (most : Nat) : ∀ (n d : Nat) (l : List CondT), sizeK most n d l ≤ most → d ≤ 20 ∧ ∀ {D : Nat → Prop} {w : World} {A : Option Addr} {c : Nat}, RowR (repCondT n) D w A c l → RowR (repCondT (20 - d)) D w A c l
 | 0, d, l, h => by
   rw [sizeK] at h
   by_cases h1 : 20 < d
   · rw [if_pos h1] at h; omega
   · rw [if_neg h1] at h
     by_cases h2 : l = []
     · subst h2
       exact ⟨by omega, fun g => ⟨g.1, g.2.1, fun h => absurd h (by simp)⟩⟩
     · rw [if_neg h2] at h; omega
 | n + 1, d, l, h => by
   rw [sizeK] at h
   by_cases h1 : 20 < d
   · rw [if_pos h1] at h; omega
   · rw [if_neg h1] at h
     obtain ⟨_, h3⟩ := goK_all most (fun c => sizeK most n (d + 1) c.conds) l 0 (by omega)
     refine ⟨by omega, fun {D w A c} g => ?_⟩
     refine ⟨g.1, g.2.1, fun h0 => ?_⟩
     obtain ⟨b, off, g1, g2, g3, g4⟩ := g.2.2 h0
     obtain ⟨d1, _⟩ := sizeK_deep most n (d + 1) _ (h3 l[0] (List.getElem_mem h0))
     obtain ⟨k, hk⟩ : ∃ k, 20 - d = k + 1 := ⟨20 - d - 1, by omega⟩
     refine ⟨b, off, g1, g2, g3, fun j hj => ?_⟩
     obtain ⟨cs, r, hc⟩ := g4 j hj
     obtain ⟨A1, c1, A2, c2, A3, c3, e0, e1, e2, e3⟩ := r
     have h5 := (sizeK_deep most n (d + 1) _ (h3 l[j] (List.getElem_mem hj))).2 e3
     rw [hk]
     rw [show 20 - (d + 1) = k by omega] at h5
     exact ⟨cs, ⟨A1, c1, A2, c2, A3, c3, e0, e1, e2, h5⟩, hc⟩
def heavyT (t : TestT) : Bool := decide (20 < t.list.length) || (decide (100 < t.var.size) || decide (100 < t.sym.text.size))
def heavyO (c : CondT) : Bool := decide (100 < c.id.size) || (decide (10 < c.attr.length) || (decide (10 < c.value.length) || (c.attr.any heavyT || c.value.any heavyT)))
def heavyC : Nat → List CondT → Bool
 | 0, _ => false
 | n + 1, l => l.any fun c => heavyO c || heavyC n c.conds
def heavyP (n : Nat) (p : ProdT) : Bool := decide (40 < sizeK 40 n 0 p.conds) || (decide (40 < p.acts.length) || (decide (100 < p.name.size) || heavyC n p.conds))
set_option maxRecDepth 100000 in
set_option maxHeartbeats 2000000 in
theorem heavyTests_is {D : Nat → Prop} {A : Option Addr} {c : Nat} (l : List TestT) (w : World) (h : RowR repTestT D w A c l) : Calls Try.prog 53 #[.slice A l.length c] w fun e w' => e = .returned (.bool (l.any heavyT)) ∧ w = w' := by
 have H := Lib.hid h
 have hlc := h.cap
 clear h
 go_enter Try.func53, Try.ntmps53
 go_wp2_with fail
 go_loopw [3] (fun s wr => ∃ i : Nat, s = .int .i64 i ∧ i ≤ l.length ∧ (∀ k, (h : k < l.length) → k < i → heavyT l[k] = false) ∧ wr = w) (fun s wr => l.length - (intOf s).toNat)
 case atStart => exact ⟨0, rfl, Nat.zero_le _, fun k _ h => absurd h (by omega), rfl⟩
 case round =>
  obtain ⟨i, rfl, hi, hall, rfl⟩ := hrel
  have HALL := Lib.hid hall
  clear hall
  by_cases hlt : i < l.length
  · obtain ⟨x, hx⟩ : ∃ x, x = l[i] := ⟨_, rfl⟩
    obtain ⟨g, off, A1, c1, rfl, _, hgs, q0, q1, q2, q3, q4, q5, hr⟩ := at_TestT H.out hlt
    rw [← hx] at q0 q1 q2 q3 q4 q5 hr
    have hcap := hr.cap
    have b1 : (0 : Int) ≤ (i : Int) := by omega
    have b2 : (i : Int) < (l.length : Int) := by omega
    have HX := Lib.hid hx
    have HYES := Lib.hid (show heavyT x = true → l.any heavyT = true from fun h => List.any_eq_true.2 ⟨x, by rw [HX.out]; exact List.getElem_mem hlt, h⟩)
    clear hx hr
    cases t1 : decide (20 < x.list.length)
    · cases t2 : decide (100 < x.var.size)
      · cases t3 : decide (100 < x.sym.text.size)
        · have s1 : decide ((20 : Int) < (x.list.length : Int)) = false := by simp at t1 ⊢; omega
          have s2 : decide ((100 : Int) < (x.var.size : Int)) = false := by simp at t2 ⊢; omega
          have s3 : decide ((100 : Int) < (x.sym.text.size : Int)) = false := by simp at t3 ⊢; omega
          have HN := Lib.hid (show heavyT x = false by simp [heavyT, t1, t2, t3])
          clear t1 t2 t3
          go_wp2_with fail
          go_roundw
          case rel =>
           refine ⟨i + 1, by go_num, by omega, fun k h hk => ?_, by trivial⟩
           rcases Nat.lt_or_ge k i with h3 | h3
           · exact HALL.out k h h3
           · obtain rfl : k = i := by omega
             rw [← HX.out]
             exact HN.out
          case measure => simp [intOf] <;> omega
        · have s1 : decide ((20 : Int) < (x.list.length : Int)) = false := by simp at t1 ⊢; omega
          have s2 : decide ((100 : Int) < (x.var.size : Int)) = false := by simp at t2 ⊢; omega
          have s3 : decide ((100 : Int) < (x.sym.text.size : Int)) = true := by simp at t3 ⊢; omega
          have HN := Lib.hid (HYES.out (by simp [heavyT, t3]))
          clear t1 t2 t3
          go_wp2_with fail
          go_ret
          exact ⟨by rw [HN.out]; rfl, rfl⟩
      · have s1 : decide ((20 : Int) < (x.list.length : Int)) = false := by simp at t1 ⊢; omega
        have s2 : decide ((100 : Int) < (x.var.size : Int)) = true := by simp at t2 ⊢; omega
        have HN := Lib.hid (HYES.out (by simp [heavyT, t2]))
        clear t1 t2
        go_wp2_with fail
        go_ret
        exact ⟨by rw [HN.out]; rfl, rfl⟩
    · have s1 : decide ((20 : Int) < (x.list.length : Int)) = true := by simp at t1 ⊢; omega
      have HN := Lib.hid (HYES.out (by simp [heavyT, t1]))
      clear t1
      go_wp2_with fail
      go_ret
      exact ⟨by rw [HN.out]; rfl, rfl⟩
  · have hie : i = l.length := by omega
    subst hie
    have HN := Lib.hid (show l.any heavyT = false by
     rw [List.any_eq_false]
     intro x hx
     obtain ⟨k, hk, rfl⟩ := List.getElem_of_mem hx
     simp [HALL.out k hk hk])
    go_wp2_with fail
    go_ret
    exact ⟨by rw [HN.out]; rfl, rfl⟩
set_option maxRecDepth 100000 in
set_option maxHeartbeats 4000000 in
theorem size_is (most : Nat) (hm : most ≤ 1000) : ∀ (n : Nat) (D : Nat → Prop) (A : Option Addr) (c : Nat) (d : Nat) (l : List CondT) (w : World), RowR (repCondT n) D w A c l → d ≤ 21 →
 Calls Try.prog 25 #[.slice A l.length c, .int .i64 (most : Int), .int .i64 (d : Int)] w fun e w' => e = .returned (.int .i64 (sizeK most n d l : Int)) ∧ w = w' := by
 intro n
 induction n with
 | zero =>
   intro D A c d l w h hd
   have hl0 : l = [] := by
    cases l with
    | nil => rfl
    | cons x l =>
      obtain ⟨b, off, cs, _, _, _, hr, _⟩ := h.at_ (k := 0) (by simp)
      exact hr.elim
   subst hl0
   clear h
   by_cases h20 : 20 < d
   · have t1 : decide ((20 : Int) < (d : Int)) = true := by simp; omega
     have v1 : IntKind.i64.wrap ((most : Int) + 1) = (most : Int) + 1 := IntWalk.i64_in _ (by omega)
     have HR := Lib.hid (show ((sizeK most 0 d [] : Nat) : Int) = (most : Int) + 1 by rw [sizeK, if_pos h20]; rfl)
     clear h20
     go_enter Try.func25, Try.ntmps25
     go_wp2_with fail
     go_ret
     exact ⟨by rw [HR.out]; rfl, rfl⟩
   · have t1 : decide ((20 : Int) < (d : Int)) = false := by simp; omega
     have v1 : IntKind.i64.wrap ((most : Int) + 1) = (most : Int) + 1 := IntWalk.i64_in _ (by omega)
     have HR := Lib.hid (show ((sizeK most 0 d [] : Nat) : Int) = 0 by rw [sizeK, if_neg h20, if_pos rfl]; rfl)
     have hmin : min (0 : Int) ((most : Int) + 1) = 0 := by omega
     clear h20
     go_enter Try.func25, Try.ntmps25
     go_wp2_with fail
     go_loopw [7, 8] (fun a s wr => s = .int .i64 0 ∧ a = .int .i64 0 ∧ wr = w) (fun a s wr => 0)
     case atStart => exact ⟨rfl, rfl, rfl⟩
     case round =>
      obtain ⟨rfl, rfl, rfl⟩ := hrel
      go_wp2_with fail
      go_ret
      exact ⟨by rw [HR.out]; rfl, rfl⟩
 | succ n ih =>
   intro D A c d l w h hd
   have IH := Lib.hid ih
   have H := Lib.hid h
   have hlc := h.cap
   clear h ih
   have v1 : IntKind.i64.wrap ((most : Int) + 1) = (most : Int) + 1 := IntWalk.i64_in _ (by omega)
   by_cases h20 : 20 < d
   · have t1 : decide ((20 : Int) < (d : Int)) = true := by simp; omega
     have HR := Lib.hid (show ((sizeK most (n + 1) d l : Nat) : Int) = (most : Int) + 1 by rw [sizeK, if_pos h20]; rfl)
     clear h20
     go_enter Try.func25, Try.ntmps25
     go_wp2_with fail
     go_ret
     exact ⟨by rw [HR.out]; rfl, rfl⟩
   · have t1 : decide ((20 : Int) < (d : Int)) = false := by simp; omega
     obtain ⟨f, hf⟩ : ∃ f : CondT → Nat, f = fun c => sizeK most n (d + 1) c.conds := ⟨_, rfl⟩
     have hfle : ∀ c, f c ≤ most + 1 := fun c => by
      rw [hf]
      cases n with
      | zero => simp only [sizeK]; split; omega; split <;> omega
      | succ n => simp only [sizeK]; split; omega; omega
     have HFLE := Lib.hid hfle
     have HR := Lib.hid (show ((sizeK most (n + 1) d l : Nat) : Int) = min ((goK most f l 0 : Nat) : Int) ((most : Int) + 1) by rw [sizeK, if_neg h20, ← hf]; omega)
     have HF := Lib.hid hf
     have hd20 : d ≤ 20 := by omega
     clear h20 hfle hf
     go_enter Try.func25, Try.ntmps25
     go_wp2_with fail
     go_loopw [7, 8] (fun a s wr => ∃ i : Nat, s = .int .i64 i ∧ i ≤ l.length ∧ a = .int .i64 ((goK most f (l.take i) 0 : Nat) : Int) ∧ goK most f (l.take i) 0 ≤ 2 * most + 2 ∧ wr = w) (fun a s wr => l.length - (intOf s).toNat)
     case atStart => exact ⟨0, rfl, Nat.zero_le _, rfl, by simp [goK], rfl⟩
     case round =>
      obtain ⟨i, rfl, hi, rfl, hle, rfl⟩ := hrel
      obtain ⟨s, hs⟩ : ∃ s, s = goK most f (l.take i) 0 := ⟨_, rfl⟩
      rw [← hs] at hle ⊢
      have HS := Lib.hid hs
      clear hs
      by_cases hlt : i < l.length
      · by_cases hsm : s ≤ most
        · have t2 : decide ((s : Int) ≤ (most : Int)) = true := by simp; omega
          obtain ⟨x, hx⟩ : ∃ x, x = l[i] := ⟨_, rfl⟩
          obtain ⟨g, off, A1, c1, A2, c2, A3, c3, rfl, _, hgs, q0, q1, q2, q3, q4, q5, q6, r1, r2, r3⟩ := at_CondT H.out hlt
          rw [← hx] at q6 r3
          have HR3 := Lib.hid r3
          have hn3 := r3.cap
          have b1 : (0 : Int) ≤ (i : Int) := by omega
          have b2 : (i : Int) < (l.length : Int) := by omega
          obtain ⟨y, hy⟩ : ∃ y, y = f x := ⟨_, rfl⟩
          have hyle : y ≤ most + 1 := by rw [hy]; exact HFLE.out x
          have HCL := Lib.hid (show Calls Try.prog 25 #[.slice A3 x.conds.length c3, .int .i64 (most : Int), .int .i64 ((d : Int) + 1)] wr fun e w' => e = .returned (.int .i64 (y : Int)) ∧ wr = w' by
           have := IH.out D A3 c3 (d + 1) x.conds wr HR3.out (by omega)
           rw [hy, HF.out]
           exact this)
          have HN := Lib.hid (show goK most f (l.take (i + 1)) 0 = s + (1 + y) by
           rw [List.take_succ_eq_append_getElem hlt, goK_snoc, ← HS.out, if_pos hsm, ← hx, hy])
          have v2 : IntKind.i64.wrap ((d : Int) + 1) = (d : Int) + 1 := IntWalk.i64_in _ (by omega)
          have v3 : IntKind.i64.wrap (1 + (y : Int)) = 1 + (y : Int) := IntWalk.i64_in _ (by omega)
          have v4 : IntKind.i64.wrap ((s : Int) + (1 + (y : Int))) = (s : Int) + (1 + (y : Int)) := IntWalk.i64_in _ (by omega)
          clear hx hy r1 r2 r3 q0 q1 q2 q3 q4 q5
          go_wp2_with fail
          refine HCL.out.mono ?_
          rintro e w2 ⟨rfl, rfl⟩
          go_wp2_with fail
          go_roundw
          case rel => exact ⟨i + 1, by go_num, by omega, by rw [HN.out]; simp, by rw [HN.out]; omega, by trivial⟩
          case measure => simp [intOf] <;> omega
        · have t2 : decide ((s : Int) ≤ (most : Int)) = false := by simp; omega
          have b2 : (i : Int) < (l.length : Int) := by omega
          have hmin : min (s : Int) ((most : Int) + 1) = (most : Int) + 1 := by omega
          have HN := Lib.hid (show goK most f l 0 = s by
           have := goK_stop most f (l.take i) (l.drop i) 0 (by rw [← HS.out]; exact hsm)
           rwa [List.take_append_drop, ← HS.out] at this)
          clear hsm
          go_wp2_with fail
          go_ret
          exact ⟨by rw [HR.out, HN.out, hmin]; rfl, rfl⟩
      · have hie : i = l.length := by omega
        subst hie
        have HN := Lib.hid (show goK most f l 0 = s by rw [HS.out, List.take_length])
        obtain ⟨z, hz⟩ : ∃ z, z = min (s : Int) ((most : Int) + 1) := ⟨_, rfl⟩
        have HZ := Lib.hid hz
        clear hz
        go_wp2_with fail
        go_ret
        exact ⟨by rw [HR.out, HN.out]; rfl, rfl⟩
theorem heavyC_succ (n : Nat) (l : List CondT) : heavyC (n + 1) l = l.any fun c => heavyO c || heavyC n c.conds := rfl
set_option maxRecDepth 100000 in
set_option maxHeartbeats 4000000 in
theorem heavyConds_is : ∀ (n : Nat) (D : Nat → Prop) (A : Option Addr) (c : Nat) (l : List CondT) (w : World), RowR (repCondT n) D w A c l →
 Calls Try.prog 26 #[.slice A l.length c] w fun e w' => e = .returned (.bool (heavyC n l)) ∧ Below w.heap.size w w' := by
 intro n
 induction n with
 | zero =>
   intro D A c l w h
   have hl0 : l = [] := by
    cases l with
    | nil => rfl
    | cons x l =>
      obtain ⟨b, off, cs, _, _, _, hr, _⟩ := h.at_ (k := 0) (by simp)
      exact hr.elim
   subst hl0
   clear h
   go_enter Try.func26, Try.ntmps26
   go_wp2_with fail
   go_loopw [3] (fun s wr => s = .int .i64 0 ∧ wr = w) (fun s wr => 0)
   case atStart => exact ⟨rfl, rfl⟩
   case round =>
    obtain ⟨rfl, rfl⟩ := hrel
    go_wp2_with fail
    go_ret
    exact ⟨rfl, Below.refl _ _⟩
 | succ n ih =>
   intro D A c l w h
   have IH := Lib.hid ih
   have H := Lib.hid h
   have hlc := h.cap
   clear h ih
   obtain ⟨R, hR⟩ : ∃ R, R = heavyC (n + 1) l := ⟨_, rfl⟩
   rw [← hR]
   have HR := Lib.hid (show R = l.any fun c => heavyO c || heavyC n c.conds by rw [hR, heavyC_succ])
   clear hR
   go_enter Try.func26, Try.ntmps26
   go_wp2_with fail
   go_loopw [3] (fun s wr => ∃ i : Nat, s = .int .i64 i ∧ i ≤ l.length ∧ (∀ k, (h : k < l.length) → k < i → (heavyO l[k] || heavyC n l[k].conds) = false) ∧ Below w.heap.size w wr) (fun s wr => l.length - (intOf s).toNat)
   case atStart => exact ⟨0, rfl, Nat.zero_le _, fun k _ h => absurd h (by omega), Below.refl _ _⟩
   case round =>
    obtain ⟨i, rfl, hi, hall, hB⟩ := hrel
    have HALL := Lib.hid hall
    have HB0 := Lib.hid hB
    clear hall hB
    by_cases hlt : i < l.length
    · obtain ⟨x, hx⟩ : ∃ x, x = l[i] := ⟨_, rfl⟩
      obtain ⟨g, off, A1, c1, A2, c2, A3, c3, rfl, _, hgs, q0, q1, q2, q3, q4, q5, q6, r1, r2, r3⟩ := at_CondT (H.out.new_ HB0.out) hlt
      rw [← hx] at q0 q1 q2 q3 q4 q5 q6 r1 r2 r3
      have HR1 := Lib.hid r1
      have HR2 := Lib.hid r2
      have HR3 := Lib.hid r3
      have hn1 := r1.cap
      have hn2 := r2.cap
      have hn3 := r3.cap
      have b1 : (0 : Int) ≤ (i : Int) := by omega
      have b2 : (i : Int) < (l.length : Int) := by omega
      have HX := Lib.hid hx
      have HYES := Lib.hid (show (heavyO x || heavyC n x.conds) = true → R = true from fun h => by rw [HR.out]; exact List.any_eq_true.2 ⟨x, by rw [HX.out]; exact List.getElem_mem hlt, h⟩)
      have hsz := HB0.out.size
      clear hx r1 r2 r3
      go_upto_region 5 with fail
      obtain ⟨X, hX⟩ : ∃ X, X = wr.alloc (.cells #[.int .i64 x.kind, .bool x.goal, .string x.id, .slice A1 x.attr.length c1, .slice A2 x.value.length c2, .bool x.acc, .slice A3 x.conds.length c3] 50) := ⟨_, rfl⟩
      rw [← hX]
      have hbX : Below wr.heap.size wr X := by rw [hX]; exact (Below.refl _ _).alloc (Nat.le_refl _) _
      have Kx := Lib.hid (show Blk X wr.heap.size 50 #[.int .i64 x.kind, .bool x.goal, .string x.id, .slice A1 x.attr.length c1, .slice A2 x.value.length c2, .bool x.acc, .slice A3 x.conds.length c3] by rw [hX]; exact Blk.new _ _ _)
      have HB := Lib.hid hbX
      have HBW := Lib.hid (HB0.out.trans (hbX.mono hsz))
      clear hX hbX q0 q1 q2 q3 q4 q5 q6
      obtain ⟨-, -, x2, x3, x4, -, x6⟩ := Kx.out.c7
      have xz := Kx.out.lt
      cases t1 : decide (100 < x.id.size)
      · skip
        cases t2 : decide (10 < x.attr.length)
        · skip
          cases t3 : decide (10 < x.value.length)
          · skip
            have s1 : decide ((100 : Int) < (x.id.size : Int)) = false := by simp at t1 ⊢; omega
            have s2 : decide ((10 : Int) < (x.attr.length : Int)) = false := by simp at t2 ⊢; omega
            have s3 : decide ((10 : Int) < (x.value.length : Int)) = false := by simp at t3 ⊢; omega
            cases t4 : x.attr.any heavyT
            · skip
              cases t5 : x.value.any heavyT
              · skip
                cases t6 : heavyC n x.conds
                · skip
                  have hc1 := heavyTests_is x.attr X (HR1.out.new_ HB.out)
                  rw [t4] at hc1
                  have HC1 := Lib.hid hc1
                  clear hc1
                  have hc2 := heavyTests_is x.value X (HR2.out.new_ HB.out)
                  rw [t5] at hc2
                  have HC2 := Lib.hid hc2
                  clear hc2
                  have hc3 := IH.out D A3 c3 x.conds X (HR3.out.new_ HB.out)
                  rw [t6] at hc3
                  have HC3 := Lib.hid hc3
                  clear hc3
                  have HN := Lib.hid (show (heavyO x || heavyC n x.conds) = false by simp [heavyO, t1, t2, t3, t4, t5, t6])
                  clear t1 t2 t3 t4 t5 t6
                  go_wp2_with fail
                  refine HC1.out.mono ?_
                  rintro e w9 ⟨rfl, rfl⟩
                  go_wp2_with fail
                  refine HC2.out.mono ?_
                  rintro e w9 ⟨rfl, rfl⟩
                  go_wp2_with fail
                  refine HC3.out.mono ?_
                  rintro e w5 ⟨rfl, hb5⟩
                  have HB5 := Lib.hid (HBW.out.trans (hb5.mono HBW.out.size))
                  clear hb5
                  clear x2 x3 x4 x6
                  go_wp2_with fail
                  go_roundw
                  case rel =>
                   refine ⟨i + 1, by go_num, by omega, fun k h hk => ?_, HB5.out⟩
                   rcases Nat.lt_or_ge k i with h3 | h3
                   · exact HALL.out k h h3
                   · obtain rfl : k = i := by omega
                     rw [← HX.out]
                     exact HN.out
                  case measure => simp [intOf] <;> omega
                · skip
                  have hc1 := heavyTests_is x.attr X (HR1.out.new_ HB.out)
                  rw [t4] at hc1
                  have HC1 := Lib.hid hc1
                  clear hc1
                  have hc2 := heavyTests_is x.value X (HR2.out.new_ HB.out)
                  rw [t5] at hc2
                  have HC2 := Lib.hid hc2
                  clear hc2
                  have hc3 := IH.out D A3 c3 x.conds X (HR3.out.new_ HB.out)
                  rw [t6] at hc3
                  have HC3 := Lib.hid hc3
                  clear hc3
                  have HN := Lib.hid (HYES.out (by simp [t6]))
                  clear t1 t2 t3 t4 t5 t6
                  go_wp2_with fail
                  refine HC1.out.mono ?_
                  rintro e w9 ⟨rfl, rfl⟩
                  go_wp2_with fail
                  refine HC2.out.mono ?_
                  rintro e w9 ⟨rfl, rfl⟩
                  go_wp2_with fail
                  refine HC3.out.mono ?_
                  rintro e w5 ⟨rfl, hb5⟩
                  have HB5 := Lib.hid (HBW.out.trans (hb5.mono HBW.out.size))
                  clear hb5
                  clear x2 x3 x4 x6
                  go_wp2_with fail
                  go_ret
                  exact ⟨by rw [HN.out]; rfl, HB5.out⟩
              · skip
                have hc1 := heavyTests_is x.attr X (HR1.out.new_ HB.out)
                rw [t4] at hc1
                have HC1 := Lib.hid hc1
                clear hc1
                have hc2 := heavyTests_is x.value X (HR2.out.new_ HB.out)
                rw [t5] at hc2
                have HC2 := Lib.hid hc2
                clear hc2
                have HN := Lib.hid (HYES.out (by simp [heavyO, t5]))
                clear t1 t2 t3 t4 t5
                go_wp2_with fail
                refine HC1.out.mono ?_
                rintro e w9 ⟨rfl, rfl⟩
                go_wp2_with fail
                refine HC2.out.mono ?_
                rintro e w9 ⟨rfl, rfl⟩
                go_wp2_with fail
                go_ret
                exact ⟨by rw [HN.out]; rfl, HBW.out⟩
            · skip
              have hc1 := heavyTests_is x.attr X (HR1.out.new_ HB.out)
              rw [t4] at hc1
              have HC1 := Lib.hid hc1
              clear hc1
              have HN := Lib.hid (HYES.out (by simp [heavyO, t4]))
              clear t1 t2 t3 t4
              go_wp2_with fail
              refine HC1.out.mono ?_
              rintro e w9 ⟨rfl, rfl⟩
              go_wp2_with fail
              go_ret
              exact ⟨by rw [HN.out]; rfl, HBW.out⟩
          · skip
            have s1 : decide ((100 : Int) < (x.id.size : Int)) = false := by simp at t1 ⊢; omega
            have s2 : decide ((10 : Int) < (x.attr.length : Int)) = false := by simp at t2 ⊢; omega
            have s3 : decide ((10 : Int) < (x.value.length : Int)) = true := by simp at t3 ⊢; omega
            have HN := Lib.hid (HYES.out (by simp [heavyO, t3]))
            clear t1 t2 t3
            go_wp2_with fail
            go_ret
            exact ⟨by rw [HN.out]; rfl, HBW.out⟩
        · skip
          have s1 : decide ((100 : Int) < (x.id.size : Int)) = false := by simp at t1 ⊢; omega
          have s2 : decide ((10 : Int) < (x.attr.length : Int)) = true := by simp at t2 ⊢; omega
          have HN := Lib.hid (HYES.out (by simp [heavyO, t2]))
          clear t1 t2
          go_wp2_with fail
          go_ret
          exact ⟨by rw [HN.out]; rfl, HBW.out⟩
      · skip
        have s1 : decide ((100 : Int) < (x.id.size : Int)) = true := by simp at t1 ⊢; omega
        have HN := Lib.hid (HYES.out (by simp [heavyO, t1]))
        clear t1
        go_wp2_with fail
        go_ret
        exact ⟨by rw [HN.out]; rfl, HBW.out⟩
    · have hie : i = l.length := by omega
      subst hie
      have HN := Lib.hid (show R = false by
       rw [HR.out, List.any_eq_false]
       intro x hx
       obtain ⟨k, hk, rfl⟩ := List.getElem_of_mem hx
       have := HALL.out k hk hk
       simpa using this)
      go_wp2_with fail
      go_ret
      exact ⟨by rw [HN.out]; rfl, HB0.out⟩
set_option maxRecDepth 100000 in
set_option maxHeartbeats 4000000 in
theorem heavy_is {D : Nat → Prop} (n : Nat) (p : ProdT) (A1 A2 : Option Addr) (c1 c2 : Nat) (w : World) (h1 : RowR (repCondT n) D w A1 c1 p.conds) (h2 : RowR repActT D w A2 c2 p.acts) :
 Calls Try.prog 7 #[.agg #[.string p.name, .slice A1 p.conds.length c1, .slice A2 p.acts.length c2]] w fun e w' => e = .returned (.bool (heavyP n p)) ∧ Below w.heap.size w w' := by
 have H1 := Lib.hid h1
 have hac := h2.cap
 obtain ⟨R, hR⟩ : ∃ R, R = heavyP n p := ⟨_, rfl⟩
 rw [← hR]
 have HR := Lib.hid hR
 obtain ⟨s, hs⟩ : ∃ s, s = sizeK 40 n 0 p.conds := ⟨_, rfl⟩
 unfold heavyP at hR
 rw [← hs] at hR
 have HV := Lib.hid hR
 clear hR h1 h2
 go_enter Try.func7, Try.ntmps7
 go_upto_region 1 with fail
 obtain ⟨w1, hw1⟩ : ∃ w1, w1 = (w.alloc (.cells #[.string p.name, .slice A1 p.conds.length c1, .slice A2 p.acts.length c2] 25)) := ⟨_, rfl⟩
 rw [← hw1]
 have HB := Lib.hid (show Below w.heap.size w w1 by rw [hw1]; exact (by repeat (first | exact Below.refl _ _ | refine Below.drew ?_ | refine Below.al ?_ _ | refine Below.sc ?_ _)))
 have Kp := Lib.hid (show Blk w1 (w.heap.size) 25 #[.string p.name, .slice A1 p.conds.length c1, .slice A2 p.acts.length c2] by rw [hw1]; exact (Blk.new w 25 #[.string p.name, .slice A1 p.conds.length c1, .slice A2 p.acts.length c2]))
 clear hw1
 obtain ⟨p0, p1, p2⟩ := Kp.out.c3
 have pz := Kp.out.lt
 have hc1 : Calls Try.prog 25 #[.slice A1 p.conds.length c1, .int .i64 40, .int .i64 0] w1 _ := size_is 40 (by decide) n D A1 c1 0 p.conds w1 (H1.out.new_ HB.out) (by decide)
 rw [← hs] at hc1
 have HC1 := Lib.hid hc1
 clear hc1 hs
 cases t1 : decide (40 < s)
 · skip
   cases t2 : decide (40 < p.acts.length)
   · skip
     cases t3 : decide (100 < p.name.size)
     · skip
       have s1 : decide ((40 : Int) < (s : Int)) = false := by simp at t1 ⊢; omega
       have s2 : decide ((40 : Int) < (p.acts.length : Int)) = false := by simp at t2 ⊢; omega
       have s3 : decide ((100 : Int) < (p.name.size : Int)) = false := by simp at t3 ⊢; omega
       have HN := Lib.hid (show R = heavyC n p.conds by rw [HV.out, t1, t2, t3]; simp)
       clear t1 t2 t3
       go_wp2_with fail
       with_reducible refine (HC1.out).mono ?_
       rintro e w0 ⟨rfl, rfl⟩
       go_wp2_with fail
       with_reducible refine (heavyConds_is n D A1 c1 p.conds _ (H1.out.new_ HB.out)).mono ?_
       rintro e w2 ⟨rfl, hb⟩
       have hbs := Below.trans (show Below w1.heap.size w1 _ from (by (repeat (first | exact Below.refl _ _ | refine Below.drew ?_ | refine Below.al ?_ _ | refine Below.sc ?_ _)))) (hb.mono (by simp <;> omega))
       have Kp := Lib.hid (Kp.out.new_ hbs)
       have HB := Lib.hid (HB.out.trans (hbs.mono HB.out.size))
       have hsz2 := hbs.size
       clear p0 p1 p2 pz hb hbs
       obtain ⟨p0, p1, p2⟩ := Kp.out.c3
       have pz := Kp.out.lt
       go_wp2_with fail
       go_ret
       exact ⟨by rw [HN.out]; rfl, HB.out⟩
     · skip
       have s1 : decide ((40 : Int) < (s : Int)) = false := by simp at t1 ⊢; omega
       have s2 : decide ((40 : Int) < (p.acts.length : Int)) = false := by simp at t2 ⊢; omega
       have s3 : decide ((100 : Int) < (p.name.size : Int)) = true := by simp at t3 ⊢; omega
       have HN := Lib.hid (show R = true by rw [HV.out, t1, t2, t3]; simp)
       clear t1 t2 t3
       go_wp2_with fail
       with_reducible refine (HC1.out).mono ?_
       rintro e w0 ⟨rfl, rfl⟩
       go_wp2_with fail
       go_ret
       exact ⟨by rw [HN.out]; rfl, HB.out⟩
   · skip
     have s1 : decide ((40 : Int) < (s : Int)) = false := by simp at t1 ⊢; omega
     have s2 : decide ((40 : Int) < (p.acts.length : Int)) = true := by simp at t2 ⊢; omega
     have HN := Lib.hid (show R = true by rw [HV.out, t1, t2]; simp)
     clear t1 t2
     go_wp2_with fail
     with_reducible refine (HC1.out).mono ?_
     rintro e w0 ⟨rfl, rfl⟩
     go_wp2_with fail
     go_ret
     exact ⟨by rw [HN.out]; rfl, HB.out⟩
 · skip
   have s1 : decide ((40 : Int) < (s : Int)) = true := by simp at t1 ⊢; omega
   have HN := Lib.hid (show R = true by rw [HV.out, t1]; simp)
   clear t1
   go_wp2_with fail
   with_reducible refine (HC1.out).mono ?_
   rintro e w0 ⟨rfl, rfl⟩
   go_wp2_with fail
   go_ret
   exact ⟨by rw [HN.out]; rfl, HB.out⟩
theorem heavyP_light {n : Nat} {p : ProdT} (h : heavyP n p = false) : (∀ {D : Nat → Prop} {w : World} {A : Option Addr} {c : Nat}, RowR (repCondT n) D w A c p.conds → RowR (repCondT 20) D w A c p.conds) ∧ (∀ m e, (flatC m e p.conds).length ≤ 40) ∧ p.acts.length ≤ 40 ∧ p.name.size ≤ 100 := by
 unfold heavyP at h
 simp only [Bool.or_eq_false_iff, decide_eq_false_iff_not] at h
 obtain ⟨h1, h2, h3, h4⟩ := h
 have h5 : sizeK 40 n 0 p.conds ≤ 40 := by omega
 exact ⟨fun g => (sizeK_deep 40 n 0 p.conds h5).2 g, fun m e => Nat.le_trans (sizeK_flat 40 n m 0 e p.conds h5) h5, by omega, by omega⟩
end Go.Proofs.Ytffemfglngikbaa
namespace Go.Proofs.Ytffemfglngikbaa
open Go.RowKit Go.Shelf
theorem fm_congr {α β : Type} {f g : α → List β} : ∀ {l : List α}, (∀ x ∈ l, f x = g x) → l.flatMap f = l.flatMap g
 | [], _ => rfl
 | x :: l, h => by rw [List.flatMap_cons, List.flatMap_cons, h x (by simp), fm_congr (l := l) (fun y hy => h y (by simp [hy]))]
theorem sizeK_zero {d : Nat} {l : List CondT} (h : sizeK 40 0 d l ≤ 40) : l = [] := by
 rw [sizeK] at h
 by_cases h1 : 20 < d
 · rw [if_pos h1] at h; omega
 · rw [if_neg h1] at h
   by_cases h2 : l = []
   · exact h2
   · rw [if_neg h2] at h; omega
theorem sizeK_go {n d : Nat} {l : List CondT} (h : sizeK 40 (n + 1) d l ≤ 40) : sizeK 40 (n + 1) d l = (l.map fun c => 1 + sizeK 40 n (d + 1) c.conds).sum ∧ ∀ c ∈ l, sizeK 40 n (d + 1) c.conds ≤ 40 := by
 rw [sizeK] at h ⊢
 by_cases h1 : 20 < d
 · rw [if_pos h1] at h; omega
 · rw [if_neg h1] at h ⊢
   obtain ⟨g1, g2⟩ := goK_all 40 (fun c => sizeK 40 n (d + 1) c.conds) l 0 (by omega)
   exact ⟨by omega, g2⟩
theorem len_sum (f : CondT → Nat) : ∀ l : List CondT, l.length ≤ (l.map fun c => 1 + f c).sum
 | [] => by simp
 | c :: l => by have := len_sum f l; rw [List.map_cons, List.sum_cons, List.length_cons]; omega
theorem sizeK_len : ∀ (n d : Nat) (l : List CondT), sizeK 40 n d l ≤ 40 → l.length ≤ 40
 | 0, d, l, h => by rw [sizeK_zero h]; simp
 | n + 1, d, l, h => by
   obtain ⟨g1, _⟩ := sizeK_go h
   have := len_sum (fun c => sizeK 40 n (d + 1) c.conds) l
   omega
theorem heavy_in {n : Nat} {l : List CondT} (h : heavyC (n + 1) l = false) {c : CondT} (hc : c ∈ l) : heavyO c = false ∧ heavyC n c.conds = false := by
 have h2 := List.any_eq_false.1 (show (l.any fun c => heavyO c || heavyC n c.conds) = false from h) c hc
 simp only [Bool.or_eq_true, not_or, Bool.not_eq_true] at h2
 exact h2
theorem heavyT_sm {l : List TestT} (h1 : l.length ≤ 10) (h2 : l.any heavyT = false) : SmT l := by
 refine ⟨by omega, fun t ht => ?_⟩
 have h3 := List.any_eq_false.1 h2 t ht
 unfold heavyT at h3
 simp only [Bool.or_eq_true, decide_eq_true_eq, not_or] at h3
 omega
theorem heavyO_sm {c : CondT} (h : heavyO c = false) : c.id.size ≤ 100 ∧ c.attr.length ≤ 10 ∧ c.value.length ≤ 10 ∧ SmT c.attr ∧ SmT c.value ∧ c.attr.any heavyT = false ∧ c.value.any heavyT = false := by
 unfold heavyO at h
 simp only [Bool.or_eq_false_iff, decide_eq_false_iff_not] at h
 obtain ⟨h1, h2, h3, h4, h5⟩ := h
 exact ⟨by omega, by omega, by omega, heavyT_sm (by omega) h4, heavyT_sm (by omega) h5, h4, h5⟩
theorem smc_of40 : ∀ (n d m : Nat) (l : List CondT), sizeK 40 n d l ≤ 40 → heavyC n l = false → ∀ c ∈ l, SmC m c
 | 0, d, m, l, h1, _, c, hc => by rw [sizeK_zero h1] at hc; cases hc
 | n + 1, d, 0, l, _, _, c, hc => trivial
 | n + 1, d, m + 1, l, h1, h2, c, hc => by
   obtain ⟨g1, g2⟩ := sizeK_go h1
   obtain ⟨k1, k2⟩ := heavy_in h2 hc
   obtain ⟨-, -, -, s1, s2, -, -⟩ := heavyO_sm k1
   have := sizeK_len n (d + 1) c.conds (g2 c hc)
   exact ⟨s1, s2, by omega, smc_of40 n (d + 1) m c.conds (g2 c hc) k2⟩
theorem flat_sum40 {β : Type} (f : CondT → List β) (g : CondT → Nat) (k : Nat) : ∀ l : List CondT, (∀ c ∈ l, (f c).length ≤ k * g c) → (l.flatMap f).length ≤ k * (l.map g).sum
 | [], _ => by simp
 | c :: l, h => by
   have h1 := h c (by simp)
   have h2 := flat_sum40 f g k l (fun x hx => h x (by simp [hx]))
   rw [List.flatMap_cons, List.length_append, List.map_cons, List.sum_cons, Nat.mul_add]
   omega
theorem names_len40 : ∀ (n d m : Nat) (l : List CondT), sizeK 40 n d l ≤ 40 → heavyC n l = false → (l.flatMap (namesN m)).length ≤ 21 * sizeK 40 n d l
 | 0, d, m, l, h1, _ => by rw [sizeK_zero h1]; simp
 | n + 1, d, 0, l, _, _ => by
   have : l.flatMap (namesN 0) = [] := by
    rw [List.flatMap_eq_nil_iff]
    intro x _
    rfl
   rw [this]; simp
 | n + 1, d, m + 1, l, h1, h2 => by
   obtain ⟨g1, g2⟩ := sizeK_go h1
   rw [g1]
   refine flat_sum40 (namesN (m + 1)) (fun c : CondT => 1 + sizeK 40 n (d + 1) c.conds) 21 l (fun c hc => ?_)
   obtain ⟨k1, k2⟩ := heavy_in h2 hc
   obtain ⟨-, s1, s2, -⟩ := heavyO_sm k1
   have h5 := names_len40 n (d + 1) m c.conds (g2 c hc) k2
   have k1 := varsT_len c.attr
   have k2 := varsT_len c.value
   have k3 := oneN_len c.id
   rw [namesN, List.length_append, List.length_append, List.length_append]
   omega
theorem varsA_len (a : ActT) : (varsA a).length ≤ 5 := by
 have h1 := oneN_len a.id
 have h2 := oneN_len a.attr.var
 have h3 := oneN_len a.value.a.var
 have h4 := oneN_len a.value.b.var
 have h5 := oneN_len a.other.var
 simp only [varsA, fives, List.flatMap_cons, List.flatMap_nil, List.length_append, List.length_nil]
 omega
theorem varsAs_len : ∀ l : List ActT, (l.flatMap varsA).length ≤ 5 * l.length
 | [] => by simp
 | a :: l => by have h1 := varsA_len a; have h2 := varsAs_len l; rw [List.flatMap_cons, List.length_append, List.length_cons]; omega
theorem heavyP_no {n : Nat} {p : ProdT} (h : heavyP n p = false) : sizeK 40 n 0 p.conds ≤ 40 ∧ p.acts.length ≤ 40 ∧ p.name.size ≤ 100 ∧ heavyC n p.conds = false := by
 unfold heavyP at h
 simp only [Bool.or_eq_false_iff, decide_eq_false_iff_not] at h
 obtain ⟨h1, h2, h3, h4⟩ := h
 exact ⟨by omega, by omega, by omega, h4⟩
theorem vars_len40 {n : Nat} {p : ProdT} (h : heavyP n p = false) (m : Nat) : (varsP m p).length ≤ 1100 := by
 obtain ⟨h1, h2, _, h4⟩ := heavyP_no h
 have g1 := names_len40 n 0 m p.conds h1 h4
 have g2 := varsAs_len p.acts
 unfold varsP
 rw [List.length_append]
 omega
theorem fit_of {n : Nat} {p : ProdT} (h : heavyP n p = false) {D : Nat → Prop} {w : World} {A : Option Addr} {c : Nat} (hr : RowR (repCondT n) D w A c p.conds) : RowR (repCondT 20) D w A c p.conds ∧ Fit 20 p := by
 obtain ⟨h1, h2, _, h4⟩ := heavyP_no h
 have hr20 := (heavyP_light h).1 hr
 exact ⟨hr20, ⟨by have := sizeK_len n 0 p.conds h1; omega, by omega, smc_of40 n 0 20 p.conds h1 h4, by have := vars_len40 h 20; omega, by have := (heavyP_light h).2.1 20 0; omega, by omega, row_dp 20 hr20⟩⟩
end Go.Proofs.Ytffemfglngikbaa
namespace Go.Proofs.Ytffemfglngikbaa
open Go.RowKit Go.Shelf
theorem neqs_ActT (x : ActT) (W : World) : (binOp .neq 58 (.agg #[.string x.id, .string x.attr.var, .int .i64 x.attr.sym.kind, .string x.attr.sym.text, .int .i64 x.attr.sym.n, .int .i64 x.value.op, .string x.value.a.var, .int .i64 x.value.a.sym.kind, .string x.value.a.sym.text, .int .i64 x.value.a.sym.n, .string x.value.b.var, .int .i64 x.value.b.sym.kind, .string x.value.b.sym.text, .int .i64 x.value.b.sym.n, .int .i64 x.pref, .string x.other.var, .int .i64 x.other.sym.kind, .string x.other.sym.text, .int .i64 x.other.sym.n]) (.agg #[.string x.id, .string x.attr.var, .int .i64 x.attr.sym.kind, .string x.attr.sym.text, .int .i64 x.attr.sym.n, .int .i64 x.value.op, .string x.value.a.var, .int .i64 x.value.a.sym.kind, .string x.value.a.sym.text, .int .i64 x.value.a.sym.n, .string x.value.b.var, .int .i64 x.value.b.sym.kind, .string x.value.b.sym.text, .int .i64 x.value.b.sym.n, .int .i64 x.pref, .string x.other.var, .int .i64 x.other.sym.kind, .string x.other.sym.text, .int .i64 x.other.sym.n])).run Try.prog W = .ok (.bool false) W := by
 rw [run_neq_struct]
 go_simp
set_option maxRecDepth 100000 in
set_option maxHeartbeats 4000000 in
theorem acts_same {D D' : Nat → Prop} {A B : Option Addr} {c d : Nat} (l : List ActT) (w : World) (hl : RowR repActT D w A c l) (hm : RowR repActT D' w B d l) :
 Calls Try.prog 37 #[.slice A l.length c, .slice B l.length d] w fun e w' => e = .returned (.bool true) ∧ Below w.heap.size w w' := by
 have HL := Lib.hid hl
 have HM := Lib.hid hm
 have hlc := hl.cap
 clear hl hm
 go_enter Try.func37, Try.ntmps37
 go_wp2_with fail
 go_loopw [5] (fun s wr => ∃ i : Nat, s = .int .i64 i ∧ i ≤ l.length ∧ Below w.heap.size w wr) (fun s wr => l.length - (intOf s).toNat)
 case atStart => exact ⟨0, rfl, Nat.zero_le _, Below.refl _ _⟩
 case round =>
  obtain ⟨i, rfl, hi, hB⟩ := hrel
  have HB := Lib.hid hB
  clear hB
  by_cases hlt : i < l.length
  · obtain ⟨y, hy⟩ : ∃ y, y = l[i] := ⟨_, rfl⟩
    have b1 : (0 : Int) ≤ (i : Int) := by omega
    have b2 : (i : Int) < (l.length : Int) := by omega
    have HY := Lib.hid hy
    obtain ⟨g, off, hAA, _, hgs, _⟩ := at_ActT (HL.out.new_ HB.out) hlt
    subst hAA
    obtain ⟨g2, off2, hAA, _, hgs2, _⟩ := at_ActT (HM.out.new_ HB.out) hlt
    subst hAA
    have LA := Lib.hid (show ∀ w9, Below wr.heap.size wr w9 → w9.rangeAt g (off + i * 19) [.string y.id, .string y.attr.var, .int .i64 y.attr.sym.kind, .string y.attr.sym.text, .int .i64 y.attr.sym.n, .int .i64 y.value.op, .string y.value.a.var, .int .i64 y.value.a.sym.kind, .string y.value.a.sym.text, .int .i64 y.value.a.sym.n, .string y.value.b.var, .int .i64 y.value.b.sym.kind, .string y.value.b.sym.text, .int .i64 y.value.b.sym.n, .int .i64 y.pref, .string y.other.var, .int .i64 y.other.sym.kind, .string y.other.sym.text, .int .i64 y.other.sym.n] from fun w9 h9 j v hv => by
     obtain ⟨g', off', cs, e1, _, _, hr, hc⟩ := (HL.out.new_ (HB.out.trans (h9.mono HB.out.size))).at_ hlt
     cases e1
     have hr2 : cs = ActT.cells l[i] := hr
     subst hr2
     rw [← HY.out] at hc
     exact hc j v hv)
    have LB := Lib.hid (show ∀ w9, Below wr.heap.size wr w9 → w9.rangeAt g2 (off2 + i * 19) [.string y.id, .string y.attr.var, .int .i64 y.attr.sym.kind, .string y.attr.sym.text, .int .i64 y.attr.sym.n, .int .i64 y.value.op, .string y.value.a.var, .int .i64 y.value.a.sym.kind, .string y.value.a.sym.text, .int .i64 y.value.a.sym.n, .string y.value.b.var, .int .i64 y.value.b.sym.kind, .string y.value.b.sym.text, .int .i64 y.value.b.sym.n, .int .i64 y.pref, .string y.other.var, .int .i64 y.other.sym.kind, .string y.other.sym.text, .int .i64 y.other.sym.n] from fun w9 h9 j v hv => by
     obtain ⟨g', off', cs, e1, _, _, hr, hc⟩ := (HM.out.new_ (HB.out.trans (h9.mono HB.out.size))).at_ hlt
     cases e1
     have hr2 : cs = ActT.cells l[i] := hr
     subst hr2
     rw [← HY.out] at hc
     exact hc j v hv)
    have hbe := fun W => neqs_ActT y W
    clear hy
    go_wp2_with fail
    refine wp_region_E (fun w9 => Below wr.heap.size wr w9) [(0, 0), (1, 0), (2, 0), (3, 1), (4, 0), (5, 0), (6, 0), (7, 1), (8, 0)] (by kernel_rfl) (by kernel_rfl) (fun KK hKK => ?_)
    simp only [beside, List.filterMap_cons, List.filterMap_nil, List.getElem?_toArray, List.getElem?_cons_zero, List.getElem?_cons_succ, Option.map_some]
    repeat ((first | (refine wpX_l _ ((Below.refl _ _).drew) (yieldsIf_load_mid (by rfl) 58 _ rfl g (off + i * 19) rfl [.string y.id, .string y.attr.var, .int .i64 y.attr.sym.kind, .string y.attr.sym.text, .int .i64 y.attr.sym.n, .int .i64 y.value.op, .string y.value.a.var, .int .i64 y.value.a.sym.kind, .string y.value.a.sym.text, .int .i64 y.value.a.sym.n, .string y.value.b.var, .int .i64 y.value.b.sym.kind, .string y.value.b.sym.text, .int .i64 y.value.b.sym.n, .int .i64 y.pref, .string y.other.var, .int .i64 y.other.sym.kind, .string y.other.sym.text, .int .i64 y.other.sym.n] _ LA.out Try.underlying58 rfl (by kernel_rfl)) ?_) | (refine wpX_l _ ((Below.refl _ _).drew) (yieldsIf_load_mid (by rfl) 58 _ rfl g2 (off2 + i * 19) rfl [.string y.id, .string y.attr.var, .int .i64 y.attr.sym.kind, .string y.attr.sym.text, .int .i64 y.attr.sym.n, .int .i64 y.value.op, .string y.value.a.var, .int .i64 y.value.a.sym.kind, .string y.value.a.sym.text, .int .i64 y.value.a.sym.n, .string y.value.b.var, .int .i64 y.value.b.sym.kind, .string y.value.b.sym.text, .int .i64 y.value.b.sym.n, .int .i64 y.pref, .string y.other.var, .int .i64 y.other.sym.kind, .string y.other.sym.text, .int .i64 y.other.sym.n] _ LB.out Try.underlying58 rfl (by kernel_rfl)) ?_) | (refine wpX_w ?_ (Or.inl ⟨by rfl, fun w9 => ?_⟩) ?_; rotate_left 1; go_simp; with_reducible rfl) | (refine wpX_l ?_ (((Below.refl _ _).drew)) (Or.inl ⟨by rfl, fun w9 hw9 => ?_⟩) ?_; rotate_left 1; fail; go_simp; with_reducible rfl) | refine wpX_w undef (Or.inr ⟨by rfl, rfl⟩) ?_ | refine wpX_l undef (((Below.refl _ _).drew)) (Or.inr ⟨by rfl, rfl⟩) ?_); go_frame)
    refine wpX_nil ?_
    simp only [OnlyN_normal]
    refine hKK _ _ ?_
    clear hKK KK
    have HB2 := Lib.hid (HB.out.drew)
    go_wp2_with fail
    go_roundw
    case rel => exact ⟨i + 1, by go_num, by omega, HB2.out⟩
    case measure => simp [intOf] <;> omega
  · obtain rfl : i = l.length := by omega
    go_wp2_with fail
    go_ret
    exact ⟨rfl, HB.out⟩
end Go.Proofs.Ytffemfglngikbaa
namespace Go.Proofs.Ytffemfglngikbaa
open Go.RowKit Go.Shelf
set_option maxRecDepth 100000 in
set_option maxHeartbeats 4000000 in
theorem prod_same {D D' : Nat → Prop} (n : Nat) (p : ProdT) (A1 : Option Addr) (c1 : Nat) (A2 : Option Addr) (c2 : Nat) (B1 : Option Addr) (d1 : Nat) (B2 : Option Addr) (d2 : Nat) (w : World) (g1 : RowR (repCondT n) D w A1 c1 p.conds) (g2 : RowR repActT D w A2 c2 p.acts) (k1 : RowR (repCondT n) D' w B1 d1 p.conds) (k2 : RowR repActT D' w B2 d2 p.acts) :
 Calls Try.prog 18 #[.agg #[.string p.name, .slice A1 p.conds.length c1, .slice A2 p.acts.length c2], .agg #[.string p.name, .slice B1 p.conds.length d1, .slice B2 p.acts.length d2]] w fun e w' => e = .returned (.bool true) ∧ Below w.heap.size w w' := by
 have G1 := Lib.hid g1
 have G2 := Lib.hid g2
 have K1 := Lib.hid k1
 have K2 := Lib.hid k2
 clear g1 g2 k1 k2
 go_enter Try.func18, Try.ntmps18
 go_upto_region 1 with fail
 obtain ⟨w1, hw1⟩ : ∃ w1, w1 = ((w.alloc (.cells #[.string p.name, .slice A1 p.conds.length c1, .slice A2 p.acts.length c2] 25)).alloc (.cells #[.string p.name, .slice B1 p.conds.length d1, .slice B2 p.acts.length d2] 25)) := ⟨_, rfl⟩
 rw [← hw1]
 have HB := Lib.hid (show Below w.heap.size w w1 by rw [hw1]; exact (by repeat (first | exact Below.refl _ _ | refine Below.drew ?_ | refine Below.al ?_ _ | refine Below.sc ?_ _)))
 have Ka := Lib.hid (show Blk w1 (w.heap.size) 25 #[.string p.name, .slice A1 p.conds.length c1, .slice A2 p.acts.length c2] by rw [hw1]; exact ((Blk.new w 25 #[.string p.name, .slice A1 p.conds.length c1, .slice A2 p.acts.length c2]).alloc (.cells #[.string p.name, .slice B1 p.conds.length d1, .slice B2 p.acts.length d2] 25)))
 have Kb := Lib.hid (show Blk w1 (w.heap.size + 1) 25 #[.string p.name, .slice B1 p.conds.length d1, .slice B2 p.acts.length d2] by rw [hw1]; have hh := (Blk.new (w.alloc (.cells #[.string p.name, .slice A1 p.conds.length c1, .slice A2 p.acts.length c2] 25)) 25 #[.string p.name, .slice B1 p.conds.length d1, .slice B2 p.acts.length d2]); simp only [World.size_alloc] at hh; exact hh)
 clear hw1
 obtain ⟨a0, a1, a2⟩ := Ka.out.c3
 have az := Ka.out.lt
 obtain ⟨b0, b1, b2⟩ := Kb.out.c3
 have bz := Kb.out.lt
 go_wp2_with fail
 with_reducible refine (conds_same n _ _ _ _ _ _ p.conds _ (G1.out.new_ (by (repeat (first | exact Below.refl _ _ | exact HB.out | refine Below.drew ?_ | refine Below.al ?_ _ | refine Below.sc ?_ _)))) (K1.out.new_ (by (repeat (first | exact Below.refl _ _ | exact HB.out | refine Below.drew ?_ | refine Below.al ?_ _ | refine Below.sc ?_ _))))).mono ?_
 rintro e w2 ⟨rfl, hb⟩
 have hbs := Below.trans (show Below w1.heap.size w1 _ from (by (repeat (first | exact Below.refl _ _ | refine Below.drew ?_ | refine Below.al ?_ _ | refine Below.sc ?_ _)))) (hb.mono (by simp <;> omega))
 have Ka := Lib.hid (Ka.out.new_ hbs)
 have Kb := Lib.hid (Kb.out.new_ hbs)
 have HB := Lib.hid (HB.out.trans (hbs.mono HB.out.size))
 have hsz2 := hbs.size
 clear a0 a1 a2 az b0 b1 b2 bz hb hbs
 obtain ⟨a0, a1, a2⟩ := Ka.out.c3
 have az := Ka.out.lt
 obtain ⟨b0, b1, b2⟩ := Kb.out.c3
 have bz := Kb.out.lt
 go_wp2_with fail
 with_reducible refine (acts_same p.acts _ (G2.out.new_ (by (repeat (first | exact Below.refl _ _ | exact HB.out | refine Below.drew ?_ | refine Below.al ?_ _ | refine Below.sc ?_ _)))) (K2.out.new_ (by (repeat (first | exact Below.refl _ _ | exact HB.out | refine Below.drew ?_ | refine Below.al ?_ _ | refine Below.sc ?_ _))))).mono ?_
 rintro e w3 ⟨rfl, hb⟩
 have hbs := Below.trans (show Below w2.heap.size w2 _ from (by (repeat (first | exact Below.refl _ _ | refine Below.drew ?_ | refine Below.al ?_ _ | refine Below.sc ?_ _)))) (hb.mono (by simp <;> omega))
 have Ka := Lib.hid (Ka.out.new_ hbs)
 have Kb := Lib.hid (Kb.out.new_ hbs)
 have HB := Lib.hid (HB.out.trans (hbs.mono HB.out.size))
 have hsz3 := hbs.size
 clear a0 a1 a2 az b0 b1 b2 bz hb hbs
 obtain ⟨a0, a1, a2⟩ := Ka.out.c3
 have az := Ka.out.lt
 obtain ⟨b0, b1, b2⟩ := Kb.out.c3
 have bz := Kb.out.lt
 go_wp2_with fail
 go_ret
 exact ⟨rfl, by (repeat (first | exact Below.refl _ _ | exact HB.out | refine Below.drew ?_ | refine Below.al ?_ _ | refine Below.sc ?_ _))⟩
end Go.Proofs.Ytffemfglngikbaa
namespace Go.Proofs.Ytffemfglngikbaa
open Go.RowKit Go.Shelf
def valB (b : ByteArray) : Nat := b.data.toList.foldl (fun a c => a * 10 + (c.toNat - 48)) 0
theorem valB_dec (n : Nat) : valB (decB n) = n := by
 induction n using Nat.strongRecOn with
 | _ n ih =>
   by_cases h : n < 10
   · rw [decB, if_pos h]
     show 0 * 10 + ((UInt8.ofNat (48 + n)).toNat - 48) = n
     have : (UInt8.ofNat (48 + n)).toNat = 48 + n := by simp; omega
     omega
   · rw [decB, if_neg h]
     have h1 := ih (n / 10) (by omega)
     unfold valB at h1 ⊢
     have e : (decB (n / 10) ++ byte1 (n % 10)).data.toList = (decB (n / 10)).data.toList ++ [UInt8.ofNat (48 + n % 10)] := by simp [ByteArray.data_append, byte1]
     rw [e, List.foldl_append, h1]
     show n / 10 * 10 + ((UInt8.ofNat (48 + n % 10)).toNat - 48) = n
     have : (UInt8.ofNat (48 + n % 10)).toNat = 48 + n % 10 := by simp; omega
     omega
theorem nameW_data (k : Nat) : (nameW k).data.toList = 118 :: (decB k).data.toList := by simp [nameW, ByteArray.data_append]
theorem nameW_inj {a b : Nat} (h : nameW a = nameW b) : a = b := by
 have h1 := nameW_data a
 rw [h, nameW_data] at h1
 have h2 : (decB a).data.toList = (decB b).data.toList := (List.cons.inj h1).2.symm
 rw [← valB_dec a, ← valB_dec b]
 unfold valB
 rw [h2]
theorem nameW_no (k : Nat) : ¬ (nameW k).toList = [] := by
 intro h
 rw [ByteArray.toList_eq, nameW_data] at h
 cases h
theorem uqStep_mem {u : List ByteArray} {v x : ByteArray} : x ∈ uqStep u v ↔ x ∈ u ∨ x = v := by
 unfold uqStep
 by_cases h : v ∈ u
 · rw [if_pos h]
   exact ⟨.inl, fun g => g.elim id (fun e => e ▸ h)⟩
 · rw [if_neg h]; simp
theorem uqf_mem {x : ByteArray} : ∀ (q u : List ByteArray), x ∈ q.foldl uqStep u ↔ x ∈ u ∨ x ∈ q
 | [], u => by simp
 | v :: q, u => by rw [List.foldl_cons, uqf_mem q, uqStep_mem, List.mem_cons, or_assoc]
theorem uq_mem {x : ByteArray} {q : List ByteArray} : x ∈ uq q ↔ x ∈ q := by unfold uq; rw [uqf_mem]; simp
theorem uqf_nodup : ∀ (q u : List ByteArray), u.Nodup → (q.foldl uqStep u).Nodup
 | [], u, h => h
 | v :: q, u, h => by
   rw [List.foldl_cons]
   refine uqf_nodup q _ ?_
   unfold uqStep
   by_cases hv : v ∈ u
   · rw [if_pos hv]; exact h
   · rw [if_neg hv]
     exact List.nodup_append.2 ⟨h, by simp, fun a ha b hb => by rw [List.mem_singleton.1 hb]; exact fun e => hv (e ▸ ha)⟩
theorem uq_nodup (q : List ByteArray) : (uq q).Nodup := uqf_nodup q [] .nil
theorem uqf_map {t : ByteArray → ByteArray} : ∀ (q u : List ByteArray), (∀ a b, (a ∈ u ∨ a ∈ q) → (b ∈ u ∨ b ∈ q) → t a = t b → a = b) → (q.map t).foldl uqStep (u.map t) = (q.foldl uqStep u).map t
 | [], u, _ => rfl
 | v :: q, u, h => by
   rw [List.map_cons, List.foldl_cons, List.foldl_cons]
   have e : uqStep (u.map t) (t v) = (uqStep u v).map t := by
    unfold uqStep
    by_cases hv : v ∈ u
    · rw [if_pos hv, if_pos (List.mem_map_of_mem hv)]
    · rw [if_neg hv, if_neg (fun hh => by
       obtain ⟨a, ha, e⟩ := List.mem_map.1 hh
       exact hv (h a v (.inl ha) (.inr (by simp)) e ▸ ha)), List.map_append]
      rfl
   rw [e]
   refine uqf_map q _ (fun a b ha hb => h a b ?_ ?_)
   · rw [uqStep_mem] at ha
     rcases ha with (g | g) | g
     · exact .inl g
     · exact .inr (by simp [g])
     · exact .inr (by simp [g])
   · rw [uqStep_mem] at hb
     rcases hb with (g | g) | g
     · exact .inl g
     · exact .inr (by simp [g])
     · exact .inr (by simp [g])
theorem uq_map {t : ByteArray → ByteArray} {q : List ByteArray} (h : ∀ a b, a ∈ q → b ∈ q → t a = t b → a = b) : uq (q.map t) = (uq q).map t :=
 uqf_map q [] (fun a b ha hb => h a b (by simpa using ha) (by simpa using hb))
theorem numT_inj {us : List ByteArray} {a b : ByteArray} (ha : a ∈ us) (hb : b ∈ us) (h : numT us a = numT us b) : a = b := by
 rw [numT, if_pos ha, numT, if_pos hb] at h
 have h1 := nameW_inj h
 have h2 := (ixOf_lt ha).2
 rw [show ixOf a us = ixOf b us by omega, (ixOf_lt hb).2] at h2
 exact (Option.some.inj h2).symm
theorem numT_no {us : List ByteArray} {a : ByteArray} (ha : a ∈ us) : ¬ (numT us a).toList = [] := by
 rw [numT, if_pos ha]; exact nameW_no _
theorem numT_fix {us : List ByteArray} (hn : us.Nodup) {a : ByteArray} (ha : a ∈ us) : numT (us.map (numT us)) (numT us a) = numT us a := by
 have h1 : numT us a ∈ us.map (numT us) := List.mem_map_of_mem ha
 have h2 : (us.map (numT us)).Nodup := by
  refine List.pairwise_map.2 (List.Pairwise.imp_of_mem ?_ hn)
  intro x y hx hy hne e
  exact hne (numT_inj hx hy e)
 have h3 : ixOf (numT us a) (us.map (numT us)) = ixOf a us := ixOf_nodup h2 _ (by rw [List.getElem?_map, (ixOf_lt ha).2]; rfl)
 rw [numT, if_pos h1, h3]
 rw [numT, if_pos ha]
theorem e0L : (⟨#[]⟩ : ByteArray).toList = [] := by kernel_rfl
section
variable {t t' : ByteArray → ByteArray}
theorem one_names {v : ByteArray} (h : ∀ x ∈ oneN v, ¬ (t x).toList = []) : oneN (oneR t v) = (oneN v).map t := by
 by_cases hv : v.toList = []
 · rw [oneR, if_pos hv, oneN_no hv, oneN_no e0L]; rfl
 · rw [oneN_yes hv] at h
   rw [oneR, if_neg hv, oneN_yes hv, oneN_yes (h v (by simp))]; rfl
theorem one_again {v : ByteArray} (h : ∀ x ∈ oneN v, t' (t x) = t x ∧ ¬ (t x).toList = []) : oneR t' (oneR t v) = oneR t v := by
 by_cases hv : v.toList = []
 · rw [oneR, oneR, if_pos hv, if_pos e0L]
 · rw [oneN_yes hv] at h
   obtain ⟨h1, h2⟩ := h v (by simp)
   rw [oneR, oneR, if_neg hv, if_neg h2, h1]
theorem tests_names {l : List TestT} (h : ∀ x ∈ varsT l, ¬ (t x).toList = []) : varsT (l.map (testR t)) = (varsT l).map t := by
 unfold varsT at *
 rw [List.flatMap_map, List.map_flatMap]
 exact fm_congr fun x hx => one_names (fun y hy => h y (List.mem_flatMap.2 ⟨x, hx, hy⟩))
theorem tests_again {l : List TestT} (h : ∀ x ∈ varsT l, t' (t x) = t x ∧ ¬ (t x).toList = []) : (l.map (testR t)).map (testR t') = l.map (testR t) := by
 rw [List.map_map]
 refine List.map_congr_left fun x hx => ?_
 show TestT.mk x.rel (oneR t' (oneR t x.var)) x.sym x.list = _
 rw [one_again (fun y hy => h y (List.mem_flatMap.2 ⟨x, hx, hy⟩))]
 rfl
theorem cond_names : ∀ (n : Nat) (c : CondT), (∀ x ∈ namesN n c, ¬ (t x).toList = []) → namesN n (condR t n c) = (namesN n c).map t
 | 0, _, _ => rfl
 | n + 1, c, h => by
   have e : namesN (n + 1) c = oneN c.id ++ (varsT c.attr ++ (varsT c.value ++ c.conds.flatMap (namesN n))) := rfl
   rw [e] at h
   have h3 : (c.conds.map (condR t n)).flatMap (namesN n) = (c.conds.flatMap (namesN n)).map t := by
    rw [List.flatMap_map, List.map_flatMap]
    exact fm_congr fun x hx => cond_names n x (fun y hy => h y (by simp only [List.mem_append, List.mem_flatMap]; exact .inr (.inr (.inr ⟨x, hx, hy⟩))))
   show oneN (oneR t c.id) ++ (varsT (c.attr.map (testR t)) ++ (varsT (c.value.map (testR t)) ++ (c.conds.map (condR t n)).flatMap (namesN n))) = _
   rw [one_names (fun y hy => h y (by simp [hy])), tests_names (fun y hy => h y (by simp [hy])), tests_names (fun y hy => h y (by simp [hy])), h3, e, List.map_append, List.map_append, List.map_append]
theorem cond_again : ∀ (n : Nat) (c : CondT), (∀ x ∈ namesN n c, t' (t x) = t x ∧ ¬ (t x).toList = []) → condR t' n (condR t n c) = condR t n c
 | 0, _, _ => rfl
 | n + 1, c, h => by
   have e : namesN (n + 1) c = oneN c.id ++ (varsT c.attr ++ (varsT c.value ++ c.conds.flatMap (namesN n))) := rfl
   rw [e] at h
   have h3 : (c.conds.map (condR t n)).map (condR t' n) = c.conds.map (condR t n) := by
    rw [List.map_map]
    exact List.map_congr_left fun x hx => cond_again n x (fun y hy => h y (by simp only [List.mem_append, List.mem_flatMap]; exact .inr (.inr (.inr ⟨x, hx, hy⟩))))
   show CondT.mk c.kind c.goal (oneR t' (oneR t c.id)) ((c.attr.map (testR t)).map (testR t')) ((c.value.map (testR t)).map (testR t')) c.acc ((c.conds.map (condR t n)).map (condR t' n)) = _
   rw [one_again (fun y hy => h y (by simp [hy])), tests_again (fun y hy => h y (by simp [hy])), tests_again (fun y hy => h y (by simp [hy])), h3]
   rfl
theorem vars5 (a : ActT) : varsA a = oneN a.id ++ (oneN a.attr.var ++ (oneN a.value.a.var ++ (oneN a.value.b.var ++ oneN a.other.var))) := by
 simp [varsA, fives]
theorem act_names (a : ActT) (h : ∀ x ∈ varsA a, ¬ (t x).toList = []) : varsA (actR t a) = (varsA a).map t := by
 rw [vars5] at h
 rw [vars5, vars5]
 show oneN (oneR t a.id) ++ (oneN (oneR t a.attr.var) ++ (oneN (oneR t a.value.a.var) ++ (oneN (oneR t a.value.b.var) ++ oneN (oneR t a.other.var)))) = _
 rw [one_names (fun y hy => h y (by simp [hy])), one_names (fun y hy => h y (by simp [hy])), one_names (fun y hy => h y (by simp [hy])), one_names (fun y hy => h y (by simp [hy])), one_names (fun y hy => h y (by simp [hy]))]
 simp only [List.map_append]
theorem act_again (a : ActT) (h : ∀ x ∈ varsA a, t' (t x) = t x ∧ ¬ (t x).toList = []) : actR t' (actR t a) = actR t a := by
 rw [vars5] at h
 show ActT.mk (oneR t' (oneR t a.id)) ⟨oneR t' (oneR t a.attr.var), a.attr.sym⟩ ⟨a.value.op, ⟨oneR t' (oneR t a.value.a.var), a.value.a.sym⟩, ⟨oneR t' (oneR t a.value.b.var), a.value.b.sym⟩⟩ a.pref ⟨oneR t' (oneR t a.other.var), a.other.sym⟩ = _
 rw [one_again (fun y hy => h y (by simp [hy])), one_again (fun y hy => h y (by simp [hy])), one_again (fun y hy => h y (by simp [hy])), one_again (fun y hy => h y (by simp [hy])), one_again (fun y hy => h y (by simp [hy]))]
 rfl
end
theorem mem_varsC {n : Nat} {p : ProdT} {c : CondT} (hc : c ∈ p.conds) {x : ByteArray} (hx : x ∈ namesN n c) : x ∈ varsP n p := List.mem_append.2 (.inl (List.mem_flatMap.2 ⟨c, hc, hx⟩))
theorem mem_varsA {n : Nat} {p : ProdT} {a : ActT} (ha : a ∈ p.acts) {x : ByteArray} (hx : x ∈ varsA a) : x ∈ varsP n p := List.mem_append.2 (.inr (List.mem_flatMap.2 ⟨a, ha, hx⟩))
theorem plain_vars (n : Nat) (p : ProdT) : varsP n (plainP n p) = (varsP n p).map (numT (uq (varsP n p))) := by
 have h : ∀ x ∈ varsP n p, ¬ (numT (uq (varsP n p)) x).toList = [] := fun x hx => numT_no (uq_mem.2 hx)
 generalize ht : numT (uq (varsP n p)) = t at h
 show ((plainP n p).conds.flatMap (namesN n)) ++ ((plainP n p).acts.flatMap varsA) = ((p.conds.flatMap (namesN n)) ++ (p.acts.flatMap varsA)).map t
 unfold plainP
 rw [ht]
 simp only
 rw [List.flatMap_map, List.flatMap_map, List.map_append, List.map_flatMap, List.map_flatMap]
 congr 1
 · exact fm_congr fun c hc => cond_names n c (fun y hy => h y (mem_varsC hc hy))
 · exact fm_congr fun a ha => act_names a (fun y hy => h y (mem_varsA ha hy))
theorem plain_again (n : Nat) (p : ProdT) : plainP n (plainP n p) = plainP n p := by
 obtain ⟨us, hus⟩ : ∃ us, us = uq (varsP n p) := ⟨_, rfl⟩
 have hu : uq (varsP n (plainP n p)) = us.map (numT us) := by
  rw [plain_vars, hus]
  exact uq_map (fun a b ha hb e => numT_inj (uq_mem.2 ha) (uq_mem.2 hb) e)
 have h : ∀ x ∈ varsP n p, numT (us.map (numT us)) (numT us x) = numT us x ∧ ¬ (numT us x).toList = [] := fun x hx => by
  have hx2 : x ∈ us := by rw [hus]; exact uq_mem.2 hx
  exact ⟨numT_fix (by rw [hus]; exact uq_nodup _) hx2, numT_no hx2⟩
 have e : plainP n p = ⟨⟨#[120]⟩, p.conds.map (condR (numT us) n), p.acts.map (actR (numT us))⟩ := by rw [plainP, ← hus]
 rw [plainP, hu, e]
 simp only
 rw [List.map_map, List.map_map]
 congr 1
 · exact List.map_congr_left fun c hc => cond_again n c (fun y hy => h y (mem_varsC hc hy))
 · exact List.map_congr_left fun a ha => act_again a (fun y hy => h y (mem_varsA ha hy))
theorem smt_R (t : ByteArray → ByteArray) {l : List TestT} (h : SmT l) : SmT (l.map (testR t)) := by
 refine ⟨by rw [List.length_map]; exact h.1, fun x hx => ?_⟩
 obtain ⟨y, hy, rfl⟩ := List.mem_map.1 hx
 exact h.2 y hy
theorem smc_R (t : ByteArray → ByteArray) : ∀ (n : Nat) (c : CondT), SmC n c → SmC n (condR t n c)
 | 0, _, _ => trivial
 | n + 1, c, ⟨h1, h2, h3, h4⟩ => ⟨smt_R t h1, smt_R t h2, by show (c.conds.map (condR t n)).length ≤ 1000; rw [List.length_map]; exact h3, fun x hx => by
     obtain ⟨y, hy, rfl⟩ := List.mem_map.1 (show x ∈ c.conds.map (condR t n) from hx)
     exact smc_R t n y (h4 y hy)⟩
end Go.Proofs.Ytffemfglngikbaa
namespace Go.Proofs.Ytffemfglngikbaa
open Go.RowKit Go.Shelf
set_option maxRecDepth 100000 in
set_option maxHeartbeats 16000000 in
theorem again_walk (n : Nat) (p : ProdT) (A1 : Option Addr) (c1 : Nat) (A2 : Option Addr) (c2 : Nat) (w : World) (h1 : RowR (repCondT n) (· < w.heap.size) w A1 c1 p.conds) (h2 : RowR repActT (· < w.heap.size) w A2 c2 p.acts) :
 Calls Try.prog 5 #[.agg #[.string p.name, .slice A1 p.conds.length c1, .slice A2 p.acts.length c2]] w fun e w' => e = .returned (.bool true) ∧ Below w.heap.size w w' := by
 have H1 := Lib.hid h1
 have H2 := Lib.hid h2
 clear h1 h2
 go_enter Try.func5, Try.ntmps5
 go_upto_region 1 with fail
 obtain ⟨w1, hw1⟩ : ∃ w1, w1 = (w.alloc (.cells #[.string p.name, .slice A1 p.conds.length c1, .slice A2 p.acts.length c2] 25)) := ⟨_, rfl⟩
 rw [← hw1]
 have HB := Lib.hid (show Below w.heap.size w w1 by rw [hw1]; exact (by repeat (first | exact Below.refl _ _ | refine Below.drew ?_ | refine Below.al ?_ _ | refine Below.sc ?_ _)))
 have Ka := Lib.hid (show Blk w1 (w.heap.size) 25 #[.string p.name, .slice A1 p.conds.length c1, .slice A2 p.acts.length c2] by rw [hw1]; exact (Blk.new w 25 #[.string p.name, .slice A1 p.conds.length c1, .slice A2 p.acts.length c2]))
 clear hw1
 obtain ⟨a0, a1, a2⟩ := Ka.out.c3
 have az := Ka.out.lt
 go_wp2_with fail
 with_reducible refine (heavy_is n p A1 A2 c1 c2 _ (H1.out.new_ (by (repeat (first | exact Below.refl _ _ | exact HB.out | refine Below.drew ?_ | refine Below.al ?_ _ | refine Below.sc ?_ _)))) (H2.out.new_ (by (repeat (first | exact Below.refl _ _ | exact HB.out | refine Below.drew ?_ | refine Below.al ?_ _ | refine Below.sc ?_ _))))).mono ?_
 rintro e w2 ⟨rfl, hb⟩
 have hbs := Below.trans (show Below w1.heap.size w1 _ from (by (repeat (first | exact Below.refl _ _ | refine Below.drew ?_ | refine Below.al ?_ _ | refine Below.sc ?_ _)))) (hb.mono (by simp <;> omega))
 have Ka := Lib.hid (Ka.out.new_ hbs)
 have HB := Lib.hid (HB.out.trans (hbs.mono HB.out.size))
 have hsz2 := hbs.size
 clear a0 a1 a2 az hb hbs
 obtain ⟨a0, a1, a2⟩ := Ka.out.c3
 have az := Ka.out.lt
 obtain ⟨bh, hbh⟩ : ∃ b, b = heavyP n p := ⟨_, rfl⟩
 rw [← hbh]
 have HBH := Lib.hid hbh
 clear hbh
 cases bh
 · skip
   have HNH := Lib.hid HBH.out.symm
   have HR1 := Lib.hid (fit_of HNH.out H1.out).1
   have HF := Lib.hid (fit_of HNH.out H1.out).2
   obtain ⟨q, hq⟩ : ∃ q, q = plainP 20 p := ⟨_, rfl⟩
   have HQN := Lib.hid (show q.name = ⟨#[120]⟩ by rw [hq]; rfl)
   have HQQ := Lib.hid (show plainP 20 q = q by rw [hq]; exact plain_again 20 p)
   have HQC := Lib.hid (show q.conds.length ≤ 1000 by rw [hq]; show (p.conds.map _).length ≤ 1000; rw [List.length_map]; exact HF.out.c)
   have HQA := Lib.hid (show q.acts.length ≤ 1000 by rw [hq]; show (p.acts.map _).length ≤ 1000; rw [List.length_map]; exact HF.out.a)
   have HQS := Lib.hid (show ∀ x ∈ q.conds, SmC 20 x by
    rw [hq]
    intro x hx
    obtain ⟨y, hy, rfl⟩ := List.mem_map.1 (show x ∈ p.conds.map _ from hx)
    exact smc_R _ 20 y (HF.out.s y hy))
   have HQV := Lib.hid (show (varsP 20 q).length ≤ 100000 by rw [hq, plain_vars, List.length_map]; exact HF.out.v)
   have HPL := Lib.hid (show ∀ W, Below w.heap.size w W → Calls Try.prog 21 #[.agg #[.string p.name, .slice A1 p.conds.length c1, .slice A2 p.acts.length c2]] W (FreshP 20 q W) from fun W hW => by
    rw [hq]
    exact cplain_is 20 p A1 c1 A2 c2 W (fun k hk => Nat.lt_of_lt_of_le hk hW.size) (HR1.out.new_ hW) (H2.out.new_ hW) HF.out.c HF.out.a HF.out.s HF.out.v)
   clear hq HR1 HF HNH HBH
   go_wp2_with fail
   with_reducible refine (HPL.out _ (by (repeat (first | exact Below.refl _ _ | exact HB.out | refine Below.drew ?_ | refine Below.al ?_ _ | refine Below.sc ?_ _)))).mono ?_
   rintro e w3 ⟨E1, d1, E2, d2, rfl, g1, g2, hb⟩
   have hbs := Below.trans (show Below w2.heap.size w2 _ from (by (repeat (first | exact Below.refl _ _ | refine Below.drew ?_ | refine Below.al ?_ _ | refine Below.sc ?_ _)))) (hb.mono (by simp <;> omega))
   have Ka := Lib.hid (Ka.out.new_ hbs)
   have HB := Lib.hid (HB.out.trans (hbs.mono HB.out.size))
   have hsz3 := hbs.size
   clear a0 a1 a2 az hb hbs
   obtain ⟨a0, a1, a2⟩ := Ka.out.c3
   have az := Ka.out.lt
   have HG1 := Lib.hid g1
   have HG2 := Lib.hid g2
   clear g1 g2
   go_upto_region 4 with fail
   obtain ⟨V0, hV0⟩ : ∃ V, V = w3.alloc (.cells #[.string q.name, .slice E1 q.conds.length d1, .slice E2 q.acts.length d2] 25) := ⟨_, rfl⟩
   rw [← hV0]
   have hbv : Below w3.heap.size w3 V0 := by rw [hV0]; exact (Below.refl _ _).alloc (Nat.le_refl _) _
   have hkb : Blk V0 w3.heap.size 25 #[.string q.name, .slice E1 q.conds.length d1, .slice E2 q.acts.length d2] := by rw [hV0]; exact Blk.new _ _ _
   obtain ⟨q0, q1, q2⟩ := hkb.c3
   have qz := hkb.lt
   have HB := Lib.hid (HB.out.trans (hbv.mono HB.out.size))
   have HZV := Lib.hid hbv.size
   have HG1 := Lib.hid (HG1.out.new_ hbv)
   have HG2 := Lib.hid (HG2.out.new_ hbv)
   clear hkb hV0 hbv
   have HP2 := Lib.hid (show ∀ W, Below V0.heap.size V0 W → Calls Try.prog 21 #[.agg #[.string q.name, .slice E1 q.conds.length d1, .slice E2 q.acts.length d2]] W (FreshP 20 q W) from fun W hW => by
    have := cplain_is 20 q E1 d1 E2 d2 W (fun k hk => Nat.lt_of_lt_of_le hk.2 (Nat.le_trans HZV.out hW.size)) (HG1.out.new_ hW) (HG2.out.new_ hW) HQC.out HQA.out HQS.out HQV.out
    rw [HQQ.out] at this
    exact this)
   have HPS := Lib.hid (show ∀ (W : World) (G1 : Option Addr) (x1 : Nat) (G2 : Option Addr) (x2 : Nat) (D : Nat → Prop), Below V0.heap.size V0 W → RowR (repCondT 20) D W G1 x1 q.conds → RowR repActT D W G2 x2 q.acts → Calls Try.prog 18 #[.agg #[.string q.name, .slice G1 q.conds.length x1, .slice G2 q.acts.length x2], .agg #[.string q.name, .slice E1 q.conds.length d1, .slice E2 q.acts.length d2]] W fun e w' => e = .returned (.bool true) ∧ Below W.heap.size W w' from fun W G1 x1 G2 x2 D hW k1 k2 =>
    prod_same 20 q G1 x1 G2 x2 E1 d1 E2 d2 W k1 k2 (HG1.out.new_ hW) (HG2.out.new_ hW))
   have hqn : q.name.toList = [120] := by rw [HQN.out]; kernel_rfl
   have hqn2 : (q.name.toList == [120]) = true := by rw [hqn]; rfl
   refine wp_region_E (fun w9 => Below V0.heap.size V0 w9) [(0, 1), (2, 1), (1, 2), (3, 2), (4, 0), (5, 0), (6, 1), (7, 0), (8, 0), (9, 0), (10, 2), (11, 0), (12, 0)] (by kernel_rfl) (by kernel_rfl) (fun KK hKK => ?_)
   simp only [beside, List.filterMap_cons, List.filterMap_nil, List.getElem?_toArray, List.getElem?_cons_zero, List.getElem?_cons_succ, Option.map_some]
   repeat ((first | (refine wpX_w ?_ (Or.inl ⟨by rfl, fun w9 => ?_⟩) ?_; rotate_left 1; go_simp; with_reducible rfl) | (refine wpX_l ?_ (((Below.refl _ _).drew)) (Or.inl ⟨by rfl, fun w9 hw9 => ?_⟩) ?_; rotate_left 1; obtain ⟨hc9, hf9⟩ := bcell hw9; go_simp; with_reducible rfl) | refine wpX_w undef (Or.inr ⟨by rfl, rfl⟩) ?_ | refine wpX_l undef (((Below.refl _ _).drew)) (Or.inr ⟨by rfl, rfl⟩) ?_); go_frame)
   refine wpX_es (fun K9 hK9 => ?_)
   go_simp
   refine (HP2.out _ ((Below.refl _ _).drew)).mono ?_
   rintro e w31 ⟨G1, x1, G2, x2, rfl, k1, k2, hb31⟩
   have HB31 := Lib.hid ((Below.refl V0.heap.size V0).drew.trans (hb31.mono (by simp)))
   have HK1 := Lib.hid k1
   have HK2 := Lib.hid k2
   clear k1 k2
   clear hb31
   refine hK9 _ _ HB31.out ?_
   clear hK9 K9
   refine wpX_es (fun K9 hK9 => ?_)
   go_simp
   refine (HPS.out _ G1 x1 G2 x2 _ HB31.out HK1.out HK2.out).mono ?_
   rintro e w32 ⟨rfl, hb32⟩
   have HB32 := Lib.hid (HB31.out.trans (hb32.mono HB31.out.size))
   clear hb32
   refine hK9 _ _ HB32.out ?_
   clear hK9 K9
   repeat ((first | (refine wpX_w ?_ (Or.inl ⟨by rfl, fun w9 => ?_⟩) ?_; rotate_left 1; go_simp; with_reducible rfl) | (refine wpX_l ?_ (HB32.out) (Or.inl ⟨by rfl, fun w9 hw9 => ?_⟩) ?_; rotate_left 1; obtain ⟨hc9, hf9⟩ := bcell hw9; go_simp; with_reducible rfl) | refine wpX_w undef (Or.inr ⟨by rfl, rfl⟩) ?_ | refine wpX_l undef (HB32.out) (Or.inr ⟨by rfl, rfl⟩) ?_); go_frame)
   refine wpX_e (by kernel_rfl) (fun K9 hK9 => ?_)
   go_simp
   refine (wakes23_is _).mono ?_
   rintro e w33 ⟨rfl, hb33⟩
   have HB33 := Lib.hid (HB32.out.trans (hb33.mono HB32.out.size))
   clear hb33
   refine hK9 _ _ ?_
   clear hK9 K9
   repeat ((first | (refine wpX_w ?_ (Or.inl ⟨by rfl, fun w9 => ?_⟩) ?_; rotate_left 1; go_simp; with_reducible rfl) | (refine wpX_l ?_ (HB33.out) (Or.inl ⟨by rfl, fun w9 hw9 => ?_⟩) ?_; rotate_left 1; obtain ⟨hc9, hf9⟩ := bcell hw9; go_simp; with_reducible rfl) | refine wpX_w undef (Or.inr ⟨by rfl, rfl⟩) ?_ | refine wpX_l undef (HB33.out) (Or.inr ⟨by rfl, rfl⟩) ?_); go_frame)
   refine wpX_nil ?_
   simp only [OnlyN_normal]
   refine hKK _ _ ?_
   clear hKK KK
   go_wp2_with fail
   go_ret
   exact ⟨rfl, HB.out.trans (HB33.out.mono HB.out.size)⟩
 · skip
   go_wp2_with fail
   with_reducible refine (wakes23_is _).mono ?_
   rintro e w3 ⟨rfl, hb⟩
   have hbs := Below.trans (show Below w2.heap.size w2 _ from (by (repeat (first | exact Below.refl _ _ | refine Below.drew ?_ | refine Below.al ?_ _ | refine Below.sc ?_ _)))) (hb.mono (by simp <;> omega))
   have Ka := Lib.hid (Ka.out.new_ hbs)
   have HB := Lib.hid (HB.out.trans (hbs.mono HB.out.size))
   have hsz3 := hbs.size
   clear a0 a1 a2 az hb hbs
   obtain ⟨a0, a1, a2⟩ := Ka.out.c3
   have az := Ka.out.lt
   go_wp2_with fail
   go_ret
   exact ⟨rfl, by (repeat (first | exact Below.refl _ _ | exact HB.out | refine Below.drew ?_ | refine Below.al ?_ _ | refine Below.sc ?_ _))⟩
end Go.Proofs.Ytffemfglngikbaa
namespace Go.Proofs.Ytffemfglngikbaa
open Go.RowKit Go.ChangeShapes Go.WideShapes Go.Deep
set_option maxRecDepth 100000 in
theorem open_ProdT {H : Type} {enc : TypeId × Value → H} {w : World} {r : Reach} {b0 base : Nat} {spare : Nat → Bool} {held : Bool} {v : Value} {d : DataW H} {ps : List MemPlace}
 (hval : Value.okWide Try.prog w r b0 25 v) (h : DataW.Trod enc Try.prog w base spare held 25 v d ps) : ∃ (n : Nat) (x : ProdT) (A1 : Option Addr) (c1 : Nat) (A2 : Option Addr) (c2 : Nat), v = .agg #[.string x.name, .slice A1 x.conds.length c1, .slice A2 x.acts.length c2] ∧
   RowR (repCondT n) (· < w.heap.size) w A1 c1 x.conds ∧ RowR repActT (· < w.heap.size) w A2 c2 x.acts := by
 obtain ⟨cs, rfl, _⟩ := okWide_struct Try.underlying25 hval
 obtain ⟨fuel, hf⟩ := h
 obtain ⟨x, A1, c1, A2, c2, hx, h1, h2⟩ := openN_ProdT enc w base spare held fuel _ _ hf
 refine ⟨fuel, x, A1, c1, A2, c2, ?_, h1, h2⟩
 simp only [Value.cells] at hx
 have : cs = #[.string x.name, .slice A1 x.conds.length c1, .slice A2 x.acts.length c2] := by rw [← Array.toList_inj]; simpa using hx
 rw [this]
end Go.Proofs.Ytffemfglngikbaa
namespace Go.Proofs.Ytffemfglngikbaa
open Go.RowKit Go.Shelf
attribute [local go_sem] Oper.semAt_some
def strC (s : ByteArray) : List Value := [.string s]
theorem strC_len (s : ByteArray) : (strC s).length = 1 := rfl
theorem str_one (l : List ByteArray) : ∀ u ∈ l.flatMap strC, u.oneCell' = true := by
 intro u hu
 obtain ⟨s, _, h⟩ := List.mem_flatMap.1 hu
 simp only [strC, List.mem_cons, List.not_mem_nil, or_false] at h
 subst h; rfl
theorem info_Str : (Try.prog.info? 9).map (fun i => (i.zero, i.size, i.bytes)) = some (some (.string ⟨#[]⟩), 1, 16) := by kernel_rfl
def StrsTo (W : World) (xs : List ByteArray) (e : Ending) (W' : World) : Prop :=
 ∃ A c, e = .returned (.slice A xs.length c) ∧ W'.ownsRow 0 9 1 (.slice A xs.length c) xs.length (xs.flatMap strC) ∧ AIn A (W.heap.size ≤ ·) ∧ Below W.heap.size W W'
def ColI (w : World) (ob : Nat) (D : Nat → Prop) (pre : List ByteArray) (X : World) : Prop :=
 ∃ A c, Own D X ob 28 #[.slice A pre.length c] ∧ OwnRD D X 9 1 pre.length A c (pre.flatMap strC) ∧ AIn A (w.heap.size ≤ ·) ∧ Below w.heap.size w X ∧ (∀ k, D k → k < X.heap.size)
theorem ColI.step {w : World} {ob B : Nat} {D : Nat → Prop} {pre : List ByteArray} {X Y : World} (h : ColI w ob D pre X) (hB : w.heap.size ≤ B) (hF : Fr (FromB B D) X Y) : ColI w ob (Plus D X Y) pre Y := by
 obtain ⟨A, c, h1, h2, h3, h4, h5⟩ := h
 exact ⟨A, c, h1.step hF, h2.step hF, h3, h4.trans (hF.below h4.size (fun k hk hn => by have := hn.2; omega)), fun k hk => hk.elim (fun hk => Nat.lt_of_lt_of_le (h5 k hk) hF.size) (·.2)⟩
set_option maxRecDepth 100000 in
set_option maxHeartbeats 4000000 in
theorem listO_is {D : Nat → Prop} (gf : Nat) (lb : Array Value) (xs : List ByteArray) (w : World) (hD : ∀ k, D k → k < w.heap.size) (hit : ∀ W, Below w.heap.size w W → IterO Try.prog gf lb encStr xs W D)
 (hent : ∀ args w, (callFunc gf args).run Try.prog w = .ok (.enter gf args) w) (hlen : xs.length ≤ 1000000) :
 Calls Try.prog 14 #[.func (.func gf) #[] lb] w (StrsTo w xs) := by
 obtain ⟨i0, hi0, hz0, hz1, hz2⟩ := info_parts info_Str
 have hbe : ∀ W, (binOp .eql 32 (.func (.func gf) #[] lb) .nilFunc).run Try.prog W = .ok (.bool false) W := fun W => by kernel_rfl
 have HD := Lib.hid hD
 have HIT := Lib.hid hit
 have HENT := Lib.hid hent
 clear hD hit hent
 refine (callsIn_wide (n := 0)).1 ?_
 refine callsIn_of_wp_marks Try.func14 rfl trivial ?_
 refine wpIn_wide.2 ?_
 simp only [Try.ntmps14, List.size_toArray, List.length_cons, List.length_nil, Nat.reduceAdd, Nat.reduceSub, Array.replicate_succ, Array.replicate_zero, List.push_toArray, List.append_toArray, List.nil_append, List.cons_append]
 go_upto_region 2 with fail
 obtain ⟨w1, hw1⟩ : ∃ w1, w1 = (w.alloc (.cells #[.slice none 0 0] 28)) := ⟨_, rfl⟩
 rw [← hw1]
 have HB := Lib.hid (show Below w.heap.size w w1 by rw [hw1]; exact (by repeat (first | exact Below.refl _ _ | refine Below.drew ?_ | refine Below.al ?_ _ | refine Below.sc ?_ _)))
 have Ko := Lib.hid (show Blk w1 (w.heap.size) 28 #[.slice none 0 0] by rw [hw1]; exact (Blk.new w 28 #[.slice none 0 0]))
 clear hw1
 have o0 := Ko.out.c1
 have of0 := Ko.out.frozen 0
 have oz := Ko.out.lt
 go_wp2_with fail
 obtain ⟨I, hI⟩ : ∃ I : (Nat → Prop) → List ByteArray → World → Prop, I = fun D' pre X => ColI w (w.heap.size) D' pre X := ⟨_, rfl⟩
 obtain ⟨Ix, hIx⟩ : ∃ Ix : Code → (Nat → Prop) → List ByteArray → World → Prop, Ix = fun cd D' pre X => False := ⟨_, rfl⟩
 have hzs := HB.out.size
 have hst : Steady w1.heap.size I := by
  subst hI
  intro D' pre X Y h hF
  exact h.step HB.out.size hF
 have hstx : ∀ cd, Steady w1.heap.size (Ix cd) := by
  subst hIx
  intro cd D' pre X Y h hF
  exact h.elim
 have HST := Lib.hid hst
 have HZ1 := Lib.hid hzs
 refine (wpIn_wide (n := 0)).1 ?_
 refine wpIn_rangeO (w := w1) (by rfl) HENT.out (fun k hk => Nat.lt_of_lt_of_le (HD.out k hk) HZ1.out) (fun W hW => HIT.out W (HB.out.trans (hW.mono HZ1.out))) (fun x => by rfl) I Ix hst hstx ?_ ?_ ?_ ?_
 · subst hI
   exact ⟨none, 0, ⟨Ko.out, (fun hd => by have := HD.out _ hd; omega)⟩, ⟨owns_nilC _ _ _, AIn.none_ _⟩, AIn.none_ _, HB.out, fun k hk => Nat.lt_of_lt_of_le (HD.out k hk) HZ1.out⟩
 · intro D' lo pre x post X hx hlo hDl hIX
   have hpl : pre.length + 1 ≤ 1000000 := by
    have := congrArg List.length hx
    simp at this
    omega
   simp only [encStr, Array.zip]
   gi_wp2_with fail
   refine ⟨Fr.refl _ _, fun X2 hF2 hz2 _ => ?_⟩
   have hI2 := hst.same hIX (hF2.mono (fun k _ e => by rw [e]; exact ⟨hDl, hlo⟩)) hz2
   have HI := Lib.hid hI
   have HIX := Lib.hid hIx
   rw [hI] at hI2
   clear hI hIx hst hstx hIX hF2 hz2 HST hx
   obtain ⟨A, c, hbo, hro, hao, hbl, hdl⟩ := hI2
   have b0 := (hbo.1.cell 0).trans rfl
   have bf := hbo.1.frozen 0
   have bz := hbo.1.lt
   obtain ⟨X9, hX9⟩ : ∃ X9, X9 = X2.alloc (.cells #[.string x] 9) := ⟨_, rfl⟩
   have hb9 : Below X2.heap.size X2 X9 := by rw [hX9]; exact (Below.refl _ _).alloc (Nat.le_refl _) _
   have HX9 := Lib.hid hX9
   have HB9 := Lib.hid hb9
   have HO9 := Lib.hid (ownsRow_new hro.1 hb9)
   have HN9 := Lib.hid (show ∀ (j : Nat) (u : Value), (strC x)[j]? = some u → X9.cell? ((⟨X2.heap.size, 0, none⟩ : Addr).add j) = some u by rw [hX9]; exact news_alloc rfl)
   have HBO := Lib.hid hbo
   have HRO := Lib.hid hro
   have HAO := Lib.hid hao
   have HBL := Lib.hid hbl
   have HDL := Lib.hid hdl
   have KBB := Lib.hid (hbo.1.new_ hb9)
   clear hX9 hb9 hbo hro hao hbl hdl
   gi_wp2_with (gi_at_builtin; rw [← HX9.out]; refine wpListIn_app X9 rfl (.tmp 9) (.tmp 11) 28 rfl 9 i0 _ 1 16 Try.underlying28 hi0 hz0 hz1 hz2 rfl (by decide) _ pre.length _ rfl HO9.out _ 1 1 (strC x) rfl rfl (fun _ => ⟨_, rfl, HN9.out⟩) (by intro u hu; simp only [strC, List.mem_cons, List.not_mem_nil, or_false] at hu; subst hu; rfl) (by unfold maxLen; omega) (by omega) ?_; intro v' w6 hown hg hnil hat; obtain ⟨A3, c3, rfl, hF3, hA3, hO3⟩ := grown_own (E := fun k => ∃ a, A = some a ∧ a.block = k) (fun a ha => ⟨a, ha, rfl⟩) hown hg hat; have HF3 := Lib.hid hF3; have HA3 := Lib.hid hA3; have HO3 := Lib.hid hO3; have hkb6 := KBB.out.grown hg (own_blk_ne HO9.out KBB.out (by decide)); have b0 := (hkb6.cell 0).trans rfl; have bf := hkb6.frozen 0; have bz := hkb6.lt; have KBB6 := Lib.hid hkb6; clear hkb6 hown hg hnil hat hF3 hA3 hO3)
   have hF7 : Fr (fun k => (∃ a, A = some a ∧ a.block = k) ∨ k = w.heap.size) X2 (w6.setCell ⟨w.heap.size, 0, none⟩ (.slice A3 (pre.length + 1) c3)) :=
    ((Fr.of_new HB9.out).trans (HF3.out.mono (fun k _ hk => .inl hk))).setCell (p := ⟨w.heap.size, 0, none⟩) (.inl (.inr rfl)) _
   have hnD : ∀ k, ((∃ a, A = some a ∧ a.block = k) ∨ k = w.heap.size) → ¬ D' k := by
    rintro k (⟨a, ha, rfl⟩ | rfl)
    · exact HRO.out.2 a ha
    · exact HBO.out.2
   have hz9' := HB9.out.size
   have hlow : w.heap.size ≤ X2.heap.size := HBL.out.size
   have hAn : ∀ a, A3 = some a → ((∃ b, A = some b ∧ b.block = a.block) ∨ X2.heap.size < a.block) := fun a ha => by
    rcases HA3.out a ha with h | h
    · exact .inl h
    · refine .inr ?_
      have : X9.heap.size = X2.heap.size + 1 := by rw [HX9.out]; simp
      omega
   have hcol : ColI w (w.heap.size) D' (pre ++ [x]) (w6.setCell ⟨w.heap.size, 0, none⟩ (.slice A3 (pre.length + 1) c3)) := by
    have e1 : (pre ++ [x]).length = pre.length + 1 := by simp
    refine ⟨A3, c3, ⟨?_, HBO.out.2⟩, ⟨?_, fun a ha hd => ?_⟩, fun a ha => ?_, HBL.out.trans (hF7.below hlow (fun k hk hn => ?_)), fun k hk => Nat.lt_of_lt_of_le (HDL.out k hk) hF7.size⟩
    · rw [e1]
      simpa using KBB6.out.set_ 0 (.slice A3 (pre.length + 1) c3)
    · rw [e1, List.flatMap_append]
      have := ownsRow_setCell_other (a := ⟨w.heap.size, 0, none⟩) HO3.out (own_blk_ne HO3.out KBB6.out (by decide)) (.slice A3 (pre.length + 1) c3)
      simpa [strC] using this
    · rcases hAn a ha with ⟨b, hb, e⟩ | h
      · exact HRO.out.2 b hb (e ▸ hd)
      · exact absurd (HDL.out _ hd) (by omega)
    · rcases hAn a ha with ⟨b, hb, e⟩ | h
      · have := HAO.out b hb
        show w.heap.size ≤ a.block
        omega
      · show w.heap.size ≤ a.block
        omega
    · rcases hn with ⟨a, ha, rfl⟩ | rfl
      · have := HAO.out a ha
        omega
      · omega
   refine ⟨hF7.mono (fun k _ hk => hnD k hk), ?_⟩
   rw [HI.out]
   exact hcol
 · intro D' d X hd hDd hIX hK
   rw [hI] at hIX
   obtain ⟨A, c, hbo, hro, hao, hbl, hdl⟩ := hIX
   have b0 := (hbo.1.cell 0).trans rfl
   have bz := hbo.1.lt
   have HRO := Lib.hid hro
   have HAO := Lib.hid hao
   have HBL := Lib.hid hbl
   have HK := Lib.hid hK
   have HBO := Lib.hid hbo
   clear hI hIx hst hstx HST hbo hro hao hbl hdl hK
   go_wp2_with fail
   refine ⟨by simp, .inl ⟨_, _, rfl, run_takeDeferred HK.out, ?_⟩⟩
   have hput : Fr (· = d) X (X.putObj d (.deferred none)) := (Fr.refl (· = d) X).putObj (.inl rfl) _
   refine ⟨_, results_tmp rfl _ _ _, ?_⟩
   exact ⟨A, c, rfl, ownsRow_fr HRO.out.1 hput (fun g hg e => by
    rcases A with _ | a
    · simp [Value.ownBlock] at hg
    · have e2 : a.block = g := by simpa [Value.ownBlock] using hg
      exact HRO.out.2 a rfl (by rw [e2, e]; exact hDd)), HAO.out, HBL.out.trans (hput.below HBL.out.size (fun k hk hn => by have := HZ1.out; omega))⟩
 · intro D' d cd pre post X hd hDd hx hIX hK
   rw [hIx] at hIX
   exact hIX.elim
set_option maxRecDepth 100000 in
set_option maxHeartbeats 4000000 in
theorem firstO_is {D : Nat → Prop} (gf : Nat) (lb : Array Value) (xs : List ByteArray) (w : World) (n : Int) (hD : ∀ k, D k → k < w.heap.size) (hit : ∀ W, Below w.heap.size w W → IterO Try.prog gf lb encStr xs W D)
 (hent : ∀ args w, (callFunc gf args).run Try.prog w = .ok (.enter gf args) w) (hlen : xs.length ≤ 1000000) :
 Calls Try.prog 13 #[.func (.func gf) #[] lb, .int .i64 n] w (StrsTo w (xs.take n.toNat)) := by
 obtain ⟨i0, hi0, hz0, hz1, hz2⟩ := info_parts info_Str
 have hbe : ∀ W, (binOp .eql 32 (.func (.func gf) #[] lb) .nilFunc).run Try.prog W = .ok (.bool false) W := fun W => by kernel_rfl
 have HD := Lib.hid hD
 have HIT := Lib.hid hit
 have HENT := Lib.hid hent
 clear hD hit hent
 by_cases h1 : n < 1
 · have t1 : decide (n < 1) = true := by simp; omega
   have HT := Lib.hid (show xs.take n.toNat = [] by rw [show n.toNat = 0 by omega, List.take_zero])
   clear h1
   refine (callsIn_wide (n := 0)).1 ?_
   refine callsIn_of_wp_marks Try.func13 rfl trivial ?_
   refine wpIn_wide.2 ?_
   simp only [Try.ntmps13, List.size_toArray, List.length_cons, List.length_nil, Nat.reduceAdd, Nat.reduceSub, Array.replicate_succ, Array.replicate_zero, List.push_toArray, List.append_toArray, List.nil_append, List.cons_append]
   go_upto_region 2 with fail
   obtain ⟨w1, hw1⟩ : ∃ w1, w1 = ((w.alloc (.cells #[.int .i64 n] 3)).alloc (.cells #[.slice none 0 0] 28)) := ⟨_, rfl⟩
   rw [← hw1]
   have HB := Lib.hid (show Below w.heap.size w w1 by rw [hw1]; exact (by repeat (first | exact Below.refl _ _ | refine Below.drew ?_ | refine Below.al ?_ _ | refine Below.sc ?_ _)))
   have Kn := Lib.hid (show Blk w1 (w.heap.size) 3 #[.int .i64 n] by rw [hw1]; exact ((Blk.new w 3 #[.int .i64 n]).alloc (.cells #[.slice none 0 0] 28)))
   have Ko := Lib.hid (show Blk w1 (w.heap.size + 1) 28 #[.slice none 0 0] by rw [hw1]; have hh := (Blk.new (w.alloc (.cells #[.int .i64 n] 3)) 28 #[.slice none 0 0]); simp only [World.size_alloc] at hh; exact hh)
   clear hw1
   have n0 := Kn.out.c1
   have nz := Kn.out.lt
   have o0 := Ko.out.c1
   have of0 := Ko.out.frozen 0
   have oz := Ko.out.lt
   go_wp2_with fail
   refine ⟨_, results_tmp rfl _ _ _, ?_⟩
   rw [HT.out]
   exact ⟨none, 0, rfl, owns_nilC _ _ _, AIn.none_ _, HB.out⟩
 · have t1 : decide (n < 1) = false := by simp; omega
   obtain ⟨m, rfl⟩ : ∃ m : Nat, n = m := ⟨n.toNat, by omega⟩
   have hm : 1 ≤ m := by omega
   clear h1
   rw [Int.toNat_natCast]
   refine (callsIn_wide (n := 0)).1 ?_
   refine callsIn_of_wp_marks Try.func13 rfl trivial ?_
   refine wpIn_wide.2 ?_
   simp only [Try.ntmps13, List.size_toArray, List.length_cons, List.length_nil, Nat.reduceAdd, Nat.reduceSub, Array.replicate_succ, Array.replicate_zero, List.push_toArray, List.append_toArray, List.nil_append, List.cons_append]
   go_upto_region 2 with fail
   obtain ⟨w1, hw1⟩ : ∃ w1, w1 = ((w.alloc (.cells #[.int .i64 (m : Int)] 3)).alloc (.cells #[.slice none 0 0] 28)) := ⟨_, rfl⟩
   rw [← hw1]
   have HB := Lib.hid (show Below w.heap.size w w1 by rw [hw1]; exact (by repeat (first | exact Below.refl _ _ | refine Below.drew ?_ | refine Below.al ?_ _ | refine Below.sc ?_ _)))
   have Kn := Lib.hid (show Blk w1 (w.heap.size) 3 #[.int .i64 (m : Int)] by rw [hw1]; exact ((Blk.new w 3 #[.int .i64 (m : Int)]).alloc (.cells #[.slice none 0 0] 28)))
   have Ko := Lib.hid (show Blk w1 (w.heap.size + 1) 28 #[.slice none 0 0] by rw [hw1]; have hh := (Blk.new (w.alloc (.cells #[.int .i64 (m : Int)] 3)) 28 #[.slice none 0 0]); simp only [World.size_alloc] at hh; exact hh)
   clear hw1
   have n0 := Kn.out.c1
   have nz := Kn.out.lt
   have o0 := Ko.out.c1
   have of0 := Ko.out.frozen 0
   have oz := Ko.out.lt
   go_wp2_with fail
   obtain ⟨I, hI⟩ : ∃ I : (Nat → Prop) → List ByteArray → World → Prop, I = fun D' pre X => (ColI w (w.heap.size + 1) D' pre X) ∧ Own D' X w.heap.size 3 #[.int .i64 (m : Int)] ∧ pre.length < m := ⟨_, rfl⟩
   obtain ⟨Ix, hIx⟩ : ∃ Ix : Code → (Nat → Prop) → List ByteArray → World → Prop, Ix = fun cd D' pre X => cd = .exit 0 ∧ ColI w (w.heap.size + 1) D' pre X ∧ pre.length = m := ⟨_, rfl⟩
   have hzs := HB.out.size
   have hst : Steady w1.heap.size I := by
    subst hI
    intro D' pre X Y h hF
    exact ⟨h.1.step HB.out.size hF, h.2.1.step hF, h.2.2⟩
   have hstx : ∀ cd, Steady w1.heap.size (Ix cd) := by
    subst hIx
    intro cd D' pre X Y h hF
    exact ⟨h.1, h.2.1.step HB.out.size hF, h.2.2⟩
   have HST := Lib.hid hst
   have HZ1 := Lib.hid hzs
   refine (wpIn_wide (n := 0)).1 ?_
   refine wpIn_rangeO (w := w1) (by rfl) HENT.out (fun k hk => Nat.lt_of_lt_of_le (HD.out k hk) HZ1.out) (fun W hW => HIT.out W (HB.out.trans (hW.mono HZ1.out))) (fun x => by rfl) I Ix hst hstx ?_ ?_ ?_ ?_
   · subst hI
     exact ⟨⟨none, 0, ⟨Ko.out, (fun hd => by have := HD.out _ hd; omega)⟩, ⟨owns_nilC _ _ _, AIn.none_ _⟩, AIn.none_ _, HB.out, fun k hk => Nat.lt_of_lt_of_le (HD.out k hk) HZ1.out⟩, ⟨Kn.out, (fun hd => by have := HD.out _ hd; omega)⟩, hm⟩
   · intro D' lo pre x post X hx hlo hDl hIX
     have hpl : pre.length + 1 ≤ 1000000 := by
      have := congrArg List.length hx
      simp at this
      omega
     simp only [encStr, Array.zip]
     gi_wp2_with fail
     refine ⟨Fr.refl _ _, fun X2 hF2 hz2 _ => ?_⟩
     have hI2 := hst.same hIX (hF2.mono (fun k _ e => by rw [e]; exact ⟨hDl, hlo⟩)) hz2
     have HI := Lib.hid hI
     have HIX := Lib.hid hIx
     rw [hI] at hI2
     clear hI hIx hst hstx hIX hF2 hz2 HST hx
     obtain ⟨⟨A, c, hbo, hro, hao, hbl, hdl⟩, hbn, hpm⟩ := hI2
     have b0 := (hbo.1.cell 0).trans rfl
     have bf := hbo.1.frozen 0
     have bz := hbo.1.lt
     obtain ⟨X9, hX9⟩ : ∃ X9, X9 = X2.alloc (.cells #[.string x] 9) := ⟨_, rfl⟩
     have hb9 : Below X2.heap.size X2 X9 := by rw [hX9]; exact (Below.refl _ _).alloc (Nat.le_refl _) _
     have HX9 := Lib.hid hX9
     have HB9 := Lib.hid hb9
     have HO9 := Lib.hid (ownsRow_new hro.1 hb9)
     have HN9 := Lib.hid (show ∀ (j : Nat) (u : Value), (strC x)[j]? = some u → X9.cell? ((⟨X2.heap.size, 0, none⟩ : Addr).add j) = some u by rw [hX9]; exact news_alloc rfl)
     have HBO := Lib.hid hbo
     have HRO := Lib.hid hro
     have HAO := Lib.hid hao
     have HBL := Lib.hid hbl
     have HDL := Lib.hid hdl
     have KBB := Lib.hid (hbo.1.new_ hb9)
     clear hX9 hb9 hbo hro hao hbl hdl
     have HBN := Lib.hid hbn
     have KN9 := Lib.hid (hbn.1.new_ HB9.out)
     have hz9 := HB9.out.size
     clear hbn
     by_cases hd : m ≤ pre.length + 1
     · have t2 : decide ((m : Int) ≤ ((pre.length + 1 : Nat) : Int)) = true := by simp; omega
       have t3 : decide ((m : Int) ≤ (pre.length : Int) + 1) = true := by simp; omega
       gi_wp2_with (gi_at_builtin; rw [← HX9.out]; refine wpListIn_app X9 rfl (.tmp 15) (.tmp 17) 28 rfl 9 i0 _ 1 16 Try.underlying28 hi0 hz0 hz1 hz2 rfl (by decide) _ pre.length _ rfl HO9.out _ 1 1 (strC x) rfl rfl (fun _ => ⟨_, rfl, HN9.out⟩) (by intro u hu; simp only [strC, List.mem_cons, List.not_mem_nil, or_false] at hu; subst hu; rfl) (by unfold maxLen; omega) (by omega) ?_; intro v' w6 hown hg hnil hat; obtain ⟨A3, c3, rfl, hF3, hA3, hO3⟩ := grown_own (E := fun k => ∃ a, A = some a ∧ a.block = k) (fun a ha => ⟨a, ha, rfl⟩) hown hg hat; have HF3 := Lib.hid hF3; have HA3 := Lib.hid hA3; have HO3 := Lib.hid hO3; have hkb6 := KBB.out.grown hg (own_blk_ne HO9.out KBB.out (by decide)); have b0 := (hkb6.cell 0).trans rfl; have bf := hkb6.frozen 0; have bz := hkb6.lt; have KBB6 := Lib.hid hkb6; have hkn := KN9.out.grown hg (own_blk_ne HO9.out KN9.out (by decide)); have n0 := (hkn.cell 0).trans rfl; have nz := hkn.lt; have KN6 := Lib.hid hkn; clear hkn; clear hkb6 hown hg hnil hat hF3 hA3 hO3)
       have hF7 : Fr (fun k => (∃ a, A = some a ∧ a.block = k) ∨ k = w.heap.size + 1) X2 (w6.setCell ⟨w.heap.size + 1, 0, none⟩ (.slice A3 (pre.length + 1) c3)) :=
        ((Fr.of_new HB9.out).trans (HF3.out.mono (fun k _ hk => .inl hk))).setCell (p := ⟨w.heap.size + 1, 0, none⟩) (.inl (.inr rfl)) _
       have hnD : ∀ k, ((∃ a, A = some a ∧ a.block = k) ∨ k = w.heap.size + 1) → ¬ D' k := by
        rintro k (⟨a, ha, rfl⟩ | rfl)
        · exact HRO.out.2 a ha
        · exact HBO.out.2
       have hz9' := HB9.out.size
       have hlow : w.heap.size ≤ X2.heap.size := HBL.out.size
       have hAn : ∀ a, A3 = some a → ((∃ b, A = some b ∧ b.block = a.block) ∨ X2.heap.size < a.block) := fun a ha => by
        rcases HA3.out a ha with h | h
        · exact .inl h
        · refine .inr ?_
          have : X9.heap.size = X2.heap.size + 1 := by rw [HX9.out]; simp
          omega
       have hcol : ColI w (w.heap.size + 1) D' (pre ++ [x]) (w6.setCell ⟨w.heap.size + 1, 0, none⟩ (.slice A3 (pre.length + 1) c3)) := by
        have e1 : (pre ++ [x]).length = pre.length + 1 := by simp
        refine ⟨A3, c3, ⟨?_, HBO.out.2⟩, ⟨?_, fun a ha hd => ?_⟩, fun a ha => ?_, HBL.out.trans (hF7.below hlow (fun k hk hn => ?_)), fun k hk => Nat.lt_of_lt_of_le (HDL.out k hk) hF7.size⟩
        · rw [e1]
          simpa using KBB6.out.set_ 0 (.slice A3 (pre.length + 1) c3)
        · rw [e1, List.flatMap_append]
          have := ownsRow_setCell_other (a := ⟨w.heap.size + 1, 0, none⟩) HO3.out (own_blk_ne HO3.out KBB6.out (by decide)) (.slice A3 (pre.length + 1) c3)
          simpa [strC] using this
        · rcases hAn a ha with ⟨b, hb, e⟩ | h
          · exact HRO.out.2 b hb (e ▸ hd)
          · exact absurd (HDL.out _ hd) (by omega)
        · rcases hAn a ha with ⟨b, hb, e⟩ | h
          · have := HAO.out b hb
            show w.heap.size ≤ a.block
            omega
          · show w.heap.size ≤ a.block
            omega
        · rcases hn with ⟨a, ha, rfl⟩ | rfl
          · have := HAO.out a ha
            omega
          · omega
       have hnn : Own D' (w6.setCell ⟨w.heap.size + 1, 0, none⟩ (.slice A3 (pre.length + 1) c3)) w.heap.size 3 #[.int .i64 (m : Int)] := ⟨KN6.out.far (p := ⟨w.heap.size + 1, 0, none⟩) (by dsimp only; omega) _, HBN.out.2⟩
       refine ⟨hF7.mono (fun k _ hk => hnD k hk), ?_⟩
       rw [HIX.out]
       exact ⟨rfl, hcol, by simp; omega⟩
     · have t2 : decide ((m : Int) ≤ ((pre.length + 1 : Nat) : Int)) = false := by simp; omega
       have t3 : decide ((m : Int) ≤ (pre.length : Int) + 1) = false := by simp; omega
       gi_wp2_with (gi_at_builtin; rw [← HX9.out]; refine wpListIn_app X9 rfl (.tmp 15) (.tmp 17) 28 rfl 9 i0 _ 1 16 Try.underlying28 hi0 hz0 hz1 hz2 rfl (by decide) _ pre.length _ rfl HO9.out _ 1 1 (strC x) rfl rfl (fun _ => ⟨_, rfl, HN9.out⟩) (by intro u hu; simp only [strC, List.mem_cons, List.not_mem_nil, or_false] at hu; subst hu; rfl) (by unfold maxLen; omega) (by omega) ?_; intro v' w6 hown hg hnil hat; obtain ⟨A3, c3, rfl, hF3, hA3, hO3⟩ := grown_own (E := fun k => ∃ a, A = some a ∧ a.block = k) (fun a ha => ⟨a, ha, rfl⟩) hown hg hat; have HF3 := Lib.hid hF3; have HA3 := Lib.hid hA3; have HO3 := Lib.hid hO3; have hkb6 := KBB.out.grown hg (own_blk_ne HO9.out KBB.out (by decide)); have b0 := (hkb6.cell 0).trans rfl; have bf := hkb6.frozen 0; have bz := hkb6.lt; have KBB6 := Lib.hid hkb6; have hkn := KN9.out.grown hg (own_blk_ne HO9.out KN9.out (by decide)); have n0 := (hkn.cell 0).trans rfl; have nz := hkn.lt; have KN6 := Lib.hid hkn; clear hkn; clear hkb6 hown hg hnil hat hF3 hA3 hO3)
       have hF7 : Fr (fun k => (∃ a, A = some a ∧ a.block = k) ∨ k = w.heap.size + 1) X2 (w6.setCell ⟨w.heap.size + 1, 0, none⟩ (.slice A3 (pre.length + 1) c3)) :=
        ((Fr.of_new HB9.out).trans (HF3.out.mono (fun k _ hk => .inl hk))).setCell (p := ⟨w.heap.size + 1, 0, none⟩) (.inl (.inr rfl)) _
       have hnD : ∀ k, ((∃ a, A = some a ∧ a.block = k) ∨ k = w.heap.size + 1) → ¬ D' k := by
        rintro k (⟨a, ha, rfl⟩ | rfl)
        · exact HRO.out.2 a ha
        · exact HBO.out.2
       have hz9' := HB9.out.size
       have hlow : w.heap.size ≤ X2.heap.size := HBL.out.size
       have hAn : ∀ a, A3 = some a → ((∃ b, A = some b ∧ b.block = a.block) ∨ X2.heap.size < a.block) := fun a ha => by
        rcases HA3.out a ha with h | h
        · exact .inl h
        · refine .inr ?_
          have : X9.heap.size = X2.heap.size + 1 := by rw [HX9.out]; simp
          omega
       have hcol : ColI w (w.heap.size + 1) D' (pre ++ [x]) (w6.setCell ⟨w.heap.size + 1, 0, none⟩ (.slice A3 (pre.length + 1) c3)) := by
        have e1 : (pre ++ [x]).length = pre.length + 1 := by simp
        refine ⟨A3, c3, ⟨?_, HBO.out.2⟩, ⟨?_, fun a ha hd => ?_⟩, fun a ha => ?_, HBL.out.trans (hF7.below hlow (fun k hk hn => ?_)), fun k hk => Nat.lt_of_lt_of_le (HDL.out k hk) hF7.size⟩
        · rw [e1]
          simpa using KBB6.out.set_ 0 (.slice A3 (pre.length + 1) c3)
        · rw [e1, List.flatMap_append]
          have := ownsRow_setCell_other (a := ⟨w.heap.size + 1, 0, none⟩) HO3.out (own_blk_ne HO3.out KBB6.out (by decide)) (.slice A3 (pre.length + 1) c3)
          simpa [strC] using this
        · rcases hAn a ha with ⟨b, hb, e⟩ | h
          · exact HRO.out.2 b hb (e ▸ hd)
          · exact absurd (HDL.out _ hd) (by omega)
        · rcases hAn a ha with ⟨b, hb, e⟩ | h
          · have := HAO.out b hb
            show w.heap.size ≤ a.block
            omega
          · show w.heap.size ≤ a.block
            omega
        · rcases hn with ⟨a, ha, rfl⟩ | rfl
          · have := HAO.out a ha
            omega
          · omega
       have hnn : Own D' (w6.setCell ⟨w.heap.size + 1, 0, none⟩ (.slice A3 (pre.length + 1) c3)) w.heap.size 3 #[.int .i64 (m : Int)] := ⟨KN6.out.far (p := ⟨w.heap.size + 1, 0, none⟩) (by dsimp only; omega) _, HBN.out.2⟩
       refine ⟨hF7.mono (fun k _ hk => hnD k hk), ?_⟩
       rw [HI.out]
       exact ⟨hcol, hnn, by simp; omega⟩
   · intro D' d X hd hDd hIX hK
     rw [hI] at hIX
     obtain ⟨⟨A, c, hbo, hro, hao, hbl, hdl⟩, hbn, hpm⟩ := hIX
     have b0 := (hbo.1.cell 0).trans rfl
     have bz := hbo.1.lt
     have HRO := Lib.hid hro
     have HAO := Lib.hid hao
     have HBL := Lib.hid hbl
     have HK := Lib.hid hK
     have HBO := Lib.hid hbo
     have HT := Lib.hid (show xs.take m = xs from List.take_of_length_le (by omega))
     clear hbn hI hIx hst hstx HST hbo hro hao hbl hdl hK
     go_wp2_with fail
     refine ⟨by simp, .inl ⟨_, _, rfl, run_takeDeferred HK.out, ?_⟩⟩
     have hput : Fr (· = d) X (X.putObj d (.deferred none)) := (Fr.refl (· = d) X).putObj (.inl rfl) _
     refine ⟨_, results_tmp rfl _ _ _, ?_⟩
     rw [HT.out]
     exact ⟨A, c, rfl, ownsRow_fr HRO.out.1 hput (fun g hg e => by
      rcases A with _ | a
      · simp [Value.ownBlock] at hg
      · have e2 : a.block = g := by simpa [Value.ownBlock] using hg
        exact HRO.out.2 a rfl (by rw [e2, e]; exact hDd)), HAO.out, HBL.out.trans (hput.below HBL.out.size (fun k hk hn => by have := HZ1.out; omega))⟩
   · intro D' d cd pre post X hd hDd hx hIX hK
     rw [hIx] at hIX
     obtain ⟨rfl, ⟨A, c, hbo, hro, hao, hbl, hdl⟩, hpm⟩ := hIX
     have b0 := (hbo.1.cell 0).trans rfl
     have bz := hbo.1.lt
     have HRO := Lib.hid hro
     have HAO := Lib.hid hao
     have HBL := Lib.hid hbl
     have HK := Lib.hid hK
     have HBO := Lib.hid hbo
     have HT := Lib.hid (show xs.take m = pre by rw [hx, ← hpm]; simp)
     clear hx hpm hI hIx hst hstx HST hbo hro hao hbl hdl hK
     gi_wp2_with fail
     go_wp2_with fail
     refine ⟨by simp, .inl ⟨_, _, rfl, run_takeDeferred HK.out, ?_⟩⟩
     have hput : Fr (· = d) X (X.putObj d (.deferred none)) := (Fr.refl (· = d) X).putObj (.inl rfl) _
     refine ⟨_, results_tmp rfl _ _ _, ?_⟩
     rw [HT.out]
     exact ⟨A, c, rfl, ownsRow_fr HRO.out.1 hput (fun g hg e => by
      rcases A with _ | a
      · simp [Value.ownBlock] at hg
      · have e2 : a.block = g := by simpa [Value.ownBlock] using hg
        exact HRO.out.2 a rfl (by rw [e2, e]; exact hDd)), HAO.out, HBL.out.trans (hput.below HBL.out.size (fun k hk hn => by have := HZ1.out; omega))⟩
end Go.Proofs.Ytffemfglngikbaa
namespace Go.Proofs.Ytffemfglngikbaa
open Go.RowKit Go.Shelf
theorem str_at {D : Nat → Prop} {w : World} {A : Option Addr} {c k : Nat} {l : List ByteArray} (h : RowR repStr D w A c l) (hk : k < l.length) : ∃ g off, A = some ⟨g, off, none⟩ ∧ g < w.heap.size ∧ w.cell? ⟨g, off + k, none⟩ = some (.string l[k]) := by
 obtain ⟨g, off, cs, hA, hD, hg, hr, hc⟩ := h.at_ hk
 have hr2 : cs = [Value.string l[k]] := hr
 subst hr2
 exact ⟨g, off, hA, hg, by simpa [repStr, RepT.flat] using hc 0 _ rfl⟩
theorem strs_row {w : World} {A : Option Addr} {c n : Nat} {l : List ByteArray} (hn : l.length = n) (h : w.ownsRow 0 9 1 (.slice A n c) n (l.flatMap strC)) : RowR repStr (fun _ => True) w A c l := by
 subst hn
 exact RowR.of_rd (ownsRow_rd strC_len h) (fun _ _ => trivial)
def inB (l : List ByteArray) (v : ByteArray) : Bool := l.any fun s => decide (s.toList = v.toList)
set_option maxRecDepth 100000 in
set_option maxHeartbeats 2000000 in
theorem texts_is {D D' : Nat → Prop} {A B : Option Addr} {c d : Nat} (l m : List ByteArray) (w : World) (hl : RowR repStr D w A c l) (hm : RowR repStr D' w B d m) :
 Calls Try.prog 12 #[.slice A l.length c, .slice B m.length d] w fun e w' => e = .returned (.bool (decide (l = m))) ∧ Below w.heap.size w w' := by
 have HL := Lib.hid hl
 have HM := Lib.hid hm
 have hlc := hl.cap
 clear hl hm
 by_cases hlm : l.length = m.length
 · have t1 : ((l.length : Int) != (m.length : Int)) = false := by simp; omega
   have HLM := Lib.hid hlm
   clear hlm
   go_enter Try.func12, Try.ntmps12
   go_wp2_with fail
   go_loopw [5] (fun s wr => ∃ i : Nat, s = .int .i64 i ∧ i ≤ l.length ∧ (∀ k, (h : k < l.length) → (h' : k < m.length) → k < i → l[k] = m[k]) ∧ Below w.heap.size w wr) (fun s wr => l.length - (intOf s).toNat)
   case atStart => exact ⟨0, rfl, Nat.zero_le _, fun k _ _ h => absurd h (by omega), Below.refl _ _⟩
   case round =>
    obtain ⟨i, rfl, hi, hall, hB⟩ := hrel
    have HALL := Lib.hid hall
    have HB := Lib.hid hB
    clear hall hB
    by_cases hlt : i < l.length
    · have hlt2 : i < m.length := by have := HLM.out; omega
      obtain ⟨x, hx⟩ : ∃ x, x = l[i] := ⟨_, rfl⟩
      obtain ⟨y, hy⟩ : ∃ y, y = m[i] := ⟨_, rfl⟩
      obtain ⟨g, off, rfl, hgs, q0⟩ := str_at (HL.out.new_ HB.out) hlt
      obtain ⟨g2, off2, rfl, hgs2, p0⟩ := str_at (HM.out.new_ HB.out) hlt2
      rw [← hx] at q0
      rw [← hy] at p0
      have b1 : (0 : Int) ≤ (i : Int) := by omega
      have b2 : (i : Int) < (l.length : Int) := by omega
      have b3 : (i : Int) < (m.length : Int) := by omega
      have HX := Lib.hid hx
      have HY := Lib.hid hy
      clear hx hy
      by_cases he : x = y
      · have HE := Lib.hid he
        have t2 : (x.toList == y.toList) = true := by rw [he]; simp
        have t3 : decide (x.toList = y.toList) = true := by rw [he]; simp
        clear he
        go_wp2_with fail
        go_quiet (fail)
        have HB2 := Lib.hid (Below.drewN' HB.out nq)
        clear q0 p0
        go_wp2_with fail
        go_roundw
        case rel =>
         refine ⟨i + 1, by go_num, by omega, fun k h h' hk => ?_, HB2.out⟩
         rcases Nat.lt_or_ge k i with h3 | h3
         · exact HALL.out k h h' h3
         · obtain rfl : k = i := by omega
           rw [← HX.out, ← HY.out]
           exact HE.out
        case measure => simp [intOf] <;> omega
      · have HE := Lib.hid he
        have t2 : (x.toList == y.toList) = false := by simp; exact fun h => he (toList_inj h)
        have t3 : decide (x.toList = y.toList) = false := by simp; exact fun h => he (toList_inj h)
        clear he
        go_wp2_with fail
        go_quiet (fail)
        have HB2 := Lib.hid (Below.drewN' HB.out nq)
        clear q0 p0
        go_wp2_with fail
        go_ret
        refine ⟨?_, HB2.out⟩
        have : l ≠ m := by
         rintro rfl
         exact HE.out (HX.out.trans HY.out.symm)
        rw [decide_eq_false this]; rfl
    · have hie : i = l.length := by omega
      subst hie
      go_wp2_with fail
      go_ret
      refine ⟨?_, HB.out⟩
      have : l = m := List.ext_getElem HLM.out (fun k h h' => HALL.out k h h' h)
      rw [decide_eq_true this]; rfl
 · have t1 : ((l.length : Int) != (m.length : Int)) = true := by simp; omega
   have HLM := Lib.hid hlm
   clear hlm
   go_enter Try.func12, Try.ntmps12
   go_wp2_with fail
   go_ret
   refine ⟨?_, Below.refl _ _⟩
   have : l ≠ m := fun h => HLM.out (by rw [h])
   rw [decide_eq_false this]; rfl
end Go.Proofs.Ytffemfglngikbaa
