/-
  The walk of ActNews.
-/
import Derived.Test.YtpndmjabjjbefaaGreatBd
import Derived.Test.YtpndmjabjjbefaaGreatBi
import Derived.Maps.RangeWalk
namespace Go.Proofs.YtpndmjabjjbefaaGreat
open Go.RowKit Go.Shelf
def goK (most : Nat) (f : CondT → Nat) : List CondT → Nat → Nat
 | [], s => s
 | c :: l, s => if s ≤ most then goK most f l (s + (1 + f c)) else s
def sizeK (most : Nat) : Nat → Nat → List CondT → Nat
 | 0, d, l => if 20 < d then most + 1 else if l = [] then 0 else most + 1
 | n + 1, d, l => if 20 < d then most + 1 else min (goK most (fun c => sizeK most n (d + 1) c.conds) l 0) (most + 1)
theorem goK_ge (most : Nat) (f : CondT → Nat) : ∀ (l : List CondT) (s : Nat), s ≤ goK most f l s
 | [], s => Nat.le_refl _
 | c :: l, s => by
   rw [goK]
   split
   · have := goK_ge most f l (s + (1 + f c)); omega
   · omega
theorem goK_all (most : Nat) (f : CondT → Nat) : ∀ (l : List CondT) (s : Nat), goK most f l s ≤ most → goK most f l s = s + (l.map fun c => 1 + f c).sum ∧ ∀ c ∈ l, f c ≤ most
 | [], s, _ => by simp [goK]
 | c :: l, s, h => by
   rw [goK] at h ⊢
   by_cases hs : s ≤ most
   · rw [if_pos hs] at h ⊢
     obtain ⟨h1, h2⟩ := goK_all most f l _ h
     have := goK_ge most f l (s + (1 + f c))
     refine ⟨by rw [h1, List.map_cons, List.sum_cons]; omega, fun x hx => ?_⟩
     rcases List.mem_cons.1 hx with rfl | hx
     · omega
     · exact h2 x hx
   · rw [if_neg hs] at h
     omega
theorem goK_snoc (most : Nat) (f : CondT → Nat) : ∀ (l : List CondT) (c : CondT) (s : Nat), goK most f (l ++ [c]) s = if goK most f l s ≤ most then goK most f l s + (1 + f c) else goK most f l s
 | [], c, s => rfl
 | x :: l, c, s => by
   rw [List.cons_append, goK, goK]
   by_cases hs : s ≤ most
   · rw [if_pos hs, if_pos hs, goK_snoc most f l c]
   · rw [if_neg hs, if_neg hs, if_neg hs]
theorem goK_stop (most : Nat) (f : CondT → Nat) : ∀ (l m : List CondT) (s : Nat), ¬ goK most f l s ≤ most → goK most f (l ++ m) s = goK most f l s
 | [], m, s, h => by
   rw [goK] at h
   cases m with
   | nil => rfl
   | cons c m => simp only [List.nil_append, goK]; rw [if_neg h]
 | x :: l, m, s, h => by
   rw [List.cons_append, goK, goK]
   rw [goK] at h
   by_cases hs : s ≤ most
   · rw [if_pos hs, if_pos hs]
     rw [if_pos hs] at h
     exact goK_stop most f l m _ h
   · rw [if_neg hs, if_neg hs]
theorem sum_le_of {α : Type} (f g : α → Nat) : ∀ l : List α, (∀ c ∈ l, f c ≤ g c) → (l.map f).sum ≤ (l.map g).sum
 | [], _ => Nat.le_refl _
 | c :: l, h => by
   rw [List.map_cons, List.map_cons, List.sum_cons, List.sum_cons]
   have h1 := h c List.mem_cons_self
   have h2 := sum_le_of f g l (fun x hx => h x (List.mem_cons_of_mem _ hx))
   omega
theorem flatC_len (m d : Nat) (l : List CondT) : (flatC (m + 1) d l).length = (l.map fun c => 1 + (flatC m (d + 1) c.conds).length).sum := by
 rw [flatC_succ, List.length_flatMap]
 congr 1
 apply List.map_congr_left
 intro c _
 simp; omega
theorem sizeK_flat (most : Nat) : ∀ (n m d e : Nat) (l : List CondT), sizeK most n d l ≤ most → (flatC m e l).length ≤ sizeK most n d l
 | 0, m, d, e, l, h => by
   rw [sizeK] at h
   by_cases h1 : 20 < d
   · rw [if_pos h1] at h; omega
   · rw [if_neg h1] at h
     by_cases h2 : l = []
     · subst h2; cases m <;> simp [flatC]
     · rw [if_neg h2] at h; omega
 | n + 1, m, d, e, l, h => by
   rw [sizeK] at h ⊢
   by_cases h1 : 20 < d
   · rw [if_pos h1] at h; omega
   · rw [if_neg h1] at h ⊢
     obtain ⟨h2, h3⟩ := goK_all most (fun c => sizeK most n (d + 1) c.conds) l 0 (by omega)
     cases m with
     | zero => simp [flatC]
     | succ m =>
       have h4 := sum_le_of (fun c : CondT => 1 + (flatC m (e + 1) c.conds).length) (fun c => 1 + sizeK most n (d + 1) c.conds) l (fun c hc => by
        have := sizeK_flat most n m (d + 1) (e + 1) c.conds (h3 c hc)
        omega)
       rw [flatC_len]
       omega
theorem sizeK_deep (most : Nat) : ∀ (n d : Nat) (l : List CondT), sizeK most n d l ≤ most → d ≤ 20 ∧ ∀ {D : Nat → Prop} {w : World} {A : Option Addr} {c : Nat}, RowR (repCondT n) D w A c l → RowR (repCondT (20 - d)) D w A c l
 | 0, d, l, h => by
   rw [sizeK] at h
   by_cases h1 : 20 < d
   · rw [if_pos h1] at h; omega
   · rw [if_neg h1] at h
     by_cases h2 : l = []
     · subst h2
       exact ⟨by omega, fun g => ⟨g.1, g.2.1, fun h => absurd h (by simp)⟩⟩
     · rw [if_neg h2] at h; omega
 | n + 1, d, l, h => by
   rw [sizeK] at h
   by_cases h1 : 20 < d
   · rw [if_pos h1] at h; omega
   · rw [if_neg h1] at h
     obtain ⟨_, h3⟩ := goK_all most (fun c => sizeK most n (d + 1) c.conds) l 0 (by omega)
     refine ⟨by omega, fun {D w A c} g => ?_⟩
     refine ⟨g.1, g.2.1, fun h0 => ?_⟩
     obtain ⟨b, off, g1, g2, g3, g4⟩ := g.2.2 h0
     obtain ⟨d1, _⟩ := sizeK_deep most n (d + 1) _ (h3 l[0] (List.getElem_mem h0))
     obtain ⟨k, hk⟩ : ∃ k, 20 - d = k + 1 := ⟨20 - d - 1, by omega⟩
     refine ⟨b, off, g1, g2, g3, fun j hj => ?_⟩
     obtain ⟨cs, r, hc⟩ := g4 j hj
     obtain ⟨A1, c1, A2, c2, A3, c3, e0, e1, e2, e3⟩ := r
     have h5 := (sizeK_deep most n (d + 1) _ (h3 l[j] (List.getElem_mem hj))).2 e3
     rw [hk]
     rw [show 20 - (d + 1) = k by omega] at h5
     exact ⟨cs, ⟨A1, c1, A2, c2, A3, c3, e0, e1, e2, h5⟩, hc⟩
def heavyT (t : TestT) : Bool := decide (20 < t.list.length) || (decide (100 < t.var.size) || decide (100 < t.sym.text.size))
def heavyO (c : CondT) : Bool := decide (100 < c.id.size) || (decide (10 < c.attr.length) || (decide (10 < c.value.length) || (c.attr.any heavyT || c.value.any heavyT)))
def heavyC : Nat → List CondT → Bool
 | 0, _ => false
 | n + 1, l => l.any fun c => heavyO c || heavyC n c.conds
def heavyP (n : Nat) (p : ProdT) : Bool := decide (40 < sizeK 40 n 0 p.conds) || (decide (40 < p.acts.length) || (decide (100 < p.name.size) || heavyC n p.conds))
set_option maxRecDepth 100000 in
set_option maxHeartbeats 2000000 in
theorem heavyTests_is {D : Nat → Prop} {A : Option Addr} {c : Nat} (l : List TestT) (w : World) (h : RowR repTestT D w A c l) : Calls Tryz.prog 68 #[.slice A l.length c] w fun e w' => e = .returned (.bool (l.any heavyT)) ∧ w = w' := by
 have H := Lib.hid h
 have hlc := h.cap
 clear h
 go_enter Tryz.func68, Tryz.ntmps68
 go_wp2_with fail
 go_loopw [3] (fun s wr => ∃ i : Nat, s = .int .i64 i ∧ i ≤ l.length ∧ (∀ k, (h : k < l.length) → k < i → heavyT l[k] = false) ∧ wr = w) (fun s wr => l.length - (intOf s).toNat)
 case atStart => exact ⟨0, rfl, Nat.zero_le _, fun k _ h => absurd h (by omega), rfl⟩
 case round =>
  obtain ⟨i, rfl, hi, hall, rfl⟩ := hrel
  have HALL := Lib.hid hall
  clear hall
  by_cases hlt : i < l.length
  · obtain ⟨x, hx⟩ : ∃ x, x = l[i] := ⟨_, rfl⟩
    obtain ⟨g, off, A1, c1, rfl, _, hgs, q0, q1, q2, q3, q4, q5, hr⟩ := at_TestT H.out hlt
    rw [← hx] at q0 q1 q2 q3 q4 q5 hr
    have hcap := hr.cap
    have b1 : (0 : Int) ≤ (i : Int) := by omega
    have b2 : (i : Int) < (l.length : Int) := by omega
    have HX := Lib.hid hx
    have HYES := Lib.hid (show heavyT x = true → l.any heavyT = true from fun h => List.any_eq_true.2 ⟨x, by rw [HX.out]; exact List.getElem_mem hlt, h⟩)
    clear hx hr
    cases t1 : decide (20 < x.list.length)
    · cases t2 : decide (100 < x.var.size)
      · cases t3 : decide (100 < x.sym.text.size)
        · have s1 : decide ((20 : Int) < (x.list.length : Int)) = false := by simp at t1 ⊢; omega
          have s2 : decide ((100 : Int) < (x.var.size : Int)) = false := by simp at t2 ⊢; omega
          have s3 : decide ((100 : Int) < (x.sym.text.size : Int)) = false := by simp at t3 ⊢; omega
          have HN := Lib.hid (show heavyT x = false by simp [heavyT, t1, t2, t3])
          clear t1 t2 t3
          go_wp2_with fail
          go_roundw
          case rel =>
           refine ⟨i + 1, by go_num, by omega, fun k h hk => ?_, by trivial⟩
           rcases Nat.lt_or_ge k i with h3 | h3
           · exact HALL.out k h h3
           · obtain rfl : k = i := by omega
             rw [← HX.out]
             exact HN.out
          case measure => simp [intOf] <;> omega
        · have s1 : decide ((20 : Int) < (x.list.length : Int)) = false := by simp at t1 ⊢; omega
          have s2 : decide ((100 : Int) < (x.var.size : Int)) = false := by simp at t2 ⊢; omega
          have s3 : decide ((100 : Int) < (x.sym.text.size : Int)) = true := by simp at t3 ⊢; omega
          have HN := Lib.hid (HYES.out (by simp [heavyT, t3]))
          clear t1 t2 t3
          go_wp2_with fail
          go_ret
          exact ⟨by rw [HN.out]; rfl, rfl⟩
      · have s1 : decide ((20 : Int) < (x.list.length : Int)) = false := by simp at t1 ⊢; omega
        have s2 : decide ((100 : Int) < (x.var.size : Int)) = true := by simp at t2 ⊢; omega
        have HN := Lib.hid (HYES.out (by simp [heavyT, t2]))
        clear t1 t2
        go_wp2_with fail
        go_ret
        exact ⟨by rw [HN.out]; rfl, rfl⟩
    · have s1 : decide ((20 : Int) < (x.list.length : Int)) = true := by simp at t1 ⊢; omega
      have HN := Lib.hid (HYES.out (by simp [heavyT, t1]))
      clear t1
      go_wp2_with fail
      go_ret
      exact ⟨by rw [HN.out]; rfl, rfl⟩
  · have hie : i = l.length := by omega
    subst hie
    have HN := Lib.hid (show l.any heavyT = false by
     rw [List.any_eq_false]
     intro x hx
     obtain ⟨k, hk, rfl⟩ := List.getElem_of_mem hx
     simp [HALL.out k hk hk])
    go_wp2_with fail
    go_ret
    exact ⟨by rw [HN.out]; rfl, rfl⟩
set_option maxRecDepth 100000 in
set_option maxHeartbeats 4000000 in
theorem size_is (most : Nat) (hm : most ≤ 1000) : ∀ (n : Nat) (D : Nat → Prop) (A : Option Addr) (c : Nat) (d : Nat) (l : List CondT) (w : World), RowR (repCondT n) D w A c l → d ≤ 21 →
 Calls Tryz.prog 43 #[.slice A l.length c, .int .i64 (most : Int), .int .i64 (d : Int)] w fun e w' => e = .returned (.int .i64 (sizeK most n d l : Int)) ∧ w = w' := by
 intro n
 induction n with
 | zero =>
   intro D A c d l w h hd
   have hl0 : l = [] := by
    cases l with
    | nil => rfl
    | cons x l =>
      obtain ⟨b, off, cs, _, _, _, hr, _⟩ := h.at_ (k := 0) (by simp)
      exact hr.elim
   subst hl0
   clear h
   by_cases h20 : 20 < d
   · have t1 : decide ((20 : Int) < (d : Int)) = true := by simp; omega
     have v1 : IntKind.i64.wrap ((most : Int) + 1) = (most : Int) + 1 := IntWalk.i64_in _ (by omega)
     have HR := Lib.hid (show ((sizeK most 0 d [] : Nat) : Int) = (most : Int) + 1 by rw [sizeK, if_pos h20]; rfl)
     clear h20
     go_enter Tryz.func43, Tryz.ntmps43
     go_wp2_with fail
     go_ret
     exact ⟨by rw [HR.out]; rfl, rfl⟩
   · have t1 : decide ((20 : Int) < (d : Int)) = false := by simp; omega
     have v1 : IntKind.i64.wrap ((most : Int) + 1) = (most : Int) + 1 := IntWalk.i64_in _ (by omega)
     have HR := Lib.hid (show ((sizeK most 0 d [] : Nat) : Int) = 0 by rw [sizeK, if_neg h20, if_pos rfl]; rfl)
     have hmin : min (0 : Int) ((most : Int) + 1) = 0 := by omega
     clear h20
     go_enter Tryz.func43, Tryz.ntmps43
     go_wp2_with fail
     go_loopw [7, 8] (fun a s wr => s = .int .i64 0 ∧ a = .int .i64 0 ∧ wr = w) (fun a s wr => 0)
     case atStart => exact ⟨rfl, rfl, rfl⟩
     case round =>
      obtain ⟨rfl, rfl, rfl⟩ := hrel
      go_wp2_with fail
      go_ret
      exact ⟨by rw [HR.out]; rfl, rfl⟩
 | succ n ih =>
   intro D A c d l w h hd
   have IH := Lib.hid ih
   have H := Lib.hid h
   have hlc := h.cap
   clear h ih
   have v1 : IntKind.i64.wrap ((most : Int) + 1) = (most : Int) + 1 := IntWalk.i64_in _ (by omega)
   by_cases h20 : 20 < d
   · have t1 : decide ((20 : Int) < (d : Int)) = true := by simp; omega
     have HR := Lib.hid (show ((sizeK most (n + 1) d l : Nat) : Int) = (most : Int) + 1 by rw [sizeK, if_pos h20]; rfl)
     clear h20
     go_enter Tryz.func43, Tryz.ntmps43
     go_wp2_with fail
     go_ret
     exact ⟨by rw [HR.out]; rfl, rfl⟩
   · have t1 : decide ((20 : Int) < (d : Int)) = false := by simp; omega
     obtain ⟨f, hf⟩ : ∃ f : CondT → Nat, f = fun c => sizeK most n (d + 1) c.conds := ⟨_, rfl⟩
     have hfle : ∀ c, f c ≤ most + 1 := fun c => by
      rw [hf]
      cases n with
      | zero => simp only [sizeK]; split; omega; split <;> omega
      | succ n => simp only [sizeK]; split; omega; omega
     have HFLE := Lib.hid hfle
     have HR := Lib.hid (show ((sizeK most (n + 1) d l : Nat) : Int) = min ((goK most f l 0 : Nat) : Int) ((most : Int) + 1) by rw [sizeK, if_neg h20, ← hf]; omega)
     have HF := Lib.hid hf
     have hd20 : d ≤ 20 := by omega
     clear h20 hfle hf
     go_enter Tryz.func43, Tryz.ntmps43
     go_wp2_with fail
     go_loopw [7, 8] (fun a s wr => ∃ i : Nat, s = .int .i64 i ∧ i ≤ l.length ∧ a = .int .i64 ((goK most f (l.take i) 0 : Nat) : Int) ∧ goK most f (l.take i) 0 ≤ 2 * most + 2 ∧ wr = w) (fun a s wr => l.length - (intOf s).toNat)
     case atStart => exact ⟨0, rfl, Nat.zero_le _, rfl, by simp [goK], rfl⟩
     case round =>
      obtain ⟨i, rfl, hi, rfl, hle, rfl⟩ := hrel
      obtain ⟨s, hs⟩ : ∃ s, s = goK most f (l.take i) 0 := ⟨_, rfl⟩
      rw [← hs] at hle ⊢
      have HS := Lib.hid hs
      clear hs
      by_cases hlt : i < l.length
      · by_cases hsm : s ≤ most
        · have t2 : decide ((s : Int) ≤ (most : Int)) = true := by simp; omega
          obtain ⟨x, hx⟩ : ∃ x, x = l[i] := ⟨_, rfl⟩
          obtain ⟨g, off, A1, c1, A2, c2, A3, c3, rfl, _, hgs, q0, q1, q2, q3, q4, q5, q6, r1, r2, r3⟩ := at_CondT H.out hlt
          rw [← hx] at q6 r3
          have HR3 := Lib.hid r3
          have hn3 := r3.cap
          have b1 : (0 : Int) ≤ (i : Int) := by omega
          have b2 : (i : Int) < (l.length : Int) := by omega
          obtain ⟨y, hy⟩ : ∃ y, y = f x := ⟨_, rfl⟩
          have hyle : y ≤ most + 1 := by rw [hy]; exact HFLE.out x
          have HCL := Lib.hid (show Calls Tryz.prog 43 #[.slice A3 x.conds.length c3, .int .i64 (most : Int), .int .i64 ((d : Int) + 1)] wr fun e w' => e = .returned (.int .i64 (y : Int)) ∧ wr = w' by
           have := IH.out D A3 c3 (d + 1) x.conds wr HR3.out (by omega)
           rw [hy, HF.out]
           exact this)
          have HN := Lib.hid (show goK most f (l.take (i + 1)) 0 = s + (1 + y) by
           rw [List.take_succ_eq_append_getElem hlt, goK_snoc, ← HS.out, if_pos hsm, ← hx, hy])
          have v2 : IntKind.i64.wrap ((d : Int) + 1) = (d : Int) + 1 := IntWalk.i64_in _ (by omega)
          have v3 : IntKind.i64.wrap (1 + (y : Int)) = 1 + (y : Int) := IntWalk.i64_in _ (by omega)
          have v4 : IntKind.i64.wrap ((s : Int) + (1 + (y : Int))) = (s : Int) + (1 + (y : Int)) := IntWalk.i64_in _ (by omega)
          clear hx hy r1 r2 r3 q0 q1 q2 q3 q4 q5
          go_wp2_with fail
          refine HCL.out.mono ?_
          rintro e w2 ⟨rfl, rfl⟩
          go_wp2_with fail
          go_roundw
          case rel => exact ⟨i + 1, by go_num, by omega, by rw [HN.out]; simp, by rw [HN.out]; omega, by trivial⟩
          case measure => simp [intOf] <;> omega
        · have t2 : decide ((s : Int) ≤ (most : Int)) = false := by simp; omega
          have b2 : (i : Int) < (l.length : Int) := by omega
          have hmin : min (s : Int) ((most : Int) + 1) = (most : Int) + 1 := by omega
          have HN := Lib.hid (show goK most f l 0 = s by
           have := goK_stop most f (l.take i) (l.drop i) 0 (by rw [← HS.out]; exact hsm)
           rwa [List.take_append_drop, ← HS.out] at this)
          clear hsm
          go_wp2_with fail
          go_ret
          exact ⟨by rw [HR.out, HN.out, hmin]; rfl, rfl⟩
      · have hie : i = l.length := by omega
        subst hie
        have HN := Lib.hid (show goK most f l 0 = s by rw [HS.out, List.take_length])
        obtain ⟨z, hz⟩ : ∃ z, z = min (s : Int) ((most : Int) + 1) := ⟨_, rfl⟩
        have HZ := Lib.hid hz
        clear hz
        go_wp2_with fail
        go_ret
        exact ⟨by rw [HR.out, HN.out]; rfl, rfl⟩
theorem heavyC_succ (n : Nat) (l : List CondT) : heavyC (n + 1) l = l.any fun c => heavyO c || heavyC n c.conds := rfl
set_option maxRecDepth 100000 in
set_option maxHeartbeats 4000000 in
theorem heavyConds_is : ∀ (n : Nat) (D : Nat → Prop) (A : Option Addr) (c : Nat) (l : List CondT) (w : World), RowR (repCondT n) D w A c l →
 Calls Tryz.prog 44 #[.slice A l.length c] w fun e w' => e = .returned (.bool (heavyC n l)) ∧ Below w.heap.size w w' := by
 intro n
 induction n with
 | zero =>
   intro D A c l w h
   have hl0 : l = [] := by
    cases l with
    | nil => rfl
    | cons x l =>
      obtain ⟨b, off, cs, _, _, _, hr, _⟩ := h.at_ (k := 0) (by simp)
      exact hr.elim
   subst hl0
   clear h
   go_enter Tryz.func44, Tryz.ntmps44
   go_wp2_with fail
   go_loopw [3] (fun s wr => s = .int .i64 0 ∧ wr = w) (fun s wr => 0)
   case atStart => exact ⟨rfl, rfl⟩
   case round =>
    obtain ⟨rfl, rfl⟩ := hrel
    go_wp2_with fail
    go_ret
    exact ⟨rfl, Below.refl _ _⟩
 | succ n ih =>
   intro D A c l w h
   have IH := Lib.hid ih
   have H := Lib.hid h
   have hlc := h.cap
   clear h ih
   obtain ⟨R, hR⟩ : ∃ R, R = heavyC (n + 1) l := ⟨_, rfl⟩
   rw [← hR]
   have HR := Lib.hid (show R = l.any fun c => heavyO c || heavyC n c.conds by rw [hR, heavyC_succ])
   clear hR
   go_enter Tryz.func44, Tryz.ntmps44
   go_wp2_with fail
   go_loopw [3] (fun s wr => ∃ i : Nat, s = .int .i64 i ∧ i ≤ l.length ∧ (∀ k, (h : k < l.length) → k < i → (heavyO l[k] || heavyC n l[k].conds) = false) ∧ Below w.heap.size w wr) (fun s wr => l.length - (intOf s).toNat)
   case atStart => exact ⟨0, rfl, Nat.zero_le _, fun k _ h => absurd h (by omega), Below.refl _ _⟩
   case round =>
    obtain ⟨i, rfl, hi, hall, hB⟩ := hrel
    have HALL := Lib.hid hall
    have HB0 := Lib.hid hB
    clear hall hB
    by_cases hlt : i < l.length
    · obtain ⟨x, hx⟩ : ∃ x, x = l[i] := ⟨_, rfl⟩
      obtain ⟨g, off, A1, c1, A2, c2, A3, c3, rfl, _, hgs, q0, q1, q2, q3, q4, q5, q6, r1, r2, r3⟩ := at_CondT (H.out.new_ HB0.out) hlt
      rw [← hx] at q0 q1 q2 q3 q4 q5 q6 r1 r2 r3
      have HR1 := Lib.hid r1
      have HR2 := Lib.hid r2
      have HR3 := Lib.hid r3
      have hn1 := r1.cap
      have hn2 := r2.cap
      have hn3 := r3.cap
      have b1 : (0 : Int) ≤ (i : Int) := by omega
      have b2 : (i : Int) < (l.length : Int) := by omega
      have HX := Lib.hid hx
      have HYES := Lib.hid (show (heavyO x || heavyC n x.conds) = true → R = true from fun h => by rw [HR.out]; exact List.any_eq_true.2 ⟨x, by rw [HX.out]; exact List.getElem_mem hlt, h⟩)
      have hsz := HB0.out.size
      clear hx r1 r2 r3
      go_upto_region 5 with fail
      obtain ⟨X, hX⟩ : ∃ X, X = wr.alloc (.cells #[.int .i64 x.kind, .bool x.goal, .string x.id, .slice A1 x.attr.length c1, .slice A2 x.value.length c2, .bool x.acc, .slice A3 x.conds.length c3] 62) := ⟨_, rfl⟩
      rw [← hX]
      have hbX : Below wr.heap.size wr X := by rw [hX]; exact (Below.refl _ _).alloc (Nat.le_refl _) _
      have Kx := Lib.hid (show Blk X wr.heap.size 62 #[.int .i64 x.kind, .bool x.goal, .string x.id, .slice A1 x.attr.length c1, .slice A2 x.value.length c2, .bool x.acc, .slice A3 x.conds.length c3] by rw [hX]; exact Blk.new _ _ _)
      have HB := Lib.hid hbX
      have HBW := Lib.hid (HB0.out.trans (hbX.mono hsz))
      clear hX hbX q0 q1 q2 q3 q4 q5 q6
      obtain ⟨-, -, x2, x3, x4, -, x6⟩ := Kx.out.c7
      have xz := Kx.out.lt
      cases t1 : decide (100 < x.id.size)
      · skip
        cases t2 : decide (10 < x.attr.length)
        · skip
          cases t3 : decide (10 < x.value.length)
          · skip
            have s1 : decide ((100 : Int) < (x.id.size : Int)) = false := by simp at t1 ⊢; omega
            have s2 : decide ((10 : Int) < (x.attr.length : Int)) = false := by simp at t2 ⊢; omega
            have s3 : decide ((10 : Int) < (x.value.length : Int)) = false := by simp at t3 ⊢; omega
            cases t4 : x.attr.any heavyT
            · skip
              cases t5 : x.value.any heavyT
              · skip
                cases t6 : heavyC n x.conds
                · skip
                  have hc1 := heavyTests_is x.attr X (HR1.out.new_ HB.out)
                  rw [t4] at hc1
                  have HC1 := Lib.hid hc1
                  clear hc1
                  have hc2 := heavyTests_is x.value X (HR2.out.new_ HB.out)
                  rw [t5] at hc2
                  have HC2 := Lib.hid hc2
                  clear hc2
                  have hc3 := IH.out D A3 c3 x.conds X (HR3.out.new_ HB.out)
                  rw [t6] at hc3
                  have HC3 := Lib.hid hc3
                  clear hc3
                  have HN := Lib.hid (show (heavyO x || heavyC n x.conds) = false by simp [heavyO, t1, t2, t3, t4, t5, t6])
                  clear t1 t2 t3 t4 t5 t6
                  go_wp2_with fail
                  refine HC1.out.mono ?_
                  rintro e w9 ⟨rfl, rfl⟩
                  go_wp2_with fail
                  refine HC2.out.mono ?_
                  rintro e w9 ⟨rfl, rfl⟩
                  go_wp2_with fail
                  refine HC3.out.mono ?_
                  rintro e w5 ⟨rfl, hb5⟩
                  have HB5 := Lib.hid (HBW.out.trans (hb5.mono HBW.out.size))
                  clear hb5
                  clear x2 x3 x4 x6
                  go_wp2_with fail
                  go_roundw
                  case rel =>
                   refine ⟨i + 1, by go_num, by omega, fun k h hk => ?_, HB5.out⟩
                   rcases Nat.lt_or_ge k i with h3 | h3
                   · exact HALL.out k h h3
                   · obtain rfl : k = i := by omega
                     rw [← HX.out]
                     exact HN.out
                  case measure => simp [intOf] <;> omega
                · skip
                  have hc1 := heavyTests_is x.attr X (HR1.out.new_ HB.out)
                  rw [t4] at hc1
                  have HC1 := Lib.hid hc1
                  clear hc1
                  have hc2 := heavyTests_is x.value X (HR2.out.new_ HB.out)
                  rw [t5] at hc2
                  have HC2 := Lib.hid hc2
                  clear hc2
                  have hc3 := IH.out D A3 c3 x.conds X (HR3.out.new_ HB.out)
                  rw [t6] at hc3
                  have HC3 := Lib.hid hc3
                  clear hc3
                  have HN := Lib.hid (HYES.out (by simp [t6]))
                  clear t1 t2 t3 t4 t5 t6
                  go_wp2_with fail
                  refine HC1.out.mono ?_
                  rintro e w9 ⟨rfl, rfl⟩
                  go_wp2_with fail
                  refine HC2.out.mono ?_
                  rintro e w9 ⟨rfl, rfl⟩
                  go_wp2_with fail
                  refine HC3.out.mono ?_
                  rintro e w5 ⟨rfl, hb5⟩
                  have HB5 := Lib.hid (HBW.out.trans (hb5.mono HBW.out.size))
                  clear hb5
                  clear x2 x3 x4 x6
                  go_wp2_with fail
                  go_ret
                  exact ⟨by rw [HN.out]; rfl, HB5.out⟩
              · skip
                have hc1 := heavyTests_is x.attr X (HR1.out.new_ HB.out)
                rw [t4] at hc1
                have HC1 := Lib.hid hc1
                clear hc1
                have hc2 := heavyTests_is x.value X (HR2.out.new_ HB.out)
                rw [t5] at hc2
                have HC2 := Lib.hid hc2
                clear hc2
                have HN := Lib.hid (HYES.out (by simp [heavyO, t5]))
                clear t1 t2 t3 t4 t5
                go_wp2_with fail
                refine HC1.out.mono ?_
                rintro e w9 ⟨rfl, rfl⟩
                go_wp2_with fail
                refine HC2.out.mono ?_
                rintro e w9 ⟨rfl, rfl⟩
                go_wp2_with fail
                go_ret
                exact ⟨by rw [HN.out]; rfl, HBW.out⟩
            · skip
              have hc1 := heavyTests_is x.attr X (HR1.out.new_ HB.out)
              rw [t4] at hc1
              have HC1 := Lib.hid hc1
              clear hc1
              have HN := Lib.hid (HYES.out (by simp [heavyO, t4]))
              clear t1 t2 t3 t4
              go_wp2_with fail
              refine HC1.out.mono ?_
              rintro e w9 ⟨rfl, rfl⟩
              go_wp2_with fail
              go_ret
              exact ⟨by rw [HN.out]; rfl, HBW.out⟩
          · skip
            have s1 : decide ((100 : Int) < (x.id.size : Int)) = false := by simp at t1 ⊢; omega
            have s2 : decide ((10 : Int) < (x.attr.length : Int)) = false := by simp at t2 ⊢; omega
            have s3 : decide ((10 : Int) < (x.value.length : Int)) = true := by simp at t3 ⊢; omega
            have HN := Lib.hid (HYES.out (by simp [heavyO, t3]))
            clear t1 t2 t3
            go_wp2_with fail
            go_ret
            exact ⟨by rw [HN.out]; rfl, HBW.out⟩
        · skip
          have s1 : decide ((100 : Int) < (x.id.size : Int)) = false := by simp at t1 ⊢; omega
          have s2 : decide ((10 : Int) < (x.attr.length : Int)) = true := by simp at t2 ⊢; omega
          have HN := Lib.hid (HYES.out (by simp [heavyO, t2]))
          clear t1 t2
          go_wp2_with fail
          go_ret
          exact ⟨by rw [HN.out]; rfl, HBW.out⟩
      · skip
        have s1 : decide ((100 : Int) < (x.id.size : Int)) = true := by simp at t1 ⊢; omega
        have HN := Lib.hid (HYES.out (by simp [heavyO, t1]))
        clear t1
        go_wp2_with fail
        go_ret
        exact ⟨by rw [HN.out]; rfl, HBW.out⟩
    · have hie : i = l.length := by omega
      subst hie
      have HN := Lib.hid (show R = false by
       rw [HR.out, List.any_eq_false]
       intro x hx
       obtain ⟨k, hk, rfl⟩ := List.getElem_of_mem hx
       have := HALL.out k hk hk
       simpa using this)
      go_wp2_with fail
      go_ret
      exact ⟨by rw [HN.out]; rfl, HB0.out⟩
set_option maxRecDepth 100000 in
set_option maxHeartbeats 4000000 in
theorem heavy_is {D : Nat → Prop} (n : Nat) (p : ProdT) (A1 A2 : Option Addr) (c1 c2 : Nat) (w : World) (h1 : RowR (repCondT n) D w A1 c1 p.conds) (h2 : RowR repActT D w A2 c2 p.acts) :
 Calls Tryz.prog 15 #[.agg #[.string p.name, .slice A1 p.conds.length c1, .slice A2 p.acts.length c2]] w fun e w' => e = .returned (.bool (heavyP n p)) ∧ Below w.heap.size w w' := by
 have H1 := Lib.hid h1
 have hac := h2.cap
 obtain ⟨R, hR⟩ : ∃ R, R = heavyP n p := ⟨_, rfl⟩
 rw [← hR]
 have HR := Lib.hid hR
 obtain ⟨s, hs⟩ : ∃ s, s = sizeK 40 n 0 p.conds := ⟨_, rfl⟩
 unfold heavyP at hR
 rw [← hs] at hR
 have HV := Lib.hid hR
 clear hR h1 h2
 go_enter Tryz.func15, Tryz.ntmps15
 go_upto_region 1 with fail
 obtain ⟨w1, hw1⟩ : ∃ w1, w1 = (w.alloc (.cells #[.string p.name, .slice A1 p.conds.length c1, .slice A2 p.acts.length c2] 42)) := ⟨_, rfl⟩
 rw [← hw1]
 have HB := Lib.hid (show Below w.heap.size w w1 by rw [hw1]; exact (by repeat (first | exact Below.refl _ _ | refine Below.drew ?_ | refine Below.al ?_ _ | refine Below.sc ?_ _)))
 have Kp := Lib.hid (show Blk w1 (w.heap.size) 42 #[.string p.name, .slice A1 p.conds.length c1, .slice A2 p.acts.length c2] by rw [hw1]; exact (Blk.new w 42 #[.string p.name, .slice A1 p.conds.length c1, .slice A2 p.acts.length c2]))
 clear hw1
 obtain ⟨p0, p1, p2⟩ := Kp.out.c3
 have pz := Kp.out.lt
 have hc1 : Calls Tryz.prog 43 #[.slice A1 p.conds.length c1, .int .i64 40, .int .i64 0] w1 _ := size_is 40 (by decide) n D A1 c1 0 p.conds w1 (H1.out.new_ HB.out) (by decide)
 rw [← hs] at hc1
 have HC1 := Lib.hid hc1
 clear hc1 hs
 cases t1 : decide (40 < s)
 · skip
   cases t2 : decide (40 < p.acts.length)
   · skip
     cases t3 : decide (100 < p.name.size)
     · skip
       have s1 : decide ((40 : Int) < (s : Int)) = false := by simp at t1 ⊢; omega
       have s2 : decide ((40 : Int) < (p.acts.length : Int)) = false := by simp at t2 ⊢; omega
       have s3 : decide ((100 : Int) < (p.name.size : Int)) = false := by simp at t3 ⊢; omega
       have HN := Lib.hid (show R = heavyC n p.conds by rw [HV.out, t1, t2, t3]; simp)
       clear t1 t2 t3
       go_wp2_with fail
       with_reducible refine (HC1.out).mono ?_
       rintro e w0 ⟨rfl, rfl⟩
       go_wp2_with fail
       with_reducible refine (heavyConds_is n D A1 c1 p.conds _ (H1.out.new_ HB.out)).mono ?_
       rintro e w2 ⟨rfl, hb⟩
       have hbs := Below.trans (show Below w1.heap.size w1 _ from (by (repeat (first | exact Below.refl _ _ | refine Below.drew ?_ | refine Below.al ?_ _ | refine Below.sc ?_ _)))) (hb.mono (by simp <;> omega))
       have Kp := Lib.hid (Kp.out.new_ hbs)
       have HB := Lib.hid (HB.out.trans (hbs.mono HB.out.size))
       have hsz2 := hbs.size
       clear p0 p1 p2 pz hb hbs
       obtain ⟨p0, p1, p2⟩ := Kp.out.c3
       have pz := Kp.out.lt
       go_wp2_with fail
       go_ret
       exact ⟨by rw [HN.out]; rfl, HB.out⟩
     · skip
       have s1 : decide ((40 : Int) < (s : Int)) = false := by simp at t1 ⊢; omega
       have s2 : decide ((40 : Int) < (p.acts.length : Int)) = false := by simp at t2 ⊢; omega
       have s3 : decide ((100 : Int) < (p.name.size : Int)) = true := by simp at t3 ⊢; omega
       have HN := Lib.hid (show R = true by rw [HV.out, t1, t2, t3]; simp)
       clear t1 t2 t3
       go_wp2_with fail
       with_reducible refine (HC1.out).mono ?_
       rintro e w0 ⟨rfl, rfl⟩
       go_wp2_with fail
       go_ret
       exact ⟨by rw [HN.out]; rfl, HB.out⟩
   · skip
     have s1 : decide ((40 : Int) < (s : Int)) = false := by simp at t1 ⊢; omega
     have s2 : decide ((40 : Int) < (p.acts.length : Int)) = true := by simp at t2 ⊢; omega
     have HN := Lib.hid (show R = true by rw [HV.out, t1, t2]; simp)
     clear t1 t2
     go_wp2_with fail
     with_reducible refine (HC1.out).mono ?_
     rintro e w0 ⟨rfl, rfl⟩
     go_wp2_with fail
     go_ret
     exact ⟨by rw [HN.out]; rfl, HB.out⟩
 · skip
   have s1 : decide ((40 : Int) < (s : Int)) = true := by simp at t1 ⊢; omega
   have HN := Lib.hid (show R = true by rw [HV.out, t1]; simp)
   clear t1
   go_wp2_with fail
   with_reducible refine (HC1.out).mono ?_
   rintro e w0 ⟨rfl, rfl⟩
   go_wp2_with fail
   go_ret
   exact ⟨by rw [HN.out]; rfl, HB.out⟩
theorem heavyP_light {n : Nat} {p : ProdT} (h : heavyP n p = false) : (∀ {D : Nat → Prop} {w : World} {A : Option Addr} {c : Nat}, RowR (repCondT n) D w A c p.conds → RowR (repCondT 20) D w A c p.conds) ∧ (∀ m e, (flatC m e p.conds).length ≤ 40) ∧ p.acts.length ≤ 40 ∧ p.name.size ≤ 100 := by
 unfold heavyP at h
 simp only [Bool.or_eq_false_iff, decide_eq_false_iff_not] at h
 obtain ⟨h1, h2, h3, h4⟩ := h
 have h5 : sizeK 40 n 0 p.conds ≤ 40 := by omega
 exact ⟨fun g => (sizeK_deep 40 n 0 p.conds h5).2 g, fun m e => Nat.le_trans (sizeK_flat 40 n m 0 e p.conds h5) h5, by omega, by omega⟩
end Go.Proofs.YtpndmjabjjbefaaGreat
namespace Go.Proofs.YtpndmjabjjbefaaGreat
open Go.RowKit Go.Shelf
attribute [local go_sem] Oper.semAt_some
set_option maxRecDepth 100000 in
set_option maxHeartbeats 4000000 in
theorem news_walk (n : Nat) (p : ProdT) (A1 A2 A : Option Addr) (c1 c2 c : Nat) (l : List BindT) (v : Int) (w : World) (h1 : RowR (repCondT n) (· < w.heap.size) w A1 c1 p.conds) (h2 : RowR repActT (· < w.heap.size) w A2 c2 p.acts) (h3 : RowR repBindT (· < w.heap.size) w A c l) :
 Calls Tryz.prog 5 #[.agg #[.string p.name, .slice A1 p.conds.length c1, .slice A2 p.acts.length c2], .slice A l.length c, .int .i64 v] w fun e w' => e = .returned (.bool true) ∧ Below w.heap.size w w' := by
 have H1 := Lib.hid h1
 have H2 := Lib.hid h2
 have H3 := Lib.hid h3
 have hac := h2.cap
 have hlc := h3.cap
 clear h1 h2 h3
 go_enter Tryz.func5, Tryz.ntmps5
 go_upto_region 1 with fail
 obtain ⟨w1, hw1⟩ : ∃ w1, w1 = (w.alloc (.cells #[.string p.name, .slice A1 p.conds.length c1, .slice A2 p.acts.length c2] 42)) := ⟨_, rfl⟩
 rw [← hw1]
 have HB := Lib.hid (show Below w.heap.size w w1 by rw [hw1]; exact (by repeat (first | exact Below.refl _ _ | refine Below.drew ?_ | refine Below.al ?_ _ | refine Below.sc ?_ _)))
 have Kp := Lib.hid (show Blk w1 (w.heap.size) 42 #[.string p.name, .slice A1 p.conds.length c1, .slice A2 p.acts.length c2] by rw [hw1]; exact (Blk.new w 42 #[.string p.name, .slice A1 p.conds.length c1, .slice A2 p.acts.length c2]))
 clear hw1
 obtain ⟨p0, p1, p2⟩ := Kp.out.c3
 have pz := Kp.out.lt
 have HHV := Lib.hid (fun W (hb : Below w.heap.size w W) => heavy_is n p A1 A2 c1 c2 W (H1.out.new_ hb) (H2.out.new_ hb))
 cases hv : heavyP n p
 · skip
   have hc := HHV.out
   simp only [hv] at hc
   have HHW := Lib.hid hc
   have HLI := Lib.hid (heavyP_light hv)
   clear hc hv
   go_wp2_with fail
   with_reducible refine (HHW.out _ (by (repeat (first | exact Below.refl _ _ | exact HB.out | refine Below.drew ?_ | refine Below.al ?_ _ | refine Below.sc ?_ _)))).mono ?_
   rintro e w2 ⟨rfl, hb⟩
   have hbs := Below.trans (show Below w1.heap.size w1 _ from (by (repeat (first | exact Below.refl _ _ | refine Below.drew ?_ | refine Below.al ?_ _ | refine Below.sc ?_ _)))) (hb.mono (by simp <;> omega))
   have Kp := Lib.hid (Kp.out.new_ hbs)
   have HB := Lib.hid (HB.out.trans (hbs.mono HB.out.size))
   have hsz2 := hbs.size
   clear p0 p1 p2 pz hb hbs
   obtain ⟨p0, p1, p2⟩ := Kp.out.c3
   have pz := Kp.out.lt
   have hb0 := fun W (hb : Below w.heap.size w W) => binds_is l W (H3.out.new_ hb)
   cases hbl : bindsB l
   · skip
     simp only [hbl] at hb0
     have HBI := Lib.hid hb0
     clear hb0 hbl
     go_wp2_with fail
     with_reducible refine (HBI.out _ (by (repeat (first | exact Below.refl _ _ | exact HB.out | refine Below.drew ?_ | refine Below.al ?_ _ | refine Below.sc ?_ _)))).mono ?_
     rintro e w0 ⟨rfl, rfl⟩
     go_wp2_with fail
     with_reducible refine (wakes15_is _).mono ?_
     rintro e w3 ⟨rfl, hb⟩
     have hbs := Below.trans (show Below w2.heap.size w2 _ from (by (repeat (first | exact Below.refl _ _ | refine Below.drew ?_ | refine Below.al ?_ _ | refine Below.sc ?_ _)))) (hb.mono (by simp <;> omega))
     have Kp := Lib.hid (Kp.out.new_ hbs)
     have HB := Lib.hid (HB.out.trans (hbs.mono HB.out.size))
     have hsz3 := hbs.size
     clear p0 p1 p2 pz hb hbs
     obtain ⟨p0, p1, p2⟩ := Kp.out.c3
     have pz := Kp.out.lt
     go_wp2_with fail
     go_ret
     exact ⟨rfl, by (repeat (first | exact Below.refl _ _ | exact HB.out | refine Below.drew ?_ | refine Below.al ?_ _ | refine Below.sc ?_ _))⟩
   · skip
     simp only [hbl] at hb0
     have HBI := Lib.hid hb0
     have h40 : l.length ≤ 40 := by have := hbl; simp only [bindsB, Bool.and_eq_true, decide_eq_true_eq] at this; exact this.1
     clear hb0 hbl
     go_wp2_with fail
     with_reducible refine (HBI.out _ (by (repeat (first | exact Below.refl _ _ | exact HB.out | refine Below.drew ?_ | refine Below.al ?_ _ | refine Below.sc ?_ _)))).mono ?_
     rintro e w0 ⟨rfl, rfl⟩
     obtain ⟨hcn, hfl, ha40, _⟩ := HLI.out
     obtain ⟨⟨ca, ce, cn⟩, hck⟩ : ∃ r, r = checkP 20 p := ⟨_, rfl⟩
     have hc := fun W (hb : Below w.heap.size w W) => check_is (D := (· < w.heap.size)) p 20 A1 A2 c1 c2 W ((hcn H1.out).new_ hb) (H2.out.new_ hb) (fun k hk => Nat.lt_of_lt_of_le hk hb.size) (Nat.le_trans (hfl 20 0) (by decide)) (by decide)
     simp only [← hck] at hc
     have HCK := Lib.hid hc
     clear hc hcn hfl hck
     go_wp2_with fail
     with_reducible refine (HCK.out _ (by (repeat (first | exact Below.refl _ _ | exact HB.out | refine Below.drew ?_ | refine Below.al ?_ _ | refine Below.sc ?_ _)))).mono ?_
     rintro e w3 ⟨rfl, hb⟩
     have hbs := Below.trans (show Below w2.heap.size w2 _ from (by (repeat (first | exact Below.refl _ _ | refine Below.drew ?_ | refine Below.al ?_ _ | refine Below.sc ?_ _)))) (hb.mono (by simp <;> omega))
     have Kp := Lib.hid (Kp.out.new_ hbs)
     have HB := Lib.hid (HB.out.trans (hbs.mono HB.out.size))
     have hsz3 := hbs.size
     clear p0 p1 p2 pz hb hbs
     obtain ⟨p0, p1, p2⟩ := Kp.out.c3
     have pz := Kp.out.lt
     by_cases hce : ce = 0
     · skip
       have cka : (ce == 0) = true := by simp [hce]
       have ckb : decide (ce = 0) = true := by simp [hce]
       have ck3 : (ce != 0) = false := by simp [hce]
       clear hce
       obtain ⟨xs, hxs⟩ : ∃ xs, xs = doNews l p.acts := ⟨_, rfl⟩
       have hxl : xs.length ≤ 120 := by have := news_len l p.acts; rw [hxs]; omega
       have hc := fun W (hb : Below w.heap.size w W) => rnews_is (D := (· < w.heap.size)) l p A1 A2 A c1 c2 c W (H2.out.new_ hb) (H3.out.new_ hb) (by omega)
       simp only [← hxs] at hc
       have HRN := Lib.hid hc
       have HXS := Lib.hid hxs
       clear hc hxs
       go_wp2_with fail
       with_reducible refine (HRN.out _ (by (repeat (first | exact Below.refl _ _ | exact HB.out | refine Below.drew ?_ | refine Below.al ?_ _ | refine Below.sc ?_ _)))).mono ?_
       rintro e w4 ⟨Ar, cr, rfl, hor, _, hb⟩
       have hbs := Below.trans (show Below w3.heap.size w3 _ from (by (repeat (first | exact Below.refl _ _ | refine Below.drew ?_ | refine Below.al ?_ _ | refine Below.sc ?_ _)))) (hb.mono (by simp <;> omega))
       have Kp := Lib.hid (Kp.out.new_ hbs)
       have HB := Lib.hid (HB.out.trans (hbs.mono HB.out.size))
       have hsz4 := hbs.size
       clear p0 p1 p2 pz hb hbs
       obtain ⟨p0, p1, p2⟩ := Kp.out.c3
       have pz := Kp.out.lt
       have HRR := Lib.hid (strs_row rfl hor)
       have hcr := (strs_row rfl hor).1
       have hcm := (strs_row rfl hor).2.1
       clear hor
       obtain ⟨j, hj1, hj2⟩ := within_nat v (n := xs.length + 1) (by omega)
       have hw : ∀ W, Calls Tryz.prog 13 #[.int .i64 v, .int .i64 ((xs.length : Int) + 1)] W fun e w0 => e = .returned (.int .i64 (j : Int)) ∧ W = w0 := fun W => by
        have := within_is v ((xs.length : Int) + 1) W (by omega)
        rw [show within v ((xs.length : Int) + 1) = (j : Int) by rw [show ((xs.length : Int) + 1) = ((xs.length + 1 : Nat) : Int) by omega]; exact hj1] at this
        exact this
       have HW := Lib.hid hw
       clear hw hj1
       have vw : IntKind.i64.wrap ((xs.length : Int) + 1) = (xs.length : Int) + 1 := IntWalk.i64_in _ (by omega)
       obtain ⟨ys, hys⟩ : ∃ ys, ys = xs.take j := ⟨_, rfl⟩
       have hj : ys.length = j := by rw [hys, List.length_take]; omega
       subst hj
       have HYS := Lib.hid hys
       clear hys
       go_wp2_with fail
       with_reducible refine (HW.out _).mono ?_
       rintro e w0 ⟨rfl, rfl⟩
       go_wp2_with fail
       with_reducible refine (mknews (D := (· < w.heap.size)) l p A A1 A2 c c1 c2 _ (H3.out.new_ (by (repeat (first | exact Below.refl _ _ | exact HB.out | refine Below.drew ?_ | refine Below.al ?_ _ | refine Below.sc ?_ _)))) (by omega)).mono ?_
       rintro e w5 ⟨kb, kp, Ak, ck, rfl, hkb, hkp, hrk, hlb, hlp, hb⟩
       have hbs := Below.trans (show Below w4.heap.size w4 _ from (by (repeat (first | exact Below.refl _ _ | refine Below.drew ?_ | refine Below.al ?_ _ | refine Below.sc ?_ _)))) (hb.mono (by simp <;> omega))
       have Kp := Lib.hid (Kp.out.new_ hbs)
       have HRR := Lib.hid (HRR.out.new_ hbs)
       have HB := Lib.hid (HB.out.trans (hbs.mono HB.out.size))
       have hsz5 := hbs.size
       clear p0 p1 p2 pz hb hbs
       obtain ⟨p0, p1, p2⟩ := Kp.out.c3
       have pz := Kp.out.lt
       have hwn := HB.out.size
       have HITER := Lib.hid (show ∀ W, Below w5.heap.size w5 W → IterO Tryz.prog 48 #[.pointer (some ⟨kb, 0, none⟩), .pointer (some ⟨kp, 0, none⟩)] encStr xs W (· < w5.heap.size) from fun W hW => by
        rw [HXS.out]
        exact newsI_is l p kb kp Ak A1 A2 ck c1 c2 W (hkb.new_ hW) (hkp.new_ hW) hkb.lt hkp.lt ((hrk.weaken (fun k hk => hk.2)).new_ hW) (((H2.out.new_ HB.out).weaken (fun k hk => Nat.lt_of_lt_of_le hk hwn)).new_ hW) (by omega) (by omega))
       have hent : ∀ args w, (callFunc 48 args).run Tryz.prog w = .ok (.enter 48 args) w := fun args w => by kernel_rfl
       have HFI := Lib.hid (show ∀ Y, Below w5.heap.size w5 Y → Calls Tryz.prog 20 #[.func (.func 48) #[] #[.pointer (some ⟨kb, 0, none⟩), .pointer (some ⟨kp, 0, none⟩)], .int .i64 (ys.length : Int)] Y (StrsTo Y ys) from fun Y hY => by
        have := firstO_is (D := (· < w5.heap.size)) 48 #[.pointer (some ⟨kb, 0, none⟩), .pointer (some ⟨kp, 0, none⟩)] xs Y (ys.length : Int) (fun k hk => Nat.lt_of_lt_of_le hk hY.size) (fun W hW => HITER.out W (hY.trans (hW.mono hY.size))) hent (by omega)
        rw [Int.toNat_natCast, ← HYS.out] at this
        exact this)
       have HLI2 := Lib.hid (show ∀ Y, Below w5.heap.size w5 Y → Calls Tryz.prog 21 #[.func (.func 48) #[] #[.pointer (some ⟨kb, 0, none⟩), .pointer (some ⟨kp, 0, none⟩)]] Y (StrsTo Y xs) from fun Y hY =>
        listO_is (D := (· < w5.heap.size)) 48 #[.pointer (some ⟨kb, 0, none⟩), .pointer (some ⟨kp, 0, none⟩)] xs Y (fun k hk => Nat.lt_of_lt_of_le hk hY.size) (fun W hW => HITER.out W (hY.trans (hW.mono hY.size))) hent (by omega))
       have hbe : ∀ W, (binOp .eql 50 (.func (.func 48) #[] #[.pointer (some ⟨kb, 0, none⟩), .pointer (some ⟨kp, 0, none⟩)]) .nilFunc).run Tryz.prog W = .ok (.bool false) W := fun W => by kernel_rfl
       have HTX := Lib.hid (show ∀ (zs : List ByteArray) (Y : World) (Aa Bb : Option Addr) (ca cb : Nat), RowR repStr (fun _ => True) Y Aa ca zs → RowR repStr (fun _ => True) Y Bb cb zs → Calls Tryz.prog 19 #[.slice Aa zs.length ca, .slice Bb zs.length cb] Y fun e w' => e = .returned (.bool true) ∧ Below Y.heap.size Y w' from fun zs Y Aa Bb ca cb g1 g2 => by
        have := texts_is zs zs Y g1 g2
        simpa using this)
       have hyx : ys.length ≤ xs.length := by omega
       have hsl : ∀ Y, (Instr.slice 47 (.slice Ar xs.length cr) none (some (.int .i64 (ys.length : Int))) none).run Tryz.prog Y = .ok (.slice Ar ys.length cr) Y := fun Y => by
        have hl0 : (0 : Int) ≤ (ys.length : Int) := by omega
        have hl1 : (ys.length : Int) ≤ (cr : Int) := by omega
        go_simp
       have HYR := Lib.hid (show ∀ Y, Below w5.heap.size w5 Y → RowR repStr (fun _ => True) Y Ar cr ys from fun Y hY => by rw [HYS.out]; exact (HRR.out.new_ hY).prefix_ _)
       have HXR := Lib.hid (show ∀ Y, Below w5.heap.size w5 Y → RowR repStr (fun _ => True) Y Ar cr xs from fun Y hY => HRR.out.new_ hY)
       clear hkb hkp hrk hlb hlp hent hj2 vw
       go_upto_region 11 with fail
       refine wp_region_E (fun w9 => True) [(0, 0), (1, 0), (3, 0), (4, 0), (5, 0), (2, 2), (6, 2), (7, 0), (8, 0), (10, 0), (9, 2), (11, 2), (12, 0), (13, 0), (14, 2), (15, 0), (16, 0)] (by kernel_rfl) (by kernel_rfl) (fun KK hKK => ?_)
       simp only [beside, List.filterMap_cons, List.filterMap_nil, List.getElem?_toArray, List.getElem?_cons_zero, List.getElem?_cons_succ, Option.map_some]
       repeat ((first | (refine wpX_w ?_ (Or.inl ⟨by rfl, fun w9 => ?_⟩) ?_; rotate_left 1; go_simp; with_reducible rfl) | (refine wpX_l ?_ (trivial) (Or.inl ⟨by rfl, fun w9 hw9 => ?_⟩) ?_; rotate_left 1; skip; go_simp; with_reducible rfl) | refine wpX_w undef (Or.inr ⟨by rfl, rfl⟩) ?_ | refine wpX_l undef (trivial) (Or.inr ⟨by rfl, rfl⟩) ?_); go_frame)
       refine wpX_e (by kernel_rfl) (fun K9 hK9 => ?_)
       go_simp
       refine (HFI.out _ (Below.refl _ _).drew).mono ?_
       rintro e w31 ⟨Aa, ca, rfl, hoa, _, hb31⟩
       have HB31 := Lib.hid ((Below.refl w5.heap.size w5).drew.trans (hb31.mono (by simp)))
       have HRA := Lib.hid (strs_row rfl hoa)
       clear hoa
       clear hb31
       refine hK9 _ _ ?_
       clear hK9 K9
       refine wpX_e (by kernel_rfl) (fun K9 hK9 => ?_)
       go_simp
       refine (HTX.out ys _ Aa Ar ca cr HRA.out (HYR.out _ HB31.out)).mono ?_
       rintro e w32 ⟨rfl, hb32⟩
       have HB32 := Lib.hid (HB31.out.trans (hb32.mono HB31.out.size))
       clear hb32
       refine hK9 _ _ ?_
       clear hK9 K9
       repeat ((first | (refine wpX_w ?_ (Or.inl ⟨by rfl, fun w9 => ?_⟩) ?_; rotate_left 1; go_simp; with_reducible rfl) | (refine wpX_l ?_ (trivial) (Or.inl ⟨by rfl, fun w9 hw9 => ?_⟩) ?_; rotate_left 1; skip; go_simp; with_reducible rfl) | refine wpX_w undef (Or.inr ⟨by rfl, rfl⟩) ?_ | refine wpX_l undef (trivial) (Or.inr ⟨by rfl, rfl⟩) ?_); go_frame)
       refine wpX_e (by kernel_rfl) (fun K9 hK9 => ?_)
       go_simp
       refine (HLI2.out _ HB32.out).mono ?_
       rintro e w33 ⟨Ab, cb, rfl, hob, _, hb33⟩
       have HB33 := Lib.hid (HB32.out.trans (hb33.mono HB32.out.size))
       have HRB := Lib.hid (strs_row rfl hob)
       clear hob
       clear hb33
       refine hK9 _ _ ?_
       clear hK9 K9
       refine wpX_e (by kernel_rfl) (fun K9 hK9 => ?_)
       go_simp
       refine (HTX.out xs _ Ab Ar cb cr HRB.out (HXR.out _ HB33.out)).mono ?_
       rintro e w34 ⟨rfl, hb34⟩
       have HB34 := Lib.hid (HB33.out.trans (hb34.mono HB33.out.size))
       clear hb34
       refine hK9 _ _ ?_
       clear hK9 K9
       repeat ((first | (refine wpX_w ?_ (Or.inl ⟨by rfl, fun w9 => ?_⟩) ?_; rotate_left 1; go_simp; with_reducible rfl) | (refine wpX_l ?_ (trivial) (Or.inl ⟨by rfl, fun w9 hw9 => ?_⟩) ?_; rotate_left 1; skip; go_simp; with_reducible rfl) | refine wpX_w undef (Or.inr ⟨by rfl, rfl⟩) ?_ | refine wpX_l undef (trivial) (Or.inr ⟨by rfl, rfl⟩) ?_); go_frame)
       refine wpX_e (by kernel_rfl) (fun K9 hK9 => ?_)
       go_simp
       refine (wakes15_is _).mono ?_
       rintro e w35 ⟨rfl, hb35⟩
       have HB35 := Lib.hid (HB34.out.trans (hb35.mono HB34.out.size))
       clear hb35
       refine hK9 _ _ ?_
       clear hK9 K9
       repeat ((first | (refine wpX_w ?_ (Or.inl ⟨by rfl, fun w9 => ?_⟩) ?_; rotate_left 1; go_simp; with_reducible rfl) | (refine wpX_l ?_ (trivial) (Or.inl ⟨by rfl, fun w9 hw9 => ?_⟩) ?_; rotate_left 1; skip; go_simp; with_reducible rfl) | refine wpX_w undef (Or.inr ⟨by rfl, rfl⟩) ?_ | refine wpX_l undef (trivial) (Or.inr ⟨by rfl, rfl⟩) ?_); go_frame)
       refine wpX_nil ?_
       simp only [OnlyN_normal]
       refine hKK _ _ ?_
       clear hKK KK
       go_wp2_with fail
       go_ret
       exact ⟨rfl, HB.out.trans (HB35.out.mono HB.out.size)⟩
     · skip
       have cka : (ce == 0) = false := by simp [hce]
       have ckb : decide (ce = 0) = false := by simp [hce]
       have ck3 : (ce != 0) = true := by simp [hce]
       clear hce
       go_wp2_with fail
       with_reducible refine (wakes15_is _).mono ?_
       rintro e w4 ⟨rfl, hb⟩
       have hbs := Below.trans (show Below w3.heap.size w3 _ from (by (repeat (first | exact Below.refl _ _ | refine Below.drew ?_ | refine Below.al ?_ _ | refine Below.sc ?_ _)))) (hb.mono (by simp <;> omega))
       have Kp := Lib.hid (Kp.out.new_ hbs)
       have HB := Lib.hid (HB.out.trans (hbs.mono HB.out.size))
       have hsz4 := hbs.size
       clear p0 p1 p2 pz hb hbs
       obtain ⟨p0, p1, p2⟩ := Kp.out.c3
       have pz := Kp.out.lt
       go_wp2_with fail
       go_ret
       exact ⟨rfl, by (repeat (first | exact Below.refl _ _ | exact HB.out | refine Below.drew ?_ | refine Below.al ?_ _ | refine Below.sc ?_ _))⟩
 · skip
   have hc := HHV.out
   simp only [hv] at hc
   have HHW := Lib.hid hc
   clear hc hv
   go_wp2_with fail
   with_reducible refine (HHW.out _ (by (repeat (first | exact Below.refl _ _ | exact HB.out | refine Below.drew ?_ | refine Below.al ?_ _ | refine Below.sc ?_ _)))).mono ?_
   rintro e w2 ⟨rfl, hb⟩
   have hbs := Below.trans (show Below w1.heap.size w1 _ from (by (repeat (first | exact Below.refl _ _ | refine Below.drew ?_ | refine Below.al ?_ _ | refine Below.sc ?_ _)))) (hb.mono (by simp <;> omega))
   have Kp := Lib.hid (Kp.out.new_ hbs)
   have HB := Lib.hid (HB.out.trans (hbs.mono HB.out.size))
   have hsz2 := hbs.size
   clear p0 p1 p2 pz hb hbs
   obtain ⟨p0, p1, p2⟩ := Kp.out.c3
   have pz := Kp.out.lt
   go_wp2_with fail
   with_reducible refine (wakes15_is _).mono ?_
   rintro e w3 ⟨rfl, hb⟩
   have hbs := Below.trans (show Below w2.heap.size w2 _ from (by (repeat (first | exact Below.refl _ _ | refine Below.drew ?_ | refine Below.al ?_ _ | refine Below.sc ?_ _)))) (hb.mono (by simp <;> omega))
   have Kp := Lib.hid (Kp.out.new_ hbs)
   have HB := Lib.hid (HB.out.trans (hbs.mono HB.out.size))
   have hsz3 := hbs.size
   clear p0 p1 p2 pz hb hbs
   obtain ⟨p0, p1, p2⟩ := Kp.out.c3
   have pz := Kp.out.lt
   go_wp2_with fail
   go_ret
   exact ⟨rfl, by (repeat (first | exact Below.refl _ _ | exact HB.out | refine Below.drew ?_ | refine Below.al ?_ _ | refine Below.sc ?_ _))⟩
end Go.Proofs.YtpndmjabjjbefaaGreat
