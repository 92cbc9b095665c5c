/-
  The example of chapter 21: its walk.
-/
import Derived.Test.YtnfgilbaglfkeaaBd
import Derived.Test.YtnfgilbaglfkeaaBj
import Derived.Test.YtnfgilbaglfkeaaBi
import Derived.Lib.MinMax
import Derived.Test.YtnfgilbaglfkeaaBb
import Derived.Test.YtnfgilbaglfkeaaBc
import Derived.Maps.RangeWalk
namespace Go.Proofs.Ytnfgilbaglfkeaa
open Go.RowKit Go.Shelf
def trailL (l : List RecordT) (lv : Int) (nums : List Int) : TrailV := trailV (lookR l) lv (reach (lookR l) lv (l.map RecordT.num) nums [])
def TrRep (n : Nat) (T : TrailV) (D : Nat → Prop) (w : World) (A1 : Option Addr) (c1 : Nat) (A2 : Option Addr) (c2 : Nat) (A3 : Option Addr) (c3 : Nat) (A4 : Option Addr) (c4 : Nat) : Prop :=
 RowR repTraceT D w A1 c1 T.elems ∧ RowR (repHoleT n) D w A2 c2 T.holes ∧ RowR repApartT D w A3 c3 T.aparts ∧ RowR repSym D w A4 c4 T.news
theorem rowlt {α : Type} {r : RepT α} {w w' : World} {A : Option Addr} {c : Nat} {l : List α} (h : RowR r (· < w.heap.size) w A c l) (hb : Below w.heap.size w w') : RowR r (· < w'.heap.size) w' A c l :=
 h.keep hb.size (fun k hk hl => ⟨Nat.lt_of_lt_of_le hk hb.size, hb.block k hl⟩)
section
variable {n : Nat} {T : TrailV} {D : Nat → Prop} {w w' : World} {A1 A2 A3 A4 : Option Addr} {c1 c2 c3 c4 : Nat}
theorem TrRep.new_ (h : TrRep n T D w A1 c1 A2 c2 A3 c3 A4 c4) (hb : Below w.heap.size w w') : TrRep n T D w' A1 c1 A2 c2 A3 c3 A4 c4 := ⟨h.1.new_ hb, h.2.1.new_ hb, h.2.2.1.new_ hb, h.2.2.2.new_ hb⟩
theorem TrRep.below {B : Nat} (h : TrRep n T D w A1 c1 A2 c2 A3 c3 A4 c4) (hb : Below B w w') (hD : ∀ k, D k → k < B) : TrRep n T D w' A1 c1 A2 c2 A3 c3 A4 c4 :=
 have k : ∀ k, D k → k < w.heap.size → D k ∧ w'.heap[k]? = w.heap[k]? := fun k hk _ => ⟨hk, hb.block k (hD k hk)⟩
 ⟨h.1.keep hb.size k, h.2.1.keep hb.size k, h.2.2.1.keep hb.size k, h.2.2.2.keep hb.size k⟩
end
def TrailPost (n : Nat) (T : TrailV) (w : World) (e : Ending) (w' : World) : Prop :=
 ∃ A1 c1 A2 c2 A3 c3 A4 c4, e = .returned (.agg #[.slice A1 T.elems.length c1, .slice A2 T.holes.length c2, .slice A3 T.aparts.length c3, .slice A4 T.news.length c4, .int .i64 (T.visited : Nat), .int .i64 (T.lost : Nat)]) ∧
   TrRep n T (· < w'.heap.size) w' A1 c1 A2 c2 A3 c3 A4 c4 ∧ Below w.heap.size w w'
theorem grown_int {B : Nat} {w w' : World} {A : Option Addr} {c : Nat} {xs ys : List Int} {v : Value} (hown : w'.ownsRow 0 3 1 v (xs.length + ys.length) (xs.flatMap Int.cells1 ++ ys.flatMap Int.cells1)) (hg : w.grownBy w' (Value.slice A xs.length c).ownBlock)
 (hat : v.ownBlock = (Value.slice A xs.length c).ownBlock ∨ v.ownBlock = some w.heap.size) (hA : AIn A (B ≤ ·)) (hB : B ≤ w.heap.size) :
 ∃ A' c', v = .slice A' (xs ++ ys).length c' ∧ w'.ownsRow 0 3 1 (.slice A' (xs ++ ys).length c') (xs ++ ys).length ((xs ++ ys).flatMap Int.cells1) ∧ AIn A' (B ≤ ·) ∧ Below B w w' := by
 rw [← List.length_append, ← List.flatMap_append] at hown
 obtain ⟨A', c', rfl, _⟩ := own_form2 hown
 have hown2 : ∀ k, (Value.slice A xs.length c).ownBlock = some k → B ≤ k := fun k hk => by
  cases A with
  | none => cases hk
  | some a => simp only [Value.ownBlock, Option.some.injEq] at hk; rw [← hk]; exact hA a rfl
 refine ⟨A', c', rfl, hown, fun a ha => ?_, (Below.refl B w).grown hg hB hown2⟩
 subst ha
 rcases hat with h | h
 · exact hown2 _ h.symm
 · simp only [Value.ownBlock, Option.some.injEq] at h
   omega
theorem lawwalk {n kb : Nat} {A Ai : Option Addr} {c ci : Nat} {l : List RecordT} (lv : Int) {nums : List Int} (w : World) (hk : Blk w kb 23 #[.slice A l.length c]) (hr : RowR (repRecordT n) (· < w.heap.size) w A c l) (h0 : l.length ≤ 20 ∧ ∀ r ∈ l, SmR n r ∧ r.elems.length ≤ 20) (hi : RowRd w 1 Int.cells1 Ai ci nums) (hn : nums.length ≤ 100) :
 Calls Try.prog 11 #[.int .i64 lv, .slice Ai nums.length ci, .func (.func 47) #[] #[.pointer (some ⟨kb, 0, none⟩)]] w (TrailPost n (trailL l lv nums) w) := by
 have hf := find_spec n kb w.heap.size l A c w hk hr (fun r hr => (h0.2 r hr).1) (Nat.le_refl _) hk.lt
 have h1 := light_cost (l := l) h0.1 (fun r hr => (h0.2 r hr).2) lv nums hn
 refine (walk_is hf (l.map RecordT.num) (lookR_keys l) (lookR_all (smR_zero n) (fun r hr => (h0.2 r hr).1)) lv nums Ai ci (E0 := fun _ => False) w ⟨fun _ h => h, Below.refl _ _, Nat.le_refl _⟩ (Nat.le_refl _) hi h1.1 h1.2).mono ?_
 rintro e w' ⟨A1, c1, A2, c2, A3, c3, A4, c4, E', he, g1, g2, g3, g4, hG, _, _⟩
 exact ⟨A1, c1, A2, c2, A3, c3, A4, c4, he, ⟨g1, g2, g3, g4⟩, hG.2.1⟩
theorem tag_at {D : Nat → Prop} {w : World} {A : Option Addr} {c k : Nat} {l : List TraceT} (h : RowR repTraceT D w A c l) (hk : k < l.length) : ∃ g off, A = some ⟨g, off, none⟩ ∧ g < w.heap.size ∧ w.cell? ⟨g, off + k * 14 + 11, none⟩ = some (.int .i64 l[k].elem.tag) := by
 obtain ⟨g, off, hA, _, hg, _, _, _, _, _, _, _, _, _, _, _, h11, _, _⟩ := at_TraceT h hk
 exact ⟨g, off, hA, hg, h11⟩
end Go.Proofs.Ytnfgilbaglfkeaa
namespace Go.Proofs.Ytnfgilbaglfkeaa
open Go.RowKit Go.Shelf
def goK (most : Nat) (f : CondT → Nat) : List CondT → Nat → Nat
 | [], s => s
 | c :: l, s => if s ≤ most then goK most f l (s + (1 + f c)) else s
def sizeK (most : Nat) : Nat → Nat → List CondT → Nat
 | 0, d, l => if 20 < d then most + 1 else if l = [] then 0 else most + 1
 | n + 1, d, l => if 20 < d then most + 1 else min (goK most (fun c => sizeK most n (d + 1) c.conds) l 0) (most + 1)
theorem goK_ge (most : Nat) (f : CondT → Nat) : ∀ (l : List CondT) (s : Nat), s ≤ goK most f l s
 | [], s => Nat.le_refl _
 | c :: l, s => by
   rw [goK]
   split
   · have := goK_ge most f l (s + (1 + f c)); omega
   · omega
theorem goK_all (most : Nat) (f : CondT → Nat) : ∀ (l : List CondT) (s : Nat), goK most f l s ≤ most → goK most f l s = s + (l.map fun c => 1 + f c).sum ∧ ∀ c ∈ l, f c ≤ most
 | [], s, _ => by simp [goK]
 | c :: l, s, h => by
   rw [goK] at h ⊢
   by_cases hs : s ≤ most
   · rw [if_pos hs] at h ⊢
     obtain ⟨h1, h2⟩ := goK_all most f l _ h
     have := goK_ge most f l (s + (1 + f c))
     refine ⟨by rw [h1, List.map_cons, List.sum_cons]; omega, fun x hx => ?_⟩
     rcases List.mem_cons.1 hx with rfl | hx
     · omega
     · exact h2 x hx
   · rw [if_neg hs] at h
     omega
theorem goK_snoc (most : Nat) (f : CondT → Nat) : ∀ (l : List CondT) (c : CondT) (s : Nat), goK most f (l ++ [c]) s = if goK most f l s ≤ most then goK most f l s + (1 + f c) else goK most f l s
 | [], c, s => rfl
 | x :: l, c, s => by
   rw [List.cons_append, goK, goK]
   by_cases hs : s ≤ most
   · rw [if_pos hs, if_pos hs, goK_snoc most f l c]
   · rw [if_neg hs, if_neg hs, if_neg hs]
theorem goK_stop (most : Nat) (f : CondT → Nat) : ∀ (l m : List CondT) (s : Nat), ¬ goK most f l s ≤ most → goK most f (l ++ m) s = goK most f l s
 | [], m, s, h => by
   rw [goK] at h
   cases m with
   | nil => rfl
   | cons c m => simp only [List.nil_append, goK]; rw [if_neg h]
 | x :: l, m, s, h => by
   rw [List.cons_append, goK, goK]
   rw [goK] at h
   by_cases hs : s ≤ most
   · rw [if_pos hs, if_pos hs]
     rw [if_pos hs] at h
     exact goK_stop most f l m _ h
   · rw [if_neg hs, if_neg hs]
theorem sum_le_of {α : Type} (f g : α → Nat) : ∀ l : List α, (∀ c ∈ l, f c ≤ g c) → (l.map f).sum ≤ (l.map g).sum
 | [], _ => Nat.le_refl _
 | c :: l, h => by
   rw [List.map_cons, List.map_cons, List.sum_cons, List.sum_cons]
   have h1 := h c List.mem_cons_self
   have h2 := sum_le_of f g l (fun x hx => h x (List.mem_cons_of_mem _ hx))
   omega
theorem sizeK_deep (most : Nat) : ∀ (n d : Nat) (l : List CondT), sizeK most n d l ≤ most → d ≤ 20 ∧ ∀ {D : Nat → Prop} {w : World} {A : Option Addr} {c : Nat}, RowR (repCondT n) D w A c l → RowR (repCondT (20 - d)) D w A c l
 | 0, d, l, h => by
   rw [sizeK] at h
   by_cases h1 : 20 < d
   · rw [if_pos h1] at h; omega
   · rw [if_neg h1] at h
     by_cases h2 : l = []
     · subst h2
       exact ⟨by omega, fun g => ⟨g.1, g.2.1, fun h => absurd h (by simp)⟩⟩
     · rw [if_neg h2] at h; omega
 | n + 1, d, l, h => by
   rw [sizeK] at h
   by_cases h1 : 20 < d
   · rw [if_pos h1] at h; omega
   · rw [if_neg h1] at h
     obtain ⟨_, h3⟩ := goK_all most (fun c => sizeK most n (d + 1) c.conds) l 0 (by omega)
     refine ⟨by omega, fun {D w A c} g => ?_⟩
     refine ⟨g.1, g.2.1, fun h0 => ?_⟩
     obtain ⟨b, off, g1, g2, g3, g4⟩ := g.2.2 h0
     obtain ⟨d1, _⟩ := sizeK_deep most n (d + 1) _ (h3 l[0] (List.getElem_mem h0))
     obtain ⟨k, hk⟩ : ∃ k, 20 - d = k + 1 := ⟨20 - d - 1, by omega⟩
     refine ⟨b, off, g1, g2, g3, fun j hj => ?_⟩
     obtain ⟨cs, r, hc⟩ := g4 j hj
     obtain ⟨A1, c1, A2, c2, A3, c3, e0, e1, e2, e3⟩ := r
     have h5 := (sizeK_deep most n (d + 1) _ (h3 l[j] (List.getElem_mem hj))).2 e3
     rw [hk]
     rw [show 20 - (d + 1) = k by omega] at h5
     exact ⟨cs, ⟨A1, c1, A2, c2, A3, c3, e0, e1, e2, h5⟩, hc⟩
def heavyT (t : TestT) : Bool := decide (20 < t.list.length) || (decide (100 < t.var.size) || decide (100 < t.sym.text.size))
def heavyO (c : CondT) : Bool := decide (100 < c.id.size) || (decide (10 < c.attr.length) || (decide (10 < c.value.length) || (c.attr.any heavyT || c.value.any heavyT)))
def heavyC : Nat → List CondT → Bool
 | 0, _ => false
 | n + 1, l => l.any fun c => heavyO c || heavyC n c.conds
set_option maxRecDepth 100000 in
set_option maxHeartbeats 2000000 in
theorem heavyTests_is {D : Nat → Prop} {A : Option Addr} {c : Nat} (l : List TestT) (w : World) (h : RowR repTestT D w A c l) : Calls Try.prog 54 #[.slice A l.length c] w fun e w' => e = .returned (.bool (l.any heavyT)) ∧ w = w' := by
 have H := Lib.hid h
 have hlc := h.cap
 clear h
 go_enter Try.func54, Try.ntmps54
 go_wp2_with fail
 go_loopw [3] (fun s wr => ∃ i : Nat, s = .int .i64 i ∧ i ≤ l.length ∧ (∀ k, (h : k < l.length) → k < i → heavyT l[k] = false) ∧ wr = w) (fun s wr => l.length - (intOf s).toNat)
 case atStart => exact ⟨0, rfl, Nat.zero_le _, fun k _ h => absurd h (by omega), rfl⟩
 case round =>
  obtain ⟨i, rfl, hi, hall, rfl⟩ := hrel
  have HALL := Lib.hid hall
  clear hall
  by_cases hlt : i < l.length
  · obtain ⟨x, hx⟩ : ∃ x, x = l[i] := ⟨_, rfl⟩
    obtain ⟨g, off, A1, c1, rfl, _, hgs, q0, q1, q2, q3, q4, q5, hr⟩ := at_TestT H.out hlt
    rw [← hx] at q0 q1 q2 q3 q4 q5 hr
    have hcap := hr.cap
    have b1 : (0 : Int) ≤ (i : Int) := by omega
    have b2 : (i : Int) < (l.length : Int) := by omega
    have HX := Lib.hid hx
    have HYES := Lib.hid (show heavyT x = true → l.any heavyT = true from fun h => List.any_eq_true.2 ⟨x, by rw [HX.out]; exact List.getElem_mem hlt, h⟩)
    clear hx hr
    cases t1 : decide (20 < x.list.length)
    · cases t2 : decide (100 < x.var.size)
      · cases t3 : decide (100 < x.sym.text.size)
        · have s1 : decide ((20 : Int) < (x.list.length : Int)) = false := by simp at t1 ⊢; omega
          have s2 : decide ((100 : Int) < (x.var.size : Int)) = false := by simp at t2 ⊢; omega
          have s3 : decide ((100 : Int) < (x.sym.text.size : Int)) = false := by simp at t3 ⊢; omega
          have HN := Lib.hid (show heavyT x = false by simp [heavyT, t1, t2, t3])
          clear t1 t2 t3
          go_wp2_with fail
          go_roundw
          case rel =>
           refine ⟨i + 1, by go_num, by omega, fun k h hk => ?_, by trivial⟩
           rcases Nat.lt_or_ge k i with h3 | h3
           · exact HALL.out k h h3
           · obtain rfl : k = i := by omega
             rw [← HX.out]
             exact HN.out
          case measure => simp [intOf] <;> omega
        · have s1 : decide ((20 : Int) < (x.list.length : Int)) = false := by simp at t1 ⊢; omega
          have s2 : decide ((100 : Int) < (x.var.size : Int)) = false := by simp at t2 ⊢; omega
          have s3 : decide ((100 : Int) < (x.sym.text.size : Int)) = true := by simp at t3 ⊢; omega
          have HN := Lib.hid (HYES.out (by simp [heavyT, t3]))
          clear t1 t2 t3
          go_wp2_with fail
          go_ret
          exact ⟨by rw [HN.out]; rfl, rfl⟩
      · have s1 : decide ((20 : Int) < (x.list.length : Int)) = false := by simp at t1 ⊢; omega
        have s2 : decide ((100 : Int) < (x.var.size : Int)) = true := by simp at t2 ⊢; omega
        have HN := Lib.hid (HYES.out (by simp [heavyT, t2]))
        clear t1 t2
        go_wp2_with fail
        go_ret
        exact ⟨by rw [HN.out]; rfl, rfl⟩
    · have s1 : decide ((20 : Int) < (x.list.length : Int)) = true := by simp at t1 ⊢; omega
      have HN := Lib.hid (HYES.out (by simp [heavyT, t1]))
      clear t1
      go_wp2_with fail
      go_ret
      exact ⟨by rw [HN.out]; rfl, rfl⟩
  · have hie : i = l.length := by omega
    subst hie
    have HN := Lib.hid (show l.any heavyT = false by
     rw [List.any_eq_false]
     intro x hx
     obtain ⟨k, hk, rfl⟩ := List.getElem_of_mem hx
     simp [HALL.out k hk hk])
    go_wp2_with fail
    go_ret
    exact ⟨by rw [HN.out]; rfl, rfl⟩
set_option maxRecDepth 100000 in
set_option maxHeartbeats 4000000 in
theorem size_is (most : Nat) (hm : most ≤ 1000) : ∀ (n : Nat) (D : Nat → Prop) (A : Option Addr) (c : Nat) (d : Nat) (l : List CondT) (w : World), RowR (repCondT n) D w A c l → d ≤ 21 →
 Calls Try.prog 22 #[.slice A l.length c, .int .i64 (most : Int), .int .i64 (d : Int)] w fun e w' => e = .returned (.int .i64 (sizeK most n d l : Int)) ∧ w = w' := by
 intro n
 induction n with
 | zero =>
   intro D A c d l w h hd
   have hl0 : l = [] := by
    cases l with
    | nil => rfl
    | cons x l =>
      obtain ⟨b, off, cs, _, _, _, hr, _⟩ := h.at_ (k := 0) (by simp)
      exact hr.elim
   subst hl0
   clear h
   by_cases h20 : 20 < d
   · have t1 : decide ((20 : Int) < (d : Int)) = true := by simp; omega
     have v1 : IntKind.i64.wrap ((most : Int) + 1) = (most : Int) + 1 := IntWalk.i64_in _ (by omega)
     have HR := Lib.hid (show ((sizeK most 0 d [] : Nat) : Int) = (most : Int) + 1 by rw [sizeK, if_pos h20]; rfl)
     clear h20
     go_enter Try.func22, Try.ntmps22
     go_wp2_with fail
     go_ret
     exact ⟨by rw [HR.out]; rfl, rfl⟩
   · have t1 : decide ((20 : Int) < (d : Int)) = false := by simp; omega
     have v1 : IntKind.i64.wrap ((most : Int) + 1) = (most : Int) + 1 := IntWalk.i64_in _ (by omega)
     have HR := Lib.hid (show ((sizeK most 0 d [] : Nat) : Int) = 0 by rw [sizeK, if_neg h20, if_pos rfl]; rfl)
     have hmin : min (0 : Int) ((most : Int) + 1) = 0 := by omega
     clear h20
     go_enter Try.func22, Try.ntmps22
     go_wp2_with fail
     go_loopw [7, 8] (fun a s wr => s = .int .i64 0 ∧ a = .int .i64 0 ∧ wr = w) (fun a s wr => 0)
     case atStart => exact ⟨rfl, rfl, rfl⟩
     case round =>
      obtain ⟨rfl, rfl, rfl⟩ := hrel
      go_wp2_with fail
      go_ret
      exact ⟨by rw [HR.out]; rfl, rfl⟩
 | succ n ih =>
   intro D A c d l w h hd
   have IH := Lib.hid ih
   have H := Lib.hid h
   have hlc := h.cap
   clear h ih
   have v1 : IntKind.i64.wrap ((most : Int) + 1) = (most : Int) + 1 := IntWalk.i64_in _ (by omega)
   by_cases h20 : 20 < d
   · have t1 : decide ((20 : Int) < (d : Int)) = true := by simp; omega
     have HR := Lib.hid (show ((sizeK most (n + 1) d l : Nat) : Int) = (most : Int) + 1 by rw [sizeK, if_pos h20]; rfl)
     clear h20
     go_enter Try.func22, Try.ntmps22
     go_wp2_with fail
     go_ret
     exact ⟨by rw [HR.out]; rfl, rfl⟩
   · have t1 : decide ((20 : Int) < (d : Int)) = false := by simp; omega
     obtain ⟨f, hf⟩ : ∃ f : CondT → Nat, f = fun c => sizeK most n (d + 1) c.conds := ⟨_, rfl⟩
     have hfle : ∀ c, f c ≤ most + 1 := fun c => by
      rw [hf]
      cases n with
      | zero => simp only [sizeK]; split; omega; split <;> omega
      | succ n => simp only [sizeK]; split; omega; omega
     have HFLE := Lib.hid hfle
     have HR := Lib.hid (show ((sizeK most (n + 1) d l : Nat) : Int) = min ((goK most f l 0 : Nat) : Int) ((most : Int) + 1) by rw [sizeK, if_neg h20, ← hf]; omega)
     have HF := Lib.hid hf
     have hd20 : d ≤ 20 := by omega
     clear h20 hfle hf
     go_enter Try.func22, Try.ntmps22
     go_wp2_with fail
     go_loopw [7, 8] (fun a s wr => ∃ i : Nat, s = .int .i64 i ∧ i ≤ l.length ∧ a = .int .i64 ((goK most f (l.take i) 0 : Nat) : Int) ∧ goK most f (l.take i) 0 ≤ 2 * most + 2 ∧ wr = w) (fun a s wr => l.length - (intOf s).toNat)
     case atStart => exact ⟨0, rfl, Nat.zero_le _, rfl, by simp [goK], rfl⟩
     case round =>
      obtain ⟨i, rfl, hi, rfl, hle, rfl⟩ := hrel
      obtain ⟨s, hs⟩ : ∃ s, s = goK most f (l.take i) 0 := ⟨_, rfl⟩
      rw [← hs] at hle ⊢
      have HS := Lib.hid hs
      clear hs
      by_cases hlt : i < l.length
      · by_cases hsm : s ≤ most
        · have t2 : decide ((s : Int) ≤ (most : Int)) = true := by simp; omega
          obtain ⟨x, hx⟩ : ∃ x, x = l[i] := ⟨_, rfl⟩
          obtain ⟨g, off, A1, c1, A2, c2, A3, c3, rfl, _, hgs, q0, q1, q2, q3, q4, q5, q6, r1, r2, r3⟩ := at_CondT H.out hlt
          rw [← hx] at q6 r3
          have HR3 := Lib.hid r3
          have hn3 := r3.cap
          have b1 : (0 : Int) ≤ (i : Int) := by omega
          have b2 : (i : Int) < (l.length : Int) := by omega
          obtain ⟨y, hy⟩ : ∃ y, y = f x := ⟨_, rfl⟩
          have hyle : y ≤ most + 1 := by rw [hy]; exact HFLE.out x
          have HCL := Lib.hid (show Calls Try.prog 22 #[.slice A3 x.conds.length c3, .int .i64 (most : Int), .int .i64 ((d : Int) + 1)] wr fun e w' => e = .returned (.int .i64 (y : Int)) ∧ wr = w' by
           have := IH.out D A3 c3 (d + 1) x.conds wr HR3.out (by omega)
           rw [hy, HF.out]
           exact this)
          have HN := Lib.hid (show goK most f (l.take (i + 1)) 0 = s + (1 + y) by
           rw [List.take_succ_eq_append_getElem hlt, goK_snoc, ← HS.out, if_pos hsm, ← hx, hy])
          have v2 : IntKind.i64.wrap ((d : Int) + 1) = (d : Int) + 1 := IntWalk.i64_in _ (by omega)
          have v3 : IntKind.i64.wrap (1 + (y : Int)) = 1 + (y : Int) := IntWalk.i64_in _ (by omega)
          have v4 : IntKind.i64.wrap ((s : Int) + (1 + (y : Int))) = (s : Int) + (1 + (y : Int)) := IntWalk.i64_in _ (by omega)
          clear hx hy r1 r2 r3 q0 q1 q2 q3 q4 q5
          go_wp2_with fail
          refine HCL.out.mono ?_
          rintro e w2 ⟨rfl, rfl⟩
          go_wp2_with fail
          go_roundw
          case rel => exact ⟨i + 1, by go_num, by omega, by rw [HN.out]; simp, by rw [HN.out]; omega, by trivial⟩
          case measure => simp [intOf] <;> omega
        · have t2 : decide ((s : Int) ≤ (most : Int)) = false := by simp; omega
          have b2 : (i : Int) < (l.length : Int) := by omega
          have hmin : min (s : Int) ((most : Int) + 1) = (most : Int) + 1 := by omega
          have HN := Lib.hid (show goK most f l 0 = s by
           have := goK_stop most f (l.take i) (l.drop i) 0 (by rw [← HS.out]; exact hsm)
           rwa [List.take_append_drop, ← HS.out] at this)
          clear hsm
          go_wp2_with fail
          go_ret
          exact ⟨by rw [HR.out, HN.out, hmin]; rfl, rfl⟩
      · have hie : i = l.length := by omega
        subst hie
        have HN := Lib.hid (show goK most f l 0 = s by rw [HS.out, List.take_length])
        obtain ⟨z, hz⟩ : ∃ z, z = min (s : Int) ((most : Int) + 1) := ⟨_, rfl⟩
        have HZ := Lib.hid hz
        clear hz
        go_wp2_with fail
        go_ret
        exact ⟨by rw [HR.out, HN.out]; rfl, rfl⟩
theorem heavyC_succ (n : Nat) (l : List CondT) : heavyC (n + 1) l = l.any fun c => heavyO c || heavyC n c.conds := rfl
set_option maxRecDepth 100000 in
set_option maxHeartbeats 4000000 in
theorem heavyConds_is : ∀ (n : Nat) (D : Nat → Prop) (A : Option Addr) (c : Nat) (l : List CondT) (w : World), RowR (repCondT n) D w A c l →
 Calls Try.prog 23 #[.slice A l.length c] w fun e w' => e = .returned (.bool (heavyC n l)) ∧ Below w.heap.size w w' := by
 intro n
 induction n with
 | zero =>
   intro D A c l w h
   have hl0 : l = [] := by
    cases l with
    | nil => rfl
    | cons x l =>
      obtain ⟨b, off, cs, _, _, _, hr, _⟩ := h.at_ (k := 0) (by simp)
      exact hr.elim
   subst hl0
   clear h
   go_enter Try.func23, Try.ntmps23
   go_wp2_with fail
   go_loopw [3] (fun s wr => s = .int .i64 0 ∧ wr = w) (fun s wr => 0)
   case atStart => exact ⟨rfl, rfl⟩
   case round =>
    obtain ⟨rfl, rfl⟩ := hrel
    go_wp2_with fail
    go_ret
    exact ⟨rfl, Below.refl _ _⟩
 | succ n ih =>
   intro D A c l w h
   have IH := Lib.hid ih
   have H := Lib.hid h
   have hlc := h.cap
   clear h ih
   obtain ⟨R, hR⟩ : ∃ R, R = heavyC (n + 1) l := ⟨_, rfl⟩
   rw [← hR]
   have HR := Lib.hid (show R = l.any fun c => heavyO c || heavyC n c.conds by rw [hR, heavyC_succ])
   clear hR
   go_enter Try.func23, Try.ntmps23
   go_wp2_with fail
   go_loopw [3] (fun s wr => ∃ i : Nat, s = .int .i64 i ∧ i ≤ l.length ∧ (∀ k, (h : k < l.length) → k < i → (heavyO l[k] || heavyC n l[k].conds) = false) ∧ Below w.heap.size w wr) (fun s wr => l.length - (intOf s).toNat)
   case atStart => exact ⟨0, rfl, Nat.zero_le _, fun k _ h => absurd h (by omega), Below.refl _ _⟩
   case round =>
    obtain ⟨i, rfl, hi, hall, hB⟩ := hrel
    have HALL := Lib.hid hall
    have HB0 := Lib.hid hB
    clear hall hB
    by_cases hlt : i < l.length
    · obtain ⟨x, hx⟩ : ∃ x, x = l[i] := ⟨_, rfl⟩
      obtain ⟨g, off, A1, c1, A2, c2, A3, c3, rfl, _, hgs, q0, q1, q2, q3, q4, q5, q6, r1, r2, r3⟩ := at_CondT (H.out.new_ HB0.out) hlt
      rw [← hx] at q0 q1 q2 q3 q4 q5 q6 r1 r2 r3
      have HR1 := Lib.hid r1
      have HR2 := Lib.hid r2
      have HR3 := Lib.hid r3
      have hn1 := r1.cap
      have hn2 := r2.cap
      have hn3 := r3.cap
      have b1 : (0 : Int) ≤ (i : Int) := by omega
      have b2 : (i : Int) < (l.length : Int) := by omega
      have HX := Lib.hid hx
      have HYES := Lib.hid (show (heavyO x || heavyC n x.conds) = true → R = true from fun h => by rw [HR.out]; exact List.any_eq_true.2 ⟨x, by rw [HX.out]; exact List.getElem_mem hlt, h⟩)
      have hsz := HB0.out.size
      clear hx r1 r2 r3
      go_upto_region 5 with fail
      obtain ⟨X, hX⟩ : ∃ X, X = wr.alloc (.cells #[.int .i64 x.kind, .bool x.goal, .string x.id, .slice A1 x.attr.length c1, .slice A2 x.value.length c2, .bool x.acc, .slice A3 x.conds.length c3] 60) := ⟨_, rfl⟩
      rw [← hX]
      have hbX : Below wr.heap.size wr X := by rw [hX]; exact (Below.refl _ _).alloc (Nat.le_refl _) _
      have Kx := Lib.hid (show Blk X wr.heap.size 60 #[.int .i64 x.kind, .bool x.goal, .string x.id, .slice A1 x.attr.length c1, .slice A2 x.value.length c2, .bool x.acc, .slice A3 x.conds.length c3] by rw [hX]; exact Blk.new _ _ _)
      have HB := Lib.hid hbX
      have HBW := Lib.hid (HB0.out.trans (hbX.mono hsz))
      clear hX hbX q0 q1 q2 q3 q4 q5 q6
      obtain ⟨-, -, x2, x3, x4, -, x6⟩ := Kx.out.c7
      have xz := Kx.out.lt
      cases t1 : decide (100 < x.id.size)
      · skip
        cases t2 : decide (10 < x.attr.length)
        · skip
          cases t3 : decide (10 < x.value.length)
          · skip
            have s1 : decide ((100 : Int) < (x.id.size : Int)) = false := by simp at t1 ⊢; omega
            have s2 : decide ((10 : Int) < (x.attr.length : Int)) = false := by simp at t2 ⊢; omega
            have s3 : decide ((10 : Int) < (x.value.length : Int)) = false := by simp at t3 ⊢; omega
            cases t4 : x.attr.any heavyT
            · skip
              cases t5 : x.value.any heavyT
              · skip
                cases t6 : heavyC n x.conds
                · skip
                  have hc1 := heavyTests_is x.attr X (HR1.out.new_ HB.out)
                  rw [t4] at hc1
                  have HC1 := Lib.hid hc1
                  clear hc1
                  have hc2 := heavyTests_is x.value X (HR2.out.new_ HB.out)
                  rw [t5] at hc2
                  have HC2 := Lib.hid hc2
                  clear hc2
                  have hc3 := IH.out D A3 c3 x.conds X (HR3.out.new_ HB.out)
                  rw [t6] at hc3
                  have HC3 := Lib.hid hc3
                  clear hc3
                  have HN := Lib.hid (show (heavyO x || heavyC n x.conds) = false by simp [heavyO, t1, t2, t3, t4, t5, t6])
                  clear t1 t2 t3 t4 t5 t6
                  go_wp2_with fail
                  refine HC1.out.mono ?_
                  rintro e w9 ⟨rfl, rfl⟩
                  go_wp2_with fail
                  refine HC2.out.mono ?_
                  rintro e w9 ⟨rfl, rfl⟩
                  go_wp2_with fail
                  refine HC3.out.mono ?_
                  rintro e w5 ⟨rfl, hb5⟩
                  have HB5 := Lib.hid (HBW.out.trans (hb5.mono HBW.out.size))
                  clear hb5
                  clear x2 x3 x4 x6
                  go_wp2_with fail
                  go_roundw
                  case rel =>
                   refine ⟨i + 1, by go_num, by omega, fun k h hk => ?_, HB5.out⟩
                   rcases Nat.lt_or_ge k i with h3 | h3
                   · exact HALL.out k h h3
                   · obtain rfl : k = i := by omega
                     rw [← HX.out]
                     exact HN.out
                  case measure => simp [intOf] <;> omega
                · skip
                  have hc1 := heavyTests_is x.attr X (HR1.out.new_ HB.out)
                  rw [t4] at hc1
                  have HC1 := Lib.hid hc1
                  clear hc1
                  have hc2 := heavyTests_is x.value X (HR2.out.new_ HB.out)
                  rw [t5] at hc2
                  have HC2 := Lib.hid hc2
                  clear hc2
                  have hc3 := IH.out D A3 c3 x.conds X (HR3.out.new_ HB.out)
                  rw [t6] at hc3
                  have HC3 := Lib.hid hc3
                  clear hc3
                  have HN := Lib.hid (HYES.out (by simp [t6]))
                  clear t1 t2 t3 t4 t5 t6
                  go_wp2_with fail
                  refine HC1.out.mono ?_
                  rintro e w9 ⟨rfl, rfl⟩
                  go_wp2_with fail
                  refine HC2.out.mono ?_
                  rintro e w9 ⟨rfl, rfl⟩
                  go_wp2_with fail
                  refine HC3.out.mono ?_
                  rintro e w5 ⟨rfl, hb5⟩
                  have HB5 := Lib.hid (HBW.out.trans (hb5.mono HBW.out.size))
                  clear hb5
                  clear x2 x3 x4 x6
                  go_wp2_with fail
                  go_ret
                  exact ⟨by rw [HN.out]; rfl, HB5.out⟩
              · skip
                have hc1 := heavyTests_is x.attr X (HR1.out.new_ HB.out)
                rw [t4] at hc1
                have HC1 := Lib.hid hc1
                clear hc1
                have hc2 := heavyTests_is x.value X (HR2.out.new_ HB.out)
                rw [t5] at hc2
                have HC2 := Lib.hid hc2
                clear hc2
                have HN := Lib.hid (HYES.out (by simp [heavyO, t5]))
                clear t1 t2 t3 t4 t5
                go_wp2_with fail
                refine HC1.out.mono ?_
                rintro e w9 ⟨rfl, rfl⟩
                go_wp2_with fail
                refine HC2.out.mono ?_
                rintro e w9 ⟨rfl, rfl⟩
                go_wp2_with fail
                go_ret
                exact ⟨by rw [HN.out]; rfl, HBW.out⟩
            · skip
              have hc1 := heavyTests_is x.attr X (HR1.out.new_ HB.out)
              rw [t4] at hc1
              have HC1 := Lib.hid hc1
              clear hc1
              have HN := Lib.hid (HYES.out (by simp [heavyO, t4]))
              clear t1 t2 t3 t4
              go_wp2_with fail
              refine HC1.out.mono ?_
              rintro e w9 ⟨rfl, rfl⟩
              go_wp2_with fail
              go_ret
              exact ⟨by rw [HN.out]; rfl, HBW.out⟩
          · skip
            have s1 : decide ((100 : Int) < (x.id.size : Int)) = false := by simp at t1 ⊢; omega
            have s2 : decide ((10 : Int) < (x.attr.length : Int)) = false := by simp at t2 ⊢; omega
            have s3 : decide ((10 : Int) < (x.value.length : Int)) = true := by simp at t3 ⊢; omega
            have HN := Lib.hid (HYES.out (by simp [heavyO, t3]))
            clear t1 t2 t3
            go_wp2_with fail
            go_ret
            exact ⟨by rw [HN.out]; rfl, HBW.out⟩
        · skip
          have s1 : decide ((100 : Int) < (x.id.size : Int)) = false := by simp at t1 ⊢; omega
          have s2 : decide ((10 : Int) < (x.attr.length : Int)) = true := by simp at t2 ⊢; omega
          have HN := Lib.hid (HYES.out (by simp [heavyO, t2]))
          clear t1 t2
          go_wp2_with fail
          go_ret
          exact ⟨by rw [HN.out]; rfl, HBW.out⟩
      · skip
        have s1 : decide ((100 : Int) < (x.id.size : Int)) = true := by simp at t1 ⊢; omega
        have HN := Lib.hid (HYES.out (by simp [heavyO, t1]))
        clear t1
        go_wp2_with fail
        go_ret
        exact ⟨by rw [HN.out]; rfl, HBW.out⟩
    · have hie : i = l.length := by omega
      subst hie
      have HN := Lib.hid (show R = false by
       rw [HR.out, List.any_eq_false]
       intro x hx
       obtain ⟨k, hk, rfl⟩ := List.getElem_of_mem hx
       have := HALL.out k hk hk
       simpa using this)
      go_wp2_with fail
      go_ret
      exact ⟨by rw [HN.out]; rfl, HB0.out⟩
end Go.Proofs.Ytnfgilbaglfkeaa
namespace Go.Proofs.Ytnfgilbaglfkeaa
open Go.RowKit Go.Shelf
theorem sizeK_in {most n d : Nat} {l : List CondT} (h : sizeK most n d l ≤ most) : l.length ≤ most ∧ ∀ c ∈ l, sizeK most (n - 1) (d + 1) c.conds ≤ most := by
 cases n with
 | zero =>
   unfold sizeK at h
   split at h
   · omega
   · split at h
     · rename_i hl; subst hl; simp
     · omega
 | succ n =>
   unfold sizeK at h
   split at h
   · omega
   · have hg : goK most (fun c => sizeK most n (d + 1) c.conds) l 0 ≤ most := by omega
     obtain ⟨h1, h2⟩ := goK_all most _ l 0 hg
     have h3 : ∀ l : List CondT, l.length ≤ (l.map fun c => 1 + sizeK most n (d + 1) c.conds).sum := fun l => by
      induction l with
      | nil => simp
      | cons c l ih => simp only [List.map_cons, List.sum_cons, List.length_cons]; omega
     have := h3 l
     exact ⟨by omega, h2⟩
theorem heavyO_no {c : CondT} (h : heavyO c = false) : SmT c.attr ∧ SmT c.value := by
 unfold heavyO at h
 simp only [Bool.or_eq_false_iff, decide_eq_false_iff_not] at h
 obtain ⟨_, h2, h3, h4, h5⟩ := h
 have f : ∀ l : List TestT, l.any heavyT = false → ∀ t ∈ l, t.list.length ≤ 1000 := fun l hl t ht => by
  have := List.any_eq_false.1 hl t ht
  unfold heavyT at this
  simp at this
  omega
 exact ⟨⟨by omega, f _ h4⟩, ⟨by omega, f _ h5⟩⟩
theorem smc_of : ∀ (n d : Nat) (l : List CondT), sizeK 16 n d l ≤ 16 → heavyC n l = false → ∀ c ∈ l, SmC n c
 | 0, _, _, _, _, _, _ => trivial
 | n + 1, d, l, h1, h2, c, hc => by
   rw [heavyC_succ] at h2
   have h3 := List.any_eq_false.1 h2 c hc
   simp only [Bool.or_eq_true, not_or, Bool.not_eq_true] at h3
   have h4 := (sizeK_in h1).2 c hc
   obtain ⟨g1, g2⟩ := heavyO_no h3.1
   exact ⟨g1, g2, by have := (sizeK_in h4).1; omega, smc_of n (d + 1) c.conds h4 h3.2⟩
theorem row_cond1 {n : Nat} {D : Nat → Prop} {W : World} {g : Nat} {y : CondT} {A1 A2 A3 : Option Addr} {c1 c2 c3 : Nat} (hb : Blk W g 60 #[.int .i64 y.kind, .bool y.goal, .string y.id, .slice A1 y.attr.length c1, .slice A2 y.value.length c2, .bool y.acc, .slice A3 y.conds.length c3]) (h1 : RowR repTestT D W A1 c1 y.attr) (h2 : RowR repTestT D W A2 c2 y.value) (h3 : RowR (repCondT n) D W A3 c3 y.conds) :
 RowR (repCondT (n + 1)) (fun j => D j ∨ j = g) W (some ⟨g, 0, none⟩) 1 [y] := by
 refine ⟨Nat.le_refl _, by unfold maxLen; omega, fun _ => ⟨g, 0, rfl, .inr rfl, hb.lt, fun k hk => ?_⟩⟩
 obtain rfl : k = 0 := by simpa using hk
 refine ⟨_, rep_cond (h1.weaken fun _ h => .inl h) (h2.weaken fun _ h => .inl h) (h3.weaken fun _ h => .inl h), fun j u hu => ?_⟩
 simp only [Nat.zero_mul, Nat.add_zero, Nat.zero_add]
 rw [hb.cell]
 simpa using hu
theorem row_elem1 {W : World} {g : Nat} {y : Elem} (hb : Blk W g 53 #[.int .i64 y.id.kind, .string y.id.text, .int .i64 y.id.n, .int .i64 y.attr.kind, .string y.attr.text, .int .i64 y.attr.n, .int .i64 y.value.kind, .string y.value.text, .int .i64 y.value.n, .bool y.acc, .bool y.goal, .int .i64 y.tag]) : RowR repElem (· < W.heap.size) W (some ⟨g, 0, none⟩) 1 [y] := by
 refine ⟨Nat.le_refl _, by unfold maxLen; omega, fun _ => ⟨g, 0, rfl, hb.lt, hb.lt, fun k hk => ?_⟩⟩
 obtain rfl : k = 0 := by simpa using hk
 refine ⟨_, rfl, fun j u hu => ?_⟩
 simp only [Nat.zero_mul, Nat.add_zero, Nat.zero_add]
 rw [hb.cell]
 simpa [Elem.cells] using hu
set_option maxRecDepth 100000 in
set_option maxHeartbeats 8000000 in
theorem light_is {D : Nat → Prop} (A : Option Addr) (c : Nat) (l : List Elem) (most : Int) (w : World) (h : RowR repElem D w A c l) :
 Calls Try.prog 57 #[.slice A l.length c, .int .i64 most] w fun e w' => ∃ b, e = .returned (.bool b) ∧ Below w.heap.size w w' := by
 have HL := Lib.hid h
 have hlc := h.cap
 clear h
 by_cases hm : most < (l.length : Int)
 · have d0 : decide (most < (l.length : Int)) = true := by simpa using hm
   clear hm
   go_enter Try.func57, Try.ntmps57
   go_wp2_with fail
   go_ret
   exact ⟨false, rfl, Below.refl _ _⟩
 · have d0 : decide (most < (l.length : Int)) = false := by simpa using hm
   clear hm
   go_enter Try.func57, Try.ntmps57
   go_wp2_with fail
   go_loopw [5] (fun s wr => ∃ i : Nat, s = .int .i64 i ∧ i ≤ l.length ∧ Below w.heap.size w wr) (fun s wr => l.length - (intOf s).toNat)
   case atStart => exact ⟨0, rfl, Nat.zero_le _, Below.refl _ _⟩
   case round =>
    obtain ⟨i, rfl, hi, hB⟩ := hrel
    have HB := Lib.hid hB
    clear hB
    by_cases hlt : i < l.length
    · obtain ⟨y, hy⟩ : ∃ y, y = l[i] := ⟨_, rfl⟩
      obtain ⟨g, off, hA0, _, hg, q0, q1, q2, q3, q4, q5, q6, q7, q8, q9, q10, q11⟩ := at_Elem (HL.out.new_ HB.out) hlt
      subst hA0
      rw [← hy] at q0 q1 q2 q3 q4 q5 q6 q7 q8 q9 q10 q11
      have b1 : (0 : Int) ≤ (i : Int) := by omega
      have b2 : (i : Int) < (l.length : Int) := by omega
      clear hy
      cases d1 : decide ((100 : Int) < (y.id.text.size : Int)) with
      | true =>
        go_wp2_with fail
        go_ret
        exact ⟨false, rfl, HB.out⟩
      | false =>
        cases d2 : decide ((100 : Int) < (y.attr.text.size : Int)) with
        | true =>
          go_wp2_with fail
          go_ret
          exact ⟨false, rfl, HB.out⟩
        | false =>
          cases d3 : decide ((100 : Int) < (y.value.text.size : Int)) with
          | true =>
            go_wp2_with fail
            go_ret
            exact ⟨false, rfl, HB.out⟩
          | false =>
            go_wp2_with fail
            go_roundw
            case rel => exact ⟨i + 1, by go_num, by omega, HB.out⟩
            case measure => simp [intOf] <;> omega
    · obtain rfl : i = l.length := by omega
      go_wp2_with fail
      go_ret
      exact ⟨true, rfl, HB.out⟩
set_option maxHeartbeats 400000 in
theorem Light_is {D : Nat → Prop} (A : Option Addr) (c : Nat) (l : List Elem) (most : Int) (w : World) (h : RowR repElem D w A c l) :
 Calls Try.prog 29 #[.slice A l.length c, .int .i64 most] w fun e w' => ∃ b, e = .returned (.bool b) ∧ Below w.heap.size w w' := by
 have HL := Lib.hid h
 clear h
 go_enter Try.func29, Try.ntmps29
 go_wp2_with fail
 refine (light_is A c l most _ HL.out).mono ?_
 rintro e w' ⟨b, rfl, hB⟩
 have HB := Lib.hid hB
 clear hB
 go_wp2_with fail
 go_ret
 exact ⟨b, rfl, HB.out⟩
def NotHeavy (n : Nat) (l : List RecordT) (w : World) (e : Ending) (w' : World) : Prop := ∃ b, e = .returned (.bool b) ∧ Below w.heap.size w w' ∧ (b = false → l.length ≤ 20 ∧ ∀ r ∈ l, SmR n r ∧ r.elems.length ≤ 20)
set_option maxRecDepth 100000 in
set_option maxHeartbeats 16000000 in
theorem heavy21_is {D : Nat → Prop} (n : Nat) (A : Option Addr) (c : Nat) (l : List RecordT) (w : World) (h : RowR (repRecordT n) D w A c l) :
 Calls Try.prog 8 #[.slice A l.length c, .int .i64 20] w (NotHeavy n l w) := by
 have HL := Lib.hid h
 have hlc := h.cap
 clear h
 by_cases hm : (20 : Int) < (l.length : Int)
 · have d0 : decide ((20 : Int) < (l.length : Int)) = true := by simpa using hm
   clear hm
   go_enter Try.func8, Try.ntmps8
   go_wp2_with fail
   go_ret
   exact ⟨true, rfl, Below.refl _ _, fun h => by cases h⟩
 · have d0 : decide ((20 : Int) < (l.length : Int)) = false := by simpa using hm
   have HM := Lib.hid (show l.length ≤ 20 by omega)
   clear hm
   go_enter Try.func8, Try.ntmps8
   go_wp2_with fail
   go_loopw [5] (fun s wr => ∃ i : Nat, s = .int .i64 i ∧ i ≤ l.length ∧ (∀ j, (h : j < l.length) → j < i → SmR n l[j] ∧ l[j].elems.length ≤ 20) ∧ Below w.heap.size w wr) (fun s wr => l.length - (intOf s).toNat)
   case atStart => exact ⟨0, rfl, Nat.zero_le _, fun j _ h => absurd h (by omega), Below.refl _ _⟩
   case round =>
    obtain ⟨i, rfl, hi, hal, hB⟩ := hrel
    have HB := Lib.hid hB
    have HAL := Lib.hid hal
    clear hB hal
    by_cases hlt : i < l.length
    · obtain ⟨r, hr⟩ : ∃ r, r = l[i] := ⟨_, rfl⟩
      obtain ⟨g, off, A1, c1, A2, c2, A3, c3, A4, c4, hA0, _, hg, q0, q1, q2, q3, q4, q5, r1, r2, r3, r4⟩ := at_RecordT (HL.out.new_ HB.out) hlt
      subst hA0
      rw [← hr] at q0 q1 q2 q3 q4 q5 r1 r2 r3 r4
      have b1 : (0 : Int) ≤ (i : Int) := by omega
      have b2 : (i : Int) < (l.length : Int) := by omega
      have HR := Lib.hid hr
      have R1 := Lib.hid r1
      have R2 := Lib.hid r2
      have k1 := r1.cap
      have k2 := r2.cap
      have k3 := r3.cap
      have k4 := r4.cap
      clear hr r1 r2 r3 r4
      go_upto_region 7 with fail
      obtain ⟨W6, hW6⟩ : ∃ W6, W6 = wr.alloc (.cells #[.int .i64 r.num, .int .i64 r.level, .slice A1 r.elems.length c1, .slice A2 r.holes.length c2, .slice A3 r.aparts.length c3, .slice A4 r.news.length c4] 47) := ⟨_, rfl⟩
      have hb6 : Below wr.heap.size wr W6 := by rw [hW6]; exact (Below.refl _ _).alloc (Nat.le_refl _) _
      have hx6 : Blk W6 wr.heap.size 47 #[.int .i64 r.num, .int .i64 r.level, .slice A1 r.elems.length c1, .slice A2 r.holes.length c2, .slice A3 r.aparts.length c3, .slice A4 r.news.length c4] := by rw [hW6]; exact Blk.new _ _ _
      rw [← hW6]
      clear hW6 q0 q1 q2 q3 q4 q5
      obtain ⟨x0, x1, x2, x3, x4, x5⟩ := hx6.c6
      have hxl6 := hx6.lt
      have HB6 := Lib.hid (HB.out.trans (hb6.mono HB.out.size))
      have HX6 := Lib.hid hx6
      have R1 := Lib.hid (R1.out.new_ hb6)
      have R2 := Lib.hid (R2.out.new_ hb6)
      clear hb6 hx6
      generalize wr.heap.size = wf6 at HX6 x0 x1 x2 x3 x4 x5 hxl6 ⊢
      cases d1 : decide ((20 : Int) < (r.elems.length : Int)) with
      | true =>
        go_wp2_with fail
        go_ret
        exact ⟨true, rfl, HB6.out, fun h => by cases h⟩
      | false =>
      cases d2 : decide ((8 : Int) < (r.holes.length : Int)) with
      | true =>
        go_wp2_with fail
        go_ret
        exact ⟨true, rfl, HB6.out, fun h => by cases h⟩
      | false =>
      cases d3 : decide ((12 : Int) < (r.aparts.length : Int)) with
      | true =>
        go_wp2_with fail
        go_ret
        exact ⟨true, rfl, HB6.out, fun h => by cases h⟩
      | false =>
      cases d4 : decide ((20 : Int) < (r.news.length : Int)) with
      | true =>
        go_wp2_with fail
        go_ret
        exact ⟨true, rfl, HB6.out, fun h => by cases h⟩
      | false =>
        have HD := Lib.hid (show r.elems.length ≤ 20 ∧ r.holes.length ≤ 8 ∧ r.aparts.length ≤ 12 ∧ r.news.length ≤ 20 by simp at d1 d2 d3 d4; omega)
        go_wp2_with fail
        clear x0 x1 x2 x3 x4 x5 hxl6 d1 d2 d3 d4
        go_loopw [7] (fun s wq => ∃ k : Nat, s = .int .i64 k ∧ k ≤ r.elems.length ∧ Below W6.heap.size W6 wq) (fun s wq => r.elems.length - (intOf s).toNat)
        case atStart => exact ⟨0, rfl, Nat.zero_le _, Below.refl _ _⟩
        case round =>
         obtain ⟨k, rfl, hk, hB7⟩ := hrel
         have hx7 := HX6.out.new_ hB7
         obtain ⟨x0, x1, x2, x3, x4, x5⟩ := hx7.c6
         have hxl7 := hx7.lt
         have HB7 := Lib.hid hB7
         clear hB7 hx7
         by_cases hlt2 : k < r.elems.length
         · obtain ⟨y, hy⟩ : ∃ y, y = r.elems[k] := ⟨_, rfl⟩
           obtain ⟨ge, oe, hA0, _, hge, q0, q1, q2, q3, q4, q5, q6, q7, q8, q9, q10, q11, q12, q13⟩ := at_TraceT (R1.out.new_ HB7.out) hlt2
           subst hA0
           rw [← hy] at q0 q1 q2 q3 q4 q5 q6 q7 q8 q9 q10 q11 q12 q13
           have b3 : (0 : Int) ≤ (k : Int) := by omega
           have b4 : (k : Int) < (r.elems.length : Int) := by omega
           clear hy
           go_wp2_with fail
           have hb8 : Below wr.heap.size wr (wr.alloc (.cells #[.int .i64 y.elem.id.kind, .string y.elem.id.text, .int .i64 y.elem.id.n, .int .i64 y.elem.attr.kind, .string y.elem.attr.text, .int .i64 y.elem.attr.n, .int .i64 y.elem.value.kind, .string y.elem.value.text, .int .i64 y.elem.value.n, .bool y.elem.acc, .bool y.elem.goal, .int .i64 y.elem.tag] 53)) := (Below.refl _ _).alloc (Nat.le_refl _) _
           refine (Light_is (some ⟨wr.heap.size, 0, none⟩) 1 [y.elem] 1 _ (row_elem1 (Blk.new _ _ _))).mono ?_
           rintro e w9 ⟨b, rfl, hB9⟩
           have hz7 := HB7.out.size
           have hB9' := (HB7.out.trans (hb8.mono hz7)).trans (hB9.mono (by have := hb8.size; omega))
           have HB9 := Lib.hid hB9'
           clear hb8 hB9 hB9' q0 q1 q2 q3 q4 q5 q6 q7 q8 q9 q10 q11 q12 q13 x0 x1 x2 x3 x4 x5 hxl7
           cases b with
           | false =>
             go_wp2_with fail
             go_ret
             exact ⟨true, rfl, HB6.out.trans (HB9.out.mono HB6.out.size), fun h => by cases h⟩
           | true =>
             go_wp2_with fail
             go_roundw
             case rel => exact ⟨k + 1, by go_num, by omega, HB9.out⟩
             case measure => simp [intOf] <;> omega
         · obtain rfl : k = r.elems.length := by omega
           obtain ⟨W8, hW8⟩ : ∃ W8, W8 = wr := ⟨_, rfl⟩
           subst hW8
           go_wp2_with fail
           clear x0 x1 x2 x3 x4 x5 hxl7
           go_loopw [8] (fun s wq => ∃ k : Nat, s = .int .i64 k ∧ k ≤ r.holes.length ∧ (∀ j, (h : j < r.holes.length) → j < k → SmH n r.holes[j]) ∧ Below W6.heap.size W6 wq) (fun s wq => r.holes.length - (intOf s).toNat)
           case atStart => exact ⟨0, rfl, Nat.zero_le _, fun j _ h => absurd h (by omega), HB7.out⟩
           case round =>
            obtain ⟨k, rfl, hk2, hal, hB8⟩ := hrel
            have hx8 := HX6.out.new_ hB8
            obtain ⟨x0, x1, x2, x3, x4, x5⟩ := hx8.c6
            have hxl8 := hx8.lt
            have HB8 := Lib.hid hB8
            have HAL2 := Lib.hid hal
            have HX8 := Lib.hid hx8
            clear hB8 hx8 hal
            by_cases hlt3 : k < r.holes.length
            · obtain ⟨y, hy⟩ : ∃ y, y = r.holes[k] := ⟨_, rfl⟩
              obtain ⟨ge, oe, Ay1, cy1, Ay2, cy2, Ay3, cy3, Ay4, cy4, hA0, _, hge, q0, q1, q2, q3, q4, q5, q6, q7, y1, y2, y3, y4⟩ := at_HoleT (R2.out.new_ HB8.out) hlt3
              subst hA0
              rw [← hy] at q0 q1 q2 q3 q4 q5 q6 q7 y1 y2 y3 y4
              have b3 : (0 : Int) ≤ (k : Int) := by omega
              have b4 : (k : Int) < (r.holes.length : Int) := by omega
              have kc4 := y4.cap
              have HY := Lib.hid hy
              have Y1 := Lib.hid y1
              have Y2 := Lib.hid y2
              have Y3 := Lib.hid y3
              clear hy y1 y2 y3 y4
              go_upto_region 18 with fail
              obtain ⟨W9, hW9⟩ : ∃ W9, W9 = wr.alloc (.cells #[.int .i64 y.cond.kind, .bool y.cond.goal, .string y.cond.id, .slice Ay1 y.cond.attr.length cy1, .slice Ay2 y.cond.value.length cy2, .bool y.cond.acc, .slice Ay3 y.cond.conds.length cy3] 60) := ⟨_, rfl⟩
              have hb9 : Below wr.heap.size wr W9 := by rw [hW9]; exact (Below.refl _ _).alloc (Nat.le_refl _) _
              have hx9 : Blk W9 wr.heap.size 60 #[.int .i64 y.cond.kind, .bool y.cond.goal, .string y.cond.id, .slice Ay1 y.cond.attr.length cy1, .slice Ay2 y.cond.value.length cy2, .bool y.cond.acc, .slice Ay3 y.cond.conds.length cy3] := by rw [hW9]; exact Blk.new _ _ _
              rw [← hW9]
              clear hW9
              have hrow := row_cond1 hx9 (Y1.out.new_ hb9) (Y2.out.new_ hb9) (Y3.out.new_ hb9)
              have HROW := Lib.hid hrow
              have hz8 := HB8.out.size
              have HB9 := Lib.hid (HB8.out.trans (hb9.mono hz8))
              have hb9c := hb9
              have x3' := (hb9.cell (p := ⟨wf6, 3, none⟩) hxl8).trans x3
              have q7' := (hb9.cell (p := ⟨ge, oe + k * 8 + 7, none⟩) hge).trans q7
              have hxl9 : wf6 < W9.heap.size := by have := hb9.size; omega
              have hge9 : ge < W9.heap.size := by have := hb9.size; omega
              clear hrow hx9 hb9c x0 x1 x2 x3 x4 x5 q0 q1 q2 q3 q4 q5 q6 q7
              have hcs : Calls Try.prog 22 #[.slice (some ⟨wr.heap.size, 0, none⟩) 1 1, .int .i64 16, .int .i64 0] W9 _ := size_is 16 (by decide) (n + 1) _ _ _ 0 [y.cond] W9 HROW.out (by decide)
              obtain ⟨s, hs⟩ : ∃ s, s = sizeK 16 (n + 1) 0 [y.cond] := ⟨_, rfl⟩
              rw [← hs] at hcs
              have HS := Lib.hid hs
              have HCS := Lib.hid hcs
              clear hs hcs hb9
              cases d5 : decide ((16 : Int) < (s : Int)) with
              | true =>
                go_wp2_with fail
                refine HCS.out.mono ?_
                rintro e w10 ⟨rfl, rfl⟩
                go_wp2_with fail
                go_ret
                exact ⟨true, rfl, HB6.out.trans (HB9.out.mono HB6.out.size), fun h => by cases h⟩
              | false =>
                go_wp2_with fail
                refine HCS.out.mono ?_
                rintro e w10 ⟨rfl, rfl⟩
                go_wp2_with fail
                refine (heavyConds_is (n + 1) _ _ _ [y.cond] W9 HROW.out).mono ?_
                rintro e w11 ⟨rfl, hB11⟩
                obtain ⟨hc, hhc⟩ : ∃ hc, hc = heavyC (n + 1) [y.cond] := ⟨_, rfl⟩
                rw [← hhc]
                have HHC := Lib.hid hhc
                have x3'' := (hB11.cell (p := ⟨wf6, 3, none⟩) hxl9).trans x3'
                have q7'' := (hB11.cell (p := ⟨ge, oe + k * 8 + 7, none⟩) hge9).trans q7'
                have hz9 := HB9.out.size
                have hxl11 : wf6 < w11.heap.size := by have := hB11.size; omega
                have hge11 : ge < w11.heap.size := by have := hB11.size; omega
                have HB11 := Lib.hid (HB9.out.trans (hB11.mono hz9))
                clear hhc hB11 x3' q7'
                cases hc with
                | true =>
                  go_wp2_with fail
                  go_ret
                  exact ⟨true, rfl, HB6.out.trans (HB11.out.mono HB6.out.size), fun h => by cases h⟩
                | false =>
                  cases d6 : decide ((20 : Int) < (y.binds.length : Int)) with
                  | true =>
                    go_wp2_with fail
                    go_ret
                    exact ⟨true, rfl, HB6.out.trans (HB11.out.mono HB6.out.size), fun h => by cases h⟩
                  | false =>
                    have HSM := Lib.hid (show SmH n y from ⟨smc_of (n + 1) 0 [y.cond] (by rw [← HS.out]; simp at d5; omega) HHC.out.symm y.cond (by simp), by simp at d6; omega⟩)
                    go_wp2_with fail
                    go_roundw
                    case rel =>
                     refine ⟨k + 1, by go_num, by omega, fun j h hj => ?_, HB11.out⟩
                     rcases Nat.lt_or_ge j k with h2 | h2
                     · exact HAL2.out j h h2
                     · obtain rfl : j = k := by omega
                       rw [← HY.out]; exact HSM.out
                    case measure => simp [intOf] <;> omega
            · obtain rfl : k = r.holes.length := by omega
              go_wp2_with fail
              go_roundw
              case rel =>
               refine ⟨i + 1, by go_num, by omega, fun j h hj => ?_, HB6.out.trans (HB8.out.mono HB6.out.size)⟩
               rcases Nat.lt_or_ge j i with h2 | h2
               · exact HAL.out j h h2
               · obtain rfl : j = i := by omega
                 rw [← HR.out]
                 have hd := HD.out
                 exact ⟨⟨by omega, by omega, by omega, by omega, fun x hx => by
                  obtain ⟨m, hm, rfl⟩ := List.getElem_of_mem hx
                  exact HAL2.out m hm hm⟩, hd.1⟩
              case measure => simp [intOf] <;> omega
    · obtain rfl : i = l.length := by omega
      go_wp2_with fail
      go_ret
      refine ⟨false, rfl, HB.out, fun _ => ⟨HM.out, fun x hx => ?_⟩⟩
      obtain ⟨m, hm, rfl⟩ := List.getElem_of_mem hx
      exact HAL.out m hm hm
end Go.Proofs.Ytnfgilbaglfkeaa
namespace Go.Proofs.Ytnfgilbaglfkeaa
open Go.RowKit Go.Shelf
theorem neqs_TraceT (x : TraceT) (W : World) : (binOp .neq 55 (.agg #[.int .i64 x.elem.id.kind, .string x.elem.id.text, .int .i64 x.elem.id.n, .int .i64 x.elem.attr.kind, .string x.elem.attr.text, .int .i64 x.elem.attr.n, .int .i64 x.elem.value.kind, .string x.elem.value.text, .int .i64 x.elem.value.n, .bool x.elem.acc, .bool x.elem.goal, .int .i64 x.elem.tag, .int .i64 x.level, .int .i64 x.cause]) (.agg #[.int .i64 x.elem.id.kind, .string x.elem.id.text, .int .i64 x.elem.id.n, .int .i64 x.elem.attr.kind, .string x.elem.attr.text, .int .i64 x.elem.attr.n, .int .i64 x.elem.value.kind, .string x.elem.value.text, .int .i64 x.elem.value.n, .bool x.elem.acc, .bool x.elem.goal, .int .i64 x.elem.tag, .int .i64 x.level, .int .i64 x.cause])).run Try.prog W = .ok (.bool false) W := by
 rw [run_neq_struct]
 go_simp
set_option maxRecDepth 100000 in
set_option maxHeartbeats 4000000 in
theorem traces_same {D D' : Nat → Prop} {A B : Option Addr} {c d : Nat} (l : List TraceT) (w : World) (hl : RowR repTraceT D w A c l) (hm : RowR repTraceT D' w B d l) :
 Calls Try.prog 16 #[.slice A l.length c, .slice B l.length d] w fun e w' => e = .returned (.bool true) ∧ Below w.heap.size w w' := by
 have HL := Lib.hid hl
 have HM := Lib.hid hm
 have hlc := hl.cap
 clear hl hm
 go_enter Try.func16, Try.ntmps16
 go_wp2_with fail
 go_loopw [5] (fun s wr => ∃ i : Nat, s = .int .i64 i ∧ i ≤ l.length ∧ Below w.heap.size w wr) (fun s wr => l.length - (intOf s).toNat)
 case atStart => exact ⟨0, rfl, Nat.zero_le _, Below.refl _ _⟩
 case round =>
  obtain ⟨i, rfl, hi, hB⟩ := hrel
  have HB := Lib.hid hB
  clear hB
  by_cases hlt : i < l.length
  · obtain ⟨x, hx⟩ : ∃ x, x = l[i] := ⟨_, rfl⟩
    obtain ⟨g, off, rfl, _, hgs, q0, q1, q2, q3, q4, q5, q6, q7, q8, q9, q10, q11, q12, q13⟩ := at_TraceT (HL.out.new_ HB.out) hlt
    obtain ⟨g2, off2, rfl, _, hgs2, p0, p1, p2, p3, p4, p5, p6, p7, p8, p9, p10, p11, p12, p13⟩ := at_TraceT (HM.out.new_ HB.out) hlt
    rw [← hx] at q0 q1 q2 q3 q4 q5 q6 q7 q8 q9 q10 q11 q12 q13 p0 p1 p2 p3 p4 p5 p6 p7 p8 p9 p10 p11 p12 p13
    have b1 : (0 : Int) ≤ (i : Int) := by omega
    have b2 : (i : Int) < (l.length : Int) := by omega
    have hbe := fun W => neqs_TraceT x W
    clear hx
    go_wp2_with fail
    go_quiet (fail)
    have HB2 := Lib.hid (Below.drewN' HB.out nq)
    clear q0 q1 q2 q3 q4 q5 q6 q7 q8 q9 q10 q11 q12 q13 p0 p1 p2 p3 p4 p5 p6 p7 p8 p9 p10 p11 p12 p13
    go_wp2_with fail
    go_roundw
    case rel => exact ⟨i + 1, by go_num, by omega, HB2.out⟩
    case measure => simp [intOf] <;> omega
  · obtain rfl : i = l.length := by omega
    go_wp2_with fail
    go_ret
    exact ⟨rfl, HB.out⟩
theorem neqs_ApartT (x : ApartT) (W : World) : (binOp .neq 111 (.agg #[.int .i64 x.a.kind, .string x.a.text, .int .i64 x.a.n, .int .i64 x.b.kind, .string x.b.text, .int .i64 x.b.n, .int .i64 x.rel]) (.agg #[.int .i64 x.a.kind, .string x.a.text, .int .i64 x.a.n, .int .i64 x.b.kind, .string x.b.text, .int .i64 x.b.n, .int .i64 x.rel])).run Try.prog W = .ok (.bool false) W := by
 rw [run_neq_struct]
 go_simp
set_option maxRecDepth 100000 in
set_option maxHeartbeats 4000000 in
theorem aparts_same {D D' : Nat → Prop} {A B : Option Addr} {c d : Nat} (l : List ApartT) (w : World) (hl : RowR repApartT D w A c l) (hm : RowR repApartT D' w B d l) :
 Calls Try.prog 18 #[.slice A l.length c, .slice B l.length d] w fun e w' => e = .returned (.bool true) ∧ Below w.heap.size w w' := by
 have HL := Lib.hid hl
 have HM := Lib.hid hm
 have hlc := hl.cap
 clear hl hm
 go_enter Try.func18, Try.ntmps18
 go_wp2_with fail
 go_loopw [5] (fun s wr => ∃ i : Nat, s = .int .i64 i ∧ i ≤ l.length ∧ Below w.heap.size w wr) (fun s wr => l.length - (intOf s).toNat)
 case atStart => exact ⟨0, rfl, Nat.zero_le _, Below.refl _ _⟩
 case round =>
  obtain ⟨i, rfl, hi, hB⟩ := hrel
  have HB := Lib.hid hB
  clear hB
  by_cases hlt : i < l.length
  · obtain ⟨x, hx⟩ : ∃ x, x = l[i] := ⟨_, rfl⟩
    obtain ⟨g, off, rfl, _, hgs, q0, q1, q2, q3, q4, q5, q6⟩ := at_ApartT (HL.out.new_ HB.out) hlt
    obtain ⟨g2, off2, rfl, _, hgs2, p0, p1, p2, p3, p4, p5, p6⟩ := at_ApartT (HM.out.new_ HB.out) hlt
    rw [← hx] at q0 q1 q2 q3 q4 q5 q6 p0 p1 p2 p3 p4 p5 p6
    have b1 : (0 : Int) ≤ (i : Int) := by omega
    have b2 : (i : Int) < (l.length : Int) := by omega
    have hbe := fun W => neqs_ApartT x W
    clear hx
    go_wp2_with fail
    go_quiet (fail)
    have HB2 := Lib.hid (Below.drewN' HB.out nq)
    clear q0 q1 q2 q3 q4 q5 q6 p0 p1 p2 p3 p4 p5 p6
    go_wp2_with fail
    go_roundw
    case rel => exact ⟨i + 1, by go_num, by omega, HB2.out⟩
    case measure => simp [intOf] <;> omega
  · obtain rfl : i = l.length := by omega
    go_wp2_with fail
    go_ret
    exact ⟨rfl, HB.out⟩
theorem neqs_BindT (x : BindT) (W : World) : (binOp .neq 157 (.agg #[.string x.var, .int .i64 x.sym.kind, .string x.sym.text, .int .i64 x.sym.n]) (.agg #[.string x.var, .int .i64 x.sym.kind, .string x.sym.text, .int .i64 x.sym.n])).run Try.prog W = .ok (.bool false) W := by
 rw [run_neq_struct]
 go_simp
set_option maxRecDepth 100000 in
set_option maxHeartbeats 4000000 in
theorem binds_same {D D' : Nat → Prop} {A B : Option Addr} {c d : Nat} (l : List BindT) (w : World) (hl : RowR repBindT D w A c l) (hm : RowR repBindT D' w B d l) :
 Calls Try.prog 53 #[.slice A l.length c, .slice B l.length d] w fun e w' => e = .returned (.bool true) ∧ Below w.heap.size w w' := by
 have HL := Lib.hid hl
 have HM := Lib.hid hm
 have hlc := hl.cap
 clear hl hm
 go_enter Try.func53, Try.ntmps53
 go_wp2_with fail
 go_loopw [5] (fun s wr => ∃ i : Nat, s = .int .i64 i ∧ i ≤ l.length ∧ Below w.heap.size w wr) (fun s wr => l.length - (intOf s).toNat)
 case atStart => exact ⟨0, rfl, Nat.zero_le _, Below.refl _ _⟩
 case round =>
  obtain ⟨i, rfl, hi, hB⟩ := hrel
  have HB := Lib.hid hB
  clear hB
  by_cases hlt : i < l.length
  · obtain ⟨x, hx⟩ : ∃ x, x = l[i] := ⟨_, rfl⟩
    obtain ⟨g, off, rfl, _, hgs, q0, q1, q2, q3⟩ := at_BindT (HL.out.new_ HB.out) hlt
    obtain ⟨g2, off2, rfl, _, hgs2, p0, p1, p2, p3⟩ := at_BindT (HM.out.new_ HB.out) hlt
    rw [← hx] at q0 q1 q2 q3 p0 p1 p2 p3
    have b1 : (0 : Int) ≤ (i : Int) := by omega
    have b2 : (i : Int) < (l.length : Int) := by omega
    have hbe := fun W => neqs_BindT x W
    clear hx
    go_wp2_with fail
    go_quiet (fail)
    have HB2 := Lib.hid (Below.drewN' HB.out nq)
    clear q0 q1 q2 q3 p0 p1 p2 p3
    go_wp2_with fail
    go_roundw
    case rel => exact ⟨i + 1, by go_num, by omega, HB2.out⟩
    case measure => simp [intOf] <;> omega
  · obtain rfl : i = l.length := by omega
    go_wp2_with fail
    go_ret
    exact ⟨rfl, HB.out⟩
theorem neqs_Sym (x : Sym) (W : World) : (binOp .neq 51 (.agg #[.int .i64 x.kind, .string x.text, .int .i64 x.n]) (.agg #[.int .i64 x.kind, .string x.text, .int .i64 x.n])).run Try.prog W = .ok (.bool false) W := by
 rw [run_neq_struct]
 go_simp
set_option maxRecDepth 100000 in
set_option maxHeartbeats 4000000 in
theorem syms_same {D D' : Nat → Prop} {A B : Option Addr} {c d : Nat} (l : List Sym) (w : World) (hl : RowR repSym D w A c l) (hm : RowR repSym D' w B d l) :
 Calls Try.prog 19 #[.slice A l.length c, .slice B l.length d] w fun e w' => e = .returned (.bool true) ∧ Below w.heap.size w w' := by
 have HL := Lib.hid hl
 have HM := Lib.hid hm
 have hlc := hl.cap
 clear hl hm
 go_enter Try.func19, Try.ntmps19
 go_wp2_with fail
 go_loopw [5] (fun s wr => ∃ i : Nat, s = .int .i64 i ∧ i ≤ l.length ∧ Below w.heap.size w wr) (fun s wr => l.length - (intOf s).toNat)
 case atStart => exact ⟨0, rfl, Nat.zero_le _, Below.refl _ _⟩
 case round =>
  obtain ⟨i, rfl, hi, hB⟩ := hrel
  have HB := Lib.hid hB
  clear hB
  by_cases hlt : i < l.length
  · obtain ⟨x, hx⟩ : ∃ x, x = l[i] := ⟨_, rfl⟩
    obtain ⟨g, off, rfl, _, hgs, q0, q1, q2⟩ := at_Sym (HL.out.new_ HB.out) hlt
    obtain ⟨g2, off2, rfl, _, hgs2, p0, p1, p2⟩ := at_Sym (HM.out.new_ HB.out) hlt
    rw [← hx] at q0 q1 q2 p0 p1 p2
    have b1 : (0 : Int) ≤ (i : Int) := by omega
    have b2 : (i : Int) < (l.length : Int) := by omega
    have hbe := fun W => neqs_Sym x W
    clear hx
    go_wp2_with fail
    go_quiet (fail)
    have HB2 := Lib.hid (Below.drewN' HB.out nq)
    clear q0 q1 q2 p0 p1 p2
    go_wp2_with fail
    go_roundw
    case rel => exact ⟨i + 1, by go_num, by omega, HB2.out⟩
    case measure => simp [intOf] <;> omega
  · obtain rfl : i = l.length := by omega
    go_wp2_with fail
    go_ret
    exact ⟨rfl, HB.out⟩
end Go.Proofs.Ytnfgilbaglfkeaa
namespace Go.Proofs.Ytnfgilbaglfkeaa
open Go.RowKit Go.Shelf
set_option maxRecDepth 100000 in
set_option maxHeartbeats 16000000 in
theorem tests_same {D D' : Nat → Prop} {A B : Option Addr} {c d : Nat} (l : List TestT) (w : World) (hl : RowR repTestT D w A c l) (hm : RowR repTestT D' w B d l) :
 Calls Try.prog 83 #[.slice A l.length c, .slice B l.length d] w fun e w' => e = .returned (.bool true) ∧ Below w.heap.size w w' := by
 have HL := Lib.hid hl
 have HM := Lib.hid hm
 have hlc := hl.cap
 clear hl hm
 go_enter Try.func83, Try.ntmps83
 go_wp2_with fail
 go_loopw [5] (fun s wr => ∃ i : Nat, s = .int .i64 i ∧ i ≤ l.length ∧ Below w.heap.size w wr) (fun s wr => l.length - (intOf s).toNat)
 case atStart => exact ⟨0, rfl, Nat.zero_le _, Below.refl _ _⟩
 case round =>
  obtain ⟨i, rfl, hi, hB⟩ := hrel
  have HB := Lib.hid hB
  clear hB
  by_cases hlt : i < l.length
  · obtain ⟨y, hy⟩ : ∃ y, y = l[i] := ⟨_, rfl⟩
    have b1 : (0 : Int) ≤ (i : Int) := by omega
    have b2 : (i : Int) < (l.length : Int) := by omega
    obtain ⟨g, off, A3, c3, rfl, _, hgs, q0, q1, q2, q3, q4, q5, h3⟩ := at_TestT (HL.out.new_ HB.out) hlt
    obtain ⟨g2, off2, B3, d3, rfl, _, hgs2, p0, p1, p2, p3, p4, p5, k3⟩ := at_TestT (HM.out.new_ HB.out) hlt
    rw [← hy] at q0 q1 q2 q3 q4 q5 p0 p1 p2 p3 p4 p5 h3 k3
    have H3 := Lib.hid h3
    have K3 := Lib.hid k3
    have hbe := fun W => neqs_Sym y.sym W
    clear hy h3 k3
    go_wp2_with fail
    refine wp_region_E (fun w9 => Below wr.heap.size wr w9) [(0, 0), (1, 0), (2, 0), (3, 0), (4, 1), (5, 0), (6, 0), (7, 0), (8, 0), (9, 1), (10, 0), (11, 0), (12, 0), (13, 0), (14, 0), (15, 0), (16, 1), (17, 0), (18, 0), (19, 0), (20, 0), (21, 1), (22, 0), (23, 0), (24, 0), (25, 0), (26, 0), (27, 0), (28, 0), (29, 1), (30, 0), (31, 0), (32, 0), (33, 0), (34, 1), (35, 0), (36, 0), (37, 0), (38, 0), (39, 0), (40, 0), (41, 0), (42, 1), (43, 0), (44, 0), (45, 0), (46, 0), (47, 1), (48, 2), (49, 0), (50, 0)] (by kernel_rfl) (by kernel_rfl) (fun KK hKK => ?_)
    simp only [beside, List.filterMap_cons, List.filterMap_nil, List.getElem?_toArray, List.getElem?_cons_zero, List.getElem?_cons_succ, Option.map_some]
    repeat ((first | (refine wpX_w ?_ (Or.inl ⟨by rfl, fun w9 => ?_⟩) ?_; rotate_left 1; go_simp; with_reducible rfl) | (refine wpX_l ?_ (((Below.refl _ _).drew)) (Or.inl ⟨by rfl, fun w9 hw9 => ?_⟩) ?_; rotate_left 1; obtain ⟨hc9, hf9⟩ := bcell hw9; go_simp; with_reducible rfl) | refine wpX_w undef (Or.inr ⟨by rfl, rfl⟩) ?_ | refine wpX_l undef (((Below.refl _ _).drew)) (Or.inr ⟨by rfl, rfl⟩) ?_); go_frame)
    refine wpX_e (by kernel_rfl) (fun K9 hK9 => ?_)
    go_simp
    refine (syms_same y.list _ (H3.out.new_ ((Below.refl _ _).drew)) (K3.out.new_ ((Below.refl _ _).drew))).mono ?_
    rintro e w5 ⟨rfl, hb5⟩
    have HB2 := Lib.hid ((HB.out.drew).trans (hb5.mono HB.out.size))
    clear hb5
    refine hK9 _ _ ?_
    clear hK9 K9
    repeat ((first | (refine wpX_w ?_ (Or.inl ⟨by rfl, fun w9 => ?_⟩) ?_; rotate_left 1; go_simp; with_reducible rfl) | (refine wpX_l ?_ (((Below.refl _ _).drew)) (Or.inl ⟨by rfl, fun w9 hw9 => ?_⟩) ?_; rotate_left 1; obtain ⟨hc9, hf9⟩ := bcell hw9; go_simp; with_reducible rfl) | refine wpX_w undef (Or.inr ⟨by rfl, rfl⟩) ?_ | refine wpX_l undef (((Below.refl _ _).drew)) (Or.inr ⟨by rfl, rfl⟩) ?_); go_frame)
    refine wpX_nil ?_
    simp only [OnlyN_normal]
    refine hKK _ _ ?_
    clear hKK KK
    clear q0 q1 q2 q3 q4 q5 p0 p1 p2 p3 p4 p5
    go_wp2_with fail
    go_roundw
    case rel => exact ⟨i + 1, by go_num, by omega, HB2.out⟩
    case measure => simp [intOf] <;> omega
  · obtain rfl : i = l.length := by omega
    go_wp2_with fail
    go_ret
    exact ⟨rfl, HB.out⟩
end Go.Proofs.Ytnfgilbaglfkeaa
namespace Go.Proofs.Ytnfgilbaglfkeaa
open Go.RowKit Go.Shelf
abbrev CondsSame (n : Nat) : Prop := ∀ (D D' : Nat → Prop) (A B : Option Addr) (c d : Nat) (l : List CondT) (w : World), RowR (repCondT n) D w A c l → RowR (repCondT n) D' w B d l →
 Calls Try.prog 84 #[.slice A l.length c, .slice B l.length d] w fun e w' => e = .returned (.bool true) ∧ Below w.heap.size w w'
set_option maxRecDepth 100000 in
set_option maxHeartbeats 4000000 in
theorem cond_same (n : Nat) (ih : CondsSame n) {D D' : Nat → Prop} (y : CondT) (A1 : Option Addr) (a1 : Nat) (A2 : Option Addr) (a2 : Nat) (A3 : Option Addr) (a3 : Nat) (B1 : Option Addr) (b1 : Nat) (B2 : Option Addr) (b2 : Nat) (B3 : Option Addr) (b3 : Nat) (w : World)
 (g1 : RowR repTestT D w A1 a1 y.attr) (g2 : RowR repTestT D w A2 a2 y.value) (g3 : RowR (repCondT n) D w A3 a3 y.conds) (k1 : RowR repTestT D' w B1 b1 y.attr) (k2 : RowR repTestT D' w B2 b2 y.value) (k3 : RowR (repCondT n) D' w B3 b3 y.conds) :
 Calls Try.prog 52 #[.agg #[.int .i64 y.kind, .bool y.goal, .string y.id, .slice A1 y.attr.length a1, .slice A2 y.value.length a2, .bool y.acc, .slice A3 y.conds.length a3], .agg #[.int .i64 y.kind, .bool y.goal, .string y.id, .slice B1 y.attr.length b1, .slice B2 y.value.length b2, .bool y.acc, .slice B3 y.conds.length b3]] w fun e w' => e = .returned (.bool true) ∧ Below w.heap.size w w' := by
 have G1 := Lib.hid g1
 have G2 := Lib.hid g2
 have G3 := Lib.hid g3
 have K1 := Lib.hid k1
 have K2 := Lib.hid k2
 have K3 := Lib.hid k3
 have IH := Lib.hid ih
 clear g1 g2 g3 k1 k2 k3 ih
 go_enter Try.func52, Try.ntmps52
 go_upto_region 1 with fail
 obtain ⟨w1, hw1⟩ : ∃ w1, w1 = ((w.alloc (.cells #[.int .i64 y.kind, .bool y.goal, .string y.id, .slice A1 y.attr.length a1, .slice A2 y.value.length a2, .bool y.acc, .slice A3 y.conds.length a3] 60)).alloc (.cells #[.int .i64 y.kind, .bool y.goal, .string y.id, .slice B1 y.attr.length b1, .slice B2 y.value.length b2, .bool y.acc, .slice B3 y.conds.length b3] 60)) := ⟨_, rfl⟩
 rw [← hw1]
 have HB := Lib.hid (show Below w.heap.size w w1 by rw [hw1]; exact (by repeat (first | exact Below.refl _ _ | refine Below.drew ?_ | refine Below.al ?_ _ | refine Below.sc ?_ _)))
 have Ka := Lib.hid (show Blk w1 (w.heap.size) 60 #[.int .i64 y.kind, .bool y.goal, .string y.id, .slice A1 y.attr.length a1, .slice A2 y.value.length a2, .bool y.acc, .slice A3 y.conds.length a3] by rw [hw1]; exact ((Blk.new w 60 #[.int .i64 y.kind, .bool y.goal, .string y.id, .slice A1 y.attr.length a1, .slice A2 y.value.length a2, .bool y.acc, .slice A3 y.conds.length a3]).alloc (.cells #[.int .i64 y.kind, .bool y.goal, .string y.id, .slice B1 y.attr.length b1, .slice B2 y.value.length b2, .bool y.acc, .slice B3 y.conds.length b3] 60)))
 have Kb := Lib.hid (show Blk w1 (w.heap.size + 1) 60 #[.int .i64 y.kind, .bool y.goal, .string y.id, .slice B1 y.attr.length b1, .slice B2 y.value.length b2, .bool y.acc, .slice B3 y.conds.length b3] by rw [hw1]; have hh := (Blk.new (w.alloc (.cells #[.int .i64 y.kind, .bool y.goal, .string y.id, .slice A1 y.attr.length a1, .slice A2 y.value.length a2, .bool y.acc, .slice A3 y.conds.length a3] 60)) 60 #[.int .i64 y.kind, .bool y.goal, .string y.id, .slice B1 y.attr.length b1, .slice B2 y.value.length b2, .bool y.acc, .slice B3 y.conds.length b3]); simp only [World.size_alloc] at hh; exact hh)
 clear hw1
 obtain ⟨a0, a1, a2, a3, a4, a5, a6⟩ := Ka.out.c7
 have az := Ka.out.lt
 obtain ⟨b0, b1, b2, b3, b4, b5, b6⟩ := Kb.out.c7
 have bz := Kb.out.lt
 go_wp2_with fail
 with_reducible refine (tests_same y.attr _ (G1.out.new_ (by (repeat (first | exact Below.refl _ _ | exact HB.out | refine Below.drew ?_ | refine Below.al ?_ _ | refine Below.sc ?_ _)))) (K1.out.new_ (by (repeat (first | exact Below.refl _ _ | exact HB.out | refine Below.drew ?_ | refine Below.al ?_ _ | refine Below.sc ?_ _))))).mono ?_
 rintro e w2 ⟨rfl, hb⟩
 have hbs := Below.trans (show Below w1.heap.size w1 _ from (by (repeat (first | exact Below.refl _ _ | refine Below.drew ?_ | refine Below.al ?_ _ | refine Below.sc ?_ _)))) (hb.mono (by simp <;> omega))
 have Ka := Lib.hid (Ka.out.new_ hbs)
 have Kb := Lib.hid (Kb.out.new_ hbs)
 have HB := Lib.hid (HB.out.trans (hbs.mono HB.out.size))
 have hsz2 := hbs.size
 clear a0 a1 a2 a3 a4 a5 a6 az b0 b1 b2 b3 b4 b5 b6 bz hb hbs
 obtain ⟨a0, a1, a2, a3, a4, a5, a6⟩ := Ka.out.c7
 have az := Ka.out.lt
 obtain ⟨b0, b1, b2, b3, b4, b5, b6⟩ := Kb.out.c7
 have bz := Kb.out.lt
 go_wp2_with fail
 with_reducible refine (tests_same y.value _ (G2.out.new_ (by (repeat (first | exact Below.refl _ _ | exact HB.out | refine Below.drew ?_ | refine Below.al ?_ _ | refine Below.sc ?_ _)))) (K2.out.new_ (by (repeat (first | exact Below.refl _ _ | exact HB.out | refine Below.drew ?_ | refine Below.al ?_ _ | refine Below.sc ?_ _))))).mono ?_
 rintro e w3 ⟨rfl, hb⟩
 have hbs := Below.trans (show Below w2.heap.size w2 _ from (by (repeat (first | exact Below.refl _ _ | refine Below.drew ?_ | refine Below.al ?_ _ | refine Below.sc ?_ _)))) (hb.mono (by simp <;> omega))
 have Ka := Lib.hid (Ka.out.new_ hbs)
 have Kb := Lib.hid (Kb.out.new_ hbs)
 have HB := Lib.hid (HB.out.trans (hbs.mono HB.out.size))
 have hsz3 := hbs.size
 clear a0 a1 a2 a3 a4 a5 a6 az b0 b1 b2 b3 b4 b5 b6 bz hb hbs
 obtain ⟨a0, a1, a2, a3, a4, a5, a6⟩ := Ka.out.c7
 have az := Ka.out.lt
 obtain ⟨b0, b1, b2, b3, b4, b5, b6⟩ := Kb.out.c7
 have bz := Kb.out.lt
 go_wp2_with fail
 with_reducible refine (IH.out _ _ _ _ _ _ y.conds _ (G3.out.new_ (by (repeat (first | exact Below.refl _ _ | exact HB.out | refine Below.drew ?_ | refine Below.al ?_ _ | refine Below.sc ?_ _)))) (K3.out.new_ (by (repeat (first | exact Below.refl _ _ | exact HB.out | refine Below.drew ?_ | refine Below.al ?_ _ | refine Below.sc ?_ _))))).mono ?_
 rintro e w4 ⟨rfl, hb⟩
 have hbs := Below.trans (show Below w3.heap.size w3 _ from (by (repeat (first | exact Below.refl _ _ | refine Below.drew ?_ | refine Below.al ?_ _ | refine Below.sc ?_ _)))) (hb.mono (by simp <;> omega))
 have Ka := Lib.hid (Ka.out.new_ hbs)
 have Kb := Lib.hid (Kb.out.new_ hbs)
 have HB := Lib.hid (HB.out.trans (hbs.mono HB.out.size))
 have hsz4 := hbs.size
 clear a0 a1 a2 a3 a4 a5 a6 az b0 b1 b2 b3 b4 b5 b6 bz hb hbs
 obtain ⟨a0, a1, a2, a3, a4, a5, a6⟩ := Ka.out.c7
 have az := Ka.out.lt
 obtain ⟨b0, b1, b2, b3, b4, b5, b6⟩ := Kb.out.c7
 have bz := Kb.out.lt
 go_wp2_with fail
 go_ret
 exact ⟨rfl, by (repeat (first | exact Below.refl _ _ | exact HB.out | refine Below.drew ?_ | refine Below.al ?_ _ | refine Below.sc ?_ _))⟩
theorem row_zero {D : Nat → Prop} {w : World} {A : Option Addr} {c : Nat} {l : List CondT} (h : RowR (repCondT 0) D w A c l) : l = [] := by
 cases l with
 | nil => rfl
 | cons y l =>
   obtain ⟨b, off, cs, _, _, _, hr, _⟩ := h.at_ (k := 0) (by simp)
   exact hr.elim
set_option maxRecDepth 100000 in
set_option maxHeartbeats 4000000 in
theorem conds_nil {A B : Option Addr} {c d : Nat} (w : World) :
 Calls Try.prog 84 #[.slice A 0 c, .slice B 0 d] w fun e w' => e = .returned (.bool true) ∧ Below w.heap.size w w' := by
 go_enter Try.func84, Try.ntmps84
 go_wp2_with fail
 go_loopw [5] (fun s wr => s = .int .i64 0 ∧ wr = w) (fun s wr => 0)
 case atStart => exact ⟨rfl, rfl⟩
 case round =>
  obtain ⟨rfl, rfl⟩ := hrel
  go_wp2_with fail
  go_ret
  exact ⟨rfl, Below.refl _ _⟩
set_option maxRecDepth 100000 in
set_option maxHeartbeats 4000000 in
theorem conds_same_succ (n : Nat) (ih : CondsSame n) : CondsSame (n + 1) := by
 intro D D' A B c d l w hl hm
 have HL := Lib.hid hl
 have HM := Lib.hid hm
 have IH := Lib.hid ih
 have hlc := hl.cap
 clear hl hm ih
 go_enter Try.func84, Try.ntmps84
 go_wp2_with fail
 go_loopw [5] (fun s wr => ∃ i : Nat, s = .int .i64 i ∧ i ≤ l.length ∧ Below w.heap.size w wr) (fun s wr => l.length - (intOf s).toNat)
 case atStart => exact ⟨0, rfl, Nat.zero_le _, Below.refl _ _⟩
 case round =>
  obtain ⟨i, rfl, hi, hB⟩ := hrel
  have HB := Lib.hid hB
  clear hB
  by_cases hlt : i < l.length
  · obtain ⟨y, hy⟩ : ∃ y, y = l[i] := ⟨_, rfl⟩
    have b1 : (0 : Int) ≤ (i : Int) := by omega
    have b2 : (i : Int) < (l.length : Int) := by omega
    obtain ⟨g, off, A1, a1, A2, a2, A3, a3, rfl, _, hgs, q0, q1, q2, q3, q4, q5, q6, h1, h2, h3⟩ := at_CondT (HL.out.new_ HB.out) hlt
    obtain ⟨g2, off2, B1, b1_, B2, b2_, B3, b3_, rfl, _, hgs2, p0, p1, p2, p3, p4, p5, p6, k1, k2, k3⟩ := at_CondT (HM.out.new_ HB.out) hlt
    rw [← hy] at q0 q1 q2 q3 q4 q5 q6 p0 p1 p2 p3 p4 p5 p6 h1 h2 h3 k1 k2 k3
    have H1 := Lib.hid h1
    have H2 := Lib.hid h2
    have H3 := Lib.hid h3
    have L1 := Lib.hid k1
    have L2 := Lib.hid k2
    have L3 := Lib.hid k3
    clear hy h1 h2 h3 k1 k2 k3
    go_wp2_with fail
    refine wp_region_E (fun w9 => Below wr.heap.size wr w9) [(0, 0), (1, 0), (2, 0), (3, 1), (4, 0), (5, 0), (6, 0), (7, 1), (8, 2), (9, 0)] (by kernel_rfl) (by kernel_rfl) (fun KK hKK => ?_)
    simp only [beside, List.filterMap_cons, List.filterMap_nil, List.getElem?_toArray, List.getElem?_cons_zero, List.getElem?_cons_succ, Option.map_some]
    repeat ((first | (refine wpX_w ?_ (Or.inl ⟨by rfl, fun w9 => ?_⟩) ?_; rotate_left 1; go_simp; with_reducible rfl) | (refine wpX_l ?_ (((Below.refl _ _).drew)) (Or.inl ⟨by rfl, fun w9 hw9 => ?_⟩) ?_; rotate_left 1; obtain ⟨hc9, hf9⟩ := bcell hw9; go_simp; with_reducible rfl) | refine wpX_w undef (Or.inr ⟨by rfl, rfl⟩) ?_ | refine wpX_l undef (((Below.refl _ _).drew)) (Or.inr ⟨by rfl, rfl⟩) ?_); go_frame)
    refine wpX_e (by kernel_rfl) (fun K9 hK9 => ?_)
    go_simp
    refine (cond_same n IH.out y A1 a1 A2 a2 A3 a3 B1 b1_ B2 b2_ B3 b3_ _ (H1.out.new_ ((Below.refl _ _).drew)) (H2.out.new_ ((Below.refl _ _).drew)) (H3.out.new_ ((Below.refl _ _).drew)) (L1.out.new_ ((Below.refl _ _).drew)) (L2.out.new_ ((Below.refl _ _).drew)) (L3.out.new_ ((Below.refl _ _).drew))).mono ?_
    rintro e w5 ⟨rfl, hb5⟩
    have HB2 := Lib.hid ((HB.out.drew).trans (hb5.mono HB.out.size))
    clear hb5
    refine hK9 _ _ ?_
    clear hK9 K9
    repeat ((first | (refine wpX_w ?_ (Or.inl ⟨by rfl, fun w9 => ?_⟩) ?_; rotate_left 1; go_simp; with_reducible rfl) | (refine wpX_l ?_ (((Below.refl _ _).drew)) (Or.inl ⟨by rfl, fun w9 hw9 => ?_⟩) ?_; rotate_left 1; obtain ⟨hc9, hf9⟩ := bcell hw9; go_simp; with_reducible rfl) | refine wpX_w undef (Or.inr ⟨by rfl, rfl⟩) ?_ | refine wpX_l undef (((Below.refl _ _).drew)) (Or.inr ⟨by rfl, rfl⟩) ?_); go_frame)
    refine wpX_nil ?_
    simp only [OnlyN_normal]
    refine hKK _ _ ?_
    clear hKK KK
    clear q0 q1 q2 q3 q4 q5 q6 p0 p1 p2 p3 p4 p5 p6
    go_wp2_with fail
    go_roundw
    case rel => exact ⟨i + 1, by go_num, by omega, HB2.out⟩
    case measure => simp [intOf] <;> omega
  · obtain rfl : i = l.length := by omega
    go_wp2_with fail
    go_ret
    exact ⟨rfl, HB.out⟩
theorem conds_same : ∀ n : Nat, CondsSame n
 | 0 => by
   intro D D' A B c d l w hl hm
   obtain rfl := row_zero hl
   exact conds_nil w
 | n + 1 => conds_same_succ n (conds_same n)
set_option maxRecDepth 100000 in
set_option maxHeartbeats 4000000 in
theorem holes_same (n : Nat) {D D' : Nat → Prop} {A B : Option Addr} {c d : Nat} (l : List HoleT) (w : World) (hl : RowR (repHoleT n) D w A c l) (hm : RowR (repHoleT n) D' w B d l) :
 Calls Try.prog 17 #[.slice A l.length c, .slice B l.length d] w fun e w' => e = .returned (.bool true) ∧ Below w.heap.size w w' := by
 have HL := Lib.hid hl
 have HM := Lib.hid hm
 have hlc := hl.cap
 clear hl hm
 go_enter Try.func17, Try.ntmps17
 go_wp2_with fail
 go_loopw [5] (fun s wr => ∃ i : Nat, s = .int .i64 i ∧ i ≤ l.length ∧ Below w.heap.size w wr) (fun s wr => l.length - (intOf s).toNat)
 case atStart => exact ⟨0, rfl, Nat.zero_le _, Below.refl _ _⟩
 case round =>
  obtain ⟨i, rfl, hi, hB⟩ := hrel
  have HB := Lib.hid hB
  clear hB
  by_cases hlt : i < l.length
  · obtain ⟨y, hy⟩ : ∃ y, y = l[i] := ⟨_, rfl⟩
    have b1 : (0 : Int) ≤ (i : Int) := by omega
    have b2 : (i : Int) < (l.length : Int) := by omega
    obtain ⟨g, off, A1, a1, A2, a2, A3, a3, A4, a4, rfl, _, hgs, q0, q1, q2, q3, q4, q5, q6, q7, h1, h2, h3, h4⟩ := at_HoleT (HL.out.new_ HB.out) hlt
    obtain ⟨g2, off2, B1, b1_, B2, b2_, B3, b3_, B4, b4_, rfl, _, hgs2, p0, p1, p2, p3, p4, p5, p6, p7, k1, k2, k3, k4⟩ := at_HoleT (HM.out.new_ HB.out) hlt
    rw [← hy] at q0 q1 q2 q3 q4 q5 q6 q7 p0 p1 p2 p3 p4 p5 p6 p7 h1 h2 h3 h4 k1 k2 k3 k4
    have H1 := Lib.hid h1
    have H2 := Lib.hid h2
    have H3 := Lib.hid h3
    have H4 := Lib.hid h4
    have L1 := Lib.hid k1
    have L2 := Lib.hid k2
    have L3 := Lib.hid k3
    have L4 := Lib.hid k4
    clear hy h1 h2 h3 h4 k1 k2 k3 k4
    go_wp2_with fail
    refine wp_region_E (fun w9 => Below wr.heap.size wr w9) [(0, 0), (1, 0), (2, 0), (3, 0), (4, 1), (5, 0), (6, 0), (7, 0), (8, 0), (9, 1), (10, 2), (11, 0), (12, 0), (13, 0), (14, 0), (15, 0), (16, 0), (17, 1), (18, 0), (19, 0), (20, 0), (21, 0), (22, 1), (23, 2), (24, 0), (25, 0)] (by kernel_rfl) (by kernel_rfl) (fun KK hKK => ?_)
    simp only [beside, List.filterMap_cons, List.filterMap_nil, List.getElem?_toArray, List.getElem?_cons_zero, List.getElem?_cons_succ, Option.map_some]
    repeat ((first | (refine wpX_w ?_ (Or.inl ⟨by rfl, fun w9 => ?_⟩) ?_; rotate_left 1; go_simp; with_reducible rfl) | (refine wpX_l ?_ (((Below.refl _ _).drew)) (Or.inl ⟨by rfl, fun w9 hw9 => ?_⟩) ?_; rotate_left 1; obtain ⟨hc9, hf9⟩ := bcell hw9; go_simp; with_reducible rfl) | refine wpX_w undef (Or.inr ⟨by rfl, rfl⟩) ?_ | refine wpX_l undef (((Below.refl _ _).drew)) (Or.inr ⟨by rfl, rfl⟩) ?_); go_frame)
    refine wpX_es (fun K9 hK9 => ?_)
    go_simp
    refine (cond_same n (conds_same n) y.cond A1 a1 A2 a2 A3 a3 B1 b1_ B2 b2_ B3 b3_ _ (H1.out.new_ ((Below.refl _ _).drew)) (H2.out.new_ ((Below.refl _ _).drew)) (H3.out.new_ ((Below.refl _ _).drew)) (L1.out.new_ ((Below.refl _ _).drew)) (L2.out.new_ ((Below.refl _ _).drew)) (L3.out.new_ ((Below.refl _ _).drew))).mono ?_
    rintro e w5 ⟨rfl, hb5⟩
    have HBd := Lib.hid (show Below wr.heap.size wr w5 from ((Below.refl wr.heap.size wr).drew).trans hb5)
    have q7 := (HBd.out.cell (p := ⟨g, off + i * 8 + 7, none⟩) hgs).trans q7
    have p7 := (HBd.out.cell (p := ⟨g2, off2 + i * 8 + 7, none⟩) hgs2).trans p7
    have hgs5 := Nat.lt_of_lt_of_le hgs HBd.out.size
    have hgs25 := Nat.lt_of_lt_of_le hgs2 HBd.out.size
    clear hb5
    refine hK9 _ _ HBd.out ?_
    clear hK9 K9
    repeat ((first | (refine wpX_w ?_ (Or.inl ⟨by rfl, fun w9 => ?_⟩) ?_; rotate_left 1; go_simp; with_reducible rfl) | (refine wpX_l ?_ (HBd.out) (Or.inl ⟨by rfl, fun w9 hw9 => ?_⟩) ?_; rotate_left 1; obtain ⟨hc9, hf9⟩ := bcell hw9; go_simp; with_reducible rfl) | refine wpX_w undef (Or.inr ⟨by rfl, rfl⟩) ?_ | refine wpX_l undef (HBd.out) (Or.inr ⟨by rfl, rfl⟩) ?_); go_frame)
    refine wpX_e (by kernel_rfl) (fun K9 hK9 => ?_)
    go_simp
    refine (binds_same y.binds _ (H4.out.new_ HBd.out) (L4.out.new_ HBd.out)).mono ?_
    rintro e w6 ⟨rfl, hb6⟩
    have HB2 := Lib.hid (HB.out.trans ((HBd.out.trans (hb6.mono HBd.out.size)).mono HB.out.size))
    clear hb6
    refine hK9 _ _ ?_
    clear hK9 K9
    repeat ((first | (refine wpX_w ?_ (Or.inl ⟨by rfl, fun w9 => ?_⟩) ?_; rotate_left 1; go_simp; with_reducible rfl) | (refine wpX_l ?_ (HBd.out) (Or.inl ⟨by rfl, fun w9 hw9 => ?_⟩) ?_; rotate_left 1; obtain ⟨hc9, hf9⟩ := bcell hw9; go_simp; with_reducible rfl) | refine wpX_w undef (Or.inr ⟨by rfl, rfl⟩) ?_ | refine wpX_l undef (HBd.out) (Or.inr ⟨by rfl, rfl⟩) ?_); go_frame)
    refine wpX_nil ?_
    simp only [OnlyN_normal]
    refine hKK _ _ ?_
    clear hKK KK
    clear q0 q1 q2 q3 q4 q5 q6 q7 p0 p1 p2 p3 p4 p5 p6 p7
    go_wp2_with fail
    go_roundw
    case rel => exact ⟨i + 1, by go_num, by omega, HB2.out⟩
    case measure => simp [intOf] <;> omega
  · obtain rfl : i = l.length := by omega
    go_wp2_with fail
    go_ret
    exact ⟨rfl, HB.out⟩
end Go.Proofs.Ytnfgilbaglfkeaa
namespace Go.Proofs.Ytnfgilbaglfkeaa
open Go.RowKit Go.ChangeShapes Go.WideShapes Go.Deep
set_option maxRecDepth 100000 in
theorem open_Recs {H : Type} {enc : TypeId × Value → H} {w : World} {r : Reach} {b0 base : Nat} {spare : Nat → Bool} {held : Bool} {v : Value} {d : DataW H} {ps : List MemPlace}
 (hval : Value.okWide Try.prog w r b0 23 v) (h : DataW.Trod enc Try.prog w base spare held 23 v d ps) : ∃ (n : Nat) (A : Option Addr) (c : Nat) (l : List RecordT), v = .slice A l.length c ∧ RowR (repRecordT n) (· < w.heap.size) w A c l := by
 obtain ⟨A, len, cap, rfl⟩ := okWide_slice Try.underlying23 hval
 obtain ⟨fuel, hf⟩ := h
 have hcs : (Value.slice A len cap).cells.toList = [.slice A len cap] := by simp [Value.cells]
 rw [hcs] at hf
 obtain ⟨A', c', l, h1, h2⟩ := row_of_trodN (r := repRecordT fuel) Try.underlying23 (by rw [repRecordT_size]; decide) (by rw [repRecordT_size]; kernel_rfl) (fun m hm cs x hx => (openN_RecordT enc w base spare held m cs x hx).imp fun _ g => repRecordT_le (by omega) g) hf
 simp only [List.cons.injEq, and_true] at h1
 exact ⟨fuel, A', c', l, h1, h2⟩
end Go.Proofs.Ytnfgilbaglfkeaa
namespace Go.Proofs.Ytnfgilbaglfkeaa
open Go.RowKit Go.Shelf
theorem row_one {α : Type} {r : RepT α} {D : Nat → Prop} {w : World} {g : Nat} {t : TypeId} {cs : List Value} {a : α} (hb : Blk w g t cs.toArray) (hD : D g) (hr : r.rep D w a cs) : RowR r D w (some ⟨g, 0, none⟩) 1 [a] := by
 refine ⟨Nat.le_refl _, by unfold maxLen; omega, fun _ => ⟨g, 0, rfl, hD, hb.lt, fun k hk => ?_⟩⟩
 obtain rfl : k = 0 := by simp at hk; omega
 exact ⟨cs, hr, fun j u hu => by rw [show 0 + 0 * r.size + j = j by omega, hb.cell]; simpa using hu⟩
theorem row_two {α : Type} {r : RepT α} {D : Nat → Prop} {w : World} {g : Nat} {t : TypeId} {cs ds : List Value} {a b : α} (hb : Blk w g t (cs ++ ds).toArray) (hD : D g) (hr : r.rep D w a cs) (hr2 : r.rep D w b ds) : RowR r D w (some ⟨g, 0, none⟩) 2 [a, b] := by
 refine ⟨Nat.le_refl _, by unfold maxLen; omega, fun _ => ⟨g, 0, rfl, hD, hb.lt, fun k hk => ?_⟩⟩
 have hl := r.len hr
 rcases k with _ | _ | k
 · exact ⟨cs, hr, fun j u hu => by
    have hj : j < cs.length := (List.getElem?_eq_some_iff.1 hu).1
    rw [show 0 + 0 * r.size + j = j by omega, hb.cell]; simpa [List.getElem?_append_left hj] using hu⟩
 · exact ⟨ds, hr2, fun j u hu => by
    rw [show 0 + (0 + 1) * r.size + j = r.size + j by omega, hb.cell]
    simp [List.getElem?_append_right (show cs.length ≤ r.size + j by omega), hl, hu]⟩
 · simp at hk; omega
set_option maxHeartbeats 1000000 in
theorem wW9_is (t : ByteArray)(w : World) : Calls Try.prog 32 #[.string t] w fun e w' => e = .returned (.agg #[.int .i64 3, .string t, .int .i64 0]) ∧ Below w.heap.size w w' := by
 go_enter Try.func32, Try.ntmps32
 go_wp2_with fail
 exact bodyPost_ret (v := .agg #[.int .i64 3, .string t, .int .i64 0]) (by simp [results, Try.results32, go_sem]) rfl ⟨rfl, by (repeat (first | exact Below.refl _ _ | refine Below.drew ?_ | refine Below.al ?_ _ | refine Below.sc ?_ _))⟩
set_option maxHeartbeats 1000000 in
theorem wN9_is (n : Int)(w : World) : Calls Try.prog 33 #[.int .i64 n] w fun e w' => e = .returned (.agg #[.int .i64 2, .string ⟨#[]⟩, .int .i64 n]) ∧ Below w.heap.size w w' := by
 go_enter Try.func33, Try.ntmps33
 go_wp2_with fail
 exact bodyPost_ret (v := .agg #[.int .i64 2, .string ⟨#[]⟩, .int .i64 n]) (by simp [results, Try.results33, go_sem]) rfl ⟨rfl, by (repeat (first | exact Below.refl _ _ | refine Below.drew ?_ | refine Below.al ?_ _ | refine Below.sc ?_ _))⟩
set_option maxHeartbeats 1000000 in
theorem wI9_is (t : ByteArray) (n : Int)(w : World) : Calls Try.prog 31 #[.string t, .int .i64 n] w fun e w' => e = .returned (.agg #[.int .i64 1, .string t, .int .i64 n]) ∧ Below w.heap.size w w' := by
 go_enter Try.func31, Try.ntmps31
 go_wp2_with fail
 exact bodyPost_ret (v := .agg #[.int .i64 1, .string t, .int .i64 n]) (by simp [results, Try.results31, go_sem]) rfl ⟨rfl, by (repeat (first | exact Below.refl _ _ | refine Below.drew ?_ | refine Below.al ?_ _ | refine Below.sc ?_ _))⟩
set_option maxRecDepth 100000 in
set_option maxHeartbeats 4000000 in
theorem wkE_is (n : Int) (w : World) : Calls Try.prog 30 #[.int .i64 n] w fun e w' => e = .returned (.agg #[.int .i64 1, .string ⟨#[65]⟩, .int .i64 n, .int .i64 3, .string ⟨#[120]⟩, .int .i64 0, .int .i64 2, .string ⟨#[]⟩, .int .i64 1, .bool false, .bool false, .int .i64 n]) ∧ Below w.heap.size w w' := by
 go_enter Try.func30, Try.ntmps30
 go_upto_region 1 with fail
 obtain ⟨w1, hw1⟩ : ∃ w1, w1 = (w.alloc (.cells #[.int .i64 0, .string ⟨#[]⟩, .int .i64 0, .int .i64 0, .string ⟨#[]⟩, .int .i64 0, .int .i64 0, .string ⟨#[]⟩, .int .i64 0, .bool false, .bool false, .int .i64 0] 53)) := ⟨_, rfl⟩
 rw [← hw1]
 have HB := Lib.hid (show Below w.heap.size w w1 by rw [hw1]; exact (by repeat (first | exact Below.refl _ _ | refine Below.drew ?_ | refine Below.al ?_ _ | refine Below.sc ?_ _)))
 have Kr := Lib.hid (show Blk w1 (w.heap.size) 53 #[.int .i64 0, .string ⟨#[]⟩, .int .i64 0, .int .i64 0, .string ⟨#[]⟩, .int .i64 0, .int .i64 0, .string ⟨#[]⟩, .int .i64 0, .bool false, .bool false, .int .i64 0] by rw [hw1]; exact (Blk.new w 53 #[.int .i64 0, .string ⟨#[]⟩, .int .i64 0, .int .i64 0, .string ⟨#[]⟩, .int .i64 0, .int .i64 0, .string ⟨#[]⟩, .int .i64 0, .bool false, .bool false, .int .i64 0]))
 clear hw1
 have rz := Kr.out.lt
 go_wp2_with fail
 with_reducible refine (wI9_is ⟨#[65]⟩ n _).mono ?_
 rintro e w2 ⟨rfl, hb⟩
 have hbs := Below.trans (show Below w1.heap.size w1 _ from (by (repeat (first | exact Below.refl _ _ | refine Below.drew ?_ | refine Below.al ?_ _ | refine Below.sc ?_ _)))) (hb.mono (by simp <;> omega))
 have Kr := Lib.hid (Kr.out.new_ hbs)
 have HB := Lib.hid (HB.out.trans (hbs.mono HB.out.size))
 have hsz2 := hbs.size
 clear rz hb hbs
 have rz := Kr.out.lt
 go_wp2_with fail
 with_reducible refine (wW9_is ⟨#[120]⟩ _).mono ?_
 rintro e w3 ⟨rfl, hb⟩
 have hbs := Below.trans (show Below w2.heap.size w2 _ from (by (repeat (first | exact Below.refl _ _ | refine Below.drew ?_ | refine Below.al ?_ _ | refine Below.sc ?_ _)))) (hb.mono (by simp <;> omega))
 have Kr := Lib.hid (Kr.out.new_ hbs)
 have HB := Lib.hid (HB.out.trans (hbs.mono HB.out.size))
 have hsz3 := hbs.size
 clear rz hb hbs
 have rz := Kr.out.lt
 go_wp2_with fail
 with_reducible refine (wN9_is 1 _).mono ?_
 rintro e w4 ⟨rfl, hb⟩
 have hbs := Below.trans (show Below w3.heap.size w3 _ from (by (repeat (first | exact Below.refl _ _ | refine Below.drew ?_ | refine Below.al ?_ _ | refine Below.sc ?_ _)))) (hb.mono (by simp <;> omega))
 have Kr := Lib.hid (Kr.out.new_ hbs)
 have HB := Lib.hid (HB.out.trans (hbs.mono HB.out.size))
 have hsz4 := hbs.size
 clear rz hb hbs
 have rz := Kr.out.lt
 have HT := Lib.hid (show w4.there w.heap.size 0 (#[Value.int IntKind.i64 1, Value.string ⟨#[65]⟩, Value.int IntKind.i64 n, Value.int IntKind.i64 3, Value.string ⟨#[120]⟩, Value.int IntKind.i64 0, Value.int IntKind.i64 2, Value.string ⟨#[]⟩, Value.int IntKind.i64 1, Value.bool false, Value.bool false, Value.int IntKind.i64 n] : Array Value).size from Kr.out.there)
 go_wp2_with (with_reducible refine wpList_store_mid rfl 53 _ _ rfl w.heap.size 0 #[Value.int IntKind.i64 1, Value.string ⟨#[65]⟩, Value.int IntKind.i64 n, Value.int IntKind.i64 3, Value.string ⟨#[120]⟩, Value.int IntKind.i64 0, Value.int IntKind.i64 2, Value.string ⟨#[]⟩, Value.int IntKind.i64 1, Value.bool false, Value.bool false, Value.int IntKind.i64 n] rfl rfl HT.out (by kernel_rfl) (by kernel_rfl) ?_)
 try simp only [Exit.inBlock, Exit.then]
 have hs9 := HB.out.size
 refine bodyPost_ret (v := .agg #[.int .i64 1, .string ⟨#[65]⟩, .int .i64 n, .int .i64 3, .string ⟨#[120]⟩, .int .i64 0, .int .i64 2, .string ⟨#[]⟩, .int .i64 1, .bool false, .bool false, .int .i64 n]) ?_ rfl ⟨rfl, Below.setCells' _ _ HB.out (Nat.le_refl _)⟩
 exact results_cell (t := 2) (T := 53) rfl _ _ w.heap.size [.int .i64 1, .string ⟨#[65]⟩, .int .i64 n, .int .i64 3, .string ⟨#[120]⟩, .int .i64 0, .int .i64 2, .string ⟨#[]⟩, .int .i64 1, .bool false, .bool false, .int .i64 n] _ rfl (World.rangeAt_setCells_same _ w.heap.size 0 [.int .i64 1, .string ⟨#[65]⟩, .int .i64 n, .int .i64 3, .string ⟨#[120]⟩, .int .i64 0, .int .i64 2, .string ⟨#[]⟩, .int .i64 1, .bool false, .bool false, .int .i64 n] HT.out) Try.underlying53 rfl (by kernel_rfl)
def wkElem (n : Int) : Elem := ⟨⟨1, ⟨#[65]⟩, n⟩, ⟨3, ⟨#[120]⟩, 0⟩, ⟨2, ⟨#[]⟩, 1⟩, false, false, n⟩
def wkR1 : RecordT := ⟨5, 2, [⟨wkElem 3, 1, 0⟩, ⟨wkElem 7, 2, 4⟩], [], [], []⟩
def wkR2 : RecordT := ⟨4, 2, [⟨wkElem 1, 1, 0⟩], [], [], []⟩
def wkL : List RecordT := [wkR1, wkR2]
theorem wk_reach : reach (lookR wkL) 2 [5, 4] [5] [] = [5, 4] := by kernel_rfl
theorem wk_trail : trailV (lookR wkL) 2 [5, 4] = ⟨[⟨wkElem 1, 1, 0⟩, ⟨wkElem 3, 1, 0⟩], [], [], [], 2, 0⟩ := by kernel_rfl
theorem wk_small : ∀ r ∈ wkL, SmR 1 r ∧ r.elems.length ≤ 20 := by
 intro r hr
 simp only [wkL, List.mem_cons, List.not_mem_nil, or_false] at hr
 rcases hr with rfl | rfl <;> exact ⟨⟨by decide, by decide, by decide, by decide, fun h hh => by cases hh⟩, by decide⟩
end Go.Proofs.Ytnfgilbaglfkeaa
namespace Go.Proofs.Ytnfgilbaglfkeaa
open Go.RowKit Go.Shelf
theorem wkrows (w : World) (s t c : Nat) (hs : Blk w s 55 #[.int .i64 1, .string ⟨#[65]⟩, .int .i64 3, .int .i64 3, .string ⟨#[120]⟩, .int .i64 0, .int .i64 2, .string ⟨#[]⟩, .int .i64 1, .bool false, .bool false, .int .i64 3, .int .i64 1, .int .i64 0, .int .i64 1, .string ⟨#[65]⟩, .int .i64 7, .int .i64 3, .string ⟨#[120]⟩, .int .i64 0, .int .i64 2, .string ⟨#[]⟩, .int .i64 1, .bool false, .bool false, .int .i64 7, .int .i64 2, .int .i64 4]) (ht : Blk w t 55 #[.int .i64 1, .string ⟨#[65]⟩, .int .i64 1, .int .i64 3, .string ⟨#[120]⟩, .int .i64 0, .int .i64 2, .string ⟨#[]⟩, .int .i64 1, .bool false, .bool false, .int .i64 1, .int .i64 1, .int .i64 0]) (hc : Blk w c 47 #[.int .i64 5, .int .i64 2, .slice (some ⟨s, 0, none⟩) 2 2, .slice none 0 0, .slice none 0 0, .slice none 0 0, .int .i64 4, .int .i64 2, .slice (some ⟨t, 0, none⟩) 1 1, .slice none 0 0, .slice none 0 0, .slice none 0 0]) : RowR (repRecordT 1) (· < w.heap.size) w (some ⟨c, 0, none⟩) 2 wkL := by
 refine row_two (cs := [.int .i64 5, .int .i64 2, .slice (some ⟨s, 0, none⟩) 2 2, .slice none 0 0, .slice none 0 0, .slice none 0 0]) (ds := [.int .i64 4, .int .i64 2, .slice (some ⟨t, 0, none⟩) 1 1, .slice none 0 0, .slice none 0 0, .slice none 0 0]) hc hc.lt ?_ ?_
 · exact ⟨some ⟨s, 0, none⟩, 2, none, 0, none, 0, none, 0, rfl, row_two (cs := [.int .i64 1, .string ⟨#[65]⟩, .int .i64 3, .int .i64 3, .string ⟨#[120]⟩, .int .i64 0, .int .i64 2, .string ⟨#[]⟩, .int .i64 1, .bool false, .bool false, .int .i64 3, .int .i64 1, .int .i64 0]) (ds := [.int .i64 1, .string ⟨#[65]⟩, .int .i64 7, .int .i64 3, .string ⟨#[120]⟩, .int .i64 0, .int .i64 2, .string ⟨#[]⟩, .int .i64 1, .bool false, .bool false, .int .i64 7, .int .i64 2, .int .i64 4]) hs hs.lt rfl rfl, RowR.nil _ _ _, RowR.nil _ _ _, RowR.nil _ _ _⟩
 · exact ⟨some ⟨t, 0, none⟩, 1, none, 0, none, 0, none, 0, rfl, row_one (cs := [.int .i64 1, .string ⟨#[65]⟩, .int .i64 1, .int .i64 3, .string ⟨#[120]⟩, .int .i64 0, .int .i64 2, .string ⟨#[]⟩, .int .i64 1, .bool false, .bool false, .int .i64 1, .int .i64 1, .int .i64 0]) ht ht.lt rfl, RowR.nil _ _ _, RowR.nil _ _ _, RowR.nil _ _ _⟩
theorem wkwalk {kb : Nat} {A Ai : Option Addr} (w : World) (hk : Blk w kb 23 #[.slice A 2 2]) (hr : RowR (repRecordT 1) (· < w.heap.size) w A 2 wkL) (hi : RowRd w 1 Int.cells1 Ai 1 [5]) :
 Calls Try.prog 11 #[.int .i64 2, .slice Ai 1 1, .func (.func 47) #[] #[.pointer (some ⟨kb, 0, none⟩)]] w (WalkPost 1 (fun E _ w' => (∀ k, ¬ E k) ∧ Below w.heap.size w w' ∧ w.heap.size ≤ w'.heap.size) (lookR wkL) 2 (fun _ => False) [5, 4] w) := by
 have hf := find_spec 1 kb w.heap.size wkL A 2 w hk hr (fun r hr => (wk_small r hr).1) (Nat.le_refl _) hk.lt
 have h1 := light_cost (l := wkL) (by decide) (fun r hr => (wk_small r hr).2) 2 [5] (by decide)
 have := walk_is hf (wkL.map RecordT.num) (lookR_keys wkL) (lookR_all (smR_zero 1) (fun r hr => (wk_small r hr).1)) 2 [5] Ai 1 (E0 := fun _ => False) w ⟨fun _ h => h, Below.refl _ _, Nat.le_refl _⟩ (Nat.le_refl _) hi h1.1 h1.2
 rw [show wkL.map RecordT.num = [5, 4] from rfl, wk_reach] at this
 exact this
set_option maxRecDepth 100000 in
set_option maxHeartbeats 4000000 in
theorem wakes21_is (w : World) : Calls Try.prog 9 #[] w fun e w' => e = .returned (.bool true) ∧ Below w.heap.size w w' := by
 have HB := Lib.hid (Below.refl w.heap.size w)
 go_enter Try.func9, Try.ntmps9
 go_wp2_with fail
 with_reducible refine (wkE_is 3 _).mono ?_
 rintro e w2 ⟨rfl, hb⟩
 have hbs := Below.trans (show Below w.heap.size w _ from (by (repeat (first | exact Below.refl _ _ | refine Below.drew ?_ | refine Below.al ?_ _ | refine Below.sc ?_ _)))) (hb.mono (by simp <;> omega))
 have HB := Lib.hid (HB.out.trans (hbs.mono HB.out.size))
 have hsz2 := hbs.size
 clear  hb hbs
 go_wp2_with fail
 with_reducible refine (wkE_is 7 _).mono ?_
 rintro e w3 ⟨rfl, hb⟩
 have hbs := Below.trans (show Below w2.heap.size w2 _ from (by (repeat (first | exact Below.refl _ _ | refine Below.drew ?_ | refine Below.al ?_ _ | refine Below.sc ?_ _)))) (hb.mono (by simp <;> omega))
 have HB := Lib.hid (HB.out.trans (hbs.mono HB.out.size))
 have hsz3 := hbs.size
 clear  hb hbs
 go_wp2_with fail
 with_reducible refine (wkE_is 1 _).mono ?_
 rintro e w4 ⟨rfl, hb⟩
 have hbs := Below.trans (show Below w3.heap.size w3 _ from (by (repeat (first | exact Below.refl _ _ | refine Below.drew ?_ | refine Below.al ?_ _ | refine Below.sc ?_ _)))) (hb.mono (by simp <;> omega))
 have Ks := Lib.hid (show Blk w4 (w3.heap.size) 55 #[.int .i64 1, .string ⟨#[65]⟩, .int .i64 3, .int .i64 3, .string ⟨#[120]⟩, .int .i64 0, .int .i64 2, .string ⟨#[]⟩, .int .i64 1, .bool false, .bool false, .int .i64 3, .int .i64 1, .int .i64 0, .int .i64 1, .string ⟨#[65]⟩, .int .i64 7, .int .i64 3, .string ⟨#[120]⟩, .int .i64 0, .int .i64 2, .string ⟨#[]⟩, .int .i64 1, .bool false, .bool false, .int .i64 7, .int .i64 2, .int .i64 4] from (Blk.new _ _ _).new_ hb)
 have HB := Lib.hid (HB.out.trans (hbs.mono HB.out.size))
 have hsz4 := hbs.size
 clear  hb hbs
 have sz := Ks.out.lt
 have HM := Lib.hid (show ∀ A Y, Calls Try.prog 13 #[.slice A 2 2] Y _ from fun A Y => mkfind_is wkL A 2 Y)
 go_wp2_with fail
 with_reducible refine (HM.out _ _).mono ?_
 rintro e w5 ⟨rfl, hb, hfb⟩
 have hbs := Below.trans (show Below w4.heap.size w4 _ from (by (repeat (first | exact Below.refl _ _ | refine Below.drew ?_ | refine Below.al ?_ _ | refine Below.sc ?_ _)))) (hb.mono (by simp <;> omega))
 have Ks := Lib.hid (Ks.out.new_ hbs)
 have Kt := Lib.hid (show Blk w5 (w4.heap.size) 55 #[.int .i64 1, .string ⟨#[65]⟩, .int .i64 1, .int .i64 3, .string ⟨#[120]⟩, .int .i64 0, .int .i64 2, .string ⟨#[]⟩, .int .i64 1, .bool false, .bool false, .int .i64 1, .int .i64 1, .int .i64 0] from (((Blk.new _ _ _).alloc _).alloc _).new_ hb)
 have Kc := Lib.hid (show Blk w5 (w4.heap.size + 1) 47 #[.int .i64 5, .int .i64 2, .slice (some ⟨w3.heap.size, 0, none⟩) 2 2, .slice none 0 0, .slice none 0 0, .slice none 0 0, .int .i64 4, .int .i64 2, .slice (some ⟨w4.heap.size, 0, none⟩) 1 1, .slice none 0 0, .slice none 0 0, .slice none 0 0] from ((show Blk ((w4.alloc (.cells #[.int .i64 1, .string ⟨#[65]⟩, .int .i64 1, .int .i64 3, .string ⟨#[120]⟩, .int .i64 0, .int .i64 2, .string ⟨#[]⟩, .int .i64 1, .bool false, .bool false, .int .i64 1, .int .i64 1, .int .i64 0] 55)).alloc (.cells #[.int .i64 5, .int .i64 2, .slice (some ⟨w3.heap.size, 0, none⟩) 2 2, .slice none 0 0, .slice none 0 0, .slice none 0 0, .int .i64 4, .int .i64 2, .slice (some ⟨w4.heap.size, 0, none⟩) 1 1, .slice none 0 0, .slice none 0 0, .slice none 0 0] 47)) (w4.heap.size + 1) 47 #[.int .i64 5, .int .i64 2, .slice (some ⟨w3.heap.size, 0, none⟩) 2 2, .slice none 0 0, .slice none 0 0, .slice none 0 0, .int .i64 4, .int .i64 2, .slice (some ⟨w4.heap.size, 0, none⟩) 1 1, .slice none 0 0, .slice none 0 0, .slice none 0 0] by have hh := Blk.new (w4.alloc (.cells #[.int .i64 1, .string ⟨#[65]⟩, .int .i64 1, .int .i64 3, .string ⟨#[120]⟩, .int .i64 0, .int .i64 2, .string ⟨#[]⟩, .int .i64 1, .bool false, .bool false, .int .i64 1, .int .i64 1, .int .i64 0] 55)) 47 #[.int .i64 5, .int .i64 2, .slice (some ⟨w3.heap.size, 0, none⟩) 2 2, .slice none 0 0, .slice none 0 0, .slice none 0 0, .int .i64 4, .int .i64 2, .slice (some ⟨w4.heap.size, 0, none⟩) 1 1, .slice none 0 0, .slice none 0 0, .slice none 0 0]; simp only [World.size_alloc] at hh; exact hh).alloc _).new_ hb)
 have Ki := Lib.hid (show Blk w5 (w4.heap.size + 2) 3 #[.int .i64 5] from ((show Blk (((w4.alloc (.cells #[.int .i64 1, .string ⟨#[65]⟩, .int .i64 1, .int .i64 3, .string ⟨#[120]⟩, .int .i64 0, .int .i64 2, .string ⟨#[]⟩, .int .i64 1, .bool false, .bool false, .int .i64 1, .int .i64 1, .int .i64 0] 55)).alloc (.cells #[.int .i64 5, .int .i64 2, .slice (some ⟨w3.heap.size, 0, none⟩) 2 2, .slice none 0 0, .slice none 0 0, .slice none 0 0, .int .i64 4, .int .i64 2, .slice (some ⟨w4.heap.size, 0, none⟩) 1 1, .slice none 0 0, .slice none 0 0, .slice none 0 0] 47)).alloc (.cells #[.int .i64 5] 3)) (w4.heap.size + 2) 3 #[.int .i64 5] by have hh := Blk.new ((w4.alloc (.cells #[.int .i64 1, .string ⟨#[65]⟩, .int .i64 1, .int .i64 3, .string ⟨#[120]⟩, .int .i64 0, .int .i64 2, .string ⟨#[]⟩, .int .i64 1, .bool false, .bool false, .int .i64 1, .int .i64 1, .int .i64 0] 55)).alloc (.cells #[.int .i64 5, .int .i64 2, .slice (some ⟨w3.heap.size, 0, none⟩) 2 2, .slice none 0 0, .slice none 0 0, .slice none 0 0, .int .i64 4, .int .i64 2, .slice (some ⟨w4.heap.size, 0, none⟩) 1 1, .slice none 0 0, .slice none 0 0, .slice none 0 0] 47)) 3 #[.int .i64 5]; simp only [World.size_alloc] at hh; exact hh)).new_ hb)
 have HB := Lib.hid (HB.out.trans (hbs.mono HB.out.size))
 have hsz5 := hbs.size
 clear sz hb hbs
 have sz := Ks.out.lt
 have tz := Kt.out.lt
 have cz := Kc.out.lt
 have i0 := Ki.out.c1
 have iz := Ki.out.lt
 have hfl := hfb.lt
 have HRD := Lib.hid (wkrows w5 _ _ _ Ks.out Kt.out Kc.out)
 have HI := Lib.hid (show RowRd w5 1 Int.cells1 (some ⟨w4.heap.size + 2, 0, none⟩) 1 [5] from RowRd.of_cells (by decide) (by unfold maxLen; decide) Ki.out.lt (fun k hk j u hu => by
  obtain rfl : k = 0 := by simpa using hk
  simpa [Ki.out.cell, Int.cells1] using hu))
 have HW := Lib.hid (wkwalk w5 hfb HRD.out HI.out)
 clear hfb hfl
 go_wp2_with fail
 have HW2 := HW.out
 simp only [World.size_alloc, Nat.add_assoc, Nat.reduceAdd] at HW2 ⊢
 with_reducible refine HW2.mono ?_
 rintro e w6 hpost
 unfold WalkPost at hpost
 rw [wk_trail] at hpost
 obtain ⟨A1, c1, A2, c2, A3, c3, A4, c4, E', rfl, r1, _, _, _, hG, _, _⟩ := hpost
 have hb6 := hG.2.1
 have HB6 := Lib.hid (HB.out.trans (hb6.mono HB.out.size))
 obtain ⟨g, off, hA, _, hg, _, _, _, _, _, _, _, _, _, _, _, x1, _, _⟩ := at_TraceT r1 (k := 0) (by decide)
 obtain ⟨g2, off2, hA2, _, _, _, _, _, _, _, _, _, _, _, _, _, x2, _, _⟩ := at_TraceT r1 (k := 1) (by decide)
 subst hA
 injection hA2 with hA2
 injection hA2 with e1 e2
 subst e1; subst e2
 have y1 : w6.cell? ⟨g, off + 11, none⟩ = some (.int .i64 1) := by simpa [wkElem] using x1
 have y2 : w6.cell? ⟨g, off + 25, none⟩ = some (.int .i64 3) := by simpa [wkElem, Nat.add_assoc] using x2
 have hcap := r1.2.1
 clear x1 x2 r1 hG hb6
 go_wp2_with fail
 have hsz6 := HB6.out.size
 go_ret
 exact ⟨rfl, by (repeat (first | exact Below.refl _ _ | exact HB6.out | refine Below.drew ?_ | refine Below.al ?_ _ | refine Below.sc ?_ _))⟩
end Go.Proofs.Ytnfgilbaglfkeaa
