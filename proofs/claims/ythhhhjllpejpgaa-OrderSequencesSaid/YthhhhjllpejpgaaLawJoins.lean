/-
  The law on union, meet, less against the document's answer: its walk.
-/
import Derived.Test.YthhhhjllpejpgaaSymLists
import Derived.Test.YthhhhjllpejpgaaMeetSym
import Derived.Test.YthhhhjllpejpgaaKitWakes
import Derived.Test.YthhhhjllpejpgaaKitSyms
import Derived.Test.YthhhhjllpejpgaaRefPut
import Derived.Test.YthhhhjllpejpgaaRefHas
import Derived.Test.YthhhhjllpejpgaaRowSym
namespace Go.Proofs.Ythhhhjllpejpgaa
open Go.RowKit
theorem listed_open {D : Nat → Prop} {w : World} {S : Nat → Option (List Sym)} {b : Nat} {l : List Sym} {e : Ending} {w' : World} (h : ListedSym D w S b l e w') :
    ∃ A c, e = .returned (.slice A l.length c) ∧ RowRd w' 3 Sym.cells A c l ∧ AIn A (fun k => w.heap.size ≤ k ∧ k < w'.heap.size) ∧ (∃ σ', SymSets D w' S σ') ∧ Fr (fun k => ¬ D k) w w' := by
  obtain ⟨A, c, he, hr, hA, ⟨σ', hs⟩, hF, _⟩ := h
  exact ⟨A, c, he, hr, hA, ⟨σ', hs.weaken (fun k hk => .inl hk)⟩, hF⟩
/-- A row that is protected, or no row. -/
structure Kept (D : Nat → Prop) (w : World) (A : Option Addr) (c : Nat) (l : List Sym) : Prop where
  rd : RowRd w 3 Sym.cells A c l
  inn : AIn A D
theorem Kept.fr {D : Nat → Prop} {w w' : World} {A : Option Addr} {c : Nat} {l : List Sym} (h : Kept D w A c l) (hF : Fr (fun k => ¬ D k) w w') : Kept D w' A c l := ⟨h.1.fr hF (h.2.mono (fun _ hk hn => hn hk)), h.2⟩
theorem Kept.new_ {D : Nat → Prop} {w w' : World} {A : Option Addr} {c : Nat} {l : List Sym} (h : Kept D w A c l) (hF : Below w.heap.size w w') : Kept D w' A c l := ⟨h.1.new_ hF, h.2⟩
theorem take_snoc {α : Type} {l : List α} {i : Nat} (h : i < l.length) : l.take (i + 1) = l.take i ++ [l[i]] := by
  rw [List.take_add_one, List.getElem?_eq_getElem h]; rfl
theorem aput {A A' : Option Addr} {n m m' : Nat} (h : AIn A (fun k => n ≤ k ∧ k < m)) (h' : A' = A ∨ AIn A' (fun k => m ≤ k ∧ k < m')) (hn : n ≤ m) (hm : m ≤ m') : AIn A' (fun k => n ≤ k ∧ k < m') := by
  rcases h' with rfl | h'
  · exact h.mono (fun k hk => ⟨hk.1, by omega⟩)
  · exact h'.mono (fun k hk => ⟨by omega, hk.2⟩)
/-- A list that the law makes by itself, in memory behind n. -/
def Tmp (n : Nat) (W : World) (v : Value) (l : List Sym) : Prop := ∃ A c, v = .slice A l.length c ∧ RowRd W 3 Sym.cells A c l ∧ AIn A (fun k => n ≤ k ∧ k < W.heap.size)
theorem Tmp.nil (n : Nat) (W : World) : Tmp n W (.slice none 0 0) [] := ⟨none, 0, rfl, RowRd.nil _ _ _, AIn.none_ _⟩
theorem Tmp.new_ {n : Nat} {W W' : World} {v : Value} {l : List Sym} (h : Tmp n W v l) (hb : Below W.heap.size W W') : Tmp n W' v l := by
  obtain ⟨A, c, rfl, hr, hA⟩ := h
  exact ⟨A, c, rfl, hr.new_ hb, hA.mono (fun k hk => ⟨hk.1, Nat.lt_of_lt_of_le hk.2 hb.size⟩)⟩
theorem tput_is {n : Nat} {W : World} {v : Value} {l : List Sym} (x : Sym) (h : Tmp n W v l) (hs : Srt cmpSym l) (hl : (l.length : Int) ≤ 100000000) (hn : n ≤ W.heap.size) :
    Calls Try.prog 18 #[v, .agg #[.int .i64 x.kind, .string x.text, .int .i64 x.n]] W fun e W' => ∃ v', e = .returned v' ∧ Tmp n W' v' (put cmpSym l x) ∧ Below W.heap.size W W' := by
  obtain ⟨A, c, rfl, hr, hA⟩ := h
  refine (rput_is A c l x W hr hs hl).mono ?_
  rintro e W' ⟨A', c', rfl, hr', hA', hB⟩
  exact ⟨_, rfl, ⟨A', c', rfl, hr', aput hA hA' hn hB.size⟩, hB⟩
theorem filter_take {l : List Sym} {f : Sym → Bool} {i : Nat} (h : i < l.length) : (l.take (i + 1)).filter f = (l.take i).filter f ++ if f l[i] = true then [l[i]] else [] := by
  rw [take_snoc h, List.filter_append]; congr 1; by_cases h2 : f l[i] = true <;> simp [h2]
set_option maxRecDepth 100000 in
set_option maxHeartbeats 16000000 in
theorem joins_walk (A B : Option Addr) (ca cb : Nat) (a b : List Sym) (w : World) (hla : RowRd w 3 Sym.cells A ca a) (hlb : RowRd w 3 Sym.cells B cb b) :
    Calls Try.prog 9 #[.slice A a.length ca, .slice B b.length cb] w fun e w' => e = .returned (.bool true) ∧ Below w.heap.size w w' := by
  have HLA := Lib.hid hla
  have HLB := Lib.hid hlb
  clear hla hlb
  by_cases h1 : 60 < a.length
  · have t1 : decide ((60 : Int) < (a.length : Int)) = true := by simp; omega
    clear h1
    go_enter Try.func9, Try.ntmps9
    go_wp2_with fail
    refine (wakes_is _).mono ?_
    rintro e w1 ⟨rfl, hB⟩
    have HB := Lib.hid hB
    clear hB
    go_wp2_with fail
    go_ret
    exact ⟨rfl, HB.out⟩
  by_cases h2 : 60 < b.length
  · have t1 : decide ((60 : Int) < (a.length : Int)) = false := by simp; omega
    have t2 : decide ((60 : Int) < (b.length : Int)) = true := by simp; omega
    clear h1 h2
    go_enter Try.func9, Try.ntmps9
    go_wp2_with fail
    refine (wakes_is _).mono ?_
    rintro e w1 ⟨rfl, hB⟩
    have HB := Lib.hid hB
    clear hB
    go_wp2_with fail
    go_ret
    exact ⟨rfl, HB.out⟩
  have t1 : decide ((60 : Int) < (a.length : Int)) = false := by simp; omega
  have t2 : decide ((60 : Int) < (b.length : Int)) = false := by simp; omega
  have ha30 : a.length ≤ 60 := by omega
  have hb30 : b.length ≤ 60 := by omega
  clear h1 h2
  go_enter Try.func9, Try.ntmps9
  have H0 := Lib.hid (Sets.start 86 27 3 Sym.cells cmpSym w)
  have HB0 := Lib.hid (Below.refl w.heap.size w)
  go_wp2_with fail
  refine (sNew_Sym A ca a H0.out (HLA.out.new_ HB0.out) (by omega)).mono ?_
  rintro e w1 ⟨hm, _⟩
  obtain ⟨x, rfl, S1, σ1, hs, hk, hkeep, hne, hF⟩ := made_open hm
  obtain ⟨X, hL⟩ : ∃ L, L = puts cmpSym [] a := ⟨_, rfl⟩
  rw [← hL] at hk
  have NX : X.length ≤ 60 := by
    have := length_puts_le tc_sym a (Srt.nil (cmp := cmpSym))
    rw [hL]; simp at this; omega
  have LX := Lib.hid hL
  have HG1 := Lib.hid (hk : S1 x = some X)
  have H1 := Lib.hid hs
  have HB1 := Lib.hid (HB0.out.trans (hF.below HB0.out.size (fun j hj hd => hd hj)))
  clear hm hs hk hkeep hne hF hL   H0 HB0
  go_wp2_with fail
  have g_x := HG1.out
  refine (sNew_Sym B cb b H1.out (HLB.out.new_ HB1.out) (by omega)).mono ?_
  rintro e w2 ⟨hm, _⟩
  obtain ⟨y, rfl, S2, σ2, hs, hk, hkeep, hne, hF⟩ := made_open hm
  obtain ⟨Y, hL⟩ : ∃ L, L = puts cmpSym [] b := ⟨_, rfl⟩
  rw [← hL] at hk
  have NY : Y.length ≤ 60 := by
    have := length_puts_le tc_sym b (Srt.nil (cmp := cmpSym))
    rw [hL]; simp at this; omega
  have LY := Lib.hid hL
  have N_x_y := hne _ _ g_x
  have HG2 := Lib.hid (⟨hkeep _ _ g_x, hk⟩ : S2 x = some X ∧ S2 y = some Y)
  have H2 := Lib.hid hs
  have HB2 := Lib.hid (HB1.out.trans (hF.below HB1.out.size (fun j hj hd => hd hj)))
  clear hm hs hk hkeep hne hF hL g_x HG1 H1 HB1
  go_wp2_with fail
  obtain ⟨g_x, g_y⟩ := HG2.out
  refine (lawlist H2.out g_x (by omega)).mono ?_
  intro e w3 hm
  obtain ⟨Ap, cp, rfl, hr, hA, ⟨σ3, hs⟩, hF, _⟩ := hm
  obtain ⟨Dp, hD⟩ : ∃ D : Nat → Prop, D = fun k => (fun j => j < w.heap.size) k ∨ (w2.heap.size ≤ k ∧ k < w3.heap.size) := ⟨_, rfl⟩
  rw [← hD] at hs
  have hDw : ∀ j, j < w.heap.size → Dp j := fun j hj => by rw [hD]; exact .inl hj
  have hDD : ∀ j, (fun j => j < w.heap.size) j → Dp j := fun j hj => by rw [hD]; exact .inl hj
  have HB3 := Lib.hid (HB2.out.trans (hF.below HB2.out.size (fun j hj hd => hd hj)))
  have HKp := Lib.hid (⟨hr, hA.mono (fun k hk => by rw [hD]; exact .inr hk)⟩ : Kept Dp w3 Ap cp X)
  have HDw := Lib.hid hDw
  have H3 := Lib.hid hs
  have HG3 := Lib.hid HG2.out
  clear hs hr hA hF hD hDw hDD g_x g_y HG2 H2 HB2
  go_wp2_with fail
  obtain ⟨g_x, g_y⟩ := HG3.out
  refine (lawlist H3.out g_y (by omega)).mono ?_
  intro e w4 hm
  obtain ⟨Aq, cq, rfl, hr, hA, ⟨σ4, hs⟩, hF, _⟩ := hm
  obtain ⟨Dq, hD⟩ : ∃ D : Nat → Prop, D = fun k => Dp k ∨ (w3.heap.size ≤ k ∧ k < w4.heap.size) := ⟨_, rfl⟩
  rw [← hD] at hs
  have hDw : ∀ j, j < w.heap.size → Dq j := fun j hj => by rw [hD]; exact .inl (HDw.out j hj)
  have hDD : ∀ j, Dp j → Dq j := fun j hj => by rw [hD]; exact .inl hj
  have HB4 := Lib.hid (HB3.out.trans (hF.below HB3.out.size (fun j hj hd => hd (HDw.out j hj))))
  have HKp' := Lib.hid (HKp.out.fr hF)
  clear HKp
  have HKp := Lib.hid HKp'.out
  clear HKp'
  have HKp' := Lib.hid (⟨HKp.out.1, HKp.out.2.mono hDD⟩ : Kept Dq w4 Ap cp X)
  clear HKp
  have HKp := Lib.hid HKp'.out
  clear HKp'
  have HKq := Lib.hid (⟨hr, hA.mono (fun k hk => by rw [hD]; exact .inr hk)⟩ : Kept Dq w4 Aq cq Y)
  clear HDw
  have HDw := Lib.hid hDw
  have H4 := Lib.hid hs
  have HG4 := Lib.hid HG3.out
  clear hs hr hA hF hD hDw hDD g_x g_y HG3 H3 HB3
  go_wp2_with fail
  obtain ⟨g_x, g_y⟩ := HG4.out
  refine (sUnion_Sym H4.out g_x g_y (by omega)).mono ?_
  intro e w5 hm
  obtain ⟨u, rfl, S5, σ5, hs, hk, hkeep, hne, hF⟩ := made_open hm
  obtain ⟨U, hL⟩ : ∃ L, L = puts cmpSym X Y := ⟨_, rfl⟩
  rw [← hL] at hk
  have NU : U.length ≤ 120 := by
    have := length_puts_le tc_sym Y (H4.out.srt _ _ g_x)
    rw [hL]; omega
  have LU := Lib.hid hL
  have N_x_u := hne _ _ g_x
  have N_y_u := hne _ _ g_y
  have HG5 := Lib.hid (⟨hkeep _ _ g_x, hkeep _ _ g_y, hk⟩ : S5 x = some X ∧ S5 y = some Y ∧ S5 u = some U)
  have H5 := Lib.hid hs
  have HB5 := Lib.hid (HB4.out.trans (hF.below HB4.out.size (fun j hj hd => hd (HDw.out j hj))))
  have HKp' := Lib.hid (HKp.out.fr hF)
  clear HKp
  have HKp := Lib.hid HKp'.out
  clear HKp'
  have HKq' := Lib.hid (HKq.out.fr hF)
  clear HKq
  have HKq := Lib.hid HKq'.out
  clear HKq'
  clear hm hs hk hkeep hne hF hL g_x g_y HG4 H4 HB4
  go_wp2_with fail
  obtain ⟨g_x, g_y, g_u⟩ := HG5.out
  refine (sMeet_Sym H5.out g_x g_y (by omega) (by omega)).mono ?_
  intro e w6 hm
  obtain ⟨m, rfl, S6, σ6, hs, hk, hkeep, hne, hF⟩ := made_open hm
  obtain ⟨M, hL⟩ : ∃ L, L = X.filter fun x => has cmpSym Y x := ⟨_, rfl⟩
  rw [← hL] at hk
  have NM : M.length ≤ 60 := by
    have := List.length_filter_le (fun x => has cmpSym Y x) X
    rw [hL]; omega
  have LM := Lib.hid hL
  have N_x_m := hne _ _ g_x
  have N_y_m := hne _ _ g_y
  have N_u_m := hne _ _ g_u
  have HG6 := Lib.hid (⟨hkeep _ _ g_x, hkeep _ _ g_y, hkeep _ _ g_u, hk⟩ : S6 x = some X ∧ S6 y = some Y ∧ S6 u = some U ∧ S6 m = some M)
  have H6 := Lib.hid hs
  have HB6 := Lib.hid (HB5.out.trans (hF.below HB5.out.size (fun j hj hd => hd (HDw.out j hj))))
  have HKp' := Lib.hid (HKp.out.fr hF)
  clear HKp
  have HKp := Lib.hid HKp'.out
  clear HKp'
  have HKq' := Lib.hid (HKq.out.fr hF)
  clear HKq
  have HKq := Lib.hid HKq'.out
  clear HKq'
  clear hm hs hk hkeep hne hF hL g_x g_y g_u HG5 H5 HB5
  go_wp2_with fail
  obtain ⟨g_x, g_y, g_u, g_m⟩ := HG6.out
  refine (sLess_Sym H6.out g_x g_y (by omega) (by omega)).mono ?_
  intro e w7 hm
  obtain ⟨dd, rfl, S7, σ7, hs, hk, hkeep, hne, hF⟩ := made_open hm
  obtain ⟨N, hL⟩ : ∃ L, L = X.filter fun x => !has cmpSym Y x := ⟨_, rfl⟩
  rw [← hL] at hk
  have NN : N.length ≤ 60 := by
    have := List.length_filter_le (fun x => !has cmpSym Y x) X
    rw [hL]; omega
  have LN := Lib.hid hL
  have N_x_dd := hne _ _ g_x
  have N_y_dd := hne _ _ g_y
  have N_u_dd := hne _ _ g_u
  have N_m_dd := hne _ _ g_m
  have HG7 := Lib.hid (⟨hkeep _ _ g_x, hkeep _ _ g_y, hkeep _ _ g_u, hkeep _ _ g_m, hk⟩ : S7 x = some X ∧ S7 y = some Y ∧ S7 u = some U ∧ S7 m = some M ∧ S7 dd = some N)
  have H7 := Lib.hid hs
  have HB7 := Lib.hid (HB6.out.trans (hF.below HB6.out.size (fun j hj hd => hd (HDw.out j hj))))
  have HKp' := Lib.hid (HKp.out.fr hF)
  clear HKp
  have HKp := Lib.hid HKp'.out
  clear HKp'
  have HKq' := Lib.hid (HKq.out.fr hF)
  clear HKq
  have HKq := Lib.hid HKq'.out
  clear HKq'
  clear hm hs hk hkeep hne hF hL g_x g_y g_u g_m HG6 H6 HB6
  have hz7 : w7.heap.size ≤ w7.heap.size := Nat.le_refl _
  go_wp2_with fail
  go_loopw [12, 13, 14, 15] (fun vo va vn s wr => ∃ i : Nat, s = .int .i64 i ∧ i ≤ X.length ∧ Tmp w7.heap.size wr vo (puts cmpSym [] (X.take i)) ∧ Tmp w7.heap.size wr va (puts cmpSym [] ((X.take i).filter fun x => has cmpSym Y x)) ∧ Tmp w7.heap.size wr vn (puts cmpSym [] ((X.take i).filter fun x => !has cmpSym Y x)) ∧ Below w7.heap.size w7 wr) (fun vo va vn s wr => X.length - (intOf s).toNat)
  case atStart => exact ⟨0, rfl, Nat.zero_le _, Tmp.nil _ _, Tmp.nil _ _, Tmp.nil _ _, Below.refl _ _⟩
  case round =>
    obtain ⟨i, rfl, hi, ho, ha, hn, hB⟩ := hrel
    have HO := Lib.hid ho
    have HA := Lib.hid ha
    have HN := Lib.hid hn
    have HB := Lib.hid hB
    clear ho ha hn hB
    by_cases hlt : i < X.length
    · obtain ⟨x', hx⟩ : ∃ x', x' = X[i] := ⟨_, rfl⟩
      have hpw := HKp.out.rd.new_ HB.out
      obtain ⟨g, off, hAp, hg, q0, q1, q2⟩ := sym_at hpw hlt
      rw [← hx] at q0 q1 q2
      subst hAp
      have hzr := HB.out.size
      have hs1 := Srt.puts tc_sym (X.take i) (Srt.nil (cmp := cmpSym))
      have hl1 := length_puts_le tc_sym (X.take i) (Srt.nil (cmp := cmpSym))
      have hs2 := Srt.puts tc_sym ((X.take i).filter fun x => has cmpSym Y x) (Srt.nil (cmp := cmpSym))
      have hl2 := length_puts_le tc_sym ((X.take i).filter fun x => has cmpSym Y x) (Srt.nil (cmp := cmpSym))
      have hs3 := Srt.puts tc_sym ((X.take i).filter fun x => !has cmpSym Y x) (Srt.nil (cmp := cmpSym))
      have hl3 := length_puts_le tc_sym ((X.take i).filter fun x => !has cmpSym Y x) (Srt.nil (cmp := cmpSym))
      have hf2 := List.length_filter_le (fun x => has cmpSym Y x) (X.take i)
      have hf3 := List.length_filter_le (fun x => !has cmpSym Y x) (X.take i)
      have e1 := take_snoc hlt
      have e2 := filter_take (f := fun x => has cmpSym Y x) hlt
      have e3 := filter_take (f := fun x => !has cmpSym Y x) hlt
      rw [← hx] at e1 e2 e3
      have htl : (X.take i).length = i := by rw [List.length_take]; omega
      rw [htl] at hl1 hf2 hf3
      simp only [List.length_nil, Nat.zero_add] at hl1 hl2 hl3
      have HE1 := Lib.hid e1
      have HE2 := Lib.hid e2
      have HE3 := Lib.hid e3
      have HS1 := Lib.hid hs1
      have HS2 := Lib.hid hs2
      have HS3 := Lib.hid hs3
      have b1 : (0 : Int) ≤ (i : Int) := by omega
      have b2 : (i : Int) < (X.length : Int) := by omega
      clear hx e1 e2 e3 hs1 hs2 hs3 hpw htl
      go_wp2_with fail
      refine (tput_is x' HO.out HS1.out (by omega) hzr).mono ?_
      rintro e W1 ⟨vo', rfl, ho, hB1⟩
      have HO' := Lib.hid ho
      have HA1 := Lib.hid (HA.out.new_ hB1)
      have HN1 := Lib.hid (HN.out.new_ hB1)
      have HBt := Lib.hid (HB.out.trans (hB1.mono hzr))
      obtain ⟨hc1, _⟩ := bcell hB1
      have r0 := (hc1 g _ hg).trans q0
      have r1 := (hc1 g _ hg).trans q1
      have r2 := (hc1 g _ hg).trans q2
      have hg1 : g < W1.heap.size := Nat.lt_of_lt_of_le hg hB1.size
      have hz1 := HBt.out.size
      clear ho hB1 hc1 q0 q1 q2
      go_wp2_with fail
      refine (has_is Aq cq Y x' W1 (HKq.out.rd.new_ HBt.out)).mono ?_
      rintro e W2 ⟨rfl, hB2⟩
      have HO2 := Lib.hid (HO'.out.new_ hB2)
      have HA2 := Lib.hid (HA1.out.new_ hB2)
      have HN2 := Lib.hid (HN1.out.new_ hB2)
      have HBu := Lib.hid (HBt.out.trans (hB2.mono hz1))
      obtain ⟨hc2, _⟩ := bcell hB2
      have q0 := (hc2 g _ hg1).trans r0
      have q1 := (hc2 g _ hg1).trans r1
      have q2 := (hc2 g _ hg1).trans r2
      have hz2 := HBu.out.size
      clear hB2 hc2 r0 r1 r2
      cases hh : has cmpSym Y x'
      · go_wp2_with fail
        refine (tput_is x' HN2.out HS3.out (by omega) hz2).mono ?_
        rintro e W3 ⟨vn', rfl, hn, hB3⟩
        have HN3 := Lib.hid hn
        have HO3 := Lib.hid (HO2.out.new_ hB3)
        have HA3 := Lib.hid (HA2.out.new_ hB3)
        have HBv := Lib.hid (HBu.out.trans (hB3.mono hz2))
        clear hn hB3 q0 q1 q2
        go_wp2_with fail
        go_roundw
        case rel =>
          refine ⟨i + 1, by go_num, by omega, ?_, ?_, ?_, HBv.out⟩
          · rw [HE1.out, puts_snoc]; exact HO3.out
          · rw [HE2.out]; simp only [hh, Bool.false_eq_true, if_false, List.append_nil]; exact HA3.out
          · rw [HE3.out]; simp only [hh, Bool.not_false, if_true, puts_snoc]; exact HN3.out
        case measure => simp [intOf] <;> omega
      · go_wp2_with fail
        refine (tput_is x' HA2.out HS2.out (by omega) hz2).mono ?_
        rintro e W3 ⟨va', rfl, hn, hB3⟩
        have HA3 := Lib.hid hn
        have HO3 := Lib.hid (HO2.out.new_ hB3)
        have HN3 := Lib.hid (HN2.out.new_ hB3)
        have HBv := Lib.hid (HBu.out.trans (hB3.mono hz2))
        clear hn hB3 q0 q1 q2
        go_wp2_with fail
        go_roundw
        case rel =>
          refine ⟨i + 1, by go_num, by omega, ?_, ?_, ?_, HBv.out⟩
          · rw [HE1.out, puts_snoc]; exact HO3.out
          · rw [HE2.out]; simp only [hh, if_true, puts_snoc]; exact HA3.out
          · rw [HE3.out]; simp only [hh, Bool.not_true, Bool.false_eq_true, if_false, List.append_nil]; exact HN3.out
        case measure => simp [intOf] <;> omega
    · have hie : i = X.length := by omega
      subst hie
      have hte : X.take X.length = X := List.take_length
      have HOa := HO.out
      have HAa := HA.out
      have HNa := HN.out
      rw [hte] at HOa HAa HNa
      have HO1 := Lib.hid HOa
      have HA1 := Lib.hid HAa
      have HN1 := Lib.hid HNa
      clear HOa HAa HNa hte HO HA HN
      have hB1z := HB.out.size
      obtain ⟨w8, rfl⟩ : ∃ w8, w8 = wr := ⟨_, rfl⟩
      go_wp2_with fail
      go_loopw [12, 16] (fun vo s W => ∃ j : Nat, s = .int .i64 j ∧ j ≤ Y.length ∧ Tmp w7.heap.size W vo (puts cmpSym (puts cmpSym [] X) (Y.take j)) ∧ Below w8.heap.size w8 W) (fun vo s W => Y.length - (intOf s).toNat)
      case atStart => exact ⟨0, rfl, Nat.zero_le _, HO1.out, Below.refl _ _⟩
      case round =>
        obtain ⟨j, rfl, hj, ho, hB2⟩ := hrel
        have HO := Lib.hid ho
        have HB2 := Lib.hid hB2
        clear ho hB2
        by_cases hlt2 : j < Y.length
        · obtain ⟨y', hy⟩ : ∃ y', y' = Y[j] := ⟨_, rfl⟩
          obtain ⟨g, off, hAq, hg, q0, q1, q2⟩ := sym_at ((HKq.out.rd.new_ HB.out).new_ HB2.out) hlt2
          rw [← hy] at q0 q1 q2
          subst hAq
          have hzr : w7.heap.size ≤ wr.heap.size := by have := HB2.out.size; omega
          have hs1 := Srt.puts tc_sym (Y.take j) (Srt.puts tc_sym X (Srt.nil (cmp := cmpSym)))
          have hl1 := length_puts_le tc_sym (Y.take j) (Srt.puts tc_sym X (Srt.nil (cmp := cmpSym)))
          have hl0 := length_puts_le tc_sym X (Srt.nil (cmp := cmpSym))
          have htl : (Y.take j).length = j := by rw [List.length_take]; omega
          simp only [List.length_nil, Nat.zero_add] at hl0
          rw [htl] at hl1
          have e1 := take_snoc hlt2
          rw [← hy] at e1
          have HE1 := Lib.hid e1
          have HS1 := Lib.hid hs1
          have b1 : (0 : Int) ≤ (j : Int) := by omega
          have b2 : (j : Int) < (Y.length : Int) := by omega
          clear hy e1 hs1 htl
          go_wp2_with fail
          refine (tput_is y' HO.out HS1.out (by omega) hzr).mono ?_
          rintro e W1 ⟨vo', rfl, ho, hB3⟩
          have HO' := Lib.hid ho
          have HBt := Lib.hid (HB2.out.trans (hB3.mono HB2.out.size))
          clear ho hB3 q0 q1 q2
          go_wp2_with fail
          go_roundw
          case rel => exact ⟨j + 1, by go_num, by omega, by rw [HE1.out, puts_snoc]; exact HO'.out, HBt.out⟩
          case measure => simp [intOf] <;> omega
        · have hje : j = Y.length := by omega
          subst hje
          have hte : Y.take Y.length = Y := List.take_length
          have HOa := HO.out
          rw [hte] at HOa
          obtain ⟨w9, rfl⟩ : ∃ w9, w9 = wr := ⟨_, rfl⟩
          obtain ⟨Ao, co, rfl, hro, hAo⟩ := HOa
          obtain ⟨Aa, can, rfl, hra, hAa⟩ := HA1.out.new_ HB2.out
          obtain ⟨An, cn, rfl, hrn, hAn⟩ := HN1.out.new_ HB2.out
          have hB79 := HB.out.trans (HB2.out.mono HB.out.size)
          obtain ⟨OR, hOR⟩ : ∃ L, L = puts cmpSym (puts cmpSym [] X) Y := ⟨_, rfl⟩
          obtain ⟨AND, hAND⟩ : ∃ L, L = puts cmpSym [] (X.filter fun x => has cmpSym Y x) := ⟨_, rfl⟩
          obtain ⟨NOT, hNOT⟩ : ∃ L, L = puts cmpSym [] (X.filter fun x => !has cmpSym Y x) := ⟨_, rfl⟩
          rw [← hOR] at hro ⊢
          rw [← hAND] at hra ⊢
          rw [← hNOT] at hrn ⊢
          have h9 := H7.out.protect hB79
          obtain ⟨D9, hD9⟩ : ∃ D : Nat → Prop, D = fun k => Dq k ∨ (w7.heap.size ≤ k ∧ k < w9.heap.size) := ⟨_, rfl⟩
          rw [← hD9] at h9
          have hDw : ∀ j, j < w.heap.size → D9 j := fun j hj => by rw [hD9]; exact .inl (HDw.out j hj)
          have hDD : ∀ j, Dq j → D9 j := fun j hj => by rw [hD9]; exact .inl hj
          have hDn : ∀ j, (w7.heap.size ≤ j ∧ j < w9.heap.size) → D9 j := fun j hj => by rw [hD9]; exact .inr hj
          have HKo := Lib.hid (Kept.mk (hro) (hAo.mono hDn))
          have HKa := Lib.hid (Kept.mk (hra) (hAa.mono hDn))
          have HKn := Lib.hid (Kept.mk (hrn) (hAn.mono hDn))
          have HKp9 := Lib.hid (Kept.mk (HKp.out.rd.new_ hB79) (HKp.out.inn.mono hDD))
          have HKq9 := Lib.hid (Kept.mk (HKq.out.rd.new_ hB79) (HKq.out.inn.mono hDD))
          clear HKp HKq HDw
          have HKp := Lib.hid HKp9.out
          have HKq := Lib.hid HKq9.out
          have HDw := Lib.hid hDw
          have HB9 := Lib.hid (HB7.out.trans (hB79.mono HB7.out.size))
          have H9 := Lib.hid h9
          have HG9 := Lib.hid HG7.out
          have LOR := Lib.hid hOR
          have LAND := Lib.hid hAND
          have LNOT := Lib.hid hNOT
          have hlOR : OR.length ≤ 120 := by
            have h1 := length_puts_le tc_sym Y (Srt.puts tc_sym X (Srt.nil (cmp := cmpSym)))
            have h2 := length_puts_le tc_sym X (Srt.nil (cmp := cmpSym))
            rw [hOR]; simp at h2; omega
          clear hro hra hrn hAo hAa hAn hB79 h9 hD9 hDw hDD hDn HKp9 HKq9 HB7 H7 HG7 hOR hAND hNOT HO HA1 HN1 HO1 hte HB HB2 hB1z hz7
          go_wp2_with fail
          obtain ⟨g_x, g_y, g_u, g_m, g_dd⟩ := HG9.out
          refine (lawlist H9.out g_u (by omega)).mono ?_
          intro e w10 hm
          obtain ⟨Ar1, cr1, rfl, hr, _, ⟨σ10, hs⟩, hF⟩ := listed_open hm
          clear hm
          have HB10 := Lib.hid (HB9.out.trans (hF.below HB9.out.size (fun j hj hd => hd (HDw.out j hj))))
          have HKo' := Lib.hid (HKo.out.fr hF)
          clear HKo
          have HKo := Lib.hid HKo'.out
          clear HKo'
          have HKa' := Lib.hid (HKa.out.fr hF)
          clear HKa
          have HKa := Lib.hid HKa'.out
          clear HKa'
          have HKn' := Lib.hid (HKn.out.fr hF)
          clear HKn
          have HKn := Lib.hid HKn'.out
          clear HKn'
          have HKp' := Lib.hid (HKp.out.fr hF)
          clear HKp
          have HKp := Lib.hid HKp'.out
          clear HKp'
          have HKq' := Lib.hid (HKq.out.fr hF)
          clear HKq
          have HKq := Lib.hid HKq'.out
          clear HKq'
          have HT := Lib.hid hr
          have H10 := Lib.hid hs
          have HG10 := Lib.hid HG9.out
          clear hs hr hF g_x g_y g_u g_m g_dd HG9 H9 HB9
          go_wp2_with fail
          obtain ⟨g_x, g_y, g_u, g_m, g_dd⟩ := HG10.out
          refine (syms_is _ _ _ _ U OR _ HT.out HKo.out.1).mono ?_
          rintro e w11 ⟨rfl, hB⟩
          have heq : U = OR := by
            refine sym_ext (H10.out.srt _ _ g_u) (by rw [LOR.out]; exact Srt.puts tc_sym _ (Srt.puts tc_sym _ Srt.nil)) (fun y => ?_)
            rw [LU.out, LOR.out]; simp only [mem_puts_iff, List.not_mem_nil, false_or]
          rw [decide_eq_true heq]
          have H11 := Lib.hid (H10.out.below hB)
          have HB11 := Lib.hid (HB10.out.trans (hB.mono HB10.out.size))
          have HG11 := Lib.hid HG10.out
          have HKo' := Lib.hid (HKo.out.new_ hB)
          clear HKo
          have HKo := Lib.hid HKo'.out
          clear HKo'
          have HKa' := Lib.hid (HKa.out.new_ hB)
          clear HKa
          have HKa := Lib.hid HKa'.out
          clear HKa'
          have HKn' := Lib.hid (HKn.out.new_ hB)
          clear HKn
          have HKn := Lib.hid HKn'.out
          clear HKn'
          have HKp' := Lib.hid (HKp.out.new_ hB)
          clear HKp
          have HKp := Lib.hid HKp'.out
          clear HKp'
          have HKq' := Lib.hid (HKq.out.new_ hB)
          clear HKq
          have HKq := Lib.hid HKq'.out
          clear HKq'
          clear heq HT
          clear hB g_x g_y g_u g_m g_dd HG10 H10 HB10
          go_wp2_with fail
          obtain ⟨g_x, g_y, g_u, g_m, g_dd⟩ := HG11.out
          refine (lawlist H11.out g_m (by omega)).mono ?_
          intro e w12 hm
          obtain ⟨Ar2, cr2, rfl, hr, _, ⟨σ12, hs⟩, hF⟩ := listed_open hm
          clear hm
          have HB12 := Lib.hid (HB11.out.trans (hF.below HB11.out.size (fun j hj hd => hd (HDw.out j hj))))
          have HKo' := Lib.hid (HKo.out.fr hF)
          clear HKo
          have HKo := Lib.hid HKo'.out
          clear HKo'
          have HKa' := Lib.hid (HKa.out.fr hF)
          clear HKa
          have HKa := Lib.hid HKa'.out
          clear HKa'
          have HKn' := Lib.hid (HKn.out.fr hF)
          clear HKn
          have HKn := Lib.hid HKn'.out
          clear HKn'
          have HKp' := Lib.hid (HKp.out.fr hF)
          clear HKp
          have HKp := Lib.hid HKp'.out
          clear HKp'
          have HKq' := Lib.hid (HKq.out.fr hF)
          clear HKq
          have HKq := Lib.hid HKq'.out
          clear HKq'
          have HT := Lib.hid hr
          have H12 := Lib.hid hs
          have HG12 := Lib.hid HG11.out
          clear hs hr hF g_x g_y g_u g_m g_dd HG11 H11 HB11
          go_wp2_with fail
          obtain ⟨g_x, g_y, g_u, g_m, g_dd⟩ := HG12.out
          refine (syms_is _ _ _ _ M AND _ HT.out HKa.out.1).mono ?_
          rintro e w13 ⟨rfl, hB⟩
          have heq : M = AND := by
            refine sym_ext (H12.out.srt _ _ g_m) (by rw [LAND.out]; exact Srt.puts tc_sym _ Srt.nil) (fun y => ?_)
            rw [LM.out, LAND.out]; simp only [mem_puts_iff, List.not_mem_nil, false_or]
          rw [decide_eq_true heq]
          have H13 := Lib.hid (H12.out.below hB)
          have HB13 := Lib.hid (HB12.out.trans (hB.mono HB12.out.size))
          have HG13 := Lib.hid HG12.out
          have HKo' := Lib.hid (HKo.out.new_ hB)
          clear HKo
          have HKo := Lib.hid HKo'.out
          clear HKo'
          have HKa' := Lib.hid (HKa.out.new_ hB)
          clear HKa
          have HKa := Lib.hid HKa'.out
          clear HKa'
          have HKn' := Lib.hid (HKn.out.new_ hB)
          clear HKn
          have HKn := Lib.hid HKn'.out
          clear HKn'
          have HKp' := Lib.hid (HKp.out.new_ hB)
          clear HKp
          have HKp := Lib.hid HKp'.out
          clear HKp'
          have HKq' := Lib.hid (HKq.out.new_ hB)
          clear HKq
          have HKq := Lib.hid HKq'.out
          clear HKq'
          clear heq HT
          clear hB g_x g_y g_u g_m g_dd HG12 H12 HB12
          go_wp2_with fail
          obtain ⟨g_x, g_y, g_u, g_m, g_dd⟩ := HG13.out
          refine (lawlist H13.out g_dd (by omega)).mono ?_
          intro e w14 hm
          obtain ⟨Ar3, cr3, rfl, hr, _, ⟨σ14, hs⟩, hF⟩ := listed_open hm
          clear hm
          have HB14 := Lib.hid (HB13.out.trans (hF.below HB13.out.size (fun j hj hd => hd (HDw.out j hj))))
          have HKo' := Lib.hid (HKo.out.fr hF)
          clear HKo
          have HKo := Lib.hid HKo'.out
          clear HKo'
          have HKa' := Lib.hid (HKa.out.fr hF)
          clear HKa
          have HKa := Lib.hid HKa'.out
          clear HKa'
          have HKn' := Lib.hid (HKn.out.fr hF)
          clear HKn
          have HKn := Lib.hid HKn'.out
          clear HKn'
          have HKp' := Lib.hid (HKp.out.fr hF)
          clear HKp
          have HKp := Lib.hid HKp'.out
          clear HKp'
          have HKq' := Lib.hid (HKq.out.fr hF)
          clear HKq
          have HKq := Lib.hid HKq'.out
          clear HKq'
          have HT := Lib.hid hr
          have H14 := Lib.hid hs
          have HG14 := Lib.hid HG13.out
          clear hs hr hF g_x g_y g_u g_m g_dd HG13 H13 HB13
          go_wp2_with fail
          obtain ⟨g_x, g_y, g_u, g_m, g_dd⟩ := HG14.out
          refine (syms_is _ _ _ _ N NOT _ HT.out HKn.out.1).mono ?_
          rintro e w15 ⟨rfl, hB⟩
          have heq : N = NOT := by
            refine sym_ext (H14.out.srt _ _ g_dd) (by rw [LNOT.out]; exact Srt.puts tc_sym _ Srt.nil) (fun y => ?_)
            rw [LN.out, LNOT.out]; simp only [mem_puts_iff, List.not_mem_nil, false_or]
          rw [decide_eq_true heq]
          have H15 := Lib.hid (H14.out.below hB)
          have HB15 := Lib.hid (HB14.out.trans (hB.mono HB14.out.size))
          have HG15 := Lib.hid HG14.out
          have HKo' := Lib.hid (HKo.out.new_ hB)
          clear HKo
          have HKo := Lib.hid HKo'.out
          clear HKo'
          have HKa' := Lib.hid (HKa.out.new_ hB)
          clear HKa
          have HKa := Lib.hid HKa'.out
          clear HKa'
          have HKn' := Lib.hid (HKn.out.new_ hB)
          clear HKn
          have HKn := Lib.hid HKn'.out
          clear HKn'
          have HKp' := Lib.hid (HKp.out.new_ hB)
          clear HKp
          have HKp := Lib.hid HKp'.out
          clear HKp'
          have HKq' := Lib.hid (HKq.out.new_ hB)
          clear HKq
          have HKq := Lib.hid HKq'.out
          clear HKq'
          clear heq HT
          clear hB g_x g_y g_u g_m g_dd HG14 H14 HB14
          go_wp2_with fail
          obtain ⟨g_x, g_y, g_u, g_m, g_dd⟩ := HG15.out
          refine (sPut_Sym ⟨9, ⟨#[]⟩, 0⟩ H15.out g_u (by omega)).mono ?_
          rintro e w16 ⟨rfl, σ16, hs, _, hF, _⟩
          have HB16 := Lib.hid (HB15.out.trans (hF.below HB15.out.size (fun j hj hd => hd (HDw.out j hj))))
          have HKo' := Lib.hid (HKo.out.fr hF)
          clear HKo
          have HKo := Lib.hid HKo'.out
          clear HKo'
          have HKa' := Lib.hid (HKa.out.fr hF)
          clear HKa
          have HKa := Lib.hid HKa'.out
          clear HKa'
          have HKn' := Lib.hid (HKn.out.fr hF)
          clear HKn
          have HKn := Lib.hid HKn'.out
          clear HKn'
          have HKp' := Lib.hid (HKp.out.fr hF)
          clear HKp
          have HKp := Lib.hid HKp'.out
          clear HKp'
          have HKq' := Lib.hid (HKq.out.fr hF)
          clear HKq
          have HKq := Lib.hid HKq'.out
          clear HKq'
          have HG16 := Lib.hid (⟨by rw [upd_ne _ _ N_x_u]; exact g_x, by rw [upd_ne _ _ N_y_u]; exact g_y, by rw [upd_ne _ _ (Ne.symm N_u_m)]; exact g_m, by rw [upd_ne _ _ (Ne.symm N_u_dd)]; exact g_dd⟩ : (upd S7 u (some (put cmpSym U ⟨9, ⟨#[]⟩, 0⟩))) x = some X ∧ (upd S7 u (some (put cmpSym U ⟨9, ⟨#[]⟩, 0⟩))) y = some Y ∧ (upd S7 u (some (put cmpSym U ⟨9, ⟨#[]⟩, 0⟩))) m = some M ∧ (upd S7 u (some (put cmpSym U ⟨9, ⟨#[]⟩, 0⟩))) dd = some N)
          obtain ⟨S16, hSS⟩ : ∃ S', S' = upd S7 u (some (put cmpSym U ⟨9, ⟨#[]⟩, 0⟩)) := ⟨_, rfl⟩
          rw [← hSS] at hs
          have HG16' := HG16.out
          rw [← hSS] at HG16'
          clear HG16
          have HG16 := Lib.hid HG16'
          have H16 := Lib.hid hs
          clear hs hF hSS HG16' g_x g_y g_u g_m g_dd HG15 H15 HB15
          go_wp2_with fail
          obtain ⟨g_x, g_y, g_m, g_dd⟩ := HG16.out
          refine (sPut_Sym ⟨9, ⟨#[]⟩, 0⟩ H16.out g_m (by omega)).mono ?_
          rintro e w17 ⟨rfl, σ17, hs, _, hF, _⟩
          have HB17 := Lib.hid (HB16.out.trans (hF.below HB16.out.size (fun j hj hd => hd (HDw.out j hj))))
          have HKo' := Lib.hid (HKo.out.fr hF)
          clear HKo
          have HKo := Lib.hid HKo'.out
          clear HKo'
          have HKa' := Lib.hid (HKa.out.fr hF)
          clear HKa
          have HKa := Lib.hid HKa'.out
          clear HKa'
          have HKn' := Lib.hid (HKn.out.fr hF)
          clear HKn
          have HKn := Lib.hid HKn'.out
          clear HKn'
          have HKp' := Lib.hid (HKp.out.fr hF)
          clear HKp
          have HKp := Lib.hid HKp'.out
          clear HKp'
          have HKq' := Lib.hid (HKq.out.fr hF)
          clear HKq
          have HKq := Lib.hid HKq'.out
          clear HKq'
          have HG17 := Lib.hid (⟨by rw [upd_ne _ _ N_x_m]; exact g_x, by rw [upd_ne _ _ N_y_m]; exact g_y, by rw [upd_ne _ _ (Ne.symm N_m_dd)]; exact g_dd⟩ : (upd S16 m (some (put cmpSym M ⟨9, ⟨#[]⟩, 0⟩))) x = some X ∧ (upd S16 m (some (put cmpSym M ⟨9, ⟨#[]⟩, 0⟩))) y = some Y ∧ (upd S16 m (some (put cmpSym M ⟨9, ⟨#[]⟩, 0⟩))) dd = some N)
          obtain ⟨S17, hSS⟩ : ∃ S', S' = upd S16 m (some (put cmpSym M ⟨9, ⟨#[]⟩, 0⟩)) := ⟨_, rfl⟩
          rw [← hSS] at hs
          have HG17' := HG17.out
          rw [← hSS] at HG17'
          clear HG17
          have HG17 := Lib.hid HG17'
          have H17 := Lib.hid hs
          clear hs hF hSS HG17' g_x g_y g_m g_dd HG16 H16 HB16
          go_wp2_with fail
          obtain ⟨g_x, g_y, g_dd⟩ := HG17.out
          refine (sPut_Sym ⟨9, ⟨#[]⟩, 0⟩ H17.out g_dd (by omega)).mono ?_
          rintro e w18 ⟨rfl, σ18, hs, _, hF, _⟩
          have HB18 := Lib.hid (HB17.out.trans (hF.below HB17.out.size (fun j hj hd => hd (HDw.out j hj))))
          have HKo' := Lib.hid (HKo.out.fr hF)
          clear HKo
          have HKo := Lib.hid HKo'.out
          clear HKo'
          have HKa' := Lib.hid (HKa.out.fr hF)
          clear HKa
          have HKa := Lib.hid HKa'.out
          clear HKa'
          have HKn' := Lib.hid (HKn.out.fr hF)
          clear HKn
          have HKn := Lib.hid HKn'.out
          clear HKn'
          have HKp' := Lib.hid (HKp.out.fr hF)
          clear HKp
          have HKp := Lib.hid HKp'.out
          clear HKp'
          have HKq' := Lib.hid (HKq.out.fr hF)
          clear HKq
          have HKq := Lib.hid HKq'.out
          clear HKq'
          have HG18 := Lib.hid (⟨by rw [upd_ne _ _ N_x_dd]; exact g_x, by rw [upd_ne _ _ N_y_dd]; exact g_y⟩ : (upd S17 dd (some (put cmpSym N ⟨9, ⟨#[]⟩, 0⟩))) x = some X ∧ (upd S17 dd (some (put cmpSym N ⟨9, ⟨#[]⟩, 0⟩))) y = some Y)
          obtain ⟨S18, hSS⟩ : ∃ S', S' = upd S17 dd (some (put cmpSym N ⟨9, ⟨#[]⟩, 0⟩)) := ⟨_, rfl⟩
          rw [← hSS] at hs
          have HG18' := HG18.out
          rw [← hSS] at HG18'
          clear HG18
          have HG18 := Lib.hid HG18'
          have H18 := Lib.hid hs
          clear hs hF hSS HG18' g_x g_y g_dd HG17 H17 HB17
          go_wp2_with fail
          obtain ⟨g_x, g_y⟩ := HG18.out
          refine (lawlist H18.out g_x (by omega)).mono ?_
          intro e w19 hm
          obtain ⟨Ar4, cr4, rfl, hr, _, ⟨σ19, hs⟩, hF⟩ := listed_open hm
          clear hm
          have HB19 := Lib.hid (HB18.out.trans (hF.below HB18.out.size (fun j hj hd => hd (HDw.out j hj))))
          have HKo' := Lib.hid (HKo.out.fr hF)
          clear HKo
          have HKo := Lib.hid HKo'.out
          clear HKo'
          have HKa' := Lib.hid (HKa.out.fr hF)
          clear HKa
          have HKa := Lib.hid HKa'.out
          clear HKa'
          have HKn' := Lib.hid (HKn.out.fr hF)
          clear HKn
          have HKn := Lib.hid HKn'.out
          clear HKn'
          have HKp' := Lib.hid (HKp.out.fr hF)
          clear HKp
          have HKp := Lib.hid HKp'.out
          clear HKp'
          have HKq' := Lib.hid (HKq.out.fr hF)
          clear HKq
          have HKq := Lib.hid HKq'.out
          clear HKq'
          have HT := Lib.hid hr
          have H19 := Lib.hid hs
          have HG19 := Lib.hid HG18.out
          clear hs hr hF g_x g_y HG18 H18 HB18
          go_wp2_with fail
          obtain ⟨g_x, g_y⟩ := HG19.out
          refine (syms_is _ _ _ _ X X _ HT.out HKp.out.1).mono ?_
          rintro e w20 ⟨rfl, hB⟩
          have heq : X = X := by
            rfl
          rw [decide_eq_true heq]
          have H20 := Lib.hid (H19.out.below hB)
          have HB20 := Lib.hid (HB19.out.trans (hB.mono HB19.out.size))
          have HG20 := Lib.hid HG19.out
          have HKo' := Lib.hid (HKo.out.new_ hB)
          clear HKo
          have HKo := Lib.hid HKo'.out
          clear HKo'
          have HKa' := Lib.hid (HKa.out.new_ hB)
          clear HKa
          have HKa := Lib.hid HKa'.out
          clear HKa'
          have HKn' := Lib.hid (HKn.out.new_ hB)
          clear HKn
          have HKn := Lib.hid HKn'.out
          clear HKn'
          have HKp' := Lib.hid (HKp.out.new_ hB)
          clear HKp
          have HKp := Lib.hid HKp'.out
          clear HKp'
          have HKq' := Lib.hid (HKq.out.new_ hB)
          clear HKq
          have HKq := Lib.hid HKq'.out
          clear HKq'
          clear heq HT
          clear hB g_x g_y HG19 H19 HB19
          go_wp2_with fail
          obtain ⟨g_x, g_y⟩ := HG20.out
          refine (lawlist H20.out g_y (by omega)).mono ?_
          intro e w21 hm
          obtain ⟨Ar5, cr5, rfl, hr, _, ⟨σ21, hs⟩, hF⟩ := listed_open hm
          clear hm
          have HB21 := Lib.hid (HB20.out.trans (hF.below HB20.out.size (fun j hj hd => hd (HDw.out j hj))))
          have HKo' := Lib.hid (HKo.out.fr hF)
          clear HKo
          have HKo := Lib.hid HKo'.out
          clear HKo'
          have HKa' := Lib.hid (HKa.out.fr hF)
          clear HKa
          have HKa := Lib.hid HKa'.out
          clear HKa'
          have HKn' := Lib.hid (HKn.out.fr hF)
          clear HKn
          have HKn := Lib.hid HKn'.out
          clear HKn'
          have HKp' := Lib.hid (HKp.out.fr hF)
          clear HKp
          have HKp := Lib.hid HKp'.out
          clear HKp'
          have HKq' := Lib.hid (HKq.out.fr hF)
          clear HKq
          have HKq := Lib.hid HKq'.out
          clear HKq'
          have HT := Lib.hid hr
          have H21 := Lib.hid hs
          have HG21 := Lib.hid HG20.out
          clear hs hr hF g_x g_y HG20 H20 HB20
          go_wp2_with fail
          obtain ⟨g_x, g_y⟩ := HG21.out
          refine (syms_is _ _ _ _ Y Y _ HT.out HKq.out.1).mono ?_
          rintro e w22 ⟨rfl, hB⟩
          have heq : Y = Y := by
            rfl
          rw [decide_eq_true heq]
          have H22 := Lib.hid (H21.out.below hB)
          have HB22 := Lib.hid (HB21.out.trans (hB.mono HB21.out.size))
          have HG22 := Lib.hid HG21.out
          have HKo' := Lib.hid (HKo.out.new_ hB)
          clear HKo
          have HKo := Lib.hid HKo'.out
          clear HKo'
          have HKa' := Lib.hid (HKa.out.new_ hB)
          clear HKa
          have HKa := Lib.hid HKa'.out
          clear HKa'
          have HKn' := Lib.hid (HKn.out.new_ hB)
          clear HKn
          have HKn := Lib.hid HKn'.out
          clear HKn'
          have HKp' := Lib.hid (HKp.out.new_ hB)
          clear HKp
          have HKp := Lib.hid HKp'.out
          clear HKp'
          have HKq' := Lib.hid (HKq.out.new_ hB)
          clear HKq
          have HKq := Lib.hid HKq'.out
          clear HKq'
          clear heq HT
          clear hB g_x g_y HG21 H21 HB21
          go_wp2_with fail
          obtain ⟨g_x, g_y⟩ := HG22.out
          refine (same_Sym _ _ _ _ _ _ _ _ X Y _ (H22.out.at_ _ _ g_x) (H22.out.at_ _ _ g_y) (by omega)).mono ?_
          rintro e w23 ⟨r, rfl, hr, hB⟩
          have H23 := Lib.hid (H22.out.below hB)
          have HB23 := Lib.hid (HB22.out.trans (hB.mono HB22.out.size))
          have HG23 := Lib.hid HG22.out
          have HKo' := Lib.hid (HKo.out.new_ hB)
          clear HKo
          have HKo := Lib.hid HKo'.out
          clear HKo'
          have HKa' := Lib.hid (HKa.out.new_ hB)
          clear HKa
          have HKa := Lib.hid HKa'.out
          clear HKa'
          have HKn' := Lib.hid (HKn.out.new_ hB)
          clear HKn
          have HKn := Lib.hid HKn'.out
          clear HKn'
          have HKp' := Lib.hid (HKp.out.new_ hB)
          clear HKp
          have HKp := Lib.hid HKp'.out
          clear HKp'
          have HKq' := Lib.hid (HKq.out.new_ hB)
          clear HKq
          have HKq := Lib.hid HKq'.out
          clear HKq'
          have hrr : r = decide (X = Y) := by
            rw [Bool.eq_iff_iff, hr, decide_eq_true_iff]
            exact ⟨fun h => List.ext_getElem h.1 (fun k h1 h2 => cmpSym_eq.1 (h.2 k h1 h2)), same_of⟩
          have HRR := Lib.hid hrr
          clear hrr hr
          clear hB g_x g_y HG22 H22 HB22
          go_wp2_with fail
          obtain ⟨g_x, g_y⟩ := HG23.out
          refine (syms_is _ _ _ _ X Y _ HKp.out.rd HKq.out.rd).mono ?_
          rintro e w24 ⟨rfl, hB⟩
          rw [← HRR.out]
          have H24 := Lib.hid (H23.out.below hB)
          have HB24 := Lib.hid (HB23.out.trans (hB.mono HB23.out.size))
          have HG24 := Lib.hid HG23.out
          have HKo' := Lib.hid (HKo.out.new_ hB)
          clear HKo
          have HKo := Lib.hid HKo'.out
          clear HKo'
          have HKa' := Lib.hid (HKa.out.new_ hB)
          clear HKa
          have HKa := Lib.hid HKa'.out
          clear HKa'
          have HKn' := Lib.hid (HKn.out.new_ hB)
          clear HKn
          have HKn := Lib.hid HKn'.out
          clear HKn'
          have HKp' := Lib.hid (HKp.out.new_ hB)
          clear HKp
          have HKp := Lib.hid HKp'.out
          clear HKp'
          have HKq' := Lib.hid (HKq.out.new_ hB)
          clear HKq
          have HKq := Lib.hid HKq'.out
          clear HKq'
          clear hB g_x g_y HG23 H23 HB23
          go_wp2_with fail
          refine (wakes_is _).mono ?_
          rintro e w25 ⟨rfl, hB⟩
          have HBZ := Lib.hid (HB24.out.trans (hB.mono HB24.out.size))
          clear hB
          go_wp2_with fail
          go_ret
          exact ⟨rfl, HBZ.out⟩
end Go.Proofs.Ythhhhjllpejpgaa
