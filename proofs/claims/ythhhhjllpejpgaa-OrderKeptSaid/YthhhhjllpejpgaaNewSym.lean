/-
  The walks of order.New and order.Same at ponder/api.Sym.
-/
import Derived.Test.YthhhhjllpejpgaaMiscSym
namespace Go.Proofs.Ythhhhjllpejpgaa
open Go.RowKit
/-- Behind New: a set in new memory. -/
def NewPostSym (w : World) (xs : List Sym) (e : Ending) (w' : World) : Prop :=
  ∃ k, e = .returned (.pointer (some ⟨k, 0, none⟩)) ∧ w.heap.size ≤ k ∧ ∃ sn A c, SymSet w' k sn A c (puts cmpSym [] xs) ∧ AIn A (w.heap.size ≤ ·) ∧ Below w.heap.size w w'
set_option maxRecDepth 100000 in
set_option maxHeartbeats 2000000 in
theorem new_Sym (A : Option Addr) (c : Nat) (xs : List Sym) (w : World) (hrd : RowRd w 3 Sym.cells A c xs) (hl : (xs.length : Int) ≤ 10000000) :
    Calls Try.prog 12 #[.slice A xs.length c] w (NewPostSym w xs) := by
  have HRD := Lib.hid hrd
  clear hrd
  go_enter Try.func12, Try.ntmps12
  go_wp2_with fail
  obtain ⟨W0, hW0⟩ : ∃ W0, W0 = w.alloc (.cells #[.slice none 0 0, .bool false] 86) := ⟨_, rfl⟩
  have hb0 : Below w.heap.size w W0 := by rw [hW0]; exact (Below.refl _ _).alloc (Nat.le_refl _) _
  have hS0 : SymSet W0 w.heap.size false none 0 [] := ⟨by rw [hW0]; exact Blk.new _ _ _, ⟨by simp, .inl ⟨rfl, rfl⟩⟩⟩
  rw [← hW0]
  clear hW0
  have HB0 := Lib.hid hb0
  have HS0 := Lib.hid hS0
  clear hb0 hS0
  go_loopw [10] (fun s wr => ∃ i : Nat, s = .int .i64 i ∧ i ≤ xs.length ∧ ∃ sn A' c', SymSet wr w.heap.size sn A' c' (puts cmpSym [] (xs.take i)) ∧ AIn A' (w.heap.size ≤ ·) ∧ Below w.heap.size w wr) (fun s wr => xs.length - (intOf s).toNat)
  case atStart => exact ⟨0, rfl, Nat.zero_le _, false, none, 0, HS0.out, AIn.none_ _, HB0.out⟩
  case round =>
    obtain ⟨i, rfl, hi, sn, A', c', hS, hA', hB⟩ := hrel
    have HS := Lib.hid hS
    have HA := Lib.hid hA'
    have HB := Lib.hid hB
    clear hS hA' hB
    by_cases hlt : i < xs.length
    · obtain ⟨x, hx⟩ : ∃ x, x = xs[i] := ⟨_, rfl⟩
      obtain ⟨g, off, rfl, hgs, hcell⟩ := (HRD.out.fr (Fr.of_new (M := fun _ => False) HB.out) (fun _ _ h => h)).at_ hlt
      rw [← hx] at hcell
      have q0 : wr.cell? ⟨g, off + i * 3, none⟩ = some (.int .i64 x.kind) := by simpa using hcell 0 _ rfl
      have q1 : wr.cell? ⟨g, off + i * 3 + 1, none⟩ = some (.string x.text) := by simpa using hcell 1 _ rfl
      have q2 : wr.cell? ⟨g, off + i * 3 + 2, none⟩ = some (.int .i64 x.n) := by simpa using hcell 2 _ rfl
      have b1 : (0 : Int) ≤ (i : Int) := by omega
      have b2 : (i : Int) < (xs.length : Int) := by omega
      have HX := Lib.hid hx
      clear hcell hx
      go_wp2_with fail
      have hsr := Srt.puts tc_sym (xs.take i) (Srt.nil (cmp := cmpSym))
      have hlen : (((puts cmpSym [] (xs.take i)).length : Nat) : Int) ≤ 100000000 := by
        have := length_puts_le tc_sym (xs.take i) (Srt.nil (cmp := cmpSym))
        simp at this
        omega
      refine (put_Sym w.heap.size c' sn A' _ x _ (HS.out.new_ ((Below.refl _ _).alloc (Nat.le_refl _) _)) hsr hlen).mono ?_
      rintro e w1 ⟨rfl, sn2, A2, c2, hS2, hF2, hM2⟩
      have hB1 : Below w.heap.size w w1 := (HB.out.alloc HB.out.size _).trans (hF2.below (by have := HB.out.size; (try simp); omega) (fun k hk hm => by
        rcases hm with hm | ⟨_, a, ha, hm⟩
        · omega
        · have := HA.out a ha; omega))
      have hA2 : AIn A2 (w.heap.size ≤ ·) := by
        rcases hM2 with ⟨_, rfl⟩ | ⟨_, g2, hg2, rfl⟩
        · exact HA.out
        · intro a ha; cases ha; have := HB.out.size; (try simp at hg2 ⊢); omega
      have HS2 := Lib.hid hS2
      have HB1 := Lib.hid hB1
      have HA2 := Lib.hid hA2
      clear hS2 hB1 hA2 hF2 hM2 hsr hlen q0 q1 q2
      go_wp2_with fail
      go_roundw
      case rel =>
        refine ⟨i + 1, by go_num, by omega, sn2, A2, c2, ?_, HA2.out, HB1.out⟩
        rw [List.take_add_one, List.getElem?_eq_getElem hlt, ← HX.out]
        simp only [Option.toList_some, puts_snoc]
        exact HS2.out
      case measure => simp [intOf] <;> omega
    · have hie : i = xs.length := by omega
      subst hie
      go_wp2_with fail
      go_ret
      refine ⟨w.heap.size, rfl, Nat.le_refl _, sn, A', c', ?_, HA.out, HB.out⟩
      have := HS.out
      rwa [List.take_length] at this

def SamePostSym (w : World) (l m : List Sym) (e : Ending) (w' : World) : Prop :=
  ∃ r : Bool, e = .returned (.bool r) ∧ (r = true ↔ l.length = m.length ∧ ∀ k, (h : k < l.length) → (h' : k < m.length) → cmpSym l[k] m[k] = 0) ∧ Below w.heap.size w w'
set_option maxRecDepth 100000 in
set_option maxHeartbeats 4000000 in
theorem same_Sym (a b c d : Nat) (sn sm : Bool) (A B : Option Addr) (l m : List Sym) (w : World) (hS : SymSet w a sn A c l) (hT : SymSet w b sm B d m) (hl : (l.length : Int) ≤ 100000000) :
    Calls Try.prog 39 #[.pointer (some ⟨a, 0, none⟩), .pointer (some ⟨b, 0, none⟩)] w (SamePostSym w l m) := by
  have HS := Lib.hid hS
  have HT := Lib.hid hT
  clear hS hT
  go_enter Try.func39, Try.ntmps39
  go_wp2_with fail
  refine (len_Sym a c sn A l _ HS.out).mono ?_
  rintro e w1 ⟨rfl, rfl⟩
  go_wp2_with fail
  refine (len_Sym b d sm B m _ HT.out).mono ?_
  rintro e w1 ⟨rfl, rfl⟩
  by_cases hlm : l.length = m.length
  · have t1 : ((l.length : Int) != (m.length : Int)) = false := by simp; omega
    have HLM := Lib.hid hlm
    clear hlm
    go_wp2_with fail
    go_loopw [5] (fun s wr => ∃ i : Nat, s = .int .i64 i ∧ i ≤ l.length ∧ (∀ k, (h : k < l.length) → (h' : k < m.length) → k < i → cmpSym l[k] m[k] = 0) ∧ Below w.heap.size w wr) (fun s wr => l.length - (intOf s).toNat)
    case atStart => exact ⟨0, rfl, Nat.zero_le _, fun k _ _ h => absurd h (by omega), Below.refl _ _⟩
    case round =>
      obtain ⟨i, rfl, hi, hall, hB⟩ := hrel
      have HALL := Lib.hid hall
      have HB := Lib.hid hB
      clear hall hB
      go_wp2_with fail
      refine (len_Sym a c sn A l _ (HS.out.new_ HB.out)).mono ?_
      rintro e w1 ⟨rfl, rfl⟩
      by_cases hlt : i < l.length
      · have hlt2 : i < m.length := by have := HLM.out; omega
        obtain ⟨x, hx⟩ : ∃ x, x = l[i] := ⟨_, rfl⟩
        obtain ⟨y, hy⟩ : ∃ y, y = m[i] := ⟨_, rfl⟩
        have hSr := HS.out.new_ HB.out
        have hTr := HT.out.new_ HB.out
        have r0 := hSr.cell0
        have r1 := hTr.cell0
        have ba := hSr.lt
        have bb := hTr.lt
        obtain ⟨g, off, rfl, hgs, hcell⟩ := (hSr.rd Sym.cells_length).at_ hlt
        obtain ⟨g2, off2, rfl, hgs2, hcell2⟩ := (hTr.rd Sym.cells_length).at_ hlt2
        rw [← hx] at hcell
        rw [← hy] at hcell2
        have q0 : wr.cell? ⟨g, off + i * 3, none⟩ = some (.int .i64 x.kind) := by simpa using hcell 0 _ rfl
        have q1 : wr.cell? ⟨g, off + i * 3 + 1, none⟩ = some (.string x.text) := by simpa using hcell 1 _ rfl
        have q2 : wr.cell? ⟨g, off + i * 3 + 2, none⟩ = some (.int .i64 x.n) := by simpa using hcell 2 _ rfl
        have p0 : wr.cell? ⟨g2, off2 + i * 3, none⟩ = some (.int .i64 y.kind) := by simpa using hcell2 0 _ rfl
        have p1 : wr.cell? ⟨g2, off2 + i * 3 + 1, none⟩ = some (.string y.text) := by simpa using hcell2 1 _ rfl
        have p2 : wr.cell? ⟨g2, off2 + i * 3 + 2, none⟩ = some (.int .i64 y.n) := by simpa using hcell2 2 _ rfl
        have b1 : (0 : Int) ≤ (i : Int) := by omega
        have b2 : (i : Int) < (l.length : Int) := by omega
        have b3 : (i : Int) < (m.length : Int) := by omega
        have N := nilAhead_Sym
        have M := method_Sym
        have HX := Lib.hid hx
        have HY := Lib.hid hy
        clear hcell hcell2 hSr hTr hx hy
        go_wp2_with fail
        go_region_held3 (fun w' => w'.cell? ⟨a, 0, none⟩ = some (.slice (some ⟨g, off, none⟩) l.length c) ∧ w'.cell? ⟨b, 0, none⟩ = some (.slice (some ⟨g2, off2, none⟩) m.length d) ∧ w'.cell? ⟨g, off + i * 3, none⟩ = some (.int .i64 x.kind) ∧ w'.cell? ⟨g, off + i * 3 + 1, none⟩ = some (.string x.text) ∧ w'.cell? ⟨g, off + i * 3 + 2, none⟩ = some (.int .i64 x.n) ∧ w'.cell? ⟨g2, off2 + i * 3, none⟩ = some (.int .i64 y.kind) ∧ w'.cell? ⟨g2, off2 + i * 3 + 1, none⟩ = some (.string y.text) ∧ w'.cell? ⟨g2, off2 + i * 3 + 2, none⟩ = some (.int .i64 y.n))
          (first | go_keep | (refine ⟨?_, ?_, ?_, ?_, ?_, ?_, ?_, ?_⟩ <;> exact (hb1.cell (by simpa using by assumption)).trans (by simp [*])))
          ((go_at_call 89; refine (cmp_sym x y _).mono ?_; rintro e w1 ⟨rfl, hb1⟩))
        have HB1 : Below w.heap.size w w1 := HB.out.drew.trans (hb1.mono HB.out.size)
        clear r0 r1 N M q0 q1 q2 p0 p1 p2
        by_cases hc : cmpSym x y = 0
        · have t2 : (cmpSym x y != 0) = false := by simp [hc]
          have HC := Lib.hid hc
          clear hc
          go_wp2_with fail
          go_roundw
          case rel =>
            refine ⟨i + 1, by go_num, by omega, fun k h h' hk => ?_, HB1⟩
            rcases Nat.lt_or_ge k i with h3 | h3
            · exact HALL.out k h h' h3
            · obtain rfl : k = i := by omega
              rw [← HX.out, ← HY.out]
              exact HC.out
          case measure => simp [intOf] <;> omega
        · have t2 : (cmpSym x y != 0) = true := by simp [hc]
          have HC := Lib.hid hc
          clear hc
          go_wp2_with fail
          go_ret
          refine ⟨false, rfl, ⟨fun h => (Bool.noConfusion h), fun h => ?_⟩, HB1⟩
          refine absurd ?_ HC.out
          rw [HX.out, HY.out]
          exact h.2 i hlt hlt2
      · have hie : i = l.length := by omega
        subst hie
        go_wp2_with fail
        go_ret
        exact ⟨true, rfl, ⟨fun _ => ⟨HLM.out, fun k h h' => HALL.out k h h' h⟩, fun _ => rfl⟩, HB.out⟩
  · have t1 : ((l.length : Int) != (m.length : Int)) = true := by simp; omega
    have HLM := Lib.hid hlm
    clear hlm
    go_wp2_with fail
    go_ret
    exact ⟨false, rfl, ⟨fun h => (Bool.noConfusion h), fun h => absurd h.1 HLM.out⟩, Below.refl _ _⟩
end Go.Proofs.Ythhhhjllpejpgaa
