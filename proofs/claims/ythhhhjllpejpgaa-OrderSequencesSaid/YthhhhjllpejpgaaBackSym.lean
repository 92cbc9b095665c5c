/-
  The sequences From and Back of an ordered set at ponder/api.Sym: their makers, and what they yield.
-/
import Derived.Test.YthhhhjllpejpgaaListSym
namespace Go.Proofs.Ythhhhjllpejpgaa
open Go.RowKit Go.Shelf
attribute [local go_sem] Oper.semAt_some

set_option maxRecDepth 100000 in
set_option maxHeartbeats 2000000 in
theorem fromit_Sym (kb kx b c : Nat) (sn : Bool) (A : Option Addr) (l : List Sym) (x : Sym) (W : World) (hbox : W.cell? ⟨kb, 0, none⟩ = some (.pointer (some ⟨b, 0, none⟩)))
    (hx : Blk W kx 27 #[Value.int IntKind.i64 x.kind, Value.string x.text, Value.int IntKind.i64 x.n]) (hS : SymSet W b sn A c l) (hs : Srt cmpSym l) (hl : (l.length : Int) ≤ 100000000) :
    Iter Try.prog 63 #[.pointer (some ⟨kb, 0, none⟩), .pointer (some ⟨kx, 0, none⟩)] encSym (l.drop (rank cmpSym l x)) W (SeenStart b) (RowKeep A) := by
  intro lo J Jx _ _ h0 hY
  have H0 := Lib.hid h0
  have HY := Lib.hid hY
  have HS := Lib.hid hS
  have HO := Lib.hid hs
  have x0 : W.cell? ⟨kx, 0, none⟩ = some (.int .i64 x.kind) := (hx.cell 0).trans rfl
  have x1 : W.cell? ⟨kx, 1, none⟩ = some (.string x.text) := (hx.cell 1).trans rfl
  have x2 : W.cell? ⟨kx, 2, none⟩ = some (.int .i64 x.n) := (hx.cell 2).trans rfl
  clear h0 hY hS hs hx
  refine callsIn_of_wp Try.func63 rfl trivial ?_
  simp only [Try.ntmps63, List.size_toArray, List.length_cons, List.length_nil, Nat.reduceAdd, Nat.reduceSub, Array.replicate_succ, Array.replicate_zero, List.push_toArray, List.append_toArray, List.nil_append, List.cons_append]
  gi_wp2_with fail
  refine ⟨trivial, rfl, ?_⟩
  refine (callsIn_wide.2 (find_Sym b c sn A l x W HS.out HO.out (by omega))).mono ?_
  rintro e w1 ⟨rfl, hB⟩
  have hbox1 := (hB.cell (World.block_lt_of_cell? _ _ hbox)).trans hbox
  have HB := Lib.hid hB
  clear hB hbox x0 x1 x2
  gi_wp2_with fail
  refine ⟨trivial, rfl, ?_⟩
  refine (from_Sym lo b c (rank cmpSym l x) sn A l w1 (HS.out.new_ HB.out) (rank_le _ _) J Jx (H0.out _ ⟨w1, HB.out, rfl⟩) HY.out).mono ?_
  rintro e W3 ⟨⟨v, rfl⟩, h⟩
  have H := Lib.hid h
  clear h
  gi_wp2
  go_end0
  exact ⟨⟨_, rfl⟩, H.out⟩
set_option maxHeartbeats 400000 in
theorem mkfrom_Sym (b : Nat) (x : Sym) (w : World) :
    Calls Try.prog 32 #[.pointer (some ⟨b, 0, none⟩), .agg #[.int .i64 x.kind, .string x.text, .int .i64 x.n]] w fun e w' => e = .returned (.func (.func 63) #[] #[.pointer (some ⟨w.heap.size, 0, none⟩), .pointer (some ⟨w.heap.size + 1, 0, none⟩)]) ∧ Below w.heap.size w w' ∧
      w'.cell? ⟨w.heap.size, 0, none⟩ = some (.pointer (some ⟨b, 0, none⟩)) ∧ Blk w' (w.heap.size + 1) 27 #[Value.int IntKind.i64 x.kind, Value.string x.text, Value.int IntKind.i64 x.n] := by
  go_enter Try.func32, Try.ntmps32
  go_wp2
  go_ret
  refine ⟨rfl, ((Below.refl _ _).alloc (Nat.le_refl _) _).alloc (by simp) _, by go_simp, ?_⟩
  have := Blk.new (w.alloc (.cells #[.pointer (some ⟨b, 0, none⟩)] 24)) 27 #[Value.int IntKind.i64 x.kind, Value.string x.text, Value.int IntKind.i64 x.n]
  simpa using this
theorem seq_from_Sym (kb kx b c : Nat) (sn : Bool) (A : Option Addr) (l : List Sym) (x : Sym) (w : World) (hbox : w.cell? ⟨kb, 0, none⟩ = some (.pointer (some ⟨b, 0, none⟩))) (hx : Blk w kx 27 #[Value.int IntKind.i64 x.kind, Value.string x.text, Value.int IntKind.i64 x.n]) (hS : SymSet w b sn A c l) (hs : Srt cmpSym l) (hl : (l.length : Int) ≤ 100000000) :
    Seq 63 #[.pointer (some ⟨kb, 0, none⟩), .pointer (some ⟨kx, 0, none⟩)] encSym (l.drop (rank cmpSym l x)) w (SeenStart b) (RowKeep A) :=
  ⟨by intro args w; kernel_rfl, fun W hW => fromit_Sym kb kx b c sn A l x W ((hW.cell (World.block_lt_of_cell? _ _ hbox)).trans hbox) (hx.new_ hW) (hS.new_ hW) hs hl, fun _ _ _ => RowKeep.trans, fun _ _ => RowKeep.of_priv hS.row_lt, fun _ _ => RowKeep.of_below hS.row_lt, fun _ _ h => h.fr.mono (fun k _ hk => by subst hk; exact hS.lt)⟩

set_option maxRecDepth 100000 in
set_option maxHeartbeats 2000000 in
theorem back_Sym (kb b c : Nat) (sn : Bool) (A : Option Addr) (l : List Sym) (W : World) (hbox : W.cell? ⟨kb, 0, none⟩ = some (.pointer (some ⟨b, 0, none⟩))) (hS : SymSet W b sn A c l) :
    Iter Try.prog 62 #[.pointer (some ⟨kb, 0, none⟩)] encSym l.reverse W (SeenStart b) (RowKeep A) := by
  intro lo J Jx _ _ h0' hY
  have h0 := h0' (W.setCell ⟨b, 1, none⟩ (.bool true)) ⟨W, Below.refl _ _, rfl⟩
  have s0 := hS.cell0
  have s1 := hS.cell1
  have f1 := hS.blk.frozen 1
  have hkb : kb ≠ b ∨ kb = b := by omega
  have hne := own_blk_ne hS.row hS.blk (by decide)
  have hrd : RowRd (W.setCell ⟨b, 1, none⟩ (.bool true)) 3 Sym.cells A c l := ownsRow_rd Sym.cells_length (ownsRow_setCell_other hS.row hne _)
  have hlm : (l.length : Int) ≤ 9223372036854775807 := by have := hrd.cap; omega
  have HRD := Lib.hid hrd
  have H0 := Lib.hid h0
  have HY := Lib.hid hY
  clear hS hrd h0 h0' hY hne hkb
  refine callsIn_of_wp Try.func62 rfl trivial ?_
  simp only [Try.ntmps62, List.size_toArray, List.length_cons, List.length_nil, Nat.reduceAdd, Nat.reduceSub, Array.replicate_succ, Array.replicate_zero, List.push_toArray, List.append_toArray, List.nil_append, List.cons_append]
  gi_wp2
  gi_loopw [4] (fun s wr => ∃ pre post, s = .int .i64 ((l.length : Int) - (pre.length : Int) - 1) ∧ l.reverse = pre ++ post ∧ J pre wr ∧ RowRd wr 3 Sym.cells A c l) (fun s wr => (intOf s + 1).toNat)
  case atStart => exact ⟨[], l.reverse, by simp, by simp, H0.out, HRD.out⟩
  case round =>
    obtain ⟨pre, post, rfl, hx, hJ, hrd⟩ := hrel
    have hlen : pre.length + post.length = l.length := by have := congrArg List.length hx; simp at this; omega
    have HX := Lib.hid hx
    have HJ := Lib.hid hJ
    have HR := Lib.hid hrd
    clear hx hJ hrd
    cases post with
    | nil =>
      have e1 : (l.length : Int) - (pre.length : Int) - 1 = -1 := by simp at hlen; omega
      rw [e1]
      clear hlen e1
      gi_wp2
      go_end0
      exact ⟨⟨_, rfl⟩, .inl (by have := HX.out; rw [List.append_nil] at this; rw [this]; exact HJ.out)⟩
    | cons x post =>
      simp only [List.length_cons] at hlen
      obtain ⟨m, hm⟩ : ∃ m, m = l.length - 1 - pre.length := ⟨_, rfl⟩
      have hml : m < l.length := by omega
      have hget : l[m] = x := by
        have h1 : l.reverse[pre.length]? = some x := by rw [HX.out]; simp
        rw [List.getElem?_reverse (by omega), ← hm, List.getElem?_eq_getElem hml] at h1
        exact Option.some.inj h1
      have e1 : (l.length : Int) - (pre.length : Int) - 1 = (m : Int) := by omega
      rw [e1]
      obtain ⟨g, off, rfl, hgs, hcell⟩ := HR.out.at_ hml
      rw [hget] at hcell
      have q0 : wr.cell? ⟨g, off + m * 3, none⟩ = some (.int .i64 x.kind) := by simpa using hcell 0 _ rfl
      have q1 : wr.cell? ⟨g, off + m * 3 + 1, none⟩ = some (.string x.text) := by simpa using hcell 1 _ rfl
      have q2 : wr.cell? ⟨g, off + m * 3 + 2, none⟩ = some (.int .i64 x.n) := by simpa using hcell 2 _ rfl
      have b1 : (0 : Int) ≤ (m : Int) := by omega
      have b2 : (m : Int) < (l.length : Int) := by omega
      have E1 := Lib.hid e1
      have hml2 : m + pre.length + 1 = l.length := by omega
      have HM2 := Lib.hid hml2
      clear hcell hget hlen hm e1 hml2
      obtain ⟨fn, tmps, assign, body, hy, hR⟩ := HY.out pre x post wr HX.out HJ.out
      dsimp only [encSym] at hy
      have HRR := Lib.hid hR
      clear hR
      gi_wp2_with fail
      refine ⟨rfl, HRR.out.mono ?_⟩
      rintro e W3 (⟨rfl, hJ3, hk3⟩ | ⟨rfl, hJx3⟩)
      · have HJ3 := Lib.hid hJ3
        have HK3 := Lib.hid hk3
        clear hJ3 hk3 hy q0 q1 q2
        gi_wp2
        go_roundw
        case rel => exact ⟨pre ++ [x], post, by rw [List.length_append, List.length_singleton]; congr 1; have := HM2.out; omega, by rw [HX.out]; simp, HJ3.out, HK3.out.rd HR.out⟩
        case measure => simp [intOf] <;> omega
      · have HJ3 := Lib.hid hJx3
        clear hJx3 hy q0 q1 q2
        gi_wp2
        refine bodyPost_ret (results_none rfl _ _ _) rfl ?_
        exact ⟨⟨_, rfl⟩, .inr ⟨pre ++ [x], post, by rw [HX.out]; simp, HJ3.out⟩⟩
set_option maxHeartbeats 400000 in
theorem mkback_Sym (b : Nat) (w : World) :
    Calls Try.prog 29 #[.pointer (some ⟨b, 0, none⟩)] w fun e w' => e = .returned (.func (.func 62) #[] #[.pointer (some ⟨w.heap.size, 0, none⟩)]) ∧ Below w.heap.size w w' ∧ w'.cell? ⟨w.heap.size, 0, none⟩ = some (.pointer (some ⟨b, 0, none⟩)) := by
  go_enter Try.func29, Try.ntmps29
  go_wp2
  go_ret
  exact ⟨rfl, (Below.refl _ _).alloc (Nat.le_refl _) _, by go_simp⟩
theorem seq_back_Sym (kb b c : Nat) (sn : Bool) (A : Option Addr) (l : List Sym) (w : World) (hbox : w.cell? ⟨kb, 0, none⟩ = some (.pointer (some ⟨b, 0, none⟩))) (hS : SymSet w b sn A c l) :
    Seq 62 #[.pointer (some ⟨kb, 0, none⟩)] encSym l.reverse w (SeenStart b) (RowKeep A) :=
  ⟨by intro args w; kernel_rfl, fun W hW => back_Sym kb b c sn A l W ((hW.cell (World.block_lt_of_cell? _ _ hbox)).trans hbox) (hS.new_ hW), fun _ _ _ => RowKeep.trans, fun _ _ => RowKeep.of_priv hS.row_lt, fun _ _ => RowKeep.of_below hS.row_lt, fun _ _ h => h.fr.mono (fun k _ hk => by subst hk; exact hS.lt)⟩
end Go.Proofs.Ythhhhjllpejpgaa
