/-
  The walks of order.Union, order.Meet, order.Less at ponder/api.Elem, said of several sets in one memory.
-/
import Derived.Test.YthhhhjllpejpgaaWorkElem
import Derived.Test.YthhhhjllpejpgaaJoinBase
namespace Go.Proofs.Ythhhhjllpejpgaa
open Go.RowKit Go.Shelf
attribute [local go_sem] Oper.semAt_some

set_option maxRecDepth 100000 in
set_option maxHeartbeats 4000000 in
theorem sUnion_Elem {D : Nat → Prop} {w : World} {S : Nat → Option (List Elem)} {σ : Nat → St} {a b : Nat} {l m : List Elem} (h : ElemSets D w S σ) (ha : S a = some l) (hb : S b = some m) (hl : (l.length : Int) + m.length ≤ 1000000) :
    Calls Try.prog 45 #[.pointer (some ⟨a, 0, none⟩), .pointer (some ⟨b, 0, none⟩)] w (MadeElem D w S σ (puts cmpElem l m)) := by
  have H := Lib.hid h
  clear h
  refine (callsIn_wide (n := 0)).1 ?_
  refine callsIn_of_wp_marks Try.func45 rfl trivial ?_
  simp only [Try.ntmps45, List.size_toArray, List.length_cons, List.length_nil, Nat.reduceAdd, Nat.reduceSub, Array.replicate_succ, Array.replicate_zero, List.push_toArray, List.append_toArray, List.nil_append, List.cons_append]
  gi_wp2_with fail
  refine ⟨trivial, rfl, ?_⟩
  refine (callsIn_wide.2 (sClone_Elem H.out ha)).mono ?_
  rintro e w2 ⟨k, rfl, hk, hnk, σ2, h2, _, _, _, _, _, hF2, _⟩
  have hak : a ≠ k := hnk a l ha
  have hbk : b ≠ k := hnk b m hb
  have hb2 : (upd S k (some l)) b = some m := by rw [upd_ne _ _ hbk]; exact hb
  have hz2 := hF2.size
  have H2 := Lib.hid h2
  have HF2 := Lib.hid hF2
  have HNK := Lib.hid hnk
  clear h2 hF2 hnk
  gi_wp2_with fail
  refine ⟨trivial, rfl, ?_⟩
  obtain ⟨W0, hW0⟩ : ∃ W0, W0 = w2.alloc (.cells #[.pointer (some ⟨k, 0, none⟩)] 69) := ⟨_, rfl⟩
  have hb0 : Below w2.heap.size w2 W0 := by rw [hW0]; exact (Below.refl _ _).alloc (Nat.le_refl _) _
  have hB0 : Blk W0 w2.heap.size 69 #[.pointer (some ⟨k, 0, none⟩)] := by rw [hW0]; exact Blk.new _ _ _
  rw [← hW0]
  clear hW0
  refine (callsIn_wide.2 (mkall_Elem b W0)).mono ?_
  rintro e w3 ⟨rfl, hb3, hbox⟩
  have hP3 : w3.cell? ⟨w2.heap.size, 0, none⟩ = some (.pointer (some ⟨k, 0, none⟩)) := ((hB0.new_ hb3).cell 0).trans rfl
  have hB23 : Below w2.heap.size w2 w3 := hb0.trans (hb3.mono hb0.size)
  have hz3 := hb3.size
  have hz0 := hB0.lt
  have h3 := H2.out.protect hB23
  obtain ⟨D3, hD3⟩ : ∃ D3 : Nat → Prop, D3 = fun j => D j ∨ (w2.heap.size ≤ j ∧ j < w3.heap.size) := ⟨_, rfl⟩
  rw [← hD3] at h3
  have hDD : ∀ j, D j → D3 j := fun j hj => by rw [hD3]; exact .inl hj
  have hDp : D3 w2.heap.size := by rw [hD3]; exact .inr ⟨Nat.le_refl _, by omega⟩
  have hF3 : Fr (fun j => ¬ D j) w w3 := HF2.out.trans (Fr.of_new hB23)
  have hseq := seq_all_Elem W0.heap.size b _ _ _ m w3 hbox (h3.at_ b m hb2)
  have hbA := (h3.at_ b m hb2).row_lt
  have HSEQ := Lib.hid hseq
  have HP3 := Lib.hid hP3
  have H3 := Lib.hid h3
  have HDD := Lib.hid hDD
  have HDp := Lib.hid hDp
  have HF3 := Lib.hid hF3
  have HbA := Lib.hid hbA
  have hpz : w2.heap.size < w3.heap.size := by omega
  clear hb0 hB0 hb3 hbox hP3 hB23 h3 hD3 hDD hDp hF3 hseq hbA hz0 hz3
  gi_wp2_with fail
  obtain ⟨I, hI⟩ : ∃ I : List Elem → World → Prop, I = fun p W => ∃ σ', ElemSets D3 W (upd S k (some (puts cmpElem l p))) σ' ∧ (σ' b).A = (σ2 b).A ∧ Fr (fun j => ¬ D j) w W ∧ W.cell? ⟨w2.heap.size, 0, none⟩ = some (.pointer (some ⟨k, 0, none⟩)) := ⟨_, rfl⟩
  have hwz : w.heap.size ≤ w3.heap.size := HF3.out.size
  refine wpIn_range (w := w3) (by rfl) HSEQ.out.enter HSEQ.out.iter (fun x => by rfl) HSEQ.out.trans HSEQ.out.keep (fun W W1 h => keepsFrom_of_fr (HSEQ.out.mods W W1 h)) I (fun _ _ _ => False) ?_ (fun _ _ _ _ h => h.elim) ?_ ?_ ?_ ?_
  · subst hI
    rintro p X Y ⟨σ', g1, g2, g3, g4⟩ hp
    exact ⟨σ', g1.priv hp, g2, g3.priv hp hwz, cell_priv g4 hp⟩
  · intro W W1 hW hs
    subst hI
    have g1 := H3.out.below hW
    have g2 := hs.set_ (g1.at_ b m hb2) (by decide)
    have g3 := g1.seen (by decide) hb2 g2 hs.fr
    refine ⟨_, g3, by rw [upd_same], (HF3.out.trans (Fr.of_new hW)).trans (hs.fr.mono (fun j _ hj hd => ?_)), ?_⟩
    · subst hj; exact (H3.out.out j m hb2).1 (HDD.out j hd)
    · refine (hs.fr.cell (p := ⟨w2.heap.size, 0, none⟩) (Nat.lt_of_lt_of_le hpz hW.size) (fun e => ?_)).trans ((hW.cell hpz).trans HP3.out)
      exact (H3.out.out b m hb2).1 (by rw [← e]; exact HDp.out)
  · intro lo pre x post W hx hlo hIW
    have hx' : m.length = pre.length + (post.length + 1) := by rw [hx]; simp
    clear hx
    rw [hI] at hIW
    obtain ⟨σ', g1, g2, g3, g4⟩ := hIW
    have HI := Lib.hid hI
    have G1 := Lib.hid g1
    have G2 := Lib.hid g2
    have G3 := Lib.hid g3
    have G4 := Lib.hid g4
    clear g1 g2 g3 g4 hI
    simp only [encElem, Array.zip]
    gi_wp2_with fail
    refine ⟨KeepsFrom.alloc_ (keepsFrom_refl _ _) _, fun W3 hp3 hz3 _ => ?_⟩
    have hx3 : Blk W3 W.heap.size 72 #[Value.int IntKind.i64 x.id.kind, Value.string x.id.text, Value.int IntKind.i64 x.id.n, Value.int IntKind.i64 x.attr.kind, Value.string x.attr.text, Value.int IntKind.i64 x.attr.n, Value.int IntKind.i64 x.value.kind, Value.string x.value.text, Value.int IntKind.i64 x.value.n, Value.bool x.acc, Value.bool x.goal, Value.int IntKind.i64 x.tag] := (Blk.new W 72 #[Value.int IntKind.i64 x.id.kind, Value.string x.id.text, Value.int IntKind.i64 x.id.n, Value.int IntKind.i64 x.attr.kind, Value.string x.attr.text, Value.int IntKind.i64 x.attr.n, Value.int IntKind.i64 x.value.kind, Value.string x.value.text, Value.int IntKind.i64 x.value.n, Value.bool x.acc, Value.bool x.goal, Value.int IntKind.i64 x.tag]).priv hp3
    have x0 := hx3.cell 0
    have x1 := hx3.cell 1
    have x2 := hx3.cell 2
    have x3 := hx3.cell 3
    have x4 := hx3.cell 4
    have x5 := hx3.cell 5
    have x6 := hx3.cell 6
    have x7 := hx3.cell 7
    have x8 := hx3.cell 8
    have x9 := hx3.cell 9
    have x10 := hx3.cell 10
    have x11 := hx3.cell 11
    simp only [List.getElem?_toArray, List.getElem?_cons_zero, List.getElem?_cons_succ] at x0 x1 x2 x3 x4 x5 x6 x7 x8 x9 x10 x11
    have s3 := (G1.out.below ((Below.refl _ _).alloc (Nat.le_refl _) (.cells #[Value.int IntKind.i64 x.id.kind, Value.string x.id.text, Value.int IntKind.i64 x.id.n, Value.int IntKind.i64 x.attr.kind, Value.string x.attr.text, Value.int IntKind.i64 x.attr.n, Value.int IntKind.i64 x.value.kind, Value.string x.value.text, Value.int IntKind.i64 x.value.n, Value.bool x.acc, Value.bool x.goal, Value.int IntKind.i64 x.tag] 72))).priv hp3
    have c3 : W3.cell? ⟨w2.heap.size, 0, none⟩ = some (.pointer (some ⟨k, 0, none⟩)) := cell_priv ((((Below.refl W.heap.size W).alloc (Nat.le_refl _) _).cell (World.block_lt_of_cell? _ _ G4.out)).trans G4.out) hp3
    have S3 := Lib.hid s3
    have C3 := Lib.hid c3
    have P3 := Lib.hid hp3
    clear s3 hx3 hp3 hz3
    gi_wp2_with fail
    refine ⟨trivial, rfl, ?_⟩
    have hlen : (((puts cmpElem l pre).length : Nat) : Int) ≤ 100000000 := by
      have := length_puts_le tc_elem pre (H.out.srt a l ha)
      omega
    refine (callsIn_wide.2 (sPut_Elem x S3.out (upd_same _ _ _) hlen)).mono ?_
    rintro e W4 ⟨rfl, σ4, s4, hσ4, hF4, hM4⟩
    rw [upd_upd] at s4
    have c4 : W4.cell? ⟨w2.heap.size, 0, none⟩ = some (.pointer (some ⟨k, 0, none⟩)) := (hF4.cell (World.block_lt_of_cell? _ _ C3.out) (fun h => h HDp.out)).trans C3.out
    have hb4 : (upd S k (some (puts cmpElem l pre))) b = some m := by rw [upd_ne _ _ hbk]; exact hb
    have r4 := S3.out.rowKeep (by decide) (upd_same _ _ _) hb4 (Ne.symm hbk) hM4
    have k4 := S3.out.keepsFrom (upd_same _ _ _) hM4 w3.heap.size
    have S4 := Lib.hid s4
    have R4 := Lib.hid r4
    have C4 := Lib.hid c4
    have K4 := Lib.hid k4
    have F4 := Lib.hid hF4
    have hz4 := hF4.size
    clear s4 r4 c4 k4 hF4 hM4
    gi_wp2_with fail
    have hI := HI.out
    subst hI
    have hpr : Fr (fun j => ¬ D j) W W3 := ((Fr.refl _ W).alloc _).into (Fr.of_priv P3.out) (fun j hj => .inl (fun hd => by have := H.out.low j hd; omega))
    refine ⟨K4.out, ?_, σ4, ?_, ?_, ?_, C4.out⟩
    · refine ⟨Nat.le_trans hpr.size hz4, fun q hq hlt => ?_⟩
      have e1 := R4.out q (by rw [G2.out]; exact hq)
      have e2 := P3.out.block q.block (by simp; omega) (.inl (HbA.out q hq))
      exact e1.trans (e2.trans (Below.heap_alloc W _ _ hlt))
    · rw [puts_snoc]; exact S4.out
    · rw [hσ4 b hbk]; exact G2.out
    · exact (G3.out.trans hpr).trans (F4.out.mono (fun j _ hj hd => hj (HDD.out j hd)))
  · intro Dd W hDd hIW hK
    subst hI
    obtain ⟨σ', g1, g2, g3, g4⟩ := hIW
    have G1 := Lib.hid g1
    have G3 := Lib.hid g3
    have HK := Lib.hid hK
    clear g1 g2 g3 hK
    gi_wp2_with fail
    refine ⟨by simp, .inl ⟨_, _, rfl, run_takeDeferred HK.out, ?_⟩⟩
    have hpv : Priv w3.heap.size W (W.putObj Dd (.deferred none)) := (Priv.refl _ _).putObj hDd HK.out rfl _
    exact ⟨_, results_tmp rfl _ _ _, k, rfl, by omega, HNK.out, σ', (G1.out.priv hpv).weaken HDD.out, G3.out.priv hpv hwz⟩
  · intro Dd c pre post W _ _ h
    exact h.elim
end Go.Proofs.Ythhhhjllpejpgaa
