/-
  The walks of order.Union, order.Meet, order.Less at ponder/api.Elem, said of several sets in one memory.
-/
import Derived.Test.YthhhhjllpejpgaaJoinElem
import Derived.Test.YthhhhjllpejpgaaJoinBase
namespace Go.Proofs.Ythhhhjllpejpgaa
open Go.RowKit Go.Shelf
attribute [local go_sem] Oper.semAt_some

set_option maxRecDepth 100000 in
set_option maxHeartbeats 4000000 in
theorem sMeet_Elem {D : Nat → Prop} {w : World} {S : Nat → Option (List Elem)} {σ : Nat → St} {a b : Nat} {l m : List Elem} (h : ElemSets D w S σ) (ha : S a = some l) (hb : S b = some m) (hl : (l.length : Int) ≤ 1000000) (hl2 : (m.length : Int) ≤ 1000000) :
    Calls Try.prog 46 #[.pointer (some ⟨a, 0, none⟩), .pointer (some ⟨b, 0, none⟩)] w (MadeElem D w S σ (l.filter fun x => has cmpElem m x)) := by
  obtain ⟨i0, hi0, hz0, hz1, hz2⟩ := info_parts info_Elem
  have H := Lib.hid h
  clear h
  refine (callsIn_wide (n := 0)).1 ?_
  refine callsIn_of_wp_marks Try.func46 rfl trivial ?_
  simp only [Try.ntmps46, List.size_toArray, List.length_cons, List.length_nil, Nat.reduceAdd, Nat.reduceSub, Array.replicate_succ, Array.replicate_zero, List.push_toArray, List.append_toArray, List.nil_append, List.cons_append]
  gi_wp2_with fail
  obtain ⟨k, hkd⟩ : ∃ k, k = w.heap.size + 1 := ⟨_, rfl⟩
  obtain ⟨p, hpd⟩ : ∃ p, p = w.heap.size + 1 + 1 := ⟨_, rfl⟩
  rw [← hpd, ← hkd]
  obtain ⟨W0, hW0⟩ : ∃ W0, W0 = ((w.alloc (.cells #[.pointer (some ⟨b, 0, none⟩)] 69)).alloc (.cells #[.slice none 0 0, .bool false] 94)).alloc (.cells #[.pointer (some ⟨k, 0, none⟩)] 69) := ⟨_, rfl⟩
  have hb0 : Below w.heap.size w W0 := by rw [hW0]; exact ((((Below.refl _ _).alloc (Nat.le_refl _) _).alloc (by simp) _).alloc (by simp; omega) _)
  have hz00 : W0.heap.size = w.heap.size + 3 := by rw [hW0]; simp
  have hBb : Blk W0 w.heap.size 69 #[.pointer (some ⟨b, 0, none⟩)] := by rw [hW0]; exact ((Blk.new w _ _).alloc _).alloc _
  have hBk : Blk W0 k 94 #[.slice none 0 0, .bool false] := by
    rw [hW0, hkd]
    have := (Blk.new (w.alloc (.cells #[.pointer (some ⟨b, 0, none⟩)] 69)) 94 #[.slice none 0 0, .bool false]).alloc (.cells #[.pointer (some ⟨w.heap.size + 1, 0, none⟩)] 69)
    simpa using this
  have hBp : Blk W0 p 69 #[.pointer (some ⟨k, 0, none⟩)] := by
    rw [hW0, hpd]
    have := Blk.new ((w.alloc (.cells #[.pointer (some ⟨b, 0, none⟩)] 69)).alloc (.cells #[.slice none 0 0, .bool false] 94)) 69 #[.pointer (some ⟨k, 0, none⟩)]
    simpa using this
  have hak : a ≠ k := fun e => by have := H.out.lt ha; omega
  have hbk : b ≠ k := fun e => by have := H.out.lt hb; omega
  have hnk : ∀ b l, S b = some l → b ≠ k := fun b l hb e => by have := H.out.lt hb; omega
  have hS0 : ElemSets D W0 (upd S k (some [])) (upd σ k ⟨false, none, 0⟩) := H.out.add (by omega) (⟨hBk, owns_nil _ _ _ _⟩ : ElemSet W0 k false none 0 []) Srt.nil (.inl (AIn.none_ _)) hb0
  have hlow : ∀ b l, S b = some l → b < w.heap.size ∧ AIn (σ b).A (· < w.heap.size) := fun b l hb => ⟨H.out.lt hb, (H.out.at_ b l hb).row_lt⟩
  rw [← hW0]
  clear hW0
  have HNK := Lib.hid hnk
  have HL := Lib.hid hlow
  clear hnk hlow
  refine ⟨trivial, rfl, ?_⟩
  refine (callsIn_wide.2 (mkall_Elem a W0)).mono ?_
  rintro e w3 ⟨rfl, hb3, hbox⟩
  have hz3 := hb3.size
  have hP3 : w3.cell? ⟨p, 0, none⟩ = some (.pointer (some ⟨k, 0, none⟩)) := ((hBp.new_ hb3).cell 0).trans rfl
  have hQ3 : w3.cell? ⟨w.heap.size, 0, none⟩ = some (.pointer (some ⟨b, 0, none⟩)) := ((hBb.new_ hb3).cell 0).trans rfl
  have h3' := hS0.below hb3
  obtain ⟨σ3, hσ3⟩ : ∃ σ3, σ3 = upd σ k (⟨false, none, 0⟩ : St) := ⟨_, rfl⟩
  have hσk : (σ3 k).sn = false := by rw [hσ3, upd_same]
  have hσj : ∀ j, j ≠ k → σ3 j = σ j := fun j hj => by rw [hσ3, upd_ne _ _ hj]
  have hσA : (σ3 k).A = none := by rw [hσ3, upd_same]
  rw [← hσ3] at h3'
  have h3 := h3'.guard (fun j => j = w.heap.size ∨ j = p ∨ (W0.heap.size ≤ j ∧ j < w3.heap.size)) (fun j q hj => by
      by_cases e : j = k
      · subst e
        exact ⟨by omega, fun _ => by rw [hσA]; exact AIn.none_ _⟩
      · rw [upd_ne _ _ e] at hj
        have := HL.out j q hj
        refine ⟨by have := this.1; omega, fun _ a ha hk => ?_⟩
        rw [hσj j e] at ha
        have := this.2 a ha
        simp only at this
        omega) (fun j hj => by have := hBp.lt; have := hBb.lt; omega)
  obtain ⟨D3, hD3⟩ : ∃ D3 : Nat → Prop, D3 = fun j => D j ∨ (j = w.heap.size ∨ j = p ∨ (W0.heap.size ≤ j ∧ j < w3.heap.size)) := ⟨_, rfl⟩
  rw [← hD3] at h3
  have hDD : ∀ j, D j → D3 j := fun j hj => by rw [hD3]; exact .inl hj
  have hDp : D3 p := by rw [hD3]; exact .inr (.inr (.inl rfl))
  have hDq : D3 w.heap.size := by rw [hD3]; exact .inr (.inl rfl)
  have hF3 : Fr (fun j => ¬ D j) w w3 := (Fr.of_new hb0).trans ((Fr.of_new hb3).mono (fun _ _ h => h))
  have ha3 : (upd S k (some ([] : List Elem))) a = some l := by rw [upd_ne _ _ hak]; exact ha
  have hb3' : ∀ (t : List Elem), (upd S k (some t)) b = some m := fun t => by rw [upd_ne _ _ hbk]; exact hb
  have ha3' : ∀ (t : List Elem), (upd S k (some t)) a = some l := fun t => by rw [upd_ne _ _ hak]; exact ha
  have hseq := seq_all_Elem W0.heap.size a _ _ _ l w3 hbox (h3.at_ a l ha3)
  have hbA := (h3.at_ a l ha3).row_lt
  have HSEQ := Lib.hid hseq
  have HP3 := Lib.hid hP3
  have HQ3 := Lib.hid hQ3
  have H3 := Lib.hid h3
  have HDD := Lib.hid hDD
  have HDp := Lib.hid hDp
  have HDq := Lib.hid hDq
  have HF3 := Lib.hid hF3
  have HbA := Lib.hid hbA
  have HB3' := Lib.hid hb3'
  have HA3' := Lib.hid ha3'
  have hpz : p < w3.heap.size := by have := hBp.lt; omega
  have hqz : w.heap.size < w3.heap.size := by have := hBb.lt; omega
  have hkz : k < w3.heap.size := by have := hBk.lt; omega
  clear hb0 hBb hBk hBp hb3 hbox hP3 hQ3 h3 h3' hD3 hDD hDp hDq hF3 hseq hbA hz3 hσj hσA hσ3 hS0 hb3' ha3'
  have HZ00 := Lib.hid hz00
  clear hz00
  have HKD := Lib.hid hkd
  have HPD := Lib.hid hpd
  clear hkd hpd
  gi_wp2_with fail
  obtain ⟨I, hI⟩ : ∃ I : List Elem → World → Prop, I = fun q W => ∃ σ', ElemSets D3 W (upd S k (some (q.filter fun x => has cmpElem m x))) σ' ∧ (σ' a).A = (σ3 a).A ∧ (σ' k).sn = false ∧ Fr (fun j => ¬ D j) w W ∧ W.cell? ⟨p, 0, none⟩ = some (.pointer (some ⟨k, 0, none⟩)) ∧ W.cell? ⟨w.heap.size, 0, none⟩ = some (.pointer (some ⟨b, 0, none⟩)) := ⟨_, rfl⟩
  have hwz : w.heap.size ≤ w3.heap.size := HF3.out.size
  refine wpIn_range (w := w3) (by rfl) HSEQ.out.enter HSEQ.out.iter (fun x => by rfl) HSEQ.out.trans HSEQ.out.keep (fun W W1 h => keepsFrom_of_fr (HSEQ.out.mods W W1 h)) I (fun _ _ _ => False) ?_ (fun _ _ _ _ h => h.elim) ?_ ?_ ?_ ?_
  · subst hI
    rintro q X Y ⟨σ', g1, g2, g5, g3, g4, g6⟩ hp
    exact ⟨σ', g1.priv hp, g2, g5, g3.priv hp hwz, cell_priv g4 hp, cell_priv g6 hp⟩
  · intro W W1 hW hs
    subst hI
    have g1 := H3.out.below hW
    have g2 := hs.set_ (g1.at_ a l ha3) (by decide)
    have g3 := g1.seen (by decide) ha3 g2 hs.fr
    refine ⟨_, g3, by rw [upd_same], by rw [upd_ne _ _ (Ne.symm hak)]; exact hσk, (HF3.out.trans (Fr.of_new hW)).trans (hs.fr.mono (fun j _ hj hd => ?_)), ?_, ?_⟩
    · subst hj; exact (H3.out.out j l ha3).1 (HDD.out j hd)
    · refine (hs.fr.cell (p := ⟨p, 0, none⟩) (Nat.lt_of_lt_of_le hpz hW.size) (fun e => ?_)).trans ((hW.cell hpz).trans HP3.out)
      exact (H3.out.out a l ha3).1 (by rw [← e]; exact HDp.out)
    · refine (hs.fr.cell (p := ⟨w.heap.size, 0, none⟩) (Nat.lt_of_lt_of_le hqz hW.size) (fun e => ?_)).trans ((hW.cell hqz).trans HQ3.out)
      exact (H3.out.out a l ha3).1 (by rw [← e]; exact HDq.out)
  · intro lo pre x post W hx hlo hIW
    have hx' : l.length = pre.length + (post.length + 1) := by rw [hx]; simp
    have HX := Lib.hid hx
    clear hx
    rw [hI] at hIW
    obtain ⟨σ', g1, g2, g5, g3, g4, g6⟩ := hIW
    obtain ⟨q, hq⟩ : ∃ q, q = pre.filter fun x => has cmpElem m x := ⟨_, rfl⟩
    rw [← hq] at g1
    have hql : q.length ≤ pre.length := by rw [hq]; exact List.length_filter_le _ _
    have HQ := Lib.hid hq
    have HI := Lib.hid hI
    have G1 := Lib.hid g1
    have G2 := Lib.hid g2
    have G3 := Lib.hid g3
    have G4 := Lib.hid g4
    have G5 := Lib.hid g5
    have G6 := Lib.hid g6
    clear g1 g2 g3 g4 g5 g6 hI hq
    simp only [encElem, Array.zip]
    gi_wp2_with fail
    refine ⟨KeepsFrom.alloc_ (keepsFrom_refl _ _) _, fun W3 hp3 hz3 _ => ?_⟩
    have hx3 : Blk W3 W.heap.size 72 #[Value.int IntKind.i64 x.id.kind, Value.string x.id.text, Value.int IntKind.i64 x.id.n, Value.int IntKind.i64 x.attr.kind, Value.string x.attr.text, Value.int IntKind.i64 x.attr.n, Value.int IntKind.i64 x.value.kind, Value.string x.value.text, Value.int IntKind.i64 x.value.n, Value.bool x.acc, Value.bool x.goal, Value.int IntKind.i64 x.tag] := (Blk.new W 72 #[Value.int IntKind.i64 x.id.kind, Value.string x.id.text, Value.int IntKind.i64 x.id.n, Value.int IntKind.i64 x.attr.kind, Value.string x.attr.text, Value.int IntKind.i64 x.attr.n, Value.int IntKind.i64 x.value.kind, Value.string x.value.text, Value.int IntKind.i64 x.value.n, Value.bool x.acc, Value.bool x.goal, Value.int IntKind.i64 x.tag]).priv hp3
    have x0 := hx3.cell 0
    have x1 := hx3.cell 1
    have x2 := hx3.cell 2
    have x3 := hx3.cell 3
    have x4 := hx3.cell 4
    have x5 := hx3.cell 5
    have x6 := hx3.cell 6
    have x7 := hx3.cell 7
    have x8 := hx3.cell 8
    have x9 := hx3.cell 9
    have x10 := hx3.cell 10
    have x11 := hx3.cell 11
    simp only [List.getElem?_toArray, List.getElem?_cons_zero, List.getElem?_cons_succ] at x0 x1 x2 x3 x4 x5 x6 x7 x8 x9 x10 x11
    have s3 := (G1.out.below ((Below.refl _ _).alloc (Nat.le_refl _) (.cells #[Value.int IntKind.i64 x.id.kind, Value.string x.id.text, Value.int IntKind.i64 x.id.n, Value.int IntKind.i64 x.attr.kind, Value.string x.attr.text, Value.int IntKind.i64 x.attr.n, Value.int IntKind.i64 x.value.kind, Value.string x.value.text, Value.int IntKind.i64 x.value.n, Value.bool x.acc, Value.bool x.goal, Value.int IntKind.i64 x.tag] 72))).priv hp3
    have c3 : W3.cell? ⟨p, 0, none⟩ = some (.pointer (some ⟨k, 0, none⟩)) := cell_priv ((((Below.refl W.heap.size W).alloc (Nat.le_refl _) _).cell (World.block_lt_of_cell? _ _ G4.out)).trans G4.out) hp3
    have d3 : W3.cell? ⟨w.heap.size, 0, none⟩ = some (.pointer (some ⟨b, 0, none⟩)) := cell_priv ((((Below.refl W.heap.size W).alloc (Nat.le_refl _) _).cell (World.block_lt_of_cell? _ _ G6.out)).trans G6.out) hp3
    have S3 := Lib.hid s3
    have C3 := Lib.hid c3
    have P3 := Lib.hid hp3
    have X3 := Lib.hid hx3
    clear s3 hx3 hp3 hz3 c3
    gi_wp2_with fail
    refine ⟨trivial, rfl, ?_⟩
    refine (callsIn_wide.2 (place_Elem b _ _ _ m x W3 (S3.out.at_ b m (HB3'.out _)) (S3.out.srt b m (HB3'.out _)) (by omega))).mono ?_
    rintro e W4 ⟨rfl, hb4⟩
    have hz4 := hb4.size
    have s4 := S3.out.below hb4
    have c4 : W4.cell? ⟨p, 0, none⟩ = some (.pointer (some ⟨k, 0, none⟩)) := (hb4.cell (World.block_lt_of_cell? _ _ C3.out)).trans C3.out
    have xb4 := X3.out.new_ hb4
    have k4 := s4.at_ k q (upd_same _ _ _)
    have B4 := Lib.hid hb4
    have S4 := Lib.hid s4
    have K4 := Lib.hid k4
    have X4 := Lib.hid xb4
    have hpr : Fr (fun j => ¬ D j) W W4 := (((Fr.refl _ W).alloc _).into (Fr.of_priv P3.out) (fun j hj => .inl (fun hd => by have := H.out.low j hd; omega))).trans (Fr.of_new hb4)
    have HPR := Lib.hid hpr
    have d4 : W4.cell? ⟨w.heap.size, 0, none⟩ = some (.pointer (some ⟨b, 0, none⟩)) := (hb4.cell (World.block_lt_of_cell? _ _ d3)).trans d3
    have D4 := Lib.hid d4
    have kf4 : KeepsFrom w3.heap.size W3 W4 := keepsFrom_of_below hb4 (Nat.le_refl _) |> fun h => h
    have KF4 := Lib.hid kf4
    have rk4 : RowKeep (σ3 a).A W W4 := by
      refine ⟨hpr.size, fun r hr hlt => ?_⟩
      have e2 := P3.out.block r.block (by simp; omega) (.inl (HbA.out r hr))
      have hl3 : r.block < W3.heap.size := by have := P3.out.size; simp at this; omega
      exact (hb4.block r.block hl3).trans (e2.trans (Below.heap_alloc W _ _ hlt))
    have RK4 := Lib.hid rk4
    clear s4 k4 xb4 hb4 hpr d4 d3 kf4 rk4 x0 x1 x2 x3 x4 x5 x6 x7 x8 x9 x10 x11
    have C4 := Lib.hid c4
    have pn4 : ¬ (Value.slice (σ' k).A q.length (σ' k).c).ownBlock = some p := fun h => by
      rcases hA : (σ' k).A with _ | a1
      · rw [hA] at h; cases h
      · rw [hA] at h
        simp only [Value.ownBlock, Option.some.injEq] at h
        exact (S4.out.out k q (upd_same _ _ _)).2 G5.out a1 hA (by rw [h]; exact HDp.out)
    have PN4 := Lib.hid pn4
    clear pn4
    cases hh : has cmpElem m x
    · clear c4
      gi_wp2_with fail
      have hI := HI.out
      subst hI
      refine ⟨KF4.out, RK4.out, σ', ?_, G2.out, G5.out, G3.out.trans HPR.out, C4.out, D4.out⟩
      have e : (pre ++ [x]).filter (fun x => has cmpElem m x) = q := by rw [List.filter_append, ← HQ.out]; simp [hh]
      rw [e]; exact S4.out
    · have y0 := K4.out.cell0
      have f0 := K4.out.blk.frozen 0
      have hk4 := K4.out.lt
      have hp4 := World.block_lt_of_cell? _ _ c4
      have hx4 := X4.out.lt
      have z0 : W4.cell? ⟨W.heap.size, 0, none⟩ = some (.int .i64 x.id.kind) := (X4.out.cell 0).trans rfl
      have z1 : W4.cell? ⟨W.heap.size, 1, none⟩ = some (.string x.id.text) := (X4.out.cell 1).trans rfl
      have z2 : W4.cell? ⟨W.heap.size, 2, none⟩ = some (.int .i64 x.id.n) := (X4.out.cell 2).trans rfl
      have z3 : W4.cell? ⟨W.heap.size, 3, none⟩ = some (.int .i64 x.attr.kind) := (X4.out.cell 3).trans rfl
      have z4 : W4.cell? ⟨W.heap.size, 4, none⟩ = some (.string x.attr.text) := (X4.out.cell 4).trans rfl
      have z5 : W4.cell? ⟨W.heap.size, 5, none⟩ = some (.int .i64 x.attr.n) := (X4.out.cell 5).trans rfl
      have z6 : W4.cell? ⟨W.heap.size, 6, none⟩ = some (.int .i64 x.value.kind) := (X4.out.cell 6).trans rfl
      have z7 : W4.cell? ⟨W.heap.size, 7, none⟩ = some (.string x.value.text) := (X4.out.cell 7).trans rfl
      have z8 : W4.cell? ⟨W.heap.size, 8, none⟩ = some (.int .i64 x.value.n) := (X4.out.cell 8).trans rfl
      have z9 : W4.cell? ⟨W.heap.size, 9, none⟩ = some (.bool x.acc) := (X4.out.cell 9).trans rfl
      have z10 : W4.cell? ⟨W.heap.size, 10, none⟩ = some (.bool x.goal) := (X4.out.cell 10).trans rfl
      have z11 : W4.cell? ⟨W.heap.size, 11, none⟩ = some (.int .i64 x.tag) := (X4.out.cell 11).trans rfl
      have hRk : ¬ (Value.slice (σ' k).A q.length (σ' k).c).ownBlock = some k := own_blk_ne K4.out.row K4.out.blk (by decide)
      have hRp : ¬ (Value.slice (σ' k).A q.length (σ' k).c).ownBlock = some p := PN4.out
      have hRx : ¬ (Value.slice (σ' k).A q.length (σ' k).c).ownBlock = some W.heap.size := fun h => by
        rcases hA : (σ' k).A with _ | a1
        · rw [hA] at h; cases h
        · rw [hA] at h
          have h1 := (G1.out.at_ k q (upd_same _ _ _)).row_lt a1 hA
          simp only [Value.ownBlock, Option.some.injEq] at h
          omega
      gi_wp2_with fail
      refine wpIn_region_E (fun w9 => Fr (fun j => (Value.slice (σ' k).A q.length (σ' k).c).ownBlock = some j) W4 w9) [(0, 1), (1, 1), (2, 0), (3, 0), (4, 1), (5, 1), (6, 2), (7, 2), (8, 0), (9, 0), (10, 2)] (by kernel_rfl) (by kernel_rfl) (by rfl) (fun KK hKK => ?_)
      simp only [beside, List.filterMap_cons, List.filterMap_nil, List.getElem?_toArray, List.getElem?_cons_zero, List.getElem?_cons_succ, Option.map_some]
      repeat (first | (refine wpX_w ?_ (Or.inl ⟨by rfl, fun w9 => ?_⟩) ?_; rotate_left 1; go_simp; with_reducible rfl; simp only [Act.put, List.setIfInBounds_toArray, List.set_cons_zero, List.set_cons_succ]) | (refine wpX_l ?_ ((Fr.refl _ W4).drew) (Or.inl ⟨by rfl, fun w9 hw9 => ?_⟩) ?_; rotate_left 1; have hc9a := hw9.cell (p := ⟨p, 0, none⟩) hp4 hRp; have hc9b := hw9.cell (p := ⟨k, 0, none⟩) hk4 hRk; have hc9x0 := hw9.cell (p := ⟨W.heap.size, 0, none⟩) hx4 hRx; have hc9x1 := hw9.cell (p := ⟨W.heap.size, 1, none⟩) hx4 hRx; have hc9x2 := hw9.cell (p := ⟨W.heap.size, 2, none⟩) hx4 hRx; have hc9x3 := hw9.cell (p := ⟨W.heap.size, 3, none⟩) hx4 hRx; have hc9x4 := hw9.cell (p := ⟨W.heap.size, 4, none⟩) hx4 hRx; have hc9x5 := hw9.cell (p := ⟨W.heap.size, 5, none⟩) hx4 hRx; have hc9x6 := hw9.cell (p := ⟨W.heap.size, 6, none⟩) hx4 hRx; have hc9x7 := hw9.cell (p := ⟨W.heap.size, 7, none⟩) hx4 hRx; have hc9x8 := hw9.cell (p := ⟨W.heap.size, 8, none⟩) hx4 hRx; have hc9x9 := hw9.cell (p := ⟨W.heap.size, 9, none⟩) hx4 hRx; have hc9x10 := hw9.cell (p := ⟨W.heap.size, 10, none⟩) hx4 hRx; have hc9x11 := hw9.cell (p := ⟨W.heap.size, 11, none⟩) hx4 hRx; go_simp; with_reducible rfl; simp only [Act.put, List.setIfInBounds_toArray, List.set_cons_zero, List.set_cons_succ]) | (refine wpX_w undef (Or.inr ⟨by rfl, rfl⟩) ?_; simp only [Act.put, List.setIfInBounds_toArray, List.set_cons_zero, List.set_cons_succ]) | (refine wpX_l undef ((Fr.refl _ W4).drew) (Or.inr ⟨by rfl, rfl⟩) ?_; simp only [Act.put, List.setIfInBounds_toArray, List.set_cons_zero, List.set_cons_succ]))
      refine wpX_es (fun K9 hK9 => ?_)
      go_simp
      refine hK9 _ _ ((Fr.refl _ W4).drew.alloc _) ?_
      clear hK9 K9
      refine wpX_es (fun K9 hK9 => ?_)
      refine step_append_src _ (by rfl) _ _ _ (by rfl) 72 i0 _ 12 112 Try.underlying68 hi0 hz0 hz1 hz2 rfl (by omega) _ q.length (q.flatMap Elem.cells) (by rfl) (ownsRow_new K4.out.row (((Below.refl _ _).drew).alloc (Nat.le_refl _) _)) (some ⟨W4.heap.size, 0, none⟩) 1 1 (Elem.cells x) (by rfl) (by rfl)
        (fun _ => ⟨_, rfl, World.news_of_block (heap_alloc_new _ _)⟩) (Elem.one x) (by unfold maxLen; omega) (by omega) ?_
      intro v2 w5 hown hgr hnil hat
      refine hK9 _ _ (((Fr.refl _ W4).drew.alloc _).grown hgr (fun j hj => .inl hj)) ?_
      clear hK9 K9
      obtain ⟨g, c2, rfl⟩ : ∃ g c2, v2 = .slice (some ⟨g, 0, none⟩) (q.length + 1) c2 := by
        rcases ownsRow_form hown with ⟨_, h0, _⟩ | ⟨g, c2, h, _⟩
        · omega
        · exact ⟨g, c2, h⟩
      have HB5' := (K4.out.blk.drew.alloc (.cells #[Value.int IntKind.i64 x.id.kind, Value.string x.id.text, Value.int IntKind.i64 x.id.n, Value.int IntKind.i64 x.attr.kind, Value.string x.attr.text, Value.int IntKind.i64 x.attr.n, Value.int IntKind.i64 x.value.kind, Value.string x.value.text, Value.int IntKind.i64 x.value.n, Value.bool x.acc, Value.bool x.goal, Value.int IntKind.i64 x.tag] 72)).grown hgr (own_blk_ne K4.out.row K4.out.blk (by decide))
      have c0 := (HB5'.cell 0).trans rfl
      have z9 := HB5'.frozen 0
      have HB5 := Lib.hid HB5'
      have HOWN := Lib.hid hown
      have HGR := Lib.hid hgr
      have HAT := Lib.hid hat
      clear HB5' hown hgr hat hnil
      repeat (first | (refine wpX_w ?_ (Or.inl ⟨by rfl, fun w9 => ?_⟩) ?_; rotate_left 1; go_simp; with_reducible rfl; simp only [Act.put, List.setIfInBounds_toArray, List.set_cons_zero, List.set_cons_succ]) | (refine wpX_l ?_ (((Fr.refl _ W4).drew.alloc _).grown HGR.out (fun j hj => .inl hj)) (Or.inl ⟨by rfl, fun w9 hw9 => ?_⟩) ?_; rotate_left 1; have hc9a := hw9.cell (p := ⟨p, 0, none⟩) hp4 hRp; have hc9b := hw9.cell (p := ⟨k, 0, none⟩) hk4 hRk; have hc9x0 := hw9.cell (p := ⟨W.heap.size, 0, none⟩) hx4 hRx; have hc9x1 := hw9.cell (p := ⟨W.heap.size, 1, none⟩) hx4 hRx; have hc9x2 := hw9.cell (p := ⟨W.heap.size, 2, none⟩) hx4 hRx; have hc9x3 := hw9.cell (p := ⟨W.heap.size, 3, none⟩) hx4 hRx; have hc9x4 := hw9.cell (p := ⟨W.heap.size, 4, none⟩) hx4 hRx; have hc9x5 := hw9.cell (p := ⟨W.heap.size, 5, none⟩) hx4 hRx; have hc9x6 := hw9.cell (p := ⟨W.heap.size, 6, none⟩) hx4 hRx; have hc9x7 := hw9.cell (p := ⟨W.heap.size, 7, none⟩) hx4 hRx; have hc9x8 := hw9.cell (p := ⟨W.heap.size, 8, none⟩) hx4 hRx; have hc9x9 := hw9.cell (p := ⟨W.heap.size, 9, none⟩) hx4 hRx; have hc9x10 := hw9.cell (p := ⟨W.heap.size, 10, none⟩) hx4 hRx; have hc9x11 := hw9.cell (p := ⟨W.heap.size, 11, none⟩) hx4 hRx; go_simp; with_reducible rfl; simp only [Act.put, List.setIfInBounds_toArray, List.set_cons_zero, List.set_cons_succ]) | (refine wpX_w undef (Or.inr ⟨by rfl, rfl⟩) ?_; simp only [Act.put, List.setIfInBounds_toArray, List.set_cons_zero, List.set_cons_succ]) | (refine wpX_l undef (((Fr.refl _ W4).drew.alloc _).grown HGR.out (fun j hj => .inl hj)) (Or.inr ⟨by rfl, rfl⟩) ?_; simp only [Act.put, List.setIfInBounds_toArray, List.set_cons_zero, List.set_cons_succ]))
      refine wpX_e (by kernel_rfl) (fun K9 hK9 => ?_)
      go_simp
      refine hK9 _ _ ?_
      clear hK9 K9
      refine wpX_nil ?_
      simp only [OnlyN_normal]
      refine hKK _ _ ?_
      clear hKK KK
      obtain ⟨Wf, hWf⟩ : ∃ Wf, Wf = w5.setCell ⟨k, 0, none⟩ (.slice (some ⟨g, 0, none⟩) (q.length + 1) c2) := ⟨_, rfl⟩
      have hlg : ((q.length + 1 : Nat) : Int) = (q.length : Int) + 1 := by omega
      have hG : (g = W4.heap.size + 1 ∨ (σ' k).A = some ⟨g, 0, none⟩) := by
        rcases HAT.out with h | h
        · right
          rcases hA : (σ' k).A with _ | a1
          · rw [hA] at h; simp [Value.ownBlock] at h
          · obtain ⟨A', c', hv, _, _, hz⟩ := own_form2 K4.out.row
            rw [hA] at hv h
            injection hv with hv _ _
            obtain ⟨g', rfl⟩ := hz a1 hv.symm
            have hgg : g' = g := by simpa [Value.ownBlock] using h.symm
            rw [hgg]
        · left; simpa [Value.ownBlock] using h
      have hgk : g ≠ k := by
        rcases hG with h | h
        · omega
        · exact K4.out.row_ne (by decide) _ h
      have hM : Moved W4 (σ' k).sn (σ' k).A false (some ⟨g, 0, none⟩) := by
        rcases hG with h | h
        · exact .inr ⟨rfl, g, by omega, rfl⟩
        · exact .inl ⟨G5.out.symm, h.symm⟩
      have hF5 : Fr (SetMod k (σ' k).sn (σ' k).A) W4 Wf := by
        rw [hWf]
        refine (((Fr.refl _ W4).drew.alloc _).grown HGR.out (fun j hj => ?_)).setCell (p := ⟨k, 0, none⟩) (.inl (.inl rfl)) _
        rcases hA : (σ' k).A with _ | a1
        · rw [hA] at hj; cases hj
        · rw [hA] at hj
          simp only [Value.ownBlock, Option.some.injEq] at hj
          left; right
          exact ⟨G5.out, a1, rfl, hj⟩
      have hlq : (q ++ [x]).length = q.length + 1 := by simp
      have h5 : ElemSet Wf k false (some ⟨g, 0, none⟩) c2 (q ++ [x]) := by
        refine ⟨?_, ?_⟩
        · rw [hWf, hlq]
          have hb5 := HB5.out.set_ 0 (.slice (some ⟨g, 0, none⟩) (q.length + 1) c2)
          rw [G5.out] at hb5
          exact hb5
        · rw [hWf, hlq, List.flatMap_append, List.flatMap_singleton]
          exact ownsRow_setCell_other (a := ⟨k, 0, none⟩) HOWN.out (by simpa [Value.ownBlock] using hgk) _
      have hst : Srt cmpElem (q ++ [x]) := by
        have e : (pre ++ [x]).filter (fun x => has cmpElem m x) = q ++ [x] := by rw [List.filter_append, ← HQ.out]; simp [hh]
        rw [← e]
        exact (H3.out.srt a l ha3).sublist ((List.filter_sublist).trans (by rw [HX.out, show pre ++ x :: post = (pre ++ [x]) ++ post by simp]; exact List.sublist_append_left _ _))
      have hS5 := S4.out.moved (by decide) (upd_same _ _ _) h5 hst hF5 hM
      rw [upd_upd] at hS5
      have hmod := S4.out.mod (upd_same _ _ _) hF5
      have hI := HI.out
      subst hI
      rw [← hWf]
      refine ⟨KF4.out.trans (S4.out.keepsFrom (upd_same _ _ _) hF5 _), RK4.out.trans ⟨hF5.size, fun r hr hlt => S4.out.rowKeep (by decide) (upd_same _ _ _) (HA3'.out _) (Ne.symm hak) hF5 r (by rw [G2.out]; exact hr)⟩, upd σ' k ⟨false, some ⟨g, 0, none⟩, c2⟩, ?_, by rw [upd_ne _ _ hak]; exact G2.out, by rw [upd_same], (G3.out.trans HPR.out).trans (hmod.mono (fun j _ hj hd => hj (HDD.out j hd))), ?_, ?_⟩
      · have e : (pre ++ [x]).filter (fun x => has cmpElem m x) = q ++ [x] := by rw [List.filter_append, ← HQ.out]; simp [hh]
        rw [e]; exact hS5
      · exact (hmod.cell (p := ⟨p, 0, none⟩) hp4 (fun h => h HDp.out)).trans C4.out
      · exact (hmod.cell (p := ⟨w.heap.size, 0, none⟩) (World.block_lt_of_cell? _ _ D4.out) (fun h => h HDq.out)).trans D4.out
  · intro Dd W hDd hIW hK
    subst hI
    obtain ⟨σ', g1, g2, g5, g3, g4, g6⟩ := hIW
    have G1 := Lib.hid g1
    have G3 := Lib.hid g3
    have HK := Lib.hid hK
    clear g1 g2 g3 g5 g6 hK
    gi_wp2_with fail
    refine ⟨by simp, .inl ⟨_, _, rfl, run_takeDeferred HK.out, ?_⟩⟩
    have hpv : Priv w3.heap.size W (W.putObj Dd (.deferred none)) := (Priv.refl _ _).putObj hDd HK.out rfl _
    exact ⟨_, results_tmp rfl _ _ _, k, rfl, by rw [HKD.out]; omega, HNK.out, σ', (G1.out.priv hpv).weaken HDD.out, G3.out.priv hpv hwz⟩
  · intro Dd c pre post W _ _ h
    exact h.elim
end Go.Proofs.Ythhhhjllpejpgaa
