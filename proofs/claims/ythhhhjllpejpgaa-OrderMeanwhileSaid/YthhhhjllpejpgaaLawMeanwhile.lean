/-
  The law on a set that is changed while a loop over it goes on: its walk.
-/
import Derived.Test.YthhhhjllpejpgaaPlay
import Derived.Test.YthhhhjllpejpgaaMeetSym
import Derived.Test.YthhhhjllpejpgaaSymLists
namespace Go.Proofs.Ythhhhjllpejpgaa
open Go.RowKit Go.Shelf
attribute [local go_sem] Oper.semAt_some
/-- What becomes of the set: at each turn one is put in, if there is one, and the one that is told is dropped. -/
def putIf (m L : List Sym) (k : Nat) : List Sym := match m[k]? with
  | some y => put cmpSym L y
  | none => L
def mw (m : List Sym) (L0 : List Sym) (p : List Sym) : List Sym × Nat := p.foldl (fun s x => (drop cmpSym (putIf m s.1 s.2) x, s.2 + 1)) (L0, 0)
theorem mw_snd (m L0 : List Sym) (p : List Sym) : (mw m L0 p).2 = p.length := by
  have : ∀ (p : List Sym) (s : List Sym × Nat), (p.foldl (fun s x => (drop cmpSym (putIf m s.1 s.2) x, s.2 + 1)) s).2 = s.2 + p.length := by
    intro p
    induction p with
    | nil => intro s; rfl
    | cons x p ih => intro s; rw [List.foldl_cons, ih]; simp; omega
  unfold mw; rw [this]; simp
theorem mw_snoc (m L0 : List Sym) (p : List Sym) (x : Sym) : (mw m L0 (p ++ [x])).1 = drop cmpSym (putIf m (mw m L0 p).1 p.length) x := by
  have := mw_snd m L0 p
  unfold mw at this ⊢
  rw [List.foldl_append, List.foldl_cons, List.foldl_nil, this]
theorem putIf_len {m L : List Sym} {k : Nat} (hs : Srt cmpSym L) : (putIf m L k).length ≤ L.length + 1 := by
  unfold putIf; split
  · exact length_put_le tc_sym hs _
  · omega
theorem twithout_is {n : Nat} {W : World} {v : Value} {l : List Sym} (x : Sym) (h : Tmp n W v l) (hl : (l.length : Int) ≤ 100000000) (hn : n ≤ W.heap.size) :
    Calls Try.prog 19 #[v, .agg #[.int .i64 x.kind, .string x.text, .int .i64 x.n]] W fun e W' => ∃ v', e = .returned v' ∧ Tmp n W' v' (drop cmpSym l x) ∧ Below W.heap.size W W' := by
  obtain ⟨A, c, rfl, hr, hA⟩ := h
  refine (without_is A c l x W hr hl).mono ?_
  rintro e W' ⟨A', c', rfl, hr', hA', hB⟩
  exact ⟨_, rfl, ⟨A', c', rfl, hr', hA'.mono (fun k hk => ⟨by omega, hk.2⟩)⟩, hB⟩
theorem owns_lt {W : World} {base : Nat} {e : TypeId} {size : Nat} {v : Value} {n : Nat} {xs : List Value} (h : W.ownsRow base e size v n xs) : ∀ k, v.ownBlock = some k → k < W.heap.size := by
  rcases h.2 with ⟨rfl, rfl⟩ | ⟨g, cap, cur, rfl, h0, hg, _⟩
  · intro k hk; cases hk
  · intro k hk; cases hk; exact Blk.lt (t := e) hg
theorem wpListIn_append_src {F : Fence} {n1 : Nat} {P : Program} (w : World) {ops : Array Oper} {rest : List Oper} {o : Oper} {a : Go.Act} {Q : Exit → Go.Act → World → Prop} (hgd : o.guard = none) (s x : Operand) (t : TypeId)
    (ho : o.op = .call { callee := .builtin .append, args := #[s, x], argTypes := #[t, t] })
    (e : TypeId) (i : TypeInfo) (z : Value) (size bytes : Nat) (ht : P.underlying t = some (.slice e)) (hi : P.info? e = some i) (hz : i.zero = some z)
    (hsize : i.size = size) (hby : i.bytes = bytes) (hzs : z.cells.size = size) (hsz : 0 < size)
    (v : Value) (n : Nat) (xs : List Value) (hs : a.eval s = v) (hown : w.ownsRow 0 e size v n xs)
    (A : Option Addr) (m c : Nat) (news : List Value) (hx : a.eval x = .slice A m c) (hl : news.length = m * size)
    (hnews : 0 < m → ∃ ad, A = some ad ∧ ∀ j u, news[j]? = some u → w.cell? (ad.add j) = some u) (h1 : ∀ u ∈ news, u.oneCell' = true)
    (h63 : n + m ≤ maxLen) (hbytes : (n + m) * bytes ≤ 140737488355328)
    (h : ∀ v' w', w'.ownsRow 0 e size v' (n + m) (xs ++ news) → w.grownBy w' v.ownBlock → (v' = .slice none 0 0 ↔ v = .slice none 0 0 ∧ m = 0) → (v'.ownBlock = v.ownBlock ∨ v'.ownBlock = some w.heap.size) → wpListIn F n1 P ops Q rest (a.put o.dst v') w') :
    wpListIn F n1 P ops Q (o :: rest) a w := by
  refine wpListIn_plain hgd fun K hK' => ?_
  obtain ⟨v', w', hrun, r1, r2, r3, r4⟩ := run_append_src (P := P) w t o.type e i z size bytes ht hi hz hsize hby hzs hsz v n xs hown A m c news hl hnews h1 h63 hbytes
  unfold Oper.wpIn
  refine ⟨?_, ?_⟩
  · simp [Oper.about, ho, resolve, Target.leads, Sem.run_pure]
  · rw [Oper.semAt_plain F _ _ (by rw [ho]; intro c hc'; cases hc')]
    simp [execOp, ho, resolve, invoke, builtin, hs, hx, hrun, Result.andThen]
    exact hK' _ _ (h v' w' r1 r2 r3 r4)
theorem mean_ret {tmps : Array Value} {n : Nat} {W : World} (h : tmps.getD 4 undef = .pointer (some ⟨n, 0, none⟩)) (hc : W.cell? ⟨n, 0, none⟩ = some (.bool true)) : (results Try.f3 tmps).run Try.prog W = .ok (.bool true) W := by
  have h2 : tmps[4]?.getD undef = .pointer (some ⟨n, 0, none⟩) := by simpa using h
  simp [results, Try.results3, go_sem, h2, hc]
set_option maxRecDepth 100000 in
set_option maxHeartbeats 16000000 in
theorem meanwhile_walk (A B : Option Addr) (c d : Nat) (l m : List Sym) (w : World) (hl : RowRd w 3 Sym.cells A c l) (hm : RowRd w 3 Sym.cells B d m) :
    Calls Try.prog 3 #[.slice A l.length c, .slice B m.length d] w fun e w' => e = .returned (.bool true) ∧ Below w.heap.size w w' := by
  obtain ⟨i0, hi0, hq0, hq1, hq2⟩ := info_parts info_Sym
  have HL := Lib.hid hl
  have HM := Lib.hid hm
  clear hl hm
  refine (callsIn_wide (n := 0)).1 ?_
  refine callsIn_of_wp_marks Try.func3 rfl trivial ?_
  simp only [Try.ntmps3, List.size_toArray, List.length_cons, List.length_nil, Nat.reduceAdd, Nat.reduceSub, Array.replicate_succ, Array.replicate_zero, List.push_toArray, List.append_toArray, List.nil_append, List.cons_append]
  by_cases h1 : 40 < l.length
  · have t1 : decide ((40 : Int) < (l.length : Int)) = true := by simp; omega
    clear h1
    gi_wp2_with fail
    refine ⟨trivial, rfl, ?_⟩
    refine (callsIn_wide.2 (wakes_is _)).mono ?_
    rintro e w1 ⟨rfl, hB⟩
    have hn1 : w1.cell? ⟨w.heap.size + 1, 0, none⟩ = some (.bool false) := by
      refine (hB.cell (by simp)).trans ?_
      simp
    have hf1 : w1.frozen? ⟨w.heap.size + 1, 0, none⟩ = false := by
      refine (hB.frozen (by simp)).trans ?_
      simp
    have HB := Lib.hid ((((Below.refl w.heap.size w).alloc (Nat.le_refl _) _).alloc (by simp) _).trans (hB.mono (by simp; omega)))
    clear hB
    gi_wp2_with fail
    refine ⟨.bool true, mean_ret rfl (World.cell?_setCell_same w1 _ _ hn1), rfl, HB.out.setCell (by simp) _⟩
  by_cases h2 : 40 < m.length
  · have t1 : decide ((40 : Int) < (l.length : Int)) = false := by simp; omega
    have t2 : decide ((40 : Int) < (m.length : Int)) = true := by simp; omega
    clear h1 h2
    gi_wp2_with fail
    refine ⟨trivial, rfl, ?_⟩
    refine (callsIn_wide.2 (wakes_is _)).mono ?_
    rintro e w1 ⟨rfl, hB⟩
    have hn1 : w1.cell? ⟨w.heap.size + 1, 0, none⟩ = some (.bool false) := by
      refine (hB.cell (by simp)).trans ?_
      simp
    have hf1 : w1.frozen? ⟨w.heap.size + 1, 0, none⟩ = false := by
      refine (hB.frozen (by simp)).trans ?_
      simp
    have HB := Lib.hid ((((Below.refl w.heap.size w).alloc (Nat.le_refl _) _).alloc (by simp) _).trans (hB.mono (by simp; omega)))
    clear hB
    gi_wp2_with fail
    refine ⟨.bool true, mean_ret rfl (World.cell?_setCell_same w1 _ _ hn1), rfl, HB.out.setCell (by simp) _⟩
  have t1 : decide ((40 : Int) < (l.length : Int)) = false := by simp; omega
  have t2 : decide ((40 : Int) < (m.length : Int)) = false := by simp; omega
  have hl40 : l.length ≤ 40 := by omega
  have hm40 : m.length ≤ 40 := by omega
  clear h1 h2
  gi_wp2_with fail
  obtain ⟨W0, hW0⟩ : ∃ W0, W0 = (w.alloc (.cells #[.slice B m.length d] 22)).alloc (.cells #[.bool false] 4) := ⟨_, rfl⟩
  have hb0 : Below w.heap.size w W0 := by rw [hW0]; exact ((Below.refl _ _).alloc (Nat.le_refl _) _).alloc (by simp) _
  have hC3 : Blk W0 w.heap.size 22 #[.slice B m.length d] := by rw [hW0]; exact (Blk.new w _ _).alloc _
  have hC4 : Blk W0 (w.heap.size + 1) 4 #[.bool false] := by
    rw [hW0]
    have := Blk.new (w.alloc (.cells #[.slice B m.length d] 22)) 4 #[.bool false]
    simpa using this
  obtain ⟨n3, hn3⟩ : ∃ n3, n3 = w.heap.size := ⟨_, rfl⟩
  obtain ⟨n4, hn4⟩ : ∃ n4, n4 = w.heap.size + 1 := ⟨_, rfl⟩
  rw [← hn4, ← hn3, ← hW0]
  rw [← hn3] at hC3
  rw [← hn4] at hC4
  clear hW0
  refine ⟨trivial, rfl, ?_⟩
  refine (callsIn_wide.2 (sNew_Sym A c l (Sets.start _ _ _ Sym.cells cmpSym W0) (HL.out.new_ hb0) (by omega))).mono ?_
  rintro e w1 ⟨⟨s, rfl, hs, _, σ1, h1, _⟩, hB1⟩
  obtain ⟨X, hX⟩ : ∃ X, X = puts cmpSym [] l := ⟨_, rfl⟩
  rw [← hX] at h1
  have hXl : X.length ≤ 40 := by
    have := length_puts_le tc_sym l (Srt.nil (cmp := cmpSym))
    rw [hX]; simp at this; omega
  have HXE := Lib.hid hX
  have H1 := Lib.hid h1
  have HC3 := Lib.hid (hC3.new_ hB1)
  have HC4 := Lib.hid (hC4.new_ hB1)
  have HB1 := Lib.hid (hb0.trans (hB1.mono hb0.size))
  have HZ4 := Lib.hid hC4.lt
  have HBZ := Lib.hid hb0.size
  have HN3 := Lib.hid hn3
  have HN4 := Lib.hid hn4
  have hs4 : n4 < s := by have := hC4.lt; omega
  have hw4 : w.heap.size < n4 := by omega
  have hw3 : w.heap.size ≤ n3 := by omega
  have h34 : n3 < n4 := by omega
  clear h1 hC3 hC4 hb0 hB1 hX hn3 hn4
  gi_wp2_with fail
  obtain ⟨p5, hp5⟩ : ∃ p5, p5 = w1.heap.size := ⟨_, rfl⟩
  obtain ⟨W1, hW1⟩ : ∃ W1, W1 = w1.alloc (.cells #[.pointer (some ⟨s, 0, none⟩)] 24) := ⟨_, rfl⟩
  have hb1 : Below w1.heap.size w1 W1 := by rw [hW1]; exact (Below.refl _ _).alloc (Nat.le_refl _) _
  have hC5 : Blk W1 p5 24 #[.pointer (some ⟨s, 0, none⟩)] := by rw [hW1, hp5]; exact Blk.new _ _ _
  rw [← hp5, ← hW1]
  clear hW1
  have h2 := H1.out.protect hb1
  obtain ⟨D1, hD1⟩ : ∃ D1 : Nat → Prop, D1 = fun j => j < W0.heap.size ∨ (w1.heap.size ≤ j ∧ j < W1.heap.size) := ⟨_, rfl⟩
  rw [← hD1] at h2
  have hD5 : D1 p5 := by rw [hD1]; exact .inr ⟨by omega, hC5.lt⟩
  have hD0 : ∀ j, j < W0.heap.size → D1 j := fun j hj => by rw [hD1]; exact .inl hj
  have hs5 : s < p5 := by rw [hp5]; exact H1.out.lt (upd_same _ _ _)
  have HC3' := Lib.hid (HC3.out.new_ hb1)
  have HC4' := Lib.hid (HC4.out.new_ hb1)
  have hz0 : n4 < W0.heap.size := HZ4.out
  refine ⟨trivial, rfl, ?_⟩
  refine (callsIn_wide.2 (lawlist h2 (upd_same _ _ _) (by omega))).mono ?_
  rintro e w3 ⟨Aw, cw, rfl, hrw, hAw, ⟨σ3, h3⟩, hF3, _⟩
  have HRW := Lib.hid hrw
  have HS3 := Lib.hid (h3.at_ s X (upd_same _ _ _))
  have HXS := Lib.hid (h3.srt s X (upd_same _ _ _))
  have c5 : w3.cell? ⟨p5, 0, none⟩ = some (.pointer (some ⟨s, 0, none⟩)) := (hF3.cell (p := ⟨p5, 0, none⟩) hC5.lt (fun h => h hD5)).trans ((hC5.cell 0).trans rfl)
  have HC3 := Lib.hid (HC3'.out.fr hF3 (fun h => h (hD0 _ (by omega))))
  have HC4 := Lib.hid (HC4'.out.fr hF3 (fun h => h (hD0 _ (by omega))))
  have HC5 := Lib.hid (hC5.fr hF3 (fun h => h hD5))
  have HAW := Lib.hid hAw
  have hws : ∀ a, Aw = some a → a.block ≠ s := fun a ha => by have := (hAw a ha).1; have := hC5.lt; omega
  have HWS := Lib.hid hws
  have HB3 := Lib.hid ((HB1.out.trans (hb1.mono HB1.out.size)).trans (hF3.below (by have := HB1.out.size; have := hb1.size; omega) (fun j hj hd => hd (hD0 j (by have := HBZ.out; omega)))))
  have hp3 : p5 < w3.heap.size := Nat.lt_of_lt_of_le hC5.lt hF3.size
  have HP5 := Lib.hid hp5
  clear h2 hrw hAw h3 hF3 hC5 hb1 hD1 hD5 hD0 HC3' HC4' hws hp5
  gi_wp2_with fail
  refine ⟨trivial, rfl, ?_⟩
  refine (callsIn_wide.2 (mkall_Sym s w3)).mono ?_
  rintro e w4 ⟨rfl, hb4, hbox⟩
  obtain ⟨kb, hkb⟩ : ∃ kb, kb = w3.heap.size := ⟨_, rfl⟩
  rw [← hkb] at hbox ⊢
  obtain ⟨w5, hw5⟩ : ∃ w5, w5 = w4.alloc (.cells #[.slice none 0 0] 22) := ⟨_, rfl⟩
  obtain ⟨pg, hpg⟩ : ∃ pg, pg = w4.heap.size := ⟨_, rfl⟩
  have hb5 : Below w4.heap.size w4 w5 := by rw [hw5]; exact (Below.refl _ _).alloc (Nat.le_refl _) _
  have hb35 : Below w3.heap.size w3 w5 := hb4.trans (hb5.mono hb4.size)
  have hGB : Blk w5 pg 22 #[.slice none 0 0] := by rw [hw5, hpg]; exact Blk.new _ _ _
  have hz5 : w5.heap.size = pg + 1 := by rw [hw5, hpg]; simp
  have HZ5 := Lib.hid hz5
  have hkbl : kb < pg := by rw [hpg]; exact World.block_lt_of_cell? _ _ hbox
  have hbox5 : w5.cell? ⟨kb, 0, none⟩ = some (.pointer (some ⟨s, 0, none⟩)) := (hb5.cell (World.block_lt_of_cell? _ _ hbox)).trans hbox
  have HKB := Lib.hid hkb
  have HBX := Lib.hid hbox5
  have HGB := Lib.hid hGB
  have HB35 := Lib.hid hb35
  have HW5 := Lib.hid hw5
  have HPG := Lib.hid hpg
  clear hkb hbox hbox5 hGB hb35 hb5 hb4 hw5 hpg hz5
  gi_wp2_with fail
  rw [← HPG.out, ← HW5.out]
  obtain ⟨sn0, hsn0⟩ : ∃ sn0, sn0 = (σ3 s).sn := ⟨_, rfl⟩
  obtain ⟨A0, hA0⟩ : ∃ A0, A0 = (σ3 s).A := ⟨_, rfl⟩
  obtain ⟨c0, hc0⟩ : ∃ c0, c0 = (σ3 s).c := ⟨_, rfl⟩
  have hS3 := HS3.out
  rw [← hsn0, ← hA0, ← hc0] at hS3
  clear hsn0 hA0 hc0
  have hS5 := hS3.new_ HB35.out
  have hrow5 := hS5.row_lt
  have hrs5 := hS5.row_ne (by decide)
  have hrp5 : AIn A0 (· ≠ pg) := by
    intro a ha e
    have := hS3.row_lt a ha
    have := HKB.out
    omega
  have hB5 : Below w.heap.size w w5 := HB3.out.trans (HB35.out.mono HB3.out.size)
  have c3 := HC3.out.new_ HB35.out
  have c5 := HC5.out.new_ HB35.out
  have c4 := HC4.out.new_ HB35.out
  have HSEQ := Lib.hid (seq_all_Sym kb s c0 sn0 A0 X w5 HBX.out hS5)
  have HS5 := Lib.hid hS5
  have HR5 := Lib.hid hrow5
  have HRS := Lib.hid hrs5
  have HRP := Lib.hid hrp5
  have HB5 := Lib.hid hB5
  have K3 := Lib.hid c3
  have K4 := Lib.hid c4
  have K5 := Lib.hid c5
  have HRW5 := Lib.hid (HRW.out.new_ HB35.out)
  have hpz5 : pg < w5.heap.size := by have := HZ5.out; omega
  have hsz5 : s < w5.heap.size := hS5.lt
  have hsg : s ≠ pg := by have := HKB.out; have := hS3.lt; omega
  have hwl : ∀ a, Aw = some a → a.block ≠ s ∧ a.block ≠ pg := fun a ha => ⟨HWS.out a ha, by have := (HAW.out a ha).2; have := HKB.out; omega⟩
  have HWL := Lib.hid hwl
  have h3g : n3 ≠ pg := by have := hS3.lt; have := HKB.out; omega
  have h5g : p5 ≠ pg := by have := HKB.out; omega
  have h4g : n4 ≠ pg := by have := hS3.lt; have := HKB.out; omega
  have hwz : w.heap.size ≤ w5.heap.size := hB5.size
  clear hS3 hS5 hrow5 hrs5 hrp5 hB5 c3 c4 c5 hwl
  obtain ⟨I, hI⟩ : ∃ I : List Sym → World → Prop, I = fun p W => ∃ sn A' c', SymSet W s sn A' c' (mw m X p).1 ∧ Srt cmpSym (mw m X p).1 ∧ ((mw m X p).1.length ≤ 40 + p.length) ∧ ((sn = true ∧ A' = A0) ∨ (sn = false ∧ AIn A' (w5.heap.size ≤ ·))) ∧
      (∃ Ag cg, Blk W pg 22 #[.slice Ag p.length cg] ∧ W.ownsRow 0 27 3 (.slice Ag p.length cg) p.length (p.flatMap Sym.cells) ∧ AIn Ag (w5.heap.size ≤ ·) ∧ (∀ a a', A' = some a → Ag = some a' → a.block ≠ a'.block)) ∧ Fr (fun k => k = s ∨ k = pg) w5 W := ⟨_, rfl⟩
  refine wpIn_range (w := w5) (by rfl) HSEQ.out.enter HSEQ.out.iter (fun x => by rfl) HSEQ.out.trans HSEQ.out.keep (fun W W1 h => keepsFrom_of_fr (HSEQ.out.mods W W1 h)) I (fun _ _ _ => False) ?_ (fun _ _ _ _ h => h.elim) ?_ ?_ ?_ ?_
  · subst hI
    rintro p X Y ⟨sn, A', c', g1, g2, g3, g4, ⟨Ag, cg, g5, g6, g9, g7⟩, g8⟩ hp
    exact ⟨sn, A', c', g1.priv hp, g2, g3, g4, ⟨Ag, cg, g5.priv hp, ownsRow_priv g6 hp, g9, g7⟩, g8.priv hp (Nat.le_refl _)⟩
  · intro W W1 hW hs
    subst hI
    refine ⟨true, A0, c0, hs.set_ (HS5.out.new_ hW) (by decide), HXS.out, by show X.length ≤ _; omega, .inl ⟨rfl, rfl⟩, ⟨none, 0, (HGB.out.new_ hW).fr hs.fr (fun h => hsg h.symm), owns_nil _ _ _ _, AIn.none_ _, fun _ _ _ h => by cases h⟩, (Fr.of_new hW).trans (hs.fr.mono (fun _ _ h => .inl h))⟩
  · intro lo pre x post W hx hlo hIW
    have hx' : X.length = pre.length + (post.length + 1) := by rw [hx]; simp
    clear hx
    rw [hI] at hIW
    obtain ⟨sn, A', c', g1, g2, g3, g4, ⟨Ag, cg, g5, g6, g9, g7⟩, g8⟩ := hIW
    have G9 := Lib.hid g9
    clear g9
    obtain ⟨L, hL⟩ : ∃ L, L = (mw m X pre).1 := ⟨_, rfl⟩
    rw [← hL] at g1 g2 g3
    have HLE := Lib.hid hL
    have HI := Lib.hid hI
    have G1 := Lib.hid g1
    have G2 := Lib.hid g2
    have G4 := Lib.hid g4
    have G5 := Lib.hid g5
    have G6 := Lib.hid g6
    have G7 := Lib.hid g7
    have G8 := Lib.hid g8
    have hWz := g8.size
    clear g1 g2 g4 g5 g6 g7 g8 hI hL
    simp only [encSym, Array.zip]
    gi_wp2_with fail
    refine ⟨KeepsFrom.alloc_ (keepsFrom_refl _ _) _, ?_⟩
    intro W3 hp3 hz3 rr hloop
    clear hloop rr
    have hB0 : Below W.heap.size W (W.alloc (.cells #[.int .i64 x.kind, .string x.text, .int .i64 x.n] 27)) := (Below.refl _ _).alloc (Nat.le_refl _) _
    have hx3 : Blk W3 W.heap.size 27 #[.int .i64 x.kind, .string x.text, .int .i64 x.n] := (Blk.new W _ _).priv hp3
    have hF3 : Fr (fun k => k = s ∨ k = pg ∨ w5.heap.size ≤ k) W W3 := (Fr.of_new hB0).trans ((Fr.of_priv hp3).mono (fun _ _ h => .inr (.inr h)))
    have hS3 := (G1.out.new_ hB0).priv hp3
    have hG3 := (G5.out.new_ hB0).priv hp3
    have hO3 := ownsRow_priv (owns_below G6.out hB0) hp3
    have hsz3 : W3.heap.size = W.heap.size + 1 := hz3.trans (by simp)
    have hFt : Fr (fun k => k = s ∨ k = pg ∨ w5.heap.size ≤ k) w5 W3 := (G8.out.mono (fun _ _ h => h.imp id .inl)).trans hF3
    have hk3 := K3.out.fr hFt (by have := K3.out.lt; omega)
    have hk5 := K5.out.fr hFt (by have := K5.out.lt; omega)
    have X3 := Lib.hid hx3
    have S3 := Lib.hid hS3
    have GB3 := Lib.hid hG3
    have O3 := Lib.hid hO3
    have F3 := Lib.hid hF3
    have FT := Lib.hid hFt
    have KK3 := Lib.hid hk3
    have KK5 := Lib.hid hk5
    have Z3 := Lib.hid hsz3
    have e8 : W3.cell? ⟨pg, 0, none⟩ = some (.slice Ag pre.length cg) := (hG3.cell 0).trans rfl
    have e3 : W3.cell? ⟨n3, 0, none⟩ = some (.slice B m.length d) := (hk3.cell 0).trans rfl
    have e5 : W3.cell? ⟨p5, 0, none⟩ = some (.pointer (some ⟨s, 0, none⟩)) := (hk5.cell 0).trans rfl
    have y0 : W3.cell? ⟨W.heap.size, 0, none⟩ = some (.int .i64 x.kind) := (hx3.cell 0).trans rfl
    have y1 : W3.cell? ⟨W.heap.size, 1, none⟩ = some (.string x.text) := (hx3.cell 1).trans rfl
    have y2 : W3.cell? ⟨W.heap.size, 2, none⟩ = some (.int .i64 x.n) := (hx3.cell 2).trans rfl
    have hbw : Below w.heap.size w W3 := HB5.out.trans (hFt.below hwz (fun k hk hmm => by have := HPG.out; have := HKB.out; omega))
    have HBW := Lib.hid hbw
    have hpl : pre.length + 1 ≤ 40 := by omega
    clear hx3 hF3 hS3 hG3 hO3 hsz3 hFt hk3 hk5 hp3 hz3 hB0 hbw hx'
    have hxlt : W.heap.size < W3.heap.size := World.block_lt_of_cell? _ _ y0
    have h5lt : p5 < W3.heap.size := World.block_lt_of_cell? _ _ e5
    have h3lt : n3 < W3.heap.size := World.block_lt_of_cell? _ _ e3
    have hglt : pg < W3.heap.size := World.block_lt_of_cell? _ _ e8
    by_cases hkm : pre.length < m.length
    · obtain ⟨y, hy⟩ : ∃ y, y = m[pre.length] := ⟨_, rfl⟩
      have hmr := HM.out.new_ HBW.out
      obtain ⟨gm, om, hBm, hgm, q0, q1, q2⟩ := sym_at hmr hkm
      subst hBm
      rw [← hy] at q0 q1 q2
      have b1 : (0 : Int) ≤ (pre.length : Int) := by omega
      have b2 : (pre.length : Int) < (m.length : Int) := by omega
      have HY := Lib.hid hy
      clear hy hmr
      gi_wp2_with fail
      refine wpIn_region_E (fun w9 => Below W3.heap.size W3 w9) [(0, 1), (1, 1), (2, 1), (3, 0), (4, 0), (5, 1), (6, 2)] (by kernel_rfl) (by kernel_rfl) (by rfl) (fun KK hKK => ?_)
      simp only [beside, List.filterMap_cons, List.filterMap_nil, List.getElem?_toArray, List.getElem?_cons_zero, List.getElem?_cons_succ, Option.map_some]
      repeat (first | (refine wpX_w ?_ (Or.inl ⟨by rfl, fun w9 => ?_⟩) ?_; rotate_left 1; go_simp; with_reducible rfl; simp only [Act.put, List.setIfInBounds_toArray, List.set_cons_zero, List.set_cons_succ]) | (refine wpX_l ?_ (((Below.refl _ _).drew)) (Or.inl ⟨by rfl, fun w9 hw9 => ?_⟩) ?_; rotate_left 1; obtain ⟨hc9, hf9⟩ := bcell hw9; go_simp; with_reducible rfl; simp only [Act.put, List.setIfInBounds_toArray, List.set_cons_zero, List.set_cons_succ]) | (refine wpX_w undef (Or.inr ⟨by rfl, rfl⟩) ?_; simp only [Act.put, List.setIfInBounds_toArray, List.set_cons_zero, List.set_cons_succ]))
      refine wpX_e (by kernel_rfl) (fun K9 hK9 => ?_)
      go_simp
      refine (put_Sym s c' sn A' L y W3.drew (S3.out.new_ (Below.refl _ _).drew) G2.out (by omega)).mono ?_
      rintro e w4 ⟨rfl, sn4, A4, c4, hS4, hF4, hM4⟩
      refine hK9 _ _ ?_
      clear hK9 K9
      refine wpX_nil ?_
      simp only [OnlyN_normal]
      refine hKK _ _ ?_
      clear hKK KK
      obtain ⟨L4, hL4⟩ : ∃ L4, L4 = put cmpSym L y := ⟨_, rfl⟩
      rw [← hL4] at hS4
      have hL4e : L4 = putIf m L pre.length := by
        unfold putIf
        rw [List.getElem?_eq_getElem hkm, ← HY.out]
        exact hL4
      have hs4 : Srt cmpSym L4 := by rw [hL4]; exact G2.out.put tc_sym y
      have hl4 : L4.length ≤ L.length + 1 := by rw [hL4]; exact length_put_le tc_sym G2.out y
      have hF34 : Fr (SetMod s sn A') W3 w4 := (Fr.refl _ W3).drew.trans hF4
      have hM34 : Moved W3 sn A' sn4 A4 := hM4
      clear hL4 hF4 hM4 q0 q1 q2 e3
      have hnx : ¬ SetMod s sn A' W.heap.size := by
        rintro (h | ⟨_, a, ha, h⟩)
        · omega
        · have := G1.out.row_lt a ha; omega
      have hng : ¬ SetMod s sn A' pg := by
        rintro (h | ⟨h0, a, ha, h⟩)
        · exact hsg h.symm
        · rcases G4.out with ⟨h1, _⟩ | ⟨_, h1⟩
          · rw [h1] at h0; cases h0
          · have := h1 a ha; omega
      have hnr : ∀ g, (Value.slice Ag pre.length cg).ownBlock = some g → ¬ SetMod s sn A' g := by
        intro g hg
        rcases Ag with _ | ag
        · cases hg
        · simp only [Value.ownBlock, Option.some.injEq] at hg
          have h9 := G9.out ag rfl
          rintro (h | ⟨_, a, ha, h⟩)
          · omega
          · exact G7.out a ag ha rfl (by omega)
      have x4 := X3.out.fr hF34 hnx
      have gb4 := GB3.out.fr hF34 hng
      have o4 := ownsRow_fr O3.out hF34 hnr
      have e54 : w4.cell? ⟨p5, 0, none⟩ = some (.pointer (some ⟨s, 0, none⟩)) := (hF34.cell (p := ⟨p5, 0, none⟩) h5lt (by
        rintro (h | ⟨h0, a, ha, h⟩)
        · simp only at h; omega
        · rcases G4.out with ⟨h1, _⟩ | ⟨_, h1⟩
          · rw [h1] at h0; cases h0
          · have := h1 a ha; have := K5.out.lt; simp only at h; omega)).trans e5
      have safe4 : (sn4 = true ∧ A4 = A0) ∨ (sn4 = false ∧ AIn A4 (w5.heap.size ≤ ·)) := by
        rcases hM34 with ⟨h1, h2⟩ | ⟨h1, g, hg, h2⟩
        · rw [h1, h2]; exact G4.out
        · refine .inr ⟨h1, ?_⟩
          rw [h2]; intro a ha; cases ha; have := F3.out.size; simp only; omega
      have ne4 : ∀ a a', A4 = some a → Ag = some a' → a.block ≠ a'.block := by
        rcases hM34 with ⟨h1, h2⟩ | ⟨h1, g, hg, h2⟩
        · rw [h2]; exact G7.out
        · intro a a' ha ha'
          rw [h2] at ha; cases ha
          have := (O3.out : W3.ownsRow 0 _ _ _ _ _) |> owns_lt
          rw [ha'] at this
          have := this a'.block rfl
          simp only; omega
      have nx4 : ¬ SetMod s sn4 A4 W.heap.size := by
        rintro (h | ⟨_, a, ha, h⟩)
        · omega
        · rcases hM34 with ⟨_, h2⟩ | ⟨_, g, hg, h2⟩
          · rw [h2] at ha; have := G1.out.row_lt a ha; omega
          · rw [h2] at ha; cases ha; simp only at h; omega
      have kf4 : KeepsFrom w5.heap.size W3 w4 := KeepsFrom.of_fr hF34 (fun k hk _ => by
        rcases hk with rfl | ⟨_, a, ha, rfl⟩
        · exact S3.out.blk.at_
        · exact owns_cells S3.out.row a.block (by rw [ha]; rfl)) _
      have fm4 : Fr (fun k => k = s ∨ k = pg ∨ w5.heap.size ≤ k) W w4 := F3.out.trans (hF34.mono (fun k _ hk => by
        rcases hk with rfl | ⟨h0, a, ha, rfl⟩
        · exact .inl rfl
        · rcases G4.out with ⟨h1, _⟩ | ⟨_, h1⟩
          · rw [h1] at h0; cases h0
          · exact .inr (.inr (h1 a ha))))
      have hz4 := hF34.size
      have y04 : w4.cell? ⟨W.heap.size, 0, none⟩ = some (.int .i64 x.kind) := (x4.cell 0).trans rfl
      have y14 : w4.cell? ⟨W.heap.size, 1, none⟩ = some (.string x.text) := (x4.cell 1).trans rfl
      have y24 : w4.cell? ⟨W.heap.size, 2, none⟩ = some (.int .i64 x.n) := (x4.cell 2).trans rfl
      have S4 := Lib.hid hS4
      have HS4 := Lib.hid hs4
      have X4 := Lib.hid x4
      have GB4 := Lib.hid gb4
      have O4 := Lib.hid o4
      have SF4 := Lib.hid safe4
      have NE4 := Lib.hid ne4
      have NX4 := Lib.hid nx4
      have KF4 := Lib.hid kf4
      have FM4 := Lib.hid fm4
      have HL4E := Lib.hid hL4e
      have hg4 : pg < w4.heap.size := by omega
      clear hS4 hs4 x4 gb4 o4 safe4 ne4 nx4 kf4 fm4 hnx hng hnr hF34 hM34 hL4e y0 y1 y2 e5 e8
      gi_wp2_with fail
      refine ⟨trivial, rfl, ?_⟩
      refine (callsIn_wide.2 (drop_Sym s c4 sn4 A4 L4 x w4 S4.out HS4.out (by omega))).mono ?_
      rintro e w6 ⟨rfl, sn6, A6, c6, hS6, hF6, hM6⟩
      have ng4 : ¬ SetMod s sn4 A4 pg := by
        rintro (h | ⟨h0, a, ha, h⟩)
        · exact hsg h.symm
        · rcases SF4.out with ⟨h1, _⟩ | ⟨_, h1⟩
          · rw [h1] at h0; cases h0
          · have := h1 a ha; omega
      have nr4 : ∀ g, (Value.slice Ag pre.length cg).ownBlock = some g → ¬ SetMod s sn4 A4 g := by
        intro g hg
        rcases Ag with _ | ag
        · cases hg
        · simp only [Value.ownBlock, Option.some.injEq] at hg
          have h9 := G9.out ag rfl
          rintro (h | ⟨_, a, ha, h⟩)
          · omega
          · exact NE4.out a ag ha rfl (by omega)
      have x6 := X4.out.fr hF6 NX4.out
      have gb6 := GB4.out.fr hF6 ng4
      have o6 := ownsRow_fr O4.out hF6 nr4
      have safe6 : (sn6 = true ∧ A6 = A0) ∨ (sn6 = false ∧ AIn A6 (w5.heap.size ≤ ·)) := by
        rcases hM6 with ⟨h1, h2⟩ | ⟨h1, g, hg, h2⟩
        · rw [h1, h2]; exact SF4.out
        · refine .inr ⟨h1, ?_⟩
          rw [h2]; intro a ha; cases ha; have := FM4.out.size; simp only; omega
      have ne6 : ∀ a a', A6 = some a → Ag = some a' → a.block ≠ a'.block := by
        rcases hM6 with ⟨h1, h2⟩ | ⟨h1, g, hg, h2⟩
        · rw [h2]; exact NE4.out
        · intro a a' ha ha'
          rw [h2] at ha; cases ha
          have := (O4.out : w4.ownsRow 0 _ _ _ _ _) |> owns_lt
          rw [ha'] at this
          have := this a'.block rfl
          simp only; omega
      have kf6 : KeepsFrom w5.heap.size W3 w6 := KF4.out.trans (KeepsFrom.of_fr hF6 (fun k hk _ => by
        rcases hk with rfl | ⟨_, a, ha, rfl⟩
        · exact S4.out.blk.at_
        · exact owns_cells S4.out.row a.block (by rw [ha]; rfl)) _)
      have fm6 : Fr (fun k => k = s ∨ k = pg ∨ w5.heap.size ≤ k) W w6 := FM4.out.trans (hF6.mono (fun k _ hk => by
        rcases hk with rfl | ⟨h0, a, ha, rfl⟩
        · exact .inl rfl
        · rcases SF4.out with ⟨h1, _⟩ | ⟨_, h1⟩
          · rw [h1] at h0; cases h0
          · exact .inr (.inr (h1 a ha))))
      have hz6 := hF6.size
      have y06 : w6.cell? ⟨W.heap.size, 0, none⟩ = some (.int .i64 x.kind) := (x6.cell 0).trans rfl
      have y16 : w6.cell? ⟨W.heap.size, 1, none⟩ = some (.string x.text) := (x6.cell 1).trans rfl
      have y26 : w6.cell? ⟨W.heap.size, 2, none⟩ = some (.int .i64 x.n) := (x6.cell 2).trans rfl
      have e86 : w6.cell? ⟨pg, 0, none⟩ = some (.slice Ag pre.length cg) := (gb6.cell 0).trans rfl
      have S6 := Lib.hid hS6
      have GB6 := Lib.hid gb6
      have O6 := Lib.hid o6
      have SF6 := Lib.hid safe6
      have NE6 := Lib.hid ne6
      have KF6 := Lib.hid kf6
      have FM6 := Lib.hid fm6
      have hg6 : pg < w6.heap.size := by omega
      have hr6 : (Value.slice Ag pre.length cg).ownBlock ≠ some pg := fun h => by
        rcases Ag with _ | ag
        · cases h
        · simp only [Value.ownBlock, Option.some.injEq] at h
          have := G9.out ag rfl; omega
      have HR6 := Lib.hid hr6
      clear hS6 hF6 hM6 ng4 nr4 x6 gb6 o6 safe6 ne6 kf6 fm6 y04 y14 y24 e54 hr6
      gi_wp2_with (gi_at_builtin; refine wpListIn_append_src (w6.alloc (.cells #[.int .i64 x.kind, .string x.text, .int .i64 x.n] 27)) rfl _ _ 22 rfl 27 i0 _ 3 32 Try.underlying22 hi0 hq0 hq1 hq2 rfl (by decide) (.slice Ag pre.length cg) pre.length (pre.flatMap Sym.cells) rfl (ownsRow_new O6.out ((Below.refl _ _).alloc (Nat.le_refl _) _)) (some ⟨w6.heap.size, 0, none⟩) 1 1 (Sym.cells x) rfl rfl (fun _ => ⟨_, rfl, World.news_of_block (heap_alloc_new _ _)⟩) (Sym.one x) (by unfold maxLen; omega) (by omega) ?_; intro v8 w8 hown hg hnil hat; obtain ⟨Ag8, cg8, rfl, _, _, _⟩ := own_form2 hown; have hb8 := (GB6.out.alloc (.cells #[.int .i64 x.kind, .string x.text, .int .i64 x.n] 27)).grown hg HR6.out; have p8 := (hb8.cell 0).trans rfl; have f8 := hb8.frozen 0; have GB8 := Lib.hid hb8; have HG := Lib.hid hg; have O8 := Lib.hid hown; have HAT := Lib.hid hat; clear hb8 hg hown hnil hat e86 y06 y16 y26)
      have hI := HI.out
      subst hI
      obtain ⟨w9, hw9⟩ : ∃ w9, w9 = w8.setCell ⟨pg, 0, none⟩ (.slice Ag8 (pre.length + 1) cg8) := ⟨_, rfl⟩
      rw [← hw9]
      have hrow : ∀ k, (Value.slice Ag pre.length cg).ownBlock = some k → w5.heap.size ≤ k := fun k hk => by
        rcases Ag with _ | ag
        · cases hk
        · simp only [Value.ownBlock, Option.some.injEq] at hk
          have := G9.out ag rfl; omega
      have hag8 : (∀ a, Ag8 = some a → w6.heap.size + 1 ≤ a.block) ∨ (∀ a, Ag8 = some a → ∃ ag, Ag = some ag ∧ ag.block = a.block) := by
        rcases Ag8 with _ | a8
        · exact .inl (fun a h => by cases h)
        · rcases HAT.out with h | h
          · right
            intro a ha; cases ha
            rcases Ag with _ | ag
            · simp [Value.ownBlock] at h
            · exact ⟨ag, rfl, by simpa [Value.ownBlock] using h.symm⟩
          · left
            intro a ha; cases ha
            simp [Value.ownBlock] at h; omega
      have fr9 : Fr (fun k => k = s ∨ k = pg ∨ w5.heap.size ≤ k) W w9 := by
        rw [hw9]
        exact ((FM6.out.alloc _).grown HG.out (fun k hk => .inl (.inr (.inr (hrow k hk))))).setCell (p := ⟨pg, 0, none⟩) (.inl (.inr (.inl rfl))) _
      have fs9 : Fr (fun k => k = pg ∨ (Value.slice Ag pre.length cg).ownBlock = some k) w6 w9 := by
        rw [hw9]
        exact (((Fr.refl _ w6).alloc _).grown HG.out (fun k hk => .inl (.inr hk))).setCell (p := ⟨pg, 0, none⟩) (.inl (.inl rfl)) _
      have s9 : SymSet w9 s sn6 A6 c6 (drop cmpSym L4 x) := by
        refine S6.out.fr fs9 ?_ ?_
        · rintro (h | h)
          · exact hsg h
          · have := hrow s h; omega
        · intro a ha
          rintro (h | h)
          · rcases SF6.out with ⟨_, h1⟩ | ⟨_, h1⟩
            · rw [h1] at ha; exact HRP.out a ha h
            · have := h1 a ha; omega
          · rcases hag : Ag with _ | ag
            · rw [hag] at h; cases h
            · rw [hag] at h
              simp only [Value.ownBlock, Option.some.injEq] at h
              exact NE6.out a ag ha hag h.symm
      have hz9 : pre.length + 1 = (pre ++ [x]).length := by simp
      refine ⟨?_, ⟨fr9.size, fun a ha hlt => fr9.block a.block hlt ?_⟩, sn6, A6, c6, ?_, ?_, ?_, SF6.out, ⟨Ag8, cg8, ?_, ?_, ?_, ?_⟩, G8.out.into fr9 (fun k hk => ?_)⟩
      · rw [hw9]
        exact KeepsFrom.set_ (KeepsFrom.grown_ (KeepsFrom.alloc_ KF6.out _) HG.out (fun k hk _ => owns_cells O3.out k hk)) _ _
      · rintro (h | h | h)
        · exact HRS.out a ha h
        · exact HRP.out a ha h
        · have := HR5.out a ha; omega
      · rw [mw_snoc, ← HLE.out, ← HL4E.out]; exact s9
      · rw [mw_snoc, ← HLE.out, ← HL4E.out]; exact HS4.out.drop x
      · rw [mw_snoc, ← HLE.out, ← HL4E.out]
        have := length_drop_le (cmp := cmpSym) L4 x
        simp; omega
      · rw [hw9, ← hz9]; exact GB8.out.set_ 0 _
      · rw [hw9, ← hz9, List.flatMap_append, List.flatMap_singleton]
        refine ownsRow_setCell_other (a := ⟨pg, 0, none⟩) O8.out (fun h => ?_) _
        rcases hA8 : Ag8 with _ | a8
        · rw [hA8] at h; cases h
        · rw [hA8] at h
          simp only [Value.ownBlock, Option.some.injEq] at h
          rcases hag8 with h1 | h1
          · have := h1 a8 hA8; omega
          · obtain ⟨ag, hag, he⟩ := h1 a8 hA8
            have := G9.out ag hag; omega
      · intro a ha
        rcases hag8 with h1 | h1
        · have := h1 a ha; have := FM6.out.size; omega
        · obtain ⟨ag, hag, he⟩ := h1 a ha
          have := G9.out ag hag; omega
      · intro a a' ha ha'
        rcases hag8 with h1 | h1
        · have := h1 a' ha'; have := S6.out.row_lt a ha; omega
        · obtain ⟨ag, hag, he⟩ := h1 a' ha'
          rw [← he]; exact NE6.out a ag ha hag
      · rcases hk with h | h | h
        · exact .inl (.inl h)
        · exact .inl (.inr h)
        · exact .inr h
    · obtain ⟨L4, hL4⟩ : ∃ L4, L4 = L := ⟨_, rfl⟩
      have hL4e : L4 = putIf m L pre.length := by
        unfold putIf
        rw [List.getElem?_eq_none (by omega)]
        exact hL4
      have hs4 : Srt cmpSym L4 := by rw [hL4]; exact G2.out
      have hl4 : L4.length ≤ L.length + 1 := by rw [hL4]; omega
      obtain ⟨w4, hw4⟩ : ∃ w4, w4 = W3 := ⟨_, rfl⟩
      obtain ⟨sn4, hsn4⟩ : ∃ sn4, sn4 = sn := ⟨_, rfl⟩
      obtain ⟨A4, hA4⟩ : ∃ A4, A4 = A' := ⟨_, rfl⟩
      obtain ⟨c4, hc4⟩ : ∃ c4, c4 = c' := ⟨_, rfl⟩
      have hS4 : SymSet w4 s sn4 A4 c4 L4 := by rw [hw4, hsn4, hA4, hc4, hL4]; exact S3.out
      have hF34 : Fr (SetMod s sn A') W3 w4 := by rw [hw4]; exact Fr.refl _ _
      have hM34 : Moved W3 sn A' sn4 A4 := .inl ⟨hsn4, hA4⟩
      gi_wp2_with fail
      rw [← hw4]
      clear hL4 hw4 hsn4 hA4 hc4 e3
      have hnx : ¬ SetMod s sn A' W.heap.size := by
        rintro (h | ⟨_, a, ha, h⟩)
        · omega
        · have := G1.out.row_lt a ha; omega
      have hng : ¬ SetMod s sn A' pg := by
        rintro (h | ⟨h0, a, ha, h⟩)
        · exact hsg h.symm
        · rcases G4.out with ⟨h1, _⟩ | ⟨_, h1⟩
          · rw [h1] at h0; cases h0
          · have := h1 a ha; omega
      have hnr : ∀ g, (Value.slice Ag pre.length cg).ownBlock = some g → ¬ SetMod s sn A' g := by
        intro g hg
        rcases Ag with _ | ag
        · cases hg
        · simp only [Value.ownBlock, Option.some.injEq] at hg
          have h9 := G9.out ag rfl
          rintro (h | ⟨_, a, ha, h⟩)
          · omega
          · exact G7.out a ag ha rfl (by omega)
      have x4 := X3.out.fr hF34 hnx
      have gb4 := GB3.out.fr hF34 hng
      have o4 := ownsRow_fr O3.out hF34 hnr
      have e54 : w4.cell? ⟨p5, 0, none⟩ = some (.pointer (some ⟨s, 0, none⟩)) := (hF34.cell (p := ⟨p5, 0, none⟩) h5lt (by
        rintro (h | ⟨h0, a, ha, h⟩)
        · simp only at h; omega
        · rcases G4.out with ⟨h1, _⟩ | ⟨_, h1⟩
          · rw [h1] at h0; cases h0
          · have := h1 a ha; have := K5.out.lt; simp only at h; omega)).trans e5
      have safe4 : (sn4 = true ∧ A4 = A0) ∨ (sn4 = false ∧ AIn A4 (w5.heap.size ≤ ·)) := by
        rcases hM34 with ⟨h1, h2⟩ | ⟨h1, g, hg, h2⟩
        · rw [h1, h2]; exact G4.out
        · refine .inr ⟨h1, ?_⟩
          rw [h2]; intro a ha; cases ha; have := F3.out.size; simp only; omega
      have ne4 : ∀ a a', A4 = some a → Ag = some a' → a.block ≠ a'.block := by
        rcases hM34 with ⟨h1, h2⟩ | ⟨h1, g, hg, h2⟩
        · rw [h2]; exact G7.out
        · intro a a' ha ha'
          rw [h2] at ha; cases ha
          have := (O3.out : W3.ownsRow 0 _ _ _ _ _) |> owns_lt
          rw [ha'] at this
          have := this a'.block rfl
          simp only; omega
      have nx4 : ¬ SetMod s sn4 A4 W.heap.size := by
        rintro (h | ⟨_, a, ha, h⟩)
        · omega
        · rcases hM34 with ⟨_, h2⟩ | ⟨_, g, hg, h2⟩
          · rw [h2] at ha; have := G1.out.row_lt a ha; omega
          · rw [h2] at ha; cases ha; simp only at h; omega
      have kf4 : KeepsFrom w5.heap.size W3 w4 := KeepsFrom.of_fr hF34 (fun k hk _ => by
        rcases hk with rfl | ⟨_, a, ha, rfl⟩
        · exact S3.out.blk.at_
        · exact owns_cells S3.out.row a.block (by rw [ha]; rfl)) _
      have fm4 : Fr (fun k => k = s ∨ k = pg ∨ w5.heap.size ≤ k) W w4 := F3.out.trans (hF34.mono (fun k _ hk => by
        rcases hk with rfl | ⟨h0, a, ha, rfl⟩
        · exact .inl rfl
        · rcases G4.out with ⟨h1, _⟩ | ⟨_, h1⟩
          · rw [h1] at h0; cases h0
          · exact .inr (.inr (h1 a ha))))
      have hz4 := hF34.size
      have y04 : w4.cell? ⟨W.heap.size, 0, none⟩ = some (.int .i64 x.kind) := (x4.cell 0).trans rfl
      have y14 : w4.cell? ⟨W.heap.size, 1, none⟩ = some (.string x.text) := (x4.cell 1).trans rfl
      have y24 : w4.cell? ⟨W.heap.size, 2, none⟩ = some (.int .i64 x.n) := (x4.cell 2).trans rfl
      have S4 := Lib.hid hS4
      have HS4 := Lib.hid hs4
      have X4 := Lib.hid x4
      have GB4 := Lib.hid gb4
      have O4 := Lib.hid o4
      have SF4 := Lib.hid safe4
      have NE4 := Lib.hid ne4
      have NX4 := Lib.hid nx4
      have KF4 := Lib.hid kf4
      have FM4 := Lib.hid fm4
      have HL4E := Lib.hid hL4e
      have hg4 : pg < w4.heap.size := by omega
      clear hS4 hs4 x4 gb4 o4 safe4 ne4 nx4 kf4 fm4 hnx hng hnr hF34 hM34 hL4e y0 y1 y2 e5 e8
      gi_wp2_with fail
      refine ⟨trivial, rfl, ?_⟩
      refine (callsIn_wide.2 (drop_Sym s c4 sn4 A4 L4 x w4 S4.out HS4.out (by omega))).mono ?_
      rintro e w6 ⟨rfl, sn6, A6, c6, hS6, hF6, hM6⟩
      have ng4 : ¬ SetMod s sn4 A4 pg := by
        rintro (h | ⟨h0, a, ha, h⟩)
        · exact hsg h.symm
        · rcases SF4.out with ⟨h1, _⟩ | ⟨_, h1⟩
          · rw [h1] at h0; cases h0
          · have := h1 a ha; omega
      have nr4 : ∀ g, (Value.slice Ag pre.length cg).ownBlock = some g → ¬ SetMod s sn4 A4 g := by
        intro g hg
        rcases Ag with _ | ag
        · cases hg
        · simp only [Value.ownBlock, Option.some.injEq] at hg
          have h9 := G9.out ag rfl
          rintro (h | ⟨_, a, ha, h⟩)
          · omega
          · exact NE4.out a ag ha rfl (by omega)
      have x6 := X4.out.fr hF6 NX4.out
      have gb6 := GB4.out.fr hF6 ng4
      have o6 := ownsRow_fr O4.out hF6 nr4
      have safe6 : (sn6 = true ∧ A6 = A0) ∨ (sn6 = false ∧ AIn A6 (w5.heap.size ≤ ·)) := by
        rcases hM6 with ⟨h1, h2⟩ | ⟨h1, g, hg, h2⟩
        · rw [h1, h2]; exact SF4.out
        · refine .inr ⟨h1, ?_⟩
          rw [h2]; intro a ha; cases ha; have := FM4.out.size; simp only; omega
      have ne6 : ∀ a a', A6 = some a → Ag = some a' → a.block ≠ a'.block := by
        rcases hM6 with ⟨h1, h2⟩ | ⟨h1, g, hg, h2⟩
        · rw [h2]; exact NE4.out
        · intro a a' ha ha'
          rw [h2] at ha; cases ha
          have := (O4.out : w4.ownsRow 0 _ _ _ _ _) |> owns_lt
          rw [ha'] at this
          have := this a'.block rfl
          simp only; omega
      have kf6 : KeepsFrom w5.heap.size W3 w6 := KF4.out.trans (KeepsFrom.of_fr hF6 (fun k hk _ => by
        rcases hk with rfl | ⟨_, a, ha, rfl⟩
        · exact S4.out.blk.at_
        · exact owns_cells S4.out.row a.block (by rw [ha]; rfl)) _)
      have fm6 : Fr (fun k => k = s ∨ k = pg ∨ w5.heap.size ≤ k) W w6 := FM4.out.trans (hF6.mono (fun k _ hk => by
        rcases hk with rfl | ⟨h0, a, ha, rfl⟩
        · exact .inl rfl
        · rcases SF4.out with ⟨h1, _⟩ | ⟨_, h1⟩
          · rw [h1] at h0; cases h0
          · exact .inr (.inr (h1 a ha))))
      have hz6 := hF6.size
      have y06 : w6.cell? ⟨W.heap.size, 0, none⟩ = some (.int .i64 x.kind) := (x6.cell 0).trans rfl
      have y16 : w6.cell? ⟨W.heap.size, 1, none⟩ = some (.string x.text) := (x6.cell 1).trans rfl
      have y26 : w6.cell? ⟨W.heap.size, 2, none⟩ = some (.int .i64 x.n) := (x6.cell 2).trans rfl
      have e86 : w6.cell? ⟨pg, 0, none⟩ = some (.slice Ag pre.length cg) := (gb6.cell 0).trans rfl
      have S6 := Lib.hid hS6
      have GB6 := Lib.hid gb6
      have O6 := Lib.hid o6
      have SF6 := Lib.hid safe6
      have NE6 := Lib.hid ne6
      have KF6 := Lib.hid kf6
      have FM6 := Lib.hid fm6
      have hg6 : pg < w6.heap.size := by omega
      have hr6 : (Value.slice Ag pre.length cg).ownBlock ≠ some pg := fun h => by
        rcases Ag with _ | ag
        · cases h
        · simp only [Value.ownBlock, Option.some.injEq] at h
          have := G9.out ag rfl; omega
      have HR6 := Lib.hid hr6
      clear hS6 hF6 hM6 ng4 nr4 x6 gb6 o6 safe6 ne6 kf6 fm6 y04 y14 y24 e54 hr6
      gi_wp2_with (gi_at_builtin; refine wpListIn_append_src (w6.alloc (.cells #[.int .i64 x.kind, .string x.text, .int .i64 x.n] 27)) rfl _ _ 22 rfl 27 i0 _ 3 32 Try.underlying22 hi0 hq0 hq1 hq2 rfl (by decide) (.slice Ag pre.length cg) pre.length (pre.flatMap Sym.cells) rfl (ownsRow_new O6.out ((Below.refl _ _).alloc (Nat.le_refl _) _)) (some ⟨w6.heap.size, 0, none⟩) 1 1 (Sym.cells x) rfl rfl (fun _ => ⟨_, rfl, World.news_of_block (heap_alloc_new _ _)⟩) (Sym.one x) (by unfold maxLen; omega) (by omega) ?_; intro v8 w8 hown hg hnil hat; obtain ⟨Ag8, cg8, rfl, _, _, _⟩ := own_form2 hown; have hb8 := (GB6.out.alloc (.cells #[.int .i64 x.kind, .string x.text, .int .i64 x.n] 27)).grown hg HR6.out; have p8 := (hb8.cell 0).trans rfl; have f8 := hb8.frozen 0; have GB8 := Lib.hid hb8; have HG := Lib.hid hg; have O8 := Lib.hid hown; have HAT := Lib.hid hat; clear hb8 hg hown hnil hat e86 y06 y16 y26)
      have hI := HI.out
      subst hI
      obtain ⟨w9, hw9⟩ : ∃ w9, w9 = w8.setCell ⟨pg, 0, none⟩ (.slice Ag8 (pre.length + 1) cg8) := ⟨_, rfl⟩
      rw [← hw9]
      have hrow : ∀ k, (Value.slice Ag pre.length cg).ownBlock = some k → w5.heap.size ≤ k := fun k hk => by
        rcases Ag with _ | ag
        · cases hk
        · simp only [Value.ownBlock, Option.some.injEq] at hk
          have := G9.out ag rfl; omega
      have hag8 : (∀ a, Ag8 = some a → w6.heap.size + 1 ≤ a.block) ∨ (∀ a, Ag8 = some a → ∃ ag, Ag = some ag ∧ ag.block = a.block) := by
        rcases Ag8 with _ | a8
        · exact .inl (fun a h => by cases h)
        · rcases HAT.out with h | h
          · right
            intro a ha; cases ha
            rcases Ag with _ | ag
            · simp [Value.ownBlock] at h
            · exact ⟨ag, rfl, by simpa [Value.ownBlock] using h.symm⟩
          · left
            intro a ha; cases ha
            simp [Value.ownBlock] at h; omega
      have fr9 : Fr (fun k => k = s ∨ k = pg ∨ w5.heap.size ≤ k) W w9 := by
        rw [hw9]
        exact ((FM6.out.alloc _).grown HG.out (fun k hk => .inl (.inr (.inr (hrow k hk))))).setCell (p := ⟨pg, 0, none⟩) (.inl (.inr (.inl rfl))) _
      have fs9 : Fr (fun k => k = pg ∨ (Value.slice Ag pre.length cg).ownBlock = some k) w6 w9 := by
        rw [hw9]
        exact (((Fr.refl _ w6).alloc _).grown HG.out (fun k hk => .inl (.inr hk))).setCell (p := ⟨pg, 0, none⟩) (.inl (.inl rfl)) _
      have s9 : SymSet w9 s sn6 A6 c6 (drop cmpSym L4 x) := by
        refine S6.out.fr fs9 ?_ ?_
        · rintro (h | h)
          · exact hsg h
          · have := hrow s h; omega
        · intro a ha
          rintro (h | h)
          · rcases SF6.out with ⟨_, h1⟩ | ⟨_, h1⟩
            · rw [h1] at ha; exact HRP.out a ha h
            · have := h1 a ha; omega
          · rcases hag : Ag with _ | ag
            · rw [hag] at h; cases h
            · rw [hag] at h
              simp only [Value.ownBlock, Option.some.injEq] at h
              exact NE6.out a ag ha hag h.symm
      have hz9 : pre.length + 1 = (pre ++ [x]).length := by simp
      refine ⟨?_, ⟨fr9.size, fun a ha hlt => fr9.block a.block hlt ?_⟩, sn6, A6, c6, ?_, ?_, ?_, SF6.out, ⟨Ag8, cg8, ?_, ?_, ?_, ?_⟩, G8.out.into fr9 (fun k hk => ?_)⟩
      · rw [hw9]
        exact KeepsFrom.set_ (KeepsFrom.grown_ (KeepsFrom.alloc_ KF6.out _) HG.out (fun k hk _ => owns_cells O3.out k hk)) _ _
      · rintro (h | h | h)
        · exact HRS.out a ha h
        · exact HRP.out a ha h
        · have := HR5.out a ha; omega
      · rw [mw_snoc, ← HLE.out, ← HL4E.out]; exact s9
      · rw [mw_snoc, ← HLE.out, ← HL4E.out]; exact HS4.out.drop x
      · rw [mw_snoc, ← HLE.out, ← HL4E.out]
        have := length_drop_le (cmp := cmpSym) L4 x
        simp; omega
      · rw [hw9, ← hz9]; exact GB8.out.set_ 0 _
      · rw [hw9, ← hz9, List.flatMap_append, List.flatMap_singleton]
        refine ownsRow_setCell_other (a := ⟨pg, 0, none⟩) O8.out (fun h => ?_) _
        rcases hA8 : Ag8 with _ | a8
        · rw [hA8] at h; cases h
        · rw [hA8] at h
          simp only [Value.ownBlock, Option.some.injEq] at h
          rcases hag8 with h1 | h1
          · have := h1 a8 hA8; omega
          · obtain ⟨ag, hag, he⟩ := h1 a8 hA8
            have := G9.out ag hag; omega
      · intro a ha
        rcases hag8 with h1 | h1
        · have := h1 a ha; have := FM6.out.size; omega
        · obtain ⟨ag, hag, he⟩ := h1 a ha
          have := G9.out ag hag; omega
      · intro a a' ha ha'
        rcases hag8 with h1 | h1
        · have := h1 a' ha'; have := S6.out.row_lt a ha; omega
        · obtain ⟨ag, hag, he⟩ := h1 a' ha'
          rw [← he]; exact NE6.out a ag ha hag
      · rcases hk with h | h | h
        · exact .inl (.inl h)
        · exact .inl (.inr h)
        · exact .inr h
  · intro Dd W hDd hIW hK
    subst hI
    obtain ⟨sn, A', c', g1, g2, g3, _, ⟨Ag, cg, g5, g6, _, _⟩, g8⟩ := hIW
    obtain ⟨M, hM⟩ : ∃ M, M = (mw m X X).1 := ⟨_, rfl⟩
    rw [← hM] at g1 g2 g3
    have G1 := Lib.hid g1
    have HME := Lib.hid hM
    have GR := Lib.hid (ownsRow_rd Sym.cells_length g6)
    have WR := Lib.hid (HRW5.out.fr g8 (fun a ha hk => hk.elim (HWL.out a ha).1 (HWL.out a ha).2))
    have k3 := K3.out.fr g8 (by rintro (h | h) <;> omega)
    have k4 := K4.out.fr g8 (by rintro (h | h) <;> omega)
    have kbx : W.cell? ⟨kb, 0, none⟩ = some (.pointer (some ⟨s, 0, none⟩)) := (g8.cell (p := ⟨kb, 0, none⟩) (World.block_lt_of_cell? _ _ HBX.out) (by have := HKB.out; rintro (h | h) <;> simp only at h <;> omega)).trans HBX.out
    have hbw : Below w.heap.size w W := HB5.out.trans (g8.below hwz (fun k hk hmm => by have := HPG.out; have := HKB.out; omega))
    have e8 := (g5.cell 0).trans rfl
    have hWz := g8.size
    have HK := Lib.hid hK
    have K3' := Lib.hid k3
    have K4' := Lib.hid k4
    have KBX := Lib.hid kbx
    have HBW := Lib.hid hbw
    have hDW : Dd < W.heap.size := (Array.getElem?_eq_some_iff.1 hK).1
    have hsW := g1.lt
    clear g1 g2 g5 g6 g8 hM hK k3 k4 kbx hbw
    gi_wp2_with fail
    refine ⟨trivial, rfl, ?_⟩
    refine (callsIn_wide.2 (syms_is Ag Aw cg cw X X W GR.out WR.out)).mono ?_
    rintro e Wa ⟨rfl, hba⟩
    rw [decide_eq_true rfl]
    have WRa := Lib.hid (WR.out.new_ hba)
    have HBa := Lib.hid hba
    clear hba e8
    gi_wp2_with fail
    gi_loopw [10, 11] (fun v t wr => ∃ i : Nat, t = .int .i64 i ∧ i ≤ X.length ∧ Tmp Wa.heap.size wr v (puts cmpSym [] (X.take i)) ∧ Below Wa.heap.size Wa wr) (fun v t wr => X.length - (intOf t).toNat)
    case atStart => exact ⟨0, rfl, Nat.zero_le _, Tmp.nil _ _, Below.refl _ _⟩
    case round =>
      obtain ⟨i, rfl, hi, ho, hB⟩ := hrel
      have HO := Lib.hid ho
      have HB := Lib.hid hB
      clear ho hB
      by_cases hlt : i < X.length
      · obtain ⟨x, hx⟩ : ∃ x, x = X[i] := ⟨_, rfl⟩
        obtain ⟨g, off, hAw, hg, q0, q1, q2⟩ := sym_at (WRa.out.new_ HB.out) hlt
        rw [← hx] at q0 q1 q2
        subst hAw
        have hzr := HB.out.size
        have hs1 := Srt.puts tc_sym (X.take i) (Srt.nil (cmp := cmpSym))
        have hl1 := length_puts_le tc_sym (X.take i) (Srt.nil (cmp := cmpSym))
        have e1 := take_snoc hlt
        rw [← hx] at e1
        have htl : (X.take i).length = i := by rw [List.length_take]; omega
        rw [htl] at hl1
        simp only [List.length_nil, Nat.zero_add] at hl1
        have HE1 := Lib.hid e1
        have HS1 := Lib.hid hs1
        have b1 : (0 : Int) ≤ (i : Int) := by omega
        have b2 : (i : Int) < (X.length : Int) := by omega
        clear hx e1 hs1 htl
        gi_wp2_with fail
        refine ⟨trivial, rfl, ?_⟩
        refine (callsIn_wide.2 (tput_is x HO.out HS1.out (by omega) hzr)).mono ?_
        rintro e W1 ⟨vo', rfl, ho, hB1⟩
        have HO' := Lib.hid ho
        have HBt := Lib.hid (HB.out.trans (hB1.mono hzr))
        clear ho hB1 q0 q1 q2
        gi_wp2_with fail
        go_roundw
        case rel => exact ⟨i + 1, by go_num, by omega, by rw [HE1.out, puts_snoc]; exact HO'.out, HBt.out⟩
        case measure => simp [intOf] <;> omega
      · have hie : i = X.length := by omega
        subst hie
        have hte : X.take X.length = X := List.take_length
        have HOa := HO.out
        rw [hte] at HOa
        have hpx : puts cmpSym [] X = X := sym_ext (Srt.puts tc_sym _ Srt.nil) HXS.out (fun y => by simp only [mem_puts_iff, List.not_mem_nil, false_or])
        rw [hpx] at HOa
        have HO1 := Lib.hid HOa
        clear HOa hte hpx HO
        obtain ⟨Wb, rfl⟩ : ∃ Wb, Wb = wr := ⟨_, rfl⟩
        have hzb := HB.out.size
        gi_wp2_with fail
        gi_loopw [10, 12] (fun v t wr => ∃ i : Nat, t = .int .i64 i ∧ i ≤ X.length ∧ Tmp Wa.heap.size wr v (mw m X (X.take i)).1 ∧ Srt cmpSym (mw m X (X.take i)).1 ∧ (mw m X (X.take i)).1.length ≤ 40 + i ∧ Below Wb.heap.size Wb wr) (fun v t wr => X.length - (intOf t).toNat)
        case atStart => exact ⟨0, rfl, Nat.zero_le _, HO1.out, HXS.out, by show X.length ≤ _; omega, Below.refl _ _⟩
        case round =>
          obtain ⟨i, rfl, hi2, ho, hs2, hl2, hB2⟩ := hrel
          have HO := Lib.hid ho
          have HS2 := Lib.hid hs2
          have HB2 := Lib.hid hB2
          clear ho hs2 hB2
          have hzr : Wa.heap.size ≤ wr.heap.size := by have := HB2.out.size; omega
          have hBall : Below W.heap.size W wr := (HBa.out.trans (HB.out.mono HBa.out.size)).trans (HB2.out.mono (by have := HBa.out.size; omega))
          have HBL := Lib.hid hBall
          have e3 : wr.cell? ⟨n3, 0, none⟩ = some (.slice B m.length d) := ((K3'.out.new_ hBall).cell 0).trans rfl
          clear hBall
          by_cases hlt2 : i < X.length
          · obtain ⟨x, hx⟩ : ∃ x, x = X[i] := ⟨_, rfl⟩
            obtain ⟨g, off, hAw, hg, q0, q1, q2⟩ := sym_at ((WRa.out.new_ HB.out).new_ HB2.out) hlt2
            rw [← hx] at q0 q1 q2
            subst hAw
            have e1 := take_snoc hlt2
            rw [← hx] at e1
            have htl : (X.take i).length = i := by rw [List.length_take]; omega
            have hmw : (mw m X (X.take (i + 1))).1 = drop cmpSym (putIf m (mw m X (X.take i)).1 i) x := by rw [e1, mw_snoc, htl]
            obtain ⟨L, hL⟩ : ∃ L, L = (mw m X (X.take i)).1 := ⟨_, rfl⟩
            rw [← hL] at hl2 hmw
            have hO := HO.out
            have hS2 := HS2.out
            rw [← hL] at hO hS2
            have HOL := Lib.hid hO
            have HSL := Lib.hid hS2
            have HMW := Lib.hid hmw
            have b1 : (0 : Int) ≤ (i : Int) := by omega
            have b2 : (i : Int) < (X.length : Int) := by omega
            clear hx e1 htl hO hS2 hmw hL HO HS2
            by_cases him : i < m.length
            · obtain ⟨y, hy⟩ : ∃ y, y = m[i] := ⟨_, rfl⟩
              obtain ⟨gm, om, hBm, hgm, r0, r1, r2⟩ := sym_at (HM.out.new_ (HBW.out.trans (HBL.out.mono HBW.out.size))) him
              rw [← hy] at r0 r1 r2
              subst hBm
              have hpi : putIf m L i = put cmpSym L y := by unfold putIf; rw [List.getElem?_eq_getElem him, ← hy]
              have HPI := Lib.hid hpi
              have b3 : (i : Int) < (m.length : Int) := by omega
              clear hy hpi
              gi_wp2_with fail
              refine ⟨trivial, rfl, ?_⟩
              refine (callsIn_wide.2 (tput_is y HOL.out HSL.out (by omega) hzr)).mono ?_
              rintro e W1 ⟨vo', rfl, ho, hB1⟩
              have hz1 := hB1.size
              obtain ⟨hc1, _⟩ := bcell hB1
              have s0 := (hc1 g _ hg).trans q0
              have s1 := (hc1 g _ hg).trans q1
              have s2 := (hc1 g _ hg).trans q2
              have HO' := Lib.hid ho
              have HBt := Lib.hid (HB2.out.trans (hB1.mono HB2.out.size))
              have hlp := length_put_le tc_sym HSL.out y
              clear ho hB1 hc1 q0 q1 q2 r0 r1 r2 e3
              gi_wp2_with fail
              refine ⟨trivial, rfl, ?_⟩
              refine (callsIn_wide.2 (twithout_is x HO'.out (by omega) (Nat.le_trans hzr hz1))).mono ?_
              rintro e W2 ⟨v2', rfl, ho, hB1⟩
              have HO2 := Lib.hid ho
              have HBu := Lib.hid (HBt.out.trans (hB1.mono HBt.out.size))
              have hld := length_drop_le (cmp := cmpSym) (put cmpSym L y) x
              clear ho hB1 s0 s1 s2
              gi_wp2_with fail
              go_roundw
              case rel => exact ⟨i + 1, by go_num, by omega, by rw [HMW.out, HPI.out]; exact HO2.out, by rw [HMW.out, HPI.out]; exact (HSL.out.put tc_sym y).drop x, by rw [HMW.out, HPI.out]; omega, HBu.out⟩
              case measure => simp [intOf] <;> omega
            · have hpi : putIf m L i = L := by unfold putIf; rw [List.getElem?_eq_none (by omega)]
              have HPI := Lib.hid hpi
              clear hpi
              gi_wp2_with fail
              refine ⟨trivial, rfl, ?_⟩
              refine (callsIn_wide.2 (twithout_is x HOL.out (by omega) hzr)).mono ?_
              rintro e W2 ⟨v2', rfl, ho, hB1⟩
              have HO2 := Lib.hid ho
              have HBu := Lib.hid (HB2.out.trans (hB1.mono HB2.out.size))
              have hld := length_drop_le (cmp := cmpSym) L x
              clear ho hB1 q0 q1 q2 e3
              gi_wp2_with fail
              go_roundw
              case rel => exact ⟨i + 1, by go_num, by omega, by rw [HMW.out, HPI.out]; exact HO2.out, by rw [HMW.out, HPI.out]; exact HSL.out.drop x, by rw [HMW.out, HPI.out]; omega, HBu.out⟩
              case measure => simp [intOf] <;> omega
          · have hie2 : i = X.length := by omega
            subst hie2
            have hte : X.take X.length = X := List.take_length
            have HOa := HO.out
            rw [hte, ← HME.out] at HOa
            obtain ⟨Ar, cr, rfl, hrr, hAr⟩ := HOa
            have HRR := Lib.hid hrr
            have HAR := Lib.hid hAr
            have hSr := G1.out.new_ HBL.out
            have hq := seq_all_Sym kb s c' sn A' M wr ((HBL.out.cell (World.block_lt_of_cell? _ _ KBX.out)).trans KBX.out) hSr
            have HQ := Lib.hid hq
            clear hrr hAr hSr hq HO hte e3
            gi_wp2_with fail
            refine ⟨trivial, rfl, ?_⟩
            refine (callsIn_wide.2 (list_Sym _ _ M wr _ _ HQ.out (by omega))).mono ?_
            rintro e W5 ⟨A5, c5, rfl, hown5, _, Wx, Wy, hbx, hsx, hby⟩
            have hF5 : Fr (· = s) wr W5 := ((Fr.of_new (M := (· = s)) hbx).trans (hsx.fr.mono (fun _ _ h => h))).into (Fr.of_below hby) (fun i hi => .inr hi)
            have HR5 := Lib.hid (ownsRow_rd Sym.cells_length hown5)
            have hsA : s < Wa.heap.size := by have := HBa.out.size; omega
            have HRR5 := Lib.hid (HRR.out.fr hF5 (fun a ha h => by have := (HAR.out a ha).1; omega))
            have HF5 := Lib.hid hF5
            clear hown5 hbx hsx hby hF5
            gi_wp2_with fail
            refine ⟨trivial, rfl, ?_⟩
            refine (callsIn_wide.2 (syms_is A5 Ar c5 cr M M W5 HR5.out HRR5.out)).mono ?_
            rintro e W6 ⟨rfl, hb6⟩
            rw [decide_eq_true rfl]
            have HF6 := Lib.hid (HF5.out.trans (Fr.of_new hb6))
            clear hb6
            gi_wp2_with fail
            refine ⟨trivial, rfl, ?_⟩
            refine (callsIn_wide.2 (wakes_is W6)).mono ?_
            rintro e W7 ⟨rfl, hb7⟩
            have hF7 : Fr (· = s) W W7 := ((Fr.of_new HBL.out).trans HF6.out).trans (Fr.of_new hb7)
            have k7 := K4'.out.fr hF7 (by omega)
            have c7 : W7.cell? ⟨n4, 0, none⟩ = some (.bool false) := (k7.cell 0).trans rfl
            have f7 := k7.frozen 0
            have d7 : W7.heap[Dd]? = some (.deferred (some [])) := (hF7.block Dd hDW (by omega)).trans HK.out
            have b7 : Below w.heap.size w W7 := HBW.out.trans (hF7.below HBW.out.size (fun k hk e => by omega))
            have D7 := Lib.hid d7
            have B7 := Lib.hid b7
            clear hF7 k7 d7 b7 hb7
            gi_wp2_with fail
            have hne : n4 ≠ Dd := by omega
            refine ⟨by simp, .inl ⟨_, _, rfl, run_takeDeferred (((Below.heap_setCell _ _ _ _ (by simp only; omega)).trans D7.out)), ?_⟩⟩
            refine ⟨.bool true, mean_ret rfl (?_ : _), rfl, ?_⟩
            · exact (World.cell?_of_block (World.putObj_heap_other hne)).trans (World.cell?_setCell_same W7 _ _ c7)
            · have h8 : Below w.heap.size w (W7.setCell ⟨n4, 0, none⟩ (.bool true)) := B7.out.setCell (by simp only; omega) _
              exact Below.priv' h8 ((Priv.refl _ _).putObj (B := w.heap.size) (by omega) ((Below.heap_setCell _ _ _ _ (by simp only; omega)).trans D7.out) rfl _) (Nat.le_refl _) h8.size
  · intro Dd c pre post W _ _ h
    exact h.elim
end Go.Proofs.Ythhhhjllpejpgaa
