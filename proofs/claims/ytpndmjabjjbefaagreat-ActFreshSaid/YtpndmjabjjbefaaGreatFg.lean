/-
  Texts put together: ActDo2.
-/
import Derived.Test.YtpndmjabjjbefaaGreatFf
import Derived.Maps.RangeWalk
namespace Go.Proofs.YtpndmjabjjbefaaGreat
open Go.RowKit Go.Shelf
attribute [local go_sem] Oper.semAt_some
def DoTo (D : Nat → Prop) (w : World) (T : TB) (r : (List PrefT × List BindT × Int) × List Sym) (e : Ending) (W' : World) : Prop :=
 ∃ A c A' c' D', e = .returned (.tuple #[.slice A r.1.1.length c, .slice A' r.1.2.1.length c', .int .i64 r.1.2.2]) ∧ W'.ownsRow 0 74 16 (.slice A r.1.1.length c) r.1.1.length (r.1.1.flatMap PrefT.cells) ∧
   W'.ownsRow 0 36 4 (.slice A' r.1.2.1.length c') r.1.2.1.length (r.1.2.1.flatMap BindT.cells) ∧ (∀ k, D k → D' k) ∧ AIn A (fun k => D' k ∧ w.heap.size ≤ k) ∧ AIn A' (fun k => D' k ∧ w.heap.size ≤ k) ∧ GT D' W' T r.2 ∧ Fr (fun j => ¬ D j) w W'
theorem DoTo.bad {D D' : Nat → Prop} {w W' : World} {T : TB} {r : (List PrefT × List BindT × Int) × List Sym} {e : Int} {L : List Sym} (hr : r = (([], [], e), L)) (hD : ∀ k, D k → D' k) (h : GT D' W' T L) (hF : Fr (fun j => ¬ D j) w W') :
 DoTo D w T r (.returned (.tuple #[.slice none 0 0, .slice none 0 0, .int .i64 e])) W' := by
 subst hr
 exact ⟨none, 0, none, 0, D', rfl, owns_nil _ _ _ _, owns_nil _ _ _ _, hD, AIn.none_ _, AIn.none_ _, h, hF⟩
theorem DoTo.bad0 {D : Nat → Prop} {w W' : World} {T : TB} {r : (List PrefT × List BindT × Int) × List Sym} {e : Int} {L : List Sym} (hr : r = (([], [], e), L)) (h : GT D w T L) (hb : Below w.heap.size w W') :
 DoTo D w T r (.returned (.tuple #[.slice none 0 0, .slice none 0 0, .int .i64 e])) W' := DoTo.bad hr (fun _ h => h) (h.below hb) (Fr.of_new hb)
theorem shapeP_acts {n : Nat} {p : ProdT} (h : (shapeP n p).2 = 0) : ∀ a ∈ p.acts, actB a = true := by
 have h0 := h
 unfold shapeP at h
 by_cases h1 : isWord p.name = false
 · rw [if_pos h1] at h; simp at h
 rw [if_neg h1] at h
 by_cases h2 : (flatC n 0 p.conds).length < 1 ∨ 16 < (flatC n 0 p.conds).length ∨ p.acts.length < 1 ∨ 16 < p.acts.length
 · rw [if_pos h2] at h; simp at h
 rw [if_neg h2] at h
 cases hf : (flatC n 0 p.conds).findIdx? (fun c => decide (condE c.2 c.1 ≠ 0)) with
 | some k =>
   obtain ⟨hk, h3, _⟩ := List.findIdx?_eq_some_iff_getElem.1 hf
   rw [hf] at h
   simp only [List.getElem?_eq_getElem hk] at h
   simp only [decide_eq_true_eq] at h3
   exact absurd h h3
 | none =>
   rw [hf] at h
   cases hg : p.acts.findIdx? (fun a => !actB a) with
   | some i => rw [hg] at h; simp at h
   | none =>
     rw [List.findIdx?_eq_none_iff] at hg
     intro a ha
     simpa using hg a ha
theorem atomB_var {a : AtomT} (h : atomB a = true) (hv : ¬ a.var.toList = []) : isWord a.var = true := by
 unfold atomB at h
 rw [if_neg hv] at h
 simp only [Bool.and_eq_true] at h
 exact h.1
theorem needs_words {a : ActT} (h : actB a = true) : ∀ v ∈ needsA a, ¬ v.toList = [] → isWord v = true := by
 unfold actB at h
 by_cases h1 : isWord a.id = false ∨ atomB a.attr = false ∨ termB a.value = false ∨ a.pref < 1 ∨ 10 < a.pref
 · rw [if_pos h1] at h; cases h
 rw [if_neg h1] at h
 have hid : isWord a.id = true := by
  cases hh : isWord a.id
  · exact absurd (.inl hh) h1
  · rfl
 have hterm : termB a.value = true := by
  cases hh : termB a.value
  · exact absurd (.inr (.inr (.inl hh))) h1
  · rfl
 have hva : atomB a.value.a = true := by
  unfold termB at hterm
  by_cases h2 : a.value.op < 0 ∨ 3 < a.value.op ∨ atomB a.value.a = false
  · rw [if_pos h2] at hterm; cases hterm
  · cases hh : atomB a.value.a
    · exact absurd (.inr (.inr hh)) h2
    · rfl
 intro v hv hne
 simp only [needsA, List.mem_cons, List.not_mem_nil, or_false] at hv
 rcases hv with rfl | rfl | rfl
 · exact hid
 · by_cases ho : a.value.op = 0
   · rw [if_pos ho] at hne ⊢
     exact atomB_var hva hne
   · rw [if_neg ho] at hne
     exact absurd (show (⟨#[]⟩ : ByteArray).toList = [] by kernel_rfl) hne
 · by_cases ho : otherB a.pref = true
   · rw [if_pos ho] at h
     exact atomB_var h hne
   · rw [if_neg ho] at h
     unfold emptyB at h
     simp only [Bool.and_eq_true, decide_eq_true_eq] at h
     exact absurd h.1 hne
theorem freshErr_cons (room : Int) (L : List Sym) (v : ByteArray) (r : List ByteArray) : freshErr room L (v :: r) = if freshE room L (greatV v) ≠ 0 then freshE room L (greatV v) else freshErr room (freshL room L (greatV v)) r := rfl
theorem doV_err {room : Int} {l : List BindT} {acts : List ActT} {L : List Sym} {e : Int} (h : freshErr room L (doNews l acts) = e) (h0 : ¬ e = 0) : doV room l acts L = (([], [], e), L) := by
 unfold doV; rw [h, if_pos h0]
theorem doV_put {room : Int} {l : List BindT} {acts : List ActT} {L : List Sym} {e : Int} (h : freshErr room L (doNews l acts) = 0) (h1 : putCode room (doBinds room l acts L).2 (acts.flatMap (putA (doBinds room l acts L).1)) = e) (h0 : ¬ e = 0) : doV room l acts L = (([], [], e), L) := by
 unfold doV; rw [h, if_neg (by simp), h1, if_pos h0]
def putAll (room : Int) (L : List Sym) (l : List BindT) : List Sym := (l.map BindT.sym).foldl (fun L s => putList room L [s]) L
theorem putAll_snoc (room : Int) (L : List Sym) (l : List BindT) (y : BindT) : putAll room L (l ++ [y]) = putList room (putAll room L l) [y.sym] := by unfold putAll; rw [List.map_append, List.foldl_append]; rfl
theorem newsV_len : ∀ (vs : List ByteArray) (h : List BindT), (newsV h vs).length ≤ vs.length
 | [], h => by rw [newsV_nil]; exact Nat.le_refl _
 | u :: vs, h => by
   rw [newsV]
   split
   · have := newsV_len vs h; simp; omega
   · have := newsV_len vs (h ++ [mkB u]); simp; omega
theorem needs_all : ∀ acts : List ActT, (acts.flatMap needsA).length = 3 * acts.length
 | [] => rfl
 | a :: r => by rw [List.flatMap_cons, List.length_append, needs_len, needs_all r]; simp; omega
theorem news_len (l : List BindT) (acts : List ActT) : (doNews l acts).length ≤ 3 * acts.length := by
 have := newsV_len (acts.flatMap needsA) l
 rw [needs_all] at this
 exact this
theorem info_Pref : (Tryz.prog.info? 74).map (fun i => (i.zero, i.size, i.bytes)) = some (some (.agg #[.int .i64 0, .string ⟨#[]⟩, .int .i64 0, .int .i64 0, .string ⟨#[]⟩, .int .i64 0, .int .i64 0, .string ⟨#[]⟩, .int .i64 0, .int .i64 0, .string ⟨#[]⟩, .int .i64 0, .int .i64 0, .bool false, .int .i64 0, .int .i64 0]), 16, 160) := by kernel_rfl
theorem frsAll_err {room : Int} {l : List BindT} {L : List Sym} {pre : List ByteArray} (h : freshErr room L pre = freshErr room (frsAll room l L pre).2 []) : freshErr room L pre = 0 := h
theorem news_mem : ∀ (vs : List ByteArray) (h : List BindT) (v : ByteArray), v ∈ newsV h vs → v ∈ vs ∧ ¬ v.toList = []
 | [], h, v, hv => by rw [newsV_nil] at hv; cases hv
 | u :: vs, h, v, hv => by
   by_cases hc : (getB h u).2 = true ∨ u.toList = []
   · rw [newsV_skip hc] at hv
     have := news_mem vs h v hv
     exact ⟨List.mem_cons_of_mem _ this.1, this.2⟩
   · have h1 : (getB h u).2 = false := by
      cases hh : (getB h u).2
      · rfl
      · exact absurd (.inl hh) hc
     rw [newsV_take h1 (fun h => hc (.inr h))] at hv
     rcases List.mem_cons.1 hv with rfl | hv
     · exact ⟨List.mem_cons_self, fun h => hc (.inr h)⟩
     · have := news_mem vs _ v hv
       exact ⟨List.mem_cons_of_mem _ this.1, this.2⟩
theorem news_words {l : List BindT} {acts : List ActT} (h : ∀ a ∈ acts, actB a = true) : ∀ v ∈ doNews l acts, isWord v = true := by
 intro v hv
 obtain ⟨h1, h2⟩ := news_mem _ _ _ hv
 obtain ⟨a, ha, hva⟩ := List.mem_flatMap.1 h1
 exact needs_words (h a ha) v hva h2
def doR (n : Nat) (p : ProdT) (l : List BindT) (room : Int) (L : List Sym) : (List PrefT × List BindT × Int) × List Sym := if (checkP n p).2.1 ≠ 0 then (([], [], (checkP n p).2.1), L) else doV room l p.acts L
set_option maxRecDepth 100000 in
set_option maxHeartbeats 16000000 in
theorem do_is {D : Nat → Prop} (n : Nat) (p : ProdT) (l : List BindT) (A1 A2 Al : Option Addr) (c1 c2 cl : Nat) (w : World) (T : TB) (L : List Sym) (h : GT D w T L) (h1 : RowR (repCondT n) D w A1 c1 p.conds) (h2 : RowR repActT D w A2 c2 p.acts) (h3 : RowR repBindT D w Al cl l)
 (hF : (flatC n 0 p.conds).length ≤ 1000000000) (hn : n ≤ 1000000000) (hl : l.length ≤ 1000) :
 Calls Tryz.prog 25 #[.agg #[.string p.name, .slice A1 p.conds.length c1, .slice A2 p.acts.length c2], .slice Al l.length cl, .pointer (some ⟨T.b, 0, none⟩)] w (DoTo D w T (doR n p l T.room L)) := by
 obtain ⟨i0, hi0, hz0, hz1, hz2⟩ := info_parts info_Bind
 have hlowD := h.low
 have H0 := Lib.hid h
 have H1 := Lib.hid h1
 have H2 := Lib.hid h2
 have H3 := Lib.hid h3
 have HLD := Lib.hid hlowD
 have hck : ∀ W, Below w.heap.size w W → Calls Tryz.prog 16 #[.agg #[.string p.name, .slice A1 p.conds.length c1, .slice A2 p.acts.length c2]] W fun e W' => e = .returned (.tuple #[.int .i64 (checkP n p).1, .int .i64 (checkP n p).2.1]) ∧ Below W.heap.size W W' := fun W hb =>
  check_is p n A1 A2 c1 c2 W (h1.new_ hb) (h2.new_ hb) (fun k hk => Nat.lt_of_lt_of_le (hlowD k hk) hb.size) hF hn
 obtain ⟨R, hR⟩ : ∃ R, R = doR n p l T.room L := ⟨_, rfl⟩
 rw [← hR]
 unfold doR at hR
 obtain ⟨⟨ca, ce, cn⟩, hce⟩ : ∃ r, checkP n p = r := ⟨_, rfl⟩
 have hsh0 : ce = 0 → (shapeP n p).2 = 0 := fun h0 => by
  by_cases h9 : (shapeP n p).2 = 0
  · exact h9
  · rw [checkP_bad h9] at hce; injection hce with _ hce; injection hce with hce; omega
 rw [hce] at hR
 simp only [hce] at hck
 dsimp only at hR hck
 have HR := Lib.hid hR
 have HCK := Lib.hid hck
 have HSH := Lib.hid hsh0
 have hac := h2.cap
 have hlc := h3.cap
 clear h h1 h2 h3 hck hR hce hsh0 hF hn hlowD
 refine (callsIn_wide (n := 0)).1 ?_
 refine callsIn_of_wp_marks Tryz.func25 rfl trivial ?_
 refine wpIn_wide.2 ?_
 simp only [Tryz.ntmps25, List.size_toArray, List.length_cons, List.length_nil, Nat.reduceAdd, Nat.reduceSub, Array.replicate_succ, Array.replicate_zero, List.push_toArray, List.append_toArray, List.nil_append, List.cons_append]
 go_upto_region 1 with fail
 obtain ⟨w1, hw1⟩ : ∃ w1, w1 = ((((w.alloc (.cells #[.string p.name, .slice A1 p.conds.length c1, .slice A2 p.acts.length c2] 42)).alloc (.cells #[.slice none 0 0] 69)).alloc (.cells #[.slice none 0 0] 28)).alloc (.cells #[.int .i64 0] 44)) := ⟨_, rfl⟩
 rw [← hw1]
 have HB := Lib.hid (show Below w.heap.size w w1 by rw [hw1]; exact (by repeat (first | exact Below.refl _ _ | refine Below.drew ?_ | refine Below.al ?_ _ | refine Below.sc ?_ _)))
 have Kp := Lib.hid (show Blk w1 (w.heap.size) 42 #[.string p.name, .slice A1 p.conds.length c1, .slice A2 p.acts.length c2] by rw [hw1]; exact ((((Blk.new w 42 #[.string p.name, .slice A1 p.conds.length c1, .slice A2 p.acts.length c2]).alloc (.cells #[.slice none 0 0] 69)).alloc (.cells #[.slice none 0 0] 28)).alloc (.cells #[.int .i64 0] 44)))
 have Kro := Lib.hid (show Blk w1 (w.heap.size + 1) 69 #[.slice none 0 0] by rw [hw1]; have hh := (((Blk.new (w.alloc (.cells #[.string p.name, .slice A1 p.conds.length c1, .slice A2 p.acts.length c2] 42)) 69 #[.slice none 0 0]).alloc (.cells #[.slice none 0 0] 28)).alloc (.cells #[.int .i64 0] 44)); simp only [World.size_alloc] at hh; exact hh)
 have Krb := Lib.hid (show Blk w1 (w.heap.size + 2) 28 #[.slice none 0 0] by rw [hw1]; have hh := ((Blk.new ((w.alloc (.cells #[.string p.name, .slice A1 p.conds.length c1, .slice A2 p.acts.length c2] 42)).alloc (.cells #[.slice none 0 0] 69)) 28 #[.slice none 0 0]).alloc (.cells #[.int .i64 0] 44)); simp only [World.size_alloc] at hh; exact hh)
 have Kre := Lib.hid (show Blk w1 (w.heap.size + 3) 44 #[.int .i64 0] by rw [hw1]; have hh := (Blk.new (((w.alloc (.cells #[.string p.name, .slice A1 p.conds.length c1, .slice A2 p.acts.length c2] 42)).alloc (.cells #[.slice none 0 0] 69)).alloc (.cells #[.slice none 0 0] 28)) 44 #[.int .i64 0]); simp only [World.size_alloc] at hh; exact hh)
 clear hw1
 obtain ⟨p0, p1, p2⟩ := Kp.out.c3
 have pz := Kp.out.lt
 have ro0 := Kro.out.c1
 have rof0 := Kro.out.frozen 0
 have roz := Kro.out.lt
 have rb0 := Krb.out.c1
 have rbf0 := Krb.out.frozen 0
 have rbz := Krb.out.lt
 have re0 := Kre.out.c1
 have ref0 := Kre.out.frozen 0
 have rez := Kre.out.lt
 go_wp2_with fail
 with_reducible refine (HCK.out _ HB.out).mono ?_
 rintro e w2 ⟨rfl, hb⟩
 have hbs := Below.trans (show Below w1.heap.size w1 _ from (by (repeat (first | exact Below.refl _ _ | refine Below.drew ?_ | refine Below.al ?_ _ | refine Below.sc ?_ _)))) (hb.mono (by simp <;> omega))
 have Kp := Lib.hid (Kp.out.new_ hbs)
 have Kro := Lib.hid (Kro.out.new_ hbs)
 have Krb := Lib.hid (Krb.out.new_ hbs)
 have Kre := Lib.hid (Kre.out.new_ hbs)
 have HB := Lib.hid (HB.out.trans (hbs.mono HB.out.size))
 have hsz2 := hbs.size
 clear p0 p1 p2 pz ro0 rof0 roz rb0 rbf0 rbz re0 ref0 rez hb hbs
 obtain ⟨p0, p1, p2⟩ := Kp.out.c3
 have pz := Kp.out.lt
 have ro0 := Kro.out.c1
 have rof0 := Kro.out.frozen 0
 have roz := Kro.out.lt
 have rb0 := Krb.out.c1
 have rbf0 := Krb.out.frozen 0
 have rbz := Krb.out.lt
 have re0 := Kre.out.c1
 have ref0 := Kre.out.frozen 0
 have rez := Kre.out.lt
 by_cases hce : ce = 0
 · skip
   have cka : (ce == 0) = true := by simp [hce]
   have ckb : decide (ce = 0) = true := by simp [hce]
   have HSP := Lib.hid (HSH.out hce)
   have HRR := Lib.hid (show R = doV T.room l p.acts L by rw [HR.out, if_neg (by simp [hce])])
   clear hce
   obtain ⟨D2, hD2⟩ : ∃ D2 : Nat → Prop, D2 = fun k => D k ∨ k = w.heap.size := ⟨_, rfl⟩
   have HDD := Lib.hid (show ∀ k, D k → D2 k from fun k hk => by rw [hD2]; exact .inl hk)
   have HXp := Lib.hid (show D2 w.heap.size by rw [hD2]; exact .inr rfl)
   have hsz0 := HB.out.size
   have HD2 := Lib.hid (show ∀ k, D2 k → k < w.heap.size + 1 from fun k hk => by rw [hD2] at hk; rcases hk with hk | hk; (have := HLD.out k hk; omega); omega)
   have HG2 := Lib.hid (show GT D2 w2 T L from (H0.out.plus HB.out).weaken (fun k hk => by rw [hD2] at hk; rcases hk with hk | hk; exact .inl hk; exact .inr ⟨by omega, by have := pz; omega⟩))
   clear hD2
   go_wp2_with fail
   refine (gt_clone HG2.out).mono ?_
   rintro e w3 ⟨T1, rfl, hroom, hg3, hF3, hK3⟩
   have HFW := Lib.hid ((Fr.of_new (M := fun j => ¬ D j) HB.out).trans (hF3.mono (fun k _ hk hd => hk (HDD.out k hd))))
   have HG3 := Lib.hid hg3
   have HRO := Lib.hid hroom
   have Kp := Lib.hid (hK3 _ _ _ (by decide) (by decide) (by decide) (by decide) Kp.out)
   have Kro := Lib.hid (hK3 _ _ _ (by decide) (by decide) (by decide) (by decide) Kro.out)
   have Krb := Lib.hid (hK3 _ _ _ (by decide) (by decide) (by decide) (by decide) Krb.out)
   have Kre := Lib.hid (hK3 _ _ _ (by decide) (by decide) (by decide) (by decide) Kre.out)
   have hszw := HFW.out.size
   have hsz23 := hF3.size
   have HSZ := Lib.hid (show w.heap.size + 4 ≤ w3.heap.size by have := rez; omega)
   clear p0 p1 p2 pz ro0 rof0 roz rb0 rbf0 rbz re0 ref0 rez hg3 hF3 hK3 hroom
   obtain ⟨p0, p1, p2⟩ := Kp.out.c3
   have pz := Kp.out.lt
   have ro0 := Kro.out.c1
   have rof0 := Kro.out.frozen 0
   have roz := Kro.out.lt
   have rb0 := Krb.out.c1
   have rbf0 := Krb.out.frozen 0
   have rbz := Krb.out.lt
   have re0 := Kre.out.c1
   have ref0 := Kre.out.frozen 0
   have rez := Kre.out.lt
   go_upto_region 5 with fail
   obtain ⟨X3, hX3⟩ : ∃ X3, X3 = w3.alloc (.cells #[.pointer (some ⟨T1.b, 0, none⟩)] 66) := ⟨_, rfl⟩
   rw [← hX3]
   have hb3 : Below w3.heap.size w3 X3 := by rw [hX3]; exact (Below.refl _ _).alloc (Nat.le_refl _) _
   have Ktr := Lib.hid (show Blk X3 w3.heap.size 66 #[.pointer (some ⟨T1.b, 0, none⟩)] by rw [hX3]; exact Blk.new _ _ _)
   have HR3w := Lib.hid (show RowR repBindT D2 w3 Al cl l from ((H3.out.fr HFW.out (fun k hk hn => hn hk))).weaken HDD.out)
   have HB3 := Lib.hid hb3
   clear hX3 hb3
   go_wp2_with (at_builtin; refine wpList_append_src X3 rfl (.const (.slice none 0 0)) (.tmp 40) 28 rfl 36 i0 _ 4 48 Tryz.underlying28 hi0 hz0 hz1 hz2 rfl (by decide) (.slice none 0 0) 0 [] rfl (owns_nil _ _ _ _) Al l.length cl (l.flatMap BindT.cells) rfl (flat_length BindT.cells_length l) ((HR3w.out.new_ HB3.out).rd.news BindT.cells_length (by decide)) (bind_one l) (by unfold maxLen; omega) (by omega) ?_; intro v' w4 hown hg hnil hat; obtain ⟨A0, c0, rfl, hF0, hA0, hO0⟩ := grown_own (E := fun _ => False) (AIn.none_ _) hown hg hat; rw [Nat.zero_add, List.nil_append] at hO0; simp only [Nat.zero_add]; have HB4 := Lib.hid (HB3.out.trans ((hF0.below (Nat.le_refl _) (fun _ _ h => h)).mono HB3.out.size)); have HO := Lib.hid hO0; have HA := Lib.hid (hA0.mono (S' := fun k => w3.heap.size < k ∧ k < w4.heap.size) (fun k hk => hk.elim (fun h => h.elim) (fun h => ⟨by have := Ktr.out.lt; omega, h.2⟩))); have Ktr := Lib.hid (Ktr.out.fr hF0 (fun h => h)); clear hown hg hnil hat hF0 hA0 hO0; have p0 := (Kp.out.new_ HB4.out).cell 0; have p1 := (Kp.out.new_ HB4.out).cell 1; have p2 := (Kp.out.new_ HB4.out).cell 2; have pz := (Kp.out.new_ HB4.out).lt; have hz34 := HB4.out.size; simp only [List.getElem?_toArray, List.getElem?_cons_zero, List.getElem?_cons_succ] at p0 p1 p2)
   refine (mknews (D := D2) l p Al A1 A2 cl c1 c2 _ (HR3w.out.new_ (by (repeat (first | exact Below.refl _ _ | exact HB4.out | refine Below.drew ?_ | refine Below.al ?_ _ | refine Below.sc ?_ _)))) hl).mono ?_
   rintro e w5 ⟨kb, kp, Ak, ck, rfl, hkb, hkp, hrk, hlb, hlp, hb5⟩
   have hl4 : (w4.alloc (.cells #[.slice A0 l.length c0] 28)).heap.size = w4.heap.size + 1 := World.size_alloc _ _
   rw [hl4] at hlb hlp hrk
   have hB45 : Below w4.heap.size w4 w5 := Below.trans ((by (repeat (first | exact Below.refl _ _ | refine Below.drew ?_ | refine Below.al ?_ _ | refine Below.sc ?_ _))) : Below w4.heap.size w4 (w4.alloc (.cells #[.slice A0 l.length c0] 28))) (hb5.mono (by simp))
   have hB35 : Below w3.heap.size w3 w5 := HB4.out.trans (hB45.mono hz34)
   have Kbb := Lib.hid (show Blk w5 w4.heap.size 28 #[.slice A0 l.length c0] from (Blk.new _ _ _).new_ hb5)
   have Ktr := Lib.hid (Ktr.out.new_ hB45)
   have HO5 := Lib.hid (ownsRow_new HO.out hB45)
   obtain ⟨DI, hDI⟩ : ∃ DI : Nat → Prop, DI = fun k => D2 k ∨ (w4.heap.size + 1 ≤ k ∧ k < w5.heap.size) := ⟨_, rfl⟩
   have HDI := Lib.hid (show ∀ k, DI k → k < w5.heap.size from fun k hk => by rw [hDI] at hk; rcases hk with hk | hk; (have := HD2.out k hk; have := HSZ.out; have := hB35.size; omega); exact hk.2)
   have HDIn := Lib.hid (show ∀ k, DI k → ¬ (w.heap.size + 1 ≤ k ∧ k ≤ w4.heap.size) from fun k hk hn => by rw [hDI] at hk; rcases hk with hk | hk; (have := HD2.out k hk; omega); omega)
   have HDS := Lib.hid (show ∀ k, D2 k → DI k from fun k hk => by rw [hDI]; exact .inl hk)
   have HG5 := Lib.hid (show GT2 DI w5 T T1 L L from (HG3.out.plus hB35).weaken (fun k hk => by rw [hDI] at hk; rcases hk with hk | hk; exact .inl hk; exact .inr ⟨by omega, hk.2⟩))
   have HKB := Lib.hid hkb
   have HKP := Lib.hid hkp
   have HDKB := Lib.hid (show DI kb by rw [hDI]; exact .inr ⟨hlb, hkb.lt⟩)
   have HDKP := Lib.hid (show DI kp by rw [hDI]; exact .inr ⟨hlp, hkp.lt⟩)
   have HRK := Lib.hid (show RowR repBindT DI w5 Ak ck l from hrk.weaken (fun k hk => by rw [hDI]; exact .inr hk))
   have HRA := Lib.hid (show RowR repActT DI w5 A2 c2 p.acts from ((H2.out.fr HFW.out (fun k hk hn => hn hk)).new_ hB35).weaken (fun k hk => HDS.out k (HDD.out k hk)))
   have HFW5 := Lib.hid (HFW.out.trans (Fr.of_new hB35))
   have HB35 := Lib.hid hB35
   have hz5 := HB35.out.size
   have Kp := Lib.hid (Kp.out.new_ HB35.out)
   have Kro := Lib.hid (Kro.out.new_ HB35.out)
   have Krb := Lib.hid (Krb.out.new_ HB35.out)
   have Kre := Lib.hid (Kre.out.new_ HB35.out)
   clear hDI hkb hkp hrk hb5 hB45 hB35 hl4
   have hok := shapeP_ok HSP.out
   have hal : p.acts.length ≤ 16 := hok.2.2.2.1
   obtain ⟨news, hnews⟩ : ∃ news, news = doNews l p.acts := ⟨_, rfl⟩
   have HNW := Lib.hid hnews
   have HW := Lib.hid (show ∀ v ∈ news, isWord v = true from by rw [hnews]; exact news_words (shapeP_acts HSP.out))
   have HITER := Lib.hid (show ∀ W, Below w5.heap.size w5 W → IterO Tryz.prog 48 #[.pointer (some ⟨kb, 0, none⟩), .pointer (some ⟨kp, 0, none⟩)] encStr news W DI from fun W hW => by
    rw [hnews]; exact newsI_is l p kb kp Ak A1 A2 ck c1 c2 W (HKB.out.new_ hW) (HKP.out.new_ hW) HDKB.out HDKP.out (HRK.out.new_ hW) (HRA.out.new_ hW) hl (by omega))
   have HENT := Lib.hid (show ∀ args w, (callFunc 48 args).run Tryz.prog w = .ok (.enter 48 args) w from fun args w => by kernel_rfl)
   have hlts := HG5.out.lts
   have HLTS := Lib.hid hlts
   clear hnews hok hlts
   clear p0 p1 p2 pz ro0 rof0 roz rb0 rbf0 rbz re0 ref0 rez 
   go_wp2_with fail
   obtain ⟨I, hI⟩ : ∃ I : (Nat → Prop) → List ByteArray → World → Prop, I = fun D' pre X => ∃ A c, DoI DI w w5 T T1 l L news w4.heap.size w3.heap.size (w.heap.size + 1) (w.heap.size + 1 + 1) (w.heap.size + 1 + 1 + 1) D' pre X A c := ⟨_, rfl⟩
   obtain ⟨Ix, hIx⟩ : ∃ Ix : Code → (Nat → Prop) → List ByteArray → World → Prop, Ix = fun cd D' pre X => cd = .ret ∧ ∃ e, DoX DI w5 T L R (w.heap.size + 1) (w.heap.size + 1 + 1) (w.heap.size + 1 + 1 + 1) D' X e := ⟨_, rfl⟩
   have hst : Steady w5.heap.size I := by
    subst hI
    rintro D' pre X Y ⟨A, c, h⟩ hF
    exact ⟨A, c, h.step HLTS.out HDI.out hF⟩
   have hstx : ∀ cd, Steady w5.heap.size (Ix cd) := by
    subst hIx
    rintro cd D' pre X Y ⟨h1, e, h⟩ hF
    exact ⟨h1, e, h.step HDI.out hF⟩
   have HST := Lib.hid hst
   refine (wpIn_wide (n := 0)).1 ?_
   refine wpIn_rangeO (w := w5) (by rfl) HENT.out HDI.out HITER.out (fun x => by rfl) I Ix hst hstx ?_ ?_ ?_ ?_
   · subst hI
     have nD : ∀ k, w.heap.size + 1 ≤ k → k ≤ w4.heap.size → ¬ DI k := fun k h1 h2 hd => HDIn.out k hd ⟨h1, h2⟩
     have hs := HSZ.out
     have hkt := Ktr.out.lt
     exact ⟨A0, c0, HG5.out, fun k hk => hk, ⟨Kbb.out, nD _ (by omega) (by omega)⟩, ⟨HO5.out, HA.out.mono (fun k hk => nD k (by omega) (by omega))⟩, HA.out.mono (fun k hk => by omega), ⟨Ktr.out, nD _ (by omega) (by omega)⟩, ⟨Kro.out, nD _ (by omega) (by omega)⟩, ⟨Krb.out, nD _ (by omega) (by omega)⟩, ⟨Kre.out, nD _ (by omega) (by omega)⟩, Fr.refl _ _, fun post hp => by rw [hp]; rfl⟩
   · intro D' lo pre x post X hx hlo hDl hIX
     have hxw := HW.out x (by rw [hx]; simp)
     have HX := Lib.hid hx
     have HXW := Lib.hid hxw
     simp only [encStr, Array.zip]
     gi_wp2_with fail
     refine ⟨Fr.refl _ _, fun X2 hF2 hz2 _ => ?_⟩
     have hI2 := hst.same hIX (hF2.mono (fun k _ e => by rw [e]; exact ⟨hDl, hlo⟩)) hz2
     have HI := Lib.hid hI
     have HIX := Lib.hid hIx
     rw [hI] at hI2
     clear hI hIx hst hstx hIX hF2 hz2 hx hxw HST
     obtain ⟨A, c, hdo⟩ := hI2
     have HDO := Lib.hid hdo
     have tr0 := hdo.tr.1.cell 0
     have trz := hdo.tr.1.lt
     simp only [List.getElem?_toArray, List.getElem?_cons_zero] at tr0
     clear hdo
     gi_wp2_with fail
     obtain ⟨s, hs⟩ : ∃ s, s = freshS T1.room (frsAll T1.room l L pre).2 (greatV x) := ⟨_, rfl⟩
     obtain ⟨fe, hfe⟩ : ∃ s, s = freshE T1.room (frsAll T1.room l L pre).2 (greatV x) := ⟨_, rfl⟩
     obtain ⟨L2, hL2⟩ : ∃ s, s = freshL T1.room (frsAll T1.room l L pre).2 (greatV x) := ⟨_, rfl⟩
     have hfc := fun (D9 : Nat → Prop) (Y : World) (hY : GT2 D9 Y T T1 L (frsAll T1.room l L pre).2) => gt2_fresh (greatV x) hY
     simp only [← hs, ← hfe, ← hL2] at hfc
     have HFC := Lib.hid hfc
     have HSS := Lib.hid hs
     have HFE := Lib.hid hfe
     have HL2 := Lib.hid hL2
     clear hs hfe hL2 hfc
     have HS := Lib.hid (show ∀ Y, Below X2.heap.size X2 Y → Y.cell? ⟨w3.heap.size, 0, none⟩ = some (.pointer (some ⟨T1.b, 0, none⟩)) from fun Y hY => (hY.cell (p := ⟨w3.heap.size, 0, none⟩) trz).trans tr0)
     refine wpIn_region_Pl (fun w9 => w9.cell? ⟨w3.heap.size, 0, none⟩ = some (.pointer (some ⟨T1.b, 0, none⟩))) [0, 1, 4, 5, 6, 9] [0] (.fork [(0, 1), (1, 0)] 2 (.fork [] 3 (.fin [(4, 0), (5, 0), (6, 0), (7, 2), (8, 2), (9, 0)]) 7 (.fin [(3, 2), (4, 0), (5, 0), (6, 0), (8, 2), (9, 0)])) 7 (.fin [(2, 2), (3, 2), (4, 0), (5, 0), (6, 0), (8, 2), (9, 0)])) (by kernel_rfl) (by kernel_rfl) (by kernel_rfl) (by rfl) (fun KK hKK => ?_)
     simp only [wpPl, beside, List.filterMap_cons, List.filterMap_nil, List.getElem?_toArray, List.getElem?_cons_zero, List.getElem?_cons_succ, Option.map_some]
     repeat (first | (refine wpY_w ?_ (Or.inl ⟨by rfl, fun w9 => ?_⟩) ?_; rotate_left 1; go_simp; with_reducible rfl; go_frame) | (refine wpY_l ?_ (HS.out _ (Below.refl _ _).drew) (Or.inl ⟨by rfl, fun w9 hw9 => ?_⟩) ?_; rotate_left 1; go_simp; with_reducible rfl; go_frame))
     refine wpY_nil ⟨?_, ?_⟩
     · refine wpOp_cs rfl (fun K9 hK9 => ?_)
       go_simp
       refine (actgreat_is x _ HXW.out).mono ?_
       rintro e w9 ⟨rfl, rfl⟩
       refine hK9 _ _ (fun _ => HS.out _ (Below.refl _ _).drew) ?_
       clear hK9 K9
       try go_frame
       try simp only [beside]
       refine wpY_nil ⟨?_, ?_⟩
       · refine wpOp_cs rfl (fun K9 hK9 => ?_)
         go_simp
         refine (HFC.out _ _ (HDO.out.gt.below (Below.refl _ _).drew)).mono ?_
         rintro e V ⟨rfl, hgV, hFV, hKV⟩
         have HGV := Lib.hid hgV
         have HFV := Lib.hid ((Fr.refl _ X2).drew.trans hFV)
         have HKV := Lib.hid ((KB.of_below (Below.refl _ _).drew).trans hKV)
         have HSV := Lib.hid (show ∀ Y, Below V.heap.size V Y → Y.cell? ⟨w3.heap.size, 0, none⟩ = some (.pointer (some ⟨T1.b, 0, none⟩)) from fun Y hY => (((HKV.out _ _ _ (by decide) (by decide) (by decide) (by decide) HDO.out.tr.1).new_ hY).cell 0).trans rfl)
         clear hgV hFV hKV
         refine hK9 _ _ (fun _ => HSV.out _ (Below.refl _ _)) ?_
         clear hK9 K9
         try go_frame
         repeat (refine wpY_w ?_ (Or.inl ⟨by rfl, fun w9 => ?_⟩) ?_; rotate_left 1; go_simp; with_reducible rfl; go_frame)
         refine wpY_es (fun K9 hK9 => ?_)
         go_simp
         refine hK9 _ _ (HSV.out _ (by (repeat (first | exact Below.refl _ _ | (refine Below.drew ?_) | (refine Below.alloc ?_ (by first | omega | (simp; done) | (simp; omega)) _) | (refine Below.setCell ?_ (by first | omega | (simp; done) | (simp; omega)) _))))) ?_
         clear hK9 K9
         try go_frame
         refine wpY_es (fun K9 hK9 => ?_)
         go_simp
         refine hK9 _ _ (HSV.out _ (by (repeat (first | exact Below.refl _ _ | (refine Below.drew ?_) | (refine Below.alloc ?_ (by first | omega | (simp; done) | (simp; omega)) _) | (refine Below.setCell ?_ (by first | omega | (simp; done) | (simp; omega)) _))))) ?_
         clear hK9 K9
         try go_frame
         repeat (refine wpY_w ?_ (Or.inl ⟨by rfl, fun w9 => ?_⟩) ?_; rotate_left 1; go_simp; with_reducible rfl; go_frame)
         refine wpY_nil ?_
         simp only [OnlyN_normal]
         refine hKK _ _ ?_
         clear hKK KK
         obtain ⟨Z, hZ⟩ : ∃ Z, Z = V.alloc (.cells #[.int .i64 s.kind, .string s.text, .int .i64 s.n] 23) := ⟨_, rfl⟩
         obtain ⟨q, hq⟩ : ∃ q, q = V.heap.size := ⟨_, rfl⟩
         rw [← hZ, ← hq]
         have hbZ : Below V.heap.size V Z := by rw [hZ]; exact (Below.refl _ _).alloc (Nat.le_refl _) _
         have HQ := Lib.hid (show Blk Z q 23 #[.int .i64 s.kind, .string s.text, .int .i64 s.n] by rw [hZ, hq]; exact Blk.new _ _ _)
         have HGZ := Lib.hid (HGV.out.below hbZ)
         have HFZ := Lib.hid (HFV.out.trans (Fr.of_new hbZ))
         have HKZ := Lib.hid (HKV.out.trans (KB.of_below hbZ))
         clear hZ hq hbZ HGV HFV HKV HSV
         obtain ⟨q0, q1, q2, -, -, -, qz⟩ := HQ.out.s3
         have KBB := Lib.hid (HKZ.out _ _ _ (by decide) (by decide) (by decide) (by decide) HDO.out.bb.1)
         have KRO := Lib.hid (HKZ.out _ _ _ (by decide) (by decide) (by decide) (by decide) HDO.out.ro.1)
         have KRB := Lib.hid (HKZ.out _ _ _ (by decide) (by decide) (by decide) (by decide) HDO.out.rb.1)
         have KRE := Lib.hid (HKZ.out _ _ _ (by decide) (by decide) (by decide) (by decide) HDO.out.re.1)
         have KTR := Lib.hid (HKZ.out _ _ _ (by decide) (by decide) (by decide) (by decide) HDO.out.tr.1)
         have KROW := Lib.hid (owns_kb HDO.out.row.1 HKZ.out (by decide) (by decide) (by decide) (by decide))
         by_cases hfe0 : fe = 0
         · have t1 : (fe == 0) = true := by simp [hfe0]
           have t2 : decide (fe = 0) = true := by simp [hfe0]
           have HFE0 := Lib.hid hfe0
           have b0 := (KBB.out.cell 0).trans rfl
           have bf := KBB.out.frozen 0
           have bz := KBB.out.lt
           have hprl : pre.length ≤ 48 := by
            have h1 := congrArg List.length HX.out
            rw [HNW.out] at h1
            have h2 := news_len l p.acts
            simp at h1; omega
           obtain ⟨X9, hX9⟩ : ∃ X9, X9 = Z.alloc (.cells #[.string x, .int .i64 s.kind, .string s.text, .int .i64 s.n] 36) := ⟨_, rfl⟩
           have hb9 : Below Z.heap.size Z X9 := by rw [hX9]; exact (Below.refl _ _).alloc (Nat.le_refl _) _
           have HX9 := Lib.hid hX9
           have HB9 := Lib.hid hb9
           have HO9 := Lib.hid (ownsRow_new KROW.out hb9)
           have HN9 := Lib.hid (show ∀ (j : Nat) (u : Value), (BindT.cells ⟨x, s⟩)[j]? = some u → X9.cell? ((⟨Z.heap.size, 0, none⟩ : Addr).add j) = some u by rw [hX9]; exact news_alloc rfl)
           clear hfe0 tr0 trz hX9 hb9
           gi_wp2_with (gi_at_builtin; rw [← HX9.out]; refine wpListIn_app X9 rfl (.tmp 56) (.tmp 60) 28 rfl 36 i0 _ 4 48 Tryz.underlying28 hi0 hz0 hz1 hz2 rfl (by decide) _ (l.length + pre.length) _ rfl HO9.out _ 1 1 (BindT.cells ⟨x, s⟩) rfl rfl (fun _ => ⟨_, rfl, HN9.out⟩) (by intro u hu; simp only [BindT.cells, List.mem_cons, List.not_mem_nil, or_false] at hu; rcases hu with rfl | rfl | rfl | rfl <;> rfl) (by unfold maxLen; omega) (by omega) ?_; intro v' w6 hown hg hnil hat; obtain ⟨A3, c3, rfl, hF3, hA3, hO3⟩ := grown_own (E := fun k => ∃ a, A = some a ∧ a.block = k) (fun a ha => ⟨a, ha, rfl⟩) hown hg hat; have HF3 := Lib.hid hF3; have HA3 := Lib.hid hA3; have HO3 := Lib.hid hO3; have hkb6 := (KBB.out.new_ HB9.out).grown hg (own_blk_ne HO9.out (KBB.out.new_ HB9.out) (by decide)); have b0 := (hkb6.cell 0).trans rfl; have bf := hkb6.frozen 0; have bz := hkb6.lt; have KBB6 := Lib.hid hkb6; clear hkb6 hown hg hnil hat hF3 hA3 hO3)
           have hF7 : Fr (fun k => (∃ a, A = some a ∧ a.block = k) ∨ k = w4.heap.size) Z (w6.setCell ⟨w4.heap.size, 0, none⟩ (.slice A3 (l.length + pre.length + 1) c3)) :=
            ((Fr.of_new HB9.out).trans (HF3.out.mono (fun k _ hk => .inl hk))).setCell (p := ⟨w4.heap.size, 0, none⟩) (.inl (.inr rfl)) _
           have hnD : ∀ k, ((∃ a, A = some a ∧ a.block = k) ∨ k = w4.heap.size) → ¬ D' k := by
            rintro k (⟨a, ha, rfl⟩ | rfl)
            · exact HDO.out.row.2 a ha
            · exact HDO.out.bb.2
           have hM : ∀ k, ((∃ a, A = some a ∧ a.block = k) ∨ k = w4.heap.size) → OtherT Z k := by
            rintro k (⟨a, ha, rfl⟩ | rfl)
            · subst ha
              rcases KROW.out.2 with ⟨hv, _⟩ | ⟨g, cap, cur, hv, _, hg, _⟩
              · cases hv
              · injection hv with hv
                injection hv with hv
                subst hv
                exact OtherT.of (t := 36) (cs := cur) hg (by decide) (by decide) (by decide) (by decide) (by decide) (by decide)
            · exact OtherT.of KBB.out (by decide) (by decide) (by decide) (by decide) (by decide) (by decide)
           have hlowZ := HGZ.out.low
           have hz9 := HB9.out.size
           have hzw : w.heap.size ≤ Z.heap.size := by have := HB35.out.size; have := HDO.out.fr.size; have := HFZ.out.size; omega
           have hA3 : ∀ a, A3 = some a → (∃ b, A = some b ∧ b.block = a.block) ∨ Z.heap.size ≤ a.block := fun a ha => by
            rcases HA3.out a ha with h | h
            · exact .inl h
            · exact .inr (by omega)
           have e1 : l.length + (pre ++ [x]).length = l.length + pre.length + 1 := by simp; omega
           have e2 : (frsAll T1.room l L (pre ++ [x])).1 = (frsAll T1.room l L pre).1 ++ [⟨x, s⟩] := by rw [frsAll_snoc, HSS.out]; rfl
           have e3 : (frsAll T1.room l L (pre ++ [x])).2 = L2 := by rw [frsAll_snoc, HL2.out]; rfl
           have hoth : ∀ {k : Nat} {t : TypeId} {cs : Array Value}, Blk Z k t cs → t ≠ 36 → k ≠ w4.heap.size → Blk (w6.setCell ⟨w4.heap.size, 0, none⟩ (.slice A3 (l.length + pre.length + 1) c3)) k t cs := fun {k t cs} hb hne hk => by
            refine hb.fr hF7 ?_
            rintro (⟨a, ha, rfl⟩ | h)
            · subst ha
              exact own_blk_ne KROW.out hb (Ne.symm hne) (by simp [Value.ownBlock])
            · exact hk h
           refine ⟨HFZ.out.trans (hF7.mono (fun k _ hk => hnD k hk)), ?_⟩
           rw [HI.out]
           refine ⟨A3, c3, ⟨by rw [e3]; exact HGZ.out.offT hM hF7, HDO.out.di, ⟨?_, HDO.out.bb.2⟩, ⟨?_, fun a ha hd => ?_⟩, fun a ha => ?_, ⟨hoth KTR.out (by decide) (KTR.out.ne_ KBB.out (by decide)), HDO.out.tr.2⟩, ⟨hoth KRO.out (by decide) (KRO.out.ne_ KBB.out (by decide)), HDO.out.ro.2⟩, ⟨hoth KRB.out (by decide) (fun e => ?_), HDO.out.rb.2⟩, ⟨hoth KRE.out (by decide) (KRE.out.ne_ KBB.out (by decide)), HDO.out.re.2⟩, (HDO.out.fr.trans (HFZ.out.mono (fun k _ hk hd => hk (HDO.out.di k hd)))).trans (hF7.mono (fun k _ hk hd => hnD k hk (HDO.out.di k hd))), fun post' hp => ?_⟩⟩
           · rw [e1]
             simpa using KBB6.out.set_ 0 (.slice A3 (l.length + pre.length + 1) c3)
           · rw [e1, e2, List.flatMap_append]
             have := ownsRow_setCell_other (a := ⟨w4.heap.size, 0, none⟩) HO3.out (own_blk_ne HO3.out KBB6.out (by decide)) (.slice A3 (l.length + pre.length + 1) c3)
             simpa using this
           · rcases hA3 a ha with ⟨b, hb, e⟩ | h
             · exact HDO.out.row.2 b hb (e ▸ hd)
             · have := hlowZ _ hd; omega
           · rcases hA3 a ha with ⟨b, hb, e⟩ | h
             · have := HDO.out.from_ b hb; omega
             · omega
           · have := HSZ.out; omega
           · have h1 := HDO.out.err (x :: post') (by rw [hp]; simp)
             rw [h1, freshErr_cons, if_neg (by rw [← HFE.out]; simp [HFE0.out]), e3, HL2.out]
         · have t1 : (fe == 0) = false := by simp [hfe0]
           have t2 : decide (fe = 0) = false := by simp [hfe0]
           have HFE0 := Lib.hid hfe0
           have o0 := (KRO.out.cell 0).trans rfl
           have of_ := KRO.out.frozen 0
           have oz := KRO.out.lt
           have r0 := (KRB.out.cell 0).trans rfl
           have rf_ := KRB.out.frozen 0
           have rz := KRB.out.lt
           have e0 := (KRE.out.cell 0).trans rfl
           have ef_ := KRE.out.frozen 0
           have ez := KRE.out.lt
           clear hfe0 tr0 trz q0 q1 q2
           gi_wp2_with fail
           have hF3 : Fr (fun k => k = w.heap.size + 1 ∨ k = w.heap.size + 1 + 1 ∨ k = w.heap.size + 1 + 1 + 1) Z (((Z.setCell ⟨w.heap.size + 1, 0, none⟩ (.slice none 0 0)).setCell ⟨w.heap.size + 1 + 1, 0, none⟩ (.slice none 0 0)).setCell ⟨w.heap.size + 1 + 1 + 1, 0, none⟩ (.int .i64 fe)) :=
            (((Fr.refl _ Z).setCell (p := ⟨w.heap.size + 1, 0, none⟩) (.inl (.inl rfl)) _).setCell (p := ⟨w.heap.size + 1 + 1, 0, none⟩) (.inl (.inr (.inl rfl))) _).setCell (p := ⟨w.heap.size + 1 + 1 + 1, 0, none⟩) (.inl (.inr (.inr rfl))) _
           have hnD : ∀ k, (k = w.heap.size + 1 ∨ k = w.heap.size + 1 + 1 ∨ k = w.heap.size + 1 + 1 + 1) → ¬ D' k := by
            rintro k (rfl | rfl | rfl)
            · exact HDO.out.ro.2
            · exact HDO.out.rb.2
            · exact HDO.out.re.2
           have hM : ∀ k, (k = w.heap.size + 1 ∨ k = w.heap.size + 1 + 1 ∨ k = w.heap.size + 1 + 1 + 1) → OtherT Z k := by
            rintro k (rfl | rfl | rfl)
            · exact OtherT.of KRO.out (by decide) (by decide) (by decide) (by decide) (by decide) (by decide)
            · exact OtherT.of KRB.out (by decide) (by decide) (by decide) (by decide) (by decide) (by decide)
            · exact OtherT.of KRE.out (by decide) (by decide) (by decide) (by decide) (by decide) (by decide)
           have herr : freshErr T.room L (doNews l p.acts) = fe := by
            rw [← HNW.out, ← HRO.out, HDO.out.err _ HX.out, freshErr_cons, ← HFE.out, if_pos HFE0.out]
           refine ⟨HFZ.out.trans (hF3.mono (fun k _ hk => hnD k hk)), ?_⟩
           rw [HIX.out]
           refine ⟨rfl, fe, ⟨by rw [HRR.out]; exact doV_err herr HFE0.out, (HGZ.out.offT hM hF3).one, HLTS.out.1, HDO.out.di, ⟨?_, HDO.out.ro.2⟩, ⟨?_, HDO.out.rb.2⟩, ⟨?_, HDO.out.re.2⟩, (HDO.out.fr.trans (HFZ.out.mono (fun k _ hk hd => hk (HDO.out.di k hd)))).trans (hF3.mono (fun k _ hk hd => hnD k hk (HDO.out.di k hd)))⟩⟩
           · simpa using ((KRO.out.set_ 0 (.slice none 0 0)).far (p := ⟨w.heap.size + 1 + 1, 0, none⟩) (by dsimp only; omega) (.slice none 0 0)).far (p := ⟨w.heap.size + 1 + 1 + 1, 0, none⟩) (by dsimp only; omega) (.int .i64 fe)
           · simpa using (((KRB.out.far (p := ⟨w.heap.size + 1, 0, none⟩) (by dsimp only; omega) (.slice none 0 0)).set_ 0 (.slice none 0 0)).far (p := ⟨w.heap.size + 1 + 1 + 1, 0, none⟩) (by dsimp only; omega) (.int .i64 fe))
           · simpa using (((KRE.out.far (p := ⟨w.heap.size + 1, 0, none⟩) (by dsimp only; omega) (.slice none 0 0)).far (p := ⟨w.heap.size + 1 + 1, 0, none⟩) (by dsimp only; omega) (.slice none 0 0)).set_ 0 (.int .i64 fe))
       · refine wpOp_cs rfl (fun K9 hK9 => ?_)
         go_simp
         refine hK9 _ _ (fun _ => HS.out _ ((Below.refl _ _).drew.alloc (by simp) _)) ?_
         clear hK9 K9
         try go_frame
         try simp only [beside]
         obtain ⟨Y, hY⟩ : ∃ Y, Y = (X2.alloc (.cells #[.int .i64 0, .string ⟨#[]⟩, .int .i64 0] 23)).drew := ⟨_, rfl⟩
         rw [← hY]
         have HBY := Lib.hid (show Below X2.heap.size X2 Y by rw [hY]; exact ((Below.refl _ _).alloc (Nat.le_refl _) _).drew)
         have HQY := Lib.hid (show Blk Y X2.heap.size 23 #[.int .i64 0, .string ⟨#[]⟩, .int .i64 0] by rw [hY]; exact (Blk.new X2 _ _).drew)
         clear hY
         refine wpY_es (fun K9 hK9 => ?_)
         go_simp
         refine (HFC.out (Plus D' X2 Y) _ (HDO.out.gt.plus HBY.out)).mono ?_
         rintro e V ⟨rfl, hgV, hFV, hKV⟩
         have hqV : Blk V X2.heap.size 23 #[.int .i64 0, .string ⟨#[]⟩, .int .i64 0] := HQY.out.fr hFV (fun hn => hn (.inr ⟨Nat.le_refl _, HQY.out.lt⟩))
         have HGV := Lib.hid hgV
         have HFV := Lib.hid ((Fr.of_new (M := fun k => ¬ D' k) HBY.out).trans (hFV.mono (fun k _ hk hd => hk (.inl hd))))
         have HKV := Lib.hid ((KB.of_below HBY.out).trans hKV)
         have hTV := HKV.out _ _ _ (by decide) (by decide) (by decide) (by decide) HDO.out.tr.1
         have HTV := Lib.hid hTV
         have HQV := Lib.hid hqV
         have HSV := Lib.hid (show V.cell? ⟨w3.heap.size, 0, none⟩ = some (.pointer (some ⟨T1.b, 0, none⟩)) from (hTV.cell 0).trans rfl)
         obtain ⟨u0, u1, u2, f0, f1, f2, uz⟩ := hqV.z3
         clear hgV hFV hKV hTV hqV
         refine hK9 _ _ (HSV.out) ?_
         clear hK9 K9
         try go_frame
         repeat (refine wpY_w ?_ (Or.inl ⟨by rfl, fun w9 => ?_⟩) ?_; rotate_left 1; go_simp; with_reducible rfl; go_frame)
         refine wpY_es (fun K9 hK9 => ?_)
         go_simp
         have hntr : w3.heap.size ≠ X2.heap.size := by omega
         have HTZ := Lib.hid (((HTV.out.far (p := ⟨X2.heap.size, 0, none⟩) hntr (.int .i64 s.kind)).far (p := ⟨X2.heap.size, 1, none⟩) hntr (.string s.text)).far (p := ⟨X2.heap.size, 2, none⟩) hntr (.int .i64 s.n))
         refine hK9 _ _ ((HTZ.out.cell 0).trans rfl) ?_
         clear hK9 K9 u0 u1 u2 f0 f1 f2
         try go_frame
         repeat (refine wpY_w ?_ (Or.inl ⟨by rfl, fun w9 => ?_⟩) ?_; rotate_left 1; go_simp; with_reducible rfl; go_frame)
         refine wpY_nil ?_
         simp only [OnlyN_normal]
         refine hKK _ _ ?_
         clear hKK KK
         obtain ⟨Z, hZ⟩ : ∃ Z, Z = ((V.setCell ⟨X2.heap.size, 0, none⟩ (.int .i64 s.kind)).setCell ⟨X2.heap.size, 1, none⟩ (.string s.text)).setCell ⟨X2.heap.size, 2, none⟩ (.int .i64 s.n) := ⟨_, rfl⟩
         have hFZ0 : Fr (· = X2.heap.size) V Z := by
          rw [hZ]
          exact (((Fr.refl (· = X2.heap.size) V).setCell (p := ⟨X2.heap.size, 0, none⟩) (.inl rfl) _).setCell (p := ⟨X2.heap.size, 1, none⟩) (.inl rfl) _).setCell (p := ⟨X2.heap.size, 2, none⟩) (.inl rfl) _
         have hKZ0 : KB V Z := fun g t cs _ h2 _ _ hb => hb.fr hFZ0 (hb.ne_ HQV.out h2)
         have hlow2 := HDO.out.gt.low
         have HQ := Lib.hid (show Blk Z X2.heap.size 23 #[.int .i64 s.kind, .string s.text, .int .i64 s.n] by
          rw [hZ]; simpa using ((HQV.out.set_ 0 (.int .i64 s.kind)).set_ 1 (.string s.text)).set_ 2 (.int .i64 s.n))
         have HGZ := Lib.hid (show GT2 D' Z T T1 L L2 from (HGV.out.grow (hFZ0.mono (fun k _ hk => by subst hk; exact .inr ⟨Nat.le_refl _, HQY.out.lt⟩)) hKZ0).weaken (fun k hk => .inl (.inl hk)))
         have HFZ := Lib.hid (HFV.out.trans (hFZ0.mono (fun k _ hk hd => by have := hlow2 k hd; omega)))
         have HKZ := Lib.hid (HKV.out.trans hKZ0)
         rw [← hZ]
         obtain ⟨q, hq⟩ : ∃ q, q = X2.heap.size := ⟨_, rfl⟩
         rw [← hq] at HQ ⊢
         clear hZ hFZ0 hKZ0 hlow2 HGV HFV HKV HSV HTV HTZ HQV hq hntr
         obtain ⟨q0, q1, q2, -, -, -, qz⟩ := HQ.out.s3
         have KBB := Lib.hid (HKZ.out _ _ _ (by decide) (by decide) (by decide) (by decide) HDO.out.bb.1)
         have KRO := Lib.hid (HKZ.out _ _ _ (by decide) (by decide) (by decide) (by decide) HDO.out.ro.1)
         have KRB := Lib.hid (HKZ.out _ _ _ (by decide) (by decide) (by decide) (by decide) HDO.out.rb.1)
         have KRE := Lib.hid (HKZ.out _ _ _ (by decide) (by decide) (by decide) (by decide) HDO.out.re.1)
         have KTR := Lib.hid (HKZ.out _ _ _ (by decide) (by decide) (by decide) (by decide) HDO.out.tr.1)
         have KROW := Lib.hid (owns_kb HDO.out.row.1 HKZ.out (by decide) (by decide) (by decide) (by decide))
         by_cases hfe0 : fe = 0
         · have t1 : (fe == 0) = true := by simp [hfe0]
           have t2 : decide (fe = 0) = true := by simp [hfe0]
           have HFE0 := Lib.hid hfe0
           have b0 := (KBB.out.cell 0).trans rfl
           have bf := KBB.out.frozen 0
           have bz := KBB.out.lt
           have hprl : pre.length ≤ 48 := by
            have h1 := congrArg List.length HX.out
            rw [HNW.out] at h1
            have h2 := news_len l p.acts
            simp at h1; omega
           obtain ⟨X9, hX9⟩ : ∃ X9, X9 = Z.alloc (.cells #[.string x, .int .i64 s.kind, .string s.text, .int .i64 s.n] 36) := ⟨_, rfl⟩
           have hb9 : Below Z.heap.size Z X9 := by rw [hX9]; exact (Below.refl _ _).alloc (Nat.le_refl _) _
           have HX9 := Lib.hid hX9
           have HB9 := Lib.hid hb9
           have HO9 := Lib.hid (ownsRow_new KROW.out hb9)
           have HN9 := Lib.hid (show ∀ (j : Nat) (u : Value), (BindT.cells ⟨x, s⟩)[j]? = some u → X9.cell? ((⟨Z.heap.size, 0, none⟩ : Addr).add j) = some u by rw [hX9]; exact news_alloc rfl)
           clear hfe0 tr0 trz hX9 hb9
           gi_wp2_with (gi_at_builtin; rw [← HX9.out]; refine wpListIn_app X9 rfl (.tmp 56) (.tmp 60) 28 rfl 36 i0 _ 4 48 Tryz.underlying28 hi0 hz0 hz1 hz2 rfl (by decide) _ (l.length + pre.length) _ rfl HO9.out _ 1 1 (BindT.cells ⟨x, s⟩) rfl rfl (fun _ => ⟨_, rfl, HN9.out⟩) (by intro u hu; simp only [BindT.cells, List.mem_cons, List.not_mem_nil, or_false] at hu; rcases hu with rfl | rfl | rfl | rfl <;> rfl) (by unfold maxLen; omega) (by omega) ?_; intro v' w6 hown hg hnil hat; obtain ⟨A3, c3, rfl, hF3, hA3, hO3⟩ := grown_own (E := fun k => ∃ a, A = some a ∧ a.block = k) (fun a ha => ⟨a, ha, rfl⟩) hown hg hat; have HF3 := Lib.hid hF3; have HA3 := Lib.hid hA3; have HO3 := Lib.hid hO3; have hkb6 := (KBB.out.new_ HB9.out).grown hg (own_blk_ne HO9.out (KBB.out.new_ HB9.out) (by decide)); have b0 := (hkb6.cell 0).trans rfl; have bf := hkb6.frozen 0; have bz := hkb6.lt; have KBB6 := Lib.hid hkb6; clear hkb6 hown hg hnil hat hF3 hA3 hO3)
           have hF7 : Fr (fun k => (∃ a, A = some a ∧ a.block = k) ∨ k = w4.heap.size) Z (w6.setCell ⟨w4.heap.size, 0, none⟩ (.slice A3 (l.length + pre.length + 1) c3)) :=
            ((Fr.of_new HB9.out).trans (HF3.out.mono (fun k _ hk => .inl hk))).setCell (p := ⟨w4.heap.size, 0, none⟩) (.inl (.inr rfl)) _
           have hnD : ∀ k, ((∃ a, A = some a ∧ a.block = k) ∨ k = w4.heap.size) → ¬ D' k := by
            rintro k (⟨a, ha, rfl⟩ | rfl)
            · exact HDO.out.row.2 a ha
            · exact HDO.out.bb.2
           have hM : ∀ k, ((∃ a, A = some a ∧ a.block = k) ∨ k = w4.heap.size) → OtherT Z k := by
            rintro k (⟨a, ha, rfl⟩ | rfl)
            · subst ha
              rcases KROW.out.2 with ⟨hv, _⟩ | ⟨g, cap, cur, hv, _, hg, _⟩
              · cases hv
              · injection hv with hv
                injection hv with hv
                subst hv
                exact OtherT.of (t := 36) (cs := cur) hg (by decide) (by decide) (by decide) (by decide) (by decide) (by decide)
            · exact OtherT.of KBB.out (by decide) (by decide) (by decide) (by decide) (by decide) (by decide)
           have hlowZ := HGZ.out.low
           have hz9 := HB9.out.size
           have hzw : w.heap.size ≤ Z.heap.size := by have := HB35.out.size; have := HDO.out.fr.size; have := HFZ.out.size; omega
           have hA3 : ∀ a, A3 = some a → (∃ b, A = some b ∧ b.block = a.block) ∨ Z.heap.size ≤ a.block := fun a ha => by
            rcases HA3.out a ha with h | h
            · exact .inl h
            · exact .inr (by omega)
           have e1 : l.length + (pre ++ [x]).length = l.length + pre.length + 1 := by simp; omega
           have e2 : (frsAll T1.room l L (pre ++ [x])).1 = (frsAll T1.room l L pre).1 ++ [⟨x, s⟩] := by rw [frsAll_snoc, HSS.out]; rfl
           have e3 : (frsAll T1.room l L (pre ++ [x])).2 = L2 := by rw [frsAll_snoc, HL2.out]; rfl
           have hoth : ∀ {k : Nat} {t : TypeId} {cs : Array Value}, Blk Z k t cs → t ≠ 36 → k ≠ w4.heap.size → Blk (w6.setCell ⟨w4.heap.size, 0, none⟩ (.slice A3 (l.length + pre.length + 1) c3)) k t cs := fun {k t cs} hb hne hk => by
            refine hb.fr hF7 ?_
            rintro (⟨a, ha, rfl⟩ | h)
            · subst ha
              exact own_blk_ne KROW.out hb (Ne.symm hne) (by simp [Value.ownBlock])
            · exact hk h
           refine ⟨HFZ.out.trans (hF7.mono (fun k _ hk => hnD k hk)), ?_⟩
           rw [HI.out]
           refine ⟨A3, c3, ⟨by rw [e3]; exact HGZ.out.offT hM hF7, HDO.out.di, ⟨?_, HDO.out.bb.2⟩, ⟨?_, fun a ha hd => ?_⟩, fun a ha => ?_, ⟨hoth KTR.out (by decide) (KTR.out.ne_ KBB.out (by decide)), HDO.out.tr.2⟩, ⟨hoth KRO.out (by decide) (KRO.out.ne_ KBB.out (by decide)), HDO.out.ro.2⟩, ⟨hoth KRB.out (by decide) (fun e => ?_), HDO.out.rb.2⟩, ⟨hoth KRE.out (by decide) (KRE.out.ne_ KBB.out (by decide)), HDO.out.re.2⟩, (HDO.out.fr.trans (HFZ.out.mono (fun k _ hk hd => hk (HDO.out.di k hd)))).trans (hF7.mono (fun k _ hk hd => hnD k hk (HDO.out.di k hd))), fun post' hp => ?_⟩⟩
           · rw [e1]
             simpa using KBB6.out.set_ 0 (.slice A3 (l.length + pre.length + 1) c3)
           · rw [e1, e2, List.flatMap_append]
             have := ownsRow_setCell_other (a := ⟨w4.heap.size, 0, none⟩) HO3.out (own_blk_ne HO3.out KBB6.out (by decide)) (.slice A3 (l.length + pre.length + 1) c3)
             simpa using this
           · rcases hA3 a ha with ⟨b, hb, e⟩ | h
             · exact HDO.out.row.2 b hb (e ▸ hd)
             · have := hlowZ _ hd; omega
           · rcases hA3 a ha with ⟨b, hb, e⟩ | h
             · have := HDO.out.from_ b hb; omega
             · omega
           · have := HSZ.out; omega
           · have h1 := HDO.out.err (x :: post') (by rw [hp]; simp)
             rw [h1, freshErr_cons, if_neg (by rw [← HFE.out]; simp [HFE0.out]), e3, HL2.out]
         · have t1 : (fe == 0) = false := by simp [hfe0]
           have t2 : decide (fe = 0) = false := by simp [hfe0]
           have HFE0 := Lib.hid hfe0
           have o0 := (KRO.out.cell 0).trans rfl
           have of_ := KRO.out.frozen 0
           have oz := KRO.out.lt
           have r0 := (KRB.out.cell 0).trans rfl
           have rf_ := KRB.out.frozen 0
           have rz := KRB.out.lt
           have e0 := (KRE.out.cell 0).trans rfl
           have ef_ := KRE.out.frozen 0
           have ez := KRE.out.lt
           clear hfe0 tr0 trz q0 q1 q2
           gi_wp2_with fail
           have hF3 : Fr (fun k => k = w.heap.size + 1 ∨ k = w.heap.size + 1 + 1 ∨ k = w.heap.size + 1 + 1 + 1) Z (((Z.setCell ⟨w.heap.size + 1, 0, none⟩ (.slice none 0 0)).setCell ⟨w.heap.size + 1 + 1, 0, none⟩ (.slice none 0 0)).setCell ⟨w.heap.size + 1 + 1 + 1, 0, none⟩ (.int .i64 fe)) :=
            (((Fr.refl _ Z).setCell (p := ⟨w.heap.size + 1, 0, none⟩) (.inl (.inl rfl)) _).setCell (p := ⟨w.heap.size + 1 + 1, 0, none⟩) (.inl (.inr (.inl rfl))) _).setCell (p := ⟨w.heap.size + 1 + 1 + 1, 0, none⟩) (.inl (.inr (.inr rfl))) _
           have hnD : ∀ k, (k = w.heap.size + 1 ∨ k = w.heap.size + 1 + 1 ∨ k = w.heap.size + 1 + 1 + 1) → ¬ D' k := by
            rintro k (rfl | rfl | rfl)
            · exact HDO.out.ro.2
            · exact HDO.out.rb.2
            · exact HDO.out.re.2
           have hM : ∀ k, (k = w.heap.size + 1 ∨ k = w.heap.size + 1 + 1 ∨ k = w.heap.size + 1 + 1 + 1) → OtherT Z k := by
            rintro k (rfl | rfl | rfl)
            · exact OtherT.of KRO.out (by decide) (by decide) (by decide) (by decide) (by decide) (by decide)
            · exact OtherT.of KRB.out (by decide) (by decide) (by decide) (by decide) (by decide) (by decide)
            · exact OtherT.of KRE.out (by decide) (by decide) (by decide) (by decide) (by decide) (by decide)
           have herr : freshErr T.room L (doNews l p.acts) = fe := by
            rw [← HNW.out, ← HRO.out, HDO.out.err _ HX.out, freshErr_cons, ← HFE.out, if_pos HFE0.out]
           refine ⟨HFZ.out.trans (hF3.mono (fun k _ hk => hnD k hk)), ?_⟩
           rw [HIX.out]
           refine ⟨rfl, fe, ⟨by rw [HRR.out]; exact doV_err herr HFE0.out, (HGZ.out.offT hM hF3).one, HLTS.out.1, HDO.out.di, ⟨?_, HDO.out.ro.2⟩, ⟨?_, HDO.out.rb.2⟩, ⟨?_, HDO.out.re.2⟩, (HDO.out.fr.trans (HFZ.out.mono (fun k _ hk hd => hk (HDO.out.di k hd)))).trans (hF3.mono (fun k _ hk hd => hnD k hk (HDO.out.di k hd)))⟩⟩
           · simpa using ((KRO.out.set_ 0 (.slice none 0 0)).far (p := ⟨w.heap.size + 1 + 1, 0, none⟩) (by dsimp only; omega) (.slice none 0 0)).far (p := ⟨w.heap.size + 1 + 1 + 1, 0, none⟩) (by dsimp only; omega) (.int .i64 fe)
           · simpa using (((KRB.out.far (p := ⟨w.heap.size + 1, 0, none⟩) (by dsimp only; omega) (.slice none 0 0)).set_ 0 (.slice none 0 0)).far (p := ⟨w.heap.size + 1 + 1 + 1, 0, none⟩) (by dsimp only; omega) (.int .i64 fe))
           · simpa using (((KRE.out.far (p := ⟨w.heap.size + 1, 0, none⟩) (by dsimp only; omega) (.slice none 0 0)).far (p := ⟨w.heap.size + 1 + 1, 0, none⟩) (by dsimp only; omega) (.slice none 0 0)).set_ 0 (.int .i64 fe))
     · refine wpOp_cs rfl (fun K9 hK9 => ?_)
       go_simp
       refine hK9 _ _ (fun _ => HS.out _ ((Below.refl _ _).drew.alloc (by simp) _)) ?_
       clear hK9 K9
       try go_frame
       try simp only [beside]
       obtain ⟨Y, hY⟩ : ∃ Y, Y = (X2.alloc (.cells #[.int .i64 0, .string ⟨#[]⟩, .int .i64 0] 23)).drew := ⟨_, rfl⟩
       rw [← hY]
       have HBY := Lib.hid (show Below X2.heap.size X2 Y by rw [hY]; exact ((Below.refl _ _).alloc (Nat.le_refl _) _).drew)
       have HQY := Lib.hid (show Blk Y X2.heap.size 23 #[.int .i64 0, .string ⟨#[]⟩, .int .i64 0] by rw [hY]; exact (Blk.new X2 _ _).drew)
       clear hY
       refine wpY_es (fun K9 hK9 => ?_)
       go_simp
       refine (actgreat_is x _ HXW.out).mono ?_
       rintro e w9 ⟨rfl, rfl⟩
       refine hK9 _ _ (HS.out _ HBY.out) ?_
       clear hK9 K9
       try go_frame
       refine wpY_es (fun K9 hK9 => ?_)
       go_simp
       refine (HFC.out (Plus D' X2 Y) _ (HDO.out.gt.plus HBY.out)).mono ?_
       rintro e V ⟨rfl, hgV, hFV, hKV⟩
       have hqV : Blk V X2.heap.size 23 #[.int .i64 0, .string ⟨#[]⟩, .int .i64 0] := HQY.out.fr hFV (fun hn => hn (.inr ⟨Nat.le_refl _, HQY.out.lt⟩))
       have HGV := Lib.hid hgV
       have HFV := Lib.hid ((Fr.of_new (M := fun k => ¬ D' k) HBY.out).trans (hFV.mono (fun k _ hk hd => hk (.inl hd))))
       have HKV := Lib.hid ((KB.of_below HBY.out).trans hKV)
       have hTV := HKV.out _ _ _ (by decide) (by decide) (by decide) (by decide) HDO.out.tr.1
       have HTV := Lib.hid hTV
       have HQV := Lib.hid hqV
       have HSV := Lib.hid (show V.cell? ⟨w3.heap.size, 0, none⟩ = some (.pointer (some ⟨T1.b, 0, none⟩)) from (hTV.cell 0).trans rfl)
       obtain ⟨u0, u1, u2, f0, f1, f2, uz⟩ := hqV.z3
       clear hgV hFV hKV hTV hqV
       refine hK9 _ _ (HSV.out) ?_
       clear hK9 K9
       try go_frame
       repeat (refine wpY_w ?_ (Or.inl ⟨by rfl, fun w9 => ?_⟩) ?_; rotate_left 1; go_simp; with_reducible rfl; go_frame)
       refine wpY_es (fun K9 hK9 => ?_)
       go_simp
       have hntr : w3.heap.size ≠ X2.heap.size := by omega
       have HTZ := Lib.hid (((HTV.out.far (p := ⟨X2.heap.size, 0, none⟩) hntr (.int .i64 s.kind)).far (p := ⟨X2.heap.size, 1, none⟩) hntr (.string s.text)).far (p := ⟨X2.heap.size, 2, none⟩) hntr (.int .i64 s.n))
       refine hK9 _ _ ((HTZ.out.cell 0).trans rfl) ?_
       clear hK9 K9 u0 u1 u2 f0 f1 f2
       try go_frame
       repeat (refine wpY_w ?_ (Or.inl ⟨by rfl, fun w9 => ?_⟩) ?_; rotate_left 1; go_simp; with_reducible rfl; go_frame)
       refine wpY_nil ?_
       simp only [OnlyN_normal]
       refine hKK _ _ ?_
       clear hKK KK
       obtain ⟨Z, hZ⟩ : ∃ Z, Z = ((V.setCell ⟨X2.heap.size, 0, none⟩ (.int .i64 s.kind)).setCell ⟨X2.heap.size, 1, none⟩ (.string s.text)).setCell ⟨X2.heap.size, 2, none⟩ (.int .i64 s.n) := ⟨_, rfl⟩
       have hFZ0 : Fr (· = X2.heap.size) V Z := by
        rw [hZ]
        exact (((Fr.refl (· = X2.heap.size) V).setCell (p := ⟨X2.heap.size, 0, none⟩) (.inl rfl) _).setCell (p := ⟨X2.heap.size, 1, none⟩) (.inl rfl) _).setCell (p := ⟨X2.heap.size, 2, none⟩) (.inl rfl) _
       have hKZ0 : KB V Z := fun g t cs _ h2 _ _ hb => hb.fr hFZ0 (hb.ne_ HQV.out h2)
       have hlow2 := HDO.out.gt.low
       have HQ := Lib.hid (show Blk Z X2.heap.size 23 #[.int .i64 s.kind, .string s.text, .int .i64 s.n] by
        rw [hZ]; simpa using ((HQV.out.set_ 0 (.int .i64 s.kind)).set_ 1 (.string s.text)).set_ 2 (.int .i64 s.n))
       have HGZ := Lib.hid (show GT2 D' Z T T1 L L2 from (HGV.out.grow (hFZ0.mono (fun k _ hk => by subst hk; exact .inr ⟨Nat.le_refl _, HQY.out.lt⟩)) hKZ0).weaken (fun k hk => .inl (.inl hk)))
       have HFZ := Lib.hid (HFV.out.trans (hFZ0.mono (fun k _ hk hd => by have := hlow2 k hd; omega)))
       have HKZ := Lib.hid (HKV.out.trans hKZ0)
       rw [← hZ]
       obtain ⟨q, hq⟩ : ∃ q, q = X2.heap.size := ⟨_, rfl⟩
       rw [← hq] at HQ ⊢
       clear hZ hFZ0 hKZ0 hlow2 HGV HFV HKV HSV HTV HTZ HQV hq hntr
       obtain ⟨q0, q1, q2, -, -, -, qz⟩ := HQ.out.s3
       have KBB := Lib.hid (HKZ.out _ _ _ (by decide) (by decide) (by decide) (by decide) HDO.out.bb.1)
       have KRO := Lib.hid (HKZ.out _ _ _ (by decide) (by decide) (by decide) (by decide) HDO.out.ro.1)
       have KRB := Lib.hid (HKZ.out _ _ _ (by decide) (by decide) (by decide) (by decide) HDO.out.rb.1)
       have KRE := Lib.hid (HKZ.out _ _ _ (by decide) (by decide) (by decide) (by decide) HDO.out.re.1)
       have KTR := Lib.hid (HKZ.out _ _ _ (by decide) (by decide) (by decide) (by decide) HDO.out.tr.1)
       have KROW := Lib.hid (owns_kb HDO.out.row.1 HKZ.out (by decide) (by decide) (by decide) (by decide))
       by_cases hfe0 : fe = 0
       · have t1 : (fe == 0) = true := by simp [hfe0]
         have t2 : decide (fe = 0) = true := by simp [hfe0]
         have HFE0 := Lib.hid hfe0
         have b0 := (KBB.out.cell 0).trans rfl
         have bf := KBB.out.frozen 0
         have bz := KBB.out.lt
         have hprl : pre.length ≤ 48 := by
          have h1 := congrArg List.length HX.out
          rw [HNW.out] at h1
          have h2 := news_len l p.acts
          simp at h1; omega
         obtain ⟨X9, hX9⟩ : ∃ X9, X9 = Z.alloc (.cells #[.string x, .int .i64 s.kind, .string s.text, .int .i64 s.n] 36) := ⟨_, rfl⟩
         have hb9 : Below Z.heap.size Z X9 := by rw [hX9]; exact (Below.refl _ _).alloc (Nat.le_refl _) _
         have HX9 := Lib.hid hX9
         have HB9 := Lib.hid hb9
         have HO9 := Lib.hid (ownsRow_new KROW.out hb9)
         have HN9 := Lib.hid (show ∀ (j : Nat) (u : Value), (BindT.cells ⟨x, s⟩)[j]? = some u → X9.cell? ((⟨Z.heap.size, 0, none⟩ : Addr).add j) = some u by rw [hX9]; exact news_alloc rfl)
         clear hfe0 tr0 trz hX9 hb9
         gi_wp2_with (gi_at_builtin; rw [← HX9.out]; refine wpListIn_app X9 rfl (.tmp 56) (.tmp 60) 28 rfl 36 i0 _ 4 48 Tryz.underlying28 hi0 hz0 hz1 hz2 rfl (by decide) _ (l.length + pre.length) _ rfl HO9.out _ 1 1 (BindT.cells ⟨x, s⟩) rfl rfl (fun _ => ⟨_, rfl, HN9.out⟩) (by intro u hu; simp only [BindT.cells, List.mem_cons, List.not_mem_nil, or_false] at hu; rcases hu with rfl | rfl | rfl | rfl <;> rfl) (by unfold maxLen; omega) (by omega) ?_; intro v' w6 hown hg hnil hat; obtain ⟨A3, c3, rfl, hF3, hA3, hO3⟩ := grown_own (E := fun k => ∃ a, A = some a ∧ a.block = k) (fun a ha => ⟨a, ha, rfl⟩) hown hg hat; have HF3 := Lib.hid hF3; have HA3 := Lib.hid hA3; have HO3 := Lib.hid hO3; have hkb6 := (KBB.out.new_ HB9.out).grown hg (own_blk_ne HO9.out (KBB.out.new_ HB9.out) (by decide)); have b0 := (hkb6.cell 0).trans rfl; have bf := hkb6.frozen 0; have bz := hkb6.lt; have KBB6 := Lib.hid hkb6; clear hkb6 hown hg hnil hat hF3 hA3 hO3)
         have hF7 : Fr (fun k => (∃ a, A = some a ∧ a.block = k) ∨ k = w4.heap.size) Z (w6.setCell ⟨w4.heap.size, 0, none⟩ (.slice A3 (l.length + pre.length + 1) c3)) :=
          ((Fr.of_new HB9.out).trans (HF3.out.mono (fun k _ hk => .inl hk))).setCell (p := ⟨w4.heap.size, 0, none⟩) (.inl (.inr rfl)) _
         have hnD : ∀ k, ((∃ a, A = some a ∧ a.block = k) ∨ k = w4.heap.size) → ¬ D' k := by
          rintro k (⟨a, ha, rfl⟩ | rfl)
          · exact HDO.out.row.2 a ha
          · exact HDO.out.bb.2
         have hM : ∀ k, ((∃ a, A = some a ∧ a.block = k) ∨ k = w4.heap.size) → OtherT Z k := by
          rintro k (⟨a, ha, rfl⟩ | rfl)
          · subst ha
            rcases KROW.out.2 with ⟨hv, _⟩ | ⟨g, cap, cur, hv, _, hg, _⟩
            · cases hv
            · injection hv with hv
              injection hv with hv
              subst hv
              exact OtherT.of (t := 36) (cs := cur) hg (by decide) (by decide) (by decide) (by decide) (by decide) (by decide)
          · exact OtherT.of KBB.out (by decide) (by decide) (by decide) (by decide) (by decide) (by decide)
         have hlowZ := HGZ.out.low
         have hz9 := HB9.out.size
         have hzw : w.heap.size ≤ Z.heap.size := by have := HB35.out.size; have := HDO.out.fr.size; have := HFZ.out.size; omega
         have hA3 : ∀ a, A3 = some a → (∃ b, A = some b ∧ b.block = a.block) ∨ Z.heap.size ≤ a.block := fun a ha => by
          rcases HA3.out a ha with h | h
          · exact .inl h
          · exact .inr (by omega)
         have e1 : l.length + (pre ++ [x]).length = l.length + pre.length + 1 := by simp; omega
         have e2 : (frsAll T1.room l L (pre ++ [x])).1 = (frsAll T1.room l L pre).1 ++ [⟨x, s⟩] := by rw [frsAll_snoc, HSS.out]; rfl
         have e3 : (frsAll T1.room l L (pre ++ [x])).2 = L2 := by rw [frsAll_snoc, HL2.out]; rfl
         have hoth : ∀ {k : Nat} {t : TypeId} {cs : Array Value}, Blk Z k t cs → t ≠ 36 → k ≠ w4.heap.size → Blk (w6.setCell ⟨w4.heap.size, 0, none⟩ (.slice A3 (l.length + pre.length + 1) c3)) k t cs := fun {k t cs} hb hne hk => by
          refine hb.fr hF7 ?_
          rintro (⟨a, ha, rfl⟩ | h)
          · subst ha
            exact own_blk_ne KROW.out hb (Ne.symm hne) (by simp [Value.ownBlock])
          · exact hk h
         refine ⟨HFZ.out.trans (hF7.mono (fun k _ hk => hnD k hk)), ?_⟩
         rw [HI.out]
         refine ⟨A3, c3, ⟨by rw [e3]; exact HGZ.out.offT hM hF7, HDO.out.di, ⟨?_, HDO.out.bb.2⟩, ⟨?_, fun a ha hd => ?_⟩, fun a ha => ?_, ⟨hoth KTR.out (by decide) (KTR.out.ne_ KBB.out (by decide)), HDO.out.tr.2⟩, ⟨hoth KRO.out (by decide) (KRO.out.ne_ KBB.out (by decide)), HDO.out.ro.2⟩, ⟨hoth KRB.out (by decide) (fun e => ?_), HDO.out.rb.2⟩, ⟨hoth KRE.out (by decide) (KRE.out.ne_ KBB.out (by decide)), HDO.out.re.2⟩, (HDO.out.fr.trans (HFZ.out.mono (fun k _ hk hd => hk (HDO.out.di k hd)))).trans (hF7.mono (fun k _ hk hd => hnD k hk (HDO.out.di k hd))), fun post' hp => ?_⟩⟩
         · rw [e1]
           simpa using KBB6.out.set_ 0 (.slice A3 (l.length + pre.length + 1) c3)
         · rw [e1, e2, List.flatMap_append]
           have := ownsRow_setCell_other (a := ⟨w4.heap.size, 0, none⟩) HO3.out (own_blk_ne HO3.out KBB6.out (by decide)) (.slice A3 (l.length + pre.length + 1) c3)
           simpa using this
         · rcases hA3 a ha with ⟨b, hb, e⟩ | h
           · exact HDO.out.row.2 b hb (e ▸ hd)
           · have := hlowZ _ hd; omega
         · rcases hA3 a ha with ⟨b, hb, e⟩ | h
           · have := HDO.out.from_ b hb; omega
           · omega
         · have := HSZ.out; omega
         · have h1 := HDO.out.err (x :: post') (by rw [hp]; simp)
           rw [h1, freshErr_cons, if_neg (by rw [← HFE.out]; simp [HFE0.out]), e3, HL2.out]
       · have t1 : (fe == 0) = false := by simp [hfe0]
         have t2 : decide (fe = 0) = false := by simp [hfe0]
         have HFE0 := Lib.hid hfe0
         have o0 := (KRO.out.cell 0).trans rfl
         have of_ := KRO.out.frozen 0
         have oz := KRO.out.lt
         have r0 := (KRB.out.cell 0).trans rfl
         have rf_ := KRB.out.frozen 0
         have rz := KRB.out.lt
         have e0 := (KRE.out.cell 0).trans rfl
         have ef_ := KRE.out.frozen 0
         have ez := KRE.out.lt
         clear hfe0 tr0 trz q0 q1 q2
         gi_wp2_with fail
         have hF3 : Fr (fun k => k = w.heap.size + 1 ∨ k = w.heap.size + 1 + 1 ∨ k = w.heap.size + 1 + 1 + 1) Z (((Z.setCell ⟨w.heap.size + 1, 0, none⟩ (.slice none 0 0)).setCell ⟨w.heap.size + 1 + 1, 0, none⟩ (.slice none 0 0)).setCell ⟨w.heap.size + 1 + 1 + 1, 0, none⟩ (.int .i64 fe)) :=
          (((Fr.refl _ Z).setCell (p := ⟨w.heap.size + 1, 0, none⟩) (.inl (.inl rfl)) _).setCell (p := ⟨w.heap.size + 1 + 1, 0, none⟩) (.inl (.inr (.inl rfl))) _).setCell (p := ⟨w.heap.size + 1 + 1 + 1, 0, none⟩) (.inl (.inr (.inr rfl))) _
         have hnD : ∀ k, (k = w.heap.size + 1 ∨ k = w.heap.size + 1 + 1 ∨ k = w.heap.size + 1 + 1 + 1) → ¬ D' k := by
          rintro k (rfl | rfl | rfl)
          · exact HDO.out.ro.2
          · exact HDO.out.rb.2
          · exact HDO.out.re.2
         have hM : ∀ k, (k = w.heap.size + 1 ∨ k = w.heap.size + 1 + 1 ∨ k = w.heap.size + 1 + 1 + 1) → OtherT Z k := by
          rintro k (rfl | rfl | rfl)
          · exact OtherT.of KRO.out (by decide) (by decide) (by decide) (by decide) (by decide) (by decide)
          · exact OtherT.of KRB.out (by decide) (by decide) (by decide) (by decide) (by decide) (by decide)
          · exact OtherT.of KRE.out (by decide) (by decide) (by decide) (by decide) (by decide) (by decide)
         have herr : freshErr T.room L (doNews l p.acts) = fe := by
          rw [← HNW.out, ← HRO.out, HDO.out.err _ HX.out, freshErr_cons, ← HFE.out, if_pos HFE0.out]
         refine ⟨HFZ.out.trans (hF3.mono (fun k _ hk => hnD k hk)), ?_⟩
         rw [HIX.out]
         refine ⟨rfl, fe, ⟨by rw [HRR.out]; exact doV_err herr HFE0.out, (HGZ.out.offT hM hF3).one, HLTS.out.1, HDO.out.di, ⟨?_, HDO.out.ro.2⟩, ⟨?_, HDO.out.rb.2⟩, ⟨?_, HDO.out.re.2⟩, (HDO.out.fr.trans (HFZ.out.mono (fun k _ hk hd => hk (HDO.out.di k hd)))).trans (hF3.mono (fun k _ hk hd => hnD k hk (HDO.out.di k hd)))⟩⟩
         · simpa using ((KRO.out.set_ 0 (.slice none 0 0)).far (p := ⟨w.heap.size + 1 + 1, 0, none⟩) (by dsimp only; omega) (.slice none 0 0)).far (p := ⟨w.heap.size + 1 + 1 + 1, 0, none⟩) (by dsimp only; omega) (.int .i64 fe)
         · simpa using (((KRB.out.far (p := ⟨w.heap.size + 1, 0, none⟩) (by dsimp only; omega) (.slice none 0 0)).set_ 0 (.slice none 0 0)).far (p := ⟨w.heap.size + 1 + 1 + 1, 0, none⟩) (by dsimp only; omega) (.int .i64 fe))
         · simpa using (((KRE.out.far (p := ⟨w.heap.size + 1, 0, none⟩) (by dsimp only; omega) (.slice none 0 0)).far (p := ⟨w.heap.size + 1 + 1, 0, none⟩) (by dsimp only; omega) (.slice none 0 0)).set_ 0 (.int .i64 fe))
   · intro D' d X hd hDd hIX hK
     rw [hI] at hIX
     obtain ⟨A, c, hdo⟩ := hIX
     obtain ⟨s0, hs0, hs1, hs2, hs3⟩ := info_parts info_Sym
     obtain ⟨j0, hj0, hy0, hy1, hy2⟩ := info_parts info_Pref
     obtain ⟨b, hb0⟩ : ∃ b, b = (frsAll T1.room l L news).1 := ⟨_, rfl⟩
     obtain ⟨L2, hL2⟩ : ∃ s, s = (frsAll T1.room l L news).2 := ⟨_, rfl⟩
     have hbl : l.length + news.length = b.length := by rw [hb0, frsAll_len]
     have HBL := Lib.hid hbl
     have hgt := hdo.gt
     rw [← hL2] at hgt
     have hbb := hdo.bb.1
     have hrow := hdo.row.1
     rw [← hb0, hbl] at hrow
     rw [hbl] at hbb
     have HGT := Lib.hid hgt
     have KBB := Lib.hid hbb
     have KROW := Lib.hid hrow
     have HBR := Lib.hid (show ∀ Y, Below X.heap.size X Y → RowR repBindT (fun _ => True) Y A c b from fun Y hY => RowR.of_rd (ownsRow_rd BindT.cells_length (ownsRow_new hrow hY)) (fun _ _ => trivial))
     have HDO := Lib.hid hdo
     have HK := Lib.hid hK
     have HB0 := Lib.hid hb0
     have HL2 := Lib.hid hL2
     have hrn := frsAll_err (l := l) (pre := news) (hdo.err [] (by simp))
     have HERR := Lib.hid hrn
     have KPX := Lib.hid (Kp.out.fr hdo.fr (fun hn => hn (HDS.out _ HXp.out)))
     have HRAX := Lib.hid (show RowR repActT DI X A2 c2 p.acts from HRA.out.fr hdo.fr (fun k hk hn => hn hk))
     have p2 := (KPX.out.cell 2).trans rfl
     have pz := KPX.out.lt
     have hbn : b.length ≤ 1048 := by
      rw [← hbl, HNW.out]
      have := news_len l p.acts
      omega
     clear hgt hbb hrow hdo hK hb0 hL2 hrn hI hIx hst hstx HST hbl
     go_wp2_with fail
     go_loopw [16, 17, 65] (fun so sp si wr => ∃ (i : Nat) (D3 : Nat → Prop) (Ao : Option Addr) (co : Nat) (Ap : Option Addr) (cp : Nat) (os : List PrefT) (ps : List Sym), si = .int .i64 i ∧ so = .slice Ao os.length co ∧ sp = .slice Ap ps.length cp ∧ os = (p.acts.take i).filterMap (prefA b) ∧ ps = (p.acts.take i).flatMap (putA b) ∧ i ≤ p.acts.length ∧ os.length ≤ i ∧ ps.length ≤ 4 * i ∧ GT2 D3 wr T T1 L L2 ∧ (∀ k, D' k → D3 k) ∧ Below X.heap.size X wr ∧
      wr.ownsRow 0 74 16 (.slice Ao os.length co) os.length (os.flatMap PrefT.cells) ∧ AIn Ao (X.heap.size ≤ ·) ∧
      wr.ownsRow 0 23 3 (.slice Ap ps.length cp) ps.length (ps.flatMap Sym.cells) ∧ AIn Ap D3 ∧ AIn Ap (X.heap.size ≤ ·)) (fun so sp si wr => p.acts.length - (intOf si).toNat)
     case atStart => exact ⟨0, D', none, 0, none, 0, [], [], rfl, rfl, rfl, rfl, rfl, Nat.zero_le _, Nat.zero_le _, Nat.zero_le _, HGT.out, fun k hk => hk, Below.refl _ _, owns_nil _ _ _ _, AIn.none_ _, owns_nil _ _ _ _, AIn.none_ _, AIn.none_ _⟩
     case round =>
      obtain ⟨i, D3, Ao, co, Ap, cp, os, ps, rfl, rfl, rfl, hos, hps, hi, hosl, hpsl, hg3, hd3, hbX, hoo, hao, hop, hap, hap2⟩ := hrel
      have HOS := Lib.hid hos
      have HPS := Lib.hid hps
      have HG3 := Lib.hid hg3
      have HD3 := Lib.hid hd3
      have HBX := Lib.hid hbX
      have HOO := Lib.hid hoo
      have HAO := Lib.hid hao
      have HOP := Lib.hid hop
      have HAP := Lib.hid hap
      have HAP2 := Lib.hid hap2
      have hzX := hbX.size
      clear hos hps hg3 hd3 hbX hoo hao hop hap hap2 p2 pz
      by_cases hlt : i < p.acts.length
      · skip
        obtain ⟨y, hy⟩ : ∃ y, y = p.acts[i] := ⟨_, rfl⟩
        have h2r := HRAX.out.new_ HBX.out
        obtain ⟨gg, oo, hAA, _, hgg, _⟩ := at_ActT h2r hlt
        have hRG : wr.rangeAt gg (oo + i * 19) [.string y.id, .string y.attr.var, .int .i64 y.attr.sym.kind, .string y.attr.sym.text, .int .i64 y.attr.sym.n, .int .i64 y.value.op, .string y.value.a.var, .int .i64 y.value.a.sym.kind, .string y.value.a.sym.text, .int .i64 y.value.a.sym.n, .string y.value.b.var, .int .i64 y.value.b.sym.kind, .string y.value.b.sym.text, .int .i64 y.value.b.sym.n, .int .i64 y.pref, .string y.other.var, .int .i64 y.other.sym.kind, .string y.other.sym.text, .int .i64 y.other.sym.n] := fun j v hv => by
         obtain ⟨g', off', cs, e1, _, _, hr, hc⟩ := h2r.at_ hlt
         rw [hAA] at e1
         cases e1
         have hr2 : cs = ActT.cells p.acts[i] := hr
         subst hr2
         rw [← hy] at hc
         exact hc j v hv
        have HRG := Lib.hid hRG
        have htk : p.acts.take (i + 1) = p.acts.take i ++ [y] := by rw [List.take_succ_eq_append_getElem hlt, hy]
        have HTK := Lib.hid htk
        subst hAA
        have b1 : (0 : Int) ≤ (i : Int) := by omega
        have b2 : (i : Int) < (p.acts.length : Int) := by omega
        obtain ⟨W6, hW6, hth, hrg, hb6, hz6⟩ := kept_new (w := wr) (t := 65) [.string ⟨#[]⟩, .string ⟨#[]⟩, .int .i64 0, .string ⟨#[]⟩, .int .i64 0, .int .i64 0, .string ⟨#[]⟩, .int .i64 0, .string ⟨#[]⟩, .int .i64 0, .string ⟨#[]⟩, .int .i64 0, .string ⟨#[]⟩, .int .i64 0, .int .i64 0, .string ⟨#[]⟩, .int .i64 0, .string ⟨#[]⟩, .int .i64 0] [.string y.id, .string y.attr.var, .int .i64 y.attr.sym.kind, .string y.attr.sym.text, .int .i64 y.attr.sym.n, .int .i64 y.value.op, .string y.value.a.var, .int .i64 y.value.a.sym.kind, .string y.value.a.sym.text, .int .i64 y.value.a.sym.n, .string y.value.b.var, .int .i64 y.value.b.sym.kind, .string y.value.b.sym.text, .int .i64 y.value.b.sym.n, .int .i64 y.pref, .string y.other.var, .int .i64 y.other.sym.kind, .string y.other.sym.text, .int .i64 y.other.sym.n] rfl
        have HW6 := Lib.hid hW6
        have HTH := Lib.hid hth
        have Ky := Lib.hid (show Blk W6 wr.heap.size 65 #[.string y.id, .string y.attr.var, .int .i64 y.attr.sym.kind, .string y.attr.sym.text, .int .i64 y.attr.sym.n, .int .i64 y.value.op, .string y.value.a.var, .int .i64 y.value.a.sym.kind, .string y.value.a.sym.text, .int .i64 y.value.a.sym.n, .string y.value.b.var, .int .i64 y.value.b.sym.kind, .string y.value.b.sym.text, .int .i64 y.value.b.sym.n, .int .i64 y.pref, .string y.other.var, .int .i64 y.other.sym.kind, .string y.other.sym.text, .int .i64 y.other.sym.n] from kept_blk (zs := [.string ⟨#[]⟩, .string ⟨#[]⟩, .int .i64 0, .string ⟨#[]⟩, .int .i64 0, .int .i64 0, .string ⟨#[]⟩, .int .i64 0, .string ⟨#[]⟩, .int .i64 0, .string ⟨#[]⟩, .int .i64 0, .string ⟨#[]⟩, .int .i64 0, .int .i64 0, .string ⟨#[]⟩, .int .i64 0, .string ⟨#[]⟩, .int .i64 0]) (vs := [.string y.id, .string y.attr.var, .int .i64 y.attr.sym.kind, .string y.attr.sym.text, .int .i64 y.attr.sym.n, .int .i64 y.value.op, .string y.value.a.var, .int .i64 y.value.a.sym.kind, .string y.value.a.sym.text, .int .i64 y.value.a.sym.n, .string y.value.b.var, .int .i64 y.value.b.sym.kind, .string y.value.b.sym.text, .int .i64 y.value.b.sym.n, .int .i64 y.pref, .string y.other.var, .int .i64 y.other.sym.kind, .string y.other.sym.text, .int .i64 y.other.sym.n]) rfl hW6 hrg)
        have HR_ := Lib.hid hb6
        have Kbb := Lib.hid (KBB.out.new_ (HBX.out.trans (hb6.mono hzX)))
        obtain ⟨⟨si, oi⟩, hsi⟩ : ∃ r, r = getB b y.id := ⟨_, rfl⟩
        obtain ⟨⟨sa, oa⟩, hsa⟩ : ∃ r, r = atomV y.attr b := ⟨_, rfl⟩
        obtain ⟨⟨sv, ov⟩, hsv⟩ : ∃ r, r = valueV y.value b := ⟨_, rfl⟩
        have hc1 := fun Y (hY : Below wr.heap.size wr Y) => get_is (D := fun _ => True) (A := A) (c := c) b y.id Y (HBR.out Y (HBX.out.trans (hY.mono hzX)))
        have hc2 := fun Y (hY : Below wr.heap.size wr Y) => atomV_is (D := fun _ => True) (A := A) (c := c) y.attr b Y (HBR.out Y (HBX.out.trans (hY.mono hzX)))
        have hc3 := fun Y (hY : Below wr.heap.size wr Y) => value_is (D := fun _ => True) (A := A) (c := c) y.value b Y (HBR.out Y (HBX.out.trans (hY.mono hzX)))
        simp only [← hsi] at hc1
        simp only [← hsa] at hc2
        simp only [← hsv] at hc3
        have HC1 := Lib.hid hc1
        have HC2 := Lib.hid hc2
        have HC3 := Lib.hid hc3
        have hPA : prefA b y = if ov = false ∨ rightB si sa sv = false then none else if otherB y.pref = true then (if validB (atomV y.other b).1 = false then none else some ⟨si, sa, sv, (atomV y.other b).1, y.pref, false, 0, 0⟩) else some ⟨si, sa, sv, zS, y.pref, false, 0, 0⟩ := by
         unfold prefA; rw [← hsi, ← hsa, ← hsv]
        have HPA := Lib.hid hPA
        clear hW6 hth hrg hb6 hy h2r hRG htk hc1 hc2 hc3 hsi hsa hsv hPA
        obtain ⟨y0, y1, y2, y3, y4, y5, y6, y7, y8, y9, y10, y11, y12, y13, y14, y15, y16, y17, y18⟩ := Ky.out.c19
        have yz := Ky.out.lt
        have bb0 := Kbb.out.c1
        have bbz := Kbb.out.lt
        go_wp2_with (first
         | (with_reducible refine wpList_load_mid rfl 65 _ rfl gg (oo + i * 19) rfl [.string y.id, .string y.attr.var, .int .i64 y.attr.sym.kind, .string y.attr.sym.text, .int .i64 y.attr.sym.n, .int .i64 y.value.op, .string y.value.a.var, .int .i64 y.value.a.sym.kind, .string y.value.a.sym.text, .int .i64 y.value.a.sym.n, .string y.value.b.var, .int .i64 y.value.b.sym.kind, .string y.value.b.sym.text, .int .i64 y.value.b.sym.n, .int .i64 y.pref, .string y.other.var, .int .i64 y.other.sym.kind, .string y.other.sym.text, .int .i64 y.other.sym.n] _ HRG.out Tryz.underlying65 rfl (by kernel_rfl) ?_)
         | ((with_reducible refine wpList_store_mid rfl 65 _ _ rfl wr.heap.size 0 #[.string y.id, .string y.attr.var, .int .i64 y.attr.sym.kind, .string y.attr.sym.text, .int .i64 y.attr.sym.n, .int .i64 y.value.op, .string y.value.a.var, .int .i64 y.value.a.sym.kind, .string y.value.a.sym.text, .int .i64 y.value.a.sym.n, .string y.value.b.var, .int .i64 y.value.b.sym.kind, .string y.value.b.sym.text, .int .i64 y.value.b.sym.n, .int .i64 y.pref, .string y.other.var, .int .i64 y.other.sym.kind, .string y.other.sym.text, .int .i64 y.other.sym.n] rfl rfl HTH.out (by kernel_rfl) (by kernel_rfl) ?_); rw [← HW6.out]))
        with_reducible refine (HC1.out _ (by (repeat (first | exact Below.refl _ _ | exact HR_.out | refine Below.drew ?_ | refine Below.al ?_ _ | refine Below.sc ?_ _)))).mono ?_
        rintro e w7 ⟨rfl, hb⟩
        have hbs := Below.trans (show Below W6.heap.size W6 _ from (by (repeat (first | exact Below.refl _ _ | refine Below.drew ?_ | refine Below.al ?_ _ | refine Below.sc ?_ _)))) (hb.mono (by simp <;> omega))
        have Ky := Lib.hid (Ky.out.new_ hbs)
        have Kbb := Lib.hid (Kbb.out.new_ hbs)
        have HR_ := Lib.hid (HR_.out.trans (hbs.mono HR_.out.size))
        have hsz7 := hbs.size
        clear y0 y1 y2 y3 y4 y5 y6 y7 y8 y9 y10 y11 y12 y13 y14 y15 y16 y17 y18 yz bb0 bbz hb hbs
        obtain ⟨y0, y1, y2, y3, y4, y5, y6, y7, y8, y9, y10, y11, y12, y13, y14, y15, y16, y17, y18⟩ := Ky.out.c19
        have yz := Ky.out.lt
        have bb0 := Kbb.out.c1
        have bbz := Kbb.out.lt
        go_wp2_with fail
        with_reducible refine (HC2.out _ (by (repeat (first | exact Below.refl _ _ | exact HR_.out | refine Below.drew ?_ | refine Below.al ?_ _ | refine Below.sc ?_ _)))).mono ?_
        rintro e w8 ⟨rfl, hb⟩
        have hbs := Below.trans (show Below w7.heap.size w7 _ from (by (repeat (first | exact Below.refl _ _ | refine Below.drew ?_ | refine Below.al ?_ _ | refine Below.sc ?_ _)))) (hb.mono (by simp <;> omega))
        have Ky := Lib.hid (Ky.out.new_ hbs)
        have Kbb := Lib.hid (Kbb.out.new_ hbs)
        have Ki := Lib.hid (show Blk w8 (w7.heap.size) 23 #[.int .i64 si.kind, .string si.text, .int .i64 si.n] from (Blk.new _ _ _).new_ hb)
        have HR_ := Lib.hid (HR_.out.trans (hbs.mono HR_.out.size))
        have hsz8 := hbs.size
        clear y0 y1 y2 y3 y4 y5 y6 y7 y8 y9 y10 y11 y12 y13 y14 y15 y16 y17 y18 yz bb0 bbz hb hbs
        obtain ⟨y0, y1, y2, y3, y4, y5, y6, y7, y8, y9, y10, y11, y12, y13, y14, y15, y16, y17, y18⟩ := Ky.out.c19
        have yz := Ky.out.lt
        have bb0 := Kbb.out.c1
        have bbz := Kbb.out.lt
        obtain ⟨i0, i1, i2⟩ := Ki.out.c3
        have iz := Ki.out.lt
        go_wp2_with fail
        with_reducible refine (HC3.out _ (by (repeat (first | exact Below.refl _ _ | exact HR_.out | refine Below.drew ?_ | refine Below.al ?_ _ | refine Below.sc ?_ _)))).mono ?_
        rintro e w9 ⟨rfl, hb⟩
        have hbs := Below.trans (show Below w8.heap.size w8 _ from (by (repeat (first | exact Below.refl _ _ | refine Below.drew ?_ | refine Below.al ?_ _ | refine Below.sc ?_ _)))) (hb.mono (by simp <;> omega))
        have Ky := Lib.hid (Ky.out.new_ hbs)
        have Kbb := Lib.hid (Kbb.out.new_ hbs)
        have Ki := Lib.hid (Ki.out.new_ hbs)
        have Ka := Lib.hid (show Blk w9 (w8.heap.size) 23 #[.int .i64 sa.kind, .string sa.text, .int .i64 sa.n] from (Blk.new _ _ _).new_ hb)
        have HR_ := Lib.hid (HR_.out.trans (hbs.mono HR_.out.size))
        have hsz9 := hbs.size
        clear y0 y1 y2 y3 y4 y5 y6 y7 y8 y9 y10 y11 y12 y13 y14 y15 y16 y17 y18 yz bb0 bbz i0 i1 i2 iz hb hbs
        obtain ⟨y0, y1, y2, y3, y4, y5, y6, y7, y8, y9, y10, y11, y12, y13, y14, y15, y16, y17, y18⟩ := Ky.out.c19
        have yz := Ky.out.lt
        have bb0 := Kbb.out.c1
        have bbz := Kbb.out.lt
        obtain ⟨i0, i1, i2⟩ := Ki.out.c3
        have iz := Ki.out.lt
        obtain ⟨a0, a1, a2⟩ := Ka.out.c3
        have az := Ka.out.lt
        cases ov
        · skip
          have hno : prefA b y = none := by rw [HPA.out]; exact if_pos (.inl rfl)
          have HE1 := Lib.hid (show os = (p.acts.take (i + 1)).filterMap (prefA b) by rw [HTK.out, List.filterMap_append, ← HOS.out]; simp [hno])
          have HE2 := Lib.hid (show ps = (p.acts.take (i + 1)).flatMap (putA b) by rw [HTK.out, List.flatMap_append, ← HPS.out]; simp [putA, hno])
          clear hno
          go_wp2_with fail
          go_roundw
          case rel => exact ⟨i + 1, D3, Ao, co, Ap, cp, os, ps, by go_num, rfl, rfl, HE1.out, HE2.out, by omega, by omega, by omega, HG3.out.below (by (repeat (first | exact Below.refl _ _ | exact HR_.out | refine Below.drew ?_ | refine Below.al ?_ _ | refine Below.sc ?_ _))), HD3.out, HBX.out.trans (Below.mono (B := wr.heap.size) (by (repeat (first | exact Below.refl _ _ | exact HR_.out | refine Below.drew ?_ | refine Below.al ?_ _ | refine Below.sc ?_ _))) hzX), ownsRow_new HOO.out (by (repeat (first | exact Below.refl _ _ | exact HR_.out | refine Below.drew ?_ | refine Below.al ?_ _ | refine Below.sc ?_ _))), HAO.out, ownsRow_new HOP.out (by (repeat (first | exact Below.refl _ _ | exact HR_.out | refine Below.drew ?_ | refine Below.al ?_ _ | refine Below.sc ?_ _))), HAP.out, HAP2.out⟩
          case measure => simp [intOf] <;> omega
        · skip
          cases hr : rightB si sa sv
          · skip
            have hc := fun Y => right_is si sa sv Y
            simp only [hr] at hc
            have HC4 := Lib.hid hc
            clear hc
            go_wp2_with fail
            with_reducible refine (HC4.out _).mono ?_
            rintro e w10 ⟨rfl, hb⟩
            have hbs := Below.trans (show Below w9.heap.size w9 _ from (by (repeat (first | exact Below.refl _ _ | refine Below.drew ?_ | refine Below.al ?_ _ | refine Below.sc ?_ _)))) (hb.mono (by simp <;> omega))
            have Ky := Lib.hid (Ky.out.new_ hbs)
            have Kbb := Lib.hid (Kbb.out.new_ hbs)
            have Ki := Lib.hid (Ki.out.new_ hbs)
            have Ka := Lib.hid (Ka.out.new_ hbs)
            have Kv := Lib.hid (show Blk w10 (w9.heap.size) 23 #[.int .i64 sv.kind, .string sv.text, .int .i64 sv.n] from (Blk.new _ _ _).new_ hb)
            have HR_ := Lib.hid (HR_.out.trans (hbs.mono HR_.out.size))
            have hsz10 := hbs.size
            clear y0 y1 y2 y3 y4 y5 y6 y7 y8 y9 y10 y11 y12 y13 y14 y15 y16 y17 y18 yz bb0 bbz i0 i1 i2 iz a0 a1 a2 az hb hbs
            obtain ⟨y0, y1, y2, y3, y4, y5, y6, y7, y8, y9, y10, y11, y12, y13, y14, y15, y16, y17, y18⟩ := Ky.out.c19
            have yz := Ky.out.lt
            have bb0 := Kbb.out.c1
            have bbz := Kbb.out.lt
            obtain ⟨i0, i1, i2⟩ := Ki.out.c3
            have iz := Ki.out.lt
            obtain ⟨a0, a1, a2⟩ := Ka.out.c3
            have az := Ka.out.lt
            obtain ⟨v0, v1, v2⟩ := Kv.out.c3
            have vz := Kv.out.lt
            have hno : prefA b y = none := by rw [HPA.out]; exact if_pos (.inr hr)
            have HE1 := Lib.hid (show os = (p.acts.take (i + 1)).filterMap (prefA b) by rw [HTK.out, List.filterMap_append, ← HOS.out]; simp [hno])
            have HE2 := Lib.hid (show ps = (p.acts.take (i + 1)).flatMap (putA b) by rw [HTK.out, List.flatMap_append, ← HPS.out]; simp [putA, hno])
            clear hno
            go_wp2_with fail
            go_roundw
            case rel => exact ⟨i + 1, D3, Ao, co, Ap, cp, os, ps, by go_num, rfl, rfl, HE1.out, HE2.out, by omega, by omega, by omega, HG3.out.below (by (repeat (first | exact Below.refl _ _ | exact HR_.out | refine Below.drew ?_ | refine Below.al ?_ _ | refine Below.sc ?_ _))), HD3.out, HBX.out.trans (Below.mono (B := wr.heap.size) (by (repeat (first | exact Below.refl _ _ | exact HR_.out | refine Below.drew ?_ | refine Below.al ?_ _ | refine Below.sc ?_ _))) hzX), ownsRow_new HOO.out (by (repeat (first | exact Below.refl _ _ | exact HR_.out | refine Below.drew ?_ | refine Below.al ?_ _ | refine Below.sc ?_ _))), HAO.out, ownsRow_new HOP.out (by (repeat (first | exact Below.refl _ _ | exact HR_.out | refine Below.drew ?_ | refine Below.al ?_ _ | refine Below.sc ?_ _))), HAP.out, HAP2.out⟩
            case measure => simp [intOf] <;> omega
          · skip
            have hc := fun Y => right_is si sa sv Y
            simp only [hr] at hc
            have HC4 := Lib.hid hc
            clear hc
            go_wp2_with fail
            with_reducible refine (HC4.out _).mono ?_
            rintro e w10 ⟨rfl, hb⟩
            have hbs := Below.trans (show Below w9.heap.size w9 _ from (by (repeat (first | exact Below.refl _ _ | refine Below.drew ?_ | refine Below.al ?_ _ | refine Below.sc ?_ _)))) (hb.mono (by simp <;> omega))
            have Ky := Lib.hid (Ky.out.new_ hbs)
            have Kbb := Lib.hid (Kbb.out.new_ hbs)
            have Ki := Lib.hid (Ki.out.new_ hbs)
            have Ka := Lib.hid (Ka.out.new_ hbs)
            have Kv := Lib.hid (show Blk w10 (w9.heap.size) 23 #[.int .i64 sv.kind, .string sv.text, .int .i64 sv.n] from (Blk.new _ _ _).new_ hb)
            have HR_ := Lib.hid (HR_.out.trans (hbs.mono HR_.out.size))
            have hsz10 := hbs.size
            clear y0 y1 y2 y3 y4 y5 y6 y7 y8 y9 y10 y11 y12 y13 y14 y15 y16 y17 y18 yz bb0 bbz i0 i1 i2 iz a0 a1 a2 az hb hbs
            obtain ⟨y0, y1, y2, y3, y4, y5, y6, y7, y8, y9, y10, y11, y12, y13, y14, y15, y16, y17, y18⟩ := Ky.out.c19
            have yz := Ky.out.lt
            have bb0 := Kbb.out.c1
            have bbz := Kbb.out.lt
            obtain ⟨i0, i1, i2⟩ := Ki.out.c3
            have iz := Ki.out.lt
            obtain ⟨a0, a1, a2⟩ := Ka.out.c3
            have az := Ka.out.lt
            obtain ⟨v0, v1, v2⟩ := Kv.out.c3
            have vz := Kv.out.lt
            have HP2 := Lib.hid (show prefA b y = if otherB y.pref = true then (if validB (atomV y.other b).1 = false then none else some ⟨si, sa, sv, (atomV y.other b).1, y.pref, false, 0, 0⟩) else some ⟨si, sa, sv, zS, y.pref, false, 0, 0⟩ by rw [HPA.out, if_neg (by simp [hr])])
            clear hr
            obtain ⟨Wp, hWp, htp, hrp, hbp, hzp⟩ := kept_new (w := w10) (t := 74) [.int .i64 0, .string ⟨#[]⟩, .int .i64 0, .int .i64 0, .string ⟨#[]⟩, .int .i64 0, .int .i64 0, .string ⟨#[]⟩, .int .i64 0, .int .i64 0, .string ⟨#[]⟩, .int .i64 0, .int .i64 0, .bool false, .int .i64 0, .int .i64 0] [.int .i64 si.kind, .string si.text, .int .i64 si.n, .int .i64 sa.kind, .string sa.text, .int .i64 sa.n, .int .i64 sv.kind, .string sv.text, .int .i64 sv.n, .int .i64 0, .string ⟨#[]⟩, .int .i64 0, .int .i64 y.pref, .bool false, .int .i64 0, .int .i64 0] rfl
            have HWp := Lib.hid hWp
            have HTP := Lib.hid htp
            have Kx := Lib.hid (show Blk Wp w10.heap.size 74 #[.int .i64 si.kind, .string si.text, .int .i64 si.n, .int .i64 sa.kind, .string sa.text, .int .i64 sa.n, .int .i64 sv.kind, .string sv.text, .int .i64 sv.n, .int .i64 0, .string ⟨#[]⟩, .int .i64 0, .int .i64 y.pref, .bool false, .int .i64 0, .int .i64 0] from kept_blk (zs := [.int .i64 0, .string ⟨#[]⟩, .int .i64 0, .int .i64 0, .string ⟨#[]⟩, .int .i64 0, .int .i64 0, .string ⟨#[]⟩, .int .i64 0, .int .i64 0, .string ⟨#[]⟩, .int .i64 0, .int .i64 0, .bool false, .int .i64 0, .int .i64 0]) (vs := [.int .i64 si.kind, .string si.text, .int .i64 si.n, .int .i64 sa.kind, .string sa.text, .int .i64 sa.n, .int .i64 sv.kind, .string sv.text, .int .i64 sv.n, .int .i64 0, .string ⟨#[]⟩, .int .i64 0, .int .i64 y.pref, .bool false, .int .i64 0, .int .i64 0]) rfl hWp hrp)
            have Ky := Lib.hid (Ky.out.new_ hbp)
            have Kbb := Lib.hid (Kbb.out.new_ hbp)
            have Ki := Lib.hid (Ki.out.new_ hbp)
            have Ka := Lib.hid (Ka.out.new_ hbp)
            have Kv := Lib.hid (Kv.out.new_ hbp)
            have HR_ := Lib.hid (HR_.out.trans (hbp.mono HR_.out.size))
            have hszp := hbp.size
            clear hWp htp hrp hbp hzp
            obtain ⟨y0, y1, y2, y3, y4, y5, y6, y7, y8, y9, y10, y11, y12, y13, y14, y15, y16, y17, y18⟩ := Ky.out.c19
            have yz := Ky.out.lt
            have bb0 := Kbb.out.c1
            have bbz := Kbb.out.lt
            obtain ⟨i0, i1, i2⟩ := Ki.out.c3
            have iz := Ki.out.lt
            obtain ⟨a0, a1, a2⟩ := Ka.out.c3
            have az := Ka.out.lt
            obtain ⟨v0, v1, v2⟩ := Kv.out.c3
            have vz := Kv.out.lt
            obtain ⟨x0, x1, x2, x3, x4, x5, x6, x7, x8, x9, x10, x11, x12, x13, x14, x15⟩ := Kx.out.c16
            have xf0 := Kx.out.frozen 0
            have xf1 := Kx.out.frozen 1
            have xf2 := Kx.out.frozen 2
            have xf3 := Kx.out.frozen 3
            have xf4 := Kx.out.frozen 4
            have xf5 := Kx.out.frozen 5
            have xf6 := Kx.out.frozen 6
            have xf7 := Kx.out.frozen 7
            have xf8 := Kx.out.frozen 8
            have xf9 := Kx.out.frozen 9
            have xf10 := Kx.out.frozen 10
            have xf11 := Kx.out.frozen 11
            have xf12 := Kx.out.frozen 12
            have xf13 := Kx.out.frozen 13
            have xf14 := Kx.out.frozen 14
            have xf15 := Kx.out.frozen 15
            have xz := Kx.out.lt
            by_cases h8 : y.pref = 8
            · skip
              have f8a : (y.pref == 8) = true := by simp [h8]
              have f8b : decide (y.pref = 8) = true := by simp [h8]
              have hob : otherB y.pref = true := by simp [otherB, h8]
              have HOB := Lib.hid hob
              rw [if_pos hob] at HP2
              clear hob h8
              obtain ⟨⟨st, ot⟩, hst⟩ : ∃ r, r = atomV y.other b := ⟨_, rfl⟩
              have hc5 := fun Y (hY : Below wr.heap.size wr Y) => atomV_is (D := fun _ => True) (A := A) (c := c) y.other b Y (HBR.out Y (HBX.out.trans (hY.mono hzX)))
              simp only [← hst] at hc5
              rw [← hst] at HP2
              have HC5 := Lib.hid hc5
              clear hc5 hst
              go_wp2_with ((with_reducible refine wpList_store_mid rfl 74 _ _ rfl w10.heap.size 0 #[.int .i64 si.kind, .string si.text, .int .i64 si.n, .int .i64 sa.kind, .string sa.text, .int .i64 sa.n, .int .i64 sv.kind, .string sv.text, .int .i64 sv.n, .int .i64 0, .string ⟨#[]⟩, .int .i64 0, .int .i64 y.pref, .bool false, .int .i64 0, .int .i64 0] rfl rfl HTP.out (by kernel_rfl) (by kernel_rfl) ?_); rw [← HWp.out])
              with_reducible refine (HC5.out _ (by (repeat (first | exact Below.refl _ _ | exact HR_.out | refine Below.drew ?_ | refine Below.al ?_ _ | refine Below.sc ?_ _)))).mono ?_
              rintro e w11 ⟨rfl, hb⟩
              have hbs := Below.trans (show Below Wp.heap.size Wp _ from (by (repeat (first | exact Below.refl _ _ | refine Below.drew ?_ | refine Below.al ?_ _ | refine Below.sc ?_ _)))) (hb.mono (by simp <;> omega))
              have Ky := Lib.hid (Ky.out.new_ hbs)
              have Kbb := Lib.hid (Kbb.out.new_ hbs)
              have Ki := Lib.hid (Ki.out.new_ hbs)
              have Ka := Lib.hid (Ka.out.new_ hbs)
              have Kv := Lib.hid (Kv.out.new_ hbs)
              have Kx := Lib.hid (Kx.out.new_ hbs)
              have HR_ := Lib.hid (HR_.out.trans (hbs.mono HR_.out.size))
              have hsz11 := hbs.size
              clear y0 y1 y2 y3 y4 y5 y6 y7 y8 y9 y10 y11 y12 y13 y14 y15 y16 y17 y18 yz bb0 bbz i0 i1 i2 iz a0 a1 a2 az v0 v1 v2 vz x0 x1 x2 x3 x4 x5 x6 x7 x8 x9 x10 x11 x12 x13 x14 x15 xf0 xf1 xf2 xf3 xf4 xf5 xf6 xf7 xf8 xf9 xf10 xf11 xf12 xf13 xf14 xf15 xz hb hbs
              obtain ⟨y0, y1, y2, y3, y4, y5, y6, y7, y8, y9, y10, y11, y12, y13, y14, y15, y16, y17, y18⟩ := Ky.out.c19
              have yz := Ky.out.lt
              have bb0 := Kbb.out.c1
              have bbz := Kbb.out.lt
              obtain ⟨i0, i1, i2⟩ := Ki.out.c3
              have iz := Ki.out.lt
              obtain ⟨a0, a1, a2⟩ := Ka.out.c3
              have az := Ka.out.lt
              obtain ⟨v0, v1, v2⟩ := Kv.out.c3
              have vz := Kv.out.lt
              obtain ⟨x0, x1, x2, x3, x4, x5, x6, x7, x8, x9, x10, x11, x12, x13, x14, x15⟩ := Kx.out.c16
              have xf0 := Kx.out.frozen 0
              have xf1 := Kx.out.frozen 1
              have xf2 := Kx.out.frozen 2
              have xf3 := Kx.out.frozen 3
              have xf4 := Kx.out.frozen 4
              have xf5 := Kx.out.frozen 5
              have xf6 := Kx.out.frozen 6
              have xf7 := Kx.out.frozen 7
              have xf8 := Kx.out.frozen 8
              have xf9 := Kx.out.frozen 9
              have xf10 := Kx.out.frozen 10
              have xf11 := Kx.out.frozen 11
              have xf12 := Kx.out.frozen 12
              have xf13 := Kx.out.frozen 13
              have xf14 := Kx.out.frozen 14
              have xf15 := Kx.out.frozen 15
              have xz := Kx.out.lt
              go_upto_region 24 with fail
              obtain ⟨Wo, hWo⟩ : ∃ Wo, Wo = ((w11.setCell ⟨w10.heap.size, 9, none⟩ (.int .i64 st.kind)).setCell ⟨w10.heap.size, 10, none⟩ (.string st.text)).setCell ⟨w10.heap.size, 11, none⟩ (.int .i64 st.n) := ⟨_, rfl⟩
              rw [← hWo]
              have hFo : Fr (· = w10.heap.size) w11 Wo := by
               rw [hWo]
               exact (((Fr.refl (· = w10.heap.size) w11).setCell (p := ⟨w10.heap.size, 9, none⟩) (.inl rfl) _).setCell (p := ⟨w10.heap.size, 10, none⟩) (.inl rfl) _).setCell (p := ⟨w10.heap.size, 11, none⟩) (.inl rfl) _
              have Ky := Lib.hid (Ky.out.fr hFo (Ky.out.ne_ Kx.out (by decide)))
              have Kbb := Lib.hid (Kbb.out.fr hFo (Kbb.out.ne_ Kx.out (by decide)))
              have Ki := Lib.hid (Ki.out.fr hFo (Ki.out.ne_ Kx.out (by decide)))
              have Ka := Lib.hid (Ka.out.fr hFo (Ka.out.ne_ Kx.out (by decide)))
              have Kv := Lib.hid (Kv.out.fr hFo (Kv.out.ne_ Kx.out (by decide)))
              have Kx := Lib.hid (show Blk Wo w10.heap.size 74 #[.int .i64 si.kind, .string si.text, .int .i64 si.n, .int .i64 sa.kind, .string sa.text, .int .i64 sa.n, .int .i64 sv.kind, .string sv.text, .int .i64 sv.n, .int .i64 st.kind, .string st.text, .int .i64 st.n, .int .i64 y.pref, .bool false, .int .i64 0, .int .i64 0] by
               rw [hWo]; simpa using ((Kx.out.set_ 9 (.int .i64 st.kind)).set_ 10 (.string st.text)).set_ 11 (.int .i64 st.n))
              have HR_ := Lib.hid (show Below wr.heap.size wr Wo by rw [hWo]; (repeat (first | exact Below.refl _ _ | exact HR_.out | refine Below.drew ?_ | refine Below.al ?_ _ | refine Below.sc ?_ _)))
              have hszo := hFo.size
              clear hWo hFo
              clear y0 y1 y2 y3 y4 y5 y6 y7 y8 y9 y10 y11 y12 y13 y14 y15 y16 y17 y18 yz bb0 bbz i0 i1 i2 iz a0 a1 a2 az v0 v1 v2 vz x0 x1 x2 x3 x4 x5 x6 x7 x8 x9 x10 x11 x12 x13 x14 x15 xf0 xf1 xf2 xf3 xf4 xf5 xf6 xf7 xf8 xf9 xf10 xf11 xf12 xf13 xf14 xf15 xz 
              obtain ⟨y0, y1, y2, y3, y4, y5, y6, y7, y8, y9, y10, y11, y12, y13, y14, y15, y16, y17, y18⟩ := Ky.out.c19
              have yz := Ky.out.lt
              have bb0 := Kbb.out.c1
              have bbz := Kbb.out.lt
              obtain ⟨i0, i1, i2⟩ := Ki.out.c3
              have iz := Ki.out.lt
              obtain ⟨a0, a1, a2⟩ := Ka.out.c3
              have az := Ka.out.lt
              obtain ⟨v0, v1, v2⟩ := Kv.out.c3
              have vz := Kv.out.lt
              obtain ⟨x0, x1, x2, x3, x4, x5, x6, x7, x8, x9, x10, x11, x12, x13, x14, x15⟩ := Kx.out.c16
              have xz := Kx.out.lt
              cases hvs : validB st
              · skip
                have hc := fun Y => valid_is st Y
                simp only [hvs] at hc
                have HC6 := Lib.hid hc
                clear hc
                go_wp2_with fail
                with_reducible refine (HC6.out _).mono ?_
                rintro e w12 ⟨rfl, hb⟩
                have hbs := Below.trans (show Below Wo.heap.size Wo _ from (by (repeat (first | exact Below.refl _ _ | refine Below.drew ?_ | refine Below.al ?_ _ | refine Below.sc ?_ _)))) (hb.mono (by simp <;> omega))
                have Ky := Lib.hid (Ky.out.new_ hbs)
                have Kbb := Lib.hid (Kbb.out.new_ hbs)
                have Ki := Lib.hid (Ki.out.new_ hbs)
                have Ka := Lib.hid (Ka.out.new_ hbs)
                have Kv := Lib.hid (Kv.out.new_ hbs)
                have Kx := Lib.hid (Kx.out.new_ hbs)
                have HR_ := Lib.hid (HR_.out.trans (hbs.mono HR_.out.size))
                have hsz12 := hbs.size
                clear y0 y1 y2 y3 y4 y5 y6 y7 y8 y9 y10 y11 y12 y13 y14 y15 y16 y17 y18 yz bb0 bbz i0 i1 i2 iz a0 a1 a2 az v0 v1 v2 vz x0 x1 x2 x3 x4 x5 x6 x7 x8 x9 x10 x11 x12 x13 x14 x15 xz hb hbs
                obtain ⟨y0, y1, y2, y3, y4, y5, y6, y7, y8, y9, y10, y11, y12, y13, y14, y15, y16, y17, y18⟩ := Ky.out.c19
                have yz := Ky.out.lt
                have bb0 := Kbb.out.c1
                have bbz := Kbb.out.lt
                obtain ⟨i0, i1, i2⟩ := Ki.out.c3
                have iz := Ki.out.lt
                obtain ⟨a0, a1, a2⟩ := Ka.out.c3
                have az := Ka.out.lt
                obtain ⟨v0, v1, v2⟩ := Kv.out.c3
                have vz := Kv.out.lt
                obtain ⟨x0, x1, x2, x3, x4, x5, x6, x7, x8, x9, x10, x11, x12, x13, x14, x15⟩ := Kx.out.c16
                have xz := Kx.out.lt
                have hno : prefA b y = none := by rw [HP2.out, if_pos hvs]
                have HE1 := Lib.hid (show os = (p.acts.take (i + 1)).filterMap (prefA b) by rw [HTK.out, List.filterMap_append, ← HOS.out]; simp [hno])
                have HE2 := Lib.hid (show ps = (p.acts.take (i + 1)).flatMap (putA b) by rw [HTK.out, List.flatMap_append, ← HPS.out]; simp [putA, hno])
                clear hno
                go_wp2_with fail
                go_roundw
                case rel => exact ⟨i + 1, D3, Ao, co, Ap, cp, os, ps, by go_num, rfl, rfl, HE1.out, HE2.out, by omega, by omega, by omega, HG3.out.below (by (repeat (first | exact Below.refl _ _ | exact HR_.out | refine Below.drew ?_ | refine Below.al ?_ _ | refine Below.sc ?_ _))), HD3.out, HBX.out.trans (Below.mono (B := wr.heap.size) (by (repeat (first | exact Below.refl _ _ | exact HR_.out | refine Below.drew ?_ | refine Below.al ?_ _ | refine Below.sc ?_ _))) hzX), ownsRow_new HOO.out (by (repeat (first | exact Below.refl _ _ | exact HR_.out | refine Below.drew ?_ | refine Below.al ?_ _ | refine Below.sc ?_ _))), HAO.out, ownsRow_new HOP.out (by (repeat (first | exact Below.refl _ _ | exact HR_.out | refine Below.drew ?_ | refine Below.al ?_ _ | refine Below.sc ?_ _))), HAP.out, HAP2.out⟩
                case measure => simp [intOf] <;> omega
              · skip
                have hc := fun Y => valid_is st Y
                simp only [hvs] at hc
                have HC6 := Lib.hid hc
                clear hc
                go_wp2_with fail
                with_reducible refine (HC6.out _).mono ?_
                rintro e w12 ⟨rfl, hb⟩
                have hbs := Below.trans (show Below Wo.heap.size Wo _ from (by (repeat (first | exact Below.refl _ _ | refine Below.drew ?_ | refine Below.al ?_ _ | refine Below.sc ?_ _)))) (hb.mono (by simp <;> omega))
                have Ky := Lib.hid (Ky.out.new_ hbs)
                have Kbb := Lib.hid (Kbb.out.new_ hbs)
                have Ki := Lib.hid (Ki.out.new_ hbs)
                have Ka := Lib.hid (Ka.out.new_ hbs)
                have Kv := Lib.hid (Kv.out.new_ hbs)
                have Kx := Lib.hid (Kx.out.new_ hbs)
                have HR_ := Lib.hid (HR_.out.trans (hbs.mono HR_.out.size))
                have hsz12 := hbs.size
                clear y0 y1 y2 y3 y4 y5 y6 y7 y8 y9 y10 y11 y12 y13 y14 y15 y16 y17 y18 yz bb0 bbz i0 i1 i2 iz a0 a1 a2 az v0 v1 v2 vz x0 x1 x2 x3 x4 x5 x6 x7 x8 x9 x10 x11 x12 x13 x14 x15 xz hb hbs
                obtain ⟨y0, y1, y2, y3, y4, y5, y6, y7, y8, y9, y10, y11, y12, y13, y14, y15, y16, y17, y18⟩ := Ky.out.c19
                have yz := Ky.out.lt
                have bb0 := Kbb.out.c1
                have bbz := Kbb.out.lt
                obtain ⟨i0, i1, i2⟩ := Ki.out.c3
                have iz := Ki.out.lt
                obtain ⟨a0, a1, a2⟩ := Ka.out.c3
                have az := Ka.out.lt
                obtain ⟨v0, v1, v2⟩ := Kv.out.c3
                have vz := Kv.out.lt
                obtain ⟨x0, x1, x2, x3, x4, x5, x6, x7, x8, x9, x10, x11, x12, x13, x14, x15⟩ := Kx.out.c16
                have xz := Kx.out.lt
                have HP2 := Lib.hid (show prefA b y = some ⟨si, sa, sv, st, y.pref, false, 0, 0⟩ by rw [HP2.out, if_neg (by simp [hvs])])
                clear hvs
                have HLOWP := Lib.hid (show ∀ g, (Value.slice Ap ps.length cp).ownBlock = some g → g < wr.heap.size from fun g hg => by
                 rcases Ap with _ | a
                 · simp [Value.ownBlock] at hg
                 · have e : a.block = g := by simpa [Value.ownBlock] using hg
                   exact e ▸ row_low HOP.out a rfl)
                obtain ⟨Y0, hY0⟩ : ∃ Y0, Y0 = w12.alloc (.cells #[.int .i64 st.kind, .string st.text, .int .i64 st.n] 23) := ⟨_, rfl⟩
                have HY0 := Lib.hid hY0
                have HNY0 := Lib.hid (show ∀ (j : Nat) (u : Value), ([.int .i64 st.kind, .string st.text, .int .i64 st.n] : List Value)[j]? = some u → Y0.cell? ((⟨w12.heap.size, 0, none⟩ : Addr).add j) = some u by rw [hY0]; exact news_alloc rfl)
                have hbw12 : Below w12.heap.size w12 Y0 := by rw [hY0]; exact (Below.refl _ _).alloc (Nat.le_refl _) _
                have HBY0 := Lib.hid (HR_.out.trans (hbw12.mono HR_.out.size))
                have KxY0 := Lib.hid (Kx.out.new_ hbw12)
                have KiY0 := Lib.hid (Ki.out.new_ hbw12)
                have KaY0 := Lib.hid (Ka.out.new_ hbw12)
                have KvY0 := Lib.hid (Kv.out.new_ hbw12)
                clear hY0 hbw12
                go_wp2_with (first
                 | (at_builtin; rw [← HY0.out]; refine wpList_append_src Y0 rfl (.tmp 130) (.tmp 133) 57 rfl 23 s0 _ 3 32 Tryz.underlying57 hs0 hs1 hs2 hs3 rfl (by decide) _ ps.length ((ps).flatMap Sym.cells) rfl (ownsRow_new HOP.out HBY0.out) _ 1 1 [.int .i64 st.kind, .string st.text, .int .i64 st.n] rfl rfl (fun _ => ⟨_, rfl, HNY0.out⟩) (by intro u hu; simp only [List.mem_cons, List.not_mem_nil, or_false] at hu; rcases hu with rfl | rfl | rfl <;> rfl) (by unfold maxLen; omega) (by omega) ?_; intro v' W7a hown hg hnil hat; have hKY := KB.grown (KB.refl Y0) (ownsRow_new HOP.out HBY0.out) hg; obtain ⟨AW7a, cW7a, DW7a, rfl, hg4, hd4, hap4, hap5, hk4, hb4, hf4, hc4⟩ := step_row (P := fun D W => GT2 D W T T1 L L2) (fun D W W' h hF hK => h.grow hF hK) (B := X.heap.size) HG3.out HBY0.out HOP.out HAP.out HAP2.out (by omega) hown hg hat; have Ki7 := Lib.hid (KiY0.out.grown hg (fun e => by have := HLOWP.out _ e; omega)); have Ka7 := Lib.hid (KaY0.out.grown hg (fun e => by have := HLOWP.out _ e; omega)); have Kv7 := Lib.hid (KvY0.out.grown hg (fun e => by have := HLOWP.out _ e; omega)); have Kx0 := Lib.hid (hKY _ _ _ (by decide) (by decide) (by decide) (by decide) KxY0.out); have HGB := Lib.hid hg4; have HDB := Lib.hid (fun k hk => hd4 k (HD3.out k hk)); have HAPB := Lib.hid hap4; have HAPB2 := Lib.hid hap5; have HXB := Lib.hid (HBX.out.trans hb4); have HOPB := Lib.hid (show W7a.ownsRow 0 23 3 (.slice AW7a (ps.length + 1) cW7a) (ps.length + 1) ((ps ++ [st]).flatMap Sym.cells) by rw [List.flatMap_append]; exact hown); have HOOB := Lib.hid (owns_kb (ownsRow_new HOO.out HBY0.out) hKY (by decide) (by decide) (by decide) (by decide)); have hz7a := hb4.size; have i0 := (Ki7.out.cell 0).trans rfl; have i1 := (Ki7.out.cell 1).trans rfl; have i2 := (Ki7.out.cell 2).trans rfl; have a0 := (Ka7.out.cell 0).trans rfl; have a1 := (Ka7.out.cell 1).trans rfl; have a2 := (Ka7.out.cell 2).trans rfl; have v0 := (Kv7.out.cell 0).trans rfl; have v1 := (Kv7.out.cell 1).trans rfl; have v2 := (Kv7.out.cell 2).trans rfl; have iz := Ki7.out.lt; have az := Ka7.out.lt; have vz := Kv7.out.lt; clear hown hg hnil hat hKY hg4 hd4 hap4 hap5 hk4 hb4 hf4 hc4; obtain ⟨Y1, hY1⟩ : ∃ Y1, Y1 = W7a.alloc (.cells #[.int .i64 si.kind, .string si.text, .int .i64 si.n, .int .i64 sa.kind, .string sa.text, .int .i64 sa.n, .int .i64 sv.kind, .string sv.text, .int .i64 sv.n] 23) := ⟨_, rfl⟩; have HY1 := Lib.hid hY1; have HNY1 := Lib.hid (show ∀ (j : Nat) (u : Value), ([.int .i64 si.kind, .string si.text, .int .i64 si.n, .int .i64 sa.kind, .string sa.text, .int .i64 sa.n, .int .i64 sv.kind, .string sv.text, .int .i64 sv.n] : List Value)[j]? = some u → Y1.cell? ((⟨W7a.heap.size, 0, none⟩ : Addr).add j) = some u by rw [hY1]; exact news_alloc rfl); have hbVY : Below W7a.heap.size W7a Y1 := (by rw [hY1]; exact (Below.refl _ _).alloc (Nat.le_refl _) _); have HBY1 := Lib.hid (hbVY); have KxY := Lib.hid (Kx0.out.new_ hbVY); clear hY1 hbVY)
                 | (at_builtin; rw [← HY1.out]; refine wpList_append_src Y1 rfl (.tmp 135) (.tmp 139) 57 rfl 23 s0 _ 3 32 Tryz.underlying57 hs0 hs1 hs2 hs3 rfl (by decide) _ (ps.length + 1) ((ps ++ [st]).flatMap Sym.cells) rfl (ownsRow_new HOPB.out HBY1.out) _ 3 3 [.int .i64 si.kind, .string si.text, .int .i64 si.n, .int .i64 sa.kind, .string sa.text, .int .i64 sa.n, .int .i64 sv.kind, .string sv.text, .int .i64 sv.n] rfl rfl (fun _ => ⟨_, rfl, HNY1.out⟩) (by intro u hu; simp only [List.mem_cons, List.not_mem_nil, or_false] at hu; rcases hu with rfl | rfl | rfl | rfl | rfl | rfl | rfl | rfl | rfl <;> rfl) (by unfold maxLen; omega) (by omega) ?_; intro v' W7 hown hg hnil hat; have hKY := KB.grown (KB.refl Y1) (ownsRow_new HOPB.out HBY1.out) hg; obtain ⟨AW7, cW7, DW7, rfl, hg4, hd4, hap4, hap5, hk4, hb4, hf4, hc4⟩ := step_row (P := fun D W => GT2 D W T T1 L L2) (fun D W W' h hF hK => h.grow hF hK) (B := X.heap.size) HGB.out HBY1.out HOPB.out HAPB.out HAPB2.out (by omega) hown hg hat; have Kx7 := Lib.hid (hKY _ _ _ (by decide) (by decide) (by decide) (by decide) KxY.out); have HRX := Lib.hid (Kx7.out.rangeAt (cs := [.int .i64 si.kind, .string si.text, .int .i64 si.n, .int .i64 sa.kind, .string sa.text, .int .i64 sa.n, .int .i64 sv.kind, .string sv.text, .int .i64 sv.n, .int .i64 st.kind, .string st.text, .int .i64 st.n, .int .i64 y.pref, .bool false, .int .i64 0, .int .i64 0])); have HG7 := Lib.hid hg4; have HD7 := Lib.hid hd4; have HAP7 := Lib.hid hap4; have HAP72 := Lib.hid hap5; have HB7 := Lib.hid hb4; have HOP7 := Lib.hid hown; have HOO7 := Lib.hid (owns_kb (ownsRow_new HOOB.out HBY1.out) hKY (by decide) (by decide) (by decide) (by decide)); have hz7 := hb4.size; clear hown hg hnil hat hKY hg4 hd4 hap4 hap5 hk4 hb4 hf4 hc4; obtain ⟨Y2, hY2⟩ : ∃ Y2, Y2 = W7.alloc (.cells #[.int .i64 si.kind, .string si.text, .int .i64 si.n, .int .i64 sa.kind, .string sa.text, .int .i64 sa.n, .int .i64 sv.kind, .string sv.text, .int .i64 sv.n, .int .i64 st.kind, .string st.text, .int .i64 st.n, .int .i64 y.pref, .bool false, .int .i64 0, .int .i64 0] 74) := ⟨_, rfl⟩; have HY2 := Lib.hid hY2; have HNY2 := Lib.hid (show ∀ (j : Nat) (u : Value), ([.int .i64 si.kind, .string si.text, .int .i64 si.n, .int .i64 sa.kind, .string sa.text, .int .i64 sa.n, .int .i64 sv.kind, .string sv.text, .int .i64 sv.n, .int .i64 st.kind, .string st.text, .int .i64 st.n, .int .i64 y.pref, .bool false, .int .i64 0, .int .i64 0] : List Value)[j]? = some u → Y2.cell? ((⟨W7.heap.size, 0, none⟩ : Addr).add j) = some u by rw [hY2]; exact news_alloc rfl); have HBY2 := Lib.hid (show Below W7.heap.size W7 Y2 by rw [hY2]; exact (Below.refl _ _).alloc (Nat.le_refl _) _); clear hY2)
                 | (with_reducible refine wpList_load_mid rfl 74 _ rfl w10.heap.size 0 rfl [.int .i64 si.kind, .string si.text, .int .i64 si.n, .int .i64 sa.kind, .string sa.text, .int .i64 sa.n, .int .i64 sv.kind, .string sv.text, .int .i64 sv.n, .int .i64 st.kind, .string st.text, .int .i64 st.n, .int .i64 y.pref, .bool false, .int .i64 0, .int .i64 0] _ HRX.out Tryz.underlying74 rfl (by kernel_rfl) ?_)
                 | (at_builtin; rw [← HY2.out]; refine wpList_append_src Y2 rfl (.tmp 141) (.tmp 143) 69 rfl 74 j0 _ 16 160 Tryz.underlying69 hj0 hy0 hy1 hy2 rfl (by decide) _ os.length (os.flatMap PrefT.cells) rfl (ownsRow_new HOO7.out HBY2.out) _ 1 1 [.int .i64 si.kind, .string si.text, .int .i64 si.n, .int .i64 sa.kind, .string sa.text, .int .i64 sa.n, .int .i64 sv.kind, .string sv.text, .int .i64 sv.n, .int .i64 st.kind, .string st.text, .int .i64 st.n, .int .i64 y.pref, .bool false, .int .i64 0, .int .i64 0] rfl rfl (fun _ => ⟨_, rfl, HNY2.out⟩) (by intro u hu; simp only [List.mem_cons, List.not_mem_nil, or_false] at hu; rcases hu with rfl | rfl | rfl | rfl | rfl | rfl | rfl | rfl | rfl | rfl | rfl | rfl | rfl | rfl | rfl | rfl <;> rfl) (by unfold maxLen; omega) (by omega) ?_; intro v' W8 hown hg hnil hat; obtain ⟨Ao8, co8, rfl, hF8, hA8, hO8⟩ := grown_own (E := fun k => ∃ a, Ao = some a ∧ a.block = k) (fun a ha => ⟨a, ha, rfl⟩) hown hg hat; have HF8 := Lib.hid hF8; have HA8 := Lib.hid hA8; have HO8 := Lib.hid hO8; clear hown hg hnil hat hF8 hA8 hO8))
                have hE : ∀ k, (∃ a, Ao = some a ∧ a.block = k) → OtherT Y2 k := by
                 rintro k ⟨a, ha, rfl⟩
                 subst ha
                 rcases (ownsRow_new HOO7.out HBY2.out).2 with ⟨hv, _⟩ | ⟨g, cap, cur, hv, _, hg, _⟩
                 · cases hv
                 · injection hv with hv
                   injection hv with hv
                   subst hv
                   exact OtherT.of (t := 74) (cs := cur) hg (by decide) (by decide) (by decide) (by decide) (by decide) (by decide)
                have hEX : ∀ k, (∃ a, Ao = some a ∧ a.block = k) → X.heap.size ≤ k := by
                 rintro k ⟨a, ha, rfl⟩
                 exact HAO.out a ha
                obtain ⟨pr, hpr0⟩ : ∃ pr : PrefT, pr = ⟨si, sa, sv, st, y.pref, false, 0, 0⟩ := ⟨_, rfl⟩
                have hpr : prefA b y = some pr := by rw [HP2.out, hpr0]
                have hpu : putA b y = [st, si, sa, sv] := by unfold putA; rw [hpr]; simp [HOB.out, hpr0]
                have e1 : os ++ [pr] = (p.acts.take (i + 1)).filterMap (prefA b) := by rw [HTK.out, List.filterMap_append, ← HOS.out]; simp [hpr]
                have e2 : (ps ++ [st]) ++ [si, sa, sv] = (p.acts.take (i + 1)).flatMap (putA b) := by rw [HTK.out, List.flatMap_append, ← HPS.out]; simp [hpu]
                have e3 : (os ++ [pr]).flatMap PrefT.cells = os.flatMap PrefT.cells ++ [.int .i64 si.kind, .string si.text, .int .i64 si.n, .int .i64 sa.kind, .string sa.text, .int .i64 sa.n, .int .i64 sv.kind, .string sv.text, .int .i64 sv.n, .int .i64 st.kind, .string st.text, .int .i64 st.n, .int .i64 y.pref, .bool false, .int .i64 0, .int .i64 0] := by rw [List.flatMap_append, hpr0]; rfl
                have e4 : ((ps ++ [st]) ++ [si, sa, sv]).flatMap Sym.cells = ((ps ++ [st])).flatMap Sym.cells ++ [.int .i64 si.kind, .string si.text, .int .i64 si.n, .int .i64 sa.kind, .string sa.text, .int .i64 sa.n, .int .i64 sv.kind, .string sv.text, .int .i64 sv.n] := by rw [List.flatMap_append]; rfl
                have e5 : ((ps ++ [st]) ++ [si, sa, sv]).length = (ps.length + 1) + 3 := by simp
                have e6 : (os ++ [pr]).length = os.length + 1 := by simp
                have hzY := HBY2.out.size
                have hzB := HXB.out.size
                have hput := ownsRow_fr (ownsRow_new HOP7.out HBY2.out) HF8.out (fun g hg ⟨a, ha, e⟩ => rows_ne (ownsRow_new HOP7.out HBY2.out) (ownsRow_new HOO7.out HBY2.out) (by decide) hg (by subst ha; simp [Value.ownBlock, e]))
                have hbel : Below X.heap.size X W8 := ((HXB.out.trans HB7.out).trans (HBY2.out.mono (by omega))).trans (HF8.out.below (by omega) (fun k hk hn => by have := hEX k hn; omega))
                go_roundw
                case rel => exact ⟨i + 1, DW7, Ao8, co8, AW7, cW7, os ++ [pr], (ps ++ [st]) ++ [si, sa, sv], by go_num, by rw [e6], by rw [e5], e1, e2, by omega, by rw [e6]; omega, by rw [e5]; omega, (HG7.out.below HBY2.out).offT hE HF8.out, fun k hk => HD7.out k (HDB.out k hk), hbel, by rw [e6, e3]; exact HO8.out, fun a ha => (HA8.out a ha).elim (hEX _) (fun h => by omega), by rw [e5, e4]; exact hput, HAP7.out, HAP72.out⟩
                case measure => simp [intOf] <;> omega
            · skip
              by_cases h9 : y.pref = 9
              · skip
                have f8a : (y.pref == 8) = false := by simp [h9]
                have f8b : decide (y.pref = 8) = false := by simp [h9]
                have f9a : (y.pref == 9) = true := by simp [h9]
                have f9b : decide (y.pref = 9) = true := by simp [h9]
                have hob : otherB y.pref = true := by simp [otherB, h9]
                have HOB := Lib.hid hob
                rw [if_pos hob] at HP2
                clear hob h8 h9
                obtain ⟨⟨st, ot⟩, hst⟩ : ∃ r, r = atomV y.other b := ⟨_, rfl⟩
                have hc5 := fun Y (hY : Below wr.heap.size wr Y) => atomV_is (D := fun _ => True) (A := A) (c := c) y.other b Y (HBR.out Y (HBX.out.trans (hY.mono hzX)))
                simp only [← hst] at hc5
                rw [← hst] at HP2
                have HC5 := Lib.hid hc5
                clear hc5 hst
                go_wp2_with ((with_reducible refine wpList_store_mid rfl 74 _ _ rfl w10.heap.size 0 #[.int .i64 si.kind, .string si.text, .int .i64 si.n, .int .i64 sa.kind, .string sa.text, .int .i64 sa.n, .int .i64 sv.kind, .string sv.text, .int .i64 sv.n, .int .i64 0, .string ⟨#[]⟩, .int .i64 0, .int .i64 y.pref, .bool false, .int .i64 0, .int .i64 0] rfl rfl HTP.out (by kernel_rfl) (by kernel_rfl) ?_); rw [← HWp.out])
                with_reducible refine (HC5.out _ (by (repeat (first | exact Below.refl _ _ | exact HR_.out | refine Below.drew ?_ | refine Below.al ?_ _ | refine Below.sc ?_ _)))).mono ?_
                rintro e w11 ⟨rfl, hb⟩
                have hbs := Below.trans (show Below Wp.heap.size Wp _ from (by (repeat (first | exact Below.refl _ _ | refine Below.drew ?_ | refine Below.al ?_ _ | refine Below.sc ?_ _)))) (hb.mono (by simp <;> omega))
                have Ky := Lib.hid (Ky.out.new_ hbs)
                have Kbb := Lib.hid (Kbb.out.new_ hbs)
                have Ki := Lib.hid (Ki.out.new_ hbs)
                have Ka := Lib.hid (Ka.out.new_ hbs)
                have Kv := Lib.hid (Kv.out.new_ hbs)
                have Kx := Lib.hid (Kx.out.new_ hbs)
                have HR_ := Lib.hid (HR_.out.trans (hbs.mono HR_.out.size))
                have hsz11 := hbs.size
                clear y0 y1 y2 y3 y4 y5 y6 y7 y8 y9 y10 y11 y12 y13 y14 y15 y16 y17 y18 yz bb0 bbz i0 i1 i2 iz a0 a1 a2 az v0 v1 v2 vz x0 x1 x2 x3 x4 x5 x6 x7 x8 x9 x10 x11 x12 x13 x14 x15 xf0 xf1 xf2 xf3 xf4 xf5 xf6 xf7 xf8 xf9 xf10 xf11 xf12 xf13 xf14 xf15 xz hb hbs
                obtain ⟨y0, y1, y2, y3, y4, y5, y6, y7, y8, y9, y10, y11, y12, y13, y14, y15, y16, y17, y18⟩ := Ky.out.c19
                have yz := Ky.out.lt
                have bb0 := Kbb.out.c1
                have bbz := Kbb.out.lt
                obtain ⟨i0, i1, i2⟩ := Ki.out.c3
                have iz := Ki.out.lt
                obtain ⟨a0, a1, a2⟩ := Ka.out.c3
                have az := Ka.out.lt
                obtain ⟨v0, v1, v2⟩ := Kv.out.c3
                have vz := Kv.out.lt
                obtain ⟨x0, x1, x2, x3, x4, x5, x6, x7, x8, x9, x10, x11, x12, x13, x14, x15⟩ := Kx.out.c16
                have xf0 := Kx.out.frozen 0
                have xf1 := Kx.out.frozen 1
                have xf2 := Kx.out.frozen 2
                have xf3 := Kx.out.frozen 3
                have xf4 := Kx.out.frozen 4
                have xf5 := Kx.out.frozen 5
                have xf6 := Kx.out.frozen 6
                have xf7 := Kx.out.frozen 7
                have xf8 := Kx.out.frozen 8
                have xf9 := Kx.out.frozen 9
                have xf10 := Kx.out.frozen 10
                have xf11 := Kx.out.frozen 11
                have xf12 := Kx.out.frozen 12
                have xf13 := Kx.out.frozen 13
                have xf14 := Kx.out.frozen 14
                have xf15 := Kx.out.frozen 15
                have xz := Kx.out.lt
                go_upto_region 24 with fail
                obtain ⟨Wo, hWo⟩ : ∃ Wo, Wo = ((w11.setCell ⟨w10.heap.size, 9, none⟩ (.int .i64 st.kind)).setCell ⟨w10.heap.size, 10, none⟩ (.string st.text)).setCell ⟨w10.heap.size, 11, none⟩ (.int .i64 st.n) := ⟨_, rfl⟩
                rw [← hWo]
                have hFo : Fr (· = w10.heap.size) w11 Wo := by
                 rw [hWo]
                 exact (((Fr.refl (· = w10.heap.size) w11).setCell (p := ⟨w10.heap.size, 9, none⟩) (.inl rfl) _).setCell (p := ⟨w10.heap.size, 10, none⟩) (.inl rfl) _).setCell (p := ⟨w10.heap.size, 11, none⟩) (.inl rfl) _
                have Ky := Lib.hid (Ky.out.fr hFo (Ky.out.ne_ Kx.out (by decide)))
                have Kbb := Lib.hid (Kbb.out.fr hFo (Kbb.out.ne_ Kx.out (by decide)))
                have Ki := Lib.hid (Ki.out.fr hFo (Ki.out.ne_ Kx.out (by decide)))
                have Ka := Lib.hid (Ka.out.fr hFo (Ka.out.ne_ Kx.out (by decide)))
                have Kv := Lib.hid (Kv.out.fr hFo (Kv.out.ne_ Kx.out (by decide)))
                have Kx := Lib.hid (show Blk Wo w10.heap.size 74 #[.int .i64 si.kind, .string si.text, .int .i64 si.n, .int .i64 sa.kind, .string sa.text, .int .i64 sa.n, .int .i64 sv.kind, .string sv.text, .int .i64 sv.n, .int .i64 st.kind, .string st.text, .int .i64 st.n, .int .i64 y.pref, .bool false, .int .i64 0, .int .i64 0] by
                 rw [hWo]; simpa using ((Kx.out.set_ 9 (.int .i64 st.kind)).set_ 10 (.string st.text)).set_ 11 (.int .i64 st.n))
                have HR_ := Lib.hid (show Below wr.heap.size wr Wo by rw [hWo]; (repeat (first | exact Below.refl _ _ | exact HR_.out | refine Below.drew ?_ | refine Below.al ?_ _ | refine Below.sc ?_ _)))
                have hszo := hFo.size
                clear hWo hFo
                clear y0 y1 y2 y3 y4 y5 y6 y7 y8 y9 y10 y11 y12 y13 y14 y15 y16 y17 y18 yz bb0 bbz i0 i1 i2 iz a0 a1 a2 az v0 v1 v2 vz x0 x1 x2 x3 x4 x5 x6 x7 x8 x9 x10 x11 x12 x13 x14 x15 xf0 xf1 xf2 xf3 xf4 xf5 xf6 xf7 xf8 xf9 xf10 xf11 xf12 xf13 xf14 xf15 xz 
                obtain ⟨y0, y1, y2, y3, y4, y5, y6, y7, y8, y9, y10, y11, y12, y13, y14, y15, y16, y17, y18⟩ := Ky.out.c19
                have yz := Ky.out.lt
                have bb0 := Kbb.out.c1
                have bbz := Kbb.out.lt
                obtain ⟨i0, i1, i2⟩ := Ki.out.c3
                have iz := Ki.out.lt
                obtain ⟨a0, a1, a2⟩ := Ka.out.c3
                have az := Ka.out.lt
                obtain ⟨v0, v1, v2⟩ := Kv.out.c3
                have vz := Kv.out.lt
                obtain ⟨x0, x1, x2, x3, x4, x5, x6, x7, x8, x9, x10, x11, x12, x13, x14, x15⟩ := Kx.out.c16
                have xz := Kx.out.lt
                cases hvs : validB st
                · skip
                  have hc := fun Y => valid_is st Y
                  simp only [hvs] at hc
                  have HC6 := Lib.hid hc
                  clear hc
                  go_wp2_with fail
                  with_reducible refine (HC6.out _).mono ?_
                  rintro e w12 ⟨rfl, hb⟩
                  have hbs := Below.trans (show Below Wo.heap.size Wo _ from (by (repeat (first | exact Below.refl _ _ | refine Below.drew ?_ | refine Below.al ?_ _ | refine Below.sc ?_ _)))) (hb.mono (by simp <;> omega))
                  have Ky := Lib.hid (Ky.out.new_ hbs)
                  have Kbb := Lib.hid (Kbb.out.new_ hbs)
                  have Ki := Lib.hid (Ki.out.new_ hbs)
                  have Ka := Lib.hid (Ka.out.new_ hbs)
                  have Kv := Lib.hid (Kv.out.new_ hbs)
                  have Kx := Lib.hid (Kx.out.new_ hbs)
                  have HR_ := Lib.hid (HR_.out.trans (hbs.mono HR_.out.size))
                  have hsz12 := hbs.size
                  clear y0 y1 y2 y3 y4 y5 y6 y7 y8 y9 y10 y11 y12 y13 y14 y15 y16 y17 y18 yz bb0 bbz i0 i1 i2 iz a0 a1 a2 az v0 v1 v2 vz x0 x1 x2 x3 x4 x5 x6 x7 x8 x9 x10 x11 x12 x13 x14 x15 xz hb hbs
                  obtain ⟨y0, y1, y2, y3, y4, y5, y6, y7, y8, y9, y10, y11, y12, y13, y14, y15, y16, y17, y18⟩ := Ky.out.c19
                  have yz := Ky.out.lt
                  have bb0 := Kbb.out.c1
                  have bbz := Kbb.out.lt
                  obtain ⟨i0, i1, i2⟩ := Ki.out.c3
                  have iz := Ki.out.lt
                  obtain ⟨a0, a1, a2⟩ := Ka.out.c3
                  have az := Ka.out.lt
                  obtain ⟨v0, v1, v2⟩ := Kv.out.c3
                  have vz := Kv.out.lt
                  obtain ⟨x0, x1, x2, x3, x4, x5, x6, x7, x8, x9, x10, x11, x12, x13, x14, x15⟩ := Kx.out.c16
                  have xz := Kx.out.lt
                  have hno : prefA b y = none := by rw [HP2.out, if_pos hvs]
                  have HE1 := Lib.hid (show os = (p.acts.take (i + 1)).filterMap (prefA b) by rw [HTK.out, List.filterMap_append, ← HOS.out]; simp [hno])
                  have HE2 := Lib.hid (show ps = (p.acts.take (i + 1)).flatMap (putA b) by rw [HTK.out, List.flatMap_append, ← HPS.out]; simp [putA, hno])
                  clear hno
                  go_wp2_with fail
                  go_roundw
                  case rel => exact ⟨i + 1, D3, Ao, co, Ap, cp, os, ps, by go_num, rfl, rfl, HE1.out, HE2.out, by omega, by omega, by omega, HG3.out.below (by (repeat (first | exact Below.refl _ _ | exact HR_.out | refine Below.drew ?_ | refine Below.al ?_ _ | refine Below.sc ?_ _))), HD3.out, HBX.out.trans (Below.mono (B := wr.heap.size) (by (repeat (first | exact Below.refl _ _ | exact HR_.out | refine Below.drew ?_ | refine Below.al ?_ _ | refine Below.sc ?_ _))) hzX), ownsRow_new HOO.out (by (repeat (first | exact Below.refl _ _ | exact HR_.out | refine Below.drew ?_ | refine Below.al ?_ _ | refine Below.sc ?_ _))), HAO.out, ownsRow_new HOP.out (by (repeat (first | exact Below.refl _ _ | exact HR_.out | refine Below.drew ?_ | refine Below.al ?_ _ | refine Below.sc ?_ _))), HAP.out, HAP2.out⟩
                  case measure => simp [intOf] <;> omega
                · skip
                  have hc := fun Y => valid_is st Y
                  simp only [hvs] at hc
                  have HC6 := Lib.hid hc
                  clear hc
                  go_wp2_with fail
                  with_reducible refine (HC6.out _).mono ?_
                  rintro e w12 ⟨rfl, hb⟩
                  have hbs := Below.trans (show Below Wo.heap.size Wo _ from (by (repeat (first | exact Below.refl _ _ | refine Below.drew ?_ | refine Below.al ?_ _ | refine Below.sc ?_ _)))) (hb.mono (by simp <;> omega))
                  have Ky := Lib.hid (Ky.out.new_ hbs)
                  have Kbb := Lib.hid (Kbb.out.new_ hbs)
                  have Ki := Lib.hid (Ki.out.new_ hbs)
                  have Ka := Lib.hid (Ka.out.new_ hbs)
                  have Kv := Lib.hid (Kv.out.new_ hbs)
                  have Kx := Lib.hid (Kx.out.new_ hbs)
                  have HR_ := Lib.hid (HR_.out.trans (hbs.mono HR_.out.size))
                  have hsz12 := hbs.size
                  clear y0 y1 y2 y3 y4 y5 y6 y7 y8 y9 y10 y11 y12 y13 y14 y15 y16 y17 y18 yz bb0 bbz i0 i1 i2 iz a0 a1 a2 az v0 v1 v2 vz x0 x1 x2 x3 x4 x5 x6 x7 x8 x9 x10 x11 x12 x13 x14 x15 xz hb hbs
                  obtain ⟨y0, y1, y2, y3, y4, y5, y6, y7, y8, y9, y10, y11, y12, y13, y14, y15, y16, y17, y18⟩ := Ky.out.c19
                  have yz := Ky.out.lt
                  have bb0 := Kbb.out.c1
                  have bbz := Kbb.out.lt
                  obtain ⟨i0, i1, i2⟩ := Ki.out.c3
                  have iz := Ki.out.lt
                  obtain ⟨a0, a1, a2⟩ := Ka.out.c3
                  have az := Ka.out.lt
                  obtain ⟨v0, v1, v2⟩ := Kv.out.c3
                  have vz := Kv.out.lt
                  obtain ⟨x0, x1, x2, x3, x4, x5, x6, x7, x8, x9, x10, x11, x12, x13, x14, x15⟩ := Kx.out.c16
                  have xz := Kx.out.lt
                  have HP2 := Lib.hid (show prefA b y = some ⟨si, sa, sv, st, y.pref, false, 0, 0⟩ by rw [HP2.out, if_neg (by simp [hvs])])
                  clear hvs
                  have HLOWP := Lib.hid (show ∀ g, (Value.slice Ap ps.length cp).ownBlock = some g → g < wr.heap.size from fun g hg => by
                   rcases Ap with _ | a
                   · simp [Value.ownBlock] at hg
                   · have e : a.block = g := by simpa [Value.ownBlock] using hg
                     exact e ▸ row_low HOP.out a rfl)
                  obtain ⟨Y0, hY0⟩ : ∃ Y0, Y0 = w12.alloc (.cells #[.int .i64 st.kind, .string st.text, .int .i64 st.n] 23) := ⟨_, rfl⟩
                  have HY0 := Lib.hid hY0
                  have HNY0 := Lib.hid (show ∀ (j : Nat) (u : Value), ([.int .i64 st.kind, .string st.text, .int .i64 st.n] : List Value)[j]? = some u → Y0.cell? ((⟨w12.heap.size, 0, none⟩ : Addr).add j) = some u by rw [hY0]; exact news_alloc rfl)
                  have hbw12 : Below w12.heap.size w12 Y0 := by rw [hY0]; exact (Below.refl _ _).alloc (Nat.le_refl _) _
                  have HBY0 := Lib.hid (HR_.out.trans (hbw12.mono HR_.out.size))
                  have KxY0 := Lib.hid (Kx.out.new_ hbw12)
                  have KiY0 := Lib.hid (Ki.out.new_ hbw12)
                  have KaY0 := Lib.hid (Ka.out.new_ hbw12)
                  have KvY0 := Lib.hid (Kv.out.new_ hbw12)
                  clear hY0 hbw12
                  go_wp2_with (first
                   | (at_builtin; rw [← HY0.out]; refine wpList_append_src Y0 rfl (.tmp 130) (.tmp 133) 57 rfl 23 s0 _ 3 32 Tryz.underlying57 hs0 hs1 hs2 hs3 rfl (by decide) _ ps.length ((ps).flatMap Sym.cells) rfl (ownsRow_new HOP.out HBY0.out) _ 1 1 [.int .i64 st.kind, .string st.text, .int .i64 st.n] rfl rfl (fun _ => ⟨_, rfl, HNY0.out⟩) (by intro u hu; simp only [List.mem_cons, List.not_mem_nil, or_false] at hu; rcases hu with rfl | rfl | rfl <;> rfl) (by unfold maxLen; omega) (by omega) ?_; intro v' W7a hown hg hnil hat; have hKY := KB.grown (KB.refl Y0) (ownsRow_new HOP.out HBY0.out) hg; obtain ⟨AW7a, cW7a, DW7a, rfl, hg4, hd4, hap4, hap5, hk4, hb4, hf4, hc4⟩ := step_row (P := fun D W => GT2 D W T T1 L L2) (fun D W W' h hF hK => h.grow hF hK) (B := X.heap.size) HG3.out HBY0.out HOP.out HAP.out HAP2.out (by omega) hown hg hat; have Ki7 := Lib.hid (KiY0.out.grown hg (fun e => by have := HLOWP.out _ e; omega)); have Ka7 := Lib.hid (KaY0.out.grown hg (fun e => by have := HLOWP.out _ e; omega)); have Kv7 := Lib.hid (KvY0.out.grown hg (fun e => by have := HLOWP.out _ e; omega)); have Kx0 := Lib.hid (hKY _ _ _ (by decide) (by decide) (by decide) (by decide) KxY0.out); have HGB := Lib.hid hg4; have HDB := Lib.hid (fun k hk => hd4 k (HD3.out k hk)); have HAPB := Lib.hid hap4; have HAPB2 := Lib.hid hap5; have HXB := Lib.hid (HBX.out.trans hb4); have HOPB := Lib.hid (show W7a.ownsRow 0 23 3 (.slice AW7a (ps.length + 1) cW7a) (ps.length + 1) ((ps ++ [st]).flatMap Sym.cells) by rw [List.flatMap_append]; exact hown); have HOOB := Lib.hid (owns_kb (ownsRow_new HOO.out HBY0.out) hKY (by decide) (by decide) (by decide) (by decide)); have hz7a := hb4.size; have i0 := (Ki7.out.cell 0).trans rfl; have i1 := (Ki7.out.cell 1).trans rfl; have i2 := (Ki7.out.cell 2).trans rfl; have a0 := (Ka7.out.cell 0).trans rfl; have a1 := (Ka7.out.cell 1).trans rfl; have a2 := (Ka7.out.cell 2).trans rfl; have v0 := (Kv7.out.cell 0).trans rfl; have v1 := (Kv7.out.cell 1).trans rfl; have v2 := (Kv7.out.cell 2).trans rfl; have iz := Ki7.out.lt; have az := Ka7.out.lt; have vz := Kv7.out.lt; clear hown hg hnil hat hKY hg4 hd4 hap4 hap5 hk4 hb4 hf4 hc4; obtain ⟨Y1, hY1⟩ : ∃ Y1, Y1 = W7a.alloc (.cells #[.int .i64 si.kind, .string si.text, .int .i64 si.n, .int .i64 sa.kind, .string sa.text, .int .i64 sa.n, .int .i64 sv.kind, .string sv.text, .int .i64 sv.n] 23) := ⟨_, rfl⟩; have HY1 := Lib.hid hY1; have HNY1 := Lib.hid (show ∀ (j : Nat) (u : Value), ([.int .i64 si.kind, .string si.text, .int .i64 si.n, .int .i64 sa.kind, .string sa.text, .int .i64 sa.n, .int .i64 sv.kind, .string sv.text, .int .i64 sv.n] : List Value)[j]? = some u → Y1.cell? ((⟨W7a.heap.size, 0, none⟩ : Addr).add j) = some u by rw [hY1]; exact news_alloc rfl); have hbVY : Below W7a.heap.size W7a Y1 := (by rw [hY1]; exact (Below.refl _ _).alloc (Nat.le_refl _) _); have HBY1 := Lib.hid (hbVY); have KxY := Lib.hid (Kx0.out.new_ hbVY); clear hY1 hbVY)
                   | (at_builtin; rw [← HY1.out]; refine wpList_append_src Y1 rfl (.tmp 135) (.tmp 139) 57 rfl 23 s0 _ 3 32 Tryz.underlying57 hs0 hs1 hs2 hs3 rfl (by decide) _ (ps.length + 1) ((ps ++ [st]).flatMap Sym.cells) rfl (ownsRow_new HOPB.out HBY1.out) _ 3 3 [.int .i64 si.kind, .string si.text, .int .i64 si.n, .int .i64 sa.kind, .string sa.text, .int .i64 sa.n, .int .i64 sv.kind, .string sv.text, .int .i64 sv.n] rfl rfl (fun _ => ⟨_, rfl, HNY1.out⟩) (by intro u hu; simp only [List.mem_cons, List.not_mem_nil, or_false] at hu; rcases hu with rfl | rfl | rfl | rfl | rfl | rfl | rfl | rfl | rfl <;> rfl) (by unfold maxLen; omega) (by omega) ?_; intro v' W7 hown hg hnil hat; have hKY := KB.grown (KB.refl Y1) (ownsRow_new HOPB.out HBY1.out) hg; obtain ⟨AW7, cW7, DW7, rfl, hg4, hd4, hap4, hap5, hk4, hb4, hf4, hc4⟩ := step_row (P := fun D W => GT2 D W T T1 L L2) (fun D W W' h hF hK => h.grow hF hK) (B := X.heap.size) HGB.out HBY1.out HOPB.out HAPB.out HAPB2.out (by omega) hown hg hat; have Kx7 := Lib.hid (hKY _ _ _ (by decide) (by decide) (by decide) (by decide) KxY.out); have HRX := Lib.hid (Kx7.out.rangeAt (cs := [.int .i64 si.kind, .string si.text, .int .i64 si.n, .int .i64 sa.kind, .string sa.text, .int .i64 sa.n, .int .i64 sv.kind, .string sv.text, .int .i64 sv.n, .int .i64 st.kind, .string st.text, .int .i64 st.n, .int .i64 y.pref, .bool false, .int .i64 0, .int .i64 0])); have HG7 := Lib.hid hg4; have HD7 := Lib.hid hd4; have HAP7 := Lib.hid hap4; have HAP72 := Lib.hid hap5; have HB7 := Lib.hid hb4; have HOP7 := Lib.hid hown; have HOO7 := Lib.hid (owns_kb (ownsRow_new HOOB.out HBY1.out) hKY (by decide) (by decide) (by decide) (by decide)); have hz7 := hb4.size; clear hown hg hnil hat hKY hg4 hd4 hap4 hap5 hk4 hb4 hf4 hc4; obtain ⟨Y2, hY2⟩ : ∃ Y2, Y2 = W7.alloc (.cells #[.int .i64 si.kind, .string si.text, .int .i64 si.n, .int .i64 sa.kind, .string sa.text, .int .i64 sa.n, .int .i64 sv.kind, .string sv.text, .int .i64 sv.n, .int .i64 st.kind, .string st.text, .int .i64 st.n, .int .i64 y.pref, .bool false, .int .i64 0, .int .i64 0] 74) := ⟨_, rfl⟩; have HY2 := Lib.hid hY2; have HNY2 := Lib.hid (show ∀ (j : Nat) (u : Value), ([.int .i64 si.kind, .string si.text, .int .i64 si.n, .int .i64 sa.kind, .string sa.text, .int .i64 sa.n, .int .i64 sv.kind, .string sv.text, .int .i64 sv.n, .int .i64 st.kind, .string st.text, .int .i64 st.n, .int .i64 y.pref, .bool false, .int .i64 0, .int .i64 0] : List Value)[j]? = some u → Y2.cell? ((⟨W7.heap.size, 0, none⟩ : Addr).add j) = some u by rw [hY2]; exact news_alloc rfl); have HBY2 := Lib.hid (show Below W7.heap.size W7 Y2 by rw [hY2]; exact (Below.refl _ _).alloc (Nat.le_refl _) _); clear hY2)
                   | (with_reducible refine wpList_load_mid rfl 74 _ rfl w10.heap.size 0 rfl [.int .i64 si.kind, .string si.text, .int .i64 si.n, .int .i64 sa.kind, .string sa.text, .int .i64 sa.n, .int .i64 sv.kind, .string sv.text, .int .i64 sv.n, .int .i64 st.kind, .string st.text, .int .i64 st.n, .int .i64 y.pref, .bool false, .int .i64 0, .int .i64 0] _ HRX.out Tryz.underlying74 rfl (by kernel_rfl) ?_)
                   | (at_builtin; rw [← HY2.out]; refine wpList_append_src Y2 rfl (.tmp 141) (.tmp 143) 69 rfl 74 j0 _ 16 160 Tryz.underlying69 hj0 hy0 hy1 hy2 rfl (by decide) _ os.length (os.flatMap PrefT.cells) rfl (ownsRow_new HOO7.out HBY2.out) _ 1 1 [.int .i64 si.kind, .string si.text, .int .i64 si.n, .int .i64 sa.kind, .string sa.text, .int .i64 sa.n, .int .i64 sv.kind, .string sv.text, .int .i64 sv.n, .int .i64 st.kind, .string st.text, .int .i64 st.n, .int .i64 y.pref, .bool false, .int .i64 0, .int .i64 0] rfl rfl (fun _ => ⟨_, rfl, HNY2.out⟩) (by intro u hu; simp only [List.mem_cons, List.not_mem_nil, or_false] at hu; rcases hu with rfl | rfl | rfl | rfl | rfl | rfl | rfl | rfl | rfl | rfl | rfl | rfl | rfl | rfl | rfl | rfl <;> rfl) (by unfold maxLen; omega) (by omega) ?_; intro v' W8 hown hg hnil hat; obtain ⟨Ao8, co8, rfl, hF8, hA8, hO8⟩ := grown_own (E := fun k => ∃ a, Ao = some a ∧ a.block = k) (fun a ha => ⟨a, ha, rfl⟩) hown hg hat; have HF8 := Lib.hid hF8; have HA8 := Lib.hid hA8; have HO8 := Lib.hid hO8; clear hown hg hnil hat hF8 hA8 hO8))
                  have hE : ∀ k, (∃ a, Ao = some a ∧ a.block = k) → OtherT Y2 k := by
                   rintro k ⟨a, ha, rfl⟩
                   subst ha
                   rcases (ownsRow_new HOO7.out HBY2.out).2 with ⟨hv, _⟩ | ⟨g, cap, cur, hv, _, hg, _⟩
                   · cases hv
                   · injection hv with hv
                     injection hv with hv
                     subst hv
                     exact OtherT.of (t := 74) (cs := cur) hg (by decide) (by decide) (by decide) (by decide) (by decide) (by decide)
                  have hEX : ∀ k, (∃ a, Ao = some a ∧ a.block = k) → X.heap.size ≤ k := by
                   rintro k ⟨a, ha, rfl⟩
                   exact HAO.out a ha
                  obtain ⟨pr, hpr0⟩ : ∃ pr : PrefT, pr = ⟨si, sa, sv, st, y.pref, false, 0, 0⟩ := ⟨_, rfl⟩
                  have hpr : prefA b y = some pr := by rw [HP2.out, hpr0]
                  have hpu : putA b y = [st, si, sa, sv] := by unfold putA; rw [hpr]; simp [HOB.out, hpr0]
                  have e1 : os ++ [pr] = (p.acts.take (i + 1)).filterMap (prefA b) := by rw [HTK.out, List.filterMap_append, ← HOS.out]; simp [hpr]
                  have e2 : (ps ++ [st]) ++ [si, sa, sv] = (p.acts.take (i + 1)).flatMap (putA b) := by rw [HTK.out, List.flatMap_append, ← HPS.out]; simp [hpu]
                  have e3 : (os ++ [pr]).flatMap PrefT.cells = os.flatMap PrefT.cells ++ [.int .i64 si.kind, .string si.text, .int .i64 si.n, .int .i64 sa.kind, .string sa.text, .int .i64 sa.n, .int .i64 sv.kind, .string sv.text, .int .i64 sv.n, .int .i64 st.kind, .string st.text, .int .i64 st.n, .int .i64 y.pref, .bool false, .int .i64 0, .int .i64 0] := by rw [List.flatMap_append, hpr0]; rfl
                  have e4 : ((ps ++ [st]) ++ [si, sa, sv]).flatMap Sym.cells = ((ps ++ [st])).flatMap Sym.cells ++ [.int .i64 si.kind, .string si.text, .int .i64 si.n, .int .i64 sa.kind, .string sa.text, .int .i64 sa.n, .int .i64 sv.kind, .string sv.text, .int .i64 sv.n] := by rw [List.flatMap_append]; rfl
                  have e5 : ((ps ++ [st]) ++ [si, sa, sv]).length = (ps.length + 1) + 3 := by simp
                  have e6 : (os ++ [pr]).length = os.length + 1 := by simp
                  have hzY := HBY2.out.size
                  have hzB := HXB.out.size
                  have hput := ownsRow_fr (ownsRow_new HOP7.out HBY2.out) HF8.out (fun g hg ⟨a, ha, e⟩ => rows_ne (ownsRow_new HOP7.out HBY2.out) (ownsRow_new HOO7.out HBY2.out) (by decide) hg (by subst ha; simp [Value.ownBlock, e]))
                  have hbel : Below X.heap.size X W8 := ((HXB.out.trans HB7.out).trans (HBY2.out.mono (by omega))).trans (HF8.out.below (by omega) (fun k hk hn => by have := hEX k hn; omega))
                  go_roundw
                  case rel => exact ⟨i + 1, DW7, Ao8, co8, AW7, cW7, os ++ [pr], (ps ++ [st]) ++ [si, sa, sv], by go_num, by rw [e6], by rw [e5], e1, e2, by omega, by rw [e6]; omega, by rw [e5]; omega, (HG7.out.below HBY2.out).offT hE HF8.out, fun k hk => HD7.out k (HDB.out k hk), hbel, by rw [e6, e3]; exact HO8.out, fun a ha => (HA8.out a ha).elim (hEX _) (fun h => by omega), by rw [e5, e4]; exact hput, HAP7.out, HAP72.out⟩
                  case measure => simp [intOf] <;> omega
              · skip
                by_cases h10 : y.pref = 10
                · skip
                  have f8a : (y.pref == 8) = false := by simp [h10]
                  have f8b : decide (y.pref = 8) = false := by simp [h10]
                  have f9a : (y.pref == 9) = false := by simp [h10]
                  have f9b : decide (y.pref = 9) = false := by simp [h10]
                  have f10a : (y.pref == 10) = true := by simp [h10]
                  have f10b : decide (y.pref = 10) = true := by simp [h10]
                  have hob : otherB y.pref = true := by simp [otherB, h10]
                  have HOB := Lib.hid hob
                  rw [if_pos hob] at HP2
                  clear hob h8 h9 h10
                  obtain ⟨⟨st, ot⟩, hst⟩ : ∃ r, r = atomV y.other b := ⟨_, rfl⟩
                  have hc5 := fun Y (hY : Below wr.heap.size wr Y) => atomV_is (D := fun _ => True) (A := A) (c := c) y.other b Y (HBR.out Y (HBX.out.trans (hY.mono hzX)))
                  simp only [← hst] at hc5
                  rw [← hst] at HP2
                  have HC5 := Lib.hid hc5
                  clear hc5 hst
                  go_wp2_with ((with_reducible refine wpList_store_mid rfl 74 _ _ rfl w10.heap.size 0 #[.int .i64 si.kind, .string si.text, .int .i64 si.n, .int .i64 sa.kind, .string sa.text, .int .i64 sa.n, .int .i64 sv.kind, .string sv.text, .int .i64 sv.n, .int .i64 0, .string ⟨#[]⟩, .int .i64 0, .int .i64 y.pref, .bool false, .int .i64 0, .int .i64 0] rfl rfl HTP.out (by kernel_rfl) (by kernel_rfl) ?_); rw [← HWp.out])
                  with_reducible refine (HC5.out _ (by (repeat (first | exact Below.refl _ _ | exact HR_.out | refine Below.drew ?_ | refine Below.al ?_ _ | refine Below.sc ?_ _)))).mono ?_
                  rintro e w11 ⟨rfl, hb⟩
                  have hbs := Below.trans (show Below Wp.heap.size Wp _ from (by (repeat (first | exact Below.refl _ _ | refine Below.drew ?_ | refine Below.al ?_ _ | refine Below.sc ?_ _)))) (hb.mono (by simp <;> omega))
                  have Ky := Lib.hid (Ky.out.new_ hbs)
                  have Kbb := Lib.hid (Kbb.out.new_ hbs)
                  have Ki := Lib.hid (Ki.out.new_ hbs)
                  have Ka := Lib.hid (Ka.out.new_ hbs)
                  have Kv := Lib.hid (Kv.out.new_ hbs)
                  have Kx := Lib.hid (Kx.out.new_ hbs)
                  have HR_ := Lib.hid (HR_.out.trans (hbs.mono HR_.out.size))
                  have hsz11 := hbs.size
                  clear y0 y1 y2 y3 y4 y5 y6 y7 y8 y9 y10 y11 y12 y13 y14 y15 y16 y17 y18 yz bb0 bbz i0 i1 i2 iz a0 a1 a2 az v0 v1 v2 vz x0 x1 x2 x3 x4 x5 x6 x7 x8 x9 x10 x11 x12 x13 x14 x15 xf0 xf1 xf2 xf3 xf4 xf5 xf6 xf7 xf8 xf9 xf10 xf11 xf12 xf13 xf14 xf15 xz hb hbs
                  obtain ⟨y0, y1, y2, y3, y4, y5, y6, y7, y8, y9, y10, y11, y12, y13, y14, y15, y16, y17, y18⟩ := Ky.out.c19
                  have yz := Ky.out.lt
                  have bb0 := Kbb.out.c1
                  have bbz := Kbb.out.lt
                  obtain ⟨i0, i1, i2⟩ := Ki.out.c3
                  have iz := Ki.out.lt
                  obtain ⟨a0, a1, a2⟩ := Ka.out.c3
                  have az := Ka.out.lt
                  obtain ⟨v0, v1, v2⟩ := Kv.out.c3
                  have vz := Kv.out.lt
                  obtain ⟨x0, x1, x2, x3, x4, x5, x6, x7, x8, x9, x10, x11, x12, x13, x14, x15⟩ := Kx.out.c16
                  have xf0 := Kx.out.frozen 0
                  have xf1 := Kx.out.frozen 1
                  have xf2 := Kx.out.frozen 2
                  have xf3 := Kx.out.frozen 3
                  have xf4 := Kx.out.frozen 4
                  have xf5 := Kx.out.frozen 5
                  have xf6 := Kx.out.frozen 6
                  have xf7 := Kx.out.frozen 7
                  have xf8 := Kx.out.frozen 8
                  have xf9 := Kx.out.frozen 9
                  have xf10 := Kx.out.frozen 10
                  have xf11 := Kx.out.frozen 11
                  have xf12 := Kx.out.frozen 12
                  have xf13 := Kx.out.frozen 13
                  have xf14 := Kx.out.frozen 14
                  have xf15 := Kx.out.frozen 15
                  have xz := Kx.out.lt
                  go_upto_region 24 with fail
                  obtain ⟨Wo, hWo⟩ : ∃ Wo, Wo = ((w11.setCell ⟨w10.heap.size, 9, none⟩ (.int .i64 st.kind)).setCell ⟨w10.heap.size, 10, none⟩ (.string st.text)).setCell ⟨w10.heap.size, 11, none⟩ (.int .i64 st.n) := ⟨_, rfl⟩
                  rw [← hWo]
                  have hFo : Fr (· = w10.heap.size) w11 Wo := by
                   rw [hWo]
                   exact (((Fr.refl (· = w10.heap.size) w11).setCell (p := ⟨w10.heap.size, 9, none⟩) (.inl rfl) _).setCell (p := ⟨w10.heap.size, 10, none⟩) (.inl rfl) _).setCell (p := ⟨w10.heap.size, 11, none⟩) (.inl rfl) _
                  have Ky := Lib.hid (Ky.out.fr hFo (Ky.out.ne_ Kx.out (by decide)))
                  have Kbb := Lib.hid (Kbb.out.fr hFo (Kbb.out.ne_ Kx.out (by decide)))
                  have Ki := Lib.hid (Ki.out.fr hFo (Ki.out.ne_ Kx.out (by decide)))
                  have Ka := Lib.hid (Ka.out.fr hFo (Ka.out.ne_ Kx.out (by decide)))
                  have Kv := Lib.hid (Kv.out.fr hFo (Kv.out.ne_ Kx.out (by decide)))
                  have Kx := Lib.hid (show Blk Wo w10.heap.size 74 #[.int .i64 si.kind, .string si.text, .int .i64 si.n, .int .i64 sa.kind, .string sa.text, .int .i64 sa.n, .int .i64 sv.kind, .string sv.text, .int .i64 sv.n, .int .i64 st.kind, .string st.text, .int .i64 st.n, .int .i64 y.pref, .bool false, .int .i64 0, .int .i64 0] by
                   rw [hWo]; simpa using ((Kx.out.set_ 9 (.int .i64 st.kind)).set_ 10 (.string st.text)).set_ 11 (.int .i64 st.n))
                  have HR_ := Lib.hid (show Below wr.heap.size wr Wo by rw [hWo]; (repeat (first | exact Below.refl _ _ | exact HR_.out | refine Below.drew ?_ | refine Below.al ?_ _ | refine Below.sc ?_ _)))
                  have hszo := hFo.size
                  clear hWo hFo
                  clear y0 y1 y2 y3 y4 y5 y6 y7 y8 y9 y10 y11 y12 y13 y14 y15 y16 y17 y18 yz bb0 bbz i0 i1 i2 iz a0 a1 a2 az v0 v1 v2 vz x0 x1 x2 x3 x4 x5 x6 x7 x8 x9 x10 x11 x12 x13 x14 x15 xf0 xf1 xf2 xf3 xf4 xf5 xf6 xf7 xf8 xf9 xf10 xf11 xf12 xf13 xf14 xf15 xz 
                  obtain ⟨y0, y1, y2, y3, y4, y5, y6, y7, y8, y9, y10, y11, y12, y13, y14, y15, y16, y17, y18⟩ := Ky.out.c19
                  have yz := Ky.out.lt
                  have bb0 := Kbb.out.c1
                  have bbz := Kbb.out.lt
                  obtain ⟨i0, i1, i2⟩ := Ki.out.c3
                  have iz := Ki.out.lt
                  obtain ⟨a0, a1, a2⟩ := Ka.out.c3
                  have az := Ka.out.lt
                  obtain ⟨v0, v1, v2⟩ := Kv.out.c3
                  have vz := Kv.out.lt
                  obtain ⟨x0, x1, x2, x3, x4, x5, x6, x7, x8, x9, x10, x11, x12, x13, x14, x15⟩ := Kx.out.c16
                  have xz := Kx.out.lt
                  cases hvs : validB st
                  · skip
                    have hc := fun Y => valid_is st Y
                    simp only [hvs] at hc
                    have HC6 := Lib.hid hc
                    clear hc
                    go_wp2_with fail
                    with_reducible refine (HC6.out _).mono ?_
                    rintro e w12 ⟨rfl, hb⟩
                    have hbs := Below.trans (show Below Wo.heap.size Wo _ from (by (repeat (first | exact Below.refl _ _ | refine Below.drew ?_ | refine Below.al ?_ _ | refine Below.sc ?_ _)))) (hb.mono (by simp <;> omega))
                    have Ky := Lib.hid (Ky.out.new_ hbs)
                    have Kbb := Lib.hid (Kbb.out.new_ hbs)
                    have Ki := Lib.hid (Ki.out.new_ hbs)
                    have Ka := Lib.hid (Ka.out.new_ hbs)
                    have Kv := Lib.hid (Kv.out.new_ hbs)
                    have Kx := Lib.hid (Kx.out.new_ hbs)
                    have HR_ := Lib.hid (HR_.out.trans (hbs.mono HR_.out.size))
                    have hsz12 := hbs.size
                    clear y0 y1 y2 y3 y4 y5 y6 y7 y8 y9 y10 y11 y12 y13 y14 y15 y16 y17 y18 yz bb0 bbz i0 i1 i2 iz a0 a1 a2 az v0 v1 v2 vz x0 x1 x2 x3 x4 x5 x6 x7 x8 x9 x10 x11 x12 x13 x14 x15 xz hb hbs
                    obtain ⟨y0, y1, y2, y3, y4, y5, y6, y7, y8, y9, y10, y11, y12, y13, y14, y15, y16, y17, y18⟩ := Ky.out.c19
                    have yz := Ky.out.lt
                    have bb0 := Kbb.out.c1
                    have bbz := Kbb.out.lt
                    obtain ⟨i0, i1, i2⟩ := Ki.out.c3
                    have iz := Ki.out.lt
                    obtain ⟨a0, a1, a2⟩ := Ka.out.c3
                    have az := Ka.out.lt
                    obtain ⟨v0, v1, v2⟩ := Kv.out.c3
                    have vz := Kv.out.lt
                    obtain ⟨x0, x1, x2, x3, x4, x5, x6, x7, x8, x9, x10, x11, x12, x13, x14, x15⟩ := Kx.out.c16
                    have xz := Kx.out.lt
                    have hno : prefA b y = none := by rw [HP2.out, if_pos hvs]
                    have HE1 := Lib.hid (show os = (p.acts.take (i + 1)).filterMap (prefA b) by rw [HTK.out, List.filterMap_append, ← HOS.out]; simp [hno])
                    have HE2 := Lib.hid (show ps = (p.acts.take (i + 1)).flatMap (putA b) by rw [HTK.out, List.flatMap_append, ← HPS.out]; simp [putA, hno])
                    clear hno
                    go_wp2_with fail
                    go_roundw
                    case rel => exact ⟨i + 1, D3, Ao, co, Ap, cp, os, ps, by go_num, rfl, rfl, HE1.out, HE2.out, by omega, by omega, by omega, HG3.out.below (by (repeat (first | exact Below.refl _ _ | exact HR_.out | refine Below.drew ?_ | refine Below.al ?_ _ | refine Below.sc ?_ _))), HD3.out, HBX.out.trans (Below.mono (B := wr.heap.size) (by (repeat (first | exact Below.refl _ _ | exact HR_.out | refine Below.drew ?_ | refine Below.al ?_ _ | refine Below.sc ?_ _))) hzX), ownsRow_new HOO.out (by (repeat (first | exact Below.refl _ _ | exact HR_.out | refine Below.drew ?_ | refine Below.al ?_ _ | refine Below.sc ?_ _))), HAO.out, ownsRow_new HOP.out (by (repeat (first | exact Below.refl _ _ | exact HR_.out | refine Below.drew ?_ | refine Below.al ?_ _ | refine Below.sc ?_ _))), HAP.out, HAP2.out⟩
                    case measure => simp [intOf] <;> omega
                  · skip
                    have hc := fun Y => valid_is st Y
                    simp only [hvs] at hc
                    have HC6 := Lib.hid hc
                    clear hc
                    go_wp2_with fail
                    with_reducible refine (HC6.out _).mono ?_
                    rintro e w12 ⟨rfl, hb⟩
                    have hbs := Below.trans (show Below Wo.heap.size Wo _ from (by (repeat (first | exact Below.refl _ _ | refine Below.drew ?_ | refine Below.al ?_ _ | refine Below.sc ?_ _)))) (hb.mono (by simp <;> omega))
                    have Ky := Lib.hid (Ky.out.new_ hbs)
                    have Kbb := Lib.hid (Kbb.out.new_ hbs)
                    have Ki := Lib.hid (Ki.out.new_ hbs)
                    have Ka := Lib.hid (Ka.out.new_ hbs)
                    have Kv := Lib.hid (Kv.out.new_ hbs)
                    have Kx := Lib.hid (Kx.out.new_ hbs)
                    have HR_ := Lib.hid (HR_.out.trans (hbs.mono HR_.out.size))
                    have hsz12 := hbs.size
                    clear y0 y1 y2 y3 y4 y5 y6 y7 y8 y9 y10 y11 y12 y13 y14 y15 y16 y17 y18 yz bb0 bbz i0 i1 i2 iz a0 a1 a2 az v0 v1 v2 vz x0 x1 x2 x3 x4 x5 x6 x7 x8 x9 x10 x11 x12 x13 x14 x15 xz hb hbs
                    obtain ⟨y0, y1, y2, y3, y4, y5, y6, y7, y8, y9, y10, y11, y12, y13, y14, y15, y16, y17, y18⟩ := Ky.out.c19
                    have yz := Ky.out.lt
                    have bb0 := Kbb.out.c1
                    have bbz := Kbb.out.lt
                    obtain ⟨i0, i1, i2⟩ := Ki.out.c3
                    have iz := Ki.out.lt
                    obtain ⟨a0, a1, a2⟩ := Ka.out.c3
                    have az := Ka.out.lt
                    obtain ⟨v0, v1, v2⟩ := Kv.out.c3
                    have vz := Kv.out.lt
                    obtain ⟨x0, x1, x2, x3, x4, x5, x6, x7, x8, x9, x10, x11, x12, x13, x14, x15⟩ := Kx.out.c16
                    have xz := Kx.out.lt
                    have HP2 := Lib.hid (show prefA b y = some ⟨si, sa, sv, st, y.pref, false, 0, 0⟩ by rw [HP2.out, if_neg (by simp [hvs])])
                    clear hvs
                    have HLOWP := Lib.hid (show ∀ g, (Value.slice Ap ps.length cp).ownBlock = some g → g < wr.heap.size from fun g hg => by
                     rcases Ap with _ | a
                     · simp [Value.ownBlock] at hg
                     · have e : a.block = g := by simpa [Value.ownBlock] using hg
                       exact e ▸ row_low HOP.out a rfl)
                    obtain ⟨Y0, hY0⟩ : ∃ Y0, Y0 = w12.alloc (.cells #[.int .i64 st.kind, .string st.text, .int .i64 st.n] 23) := ⟨_, rfl⟩
                    have HY0 := Lib.hid hY0
                    have HNY0 := Lib.hid (show ∀ (j : Nat) (u : Value), ([.int .i64 st.kind, .string st.text, .int .i64 st.n] : List Value)[j]? = some u → Y0.cell? ((⟨w12.heap.size, 0, none⟩ : Addr).add j) = some u by rw [hY0]; exact news_alloc rfl)
                    have hbw12 : Below w12.heap.size w12 Y0 := by rw [hY0]; exact (Below.refl _ _).alloc (Nat.le_refl _) _
                    have HBY0 := Lib.hid (HR_.out.trans (hbw12.mono HR_.out.size))
                    have KxY0 := Lib.hid (Kx.out.new_ hbw12)
                    have KiY0 := Lib.hid (Ki.out.new_ hbw12)
                    have KaY0 := Lib.hid (Ka.out.new_ hbw12)
                    have KvY0 := Lib.hid (Kv.out.new_ hbw12)
                    clear hY0 hbw12
                    go_wp2_with (first
                     | (at_builtin; rw [← HY0.out]; refine wpList_append_src Y0 rfl (.tmp 130) (.tmp 133) 57 rfl 23 s0 _ 3 32 Tryz.underlying57 hs0 hs1 hs2 hs3 rfl (by decide) _ ps.length ((ps).flatMap Sym.cells) rfl (ownsRow_new HOP.out HBY0.out) _ 1 1 [.int .i64 st.kind, .string st.text, .int .i64 st.n] rfl rfl (fun _ => ⟨_, rfl, HNY0.out⟩) (by intro u hu; simp only [List.mem_cons, List.not_mem_nil, or_false] at hu; rcases hu with rfl | rfl | rfl <;> rfl) (by unfold maxLen; omega) (by omega) ?_; intro v' W7a hown hg hnil hat; have hKY := KB.grown (KB.refl Y0) (ownsRow_new HOP.out HBY0.out) hg; obtain ⟨AW7a, cW7a, DW7a, rfl, hg4, hd4, hap4, hap5, hk4, hb4, hf4, hc4⟩ := step_row (P := fun D W => GT2 D W T T1 L L2) (fun D W W' h hF hK => h.grow hF hK) (B := X.heap.size) HG3.out HBY0.out HOP.out HAP.out HAP2.out (by omega) hown hg hat; have Ki7 := Lib.hid (KiY0.out.grown hg (fun e => by have := HLOWP.out _ e; omega)); have Ka7 := Lib.hid (KaY0.out.grown hg (fun e => by have := HLOWP.out _ e; omega)); have Kv7 := Lib.hid (KvY0.out.grown hg (fun e => by have := HLOWP.out _ e; omega)); have Kx0 := Lib.hid (hKY _ _ _ (by decide) (by decide) (by decide) (by decide) KxY0.out); have HGB := Lib.hid hg4; have HDB := Lib.hid (fun k hk => hd4 k (HD3.out k hk)); have HAPB := Lib.hid hap4; have HAPB2 := Lib.hid hap5; have HXB := Lib.hid (HBX.out.trans hb4); have HOPB := Lib.hid (show W7a.ownsRow 0 23 3 (.slice AW7a (ps.length + 1) cW7a) (ps.length + 1) ((ps ++ [st]).flatMap Sym.cells) by rw [List.flatMap_append]; exact hown); have HOOB := Lib.hid (owns_kb (ownsRow_new HOO.out HBY0.out) hKY (by decide) (by decide) (by decide) (by decide)); have hz7a := hb4.size; have i0 := (Ki7.out.cell 0).trans rfl; have i1 := (Ki7.out.cell 1).trans rfl; have i2 := (Ki7.out.cell 2).trans rfl; have a0 := (Ka7.out.cell 0).trans rfl; have a1 := (Ka7.out.cell 1).trans rfl; have a2 := (Ka7.out.cell 2).trans rfl; have v0 := (Kv7.out.cell 0).trans rfl; have v1 := (Kv7.out.cell 1).trans rfl; have v2 := (Kv7.out.cell 2).trans rfl; have iz := Ki7.out.lt; have az := Ka7.out.lt; have vz := Kv7.out.lt; clear hown hg hnil hat hKY hg4 hd4 hap4 hap5 hk4 hb4 hf4 hc4; obtain ⟨Y1, hY1⟩ : ∃ Y1, Y1 = W7a.alloc (.cells #[.int .i64 si.kind, .string si.text, .int .i64 si.n, .int .i64 sa.kind, .string sa.text, .int .i64 sa.n, .int .i64 sv.kind, .string sv.text, .int .i64 sv.n] 23) := ⟨_, rfl⟩; have HY1 := Lib.hid hY1; have HNY1 := Lib.hid (show ∀ (j : Nat) (u : Value), ([.int .i64 si.kind, .string si.text, .int .i64 si.n, .int .i64 sa.kind, .string sa.text, .int .i64 sa.n, .int .i64 sv.kind, .string sv.text, .int .i64 sv.n] : List Value)[j]? = some u → Y1.cell? ((⟨W7a.heap.size, 0, none⟩ : Addr).add j) = some u by rw [hY1]; exact news_alloc rfl); have hbVY : Below W7a.heap.size W7a Y1 := (by rw [hY1]; exact (Below.refl _ _).alloc (Nat.le_refl _) _); have HBY1 := Lib.hid (hbVY); have KxY := Lib.hid (Kx0.out.new_ hbVY); clear hY1 hbVY)
                     | (at_builtin; rw [← HY1.out]; refine wpList_append_src Y1 rfl (.tmp 135) (.tmp 139) 57 rfl 23 s0 _ 3 32 Tryz.underlying57 hs0 hs1 hs2 hs3 rfl (by decide) _ (ps.length + 1) ((ps ++ [st]).flatMap Sym.cells) rfl (ownsRow_new HOPB.out HBY1.out) _ 3 3 [.int .i64 si.kind, .string si.text, .int .i64 si.n, .int .i64 sa.kind, .string sa.text, .int .i64 sa.n, .int .i64 sv.kind, .string sv.text, .int .i64 sv.n] rfl rfl (fun _ => ⟨_, rfl, HNY1.out⟩) (by intro u hu; simp only [List.mem_cons, List.not_mem_nil, or_false] at hu; rcases hu with rfl | rfl | rfl | rfl | rfl | rfl | rfl | rfl | rfl <;> rfl) (by unfold maxLen; omega) (by omega) ?_; intro v' W7 hown hg hnil hat; have hKY := KB.grown (KB.refl Y1) (ownsRow_new HOPB.out HBY1.out) hg; obtain ⟨AW7, cW7, DW7, rfl, hg4, hd4, hap4, hap5, hk4, hb4, hf4, hc4⟩ := step_row (P := fun D W => GT2 D W T T1 L L2) (fun D W W' h hF hK => h.grow hF hK) (B := X.heap.size) HGB.out HBY1.out HOPB.out HAPB.out HAPB2.out (by omega) hown hg hat; have Kx7 := Lib.hid (hKY _ _ _ (by decide) (by decide) (by decide) (by decide) KxY.out); have HRX := Lib.hid (Kx7.out.rangeAt (cs := [.int .i64 si.kind, .string si.text, .int .i64 si.n, .int .i64 sa.kind, .string sa.text, .int .i64 sa.n, .int .i64 sv.kind, .string sv.text, .int .i64 sv.n, .int .i64 st.kind, .string st.text, .int .i64 st.n, .int .i64 y.pref, .bool false, .int .i64 0, .int .i64 0])); have HG7 := Lib.hid hg4; have HD7 := Lib.hid hd4; have HAP7 := Lib.hid hap4; have HAP72 := Lib.hid hap5; have HB7 := Lib.hid hb4; have HOP7 := Lib.hid hown; have HOO7 := Lib.hid (owns_kb (ownsRow_new HOOB.out HBY1.out) hKY (by decide) (by decide) (by decide) (by decide)); have hz7 := hb4.size; clear hown hg hnil hat hKY hg4 hd4 hap4 hap5 hk4 hb4 hf4 hc4; obtain ⟨Y2, hY2⟩ : ∃ Y2, Y2 = W7.alloc (.cells #[.int .i64 si.kind, .string si.text, .int .i64 si.n, .int .i64 sa.kind, .string sa.text, .int .i64 sa.n, .int .i64 sv.kind, .string sv.text, .int .i64 sv.n, .int .i64 st.kind, .string st.text, .int .i64 st.n, .int .i64 y.pref, .bool false, .int .i64 0, .int .i64 0] 74) := ⟨_, rfl⟩; have HY2 := Lib.hid hY2; have HNY2 := Lib.hid (show ∀ (j : Nat) (u : Value), ([.int .i64 si.kind, .string si.text, .int .i64 si.n, .int .i64 sa.kind, .string sa.text, .int .i64 sa.n, .int .i64 sv.kind, .string sv.text, .int .i64 sv.n, .int .i64 st.kind, .string st.text, .int .i64 st.n, .int .i64 y.pref, .bool false, .int .i64 0, .int .i64 0] : List Value)[j]? = some u → Y2.cell? ((⟨W7.heap.size, 0, none⟩ : Addr).add j) = some u by rw [hY2]; exact news_alloc rfl); have HBY2 := Lib.hid (show Below W7.heap.size W7 Y2 by rw [hY2]; exact (Below.refl _ _).alloc (Nat.le_refl _) _); clear hY2)
                     | (with_reducible refine wpList_load_mid rfl 74 _ rfl w10.heap.size 0 rfl [.int .i64 si.kind, .string si.text, .int .i64 si.n, .int .i64 sa.kind, .string sa.text, .int .i64 sa.n, .int .i64 sv.kind, .string sv.text, .int .i64 sv.n, .int .i64 st.kind, .string st.text, .int .i64 st.n, .int .i64 y.pref, .bool false, .int .i64 0, .int .i64 0] _ HRX.out Tryz.underlying74 rfl (by kernel_rfl) ?_)
                     | (at_builtin; rw [← HY2.out]; refine wpList_append_src Y2 rfl (.tmp 141) (.tmp 143) 69 rfl 74 j0 _ 16 160 Tryz.underlying69 hj0 hy0 hy1 hy2 rfl (by decide) _ os.length (os.flatMap PrefT.cells) rfl (ownsRow_new HOO7.out HBY2.out) _ 1 1 [.int .i64 si.kind, .string si.text, .int .i64 si.n, .int .i64 sa.kind, .string sa.text, .int .i64 sa.n, .int .i64 sv.kind, .string sv.text, .int .i64 sv.n, .int .i64 st.kind, .string st.text, .int .i64 st.n, .int .i64 y.pref, .bool false, .int .i64 0, .int .i64 0] rfl rfl (fun _ => ⟨_, rfl, HNY2.out⟩) (by intro u hu; simp only [List.mem_cons, List.not_mem_nil, or_false] at hu; rcases hu with rfl | rfl | rfl | rfl | rfl | rfl | rfl | rfl | rfl | rfl | rfl | rfl | rfl | rfl | rfl | rfl <;> rfl) (by unfold maxLen; omega) (by omega) ?_; intro v' W8 hown hg hnil hat; obtain ⟨Ao8, co8, rfl, hF8, hA8, hO8⟩ := grown_own (E := fun k => ∃ a, Ao = some a ∧ a.block = k) (fun a ha => ⟨a, ha, rfl⟩) hown hg hat; have HF8 := Lib.hid hF8; have HA8 := Lib.hid hA8; have HO8 := Lib.hid hO8; clear hown hg hnil hat hF8 hA8 hO8))
                    have hE : ∀ k, (∃ a, Ao = some a ∧ a.block = k) → OtherT Y2 k := by
                     rintro k ⟨a, ha, rfl⟩
                     subst ha
                     rcases (ownsRow_new HOO7.out HBY2.out).2 with ⟨hv, _⟩ | ⟨g, cap, cur, hv, _, hg, _⟩
                     · cases hv
                     · injection hv with hv
                       injection hv with hv
                       subst hv
                       exact OtherT.of (t := 74) (cs := cur) hg (by decide) (by decide) (by decide) (by decide) (by decide) (by decide)
                    have hEX : ∀ k, (∃ a, Ao = some a ∧ a.block = k) → X.heap.size ≤ k := by
                     rintro k ⟨a, ha, rfl⟩
                     exact HAO.out a ha
                    obtain ⟨pr, hpr0⟩ : ∃ pr : PrefT, pr = ⟨si, sa, sv, st, y.pref, false, 0, 0⟩ := ⟨_, rfl⟩
                    have hpr : prefA b y = some pr := by rw [HP2.out, hpr0]
                    have hpu : putA b y = [st, si, sa, sv] := by unfold putA; rw [hpr]; simp [HOB.out, hpr0]
                    have e1 : os ++ [pr] = (p.acts.take (i + 1)).filterMap (prefA b) := by rw [HTK.out, List.filterMap_append, ← HOS.out]; simp [hpr]
                    have e2 : (ps ++ [st]) ++ [si, sa, sv] = (p.acts.take (i + 1)).flatMap (putA b) := by rw [HTK.out, List.flatMap_append, ← HPS.out]; simp [hpu]
                    have e3 : (os ++ [pr]).flatMap PrefT.cells = os.flatMap PrefT.cells ++ [.int .i64 si.kind, .string si.text, .int .i64 si.n, .int .i64 sa.kind, .string sa.text, .int .i64 sa.n, .int .i64 sv.kind, .string sv.text, .int .i64 sv.n, .int .i64 st.kind, .string st.text, .int .i64 st.n, .int .i64 y.pref, .bool false, .int .i64 0, .int .i64 0] := by rw [List.flatMap_append, hpr0]; rfl
                    have e4 : ((ps ++ [st]) ++ [si, sa, sv]).flatMap Sym.cells = ((ps ++ [st])).flatMap Sym.cells ++ [.int .i64 si.kind, .string si.text, .int .i64 si.n, .int .i64 sa.kind, .string sa.text, .int .i64 sa.n, .int .i64 sv.kind, .string sv.text, .int .i64 sv.n] := by rw [List.flatMap_append]; rfl
                    have e5 : ((ps ++ [st]) ++ [si, sa, sv]).length = (ps.length + 1) + 3 := by simp
                    have e6 : (os ++ [pr]).length = os.length + 1 := by simp
                    have hzY := HBY2.out.size
                    have hzB := HXB.out.size
                    have hput := ownsRow_fr (ownsRow_new HOP7.out HBY2.out) HF8.out (fun g hg ⟨a, ha, e⟩ => rows_ne (ownsRow_new HOP7.out HBY2.out) (ownsRow_new HOO7.out HBY2.out) (by decide) hg (by subst ha; simp [Value.ownBlock, e]))
                    have hbel : Below X.heap.size X W8 := ((HXB.out.trans HB7.out).trans (HBY2.out.mono (by omega))).trans (HF8.out.below (by omega) (fun k hk hn => by have := hEX k hn; omega))
                    go_roundw
                    case rel => exact ⟨i + 1, DW7, Ao8, co8, AW7, cW7, os ++ [pr], (ps ++ [st]) ++ [si, sa, sv], by go_num, by rw [e6], by rw [e5], e1, e2, by omega, by rw [e6]; omega, by rw [e5]; omega, (HG7.out.below HBY2.out).offT hE HF8.out, fun k hk => HD7.out k (HDB.out k hk), hbel, by rw [e6, e3]; exact HO8.out, fun a ha => (HA8.out a ha).elim (hEX _) (fun h => by omega), by rw [e5, e4]; exact hput, HAP7.out, HAP72.out⟩
                    case measure => simp [intOf] <;> omega
                · skip
                  have f8a : (y.pref == 8) = false := by simp [h8]
                  have f8b : decide (y.pref = 8) = false := by simp [h8]
                  have f9a : (y.pref == 9) = false := by simp [h9]
                  have f9b : decide (y.pref = 9) = false := by simp [h9]
                  have f10a : (y.pref == 10) = false := by simp [h10]
                  have f10b : decide (y.pref = 10) = false := by simp [h10]
                  have hob : ¬ otherB y.pref = true := by simp [otherB, h8, h9, h10]
                  have HOB := Lib.hid hob
                  rw [if_neg hob] at HP2
                  clear hob
                  have HGB := Lib.hid HG3.out
                  have HDB := Lib.hid HD3.out
                  have HAPB := Lib.hid HAP.out
                  have HAPB2 := Lib.hid HAP2.out
                  have HXB := Lib.hid HBX.out
                  have HOPB := Lib.hid HOP.out
                  have HOOB := Lib.hid HOO.out
                  obtain ⟨Y1, hY1⟩ : ∃ Y1, Y1 = Wp.alloc (.cells #[.int .i64 si.kind, .string si.text, .int .i64 si.n, .int .i64 sa.kind, .string sa.text, .int .i64 sa.n, .int .i64 sv.kind, .string sv.text, .int .i64 sv.n] 23) := ⟨_, rfl⟩
                  have HY1 := Lib.hid hY1
                  have HNY1 := Lib.hid (show ∀ (j : Nat) (u : Value), ([.int .i64 si.kind, .string si.text, .int .i64 si.n, .int .i64 sa.kind, .string sa.text, .int .i64 sa.n, .int .i64 sv.kind, .string sv.text, .int .i64 sv.n] : List Value)[j]? = some u → Y1.cell? ((⟨Wp.heap.size, 0, none⟩ : Addr).add j) = some u by rw [hY1]; exact news_alloc rfl)
                  have hbVY : Below Wp.heap.size Wp Y1 := (by rw [hY1]; exact (Below.refl _ _).alloc (Nat.le_refl _) _)
                  have HBY1 := Lib.hid (HR_.out.trans (hbVY.mono HR_.out.size))
                  have KxY := Lib.hid (Kx.out.new_ hbVY)
                  clear hY1 hbVY
                  go_wp2_with (first
                   | ((with_reducible refine wpList_store_mid rfl 74 _ _ rfl w10.heap.size 0 #[.int .i64 si.kind, .string si.text, .int .i64 si.n, .int .i64 sa.kind, .string sa.text, .int .i64 sa.n, .int .i64 sv.kind, .string sv.text, .int .i64 sv.n, .int .i64 0, .string ⟨#[]⟩, .int .i64 0, .int .i64 y.pref, .bool false, .int .i64 0, .int .i64 0] rfl rfl HTP.out (by kernel_rfl) (by kernel_rfl) ?_); rw [← HWp.out])
                   | (at_builtin; rw [← HY1.out]; refine wpList_append_src Y1 rfl (.tmp 135) (.tmp 139) 57 rfl 23 s0 _ 3 32 Tryz.underlying57 hs0 hs1 hs2 hs3 rfl (by decide) _ ps.length ((ps).flatMap Sym.cells) rfl (ownsRow_new HOPB.out HBY1.out) _ 3 3 [.int .i64 si.kind, .string si.text, .int .i64 si.n, .int .i64 sa.kind, .string sa.text, .int .i64 sa.n, .int .i64 sv.kind, .string sv.text, .int .i64 sv.n] rfl rfl (fun _ => ⟨_, rfl, HNY1.out⟩) (by intro u hu; simp only [List.mem_cons, List.not_mem_nil, or_false] at hu; rcases hu with rfl | rfl | rfl | rfl | rfl | rfl | rfl | rfl | rfl <;> rfl) (by unfold maxLen; omega) (by omega) ?_; intro v' W7 hown hg hnil hat; have hKY := KB.grown (KB.refl Y1) (ownsRow_new HOPB.out HBY1.out) hg; obtain ⟨AW7, cW7, DW7, rfl, hg4, hd4, hap4, hap5, hk4, hb4, hf4, hc4⟩ := step_row (P := fun D W => GT2 D W T T1 L L2) (fun D W W' h hF hK => h.grow hF hK) (B := X.heap.size) HGB.out HBY1.out HOPB.out HAPB.out HAPB2.out (by omega) hown hg hat; have Kx7 := Lib.hid (hKY _ _ _ (by decide) (by decide) (by decide) (by decide) KxY.out); have HRX := Lib.hid (Kx7.out.rangeAt (cs := [.int .i64 si.kind, .string si.text, .int .i64 si.n, .int .i64 sa.kind, .string sa.text, .int .i64 sa.n, .int .i64 sv.kind, .string sv.text, .int .i64 sv.n, .int .i64 0, .string ⟨#[]⟩, .int .i64 0, .int .i64 y.pref, .bool false, .int .i64 0, .int .i64 0])); have HG7 := Lib.hid hg4; have HD7 := Lib.hid hd4; have HAP7 := Lib.hid hap4; have HAP72 := Lib.hid hap5; have HB7 := Lib.hid hb4; have HOP7 := Lib.hid hown; have HOO7 := Lib.hid (owns_kb (ownsRow_new HOOB.out HBY1.out) hKY (by decide) (by decide) (by decide) (by decide)); have hz7 := hb4.size; clear hown hg hnil hat hKY hg4 hd4 hap4 hap5 hk4 hb4 hf4 hc4; obtain ⟨Y2, hY2⟩ : ∃ Y2, Y2 = W7.alloc (.cells #[.int .i64 si.kind, .string si.text, .int .i64 si.n, .int .i64 sa.kind, .string sa.text, .int .i64 sa.n, .int .i64 sv.kind, .string sv.text, .int .i64 sv.n, .int .i64 0, .string ⟨#[]⟩, .int .i64 0, .int .i64 y.pref, .bool false, .int .i64 0, .int .i64 0] 74) := ⟨_, rfl⟩; have HY2 := Lib.hid hY2; have HNY2 := Lib.hid (show ∀ (j : Nat) (u : Value), ([.int .i64 si.kind, .string si.text, .int .i64 si.n, .int .i64 sa.kind, .string sa.text, .int .i64 sa.n, .int .i64 sv.kind, .string sv.text, .int .i64 sv.n, .int .i64 0, .string ⟨#[]⟩, .int .i64 0, .int .i64 y.pref, .bool false, .int .i64 0, .int .i64 0] : List Value)[j]? = some u → Y2.cell? ((⟨W7.heap.size, 0, none⟩ : Addr).add j) = some u by rw [hY2]; exact news_alloc rfl); have HBY2 := Lib.hid (show Below W7.heap.size W7 Y2 by rw [hY2]; exact (Below.refl _ _).alloc (Nat.le_refl _) _); clear hY2)
                   | (with_reducible refine wpList_load_mid rfl 74 _ rfl w10.heap.size 0 rfl [.int .i64 si.kind, .string si.text, .int .i64 si.n, .int .i64 sa.kind, .string sa.text, .int .i64 sa.n, .int .i64 sv.kind, .string sv.text, .int .i64 sv.n, .int .i64 0, .string ⟨#[]⟩, .int .i64 0, .int .i64 y.pref, .bool false, .int .i64 0, .int .i64 0] _ HRX.out Tryz.underlying74 rfl (by kernel_rfl) ?_)
                   | (at_builtin; rw [← HY2.out]; refine wpList_append_src Y2 rfl (.tmp 141) (.tmp 143) 69 rfl 74 j0 _ 16 160 Tryz.underlying69 hj0 hy0 hy1 hy2 rfl (by decide) _ os.length (os.flatMap PrefT.cells) rfl (ownsRow_new HOO7.out HBY2.out) _ 1 1 [.int .i64 si.kind, .string si.text, .int .i64 si.n, .int .i64 sa.kind, .string sa.text, .int .i64 sa.n, .int .i64 sv.kind, .string sv.text, .int .i64 sv.n, .int .i64 0, .string ⟨#[]⟩, .int .i64 0, .int .i64 y.pref, .bool false, .int .i64 0, .int .i64 0] rfl rfl (fun _ => ⟨_, rfl, HNY2.out⟩) (by intro u hu; simp only [List.mem_cons, List.not_mem_nil, or_false] at hu; rcases hu with rfl | rfl | rfl | rfl | rfl | rfl | rfl | rfl | rfl | rfl | rfl | rfl | rfl | rfl | rfl | rfl <;> rfl) (by unfold maxLen; omega) (by omega) ?_; intro v' W8 hown hg hnil hat; obtain ⟨Ao8, co8, rfl, hF8, hA8, hO8⟩ := grown_own (E := fun k => ∃ a, Ao = some a ∧ a.block = k) (fun a ha => ⟨a, ha, rfl⟩) hown hg hat; have HF8 := Lib.hid hF8; have HA8 := Lib.hid hA8; have HO8 := Lib.hid hO8; clear hown hg hnil hat hF8 hA8 hO8))
                  have hE : ∀ k, (∃ a, Ao = some a ∧ a.block = k) → OtherT Y2 k := by
                   rintro k ⟨a, ha, rfl⟩
                   subst ha
                   rcases (ownsRow_new HOO7.out HBY2.out).2 with ⟨hv, _⟩ | ⟨g, cap, cur, hv, _, hg, _⟩
                   · cases hv
                   · injection hv with hv
                     injection hv with hv
                     subst hv
                     exact OtherT.of (t := 74) (cs := cur) hg (by decide) (by decide) (by decide) (by decide) (by decide) (by decide)
                  have hEX : ∀ k, (∃ a, Ao = some a ∧ a.block = k) → X.heap.size ≤ k := by
                   rintro k ⟨a, ha, rfl⟩
                   exact HAO.out a ha
                  obtain ⟨pr, hpr0⟩ : ∃ pr : PrefT, pr = ⟨si, sa, sv, zS, y.pref, false, 0, 0⟩ := ⟨_, rfl⟩
                  have hpr : prefA b y = some pr := by rw [HP2.out, hpr0]
                  have hpu : putA b y = [si, sa, sv] := by unfold putA; rw [hpr]; simp [HOB.out, hpr0]
                  have e1 : os ++ [pr] = (p.acts.take (i + 1)).filterMap (prefA b) := by rw [HTK.out, List.filterMap_append, ← HOS.out]; simp [hpr]
                  have e2 : ps ++ [si, sa, sv] = (p.acts.take (i + 1)).flatMap (putA b) := by rw [HTK.out, List.flatMap_append, ← HPS.out]; simp [hpu]
                  have e3 : (os ++ [pr]).flatMap PrefT.cells = os.flatMap PrefT.cells ++ [.int .i64 si.kind, .string si.text, .int .i64 si.n, .int .i64 sa.kind, .string sa.text, .int .i64 sa.n, .int .i64 sv.kind, .string sv.text, .int .i64 sv.n, .int .i64 0, .string ⟨#[]⟩, .int .i64 0, .int .i64 y.pref, .bool false, .int .i64 0, .int .i64 0] := by rw [List.flatMap_append, hpr0]; rfl
                  have e4 : (ps ++ [si, sa, sv]).flatMap Sym.cells = (ps).flatMap Sym.cells ++ [.int .i64 si.kind, .string si.text, .int .i64 si.n, .int .i64 sa.kind, .string sa.text, .int .i64 sa.n, .int .i64 sv.kind, .string sv.text, .int .i64 sv.n] := by rw [List.flatMap_append]; rfl
                  have e5 : (ps ++ [si, sa, sv]).length = ps.length + 3 := by simp
                  have e6 : (os ++ [pr]).length = os.length + 1 := by simp
                  have hzY := HBY2.out.size
                  have hzB := HXB.out.size
                  have hput := ownsRow_fr (ownsRow_new HOP7.out HBY2.out) HF8.out (fun g hg ⟨a, ha, e⟩ => rows_ne (ownsRow_new HOP7.out HBY2.out) (ownsRow_new HOO7.out HBY2.out) (by decide) hg (by subst ha; simp [Value.ownBlock, e]))
                  have hbel : Below X.heap.size X W8 := ((HXB.out.trans HB7.out).trans (HBY2.out.mono (by omega))).trans (HF8.out.below (by omega) (fun k hk hn => by have := hEX k hn; omega))
                  go_roundw
                  case rel => exact ⟨i + 1, DW7, Ao8, co8, AW7, cW7, os ++ [pr], ps ++ [si, sa, sv], by go_num, by rw [e6], by rw [e5], e1, e2, by omega, by rw [e6]; omega, by rw [e5]; omega, (HG7.out.below HBY2.out).offT hE HF8.out, fun k hk => HD7.out k (HDB.out k hk), hbel, by rw [e6, e3]; exact HO8.out, fun a ha => (HA8.out a ha).elim (hEX _) (fun h => by omega), by rw [e5, e4]; exact hput, HAP7.out, HAP72.out⟩
                  case measure => simp [intOf] <;> omega
      · have hie : i = p.acts.length := by omega
        subst hie
        rw [List.take_length] at HOS HPS
        obtain ⟨pc, hpc⟩ : ∃ x, x = putCode T1.room L2 ps := ⟨_, rfl⟩
        have hpsl2 : (ps.length : Int) ≤ 10000 := by omega
        have hcall := gt2_put ps Ap cp HG3.out (ownsRow_rd Sym.cells_length HOP.out) hpsl2
        rw [← hpc] at hcall
        have HCL := Lib.hid hcall
        have HPC := Lib.hid hpc
        have hdl := (Array.getElem?_eq_some_iff.1 HK.out).1
        have HKW := Lib.hid (show wr.heap[d]? = some (.deferred (some [])) from (HBX.out.block d hdl).trans HK.out)
        have hdl2 : d < wr.heap.size := by omega
        have KRO := Lib.hid (HDO.out.ro.1.new_ HBX.out)
        have KRB := Lib.hid (HDO.out.rb.1.new_ HBX.out)
        have KRE := Lib.hid (HDO.out.re.1.new_ HBX.out)
        have KBW := Lib.hid (KBB.out.new_ HBX.out)
        have KTR := HDO.out.tr.1.new_ HBX.out
        have tr0 := (KTR.cell 0).trans rfl
        have trz := KTR.lt
        clear hpc hcall KTR hdl
        go_wp2_with fail
        refine HCL.out.mono ?_
        rintro e Wq ⟨rfl, hgq, hFq, hKq⟩
        have HGQ := Lib.hid hgq
        have HFQ := Lib.hid hFq
        have HKQ := Lib.hid hKq
        have HDQ := Lib.hid (show Wq.heap[d]? = some (.deferred (some [])) from (hFq.block d hdl2 (fun hn => hn (HD3.out d hDd))).trans HKW.out)
        have KRO := Lib.hid (hKq _ _ _ (by decide) (by decide) (by decide) (by decide) KRO.out)
        have KRB := Lib.hid (hKq _ _ _ (by decide) (by decide) (by decide) (by decide) KRB.out)
        have KRE := Lib.hid (hKq _ _ _ (by decide) (by decide) (by decide) (by decide) KRE.out)
        have KBW := Lib.hid (hKq _ _ _ (by decide) (by decide) (by decide) (by decide) KBW.out)
        have HDD3 := Lib.hid (show ∀ k, D k → D3 k from fun k hk => HD3.out k (HDO.out.di k (HDS.out k (HDD.out k hk))))
        have HFWQ := Lib.hid (show Fr (fun j => ¬ D j) w Wq from (HFW5.out.trans ((HDO.out.fr.trans (Fr.of_new HBX.out)).mono (fun k _ hk hd => hk (HDS.out k (HDD.out k hd))))).trans (hFq.mono (fun k _ hk hd => hk (HDD3.out k hd))))
        clear hgq hFq hKq tr0 trz
        by_cases hpc0 : pc = 0
        · subst hpc0
          have hownq := owns_kb (ownsRow_new KROW.out HBX.out) HKQ.out (by decide) (by decide) (by decide) (by decide)
          have hrdq := ownsRow_rd BindT.cells_length hownq
          have hlb : l.length ≤ b.length := by have := HBL.out; omega
          have hcb := hrdq.1
          obtain ⟨As, hAs⟩ : ∃ As, As = (if c = l.length then A else A.map (·.add (l.length * 4))) := ⟨_, rfl⟩
          obtain ⟨bs, hbs⟩ : ∃ bs, bs = b.drop l.length := ⟨_, rfl⟩
          have hbsl : bs.length = b.length - l.length := by rw [hbs, List.length_drop]
          have hsl : ∀ Y, (Instr.slice 28 (.slice A b.length c) (some (.int .i64 (l.length : Int))) none none).run Tryz.prog Y = .ok (.slice As bs.length (c - l.length)) Y := fun Y => by
           rw [hbsl, hAs]
           have hl0 : (0 : Int) ≤ (l.length : Int) := by omega
           have hl1 : (l.length : Int) ≤ (b.length : Int) := by omega
           go_simp
          have hdrop := hrdq.drop_ l.length hlb
          rw [← hAs, ← hbs] at hdrop
          have HRW := Lib.hid (show ∀ Y, KB Wq Y → RowRd Y 4 BindT.cells As (c - l.length) bs from fun Y hY => by
           have := (ownsRow_rd BindT.cells_length (owns_kb hownq hY (by decide) (by decide) (by decide) (by decide))).drop_ l.length hlb
           rwa [← hAs, ← hbs] at this)
          have HOWNQ := Lib.hid hownq
          have HBS := Lib.hid hbs
          have HBSL := Lib.hid hbsl
          have hbn2 : bs.length ≤ 1048 := by omega
          have hbs63 : (bs.length : Int) ≤ 9223372036854775807 := by omega
          have HRPUT := Lib.hid (ownsRow_fr HOP.out HFQ.out (fun g hg hn => hn (by
           rcases Ap with _ | a
           · simp [Value.ownBlock] at hg
           · have e : a.block = g := by simpa [Value.ownBlock] using hg
             exact e ▸ HAP.out a rfl)))
          have b0 := (KBW.out.cell 0).trans rfl
          have bz := KBW.out.lt
          clear hownq hrdq hAs hbs hbsl hdrop hlb hcb
          go_wp2_with fail
          go_loopw [157] (fun s wr => ∃ (j : Nat) (D4 : Nat → Prop), s = .int .i64 j ∧ j ≤ bs.length ∧ GT D4 wr T (putAll T.room L (bs.take j)) ∧ (∀ k, D3 k → D4 k) ∧ Fr (fun k => ¬ D3 k) Wq wr ∧ KB Wq wr) (fun s wr => bs.length - (intOf s).toNat)
          case atStart => exact ⟨0, D3, rfl, Nat.zero_le _, HGQ.out.one, fun k hk => hk, Fr.refl _ _, KB.refl _⟩
          case round =>
           obtain ⟨j, D4, rfl, hj, hg4, hd4, hf4, hk4⟩ := hrel
           have HG4 := Lib.hid hg4
           have HD4 := Lib.hid hd4
           have HF4 := Lib.hid hf4
           have HK4 := Lib.hid hk4
           clear hg4 hd4 hf4 hk4 b0 bz hsl
           by_cases hjt : j < bs.length
           · obtain ⟨y, hy⟩ : ∃ y, y = bs[j] := ⟨_, rfl⟩
             have htk : bs.take (j + 1) = bs.take j ++ [y] := by rw [List.take_succ_eq_append_getElem hjt, hy]
             have HTK := Lib.hid htk
             obtain ⟨gg, oo, hAA, _, hgg, q0, q1, q2, q3⟩ := at_BindT (RowR.of_rd (D := fun _ => True) (HRW.out wr HK4.out) (fun _ _ => trivial)) hjt
             rw [← hy] at q0 q1 q2 q3
             have b1 : (0 : Int) ≤ (j : Int) := by omega
             have b2 : (j : Int) < (bs.length : Int) := by omega
             obtain ⟨Y, hY⟩ : ∃ Y, Y = (wr.alloc (.cells #[.string y.var, .int .i64 y.sym.kind, .string y.sym.text, .int .i64 y.sym.n] 36)).alloc (.cells #[.int .i64 y.sym.kind, .string y.sym.text, .int .i64 y.sym.n] 23) := ⟨_, rfl⟩
             have HBY := Lib.hid (show Below wr.heap.size wr Y by rw [hY]; exact ((Below.refl _ _).alloc (Nat.le_refl _) _).alloc (by simp) _)
             have hYs : Blk Y (wr.heap.size + 1) 23 #[.int .i64 y.sym.kind, .string y.sym.text, .int .i64 y.sym.n] := by
              rw [hY]; have hh := Blk.new (wr.alloc (.cells #[.string y.var, .int .i64 y.sym.kind, .string y.sym.text, .int .i64 y.sym.n] 36)) 23 #[.int .i64 y.sym.kind, .string y.sym.text, .int .i64 y.sym.n]; simp only [World.size_alloc] at hh; exact hh
             have HXS := Lib.hid (show RowRd Y 3 Sym.cells (some ⟨wr.heap.size + 1, 0, none⟩) 1 [y.sym] from RowRd.of_cells (Nat.le_refl _) (by unfold maxLen; omega) hYs.lt (fun k hk i u hu => by
              obtain rfl : k = 0 := by simp at hk; omega
              rw [show 0 + 0 * 3 + i = i by omega, hYs.cell i, ← hu]; simp [Sym.cells]))
             have HYY := Lib.hid hY
             subst hAA
             clear hY hYs hy htk
             go_wp2_with fail
             rw [← HYY.out]
             have hcc := gt_put [y.sym] _ _ (HG4.out.plus HBY.out) HXS.out (by simp)
             simp only [List.length_singleton] at hcc
             with_reducible refine hcc.mono ?_
             rintro e W9 ⟨rfl, hg9, hf9, hk9⟩
             have HGN := Lib.hid (show GT (Plus D4 wr Y) W9 T (putAll T.room L (bs.take (j + 1))) by rw [HTK.out, putAll_snoc]; exact hg9)
             have HF9 := Lib.hid ((HF4.out.trans (Fr.of_new HBY.out)).trans (hf9.mono (fun k _ hk hd => hk (.inl (HD4.out k hd)))))
             have HK9 := Lib.hid ((HK4.out.trans (KB.of_below HBY.out)).trans hk9)
             clear hg9 hf9 hk9 q0 q1 q2 q3
             go_wp2_with fail
             go_roundw
             case rel => exact ⟨j + 1, Plus D4 wr Y, by go_num, by omega, HGN.out, fun k hk => .inl (HD4.out k hk), HF9.out, HK9.out⟩
             case measure => simp [intOf] <;> omega
           · have hje : j = bs.length := by omega
             subst hje
             rw [List.take_length] at HG4
             have HRP := Lib.hid (ownsRow_fr HRPUT.out HF4.out (fun g hg hn => hn (by
              rcases Ap with _ | a
              · simp [Value.ownBlock] at hg
              · have e : a.block = g := by simpa [Value.ownBlock] using hg
                exact e ▸ HAP.out a rfl)))
             go_wp2_with fail
             with_reducible refine (gt_put ps Ap cp HG4.out (ownsRow_rd Sym.cells_length HRP.out) (by omega)).mono ?_
             rintro e Wf ⟨rfl, hgf, hff, hkf⟩
             have hkk := HK4.out.trans hkf
             have KRO := Lib.hid (hkk _ _ _ (by decide) (by decide) (by decide) (by decide) KRO.out)
             have KRB := Lib.hid (hkk _ _ _ (by decide) (by decide) (by decide) (by decide) KRB.out)
             have KRE := Lib.hid (hkk _ _ _ (by decide) (by decide) (by decide) (by decide) KRE.out)
             have KBW := Lib.hid (hkk _ _ _ (by decide) (by decide) (by decide) (by decide) KBW.out)
             have HOOF := Lib.hid (owns_kb HOO.out (HKQ.out.trans hkk) (by decide) (by decide) (by decide) (by decide))
             have HROWF := Lib.hid (owns_kb HOWNQ.out hkk (by decide) (by decide) (by decide) (by decide))
             have hffq := HF4.out.trans (hff.mono (fun k _ hk hd => hk (HD4.out k hd)))
             have HDF := Lib.hid ((hffq.block d (Array.getElem?_eq_some_iff.1 HDQ.out).1 (fun hn => hn (HD3.out d hDd))).trans HDQ.out)
             have HGF := Lib.hid hgf
             have HFF := Lib.hid (HFWQ.out.trans (hffq.mono (fun k _ hk hd => hk (HDD3.out k hd))))
             have HRES := Lib.hid (show R = ((os, b, 0), putList T.room (putAll T.room L bs) ps) by
              have a1 : freshErr T.room L (doNews l p.acts) = 0 := by rw [← HNW.out, ← HRO.out]; exact HERR.out
              have a2 : doBinds T.room l p.acts L = (b, L2) := by unfold doBinds; rw [← HNW.out, ← HRO.out, HB0.out, HL2.out]
              have a3 : putCode T.room L2 ps = 0 := by rw [← HRO.out]; exact HPC.out.symm
              rw [HRR.out]
              unfold doV
              rw [a1, a2]
              dsimp only
              rw [← HPS.out, ← HOS.out, a3, if_neg (by simp), if_neg (by simp), HBS.out]
              rfl)
             have b0 := (KBW.out.cell 0).trans rfl
             have bz := KBW.out.lt
             have o0 := (KRO.out.cell 0).trans rfl
             have of_ := KRO.out.frozen 0
             have oz := KRO.out.lt
             have r0 := (KRB.out.cell 0).trans rfl
             have rf_ := KRB.out.frozen 0
             have rz := KRB.out.lt
             have e0 := (KRE.out.cell 0).trans rfl
             have ef_ := KRE.out.frozen 0
             have ez := KRE.out.lt
             have hnb : w4.heap.size ≠ w.heap.size + 1 := by have := HSZ.out; have := HB4.out.size; omega
             clear hkk hffq hgf hff hkf
             go_upto_region 38 with fail
             refine wp_region_E (fun w9 => w9.cell? ⟨w4.heap.size, 0, none⟩ = some (.slice A b.length c)) [(0, 0), (1, 1), (2, 2), (3, 2), (4, 2)] (by kernel_rfl) (by kernel_rfl) (fun KK hKK => ?_)
             simp only [beside, List.filterMap_cons, List.filterMap_nil, List.getElem?_toArray, List.getElem?_cons_zero, List.getElem?_cons_succ, Option.map_some]
             repeat ((first | (refine wpX_w ?_ (Or.inl ⟨by rfl, fun w9 => ?_⟩) ?_; rotate_left 1; go_simp; with_reducible rfl) | (refine wpX_l ?_ ((KBW.out.drew.cell 0).trans rfl) (Or.inl ⟨by rfl, fun w9 hw9 => ?_⟩) ?_; rotate_left 1; have hc9 : w9.cell? ⟨w4.heap.size, 0, none⟩ = some (.slice A b.length c) := hw9; go_simp; with_reducible rfl) | refine wpX_w undef (Or.inr ⟨by rfl, rfl⟩) ?_ | refine wpX_l undef ((KBW.out.drew.cell 0).trans rfl) (Or.inr ⟨by rfl, rfl⟩) ?_); go_frame)
             refine wpX_es (fun K9 hK9 => ?_)
             go_simp
             refine hK9 _ _ ((((KBW.out.drew.far (p := ⟨w.heap.size + 1, 0, none⟩) hnb _).cell 0).trans rfl)) ?_
             clear hK9 K9
             try go_frame
             refine wpX_e (by kernel_rfl) (fun K9 hK9 => ?_)
             go_simp
             refine hK9 _ _ ?_
             clear hK9 K9
             try go_frame
             refine wpX_e (by kernel_rfl) (fun K9 hK9 => ?_)
             go_simp
             refine hK9 _ _ ?_
             clear hK9 K9
             try go_frame
             refine wpX_nil ?_
             simp only [OnlyN_normal]
             refine hKK _ _ ?_
             clear hKK KK
             go_wp2_with fail
             obtain ⟨Z3, hZ3⟩ : ∃ Z3, Z3 = (((Wf.setCell ⟨w.heap.size + 1, 0, none⟩ (.slice Ao os.length co)).setCell ⟨w.heap.size + 1 + 1, 0, none⟩ (.slice A b.length c)).setCell ⟨w.heap.size + 1 + 1 + 1, 0, none⟩ (.int .i64 0)).drew := ⟨_, rfl⟩
             rw [← hZ3]
             have hF3 : Fr (fun k => k = w.heap.size + 1 ∨ k = w.heap.size + 1 + 1 ∨ k = w.heap.size + 1 + 1 + 1) Wf Z3 := by
              rw [hZ3]
              exact ((((Fr.refl _ Wf).setCell (p := ⟨w.heap.size + 1, 0, none⟩) (.inl (.inl rfl)) _).setCell (p := ⟨w.heap.size + 1 + 1, 0, none⟩) (.inl (.inr (.inl rfl))) _).setCell (p := ⟨w.heap.size + 1 + 1 + 1, 0, none⟩) (.inl (.inr (.inr rfl))) _).drew
             have k0 : Blk Z3 (w.heap.size + 1) 69 #[.slice Ao os.length co] := by
              rw [hZ3]; simpa using (((KRO.out.set_ 0 (.slice Ao os.length co)).far (p := ⟨w.heap.size + 1 + 1, 0, none⟩) (by dsimp only; omega) (.slice A b.length c)).far (p := ⟨w.heap.size + 1 + 1 + 1, 0, none⟩) (by dsimp only; omega) (.int .i64 0)).drew
             have k1 : Blk Z3 (w.heap.size + 1 + 1) 28 #[.slice A b.length c] := by
              rw [hZ3]; simpa using (((KRB.out.far (p := ⟨w.heap.size + 1, 0, none⟩) (by dsimp only; omega) (.slice Ao os.length co)).set_ 0 (.slice A b.length c)).far (p := ⟨w.heap.size + 1 + 1 + 1, 0, none⟩) (by dsimp only; omega) (.int .i64 0)).drew
             have k2 : Blk Z3 (w.heap.size + 1 + 1 + 1) 44 #[.int .i64 0] := by
              rw [hZ3]; simpa using (((KRE.out.far (p := ⟨w.heap.size + 1, 0, none⟩) (by dsimp only; omega) (.slice Ao os.length co)).far (p := ⟨w.heap.size + 1 + 1, 0, none⟩) (by dsimp only; omega) (.slice A b.length c)).set_ 0 (.int .i64 0)).drew
             have hM : ∀ k, (k = w.heap.size + 1 ∨ k = w.heap.size + 1 + 1 ∨ k = w.heap.size + 1 + 1 + 1) → OtherT Wf k := by
              rintro k (rfl | rfl | rfl)
              · exact OtherT.of KRO.out (by decide) (by decide) (by decide) (by decide) (by decide) (by decide)
              · exact OtherT.of KRB.out (by decide) (by decide) (by decide) (by decide) (by decide) (by decide)
              · exact OtherT.of KRE.out (by decide) (by decide) (by decide) (by decide) (by decide) (by decide)
             have hsz := HSZ.out
             have hb35s := HB35.out.size
             have hnd : ∀ k, k < w.heap.size + 4 → k ≠ d := by omega
             have hdq := (Array.getElem?_eq_some_iff.1 HDF.out).1
             have hK3 : Z3.heap[d]? = some (.deferred (some [])) := (hF3.block d hdq (fun hn => hnd d (by omega) rfl)).trans HDF.out
             obtain ⟨Z4, hZ4⟩ : ∃ Z4, Z4 = Z3.putObj d (.deferred none) := ⟨_, rfl⟩
             have hput : Fr (· = d) Z3 Z4 := by rw [hZ4]; exact (Fr.refl (· = d) Z3).putObj (.inl rfl) _
             have o0 := ((k0.fr hput (hnd _ (by omega))).cell 0).trans rfl
             have r0 := ((k1.fr hput (hnd _ (by omega))).cell 0).trans rfl
             have e0 := ((k2.fr hput (hnd _ (by omega))).cell 0).trans rfl
             have hrowne : ∀ {e : TypeId} {z n c' : Nat} {B : Option Addr} {xs : List Value} {k : Nat} {t : TypeId} {cs : Array Value}, Wf.ownsRow 0 e z (.slice B n c') n xs → Blk Wf k t cs → e ≠ t → (Value.slice B n c').ownBlock ≠ some k := fun h hb hne => own_blk_ne h hb hne
             have own3 : ∀ {e : TypeId} {z n c' : Nat} {B : Option Addr} {xs : List Value}, Wf.ownsRow 0 e z (.slice B n c') n xs → e ≠ 69 → e ≠ 28 → e ≠ 44 → Z4.ownsRow 0 e z (.slice B n c') n xs := fun {e z n c' B xs} h h1 h2 h3 => by
              refine ownsRow_fr (ownsRow_fr h hF3 ?_) hput ?_
              · rintro g hg (rfl | rfl | rfl)
                · exact own_blk_ne h KRO.out h1 hg
                · exact own_blk_ne h KRB.out h2 hg
                · exact own_blk_ne h KRE.out h3 hg
              · rintro g hg rfl
                rcases h.2 with ⟨hv, _⟩ | ⟨k, cap, cur, hv, _, hk, _⟩
                · rw [hv] at hg; simp [Value.ownBlock] at hg
                · rw [hv] at hg
                  have e9 : k = g := by simpa [Value.ownBlock] using hg
                  subst e9
                  rw [HDF.out] at hk
                  cases hk
             have hoo := own3 HOOF.out (by decide) (by decide) (by decide)
             have hrow := own3 HROWF.out (by decide) (by decide) (by decide)
             have hgz := (HGF.out.offT hM hF3).stepB (B := w5.heap.size) (fun _ _ _ _ _ _ _ => HLTS.out.1) (W' := Z4) (hput.mono (fun k _ hk => by subst hk; exact ⟨HD4.out k (HD3.out k hDd), hd⟩))
             have hM2 : ∀ k, ((∃ a, Ao = some a ∧ a.block = k) ∨ (∃ a, A = some a ∧ a.block = k)) → OtherT Z4 k := by
              rintro k (⟨a, ha, rfl⟩ | ⟨a, ha, rfl⟩)
              · subst ha
                rcases hoo.2 with ⟨hv, _⟩ | ⟨g, cap, cur, hv, _, hg, _⟩
                · cases hv
                · injection hv with hv
                  injection hv with hv
                  subst hv
                  exact OtherT.of (t := 74) (cs := cur) hg (by decide) (by decide) (by decide) (by decide) (by decide) (by decide)
              · subst ha
                rcases hrow.2 with ⟨hv, _⟩ | ⟨g, cap, cur, hv, _, hg, _⟩
                · cases hv
                · injection hv with hv
                  injection hv with hv
                  subst hv
                  exact OtherT.of (t := 36) (cs := cur) hg (by decide) (by decide) (by decide) (by decide) (by decide) (by decide)
             have hfr : Fr (fun j => ¬ D j) w Z4 := (HFF.out.trans (hF3.mono (fun k hk hkk hd' => by have := HLD.out k hd'; omega))).trans (hput.mono (fun k _ hk hd' => by have := HLD.out k hd'; omega))
             have hXw : w.heap.size ≤ X.heap.size := by have := HDO.out.fr.size; omega
             refine ⟨by simp, .inl ⟨_, _, rfl, run_takeDeferred hK3, ?_⟩⟩
             rw [← hZ4]
             refine ⟨.tuple #[.slice Ao os.length co, .slice A b.length c, .int .i64 0], by simp [results, Tryz.results25, go_sem, o0, r0, e0], ?_⟩
             rw [HRES.out]
             exact ⟨Ao, co, A, c, _, rfl, hoo, hrow, fun k hk => .inl (.inl (HD4.out k (HDD3.out k hk))), fun a ha => ⟨.inr (.inl ⟨a, ha, rfl⟩), Nat.le_trans hXw (HAO.out a ha)⟩, fun a ha => ⟨.inr (.inr ⟨a, ha, rfl⟩), HDO.out.from_ a ha⟩, hgz.addT hM2, hfr⟩
        · have t1 : (pc == 0) = false := by simp [hpc0]
          have t2 : decide (pc = 0) = false := by simp [hpc0]
          have HPC0 := Lib.hid hpc0
          have o0 := (KRO.out.cell 0).trans rfl
          have of_ := KRO.out.frozen 0
          have oz := KRO.out.lt
          have r0 := (KRB.out.cell 0).trans rfl
          have rf_ := KRB.out.frozen 0
          have rz := KRB.out.lt
          have e0 := (KRE.out.cell 0).trans rfl
          have ef_ := KRE.out.frozen 0
          have ez := KRE.out.lt
          clear hpc0
          go_wp2_with fail
          have hF3 : Fr (fun k => k = w.heap.size + 1 ∨ k = w.heap.size + 1 + 1 ∨ k = w.heap.size + 1 + 1 + 1) Wq (((Wq.setCell ⟨w.heap.size + 1, 0, none⟩ (.slice none 0 0)).setCell ⟨w.heap.size + 1 + 1, 0, none⟩ (.slice none 0 0)).setCell ⟨w.heap.size + 1 + 1 + 1, 0, none⟩ (.int .i64 pc)) :=
           (((Fr.refl _ Wq).setCell (p := ⟨w.heap.size + 1, 0, none⟩) (.inl (.inl rfl)) _).setCell (p := ⟨w.heap.size + 1 + 1, 0, none⟩) (.inl (.inr (.inl rfl))) _).setCell (p := ⟨w.heap.size + 1 + 1 + 1, 0, none⟩) (.inl (.inr (.inr rfl))) _
          have hM : ∀ k, (k = w.heap.size + 1 ∨ k = w.heap.size + 1 + 1 ∨ k = w.heap.size + 1 + 1 + 1) → OtherT Wq k := by
           rintro k (rfl | rfl | rfl)
           · exact OtherT.of KRO.out (by decide) (by decide) (by decide) (by decide) (by decide) (by decide)
           · exact OtherT.of KRB.out (by decide) (by decide) (by decide) (by decide) (by decide) (by decide)
           · exact OtherT.of KRE.out (by decide) (by decide) (by decide) (by decide) (by decide) (by decide)
          have hnd : ∀ k, (k = w.heap.size + 1 ∨ k = w.heap.size + 1 + 1 ∨ k = w.heap.size + 1 + 1 + 1) → k ≠ d := by
           have := HSZ.out
           omega
          have hnd2 : ∀ k, k < w.heap.size + 4 → k ≠ d := by
           have := HSZ.out
           have := HB35.out.size
           omega
          obtain ⟨Z3, hZ3⟩ : ∃ Z3, Z3 = (((Wq.setCell ⟨w.heap.size + 1, 0, none⟩ (.slice none 0 0)).setCell ⟨w.heap.size + 1 + 1, 0, none⟩ (.slice none 0 0)).setCell ⟨w.heap.size + 1 + 1 + 1, 0, none⟩ (.int .i64 pc)) := ⟨_, rfl⟩
          rw [← hZ3] at hF3 ⊢
          have k0 : Blk Z3 (w.heap.size + 1) 69 #[.slice none 0 0] := by
           rw [hZ3]; simpa using ((KRO.out.set_ 0 (.slice none 0 0)).far (p := ⟨w.heap.size + 1 + 1, 0, none⟩) (by dsimp only; omega) (.slice none 0 0)).far (p := ⟨w.heap.size + 1 + 1 + 1, 0, none⟩) (by dsimp only; omega) (.int .i64 pc)
          have k1 : Blk Z3 (w.heap.size + 1 + 1) 28 #[.slice none 0 0] := by
           rw [hZ3]; simpa using (((KRB.out.far (p := ⟨w.heap.size + 1, 0, none⟩) (by dsimp only; omega) (.slice none 0 0)).set_ 0 (.slice none 0 0)).far (p := ⟨w.heap.size + 1 + 1 + 1, 0, none⟩) (by dsimp only; omega) (.int .i64 pc))
          have k2 : Blk Z3 (w.heap.size + 1 + 1 + 1) 44 #[.int .i64 pc] := by
           rw [hZ3]; simpa using (((KRE.out.far (p := ⟨w.heap.size + 1, 0, none⟩) (by dsimp only; omega) (.slice none 0 0)).far (p := ⟨w.heap.size + 1 + 1, 0, none⟩) (by dsimp only; omega) (.slice none 0 0)).set_ 0 (.int .i64 pc))
          have hdq := (Array.getElem?_eq_some_iff.1 HDQ.out).1
          have hK3 : Z3.heap[d]? = some (.deferred (some [])) := (hF3.block d hdq (fun hn => hnd d hn rfl)).trans HDQ.out
          have hput : Fr (· = d) Z3 (Z3.putObj d (.deferred none)) := (Fr.refl (· = d) Z3).putObj (.inl rfl) _
          have o0 := ((k0.fr hput (hnd2 _ (by omega))).cell 0).trans rfl
          have r0 := ((k1.fr hput (hnd2 _ (by omega))).cell 0).trans rfl
          have e0 := ((k2.fr hput (hnd2 _ (by omega))).cell 0).trans rfl
          have hgz := ((HGQ.out.offT hM hF3).one).stepB (B := w5.heap.size) (fun _ _ _ _ _ _ _ => HLTS.out.1) ((Fr.refl (FromB w5.heap.size D3) Z3).putObj (l := d) (.inl ⟨HD3.out d hDd, hd⟩) (.deferred none))
          have hres : R = (([], [], pc), L) := by
           rw [HRR.out]
           refine doV_put ?_ ?_ HPC0.out
           · rw [← HNW.out, ← HRO.out]; exact HERR.out
           · rw [HPC.out, HPS.out]; unfold doBinds; rw [← HNW.out, ← HRO.out, ← HB0.out, ← HL2.out]
          have hfr : Fr (fun j => ¬ D j) w (Z3.putObj d (.deferred none)) := (HFWQ.out.trans (hF3.mono (fun k hk hkk hd => by have := HLD.out k hd; omega))).trans (hput.mono (fun k _ hk hd' => by have := HLD.out k hd'; have := HSZ.out; have := HB35.out.size; omega))
          refine ⟨by simp, .inl ⟨_, _, rfl, run_takeDeferred hK3, ?_⟩⟩
          refine ⟨.tuple #[.slice none 0 0, .slice none 0 0, .int .i64 pc], by simp [results, Tryz.results25, go_sem, o0, r0, e0], ?_⟩
          exact DoTo.bad hres (fun k hk => .inl (HDD3.out k hk)) hgz hfr
   · intro D' d cd pre post X hd hDd hx hIX hK
     rw [hIx] at hIX
     obtain ⟨rfl, e, hX⟩ := hIX
     have hX2 := hX.step HDI.out ((Fr.refl (FromB w5.heap.size D') X).putObj (l := d) (.inl ⟨hDd, hd⟩) (.deferred none))
     have HX2 := Lib.hid hX2
     have o0 := (hX2.ro.1.cell 0).trans rfl
     have r0 := (hX2.rb.1.cell 0).trans rfl
     have e0 := (hX2.re.1.cell 0).trans rfl
     have HK := Lib.hid hK
     clear hI hIx hst hstx HST hX hX2 hK hx
     gi_wp2_with fail
     refine ⟨by simp, .inl ⟨_, _, rfl, run_takeDeferred HK.out, ?_⟩⟩
     refine ⟨.tuple #[.slice none 0 0, .slice none 0 0, .int .i64 e], by simp [results, Tryz.results25, go_sem, *], ?_⟩
     exact DoTo.bad HX2.out.res (fun k hk => HX2.out.di k (HDS.out k (HDD.out k hk))) HX2.out.gt (HFW5.out.trans (HX2.out.fr.mono (fun k _ hk hd => hk (HDS.out k (HDD.out k hd)))))
 · skip
   have cka : (ce == 0) = false := by simp [hce]
   have ckb : decide (ce = 0) = false := by simp [hce]
   have HRR := Lib.hid (show R = (([], [], ce), L) by rw [HR.out, if_pos hce])
   clear hce
   go_wp2_with fail
   refine ⟨.tuple #[.slice none 0 0, .slice none 0 0, .int .i64 ce], by simp [results, Tryz.results25, go_sem, *], ?_⟩
   exact DoTo.bad0 HRR.out H0.out (by (repeat (first | exact Below.refl _ _ | exact HB.out | refine Below.drew ?_ | refine Below.al ?_ _ | refine Below.sc ?_ _)))
end Go.Proofs.YtpndmjabjjbefaaGreat
