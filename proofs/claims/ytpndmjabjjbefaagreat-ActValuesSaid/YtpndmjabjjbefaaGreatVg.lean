/-
  Texts put together: Act4, Act5, LeafPage, FindPage, OpsPage, PutPage, DropPage, MiscPage.
-/
import Derived.Test.YtpndmjabjjbefaaGreatVc
import Derived.Test.YtpndmjabjjbefaaGreatVf
import Derived.Test.YtpndmjabjjbefaaGreatVa
import Derived.Maps.RangeWalk
namespace Go.Proofs.YtpndmjabjjbefaaGreat
open Go.RowKit Go.Shelf
attribute [local go_sem] Oper.semAt_some
theorem info_Bind : (Tryz.prog.info? 36).map (fun i => (i.zero, i.size, i.bytes)) = some (some (.agg #[.string ⟨#[]⟩, .int .i64 0, .string ⟨#[]⟩, .int .i64 0]), 4, 48) := by kernel_rfl
theorem bind_one (l : List BindT) : ∀ u ∈ l.flatMap BindT.cells, u.oneCell' = true := by
 intro u hu
 obtain ⟨b, _, hb⟩ := List.mem_flatMap.1 hu
 simp only [BindT.cells, List.mem_cons, List.not_mem_nil, or_false] at hb
 rcases hb with rfl | rfl | rfl | rfl <;> rfl
theorem news_alloc {Y : World} {t : TypeId} {cs : List Value} {k : Nat} (hk : Y.heap.size = k) : ∀ (j : Nat) (u : Value), cs[j]? = some u → (Y.alloc (.cells cs.toArray t)).cell? ((⟨k, 0, none⟩ : Addr).add j) = some u := by
 subst hk
 exact World.news_of_block (heap_alloc_new _ _)
theorem plus_new {E : Nat → Prop} {X Y : World} {k : Nat} (h1 : X.heap.size ≤ k) (h2 : k < Y.heap.size) : Plus E X Y k := .inr ⟨h1, h2⟩
set_option maxRecDepth 100000 in
set_option maxHeartbeats 16000000 in
theorem newsI_is {D : Nat → Prop} (l : List BindT) (p : ProdT) (kb kp : Nat) (Al A1 A2 : Option Addr) (cl c1 c2 : Nat) (W : World)
 (hkb : Blk W kb 28 #[.slice Al l.length cl]) (hkp : Blk W kp 42 #[.string p.name, .slice A1 p.conds.length c1, .slice A2 p.acts.length c2]) (hDb : D kb) (hDp : D kp)
 (h1 : RowR repBindT D W Al cl l) (h2 : RowR repActT D W A2 c2 p.acts) (hl1 : l.length ≤ 1000) (hl2 : p.acts.length ≤ 1000) :
 IterO Tryz.prog 48 #[.pointer (some ⟨kb, 0, none⟩), .pointer (some ⟨kp, 0, none⟩)] encStr (newsV l (p.acts.flatMap needsA)) W D := by
 intro lo J Jx hJ hJx h0 hY
 obtain ⟨i0, hi0, hz0, hz1, hz2⟩ := info_parts info_Bind
 have HKB := Lib.hid hkb
 have HKP := Lib.hid hkp
 have HJ := Lib.hid hJ
 have HY := Lib.hid hY
 have H1 := Lib.hid h1
 have H2 := Lib.hid h2
 have HDB := Lib.hid hDb
 have HDP := Lib.hid hDp
 have HI := Lib.hid (ItSt.start h0)
 have b0 : W.cell? ⟨kb, 0, none⟩ = some (.slice Al l.length cl) := (hkb.cell 0).trans rfl
 have bz := hkb.lt
 have hlc := h1.cap
 have hac := h2.cap
 obtain ⟨F, hF⟩ : ∃ F, F = newsV l (p.acts.flatMap needsA) := ⟨_, rfl⟩
 rw [← hF] at HY ⊢
 have HF := Lib.hid hF
 clear hkb hkp hJ hJx h0 hY h1 h2 hDb hDp hF
 refine callsIn_of_wp Tryz.func48 rfl trivial ?_
 simp only [Tryz.ntmps48, List.size_toArray, List.length_cons, List.length_nil, Nat.reduceAdd, Nat.reduceSub, Array.replicate_succ, Array.replicate_zero, List.push_toArray, List.append_toArray, List.nil_append, List.cons_append]
 gi_wp2_with (gi_at_builtin; refine wpListIn_app W rfl (.const (.slice none 0 0)) (.tmp 12) 28 rfl 36 i0 _ 4 48 Tryz.underlying28 hi0 hz0 hz1 hz2 rfl (by decide) (.slice none 0 0) 0 [] rfl (owns_nil _ _ _ _) Al l.length cl (l.flatMap BindT.cells) rfl (flat_length BindT.cells_length l) (H1.out.rd.news BindT.cells_length (by decide)) (bind_one l) (by unfold maxLen; omega) (by omega) ?_; intro v' w4 hown hg hnil hat; obtain ⟨A0, c0, rfl, hF0, hA0, hO0⟩ := grown_own (E := fun _ => False) (AIn.none_ _) hown hg hat; rw [Nat.zero_add, List.nil_append] at hO0; simp only [Nat.zero_add]; have hkp0 := HKP.out.fr hF0 (fun h => h); have p2 := (hkp0.cell 2).trans rfl; have pz := hkp0.lt; have HO := Lib.hid hO0; have HA := Lib.hid hA0; have HI := Lib.hid (HI.out.step HJ.out hF0); clear hown hg hnil hat hF0 hA0 hO0 hkp0)
 gi_loopw [4, 17] (fun s t wr => ∃ (i : Nat) (E : Nat → Prop) (pre : List ByteArray) (h : List BindT) (A : Option Addr) (c : Nat), t = .int .i64 i ∧ s = .slice A h.length c ∧ i ≤ p.acts.length ∧ h.length ≤ l.length + 3 * i ∧ F = pre ++ newsV h ((p.acts.drop i).flatMap needsA) ∧ ItSt J D E W pre wr ∧ AIn A E ∧ wr.ownsRow 0 36 4 (.slice A h.length c) h.length (h.flatMap BindT.cells)) (fun s t wr => p.acts.length - (intOf t).toNat)
 case atStart => exact ⟨0, _, [], l, A0, c0, rfl, rfl, Nat.zero_le _, by omega, by rw [HF.out]; rfl, HI.out, HA.out, HO.out⟩
 case round =>
  obtain ⟨i, E, pre, h, A, c, rfl, rfl, hi, hh, hf, hit, hA, hO⟩ := hrel
  have HF1 := Lib.hid hf
  have HI1 := Lib.hid hit
  have HA1 := Lib.hid hA
  have HO1 := Lib.hid hO
  clear hf hit hA hO p2 pz b0 bz
  by_cases hlt : i < p.acts.length
  · obtain ⟨y, hy⟩ : ∃ y, y = p.acts[i] := ⟨_, rfl⟩
    have h2r := H2.out.fr HI1.out.fr (fun k hk hn => hn hk)
    obtain ⟨gg, oo, hAA, _, hgg, _⟩ := at_ActT h2r hlt
    have hRG : wr.rangeAt gg (oo + i * 19) [.string y.id, .string y.attr.var, .int .i64 y.attr.sym.kind, .string y.attr.sym.text, .int .i64 y.attr.sym.n, .int .i64 y.value.op, .string y.value.a.var, .int .i64 y.value.a.sym.kind, .string y.value.a.sym.text, .int .i64 y.value.a.sym.n, .string y.value.b.var, .int .i64 y.value.b.sym.kind, .string y.value.b.sym.text, .int .i64 y.value.b.sym.n, .int .i64 y.pref, .string y.other.var, .int .i64 y.other.sym.kind, .string y.other.sym.text, .int .i64 y.other.sym.n] := fun j v hv => by
     obtain ⟨g', off', cs, e1, _, _, hr, hc⟩ := h2r.at_ hlt
     rw [hAA] at e1
     cases e1
     have hr2 : cs = ActT.cells p.acts[i] := hr
     subst hr2
     rw [← hy] at hc
     exact hc j v hv
    have HRG := Lib.hid hRG
    have hdr : (p.acts.drop i).flatMap needsA = needsA y ++ (p.acts.drop (i + 1)).flatMap needsA := by rw [List.drop_eq_getElem_cons hlt, List.flatMap_cons, ← hy]
    have HDR := Lib.hid hdr
    subst hAA
    have b1 : (0 : Int) ≤ (i : Int) := by omega
    have b2 : (i : Int) < (p.acts.length : Int) := by omega
    obtain ⟨W6, hW6, hth, hrg, hb6, hz6⟩ := kept_new (w := wr) (t := 65) [.string ⟨#[]⟩, .string ⟨#[]⟩, .int .i64 0, .string ⟨#[]⟩, .int .i64 0, .int .i64 0, .string ⟨#[]⟩, .int .i64 0, .string ⟨#[]⟩, .int .i64 0, .string ⟨#[]⟩, .int .i64 0, .string ⟨#[]⟩, .int .i64 0, .int .i64 0, .string ⟨#[]⟩, .int .i64 0, .string ⟨#[]⟩, .int .i64 0] [.string y.id, .string y.attr.var, .int .i64 y.attr.sym.kind, .string y.attr.sym.text, .int .i64 y.attr.sym.n, .int .i64 y.value.op, .string y.value.a.var, .int .i64 y.value.a.sym.kind, .string y.value.a.sym.text, .int .i64 y.value.a.sym.n, .string y.value.b.var, .int .i64 y.value.b.sym.kind, .string y.value.b.sym.text, .int .i64 y.value.b.sym.n, .int .i64 y.pref, .string y.other.var, .int .i64 y.other.sym.kind, .string y.other.sym.text, .int .i64 y.other.sym.n] rfl
    have HW6 := Lib.hid hW6
    have HTH := Lib.hid hth
    have e0 : W6.cell? ⟨wr.heap.size, 0, none⟩ = some (.string y.id) := hrg 0 _ rfl
    have e5 : W6.cell? ⟨wr.heap.size, 5, none⟩ = some (.int .i64 y.value.op) := hrg 5 _ rfl
    have e6 : W6.cell? ⟨wr.heap.size, 6, none⟩ = some (.string y.value.a.var) := hrg 6 _ rfl
    have e15 : W6.cell? ⟨wr.heap.size, 15, none⟩ = some (.string y.other.var) := hrg 15 _ rfl
    have hlo6 : wr.heap.size < W6.heap.size := by omega
    have HI6 := Lib.hid (HI1.out.new_ HJ.out hb6)
    have HO6 := Lib.hid (ownsRow_new HO1.out hb6)
    have HB6 := Lib.hid hb6
    clear hW6 hth hrg hb6 hdr hRG hy h2r hz6
    by_cases hop : y.value.op = 0
    · have o1 : (y.value.op == 0) = true := by simp [hop]
      have o2 : decide (y.value.op = 0) = true := by simp [hop]
      have hne : needsA y = [y.id, y.value.a.var, y.other.var] := by simp [needsA, hop]
      have HN := Lib.hid hne
      clear hop hne
      obtain ⟨n1, hn1⟩ : ∃ n, n = y.value.a.var := ⟨_, rfl⟩
      rw [← hn1] at HN
      have HN1 := Lib.hid hn1
      clear hn1
      gi_wp2_with (first
       | (with_reducible refine wpListIn_load_mid rfl 65 _ rfl gg (oo + i * 19) rfl [.string y.id, .string y.attr.var, .int .i64 y.attr.sym.kind, .string y.attr.sym.text, .int .i64 y.attr.sym.n, .int .i64 y.value.op, .string y.value.a.var, .int .i64 y.value.a.sym.kind, .string y.value.a.sym.text, .int .i64 y.value.a.sym.n, .string y.value.b.var, .int .i64 y.value.b.sym.kind, .string y.value.b.sym.text, .int .i64 y.value.b.sym.n, .int .i64 y.pref, .string y.other.var, .int .i64 y.other.sym.kind, .string y.other.sym.text, .int .i64 y.other.sym.n] _ HRG.out Tryz.underlying65 rfl (by kernel_rfl) ?_)
       | ((with_reducible refine wpListIn_store_mid rfl 65 _ _ rfl wr.heap.size 0 #[.string y.id, .string y.attr.var, .int .i64 y.attr.sym.kind, .string y.attr.sym.text, .int .i64 y.attr.sym.n, .int .i64 y.value.op, .string y.value.a.var, .int .i64 y.value.a.sym.kind, .string y.value.a.sym.text, .int .i64 y.value.a.sym.n, .string y.value.b.var, .int .i64 y.value.b.sym.kind, .string y.value.b.sym.text, .int .i64 y.value.b.sym.n, .int .i64 y.pref, .string y.other.var, .int .i64 y.other.sym.kind, .string y.other.sym.text, .int .i64 y.other.sym.n] rfl rfl HTH.out (by kernel_rfl) (by kernel_rfl) ?_); rw [← HW6.out]))
      rw [← HN1.out]
      gi_loopw [4, 39] (fun s t wr => ∃ (j : Nat) (E : Nat → Prop) (pre : List ByteArray) (h : List BindT) (A : Option Addr) (c : Nat), t = .int .i64 j ∧ s = .slice A h.length c ∧ j ≤ 3 ∧ h.length ≤ l.length + 3 * i + j ∧ F = pre ++ newsV h ((needsA y).drop j ++ (p.acts.drop (i + 1)).flatMap needsA) ∧ ItSt J D E W pre wr ∧ AIn A E ∧ wr.ownsRow 0 36 4 (.slice A h.length c) h.length (h.flatMap BindT.cells) ∧ E W6.heap.size ∧ Blk wr W6.heap.size 9 #[.string y.id, .string n1, .string y.other.var]) (fun s t wr => 3 - (intOf t).toNat)
      case atStart =>
       first
       | exact ⟨0, _, pre, h, A, c, rfl, rfl, by omega, by omega, by rw [HF1.out, HDR.out, List.drop_zero], HI6.out.new_ HJ.out (show Below W6.heap.size W6 _ from (by (repeat (first | exact Below.refl _ _ | (refine Below.drew ?_) | (refine Below.alloc ?_ (by first | omega | (simp; done) | (simp; omega)) _) | (refine Below.setCell ?_ (by first | omega | (simp; done) | (simp; omega)) _))))), HA1.out.mono (fun k hk => .inl (.inl hk)), ownsRow_new HO6.out (by (repeat (first | exact Below.refl _ _ | (refine Below.drew ?_) | (refine Below.alloc ?_ (by first | omega | (simp; done) | (simp; omega)) _) | (refine Below.setCell ?_ (by first | omega | (simp; done) | (simp; omega)) _)))), plus_new (Nat.le_refl _) (by simp), Blk.new _ _ _⟩
       | (have hNN := HN1.out; subst hNN; exact ⟨0, _, pre, h, A, c, rfl, rfl, by omega, by omega, by rw [HF1.out, HDR.out, List.drop_zero], HI6.out.new_ HJ.out (show Below W6.heap.size W6 _ from (by (repeat (first | exact Below.refl _ _ | (refine Below.drew ?_) | (refine Below.alloc ?_ (by first | omega | (simp; done) | (simp; omega)) _) | (refine Below.setCell ?_ (by first | omega | (simp; done) | (simp; omega)) _))))), HA1.out.mono (fun k hk => .inl (.inl hk)), ownsRow_new HO6.out (by (repeat (first | exact Below.refl _ _ | (refine Below.drew ?_) | (refine Below.alloc ?_ (by first | omega | (simp; done) | (simp; omega)) _) | (refine Below.setCell ?_ (by first | omega | (simp; done) | (simp; omega)) _)))), plus_new (Nat.le_refl _) (by simp), Blk.new _ _ _⟩)
      case round =>
       obtain ⟨j, E2, pre2, h2, A2, c2, rfl, rfl, hj, hh2, hf2, hit2, hA2, hO2, hE2, hB2⟩ := hrel
       have HF2 := Lib.hid hf2
       have HI2 := Lib.hid hit2
       have HA2 := Lib.hid hA2
       have HO2 := Lib.hid hO2
       have HE2 := Lib.hid hE2
       have HB2 := Lib.hid hB2
       have hlo2 := hB2.lt
       clear hf2 hit2 hA2 hO2 hE2 e0 e5 e6 e15
       by_cases hjt : j < 3
       · obtain ⟨v, hv1, hv2⟩ : ∃ v, (needsA y).drop j = v :: (needsA y).drop (j + 1) ∧ (#[.string y.id, .string n1, .string y.other.var] : Array Value)[j]? = some (.string v) := by
          rw [HN.out]
          match j, hjt with
          | 0, _ => exact ⟨_, rfl, rfl⟩
          | 1, _ => exact ⟨_, rfl, rfl⟩
          | 2, _ => exact ⟨_, rfl, rfl⟩
         have q0 : wr.cell? ⟨W6.heap.size, j, none⟩ = some (.string v) := (hB2.cell j).trans hv2
         have HV1 := Lib.hid hv1
         have b3 : (0 : Int) ≤ (j : Int) := by omega
         have b4 : (j : Int) < 3 := by omega
         obtain ⟨⟨gs, gb⟩, hgb⟩ : ∃ r, r = getB h2 v := ⟨_, rfl⟩
         have hget := fun X (hb : Below wr.heap.size wr X) => get_is (D := fun _ => True) (A := A2) (c := c2) h2 v X (RowR.of_rd (ownsRow_rd BindT.cells_length (ownsRow_new HO2.out hb)) (fun _ _ => trivial))
         simp only [← hgb] at hget
         have HGET := Lib.hid hget
         have HGB := Lib.hid hgb
         clear hv1 hv2 hB2 hgb hget
         cases gb with
         | true =>
           have HS := Lib.hid (show newsV h2 ((needsA y).drop j ++ (p.acts.drop (i + 1)).flatMap needsA) = newsV h2 ((needsA y).drop (j + 1) ++ (p.acts.drop (i + 1)).flatMap needsA) by rw [HV1.out, List.cons_append, newsV_skip (.inl (by rw [← HGB.out]))])
           gi_wp2_with fail
           refine ⟨trivial, rfl, ?_⟩
           refine (callsIn_wide.2 (HGET.out _ (Below.refl _ _))).mono ?_
           rintro e w5 ⟨rfl, hb5⟩
           have HB5 := Lib.hid hb5
           clear hb5 q0
           gi_wp2_with fail
           go_roundw
           case rel =>
            have hbz : Below wr.heap.size wr (w5.alloc (.cells #[.int .i64 gs.kind, .string gs.text, .int .i64 gs.n] 23)) := HB5.out.alloc HB5.out.size _
            exact ⟨j + 1, _, pre2, h2, A2, c2, by go_num, rfl, by omega, by omega, by rw [HF2.out, HS.out], HI2.out.new_ HJ.out hbz, HA2.out.mono (fun k hk => .inl hk), ownsRow_new HO2.out hbz, .inl HE2.out, HB2.out.new_ hbz⟩
           case measure => simp [intOf] <;> omega
         | false =>
           by_cases hve : v.toList = []
           · have v1 : (v.toList == []) = true := by simp [hve]
             have v2 : v.toList.isEmpty = true := by simp [hve]
             have v3 : decide (v.toList = []) = true := by simp [hve]
             have HS := Lib.hid (show newsV h2 ((needsA y).drop j ++ (p.acts.drop (i + 1)).flatMap needsA) = newsV h2 ((needsA y).drop (j + 1) ++ (p.acts.drop (i + 1)).flatMap needsA) by rw [HV1.out, List.cons_append, newsV_skip (.inr hve)])
             clear hve
             gi_wp2_with fail
             refine ⟨trivial, rfl, ?_⟩
             refine (callsIn_wide.2 (HGET.out _ (Below.refl _ _))).mono ?_
             rintro e w5 ⟨rfl, hb5⟩
             have HB5 := Lib.hid hb5
             clear hb5 q0
             gi_wp2_with fail
             go_roundw
             case rel =>
              have hbz : Below wr.heap.size wr (w5.alloc (.cells #[.int .i64 gs.kind, .string gs.text, .int .i64 gs.n] 23)) := HB5.out.alloc HB5.out.size _
              exact ⟨j + 1, _, pre2, h2, A2, c2, by go_num, rfl, by omega, by omega, by rw [HF2.out, HS.out], HI2.out.new_ HJ.out hbz, HA2.out.mono (fun k hk => .inl hk), ownsRow_new HO2.out hbz, .inl HE2.out, HB2.out.new_ hbz⟩
             case measure => simp [intOf] <;> omega
           · have v1 : (v.toList == []) = false := by simp [hve]
             have v2 : v.toList.isEmpty = false := by simp [hve]
             have v3 : decide (v.toList = []) = false := by simp [hve]
             have HS := Lib.hid (show newsV h2 ((needsA y).drop j ++ (p.acts.drop (i + 1)).flatMap needsA) = v :: newsV (h2 ++ [mkB v]) ((needsA y).drop (j + 1) ++ (p.acts.drop (i + 1)).flatMap needsA) by rw [HV1.out, List.cons_append, newsV_take (by rw [← HGB.out]) hve])
             clear hve
             gi_wp2_with fail
             refine ⟨trivial, rfl, ?_⟩
             refine (callsIn_wide.2 (HGET.out _ (Below.refl _ _))).mono ?_
             rintro e w5 ⟨rfl, hb5⟩
             have HB5 := Lib.hid hb5
             have hz5 := hb5.size
             clear hb5 q0
             obtain ⟨X, hX⟩ : ∃ X, X = (w5.alloc (.cells #[.int .i64 gs.kind, .string gs.text, .int .i64 gs.n] 23)).alloc (.cells #[.string v, .int .i64 0, .string ⟨#[]⟩, .int .i64 0] 36) := ⟨_, rfl⟩
             have HX := Lib.hid hX
             have hbX : Below wr.heap.size wr X := by rw [hX]; exact (HB5.out.alloc hz5 _).alloc (by simp; omega) _
             have HIX := Lib.hid (HI2.out.new_ HJ.out hbX)
             have HOX := Lib.hid (ownsRow_new HO2.out hbX)
             have HBX := Lib.hid hbX
             have HAX := Lib.hid (HA2.out.mono (fun k hk => (.inl hk : Plus E2 wr X k)))
             have HNX := Lib.hid (show ∀ (j : Nat) (u : Value), (BindT.cells (mkB v))[j]? = some u → X.cell? ((⟨w5.heap.size + 1, 0, none⟩ : Addr).add j) = some u by rw [hX]; exact news_alloc (by simp))
             clear hX hbX
             gi_wp2_with (gi_at_builtin; rw [← HX.out]; refine wpListIn_app X rfl (.tmp 54) (.tmp 57) 28 rfl 36 i0 _ 4 48 Tryz.underlying28 hi0 hz0 hz1 hz2 rfl (by decide) _ h2.length (h2.flatMap BindT.cells) rfl HOX.out _ 1 1 (BindT.cells (mkB v)) rfl rfl (fun _ => ⟨_, rfl, HNX.out⟩) (by intro u hu; simp only [BindT.cells, List.mem_cons, List.not_mem_nil, or_false] at hu; rcases hu with rfl | rfl | rfl | rfl <;> rfl) (by unfold maxLen; omega) (by omega) ?_; intro v' w6 hown hg hnil hat; obtain ⟨A3, c3, rfl, hF3, hA3, hO3⟩ := grown_own HAX.out hown hg hat; have HO3 := Lib.hid hO3; have HA3 := Lib.hid hA3; have HF3 := Lib.hid hF3; have HI3 := Lib.hid (HIX.out.step HJ.out hF3); have HB3 := Lib.hid ((HB2.out.new_ HBX.out).grown hg (own_blk_ne HOX.out (HB2.out.new_ HBX.out) (by decide))); obtain ⟨fn, tmps, assign, body, hy, hR⟩ := HI3.out.round HY.out (show F = pre2 ++ v :: newsV (h2 ++ [mkB v]) ((needsA y).drop (j + 1) ++ (p.acts.drop (i + 1)).flatMap needsA) from by rw [HF2.out, HS.out]); dsimp only [encStr] at hy; have HRR := Lib.hid hR; clear hR hown hg hnil hat hF3 hA3 hO3)
             refine ⟨rfl, HRR.out.mono ?_⟩
             rintro e W3 (⟨rfl, hI4, hk4⟩ | ⟨rfl, hT, -⟩)
             · have HI4 := Lib.hid hI4
               have HK4 := Lib.hid hk4
               clear hI4 hk4 hy
               gi_wp2_with fail
               go_roundw
               case rel =>
                have e1 : h2.length + 1 = (h2 ++ [mkB v]).length := by simp
                have e2 : h2.flatMap BindT.cells ++ BindT.cells (mkB v) = (h2 ++ [mkB v]).flatMap BindT.cells := by simp
                have hO4 := ownsRow_fr HO3.out HK4.out (fun g hg hn => hn (.inr (by
                 rcases A3 with _ | a
                 · simp [Value.ownBlock] at hg
                 · have e : a.block = g := by simpa [Value.ownBlock] using hg
                   exact e ▸ HA3.out a rfl)))
                rw [e1, e2] at hO4
                exact ⟨j + 1, _, pre2 ++ [v], h2 ++ [mkB v], A3, c3, by go_num, by rw [← e1], by omega, by simp; omega, by rw [HF2.out, HS.out]; simp, HI4.out, HA3.out, hO4, .inl (.inl HE2.out), HB3.out.fr HK4.out (fun hn => hn (.inr (.inl (.inl HE2.out))))⟩
               case measure => simp [intOf] <;> omega
             · have HT := Lib.hid hT
               clear hT hy
               gi_wp2_with fail
               refine bodyPost_ret (results_none rfl _ _ _) rfl ?_
               exact ⟨⟨_, rfl⟩, HT.out⟩
       · have hje : j = 3 := by omega
         subst hje
         gi_wp2_with fail
         go_roundw
         case rel => exact ⟨i + 1, E2, pre2, h2, A2, c2, by go_num, rfl, by omega, by omega, by rw [HF2.out, HN.out]; rfl, HI2.out, HA2.out, HO2.out⟩
         case measure => simp [intOf] <;> omega
    · have o1 : (y.value.op == 0) = false := by simp [hop]
      have o2 : decide (y.value.op = 0) = false := by simp [hop]
      have hne : needsA y = [y.id, ⟨#[]⟩, y.other.var] := by simp [needsA, hop]
      have HN := Lib.hid hne
      clear hop hne
      obtain ⟨n1, hn1⟩ : ∃ n, n = (⟨#[]⟩ : ByteArray) := ⟨_, rfl⟩
      rw [← hn1] at HN
      have HN1 := Lib.hid hn1
      clear hn1
      gi_wp2_with (first
       | (with_reducible refine wpListIn_load_mid rfl 65 _ rfl gg (oo + i * 19) rfl [.string y.id, .string y.attr.var, .int .i64 y.attr.sym.kind, .string y.attr.sym.text, .int .i64 y.attr.sym.n, .int .i64 y.value.op, .string y.value.a.var, .int .i64 y.value.a.sym.kind, .string y.value.a.sym.text, .int .i64 y.value.a.sym.n, .string y.value.b.var, .int .i64 y.value.b.sym.kind, .string y.value.b.sym.text, .int .i64 y.value.b.sym.n, .int .i64 y.pref, .string y.other.var, .int .i64 y.other.sym.kind, .string y.other.sym.text, .int .i64 y.other.sym.n] _ HRG.out Tryz.underlying65 rfl (by kernel_rfl) ?_)
       | ((with_reducible refine wpListIn_store_mid rfl 65 _ _ rfl wr.heap.size 0 #[.string y.id, .string y.attr.var, .int .i64 y.attr.sym.kind, .string y.attr.sym.text, .int .i64 y.attr.sym.n, .int .i64 y.value.op, .string y.value.a.var, .int .i64 y.value.a.sym.kind, .string y.value.a.sym.text, .int .i64 y.value.a.sym.n, .string y.value.b.var, .int .i64 y.value.b.sym.kind, .string y.value.b.sym.text, .int .i64 y.value.b.sym.n, .int .i64 y.pref, .string y.other.var, .int .i64 y.other.sym.kind, .string y.other.sym.text, .int .i64 y.other.sym.n] rfl rfl HTH.out (by kernel_rfl) (by kernel_rfl) ?_); rw [← HW6.out]))
      gi_loopw [4, 39] (fun s t wr => ∃ (j : Nat) (E : Nat → Prop) (pre : List ByteArray) (h : List BindT) (A : Option Addr) (c : Nat), t = .int .i64 j ∧ s = .slice A h.length c ∧ j ≤ 3 ∧ h.length ≤ l.length + 3 * i + j ∧ F = pre ++ newsV h ((needsA y).drop j ++ (p.acts.drop (i + 1)).flatMap needsA) ∧ ItSt J D E W pre wr ∧ AIn A E ∧ wr.ownsRow 0 36 4 (.slice A h.length c) h.length (h.flatMap BindT.cells) ∧ E W6.heap.size ∧ Blk wr W6.heap.size 9 #[.string y.id, .string n1, .string y.other.var]) (fun s t wr => 3 - (intOf t).toNat)
      case atStart =>
       first
       | exact ⟨0, _, pre, h, A, c, rfl, rfl, by omega, by omega, by rw [HF1.out, HDR.out, List.drop_zero], HI6.out.new_ HJ.out (show Below W6.heap.size W6 _ from (by (repeat (first | exact Below.refl _ _ | (refine Below.drew ?_) | (refine Below.alloc ?_ (by first | omega | (simp; done) | (simp; omega)) _) | (refine Below.setCell ?_ (by first | omega | (simp; done) | (simp; omega)) _))))), HA1.out.mono (fun k hk => .inl (.inl hk)), ownsRow_new HO6.out (by (repeat (first | exact Below.refl _ _ | (refine Below.drew ?_) | (refine Below.alloc ?_ (by first | omega | (simp; done) | (simp; omega)) _) | (refine Below.setCell ?_ (by first | omega | (simp; done) | (simp; omega)) _)))), plus_new (Nat.le_refl _) (by simp), Blk.new _ _ _⟩
       | (have hNN := HN1.out; subst hNN; exact ⟨0, _, pre, h, A, c, rfl, rfl, by omega, by omega, by rw [HF1.out, HDR.out, List.drop_zero], HI6.out.new_ HJ.out (show Below W6.heap.size W6 _ from (by (repeat (first | exact Below.refl _ _ | (refine Below.drew ?_) | (refine Below.alloc ?_ (by first | omega | (simp; done) | (simp; omega)) _) | (refine Below.setCell ?_ (by first | omega | (simp; done) | (simp; omega)) _))))), HA1.out.mono (fun k hk => .inl (.inl hk)), ownsRow_new HO6.out (by (repeat (first | exact Below.refl _ _ | (refine Below.drew ?_) | (refine Below.alloc ?_ (by first | omega | (simp; done) | (simp; omega)) _) | (refine Below.setCell ?_ (by first | omega | (simp; done) | (simp; omega)) _)))), plus_new (Nat.le_refl _) (by simp), Blk.new _ _ _⟩)
      case round =>
       obtain ⟨j, E2, pre2, h2, A2, c2, rfl, rfl, hj, hh2, hf2, hit2, hA2, hO2, hE2, hB2⟩ := hrel
       have HF2 := Lib.hid hf2
       have HI2 := Lib.hid hit2
       have HA2 := Lib.hid hA2
       have HO2 := Lib.hid hO2
       have HE2 := Lib.hid hE2
       have HB2 := Lib.hid hB2
       have hlo2 := hB2.lt
       clear hf2 hit2 hA2 hO2 hE2 e0 e5 e6 e15
       by_cases hjt : j < 3
       · obtain ⟨v, hv1, hv2⟩ : ∃ v, (needsA y).drop j = v :: (needsA y).drop (j + 1) ∧ (#[.string y.id, .string n1, .string y.other.var] : Array Value)[j]? = some (.string v) := by
          rw [HN.out]
          match j, hjt with
          | 0, _ => exact ⟨_, rfl, rfl⟩
          | 1, _ => exact ⟨_, rfl, rfl⟩
          | 2, _ => exact ⟨_, rfl, rfl⟩
         have q0 : wr.cell? ⟨W6.heap.size, j, none⟩ = some (.string v) := (hB2.cell j).trans hv2
         have HV1 := Lib.hid hv1
         have b3 : (0 : Int) ≤ (j : Int) := by omega
         have b4 : (j : Int) < 3 := by omega
         obtain ⟨⟨gs, gb⟩, hgb⟩ : ∃ r, r = getB h2 v := ⟨_, rfl⟩
         have hget := fun X (hb : Below wr.heap.size wr X) => get_is (D := fun _ => True) (A := A2) (c := c2) h2 v X (RowR.of_rd (ownsRow_rd BindT.cells_length (ownsRow_new HO2.out hb)) (fun _ _ => trivial))
         simp only [← hgb] at hget
         have HGET := Lib.hid hget
         have HGB := Lib.hid hgb
         clear hv1 hv2 hB2 hgb hget
         cases gb with
         | true =>
           have HS := Lib.hid (show newsV h2 ((needsA y).drop j ++ (p.acts.drop (i + 1)).flatMap needsA) = newsV h2 ((needsA y).drop (j + 1) ++ (p.acts.drop (i + 1)).flatMap needsA) by rw [HV1.out, List.cons_append, newsV_skip (.inl (by rw [← HGB.out]))])
           gi_wp2_with fail
           refine ⟨trivial, rfl, ?_⟩
           refine (callsIn_wide.2 (HGET.out _ (Below.refl _ _))).mono ?_
           rintro e w5 ⟨rfl, hb5⟩
           have HB5 := Lib.hid hb5
           clear hb5 q0
           gi_wp2_with fail
           go_roundw
           case rel =>
            have hbz : Below wr.heap.size wr (w5.alloc (.cells #[.int .i64 gs.kind, .string gs.text, .int .i64 gs.n] 23)) := HB5.out.alloc HB5.out.size _
            exact ⟨j + 1, _, pre2, h2, A2, c2, by go_num, rfl, by omega, by omega, by rw [HF2.out, HS.out], HI2.out.new_ HJ.out hbz, HA2.out.mono (fun k hk => .inl hk), ownsRow_new HO2.out hbz, .inl HE2.out, HB2.out.new_ hbz⟩
           case measure => simp [intOf] <;> omega
         | false =>
           by_cases hve : v.toList = []
           · have v1 : (v.toList == []) = true := by simp [hve]
             have v2 : v.toList.isEmpty = true := by simp [hve]
             have v3 : decide (v.toList = []) = true := by simp [hve]
             have HS := Lib.hid (show newsV h2 ((needsA y).drop j ++ (p.acts.drop (i + 1)).flatMap needsA) = newsV h2 ((needsA y).drop (j + 1) ++ (p.acts.drop (i + 1)).flatMap needsA) by rw [HV1.out, List.cons_append, newsV_skip (.inr hve)])
             clear hve
             gi_wp2_with fail
             refine ⟨trivial, rfl, ?_⟩
             refine (callsIn_wide.2 (HGET.out _ (Below.refl _ _))).mono ?_
             rintro e w5 ⟨rfl, hb5⟩
             have HB5 := Lib.hid hb5
             clear hb5 q0
             gi_wp2_with fail
             go_roundw
             case rel =>
              have hbz : Below wr.heap.size wr (w5.alloc (.cells #[.int .i64 gs.kind, .string gs.text, .int .i64 gs.n] 23)) := HB5.out.alloc HB5.out.size _
              exact ⟨j + 1, _, pre2, h2, A2, c2, by go_num, rfl, by omega, by omega, by rw [HF2.out, HS.out], HI2.out.new_ HJ.out hbz, HA2.out.mono (fun k hk => .inl hk), ownsRow_new HO2.out hbz, .inl HE2.out, HB2.out.new_ hbz⟩
             case measure => simp [intOf] <;> omega
           · have v1 : (v.toList == []) = false := by simp [hve]
             have v2 : v.toList.isEmpty = false := by simp [hve]
             have v3 : decide (v.toList = []) = false := by simp [hve]
             have HS := Lib.hid (show newsV h2 ((needsA y).drop j ++ (p.acts.drop (i + 1)).flatMap needsA) = v :: newsV (h2 ++ [mkB v]) ((needsA y).drop (j + 1) ++ (p.acts.drop (i + 1)).flatMap needsA) by rw [HV1.out, List.cons_append, newsV_take (by rw [← HGB.out]) hve])
             clear hve
             gi_wp2_with fail
             refine ⟨trivial, rfl, ?_⟩
             refine (callsIn_wide.2 (HGET.out _ (Below.refl _ _))).mono ?_
             rintro e w5 ⟨rfl, hb5⟩
             have HB5 := Lib.hid hb5
             have hz5 := hb5.size
             clear hb5 q0
             obtain ⟨X, hX⟩ : ∃ X, X = (w5.alloc (.cells #[.int .i64 gs.kind, .string gs.text, .int .i64 gs.n] 23)).alloc (.cells #[.string v, .int .i64 0, .string ⟨#[]⟩, .int .i64 0] 36) := ⟨_, rfl⟩
             have HX := Lib.hid hX
             have hbX : Below wr.heap.size wr X := by rw [hX]; exact (HB5.out.alloc hz5 _).alloc (by simp; omega) _
             have HIX := Lib.hid (HI2.out.new_ HJ.out hbX)
             have HOX := Lib.hid (ownsRow_new HO2.out hbX)
             have HBX := Lib.hid hbX
             have HAX := Lib.hid (HA2.out.mono (fun k hk => (.inl hk : Plus E2 wr X k)))
             have HNX := Lib.hid (show ∀ (j : Nat) (u : Value), (BindT.cells (mkB v))[j]? = some u → X.cell? ((⟨w5.heap.size + 1, 0, none⟩ : Addr).add j) = some u by rw [hX]; exact news_alloc (by simp))
             clear hX hbX
             gi_wp2_with (gi_at_builtin; rw [← HX.out]; refine wpListIn_app X rfl (.tmp 54) (.tmp 57) 28 rfl 36 i0 _ 4 48 Tryz.underlying28 hi0 hz0 hz1 hz2 rfl (by decide) _ h2.length (h2.flatMap BindT.cells) rfl HOX.out _ 1 1 (BindT.cells (mkB v)) rfl rfl (fun _ => ⟨_, rfl, HNX.out⟩) (by intro u hu; simp only [BindT.cells, List.mem_cons, List.not_mem_nil, or_false] at hu; rcases hu with rfl | rfl | rfl | rfl <;> rfl) (by unfold maxLen; omega) (by omega) ?_; intro v' w6 hown hg hnil hat; obtain ⟨A3, c3, rfl, hF3, hA3, hO3⟩ := grown_own HAX.out hown hg hat; have HO3 := Lib.hid hO3; have HA3 := Lib.hid hA3; have HF3 := Lib.hid hF3; have HI3 := Lib.hid (HIX.out.step HJ.out hF3); have HB3 := Lib.hid ((HB2.out.new_ HBX.out).grown hg (own_blk_ne HOX.out (HB2.out.new_ HBX.out) (by decide))); obtain ⟨fn, tmps, assign, body, hy, hR⟩ := HI3.out.round HY.out (show F = pre2 ++ v :: newsV (h2 ++ [mkB v]) ((needsA y).drop (j + 1) ++ (p.acts.drop (i + 1)).flatMap needsA) from by rw [HF2.out, HS.out]); dsimp only [encStr] at hy; have HRR := Lib.hid hR; clear hR hown hg hnil hat hF3 hA3 hO3)
             refine ⟨rfl, HRR.out.mono ?_⟩
             rintro e W3 (⟨rfl, hI4, hk4⟩ | ⟨rfl, hT, -⟩)
             · have HI4 := Lib.hid hI4
               have HK4 := Lib.hid hk4
               clear hI4 hk4 hy
               gi_wp2_with fail
               go_roundw
               case rel =>
                have e1 : h2.length + 1 = (h2 ++ [mkB v]).length := by simp
                have e2 : h2.flatMap BindT.cells ++ BindT.cells (mkB v) = (h2 ++ [mkB v]).flatMap BindT.cells := by simp
                have hO4 := ownsRow_fr HO3.out HK4.out (fun g hg hn => hn (.inr (by
                 rcases A3 with _ | a
                 · simp [Value.ownBlock] at hg
                 · have e : a.block = g := by simpa [Value.ownBlock] using hg
                   exact e ▸ HA3.out a rfl)))
                rw [e1, e2] at hO4
                exact ⟨j + 1, _, pre2 ++ [v], h2 ++ [mkB v], A3, c3, by go_num, by rw [← e1], by omega, by simp; omega, by rw [HF2.out, HS.out]; simp, HI4.out, HA3.out, hO4, .inl (.inl HE2.out), HB3.out.fr HK4.out (fun hn => hn (.inr (.inl (.inl HE2.out))))⟩
               case measure => simp [intOf] <;> omega
             · have HT := Lib.hid hT
               clear hT hy
               gi_wp2_with fail
               refine bodyPost_ret (results_none rfl _ _ _) rfl ?_
               exact ⟨⟨_, rfl⟩, HT.out⟩
       · have hje : j = 3 := by omega
         subst hje
         gi_wp2_with fail
         go_roundw
         case rel => exact ⟨i + 1, E2, pre2, h2, A2, c2, by go_num, rfl, by omega, by omega, by rw [HF2.out, HN.out]; rfl, HI2.out, HA2.out, HO2.out⟩
         case measure => simp [intOf] <;> omega
  · have hie : i = p.acts.length := by omega
    subst hie
    rw [List.drop_length, List.flatMap_nil, newsV_nil, List.append_nil] at HF1
    have HT := Lib.hid (show ToldO F J Jx wr by have := HI1.out; rw [← HF1.out] at this; exact this.told)
    gi_wp2_with fail
    go_end0
    exact ⟨⟨_, rfl⟩, HT.out⟩
end Go.Proofs.YtpndmjabjjbefaaGreat
namespace Go.Proofs.YtpndmjabjjbefaaGreat
open Go.RowKit Go.Shelf
def rightB (a b c : Sym) : Bool := decide (a.kind = 1) && decide (b.kind ≠ 1) && validB a && validB b && validB c
theorem sym_of1 {a : Sym} {k : Int} (h : a.kind = k) : ∃ x y, a = ⟨k, x, y⟩ := by
 obtain ⟨k', x, y⟩ := a
 simp only at h
 subst h
 exact ⟨x, y, rfl⟩
set_option maxRecDepth 100000 in
set_option maxHeartbeats 4000000 in
theorem right_is (a b c : Sym) (w : World) : Calls Tryz.prog 57 #[.agg #[.int .i64 a.kind, .string a.text, .int .i64 a.n], .agg #[.int .i64 b.kind, .string b.text, .int .i64 b.n], .agg #[.int .i64 c.kind, .string c.text, .int .i64 c.n]] w fun e w' => e = .returned (.bool (rightB a b c)) ∧ Below w.heap.size w w' := by
 have HV := Lib.hid (show rightB a b c = (decide (a.kind = 1) && decide (b.kind ≠ 1) && validB a && validB b && validB c) from rfl)
 obtain ⟨r, hr⟩ : ∃ r, r = rightB a b c := ⟨_, rfl⟩
 rw [← hr] at HV ⊢
 clear hr
 by_cases ha : a.kind = 1
 · skip
   obtain ⟨ta, na, rfl⟩ : ∃ x y, a = ⟨1, x, y⟩ := sym_of1 ha
   clear ha
   by_cases hb1 : b.kind = 1
   · skip
     have qa : (b.kind == 1) = true := by simp [hb1]
     have qb : decide (b.kind = 1) = true := by simp [hb1]
     have HB1 := Lib.hid hb1
     clear hb1
     go_enter Tryz.func57, Tryz.ntmps57
     go_upto_region 1 with fail
     obtain ⟨w1, hw1⟩ : ∃ w1, w1 = (((w.alloc (.cells #[.int .i64 1, .string ta, .int .i64 na] 23)).alloc (.cells #[.int .i64 b.kind, .string b.text, .int .i64 b.n] 23)).alloc (.cells #[.int .i64 c.kind, .string c.text, .int .i64 c.n] 23)) := ⟨_, rfl⟩
     rw [← hw1]
     have HB := Lib.hid (show Below w.heap.size w w1 by rw [hw1]; exact (by repeat (first | exact Below.refl _ _ | (refine Below.drew ?_) | (refine Below.alloc ?_ (by first | omega | (simp; done) | (simp; omega)) _) | (refine Below.setCell ?_ (by first | omega | (simp; done) | (simp; omega)) _))))
     have Ka := Lib.hid (show Blk w1 (w.heap.size) 23 #[.int .i64 1, .string ta, .int .i64 na] by rw [hw1]; exact (((Blk.new w 23 #[.int .i64 1, .string ta, .int .i64 na]).alloc (.cells #[.int .i64 b.kind, .string b.text, .int .i64 b.n] 23)).alloc (.cells #[.int .i64 c.kind, .string c.text, .int .i64 c.n] 23)))
     have Kb := Lib.hid (show Blk w1 (w.heap.size + 1) 23 #[.int .i64 b.kind, .string b.text, .int .i64 b.n] by rw [hw1]; have hh := ((Blk.new (w.alloc (.cells #[.int .i64 1, .string ta, .int .i64 na] 23)) 23 #[.int .i64 b.kind, .string b.text, .int .i64 b.n]).alloc (.cells #[.int .i64 c.kind, .string c.text, .int .i64 c.n] 23)); simp only [World.size_alloc] at hh; exact hh)
     have Kc := Lib.hid (show Blk w1 (w.heap.size + 2) 23 #[.int .i64 c.kind, .string c.text, .int .i64 c.n] by rw [hw1]; have hh := (Blk.new ((w.alloc (.cells #[.int .i64 1, .string ta, .int .i64 na] 23)).alloc (.cells #[.int .i64 b.kind, .string b.text, .int .i64 b.n] 23)) 23 #[.int .i64 c.kind, .string c.text, .int .i64 c.n]); simp only [World.size_alloc] at hh; exact hh)
     clear hw1
     have a0 : w1.cell? ⟨w.heap.size, 0, none⟩ = some (.int .i64 1) := (Ka.out.cell 0).trans rfl
     have a1 : w1.cell? ⟨w.heap.size, 1, none⟩ = some (.string ta) := (Ka.out.cell 1).trans rfl
     have a2 : w1.cell? ⟨w.heap.size, 2, none⟩ = some (.int .i64 na) := (Ka.out.cell 2).trans rfl
     have az := Ka.out.lt
     have b0 : w1.cell? ⟨w.heap.size + 1, 0, none⟩ = some (.int .i64 b.kind) := (Kb.out.cell 0).trans rfl
     have b1 : w1.cell? ⟨w.heap.size + 1, 1, none⟩ = some (.string b.text) := (Kb.out.cell 1).trans rfl
     have b2 : w1.cell? ⟨w.heap.size + 1, 2, none⟩ = some (.int .i64 b.n) := (Kb.out.cell 2).trans rfl
     have bz := Kb.out.lt
     have c0 : w1.cell? ⟨w.heap.size + 2, 0, none⟩ = some (.int .i64 c.kind) := (Kc.out.cell 0).trans rfl
     have c1 : w1.cell? ⟨w.heap.size + 2, 1, none⟩ = some (.string c.text) := (Kc.out.cell 1).trans rfl
     have c2 : w1.cell? ⟨w.heap.size + 2, 2, none⟩ = some (.int .i64 c.n) := (Kc.out.cell 2).trans rfl
     have cz := Kc.out.lt
     have HR := Lib.hid (show r = false by rw [HV.out]; simp [HB1.out])
     go_wp2_with fail
     go_ret
     exact ⟨by rw [HR.out] <;> rfl, by (repeat (first | exact Below.refl _ _ | exact HB.out | (refine Below.drew ?_) | (refine Below.alloc ?_ (by first | omega | (simp; done) | (simp; omega)) _) | (refine Below.setCell ?_ (by first | omega | (simp; done) | (simp; omega)) _)))⟩
   · skip
     have qa : (b.kind == 1) = false := by simp [hb1]
     have qb : decide (b.kind = 1) = false := by simp [hb1]
     have qc : (b.kind != 1) = true := by simp [hb1]
     go_enter Tryz.func57, Tryz.ntmps57
     go_upto_region 1 with fail
     obtain ⟨w1, hw1⟩ : ∃ w1, w1 = (((w.alloc (.cells #[.int .i64 1, .string ta, .int .i64 na] 23)).alloc (.cells #[.int .i64 b.kind, .string b.text, .int .i64 b.n] 23)).alloc (.cells #[.int .i64 c.kind, .string c.text, .int .i64 c.n] 23)) := ⟨_, rfl⟩
     rw [← hw1]
     have HB := Lib.hid (show Below w.heap.size w w1 by rw [hw1]; exact (by repeat (first | exact Below.refl _ _ | (refine Below.drew ?_) | (refine Below.alloc ?_ (by first | omega | (simp; done) | (simp; omega)) _) | (refine Below.setCell ?_ (by first | omega | (simp; done) | (simp; omega)) _))))
     have Ka := Lib.hid (show Blk w1 (w.heap.size) 23 #[.int .i64 1, .string ta, .int .i64 na] by rw [hw1]; exact (((Blk.new w 23 #[.int .i64 1, .string ta, .int .i64 na]).alloc (.cells #[.int .i64 b.kind, .string b.text, .int .i64 b.n] 23)).alloc (.cells #[.int .i64 c.kind, .string c.text, .int .i64 c.n] 23)))
     have Kb := Lib.hid (show Blk w1 (w.heap.size + 1) 23 #[.int .i64 b.kind, .string b.text, .int .i64 b.n] by rw [hw1]; have hh := ((Blk.new (w.alloc (.cells #[.int .i64 1, .string ta, .int .i64 na] 23)) 23 #[.int .i64 b.kind, .string b.text, .int .i64 b.n]).alloc (.cells #[.int .i64 c.kind, .string c.text, .int .i64 c.n] 23)); simp only [World.size_alloc] at hh; exact hh)
     have Kc := Lib.hid (show Blk w1 (w.heap.size + 2) 23 #[.int .i64 c.kind, .string c.text, .int .i64 c.n] by rw [hw1]; have hh := (Blk.new ((w.alloc (.cells #[.int .i64 1, .string ta, .int .i64 na] 23)).alloc (.cells #[.int .i64 b.kind, .string b.text, .int .i64 b.n] 23)) 23 #[.int .i64 c.kind, .string c.text, .int .i64 c.n]); simp only [World.size_alloc] at hh; exact hh)
     clear hw1
     have a0 : w1.cell? ⟨w.heap.size, 0, none⟩ = some (.int .i64 1) := (Ka.out.cell 0).trans rfl
     have a1 : w1.cell? ⟨w.heap.size, 1, none⟩ = some (.string ta) := (Ka.out.cell 1).trans rfl
     have a2 : w1.cell? ⟨w.heap.size, 2, none⟩ = some (.int .i64 na) := (Ka.out.cell 2).trans rfl
     have az := Ka.out.lt
     have b0 : w1.cell? ⟨w.heap.size + 1, 0, none⟩ = some (.int .i64 b.kind) := (Kb.out.cell 0).trans rfl
     have b1 : w1.cell? ⟨w.heap.size + 1, 1, none⟩ = some (.string b.text) := (Kb.out.cell 1).trans rfl
     have b2 : w1.cell? ⟨w.heap.size + 1, 2, none⟩ = some (.int .i64 b.n) := (Kb.out.cell 2).trans rfl
     have bz := Kb.out.lt
     have c0 : w1.cell? ⟨w.heap.size + 2, 0, none⟩ = some (.int .i64 c.kind) := (Kc.out.cell 0).trans rfl
     have c1 : w1.cell? ⟨w.heap.size + 2, 1, none⟩ = some (.string c.text) := (Kc.out.cell 1).trans rfl
     have c2 : w1.cell? ⟨w.heap.size + 2, 2, none⟩ = some (.int .i64 c.n) := (Kc.out.cell 2).trans rfl
     have cz := Kc.out.lt
     cases hva : validB ⟨1, ta, na⟩
     · skip
       have hc := fun W => valid_is ⟨1, ta, na⟩ W
       simp only [hva] at hc
       have HC := Lib.hid hc
       clear hc
       go_wp2_with fail
       with_reducible refine (HC.out _).mono ?_
       rintro e w2 ⟨rfl, hb⟩
       have hbs := Below.trans (show Below w1.heap.size w1 _ from (by (repeat (first | exact Below.refl _ _ | (refine Below.drew ?_) | (refine Below.alloc ?_ (by first | omega | (simp; done) | (simp; omega)) _) | (refine Below.setCell ?_ (by first | omega | (simp; done) | (simp; omega)) _))))) (hb.mono (by simp <;> omega))
       have Ka := Lib.hid (Ka.out.new_ hbs)
       have Kb := Lib.hid (Kb.out.new_ hbs)
       have Kc := Lib.hid (Kc.out.new_ hbs)
       have HB := Lib.hid (HB.out.trans (hbs.mono HB.out.size))
       have hsz2 := hbs.size
       clear a0 a1 a2 az b0 b1 b2 bz c0 c1 c2 cz hb hbs
       have a0 : w2.cell? ⟨w.heap.size, 0, none⟩ = some (.int .i64 1) := (Ka.out.cell 0).trans rfl
       have a1 : w2.cell? ⟨w.heap.size, 1, none⟩ = some (.string ta) := (Ka.out.cell 1).trans rfl
       have a2 : w2.cell? ⟨w.heap.size, 2, none⟩ = some (.int .i64 na) := (Ka.out.cell 2).trans rfl
       have az := Ka.out.lt
       have b0 : w2.cell? ⟨w.heap.size + 1, 0, none⟩ = some (.int .i64 b.kind) := (Kb.out.cell 0).trans rfl
       have b1 : w2.cell? ⟨w.heap.size + 1, 1, none⟩ = some (.string b.text) := (Kb.out.cell 1).trans rfl
       have b2 : w2.cell? ⟨w.heap.size + 1, 2, none⟩ = some (.int .i64 b.n) := (Kb.out.cell 2).trans rfl
       have bz := Kb.out.lt
       have c0 : w2.cell? ⟨w.heap.size + 2, 0, none⟩ = some (.int .i64 c.kind) := (Kc.out.cell 0).trans rfl
       have c1 : w2.cell? ⟨w.heap.size + 2, 1, none⟩ = some (.string c.text) := (Kc.out.cell 1).trans rfl
       have c2 : w2.cell? ⟨w.heap.size + 2, 2, none⟩ = some (.int .i64 c.n) := (Kc.out.cell 2).trans rfl
       have cz := Kc.out.lt
       have HR := Lib.hid (show r = false by rw [HV.out]; simp [hb1, hva])
       go_wp2_with fail
       go_ret
       exact ⟨by rw [HR.out] <;> rfl, by (repeat (first | exact Below.refl _ _ | exact HB.out | (refine Below.drew ?_) | (refine Below.alloc ?_ (by first | omega | (simp; done) | (simp; omega)) _) | (refine Below.setCell ?_ (by first | omega | (simp; done) | (simp; omega)) _)))⟩
     · skip
       have hc := fun W => valid_is ⟨1, ta, na⟩ W
       simp only [hva] at hc
       have HC := Lib.hid hc
       clear hc
       go_wp2_with fail
       with_reducible refine (HC.out _).mono ?_
       rintro e w2 ⟨rfl, hb⟩
       have hbs := Below.trans (show Below w1.heap.size w1 _ from (by (repeat (first | exact Below.refl _ _ | (refine Below.drew ?_) | (refine Below.alloc ?_ (by first | omega | (simp; done) | (simp; omega)) _) | (refine Below.setCell ?_ (by first | omega | (simp; done) | (simp; omega)) _))))) (hb.mono (by simp <;> omega))
       have Ka := Lib.hid (Ka.out.new_ hbs)
       have Kb := Lib.hid (Kb.out.new_ hbs)
       have Kc := Lib.hid (Kc.out.new_ hbs)
       have HB := Lib.hid (HB.out.trans (hbs.mono HB.out.size))
       have hsz2 := hbs.size
       clear a0 a1 a2 az b0 b1 b2 bz c0 c1 c2 cz hb hbs
       have a0 : w2.cell? ⟨w.heap.size, 0, none⟩ = some (.int .i64 1) := (Ka.out.cell 0).trans rfl
       have a1 : w2.cell? ⟨w.heap.size, 1, none⟩ = some (.string ta) := (Ka.out.cell 1).trans rfl
       have a2 : w2.cell? ⟨w.heap.size, 2, none⟩ = some (.int .i64 na) := (Ka.out.cell 2).trans rfl
       have az := Ka.out.lt
       have b0 : w2.cell? ⟨w.heap.size + 1, 0, none⟩ = some (.int .i64 b.kind) := (Kb.out.cell 0).trans rfl
       have b1 : w2.cell? ⟨w.heap.size + 1, 1, none⟩ = some (.string b.text) := (Kb.out.cell 1).trans rfl
       have b2 : w2.cell? ⟨w.heap.size + 1, 2, none⟩ = some (.int .i64 b.n) := (Kb.out.cell 2).trans rfl
       have bz := Kb.out.lt
       have c0 : w2.cell? ⟨w.heap.size + 2, 0, none⟩ = some (.int .i64 c.kind) := (Kc.out.cell 0).trans rfl
       have c1 : w2.cell? ⟨w.heap.size + 2, 1, none⟩ = some (.string c.text) := (Kc.out.cell 1).trans rfl
       have c2 : w2.cell? ⟨w.heap.size + 2, 2, none⟩ = some (.int .i64 c.n) := (Kc.out.cell 2).trans rfl
       have cz := Kc.out.lt
       cases hvb : validB b
       · skip
         have hc := fun W => valid_is b W
         simp only [hvb] at hc
         have HC := Lib.hid hc
         clear hc
         go_wp2_with fail
         with_reducible refine (HC.out _).mono ?_
         rintro e w3 ⟨rfl, hb⟩
         have hbs := Below.trans (show Below w2.heap.size w2 _ from (by (repeat (first | exact Below.refl _ _ | (refine Below.drew ?_) | (refine Below.alloc ?_ (by first | omega | (simp; done) | (simp; omega)) _) | (refine Below.setCell ?_ (by first | omega | (simp; done) | (simp; omega)) _))))) (hb.mono (by simp <;> omega))
         have Ka := Lib.hid (Ka.out.new_ hbs)
         have Kb := Lib.hid (Kb.out.new_ hbs)
         have Kc := Lib.hid (Kc.out.new_ hbs)
         have HB := Lib.hid (HB.out.trans (hbs.mono HB.out.size))
         have hsz3 := hbs.size
         clear a0 a1 a2 az b0 b1 b2 bz c0 c1 c2 cz hb hbs
         have a0 : w3.cell? ⟨w.heap.size, 0, none⟩ = some (.int .i64 1) := (Ka.out.cell 0).trans rfl
         have a1 : w3.cell? ⟨w.heap.size, 1, none⟩ = some (.string ta) := (Ka.out.cell 1).trans rfl
         have a2 : w3.cell? ⟨w.heap.size, 2, none⟩ = some (.int .i64 na) := (Ka.out.cell 2).trans rfl
         have az := Ka.out.lt
         have b0 : w3.cell? ⟨w.heap.size + 1, 0, none⟩ = some (.int .i64 b.kind) := (Kb.out.cell 0).trans rfl
         have b1 : w3.cell? ⟨w.heap.size + 1, 1, none⟩ = some (.string b.text) := (Kb.out.cell 1).trans rfl
         have b2 : w3.cell? ⟨w.heap.size + 1, 2, none⟩ = some (.int .i64 b.n) := (Kb.out.cell 2).trans rfl
         have bz := Kb.out.lt
         have c0 : w3.cell? ⟨w.heap.size + 2, 0, none⟩ = some (.int .i64 c.kind) := (Kc.out.cell 0).trans rfl
         have c1 : w3.cell? ⟨w.heap.size + 2, 1, none⟩ = some (.string c.text) := (Kc.out.cell 1).trans rfl
         have c2 : w3.cell? ⟨w.heap.size + 2, 2, none⟩ = some (.int .i64 c.n) := (Kc.out.cell 2).trans rfl
         have cz := Kc.out.lt
         have HR := Lib.hid (show r = false by rw [HV.out]; simp [hb1, hva, hvb])
         go_wp2_with fail
         go_ret
         exact ⟨by rw [HR.out] <;> rfl, by (repeat (first | exact Below.refl _ _ | exact HB.out | (refine Below.drew ?_) | (refine Below.alloc ?_ (by first | omega | (simp; done) | (simp; omega)) _) | (refine Below.setCell ?_ (by first | omega | (simp; done) | (simp; omega)) _)))⟩
       · skip
         have hc := fun W => valid_is b W
         simp only [hvb] at hc
         have HC := Lib.hid hc
         clear hc
         go_wp2_with fail
         with_reducible refine (HC.out _).mono ?_
         rintro e w3 ⟨rfl, hb⟩
         have hbs := Below.trans (show Below w2.heap.size w2 _ from (by (repeat (first | exact Below.refl _ _ | (refine Below.drew ?_) | (refine Below.alloc ?_ (by first | omega | (simp; done) | (simp; omega)) _) | (refine Below.setCell ?_ (by first | omega | (simp; done) | (simp; omega)) _))))) (hb.mono (by simp <;> omega))
         have Ka := Lib.hid (Ka.out.new_ hbs)
         have Kb := Lib.hid (Kb.out.new_ hbs)
         have Kc := Lib.hid (Kc.out.new_ hbs)
         have HB := Lib.hid (HB.out.trans (hbs.mono HB.out.size))
         have hsz3 := hbs.size
         clear a0 a1 a2 az b0 b1 b2 bz c0 c1 c2 cz hb hbs
         have a0 : w3.cell? ⟨w.heap.size, 0, none⟩ = some (.int .i64 1) := (Ka.out.cell 0).trans rfl
         have a1 : w3.cell? ⟨w.heap.size, 1, none⟩ = some (.string ta) := (Ka.out.cell 1).trans rfl
         have a2 : w3.cell? ⟨w.heap.size, 2, none⟩ = some (.int .i64 na) := (Ka.out.cell 2).trans rfl
         have az := Ka.out.lt
         have b0 : w3.cell? ⟨w.heap.size + 1, 0, none⟩ = some (.int .i64 b.kind) := (Kb.out.cell 0).trans rfl
         have b1 : w3.cell? ⟨w.heap.size + 1, 1, none⟩ = some (.string b.text) := (Kb.out.cell 1).trans rfl
         have b2 : w3.cell? ⟨w.heap.size + 1, 2, none⟩ = some (.int .i64 b.n) := (Kb.out.cell 2).trans rfl
         have bz := Kb.out.lt
         have c0 : w3.cell? ⟨w.heap.size + 2, 0, none⟩ = some (.int .i64 c.kind) := (Kc.out.cell 0).trans rfl
         have c1 : w3.cell? ⟨w.heap.size + 2, 1, none⟩ = some (.string c.text) := (Kc.out.cell 1).trans rfl
         have c2 : w3.cell? ⟨w.heap.size + 2, 2, none⟩ = some (.int .i64 c.n) := (Kc.out.cell 2).trans rfl
         have cz := Kc.out.lt
         cases hvc : validB c
         · skip
           have hc := fun W => valid_is c W
           simp only [hvc] at hc
           have HC := Lib.hid hc
           clear hc
           go_wp2_with fail
           with_reducible refine (HC.out _).mono ?_
           rintro e w4 ⟨rfl, hb⟩
           have hbs := Below.trans (show Below w3.heap.size w3 _ from (by (repeat (first | exact Below.refl _ _ | (refine Below.drew ?_) | (refine Below.alloc ?_ (by first | omega | (simp; done) | (simp; omega)) _) | (refine Below.setCell ?_ (by first | omega | (simp; done) | (simp; omega)) _))))) (hb.mono (by simp <;> omega))
           have Ka := Lib.hid (Ka.out.new_ hbs)
           have Kb := Lib.hid (Kb.out.new_ hbs)
           have Kc := Lib.hid (Kc.out.new_ hbs)
           have HB := Lib.hid (HB.out.trans (hbs.mono HB.out.size))
           have hsz4 := hbs.size
           clear a0 a1 a2 az b0 b1 b2 bz c0 c1 c2 cz hb hbs
           have a0 : w4.cell? ⟨w.heap.size, 0, none⟩ = some (.int .i64 1) := (Ka.out.cell 0).trans rfl
           have a1 : w4.cell? ⟨w.heap.size, 1, none⟩ = some (.string ta) := (Ka.out.cell 1).trans rfl
           have a2 : w4.cell? ⟨w.heap.size, 2, none⟩ = some (.int .i64 na) := (Ka.out.cell 2).trans rfl
           have az := Ka.out.lt
           have b0 : w4.cell? ⟨w.heap.size + 1, 0, none⟩ = some (.int .i64 b.kind) := (Kb.out.cell 0).trans rfl
           have b1 : w4.cell? ⟨w.heap.size + 1, 1, none⟩ = some (.string b.text) := (Kb.out.cell 1).trans rfl
           have b2 : w4.cell? ⟨w.heap.size + 1, 2, none⟩ = some (.int .i64 b.n) := (Kb.out.cell 2).trans rfl
           have bz := Kb.out.lt
           have c0 : w4.cell? ⟨w.heap.size + 2, 0, none⟩ = some (.int .i64 c.kind) := (Kc.out.cell 0).trans rfl
           have c1 : w4.cell? ⟨w.heap.size + 2, 1, none⟩ = some (.string c.text) := (Kc.out.cell 1).trans rfl
           have c2 : w4.cell? ⟨w.heap.size + 2, 2, none⟩ = some (.int .i64 c.n) := (Kc.out.cell 2).trans rfl
           have cz := Kc.out.lt
           have HR := Lib.hid (show r = false by rw [HV.out]; simp [hb1, hva, hvb, hvc])
           go_wp2_with fail
           go_ret
           exact ⟨by rw [HR.out] <;> rfl, by (repeat (first | exact Below.refl _ _ | exact HB.out | (refine Below.drew ?_) | (refine Below.alloc ?_ (by first | omega | (simp; done) | (simp; omega)) _) | (refine Below.setCell ?_ (by first | omega | (simp; done) | (simp; omega)) _)))⟩
         · skip
           have hc := fun W => valid_is c W
           simp only [hvc] at hc
           have HC := Lib.hid hc
           clear hc
           go_wp2_with fail
           with_reducible refine (HC.out _).mono ?_
           rintro e w4 ⟨rfl, hb⟩
           have hbs := Below.trans (show Below w3.heap.size w3 _ from (by (repeat (first | exact Below.refl _ _ | (refine Below.drew ?_) | (refine Below.alloc ?_ (by first | omega | (simp; done) | (simp; omega)) _) | (refine Below.setCell ?_ (by first | omega | (simp; done) | (simp; omega)) _))))) (hb.mono (by simp <;> omega))
           have Ka := Lib.hid (Ka.out.new_ hbs)
           have Kb := Lib.hid (Kb.out.new_ hbs)
           have Kc := Lib.hid (Kc.out.new_ hbs)
           have HB := Lib.hid (HB.out.trans (hbs.mono HB.out.size))
           have hsz4 := hbs.size
           clear a0 a1 a2 az b0 b1 b2 bz c0 c1 c2 cz hb hbs
           have a0 : w4.cell? ⟨w.heap.size, 0, none⟩ = some (.int .i64 1) := (Ka.out.cell 0).trans rfl
           have a1 : w4.cell? ⟨w.heap.size, 1, none⟩ = some (.string ta) := (Ka.out.cell 1).trans rfl
           have a2 : w4.cell? ⟨w.heap.size, 2, none⟩ = some (.int .i64 na) := (Ka.out.cell 2).trans rfl
           have az := Ka.out.lt
           have b0 : w4.cell? ⟨w.heap.size + 1, 0, none⟩ = some (.int .i64 b.kind) := (Kb.out.cell 0).trans rfl
           have b1 : w4.cell? ⟨w.heap.size + 1, 1, none⟩ = some (.string b.text) := (Kb.out.cell 1).trans rfl
           have b2 : w4.cell? ⟨w.heap.size + 1, 2, none⟩ = some (.int .i64 b.n) := (Kb.out.cell 2).trans rfl
           have bz := Kb.out.lt
           have c0 : w4.cell? ⟨w.heap.size + 2, 0, none⟩ = some (.int .i64 c.kind) := (Kc.out.cell 0).trans rfl
           have c1 : w4.cell? ⟨w.heap.size + 2, 1, none⟩ = some (.string c.text) := (Kc.out.cell 1).trans rfl
           have c2 : w4.cell? ⟨w.heap.size + 2, 2, none⟩ = some (.int .i64 c.n) := (Kc.out.cell 2).trans rfl
           have cz := Kc.out.lt
           have HR := Lib.hid (show r = true by rw [HV.out]; simp [hb1, hva, hvb, hvc])
           go_wp2_with fail
           go_ret
           exact ⟨by rw [HR.out] <;> rfl, by (repeat (first | exact Below.refl _ _ | exact HB.out | (refine Below.drew ?_) | (refine Below.alloc ?_ (by first | omega | (simp; done) | (simp; omega)) _) | (refine Below.setCell ?_ (by first | omega | (simp; done) | (simp; omega)) _)))⟩
 · skip
   have qa : (a.kind == 1) = false := by simp [ha]
   have qb : decide (a.kind = 1) = false := by simp [ha]
   go_enter Tryz.func57, Tryz.ntmps57
   go_upto_region 1 with fail
   obtain ⟨w1, hw1⟩ : ∃ w1, w1 = (((w.alloc (.cells #[.int .i64 a.kind, .string a.text, .int .i64 a.n] 23)).alloc (.cells #[.int .i64 b.kind, .string b.text, .int .i64 b.n] 23)).alloc (.cells #[.int .i64 c.kind, .string c.text, .int .i64 c.n] 23)) := ⟨_, rfl⟩
   rw [← hw1]
   have HB := Lib.hid (show Below w.heap.size w w1 by rw [hw1]; exact (by repeat (first | exact Below.refl _ _ | (refine Below.drew ?_) | (refine Below.alloc ?_ (by first | omega | (simp; done) | (simp; omega)) _) | (refine Below.setCell ?_ (by first | omega | (simp; done) | (simp; omega)) _))))
   have Ka := Lib.hid (show Blk w1 (w.heap.size) 23 #[.int .i64 a.kind, .string a.text, .int .i64 a.n] by rw [hw1]; exact (((Blk.new w 23 #[.int .i64 a.kind, .string a.text, .int .i64 a.n]).alloc (.cells #[.int .i64 b.kind, .string b.text, .int .i64 b.n] 23)).alloc (.cells #[.int .i64 c.kind, .string c.text, .int .i64 c.n] 23)))
   have Kb := Lib.hid (show Blk w1 (w.heap.size + 1) 23 #[.int .i64 b.kind, .string b.text, .int .i64 b.n] by rw [hw1]; have hh := ((Blk.new (w.alloc (.cells #[.int .i64 a.kind, .string a.text, .int .i64 a.n] 23)) 23 #[.int .i64 b.kind, .string b.text, .int .i64 b.n]).alloc (.cells #[.int .i64 c.kind, .string c.text, .int .i64 c.n] 23)); simp only [World.size_alloc] at hh; exact hh)
   have Kc := Lib.hid (show Blk w1 (w.heap.size + 2) 23 #[.int .i64 c.kind, .string c.text, .int .i64 c.n] by rw [hw1]; have hh := (Blk.new ((w.alloc (.cells #[.int .i64 a.kind, .string a.text, .int .i64 a.n] 23)).alloc (.cells #[.int .i64 b.kind, .string b.text, .int .i64 b.n] 23)) 23 #[.int .i64 c.kind, .string c.text, .int .i64 c.n]); simp only [World.size_alloc] at hh; exact hh)
   clear hw1
   have a0 : w1.cell? ⟨w.heap.size, 0, none⟩ = some (.int .i64 a.kind) := (Ka.out.cell 0).trans rfl
   have a1 : w1.cell? ⟨w.heap.size, 1, none⟩ = some (.string a.text) := (Ka.out.cell 1).trans rfl
   have a2 : w1.cell? ⟨w.heap.size, 2, none⟩ = some (.int .i64 a.n) := (Ka.out.cell 2).trans rfl
   have az := Ka.out.lt
   have b0 : w1.cell? ⟨w.heap.size + 1, 0, none⟩ = some (.int .i64 b.kind) := (Kb.out.cell 0).trans rfl
   have b1 : w1.cell? ⟨w.heap.size + 1, 1, none⟩ = some (.string b.text) := (Kb.out.cell 1).trans rfl
   have b2 : w1.cell? ⟨w.heap.size + 1, 2, none⟩ = some (.int .i64 b.n) := (Kb.out.cell 2).trans rfl
   have bz := Kb.out.lt
   have c0 : w1.cell? ⟨w.heap.size + 2, 0, none⟩ = some (.int .i64 c.kind) := (Kc.out.cell 0).trans rfl
   have c1 : w1.cell? ⟨w.heap.size + 2, 1, none⟩ = some (.string c.text) := (Kc.out.cell 1).trans rfl
   have c2 : w1.cell? ⟨w.heap.size + 2, 2, none⟩ = some (.int .i64 c.n) := (Kc.out.cell 2).trans rfl
   have cz := Kc.out.lt
   have HR := Lib.hid (show r = false by rw [HV.out]; simp [ha])
   go_wp2_with fail
   go_ret
   exact ⟨by rw [HR.out] <;> rfl, by (repeat (first | exact Below.refl _ _ | exact HB.out | (refine Below.drew ?_) | (refine Below.alloc ?_ (by first | omega | (simp; done) | (simp; omega)) _) | (refine Below.setCell ?_ (by first | omega | (simp; done) | (simp; omega)) _)))⟩
def greatV (v : ByteArray) : UInt8 := if h : 0 < v.size then v[0] - 32 else 65
theorem u8_sub32 (c : UInt8) (h1 : 97 ≤ c.toNat) (h2 : c.toNat ≤ 122) : ((c - 32).toNat : Int) = (c.toNat : Int) - 97 + 65 := by
 have : (c - 32).toNat = c.toNat - 32 := by
  rw [UInt8.toNat_sub_of_le _ _ (by rw [UInt8.le_iff_toNat_le]; show 32 ≤ c.toNat; omega)]; rfl
 rw [this]; omega
set_option maxHeartbeats 1000000 in
theorem actgreat_is (v : ByteArray) (w : World) (h : isWord v = true) : Calls Tryz.prog 56 #[.string v] w fun e w' => e = .returned (.int .u8 ((greatV v).toNat : Int)) ∧ w = w' := by
 obtain ⟨h0, _, hs, _⟩ := isWord_iff.1 h
 obtain ⟨c, hc⟩ : ∃ c, c = v[0] := ⟨_, rfl⟩
 have h1 : 97 ≤ c.toNat ∧ c.toNat ≤ 122 := by rw [← hc] at hs; simpa [smallB] using hs
 have HG := Lib.hid (show ((greatV v).toNat : Int) = (c.toNat : Int) - 97 + 65 by unfold greatV; rw [dif_pos h0, ← hc]; exact u8_sub32 c h1.1 h1.2)
 have HC := Lib.hid hc
 have b1 : (97 : Int) ≤ c.toNat := by omega
 have b2 : (c.toNat : Int) ≤ 122 := by omega
 have v1 : IntKind.u8.wrap ((c.toNat : Int) - 97) = (c.toNat : Int) - 97 := by rw [IntWalk.u8_in _ (by omega)]
 have v2 : IntKind.u8.wrap ((c.toNat : Int) - 97 + 65) = (c.toNat : Int) - 97 + 65 := by rw [IntWalk.u8_in _ (by omega)]
 have hi : ∀ W, (Instr.index 9 (.string v) (.int .i64 0)).run Tryz.prog W = .ok (.int .u8 (c.toNat : Int)) W := fun W => by
  rw [hc]; go_simp
 clear hs hc h h1
 go_enter Tryz.func56, Tryz.ntmps56
 go_wp2_with fail
 go_ret
 refine ⟨?_, rfl⟩
 rw [HG.out]
 rfl
def MadeNews (l : List BindT) (p : ProdT) (A1 A2 : Option Addr) (c1 c2 : Nat) (w : World) (e : Ending) (w' : World) : Prop :=
 ∃ kb kp A c, e = .returned (.func (.func 48) #[] #[.pointer (some ⟨kb, 0, none⟩), .pointer (some ⟨kp, 0, none⟩)]) ∧ Blk w' kb 28 #[.slice A l.length c] ∧ Blk w' kp 42 #[.string p.name, .slice A1 p.conds.length c1, .slice A2 p.acts.length c2] ∧
   RowR repBindT (fun k => w.heap.size ≤ k ∧ k < w'.heap.size) w' A c l ∧ w.heap.size ≤ kb ∧ w.heap.size ≤ kp ∧ Below w.heap.size w w'
set_option maxHeartbeats 2000000 in
theorem mknews {D : Nat → Prop} (l : List BindT) (p : ProdT) (Al A1 A2 : Option Addr) (cl c1 c2 : Nat) (w : World) (h1 : RowR repBindT D w Al cl l) (hl1 : l.length ≤ 1000) :
 Calls Tryz.prog 18 #[.agg #[.string p.name, .slice A1 p.conds.length c1, .slice A2 p.acts.length c2], .slice Al l.length cl] w (MadeNews l p A1 A2 c1 c2 w) := by
 obtain ⟨i0, hi0, hz0, hz1, hz2⟩ := info_parts info_Bind
 have HR := Lib.hid h1
 clear h1
 go_enter Tryz.func18, Tryz.ntmps18
 go_upto_region 1 with fail
 obtain ⟨W1, hW1⟩ : ∃ W1, W1 = w.alloc (.cells #[.string p.name, .slice A1 p.conds.length c1, .slice A2 p.acts.length c2] 42) := ⟨_, rfl⟩
 rw [← hW1]
 have HB1 := Lib.hid (show Below w.heap.size w W1 by rw [hW1]; exact (Below.refl _ _).alloc (Nat.le_refl _) _)
 have HP := Lib.hid (show Blk W1 w.heap.size 42 #[.string p.name, .slice A1 p.conds.length c1, .slice A2 p.acts.length c2] by rw [hW1]; exact Blk.new _ _ _)
 have HZ := Lib.hid (show W1.heap.size = w.heap.size + 1 by rw [hW1, World.size_alloc])
 clear hW1
 go_wp2_with (at_builtin; refine wpList_append_src W1 rfl (.const (.slice none 0 0)) (.tmp 6) 28 rfl 36 i0 _ 4 48 Tryz.underlying28 hi0 hz0 hz1 hz2 rfl (by decide) (.slice none 0 0) 0 [] rfl (owns_nil _ _ _ _) Al l.length cl (l.flatMap BindT.cells) rfl (flat_length BindT.cells_length l) ((HR.out.new_ HB1.out).rd.news BindT.cells_length (by decide)) (bind_one l) (by unfold maxLen; omega) (by omega) ?_; intro v' w4 hown hg hnil hat; obtain ⟨A0, c0, rfl, hF0, hA0, hO0⟩ := grown_own (E := fun _ => False) (AIn.none_ _) hown hg hat; rw [Nat.zero_add, List.nil_append] at hO0; simp only [Nat.zero_add]; have HO := Lib.hid hO0; have HA := Lib.hid hA0; have HF := Lib.hid hF0; clear hown hg hnil hat hF0 hA0 hO0)
 go_ret
 have hz := HF.out.size
 have hz1 := HZ.out
 have hn : Below w4.heap.size w4 (w4.alloc (.cells #[.slice A0 l.length c0] 28)) := (Below.refl _ _).alloc (Nat.le_refl _) _
 have hb4 : Below w.heap.size w w4 := HB1.out.trans ((HF.out.below (Nat.le_refl _) (fun _ _ h => h)).mono (by omega))
 refine ⟨w4.heap.size, w.heap.size, A0, c0, rfl, Blk.new _ _ _, (HP.out.fr HF.out (fun h => h)).new_ hn, RowR.of_rd ((ownsRow_rd BindT.cells_length HO.out).new_ hn) (HA.out.mono (fun k hk => ?_)), by omega, Nat.le_refl _, hb4.trans (hn.mono (by omega))⟩
 rcases hk with hk | hk
 · exact hk.elim
 · exact ⟨by omega, by simp; omega⟩
end Go.Proofs.YtpndmjabjjbefaaGreat
namespace Go.Proofs.YtpndmjabjjbefaaGreat
open Go.RowKit
structure Page where
 key : UInt8
 v : Int
 deriving DecidableEq
def Page.kk (p : Page) : Int := (p.key.toNat : Int)
theorem Page.kk_bd (p : Page) : 0 ≤ p.kk ∧ p.kk ≤ 255 := by
 unfold Page.kk
 have := p.key.toNat_lt
 omega
def Page.cells (p : Page) : List Value := [.int .u8 p.kk, .int .i64 p.v]
theorem Page.cells_length (p : Page) : p.cells.length = 2 := rfl
def cmpPage (a b : Page) : Int := a.kk - b.kk
theorem tc_page : TC cmpPage := ⟨fun x => by unfold cmpPage; omega, fun x y => by unfold cmpPage; omega, fun x y z => by unfold cmpPage; omega⟩
theorem cmpPage_eq {a b : Page} : cmpPage a b = 0 ↔ a.key = b.key := by
 unfold cmpPage Page.kk
 constructor
 · intro h
   exact UInt8.toNat_inj.1 (by omega)
 · intro h
   rw [h]; omega
set_option maxHeartbeats 400000 in
theorem cmp_letter (a b : Int) (ha : 0 ≤ a) (ha2 : a ≤ 255) (hb : 0 ≤ b) (hb2 : b ≤ 255) (w : World) : Calls Tryz.prog 161 #[.int .u8 a, .int .u8 b] w fun e w' => e = .returned (.int .i64 (a - b)) ∧ w = w' := by
 have v1 : IntKind.i64.wrap a = a := IntWalk.i64_in _ (by omega)
 have v2 : IntKind.i64.wrap b = b := IntWalk.i64_in _ (by omega)
 have v3 : IntKind.i64.wrap (a - b) = a - b := IntWalk.i64_in _ (by omega)
 go_enter Tryz.func161, Tryz.ntmps161
 go_wp2
 go_ret
 exact ⟨rfl, rfl⟩
theorem nilAhead_letter (k : Int) (w : World) : (nilAhead 310 109 (.int .u8 k) "Compare").run Tryz.prog w = .ok (some false) w := by kernel_rfl
theorem method_letter (k : Int) (w : World) : (method 310 109 (.int .u8 k) "Compare").run Tryz.prog w = .ok (161, .int .u8 k) w := by kernel_rfl
set_option maxHeartbeats 1000000 in
theorem cmp_page (a b : Page) (w : World) : Calls Tryz.prog 172 #[.agg #[.int .u8 a.kk, .int .i64 a.v], .agg #[.int .u8 b.kk, .int .i64 b.v]] w fun e w' => e = .returned (.int .i64 (cmpPage a b)) ∧ Below w.heap.size w w' := by
 have ha := a.kk_bd
 have hb := b.kk_bd
 have N := nilAhead_letter
 have M := method_letter
 go_enter Tryz.func172, Tryz.ntmps172
 go_wp2_with fail
 refine (cmp_letter a.kk b.kk ha.1 ha.2 hb.1 hb.2 _).mono ?_
 rintro e w' ⟨rfl, rfl⟩
 go_wp2_with fail
 go_ret
 exact ⟨rfl, ((Below.refl _ _).alloc (Nat.le_refl _) _).alloc (by simp) _⟩
end Go.Proofs.YtpndmjabjjbefaaGreat
namespace Go.Proofs.YtpndmjabjjbefaaGreat
open Go.RowKit
abbrev PageSet := SetAt (α := Page) 161 135 2 Page.cells
theorem nilAhead_Page (k0 : Int) (k1 : Int) (w : World) : (nilAhead 310 135 (.agg #[.int .u8 k0, .int .i64 k1]) "Compare").run Tryz.prog w = .ok (some false) w := by kernel_rfl
theorem method_Page (k0 : Int) (k1 : Int) (w : World) : (method 310 135 (.agg #[.int .u8 k0, .int .i64 k1]) "Compare").run Tryz.prog w = .ok (172, .agg #[.int .u8 k0, .int .i64 k1]) w := by kernel_rfl
def FoundPage (l : List Page) (x : Page) (w : World) (e : Ending) (w' : World) : Prop :=
 e = .returned (.tuple #[.int .i64 (rank cmpPage l x), .bool (has cmpPage l x)]) ∧ Below w.heap.size w w'
set_option maxRecDepth 100000 in
set_option maxHeartbeats 4000000 in
theorem find_Page (b c : Nat) (sn : Bool) (A : Option Addr) (l : List Page) (x : Page) (w : World) (hS : PageSet w b sn A c l) (hs : Srt cmpPage l) (hl : (l.length : Int) ≤ 4611686018427387904) :
 Calls Tryz.prog 124 #[.pointer (some ⟨b, 0, none⟩), .agg #[.int .u8 x.kk, .int .i64 x.v]] w (FoundPage l x w) := by
 have hrd := hS.rd Page.cells_length
 have h0 := hS.cell0
 have hb := hS.lt
 clear hS
 have HS := Lib.hid hs
 have HRD := Lib.hid hrd
 clear hs hrd
 go_enter Tryz.func124, Tryz.ntmps124
 go_wp2_with fail
 go_quiet (fail)
 go_wp2_with fail
 obtain ⟨W0, hW0⟩ : ∃ W0, W0 = ((w.alloc (Obj.cells #[Value.int IntKind.u8 x.kk, Value.int IntKind.i64 x.v] 135)).drewN nq) := ⟨_, rfl⟩
 have hB0 : Below w.heap.size w W0 := by rw [hW0]; exact Below.drewN' ((Below.refl _ _).alloc (Nat.le_refl _) _) _
 have hx0 : W0.cell? ⟨w.heap.size, 0, none⟩ = some (.int .u8 x.kk) := by rw [hW0]; go_simp
 have hx1 : W0.cell? ⟨w.heap.size, 1, none⟩ = some (.int .i64 x.v) := by rw [hW0]; go_simp
 rw [← hW0]
 clear hW0
 have HB0 := Lib.hid hB0
 clear hB0
 go_loopw [6, 7] (fun lo hi wr => ∃ i j : Nat, lo = .int .i64 i ∧ hi = .int .i64 j ∧ i ≤ j ∧ j ≤ l.length ∧ (∀ k, (h : k < l.length) → k < i → cmpPage l[k] x < 0) ∧ (∀ k, (h : k < l.length) → j ≤ k → 0 < cmpPage l[k] x) ∧ Below W0.heap.size W0 wr) (fun lo hi wr => (intOf hi).toNat - (intOf lo).toNat)
 case atStart => exact ⟨0, l.length, rfl, rfl, Nat.zero_le _, Nat.le_refl _, fun k _ h => absurd h (by omega), fun k h h' => absurd h (by omega), Below.refl _ _⟩
 case round =>
  obtain ⟨i, j, rfl, rfl, hij, hj, hlo, hhi, hB⟩ := hrel
  have HLO := Lib.hid hlo
  have HHI := Lib.hid hhi
  clear hlo hhi
  have hsz : w.heap.size < W0.heap.size := World.block_lt_of_cell? W0 _ hx0
  by_cases hlt : i < j
  · obtain ⟨m, hm⟩ : ∃ m, m = i + (j - i) / 2 := ⟨_, rfl⟩
    have hml : m < l.length := by omega
    have hmj : m < j := by omega
    have hmi : i ≤ m := by omega
    have e1 : ((i : Int) + ((j : Int) - (i : Int)) / 2) = (m : Int) := by omega
    have E1 := Lib.hid e1
    clear e1 hm
    obtain ⟨g, off, rfl, hgs, hcell⟩ := HRD.out.at_ hml
    have low : ∀ (p : Addr), p.block < w.heap.size → wr.cell? p = w.cell? p := fun p hp => (hB.cell (p := p) (by omega)).trans (HB0.out.cell (p := p) hp)
    have r0 := (low ⟨b, 0, none⟩ hb).trans h0
    have q0 := (low ⟨g, off + m * 2, none⟩ hgs).trans (hcell 0 _ rfl)
    have q1 := (low ⟨g, off + m * 2 + 1, none⟩ hgs).trans (hcell 1 _ rfl)
    have y0 := (hB.cell (p := ⟨w.heap.size, 0, none⟩) hsz).trans hx0
    have y1 := (hB.cell (p := ⟨w.heap.size, 1, none⟩) hsz).trans hx1
    have b1 : (0 : Int) ≤ (m : Int) := by omega
    have b2 : (m : Int) < (l.length : Int) := by omega
    have hsw : W0.heap.size ≤ wr.heap.size := hB.size
    have N := nilAhead_Page
    have M := method_Page
    clear low hcell hx0 hx1 h0
    have HB := Lib.hid hB
    clear hB
    obtain ⟨y, hy⟩ : ∃ y, y = l[m] := ⟨_, rfl⟩
    rw [← hy] at q0 q1
    have HY := Lib.hid hy
    clear hy
    have hbw : b < wr.heap.size := by omega
    have hgw : g < wr.heap.size := by omega
    have hww : w.heap.size < wr.heap.size := by omega
    go_wp2_with fail
    rw [E1.out]
    go_region_held3 (fun w' => w'.cell? ⟨b, 0, none⟩ = some (.slice (some ⟨g, off, none⟩) l.length c) ∧ w'.cell? ⟨g, off + m * 2, none⟩ = some (.int .u8 y.kk) ∧ w'.cell? ⟨g, off + m * 2 + 1, none⟩ = some (.int .i64 y.v) ∧ w'.cell? ⟨w.heap.size, 0, none⟩ = some (.int .u8 x.kk) ∧ w'.cell? ⟨w.heap.size, 1, none⟩ = some (.int .i64 x.v))
     (first | go_keep | (refine ⟨?_, ?_, ?_, ?_, ?_⟩ <;> exact (hb1.cell (by simpa using by assumption)).trans (by simp [*])))
     ((go_at_call 172; refine (cmp_page y x _).mono ?_; rintro e w1 ⟨rfl, hb1⟩))
    have HB1 : Below W0.heap.size W0 w1 := HB.out.drew.trans (hb1.mono hsw)
    clear r0 q0 q1 y0 y1 N M
    by_cases hc : cmpPage y x = 0
    · have HC := Lib.hid hc
      have t1 : (cmpPage y x == 0) = true := by simp [hc]
      clear hc
      go_wp2_with fail
      go_ret2
      have e := HC.out
      rw [HY.out] at e
      refine ⟨?_, HB0.out.trans (HB1.mono (by omega))⟩
      rw [rank_some tc_page HS.out hml e, (at_some tc_page HS.out hml e).2.2.1]
      rfl
    · have t1 : (cmpPage y x == 0) = false := by simp [hc]
      by_cases hc2 : cmpPage y x < 0
      · have HC := Lib.hid hc2
        have t2 : decide (cmpPage y x < 0) = true := by simpa using hc2
        clear hc hc2
        go_wp2_with fail
        go_roundw
        case rel =>
         refine ⟨m + 1, j, by go_num, rfl, by omega, hj, fun k h1 h2 => ?_, HHI.out, HB1⟩
         have e := HC.out
         rw [HY.out] at e
         rcases Nat.lt_or_ge k m with h3 | h3
         · exact tc_page.lt_of_lt_of_le (HS.out.lt h3 hml) (by omega)
         · obtain rfl : k = m := by omega
           exact e
        case measure => simp [intOf]; omega
      · have t2 : decide (cmpPage y x < 0) = false := by simpa using hc2
        have hc3 : 0 < cmpPage y x := by omega
        have HC := Lib.hid hc3
        clear hc hc2 hc3
        go_wp2_with fail
        go_roundw
        case rel =>
         refine ⟨i, m, rfl, rfl, by omega, by omega, HLO.out, fun k h1 h2 => ?_, HB1⟩
         have e := HC.out
         rw [HY.out] at e
         rcases Nat.lt_or_ge m k with h3 | h3
         · exact (tc_page.symm _ _).1 (tc_page.lt_trans ((tc_page.symm _ _).2 e) (HS.out.lt h3 h1))
         · obtain rfl : k = m := by omega
           exact e
        case measure => simp [intOf]; omega
  · obtain rfl : i = j := by omega
    have HB := Lib.hid hB
    clear hB
    go_wp2_with fail
    go_ret2
    refine ⟨?_, HB0.out.trans (HB.out.mono (by omega))⟩
    rw [rank_none hj HLO.out HHI.out, (at_none HLO.out HHI.out).2.2]
    rfl
end Go.Proofs.YtpndmjabjjbefaaGreat
namespace Go.Proofs.YtpndmjabjjbefaaGreat
open Go.RowKit
theorem info_Page : (Tryz.prog.info? 135).map (fun i => (i.zero, i.size, i.bytes)) = some (some (.agg #[.int .u8 0, .int .i64 0]), 2, 16) := by kernel_rfl
theorem Page.one (x : Page) : ∀ u ∈ Page.cells x, u.oneCell' = true := by intro u hu; simp [Page.cells] at hu; rcases hu with rfl | rfl <;> rfl
theorem Page.oneAll (l : List Page) : ∀ u ∈ l.flatMap Page.cells, u.oneCell' = true := by intro u hu; obtain ⟨x, _, hx⟩ := List.mem_flatMap.1 hu; exact Page.one x u hx
def OwnPostPage (w : World) (b : Nat) (sn : Bool) (A : Option Addr) (l : List Page) (e : Ending) (w' : World) : Prop :=
 e = .returned (.tuple #[]) ∧ ∃ A' c', PageSet w' b false A' c' l ∧ Fr (· = b) w w' ∧ Moved w sn A false A'
set_option maxRecDepth 100000 in
set_option maxHeartbeats 1000000 in
theorem own_no_Page (b c : Nat) (A : Option Addr) (l : List Page) (w : World) (hS : PageSet w b false A c l) :
 Calls Tryz.prog 125 #[.pointer (some ⟨b, 0, none⟩)] w (OwnPostPage w b false A l) := by
 have h1 := hS.cell1
 have HS := Lib.hid hS
 clear hS
 go_enter Tryz.func125, Tryz.ntmps125
 go_wp2
 go_end0
 exact ⟨rfl, A, c, HS.out, Fr.refl _ _, .inl ⟨rfl, rfl⟩⟩
set_option maxRecDepth 100000 in
set_option maxHeartbeats 1000000 in
theorem own_yes_Page (b c : Nat) (A : Option Addr) (l : List Page) (w : World) (hS : PageSet w b true A c l) (hl : (l.length : Int) ≤ 1000000000) :
 Calls Tryz.prog 125 #[.pointer (some ⟨b, 0, none⟩)] w (OwnPostPage w b true A l) := by
 obtain ⟨i0, hi, hz0, hz1, hz2⟩ := info_parts info_Page
 have h0 := hS.cell0
 have h1 := hS.cell1
 have hb := hS.lt
 have f0 := hS.blk.frozen 0
 have f1 := hS.blk.frozen 1
 have hrd := hS.rd Page.cells_length
 have HB := Lib.hid hS.blk
 have HRD := Lib.hid hrd
 clear hS hrd
 have e1 : IntKind.i64.wrap ((l.length : Int) + 1) = (l.length : Int) + 1 := IntWalk.i64_in _ (by omega)
 have hmk : ∀ W : World, (Instr.makeSlice 159 (.int .i64 0) (.int .i64 ((l.length : Int) + 1))).run Tryz.prog W = .ok (.slice (some ⟨W.heap.size, 0, none⟩) 0 (l.length + 1)) (W.alloc (.cells (madeCells (Value.cells (.agg #[.int .u8 0, .int .i64 0])) ((l.length + 1) * 2)) 135)) := fun W => by
  have h := run_make (P := Tryz.prog) W 159 135 i0 _ Tryz.underlying159 hi hz0 .i64 .i64 0 ((l.length : Int) + 1) (by omega) (by omega) (by rw [hz2]; omega) (by omega)
  rw [hz1] at h
  simpa [show ((l.length : Int) + 1).toNat = l.length + 1 by omega] using h
 go_enter Tryz.func125, Tryz.ntmps125
 go_wp2_with fail
 refine wp_region_E (fun w9 => Below w.heap.size w w9) [(0, 0), (1, 0), (2, 0), (3, 0), (4, 1), (5, 0), (6, 0), (8, 0), (9, 0), (10, 0), (11, 1), (7, 2), (12, 2), (13, 0), (14, 0), (15, 2)] (by kernel_rfl) (by kernel_rfl) (fun KK hKK => ?_)
 simp only [beside, List.filterMap_cons, List.filterMap_nil, List.getElem?_toArray, List.getElem?_cons_zero, List.getElem?_cons_succ, Option.map_some]
 repeat (first | (refine wpX_w ?_ (Or.inl ⟨by rfl, fun w9 => ?_⟩) ?_; rotate_left 1; go_simp; with_reducible rfl; go_frame) | (refine wpX_l ?_ (((Below.refl _ _).drew)) (Or.inl ⟨by rfl, fun w9 hw9 => ?_⟩) ?_; rotate_left 1; obtain ⟨hc9, hf9⟩ := bcell hw9; go_simp; with_reducible rfl; go_frame) | (refine wpX_w undef (Or.inr ⟨by rfl, rfl⟩) ?_; go_frame) | (refine wpX_l undef (((Below.refl _ _).drew)) (Or.inr ⟨by rfl, rfl⟩) ?_; go_frame))
 refine wpX_es (fun K9 hK9 => ?_)
 go_simp
 refine hK9 _ _ (((Below.refl _ _).drew).alloc (Nat.le_refl _) _) ?_
 clear hK9 K9
 refine wpX_e (by kernel_rfl) (fun K9 hK9 => ?_)
 refine step_append_src _ (by rfl) _ _ _ (by rfl) 135 i0 _ 2 16 Tryz.underlying159 hi hz0 hz1 hz2 rfl (by omega) _ 0 [] (by rfl) (World.ownsRow_made _ _ _ (Nat.zero_le _) (by unfold maxLen; omega) (by simp [madeCells])) A l.length c (l.flatMap Page.cells) (by rfl) (flat_length Page.cells_length l)
  ((HRD.out.drew.alloc _).news Page.cells_length (by omega)) (Page.oneAll l) (by unfold maxLen; omega) (by omega) ?_
 intro v2 w2 hown hgr hnil hat
 refine hK9 _ _ ?_
 clear hK9 K9
 rw [Nat.zero_add, List.nil_append] at hown
 obtain ⟨A', c', rfl, _, _, hz⟩ := own_form2 hown
 have HB1 := (HB.out.drew.alloc (.cells (madeCells (Value.cells (.agg #[.int .u8 0, .int .i64 0])) ((l.length + 1) * 2)) 135)).grown hgr (by simp [Value.ownBlock]; omega)
 have c0 := (HB1.cell 0).trans rfl
 have c1 := (HB1.cell 1).trans rfl
 have z0 := HB1.frozen 0
 have z1 := HB1.frozen 1
 have HB2 := Lib.hid HB1
 clear HB1
 repeat (first | (refine wpX_w ?_ (Or.inl ⟨by rfl, fun w9 => ?_⟩) ?_; rotate_left 1; go_simp; with_reducible rfl; go_frame) | (refine wpX_l ?_ (((Below.refl _ _).drew).alloc (Nat.le_refl _) _) (Or.inl ⟨by rfl, fun w9 hw9 => ?_⟩) ?_; rotate_left 1; obtain ⟨hc9, hf9⟩ := bcell hw9; go_simp; with_reducible rfl; go_frame) | (refine wpX_w undef (Or.inr ⟨by rfl, rfl⟩) ?_; go_frame) | (refine wpX_l undef (((Below.refl _ _).drew).alloc (Nat.le_refl _) _) (Or.inr ⟨by rfl, rfl⟩) ?_; go_frame))
 refine wpX_e (by kernel_rfl) (fun K9 hK9 => ?_)
 go_simp
 refine hK9 _ _ ?_
 clear hK9 K9
 refine wpX_nil ?_
 simp only [OnlyN_normal]
 refine hKK _ _ ?_
 clear hKK KK
 go_wp2
 go_end0
 have hb2 : (Value.slice A' l.length c').ownBlock = some w.heap.size ∨ (Value.slice A' l.length c').ownBlock = some (w.heap.size + 1) := by
  rcases hat with h | h
  · left; rw [h]; rfl
  · right; rw [h]; simp
 have hA : ∃ g, w.heap.size ≤ g ∧ A' = some ⟨g, 0, none⟩ := by
  rcases A' with _ | a
  · exfalso; simp [Value.ownBlock] at hb2
  · obtain ⟨g, rfl⟩ := hz a rfl
    refine ⟨g, ?_, rfl⟩
    simp [Value.ownBlock] at hb2
    omega
 obtain ⟨g, hg, rfl⟩ := hA
 have HB1 := HB2.out
 have HF : Fr (· = b) w w2 := ((Fr.refl (· = b) w).drew.alloc _).grown hgr (fun k e => by simp [Value.ownBlock] at e; right; omega)
 refine ⟨rfl, some ⟨g, 0, none⟩, c', ⟨(HB1.set_ 0 _).set_ 1 _, ?_⟩, (HF.setCell (p := ⟨b, 0, none⟩) (.inl rfl) _).setCell (p := ⟨b, 1, none⟩) (.inl rfl) _, .inr ⟨rfl, g, hg, rfl⟩⟩
 have hne : (Value.slice (some ⟨g, 0, none⟩) l.length c').ownBlock ≠ some b := by simp [Value.ownBlock]; omega
 exact ownsRow_setCell_other (a := ⟨b, 1, none⟩) (ownsRow_setCell_other (a := ⟨b, 0, none⟩) hown hne _) hne _
theorem own_Page (b c : Nat) (sn : Bool) (A : Option Addr) (l : List Page) (w : World) (hS : PageSet w b sn A c l) (hl : (l.length : Int) ≤ 1000000000) :
 Calls Tryz.prog 125 #[.pointer (some ⟨b, 0, none⟩)] w (OwnPostPage w b sn A l) := by
 cases sn
 · exact own_no_Page b c A l w hS
 · exact own_yes_Page b c A l w hS hl
end Go.Proofs.YtpndmjabjjbefaaGreat
namespace Go.Proofs.YtpndmjabjjbefaaGreat
open Go.RowKit
def PutPostPage (w : World) (b : Nat) (sn : Bool) (A : Option Addr) (l : List Page) (x : Page) (e : Ending) (w' : World) : Prop :=
 e = .returned (.bool (!has cmpPage l x)) ∧ ∃ sn' A' c', PageSet w' b sn' A' c' (put cmpPage l x) ∧ Fr (SetMod b sn A) w w' ∧ Moved w sn A sn' A'
set_option maxRecDepth 100000 in
set_option maxHeartbeats 1000000 in
theorem put_there_Page (b c : Nat) (sn : Bool) (A : Option Addr) (l : List Page) (x : Page) (w : World) (hS : PageSet w b sn A c l) (hs : Srt cmpPage l) (hl : (l.length : Int) ≤ 100000000) (hh : has cmpPage l x = true) :
 Calls Tryz.prog 102 #[.pointer (some ⟨b, 0, none⟩), .agg #[.int .u8 x.kk, .int .i64 x.v]] w (PutPostPage w b sn A l x) := by
 have HS := Lib.hid hS
 have HO := Lib.hid hs
 clear hS hs
 go_enter Tryz.func102, Tryz.ntmps102
 go_wp2_with fail
 refine (find_Page b c sn A l x _ (HS.out.new_ ((Below.refl _ _).alloc (Nat.le_refl _) _)) HO.out (by omega)).mono ?_
 rintro e w1 ⟨rfl, hb1⟩
 go_wp2_with fail
 go_ret
 refine ⟨by rw [hh]; rfl, sn, A, c, ?_, Fr.of_new (((Below.refl _ _).alloc (Nat.le_refl _) _).trans (hb1.mono (by simp))), .inl ⟨rfl, rfl⟩⟩
 rw [put_has hh]
 exact HS.out.new_ (((Below.refl _ _).alloc (Nat.le_refl _) _).trans (hb1.mono (by simp)))
set_option maxRecDepth 100000 in
set_option maxHeartbeats 4000000 in
theorem put_new_Page (b c : Nat) (sn : Bool) (A : Option Addr) (l : List Page) (x : Page) (w : World) (hS : PageSet w b sn A c l) (hs : Srt cmpPage l) (hl : (l.length : Int) ≤ 100000000) (hh : has cmpPage l x = false) :
 Calls Tryz.prog 102 #[.pointer (some ⟨b, 0, none⟩), .agg #[.int .u8 x.kk, .int .i64 x.v]] w (PutPostPage w b sn A l x) := by
 obtain ⟨i0, hi, hz0, hz1, hz2⟩ := info_parts info_Page
 have HS := Lib.hid hS
 have HO := Lib.hid hs
 have hb := hS.lt
 clear hS hs
 have hrk := rank_le (cmp := cmpPage) l x
 go_enter Tryz.func102, Tryz.ntmps102
 go_wp2_with fail
 have hSa := HS.out.new_ ((Below.refl w.heap.size w).alloc (Nat.le_refl _) (.cells #[Value.int IntKind.u8 x.kk, Value.int IntKind.i64 x.v] 135))
 have HSa := Lib.hid hSa
 clear hSa
 refine (find_Page b c sn A l x _ HSa.out HO.out (by omega)).mono ?_
 rintro e w1 ⟨rfl, hb1⟩
 have HS1 := Lib.hid (HSa.out.new_ hb1)
 have hsz1 : w.heap.size + 1 ≤ w1.heap.size := by have := hb1.size; (try simp at this); omega
 have y0 := (hb1.cell (p := ⟨w.heap.size, 0, none⟩) (by simp)).trans ((Blk.new w 135 #[Value.int IntKind.u8 x.kk, Value.int IntKind.i64 x.v]).cell 0)
 have y1 := (hb1.cell (p := ⟨w.heap.size, 1, none⟩) (by simp)).trans ((Blk.new w 135 #[Value.int IntKind.u8 x.kk, Value.int IntKind.i64 x.v]).cell 1)
 have HB1 := Lib.hid hb1
 clear hb1
 go_wp2_with fail
 refine (own_Page b c sn A l _ HS1.out (by omega)).mono ?_
 rintro e w2 ⟨rfl, A1, c1, hS2, hF2, hM2⟩
 have hsz2 : w1.heap.size ≤ w2.heap.size := hF2.size
 have x0 : w2.cell? ⟨w.heap.size, 0, none⟩ = some (.int .u8 x.kk) := (hF2.cell (p := ⟨w.heap.size, 0, none⟩) (by dsimp only; omega) (by dsimp only; omega)).trans y0
 have x1 : w2.cell? ⟨w.heap.size, 1, none⟩ = some (.int .i64 x.v) := (hF2.cell (p := ⟨w.heap.size, 1, none⟩) (by dsimp only; omega) (by dsimp only; omega)).trans y1
 have s0 := hS2.cell0
 have f0 := hS2.blk.frozen 0
 have hb2 : b < w2.heap.size := by omega
 have hk2 : w.heap.size < w2.heap.size := by omega
 have HS2 := Lib.hid hS2
 have HF2 := Lib.hid hF2
 have HM2 := Lib.hid hM2
 clear hS2 hF2 hM2 y0 y1
 go_wp2_with fail
 refine wp_region_E (fun w9 => Below w2.heap.size w2 w9) [(0, 0), (1, 0), (2, 0), (3, 0), (4, 1), (5, 1), (6, 2), (7, 2), (8, 0), (9, 0), (10, 2)] (by kernel_rfl) (by kernel_rfl) (fun KK hKK => ?_)
 simp only [beside, List.filterMap_cons, List.filterMap_nil, List.getElem?_toArray, List.getElem?_cons_zero, List.getElem?_cons_succ, Option.map_some]
 repeat (first | (refine wpX_w ?_ (Or.inl ⟨by rfl, fun w9 => ?_⟩) ?_; rotate_left 1; go_simp; with_reducible rfl; go_frame) | (refine wpX_l ?_ (((Below.refl _ _).drew)) (Or.inl ⟨by rfl, fun w9 hw9 => ?_⟩) ?_; rotate_left 1; obtain ⟨hc9, hf9⟩ := bcell hw9; go_simp; with_reducible rfl; go_frame) | (refine wpX_w undef (Or.inr ⟨by rfl, rfl⟩) ?_; go_frame) | (refine wpX_l undef (((Below.refl _ _).drew)) (Or.inr ⟨by rfl, rfl⟩) ?_; go_frame))
 refine wpX_es (fun K9 hK9 => ?_)
 go_simp
 refine hK9 _ _ (((Below.refl _ _).drew).alloc (Nat.le_refl _) _) ?_
 clear hK9 K9
 refine wpX_e (by kernel_rfl) (fun K9 hK9 => ?_)
 refine step_append_src _ (by rfl) _ _ _ (by rfl) 135 i0 _ 2 16 Tryz.underlying159 hi hz0 hz1 hz2 rfl (by omega) _ l.length (l.flatMap Page.cells) (by rfl) (ownsRow_new HS2.out.row (((Below.refl _ _).drew).alloc (Nat.le_refl _) _)) (some ⟨w2.heap.size, 0, none⟩) 1 1 (Page.cells x) (by rfl) (by rfl)
  (fun _ => ⟨_, rfl, World.news_of_block (heap_alloc_new _ _)⟩) (Page.one x) (by unfold maxLen; omega) (by omega) ?_
 intro v2 w3 hown hgr hnil hat
 refine hK9 _ _ ?_
 clear hK9 K9
 obtain ⟨g, c2, rfl⟩ : ∃ g c2, v2 = .slice (some ⟨g, 0, none⟩) (l.length + 1) c2 := by
  rcases ownsRow_form hown with ⟨_, h0, _⟩ | ⟨g, c2, h, _⟩
  · omega
  · exact ⟨g, c2, h⟩
 have HXN : (Value.slice A1 l.length c1).ownBlock ≠ some w.heap.size := by
  intro h
  rcases HM2.out with ⟨hsn, hA⟩ | ⟨_, g2, hg2, hA⟩
  · rcases A1 with _ | a1
    · cases h
    · have h1 := HS.out.row_lt _ hA.symm
      simp only [Value.ownBlock, Option.some.injEq] at h
      omega
  · subst hA
    simp only [Value.ownBlock, Option.some.injEq] at h
    omega
 have HB3' := (HS2.out.blk.drew.alloc (.cells #[Value.int IntKind.u8 x.kk, Value.int IntKind.i64 x.v] 135)).grown hgr (own_blk_ne HS2.out.row HS2.out.blk (by decide))
 have c0 := (HB3'.cell 0).trans rfl
 have z0 := HB3'.frozen 0
 have HB3 := Lib.hid HB3'
 have HOWN := Lib.hid hown
 have HGR := Lib.hid hgr
 clear HB3' hown hgr
 repeat (first | (refine wpX_w ?_ (Or.inl ⟨by rfl, fun w9 => ?_⟩) ?_; rotate_left 1; go_simp; with_reducible rfl; go_frame) | (refine wpX_l ?_ (((Below.refl _ _).drew).alloc (Nat.le_refl _) _) (Or.inl ⟨by rfl, fun w9 hw9 => ?_⟩) ?_; rotate_left 1; obtain ⟨hc9, hf9⟩ := bcell hw9; go_simp; with_reducible rfl; go_frame) | (refine wpX_w undef (Or.inr ⟨by rfl, rfl⟩) ?_; go_frame) | (refine wpX_l undef (((Below.refl _ _).drew).alloc (Nat.le_refl _) _) (Or.inr ⟨by rfl, rfl⟩) ?_; go_frame))
 refine wpX_e (by kernel_rfl) (fun K9 hK9 => ?_)
 go_simp
 refine hK9 _ _ ?_
 clear hK9 K9
 refine wpX_nil ?_
 simp only [OnlyN_normal]
 refine hKK _ _ ?_
 clear hKK KK
 have hlg : ((l.length + 1 : Nat) : Int) = (l.length : Int) + 1 := by omega
 have hG : (SetMod b sn A g ∨ w.heap.size ≤ g) ∧ Moved w sn A false (some ⟨g, 0, none⟩) ∧ g ≠ w.heap.size ∧ g ≠ b := by
  rcases hat with h | h
  · rcases A1 with _ | a1
    · simp [Value.ownBlock] at h
    · obtain ⟨A', c', hv, _, _, hz⟩ := own_form2 HS2.out.row
      injection hv with hv _ _
      obtain ⟨g', rfl⟩ := hz a1 hv.symm
      have hgg : g' = g := by simpa [Value.ownBlock] using h.symm
      subst hgg
      have hne : g' ≠ b := HS2.out.row_ne (by decide) _ rfl
      rcases HM2.out with ⟨hsn, hA⟩ | ⟨_, g2, hg2, hA⟩
      · have h1 := HS.out.row_lt _ hA.symm
        exact ⟨.inl (.inr ⟨hsn.symm, _, hA.symm, rfl⟩), .inl ⟨hsn, hA⟩, by dsimp only at h1; omega, hne⟩
      · injection hA with hA
        injection hA with hA
        subst hA
        exact ⟨.inr (by omega), .inr ⟨rfl, _, by omega, rfl⟩, by omega, hne⟩
  · have hgg : g = w2.heap.size + 1 := by simpa [Value.ownBlock] using h
    subst hgg
    exact ⟨.inr (by omega), .inr ⟨rfl, _, by omega, rfl⟩, by omega, by omega⟩
 obtain ⟨hgM, hgMv, hgk1, hgb⟩ := hG
 obtain ⟨w4, hw4⟩ : ∃ w4, w4 = w3.setCell ⟨b, 0, none⟩ (.slice (some ⟨g, 0, none⟩) (l.length + 1) c2) := ⟨_, rfl⟩
 have hB4 : Blk w4 b 161 #[.slice (some ⟨g, 0, none⟩) (l.length + 1) c2, .bool false] := by rw [hw4]; exact HB3.out.set_ 0 _
 have hR4 : w4.ownsRow 0 135 2 (.slice (some ⟨g, 0, none⟩) (l.length + 1) c2) (l.length + 1) ((shiftAt l x l.length).flatMap Page.cells) := by
  rw [hw4, shiftAt_start]
  refine ownsRow_setCell_other (a := ⟨b, 0, none⟩) ?_ (by simpa [Value.ownBlock] using hgb) _
  rw [List.flatMap_append, List.flatMap_singleton]
  exact HOWN.out
 have hF4 : Fr (SetMod b sn A) w w4 := by
  rw [hw4]
  have h1 : Fr (SetMod b sn A) w w1 := Fr.of_new (((Below.refl _ _).alloc (Nat.le_refl _) _).trans (HB1.out.mono (by simp)))
  have h2 : Fr (SetMod b sn A) w w2 := h1.trans (HF2.out.mono (fun k _ h => .inl h))
  refine ((h2.drew.alloc _).grown HGR.out (fun k hk => ?_)).setCell (p := ⟨b, 0, none⟩) (.inl (.inl rfl)) _
  rcases A1 with _ | a1
  · cases hk
  · simp only [Value.ownBlock, Option.some.injEq] at hk
    subst hk
    rcases HM2.out with ⟨hsn, hA⟩ | ⟨_, g', hg', hA⟩
    · left; right; exact ⟨hsn.symm, a1, hA.symm, rfl⟩
    · injection hA with hA
      subst hA
      right; dsimp only; omega
 have z0 : w4.cell? ⟨w.heap.size, 0, none⟩ = some (.int .u8 x.kk) := by
  rw [hw4, World.cell?_setCell_other _ _ _ _ (by intro h; injection h; omega)]
  refine HGR.out.cell ((World.cell?_alloc_lt w2.drew _ ⟨w.heap.size, 0, none⟩ hk2).trans x0) ?_
  intro h
  exact HXN (by simpa using h.symm)
 have z1 : w4.cell? ⟨w.heap.size, 1, none⟩ = some (.int .i64 x.v) := by
  rw [hw4, World.cell?_setCell_other _ _ _ _ (by intro h; injection h; omega)]
  refine HGR.out.cell ((World.cell?_alloc_lt w2.drew _ ⟨w.heap.size, 1, none⟩ hk2).trans x1) ?_
  intro h
  exact HXN (by simpa using h.symm)
 have hk4 : w.heap.size < w4.heap.size := by rw [hw4]; have := HGR.out.size; simp at this ⊢; omega
 rw [← hw4]
 have HgM := Lib.hid hgM
 have HgMv := Lib.hid hgMv
 have HB4 := Lib.hid hB4
 have HR4 := Lib.hid hR4
 have HF4 := Lib.hid hF4
 have s4 := hB4.cell 0
 have s4' : w4.cell? ⟨b, 0, none⟩ = some (.slice (some ⟨g, 0, none⟩) (l.length + 1) c2) := s4
 clear s4 hw4 hB4 hR4 hF4 hat hgM hgMv hnil x0 x1 s0 f0
 go_wp2_with fail
 go_loopw [7] (fun s wr => ∃ i : Nat, s = .int .i64 i ∧ rank cmpPage l x ≤ i ∧ i ≤ l.length ∧ wr.ownsRow 0 135 2 (.slice (some ⟨g, 0, none⟩) (l.length + 1) c2) (l.length + 1) ((shiftAt l x i).flatMap Page.cells) ∧ Fr (· = g) w4 wr) (fun s wr => (intOf s).toNat)
 case atStart => exact ⟨l.length, by go_num, hrk, Nat.le_refl _, HR4.out, Fr.refl _ _⟩
 case round =>
  obtain ⟨i, rfl, hi1, hi2, hown, hfr⟩ := hrel
  have hgw : g < wr.heap.size := (hown.lt g rfl).2
  have r0 : wr.cell? ⟨b, 0, none⟩ = some (.slice (some ⟨g, 0, none⟩) (l.length + 1) c2) := (hfr.cell (p := ⟨b, 0, none⟩) HB4.out.lt (fun h => hgb h.symm)).trans s4'
  have fz : ∀ o, wr.frozen? ⟨g, o, none⟩ = false := fun o => hown.frozenAt o
  have HOW := Lib.hid hown
  have HFR := Lib.hid hfr
  clear hown hfr
  by_cases hlt : rank cmpPage l x < i
  · obtain ⟨j, rfl⟩ : ∃ j, i = j + 1 := ⟨i - 1, by omega⟩
    have hj : j < l.length := by omega
    have hrd := ownsRow_rd (A := some ⟨g, 0, none⟩) (c := c2) (l := shiftAt l x (j + 1)) Page.cells_length (by rw [shiftAt_length l x hi2]; exact HOW.out)
    obtain ⟨g', o', hgo, _, hcell⟩ := hrd.at_ (k := j) (by rw [shiftAt_length l x hi2]; omega)
    injection hgo with hgo
    injection hgo with hg1 hg2
    subst hg1; subst hg2
    rw [shiftAt_read l x hj] at hcell
    have q0 : wr.cell? ⟨g, j * 2, none⟩ = some (.int .u8 l[j].kk) := by simpa using hcell 0 _ rfl
    have q1 : wr.cell? ⟨g, j * 2 + 1, none⟩ = some (.int .i64 l[j].v) := by simpa using hcell 1 _ rfl
    have rmj : Room wr g 135 (c2 * 2) ∧ l.length + 1 ≤ c2 := by
     rcases ownsRow_form HOW.out with ⟨hv, _⟩ | ⟨g', cap, hv, hn, _, hr, _⟩
     · cases hv
     · injection hv with hA _ hc
       injection hA with hA
       injection hA with hA
       subst hA; subst hc
       exact ⟨hr, hn⟩
    obtain ⟨hrm, hcap⟩ := rmj
    obtain ⟨u0, t0⟩ := hrm.cell (i := (j + 1) * 2) (by omega)
    obtain ⟨u1, t1⟩ := hrm.cell (i := (j + 1) * 2 + 1) (by omega)
    have b0 : (0 : Int) ≤ (j : Int) + 1 := by omega
    have b1 : (0 : Int) ≤ (j : Int) := by omega
    have b4 : (j : Int) < (l.length : Int) := by omega
    have b2 : (j : Int) < (l.length : Int) + 1 := by omega
    have b3 : (j : Int) + 1 < (l.length : Int) + 1 := by omega
    have w1 : IntKind.i64.wrap ((j : Int)) = (j : Int) := IntWalk.i64_in _ (by omega)
    have w2 : IntKind.i64.wrap ((j : Int) + 1 - 1) = (j : Int) := by rw [IntWalk.i64_in _ (by omega)]; omega
    clear hcell hrd hrm
    obtain ⟨y, hy⟩ : ∃ y, y = l[j] := ⟨_, rfl⟩
    rw [← hy] at q0 q1
    have HY := Lib.hid hy
    have hbw : b < wr.heap.size := World.block_lt_of_cell? wr _ r0
    clear hy
    go_wp2_with fail
    refine wp_region_E (fun w9 => Below wr.heap.size wr w9) [(0, 0), (1, 0), (2, 0), (3, 1), (4, 0), (5, 0), (6, 0), (7, 0), (8, 1), (9, 0), (10, 0), (11, 0), (12, 1), (13, 0), (14, 2)] (by kernel_rfl) (by kernel_rfl) (fun KK hKK => ?_)
    simp only [beside, List.filterMap_cons, List.filterMap_nil, List.getElem?_toArray, List.getElem?_cons_zero, List.getElem?_cons_succ, Option.map_some]
    repeat (first | (refine wpX_w ?_ (Or.inl ⟨by rfl, fun w9 => ?_⟩) ?_; rotate_left 1; go_simp; with_reducible rfl; go_frame) | (refine wpX_l ?_ (((Below.refl _ _).drew)) (Or.inl ⟨by rfl, fun w9 hw9 => ?_⟩) ?_; rotate_left 1; obtain ⟨hc9, hf9⟩ := bcell hw9; go_simp; with_reducible rfl; go_frame) | (refine wpX_w undef (Or.inr ⟨by rfl, rfl⟩) ?_; go_frame) | (refine wpX_l undef (((Below.refl _ _).drew)) (Or.inr ⟨by rfl, rfl⟩) ?_; go_frame))
    refine wpX_e (by kernel_rfl) (fun K9 hK9 => ?_)
    go_simp
    refine hK9 _ _ ?_
    clear hK9 K9
    refine wpX_nil ?_
    simp only [OnlyN_normal]
    refine hKK _ _ ?_
    clear hKK KK
    go_wp2_with fail
    go_roundw
    case rel =>
     refine ⟨j, by go_num, by omega, by omega, ?_, Fr.drew (((HFR.out).setCell (p := ⟨g, (j + 1) * 2, none⟩) (.inl rfl) (_)).setCell (p := ⟨g, (j + 1) * 2 + 1, none⟩) (.inl rfl) (_))⟩
     have hst := ((((HOW.out).stored ((j + 1) * 2) (.int .u8 y.kk)).1).stored ((j + 1) * 2 + 1) (.int .i64 y.v)).1
     have he : setAll ((shiftAt l x (j + 1)).flatMap Page.cells) ((j + 1) * 2) (Page.cells y) = (shiftAt l x j).flatMap Page.cells := by
      rw [flat_set Page.cells_length (by omega) _ (j + 1) (by rw [shiftAt_length l x hi2]; omega), HY.out, shiftAt_step l x hj]
     rw [← he]
     exact hst
    case measure => simp [intOf] <;> omega
  · obtain rfl : i = rank cmpPage l x := by omega
    have rmj : Room wr g 135 (c2 * 2) ∧ l.length + 1 ≤ c2 := by
     rcases ownsRow_form HOW.out with ⟨hv, _⟩ | ⟨g', cap, hv, hn, _, hr, _⟩
     · cases hv
     · injection hv with hA _ hc
       injection hA with hA
       injection hA with hA
       subst hA; subst hc
       exact ⟨hr, hn⟩
    obtain ⟨hrm, hcap⟩ := rmj
    obtain ⟨k, hk⟩ : ∃ k, k = rank cmpPage l x := ⟨_, rfl⟩
    rw [← hk] at hi2 hlt ⊢
    obtain ⟨u0, t0⟩ := hrm.cell (i := k * 2) (by omega)
    obtain ⟨u1, t1⟩ := hrm.cell (i := k * 2 + 1) (by omega)
    have x0 := (HFR.out.cell (p := ⟨w.heap.size, 0, none⟩) hk4 (fun h => hgk1 h.symm)).trans z0
    have x1 := (HFR.out.cell (p := ⟨w.heap.size, 1, none⟩) hk4 (fun h => hgk1 h.symm)).trans z1
    have b1 : (0 : Int) ≤ (k : Int) := by omega
    have b2 : (k : Int) < (l.length : Int) + 1 := by omega
    have HK := Lib.hid hk
    have hkw : w.heap.size < wr.heap.size := by have := HFR.out.size; omega
    have hbw : b < wr.heap.size := World.block_lt_of_cell? wr _ r0
    clear hrm hk z0 z1
    go_wp2_with fail
    refine wp_region_E (fun w9 => Below wr.heap.size wr w9) [(0, 0), (1, 0), (2, 0), (3, 1), (4, 0), (5, 1), (6, 0), (7, 2)] (by kernel_rfl) (by kernel_rfl) (fun KK hKK => ?_)
    simp only [beside, List.filterMap_cons, List.filterMap_nil, List.getElem?_toArray, List.getElem?_cons_zero, List.getElem?_cons_succ, Option.map_some]
    repeat (first | (refine wpX_w ?_ (Or.inl ⟨by rfl, fun w9 => ?_⟩) ?_; rotate_left 1; go_simp; with_reducible rfl; go_frame) | (refine wpX_l ?_ (((Below.refl _ _).drew)) (Or.inl ⟨by rfl, fun w9 hw9 => ?_⟩) ?_; rotate_left 1; obtain ⟨hc9, hf9⟩ := bcell hw9; go_simp; with_reducible rfl; go_frame) | (refine wpX_w undef (Or.inr ⟨by rfl, rfl⟩) ?_; go_frame) | (refine wpX_l undef (((Below.refl _ _).drew)) (Or.inr ⟨by rfl, rfl⟩) ?_; go_frame))
    refine wpX_e (by kernel_rfl) (fun K9 hK9 => ?_)
    go_simp
    refine hK9 _ _ ?_
    clear hK9 K9
    refine wpX_nil ?_
    simp only [OnlyN_normal]
    refine hKK _ _ ?_
    clear hKK KK
    go_wp2_with fail
    go_ret
    have HOWk := HOW.out
    rw [← HK.out] at HOWk
    have hst := ((((HOWk).stored (k * 2) (.int .u8 x.kk)).1).stored (k * 2 + 1) (.int .i64 x.v)).1
    have he : setAll ((shiftAt l x k).flatMap Page.cells) (k * 2) (Page.cells x) = (put cmpPage l x).flatMap Page.cells := by
     rw [flat_set Page.cells_length (by omega) _ k (by rw [shiftAt_length l x hi2]; omega), shiftAt_end l x hi2, put_eq tc_page HO.out hh, HK.out]
    have hln := length_put tc_page HO.out hh
    refine ⟨by rw [hh]; rfl, false, some ⟨g, 0, none⟩, c2, ⟨?_, ?_⟩, ?_, ?_⟩
    · rw [hln]
      exact ((HB4.out.fr HFR.out (fun h => hgb h.symm)).far (p := ⟨g, k * 2, none⟩) (fun h => hgb h.symm) _).far (p := ⟨g, k * 2 + 1, none⟩) (fun h => hgb h.symm) _
    · rw [hln, ← he]
      exact hst
    · exact HF4.out.into (Fr.drew (((HFR.out).setCell (p := ⟨g, k * 2, none⟩) (.inl rfl) (_)).setCell (p := ⟨g, k * 2 + 1, none⟩) (.inl rfl) (_))) (fun k hk => by subst hk; exact HgM.out)
    · exact HgMv.out
theorem put_Page (b c : Nat) (sn : Bool) (A : Option Addr) (l : List Page) (x : Page) (w : World) (hS : PageSet w b sn A c l) (hs : Srt cmpPage l) (hl : (l.length : Int) ≤ 100000000) :
 Calls Tryz.prog 102 #[.pointer (some ⟨b, 0, none⟩), .agg #[.int .u8 x.kk, .int .i64 x.v]] w (PutPostPage w b sn A l x) := by
 cases hh : has cmpPage l x
 · exact put_new_Page b c sn A l x w hS hs hl hh
 · exact put_there_Page b c sn A l x w hS hs hl hh
end Go.Proofs.YtpndmjabjjbefaaGreat
namespace Go.Proofs.YtpndmjabjjbefaaGreat
open Go.RowKit
def DropPostPage (w : World) (b : Nat) (sn : Bool) (A : Option Addr) (l : List Page) (x : Page) (e : Ending) (w' : World) : Prop :=
 e = .returned (.bool (has cmpPage l x)) ∧ ∃ sn' A' c', PageSet w' b sn' A' c' (drop cmpPage l x) ∧ Fr (SetMod b sn A) w w' ∧ Moved w sn A sn' A'
set_option maxRecDepth 100000 in
set_option maxHeartbeats 1000000 in
theorem drop_not_Page (b c : Nat) (sn : Bool) (A : Option Addr) (l : List Page) (x : Page) (w : World) (hS : PageSet w b sn A c l) (hs : Srt cmpPage l) (hl : (l.length : Int) ≤ 100000000) (hh : has cmpPage l x = false) :
 Calls Tryz.prog 128 #[.pointer (some ⟨b, 0, none⟩), .agg #[.int .u8 x.kk, .int .i64 x.v]] w (DropPostPage w b sn A l x) := by
 have HS := Lib.hid hS
 have HO := Lib.hid hs
 clear hS hs
 go_enter Tryz.func128, Tryz.ntmps128
 go_wp2_with fail
 refine (find_Page b c sn A l x _ (HS.out.new_ ((Below.refl _ _).alloc (Nat.le_refl _) _)) HO.out (by omega)).mono ?_
 rintro e w1 ⟨rfl, hb1⟩
 go_wp2_with fail
 go_ret
 refine ⟨by rw [hh]; rfl, sn, A, c, ?_, Fr.of_new (((Below.refl _ _).alloc (Nat.le_refl _) _).trans (hb1.mono (by simp))), .inl ⟨rfl, rfl⟩⟩
 rw [drop_self hh]
 exact HS.out.new_ (((Below.refl _ _).alloc (Nat.le_refl _) _).trans (hb1.mono (by simp)))
set_option maxRecDepth 100000 in
set_option maxHeartbeats 4000000 in
theorem drop_is_Page (b c : Nat) (sn : Bool) (A : Option Addr) (l : List Page) (x : Page) (w : World) (hS : PageSet w b sn A c l) (hs : Srt cmpPage l) (hl : (l.length : Int) ≤ 100000000) (hh : has cmpPage l x = true) :
 Calls Tryz.prog 128 #[.pointer (some ⟨b, 0, none⟩), .agg #[.int .u8 x.kk, .int .i64 x.v]] w (DropPostPage w b sn A l x) := by
 obtain ⟨hrk, hde, _, _⟩ := drop_eq tc_page hs hh
 have HDE := Lib.hid hde
 have HS := Lib.hid hS
 have HO := Lib.hid hs
 have hb := hS.lt
 clear hS hs hde
 go_enter Tryz.func128, Tryz.ntmps128
 go_wp2_with fail
 have hSa := HS.out.new_ ((Below.refl w.heap.size w).alloc (Nat.le_refl _) (.cells #[Value.int IntKind.u8 x.kk, Value.int IntKind.i64 x.v] 135))
 have HSa := Lib.hid hSa
 clear hSa
 refine (find_Page b c sn A l x _ HSa.out HO.out (by omega)).mono ?_
 rintro e w1 ⟨rfl, hb1⟩
 have HS1 := Lib.hid (HSa.out.new_ hb1)
 have hsz1 : w.heap.size + 1 ≤ w1.heap.size := by have := hb1.size; simp at this; omega
 have HB1 := Lib.hid hb1
 clear hb1
 go_wp2_with fail
 refine (own_Page b c sn A l _ HS1.out (by omega)).mono ?_
 rintro e w2 ⟨rfl, A1, c1, hS2, hF2, hM2⟩
 have hsz2 : w1.heap.size ≤ w2.heap.size := hF2.size
 obtain ⟨g, rfl⟩ : ∃ g, A1 = some ⟨g, 0, none⟩ := by
  rcases ownsRow_form hS2.row with ⟨_, h0, _⟩ | ⟨g, cap, hv, _⟩
  · omega
  · injection hv with hv; exact ⟨g, hv⟩
 have hgb : g ≠ b := hS2.row_ne (by decide) _ rfl
 obtain ⟨hroom, hcap, hcm⟩ := ownsRow_room hS2.row
 unfold maxLen at hcm
 have hgM : SetMod b sn A g ∨ w.heap.size ≤ g := by
  rcases hM2 with ⟨hsn, hA⟩ | ⟨_, g', hg', hA⟩
  · exact .inl (.inr ⟨hsn.symm, _, hA.symm, rfl⟩)
  · injection hA with hA
    injection hA with hA
    subst hA
    exact .inr (by omega)
 have hgMv : Moved w sn A false (some ⟨g, 0, none⟩) := by
  rcases hM2 with ⟨hsn, hA⟩ | ⟨_, g', hg', hA⟩
  · exact .inl ⟨hsn, hA⟩
  · injection hA with hA
    injection hA with hA
    subst hA
    exact .inr ⟨rfl, _, by omega, rfl⟩
 have hF : Fr (SetMod b sn A) w w2 := (Fr.of_new (((Below.refl _ _).alloc (Nat.le_refl _) _).trans (HB1.out.mono (by simp)))).into hF2 (fun k hk => .inl (.inl hk))
 have s0 := hS2.cell0
 have HgM := Lib.hid hgM
 have HgMv := Lib.hid hgMv
 have HF := Lib.hid hF
 have HBk := Lib.hid hS2.blk
 have HRo := Lib.hid hS2.row
 have hb2 : b < w2.heap.size := by omega
 clear hgM hgMv hF hS2 hF2 hM2 hroom
 go_wp2_with fail
 go_loopw [7] (fun s wr => ∃ i : Nat, s = .int .i64 i ∧ rank cmpPage l x ≤ i ∧ i < l.length ∧ wr.ownsRow 0 135 2 (.slice (some ⟨g, 0, none⟩) l.length c1) l.length ((downAt l (rank cmpPage l x) i).flatMap Page.cells) ∧ Fr (· = g) w2 wr) (fun s wr => l.length - (intOf s).toNat)
 case atStart => exact ⟨rank cmpPage l x, rfl, Nat.le_refl _, hrk, by rw [downAt_start]; exact HRo.out, Fr.refl _ _⟩
 case round =>
  obtain ⟨i, rfl, hi1, hi2, hown, hfr⟩ := hrel
  have hgw : g < wr.heap.size := (hown.lt g rfl).2
  have r0 : wr.cell? ⟨b, 0, none⟩ = some (.slice (some ⟨g, 0, none⟩) l.length c1) := (hfr.cell (p := ⟨b, 0, none⟩) hb2 (fun h => hgb h.symm)).trans s0
  have fz : ∀ o, wr.frozen? ⟨g, o, none⟩ = false := fun o => hown.frozenAt o
  have hbw : b < wr.heap.size := World.block_lt_of_cell? wr _ r0
  obtain ⟨hrm, _, _⟩ := ownsRow_room hown
  have HOW := Lib.hid hown
  have HFR := Lib.hid hfr
  clear hown hfr
  by_cases hlt : i + 1 < l.length
  · have hrd := ownsRow_rd (A := some ⟨g, 0, none⟩) (c := c1) (l := downAt l (rank cmpPage l x) i) Page.cells_length (by rw [downAt_length l hi1 hi2]; exact HOW.out)
    obtain ⟨g', o', hgo, _, hcell⟩ := hrd.at_ (k := i + 1) (by rw [downAt_length l hi1 hi2]; omega)
    injection hgo with hgo
    injection hgo with hg1 hg2
    subst hg1; subst hg2
    rw [downAt_read l hi1 hlt] at hcell
    have q0 : wr.cell? ⟨g, (i + 1) * 2, none⟩ = some (.int .u8 l[i + 1].kk) := by simpa using hcell 0 _ rfl
    have q1 : wr.cell? ⟨g, (i + 1) * 2 + 1, none⟩ = some (.int .i64 l[i + 1].v) := by simpa using hcell 1 _ rfl
    obtain ⟨u0, t0⟩ := hrm.cell (i := i * 2) (by omega)
    obtain ⟨u1, t1⟩ := hrm.cell (i := i * 2 + 1) (by omega)
    have b0 : (0 : Int) ≤ (i : Int) + 1 := by omega
    have b1 : (0 : Int) ≤ (i : Int) := by omega
    have b2 : (i : Int) < (l.length : Int) := by omega
    have b3 : (i : Int) + 1 < (l.length : Int) := by omega
    have v1 : IntKind.i64.wrap ((i : Int) + 1) = (i : Int) + 1 := IntWalk.i64_in _ (by omega)
    clear hcell hrd hrm
    obtain ⟨y, hy⟩ : ∃ y, y = l[i + 1] := ⟨_, rfl⟩
    rw [← hy] at q0 q1
    have HY := Lib.hid hy
    clear hy
    go_wp2_with fail
    refine wp_region_E (fun w9 => Below wr.heap.size wr w9) [(0, 0), (1, 0), (2, 0), (3, 1), (4, 0), (5, 0), (6, 0), (7, 0), (8, 1), (9, 0), (10, 0), (11, 0), (12, 1), (13, 0), (14, 2)] (by kernel_rfl) (by kernel_rfl) (fun KK hKK => ?_)
    simp only [beside, List.filterMap_cons, List.filterMap_nil, List.getElem?_toArray, List.getElem?_cons_zero, List.getElem?_cons_succ, Option.map_some]
    repeat (first | (refine wpX_w ?_ (Or.inl ⟨by rfl, fun w9 => ?_⟩) ?_; rotate_left 1; go_simp; with_reducible rfl; go_frame) | (refine wpX_l ?_ (((Below.refl _ _).drew)) (Or.inl ⟨by rfl, fun w9 hw9 => ?_⟩) ?_; rotate_left 1; obtain ⟨hc9, hf9⟩ := bcell hw9; go_simp; with_reducible rfl; go_frame) | (refine wpX_w undef (Or.inr ⟨by rfl, rfl⟩) ?_; go_frame) | (refine wpX_l undef (((Below.refl _ _).drew)) (Or.inr ⟨by rfl, rfl⟩) ?_; go_frame))
    refine wpX_e (by kernel_rfl) (fun K9 hK9 => ?_)
    go_simp
    refine hK9 _ _ ?_
    clear hK9 K9
    refine wpX_nil ?_
    simp only [OnlyN_normal]
    refine hKK _ _ ?_
    clear hKK KK
    go_wp2_with fail
    go_roundw
    case rel =>
     refine ⟨i + 1, by go_num, by omega, by omega, ?_, Fr.drew (((HFR.out).setCell (p := ⟨g, i * 2, none⟩) (.inl rfl) (_)).setCell (p := ⟨g, i * 2 + 1, none⟩) (.inl rfl) (_))⟩
     have hst := ((((HOW.out).stored (i * 2) (.int .u8 y.kk)).1).stored (i * 2 + 1) (.int .i64 y.v)).1
     have he : setAll ((downAt l (rank cmpPage l x) i).flatMap Page.cells) (i * 2) (Page.cells y) = (downAt l (rank cmpPage l x) (i + 1)).flatMap Page.cells := by
      rw [flat_set Page.cells_length (by omega) _ i (by rw [downAt_length l hi1 hi2]; omega), HY.out, downAt_step l hi1 hlt]
     rw [← he]
     exact hst
    case measure => simp [intOf] <;> omega
  · have hin : i = l.length - 1 := by omega
    have HIN := Lib.hid hin
    have b1 : (0 : Int) ≤ (l.length : Int) - 1 := by omega
    have b2 : (l.length : Int) - 1 ≤ (c1 : Int) := by omega
    have b3 : ¬ c1 = 0 := by omega
    have v1 : IntKind.i64.wrap ((l.length : Int) - 1) = (l.length : Int) - 1 := IntWalk.i64_in _ (by omega)
    have v2 : ((l.length : Int) - 1).toNat = l.length - 1 := by omega
    have b4 : (1 : Int) ≤ (l.length : Int) := by omega
    have b5 : l.length - 1 ≤ c1 := by omega
    have f0 : wr.frozen? ⟨b, 0, none⟩ = false := (HBk.out.fr HFR.out (fun h => hgb h.symm)).frozen 0
    clear hin hrm
    go_wp2_with fail
    refine wp_region_E (fun w9 => Below wr.heap.size wr w9) [(0, 0), (1, 0), (2, 0), (3, 0), (4, 1), (5, 0), (6, 0), (7, 0), (8, 1), (9, 0), (10, 0), (11, 0), (12, 0), (13, 0), (14, 2)] (by kernel_rfl) (by kernel_rfl) (fun KK hKK => ?_)
    simp only [beside, List.filterMap_cons, List.filterMap_nil, List.getElem?_toArray, List.getElem?_cons_zero, List.getElem?_cons_succ, Option.map_some]
    repeat (first | (refine wpX_w ?_ (Or.inl ⟨by rfl, fun w9 => ?_⟩) ?_; rotate_left 1; go_simp; with_reducible rfl; go_frame) | (refine wpX_l ?_ (((Below.refl _ _).drew)) (Or.inl ⟨by rfl, fun w9 hw9 => ?_⟩) ?_; rotate_left 1; obtain ⟨hc9, hf9⟩ := bcell hw9; go_simp; with_reducible rfl; go_frame) | (refine wpX_w undef (Or.inr ⟨by rfl, rfl⟩) ?_; go_frame) | (refine wpX_l undef (((Below.refl _ _).drew)) (Or.inr ⟨by rfl, rfl⟩) ?_; go_frame))
    refine wpX_e (by kernel_rfl) (fun K9 hK9 => ?_)
    go_simp
    refine hK9 _ _ ?_
    clear hK9 K9
    refine wpX_nil ?_
    simp only [OnlyN_normal]
    refine hKK _ _ ?_
    clear hKK KK
    go_wp2_with fail
    go_ret
    have hdl : (drop cmpPage l x).length = l.length - 1 := by rw [HDE.out]; simp; omega
    refine ⟨by rw [hh]; rfl, false, some ⟨g, 0, none⟩, c1, ⟨?_, ?_⟩, ?_, HgMv.out⟩
    · rw [hdl]
      exact (HBk.out.fr HFR.out (fun h => hgb h.symm)).set_ 0 _
    · rw [hdl]
      refine ownsRow_setCell_other (a := ⟨b, 0, none⟩) ?_ (by simpa [Value.ownBlock] using hgb) _
      have h1 := HOW.out
      rw [HIN.out] at h1
      have h2 := ownsRow_prefix Page.cells_length (by omega) h1 (m := l.length - 1) (by omega) (downAt_length l (by omega) (by omega))
      rw [downAt_end l hrk, ← HDE.out] at h2
      exact h2
    · exact (HF.out.into HFR.out (fun k hk => by subst hk; exact HgM.out)).drew.setCell (p := ⟨b, 0, none⟩) (.inl (.inl rfl)) _
theorem drop_Page (b c : Nat) (sn : Bool) (A : Option Addr) (l : List Page) (x : Page) (w : World) (hS : PageSet w b sn A c l) (hs : Srt cmpPage l) (hl : (l.length : Int) ≤ 100000000) :
 Calls Tryz.prog 128 #[.pointer (some ⟨b, 0, none⟩), .agg #[.int .u8 x.kk, .int .i64 x.v]] w (DropPostPage w b sn A l x) := by
 cases hh : has cmpPage l x
 · exact drop_not_Page b c sn A l x w hS hs hl hh
 · exact drop_is_Page b c sn A l x w hS hs hl hh
end Go.Proofs.YtpndmjabjjbefaaGreat
namespace Go.Proofs.YtpndmjabjjbefaaGreat
open Go.RowKit
set_option maxRecDepth 100000 in
set_option maxHeartbeats 1000000 in
theorem get_no_Page (b c : Nat) (sn : Bool) (A : Option Addr) (l : List Page) (x : Page) (w : World) (hS : PageSet w b sn A c l) (hs : Srt cmpPage l) (hl : (l.length : Int) ≤ 1000000000) (hh : has cmpPage l x = false) :
 Calls Tryz.prog 126 #[.pointer (some ⟨b, 0, none⟩), .agg #[.int .u8 x.kk, .int .i64 x.v]] w fun e w' => e = .returned (.tuple #[.agg #[.int .u8 0, .int .i64 0], .bool false]) ∧ Below w.heap.size w w' := by
 have HS := Lib.hid hS
 have HO := Lib.hid hs
 clear hS hs
 go_enter Tryz.func126, Tryz.ntmps126
 go_wp2_with fail
 refine (find_Page b c sn A l x _ (HS.out.new_ ((((Below.refl _ _).alloc (Nat.le_refl _) _).alloc (by simp) _).alloc (by simp; omega) _)) HO.out (by omega)).mono ?_
 rintro e w1 ⟨rfl, hb1⟩
 obtain ⟨hc1, hf1⟩ := bcell hb1
 have hz1 : w.heap.size + 2 < w1.heap.size := by have := hb1.size; simp at this; omega
 have HB := Lib.hid ((((((Below.refl w.heap.size w).alloc (Nat.le_refl _) _).alloc (by simp) _).alloc (by simp; omega) _)).trans (hb1.mono (by simp; omega)))
 clear hb1
 go_wp2_with fail
 exact bodyPost_ret (v := .tuple #[.agg #[.int .u8 0, .int .i64 0], .bool false]) (by simp [results, Tryz.results126, go_sem, hc1]) rfl ⟨rfl, by (repeat (first | exact Below.refl _ _ | exact HB.out | (refine Below.drew ?_) | (refine Below.alloc ?_ (by simp <;> omega) _) | (refine Below.setCell ?_ (by simp <;> omega) _)))⟩
set_option maxRecDepth 100000 in
set_option maxHeartbeats 1000000 in
theorem get_is_Page (b c : Nat) (sn : Bool) (A : Option Addr) (l : List Page) (x y : Page) (w : World) (hS : PageSet w b sn A c l) (hs : Srt cmpPage l) (hl : (l.length : Int) ≤ 1000000000) (hh : has cmpPage l x = true) (hy : l[rank cmpPage l x]? = some y) :
 Calls Tryz.prog 126 #[.pointer (some ⟨b, 0, none⟩), .agg #[.int .u8 x.kk, .int .i64 x.v]] w fun e w' => e = .returned (.tuple #[.agg #[.int .u8 y.kk, .int .i64 y.v], .bool true]) ∧ Below w.heap.size w w' := by
 have HS := Lib.hid hS
 have HO := Lib.hid hs
 obtain ⟨hrk, hye⟩ := List.getElem?_eq_some_iff.1 hy
 have hrd := hS.rd Page.cells_length
 have s0 := hS.cell0
 have hb := hS.lt
 clear hS hs hy
 obtain ⟨g, off, rfl, hgs, hcell⟩ := hrd.at_ hrk
 rw [hye] at hcell
 obtain ⟨k, hk⟩ : ∃ k, k = rank cmpPage l x := ⟨_, rfl⟩
 rw [← hk] at hcell hrk
 have q0 : w.cell? ⟨g, off + k * 2, none⟩ = some (.int .u8 y.kk) := by simpa using hcell 0 _ rfl
 have q1 : w.cell? ⟨g, off + k * 2 + 1, none⟩ = some (.int .i64 y.v) := by simpa using hcell 1 _ rfl
 have b1 : (0 : Int) ≤ (k : Int) := by omega
 have b2 : (k : Int) < (l.length : Int) := by omega
 have HK := Lib.hid hk
 clear hcell hrd hye hk
 go_enter Tryz.func126, Tryz.ntmps126
 go_wp2_with fail
 refine (find_Page b c sn _ l x _ (HS.out.new_ ((((Below.refl _ _).alloc (Nat.le_refl _) _).alloc (by simp) _).alloc (by simp; omega) _)) HO.out (by omega)).mono ?_
 rintro e w1 ⟨rfl, hb1⟩
 rw [← HK.out]
 obtain ⟨hc1, hf1⟩ := bcell hb1
 have hz1 : w.heap.size + 2 < w1.heap.size := by have := hb1.size; simp at this; omega
 have HB := Lib.hid ((((((Below.refl w.heap.size w).alloc (Nat.le_refl _) _).alloc (by simp) _).alloc (by simp; omega) _)).trans (hb1.mono (by simp; omega)))
 clear hb1
 have r0 := (HB.out.cell (p := ⟨b, 0, none⟩) hb).trans s0
 have r1 := (HB.out.cell (p := ⟨g, off + k * 2, none⟩) hgs).trans q0
 have r2 := (HB.out.cell (p := ⟨g, off + k * 2 + 1, none⟩) hgs).trans q1
 clear s0 q0 q1
 go_wp2_with fail
 exact bodyPost_ret (v := .tuple #[.agg #[.int .u8 y.kk, .int .i64 y.v], .bool true]) (by simp [results, Tryz.results126, go_sem, hc1]) rfl ⟨rfl, by (repeat (first | exact Below.refl _ _ | exact HB.out | (refine Below.drew ?_) | (refine Below.alloc ?_ (by simp <;> omega) _) | (refine Below.setCell ?_ (by simp <;> omega) _)))⟩
def ClonePostPage (w : World) (b : Nat) (A : Option Addr) (c : Nat) (l : List Page) (e : Ending) (w' : World) : Prop :=
 ∃ k, e = .returned (.pointer (some ⟨k, 0, none⟩)) ∧ w.heap.size ≤ k ∧ PageSet w' b true A c l ∧ PageSet w' k true A c l ∧ Fr (· = b) w w'
set_option maxRecDepth 100000 in
set_option maxHeartbeats 1000000 in
theorem clone_Page (b c : Nat) (sn : Bool) (A : Option Addr) (l : List Page) (w : World) (hS : PageSet w b sn A c l) :
 Calls Tryz.prog 103 #[.pointer (some ⟨b, 0, none⟩)] w (ClonePostPage w b A c l) := by
 have s0 := hS.cell0
 have s1 := hS.cell1
 have f1 := hS.blk.frozen 1
 have hb := hS.lt
 have HS := Lib.hid hS
 clear hS
 go_enter Tryz.func103, Tryz.ntmps103
 go_wp2
 go_ret
 have h1 : PageSet (w.setCell ⟨b, 1, none⟩ (.bool true)) b true A c l := ⟨HS.out.blk.set_ 1 _, ownsRow_setCell_other HS.out.row (own_blk_ne HS.out.row HS.out.blk (by decide)) _⟩
 refine ⟨w.heap.size, by simp, Nat.le_refl _, h1.new_ ((Below.refl _ _).alloc (Nat.le_refl _) _), ⟨?_, ownsRow_new h1.row ((Below.refl _ _).alloc (Nat.le_refl _) _)⟩, ((Fr.refl (· = b) w).setCell (p := ⟨b, 1, none⟩) (.inl rfl) _).alloc _⟩
 have h2 := Blk.new (w.setCell ⟨b, 1, none⟩ (.bool true)) 161 #[.slice A l.length c, .bool true]
 simpa using h2
end Go.Proofs.YtpndmjabjjbefaaGreat
