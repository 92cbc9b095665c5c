/-
  For every input ActFresh answers true, and leaves its arguments and all that was there as they were. No conditions.
-/
import Derived.Test.YtpndmjabjjbefaaGreatFg
import Derived.Test.YtpndmjabjjbefaaGreatFe
import Derived.Test.YtpndmjabjjbefaaGreatFf
import Derived.Test.YtpndmjabjjbefaaGreatFd
import Derived.Test.YtpndmjabjjbefaaGreatFb
import Derived.Test.YtpndmjabjjbefaaGreatFa
import Derived.Test.YtpndmjabjjbefaaGreatFc
import Derived.Maps.RangeWalk
namespace Go.Proofs.YtpndmjabjjbefaaGreat
open Go.RowKit Go.Shelf
theorem word_great {v : ByteArray} (h : isWord v = true) : greatB (greatV v) = true ∧ 0 < v.size := by
 obtain ⟨h0, _, h1, _⟩ := isWord_iff.1 h
 simp only [smallB, Bool.and_eq_true, decide_eq_true_eq] at h1
 have h2 := u8_sub32 v[0] h1.1 h1.2
 unfold greatV
 rw [dif_pos h0]
 simp only [greatB, Bool.and_eq_true, decide_eq_true_eq]
 omega
theorem freshE_cases {room : Int} {L : List Sym} {c : UInt8} (hg : greatB c = true) : freshE room L c = 0 ∨ freshE room L c = 20 := by
 have := nextL_pos (L := L) hg
 unfold freshE
 rw [if_neg (by omega)]
 split
 · exact .inr rfl
 · exact .inl rfl
theorem freshErr_cases {room : Int} : ∀ (vs : List ByteArray) (L : List Sym), (∀ v ∈ vs, isWord v = true) → freshErr room L vs = 0 ∨ freshErr room L vs = 20
 | [], L, _ => .inl rfl
 | v :: r, L, h => by
   rw [freshErr_cons]
   have h1 := freshE_cases (room := room) (L := L) (word_great (h v List.mem_cons_self)).1
   split
   · rcases h1 with h1 | h1
     · rename_i hn; exact absurd h1 hn
     · exact .inr h1
   · exact freshErr_cases r _ (fun x hx => h x (List.mem_cons_of_mem _ hx))
theorem freshErr_snoc {room : Int} {l : List BindT} : ∀ (vs : List ByteArray) (L : List Sym) (b : List BindT) (v : ByteArray), freshErr room L (vs ++ [v]) = 0 → freshErr room L vs = 0 ∧ freshE room (frsAll room b L vs).2 (greatV v) = 0
 | [], L, b, v, h => by
   rw [List.nil_append, freshErr_cons] at h
   split at h
   · rename_i hn; exact absurd h hn
   · rename_i hn; exact ⟨rfl, by simpa [frsAll] using hn⟩
 | u :: vs, L, b, v, h => by
   rw [List.cons_append, freshErr_cons] at h
   rw [freshErr_cons]
   split at h
   · rename_i hn; exact absurd h hn
   · rename_i hn
     rw [if_neg hn]
     have := freshErr_snoc (l := l) vs (freshL room L (greatV u)) (b ++ [⟨u, freshS room L (greatV u)⟩]) v h
     exact ⟨this.1, by simpa [frsAll, frs] using this.2⟩
theorem rightB_valid {a b c : Sym} (h : rightB a b c = true) : validB a = true ∧ validB b = true ∧ validB c = true := by
 simp only [rightB, Bool.and_eq_true] at h
 exact ⟨h.1.1.2, h.1.2, h.2⟩
theorem putA_valid (b : List BindT) (a : ActT) : ∀ s ∈ putA b a, validB s = true := by
 intro s hs
 unfold putA at hs
 cases hp : prefA b a with
 | none => rw [hp] at hs; cases hs
 | some x =>
   rw [hp] at hs
   dsimp only at hs
   unfold prefA at hp
   by_cases h1 : (valueV a.value b).2 = false ∨ rightB (getB b a.id).1 (atomV a.attr b).1 (valueV a.value b).1 = false
   · rw [if_pos h1] at hp; cases hp
   rw [if_neg h1] at hp
   have hr : rightB (getB b a.id).1 (atomV a.attr b).1 (valueV a.value b).1 = true := by
    cases hh : rightB (getB b a.id).1 (atomV a.attr b).1 (valueV a.value b).1
    · exact absurd (.inr hh) h1
    · rfl
   obtain ⟨v1, v2, v3⟩ := rightB_valid hr
   by_cases ho : otherB a.pref = true
   · rw [if_pos ho] at hp hs
     by_cases hv : validB (atomV a.other b).1 = false
     · rw [if_pos hv] at hp; cases hp
     · rw [if_neg hv] at hp
       injection hp with hp
       subst hp
       simp only [List.mem_cons, List.not_mem_nil, or_false] at hs
       rcases hs with rfl | rfl | rfl | rfl
       · simpa using hv
       · exact v1
       · exact v2
       · exact v3
   · rw [if_neg ho] at hp hs
     injection hp with hp
     subst hp
     simp only [List.mem_cons, List.not_mem_nil, or_false] at hs
     rcases hs with rfl | rfl | rfl
     · exact v1
     · exact v2
     · exact v3
theorem putA_code (room : Int) (L : List Sym) (b : List BindT) (acts : List ActT) : putCode room L (acts.flatMap (putA b)) = 0 ∨ putCode room L (acts.flatMap (putA b)) = 20 := by
 unfold putCode
 rw [if_pos (List.all_eq_true.2 fun s hs => by
  obtain ⟨a, _, h⟩ := List.mem_flatMap.1 hs
  exact putA_valid b a s h)]
 split
 · exact .inr rfl
 · exact .inl rfl
structure NewI (room : Int) (l : List BindT) (L : List Sym) (vs : List ByteArray) (b : List BindT) (L2 : List Sym) : Prop where
 len : b.length = l.length + vs.length
 pre : b.take l.length = l
 srt : Srt cmpSym L2
 room_ : (L2.length : Int) ≤ room
 mono : ∀ s ∈ L, s ∈ L2
 put : putAll room L (b.drop l.length) = L2
 at_ : ∀ i, (h : i < vs.length) → ∃ s : Sym, b[l.length + i]? = some ⟨vs[i], s⟩ ∧ s.kind = 1 ∧ s.text = letB (greatV vs[i]) ∧ s ∉ L ∧ s ∈ L2
 apart : ∀ i k, i < k → k < vs.length → ∀ x y : BindT, b[l.length + i]? = some x → b[l.length + k]? = some y → x.sym ≠ y.sym
theorem newI_of {room : Int} {l : List BindT} {L : List Sym} (hs : Srt cmpSym L) (hr : (L.length : Int) ≤ room) : ∀ (n : Nat) (vs : List ByteArray), vs.length = n → (∀ v ∈ vs, isWord v = true) → freshErr room L vs = 0 → NewI room l L vs (frsAll room l L vs).1 (frsAll room l L vs).2
 | 0, vs, hn, _, _ => by
   obtain rfl : vs = [] := List.eq_nil_of_length_eq_zero hn
   refine ⟨by simp [frsAll], by simp [frsAll], hs, hr, fun s h => h, by simp [frsAll, putAll], fun i h => absurd h (by simp), fun i k _ h => absurd h (by simp)⟩
 | n + 1, vs, hn, hw, he => by
   obtain ⟨us, v, rfl⟩ : ∃ us v, vs = us ++ [v] := by
    rcases List.eq_nil_or_concat vs with h | ⟨us, v, h⟩
    · rw [h] at hn; cases hn
    · exact ⟨us, v, by rw [h, List.concat_eq_append]⟩
   have hun : us.length = n := by simpa using hn
   have hwu : ∀ u ∈ us, isWord u = true := fun u hu => hw u (List.mem_append_left _ hu)
   have hg := (word_great (hw v (by simp))).1
   obtain ⟨e1, e2⟩ := freshErr_snoc (l := l) us L l v he
   have I := newI_of (l := l) hs hr n us hun hwu e1
   rw [frsAll_snoc]
   generalize hb : (frsAll room l L us).1 = b at I
   generalize hL2 : (frsAll room l L us).2 = L2 at I e2
   have hfr : frs room (frsAll room l L us) v = (b ++ [⟨v, freshS room L2 (greatV v)⟩], freshL room L2 (greatV v)) := by unfold frs; rw [hb, hL2]
   rw [hfr]
   have es : freshS room L2 (greatV v) = ⟨1, letB (greatV v), nextL L2 (greatV v)⟩ := by unfold freshS; rw [if_pos e2]
   have el : freshL room L2 (greatV v) = put cmpSym L2 ⟨1, letB (greatV v), nextL L2 (greatV v)⟩ := by unfold freshL; rw [if_pos e2]
   rw [es, el]
   obtain ⟨s, hsd⟩ : ∃ s : Sym, s = ⟨1, letB (greatV v), nextL L2 (greatV v)⟩ := ⟨_, rfl⟩
   have hnot := fresh_not (L := L2) hg
   rw [← hsd] at hnot ⊢
   have hnm : s ∉ L2 := hasNot.1 hnot
   have hlen := length_put tc_sym I.srt hnot
   have e2' := e2
   unfold freshE at e2'
   have hroom : (L2.length : Int) < room ∧ nextL L2 (greatV v) ≤ 1048576 := by
    split at e2'
    · cases e2'
    · split at e2'
      · cases e2'
      · rename_i h; exact ⟨by omega, by omega⟩
   have hval : validB s = true := by
    have h1 := nextL_pos (L := L2) hg
    rw [hsd]
    have h2 : headB greatB (letB (greatV v)) = true := by simp [headB, letB, hg]
    simp [validB, letB_size, h2, hroom.2, h1]
   have hpl : putList room L2 [s] = put cmpSym L2 s := by
    unfold putList
    rw [if_pos (by simp [hval]), if_neg (by show ¬ room < ((put cmpSym L2 s).length : Int); omega)]
    rfl
   have hold : ∀ i, i < us.length → (b ++ [⟨v, s⟩])[l.length + i]? = b[l.length + i]? := fun i hi => List.getElem?_append_left (by rw [I.len]; omega)
   have hnew : (b ++ [(⟨v, s⟩ : BindT)])[l.length + us.length]? = some ⟨v, s⟩ := by
    rw [List.getElem?_append_right (by rw [I.len]; exact Nat.le_refl _), I.len]; simp
   refine ⟨by simp [I.len]; omega, ?_, I.srt.put tc_sym s, ?_, fun x hx => mem_put_iff.2 (.inl (I.mono x hx)), ?_, fun i hi => ?_, fun i k hik hk x y hx hy => ?_⟩
   · rw [List.take_append_of_le_length (by rw [I.len]; omega)]; exact I.pre
   · rw [hlen]; have := hroom.1; omega
   · rw [List.drop_append_of_le_length (by rw [I.len]; omega), putAll_snoc, I.put]
     exact hpl
   · simp at hi
     rcases Nat.lt_or_ge i us.length with h | h
     · obtain ⟨t, a1, a2, a3, a4, a5⟩ := I.at_ i h
       refine ⟨t, ?_, a2, ?_, a4, mem_put_iff.2 (.inl a5)⟩
       · rw [hold i h, a1, List.getElem_append_left h]
       · rw [a3, List.getElem_append_left h]
     · obtain rfl : i = us.length := by omega
       refine ⟨s, ?_, by rw [hsd], ?_, fun hm => hnm (I.mono s hm), mem_put_iff.2 (.inr rfl)⟩
       · rw [hnew]; simp
       · rw [hsd]; simp
   · simp at hk
     rcases Nat.lt_or_ge k us.length with h | h
     · rw [hold i (by omega)] at hx
       rw [hold k h] at hy
       exact I.apart i k hik h x y hx hy
     · obtain rfl : k = us.length := by omega
       rw [hold i hik] at hx
       rw [hnew] at hy
       injection hy with hy
       obtain ⟨t, a1, _, _, _, a5⟩ := I.at_ i hik
       rw [a1] at hx
       injection hx with hx
       rw [← hx, ← hy]
       rintro h
       dsimp only at h
       exact hnm (h ▸ a5)
theorem do_new {room : Int} {l : List BindT} {acts : List ActT} {L : List Sym} (ha : ∀ a ∈ acts, actB a = true) (hs : Srt cmpSym L) (hr : (L.length : Int) ≤ room) :
 (∃ e, (doV room l acts L).1.2.2 = e ∧ e ≠ 0 ∧ e = 20) ∨ ∃ b L2, (doV room l acts L).1.2 = (b, 0) ∧ NewI room l L (doNews l acts) b L2 ∧ ∀ s ∈ L2, s ∈ (doV room l acts L).2 := by
 have hw := news_words (l := l) ha
 by_cases h1 : freshErr room L (doNews l acts) = 0
 · by_cases h2 : putCode room (doBinds room l acts L).2 (acts.flatMap (putA (doBinds room l acts L).1)) = 0
   · refine .inr ⟨(doBinds room l acts L).1, (doBinds room l acts L).2, ?_, newI_of (l := l) hs hr _ _ rfl hw h1, ?_⟩
     · unfold doV
       rw [if_neg (by rw [h1]; simp), if_neg (by rw [h2]; simp)]
     · have I := newI_of (l := l) hs hr _ _ rfl hw h1
       have e : (doV room l acts L).2 = putList room (doBinds room l acts L).2 (acts.flatMap (putA (doBinds room l acts L).1)) := by
        unfold doV
        rw [if_neg (by rw [h1]; simp), if_neg (by rw [h2]; simp)]
        dsimp only
        have := I.put
        unfold putAll at this
        rw [show doBinds room l acts L = frsAll room l L (doNews l acts) from rfl, this]
       intro s hm
       rw [e]
       unfold putList
       split
       · split
         · exact hm
         · exact (mem_puts_iff _).2 (.inl hm)
       · exact hm
   · refine .inl ⟨_, rfl, ?_⟩
     rw [doV_put h1 rfl h2]
     dsimp only
     rcases putA_code room (doBinds room l acts L).2 (doBinds room l acts L).1 acts with h | h
     · exact absurd h h2
     · exact ⟨h2, h⟩
 · refine .inl ⟨_, rfl, ?_⟩
   rw [doV_err rfl h1]
   dsimp only
   rcases freshErr_cases (room := room) (doNews l acts) L hw with h | h
   · exact absurd h h1
   · exact ⟨h1, h⟩
end Go.Proofs.YtpndmjabjjbefaaGreat
namespace Go.Proofs.YtpndmjabjjbefaaGreat
open Go.RowKit Go.Shelf
section
variable {D D' : Nat → Prop} {W W' : World} {T : TB} {L : List Sym}
theorem gt_has (s : Sym) (h : GT D W T L) : Calls Tryz.prog 35 #[.pointer (some ⟨T.b, 0, none⟩), .agg #[.int .i64 s.kind, .string s.text, .int .i64 s.n]] W fun e W' => e = .returned (.bool (has cmpSym L s)) ∧ Below W.heap.size W W' := by
 obtain ⟨S, σ, S2, σ2, m, h1, _, h2⟩ := h
 exact tabhas_is T L s h1 h2.blk h2.bs (by have := h2.len; have := h2.r2; omega)
theorem gt_list (kb : Nat) (h : GT D W T L) (hbox : W.cell? ⟨kb, 0, none⟩ = some (.pointer (some ⟨T.b, 0, none⟩))) :
 Calls Tryz.prog 32 #[.func (.func 64) #[] #[.pointer (some ⟨kb, 0, none⟩)]] W fun e W' => ∃ A c, e = .returned (.slice A L.length c) ∧ RowRd W' 3 Sym.cells A c L ∧ AIn A (fun j => W.heap.size ≤ j ∧ j < W'.heap.size) ∧ GT (Plus D W W') W' T L ∧ Fr (fun j => ¬ D j) W W' ∧ KB W W' := by
 obtain ⟨S, σ, S2, σ2, m, h1, ho, h2⟩ := h
 have hS := h1.syms.at_ T.bs L h2.bs
 refine (listP_Sym _ _ L W _ _ (seq_tall kb _ _ _ T L W hbox h2.blk hS) (by have := h2.len; have := h2.r2; omega)).mono ?_
 rintro e W' ⟨A, c, he, hown, hA, W1, W2, hB1, hs, hB2⟩
 have hS1 := hS.new_ hB1
 have hS2 := hs.set_ hS1 (by decide)
 have hF : Fr (· = T.bs) W W' := ((Fr.of_new (M := (· = T.bs)) hB1).trans (hs.fr.mono (fun _ _ h => h))).into (Fr.of_below hB2) (fun i hi => .inr hi)
 have hS3 : SymSet W' T.bs true (σ T.bs).A (σ T.bs).c L := hS2.fr (Fr.of_below hB2) (by have := hS.lt; omega) (hS.row_lt.mono (fun k hk => by omega))
 have hD : Fr (fun k => ¬ D k) W W' := hF.mono (fun k _ hk => by rw [hk]; exact (h1.syms.out T.bs L h2.bs).1)
 have hs1 := h1.syms.seen (by decide) h2.bs hS3 hF
 have hF2 : Fr (SetMod T.bs (σ T.bs).sn (σ T.bs).A) W W' := hF.mono (fun j _ hj => .inl hj)
 have hp1 := h1.pages.other hS (by decide) (by decide) (by decide) (by decide) hF2
 have hK := KB.of_sym hS hF2
 have hrd := ownsRow_rd Sym.cells_length hown
 have hlt : AIn A (· < W'.heap.size) := by
  intro a ha
  subst ha
  rcases ownsRow_form hown with ⟨hv, _⟩ | ⟨g, cap, hv, _, _, hr, _⟩
  · cases hv
  · injection hv with hv
    injection hv with hv
    subst hv
    exact hr.lt
 have hup : ∀ j l, S j = some l → AIn ((upd σ T.bs ⟨true, (σ T.bs).A, (σ T.bs).c⟩) j).A (· < W.heap.size) := fun j l hj a ha => by
  by_cases e : j = T.bs
  · subst e; rw [upd_same] at ha; exact hS.row_lt a ha
  · rw [upd_ne _ _ e] at ha; exact (h1.syms.at_ j l hj).row_lt a ha
 refine ⟨A, c, he, hrd, fun a ha => ⟨hA a ha, hlt a ha⟩, ⟨S, _, S2, σ2, m, ⟨hs1.widen W.heap.size (fun j l hj => ⟨h1.syms.lt hj, fun _ => hup j l hj⟩), hp1.widen W.heap.size (fun j l hj => ⟨h1.pages.lt hj, fun _ => (h1.pages.at_ j l hj).row_lt⟩)⟩, ?_, h2.blk_ (h2.blk.kb hK)⟩, hD, hK⟩
 rintro q (hq | hq)
 · refine ⟨fun b l hb => ?_, (ho q hq).2⟩
   by_cases e : b = T.bs
   · subst e; rw [upd_same]; exact (ho q hq).1 _ l hb
   · rw [upd_ne _ _ e]; exact (ho q hq).1 b l hb
 · refine ⟨fun b l hb => ⟨?_, fun a ha => ?_⟩, fun b l hb => ⟨?_, fun a ha => ?_⟩⟩
   · have := h1.syms.lt hb; omega
   · have := hup b l hb a ha; have := hq.1; omega
   · have := h1.pages.lt hb; omega
   · have := (h1.pages.at_ b l hb).row_lt a ha; have := hq.1; omega
set_option maxHeartbeats 1000000 in
theorem doc_put (k : Nat) (room : Int) (X : List Sym) (A A2 : Option Addr) (cap c2 : Nat) (hR : RTabA W k room L A cap) (hs : Srt cmpSym L) (hX : RowRd W 3 Sym.cells A2 c2 X) (hl : (X.length : Int) ≤ 10000) (hL : (L.length : Int) ≤ 4096) :
 Calls Tryz.prog 60 #[.pointer (some ⟨k, 0, none⟩), .slice A2 X.length c2] W fun e W' => e = .returned (.int .i64 (putCode room L X)) ∧ (∃ A' cap', RTabA W' k room (putList room L X) A' cap' ∧ From A W.heap.size A') ∧ Fr (· = k) W W' := by
 refine (rtput_is k room L X A2 c2 A cap W hR hX hs (by omega) (by omega)).mono ?_
 intro e W' hp
 unfold RPut at hp
 unfold putList putCode
 split at hp
 · rename_i hx
   rw [if_pos hx, if_pos hx]
   split at hp
   · rename_i hr
     rw [if_pos hr, if_pos hr]
     exact ⟨hp.1, ⟨A, cap, hR.below_ hp.2, From.refl _ _⟩, Fr.of_new hp.2⟩
   · rename_i hr
     rw [if_neg hr, if_neg hr]
     exact hp
 · rename_i hx
   rw [if_neg hx, if_neg hx]
   exact ⟨hp.1, ⟨A, cap, hR.below_ hp.2, From.refl _ _⟩, Fr.of_new hp.2⟩
end
end Go.Proofs.YtpndmjabjjbefaaGreat
namespace Go.Proofs.YtpndmjabjjbefaaGreat
open Go.RowKit Go.Shelf
attribute [local go_sem] Oper.semAt_some
def tabL (room : Int) (known : List Sym) : List Sym := known.foldl (fun L s => putList room L [s]) []
theorem tabL_snoc (room : Int) (known : List Sym) (s : Sym) : tabL room (known ++ [s]) = putList room (tabL room known) [s] := by unfold tabL; rw [List.foldl_append]; rfl
structure TD (w : World) (T : TB) (k : Nat) (room : Int) (L M : List Sym) (D : Nat → Prop) (X : World) : Prop where
 gt : GT D X T L
 rt : ∃ A cap, RTabA X k room M A cap ∧ AIn A D
 dk : D k
 dw : ∀ j, j < w.heap.size → D j
 b : Below w.heap.size w X
 lt : T.b < k ∧ T.bm < k
 wk : w.heap.size ≤ k
 rm : T.room = room
section
variable {w X Y : World} {T : TB} {k : Nat} {room : Int} {L M : List Sym} {D : Nat → Prop}
theorem RTabA.fr_ {A : Option Addr} {cap : Nat} {F : Nat → Prop} (h : RTabA X k room M A cap) (hF : Fr F X Y) (hk : ¬ F k) (hA : AIn A (fun j => ¬ F j)) : RTabA Y k room M A cap :=
 ⟨h.1.fr hF hk, h.2.1.fr hF hA, h.2.2.mono (fun j hj => ⟨hj.1, Nat.lt_of_lt_of_le hj.2 hF.size⟩)⟩
theorem TD.new_ (h : TD w T k room L M D X) (hb : Below X.heap.size X Y) : TD w T k room L M (Plus D X Y) Y := by
 obtain ⟨A, cap, h1, h2⟩ := h.rt
 exact ⟨h.gt.plus hb, ⟨A, cap, h1.below_ hb, h2.mono (fun j hj => .inl hj)⟩, .inl h.dk, fun j hj => .inl (h.dw j hj), h.b.trans (hb.mono h.b.size), h.lt, h.wk, h.rm⟩
theorem TD.tab {L' : List Sym} {D' : Nat → Prop} (h : TD w T k room L M D X) (hg : GT D' Y T L') (hD : ∀ j, D j → D' j) (hF : Fr (fun j => ¬ D j) X Y) : TD w T k room L' M D' Y := by
 obtain ⟨A, cap, h1, h2⟩ := h.rt
 exact ⟨hg, ⟨A, cap, h1.fr_ hF (fun hn => hn h.dk) (h2.mono (fun j hj hn => hn hj)), h2.mono hD⟩, hD _ h.dk, fun j hj => hD _ (h.dw j hj), h.b.trans (hF.below h.b.size (fun j hj hn => hn (h.dw j hj))), h.lt, h.wk, h.rm⟩
theorem TD.doc {M' : List Sym} {A A' : Option Addr} {cap cap' : Nat} (h : TD w T k room L M D X) (hA : RTabA X k room M A cap) (hAD : AIn A D) (hR : RTabA Y k room M' A' cap') (hf : From A X.heap.size A') (hF : Fr (· = k) X Y) : TD w T k room L M' (Plus D X Y) Y := by
 refine ⟨h.gt.stepB (B := k) (fun _ _ _ _ _ _ _ => h.lt) (hF.mono (fun j _ hj => by subst hj; exact ⟨h.dk, Nat.le_refl _⟩)), ⟨A', cap', hR, fun a ha => ?_⟩, .inl h.dk, fun j hj => .inl (h.dw j hj), h.b.trans (hF.below h.b.size (fun j hj hn => by have := h.wk; omega)), h.lt, h.wk, h.rm⟩
 rcases hf a ha with ⟨b, hb, e⟩ | h2
 · exact .inl (e ▸ hAD b hb)
 · exact .inr ⟨h2, (hR.2.2 a ha).2⟩
theorem td_put (Z : List Sym) (A2 : Option Addr) (c2 : Nat) (h : TD w T k room L M D X) (hX : RowRd X 3 Sym.cells A2 c2 Z) (hl : (Z.length : Int) ≤ 10000) :
 Calls Tryz.prog 59 #[.pointer (some ⟨T.b, 0, none⟩), .slice A2 Z.length c2] X fun e Y => e = .returned (.int .i64 (putCode room L Z)) ∧ TD w T k room (putList room L Z) M D Y ∧ Fr (fun j => ¬ D j) X Y := by
 refine (gt_put Z A2 c2 h.gt hX hl).mono ?_
 rintro e Y ⟨he, hg, hF, _⟩
 rw [h.rm] at he hg
 exact ⟨he, h.tab hg (fun _ hj => hj) hF, hF⟩
theorem td_rput (Z : List Sym) (A2 : Option Addr) (c2 : Nat) (h : TD w T k room L M D X) (hs : Srt cmpSym M) (hM : (M.length : Int) ≤ 4096) (hX : RowRd X 3 Sym.cells A2 c2 Z) (hl : (Z.length : Int) ≤ 10000) :
 Calls Tryz.prog 60 #[.pointer (some ⟨k, 0, none⟩), .slice A2 Z.length c2] X fun e Y => e = .returned (.int .i64 (putCode room M Z)) ∧ TD w T k room L (putList room M Z) (Plus D X Y) Y ∧ Fr (· = k) X Y := by
 obtain ⟨A, cap, h1, h2⟩ := h.rt
 refine (doc_put k room Z A A2 cap c2 h1 hs hX hl hM).mono ?_
 rintro e Y ⟨he, ⟨A', cap', h3, h4⟩, hF⟩
 exact ⟨he, h.doc h1 h2 h3 h4 hF, hF⟩
end
def TableTo (w : World) (room : Int) (known : List Sym) (e : Ending) (W' : World) : Prop :=
 ∃ T k D, e = .returned (.tuple #[.pointer (some ⟨T.b, 0, none⟩), .pointer (some ⟨k, 0, none⟩)]) ∧ TD w T k room (tabL room known) (tabL room known) D W'
set_option maxRecDepth 100000 in
set_option maxHeartbeats 4000000 in
theorem table_is (room : Int) (A : Option Addr) (c : Nat) (known : List Sym) (w : World) (hr1 : 1 ≤ room) (hr2 : room ≤ 4096) (hr : RowRd w 3 Sym.cells A c known) :
 Calls Tryz.prog 27 #[.int .i64 room, .slice A known.length c] w (TableTo w room known) := by
 have HR := Lib.hid hr
 have hcap := hr.cap
 clear hr
 go_enter Tryz.func27, Tryz.ntmps27
 go_wp2_with fail
 refine (gt_new room w hr1 hr2).mono ?_
 rintro e w1 ⟨T, rfl, hroom, hgt, hb1⟩
 have HT := Lib.hid hgt
 have HB1 := Lib.hid hb1
 have HRM := Lib.hid hroom
 clear hgt hb1 hroom
 go_wp2_with fail
 obtain ⟨X, hX⟩ : ∃ X, X = w1.alloc (.cells #[.int .i64 room, .slice none 0 0] 88) := ⟨_, rfl⟩
 rw [← hX]
 have hbX : Below w1.heap.size w1 X := by rw [hX]; exact (Below.refl _ _).alloc (Nat.le_refl _) _
 have hkX : Blk X w1.heap.size 88 #[.int .i64 room, .slice none 0 0] := by rw [hX]; exact Blk.new _ _ _
 have HST := Lib.hid (show TD w T w1.heap.size room [] [] (Plus (· < w.heap.size) w1 X) X from by
  obtain ⟨S, σ, S2, σ2, m, g1, g2, g3⟩ := HT.out
  exact ⟨HT.out.plus hbX, ⟨none, 0, ⟨hkX, RowRd.nil _ _ _, AIn.none_ _⟩, AIn.none_ _⟩, .inr ⟨Nat.le_refl _, hkX.lt⟩, fun j hj => .inl hj, HB1.out.trans (hbX.mono HB1.out.size), g3.blk.lt, HB1.out.size, HRM.out⟩)
 clear hX hbX hkX
 generalize w1.heap.size = k at HST ⊢
 go_loopw [9] (fun s wr => ∃ (i : Nat) (D : Nat → Prop), s = .int .i64 i ∧ i ≤ known.length ∧ TD w T k room (tabL room (known.take i)) (tabL room (known.take i)) D wr) (fun s wr => known.length - (intOf s).toNat)
 case atStart => exact ⟨0, _, rfl, Nat.zero_le _, HST.out⟩
 case round =>
  obtain ⟨i, D, rfl, hi, hst⟩ := hrel
  have HS := Lib.hid hst
  clear hst
  by_cases hlt : i < known.length
  · obtain ⟨y, hy⟩ : ∃ y, y = known[i] := ⟨_, rfl⟩
    have HTK := Lib.hid (show tabL room (known.take (i + 1)) = putList room (tabL room (known.take i)) [y] by rw [List.take_succ_eq_append_getElem hlt, hy, tabL_snoc])
    have hrw := HR.out.new_ HS.out.b
    obtain ⟨g, off, rfl, hg, hcc⟩ := hrw.at_ hlt
    have q0 : wr.cell? ⟨g, off + i * 3, none⟩ = some (.int .i64 y.kind) := by rw [hy]; simpa using hcc 0 _ rfl
    have q1 : wr.cell? ⟨g, off + i * 3 + 1, none⟩ = some (.string y.text) := by rw [hy]; simpa using hcc 1 _ rfl
    have q2 : wr.cell? ⟨g, off + i * 3 + 2, none⟩ = some (.int .i64 y.n) := by rw [hy]; simpa using hcc 2 _ rfl
    have hic : i + 1 ≤ c := by have := hrw.1; omega
    have hcm : c ≤ maxLen := hrw.2.1
    have HOS := Lib.hid (show ∀ Y, Y.heap.size ≥ wr.heap.size → (∀ j, j < 3 → Y.cell? ⟨g, off + i * 3 + j, none⟩ = wr.cell? ⟨g, off + i * 3 + j, none⟩) → RowRd Y 3 Sym.cells (some ⟨g, off + i * 3, none⟩) (c - i) [y] from fun Y hs hc => by
     refine RowRd.of_cells (by simp; omega) (by omega) (by omega) (fun k hk j u hu => ?_)
     obtain rfl : k = 0 := by simp at hk; omega
     have hj : j < 3 := (List.getElem?_eq_some_iff.1 hu).1
     rw [show off + i * 3 + 0 * 3 + j = off + i * 3 + j by omega, hc j hj]
     have := hcc j u (by rw [← hy]; exact hu)
     rwa [Nat.add_assoc] at this ⊢)
    have HGD := Lib.hid (show AIn (some ⟨g, off, none⟩) (· < w.heap.size) from fun a ha => by
     obtain ⟨g', off', h1, h2, _⟩ := HR.out.at_ hlt
     cases ha
     injection h1 with h1
     injection h1 with h1
     show g < _
     omega)
    have hgw : g < w.heap.size := HGD.out _ rfl
    obtain ⟨pc, hpc⟩ : ∃ pc, pc = putCode room (tabL room (known.take i)) [y] := ⟨_, rfl⟩
    have HPC := Lib.hid hpc
    have b1 : (0 : Int) ≤ (i : Int) := by omega
    have b2 : (i : Int) < (known.length : Int) := by omega
    have b3 : (i : Int) + 1 ≤ (c : Int) := by omega
    have b4 : (i : Int) ≤ (i : Int) + 1 := by omega
    have v1 : IntKind.i64.wrap ((i : Int) + 1) = (i : Int) + 1 := IntWalk.i64_in _ (by omega)
    have hsl : ∀ Y, (Instr.slice 57 (.slice (some ⟨g, off, none⟩) known.length c) (some (.int .i64 (i : Int))) (some (.int .i64 ((i : Int) + 1))) none).run Tryz.prog Y = .ok (.slice (some ⟨g, off + i * 3, none⟩) 1 (c - i)) Y := fun Y => by
     have b5 : ¬ c = i := by omega
     have b6 : (0 : Int) ≤ (i : Int) + 1 := by omega
     go_simp
    clear hy hpc hrw hcc
    go_upto_region 8 with fail
    refine wp_region_E (fun w9 => Below wr.heap.size wr w9) [(0, 0), (1, 0), (2, 0), (3, 0), (4, 1), (7, 0), (8, 0), (9, 0), (10, 0), (11, 0), (12, 0), (5, 2), (6, 2), (13, 2), (14, 0)] (by kernel_rfl) (by kernel_rfl) (fun KK hKK => ?_)
    simp only [beside, List.filterMap_cons, List.filterMap_nil, List.getElem?_toArray, List.getElem?_cons_zero, List.getElem?_cons_succ, Option.map_some]
    repeat ((first | (refine wpX_w ?_ (Or.inl ⟨by rfl, fun w9 => ?_⟩) ?_; rotate_left 1; go_simp; with_reducible rfl) | (refine wpX_l ?_ ((Below.refl _ _).drew) (Or.inl ⟨by rfl, fun w9 hw9 => ?_⟩) ?_; rotate_left 1; have q0 := (hw9.cell (p := ⟨g, off + i * 3, none⟩) hg).trans q0; have q1 := (hw9.cell (p := ⟨g, off + i * 3 + 1, none⟩) hg).trans q1; have q2 := (hw9.cell (p := ⟨g, off + i * 3 + 2, none⟩) hg).trans q2; go_simp; with_reducible rfl) | refine wpX_w undef (Or.inr ⟨by rfl, rfl⟩) ?_ | refine wpX_l undef ((Below.refl _ _).drew) (Or.inr ⟨by rfl, rfl⟩) ?_); go_frame)
    refine wpX_e (by kernel_rfl) (fun K9 hK9 => ?_)
    go_simp
    refine hK9 _ _ ?_
    clear hK9 K9
    obtain ⟨Y1, hY1⟩ : ∃ Y1, Y1 = (wr.alloc (.cells #[.int .i64 y.kind, .string y.text, .int .i64 y.n] 23)).drew := ⟨_, rfl⟩
    have hb1 : Below wr.heap.size wr Y1 := by rw [hY1]; exact ((Below.refl _ _).alloc (Nat.le_refl _) _).drew
    have hk1 : Blk Y1 wr.heap.size 23 #[.int .i64 y.kind, .string y.text, .int .i64 y.n] := by rw [hY1]; exact (Blk.new wr _ _).drew
    have HX1 := Lib.hid (show RowRd Y1 3 Sym.cells (some ⟨wr.heap.size, 0, none⟩) 1 [y] from RowRd.of_cells (Nat.le_refl _) (by unfold maxLen; omega) hk1.lt (fun k hk i u hu => by
     obtain rfl : k = 0 := by simp at hk; omega
     rw [show 0 + 0 * 3 + i = i by omega, hk1.cell i, ← hu]; simp [Sym.cells]))
    have HS1 := Lib.hid (HS.out.new_ hb1)
    have HB9 := Lib.hid hb1
    rw [← hY1]
    clear hY1 hb1 hk1
    refine wpX_e (by kernel_rfl) (fun K9 hK9 => ?_)
    go_simp
    have hcl := td_put [y] _ _ HS1.out HX1.out (by simp)
    simp only [List.length_singleton] at hcl
    rw [← HPC.out] at hcl
    refine hcl.mono ?_
    rintro e Y2 ⟨rfl, hs2, hF2⟩
    obtain ⟨D3, hD3⟩ : ∃ D3, D3 = Plus D wr Y1 := ⟨_, rfl⟩
    rw [← hD3] at hs2 hF2
    have HX2 := Lib.hid (HOS.out Y2 (Nat.le_trans HB9.out.size hF2.size) (fun j hj => (hF2.cell (p := ⟨g, off + i * 3 + j, none⟩) (Nat.lt_of_lt_of_le hg HB9.out.size) (fun hn => hn (by rw [hD3]; exact .inl (HS.out.dw _ hgw)))).trans (HB9.out.cell (p := ⟨g, off + i * 3 + j, none⟩) hg)))
    have HS2 := Lib.hid hs2
    clear hcl hs2 hF2 hD3
    refine hK9 _ _ ?_
    clear hK9 K9
    refine wpX_e (by kernel_rfl) (fun K9 hK9 => ?_)
    go_simp
    have hlist := HS.out.gt.list_
    have hrm := HS.out.rm
    have hcl := td_rput [y] _ _ HS2.out hlist.1 (by omega) HX2.out (by simp)
    simp only [List.length_singleton] at hcl
    rw [← HPC.out] at hcl
    refine hcl.mono ?_
    rintro e Y3 ⟨rfl, hs3, _⟩
    have HS3 := Lib.hid hs3
    clear hcl hs3 hlist hrm
    refine hK9 _ _ ?_
    clear hK9 K9
    repeat ((first | (refine wpX_w ?_ (Or.inl ⟨by rfl, fun w9 => ?_⟩) ?_; rotate_left 1; go_simp; with_reducible rfl) | (refine wpX_l ?_ ((Below.refl _ _).drew) (Or.inl ⟨by rfl, fun w9 hw9 => ?_⟩) ?_; rotate_left 1; have q0 := (hw9.cell (p := ⟨g, off + i * 3, none⟩) hg).trans q0; have q1 := (hw9.cell (p := ⟨g, off + i * 3 + 1, none⟩) hg).trans q1; have q2 := (hw9.cell (p := ⟨g, off + i * 3 + 2, none⟩) hg).trans q2; go_simp; with_reducible rfl) | refine wpX_w undef (Or.inr ⟨by rfl, rfl⟩) ?_ | refine wpX_l undef ((Below.refl _ _).drew) (Or.inr ⟨by rfl, rfl⟩) ?_); go_frame)
    refine wpX_nil ?_
    simp only [OnlyN_normal]
    refine hKK _ _ ?_
    clear hKK KK
    have HSN := Lib.hid (show TD w T k room (tabL room (known.take (i + 1))) (tabL room (known.take (i + 1))) (Plus D3 Y2 Y3) Y3 by rw [HTK.out]; exact HS3.out)
    have tpc : ((pc : Int) != pc) = false := by simp
    clear q0 q1 q2
    go_wp2_with fail
    go_roundw
    case rel => exact ⟨i + 1, _, by go_num, by omega, HSN.out⟩
    case measure => simp [intOf] <;> omega
  · have hie : i = known.length := by omega
    subst hie
    rw [List.take_length] at HS
    go_wp2_with fail
    go_ret2
    exact ⟨T, k, D, rfl, HS.out⟩
end Go.Proofs.YtpndmjabjjbefaaGreat
namespace Go.Proofs.YtpndmjabjjbefaaGreat
open Go.RowKit Go.Shelf
theorem ext_BindT : ∀ {x y : BindT}, x.var = y.var → x.sym = y.sym → x = y
 | ⟨u0, u1⟩, ⟨v0, v1⟩, h0, h1 => by simp only at *; simp [*]
instance : DecidableEq BindT := fun x y => decidable_of_iff (x.var = y.var ∧ x.sym = y.sym) ⟨fun ⟨h0, h1⟩ => ext_BindT h0 h1, fun h => by subst h; exact ⟨rfl, rfl⟩⟩
theorem neq_BindT (x y : BindT) (W : World) : (binOp .neq 36 (.agg #[.string x.var, .int .i64 x.sym.kind, .string x.sym.text, .int .i64 x.sym.n]) (.agg #[.string y.var, .int .i64 y.sym.kind, .string y.sym.text, .int .i64 y.sym.n])).run Tryz.prog W = .ok (.bool (!decide (x = y))) W := by
 rw [run_neq_struct]
 go_simp
 by_cases h : x = y
 · subst h; simp
 · rw [decide_eq_false h]
   have hs : ∀ a b : Sym, a.kind = b.kind → a.text.toList = b.text.toList → a.n = b.n → a = b := fun a b h1 h2 h3 => Sym.ext' h1 (toList_inj h2) h3
   by_cases e0 : x.var.toList = y.var.toList
   case neg => rw [if_neg e0]; rfl
   rw [if_pos e0]
   by_cases e1 : x.sym.kind = y.sym.kind
   case neg => rw [if_neg e1]; rfl
   rw [if_pos e1]
   by_cases e2 : x.sym.text.toList = y.sym.text.toList
   case neg => rw [if_neg e2]; rfl
   rw [if_pos e2]
   by_cases e3 : x.sym.n = y.sym.n
   case neg => rw [if_neg e3]; rfl
   rw [if_pos e3]
   exact absurd (ext_BindT (toList_inj e0) (hs _ _ e1 e2 e3)) h
set_option maxRecDepth 100000 in
set_option maxHeartbeats 4000000 in
theorem binds_eq {D D' : Nat → Prop} {A B : Option Addr} {c d : Nat} (l m : List BindT) (w : World) (hl : RowR repBindT D w A c l) (hm : RowR repBindT D' w B d m) :
 Calls Tryz.prog 26 #[.slice A l.length c, .slice B m.length d] w fun e w' => e = .returned (.bool (decide (l = m))) ∧ Below w.heap.size w w' := by
 have HL := Lib.hid hl
 have HM := Lib.hid hm
 have hlc := hl.cap
 clear hl hm
 by_cases hlm : l.length = m.length
 · have t1 : ((l.length : Int) != (m.length : Int)) = false := by simp; omega
   have HLM := Lib.hid hlm
   clear hlm
   go_enter Tryz.func26, Tryz.ntmps26
   go_wp2_with fail
   go_loopw [5] (fun s wr => ∃ i : Nat, s = .int .i64 i ∧ i ≤ l.length ∧ (∀ k, (h : k < l.length) → (h' : k < m.length) → k < i → l[k] = m[k]) ∧ Below w.heap.size w wr) (fun s wr => l.length - (intOf s).toNat)
   case atStart => exact ⟨0, rfl, Nat.zero_le _, fun k _ _ h => absurd h (by omega), Below.refl _ _⟩
   case round =>
    obtain ⟨i, rfl, hi, hall, hB⟩ := hrel
    have HALL := Lib.hid hall
    have HB := Lib.hid hB
    clear hall hB
    by_cases hlt : i < l.length
    · have hlt2 : i < m.length := by have := HLM.out; omega
      obtain ⟨x, hx⟩ : ∃ x, x = l[i] := ⟨_, rfl⟩
      obtain ⟨y, hy⟩ : ∃ y, y = m[i] := ⟨_, rfl⟩
      obtain ⟨g, off, rfl, _, hgs, q0, q1, q2, q3⟩ := at_BindT (HL.out.new_ HB.out) hlt
      obtain ⟨g2, off2, rfl, _, hgs2, p0, p1, p2, p3⟩ := at_BindT (HM.out.new_ HB.out) hlt2
      rw [← hx] at q0 q1 q2 q3
      rw [← hy] at p0 p1 p2 p3
      have b1 : (0 : Int) ≤ (i : Int) := by omega
      have b2 : (i : Int) < (l.length : Int) := by omega
      have b3 : (i : Int) < (m.length : Int) := by omega
      have HX := Lib.hid hx
      have HY := Lib.hid hy
      have hbe := fun W => neq_BindT x y W
      clear hx hy
      by_cases he : x = y
      · have HE := Lib.hid he
        have t2 : decide (x = y) = true := by simpa using he
        simp only [t2, Bool.not_true] at hbe
        clear he
        go_wp2_with fail
        go_quiet (fail)
        have HB2 := Lib.hid (Below.drewN' HB.out nq)
        clear q0 q1 q2 q3 p0 p1 p2 p3
        go_wp2_with fail
        go_roundw
        case rel =>
         refine ⟨i + 1, by go_num, by omega, fun k h h' hk => ?_, HB2.out⟩
         rcases Nat.lt_or_ge k i with h3 | h3
         · exact HALL.out k h h' h3
         · obtain rfl : k = i := by omega
           rw [← HX.out, ← HY.out]
           exact HE.out
        case measure => simp [intOf] <;> omega
      · have HE := Lib.hid he
        have t2 : decide (x = y) = false := by simpa using he
        simp only [t2, Bool.not_false] at hbe
        clear he
        go_wp2_with fail
        go_quiet (fail)
        have HB2 := Lib.hid (Below.drewN' HB.out nq)
        clear q0 q1 q2 q3 p0 p1 p2 p3
        go_wp2_with fail
        go_ret
        refine ⟨?_, HB2.out⟩
        have : l ≠ m := by
         rintro rfl
         exact HE.out (HX.out.trans HY.out.symm)
        rw [decide_eq_false this]; rfl
    · have hie : i = l.length := by omega
      subst hie
      go_wp2_with fail
      go_ret
      refine ⟨?_, HB.out⟩
      have : l = m := List.ext_getElem HLM.out (fun k h h' => HALL.out k h h' h)
      rw [decide_eq_true this]; rfl
 · have t1 : ((l.length : Int) != (m.length : Int)) = true := by simp; omega
   have HLM := Lib.hid hlm
   clear hlm
   go_enter Tryz.func26, Tryz.ntmps26
   go_wp2_with fail
   go_ret
   refine ⟨?_, Below.refl _ _⟩
   have : l ≠ m := fun e => HLM.out (by rw [e])
   rw [decide_eq_false this]; rfl
end Go.Proofs.YtpndmjabjjbefaaGreat
namespace Go.Proofs.YtpndmjabjjbefaaGreat
open Go.RowKit Go.Shelf
attribute [local go_sem] Oper.semAt_some
def strC (s : ByteArray) : List Value := [.string s]
theorem strC_len (s : ByteArray) : (strC s).length = 1 := rfl
theorem info_Str : (Tryz.prog.info? 9).map (fun i => (i.zero, i.size, i.bytes)) = some (some (.string ⟨#[]⟩), 1, 16) := by kernel_rfl
def StrsTo (W : World) (xs : List ByteArray) (e : Ending) (W' : World) : Prop :=
 ∃ A c, e = .returned (.slice A xs.length c) ∧ W'.ownsRow 0 9 1 (.slice A xs.length c) xs.length (xs.flatMap strC) ∧ AIn A (W.heap.size ≤ ·) ∧ Below W.heap.size W W'
def ColI (w : World) (ob : Nat) (D : Nat → Prop) (pre : List ByteArray) (X : World) : Prop :=
 ∃ A c, Own D X ob 47 #[.slice A pre.length c] ∧ OwnR D X 9 1 pre.length A c (pre.flatMap strC) ∧ AIn A (w.heap.size ≤ ·) ∧ Below w.heap.size w X ∧ (∀ k, D k → k < X.heap.size)
theorem ColI.step {w : World} {ob B : Nat} {D : Nat → Prop} {pre : List ByteArray} {X Y : World} (h : ColI w ob D pre X) (hB : w.heap.size ≤ B) (hF : Fr (FromB B D) X Y) : ColI w ob (Plus D X Y) pre Y := by
 obtain ⟨A, c, h1, h2, h3, h4, h5⟩ := h
 exact ⟨A, c, h1.step hF, h2.step hF, h3, h4.trans (hF.below h4.size (fun k hk hn => by have := hn.2; omega)), fun k hk => hk.elim (fun hk => Nat.lt_of_lt_of_le (h5 k hk) hF.size) (·.2)⟩
set_option maxRecDepth 100000 in
set_option maxHeartbeats 4000000 in
theorem listO_is {D : Nat → Prop} (gf : Nat) (lb : Array Value) (xs : List ByteArray) (w : World) (hD : ∀ k, D k → k < w.heap.size) (hit : ∀ W, Below w.heap.size w W → IterO Tryz.prog gf lb encStr xs W D)
 (hent : ∀ args w, (callFunc gf args).run Tryz.prog w = .ok (.enter gf args) w) (hlen : xs.length ≤ 1000000) :
 Calls Tryz.prog 21 #[.func (.func gf) #[] lb] w (StrsTo w xs) := by
 obtain ⟨i0, hi0, hz0, hz1, hz2⟩ := info_parts info_Str
 have hbe : ∀ W, (binOp .eql 50 (.func (.func gf) #[] lb) .nilFunc).run Tryz.prog W = .ok (.bool false) W := fun W => by kernel_rfl
 have HD := Lib.hid hD
 have HIT := Lib.hid hit
 have HENT := Lib.hid hent
 clear hD hit hent
 refine (callsIn_wide (n := 0)).1 ?_
 refine callsIn_of_wp_marks Tryz.func21 rfl trivial ?_
 refine wpIn_wide.2 ?_
 simp only [Tryz.ntmps21, List.size_toArray, List.length_cons, List.length_nil, Nat.reduceAdd, Nat.reduceSub, Array.replicate_succ, Array.replicate_zero, List.push_toArray, List.append_toArray, List.nil_append, List.cons_append]
 go_upto_region 2 with fail
 obtain ⟨w1, hw1⟩ : ∃ w1, w1 = (w.alloc (.cells #[.slice none 0 0] 47)) := ⟨_, rfl⟩
 rw [← hw1]
 have HB := Lib.hid (show Below w.heap.size w w1 by rw [hw1]; exact (by repeat (first | exact Below.refl _ _ | refine Below.drew ?_ | refine Below.al ?_ _ | refine Below.sc ?_ _)))
 have Ko := Lib.hid (show Blk w1 (w.heap.size) 47 #[.slice none 0 0] by rw [hw1]; exact (Blk.new w 47 #[.slice none 0 0]))
 clear hw1
 have o0 := Ko.out.c1
 have of0 := Ko.out.frozen 0
 have oz := Ko.out.lt
 go_wp2_with fail
 obtain ⟨I, hI⟩ : ∃ I : (Nat → Prop) → List ByteArray → World → Prop, I = fun D' pre X => ColI w (w.heap.size) D' pre X := ⟨_, rfl⟩
 obtain ⟨Ix, hIx⟩ : ∃ Ix : Code → (Nat → Prop) → List ByteArray → World → Prop, Ix = fun cd D' pre X => False := ⟨_, rfl⟩
 have hzs := HB.out.size
 have hst : Steady w1.heap.size I := by
  subst hI
  intro D' pre X Y h hF
  exact h.step HB.out.size hF
 have hstx : ∀ cd, Steady w1.heap.size (Ix cd) := by
  subst hIx
  intro cd D' pre X Y h hF
  exact h.elim
 have HST := Lib.hid hst
 have HZ1 := Lib.hid hzs
 refine (wpIn_wide (n := 0)).1 ?_
 refine wpIn_rangeO (w := w1) (by rfl) HENT.out (fun k hk => Nat.lt_of_lt_of_le (HD.out k hk) HZ1.out) (fun W hW => HIT.out W (HB.out.trans (hW.mono HZ1.out))) (fun x => by rfl) I Ix hst hstx ?_ ?_ ?_ ?_
 · subst hI
   exact ⟨none, 0, ⟨Ko.out, (fun hd => by have := HD.out _ hd; omega)⟩, ⟨owns_nil _ _ _ _, AIn.none_ _⟩, AIn.none_ _, HB.out, fun k hk => Nat.lt_of_lt_of_le (HD.out k hk) HZ1.out⟩
 · intro D' lo pre x post X hx hlo hDl hIX
   have hpl : pre.length + 1 ≤ 1000000 := by
    have := congrArg List.length hx
    simp at this
    omega
   simp only [encStr, Array.zip]
   gi_wp2_with fail
   refine ⟨Fr.refl _ _, fun X2 hF2 hz2 _ => ?_⟩
   have hI2 := hst.same hIX (hF2.mono (fun k _ e => by rw [e]; exact ⟨hDl, hlo⟩)) hz2
   have HI := Lib.hid hI
   have HIX := Lib.hid hIx
   rw [hI] at hI2
   clear hI hIx hst hstx hIX hF2 hz2 HST hx
   obtain ⟨A, c, hbo, hro, hao, hbl, hdl⟩ := hI2
   have b0 := (hbo.1.cell 0).trans rfl
   have bf := hbo.1.frozen 0
   have bz := hbo.1.lt
   obtain ⟨X9, hX9⟩ : ∃ X9, X9 = X2.alloc (.cells #[.string x] 9) := ⟨_, rfl⟩
   have hb9 : Below X2.heap.size X2 X9 := by rw [hX9]; exact (Below.refl _ _).alloc (Nat.le_refl _) _
   have HX9 := Lib.hid hX9
   have HB9 := Lib.hid hb9
   have HO9 := Lib.hid (ownsRow_new hro.1 hb9)
   have HN9 := Lib.hid (show ∀ (j : Nat) (u : Value), (strC x)[j]? = some u → X9.cell? ((⟨X2.heap.size, 0, none⟩ : Addr).add j) = some u by rw [hX9]; exact news_alloc rfl)
   have HBO := Lib.hid hbo
   have HRO := Lib.hid hro
   have HAO := Lib.hid hao
   have HBL := Lib.hid hbl
   have HDL := Lib.hid hdl
   have KBB := Lib.hid (hbo.1.new_ hb9)
   clear hX9 hb9 hbo hro hao hbl hdl
   gi_wp2_with (gi_at_builtin; rw [← HX9.out]; refine wpListIn_app X9 rfl (.tmp 9) (.tmp 11) 47 rfl 9 i0 _ 1 16 Tryz.underlying47 hi0 hz0 hz1 hz2 rfl (by decide) _ pre.length _ rfl HO9.out _ 1 1 (strC x) rfl rfl (fun _ => ⟨_, rfl, HN9.out⟩) (by intro u hu; simp only [strC, List.mem_cons, List.not_mem_nil, or_false] at hu; subst hu; rfl) (by unfold maxLen; omega) (by omega) ?_; intro v' w6 hown hg hnil hat; obtain ⟨A3, c3, rfl, hF3, hA3, hO3⟩ := grown_own (E := fun k => ∃ a, A = some a ∧ a.block = k) (fun a ha => ⟨a, ha, rfl⟩) hown hg hat; have HF3 := Lib.hid hF3; have HA3 := Lib.hid hA3; have HO3 := Lib.hid hO3; have hkb6 := KBB.out.grown hg (own_blk_ne HO9.out KBB.out (by decide)); have b0 := (hkb6.cell 0).trans rfl; have bf := hkb6.frozen 0; have bz := hkb6.lt; have KBB6 := Lib.hid hkb6; clear hkb6 hown hg hnil hat hF3 hA3 hO3)
   have hF7 : Fr (fun k => (∃ a, A = some a ∧ a.block = k) ∨ k = w.heap.size) X2 (w6.setCell ⟨w.heap.size, 0, none⟩ (.slice A3 (pre.length + 1) c3)) :=
    ((Fr.of_new HB9.out).trans (HF3.out.mono (fun k _ hk => .inl hk))).setCell (p := ⟨w.heap.size, 0, none⟩) (.inl (.inr rfl)) _
   have hnD : ∀ k, ((∃ a, A = some a ∧ a.block = k) ∨ k = w.heap.size) → ¬ D' k := by
    rintro k (⟨a, ha, rfl⟩ | rfl)
    · exact HRO.out.2 a ha
    · exact HBO.out.2
   have hz9' := HB9.out.size
   have hlow : w.heap.size ≤ X2.heap.size := HBL.out.size
   have hAn : ∀ a, A3 = some a → ((∃ b, A = some b ∧ b.block = a.block) ∨ X2.heap.size < a.block) := fun a ha => by
    rcases HA3.out a ha with h | h
    · exact .inl h
    · refine .inr ?_
      have : X9.heap.size = X2.heap.size + 1 := by rw [HX9.out]; simp
      omega
   have hcol : ColI w (w.heap.size) D' (pre ++ [x]) (w6.setCell ⟨w.heap.size, 0, none⟩ (.slice A3 (pre.length + 1) c3)) := by
    have e1 : (pre ++ [x]).length = pre.length + 1 := by simp
    refine ⟨A3, c3, ⟨?_, HBO.out.2⟩, ⟨?_, fun a ha hd => ?_⟩, fun a ha => ?_, HBL.out.trans (hF7.below hlow (fun k hk hn => ?_)), fun k hk => Nat.lt_of_lt_of_le (HDL.out k hk) hF7.size⟩
    · rw [e1]
      simpa using KBB6.out.set_ 0 (.slice A3 (pre.length + 1) c3)
    · rw [e1, List.flatMap_append]
      have := ownsRow_setCell_other (a := ⟨w.heap.size, 0, none⟩) HO3.out (own_blk_ne HO3.out KBB6.out (by decide)) (.slice A3 (pre.length + 1) c3)
      simpa [strC] using this
    · rcases hAn a ha with ⟨b, hb, e⟩ | h
      · exact HRO.out.2 b hb (e ▸ hd)
      · exact absurd (HDL.out _ hd) (by omega)
    · rcases hAn a ha with ⟨b, hb, e⟩ | h
      · have := HAO.out b hb
        show w.heap.size ≤ a.block
        omega
      · show w.heap.size ≤ a.block
        omega
    · rcases hn with ⟨a, ha, rfl⟩ | rfl
      · have := HAO.out a ha
        omega
      · omega
   refine ⟨hF7.mono (fun k _ hk => hnD k hk), ?_⟩
   rw [HI.out]
   exact hcol
 · intro D' d X hd hDd hIX hK
   rw [hI] at hIX
   obtain ⟨A, c, hbo, hro, hao, hbl, hdl⟩ := hIX
   have b0 := (hbo.1.cell 0).trans rfl
   have bz := hbo.1.lt
   have HRO := Lib.hid hro
   have HAO := Lib.hid hao
   have HBL := Lib.hid hbl
   have HK := Lib.hid hK
   have HBO := Lib.hid hbo
   clear hI hIx hst hstx HST hbo hro hao hbl hdl hK
   go_wp2_with fail
   refine ⟨by simp, .inl ⟨_, _, rfl, run_takeDeferred HK.out, ?_⟩⟩
   have hput : Fr (· = d) X (X.putObj d (.deferred none)) := (Fr.refl (· = d) X).putObj (.inl rfl) _
   refine ⟨_, results_tmp rfl _ _ _, ?_⟩
   exact ⟨A, c, rfl, ownsRow_fr HRO.out.1 hput (fun g hg e => by
    rcases A with _ | a
    · simp [Value.ownBlock] at hg
    · have e2 : a.block = g := by simpa [Value.ownBlock] using hg
      exact HRO.out.2 a rfl (by rw [e2, e]; exact hDd)), HAO.out, HBL.out.trans (hput.below HBL.out.size (fun k hk hn => by have := HZ1.out; omega))⟩
 · intro D' d cd pre post X hd hDd hx hIX hK
   rw [hIx] at hIX
   exact hIX.elim
end Go.Proofs.YtpndmjabjjbefaaGreat
namespace Go.Proofs.YtpndmjabjjbefaaGreat
open Go.RowKit Go.Shelf
theorem str_at {D : Nat → Prop} {w : World} {A : Option Addr} {c k : Nat} {l : List ByteArray} (h : RowR repStr D w A c l) (hk : k < l.length) : ∃ g off, A = some ⟨g, off, none⟩ ∧ g < w.heap.size ∧ w.cell? ⟨g, off + k, none⟩ = some (.string l[k]) := by
 obtain ⟨g, off, cs, hA, hD, hg, hr, hc⟩ := h.at_ hk
 have hr2 : cs = [Value.string l[k]] := hr
 subst hr2
 exact ⟨g, off, hA, hg, by simpa [repStr, RepT.flat] using hc 0 _ rfl⟩
end Go.Proofs.YtpndmjabjjbefaaGreat
namespace Go.Proofs.YtpndmjabjjbefaaGreat
open Go.RowKit Go.Shelf
def goK (most : Nat) (f : CondT → Nat) : List CondT → Nat → Nat
 | [], s => s
 | c :: l, s => if s ≤ most then goK most f l (s + (1 + f c)) else s
def sizeK (most : Nat) : Nat → Nat → List CondT → Nat
 | 0, d, l => if 20 < d then most + 1 else if l = [] then 0 else most + 1
 | n + 1, d, l => if 20 < d then most + 1 else min (goK most (fun c => sizeK most n (d + 1) c.conds) l 0) (most + 1)
theorem goK_ge (most : Nat) (f : CondT → Nat) : ∀ (l : List CondT) (s : Nat), s ≤ goK most f l s
 | [], s => Nat.le_refl _
 | c :: l, s => by
   rw [goK]
   split
   · have := goK_ge most f l (s + (1 + f c)); omega
   · omega
theorem goK_all (most : Nat) (f : CondT → Nat) : ∀ (l : List CondT) (s : Nat), goK most f l s ≤ most → goK most f l s = s + (l.map fun c => 1 + f c).sum ∧ ∀ c ∈ l, f c ≤ most
 | [], s, _ => by simp [goK]
 | c :: l, s, h => by
   rw [goK] at h ⊢
   by_cases hs : s ≤ most
   · rw [if_pos hs] at h ⊢
     obtain ⟨h1, h2⟩ := goK_all most f l _ h
     have := goK_ge most f l (s + (1 + f c))
     refine ⟨by rw [h1, List.map_cons, List.sum_cons]; omega, fun x hx => ?_⟩
     rcases List.mem_cons.1 hx with rfl | hx
     · omega
     · exact h2 x hx
   · rw [if_neg hs] at h
     omega
theorem goK_snoc (most : Nat) (f : CondT → Nat) : ∀ (l : List CondT) (c : CondT) (s : Nat), goK most f (l ++ [c]) s = if goK most f l s ≤ most then goK most f l s + (1 + f c) else goK most f l s
 | [], c, s => rfl
 | x :: l, c, s => by
   rw [List.cons_append, goK, goK]
   by_cases hs : s ≤ most
   · rw [if_pos hs, if_pos hs, goK_snoc most f l c]
   · rw [if_neg hs, if_neg hs, if_neg hs]
theorem goK_stop (most : Nat) (f : CondT → Nat) : ∀ (l m : List CondT) (s : Nat), ¬ goK most f l s ≤ most → goK most f (l ++ m) s = goK most f l s
 | [], m, s, h => by
   rw [goK] at h
   cases m with
   | nil => rfl
   | cons c m => simp only [List.nil_append, goK]; rw [if_neg h]
 | x :: l, m, s, h => by
   rw [List.cons_append, goK, goK]
   rw [goK] at h
   by_cases hs : s ≤ most
   · rw [if_pos hs, if_pos hs]
     rw [if_pos hs] at h
     exact goK_stop most f l m _ h
   · rw [if_neg hs, if_neg hs]
theorem sum_le_of {α : Type} (f g : α → Nat) : ∀ l : List α, (∀ c ∈ l, f c ≤ g c) → (l.map f).sum ≤ (l.map g).sum
 | [], _ => Nat.le_refl _
 | c :: l, h => by
   rw [List.map_cons, List.map_cons, List.sum_cons, List.sum_cons]
   have h1 := h c List.mem_cons_self
   have h2 := sum_le_of f g l (fun x hx => h x (List.mem_cons_of_mem _ hx))
   omega
theorem flatC_len (m d : Nat) (l : List CondT) : (flatC (m + 1) d l).length = (l.map fun c => 1 + (flatC m (d + 1) c.conds).length).sum := by
 rw [flatC_succ, List.length_flatMap]
 congr 1
 apply List.map_congr_left
 intro c _
 simp; omega
theorem sizeK_flat (most : Nat) : ∀ (n m d e : Nat) (l : List CondT), sizeK most n d l ≤ most → (flatC m e l).length ≤ sizeK most n d l
 | 0, m, d, e, l, h => by
   rw [sizeK] at h
   by_cases h1 : 20 < d
   · rw [if_pos h1] at h; omega
   · rw [if_neg h1] at h
     by_cases h2 : l = []
     · subst h2; cases m <;> simp [flatC]
     · rw [if_neg h2] at h; omega
 | n + 1, m, d, e, l, h => by
   rw [sizeK] at h ⊢
   by_cases h1 : 20 < d
   · rw [if_pos h1] at h; omega
   · rw [if_neg h1] at h ⊢
     obtain ⟨h2, h3⟩ := goK_all most (fun c => sizeK most n (d + 1) c.conds) l 0 (by omega)
     cases m with
     | zero => simp [flatC]
     | succ m =>
       have h4 := sum_le_of (fun c : CondT => 1 + (flatC m (e + 1) c.conds).length) (fun c => 1 + sizeK most n (d + 1) c.conds) l (fun c hc => by
        have := sizeK_flat most n m (d + 1) (e + 1) c.conds (h3 c hc)
        omega)
       rw [flatC_len]
       omega
theorem sizeK_deep (most : Nat) : ∀ (n d : Nat) (l : List CondT), sizeK most n d l ≤ most → d ≤ 20 ∧ ∀ {D : Nat → Prop} {w : World} {A : Option Addr} {c : Nat}, RowR (repCondT n) D w A c l → RowR (repCondT (20 - d)) D w A c l
 | 0, d, l, h => by
   rw [sizeK] at h
   by_cases h1 : 20 < d
   · rw [if_pos h1] at h; omega
   · rw [if_neg h1] at h
     by_cases h2 : l = []
     · subst h2
       exact ⟨by omega, fun g => ⟨g.1, g.2.1, fun h => absurd h (by simp)⟩⟩
     · rw [if_neg h2] at h; omega
 | n + 1, d, l, h => by
   rw [sizeK] at h
   by_cases h1 : 20 < d
   · rw [if_pos h1] at h; omega
   · rw [if_neg h1] at h
     obtain ⟨_, h3⟩ := goK_all most (fun c => sizeK most n (d + 1) c.conds) l 0 (by omega)
     refine ⟨by omega, fun {D w A c} g => ?_⟩
     refine ⟨g.1, g.2.1, fun h0 => ?_⟩
     obtain ⟨b, off, g1, g2, g3, g4⟩ := g.2.2 h0
     obtain ⟨d1, _⟩ := sizeK_deep most n (d + 1) _ (h3 l[0] (List.getElem_mem h0))
     obtain ⟨k, hk⟩ : ∃ k, 20 - d = k + 1 := ⟨20 - d - 1, by omega⟩
     refine ⟨b, off, g1, g2, g3, fun j hj => ?_⟩
     obtain ⟨cs, r, hc⟩ := g4 j hj
     obtain ⟨A1, c1, A2, c2, A3, c3, e0, e1, e2, e3⟩ := r
     have h5 := (sizeK_deep most n (d + 1) _ (h3 l[j] (List.getElem_mem hj))).2 e3
     rw [hk]
     rw [show 20 - (d + 1) = k by omega] at h5
     exact ⟨cs, ⟨A1, c1, A2, c2, A3, c3, e0, e1, e2, h5⟩, hc⟩
def heavyT (t : TestT) : Bool := decide (20 < t.list.length) || (decide (100 < t.var.size) || decide (100 < t.sym.text.size))
def heavyO (c : CondT) : Bool := decide (100 < c.id.size) || (decide (10 < c.attr.length) || (decide (10 < c.value.length) || (c.attr.any heavyT || c.value.any heavyT)))
def heavyC : Nat → List CondT → Bool
 | 0, _ => false
 | n + 1, l => l.any fun c => heavyO c || heavyC n c.conds
def heavyP (n : Nat) (p : ProdT) : Bool := decide (40 < sizeK 40 n 0 p.conds) || (decide (40 < p.acts.length) || (decide (100 < p.name.size) || heavyC n p.conds))
set_option maxRecDepth 100000 in
set_option maxHeartbeats 2000000 in
theorem heavyTests_is {D : Nat → Prop} {A : Option Addr} {c : Nat} (l : List TestT) (w : World) (h : RowR repTestT D w A c l) : Calls Tryz.prog 68 #[.slice A l.length c] w fun e w' => e = .returned (.bool (l.any heavyT)) ∧ w = w' := by
 have H := Lib.hid h
 have hlc := h.cap
 clear h
 go_enter Tryz.func68, Tryz.ntmps68
 go_wp2_with fail
 go_loopw [3] (fun s wr => ∃ i : Nat, s = .int .i64 i ∧ i ≤ l.length ∧ (∀ k, (h : k < l.length) → k < i → heavyT l[k] = false) ∧ wr = w) (fun s wr => l.length - (intOf s).toNat)
 case atStart => exact ⟨0, rfl, Nat.zero_le _, fun k _ h => absurd h (by omega), rfl⟩
 case round =>
  obtain ⟨i, rfl, hi, hall, rfl⟩ := hrel
  have HALL := Lib.hid hall
  clear hall
  by_cases hlt : i < l.length
  · obtain ⟨x, hx⟩ : ∃ x, x = l[i] := ⟨_, rfl⟩
    obtain ⟨g, off, A1, c1, rfl, _, hgs, q0, q1, q2, q3, q4, q5, hr⟩ := at_TestT H.out hlt
    rw [← hx] at q0 q1 q2 q3 q4 q5 hr
    have hcap := hr.cap
    have b1 : (0 : Int) ≤ (i : Int) := by omega
    have b2 : (i : Int) < (l.length : Int) := by omega
    have HX := Lib.hid hx
    have HYES := Lib.hid (show heavyT x = true → l.any heavyT = true from fun h => List.any_eq_true.2 ⟨x, by rw [HX.out]; exact List.getElem_mem hlt, h⟩)
    clear hx hr
    cases t1 : decide (20 < x.list.length)
    · cases t2 : decide (100 < x.var.size)
      · cases t3 : decide (100 < x.sym.text.size)
        · have s1 : decide ((20 : Int) < (x.list.length : Int)) = false := by simp at t1 ⊢; omega
          have s2 : decide ((100 : Int) < (x.var.size : Int)) = false := by simp at t2 ⊢; omega
          have s3 : decide ((100 : Int) < (x.sym.text.size : Int)) = false := by simp at t3 ⊢; omega
          have HN := Lib.hid (show heavyT x = false by simp [heavyT, t1, t2, t3])
          clear t1 t2 t3
          go_wp2_with fail
          go_roundw
          case rel =>
           refine ⟨i + 1, by go_num, by omega, fun k h hk => ?_, by trivial⟩
           rcases Nat.lt_or_ge k i with h3 | h3
           · exact HALL.out k h h3
           · obtain rfl : k = i := by omega
             rw [← HX.out]
             exact HN.out
          case measure => simp [intOf] <;> omega
        · have s1 : decide ((20 : Int) < (x.list.length : Int)) = false := by simp at t1 ⊢; omega
          have s2 : decide ((100 : Int) < (x.var.size : Int)) = false := by simp at t2 ⊢; omega
          have s3 : decide ((100 : Int) < (x.sym.text.size : Int)) = true := by simp at t3 ⊢; omega
          have HN := Lib.hid (HYES.out (by simp [heavyT, t3]))
          clear t1 t2 t3
          go_wp2_with fail
          go_ret
          exact ⟨by rw [HN.out]; rfl, rfl⟩
      · have s1 : decide ((20 : Int) < (x.list.length : Int)) = false := by simp at t1 ⊢; omega
        have s2 : decide ((100 : Int) < (x.var.size : Int)) = true := by simp at t2 ⊢; omega
        have HN := Lib.hid (HYES.out (by simp [heavyT, t2]))
        clear t1 t2
        go_wp2_with fail
        go_ret
        exact ⟨by rw [HN.out]; rfl, rfl⟩
    · have s1 : decide ((20 : Int) < (x.list.length : Int)) = true := by simp at t1 ⊢; omega
      have HN := Lib.hid (HYES.out (by simp [heavyT, t1]))
      clear t1
      go_wp2_with fail
      go_ret
      exact ⟨by rw [HN.out]; rfl, rfl⟩
  · have hie : i = l.length := by omega
    subst hie
    have HN := Lib.hid (show l.any heavyT = false by
     rw [List.any_eq_false]
     intro x hx
     obtain ⟨k, hk, rfl⟩ := List.getElem_of_mem hx
     simp [HALL.out k hk hk])
    go_wp2_with fail
    go_ret
    exact ⟨by rw [HN.out]; rfl, rfl⟩
set_option maxRecDepth 100000 in
set_option maxHeartbeats 4000000 in
theorem size_is (most : Nat) (hm : most ≤ 1000) : ∀ (n : Nat) (D : Nat → Prop) (A : Option Addr) (c : Nat) (d : Nat) (l : List CondT) (w : World), RowR (repCondT n) D w A c l → d ≤ 21 →
 Calls Tryz.prog 43 #[.slice A l.length c, .int .i64 (most : Int), .int .i64 (d : Int)] w fun e w' => e = .returned (.int .i64 (sizeK most n d l : Int)) ∧ w = w' := by
 intro n
 induction n with
 | zero =>
   intro D A c d l w h hd
   have hl0 : l = [] := by
    cases l with
    | nil => rfl
    | cons x l =>
      obtain ⟨b, off, cs, _, _, _, hr, _⟩ := h.at_ (k := 0) (by simp)
      exact hr.elim
   subst hl0
   clear h
   by_cases h20 : 20 < d
   · have t1 : decide ((20 : Int) < (d : Int)) = true := by simp; omega
     have v1 : IntKind.i64.wrap ((most : Int) + 1) = (most : Int) + 1 := IntWalk.i64_in _ (by omega)
     have HR := Lib.hid (show ((sizeK most 0 d [] : Nat) : Int) = (most : Int) + 1 by rw [sizeK, if_pos h20]; rfl)
     clear h20
     go_enter Tryz.func43, Tryz.ntmps43
     go_wp2_with fail
     go_ret
     exact ⟨by rw [HR.out]; rfl, rfl⟩
   · have t1 : decide ((20 : Int) < (d : Int)) = false := by simp; omega
     have v1 : IntKind.i64.wrap ((most : Int) + 1) = (most : Int) + 1 := IntWalk.i64_in _ (by omega)
     have HR := Lib.hid (show ((sizeK most 0 d [] : Nat) : Int) = 0 by rw [sizeK, if_neg h20, if_pos rfl]; rfl)
     have hmin : min (0 : Int) ((most : Int) + 1) = 0 := by omega
     clear h20
     go_enter Tryz.func43, Tryz.ntmps43
     go_wp2_with fail
     go_loopw [7, 8] (fun a s wr => s = .int .i64 0 ∧ a = .int .i64 0 ∧ wr = w) (fun a s wr => 0)
     case atStart => exact ⟨rfl, rfl, rfl⟩
     case round =>
      obtain ⟨rfl, rfl, rfl⟩ := hrel
      go_wp2_with fail
      go_ret
      exact ⟨by rw [HR.out]; rfl, rfl⟩
 | succ n ih =>
   intro D A c d l w h hd
   have IH := Lib.hid ih
   have H := Lib.hid h
   have hlc := h.cap
   clear h ih
   have v1 : IntKind.i64.wrap ((most : Int) + 1) = (most : Int) + 1 := IntWalk.i64_in _ (by omega)
   by_cases h20 : 20 < d
   · have t1 : decide ((20 : Int) < (d : Int)) = true := by simp; omega
     have HR := Lib.hid (show ((sizeK most (n + 1) d l : Nat) : Int) = (most : Int) + 1 by rw [sizeK, if_pos h20]; rfl)
     clear h20
     go_enter Tryz.func43, Tryz.ntmps43
     go_wp2_with fail
     go_ret
     exact ⟨by rw [HR.out]; rfl, rfl⟩
   · have t1 : decide ((20 : Int) < (d : Int)) = false := by simp; omega
     obtain ⟨f, hf⟩ : ∃ f : CondT → Nat, f = fun c => sizeK most n (d + 1) c.conds := ⟨_, rfl⟩
     have hfle : ∀ c, f c ≤ most + 1 := fun c => by
      rw [hf]
      cases n with
      | zero => simp only [sizeK]; split; omega; split <;> omega
      | succ n => simp only [sizeK]; split; omega; omega
     have HFLE := Lib.hid hfle
     have HR := Lib.hid (show ((sizeK most (n + 1) d l : Nat) : Int) = min ((goK most f l 0 : Nat) : Int) ((most : Int) + 1) by rw [sizeK, if_neg h20, ← hf]; omega)
     have HF := Lib.hid hf
     have hd20 : d ≤ 20 := by omega
     clear h20 hfle hf
     go_enter Tryz.func43, Tryz.ntmps43
     go_wp2_with fail
     go_loopw [7, 8] (fun a s wr => ∃ i : Nat, s = .int .i64 i ∧ i ≤ l.length ∧ a = .int .i64 ((goK most f (l.take i) 0 : Nat) : Int) ∧ goK most f (l.take i) 0 ≤ 2 * most + 2 ∧ wr = w) (fun a s wr => l.length - (intOf s).toNat)
     case atStart => exact ⟨0, rfl, Nat.zero_le _, rfl, by simp [goK], rfl⟩
     case round =>
      obtain ⟨i, rfl, hi, rfl, hle, rfl⟩ := hrel
      obtain ⟨s, hs⟩ : ∃ s, s = goK most f (l.take i) 0 := ⟨_, rfl⟩
      rw [← hs] at hle ⊢
      have HS := Lib.hid hs
      clear hs
      by_cases hlt : i < l.length
      · by_cases hsm : s ≤ most
        · have t2 : decide ((s : Int) ≤ (most : Int)) = true := by simp; omega
          obtain ⟨x, hx⟩ : ∃ x, x = l[i] := ⟨_, rfl⟩
          obtain ⟨g, off, A1, c1, A2, c2, A3, c3, rfl, _, hgs, q0, q1, q2, q3, q4, q5, q6, r1, r2, r3⟩ := at_CondT H.out hlt
          rw [← hx] at q6 r3
          have HR3 := Lib.hid r3
          have hn3 := r3.cap
          have b1 : (0 : Int) ≤ (i : Int) := by omega
          have b2 : (i : Int) < (l.length : Int) := by omega
          obtain ⟨y, hy⟩ : ∃ y, y = f x := ⟨_, rfl⟩
          have hyle : y ≤ most + 1 := by rw [hy]; exact HFLE.out x
          have HCL := Lib.hid (show Calls Tryz.prog 43 #[.slice A3 x.conds.length c3, .int .i64 (most : Int), .int .i64 ((d : Int) + 1)] wr fun e w' => e = .returned (.int .i64 (y : Int)) ∧ wr = w' by
           have := IH.out D A3 c3 (d + 1) x.conds wr HR3.out (by omega)
           rw [hy, HF.out]
           exact this)
          have HN := Lib.hid (show goK most f (l.take (i + 1)) 0 = s + (1 + y) by
           rw [List.take_succ_eq_append_getElem hlt, goK_snoc, ← HS.out, if_pos hsm, ← hx, hy])
          have v2 : IntKind.i64.wrap ((d : Int) + 1) = (d : Int) + 1 := IntWalk.i64_in _ (by omega)
          have v3 : IntKind.i64.wrap (1 + (y : Int)) = 1 + (y : Int) := IntWalk.i64_in _ (by omega)
          have v4 : IntKind.i64.wrap ((s : Int) + (1 + (y : Int))) = (s : Int) + (1 + (y : Int)) := IntWalk.i64_in _ (by omega)
          clear hx hy r1 r2 r3 q0 q1 q2 q3 q4 q5
          go_wp2_with fail
          refine HCL.out.mono ?_
          rintro e w2 ⟨rfl, rfl⟩
          go_wp2_with fail
          go_roundw
          case rel => exact ⟨i + 1, by go_num, by omega, by rw [HN.out]; simp, by rw [HN.out]; omega, by trivial⟩
          case measure => simp [intOf] <;> omega
        · have t2 : decide ((s : Int) ≤ (most : Int)) = false := by simp; omega
          have b2 : (i : Int) < (l.length : Int) := by omega
          have hmin : min (s : Int) ((most : Int) + 1) = (most : Int) + 1 := by omega
          have HN := Lib.hid (show goK most f l 0 = s by
           have := goK_stop most f (l.take i) (l.drop i) 0 (by rw [← HS.out]; exact hsm)
           rwa [List.take_append_drop, ← HS.out] at this)
          clear hsm
          go_wp2_with fail
          go_ret
          exact ⟨by rw [HR.out, HN.out, hmin]; rfl, rfl⟩
      · have hie : i = l.length := by omega
        subst hie
        have HN := Lib.hid (show goK most f l 0 = s by rw [HS.out, List.take_length])
        obtain ⟨z, hz⟩ : ∃ z, z = min (s : Int) ((most : Int) + 1) := ⟨_, rfl⟩
        have HZ := Lib.hid hz
        clear hz
        go_wp2_with fail
        go_ret
        exact ⟨by rw [HR.out, HN.out]; rfl, rfl⟩
theorem heavyC_succ (n : Nat) (l : List CondT) : heavyC (n + 1) l = l.any fun c => heavyO c || heavyC n c.conds := rfl
set_option maxRecDepth 100000 in
set_option maxHeartbeats 4000000 in
theorem heavyConds_is : ∀ (n : Nat) (D : Nat → Prop) (A : Option Addr) (c : Nat) (l : List CondT) (w : World), RowR (repCondT n) D w A c l →
 Calls Tryz.prog 44 #[.slice A l.length c] w fun e w' => e = .returned (.bool (heavyC n l)) ∧ Below w.heap.size w w' := by
 intro n
 induction n with
 | zero =>
   intro D A c l w h
   have hl0 : l = [] := by
    cases l with
    | nil => rfl
    | cons x l =>
      obtain ⟨b, off, cs, _, _, _, hr, _⟩ := h.at_ (k := 0) (by simp)
      exact hr.elim
   subst hl0
   clear h
   go_enter Tryz.func44, Tryz.ntmps44
   go_wp2_with fail
   go_loopw [3] (fun s wr => s = .int .i64 0 ∧ wr = w) (fun s wr => 0)
   case atStart => exact ⟨rfl, rfl⟩
   case round =>
    obtain ⟨rfl, rfl⟩ := hrel
    go_wp2_with fail
    go_ret
    exact ⟨rfl, Below.refl _ _⟩
 | succ n ih =>
   intro D A c l w h
   have IH := Lib.hid ih
   have H := Lib.hid h
   have hlc := h.cap
   clear h ih
   obtain ⟨R, hR⟩ : ∃ R, R = heavyC (n + 1) l := ⟨_, rfl⟩
   rw [← hR]
   have HR := Lib.hid (show R = l.any fun c => heavyO c || heavyC n c.conds by rw [hR, heavyC_succ])
   clear hR
   go_enter Tryz.func44, Tryz.ntmps44
   go_wp2_with fail
   go_loopw [3] (fun s wr => ∃ i : Nat, s = .int .i64 i ∧ i ≤ l.length ∧ (∀ k, (h : k < l.length) → k < i → (heavyO l[k] || heavyC n l[k].conds) = false) ∧ Below w.heap.size w wr) (fun s wr => l.length - (intOf s).toNat)
   case atStart => exact ⟨0, rfl, Nat.zero_le _, fun k _ h => absurd h (by omega), Below.refl _ _⟩
   case round =>
    obtain ⟨i, rfl, hi, hall, hB⟩ := hrel
    have HALL := Lib.hid hall
    have HB0 := Lib.hid hB
    clear hall hB
    by_cases hlt : i < l.length
    · obtain ⟨x, hx⟩ : ∃ x, x = l[i] := ⟨_, rfl⟩
      obtain ⟨g, off, A1, c1, A2, c2, A3, c3, rfl, _, hgs, q0, q1, q2, q3, q4, q5, q6, r1, r2, r3⟩ := at_CondT (H.out.new_ HB0.out) hlt
      rw [← hx] at q0 q1 q2 q3 q4 q5 q6 r1 r2 r3
      have HR1 := Lib.hid r1
      have HR2 := Lib.hid r2
      have HR3 := Lib.hid r3
      have hn1 := r1.cap
      have hn2 := r2.cap
      have hn3 := r3.cap
      have b1 : (0 : Int) ≤ (i : Int) := by omega
      have b2 : (i : Int) < (l.length : Int) := by omega
      have HX := Lib.hid hx
      have HYES := Lib.hid (show (heavyO x || heavyC n x.conds) = true → R = true from fun h => by rw [HR.out]; exact List.any_eq_true.2 ⟨x, by rw [HX.out]; exact List.getElem_mem hlt, h⟩)
      have hsz := HB0.out.size
      clear hx r1 r2 r3
      go_upto_region 5 with fail
      obtain ⟨X, hX⟩ : ∃ X, X = wr.alloc (.cells #[.int .i64 x.kind, .bool x.goal, .string x.id, .slice A1 x.attr.length c1, .slice A2 x.value.length c2, .bool x.acc, .slice A3 x.conds.length c3] 62) := ⟨_, rfl⟩
      rw [← hX]
      have hbX : Below wr.heap.size wr X := by rw [hX]; exact (Below.refl _ _).alloc (Nat.le_refl _) _
      have Kx := Lib.hid (show Blk X wr.heap.size 62 #[.int .i64 x.kind, .bool x.goal, .string x.id, .slice A1 x.attr.length c1, .slice A2 x.value.length c2, .bool x.acc, .slice A3 x.conds.length c3] by rw [hX]; exact Blk.new _ _ _)
      have HB := Lib.hid hbX
      have HBW := Lib.hid (HB0.out.trans (hbX.mono hsz))
      clear hX hbX q0 q1 q2 q3 q4 q5 q6
      obtain ⟨-, -, x2, x3, x4, -, x6⟩ := Kx.out.c7
      have xz := Kx.out.lt
      cases t1 : decide (100 < x.id.size)
      · skip
        cases t2 : decide (10 < x.attr.length)
        · skip
          cases t3 : decide (10 < x.value.length)
          · skip
            have s1 : decide ((100 : Int) < (x.id.size : Int)) = false := by simp at t1 ⊢; omega
            have s2 : decide ((10 : Int) < (x.attr.length : Int)) = false := by simp at t2 ⊢; omega
            have s3 : decide ((10 : Int) < (x.value.length : Int)) = false := by simp at t3 ⊢; omega
            cases t4 : x.attr.any heavyT
            · skip
              cases t5 : x.value.any heavyT
              · skip
                cases t6 : heavyC n x.conds
                · skip
                  have hc1 := heavyTests_is x.attr X (HR1.out.new_ HB.out)
                  rw [t4] at hc1
                  have HC1 := Lib.hid hc1
                  clear hc1
                  have hc2 := heavyTests_is x.value X (HR2.out.new_ HB.out)
                  rw [t5] at hc2
                  have HC2 := Lib.hid hc2
                  clear hc2
                  have hc3 := IH.out D A3 c3 x.conds X (HR3.out.new_ HB.out)
                  rw [t6] at hc3
                  have HC3 := Lib.hid hc3
                  clear hc3
                  have HN := Lib.hid (show (heavyO x || heavyC n x.conds) = false by simp [heavyO, t1, t2, t3, t4, t5, t6])
                  clear t1 t2 t3 t4 t5 t6
                  go_wp2_with fail
                  refine HC1.out.mono ?_
                  rintro e w9 ⟨rfl, rfl⟩
                  go_wp2_with fail
                  refine HC2.out.mono ?_
                  rintro e w9 ⟨rfl, rfl⟩
                  go_wp2_with fail
                  refine HC3.out.mono ?_
                  rintro e w5 ⟨rfl, hb5⟩
                  have HB5 := Lib.hid (HBW.out.trans (hb5.mono HBW.out.size))
                  clear hb5
                  clear x2 x3 x4 x6
                  go_wp2_with fail
                  go_roundw
                  case rel =>
                   refine ⟨i + 1, by go_num, by omega, fun k h hk => ?_, HB5.out⟩
                   rcases Nat.lt_or_ge k i with h3 | h3
                   · exact HALL.out k h h3
                   · obtain rfl : k = i := by omega
                     rw [← HX.out]
                     exact HN.out
                  case measure => simp [intOf] <;> omega
                · skip
                  have hc1 := heavyTests_is x.attr X (HR1.out.new_ HB.out)
                  rw [t4] at hc1
                  have HC1 := Lib.hid hc1
                  clear hc1
                  have hc2 := heavyTests_is x.value X (HR2.out.new_ HB.out)
                  rw [t5] at hc2
                  have HC2 := Lib.hid hc2
                  clear hc2
                  have hc3 := IH.out D A3 c3 x.conds X (HR3.out.new_ HB.out)
                  rw [t6] at hc3
                  have HC3 := Lib.hid hc3
                  clear hc3
                  have HN := Lib.hid (HYES.out (by simp [t6]))
                  clear t1 t2 t3 t4 t5 t6
                  go_wp2_with fail
                  refine HC1.out.mono ?_
                  rintro e w9 ⟨rfl, rfl⟩
                  go_wp2_with fail
                  refine HC2.out.mono ?_
                  rintro e w9 ⟨rfl, rfl⟩
                  go_wp2_with fail
                  refine HC3.out.mono ?_
                  rintro e w5 ⟨rfl, hb5⟩
                  have HB5 := Lib.hid (HBW.out.trans (hb5.mono HBW.out.size))
                  clear hb5
                  clear x2 x3 x4 x6
                  go_wp2_with fail
                  go_ret
                  exact ⟨by rw [HN.out]; rfl, HB5.out⟩
              · skip
                have hc1 := heavyTests_is x.attr X (HR1.out.new_ HB.out)
                rw [t4] at hc1
                have HC1 := Lib.hid hc1
                clear hc1
                have hc2 := heavyTests_is x.value X (HR2.out.new_ HB.out)
                rw [t5] at hc2
                have HC2 := Lib.hid hc2
                clear hc2
                have HN := Lib.hid (HYES.out (by simp [heavyO, t5]))
                clear t1 t2 t3 t4 t5
                go_wp2_with fail
                refine HC1.out.mono ?_
                rintro e w9 ⟨rfl, rfl⟩
                go_wp2_with fail
                refine HC2.out.mono ?_
                rintro e w9 ⟨rfl, rfl⟩
                go_wp2_with fail
                go_ret
                exact ⟨by rw [HN.out]; rfl, HBW.out⟩
            · skip
              have hc1 := heavyTests_is x.attr X (HR1.out.new_ HB.out)
              rw [t4] at hc1
              have HC1 := Lib.hid hc1
              clear hc1
              have HN := Lib.hid (HYES.out (by simp [heavyO, t4]))
              clear t1 t2 t3 t4
              go_wp2_with fail
              refine HC1.out.mono ?_
              rintro e w9 ⟨rfl, rfl⟩
              go_wp2_with fail
              go_ret
              exact ⟨by rw [HN.out]; rfl, HBW.out⟩
          · skip
            have s1 : decide ((100 : Int) < (x.id.size : Int)) = false := by simp at t1 ⊢; omega
            have s2 : decide ((10 : Int) < (x.attr.length : Int)) = false := by simp at t2 ⊢; omega
            have s3 : decide ((10 : Int) < (x.value.length : Int)) = true := by simp at t3 ⊢; omega
            have HN := Lib.hid (HYES.out (by simp [heavyO, t3]))
            clear t1 t2 t3
            go_wp2_with fail
            go_ret
            exact ⟨by rw [HN.out]; rfl, HBW.out⟩
        · skip
          have s1 : decide ((100 : Int) < (x.id.size : Int)) = false := by simp at t1 ⊢; omega
          have s2 : decide ((10 : Int) < (x.attr.length : Int)) = true := by simp at t2 ⊢; omega
          have HN := Lib.hid (HYES.out (by simp [heavyO, t2]))
          clear t1 t2
          go_wp2_with fail
          go_ret
          exact ⟨by rw [HN.out]; rfl, HBW.out⟩
      · skip
        have s1 : decide ((100 : Int) < (x.id.size : Int)) = true := by simp at t1 ⊢; omega
        have HN := Lib.hid (HYES.out (by simp [heavyO, t1]))
        clear t1
        go_wp2_with fail
        go_ret
        exact ⟨by rw [HN.out]; rfl, HBW.out⟩
    · have hie : i = l.length := by omega
      subst hie
      have HN := Lib.hid (show R = false by
       rw [HR.out, List.any_eq_false]
       intro x hx
       obtain ⟨k, hk, rfl⟩ := List.getElem_of_mem hx
       have := HALL.out k hk hk
       simpa using this)
      go_wp2_with fail
      go_ret
      exact ⟨by rw [HN.out]; rfl, HB0.out⟩
set_option maxRecDepth 100000 in
set_option maxHeartbeats 4000000 in
theorem heavy_is {D : Nat → Prop} (n : Nat) (p : ProdT) (A1 A2 : Option Addr) (c1 c2 : Nat) (w : World) (h1 : RowR (repCondT n) D w A1 c1 p.conds) (h2 : RowR repActT D w A2 c2 p.acts) :
 Calls Tryz.prog 15 #[.agg #[.string p.name, .slice A1 p.conds.length c1, .slice A2 p.acts.length c2]] w fun e w' => e = .returned (.bool (heavyP n p)) ∧ Below w.heap.size w w' := by
 have H1 := Lib.hid h1
 have hac := h2.cap
 obtain ⟨R, hR⟩ : ∃ R, R = heavyP n p := ⟨_, rfl⟩
 rw [← hR]
 have HR := Lib.hid hR
 obtain ⟨s, hs⟩ : ∃ s, s = sizeK 40 n 0 p.conds := ⟨_, rfl⟩
 unfold heavyP at hR
 rw [← hs] at hR
 have HV := Lib.hid hR
 clear hR h1 h2
 go_enter Tryz.func15, Tryz.ntmps15
 go_upto_region 1 with fail
 obtain ⟨w1, hw1⟩ : ∃ w1, w1 = (w.alloc (.cells #[.string p.name, .slice A1 p.conds.length c1, .slice A2 p.acts.length c2] 42)) := ⟨_, rfl⟩
 rw [← hw1]
 have HB := Lib.hid (show Below w.heap.size w w1 by rw [hw1]; exact (by repeat (first | exact Below.refl _ _ | refine Below.drew ?_ | refine Below.al ?_ _ | refine Below.sc ?_ _)))
 have Kp := Lib.hid (show Blk w1 (w.heap.size) 42 #[.string p.name, .slice A1 p.conds.length c1, .slice A2 p.acts.length c2] by rw [hw1]; exact (Blk.new w 42 #[.string p.name, .slice A1 p.conds.length c1, .slice A2 p.acts.length c2]))
 clear hw1
 obtain ⟨p0, p1, p2⟩ := Kp.out.c3
 have pz := Kp.out.lt
 have hc1 : Calls Tryz.prog 43 #[.slice A1 p.conds.length c1, .int .i64 40, .int .i64 0] w1 _ := size_is 40 (by decide) n D A1 c1 0 p.conds w1 (H1.out.new_ HB.out) (by decide)
 rw [← hs] at hc1
 have HC1 := Lib.hid hc1
 clear hc1 hs
 cases t1 : decide (40 < s)
 · skip
   cases t2 : decide (40 < p.acts.length)
   · skip
     cases t3 : decide (100 < p.name.size)
     · skip
       have s1 : decide ((40 : Int) < (s : Int)) = false := by simp at t1 ⊢; omega
       have s2 : decide ((40 : Int) < (p.acts.length : Int)) = false := by simp at t2 ⊢; omega
       have s3 : decide ((100 : Int) < (p.name.size : Int)) = false := by simp at t3 ⊢; omega
       have HN := Lib.hid (show R = heavyC n p.conds by rw [HV.out, t1, t2, t3]; simp)
       clear t1 t2 t3
       go_wp2_with fail
       with_reducible refine (HC1.out).mono ?_
       rintro e w0 ⟨rfl, rfl⟩
       go_wp2_with fail
       with_reducible refine (heavyConds_is n D A1 c1 p.conds _ (H1.out.new_ HB.out)).mono ?_
       rintro e w2 ⟨rfl, hb⟩
       have hbs := Below.trans (show Below w1.heap.size w1 _ from (by (repeat (first | exact Below.refl _ _ | refine Below.drew ?_ | refine Below.al ?_ _ | refine Below.sc ?_ _)))) (hb.mono (by simp <;> omega))
       have Kp := Lib.hid (Kp.out.new_ hbs)
       have HB := Lib.hid (HB.out.trans (hbs.mono HB.out.size))
       have hsz2 := hbs.size
       clear p0 p1 p2 pz hb hbs
       obtain ⟨p0, p1, p2⟩ := Kp.out.c3
       have pz := Kp.out.lt
       go_wp2_with fail
       go_ret
       exact ⟨by rw [HN.out]; rfl, HB.out⟩
     · skip
       have s1 : decide ((40 : Int) < (s : Int)) = false := by simp at t1 ⊢; omega
       have s2 : decide ((40 : Int) < (p.acts.length : Int)) = false := by simp at t2 ⊢; omega
       have s3 : decide ((100 : Int) < (p.name.size : Int)) = true := by simp at t3 ⊢; omega
       have HN := Lib.hid (show R = true by rw [HV.out, t1, t2, t3]; simp)
       clear t1 t2 t3
       go_wp2_with fail
       with_reducible refine (HC1.out).mono ?_
       rintro e w0 ⟨rfl, rfl⟩
       go_wp2_with fail
       go_ret
       exact ⟨by rw [HN.out]; rfl, HB.out⟩
   · skip
     have s1 : decide ((40 : Int) < (s : Int)) = false := by simp at t1 ⊢; omega
     have s2 : decide ((40 : Int) < (p.acts.length : Int)) = true := by simp at t2 ⊢; omega
     have HN := Lib.hid (show R = true by rw [HV.out, t1, t2]; simp)
     clear t1 t2
     go_wp2_with fail
     with_reducible refine (HC1.out).mono ?_
     rintro e w0 ⟨rfl, rfl⟩
     go_wp2_with fail
     go_ret
     exact ⟨by rw [HN.out]; rfl, HB.out⟩
 · skip
   have s1 : decide ((40 : Int) < (s : Int)) = true := by simp at t1 ⊢; omega
   have HN := Lib.hid (show R = true by rw [HV.out, t1]; simp)
   clear t1
   go_wp2_with fail
   with_reducible refine (HC1.out).mono ?_
   rintro e w0 ⟨rfl, rfl⟩
   go_wp2_with fail
   go_ret
   exact ⟨by rw [HN.out]; rfl, HB.out⟩
theorem heavyP_light {n : Nat} {p : ProdT} (h : heavyP n p = false) : (∀ {D : Nat → Prop} {w : World} {A : Option Addr} {c : Nat}, RowR (repCondT n) D w A c p.conds → RowR (repCondT 20) D w A c p.conds) ∧ (∀ m e, (flatC m e p.conds).length ≤ 40) ∧ p.acts.length ≤ 40 ∧ p.name.size ≤ 100 := by
 unfold heavyP at h
 simp only [Bool.or_eq_false_iff, decide_eq_false_iff_not] at h
 obtain ⟨h1, h2, h3, h4⟩ := h
 have h5 : sizeK 40 n 0 p.conds ≤ 40 := by omega
 exact ⟨fun g => (sizeK_deep 40 n 0 p.conds h5).2 g, fun m e => Nat.le_trans (sizeK_flat 40 n m 0 e p.conds h5) h5, by omega, by omega⟩
end Go.Proofs.YtpndmjabjjbefaaGreat
namespace Go.Proofs.YtpndmjabjjbefaaGreat
open Go.RowKit Go.Shelf
theorem row_one {α : Type} {r : RepT α} {D : Nat → Prop} {w : World} {g : Nat} {t : TypeId} {cs : List Value} {a : α} (hb : Blk w g t cs.toArray) (hD : D g) (hr : r.rep D w a cs) : RowR r D w (some ⟨g, 0, none⟩) 1 [a] := by
 refine ⟨Nat.le_refl _, by unfold maxLen; omega, fun _ => ⟨g, 0, rfl, hD, hb.lt, fun k hk => ?_⟩⟩
 obtain rfl : k = 0 := by simp at hk; omega
 exact ⟨cs, hr, fun j u hu => by rw [show 0 + 0 * r.size + j = j by omega, hb.cell]; simpa using hu⟩
theorem row_two {α : Type} {r : RepT α} {D : Nat → Prop} {w : World} {g : Nat} {t : TypeId} {cs ds : List Value} {a b : α} (hb : Blk w g t (cs ++ ds).toArray) (hD : D g) (hr : r.rep D w a cs) (hr2 : r.rep D w b ds) : RowR r D w (some ⟨g, 0, none⟩) 2 [a, b] := by
 refine ⟨Nat.le_refl _, by unfold maxLen; omega, fun _ => ⟨g, 0, rfl, hD, hb.lt, fun k hk => ?_⟩⟩
 have hl := r.len hr
 rcases k with _ | _ | k
 · exact ⟨cs, hr, fun j u hu => by
    have hj : j < cs.length := (List.getElem?_eq_some_iff.1 hu).1
    rw [show 0 + 0 * r.size + j = j by omega, hb.cell]; simpa [List.getElem?_append_left hj] using hu⟩
 · exact ⟨ds, hr2, fun j u hu => by
    rw [show 0 + (0 + 1) * r.size + j = r.size + j by omega, hb.cell]
    simp [List.getElem?_append_right (show cs.length ≤ r.size + j by omega), hl, hu]⟩
 · simp at hk; omega
set_option maxHeartbeats 1000000 in
theorem wW9_is (t : ByteArray)(w : World) : Calls Tryz.prog 36 #[.string t] w fun e w' => e = .returned (.agg #[.int .i64 3, .string t, .int .i64 0]) ∧ Below w.heap.size w w' := by
 go_enter Tryz.func36, Tryz.ntmps36
 go_wp2_with fail
 exact bodyPost_ret (v := .agg #[.int .i64 3, .string t, .int .i64 0]) (by simp [results, Tryz.results36, go_sem]) rfl ⟨rfl, by (repeat (first | exact Below.refl _ _ | refine Below.drew ?_ | refine Below.al ?_ _ | refine Below.sc ?_ _))⟩
set_option maxHeartbeats 1000000 in
theorem wN9_is (n : Int)(w : World) : Calls Tryz.prog 14 #[.int .i64 n] w fun e w' => e = .returned (.agg #[.int .i64 2, .string ⟨#[]⟩, .int .i64 n]) ∧ Below w.heap.size w w' := by
 go_enter Tryz.func14, Tryz.ntmps14
 go_wp2_with fail
 exact bodyPost_ret (v := .agg #[.int .i64 2, .string ⟨#[]⟩, .int .i64 n]) (by simp [results, Tryz.results14, go_sem]) rfl ⟨rfl, by (repeat (first | exact Below.refl _ _ | refine Below.drew ?_ | refine Below.al ?_ _ | refine Below.sc ?_ _))⟩
set_option maxHeartbeats 1000000 in
theorem wI9_is (t : ByteArray) (n : Int)(w : World) : Calls Tryz.prog 23 #[.string t, .int .i64 n] w fun e w' => e = .returned (.agg #[.int .i64 1, .string t, .int .i64 n]) ∧ Below w.heap.size w w' := by
 go_enter Tryz.func23, Tryz.ntmps23
 go_wp2_with fail
 exact bodyPost_ret (v := .agg #[.int .i64 1, .string t, .int .i64 n]) (by simp [results, Tryz.results23, go_sem]) rfl ⟨rfl, by (repeat (first | exact Below.refl _ _ | refine Below.drew ?_ | refine Below.al ?_ _ | refine Below.sc ?_ _))⟩
set_option maxHeartbeats 1000000 in
theorem wW6_is (t : ByteArray)(w : World) : Calls Tryz.prog 50 #[.string t] w fun e w' => e = .returned (.agg #[.int .i64 3, .string t, .int .i64 0]) ∧ Below w.heap.size w w' := by
 go_enter Tryz.func50, Tryz.ntmps50
 go_wp2_with fail
 exact bodyPost_ret (v := .agg #[.int .i64 3, .string t, .int .i64 0]) (by simp [results, Tryz.results50, go_sem]) rfl ⟨rfl, by (repeat (first | exact Below.refl _ _ | refine Below.drew ?_ | refine Below.al ?_ _ | refine Below.sc ?_ _))⟩
set_option maxHeartbeats 1000000 in
theorem wN6_is (n : Int)(w : World) : Calls Tryz.prog 51 #[.int .i64 n] w fun e w' => e = .returned (.agg #[.int .i64 2, .string ⟨#[]⟩, .int .i64 n]) ∧ Below w.heap.size w w' := by
 go_enter Tryz.func51, Tryz.ntmps51
 go_wp2_with fail
 exact bodyPost_ret (v := .agg #[.int .i64 2, .string ⟨#[]⟩, .int .i64 n]) (by simp [results, Tryz.results51, go_sem]) rfl ⟨rfl, by (repeat (first | exact Below.refl _ _ | refine Below.drew ?_ | refine Below.al ?_ _ | refine Below.sc ?_ _))⟩
def oneCond : CondT := .mk 1 true ⟨#[115]⟩ [⟨1, ⟨#[]⟩, ⟨3, ⟨#[120]⟩, 0⟩, []⟩] [⟨1, ⟨#[]⟩, ⟨2, ⟨#[]⟩, 1⟩, []⟩] false []
def oneAct : ActT := ⟨⟨#[115]⟩, ⟨⟨#[]⟩, ⟨3, ⟨#[121]⟩, 0⟩⟩, ⟨0, ⟨⟨#[]⟩, ⟨2, ⟨#[]⟩, 2⟩⟩, ⟨⟨#[]⟩, ⟨0, ⟨#[]⟩, 0⟩⟩⟩, 1, ⟨⟨#[]⟩, ⟨0, ⟨#[]⟩, 0⟩⟩⟩
set_option maxRecDepth 100000 in
set_option maxHeartbeats 4000000 in
theorem one_is6 (w : World) : Calls Tryz.prog 22 #[] w fun e w' => ∃ Ac Aa, e = .returned (.agg #[.string ⟨#[97]⟩, .slice Ac 1 1, .slice Aa 1 1]) ∧ RowR (repCondT 1) (fun k => w.heap.size ≤ k ∧ k < w'.heap.size) w' Ac 1 [oneCond] ∧
 RowR repActT (fun k => w.heap.size ≤ k ∧ k < w'.heap.size) w' Aa 1 [oneAct] ∧ Below w.heap.size w w' := by
 go_enter Tryz.func22, Tryz.ntmps22
 go_upto_region 1 with fail
 obtain ⟨w1, hw1⟩ : ∃ w1, w1 = (w.alloc (.cells #[.string ⟨#[]⟩, .slice none 0 0, .slice none 0 0] 42)) := ⟨_, rfl⟩
 rw [← hw1]
 have HB := Lib.hid (show Below w.heap.size w w1 by rw [hw1]; exact (by repeat (first | exact Below.refl _ _ | refine Below.drew ?_ | refine Below.al ?_ _ | refine Below.sc ?_ _)))
 have Kr := Lib.hid (show Blk w1 (w.heap.size) 42 #[.string ⟨#[]⟩, .slice none 0 0, .slice none 0 0] by rw [hw1]; exact (Blk.new w 42 #[.string ⟨#[]⟩, .slice none 0 0, .slice none 0 0]))
 clear hw1
 obtain ⟨r0, r1, r2⟩ := Kr.out.c3
 have rf0 := Kr.out.frozen 0
 have rf1 := Kr.out.frozen 1
 have rf2 := Kr.out.frozen 2
 have rz := Kr.out.lt
 go_wp2_with fail
 with_reducible refine (wW6_is ⟨#[120]⟩ _).mono ?_
 rintro e w2 ⟨rfl, hb⟩
 have hbs := Below.trans (show Below w1.heap.size w1 _ from (by (repeat (first | exact Below.refl _ _ | refine Below.drew ?_ | refine Below.al ?_ _ | refine Below.sc ?_ _)))) (hb.mono (by simp <;> omega))
 have Kr := Lib.hid (Kr.out.new_ hbs)
 have HB := Lib.hid (HB.out.trans (hbs.mono HB.out.size))
 have hsz2 := hbs.size
 clear r0 r1 r2 rf0 rf1 rf2 rz hb hbs
 obtain ⟨r0, r1, r2⟩ := Kr.out.c3
 have rf0 := Kr.out.frozen 0
 have rf1 := Kr.out.frozen 1
 have rf2 := Kr.out.frozen 2
 have rz := Kr.out.lt
 have hs0_2 := HB.out.size
 go_wp2_with fail
 with_reducible refine (wN6_is 1 _).mono ?_
 rintro e w3 ⟨rfl, hb⟩
 have hbs := Below.trans (show Below w2.heap.size w2 _ from (by (repeat (first | exact Below.refl _ _ | refine Below.drew ?_ | refine Below.al ?_ _ | refine Below.sc ?_ _)))) (hb.mono (by simp <;> omega))
 have Kr := Lib.hid (Kr.out.new_ hbs)
 have Kt1 := Lib.hid (show Blk w3 (w2.heap.size) 59 #[.int .i64 1, .string ⟨#[]⟩, .int .i64 3, .string ⟨#[120]⟩, .int .i64 0, .slice none 0 0] from (Blk.new _ _ _).new_ hb)
 have HB := Lib.hid (HB.out.trans (hbs.mono HB.out.size))
 have hsz3 := hbs.size
 clear r0 r1 r2 rf0 rf1 rf2 rz hb hbs
 obtain ⟨r0, r1, r2⟩ := Kr.out.c3
 have rf0 := Kr.out.frozen 0
 have rf1 := Kr.out.frozen 1
 have rf2 := Kr.out.frozen 2
 have rz := Kr.out.lt
 obtain ⟨t10, t11, t12, t13, t14, t15⟩ := Kt1.out.c6
 have t1z := Kt1.out.lt
 have hs0_3 := HB.out.size
 go_wp2_with fail
 with_reducible refine (wW6_is ⟨#[121]⟩ _).mono ?_
 rintro e w4 ⟨rfl, hb⟩
 have hbs := Below.trans (show Below w3.heap.size w3 _ from (by (repeat (first | exact Below.refl _ _ | refine Below.drew ?_ | refine Below.al ?_ _ | refine Below.sc ?_ _)))) (hb.mono (by simp <;> omega))
 have Kr := Lib.hid (Kr.out.new_ hbs)
 have Kt1 := Lib.hid (Kt1.out.new_ hbs)
 have Kt2 := Lib.hid (show Blk w4 (w3.heap.size) 59 #[.int .i64 1, .string ⟨#[]⟩, .int .i64 2, .string ⟨#[]⟩, .int .i64 1, .slice none 0 0] from ((Blk.new _ _ _).alloc _).new_ hb)
 have Kc := Lib.hid (show Blk w4 (w3.heap.size + 1) 62 #[.int .i64 1, .bool true, .string ⟨#[115]⟩, .slice (some ⟨w2.heap.size, 0, none⟩) 1 1, .slice (some ⟨w3.heap.size, 0, none⟩) 1 1, .bool false, .slice none 0 0] from ((show Blk ((w3.alloc (.cells #[.int .i64 1, .string ⟨#[]⟩, .int .i64 2, .string ⟨#[]⟩, .int .i64 1, .slice none 0 0] 59)).alloc (.cells #[.int .i64 1, .bool true, .string ⟨#[115]⟩, .slice (some ⟨w2.heap.size, 0, none⟩) 1 1, .slice (some ⟨w3.heap.size, 0, none⟩) 1 1, .bool false, .slice none 0 0] 62)) (w3.heap.size + 1) 62 #[.int .i64 1, .bool true, .string ⟨#[115]⟩, .slice (some ⟨w2.heap.size, 0, none⟩) 1 1, .slice (some ⟨w3.heap.size, 0, none⟩) 1 1, .bool false, .slice none 0 0] by have hh := Blk.new (w3.alloc (.cells #[.int .i64 1, .string ⟨#[]⟩, .int .i64 2, .string ⟨#[]⟩, .int .i64 1, .slice none 0 0] 59)) 62 #[.int .i64 1, .bool true, .string ⟨#[115]⟩, .slice (some ⟨w2.heap.size, 0, none⟩) 1 1, .slice (some ⟨w3.heap.size, 0, none⟩) 1 1, .bool false, .slice none 0 0]; simp only [World.size_alloc] at hh; exact hh)).new_ hb)
 have HB := Lib.hid (HB.out.trans (hbs.mono HB.out.size))
 have hsz4 := hbs.size
 clear r0 r1 r2 rf0 rf1 rf2 rz t10 t11 t12 t13 t14 t15 t1z hb hbs
 obtain ⟨r0, r1, r2⟩ := Kr.out.c3
 have rf0 := Kr.out.frozen 0
 have rf1 := Kr.out.frozen 1
 have rf2 := Kr.out.frozen 2
 have rz := Kr.out.lt
 obtain ⟨t10, t11, t12, t13, t14, t15⟩ := Kt1.out.c6
 have t1z := Kt1.out.lt
 obtain ⟨t20, t21, t22, t23, t24, t25⟩ := Kt2.out.c6
 have t2z := Kt2.out.lt
 obtain ⟨c0, c1, c2, c3, c4, c5, c6⟩ := Kc.out.c7
 have cz := Kc.out.lt
 go_wp2_with fail
 with_reducible refine (wN6_is 2 _).mono ?_
 rintro e w5 ⟨rfl, hb⟩
 have hbs := Below.trans (show Below w4.heap.size w4 _ from (by (repeat (first | exact Below.refl _ _ | refine Below.drew ?_ | refine Below.al ?_ _ | refine Below.sc ?_ _)))) (hb.mono (by simp <;> omega))
 have Kr := Lib.hid (Kr.out.new_ hbs)
 have Kt1 := Lib.hid (Kt1.out.new_ hbs)
 have Kt2 := Lib.hid (Kt2.out.new_ hbs)
 have Kc := Lib.hid (Kc.out.new_ hbs)
 have HB := Lib.hid (HB.out.trans (hbs.mono HB.out.size))
 have hsz5 := hbs.size
 clear r0 r1 r2 rf0 rf1 rf2 rz t10 t11 t12 t13 t14 t15 t1z t20 t21 t22 t23 t24 t25 t2z c0 c1 c2 c3 c4 c5 c6 cz hb hbs
 obtain ⟨r0, r1, r2⟩ := Kr.out.c3
 have rf0 := Kr.out.frozen 0
 have rf1 := Kr.out.frozen 1
 have rf2 := Kr.out.frozen 2
 have rz := Kr.out.lt
 obtain ⟨t10, t11, t12, t13, t14, t15⟩ := Kt1.out.c6
 have t1z := Kt1.out.lt
 obtain ⟨t20, t21, t22, t23, t24, t25⟩ := Kt2.out.c6
 have t2z := Kt2.out.lt
 obtain ⟨c0, c1, c2, c3, c4, c5, c6⟩ := Kc.out.c7
 have cz := Kc.out.lt
 go_wp2_with fail
 obtain ⟨X, hX⟩ : ∃ X, X = ((w5.setCell ⟨w.heap.size, 0, none⟩ (.string ⟨#[97]⟩)).setCell ⟨w.heap.size, 1, none⟩ (.slice (some ⟨w3.heap.size + 1, 0, none⟩) 1 1)).setCell ⟨w.heap.size, 2, none⟩ (.slice (some ⟨w5.heap.size, 0, none⟩) 1 1) := ⟨_, rfl⟩
 rw [← hX]
 have hFX : Fr (· = w.heap.size) w5 X := by rw [hX]; exact (((Fr.refl (· = w.heap.size) w5).setCell (p := ⟨w.heap.size, 0, none⟩) (.inl rfl) _).setCell (p := ⟨w.heap.size, 1, none⟩) (.inl rfl) _).setCell (p := ⟨w.heap.size, 2, none⟩) (.inl rfl) _
 have hsX : X.heap.size = w5.heap.size := by rw [hX]; simp
 have KrX : Blk X w.heap.size 42 #[.string ⟨#[97]⟩, .slice (some ⟨w3.heap.size + 1, 0, none⟩) 1 1, .slice (some ⟨w5.heap.size, 0, none⟩) 1 1] := by
  rw [hX]; simpa using (((Kr.out.set_ 0 (.string ⟨#[97]⟩)).set_ 1 (.slice (some ⟨w3.heap.size + 1, 0, none⟩) 1 1)).set_ 2 (.slice (some ⟨w5.heap.size, 0, none⟩) 1 1))
 obtain ⟨Z, hZ⟩ : ∃ Z, Z = X.alloc (.cells #[.string ⟨#[115]⟩, .string ⟨#[]⟩, .int .i64 3, .string ⟨#[121]⟩, .int .i64 0, .int .i64 0, .string ⟨#[]⟩, .int .i64 2, .string ⟨#[]⟩, .int .i64 2, .string ⟨#[]⟩, .int .i64 0, .string ⟨#[]⟩, .int .i64 0, .int .i64 1, .string ⟨#[]⟩, .int .i64 0, .string ⟨#[]⟩, .int .i64 0] 65) := ⟨_, rfl⟩
 rw [← hZ]
 have hbZX : Below X.heap.size X Z := by rw [hZ]; exact (Below.refl _ _).alloc (Nat.le_refl _) _
 have ga : Blk Z w5.heap.size 65 #[.string ⟨#[115]⟩, .string ⟨#[]⟩, .int .i64 3, .string ⟨#[121]⟩, .int .i64 0, .int .i64 0, .string ⟨#[]⟩, .int .i64 2, .string ⟨#[]⟩, .int .i64 2, .string ⟨#[]⟩, .int .i64 0, .string ⟨#[]⟩, .int .i64 0, .int .i64 1, .string ⟨#[]⟩, .int .i64 0, .string ⟨#[]⟩, .int .i64 0] := by rw [hZ, ← hsX]; exact Blk.new _ _ _
 have KrZ := KrX.new_ hbZX
 have hB := HB.out
 have hzw := hB.size
 have hzX := hbZX.size
 have hlX := ga.lt
 have hbZ : Below w.heap.size w Z := (hB.trans (hFX.below (by omega) (fun k hk hn => by omega))).trans (hbZX.mono (by omega))
 have k1 := Kt1.out.lt
 have k2 := Kt2.out.lt
 have kc := Kc.out.lt
 have gt1 := (Kt1.out.fr hFX (Kt1.out.ne_ Kr.out (by decide))).new_ hbZX
 have gt2 := (Kt2.out.fr hFX (Kt2.out.ne_ Kr.out (by decide))).new_ hbZX
 have gc := (Kc.out.fr hFX (Kc.out.ne_ Kr.out (by decide))).new_ hbZX
 have r0 := (KrZ.cell 0).trans rfl
 have r1 := (KrZ.cell 1).trans rfl
 have r2 := (KrZ.cell 2).trans rfl
 obtain ⟨D, hD⟩ : ∃ D : Nat → Prop, D = fun k => w.heap.size ≤ k ∧ k < Z.heap.size := ⟨_, rfl⟩
 have in_ : ∀ k, w.heap.size ≤ k → k < Z.heap.size → D k := fun k h1 h2 => by rw [hD]; exact ⟨h1, h2⟩
 refine bodyPost_ret (v := .agg #[.string ⟨#[97]⟩, .slice (some ⟨w3.heap.size + 1, 0, none⟩) 1 1, .slice (some ⟨w5.heap.size, 0, none⟩) 1 1]) (by simp [results, Tryz.results22, go_sem, r0, r1, r2]) rfl ?_
 refine ⟨_, _, rfl, ?_, ?_, hbZ⟩
 · rw [← hD]
   refine row_one (cs := [.int .i64 1, .bool true, .string ⟨#[115]⟩, .slice (some ⟨w2.heap.size, 0, none⟩) 1 1, .slice (some ⟨w3.heap.size, 0, none⟩) 1 1, .bool false, .slice none 0 0]) gc (in_ _ (by omega) (by omega)) ?_
   exact ⟨_, _, _, _, none, 0, rfl, row_one (cs := [.int .i64 1, .string ⟨#[]⟩, .int .i64 3, .string ⟨#[120]⟩, .int .i64 0, .slice none 0 0]) gt1 (in_ _ (by omega) (by omega)) ⟨none, 0, rfl, RowR.nil _ _ _⟩, row_one (cs := [.int .i64 1, .string ⟨#[]⟩, .int .i64 2, .string ⟨#[]⟩, .int .i64 1, .slice none 0 0]) gt2 (in_ _ (by omega) (by omega)) ⟨none, 0, rfl, RowR.nil _ _ _⟩, RowR.nil _ _ _⟩
 · rw [← hD]
   exact row_one (cs := [.string ⟨#[115]⟩, .string ⟨#[]⟩, .int .i64 3, .string ⟨#[121]⟩, .int .i64 0, .int .i64 0, .string ⟨#[]⟩, .int .i64 2, .string ⟨#[]⟩, .int .i64 2, .string ⟨#[]⟩, .int .i64 0, .string ⟨#[]⟩, .int .i64 0, .int .i64 1, .string ⟨#[]⟩, .int .i64 0, .string ⟨#[]⟩, .int .i64 0]) ga (in_ _ (by omega) (by omega)) rfl
end Go.Proofs.YtpndmjabjjbefaaGreat
namespace Go.Proofs.YtpndmjabjjbefaaGreat
open Go.RowKit Go.Shelf
attribute [local go_sem] Oper.semAt_some
def wkT : TermT := ⟨1, ⟨⟨#[120]⟩, ⟨0, ⟨#[]⟩, 0⟩⟩, ⟨⟨#[]⟩, ⟨2, ⟨#[]⟩, 1⟩⟩⟩
def wkB : BindT := ⟨⟨#[120]⟩, ⟨2, ⟨#[]⟩, 4⟩⟩
def wkL : BindT := ⟨⟨#[115]⟩, ⟨1, ⟨#[83]⟩, 1⟩⟩
def wkA : ActT := ⟨⟨#[115]⟩, ⟨⟨#[]⟩, ⟨3, ⟨#[97]⟩, 0⟩⟩, ⟨0, ⟨⟨#[111]⟩, ⟨0, ⟨#[]⟩, 0⟩⟩, ⟨⟨#[]⟩, ⟨0, ⟨#[]⟩, 0⟩⟩⟩, 1, ⟨⟨#[]⟩, ⟨0, ⟨#[]⟩, 0⟩⟩⟩
def wkC : ActT := ⟨⟨#[111]⟩, ⟨⟨#[]⟩, ⟨3, ⟨#[98]⟩, 0⟩⟩, ⟨0, ⟨⟨#[]⟩, ⟨2, ⟨#[]⟩, 1⟩⟩, ⟨⟨#[]⟩, ⟨0, ⟨#[]⟩, 0⟩⟩⟩, 1, ⟨⟨#[]⟩, ⟨0, ⟨#[]⟩, 0⟩⟩⟩
def wkP : ProdT := ⟨⟨#[97]⟩, [oneCond], [wkA, wkC]⟩
theorem wk_value : valueV wkT [wkB] = (⟨2, ⟨#[]⟩, 5⟩, true) := by kernel_rfl
theorem condsK_one (n : Nat) (k k2 : Kn) (c : CondT) (at_ : Int) (h : c.kind = 1) (h2 : oneK k c = (true, k2)) : condsK (n + 1) k [c] at_ = (true, at_ + 1, k2) := by
 rw [condsK, if_neg (by omega), if_pos h, h2]
 simp only [if_pos h]
 rw [condsK]
theorem checkP_one {n : Nat} {p : ProdT} {c : CondT} {k2 : Kn} (h0 : (shapeP (n + 1) p).2 = 0) (hc : p.conds = [c]) (hk : c.kind = 1) (h2 : oneK ([], []) c = (true, k2)) (h3 : p.acts.findIdx? (actV k2) = none) : checkP (n + 1) p = (-1, 0, k2.2) := by
 unfold checkP
 rw [if_neg (by rw [h0]; simp), hc, if_neg (by simp [hk]), condsK_one n _ k2 c 0 hk h2]
 simp only [h3]
theorem wk_check : checkP 1 wkP = (-1, 0, [⟨#[115]⟩]) := checkP_one (n := 0) (c := oneCond) (k2 := ([⟨#[115]⟩], [⟨#[115]⟩])) (by kernel_rfl) rfl rfl (by kernel_rfl) (by kernel_rfl)
def wkQ : List PrefT := [⟨⟨1, ⟨#[83]⟩, 1⟩, ⟨3, ⟨#[97]⟩, 0⟩, ⟨1, ⟨#[79]⟩, 1⟩, ⟨0, ⟨#[]⟩, 0⟩, 1, false, 0, 0⟩, ⟨⟨1, ⟨#[79]⟩, 1⟩, ⟨3, ⟨#[98]⟩, 0⟩, ⟨2, ⟨#[]⟩, 1⟩, ⟨0, ⟨#[]⟩, 0⟩, 1, false, 0, 0⟩]
def wkM : List BindT := [wkL, ⟨⟨#[111]⟩, ⟨1, ⟨#[79]⟩, 1⟩⟩]
def wkN : List Sym := (doV 20 [wkL] wkP.acts []).2
theorem wk_do : doR 1 wkP [wkL] 20 [] = ((wkQ, wkM, 0), wkN) := by
 unfold doR
 rw [wk_check, if_neg (by simp)]
 kernel_rfl
def WkTo (D : Nat → Prop) (Y : World) (e : Ending) (W' : World) : Prop := ∃ g c g' c', e = .returned (.tuple #[.slice (some ⟨g, 0, none⟩) 2 c, .slice (some ⟨g', 0, none⟩) 2 c', .int .i64 0]) ∧ g < W'.heap.size ∧ (2 ≤ c ∧ c ≤ maxLen ∧ 2 ≤ c' ∧ c' ≤ maxLen) ∧
    (W'.cell? ⟨g, 6, none⟩ = some (.int .i64 1) ∧ W'.cell? ⟨g, 7, none⟩ = some (.string ⟨#[79]⟩) ∧ W'.cell? ⟨g, 8, none⟩ = some (.int .i64 1)) ∧
    (W'.cell? ⟨g, 16, none⟩ = some (.int .i64 1) ∧ W'.cell? ⟨g, 17, none⟩ = some (.string ⟨#[79]⟩) ∧ W'.cell? ⟨g, 18, none⟩ = some (.int .i64 1)) ∧ Fr (fun j => ¬ D j) Y W'
theorem wkTo_of {D : Nat → Prop} {Y W' : World} {T : TB} {e : Ending} (h : DoTo D Y T ((wkQ, wkM, 0), wkN) e W') : WkTo D Y e W' := by
 obtain ⟨A, c, A', c', D', rfl, hq, hm, _, _, _, _, hF⟩ := h
 rcases ownsRow_form hq with ⟨_, h0, _⟩ | ⟨g, cap, hv, g1, g2, hr, _, hc⟩
 · cases h0
 rcases ownsRow_form hm with ⟨_, h0, _⟩ | ⟨g', cap', hv', g1', g2', _, _, _⟩
 · cases h0
 injection hv with v1 _ v3
 injection hv' with u1 _ u3
 subst v1; subst v3; subst u1; subst u3
 exact ⟨g, c, g', c', rfl, hr.lt, ⟨g1, g2, g1', g2'⟩, ⟨hc 6 _ rfl, hc 7 _ rfl, hc 8 _ rfl⟩, ⟨hc 16 _ rfl, hc 17 _ rfl, hc 18 _ rfl⟩, hF⟩
set_option maxRecDepth 100000 in
set_option maxHeartbeats 8000000 in
theorem wakes15_is (w : World) : Calls Tryz.prog 10 #[] w fun e w' => e = .returned (.bool true) ∧ Below w.heap.size w w' := by
 have HB := Lib.hid (Below.refl w.heap.size w)
 go_enter Tryz.func10, Tryz.ntmps10
 go_wp2_with fail
 with_reducible refine (wN9_is 1 _).mono ?_
 rintro e w2 ⟨rfl, hb⟩
 have hbs := Below.trans (show Below w.heap.size w _ from (by (repeat (first | exact Below.refl _ _ | refine Below.drew ?_ | refine Below.al ?_ _ | refine Below.sc ?_ _)))) (hb.mono (by simp <;> omega))
 have HB := Lib.hid (HB.out.trans (hbs.mono HB.out.size))
 have hsz2 := hbs.size
 clear  hb hbs
 go_wp2_with fail
 with_reducible refine (wN9_is 4 _).mono ?_
 rintro e w3 ⟨rfl, hb⟩
 have hbs := Below.trans (show Below w2.heap.size w2 _ from (by (repeat (first | exact Below.refl _ _ | refine Below.drew ?_ | refine Below.al ?_ _ | refine Below.sc ?_ _)))) (hb.mono (by simp <;> omega))
 have HB := Lib.hid (HB.out.trans (hbs.mono HB.out.size))
 have hsz3 := hbs.size
 clear  hb hbs
 have HV := Lib.hid (show ∀ (Y : World) (A : Option Addr), RowR repBindT (fun _ => True) Y A 1 [wkB] → Calls Tryz.prog 11 #[.agg #[.int .i64 1, .string ⟨#[120]⟩, .int .i64 0, .string ⟨#[]⟩, .int .i64 0, .string ⟨#[]⟩, .int .i64 2, .string ⟨#[]⟩, .int .i64 1], .slice A 1 1] Y (SymTo Y (⟨2, ⟨#[]⟩, 5⟩, true)) from fun Y A h => by have := value_is wkT [wkB] Y h; rw [wk_value] at this; exact this)
 go_wp2_with fail
 have hrb := row_one (r := repBindT) (D := fun _ => True) (a := wkB) (cs := [.string ⟨#[120]⟩, .int .i64 2, .string ⟨#[]⟩, .int .i64 4]) (Blk.new w3 36 #[.string ⟨#[120]⟩, .int .i64 2, .string ⟨#[]⟩, .int .i64 4]) trivial rfl
 with_reducible refine (HV.out _ _ hrb).mono ?_
 rintro e w4 ⟨rfl, hb⟩
 have hbs := Below.trans (show Below w3.heap.size w3 _ from (by (repeat (first | exact Below.refl _ _ | refine Below.drew ?_ | refine Below.al ?_ _ | refine Below.sc ?_ _)))) (hb.mono (by simp <;> omega))
 have HB := Lib.hid (HB.out.trans (hbs.mono HB.out.size))
 have hsz4 := hbs.size
 clear  hb hbs
 go_wp2_with fail
 with_reducible refine (one_is6 _).mono ?_
 rintro e w5 ⟨Ac, Aa, rfl, hrc, _, hb⟩
 have hbs := Below.trans (show Below w4.heap.size w4 _ from (by (repeat (first | exact Below.refl _ _ | refine Below.drew ?_ | refine Below.al ?_ _ | refine Below.sc ?_ _)))) (hb.mono (by simp <;> omega))
 have Kv := Lib.hid (show Blk w5 (w4.heap.size) 23 #[.int .i64 2, .string ⟨#[]⟩, .int .i64 5] from (Blk.new _ _ _).new_ hb)
 have HB := Lib.hid (HB.out.trans (hbs.mono HB.out.size))
 have hsz5 := hbs.size
 clear  hb hbs
 obtain ⟨v0, v1, v2⟩ := Kv.out.c3
 have vz := Kv.out.lt
 have HRC := Lib.hid (hrc.weaken (D' := fun _ => True) (fun _ _ => trivial))
 have hrcd := hrc
 clear hrc
 have hs0 := HB.out.size
 have HRD := Lib.hid (show RowR (repCondT 1) (· < w5.heap.size) w5 Ac 1 [oneCond] from hrcd.weaken (fun k hk => hk.2))
 clear hrcd
 go_wp2_with fail
 with_reducible refine (wW9_is ⟨#[97]⟩ _).mono ?_
 rintro e w6 ⟨rfl, hb⟩
 have hbs := Below.trans (show Below w5.heap.size w5 _ from (by (repeat (first | exact Below.refl _ _ | refine Below.drew ?_ | refine Below.al ?_ _ | refine Below.sc ?_ _)))) (hb.mono (by simp <;> omega))
 have Kv := Lib.hid (Kv.out.new_ hbs)
 have HRD := Lib.hid (HRD.out.new_ hbs)
 have Kp := Lib.hid (show Blk w6 (w5.heap.size) 42 #[.string ⟨#[97]⟩, .slice Ac 1 1, .slice Aa 1 1] from (Blk.new _ _ _).new_ hb)
 have HB := Lib.hid (HB.out.trans (hbs.mono HB.out.size))
 have hsz6 := hbs.size
 clear v0 v1 v2 vz hb hbs
 obtain ⟨v0, v1, v2⟩ := Kv.out.c3
 have vz := Kv.out.lt
 obtain ⟨p0, p1, p2⟩ := Kp.out.c3
 have pf0 := Kp.out.frozen 0
 have pf1 := Kp.out.frozen 1
 have pf2 := Kp.out.frozen 2
 have pz := Kp.out.lt
 go_wp2_with fail
 with_reducible refine (wW9_is ⟨#[98]⟩ _).mono ?_
 rintro e w7 ⟨rfl, hb⟩
 have hbs := Below.trans (show Below w6.heap.size w6 _ from (by (repeat (first | exact Below.refl _ _ | refine Below.drew ?_ | refine Below.al ?_ _ | refine Below.sc ?_ _)))) (hb.mono (by simp <;> omega))
 have Kv := Lib.hid (Kv.out.new_ hbs)
 have Kp := Lib.hid (Kp.out.new_ hbs)
 have HRD := Lib.hid (HRD.out.new_ hbs)
 have HB := Lib.hid (HB.out.trans (hbs.mono HB.out.size))
 have hsz7 := hbs.size
 clear v0 v1 v2 vz p0 p1 p2 pf0 pf1 pf2 pz hb hbs
 obtain ⟨v0, v1, v2⟩ := Kv.out.c3
 have vz := Kv.out.lt
 obtain ⟨p0, p1, p2⟩ := Kp.out.c3
 have pf0 := Kp.out.frozen 0
 have pf1 := Kp.out.frozen 1
 have pf2 := Kp.out.frozen 2
 have pz := Kp.out.lt
 go_wp2_with fail
 with_reducible refine (wN9_is 1 _).mono ?_
 rintro e w8 ⟨rfl, hb⟩
 have hbs := Below.trans (show Below w7.heap.size w7 _ from (by (repeat (first | exact Below.refl _ _ | refine Below.drew ?_ | refine Below.al ?_ _ | refine Below.sc ?_ _)))) (hb.mono (by simp <;> omega))
 have Kv := Lib.hid (Kv.out.new_ hbs)
 have Kp := Lib.hid (Kp.out.new_ hbs)
 have HRD := Lib.hid (HRD.out.new_ hbs)
 have HB := Lib.hid (HB.out.trans (hbs.mono HB.out.size))
 have hsz8 := hbs.size
 clear v0 v1 v2 vz p0 p1 p2 pf0 pf1 pf2 pz hb hbs
 obtain ⟨v0, v1, v2⟩ := Kv.out.c3
 have vz := Kv.out.lt
 obtain ⟨p0, p1, p2⟩ := Kp.out.c3
 have pf0 := Kp.out.frozen 0
 have pf1 := Kp.out.frozen 1
 have pf2 := Kp.out.frozen 2
 have pz := Kp.out.lt
 go_wp2_with fail
 obtain ⟨X, hX⟩ : ∃ X, X = w8.setCell ⟨w5.heap.size, 2, none⟩ (.slice (some ⟨w8.heap.size, 0, none⟩) 2 2) := ⟨_, rfl⟩
 rw [← hX]
 have hFX : Fr (· = w5.heap.size) w8 X := by rw [hX]; exact (Fr.refl (· = w5.heap.size) w8).setCell (p := ⟨w5.heap.size, 2, none⟩) (.inl rfl) _
 have hsX : X.heap.size = w8.heap.size := by rw [hX]; simp
 have KpX : Blk X w5.heap.size 42 #[.string ⟨#[97]⟩, .slice Ac 1 1, .slice (some ⟨w8.heap.size, 0, none⟩) 2 2] := by rw [hX]; simpa using (Kp.out.set_ 2 (.slice (some ⟨w8.heap.size, 0, none⟩) 2 2))
 have KvX := Kv.out.fr hFX (Kv.out.ne_ Kp.out (by decide))
 obtain ⟨Z, hZ⟩ : ∃ Z, Z = X.alloc (.cells #[.string ⟨#[115]⟩, .string ⟨#[]⟩, .int .i64 3, .string ⟨#[97]⟩, .int .i64 0, .int .i64 0, .string ⟨#[111]⟩, .int .i64 0, .string ⟨#[]⟩, .int .i64 0, .string ⟨#[]⟩, .int .i64 0, .string ⟨#[]⟩, .int .i64 0, .int .i64 1, .string ⟨#[]⟩, .int .i64 0, .string ⟨#[]⟩, .int .i64 0, .string ⟨#[111]⟩, .string ⟨#[]⟩, .int .i64 3, .string ⟨#[98]⟩, .int .i64 0, .int .i64 0, .string ⟨#[]⟩, .int .i64 2, .string ⟨#[]⟩, .int .i64 1, .string ⟨#[]⟩, .int .i64 0, .string ⟨#[]⟩, .int .i64 0, .int .i64 1, .string ⟨#[]⟩, .int .i64 0, .string ⟨#[]⟩, .int .i64 0] 65) := ⟨_, rfl⟩
 rw [← hZ]
 have hbZX : Below X.heap.size X Z := by rw [hZ]; exact (Below.refl _ _).alloc (Nat.le_refl _) _
 have ga : Blk Z w8.heap.size 65 #[.string ⟨#[115]⟩, .string ⟨#[]⟩, .int .i64 3, .string ⟨#[97]⟩, .int .i64 0, .int .i64 0, .string ⟨#[111]⟩, .int .i64 0, .string ⟨#[]⟩, .int .i64 0, .string ⟨#[]⟩, .int .i64 0, .string ⟨#[]⟩, .int .i64 0, .int .i64 1, .string ⟨#[]⟩, .int .i64 0, .string ⟨#[]⟩, .int .i64 0, .string ⟨#[111]⟩, .string ⟨#[]⟩, .int .i64 3, .string ⟨#[98]⟩, .int .i64 0, .int .i64 0, .string ⟨#[]⟩, .int .i64 2, .string ⟨#[]⟩, .int .i64 1, .string ⟨#[]⟩, .int .i64 0, .string ⟨#[]⟩, .int .i64 0, .int .i64 1, .string ⟨#[]⟩, .int .i64 0, .string ⟨#[]⟩, .int .i64 0] := by rw [hZ, ← hsX]; exact Blk.new _ _ _
 have hzw := HB.out.size
 have hpw : w.heap.size ≤ w5.heap.size := hs0
 have HBZ := Lib.hid ((HB.out.trans (hFX.below hzw (fun k hk hn => by omega))).trans (hbZX.mono (by omega)))
 have hzX := hbZX.size
 have hlX := ga.lt
 have HRA := Lib.hid (show RowR repActT (· < Z.heap.size) Z (some ⟨w8.heap.size, 0, none⟩) 2 [wkA, wkC] from row_two (cs := [.string ⟨#[115]⟩, .string ⟨#[]⟩, .int .i64 3, .string ⟨#[97]⟩, .int .i64 0, .int .i64 0, .string ⟨#[111]⟩, .int .i64 0, .string ⟨#[]⟩, .int .i64 0, .string ⟨#[]⟩, .int .i64 0, .string ⟨#[]⟩, .int .i64 0, .int .i64 1, .string ⟨#[]⟩, .int .i64 0, .string ⟨#[]⟩, .int .i64 0]) (ds := [.string ⟨#[111]⟩, .string ⟨#[]⟩, .int .i64 3, .string ⟨#[98]⟩, .int .i64 0, .int .i64 0, .string ⟨#[]⟩, .int .i64 2, .string ⟨#[]⟩, .int .i64 1, .string ⟨#[]⟩, .int .i64 0, .string ⟨#[]⟩, .int .i64 0, .int .i64 1, .string ⟨#[]⟩, .int .i64 0, .string ⟨#[]⟩, .int .i64 0]) ga hlX rfl rfl)
 have hpz := KpX.lt
 have HRC := Lib.hid (show RowR (repCondT 1) (· < Z.heap.size) Z Ac 1 [oneCond] from ((HRD.out.fr hFX (fun k hk hn => by omega)).new_ hbZX).weaken (fun k hk => by omega))
 have Kp := Lib.hid (KpX.new_ hbZX)
 have Kv := Lib.hid (KvX.new_ hbZX)
 have ps8 : w5.heap.size < Z.heap.size := by omega
 have HBZ0 := Lib.hid (show w.heap.size ≤ Z.heap.size by omega)
 clear hX hFX hZ hbZX KpX KvX ga HB
 have HB := Lib.hid HBZ.out
 clear HBZ
 clear v0 v1 v2 vz p0 p1 p2 pf0 pf1 pf2 pz HRD
 obtain ⟨v0, v1, v2⟩ := Kv.out.c3
 have vz := Kv.out.lt
 obtain ⟨p0, p1, p2⟩ := Kp.out.c3
 have pz := Kp.out.lt
 with_reducible refine (gt_new 20 Z (by decide) (by decide)).mono ?_
 rintro e w21 ⟨T, rfl, hroom, hgt, hb⟩
 have hbs := Below.trans (show Below Z.heap.size Z _ from (by (repeat (first | exact Below.refl _ _ | refine Below.drew ?_ | refine Below.al ?_ _ | refine Below.sc ?_ _)))) (hb.mono (by simp <;> omega))
 have Kv := Lib.hid (Kv.out.new_ hbs)
 have Kp := Lib.hid (Kp.out.new_ hbs)
 have HRC := Lib.hid (HRC.out.new_ hbs)
 have HRA := Lib.hid (HRA.out.new_ hbs)
 have HB := Lib.hid (HB.out.trans (hbs.mono HB.out.size))
 have hsz21 := hbs.size
 clear v0 v1 v2 vz p0 p1 p2 pz hb hbs
 obtain ⟨v0, v1, v2⟩ := Kv.out.c3
 have vz := Kv.out.lt
 obtain ⟨p0, p1, p2⟩ := Kp.out.c3
 have pz := Kp.out.lt
 have HT := Lib.hid hgt
 have HROOM := Lib.hid hroom
 clear hgt hroom
 go_upto_region 7 with fail
 have HDO := Lib.hid (show ∀ (D : Nat → Prop) (Y : World) (Al : Option Addr), GT D Y T [] → RowR (repCondT 1) D Y Ac 1 [oneCond] → RowR repActT D Y (some ⟨w8.heap.size, 0, none⟩) 2 [wkA, wkC] → RowR repBindT D Y Al 1 [wkL] →
  Calls Tryz.prog 25 #[.agg #[.string ⟨#[97]⟩, .slice Ac 1 1, .slice (some ⟨w8.heap.size, 0, none⟩) 2 2], .slice Al 1 1, .pointer (some ⟨T.b, 0, none⟩)] Y (WkTo D Y) from fun D Y Al g1 g2 g3 g4 => by
  have := do_is (D := D) 1 wkP [wkL] Ac (some ⟨w8.heap.size, 0, none⟩) Al 1 2 1 Y T [] g1 g2 g3 g4 (by decide) (by decide) (by decide)
  rw [HROOM.out, wk_do] at this
  exact this.mono (fun _ _ h => wkTo_of h))
 refine wp_region_E (fun w9 => Below w21.heap.size w21 w9) [(0, 1), (4, 0), (1, 2), (2, 0), (3, 2), (5, 2), (6, 0), (7, 0), (8, 0), (9, 0), (10, 0), (11, 0), (12, 0)] (by kernel_rfl) (by kernel_rfl) (fun KK hKK => ?_)
 simp only [beside, List.filterMap_cons, List.filterMap_nil, List.getElem?_toArray, List.getElem?_cons_zero, List.getElem?_cons_succ, Option.map_some]
 repeat ((first | (refine wpX_w ?_ (Or.inl ⟨by rfl, fun w9 => ?_⟩) ?_; rotate_left 1; go_simp; with_reducible rfl) | (refine wpX_l ?_ ((Below.refl _ _).drew) (Or.inl ⟨by rfl, fun w9 hw9 => ?_⟩) ?_; rotate_left 1; have q0 := (hw9.cell (p := ⟨w5.heap.size, 0, none⟩) pz).trans p0; have q1 := (hw9.cell (p := ⟨w5.heap.size, 1, none⟩) pz).trans p1; have q2 := (hw9.cell (p := ⟨w5.heap.size, 2, none⟩) pz).trans p2; go_simp; with_reducible rfl) | refine wpX_w undef (Or.inr ⟨by rfl, rfl⟩) ?_ | refine wpX_l undef ((Below.refl _ _).drew) (Or.inr ⟨by rfl, rfl⟩) ?_); go_frame)
 refine wpX_es (fun K9 hK9 => ?_)
 go_simp
 refine (wI9_is _ _ _).mono ?_
 rintro e w22 ⟨rfl, hb22⟩
 have HB22 := Lib.hid ((Below.refl w21.heap.size w21).drew.trans (hb22.mono (by simp)))
 clear hb22
 refine hK9 _ _ HB22.out ?_
 clear hK9 K9
 repeat ((first | (refine wpX_w ?_ (Or.inl ⟨by rfl, fun w9 => ?_⟩) ?_; rotate_left 1; go_simp; with_reducible rfl) | (refine wpX_l ?_ (HB22.out) (Or.inl ⟨by rfl, fun w9 hw9 => ?_⟩) ?_; rotate_left 1; have q0 := (hw9.cell (p := ⟨w5.heap.size, 0, none⟩) pz).trans p0; have q1 := (hw9.cell (p := ⟨w5.heap.size, 1, none⟩) pz).trans p1; have q2 := (hw9.cell (p := ⟨w5.heap.size, 2, none⟩) pz).trans p2; go_simp; with_reducible rfl) | refine wpX_w undef (Or.inr ⟨by rfl, rfl⟩) ?_ | refine wpX_l undef (HB22.out) (Or.inr ⟨by rfl, rfl⟩) ?_); go_frame)
 refine wpX_es (fun K9 hK9 => ?_)
 go_simp
 have HB23 := Lib.hid (show Below w21.heap.size w21 (w22.alloc (.cells #[.string ⟨#[115]⟩, .int .i64 1, .string ⟨#[83]⟩, .int .i64 1] 36)) from HB22.out.alloc HB22.out.size _)
 refine hK9 _ _ HB23.out ?_
 clear hK9 K9
 refine wpX_e (by kernel_rfl) (fun K9 hK9 => ?_)
 go_simp
 have HPL := Lib.hid (HT.out.plus HB23.out)
 have hb22 : Below w22.heap.size w22 (w22.alloc (.cells #[.string ⟨#[115]⟩, .int .i64 1, .string ⟨#[83]⟩, .int .i64 1] 36)) := (Below.refl _ _).alloc (Nat.le_refl _) _
 refine (HDO.out (Plus (· < Z.heap.size) w21 (w22.alloc (.cells #[.string ⟨#[115]⟩, .int .i64 1, .string ⟨#[83]⟩, .int .i64 1] 36))) (w22.alloc (.cells #[.string ⟨#[115]⟩, .int .i64 1, .string ⟨#[83]⟩, .int .i64 1] 36)) (some ⟨w22.heap.size, 0, none⟩) HPL.out ((HRC.out.new_ HB23.out).weaken (fun k hk => .inl hk)) ((HRA.out.new_ HB23.out).weaken (fun k hk => .inl hk)) (row_one (cs := [.string ⟨#[115]⟩, .int .i64 1, .string ⟨#[83]⟩, .int .i64 1]) (Blk.new _ _ _) (.inr ⟨HB22.out.size, by simp⟩) rfl)).mono ?_
 rintro e w24 ⟨g, c, g', c', rfl, hgl, ⟨hc1, hc2, hc3, hc4⟩, ⟨g6, g7, g8⟩, ⟨g16, g17, g18⟩, hF⟩
 have HB24 := Lib.hid (show Below w.heap.size w w24 from (HB.out.trans (HB23.out.mono HB.out.size)).trans (hF.below (by have := HB23.out.size; have := HB.out.size; omega) (fun k hk hn => hn (.inl (by have := HBZ0.out; omega)))))
 clear hF hb22
 refine hK9 _ _ ?_
 clear hK9 K9
 repeat ((first | (refine wpX_w ?_ (Or.inl ⟨by rfl, fun w9 => ?_⟩) ?_; rotate_left 1; go_simp; with_reducible rfl) | (refine wpX_l ?_ (HB23.out) (Or.inl ⟨by rfl, fun w9 hw9 => ?_⟩) ?_; rotate_left 1; have q0 := (hw9.cell (p := ⟨w5.heap.size, 0, none⟩) pz).trans p0; have q1 := (hw9.cell (p := ⟨w5.heap.size, 1, none⟩) pz).trans p1; have q2 := (hw9.cell (p := ⟨w5.heap.size, 2, none⟩) pz).trans p2; go_simp; with_reducible rfl) | refine wpX_w undef (Or.inr ⟨by rfl, rfl⟩) ?_ | refine wpX_l undef (HB23.out) (Or.inr ⟨by rfl, rfl⟩) ?_); go_frame)
 refine wpX_nil ?_
 simp only [OnlyN_normal]
 refine hKK _ _ ?_
 clear hKK KK
 go_upto_region 8 with fail
 refine wp_region_E (fun w9 => Below w24.heap.size w24 w9) [(0, 0), (1, 0), (2, 0), (3, 0), (4, 0), (5, 0), (6, 0), (7, 0), (8, 0), (9, 0), (10, 0), (11, 0), (12, 0), (13, 0), (14, 0), (15, 0), (16, 1), (17, 2), (18, 0), (19, 0), (20, 0), (21, 0), (22, 0), (23, 0), (24, 1), (25, 0), (26, 0), (27, 0), (28, 1), (29, 0), (30, 0), (31, 0)] (by kernel_rfl) (by kernel_rfl) (fun KK hKK => ?_)
 simp only [beside, List.filterMap_cons, List.filterMap_nil, List.getElem?_toArray, List.getElem?_cons_zero, List.getElem?_cons_succ, Option.map_some]
 repeat ((first | (refine wpX_w ?_ (Or.inl ⟨by rfl, fun w9 => ?_⟩) ?_; rotate_left 1; go_simp; with_reducible rfl) | (refine wpX_l ?_ ((Below.refl _ _).drew) (Or.inl ⟨by rfl, fun w9 hw9 => ?_⟩) ?_; rotate_left 1; have q6 := (hw9.cell (p := ⟨g, 6, none⟩) hgl).trans g6; have q7 := (hw9.cell (p := ⟨g, 7, none⟩) hgl).trans g7; have q8 := (hw9.cell (p := ⟨g, 8, none⟩) hgl).trans g8; have q16 := (hw9.cell (p := ⟨g, 16, none⟩) hgl).trans g16; have q17 := (hw9.cell (p := ⟨g, 17, none⟩) hgl).trans g17; have q18 := (hw9.cell (p := ⟨g, 18, none⟩) hgl).trans g18; go_simp; with_reducible rfl) | refine wpX_w undef (Or.inr ⟨by rfl, rfl⟩) ?_ | refine wpX_l undef ((Below.refl _ _).drew) (Or.inr ⟨by rfl, rfl⟩) ?_); go_frame)
 refine wpX_es (fun K9 hK9 => ?_)
 go_simp
 refine (wI9_is _ _ _).mono ?_
 rintro e w25 ⟨rfl, hb25⟩
 have HB25 := Lib.hid ((Below.refl w24.heap.size w24).drew.trans (hb25.mono (by simp)))
 clear hb25
 refine hK9 _ _ HB25.out ?_
 clear hK9 K9
 repeat ((first | (refine wpX_w ?_ (Or.inl ⟨by rfl, fun w9 => ?_⟩) ?_; rotate_left 1; go_simp; with_reducible rfl) | (refine wpX_l ?_ (HB25.out) (Or.inl ⟨by rfl, fun w9 hw9 => ?_⟩) ?_; rotate_left 1; have q6 := (hw9.cell (p := ⟨g, 6, none⟩) hgl).trans g6; have q7 := (hw9.cell (p := ⟨g, 7, none⟩) hgl).trans g7; have q8 := (hw9.cell (p := ⟨g, 8, none⟩) hgl).trans g8; have q16 := (hw9.cell (p := ⟨g, 16, none⟩) hgl).trans g16; have q17 := (hw9.cell (p := ⟨g, 17, none⟩) hgl).trans g17; have q18 := (hw9.cell (p := ⟨g, 18, none⟩) hgl).trans g18; go_simp; with_reducible rfl) | refine wpX_w undef (Or.inr ⟨by rfl, rfl⟩) ?_ | refine wpX_l undef (HB25.out) (Or.inr ⟨by rfl, rfl⟩) ?_); go_frame)
 refine wpX_nil ?_
 simp only [OnlyN_normal]
 refine hKK _ _ ?_
 clear hKK KK
 go_wp2_with fail
 go_ret
 exact ⟨rfl, HB24.out.trans (HB25.out.mono HB24.out.size)⟩
end Go.Proofs.YtpndmjabjjbefaaGreat
namespace Go.Proofs.YtpndmjabjjbefaaGreat
open Go.RowKit Go.Shelf
def bindB (b : BindT) : Bool := decide (b.var.size ≤ 100) && decide (b.sym.text.size ≤ 100)
def bindsB (l : List BindT) : Bool := decide (l.length ≤ 40) && l.all bindB
set_option maxRecDepth 100000 in
set_option maxHeartbeats 2000000 in
theorem binds_is {D : Nat → Prop} {A : Option Addr} {c : Nat} (l : List BindT) (w : World) (h : RowR repBindT D w A c l) : Calls Tryz.prog 9 #[.slice A l.length c] w fun e w' => e = .returned (.bool (bindsB l)) ∧ w = w' := by
 have H := Lib.hid h
 have hlc := h.cap
 clear h
 go_enter Tryz.func9, Tryz.ntmps9
 by_cases h40 : l.length ≤ 40
 · have t1 : decide ((40 : Int) < (l.length : Int)) = false := by simp; omega
   have H40 := Lib.hid h40
   clear h40
   go_wp2_with fail
   go_loopw [3] (fun s wr => ∃ i : Nat, s = .int .i64 i ∧ i ≤ l.length ∧ (∀ k, (h : k < l.length) → k < i → bindB l[k] = true) ∧ wr = w) (fun s wr => l.length - (intOf s).toNat)
   case atStart => exact ⟨0, rfl, Nat.zero_le _, fun k _ h => absurd h (by omega), rfl⟩
   case round =>
    obtain ⟨i, rfl, hi, hall, rfl⟩ := hrel
    have HALL := Lib.hid hall
    clear hall t1
    by_cases hlt : i < l.length
    · obtain ⟨x, hx⟩ : ∃ x, x = l[i] := ⟨_, rfl⟩
      obtain ⟨g, off, rfl, _, hgs, q0, q1, q2, q3⟩ := at_BindT H.out hlt
      rw [← hx] at q0 q1 q2 q3
      have b1 : (0 : Int) ≤ (i : Int) := by omega
      have b2 : (i : Int) < (l.length : Int) := by omega
      have HX := Lib.hid hx
      clear hx
      have hno : bindB x = false → bindsB l = false := fun h => by
       unfold bindsB
       have : l.all bindB = false := by
        rw [List.all_eq_false]
        exact ⟨x, by rw [HX.out]; exact List.getElem_mem hlt, by simp [h]⟩
       rw [this, Bool.and_false]
      have HNO := Lib.hid hno
      clear hno
      by_cases h1 : x.var.size ≤ 100
      · by_cases h2 : x.sym.text.size ≤ 100
        · have t1 : decide ((100 : Int) < (x.var.size : Int)) = false := by simp; omega
          have t2 : decide ((100 : Int) < (x.sym.text.size : Int)) = false := by simp; omega
          have HBX := Lib.hid (show bindB x = true by simp [bindB, h1, h2])
          clear h1 h2
          go_wp2_with fail
          go_roundw
          case rel =>
           refine ⟨i + 1, by go_num, by omega, fun k h hk => ?_, by trivial⟩
           rcases Nat.lt_or_ge k i with h3 | h3
           · exact HALL.out k h h3
           · obtain rfl : k = i := by omega
             rw [← HX.out]
             exact HBX.out
          case measure => simp [intOf] <;> omega
        · have t1 : decide ((100 : Int) < (x.var.size : Int)) = false := by simp; omega
          have t2 : decide ((100 : Int) < (x.sym.text.size : Int)) = true := by simp; omega
          have HBX := Lib.hid (show bindB x = false by simp [bindB, h2])
          clear h1 h2
          go_wp2_with fail
          go_ret
          exact ⟨by rw [HNO.out HBX.out]; rfl, rfl⟩
      · have t1 : decide ((100 : Int) < (x.var.size : Int)) = true := by simp; omega
        have HBX := Lib.hid (show bindB x = false by simp [bindB, h1])
        clear h1
        go_wp2_with fail
        go_ret
        exact ⟨by rw [HNO.out HBX.out]; rfl, rfl⟩
    · have hie : i = l.length := by omega
      subst hie
      go_wp2_with fail
      go_ret
      refine ⟨?_, rfl⟩
      have : bindsB l = true := by
       have h1 : l.all bindB = true := by
        rw [List.all_eq_true]
        intro x hx
        obtain ⟨k, hk, rfl⟩ := List.getElem_of_mem hx
        exact HALL.out k hk hk
       simp [bindsB, H40.out, h1]
      rw [this]; rfl
 · have t1 : decide ((40 : Int) < (l.length : Int)) = true := by simp; omega
   have HR := Lib.hid (show bindsB l = false by simp [bindsB, h40])
   clear h40
   go_wp2_with fail
   go_ret
   exact ⟨by rw [HR.out]; rfl, rfl⟩
end Go.Proofs.YtpndmjabjjbefaaGreat
namespace Go.Proofs.YtpndmjabjjbefaaGreat
open Go.RowKit
attribute [local go_sem] eql_sym neq_sym
theorem has_take {l : List Sym} {x : Sym} {i : Nat} (h : i < l.length) : has cmpSym (l.take (i + 1)) x = (has cmpSym (l.take i) x || decide (l[i] = x)) := by
 rw [List.take_add_one, List.getElem?_eq_getElem h]
 simp only [has, Option.toList_some, List.any_append, List.any_cons, List.any_nil, Bool.or_false]
 congr 1
 rw [Bool.eq_iff_iff]
 simp [cmpSym_eq]
set_option maxRecDepth 100000 in
set_option maxHeartbeats 2000000 in
theorem has_is (A : Option Addr) (c : Nat) (l : List Sym) (x : Sym) (w : World) (hrd : RowRd w 3 Sym.cells A c l) :
 Calls Tryz.prog 34 #[.slice A l.length c, .agg #[.int .i64 x.kind, .string x.text, .int .i64 x.n]] w fun e w' => e = .returned (.bool (has cmpSym l x)) ∧ Below w.heap.size w w' := by
 have HRD := Lib.hid hrd
 have hlc := hrd.cap
 clear hrd
 go_enter Tryz.func34, Tryz.ntmps34
 go_wp2_with fail
 obtain ⟨W0, hW0⟩ : ∃ W0, W0 = w.alloc (Obj.cells #[Value.int IntKind.i64 x.kind, Value.string x.text, Value.int IntKind.i64 x.n] 23) := ⟨_, rfl⟩
 have hB0 : Below w.heap.size w W0 := by rw [hW0]; exact (Below.refl _ _).alloc (Nat.le_refl _) _
 have hX0 : Blk W0 w.heap.size 23 #[.int .i64 x.kind, .string x.text, .int .i64 x.n] := by rw [hW0]; exact Blk.new _ _ _
 rw [← hW0]
 clear hW0
 have HB0 := Lib.hid hB0
 have HX0 := Lib.hid hX0
 clear hB0 hX0
 go_loopw [5] (fun s wr => ∃ i : Nat, s = .int .i64 i ∧ has cmpSym (l.take i) x = false ∧ i ≤ l.length ∧ Below W0.heap.size W0 wr) (fun s wr => l.length - (intOf s).toNat)
 case atStart => exact ⟨0, rfl, by simp [has], Nat.zero_le _, Below.refl _ _⟩
 case round =>
  obtain ⟨i, rfl, hk, hi, hB⟩ := hrel
  have HK := Lib.hid hk
  clear hk
  by_cases hlt : i < l.length
  · have hBw : Below w.heap.size w wr := HB0.out.trans (hB.mono HB0.out.size)
    obtain ⟨y, hy⟩ : ∃ y, y = l[i] := ⟨_, rfl⟩
    obtain ⟨g, off, rfl, hg, q0, q1, q2⟩ := sym_at (HRD.out.new_ hBw) hlt
    rw [← hy] at q0 q1 q2
    have hxr := HX0.out.new_ hB
    have hxl := hxr.lt
    have y0 := hxr.cell 0
    have y1 := hxr.cell 1
    have y2 := hxr.cell 2
    simp only [List.getElem?_toArray, List.getElem?_cons_zero, List.getElem?_cons_succ] at y0 y1 y2
    have HXR := Lib.hid hxr
    have HB := Lib.hid hB
    have HBw := Lib.hid hBw
    have HY := Lib.hid hy
    clear hB hBw hy hxr
    have b1 : (0 : Int) ≤ (i : Int) := by omega
    have b2 : (i : Int) < (l.length : Int) := by omega
    have hbe := eql_sym y x
    have hstep := has_take (x := x) hlt
    rw [← HY.out, HK.out, Bool.false_or] at hstep
    by_cases he : y = x
    · have t2 : decide (y = x) = true := by simpa using he
      rw [t2] at hbe hstep
      have HE := Lib.hid hstep
      clear he hstep
      go_wp2_with fail
      go_quiet (fail)
      clear q0 q1 q2 y0 y1 y2
      go_wp2_with fail
      go_ret
      have e : has cmpSym l x = true := by
       rw [has_iff]
       obtain ⟨z, hz, hz2⟩ := has_iff.1 HE.out
       exact ⟨z, List.mem_of_mem_take hz, hz2⟩
      exact ⟨by rw [e]; rfl, Below.drewN' HBw.out nq⟩
    · have t2 : decide (y = x) = false := by simpa using he
      rw [t2] at hbe hstep
      have HE := Lib.hid hstep
      clear he hstep
      go_wp2_with fail
      go_quiet (fail)
      have HB1 := Lib.hid (Below.drewN' HB.out nq)
      clear q0 q1 q2 y0 y1 y2
      go_wp2_with fail
      go_roundw
      case rel => exact ⟨i + 1, by go_num, HE.out, by omega, HB1.out⟩
      case measure => simp [intOf] <;> omega
  · have hie : i = l.length := by omega
    subst hie
    have HB := Lib.hid hB
    clear hB
    go_wp2_with fail
    go_ret
    have e := HK.out
    rw [List.take_length] at e
    exact ⟨by rw [e]; rfl, HB0.out.trans (HB.out.mono HB0.out.size)⟩
end Go.Proofs.YtpndmjabjjbefaaGreat
namespace Go.Proofs.YtpndmjabjjbefaaGreat
open Go.RowKit Go.Shelf
attribute [local go_sem] Oper.semAt_some
structure FrX (l : List BindT) (L Lf : List Sym) (vs : List ByteArray) (b : List BindT) (T : TB) (D : Nat → Prop) (Ab An Aw Al : Option Addr) (cb cn cw cl : Nat) (X : World) : Prop where
 gt : GT D X T Lf
 b : RowR repBindT D X Ab cb b
 n : RowR repStr D X An cn vs
 w : RowRd X 3 Sym.cells Aw cw L
 l : RowR repBindT D X Al cl l
theorem FrX.new_ {l : List BindT} {L Lf : List Sym} {vs : List ByteArray} {b : List BindT} {T : TB} {D : Nat → Prop} {Ab An Aw Al : Option Addr} {cb cn cw cl : Nat} {X Y : World} (h : FrX l L Lf vs b T D Ab An Aw Al cb cn cw cl X) (hb : Below X.heap.size X Y) : FrX l L Lf vs b T D Ab An Aw Al cb cn cw cl Y :=
 ⟨h.gt.below hb, h.b.new_ hb, h.n.new_ hb, h.w.new_ hb, h.l.new_ hb⟩
set_option maxRecDepth 100000 in
set_option maxHeartbeats 8000000 in
theorem fresh_walk (n : Nat) (p : ProdT) (A1 A2 A A3 : Option Addr) (c1 c2 c c3 : Nat) (l : List BindT) (known : List Sym) (w : World) (h1 : RowR (repCondT n) (· < w.heap.size) w A1 c1 p.conds) (h2 : RowR repActT (· < w.heap.size) w A2 c2 p.acts) (h3 : RowR repBindT (· < w.heap.size) w A c l) (h4 : RowRd w 3 Sym.cells A3 c3 known) :
 Calls Tryz.prog 8 #[.agg #[.string p.name, .slice A1 p.conds.length c1, .slice A2 p.acts.length c2], .slice A l.length c, .slice A3 known.length c3] w fun e w' => e = .returned (.bool true) ∧ Below w.heap.size w w' := by
 have H1 := Lib.hid h1
 have H2 := Lib.hid h2
 have H3 := Lib.hid h3
 have H4 := Lib.hid h4
 have hac := h2.cap
 have hlc := h3.cap
 have hkc := h4.cap
 clear h1 h2 h3 h4
 go_enter Tryz.func8, Tryz.ntmps8
 go_upto_region 1 with fail
 obtain ⟨w1, hw1⟩ : ∃ w1, w1 = (w.alloc (.cells #[.string p.name, .slice A1 p.conds.length c1, .slice A2 p.acts.length c2] 42)) := ⟨_, rfl⟩
 rw [← hw1]
 have HB := Lib.hid (show Below w.heap.size w w1 by rw [hw1]; exact (by repeat (first | exact Below.refl _ _ | refine Below.drew ?_ | refine Below.al ?_ _ | refine Below.sc ?_ _)))
 have Kp := Lib.hid (show Blk w1 (w.heap.size) 42 #[.string p.name, .slice A1 p.conds.length c1, .slice A2 p.acts.length c2] by rw [hw1]; exact (Blk.new w 42 #[.string p.name, .slice A1 p.conds.length c1, .slice A2 p.acts.length c2]))
 clear hw1
 obtain ⟨p0, p1, p2⟩ := Kp.out.c3
 have pz := Kp.out.lt
 have HHV := Lib.hid (fun W (hb : Below w.heap.size w W) => heavy_is n p A1 A2 c1 c2 W (H1.out.new_ hb) (H2.out.new_ hb))
 cases hv : heavyP n p
 · skip
   have hc := HHV.out
   simp only [hv] at hc
   have HHW := Lib.hid hc
   have HLI := Lib.hid (heavyP_light hv)
   clear hc hv
   go_wp2_with fail
   with_reducible refine (HHW.out _ (by (repeat (first | exact Below.refl _ _ | exact HB.out | refine Below.drew ?_ | refine Below.al ?_ _ | refine Below.sc ?_ _)))).mono ?_
   rintro e w2 ⟨rfl, hb⟩
   have hbs := Below.trans (show Below w1.heap.size w1 _ from (by (repeat (first | exact Below.refl _ _ | refine Below.drew ?_ | refine Below.al ?_ _ | refine Below.sc ?_ _)))) (hb.mono (by simp <;> omega))
   have Kp := Lib.hid (Kp.out.new_ hbs)
   have HB := Lib.hid (HB.out.trans (hbs.mono HB.out.size))
   have hsz2 := hbs.size
   clear p0 p1 p2 pz hb hbs
   obtain ⟨p0, p1, p2⟩ := Kp.out.c3
   have pz := Kp.out.lt
   have hb0 := fun W (hb : Below w.heap.size w W) => binds_is l W (H3.out.new_ hb)
   cases hbl : bindsB l
   · skip
     simp only [hbl] at hb0
     have HBI := Lib.hid hb0
     clear hb0 hbl
     go_wp2_with fail
     with_reducible refine (HBI.out _ (by (repeat (first | exact Below.refl _ _ | exact HB.out | refine Below.drew ?_ | refine Below.al ?_ _ | refine Below.sc ?_ _)))).mono ?_
     rintro e w0 ⟨rfl, rfl⟩
     go_wp2_with fail
     with_reducible refine (wakes15_is _).mono ?_
     rintro e w3 ⟨rfl, hb⟩
     have hbs := Below.trans (show Below w2.heap.size w2 _ from (by (repeat (first | exact Below.refl _ _ | refine Below.drew ?_ | refine Below.al ?_ _ | refine Below.sc ?_ _)))) (hb.mono (by simp <;> omega))
     have Kp := Lib.hid (Kp.out.new_ hbs)
     have HB := Lib.hid (HB.out.trans (hbs.mono HB.out.size))
     have hsz3 := hbs.size
     clear p0 p1 p2 pz hb hbs
     obtain ⟨p0, p1, p2⟩ := Kp.out.c3
     have pz := Kp.out.lt
     go_wp2_with fail
     go_ret
     exact ⟨rfl, by (repeat (first | exact Below.refl _ _ | exact HB.out | refine Below.drew ?_ | refine Below.al ?_ _ | refine Below.sc ?_ _))⟩
   · skip
     simp only [hbl] at hb0
     have HBI := Lib.hid hb0
     have h40 : l.length ≤ 40 := by have := hbl; simp only [bindsB, Bool.and_eq_true, decide_eq_true_eq] at this; exact this.1
     clear hb0 hbl
     by_cases h30 : known.length ≤ 30
     · skip
       have t30 : decide ((30 : Int) < (known.length : Int)) = false := decide_eq_false (by omega)
       have t30n : decide (30 < known.length) = false := decide_eq_false (by omega)
       go_wp2_with fail
       with_reducible refine (HBI.out _ (by (repeat (first | exact Below.refl _ _ | exact HB.out | refine Below.drew ?_ | refine Below.al ?_ _ | refine Below.sc ?_ _)))).mono ?_
       rintro e w0 ⟨rfl, rfl⟩
       obtain ⟨hcn, hfl, ha40, _⟩ := HLI.out
       obtain ⟨⟨ca, ce, cn⟩, hck⟩ : ∃ r, r = checkP 20 p := ⟨_, rfl⟩
       have hc := fun W (hb : Below w.heap.size w W) => check_is (D := (· < w.heap.size)) p 20 A1 A2 c1 c2 W ((hcn H1.out).new_ hb) (H2.out.new_ hb) (fun k hk => Nat.lt_of_lt_of_le hk hb.size) (Nat.le_trans (hfl 20 0) (by decide)) (by decide)
       simp only [← hck] at hc
       have HCK := Lib.hid hc
       have HCE := Lib.hid (show (checkP 20 p).2.1 = ce by rw [← hck])
       have HC20 := Lib.hid (hcn H1.out)
       have HF20 := Lib.hid (hfl 20 0)
       clear hc hcn hfl hck t30 t30n
       go_wp2_with fail
       with_reducible refine (HCK.out _ (by (repeat (first | exact Below.refl _ _ | exact HB.out | refine Below.drew ?_ | refine Below.al ?_ _ | refine Below.sc ?_ _)))).mono ?_
       rintro e w3 ⟨rfl, hb⟩
       have hbs := Below.trans (show Below w2.heap.size w2 _ from (by (repeat (first | exact Below.refl _ _ | refine Below.drew ?_ | refine Below.al ?_ _ | refine Below.sc ?_ _)))) (hb.mono (by simp <;> omega))
       have Kp := Lib.hid (Kp.out.new_ hbs)
       have HB := Lib.hid (HB.out.trans (hbs.mono HB.out.size))
       have hsz3 := hbs.size
       clear p0 p1 p2 pz hb hbs
       obtain ⟨p0, p1, p2⟩ := Kp.out.c3
       have pz := Kp.out.lt
       by_cases hce : ce = 0
       · skip
         have HE0 := Lib.hid (show (checkP 20 p).2.1 = 0 by rw [HCE.out, hce])
         have cka : (ce == 0) = true := by simp [hce]
         have ckb : decide (ce = 0) = true := by simp [hce]
         have ck3 : (ce != 0) = false := by simp [hce]
         clear hce
         go_wp2_with fail
         have HPA := Lib.hid Kp.out
         have HWA := Lib.hid HB.out
         have hwa := HB.out.size
         refine (table_is 500 A3 c3 known w3 (by decide) (by decide) (H4.out.new_ HB.out)).mono ?_
         rintro e w20 ⟨T, kd, D0, rfl, htd⟩
         have HTD := Lib.hid htd
         have Kp := Lib.hid (Kp.out.new_ htd.b)
         have hz20 := htd.b.size
         clear htd
         clear p0 p1 p2 pz 
         obtain ⟨p0, p1, p2⟩ := Kp.out.c3
         have pz := Kp.out.lt
         obtain ⟨L, hL⟩ : ∃ L, L = tabL 500 known := ⟨_, rfl⟩
         rw [← hL] at HTD
         clear hL
         go_wp2_with fail
         refine (mktall T.b _).mono ?_
         rintro e w21 ⟨rfl, hb21, hbox⟩
         have HT1 := Lib.hid (HTD.out.new_ hb21)
         have HBX := Lib.hid hbox
         have Kp := Lib.hid (Kp.out.new_ hb21)
         have hz21 := hb21.size
         clear hb21 hbox p0 p1 p2 pz
         go_wp2_with fail
         refine (gt_list w20.heap.size HT1.out.gt HBX.out).mono ?_
         rintro e w22 ⟨Aw, cw, rfl, hwas, hAw, hg22, hF22, _⟩
         have HT2 := Lib.hid (HT1.out.tab hg22 (fun j hj => .inl hj) hF22)
         have HWAS := Lib.hid (show RowR repSym (Plus (Plus D0 w20 w21) w21 w22) w22 Aw cw L from RowR.of_rd hwas (hAw.mono (fun j hj => .inr hj)))
         have hzb : w.heap.size < w3.heap.size := by have := HPA.out.lt; omega
         have Kp := Lib.hid (HPA.out.new_ HT2.out.b)
         have hz22 := HT2.out.b.size
         clear hwas hAw hg22 hF22
         obtain ⟨p0, p1, p2⟩ := Kp.out.c3
         have pz := Kp.out.lt
         obtain ⟨D2, hD2⟩ : ∃ D2, D2 = Plus (Plus D0 w20 w21) w21 w22 := ⟨_, rfl⟩
         rw [← hD2] at HT2 HWAS
         clear hD2
         have hrow : ∀ Y, Below w3.heap.size w3 Y → RowR repBindT (· < w.heap.size) Y A c l := fun Y hY => H3.out.new_ (HWA.out.trans (hY.mono HWA.out.size))
         have HRL := Lib.hid hrow
         have HRA := Lib.hid (show ∀ Y, Below w3.heap.size w3 Y → RowR repActT (· < w.heap.size) Y A2 c2 p.acts from fun Y hY => H2.out.new_ (HWA.out.trans (hY.mono HWA.out.size)))
         have HRC := Lib.hid (show ∀ Y, Below w3.heap.size w3 Y → RowR (repCondT 20) (· < w.heap.size) Y A1 c1 p.conds from fun Y hY => HC20.out.new_ (HWA.out.trans (hY.mono HWA.out.size)))
         clear hrow
         go_wp2_with fail
         refine (mknews (D := (· < w.heap.size)) l p A A1 A2 c c1 c2 _ (HRL.out _ HT2.out.b) (by omega)).mono ?_
         rintro e w23 ⟨kb, kp, Ak, ck, rfl, hkb, hkp, hrk, hlb, hlp, hb23⟩
         have HT3 := Lib.hid (HT2.out.new_ hb23)
         have Kp := Lib.hid (Kp.out.new_ hb23)
         have HWAS := Lib.hid (HWAS.out.new_ hb23)
         have hz23 := hb23.size
         obtain ⟨xs, hxs⟩ : ∃ xs, xs = doNews l p.acts := ⟨_, rfl⟩
         have hxl : xs.length ≤ 120 := by have := news_len l p.acts; rw [hxs]; omega
         have hent : ∀ args w, (callFunc 48 args).run Tryz.prog w = .ok (.enter 48 args) w := fun args w => by kernel_rfl
         have HLI2 := Lib.hid (show Calls Tryz.prog 21 #[.func (.func 48) #[] #[.pointer (some ⟨kb, 0, none⟩), .pointer (some ⟨kp, 0, none⟩)]] w23 (StrsTo w23 xs) from
          listO_is (D := (· < w23.heap.size)) 48 #[.pointer (some ⟨kb, 0, none⟩), .pointer (some ⟨kp, 0, none⟩)] xs w23 (fun k hk => hk) (fun W hW => by
           rw [hxs]
           exact newsI_is l p kb kp Ak A1 A2 ck c1 c2 W (hkb.new_ hW) (hkp.new_ hW) hkb.lt hkp.lt ((hrk.weaken (fun k hk => hk.2)).new_ hW) (((HRA.out _ HT3.out.b).weaken (fun k hk => by have := HT3.out.b.size; omega)).new_ hW) (by omega) (by omega)) hent (by omega))
         have HXS := Lib.hid hxs
         clear hkb hkp hrk hlb hlp hent hxs hb23 p0 p1 p2 pz
         go_wp2_with fail
         refine HLI2.out.mono ?_
         rintro e w24 ⟨An, cn2, rfl, hon, hAn, hb24⟩
         have HT4 := Lib.hid (HT3.out.new_ hb24)
         have Kp := Lib.hid (Kp.out.new_ hb24)
         obtain ⟨D4, hD4⟩ : ∃ D4, D4 = Plus (Plus D2 w22 w23) w23 w24 := ⟨_, rfl⟩
         have HWAS := Lib.hid (show RowR repSym D4 w24 Aw cw L from (HWAS.out.new_ hb24).weaken (fun k hk => by rw [hD4]; exact .inl (.inl hk)))
         have hlt : ∀ a, An = some a → a.block < w24.heap.size := row_low hon
         have HNW := Lib.hid (show RowR repStr D4 w24 An cn2 xs from RowR.of_rd (ownsRow_rd strC_len hon) (fun a ha => by rw [hD4]; exact .inr ⟨hAn a ha, hlt a ha⟩))
         rw [← hD4] at HT4
         have hz24 := hb24.size
         clear hon hAn hb24 hD4 hlt
         obtain ⟨p0, p1, p2⟩ := Kp.out.c3
         have pz := Kp.out.lt
         have HLST := Lib.hid HT4.out.gt.list_
         have HRB := Lib.hid ((HRL.out _ HT4.out.b).weaken (D' := D4) (fun k hk => HT4.out.dw k (by omega)))
         have HDO := Lib.hid (show Calls Tryz.prog 25 #[.agg #[.string p.name, .slice A1 p.conds.length c1, .slice A2 p.acts.length c2], .slice A l.length c, .pointer (some ⟨T.b, 0, none⟩)] w24 (DoTo D4 w24 T (doV 500 l p.acts L)) by
          have := do_is (D := D4) 20 p l A1 A2 A c1 c2 c w24 T L HT4.out.gt ((HRC.out _ HT4.out.b).weaken (fun k hk => HT4.out.dw k (by omega))) ((HRA.out _ HT4.out.b).weaken (fun k hk => HT4.out.dw k (by omega))) HRB.out (Nat.le_trans HF20.out (by decide)) (by decide) (by omega)
          unfold doR at this
          rw [HE0.out, if_neg (by decide), HT4.out.rm] at this
          exact this)
         have HACT := Lib.hid (show ∀ a ∈ p.acts, actB a = true from shapeP_acts (n := 20) (by
          by_cases h9 : (shapeP 20 p).2 = 0
          · exact h9
          · have := HE0.out; rw [checkP_bad h9] at this; exact this))
         obtain ⟨R, hR⟩ : ∃ R, R = doV 500 l p.acts L := ⟨_, rfl⟩
         have hnew := do_new (l := l) HACT.out HLST.out.1 (by have := HLST.out.2.2.1; rw [HT4.out.rm] at this; exact this)
         rw [← hR] at HDO hnew
         rw [← HXS.out] at hnew
         have HNEW := Lib.hid hnew
         clear hR hnew
         go_wp2_with fail
         refine HDO.out.mono ?_
         rintro e w25 ⟨Ao, co, Ab, cb, D5, rfl, _, hob, hD5, _, hAb, hgt5, hF5⟩
         have HB25 := Lib.hid (HWA.out.trans ((HT4.out.b.trans (hF5.below HT4.out.b.size (fun k hk hn => hn (HT4.out.dw k hk)))).mono HWA.out.size))
         rcases HNEW.out with ⟨e9, he9, he0, he20⟩ | ⟨b, L2, hb2, hI, hsub⟩
         · skip
           subst he20
           rw [he9]
           clear hob hD5 hAb hgt5 hF5 he9 he0 p0 p1 p2 pz
           go_wp2_with fail
           refine (wakes15_is _).mono ?_
           rintro e w26 ⟨rfl, hb26⟩
           go_wp2_with fail
           go_ret
           exact ⟨rfl, HB25.out.trans (hb26.mono HB25.out.size)⟩
         · skip
           rw [hb2] at hob
           rw [hb2]
           dsimp only at hob ⊢
           have HFX := Lib.hid (show FrX l L R.2 xs b T D5 Ab An Aw A cb cn2 cw c w25 from ⟨hgt5, RowR.of_rd (ownsRow_rd BindT.cells_length hob) (hAb.mono (fun k hk => hk.1)), (HNW.out.fr hF5 (fun k hk hn => hn hk)).weaken hD5, (HWAS.out.fr hF5 (fun k hk hn => hn hk)).rd, (HRB.out.fr hF5 (fun k hk hn => hn hk)).weaken hD5⟩)
           have HI := Lib.hid hI
           have HSB := Lib.hid hsub
           have hbl := hI.len
           have hcb := HFX.out.b.1
           have hcm := HFX.out.b.2.1
           obtain ⟨bl, hbl2⟩ : ∃ bl, bl = b.length := ⟨_, rfl⟩
           have HBL := Lib.hid hbl2
           have tnl : ((bl : Int) != (l.length : Int) + (xs.length : Int)) = false := by rw [hbl2, hbl]; simp
           have vwl : IntKind.i64.wrap ((l.length : Int) + (xs.length : Int)) = (l.length : Int) + (xs.length : Int) := IntWalk.i64_in _ (by omega)
           have hb160 : bl ≤ 160 := by omega
           have hsl : ∀ Y, (Instr.slice 28 (.slice Ab bl cb) none (some (.int .i64 (l.length : Int))) none).run Tryz.prog Y = .ok (.slice Ab l.length cb) Y := fun Y => by
            have hl0 : (0 : Int) ≤ (l.length : Int) := by omega
            have hl1 : (l.length : Int) ≤ (cb : Int) := by omega
            go_simp
           have HBE := Lib.hid (show Calls Tryz.prog 26 #[.slice Ab l.length cb, .slice A l.length c] w25 fun e w' => e = .returned (.bool true) ∧ Below w25.heap.size w25 w' by
            have hp := HFX.out.b.prefix_ l.length
            rw [hI.pre] at hp
            have := binds_eq l l w25 hp HFX.out.l
            rw [decide_eq_true (rfl : l = l)] at this
            exact this)
           rw [← hbl2]
           have HLB := Lib.hid (show bl = l.length + xs.length by omega)
           clear hb2 hob hD5 hAb hgt5 hF5 hI hsub hbl hbl2 hcb hcm p0 p1 p2 pz
           go_wp2_with fail
           refine HBE.out.mono ?_
           rintro e w26 ⟨rfl, hb26⟩
           have HFX := Lib.hid (HFX.out.new_ hb26)
           have HB26 := Lib.hid (HB25.out.trans (hb26.mono HB25.out.size))
           clear hb26 tnl vwl hsl
           go_wp2_with fail
           go_loopw [16] (fun si wr => ∃ i : Nat, si = .int .i64 i ∧ i ≤ xs.length ∧ Below w26.heap.size w26 wr) (fun si wr => xs.length - (intOf si).toNat)
           case atStart => exact ⟨0, rfl, Nat.zero_le _, Below.refl _ _⟩
           case round =>
            obtain ⟨i, rfl, hi, hbr⟩ := hrel
            have HBR := Lib.hid hbr
            clear hbr
            by_cases hlt : i < xs.length
            · have HFR := Lib.hid (HFX.out.new_ HBR.out)
              obtain ⟨s, hs1, hs2, hs3, hs4, hs5⟩ := HI.out.at_ i hlt
              obtain ⟨v, hv⟩ : ∃ v, v = xs[i] := ⟨_, rfl⟩
              rw [← hv] at hs1 hs3
              obtain ⟨j, hj⟩ : ∃ j, j = l.length + i := ⟨_, rfl⟩
              rw [← hj] at hs1
              obtain ⟨hjb, hje⟩ := List.getElem?_eq_some_iff.1 hs1
              obtain ⟨gb, ob, rfl, _, hgb, q0, q1, q2, q3⟩ := at_BindT HFR.out.b hjb
              rw [hje] at q0 q1 q2 q3
              obtain ⟨gn, on, rfl, hgn, u0⟩ := str_at HFR.out.n hlt
              rw [← hv] at u0
              have hwv : isWord v = true := by
               rw [hv]
               exact news_words HACT.out _ (by rw [← HXS.out]; exact List.getElem_mem hlt)
              clear hv
              obtain ⟨h0v, _, hsm, _⟩ := isWord_iff.1 hwv
              obtain ⟨ch, hch⟩ : ∃ ch, ch = v[0] := ⟨_, rfl⟩
              have hcc : 97 ≤ ch.toNat ∧ ch.toNat ≤ 122 := by rw [← hch] at hsm; simpa [smallB] using hsm
              have hgv : ((greatV v).toNat : Int) = (ch.toNat : Int) - 97 + 65 := by unfold greatV; rw [dif_pos h0v, ← hch]; exact u8_sub32 ch hcc.1 hcc.2
              have hcv : ∀ (W : World) (g : Nat), W.cell? ⟨g, 0, none⟩ = some (.int .u8 ((ch.toNat : Int) - 97 + 65)) → (convert 92 9 (.slice (some ⟨g, 0, none⟩) 1 1)).run Tryz.prog W = .ok (.string (letB (greatV v))) W := fun W g h => convL (greatV v) W g (by rw [hgv]; exact h)
              have hix : ∀ W, (Instr.index 9 (.string v) (.int .i64 0)).run Tryz.prog W = .ok (.int .u8 (ch.toNat : Int)) W := fun W => by
               rw [hch]; go_simp
              have v1 : IntKind.u8.wrap ((ch.toNat : Int) - 97) = (ch.toNat : Int) - 97 := by rw [IntWalk.u8_in _ (by omega)]
              have v2 : IntKind.u8.wrap ((ch.toNat : Int) - 97 + 65) = (ch.toNat : Int) - 97 + 65 := by rw [IntWalk.u8_in _ (by omega)]
              have v3 : IntKind.i64.wrap ((l.length : Int) + (i : Int)) = (j : Int) := by rw [IntWalk.i64_in _ (by omega)]; omega
              have b1 : (0 : Int) ≤ (j : Int) := by omega
              have b2 : (j : Int) < (bl : Int) := by have := HBL.out; omega
              have b3 : (0 : Int) ≤ (i : Int) := by omega
              have b4 : (i : Int) < (xs.length : Int) := by omega
              obtain ⟨sk, st, sn⟩ := s
              dsimp only at hs2 hs3 q1 q2 q3
              subst hs2
              subst hs3
              have HAT := Lib.hid hs1
              have HNL := Lib.hid hs4
              have HIL := Lib.hid hs5
              have HJ := Lib.hid hj
              clear hs1 hs4 hs5 hj hjb hje hwv h0v hsm hch hcc hgv
              go_upto_region 20 with fail
              obtain ⟨X, hX⟩ : ∃ X, X = wr.alloc (.cells #[.string v, .int .i64 1, .string (letB (greatV v)), .int .i64 sn] 36) := ⟨_, rfl⟩
              rw [← hX]
              have hbX : Below wr.heap.size wr X := by rw [hX]; exact (Below.refl _ _).alloc (Nat.le_refl _) _
              have Kx := Lib.hid (show Blk X wr.heap.size 36 #[.string v, .int .i64 1, .string (letB (greatV v)), .int .i64 sn] by rw [hX]; exact Blk.new _ _ _)
              have HFY := Lib.hid (HFR.out.new_ hbX)
              have HBX := Lib.hid (HBR.out.trans (hbX.mono HBR.out.size))
              have u0 := (hbX.cell (p := ⟨gn, on + i, none⟩) hgn).trans u0
              have hgn := Nat.lt_of_lt_of_le hgn hbX.size
              have hzx := hbX.size
              obtain ⟨x0, x1, x2, x3⟩ := Kx.out.c4
              have xz := Kx.out.lt
              clear hX hbX q0 q1 q2 q3
              have HCH := Lib.hid (show ∀ Y, RowRd Y 3 Sym.cells Aw cw L → Calls Tryz.prog 34 #[.slice Aw L.length cw, .agg #[.int .i64 1, .string (letB (greatV v)), .int .i64 sn]] Y fun e w' => e = .returned (.bool false) ∧ Below Y.heap.size Y w' from fun Y hY => by
               have := has_is Aw cw L ⟨1, letB (greatV v), sn⟩ Y hY
               rw [hasNot.2 HNL.out] at this
               exact this)
              have HCT := Lib.hid (show ∀ Y, GT D5 Y T R.2 → Calls Tryz.prog 35 #[.pointer (some ⟨T.b, 0, none⟩), .agg #[.int .i64 1, .string (letB (greatV v)), .int .i64 sn]] Y fun e w' => e = .returned (.bool true) ∧ Below Y.heap.size Y w' from fun Y hY => by
               have := gt_has ⟨1, letB (greatV v), sn⟩ hY
               rw [has_mem.2 (HSB.out _ HIL.out)] at this
               exact this)
              refine wp_region_E (fun w9 => Below X.heap.size X w9) [(0, 0), (1, 1), (2, 0), (3, 0), (4, 0), (5, 1), (6, 0), (7, 0), (8, 0), (9, 0), (10, 1), (11, 0), (12, 0), (13, 0), (14, 0), (15, 0), (16, 1), (17, 2), (18, 0), (19, 0), (20, 0), (21, 0), (22, 1), (23, 2), (24, 0), (25, 0), (26, 0), (27, 0), (28, 0), (29, 1), (30, 0), (31, 0), (32, 0), (33, 1), (34, 0), (35, 0), (36, 0), (37, 2), (38, 2), (39, 0), (40, 0)] (by kernel_rfl) (by kernel_rfl) (fun KK hKK => ?_)
              simp only [beside, List.filterMap_cons, List.filterMap_nil, List.getElem?_toArray, List.getElem?_cons_zero, List.getElem?_cons_succ, Option.map_some]
              repeat ((first | (refine wpX_w ?_ (Or.inl ⟨by rfl, fun w9 => ?_⟩) ?_; rotate_left 1; go_simp; with_reducible rfl) | (refine wpX_l ?_ ((Below.refl _ _).drew) (Or.inl ⟨by rfl, fun w9 hw9 => ?_⟩) ?_; rotate_left 1; have x0 := (hw9.cell (p := ⟨wr.heap.size, 0, none⟩) xz).trans x0; have x1 := (hw9.cell (p := ⟨wr.heap.size, 1, none⟩) xz).trans x1; have x2 := (hw9.cell (p := ⟨wr.heap.size, 2, none⟩) xz).trans x2; have x3 := (hw9.cell (p := ⟨wr.heap.size, 3, none⟩) xz).trans x3; have u0 := (hw9.cell (p := ⟨gn, on + i, none⟩) hgn).trans u0; go_simp; with_reducible rfl) | refine wpX_w undef (Or.inr ⟨by rfl, rfl⟩) ?_ | refine wpX_l undef ((Below.refl _ _).drew) (Or.inr ⟨by rfl, rfl⟩) ?_); go_frame)
              refine wpX_es (fun K9 hK9 => ?_)
              go_simp
              refine (HCH.out _ (HFY.out.w.new_ ((Below.refl X.heap.size X).drew))).mono ?_
              rintro e w31 ⟨rfl, hb31⟩
              have HB31 := Lib.hid (((Below.refl X.heap.size X).drew).trans (hb31.mono (by first | exact ((Below.refl X.heap.size X).drew).size | simp)))
              clear hb31
              refine hK9 _ _ HB31.out ?_
              clear hK9 K9
              repeat ((first | (refine wpX_w ?_ (Or.inl ⟨by rfl, fun w9 => ?_⟩) ?_; rotate_left 1; go_simp; with_reducible rfl) | (refine wpX_l ?_ (HB31.out) (Or.inl ⟨by rfl, fun w9 hw9 => ?_⟩) ?_; rotate_left 1; have x0 := (hw9.cell (p := ⟨wr.heap.size, 0, none⟩) xz).trans x0; have x1 := (hw9.cell (p := ⟨wr.heap.size, 1, none⟩) xz).trans x1; have x2 := (hw9.cell (p := ⟨wr.heap.size, 2, none⟩) xz).trans x2; have x3 := (hw9.cell (p := ⟨wr.heap.size, 3, none⟩) xz).trans x3; have u0 := (hw9.cell (p := ⟨gn, on + i, none⟩) hgn).trans u0; go_simp; with_reducible rfl) | refine wpX_w undef (Or.inr ⟨by rfl, rfl⟩) ?_ | refine wpX_l undef (HB31.out) (Or.inr ⟨by rfl, rfl⟩) ?_); go_frame)
              refine wpX_es (fun K9 hK9 => ?_)
              go_simp
              refine (HCT.out _ (HFY.out.gt.below HB31.out)).mono ?_
              rintro e w32 ⟨rfl, hb32⟩
              have HB32 := Lib.hid ((HB31.out).trans (hb32.mono (by first | exact (HB31.out).size | simp)))
              clear hb32
              refine hK9 _ _ HB32.out ?_
              clear hK9 K9
              repeat ((first | (refine wpX_w ?_ (Or.inl ⟨by rfl, fun w9 => ?_⟩) ?_; rotate_left 1; go_simp; with_reducible rfl) | (refine wpX_l ?_ (HB32.out) (Or.inl ⟨by rfl, fun w9 hw9 => ?_⟩) ?_; rotate_left 1; have x0 := (hw9.cell (p := ⟨wr.heap.size, 0, none⟩) xz).trans x0; have x1 := (hw9.cell (p := ⟨wr.heap.size, 1, none⟩) xz).trans x1; have x2 := (hw9.cell (p := ⟨wr.heap.size, 2, none⟩) xz).trans x2; have x3 := (hw9.cell (p := ⟨wr.heap.size, 3, none⟩) xz).trans x3; have u0 := (hw9.cell (p := ⟨gn, on + i, none⟩) hgn).trans u0; go_simp; with_reducible rfl) | refine wpX_w undef (Or.inr ⟨by rfl, rfl⟩) ?_ | refine wpX_l undef (HB32.out) (Or.inr ⟨by rfl, rfl⟩) ?_); go_frame)
              refine wpX_es (fun K9 hK9 => ?_)
              go_simp
              have HB33 := Lib.hid (show Below X.heap.size X (w32.alloc (.cells #[.int .u8 ((ch.toNat : Int) - 97 + 65)] 5)) from HB32.out.alloc HB32.out.size _)
              refine hK9 _ _ HB33.out ?_
              clear hK9 K9
              refine wpX_es (fun K9 hK9 => ?_)
              go_simp
              refine hK9 _ _ HB33.out ?_
              clear hK9 K9
              repeat ((first | (refine wpX_w ?_ (Or.inl ⟨by rfl, fun w9 => ?_⟩) ?_; rotate_left 1; go_simp; with_reducible rfl) | (refine wpX_l ?_ (HB33.out) (Or.inl ⟨by rfl, fun w9 hw9 => ?_⟩) ?_; rotate_left 1; have x0 := (hw9.cell (p := ⟨wr.heap.size, 0, none⟩) xz).trans x0; have x1 := (hw9.cell (p := ⟨wr.heap.size, 1, none⟩) xz).trans x1; have x2 := (hw9.cell (p := ⟨wr.heap.size, 2, none⟩) xz).trans x2; have x3 := (hw9.cell (p := ⟨wr.heap.size, 3, none⟩) xz).trans x3; have u0 := (hw9.cell (p := ⟨gn, on + i, none⟩) hgn).trans u0; go_simp; with_reducible rfl) | refine wpX_w undef (Or.inr ⟨by rfl, rfl⟩) ?_ | refine wpX_l undef (HB33.out) (Or.inr ⟨by rfl, rfl⟩) ?_); go_frame)
              refine wpX_nil ?_
              simp only [OnlyN_normal]
              refine hKK _ _ ?_
              clear hKK KK
              obtain ⟨Z, hZ⟩ : ∃ Z, Z = w32.alloc (.cells #[.int .u8 ((ch.toNat : Int) - 97 + 65)] 5) := ⟨_, rfl⟩
              rw [← hZ]
              have hbZ : Below X.heap.size X Z := by rw [hZ]; exact HB33.out
              have HFZ := Lib.hid (HFY.out.new_ hbZ)
              have HBZ := Lib.hid (HBX.out.trans (hbZ.mono HBX.out.size))
              have Kx := Lib.hid (Kx.out.new_ hbZ)
              clear hZ hbZ x0 x1 x2 x3 xz u0 hcv hix v1 v2 v3
              go_wp2_with fail
              generalize wr.heap.size = xb at Kx ⊢
              go_loopw [18] (fun si wq => ∃ k : Nat, si = .int .i64 k ∧ k ≤ i ∧ Below Z.heap.size Z wq) (fun si wq => i - (intOf si).toNat)
              case atStart => exact ⟨0, rfl, Nat.zero_le _, Below.refl _ _⟩
              case round =>
               obtain ⟨k, rfl, hki, hbq⟩ := hrel
               have HBQ := Lib.hid hbq
               clear hbq
               by_cases hlk : k < i
               · have HFQ := Lib.hid (HFZ.out.new_ HBQ.out)
                 obtain ⟨y, hy1, -, -, -, -⟩ := HI.out.at_ k (by omega)
                 have hyn : y ≠ ⟨1, letB (greatV v), sn⟩ := HI.out.apart k i hlk hlt _ _ hy1 (by rw [← HJ.out]; exact HAT.out)
                 have heq : ∀ W, (binOp .eql 23 (.agg #[.int .i64 y.kind, .string y.text, .int .i64 y.n]) (.agg #[.int .i64 1, .string (letB (greatV v)), .int .i64 sn])).run Tryz.prog W = .ok (.bool false) W := fun W => by
                  have := eql_sym y ⟨1, letB (greatV v), sn⟩ W
                  rw [decide_eq_false hyn] at this
                  exact this
                 obtain ⟨jk, hjk⟩ : ∃ jk, jk = l.length + k := ⟨_, rfl⟩
                 rw [← hjk] at hy1
                 obtain ⟨hjb, hje⟩ := List.getElem?_eq_some_iff.1 hy1
                 obtain ⟨gc, oc, hAc, _, hgc, q0, q1, q2, q3⟩ := at_BindT HFQ.out.b hjb
                 cases hAc
                 rw [hje] at q0 q1 q2 q3
                 have v4 : IntKind.i64.wrap ((l.length : Int) + (k : Int)) = (jk : Int) := by rw [IntWalk.i64_in _ (by omega)]; omega
                 have b5 : (0 : Int) ≤ (jk : Int) := by omega
                 have b6 : (jk : Int) < (bl : Int) := by have := HBL.out; omega
                 obtain ⟨x0, x1, x2, x3⟩ := (Kx.out.new_ HBQ.out).c4
                 have xz := (Kx.out.new_ HBQ.out).lt
                 dsimp only at q1 q2 q3
                 clear hy1 hyn hjk hjb hje
                 go_upto_region 25 with fail
                 refine wp_region_E (fun w9 => Below wr.heap.size wr w9) [(0, 0), (1, 0), (2, 0), (3, 0), (4, 0), (5, 0), (6, 0), (7, 1), (8, 0), (9, 1), (10, 0)] (by kernel_rfl) (by kernel_rfl) (fun KK hKK => ?_)
                 simp only [beside, List.filterMap_cons, List.filterMap_nil, List.getElem?_toArray, List.getElem?_cons_zero, List.getElem?_cons_succ, Option.map_some]
                 repeat ((first | (refine wpX_w ?_ (Or.inl ⟨by rfl, fun w9 => ?_⟩) ?_; rotate_left 1; go_simp; with_reducible rfl) | (refine wpX_l ?_ ((Below.refl _ _).drew) (Or.inl ⟨by rfl, fun w9 hw9 => ?_⟩) ?_; rotate_left 1; have q1 := (hw9.cell (p := ⟨gb, ob + jk * 4 + 1, none⟩) hgc).trans q1; have q2 := (hw9.cell (p := ⟨gb, ob + jk * 4 + 2, none⟩) hgc).trans q2; have q3 := (hw9.cell (p := ⟨gb, ob + jk * 4 + 3, none⟩) hgc).trans q3; have x1 := (hw9.cell (p := ⟨xb, 1, none⟩) xz).trans x1; have x2 := (hw9.cell (p := ⟨xb, 2, none⟩) xz).trans x2; have x3 := (hw9.cell (p := ⟨xb, 3, none⟩) xz).trans x3; go_simp; with_reducible rfl) | refine wpX_w undef (Or.inr ⟨by rfl, rfl⟩) ?_ | refine wpX_l undef ((Below.refl _ _).drew) (Or.inr ⟨by rfl, rfl⟩) ?_); go_frame)
                 refine wpX_nil ?_
                 simp only [OnlyN_normal]
                 refine hKK _ _ ?_
                 clear hKK KK
                 have HB27 := Lib.hid (show Below Z.heap.size Z wr.drew from HBQ.out.drew)
                 clear q0 q1 q2 q3 x0 x1 x2 x3 xz
                 go_wp2_with fail
                 go_roundw
                 case rel => exact ⟨k + 1, by go_num, by omega, HB27.out⟩
                 case measure => simp [intOf] <;> omega
               · have hke : k = i := by omega
                 subst hke
                 have HB28 := Lib.hid (HBZ.out.trans (HBQ.out.mono HBZ.out.size))
                 go_wp2_with fail
                 go_roundw
                 case rel => exact ⟨k + 1, by go_num, by omega, HB28.out⟩
                 case measure => simp [intOf] <;> omega
            · have hie : i = xs.length := by omega
              subst hie
              have HB29 := Lib.hid (HB26.out.trans (HBR.out.mono HB26.out.size))
              go_wp2_with fail
              refine (wakes15_is _).mono ?_
              rintro e w40 ⟨rfl, hb40⟩
              go_wp2_with fail
              go_ret
              exact ⟨rfl, HB29.out.trans (hb40.mono HB29.out.size)⟩
       · skip
         have cka : (ce == 0) = false := by simp [hce]
         have ckb : decide (ce = 0) = false := by simp [hce]
         have ck3 : (ce != 0) = true := by simp [hce]
         clear hce
         go_wp2_with fail
         with_reducible refine (wakes15_is _).mono ?_
         rintro e w4 ⟨rfl, hb⟩
         have hbs := Below.trans (show Below w3.heap.size w3 _ from (by (repeat (first | exact Below.refl _ _ | refine Below.drew ?_ | refine Below.al ?_ _ | refine Below.sc ?_ _)))) (hb.mono (by simp <;> omega))
         have Kp := Lib.hid (Kp.out.new_ hbs)
         have HB := Lib.hid (HB.out.trans (hbs.mono HB.out.size))
         have hsz4 := hbs.size
         clear p0 p1 p2 pz hb hbs
         obtain ⟨p0, p1, p2⟩ := Kp.out.c3
         have pz := Kp.out.lt
         go_wp2_with fail
         go_ret
         exact ⟨rfl, by (repeat (first | exact Below.refl _ _ | exact HB.out | refine Below.drew ?_ | refine Below.al ?_ _ | refine Below.sc ?_ _))⟩
     · skip
       have t30 : decide ((30 : Int) < (known.length : Int)) = true := decide_eq_true (by omega)
       have t30n : decide (30 < known.length) = true := decide_eq_true (by omega)
       go_wp2_with fail
       with_reducible refine (HBI.out _ (by (repeat (first | exact Below.refl _ _ | exact HB.out | refine Below.drew ?_ | refine Below.al ?_ _ | refine Below.sc ?_ _)))).mono ?_
       rintro e w0 ⟨rfl, rfl⟩
       go_wp2_with fail
       with_reducible refine (wakes15_is _).mono ?_
       rintro e w3 ⟨rfl, hb⟩
       have hbs := Below.trans (show Below w2.heap.size w2 _ from (by (repeat (first | exact Below.refl _ _ | refine Below.drew ?_ | refine Below.al ?_ _ | refine Below.sc ?_ _)))) (hb.mono (by simp <;> omega))
       have Kp := Lib.hid (Kp.out.new_ hbs)
       have HB := Lib.hid (HB.out.trans (hbs.mono HB.out.size))
       have hsz3 := hbs.size
       clear p0 p1 p2 pz hb hbs
       obtain ⟨p0, p1, p2⟩ := Kp.out.c3
       have pz := Kp.out.lt
       go_wp2_with fail
       go_ret
       exact ⟨rfl, by (repeat (first | exact Below.refl _ _ | exact HB.out | refine Below.drew ?_ | refine Below.al ?_ _ | refine Below.sc ?_ _))⟩
 · skip
   have hc := HHV.out
   simp only [hv] at hc
   have HHW := Lib.hid hc
   clear hc hv
   go_wp2_with fail
   with_reducible refine (HHW.out _ (by (repeat (first | exact Below.refl _ _ | exact HB.out | refine Below.drew ?_ | refine Below.al ?_ _ | refine Below.sc ?_ _)))).mono ?_
   rintro e w2 ⟨rfl, hb⟩
   have hbs := Below.trans (show Below w1.heap.size w1 _ from (by (repeat (first | exact Below.refl _ _ | refine Below.drew ?_ | refine Below.al ?_ _ | refine Below.sc ?_ _)))) (hb.mono (by simp <;> omega))
   have Kp := Lib.hid (Kp.out.new_ hbs)
   have HB := Lib.hid (HB.out.trans (hbs.mono HB.out.size))
   have hsz2 := hbs.size
   clear p0 p1 p2 pz hb hbs
   obtain ⟨p0, p1, p2⟩ := Kp.out.c3
   have pz := Kp.out.lt
   go_wp2_with fail
   with_reducible refine (wakes15_is _).mono ?_
   rintro e w3 ⟨rfl, hb⟩
   have hbs := Below.trans (show Below w2.heap.size w2 _ from (by (repeat (first | exact Below.refl _ _ | refine Below.drew ?_ | refine Below.al ?_ _ | refine Below.sc ?_ _)))) (hb.mono (by simp <;> omega))
   have Kp := Lib.hid (Kp.out.new_ hbs)
   have HB := Lib.hid (HB.out.trans (hbs.mono HB.out.size))
   have hsz3 := hbs.size
   clear p0 p1 p2 pz hb hbs
   obtain ⟨p0, p1, p2⟩ := Kp.out.c3
   have pz := Kp.out.lt
   go_wp2_with fail
   go_ret
   exact ⟨rfl, by (repeat (first | exact Below.refl _ _ | exact HB.out | refine Below.drew ?_ | refine Below.al ?_ _ | refine Below.sc ?_ _))⟩
end Go.Proofs.YtpndmjabjjbefaaGreat
namespace Go.Proofs.YtpndmjabjjbefaaGreat
open Go.RowKit Go.ChangeShapes Go.WideShapes Go.Deep
set_option maxRecDepth 100000 in
theorem open_ProdT {H : Type} {enc : TypeId × Value → H} {w : World} {r : Reach} {b0 base : Nat} {spare : Nat → Bool} {held : Bool} {v : Value} {d : DataW H} {ps : List MemPlace}
 (hval : Value.okWide Tryz.prog w r b0 42 v) (h : DataW.Trod enc Tryz.prog w base spare held 42 v d ps) : ∃ (n : Nat) (x : ProdT) (A1 : Option Addr) (c1 : Nat) (A2 : Option Addr) (c2 : Nat), v = .agg #[.string x.name, .slice A1 x.conds.length c1, .slice A2 x.acts.length c2] ∧
   RowR (repCondT n) (· < w.heap.size) w A1 c1 x.conds ∧ RowR repActT (· < w.heap.size) w A2 c2 x.acts := by
 obtain ⟨cs, rfl, _⟩ := okWide_struct Tryz.underlying42 hval
 obtain ⟨fuel, hf⟩ := h
 obtain ⟨x, A1, c1, A2, c2, hx, h1, h2⟩ := openN_ProdT enc w base spare held fuel _ _ hf
 refine ⟨fuel, x, A1, c1, A2, c2, ?_, h1, h2⟩
 simp only [Value.cells] at hx
 have : cs = #[.string x.name, .slice A1 x.conds.length c1, .slice A2 x.acts.length c2] := by rw [← Array.toList_inj]; simpa using hx
 rw [this]
end Go.Proofs.YtpndmjabjjbefaaGreat
namespace Go.Proofs.YtpndmjabjjbefaaGreat
open Go.ChangeShapes Go.WideShapes Go.ChangeAt Go.RowKit Go.Deep
theorem own_fresh : ownKnob Tryz.prog.godebug = none := by kernel_rfl
theorem laid_fresh : laidOutB Tryz.prog = true := by kernel_rfl
set_option maxRecDepth 100000 in
theorem fresh_lifted (os : Os) (started : os.Started) (H : Type) (enc : TypeId × Value → H) :
 ReturnsInHanded {} Tryz.checked os 8 .any (Rows.actFreshSpec.pre6 enc Tryz.prog Tryz.f8 Rows.actFreshRow.domain false) (Rows.actFreshSpec.post enc Tryz.prog Tryz.f8 false true false false) := by
 refine returnsInHanded_of_change (C := Tryz.checked) own_fresh started (by kernel_rfl) Tryz.func8
  (ChangeSpec.witness6 (enc := enc) (C := Tryz.checked) false ⟨#[], #[.agg #[.string ⟨#[]⟩, .slice none 0 0, .slice none 0 0], .slice none 0 0, .slice none 0 0], []⟩ 8 (by kernel_rfl) (by kernel_rfl) (by kernel_rfl) (by kernel_rfl)) ?_
 intro W base args ds gs before hval0 hW hcnd _
 have hval : ∀ (j : Nat) t v, Tryz.f8.params[j]? = some t → args[j]? = some v → Value.okWide Tryz.prog W .any base t v := hval0
 have hW' := hW
 obtain ⟨p, q, hA0, hV, rfl, hfz, hnd⟩ := hW
 have hA : DataW.TrodAll enc Tryz.prog W 0 (fun _ => true) true Tryz.f8.params.toList args.toList ds p := hA0
 rw [Tryz.params8] at hA hval
 obtain ⟨v0, v1, v2, d0, d1, d2, p0, p1, p2, rfl, rfl, rfl, h0, h1, h2⟩ := trodAll_three hA
 obtain ⟨rfl, rfl⟩ := trodVars_none hV
 obtain ⟨m0, x0, B0, b0, C0, e0, rfl, rc0, ra0⟩ := open_ProdT (hval 0 42 v0 rfl rfl) h0
 obtain ⟨A1, c1, l1, rfl, r1⟩ := open_rowR Tryz.underlying28 (by decide) opens_BindT (hval 1 28 v1 rfl rfl) h1
 obtain ⟨A2, c2, l2, rfl, r2⟩ := open_row Tryz.underlying57 (by omega) reads_Sym (hval 2 57 v2 rfl rfl) h2
 clear hA0 hval0
 refine (fresh_walk m0 x0 B0 C0 A1 A2 b0 e0 c1 c2 l1 l2 W rc0 ra0 r1 r2).mono fun e W' ⟨he, hb⟩ => ?_
 subst he
 exact ⟨_, rfl, post_true (tb := 4) laid_fresh rfl hW' (by kernel_rfl) Tryz.underlying4 (fun t ht => by
  have ht' : t ∈ [42, 28, 57] := by
   have e : Tryz.f8.params.toList = [42, 28, 57] := by rw [Tryz.params8]
   rwa [e] at ht
  simp only [List.mem_cons, List.not_mem_nil, or_false] at ht'
  rcases ht' with rfl | rfl | rfl <;> exact ⟨by kernel_rfl, of_decide_eq_true (by kernel_rfl)⟩) rfl rfl rfl hb⟩
theorem fresh_holds : Rows.ActFreshSaid :=
 OpenClaim.holds_of_wide 8 Tryz.f8 rfl rfl rfl rfl rfl rfl rfl ⟨rfl, rfl, rfl, rfl, rfl⟩ rfl rfl rfl rfl rfl (by kernel_rfl) Tryz.func8 (by kernel_rfl)
  (of_decide_eq_true (by kernel_rfl)) (by unfold Func.isWrapper; first | (rw [if_pos (by decide +kernel)]; kernel_rfl) | (rw [if_neg (by decide +kernel)]; exact ⟨rfl, rfl⟩))
  (fun os started H enc _ => fresh_lifted os started H enc)
end Go.Proofs.YtpndmjabjjbefaaGreat
