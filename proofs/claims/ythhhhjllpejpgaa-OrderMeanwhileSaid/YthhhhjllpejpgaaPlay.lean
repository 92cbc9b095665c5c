/-
  The law on plays: whatever is put in, dropped, and asked: its walk.
-/
import Derived.Test.YthhhhjllpejpgaaKitWakes
import Derived.Test.YthhhhjllpejpgaaKitSyms
import Derived.Test.YthhhhjllpejpgaaLawJoins
import Derived.Test.YthhhhjllpejpgaaRefPut
import Derived.Test.YthhhhjllpejpgaaRefHas
import Derived.Test.YthhhhjllpejpgaaRefBelow
import Derived.Test.YthhhhjllpejpgaaRefWithout
import Derived.Test.YthhhhjllpejpgaaRowSym
namespace Go.Proofs.Ythhhhjllpejpgaa
open Go.RowKit
attribute [local go_sem] eql_sym neq_sym
structure Act where
  act : Int
  n : Int
  s : Sym
def Act.cells (a : Act) : List Value := [.int .i64 a.act, .int .i64 a.n, .int .i64 a.s.kind, .string a.s.text, .int .i64 a.s.n]
theorem act_at {w : World} {A : Option Addr} {c k : Nat} {l : List Act} (h : RowRd w 5 Act.cells A c l) (hk : k < l.length) : ∃ g off, A = some ⟨g, off, none⟩ ∧ g < w.heap.size ∧
    w.cell? ⟨g, off + k * 5, none⟩ = some (.int .i64 l[k].act) ∧ w.cell? ⟨g, off + k * 5 + 1, none⟩ = some (.int .i64 l[k].n) ∧ w.cell? ⟨g, off + k * 5 + 2, none⟩ = some (.int .i64 l[k].s.kind) ∧ w.cell? ⟨g, off + k * 5 + 3, none⟩ = some (.string l[k].s.text) ∧ w.cell? ⟨g, off + k * 5 + 4, none⟩ = some (.int .i64 l[k].s.n) := by
  obtain ⟨g, off, hA, hg, hc⟩ := h.at_ hk
  exact ⟨g, off, hA, hg, by simpa using hc 0 _ rfl, by simpa using hc 1 _ rfl, by simpa using hc 2 _ rfl, by simpa using hc 3 _ rfl, by simpa using hc 4 _ rfl⟩
theorem reads_Act : Reads Try.prog 59 5 Act.cells :=
  ⟨by kernel_rfl, fun H enc w base spare held n cs x h => by
    obtain ⟨y0, y1, y2, n', _, hl, h0, h1, h2⟩ := Go.Deep.trod_struct3 Try.underlying59 h
    have hl5 : cs.length = 5 := hl.trans (by kernel_rfl)
    have c3 : Try.prog.cellsOf 3 = 1 := by kernel_rfl
    have cS : Try.prog.cellsOf 27 = 3 := by kernel_rfl
    simp only [c3, cS] at h0 h1 h2
    match cs, hl5 with
    | [v0, v1, v2, v3, v4], _ =>
      simp at h0 h1 h2
      obtain ⟨a, e0, _⟩ := DataW.trod_int Try.underlying3 h0
      obtain ⟨b, e1, _⟩ := DataW.trod_int Try.underlying3 h1
      obtain ⟨s, e2⟩ := reads_Sym.2 H enc w base spare held _ _ _ h2
      simp [Sym.cells] at e0 e1 e2
      obtain ⟨rfl, rfl, rfl⟩ := e2
      subst e0; subst e1
      exact ⟨⟨a, b, s⟩, rfl⟩⟩
/-- What stands in a round: the set's list L; the document's list R, in a row that is under protection. -/
structure Play (w : World) (s : Nat) (D : Nat → Prop) (W : World) (v : Value) (L R : List Sym) : Prop where
  ex : ∃ A c S σ, v = .slice A R.length c ∧ Kept D W A c R ∧ SymSets D W S σ ∧ S s = some L
  low : ∀ j, j < w.heap.size → D j
  bel : Below w.heap.size w W
section
variable {w : World} {s : Nat} {D : Nat → Prop} {W W' : World} {v : Value} {L R : List Sym}
theorem Play.new_ (h : Play w s D W v L R) (hb : Below W.heap.size W W') : Play w s D W' v L R := by
  obtain ⟨⟨A, c, S, σ, h1, h2, h3, h4⟩, h5, h6⟩ := h
  exact ⟨⟨A, c, S, σ, h1, h2.new_ hb, h3.below hb, h4⟩, h5, h6.trans (hb.mono h6.size)⟩
theorem Play.guard (h : Play w s D W v L R) (hb : Below W.heap.size W W') : Play w s (fun j => D j ∨ (W.heap.size ≤ j ∧ j < W'.heap.size)) W' v L R := by
  obtain ⟨⟨A, c, S, σ, h1, h2, h3, h4⟩, h5, h6⟩ := h
  exact ⟨⟨A, c, S, σ, h1, ⟨h2.rd.new_ hb, h2.inn.mono (fun _ h => .inl h)⟩, h3.protect hb, h4⟩, fun j hj => .inl (h5 j hj), h6.trans (hb.mono h6.size)⟩
theorem Play.rd (h : Play w s D W v L R) : ∃ A c, v = .slice A R.length c ∧ RowRd W 3 Sym.cells A c R := by
  obtain ⟨⟨A, c, S, σ, h1, h2, h3, h4⟩, h5, h6⟩ := h
  exact ⟨A, c, h1, h2.rd⟩
theorem Play.set_ (h : Play w s D W v L R) : ∃ sn A c, SymSet W s sn A c L ∧ Srt cmpSym L := by
  obtain ⟨⟨A, c, S, σ, h1, h2, h3, h4⟩, h5, h6⟩ := h
  exact ⟨_, _, _, h3.at_ s L h4, h3.srt s L h4⟩
theorem Play.put_ (x : Sym) (h : Play w s D W v L R) (hl : (L.length : Int) ≤ 100000000) :
    Calls Try.prog 15 #[.pointer (some ⟨s, 0, none⟩), .agg #[.int .i64 x.kind, .string x.text, .int .i64 x.n]] W fun e W1 => e = .returned (.bool (!has cmpSym L x)) ∧ Play w s D W1 v (put cmpSym L x) R ∧ Fr (fun k => ¬ D k) W W1 := by
  obtain ⟨⟨A, c, S, σ, h1, h2, h3, h4⟩, h5, h6⟩ := h
  refine (sPut_Sym x h3 h4 hl).mono ?_
  rintro e W1 ⟨he, σ', hs, _, hF, _⟩
  exact ⟨he, ⟨⟨A, c, _, σ', h1, h2.fr hF, hs, upd_same _ _ _⟩, h5, h6.trans (hF.below h6.size (fun j hj hd => hd (h5 j hj)))⟩, hF⟩
theorem Play.drop_ (x : Sym) (h : Play w s D W v L R) (hl : (L.length : Int) ≤ 100000000) :
    Calls Try.prog 16 #[.pointer (some ⟨s, 0, none⟩), .agg #[.int .i64 x.kind, .string x.text, .int .i64 x.n]] W fun e W1 => e = .returned (.bool (has cmpSym L x)) ∧ Play w s D W1 v (drop cmpSym L x) R ∧ Fr (fun k => ¬ D k) W W1 := by
  obtain ⟨⟨A, c, S, σ, h1, h2, h3, h4⟩, h5, h6⟩ := h
  refine (sDrop_Sym x h3 h4 hl).mono ?_
  rintro e W1 ⟨he, σ', hs, _, hF, _⟩
  exact ⟨he, ⟨⟨A, c, _, σ', h1, h2.fr hF, hs, upd_same _ _ _⟩, h5, h6.trans (hF.below h6.size (fun j hj hd => hd (h5 j hj)))⟩, hF⟩
theorem Play.rput_ (x : Sym) (h : Play w s D W v L R) (hs : Srt cmpSym R) (hl : (R.length : Int) ≤ 100000000) :
    Calls Try.prog 18 #[v, .agg #[.int .i64 x.kind, .string x.text, .int .i64 x.n]] W fun e W1 => ∃ v' D', e = .returned v' ∧ Play w s D' W1 v' L (put cmpSym R x) := by
  obtain ⟨A, c, rfl, hr⟩ := h.rd
  refine (rput_is A c R x W hr hs hl).mono ?_
  rintro e W1 ⟨A', c', rfl, hr', hA', hB⟩
  obtain ⟨⟨A0, c0, S, σ, h1, h2, h3, h4⟩, h5, h6⟩ := h
  injection h1 with e1 _ e3
  subst e1; subst e3
  refine ⟨_, _, rfl, ⟨⟨A', c', S, σ, rfl, ⟨hr', ?_⟩, h3.protect hB, h4⟩, fun j hj => .inl (h5 j hj), h6.trans (hB.mono h6.size)⟩⟩
  rcases hA' with rfl | hA'
  · exact h2.inn.mono (fun _ h => .inl h)
  · exact hA'.mono (fun _ h => .inr h)
theorem Play.rwithout_ (x : Sym) (h : Play w s D W v L R) (hl : (R.length : Int) ≤ 100000000) :
    Calls Try.prog 19 #[v, .agg #[.int .i64 x.kind, .string x.text, .int .i64 x.n]] W fun e W1 => ∃ v' D', e = .returned v' ∧ Play w s D' W1 v' L (drop cmpSym R x) := by
  obtain ⟨A, c, rfl, hr⟩ := h.rd
  refine (without_is A c R x W hr hl).mono ?_
  rintro e W1 ⟨A', c', rfl, hr', hA', hB⟩
  obtain ⟨⟨A0, c0, S, σ, h1, h2, h3, h4⟩, h5, h6⟩ := h
  exact ⟨_, _, rfl, ⟨⟨A', c', S, σ, rfl, ⟨hr', hA'.mono (fun _ h => .inr h)⟩, h3.protect hB, h4⟩, fun j hj => .inl (h5 j hj), h6.trans (hB.mono h6.size)⟩⟩
theorem Play.has_ (x : Sym) (h : Play w s D W v L R) :
    Calls Try.prog 33 #[v, .agg #[.int .i64 x.kind, .string x.text, .int .i64 x.n]] W fun e W1 => e = .returned (.bool (has cmpSym R x)) ∧ Below W.heap.size W W1 := by
  obtain ⟨A, c, rfl, hr⟩ := h.rd
  exact has_is A c R x W hr
theorem Play.below_ (x : Sym) (h : Play w s D W v L R) :
    Calls Try.prog 28 #[v, .agg #[.int .i64 x.kind, .string x.text, .int .i64 x.n]] W fun e W1 => e = .returned (.int .i64 (rank cmpSym R x)) ∧ Below W.heap.size W W1 := by
  obtain ⟨A, c, rfl, hr⟩ := h.rd
  exact below_is A c R x W hr
theorem Play.get_ (x : Sym) (h : Play w s D W v L R) (hl : (L.length : Int) ≤ 1000000000) (hh : has cmpSym L x = true) :
    Calls Try.prog 34 #[.pointer (some ⟨s, 0, none⟩), .agg #[.int .i64 x.kind, .string x.text, .int .i64 x.n]] W fun e W1 => e = .returned (.tuple #[.agg #[.int .i64 x.kind, .string x.text, .int .i64 x.n], .bool true]) ∧ Below W.heap.size W W1 := by
  obtain ⟨sn, A, c, hS, hs⟩ := h.set_
  obtain ⟨h1, _, h2, h3⟩ := drop_eq tc_sym hs hh
  have hx : L[rank cmpSym L x]? = some x := by
    rw [List.getElem?_eq_getElem h1]; congr 1; exact cmpSym_eq.1 h3
  exact get_is_Sym s c sn A L x x W hS hs hl hh hx
theorem Play.getno_ (x : Sym) (h : Play w s D W v L R) (hl : (L.length : Int) ≤ 1000000000) (hh : has cmpSym L x = false) :
    Calls Try.prog 34 #[.pointer (some ⟨s, 0, none⟩), .agg #[.int .i64 x.kind, .string x.text, .int .i64 x.n]] W fun e W1 => e = .returned (.tuple #[.agg #[.int .i64 0, .string ⟨#[]⟩, .int .i64 0], .bool false]) ∧ Below W.heap.size W W1 := by
  obtain ⟨sn, A, c, hS, hs⟩ := h.set_
  exact get_no_Sym s c sn A L x W hS hs hl hh
theorem Play.place_ (x : Sym) (h : Play w s D W v L R) (hl : (L.length : Int) ≤ 1000000000) :
    Calls Try.prog 35 #[.pointer (some ⟨s, 0, none⟩), .agg #[.int .i64 x.kind, .string x.text, .int .i64 x.n]] W (FoundSym L x W) := by
  obtain ⟨sn, A, c, hS, hs⟩ := h.set_
  exact place_Sym s c sn A L x W hS hs hl
theorem Play.atin_ (i : Nat) (x : Sym) (h : Play w s D W v L R) (hi : i < L.length) (hx : x = L[i]) :
    Calls Try.prog 36 #[.pointer (some ⟨s, 0, none⟩), .int .i64 i] W fun e W1 => e = .returned (.tuple #[.agg #[.int .i64 x.kind, .string x.text, .int .i64 x.n], .bool true]) ∧ Below W.heap.size W W1 := by
  obtain ⟨sn, A, c, hS, hs⟩ := h.set_
  exact at_in_Sym s c sn A L i W hS hi x hx
theorem Play.atout_ (i : Int) (h : Play w s D W v L R) (hi : i < 0 ∨ (L.length : Int) ≤ i) :
    Calls Try.prog 36 #[.pointer (some ⟨s, 0, none⟩), .int .i64 i] W fun e W1 => e = .returned (.tuple #[.agg #[.int .i64 0, .string ⟨#[]⟩, .int .i64 0], .bool false]) ∧ Below W.heap.size W W1 := by
  obtain ⟨sn, A, c, hS, hs⟩ := h.set_
  exact at_out_Sym s c sn A L i W hS hi
theorem Play.len_ (h : Play w s D W v L R) :
    Calls Try.prog 37 #[.pointer (some ⟨s, 0, none⟩)] W fun e W1 => e = .returned (.int .i64 L.length) ∧ W = W1 := by
  obtain ⟨sn, A, c, hS, hs⟩ := h.set_
  exact len_Sym s c sn A L W hS
end
theorem neq_zero (W : World) : (binOp .neq 27 (.agg #[.int .i64 0, .string ⟨#[]⟩, .int .i64 0]) (.agg #[.int .i64 0, .string ⟨#[]⟩, .int .i64 0])).run Try.prog W = .ok (.bool false) W := by
  have := neq_sym ⟨0, ⟨#[]⟩, 0⟩ ⟨0, ⟨#[]⟩, 0⟩ W
  simpa using this
theorem neq_same (x : Sym) (W : World) : (binOp .neq 27 (.agg #[.int .i64 x.kind, .string x.text, .int .i64 x.n]) (.agg #[.int .i64 x.kind, .string x.text, .int .i64 x.n])).run Try.prog W = .ok (.bool false) W := by
  have := neq_sym x x W
  simpa using this
end Go.Proofs.Ythhhhjllpejpgaa
