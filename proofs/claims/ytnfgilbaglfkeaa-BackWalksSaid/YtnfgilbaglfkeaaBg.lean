/-
  Texts put together: PutPgT, MiscPgT, NewPgT, BkMapPgT, BkAllPgT.
-/
import Derived.Test.YtnfgilbaglfkeaaBf
import Derived.Test.YtnfgilbaglfkeaaBc
import Derived.Test.YtnfgilbaglfkeaaBe
import Derived.Deep.Cut
import Derived.Maps.RangeWalk
namespace Go.Proofs.Ytnfgilbaglfkeaa
open Go.RowKit
def PutPostPgT (w : World) (b : Nat) (sn : Bool) (A : Option Addr) (l : List PgT) (x : PgT) (e : Ending) (w' : World) : Prop :=
 e = .returned (.bool (!has cmpPgT l x)) ∧ ∃ sn' A' c', PgTSet w' b sn' A' c' (put cmpPgT l x) ∧ Fr (SetMod b sn A) w w' ∧ Moved w sn A sn' A'
set_option maxRecDepth 100000 in
set_option maxHeartbeats 1000000 in
theorem put_there_PgT (b c : Nat) (sn : Bool) (A : Option Addr) (l : List PgT) (x : PgT) (w : World) (hS : PgTSet w b sn A c l) (hs : Srt cmpPgT l) (hl : (l.length : Int) ≤ 100000000) (hh : has cmpPgT l x = true) :
 Calls Try.prog 71 #[.pointer (some ⟨b, 0, none⟩), .agg #[.int .i64 x.kk, .int .i64 x.tr.elem.id.kind, .string x.tr.elem.id.text, .int .i64 x.tr.elem.id.n, .int .i64 x.tr.elem.attr.kind, .string x.tr.elem.attr.text, .int .i64 x.tr.elem.attr.n, .int .i64 x.tr.elem.value.kind, .string x.tr.elem.value.text, .int .i64 x.tr.elem.value.n, .bool x.tr.elem.acc, .bool x.tr.elem.goal, .int .i64 x.tr.elem.tag, .int .i64 x.tr.level, .int .i64 x.tr.cause]] w (PutPostPgT w b sn A l x) := by
 have HS := Lib.hid hS
 have HO := Lib.hid hs
 clear hS hs
 go_enter Try.func71, Try.ntmps71
 go_wp2_with fail
 refine (find_PgT b c sn A l x _ (HS.out.new_ ((Below.refl _ _).alloc (Nat.le_refl _) _)) HO.out (by omega)).mono ?_
 rintro e w1 ⟨rfl, hb1⟩
 go_wp2_with fail
 go_ret
 refine ⟨by rw [hh]; rfl, sn, A, c, ?_, Fr.of_new (((Below.refl _ _).alloc (Nat.le_refl _) _).trans (hb1.mono (by simp))), .inl ⟨rfl, rfl⟩⟩
 rw [put_has hh]
 exact HS.out.new_ (((Below.refl _ _).alloc (Nat.le_refl _) _).trans (hb1.mono (by simp)))
set_option maxRecDepth 100000 in
set_option maxHeartbeats 4000000 in
theorem put_new_PgT (b c : Nat) (sn : Bool) (A : Option Addr) (l : List PgT) (x : PgT) (w : World) (hS : PgTSet w b sn A c l) (hs : Srt cmpPgT l) (hl : (l.length : Int) ≤ 100000000) (hh : has cmpPgT l x = false) :
 Calls Try.prog 71 #[.pointer (some ⟨b, 0, none⟩), .agg #[.int .i64 x.kk, .int .i64 x.tr.elem.id.kind, .string x.tr.elem.id.text, .int .i64 x.tr.elem.id.n, .int .i64 x.tr.elem.attr.kind, .string x.tr.elem.attr.text, .int .i64 x.tr.elem.attr.n, .int .i64 x.tr.elem.value.kind, .string x.tr.elem.value.text, .int .i64 x.tr.elem.value.n, .bool x.tr.elem.acc, .bool x.tr.elem.goal, .int .i64 x.tr.elem.tag, .int .i64 x.tr.level, .int .i64 x.tr.cause]] w (PutPostPgT w b sn A l x) := by
 obtain ⟨i0, hi, hz0, hz1, hz2⟩ := info_parts info_PgT
 have HS := Lib.hid hS
 have HO := Lib.hid hs
 have hb := hS.lt
 clear hS hs
 have hrk := rank_le (cmp := cmpPgT) l x
 go_enter Try.func71, Try.ntmps71
 go_wp2_with fail
 have hSa := HS.out.new_ ((Below.refl w.heap.size w).alloc (Nat.le_refl _) (.cells #[Value.int IntKind.i64 x.kk, Value.int IntKind.i64 x.tr.elem.id.kind, Value.string x.tr.elem.id.text, Value.int IntKind.i64 x.tr.elem.id.n, Value.int IntKind.i64 x.tr.elem.attr.kind, Value.string x.tr.elem.attr.text, Value.int IntKind.i64 x.tr.elem.attr.n, Value.int IntKind.i64 x.tr.elem.value.kind, Value.string x.tr.elem.value.text, Value.int IntKind.i64 x.tr.elem.value.n, Value.bool x.tr.elem.acc, Value.bool x.tr.elem.goal, Value.int IntKind.i64 x.tr.elem.tag, Value.int IntKind.i64 x.tr.level, Value.int IntKind.i64 x.tr.cause] 135))
 have HSa := Lib.hid hSa
 clear hSa
 refine (find_PgT b c sn A l x _ HSa.out HO.out (by omega)).mono ?_
 rintro e w1 ⟨rfl, hb1⟩
 have HS1 := Lib.hid (HSa.out.new_ hb1)
 have hsz1 : w.heap.size + 1 ≤ w1.heap.size := by have := hb1.size; (try simp at this); omega
 have y0 := (hb1.cell (p := ⟨w.heap.size, 0, none⟩) (by simp)).trans ((Blk.new w 135 #[Value.int IntKind.i64 x.kk, Value.int IntKind.i64 x.tr.elem.id.kind, Value.string x.tr.elem.id.text, Value.int IntKind.i64 x.tr.elem.id.n, Value.int IntKind.i64 x.tr.elem.attr.kind, Value.string x.tr.elem.attr.text, Value.int IntKind.i64 x.tr.elem.attr.n, Value.int IntKind.i64 x.tr.elem.value.kind, Value.string x.tr.elem.value.text, Value.int IntKind.i64 x.tr.elem.value.n, Value.bool x.tr.elem.acc, Value.bool x.tr.elem.goal, Value.int IntKind.i64 x.tr.elem.tag, Value.int IntKind.i64 x.tr.level, Value.int IntKind.i64 x.tr.cause]).cell 0)
 have y1 := (hb1.cell (p := ⟨w.heap.size, 1, none⟩) (by simp)).trans ((Blk.new w 135 #[Value.int IntKind.i64 x.kk, Value.int IntKind.i64 x.tr.elem.id.kind, Value.string x.tr.elem.id.text, Value.int IntKind.i64 x.tr.elem.id.n, Value.int IntKind.i64 x.tr.elem.attr.kind, Value.string x.tr.elem.attr.text, Value.int IntKind.i64 x.tr.elem.attr.n, Value.int IntKind.i64 x.tr.elem.value.kind, Value.string x.tr.elem.value.text, Value.int IntKind.i64 x.tr.elem.value.n, Value.bool x.tr.elem.acc, Value.bool x.tr.elem.goal, Value.int IntKind.i64 x.tr.elem.tag, Value.int IntKind.i64 x.tr.level, Value.int IntKind.i64 x.tr.cause]).cell 1)
 have y2 := (hb1.cell (p := ⟨w.heap.size, 2, none⟩) (by simp)).trans ((Blk.new w 135 #[Value.int IntKind.i64 x.kk, Value.int IntKind.i64 x.tr.elem.id.kind, Value.string x.tr.elem.id.text, Value.int IntKind.i64 x.tr.elem.id.n, Value.int IntKind.i64 x.tr.elem.attr.kind, Value.string x.tr.elem.attr.text, Value.int IntKind.i64 x.tr.elem.attr.n, Value.int IntKind.i64 x.tr.elem.value.kind, Value.string x.tr.elem.value.text, Value.int IntKind.i64 x.tr.elem.value.n, Value.bool x.tr.elem.acc, Value.bool x.tr.elem.goal, Value.int IntKind.i64 x.tr.elem.tag, Value.int IntKind.i64 x.tr.level, Value.int IntKind.i64 x.tr.cause]).cell 2)
 have y3 := (hb1.cell (p := ⟨w.heap.size, 3, none⟩) (by simp)).trans ((Blk.new w 135 #[Value.int IntKind.i64 x.kk, Value.int IntKind.i64 x.tr.elem.id.kind, Value.string x.tr.elem.id.text, Value.int IntKind.i64 x.tr.elem.id.n, Value.int IntKind.i64 x.tr.elem.attr.kind, Value.string x.tr.elem.attr.text, Value.int IntKind.i64 x.tr.elem.attr.n, Value.int IntKind.i64 x.tr.elem.value.kind, Value.string x.tr.elem.value.text, Value.int IntKind.i64 x.tr.elem.value.n, Value.bool x.tr.elem.acc, Value.bool x.tr.elem.goal, Value.int IntKind.i64 x.tr.elem.tag, Value.int IntKind.i64 x.tr.level, Value.int IntKind.i64 x.tr.cause]).cell 3)
 have y4 := (hb1.cell (p := ⟨w.heap.size, 4, none⟩) (by simp)).trans ((Blk.new w 135 #[Value.int IntKind.i64 x.kk, Value.int IntKind.i64 x.tr.elem.id.kind, Value.string x.tr.elem.id.text, Value.int IntKind.i64 x.tr.elem.id.n, Value.int IntKind.i64 x.tr.elem.attr.kind, Value.string x.tr.elem.attr.text, Value.int IntKind.i64 x.tr.elem.attr.n, Value.int IntKind.i64 x.tr.elem.value.kind, Value.string x.tr.elem.value.text, Value.int IntKind.i64 x.tr.elem.value.n, Value.bool x.tr.elem.acc, Value.bool x.tr.elem.goal, Value.int IntKind.i64 x.tr.elem.tag, Value.int IntKind.i64 x.tr.level, Value.int IntKind.i64 x.tr.cause]).cell 4)
 have y5 := (hb1.cell (p := ⟨w.heap.size, 5, none⟩) (by simp)).trans ((Blk.new w 135 #[Value.int IntKind.i64 x.kk, Value.int IntKind.i64 x.tr.elem.id.kind, Value.string x.tr.elem.id.text, Value.int IntKind.i64 x.tr.elem.id.n, Value.int IntKind.i64 x.tr.elem.attr.kind, Value.string x.tr.elem.attr.text, Value.int IntKind.i64 x.tr.elem.attr.n, Value.int IntKind.i64 x.tr.elem.value.kind, Value.string x.tr.elem.value.text, Value.int IntKind.i64 x.tr.elem.value.n, Value.bool x.tr.elem.acc, Value.bool x.tr.elem.goal, Value.int IntKind.i64 x.tr.elem.tag, Value.int IntKind.i64 x.tr.level, Value.int IntKind.i64 x.tr.cause]).cell 5)
 have y6 := (hb1.cell (p := ⟨w.heap.size, 6, none⟩) (by simp)).trans ((Blk.new w 135 #[Value.int IntKind.i64 x.kk, Value.int IntKind.i64 x.tr.elem.id.kind, Value.string x.tr.elem.id.text, Value.int IntKind.i64 x.tr.elem.id.n, Value.int IntKind.i64 x.tr.elem.attr.kind, Value.string x.tr.elem.attr.text, Value.int IntKind.i64 x.tr.elem.attr.n, Value.int IntKind.i64 x.tr.elem.value.kind, Value.string x.tr.elem.value.text, Value.int IntKind.i64 x.tr.elem.value.n, Value.bool x.tr.elem.acc, Value.bool x.tr.elem.goal, Value.int IntKind.i64 x.tr.elem.tag, Value.int IntKind.i64 x.tr.level, Value.int IntKind.i64 x.tr.cause]).cell 6)
 have y7 := (hb1.cell (p := ⟨w.heap.size, 7, none⟩) (by simp)).trans ((Blk.new w 135 #[Value.int IntKind.i64 x.kk, Value.int IntKind.i64 x.tr.elem.id.kind, Value.string x.tr.elem.id.text, Value.int IntKind.i64 x.tr.elem.id.n, Value.int IntKind.i64 x.tr.elem.attr.kind, Value.string x.tr.elem.attr.text, Value.int IntKind.i64 x.tr.elem.attr.n, Value.int IntKind.i64 x.tr.elem.value.kind, Value.string x.tr.elem.value.text, Value.int IntKind.i64 x.tr.elem.value.n, Value.bool x.tr.elem.acc, Value.bool x.tr.elem.goal, Value.int IntKind.i64 x.tr.elem.tag, Value.int IntKind.i64 x.tr.level, Value.int IntKind.i64 x.tr.cause]).cell 7)
 have y8 := (hb1.cell (p := ⟨w.heap.size, 8, none⟩) (by simp)).trans ((Blk.new w 135 #[Value.int IntKind.i64 x.kk, Value.int IntKind.i64 x.tr.elem.id.kind, Value.string x.tr.elem.id.text, Value.int IntKind.i64 x.tr.elem.id.n, Value.int IntKind.i64 x.tr.elem.attr.kind, Value.string x.tr.elem.attr.text, Value.int IntKind.i64 x.tr.elem.attr.n, Value.int IntKind.i64 x.tr.elem.value.kind, Value.string x.tr.elem.value.text, Value.int IntKind.i64 x.tr.elem.value.n, Value.bool x.tr.elem.acc, Value.bool x.tr.elem.goal, Value.int IntKind.i64 x.tr.elem.tag, Value.int IntKind.i64 x.tr.level, Value.int IntKind.i64 x.tr.cause]).cell 8)
 have y9 := (hb1.cell (p := ⟨w.heap.size, 9, none⟩) (by simp)).trans ((Blk.new w 135 #[Value.int IntKind.i64 x.kk, Value.int IntKind.i64 x.tr.elem.id.kind, Value.string x.tr.elem.id.text, Value.int IntKind.i64 x.tr.elem.id.n, Value.int IntKind.i64 x.tr.elem.attr.kind, Value.string x.tr.elem.attr.text, Value.int IntKind.i64 x.tr.elem.attr.n, Value.int IntKind.i64 x.tr.elem.value.kind, Value.string x.tr.elem.value.text, Value.int IntKind.i64 x.tr.elem.value.n, Value.bool x.tr.elem.acc, Value.bool x.tr.elem.goal, Value.int IntKind.i64 x.tr.elem.tag, Value.int IntKind.i64 x.tr.level, Value.int IntKind.i64 x.tr.cause]).cell 9)
 have y10 := (hb1.cell (p := ⟨w.heap.size, 10, none⟩) (by simp)).trans ((Blk.new w 135 #[Value.int IntKind.i64 x.kk, Value.int IntKind.i64 x.tr.elem.id.kind, Value.string x.tr.elem.id.text, Value.int IntKind.i64 x.tr.elem.id.n, Value.int IntKind.i64 x.tr.elem.attr.kind, Value.string x.tr.elem.attr.text, Value.int IntKind.i64 x.tr.elem.attr.n, Value.int IntKind.i64 x.tr.elem.value.kind, Value.string x.tr.elem.value.text, Value.int IntKind.i64 x.tr.elem.value.n, Value.bool x.tr.elem.acc, Value.bool x.tr.elem.goal, Value.int IntKind.i64 x.tr.elem.tag, Value.int IntKind.i64 x.tr.level, Value.int IntKind.i64 x.tr.cause]).cell 10)
 have y11 := (hb1.cell (p := ⟨w.heap.size, 11, none⟩) (by simp)).trans ((Blk.new w 135 #[Value.int IntKind.i64 x.kk, Value.int IntKind.i64 x.tr.elem.id.kind, Value.string x.tr.elem.id.text, Value.int IntKind.i64 x.tr.elem.id.n, Value.int IntKind.i64 x.tr.elem.attr.kind, Value.string x.tr.elem.attr.text, Value.int IntKind.i64 x.tr.elem.attr.n, Value.int IntKind.i64 x.tr.elem.value.kind, Value.string x.tr.elem.value.text, Value.int IntKind.i64 x.tr.elem.value.n, Value.bool x.tr.elem.acc, Value.bool x.tr.elem.goal, Value.int IntKind.i64 x.tr.elem.tag, Value.int IntKind.i64 x.tr.level, Value.int IntKind.i64 x.tr.cause]).cell 11)
 have y12 := (hb1.cell (p := ⟨w.heap.size, 12, none⟩) (by simp)).trans ((Blk.new w 135 #[Value.int IntKind.i64 x.kk, Value.int IntKind.i64 x.tr.elem.id.kind, Value.string x.tr.elem.id.text, Value.int IntKind.i64 x.tr.elem.id.n, Value.int IntKind.i64 x.tr.elem.attr.kind, Value.string x.tr.elem.attr.text, Value.int IntKind.i64 x.tr.elem.attr.n, Value.int IntKind.i64 x.tr.elem.value.kind, Value.string x.tr.elem.value.text, Value.int IntKind.i64 x.tr.elem.value.n, Value.bool x.tr.elem.acc, Value.bool x.tr.elem.goal, Value.int IntKind.i64 x.tr.elem.tag, Value.int IntKind.i64 x.tr.level, Value.int IntKind.i64 x.tr.cause]).cell 12)
 have y13 := (hb1.cell (p := ⟨w.heap.size, 13, none⟩) (by simp)).trans ((Blk.new w 135 #[Value.int IntKind.i64 x.kk, Value.int IntKind.i64 x.tr.elem.id.kind, Value.string x.tr.elem.id.text, Value.int IntKind.i64 x.tr.elem.id.n, Value.int IntKind.i64 x.tr.elem.attr.kind, Value.string x.tr.elem.attr.text, Value.int IntKind.i64 x.tr.elem.attr.n, Value.int IntKind.i64 x.tr.elem.value.kind, Value.string x.tr.elem.value.text, Value.int IntKind.i64 x.tr.elem.value.n, Value.bool x.tr.elem.acc, Value.bool x.tr.elem.goal, Value.int IntKind.i64 x.tr.elem.tag, Value.int IntKind.i64 x.tr.level, Value.int IntKind.i64 x.tr.cause]).cell 13)
 have y14 := (hb1.cell (p := ⟨w.heap.size, 14, none⟩) (by simp)).trans ((Blk.new w 135 #[Value.int IntKind.i64 x.kk, Value.int IntKind.i64 x.tr.elem.id.kind, Value.string x.tr.elem.id.text, Value.int IntKind.i64 x.tr.elem.id.n, Value.int IntKind.i64 x.tr.elem.attr.kind, Value.string x.tr.elem.attr.text, Value.int IntKind.i64 x.tr.elem.attr.n, Value.int IntKind.i64 x.tr.elem.value.kind, Value.string x.tr.elem.value.text, Value.int IntKind.i64 x.tr.elem.value.n, Value.bool x.tr.elem.acc, Value.bool x.tr.elem.goal, Value.int IntKind.i64 x.tr.elem.tag, Value.int IntKind.i64 x.tr.level, Value.int IntKind.i64 x.tr.cause]).cell 14)
 have HB1 := Lib.hid hb1
 clear hb1
 go_wp2_with fail
 refine (own_PgT b c sn A l _ HS1.out (by omega)).mono ?_
 rintro e w2 ⟨rfl, A1, c1, hS2, hF2, hM2⟩
 have hsz2 : w1.heap.size ≤ w2.heap.size := hF2.size
 have x0 : w2.cell? ⟨w.heap.size, 0, none⟩ = some (.int .i64 x.kk) := (hF2.cell (p := ⟨w.heap.size, 0, none⟩) (by dsimp only; omega) (by dsimp only; omega)).trans y0
 have x1 : w2.cell? ⟨w.heap.size, 1, none⟩ = some (.int .i64 x.tr.elem.id.kind) := (hF2.cell (p := ⟨w.heap.size, 1, none⟩) (by dsimp only; omega) (by dsimp only; omega)).trans y1
 have x2 : w2.cell? ⟨w.heap.size, 2, none⟩ = some (.string x.tr.elem.id.text) := (hF2.cell (p := ⟨w.heap.size, 2, none⟩) (by dsimp only; omega) (by dsimp only; omega)).trans y2
 have x3 : w2.cell? ⟨w.heap.size, 3, none⟩ = some (.int .i64 x.tr.elem.id.n) := (hF2.cell (p := ⟨w.heap.size, 3, none⟩) (by dsimp only; omega) (by dsimp only; omega)).trans y3
 have x4 : w2.cell? ⟨w.heap.size, 4, none⟩ = some (.int .i64 x.tr.elem.attr.kind) := (hF2.cell (p := ⟨w.heap.size, 4, none⟩) (by dsimp only; omega) (by dsimp only; omega)).trans y4
 have x5 : w2.cell? ⟨w.heap.size, 5, none⟩ = some (.string x.tr.elem.attr.text) := (hF2.cell (p := ⟨w.heap.size, 5, none⟩) (by dsimp only; omega) (by dsimp only; omega)).trans y5
 have x6 : w2.cell? ⟨w.heap.size, 6, none⟩ = some (.int .i64 x.tr.elem.attr.n) := (hF2.cell (p := ⟨w.heap.size, 6, none⟩) (by dsimp only; omega) (by dsimp only; omega)).trans y6
 have x7 : w2.cell? ⟨w.heap.size, 7, none⟩ = some (.int .i64 x.tr.elem.value.kind) := (hF2.cell (p := ⟨w.heap.size, 7, none⟩) (by dsimp only; omega) (by dsimp only; omega)).trans y7
 have x8 : w2.cell? ⟨w.heap.size, 8, none⟩ = some (.string x.tr.elem.value.text) := (hF2.cell (p := ⟨w.heap.size, 8, none⟩) (by dsimp only; omega) (by dsimp only; omega)).trans y8
 have x9 : w2.cell? ⟨w.heap.size, 9, none⟩ = some (.int .i64 x.tr.elem.value.n) := (hF2.cell (p := ⟨w.heap.size, 9, none⟩) (by dsimp only; omega) (by dsimp only; omega)).trans y9
 have x10 : w2.cell? ⟨w.heap.size, 10, none⟩ = some (.bool x.tr.elem.acc) := (hF2.cell (p := ⟨w.heap.size, 10, none⟩) (by dsimp only; omega) (by dsimp only; omega)).trans y10
 have x11 : w2.cell? ⟨w.heap.size, 11, none⟩ = some (.bool x.tr.elem.goal) := (hF2.cell (p := ⟨w.heap.size, 11, none⟩) (by dsimp only; omega) (by dsimp only; omega)).trans y11
 have x12 : w2.cell? ⟨w.heap.size, 12, none⟩ = some (.int .i64 x.tr.elem.tag) := (hF2.cell (p := ⟨w.heap.size, 12, none⟩) (by dsimp only; omega) (by dsimp only; omega)).trans y12
 have x13 : w2.cell? ⟨w.heap.size, 13, none⟩ = some (.int .i64 x.tr.level) := (hF2.cell (p := ⟨w.heap.size, 13, none⟩) (by dsimp only; omega) (by dsimp only; omega)).trans y13
 have x14 : w2.cell? ⟨w.heap.size, 14, none⟩ = some (.int .i64 x.tr.cause) := (hF2.cell (p := ⟨w.heap.size, 14, none⟩) (by dsimp only; omega) (by dsimp only; omega)).trans y14
 have s0 := hS2.cell0
 have f0 := hS2.blk.frozen 0
 have hb2 : b < w2.heap.size := by omega
 have hk2 : w.heap.size < w2.heap.size := by omega
 have HS2 := Lib.hid hS2
 have HF2 := Lib.hid hF2
 have HM2 := Lib.hid hM2
 clear hS2 hF2 hM2 y0 y1 y2 y3 y4 y5 y6 y7 y8 y9 y10 y11 y12 y13 y14
 go_wp2_with fail
 refine wp_region_E (fun w9 => Below w2.heap.size w2 w9) [(0, 0), (1, 0), (2, 0), (3, 0), (4, 1), (5, 1), (6, 2), (7, 2), (8, 0), (9, 0), (10, 2)] (by kernel_rfl) (by kernel_rfl) (fun KK hKK => ?_)
 simp only [beside, List.filterMap_cons, List.filterMap_nil, List.getElem?_toArray, List.getElem?_cons_zero, List.getElem?_cons_succ, Option.map_some]
 repeat ((first | (refine wpX_w ?_ (Or.inl ⟨by rfl, fun w9 => ?_⟩) ?_; rotate_left 1; go_simp; with_reducible rfl) | (refine wpX_l ?_ (((Below.refl _ _).drew)) (Or.inl ⟨by rfl, fun w9 hw9 => ?_⟩) ?_; rotate_left 1; obtain ⟨hc9, hf9⟩ := bcell hw9; go_simp; with_reducible rfl) | refine wpX_w undef (Or.inr ⟨by rfl, rfl⟩) ?_ | refine wpX_l undef (((Below.refl _ _).drew)) (Or.inr ⟨by rfl, rfl⟩) ?_); go_frame)
 refine wpX_es (fun K9 hK9 => ?_)
 go_simp
 refine hK9 _ _ (((Below.refl _ _).drew).alloc (Nat.le_refl _) _) ?_
 clear hK9 K9
 refine wpX_e (by kernel_rfl) (fun K9 hK9 => ?_)
 refine step_append_src _ (by rfl) _ _ _ (by rfl) 135 i0 _ 15 136 Try.underlying166 hi hz0 hz1 hz2 rfl (by omega) _ l.length (l.flatMap PgT.cells) (by rfl) (ownsRow_new HS2.out.row (((Below.refl _ _).drew).alloc (Nat.le_refl _) _)) (some ⟨w2.heap.size, 0, none⟩) 1 1 (PgT.cells x) (by rfl) (by rfl)
  (fun _ => ⟨_, rfl, World.news_of_block (heap_alloc_new _ _)⟩) (PgT.one x) (by unfold maxLen; omega) (by omega) ?_
 intro v2 w3 hown hgr hnil hat
 refine hK9 _ _ ?_
 clear hK9 K9
 obtain ⟨g, c2, rfl⟩ : ∃ g c2, v2 = .slice (some ⟨g, 0, none⟩) (l.length + 1) c2 := by
  rcases ownsRow_form hown with ⟨_, h0, _⟩ | ⟨g, c2, h, _⟩
  · omega
  · exact ⟨g, c2, h⟩
 have HXN : (Value.slice A1 l.length c1).ownBlock ≠ some w.heap.size := by
  intro h
  rcases HM2.out with ⟨hsn, hA⟩ | ⟨_, g2, hg2, hA⟩
  · rcases A1 with _ | a1
    · cases h
    · have h1 := HS.out.row_lt _ hA.symm
      simp only [Value.ownBlock, Option.some.injEq] at h
      omega
  · subst hA
    simp only [Value.ownBlock, Option.some.injEq] at h
    omega
 have HB3' := (HS2.out.blk.drew.alloc (.cells #[Value.int IntKind.i64 x.kk, Value.int IntKind.i64 x.tr.elem.id.kind, Value.string x.tr.elem.id.text, Value.int IntKind.i64 x.tr.elem.id.n, Value.int IntKind.i64 x.tr.elem.attr.kind, Value.string x.tr.elem.attr.text, Value.int IntKind.i64 x.tr.elem.attr.n, Value.int IntKind.i64 x.tr.elem.value.kind, Value.string x.tr.elem.value.text, Value.int IntKind.i64 x.tr.elem.value.n, Value.bool x.tr.elem.acc, Value.bool x.tr.elem.goal, Value.int IntKind.i64 x.tr.elem.tag, Value.int IntKind.i64 x.tr.level, Value.int IntKind.i64 x.tr.cause] 135)).grown hgr (own_blk_ne HS2.out.row HS2.out.blk (by decide))
 have c0 := (HB3'.cell 0).trans rfl
 have z0 := HB3'.frozen 0
 have HB3 := Lib.hid HB3'
 have HOWN := Lib.hid hown
 have HGR := Lib.hid hgr
 clear HB3' hown hgr
 repeat ((first | (refine wpX_w ?_ (Or.inl ⟨by rfl, fun w9 => ?_⟩) ?_; rotate_left 1; go_simp; with_reducible rfl) | (refine wpX_l ?_ (((Below.refl _ _).drew).alloc (Nat.le_refl _) _) (Or.inl ⟨by rfl, fun w9 hw9 => ?_⟩) ?_; rotate_left 1; obtain ⟨hc9, hf9⟩ := bcell hw9; go_simp; with_reducible rfl) | refine wpX_w undef (Or.inr ⟨by rfl, rfl⟩) ?_ | refine wpX_l undef (((Below.refl _ _).drew).alloc (Nat.le_refl _) _) (Or.inr ⟨by rfl, rfl⟩) ?_); go_frame)
 refine wpX_e (by kernel_rfl) (fun K9 hK9 => ?_)
 go_simp
 refine hK9 _ _ ?_
 clear hK9 K9
 refine wpX_nil ?_
 simp only [OnlyN_normal]
 refine hKK _ _ ?_
 clear hKK KK
 have hlg : ((l.length + 1 : Nat) : Int) = (l.length : Int) + 1 := by omega
 have hG : (SetMod b sn A g ∨ w.heap.size ≤ g) ∧ Moved w sn A false (some ⟨g, 0, none⟩) ∧ g ≠ w.heap.size ∧ g ≠ b := by
  rcases hat with h | h
  · rcases A1 with _ | a1
    · simp [Value.ownBlock] at h
    · obtain ⟨A', c', hv, _, _, hz⟩ := own_form2 HS2.out.row
      injection hv with hv _ _
      obtain ⟨g', rfl⟩ := hz a1 hv.symm
      have hgg : g' = g := by simpa [Value.ownBlock] using h.symm
      subst hgg
      have hne : g' ≠ b := HS2.out.row_ne (by decide) _ rfl
      rcases HM2.out with ⟨hsn, hA⟩ | ⟨_, g2, hg2, hA⟩
      · have h1 := HS.out.row_lt _ hA.symm
        exact ⟨.inl (.inr ⟨hsn.symm, _, hA.symm, rfl⟩), .inl ⟨hsn, hA⟩, by dsimp only at h1; omega, hne⟩
      · injection hA with hA
        injection hA with hA
        subst hA
        exact ⟨.inr (by omega), .inr ⟨rfl, _, by omega, rfl⟩, by omega, hne⟩
  · have hgg : g = w2.heap.size + 1 := by simpa [Value.ownBlock] using h
    subst hgg
    exact ⟨.inr (by omega), .inr ⟨rfl, _, by omega, rfl⟩, by omega, by omega⟩
 obtain ⟨hgM, hgMv, hgk1, hgb⟩ := hG
 obtain ⟨w4, hw4⟩ : ∃ w4, w4 = w3.setCell ⟨b, 0, none⟩ (.slice (some ⟨g, 0, none⟩) (l.length + 1) c2) := ⟨_, rfl⟩
 have hB4 : Blk w4 b 168 #[.slice (some ⟨g, 0, none⟩) (l.length + 1) c2, .bool false] := by rw [hw4]; exact HB3.out.set_ 0 _
 have hR4 : w4.ownsRow 0 135 15 (.slice (some ⟨g, 0, none⟩) (l.length + 1) c2) (l.length + 1) ((shiftAt l x l.length).flatMap PgT.cells) := by
  rw [hw4, shiftAt_start]
  refine ownsRow_setCell_other (a := ⟨b, 0, none⟩) ?_ (by simpa [Value.ownBlock] using hgb) _
  rw [List.flatMap_append, List.flatMap_singleton]
  exact HOWN.out
 have hF4 : Fr (SetMod b sn A) w w4 := by
  rw [hw4]
  have h1 : Fr (SetMod b sn A) w w1 := Fr.of_new (((Below.refl _ _).alloc (Nat.le_refl _) _).trans (HB1.out.mono (by simp)))
  have h2 : Fr (SetMod b sn A) w w2 := h1.trans (HF2.out.mono (fun k _ h => .inl h))
  refine ((h2.drew.alloc _).grown HGR.out (fun k hk => ?_)).setCell (p := ⟨b, 0, none⟩) (.inl (.inl rfl)) _
  rcases A1 with _ | a1
  · cases hk
  · simp only [Value.ownBlock, Option.some.injEq] at hk
    subst hk
    rcases HM2.out with ⟨hsn, hA⟩ | ⟨_, g', hg', hA⟩
    · left; right; exact ⟨hsn.symm, a1, hA.symm, rfl⟩
    · injection hA with hA
      subst hA
      right; dsimp only; omega
 have z0 : w4.cell? ⟨w.heap.size, 0, none⟩ = some (.int .i64 x.kk) := by
  rw [hw4, World.cell?_setCell_other _ _ _ _ (by intro h; injection h; omega)]
  refine HGR.out.cell ((World.cell?_alloc_lt w2.drew _ ⟨w.heap.size, 0, none⟩ hk2).trans x0) ?_
  intro h
  exact HXN (by simpa using h.symm)
 have z1 : w4.cell? ⟨w.heap.size, 1, none⟩ = some (.int .i64 x.tr.elem.id.kind) := by
  rw [hw4, World.cell?_setCell_other _ _ _ _ (by intro h; injection h; omega)]
  refine HGR.out.cell ((World.cell?_alloc_lt w2.drew _ ⟨w.heap.size, 1, none⟩ hk2).trans x1) ?_
  intro h
  exact HXN (by simpa using h.symm)
 have z2 : w4.cell? ⟨w.heap.size, 2, none⟩ = some (.string x.tr.elem.id.text) := by
  rw [hw4, World.cell?_setCell_other _ _ _ _ (by intro h; injection h; omega)]
  refine HGR.out.cell ((World.cell?_alloc_lt w2.drew _ ⟨w.heap.size, 2, none⟩ hk2).trans x2) ?_
  intro h
  exact HXN (by simpa using h.symm)
 have z3 : w4.cell? ⟨w.heap.size, 3, none⟩ = some (.int .i64 x.tr.elem.id.n) := by
  rw [hw4, World.cell?_setCell_other _ _ _ _ (by intro h; injection h; omega)]
  refine HGR.out.cell ((World.cell?_alloc_lt w2.drew _ ⟨w.heap.size, 3, none⟩ hk2).trans x3) ?_
  intro h
  exact HXN (by simpa using h.symm)
 have z4 : w4.cell? ⟨w.heap.size, 4, none⟩ = some (.int .i64 x.tr.elem.attr.kind) := by
  rw [hw4, World.cell?_setCell_other _ _ _ _ (by intro h; injection h; omega)]
  refine HGR.out.cell ((World.cell?_alloc_lt w2.drew _ ⟨w.heap.size, 4, none⟩ hk2).trans x4) ?_
  intro h
  exact HXN (by simpa using h.symm)
 have z5 : w4.cell? ⟨w.heap.size, 5, none⟩ = some (.string x.tr.elem.attr.text) := by
  rw [hw4, World.cell?_setCell_other _ _ _ _ (by intro h; injection h; omega)]
  refine HGR.out.cell ((World.cell?_alloc_lt w2.drew _ ⟨w.heap.size, 5, none⟩ hk2).trans x5) ?_
  intro h
  exact HXN (by simpa using h.symm)
 have z6 : w4.cell? ⟨w.heap.size, 6, none⟩ = some (.int .i64 x.tr.elem.attr.n) := by
  rw [hw4, World.cell?_setCell_other _ _ _ _ (by intro h; injection h; omega)]
  refine HGR.out.cell ((World.cell?_alloc_lt w2.drew _ ⟨w.heap.size, 6, none⟩ hk2).trans x6) ?_
  intro h
  exact HXN (by simpa using h.symm)
 have z7 : w4.cell? ⟨w.heap.size, 7, none⟩ = some (.int .i64 x.tr.elem.value.kind) := by
  rw [hw4, World.cell?_setCell_other _ _ _ _ (by intro h; injection h; omega)]
  refine HGR.out.cell ((World.cell?_alloc_lt w2.drew _ ⟨w.heap.size, 7, none⟩ hk2).trans x7) ?_
  intro h
  exact HXN (by simpa using h.symm)
 have z8 : w4.cell? ⟨w.heap.size, 8, none⟩ = some (.string x.tr.elem.value.text) := by
  rw [hw4, World.cell?_setCell_other _ _ _ _ (by intro h; injection h; omega)]
  refine HGR.out.cell ((World.cell?_alloc_lt w2.drew _ ⟨w.heap.size, 8, none⟩ hk2).trans x8) ?_
  intro h
  exact HXN (by simpa using h.symm)
 have z9 : w4.cell? ⟨w.heap.size, 9, none⟩ = some (.int .i64 x.tr.elem.value.n) := by
  rw [hw4, World.cell?_setCell_other _ _ _ _ (by intro h; injection h; omega)]
  refine HGR.out.cell ((World.cell?_alloc_lt w2.drew _ ⟨w.heap.size, 9, none⟩ hk2).trans x9) ?_
  intro h
  exact HXN (by simpa using h.symm)
 have z10 : w4.cell? ⟨w.heap.size, 10, none⟩ = some (.bool x.tr.elem.acc) := by
  rw [hw4, World.cell?_setCell_other _ _ _ _ (by intro h; injection h; omega)]
  refine HGR.out.cell ((World.cell?_alloc_lt w2.drew _ ⟨w.heap.size, 10, none⟩ hk2).trans x10) ?_
  intro h
  exact HXN (by simpa using h.symm)
 have z11 : w4.cell? ⟨w.heap.size, 11, none⟩ = some (.bool x.tr.elem.goal) := by
  rw [hw4, World.cell?_setCell_other _ _ _ _ (by intro h; injection h; omega)]
  refine HGR.out.cell ((World.cell?_alloc_lt w2.drew _ ⟨w.heap.size, 11, none⟩ hk2).trans x11) ?_
  intro h
  exact HXN (by simpa using h.symm)
 have z12 : w4.cell? ⟨w.heap.size, 12, none⟩ = some (.int .i64 x.tr.elem.tag) := by
  rw [hw4, World.cell?_setCell_other _ _ _ _ (by intro h; injection h; omega)]
  refine HGR.out.cell ((World.cell?_alloc_lt w2.drew _ ⟨w.heap.size, 12, none⟩ hk2).trans x12) ?_
  intro h
  exact HXN (by simpa using h.symm)
 have z13 : w4.cell? ⟨w.heap.size, 13, none⟩ = some (.int .i64 x.tr.level) := by
  rw [hw4, World.cell?_setCell_other _ _ _ _ (by intro h; injection h; omega)]
  refine HGR.out.cell ((World.cell?_alloc_lt w2.drew _ ⟨w.heap.size, 13, none⟩ hk2).trans x13) ?_
  intro h
  exact HXN (by simpa using h.symm)
 have z14 : w4.cell? ⟨w.heap.size, 14, none⟩ = some (.int .i64 x.tr.cause) := by
  rw [hw4, World.cell?_setCell_other _ _ _ _ (by intro h; injection h; omega)]
  refine HGR.out.cell ((World.cell?_alloc_lt w2.drew _ ⟨w.heap.size, 14, none⟩ hk2).trans x14) ?_
  intro h
  exact HXN (by simpa using h.symm)
 have hk4 : w.heap.size < w4.heap.size := by rw [hw4]; have := HGR.out.size; simp at this ⊢; omega
 rw [← hw4]
 have HgM := Lib.hid hgM
 have HgMv := Lib.hid hgMv
 have HB4 := Lib.hid hB4
 have HR4 := Lib.hid hR4
 have HF4 := Lib.hid hF4
 have s4 := hB4.cell 0
 have s4' : w4.cell? ⟨b, 0, none⟩ = some (.slice (some ⟨g, 0, none⟩) (l.length + 1) c2) := s4
 clear s4 hw4 hB4 hR4 hF4 hat hgM hgMv hnil x0 x1 x2 x3 x4 x5 x6 x7 x8 x9 x10 x11 x12 x13 x14 s0 f0
 go_wp2_with fail
 go_loopw [7] (fun s wr => ∃ i : Nat, s = .int .i64 i ∧ rank cmpPgT l x ≤ i ∧ i ≤ l.length ∧ wr.ownsRow 0 135 15 (.slice (some ⟨g, 0, none⟩) (l.length + 1) c2) (l.length + 1) ((shiftAt l x i).flatMap PgT.cells) ∧ Fr (· = g) w4 wr) (fun s wr => (intOf s).toNat)
 case atStart => exact ⟨l.length, by go_num, hrk, Nat.le_refl _, HR4.out, Fr.refl _ _⟩
 case round =>
  obtain ⟨i, rfl, hi1, hi2, hown, hfr⟩ := hrel
  have hgw : g < wr.heap.size := (hown.lt g rfl).2
  have r0 : wr.cell? ⟨b, 0, none⟩ = some (.slice (some ⟨g, 0, none⟩) (l.length + 1) c2) := (hfr.cell (p := ⟨b, 0, none⟩) HB4.out.lt (fun h => hgb h.symm)).trans s4'
  have fz : ∀ o, wr.frozen? ⟨g, o, none⟩ = false := fun o => hown.frozenAt o
  have HOW := Lib.hid hown
  have HFR := Lib.hid hfr
  clear hown hfr
  by_cases hlt : rank cmpPgT l x < i
  · obtain ⟨j, rfl⟩ : ∃ j, i = j + 1 := ⟨i - 1, by omega⟩
    have hj : j < l.length := by omega
    have hrd := ownsRow_rd (A := some ⟨g, 0, none⟩) (c := c2) (l := shiftAt l x (j + 1)) PgT.cells_length (by rw [shiftAt_length l x hi2]; exact HOW.out)
    obtain ⟨g', o', hgo, _, hcell⟩ := hrd.at_ (k := j) (by rw [shiftAt_length l x hi2]; omega)
    injection hgo with hgo
    injection hgo with hg1 hg2
    subst hg1; subst hg2
    rw [shiftAt_read l x hj] at hcell
    have q0 : wr.cell? ⟨g, j * 15, none⟩ = some (.int .i64 l[j].kk) := by simpa using hcell 0 _ rfl
    have q1 : wr.cell? ⟨g, j * 15 + 1, none⟩ = some (.int .i64 l[j].tr.elem.id.kind) := by simpa using hcell 1 _ rfl
    have q2 : wr.cell? ⟨g, j * 15 + 2, none⟩ = some (.string l[j].tr.elem.id.text) := by simpa using hcell 2 _ rfl
    have q3 : wr.cell? ⟨g, j * 15 + 3, none⟩ = some (.int .i64 l[j].tr.elem.id.n) := by simpa using hcell 3 _ rfl
    have q4 : wr.cell? ⟨g, j * 15 + 4, none⟩ = some (.int .i64 l[j].tr.elem.attr.kind) := by simpa using hcell 4 _ rfl
    have q5 : wr.cell? ⟨g, j * 15 + 5, none⟩ = some (.string l[j].tr.elem.attr.text) := by simpa using hcell 5 _ rfl
    have q6 : wr.cell? ⟨g, j * 15 + 6, none⟩ = some (.int .i64 l[j].tr.elem.attr.n) := by simpa using hcell 6 _ rfl
    have q7 : wr.cell? ⟨g, j * 15 + 7, none⟩ = some (.int .i64 l[j].tr.elem.value.kind) := by simpa using hcell 7 _ rfl
    have q8 : wr.cell? ⟨g, j * 15 + 8, none⟩ = some (.string l[j].tr.elem.value.text) := by simpa using hcell 8 _ rfl
    have q9 : wr.cell? ⟨g, j * 15 + 9, none⟩ = some (.int .i64 l[j].tr.elem.value.n) := by simpa using hcell 9 _ rfl
    have q10 : wr.cell? ⟨g, j * 15 + 10, none⟩ = some (.bool l[j].tr.elem.acc) := by simpa using hcell 10 _ rfl
    have q11 : wr.cell? ⟨g, j * 15 + 11, none⟩ = some (.bool l[j].tr.elem.goal) := by simpa using hcell 11 _ rfl
    have q12 : wr.cell? ⟨g, j * 15 + 12, none⟩ = some (.int .i64 l[j].tr.elem.tag) := by simpa using hcell 12 _ rfl
    have q13 : wr.cell? ⟨g, j * 15 + 13, none⟩ = some (.int .i64 l[j].tr.level) := by simpa using hcell 13 _ rfl
    have q14 : wr.cell? ⟨g, j * 15 + 14, none⟩ = some (.int .i64 l[j].tr.cause) := by simpa using hcell 14 _ rfl
    have rmj : Room wr g 135 (c2 * 15) ∧ l.length + 1 ≤ c2 := by
     rcases ownsRow_form HOW.out with ⟨hv, _⟩ | ⟨g', cap, hv, hn, _, hr, _⟩
     · cases hv
     · injection hv with hA _ hc
       injection hA with hA
       injection hA with hA
       subst hA; subst hc
       exact ⟨hr, hn⟩
    obtain ⟨hrm, hcap⟩ := rmj
    have b0 : (0 : Int) ≤ (j : Int) + 1 := by omega
    have b1 : (0 : Int) ≤ (j : Int) := by omega
    have b4 : (j : Int) < (l.length : Int) := by omega
    have b2 : (j : Int) < (l.length : Int) + 1 := by omega
    have b3 : (j : Int) + 1 < (l.length : Int) + 1 := by omega
    have w1 : IntKind.i64.wrap ((j : Int)) = (j : Int) := IntWalk.i64_in _ (by omega)
    have w2 : IntKind.i64.wrap ((j : Int) + 1 - 1) = (j : Int) := by rw [IntWalk.i64_in _ (by omega)]; omega
    have HRM := Lib.hid hrm
    clear hcell hrd hrm
    obtain ⟨y, hy⟩ : ∃ y, y = l[j] := ⟨_, rfl⟩
    rw [← hy] at q0 q1 q2 q3 q4 q5 q6 q7 q8 q9 q10 q11 q12 q13 q14
    have HY := Lib.hid hy
    have hbw : b < wr.heap.size := World.block_lt_of_cell? wr _ r0
    clear hy
    go_wp2_with fail
    refine wp_region_E (fun w9 => Below wr.heap.size wr w9) [(0, 0), (1, 0), (2, 0), (3, 1), (4, 0), (5, 0), (6, 0), (7, 0), (8, 1), (9, 0), (10, 0), (11, 0), (12, 1), (13, 0), (14, 2)] (by kernel_rfl) (by kernel_rfl) (fun KK hKK => ?_)
    simp only [beside, List.filterMap_cons, List.filterMap_nil, List.getElem?_toArray, List.getElem?_cons_zero, List.getElem?_cons_succ, Option.map_some]
    repeat ((first | (refine wpX_w ?_ (Or.inl ⟨by rfl, fun w9 => ?_⟩) ?_; rotate_left 1; go_simp; with_reducible rfl) | (refine wpX_l ?_ (((Below.refl _ _).drew)) (Or.inl ⟨by rfl, fun w9 hw9 => ?_⟩) ?_; rotate_left 1; obtain ⟨hc9, hf9⟩ := bcell hw9; go_simp; with_reducible rfl) | refine wpX_w undef (Or.inr ⟨by rfl, rfl⟩) ?_ | refine wpX_l undef (((Below.refl _ _).drew)) (Or.inr ⟨by rfl, rfl⟩) ?_); go_frame)
    refine wpX_e (by kernel_rfl) (fun K9 hK9 => ?_)
    refine step_store_el rfl 135 (.tmp 53) (.tmp 52) rfl g ((j + 1) * 15) #[.int .i64 y.kk, .int .i64 y.tr.elem.id.kind, .string y.tr.elem.id.text, .int .i64 y.tr.elem.id.n, .int .i64 y.tr.elem.attr.kind, .string y.tr.elem.attr.text, .int .i64 y.tr.elem.attr.n, .int .i64 y.tr.elem.value.kind, .string y.tr.elem.value.text, .int .i64 y.tr.elem.value.n, .bool y.tr.elem.acc, .bool y.tr.elem.goal, .int .i64 y.tr.elem.tag, .int .i64 y.tr.level, .int .i64 y.tr.cause] (by rfl) (by rfl) (Room.there (w := wr.drew) HRM.out.drew (by simp; omega)) (by kernel_rfl) (all_oneCell_toArray (cs := PgT.cells y) (PgT.one y)) ?_
    refine hK9 _ _ ?_
    clear hK9 K9
    refine wpX_nil ?_
    simp only [OnlyN_normal]
    refine hKK _ _ ?_
    clear hKK KK
    go_wp2_with fail
    go_roundw
    case rel =>
     refine ⟨j, by go_num, by omega, by omega, ?_, Fr.setCells _ _ (Fr.drew HFR.out) (.inl rfl)⟩
     have hst := ownsRow_element PgT.cells_length (by omega) (show wr.drew.ownsRow 0 135 15 (.slice (some ⟨g, 0, none⟩) (l.length + 1) c2) (l.length + 1) ((shiftAt l x (j + 1)).flatMap PgT.cells) from HOW.out) (j + 1) (by rw [shiftAt_length l x hi2]; omega) y
     have e9 : (shiftAt l x (j + 1)).set (j + 1) y = shiftAt l x j := by rw [HY.out, shiftAt_step l x hj]
     rw [e9] at hst
     exact hst
    case measure => simp [intOf] <;> omega
  · obtain rfl : i = rank cmpPgT l x := by omega
    have rmj : Room wr g 135 (c2 * 15) ∧ l.length + 1 ≤ c2 := by
     rcases ownsRow_form HOW.out with ⟨hv, _⟩ | ⟨g', cap, hv, hn, _, hr, _⟩
     · cases hv
     · injection hv with hA _ hc
       injection hA with hA
       injection hA with hA
       subst hA; subst hc
       exact ⟨hr, hn⟩
    obtain ⟨hrm, hcap⟩ := rmj
    obtain ⟨k, hk⟩ : ∃ k, k = rank cmpPgT l x := ⟨_, rfl⟩
    rw [← hk] at hi2 hlt ⊢
    have x0 := (HFR.out.cell (p := ⟨w.heap.size, 0, none⟩) hk4 (fun h => hgk1 h.symm)).trans z0
    have x1 := (HFR.out.cell (p := ⟨w.heap.size, 1, none⟩) hk4 (fun h => hgk1 h.symm)).trans z1
    have x2 := (HFR.out.cell (p := ⟨w.heap.size, 2, none⟩) hk4 (fun h => hgk1 h.symm)).trans z2
    have x3 := (HFR.out.cell (p := ⟨w.heap.size, 3, none⟩) hk4 (fun h => hgk1 h.symm)).trans z3
    have x4 := (HFR.out.cell (p := ⟨w.heap.size, 4, none⟩) hk4 (fun h => hgk1 h.symm)).trans z4
    have x5 := (HFR.out.cell (p := ⟨w.heap.size, 5, none⟩) hk4 (fun h => hgk1 h.symm)).trans z5
    have x6 := (HFR.out.cell (p := ⟨w.heap.size, 6, none⟩) hk4 (fun h => hgk1 h.symm)).trans z6
    have x7 := (HFR.out.cell (p := ⟨w.heap.size, 7, none⟩) hk4 (fun h => hgk1 h.symm)).trans z7
    have x8 := (HFR.out.cell (p := ⟨w.heap.size, 8, none⟩) hk4 (fun h => hgk1 h.symm)).trans z8
    have x9 := (HFR.out.cell (p := ⟨w.heap.size, 9, none⟩) hk4 (fun h => hgk1 h.symm)).trans z9
    have x10 := (HFR.out.cell (p := ⟨w.heap.size, 10, none⟩) hk4 (fun h => hgk1 h.symm)).trans z10
    have x11 := (HFR.out.cell (p := ⟨w.heap.size, 11, none⟩) hk4 (fun h => hgk1 h.symm)).trans z11
    have x12 := (HFR.out.cell (p := ⟨w.heap.size, 12, none⟩) hk4 (fun h => hgk1 h.symm)).trans z12
    have x13 := (HFR.out.cell (p := ⟨w.heap.size, 13, none⟩) hk4 (fun h => hgk1 h.symm)).trans z13
    have x14 := (HFR.out.cell (p := ⟨w.heap.size, 14, none⟩) hk4 (fun h => hgk1 h.symm)).trans z14
    have b1 : (0 : Int) ≤ (k : Int) := by omega
    have b2 : (k : Int) < (l.length : Int) + 1 := by omega
    have HK := Lib.hid hk
    have hkw : w.heap.size < wr.heap.size := by have := HFR.out.size; omega
    have hbw : b < wr.heap.size := World.block_lt_of_cell? wr _ r0
    have HRM := Lib.hid hrm
    clear hrm hk z0 z1 z2 z3 z4 z5 z6 z7 z8 z9 z10 z11 z12 z13 z14
    go_wp2_with fail
    refine wp_region_E (fun w9 => Below wr.heap.size wr w9) [(0, 0), (1, 0), (2, 0), (3, 1), (4, 0), (5, 1), (6, 0), (7, 2)] (by kernel_rfl) (by kernel_rfl) (fun KK hKK => ?_)
    simp only [beside, List.filterMap_cons, List.filterMap_nil, List.getElem?_toArray, List.getElem?_cons_zero, List.getElem?_cons_succ, Option.map_some]
    repeat ((first | (refine wpX_w ?_ (Or.inl ⟨by rfl, fun w9 => ?_⟩) ?_; rotate_left 1; go_simp; with_reducible rfl) | (refine wpX_l ?_ (((Below.refl _ _).drew)) (Or.inl ⟨by rfl, fun w9 hw9 => ?_⟩) ?_; rotate_left 1; obtain ⟨hc9, hf9⟩ := bcell hw9; go_simp; with_reducible rfl) | refine wpX_w undef (Or.inr ⟨by rfl, rfl⟩) ?_ | refine wpX_l undef (((Below.refl _ _).drew)) (Or.inr ⟨by rfl, rfl⟩) ?_); go_frame)
    refine wpX_e (by kernel_rfl) (fun K9 hK9 => ?_)
    refine step_store_el rfl 135 (.tmp 60) (.tmp 59) rfl g (k * 15) #[.int .i64 x.kk, .int .i64 x.tr.elem.id.kind, .string x.tr.elem.id.text, .int .i64 x.tr.elem.id.n, .int .i64 x.tr.elem.attr.kind, .string x.tr.elem.attr.text, .int .i64 x.tr.elem.attr.n, .int .i64 x.tr.elem.value.kind, .string x.tr.elem.value.text, .int .i64 x.tr.elem.value.n, .bool x.tr.elem.acc, .bool x.tr.elem.goal, .int .i64 x.tr.elem.tag, .int .i64 x.tr.level, .int .i64 x.tr.cause] (by rfl) (by rfl) (Room.there (w := wr.drew) HRM.out.drew (by simp; omega)) (by kernel_rfl) (all_oneCell_toArray (cs := PgT.cells x) (PgT.one x)) ?_
    refine hK9 _ _ ?_
    clear hK9 K9
    refine wpX_nil ?_
    simp only [OnlyN_normal]
    refine hKK _ _ ?_
    clear hKK KK
    go_wp2_with fail
    go_ret
    have HOWk := HOW.out
    rw [← HK.out] at HOWk
    have hst := ownsRow_element PgT.cells_length (by omega) (show wr.drew.ownsRow 0 135 15 (.slice (some ⟨g, 0, none⟩) (l.length + 1) c2) (l.length + 1) ((shiftAt l x k).flatMap PgT.cells) from HOWk) k (by rw [shiftAt_length l x hi2]; omega) x
    have e9 : (shiftAt l x k).set k x = put cmpPgT l x := by rw [shiftAt_end l x hi2, put_eq tc_pgt HO.out hh, HK.out]
    rw [e9] at hst
    have hln := length_put tc_pgt HO.out hh
    refine ⟨by rw [hh]; rfl, false, some ⟨g, 0, none⟩, c2, ⟨?_, ?_⟩, ?_, ?_⟩
    · rw [hln]
      exact Blk.farCells _ _ (HB4.out.fr HFR.out (fun h => hgb h.symm)).drew (fun h => hgb h.symm)
    · rw [hln]
      exact hst
    · exact HF4.out.into (Fr.setCells _ _ (Fr.drew HFR.out) (.inl rfl)) (fun k hk => by subst hk; exact HgM.out)
    · exact HgMv.out
theorem put_PgT (b c : Nat) (sn : Bool) (A : Option Addr) (l : List PgT) (x : PgT) (w : World) (hS : PgTSet w b sn A c l) (hs : Srt cmpPgT l) (hl : (l.length : Int) ≤ 100000000) :
 Calls Try.prog 71 #[.pointer (some ⟨b, 0, none⟩), .agg #[.int .i64 x.kk, .int .i64 x.tr.elem.id.kind, .string x.tr.elem.id.text, .int .i64 x.tr.elem.id.n, .int .i64 x.tr.elem.attr.kind, .string x.tr.elem.attr.text, .int .i64 x.tr.elem.attr.n, .int .i64 x.tr.elem.value.kind, .string x.tr.elem.value.text, .int .i64 x.tr.elem.value.n, .bool x.tr.elem.acc, .bool x.tr.elem.goal, .int .i64 x.tr.elem.tag, .int .i64 x.tr.level, .int .i64 x.tr.cause]] w (PutPostPgT w b sn A l x) := by
 cases hh : has cmpPgT l x
 · exact put_new_PgT b c sn A l x w hS hs hl hh
 · exact put_there_PgT b c sn A l x w hS hs hl hh
end Go.Proofs.Ytnfgilbaglfkeaa
namespace Go.Proofs.Ytnfgilbaglfkeaa
open Go.RowKit
set_option maxRecDepth 100000 in
set_option maxHeartbeats 4000000 in
theorem get_no_PgT (b c : Nat) (sn : Bool) (A : Option Addr) (l : List PgT) (x : PgT) (w : World) (hS : PgTSet w b sn A c l) (hs : Srt cmpPgT l) (hl : (l.length : Int) ≤ 1000000000) (hh : has cmpPgT l x = false) :
 Calls Try.prog 69 #[.pointer (some ⟨b, 0, none⟩), .agg #[.int .i64 x.kk, .int .i64 x.tr.elem.id.kind, .string x.tr.elem.id.text, .int .i64 x.tr.elem.id.n, .int .i64 x.tr.elem.attr.kind, .string x.tr.elem.attr.text, .int .i64 x.tr.elem.attr.n, .int .i64 x.tr.elem.value.kind, .string x.tr.elem.value.text, .int .i64 x.tr.elem.value.n, .bool x.tr.elem.acc, .bool x.tr.elem.goal, .int .i64 x.tr.elem.tag, .int .i64 x.tr.level, .int .i64 x.tr.cause]] w fun e w' => e = .returned (.tuple #[.agg #[.int .i64 0, .int .i64 0, .string ⟨#[]⟩, .int .i64 0, .int .i64 0, .string ⟨#[]⟩, .int .i64 0, .int .i64 0, .string ⟨#[]⟩, .int .i64 0, .bool false, .bool false, .int .i64 0, .int .i64 0, .int .i64 0], .bool false]) ∧ Below w.heap.size w w' := by
 have HS := Lib.hid hS
 have HO := Lib.hid hs
 clear hS hs
 go_enter Try.func69, Try.ntmps69
 go_wp2_with fail
 obtain ⟨W, hW⟩ : ∃ W, W = ((w.alloc (.cells #[Value.int IntKind.i64 x.kk, Value.int IntKind.i64 x.tr.elem.id.kind, Value.string x.tr.elem.id.text, Value.int IntKind.i64 x.tr.elem.id.n, Value.int IntKind.i64 x.tr.elem.attr.kind, Value.string x.tr.elem.attr.text, Value.int IntKind.i64 x.tr.elem.attr.n, Value.int IntKind.i64 x.tr.elem.value.kind, Value.string x.tr.elem.value.text, Value.int IntKind.i64 x.tr.elem.value.n, Value.bool x.tr.elem.acc, Value.bool x.tr.elem.goal, Value.int IntKind.i64 x.tr.elem.tag, Value.int IntKind.i64 x.tr.level, Value.int IntKind.i64 x.tr.cause] 135)).alloc (.cells #[.int .i64 0, .int .i64 0, .string ⟨#[]⟩, .int .i64 0, .int .i64 0, .string ⟨#[]⟩, .int .i64 0, .int .i64 0, .string ⟨#[]⟩, .int .i64 0, .bool false, .bool false, .int .i64 0, .int .i64 0, .int .i64 0] 135)).alloc (.cells #[.int .i64 0, .int .i64 0, .string ⟨#[]⟩, .int .i64 0, .int .i64 0, .string ⟨#[]⟩, .int .i64 0, .int .i64 0, .string ⟨#[]⟩, .int .i64 0, .bool false, .bool false, .int .i64 0, .int .i64 0, .int .i64 0] 135) := ⟨_, rfl⟩
 have hR : Blk W (w.heap.size + 1) 135 #[.int .i64 0, .int .i64 0, .string ⟨#[]⟩, .int .i64 0, .int .i64 0, .string ⟨#[]⟩, .int .i64 0, .int .i64 0, .string ⟨#[]⟩, .int .i64 0, .bool false, .bool false, .int .i64 0, .int .i64 0, .int .i64 0] := by
  rw [hW]
  have := (Blk.new (w.alloc (.cells #[Value.int IntKind.i64 x.kk, Value.int IntKind.i64 x.tr.elem.id.kind, Value.string x.tr.elem.id.text, Value.int IntKind.i64 x.tr.elem.id.n, Value.int IntKind.i64 x.tr.elem.attr.kind, Value.string x.tr.elem.attr.text, Value.int IntKind.i64 x.tr.elem.attr.n, Value.int IntKind.i64 x.tr.elem.value.kind, Value.string x.tr.elem.value.text, Value.int IntKind.i64 x.tr.elem.value.n, Value.bool x.tr.elem.acc, Value.bool x.tr.elem.goal, Value.int IntKind.i64 x.tr.elem.tag, Value.int IntKind.i64 x.tr.level, Value.int IntKind.i64 x.tr.cause] 135)) 135 #[.int .i64 0, .int .i64 0, .string ⟨#[]⟩, .int .i64 0, .int .i64 0, .string ⟨#[]⟩, .int .i64 0, .int .i64 0, .string ⟨#[]⟩, .int .i64 0, .bool false, .bool false, .int .i64 0, .int .i64 0, .int .i64 0]).alloc (.cells #[.int .i64 0, .int .i64 0, .string ⟨#[]⟩, .int .i64 0, .int .i64 0, .string ⟨#[]⟩, .int .i64 0, .int .i64 0, .string ⟨#[]⟩, .int .i64 0, .bool false, .bool false, .int .i64 0, .int .i64 0, .int .i64 0] 135)
  simpa using this
 have hZ : Blk W (w.heap.size + 1 + 1) 135 #[.int .i64 0, .int .i64 0, .string ⟨#[]⟩, .int .i64 0, .int .i64 0, .string ⟨#[]⟩, .int .i64 0, .int .i64 0, .string ⟨#[]⟩, .int .i64 0, .bool false, .bool false, .int .i64 0, .int .i64 0, .int .i64 0] := by
  rw [hW]
  have := Blk.new ((w.alloc (.cells #[Value.int IntKind.i64 x.kk, Value.int IntKind.i64 x.tr.elem.id.kind, Value.string x.tr.elem.id.text, Value.int IntKind.i64 x.tr.elem.id.n, Value.int IntKind.i64 x.tr.elem.attr.kind, Value.string x.tr.elem.attr.text, Value.int IntKind.i64 x.tr.elem.attr.n, Value.int IntKind.i64 x.tr.elem.value.kind, Value.string x.tr.elem.value.text, Value.int IntKind.i64 x.tr.elem.value.n, Value.bool x.tr.elem.acc, Value.bool x.tr.elem.goal, Value.int IntKind.i64 x.tr.elem.tag, Value.int IntKind.i64 x.tr.level, Value.int IntKind.i64 x.tr.cause] 135)).alloc (.cells #[.int .i64 0, .int .i64 0, .string ⟨#[]⟩, .int .i64 0, .int .i64 0, .string ⟨#[]⟩, .int .i64 0, .int .i64 0, .string ⟨#[]⟩, .int .i64 0, .bool false, .bool false, .int .i64 0, .int .i64 0, .int .i64 0] 135)) 135 #[.int .i64 0, .int .i64 0, .string ⟨#[]⟩, .int .i64 0, .int .i64 0, .string ⟨#[]⟩, .int .i64 0, .int .i64 0, .string ⟨#[]⟩, .int .i64 0, .bool false, .bool false, .int .i64 0, .int .i64 0, .int .i64 0]
  simpa using this
 have hB0 : Below w.heap.size w W := by rw [hW]; exact (((Below.refl w.heap.size w).alloc (Nat.le_refl _) _).alloc (by simp) _).alloc (by simp; omega) _
 rw [← hW]
 clear hW
 refine (find_PgT b c sn A l x _ (HS.out.new_ hB0) HO.out (by omega)).mono ?_
 rintro e w1 ⟨rfl, hb1⟩
 have HR := Lib.hid (hR.new_ hb1)
 have HZ := Lib.hid (hZ.new_ hb1)
 have HB := Lib.hid (hB0.trans (hb1.mono hB0.size))
 have hrl := (hR.new_ hb1).lt
 clear hb1 hB0 hR hZ
 go_wp2_with (first | (with_reducible refine wpList_load_mid rfl 135 _ rfl (w.heap.size + 1 + 1) 0 rfl [.int .i64 0, .int .i64 0, .string ⟨#[]⟩, .int .i64 0, .int .i64 0, .string ⟨#[]⟩, .int .i64 0, .int .i64 0, .string ⟨#[]⟩, .int .i64 0, .bool false, .bool false, .int .i64 0, .int .i64 0, .int .i64 0] _ HZ.out.range Try.underlying135 rfl (by kernel_rfl) ?_) | (with_reducible refine wpList_store_mid rfl 135 _ _ rfl (w.heap.size + 1) 0 #[.int .i64 0, .int .i64 0, .string ⟨#[]⟩, .int .i64 0, .int .i64 0, .string ⟨#[]⟩, .int .i64 0, .int .i64 0, .string ⟨#[]⟩, .int .i64 0, .bool false, .bool false, .int .i64 0, .int .i64 0, .int .i64 0] rfl rfl HR.out.there (by kernel_rfl) (by kernel_rfl) ?_))
 try simp only [Exit.inBlock, Exit.then]
 refine bodyPost_ret (v := .tuple #[.agg #[.int .i64 0, .int .i64 0, .string ⟨#[]⟩, .int .i64 0, .int .i64 0, .string ⟨#[]⟩, .int .i64 0, .int .i64 0, .string ⟨#[]⟩, .int .i64 0, .bool false, .bool false, .int .i64 0, .int .i64 0, .int .i64 0], .bool false]) ?_ rfl ⟨rfl, Below.setCells' _ _ HB.out (by omega)⟩
 exact results_cell_tmp (t := 4) (s := 5) (T := 135) rfl _ _ (w.heap.size + 1) [.int .i64 0, .int .i64 0, .string ⟨#[]⟩, .int .i64 0, .int .i64 0, .string ⟨#[]⟩, .int .i64 0, .int .i64 0, .string ⟨#[]⟩, .int .i64 0, .bool false, .bool false, .int .i64 0, .int .i64 0, .int .i64 0] _ rfl (World.rangeAt_setCells_same w1 (w.heap.size + 1) 0 [.int .i64 0, .int .i64 0, .string ⟨#[]⟩, .int .i64 0, .int .i64 0, .string ⟨#[]⟩, .int .i64 0, .int .i64 0, .string ⟨#[]⟩, .int .i64 0, .bool false, .bool false, .int .i64 0, .int .i64 0, .int .i64 0] HR.out.there) Try.underlying135 rfl (by kernel_rfl)
set_option maxRecDepth 100000 in
set_option maxHeartbeats 4000000 in
theorem get_is_PgT (b c : Nat) (sn : Bool) (A : Option Addr) (l : List PgT) (x y : PgT) (w : World) (hS : PgTSet w b sn A c l) (hs : Srt cmpPgT l) (hl : (l.length : Int) ≤ 1000000000) (hh : has cmpPgT l x = true) (hy : l[rank cmpPgT l x]? = some y) :
 Calls Try.prog 69 #[.pointer (some ⟨b, 0, none⟩), .agg #[.int .i64 x.kk, .int .i64 x.tr.elem.id.kind, .string x.tr.elem.id.text, .int .i64 x.tr.elem.id.n, .int .i64 x.tr.elem.attr.kind, .string x.tr.elem.attr.text, .int .i64 x.tr.elem.attr.n, .int .i64 x.tr.elem.value.kind, .string x.tr.elem.value.text, .int .i64 x.tr.elem.value.n, .bool x.tr.elem.acc, .bool x.tr.elem.goal, .int .i64 x.tr.elem.tag, .int .i64 x.tr.level, .int .i64 x.tr.cause]] w fun e w' => e = .returned (.tuple #[.agg #[.int .i64 y.kk, .int .i64 y.tr.elem.id.kind, .string y.tr.elem.id.text, .int .i64 y.tr.elem.id.n, .int .i64 y.tr.elem.attr.kind, .string y.tr.elem.attr.text, .int .i64 y.tr.elem.attr.n, .int .i64 y.tr.elem.value.kind, .string y.tr.elem.value.text, .int .i64 y.tr.elem.value.n, .bool y.tr.elem.acc, .bool y.tr.elem.goal, .int .i64 y.tr.elem.tag, .int .i64 y.tr.level, .int .i64 y.tr.cause], .bool true]) ∧ Below w.heap.size w w' := by
 have HS := Lib.hid hS
 have HO := Lib.hid hs
 obtain ⟨hrk, hye⟩ := List.getElem?_eq_some_iff.1 hy
 have hrd := hS.rd PgT.cells_length
 have s0 := hS.cell0
 have hb := hS.lt
 clear hS hs hy
 obtain ⟨g, off, rfl, hgs, hrg⟩ := hrd.range hrk
 rw [hye] at hrg
 obtain ⟨k, hk⟩ : ∃ k, k = rank cmpPgT l x := ⟨_, rfl⟩
 rw [← hk] at hrg hrk
 have b1 : (0 : Int) ≤ (k : Int) := by omega
 have b2 : (k : Int) < (l.length : Int) := by omega
 have HK := Lib.hid hk
 have HRG := Lib.hid hrg
 clear hrg hrd hye hk
 go_enter Try.func69, Try.ntmps69
 go_wp2_with fail
 obtain ⟨W, hW⟩ : ∃ W, W = ((w.alloc (.cells #[Value.int IntKind.i64 x.kk, Value.int IntKind.i64 x.tr.elem.id.kind, Value.string x.tr.elem.id.text, Value.int IntKind.i64 x.tr.elem.id.n, Value.int IntKind.i64 x.tr.elem.attr.kind, Value.string x.tr.elem.attr.text, Value.int IntKind.i64 x.tr.elem.attr.n, Value.int IntKind.i64 x.tr.elem.value.kind, Value.string x.tr.elem.value.text, Value.int IntKind.i64 x.tr.elem.value.n, Value.bool x.tr.elem.acc, Value.bool x.tr.elem.goal, Value.int IntKind.i64 x.tr.elem.tag, Value.int IntKind.i64 x.tr.level, Value.int IntKind.i64 x.tr.cause] 135)).alloc (.cells #[.int .i64 0, .int .i64 0, .string ⟨#[]⟩, .int .i64 0, .int .i64 0, .string ⟨#[]⟩, .int .i64 0, .int .i64 0, .string ⟨#[]⟩, .int .i64 0, .bool false, .bool false, .int .i64 0, .int .i64 0, .int .i64 0] 135)).alloc (.cells #[.int .i64 0, .int .i64 0, .string ⟨#[]⟩, .int .i64 0, .int .i64 0, .string ⟨#[]⟩, .int .i64 0, .int .i64 0, .string ⟨#[]⟩, .int .i64 0, .bool false, .bool false, .int .i64 0, .int .i64 0, .int .i64 0] 135) := ⟨_, rfl⟩
 have hR : Blk W (w.heap.size + 1) 135 #[.int .i64 0, .int .i64 0, .string ⟨#[]⟩, .int .i64 0, .int .i64 0, .string ⟨#[]⟩, .int .i64 0, .int .i64 0, .string ⟨#[]⟩, .int .i64 0, .bool false, .bool false, .int .i64 0, .int .i64 0, .int .i64 0] := by
  rw [hW]
  have := (Blk.new (w.alloc (.cells #[Value.int IntKind.i64 x.kk, Value.int IntKind.i64 x.tr.elem.id.kind, Value.string x.tr.elem.id.text, Value.int IntKind.i64 x.tr.elem.id.n, Value.int IntKind.i64 x.tr.elem.attr.kind, Value.string x.tr.elem.attr.text, Value.int IntKind.i64 x.tr.elem.attr.n, Value.int IntKind.i64 x.tr.elem.value.kind, Value.string x.tr.elem.value.text, Value.int IntKind.i64 x.tr.elem.value.n, Value.bool x.tr.elem.acc, Value.bool x.tr.elem.goal, Value.int IntKind.i64 x.tr.elem.tag, Value.int IntKind.i64 x.tr.level, Value.int IntKind.i64 x.tr.cause] 135)) 135 #[.int .i64 0, .int .i64 0, .string ⟨#[]⟩, .int .i64 0, .int .i64 0, .string ⟨#[]⟩, .int .i64 0, .int .i64 0, .string ⟨#[]⟩, .int .i64 0, .bool false, .bool false, .int .i64 0, .int .i64 0, .int .i64 0]).alloc (.cells #[.int .i64 0, .int .i64 0, .string ⟨#[]⟩, .int .i64 0, .int .i64 0, .string ⟨#[]⟩, .int .i64 0, .int .i64 0, .string ⟨#[]⟩, .int .i64 0, .bool false, .bool false, .int .i64 0, .int .i64 0, .int .i64 0] 135)
  simpa using this
 have hB0 : Below w.heap.size w W := by rw [hW]; exact (((Below.refl w.heap.size w).alloc (Nat.le_refl _) _).alloc (by simp) _).alloc (by simp; omega) _
 rw [← hW]
 clear hW
 refine (find_PgT b c sn _ l x _ (HS.out.new_ hB0) HO.out (by omega)).mono ?_
 rintro e w1 ⟨rfl, hb1⟩
 rw [← HK.out]
 have HR := Lib.hid (hR.new_ hb1)
 have HB := Lib.hid (hB0.trans (hb1.mono hB0.size))
 have hrl := (hR.new_ hb1).lt
 have r0 : w1.cell? ⟨b, 0, none⟩ = some (.slice (some ⟨g, off, none⟩) l.length c) := (HB.out.cell (p := ⟨b, 0, none⟩) hb).trans s0
 have HTH := Lib.hid (show w1.there (w.heap.size + 1) 0 (#[Value.int IntKind.i64 y.kk, Value.int IntKind.i64 y.tr.elem.id.kind, Value.string y.tr.elem.id.text, Value.int IntKind.i64 y.tr.elem.id.n, Value.int IntKind.i64 y.tr.elem.attr.kind, Value.string y.tr.elem.attr.text, Value.int IntKind.i64 y.tr.elem.attr.n, Value.int IntKind.i64 y.tr.elem.value.kind, Value.string y.tr.elem.value.text, Value.int IntKind.i64 y.tr.elem.value.n, Value.bool y.tr.elem.acc, Value.bool y.tr.elem.goal, Value.int IntKind.i64 y.tr.elem.tag, Value.int IntKind.i64 y.tr.level, Value.int IntKind.i64 y.tr.cause] : Array Value).size from HR.out.there)
 have HRG1 := Lib.hid (show w1.rangeAt g (off + k * 15) [Value.int IntKind.i64 y.kk, Value.int IntKind.i64 y.tr.elem.id.kind, Value.string y.tr.elem.id.text, Value.int IntKind.i64 y.tr.elem.id.n, Value.int IntKind.i64 y.tr.elem.attr.kind, Value.string y.tr.elem.attr.text, Value.int IntKind.i64 y.tr.elem.attr.n, Value.int IntKind.i64 y.tr.elem.value.kind, Value.string y.tr.elem.value.text, Value.int IntKind.i64 y.tr.elem.value.n, Value.bool y.tr.elem.acc, Value.bool y.tr.elem.goal, Value.int IntKind.i64 y.tr.elem.tag, Value.int IntKind.i64 y.tr.level, Value.int IntKind.i64 y.tr.cause] from rangeAt_below HRG.out HB.out hgs)
 clear hb1 hB0 hR s0
 go_wp2_with (first | (with_reducible refine wpList_load_mid rfl 135 _ rfl g (off + k * 15) rfl [Value.int IntKind.i64 y.kk, Value.int IntKind.i64 y.tr.elem.id.kind, Value.string y.tr.elem.id.text, Value.int IntKind.i64 y.tr.elem.id.n, Value.int IntKind.i64 y.tr.elem.attr.kind, Value.string y.tr.elem.attr.text, Value.int IntKind.i64 y.tr.elem.attr.n, Value.int IntKind.i64 y.tr.elem.value.kind, Value.string y.tr.elem.value.text, Value.int IntKind.i64 y.tr.elem.value.n, Value.bool y.tr.elem.acc, Value.bool y.tr.elem.goal, Value.int IntKind.i64 y.tr.elem.tag, Value.int IntKind.i64 y.tr.level, Value.int IntKind.i64 y.tr.cause] _ HRG1.out Try.underlying135 rfl (by kernel_rfl) ?_) | (with_reducible refine wpList_store_mid rfl 135 _ _ rfl (w.heap.size + 1) 0 #[Value.int IntKind.i64 y.kk, Value.int IntKind.i64 y.tr.elem.id.kind, Value.string y.tr.elem.id.text, Value.int IntKind.i64 y.tr.elem.id.n, Value.int IntKind.i64 y.tr.elem.attr.kind, Value.string y.tr.elem.attr.text, Value.int IntKind.i64 y.tr.elem.attr.n, Value.int IntKind.i64 y.tr.elem.value.kind, Value.string y.tr.elem.value.text, Value.int IntKind.i64 y.tr.elem.value.n, Value.bool y.tr.elem.acc, Value.bool y.tr.elem.goal, Value.int IntKind.i64 y.tr.elem.tag, Value.int IntKind.i64 y.tr.level, Value.int IntKind.i64 y.tr.cause] rfl rfl HTH.out (by kernel_rfl) (by kernel_rfl) ?_))
 try simp only [Exit.inBlock, Exit.then]
 refine bodyPost_ret (v := .tuple #[.agg #[.int .i64 y.kk, .int .i64 y.tr.elem.id.kind, .string y.tr.elem.id.text, .int .i64 y.tr.elem.id.n, .int .i64 y.tr.elem.attr.kind, .string y.tr.elem.attr.text, .int .i64 y.tr.elem.attr.n, .int .i64 y.tr.elem.value.kind, .string y.tr.elem.value.text, .int .i64 y.tr.elem.value.n, .bool y.tr.elem.acc, .bool y.tr.elem.goal, .int .i64 y.tr.elem.tag, .int .i64 y.tr.level, .int .i64 y.tr.cause], .bool true]) ?_ rfl ⟨rfl, Below.setCells' _ _ HB.out (by omega)⟩
 exact results_cell_tmp (t := 4) (s := 5) (T := 135) rfl _ _ (w.heap.size + 1) [Value.int IntKind.i64 y.kk, Value.int IntKind.i64 y.tr.elem.id.kind, Value.string y.tr.elem.id.text, Value.int IntKind.i64 y.tr.elem.id.n, Value.int IntKind.i64 y.tr.elem.attr.kind, Value.string y.tr.elem.attr.text, Value.int IntKind.i64 y.tr.elem.attr.n, Value.int IntKind.i64 y.tr.elem.value.kind, Value.string y.tr.elem.value.text, Value.int IntKind.i64 y.tr.elem.value.n, Value.bool y.tr.elem.acc, Value.bool y.tr.elem.goal, Value.int IntKind.i64 y.tr.elem.tag, Value.int IntKind.i64 y.tr.level, Value.int IntKind.i64 y.tr.cause] _ rfl (World.rangeAt_setCells_same w1 (w.heap.size + 1) 0 [Value.int IntKind.i64 y.kk, Value.int IntKind.i64 y.tr.elem.id.kind, Value.string y.tr.elem.id.text, Value.int IntKind.i64 y.tr.elem.id.n, Value.int IntKind.i64 y.tr.elem.attr.kind, Value.string y.tr.elem.attr.text, Value.int IntKind.i64 y.tr.elem.attr.n, Value.int IntKind.i64 y.tr.elem.value.kind, Value.string y.tr.elem.value.text, Value.int IntKind.i64 y.tr.elem.value.n, Value.bool y.tr.elem.acc, Value.bool y.tr.elem.goal, Value.int IntKind.i64 y.tr.elem.tag, Value.int IntKind.i64 y.tr.level, Value.int IntKind.i64 y.tr.cause] HTH.out) Try.underlying135 rfl (by kernel_rfl)
end Go.Proofs.Ytnfgilbaglfkeaa
namespace Go.Proofs.Ytnfgilbaglfkeaa
open Go.RowKit
def NewPostPgT (w : World) (xs : List PgT) (e : Ending) (w' : World) : Prop :=
 ∃ k, e = .returned (.pointer (some ⟨k, 0, none⟩)) ∧ w.heap.size ≤ k ∧ ∃ sn A c, PgTSet w' k sn A c (puts cmpPgT [] xs) ∧ AIn A (w.heap.size ≤ ·) ∧ Below w.heap.size w w'
set_option maxRecDepth 100000 in
set_option maxHeartbeats 2000000 in
theorem new_PgT (A : Option Addr) (c : Nat) (xs : List PgT) (w : World) (hrd : RowRd w 15 PgT.cells A c xs) (hl : (xs.length : Int) ≤ 10000000) :
 Calls Try.prog 66 #[.slice A xs.length c] w (NewPostPgT w xs) := by
 have HRD := Lib.hid hrd
 clear hrd
 go_enter Try.func66, Try.ntmps66
 go_wp2_with fail
 obtain ⟨W0, hW0⟩ : ∃ W0, W0 = w.alloc (.cells #[.slice none 0 0, .bool false] 168) := ⟨_, rfl⟩
 have hb0 : Below w.heap.size w W0 := by rw [hW0]; exact (Below.refl _ _).alloc (Nat.le_refl _) _
 have hS0 : PgTSet W0 w.heap.size false none 0 [] := ⟨by rw [hW0]; exact Blk.new _ _ _, ⟨by simp, .inl ⟨rfl, rfl⟩⟩⟩
 rw [← hW0]
 clear hW0
 have HB0 := Lib.hid hb0
 have HS0 := Lib.hid hS0
 clear hb0 hS0
 go_loopw [10] (fun s wr => ∃ i : Nat, s = .int .i64 i ∧ i ≤ xs.length ∧ ∃ sn A' c', PgTSet wr w.heap.size sn A' c' (puts cmpPgT [] (xs.take i)) ∧ AIn A' (w.heap.size ≤ ·) ∧ Below w.heap.size w wr) (fun s wr => xs.length - (intOf s).toNat)
 case atStart => exact ⟨0, rfl, Nat.zero_le _, false, none, 0, HS0.out, AIn.none_ _, HB0.out⟩
 case round =>
  obtain ⟨i, rfl, hi, sn, A', c', hS, hA', hB⟩ := hrel
  have HS := Lib.hid hS
  have HA := Lib.hid hA'
  have HB := Lib.hid hB
  clear hS hA' hB
  by_cases hlt : i < xs.length
  · obtain ⟨x, hx⟩ : ∃ x, x = xs[i] := ⟨_, rfl⟩
    obtain ⟨g, off, rfl, hgs, hcell⟩ := (HRD.out.fr (Fr.of_new (M := fun _ => False) HB.out) (fun _ _ h => h)).at_ hlt
    rw [← hx] at hcell
    have q0 : wr.cell? ⟨g, off + i * 15, none⟩ = some (.int .i64 x.kk) := by simpa using hcell 0 _ rfl
    have q1 : wr.cell? ⟨g, off + i * 15 + 1, none⟩ = some (.int .i64 x.tr.elem.id.kind) := by simpa using hcell 1 _ rfl
    have q2 : wr.cell? ⟨g, off + i * 15 + 2, none⟩ = some (.string x.tr.elem.id.text) := by simpa using hcell 2 _ rfl
    have q3 : wr.cell? ⟨g, off + i * 15 + 3, none⟩ = some (.int .i64 x.tr.elem.id.n) := by simpa using hcell 3 _ rfl
    have q4 : wr.cell? ⟨g, off + i * 15 + 4, none⟩ = some (.int .i64 x.tr.elem.attr.kind) := by simpa using hcell 4 _ rfl
    have q5 : wr.cell? ⟨g, off + i * 15 + 5, none⟩ = some (.string x.tr.elem.attr.text) := by simpa using hcell 5 _ rfl
    have q6 : wr.cell? ⟨g, off + i * 15 + 6, none⟩ = some (.int .i64 x.tr.elem.attr.n) := by simpa using hcell 6 _ rfl
    have q7 : wr.cell? ⟨g, off + i * 15 + 7, none⟩ = some (.int .i64 x.tr.elem.value.kind) := by simpa using hcell 7 _ rfl
    have q8 : wr.cell? ⟨g, off + i * 15 + 8, none⟩ = some (.string x.tr.elem.value.text) := by simpa using hcell 8 _ rfl
    have q9 : wr.cell? ⟨g, off + i * 15 + 9, none⟩ = some (.int .i64 x.tr.elem.value.n) := by simpa using hcell 9 _ rfl
    have q10 : wr.cell? ⟨g, off + i * 15 + 10, none⟩ = some (.bool x.tr.elem.acc) := by simpa using hcell 10 _ rfl
    have q11 : wr.cell? ⟨g, off + i * 15 + 11, none⟩ = some (.bool x.tr.elem.goal) := by simpa using hcell 11 _ rfl
    have q12 : wr.cell? ⟨g, off + i * 15 + 12, none⟩ = some (.int .i64 x.tr.elem.tag) := by simpa using hcell 12 _ rfl
    have q13 : wr.cell? ⟨g, off + i * 15 + 13, none⟩ = some (.int .i64 x.tr.level) := by simpa using hcell 13 _ rfl
    have q14 : wr.cell? ⟨g, off + i * 15 + 14, none⟩ = some (.int .i64 x.tr.cause) := by simpa using hcell 14 _ rfl
    have b1 : (0 : Int) ≤ (i : Int) := by omega
    have b2 : (i : Int) < (xs.length : Int) := by omega
    have HX := Lib.hid hx
    clear hcell hx
    go_wp2_with fail
    have hsr := Srt.puts tc_pgt (xs.take i) (Srt.nil (cmp := cmpPgT))
    have hlen : (((puts cmpPgT [] (xs.take i)).length : Nat) : Int) ≤ 100000000 := by
     have := length_puts_le tc_pgt (xs.take i) (Srt.nil (cmp := cmpPgT))
     simp at this
     omega
    refine (put_PgT w.heap.size c' sn A' _ x _ (HS.out.new_ ((Below.refl _ _).alloc (Nat.le_refl _) _)) hsr hlen).mono ?_
    rintro e w1 ⟨rfl, sn2, A2, c2, hS2, hF2, hM2⟩
    have hB1 : Below w.heap.size w w1 := (HB.out.alloc HB.out.size _).trans (hF2.below (by have := HB.out.size; (try simp); omega) (fun k hk hm => by
     rcases hm with hm | ⟨_, a, ha, hm⟩
     · omega
     · have := HA.out a ha; omega))
    have hA2 : AIn A2 (w.heap.size ≤ ·) := by
     rcases hM2 with ⟨_, rfl⟩ | ⟨_, g2, hg2, rfl⟩
     · exact HA.out
     · intro a ha; cases ha; have := HB.out.size; (try simp at hg2 ⊢); omega
    have HS2 := Lib.hid hS2
    have HB1 := Lib.hid hB1
    have HA2 := Lib.hid hA2
    clear hS2 hB1 hA2 hF2 hM2 hsr hlen q0 q1 q2 q3 q4 q5 q6 q7 q8 q9 q10 q11 q12 q13 q14
    go_wp2_with fail
    go_roundw
    case rel =>
     refine ⟨i + 1, by go_num, by omega, sn2, A2, c2, ?_, HA2.out, HB1.out⟩
     rw [List.take_add_one, List.getElem?_eq_getElem hlt, ← HX.out]
     simp only [Option.toList_some, puts_snoc]
     exact HS2.out
    case measure => simp [intOf] <;> omega
  · have hie : i = xs.length := by omega
    subst hie
    go_wp2_with fail
    go_ret
    refine ⟨w.heap.size, rfl, Nat.le_refl _, sn, A', c', ?_, HA.out, HB.out⟩
    have := HS.out
    rwa [List.take_length] at this
end Go.Proofs.Ytnfgilbaglfkeaa
namespace Go.Proofs.Ytnfgilbaglfkeaa
open Go.RowKit
def zPgT (k : Int) : PgT := ⟨k, ⟨⟨⟨0, ⟨#[]⟩, 0⟩, ⟨0, ⟨#[]⟩, 0⟩, ⟨0, ⟨#[]⟩, 0⟩, false, false, 0⟩, 0, 0⟩⟩
theorem Moved.of_PgT {a b : World} (h : Below a.heap.size a b) {sn sn' : Bool} {A A' : Option Addr} (hm : Moved b sn A sn' A') : Moved a sn A sn' A' :=
 hm.imp id (fun ⟨h1, g, h2, h3⟩ => ⟨h1, g, by have := h.size; omega, h3⟩)
set_option maxRecDepth 100000 in
set_option maxHeartbeats 4000000 in
theorem bkat_PgT (k : Int) (w : World) : Calls Try.prog 70 #[.int .i64 k] w fun e w' => e = .returned (.agg #[.int .i64 k, .int .i64 0, .string ⟨#[]⟩, .int .i64 0, .int .i64 0, .string ⟨#[]⟩, .int .i64 0, .int .i64 0, .string ⟨#[]⟩, .int .i64 0, .bool false, .bool false, .int .i64 0, .int .i64 0, .int .i64 0]) ∧ Below w.heap.size w w' := by
 obtain ⟨W, hW⟩ : ∃ W, W = w.alloc (.cells #[Value.int IntKind.i64 0, Value.int IntKind.i64 0, Value.string ⟨#[]⟩, Value.int IntKind.i64 0, Value.int IntKind.i64 0, Value.string ⟨#[]⟩, Value.int IntKind.i64 0, Value.int IntKind.i64 0, Value.string ⟨#[]⟩, Value.int IntKind.i64 0, Value.bool false, Value.bool false, Value.int IntKind.i64 0, Value.int IntKind.i64 0, Value.int IntKind.i64 0] 135) := ⟨_, rfl⟩
 have hR : Blk W w.heap.size 135 #[Value.int IntKind.i64 0, Value.int IntKind.i64 0, Value.string ⟨#[]⟩, Value.int IntKind.i64 0, Value.int IntKind.i64 0, Value.string ⟨#[]⟩, Value.int IntKind.i64 0, Value.int IntKind.i64 0, Value.string ⟨#[]⟩, Value.int IntKind.i64 0, Value.bool false, Value.bool false, Value.int IntKind.i64 0, Value.int IntKind.i64 0, Value.int IntKind.i64 0] := by rw [hW]; exact Blk.new _ _ _
 have hB : Below w.heap.size w W := by rw [hW]; exact (Below.refl _ _).alloc (Nat.le_refl _) _
 have ht : W.there w.heap.size 0 (#[Value.int IntKind.i64 k, Value.int IntKind.i64 0, Value.string ⟨#[]⟩, Value.int IntKind.i64 0, Value.int IntKind.i64 0, Value.string ⟨#[]⟩, Value.int IntKind.i64 0, Value.int IntKind.i64 0, Value.string ⟨#[]⟩, Value.int IntKind.i64 0, Value.bool false, Value.bool false, Value.int IntKind.i64 0, Value.int IntKind.i64 0, Value.int IntKind.i64 0] : Array Value).size := hR.there
 have HT := Lib.hid ht
 have HB := Lib.hid hB
 clear ht hR hB
 go_enter Try.func70, Try.ntmps70
 go_upto_region 1 with (fail)
 rw [← hW]
 clear hW
 go_wp2_with (with_reducible refine wpList_store_mid rfl 135 _ _ rfl w.heap.size 0 #[Value.int IntKind.i64 k, Value.int IntKind.i64 0, Value.string ⟨#[]⟩, Value.int IntKind.i64 0, Value.int IntKind.i64 0, Value.string ⟨#[]⟩, Value.int IntKind.i64 0, Value.int IntKind.i64 0, Value.string ⟨#[]⟩, Value.int IntKind.i64 0, Value.bool false, Value.bool false, Value.int IntKind.i64 0, Value.int IntKind.i64 0, Value.int IntKind.i64 0] rfl rfl HT.out (by kernel_rfl) (by kernel_rfl) ?_)
 try simp only [Exit.inBlock, Exit.then]
 refine bodyPost_ret (v := .agg #[.int .i64 k, .int .i64 0, .string ⟨#[]⟩, .int .i64 0, .int .i64 0, .string ⟨#[]⟩, .int .i64 0, .int .i64 0, .string ⟨#[]⟩, .int .i64 0, .bool false, .bool false, .int .i64 0, .int .i64 0, .int .i64 0]) ?_ rfl ⟨rfl, Below.setCells' _ _ HB.out (by omega)⟩
 exact results_cell (t := 2) (T := 135) rfl _ _ w.heap.size [Value.int IntKind.i64 k, Value.int IntKind.i64 0, Value.string ⟨#[]⟩, Value.int IntKind.i64 0, Value.int IntKind.i64 0, Value.string ⟨#[]⟩, Value.int IntKind.i64 0, Value.int IntKind.i64 0, Value.string ⟨#[]⟩, Value.int IntKind.i64 0, Value.bool false, Value.bool false, Value.int IntKind.i64 0, Value.int IntKind.i64 0, Value.int IntKind.i64 0] _ rfl (World.rangeAt_setCells_same W w.heap.size 0 [Value.int IntKind.i64 k, Value.int IntKind.i64 0, Value.string ⟨#[]⟩, Value.int IntKind.i64 0, Value.int IntKind.i64 0, Value.string ⟨#[]⟩, Value.int IntKind.i64 0, Value.int IntKind.i64 0, Value.string ⟨#[]⟩, Value.int IntKind.i64 0, Value.bool false, Value.bool false, Value.int IntKind.i64 0, Value.int IntKind.i64 0, Value.int IntKind.i64 0] HT.out) Try.underlying135 rfl (by kernel_rfl)
set_option maxRecDepth 100000 in
set_option maxHeartbeats 4000000 in
theorem bknew_PgT (w : World) : Calls Try.prog 39 #[] w fun e w' => ∃ bm bp sn A c, e = .returned (.pointer (some ⟨bm, 0, none⟩)) ∧ w.heap.size ≤ bm ∧ w.heap.size ≤ bp ∧ AIn A (w.heap.size ≤ ·) ∧ Blk w' bm 137 #[.pointer (some ⟨bp, 0, none⟩)] ∧ PgTSet w' bp sn A c [] ∧ Below w.heap.size w w' := by
 go_enter Try.func39, Try.ntmps39
 go_wp2_with fail
 refine (new_PgT none 0 [] _ (RowRd.nil _ _ _) (by simp)).mono ?_
 rintro e w1 ⟨bp, rfl, hbp, sn, A, c, hS, hA, hB⟩
 have HS := Lib.hid hS
 have HB := Lib.hid hB
 clear hS hB
 go_wp2_with fail
 go_ret
 have hb9 : Below w1.heap.size w1 (w1.alloc (.cells #[.pointer (some ⟨bp, 0, none⟩)] 137)) := (Below.refl _ _).alloc (Nat.le_refl _) _
 exact ⟨w1.heap.size, bp, sn, A, c, rfl, HB.out.size, hbp, hA, Blk.new _ _ _, HS.out.new_ hb9, HB.out.trans (hb9.mono HB.out.size)⟩
set_option maxHeartbeats 1000000 in
theorem bkall_PgT (b : Nat) (w : World) :
 Calls Try.prog 46 #[.pointer (some ⟨b, 0, none⟩)] w fun e w' => e = .returned (.func (.func 76) #[] #[.pointer (some ⟨w.heap.size, 0, none⟩)]) ∧ Below w.heap.size w w' ∧ Blk w' w.heap.size 89 #[.pointer (some ⟨b, 0, none⟩)] := by
 go_enter Try.func46, Try.ntmps46
 go_wp2
 go_ret
 exact ⟨rfl, (Below.refl _ _).alloc (Nat.le_refl _) _, Blk.new _ _ _⟩
set_option maxRecDepth 100000 in
set_option maxHeartbeats 16000000 in
theorem bkput_PgT (bm bp cc : Nat) (sn : Bool) (A : Option Addr) (m : List PgT) (x : PgT) (w : World) (hM : Blk w bm 137 #[.pointer (some ⟨bp, 0, none⟩)]) (hS : PgTSet w bp sn A cc m) (hs : Srt cmpPgT m) (hl : (m.length : Int) ≤ 1000000) (hh : has cmpPgT m x = false) :
 Calls Try.prog 43 #[.pointer (some ⟨bm, 0, none⟩), .int .i64 x.kk, .agg #[.int .i64 x.tr.elem.id.kind, .string x.tr.elem.id.text, .int .i64 x.tr.elem.id.n, .int .i64 x.tr.elem.attr.kind, .string x.tr.elem.attr.text, .int .i64 x.tr.elem.attr.n, .int .i64 x.tr.elem.value.kind, .string x.tr.elem.value.text, .int .i64 x.tr.elem.value.n, .bool x.tr.elem.acc, .bool x.tr.elem.goal, .int .i64 x.tr.elem.tag, .int .i64 x.tr.level, .int .i64 x.tr.cause]] w fun e w' => e = .returned (.bool true) ∧ ∃ sn' A' c', PgTSet w' bp sn' A' c' (put cmpPgT m x) ∧ Fr (SetMod bp sn A) w w' ∧ Moved w sn A sn' A' := by
 have hh0 : has cmpPgT m (zPgT x.kk) = false := hh
 have s0 := hM.c1
 have hml := hM.lt
 have HS := Lib.hid hS
 have HO := Lib.hid hs
 have HM := Lib.hid hM
 have HH := Lib.hid hh
 have HH0 := Lib.hid hh0
 clear hS hs hM hh hh0
 go_enter Try.func43, Try.ntmps43
 go_upto_region 3 with (fail)
 obtain ⟨W0, hW0⟩ : ∃ W0, W0 = w.alloc (.cells #[Value.int IntKind.i64 x.tr.elem.id.kind, Value.string x.tr.elem.id.text, Value.int IntKind.i64 x.tr.elem.id.n, Value.int IntKind.i64 x.tr.elem.attr.kind, Value.string x.tr.elem.attr.text, Value.int IntKind.i64 x.tr.elem.attr.n, Value.int IntKind.i64 x.tr.elem.value.kind, Value.string x.tr.elem.value.text, Value.int IntKind.i64 x.tr.elem.value.n, Value.bool x.tr.elem.acc, Value.bool x.tr.elem.goal, Value.int IntKind.i64 x.tr.elem.tag, Value.int IntKind.i64 x.tr.level, Value.int IntKind.i64 x.tr.cause] 55) := ⟨_, rfl⟩
 have hB0 : Below w.heap.size w W0 := by rw [hW0]; exact (Below.refl _ _).alloc (Nat.le_refl _) _
 have hbx : Blk W0 w.heap.size 55 #[Value.int IntKind.i64 x.tr.elem.id.kind, Value.string x.tr.elem.id.text, Value.int IntKind.i64 x.tr.elem.id.n, Value.int IntKind.i64 x.tr.elem.attr.kind, Value.string x.tr.elem.attr.text, Value.int IntKind.i64 x.tr.elem.attr.n, Value.int IntKind.i64 x.tr.elem.value.kind, Value.string x.tr.elem.value.text, Value.int IntKind.i64 x.tr.elem.value.n, Value.bool x.tr.elem.acc, Value.bool x.tr.elem.goal, Value.int IntKind.i64 x.tr.elem.tag, Value.int IntKind.i64 x.tr.level, Value.int IntKind.i64 x.tr.cause] := by rw [hW0]; exact Blk.new _ _ _
 have hz0 : w.heap.size < W0.heap.size := hbx.lt
 rw [← hW0]
 clear hW0
 have s1 := (hB0.cell (p := ⟨bm, 0, none⟩) hml).trans s0
 clear s0
 have HS0 := Lib.hid (HS.out.new_ hB0)
 have HM0 := Lib.hid (HM.out.new_ hB0)
 have HX0 := Lib.hid hbx
 have HB0 := Lib.hid hB0
 have hml0 : bm < W0.heap.size := by omega
 clear hB0 hbx HS HM
 go_cut [8] from 11 (fun b wc => b = .bool false ∧ Below W0.heap.size W0 wc)
 case first =>
  refine wp_region_Pl (fun w9 => Below W0.heap.size W0 w9) [0, 1, 2, 3, 4, 7, 8, 9, 12] [3] (.fork [(0, 0), (1, 0), (2, 0), (3, 1), (4, 0)] 5 (.fork [] 6 (.fin [(7, 0), (8, 0), (9, 0), (10, 2), (11, 2), (12, 0)]) 10 (.fin [(6, 2), (7, 0), (8, 0), (9, 0), (11, 2), (12, 0)])) 10 (.fin [(5, 2), (6, 2), (7, 0), (8, 0), (9, 0), (11, 2), (12, 0)])) (by kernel_rfl) (by kernel_rfl) (by kernel_rfl) (fun KK hKK => ?_)
  simp only [wpPl, beside, List.filterMap_cons, List.filterMap_nil, List.getElem?_toArray, List.getElem?_cons_zero, List.getElem?_cons_succ, Option.map_some]
  repeat ((first | (refine wpY_w ?_ (Or.inl ⟨by rfl, fun w9 => ?_⟩) ?_; rotate_left 1; go_simp; with_reducible rfl) | (refine wpY_l ?_ ((Below.refl _ _).drew) (Or.inl ⟨by rfl, fun w9 hw9 => ?_⟩) ?_; rotate_left 1; obtain ⟨hc9, hf9⟩ := bcell hw9; go_simp; with_reducible rfl) | refine wpY_w undef (Or.inr ⟨by rfl, rfl⟩) ?_ | refine wpY_l undef ((Below.refl _ _).drew) (Or.inr ⟨by rfl, rfl⟩) ?_); go_frame)
  refine wpY_nil ⟨?_, ?_⟩
  · refine wpOp_cs rfl (fun K9 hK9 => ?_)
    go_simp
    refine (bkat_PgT x.kk _).mono ?_
    rintro e wa ⟨rfl, hba⟩
    have HBa := Lib.hid (((Below.refl W0.heap.size W0).drew).trans (hba.mono (by first | omega | simp)))
    clear hba
    have hza := HBa.out.size
    refine hK9 _ _ (fun _ => HBa.out) ?_
    clear hK9 K9
    try go_frame
    try simp only [beside, List.filterMap_nil]
    refine wpY_nil ⟨?_, ?_⟩
    · refine wpOp_cs rfl (fun K9 hK9 => ?_)
      go_simp
      refine (get_no_PgT bp cc sn A m (zPgT x.kk) _ (HS0.out.new_ (HBa.out)) HO.out (by omega) HH0.out).mono ?_
      rintro e wg ⟨rfl, hbg⟩
      have HBg := Lib.hid ((HBa.out).trans (hbg.mono (by have := HBa.out.size; first | omega | (simp; done) | (simp; omega))))
      clear hbg
      have hzg := HBg.out.size
      refine hK9 _ _ (fun _ => HBg.out) ?_
      clear hK9 K9
      try go_frame
      try simp only [beside, List.filterMap_nil]
      repeat ((first | (refine wpY_w ?_ (Or.inl ⟨by rfl, fun w9 => ?_⟩) ?_; rotate_left 1; go_simp; with_reducible rfl) | (refine wpY_l ?_ (HBg.out) (Or.inl ⟨by rfl, fun w9 hw9 => ?_⟩) ?_; rotate_left 1; obtain ⟨hc9, hf9⟩ := bcell hw9; go_simp; with_reducible rfl) | refine wpY_w undef (Or.inr ⟨by rfl, rfl⟩) ?_ | refine wpY_l undef (HBg.out) (Or.inr ⟨by rfl, rfl⟩) ?_); go_frame)
      refine wpY_es (fun K9 hK9 => ?_)
      go_simp
      have hB9 := (HBg.out).alloc (by have := HBg.out.size; first | omega | (simp; done) | (simp; omega)) (.cells #[Value.int IntKind.i64 0, Value.int IntKind.i64 0, Value.string ⟨#[]⟩, Value.int IntKind.i64 0, Value.int IntKind.i64 0, Value.string ⟨#[]⟩, Value.int IntKind.i64 0, Value.int IntKind.i64 0, Value.string ⟨#[]⟩, Value.int IntKind.i64 0, Value.bool false, Value.bool false, Value.int IntKind.i64 0, Value.int IntKind.i64 0, Value.int IntKind.i64 0] 135)
      have HB9 := Lib.hid hB9
      have hk9 : Blk (wg.alloc (.cells #[Value.int IntKind.i64 0, Value.int IntKind.i64 0, Value.string ⟨#[]⟩, Value.int IntKind.i64 0, Value.int IntKind.i64 0, Value.string ⟨#[]⟩, Value.int IntKind.i64 0, Value.int IntKind.i64 0, Value.string ⟨#[]⟩, Value.int IntKind.i64 0, Value.bool false, Value.bool false, Value.int IntKind.i64 0, Value.int IntKind.i64 0, Value.int IntKind.i64 0] 135)) wg.heap.size 135 #[Value.int IntKind.i64 0, Value.int IntKind.i64 0, Value.string ⟨#[]⟩, Value.int IntKind.i64 0, Value.int IntKind.i64 0, Value.string ⟨#[]⟩, Value.int IntKind.i64 0, Value.int IntKind.i64 0, Value.string ⟨#[]⟩, Value.int IntKind.i64 0, Value.bool false, Value.bool false, Value.int IntKind.i64 0, Value.int IntKind.i64 0, Value.int IntKind.i64 0] := Blk.new wg 135 #[Value.int IntKind.i64 0, Value.int IntKind.i64 0, Value.string ⟨#[]⟩, Value.int IntKind.i64 0, Value.int IntKind.i64 0, Value.string ⟨#[]⟩, Value.int IntKind.i64 0, Value.int IntKind.i64 0, Value.string ⟨#[]⟩, Value.int IntKind.i64 0, Value.bool false, Value.bool false, Value.int IntKind.i64 0, Value.int IntKind.i64 0, Value.int IntKind.i64 0]
      have HK9 := Lib.hid hk9
      clear hB9 hk9
      have hz9 := HB9.out.size
      refine hK9 _ _ (HB9.out) ?_
      clear hK9 K9
      try go_frame
      refine wpY_es (fun K9 hK9 => ?_)
      refine step_store_el rfl 135 _ _ rfl wg.heap.size 0 #[Value.int IntKind.i64 0, Value.int IntKind.i64 0, Value.string ⟨#[]⟩, Value.int IntKind.i64 0, Value.int IntKind.i64 0, Value.string ⟨#[]⟩, Value.int IntKind.i64 0, Value.int IntKind.i64 0, Value.string ⟨#[]⟩, Value.int IntKind.i64 0, Value.bool false, Value.bool false, Value.int IntKind.i64 0, Value.int IntKind.i64 0, Value.int IntKind.i64 0] rfl rfl (show _ from (HK9.out).there) (by kernel_rfl) (by kernel_rfl) ?_
      refine hK9 _ _ (Below.setCells' _ _ (HB9.out) (by have := (HB9.out).size; first | omega | (simp; done) | (simp; omega))) ?_
      clear hK9 K9
      try go_frame
      repeat ((first | (refine wpY_w ?_ (Or.inl ⟨by rfl, fun w9 => ?_⟩) ?_; rotate_left 1; go_simp; with_reducible rfl) | (refine wpY_l ?_ (Below.setCells' _ _ (HB9.out) (by have := (HB9.out).size; first | omega | (simp; done) | (simp; omega))) (Or.inl ⟨by rfl, fun w9 hw9 => ?_⟩) ?_; rotate_left 1; obtain ⟨hc9, hf9⟩ := bcell hw9; go_simp; with_reducible rfl) | refine wpY_w undef (Or.inr ⟨by rfl, rfl⟩) ?_ | refine wpY_l undef (Below.setCells' _ _ (HB9.out) (by have := (HB9.out).size; first | omega | (simp; done) | (simp; omega))) (Or.inr ⟨by rfl, rfl⟩) ?_); go_frame)
      refine wpY_nil ?_
      simp only [OnlyN_normal]
      refine hKK _ _ ?_
      clear hKK KK
      go_wp2_with fail
      go_meet
      case rel => exact ⟨rfl, Below.setCells' _ _ (HB9.out) (by have := (HB9.out).size; first | omega | (simp; done) | (simp; omega))⟩
    · refine wpOp_cs rfl (fun K9 hK9 => ?_)
      go_simp
      have hB9 := (HBa.out).alloc (by have := HBa.out.size; first | omega | (simp; done) | (simp; omega)) (.cells #[Value.int IntKind.i64 0, Value.int IntKind.i64 0, Value.string ⟨#[]⟩, Value.int IntKind.i64 0, Value.int IntKind.i64 0, Value.string ⟨#[]⟩, Value.int IntKind.i64 0, Value.int IntKind.i64 0, Value.string ⟨#[]⟩, Value.int IntKind.i64 0, Value.bool false, Value.bool false, Value.int IntKind.i64 0, Value.int IntKind.i64 0, Value.int IntKind.i64 0] 135)
      have HB9 := Lib.hid hB9
      have hk9 : Blk (wa.alloc (.cells #[Value.int IntKind.i64 0, Value.int IntKind.i64 0, Value.string ⟨#[]⟩, Value.int IntKind.i64 0, Value.int IntKind.i64 0, Value.string ⟨#[]⟩, Value.int IntKind.i64 0, Value.int IntKind.i64 0, Value.string ⟨#[]⟩, Value.int IntKind.i64 0, Value.bool false, Value.bool false, Value.int IntKind.i64 0, Value.int IntKind.i64 0, Value.int IntKind.i64 0] 135)) wa.heap.size 135 #[Value.int IntKind.i64 0, Value.int IntKind.i64 0, Value.string ⟨#[]⟩, Value.int IntKind.i64 0, Value.int IntKind.i64 0, Value.string ⟨#[]⟩, Value.int IntKind.i64 0, Value.int IntKind.i64 0, Value.string ⟨#[]⟩, Value.int IntKind.i64 0, Value.bool false, Value.bool false, Value.int IntKind.i64 0, Value.int IntKind.i64 0, Value.int IntKind.i64 0] := Blk.new wa 135 #[Value.int IntKind.i64 0, Value.int IntKind.i64 0, Value.string ⟨#[]⟩, Value.int IntKind.i64 0, Value.int IntKind.i64 0, Value.string ⟨#[]⟩, Value.int IntKind.i64 0, Value.int IntKind.i64 0, Value.string ⟨#[]⟩, Value.int IntKind.i64 0, Value.bool false, Value.bool false, Value.int IntKind.i64 0, Value.int IntKind.i64 0, Value.int IntKind.i64 0]
      have HK9 := Lib.hid hk9
      clear hB9 hk9
      have hz9 := HB9.out.size
      refine hK9 _ _ (fun _ => HB9.out) ?_
      clear hK9 K9
      try go_frame
      try simp only [beside, List.filterMap_nil]
      refine wpY_es (fun K9 hK9 => ?_)
      go_simp
      refine (get_no_PgT bp cc sn A m (zPgT x.kk) _ (HS0.out.new_ (HB9.out)) HO.out (by omega) HH0.out).mono ?_
      rintro e wg ⟨rfl, hbg⟩
      have HBg := Lib.hid ((HB9.out).trans (hbg.mono (by have := HB9.out.size; first | omega | (simp at this ⊢; done) | (simp at this ⊢; omega))))
      have HKg := Lib.hid ((HK9.out).new_ hbg)
      clear hbg
      have hzg := HBg.out.size
      refine hK9 _ _ (HBg.out) ?_
      clear hK9 K9
      try go_frame
      repeat ((first | (refine wpY_w ?_ (Or.inl ⟨by rfl, fun w9 => ?_⟩) ?_; rotate_left 1; go_simp; with_reducible rfl) | (refine wpY_l ?_ (HBg.out) (Or.inl ⟨by rfl, fun w9 hw9 => ?_⟩) ?_; rotate_left 1; obtain ⟨hc9, hf9⟩ := bcell hw9; go_simp; with_reducible rfl) | refine wpY_w undef (Or.inr ⟨by rfl, rfl⟩) ?_ | refine wpY_l undef (HBg.out) (Or.inr ⟨by rfl, rfl⟩) ?_); go_frame)
      refine wpY_es (fun K9 hK9 => ?_)
      refine step_store_el rfl 135 _ _ rfl wa.heap.size 0 #[Value.int IntKind.i64 0, Value.int IntKind.i64 0, Value.string ⟨#[]⟩, Value.int IntKind.i64 0, Value.int IntKind.i64 0, Value.string ⟨#[]⟩, Value.int IntKind.i64 0, Value.int IntKind.i64 0, Value.string ⟨#[]⟩, Value.int IntKind.i64 0, Value.bool false, Value.bool false, Value.int IntKind.i64 0, Value.int IntKind.i64 0, Value.int IntKind.i64 0] rfl rfl (show _ from (HKg.out).there) (by kernel_rfl) (by kernel_rfl) ?_
      refine hK9 _ _ (Below.setCells' _ _ (HBg.out) (by have := (HBg.out).size; first | omega | (simp; done) | (simp; omega))) ?_
      clear hK9 K9
      try go_frame
      repeat ((first | (refine wpY_w ?_ (Or.inl ⟨by rfl, fun w9 => ?_⟩) ?_; rotate_left 1; go_simp; with_reducible rfl) | (refine wpY_l ?_ (Below.setCells' _ _ (HBg.out) (by have := (HBg.out).size; first | omega | (simp; done) | (simp; omega))) (Or.inl ⟨by rfl, fun w9 hw9 => ?_⟩) ?_; rotate_left 1; obtain ⟨hc9, hf9⟩ := bcell hw9; go_simp; with_reducible rfl) | refine wpY_w undef (Or.inr ⟨by rfl, rfl⟩) ?_ | refine wpY_l undef (Below.setCells' _ _ (HBg.out) (by have := (HBg.out).size; first | omega | (simp; done) | (simp; omega))) (Or.inr ⟨by rfl, rfl⟩) ?_); go_frame)
      refine wpY_nil ?_
      simp only [OnlyN_normal]
      refine hKK _ _ ?_
      clear hKK KK
      go_wp2_with fail
      go_meet
      case rel => exact ⟨rfl, Below.setCells' _ _ (HBg.out) (by have := (HBg.out).size; first | omega | (simp; done) | (simp; omega))⟩
  · refine wpOp_cs rfl (fun K9 hK9 => ?_)
    go_simp
    have hB9 := ((Below.refl W0.heap.size W0).drew).alloc (by first | omega | simp) (.cells #[Value.int IntKind.i64 0, Value.int IntKind.i64 0, Value.string ⟨#[]⟩, Value.int IntKind.i64 0, Value.int IntKind.i64 0, Value.string ⟨#[]⟩, Value.int IntKind.i64 0, Value.int IntKind.i64 0, Value.string ⟨#[]⟩, Value.int IntKind.i64 0, Value.bool false, Value.bool false, Value.int IntKind.i64 0, Value.int IntKind.i64 0, Value.int IntKind.i64 0] 135)
    have HB9 := Lib.hid hB9
    have hk9 : Blk (W0.drew.alloc (.cells #[Value.int IntKind.i64 0, Value.int IntKind.i64 0, Value.string ⟨#[]⟩, Value.int IntKind.i64 0, Value.int IntKind.i64 0, Value.string ⟨#[]⟩, Value.int IntKind.i64 0, Value.int IntKind.i64 0, Value.string ⟨#[]⟩, Value.int IntKind.i64 0, Value.bool false, Value.bool false, Value.int IntKind.i64 0, Value.int IntKind.i64 0, Value.int IntKind.i64 0] 135)) W0.heap.size 135 #[Value.int IntKind.i64 0, Value.int IntKind.i64 0, Value.string ⟨#[]⟩, Value.int IntKind.i64 0, Value.int IntKind.i64 0, Value.string ⟨#[]⟩, Value.int IntKind.i64 0, Value.int IntKind.i64 0, Value.string ⟨#[]⟩, Value.int IntKind.i64 0, Value.bool false, Value.bool false, Value.int IntKind.i64 0, Value.int IntKind.i64 0, Value.int IntKind.i64 0] := Blk.new W0.drew 135 #[Value.int IntKind.i64 0, Value.int IntKind.i64 0, Value.string ⟨#[]⟩, Value.int IntKind.i64 0, Value.int IntKind.i64 0, Value.string ⟨#[]⟩, Value.int IntKind.i64 0, Value.int IntKind.i64 0, Value.string ⟨#[]⟩, Value.int IntKind.i64 0, Value.bool false, Value.bool false, Value.int IntKind.i64 0, Value.int IntKind.i64 0, Value.int IntKind.i64 0]
    have HK9 := Lib.hid hk9
    clear hB9 hk9
    have hz9 := HB9.out.size
    refine hK9 _ _ (fun _ => HB9.out) ?_
    clear hK9 K9
    try go_frame
    try simp only [beside, List.filterMap_nil]
    refine wpY_es (fun K9 hK9 => ?_)
    go_simp
    refine (bkat_PgT x.kk _).mono ?_
    rintro e wa ⟨rfl, hba⟩
    have HBa := Lib.hid ((HB9.out).trans (hba.mono (by have := HB9.out.size; first | omega | (simp at this ⊢; done) | (simp at this ⊢; omega))))
    have HKa := Lib.hid ((HK9.out).new_ hba)
    clear hba
    have hza := HBa.out.size
    refine hK9 _ _ (HBa.out) ?_
    clear hK9 K9
    try go_frame
    refine wpY_es (fun K9 hK9 => ?_)
    go_simp
    refine (get_no_PgT bp cc sn A m (zPgT x.kk) _ (HS0.out.new_ (HBa.out)) HO.out (by omega) HH0.out).mono ?_
    rintro e wg ⟨rfl, hbg⟩
    have HBg := Lib.hid ((HBa.out).trans (hbg.mono (by have := HBa.out.size; first | omega | (simp; done) | (simp; omega))))
    have HKg := Lib.hid ((HKa.out).new_ hbg)
    clear hbg
    have hzg := HBg.out.size
    refine hK9 _ _ (HBg.out) ?_
    clear hK9 K9
    try go_frame
    repeat ((first | (refine wpY_w ?_ (Or.inl ⟨by rfl, fun w9 => ?_⟩) ?_; rotate_left 1; go_simp; with_reducible rfl) | (refine wpY_l ?_ (HBg.out) (Or.inl ⟨by rfl, fun w9 hw9 => ?_⟩) ?_; rotate_left 1; obtain ⟨hc9, hf9⟩ := bcell hw9; go_simp; with_reducible rfl) | refine wpY_w undef (Or.inr ⟨by rfl, rfl⟩) ?_ | refine wpY_l undef (HBg.out) (Or.inr ⟨by rfl, rfl⟩) ?_); go_frame)
    refine wpY_es (fun K9 hK9 => ?_)
    refine step_store_el rfl 135 _ _ rfl W0.heap.size 0 #[Value.int IntKind.i64 0, Value.int IntKind.i64 0, Value.string ⟨#[]⟩, Value.int IntKind.i64 0, Value.int IntKind.i64 0, Value.string ⟨#[]⟩, Value.int IntKind.i64 0, Value.int IntKind.i64 0, Value.string ⟨#[]⟩, Value.int IntKind.i64 0, Value.bool false, Value.bool false, Value.int IntKind.i64 0, Value.int IntKind.i64 0, Value.int IntKind.i64 0] rfl rfl (show _ from (HKg.out).there) (by kernel_rfl) (by kernel_rfl) ?_
    refine hK9 _ _ (Below.setCells' _ _ (HBg.out) (by have := (HBg.out).size; first | omega | (simp; done) | (simp; omega))) ?_
    clear hK9 K9
    try go_frame
    repeat ((first | (refine wpY_w ?_ (Or.inl ⟨by rfl, fun w9 => ?_⟩) ?_; rotate_left 1; go_simp; with_reducible rfl) | (refine wpY_l ?_ (Below.setCells' _ _ (HBg.out) (by have := (HBg.out).size; first | omega | (simp; done) | (simp; omega))) (Or.inl ⟨by rfl, fun w9 hw9 => ?_⟩) ?_; rotate_left 1; obtain ⟨hc9, hf9⟩ := bcell hw9; go_simp; with_reducible rfl) | refine wpY_w undef (Or.inr ⟨by rfl, rfl⟩) ?_ | refine wpY_l undef (Below.setCells' _ _ (HBg.out) (by have := (HBg.out).size; first | omega | (simp; done) | (simp; omega))) (Or.inr ⟨by rfl, rfl⟩) ?_); go_frame)
    refine wpY_nil ?_
    simp only [OnlyN_normal]
    refine hKK _ _ ?_
    clear hKK KK
    go_wp2_with fail
    go_meet
    case rel => exact ⟨rfl, Below.setCells' _ _ (HBg.out) (by have := (HBg.out).size; first | omega | (simp; done) | (simp; omega))⟩
 case rest =>
  obtain ⟨rfl, hB⟩ := hcut
  have r0 := (HM0.out.new_ hB).c1
  have hX := HX0.out.new_ hB
  have HX := Lib.hid hX
  have hml2 := (HM0.out.new_ hB).lt
  have hxl2 := hX.lt
  have HB := Lib.hid hB
  have HS2 := Lib.hid (HS0.out.new_ hB)
  have x0 := (hX.cell 0).trans rfl
  have x1 := (hX.cell 1).trans rfl
  have x2 := (hX.cell 2).trans rfl
  have x3 := (hX.cell 3).trans rfl
  have x4 := (hX.cell 4).trans rfl
  have x5 := (hX.cell 5).trans rfl
  have x6 := (hX.cell 6).trans rfl
  have x7 := (hX.cell 7).trans rfl
  have x8 := (hX.cell 8).trans rfl
  have x9 := (hX.cell 9).trans rfl
  have x10 := (hX.cell 10).trans rfl
  have x11 := (hX.cell 11).trans rfl
  have x12 := (hX.cell 12).trans rfl
  have x13 := (hX.cell 13).trans rfl
  clear hB hX s1
  go_wp2_with fail
  refine wp_region_E (fun w9 => Below wc.heap.size wc w9) [(0, 0), (1, 0), (2, 0), (3, 1), (4, 0), (5, 1), (6, 0), (7, 2), (8, 0)] (by kernel_rfl) (by kernel_rfl) (fun KK hKK => ?_)
  simp only [beside, List.filterMap_cons, List.filterMap_nil, List.getElem?_toArray, List.getElem?_cons_zero, List.getElem?_cons_succ, Option.map_some]
  repeat ((first | (refine wpX_w ?_ (Or.inl ⟨by rfl, fun w9 => ?_⟩) ?_; rotate_left 1; go_simp; with_reducible rfl) | (refine wpX_l ?_ (((Below.refl _ _).drew)) (Or.inl ⟨by rfl, fun w9 hw9 => ?_⟩) ?_; rotate_left 1; obtain ⟨hc9, hf9⟩ := bcell hw9; go_simp; with_reducible rfl) | refine wpX_w undef (Or.inr ⟨by rfl, rfl⟩) ?_ | refine wpX_l undef (((Below.refl _ _).drew)) (Or.inr ⟨by rfl, rfl⟩) ?_); go_frame)
  refine wpX_e (by kernel_rfl) (fun K9 hK9 => ?_)
  go_simp
  refine (put_PgT bp cc sn A m x _ (HS2.out.new_ ((Below.refl _ _).drew)) HO.out (by omega)).mono ?_
  rintro e w5 ⟨rfl, hch⟩
  have HP := Lib.hid hch
  clear hch
  refine hK9 _ _ ?_
  clear hK9 K9
  repeat ((first | (refine wpX_w ?_ (Or.inl ⟨by rfl, fun w9 => ?_⟩) ?_; rotate_left 1; go_simp; with_reducible rfl) | (refine wpX_l ?_ (((Below.refl _ _).drew)) (Or.inl ⟨by rfl, fun w9 hw9 => ?_⟩) ?_; rotate_left 1; obtain ⟨hc9, hf9⟩ := bcell hw9; go_simp; with_reducible rfl) | refine wpX_w undef (Or.inr ⟨by rfl, rfl⟩) ?_ | refine wpX_l undef (((Below.refl _ _).drew)) (Or.inr ⟨by rfl, rfl⟩) ?_); go_frame)
  refine wpX_nil ?_
  simp only [OnlyN_normal]
  refine hKK _ _ ?_
  clear hKK KK
  go_wp2_with fail
  go_ret
  have hBB : Below w.heap.size w wc := HB0.out.trans (HB.out.mono (by omega))
  obtain ⟨sn', A', c', g1, g2, g3⟩ := HP.out
  refine ⟨by rw [HH.out] <;> rfl, sn', A', c', g1, (Fr.of_new hBB).trans ((Fr.refl _ wc).drew.trans g2), Moved.of_PgT hBB g3⟩
end Go.Proofs.Ytnfgilbaglfkeaa
namespace Go.Proofs.Ytnfgilbaglfkeaa
open Go.RowKit Go.Shelf
attribute [local go_sem] Oper.semAt_some
def encPPgT (x : PgT) : Array Value := #[.int .i64 x.kk, .agg #[.int .i64 x.tr.elem.id.kind, .string x.tr.elem.id.text, .int .i64 x.tr.elem.id.n, .int .i64 x.tr.elem.attr.kind, .string x.tr.elem.attr.text, .int .i64 x.tr.elem.attr.n, .int .i64 x.tr.elem.value.kind, .string x.tr.elem.value.text, .int .i64 x.tr.elem.value.n, .bool x.tr.elem.acc, .bool x.tr.elem.goal, .int .i64 x.tr.elem.tag, .int .i64 x.tr.level, .int .i64 x.tr.cause]]
set_option maxRecDepth 100000 in
set_option maxHeartbeats 16000000 in
theorem bkall1_PgT (kb c : Nat) (sn : Bool) (A : Option Addr) (bm bp : Nat) (l : List PgT) (W : World) (hbox : W.cell? ⟨kb, 0, none⟩ = some (.pointer (some ⟨bm, 0, none⟩))) (hB : Blk W bm 137 #[.pointer (some ⟨bp, 0, none⟩)]) (hS : PgTSet W bp sn A c l) :
 IterP Try.prog 76 #[.pointer (some ⟨kb, 0, none⟩)] encPPgT l W (SeenStart bp) (RowKeep A) := by
 intro lo J Jx hJ hJx h0 hY
 have hbsl := hS.lt
 have hkb := World.block_lt_of_cell? W _ hbox
 have hAl := hS.row_lt
 have s1 := (hB.cell 0).trans rfl
 have hbl := hB.lt
 have HJ := Lib.hid hJ
 have HJx := Lib.hid hJx
 have H0 := Lib.hid h0
 have HY := Lib.hid hY
 have HS := Lib.hid hS
 have HA := Lib.hid hAl
 clear hJ hJx h0 hY hS hB hAl
 refine callsIn_of_wp_marks Try.func76 rfl trivial ?_
 simp only [Try.ntmps76, List.size_toArray, List.length_cons, List.length_nil, Nat.reduceAdd, Nat.reduceSub, Array.replicate_succ, Array.replicate_zero, List.push_toArray, List.append_toArray, List.nil_append, List.cons_append]
 gi_wp2_with fail
 refine ⟨trivial, rfl, ?_⟩
 obtain ⟨W0, hW0⟩ : ∃ W0, W0 = W.alloc (.cells #[.func (.yield lo) #[] #[]] 98) := ⟨_, rfl⟩
 have hb0 : Below W.heap.size W W0 := by rw [hW0]; exact (Below.refl _ _).alloc (Nat.le_refl _) _
 have hY0 : Blk W0 W.heap.size 98 #[.func (.yield lo) #[] #[]] := by rw [hW0]; exact Blk.new _ _ _
 rw [← hW0]
 clear hW0
 refine (callsIn_wide.2 (mkall_PgT bp W0)).mono ?_
 rintro e w3 ⟨rfl, hb3, hbox3⟩
 have hz0 := hY0.lt
 have hz3 := hb3.size
 have hY3 := (hY0.new_ hb3)
 have hB3 : Below W.heap.size W w3 := hb0.trans (hb3.mono hb0.size)
 have hSQ := seq_all_PgT W0.heap.size bp _ _ _ l w3 hbox3 (HS.out.new_ hB3)
 have HSQ := Lib.hid hSQ
 have HY3 := Lib.hid hY3
 have HB3 := Lib.hid hB3
 clear hb0 hY0 hb3 hbox3 hSQ hY3 hB3 s1
 gi_wp2_with fail
 obtain ⟨I, hI⟩ : ∃ I : World → List PgT → World → Prop, I = fun F p X => (SeenStart bp W F ∧ F.heap.size ≤ X.heap.size ∧ W.heap.size < F.heap.size) ∧ J F p X ∧ X.cell? ⟨W.heap.size, 0, none⟩ = some (.func (.yield lo) #[] #[]) := ⟨_, rfl⟩
 obtain ⟨Ix, hIx⟩ : ∃ Ix : World → Code → List PgT → World → Prop, Ix = fun F c p X => c = .ret ∧ SeenStart bp W F ∧ Jx F p X := ⟨_, rfl⟩
 refine wpIn_rangeP (w := w3) (by rfl) HSQ.out.enter HSQ.out.p.iter (fun x => by rfl) HSQ.out.trans HSQ.out.keep (fun W W1 h => keepsFrom_of_fr (HSQ.out.mods W W1 h)) I Ix ?_ ?_ ?_ ?_ ?_ ?_
 · subst hI
   rintro F p X Y ⟨g0, g1, g2⟩ hp
   exact ⟨⟨g0.1, Nat.le_trans g0.2.1 hp.size, g0.2.2⟩, HJ.out F p X Y g1 (hp.mono (by omega)), cell_priv g2 hp⟩
 · subst hIx
   rintro F c p X Y ⟨g0, g1, g2⟩ hp
   exact ⟨g0, g1, HJx.out F p X Y g2 (hp.mono (by omega))⟩
 · intro X F hX hs
   subst hI
   have hs2 := hs.from_ (HB3.out.trans (hX.mono (by omega)))
   have hs3 := hs.size
   have hx3 := hX.size
   refine ⟨⟨hs2, Nat.le_refl _, by omega⟩, H0.out F hs2, ?_⟩
   have hy := HY3.out.new_ hX
   exact ((hs.fr.cell (p := ⟨W.heap.size, 0, none⟩) hy.lt (fun e => by dsimp only at e; omega)).trans ((hy.cell 0).trans rfl))
 · intro F lo2 pre x post X hx hlo hIW
   have HX := Lib.hid hx
   clear hx
   rw [hI] at hIW
   obtain ⟨⟨hst, hfx, hwf⟩, hJ1, hyc⟩ := hIW
   have HI := Lib.hid hI
   have HIx := Lib.hid hIx
   have HST := Lib.hid hst
   have HJ1 := Lib.hid hJ1
   have hyl := World.block_lt_of_cell? X _ hyc
   clear hI hIx hst hJ1
   simp only [encPgT, Array.zip]
   gi_wp2_with fail
   have hJ2 := HJ.out F pre X _ HJ1.out ((Priv.refl W.heap.size X).alloc (.cells #[.int .i64 x.kk, .int .i64 x.tr.elem.id.kind, .string x.tr.elem.id.text, .int .i64 x.tr.elem.id.n, .int .i64 x.tr.elem.attr.kind, .string x.tr.elem.attr.text, .int .i64 x.tr.elem.attr.n, .int .i64 x.tr.elem.value.kind, .string x.tr.elem.value.text, .int .i64 x.tr.elem.value.n, .bool x.tr.elem.acc, .bool x.tr.elem.goal, .int .i64 x.tr.elem.tag, .int .i64 x.tr.level, .int .i64 x.tr.cause] 135))
   have hb9 : Below X.heap.size X (X.alloc (.cells #[.int .i64 x.kk, .int .i64 x.tr.elem.id.kind, .string x.tr.elem.id.text, .int .i64 x.tr.elem.id.n, .int .i64 x.tr.elem.attr.kind, .string x.tr.elem.attr.text, .int .i64 x.tr.elem.attr.n, .int .i64 x.tr.elem.value.kind, .string x.tr.elem.value.text, .int .i64 x.tr.elem.value.n, .bool x.tr.elem.acc, .bool x.tr.elem.goal, .int .i64 x.tr.elem.tag, .int .i64 x.tr.level, .int .i64 x.tr.cause] 135)) := (Below.refl _ _).alloc (Nat.le_refl _) _
   have hyc2 := (hb9.cell (p := ⟨W.heap.size, 0, none⟩) hyl).trans hyc
   have hx9 : Blk (X.alloc (.cells #[.int .i64 x.kk, .int .i64 x.tr.elem.id.kind, .string x.tr.elem.id.text, .int .i64 x.tr.elem.id.n, .int .i64 x.tr.elem.attr.kind, .string x.tr.elem.attr.text, .int .i64 x.tr.elem.attr.n, .int .i64 x.tr.elem.value.kind, .string x.tr.elem.value.text, .int .i64 x.tr.elem.value.n, .bool x.tr.elem.acc, .bool x.tr.elem.goal, .int .i64 x.tr.elem.tag, .int .i64 x.tr.level, .int .i64 x.tr.cause] 135)) X.heap.size 135 #[.int .i64 x.kk, .int .i64 x.tr.elem.id.kind, .string x.tr.elem.id.text, .int .i64 x.tr.elem.id.n, .int .i64 x.tr.elem.attr.kind, .string x.tr.elem.attr.text, .int .i64 x.tr.elem.attr.n, .int .i64 x.tr.elem.value.kind, .string x.tr.elem.value.text, .int .i64 x.tr.elem.value.n, .bool x.tr.elem.acc, .bool x.tr.elem.goal, .int .i64 x.tr.elem.tag, .int .i64 x.tr.level, .int .i64 x.tr.cause] := Blk.new _ _ _
   have hx3 : w3.heap.size ≤ X.heap.size ∨ X.heap.size < w3.heap.size := by omega
   have hrk9 : RowKeep A X (X.alloc (.cells #[.int .i64 x.kk, .int .i64 x.tr.elem.id.kind, .string x.tr.elem.id.text, .int .i64 x.tr.elem.id.n, .int .i64 x.tr.elem.attr.kind, .string x.tr.elem.attr.text, .int .i64 x.tr.elem.attr.n, .int .i64 x.tr.elem.value.kind, .string x.tr.elem.value.text, .int .i64 x.tr.elem.value.n, .bool x.tr.elem.acc, .bool x.tr.elem.goal, .int .i64 x.tr.elem.tag, .int .i64 x.tr.level, .int .i64 x.tr.cause] 135)) := RowKeep.of_priv HA.out (((Priv.refl W.heap.size X).alloc _))
   refine ⟨Kept.new_ hb9 hfx, fun X2 hp2 hz2 _ _ => ?_⟩
   have hJ3 := HJ.out F pre _ X2 hJ2 (hp2.mono (by omega))
   have hyc3 := cell_priv hyc2 hp2
   have hx2 := hx9.priv hp2
   have x0 : X2.cell? ⟨X.heap.size, 0, none⟩ = some (.int .i64 x.kk) := (hx2.cell 0).trans rfl
   have x1 : X2.cell? ⟨X.heap.size, 1, none⟩ = some (.int .i64 x.tr.elem.id.kind) := (hx2.cell 1).trans rfl
   have x2 : X2.cell? ⟨X.heap.size, 2, none⟩ = some (.string x.tr.elem.id.text) := (hx2.cell 2).trans rfl
   have x3 : X2.cell? ⟨X.heap.size, 3, none⟩ = some (.int .i64 x.tr.elem.id.n) := (hx2.cell 3).trans rfl
   have x4 : X2.cell? ⟨X.heap.size, 4, none⟩ = some (.int .i64 x.tr.elem.attr.kind) := (hx2.cell 4).trans rfl
   have x5 : X2.cell? ⟨X.heap.size, 5, none⟩ = some (.string x.tr.elem.attr.text) := (hx2.cell 5).trans rfl
   have x6 : X2.cell? ⟨X.heap.size, 6, none⟩ = some (.int .i64 x.tr.elem.attr.n) := (hx2.cell 6).trans rfl
   have x7 : X2.cell? ⟨X.heap.size, 7, none⟩ = some (.int .i64 x.tr.elem.value.kind) := (hx2.cell 7).trans rfl
   have x8 : X2.cell? ⟨X.heap.size, 8, none⟩ = some (.string x.tr.elem.value.text) := (hx2.cell 8).trans rfl
   have x9 : X2.cell? ⟨X.heap.size, 9, none⟩ = some (.int .i64 x.tr.elem.value.n) := (hx2.cell 9).trans rfl
   have x10 : X2.cell? ⟨X.heap.size, 10, none⟩ = some (.bool x.tr.elem.acc) := (hx2.cell 10).trans rfl
   have x11 : X2.cell? ⟨X.heap.size, 11, none⟩ = some (.bool x.tr.elem.goal) := (hx2.cell 11).trans rfl
   have x12 : X2.cell? ⟨X.heap.size, 12, none⟩ = some (.int .i64 x.tr.elem.tag) := (hx2.cell 12).trans rfl
   have x13 : X2.cell? ⟨X.heap.size, 13, none⟩ = some (.int .i64 x.tr.level) := (hx2.cell 13).trans rfl
   have x14 : X2.cell? ⟨X.heap.size, 14, none⟩ = some (.int .i64 x.tr.cause) := (hx2.cell 14).trans rfl
   have hrk2 : RowKeep A X X2 := hrk9.trans (RowKeep.of_priv HA.out (hp2.mono (B := W.heap.size) (by omega)))
   have HRK := Lib.hid hrk2
   have hfx2 : F.heap.size ≤ X2.heap.size := by omega
   have hxl2 := hx2.lt
   obtain ⟨fn, tmps, assign, body, hy, hR⟩ := HY.out F pre x post X2 HST.out HX.out hJ3
   dsimp only [encPPgT] at hy
   have HRR := Lib.hid hR
   have hyl2 := World.block_lt_of_cell? X2 _ hyc3
   have HYC3 := Lib.hid hyc3
   clear hR hJ2 hb9 hyc2 hx9 hx3 hrk9 hp2 hJ3 hx2 hrk2 hyc
   gi_wp2_with fail
   refine ⟨rfl, HRR.out.mono ?_⟩
   rintro e W3 (⟨rfl, hJ3, hk3, hkept⟩ | ⟨rfl, hJx3, hkept⟩)
   · have HJ3 := Lib.hid hJ3
     have HK3 := Lib.hid hk3
     have HKE := Lib.hid hkept
     clear hJ3 hk3 hkept hy x0 x1 x2 x3 x4 x5 x6 x7 x8 x9 x10 x11 x12 x13 x14 hyc3
     gi_wp2
     have hI := HI.out
     subst hI
     refine ⟨HKE.out.up (by omega), HRK.out.trans HK3.out, ⟨HST.out, Nat.le_trans hfx2 HK3.out.1, hwf⟩, HJ3.out, ?_⟩
     exact (World.cell?_of_block (a := ⟨W.heap.size, 0, none⟩) (HKE.out.own _ (Nat.le_refl _) hwf)).trans HYC3.out
   · have HJ3 := Lib.hid hJx3
     have HKE := Lib.hid hkept
     clear hJx3 hkept hy x0 x1 x2 x3 x4 x5 x6 x7 x8 x9 x10 x11 x12 x13 x14 hyc3
     gi_wp2
     have hIx := HIx.out
     subst hIx
     exact ⟨HKE.out.up (by omega), rfl, HST.out, HJ3.out⟩
 · intro F D X hD hIW hK
   subst hI
   obtain ⟨⟨hst, _, _⟩, hJ1, _⟩ := hIW
   have HST := Lib.hid hst
   have HJ1 := Lib.hid hJ1
   have HK := Lib.hid hK
   clear hst hJ1 hK hIx
   gi_wp2_with fail
   refine ⟨by simp, .inl ⟨_, _, rfl, run_takeDeferred HK.out, ?_⟩⟩
   have hpv : Priv W.heap.size X (X.putObj D (.deferred none)) := (Priv.refl _ _).putObj (by omega) HK.out rfl _
   exact ⟨_, results_none rfl _ _ _, ⟨_, rfl⟩, F, HST.out, .inl (HJ.out F _ _ _ HJ1.out hpv)⟩
 · intro F D c pre post X hD hx hIW hK
   subst hIx
   obtain ⟨rfl, hst, hJ1⟩ := hIW
   have HST := Lib.hid hst
   have HJ1 := Lib.hid hJ1
   have HK := Lib.hid hK
   have HX := Lib.hid hx
   clear hst hJ1 hK hI hx
   gi_wp2_with fail
   refine ⟨by simp, .inl ⟨_, _, rfl, run_takeDeferred HK.out, ?_⟩⟩
   have hpv : Priv W.heap.size X (X.putObj D (.deferred none)) := (Priv.refl _ _).putObj (by omega) HK.out rfl _
   exact ⟨_, results_none rfl _ _ _, ⟨_, rfl⟩, F, HST.out, .inr ⟨pre, post, HX.out, HJx.out F _ _ _ HJ1.out hpv⟩⟩
theorem seq_bkPgT (kb c : Nat) (sn : Bool) (A : Option Addr) (bm bp : Nat) (l : List PgT) (w : World) (hbox : w.cell? ⟨kb, 0, none⟩ = some (.pointer (some ⟨bm, 0, none⟩))) (hB : Blk w bm 137 #[.pointer (some ⟨bp, 0, none⟩)]) (hS : PgTSet w bp sn A c l) :
 SeqP 76 #[.pointer (some ⟨kb, 0, none⟩)] encPPgT l w (SeenStart bp) (RowKeep A) :=
 ⟨by intro args w; kernel_rfl, fun W hW => bkall1_PgT kb c sn A bm bp l W ((hW.cell (World.block_lt_of_cell? _ _ hbox)).trans hbox) (hB.new_ hW) (hS.new_ hW), fun _ _ _ => RowKeep.trans, fun _ _ => RowKeep.of_priv hS.row_lt, fun _ _ => RowKeep.of_below hS.row_lt, fun _ _ h => h.fr.mono (fun k _ hk => by subst hk; exact hS.lt)⟩
end Go.Proofs.Ytnfgilbaglfkeaa
