/-
  Texts put together: Shape2, Shape6, Show6.
-/
import Derived.Test.YtffemfglngikbaaRe
import Derived.Test.YtffemfglngikbaaRb
import Derived.Test.YtffemfglngikbaaRi
import Derived.Test.YtffemfglngikbaaRa
import Derived.Test.YtffemfglngikbaaRh
namespace Go.Proofs.Ytffemfglngikbaa
open Go.RowKit Go.Shelf
set_option maxRecDepth 100000 in
set_option maxHeartbeats 8000000 in
theorem act_is (a:ActT) (w:World):Calls Try.prog 91 #[.agg #[.string a.id,.string a.attr.var,.int .i64 a.attr.sym.kind,.string a.attr.sym.text,.int .i64 a.attr.sym.n,.int .i64 a.value.op,.string a.value.a.var,.int .i64 a.value.a.sym.kind,.string a.value.a.sym.text,.int .i64 a.value.a.sym.n,.string a.value.b.var,.int .i64 a.value.b.sym.kind,.string a.value.b.sym.text,.int .i64 a.value.b.sym.n,.int .i64 a.pref,.string a.other.var,.int .i64 a.other.sym.kind,.string a.other.sym.text,.int .i64 a.other.sym.n]] w fun e w'=>e = .returned (.bool (actB a))∧Below w.heap.size w w':=by
 by_cases c0:isWord a.id=false
 · have t0:=c0
   have HR:=Lib.hid (show actB a=false by simp [actB, *])
   clear c0
   go_enter Try.func91,Try.ntmps91
   go_upto_region 1 with fail
   obtain ⟨W1,hW1⟩ : ∃W1,W1=w.alloc (.cells #[.string a.id,.string a.attr.var,.int .i64 a.attr.sym.kind,.string a.attr.sym.text,.int .i64 a.attr.sym.n,.int .i64 a.value.op,.string a.value.a.var,.int .i64 a.value.a.sym.kind,.string a.value.a.sym.text,.int .i64 a.value.a.sym.n,.string a.value.b.var,.int .i64 a.value.b.sym.kind,.string a.value.b.sym.text,.int .i64 a.value.b.sym.n,.int .i64 a.pref,.string a.other.var,.int .i64 a.other.sym.kind,.string a.other.sym.text,.int .i64 a.other.sym.n] 58):=⟨_,rfl⟩
   rw [← hW1]
   have hBk:Blk W1 w.heap.size 58 #[.string a.id,.string a.attr.var,.int .i64 a.attr.sym.kind,.string a.attr.sym.text,.int .i64 a.attr.sym.n,.int .i64 a.value.op,.string a.value.a.var,.int .i64 a.value.a.sym.kind,.string a.value.a.sym.text,.int .i64 a.value.a.sym.n,.string a.value.b.var,.int .i64 a.value.b.sym.kind,.string a.value.b.sym.text,.int .i64 a.value.b.sym.n,.int .i64 a.pref,.string a.other.var,.int .i64 a.other.sym.kind,.string a.other.sym.text,.int .i64 a.other.sym.n]:=by rw [hW1];exact Blk.new _ _ _
   have HB:=Lib.hid (show Below w.heap.size w W1 by rw [hW1];exact (Below.refl _ _).alloc (Nat.le_refl _) _)
   have e0:W1.cell? ⟨w.heap.size,0,none⟩=some (.string a.id):=(hBk.cell 0).trans rfl
   have e1:W1.cell? ⟨w.heap.size,1,none⟩=some (.string a.attr.var):=(hBk.cell 1).trans rfl
   have e2:W1.cell? ⟨w.heap.size,2,none⟩=some (.int .i64 a.attr.sym.kind):=(hBk.cell 2).trans rfl
   have e3:W1.cell? ⟨w.heap.size,3,none⟩=some (.string a.attr.sym.text):=(hBk.cell 3).trans rfl
   have e4:W1.cell? ⟨w.heap.size,4,none⟩=some (.int .i64 a.attr.sym.n):=(hBk.cell 4).trans rfl
   have e5:W1.cell? ⟨w.heap.size,5,none⟩=some (.int .i64 a.value.op):=(hBk.cell 5).trans rfl
   have e6:W1.cell? ⟨w.heap.size,6,none⟩=some (.string a.value.a.var):=(hBk.cell 6).trans rfl
   have e7:W1.cell? ⟨w.heap.size,7,none⟩=some (.int .i64 a.value.a.sym.kind):=(hBk.cell 7).trans rfl
   have e8:W1.cell? ⟨w.heap.size,8,none⟩=some (.string a.value.a.sym.text):=(hBk.cell 8).trans rfl
   have e9:W1.cell? ⟨w.heap.size,9,none⟩=some (.int .i64 a.value.a.sym.n):=(hBk.cell 9).trans rfl
   have e10:W1.cell? ⟨w.heap.size,10,none⟩=some (.string a.value.b.var):=(hBk.cell 10).trans rfl
   have e11:W1.cell? ⟨w.heap.size,11,none⟩=some (.int .i64 a.value.b.sym.kind):=(hBk.cell 11).trans rfl
   have e12:W1.cell? ⟨w.heap.size,12,none⟩=some (.string a.value.b.sym.text):=(hBk.cell 12).trans rfl
   have e13:W1.cell? ⟨w.heap.size,13,none⟩=some (.int .i64 a.value.b.sym.n):=(hBk.cell 13).trans rfl
   have e14:W1.cell? ⟨w.heap.size,14,none⟩=some (.int .i64 a.pref):=(hBk.cell 14).trans rfl
   have e15:W1.cell? ⟨w.heap.size,15,none⟩=some (.string a.other.var):=(hBk.cell 15).trans rfl
   have e16:W1.cell? ⟨w.heap.size,16,none⟩=some (.int .i64 a.other.sym.kind):=(hBk.cell 16).trans rfl
   have e17:W1.cell? ⟨w.heap.size,17,none⟩=some (.string a.other.sym.text):=(hBk.cell 17).trans rfl
   have e18:W1.cell? ⟨w.heap.size,18,none⟩=some (.int .i64 a.other.sym.n):=(hBk.cell 18).trans rfl
   have hbl:=hBk.lt
   clear hW1 hBk
   go_wp2_with (first
    | (go_at_call 86;refine (word_is a.id _).mono ?_;rintro e w9 ⟨rfl,rfl⟩)
    | (go_at_call 99;(first | (with_reducible refine (atomS_is a.attr _).mono ?_) | (with_reducible refine (atomS_is a.other _).mono ?_));rintro e w9 ⟨rfl,hb9⟩;have HB:=Lib.hid (HB.out.trans (hb9.mono HB.out.size));replace e0:=(hb9.cell (p:=⟨w.heap.size,0,none⟩) hbl).trans e0;replace e1:=(hb9.cell (p:=⟨w.heap.size,1,none⟩) hbl).trans e1;replace e2:=(hb9.cell (p:=⟨w.heap.size,2,none⟩) hbl).trans e2;replace e3:=(hb9.cell (p:=⟨w.heap.size,3,none⟩) hbl).trans e3;replace e4:=(hb9.cell (p:=⟨w.heap.size,4,none⟩) hbl).trans e4;replace e5:=(hb9.cell (p:=⟨w.heap.size,5,none⟩) hbl).trans e5;replace e6:=(hb9.cell (p:=⟨w.heap.size,6,none⟩) hbl).trans e6;replace e7:=(hb9.cell (p:=⟨w.heap.size,7,none⟩) hbl).trans e7;replace e8:=(hb9.cell (p:=⟨w.heap.size,8,none⟩) hbl).trans e8;replace e9:=(hb9.cell (p:=⟨w.heap.size,9,none⟩) hbl).trans e9;replace e10:=(hb9.cell (p:=⟨w.heap.size,10,none⟩) hbl).trans e10;replace e11:=(hb9.cell (p:=⟨w.heap.size,11,none⟩) hbl).trans e11;replace e12:=(hb9.cell (p:=⟨w.heap.size,12,none⟩) hbl).trans e12;replace e13:=(hb9.cell (p:=⟨w.heap.size,13,none⟩) hbl).trans e13;replace e14:=(hb9.cell (p:=⟨w.heap.size,14,none⟩) hbl).trans e14;replace e15:=(hb9.cell (p:=⟨w.heap.size,15,none⟩) hbl).trans e15;replace e16:=(hb9.cell (p:=⟨w.heap.size,16,none⟩) hbl).trans e16;replace e17:=(hb9.cell (p:=⟨w.heap.size,17,none⟩) hbl).trans e17;replace e18:=(hb9.cell (p:=⟨w.heap.size,18,none⟩) hbl).trans e18;replace hbl:=Nat.lt_of_lt_of_le hbl hb9.size;clear hb9)
    | (go_at_call 100;refine (term_is a.value _).mono ?_;rintro e w9 ⟨rfl,hb9⟩;have HB:=Lib.hid (HB.out.trans (hb9.mono HB.out.size));replace e0:=(hb9.cell (p:=⟨w.heap.size,0,none⟩) hbl).trans e0;replace e1:=(hb9.cell (p:=⟨w.heap.size,1,none⟩) hbl).trans e1;replace e2:=(hb9.cell (p:=⟨w.heap.size,2,none⟩) hbl).trans e2;replace e3:=(hb9.cell (p:=⟨w.heap.size,3,none⟩) hbl).trans e3;replace e4:=(hb9.cell (p:=⟨w.heap.size,4,none⟩) hbl).trans e4;replace e5:=(hb9.cell (p:=⟨w.heap.size,5,none⟩) hbl).trans e5;replace e6:=(hb9.cell (p:=⟨w.heap.size,6,none⟩) hbl).trans e6;replace e7:=(hb9.cell (p:=⟨w.heap.size,7,none⟩) hbl).trans e7;replace e8:=(hb9.cell (p:=⟨w.heap.size,8,none⟩) hbl).trans e8;replace e9:=(hb9.cell (p:=⟨w.heap.size,9,none⟩) hbl).trans e9;replace e10:=(hb9.cell (p:=⟨w.heap.size,10,none⟩) hbl).trans e10;replace e11:=(hb9.cell (p:=⟨w.heap.size,11,none⟩) hbl).trans e11;replace e12:=(hb9.cell (p:=⟨w.heap.size,12,none⟩) hbl).trans e12;replace e13:=(hb9.cell (p:=⟨w.heap.size,13,none⟩) hbl).trans e13;replace e14:=(hb9.cell (p:=⟨w.heap.size,14,none⟩) hbl).trans e14;replace e15:=(hb9.cell (p:=⟨w.heap.size,15,none⟩) hbl).trans e15;replace e16:=(hb9.cell (p:=⟨w.heap.size,16,none⟩) hbl).trans e16;replace e17:=(hb9.cell (p:=⟨w.heap.size,17,none⟩) hbl).trans e17;replace e18:=(hb9.cell (p:=⟨w.heap.size,18,none⟩) hbl).trans e18;replace hbl:=Nat.lt_of_lt_of_le hbl hb9.size;clear hb9)
    | (go_at_call 101;refine (other_is a.pref _).mono ?_;rintro e w9 ⟨rfl,rfl⟩)
    | (go_at_call 102;refine (empty_is a.other _).mono ?_;rintro e w9 ⟨rfl,hb9⟩;have HB:=Lib.hid (HB.out.trans (hb9.mono HB.out.size));replace e0:=(hb9.cell (p:=⟨w.heap.size,0,none⟩) hbl).trans e0;replace e1:=(hb9.cell (p:=⟨w.heap.size,1,none⟩) hbl).trans e1;replace e2:=(hb9.cell (p:=⟨w.heap.size,2,none⟩) hbl).trans e2;replace e3:=(hb9.cell (p:=⟨w.heap.size,3,none⟩) hbl).trans e3;replace e4:=(hb9.cell (p:=⟨w.heap.size,4,none⟩) hbl).trans e4;replace e5:=(hb9.cell (p:=⟨w.heap.size,5,none⟩) hbl).trans e5;replace e6:=(hb9.cell (p:=⟨w.heap.size,6,none⟩) hbl).trans e6;replace e7:=(hb9.cell (p:=⟨w.heap.size,7,none⟩) hbl).trans e7;replace e8:=(hb9.cell (p:=⟨w.heap.size,8,none⟩) hbl).trans e8;replace e9:=(hb9.cell (p:=⟨w.heap.size,9,none⟩) hbl).trans e9;replace e10:=(hb9.cell (p:=⟨w.heap.size,10,none⟩) hbl).trans e10;replace e11:=(hb9.cell (p:=⟨w.heap.size,11,none⟩) hbl).trans e11;replace e12:=(hb9.cell (p:=⟨w.heap.size,12,none⟩) hbl).trans e12;replace e13:=(hb9.cell (p:=⟨w.heap.size,13,none⟩) hbl).trans e13;replace e14:=(hb9.cell (p:=⟨w.heap.size,14,none⟩) hbl).trans e14;replace e15:=(hb9.cell (p:=⟨w.heap.size,15,none⟩) hbl).trans e15;replace e16:=(hb9.cell (p:=⟨w.heap.size,16,none⟩) hbl).trans e16;replace e17:=(hb9.cell (p:=⟨w.heap.size,17,none⟩) hbl).trans e17;replace e18:=(hb9.cell (p:=⟨w.heap.size,18,none⟩) hbl).trans e18;replace hbl:=Nat.lt_of_lt_of_le hbl hb9.size;clear hb9))
   go_ret
   exact ⟨by rw [HR.out]<;>rfl,by (first | exact HB.out | (exact (Below.refl _ _).alloc (Nat.le_refl _) _) | (simpa using HB.out))⟩
 by_cases c1:atomB a.attr=false
 · have t0:isWord a.id=true:=by simpa using c0
   have t1:=c1
   have HR:=Lib.hid (show actB a=false by simp [actB, *])
   clear c0 c1
   go_enter Try.func91,Try.ntmps91
   go_upto_region 1 with fail
   obtain ⟨W1,hW1⟩ : ∃W1,W1=w.alloc (.cells #[.string a.id,.string a.attr.var,.int .i64 a.attr.sym.kind,.string a.attr.sym.text,.int .i64 a.attr.sym.n,.int .i64 a.value.op,.string a.value.a.var,.int .i64 a.value.a.sym.kind,.string a.value.a.sym.text,.int .i64 a.value.a.sym.n,.string a.value.b.var,.int .i64 a.value.b.sym.kind,.string a.value.b.sym.text,.int .i64 a.value.b.sym.n,.int .i64 a.pref,.string a.other.var,.int .i64 a.other.sym.kind,.string a.other.sym.text,.int .i64 a.other.sym.n] 58):=⟨_,rfl⟩
   rw [← hW1]
   have hBk:Blk W1 w.heap.size 58 #[.string a.id,.string a.attr.var,.int .i64 a.attr.sym.kind,.string a.attr.sym.text,.int .i64 a.attr.sym.n,.int .i64 a.value.op,.string a.value.a.var,.int .i64 a.value.a.sym.kind,.string a.value.a.sym.text,.int .i64 a.value.a.sym.n,.string a.value.b.var,.int .i64 a.value.b.sym.kind,.string a.value.b.sym.text,.int .i64 a.value.b.sym.n,.int .i64 a.pref,.string a.other.var,.int .i64 a.other.sym.kind,.string a.other.sym.text,.int .i64 a.other.sym.n]:=by rw [hW1];exact Blk.new _ _ _
   have HB:=Lib.hid (show Below w.heap.size w W1 by rw [hW1];exact (Below.refl _ _).alloc (Nat.le_refl _) _)
   have e0:W1.cell? ⟨w.heap.size,0,none⟩=some (.string a.id):=(hBk.cell 0).trans rfl
   have e1:W1.cell? ⟨w.heap.size,1,none⟩=some (.string a.attr.var):=(hBk.cell 1).trans rfl
   have e2:W1.cell? ⟨w.heap.size,2,none⟩=some (.int .i64 a.attr.sym.kind):=(hBk.cell 2).trans rfl
   have e3:W1.cell? ⟨w.heap.size,3,none⟩=some (.string a.attr.sym.text):=(hBk.cell 3).trans rfl
   have e4:W1.cell? ⟨w.heap.size,4,none⟩=some (.int .i64 a.attr.sym.n):=(hBk.cell 4).trans rfl
   have e5:W1.cell? ⟨w.heap.size,5,none⟩=some (.int .i64 a.value.op):=(hBk.cell 5).trans rfl
   have e6:W1.cell? ⟨w.heap.size,6,none⟩=some (.string a.value.a.var):=(hBk.cell 6).trans rfl
   have e7:W1.cell? ⟨w.heap.size,7,none⟩=some (.int .i64 a.value.a.sym.kind):=(hBk.cell 7).trans rfl
   have e8:W1.cell? ⟨w.heap.size,8,none⟩=some (.string a.value.a.sym.text):=(hBk.cell 8).trans rfl
   have e9:W1.cell? ⟨w.heap.size,9,none⟩=some (.int .i64 a.value.a.sym.n):=(hBk.cell 9).trans rfl
   have e10:W1.cell? ⟨w.heap.size,10,none⟩=some (.string a.value.b.var):=(hBk.cell 10).trans rfl
   have e11:W1.cell? ⟨w.heap.size,11,none⟩=some (.int .i64 a.value.b.sym.kind):=(hBk.cell 11).trans rfl
   have e12:W1.cell? ⟨w.heap.size,12,none⟩=some (.string a.value.b.sym.text):=(hBk.cell 12).trans rfl
   have e13:W1.cell? ⟨w.heap.size,13,none⟩=some (.int .i64 a.value.b.sym.n):=(hBk.cell 13).trans rfl
   have e14:W1.cell? ⟨w.heap.size,14,none⟩=some (.int .i64 a.pref):=(hBk.cell 14).trans rfl
   have e15:W1.cell? ⟨w.heap.size,15,none⟩=some (.string a.other.var):=(hBk.cell 15).trans rfl
   have e16:W1.cell? ⟨w.heap.size,16,none⟩=some (.int .i64 a.other.sym.kind):=(hBk.cell 16).trans rfl
   have e17:W1.cell? ⟨w.heap.size,17,none⟩=some (.string a.other.sym.text):=(hBk.cell 17).trans rfl
   have e18:W1.cell? ⟨w.heap.size,18,none⟩=some (.int .i64 a.other.sym.n):=(hBk.cell 18).trans rfl
   have hbl:=hBk.lt
   clear hW1 hBk
   go_wp2_with (first
    | (go_at_call 86;refine (word_is a.id _).mono ?_;rintro e w9 ⟨rfl,rfl⟩)
    | (go_at_call 99;(first | (with_reducible refine (atomS_is a.attr _).mono ?_) | (with_reducible refine (atomS_is a.other _).mono ?_));rintro e w9 ⟨rfl,hb9⟩;have HB:=Lib.hid (HB.out.trans (hb9.mono HB.out.size));replace e0:=(hb9.cell (p:=⟨w.heap.size,0,none⟩) hbl).trans e0;replace e1:=(hb9.cell (p:=⟨w.heap.size,1,none⟩) hbl).trans e1;replace e2:=(hb9.cell (p:=⟨w.heap.size,2,none⟩) hbl).trans e2;replace e3:=(hb9.cell (p:=⟨w.heap.size,3,none⟩) hbl).trans e3;replace e4:=(hb9.cell (p:=⟨w.heap.size,4,none⟩) hbl).trans e4;replace e5:=(hb9.cell (p:=⟨w.heap.size,5,none⟩) hbl).trans e5;replace e6:=(hb9.cell (p:=⟨w.heap.size,6,none⟩) hbl).trans e6;replace e7:=(hb9.cell (p:=⟨w.heap.size,7,none⟩) hbl).trans e7;replace e8:=(hb9.cell (p:=⟨w.heap.size,8,none⟩) hbl).trans e8;replace e9:=(hb9.cell (p:=⟨w.heap.size,9,none⟩) hbl).trans e9;replace e10:=(hb9.cell (p:=⟨w.heap.size,10,none⟩) hbl).trans e10;replace e11:=(hb9.cell (p:=⟨w.heap.size,11,none⟩) hbl).trans e11;replace e12:=(hb9.cell (p:=⟨w.heap.size,12,none⟩) hbl).trans e12;replace e13:=(hb9.cell (p:=⟨w.heap.size,13,none⟩) hbl).trans e13;replace e14:=(hb9.cell (p:=⟨w.heap.size,14,none⟩) hbl).trans e14;replace e15:=(hb9.cell (p:=⟨w.heap.size,15,none⟩) hbl).trans e15;replace e16:=(hb9.cell (p:=⟨w.heap.size,16,none⟩) hbl).trans e16;replace e17:=(hb9.cell (p:=⟨w.heap.size,17,none⟩) hbl).trans e17;replace e18:=(hb9.cell (p:=⟨w.heap.size,18,none⟩) hbl).trans e18;replace hbl:=Nat.lt_of_lt_of_le hbl hb9.size;clear hb9)
    | (go_at_call 100;refine (term_is a.value _).mono ?_;rintro e w9 ⟨rfl,hb9⟩;have HB:=Lib.hid (HB.out.trans (hb9.mono HB.out.size));replace e0:=(hb9.cell (p:=⟨w.heap.size,0,none⟩) hbl).trans e0;replace e1:=(hb9.cell (p:=⟨w.heap.size,1,none⟩) hbl).trans e1;replace e2:=(hb9.cell (p:=⟨w.heap.size,2,none⟩) hbl).trans e2;replace e3:=(hb9.cell (p:=⟨w.heap.size,3,none⟩) hbl).trans e3;replace e4:=(hb9.cell (p:=⟨w.heap.size,4,none⟩) hbl).trans e4;replace e5:=(hb9.cell (p:=⟨w.heap.size,5,none⟩) hbl).trans e5;replace e6:=(hb9.cell (p:=⟨w.heap.size,6,none⟩) hbl).trans e6;replace e7:=(hb9.cell (p:=⟨w.heap.size,7,none⟩) hbl).trans e7;replace e8:=(hb9.cell (p:=⟨w.heap.size,8,none⟩) hbl).trans e8;replace e9:=(hb9.cell (p:=⟨w.heap.size,9,none⟩) hbl).trans e9;replace e10:=(hb9.cell (p:=⟨w.heap.size,10,none⟩) hbl).trans e10;replace e11:=(hb9.cell (p:=⟨w.heap.size,11,none⟩) hbl).trans e11;replace e12:=(hb9.cell (p:=⟨w.heap.size,12,none⟩) hbl).trans e12;replace e13:=(hb9.cell (p:=⟨w.heap.size,13,none⟩) hbl).trans e13;replace e14:=(hb9.cell (p:=⟨w.heap.size,14,none⟩) hbl).trans e14;replace e15:=(hb9.cell (p:=⟨w.heap.size,15,none⟩) hbl).trans e15;replace e16:=(hb9.cell (p:=⟨w.heap.size,16,none⟩) hbl).trans e16;replace e17:=(hb9.cell (p:=⟨w.heap.size,17,none⟩) hbl).trans e17;replace e18:=(hb9.cell (p:=⟨w.heap.size,18,none⟩) hbl).trans e18;replace hbl:=Nat.lt_of_lt_of_le hbl hb9.size;clear hb9)
    | (go_at_call 101;refine (other_is a.pref _).mono ?_;rintro e w9 ⟨rfl,rfl⟩)
    | (go_at_call 102;refine (empty_is a.other _).mono ?_;rintro e w9 ⟨rfl,hb9⟩;have HB:=Lib.hid (HB.out.trans (hb9.mono HB.out.size));replace e0:=(hb9.cell (p:=⟨w.heap.size,0,none⟩) hbl).trans e0;replace e1:=(hb9.cell (p:=⟨w.heap.size,1,none⟩) hbl).trans e1;replace e2:=(hb9.cell (p:=⟨w.heap.size,2,none⟩) hbl).trans e2;replace e3:=(hb9.cell (p:=⟨w.heap.size,3,none⟩) hbl).trans e3;replace e4:=(hb9.cell (p:=⟨w.heap.size,4,none⟩) hbl).trans e4;replace e5:=(hb9.cell (p:=⟨w.heap.size,5,none⟩) hbl).trans e5;replace e6:=(hb9.cell (p:=⟨w.heap.size,6,none⟩) hbl).trans e6;replace e7:=(hb9.cell (p:=⟨w.heap.size,7,none⟩) hbl).trans e7;replace e8:=(hb9.cell (p:=⟨w.heap.size,8,none⟩) hbl).trans e8;replace e9:=(hb9.cell (p:=⟨w.heap.size,9,none⟩) hbl).trans e9;replace e10:=(hb9.cell (p:=⟨w.heap.size,10,none⟩) hbl).trans e10;replace e11:=(hb9.cell (p:=⟨w.heap.size,11,none⟩) hbl).trans e11;replace e12:=(hb9.cell (p:=⟨w.heap.size,12,none⟩) hbl).trans e12;replace e13:=(hb9.cell (p:=⟨w.heap.size,13,none⟩) hbl).trans e13;replace e14:=(hb9.cell (p:=⟨w.heap.size,14,none⟩) hbl).trans e14;replace e15:=(hb9.cell (p:=⟨w.heap.size,15,none⟩) hbl).trans e15;replace e16:=(hb9.cell (p:=⟨w.heap.size,16,none⟩) hbl).trans e16;replace e17:=(hb9.cell (p:=⟨w.heap.size,17,none⟩) hbl).trans e17;replace e18:=(hb9.cell (p:=⟨w.heap.size,18,none⟩) hbl).trans e18;replace hbl:=Nat.lt_of_lt_of_le hbl hb9.size;clear hb9))
   go_ret
   exact ⟨by rw [HR.out]<;>rfl,by (first | exact HB.out | (exact (Below.refl _ _).alloc (Nat.le_refl _) _) | (simpa using HB.out))⟩
 by_cases c2:termB a.value=false
 · have t0:isWord a.id=true:=by simpa using c0
   have t1:atomB a.attr=true:=by simpa using c1
   have t2:=c2
   have HR:=Lib.hid (show actB a=false by simp [actB, *])
   clear c0 c1 c2
   go_enter Try.func91,Try.ntmps91
   go_upto_region 1 with fail
   obtain ⟨W1,hW1⟩ : ∃W1,W1=w.alloc (.cells #[.string a.id,.string a.attr.var,.int .i64 a.attr.sym.kind,.string a.attr.sym.text,.int .i64 a.attr.sym.n,.int .i64 a.value.op,.string a.value.a.var,.int .i64 a.value.a.sym.kind,.string a.value.a.sym.text,.int .i64 a.value.a.sym.n,.string a.value.b.var,.int .i64 a.value.b.sym.kind,.string a.value.b.sym.text,.int .i64 a.value.b.sym.n,.int .i64 a.pref,.string a.other.var,.int .i64 a.other.sym.kind,.string a.other.sym.text,.int .i64 a.other.sym.n] 58):=⟨_,rfl⟩
   rw [← hW1]
   have hBk:Blk W1 w.heap.size 58 #[.string a.id,.string a.attr.var,.int .i64 a.attr.sym.kind,.string a.attr.sym.text,.int .i64 a.attr.sym.n,.int .i64 a.value.op,.string a.value.a.var,.int .i64 a.value.a.sym.kind,.string a.value.a.sym.text,.int .i64 a.value.a.sym.n,.string a.value.b.var,.int .i64 a.value.b.sym.kind,.string a.value.b.sym.text,.int .i64 a.value.b.sym.n,.int .i64 a.pref,.string a.other.var,.int .i64 a.other.sym.kind,.string a.other.sym.text,.int .i64 a.other.sym.n]:=by rw [hW1];exact Blk.new _ _ _
   have HB:=Lib.hid (show Below w.heap.size w W1 by rw [hW1];exact (Below.refl _ _).alloc (Nat.le_refl _) _)
   have e0:W1.cell? ⟨w.heap.size,0,none⟩=some (.string a.id):=(hBk.cell 0).trans rfl
   have e1:W1.cell? ⟨w.heap.size,1,none⟩=some (.string a.attr.var):=(hBk.cell 1).trans rfl
   have e2:W1.cell? ⟨w.heap.size,2,none⟩=some (.int .i64 a.attr.sym.kind):=(hBk.cell 2).trans rfl
   have e3:W1.cell? ⟨w.heap.size,3,none⟩=some (.string a.attr.sym.text):=(hBk.cell 3).trans rfl
   have e4:W1.cell? ⟨w.heap.size,4,none⟩=some (.int .i64 a.attr.sym.n):=(hBk.cell 4).trans rfl
   have e5:W1.cell? ⟨w.heap.size,5,none⟩=some (.int .i64 a.value.op):=(hBk.cell 5).trans rfl
   have e6:W1.cell? ⟨w.heap.size,6,none⟩=some (.string a.value.a.var):=(hBk.cell 6).trans rfl
   have e7:W1.cell? ⟨w.heap.size,7,none⟩=some (.int .i64 a.value.a.sym.kind):=(hBk.cell 7).trans rfl
   have e8:W1.cell? ⟨w.heap.size,8,none⟩=some (.string a.value.a.sym.text):=(hBk.cell 8).trans rfl
   have e9:W1.cell? ⟨w.heap.size,9,none⟩=some (.int .i64 a.value.a.sym.n):=(hBk.cell 9).trans rfl
   have e10:W1.cell? ⟨w.heap.size,10,none⟩=some (.string a.value.b.var):=(hBk.cell 10).trans rfl
   have e11:W1.cell? ⟨w.heap.size,11,none⟩=some (.int .i64 a.value.b.sym.kind):=(hBk.cell 11).trans rfl
   have e12:W1.cell? ⟨w.heap.size,12,none⟩=some (.string a.value.b.sym.text):=(hBk.cell 12).trans rfl
   have e13:W1.cell? ⟨w.heap.size,13,none⟩=some (.int .i64 a.value.b.sym.n):=(hBk.cell 13).trans rfl
   have e14:W1.cell? ⟨w.heap.size,14,none⟩=some (.int .i64 a.pref):=(hBk.cell 14).trans rfl
   have e15:W1.cell? ⟨w.heap.size,15,none⟩=some (.string a.other.var):=(hBk.cell 15).trans rfl
   have e16:W1.cell? ⟨w.heap.size,16,none⟩=some (.int .i64 a.other.sym.kind):=(hBk.cell 16).trans rfl
   have e17:W1.cell? ⟨w.heap.size,17,none⟩=some (.string a.other.sym.text):=(hBk.cell 17).trans rfl
   have e18:W1.cell? ⟨w.heap.size,18,none⟩=some (.int .i64 a.other.sym.n):=(hBk.cell 18).trans rfl
   have hbl:=hBk.lt
   clear hW1 hBk
   go_wp2_with (first
    | (go_at_call 86;refine (word_is a.id _).mono ?_;rintro e w9 ⟨rfl,rfl⟩)
    | (go_at_call 99;(first | (with_reducible refine (atomS_is a.attr _).mono ?_) | (with_reducible refine (atomS_is a.other _).mono ?_));rintro e w9 ⟨rfl,hb9⟩;have HB:=Lib.hid (HB.out.trans (hb9.mono HB.out.size));replace e0:=(hb9.cell (p:=⟨w.heap.size,0,none⟩) hbl).trans e0;replace e1:=(hb9.cell (p:=⟨w.heap.size,1,none⟩) hbl).trans e1;replace e2:=(hb9.cell (p:=⟨w.heap.size,2,none⟩) hbl).trans e2;replace e3:=(hb9.cell (p:=⟨w.heap.size,3,none⟩) hbl).trans e3;replace e4:=(hb9.cell (p:=⟨w.heap.size,4,none⟩) hbl).trans e4;replace e5:=(hb9.cell (p:=⟨w.heap.size,5,none⟩) hbl).trans e5;replace e6:=(hb9.cell (p:=⟨w.heap.size,6,none⟩) hbl).trans e6;replace e7:=(hb9.cell (p:=⟨w.heap.size,7,none⟩) hbl).trans e7;replace e8:=(hb9.cell (p:=⟨w.heap.size,8,none⟩) hbl).trans e8;replace e9:=(hb9.cell (p:=⟨w.heap.size,9,none⟩) hbl).trans e9;replace e10:=(hb9.cell (p:=⟨w.heap.size,10,none⟩) hbl).trans e10;replace e11:=(hb9.cell (p:=⟨w.heap.size,11,none⟩) hbl).trans e11;replace e12:=(hb9.cell (p:=⟨w.heap.size,12,none⟩) hbl).trans e12;replace e13:=(hb9.cell (p:=⟨w.heap.size,13,none⟩) hbl).trans e13;replace e14:=(hb9.cell (p:=⟨w.heap.size,14,none⟩) hbl).trans e14;replace e15:=(hb9.cell (p:=⟨w.heap.size,15,none⟩) hbl).trans e15;replace e16:=(hb9.cell (p:=⟨w.heap.size,16,none⟩) hbl).trans e16;replace e17:=(hb9.cell (p:=⟨w.heap.size,17,none⟩) hbl).trans e17;replace e18:=(hb9.cell (p:=⟨w.heap.size,18,none⟩) hbl).trans e18;replace hbl:=Nat.lt_of_lt_of_le hbl hb9.size;clear hb9)
    | (go_at_call 100;refine (term_is a.value _).mono ?_;rintro e w9 ⟨rfl,hb9⟩;have HB:=Lib.hid (HB.out.trans (hb9.mono HB.out.size));replace e0:=(hb9.cell (p:=⟨w.heap.size,0,none⟩) hbl).trans e0;replace e1:=(hb9.cell (p:=⟨w.heap.size,1,none⟩) hbl).trans e1;replace e2:=(hb9.cell (p:=⟨w.heap.size,2,none⟩) hbl).trans e2;replace e3:=(hb9.cell (p:=⟨w.heap.size,3,none⟩) hbl).trans e3;replace e4:=(hb9.cell (p:=⟨w.heap.size,4,none⟩) hbl).trans e4;replace e5:=(hb9.cell (p:=⟨w.heap.size,5,none⟩) hbl).trans e5;replace e6:=(hb9.cell (p:=⟨w.heap.size,6,none⟩) hbl).trans e6;replace e7:=(hb9.cell (p:=⟨w.heap.size,7,none⟩) hbl).trans e7;replace e8:=(hb9.cell (p:=⟨w.heap.size,8,none⟩) hbl).trans e8;replace e9:=(hb9.cell (p:=⟨w.heap.size,9,none⟩) hbl).trans e9;replace e10:=(hb9.cell (p:=⟨w.heap.size,10,none⟩) hbl).trans e10;replace e11:=(hb9.cell (p:=⟨w.heap.size,11,none⟩) hbl).trans e11;replace e12:=(hb9.cell (p:=⟨w.heap.size,12,none⟩) hbl).trans e12;replace e13:=(hb9.cell (p:=⟨w.heap.size,13,none⟩) hbl).trans e13;replace e14:=(hb9.cell (p:=⟨w.heap.size,14,none⟩) hbl).trans e14;replace e15:=(hb9.cell (p:=⟨w.heap.size,15,none⟩) hbl).trans e15;replace e16:=(hb9.cell (p:=⟨w.heap.size,16,none⟩) hbl).trans e16;replace e17:=(hb9.cell (p:=⟨w.heap.size,17,none⟩) hbl).trans e17;replace e18:=(hb9.cell (p:=⟨w.heap.size,18,none⟩) hbl).trans e18;replace hbl:=Nat.lt_of_lt_of_le hbl hb9.size;clear hb9)
    | (go_at_call 101;refine (other_is a.pref _).mono ?_;rintro e w9 ⟨rfl,rfl⟩)
    | (go_at_call 102;refine (empty_is a.other _).mono ?_;rintro e w9 ⟨rfl,hb9⟩;have HB:=Lib.hid (HB.out.trans (hb9.mono HB.out.size));replace e0:=(hb9.cell (p:=⟨w.heap.size,0,none⟩) hbl).trans e0;replace e1:=(hb9.cell (p:=⟨w.heap.size,1,none⟩) hbl).trans e1;replace e2:=(hb9.cell (p:=⟨w.heap.size,2,none⟩) hbl).trans e2;replace e3:=(hb9.cell (p:=⟨w.heap.size,3,none⟩) hbl).trans e3;replace e4:=(hb9.cell (p:=⟨w.heap.size,4,none⟩) hbl).trans e4;replace e5:=(hb9.cell (p:=⟨w.heap.size,5,none⟩) hbl).trans e5;replace e6:=(hb9.cell (p:=⟨w.heap.size,6,none⟩) hbl).trans e6;replace e7:=(hb9.cell (p:=⟨w.heap.size,7,none⟩) hbl).trans e7;replace e8:=(hb9.cell (p:=⟨w.heap.size,8,none⟩) hbl).trans e8;replace e9:=(hb9.cell (p:=⟨w.heap.size,9,none⟩) hbl).trans e9;replace e10:=(hb9.cell (p:=⟨w.heap.size,10,none⟩) hbl).trans e10;replace e11:=(hb9.cell (p:=⟨w.heap.size,11,none⟩) hbl).trans e11;replace e12:=(hb9.cell (p:=⟨w.heap.size,12,none⟩) hbl).trans e12;replace e13:=(hb9.cell (p:=⟨w.heap.size,13,none⟩) hbl).trans e13;replace e14:=(hb9.cell (p:=⟨w.heap.size,14,none⟩) hbl).trans e14;replace e15:=(hb9.cell (p:=⟨w.heap.size,15,none⟩) hbl).trans e15;replace e16:=(hb9.cell (p:=⟨w.heap.size,16,none⟩) hbl).trans e16;replace e17:=(hb9.cell (p:=⟨w.heap.size,17,none⟩) hbl).trans e17;replace e18:=(hb9.cell (p:=⟨w.heap.size,18,none⟩) hbl).trans e18;replace hbl:=Nat.lt_of_lt_of_le hbl hb9.size;clear hb9))
   go_ret
   exact ⟨by rw [HR.out]<;>rfl,by (first | exact HB.out | (exact (Below.refl _ _).alloc (Nat.le_refl _) _) | (simpa using HB.out))⟩
 by_cases c3:a.pref<1
 · have t0:isWord a.id=true:=by simpa using c0
   have t1:atomB a.attr=true:=by simpa using c1
   have t2:termB a.value=true:=by simpa using c2
   have t3:decide (a.pref<1)=true:=by simp [*]
   have HR:=Lib.hid (show actB a=false by simp [actB, *])
   clear c0 c1 c2 c3
   go_enter Try.func91,Try.ntmps91
   go_upto_region 1 with fail
   obtain ⟨W1,hW1⟩ : ∃W1,W1=w.alloc (.cells #[.string a.id,.string a.attr.var,.int .i64 a.attr.sym.kind,.string a.attr.sym.text,.int .i64 a.attr.sym.n,.int .i64 a.value.op,.string a.value.a.var,.int .i64 a.value.a.sym.kind,.string a.value.a.sym.text,.int .i64 a.value.a.sym.n,.string a.value.b.var,.int .i64 a.value.b.sym.kind,.string a.value.b.sym.text,.int .i64 a.value.b.sym.n,.int .i64 a.pref,.string a.other.var,.int .i64 a.other.sym.kind,.string a.other.sym.text,.int .i64 a.other.sym.n] 58):=⟨_,rfl⟩
   rw [← hW1]
   have hBk:Blk W1 w.heap.size 58 #[.string a.id,.string a.attr.var,.int .i64 a.attr.sym.kind,.string a.attr.sym.text,.int .i64 a.attr.sym.n,.int .i64 a.value.op,.string a.value.a.var,.int .i64 a.value.a.sym.kind,.string a.value.a.sym.text,.int .i64 a.value.a.sym.n,.string a.value.b.var,.int .i64 a.value.b.sym.kind,.string a.value.b.sym.text,.int .i64 a.value.b.sym.n,.int .i64 a.pref,.string a.other.var,.int .i64 a.other.sym.kind,.string a.other.sym.text,.int .i64 a.other.sym.n]:=by rw [hW1];exact Blk.new _ _ _
   have HB:=Lib.hid (show Below w.heap.size w W1 by rw [hW1];exact (Below.refl _ _).alloc (Nat.le_refl _) _)
   have e0:W1.cell? ⟨w.heap.size,0,none⟩=some (.string a.id):=(hBk.cell 0).trans rfl
   have e1:W1.cell? ⟨w.heap.size,1,none⟩=some (.string a.attr.var):=(hBk.cell 1).trans rfl
   have e2:W1.cell? ⟨w.heap.size,2,none⟩=some (.int .i64 a.attr.sym.kind):=(hBk.cell 2).trans rfl
   have e3:W1.cell? ⟨w.heap.size,3,none⟩=some (.string a.attr.sym.text):=(hBk.cell 3).trans rfl
   have e4:W1.cell? ⟨w.heap.size,4,none⟩=some (.int .i64 a.attr.sym.n):=(hBk.cell 4).trans rfl
   have e5:W1.cell? ⟨w.heap.size,5,none⟩=some (.int .i64 a.value.op):=(hBk.cell 5).trans rfl
   have e6:W1.cell? ⟨w.heap.size,6,none⟩=some (.string a.value.a.var):=(hBk.cell 6).trans rfl
   have e7:W1.cell? ⟨w.heap.size,7,none⟩=some (.int .i64 a.value.a.sym.kind):=(hBk.cell 7).trans rfl
   have e8:W1.cell? ⟨w.heap.size,8,none⟩=some (.string a.value.a.sym.text):=(hBk.cell 8).trans rfl
   have e9:W1.cell? ⟨w.heap.size,9,none⟩=some (.int .i64 a.value.a.sym.n):=(hBk.cell 9).trans rfl
   have e10:W1.cell? ⟨w.heap.size,10,none⟩=some (.string a.value.b.var):=(hBk.cell 10).trans rfl
   have e11:W1.cell? ⟨w.heap.size,11,none⟩=some (.int .i64 a.value.b.sym.kind):=(hBk.cell 11).trans rfl
   have e12:W1.cell? ⟨w.heap.size,12,none⟩=some (.string a.value.b.sym.text):=(hBk.cell 12).trans rfl
   have e13:W1.cell? ⟨w.heap.size,13,none⟩=some (.int .i64 a.value.b.sym.n):=(hBk.cell 13).trans rfl
   have e14:W1.cell? ⟨w.heap.size,14,none⟩=some (.int .i64 a.pref):=(hBk.cell 14).trans rfl
   have e15:W1.cell? ⟨w.heap.size,15,none⟩=some (.string a.other.var):=(hBk.cell 15).trans rfl
   have e16:W1.cell? ⟨w.heap.size,16,none⟩=some (.int .i64 a.other.sym.kind):=(hBk.cell 16).trans rfl
   have e17:W1.cell? ⟨w.heap.size,17,none⟩=some (.string a.other.sym.text):=(hBk.cell 17).trans rfl
   have e18:W1.cell? ⟨w.heap.size,18,none⟩=some (.int .i64 a.other.sym.n):=(hBk.cell 18).trans rfl
   have hbl:=hBk.lt
   clear hW1 hBk
   go_wp2_with (first
    | (go_at_call 86;refine (word_is a.id _).mono ?_;rintro e w9 ⟨rfl,rfl⟩)
    | (go_at_call 99;(first | (with_reducible refine (atomS_is a.attr _).mono ?_) | (with_reducible refine (atomS_is a.other _).mono ?_));rintro e w9 ⟨rfl,hb9⟩;have HB:=Lib.hid (HB.out.trans (hb9.mono HB.out.size));replace e0:=(hb9.cell (p:=⟨w.heap.size,0,none⟩) hbl).trans e0;replace e1:=(hb9.cell (p:=⟨w.heap.size,1,none⟩) hbl).trans e1;replace e2:=(hb9.cell (p:=⟨w.heap.size,2,none⟩) hbl).trans e2;replace e3:=(hb9.cell (p:=⟨w.heap.size,3,none⟩) hbl).trans e3;replace e4:=(hb9.cell (p:=⟨w.heap.size,4,none⟩) hbl).trans e4;replace e5:=(hb9.cell (p:=⟨w.heap.size,5,none⟩) hbl).trans e5;replace e6:=(hb9.cell (p:=⟨w.heap.size,6,none⟩) hbl).trans e6;replace e7:=(hb9.cell (p:=⟨w.heap.size,7,none⟩) hbl).trans e7;replace e8:=(hb9.cell (p:=⟨w.heap.size,8,none⟩) hbl).trans e8;replace e9:=(hb9.cell (p:=⟨w.heap.size,9,none⟩) hbl).trans e9;replace e10:=(hb9.cell (p:=⟨w.heap.size,10,none⟩) hbl).trans e10;replace e11:=(hb9.cell (p:=⟨w.heap.size,11,none⟩) hbl).trans e11;replace e12:=(hb9.cell (p:=⟨w.heap.size,12,none⟩) hbl).trans e12;replace e13:=(hb9.cell (p:=⟨w.heap.size,13,none⟩) hbl).trans e13;replace e14:=(hb9.cell (p:=⟨w.heap.size,14,none⟩) hbl).trans e14;replace e15:=(hb9.cell (p:=⟨w.heap.size,15,none⟩) hbl).trans e15;replace e16:=(hb9.cell (p:=⟨w.heap.size,16,none⟩) hbl).trans e16;replace e17:=(hb9.cell (p:=⟨w.heap.size,17,none⟩) hbl).trans e17;replace e18:=(hb9.cell (p:=⟨w.heap.size,18,none⟩) hbl).trans e18;replace hbl:=Nat.lt_of_lt_of_le hbl hb9.size;clear hb9)
    | (go_at_call 100;refine (term_is a.value _).mono ?_;rintro e w9 ⟨rfl,hb9⟩;have HB:=Lib.hid (HB.out.trans (hb9.mono HB.out.size));replace e0:=(hb9.cell (p:=⟨w.heap.size,0,none⟩) hbl).trans e0;replace e1:=(hb9.cell (p:=⟨w.heap.size,1,none⟩) hbl).trans e1;replace e2:=(hb9.cell (p:=⟨w.heap.size,2,none⟩) hbl).trans e2;replace e3:=(hb9.cell (p:=⟨w.heap.size,3,none⟩) hbl).trans e3;replace e4:=(hb9.cell (p:=⟨w.heap.size,4,none⟩) hbl).trans e4;replace e5:=(hb9.cell (p:=⟨w.heap.size,5,none⟩) hbl).trans e5;replace e6:=(hb9.cell (p:=⟨w.heap.size,6,none⟩) hbl).trans e6;replace e7:=(hb9.cell (p:=⟨w.heap.size,7,none⟩) hbl).trans e7;replace e8:=(hb9.cell (p:=⟨w.heap.size,8,none⟩) hbl).trans e8;replace e9:=(hb9.cell (p:=⟨w.heap.size,9,none⟩) hbl).trans e9;replace e10:=(hb9.cell (p:=⟨w.heap.size,10,none⟩) hbl).trans e10;replace e11:=(hb9.cell (p:=⟨w.heap.size,11,none⟩) hbl).trans e11;replace e12:=(hb9.cell (p:=⟨w.heap.size,12,none⟩) hbl).trans e12;replace e13:=(hb9.cell (p:=⟨w.heap.size,13,none⟩) hbl).trans e13;replace e14:=(hb9.cell (p:=⟨w.heap.size,14,none⟩) hbl).trans e14;replace e15:=(hb9.cell (p:=⟨w.heap.size,15,none⟩) hbl).trans e15;replace e16:=(hb9.cell (p:=⟨w.heap.size,16,none⟩) hbl).trans e16;replace e17:=(hb9.cell (p:=⟨w.heap.size,17,none⟩) hbl).trans e17;replace e18:=(hb9.cell (p:=⟨w.heap.size,18,none⟩) hbl).trans e18;replace hbl:=Nat.lt_of_lt_of_le hbl hb9.size;clear hb9)
    | (go_at_call 101;refine (other_is a.pref _).mono ?_;rintro e w9 ⟨rfl,rfl⟩)
    | (go_at_call 102;refine (empty_is a.other _).mono ?_;rintro e w9 ⟨rfl,hb9⟩;have HB:=Lib.hid (HB.out.trans (hb9.mono HB.out.size));replace e0:=(hb9.cell (p:=⟨w.heap.size,0,none⟩) hbl).trans e0;replace e1:=(hb9.cell (p:=⟨w.heap.size,1,none⟩) hbl).trans e1;replace e2:=(hb9.cell (p:=⟨w.heap.size,2,none⟩) hbl).trans e2;replace e3:=(hb9.cell (p:=⟨w.heap.size,3,none⟩) hbl).trans e3;replace e4:=(hb9.cell (p:=⟨w.heap.size,4,none⟩) hbl).trans e4;replace e5:=(hb9.cell (p:=⟨w.heap.size,5,none⟩) hbl).trans e5;replace e6:=(hb9.cell (p:=⟨w.heap.size,6,none⟩) hbl).trans e6;replace e7:=(hb9.cell (p:=⟨w.heap.size,7,none⟩) hbl).trans e7;replace e8:=(hb9.cell (p:=⟨w.heap.size,8,none⟩) hbl).trans e8;replace e9:=(hb9.cell (p:=⟨w.heap.size,9,none⟩) hbl).trans e9;replace e10:=(hb9.cell (p:=⟨w.heap.size,10,none⟩) hbl).trans e10;replace e11:=(hb9.cell (p:=⟨w.heap.size,11,none⟩) hbl).trans e11;replace e12:=(hb9.cell (p:=⟨w.heap.size,12,none⟩) hbl).trans e12;replace e13:=(hb9.cell (p:=⟨w.heap.size,13,none⟩) hbl).trans e13;replace e14:=(hb9.cell (p:=⟨w.heap.size,14,none⟩) hbl).trans e14;replace e15:=(hb9.cell (p:=⟨w.heap.size,15,none⟩) hbl).trans e15;replace e16:=(hb9.cell (p:=⟨w.heap.size,16,none⟩) hbl).trans e16;replace e17:=(hb9.cell (p:=⟨w.heap.size,17,none⟩) hbl).trans e17;replace e18:=(hb9.cell (p:=⟨w.heap.size,18,none⟩) hbl).trans e18;replace hbl:=Nat.lt_of_lt_of_le hbl hb9.size;clear hb9))
   go_ret
   exact ⟨by rw [HR.out]<;>rfl,by (first | exact HB.out | (exact (Below.refl _ _).alloc (Nat.le_refl _) _) | (simpa using HB.out))⟩
 by_cases c4:10<a.pref
 · have t0:isWord a.id=true:=by simpa using c0
   have t1:atomB a.attr=true:=by simpa using c1
   have t2:termB a.value=true:=by simpa using c2
   have t3:decide (a.pref<1)=false:=by simp;omega
   have t4:decide (10<a.pref)=true:=by simp [*]
   have HR:=Lib.hid (show actB a=false by simp [actB, *])
   clear c0 c1 c2 c3 c4
   go_enter Try.func91,Try.ntmps91
   go_upto_region 1 with fail
   obtain ⟨W1,hW1⟩ : ∃W1,W1=w.alloc (.cells #[.string a.id,.string a.attr.var,.int .i64 a.attr.sym.kind,.string a.attr.sym.text,.int .i64 a.attr.sym.n,.int .i64 a.value.op,.string a.value.a.var,.int .i64 a.value.a.sym.kind,.string a.value.a.sym.text,.int .i64 a.value.a.sym.n,.string a.value.b.var,.int .i64 a.value.b.sym.kind,.string a.value.b.sym.text,.int .i64 a.value.b.sym.n,.int .i64 a.pref,.string a.other.var,.int .i64 a.other.sym.kind,.string a.other.sym.text,.int .i64 a.other.sym.n] 58):=⟨_,rfl⟩
   rw [← hW1]
   have hBk:Blk W1 w.heap.size 58 #[.string a.id,.string a.attr.var,.int .i64 a.attr.sym.kind,.string a.attr.sym.text,.int .i64 a.attr.sym.n,.int .i64 a.value.op,.string a.value.a.var,.int .i64 a.value.a.sym.kind,.string a.value.a.sym.text,.int .i64 a.value.a.sym.n,.string a.value.b.var,.int .i64 a.value.b.sym.kind,.string a.value.b.sym.text,.int .i64 a.value.b.sym.n,.int .i64 a.pref,.string a.other.var,.int .i64 a.other.sym.kind,.string a.other.sym.text,.int .i64 a.other.sym.n]:=by rw [hW1];exact Blk.new _ _ _
   have HB:=Lib.hid (show Below w.heap.size w W1 by rw [hW1];exact (Below.refl _ _).alloc (Nat.le_refl _) _)
   have e0:W1.cell? ⟨w.heap.size,0,none⟩=some (.string a.id):=(hBk.cell 0).trans rfl
   have e1:W1.cell? ⟨w.heap.size,1,none⟩=some (.string a.attr.var):=(hBk.cell 1).trans rfl
   have e2:W1.cell? ⟨w.heap.size,2,none⟩=some (.int .i64 a.attr.sym.kind):=(hBk.cell 2).trans rfl
   have e3:W1.cell? ⟨w.heap.size,3,none⟩=some (.string a.attr.sym.text):=(hBk.cell 3).trans rfl
   have e4:W1.cell? ⟨w.heap.size,4,none⟩=some (.int .i64 a.attr.sym.n):=(hBk.cell 4).trans rfl
   have e5:W1.cell? ⟨w.heap.size,5,none⟩=some (.int .i64 a.value.op):=(hBk.cell 5).trans rfl
   have e6:W1.cell? ⟨w.heap.size,6,none⟩=some (.string a.value.a.var):=(hBk.cell 6).trans rfl
   have e7:W1.cell? ⟨w.heap.size,7,none⟩=some (.int .i64 a.value.a.sym.kind):=(hBk.cell 7).trans rfl
   have e8:W1.cell? ⟨w.heap.size,8,none⟩=some (.string a.value.a.sym.text):=(hBk.cell 8).trans rfl
   have e9:W1.cell? ⟨w.heap.size,9,none⟩=some (.int .i64 a.value.a.sym.n):=(hBk.cell 9).trans rfl
   have e10:W1.cell? ⟨w.heap.size,10,none⟩=some (.string a.value.b.var):=(hBk.cell 10).trans rfl
   have e11:W1.cell? ⟨w.heap.size,11,none⟩=some (.int .i64 a.value.b.sym.kind):=(hBk.cell 11).trans rfl
   have e12:W1.cell? ⟨w.heap.size,12,none⟩=some (.string a.value.b.sym.text):=(hBk.cell 12).trans rfl
   have e13:W1.cell? ⟨w.heap.size,13,none⟩=some (.int .i64 a.value.b.sym.n):=(hBk.cell 13).trans rfl
   have e14:W1.cell? ⟨w.heap.size,14,none⟩=some (.int .i64 a.pref):=(hBk.cell 14).trans rfl
   have e15:W1.cell? ⟨w.heap.size,15,none⟩=some (.string a.other.var):=(hBk.cell 15).trans rfl
   have e16:W1.cell? ⟨w.heap.size,16,none⟩=some (.int .i64 a.other.sym.kind):=(hBk.cell 16).trans rfl
   have e17:W1.cell? ⟨w.heap.size,17,none⟩=some (.string a.other.sym.text):=(hBk.cell 17).trans rfl
   have e18:W1.cell? ⟨w.heap.size,18,none⟩=some (.int .i64 a.other.sym.n):=(hBk.cell 18).trans rfl
   have hbl:=hBk.lt
   clear hW1 hBk
   go_wp2_with (first
    | (go_at_call 86;refine (word_is a.id _).mono ?_;rintro e w9 ⟨rfl,rfl⟩)
    | (go_at_call 99;(first | (with_reducible refine (atomS_is a.attr _).mono ?_) | (with_reducible refine (atomS_is a.other _).mono ?_));rintro e w9 ⟨rfl,hb9⟩;have HB:=Lib.hid (HB.out.trans (hb9.mono HB.out.size));replace e0:=(hb9.cell (p:=⟨w.heap.size,0,none⟩) hbl).trans e0;replace e1:=(hb9.cell (p:=⟨w.heap.size,1,none⟩) hbl).trans e1;replace e2:=(hb9.cell (p:=⟨w.heap.size,2,none⟩) hbl).trans e2;replace e3:=(hb9.cell (p:=⟨w.heap.size,3,none⟩) hbl).trans e3;replace e4:=(hb9.cell (p:=⟨w.heap.size,4,none⟩) hbl).trans e4;replace e5:=(hb9.cell (p:=⟨w.heap.size,5,none⟩) hbl).trans e5;replace e6:=(hb9.cell (p:=⟨w.heap.size,6,none⟩) hbl).trans e6;replace e7:=(hb9.cell (p:=⟨w.heap.size,7,none⟩) hbl).trans e7;replace e8:=(hb9.cell (p:=⟨w.heap.size,8,none⟩) hbl).trans e8;replace e9:=(hb9.cell (p:=⟨w.heap.size,9,none⟩) hbl).trans e9;replace e10:=(hb9.cell (p:=⟨w.heap.size,10,none⟩) hbl).trans e10;replace e11:=(hb9.cell (p:=⟨w.heap.size,11,none⟩) hbl).trans e11;replace e12:=(hb9.cell (p:=⟨w.heap.size,12,none⟩) hbl).trans e12;replace e13:=(hb9.cell (p:=⟨w.heap.size,13,none⟩) hbl).trans e13;replace e14:=(hb9.cell (p:=⟨w.heap.size,14,none⟩) hbl).trans e14;replace e15:=(hb9.cell (p:=⟨w.heap.size,15,none⟩) hbl).trans e15;replace e16:=(hb9.cell (p:=⟨w.heap.size,16,none⟩) hbl).trans e16;replace e17:=(hb9.cell (p:=⟨w.heap.size,17,none⟩) hbl).trans e17;replace e18:=(hb9.cell (p:=⟨w.heap.size,18,none⟩) hbl).trans e18;replace hbl:=Nat.lt_of_lt_of_le hbl hb9.size;clear hb9)
    | (go_at_call 100;refine (term_is a.value _).mono ?_;rintro e w9 ⟨rfl,hb9⟩;have HB:=Lib.hid (HB.out.trans (hb9.mono HB.out.size));replace e0:=(hb9.cell (p:=⟨w.heap.size,0,none⟩) hbl).trans e0;replace e1:=(hb9.cell (p:=⟨w.heap.size,1,none⟩) hbl).trans e1;replace e2:=(hb9.cell (p:=⟨w.heap.size,2,none⟩) hbl).trans e2;replace e3:=(hb9.cell (p:=⟨w.heap.size,3,none⟩) hbl).trans e3;replace e4:=(hb9.cell (p:=⟨w.heap.size,4,none⟩) hbl).trans e4;replace e5:=(hb9.cell (p:=⟨w.heap.size,5,none⟩) hbl).trans e5;replace e6:=(hb9.cell (p:=⟨w.heap.size,6,none⟩) hbl).trans e6;replace e7:=(hb9.cell (p:=⟨w.heap.size,7,none⟩) hbl).trans e7;replace e8:=(hb9.cell (p:=⟨w.heap.size,8,none⟩) hbl).trans e8;replace e9:=(hb9.cell (p:=⟨w.heap.size,9,none⟩) hbl).trans e9;replace e10:=(hb9.cell (p:=⟨w.heap.size,10,none⟩) hbl).trans e10;replace e11:=(hb9.cell (p:=⟨w.heap.size,11,none⟩) hbl).trans e11;replace e12:=(hb9.cell (p:=⟨w.heap.size,12,none⟩) hbl).trans e12;replace e13:=(hb9.cell (p:=⟨w.heap.size,13,none⟩) hbl).trans e13;replace e14:=(hb9.cell (p:=⟨w.heap.size,14,none⟩) hbl).trans e14;replace e15:=(hb9.cell (p:=⟨w.heap.size,15,none⟩) hbl).trans e15;replace e16:=(hb9.cell (p:=⟨w.heap.size,16,none⟩) hbl).trans e16;replace e17:=(hb9.cell (p:=⟨w.heap.size,17,none⟩) hbl).trans e17;replace e18:=(hb9.cell (p:=⟨w.heap.size,18,none⟩) hbl).trans e18;replace hbl:=Nat.lt_of_lt_of_le hbl hb9.size;clear hb9)
    | (go_at_call 101;refine (other_is a.pref _).mono ?_;rintro e w9 ⟨rfl,rfl⟩)
    | (go_at_call 102;refine (empty_is a.other _).mono ?_;rintro e w9 ⟨rfl,hb9⟩;have HB:=Lib.hid (HB.out.trans (hb9.mono HB.out.size));replace e0:=(hb9.cell (p:=⟨w.heap.size,0,none⟩) hbl).trans e0;replace e1:=(hb9.cell (p:=⟨w.heap.size,1,none⟩) hbl).trans e1;replace e2:=(hb9.cell (p:=⟨w.heap.size,2,none⟩) hbl).trans e2;replace e3:=(hb9.cell (p:=⟨w.heap.size,3,none⟩) hbl).trans e3;replace e4:=(hb9.cell (p:=⟨w.heap.size,4,none⟩) hbl).trans e4;replace e5:=(hb9.cell (p:=⟨w.heap.size,5,none⟩) hbl).trans e5;replace e6:=(hb9.cell (p:=⟨w.heap.size,6,none⟩) hbl).trans e6;replace e7:=(hb9.cell (p:=⟨w.heap.size,7,none⟩) hbl).trans e7;replace e8:=(hb9.cell (p:=⟨w.heap.size,8,none⟩) hbl).trans e8;replace e9:=(hb9.cell (p:=⟨w.heap.size,9,none⟩) hbl).trans e9;replace e10:=(hb9.cell (p:=⟨w.heap.size,10,none⟩) hbl).trans e10;replace e11:=(hb9.cell (p:=⟨w.heap.size,11,none⟩) hbl).trans e11;replace e12:=(hb9.cell (p:=⟨w.heap.size,12,none⟩) hbl).trans e12;replace e13:=(hb9.cell (p:=⟨w.heap.size,13,none⟩) hbl).trans e13;replace e14:=(hb9.cell (p:=⟨w.heap.size,14,none⟩) hbl).trans e14;replace e15:=(hb9.cell (p:=⟨w.heap.size,15,none⟩) hbl).trans e15;replace e16:=(hb9.cell (p:=⟨w.heap.size,16,none⟩) hbl).trans e16;replace e17:=(hb9.cell (p:=⟨w.heap.size,17,none⟩) hbl).trans e17;replace e18:=(hb9.cell (p:=⟨w.heap.size,18,none⟩) hbl).trans e18;replace hbl:=Nat.lt_of_lt_of_le hbl hb9.size;clear hb9))
   go_ret
   exact ⟨by rw [HR.out]<;>rfl,by (first | exact HB.out | (exact (Below.refl _ _).alloc (Nat.le_refl _) _) | (simpa using HB.out))⟩
 by_cases c5:otherB a.pref=true
 · have t0:isWord a.id=true:=by simpa using c0
   have t1:atomB a.attr=true:=by simpa using c1
   have t2:termB a.value=true:=by simpa using c2
   have t3:decide (a.pref<1)=false:=by simp;omega
   have t4:decide (10<a.pref)=false:=by simp;omega
   have t5:=c5
   have HR:=Lib.hid (show actB a=atomB a.other by simp [actB, *])
   clear c0 c1 c2 c3 c4 c5
   go_enter Try.func91,Try.ntmps91
   go_upto_region 1 with fail
   obtain ⟨W1,hW1⟩ : ∃W1,W1=w.alloc (.cells #[.string a.id,.string a.attr.var,.int .i64 a.attr.sym.kind,.string a.attr.sym.text,.int .i64 a.attr.sym.n,.int .i64 a.value.op,.string a.value.a.var,.int .i64 a.value.a.sym.kind,.string a.value.a.sym.text,.int .i64 a.value.a.sym.n,.string a.value.b.var,.int .i64 a.value.b.sym.kind,.string a.value.b.sym.text,.int .i64 a.value.b.sym.n,.int .i64 a.pref,.string a.other.var,.int .i64 a.other.sym.kind,.string a.other.sym.text,.int .i64 a.other.sym.n] 58):=⟨_,rfl⟩
   rw [← hW1]
   have hBk:Blk W1 w.heap.size 58 #[.string a.id,.string a.attr.var,.int .i64 a.attr.sym.kind,.string a.attr.sym.text,.int .i64 a.attr.sym.n,.int .i64 a.value.op,.string a.value.a.var,.int .i64 a.value.a.sym.kind,.string a.value.a.sym.text,.int .i64 a.value.a.sym.n,.string a.value.b.var,.int .i64 a.value.b.sym.kind,.string a.value.b.sym.text,.int .i64 a.value.b.sym.n,.int .i64 a.pref,.string a.other.var,.int .i64 a.other.sym.kind,.string a.other.sym.text,.int .i64 a.other.sym.n]:=by rw [hW1];exact Blk.new _ _ _
   have HB:=Lib.hid (show Below w.heap.size w W1 by rw [hW1];exact (Below.refl _ _).alloc (Nat.le_refl _) _)
   have e0:W1.cell? ⟨w.heap.size,0,none⟩=some (.string a.id):=(hBk.cell 0).trans rfl
   have e1:W1.cell? ⟨w.heap.size,1,none⟩=some (.string a.attr.var):=(hBk.cell 1).trans rfl
   have e2:W1.cell? ⟨w.heap.size,2,none⟩=some (.int .i64 a.attr.sym.kind):=(hBk.cell 2).trans rfl
   have e3:W1.cell? ⟨w.heap.size,3,none⟩=some (.string a.attr.sym.text):=(hBk.cell 3).trans rfl
   have e4:W1.cell? ⟨w.heap.size,4,none⟩=some (.int .i64 a.attr.sym.n):=(hBk.cell 4).trans rfl
   have e5:W1.cell? ⟨w.heap.size,5,none⟩=some (.int .i64 a.value.op):=(hBk.cell 5).trans rfl
   have e6:W1.cell? ⟨w.heap.size,6,none⟩=some (.string a.value.a.var):=(hBk.cell 6).trans rfl
   have e7:W1.cell? ⟨w.heap.size,7,none⟩=some (.int .i64 a.value.a.sym.kind):=(hBk.cell 7).trans rfl
   have e8:W1.cell? ⟨w.heap.size,8,none⟩=some (.string a.value.a.sym.text):=(hBk.cell 8).trans rfl
   have e9:W1.cell? ⟨w.heap.size,9,none⟩=some (.int .i64 a.value.a.sym.n):=(hBk.cell 9).trans rfl
   have e10:W1.cell? ⟨w.heap.size,10,none⟩=some (.string a.value.b.var):=(hBk.cell 10).trans rfl
   have e11:W1.cell? ⟨w.heap.size,11,none⟩=some (.int .i64 a.value.b.sym.kind):=(hBk.cell 11).trans rfl
   have e12:W1.cell? ⟨w.heap.size,12,none⟩=some (.string a.value.b.sym.text):=(hBk.cell 12).trans rfl
   have e13:W1.cell? ⟨w.heap.size,13,none⟩=some (.int .i64 a.value.b.sym.n):=(hBk.cell 13).trans rfl
   have e14:W1.cell? ⟨w.heap.size,14,none⟩=some (.int .i64 a.pref):=(hBk.cell 14).trans rfl
   have e15:W1.cell? ⟨w.heap.size,15,none⟩=some (.string a.other.var):=(hBk.cell 15).trans rfl
   have e16:W1.cell? ⟨w.heap.size,16,none⟩=some (.int .i64 a.other.sym.kind):=(hBk.cell 16).trans rfl
   have e17:W1.cell? ⟨w.heap.size,17,none⟩=some (.string a.other.sym.text):=(hBk.cell 17).trans rfl
   have e18:W1.cell? ⟨w.heap.size,18,none⟩=some (.int .i64 a.other.sym.n):=(hBk.cell 18).trans rfl
   have hbl:=hBk.lt
   clear hW1 hBk
   go_wp2_with (first
    | (go_at_call 86;refine (word_is a.id _).mono ?_;rintro e w9 ⟨rfl,rfl⟩)
    | (go_at_call 99;(first | (with_reducible refine (atomS_is a.attr _).mono ?_) | (with_reducible refine (atomS_is a.other _).mono ?_));rintro e w9 ⟨rfl,hb9⟩;have HB:=Lib.hid (HB.out.trans (hb9.mono HB.out.size));replace e0:=(hb9.cell (p:=⟨w.heap.size,0,none⟩) hbl).trans e0;replace e1:=(hb9.cell (p:=⟨w.heap.size,1,none⟩) hbl).trans e1;replace e2:=(hb9.cell (p:=⟨w.heap.size,2,none⟩) hbl).trans e2;replace e3:=(hb9.cell (p:=⟨w.heap.size,3,none⟩) hbl).trans e3;replace e4:=(hb9.cell (p:=⟨w.heap.size,4,none⟩) hbl).trans e4;replace e5:=(hb9.cell (p:=⟨w.heap.size,5,none⟩) hbl).trans e5;replace e6:=(hb9.cell (p:=⟨w.heap.size,6,none⟩) hbl).trans e6;replace e7:=(hb9.cell (p:=⟨w.heap.size,7,none⟩) hbl).trans e7;replace e8:=(hb9.cell (p:=⟨w.heap.size,8,none⟩) hbl).trans e8;replace e9:=(hb9.cell (p:=⟨w.heap.size,9,none⟩) hbl).trans e9;replace e10:=(hb9.cell (p:=⟨w.heap.size,10,none⟩) hbl).trans e10;replace e11:=(hb9.cell (p:=⟨w.heap.size,11,none⟩) hbl).trans e11;replace e12:=(hb9.cell (p:=⟨w.heap.size,12,none⟩) hbl).trans e12;replace e13:=(hb9.cell (p:=⟨w.heap.size,13,none⟩) hbl).trans e13;replace e14:=(hb9.cell (p:=⟨w.heap.size,14,none⟩) hbl).trans e14;replace e15:=(hb9.cell (p:=⟨w.heap.size,15,none⟩) hbl).trans e15;replace e16:=(hb9.cell (p:=⟨w.heap.size,16,none⟩) hbl).trans e16;replace e17:=(hb9.cell (p:=⟨w.heap.size,17,none⟩) hbl).trans e17;replace e18:=(hb9.cell (p:=⟨w.heap.size,18,none⟩) hbl).trans e18;replace hbl:=Nat.lt_of_lt_of_le hbl hb9.size;clear hb9)
    | (go_at_call 100;refine (term_is a.value _).mono ?_;rintro e w9 ⟨rfl,hb9⟩;have HB:=Lib.hid (HB.out.trans (hb9.mono HB.out.size));replace e0:=(hb9.cell (p:=⟨w.heap.size,0,none⟩) hbl).trans e0;replace e1:=(hb9.cell (p:=⟨w.heap.size,1,none⟩) hbl).trans e1;replace e2:=(hb9.cell (p:=⟨w.heap.size,2,none⟩) hbl).trans e2;replace e3:=(hb9.cell (p:=⟨w.heap.size,3,none⟩) hbl).trans e3;replace e4:=(hb9.cell (p:=⟨w.heap.size,4,none⟩) hbl).trans e4;replace e5:=(hb9.cell (p:=⟨w.heap.size,5,none⟩) hbl).trans e5;replace e6:=(hb9.cell (p:=⟨w.heap.size,6,none⟩) hbl).trans e6;replace e7:=(hb9.cell (p:=⟨w.heap.size,7,none⟩) hbl).trans e7;replace e8:=(hb9.cell (p:=⟨w.heap.size,8,none⟩) hbl).trans e8;replace e9:=(hb9.cell (p:=⟨w.heap.size,9,none⟩) hbl).trans e9;replace e10:=(hb9.cell (p:=⟨w.heap.size,10,none⟩) hbl).trans e10;replace e11:=(hb9.cell (p:=⟨w.heap.size,11,none⟩) hbl).trans e11;replace e12:=(hb9.cell (p:=⟨w.heap.size,12,none⟩) hbl).trans e12;replace e13:=(hb9.cell (p:=⟨w.heap.size,13,none⟩) hbl).trans e13;replace e14:=(hb9.cell (p:=⟨w.heap.size,14,none⟩) hbl).trans e14;replace e15:=(hb9.cell (p:=⟨w.heap.size,15,none⟩) hbl).trans e15;replace e16:=(hb9.cell (p:=⟨w.heap.size,16,none⟩) hbl).trans e16;replace e17:=(hb9.cell (p:=⟨w.heap.size,17,none⟩) hbl).trans e17;replace e18:=(hb9.cell (p:=⟨w.heap.size,18,none⟩) hbl).trans e18;replace hbl:=Nat.lt_of_lt_of_le hbl hb9.size;clear hb9)
    | (go_at_call 101;refine (other_is a.pref _).mono ?_;rintro e w9 ⟨rfl,rfl⟩)
    | (go_at_call 102;refine (empty_is a.other _).mono ?_;rintro e w9 ⟨rfl,hb9⟩;have HB:=Lib.hid (HB.out.trans (hb9.mono HB.out.size));replace e0:=(hb9.cell (p:=⟨w.heap.size,0,none⟩) hbl).trans e0;replace e1:=(hb9.cell (p:=⟨w.heap.size,1,none⟩) hbl).trans e1;replace e2:=(hb9.cell (p:=⟨w.heap.size,2,none⟩) hbl).trans e2;replace e3:=(hb9.cell (p:=⟨w.heap.size,3,none⟩) hbl).trans e3;replace e4:=(hb9.cell (p:=⟨w.heap.size,4,none⟩) hbl).trans e4;replace e5:=(hb9.cell (p:=⟨w.heap.size,5,none⟩) hbl).trans e5;replace e6:=(hb9.cell (p:=⟨w.heap.size,6,none⟩) hbl).trans e6;replace e7:=(hb9.cell (p:=⟨w.heap.size,7,none⟩) hbl).trans e7;replace e8:=(hb9.cell (p:=⟨w.heap.size,8,none⟩) hbl).trans e8;replace e9:=(hb9.cell (p:=⟨w.heap.size,9,none⟩) hbl).trans e9;replace e10:=(hb9.cell (p:=⟨w.heap.size,10,none⟩) hbl).trans e10;replace e11:=(hb9.cell (p:=⟨w.heap.size,11,none⟩) hbl).trans e11;replace e12:=(hb9.cell (p:=⟨w.heap.size,12,none⟩) hbl).trans e12;replace e13:=(hb9.cell (p:=⟨w.heap.size,13,none⟩) hbl).trans e13;replace e14:=(hb9.cell (p:=⟨w.heap.size,14,none⟩) hbl).trans e14;replace e15:=(hb9.cell (p:=⟨w.heap.size,15,none⟩) hbl).trans e15;replace e16:=(hb9.cell (p:=⟨w.heap.size,16,none⟩) hbl).trans e16;replace e17:=(hb9.cell (p:=⟨w.heap.size,17,none⟩) hbl).trans e17;replace e18:=(hb9.cell (p:=⟨w.heap.size,18,none⟩) hbl).trans e18;replace hbl:=Nat.lt_of_lt_of_le hbl hb9.size;clear hb9))
   go_ret
   exact ⟨by rw [HR.out]<;>rfl,by (first | exact HB.out | (exact (Below.refl _ _).alloc (Nat.le_refl _) _) | (simpa using HB.out))⟩
 have t0:isWord a.id=true:=by simpa using c0
 have t1:atomB a.attr=true:=by simpa using c1
 have t2:termB a.value=true:=by simpa using c2
 have t3:decide (a.pref<1)=false:=by simp;omega
 have t4:decide (10<a.pref)=false:=by simp;omega
 have t5:otherB a.pref=false:=by simpa using c5
 have HR:=Lib.hid (show actB a=emptyB a.other by simp [actB, *])
 clear c0 c1 c2 c3 c4 c5
 go_enter Try.func91,Try.ntmps91
 go_upto_region 1 with fail
 obtain ⟨W1,hW1⟩ : ∃W1,W1=w.alloc (.cells #[.string a.id,.string a.attr.var,.int .i64 a.attr.sym.kind,.string a.attr.sym.text,.int .i64 a.attr.sym.n,.int .i64 a.value.op,.string a.value.a.var,.int .i64 a.value.a.sym.kind,.string a.value.a.sym.text,.int .i64 a.value.a.sym.n,.string a.value.b.var,.int .i64 a.value.b.sym.kind,.string a.value.b.sym.text,.int .i64 a.value.b.sym.n,.int .i64 a.pref,.string a.other.var,.int .i64 a.other.sym.kind,.string a.other.sym.text,.int .i64 a.other.sym.n] 58):=⟨_,rfl⟩
 rw [← hW1]
 have hBk:Blk W1 w.heap.size 58 #[.string a.id,.string a.attr.var,.int .i64 a.attr.sym.kind,.string a.attr.sym.text,.int .i64 a.attr.sym.n,.int .i64 a.value.op,.string a.value.a.var,.int .i64 a.value.a.sym.kind,.string a.value.a.sym.text,.int .i64 a.value.a.sym.n,.string a.value.b.var,.int .i64 a.value.b.sym.kind,.string a.value.b.sym.text,.int .i64 a.value.b.sym.n,.int .i64 a.pref,.string a.other.var,.int .i64 a.other.sym.kind,.string a.other.sym.text,.int .i64 a.other.sym.n]:=by rw [hW1];exact Blk.new _ _ _
 have HB:=Lib.hid (show Below w.heap.size w W1 by rw [hW1];exact (Below.refl _ _).alloc (Nat.le_refl _) _)
 have e0:W1.cell? ⟨w.heap.size,0,none⟩=some (.string a.id):=(hBk.cell 0).trans rfl
 have e1:W1.cell? ⟨w.heap.size,1,none⟩=some (.string a.attr.var):=(hBk.cell 1).trans rfl
 have e2:W1.cell? ⟨w.heap.size,2,none⟩=some (.int .i64 a.attr.sym.kind):=(hBk.cell 2).trans rfl
 have e3:W1.cell? ⟨w.heap.size,3,none⟩=some (.string a.attr.sym.text):=(hBk.cell 3).trans rfl
 have e4:W1.cell? ⟨w.heap.size,4,none⟩=some (.int .i64 a.attr.sym.n):=(hBk.cell 4).trans rfl
 have e5:W1.cell? ⟨w.heap.size,5,none⟩=some (.int .i64 a.value.op):=(hBk.cell 5).trans rfl
 have e6:W1.cell? ⟨w.heap.size,6,none⟩=some (.string a.value.a.var):=(hBk.cell 6).trans rfl
 have e7:W1.cell? ⟨w.heap.size,7,none⟩=some (.int .i64 a.value.a.sym.kind):=(hBk.cell 7).trans rfl
 have e8:W1.cell? ⟨w.heap.size,8,none⟩=some (.string a.value.a.sym.text):=(hBk.cell 8).trans rfl
 have e9:W1.cell? ⟨w.heap.size,9,none⟩=some (.int .i64 a.value.a.sym.n):=(hBk.cell 9).trans rfl
 have e10:W1.cell? ⟨w.heap.size,10,none⟩=some (.string a.value.b.var):=(hBk.cell 10).trans rfl
 have e11:W1.cell? ⟨w.heap.size,11,none⟩=some (.int .i64 a.value.b.sym.kind):=(hBk.cell 11).trans rfl
 have e12:W1.cell? ⟨w.heap.size,12,none⟩=some (.string a.value.b.sym.text):=(hBk.cell 12).trans rfl
 have e13:W1.cell? ⟨w.heap.size,13,none⟩=some (.int .i64 a.value.b.sym.n):=(hBk.cell 13).trans rfl
 have e14:W1.cell? ⟨w.heap.size,14,none⟩=some (.int .i64 a.pref):=(hBk.cell 14).trans rfl
 have e15:W1.cell? ⟨w.heap.size,15,none⟩=some (.string a.other.var):=(hBk.cell 15).trans rfl
 have e16:W1.cell? ⟨w.heap.size,16,none⟩=some (.int .i64 a.other.sym.kind):=(hBk.cell 16).trans rfl
 have e17:W1.cell? ⟨w.heap.size,17,none⟩=some (.string a.other.sym.text):=(hBk.cell 17).trans rfl
 have e18:W1.cell? ⟨w.heap.size,18,none⟩=some (.int .i64 a.other.sym.n):=(hBk.cell 18).trans rfl
 have hbl:=hBk.lt
 clear hW1 hBk
 go_wp2_with (first
  | (go_at_call 86;refine (word_is a.id _).mono ?_;rintro e w9 ⟨rfl,rfl⟩)
  | (go_at_call 99;(first | (with_reducible refine (atomS_is a.attr _).mono ?_) | (with_reducible refine (atomS_is a.other _).mono ?_));rintro e w9 ⟨rfl,hb9⟩;have HB:=Lib.hid (HB.out.trans (hb9.mono HB.out.size));replace e0:=(hb9.cell (p:=⟨w.heap.size,0,none⟩) hbl).trans e0;replace e1:=(hb9.cell (p:=⟨w.heap.size,1,none⟩) hbl).trans e1;replace e2:=(hb9.cell (p:=⟨w.heap.size,2,none⟩) hbl).trans e2;replace e3:=(hb9.cell (p:=⟨w.heap.size,3,none⟩) hbl).trans e3;replace e4:=(hb9.cell (p:=⟨w.heap.size,4,none⟩) hbl).trans e4;replace e5:=(hb9.cell (p:=⟨w.heap.size,5,none⟩) hbl).trans e5;replace e6:=(hb9.cell (p:=⟨w.heap.size,6,none⟩) hbl).trans e6;replace e7:=(hb9.cell (p:=⟨w.heap.size,7,none⟩) hbl).trans e7;replace e8:=(hb9.cell (p:=⟨w.heap.size,8,none⟩) hbl).trans e8;replace e9:=(hb9.cell (p:=⟨w.heap.size,9,none⟩) hbl).trans e9;replace e10:=(hb9.cell (p:=⟨w.heap.size,10,none⟩) hbl).trans e10;replace e11:=(hb9.cell (p:=⟨w.heap.size,11,none⟩) hbl).trans e11;replace e12:=(hb9.cell (p:=⟨w.heap.size,12,none⟩) hbl).trans e12;replace e13:=(hb9.cell (p:=⟨w.heap.size,13,none⟩) hbl).trans e13;replace e14:=(hb9.cell (p:=⟨w.heap.size,14,none⟩) hbl).trans e14;replace e15:=(hb9.cell (p:=⟨w.heap.size,15,none⟩) hbl).trans e15;replace e16:=(hb9.cell (p:=⟨w.heap.size,16,none⟩) hbl).trans e16;replace e17:=(hb9.cell (p:=⟨w.heap.size,17,none⟩) hbl).trans e17;replace e18:=(hb9.cell (p:=⟨w.heap.size,18,none⟩) hbl).trans e18;replace hbl:=Nat.lt_of_lt_of_le hbl hb9.size;clear hb9)
  | (go_at_call 100;refine (term_is a.value _).mono ?_;rintro e w9 ⟨rfl,hb9⟩;have HB:=Lib.hid (HB.out.trans (hb9.mono HB.out.size));replace e0:=(hb9.cell (p:=⟨w.heap.size,0,none⟩) hbl).trans e0;replace e1:=(hb9.cell (p:=⟨w.heap.size,1,none⟩) hbl).trans e1;replace e2:=(hb9.cell (p:=⟨w.heap.size,2,none⟩) hbl).trans e2;replace e3:=(hb9.cell (p:=⟨w.heap.size,3,none⟩) hbl).trans e3;replace e4:=(hb9.cell (p:=⟨w.heap.size,4,none⟩) hbl).trans e4;replace e5:=(hb9.cell (p:=⟨w.heap.size,5,none⟩) hbl).trans e5;replace e6:=(hb9.cell (p:=⟨w.heap.size,6,none⟩) hbl).trans e6;replace e7:=(hb9.cell (p:=⟨w.heap.size,7,none⟩) hbl).trans e7;replace e8:=(hb9.cell (p:=⟨w.heap.size,8,none⟩) hbl).trans e8;replace e9:=(hb9.cell (p:=⟨w.heap.size,9,none⟩) hbl).trans e9;replace e10:=(hb9.cell (p:=⟨w.heap.size,10,none⟩) hbl).trans e10;replace e11:=(hb9.cell (p:=⟨w.heap.size,11,none⟩) hbl).trans e11;replace e12:=(hb9.cell (p:=⟨w.heap.size,12,none⟩) hbl).trans e12;replace e13:=(hb9.cell (p:=⟨w.heap.size,13,none⟩) hbl).trans e13;replace e14:=(hb9.cell (p:=⟨w.heap.size,14,none⟩) hbl).trans e14;replace e15:=(hb9.cell (p:=⟨w.heap.size,15,none⟩) hbl).trans e15;replace e16:=(hb9.cell (p:=⟨w.heap.size,16,none⟩) hbl).trans e16;replace e17:=(hb9.cell (p:=⟨w.heap.size,17,none⟩) hbl).trans e17;replace e18:=(hb9.cell (p:=⟨w.heap.size,18,none⟩) hbl).trans e18;replace hbl:=Nat.lt_of_lt_of_le hbl hb9.size;clear hb9)
  | (go_at_call 101;refine (other_is a.pref _).mono ?_;rintro e w9 ⟨rfl,rfl⟩)
  | (go_at_call 102;refine (empty_is a.other _).mono ?_;rintro e w9 ⟨rfl,hb9⟩;have HB:=Lib.hid (HB.out.trans (hb9.mono HB.out.size));replace e0:=(hb9.cell (p:=⟨w.heap.size,0,none⟩) hbl).trans e0;replace e1:=(hb9.cell (p:=⟨w.heap.size,1,none⟩) hbl).trans e1;replace e2:=(hb9.cell (p:=⟨w.heap.size,2,none⟩) hbl).trans e2;replace e3:=(hb9.cell (p:=⟨w.heap.size,3,none⟩) hbl).trans e3;replace e4:=(hb9.cell (p:=⟨w.heap.size,4,none⟩) hbl).trans e4;replace e5:=(hb9.cell (p:=⟨w.heap.size,5,none⟩) hbl).trans e5;replace e6:=(hb9.cell (p:=⟨w.heap.size,6,none⟩) hbl).trans e6;replace e7:=(hb9.cell (p:=⟨w.heap.size,7,none⟩) hbl).trans e7;replace e8:=(hb9.cell (p:=⟨w.heap.size,8,none⟩) hbl).trans e8;replace e9:=(hb9.cell (p:=⟨w.heap.size,9,none⟩) hbl).trans e9;replace e10:=(hb9.cell (p:=⟨w.heap.size,10,none⟩) hbl).trans e10;replace e11:=(hb9.cell (p:=⟨w.heap.size,11,none⟩) hbl).trans e11;replace e12:=(hb9.cell (p:=⟨w.heap.size,12,none⟩) hbl).trans e12;replace e13:=(hb9.cell (p:=⟨w.heap.size,13,none⟩) hbl).trans e13;replace e14:=(hb9.cell (p:=⟨w.heap.size,14,none⟩) hbl).trans e14;replace e15:=(hb9.cell (p:=⟨w.heap.size,15,none⟩) hbl).trans e15;replace e16:=(hb9.cell (p:=⟨w.heap.size,16,none⟩) hbl).trans e16;replace e17:=(hb9.cell (p:=⟨w.heap.size,17,none⟩) hbl).trans e17;replace e18:=(hb9.cell (p:=⟨w.heap.size,18,none⟩) hbl).trans e18;replace hbl:=Nat.lt_of_lt_of_le hbl hb9.size;clear hb9))
 go_ret
 exact ⟨by rw [HR.out]<;>rfl,by (first | exact HB.out | (exact (Below.refl _ _).alloc (Nat.le_refl _) _) | (simpa using HB.out))⟩
end Go.Proofs.Ytffemfglngikbaa
namespace Go.Proofs.Ytffemfglngikbaa
open Go.RowKit Go.Shelf
attribute [local go_sem] Oper.semAt_some
set_option maxRecDepth 100000 in
set_option maxHeartbeats 16000000 in
theorem shape_is {D:Nat→Prop} (p:ProdT) (n:Nat) (A1 A2:Option Addr) (c1 c2:Nat) (w:World) (h1:RowR (repCondT n) D w A1 c1 p.conds) (h2:RowR repActT D w A2 c2 p.acts) (hD : ∀k,D k→k<w.heap.size) (hF:(flatC n 0 p.conds).length≤1000000000) (hn:n≤1000000000) :
 Calls Try.prog 79 #[.agg #[.string p.name,.slice A1 p.conds.length c1,.slice A2 p.acts.length c2]] w fun e w'=>e = .returned (.tuple #[.int .i64 (shapeP n p).1,.int .i64 (shapeP n p).2])∧Below w.heap.size w w':=by
 have H1:=Lib.hid h1
 have H2:=Lib.hid h2
 have HD:=Lib.hid hD
 have hl2:=h2.cap
 clear h1 h2 hD
 by_cases hw:isWord p.name=false
 · have HR:=Lib.hid (show shapeP n p=(-1,2) by unfold shapeP;rw [if_pos hw])
   have w1:=hw
   clear hw
   go_enter Try.func79,Try.ntmps79
   go_wp2_with (go_at_call 86;refine (word_is p.name _).mono ?_;rintro e w9 ⟨rfl,rfl⟩)
   go_ret2
   exact ⟨by rw [HR.out]<;>rfl,(Below.refl _ _).alloc (Nat.le_refl _) _⟩
 have w1:isWord p.name=true:=by simpa using hw
 have HW:=Lib.hid hw
 clear hw
 obtain ⟨F,hFd⟩ : ∃F,F=flatC n 0 p.conds:=⟨_,rfl⟩
 have HFD:=Lib.hid hFd
 rw [← hFd] at hF
 clear hFd
 go_enter Try.func79,Try.ntmps79
 go_upto_region 4 with (go_at_call 86;refine (word_is p.name _).mono ?_;rintro e w9 ⟨rfl,rfl⟩)
 obtain ⟨W1,hW1⟩ : ∃W1,W1=(w.alloc (.cells #[.string p.name,.slice A1 p.conds.length c1,.slice A2 p.acts.length c2] 25)).alloc (.cells #[.int .i64 0] 3):=⟨_,rfl⟩
 rw [← hW1]
 have hb1:Below w.heap.size w W1:=by rw [hW1];exact ((Below.refl _ _).alloc (Nat.le_refl _) _).alloc (by simp) _
 have hP:Blk W1 w.heap.size 25 #[.string p.name,.slice A1 p.conds.length c1,.slice A2 p.acts.length c2]:=by rw [hW1];exact (Blk.new w 25 #[.string p.name,.slice A1 p.conds.length c1,.slice A2 p.acts.length c2]).alloc _
 have hN:Blk W1 (w.heap.size+1) 3 #[.int .i64 0]:=by
  rw [hW1]
  have:=Blk.new (w.alloc (.cells #[.string p.name,.slice A1 p.conds.length c1,.slice A2 p.acts.length c2] 25)) 3 #[.int .i64 0]
  rw [show (w.alloc (.cells #[.string p.name,.slice A1 p.conds.length c1,.slice A2 p.acts.length c2] 25)).heap.size=w.heap.size+1 from by simp] at this
  exact this
 obtain ⟨bn,hbn⟩ : ∃bn,bn=w.heap.size+1:=⟨_,rfl⟩
 obtain ⟨px,hpx⟩ : ∃px,px=w.heap.size:=⟨_,rfl⟩
 rw [← hbn] at hN ⊢
 rw [← hpx] at hP
 have HPX:=Lib.hid hpx
 have HBN:=Lib.hid hbn
 have hDn : ¬D bn:=fun h=>by have:=HD.out _ h;omega
 have p1:W1.cell? ⟨w.heap.size,1,none⟩=some (.slice A1 p.conds.length c1):=by rw [← hpx];exact (hP.cell 1).trans rfl
 have hpl:w.heap.size<W1.heap.size:=by rw [← hpx];exact hP.lt
 have HB1:=Lib.hid hb1
 have HP:=Lib.hid hP
 have HN:=Lib.hid hN
 clear hW1 hbn hpx hb1 hP hN
 go_wp2_with fail
 have hwk:=walk_is (yld1 (D:=D) bn hDn F) hF n 0 0 A1 c1 p.conds W1 (H1.out.new_ HB1.out) (fun k hk=>by rw [hk];exact HN.out.lt) ⟨[],by rw [← HFD.out];simp⟩ (by rw [← HFD.out];omega) (by omega) ⟨HN.out,by omega⟩
 rw [← HFD.out] at hwk
 refine hwk.mono ?_
 rintro e W2 ⟨b,a,rfl,hbt,hbf,hF2⟩
 have hm : ∃m:Nat,Blk W2 bn 3 #[.int .i64 (m:Int)]∧((m=F.length∧m≤16)∨(m=17∧16<F.length)):=by
  cases b with
  | true=>
    obtain ⟨ha,hI⟩:=hbt rfl
    exact ⟨a,hI.1,.inl ⟨by omega,hI.2⟩⟩
  | false=>
    have hS:=hbf rfl
    exact ⟨17,hS.1,.inr ⟨rfl,hS.2⟩⟩
 obtain ⟨m,hM,hmF⟩:=hm
 have hP2:=HP.out.fr hF2 (fun e=>by have:=HPX.out;have:=HBN.out;omega)
 have HB2:=Lib.hid (HB1.out.trans (hF2.below HB1.out.size (fun k hk e=>by have:=HBN.out;omega)))
 have n0:W2.cell? ⟨bn,0,none⟩=some (.int .i64 (m:Int)):=(hM.cell 0).trans rfl
 have p1':W2.cell? ⟨w.heap.size,1,none⟩=some (.slice A1 p.conds.length c1):=by rw [← HPX.out];exact (hP2.cell 1).trans rfl
 have p2':W2.cell? ⟨w.heap.size,2,none⟩=some (.slice A2 p.acts.length c2):=by rw [← HPX.out];exact (hP2.cell 2).trans rfl
 have hpl2:w.heap.size<W2.heap.size:=by rw [← HPX.out];exact hP2.lt
 have hnl:=hM.lt
 have HM:=Lib.hid hM
 have HP2:=Lib.hid hP2
 clear hwk hbt hbf hF2 hM hP2 p1 hpl
 have bad:(F.length<1∨16<F.length∨p.acts.length<1∨16<p.acts.length)→shapeP n p=(-1,7):=fun h=>by
  unfold shapeP
  rw [if_neg HW.out,← HFD.out,if_pos h]
 have HBAD:=Lib.hid bad
 clear bad
 by_cases k1:m<1
 · have t1:decide ((m:Int)<1)=true:=decide_eq_true (by omega)
   have t1n:decide (m<1)=true:=decide_eq_true (by omega)
   have HR:=Lib.hid (HBAD.out (by omega))
   clear k1
   go_wp2_with fail
   go_ret2
   exact ⟨by rw [HR.out]<;>rfl,HB2.out⟩
 have t1:decide ((m:Int)<1)=false:=decide_eq_false (by omega)
 have t1n:decide (m<1)=false:=decide_eq_false (by omega)
 by_cases k2:16<m
 · have t2:decide ((16:Int)<(m:Int))=true:=decide_eq_true (by omega)
   have t2n:decide (16<m)=true:=decide_eq_true (by omega)
   have HR:=Lib.hid (HBAD.out (by omega))
   clear k1 k2
   go_wp2_with fail
   go_ret2
   exact ⟨by rw [HR.out]<;>rfl,HB2.out⟩
 have t2:decide ((16:Int)<(m:Int))=false:=decide_eq_false (by omega)
 have t2n:decide (16<m)=false:=decide_eq_false (by omega)
 have hmF':m=F.length:=by omega
 by_cases k3:p.acts.length<1
 · have t3:decide ((p.acts.length:Int)<1)=true:=decide_eq_true (by omega)
   have t3n:decide (p.acts.length<1)=true:=decide_eq_true (by omega)
   have HR:=Lib.hid (HBAD.out (by omega))
   have hz0:p.acts.length=0:=by omega
   clear k1 k2 k3 hmF hmF'
   go_wp2_with fail
   go_ret2
   exact ⟨by rw [HR.out]<;>rfl,HB2.out⟩
 have t3:decide ((p.acts.length:Int)<1)=false:=decide_eq_false (by omega)
 have t3n:decide (p.acts.length<1)=false:=decide_eq_false (by omega)
 by_cases k4:16<p.acts.length
 · have t4:decide ((16:Int)<(p.acts.length:Int))=true:=decide_eq_true (by omega)
   have t4n:decide (16<p.acts.length)=true:=decide_eq_true (by omega)
   have HR:=Lib.hid (HBAD.out (by omega))
   clear k1 k2 k3 k4 hmF hmF'
   go_wp2_with fail
   go_ret2
   exact ⟨by rw [HR.out]<;>rfl,HB2.out⟩
 have t4:decide ((16:Int)<(p.acts.length:Int))=false:=decide_eq_false (by omega)
 have t4n:decide (16<p.acts.length)=false:=decide_eq_false (by omega)
 clear k1 k2 k3 k4 hmF
 have HMF:=Lib.hid hmF'
 clear hmF'
 have good : ∀r:Int×Int,(match F.findIdx? (fun c=>decide (condE c.2 c.1≠0)) with
  | some k=>((k:Int),((F[k]?).map fun c=>condE c.2 c.1).getD 0)
  | none=>match p.acts.findIdx? (fun a=>!actB a) with
    | some i=>(F.length+i,9)
    | none=>(-1,0))=r→shapeP n p=r:=fun r h=>by
  have ht2:=t2n
  have ht1:=t1n
  have ht3:=t3n
  have ht4:=t4n
  rw [decide_eq_false_iff_not] at ht1 ht2 ht3 ht4
  unfold shapeP
  rw [if_neg HW.out,← HFD.out,if_neg (by have:=HMF.out;omega)]
  exact h
 have HGOOD:=Lib.hid good
 clear good
 go_upto_region 8 with fail
 obtain ⟨W3,hW3⟩ : ∃W3,W3=(W2.alloc (.cells #[.int .i64 (-1)] 3)).alloc (.cells #[.int .i64 0] 45):=⟨_,rfl⟩
 rw [← hW3]
 have hb3:Below W2.heap.size W2 W3:=by rw [hW3];exact ((Below.refl _ _).alloc (Nat.le_refl _) _).alloc (by simp) _
 have hQ:Blk W3 W2.heap.size 3 #[.int .i64 (-1)]:=by rw [hW3];exact (Blk.new W2 3 #[.int .i64 (-1)]).alloc _
 have hE:Blk W3 (W2.heap.size+1) 45 #[.int .i64 0]:=by
  rw [hW3]
  have:=Blk.new (W2.alloc (.cells #[.int .i64 (-1)] 3)) 45 #[.int .i64 0]
  rw [show (W2.alloc (.cells #[.int .i64 (-1)] 3)).heap.size=W2.heap.size+1 from by simp] at this
  exact this
 obtain ⟨be,hbe⟩ : ∃be,be=W2.heap.size+1:=⟨_,rfl⟩
 obtain ⟨bp,hbp⟩ : ∃bp,bp=W2.heap.size:=⟨_,rfl⟩
 rw [← hbe] at hE ⊢
 rw [← hbp] at hQ ⊢
 have hz2:=HB2.out.size
 have hD1 : ¬D be:=fun h=>by have:=HD.out _ h;omega
 have hD2 : ¬D bp:=fun h=>by have:=HD.out _ h;omega
 have q1:W3.cell? ⟨w.heap.size,1,none⟩=some (.slice A1 p.conds.length c1):=(hb3.cell (p:=⟨w.heap.size,1,none⟩) hpl2).trans p1'
 have hpl3:=Nat.lt_of_lt_of_le hpl2 hb3.size
 have HB3:=Lib.hid hb3
 have HE:=Lib.hid hE
 have HQ:=Lib.hid hQ
 have HBE:=Lib.hid hbe
 have HBP:=Lib.hid hbp
 clear hW3 hb3 hE hQ hbe hbp p1' n0 hnl
 go_wp2_with fail
 have hwk:=walk_is (yld2 (D:=D) be bp hD1 hD2 (by have:=HBE.out;have:=HBP.out;omega) F) hF n 0 0 A1 c1 p.conds W3 (H1.out.new_ (HB2.out.trans (HB3.out.mono hz2))) (fun k hk=>hk.elim (fun e=>e ▸ HE.out.lt) (fun e=>e ▸ HQ.out.lt)) ⟨[],by rw [← HFD.out];simp⟩ (by rw [← HFD.out];omega) (by omega) ⟨HE.out,HQ.out,fun j _ h=>absurd h (by omega)⟩
 rw [← HFD.out] at hwk
 refine hwk.mono ?_
 rintro e W4 ⟨b,a2,rfl,hbt,hbf,hF4⟩
 have HB4:=Lib.hid (show Below w.heap.size w W4 from (HB2.out.trans (HB3.out.mono hz2)).trans (hF4.below (by have:=HB3.out.size;omega) (fun k hk e=>by have:=HBE.out;have:=HBP.out;rcases e with e | e<;>omega)))
 have hM4:=(HM.out.new_ HB3.out).fr hF4 (fun e=>by have h1:=HM.out.lt;have:=HBE.out;have:=HBP.out;rcases e with e | e<;>omega)
 have hP4:=(HP2.out.new_ HB3.out).fr hF4 (fun e=>by have h1:=HP2.out.lt;have:=HBE.out;have:=HBP.out;rcases e with e | e<;>omega)
 have HM4:=Lib.hid hM4
 have r2:W4.cell? ⟨w.heap.size,2,none⟩=some (.slice A2 p.acts.length c2):=by rw [← HPX.out];exact (hP4.cell 2).trans rfl
 have hpl4:w.heap.size<W4.heap.size:=by rw [← HPX.out];exact hP4.lt
 have n4:W4.cell? ⟨bn,0,none⟩=some (.int .i64 (m:Int)):=(hM4.cell 0).trans rfl
 have hnl4:=hM4.lt
 clear hwk hF4 hM4 hP4 q1 hpl3 p2' hpl2
 cases b with
 | false=>
   obtain ⟨k,hk,hE4,hQ4,hne,hall⟩:=hbf rfl
   obtain ⟨z,hz⟩ : ∃z,z=condE F[k].2 F[k].1:=⟨_,rfl⟩
   have hR:shapeP n p=((k:Int),z):=by
    refine HGOOD.out _ ?_
    have hfi:F.findIdx? (fun c=>decide (condE c.2 c.1≠0))=some k:=by
     rw [List.findIdx?_eq_some_iff_getElem]
     exact ⟨hk,by simpa using hne,fun j hj=>by simpa using hall j (by omega) hj⟩
    rw [hfi]
    simp [List.getElem?_eq_getElem hk,hz]
   rw [← hz] at hE4 hne
   have HR:=Lib.hid hR
   have s0:W4.cell? ⟨be,0,none⟩=some (.int .i64 z):=(hE4.cell 0).trans rfl
   have s1:W4.cell? ⟨bp,0,none⟩=some (.int .i64 (k:Int)):=(hQ4.cell 0).trans rfl
   have hl0:=hE4.lt
   have hl1:=hQ4.lt
   have t5:(z == 0)=false:=by simp [hne]
   have t6:decide (z=0)=false:=by simp [hne]
   clear hR hz hE4 hQ4 hall hbt hbf hne n4 r2
   go_wp2_with fail
   go_quiet (fail)
   go_wp2_with fail
   go_ret2
   exact ⟨by rw [HR.out]<;>rfl,Below.drewN' HB4.out _⟩
 | true=>
   obtain ⟨_,hE4,_,hall⟩:=hbt rfl
   have hnone:F.findIdx? (fun c=>decide (condE c.2 c.1≠0))=none:=by
    rw [List.findIdx?_eq_none_iff]
    intro x hx
    obtain ⟨j,hj,rfl⟩:=List.getElem_of_mem hx
    have:=hall j hj (by omega)
    simpa using this
   have HNO:=Lib.hid hnone
   have s0:W4.cell? ⟨be,0,none⟩=some (.int .i64 0):=(hE4.cell 0).trans rfl
   have hl0:=hE4.lt
   clear hnone hall hbt hbf hE4
   go_wp2_with fail
   go_loopw [46] (fun s wr=>∃i:Nat,s = .int .i64 i∧i≤p.acts.length∧(∀k,(h:k<p.acts.length)→k<i→actB p.acts[k]=true)∧Below W4.heap.size W4 wr) (fun s wr=>p.acts.length - (intOf s).toNat)
   case atStart=>exact ⟨0,rfl,Nat.zero_le _,fun k _ h=>absurd h (by omega),Below.refl _ _⟩
   case round=>
    obtain ⟨i,rfl,hi,hall,hBr⟩:=hrel
    have HALL:=Lib.hid hall
    have HBr:=Lib.hid hBr
    have hz4:=HB4.out.size
    have hzr:=hBr.size
    clear hall hBr
    by_cases hlt:i<p.acts.length
    · obtain ⟨y,hy⟩ : ∃y,y=p.acts[i]:=⟨_,rfl⟩
      obtain ⟨g,off,hAA,_,hg,q0,q1,q2,q3,q4,q5,q6,q7,q8,q9,q10,q11,q12,q13,q14,q15,q16,q17,q18⟩:=at_ActT (H2.out.new_ (HB4.out.trans (HBr.out.mono hz4))) hlt
      subst hAA
      rw [← hy] at q0 q1 q2 q3 q4 q5 q6 q7 q8 q9 q10 q11 q12 q13 q14 q15 q16 q17 q18
      have HY:=Lib.hid hy
      have b1:(0:Int)≤(i:Int):=by omega
      have b2:(i:Int)<(p.acts.length:Int):=by omega
      have HRG:=Lib.hid (show wr.rangeAt g (off+i*19) [.string y.id,.string y.attr.var,.int .i64 y.attr.sym.kind,.string y.attr.sym.text,.int .i64 y.attr.sym.n,.int .i64 y.value.op,.string y.value.a.var,.int .i64 y.value.a.sym.kind,.string y.value.a.sym.text,.int .i64 y.value.a.sym.n,.string y.value.b.var,.int .i64 y.value.b.sym.kind,.string y.value.b.sym.text,.int .i64 y.value.b.sym.n,.int .i64 y.pref,.string y.other.var,.int .i64 y.other.sym.kind,.string y.other.sym.text,.int .i64 y.other.sym.n] from fun j v hv=>by
       obtain ⟨g',off',cs,e1,_,_,hr,hc⟩:=(H2.out.new_ (HB4.out.trans (HBr.out.mono hz4))).at_ hlt
       cases e1
       have hr2:cs=ActT.cells p.acts[i]:=hr
       subst hr2
       rw [← HY.out] at hc
       exact hc j v hv)
      have HTH:=Lib.hid (show (wr.alloc (.cells #[.string ⟨#[]⟩,.string ⟨#[]⟩,.int .i64 0,.string ⟨#[]⟩,.int .i64 0,.int .i64 0,.string ⟨#[]⟩,.int .i64 0,.string ⟨#[]⟩,.int .i64 0,.string ⟨#[]⟩,.int .i64 0,.string ⟨#[]⟩,.int .i64 0,.int .i64 0,.string ⟨#[]⟩,.int .i64 0,.string ⟨#[]⟩,.int .i64 0] 58)).there wr.heap.size 0 (#[.string y.id,.string y.attr.var,.int .i64 y.attr.sym.kind,.string y.attr.sym.text,.int .i64 y.attr.sym.n,.int .i64 y.value.op,.string y.value.a.var,.int .i64 y.value.a.sym.kind,.string y.value.a.sym.text,.int .i64 y.value.a.sym.n,.string y.value.b.var,.int .i64 y.value.b.sym.kind,.string y.value.b.sym.text,.int .i64 y.value.b.sym.n,.int .i64 y.pref,.string y.other.var,.int .i64 y.other.sym.kind,.string y.other.sym.text,.int .i64 y.other.sym.n]:Array Value).size from (Blk.new wr 58 #[.string ⟨#[]⟩,.string ⟨#[]⟩,.int .i64 0,.string ⟨#[]⟩,.int .i64 0,.int .i64 0,.string ⟨#[]⟩,.int .i64 0,.string ⟨#[]⟩,.int .i64 0,.string ⟨#[]⟩,.int .i64 0,.string ⟨#[]⟩,.int .i64 0,.int .i64 0,.string ⟨#[]⟩,.int .i64 0,.string ⟨#[]⟩,.int .i64 0]).there)
      obtain ⟨W5,hW5⟩ : ∃W5,W5=(wr.alloc (.cells #[.string ⟨#[]⟩,.string ⟨#[]⟩,.int .i64 0,.string ⟨#[]⟩,.int .i64 0,.int .i64 0,.string ⟨#[]⟩,.int .i64 0,.string ⟨#[]⟩,.int .i64 0,.string ⟨#[]⟩,.int .i64 0,.string ⟨#[]⟩,.int .i64 0,.int .i64 0,.string ⟨#[]⟩,.int .i64 0,.string ⟨#[]⟩,.int .i64 0] 58)).setCells wr.heap.size 0 [.string y.id,.string y.attr.var,.int .i64 y.attr.sym.kind,.string y.attr.sym.text,.int .i64 y.attr.sym.n,.int .i64 y.value.op,.string y.value.a.var,.int .i64 y.value.a.sym.kind,.string y.value.a.sym.text,.int .i64 y.value.a.sym.n,.string y.value.b.var,.int .i64 y.value.b.sym.kind,.string y.value.b.sym.text,.int .i64 y.value.b.sym.n,.int .i64 y.pref,.string y.other.var,.int .i64 y.other.sym.kind,.string y.other.sym.text,.int .i64 y.other.sym.n]:=⟨_,rfl⟩
      have HW5:=Lib.hid hW5
      have HRG5:=Lib.hid (show W5.rangeAt wr.heap.size 0 [.string y.id,.string y.attr.var,.int .i64 y.attr.sym.kind,.string y.attr.sym.text,.int .i64 y.attr.sym.n,.int .i64 y.value.op,.string y.value.a.var,.int .i64 y.value.a.sym.kind,.string y.value.a.sym.text,.int .i64 y.value.a.sym.n,.string y.value.b.var,.int .i64 y.value.b.sym.kind,.string y.value.b.sym.text,.int .i64 y.value.b.sym.n,.int .i64 y.pref,.string y.other.var,.int .i64 y.other.sym.kind,.string y.other.sym.text,.int .i64 y.other.sym.n] by rw [hW5];exact World.rangeAt_setCells_same _ _ _ _ HTH.out)
      have HB5:=Lib.hid (show Below wr.heap.size wr W5 by rw [hW5];exact Below.setCells' _ _ ((Below.refl _ _).alloc (Nat.le_refl _) _) (Nat.le_refl _))
      clear hy hW5 q0 q1 q2 q3 q4 q5 q6 q7 q8 q9 q10 q11 q12 q13 q14 q15 q16 q17 q18
      go_wp2_with (first
       | (with_reducible refine wpList_load_mid rfl 58 _ rfl g (off+i*19) rfl [.string y.id,.string y.attr.var,.int .i64 y.attr.sym.kind,.string y.attr.sym.text,.int .i64 y.attr.sym.n,.int .i64 y.value.op,.string y.value.a.var,.int .i64 y.value.a.sym.kind,.string y.value.a.sym.text,.int .i64 y.value.a.sym.n,.string y.value.b.var,.int .i64 y.value.b.sym.kind,.string y.value.b.sym.text,.int .i64 y.value.b.sym.n,.int .i64 y.pref,.string y.other.var,.int .i64 y.other.sym.kind,.string y.other.sym.text,.int .i64 y.other.sym.n] _ HRG.out Try.underlying58 rfl (by kernel_rfl) ?_)
       | ((with_reducible refine wpList_store_mid rfl 58 _ _ rfl wr.heap.size 0 #[.string y.id,.string y.attr.var,.int .i64 y.attr.sym.kind,.string y.attr.sym.text,.int .i64 y.attr.sym.n,.int .i64 y.value.op,.string y.value.a.var,.int .i64 y.value.a.sym.kind,.string y.value.a.sym.text,.int .i64 y.value.a.sym.n,.string y.value.b.var,.int .i64 y.value.b.sym.kind,.string y.value.b.sym.text,.int .i64 y.value.b.sym.n,.int .i64 y.pref,.string y.other.var,.int .i64 y.other.sym.kind,.string y.other.sym.text,.int .i64 y.other.sym.n] rfl rfl HTH.out (by kernel_rfl) (by kernel_rfl) ?_);rw [← HW5.out])
       | (with_reducible refine wpList_load_mid rfl 58 _ rfl wr.heap.size 0 rfl [.string y.id,.string y.attr.var,.int .i64 y.attr.sym.kind,.string y.attr.sym.text,.int .i64 y.attr.sym.n,.int .i64 y.value.op,.string y.value.a.var,.int .i64 y.value.a.sym.kind,.string y.value.a.sym.text,.int .i64 y.value.a.sym.n,.string y.value.b.var,.int .i64 y.value.b.sym.kind,.string y.value.b.sym.text,.int .i64 y.value.b.sym.n,.int .i64 y.pref,.string y.other.var,.int .i64 y.other.sym.kind,.string y.other.sym.text,.int .i64 y.other.sym.n] _ HRG5.out Try.underlying58 rfl (by kernel_rfl) ?_))
      refine (act_is y _).mono ?_
      rintro e w9 ⟨rfl,hb9⟩
      have HB9:=Lib.hid (HBr.out.trans ((HB5.out.trans (hb9.mono HB5.out.size)).mono hzr))
      clear hb9
      cases hcb:actB y
      · have hfi:p.acts.findIdx? (fun a=>!actB a)=some i:=by
         rw [List.findIdx?_eq_some_iff_getElem]
         refine ⟨hlt,by rw [← HY.out,hcb];rfl,fun j hj=>?_⟩
         have:=HALL.out j (by omega) hj
         simp [this]
        have HR:=Lib.hid (HGOOD.out ((m:Int)+i,9) (by rw [HNO.out,hfi];simp [HMF.out]))
        have n9:w9.cell? ⟨bn,0,none⟩=some (.int .i64 (m:Int)):=(HB9.out.cell (p:=⟨bn,0,none⟩) hnl4).trans n4
        have hn9:=Nat.lt_of_lt_of_le hnl4 HB9.out.size
        have t7:=t2n
        rw [decide_eq_false_iff_not] at t7
        have t8:=t4n
        rw [decide_eq_false_iff_not] at t8
        have v1:IntKind.i64.wrap ((m:Int)+(i:Int))=(m:Int)+(i:Int):=IntWalk.i64_in _ (by omega)
        clear hcb hfi t7 t8
        go_wp2_with fail
        go_ret2
        exact ⟨by rw [HR.out]<;>rfl,HB4.out.trans (HB9.out.mono hz4)⟩
      · have HCB:=Lib.hid hcb
        clear hcb
        go_wp2_with fail
        go_roundw
        case rel=>exact ⟨i+1,by go_num,by omega,fun k hk hki=>by
         by_cases e:k=i
         · subst e;rw [← HY.out];exact HCB.out
         · exact HALL.out k hk (by omega),HB9.out⟩
        case measure=>simp [intOf]<;>omega
    · have hie:i=p.acts.length:=by omega
      have hfi:p.acts.findIdx? (fun a=>!actB a)=none:=by
       rw [List.findIdx?_eq_none_iff]
       intro x hx
       obtain ⟨j,hj,rfl⟩:=List.getElem_of_mem hx
       simp [HALL.out j hj (by omega)]
      have HR:=Lib.hid (HGOOD.out (-1,0) (by rw [HNO.out,hfi]))
      subst hie
      clear hfi
      go_wp2_with fail
      go_ret2
      exact ⟨by rw [HR.out]<;>rfl,HB4.out.trans (HBr.out.mono hz4)⟩
end Go.Proofs.Ytffemfglngikbaa
namespace Go.Proofs.Ytffemfglngikbaa
open Go.RowKit Go.Shelf
attribute [local go_sem] Oper.semAt_some
set_option linter.unusedSimpArgs false
def showX (n:Nat) (p:ProdT):ByteArray:=if (shapeP n p).2=0 then prodX n p else ⟨#[]⟩
def headX (p:ProdT):ByteArray:=(⟨#[115,112,32,123]⟩:ByteArray)++p.name++(⟨#[10]⟩:ByteArray)
def midX (n:Nat) (p:ProdT):ByteArray:=p.conds.foldl (lineC n) (headX p)++(⟨#[45,45,62,10]⟩:ByteArray)
set_option maxRecDepth 100000 in
set_option maxHeartbeats 8000000 in
theorem sprod_is {D:Nat→Prop} (n:Nat) (p:ProdT) (A1 A2:Option Addr) (c1 c2:Nat) (w:World) (h1:RowR (repCondT n) D w A1 c1 p.conds) (h2:RowR repActT D w A2 c2 p.acts) (hD : ∀k,D k→k<w.heap.size) (hF:(flatC n 0 p.conds).length≤1000000000) (hn:n≤1000000000) (hz:(shapeP n p).2=0→(prodX n p).size≤MAXS) :
 Calls Try.prog 70 #[.agg #[.string p.name,.slice A1 p.conds.length c1,.slice A2 p.acts.length c2]] w fun e w'=>e = .returned (.tuple #[.string (showX n p),.int .i64 (shapeP n p).2])∧Below w.heap.size w w':=by
 have H1:=Lib.hid h1
 have H2:=Lib.hid h2
 have hl1:=h1.cap
 have hl2:=h2.cap
 have HSH:=Lib.hid (show ∀W,Below w.heap.size w W→Calls Try.prog 79 #[.agg #[.string p.name,.slice A1 p.conds.length c1,.slice A2 p.acts.length c2]] W fun e w'=>e = .returned (.tuple #[.int .i64 (shapeP n p).1,.int .i64 (shapeP n p).2])∧Below W.heap.size W w' from fun W hW=>shape_is p n A1 A2 c1 c2 W (h1.new_ hW) (h2.new_ hW) (fun k hk=>Nat.lt_of_lt_of_le (hD k hk) hW.size) hF hn)
 obtain ⟨q1,hq1⟩ : ∃q,q=(shapeP n p).1:=⟨_,rfl⟩
 obtain ⟨q2,hq2⟩ : ∃q,q=(shapeP n p).2:=⟨_,rfl⟩
 rw [← hq1,← hq2] at HSH
 rw [← hq2] at hz ⊢
 have HQ:=Lib.hid hq2
 clear h1 h2 hD hF hn hq1 hq2
 by_cases he:q2=0
 · skip
   have HR:=Lib.hid (show showX n p=p.acts.foldl lineA (midX n p)++(⟨#[125,10]⟩:ByteArray) by unfold showX;rw [if_pos (HQ.out ▸ he)];rfl)
   have hz:=hz he
   rw [show prodX n p=p.acts.foldl lineA (midX n p)++(⟨#[125,10]⟩:ByteArray) from rfl,ByteArray.size_append] at hz
   have et:((⟨#[125,10]⟩:ByteArray)).size=2:=rfl
   rw [et] at hz
   obtain ⟨T,hT⟩ : ∃T,T=p.acts.foldl lineA (midX n p):=⟨_,rfl⟩
   rw [← hT] at HR hz
   have zm:(midX n p).size≤T.size:=by rw [hT];exact fold_le lineA_le _ _
   obtain ⟨C,hC⟩ : ∃C,C=p.conds.foldl (lineC n) (headX p):=⟨_,rfl⟩
   have hm:midX n p=C++(⟨#[45,45,62,10]⟩:ByteArray):=by rw [hC];rfl
   have HM:=Lib.hid hm
   rw [hm,ByteArray.size_append] at zm
   have ea:((⟨#[45,45,62,10]⟩:ByteArray)).size=4:=rfl
   rw [ea] at zm
   have zh:(headX p).size≤C.size:=by rw [hC];exact fold_le (lineC_le n) _ _
   unfold headX at zh
   rw [ByteArray.size_append,ByteArray.size_append] at zh
   have eh:((⟨#[115,112,32,123]⟩:ByteArray)).size=4:=rfl
   have en:((⟨#[10]⟩:ByteArray)).size=1:=rfl
   rw [eh,en] at zh
   have y1 : ¬MAXS<4+p.name.size:=by unfold MAXS at *;omega
   have y2 : ¬MAXS<4+p.name.size+1:=by unfold MAXS at *;omega
   have y3 : ¬MAXS<C.size+4:=by unfold MAXS at *;omega
   have y4 : ¬MAXS<T.size+2:=by unfold MAXS at *;omega
   have zC:=Lib.hid (show C.size≤MAXS by unfold MAXS at *;omega)
   have zT:=Lib.hid (show T.size≤MAXS by unfold MAXS at *;omega)
   have HC:=Lib.hid hC
   have HT:=Lib.hid hT
   subst he
   clear hz et hT zm hC hm ea zh eh en
   go_enter Try.func70,Try.ntmps70
   go_upto_region 1 with fail
   obtain ⟨w1,hw1⟩ : ∃w1,w1=(w.alloc (.cells #[.string p.name,.slice A1 p.conds.length c1,.slice A2 p.acts.length c2] 25)):=⟨_,rfl⟩
   rw [← hw1]
   have HB:=Lib.hid (show Below w.heap.size w w1 by rw [hw1];exact (by repeat (first | exact Below.refl _ _ | refine Below.drew ?_ | refine Below.al ?_ _ | refine Below.sc ?_ _)))
   have Kb:=Lib.hid (show Blk w1 (w.heap.size) 25 #[.string p.name,.slice A1 p.conds.length c1,.slice A2 p.acts.length c2] by rw [hw1];exact (Blk.new w 25 #[.string p.name,.slice A1 p.conds.length c1,.slice A2 p.acts.length c2]))
   clear hw1
   obtain ⟨b0,b1,b2⟩:=Kb.out.c3
   have bz:=Kb.out.lt
   go_wp2_with fail
   with_reducible refine (HSH.out _ (by (repeat (first | exact Below.refl _ _ | exact HB.out | refine Below.drew ?_ | refine Below.al ?_ _ | refine Below.sc ?_ _)))).mono ?_
   rintro e w2 ⟨rfl,hb⟩
   have hbs:=Below.trans (show Below w1.heap.size w1 _ from (by (repeat (first | exact Below.refl _ _ | refine Below.drew ?_ | refine Below.al ?_ _ | refine Below.sc ?_ _)))) (hb.mono (by simp<;>omega))
   have Kb:=Lib.hid (Kb.out.new_ hbs)
   have HB:=Lib.hid (HB.out.trans (hbs.mono HB.out.size))
   have hsz2:=hbs.size
   clear b0 b1 b2 bz hb hbs
   obtain ⟨b0,b1,b2⟩:=Kb.out.c3
   have bz:=Kb.out.lt
   go_wp2_with fail
   clear b0 b1 b2 bz y1 y2
   rw [show (⟨#[115,112,32,123]⟩:ByteArray)++p.name++(⟨#[10]⟩:ByteArray)=headX p from rfl]
   go_loopw [6,26] (fun s i wr=>∃k:Nat,i = .int .i64 k∧k≤p.conds.length∧s = .string ((p.conds.take k).foldl (lineC n) (headX p))∧Below w2.heap.size w2 wr) (fun s i wr=>p.conds.length - (intOf i).toNat)
   case atStart=>exact ⟨0,rfl,Nat.zero_le _,rfl,Below.refl _ _⟩
   case round=>
    obtain ⟨k,rfl,hk,rfl,hb⟩:=hrel
    have HBR:=Lib.hid hb
    have HBW:=Lib.hid (HB.out.trans (hb.mono HB.out.size))
    clear hb
    by_cases hlt:k<p.conds.length
    · have hrw:=H1.out.new_ HBW.out
      obtain ⟨m,hnm⟩ : ∃m,n=m+1:=by
       cases n with
       | zero=>rw [row0 hrw] at hlt;simp at hlt
       | succ m=>exact ⟨m,rfl⟩
      subst hnm
      obtain ⟨g,off,B1,d1,B2,d2,B3,d3,hA0,_,hg,q0,q1_,q2_,q3,q4,q5,q6,hy1,hy2,hy3⟩:=at_CondT hrw hlt
      subst hA0
      obtain ⟨y,hy⟩ : ∃y,y=p.conds[k]:=⟨_,rfl⟩
      obtain ⟨S,hS⟩ : ∃S,S=(p.conds.take k).foldl (lineC (m+1)) (headX p):=⟨_,rfl⟩
      have HN:=Lib.hid (show (p.conds.take (k+1)).foldl (lineC (m+1)) (headX p)=S++(⟨#[32,32]⟩:ByteArray)++condX (m+1) y++(⟨#[10]⟩:ByteArray) by rw [fold_snoc _ hlt,← hS,← hy];rfl)
      have hle:=fold_take (lineC_le (m+1)) hlt (headX p)
      rw [← hS,← hy,← HC.out] at hle
      unfold lineC at hle
      rw [ByteArray.size_append,ByteArray.size_append,ByteArray.size_append] at hle
      have e2:((⟨#[32,32]⟩:ByteArray)).size=2:=rfl
      have e1:((⟨#[10]⟩:ByteArray)).size=1:=rfl
      rw [e2,e1] at hle
      have zc:=zC.out
      have x1 : ¬MAXS<S.size+2:=by unfold MAXS at *;omega
      have x2 : ¬MAXS<S.size+2+(condX (m+1) y).size:=by unfold MAXS at *;omega
      have x3 : ¬MAXS<S.size+2+(condX (m+1) y).size+1:=by unfold MAXS at *;omega
      rw [← hy] at q0 q1_ q2_ q3 q4 q5 q6 hy1 hy2 hy3
      have HZY:=Lib.hid (show (condX (m+1) y).size≤MAXS by unfold MAXS at *;omega)
      have bh:Below wr.heap.size wr (wr.alloc (.cells #[.int .i64 y.kind,.bool y.goal,.string y.id,.slice B1 y.attr.length d1,.slice B2 y.value.length d2,.bool y.acc,.slice B3 y.conds.length d3] 50)):=(Below.refl _ _).alloc (Nat.le_refl _) _
      have HIH:=Lib.hid (scond_is m y B1 d1 B2 d2 B3 d3 D (wr.alloc (.cells #[.int .i64 y.kind,.bool y.goal,.string y.id,.slice B1 y.attr.length d1,.slice B2 y.value.length d2,.bool y.acc,.slice B3 y.conds.length d3] 50)) (hy1.new_ bh) (hy2.new_ bh) (hy3.new_ bh) HZY.out)
      have b1_:(0:Int)≤(k:Int):=by omega
      have b2_:(k:Int)<(p.conds.length:Int):=by omega
      rw [← hS]
      clear hy hS hle hrw hy1 hy2 hy3 e1 e2 zc
      go_wp2_with fail
      refine HIH.out.mono ?_
      rintro e w5 ⟨rfl,hb5⟩
      have HB5:=Lib.hid (HBR.out.trans ((bh.trans (hb5.mono bh.size)).mono HBR.out.size))
      clear hb5 bh q0 q1_ q2_ q3 q4 q5 q6
      go_wp2_with fail
      go_roundw
      case rel=>exact ⟨k+1,by go_num,by omega,by rw [HN.out],HB5.out⟩
      case measure=>simp [intOf]<;>omega
    · obtain rfl:k=p.conds.length:=by omega
      rw [List.take_length,← HC.out]
      have Kb:=Lib.hid (Kb.out.new_ HBR.out)
      obtain ⟨wq,hwq⟩ : ∃wq,wq=wr:=⟨_,rfl⟩
      rw [← hwq] at Kb HBW ⊢
      clear hwq
      obtain ⟨b0,b1,b2⟩:=Kb.out.c3
      have bz:=Kb.out.lt
      go_wp2_with fail
      rw [← HM.out]
      clear b0 b1 b2 bz y3
      have HBQ:=HBW
      go_loopw [6,42] (fun s i wr=>∃k:Nat,i = .int .i64 k∧k≤p.acts.length∧s = .string ((p.acts.take k).foldl lineA (midX n p))∧Below wq.heap.size wq wr) (fun s i wr=>p.acts.length - (intOf i).toNat)
      case atStart=>exact ⟨0,rfl,Nat.zero_le _,rfl,Below.refl _ _⟩
      case round=>
       obtain ⟨i,rfl,hi,rfl,hb⟩:=hrel
       have HBR:=Lib.hid hb
       have HBW:=Lib.hid (HBQ.out.trans (hb.mono HBQ.out.size))
       clear hb
       by_cases hlt:i<p.acts.length
       · skip
         obtain ⟨y,hy⟩ : ∃y,y=p.acts[i]:=⟨_,rfl⟩
         obtain ⟨g,off,hAA,_,hg,_⟩:=at_ActT (H2.out.new_ HBW.out) hlt
         subst hAA
         have HY:=Lib.hid hy
         have b1:(0:Int)≤(i:Int):=by omega
         have b2:(i:Int)<(p.acts.length:Int):=by omega
         have HRG:=Lib.hid (show wr.rangeAt g (off+i*19) [.string y.id,.string y.attr.var,.int .i64 y.attr.sym.kind,.string y.attr.sym.text,.int .i64 y.attr.sym.n,.int .i64 y.value.op,.string y.value.a.var,.int .i64 y.value.a.sym.kind,.string y.value.a.sym.text,.int .i64 y.value.a.sym.n,.string y.value.b.var,.int .i64 y.value.b.sym.kind,.string y.value.b.sym.text,.int .i64 y.value.b.sym.n,.int .i64 y.pref,.string y.other.var,.int .i64 y.other.sym.kind,.string y.other.sym.text,.int .i64 y.other.sym.n] from fun j v hv=>by
          obtain ⟨g',off',cs,e1,_,_,hr,hc⟩:=(H2.out.new_ HBW.out).at_ hlt
          cases e1
          have hr2:cs=ActT.cells p.acts[i]:=hr
          subst hr2
          rw [← HY.out] at hc
          exact hc j v hv)
         have HTH:=Lib.hid (show (wr.alloc (.cells #[.string ⟨#[]⟩,.string ⟨#[]⟩,.int .i64 0,.string ⟨#[]⟩,.int .i64 0,.int .i64 0,.string ⟨#[]⟩,.int .i64 0,.string ⟨#[]⟩,.int .i64 0,.string ⟨#[]⟩,.int .i64 0,.string ⟨#[]⟩,.int .i64 0,.int .i64 0,.string ⟨#[]⟩,.int .i64 0,.string ⟨#[]⟩,.int .i64 0] 58)).there wr.heap.size 0 (#[.string y.id,.string y.attr.var,.int .i64 y.attr.sym.kind,.string y.attr.sym.text,.int .i64 y.attr.sym.n,.int .i64 y.value.op,.string y.value.a.var,.int .i64 y.value.a.sym.kind,.string y.value.a.sym.text,.int .i64 y.value.a.sym.n,.string y.value.b.var,.int .i64 y.value.b.sym.kind,.string y.value.b.sym.text,.int .i64 y.value.b.sym.n,.int .i64 y.pref,.string y.other.var,.int .i64 y.other.sym.kind,.string y.other.sym.text,.int .i64 y.other.sym.n]:Array Value).size from (Blk.new wr 58 #[.string ⟨#[]⟩,.string ⟨#[]⟩,.int .i64 0,.string ⟨#[]⟩,.int .i64 0,.int .i64 0,.string ⟨#[]⟩,.int .i64 0,.string ⟨#[]⟩,.int .i64 0,.string ⟨#[]⟩,.int .i64 0,.string ⟨#[]⟩,.int .i64 0,.int .i64 0,.string ⟨#[]⟩,.int .i64 0,.string ⟨#[]⟩,.int .i64 0]).there)
         obtain ⟨W5,hW5⟩ : ∃W5,W5=(wr.alloc (.cells #[.string ⟨#[]⟩,.string ⟨#[]⟩,.int .i64 0,.string ⟨#[]⟩,.int .i64 0,.int .i64 0,.string ⟨#[]⟩,.int .i64 0,.string ⟨#[]⟩,.int .i64 0,.string ⟨#[]⟩,.int .i64 0,.string ⟨#[]⟩,.int .i64 0,.int .i64 0,.string ⟨#[]⟩,.int .i64 0,.string ⟨#[]⟩,.int .i64 0] 58)).setCells wr.heap.size 0 [.string y.id,.string y.attr.var,.int .i64 y.attr.sym.kind,.string y.attr.sym.text,.int .i64 y.attr.sym.n,.int .i64 y.value.op,.string y.value.a.var,.int .i64 y.value.a.sym.kind,.string y.value.a.sym.text,.int .i64 y.value.a.sym.n,.string y.value.b.var,.int .i64 y.value.b.sym.kind,.string y.value.b.sym.text,.int .i64 y.value.b.sym.n,.int .i64 y.pref,.string y.other.var,.int .i64 y.other.sym.kind,.string y.other.sym.text,.int .i64 y.other.sym.n]:=⟨_,rfl⟩
         have HW5:=Lib.hid hW5
         have HRG5:=Lib.hid (show W5.rangeAt wr.heap.size 0 [.string y.id,.string y.attr.var,.int .i64 y.attr.sym.kind,.string y.attr.sym.text,.int .i64 y.attr.sym.n,.int .i64 y.value.op,.string y.value.a.var,.int .i64 y.value.a.sym.kind,.string y.value.a.sym.text,.int .i64 y.value.a.sym.n,.string y.value.b.var,.int .i64 y.value.b.sym.kind,.string y.value.b.sym.text,.int .i64 y.value.b.sym.n,.int .i64 y.pref,.string y.other.var,.int .i64 y.other.sym.kind,.string y.other.sym.text,.int .i64 y.other.sym.n] by rw [hW5];exact World.rangeAt_setCells_same _ _ _ _ HTH.out)
         have HB5:=Lib.hid (show Below wr.heap.size wr W5 by rw [hW5];exact Below.setCells' _ _ ((Below.refl _ _).alloc (Nat.le_refl _) _) (Nat.le_refl _))
         obtain ⟨S,hS⟩ : ∃S,S=(p.acts.take i).foldl lineA (midX n p):=⟨_,rfl⟩
         have HN:=Lib.hid (show (p.acts.take (i+1)).foldl lineA (midX n p)=S++(⟨#[32,32]⟩:ByteArray)++actX y++(⟨#[10]⟩:ByteArray) by rw [fold_snoc _ hlt,← hS,← hy];rfl)
         have hle:=fold_take lineA_le hlt (midX n p)
         rw [← hS,← hy,← HT.out] at hle
         unfold lineA at hle
         rw [ByteArray.size_append,ByteArray.size_append,ByteArray.size_append] at hle
         have e2:((⟨#[32,32]⟩:ByteArray)).size=2:=rfl
         have e1:((⟨#[10]⟩:ByteArray)).size=1:=rfl
         rw [e2,e1] at hle
         have zc:=zT.out
         have x1 : ¬MAXS<S.size+2:=by unfold MAXS at *;omega
         have x2 : ¬MAXS<S.size+2+(actX y).size:=by unfold MAXS at *;omega
         have x3 : ¬MAXS<S.size+2+(actX y).size+1:=by unfold MAXS at *;omega
         have HZY:=Lib.hid (show (actX y).size≤MAXS by unfold MAXS at *;omega)
         rw [← hS]
         clear hy hS hle hW5 e1 e2 zc
         go_wp2_with (first
          | (with_reducible refine wpList_load_mid rfl 58 _ rfl g (off+i*19) rfl [.string y.id,.string y.attr.var,.int .i64 y.attr.sym.kind,.string y.attr.sym.text,.int .i64 y.attr.sym.n,.int .i64 y.value.op,.string y.value.a.var,.int .i64 y.value.a.sym.kind,.string y.value.a.sym.text,.int .i64 y.value.a.sym.n,.string y.value.b.var,.int .i64 y.value.b.sym.kind,.string y.value.b.sym.text,.int .i64 y.value.b.sym.n,.int .i64 y.pref,.string y.other.var,.int .i64 y.other.sym.kind,.string y.other.sym.text,.int .i64 y.other.sym.n] _ HRG.out Try.underlying58 rfl (by kernel_rfl) ?_)
          | ((with_reducible refine wpList_store_mid rfl 58 _ _ rfl wr.heap.size 0 #[.string y.id,.string y.attr.var,.int .i64 y.attr.sym.kind,.string y.attr.sym.text,.int .i64 y.attr.sym.n,.int .i64 y.value.op,.string y.value.a.var,.int .i64 y.value.a.sym.kind,.string y.value.a.sym.text,.int .i64 y.value.a.sym.n,.string y.value.b.var,.int .i64 y.value.b.sym.kind,.string y.value.b.sym.text,.int .i64 y.value.b.sym.n,.int .i64 y.pref,.string y.other.var,.int .i64 y.other.sym.kind,.string y.other.sym.text,.int .i64 y.other.sym.n] rfl rfl HTH.out (by kernel_rfl) (by kernel_rfl) ?_);rw [← HW5.out])
          | (with_reducible refine wpList_load_mid rfl 58 _ rfl wr.heap.size 0 rfl [.string y.id,.string y.attr.var,.int .i64 y.attr.sym.kind,.string y.attr.sym.text,.int .i64 y.attr.sym.n,.int .i64 y.value.op,.string y.value.a.var,.int .i64 y.value.a.sym.kind,.string y.value.a.sym.text,.int .i64 y.value.a.sym.n,.string y.value.b.var,.int .i64 y.value.b.sym.kind,.string y.value.b.sym.text,.int .i64 y.value.b.sym.n,.int .i64 y.pref,.string y.other.var,.int .i64 y.other.sym.kind,.string y.other.sym.text,.int .i64 y.other.sym.n] _ HRG5.out Try.underlying58 rfl (by kernel_rfl) ?_))
         refine (sact_is y _ HZY.out).mono ?_
         rintro e w9 ⟨rfl,hb9⟩
         have HB9:=Lib.hid (HBR.out.trans ((HB5.out.trans (hb9.mono HB5.out.size)).mono HBR.out.size))
         clear hb9
         go_wp2_with fail
         go_roundw
         case rel=>exact ⟨i+1,by go_num,by omega,by rw [HN.out],HB9.out⟩
         case measure=>simp [intOf]<;>omega
       · obtain rfl:i=p.acts.length:=by omega
         rw [List.take_length,← HT.out]
         go_wp2_with fail
         go_ret2
         exact ⟨by rw [HR.out]<;>rfl,HBW.out⟩
 · skip
   have HR:=Lib.hid (show showX n p=⟨#[]⟩ by unfold showX;rw [if_neg (HQ.out ▸ he)])
   have e1:(q2 != 0)=true:=by simp [he]
   have e2:decide (q2=0)=false:=by simp [he]
   have e3:(q2 == 0)=false:=by simp [he]
   clear hz he
   go_enter Try.func70,Try.ntmps70
   go_upto_region 1 with fail
   obtain ⟨w1,hw1⟩ : ∃w1,w1=(w.alloc (.cells #[.string p.name,.slice A1 p.conds.length c1,.slice A2 p.acts.length c2] 25)):=⟨_,rfl⟩
   rw [← hw1]
   have HB:=Lib.hid (show Below w.heap.size w w1 by rw [hw1];exact (by repeat (first | exact Below.refl _ _ | refine Below.drew ?_ | refine Below.al ?_ _ | refine Below.sc ?_ _)))
   have Kb:=Lib.hid (show Blk w1 (w.heap.size) 25 #[.string p.name,.slice A1 p.conds.length c1,.slice A2 p.acts.length c2] by rw [hw1];exact (Blk.new w 25 #[.string p.name,.slice A1 p.conds.length c1,.slice A2 p.acts.length c2]))
   clear hw1
   obtain ⟨b0,b1,b2⟩:=Kb.out.c3
   have bz:=Kb.out.lt
   go_wp2_with fail
   with_reducible refine (HSH.out _ (by (repeat (first | exact Below.refl _ _ | exact HB.out | refine Below.drew ?_ | refine Below.al ?_ _ | refine Below.sc ?_ _)))).mono ?_
   rintro e w2 ⟨rfl,hb⟩
   have hbs:=Below.trans (show Below w1.heap.size w1 _ from (by (repeat (first | exact Below.refl _ _ | refine Below.drew ?_ | refine Below.al ?_ _ | refine Below.sc ?_ _)))) (hb.mono (by simp<;>omega))
   have Kb:=Lib.hid (Kb.out.new_ hbs)
   have HB:=Lib.hid (HB.out.trans (hbs.mono HB.out.size))
   have hsz2:=hbs.size
   clear b0 b1 b2 bz hb hbs
   obtain ⟨b0,b1,b2⟩:=Kb.out.c3
   have bz:=Kb.out.lt
   go_wp2_with fail
   go_ret2
   exact ⟨by rw [HR.out]<;>rfl,HB.out⟩
end Go.Proofs.Ytffemfglngikbaa
