/-
  Texts put together: Shape2.
-/
import Derived.Test.YtldndkngpdfpfaaGreatPWm
import Derived.Test.YtldndkngpdfpfaaGreatPWg
namespace Go.Proofs.YtldndkngpdfpfaaGreat
open Go.RowKit Go.Shelf
set_option maxRecDepth 100000 in
set_option maxHeartbeats 8000000 in
theorem act_is (a:ActT) (w:World):Calls Tryz.prog 159 #[.agg #[.string a.id,.string a.attr.var,.int .i64 a.attr.sym.kind,.string a.attr.sym.text,.int .i64 a.attr.sym.n,.int .i64 a.value.op,.string a.value.a.var,.int .i64 a.value.a.sym.kind,.string a.value.a.sym.text,.int .i64 a.value.a.sym.n,.string a.value.b.var,.int .i64 a.value.b.sym.kind,.string a.value.b.sym.text,.int .i64 a.value.b.sym.n,.int .i64 a.pref,.string a.other.var,.int .i64 a.other.sym.kind,.string a.other.sym.text,.int .i64 a.other.sym.n]] w fun e w'=>e = .returned (.bool (actB a))∧Below w.heap.size w w':=by
 by_cases c0:isWord a.id=false
 · have t0:=c0
   have HR:=Lib.hid (show actB a=false by simp [actB, *])
   clear c0
   go_enter Tryz.func159,Tryz.ntmps159
   go_upto_region 1 with fail
   obtain ⟨W1,hW1⟩ : ∃W1,W1=w.alloc (.cells #[.string a.id,.string a.attr.var,.int .i64 a.attr.sym.kind,.string a.attr.sym.text,.int .i64 a.attr.sym.n,.int .i64 a.value.op,.string a.value.a.var,.int .i64 a.value.a.sym.kind,.string a.value.a.sym.text,.int .i64 a.value.a.sym.n,.string a.value.b.var,.int .i64 a.value.b.sym.kind,.string a.value.b.sym.text,.int .i64 a.value.b.sym.n,.int .i64 a.pref,.string a.other.var,.int .i64 a.other.sym.kind,.string a.other.sym.text,.int .i64 a.other.sym.n] 80):=⟨_,rfl⟩
   rw [← hW1]
   have hBk:Blk W1 w.heap.size 80 #[.string a.id,.string a.attr.var,.int .i64 a.attr.sym.kind,.string a.attr.sym.text,.int .i64 a.attr.sym.n,.int .i64 a.value.op,.string a.value.a.var,.int .i64 a.value.a.sym.kind,.string a.value.a.sym.text,.int .i64 a.value.a.sym.n,.string a.value.b.var,.int .i64 a.value.b.sym.kind,.string a.value.b.sym.text,.int .i64 a.value.b.sym.n,.int .i64 a.pref,.string a.other.var,.int .i64 a.other.sym.kind,.string a.other.sym.text,.int .i64 a.other.sym.n]:=by rw [hW1];exact Blk.new _ _ _
   have HB:=Lib.hid (show Below w.heap.size w W1 by rw [hW1];exact (Below.refl _ _).alloc (Nat.le_refl _) _)
   have e0:W1.cell? ⟨w.heap.size,0,none⟩=some (.string a.id):=(hBk.cell 0).trans rfl
   have e1:W1.cell? ⟨w.heap.size,1,none⟩=some (.string a.attr.var):=(hBk.cell 1).trans rfl
   have e2:W1.cell? ⟨w.heap.size,2,none⟩=some (.int .i64 a.attr.sym.kind):=(hBk.cell 2).trans rfl
   have e3:W1.cell? ⟨w.heap.size,3,none⟩=some (.string a.attr.sym.text):=(hBk.cell 3).trans rfl
   have e4:W1.cell? ⟨w.heap.size,4,none⟩=some (.int .i64 a.attr.sym.n):=(hBk.cell 4).trans rfl
   have e5:W1.cell? ⟨w.heap.size,5,none⟩=some (.int .i64 a.value.op):=(hBk.cell 5).trans rfl
   have e6:W1.cell? ⟨w.heap.size,6,none⟩=some (.string a.value.a.var):=(hBk.cell 6).trans rfl
   have e7:W1.cell? ⟨w.heap.size,7,none⟩=some (.int .i64 a.value.a.sym.kind):=(hBk.cell 7).trans rfl
   have e8:W1.cell? ⟨w.heap.size,8,none⟩=some (.string a.value.a.sym.text):=(hBk.cell 8).trans rfl
   have e9:W1.cell? ⟨w.heap.size,9,none⟩=some (.int .i64 a.value.a.sym.n):=(hBk.cell 9).trans rfl
   have e10:W1.cell? ⟨w.heap.size,10,none⟩=some (.string a.value.b.var):=(hBk.cell 10).trans rfl
   have e11:W1.cell? ⟨w.heap.size,11,none⟩=some (.int .i64 a.value.b.sym.kind):=(hBk.cell 11).trans rfl
   have e12:W1.cell? ⟨w.heap.size,12,none⟩=some (.string a.value.b.sym.text):=(hBk.cell 12).trans rfl
   have e13:W1.cell? ⟨w.heap.size,13,none⟩=some (.int .i64 a.value.b.sym.n):=(hBk.cell 13).trans rfl
   have e14:W1.cell? ⟨w.heap.size,14,none⟩=some (.int .i64 a.pref):=(hBk.cell 14).trans rfl
   have e15:W1.cell? ⟨w.heap.size,15,none⟩=some (.string a.other.var):=(hBk.cell 15).trans rfl
   have e16:W1.cell? ⟨w.heap.size,16,none⟩=some (.int .i64 a.other.sym.kind):=(hBk.cell 16).trans rfl
   have e17:W1.cell? ⟨w.heap.size,17,none⟩=some (.string a.other.sym.text):=(hBk.cell 17).trans rfl
   have e18:W1.cell? ⟨w.heap.size,18,none⟩=some (.int .i64 a.other.sym.n):=(hBk.cell 18).trans rfl
   have hbl:=hBk.lt
   clear hW1 hBk
   go_wp2_with (first
    | (go_at_call 154;refine (word_is a.id _).mono ?_;rintro e w9 ⟨rfl,rfl⟩)
    | (go_at_call 194;(first | (with_reducible refine (atomS_is a.attr _).mono ?_) | (with_reducible refine (atomS_is a.other _).mono ?_));rintro e w9 ⟨rfl,hb9⟩;have HB:=Lib.hid (HB.out.trans (hb9.mono HB.out.size));replace e0:=(hb9.cell (p:=⟨w.heap.size,0,none⟩) hbl).trans e0;replace e1:=(hb9.cell (p:=⟨w.heap.size,1,none⟩) hbl).trans e1;replace e2:=(hb9.cell (p:=⟨w.heap.size,2,none⟩) hbl).trans e2;replace e3:=(hb9.cell (p:=⟨w.heap.size,3,none⟩) hbl).trans e3;replace e4:=(hb9.cell (p:=⟨w.heap.size,4,none⟩) hbl).trans e4;replace e5:=(hb9.cell (p:=⟨w.heap.size,5,none⟩) hbl).trans e5;replace e6:=(hb9.cell (p:=⟨w.heap.size,6,none⟩) hbl).trans e6;replace e7:=(hb9.cell (p:=⟨w.heap.size,7,none⟩) hbl).trans e7;replace e8:=(hb9.cell (p:=⟨w.heap.size,8,none⟩) hbl).trans e8;replace e9:=(hb9.cell (p:=⟨w.heap.size,9,none⟩) hbl).trans e9;replace e10:=(hb9.cell (p:=⟨w.heap.size,10,none⟩) hbl).trans e10;replace e11:=(hb9.cell (p:=⟨w.heap.size,11,none⟩) hbl).trans e11;replace e12:=(hb9.cell (p:=⟨w.heap.size,12,none⟩) hbl).trans e12;replace e13:=(hb9.cell (p:=⟨w.heap.size,13,none⟩) hbl).trans e13;replace e14:=(hb9.cell (p:=⟨w.heap.size,14,none⟩) hbl).trans e14;replace e15:=(hb9.cell (p:=⟨w.heap.size,15,none⟩) hbl).trans e15;replace e16:=(hb9.cell (p:=⟨w.heap.size,16,none⟩) hbl).trans e16;replace e17:=(hb9.cell (p:=⟨w.heap.size,17,none⟩) hbl).trans e17;replace e18:=(hb9.cell (p:=⟨w.heap.size,18,none⟩) hbl).trans e18;replace hbl:=Nat.lt_of_lt_of_le hbl hb9.size;clear hb9)
    | (go_at_call 195;refine (term_is a.value _).mono ?_;rintro e w9 ⟨rfl,hb9⟩;have HB:=Lib.hid (HB.out.trans (hb9.mono HB.out.size));replace e0:=(hb9.cell (p:=⟨w.heap.size,0,none⟩) hbl).trans e0;replace e1:=(hb9.cell (p:=⟨w.heap.size,1,none⟩) hbl).trans e1;replace e2:=(hb9.cell (p:=⟨w.heap.size,2,none⟩) hbl).trans e2;replace e3:=(hb9.cell (p:=⟨w.heap.size,3,none⟩) hbl).trans e3;replace e4:=(hb9.cell (p:=⟨w.heap.size,4,none⟩) hbl).trans e4;replace e5:=(hb9.cell (p:=⟨w.heap.size,5,none⟩) hbl).trans e5;replace e6:=(hb9.cell (p:=⟨w.heap.size,6,none⟩) hbl).trans e6;replace e7:=(hb9.cell (p:=⟨w.heap.size,7,none⟩) hbl).trans e7;replace e8:=(hb9.cell (p:=⟨w.heap.size,8,none⟩) hbl).trans e8;replace e9:=(hb9.cell (p:=⟨w.heap.size,9,none⟩) hbl).trans e9;replace e10:=(hb9.cell (p:=⟨w.heap.size,10,none⟩) hbl).trans e10;replace e11:=(hb9.cell (p:=⟨w.heap.size,11,none⟩) hbl).trans e11;replace e12:=(hb9.cell (p:=⟨w.heap.size,12,none⟩) hbl).trans e12;replace e13:=(hb9.cell (p:=⟨w.heap.size,13,none⟩) hbl).trans e13;replace e14:=(hb9.cell (p:=⟨w.heap.size,14,none⟩) hbl).trans e14;replace e15:=(hb9.cell (p:=⟨w.heap.size,15,none⟩) hbl).trans e15;replace e16:=(hb9.cell (p:=⟨w.heap.size,16,none⟩) hbl).trans e16;replace e17:=(hb9.cell (p:=⟨w.heap.size,17,none⟩) hbl).trans e17;replace e18:=(hb9.cell (p:=⟨w.heap.size,18,none⟩) hbl).trans e18;replace hbl:=Nat.lt_of_lt_of_le hbl hb9.size;clear hb9)
    | (go_at_call 196;refine (other_is a.pref _).mono ?_;rintro e w9 ⟨rfl,rfl⟩)
    | (go_at_call 197;refine (empty_is a.other _).mono ?_;rintro e w9 ⟨rfl,hb9⟩;have HB:=Lib.hid (HB.out.trans (hb9.mono HB.out.size));replace e0:=(hb9.cell (p:=⟨w.heap.size,0,none⟩) hbl).trans e0;replace e1:=(hb9.cell (p:=⟨w.heap.size,1,none⟩) hbl).trans e1;replace e2:=(hb9.cell (p:=⟨w.heap.size,2,none⟩) hbl).trans e2;replace e3:=(hb9.cell (p:=⟨w.heap.size,3,none⟩) hbl).trans e3;replace e4:=(hb9.cell (p:=⟨w.heap.size,4,none⟩) hbl).trans e4;replace e5:=(hb9.cell (p:=⟨w.heap.size,5,none⟩) hbl).trans e5;replace e6:=(hb9.cell (p:=⟨w.heap.size,6,none⟩) hbl).trans e6;replace e7:=(hb9.cell (p:=⟨w.heap.size,7,none⟩) hbl).trans e7;replace e8:=(hb9.cell (p:=⟨w.heap.size,8,none⟩) hbl).trans e8;replace e9:=(hb9.cell (p:=⟨w.heap.size,9,none⟩) hbl).trans e9;replace e10:=(hb9.cell (p:=⟨w.heap.size,10,none⟩) hbl).trans e10;replace e11:=(hb9.cell (p:=⟨w.heap.size,11,none⟩) hbl).trans e11;replace e12:=(hb9.cell (p:=⟨w.heap.size,12,none⟩) hbl).trans e12;replace e13:=(hb9.cell (p:=⟨w.heap.size,13,none⟩) hbl).trans e13;replace e14:=(hb9.cell (p:=⟨w.heap.size,14,none⟩) hbl).trans e14;replace e15:=(hb9.cell (p:=⟨w.heap.size,15,none⟩) hbl).trans e15;replace e16:=(hb9.cell (p:=⟨w.heap.size,16,none⟩) hbl).trans e16;replace e17:=(hb9.cell (p:=⟨w.heap.size,17,none⟩) hbl).trans e17;replace e18:=(hb9.cell (p:=⟨w.heap.size,18,none⟩) hbl).trans e18;replace hbl:=Nat.lt_of_lt_of_le hbl hb9.size;clear hb9))
   go_ret
   exact ⟨by rw [HR.out]<;>rfl,by (first | exact HB.out | (exact (Below.refl _ _).alloc (Nat.le_refl _) _) | (simpa using HB.out))⟩
 by_cases c1:atomB a.attr=false
 · have t0:isWord a.id=true:=by simpa using c0
   have t1:=c1
   have HR:=Lib.hid (show actB a=false by simp [actB, *])
   clear c0 c1
   go_enter Tryz.func159,Tryz.ntmps159
   go_upto_region 1 with fail
   obtain ⟨W1,hW1⟩ : ∃W1,W1=w.alloc (.cells #[.string a.id,.string a.attr.var,.int .i64 a.attr.sym.kind,.string a.attr.sym.text,.int .i64 a.attr.sym.n,.int .i64 a.value.op,.string a.value.a.var,.int .i64 a.value.a.sym.kind,.string a.value.a.sym.text,.int .i64 a.value.a.sym.n,.string a.value.b.var,.int .i64 a.value.b.sym.kind,.string a.value.b.sym.text,.int .i64 a.value.b.sym.n,.int .i64 a.pref,.string a.other.var,.int .i64 a.other.sym.kind,.string a.other.sym.text,.int .i64 a.other.sym.n] 80):=⟨_,rfl⟩
   rw [← hW1]
   have hBk:Blk W1 w.heap.size 80 #[.string a.id,.string a.attr.var,.int .i64 a.attr.sym.kind,.string a.attr.sym.text,.int .i64 a.attr.sym.n,.int .i64 a.value.op,.string a.value.a.var,.int .i64 a.value.a.sym.kind,.string a.value.a.sym.text,.int .i64 a.value.a.sym.n,.string a.value.b.var,.int .i64 a.value.b.sym.kind,.string a.value.b.sym.text,.int .i64 a.value.b.sym.n,.int .i64 a.pref,.string a.other.var,.int .i64 a.other.sym.kind,.string a.other.sym.text,.int .i64 a.other.sym.n]:=by rw [hW1];exact Blk.new _ _ _
   have HB:=Lib.hid (show Below w.heap.size w W1 by rw [hW1];exact (Below.refl _ _).alloc (Nat.le_refl _) _)
   have e0:W1.cell? ⟨w.heap.size,0,none⟩=some (.string a.id):=(hBk.cell 0).trans rfl
   have e1:W1.cell? ⟨w.heap.size,1,none⟩=some (.string a.attr.var):=(hBk.cell 1).trans rfl
   have e2:W1.cell? ⟨w.heap.size,2,none⟩=some (.int .i64 a.attr.sym.kind):=(hBk.cell 2).trans rfl
   have e3:W1.cell? ⟨w.heap.size,3,none⟩=some (.string a.attr.sym.text):=(hBk.cell 3).trans rfl
   have e4:W1.cell? ⟨w.heap.size,4,none⟩=some (.int .i64 a.attr.sym.n):=(hBk.cell 4).trans rfl
   have e5:W1.cell? ⟨w.heap.size,5,none⟩=some (.int .i64 a.value.op):=(hBk.cell 5).trans rfl
   have e6:W1.cell? ⟨w.heap.size,6,none⟩=some (.string a.value.a.var):=(hBk.cell 6).trans rfl
   have e7:W1.cell? ⟨w.heap.size,7,none⟩=some (.int .i64 a.value.a.sym.kind):=(hBk.cell 7).trans rfl
   have e8:W1.cell? ⟨w.heap.size,8,none⟩=some (.string a.value.a.sym.text):=(hBk.cell 8).trans rfl
   have e9:W1.cell? ⟨w.heap.size,9,none⟩=some (.int .i64 a.value.a.sym.n):=(hBk.cell 9).trans rfl
   have e10:W1.cell? ⟨w.heap.size,10,none⟩=some (.string a.value.b.var):=(hBk.cell 10).trans rfl
   have e11:W1.cell? ⟨w.heap.size,11,none⟩=some (.int .i64 a.value.b.sym.kind):=(hBk.cell 11).trans rfl
   have e12:W1.cell? ⟨w.heap.size,12,none⟩=some (.string a.value.b.sym.text):=(hBk.cell 12).trans rfl
   have e13:W1.cell? ⟨w.heap.size,13,none⟩=some (.int .i64 a.value.b.sym.n):=(hBk.cell 13).trans rfl
   have e14:W1.cell? ⟨w.heap.size,14,none⟩=some (.int .i64 a.pref):=(hBk.cell 14).trans rfl
   have e15:W1.cell? ⟨w.heap.size,15,none⟩=some (.string a.other.var):=(hBk.cell 15).trans rfl
   have e16:W1.cell? ⟨w.heap.size,16,none⟩=some (.int .i64 a.other.sym.kind):=(hBk.cell 16).trans rfl
   have e17:W1.cell? ⟨w.heap.size,17,none⟩=some (.string a.other.sym.text):=(hBk.cell 17).trans rfl
   have e18:W1.cell? ⟨w.heap.size,18,none⟩=some (.int .i64 a.other.sym.n):=(hBk.cell 18).trans rfl
   have hbl:=hBk.lt
   clear hW1 hBk
   go_wp2_with (first
    | (go_at_call 154;refine (word_is a.id _).mono ?_;rintro e w9 ⟨rfl,rfl⟩)
    | (go_at_call 194;(first | (with_reducible refine (atomS_is a.attr _).mono ?_) | (with_reducible refine (atomS_is a.other _).mono ?_));rintro e w9 ⟨rfl,hb9⟩;have HB:=Lib.hid (HB.out.trans (hb9.mono HB.out.size));replace e0:=(hb9.cell (p:=⟨w.heap.size,0,none⟩) hbl).trans e0;replace e1:=(hb9.cell (p:=⟨w.heap.size,1,none⟩) hbl).trans e1;replace e2:=(hb9.cell (p:=⟨w.heap.size,2,none⟩) hbl).trans e2;replace e3:=(hb9.cell (p:=⟨w.heap.size,3,none⟩) hbl).trans e3;replace e4:=(hb9.cell (p:=⟨w.heap.size,4,none⟩) hbl).trans e4;replace e5:=(hb9.cell (p:=⟨w.heap.size,5,none⟩) hbl).trans e5;replace e6:=(hb9.cell (p:=⟨w.heap.size,6,none⟩) hbl).trans e6;replace e7:=(hb9.cell (p:=⟨w.heap.size,7,none⟩) hbl).trans e7;replace e8:=(hb9.cell (p:=⟨w.heap.size,8,none⟩) hbl).trans e8;replace e9:=(hb9.cell (p:=⟨w.heap.size,9,none⟩) hbl).trans e9;replace e10:=(hb9.cell (p:=⟨w.heap.size,10,none⟩) hbl).trans e10;replace e11:=(hb9.cell (p:=⟨w.heap.size,11,none⟩) hbl).trans e11;replace e12:=(hb9.cell (p:=⟨w.heap.size,12,none⟩) hbl).trans e12;replace e13:=(hb9.cell (p:=⟨w.heap.size,13,none⟩) hbl).trans e13;replace e14:=(hb9.cell (p:=⟨w.heap.size,14,none⟩) hbl).trans e14;replace e15:=(hb9.cell (p:=⟨w.heap.size,15,none⟩) hbl).trans e15;replace e16:=(hb9.cell (p:=⟨w.heap.size,16,none⟩) hbl).trans e16;replace e17:=(hb9.cell (p:=⟨w.heap.size,17,none⟩) hbl).trans e17;replace e18:=(hb9.cell (p:=⟨w.heap.size,18,none⟩) hbl).trans e18;replace hbl:=Nat.lt_of_lt_of_le hbl hb9.size;clear hb9)
    | (go_at_call 195;refine (term_is a.value _).mono ?_;rintro e w9 ⟨rfl,hb9⟩;have HB:=Lib.hid (HB.out.trans (hb9.mono HB.out.size));replace e0:=(hb9.cell (p:=⟨w.heap.size,0,none⟩) hbl).trans e0;replace e1:=(hb9.cell (p:=⟨w.heap.size,1,none⟩) hbl).trans e1;replace e2:=(hb9.cell (p:=⟨w.heap.size,2,none⟩) hbl).trans e2;replace e3:=(hb9.cell (p:=⟨w.heap.size,3,none⟩) hbl).trans e3;replace e4:=(hb9.cell (p:=⟨w.heap.size,4,none⟩) hbl).trans e4;replace e5:=(hb9.cell (p:=⟨w.heap.size,5,none⟩) hbl).trans e5;replace e6:=(hb9.cell (p:=⟨w.heap.size,6,none⟩) hbl).trans e6;replace e7:=(hb9.cell (p:=⟨w.heap.size,7,none⟩) hbl).trans e7;replace e8:=(hb9.cell (p:=⟨w.heap.size,8,none⟩) hbl).trans e8;replace e9:=(hb9.cell (p:=⟨w.heap.size,9,none⟩) hbl).trans e9;replace e10:=(hb9.cell (p:=⟨w.heap.size,10,none⟩) hbl).trans e10;replace e11:=(hb9.cell (p:=⟨w.heap.size,11,none⟩) hbl).trans e11;replace e12:=(hb9.cell (p:=⟨w.heap.size,12,none⟩) hbl).trans e12;replace e13:=(hb9.cell (p:=⟨w.heap.size,13,none⟩) hbl).trans e13;replace e14:=(hb9.cell (p:=⟨w.heap.size,14,none⟩) hbl).trans e14;replace e15:=(hb9.cell (p:=⟨w.heap.size,15,none⟩) hbl).trans e15;replace e16:=(hb9.cell (p:=⟨w.heap.size,16,none⟩) hbl).trans e16;replace e17:=(hb9.cell (p:=⟨w.heap.size,17,none⟩) hbl).trans e17;replace e18:=(hb9.cell (p:=⟨w.heap.size,18,none⟩) hbl).trans e18;replace hbl:=Nat.lt_of_lt_of_le hbl hb9.size;clear hb9)
    | (go_at_call 196;refine (other_is a.pref _).mono ?_;rintro e w9 ⟨rfl,rfl⟩)
    | (go_at_call 197;refine (empty_is a.other _).mono ?_;rintro e w9 ⟨rfl,hb9⟩;have HB:=Lib.hid (HB.out.trans (hb9.mono HB.out.size));replace e0:=(hb9.cell (p:=⟨w.heap.size,0,none⟩) hbl).trans e0;replace e1:=(hb9.cell (p:=⟨w.heap.size,1,none⟩) hbl).trans e1;replace e2:=(hb9.cell (p:=⟨w.heap.size,2,none⟩) hbl).trans e2;replace e3:=(hb9.cell (p:=⟨w.heap.size,3,none⟩) hbl).trans e3;replace e4:=(hb9.cell (p:=⟨w.heap.size,4,none⟩) hbl).trans e4;replace e5:=(hb9.cell (p:=⟨w.heap.size,5,none⟩) hbl).trans e5;replace e6:=(hb9.cell (p:=⟨w.heap.size,6,none⟩) hbl).trans e6;replace e7:=(hb9.cell (p:=⟨w.heap.size,7,none⟩) hbl).trans e7;replace e8:=(hb9.cell (p:=⟨w.heap.size,8,none⟩) hbl).trans e8;replace e9:=(hb9.cell (p:=⟨w.heap.size,9,none⟩) hbl).trans e9;replace e10:=(hb9.cell (p:=⟨w.heap.size,10,none⟩) hbl).trans e10;replace e11:=(hb9.cell (p:=⟨w.heap.size,11,none⟩) hbl).trans e11;replace e12:=(hb9.cell (p:=⟨w.heap.size,12,none⟩) hbl).trans e12;replace e13:=(hb9.cell (p:=⟨w.heap.size,13,none⟩) hbl).trans e13;replace e14:=(hb9.cell (p:=⟨w.heap.size,14,none⟩) hbl).trans e14;replace e15:=(hb9.cell (p:=⟨w.heap.size,15,none⟩) hbl).trans e15;replace e16:=(hb9.cell (p:=⟨w.heap.size,16,none⟩) hbl).trans e16;replace e17:=(hb9.cell (p:=⟨w.heap.size,17,none⟩) hbl).trans e17;replace e18:=(hb9.cell (p:=⟨w.heap.size,18,none⟩) hbl).trans e18;replace hbl:=Nat.lt_of_lt_of_le hbl hb9.size;clear hb9))
   go_ret
   exact ⟨by rw [HR.out]<;>rfl,by (first | exact HB.out | (exact (Below.refl _ _).alloc (Nat.le_refl _) _) | (simpa using HB.out))⟩
 by_cases c2:termB a.value=false
 · have t0:isWord a.id=true:=by simpa using c0
   have t1:atomB a.attr=true:=by simpa using c1
   have t2:=c2
   have HR:=Lib.hid (show actB a=false by simp [actB, *])
   clear c0 c1 c2
   go_enter Tryz.func159,Tryz.ntmps159
   go_upto_region 1 with fail
   obtain ⟨W1,hW1⟩ : ∃W1,W1=w.alloc (.cells #[.string a.id,.string a.attr.var,.int .i64 a.attr.sym.kind,.string a.attr.sym.text,.int .i64 a.attr.sym.n,.int .i64 a.value.op,.string a.value.a.var,.int .i64 a.value.a.sym.kind,.string a.value.a.sym.text,.int .i64 a.value.a.sym.n,.string a.value.b.var,.int .i64 a.value.b.sym.kind,.string a.value.b.sym.text,.int .i64 a.value.b.sym.n,.int .i64 a.pref,.string a.other.var,.int .i64 a.other.sym.kind,.string a.other.sym.text,.int .i64 a.other.sym.n] 80):=⟨_,rfl⟩
   rw [← hW1]
   have hBk:Blk W1 w.heap.size 80 #[.string a.id,.string a.attr.var,.int .i64 a.attr.sym.kind,.string a.attr.sym.text,.int .i64 a.attr.sym.n,.int .i64 a.value.op,.string a.value.a.var,.int .i64 a.value.a.sym.kind,.string a.value.a.sym.text,.int .i64 a.value.a.sym.n,.string a.value.b.var,.int .i64 a.value.b.sym.kind,.string a.value.b.sym.text,.int .i64 a.value.b.sym.n,.int .i64 a.pref,.string a.other.var,.int .i64 a.other.sym.kind,.string a.other.sym.text,.int .i64 a.other.sym.n]:=by rw [hW1];exact Blk.new _ _ _
   have HB:=Lib.hid (show Below w.heap.size w W1 by rw [hW1];exact (Below.refl _ _).alloc (Nat.le_refl _) _)
   have e0:W1.cell? ⟨w.heap.size,0,none⟩=some (.string a.id):=(hBk.cell 0).trans rfl
   have e1:W1.cell? ⟨w.heap.size,1,none⟩=some (.string a.attr.var):=(hBk.cell 1).trans rfl
   have e2:W1.cell? ⟨w.heap.size,2,none⟩=some (.int .i64 a.attr.sym.kind):=(hBk.cell 2).trans rfl
   have e3:W1.cell? ⟨w.heap.size,3,none⟩=some (.string a.attr.sym.text):=(hBk.cell 3).trans rfl
   have e4:W1.cell? ⟨w.heap.size,4,none⟩=some (.int .i64 a.attr.sym.n):=(hBk.cell 4).trans rfl
   have e5:W1.cell? ⟨w.heap.size,5,none⟩=some (.int .i64 a.value.op):=(hBk.cell 5).trans rfl
   have e6:W1.cell? ⟨w.heap.size,6,none⟩=some (.string a.value.a.var):=(hBk.cell 6).trans rfl
   have e7:W1.cell? ⟨w.heap.size,7,none⟩=some (.int .i64 a.value.a.sym.kind):=(hBk.cell 7).trans rfl
   have e8:W1.cell? ⟨w.heap.size,8,none⟩=some (.string a.value.a.sym.text):=(hBk.cell 8).trans rfl
   have e9:W1.cell? ⟨w.heap.size,9,none⟩=some (.int .i64 a.value.a.sym.n):=(hBk.cell 9).trans rfl
   have e10:W1.cell? ⟨w.heap.size,10,none⟩=some (.string a.value.b.var):=(hBk.cell 10).trans rfl
   have e11:W1.cell? ⟨w.heap.size,11,none⟩=some (.int .i64 a.value.b.sym.kind):=(hBk.cell 11).trans rfl
   have e12:W1.cell? ⟨w.heap.size,12,none⟩=some (.string a.value.b.sym.text):=(hBk.cell 12).trans rfl
   have e13:W1.cell? ⟨w.heap.size,13,none⟩=some (.int .i64 a.value.b.sym.n):=(hBk.cell 13).trans rfl
   have e14:W1.cell? ⟨w.heap.size,14,none⟩=some (.int .i64 a.pref):=(hBk.cell 14).trans rfl
   have e15:W1.cell? ⟨w.heap.size,15,none⟩=some (.string a.other.var):=(hBk.cell 15).trans rfl
   have e16:W1.cell? ⟨w.heap.size,16,none⟩=some (.int .i64 a.other.sym.kind):=(hBk.cell 16).trans rfl
   have e17:W1.cell? ⟨w.heap.size,17,none⟩=some (.string a.other.sym.text):=(hBk.cell 17).trans rfl
   have e18:W1.cell? ⟨w.heap.size,18,none⟩=some (.int .i64 a.other.sym.n):=(hBk.cell 18).trans rfl
   have hbl:=hBk.lt
   clear hW1 hBk
   go_wp2_with (first
    | (go_at_call 154;refine (word_is a.id _).mono ?_;rintro e w9 ⟨rfl,rfl⟩)
    | (go_at_call 194;(first | (with_reducible refine (atomS_is a.attr _).mono ?_) | (with_reducible refine (atomS_is a.other _).mono ?_));rintro e w9 ⟨rfl,hb9⟩;have HB:=Lib.hid (HB.out.trans (hb9.mono HB.out.size));replace e0:=(hb9.cell (p:=⟨w.heap.size,0,none⟩) hbl).trans e0;replace e1:=(hb9.cell (p:=⟨w.heap.size,1,none⟩) hbl).trans e1;replace e2:=(hb9.cell (p:=⟨w.heap.size,2,none⟩) hbl).trans e2;replace e3:=(hb9.cell (p:=⟨w.heap.size,3,none⟩) hbl).trans e3;replace e4:=(hb9.cell (p:=⟨w.heap.size,4,none⟩) hbl).trans e4;replace e5:=(hb9.cell (p:=⟨w.heap.size,5,none⟩) hbl).trans e5;replace e6:=(hb9.cell (p:=⟨w.heap.size,6,none⟩) hbl).trans e6;replace e7:=(hb9.cell (p:=⟨w.heap.size,7,none⟩) hbl).trans e7;replace e8:=(hb9.cell (p:=⟨w.heap.size,8,none⟩) hbl).trans e8;replace e9:=(hb9.cell (p:=⟨w.heap.size,9,none⟩) hbl).trans e9;replace e10:=(hb9.cell (p:=⟨w.heap.size,10,none⟩) hbl).trans e10;replace e11:=(hb9.cell (p:=⟨w.heap.size,11,none⟩) hbl).trans e11;replace e12:=(hb9.cell (p:=⟨w.heap.size,12,none⟩) hbl).trans e12;replace e13:=(hb9.cell (p:=⟨w.heap.size,13,none⟩) hbl).trans e13;replace e14:=(hb9.cell (p:=⟨w.heap.size,14,none⟩) hbl).trans e14;replace e15:=(hb9.cell (p:=⟨w.heap.size,15,none⟩) hbl).trans e15;replace e16:=(hb9.cell (p:=⟨w.heap.size,16,none⟩) hbl).trans e16;replace e17:=(hb9.cell (p:=⟨w.heap.size,17,none⟩) hbl).trans e17;replace e18:=(hb9.cell (p:=⟨w.heap.size,18,none⟩) hbl).trans e18;replace hbl:=Nat.lt_of_lt_of_le hbl hb9.size;clear hb9)
    | (go_at_call 195;refine (term_is a.value _).mono ?_;rintro e w9 ⟨rfl,hb9⟩;have HB:=Lib.hid (HB.out.trans (hb9.mono HB.out.size));replace e0:=(hb9.cell (p:=⟨w.heap.size,0,none⟩) hbl).trans e0;replace e1:=(hb9.cell (p:=⟨w.heap.size,1,none⟩) hbl).trans e1;replace e2:=(hb9.cell (p:=⟨w.heap.size,2,none⟩) hbl).trans e2;replace e3:=(hb9.cell (p:=⟨w.heap.size,3,none⟩) hbl).trans e3;replace e4:=(hb9.cell (p:=⟨w.heap.size,4,none⟩) hbl).trans e4;replace e5:=(hb9.cell (p:=⟨w.heap.size,5,none⟩) hbl).trans e5;replace e6:=(hb9.cell (p:=⟨w.heap.size,6,none⟩) hbl).trans e6;replace e7:=(hb9.cell (p:=⟨w.heap.size,7,none⟩) hbl).trans e7;replace e8:=(hb9.cell (p:=⟨w.heap.size,8,none⟩) hbl).trans e8;replace e9:=(hb9.cell (p:=⟨w.heap.size,9,none⟩) hbl).trans e9;replace e10:=(hb9.cell (p:=⟨w.heap.size,10,none⟩) hbl).trans e10;replace e11:=(hb9.cell (p:=⟨w.heap.size,11,none⟩) hbl).trans e11;replace e12:=(hb9.cell (p:=⟨w.heap.size,12,none⟩) hbl).trans e12;replace e13:=(hb9.cell (p:=⟨w.heap.size,13,none⟩) hbl).trans e13;replace e14:=(hb9.cell (p:=⟨w.heap.size,14,none⟩) hbl).trans e14;replace e15:=(hb9.cell (p:=⟨w.heap.size,15,none⟩) hbl).trans e15;replace e16:=(hb9.cell (p:=⟨w.heap.size,16,none⟩) hbl).trans e16;replace e17:=(hb9.cell (p:=⟨w.heap.size,17,none⟩) hbl).trans e17;replace e18:=(hb9.cell (p:=⟨w.heap.size,18,none⟩) hbl).trans e18;replace hbl:=Nat.lt_of_lt_of_le hbl hb9.size;clear hb9)
    | (go_at_call 196;refine (other_is a.pref _).mono ?_;rintro e w9 ⟨rfl,rfl⟩)
    | (go_at_call 197;refine (empty_is a.other _).mono ?_;rintro e w9 ⟨rfl,hb9⟩;have HB:=Lib.hid (HB.out.trans (hb9.mono HB.out.size));replace e0:=(hb9.cell (p:=⟨w.heap.size,0,none⟩) hbl).trans e0;replace e1:=(hb9.cell (p:=⟨w.heap.size,1,none⟩) hbl).trans e1;replace e2:=(hb9.cell (p:=⟨w.heap.size,2,none⟩) hbl).trans e2;replace e3:=(hb9.cell (p:=⟨w.heap.size,3,none⟩) hbl).trans e3;replace e4:=(hb9.cell (p:=⟨w.heap.size,4,none⟩) hbl).trans e4;replace e5:=(hb9.cell (p:=⟨w.heap.size,5,none⟩) hbl).trans e5;replace e6:=(hb9.cell (p:=⟨w.heap.size,6,none⟩) hbl).trans e6;replace e7:=(hb9.cell (p:=⟨w.heap.size,7,none⟩) hbl).trans e7;replace e8:=(hb9.cell (p:=⟨w.heap.size,8,none⟩) hbl).trans e8;replace e9:=(hb9.cell (p:=⟨w.heap.size,9,none⟩) hbl).trans e9;replace e10:=(hb9.cell (p:=⟨w.heap.size,10,none⟩) hbl).trans e10;replace e11:=(hb9.cell (p:=⟨w.heap.size,11,none⟩) hbl).trans e11;replace e12:=(hb9.cell (p:=⟨w.heap.size,12,none⟩) hbl).trans e12;replace e13:=(hb9.cell (p:=⟨w.heap.size,13,none⟩) hbl).trans e13;replace e14:=(hb9.cell (p:=⟨w.heap.size,14,none⟩) hbl).trans e14;replace e15:=(hb9.cell (p:=⟨w.heap.size,15,none⟩) hbl).trans e15;replace e16:=(hb9.cell (p:=⟨w.heap.size,16,none⟩) hbl).trans e16;replace e17:=(hb9.cell (p:=⟨w.heap.size,17,none⟩) hbl).trans e17;replace e18:=(hb9.cell (p:=⟨w.heap.size,18,none⟩) hbl).trans e18;replace hbl:=Nat.lt_of_lt_of_le hbl hb9.size;clear hb9))
   go_ret
   exact ⟨by rw [HR.out]<;>rfl,by (first | exact HB.out | (exact (Below.refl _ _).alloc (Nat.le_refl _) _) | (simpa using HB.out))⟩
 by_cases c3:a.pref<1
 · have t0:isWord a.id=true:=by simpa using c0
   have t1:atomB a.attr=true:=by simpa using c1
   have t2:termB a.value=true:=by simpa using c2
   have t3:decide (a.pref<1)=true:=by simp [*]
   have HR:=Lib.hid (show actB a=false by simp [actB, *])
   clear c0 c1 c2 c3
   go_enter Tryz.func159,Tryz.ntmps159
   go_upto_region 1 with fail
   obtain ⟨W1,hW1⟩ : ∃W1,W1=w.alloc (.cells #[.string a.id,.string a.attr.var,.int .i64 a.attr.sym.kind,.string a.attr.sym.text,.int .i64 a.attr.sym.n,.int .i64 a.value.op,.string a.value.a.var,.int .i64 a.value.a.sym.kind,.string a.value.a.sym.text,.int .i64 a.value.a.sym.n,.string a.value.b.var,.int .i64 a.value.b.sym.kind,.string a.value.b.sym.text,.int .i64 a.value.b.sym.n,.int .i64 a.pref,.string a.other.var,.int .i64 a.other.sym.kind,.string a.other.sym.text,.int .i64 a.other.sym.n] 80):=⟨_,rfl⟩
   rw [← hW1]
   have hBk:Blk W1 w.heap.size 80 #[.string a.id,.string a.attr.var,.int .i64 a.attr.sym.kind,.string a.attr.sym.text,.int .i64 a.attr.sym.n,.int .i64 a.value.op,.string a.value.a.var,.int .i64 a.value.a.sym.kind,.string a.value.a.sym.text,.int .i64 a.value.a.sym.n,.string a.value.b.var,.int .i64 a.value.b.sym.kind,.string a.value.b.sym.text,.int .i64 a.value.b.sym.n,.int .i64 a.pref,.string a.other.var,.int .i64 a.other.sym.kind,.string a.other.sym.text,.int .i64 a.other.sym.n]:=by rw [hW1];exact Blk.new _ _ _
   have HB:=Lib.hid (show Below w.heap.size w W1 by rw [hW1];exact (Below.refl _ _).alloc (Nat.le_refl _) _)
   have e0:W1.cell? ⟨w.heap.size,0,none⟩=some (.string a.id):=(hBk.cell 0).trans rfl
   have e1:W1.cell? ⟨w.heap.size,1,none⟩=some (.string a.attr.var):=(hBk.cell 1).trans rfl
   have e2:W1.cell? ⟨w.heap.size,2,none⟩=some (.int .i64 a.attr.sym.kind):=(hBk.cell 2).trans rfl
   have e3:W1.cell? ⟨w.heap.size,3,none⟩=some (.string a.attr.sym.text):=(hBk.cell 3).trans rfl
   have e4:W1.cell? ⟨w.heap.size,4,none⟩=some (.int .i64 a.attr.sym.n):=(hBk.cell 4).trans rfl
   have e5:W1.cell? ⟨w.heap.size,5,none⟩=some (.int .i64 a.value.op):=(hBk.cell 5).trans rfl
   have e6:W1.cell? ⟨w.heap.size,6,none⟩=some (.string a.value.a.var):=(hBk.cell 6).trans rfl
   have e7:W1.cell? ⟨w.heap.size,7,none⟩=some (.int .i64 a.value.a.sym.kind):=(hBk.cell 7).trans rfl
   have e8:W1.cell? ⟨w.heap.size,8,none⟩=some (.string a.value.a.sym.text):=(hBk.cell 8).trans rfl
   have e9:W1.cell? ⟨w.heap.size,9,none⟩=some (.int .i64 a.value.a.sym.n):=(hBk.cell 9).trans rfl
   have e10:W1.cell? ⟨w.heap.size,10,none⟩=some (.string a.value.b.var):=(hBk.cell 10).trans rfl
   have e11:W1.cell? ⟨w.heap.size,11,none⟩=some (.int .i64 a.value.b.sym.kind):=(hBk.cell 11).trans rfl
   have e12:W1.cell? ⟨w.heap.size,12,none⟩=some (.string a.value.b.sym.text):=(hBk.cell 12).trans rfl
   have e13:W1.cell? ⟨w.heap.size,13,none⟩=some (.int .i64 a.value.b.sym.n):=(hBk.cell 13).trans rfl
   have e14:W1.cell? ⟨w.heap.size,14,none⟩=some (.int .i64 a.pref):=(hBk.cell 14).trans rfl
   have e15:W1.cell? ⟨w.heap.size,15,none⟩=some (.string a.other.var):=(hBk.cell 15).trans rfl
   have e16:W1.cell? ⟨w.heap.size,16,none⟩=some (.int .i64 a.other.sym.kind):=(hBk.cell 16).trans rfl
   have e17:W1.cell? ⟨w.heap.size,17,none⟩=some (.string a.other.sym.text):=(hBk.cell 17).trans rfl
   have e18:W1.cell? ⟨w.heap.size,18,none⟩=some (.int .i64 a.other.sym.n):=(hBk.cell 18).trans rfl
   have hbl:=hBk.lt
   clear hW1 hBk
   go_wp2_with (first
    | (go_at_call 154;refine (word_is a.id _).mono ?_;rintro e w9 ⟨rfl,rfl⟩)
    | (go_at_call 194;(first | (with_reducible refine (atomS_is a.attr _).mono ?_) | (with_reducible refine (atomS_is a.other _).mono ?_));rintro e w9 ⟨rfl,hb9⟩;have HB:=Lib.hid (HB.out.trans (hb9.mono HB.out.size));replace e0:=(hb9.cell (p:=⟨w.heap.size,0,none⟩) hbl).trans e0;replace e1:=(hb9.cell (p:=⟨w.heap.size,1,none⟩) hbl).trans e1;replace e2:=(hb9.cell (p:=⟨w.heap.size,2,none⟩) hbl).trans e2;replace e3:=(hb9.cell (p:=⟨w.heap.size,3,none⟩) hbl).trans e3;replace e4:=(hb9.cell (p:=⟨w.heap.size,4,none⟩) hbl).trans e4;replace e5:=(hb9.cell (p:=⟨w.heap.size,5,none⟩) hbl).trans e5;replace e6:=(hb9.cell (p:=⟨w.heap.size,6,none⟩) hbl).trans e6;replace e7:=(hb9.cell (p:=⟨w.heap.size,7,none⟩) hbl).trans e7;replace e8:=(hb9.cell (p:=⟨w.heap.size,8,none⟩) hbl).trans e8;replace e9:=(hb9.cell (p:=⟨w.heap.size,9,none⟩) hbl).trans e9;replace e10:=(hb9.cell (p:=⟨w.heap.size,10,none⟩) hbl).trans e10;replace e11:=(hb9.cell (p:=⟨w.heap.size,11,none⟩) hbl).trans e11;replace e12:=(hb9.cell (p:=⟨w.heap.size,12,none⟩) hbl).trans e12;replace e13:=(hb9.cell (p:=⟨w.heap.size,13,none⟩) hbl).trans e13;replace e14:=(hb9.cell (p:=⟨w.heap.size,14,none⟩) hbl).trans e14;replace e15:=(hb9.cell (p:=⟨w.heap.size,15,none⟩) hbl).trans e15;replace e16:=(hb9.cell (p:=⟨w.heap.size,16,none⟩) hbl).trans e16;replace e17:=(hb9.cell (p:=⟨w.heap.size,17,none⟩) hbl).trans e17;replace e18:=(hb9.cell (p:=⟨w.heap.size,18,none⟩) hbl).trans e18;replace hbl:=Nat.lt_of_lt_of_le hbl hb9.size;clear hb9)
    | (go_at_call 195;refine (term_is a.value _).mono ?_;rintro e w9 ⟨rfl,hb9⟩;have HB:=Lib.hid (HB.out.trans (hb9.mono HB.out.size));replace e0:=(hb9.cell (p:=⟨w.heap.size,0,none⟩) hbl).trans e0;replace e1:=(hb9.cell (p:=⟨w.heap.size,1,none⟩) hbl).trans e1;replace e2:=(hb9.cell (p:=⟨w.heap.size,2,none⟩) hbl).trans e2;replace e3:=(hb9.cell (p:=⟨w.heap.size,3,none⟩) hbl).trans e3;replace e4:=(hb9.cell (p:=⟨w.heap.size,4,none⟩) hbl).trans e4;replace e5:=(hb9.cell (p:=⟨w.heap.size,5,none⟩) hbl).trans e5;replace e6:=(hb9.cell (p:=⟨w.heap.size,6,none⟩) hbl).trans e6;replace e7:=(hb9.cell (p:=⟨w.heap.size,7,none⟩) hbl).trans e7;replace e8:=(hb9.cell (p:=⟨w.heap.size,8,none⟩) hbl).trans e8;replace e9:=(hb9.cell (p:=⟨w.heap.size,9,none⟩) hbl).trans e9;replace e10:=(hb9.cell (p:=⟨w.heap.size,10,none⟩) hbl).trans e10;replace e11:=(hb9.cell (p:=⟨w.heap.size,11,none⟩) hbl).trans e11;replace e12:=(hb9.cell (p:=⟨w.heap.size,12,none⟩) hbl).trans e12;replace e13:=(hb9.cell (p:=⟨w.heap.size,13,none⟩) hbl).trans e13;replace e14:=(hb9.cell (p:=⟨w.heap.size,14,none⟩) hbl).trans e14;replace e15:=(hb9.cell (p:=⟨w.heap.size,15,none⟩) hbl).trans e15;replace e16:=(hb9.cell (p:=⟨w.heap.size,16,none⟩) hbl).trans e16;replace e17:=(hb9.cell (p:=⟨w.heap.size,17,none⟩) hbl).trans e17;replace e18:=(hb9.cell (p:=⟨w.heap.size,18,none⟩) hbl).trans e18;replace hbl:=Nat.lt_of_lt_of_le hbl hb9.size;clear hb9)
    | (go_at_call 196;refine (other_is a.pref _).mono ?_;rintro e w9 ⟨rfl,rfl⟩)
    | (go_at_call 197;refine (empty_is a.other _).mono ?_;rintro e w9 ⟨rfl,hb9⟩;have HB:=Lib.hid (HB.out.trans (hb9.mono HB.out.size));replace e0:=(hb9.cell (p:=⟨w.heap.size,0,none⟩) hbl).trans e0;replace e1:=(hb9.cell (p:=⟨w.heap.size,1,none⟩) hbl).trans e1;replace e2:=(hb9.cell (p:=⟨w.heap.size,2,none⟩) hbl).trans e2;replace e3:=(hb9.cell (p:=⟨w.heap.size,3,none⟩) hbl).trans e3;replace e4:=(hb9.cell (p:=⟨w.heap.size,4,none⟩) hbl).trans e4;replace e5:=(hb9.cell (p:=⟨w.heap.size,5,none⟩) hbl).trans e5;replace e6:=(hb9.cell (p:=⟨w.heap.size,6,none⟩) hbl).trans e6;replace e7:=(hb9.cell (p:=⟨w.heap.size,7,none⟩) hbl).trans e7;replace e8:=(hb9.cell (p:=⟨w.heap.size,8,none⟩) hbl).trans e8;replace e9:=(hb9.cell (p:=⟨w.heap.size,9,none⟩) hbl).trans e9;replace e10:=(hb9.cell (p:=⟨w.heap.size,10,none⟩) hbl).trans e10;replace e11:=(hb9.cell (p:=⟨w.heap.size,11,none⟩) hbl).trans e11;replace e12:=(hb9.cell (p:=⟨w.heap.size,12,none⟩) hbl).trans e12;replace e13:=(hb9.cell (p:=⟨w.heap.size,13,none⟩) hbl).trans e13;replace e14:=(hb9.cell (p:=⟨w.heap.size,14,none⟩) hbl).trans e14;replace e15:=(hb9.cell (p:=⟨w.heap.size,15,none⟩) hbl).trans e15;replace e16:=(hb9.cell (p:=⟨w.heap.size,16,none⟩) hbl).trans e16;replace e17:=(hb9.cell (p:=⟨w.heap.size,17,none⟩) hbl).trans e17;replace e18:=(hb9.cell (p:=⟨w.heap.size,18,none⟩) hbl).trans e18;replace hbl:=Nat.lt_of_lt_of_le hbl hb9.size;clear hb9))
   go_ret
   exact ⟨by rw [HR.out]<;>rfl,by (first | exact HB.out | (exact (Below.refl _ _).alloc (Nat.le_refl _) _) | (simpa using HB.out))⟩
 by_cases c4:10<a.pref
 · have t0:isWord a.id=true:=by simpa using c0
   have t1:atomB a.attr=true:=by simpa using c1
   have t2:termB a.value=true:=by simpa using c2
   have t3:decide (a.pref<1)=false:=by simp;omega
   have t4:decide (10<a.pref)=true:=by simp [*]
   have HR:=Lib.hid (show actB a=false by simp [actB, *])
   clear c0 c1 c2 c3 c4
   go_enter Tryz.func159,Tryz.ntmps159
   go_upto_region 1 with fail
   obtain ⟨W1,hW1⟩ : ∃W1,W1=w.alloc (.cells #[.string a.id,.string a.attr.var,.int .i64 a.attr.sym.kind,.string a.attr.sym.text,.int .i64 a.attr.sym.n,.int .i64 a.value.op,.string a.value.a.var,.int .i64 a.value.a.sym.kind,.string a.value.a.sym.text,.int .i64 a.value.a.sym.n,.string a.value.b.var,.int .i64 a.value.b.sym.kind,.string a.value.b.sym.text,.int .i64 a.value.b.sym.n,.int .i64 a.pref,.string a.other.var,.int .i64 a.other.sym.kind,.string a.other.sym.text,.int .i64 a.other.sym.n] 80):=⟨_,rfl⟩
   rw [← hW1]
   have hBk:Blk W1 w.heap.size 80 #[.string a.id,.string a.attr.var,.int .i64 a.attr.sym.kind,.string a.attr.sym.text,.int .i64 a.attr.sym.n,.int .i64 a.value.op,.string a.value.a.var,.int .i64 a.value.a.sym.kind,.string a.value.a.sym.text,.int .i64 a.value.a.sym.n,.string a.value.b.var,.int .i64 a.value.b.sym.kind,.string a.value.b.sym.text,.int .i64 a.value.b.sym.n,.int .i64 a.pref,.string a.other.var,.int .i64 a.other.sym.kind,.string a.other.sym.text,.int .i64 a.other.sym.n]:=by rw [hW1];exact Blk.new _ _ _
   have HB:=Lib.hid (show Below w.heap.size w W1 by rw [hW1];exact (Below.refl _ _).alloc (Nat.le_refl _) _)
   have e0:W1.cell? ⟨w.heap.size,0,none⟩=some (.string a.id):=(hBk.cell 0).trans rfl
   have e1:W1.cell? ⟨w.heap.size,1,none⟩=some (.string a.attr.var):=(hBk.cell 1).trans rfl
   have e2:W1.cell? ⟨w.heap.size,2,none⟩=some (.int .i64 a.attr.sym.kind):=(hBk.cell 2).trans rfl
   have e3:W1.cell? ⟨w.heap.size,3,none⟩=some (.string a.attr.sym.text):=(hBk.cell 3).trans rfl
   have e4:W1.cell? ⟨w.heap.size,4,none⟩=some (.int .i64 a.attr.sym.n):=(hBk.cell 4).trans rfl
   have e5:W1.cell? ⟨w.heap.size,5,none⟩=some (.int .i64 a.value.op):=(hBk.cell 5).trans rfl
   have e6:W1.cell? ⟨w.heap.size,6,none⟩=some (.string a.value.a.var):=(hBk.cell 6).trans rfl
   have e7:W1.cell? ⟨w.heap.size,7,none⟩=some (.int .i64 a.value.a.sym.kind):=(hBk.cell 7).trans rfl
   have e8:W1.cell? ⟨w.heap.size,8,none⟩=some (.string a.value.a.sym.text):=(hBk.cell 8).trans rfl
   have e9:W1.cell? ⟨w.heap.size,9,none⟩=some (.int .i64 a.value.a.sym.n):=(hBk.cell 9).trans rfl
   have e10:W1.cell? ⟨w.heap.size,10,none⟩=some (.string a.value.b.var):=(hBk.cell 10).trans rfl
   have e11:W1.cell? ⟨w.heap.size,11,none⟩=some (.int .i64 a.value.b.sym.kind):=(hBk.cell 11).trans rfl
   have e12:W1.cell? ⟨w.heap.size,12,none⟩=some (.string a.value.b.sym.text):=(hBk.cell 12).trans rfl
   have e13:W1.cell? ⟨w.heap.size,13,none⟩=some (.int .i64 a.value.b.sym.n):=(hBk.cell 13).trans rfl
   have e14:W1.cell? ⟨w.heap.size,14,none⟩=some (.int .i64 a.pref):=(hBk.cell 14).trans rfl
   have e15:W1.cell? ⟨w.heap.size,15,none⟩=some (.string a.other.var):=(hBk.cell 15).trans rfl
   have e16:W1.cell? ⟨w.heap.size,16,none⟩=some (.int .i64 a.other.sym.kind):=(hBk.cell 16).trans rfl
   have e17:W1.cell? ⟨w.heap.size,17,none⟩=some (.string a.other.sym.text):=(hBk.cell 17).trans rfl
   have e18:W1.cell? ⟨w.heap.size,18,none⟩=some (.int .i64 a.other.sym.n):=(hBk.cell 18).trans rfl
   have hbl:=hBk.lt
   clear hW1 hBk
   go_wp2_with (first
    | (go_at_call 154;refine (word_is a.id _).mono ?_;rintro e w9 ⟨rfl,rfl⟩)
    | (go_at_call 194;(first | (with_reducible refine (atomS_is a.attr _).mono ?_) | (with_reducible refine (atomS_is a.other _).mono ?_));rintro e w9 ⟨rfl,hb9⟩;have HB:=Lib.hid (HB.out.trans (hb9.mono HB.out.size));replace e0:=(hb9.cell (p:=⟨w.heap.size,0,none⟩) hbl).trans e0;replace e1:=(hb9.cell (p:=⟨w.heap.size,1,none⟩) hbl).trans e1;replace e2:=(hb9.cell (p:=⟨w.heap.size,2,none⟩) hbl).trans e2;replace e3:=(hb9.cell (p:=⟨w.heap.size,3,none⟩) hbl).trans e3;replace e4:=(hb9.cell (p:=⟨w.heap.size,4,none⟩) hbl).trans e4;replace e5:=(hb9.cell (p:=⟨w.heap.size,5,none⟩) hbl).trans e5;replace e6:=(hb9.cell (p:=⟨w.heap.size,6,none⟩) hbl).trans e6;replace e7:=(hb9.cell (p:=⟨w.heap.size,7,none⟩) hbl).trans e7;replace e8:=(hb9.cell (p:=⟨w.heap.size,8,none⟩) hbl).trans e8;replace e9:=(hb9.cell (p:=⟨w.heap.size,9,none⟩) hbl).trans e9;replace e10:=(hb9.cell (p:=⟨w.heap.size,10,none⟩) hbl).trans e10;replace e11:=(hb9.cell (p:=⟨w.heap.size,11,none⟩) hbl).trans e11;replace e12:=(hb9.cell (p:=⟨w.heap.size,12,none⟩) hbl).trans e12;replace e13:=(hb9.cell (p:=⟨w.heap.size,13,none⟩) hbl).trans e13;replace e14:=(hb9.cell (p:=⟨w.heap.size,14,none⟩) hbl).trans e14;replace e15:=(hb9.cell (p:=⟨w.heap.size,15,none⟩) hbl).trans e15;replace e16:=(hb9.cell (p:=⟨w.heap.size,16,none⟩) hbl).trans e16;replace e17:=(hb9.cell (p:=⟨w.heap.size,17,none⟩) hbl).trans e17;replace e18:=(hb9.cell (p:=⟨w.heap.size,18,none⟩) hbl).trans e18;replace hbl:=Nat.lt_of_lt_of_le hbl hb9.size;clear hb9)
    | (go_at_call 195;refine (term_is a.value _).mono ?_;rintro e w9 ⟨rfl,hb9⟩;have HB:=Lib.hid (HB.out.trans (hb9.mono HB.out.size));replace e0:=(hb9.cell (p:=⟨w.heap.size,0,none⟩) hbl).trans e0;replace e1:=(hb9.cell (p:=⟨w.heap.size,1,none⟩) hbl).trans e1;replace e2:=(hb9.cell (p:=⟨w.heap.size,2,none⟩) hbl).trans e2;replace e3:=(hb9.cell (p:=⟨w.heap.size,3,none⟩) hbl).trans e3;replace e4:=(hb9.cell (p:=⟨w.heap.size,4,none⟩) hbl).trans e4;replace e5:=(hb9.cell (p:=⟨w.heap.size,5,none⟩) hbl).trans e5;replace e6:=(hb9.cell (p:=⟨w.heap.size,6,none⟩) hbl).trans e6;replace e7:=(hb9.cell (p:=⟨w.heap.size,7,none⟩) hbl).trans e7;replace e8:=(hb9.cell (p:=⟨w.heap.size,8,none⟩) hbl).trans e8;replace e9:=(hb9.cell (p:=⟨w.heap.size,9,none⟩) hbl).trans e9;replace e10:=(hb9.cell (p:=⟨w.heap.size,10,none⟩) hbl).trans e10;replace e11:=(hb9.cell (p:=⟨w.heap.size,11,none⟩) hbl).trans e11;replace e12:=(hb9.cell (p:=⟨w.heap.size,12,none⟩) hbl).trans e12;replace e13:=(hb9.cell (p:=⟨w.heap.size,13,none⟩) hbl).trans e13;replace e14:=(hb9.cell (p:=⟨w.heap.size,14,none⟩) hbl).trans e14;replace e15:=(hb9.cell (p:=⟨w.heap.size,15,none⟩) hbl).trans e15;replace e16:=(hb9.cell (p:=⟨w.heap.size,16,none⟩) hbl).trans e16;replace e17:=(hb9.cell (p:=⟨w.heap.size,17,none⟩) hbl).trans e17;replace e18:=(hb9.cell (p:=⟨w.heap.size,18,none⟩) hbl).trans e18;replace hbl:=Nat.lt_of_lt_of_le hbl hb9.size;clear hb9)
    | (go_at_call 196;refine (other_is a.pref _).mono ?_;rintro e w9 ⟨rfl,rfl⟩)
    | (go_at_call 197;refine (empty_is a.other _).mono ?_;rintro e w9 ⟨rfl,hb9⟩;have HB:=Lib.hid (HB.out.trans (hb9.mono HB.out.size));replace e0:=(hb9.cell (p:=⟨w.heap.size,0,none⟩) hbl).trans e0;replace e1:=(hb9.cell (p:=⟨w.heap.size,1,none⟩) hbl).trans e1;replace e2:=(hb9.cell (p:=⟨w.heap.size,2,none⟩) hbl).trans e2;replace e3:=(hb9.cell (p:=⟨w.heap.size,3,none⟩) hbl).trans e3;replace e4:=(hb9.cell (p:=⟨w.heap.size,4,none⟩) hbl).trans e4;replace e5:=(hb9.cell (p:=⟨w.heap.size,5,none⟩) hbl).trans e5;replace e6:=(hb9.cell (p:=⟨w.heap.size,6,none⟩) hbl).trans e6;replace e7:=(hb9.cell (p:=⟨w.heap.size,7,none⟩) hbl).trans e7;replace e8:=(hb9.cell (p:=⟨w.heap.size,8,none⟩) hbl).trans e8;replace e9:=(hb9.cell (p:=⟨w.heap.size,9,none⟩) hbl).trans e9;replace e10:=(hb9.cell (p:=⟨w.heap.size,10,none⟩) hbl).trans e10;replace e11:=(hb9.cell (p:=⟨w.heap.size,11,none⟩) hbl).trans e11;replace e12:=(hb9.cell (p:=⟨w.heap.size,12,none⟩) hbl).trans e12;replace e13:=(hb9.cell (p:=⟨w.heap.size,13,none⟩) hbl).trans e13;replace e14:=(hb9.cell (p:=⟨w.heap.size,14,none⟩) hbl).trans e14;replace e15:=(hb9.cell (p:=⟨w.heap.size,15,none⟩) hbl).trans e15;replace e16:=(hb9.cell (p:=⟨w.heap.size,16,none⟩) hbl).trans e16;replace e17:=(hb9.cell (p:=⟨w.heap.size,17,none⟩) hbl).trans e17;replace e18:=(hb9.cell (p:=⟨w.heap.size,18,none⟩) hbl).trans e18;replace hbl:=Nat.lt_of_lt_of_le hbl hb9.size;clear hb9))
   go_ret
   exact ⟨by rw [HR.out]<;>rfl,by (first | exact HB.out | (exact (Below.refl _ _).alloc (Nat.le_refl _) _) | (simpa using HB.out))⟩
 by_cases c5:otherB a.pref=true
 · have t0:isWord a.id=true:=by simpa using c0
   have t1:atomB a.attr=true:=by simpa using c1
   have t2:termB a.value=true:=by simpa using c2
   have t3:decide (a.pref<1)=false:=by simp;omega
   have t4:decide (10<a.pref)=false:=by simp;omega
   have t5:=c5
   have HR:=Lib.hid (show actB a=atomB a.other by simp [actB, *])
   clear c0 c1 c2 c3 c4 c5
   go_enter Tryz.func159,Tryz.ntmps159
   go_upto_region 1 with fail
   obtain ⟨W1,hW1⟩ : ∃W1,W1=w.alloc (.cells #[.string a.id,.string a.attr.var,.int .i64 a.attr.sym.kind,.string a.attr.sym.text,.int .i64 a.attr.sym.n,.int .i64 a.value.op,.string a.value.a.var,.int .i64 a.value.a.sym.kind,.string a.value.a.sym.text,.int .i64 a.value.a.sym.n,.string a.value.b.var,.int .i64 a.value.b.sym.kind,.string a.value.b.sym.text,.int .i64 a.value.b.sym.n,.int .i64 a.pref,.string a.other.var,.int .i64 a.other.sym.kind,.string a.other.sym.text,.int .i64 a.other.sym.n] 80):=⟨_,rfl⟩
   rw [← hW1]
   have hBk:Blk W1 w.heap.size 80 #[.string a.id,.string a.attr.var,.int .i64 a.attr.sym.kind,.string a.attr.sym.text,.int .i64 a.attr.sym.n,.int .i64 a.value.op,.string a.value.a.var,.int .i64 a.value.a.sym.kind,.string a.value.a.sym.text,.int .i64 a.value.a.sym.n,.string a.value.b.var,.int .i64 a.value.b.sym.kind,.string a.value.b.sym.text,.int .i64 a.value.b.sym.n,.int .i64 a.pref,.string a.other.var,.int .i64 a.other.sym.kind,.string a.other.sym.text,.int .i64 a.other.sym.n]:=by rw [hW1];exact Blk.new _ _ _
   have HB:=Lib.hid (show Below w.heap.size w W1 by rw [hW1];exact (Below.refl _ _).alloc (Nat.le_refl _) _)
   have e0:W1.cell? ⟨w.heap.size,0,none⟩=some (.string a.id):=(hBk.cell 0).trans rfl
   have e1:W1.cell? ⟨w.heap.size,1,none⟩=some (.string a.attr.var):=(hBk.cell 1).trans rfl
   have e2:W1.cell? ⟨w.heap.size,2,none⟩=some (.int .i64 a.attr.sym.kind):=(hBk.cell 2).trans rfl
   have e3:W1.cell? ⟨w.heap.size,3,none⟩=some (.string a.attr.sym.text):=(hBk.cell 3).trans rfl
   have e4:W1.cell? ⟨w.heap.size,4,none⟩=some (.int .i64 a.attr.sym.n):=(hBk.cell 4).trans rfl
   have e5:W1.cell? ⟨w.heap.size,5,none⟩=some (.int .i64 a.value.op):=(hBk.cell 5).trans rfl
   have e6:W1.cell? ⟨w.heap.size,6,none⟩=some (.string a.value.a.var):=(hBk.cell 6).trans rfl
   have e7:W1.cell? ⟨w.heap.size,7,none⟩=some (.int .i64 a.value.a.sym.kind):=(hBk.cell 7).trans rfl
   have e8:W1.cell? ⟨w.heap.size,8,none⟩=some (.string a.value.a.sym.text):=(hBk.cell 8).trans rfl
   have e9:W1.cell? ⟨w.heap.size,9,none⟩=some (.int .i64 a.value.a.sym.n):=(hBk.cell 9).trans rfl
   have e10:W1.cell? ⟨w.heap.size,10,none⟩=some (.string a.value.b.var):=(hBk.cell 10).trans rfl
   have e11:W1.cell? ⟨w.heap.size,11,none⟩=some (.int .i64 a.value.b.sym.kind):=(hBk.cell 11).trans rfl
   have e12:W1.cell? ⟨w.heap.size,12,none⟩=some (.string a.value.b.sym.text):=(hBk.cell 12).trans rfl
   have e13:W1.cell? ⟨w.heap.size,13,none⟩=some (.int .i64 a.value.b.sym.n):=(hBk.cell 13).trans rfl
   have e14:W1.cell? ⟨w.heap.size,14,none⟩=some (.int .i64 a.pref):=(hBk.cell 14).trans rfl
   have e15:W1.cell? ⟨w.heap.size,15,none⟩=some (.string a.other.var):=(hBk.cell 15).trans rfl
   have e16:W1.cell? ⟨w.heap.size,16,none⟩=some (.int .i64 a.other.sym.kind):=(hBk.cell 16).trans rfl
   have e17:W1.cell? ⟨w.heap.size,17,none⟩=some (.string a.other.sym.text):=(hBk.cell 17).trans rfl
   have e18:W1.cell? ⟨w.heap.size,18,none⟩=some (.int .i64 a.other.sym.n):=(hBk.cell 18).trans rfl
   have hbl:=hBk.lt
   clear hW1 hBk
   go_wp2_with (first
    | (go_at_call 154;refine (word_is a.id _).mono ?_;rintro e w9 ⟨rfl,rfl⟩)
    | (go_at_call 194;(first | (with_reducible refine (atomS_is a.attr _).mono ?_) | (with_reducible refine (atomS_is a.other _).mono ?_));rintro e w9 ⟨rfl,hb9⟩;have HB:=Lib.hid (HB.out.trans (hb9.mono HB.out.size));replace e0:=(hb9.cell (p:=⟨w.heap.size,0,none⟩) hbl).trans e0;replace e1:=(hb9.cell (p:=⟨w.heap.size,1,none⟩) hbl).trans e1;replace e2:=(hb9.cell (p:=⟨w.heap.size,2,none⟩) hbl).trans e2;replace e3:=(hb9.cell (p:=⟨w.heap.size,3,none⟩) hbl).trans e3;replace e4:=(hb9.cell (p:=⟨w.heap.size,4,none⟩) hbl).trans e4;replace e5:=(hb9.cell (p:=⟨w.heap.size,5,none⟩) hbl).trans e5;replace e6:=(hb9.cell (p:=⟨w.heap.size,6,none⟩) hbl).trans e6;replace e7:=(hb9.cell (p:=⟨w.heap.size,7,none⟩) hbl).trans e7;replace e8:=(hb9.cell (p:=⟨w.heap.size,8,none⟩) hbl).trans e8;replace e9:=(hb9.cell (p:=⟨w.heap.size,9,none⟩) hbl).trans e9;replace e10:=(hb9.cell (p:=⟨w.heap.size,10,none⟩) hbl).trans e10;replace e11:=(hb9.cell (p:=⟨w.heap.size,11,none⟩) hbl).trans e11;replace e12:=(hb9.cell (p:=⟨w.heap.size,12,none⟩) hbl).trans e12;replace e13:=(hb9.cell (p:=⟨w.heap.size,13,none⟩) hbl).trans e13;replace e14:=(hb9.cell (p:=⟨w.heap.size,14,none⟩) hbl).trans e14;replace e15:=(hb9.cell (p:=⟨w.heap.size,15,none⟩) hbl).trans e15;replace e16:=(hb9.cell (p:=⟨w.heap.size,16,none⟩) hbl).trans e16;replace e17:=(hb9.cell (p:=⟨w.heap.size,17,none⟩) hbl).trans e17;replace e18:=(hb9.cell (p:=⟨w.heap.size,18,none⟩) hbl).trans e18;replace hbl:=Nat.lt_of_lt_of_le hbl hb9.size;clear hb9)
    | (go_at_call 195;refine (term_is a.value _).mono ?_;rintro e w9 ⟨rfl,hb9⟩;have HB:=Lib.hid (HB.out.trans (hb9.mono HB.out.size));replace e0:=(hb9.cell (p:=⟨w.heap.size,0,none⟩) hbl).trans e0;replace e1:=(hb9.cell (p:=⟨w.heap.size,1,none⟩) hbl).trans e1;replace e2:=(hb9.cell (p:=⟨w.heap.size,2,none⟩) hbl).trans e2;replace e3:=(hb9.cell (p:=⟨w.heap.size,3,none⟩) hbl).trans e3;replace e4:=(hb9.cell (p:=⟨w.heap.size,4,none⟩) hbl).trans e4;replace e5:=(hb9.cell (p:=⟨w.heap.size,5,none⟩) hbl).trans e5;replace e6:=(hb9.cell (p:=⟨w.heap.size,6,none⟩) hbl).trans e6;replace e7:=(hb9.cell (p:=⟨w.heap.size,7,none⟩) hbl).trans e7;replace e8:=(hb9.cell (p:=⟨w.heap.size,8,none⟩) hbl).trans e8;replace e9:=(hb9.cell (p:=⟨w.heap.size,9,none⟩) hbl).trans e9;replace e10:=(hb9.cell (p:=⟨w.heap.size,10,none⟩) hbl).trans e10;replace e11:=(hb9.cell (p:=⟨w.heap.size,11,none⟩) hbl).trans e11;replace e12:=(hb9.cell (p:=⟨w.heap.size,12,none⟩) hbl).trans e12;replace e13:=(hb9.cell (p:=⟨w.heap.size,13,none⟩) hbl).trans e13;replace e14:=(hb9.cell (p:=⟨w.heap.size,14,none⟩) hbl).trans e14;replace e15:=(hb9.cell (p:=⟨w.heap.size,15,none⟩) hbl).trans e15;replace e16:=(hb9.cell (p:=⟨w.heap.size,16,none⟩) hbl).trans e16;replace e17:=(hb9.cell (p:=⟨w.heap.size,17,none⟩) hbl).trans e17;replace e18:=(hb9.cell (p:=⟨w.heap.size,18,none⟩) hbl).trans e18;replace hbl:=Nat.lt_of_lt_of_le hbl hb9.size;clear hb9)
    | (go_at_call 196;refine (other_is a.pref _).mono ?_;rintro e w9 ⟨rfl,rfl⟩)
    | (go_at_call 197;refine (empty_is a.other _).mono ?_;rintro e w9 ⟨rfl,hb9⟩;have HB:=Lib.hid (HB.out.trans (hb9.mono HB.out.size));replace e0:=(hb9.cell (p:=⟨w.heap.size,0,none⟩) hbl).trans e0;replace e1:=(hb9.cell (p:=⟨w.heap.size,1,none⟩) hbl).trans e1;replace e2:=(hb9.cell (p:=⟨w.heap.size,2,none⟩) hbl).trans e2;replace e3:=(hb9.cell (p:=⟨w.heap.size,3,none⟩) hbl).trans e3;replace e4:=(hb9.cell (p:=⟨w.heap.size,4,none⟩) hbl).trans e4;replace e5:=(hb9.cell (p:=⟨w.heap.size,5,none⟩) hbl).trans e5;replace e6:=(hb9.cell (p:=⟨w.heap.size,6,none⟩) hbl).trans e6;replace e7:=(hb9.cell (p:=⟨w.heap.size,7,none⟩) hbl).trans e7;replace e8:=(hb9.cell (p:=⟨w.heap.size,8,none⟩) hbl).trans e8;replace e9:=(hb9.cell (p:=⟨w.heap.size,9,none⟩) hbl).trans e9;replace e10:=(hb9.cell (p:=⟨w.heap.size,10,none⟩) hbl).trans e10;replace e11:=(hb9.cell (p:=⟨w.heap.size,11,none⟩) hbl).trans e11;replace e12:=(hb9.cell (p:=⟨w.heap.size,12,none⟩) hbl).trans e12;replace e13:=(hb9.cell (p:=⟨w.heap.size,13,none⟩) hbl).trans e13;replace e14:=(hb9.cell (p:=⟨w.heap.size,14,none⟩) hbl).trans e14;replace e15:=(hb9.cell (p:=⟨w.heap.size,15,none⟩) hbl).trans e15;replace e16:=(hb9.cell (p:=⟨w.heap.size,16,none⟩) hbl).trans e16;replace e17:=(hb9.cell (p:=⟨w.heap.size,17,none⟩) hbl).trans e17;replace e18:=(hb9.cell (p:=⟨w.heap.size,18,none⟩) hbl).trans e18;replace hbl:=Nat.lt_of_lt_of_le hbl hb9.size;clear hb9))
   go_ret
   exact ⟨by rw [HR.out]<;>rfl,by (first | exact HB.out | (exact (Below.refl _ _).alloc (Nat.le_refl _) _) | (simpa using HB.out))⟩
 have t0:isWord a.id=true:=by simpa using c0
 have t1:atomB a.attr=true:=by simpa using c1
 have t2:termB a.value=true:=by simpa using c2
 have t3:decide (a.pref<1)=false:=by simp;omega
 have t4:decide (10<a.pref)=false:=by simp;omega
 have t5:otherB a.pref=false:=by simpa using c5
 have HR:=Lib.hid (show actB a=emptyB a.other by simp [actB, *])
 clear c0 c1 c2 c3 c4 c5
 go_enter Tryz.func159,Tryz.ntmps159
 go_upto_region 1 with fail
 obtain ⟨W1,hW1⟩ : ∃W1,W1=w.alloc (.cells #[.string a.id,.string a.attr.var,.int .i64 a.attr.sym.kind,.string a.attr.sym.text,.int .i64 a.attr.sym.n,.int .i64 a.value.op,.string a.value.a.var,.int .i64 a.value.a.sym.kind,.string a.value.a.sym.text,.int .i64 a.value.a.sym.n,.string a.value.b.var,.int .i64 a.value.b.sym.kind,.string a.value.b.sym.text,.int .i64 a.value.b.sym.n,.int .i64 a.pref,.string a.other.var,.int .i64 a.other.sym.kind,.string a.other.sym.text,.int .i64 a.other.sym.n] 80):=⟨_,rfl⟩
 rw [← hW1]
 have hBk:Blk W1 w.heap.size 80 #[.string a.id,.string a.attr.var,.int .i64 a.attr.sym.kind,.string a.attr.sym.text,.int .i64 a.attr.sym.n,.int .i64 a.value.op,.string a.value.a.var,.int .i64 a.value.a.sym.kind,.string a.value.a.sym.text,.int .i64 a.value.a.sym.n,.string a.value.b.var,.int .i64 a.value.b.sym.kind,.string a.value.b.sym.text,.int .i64 a.value.b.sym.n,.int .i64 a.pref,.string a.other.var,.int .i64 a.other.sym.kind,.string a.other.sym.text,.int .i64 a.other.sym.n]:=by rw [hW1];exact Blk.new _ _ _
 have HB:=Lib.hid (show Below w.heap.size w W1 by rw [hW1];exact (Below.refl _ _).alloc (Nat.le_refl _) _)
 have e0:W1.cell? ⟨w.heap.size,0,none⟩=some (.string a.id):=(hBk.cell 0).trans rfl
 have e1:W1.cell? ⟨w.heap.size,1,none⟩=some (.string a.attr.var):=(hBk.cell 1).trans rfl
 have e2:W1.cell? ⟨w.heap.size,2,none⟩=some (.int .i64 a.attr.sym.kind):=(hBk.cell 2).trans rfl
 have e3:W1.cell? ⟨w.heap.size,3,none⟩=some (.string a.attr.sym.text):=(hBk.cell 3).trans rfl
 have e4:W1.cell? ⟨w.heap.size,4,none⟩=some (.int .i64 a.attr.sym.n):=(hBk.cell 4).trans rfl
 have e5:W1.cell? ⟨w.heap.size,5,none⟩=some (.int .i64 a.value.op):=(hBk.cell 5).trans rfl
 have e6:W1.cell? ⟨w.heap.size,6,none⟩=some (.string a.value.a.var):=(hBk.cell 6).trans rfl
 have e7:W1.cell? ⟨w.heap.size,7,none⟩=some (.int .i64 a.value.a.sym.kind):=(hBk.cell 7).trans rfl
 have e8:W1.cell? ⟨w.heap.size,8,none⟩=some (.string a.value.a.sym.text):=(hBk.cell 8).trans rfl
 have e9:W1.cell? ⟨w.heap.size,9,none⟩=some (.int .i64 a.value.a.sym.n):=(hBk.cell 9).trans rfl
 have e10:W1.cell? ⟨w.heap.size,10,none⟩=some (.string a.value.b.var):=(hBk.cell 10).trans rfl
 have e11:W1.cell? ⟨w.heap.size,11,none⟩=some (.int .i64 a.value.b.sym.kind):=(hBk.cell 11).trans rfl
 have e12:W1.cell? ⟨w.heap.size,12,none⟩=some (.string a.value.b.sym.text):=(hBk.cell 12).trans rfl
 have e13:W1.cell? ⟨w.heap.size,13,none⟩=some (.int .i64 a.value.b.sym.n):=(hBk.cell 13).trans rfl
 have e14:W1.cell? ⟨w.heap.size,14,none⟩=some (.int .i64 a.pref):=(hBk.cell 14).trans rfl
 have e15:W1.cell? ⟨w.heap.size,15,none⟩=some (.string a.other.var):=(hBk.cell 15).trans rfl
 have e16:W1.cell? ⟨w.heap.size,16,none⟩=some (.int .i64 a.other.sym.kind):=(hBk.cell 16).trans rfl
 have e17:W1.cell? ⟨w.heap.size,17,none⟩=some (.string a.other.sym.text):=(hBk.cell 17).trans rfl
 have e18:W1.cell? ⟨w.heap.size,18,none⟩=some (.int .i64 a.other.sym.n):=(hBk.cell 18).trans rfl
 have hbl:=hBk.lt
 clear hW1 hBk
 go_wp2_with (first
  | (go_at_call 154;refine (word_is a.id _).mono ?_;rintro e w9 ⟨rfl,rfl⟩)
  | (go_at_call 194;(first | (with_reducible refine (atomS_is a.attr _).mono ?_) | (with_reducible refine (atomS_is a.other _).mono ?_));rintro e w9 ⟨rfl,hb9⟩;have HB:=Lib.hid (HB.out.trans (hb9.mono HB.out.size));replace e0:=(hb9.cell (p:=⟨w.heap.size,0,none⟩) hbl).trans e0;replace e1:=(hb9.cell (p:=⟨w.heap.size,1,none⟩) hbl).trans e1;replace e2:=(hb9.cell (p:=⟨w.heap.size,2,none⟩) hbl).trans e2;replace e3:=(hb9.cell (p:=⟨w.heap.size,3,none⟩) hbl).trans e3;replace e4:=(hb9.cell (p:=⟨w.heap.size,4,none⟩) hbl).trans e4;replace e5:=(hb9.cell (p:=⟨w.heap.size,5,none⟩) hbl).trans e5;replace e6:=(hb9.cell (p:=⟨w.heap.size,6,none⟩) hbl).trans e6;replace e7:=(hb9.cell (p:=⟨w.heap.size,7,none⟩) hbl).trans e7;replace e8:=(hb9.cell (p:=⟨w.heap.size,8,none⟩) hbl).trans e8;replace e9:=(hb9.cell (p:=⟨w.heap.size,9,none⟩) hbl).trans e9;replace e10:=(hb9.cell (p:=⟨w.heap.size,10,none⟩) hbl).trans e10;replace e11:=(hb9.cell (p:=⟨w.heap.size,11,none⟩) hbl).trans e11;replace e12:=(hb9.cell (p:=⟨w.heap.size,12,none⟩) hbl).trans e12;replace e13:=(hb9.cell (p:=⟨w.heap.size,13,none⟩) hbl).trans e13;replace e14:=(hb9.cell (p:=⟨w.heap.size,14,none⟩) hbl).trans e14;replace e15:=(hb9.cell (p:=⟨w.heap.size,15,none⟩) hbl).trans e15;replace e16:=(hb9.cell (p:=⟨w.heap.size,16,none⟩) hbl).trans e16;replace e17:=(hb9.cell (p:=⟨w.heap.size,17,none⟩) hbl).trans e17;replace e18:=(hb9.cell (p:=⟨w.heap.size,18,none⟩) hbl).trans e18;replace hbl:=Nat.lt_of_lt_of_le hbl hb9.size;clear hb9)
  | (go_at_call 195;refine (term_is a.value _).mono ?_;rintro e w9 ⟨rfl,hb9⟩;have HB:=Lib.hid (HB.out.trans (hb9.mono HB.out.size));replace e0:=(hb9.cell (p:=⟨w.heap.size,0,none⟩) hbl).trans e0;replace e1:=(hb9.cell (p:=⟨w.heap.size,1,none⟩) hbl).trans e1;replace e2:=(hb9.cell (p:=⟨w.heap.size,2,none⟩) hbl).trans e2;replace e3:=(hb9.cell (p:=⟨w.heap.size,3,none⟩) hbl).trans e3;replace e4:=(hb9.cell (p:=⟨w.heap.size,4,none⟩) hbl).trans e4;replace e5:=(hb9.cell (p:=⟨w.heap.size,5,none⟩) hbl).trans e5;replace e6:=(hb9.cell (p:=⟨w.heap.size,6,none⟩) hbl).trans e6;replace e7:=(hb9.cell (p:=⟨w.heap.size,7,none⟩) hbl).trans e7;replace e8:=(hb9.cell (p:=⟨w.heap.size,8,none⟩) hbl).trans e8;replace e9:=(hb9.cell (p:=⟨w.heap.size,9,none⟩) hbl).trans e9;replace e10:=(hb9.cell (p:=⟨w.heap.size,10,none⟩) hbl).trans e10;replace e11:=(hb9.cell (p:=⟨w.heap.size,11,none⟩) hbl).trans e11;replace e12:=(hb9.cell (p:=⟨w.heap.size,12,none⟩) hbl).trans e12;replace e13:=(hb9.cell (p:=⟨w.heap.size,13,none⟩) hbl).trans e13;replace e14:=(hb9.cell (p:=⟨w.heap.size,14,none⟩) hbl).trans e14;replace e15:=(hb9.cell (p:=⟨w.heap.size,15,none⟩) hbl).trans e15;replace e16:=(hb9.cell (p:=⟨w.heap.size,16,none⟩) hbl).trans e16;replace e17:=(hb9.cell (p:=⟨w.heap.size,17,none⟩) hbl).trans e17;replace e18:=(hb9.cell (p:=⟨w.heap.size,18,none⟩) hbl).trans e18;replace hbl:=Nat.lt_of_lt_of_le hbl hb9.size;clear hb9)
  | (go_at_call 196;refine (other_is a.pref _).mono ?_;rintro e w9 ⟨rfl,rfl⟩)
  | (go_at_call 197;refine (empty_is a.other _).mono ?_;rintro e w9 ⟨rfl,hb9⟩;have HB:=Lib.hid (HB.out.trans (hb9.mono HB.out.size));replace e0:=(hb9.cell (p:=⟨w.heap.size,0,none⟩) hbl).trans e0;replace e1:=(hb9.cell (p:=⟨w.heap.size,1,none⟩) hbl).trans e1;replace e2:=(hb9.cell (p:=⟨w.heap.size,2,none⟩) hbl).trans e2;replace e3:=(hb9.cell (p:=⟨w.heap.size,3,none⟩) hbl).trans e3;replace e4:=(hb9.cell (p:=⟨w.heap.size,4,none⟩) hbl).trans e4;replace e5:=(hb9.cell (p:=⟨w.heap.size,5,none⟩) hbl).trans e5;replace e6:=(hb9.cell (p:=⟨w.heap.size,6,none⟩) hbl).trans e6;replace e7:=(hb9.cell (p:=⟨w.heap.size,7,none⟩) hbl).trans e7;replace e8:=(hb9.cell (p:=⟨w.heap.size,8,none⟩) hbl).trans e8;replace e9:=(hb9.cell (p:=⟨w.heap.size,9,none⟩) hbl).trans e9;replace e10:=(hb9.cell (p:=⟨w.heap.size,10,none⟩) hbl).trans e10;replace e11:=(hb9.cell (p:=⟨w.heap.size,11,none⟩) hbl).trans e11;replace e12:=(hb9.cell (p:=⟨w.heap.size,12,none⟩) hbl).trans e12;replace e13:=(hb9.cell (p:=⟨w.heap.size,13,none⟩) hbl).trans e13;replace e14:=(hb9.cell (p:=⟨w.heap.size,14,none⟩) hbl).trans e14;replace e15:=(hb9.cell (p:=⟨w.heap.size,15,none⟩) hbl).trans e15;replace e16:=(hb9.cell (p:=⟨w.heap.size,16,none⟩) hbl).trans e16;replace e17:=(hb9.cell (p:=⟨w.heap.size,17,none⟩) hbl).trans e17;replace e18:=(hb9.cell (p:=⟨w.heap.size,18,none⟩) hbl).trans e18;replace hbl:=Nat.lt_of_lt_of_le hbl hb9.size;clear hb9))
 go_ret
 exact ⟨by rw [HR.out]<;>rfl,by (first | exact HB.out | (exact (Below.refl _ _).alloc (Nat.le_refl _) _) | (simpa using HB.out))⟩
end Go.Proofs.YtldndkngpdfpfaaGreat
