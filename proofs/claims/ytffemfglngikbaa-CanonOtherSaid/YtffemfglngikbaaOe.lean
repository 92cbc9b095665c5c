/-
  Texts put together: Shape1, Canon1, Canon2, Canon3.
-/
import Derived.Test.YtffemfglngikbaaOd
import Derived.Test.YtffemfglngikbaaOb
import Derived.Laws.EntriesVeiled
import Derived.Test.YtffemfglngikbaaOc
import Derived.Deep.Cut
import Derived.Maps.RangeWalk
namespace Go.Proofs.Ytffemfglngikbaa
open Go.RowKit Go.Shelf
set_option maxHeartbeats 1000000 in
theorem none_is (s:Sym) (w:World):Calls Try.prog 106 #[.agg #[.int .i64 s.kind,.string s.text,.int .i64 s.n]] w fun e w'=>e = .returned (.bool (noneB s))∧Below w.heap.size w w':=by
 have hq : ∀W:World,(binOp .eql 52 (.agg #[.int .i64 s.kind,.string s.text,.int .i64 s.n]) (.agg #[.int .i64 0,.string ⟨#[]⟩,.int .i64 0])).run Try.prog W = .ok (.bool (noneB s)) W:=fun W=>eql_sym s zS W
 go_enter Try.func106,Try.ntmps106
 go_wp2_with fail
 go_ret
 exact ⟨rfl,(Below.refl _ _).alloc (Nat.le_refl _) _⟩
theorem other_is (k:Int) (w:World):Calls Try.prog 101 #[.int .i64 k] w fun e w'=>e = .returned (.bool (otherB k))∧w=w':=by
 have HV:=Lib.hid (show otherB k=(k == 8 || k == 9 || k == 10) from rfl)
 go_enter Try.func101,Try.ntmps101
 go_wp2_with fail
 all_goals
  go_ret
  refine ⟨?_,rfl⟩
  rw [HV.out]
  refine ret_bool ?_
  simp_all
set_option maxRecDepth 100000 in
set_option maxHeartbeats 8000000 in
theorem constant_is (s:Sym) (w:World):Calls Try.prog 107 #[.agg #[.int .i64 s.kind,.string s.text,.int .i64 s.n]] w fun e w'=>e = .returned (.bool (constB s))∧Below w.heap.size w w':=by
 obtain ⟨r,hr⟩ : ∃r,r=constB s:=⟨_,rfl⟩
 rw [← hr]
 have HR:=Lib.hid hr
 clear hr
 have HB:=Lib.hid ((Below.refl w.heap.size w).alloc (Nat.le_refl _) (.cells #[.int .i64 s.kind,.string s.text,.int .i64 s.n] 52))
 go_enter Try.func107,Try.ntmps107
 obtain ⟨W1,hW1⟩ : ∃W1,W1=w.alloc (.cells #[.int .i64 s.kind,.string s.text,.int .i64 s.n] 52):=⟨_,rfl⟩
 go_wp2_with (first
  | (go_at_call 110;refine (valid_is s _).mono ?_;rintro e w9 ⟨rfl,hb9⟩;have HB:=Lib.hid (HB.out.trans (hb9.mono HB.out.size));clear hb9))
 all_goals
  go_ret
  refine ⟨?_,by (first | exact HB.out | (exact (Below.refl _ _).alloc (Nat.le_refl _) _) | (simpa using HB.out))⟩
  rw [HR.out]
  refine ret_bool ?_
  first | (simp_all [constB];done) | (simp_all [constB];rfl)
set_option maxRecDepth 100000 in
set_option maxHeartbeats 8000000 in
theorem empty_is (a:AtomT) (w:World):Calls Try.prog 102 #[.agg #[.string a.var,.int .i64 a.sym.kind,.string a.sym.text,.int .i64 a.sym.n]] w fun e w'=>e = .returned (.bool (emptyB a))∧Below w.heap.size w w':=by
 obtain ⟨r,hr⟩ : ∃r,r=emptyB a:=⟨_,rfl⟩
 rw [← hr]
 have HR:=Lib.hid hr
 clear hr
 have HB:=Lib.hid ((Below.refl w.heap.size w).alloc (Nat.le_refl _) (.cells #[.string a.var,.int .i64 a.sym.kind,.string a.sym.text,.int .i64 a.sym.n] 54))
 go_enter Try.func102,Try.ntmps102
 obtain ⟨W1,hW1⟩ : ∃W1,W1=w.alloc (.cells #[.string a.var,.int .i64 a.sym.kind,.string a.sym.text,.int .i64 a.sym.n] 54):=⟨_,rfl⟩
 go_wp2_with (first
  | (go_at_call 106;refine (none_is a.sym _).mono ?_;rintro e w9 ⟨rfl,hb9⟩;have HB:=Lib.hid (HB.out.trans (hb9.mono HB.out.size));clear hb9))
 all_goals
  go_ret
  refine ⟨?_,by (first | exact HB.out | (exact (Below.refl _ _).alloc (Nat.le_refl _) _) | (simpa using HB.out))⟩
  rw [HR.out]
  refine ret_bool ?_
  first | (simp_all [emptyB];done) | (simp_all [emptyB];rfl)
set_option maxRecDepth 100000 in
set_option maxHeartbeats 8000000 in
theorem wordA_is (a:AtomT) (w:World):Calls Try.prog 108 #[.agg #[.string a.var,.int .i64 a.sym.kind,.string a.sym.text,.int .i64 a.sym.n]] w fun e w'=>e = .returned (.bool (wordAB a))∧Below w.heap.size w w':=by
 obtain ⟨r,hr⟩ : ∃r,r=wordAB a:=⟨_,rfl⟩
 rw [← hr]
 have HR:=Lib.hid hr
 clear hr
 have HB:=Lib.hid ((Below.refl w.heap.size w).alloc (Nat.le_refl _) (.cells #[.string a.var,.int .i64 a.sym.kind,.string a.sym.text,.int .i64 a.sym.n] 54))
 go_enter Try.func108,Try.ntmps108
 obtain ⟨W1,hW1⟩ : ∃W1,W1=w.alloc (.cells #[.string a.var,.int .i64 a.sym.kind,.string a.sym.text,.int .i64 a.sym.n] 54):=⟨_,rfl⟩
 go_wp2_with (first
  | fail)
 all_goals
  go_ret
  refine ⟨?_,by (first | exact HB.out | (exact (Below.refl _ _).alloc (Nat.le_refl _) _) | (simpa using HB.out))⟩
  rw [HR.out]
  refine ret_bool ?_
  first | (simp_all [wordAB];done) | (simp_all [wordAB];rfl)
set_option maxRecDepth 100000 in
set_option maxHeartbeats 8000000 in
theorem atomS_is (a:AtomT) (w:World):Calls Try.prog 99 #[.agg #[.string a.var,.int .i64 a.sym.kind,.string a.sym.text,.int .i64 a.sym.n]] w fun e w'=>e = .returned (.bool (atomB a))∧Below w.heap.size w w':=by
 obtain ⟨r,hr⟩ : ∃r,r=atomB a:=⟨_,rfl⟩
 rw [← hr]
 have HR:=Lib.hid hr
 clear hr
 have HB:=Lib.hid ((Below.refl w.heap.size w).alloc (Nat.le_refl _) (.cells #[.string a.var,.int .i64 a.sym.kind,.string a.sym.text,.int .i64 a.sym.n] 54))
 go_enter Try.func99,Try.ntmps99
 obtain ⟨W1,hW1⟩ : ∃W1,W1=w.alloc (.cells #[.string a.var,.int .i64 a.sym.kind,.string a.sym.text,.int .i64 a.sym.n] 54):=⟨_,rfl⟩
 go_wp2_with (first
  | (go_at_call 106;refine (none_is a.sym _).mono ?_;rintro e w9 ⟨rfl,hb9⟩;have HB:=Lib.hid (HB.out.trans (hb9.mono HB.out.size));clear hb9)
  | (go_at_call 107;refine (constant_is a.sym _).mono ?_;rintro e w9 ⟨rfl,hb9⟩;have HB:=Lib.hid (HB.out.trans (hb9.mono HB.out.size));clear hb9)
  | (go_at_call 86;refine (word_is a.var _).mono ?_;rintro e w9 ⟨rfl,rfl⟩))
 all_goals
  go_ret
  refine ⟨?_,by (first | exact HB.out | (exact (Below.refl _ _).alloc (Nat.le_refl _) _) | (simpa using HB.out))⟩
  rw [HR.out]
  refine ret_bool ?_
  first | (simp_all [atomB];done) | (simp_all [atomB];rfl)
set_option maxRecDepth 100000 in
set_option maxHeartbeats 8000000 in
theorem term_is (t:TermT) (w:World):Calls Try.prog 100 #[.agg #[.int .i64 t.op,.string t.a.var,.int .i64 t.a.sym.kind,.string t.a.sym.text,.int .i64 t.a.sym.n,.string t.b.var,.int .i64 t.b.sym.kind,.string t.b.sym.text,.int .i64 t.b.sym.n]] w fun e w'=>e = .returned (.bool (termB t))∧Below w.heap.size w w':=by
 by_cases c0:t.op<0
 · have t0:decide (t.op<0)=true:=by simp [*]
   have HR:=Lib.hid (show termB t=false by simp [termB, *])
   clear c0
   go_enter Try.func100,Try.ntmps100
   go_upto_region 1 with fail
   obtain ⟨W1,hW1⟩ : ∃W1,W1=w.alloc (.cells #[.int .i64 t.op,.string t.a.var,.int .i64 t.a.sym.kind,.string t.a.sym.text,.int .i64 t.a.sym.n,.string t.b.var,.int .i64 t.b.sym.kind,.string t.b.sym.text,.int .i64 t.b.sym.n] 56):=⟨_,rfl⟩
   rw [← hW1]
   have hBk:Blk W1 w.heap.size 56 #[.int .i64 t.op,.string t.a.var,.int .i64 t.a.sym.kind,.string t.a.sym.text,.int .i64 t.a.sym.n,.string t.b.var,.int .i64 t.b.sym.kind,.string t.b.sym.text,.int .i64 t.b.sym.n]:=by rw [hW1];exact Blk.new _ _ _
   have HB:=Lib.hid (show Below w.heap.size w W1 by rw [hW1];exact (Below.refl _ _).alloc (Nat.le_refl _) _)
   have e0:W1.cell? ⟨w.heap.size,0,none⟩=some (.int .i64 t.op):=(hBk.cell 0).trans rfl
   have e1:W1.cell? ⟨w.heap.size,1,none⟩=some (.string t.a.var):=(hBk.cell 1).trans rfl
   have e2:W1.cell? ⟨w.heap.size,2,none⟩=some (.int .i64 t.a.sym.kind):=(hBk.cell 2).trans rfl
   have e3:W1.cell? ⟨w.heap.size,3,none⟩=some (.string t.a.sym.text):=(hBk.cell 3).trans rfl
   have e4:W1.cell? ⟨w.heap.size,4,none⟩=some (.int .i64 t.a.sym.n):=(hBk.cell 4).trans rfl
   have e5:W1.cell? ⟨w.heap.size,5,none⟩=some (.string t.b.var):=(hBk.cell 5).trans rfl
   have e6:W1.cell? ⟨w.heap.size,6,none⟩=some (.int .i64 t.b.sym.kind):=(hBk.cell 6).trans rfl
   have e7:W1.cell? ⟨w.heap.size,7,none⟩=some (.string t.b.sym.text):=(hBk.cell 7).trans rfl
   have e8:W1.cell? ⟨w.heap.size,8,none⟩=some (.int .i64 t.b.sym.n):=(hBk.cell 8).trans rfl
   have hbl:=hBk.lt
   clear hW1 hBk
   go_wp2_with (first
    | (go_at_call 102;refine (empty_is t.b _).mono ?_;rintro e w9 ⟨rfl,hb9⟩;have HB:=Lib.hid (HB.out.trans (hb9.mono HB.out.size));replace e0:=(hb9.cell (p:=⟨w.heap.size,0,none⟩) hbl).trans e0;replace e1:=(hb9.cell (p:=⟨w.heap.size,1,none⟩) hbl).trans e1;replace e2:=(hb9.cell (p:=⟨w.heap.size,2,none⟩) hbl).trans e2;replace e3:=(hb9.cell (p:=⟨w.heap.size,3,none⟩) hbl).trans e3;replace e4:=(hb9.cell (p:=⟨w.heap.size,4,none⟩) hbl).trans e4;replace e5:=(hb9.cell (p:=⟨w.heap.size,5,none⟩) hbl).trans e5;replace e6:=(hb9.cell (p:=⟨w.heap.size,6,none⟩) hbl).trans e6;replace e7:=(hb9.cell (p:=⟨w.heap.size,7,none⟩) hbl).trans e7;replace e8:=(hb9.cell (p:=⟨w.heap.size,8,none⟩) hbl).trans e8;replace hbl:=Nat.lt_of_lt_of_le hbl hb9.size;clear hb9)
    | (go_at_call 99;(first | (with_reducible refine (atomS_is t.a _).mono ?_) | (with_reducible refine (atomS_is t.b _).mono ?_));rintro e w9 ⟨rfl,hb9⟩;have HB:=Lib.hid (HB.out.trans (hb9.mono HB.out.size));replace e0:=(hb9.cell (p:=⟨w.heap.size,0,none⟩) hbl).trans e0;replace e1:=(hb9.cell (p:=⟨w.heap.size,1,none⟩) hbl).trans e1;replace e2:=(hb9.cell (p:=⟨w.heap.size,2,none⟩) hbl).trans e2;replace e3:=(hb9.cell (p:=⟨w.heap.size,3,none⟩) hbl).trans e3;replace e4:=(hb9.cell (p:=⟨w.heap.size,4,none⟩) hbl).trans e4;replace e5:=(hb9.cell (p:=⟨w.heap.size,5,none⟩) hbl).trans e5;replace e6:=(hb9.cell (p:=⟨w.heap.size,6,none⟩) hbl).trans e6;replace e7:=(hb9.cell (p:=⟨w.heap.size,7,none⟩) hbl).trans e7;replace e8:=(hb9.cell (p:=⟨w.heap.size,8,none⟩) hbl).trans e8;replace hbl:=Nat.lt_of_lt_of_le hbl hb9.size;clear hb9)
    | (go_at_call 108;(first | (with_reducible refine (wordA_is t.a _).mono ?_) | (with_reducible refine (wordA_is t.b _).mono ?_));rintro e w9 ⟨rfl,hb9⟩;have HB:=Lib.hid (HB.out.trans (hb9.mono HB.out.size));replace e0:=(hb9.cell (p:=⟨w.heap.size,0,none⟩) hbl).trans e0;replace e1:=(hb9.cell (p:=⟨w.heap.size,1,none⟩) hbl).trans e1;replace e2:=(hb9.cell (p:=⟨w.heap.size,2,none⟩) hbl).trans e2;replace e3:=(hb9.cell (p:=⟨w.heap.size,3,none⟩) hbl).trans e3;replace e4:=(hb9.cell (p:=⟨w.heap.size,4,none⟩) hbl).trans e4;replace e5:=(hb9.cell (p:=⟨w.heap.size,5,none⟩) hbl).trans e5;replace e6:=(hb9.cell (p:=⟨w.heap.size,6,none⟩) hbl).trans e6;replace e7:=(hb9.cell (p:=⟨w.heap.size,7,none⟩) hbl).trans e7;replace e8:=(hb9.cell (p:=⟨w.heap.size,8,none⟩) hbl).trans e8;replace hbl:=Nat.lt_of_lt_of_le hbl hb9.size;clear hb9))
   go_ret
   exact ⟨by rw [HR.out]<;>rfl,by (first | exact HB.out | (exact (Below.refl _ _).alloc (Nat.le_refl _) _) | (simpa using HB.out))⟩
 by_cases c1:3<t.op
 · have t0:decide (t.op<0)=false:=by simp;omega
   have t1:decide (3<t.op)=true:=by simp [*]
   have HR:=Lib.hid (show termB t=false by simp [termB, *])
   clear c0 c1
   go_enter Try.func100,Try.ntmps100
   go_upto_region 1 with fail
   obtain ⟨W1,hW1⟩ : ∃W1,W1=w.alloc (.cells #[.int .i64 t.op,.string t.a.var,.int .i64 t.a.sym.kind,.string t.a.sym.text,.int .i64 t.a.sym.n,.string t.b.var,.int .i64 t.b.sym.kind,.string t.b.sym.text,.int .i64 t.b.sym.n] 56):=⟨_,rfl⟩
   rw [← hW1]
   have hBk:Blk W1 w.heap.size 56 #[.int .i64 t.op,.string t.a.var,.int .i64 t.a.sym.kind,.string t.a.sym.text,.int .i64 t.a.sym.n,.string t.b.var,.int .i64 t.b.sym.kind,.string t.b.sym.text,.int .i64 t.b.sym.n]:=by rw [hW1];exact Blk.new _ _ _
   have HB:=Lib.hid (show Below w.heap.size w W1 by rw [hW1];exact (Below.refl _ _).alloc (Nat.le_refl _) _)
   have e0:W1.cell? ⟨w.heap.size,0,none⟩=some (.int .i64 t.op):=(hBk.cell 0).trans rfl
   have e1:W1.cell? ⟨w.heap.size,1,none⟩=some (.string t.a.var):=(hBk.cell 1).trans rfl
   have e2:W1.cell? ⟨w.heap.size,2,none⟩=some (.int .i64 t.a.sym.kind):=(hBk.cell 2).trans rfl
   have e3:W1.cell? ⟨w.heap.size,3,none⟩=some (.string t.a.sym.text):=(hBk.cell 3).trans rfl
   have e4:W1.cell? ⟨w.heap.size,4,none⟩=some (.int .i64 t.a.sym.n):=(hBk.cell 4).trans rfl
   have e5:W1.cell? ⟨w.heap.size,5,none⟩=some (.string t.b.var):=(hBk.cell 5).trans rfl
   have e6:W1.cell? ⟨w.heap.size,6,none⟩=some (.int .i64 t.b.sym.kind):=(hBk.cell 6).trans rfl
   have e7:W1.cell? ⟨w.heap.size,7,none⟩=some (.string t.b.sym.text):=(hBk.cell 7).trans rfl
   have e8:W1.cell? ⟨w.heap.size,8,none⟩=some (.int .i64 t.b.sym.n):=(hBk.cell 8).trans rfl
   have hbl:=hBk.lt
   clear hW1 hBk
   go_wp2_with (first
    | (go_at_call 102;refine (empty_is t.b _).mono ?_;rintro e w9 ⟨rfl,hb9⟩;have HB:=Lib.hid (HB.out.trans (hb9.mono HB.out.size));replace e0:=(hb9.cell (p:=⟨w.heap.size,0,none⟩) hbl).trans e0;replace e1:=(hb9.cell (p:=⟨w.heap.size,1,none⟩) hbl).trans e1;replace e2:=(hb9.cell (p:=⟨w.heap.size,2,none⟩) hbl).trans e2;replace e3:=(hb9.cell (p:=⟨w.heap.size,3,none⟩) hbl).trans e3;replace e4:=(hb9.cell (p:=⟨w.heap.size,4,none⟩) hbl).trans e4;replace e5:=(hb9.cell (p:=⟨w.heap.size,5,none⟩) hbl).trans e5;replace e6:=(hb9.cell (p:=⟨w.heap.size,6,none⟩) hbl).trans e6;replace e7:=(hb9.cell (p:=⟨w.heap.size,7,none⟩) hbl).trans e7;replace e8:=(hb9.cell (p:=⟨w.heap.size,8,none⟩) hbl).trans e8;replace hbl:=Nat.lt_of_lt_of_le hbl hb9.size;clear hb9)
    | (go_at_call 99;(first | (with_reducible refine (atomS_is t.a _).mono ?_) | (with_reducible refine (atomS_is t.b _).mono ?_));rintro e w9 ⟨rfl,hb9⟩;have HB:=Lib.hid (HB.out.trans (hb9.mono HB.out.size));replace e0:=(hb9.cell (p:=⟨w.heap.size,0,none⟩) hbl).trans e0;replace e1:=(hb9.cell (p:=⟨w.heap.size,1,none⟩) hbl).trans e1;replace e2:=(hb9.cell (p:=⟨w.heap.size,2,none⟩) hbl).trans e2;replace e3:=(hb9.cell (p:=⟨w.heap.size,3,none⟩) hbl).trans e3;replace e4:=(hb9.cell (p:=⟨w.heap.size,4,none⟩) hbl).trans e4;replace e5:=(hb9.cell (p:=⟨w.heap.size,5,none⟩) hbl).trans e5;replace e6:=(hb9.cell (p:=⟨w.heap.size,6,none⟩) hbl).trans e6;replace e7:=(hb9.cell (p:=⟨w.heap.size,7,none⟩) hbl).trans e7;replace e8:=(hb9.cell (p:=⟨w.heap.size,8,none⟩) hbl).trans e8;replace hbl:=Nat.lt_of_lt_of_le hbl hb9.size;clear hb9)
    | (go_at_call 108;(first | (with_reducible refine (wordA_is t.a _).mono ?_) | (with_reducible refine (wordA_is t.b _).mono ?_));rintro e w9 ⟨rfl,hb9⟩;have HB:=Lib.hid (HB.out.trans (hb9.mono HB.out.size));replace e0:=(hb9.cell (p:=⟨w.heap.size,0,none⟩) hbl).trans e0;replace e1:=(hb9.cell (p:=⟨w.heap.size,1,none⟩) hbl).trans e1;replace e2:=(hb9.cell (p:=⟨w.heap.size,2,none⟩) hbl).trans e2;replace e3:=(hb9.cell (p:=⟨w.heap.size,3,none⟩) hbl).trans e3;replace e4:=(hb9.cell (p:=⟨w.heap.size,4,none⟩) hbl).trans e4;replace e5:=(hb9.cell (p:=⟨w.heap.size,5,none⟩) hbl).trans e5;replace e6:=(hb9.cell (p:=⟨w.heap.size,6,none⟩) hbl).trans e6;replace e7:=(hb9.cell (p:=⟨w.heap.size,7,none⟩) hbl).trans e7;replace e8:=(hb9.cell (p:=⟨w.heap.size,8,none⟩) hbl).trans e8;replace hbl:=Nat.lt_of_lt_of_le hbl hb9.size;clear hb9))
   go_ret
   exact ⟨by rw [HR.out]<;>rfl,by (first | exact HB.out | (exact (Below.refl _ _).alloc (Nat.le_refl _) _) | (simpa using HB.out))⟩
 by_cases c2:atomB t.a=false
 · have t0:decide (t.op<0)=false:=by simp;omega
   have t1:decide (3<t.op)=false:=by simp;omega
   have t2:=c2
   have HR:=Lib.hid (show termB t=false by simp [termB, *])
   clear c0 c1 c2
   go_enter Try.func100,Try.ntmps100
   go_upto_region 1 with fail
   obtain ⟨W1,hW1⟩ : ∃W1,W1=w.alloc (.cells #[.int .i64 t.op,.string t.a.var,.int .i64 t.a.sym.kind,.string t.a.sym.text,.int .i64 t.a.sym.n,.string t.b.var,.int .i64 t.b.sym.kind,.string t.b.sym.text,.int .i64 t.b.sym.n] 56):=⟨_,rfl⟩
   rw [← hW1]
   have hBk:Blk W1 w.heap.size 56 #[.int .i64 t.op,.string t.a.var,.int .i64 t.a.sym.kind,.string t.a.sym.text,.int .i64 t.a.sym.n,.string t.b.var,.int .i64 t.b.sym.kind,.string t.b.sym.text,.int .i64 t.b.sym.n]:=by rw [hW1];exact Blk.new _ _ _
   have HB:=Lib.hid (show Below w.heap.size w W1 by rw [hW1];exact (Below.refl _ _).alloc (Nat.le_refl _) _)
   have e0:W1.cell? ⟨w.heap.size,0,none⟩=some (.int .i64 t.op):=(hBk.cell 0).trans rfl
   have e1:W1.cell? ⟨w.heap.size,1,none⟩=some (.string t.a.var):=(hBk.cell 1).trans rfl
   have e2:W1.cell? ⟨w.heap.size,2,none⟩=some (.int .i64 t.a.sym.kind):=(hBk.cell 2).trans rfl
   have e3:W1.cell? ⟨w.heap.size,3,none⟩=some (.string t.a.sym.text):=(hBk.cell 3).trans rfl
   have e4:W1.cell? ⟨w.heap.size,4,none⟩=some (.int .i64 t.a.sym.n):=(hBk.cell 4).trans rfl
   have e5:W1.cell? ⟨w.heap.size,5,none⟩=some (.string t.b.var):=(hBk.cell 5).trans rfl
   have e6:W1.cell? ⟨w.heap.size,6,none⟩=some (.int .i64 t.b.sym.kind):=(hBk.cell 6).trans rfl
   have e7:W1.cell? ⟨w.heap.size,7,none⟩=some (.string t.b.sym.text):=(hBk.cell 7).trans rfl
   have e8:W1.cell? ⟨w.heap.size,8,none⟩=some (.int .i64 t.b.sym.n):=(hBk.cell 8).trans rfl
   have hbl:=hBk.lt
   clear hW1 hBk
   go_wp2_with (first
    | (go_at_call 102;refine (empty_is t.b _).mono ?_;rintro e w9 ⟨rfl,hb9⟩;have HB:=Lib.hid (HB.out.trans (hb9.mono HB.out.size));replace e0:=(hb9.cell (p:=⟨w.heap.size,0,none⟩) hbl).trans e0;replace e1:=(hb9.cell (p:=⟨w.heap.size,1,none⟩) hbl).trans e1;replace e2:=(hb9.cell (p:=⟨w.heap.size,2,none⟩) hbl).trans e2;replace e3:=(hb9.cell (p:=⟨w.heap.size,3,none⟩) hbl).trans e3;replace e4:=(hb9.cell (p:=⟨w.heap.size,4,none⟩) hbl).trans e4;replace e5:=(hb9.cell (p:=⟨w.heap.size,5,none⟩) hbl).trans e5;replace e6:=(hb9.cell (p:=⟨w.heap.size,6,none⟩) hbl).trans e6;replace e7:=(hb9.cell (p:=⟨w.heap.size,7,none⟩) hbl).trans e7;replace e8:=(hb9.cell (p:=⟨w.heap.size,8,none⟩) hbl).trans e8;replace hbl:=Nat.lt_of_lt_of_le hbl hb9.size;clear hb9)
    | (go_at_call 99;(first | (with_reducible refine (atomS_is t.a _).mono ?_) | (with_reducible refine (atomS_is t.b _).mono ?_));rintro e w9 ⟨rfl,hb9⟩;have HB:=Lib.hid (HB.out.trans (hb9.mono HB.out.size));replace e0:=(hb9.cell (p:=⟨w.heap.size,0,none⟩) hbl).trans e0;replace e1:=(hb9.cell (p:=⟨w.heap.size,1,none⟩) hbl).trans e1;replace e2:=(hb9.cell (p:=⟨w.heap.size,2,none⟩) hbl).trans e2;replace e3:=(hb9.cell (p:=⟨w.heap.size,3,none⟩) hbl).trans e3;replace e4:=(hb9.cell (p:=⟨w.heap.size,4,none⟩) hbl).trans e4;replace e5:=(hb9.cell (p:=⟨w.heap.size,5,none⟩) hbl).trans e5;replace e6:=(hb9.cell (p:=⟨w.heap.size,6,none⟩) hbl).trans e6;replace e7:=(hb9.cell (p:=⟨w.heap.size,7,none⟩) hbl).trans e7;replace e8:=(hb9.cell (p:=⟨w.heap.size,8,none⟩) hbl).trans e8;replace hbl:=Nat.lt_of_lt_of_le hbl hb9.size;clear hb9)
    | (go_at_call 108;(first | (with_reducible refine (wordA_is t.a _).mono ?_) | (with_reducible refine (wordA_is t.b _).mono ?_));rintro e w9 ⟨rfl,hb9⟩;have HB:=Lib.hid (HB.out.trans (hb9.mono HB.out.size));replace e0:=(hb9.cell (p:=⟨w.heap.size,0,none⟩) hbl).trans e0;replace e1:=(hb9.cell (p:=⟨w.heap.size,1,none⟩) hbl).trans e1;replace e2:=(hb9.cell (p:=⟨w.heap.size,2,none⟩) hbl).trans e2;replace e3:=(hb9.cell (p:=⟨w.heap.size,3,none⟩) hbl).trans e3;replace e4:=(hb9.cell (p:=⟨w.heap.size,4,none⟩) hbl).trans e4;replace e5:=(hb9.cell (p:=⟨w.heap.size,5,none⟩) hbl).trans e5;replace e6:=(hb9.cell (p:=⟨w.heap.size,6,none⟩) hbl).trans e6;replace e7:=(hb9.cell (p:=⟨w.heap.size,7,none⟩) hbl).trans e7;replace e8:=(hb9.cell (p:=⟨w.heap.size,8,none⟩) hbl).trans e8;replace hbl:=Nat.lt_of_lt_of_le hbl hb9.size;clear hb9))
   go_ret
   exact ⟨by rw [HR.out]<;>rfl,by (first | exact HB.out | (exact (Below.refl _ _).alloc (Nat.le_refl _) _) | (simpa using HB.out))⟩
 by_cases c3:t.op=0
 · have t0:decide (t.op<0)=false:=by simp;omega
   have t1:decide (3<t.op)=false:=by simp;omega
   have t2:atomB t.a=true:=by simpa using c2
   have t3:decide (t.op=0)=true:=by simp [*]
   have t3b:(t.op == 0)=true:=by simp [*]
   have HR:=Lib.hid (show termB t=emptyB t.b by simp [termB, *])
   clear c0 c1 c2 c3
   go_enter Try.func100,Try.ntmps100
   go_upto_region 1 with fail
   obtain ⟨W1,hW1⟩ : ∃W1,W1=w.alloc (.cells #[.int .i64 t.op,.string t.a.var,.int .i64 t.a.sym.kind,.string t.a.sym.text,.int .i64 t.a.sym.n,.string t.b.var,.int .i64 t.b.sym.kind,.string t.b.sym.text,.int .i64 t.b.sym.n] 56):=⟨_,rfl⟩
   rw [← hW1]
   have hBk:Blk W1 w.heap.size 56 #[.int .i64 t.op,.string t.a.var,.int .i64 t.a.sym.kind,.string t.a.sym.text,.int .i64 t.a.sym.n,.string t.b.var,.int .i64 t.b.sym.kind,.string t.b.sym.text,.int .i64 t.b.sym.n]:=by rw [hW1];exact Blk.new _ _ _
   have HB:=Lib.hid (show Below w.heap.size w W1 by rw [hW1];exact (Below.refl _ _).alloc (Nat.le_refl _) _)
   have e0:W1.cell? ⟨w.heap.size,0,none⟩=some (.int .i64 t.op):=(hBk.cell 0).trans rfl
   have e1:W1.cell? ⟨w.heap.size,1,none⟩=some (.string t.a.var):=(hBk.cell 1).trans rfl
   have e2:W1.cell? ⟨w.heap.size,2,none⟩=some (.int .i64 t.a.sym.kind):=(hBk.cell 2).trans rfl
   have e3:W1.cell? ⟨w.heap.size,3,none⟩=some (.string t.a.sym.text):=(hBk.cell 3).trans rfl
   have e4:W1.cell? ⟨w.heap.size,4,none⟩=some (.int .i64 t.a.sym.n):=(hBk.cell 4).trans rfl
   have e5:W1.cell? ⟨w.heap.size,5,none⟩=some (.string t.b.var):=(hBk.cell 5).trans rfl
   have e6:W1.cell? ⟨w.heap.size,6,none⟩=some (.int .i64 t.b.sym.kind):=(hBk.cell 6).trans rfl
   have e7:W1.cell? ⟨w.heap.size,7,none⟩=some (.string t.b.sym.text):=(hBk.cell 7).trans rfl
   have e8:W1.cell? ⟨w.heap.size,8,none⟩=some (.int .i64 t.b.sym.n):=(hBk.cell 8).trans rfl
   have hbl:=hBk.lt
   clear hW1 hBk
   go_wp2_with (first
    | (go_at_call 102;refine (empty_is t.b _).mono ?_;rintro e w9 ⟨rfl,hb9⟩;have HB:=Lib.hid (HB.out.trans (hb9.mono HB.out.size));replace e0:=(hb9.cell (p:=⟨w.heap.size,0,none⟩) hbl).trans e0;replace e1:=(hb9.cell (p:=⟨w.heap.size,1,none⟩) hbl).trans e1;replace e2:=(hb9.cell (p:=⟨w.heap.size,2,none⟩) hbl).trans e2;replace e3:=(hb9.cell (p:=⟨w.heap.size,3,none⟩) hbl).trans e3;replace e4:=(hb9.cell (p:=⟨w.heap.size,4,none⟩) hbl).trans e4;replace e5:=(hb9.cell (p:=⟨w.heap.size,5,none⟩) hbl).trans e5;replace e6:=(hb9.cell (p:=⟨w.heap.size,6,none⟩) hbl).trans e6;replace e7:=(hb9.cell (p:=⟨w.heap.size,7,none⟩) hbl).trans e7;replace e8:=(hb9.cell (p:=⟨w.heap.size,8,none⟩) hbl).trans e8;replace hbl:=Nat.lt_of_lt_of_le hbl hb9.size;clear hb9)
    | (go_at_call 99;(first | (with_reducible refine (atomS_is t.a _).mono ?_) | (with_reducible refine (atomS_is t.b _).mono ?_));rintro e w9 ⟨rfl,hb9⟩;have HB:=Lib.hid (HB.out.trans (hb9.mono HB.out.size));replace e0:=(hb9.cell (p:=⟨w.heap.size,0,none⟩) hbl).trans e0;replace e1:=(hb9.cell (p:=⟨w.heap.size,1,none⟩) hbl).trans e1;replace e2:=(hb9.cell (p:=⟨w.heap.size,2,none⟩) hbl).trans e2;replace e3:=(hb9.cell (p:=⟨w.heap.size,3,none⟩) hbl).trans e3;replace e4:=(hb9.cell (p:=⟨w.heap.size,4,none⟩) hbl).trans e4;replace e5:=(hb9.cell (p:=⟨w.heap.size,5,none⟩) hbl).trans e5;replace e6:=(hb9.cell (p:=⟨w.heap.size,6,none⟩) hbl).trans e6;replace e7:=(hb9.cell (p:=⟨w.heap.size,7,none⟩) hbl).trans e7;replace e8:=(hb9.cell (p:=⟨w.heap.size,8,none⟩) hbl).trans e8;replace hbl:=Nat.lt_of_lt_of_le hbl hb9.size;clear hb9)
    | (go_at_call 108;(first | (with_reducible refine (wordA_is t.a _).mono ?_) | (with_reducible refine (wordA_is t.b _).mono ?_));rintro e w9 ⟨rfl,hb9⟩;have HB:=Lib.hid (HB.out.trans (hb9.mono HB.out.size));replace e0:=(hb9.cell (p:=⟨w.heap.size,0,none⟩) hbl).trans e0;replace e1:=(hb9.cell (p:=⟨w.heap.size,1,none⟩) hbl).trans e1;replace e2:=(hb9.cell (p:=⟨w.heap.size,2,none⟩) hbl).trans e2;replace e3:=(hb9.cell (p:=⟨w.heap.size,3,none⟩) hbl).trans e3;replace e4:=(hb9.cell (p:=⟨w.heap.size,4,none⟩) hbl).trans e4;replace e5:=(hb9.cell (p:=⟨w.heap.size,5,none⟩) hbl).trans e5;replace e6:=(hb9.cell (p:=⟨w.heap.size,6,none⟩) hbl).trans e6;replace e7:=(hb9.cell (p:=⟨w.heap.size,7,none⟩) hbl).trans e7;replace e8:=(hb9.cell (p:=⟨w.heap.size,8,none⟩) hbl).trans e8;replace hbl:=Nat.lt_of_lt_of_le hbl hb9.size;clear hb9))
   go_ret
   exact ⟨by rw [HR.out]<;>rfl,by (first | exact HB.out | (exact (Below.refl _ _).alloc (Nat.le_refl _) _) | (simpa using HB.out))⟩
 by_cases c4:atomB t.b=false
 · have t0:decide (t.op<0)=false:=by simp;omega
   have t1:decide (3<t.op)=false:=by simp;omega
   have t2:atomB t.a=true:=by simpa using c2
   have t3:decide (t.op=0)=false:=by simp [*]
   have t3b:(t.op == 0)=false:=by simp [*]
   have t4:=c4
   have HR:=Lib.hid (show termB t=false by simp [termB, *])
   clear c0 c1 c2 c3 c4
   go_enter Try.func100,Try.ntmps100
   go_upto_region 1 with fail
   obtain ⟨W1,hW1⟩ : ∃W1,W1=w.alloc (.cells #[.int .i64 t.op,.string t.a.var,.int .i64 t.a.sym.kind,.string t.a.sym.text,.int .i64 t.a.sym.n,.string t.b.var,.int .i64 t.b.sym.kind,.string t.b.sym.text,.int .i64 t.b.sym.n] 56):=⟨_,rfl⟩
   rw [← hW1]
   have hBk:Blk W1 w.heap.size 56 #[.int .i64 t.op,.string t.a.var,.int .i64 t.a.sym.kind,.string t.a.sym.text,.int .i64 t.a.sym.n,.string t.b.var,.int .i64 t.b.sym.kind,.string t.b.sym.text,.int .i64 t.b.sym.n]:=by rw [hW1];exact Blk.new _ _ _
   have HB:=Lib.hid (show Below w.heap.size w W1 by rw [hW1];exact (Below.refl _ _).alloc (Nat.le_refl _) _)
   have e0:W1.cell? ⟨w.heap.size,0,none⟩=some (.int .i64 t.op):=(hBk.cell 0).trans rfl
   have e1:W1.cell? ⟨w.heap.size,1,none⟩=some (.string t.a.var):=(hBk.cell 1).trans rfl
   have e2:W1.cell? ⟨w.heap.size,2,none⟩=some (.int .i64 t.a.sym.kind):=(hBk.cell 2).trans rfl
   have e3:W1.cell? ⟨w.heap.size,3,none⟩=some (.string t.a.sym.text):=(hBk.cell 3).trans rfl
   have e4:W1.cell? ⟨w.heap.size,4,none⟩=some (.int .i64 t.a.sym.n):=(hBk.cell 4).trans rfl
   have e5:W1.cell? ⟨w.heap.size,5,none⟩=some (.string t.b.var):=(hBk.cell 5).trans rfl
   have e6:W1.cell? ⟨w.heap.size,6,none⟩=some (.int .i64 t.b.sym.kind):=(hBk.cell 6).trans rfl
   have e7:W1.cell? ⟨w.heap.size,7,none⟩=some (.string t.b.sym.text):=(hBk.cell 7).trans rfl
   have e8:W1.cell? ⟨w.heap.size,8,none⟩=some (.int .i64 t.b.sym.n):=(hBk.cell 8).trans rfl
   have hbl:=hBk.lt
   clear hW1 hBk
   go_wp2_with (first
    | (go_at_call 102;refine (empty_is t.b _).mono ?_;rintro e w9 ⟨rfl,hb9⟩;have HB:=Lib.hid (HB.out.trans (hb9.mono HB.out.size));replace e0:=(hb9.cell (p:=⟨w.heap.size,0,none⟩) hbl).trans e0;replace e1:=(hb9.cell (p:=⟨w.heap.size,1,none⟩) hbl).trans e1;replace e2:=(hb9.cell (p:=⟨w.heap.size,2,none⟩) hbl).trans e2;replace e3:=(hb9.cell (p:=⟨w.heap.size,3,none⟩) hbl).trans e3;replace e4:=(hb9.cell (p:=⟨w.heap.size,4,none⟩) hbl).trans e4;replace e5:=(hb9.cell (p:=⟨w.heap.size,5,none⟩) hbl).trans e5;replace e6:=(hb9.cell (p:=⟨w.heap.size,6,none⟩) hbl).trans e6;replace e7:=(hb9.cell (p:=⟨w.heap.size,7,none⟩) hbl).trans e7;replace e8:=(hb9.cell (p:=⟨w.heap.size,8,none⟩) hbl).trans e8;replace hbl:=Nat.lt_of_lt_of_le hbl hb9.size;clear hb9)
    | (go_at_call 99;(first | (with_reducible refine (atomS_is t.a _).mono ?_) | (with_reducible refine (atomS_is t.b _).mono ?_));rintro e w9 ⟨rfl,hb9⟩;have HB:=Lib.hid (HB.out.trans (hb9.mono HB.out.size));replace e0:=(hb9.cell (p:=⟨w.heap.size,0,none⟩) hbl).trans e0;replace e1:=(hb9.cell (p:=⟨w.heap.size,1,none⟩) hbl).trans e1;replace e2:=(hb9.cell (p:=⟨w.heap.size,2,none⟩) hbl).trans e2;replace e3:=(hb9.cell (p:=⟨w.heap.size,3,none⟩) hbl).trans e3;replace e4:=(hb9.cell (p:=⟨w.heap.size,4,none⟩) hbl).trans e4;replace e5:=(hb9.cell (p:=⟨w.heap.size,5,none⟩) hbl).trans e5;replace e6:=(hb9.cell (p:=⟨w.heap.size,6,none⟩) hbl).trans e6;replace e7:=(hb9.cell (p:=⟨w.heap.size,7,none⟩) hbl).trans e7;replace e8:=(hb9.cell (p:=⟨w.heap.size,8,none⟩) hbl).trans e8;replace hbl:=Nat.lt_of_lt_of_le hbl hb9.size;clear hb9)
    | (go_at_call 108;(first | (with_reducible refine (wordA_is t.a _).mono ?_) | (with_reducible refine (wordA_is t.b _).mono ?_));rintro e w9 ⟨rfl,hb9⟩;have HB:=Lib.hid (HB.out.trans (hb9.mono HB.out.size));replace e0:=(hb9.cell (p:=⟨w.heap.size,0,none⟩) hbl).trans e0;replace e1:=(hb9.cell (p:=⟨w.heap.size,1,none⟩) hbl).trans e1;replace e2:=(hb9.cell (p:=⟨w.heap.size,2,none⟩) hbl).trans e2;replace e3:=(hb9.cell (p:=⟨w.heap.size,3,none⟩) hbl).trans e3;replace e4:=(hb9.cell (p:=⟨w.heap.size,4,none⟩) hbl).trans e4;replace e5:=(hb9.cell (p:=⟨w.heap.size,5,none⟩) hbl).trans e5;replace e6:=(hb9.cell (p:=⟨w.heap.size,6,none⟩) hbl).trans e6;replace e7:=(hb9.cell (p:=⟨w.heap.size,7,none⟩) hbl).trans e7;replace e8:=(hb9.cell (p:=⟨w.heap.size,8,none⟩) hbl).trans e8;replace hbl:=Nat.lt_of_lt_of_le hbl hb9.size;clear hb9))
   go_ret
   exact ⟨by rw [HR.out]<;>rfl,by (first | exact HB.out | (exact (Below.refl _ _).alloc (Nat.le_refl _) _) | (simpa using HB.out))⟩
 by_cases c5:wordAB t.a=true
 · have t0:decide (t.op<0)=false:=by simp;omega
   have t1:decide (3<t.op)=false:=by simp;omega
   have t2:atomB t.a=true:=by simpa using c2
   have t3:decide (t.op=0)=false:=by simp [*]
   have t3b:(t.op == 0)=false:=by simp [*]
   have t4:atomB t.b=true:=by simpa using c4
   have t5:=c5
   have HR:=Lib.hid (show termB t=false by simp [termB, *])
   clear c0 c1 c2 c3 c4 c5
   go_enter Try.func100,Try.ntmps100
   go_upto_region 1 with fail
   obtain ⟨W1,hW1⟩ : ∃W1,W1=w.alloc (.cells #[.int .i64 t.op,.string t.a.var,.int .i64 t.a.sym.kind,.string t.a.sym.text,.int .i64 t.a.sym.n,.string t.b.var,.int .i64 t.b.sym.kind,.string t.b.sym.text,.int .i64 t.b.sym.n] 56):=⟨_,rfl⟩
   rw [← hW1]
   have hBk:Blk W1 w.heap.size 56 #[.int .i64 t.op,.string t.a.var,.int .i64 t.a.sym.kind,.string t.a.sym.text,.int .i64 t.a.sym.n,.string t.b.var,.int .i64 t.b.sym.kind,.string t.b.sym.text,.int .i64 t.b.sym.n]:=by rw [hW1];exact Blk.new _ _ _
   have HB:=Lib.hid (show Below w.heap.size w W1 by rw [hW1];exact (Below.refl _ _).alloc (Nat.le_refl _) _)
   have e0:W1.cell? ⟨w.heap.size,0,none⟩=some (.int .i64 t.op):=(hBk.cell 0).trans rfl
   have e1:W1.cell? ⟨w.heap.size,1,none⟩=some (.string t.a.var):=(hBk.cell 1).trans rfl
   have e2:W1.cell? ⟨w.heap.size,2,none⟩=some (.int .i64 t.a.sym.kind):=(hBk.cell 2).trans rfl
   have e3:W1.cell? ⟨w.heap.size,3,none⟩=some (.string t.a.sym.text):=(hBk.cell 3).trans rfl
   have e4:W1.cell? ⟨w.heap.size,4,none⟩=some (.int .i64 t.a.sym.n):=(hBk.cell 4).trans rfl
   have e5:W1.cell? ⟨w.heap.size,5,none⟩=some (.string t.b.var):=(hBk.cell 5).trans rfl
   have e6:W1.cell? ⟨w.heap.size,6,none⟩=some (.int .i64 t.b.sym.kind):=(hBk.cell 6).trans rfl
   have e7:W1.cell? ⟨w.heap.size,7,none⟩=some (.string t.b.sym.text):=(hBk.cell 7).trans rfl
   have e8:W1.cell? ⟨w.heap.size,8,none⟩=some (.int .i64 t.b.sym.n):=(hBk.cell 8).trans rfl
   have hbl:=hBk.lt
   clear hW1 hBk
   go_wp2_with (first
    | (go_at_call 102;refine (empty_is t.b _).mono ?_;rintro e w9 ⟨rfl,hb9⟩;have HB:=Lib.hid (HB.out.trans (hb9.mono HB.out.size));replace e0:=(hb9.cell (p:=⟨w.heap.size,0,none⟩) hbl).trans e0;replace e1:=(hb9.cell (p:=⟨w.heap.size,1,none⟩) hbl).trans e1;replace e2:=(hb9.cell (p:=⟨w.heap.size,2,none⟩) hbl).trans e2;replace e3:=(hb9.cell (p:=⟨w.heap.size,3,none⟩) hbl).trans e3;replace e4:=(hb9.cell (p:=⟨w.heap.size,4,none⟩) hbl).trans e4;replace e5:=(hb9.cell (p:=⟨w.heap.size,5,none⟩) hbl).trans e5;replace e6:=(hb9.cell (p:=⟨w.heap.size,6,none⟩) hbl).trans e6;replace e7:=(hb9.cell (p:=⟨w.heap.size,7,none⟩) hbl).trans e7;replace e8:=(hb9.cell (p:=⟨w.heap.size,8,none⟩) hbl).trans e8;replace hbl:=Nat.lt_of_lt_of_le hbl hb9.size;clear hb9)
    | (go_at_call 99;(first | (with_reducible refine (atomS_is t.a _).mono ?_) | (with_reducible refine (atomS_is t.b _).mono ?_));rintro e w9 ⟨rfl,hb9⟩;have HB:=Lib.hid (HB.out.trans (hb9.mono HB.out.size));replace e0:=(hb9.cell (p:=⟨w.heap.size,0,none⟩) hbl).trans e0;replace e1:=(hb9.cell (p:=⟨w.heap.size,1,none⟩) hbl).trans e1;replace e2:=(hb9.cell (p:=⟨w.heap.size,2,none⟩) hbl).trans e2;replace e3:=(hb9.cell (p:=⟨w.heap.size,3,none⟩) hbl).trans e3;replace e4:=(hb9.cell (p:=⟨w.heap.size,4,none⟩) hbl).trans e4;replace e5:=(hb9.cell (p:=⟨w.heap.size,5,none⟩) hbl).trans e5;replace e6:=(hb9.cell (p:=⟨w.heap.size,6,none⟩) hbl).trans e6;replace e7:=(hb9.cell (p:=⟨w.heap.size,7,none⟩) hbl).trans e7;replace e8:=(hb9.cell (p:=⟨w.heap.size,8,none⟩) hbl).trans e8;replace hbl:=Nat.lt_of_lt_of_le hbl hb9.size;clear hb9)
    | (go_at_call 108;(first | (with_reducible refine (wordA_is t.a _).mono ?_) | (with_reducible refine (wordA_is t.b _).mono ?_));rintro e w9 ⟨rfl,hb9⟩;have HB:=Lib.hid (HB.out.trans (hb9.mono HB.out.size));replace e0:=(hb9.cell (p:=⟨w.heap.size,0,none⟩) hbl).trans e0;replace e1:=(hb9.cell (p:=⟨w.heap.size,1,none⟩) hbl).trans e1;replace e2:=(hb9.cell (p:=⟨w.heap.size,2,none⟩) hbl).trans e2;replace e3:=(hb9.cell (p:=⟨w.heap.size,3,none⟩) hbl).trans e3;replace e4:=(hb9.cell (p:=⟨w.heap.size,4,none⟩) hbl).trans e4;replace e5:=(hb9.cell (p:=⟨w.heap.size,5,none⟩) hbl).trans e5;replace e6:=(hb9.cell (p:=⟨w.heap.size,6,none⟩) hbl).trans e6;replace e7:=(hb9.cell (p:=⟨w.heap.size,7,none⟩) hbl).trans e7;replace e8:=(hb9.cell (p:=⟨w.heap.size,8,none⟩) hbl).trans e8;replace hbl:=Nat.lt_of_lt_of_le hbl hb9.size;clear hb9))
   go_ret
   exact ⟨by rw [HR.out]<;>rfl,by (first | exact HB.out | (exact (Below.refl _ _).alloc (Nat.le_refl _) _) | (simpa using HB.out))⟩
 have t0:decide (t.op<0)=false:=by simp;omega
 have t1:decide (3<t.op)=false:=by simp;omega
 have t2:atomB t.a=true:=by simpa using c2
 have t3:decide (t.op=0)=false:=by simp [*]
 have t3b:(t.op == 0)=false:=by simp [*]
 have t4:atomB t.b=true:=by simpa using c4
 have t5:wordAB t.a=false:=by simpa using c5
 have HR:=Lib.hid (show termB t=(!wordAB t.b) by simp [termB, *])
 clear c0 c1 c2 c3 c4 c5
 go_enter Try.func100,Try.ntmps100
 go_upto_region 1 with fail
 obtain ⟨W1,hW1⟩ : ∃W1,W1=w.alloc (.cells #[.int .i64 t.op,.string t.a.var,.int .i64 t.a.sym.kind,.string t.a.sym.text,.int .i64 t.a.sym.n,.string t.b.var,.int .i64 t.b.sym.kind,.string t.b.sym.text,.int .i64 t.b.sym.n] 56):=⟨_,rfl⟩
 rw [← hW1]
 have hBk:Blk W1 w.heap.size 56 #[.int .i64 t.op,.string t.a.var,.int .i64 t.a.sym.kind,.string t.a.sym.text,.int .i64 t.a.sym.n,.string t.b.var,.int .i64 t.b.sym.kind,.string t.b.sym.text,.int .i64 t.b.sym.n]:=by rw [hW1];exact Blk.new _ _ _
 have HB:=Lib.hid (show Below w.heap.size w W1 by rw [hW1];exact (Below.refl _ _).alloc (Nat.le_refl _) _)
 have e0:W1.cell? ⟨w.heap.size,0,none⟩=some (.int .i64 t.op):=(hBk.cell 0).trans rfl
 have e1:W1.cell? ⟨w.heap.size,1,none⟩=some (.string t.a.var):=(hBk.cell 1).trans rfl
 have e2:W1.cell? ⟨w.heap.size,2,none⟩=some (.int .i64 t.a.sym.kind):=(hBk.cell 2).trans rfl
 have e3:W1.cell? ⟨w.heap.size,3,none⟩=some (.string t.a.sym.text):=(hBk.cell 3).trans rfl
 have e4:W1.cell? ⟨w.heap.size,4,none⟩=some (.int .i64 t.a.sym.n):=(hBk.cell 4).trans rfl
 have e5:W1.cell? ⟨w.heap.size,5,none⟩=some (.string t.b.var):=(hBk.cell 5).trans rfl
 have e6:W1.cell? ⟨w.heap.size,6,none⟩=some (.int .i64 t.b.sym.kind):=(hBk.cell 6).trans rfl
 have e7:W1.cell? ⟨w.heap.size,7,none⟩=some (.string t.b.sym.text):=(hBk.cell 7).trans rfl
 have e8:W1.cell? ⟨w.heap.size,8,none⟩=some (.int .i64 t.b.sym.n):=(hBk.cell 8).trans rfl
 have hbl:=hBk.lt
 clear hW1 hBk
 go_wp2_with (first
  | (go_at_call 102;refine (empty_is t.b _).mono ?_;rintro e w9 ⟨rfl,hb9⟩;have HB:=Lib.hid (HB.out.trans (hb9.mono HB.out.size));replace e0:=(hb9.cell (p:=⟨w.heap.size,0,none⟩) hbl).trans e0;replace e1:=(hb9.cell (p:=⟨w.heap.size,1,none⟩) hbl).trans e1;replace e2:=(hb9.cell (p:=⟨w.heap.size,2,none⟩) hbl).trans e2;replace e3:=(hb9.cell (p:=⟨w.heap.size,3,none⟩) hbl).trans e3;replace e4:=(hb9.cell (p:=⟨w.heap.size,4,none⟩) hbl).trans e4;replace e5:=(hb9.cell (p:=⟨w.heap.size,5,none⟩) hbl).trans e5;replace e6:=(hb9.cell (p:=⟨w.heap.size,6,none⟩) hbl).trans e6;replace e7:=(hb9.cell (p:=⟨w.heap.size,7,none⟩) hbl).trans e7;replace e8:=(hb9.cell (p:=⟨w.heap.size,8,none⟩) hbl).trans e8;replace hbl:=Nat.lt_of_lt_of_le hbl hb9.size;clear hb9)
  | (go_at_call 99;(first | (with_reducible refine (atomS_is t.a _).mono ?_) | (with_reducible refine (atomS_is t.b _).mono ?_));rintro e w9 ⟨rfl,hb9⟩;have HB:=Lib.hid (HB.out.trans (hb9.mono HB.out.size));replace e0:=(hb9.cell (p:=⟨w.heap.size,0,none⟩) hbl).trans e0;replace e1:=(hb9.cell (p:=⟨w.heap.size,1,none⟩) hbl).trans e1;replace e2:=(hb9.cell (p:=⟨w.heap.size,2,none⟩) hbl).trans e2;replace e3:=(hb9.cell (p:=⟨w.heap.size,3,none⟩) hbl).trans e3;replace e4:=(hb9.cell (p:=⟨w.heap.size,4,none⟩) hbl).trans e4;replace e5:=(hb9.cell (p:=⟨w.heap.size,5,none⟩) hbl).trans e5;replace e6:=(hb9.cell (p:=⟨w.heap.size,6,none⟩) hbl).trans e6;replace e7:=(hb9.cell (p:=⟨w.heap.size,7,none⟩) hbl).trans e7;replace e8:=(hb9.cell (p:=⟨w.heap.size,8,none⟩) hbl).trans e8;replace hbl:=Nat.lt_of_lt_of_le hbl hb9.size;clear hb9)
  | (go_at_call 108;(first | (with_reducible refine (wordA_is t.a _).mono ?_) | (with_reducible refine (wordA_is t.b _).mono ?_));rintro e w9 ⟨rfl,hb9⟩;have HB:=Lib.hid (HB.out.trans (hb9.mono HB.out.size));replace e0:=(hb9.cell (p:=⟨w.heap.size,0,none⟩) hbl).trans e0;replace e1:=(hb9.cell (p:=⟨w.heap.size,1,none⟩) hbl).trans e1;replace e2:=(hb9.cell (p:=⟨w.heap.size,2,none⟩) hbl).trans e2;replace e3:=(hb9.cell (p:=⟨w.heap.size,3,none⟩) hbl).trans e3;replace e4:=(hb9.cell (p:=⟨w.heap.size,4,none⟩) hbl).trans e4;replace e5:=(hb9.cell (p:=⟨w.heap.size,5,none⟩) hbl).trans e5;replace e6:=(hb9.cell (p:=⟨w.heap.size,6,none⟩) hbl).trans e6;replace e7:=(hb9.cell (p:=⟨w.heap.size,7,none⟩) hbl).trans e7;replace e8:=(hb9.cell (p:=⟨w.heap.size,8,none⟩) hbl).trans e8;replace hbl:=Nat.lt_of_lt_of_le hbl hb9.size;clear hb9))
 go_ret
 exact ⟨by rw [HR.out]<;>rfl,by (first | exact HB.out | (exact (Below.refl _ _).alloc (Nat.le_refl _) _) | (simpa using HB.out))⟩
end Go.Proofs.Ytffemfglngikbaa
namespace Go.Proofs.Ytffemfglngikbaa
open Go.RowKit Go.Shelf
attribute [local go_sem] Oper.semAt_some
set_option maxRecDepth 100000 in
set_option maxHeartbeats 8000000 in
theorem one_is {gf:Nat} {lb:Array Value} {w0:World} {Q:ByteArray→Prop} {t:ByteArray→ByteArray} (hN:NamerOk gf lb w0 Q t) (v:ByteArray) (w:World) (hw:Below w0.heap.size w0 w) (hq:QV Q v) :
 Calls Try.prog 34 #[.func (.func gf) #[] lb,.string v] w fun e w'=>e = .returned (.string (oneR t v))∧Below w.heap.size w w':=by
 by_cases hv:v.toList = []
 · skip
   have va:(v.toList == [])=true:=by simp [hv]
   have vb:v.toList.isEmpty=true:=by simp [hv]
   have vc:decide (v.toList = [])=true:=by simp [hv]
   have HR:=Lib.hid (show oneR t v=⟨#[]⟩ by unfold oneR;rw [if_pos hv])
   clear hv hq
   go_enter Try.func34,Try.ntmps34
   go_wp2_with fail
   go_ret
   exact ⟨by rw [HR.out]<;>rfl,Below.refl _ _⟩
 · skip
   have va:(v.toList == [])=false:=by simp [hv]
   have vb:v.toList.isEmpty=false:=by simp [hv]
   have vc:decide (v.toList = [])=false:=by simp [hv]
   have HR:=Lib.hid (show oneR t v=t v by unfold oneR;rw [if_neg hv])
   have HC:=Lib.hid (hN.call v w hw (hq hv))
   have hent:=hN.ent
   clear hv hq hN hw
   go_enter Try.func34,Try.ntmps34
   go_wp2_with fail
   refine HC.out.mono ?_
   rintro e w5 ⟨rfl,hb5⟩
   have HB5:=Lib.hid hb5
   clear hb5 hent
   go_wp2_with fail
   go_ret
   exact ⟨by rw [HR.out]<;>rfl,HB5.out⟩
set_option maxRecDepth 100000 in
set_option maxHeartbeats 8000000 in
theorem catom_is {gf:Nat} {lb:Array Value} {w0:World} {Q:ByteArray→Prop} {t:ByteArray→ByteArray} (hN:NamerOk gf lb w0 Q t) (a:AtomT) (w:World) (hw:Below w0.heap.size w0 w) (hq:QV Q a.var) :
 Calls Try.prog 35 #[.func (.func gf) #[] lb,.agg #[.string a.var,.int .i64 a.sym.kind,.string a.sym.text,.int .i64 a.sym.n]] w fun e w'=>e = .returned (.agg #[.string (oneR t a.var),.int .i64 a.sym.kind,.string a.sym.text,.int .i64 a.sym.n])∧Below w.heap.size w w':=by
 have HON:=Lib.hid (show ∀W,Below w.heap.size w W→_ from fun W hW=>one_is hN a.var W (hw.trans (hW.mono hw.size)) hq)
 clear hN hw hq
 go_enter Try.func35,Try.ntmps35
 go_upto_region 1 with fail
 obtain ⟨w1,hw1⟩ : ∃w1,w1=((w.alloc (.cells #[.string a.var,.int .i64 a.sym.kind,.string a.sym.text,.int .i64 a.sym.n] 54)).alloc (.cells #[.string ⟨#[]⟩,.int .i64 0,.string ⟨#[]⟩,.int .i64 0] 54)):=⟨_,rfl⟩
 rw [← hw1]
 have HB:=Lib.hid (show Below w.heap.size w w1 by rw [hw1];exact (by repeat (first | exact Below.refl _ _ | refine Below.drew ?_ | refine Below.al ?_ _ | refine Below.sc ?_ _)))
 have Ka:=Lib.hid (show Blk w1 (w.heap.size) 54 #[.string a.var,.int .i64 a.sym.kind,.string a.sym.text,.int .i64 a.sym.n] by rw [hw1];exact ((Blk.new w 54 #[.string a.var,.int .i64 a.sym.kind,.string a.sym.text,.int .i64 a.sym.n]).alloc (.cells #[.string ⟨#[]⟩,.int .i64 0,.string ⟨#[]⟩,.int .i64 0] 54)))
 have Kr:=Lib.hid (show Blk w1 (w.heap.size+1) 54 #[.string ⟨#[]⟩,.int .i64 0,.string ⟨#[]⟩,.int .i64 0] by rw [hw1];have hh:=(Blk.new (w.alloc (.cells #[.string a.var,.int .i64 a.sym.kind,.string a.sym.text,.int .i64 a.sym.n] 54)) 54 #[.string ⟨#[]⟩,.int .i64 0,.string ⟨#[]⟩,.int .i64 0]);simp only [World.size_alloc] at hh;exact hh)
 clear hw1
 obtain ⟨a0,a1,a2,a3⟩:=Ka.out.c4
 have az:=Ka.out.lt
 obtain ⟨r0,r1,r2,r3⟩:=Kr.out.c4
 have rf0:=Kr.out.frozen 0
 have rf1:=Kr.out.frozen 1
 have rf2:=Kr.out.frozen 2
 have rf3:=Kr.out.frozen 3
 have rz:=Kr.out.lt
 go_upto_region 1 with fail
 refine wp_region_E (fun w9=>Below w1.heap.size w1 w9) [(0,0),(1,0),(2,1),(4,0),(5,1),(3,2),(6,0),(7,2)] (by kernel_rfl) (by kernel_rfl) (fun KK hKK=>?_)
 simp only [beside,List.filterMap_cons,List.filterMap_nil,List.getElem?_toArray,List.getElem?_cons_zero,List.getElem?_cons_succ,Option.map_some]
 repeat ((first | (refine wpX_w ?_ (Or.inl ⟨by rfl,fun w9=>?_⟩) ?_;rotate_left 1;go_simp;with_reducible rfl) | (refine wpX_l ?_ (((Below.refl _ _).drew)) (Or.inl ⟨by rfl,fun w9 hw9=>?_⟩) ?_;rotate_left 1;obtain ⟨hc9,hf9⟩:=bcell hw9;go_simp;with_reducible rfl) | refine wpX_w undef (Or.inr ⟨by rfl,rfl⟩) ?_ | refine wpX_l undef (((Below.refl _ _).drew)) (Or.inr ⟨by rfl,rfl⟩) ?_);go_frame)
 refine wpX_es (fun K9 hK9=>?_)
 go_simp
 refine (HON.out _ (HB.out.drew)).mono ?_
 rintro e w5 ⟨rfl,hb5⟩
 have HB5:=Lib.hid (show Below w1.heap.size w1 w5 from ((Below.refl w1.heap.size w1).drew).trans hb5)
 have Kr:=Lib.hid (Kr.out.new_ HB5.out)
 clear hb5
 refine hK9 _ _ HB5.out ?_
 clear hK9 K9
 repeat ((first | (refine wpX_w ?_ (Or.inl ⟨by rfl,fun w9=>?_⟩) ?_;rotate_left 1;go_simp;with_reducible rfl) | (refine wpX_l ?_ (HB5.out) (Or.inl ⟨by rfl,fun w9 hw9=>?_⟩) ?_;rotate_left 1;obtain ⟨hc9,hf9⟩:=bcell hw9;go_simp;with_reducible rfl) | refine wpX_w undef (Or.inr ⟨by rfl,rfl⟩) ?_ | refine wpX_l undef (HB5.out) (Or.inr ⟨by rfl,rfl⟩) ?_);go_frame)
 refine wpX_e (by kernel_rfl) (fun K9 hK9=>?_)
 refine step_store_el rfl 54 _ _ rfl (w.heap.size+1) 0 #[Value.string (oneR t a.var),Value.int IntKind.i64 a.sym.kind,Value.string a.sym.text,Value.int IntKind.i64 a.sym.n] rfl rfl (show _ from Kr.out.there) (by kernel_rfl) (by kernel_rfl) ?_
 refine hK9 _ _ ?_
 clear hK9 K9
 refine wpX_nil ?_
 simp only [OnlyN_normal]
 refine hKK _ _ ?_
 clear hKK KK
 have HT9:=Lib.hid (show w5.there (w.heap.size+1) 0 (#[Value.string (oneR t a.var),Value.int IntKind.i64 a.sym.kind,Value.string a.sym.text,Value.int IntKind.i64 a.sym.n]:Array Value).size from Kr.out.there)
 go_wp2_with fail
 try simp only [Exit.inBlock,Exit.then]
 refine bodyPost_ret (v:=.agg #[.string (oneR t a.var),.int .i64 a.sym.kind,.string a.sym.text,.int .i64 a.sym.n]) ?_ rfl ⟨rfl,Below.setCells' _ _ (HB.out.trans (HB5.out.mono HB.out.size)) (by omega)⟩
 exact results_cell (t:=4) (T:=54) rfl _ _ (w.heap.size+1) [Value.string (oneR t a.var),Value.int IntKind.i64 a.sym.kind,Value.string a.sym.text,Value.int IntKind.i64 a.sym.n] _ rfl (World.rangeAt_setCells_same w5 (w.heap.size+1) 0 [Value.string (oneR t a.var),Value.int IntKind.i64 a.sym.kind,Value.string a.sym.text,Value.int IntKind.i64 a.sym.n] HT9.out) Try.underlying54 rfl (by kernel_rfl)
end Go.Proofs.Ytffemfglngikbaa
namespace Go.Proofs.Ytffemfglngikbaa
open Go.RowKit Go.Shelf
set_option maxRecDepth 100000 in
set_option maxHeartbeats 8000000 in
theorem ctests_is {gf:Nat} {lb:Array Value} {w0:World} {Q:ByteArray→Prop} {t:ByteArray→ByteArray} (hN:NamerOk gf lb w0 Q t) (A:Option Addr) (c:Nat) (l:List TestT) {D:Nat→Prop} (w:World) (hw:Below w0.heap.size w0 w) (hrd:RowR repTestT D w A c l) (hs:SmT l) (hq:QT Q l) :
 Calls Try.prog 58 #[.func (.func gf) #[] lb,.slice A l.length c] w (FreshR repTestT (l.map (testR t)) w):=by
 obtain ⟨i0,hi0,hz0,hz1,hz2⟩:=infp inf_Sym
 obtain ⟨j0,hj0,hy0,hy1,hy2⟩:=infp inf_Test
 have hlc:=hrd.cap
 have hl1:=hs.1
 have HRD:=Lib.hid hrd
 have HS:=Lib.hid hs
 have HQ:=Lib.hid hq
 have HON:=Lib.hid (show ∀v W,Below w.heap.size w W→QV Q v→_ from fun v W hW hv=>one_is hN v W (hw.trans (hW.mono hw.size)) hv)
 obtain ⟨L,hL⟩ : ∃L,L=l.map (testR t):=⟨_,rfl⟩
 rw [← hL]
 have HLL:=Lib.hid (show L.length=l.length by rw [hL,List.length_map])
 have HLG:=Lib.hid (show ∀k,(h:k<l.length)→∃h':k<L.length,L[k]=testR t l[k] from fun k h=>⟨by rw [hL,List.length_map];exact h,by simp [hL]⟩)
 clear hrd hs hq hN hw hL
 go_enter Try.func58,Try.ntmps58
 go_wp2_with fail
 go_loopw [5,10] (fun v i wr=>∃k:Nat,i = .int .i64 k∧k≤l.length∧Copies repTestT 65 w (L.take k) v wr) (fun v i wr=>l.length - (intOf i).toNat)
 case atStart=>exact ⟨0,rfl,Nat.zero_le _,Copies.nil _ _ _ (Below.refl _ _)⟩
 case round=>
  obtain ⟨k,rfl,hk,hC⟩:=hrel
  obtain ⟨C,A1,c1,rfl,h1,h2,h3,h4⟩:=hC
  have hkL:(L.take k).length=k:=take_len (by rw [HLL.out];exact hk)
  rw [hkL]
  by_cases hlt:k<l.length
  · have hrw:=HRD.out.keep (D':=D) h4.size (fun j hj hl=>⟨hj,h4.block j hl⟩)
    obtain ⟨g,off,A3,c3,rfl,hDg,hg,q0,q1,q2,q3,q4,q5,hr3⟩:=at_TestT hrw hlt
    obtain ⟨y,hy⟩ : ∃y,y=l[k]:=⟨_,rfl⟩
    have hy3:y.list.length≤1000:=by rw [hy];exact HS.out.2 _ (List.getElem_mem hlt)
    have HQY:=Lib.hid (show QV Q y.var from fun h=>by rw [hy] at h ⊢;exact HQ.out _ (List.getElem_mem hlt) h)
    rw [← hy] at q0 q1 q2 q3 q4 q5 hr3
    have hr4:=RowR.rd (hs:=Sym.cells_length) hr3
    have hl3:=hr3.cap
    have b1:(0:Int)≤(k:Int):=by omega
    have b2:(k:Int)<(l.length:Int):=by omega
    have HZ:=Lib.hid (show L.take k ++ [testR t y]=L.take (k+1) by
     obtain ⟨h',e⟩:=HLG.out k hlt
     rw [hy,← e]
     exact take_snoc h')
    have H1:=Lib.hid h1
    have H2:=Lib.hid h2
    have H3:=Lib.hid h3
    have H4:=Lib.hid h4
    have HR4:=Lib.hid hr4
    have HKL:=Lib.hid hkL
    clear hy hrw h1 h2 h3 h4 hr3 hr4 hkL
    go_upto_region 5 with fail
    obtain ⟨W2,hW2⟩ : ∃W2,W2=wr.alloc (.cells #[.int .i64 y.rel,.string y.var,.int .i64 y.sym.kind,.string y.sym.text,.int .i64 y.sym.n,.slice A3 y.list.length c3] 65):=⟨_,rfl⟩
    have hB2:Below wr.heap.size wr W2:=by rw [hW2];exact (Below.refl _ _).alloc (Nat.le_refl _) _
    have hX2:Blk W2 wr.heap.size 65 #[.int .i64 y.rel,.string y.var,.int .i64 y.sym.kind,.string y.sym.text,.int .i64 y.sym.n,.slice A3 y.list.length c3]:=by rw [hW2];exact Blk.new _ _ _
    rw [← hW2]
    clear hW2 q0 q1 q2 q3 q4 q5
    have HB2:=Lib.hid hB2
    have HX2:=Lib.hid hX2
    have hxl2:=hX2.lt
    have x1:W2.cell? ⟨wr.heap.size,1,none⟩=some (.string y.var):=(hX2.cell 1).trans rfl
    clear hX2 hB2
    go_wp2_with fail
    refine (HON.out y.var W2 (H4.out.trans (HB2.out.mono H4.out.size)) HQY.out).mono ?_
    rintro e w3 ⟨rfl,hb3⟩
    obtain ⟨v,hv⟩ : ∃v,v=oneR t y.var:=⟨_,rfl⟩
    rw [← hv]
    have HV:=Lib.hid hv
    obtain ⟨W4,hW4⟩ : ∃W4,W4=w3.setCell ⟨wr.heap.size,1,none⟩ (.string v):=⟨_,rfl⟩
    have hX3:=HX2.out.new_ hb3
    have x1:w3.cell? ⟨wr.heap.size,1,none⟩=some (.string y.var):=(hX3.cell 1).trans rfl
    have g1:=hX3.frozen 1
    have hxl3:=hX3.lt
    have hX4:Blk W4 wr.heap.size 65 #[.int .i64 y.rel,.string v,.int .i64 y.sym.kind,.string y.sym.text,.int .i64 y.sym.n,.slice A3 y.list.length c3]:=by rw [hW4];exact hX3.set_ 1 _
    have hB4:Below wr.heap.size wr W4:=by rw [hW4];exact (HB2.out.trans (hb3.mono HB2.out.size)).setCell (Nat.le_refl _) _
    have HB4:=Lib.hid hB4
    have HX4:=Lib.hid hX4
    have hxl4:=hX4.lt
    have HTT:=Lib.hid (show testR t y=⟨y.rel,v,y.sym,y.list⟩ by rw [hv];rfl)
    clear hb3 hX3 hX4 hB4 hv
    go_upto_region 6 with fail
    rw [← hW4]
    clear hW4 g1 hxl3 hxl2
    have x5:W4.cell? ⟨wr.heap.size,5,none⟩=some (.slice A3 y.list.length c3):=(HX4.out.cell 5).trans rfl
    go_upto_region 7 with (at_builtin;refine wpList_append_src W4 rfl (.const (.slice none 0 0)) (.tmp 20) 63 rfl 52 i0 _ 3 32 Try.underlying63 hi0 hz0 hz1 hz2 rfl (by omega) (.slice none 0 0) 0 [] rfl (owns_nilC _ _ _) A3 y.list.length c3 (y.list.flatMap Sym.cells) rfl (flat_length Sym.cells_length _) ((HR4.out.new_ HB4.out).news Sym.cells_length (by omega)) (one_Sym _) (by unfold maxLen;omega) (by omega) ?_;intro v1 w5 hown1 hg1 hnil1 hat1;rw [Nat.zero_add,List.nil_append] at hown1;obtain ⟨A5,c5,rfl,ho5,hA5,hB5⟩:=fresh1_of hown1 hat1 rfl hg1;have hX5:=HX4.out.new_ hB5;have u5:=(hX5.cell 5).trans rfl;have g5:=hX5.frozen 5;have hxl5:=hX5.lt;have HB5:=Lib.hid hB5;have HO5:=Lib.hid ho5;have HA5:=Lib.hid hA5;have HX5:=Lib.hid hX5;clear hX5 hB5 ho5 hA5 hown1 hat1 hg1 hnil1 x5)
    obtain ⟨W6,hW6⟩ : ∃W6,W6=w5.setCell ⟨wr.heap.size,5,none⟩ (.slice A5 y.list.length c5):=⟨_,rfl⟩
    have hX5:=HX5.out
    have hB6:Below wr.heap.size wr W6:=by rw [hW6];exact (HB4.out.trans (HB5.out.mono (by omega))).setCell (Nat.le_refl _) _
    have hX6:Blk W6 wr.heap.size 65 #[.int .i64 y.rel,.string v,.int .i64 y.sym.kind,.string y.sym.text,.int .i64 y.sym.n,.slice A5 y.list.length c5]:=by rw [hW6];exact hX5.set_ 5 _
    have hO6:W6.ownsRow 0 52 3 (.slice A5 y.list.length c5) y.list.length (y.list.flatMap Sym.cells):=by rw [hW6];exact ownsRow_setCell_other (a:=⟨wr.heap.size,5,none⟩) HO5.out (own_blk_ne HO5.out hX5 (by decide)) _
    have hA6:AIn A5 (NewD wr.heap.size W6):=HA5.out.mono (fun j hj=>⟨by have:=hj.1;omega,by rw [hW6];simpa using hj.2⟩)
    rw [← hW6]
    clear hW6 hX5
    have hB7:Below wr.heap.size wr (W6.alloc (.cells #[.int .i64 y.rel,.string v,.int .i64 y.sym.kind,.string y.sym.text,.int .i64 y.sym.n,.slice A5 y.list.length c5] 65)):=hB6.alloc hB6.size _
    have hrow:RowR repSym (Plus C wr (W6.alloc (.cells #[.int .i64 y.rel,.string v,.int .i64 y.sym.kind,.string y.sym.text,.int .i64 y.sym.n,.slice A5 y.list.length c5] 65))) (W6.alloc (.cells #[.int .i64 y.rel,.string v,.int .i64 y.sym.kind,.string y.sym.text,.int .i64 y.sym.n,.slice A5 y.list.length c5] 65)) A5 c5 y.list:=(Fresh1.row Sym.cells_length hO6 hA6).keep (by simp) (fun j hj hl=>⟨.inr ⟨hj.1,by simp;have:=hj.2;omega⟩,((Below.refl W6.heap.size W6).alloc (Nat.le_refl _) _).block j hl⟩)
    have hown7:=H1.out.plus hB7
    have hrep7:repTestT.rep (Plus C wr (W6.alloc (.cells #[.int .i64 y.rel,.string v,.int .i64 y.sym.kind,.string y.sym.text,.int .i64 y.sym.n,.slice A5 y.list.length c5] 65))) (W6.alloc (.cells #[.int .i64 y.rel,.string v,.int .i64 y.sym.kind,.string y.sym.text,.int .i64 y.sym.n,.slice A5 y.list.length c5] 65)) (testR t y) [.int .i64 y.rel,.string v,.int .i64 y.sym.kind,.string y.sym.text,.int .i64 y.sym.n,.slice A5 y.list.length c5]:=by
     rw [HTT.out]
     exact rep_test (y:=⟨y.rel,v,y.sym,y.list⟩) hrow
    have hcl : ∀j,Plus C wr (W6.alloc (.cells #[.int .i64 y.rel,.string v,.int .i64 y.sym.kind,.string y.sym.text,.int .i64 y.sym.n,.slice A5 y.list.length c5] 65)) j→j<(W6.alloc (.cells #[.int .i64 y.rel,.string v,.int .i64 y.sym.kind,.string y.sym.text,.int .i64 y.sym.n,.slice A5 y.list.length c5] 65)).heap.size:=fun j hj=>by
     rcases hj with hj | hj
     · have:=(H2.out j hj).2;have:=hB7.size;omega
     · exact hj.2
    obtain ⟨u0,u1,u2,u3,u4,u5⟩:=hX6.c6
    have hxl6:=hX6.lt
    have HB7:=Lib.hid hB7
    have HOW:=Lib.hid hown7
    have HRE:=Lib.hid hrep7
    have HCL:=Lib.hid hcl
    have h63:(L.take k).length+1≤maxLen:=by rw [HKL.out];unfold maxLen;omega
    have hby:((L.take k).length+1)*80≤140737488355328:=by rw [HKL.out];omega
    have H63:=Lib.hid h63
    have HBY:=Lib.hid hby
    clear hB6 hB7 hX6 hO6 hA6 hrow hown7 hrep7 hcl h63 hby
    have HVV:=Lib.hid (show Value.slice A1 k c1 = .slice A1 (L.take k).length c1 by rw [HKL.out])
    go_wp2_with (at_builtin;refine wpList_append_C _ rfl _ _ 48 rfl 65 j0 _ 6 80 Try.underlying48 hj0 hy0 hy1 hy2 rfl rfl (by omega) (Plus C wr (W6.alloc (.cells #[.int .i64 y.rel,.string v,.int .i64 y.sym.kind,.string y.sym.text,.int .i64 y.sym.n,.slice A5 y.list.length c5] 65))) HCL.out (.slice A1 (L.take k).length c1) (L.take k) HVV.out HOW.out ⟨W6.heap.size,0,none⟩ 1 (testR t y) [.int .i64 y.rel,.string v,.int .i64 y.sym.kind,.string y.sym.text,.int .i64 y.sym.n,.slice A5 y.list.length c5] rfl (World.news_of_block (heap_alloc_new _ _)) (by intro u hu;simp only [List.mem_cons,List.not_mem_nil,or_false] at hu;rcases hu with rfl | rfl | rfl | rfl | rfl | rfl<;>rfl) HRE.out H63.out HBY.out ?_;intro v' w7 hap)
    have hfin:Copies repTestT 65 w (L.take k ++ [testR t y]) v' w7:=Copies.snoc H2.out H3.out H4.out HB7.out hap
    rw [HZ.out] at hfin
    go_roundw
    case rel=>exact ⟨k+1,by go_num,by omega,hfin⟩
    case measure=>simp [intOf];omega
  · obtain rfl:k=l.length:=by omega
    have hfin:=Copies.done ⟨C,A1,c1,rfl,h1,h2,h3,h4⟩
    rw [show l.length=L.length from HLL.out.symm,List.take_length,HLL.out] at hfin
    have HF:=Lib.hid hfin
    clear h1 h2 h3 h4 hfin
    go_wp2_with fail
    go_ret
    exact HF.out
end Go.Proofs.Ytffemfglngikbaa
namespace Go.Proofs.Ytffemfglngikbaa
open Go.RowKit Go.Shelf
theorem Blk.setAllC {w:World} {g:Nat} {t:TypeId} {cs:Array Value} {vs:List Value} (h:Blk w g t cs) (hl:cs.size=vs.length):Blk (w.setCells g 0 vs) g t vs.toArray:=by
 have hr:=World.rangeAt_setCells_same w g 0 vs (by have:=h.there;rwa [hl] at this)
 obtain ⟨cs',h1,h2⟩:=Blk.setCells_ vs 0 h
 have e:cs'=vs.toArray:=by
  apply Array.ext
  · rw [h2];simpa using hl
  · intro i hi hj
    have hj':i<vs.length:=by simpa using hj
    have h3:=hr i vs[i] (List.getElem?_eq_getElem hj')
    rw [show (0+i)=i by omega,h1.cell i,Array.getElem?_eq_getElem hi] at h3
    simpa using h3
 rw [← e];exact h1
def Ex (W1 wc:World) (g:Nat):Nat→Prop:=fun j=>W1.heap.size≤j∧j<wc.heap.size∧j≠g
def CH (n g:Nat) (x:CondT) (vi:ByteArray) (LA LV:List TestT) (L:List CondT) (W1:World) (BA:Option Addr) (dA:Nat) (BV:Option Addr) (dV:Nat) (k:Nat) (A:Option Addr) (c:Nat) (wr:World):Prop:=
 Blk wr g 50 #[.int .i64 x.kind,.bool x.goal,.string vi,.slice BA LA.length dA,.slice BV LV.length dV,.bool x.acc,.slice A k c]∧∃C:Nat→Prop,¬C g∧(∀j,C j→NewD W1.heap.size wr j)∧W1.heap.size≤g∧RowR repTestT C wr BA dA LA∧RowR repTestT C wr BV dV LV∧
  OwnC (repCondT n) 50 C wr (.slice A (L.take k).length c) (L.take k)∧AIn A (fun j=>NewD W1.heap.size wr j∧j≠g)∧Below W1.heap.size W1 wr
section
variable {n g:Nat} {x:CondT} {vi:ByteArray} {LA LV:List TestT} {L:List CondT} {W1 wr:World} {BA:Option Addr} {dA:Nat} {BV:Option Addr} {dV:Nat} {k:Nat} {A:Option Addr} {c:Nat} {C:Nat→Prop}
theorem CH.step {y:CondT} {W7 w8:World} {A':Option Addr} {c':Nat} (hG:Blk wr g 50 #[.int .i64 x.kind,.bool x.goal,.string vi,.slice BA LA.length dA,.slice BV LV.length dV,.bool x.acc,.slice A k c]) (hCg : ¬C g) (hC : ∀j,C j→NewD W1.heap.size wr j) (hg:W1.heap.size≤g) (t1:RowR repTestT C wr BA dA LA) (t2:RowR repTestT C wr BV dV LV)
 (hO:OwnC (repCondT n) 50 C wr (.slice A (L.take k).length c) (L.take k)) (hA:AIn A (fun j=>NewD W1.heap.size wr j∧j≠g)) (hB:Below W1.heap.size W1 wr) (hk1:k+1≤L.length) (hy:L.take k ++ [y]=L.take (k+1)) (h7:Below wr.heap.size wr W7)
 (ha:Appended (repCondT n) 50 (Plus C wr W7) W7 (.slice A (L.take k).length c) (L.take k ++ [y]) (.slice A' (k+1) c') w8):CH n g x vi LA LV L W1 BA dA BV dV (k+1) A' c' (w8.setCell ⟨g,6,none⟩ (.slice A' (k+1) c')):=by
 obtain ⟨a1,a2,a3⟩:=ha
 rw [hy] at a1
 have hz:=hB.size
 have hz7:=h7.size
 have hz8:=a2.size
 have hgl:=hG.lt
 have hnA : ∀j,(Value.slice A (L.take k).length c).ownBlock=some j→W1.heap.size≤j∧j<wr.heap.size∧j≠g:=fun j hj=>by
  rcases A with _ | a
  · simp [Value.ownBlock] at hj
  · simp only [Value.ownBlock,Option.some.injEq] at hj
    have:=hA a rfl
    exact ⟨by rw [← hj];exact this.1.1,by rw [← hj];exact this.1.2,by rw [← hj];exact this.2⟩
 have hlen:(L.take (k+1)).length=k+1:=take_len hk1
 have hG8:Blk w8 g 50 #[.int .i64 x.kind,.bool x.goal,.string vi,.slice BA LA.length dA,.slice BV LV.length dV,.bool x.acc,.slice A k c]:=(hG.new_ h7).grown a2 (fun e=>(hnA g e).2.2 rfl)
 have hne8 : ∀j,(Value.slice A' (k+1) c').ownBlock=some j→W1.heap.size≤j∧j≠g:=fun j hj=>by
  rcases a3 with a3 | a3
  · have:=hnA j (a3 ▸ hj);exact ⟨this.1,this.2.2⟩
  · rw [a3] at hj;injection hj with hj;subst hj;exact ⟨by omega,by omega⟩
 have hCP : ∀j,Plus C wr W7 j→NewD W1.heap.size W7 j:=fun j hj=>by
  rcases hj with hj | hj
  · have:=hC j hj;exact ⟨this.1,by have:=this.2;omega⟩
  · exact ⟨by omega,hj.2⟩
 have hgP : ¬Plus C wr W7 g:=fun h=>by
  rcases h with h | h
  · exact hCg h
  · omega
 have keep : ∀j,C j→j<wr.heap.size→Plus C wr W7 j∧(w8.setCell ⟨g,6,none⟩ (.slice A' (k+1) c')).heap[j]? = wr.heap[j]?:=fun j hj hl=>by
  refine ⟨.inl hj,?_⟩
  rw [Below.heap_setCell _ _ _ _ (by dsimp only;intro e;subst e;exact hCg hj),a2.block j (by omega) (fun e=>hO.off j e.symm hj)]
  exact h7.block j hl
 have hs9:wr.heap.size≤(w8.setCell ⟨g,6,none⟩ (.slice A' (k+1) c')).heap.size:=by simp;omega
 refine ⟨hG8.set_ 6 _,Plus C wr W7,hgP,fun j hj=>?_,hg,t1.keep hs9 keep,t2.keep hs9 keep,?_,?_,?_⟩
 · have:=hCP j hj;exact ⟨this.1,by have:=this.2;simp;omega⟩
 · rw [hlen]
   exact a1.fr (M:=(· = g)) ((Fr.refl (· = g) w8).setCell (p:=⟨g,6,none⟩) (.inl rfl) _) (fun j hj e=>by subst e;exact hgP hj) (fun j hj e=>by subst e;exact (hne8 _ hj).2 rfl)
 · intro a ha
   subst ha
   have hlt:=a1.lt a.block rfl
   exact ⟨⟨(hne8 _ rfl).1,by simpa using hlt⟩,(hne8 _ rfl).2⟩
 · exact ((hB.trans (h7.mono hz)).grown a2 (by omega) (fun j hj=>(hnA j hj).1)).setCell (by dsimp only;exact hg) _
end
def RenOk (f:Nat) (gf:Nat) (lb:Array Value) (w0:World) (Q:ByteArray→Prop) (t:ByteArray→ByteArray) (n:Nat):Prop:=∀(x:CondT) (A1:Option Addr) (c1:Nat) (A2:Option Addr) (c2:Nat) (A3:Option Addr) (c3:Nat) (D:Nat→Prop) (w:World),Below w0.heap.size w0 w→
 RowR repTestT D w A1 c1 x.attr→RowR repTestT D w A2 c2 x.value→RowR (repCondT n) D w A3 c3 x.conds→SmC (n+1) x→QC Q (n+1) x→Calls Try.prog f #[.func (.func gf) #[] lb,.agg #[.int .i64 x.kind,.bool x.goal,.string x.id,.slice A1 x.attr.length c1,.slice A2 x.value.length c2,.bool x.acc,.slice A3 x.conds.length c3]] w (FreshC n (condR t (n+1) x) w)
set_option maxRecDepth 100000 in
set_option maxHeartbeats 16000000 in
theorem ccond_body {gf:Nat} {lb:Array Value} {w0:World} {Q:ByteArray→Prop} {t:ByteArray→ByteArray} (hN:NamerOk gf lb w0 Q t) (n:Nat) (hrec : ∀m,n=m+1→RenOk 33 gf lb w0 Q t m):RenOk 33 gf lb w0 Q t n:=by
 intro x A1 c1 A2 c2 A3 c3 D w hw h1 h2 h3 hs hq
 obtain ⟨j0,hj0,hy0,hyy1,hyy2⟩:=infp inf_Cond
 obtain ⟨s1,s2,s3,s4⟩:=hs
 obtain ⟨q1,q2,q3,q4⟩:=hq
 have hcap1:=h1.cap
 have hcap2:=h2.cap
 have hcap3:=h3.cap
 obtain ⟨vi,hvi⟩ : ∃v,v=oneR t x.id:=⟨_,rfl⟩
 obtain ⟨LA,hLA⟩ : ∃l,l=x.attr.map (testR t):=⟨_,rfl⟩
 obtain ⟨LV,hLV⟩ : ∃l,l=x.value.map (testR t):=⟨_,rfl⟩
 obtain ⟨L,hL⟩ : ∃l,l=x.conds.map (condR t n):=⟨_,rfl⟩
 have HR:=Lib.hid (show condR t (n+1) x = .mk x.kind x.goal vi LA LV x.acc L by rw [hvi,hLA,hLV,hL];rfl)
 have HLL:=Lib.hid (show L.length=x.conds.length by rw [hL,List.length_map])
 have HLG:=Lib.hid (show ∀k,(h:k<x.conds.length)→∃h':k<L.length,L[k]=condR t n x.conds[k] from fun k h=>⟨by rw [hL,List.length_map];exact h,by simp [hL]⟩)
 have HTI:=Lib.hid (show ∀W,Below w.heap.size w W→Calls Try.prog 34 #[.func (.func gf) #[] lb,.string x.id] W fun e w'=>e = .returned (.string vi)∧Below W.heap.size W w' from fun W hW=>by rw [hvi];exact one_is hN x.id W (hw.trans (hW.mono hw.size)) q1)
 have HTA:=Lib.hid (show ∀W,Below w.heap.size w W→Calls Try.prog 58 #[.func (.func gf) #[] lb,.slice A1 x.attr.length c1] W (FreshR repTestT LA W) from fun W hW=>by rw [hLA];exact ctests_is hN A1 c1 x.attr W (hw.trans (hW.mono hw.size)) (h1.new_ hW) s1 q2)
 have HTV:=Lib.hid (show ∀W,Below w.heap.size w W→Calls Try.prog 58 #[.func (.func gf) #[] lb,.slice A2 x.value.length c2] W (FreshR repTestT LV W) from fun W hW=>by rw [hLV];exact ctests_is hN A2 c2 x.value W (hw.trans (hW.mono hw.size)) (h2.new_ hW) s2 q3)
 have HREC:=Lib.hid hrec
 have HS:=Lib.hid s4
 have HQ4:=Lib.hid q4
 have Q3:=Lib.hid h3
 have HW0:=Lib.hid hw
 have hl3:x.conds.length≤1000:=s3
 clear hvi hLA hLV hL h1 h2 h3 s1 s2 s3 s4 q1 q2 q3 q4 hrec hN hw
 go_enter Try.func33,Try.ntmps33
 go_upto_region 1 with fail
 obtain ⟨W1,hW1⟩ : ∃W1,W1=(w.alloc (.cells #[.int .i64 x.kind,.bool x.goal,.string x.id,.slice A1 x.attr.length c1,.slice A2 x.value.length c2,.bool x.acc,.slice A3 x.conds.length c3] 50)).alloc (.cells #[.int .i64 0,.bool false,.string ⟨#[]⟩,.slice none 0 0,.slice none 0 0,.bool false,.slice none 0 0] 50):=⟨_,rfl⟩
 have hB1:Below w.heap.size w W1:=by rw [hW1];exact ((Below.refl _ _).alloc (Nat.le_refl _) _).alloc (by simp) _
 have hX1:Blk W1 w.heap.size 50 #[.int .i64 x.kind,.bool x.goal,.string x.id,.slice A1 x.attr.length c1,.slice A2 x.value.length c2,.bool x.acc,.slice A3 x.conds.length c3]:=by rw [hW1];exact (Blk.new _ _ _).alloc _
 have hR1:Blk W1 (w.heap.size+1) 50 #[.int .i64 0,.bool false,.string ⟨#[]⟩,.slice none 0 0,.slice none 0 0,.bool false,.slice none 0 0]:=by rw [hW1];have:=Blk.new (w.alloc (.cells #[.int .i64 x.kind,.bool x.goal,.string x.id,.slice A1 x.attr.length c1,.slice A2 x.value.length c2,.bool x.acc,.slice A3 x.conds.length c3] 50)) 50 #[.int .i64 0,.bool false,.string ⟨#[]⟩,.slice none 0 0,.slice none 0 0,.bool false,.slice none 0 0];simpa using this
 have hz1:W1.heap.size=w.heap.size+2:=by rw [hW1];simp
 rw [← hW1]
 clear hW1
 obtain ⟨p0,p1,p2,p3,p4,p5,p6⟩:=hX1.c7
 have HB1:=Lib.hid hB1
 have HX1:=Lib.hid hX1
 have HR1:=Lib.hid hR1
 have HZ1:=Lib.hid hz1
 have hxl1:=hX1.lt
 have hwz:w.heap.size≤W1.heap.size:=by omega
 have HWZ:=Lib.hid hwz
 clear hB1 hX1 hR1 hz1 hwz
 go_cut [5] from 8 (fun p wc=>∃g BA dA BV dV,p = .pointer (some ⟨g,0,none⟩)∧W1.heap.size≤g∧Blk wc g 50 #[.int .i64 x.kind,.bool x.goal,.string vi,.slice BA LA.length dA,.slice BV LV.length dV,.bool x.acc,.slice none 0 0]∧Below W1.heap.size W1 wc∧RowR repTestT (Ex W1 wc g) wc BA dA LA∧RowR repTestT (Ex W1 wc g) wc BV dV LV)
 case first=>
  refine wp_region_Pl (fun w9=>Below W1.heap.size W1 w9) [0,1,2,3,4,5,6,7,8,10,11,12,14,15,16,18] [1,3,5,8,12,16] (.fork [(0,0),(1,1),(2,0),(3,1),(4,0),(5,1),(6,0),(7,0),(8,1),(10,0),(11,0),(12,1),(14,0),(15,0),(16,1)] 9 (.fork [] 13 (.fork [] 17 (.fin [(18,0),(19,2),(20,2)]) 19 (.fin [(17,2),(18,0),(20,2)])) 19 (.fin [(13,2),(17,2),(18,0),(20,2)])) 19 (.fin [(9,2),(13,2),(17,2),(18,0),(20,2)])) (by kernel_rfl) (by kernel_rfl) (by kernel_rfl) (fun KK hKK=>?_)
  simp only [wpPl,beside,List.filterMap_cons,List.filterMap_nil,List.getElem?_toArray,List.getElem?_cons_zero,List.getElem?_cons_succ,Option.map_some]
  repeat ((first | (refine wpY_w ?_ (Or.inl ⟨by rfl,fun w9=>?_⟩) ?_;rotate_left 1;go_simp;with_reducible rfl) | (refine wpY_l ?_ ((Below.refl _ _).drew) (Or.inl ⟨by rfl,fun w9 hw9=>?_⟩) ?_;rotate_left 1;obtain ⟨hc9,hf9⟩:=bcell hw9;go_simp;with_reducible rfl) | refine wpY_w undef (Or.inr ⟨by rfl,rfl⟩) ?_ | refine wpY_l undef ((Below.refl _ _).drew) (Or.inr ⟨by rfl,rfl⟩) ?_);go_frame)
  refine wpY_nil ⟨?_,?_⟩
  · refine wpOp_cs rfl (fun K9 hK9=>?_)
    go_simp
    refine (HTI.out _ (HB1.out.trans (((Below.refl W1.heap.size W1).drew).mono HWZ.out))).mono ?_
    rintro e wo ⟨rfl,hb⟩
    have HBo:=Lib.hid (((Below.refl W1.heap.size W1).drew).trans (hb.mono ((Below.refl W1.heap.size W1).drew).size))
    clear hb
    refine hK9 _ _ (fun _=>HBo.out) ?_
    clear hK9 K9
    try go_frame
    try simp only [beside,List.filterMap_nil]
    refine wpY_nil ⟨?_,?_⟩
    · refine wpOp_cs rfl (fun K9 hK9=>?_)
      go_simp
      refine (HTA.out _ (HB1.out.trans ((HBo.out).mono HWZ.out))).mono ?_
      rintro e wA ⟨BA,dA,rfl,hr,-,hb⟩
      obtain ⟨DA,hr2,hl2⟩ : ∃D:Nat→Prop,RowR repTestT D wA BA dA LA∧(∀j,D j→(wo).heap.size≤j∧j<wA.heap.size):=⟨_,hr,fun j hj=>hj⟩
      have RA:=Lib.hid hr2
      have MA:=Lib.hid (show ∀j,DA j→W1.heap.size≤j∧j<wA.heap.size from fun j hj=>⟨Nat.le_trans (HBo.out).size (hl2 j hj).1,(hl2 j hj).2⟩)
      have HBAx:=Lib.hid ((HBo.out).trans (hb.mono (HBo.out).size))
      clear hr hr2 hl2 hb
      refine hK9 _ _ (fun _=>HBAx.out) ?_
      clear hK9 K9
      try go_frame
      try simp only [beside,List.filterMap_nil]
      refine wpY_nil ⟨?_,?_⟩
      · refine wpOp_cs rfl (fun K9 hK9=>?_)
        go_simp
        refine (HTV.out _ (HB1.out.trans ((HBAx.out).mono HWZ.out))).mono ?_
        rintro e wV ⟨BV,dV,rfl,hr,-,hb⟩
        obtain ⟨DV,hr2,hl2⟩ : ∃D:Nat→Prop,RowR repTestT D wV BV dV LV∧(∀j,D j→(wA).heap.size≤j∧j<wV.heap.size):=⟨_,hr,fun j hj=>hj⟩
        have RA:=Lib.hid (RA.out.new_ hb)
        have MA:=Lib.hid (fun j hj=>And.intro (MA.out j hj).1 (Nat.lt_of_lt_of_le (MA.out j hj).2 (hb).size))
        have RV:=Lib.hid hr2
        have MV:=Lib.hid (show ∀j,DV j→W1.heap.size≤j∧j<wV.heap.size from fun j hj=>⟨Nat.le_trans (HBAx.out).size (hl2 j hj).1,(hl2 j hj).2⟩)
        have HBVx:=Lib.hid ((HBAx.out).trans (hb.mono (HBAx.out).size))
        clear hr hr2 hl2 hb
        refine hK9 _ _ (fun _=>HBVx.out) ?_
        clear hK9 K9
        try go_frame
        try simp only [beside,List.filterMap_nil]
        repeat ((first | (refine wpY_w ?_ (Or.inl ⟨by rfl,fun w9=>?_⟩) ?_;rotate_left 1;go_simp;with_reducible rfl) | (refine wpY_l ?_ (HBVx.out) (Or.inl ⟨by rfl,fun w9 hw9=>?_⟩) ?_;rotate_left 1;obtain ⟨hc9,hf9⟩:=bcell hw9;go_simp;with_reducible rfl) | refine wpY_w undef (Or.inr ⟨by rfl,rfl⟩) ?_ | refine wpY_l undef (HBVx.out) (Or.inr ⟨by rfl,rfl⟩) ?_);go_frame)
        refine wpY_es (fun K9 hK9=>?_)
        go_simp
        have hb:Below wV.heap.size wV (wV.alloc (.cells #[.int .i64 0,.bool false,.string ⟨#[]⟩,.slice none 0 0,.slice none 0 0,.bool false,.slice none 0 0] 50)):=(Below.refl _ _).alloc (Nat.le_refl _) _
        have NA:=Lib.hid (show ∀j,DA j→j≠wV.heap.size from fun j hj e=>by have h1:=(MA.out j hj).2;omega)
        have NV:=Lib.hid (show ∀j,DV j→j≠wV.heap.size from fun j hj e=>by have h1:=(MV.out j hj).2;omega)
        have RA:=Lib.hid (RA.out.new_ hb)
        have MA:=Lib.hid (fun j hj=>And.intro (MA.out j hj).1 (Nat.lt_of_lt_of_le (MA.out j hj).2 (hb).size))
        have RV:=Lib.hid (RV.out.new_ hb)
        have MV:=Lib.hid (fun j hj=>And.intro (MV.out j hj).1 (Nat.lt_of_lt_of_le (MV.out j hj).2 (hb).size))
        have HK:=Lib.hid (show Blk (wV.alloc (.cells #[.int .i64 0,.bool false,.string ⟨#[]⟩,.slice none 0 0,.slice none 0 0,.bool false,.slice none 0 0] 50)) wV.heap.size 50 #[.int .i64 0,.bool false,.string ⟨#[]⟩,.slice none 0 0,.slice none 0 0,.bool false,.slice none 0 0] from Blk.new _ _ _)
        have HGE:=Lib.hid (show W1.heap.size≤wV.heap.size from (HBVx.out).size)
        have HBg:=Lib.hid ((HBVx.out).trans (hb.mono (HBVx.out).size))
        clear hb
        refine hK9 _ _ (HBg.out) ?_
        clear hK9 K9
        try go_frame
        refine wpY_es (fun K9 hK9=>?_)
        refine step_store_el rfl 50 _ _ rfl wV.heap.size 0 #[Value.int IntKind.i64 x.kind,Value.bool x.goal,Value.string vi,Value.slice BA LA.length dA,Value.slice BV LV.length dV,Value.bool x.acc,Value.slice none 0 0] rfl rfl (show _ from HK.out.there) (by kernel_rfl) (by kernel_rfl) ?_
        refine hK9 _ _ (Below.setCells' _ _ (HBg.out) HGE.out) ?_
        clear hK9 K9
        try go_frame
        refine wpY_nil ?_
        simp only [OnlyN_normal]
        refine hKK _ _ ?_
        clear hKK KK
        go_wp2_with fail
        go_meet
        case rel=>exact ⟨wV.heap.size,BA,dA,BV,dV,rfl,HGE.out,HK.out.setAllC rfl,Below.setCells' _ _ (HBg.out) HGE.out,(RA.out.keep (by rw [size_setCells];omega) (fun j hj _=>⟨⟨(MA.out j hj).1,by rw [size_setCells];exact (MA.out j hj).2,NA.out j hj⟩,blk_setCells _ _ _ _ _ (NA.out j hj)⟩)),(RV.out.keep (by rw [size_setCells];omega) (fun j hj _=>⟨⟨(MV.out j hj).1,by rw [size_setCells];exact (MV.out j hj).2,NV.out j hj⟩,blk_setCells _ _ _ _ _ (NV.out j hj)⟩))⟩
      · refine wpOp_cs rfl (fun K9 hK9=>?_)
        go_simp
        have hb:Below wA.heap.size wA (wA.alloc (.cells #[.int .i64 0,.bool false,.string ⟨#[]⟩,.slice none 0 0,.slice none 0 0,.bool false,.slice none 0 0] 50)):=(Below.refl _ _).alloc (Nat.le_refl _) _
        have NA:=Lib.hid (show ∀j,DA j→j≠wA.heap.size from fun j hj e=>by have h1:=(MA.out j hj).2;omega)
        have RA:=Lib.hid (RA.out.new_ hb)
        have MA:=Lib.hid (fun j hj=>And.intro (MA.out j hj).1 (Nat.lt_of_lt_of_le (MA.out j hj).2 (hb).size))
        have HK:=Lib.hid (show Blk (wA.alloc (.cells #[.int .i64 0,.bool false,.string ⟨#[]⟩,.slice none 0 0,.slice none 0 0,.bool false,.slice none 0 0] 50)) wA.heap.size 50 #[.int .i64 0,.bool false,.string ⟨#[]⟩,.slice none 0 0,.slice none 0 0,.bool false,.slice none 0 0] from Blk.new _ _ _)
        have HGE:=Lib.hid (show W1.heap.size≤wA.heap.size from (HBAx.out).size)
        have HBg:=Lib.hid ((HBAx.out).trans (hb.mono (HBAx.out).size))
        clear hb
        refine hK9 _ _ (fun _=>HBg.out) ?_
        clear hK9 K9
        try go_frame
        try simp only [beside,List.filterMap_nil]
        refine wpY_es (fun K9 hK9=>?_)
        go_simp
        refine (HTV.out _ (HB1.out.trans ((HBg.out).mono HWZ.out))).mono ?_
        rintro e wV ⟨BV,dV,rfl,hr,-,hb⟩
        obtain ⟨DV,hr2,hl2⟩ : ∃D:Nat→Prop,RowR repTestT D wV BV dV LV∧(∀j,D j→((wA.alloc (.cells #[.int .i64 0,.bool false,.string ⟨#[]⟩,.slice none 0 0,.slice none 0 0,.bool false,.slice none 0 0] 50))).heap.size≤j∧j<wV.heap.size):=⟨_,hr,fun j hj=>hj⟩
        have NV:=Lib.hid (show ∀j,DV j→j≠wA.heap.size from fun j hj e=>by have h1:=(hl2 j hj).1;have h2:=HK.out.lt;omega)
        have RA:=Lib.hid (RA.out.new_ hb)
        have MA:=Lib.hid (fun j hj=>And.intro (MA.out j hj).1 (Nat.lt_of_lt_of_le (MA.out j hj).2 (hb).size))
        have HK:=Lib.hid (HK.out.new_ hb)
        have RV:=Lib.hid hr2
        have MV:=Lib.hid (show ∀j,DV j→W1.heap.size≤j∧j<wV.heap.size from fun j hj=>⟨Nat.le_trans (HBg.out).size (hl2 j hj).1,(hl2 j hj).2⟩)
        have HBVx:=Lib.hid ((HBg.out).trans (hb.mono (HBg.out).size))
        clear hr hr2 hl2 hb
        refine hK9 _ _ (HBVx.out) ?_
        clear hK9 K9
        try go_frame
        repeat ((first | (refine wpY_w ?_ (Or.inl ⟨by rfl,fun w9=>?_⟩) ?_;rotate_left 1;go_simp;with_reducible rfl) | (refine wpY_l ?_ (HBVx.out) (Or.inl ⟨by rfl,fun w9 hw9=>?_⟩) ?_;rotate_left 1;obtain ⟨hc9,hf9⟩:=bcell hw9;go_simp;with_reducible rfl) | refine wpY_w undef (Or.inr ⟨by rfl,rfl⟩) ?_ | refine wpY_l undef (HBVx.out) (Or.inr ⟨by rfl,rfl⟩) ?_);go_frame)
        refine wpY_es (fun K9 hK9=>?_)
        refine step_store_el rfl 50 _ _ rfl wA.heap.size 0 #[Value.int IntKind.i64 x.kind,Value.bool x.goal,Value.string vi,Value.slice BA LA.length dA,Value.slice BV LV.length dV,Value.bool x.acc,Value.slice none 0 0] rfl rfl (show _ from HK.out.there) (by kernel_rfl) (by kernel_rfl) ?_
        refine hK9 _ _ (Below.setCells' _ _ (HBVx.out) HGE.out) ?_
        clear hK9 K9
        try go_frame
        refine wpY_nil ?_
        simp only [OnlyN_normal]
        refine hKK _ _ ?_
        clear hKK KK
        go_wp2_with fail
        go_meet
        case rel=>exact ⟨wA.heap.size,BA,dA,BV,dV,rfl,HGE.out,HK.out.setAllC rfl,Below.setCells' _ _ (HBVx.out) HGE.out,(RA.out.keep (by rw [size_setCells];omega) (fun j hj _=>⟨⟨(MA.out j hj).1,by rw [size_setCells];exact (MA.out j hj).2,NA.out j hj⟩,blk_setCells _ _ _ _ _ (NA.out j hj)⟩)),(RV.out.keep (by rw [size_setCells];omega) (fun j hj _=>⟨⟨(MV.out j hj).1,by rw [size_setCells];exact (MV.out j hj).2,NV.out j hj⟩,blk_setCells _ _ _ _ _ (NV.out j hj)⟩))⟩
    · refine wpOp_cs rfl (fun K9 hK9=>?_)
      go_simp
      have hb:Below wo.heap.size wo (wo.alloc (.cells #[.int .i64 0,.bool false,.string ⟨#[]⟩,.slice none 0 0,.slice none 0 0,.bool false,.slice none 0 0] 50)):=(Below.refl _ _).alloc (Nat.le_refl _) _
      have HK:=Lib.hid (show Blk (wo.alloc (.cells #[.int .i64 0,.bool false,.string ⟨#[]⟩,.slice none 0 0,.slice none 0 0,.bool false,.slice none 0 0] 50)) wo.heap.size 50 #[.int .i64 0,.bool false,.string ⟨#[]⟩,.slice none 0 0,.slice none 0 0,.bool false,.slice none 0 0] from Blk.new _ _ _)
      have HGE:=Lib.hid (show W1.heap.size≤wo.heap.size from (HBo.out).size)
      have HBg:=Lib.hid ((HBo.out).trans (hb.mono (HBo.out).size))
      clear hb
      refine hK9 _ _ (fun _=>HBg.out) ?_
      clear hK9 K9
      try go_frame
      try simp only [beside,List.filterMap_nil]
      refine wpY_es (fun K9 hK9=>?_)
      go_simp
      refine (HTA.out _ (HB1.out.trans ((HBg.out).mono HWZ.out))).mono ?_
      rintro e wA ⟨BA,dA,rfl,hr,-,hb⟩
      obtain ⟨DA,hr2,hl2⟩ : ∃D:Nat→Prop,RowR repTestT D wA BA dA LA∧(∀j,D j→((wo.alloc (.cells #[.int .i64 0,.bool false,.string ⟨#[]⟩,.slice none 0 0,.slice none 0 0,.bool false,.slice none 0 0] 50))).heap.size≤j∧j<wA.heap.size):=⟨_,hr,fun j hj=>hj⟩
      have NA:=Lib.hid (show ∀j,DA j→j≠wo.heap.size from fun j hj e=>by have h1:=(hl2 j hj).1;have h2:=HK.out.lt;omega)
      have HK:=Lib.hid (HK.out.new_ hb)
      have RA:=Lib.hid hr2
      have MA:=Lib.hid (show ∀j,DA j→W1.heap.size≤j∧j<wA.heap.size from fun j hj=>⟨Nat.le_trans (HBg.out).size (hl2 j hj).1,(hl2 j hj).2⟩)
      have HBAx:=Lib.hid ((HBg.out).trans (hb.mono (HBg.out).size))
      clear hr hr2 hl2 hb
      refine hK9 _ _ (HBAx.out) ?_
      clear hK9 K9
      try go_frame
      refine wpY_es (fun K9 hK9=>?_)
      go_simp
      refine (HTV.out _ (HB1.out.trans ((HBAx.out).mono HWZ.out))).mono ?_
      rintro e wV ⟨BV,dV,rfl,hr,-,hb⟩
      obtain ⟨DV,hr2,hl2⟩ : ∃D:Nat→Prop,RowR repTestT D wV BV dV LV∧(∀j,D j→(wA).heap.size≤j∧j<wV.heap.size):=⟨_,hr,fun j hj=>hj⟩
      have NV:=Lib.hid (show ∀j,DV j→j≠wo.heap.size from fun j hj e=>by have h1:=(hl2 j hj).1;have h2:=HK.out.lt;omega)
      have RA:=Lib.hid (RA.out.new_ hb)
      have MA:=Lib.hid (fun j hj=>And.intro (MA.out j hj).1 (Nat.lt_of_lt_of_le (MA.out j hj).2 (hb).size))
      have HK:=Lib.hid (HK.out.new_ hb)
      have RV:=Lib.hid hr2
      have MV:=Lib.hid (show ∀j,DV j→W1.heap.size≤j∧j<wV.heap.size from fun j hj=>⟨Nat.le_trans (HBAx.out).size (hl2 j hj).1,(hl2 j hj).2⟩)
      have HBVx:=Lib.hid ((HBAx.out).trans (hb.mono (HBAx.out).size))
      clear hr hr2 hl2 hb
      refine hK9 _ _ (HBVx.out) ?_
      clear hK9 K9
      try go_frame
      repeat ((first | (refine wpY_w ?_ (Or.inl ⟨by rfl,fun w9=>?_⟩) ?_;rotate_left 1;go_simp;with_reducible rfl) | (refine wpY_l ?_ (HBVx.out) (Or.inl ⟨by rfl,fun w9 hw9=>?_⟩) ?_;rotate_left 1;obtain ⟨hc9,hf9⟩:=bcell hw9;go_simp;with_reducible rfl) | refine wpY_w undef (Or.inr ⟨by rfl,rfl⟩) ?_ | refine wpY_l undef (HBVx.out) (Or.inr ⟨by rfl,rfl⟩) ?_);go_frame)
      refine wpY_es (fun K9 hK9=>?_)
      refine step_store_el rfl 50 _ _ rfl wo.heap.size 0 #[Value.int IntKind.i64 x.kind,Value.bool x.goal,Value.string vi,Value.slice BA LA.length dA,Value.slice BV LV.length dV,Value.bool x.acc,Value.slice none 0 0] rfl rfl (show _ from HK.out.there) (by kernel_rfl) (by kernel_rfl) ?_
      refine hK9 _ _ (Below.setCells' _ _ (HBVx.out) HGE.out) ?_
      clear hK9 K9
      try go_frame
      refine wpY_nil ?_
      simp only [OnlyN_normal]
      refine hKK _ _ ?_
      clear hKK KK
      go_wp2_with fail
      go_meet
      case rel=>exact ⟨wo.heap.size,BA,dA,BV,dV,rfl,HGE.out,HK.out.setAllC rfl,Below.setCells' _ _ (HBVx.out) HGE.out,(RA.out.keep (by rw [size_setCells];omega) (fun j hj _=>⟨⟨(MA.out j hj).1,by rw [size_setCells];exact (MA.out j hj).2,NA.out j hj⟩,blk_setCells _ _ _ _ _ (NA.out j hj)⟩)),(RV.out.keep (by rw [size_setCells];omega) (fun j hj _=>⟨⟨(MV.out j hj).1,by rw [size_setCells];exact (MV.out j hj).2,NV.out j hj⟩,blk_setCells _ _ _ _ _ (NV.out j hj)⟩))⟩
  · refine wpOp_cs rfl (fun K9 hK9=>?_)
    go_simp
    have hb:Below W1.drew.heap.size W1.drew (W1.drew.alloc (.cells #[.int .i64 0,.bool false,.string ⟨#[]⟩,.slice none 0 0,.slice none 0 0,.bool false,.slice none 0 0] 50)):=(Below.refl _ _).alloc (Nat.le_refl _) _
    have HK:=Lib.hid (show Blk (W1.drew.alloc (.cells #[.int .i64 0,.bool false,.string ⟨#[]⟩,.slice none 0 0,.slice none 0 0,.bool false,.slice none 0 0] 50)) W1.heap.size 50 #[.int .i64 0,.bool false,.string ⟨#[]⟩,.slice none 0 0,.slice none 0 0,.bool false,.slice none 0 0] from Blk.new _ _ _)
    have HGE:=Lib.hid (show W1.heap.size≤W1.heap.size from ((Below.refl W1.heap.size W1).drew).size)
    have HBg:=Lib.hid (((Below.refl W1.heap.size W1).drew).trans (hb.mono ((Below.refl W1.heap.size W1).drew).size))
    clear hb
    refine hK9 _ _ (fun _=>HBg.out) ?_
    clear hK9 K9
    try go_frame
    try simp only [beside,List.filterMap_nil]
    refine wpY_es (fun K9 hK9=>?_)
    go_simp
    refine (HTI.out _ (HB1.out.trans ((HBg.out).mono HWZ.out))).mono ?_
    rintro e wo ⟨rfl,hb⟩
    have HK:=Lib.hid (HK.out.new_ hb)
    have HBo:=Lib.hid ((HBg.out).trans (hb.mono (HBg.out).size))
    clear hb
    refine hK9 _ _ (HBo.out) ?_
    clear hK9 K9
    try go_frame
    refine wpY_es (fun K9 hK9=>?_)
    go_simp
    refine (HTA.out _ (HB1.out.trans ((HBo.out).mono HWZ.out))).mono ?_
    rintro e wA ⟨BA,dA,rfl,hr,-,hb⟩
    obtain ⟨DA,hr2,hl2⟩ : ∃D:Nat→Prop,RowR repTestT D wA BA dA LA∧(∀j,D j→(wo).heap.size≤j∧j<wA.heap.size):=⟨_,hr,fun j hj=>hj⟩
    have NA:=Lib.hid (show ∀j,DA j→j≠W1.heap.size from fun j hj e=>by have h1:=(hl2 j hj).1;have h2:=HK.out.lt;omega)
    have HK:=Lib.hid (HK.out.new_ hb)
    have RA:=Lib.hid hr2
    have MA:=Lib.hid (show ∀j,DA j→W1.heap.size≤j∧j<wA.heap.size from fun j hj=>⟨Nat.le_trans (HBo.out).size (hl2 j hj).1,(hl2 j hj).2⟩)
    have HBAx:=Lib.hid ((HBo.out).trans (hb.mono (HBo.out).size))
    clear hr hr2 hl2 hb
    refine hK9 _ _ (HBAx.out) ?_
    clear hK9 K9
    try go_frame
    refine wpY_es (fun K9 hK9=>?_)
    go_simp
    refine (HTV.out _ (HB1.out.trans ((HBAx.out).mono HWZ.out))).mono ?_
    rintro e wV ⟨BV,dV,rfl,hr,-,hb⟩
    obtain ⟨DV,hr2,hl2⟩ : ∃D:Nat→Prop,RowR repTestT D wV BV dV LV∧(∀j,D j→(wA).heap.size≤j∧j<wV.heap.size):=⟨_,hr,fun j hj=>hj⟩
    have NV:=Lib.hid (show ∀j,DV j→j≠W1.heap.size from fun j hj e=>by have h1:=(hl2 j hj).1;have h2:=HK.out.lt;omega)
    have RA:=Lib.hid (RA.out.new_ hb)
    have MA:=Lib.hid (fun j hj=>And.intro (MA.out j hj).1 (Nat.lt_of_lt_of_le (MA.out j hj).2 (hb).size))
    have HK:=Lib.hid (HK.out.new_ hb)
    have RV:=Lib.hid hr2
    have MV:=Lib.hid (show ∀j,DV j→W1.heap.size≤j∧j<wV.heap.size from fun j hj=>⟨Nat.le_trans (HBAx.out).size (hl2 j hj).1,(hl2 j hj).2⟩)
    have HBVx:=Lib.hid ((HBAx.out).trans (hb.mono (HBAx.out).size))
    clear hr hr2 hl2 hb
    refine hK9 _ _ (HBVx.out) ?_
    clear hK9 K9
    try go_frame
    repeat ((first | (refine wpY_w ?_ (Or.inl ⟨by rfl,fun w9=>?_⟩) ?_;rotate_left 1;go_simp;with_reducible rfl) | (refine wpY_l ?_ (HBVx.out) (Or.inl ⟨by rfl,fun w9 hw9=>?_⟩) ?_;rotate_left 1;obtain ⟨hc9,hf9⟩:=bcell hw9;go_simp;with_reducible rfl) | refine wpY_w undef (Or.inr ⟨by rfl,rfl⟩) ?_ | refine wpY_l undef (HBVx.out) (Or.inr ⟨by rfl,rfl⟩) ?_);go_frame)
    refine wpY_es (fun K9 hK9=>?_)
    refine step_store_el rfl 50 _ _ rfl W1.heap.size 0 #[Value.int IntKind.i64 x.kind,Value.bool x.goal,Value.string vi,Value.slice BA LA.length dA,Value.slice BV LV.length dV,Value.bool x.acc,Value.slice none 0 0] rfl rfl (show _ from HK.out.there) (by kernel_rfl) (by kernel_rfl) ?_
    refine hK9 _ _ (Below.setCells' _ _ (HBVx.out) HGE.out) ?_
    clear hK9 K9
    try go_frame
    refine wpY_nil ?_
    simp only [OnlyN_normal]
    refine hKK _ _ ?_
    clear hKK KK
    go_wp2_with fail
    go_meet
    case rel=>exact ⟨W1.heap.size,BA,dA,BV,dV,rfl,HGE.out,HK.out.setAllC rfl,Below.setCells' _ _ (HBVx.out) HGE.out,(RA.out.keep (by rw [size_setCells];omega) (fun j hj _=>⟨⟨(MA.out j hj).1,by rw [size_setCells];exact (MA.out j hj).2,NA.out j hj⟩,blk_setCells _ _ _ _ _ (NA.out j hj)⟩)),(RV.out.keep (by rw [size_setCells];omega) (fun j hj _=>⟨⟨(MV.out j hj).1,by rw [size_setCells];exact (MV.out j hj).2,NV.out j hj⟩,blk_setCells _ _ _ _ _ (NV.out j hj)⟩))⟩
 case rest=>
  obtain ⟨g,BA,dA,BV,dV,rfl,hg,hG,hB,t1,t2⟩:=hcut
  have h0:CH n g x vi LA LV L W1 BA dA BV dV 0 none 0 wc:=⟨hG,Ex W1 wc g,fun h=>h.2.2 rfl,fun j hj=>⟨hj.1,hj.2.1⟩,hg,t1,t2,OwnC.nil _ _ _ _,AIn.none_ _,hB⟩
  have H0:=Lib.hid h0
  have hXc:=HX1.out.below hB (by have:=HZ1.out;omega)
  have p6:wc.cell? ⟨w.heap.size,6,none⟩=some (.slice A3 x.conds.length c3):=(hXc.cell 6).trans rfl
  have hxl1:=hXc.lt
  clear t1 t2 p0 p1 p2 p3 p4 p5 hG hB h0 hXc
  go_wp2_with fail
  go_loopw [30] (fun i wr=>∃(k:Nat) (A:Option Addr) (c:Nat),i = .int .i64 k∧k≤x.conds.length∧CH n g x vi LA LV L W1 BA dA BV dV k A c wr) (fun i wr=>x.conds.length - (intOf i).toNat)
  case atStart=>exact ⟨0,none,0,rfl,Nat.zero_le _,H0.out⟩
  case round=>
   obtain ⟨k,A,c,rfl,hk,hRH⟩:=hrel
   obtain ⟨hG,C,hCg,hC,_,t1,t2,hO,hA,hB⟩:=hRH
   have hzr:=hB.size
   clear p6 hxl1
   by_cases hlt:k<x.conds.length
   · have hrw:=(Q3.out.new_ HB1.out).keep (D':=D) hB.size (fun j hj hl=>⟨hj,hB.block j hl⟩)
     obtain ⟨m,hnm⟩ : ∃m,n=m+1:=by
      cases n with
      | zero=>rw [row0 hrw] at hlt;simp at hlt
      | succ m=>exact ⟨m,rfl⟩
     subst hnm
     obtain ⟨gh,oh,Ay1,cy1,Ay2,cy2,Ay3,cy3,hA0,hDg,hgh,r0,r1,r2,r3,r4,r5,r6,hy1,hy2,hy3⟩:=at_CondT hrw hlt
     subst hA0
     obtain ⟨y,hy⟩ : ∃y,y=x.conds[k]:=⟨_,rfl⟩
     obtain ⟨z,hz⟩ : ∃z,z=condR t (m+1) y:=⟨_,rfl⟩
     have hys:SmC (m+1) y:=by rw [hy];exact HS.out _ (List.getElem_mem hlt)
     have hyq:QC Q (m+1) y:=by rw [hy];exact HQ4.out _ (List.getElem_mem hlt)
     rw [← hy] at r0 r1 r2 r3 r4 r5 r6 hy1 hy2 hy3
     have b1:(0:Int)≤(k:Int):=by omega
     have b2:(k:Int)<(x.conds.length:Int):=by omega
     have HBW:=Lib.hid (HB1.out.trans (hB.mono HWZ.out))
     have HCALL:=Lib.hid (show ∀W,Below wr.heap.size wr W→Calls Try.prog 33 #[.func (.func gf) #[] lb,.agg #[.int .i64 y.kind,.bool y.goal,.string y.id,.slice Ay1 y.attr.length cy1,.slice Ay2 y.value.length cy2,.bool y.acc,.slice Ay3 y.conds.length cy3]] W (FreshC m z W) from fun W hW=>by
      rw [hz]
      exact HREC.out m rfl y Ay1 cy1 Ay2 cy2 Ay3 cy3 D W (HW0.out.trans ((HBW.out.trans (hW.mono HBW.out.size)).mono HW0.out.size)) (hy1.new_ hW) (hy2.new_ hW) (hy3.new_ hW) hys hyq)
     have hLz:L.take k ++ [z]=L.take (k+1):=by
      obtain ⟨h',e⟩:=HLG.out k hlt
      rw [hz,hy,← e]
      exact take_snoc h'
     have HG:=Lib.hid hG
     have HC:=Lib.hid hC
     have HO:=Lib.hid hO
     have HNE:=Lib.hid (show (Value.slice A (L.take k).length c).ownBlock≠some g from fun e=>by
      rcases A with _ | a
      · simp [Value.ownBlock] at e
      · simp only [Value.ownBlock,Option.some.injEq] at e
        exact (hA a rfl).2 e)
     have hkL:(L.take k).length=k:=take_len (by rw [HLL.out];exact hk)
     have HKL:=Lib.hid hkL
     have HST:=Lib.hid (show ∀W7 w8 A' c',Below wr.heap.size wr W7→Appended (repCondT (m+1)) 50 (Plus C wr W7) W7 (.slice A (L.take k).length c) (L.take k ++ [z]) (.slice A' (k+1) c') w8→CH (m+1) g x vi LA LV L W1 BA dA BV dV (k+1) A' c' (w8.setCell ⟨g,6,none⟩ (.slice A' (k+1) c')) from
      fun W7 w8 A' c' h7 ha=>CH.step hG hCg hC hg t1 t2 hO hA hB (by rw [HLL.out];omega) hLz h7 ha)
     have hgl:=hG.lt
     have hgw:wr.heap.size≠g:=by omega
     clear hy hrw hy1 hy2 hy3 hys hyq hG hCg hC t1 t2 hO hA hB hLz hkL hz
     go_upto_region 5 with fail
     obtain ⟨W5,hW5⟩ : ∃W5,W5=wr.alloc (.cells #[.int .i64 y.kind,.bool y.goal,.string y.id,.slice Ay1 y.attr.length cy1,.slice Ay2 y.value.length cy2,.bool y.acc,.slice Ay3 y.conds.length cy3] 50):=⟨_,rfl⟩
     have hB5:Below wr.heap.size wr W5:=by rw [hW5];exact (Below.refl _ _).alloc (Nat.le_refl _) _
     have hX5:Blk W5 wr.heap.size 50 #[.int .i64 y.kind,.bool y.goal,.string y.id,.slice Ay1 y.attr.length cy1,.slice Ay2 y.value.length cy2,.bool y.acc,.slice Ay3 y.conds.length cy3]:=by rw [hW5];exact Blk.new _ _ _
     rw [← hW5]
     clear hW5 r0 r1 r2 r3 r4 r5 r6
     have HB5:=Lib.hid hB5
     have HG:=Lib.hid (HG.out.new_ hB5)
     obtain ⟨m0,m1,m2,m3,m4,m5,m6⟩:=hX5.c7
     have n6:W5.cell? ⟨g,6,none⟩=some (.slice A k c):=(HG.out.cell 6).trans rfl
     have hgl:=HG.out.lt
     have hxl5:=hX5.lt
     clear hB5 hX5
     refine wp_region_E (fun w9=>Below W5.heap.size W5 w9) [(0,0),(1,1),(2,0),(3,1),(4,2),(5,2),(6,2),(7,0),(8,2)] (by kernel_rfl) (by kernel_rfl) (fun KK hKK=>?_)
     simp only [beside,List.filterMap_cons,List.filterMap_nil,List.getElem?_toArray,List.getElem?_cons_zero,List.getElem?_cons_succ,Option.map_some]
     repeat ((first | (refine wpX_w ?_ (Or.inl ⟨by rfl,fun w9=>?_⟩) ?_;rotate_left 1;go_simp;with_reducible rfl) | (refine wpX_l ?_ (((Below.refl _ _).drew)) (Or.inl ⟨by rfl,fun w9 hw9=>?_⟩) ?_;rotate_left 1;obtain ⟨hc9,hf9⟩:=bcell hw9;go_simp;with_reducible rfl) | refine wpX_w undef (Or.inr ⟨by rfl,rfl⟩) ?_ | refine wpX_l undef (((Below.refl _ _).drew)) (Or.inr ⟨by rfl,rfl⟩) ?_);go_frame)
     refine wpX_es (fun K9 hK9=>?_)
     go_simp
     refine (HCALL.out _ (HB5.out.drew)).mono ?_
     rintro e wa ⟨Az1,cz1,Az2,cz2,Az3,cz3,rfl,g1,g2,g3,hba⟩
     have HBa:=Lib.hid (show Below W5.heap.size W5 wa from ((Below.refl W5.heap.size W5).drew).trans hba)
     have G1:=Lib.hid g1
     have G2:=Lib.hid g2
     have G3:=Lib.hid g3
     clear g1 g2 g3 hba
     refine hK9 _ _ HBa.out ?_
     clear hK9 K9
     refine wpX_es (fun K9 hK9=>?_)
     go_simp
     have HB7x:=Lib.hid (HBa.out.alloc HBa.out.size (.cells #[.int .i64 z.kind,.bool z.goal,.string z.id,.slice Az1 z.attr.length cz1,.slice Az2 z.value.length cz2,.bool z.acc,.slice Az3 z.conds.length cz3] 50))
     refine hK9 _ _ HB7x.out ?_
     clear hK9 K9
     refine wpX_e (by kernel_rfl) (fun K9 hK9=>?_)
     have HB7:=Lib.hid (HB5.out.trans (HB7x.out.mono HB5.out.size))
     have h9:Below wa.heap.size wa (wa.alloc (.cells #[.int .i64 z.kind,.bool z.goal,.string z.id,.slice Az1 z.attr.length cz1,.slice Az2 z.value.length cz2,.bool z.acc,.slice Az3 z.conds.length cz3] 50)):=(Below.refl _ _).alloc (Nat.le_refl _) _
     have up : ∀j,NewD W5.heap.size wa j→j<wa.heap.size→(Plus C wr (wa.alloc (.cells #[.int .i64 z.kind,.bool z.goal,.string z.id,.slice Az1 z.attr.length cz1,.slice Az2 z.value.length cz2,.bool z.acc,.slice Az3 z.conds.length cz3] 50))) j∧((wa.alloc (.cells #[.int .i64 z.kind,.bool z.goal,.string z.id,.slice Az1 z.attr.length cz1,.slice Az2 z.value.length cz2,.bool z.acc,.slice Az3 z.conds.length cz3] 50))).heap[j]? = wa.heap[j]?:=fun j hj hl=>⟨.inr ⟨Nat.le_trans HB5.out.size hj.1,by simp;omega⟩,h9.block j hl⟩
     have hrep7:=rep_cond (n:=m) (y:=z) (G1.out.keep h9.size up) (G2.out.keep h9.size up) (G3.out.keep h9.size up)
     have hown7:=HO.out.plus HB7.out
     have hcl : ∀j,Plus C wr (wa.alloc (.cells #[.int .i64 z.kind,.bool z.goal,.string z.id,.slice Az1 z.attr.length cz1,.slice Az2 z.value.length cz2,.bool z.acc,.slice Az3 z.conds.length cz3] 50)) j→j<((wa.alloc (.cells #[.int .i64 z.kind,.bool z.goal,.string z.id,.slice Az1 z.attr.length cz1,.slice Az2 z.value.length cz2,.bool z.acc,.slice Az3 z.conds.length cz3] 50))).heap.size:=fun j hj=>by
      rcases hj with hj | hj
      · have:=(HC.out j hj).2;have:=HB7.out.size;omega
      · exact hj.2
     have h63:(L.take k).length+1≤maxLen:=by rw [HKL.out];unfold maxLen;omega
     have hby:((L.take k).length+1)*112≤140737488355328:=by rw [HKL.out];omega
     have hv:Value.slice A k c = .slice A (L.take k).length c:=by rw [HKL.out]
     refine step_append_C _ rfl _ _ 22 rfl 50 j0 _ 7 112 Try.underlying22 hj0 hy0 hyy1 hyy2 rfl rfl (by omega) (Plus C wr (wa.alloc (.cells #[.int .i64 z.kind,.bool z.goal,.string z.id,.slice Az1 z.attr.length cz1,.slice Az2 z.value.length cz2,.bool z.acc,.slice Az3 z.conds.length cz3] 50))) hcl (.slice A (L.take k).length c) (L.take k) hv hown7 ⟨wa.heap.size,0,none⟩ 1 z [.int .i64 z.kind,.bool z.goal,.string z.id,.slice Az1 z.attr.length cz1,.slice Az2 z.value.length cz2,.bool z.acc,.slice Az3 z.conds.length cz3] rfl (World.news_of_block (heap_alloc_new _ _)) (by intro u hu;simp only [List.mem_cons,List.not_mem_nil,or_false] at hu;rcases hu with rfl | rfl | rfl | rfl | rfl | rfl | rfl<;>rfl) hrep7 h63 hby ?_
     intro v' w8 hap
     obtain ⟨A',c',hv',-,-,-⟩:=hap.1.form
     have hlen1:(L.take k ++ [z]).length=k+1:=by rw [List.length_append,HKL.out];rfl
     rw [hlen1] at hv'
     subst hv'
     have hG8:=(HG.out.new_ HB7x.out).grown hap.2.1 HNE.out
     have HAP:=Lib.hid hap
     have u6:=(hG8.cell 6).trans rfl
     have f6:=hG8.frozen 6
     have hgl8:=hG8.lt
     clear h9 up hrep7 hown7 hcl h63 hby hv hlen1 hap hG8
     refine hK9 _ _ ?_
     clear hK9 K9
     repeat ((first | (refine wpX_w ?_ (Or.inl ⟨by rfl,fun w9=>?_⟩) ?_;rotate_left 1;go_simp;with_reducible rfl) | (refine wpX_l ?_ (HB7x.out) (Or.inl ⟨by rfl,fun w9 hw9=>?_⟩) ?_;rotate_left 1;obtain ⟨hc9,hf9⟩:=bcell hw9;go_simp;with_reducible rfl) | refine wpX_w undef (Or.inr ⟨by rfl,rfl⟩) ?_ | refine wpX_l undef (HB7x.out) (Or.inr ⟨by rfl,rfl⟩) ?_);go_frame)
     refine wpX_e (by kernel_rfl) (fun K9 hK9=>?_)
     go_simp
     refine hK9 _ _ ?_
     clear hK9 K9
     refine wpX_nil ?_
     simp only [OnlyN_normal]
     refine hKK _ _ ?_
     clear hKK KK
     go_wp2_with fail
     go_roundw
     case rel=>exact ⟨k+1,A',c',by go_num,by omega,HST.out _ _ _ _ HB7.out HAP.out⟩
     case measure=>simp [intOf];omega
   · obtain rfl:k=x.conds.length:=by omega
     rw [show x.conds.length=L.length from HLL.out.symm] at hG hO ⊢
     rw [List.take_length] at hO
     have hR:=HR1.out.below hB (by have:=HZ1.out;omega)
     have HB9:=Lib.hid (HB1.out.trans (hB.mono HWZ.out))
     have HT9:=Lib.hid (show wr.there (w.heap.size+1) 0 (#[Value.int IntKind.i64 x.kind,Value.bool x.goal,Value.string vi,Value.slice BA LA.length dA,Value.slice BV LV.length dV,Value.bool x.acc,Value.slice A L.length c]:Array Value).size from hR.there)
     have HRG:=Lib.hid (show wr.rangeAt g 0 [Value.int IntKind.i64 x.kind,Value.bool x.goal,Value.string vi,Value.slice BA LA.length dA,Value.slice BV LV.length dV,Value.bool x.acc,Value.slice A L.length c] from by have:=hG.range;exact this)
     have hrl:=hR.lt
     have hup : ∀j,NewD W1.heap.size wr j→j<wr.heap.size→NewD w.heap.size (wr.setCells (w.heap.size+1) 0 [Value.int IntKind.i64 x.kind,Value.bool x.goal,Value.string vi,Value.slice BA LA.length dA,Value.slice BV LV.length dV,Value.bool x.acc,Value.slice A L.length c]) j∧(wr.setCells (w.heap.size+1) 0 [Value.int IntKind.i64 x.kind,Value.bool x.goal,Value.string vi,Value.slice BA LA.length dA,Value.slice BV LV.length dV,Value.bool x.acc,Value.slice A L.length c]).heap[j]? = wr.heap[j]?:=fun j hj hl=>⟨⟨by have:=hj.1;have:=HZ1.out;omega,by rw [size_setCells];omega⟩,blk_setCells _ _ _ _ _ (by have:=hj.1;have:=HZ1.out;omega)⟩
     have L1:=Lib.hid ((t1.weaken hC).keep (w':=wr.setCells (w.heap.size+1) 0 [Value.int IntKind.i64 x.kind,Value.bool x.goal,Value.string vi,Value.slice BA LA.length dA,Value.slice BV LV.length dV,Value.bool x.acc,Value.slice A L.length c]) (by rw [size_setCells];omega) hup)
     have L2:=Lib.hid ((t2.weaken hC).keep (w':=wr.setCells (w.heap.size+1) 0 [Value.int IntKind.i64 x.kind,Value.bool x.goal,Value.string vi,Value.slice BA LA.length dA,Value.slice BV LV.length dV,Value.bool x.acc,Value.slice A L.length c]) (by rw [size_setCells];omega) hup)
     have L3:=Lib.hid ((hO.row hC (hA.mono (fun j hj=>hj.1))).keep (w':=wr.setCells (w.heap.size+1) 0 [Value.int IntKind.i64 x.kind,Value.bool x.goal,Value.string vi,Value.slice BA LA.length dA,Value.slice BV LV.length dV,Value.bool x.acc,Value.slice A L.length c]) (by rw [size_setCells];omega) hup)
     clear hR hG hCg hC t1 t2 hO hA hB hup
     go_upto_region 7 with fail
     go_wp2_with (first | (with_reducible refine wpList_load_mid rfl 50 _ rfl g 0 rfl [Value.int IntKind.i64 x.kind,Value.bool x.goal,Value.string vi,Value.slice BA LA.length dA,Value.slice BV LV.length dV,Value.bool x.acc,Value.slice A L.length c] _ HRG.out Try.underlying50 rfl (by kernel_rfl) ?_) | (with_reducible refine wpList_store_mid rfl 50 _ _ rfl (w.heap.size+1) 0 #[Value.int IntKind.i64 x.kind,Value.bool x.goal,Value.string vi,Value.slice BA LA.length dA,Value.slice BV LV.length dV,Value.bool x.acc,Value.slice A L.length c] rfl rfl HT9.out (by kernel_rfl) (by kernel_rfl) ?_))
     try simp only [Exit.inBlock,Exit.then]
     have hBe:Below w.heap.size w (wr.setCells (w.heap.size+1) 0 [Value.int IntKind.i64 x.kind,Value.bool x.goal,Value.string vi,Value.slice BA LA.length dA,Value.slice BV LV.length dV,Value.bool x.acc,Value.slice A L.length c]):=Below.setCells' _ _ HB9.out (by omega)
     refine bodyPost_ret (v:=.agg #[.int .i64 x.kind,.bool x.goal,.string vi,.slice BA LA.length dA,.slice BV LV.length dV,.bool x.acc,.slice A L.length c]) ?_ rfl (by rw [HR.out];exact ⟨BA,dA,BV,dV,A,c,rfl,L1.out,L2.out,L3.out,hBe⟩)
     exact results_cell (t:=4) (T:=50) rfl _ _ (w.heap.size+1) [Value.int IntKind.i64 x.kind,Value.bool x.goal,Value.string vi,Value.slice BA LA.length dA,Value.slice BV LV.length dV,Value.bool x.acc,Value.slice A L.length c] _ rfl (World.rangeAt_setCells_same wr (w.heap.size+1) 0 [Value.int IntKind.i64 x.kind,Value.bool x.goal,Value.string vi,Value.slice BA LA.length dA,Value.slice BV LV.length dV,Value.bool x.acc,Value.slice A L.length c] HT9.out) Try.underlying50 rfl (by kernel_rfl)
theorem ccond_is {gf:Nat} {lb:Array Value} {w0:World} {Q:ByteArray→Prop} {t:ByteArray→ByteArray} (hN:NamerOk gf lb w0 Q t) : ∀n,RenOk 33 gf lb w0 Q t n
 | 0=>ccond_body hN 0 (fun m h=>by omega)
 | n+1=>ccond_body hN (n+1) (fun m h=>by obtain rfl:m=n:=by omega
                                         exact ccond_is hN m)
end Go.Proofs.Ytffemfglngikbaa
