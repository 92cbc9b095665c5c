/-
  Texts put together: Shape3.
-/
import Derived.Test.YtldndkngpdfpfaaGreatPWm
import Derived.Test.YtldndkngpdfpfaaGreatPWg
namespace Go.Proofs.YtldndkngpdfpfaaGreat
open Go.RowKit Go.Shelf
set_option maxRecDepth 100000 in
set_option maxHeartbeats 8000000 in
theorem test_is (t:TestT) (A:Option Addr) (c:Nat) (w:World) (hrd:RowRd w 3 Sym.cells A c t.list):Calls Tryz.prog 228 #[.agg #[.int .i64 t.rel,.string t.var,.int .i64 t.sym.kind,.string t.sym.text,.int .i64 t.sym.n,.slice A t.list.length c]] w fun e w'=>e = .returned (.bool (testB t))∧Below w.heap.size w w':=by
 have HRD:=Lib.hid hrd
 have hlc:=hrd.cap
 clear hrd
 by_cases h8:t.rel=8
 · by_cases hv:t.var.toList = []
   · by_cases hn:noneB t.sym=false
     · have r1:(t.rel == 8)=true:=by simp [h8]
       have r2:decide (t.rel=8)=true:=by simp [h8]
       have v1:(t.var.toList == [])=true:=by simp [hv]
       have v2:t.var.toList.isEmpty=true:=by simp [hv]
       have v3:decide (t.var.toList = [])=true:=by simp [hv]
       have n1:=hn
       have HR:=Lib.hid (show testB t=false by simp [testB, *])
       clear h8 hv hn
       go_enter Tryz.func228,Tryz.ntmps228
       go_upto_region 1 with fail
       obtain ⟨W1,hW1⟩ : ∃W1,W1=w.alloc (.cells #[.int .i64 t.rel,.string t.var,.int .i64 t.sym.kind,.string t.sym.text,.int .i64 t.sym.n,.slice A t.list.length c] 142):=⟨_,rfl⟩
       rw [← hW1]
       have hBk:Blk W1 w.heap.size 142 #[.int .i64 t.rel,.string t.var,.int .i64 t.sym.kind,.string t.sym.text,.int .i64 t.sym.n,.slice A t.list.length c]:=by rw [hW1];exact Blk.new _ _ _
       have HB:=Lib.hid (show Below w.heap.size w W1 by rw [hW1];exact (Below.refl _ _).alloc (Nat.le_refl _) _)
       have e0:W1.cell? ⟨w.heap.size,0,none⟩=some (.int .i64 t.rel):=(hBk.cell 0).trans rfl
       have e1:W1.cell? ⟨w.heap.size,1,none⟩=some (.string t.var):=(hBk.cell 1).trans rfl
       have e2:W1.cell? ⟨w.heap.size,2,none⟩=some (.int .i64 t.sym.kind):=(hBk.cell 2).trans rfl
       have e3:W1.cell? ⟨w.heap.size,3,none⟩=some (.string t.sym.text):=(hBk.cell 3).trans rfl
       have e4:W1.cell? ⟨w.heap.size,4,none⟩=some (.int .i64 t.sym.n):=(hBk.cell 4).trans rfl
       have e5:W1.cell? ⟨w.heap.size,5,none⟩=some (.slice A t.list.length c):=(hBk.cell 5).trans rfl
       have hbl:=hBk.lt
       clear hW1 hBk
       go_wp2_with (first | (go_at_call 229;refine (none_is t.sym _).mono ?_;rintro e w9 ⟨rfl,hb9⟩;have HB:=Lib.hid (HB.out.trans (hb9.mono HB.out.size));replace e0:=(hb9.cell (p:=⟨w.heap.size,0,none⟩) hbl).trans e0;replace e1:=(hb9.cell (p:=⟨w.heap.size,1,none⟩) hbl).trans e1;replace e2:=(hb9.cell (p:=⟨w.heap.size,2,none⟩) hbl).trans e2;replace e3:=(hb9.cell (p:=⟨w.heap.size,3,none⟩) hbl).trans e3;replace e4:=(hb9.cell (p:=⟨w.heap.size,4,none⟩) hbl).trans e4;replace e5:=(hb9.cell (p:=⟨w.heap.size,5,none⟩) hbl).trans e5;replace hbl:=Nat.lt_of_lt_of_le hbl hb9.size;clear hb9) | (go_at_call 230;refine (constant_is t.sym _).mono ?_;rintro e w9 ⟨rfl,hb9⟩;have HB:=Lib.hid (HB.out.trans (hb9.mono HB.out.size));replace e0:=(hb9.cell (p:=⟨w.heap.size,0,none⟩) hbl).trans e0;replace e1:=(hb9.cell (p:=⟨w.heap.size,1,none⟩) hbl).trans e1;replace e2:=(hb9.cell (p:=⟨w.heap.size,2,none⟩) hbl).trans e2;replace e3:=(hb9.cell (p:=⟨w.heap.size,3,none⟩) hbl).trans e3;replace e4:=(hb9.cell (p:=⟨w.heap.size,4,none⟩) hbl).trans e4;replace e5:=(hb9.cell (p:=⟨w.heap.size,5,none⟩) hbl).trans e5;replace hbl:=Nat.lt_of_lt_of_le hbl hb9.size;clear hb9) | (go_at_call 154;refine (word_is t.var _).mono ?_;rintro e w9 ⟨rfl,rfl⟩))
       go_ret
       exact ⟨by rw [HR.out]<;>rfl,HB.out⟩
     by_cases h1:t.list.length<1
     · have r1:(t.rel == 8)=true:=by simp [h8]
       have r2:decide (t.rel=8)=true:=by simp [h8]
       have v1:(t.var.toList == [])=true:=by simp [hv]
       have v2:t.var.toList.isEmpty=true:=by simp [hv]
       have v3:decide (t.var.toList = [])=true:=by simp [hv]
       have n1:noneB t.sym=true:=by simpa using hn
       have l1:decide ((t.list.length:Int)<1)=true:=decide_eq_true (by omega)
       have l2:decide (t.list.length<1)=true:=decide_eq_true (by omega)
       have l3:t.list.length=0:=by omega
       have l4:=l3
       have HR:=Lib.hid (show testB t=false by simp [testB, *])
       clear h8 hv hn h1 l3 l4
       go_enter Tryz.func228,Tryz.ntmps228
       go_upto_region 1 with fail
       obtain ⟨W1,hW1⟩ : ∃W1,W1=w.alloc (.cells #[.int .i64 t.rel,.string t.var,.int .i64 t.sym.kind,.string t.sym.text,.int .i64 t.sym.n,.slice A t.list.length c] 142):=⟨_,rfl⟩
       rw [← hW1]
       have hBk:Blk W1 w.heap.size 142 #[.int .i64 t.rel,.string t.var,.int .i64 t.sym.kind,.string t.sym.text,.int .i64 t.sym.n,.slice A t.list.length c]:=by rw [hW1];exact Blk.new _ _ _
       have HB:=Lib.hid (show Below w.heap.size w W1 by rw [hW1];exact (Below.refl _ _).alloc (Nat.le_refl _) _)
       have e0:W1.cell? ⟨w.heap.size,0,none⟩=some (.int .i64 t.rel):=(hBk.cell 0).trans rfl
       have e1:W1.cell? ⟨w.heap.size,1,none⟩=some (.string t.var):=(hBk.cell 1).trans rfl
       have e2:W1.cell? ⟨w.heap.size,2,none⟩=some (.int .i64 t.sym.kind):=(hBk.cell 2).trans rfl
       have e3:W1.cell? ⟨w.heap.size,3,none⟩=some (.string t.sym.text):=(hBk.cell 3).trans rfl
       have e4:W1.cell? ⟨w.heap.size,4,none⟩=some (.int .i64 t.sym.n):=(hBk.cell 4).trans rfl
       have e5:W1.cell? ⟨w.heap.size,5,none⟩=some (.slice A t.list.length c):=(hBk.cell 5).trans rfl
       have hbl:=hBk.lt
       clear hW1 hBk
       go_wp2_with (first | (go_at_call 229;refine (none_is t.sym _).mono ?_;rintro e w9 ⟨rfl,hb9⟩;have HB:=Lib.hid (HB.out.trans (hb9.mono HB.out.size));replace e0:=(hb9.cell (p:=⟨w.heap.size,0,none⟩) hbl).trans e0;replace e1:=(hb9.cell (p:=⟨w.heap.size,1,none⟩) hbl).trans e1;replace e2:=(hb9.cell (p:=⟨w.heap.size,2,none⟩) hbl).trans e2;replace e3:=(hb9.cell (p:=⟨w.heap.size,3,none⟩) hbl).trans e3;replace e4:=(hb9.cell (p:=⟨w.heap.size,4,none⟩) hbl).trans e4;replace e5:=(hb9.cell (p:=⟨w.heap.size,5,none⟩) hbl).trans e5;replace hbl:=Nat.lt_of_lt_of_le hbl hb9.size;clear hb9) | (go_at_call 230;refine (constant_is t.sym _).mono ?_;rintro e w9 ⟨rfl,hb9⟩;have HB:=Lib.hid (HB.out.trans (hb9.mono HB.out.size));replace e0:=(hb9.cell (p:=⟨w.heap.size,0,none⟩) hbl).trans e0;replace e1:=(hb9.cell (p:=⟨w.heap.size,1,none⟩) hbl).trans e1;replace e2:=(hb9.cell (p:=⟨w.heap.size,2,none⟩) hbl).trans e2;replace e3:=(hb9.cell (p:=⟨w.heap.size,3,none⟩) hbl).trans e3;replace e4:=(hb9.cell (p:=⟨w.heap.size,4,none⟩) hbl).trans e4;replace e5:=(hb9.cell (p:=⟨w.heap.size,5,none⟩) hbl).trans e5;replace hbl:=Nat.lt_of_lt_of_le hbl hb9.size;clear hb9) | (go_at_call 154;refine (word_is t.var _).mono ?_;rintro e w9 ⟨rfl,rfl⟩))
       go_ret
       exact ⟨by rw [HR.out]<;>rfl,HB.out⟩
     by_cases h9:8<t.list.length
     · have r1:(t.rel == 8)=true:=by simp [h8]
       have r2:decide (t.rel=8)=true:=by simp [h8]
       have v1:(t.var.toList == [])=true:=by simp [hv]
       have v2:t.var.toList.isEmpty=true:=by simp [hv]
       have v3:decide (t.var.toList = [])=true:=by simp [hv]
       have n1:noneB t.sym=true:=by simpa using hn
       have l1:decide ((t.list.length:Int)<1)=false:=decide_eq_false (by omega)
       have l2:decide (t.list.length<1)=false:=decide_eq_false (by omega)
       have l3:decide ((8:Int)<(t.list.length:Int))=true:=decide_eq_true (by omega)
       have l4:decide (8<t.list.length)=true:=decide_eq_true (by omega)
       have l5 : ¬t.list.length≤8:=by omega
       have HR:=Lib.hid (show testB t=false by simp [testB, *])
       clear h8 hv hn h1 h9 l5
       go_enter Tryz.func228,Tryz.ntmps228
       go_upto_region 1 with fail
       obtain ⟨W1,hW1⟩ : ∃W1,W1=w.alloc (.cells #[.int .i64 t.rel,.string t.var,.int .i64 t.sym.kind,.string t.sym.text,.int .i64 t.sym.n,.slice A t.list.length c] 142):=⟨_,rfl⟩
       rw [← hW1]
       have hBk:Blk W1 w.heap.size 142 #[.int .i64 t.rel,.string t.var,.int .i64 t.sym.kind,.string t.sym.text,.int .i64 t.sym.n,.slice A t.list.length c]:=by rw [hW1];exact Blk.new _ _ _
       have HB:=Lib.hid (show Below w.heap.size w W1 by rw [hW1];exact (Below.refl _ _).alloc (Nat.le_refl _) _)
       have e0:W1.cell? ⟨w.heap.size,0,none⟩=some (.int .i64 t.rel):=(hBk.cell 0).trans rfl
       have e1:W1.cell? ⟨w.heap.size,1,none⟩=some (.string t.var):=(hBk.cell 1).trans rfl
       have e2:W1.cell? ⟨w.heap.size,2,none⟩=some (.int .i64 t.sym.kind):=(hBk.cell 2).trans rfl
       have e3:W1.cell? ⟨w.heap.size,3,none⟩=some (.string t.sym.text):=(hBk.cell 3).trans rfl
       have e4:W1.cell? ⟨w.heap.size,4,none⟩=some (.int .i64 t.sym.n):=(hBk.cell 4).trans rfl
       have e5:W1.cell? ⟨w.heap.size,5,none⟩=some (.slice A t.list.length c):=(hBk.cell 5).trans rfl
       have hbl:=hBk.lt
       clear hW1 hBk
       go_wp2_with (first | (go_at_call 229;refine (none_is t.sym _).mono ?_;rintro e w9 ⟨rfl,hb9⟩;have HB:=Lib.hid (HB.out.trans (hb9.mono HB.out.size));replace e0:=(hb9.cell (p:=⟨w.heap.size,0,none⟩) hbl).trans e0;replace e1:=(hb9.cell (p:=⟨w.heap.size,1,none⟩) hbl).trans e1;replace e2:=(hb9.cell (p:=⟨w.heap.size,2,none⟩) hbl).trans e2;replace e3:=(hb9.cell (p:=⟨w.heap.size,3,none⟩) hbl).trans e3;replace e4:=(hb9.cell (p:=⟨w.heap.size,4,none⟩) hbl).trans e4;replace e5:=(hb9.cell (p:=⟨w.heap.size,5,none⟩) hbl).trans e5;replace hbl:=Nat.lt_of_lt_of_le hbl hb9.size;clear hb9) | (go_at_call 230;refine (constant_is t.sym _).mono ?_;rintro e w9 ⟨rfl,hb9⟩;have HB:=Lib.hid (HB.out.trans (hb9.mono HB.out.size));replace e0:=(hb9.cell (p:=⟨w.heap.size,0,none⟩) hbl).trans e0;replace e1:=(hb9.cell (p:=⟨w.heap.size,1,none⟩) hbl).trans e1;replace e2:=(hb9.cell (p:=⟨w.heap.size,2,none⟩) hbl).trans e2;replace e3:=(hb9.cell (p:=⟨w.heap.size,3,none⟩) hbl).trans e3;replace e4:=(hb9.cell (p:=⟨w.heap.size,4,none⟩) hbl).trans e4;replace e5:=(hb9.cell (p:=⟨w.heap.size,5,none⟩) hbl).trans e5;replace hbl:=Nat.lt_of_lt_of_le hbl hb9.size;clear hb9) | (go_at_call 154;refine (word_is t.var _).mono ?_;rintro e w9 ⟨rfl,rfl⟩))
       go_ret
       exact ⟨by rw [HR.out]<;>rfl,HB.out⟩
     have r1:(t.rel == 8)=true:=by simp [h8]
     have r2:decide (t.rel=8)=true:=by simp [h8]
     have v1:(t.var.toList == [])=true:=by simp [hv]
     have v2:t.var.toList.isEmpty=true:=by simp [hv]
     have v3:decide (t.var.toList = [])=true:=by simp [hv]
     have n1:noneB t.sym=true:=by simpa using hn
     have l1:decide ((t.list.length:Int)<1)=false:=decide_eq_false (by omega)
     have l2:decide (t.list.length<1)=false:=decide_eq_false (by omega)
     have l3:decide ((8:Int)<(t.list.length:Int))=false:=decide_eq_false (by omega)
     have l4:decide (8<t.list.length)=false:=decide_eq_false (by omega)
     have l5:t.list.length≤8:=by omega
     have l6:1≤t.list.length:=by omega
     have HR:=Lib.hid (show testB t=t.list.all constB by simp [testB, *])
     clear h8 hv hn h1 h9 l5 l6
     go_enter Tryz.func228,Tryz.ntmps228
     go_upto_region 1 with fail
     obtain ⟨W1,hW1⟩ : ∃W1,W1=w.alloc (.cells #[.int .i64 t.rel,.string t.var,.int .i64 t.sym.kind,.string t.sym.text,.int .i64 t.sym.n,.slice A t.list.length c] 142):=⟨_,rfl⟩
     rw [← hW1]
     have hBk:Blk W1 w.heap.size 142 #[.int .i64 t.rel,.string t.var,.int .i64 t.sym.kind,.string t.sym.text,.int .i64 t.sym.n,.slice A t.list.length c]:=by rw [hW1];exact Blk.new _ _ _
     have HB:=Lib.hid (show Below w.heap.size w W1 by rw [hW1];exact (Below.refl _ _).alloc (Nat.le_refl _) _)
     have e0:W1.cell? ⟨w.heap.size,0,none⟩=some (.int .i64 t.rel):=(hBk.cell 0).trans rfl
     have e1:W1.cell? ⟨w.heap.size,1,none⟩=some (.string t.var):=(hBk.cell 1).trans rfl
     have e2:W1.cell? ⟨w.heap.size,2,none⟩=some (.int .i64 t.sym.kind):=(hBk.cell 2).trans rfl
     have e3:W1.cell? ⟨w.heap.size,3,none⟩=some (.string t.sym.text):=(hBk.cell 3).trans rfl
     have e4:W1.cell? ⟨w.heap.size,4,none⟩=some (.int .i64 t.sym.n):=(hBk.cell 4).trans rfl
     have e5:W1.cell? ⟨w.heap.size,5,none⟩=some (.slice A t.list.length c):=(hBk.cell 5).trans rfl
     have hbl:=hBk.lt
     clear hW1 hBk
     go_wp2_with (first | (go_at_call 229;refine (none_is t.sym _).mono ?_;rintro e w9 ⟨rfl,hb9⟩;have HB:=Lib.hid (HB.out.trans (hb9.mono HB.out.size));replace e0:=(hb9.cell (p:=⟨w.heap.size,0,none⟩) hbl).trans e0;replace e1:=(hb9.cell (p:=⟨w.heap.size,1,none⟩) hbl).trans e1;replace e2:=(hb9.cell (p:=⟨w.heap.size,2,none⟩) hbl).trans e2;replace e3:=(hb9.cell (p:=⟨w.heap.size,3,none⟩) hbl).trans e3;replace e4:=(hb9.cell (p:=⟨w.heap.size,4,none⟩) hbl).trans e4;replace e5:=(hb9.cell (p:=⟨w.heap.size,5,none⟩) hbl).trans e5;replace hbl:=Nat.lt_of_lt_of_le hbl hb9.size;clear hb9) | (go_at_call 230;refine (constant_is t.sym _).mono ?_;rintro e w9 ⟨rfl,hb9⟩;have HB:=Lib.hid (HB.out.trans (hb9.mono HB.out.size));replace e0:=(hb9.cell (p:=⟨w.heap.size,0,none⟩) hbl).trans e0;replace e1:=(hb9.cell (p:=⟨w.heap.size,1,none⟩) hbl).trans e1;replace e2:=(hb9.cell (p:=⟨w.heap.size,2,none⟩) hbl).trans e2;replace e3:=(hb9.cell (p:=⟨w.heap.size,3,none⟩) hbl).trans e3;replace e4:=(hb9.cell (p:=⟨w.heap.size,4,none⟩) hbl).trans e4;replace e5:=(hb9.cell (p:=⟨w.heap.size,5,none⟩) hbl).trans e5;replace hbl:=Nat.lt_of_lt_of_le hbl hb9.size;clear hb9) | (go_at_call 154;refine (word_is t.var _).mono ?_;rintro e w9 ⟨rfl,rfl⟩))
     clear e0 e1 e2 e3 e4 e5
     have HBX:=Lib.hid HB.out
     go_loopw [32] (fun s wr=>∃i:Nat,s = .int .i64 i∧i≤t.list.length∧(∀k,(h:k<t.list.length)→k<i→constB t.list[k]=true)∧Below w.heap.size w wr) (fun s wr=>t.list.length - (intOf s).toNat)
     case atStart=>exact ⟨0,rfl,Nat.zero_le _,fun k _ h=>absurd h (by omega),HBX.out⟩
     case round=>
      obtain ⟨i,rfl,hi,hall,hB⟩:=hrel
      have HALL:=Lib.hid hall
      have HBr:=Lib.hid hB
      clear hall hB
      by_cases hlt:i<t.list.length
      · obtain ⟨y,hy⟩ : ∃y,y=t.list[i]:=⟨_,rfl⟩
        obtain ⟨g,off,rfl,hg,q0,q1,q2⟩:=sym_at (HRD.out.new_ HBr.out) hlt
        rw [← hy] at q0 q1 q2
        have HY:=Lib.hid hy
        have b1:(0:Int)≤(i:Int):=by omega
        have b2:(i:Int)<(t.list.length:Int):=by omega
        have hzr:=HBr.out.size
        clear hy
        go_wp2_with fail
        refine (constant_is y _).mono ?_
        rintro e w9 ⟨rfl,hb9⟩
        have HB9:=Lib.hid (HBr.out.trans ((Below.trans (show Below wr.heap.size wr _ from (by (repeat (first | exact Below.refl _ _ | refine Below.drew ?_ | refine Below.al ?_ _ | refine Below.sc ?_ _)))) (hb9.mono (by simp)):Below wr.heap.size wr w9).mono hzr))
        clear hb9 q0 q1 q2
        cases hcb:constB y
        · have HRf:=Lib.hid (show t.list.all constB=false from List.all_eq_false.2 ⟨y,by rw [HY.out];exact List.getElem_mem hlt,by rw [hcb];simp⟩)
          clear hcb
          go_wp2_with fail
          go_ret
          exact ⟨by rw [HR.out,HRf.out]<;>rfl,HB9.out⟩
        · have HCB:=Lib.hid hcb
          clear hcb
          go_wp2_with fail
          go_roundw
          case rel=>exact ⟨i+1,by go_num,by omega,fun k hk hki=>by
           by_cases e:k=i
           · subst e;rw [← HY.out];exact HCB.out
           · exact HALL.out k hk (by omega),HB9.out⟩
          case measure=>simp [intOf]<;>omega
      · have hie:i=t.list.length:=by omega
        subst hie
        have HRt:=Lib.hid (show t.list.all constB=true from List.all_eq_true.2 (fun x hx=>by
         obtain ⟨k,hk,rfl⟩:=List.getElem_of_mem hx
         exact HALL.out k hk hk))
        go_wp2_with fail
        go_ret
        exact ⟨by rw [HR.out,HRt.out]<;>rfl,HBr.out⟩
   · have r1:(t.rel == 8)=true:=by simp [h8]
     have r2:decide (t.rel=8)=true:=by simp [h8]
     have v1:(t.var.toList == [])=false:=by simp [hv]
     have v2:t.var.toList.isEmpty=false:=by simp [hv]
     have v3:decide (t.var.toList = [])=false:=by simp [hv]
     have HR:=Lib.hid (show testB t=false by simp [testB, *])
     clear h8 hv
     go_enter Tryz.func228,Tryz.ntmps228
     go_upto_region 1 with fail
     obtain ⟨W1,hW1⟩ : ∃W1,W1=w.alloc (.cells #[.int .i64 t.rel,.string t.var,.int .i64 t.sym.kind,.string t.sym.text,.int .i64 t.sym.n,.slice A t.list.length c] 142):=⟨_,rfl⟩
     rw [← hW1]
     have hBk:Blk W1 w.heap.size 142 #[.int .i64 t.rel,.string t.var,.int .i64 t.sym.kind,.string t.sym.text,.int .i64 t.sym.n,.slice A t.list.length c]:=by rw [hW1];exact Blk.new _ _ _
     have HB:=Lib.hid (show Below w.heap.size w W1 by rw [hW1];exact (Below.refl _ _).alloc (Nat.le_refl _) _)
     have e0:W1.cell? ⟨w.heap.size,0,none⟩=some (.int .i64 t.rel):=(hBk.cell 0).trans rfl
     have e1:W1.cell? ⟨w.heap.size,1,none⟩=some (.string t.var):=(hBk.cell 1).trans rfl
     have e2:W1.cell? ⟨w.heap.size,2,none⟩=some (.int .i64 t.sym.kind):=(hBk.cell 2).trans rfl
     have e3:W1.cell? ⟨w.heap.size,3,none⟩=some (.string t.sym.text):=(hBk.cell 3).trans rfl
     have e4:W1.cell? ⟨w.heap.size,4,none⟩=some (.int .i64 t.sym.n):=(hBk.cell 4).trans rfl
     have e5:W1.cell? ⟨w.heap.size,5,none⟩=some (.slice A t.list.length c):=(hBk.cell 5).trans rfl
     have hbl:=hBk.lt
     clear hW1 hBk
     go_wp2_with (first | (go_at_call 229;refine (none_is t.sym _).mono ?_;rintro e w9 ⟨rfl,hb9⟩;have HB:=Lib.hid (HB.out.trans (hb9.mono HB.out.size));replace e0:=(hb9.cell (p:=⟨w.heap.size,0,none⟩) hbl).trans e0;replace e1:=(hb9.cell (p:=⟨w.heap.size,1,none⟩) hbl).trans e1;replace e2:=(hb9.cell (p:=⟨w.heap.size,2,none⟩) hbl).trans e2;replace e3:=(hb9.cell (p:=⟨w.heap.size,3,none⟩) hbl).trans e3;replace e4:=(hb9.cell (p:=⟨w.heap.size,4,none⟩) hbl).trans e4;replace e5:=(hb9.cell (p:=⟨w.heap.size,5,none⟩) hbl).trans e5;replace hbl:=Nat.lt_of_lt_of_le hbl hb9.size;clear hb9) | (go_at_call 230;refine (constant_is t.sym _).mono ?_;rintro e w9 ⟨rfl,hb9⟩;have HB:=Lib.hid (HB.out.trans (hb9.mono HB.out.size));replace e0:=(hb9.cell (p:=⟨w.heap.size,0,none⟩) hbl).trans e0;replace e1:=(hb9.cell (p:=⟨w.heap.size,1,none⟩) hbl).trans e1;replace e2:=(hb9.cell (p:=⟨w.heap.size,2,none⟩) hbl).trans e2;replace e3:=(hb9.cell (p:=⟨w.heap.size,3,none⟩) hbl).trans e3;replace e4:=(hb9.cell (p:=⟨w.heap.size,4,none⟩) hbl).trans e4;replace e5:=(hb9.cell (p:=⟨w.heap.size,5,none⟩) hbl).trans e5;replace hbl:=Nat.lt_of_lt_of_le hbl hb9.size;clear hb9) | (go_at_call 154;refine (word_is t.var _).mono ?_;rintro e w9 ⟨rfl,rfl⟩))
     go_ret
     exact ⟨by rw [HR.out]<;>rfl,HB.out⟩
 by_cases h1:t.rel<1
 · have r1:(t.rel == 8)=false:=by simp [h8]
   have r2:decide (t.rel=8)=false:=by simp [h8]
   have r3:decide (t.rel<1)=true:=decide_eq_true (by omega)
   have HR:=Lib.hid (show testB t=false by simp [testB, *])
   clear h8 h1
   go_enter Tryz.func228,Tryz.ntmps228
   go_upto_region 1 with fail
   obtain ⟨W1,hW1⟩ : ∃W1,W1=w.alloc (.cells #[.int .i64 t.rel,.string t.var,.int .i64 t.sym.kind,.string t.sym.text,.int .i64 t.sym.n,.slice A t.list.length c] 142):=⟨_,rfl⟩
   rw [← hW1]
   have hBk:Blk W1 w.heap.size 142 #[.int .i64 t.rel,.string t.var,.int .i64 t.sym.kind,.string t.sym.text,.int .i64 t.sym.n,.slice A t.list.length c]:=by rw [hW1];exact Blk.new _ _ _
   have HB:=Lib.hid (show Below w.heap.size w W1 by rw [hW1];exact (Below.refl _ _).alloc (Nat.le_refl _) _)
   have e0:W1.cell? ⟨w.heap.size,0,none⟩=some (.int .i64 t.rel):=(hBk.cell 0).trans rfl
   have e1:W1.cell? ⟨w.heap.size,1,none⟩=some (.string t.var):=(hBk.cell 1).trans rfl
   have e2:W1.cell? ⟨w.heap.size,2,none⟩=some (.int .i64 t.sym.kind):=(hBk.cell 2).trans rfl
   have e3:W1.cell? ⟨w.heap.size,3,none⟩=some (.string t.sym.text):=(hBk.cell 3).trans rfl
   have e4:W1.cell? ⟨w.heap.size,4,none⟩=some (.int .i64 t.sym.n):=(hBk.cell 4).trans rfl
   have e5:W1.cell? ⟨w.heap.size,5,none⟩=some (.slice A t.list.length c):=(hBk.cell 5).trans rfl
   have hbl:=hBk.lt
   clear hW1 hBk
   go_wp2_with (first | (go_at_call 229;refine (none_is t.sym _).mono ?_;rintro e w9 ⟨rfl,hb9⟩;have HB:=Lib.hid (HB.out.trans (hb9.mono HB.out.size));replace e0:=(hb9.cell (p:=⟨w.heap.size,0,none⟩) hbl).trans e0;replace e1:=(hb9.cell (p:=⟨w.heap.size,1,none⟩) hbl).trans e1;replace e2:=(hb9.cell (p:=⟨w.heap.size,2,none⟩) hbl).trans e2;replace e3:=(hb9.cell (p:=⟨w.heap.size,3,none⟩) hbl).trans e3;replace e4:=(hb9.cell (p:=⟨w.heap.size,4,none⟩) hbl).trans e4;replace e5:=(hb9.cell (p:=⟨w.heap.size,5,none⟩) hbl).trans e5;replace hbl:=Nat.lt_of_lt_of_le hbl hb9.size;clear hb9) | (go_at_call 230;refine (constant_is t.sym _).mono ?_;rintro e w9 ⟨rfl,hb9⟩;have HB:=Lib.hid (HB.out.trans (hb9.mono HB.out.size));replace e0:=(hb9.cell (p:=⟨w.heap.size,0,none⟩) hbl).trans e0;replace e1:=(hb9.cell (p:=⟨w.heap.size,1,none⟩) hbl).trans e1;replace e2:=(hb9.cell (p:=⟨w.heap.size,2,none⟩) hbl).trans e2;replace e3:=(hb9.cell (p:=⟨w.heap.size,3,none⟩) hbl).trans e3;replace e4:=(hb9.cell (p:=⟨w.heap.size,4,none⟩) hbl).trans e4;replace e5:=(hb9.cell (p:=⟨w.heap.size,5,none⟩) hbl).trans e5;replace hbl:=Nat.lt_of_lt_of_le hbl hb9.size;clear hb9) | (go_at_call 154;refine (word_is t.var _).mono ?_;rintro e w9 ⟨rfl,rfl⟩))
   go_ret
   exact ⟨by rw [HR.out]<;>rfl,HB.out⟩
 by_cases h7:7<t.rel
 · have r1:(t.rel == 8)=false:=by simp [h8]
   have r2:decide (t.rel=8)=false:=by simp [h8]
   have r3:decide (t.rel<1)=false:=decide_eq_false (by omega)
   have r4:decide (7<t.rel)=true:=decide_eq_true (by omega)
   have HR:=Lib.hid (show testB t=false by simp [testB, *])
   clear h8 h1 h7
   go_enter Tryz.func228,Tryz.ntmps228
   go_upto_region 1 with fail
   obtain ⟨W1,hW1⟩ : ∃W1,W1=w.alloc (.cells #[.int .i64 t.rel,.string t.var,.int .i64 t.sym.kind,.string t.sym.text,.int .i64 t.sym.n,.slice A t.list.length c] 142):=⟨_,rfl⟩
   rw [← hW1]
   have hBk:Blk W1 w.heap.size 142 #[.int .i64 t.rel,.string t.var,.int .i64 t.sym.kind,.string t.sym.text,.int .i64 t.sym.n,.slice A t.list.length c]:=by rw [hW1];exact Blk.new _ _ _
   have HB:=Lib.hid (show Below w.heap.size w W1 by rw [hW1];exact (Below.refl _ _).alloc (Nat.le_refl _) _)
   have e0:W1.cell? ⟨w.heap.size,0,none⟩=some (.int .i64 t.rel):=(hBk.cell 0).trans rfl
   have e1:W1.cell? ⟨w.heap.size,1,none⟩=some (.string t.var):=(hBk.cell 1).trans rfl
   have e2:W1.cell? ⟨w.heap.size,2,none⟩=some (.int .i64 t.sym.kind):=(hBk.cell 2).trans rfl
   have e3:W1.cell? ⟨w.heap.size,3,none⟩=some (.string t.sym.text):=(hBk.cell 3).trans rfl
   have e4:W1.cell? ⟨w.heap.size,4,none⟩=some (.int .i64 t.sym.n):=(hBk.cell 4).trans rfl
   have e5:W1.cell? ⟨w.heap.size,5,none⟩=some (.slice A t.list.length c):=(hBk.cell 5).trans rfl
   have hbl:=hBk.lt
   clear hW1 hBk
   go_wp2_with (first | (go_at_call 229;refine (none_is t.sym _).mono ?_;rintro e w9 ⟨rfl,hb9⟩;have HB:=Lib.hid (HB.out.trans (hb9.mono HB.out.size));replace e0:=(hb9.cell (p:=⟨w.heap.size,0,none⟩) hbl).trans e0;replace e1:=(hb9.cell (p:=⟨w.heap.size,1,none⟩) hbl).trans e1;replace e2:=(hb9.cell (p:=⟨w.heap.size,2,none⟩) hbl).trans e2;replace e3:=(hb9.cell (p:=⟨w.heap.size,3,none⟩) hbl).trans e3;replace e4:=(hb9.cell (p:=⟨w.heap.size,4,none⟩) hbl).trans e4;replace e5:=(hb9.cell (p:=⟨w.heap.size,5,none⟩) hbl).trans e5;replace hbl:=Nat.lt_of_lt_of_le hbl hb9.size;clear hb9) | (go_at_call 230;refine (constant_is t.sym _).mono ?_;rintro e w9 ⟨rfl,hb9⟩;have HB:=Lib.hid (HB.out.trans (hb9.mono HB.out.size));replace e0:=(hb9.cell (p:=⟨w.heap.size,0,none⟩) hbl).trans e0;replace e1:=(hb9.cell (p:=⟨w.heap.size,1,none⟩) hbl).trans e1;replace e2:=(hb9.cell (p:=⟨w.heap.size,2,none⟩) hbl).trans e2;replace e3:=(hb9.cell (p:=⟨w.heap.size,3,none⟩) hbl).trans e3;replace e4:=(hb9.cell (p:=⟨w.heap.size,4,none⟩) hbl).trans e4;replace e5:=(hb9.cell (p:=⟨w.heap.size,5,none⟩) hbl).trans e5;replace hbl:=Nat.lt_of_lt_of_le hbl hb9.size;clear hb9) | (go_at_call 154;refine (word_is t.var _).mono ?_;rintro e w9 ⟨rfl,rfl⟩))
   go_ret
   exact ⟨by rw [HR.out]<;>rfl,HB.out⟩
 by_cases hl:0<t.list.length
 · have r1:(t.rel == 8)=false:=by simp [h8]
   have r2:decide (t.rel=8)=false:=by simp [h8]
   have r3:decide (t.rel<1)=false:=decide_eq_false (by omega)
   have r4:decide (7<t.rel)=false:=decide_eq_false (by omega)
   have l1:decide ((0:Int)<(t.list.length:Int))=true:=decide_eq_true (by omega)
   have l2:decide (0<t.list.length)=true:=decide_eq_true (by omega)
   have HR:=Lib.hid (show testB t=false by simp [testB, *])
   clear h8 h1 h7 hl
   go_enter Tryz.func228,Tryz.ntmps228
   go_upto_region 1 with fail
   obtain ⟨W1,hW1⟩ : ∃W1,W1=w.alloc (.cells #[.int .i64 t.rel,.string t.var,.int .i64 t.sym.kind,.string t.sym.text,.int .i64 t.sym.n,.slice A t.list.length c] 142):=⟨_,rfl⟩
   rw [← hW1]
   have hBk:Blk W1 w.heap.size 142 #[.int .i64 t.rel,.string t.var,.int .i64 t.sym.kind,.string t.sym.text,.int .i64 t.sym.n,.slice A t.list.length c]:=by rw [hW1];exact Blk.new _ _ _
   have HB:=Lib.hid (show Below w.heap.size w W1 by rw [hW1];exact (Below.refl _ _).alloc (Nat.le_refl _) _)
   have e0:W1.cell? ⟨w.heap.size,0,none⟩=some (.int .i64 t.rel):=(hBk.cell 0).trans rfl
   have e1:W1.cell? ⟨w.heap.size,1,none⟩=some (.string t.var):=(hBk.cell 1).trans rfl
   have e2:W1.cell? ⟨w.heap.size,2,none⟩=some (.int .i64 t.sym.kind):=(hBk.cell 2).trans rfl
   have e3:W1.cell? ⟨w.heap.size,3,none⟩=some (.string t.sym.text):=(hBk.cell 3).trans rfl
   have e4:W1.cell? ⟨w.heap.size,4,none⟩=some (.int .i64 t.sym.n):=(hBk.cell 4).trans rfl
   have e5:W1.cell? ⟨w.heap.size,5,none⟩=some (.slice A t.list.length c):=(hBk.cell 5).trans rfl
   have hbl:=hBk.lt
   clear hW1 hBk
   go_wp2_with (first | (go_at_call 229;refine (none_is t.sym _).mono ?_;rintro e w9 ⟨rfl,hb9⟩;have HB:=Lib.hid (HB.out.trans (hb9.mono HB.out.size));replace e0:=(hb9.cell (p:=⟨w.heap.size,0,none⟩) hbl).trans e0;replace e1:=(hb9.cell (p:=⟨w.heap.size,1,none⟩) hbl).trans e1;replace e2:=(hb9.cell (p:=⟨w.heap.size,2,none⟩) hbl).trans e2;replace e3:=(hb9.cell (p:=⟨w.heap.size,3,none⟩) hbl).trans e3;replace e4:=(hb9.cell (p:=⟨w.heap.size,4,none⟩) hbl).trans e4;replace e5:=(hb9.cell (p:=⟨w.heap.size,5,none⟩) hbl).trans e5;replace hbl:=Nat.lt_of_lt_of_le hbl hb9.size;clear hb9) | (go_at_call 230;refine (constant_is t.sym _).mono ?_;rintro e w9 ⟨rfl,hb9⟩;have HB:=Lib.hid (HB.out.trans (hb9.mono HB.out.size));replace e0:=(hb9.cell (p:=⟨w.heap.size,0,none⟩) hbl).trans e0;replace e1:=(hb9.cell (p:=⟨w.heap.size,1,none⟩) hbl).trans e1;replace e2:=(hb9.cell (p:=⟨w.heap.size,2,none⟩) hbl).trans e2;replace e3:=(hb9.cell (p:=⟨w.heap.size,3,none⟩) hbl).trans e3;replace e4:=(hb9.cell (p:=⟨w.heap.size,4,none⟩) hbl).trans e4;replace e5:=(hb9.cell (p:=⟨w.heap.size,5,none⟩) hbl).trans e5;replace hbl:=Nat.lt_of_lt_of_le hbl hb9.size;clear hb9) | (go_at_call 154;refine (word_is t.var _).mono ?_;rintro e w9 ⟨rfl,rfl⟩))
   go_ret
   exact ⟨by rw [HR.out]<;>rfl,HB.out⟩
 by_cases hv:t.var.toList = []
 · have r1:(t.rel == 8)=false:=by simp [h8]
   have r2:decide (t.rel=8)=false:=by simp [h8]
   have r3:decide (t.rel<1)=false:=decide_eq_false (by omega)
   have r4:decide (7<t.rel)=false:=decide_eq_false (by omega)
   have l1:decide ((0:Int)<(t.list.length:Int))=false:=decide_eq_false (by omega)
   have l2:decide (0<t.list.length)=false:=decide_eq_false (by omega)
   have l3:t.list.length=0:=by omega
   have l9:t.list = []:=List.length_eq_zero_iff.1 l3
   have v1:(t.var.toList == [])=true:=by simp [hv]
   have v2:t.var.toList.isEmpty=true:=by simp [hv]
   have v3:decide (t.var.toList = [])=true:=by simp [hv]
   have HR:=Lib.hid (show testB t=constB t.sym by simp [testB, *])
   clear h8 h1 h7 hl hv l3 l9
   go_enter Tryz.func228,Tryz.ntmps228
   go_upto_region 1 with fail
   obtain ⟨W1,hW1⟩ : ∃W1,W1=w.alloc (.cells #[.int .i64 t.rel,.string t.var,.int .i64 t.sym.kind,.string t.sym.text,.int .i64 t.sym.n,.slice A t.list.length c] 142):=⟨_,rfl⟩
   rw [← hW1]
   have hBk:Blk W1 w.heap.size 142 #[.int .i64 t.rel,.string t.var,.int .i64 t.sym.kind,.string t.sym.text,.int .i64 t.sym.n,.slice A t.list.length c]:=by rw [hW1];exact Blk.new _ _ _
   have HB:=Lib.hid (show Below w.heap.size w W1 by rw [hW1];exact (Below.refl _ _).alloc (Nat.le_refl _) _)
   have e0:W1.cell? ⟨w.heap.size,0,none⟩=some (.int .i64 t.rel):=(hBk.cell 0).trans rfl
   have e1:W1.cell? ⟨w.heap.size,1,none⟩=some (.string t.var):=(hBk.cell 1).trans rfl
   have e2:W1.cell? ⟨w.heap.size,2,none⟩=some (.int .i64 t.sym.kind):=(hBk.cell 2).trans rfl
   have e3:W1.cell? ⟨w.heap.size,3,none⟩=some (.string t.sym.text):=(hBk.cell 3).trans rfl
   have e4:W1.cell? ⟨w.heap.size,4,none⟩=some (.int .i64 t.sym.n):=(hBk.cell 4).trans rfl
   have e5:W1.cell? ⟨w.heap.size,5,none⟩=some (.slice A t.list.length c):=(hBk.cell 5).trans rfl
   have hbl:=hBk.lt
   clear hW1 hBk
   go_wp2_with (first | (go_at_call 229;refine (none_is t.sym _).mono ?_;rintro e w9 ⟨rfl,hb9⟩;have HB:=Lib.hid (HB.out.trans (hb9.mono HB.out.size));replace e0:=(hb9.cell (p:=⟨w.heap.size,0,none⟩) hbl).trans e0;replace e1:=(hb9.cell (p:=⟨w.heap.size,1,none⟩) hbl).trans e1;replace e2:=(hb9.cell (p:=⟨w.heap.size,2,none⟩) hbl).trans e2;replace e3:=(hb9.cell (p:=⟨w.heap.size,3,none⟩) hbl).trans e3;replace e4:=(hb9.cell (p:=⟨w.heap.size,4,none⟩) hbl).trans e4;replace e5:=(hb9.cell (p:=⟨w.heap.size,5,none⟩) hbl).trans e5;replace hbl:=Nat.lt_of_lt_of_le hbl hb9.size;clear hb9) | (go_at_call 230;refine (constant_is t.sym _).mono ?_;rintro e w9 ⟨rfl,hb9⟩;have HB:=Lib.hid (HB.out.trans (hb9.mono HB.out.size));replace e0:=(hb9.cell (p:=⟨w.heap.size,0,none⟩) hbl).trans e0;replace e1:=(hb9.cell (p:=⟨w.heap.size,1,none⟩) hbl).trans e1;replace e2:=(hb9.cell (p:=⟨w.heap.size,2,none⟩) hbl).trans e2;replace e3:=(hb9.cell (p:=⟨w.heap.size,3,none⟩) hbl).trans e3;replace e4:=(hb9.cell (p:=⟨w.heap.size,4,none⟩) hbl).trans e4;replace e5:=(hb9.cell (p:=⟨w.heap.size,5,none⟩) hbl).trans e5;replace hbl:=Nat.lt_of_lt_of_le hbl hb9.size;clear hb9) | (go_at_call 154;refine (word_is t.var _).mono ?_;rintro e w9 ⟨rfl,rfl⟩))
   go_ret
   exact ⟨by rw [HR.out]<;>rfl,HB.out⟩
 by_cases hw:isWord t.var=false
 · have r1:(t.rel == 8)=false:=by simp [h8]
   have r2:decide (t.rel=8)=false:=by simp [h8]
   have r3:decide (t.rel<1)=false:=decide_eq_false (by omega)
   have r4:decide (7<t.rel)=false:=decide_eq_false (by omega)
   have l1:decide ((0:Int)<(t.list.length:Int))=false:=decide_eq_false (by omega)
   have l2:decide (0<t.list.length)=false:=decide_eq_false (by omega)
   have l3:t.list.length=0:=by omega
   have l9:t.list = []:=List.length_eq_zero_iff.1 l3
   have v1:(t.var.toList == [])=false:=by simp [hv]
   have v2:t.var.toList.isEmpty=false:=by simp [hv]
   have v3:decide (t.var.toList = [])=false:=by simp [hv]
   have x1:=hw
   have HR:=Lib.hid (show testB t=false by simp [testB, *])
   clear h8 h1 h7 hl hv hw l3 l9
   go_enter Tryz.func228,Tryz.ntmps228
   go_upto_region 1 with fail
   obtain ⟨W1,hW1⟩ : ∃W1,W1=w.alloc (.cells #[.int .i64 t.rel,.string t.var,.int .i64 t.sym.kind,.string t.sym.text,.int .i64 t.sym.n,.slice A t.list.length c] 142):=⟨_,rfl⟩
   rw [← hW1]
   have hBk:Blk W1 w.heap.size 142 #[.int .i64 t.rel,.string t.var,.int .i64 t.sym.kind,.string t.sym.text,.int .i64 t.sym.n,.slice A t.list.length c]:=by rw [hW1];exact Blk.new _ _ _
   have HB:=Lib.hid (show Below w.heap.size w W1 by rw [hW1];exact (Below.refl _ _).alloc (Nat.le_refl _) _)
   have e0:W1.cell? ⟨w.heap.size,0,none⟩=some (.int .i64 t.rel):=(hBk.cell 0).trans rfl
   have e1:W1.cell? ⟨w.heap.size,1,none⟩=some (.string t.var):=(hBk.cell 1).trans rfl
   have e2:W1.cell? ⟨w.heap.size,2,none⟩=some (.int .i64 t.sym.kind):=(hBk.cell 2).trans rfl
   have e3:W1.cell? ⟨w.heap.size,3,none⟩=some (.string t.sym.text):=(hBk.cell 3).trans rfl
   have e4:W1.cell? ⟨w.heap.size,4,none⟩=some (.int .i64 t.sym.n):=(hBk.cell 4).trans rfl
   have e5:W1.cell? ⟨w.heap.size,5,none⟩=some (.slice A t.list.length c):=(hBk.cell 5).trans rfl
   have hbl:=hBk.lt
   clear hW1 hBk
   go_wp2_with (first | (go_at_call 229;refine (none_is t.sym _).mono ?_;rintro e w9 ⟨rfl,hb9⟩;have HB:=Lib.hid (HB.out.trans (hb9.mono HB.out.size));replace e0:=(hb9.cell (p:=⟨w.heap.size,0,none⟩) hbl).trans e0;replace e1:=(hb9.cell (p:=⟨w.heap.size,1,none⟩) hbl).trans e1;replace e2:=(hb9.cell (p:=⟨w.heap.size,2,none⟩) hbl).trans e2;replace e3:=(hb9.cell (p:=⟨w.heap.size,3,none⟩) hbl).trans e3;replace e4:=(hb9.cell (p:=⟨w.heap.size,4,none⟩) hbl).trans e4;replace e5:=(hb9.cell (p:=⟨w.heap.size,5,none⟩) hbl).trans e5;replace hbl:=Nat.lt_of_lt_of_le hbl hb9.size;clear hb9) | (go_at_call 230;refine (constant_is t.sym _).mono ?_;rintro e w9 ⟨rfl,hb9⟩;have HB:=Lib.hid (HB.out.trans (hb9.mono HB.out.size));replace e0:=(hb9.cell (p:=⟨w.heap.size,0,none⟩) hbl).trans e0;replace e1:=(hb9.cell (p:=⟨w.heap.size,1,none⟩) hbl).trans e1;replace e2:=(hb9.cell (p:=⟨w.heap.size,2,none⟩) hbl).trans e2;replace e3:=(hb9.cell (p:=⟨w.heap.size,3,none⟩) hbl).trans e3;replace e4:=(hb9.cell (p:=⟨w.heap.size,4,none⟩) hbl).trans e4;replace e5:=(hb9.cell (p:=⟨w.heap.size,5,none⟩) hbl).trans e5;replace hbl:=Nat.lt_of_lt_of_le hbl hb9.size;clear hb9) | (go_at_call 154;refine (word_is t.var _).mono ?_;rintro e w9 ⟨rfl,rfl⟩))
   go_ret
   exact ⟨by rw [HR.out]<;>rfl,HB.out⟩
 have r1:(t.rel == 8)=false:=by simp [h8]
 have r2:decide (t.rel=8)=false:=by simp [h8]
 have r3:decide (t.rel<1)=false:=decide_eq_false (by omega)
 have r4:decide (7<t.rel)=false:=decide_eq_false (by omega)
 have l1:decide ((0:Int)<(t.list.length:Int))=false:=decide_eq_false (by omega)
 have l2:decide (0<t.list.length)=false:=decide_eq_false (by omega)
 have l3:t.list.length=0:=by omega
 have l9:t.list = []:=List.length_eq_zero_iff.1 l3
 have v1:(t.var.toList == [])=false:=by simp [hv]
 have v2:t.var.toList.isEmpty=false:=by simp [hv]
 have v3:decide (t.var.toList = [])=false:=by simp [hv]
 have x1:isWord t.var=true:=by simpa using hw
 have HR:=Lib.hid (show testB t=noneB t.sym by simp [testB, *])
 clear h8 h1 h7 hl hv hw l3 l9
 go_enter Tryz.func228,Tryz.ntmps228
 go_upto_region 1 with fail
 obtain ⟨W1,hW1⟩ : ∃W1,W1=w.alloc (.cells #[.int .i64 t.rel,.string t.var,.int .i64 t.sym.kind,.string t.sym.text,.int .i64 t.sym.n,.slice A t.list.length c] 142):=⟨_,rfl⟩
 rw [← hW1]
 have hBk:Blk W1 w.heap.size 142 #[.int .i64 t.rel,.string t.var,.int .i64 t.sym.kind,.string t.sym.text,.int .i64 t.sym.n,.slice A t.list.length c]:=by rw [hW1];exact Blk.new _ _ _
 have HB:=Lib.hid (show Below w.heap.size w W1 by rw [hW1];exact (Below.refl _ _).alloc (Nat.le_refl _) _)
 have e0:W1.cell? ⟨w.heap.size,0,none⟩=some (.int .i64 t.rel):=(hBk.cell 0).trans rfl
 have e1:W1.cell? ⟨w.heap.size,1,none⟩=some (.string t.var):=(hBk.cell 1).trans rfl
 have e2:W1.cell? ⟨w.heap.size,2,none⟩=some (.int .i64 t.sym.kind):=(hBk.cell 2).trans rfl
 have e3:W1.cell? ⟨w.heap.size,3,none⟩=some (.string t.sym.text):=(hBk.cell 3).trans rfl
 have e4:W1.cell? ⟨w.heap.size,4,none⟩=some (.int .i64 t.sym.n):=(hBk.cell 4).trans rfl
 have e5:W1.cell? ⟨w.heap.size,5,none⟩=some (.slice A t.list.length c):=(hBk.cell 5).trans rfl
 have hbl:=hBk.lt
 clear hW1 hBk
 go_wp2_with (first | (go_at_call 229;refine (none_is t.sym _).mono ?_;rintro e w9 ⟨rfl,hb9⟩;have HB:=Lib.hid (HB.out.trans (hb9.mono HB.out.size));replace e0:=(hb9.cell (p:=⟨w.heap.size,0,none⟩) hbl).trans e0;replace e1:=(hb9.cell (p:=⟨w.heap.size,1,none⟩) hbl).trans e1;replace e2:=(hb9.cell (p:=⟨w.heap.size,2,none⟩) hbl).trans e2;replace e3:=(hb9.cell (p:=⟨w.heap.size,3,none⟩) hbl).trans e3;replace e4:=(hb9.cell (p:=⟨w.heap.size,4,none⟩) hbl).trans e4;replace e5:=(hb9.cell (p:=⟨w.heap.size,5,none⟩) hbl).trans e5;replace hbl:=Nat.lt_of_lt_of_le hbl hb9.size;clear hb9) | (go_at_call 230;refine (constant_is t.sym _).mono ?_;rintro e w9 ⟨rfl,hb9⟩;have HB:=Lib.hid (HB.out.trans (hb9.mono HB.out.size));replace e0:=(hb9.cell (p:=⟨w.heap.size,0,none⟩) hbl).trans e0;replace e1:=(hb9.cell (p:=⟨w.heap.size,1,none⟩) hbl).trans e1;replace e2:=(hb9.cell (p:=⟨w.heap.size,2,none⟩) hbl).trans e2;replace e3:=(hb9.cell (p:=⟨w.heap.size,3,none⟩) hbl).trans e3;replace e4:=(hb9.cell (p:=⟨w.heap.size,4,none⟩) hbl).trans e4;replace e5:=(hb9.cell (p:=⟨w.heap.size,5,none⟩) hbl).trans e5;replace hbl:=Nat.lt_of_lt_of_le hbl hb9.size;clear hb9) | (go_at_call 154;refine (word_is t.var _).mono ?_;rintro e w9 ⟨rfl,rfl⟩))
 go_ret
 exact ⟨by rw [HR.out]<;>rfl,HB.out⟩
end Go.Proofs.YtldndkngpdfpfaaGreat
