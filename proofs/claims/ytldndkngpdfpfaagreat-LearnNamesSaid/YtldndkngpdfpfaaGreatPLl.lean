/-
  Texts put together: Shape4, ShapeWalk, Known6, Shape5.
-/
import Derived.Test.YtldndkngpdfpfaaGreatPLk
namespace Go.Proofs.YtldndkngpdfpfaaGreat
set_option maxRecDepth 100000
set_option maxHeartbeats 32000000
section
open Go.RowKit Go.Shelf
theorem tests_is {D:Nat→Prop} (A:Option Addr) (c:Nat) (l:List TestT) (w:World) (h:RowR repTestT D w A c l):Calls Tryz.prog 193 #[.slice A l.length c] w fun e w'=>e = .returned (.bool (l.all testB))∧Below w.heap.size w w':=by
 have HR:=Lib.hid h;have hlc:=h.cap;clear h;go_enter Tryz.func193,Tryz.ntmps193;go_wp2_with fail
 go_loopw [7] (fun s wr=>∃i:Nat,s = .int .i64 i∧i≤l.length∧(∀k,(h:k<l.length)→k<i→testB l[k]=true)∧Below w.heap.size w wr) (fun s wr=>l.length - (intOf s).toNat)
 case atStart=>exact ⟨0,rfl,Nat.zero_le _,fun k _ h=>absurd h (by omega),Below.refl _ _⟩
 case round=>
  obtain ⟨i,rfl,hi,hall,hB⟩:=hrel;have HALL:=Lib.hid hall;have HB:=Lib.hid hB;clear hall hB;by_cases hlt:i<l.length
  · obtain ⟨y,hy⟩ : ∃y,y=l[i]:=⟨_,rfl⟩
    obtain ⟨g,off,A1,c1,rfl,_,hg,q0,q1,q2,q3,q4,q5,hrow⟩:=at_TestT (HR.out.new_ HB.out) hlt;rw [← hy] at q0 q1 q2 q3 q4 q5 hrow;have HROW:=Lib.hid (show RowRd wr 3 Sym.cells A1 c1 y.list from RowR.rd (hs:=Sym.cells_length) hrow);have HY:=Lib.hid hy;(have b1:(0:Int)≤(i:Int):=by omega);(have b2:(i:Int)<(l.length:Int):=by omega);have hzr:=HB.out.size;clear hy hrow;(go_wp2_with fail);refine (test_is y A1 c1 _ (HROW.out.new_ (by (repeat (first | exact Below.refl _ _ | refine Below.drew ?_ | refine Below.al ?_ _ | refine Below.sc ?_ _))))).mono ?_;rintro e w9 ⟨rfl,hb9⟩;have HB9:=Lib.hid (HB.out.trans ((Below.trans (show Below wr.heap.size wr _ from (by (repeat (first | exact Below.refl _ _ | refine Below.drew ?_ | refine Below.al ?_ _ | refine Below.sc ?_ _)))) (hb9.mono (by simp)):Below wr.heap.size wr w9).mono hzr));clear hb9 q0 q1 q2 q3 q4 q5;cases hcb:testB y
    · have HRf:=Lib.hid (show l.all testB=false from List.all_eq_false.2 ⟨y,by rw [HY.out];exact List.getElem_mem hlt,by rw [hcb];simp⟩)
      clear hcb;(go_wp2_with fail);go_ret;exact ⟨by rw [HRf.out]<;>rfl,HB9.out⟩
    · have HCB:=Lib.hid hcb
      clear hcb;(go_wp2_with fail);go_roundw
      case rel=>exact ⟨i+1,by go_num,by omega,fun k hk hki=>by
       by_cases e:k=i
       · subst e;rw [← HY.out];exact HCB.out
       · exact HALL.out k hk (by omega),HB9.out⟩
      case measure=>simp [intOf]<;>omega
  · have hie:i=l.length:=by omega
    subst hie
    have HRt:=Lib.hid (show l.all testB=true from List.all_eq_true.2 (fun x hx=>by
     obtain ⟨k,hk,rfl⟩:=List.getElem_of_mem hx
     exact HALL.out k hk hk))
    (go_wp2_with fail);go_ret;exact ⟨by rw [HRt.out]<;>rfl,HB.out⟩
theorem cond_is {D:Nat→Prop} (x:CondT) (deep:Nat) (A1 A2 A3:Option Addr) (c1 c2 c3:Nat) (w:World) (h1:RowR repTestT D w A1 c1 x.attr) (h2:RowR repTestT D w A2 c2 x.value) (hn3:(x.conds.length:Int)≤9223372036854775807) :
 Calls Tryz.prog 158 #[.agg #[.int .i64 x.kind,.bool x.goal,.string x.id,.slice A1 x.attr.length c1,.slice A2 x.value.length c2,.bool x.acc,.slice A3 x.conds.length c3],.int .i64 deep] w fun e w'=>e = .returned (.int .i64 (condE x deep))∧Below w.heap.size w w':=by
 have H1:=Lib.hid h1;have H2:=Lib.hid h2;have hl1:=h1.cap;have hl2:=h2.cap;clear h1 h2;go_enter Tryz.func158,Tryz.ntmps158;(go_upto_region 1 with fail);obtain ⟨W1,hW1⟩ : ∃W1,W1=w.alloc (.cells #[.int .i64 x.kind,.bool x.goal,.string x.id,.slice A1 x.attr.length c1,.slice A2 x.value.length c2,.bool x.acc,.slice A3 x.conds.length c3] 62):=⟨_,rfl⟩;rw [← hW1];(have hBk:Blk W1 w.heap.size 62 #[.int .i64 x.kind,.bool x.goal,.string x.id,.slice A1 x.attr.length c1,.slice A2 x.value.length c2,.bool x.acc,.slice A3 x.conds.length c3]:=by rw [hW1];exact Blk.new _ _ _);have HB:=Lib.hid (show Below w.heap.size w W1 by rw [hW1];exact (Below.refl _ _).alloc (Nat.le_refl _) _);obtain ⟨e0,e1,e2,e3,e4,e5,e6⟩:=hBk.c7;have hbl:=hBk.lt;have HK:=Lib.hid hBk;clear hW1 hBk;by_cases hk3:x.kind=3
 · have hk3x:=hk3
   by_cases hg:x.goal=true;(have k3:(x.kind == 3)=true:=by simp [*]);(have k3b:decide (x.kind=3)=true:=by simp [*]);have g1:=hg;have HR:=Lib.hid (show condE x deep=9 by simp [condE, *]);clear hk3 hk3x hg;rotate_left 1;by_cases hv : ¬x.id.toList = [];(have k3:(x.kind == 3)=true:=by simp [*]);(have k3b:decide (x.kind=3)=true:=by simp [*]);(have g1:x.goal=false:=by simpa using hg);(have v1:(x.id.toList == [])=false:=by simp [hv]);(have v2:x.id.toList.isEmpty=false:=by simp [hv]);(have v3:decide (x.id.toList = [])=false:=by simp [hv]);have HR:=Lib.hid (show condE x deep=9 by simp [condE, *]);clear hk3 hk3x hg hv;rotate_left 1;by_cases ha:0<x.attr.length;(have k3:(x.kind == 3)=true:=by simp [*]);(have k3b:decide (x.kind=3)=true:=by simp [*]);(have g1:x.goal=false:=by simpa using hg);have hv2:x.id.toList = []:=Classical.byContradiction hv;(have v1:(x.id.toList == [])=true:=by simp [hv2]);(have v2:x.id.toList.isEmpty=true:=by simp [hv2]);(have v3:decide (x.id.toList = [])=true:=by simp [hv2]);have aa:decide ((0:Int)<(x.attr.length:Int))=true:=decide_eq_true (by omega);have ab:decide (0<x.attr.length)=true:=decide_eq_true (by omega);have HR:=Lib.hid (show condE x deep=9 by simp [condE, *]);clear hk3 hk3x hg hv ha;rotate_left 1;by_cases hb:0<x.value.length;(have k3:(x.kind == 3)=true:=by simp [*]);(have k3b:decide (x.kind=3)=true:=by simp [*]);(have g1:x.goal=false:=by simpa using hg);have hv2:x.id.toList = []:=Classical.byContradiction hv;(have v1:(x.id.toList == [])=true:=by simp [hv2]);(have v2:x.id.toList.isEmpty=true:=by simp [hv2]);(have v3:decide (x.id.toList = [])=true:=by simp [hv2]);have aa:decide ((0:Int)<(x.attr.length:Int))=false:=decide_eq_false (by omega);have ab:decide (0<x.attr.length)=false:=decide_eq_false (by omega);have ba:decide ((0:Int)<(x.value.length:Int))=true:=decide_eq_true (by omega)
   have bb:decide (0<x.value.length)=true:=decide_eq_true (by omega);have HR:=Lib.hid (show condE x deep=9 by simp [condE, *]);clear hk3 hk3x hg hv ha hb;rotate_left 1;by_cases hc:x.acc=true;(have k3:(x.kind == 3)=true:=by simp [*]);(have k3b:decide (x.kind=3)=true:=by simp [*]);(have g1:x.goal=false:=by simpa using hg);have hv2:x.id.toList = []:=Classical.byContradiction hv;(have v1:(x.id.toList == [])=true:=by simp [hv2]);(have v2:x.id.toList.isEmpty=true:=by simp [hv2]);(have v3:decide (x.id.toList = [])=true:=by simp [hv2]);have aa:decide ((0:Int)<(x.attr.length:Int))=false:=decide_eq_false (by omega);have ab:decide (0<x.attr.length)=false:=decide_eq_false (by omega);have ba:decide ((0:Int)<(x.value.length:Int))=false:=decide_eq_false (by omega);have bb:decide (0<x.value.length)=false:=decide_eq_false (by omega);have g2:=hc;have HR:=Lib.hid (show condE x deep=9 by simp [condE, *]);clear hk3 hk3x hg hv ha hb hc;rotate_left 1;by_cases hd:x.conds.length=0;(have k3:(x.kind == 3)=true:=by simp [*]);(have k3b:decide (x.kind=3)=true:=by simp [*]);(have g1:x.goal=false:=by simpa using hg);have hv2:x.id.toList = []:=Classical.byContradiction hv;(have v1:(x.id.toList == [])=true:=by simp [hv2]);(have v2:x.id.toList.isEmpty=true:=by simp [hv2]);(have v3:decide (x.id.toList = [])=true:=by simp [hv2]);have aa:decide ((0:Int)<(x.attr.length:Int))=false:=decide_eq_false (by omega);have ab:decide (0<x.attr.length)=false:=decide_eq_false (by omega);have ba:decide ((0:Int)<(x.value.length:Int))=false:=decide_eq_false (by omega);have bb:decide (0<x.value.length)=false:=decide_eq_false (by omega);(have g2:x.acc=false:=by simpa using hc);(have dz:((x.conds.length:Int) == 0)=true:=by rw [beq_iff_eq];omega);have dy:decide ((x.conds.length:Int)=0)=true:=decide_eq_true (by omega);have HR:=Lib.hid (show condE x deep=9 by simp [condE, *]);clear hk3 hk3x hg hv ha hb hc hd;rotate_left 1;by_cases he:3≤deep;(have k3:(x.kind == 3)=true:=by simp [*]);have k3b:decide (x.kind=3)=true:=by simp [*]
   (have g1:x.goal=false:=by simpa using hg);have hv2:x.id.toList = []:=Classical.byContradiction hv;(have v1:(x.id.toList == [])=true:=by simp [hv2]);(have v2:x.id.toList.isEmpty=true:=by simp [hv2]);(have v3:decide (x.id.toList = [])=true:=by simp [hv2]);have aa:decide ((0:Int)<(x.attr.length:Int))=false:=decide_eq_false (by omega);have ab:decide (0<x.attr.length)=false:=decide_eq_false (by omega);have ba:decide ((0:Int)<(x.value.length:Int))=false:=decide_eq_false (by omega);have bb:decide (0<x.value.length)=false:=decide_eq_false (by omega);(have g2:x.acc=false:=by simpa using hc);(have dz:((x.conds.length:Int) == 0)=false:=by rw [beq_eq_false_iff_ne];omega);have dy:decide ((x.conds.length:Int)=0)=false:=decide_eq_false (by omega);have p1:decide ((3:Int)≤(deep:Int))=true:=decide_eq_true (by omega);have p2:decide (3≤deep)=true:=decide_eq_true (by omega);have HR:=Lib.hid (show condE x deep=8 by simp [condE, *]);clear hk3 hk3x hg hv ha hb hc hd he;rotate_left 1;(have k3:(x.kind == 3)=true:=by simp [*]);(have k3b:decide (x.kind=3)=true:=by simp [*]);(have g1:x.goal=false:=by simpa using hg);have hv2:x.id.toList = []:=Classical.byContradiction hv;(have v1:(x.id.toList == [])=true:=by simp [hv2]);(have v2:x.id.toList.isEmpty=true:=by simp [hv2]);(have v3:decide (x.id.toList = [])=true:=by simp [hv2]);have aa:decide ((0:Int)<(x.attr.length:Int))=false:=decide_eq_false (by omega);have ab:decide (0<x.attr.length)=false:=decide_eq_false (by omega);have ba:decide ((0:Int)<(x.value.length:Int))=false:=decide_eq_false (by omega);have bb:decide (0<x.value.length)=false:=decide_eq_false (by omega);(have g2:x.acc=false:=by simpa using hc);(have dz:((x.conds.length:Int) == 0)=false:=by rw [beq_eq_false_iff_ne];omega);have dy:decide ((x.conds.length:Int)=0)=false:=decide_eq_false (by omega);have p1:decide ((3:Int)≤(deep:Int))=false:=decide_eq_false (by omega);have p2:decide (3≤deep)=false:=decide_eq_false (by omega);have HR:=Lib.hid (show condE x deep=0 by simp [condE, *]);clear hk3 hk3x hg hv ha hb hc hd he
   all_goals
    (go_wp2_with (first | (go_at_call 154;refine (word_is x.id _).mono ?_;rintro e w9 ⟨rfl,rfl⟩) | (go_at_call 193;(first | (with_reducible refine (tests_is A1 c1 x.attr _ (H1.out.new_ HB.out)).mono ?_) | (with_reducible refine (tests_is A2 c2 x.value _ (H2.out.new_ HB.out)).mono ?_));rintro e w9 ⟨rfl,hb9⟩;have HB:=Lib.hid (HB.out.trans (hb9.mono HB.out.size));have HK:=Lib.hid (HK.out.new_ hb9);clear e0 e1 e2 e3 e4 e5 e6 hbl hb9;obtain ⟨e0,e1,e2,e3,e4,e5,e6⟩:=HK.out.c7;have hbl:=HK.out.lt)));go_ret;exact ⟨by rw [HR.out]<;>rfl,HB.out⟩
 by_cases hk1:x.kind=1
 · have hk1x:=hk1
   by_cases ha:0<x.conds.length;(have k3:(x.kind == 3)=false:=by simp [*]);(have k3b:decide (x.kind=3)=false:=by simp [*]);(have k1:(x.kind == 1)=true:=by simp [*]);(have k1b:decide (x.kind=1)=true:=by simp [*]);have aa:decide ((0:Int)<(x.conds.length:Int))=true:=decide_eq_true (by omega);have ab:decide (0<x.conds.length)=true:=decide_eq_true (by omega);have HR:=Lib.hid (show condE x deep=9 by simp [condE, *]);clear hk3 hk1 hk1x ha;rotate_left 1;by_cases hb:isWord x.id=false;(have k3:(x.kind == 3)=false:=by simp [*]);(have k3b:decide (x.kind=3)=false:=by simp [*]);(have k1:(x.kind == 1)=true:=by simp [*]);(have k1b:decide (x.kind=1)=true:=by simp [*]);have aa:decide ((0:Int)<(x.conds.length:Int))=false:=decide_eq_false (by omega);have ab:decide (0<x.conds.length)=false:=decide_eq_false (by omega);have w1:=hb;have HR:=Lib.hid (show condE x deep=9 by simp [condE, *]);clear hk3 hk1 hk1x ha hb;rotate_left 1;by_cases hc:x.attr.length=0;(have k3:(x.kind == 3)=false:=by simp [*]);(have k3b:decide (x.kind=3)=false:=by simp [*]);(have k1:(x.kind == 1)=true:=by simp [*]);(have k1b:decide (x.kind=1)=true:=by simp [*]);have aa:decide ((0:Int)<(x.conds.length:Int))=false:=decide_eq_false (by omega);have ab:decide (0<x.conds.length)=false:=decide_eq_false (by omega);(have w1:isWord x.id=true:=by simpa using hb);(have dz:((x.attr.length:Int) == 0)=true:=by rw [beq_iff_eq];omega);have dy:decide ((x.attr.length:Int)=0)=true:=decide_eq_true (by omega);have l1:x.attr = []:=List.length_eq_zero_iff.1 hc;have HR:=Lib.hid (show condE x deep=9 by simp [condE, *]);clear hk3 hk1 hk1x ha hb hc;rotate_left 1;by_cases hd:4<x.attr.length;(have k3:(x.kind == 3)=false:=by simp [*]);(have k3b:decide (x.kind=3)=false:=by simp [*]);(have k1:(x.kind == 1)=true:=by simp [*]);(have k1b:decide (x.kind=1)=true:=by simp [*]);have aa:decide ((0:Int)<(x.conds.length:Int))=false:=decide_eq_false (by omega)
   have ab:decide (0<x.conds.length)=false:=decide_eq_false (by omega);(have w1:isWord x.id=true:=by simpa using hb);(have dz:((x.attr.length:Int) == 0)=false:=by rw [beq_eq_false_iff_ne];omega);have dy:decide ((x.attr.length:Int)=0)=false:=decide_eq_false (by omega);have fa:decide ((4:Int)<(x.attr.length:Int))=true:=decide_eq_true (by omega);have fb:decide (4<x.attr.length)=true:=decide_eq_true (by omega);have HR:=Lib.hid (show condE x deep=7 by simp [condE, *]);clear hk3 hk1 hk1x ha hb hc hd;rotate_left 1;by_cases he:4<x.value.length;(have k3:(x.kind == 3)=false:=by simp [*]);(have k3b:decide (x.kind=3)=false:=by simp [*]);(have k1:(x.kind == 1)=true:=by simp [*]);(have k1b:decide (x.kind=1)=true:=by simp [*]);have aa:decide ((0:Int)<(x.conds.length:Int))=false:=decide_eq_false (by omega);have ab:decide (0<x.conds.length)=false:=decide_eq_false (by omega);(have w1:isWord x.id=true:=by simpa using hb);(have dz:((x.attr.length:Int) == 0)=false:=by rw [beq_eq_false_iff_ne];omega);have dy:decide ((x.attr.length:Int)=0)=false:=decide_eq_false (by omega);have fa:decide ((4:Int)<(x.attr.length:Int))=false:=decide_eq_false (by omega);have fb:decide (4<x.attr.length)=false:=decide_eq_false (by omega);have ga:decide ((4:Int)<(x.value.length:Int))=true:=decide_eq_true (by omega);have gb:decide (4<x.value.length)=true:=decide_eq_true (by omega);have HR:=Lib.hid (show condE x deep=7 by simp [condE, *]);clear hk3 hk1 hk1x ha hb hc hd he;rotate_left 1;by_cases hf:x.attr.all testB=false;(have k3:(x.kind == 3)=false:=by simp [*]);(have k3b:decide (x.kind=3)=false:=by simp [*]);(have k1:(x.kind == 1)=true:=by simp [*]);(have k1b:decide (x.kind=1)=true:=by simp [*]);have aa:decide ((0:Int)<(x.conds.length:Int))=false:=decide_eq_false (by omega);have ab:decide (0<x.conds.length)=false:=decide_eq_false (by omega);(have w1:isWord x.id=true:=by simpa using hb);(have dz:((x.attr.length:Int) == 0)=false:=by rw [beq_eq_false_iff_ne];omega);have dy:decide ((x.attr.length:Int)=0)=false:=decide_eq_false (by omega);have fa:decide ((4:Int)<(x.attr.length:Int))=false:=decide_eq_false (by omega);have fb:decide (4<x.attr.length)=false:=decide_eq_false (by omega);have ga:decide ((4:Int)<(x.value.length:Int))=false:=decide_eq_false (by omega);have gb:decide (4<x.value.length)=false:=decide_eq_false (by omega);have t1:=hf
   have HR:=Lib.hid (show condE x deep=9 by simp [condE, *]);clear hk3 hk1 hk1x ha hb hc hd he hf;rotate_left 1;by_cases hg:x.value.all testB=false;(have k3:(x.kind == 3)=false:=by simp [*]);(have k3b:decide (x.kind=3)=false:=by simp [*]);(have k1:(x.kind == 1)=true:=by simp [*]);(have k1b:decide (x.kind=1)=true:=by simp [*]);have aa:decide ((0:Int)<(x.conds.length:Int))=false:=decide_eq_false (by omega);have ab:decide (0<x.conds.length)=false:=decide_eq_false (by omega);(have w1:isWord x.id=true:=by simpa using hb);(have dz:((x.attr.length:Int) == 0)=false:=by rw [beq_eq_false_iff_ne];omega);have dy:decide ((x.attr.length:Int)=0)=false:=decide_eq_false (by omega);have fa:decide ((4:Int)<(x.attr.length:Int))=false:=decide_eq_false (by omega);have fb:decide (4<x.attr.length)=false:=decide_eq_false (by omega);have ga:decide ((4:Int)<(x.value.length:Int))=false:=decide_eq_false (by omega);have gb:decide (4<x.value.length)=false:=decide_eq_false (by omega);(have t1:x.attr.all testB=true:=by simpa using hf);have t2:=hg;have HR:=Lib.hid (show condE x deep=9 by simp [condE, *]);clear hk3 hk1 hk1x ha hb hc hd he hf hg;rotate_left 1;(have k3:(x.kind == 3)=false:=by simp [*]);(have k3b:decide (x.kind=3)=false:=by simp [*]);(have k1:(x.kind == 1)=true:=by simp [*]);(have k1b:decide (x.kind=1)=true:=by simp [*]);have aa:decide ((0:Int)<(x.conds.length:Int))=false:=decide_eq_false (by omega);have ab:decide (0<x.conds.length)=false:=decide_eq_false (by omega);(have w1:isWord x.id=true:=by simpa using hb);(have dz:((x.attr.length:Int) == 0)=false:=by rw [beq_eq_false_iff_ne];omega);have dy:decide ((x.attr.length:Int)=0)=false:=decide_eq_false (by omega);have fa:decide ((4:Int)<(x.attr.length:Int))=false:=decide_eq_false (by omega);have fb:decide (4<x.attr.length)=false:=decide_eq_false (by omega);have ga:decide ((4:Int)<(x.value.length:Int))=false:=decide_eq_false (by omega);have gb:decide (4<x.value.length)=false:=decide_eq_false (by omega);(have t1:x.attr.all testB=true:=by simpa using hf);(have t2:x.value.all testB=true:=by simpa using hg);have HR:=Lib.hid (show condE x deep=0 by simp [condE, *]);clear hk3 hk1 hk1x ha hb hc hd he hf hg
   all_goals
    (go_wp2_with (first | (go_at_call 154;refine (word_is x.id _).mono ?_;rintro e w9 ⟨rfl,rfl⟩) | (go_at_call 193;(first | (with_reducible refine (tests_is A1 c1 x.attr _ (H1.out.new_ HB.out)).mono ?_) | (with_reducible refine (tests_is A2 c2 x.value _ (H2.out.new_ HB.out)).mono ?_));rintro e w9 ⟨rfl,hb9⟩;have HB:=Lib.hid (HB.out.trans (hb9.mono HB.out.size));have HK:=Lib.hid (HK.out.new_ hb9);clear e0 e1 e2 e3 e4 e5 e6 hbl hb9;obtain ⟨e0,e1,e2,e3,e4,e5,e6⟩:=HK.out.c7;have hbl:=HK.out.lt)));go_ret;exact ⟨by rw [HR.out]<;>rfl,HB.out⟩
 by_cases hk2:x.kind=2
 · have hk2x:=hk2
   by_cases ha:0<x.conds.length;(have k3:(x.kind == 3)=false:=by simp [*]);(have k3b:decide (x.kind=3)=false:=by simp [*]);(have k1:(x.kind == 1)=false:=by simp [*]);(have k1b:decide (x.kind=1)=false:=by simp [*]);(have k2:(x.kind == 2)=true:=by simp [*]);(have k2b:decide (x.kind=2)=true:=by simp [*]);have aa:decide ((0:Int)<(x.conds.length:Int))=true:=decide_eq_true (by omega);have ab:decide (0<x.conds.length)=true:=decide_eq_true (by omega);have HR:=Lib.hid (show condE x deep=9 by simp [condE, *]);clear hk3 hk1 hk2 hk2x ha;rotate_left 1;by_cases hb:isWord x.id=false;(have k3:(x.kind == 3)=false:=by simp [*]);(have k3b:decide (x.kind=3)=false:=by simp [*]);(have k1:(x.kind == 1)=false:=by simp [*]);(have k1b:decide (x.kind=1)=false:=by simp [*]);(have k2:(x.kind == 2)=true:=by simp [*]);(have k2b:decide (x.kind=2)=true:=by simp [*]);have aa:decide ((0:Int)<(x.conds.length:Int))=false:=decide_eq_false (by omega);have ab:decide (0<x.conds.length)=false:=decide_eq_false (by omega);have w1:=hb;have HR:=Lib.hid (show condE x deep=9 by simp [condE, *]);clear hk3 hk1 hk2 hk2x ha hb;rotate_left 1;by_cases hc:x.attr.length=0;(have k3:(x.kind == 3)=false:=by simp [*]);(have k3b:decide (x.kind=3)=false:=by simp [*]);(have k1:(x.kind == 1)=false:=by simp [*]);(have k1b:decide (x.kind=1)=false:=by simp [*]);(have k2:(x.kind == 2)=true:=by simp [*]);(have k2b:decide (x.kind=2)=true:=by simp [*]);have aa:decide ((0:Int)<(x.conds.length:Int))=false:=decide_eq_false (by omega);have ab:decide (0<x.conds.length)=false:=decide_eq_false (by omega);(have w1:isWord x.id=true:=by simpa using hb);(have dz:((x.attr.length:Int) == 0)=true:=by rw [beq_iff_eq];omega);have dy:decide ((x.attr.length:Int)=0)=true:=decide_eq_true (by omega);have l1:x.attr = []:=List.length_eq_zero_iff.1 hc;have HR:=Lib.hid (show condE x deep=9 by simp [condE, *]);clear hk3 hk1 hk2 hk2x ha hb hc;rotate_left 1
   by_cases hd:4<x.attr.length;(have k3:(x.kind == 3)=false:=by simp [*]);(have k3b:decide (x.kind=3)=false:=by simp [*]);(have k1:(x.kind == 1)=false:=by simp [*]);(have k1b:decide (x.kind=1)=false:=by simp [*]);(have k2:(x.kind == 2)=true:=by simp [*]);(have k2b:decide (x.kind=2)=true:=by simp [*]);have aa:decide ((0:Int)<(x.conds.length:Int))=false:=decide_eq_false (by omega);have ab:decide (0<x.conds.length)=false:=decide_eq_false (by omega);(have w1:isWord x.id=true:=by simpa using hb);(have dz:((x.attr.length:Int) == 0)=false:=by rw [beq_eq_false_iff_ne];omega);have dy:decide ((x.attr.length:Int)=0)=false:=decide_eq_false (by omega);have fa:decide ((4:Int)<(x.attr.length:Int))=true:=decide_eq_true (by omega);have fb:decide (4<x.attr.length)=true:=decide_eq_true (by omega);have HR:=Lib.hid (show condE x deep=7 by simp [condE, *]);clear hk3 hk1 hk2 hk2x ha hb hc hd;rotate_left 1;by_cases he:4<x.value.length;(have k3:(x.kind == 3)=false:=by simp [*]);(have k3b:decide (x.kind=3)=false:=by simp [*]);(have k1:(x.kind == 1)=false:=by simp [*]);(have k1b:decide (x.kind=1)=false:=by simp [*]);(have k2:(x.kind == 2)=true:=by simp [*]);(have k2b:decide (x.kind=2)=true:=by simp [*]);have aa:decide ((0:Int)<(x.conds.length:Int))=false:=decide_eq_false (by omega);have ab:decide (0<x.conds.length)=false:=decide_eq_false (by omega);(have w1:isWord x.id=true:=by simpa using hb);(have dz:((x.attr.length:Int) == 0)=false:=by rw [beq_eq_false_iff_ne];omega);have dy:decide ((x.attr.length:Int)=0)=false:=decide_eq_false (by omega);have fa:decide ((4:Int)<(x.attr.length:Int))=false:=decide_eq_false (by omega);have fb:decide (4<x.attr.length)=false:=decide_eq_false (by omega);have ga:decide ((4:Int)<(x.value.length:Int))=true:=decide_eq_true (by omega);have gb:decide (4<x.value.length)=true:=decide_eq_true (by omega);have HR:=Lib.hid (show condE x deep=7 by simp [condE, *]);clear hk3 hk1 hk2 hk2x ha hb hc hd he;rotate_left 1;by_cases hf:x.attr.all testB=false;(have k3:(x.kind == 3)=false:=by simp [*]);(have k3b:decide (x.kind=3)=false:=by simp [*]);(have k1:(x.kind == 1)=false:=by simp [*]);have k1b:decide (x.kind=1)=false:=by simp [*]
   (have k2:(x.kind == 2)=true:=by simp [*]);(have k2b:decide (x.kind=2)=true:=by simp [*]);have aa:decide ((0:Int)<(x.conds.length:Int))=false:=decide_eq_false (by omega);have ab:decide (0<x.conds.length)=false:=decide_eq_false (by omega);(have w1:isWord x.id=true:=by simpa using hb);(have dz:((x.attr.length:Int) == 0)=false:=by rw [beq_eq_false_iff_ne];omega);have dy:decide ((x.attr.length:Int)=0)=false:=decide_eq_false (by omega);have fa:decide ((4:Int)<(x.attr.length:Int))=false:=decide_eq_false (by omega);have fb:decide (4<x.attr.length)=false:=decide_eq_false (by omega);have ga:decide ((4:Int)<(x.value.length:Int))=false:=decide_eq_false (by omega);have gb:decide (4<x.value.length)=false:=decide_eq_false (by omega);have t1:=hf;have HR:=Lib.hid (show condE x deep=9 by simp [condE, *]);clear hk3 hk1 hk2 hk2x ha hb hc hd he hf;rotate_left 1;by_cases hg:x.value.all testB=false;(have k3:(x.kind == 3)=false:=by simp [*]);(have k3b:decide (x.kind=3)=false:=by simp [*]);(have k1:(x.kind == 1)=false:=by simp [*]);(have k1b:decide (x.kind=1)=false:=by simp [*]);(have k2:(x.kind == 2)=true:=by simp [*]);(have k2b:decide (x.kind=2)=true:=by simp [*]);have aa:decide ((0:Int)<(x.conds.length:Int))=false:=decide_eq_false (by omega);have ab:decide (0<x.conds.length)=false:=decide_eq_false (by omega);(have w1:isWord x.id=true:=by simpa using hb);(have dz:((x.attr.length:Int) == 0)=false:=by rw [beq_eq_false_iff_ne];omega);have dy:decide ((x.attr.length:Int)=0)=false:=decide_eq_false (by omega);have fa:decide ((4:Int)<(x.attr.length:Int))=false:=decide_eq_false (by omega);have fb:decide (4<x.attr.length)=false:=decide_eq_false (by omega);have ga:decide ((4:Int)<(x.value.length:Int))=false:=decide_eq_false (by omega);have gb:decide (4<x.value.length)=false:=decide_eq_false (by omega);(have t1:x.attr.all testB=true:=by simpa using hf);have t2:=hg;have HR:=Lib.hid (show condE x deep=9 by simp [condE, *]);clear hk3 hk1 hk2 hk2x ha hb hc hd he hf hg;rotate_left 1;(have k3:(x.kind == 3)=false:=by simp [*]);(have k3b:decide (x.kind=3)=false:=by simp [*]);(have k1:(x.kind == 1)=false:=by simp [*]);(have k1b:decide (x.kind=1)=false:=by simp [*]);have k2:(x.kind == 2)=true:=by simp [*]
   (have k2b:decide (x.kind=2)=true:=by simp [*]);have aa:decide ((0:Int)<(x.conds.length:Int))=false:=decide_eq_false (by omega);have ab:decide (0<x.conds.length)=false:=decide_eq_false (by omega);(have w1:isWord x.id=true:=by simpa using hb);(have dz:((x.attr.length:Int) == 0)=false:=by rw [beq_eq_false_iff_ne];omega);have dy:decide ((x.attr.length:Int)=0)=false:=decide_eq_false (by omega);have fa:decide ((4:Int)<(x.attr.length:Int))=false:=decide_eq_false (by omega);have fb:decide (4<x.attr.length)=false:=decide_eq_false (by omega);have ga:decide ((4:Int)<(x.value.length:Int))=false:=decide_eq_false (by omega);have gb:decide (4<x.value.length)=false:=decide_eq_false (by omega);(have t1:x.attr.all testB=true:=by simpa using hf);(have t2:x.value.all testB=true:=by simpa using hg);have HR:=Lib.hid (show condE x deep=0 by simp [condE, *]);clear hk3 hk1 hk2 hk2x ha hb hc hd he hf hg
   all_goals
    (go_wp2_with (first | (go_at_call 154;refine (word_is x.id _).mono ?_;rintro e w9 ⟨rfl,rfl⟩) | (go_at_call 193;(first | (with_reducible refine (tests_is A1 c1 x.attr _ (H1.out.new_ HB.out)).mono ?_) | (with_reducible refine (tests_is A2 c2 x.value _ (H2.out.new_ HB.out)).mono ?_));rintro e w9 ⟨rfl,hb9⟩;have HB:=Lib.hid (HB.out.trans (hb9.mono HB.out.size));have HK:=Lib.hid (HK.out.new_ hb9);clear e0 e1 e2 e3 e4 e5 e6 hbl hb9;obtain ⟨e0,e1,e2,e3,e4,e5,e6⟩:=HK.out.c7;have hbl:=HK.out.lt)));go_ret;exact ⟨by rw [HR.out]<;>rfl,HB.out⟩
 (have k3:(x.kind == 3)=false:=by simp [*]);(have k3b:decide (x.kind=3)=false:=by simp [*]);(have k1:(x.kind == 1)=false:=by simp [*]);(have k1b:decide (x.kind=1)=false:=by simp [*]);(have k2:(x.kind == 2)=false:=by simp [*]);(have k2b:decide (x.kind=2)=false:=by simp [*]);have HR:=Lib.hid (show condE x deep=9 by simp [condE, *]);clear hk3 hk1 hk2;(go_wp2_with (first | (go_at_call 154;refine (word_is x.id _).mono ?_;rintro e w9 ⟨rfl,rfl⟩) | (go_at_call 193;(first | (with_reducible refine (tests_is A1 c1 x.attr _ (H1.out.new_ HB.out)).mono ?_) | (with_reducible refine (tests_is A2 c2 x.value _ (H2.out.new_ HB.out)).mono ?_));rintro e w9 ⟨rfl,hb9⟩;have HB:=Lib.hid (HB.out.trans (hb9.mono HB.out.size));have HK:=Lib.hid (HK.out.new_ hb9);clear e0 e1 e2 e3 e4 e5 e6 hbl hb9;obtain ⟨e0,e1,e2,e3,e4,e5,e6⟩:=HK.out.c7;have hbl:=HK.out.lt)));go_ret;exact ⟨by rw [HR.out]<;>rfl,HB.out⟩
end
section
open Go.RowKit Go.Shelf
attribute [local go_sem] Oper.semAt_some
structure Yld (gf:Nat) (caps:List Value) (D M:Nat→Prop) (F:List (Nat×CondT)) (Inv:Nat→World→Prop) (Stop:World→Prop):Prop where
 enter : ∀args w,(callFunc gf args).run Tryz.prog w = .ok (.enter gf args) w
 call : ∀(k:Nat) (h:k<F.length) (w:World) (A1 A2 A3:Option Addr) (c1 c2 c3:Nat),Inv k w→RowR repTestT D w A1 c1 F[k].2.attr→RowR repTestT D w A2 c2 F[k].2.value→(F[k].2.conds.length:Int)≤9223372036854775807→
  Calls Tryz.prog gf ([Value.int .i64 (k:Int),Value.int .i64 (F[k].1:Int),Value.agg #[.int .i64 F[k].2.kind,.bool F[k].2.goal,.string F[k].2.id,.slice A1 F[k].2.attr.length c1,.slice A2 F[k].2.value.length c2,.bool F[k].2.acc,.slice A3 F[k].2.conds.length c3]]++caps).toArray w
   fun e w'=>∃b,e = .returned (.bool b)∧(b=true→Inv (k+1) w')∧(b=false→Stop w')∧Fr M w w'
 apart : ∀j,D j→¬M j
 new_ : ∀k w w',Inv k w→Below w.heap.size w w'→Inv k w'
 stop_ : ∀w w',Stop w→Below w.heap.size w w'→Stop w'
theorem flatC_succ (n d:Nat) (l:List CondT):flatC (n+1) d l=l.flatMap fun c=>(d,c) :: flatC n (d+1) c.conds:=rfl
theorem flatC_snoc (n d:Nat) (l:List CondT) (i:Nat) (hi:i<l.length):flatC (n+1) d (l.take (i+1))=flatC (n+1) d (l.take i)++(d,l[i]) :: flatC n (d+1) l[i].conds:=by
 rw [flatC_succ,flatC_succ,List.take_add_one,List.getElem?_eq_getElem hi,List.flatMap_append];simp
def WalkTo (M:Nat→Prop) (Inv:Nat→World→Prop) (Stop:World→Prop) (at_ n:Nat) (w:World) (e:Ending) (w':World):Prop:=
 ∃(b:Bool) (a:Nat),e = .returned (.tuple #[.int .i64 (a:Int),.bool b])∧(b=true→a=at_+n∧Inv a w')∧(b=false→Stop w')∧Fr M w w'
theorem walk_is {gf:Nat} {caps:List Value} {D M:Nat→Prop} {F:List (Nat×CondT)} {Inv:Nat→World→Prop} {Stop:World→Prop} (Y:Yld gf caps D M F Inv Stop) (hF:F.length≤1000000000) :
 ∀(n d at_:Nat) (A:Option Addr) (c:Nat) (l:List CondT) (w:World),RowR (repCondT n) D w A c l→(∀k,M k→k<w.heap.size)→(∃post,F=F.take at_++flatC n d l++post)→at_+(flatC n d l).length≤F.length→d+n≤1000000000→Inv at_ w→
 Calls Tryz.prog 155 #[.slice A l.length c,.int .i64 (at_:Int),.int .i64 (d:Int),.func (.func gf) #[] caps.toArray] w (WalkTo M Inv Stop at_ (flatC n d l).length w):=by
 intro n
 induction n with
 | zero=>
   intro d at_ A c l w h hlow hpost hlen hd hI
   have hl0:l = []:=by
    cases l with
    | nil=>rfl
    | cons x l=>
      obtain ⟨b,off,cs,_,_,_,hr,_⟩:=h.at_ (k:=0) (by simp);exact hr.elim
   subst hl0;have HI:=Lib.hid hI;clear h hlow hpost hI;go_enter Tryz.func155,Tryz.ntmps155;go_wp2_with fail
   go_loopw [1,15] (fun a s wr=>s = .int .i64 0∧a = .int .i64 (at_:Int)∧wr=w) (fun a s wr=>0)
   case atStart=>exact ⟨rfl,rfl,rfl⟩
   case round=>
    obtain ⟨rfl,rfl,rfl⟩:=hrel;(go_wp2_with fail);go_ret2;exact ⟨true,at_,rfl,fun _=>⟨by simp [flatC],HI.out⟩,(fun h=>by cases h),Fr.refl _ _⟩
 | succ n ih=>
   intro d at_ A c l w h hlow hpost hlen hd hI;have HR:=Lib.hid h;have HLOW:=Lib.hid hlow;have HPOST:=Lib.hid hpost;have HLEN:=Lib.hid hlen;have HI:=Lib.hid hI;have IH:=Lib.hid ih;have hlc:=h.cap;have hent:=Y.enter;clear h hlow hpost hlen hI ih;go_enter Tryz.func155,Tryz.ntmps155;go_wp2_with fail
   go_loopw [1,15] (fun a s wr=>∃i:Nat,s = .int .i64 i∧i≤l.length∧a = .int .i64 ((at_+(flatC (n+1) d (l.take i)).length:Nat):Int)∧Inv (at_+(flatC (n+1) d (l.take i)).length) wr∧Fr M w wr) (fun a s wr=>l.length - (intOf s).toNat)
   case atStart=>exact ⟨0,rfl,Nat.zero_le _,by simp [flatC],by simpa [flatC] using HI.out,Fr.refl _ _⟩
   case round=>
    obtain ⟨i,rfl,hi,rfl,hI,hF1⟩:=hrel;have HIi:=Lib.hid hI;have HFr:=Lib.hid hF1;clear hI hF1;by_cases hlt:i<l.length
    · obtain ⟨y,hy⟩ : ∃y,y=l[i]:=⟨_,rfl⟩
      obtain ⟨k,hk⟩ : ∃k,k=at_+(flatC (n+1) d (l.take i)).length:=⟨_,rfl⟩;have hsn:=flatC_snoc n d l i hlt;rw [← hy] at hsn;have HSN:=Lib.hid hsn;obtain ⟨g,off,A1,c1,A2,c2,A3,c3,rfl,_,hg,q0,q1,q2,q3,q4,q5,q6,r1,r2,r3⟩:=at_CondT (HR.out.fr HFr.out (fun j hd=>Y.apart j hd)) hlt;rw [← hy] at q0 q1 q2 q3 q4 q5 q6 r1 r2 r3
      have hkF:k<F.length:=by
       have h1:=HLEN.out
       have h2:(flatC (n+1) d (l.take (i+1))).length≤(flatC (n+1) d l).length:=by
        rw [flatC_succ,flatC_succ]
        conv=>rhs;rw [← List.take_append_drop (i+1) l,List.flatMap_append,List.length_append]
        omega
       rw [HSN.out] at h2;simp at h2;omega
      obtain ⟨post,hp⟩:=HPOST.out
      have hparts : ∃P R,P.length=k∧F=P++(d,y) :: (flatC n (d+1) y.conds++R):=by
       have e1:flatC (n+1) d l=flatC (n+1) d (l.take i)++(d,y) :: (flatC n (d+1) y.conds++flatC (n+1) d (l.drop (i+1))):=by
        rw [flatC_succ,flatC_succ,flatC_succ]
        conv=>lhs;rw [← List.take_append_drop i l,List.drop_eq_getElem_cons hlt,← hy,List.flatMap_append,List.flatMap_cons]
        rfl
       have e2:F=(F.take at_++flatC (n+1) d (l.take i))++(d,y) :: (flatC n (d+1) y.conds++(flatC (n+1) d (l.drop (i+1))++post)):=by
        conv=>lhs;rw [hp,e1]
        simp [List.append_assoc]
       have e3:(F.take at_++flatC (n+1) d (l.take i)).length=k:=by
        have h1:=HLEN.out;rw [List.length_append,List.length_take,hk];omega
       exact ⟨_,_,e3,e2⟩
      obtain ⟨P,R,e3,e2⟩:=hparts
      have hFk:F[k]=(d,y):=by
       have e4:F[k]? = some (d,y):=by
        conv=>lhs;rw [e2]
        rw [List.getElem?_append_right (by rw [e3];exact Nat.le_refl k),e3,Nat.sub_self,List.getElem?_cons_zero]
       rw [List.getElem?_eq_getElem hkF] at e4;exact Option.some.inj e4
      have hpost2 : ∃post,F=F.take (k+1)++flatC n (d+1) y.conds++post:=by
       refine ⟨R,?_⟩
       have e5:F.take (k+1)=P ++ [(d,y)]:=by
        conv=>lhs;rw [e2]
        rw [List.take_append,e3];simp [List.take_of_length_le (by omega:P.length≤k+1)]
       rw [e5,List.append_assoc,List.append_assoc];exact e2
      have hlen2:k+1+(flatC n (d+1) y.conds).length≤F.length:=by
       rw [e2,List.length_append,List.length_cons,List.length_append,e3];omega
      have hcl:=Y.call k hkF;simp only [hFk] at hcl;have HCL:=Lib.hid hcl;have HY:=Lib.hid hy;have HPO:=Lib.hid hpost2;have HLE:=Lib.hid hlen2;have HIk:=Lib.hid (show Inv k wr by rw [hk];exact HIi.out);have HSNL:=Lib.hid (show at_+(flatC (n+1) d (l.take (i+1))).length=k+1+(flatC n (d+1) y.conds).length by rw [HSN.out,List.length_append,List.length_cons,hk];omega);have HR1:=Lib.hid r1;have HR2:=Lib.hid r2;have HR3:=Lib.hid r3;have hn3:=r3.cap;have hkb:k<1000000000:=Nat.lt_of_lt_of_le hkF hF;(have b1:(0:Int)≤(i:Int):=by omega);(have b2:(i:Int)<(l.length:Int):=by omega);have hzr:=HFr.out.size;(have v1:IntKind.i64.wrap ((k:Int)+1)=((k+1:Nat):Int):=by rw [IntWalk.i64_in _ (by omega)];rfl);(have v2:IntKind.i64.wrap ((d:Int)+1)=((d+1:Nat):Int):=by rw [IntWalk.i64_in _ (by omega)];rfl);rw [← hk];clear hcl hy hpost2 hlen2 hsn hFk e2 e3 hp hk r1 r2 r3 P R post hkF;(go_wp2_with fail);obtain ⟨X,hX⟩ : ∃X,X=wr.alloc (.cells #[.int .i64 y.kind,.bool y.goal,.string y.id,.slice A1 y.attr.length c1,.slice A2 y.value.length c2,.bool y.acc,.slice A3 y.conds.length c3] 62):=⟨_,rfl⟩;rw [← hX];(have hbX:Below wr.heap.size wr X:=by rw [hX];exact (Below.refl _ _).alloc (Nat.le_refl _) _);(have hBk:Blk X wr.heap.size 62 #[.int .i64 y.kind,.bool y.goal,.string y.id,.slice A1 y.attr.length c1,.slice A2 y.value.length c2,.bool y.acc,.slice A3 y.conds.length c3]:=by rw [hX];exact Blk.new _ _ _);have HBX:=Lib.hid hbX;have HBK:=Lib.hid hBk;clear hX hbX hBk;refine (HCL.out X A1 A2 A3 c1 c2 c3 (Y.new_ _ _ _ HIk.out HBX.out) (HR1.out.new_ HBX.out) (HR2.out.new_ HBX.out) hn3).mono ?_;rintro e w5 ⟨b,rfl,hbt,hbf,hF5⟩;have HF5:=Lib.hid (HFr.out.trans ((Fr.of_new HBX.out).trans hF5));have hBk5:=HBK.out.fr hF5 (fun hm=>by have:=HLOW.out _ hm;omega);have x6:w5.cell? ⟨wr.heap.size,6,none⟩=some (.slice A3 y.conds.length c3):=(hBk5.cell 6).trans rfl;have hxl:=hBk5.lt;have HR35:=Lib.hid ((HR3.out.new_ HBX.out).fr hF5 (fun j hd=>Y.apart j hd))
      cases b with
      | false=>
        have HS:=Lib.hid (hbf rfl);clear hbt hbf hF5 hBk5 x6 q0 q1 q2 q3 q4 q5 q6;(go_wp2_with fail);go_ret2;exact ⟨false,k,rfl,(fun h=>by cases h),fun _=>HS.out,HF5.out⟩
      | true=>
        have HI5:=Lib.hid (hbt rfl);clear hbt hbf hF5 hBk5 q0 q1 q2 q3 q4 q5 q6;(go_wp2_with fail);refine (IH.out (d+1) (k+1) A3 c3 y.conds w5 HR35.out (fun j hj=>Nat.lt_of_lt_of_le (HLOW.out j hj) HF5.out.size) HPO.out HLE.out (by omega) HI5.out).mono ?_;rintro e w6 ⟨b2,a2,rfl,hb2t,hb2f,hF6⟩;have HF6:=Lib.hid (HF5.out.trans hF6)
        cases b2 with
        | false=>
          have HS:=Lib.hid (hb2f rfl);clear hb2t hb2f hF6 x6;(go_wp2_with fail);go_ret2;exact ⟨false,a2,rfl,(fun h=>by cases h),fun _=>HS.out,HF6.out⟩
        | true=>
          obtain ⟨ha2,hI6⟩:=hb2t rfl;have HA2:=Lib.hid ha2;have HI6:=Lib.hid hI6;clear hb2t hb2f hF6 x6 ha2 hI6;(go_wp2_with fail);go_roundw
          case rel=>exact ⟨i+1,by go_num,by omega,by rw [HSNL.out,HA2.out],by rw [HSNL.out,← HA2.out];exact HI6.out,HF6.out⟩
          case measure=>simp [intOf]<;>omega
    · have hie:i=l.length:=by omega
      subst hie;rw [List.take_length] at *;have HI2:=Lib.hid HIi.out;(go_wp2_with fail);go_ret2;exact ⟨true,at_+(flatC (n+1) d l).length,rfl,(fun _=>⟨rfl,HI2.out⟩),(fun h=>by cases h),HFr.out⟩
end
section
open Go.RowKit Go.Shelf
theorem Sets.more {α:Type} {tSet tE size:Nat} {cells:α→List Value} {cmp:α→α→Int} {D D2:Nat→Prop} {w:World} {S:Nat→Option (List α)} {σ:Nat→St} (h:Sets tSet tE size cells cmp D w S σ) (hD : ∀q,D2 q→D q∨(Off q S σ∧q<w.heap.size)):Sets tSet tE size cells cmp D2 w S σ:=
 ⟨h.at_,h.srt,fun b l hb=>⟨fun hd=>(hD b hd).elim (h.out b l hb).1 (fun ho=>(ho.1 b l hb).1 rfl),fun hs a ha hd=>(hD _ hd).elim (fun hd=>(h.out b l hb).2 hs a ha hd) (fun ho=>(ho.1 b l hb).2 a ha rfl)⟩,h.apart,fun k hk=>(hD k hk).elim (h.low k) (·.2)⟩
theorem Sets.drop_ {α:Type} {tSet tE size:Nat} {cells:α→List Value} {cmp:α→α→Int} {D:Nat→Prop} {w:World} {S:Nat→Option (List α)} {σ:Nat→St} {k:Nat} {m:List α} (h:Sets tSet tE size cells cmp D w (upd S k (some m)) σ) (hk:S k=none):Sets tSet tE size cells cmp D w S σ:=by
 have hup : ∀b l,S b=some l→upd S k (some m) b=some l:=fun b l hb=>by
  rw [upd_ne _ _ (fun e=>by rw [e,hk] at hb;cases hb)];exact hb
 exact ⟨fun b l hb=>h.at_ b l (hup b l hb),fun b l hb=>h.srt b l (hup b l hb),fun b l hb=>h.out b l (hup b l hb),fun b l b' l' hb hb'=>h.apart b l b' l' (hup b l hb) (hup b' l' hb'),h.low⟩
def ForkTo (D:Nat→Prop) (W:World) (S:Nat→Option (List Name)) (kb sb:Nat) (K:Kn) (X:World) (e:Ending) (w5:World):Prop:=
 ∃kb' sb' D2 S2,e = .returned (.pointer (some ⟨kb',0,none⟩))∧KSt D2 w5 S2 kb' sb' (K.1,[]) w5∧¬D2 kb'∧(∀k,D k→D2 k)∧(∀b t cs,Blk X b t cs→t≠244→Blk w5 b t cs)∧Fr (fun j=>¬D j) X w5∧(∀K2 w6,KSt D2 w5 S2 kb' sb' K2 w6→KSt D W S kb sb K w6)
theorem kfork_is {D:Nat→Prop} {W X:World} {S:Nat→Option (List Name)} {kb sb:Nat} {K:Kn} (h:KSt D W S kb sb K X):Calls Tryz.prog 161 #[.pointer (some ⟨kb,0,none⟩)] X (ForkTo D W S kb sb K X):=by
 obtain ⟨σ',A',c',h1,h2,h3,h4⟩:=h;refine (kinner_is h1 h2).mono ?_;rintro e w5 ⟨kb',sb',rfl,hk,hs,⟨σ2,g1⟩,g2,g3,g4⟩;have hsa:=h1.at_ sb K.1 (upd_same _ _ _);have hkb5:Blk w5 kb _ _:=h2.blk.fr g4 (fun e=>h2.blk.ne_ hsa.blk (by decide) e);have hrow5:=ownsRow_fr h2.row g4 (fun g hg e=>own_blk_ne h2.row hsa.blk (by decide) (by rw [hg,e]));have hAs:=row_low hrow5
 have hnone:upd S sb (some K.1) sb'=none:=by
  cases hx:upd S sb (some K.1) sb' with
  | none=>rfl
  | some m=>exact absurd (h1.lt hx) (by omega)
 refine ⟨kb',sb',fun k=>D k∨k=kb∨(∃a,A'=some a∧a.block=k),upd S sb (some K.1),rfl,?_,?_,fun k hk=>.inl hk,?_,g3,?_⟩
 · refine ⟨σ2,none,0,Sets.more g1 (fun q hq=>?_),g2,AIn.none_ _,Fr.refl _ _⟩
   rcases hq with hq | rfl | ⟨a,rfl,rfl⟩
   · exact .inl hq
   · exact .inr ⟨g1.off_of hkb5 (by decide) (by decide),hkb5.lt⟩
   · refine .inr ⟨?_,hAs a rfl⟩
     rcases hrow5.2 with ⟨hv,_⟩ | ⟨g,cap,cur,hv,_,hg,_⟩
     · simp at hv
     · simp only [Value.slice.injEq,Option.some.injEq] at hv
       rw [hv.1];exact g1.off_of (t:=9) hg (by decide) (by decide)
 · rintro (hd | rfl | ⟨a,rfl,rfl⟩)
   · have:=h1.low _ hd;omega
   · have:=h2.blk.lt;omega
   · have:=row_low h2.row a rfl;omega
 · intro b t cs hb hne
   exact hb.fr g4 (fun e=>hb.ne_ hsa.blk hne e)
 · rintro K2 w6 ⟨σ3,A3,c3,k1,k2,k3,k4⟩
   refine ⟨σ3,A',c',(k1.drop_ hnone).weaken (fun k hk=>.inl hk),⟨hkb5.fr k4 (fun hn=>hn (.inr (.inl rfl))),ownsRow_fr hrow5 k4 (fun g hg hn=>hn (.inr (.inr ?_))),upd_same _ _ _⟩,h3,(h4.trans g3).trans (k4.mono (fun j _ hj hd=>hj (.inl hd)))⟩;rcases A' with _ | a
   · simp [Value.ownBlock] at hg
   · exact ⟨a,rfl,by simpa [Value.ownBlock] using hg⟩
theorem condsK_cons (n:Nat) (k:Kn) (c:CondT) (l:List CondT) (a:Int):condsK (n+1) k (c :: l) a=if c.kind=3 then
 (match condsK n (k.1,[]) c.conds (a+1) with
   | (true,a2,_)=>condsK (n+1) k l a2
   | (false,a2,_)=>(false,a2,k))
 else
  (match oneK (if c.kind=1 then k else (k.1,[])) c with
    | (true,k2)=>condsK (n+1) (if c.kind=1 then k2 else k) l (a+1)
    | (false,_)=>(false,a,k)):=by rw [condsK]<;>rfl
theorem condsK_nil (n:Nat) (k:Kn) (a:Int):condsK n k [] a=(true,a,k):=by
 cases n<;>rw [condsK]
theorem flatC_nil (n d:Nat):flatC n d [] = []:=by cases n<;>rfl
def SmallC (x:Nat×CondT):Prop:=x.2.attr.length≤4∧x.2.value.length≤4∧(x.2.kind≠3→x.2.conds = [])
def CondsTo (D:Nat→Prop) (W:World) (S:Nat→Option (List Name)) (kb sb:Nat) (K:Kn) (at_ m:Nat) (r:Bool×Int×Kn) (e:Ending) (W':World):Prop:=
 e = .returned (.tuple #[.int .i64 r.2.1,.bool r.1])∧Fr (fun j=>¬D j) W W'∧(r.1=true→KSt D W S kb sb r.2.2 W'∧r.2.1=((at_+m:Nat):Int)∧r.2.2.1.length≤K.1.length+9*m∧r.2.2.2.length≤K.2.length+9*m)
theorem kconds_is : ∀(n d at_:Nat) (D:Nat→Prop) (W:World) (S:Nat→Option (List Name)) (kb sb:Nat) (K:Kn) (A:Option Addr) (c:Nat) (l:List CondT),KSt D W S kb sb K W→¬D kb→RowR (repCondT n) D W A c l→(∀x∈flatC n d l,SmallC x)→K.1.length+9*(flatC n d l).length≤900000→K.2.length+9*(flatC n d l).length≤900000→at_+(flatC n d l).length≤1000000000→
 Calls Tryz.prog 120 #[.pointer (some ⟨kb,0,none⟩),.slice A l.length c,.int .i64 (at_:Int)] W (CondsTo D W S kb sb K at_ (flatC n d l).length (condsK n K l at_)):=by
 intro n
 induction n with
 | zero=>
   intro d at_ D W S kb sb K A c l hst hkD h hsm hl1 hl2 hla
   have hl0:l = []:=by
    cases l with
    | nil=>rfl
    | cons x l=>
      obtain ⟨b,off,cs,_,_,_,hr,_⟩:=h.at_ (k:=0) (by simp);exact hr.elim
   subst hl0;have H0:=Lib.hid hst;have HN:=Lib.hid (condsK_nil 0 K at_);clear h hst hsm hkD;go_enter Tryz.func120,Tryz.ntmps120;go_wp2_with fail
   go_loopw [2,15] (fun a s wr=>s = .int .i64 0∧a = .int .i64 (at_:Int)∧wr=W) (fun a s wr=>0)
   case atStart=>exact ⟨rfl,rfl,rfl⟩
   case round=>
    obtain ⟨rfl,rfl,rfl⟩:=hrel;(go_wp2_with fail);go_ret2;unfold CondsTo;rw [HN.out];exact ⟨rfl,Fr.refl _ _,fun _=>⟨H0.out,by simp [flatC],by simp [flatC],by simp [flatC]⟩⟩
 | succ n ih=>
   intro d at_ D W S kb sb K A c l hst hkD h hsm hl1 hl2 hla;have H0:=Lib.hid hst;have HKD:=Lib.hid hkD;have HR:=Lib.hid h;have HSM:=Lib.hid hsm;have IH:=Lib.hid ih;have hlc:=h.cap;obtain ⟨tot,htot⟩ : ∃tot,tot=(flatC (n+1) d l).length:=⟨_,rfl⟩;rw [← htot] at hl1 hl2 hla ⊢;have HTOT:=Lib.hid htot;clear h hst hsm hkD ih htot;go_enter Tryz.func120,Tryz.ntmps120;go_wp2_with fail
   go_loopw [2,15] (fun a s wr=>∃(i m:Nat) (K':Kn),s = .int .i64 i∧i≤l.length∧m=(flatC (n+1) d (l.take i)).length∧a = .int .i64 ((at_+m:Nat):Int)∧condsK (n+1) K l at_=condsK (n+1) K' (l.drop i) ((at_+m:Nat):Int)∧KSt D W S kb sb K' wr∧K'.1.length≤K.1.length+9*m∧K'.2.length≤K.2.length+9*m) (fun a s wr=>l.length - (intOf s).toNat)
   case atStart=>exact ⟨0,0,K,rfl,Nat.zero_le _,by simp [flatC],rfl,rfl,H0.out,Nat.le_refl _,Nat.le_refl _⟩
   case round=>
    obtain ⟨i,m,K',rfl,hi,hm,rfl,heq,hst,hk1,hk2⟩:=hrel;have HEQ:=Lib.hid heq;have HST:=Lib.hid hst;have HM:=Lib.hid hm;clear heq hst hm;by_cases hlt:i<l.length
    · obtain ⟨y,hy⟩ : ∃y,y=l[i]:=⟨_,rfl⟩
      obtain ⟨k,hk⟩ : ∃k,k=at_+m:=⟨_,rfl⟩;obtain ⟨mi,hmi⟩ : ∃mi,mi=(flatC n (d+1) y.conds).length:=⟨_,rfl⟩;have hsn:=flatC_snoc n d l i hlt;rw [← hy] at hsn;have HM1:=Lib.hid (show (flatC (n+1) d (l.take (i+1))).length=m+1+mi by rw [hsn,List.length_append,List.length_cons,← HM.out,← hmi];omega)
      have hle:m+1+mi≤tot:=by
       rw [← HM1.out,HTOT.out]
       conv=>rhs;rw [← List.take_append_drop (i+1) l,flatC_succ,List.flatMap_append,List.length_append]
       rw [flatC_succ];omega
      have hin : ∀x,x∈(d,y) :: flatC n (d+1) y.conds→x∈flatC (n+1) d l:=by
       intro x hx;rw [flatC_succ];exact List.mem_flatMap.2 ⟨y,by rw [hy];exact List.getElem_mem hlt,hx⟩
      have hsy:SmallC (d,y):=HSM.out _ (hin _ List.mem_cons_self);have HSY:=Lib.hid (show ∀x∈flatC n (d+1) y.conds,SmallC x from fun x hx=>HSM.out _ (hin _ (List.mem_cons_of_mem _ hx)));obtain ⟨hsy1,hsy2,hsy3⟩:=hsy;dsimp only at hsy1 hsy2 hsy3;have HMI:=Lib.hid (show y.kind≠3→mi=0 from fun hk=>by rw [hmi,hsy3 hk,flatC_nil];rfl);clear hsy3;have hdr:=drop_one hlt;rw [← hy] at hdr;have HEQ2:=Lib.hid (show condsK (n+1) K l at_=condsK (n+1) K' (y :: l.drop (i+1)) (k:Int) by rw [HEQ.out,hdr,hk]);obtain ⟨g,off,A1,c1,A2,c2,A3,c3,rfl,_,hg,q0,q1,q2,q3,q4,q5,q6,r1,r2,r3⟩:=at_CondT (HR.out.fr HST.out.fr_ (fun j hd hn=>hn hd)) hlt;rw [← hy] at q0 q1 q2 q3 q4 q5 q6 r1 r2 r3;have HR1:=Lib.hid r1;have HR2:=Lib.hid r2;have HR3:=Lib.hid r3;have hn3:=r3.cap;(have b1:(0:Int)≤(i:Int):=by omega);(have b2:(i:Int)<(l.length:Int):=by omega);have hzr:=HST.out.fr_.size;(have v1:IntKind.i64.wrap ((k:Int)+1)=((k+1:Nat):Int):=by rw [IntWalk.i64_in _ (by omega)];rfl);have HK:=Lib.hid hk;rw [← hk];have HME:=Lib.hid hmi;clear hy hsn hin hdr r1 r2 r3 hk hmi;by_cases kd1:y.kind=1
      · have t1:(y.kind == 1)=true:=by simp [kd1]
        (have t1':decide (y.kind=1)=true:=by simp [kd1]);(have t3:(y.kind == 3)=false:=by simp [kd1]);(have t3':decide (y.kind=3)=false:=by simp [kd1]);obtain ⟨bo,ko,ho⟩ : ∃b k,oneK K' y=(b,k):=⟨_,_,rfl⟩
        have HEQ3:=Lib.hid (show condsK (n+1) K l at_=if bo=true then condsK (n+1) ko (l.drop (i+1)) ((k:Int)+1) else (false,(k:Int),K') by
         rw [HEQ2.out,condsK_cons,if_neg (by rw [kd1];decide)];simp only [if_pos kd1,ho]
         cases bo<;>rfl)
        have HM0:=Lib.hid (HMI.out (by rw [kd1];decide));clear kd1;(go_wp2_with fail);obtain ⟨X,hX⟩ : ∃X,X=wr.alloc (.cells #[.int .i64 y.kind,.bool y.goal,.string y.id,.slice A1 y.attr.length c1,.slice A2 y.value.length c2,.bool y.acc,.slice A3 y.conds.length c3] 62):=⟨_,rfl⟩;rw [← hX];(have hbX:Below wr.heap.size wr X:=by rw [hX];exact (Below.refl _ _).alloc (Nat.le_refl _) _);(have hBk:Blk X wr.heap.size 62 #[.int .i64 y.kind,.bool y.goal,.string y.id,.slice A1 y.attr.length c1,.slice A2 y.value.length c2,.bool y.acc,.slice A3 y.conds.length c3]:=by rw [hX];exact Blk.new _ _ _);have HBX:=Lib.hid hbX;have HBK:=Lib.hid hBk;clear hX hbX hBk;have hko:=kone_is y (A3:=A3) (c3:=c3) (HST.out.below HBX.out).prot0 HKD.out (HR1.out.new_ HBX.out) (HR2.out.new_ HBX.out) (by omega) (by omega);rw [ho] at hko;refine hko.mono ?_;rintro e w6 ⟨rfl,hst6,hl6,hl7⟩;have HST6:=Lib.hid (hst6.join (HST.out.below HBX.out));dsimp only at hl6 hl7;clear hko ho hst6 q0 q1 q2 q3 q4 q5 q6
        cases bo with
        | false=>
          (go_wp2_with fail);go_ret2;unfold CondsTo;rw [HEQ3.out,if_neg (by decide)];exact ⟨rfl,HST6.out.fr_,fun h=>by cases h⟩
        | true=>
          (go_wp2_with fail);go_roundw
          case rel=>
           (have hat:((at_+(m+1+mi):Nat):Int)=(k:Int)+1:=by have:=HM0.out;have:=HK.out;omega);refine ⟨i+1,m+1+mi,ko,by go_num,by omega,HM1.out.symm,by rw [hat],by rw [hat,HEQ3.out];simp,HST6.out,by omega,by omega⟩
          case measure=>simp [intOf]<;>omega
      · have t1:(y.kind == 1)=false:=by simp [kd1]
        (have t1':decide (y.kind=1)=false:=by simp [kd1]);by_cases kd3:y.kind=3
        · have t3:(y.kind == 3)=true:=by simp [kd3]
          (have t3':decide (y.kind=3)=true:=by simp [kd3]);obtain ⟨⟨bo,ao,ko⟩,ho⟩ : ∃r,condsK n (K'.1,[]) y.conds ((k+1:Nat):Int)=r:=⟨_,rfl⟩
          have HEQ3:=Lib.hid (show condsK (n+1) K l at_=if bo=true then condsK (n+1) K' (l.drop (i+1)) ao else (false,ao,K') by
           rw [HEQ2.out,condsK_cons,if_pos kd3,show ((k:Int)+1)=((k+1:Nat):Int) by omega,ho]
           cases bo<;>rfl)
          have T3:=Lib.hid t3;have T3':=Lib.hid t3';clear kd1 kd3 t3 t3';(go_wp2_with fail);obtain ⟨X,hX⟩ : ∃X,X=wr.alloc (.cells #[.int .i64 y.kind,.bool y.goal,.string y.id,.slice A1 y.attr.length c1,.slice A2 y.value.length c2,.bool y.acc,.slice A3 y.conds.length c3] 62):=⟨_,rfl⟩;rw [← hX];(have hbX:Below wr.heap.size wr X:=by rw [hX];exact (Below.refl _ _).alloc (Nat.le_refl _) _);(have hBk:Blk X wr.heap.size 62 #[.int .i64 y.kind,.bool y.goal,.string y.id,.slice A1 y.attr.length c1,.slice A2 y.value.length c2,.bool y.acc,.slice A3 y.conds.length c3]:=by rw [hX];exact Blk.new _ _ _);have HBX:=Lib.hid hbX;have HBK:=Lib.hid hBk;clear hX hbX hBk;refine (kfork_is (HST.out.below HBX.out)).mono ?_;rintro e w5 ⟨kb',sb',D2,S2,rfl,hs5,hkD2,hDD,hbl,hF5,hback⟩;have HF5:=Lib.hid ((HST.out.below HBX.out).fr_.trans hF5);have HDD:=Lib.hid hDD;have hBk5:=hbl _ _ _ HBK.out (by decide);have HB5:=Lib.hid hBk5;have HBACK:=Lib.hid hback;have hg5:=hBk5.lt;have x0:w5.cell? ⟨wr.heap.size,0,none⟩=some (.int .i64 y.kind):=(hBk5.cell 0).trans rfl;have x6:w5.cell? ⟨wr.heap.size,6,none⟩=some (.slice A3 y.conds.length c3):=(hBk5.cell 6).trans rfl;have hih:=IH.out (d+1) (k+1) D2 w5 S2 kb' sb' (K'.1,[]) A3 c3 y.conds hs5 hkD2 (((HR3.out.new_ HBX.out).fr hF5 (fun k hk hn=>hn hk)).weaken hDD) HSY.out (by have:=HME.out;dsimp only;omega) (by have:=HME.out;simp;omega) (by have:=HME.out;have:=HK.out;omega);rw [ho] at hih;have HIH:=Lib.hid hih;clear hih hs5 hkD2 hDD hbl hF5 hback hBk5 ho q0 q1 q2 q3 q4 q5 q6;have t3:=T3.out;have t3':=T3'.out;(go_wp2_with fail);refine HIH.out.mono ?_;rintro e w6 ⟨rfl,hF6,htr⟩
          cases bo with
          | false=>
            have HF6:=Lib.hid hF6;clear htr hF6 x0 x6;(go_wp2_with fail);go_ret2;unfold CondsTo;rw [HEQ3.out,if_neg (by decide)];exact ⟨rfl,HF5.out.trans (HF6.out.mono (fun j _ hj hd=>hj (HDD.out j hd))),fun h=>by cases h⟩
          | true=>
            obtain ⟨hst6,ha6,hl6,hl7⟩:=htr rfl;have HST6:=Lib.hid (HBACK.out _ _ hst6);dsimp only at ha6;have HA6:=Lib.hid ha6;clear htr hF6 x0 x6 hst6 ha6 hl6 hl7;(go_wp2_with fail);go_roundw
            case rel=>
             (have hat:ao=((at_+(m+1+mi):Nat):Int):=by have:=HA6.out;have:=HK.out;have:=HME.out;omega);refine ⟨i+1,m+1+mi,K',by go_num,by omega,HM1.out.symm,by rw [hat],by rw [HEQ3.out,hat];simp,HST6.out,by omega,by omega⟩
            case measure=>simp [intOf]<;>omega
        · have t3:(y.kind == 3)=false:=by simp [kd3]
          (have t3':decide (y.kind=3)=false:=by simp [kd3]);obtain ⟨bo,ko,ho⟩ : ∃b k,oneK (K'.1,[]) y=(b,k):=⟨_,_,rfl⟩
          have HEQ3:=Lib.hid (show condsK (n+1) K l at_=if bo=true then condsK (n+1) K' (l.drop (i+1)) ((k:Int)+1) else (false,(k:Int),K') by
           rw [HEQ2.out,condsK_cons,if_neg kd3];simp only [if_neg kd1,ho]
           cases bo<;>rfl)
          have HM0:=Lib.hid (HMI.out kd3);have T3:=Lib.hid t3;have T3':=Lib.hid t3';clear kd1 kd3 t3 t3';(go_wp2_with fail);obtain ⟨X,hX⟩ : ∃X,X=wr.alloc (.cells #[.int .i64 y.kind,.bool y.goal,.string y.id,.slice A1 y.attr.length c1,.slice A2 y.value.length c2,.bool y.acc,.slice A3 y.conds.length c3] 62):=⟨_,rfl⟩;rw [← hX];(have hbX:Below wr.heap.size wr X:=by rw [hX];exact (Below.refl _ _).alloc (Nat.le_refl _) _);(have hBk:Blk X wr.heap.size 62 #[.int .i64 y.kind,.bool y.goal,.string y.id,.slice A1 y.attr.length c1,.slice A2 y.value.length c2,.bool y.acc,.slice A3 y.conds.length c3]:=by rw [hX];exact Blk.new _ _ _);have HBX:=Lib.hid hbX;have HBK:=Lib.hid hBk;clear hX hbX hBk;refine (kfork_is (HST.out.below HBX.out)).mono ?_;rintro e w5 ⟨kb',sb',D2,S2,rfl,hs5,hkD2,hDD,hbl,hF5,hback⟩;have HF5:=Lib.hid ((HST.out.below HBX.out).fr_.trans hF5);have HDD:=Lib.hid hDD;have hBk5:=hbl _ _ _ HBK.out (by decide);have HBACK:=Lib.hid hback;have hg5:=hBk5.lt;have x0:w5.cell? ⟨wr.heap.size,0,none⟩=some (.int .i64 y.kind):=(hBk5.cell 0).trans rfl;have x1:w5.cell? ⟨wr.heap.size,1,none⟩=some (.bool y.goal):=(hBk5.cell 1).trans rfl;have x2:w5.cell? ⟨wr.heap.size,2,none⟩=some (.string y.id):=(hBk5.cell 2).trans rfl;have x3:w5.cell? ⟨wr.heap.size,3,none⟩=some (.slice A1 y.attr.length c1):=(hBk5.cell 3).trans rfl;have x4:w5.cell? ⟨wr.heap.size,4,none⟩=some (.slice A2 y.value.length c2):=(hBk5.cell 4).trans rfl;have x5:w5.cell? ⟨wr.heap.size,5,none⟩=some (.bool y.acc):=(hBk5.cell 5).trans rfl;have x6:w5.cell? ⟨wr.heap.size,6,none⟩=some (.slice A3 y.conds.length c3):=(hBk5.cell 6).trans rfl;have hko:=kone_is y (A3:=A3) (c3:=c3) hs5 hkD2 (((HR1.out.new_ HBX.out).fr hF5 (fun k hk hn=>hn hk)).weaken hDD) (((HR2.out.new_ HBX.out).fr hF5 (fun k hk hn=>hn hk)).weaken hDD) (by dsimp only;omega) (by dsimp only;simp;omega);rw [ho] at hko;have HKO:=Lib.hid hko;clear hko hs5 hkD2 hDD hbl hF5 hback hBk5 ho q0 q1 q2 q3 q4 q5 q6;have t3:=T3.out;have t3':=T3'.out;(go_wp2_with fail);refine HKO.out.mono ?_;rintro e w6 ⟨rfl,hst6,-,-⟩;have HST6:=Lib.hid hst6;clear hst6 x0 x1 x2 x3 x4 x5 x6
          cases bo with
          | false=>
            (go_wp2_with fail);go_ret2;unfold CondsTo;rw [HEQ3.out,if_neg (by decide)];exact ⟨rfl,HF5.out.trans (HST6.out.fr_.mono (fun j _ hj hd=>hj (HDD.out j hd))),fun h=>by cases h⟩
          | true=>
            (go_wp2_with fail);go_roundw
            case rel=>
             (have hat:((at_+(m+1+mi):Nat):Int)=(k:Int)+1:=by have:=HM0.out;have:=HK.out;omega);refine ⟨i+1,m+1+mi,K',by go_num,by omega,HM1.out.symm,by rw [hat],by rw [hat,HEQ3.out];simp,HBACK.out _ _ HST6.out,by omega,by omega⟩
            case measure=>simp [intOf]<;>omega
    · have hie:i=l.length:=by omega
      subst hie;rw [List.take_length,← HTOT.out] at HM;rw [List.drop_length,condsK_nil] at HEQ;have hm:=HM.out;subst hm;(go_wp2_with fail);go_ret2;unfold CondsTo;rw [HEQ.out];exact ⟨rfl,HST.out.fr_,fun _=>⟨HST.out,rfl,hk1,hk2⟩⟩
end
section
open Go.RowKit Go.Shelf
def Inv1 (bn:Nat) (k:Nat) (w:World):Prop:=Blk w bn 3 #[.int .i64 (k:Int)]∧k≤16
def Stop1 (bn:Nat) (F:List (Nat×CondT)) (w:World):Prop:=Blk w bn 3 #[.int .i64 17]∧16<F.length
theorem yld1 {D:Nat→Prop} (bn:Nat) (hD : ¬D bn) (F:List (Nat×CondT)):Yld 156 [.pointer (some ⟨bn,0,none⟩)] D (· = bn) F (Inv1 bn) (Stop1 bn F):=by
 refine ⟨by intro args w;kernel_rfl,?_,fun j hj e=>hD (e ▸ hj),fun k w w' h hb=>⟨h.1.new_ hb,h.2⟩,fun w w' h hb=>⟨h.1.new_ hb,h.2⟩⟩;intro k hk w A1 A2 A3 c1 c2 c3 hI _ _ _;obtain ⟨x,hx⟩ : ∃x,x=F[k].2:=⟨_,rfl⟩;obtain ⟨d,hd⟩ : ∃d,d=F[k].1:=⟨_,rfl⟩;rw [← hx,← hd];have HI:=Lib.hid hI;have s0:w.cell? ⟨bn,0,none⟩=some (.int .i64 (k:Int)):=(hI.1.cell 0).trans rfl;have f0:=hI.1.frozen 0;have hl:=hI.1.lt;have hk16:=hI.2;have v1:IntKind.i64.wrap ((k:Int)+1)=(k:Int)+1:=IntWalk.i64_in _ (by omega);clear hI hx hd;show Calls Tryz.prog 156 #[_,_,_,_] w _;by_cases h16:k+1≤16
 · have t1:decide ((k:Int)+1≤16)=true:=decide_eq_true (by omega)
   go_enter Tryz.func156,Tryz.ntmps156;(go_wp2_with fail);go_ret;refine ⟨true,rfl,fun _=>⟨?_,h16⟩,(fun h=>by cases h),((Fr.refl (· = bn) w).setCell (p:=⟨bn,0,none⟩) (.inl rfl) _).alloc _⟩;exact (HI.out.1.set_ 0 (.int .i64 ((k:Int)+1))).alloc _
 · have t1:decide ((k:Int)+1≤16)=false:=decide_eq_false (by omega)
   (have hk17:(k:Int)+1=17:=by omega);have HK:=Lib.hid hk17;clear hk17;go_enter Tryz.func156,Tryz.ntmps156;(go_wp2_with fail);go_ret;refine ⟨false,rfl,(fun h=>by cases h),fun _=>?_,((Fr.refl (· = bn) w).setCell (p:=⟨bn,0,none⟩) (.inl rfl) _).alloc _⟩;rw [HK.out];exact ⟨(HI.out.1.set_ 0 (.int .i64 17)).alloc _,by have:=HK.out;omega⟩
def Inv2 (be bp:Nat) (F:List (Nat×CondT)) (k:Nat) (w:World):Prop:=Blk w be 50 #[.int .i64 0]∧Blk w bp 3 #[.int .i64 (-1)]∧∀j,(h:j<F.length)→j<k→condE F[j].2 F[j].1=0
def Stop2 (be bp:Nat) (F:List (Nat×CondT)) (w:World):Prop:=∃k,∃h:k<F.length,Blk w be 50 #[.int .i64 (condE F[k].2 F[k].1)]∧Blk w bp 3 #[.int .i64 (k:Int)]∧condE F[k].2 F[k].1≠0∧∀j,(h:j<F.length)→j<k→condE F[j].2 F[j].1=0
theorem yld2 {D:Nat→Prop} (be bp:Nat) (hD1 : ¬D be) (hD2 : ¬D bp) (hne:be≠bp) (F:List (Nat×CondT)):Yld 157 [.pointer (some ⟨be,0,none⟩),.pointer (some ⟨bp,0,none⟩)] D (fun j=>j=be∨j=bp) F (Inv2 be bp F) (Stop2 be bp F):=by
 refine ⟨by intro args w;kernel_rfl,?_,fun j hj e=>e.elim (fun e=>hD1 (e ▸ hj)) (fun e=>hD2 (e ▸ hj)),fun k w w' h hb=>⟨h.1.new_ hb,h.2.1.new_ hb,h.2.2⟩,fun w w' ⟨k,h,h1,h2,h3⟩ hb=>⟨k,h,h1.new_ hb,h2.new_ hb,h3⟩⟩;intro k hk w A1 A2 A3 c1 c2 c3 hI hr1 hr2 hn3;obtain ⟨x,hx⟩ : ∃x,x=F[k].2:=⟨_,rfl⟩;obtain ⟨d,hd⟩ : ∃d,d=F[k].1:=⟨_,rfl⟩;rw [← hx] at hr1 hr2 hn3;rw [← hx,← hd];have HI:=Lib.hid hI;have HX:=Lib.hid (show condE F[k].2 F[k].1=condE x d by rw [hx,hd]);have HR1:=Lib.hid hr1;have HR2:=Lib.hid hr2;clear hI hx hd hr1 hr2;show Calls Tryz.prog 157 #[_,_,_,_,_] w _;go_enter Tryz.func157,Tryz.ntmps157;(go_wp2_with fail);obtain ⟨X,hX⟩ : ∃X,X=w.alloc (.cells #[.int .i64 x.kind,.bool x.goal,.string x.id,.slice A1 x.attr.length c1,.slice A2 x.value.length c2,.bool x.acc,.slice A3 x.conds.length c3] 62):=⟨_,rfl⟩;rw [← hX];(have hbX:Below w.heap.size w X:=by rw [hX];exact (Below.refl _ _).alloc (Nat.le_refl _) _);have HBX:=Lib.hid hbX;clear hX hbX;refine (cond_is x d A1 A2 A3 c1 c2 c3 X (HR1.out.new_ HBX.out) (HR2.out.new_ HBX.out) hn3).mono ?_;rintro e w5 ⟨rfl,hb5⟩;have HB5:=Lib.hid (HBX.out.trans (hb5.mono HBX.out.size));have hE:=HI.out.1.new_ HB5.out;have hP:=HI.out.2.1.new_ HB5.out;have s0:w5.cell? ⟨be,0,none⟩=some (.int .i64 0):=(hE.cell 0).trans rfl;have s1:w5.cell? ⟨bp,0,none⟩=some (.int .i64 (-1)):=(hP.cell 0).trans rfl;have f0:=hE.frozen 0;have f1:=hP.frozen 0;have hl0:=hE.lt;have hl1:=hP.lt;have HE:=Lib.hid hE;have HP:=Lib.hid hP;obtain ⟨z,hz⟩ : ∃z,z=condE x d:=⟨_,rfl⟩;rw [← hz];have HZ:=Lib.hid hz;clear hb5 hE hP hz;by_cases h0:z=0
 · subst h0
   (go_wp2_with fail);go_ret;refine ⟨true,rfl,fun _=>⟨HE.out.set_ 0 _,HP.out.far (p:=⟨be,0,none⟩) (Ne.symm hne) _,fun j hj hjk=>?_⟩,(fun h=>by cases h),(Fr.of_new HB5.out).setCell (p:=⟨be,0,none⟩) (.inl (.inl rfl)) _⟩;by_cases e:j=k
   · subst e;rw [HX.out,← HZ.out]
   · exact HI.out.2.2 j hj (by omega)
 · have t1:(z == 0)=false:=by simp [h0]
   (have t2:decide (z=0)=false:=by simp [h0]);have HN0:=Lib.hid h0;clear h0;(go_wp2_with fail);go_ret;refine ⟨false,rfl,(fun h=>by cases h),fun _=>⟨k,hk,?_,?_,?_,HI.out.2.2⟩,((Fr.of_new HB5.out).setCell (p:=⟨be,0,none⟩) (.inl (.inl rfl)) _).setCell (p:=⟨bp,0,none⟩) (.inl (.inr rfl)) _⟩
   · rw [HX.out,← HZ.out]
     exact (HE.out.set_ 0 _).far (p:=⟨bp,0,none⟩) hne _
   · exact (HP.out.far (p:=⟨be,0,none⟩) (Ne.symm hne) _).set_ 0 _
   · rw [HX.out,← HZ.out];exact HN0.out
end
end Go.Proofs.YtldndkngpdfpfaaGreat
