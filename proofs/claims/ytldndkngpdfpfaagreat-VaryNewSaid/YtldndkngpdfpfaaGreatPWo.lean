/-
  Texts put together: Shape4, ShapeWalk.
-/
import Derived.Test.YtldndkngpdfpfaaGreatPWn
namespace Go.Proofs.YtldndkngpdfpfaaGreat
open Go.RowKit Go.Shelf
set_option maxRecDepth 100000 in
set_option maxHeartbeats 4000000 in
theorem tests_is {D:Nat→Prop} (A:Option Addr) (c:Nat) (l:List TestT) (w:World) (h:RowR repTestT D w A c l):Calls Tryz.prog 193 #[.slice A l.length c] w fun e w'=>e = .returned (.bool (l.all testB))∧Below w.heap.size w w':=by
 have HR:=Lib.hid h
 have hlc:=h.cap
 clear h
 go_enter Tryz.func193,Tryz.ntmps193
 go_wp2_with fail
 go_loopw [7] (fun s wr=>∃i:Nat,s = .int .i64 i∧i≤l.length∧(∀k,(h:k<l.length)→k<i→testB l[k]=true)∧Below w.heap.size w wr) (fun s wr=>l.length - (intOf s).toNat)
 case atStart=>exact ⟨0,rfl,Nat.zero_le _,fun k _ h=>absurd h (by omega),Below.refl _ _⟩
 case round=>
  obtain ⟨i,rfl,hi,hall,hB⟩:=hrel
  have HALL:=Lib.hid hall
  have HB:=Lib.hid hB
  clear hall hB
  by_cases hlt:i<l.length
  · obtain ⟨y,hy⟩ : ∃y,y=l[i]:=⟨_,rfl⟩
    obtain ⟨g,off,A1,c1,rfl,_,hg,q0,q1,q2,q3,q4,q5,hrow⟩:=at_TestT (HR.out.new_ HB.out) hlt
    rw [← hy] at q0 q1 q2 q3 q4 q5 hrow
    have HROW:=Lib.hid (show RowRd wr 3 Sym.cells A1 c1 y.list from RowR.rd (hs:=Sym.cells_length) hrow)
    have HY:=Lib.hid hy
    have b1:(0:Int)≤(i:Int):=by omega
    have b2:(i:Int)<(l.length:Int):=by omega
    have hzr:=HB.out.size
    clear hy hrow
    go_wp2_with fail
    refine (test_is y A1 c1 _ (HROW.out.new_ (by (repeat (first | exact Below.refl _ _ | refine Below.drew ?_ | refine Below.al ?_ _ | refine Below.sc ?_ _))))).mono ?_
    rintro e w9 ⟨rfl,hb9⟩
    have HB9:=Lib.hid (HB.out.trans ((Below.trans (show Below wr.heap.size wr _ from (by (repeat (first | exact Below.refl _ _ | refine Below.drew ?_ | refine Below.al ?_ _ | refine Below.sc ?_ _)))) (hb9.mono (by simp)):Below wr.heap.size wr w9).mono hzr))
    clear hb9 q0 q1 q2 q3 q4 q5
    cases hcb:testB y
    · have HRf:=Lib.hid (show l.all testB=false from List.all_eq_false.2 ⟨y,by rw [HY.out];exact List.getElem_mem hlt,by rw [hcb];simp⟩)
      clear hcb
      go_wp2_with fail
      go_ret
      exact ⟨by rw [HRf.out]<;>rfl,HB9.out⟩
    · have HCB:=Lib.hid hcb
      clear hcb
      go_wp2_with fail
      go_roundw
      case rel=>exact ⟨i+1,by go_num,by omega,fun k hk hki=>by
       by_cases e:k=i
       · subst e;rw [← HY.out];exact HCB.out
       · exact HALL.out k hk (by omega),HB9.out⟩
      case measure=>simp [intOf]<;>omega
  · have hie:i=l.length:=by omega
    subst hie
    have HRt:=Lib.hid (show l.all testB=true from List.all_eq_true.2 (fun x hx=>by
     obtain ⟨k,hk,rfl⟩:=List.getElem_of_mem hx
     exact HALL.out k hk hk))
    go_wp2_with fail
    go_ret
    exact ⟨by rw [HRt.out]<;>rfl,HB.out⟩
set_option maxRecDepth 100000 in
set_option maxHeartbeats 8000000 in
theorem cond_is {D:Nat→Prop} (x:CondT) (deep:Nat) (A1 A2 A3:Option Addr) (c1 c2 c3:Nat) (w:World) (h1:RowR repTestT D w A1 c1 x.attr) (h2:RowR repTestT D w A2 c2 x.value) (hn3:(x.conds.length:Int)≤9223372036854775807) :
 Calls Tryz.prog 158 #[.agg #[.int .i64 x.kind,.bool x.goal,.string x.id,.slice A1 x.attr.length c1,.slice A2 x.value.length c2,.bool x.acc,.slice A3 x.conds.length c3],.int .i64 deep] w fun e w'=>e = .returned (.int .i64 (condE x deep))∧Below w.heap.size w w':=by
 have H1:=Lib.hid h1
 have H2:=Lib.hid h2
 have hl1:=h1.cap
 have hl2:=h2.cap
 clear h1 h2
 go_enter Tryz.func158,Tryz.ntmps158
 go_upto_region 1 with fail
 obtain ⟨W1,hW1⟩ : ∃W1,W1=w.alloc (.cells #[.int .i64 x.kind,.bool x.goal,.string x.id,.slice A1 x.attr.length c1,.slice A2 x.value.length c2,.bool x.acc,.slice A3 x.conds.length c3] 62):=⟨_,rfl⟩
 rw [← hW1]
 have hBk:Blk W1 w.heap.size 62 #[.int .i64 x.kind,.bool x.goal,.string x.id,.slice A1 x.attr.length c1,.slice A2 x.value.length c2,.bool x.acc,.slice A3 x.conds.length c3]:=by rw [hW1];exact Blk.new _ _ _
 have HB:=Lib.hid (show Below w.heap.size w W1 by rw [hW1];exact (Below.refl _ _).alloc (Nat.le_refl _) _)
 obtain ⟨e0,e1,e2,e3,e4,e5,e6⟩:=hBk.c7
 have hbl:=hBk.lt
 have HK:=Lib.hid hBk
 clear hW1 hBk
 by_cases hk3:x.kind=3
 · have hk3x:=hk3
   by_cases hg:x.goal=true
   · have k3:(x.kind == 3)=true:=by simp [*]
     have k3b:decide (x.kind=3)=true:=by simp [*]
     have g1:=hg
     have HR:=Lib.hid (show condE x deep=9 by simp [condE, *])
     clear hk3 hk3x hg
     go_wp2_with (first | (go_at_call 154;refine (word_is x.id _).mono ?_;rintro e w9 ⟨rfl,rfl⟩) | (go_at_call 193;(first | (with_reducible refine (tests_is A1 c1 x.attr _ (H1.out.new_ HB.out)).mono ?_) | (with_reducible refine (tests_is A2 c2 x.value _ (H2.out.new_ HB.out)).mono ?_));rintro e w9 ⟨rfl,hb9⟩;have HB:=Lib.hid (HB.out.trans (hb9.mono HB.out.size));have HK:=Lib.hid (HK.out.new_ hb9);clear e0 e1 e2 e3 e4 e5 e6 hbl hb9;obtain ⟨e0,e1,e2,e3,e4,e5,e6⟩:=HK.out.c7;have hbl:=HK.out.lt))
     go_ret
     exact ⟨by rw [HR.out]<;>rfl,HB.out⟩
   by_cases hv : ¬x.id.toList = []
   · have k3:(x.kind == 3)=true:=by simp [*]
     have k3b:decide (x.kind=3)=true:=by simp [*]
     have g1:x.goal=false:=by simpa using hg
     have v1:(x.id.toList == [])=false:=by simp [hv]
     have v2:x.id.toList.isEmpty=false:=by simp [hv]
     have v3:decide (x.id.toList = [])=false:=by simp [hv]
     have HR:=Lib.hid (show condE x deep=9 by simp [condE, *])
     clear hk3 hk3x hg hv
     go_wp2_with (first | (go_at_call 154;refine (word_is x.id _).mono ?_;rintro e w9 ⟨rfl,rfl⟩) | (go_at_call 193;(first | (with_reducible refine (tests_is A1 c1 x.attr _ (H1.out.new_ HB.out)).mono ?_) | (with_reducible refine (tests_is A2 c2 x.value _ (H2.out.new_ HB.out)).mono ?_));rintro e w9 ⟨rfl,hb9⟩;have HB:=Lib.hid (HB.out.trans (hb9.mono HB.out.size));have HK:=Lib.hid (HK.out.new_ hb9);clear e0 e1 e2 e3 e4 e5 e6 hbl hb9;obtain ⟨e0,e1,e2,e3,e4,e5,e6⟩:=HK.out.c7;have hbl:=HK.out.lt))
     go_ret
     exact ⟨by rw [HR.out]<;>rfl,HB.out⟩
   by_cases ha:0<x.attr.length
   · have k3:(x.kind == 3)=true:=by simp [*]
     have k3b:decide (x.kind=3)=true:=by simp [*]
     have g1:x.goal=false:=by simpa using hg
     have hv2:x.id.toList = []:=Classical.byContradiction hv
     have v1:(x.id.toList == [])=true:=by simp [hv2]
     have v2:x.id.toList.isEmpty=true:=by simp [hv2]
     have v3:decide (x.id.toList = [])=true:=by simp [hv2]
     have aa:decide ((0:Int)<(x.attr.length:Int))=true:=decide_eq_true (by omega)
     have ab:decide (0<x.attr.length)=true:=decide_eq_true (by omega)
     have HR:=Lib.hid (show condE x deep=9 by simp [condE, *])
     clear hk3 hk3x hg hv ha
     go_wp2_with (first | (go_at_call 154;refine (word_is x.id _).mono ?_;rintro e w9 ⟨rfl,rfl⟩) | (go_at_call 193;(first | (with_reducible refine (tests_is A1 c1 x.attr _ (H1.out.new_ HB.out)).mono ?_) | (with_reducible refine (tests_is A2 c2 x.value _ (H2.out.new_ HB.out)).mono ?_));rintro e w9 ⟨rfl,hb9⟩;have HB:=Lib.hid (HB.out.trans (hb9.mono HB.out.size));have HK:=Lib.hid (HK.out.new_ hb9);clear e0 e1 e2 e3 e4 e5 e6 hbl hb9;obtain ⟨e0,e1,e2,e3,e4,e5,e6⟩:=HK.out.c7;have hbl:=HK.out.lt))
     go_ret
     exact ⟨by rw [HR.out]<;>rfl,HB.out⟩
   by_cases hb:0<x.value.length
   · have k3:(x.kind == 3)=true:=by simp [*]
     have k3b:decide (x.kind=3)=true:=by simp [*]
     have g1:x.goal=false:=by simpa using hg
     have hv2:x.id.toList = []:=Classical.byContradiction hv
     have v1:(x.id.toList == [])=true:=by simp [hv2]
     have v2:x.id.toList.isEmpty=true:=by simp [hv2]
     have v3:decide (x.id.toList = [])=true:=by simp [hv2]
     have aa:decide ((0:Int)<(x.attr.length:Int))=false:=decide_eq_false (by omega)
     have ab:decide (0<x.attr.length)=false:=decide_eq_false (by omega)
     have ba:decide ((0:Int)<(x.value.length:Int))=true:=decide_eq_true (by omega)
     have bb:decide (0<x.value.length)=true:=decide_eq_true (by omega)
     have HR:=Lib.hid (show condE x deep=9 by simp [condE, *])
     clear hk3 hk3x hg hv ha hb
     go_wp2_with (first | (go_at_call 154;refine (word_is x.id _).mono ?_;rintro e w9 ⟨rfl,rfl⟩) | (go_at_call 193;(first | (with_reducible refine (tests_is A1 c1 x.attr _ (H1.out.new_ HB.out)).mono ?_) | (with_reducible refine (tests_is A2 c2 x.value _ (H2.out.new_ HB.out)).mono ?_));rintro e w9 ⟨rfl,hb9⟩;have HB:=Lib.hid (HB.out.trans (hb9.mono HB.out.size));have HK:=Lib.hid (HK.out.new_ hb9);clear e0 e1 e2 e3 e4 e5 e6 hbl hb9;obtain ⟨e0,e1,e2,e3,e4,e5,e6⟩:=HK.out.c7;have hbl:=HK.out.lt))
     go_ret
     exact ⟨by rw [HR.out]<;>rfl,HB.out⟩
   by_cases hc:x.acc=true
   · have k3:(x.kind == 3)=true:=by simp [*]
     have k3b:decide (x.kind=3)=true:=by simp [*]
     have g1:x.goal=false:=by simpa using hg
     have hv2:x.id.toList = []:=Classical.byContradiction hv
     have v1:(x.id.toList == [])=true:=by simp [hv2]
     have v2:x.id.toList.isEmpty=true:=by simp [hv2]
     have v3:decide (x.id.toList = [])=true:=by simp [hv2]
     have aa:decide ((0:Int)<(x.attr.length:Int))=false:=decide_eq_false (by omega)
     have ab:decide (0<x.attr.length)=false:=decide_eq_false (by omega)
     have ba:decide ((0:Int)<(x.value.length:Int))=false:=decide_eq_false (by omega)
     have bb:decide (0<x.value.length)=false:=decide_eq_false (by omega)
     have g2:=hc
     have HR:=Lib.hid (show condE x deep=9 by simp [condE, *])
     clear hk3 hk3x hg hv ha hb hc
     go_wp2_with (first | (go_at_call 154;refine (word_is x.id _).mono ?_;rintro e w9 ⟨rfl,rfl⟩) | (go_at_call 193;(first | (with_reducible refine (tests_is A1 c1 x.attr _ (H1.out.new_ HB.out)).mono ?_) | (with_reducible refine (tests_is A2 c2 x.value _ (H2.out.new_ HB.out)).mono ?_));rintro e w9 ⟨rfl,hb9⟩;have HB:=Lib.hid (HB.out.trans (hb9.mono HB.out.size));have HK:=Lib.hid (HK.out.new_ hb9);clear e0 e1 e2 e3 e4 e5 e6 hbl hb9;obtain ⟨e0,e1,e2,e3,e4,e5,e6⟩:=HK.out.c7;have hbl:=HK.out.lt))
     go_ret
     exact ⟨by rw [HR.out]<;>rfl,HB.out⟩
   by_cases hd:x.conds.length=0
   · have k3:(x.kind == 3)=true:=by simp [*]
     have k3b:decide (x.kind=3)=true:=by simp [*]
     have g1:x.goal=false:=by simpa using hg
     have hv2:x.id.toList = []:=Classical.byContradiction hv
     have v1:(x.id.toList == [])=true:=by simp [hv2]
     have v2:x.id.toList.isEmpty=true:=by simp [hv2]
     have v3:decide (x.id.toList = [])=true:=by simp [hv2]
     have aa:decide ((0:Int)<(x.attr.length:Int))=false:=decide_eq_false (by omega)
     have ab:decide (0<x.attr.length)=false:=decide_eq_false (by omega)
     have ba:decide ((0:Int)<(x.value.length:Int))=false:=decide_eq_false (by omega)
     have bb:decide (0<x.value.length)=false:=decide_eq_false (by omega)
     have g2:x.acc=false:=by simpa using hc
     have dz:((x.conds.length:Int) == 0)=true:=by rw [beq_iff_eq];omega
     have dy:decide ((x.conds.length:Int)=0)=true:=decide_eq_true (by omega)
     have HR:=Lib.hid (show condE x deep=9 by simp [condE, *])
     clear hk3 hk3x hg hv ha hb hc hd
     go_wp2_with (first | (go_at_call 154;refine (word_is x.id _).mono ?_;rintro e w9 ⟨rfl,rfl⟩) | (go_at_call 193;(first | (with_reducible refine (tests_is A1 c1 x.attr _ (H1.out.new_ HB.out)).mono ?_) | (with_reducible refine (tests_is A2 c2 x.value _ (H2.out.new_ HB.out)).mono ?_));rintro e w9 ⟨rfl,hb9⟩;have HB:=Lib.hid (HB.out.trans (hb9.mono HB.out.size));have HK:=Lib.hid (HK.out.new_ hb9);clear e0 e1 e2 e3 e4 e5 e6 hbl hb9;obtain ⟨e0,e1,e2,e3,e4,e5,e6⟩:=HK.out.c7;have hbl:=HK.out.lt))
     go_ret
     exact ⟨by rw [HR.out]<;>rfl,HB.out⟩
   by_cases he:3≤deep
   · have k3:(x.kind == 3)=true:=by simp [*]
     have k3b:decide (x.kind=3)=true:=by simp [*]
     have g1:x.goal=false:=by simpa using hg
     have hv2:x.id.toList = []:=Classical.byContradiction hv
     have v1:(x.id.toList == [])=true:=by simp [hv2]
     have v2:x.id.toList.isEmpty=true:=by simp [hv2]
     have v3:decide (x.id.toList = [])=true:=by simp [hv2]
     have aa:decide ((0:Int)<(x.attr.length:Int))=false:=decide_eq_false (by omega)
     have ab:decide (0<x.attr.length)=false:=decide_eq_false (by omega)
     have ba:decide ((0:Int)<(x.value.length:Int))=false:=decide_eq_false (by omega)
     have bb:decide (0<x.value.length)=false:=decide_eq_false (by omega)
     have g2:x.acc=false:=by simpa using hc
     have dz:((x.conds.length:Int) == 0)=false:=by rw [beq_eq_false_iff_ne];omega
     have dy:decide ((x.conds.length:Int)=0)=false:=decide_eq_false (by omega)
     have p1:decide ((3:Int)≤(deep:Int))=true:=decide_eq_true (by omega)
     have p2:decide (3≤deep)=true:=decide_eq_true (by omega)
     have HR:=Lib.hid (show condE x deep=8 by simp [condE, *])
     clear hk3 hk3x hg hv ha hb hc hd he
     go_wp2_with (first | (go_at_call 154;refine (word_is x.id _).mono ?_;rintro e w9 ⟨rfl,rfl⟩) | (go_at_call 193;(first | (with_reducible refine (tests_is A1 c1 x.attr _ (H1.out.new_ HB.out)).mono ?_) | (with_reducible refine (tests_is A2 c2 x.value _ (H2.out.new_ HB.out)).mono ?_));rintro e w9 ⟨rfl,hb9⟩;have HB:=Lib.hid (HB.out.trans (hb9.mono HB.out.size));have HK:=Lib.hid (HK.out.new_ hb9);clear e0 e1 e2 e3 e4 e5 e6 hbl hb9;obtain ⟨e0,e1,e2,e3,e4,e5,e6⟩:=HK.out.c7;have hbl:=HK.out.lt))
     go_ret
     exact ⟨by rw [HR.out]<;>rfl,HB.out⟩
   have k3:(x.kind == 3)=true:=by simp [*]
   have k3b:decide (x.kind=3)=true:=by simp [*]
   have g1:x.goal=false:=by simpa using hg
   have hv2:x.id.toList = []:=Classical.byContradiction hv
   have v1:(x.id.toList == [])=true:=by simp [hv2]
   have v2:x.id.toList.isEmpty=true:=by simp [hv2]
   have v3:decide (x.id.toList = [])=true:=by simp [hv2]
   have aa:decide ((0:Int)<(x.attr.length:Int))=false:=decide_eq_false (by omega)
   have ab:decide (0<x.attr.length)=false:=decide_eq_false (by omega)
   have ba:decide ((0:Int)<(x.value.length:Int))=false:=decide_eq_false (by omega)
   have bb:decide (0<x.value.length)=false:=decide_eq_false (by omega)
   have g2:x.acc=false:=by simpa using hc
   have dz:((x.conds.length:Int) == 0)=false:=by rw [beq_eq_false_iff_ne];omega
   have dy:decide ((x.conds.length:Int)=0)=false:=decide_eq_false (by omega)
   have p1:decide ((3:Int)≤(deep:Int))=false:=decide_eq_false (by omega)
   have p2:decide (3≤deep)=false:=decide_eq_false (by omega)
   have HR:=Lib.hid (show condE x deep=0 by simp [condE, *])
   clear hk3 hk3x hg hv ha hb hc hd he
   go_wp2_with (first | (go_at_call 154;refine (word_is x.id _).mono ?_;rintro e w9 ⟨rfl,rfl⟩) | (go_at_call 193;(first | (with_reducible refine (tests_is A1 c1 x.attr _ (H1.out.new_ HB.out)).mono ?_) | (with_reducible refine (tests_is A2 c2 x.value _ (H2.out.new_ HB.out)).mono ?_));rintro e w9 ⟨rfl,hb9⟩;have HB:=Lib.hid (HB.out.trans (hb9.mono HB.out.size));have HK:=Lib.hid (HK.out.new_ hb9);clear e0 e1 e2 e3 e4 e5 e6 hbl hb9;obtain ⟨e0,e1,e2,e3,e4,e5,e6⟩:=HK.out.c7;have hbl:=HK.out.lt))
   go_ret
   exact ⟨by rw [HR.out]<;>rfl,HB.out⟩
 by_cases hk1:x.kind=1
 · have hk1x:=hk1
   by_cases ha:0<x.conds.length
   · have k3:(x.kind == 3)=false:=by simp [*]
     have k3b:decide (x.kind=3)=false:=by simp [*]
     have k1:(x.kind == 1)=true:=by simp [*]
     have k1b:decide (x.kind=1)=true:=by simp [*]
     have aa:decide ((0:Int)<(x.conds.length:Int))=true:=decide_eq_true (by omega)
     have ab:decide (0<x.conds.length)=true:=decide_eq_true (by omega)
     have HR:=Lib.hid (show condE x deep=9 by simp [condE, *])
     clear hk3 hk1 hk1x ha
     go_wp2_with (first | (go_at_call 154;refine (word_is x.id _).mono ?_;rintro e w9 ⟨rfl,rfl⟩) | (go_at_call 193;(first | (with_reducible refine (tests_is A1 c1 x.attr _ (H1.out.new_ HB.out)).mono ?_) | (with_reducible refine (tests_is A2 c2 x.value _ (H2.out.new_ HB.out)).mono ?_));rintro e w9 ⟨rfl,hb9⟩;have HB:=Lib.hid (HB.out.trans (hb9.mono HB.out.size));have HK:=Lib.hid (HK.out.new_ hb9);clear e0 e1 e2 e3 e4 e5 e6 hbl hb9;obtain ⟨e0,e1,e2,e3,e4,e5,e6⟩:=HK.out.c7;have hbl:=HK.out.lt))
     go_ret
     exact ⟨by rw [HR.out]<;>rfl,HB.out⟩
   by_cases hb:isWord x.id=false
   · have k3:(x.kind == 3)=false:=by simp [*]
     have k3b:decide (x.kind=3)=false:=by simp [*]
     have k1:(x.kind == 1)=true:=by simp [*]
     have k1b:decide (x.kind=1)=true:=by simp [*]
     have aa:decide ((0:Int)<(x.conds.length:Int))=false:=decide_eq_false (by omega)
     have ab:decide (0<x.conds.length)=false:=decide_eq_false (by omega)
     have w1:=hb
     have HR:=Lib.hid (show condE x deep=9 by simp [condE, *])
     clear hk3 hk1 hk1x ha hb
     go_wp2_with (first | (go_at_call 154;refine (word_is x.id _).mono ?_;rintro e w9 ⟨rfl,rfl⟩) | (go_at_call 193;(first | (with_reducible refine (tests_is A1 c1 x.attr _ (H1.out.new_ HB.out)).mono ?_) | (with_reducible refine (tests_is A2 c2 x.value _ (H2.out.new_ HB.out)).mono ?_));rintro e w9 ⟨rfl,hb9⟩;have HB:=Lib.hid (HB.out.trans (hb9.mono HB.out.size));have HK:=Lib.hid (HK.out.new_ hb9);clear e0 e1 e2 e3 e4 e5 e6 hbl hb9;obtain ⟨e0,e1,e2,e3,e4,e5,e6⟩:=HK.out.c7;have hbl:=HK.out.lt))
     go_ret
     exact ⟨by rw [HR.out]<;>rfl,HB.out⟩
   by_cases hc:x.attr.length=0
   · have k3:(x.kind == 3)=false:=by simp [*]
     have k3b:decide (x.kind=3)=false:=by simp [*]
     have k1:(x.kind == 1)=true:=by simp [*]
     have k1b:decide (x.kind=1)=true:=by simp [*]
     have aa:decide ((0:Int)<(x.conds.length:Int))=false:=decide_eq_false (by omega)
     have ab:decide (0<x.conds.length)=false:=decide_eq_false (by omega)
     have w1:isWord x.id=true:=by simpa using hb
     have dz:((x.attr.length:Int) == 0)=true:=by rw [beq_iff_eq];omega
     have dy:decide ((x.attr.length:Int)=0)=true:=decide_eq_true (by omega)
     have l1:x.attr = []:=List.length_eq_zero_iff.1 hc
     have HR:=Lib.hid (show condE x deep=9 by simp [condE, *])
     clear hk3 hk1 hk1x ha hb hc
     go_wp2_with (first | (go_at_call 154;refine (word_is x.id _).mono ?_;rintro e w9 ⟨rfl,rfl⟩) | (go_at_call 193;(first | (with_reducible refine (tests_is A1 c1 x.attr _ (H1.out.new_ HB.out)).mono ?_) | (with_reducible refine (tests_is A2 c2 x.value _ (H2.out.new_ HB.out)).mono ?_));rintro e w9 ⟨rfl,hb9⟩;have HB:=Lib.hid (HB.out.trans (hb9.mono HB.out.size));have HK:=Lib.hid (HK.out.new_ hb9);clear e0 e1 e2 e3 e4 e5 e6 hbl hb9;obtain ⟨e0,e1,e2,e3,e4,e5,e6⟩:=HK.out.c7;have hbl:=HK.out.lt))
     go_ret
     exact ⟨by rw [HR.out]<;>rfl,HB.out⟩
   by_cases hd:4<x.attr.length
   · have k3:(x.kind == 3)=false:=by simp [*]
     have k3b:decide (x.kind=3)=false:=by simp [*]
     have k1:(x.kind == 1)=true:=by simp [*]
     have k1b:decide (x.kind=1)=true:=by simp [*]
     have aa:decide ((0:Int)<(x.conds.length:Int))=false:=decide_eq_false (by omega)
     have ab:decide (0<x.conds.length)=false:=decide_eq_false (by omega)
     have w1:isWord x.id=true:=by simpa using hb
     have dz:((x.attr.length:Int) == 0)=false:=by rw [beq_eq_false_iff_ne];omega
     have dy:decide ((x.attr.length:Int)=0)=false:=decide_eq_false (by omega)
     have fa:decide ((4:Int)<(x.attr.length:Int))=true:=decide_eq_true (by omega)
     have fb:decide (4<x.attr.length)=true:=decide_eq_true (by omega)
     have HR:=Lib.hid (show condE x deep=7 by simp [condE, *])
     clear hk3 hk1 hk1x ha hb hc hd
     go_wp2_with (first | (go_at_call 154;refine (word_is x.id _).mono ?_;rintro e w9 ⟨rfl,rfl⟩) | (go_at_call 193;(first | (with_reducible refine (tests_is A1 c1 x.attr _ (H1.out.new_ HB.out)).mono ?_) | (with_reducible refine (tests_is A2 c2 x.value _ (H2.out.new_ HB.out)).mono ?_));rintro e w9 ⟨rfl,hb9⟩;have HB:=Lib.hid (HB.out.trans (hb9.mono HB.out.size));have HK:=Lib.hid (HK.out.new_ hb9);clear e0 e1 e2 e3 e4 e5 e6 hbl hb9;obtain ⟨e0,e1,e2,e3,e4,e5,e6⟩:=HK.out.c7;have hbl:=HK.out.lt))
     go_ret
     exact ⟨by rw [HR.out]<;>rfl,HB.out⟩
   by_cases he:4<x.value.length
   · have k3:(x.kind == 3)=false:=by simp [*]
     have k3b:decide (x.kind=3)=false:=by simp [*]
     have k1:(x.kind == 1)=true:=by simp [*]
     have k1b:decide (x.kind=1)=true:=by simp [*]
     have aa:decide ((0:Int)<(x.conds.length:Int))=false:=decide_eq_false (by omega)
     have ab:decide (0<x.conds.length)=false:=decide_eq_false (by omega)
     have w1:isWord x.id=true:=by simpa using hb
     have dz:((x.attr.length:Int) == 0)=false:=by rw [beq_eq_false_iff_ne];omega
     have dy:decide ((x.attr.length:Int)=0)=false:=decide_eq_false (by omega)
     have fa:decide ((4:Int)<(x.attr.length:Int))=false:=decide_eq_false (by omega)
     have fb:decide (4<x.attr.length)=false:=decide_eq_false (by omega)
     have ga:decide ((4:Int)<(x.value.length:Int))=true:=decide_eq_true (by omega)
     have gb:decide (4<x.value.length)=true:=decide_eq_true (by omega)
     have HR:=Lib.hid (show condE x deep=7 by simp [condE, *])
     clear hk3 hk1 hk1x ha hb hc hd he
     go_wp2_with (first | (go_at_call 154;refine (word_is x.id _).mono ?_;rintro e w9 ⟨rfl,rfl⟩) | (go_at_call 193;(first | (with_reducible refine (tests_is A1 c1 x.attr _ (H1.out.new_ HB.out)).mono ?_) | (with_reducible refine (tests_is A2 c2 x.value _ (H2.out.new_ HB.out)).mono ?_));rintro e w9 ⟨rfl,hb9⟩;have HB:=Lib.hid (HB.out.trans (hb9.mono HB.out.size));have HK:=Lib.hid (HK.out.new_ hb9);clear e0 e1 e2 e3 e4 e5 e6 hbl hb9;obtain ⟨e0,e1,e2,e3,e4,e5,e6⟩:=HK.out.c7;have hbl:=HK.out.lt))
     go_ret
     exact ⟨by rw [HR.out]<;>rfl,HB.out⟩
   by_cases hf:x.attr.all testB=false
   · have k3:(x.kind == 3)=false:=by simp [*]
     have k3b:decide (x.kind=3)=false:=by simp [*]
     have k1:(x.kind == 1)=true:=by simp [*]
     have k1b:decide (x.kind=1)=true:=by simp [*]
     have aa:decide ((0:Int)<(x.conds.length:Int))=false:=decide_eq_false (by omega)
     have ab:decide (0<x.conds.length)=false:=decide_eq_false (by omega)
     have w1:isWord x.id=true:=by simpa using hb
     have dz:((x.attr.length:Int) == 0)=false:=by rw [beq_eq_false_iff_ne];omega
     have dy:decide ((x.attr.length:Int)=0)=false:=decide_eq_false (by omega)
     have fa:decide ((4:Int)<(x.attr.length:Int))=false:=decide_eq_false (by omega)
     have fb:decide (4<x.attr.length)=false:=decide_eq_false (by omega)
     have ga:decide ((4:Int)<(x.value.length:Int))=false:=decide_eq_false (by omega)
     have gb:decide (4<x.value.length)=false:=decide_eq_false (by omega)
     have t1:=hf
     have HR:=Lib.hid (show condE x deep=9 by simp [condE, *])
     clear hk3 hk1 hk1x ha hb hc hd he hf
     go_wp2_with (first | (go_at_call 154;refine (word_is x.id _).mono ?_;rintro e w9 ⟨rfl,rfl⟩) | (go_at_call 193;(first | (with_reducible refine (tests_is A1 c1 x.attr _ (H1.out.new_ HB.out)).mono ?_) | (with_reducible refine (tests_is A2 c2 x.value _ (H2.out.new_ HB.out)).mono ?_));rintro e w9 ⟨rfl,hb9⟩;have HB:=Lib.hid (HB.out.trans (hb9.mono HB.out.size));have HK:=Lib.hid (HK.out.new_ hb9);clear e0 e1 e2 e3 e4 e5 e6 hbl hb9;obtain ⟨e0,e1,e2,e3,e4,e5,e6⟩:=HK.out.c7;have hbl:=HK.out.lt))
     go_ret
     exact ⟨by rw [HR.out]<;>rfl,HB.out⟩
   by_cases hg:x.value.all testB=false
   · have k3:(x.kind == 3)=false:=by simp [*]
     have k3b:decide (x.kind=3)=false:=by simp [*]
     have k1:(x.kind == 1)=true:=by simp [*]
     have k1b:decide (x.kind=1)=true:=by simp [*]
     have aa:decide ((0:Int)<(x.conds.length:Int))=false:=decide_eq_false (by omega)
     have ab:decide (0<x.conds.length)=false:=decide_eq_false (by omega)
     have w1:isWord x.id=true:=by simpa using hb
     have dz:((x.attr.length:Int) == 0)=false:=by rw [beq_eq_false_iff_ne];omega
     have dy:decide ((x.attr.length:Int)=0)=false:=decide_eq_false (by omega)
     have fa:decide ((4:Int)<(x.attr.length:Int))=false:=decide_eq_false (by omega)
     have fb:decide (4<x.attr.length)=false:=decide_eq_false (by omega)
     have ga:decide ((4:Int)<(x.value.length:Int))=false:=decide_eq_false (by omega)
     have gb:decide (4<x.value.length)=false:=decide_eq_false (by omega)
     have t1:x.attr.all testB=true:=by simpa using hf
     have t2:=hg
     have HR:=Lib.hid (show condE x deep=9 by simp [condE, *])
     clear hk3 hk1 hk1x ha hb hc hd he hf hg
     go_wp2_with (first | (go_at_call 154;refine (word_is x.id _).mono ?_;rintro e w9 ⟨rfl,rfl⟩) | (go_at_call 193;(first | (with_reducible refine (tests_is A1 c1 x.attr _ (H1.out.new_ HB.out)).mono ?_) | (with_reducible refine (tests_is A2 c2 x.value _ (H2.out.new_ HB.out)).mono ?_));rintro e w9 ⟨rfl,hb9⟩;have HB:=Lib.hid (HB.out.trans (hb9.mono HB.out.size));have HK:=Lib.hid (HK.out.new_ hb9);clear e0 e1 e2 e3 e4 e5 e6 hbl hb9;obtain ⟨e0,e1,e2,e3,e4,e5,e6⟩:=HK.out.c7;have hbl:=HK.out.lt))
     go_ret
     exact ⟨by rw [HR.out]<;>rfl,HB.out⟩
   have k3:(x.kind == 3)=false:=by simp [*]
   have k3b:decide (x.kind=3)=false:=by simp [*]
   have k1:(x.kind == 1)=true:=by simp [*]
   have k1b:decide (x.kind=1)=true:=by simp [*]
   have aa:decide ((0:Int)<(x.conds.length:Int))=false:=decide_eq_false (by omega)
   have ab:decide (0<x.conds.length)=false:=decide_eq_false (by omega)
   have w1:isWord x.id=true:=by simpa using hb
   have dz:((x.attr.length:Int) == 0)=false:=by rw [beq_eq_false_iff_ne];omega
   have dy:decide ((x.attr.length:Int)=0)=false:=decide_eq_false (by omega)
   have fa:decide ((4:Int)<(x.attr.length:Int))=false:=decide_eq_false (by omega)
   have fb:decide (4<x.attr.length)=false:=decide_eq_false (by omega)
   have ga:decide ((4:Int)<(x.value.length:Int))=false:=decide_eq_false (by omega)
   have gb:decide (4<x.value.length)=false:=decide_eq_false (by omega)
   have t1:x.attr.all testB=true:=by simpa using hf
   have t2:x.value.all testB=true:=by simpa using hg
   have HR:=Lib.hid (show condE x deep=0 by simp [condE, *])
   clear hk3 hk1 hk1x ha hb hc hd he hf hg
   go_wp2_with (first | (go_at_call 154;refine (word_is x.id _).mono ?_;rintro e w9 ⟨rfl,rfl⟩) | (go_at_call 193;(first | (with_reducible refine (tests_is A1 c1 x.attr _ (H1.out.new_ HB.out)).mono ?_) | (with_reducible refine (tests_is A2 c2 x.value _ (H2.out.new_ HB.out)).mono ?_));rintro e w9 ⟨rfl,hb9⟩;have HB:=Lib.hid (HB.out.trans (hb9.mono HB.out.size));have HK:=Lib.hid (HK.out.new_ hb9);clear e0 e1 e2 e3 e4 e5 e6 hbl hb9;obtain ⟨e0,e1,e2,e3,e4,e5,e6⟩:=HK.out.c7;have hbl:=HK.out.lt))
   go_ret
   exact ⟨by rw [HR.out]<;>rfl,HB.out⟩
 by_cases hk2:x.kind=2
 · have hk2x:=hk2
   by_cases ha:0<x.conds.length
   · have k3:(x.kind == 3)=false:=by simp [*]
     have k3b:decide (x.kind=3)=false:=by simp [*]
     have k1:(x.kind == 1)=false:=by simp [*]
     have k1b:decide (x.kind=1)=false:=by simp [*]
     have k2:(x.kind == 2)=true:=by simp [*]
     have k2b:decide (x.kind=2)=true:=by simp [*]
     have aa:decide ((0:Int)<(x.conds.length:Int))=true:=decide_eq_true (by omega)
     have ab:decide (0<x.conds.length)=true:=decide_eq_true (by omega)
     have HR:=Lib.hid (show condE x deep=9 by simp [condE, *])
     clear hk3 hk1 hk2 hk2x ha
     go_wp2_with (first | (go_at_call 154;refine (word_is x.id _).mono ?_;rintro e w9 ⟨rfl,rfl⟩) | (go_at_call 193;(first | (with_reducible refine (tests_is A1 c1 x.attr _ (H1.out.new_ HB.out)).mono ?_) | (with_reducible refine (tests_is A2 c2 x.value _ (H2.out.new_ HB.out)).mono ?_));rintro e w9 ⟨rfl,hb9⟩;have HB:=Lib.hid (HB.out.trans (hb9.mono HB.out.size));have HK:=Lib.hid (HK.out.new_ hb9);clear e0 e1 e2 e3 e4 e5 e6 hbl hb9;obtain ⟨e0,e1,e2,e3,e4,e5,e6⟩:=HK.out.c7;have hbl:=HK.out.lt))
     go_ret
     exact ⟨by rw [HR.out]<;>rfl,HB.out⟩
   by_cases hb:isWord x.id=false
   · have k3:(x.kind == 3)=false:=by simp [*]
     have k3b:decide (x.kind=3)=false:=by simp [*]
     have k1:(x.kind == 1)=false:=by simp [*]
     have k1b:decide (x.kind=1)=false:=by simp [*]
     have k2:(x.kind == 2)=true:=by simp [*]
     have k2b:decide (x.kind=2)=true:=by simp [*]
     have aa:decide ((0:Int)<(x.conds.length:Int))=false:=decide_eq_false (by omega)
     have ab:decide (0<x.conds.length)=false:=decide_eq_false (by omega)
     have w1:=hb
     have HR:=Lib.hid (show condE x deep=9 by simp [condE, *])
     clear hk3 hk1 hk2 hk2x ha hb
     go_wp2_with (first | (go_at_call 154;refine (word_is x.id _).mono ?_;rintro e w9 ⟨rfl,rfl⟩) | (go_at_call 193;(first | (with_reducible refine (tests_is A1 c1 x.attr _ (H1.out.new_ HB.out)).mono ?_) | (with_reducible refine (tests_is A2 c2 x.value _ (H2.out.new_ HB.out)).mono ?_));rintro e w9 ⟨rfl,hb9⟩;have HB:=Lib.hid (HB.out.trans (hb9.mono HB.out.size));have HK:=Lib.hid (HK.out.new_ hb9);clear e0 e1 e2 e3 e4 e5 e6 hbl hb9;obtain ⟨e0,e1,e2,e3,e4,e5,e6⟩:=HK.out.c7;have hbl:=HK.out.lt))
     go_ret
     exact ⟨by rw [HR.out]<;>rfl,HB.out⟩
   by_cases hc:x.attr.length=0
   · have k3:(x.kind == 3)=false:=by simp [*]
     have k3b:decide (x.kind=3)=false:=by simp [*]
     have k1:(x.kind == 1)=false:=by simp [*]
     have k1b:decide (x.kind=1)=false:=by simp [*]
     have k2:(x.kind == 2)=true:=by simp [*]
     have k2b:decide (x.kind=2)=true:=by simp [*]
     have aa:decide ((0:Int)<(x.conds.length:Int))=false:=decide_eq_false (by omega)
     have ab:decide (0<x.conds.length)=false:=decide_eq_false (by omega)
     have w1:isWord x.id=true:=by simpa using hb
     have dz:((x.attr.length:Int) == 0)=true:=by rw [beq_iff_eq];omega
     have dy:decide ((x.attr.length:Int)=0)=true:=decide_eq_true (by omega)
     have l1:x.attr = []:=List.length_eq_zero_iff.1 hc
     have HR:=Lib.hid (show condE x deep=9 by simp [condE, *])
     clear hk3 hk1 hk2 hk2x ha hb hc
     go_wp2_with (first | (go_at_call 154;refine (word_is x.id _).mono ?_;rintro e w9 ⟨rfl,rfl⟩) | (go_at_call 193;(first | (with_reducible refine (tests_is A1 c1 x.attr _ (H1.out.new_ HB.out)).mono ?_) | (with_reducible refine (tests_is A2 c2 x.value _ (H2.out.new_ HB.out)).mono ?_));rintro e w9 ⟨rfl,hb9⟩;have HB:=Lib.hid (HB.out.trans (hb9.mono HB.out.size));have HK:=Lib.hid (HK.out.new_ hb9);clear e0 e1 e2 e3 e4 e5 e6 hbl hb9;obtain ⟨e0,e1,e2,e3,e4,e5,e6⟩:=HK.out.c7;have hbl:=HK.out.lt))
     go_ret
     exact ⟨by rw [HR.out]<;>rfl,HB.out⟩
   by_cases hd:4<x.attr.length
   · have k3:(x.kind == 3)=false:=by simp [*]
     have k3b:decide (x.kind=3)=false:=by simp [*]
     have k1:(x.kind == 1)=false:=by simp [*]
     have k1b:decide (x.kind=1)=false:=by simp [*]
     have k2:(x.kind == 2)=true:=by simp [*]
     have k2b:decide (x.kind=2)=true:=by simp [*]
     have aa:decide ((0:Int)<(x.conds.length:Int))=false:=decide_eq_false (by omega)
     have ab:decide (0<x.conds.length)=false:=decide_eq_false (by omega)
     have w1:isWord x.id=true:=by simpa using hb
     have dz:((x.attr.length:Int) == 0)=false:=by rw [beq_eq_false_iff_ne];omega
     have dy:decide ((x.attr.length:Int)=0)=false:=decide_eq_false (by omega)
     have fa:decide ((4:Int)<(x.attr.length:Int))=true:=decide_eq_true (by omega)
     have fb:decide (4<x.attr.length)=true:=decide_eq_true (by omega)
     have HR:=Lib.hid (show condE x deep=7 by simp [condE, *])
     clear hk3 hk1 hk2 hk2x ha hb hc hd
     go_wp2_with (first | (go_at_call 154;refine (word_is x.id _).mono ?_;rintro e w9 ⟨rfl,rfl⟩) | (go_at_call 193;(first | (with_reducible refine (tests_is A1 c1 x.attr _ (H1.out.new_ HB.out)).mono ?_) | (with_reducible refine (tests_is A2 c2 x.value _ (H2.out.new_ HB.out)).mono ?_));rintro e w9 ⟨rfl,hb9⟩;have HB:=Lib.hid (HB.out.trans (hb9.mono HB.out.size));have HK:=Lib.hid (HK.out.new_ hb9);clear e0 e1 e2 e3 e4 e5 e6 hbl hb9;obtain ⟨e0,e1,e2,e3,e4,e5,e6⟩:=HK.out.c7;have hbl:=HK.out.lt))
     go_ret
     exact ⟨by rw [HR.out]<;>rfl,HB.out⟩
   by_cases he:4<x.value.length
   · have k3:(x.kind == 3)=false:=by simp [*]
     have k3b:decide (x.kind=3)=false:=by simp [*]
     have k1:(x.kind == 1)=false:=by simp [*]
     have k1b:decide (x.kind=1)=false:=by simp [*]
     have k2:(x.kind == 2)=true:=by simp [*]
     have k2b:decide (x.kind=2)=true:=by simp [*]
     have aa:decide ((0:Int)<(x.conds.length:Int))=false:=decide_eq_false (by omega)
     have ab:decide (0<x.conds.length)=false:=decide_eq_false (by omega)
     have w1:isWord x.id=true:=by simpa using hb
     have dz:((x.attr.length:Int) == 0)=false:=by rw [beq_eq_false_iff_ne];omega
     have dy:decide ((x.attr.length:Int)=0)=false:=decide_eq_false (by omega)
     have fa:decide ((4:Int)<(x.attr.length:Int))=false:=decide_eq_false (by omega)
     have fb:decide (4<x.attr.length)=false:=decide_eq_false (by omega)
     have ga:decide ((4:Int)<(x.value.length:Int))=true:=decide_eq_true (by omega)
     have gb:decide (4<x.value.length)=true:=decide_eq_true (by omega)
     have HR:=Lib.hid (show condE x deep=7 by simp [condE, *])
     clear hk3 hk1 hk2 hk2x ha hb hc hd he
     go_wp2_with (first | (go_at_call 154;refine (word_is x.id _).mono ?_;rintro e w9 ⟨rfl,rfl⟩) | (go_at_call 193;(first | (with_reducible refine (tests_is A1 c1 x.attr _ (H1.out.new_ HB.out)).mono ?_) | (with_reducible refine (tests_is A2 c2 x.value _ (H2.out.new_ HB.out)).mono ?_));rintro e w9 ⟨rfl,hb9⟩;have HB:=Lib.hid (HB.out.trans (hb9.mono HB.out.size));have HK:=Lib.hid (HK.out.new_ hb9);clear e0 e1 e2 e3 e4 e5 e6 hbl hb9;obtain ⟨e0,e1,e2,e3,e4,e5,e6⟩:=HK.out.c7;have hbl:=HK.out.lt))
     go_ret
     exact ⟨by rw [HR.out]<;>rfl,HB.out⟩
   by_cases hf:x.attr.all testB=false
   · have k3:(x.kind == 3)=false:=by simp [*]
     have k3b:decide (x.kind=3)=false:=by simp [*]
     have k1:(x.kind == 1)=false:=by simp [*]
     have k1b:decide (x.kind=1)=false:=by simp [*]
     have k2:(x.kind == 2)=true:=by simp [*]
     have k2b:decide (x.kind=2)=true:=by simp [*]
     have aa:decide ((0:Int)<(x.conds.length:Int))=false:=decide_eq_false (by omega)
     have ab:decide (0<x.conds.length)=false:=decide_eq_false (by omega)
     have w1:isWord x.id=true:=by simpa using hb
     have dz:((x.attr.length:Int) == 0)=false:=by rw [beq_eq_false_iff_ne];omega
     have dy:decide ((x.attr.length:Int)=0)=false:=decide_eq_false (by omega)
     have fa:decide ((4:Int)<(x.attr.length:Int))=false:=decide_eq_false (by omega)
     have fb:decide (4<x.attr.length)=false:=decide_eq_false (by omega)
     have ga:decide ((4:Int)<(x.value.length:Int))=false:=decide_eq_false (by omega)
     have gb:decide (4<x.value.length)=false:=decide_eq_false (by omega)
     have t1:=hf
     have HR:=Lib.hid (show condE x deep=9 by simp [condE, *])
     clear hk3 hk1 hk2 hk2x ha hb hc hd he hf
     go_wp2_with (first | (go_at_call 154;refine (word_is x.id _).mono ?_;rintro e w9 ⟨rfl,rfl⟩) | (go_at_call 193;(first | (with_reducible refine (tests_is A1 c1 x.attr _ (H1.out.new_ HB.out)).mono ?_) | (with_reducible refine (tests_is A2 c2 x.value _ (H2.out.new_ HB.out)).mono ?_));rintro e w9 ⟨rfl,hb9⟩;have HB:=Lib.hid (HB.out.trans (hb9.mono HB.out.size));have HK:=Lib.hid (HK.out.new_ hb9);clear e0 e1 e2 e3 e4 e5 e6 hbl hb9;obtain ⟨e0,e1,e2,e3,e4,e5,e6⟩:=HK.out.c7;have hbl:=HK.out.lt))
     go_ret
     exact ⟨by rw [HR.out]<;>rfl,HB.out⟩
   by_cases hg:x.value.all testB=false
   · have k3:(x.kind == 3)=false:=by simp [*]
     have k3b:decide (x.kind=3)=false:=by simp [*]
     have k1:(x.kind == 1)=false:=by simp [*]
     have k1b:decide (x.kind=1)=false:=by simp [*]
     have k2:(x.kind == 2)=true:=by simp [*]
     have k2b:decide (x.kind=2)=true:=by simp [*]
     have aa:decide ((0:Int)<(x.conds.length:Int))=false:=decide_eq_false (by omega)
     have ab:decide (0<x.conds.length)=false:=decide_eq_false (by omega)
     have w1:isWord x.id=true:=by simpa using hb
     have dz:((x.attr.length:Int) == 0)=false:=by rw [beq_eq_false_iff_ne];omega
     have dy:decide ((x.attr.length:Int)=0)=false:=decide_eq_false (by omega)
     have fa:decide ((4:Int)<(x.attr.length:Int))=false:=decide_eq_false (by omega)
     have fb:decide (4<x.attr.length)=false:=decide_eq_false (by omega)
     have ga:decide ((4:Int)<(x.value.length:Int))=false:=decide_eq_false (by omega)
     have gb:decide (4<x.value.length)=false:=decide_eq_false (by omega)
     have t1:x.attr.all testB=true:=by simpa using hf
     have t2:=hg
     have HR:=Lib.hid (show condE x deep=9 by simp [condE, *])
     clear hk3 hk1 hk2 hk2x ha hb hc hd he hf hg
     go_wp2_with (first | (go_at_call 154;refine (word_is x.id _).mono ?_;rintro e w9 ⟨rfl,rfl⟩) | (go_at_call 193;(first | (with_reducible refine (tests_is A1 c1 x.attr _ (H1.out.new_ HB.out)).mono ?_) | (with_reducible refine (tests_is A2 c2 x.value _ (H2.out.new_ HB.out)).mono ?_));rintro e w9 ⟨rfl,hb9⟩;have HB:=Lib.hid (HB.out.trans (hb9.mono HB.out.size));have HK:=Lib.hid (HK.out.new_ hb9);clear e0 e1 e2 e3 e4 e5 e6 hbl hb9;obtain ⟨e0,e1,e2,e3,e4,e5,e6⟩:=HK.out.c7;have hbl:=HK.out.lt))
     go_ret
     exact ⟨by rw [HR.out]<;>rfl,HB.out⟩
   have k3:(x.kind == 3)=false:=by simp [*]
   have k3b:decide (x.kind=3)=false:=by simp [*]
   have k1:(x.kind == 1)=false:=by simp [*]
   have k1b:decide (x.kind=1)=false:=by simp [*]
   have k2:(x.kind == 2)=true:=by simp [*]
   have k2b:decide (x.kind=2)=true:=by simp [*]
   have aa:decide ((0:Int)<(x.conds.length:Int))=false:=decide_eq_false (by omega)
   have ab:decide (0<x.conds.length)=false:=decide_eq_false (by omega)
   have w1:isWord x.id=true:=by simpa using hb
   have dz:((x.attr.length:Int) == 0)=false:=by rw [beq_eq_false_iff_ne];omega
   have dy:decide ((x.attr.length:Int)=0)=false:=decide_eq_false (by omega)
   have fa:decide ((4:Int)<(x.attr.length:Int))=false:=decide_eq_false (by omega)
   have fb:decide (4<x.attr.length)=false:=decide_eq_false (by omega)
   have ga:decide ((4:Int)<(x.value.length:Int))=false:=decide_eq_false (by omega)
   have gb:decide (4<x.value.length)=false:=decide_eq_false (by omega)
   have t1:x.attr.all testB=true:=by simpa using hf
   have t2:x.value.all testB=true:=by simpa using hg
   have HR:=Lib.hid (show condE x deep=0 by simp [condE, *])
   clear hk3 hk1 hk2 hk2x ha hb hc hd he hf hg
   go_wp2_with (first | (go_at_call 154;refine (word_is x.id _).mono ?_;rintro e w9 ⟨rfl,rfl⟩) | (go_at_call 193;(first | (with_reducible refine (tests_is A1 c1 x.attr _ (H1.out.new_ HB.out)).mono ?_) | (with_reducible refine (tests_is A2 c2 x.value _ (H2.out.new_ HB.out)).mono ?_));rintro e w9 ⟨rfl,hb9⟩;have HB:=Lib.hid (HB.out.trans (hb9.mono HB.out.size));have HK:=Lib.hid (HK.out.new_ hb9);clear e0 e1 e2 e3 e4 e5 e6 hbl hb9;obtain ⟨e0,e1,e2,e3,e4,e5,e6⟩:=HK.out.c7;have hbl:=HK.out.lt))
   go_ret
   exact ⟨by rw [HR.out]<;>rfl,HB.out⟩
 have k3:(x.kind == 3)=false:=by simp [*]
 have k3b:decide (x.kind=3)=false:=by simp [*]
 have k1:(x.kind == 1)=false:=by simp [*]
 have k1b:decide (x.kind=1)=false:=by simp [*]
 have k2:(x.kind == 2)=false:=by simp [*]
 have k2b:decide (x.kind=2)=false:=by simp [*]
 have HR:=Lib.hid (show condE x deep=9 by simp [condE, *])
 clear hk3 hk1 hk2
 go_wp2_with (first | (go_at_call 154;refine (word_is x.id _).mono ?_;rintro e w9 ⟨rfl,rfl⟩) | (go_at_call 193;(first | (with_reducible refine (tests_is A1 c1 x.attr _ (H1.out.new_ HB.out)).mono ?_) | (with_reducible refine (tests_is A2 c2 x.value _ (H2.out.new_ HB.out)).mono ?_));rintro e w9 ⟨rfl,hb9⟩;have HB:=Lib.hid (HB.out.trans (hb9.mono HB.out.size));have HK:=Lib.hid (HK.out.new_ hb9);clear e0 e1 e2 e3 e4 e5 e6 hbl hb9;obtain ⟨e0,e1,e2,e3,e4,e5,e6⟩:=HK.out.c7;have hbl:=HK.out.lt))
 go_ret
 exact ⟨by rw [HR.out]<;>rfl,HB.out⟩
end Go.Proofs.YtldndkngpdfpfaaGreat
namespace Go.Proofs.YtldndkngpdfpfaaGreat
open Go.RowKit Go.Shelf
attribute [local go_sem] Oper.semAt_some
structure Yld (gf:Nat) (caps:List Value) (D M:Nat→Prop) (F:List (Nat×CondT)) (Inv:Nat→World→Prop) (Stop:World→Prop):Prop where
 enter : ∀args w,(callFunc gf args).run Tryz.prog w = .ok (.enter gf args) w
 call : ∀(k:Nat) (h:k<F.length) (w:World) (A1 A2 A3:Option Addr) (c1 c2 c3:Nat),Inv k w→RowR repTestT D w A1 c1 F[k].2.attr→RowR repTestT D w A2 c2 F[k].2.value→(F[k].2.conds.length:Int)≤9223372036854775807→
  Calls Tryz.prog gf ([Value.int .i64 (k:Int),Value.int .i64 (F[k].1:Int),Value.agg #[.int .i64 F[k].2.kind,.bool F[k].2.goal,.string F[k].2.id,.slice A1 F[k].2.attr.length c1,.slice A2 F[k].2.value.length c2,.bool F[k].2.acc,.slice A3 F[k].2.conds.length c3]]++caps).toArray w
   fun e w'=>∃b,e = .returned (.bool b)∧(b=true→Inv (k+1) w')∧(b=false→Stop w')∧Fr M w w'
 apart : ∀j,D j→¬M j
 new_ : ∀k w w',Inv k w→Below w.heap.size w w'→Inv k w'
 stop_ : ∀w w',Stop w→Below w.heap.size w w'→Stop w'
theorem flatC_succ (n d:Nat) (l:List CondT):flatC (n+1) d l=l.flatMap fun c=>(d,c) :: flatC n (d+1) c.conds:=rfl
theorem flatC_snoc (n d:Nat) (l:List CondT) (i:Nat) (hi:i<l.length):flatC (n+1) d (l.take (i+1))=flatC (n+1) d (l.take i)++(d,l[i]) :: flatC n (d+1) l[i].conds:=by
 rw [flatC_succ,flatC_succ,List.take_add_one,List.getElem?_eq_getElem hi,List.flatMap_append]
 simp
def WalkTo (M:Nat→Prop) (Inv:Nat→World→Prop) (Stop:World→Prop) (at_ n:Nat) (w:World) (e:Ending) (w':World):Prop:=
 ∃(b:Bool) (a:Nat),e = .returned (.tuple #[.int .i64 (a:Int),.bool b])∧(b=true→a=at_+n∧Inv a w')∧(b=false→Stop w')∧Fr M w w'
set_option maxRecDepth 100000 in
set_option maxHeartbeats 8000000 in
theorem walk_is {gf:Nat} {caps:List Value} {D M:Nat→Prop} {F:List (Nat×CondT)} {Inv:Nat→World→Prop} {Stop:World→Prop} (Y:Yld gf caps D M F Inv Stop) (hF:F.length≤1000000000) :
 ∀(n d at_:Nat) (A:Option Addr) (c:Nat) (l:List CondT) (w:World),RowR (repCondT n) D w A c l→(∀k,M k→k<w.heap.size)→(∃post,F=F.take at_++flatC n d l++post)→at_+(flatC n d l).length≤F.length→d+n≤1000000000→Inv at_ w→
 Calls Tryz.prog 155 #[.slice A l.length c,.int .i64 (at_:Int),.int .i64 (d:Int),.func (.func gf) #[] caps.toArray] w (WalkTo M Inv Stop at_ (flatC n d l).length w):=by
 intro n
 induction n with
 | zero=>
   intro d at_ A c l w h hlow hpost hlen hd hI
   have hl0:l = []:=by
    cases l with
    | nil=>rfl
    | cons x l=>
      obtain ⟨b,off,cs,_,_,_,hr,_⟩:=h.at_ (k:=0) (by simp)
      exact hr.elim
   subst hl0
   have HI:=Lib.hid hI
   clear h hlow hpost hI
   go_enter Tryz.func155,Tryz.ntmps155
   go_wp2_with fail
   go_loopw [1,15] (fun a s wr=>s = .int .i64 0∧a = .int .i64 (at_:Int)∧wr=w) (fun a s wr=>0)
   case atStart=>exact ⟨rfl,rfl,rfl⟩
   case round=>
    obtain ⟨rfl,rfl,rfl⟩:=hrel
    go_wp2_with fail
    go_ret2
    exact ⟨true,at_,rfl,fun _=>⟨by simp [flatC],HI.out⟩,(fun h=>by cases h),Fr.refl _ _⟩
 | succ n ih=>
   intro d at_ A c l w h hlow hpost hlen hd hI
   have HR:=Lib.hid h
   have HLOW:=Lib.hid hlow
   have HPOST:=Lib.hid hpost
   have HLEN:=Lib.hid hlen
   have HI:=Lib.hid hI
   have IH:=Lib.hid ih
   have hlc:=h.cap
   have hent:=Y.enter
   clear h hlow hpost hlen hI ih
   go_enter Tryz.func155,Tryz.ntmps155
   go_wp2_with fail
   go_loopw [1,15] (fun a s wr=>∃i:Nat,s = .int .i64 i∧i≤l.length∧a = .int .i64 ((at_+(flatC (n+1) d (l.take i)).length:Nat):Int)∧Inv (at_+(flatC (n+1) d (l.take i)).length) wr∧Fr M w wr) (fun a s wr=>l.length - (intOf s).toNat)
   case atStart=>exact ⟨0,rfl,Nat.zero_le _,by simp [flatC],by simpa [flatC] using HI.out,Fr.refl _ _⟩
   case round=>
    obtain ⟨i,rfl,hi,rfl,hI,hF1⟩:=hrel
    have HIi:=Lib.hid hI
    have HFr:=Lib.hid hF1
    clear hI hF1
    by_cases hlt:i<l.length
    · obtain ⟨y,hy⟩ : ∃y,y=l[i]:=⟨_,rfl⟩
      obtain ⟨k,hk⟩ : ∃k,k=at_+(flatC (n+1) d (l.take i)).length:=⟨_,rfl⟩
      have hsn:=flatC_snoc n d l i hlt
      rw [← hy] at hsn
      have HSN:=Lib.hid hsn
      obtain ⟨g,off,A1,c1,A2,c2,A3,c3,rfl,_,hg,q0,q1,q2,q3,q4,q5,q6,r1,r2,r3⟩:=at_CondT (HR.out.fr HFr.out (fun j hd=>Y.apart j hd)) hlt
      rw [← hy] at q0 q1 q2 q3 q4 q5 q6 r1 r2 r3
      have hkF:k<F.length:=by
       have h1:=HLEN.out
       have h2:(flatC (n+1) d (l.take (i+1))).length≤(flatC (n+1) d l).length:=by
        rw [flatC_succ,flatC_succ]
        conv=>rhs;rw [← List.take_append_drop (i+1) l,List.flatMap_append,List.length_append]
        omega
       rw [HSN.out] at h2
       simp at h2
       omega
      obtain ⟨post,hp⟩:=HPOST.out
      have hparts : ∃P R,P.length=k∧F=P++(d,y) :: (flatC n (d+1) y.conds++R):=by
       have e1:flatC (n+1) d l=flatC (n+1) d (l.take i)++(d,y) :: (flatC n (d+1) y.conds++flatC (n+1) d (l.drop (i+1))):=by
        rw [flatC_succ,flatC_succ,flatC_succ]
        conv=>lhs;rw [← List.take_append_drop i l,List.drop_eq_getElem_cons hlt,← hy,List.flatMap_append,List.flatMap_cons]
        rfl
       have e2:F=(F.take at_++flatC (n+1) d (l.take i))++(d,y) :: (flatC n (d+1) y.conds++(flatC (n+1) d (l.drop (i+1))++post)):=by
        conv=>lhs;rw [hp,e1]
        simp [List.append_assoc]
       have e3:(F.take at_++flatC (n+1) d (l.take i)).length=k:=by
        have h1:=HLEN.out
        rw [List.length_append,List.length_take,hk]
        omega
       exact ⟨_,_,e3,e2⟩
      obtain ⟨P,R,e3,e2⟩:=hparts
      have hFk:F[k]=(d,y):=by
       have e4:F[k]? = some (d,y):=by
        conv=>lhs;rw [e2]
        rw [List.getElem?_append_right (by rw [e3];exact Nat.le_refl k),e3,Nat.sub_self,List.getElem?_cons_zero]
       rw [List.getElem?_eq_getElem hkF] at e4
       exact Option.some.inj e4
      have hpost2 : ∃post,F=F.take (k+1)++flatC n (d+1) y.conds++post:=by
       refine ⟨R,?_⟩
       have e5:F.take (k+1)=P ++ [(d,y)]:=by
        conv=>lhs;rw [e2]
        rw [List.take_append,e3]
        simp [List.take_of_length_le (by omega:P.length≤k+1)]
       rw [e5,List.append_assoc,List.append_assoc]
       exact e2
      have hlen2:k+1+(flatC n (d+1) y.conds).length≤F.length:=by
       rw [e2,List.length_append,List.length_cons,List.length_append,e3]
       omega
      have hcl:=Y.call k hkF
      simp only [hFk] at hcl
      have HCL:=Lib.hid hcl
      have HY:=Lib.hid hy
      have HPO:=Lib.hid hpost2
      have HLE:=Lib.hid hlen2
      have HIk:=Lib.hid (show Inv k wr by rw [hk];exact HIi.out)
      have HSNL:=Lib.hid (show at_+(flatC (n+1) d (l.take (i+1))).length=k+1+(flatC n (d+1) y.conds).length by rw [HSN.out,List.length_append,List.length_cons,hk];omega)
      have HR1:=Lib.hid r1
      have HR2:=Lib.hid r2
      have HR3:=Lib.hid r3
      have hn3:=r3.cap
      have hkb:k<1000000000:=Nat.lt_of_lt_of_le hkF hF
      have b1:(0:Int)≤(i:Int):=by omega
      have b2:(i:Int)<(l.length:Int):=by omega
      have hzr:=HFr.out.size
      have v1:IntKind.i64.wrap ((k:Int)+1)=((k+1:Nat):Int):=by rw [IntWalk.i64_in _ (by omega)];rfl
      have v2:IntKind.i64.wrap ((d:Int)+1)=((d+1:Nat):Int):=by rw [IntWalk.i64_in _ (by omega)];rfl
      rw [← hk]
      clear hcl hy hpost2 hlen2 hsn hFk e2 e3 hp hk r1 r2 r3 P R post hkF
      go_wp2_with fail
      obtain ⟨X,hX⟩ : ∃X,X=wr.alloc (.cells #[.int .i64 y.kind,.bool y.goal,.string y.id,.slice A1 y.attr.length c1,.slice A2 y.value.length c2,.bool y.acc,.slice A3 y.conds.length c3] 62):=⟨_,rfl⟩
      rw [← hX]
      have hbX:Below wr.heap.size wr X:=by rw [hX];exact (Below.refl _ _).alloc (Nat.le_refl _) _
      have hBk:Blk X wr.heap.size 62 #[.int .i64 y.kind,.bool y.goal,.string y.id,.slice A1 y.attr.length c1,.slice A2 y.value.length c2,.bool y.acc,.slice A3 y.conds.length c3]:=by rw [hX];exact Blk.new _ _ _
      have HBX:=Lib.hid hbX
      have HBK:=Lib.hid hBk
      clear hX hbX hBk
      refine (HCL.out X A1 A2 A3 c1 c2 c3 (Y.new_ _ _ _ HIk.out HBX.out) (HR1.out.new_ HBX.out) (HR2.out.new_ HBX.out) hn3).mono ?_
      rintro e w5 ⟨b,rfl,hbt,hbf,hF5⟩
      have HF5:=Lib.hid (HFr.out.trans ((Fr.of_new HBX.out).trans hF5))
      have hBk5:=HBK.out.fr hF5 (fun hm=>by have:=HLOW.out _ hm;omega)
      have x6:w5.cell? ⟨wr.heap.size,6,none⟩=some (.slice A3 y.conds.length c3):=(hBk5.cell 6).trans rfl
      have hxl:=hBk5.lt
      have HR35:=Lib.hid ((HR3.out.new_ HBX.out).fr hF5 (fun j hd=>Y.apart j hd))
      cases b with
      | false=>
        have HS:=Lib.hid (hbf rfl)
        clear hbt hbf hF5 hBk5 x6 q0 q1 q2 q3 q4 q5 q6
        go_wp2_with fail
        go_ret2
        exact ⟨false,k,rfl,(fun h=>by cases h),fun _=>HS.out,HF5.out⟩
      | true=>
        have HI5:=Lib.hid (hbt rfl)
        clear hbt hbf hF5 hBk5 q0 q1 q2 q3 q4 q5 q6
        go_wp2_with fail
        refine (IH.out (d+1) (k+1) A3 c3 y.conds w5 HR35.out (fun j hj=>Nat.lt_of_lt_of_le (HLOW.out j hj) HF5.out.size) HPO.out HLE.out (by omega) HI5.out).mono ?_
        rintro e w6 ⟨b2,a2,rfl,hb2t,hb2f,hF6⟩
        have HF6:=Lib.hid (HF5.out.trans hF6)
        cases b2 with
        | false=>
          have HS:=Lib.hid (hb2f rfl)
          clear hb2t hb2f hF6 x6
          go_wp2_with fail
          go_ret2
          exact ⟨false,a2,rfl,(fun h=>by cases h),fun _=>HS.out,HF6.out⟩
        | true=>
          obtain ⟨ha2,hI6⟩:=hb2t rfl
          have HA2:=Lib.hid ha2
          have HI6:=Lib.hid hI6
          clear hb2t hb2f hF6 x6 ha2 hI6
          go_wp2_with fail
          go_roundw
          case rel=>exact ⟨i+1,by go_num,by omega,by rw [HSNL.out,HA2.out],by rw [HSNL.out,← HA2.out];exact HI6.out,HF6.out⟩
          case measure=>simp [intOf]<;>omega
    · have hie:i=l.length:=by omega
      subst hie
      rw [List.take_length] at *
      have HI2:=Lib.hid HIi.out
      go_wp2_with fail
      go_ret2
      exact ⟨true,at_+(flatC (n+1) d l).length,rfl,(fun _=>⟨rfl,HI2.out⟩),(fun h=>by cases h),HFr.out⟩
end Go.Proofs.YtldndkngpdfpfaaGreat
