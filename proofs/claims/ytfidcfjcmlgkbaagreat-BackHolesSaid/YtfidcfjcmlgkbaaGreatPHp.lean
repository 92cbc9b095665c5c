/-
  Texts put together: Ref06B, Ref06C, Ref06D, Ref06E, Ref06I.
-/
import Derived.Test.YtfidcfjcmlgkbaaGreatPHo
namespace Go.Proofs.YtfidcfjcmlgkbaaGreat
open Lib (hid)
set_option maxRecDepth 100000
set_option maxHeartbeats 32000000
set_option linter.unusedSimpArgs false
section
open Go.RowKit Go.Shelf
attribute [local go_sem] Oper.semAt_some
theorem Zjz (t:Z1t) (A:Option Addr) (c:Nat) (w:World) (hrd:Z18 w 3 Sym.cells A c t.list):Calls Tryz.prog 205 #[.agg #[.int .i64 t.rel,.string t.var,.int .i64 t.sym.kind,.string t.sym.text,.int .i64 t.sym.n,.slice A t.list.length c]] w fun e w'=>e = .returned (.bool (Z16 t))∧Below w.heap.size w w':=by
 have HRD:=hid hrd;have hlc:=hrd.cap;clear hrd;have hq : ∀W:World,(binOp .neq 38 (.agg #[.int .i64 t.sym.kind,.string t.sym.text,.int .i64 t.sym.n]) (.agg #[.int .i64 0,.string ⟨#[]⟩,.int .i64 0])).run Tryz.prog W = .ok (.bool (!Z4o t.sym)) W:=fun W=>Zhm t.sym zS W;go_enter Tryz.func205,Tryz.ntmps205;(go_upto_region 1 with fail);obtain ⟨w1,hw1⟩ : ∃w1,w1=(w.alloc (.cells #[.int .i64 t.rel,.string t.var,.int .i64 t.sym.kind,.string t.sym.text,.int .i64 t.sym.n,.slice A t.list.length c] 138)):=⟨_,rfl⟩;rw [← hw1];have HB:=hid (show Below w.heap.size w w1 by rw [hw1];exact (by repeat (first | exact Zm7 _ _ | refine Below.drew ?_ | refine Below.al ?_ _ | refine Below.sc ?_ _)));have Kt:=hid (show Blk w1 (w.heap.size) 138 #[.int .i64 t.rel,.string t.var,.int .i64 t.sym.kind,.string t.sym.text,.int .i64 t.sym.n,.slice A t.list.length c] by rw [hw1];exact (Blk.new w 138 #[.int .i64 t.rel,.string t.var,.int .i64 t.sym.kind,.string t.sym.text,.int .i64 t.sym.n,.slice A t.list.length c]));clear hw1;obtain ⟨t0,t1,t2,t3,t4,t5⟩:=Kt.out.c6;have tz:=Kt.out.lt;by_cases h8:t.rel=8
 · skip
   (have ra:(t.rel == 8)=true:=by simp [h8]);(have rb:decide (t.rel=8)=true:=by simp [h8]);have H8:=hid h8;clear h8;by_cases hv:t.var.toList = []
   · skip
     (have vva:(t.var.toList == [])=true:=by simp [hv]);(have vvb:t.var.toList.isEmpty=true:=by simp [hv]);(have vvc:decide (t.var.toList = [])=true:=by simp [hv]);(have vvd:(t.var.toList != [])=false:=by simp [hv]);have Hv:=hid hv;clear hv;cases hn:Z4o t.sym
     · skip
       simp only [hn] at hq;have HR:=hid (show Z16 t=false by simp [Z16,H8.out,Hv.out,hn]);(go_wp2_with fail);go_ret;exact ⟨by rw [HR.out]<;>rfl,by (repeat (first | exact Zm7 _ _ | exact HB.out | refine Below.drew ?_ | refine Below.al ?_ _ | refine Below.sc ?_ _))⟩
     · skip
       simp only [hn] at hq;have HN:=hid hn;clear hn;by_cases hl:t.list.length<1
       · skip
         have l0:decide ((t.list.length:Int)<1)=true:=Zmb (by omega);have Hl:=hid hl;clear hl;(have hl1:t.list.length=0:=by have:=Hl.out;omega);have HL1:=hid hl1;clear hl1;have HR:=hid (show Z16 t=false by simp [Z16,H8.out,Hv.out,HN.out,Hl.out,HL1.out]);(go_wp2_with fail);go_ret;exact ⟨by rw [HR.out]<;>rfl,by (repeat (first | exact Zm7 _ _ | exact HB.out | refine Below.drew ?_ | refine Below.al ?_ _ | refine Below.sc ?_ _))⟩
       · skip
         have l0:decide ((t.list.length:Int)<1)=false:=Zm9 (by omega);have Hl:=hid hl;clear hl;by_cases hm:8<t.list.length
         · skip
           have m0:decide ((8:Int)<(t.list.length:Int))=true:=Zmb (by omega);have Hm:=hid hm;clear hm;have HL1:=hid (show ¬t.list.length≤8 by have:=Hm.out;omega);have HR:=hid (show Z16 t=false by simp [Z16,H8.out,Hv.out,HN.out,Hl.out,Hm.out,HL1.out]);(go_wp2_with fail);go_ret;exact ⟨by rw [HR.out]<;>rfl,by (repeat (first | exact Zm7 _ _ | exact HB.out | refine Below.drew ?_ | refine Below.al ?_ _ | refine Below.sc ?_ _))⟩
         · skip
           have m0:decide ((8:Int)<(t.list.length:Int))=false:=Zm9 (by omega);have Hm:=hid hm;clear hm
           have HR:=hid (show Z16 t=t.list.all Z21 by
            have:=Hl.out;have:=Hm.out
            simp [Z16,H8.out,Hv.out,HN.out,show 1≤t.list.length by omega,show t.list.length≤8 by omega])
           clear t0 t1 t2 t3 t4 t5 tz;obtain ⟨t0,t1,t2,t3,t4,t5⟩:=Kt.out.c6;have tz:=Kt.out.lt;(go_wp2_with fail);clear t0 t1 t2 t3 t4 t5 tz
           go_loopw [3] (fun s wr=>∃i:Nat,s = .int .i64 i∧i≤t.list.length∧(∀k,(h:k<t.list.length)→k<i→Z21 t.list[k]=true)∧Below w.heap.size w wr∧Blk wr (w.heap.size) 138 #[.int .i64 t.rel,.string t.var,.int .i64 t.sym.kind,.string t.sym.text,.int .i64 t.sym.n,.slice A t.list.length c]) (fun s wr=>t.list.length - (intOf s).toNat)
           case atStart=>exact ⟨0,rfl,Nat.zero_le _,fun k _ h=>absurd h (by omega),HB.out,Kt.out⟩
           case round=>
            obtain ⟨i,rfl,hi,hall,hB,hK⟩:=hrel;have HALL:=hid hall;have HB:=hid hB;have Kt:=hid hK;clear hall hB hK;obtain ⟨t0,t1,t2,t3,t4,t5⟩:=Kt.out.c6;have tz:=Kt.out.lt;by_cases hlt:i<t.list.length
            · skip
              obtain ⟨y,hy⟩ : ∃y,y=t.list[i]:=⟨_,rfl⟩;obtain ⟨g,off,rfl,hg,q0,q1,q2⟩:=Zic (HRD.out.new_ HB.out) hlt;rw [← hy] at q0 q1 q2;have HY:=hid hy;(have b1:(0:Int)≤(i:Int):=by omega);(have b2:(i:Int)<(t.list.length:Int):=by omega);clear hy;cases hcb:Z21 y
              · skip
                have hc:=fun W=>Z8u y W;simp only [hcb] at hc;have HCcb:=hid hc;clear hc;(go_wp2_with fail);(with_reducible refine (HCcb.out _).mono ?_);rintro e w2 ⟨rfl,hb⟩;have hbs:=Below.trans (show Below wr.heap.size wr _ from (by (repeat (first | exact Zm7 _ _ | refine Below.drew ?_ | refine Below.al ?_ _ | refine Below.sc ?_ _)))) (hb.mono (by simp<;>omega));have Kt:=hid (Kt.out.new_ hbs);have HB:=hid (HB.out.trans (hbs.mono HB.out.size));have hsz2:=hbs.size;clear t0 t1 t2 t3 t4 t5 tz hb hbs;obtain ⟨t0,t1,t2,t3,t4,t5⟩:=Kt.out.c6;have tz:=Kt.out.lt;have HRf:=hid (show t.list.all Z21=false from List.all_eq_false.2 ⟨y,by rw [HY.out];exact Zmv hlt,by rw [hcb];simp⟩);clear hcb q0 q1 q2;(go_wp2_with fail);go_ret;exact ⟨by rw [HR.out,HRf.out]<;>rfl,by (repeat (first | exact Zm7 _ _ | exact HB.out | refine Below.drew ?_ | refine Below.al ?_ _ | refine Below.sc ?_ _))⟩
              · skip
                have hc:=fun W=>Z8u y W;simp only [hcb] at hc;have HCcb:=hid hc;clear hc;(go_wp2_with fail);(with_reducible refine (HCcb.out _).mono ?_);rintro e w2 ⟨rfl,hb⟩;have hbs:=Below.trans (show Below wr.heap.size wr _ from (by (repeat (first | exact Zm7 _ _ | refine Below.drew ?_ | refine Below.al ?_ _ | refine Below.sc ?_ _)))) (hb.mono (by simp<;>omega));have Kt:=hid (Kt.out.new_ hbs);have HB:=hid (HB.out.trans (hbs.mono HB.out.size));have hsz2:=hbs.size;clear t0 t1 t2 t3 t4 t5 tz hb hbs;obtain ⟨t0,t1,t2,t3,t4,t5⟩:=Kt.out.c6;have tz:=Kt.out.lt;have HCB:=hid hcb;clear hcb q0 q1 q2;(go_wp2_with fail);go_roundw
                case rel=>exact ⟨i+1,by go_num,by omega,fun k hk hki=>by
                 by_cases e:k=i
                 · subst e;rw [← HY.out];exact HCB.out
                 · exact HALL.out k hk (by omega),HB.out,Kt.out⟩
                case measure=>simp [intOf]<;>omega
            · skip
              obtain rfl:i=t.list.length:=by omega
              have HRt:=hid (show t.list.all Z21=true from Zne.2 (fun x hx=>by
               obtain ⟨k,hk,rfl⟩:=List.getElem_of_mem hx
               exact HALL.out k hk hk))
              (go_wp2_with fail);go_ret;exact ⟨by rw [HR.out,HRt.out]<;>rfl,by (repeat (first | exact Zm7 _ _ | exact HB.out | refine Below.drew ?_ | refine Below.al ?_ _ | refine Below.sc ?_ _))⟩
   · skip
     (have vva:(t.var.toList == [])=false:=by simp [hv]);(have vvb:t.var.toList.isEmpty=false:=by simp [hv]);(have vvc:decide (t.var.toList = [])=false:=by simp [hv]);(have vvd:(t.var.toList != [])=true:=by simp [hv]);have Hv:=hid hv;clear hv;have HR:=hid (show Z16 t=false by simp [Z16,H8.out,Hv.out]);(go_wp2_with fail);go_ret;exact ⟨by rw [HR.out]<;>rfl,by (repeat (first | exact Zm7 _ _ | exact HB.out | refine Below.drew ?_ | refine Below.al ?_ _ | refine Below.sc ?_ _))⟩
 · skip
   (have ra:(t.rel == 8)=false:=by simp [h8]);(have rb:decide (t.rel=8)=false:=by simp [h8]);have H8:=hid h8;clear h8;by_cases ha:t.rel<1
   · skip
     have a0:decide (1≤t.rel)=false:=Zm9 (by omega);have Ha:=hid ha;clear ha;have HR:=hid (show Z16 t=false by simp [Z16,H8.out,Ha.out]);(go_wp2_with fail);go_ret;exact ⟨by rw [HR.out]<;>rfl,by (repeat (first | exact Zm7 _ _ | exact HB.out | refine Below.drew ?_ | refine Below.al ?_ _ | refine Below.sc ?_ _))⟩
   · skip
     have a0:decide (1≤t.rel)=true:=Zmb (by omega);have Ha:=hid ha;clear ha;by_cases hb:7<t.rel
     · skip
       have b0:decide (t.rel≤7)=false:=Zm9 (by omega);have Hb:=hid hb;clear hb;have HR:=hid (show Z16 t=false by simp [Z16,H8.out,Ha.out,Hb.out]);(go_wp2_with fail);go_ret;exact ⟨by rw [HR.out]<;>rfl,by (repeat (first | exact Zm7 _ _ | exact HB.out | refine Below.drew ?_ | refine Below.al ?_ _ | refine Below.sc ?_ _))⟩
     · skip
       have b0:decide (t.rel≤7)=true:=Zmb (by omega);have Hb:=hid hb;clear hb;by_cases hl:t.list.length=0
       · skip
         (have lz:((t.list.length:Int) == 0)=true:=by rw [beq_iff_eq];omega);have ly:decide ((t.list.length:Int)=0)=true:=Zmb (by omega);have Hl:=hid hl;clear hl;have HS:=hid (show Z16 t=Z24 ⟨t.var,t.sym⟩ by simp [Z16,Z24,H8.out,Ha.out,Hb.out,Hl.out]);(go_wp2_with fail);(with_reducible refine (Z40 ⟨t.var,t.sym⟩ _).mono ?_);rintro e w2 ⟨rfl,hb⟩;have hbs:=Below.trans (show Below w1.heap.size w1 _ from (by (repeat (first | exact Zm7 _ _ | refine Below.drew ?_ | refine Below.al ?_ _ | refine Below.sc ?_ _)))) (hb.mono (by simp<;>omega));have Kt:=hid (Kt.out.new_ hbs);have HB:=hid (HB.out.trans (hbs.mono HB.out.size));have hsz2:=hbs.size;clear t0 t1 t2 t3 t4 t5 tz hb hbs;obtain ⟨t0,t1,t2,t3,t4,t5⟩:=Kt.out.c6;have tz:=Kt.out.lt;(go_wp2_with fail);go_ret;exact ⟨by rw [HS.out]<;>rfl,by (repeat (first | exact Zm7 _ _ | exact HB.out | refine Below.drew ?_ | refine Below.al ?_ _ | refine Below.sc ?_ _))⟩
       · skip
         (have lz:((t.list.length:Int) == 0)=false:=by rw [beq_eq_false_iff_ne];omega);have ly:decide ((t.list.length:Int)=0)=false:=Zm9 (by omega);have Hl:=hid hl;clear hl;have HL1:=hid (show 0<t.list.length by have:=Hl.out;omega);have HR:=hid (show Z16 t=false by simp [Z16,H8.out,Ha.out,Hb.out,HL1.out]);(go_wp2_with fail);go_ret;exact ⟨by rw [HR.out]<;>rfl,by (repeat (first | exact Zm7 _ _ | exact HB.out | refine Below.drew ?_ | refine Below.al ?_ _ | refine Below.sc ?_ _))⟩
theorem Z6w {D:Nat→Prop} (A:Option Addr) (c:Nat) (l:List Z1t) (w:World) (h:RowR Z01 D w A c l):Calls Tryz.prog 191 #[.slice A l.length c] w fun e w'=>e = .returned (.bool (l.all Z16))∧Below w.heap.size w w':=by
 have HR:=hid h;have hlc:=h.cap;clear h;go_enter Tryz.func191,Tryz.ntmps191;go_wp2_with fail
 go_loopw [3] (fun s wr=>∃i:Nat,s = .int .i64 i∧i≤l.length∧(∀k,(h:k<l.length)→k<i→Z16 l[k]=true)∧Below w.heap.size w wr) (fun s wr=>l.length - (intOf s).toNat)
 case atStart=>exact ⟨0,rfl,Nat.zero_le _,fun k _ h=>absurd h (by omega),Zm7 _ _⟩
 case round=>
  obtain ⟨i,rfl,hi,hall,hB⟩:=hrel;have HALL:=hid hall;have HB:=hid hB;clear hall hB;by_cases hlt:i<l.length
  · obtain ⟨y,hy⟩ : ∃y,y=l[i]:=⟨_,rfl⟩
    obtain ⟨g,off,A1,c1,rfl,_,hg,q0,q1,q2,q3,q4,q5,hrow⟩:=Z32 (HR.out.new_ HB.out) hlt;rw [← hy] at q0 q1 q2 q3 q4 q5 hrow;have HROW:=hid (show Z18 wr 3 Sym.cells A1 c1 y.list from RowR.rd (hs:=Sym.cells_length) hrow);have HY:=hid hy;(have b1:(0:Int)≤(i:Int):=by omega);(have b2:(i:Int)<(l.length:Int):=by omega);have hzr:=HB.out.size;clear hy hrow;(go_wp2_with fail);refine (Zjz y A1 c1 _ (HROW.out.new_ (by (repeat (first | exact Zm7 _ _ | refine Below.drew ?_ | refine Below.al ?_ _ | refine Below.sc ?_ _))))).mono ?_;rintro e w9 ⟨rfl,hb9⟩;have HB9:=hid (HB.out.trans ((Below.trans (show Below wr.heap.size wr _ from (by (repeat (first | exact Zm7 _ _ | refine Below.drew ?_ | refine Below.al ?_ _ | refine Below.sc ?_ _)))) (hb9.mono (by simp)):Below wr.heap.size wr w9).mono hzr));clear hb9 q0 q1 q2 q3 q4 q5;cases hcb:Z16 y
    · have HRf:=hid (show l.all Z16=false from List.all_eq_false.2 ⟨y,by rw [HY.out];exact Zmv hlt,by rw [hcb];simp⟩)
      clear hcb;(go_wp2_with fail);go_ret;exact ⟨by rw [HRf.out]<;>rfl,HB9.out⟩
    · have HCB:=hid hcb
      clear hcb;(go_wp2_with fail);go_roundw
      case rel=>exact ⟨i+1,by go_num,by omega,fun k hk hki=>by
       by_cases e:k=i
       · subst e;rw [← HY.out];exact HCB.out
       · exact HALL.out k hk (by omega),HB9.out⟩
      case measure=>simp [intOf]<;>omega
  · have hie:i=l.length:=by omega
    subst hie
    have HRt:=hid (show l.all Z16=true from Zne.2 (fun x hx=>by
     obtain ⟨k,hk,rfl⟩:=List.getElem_of_mem hx
     exact HALL.out k hk hk))
    (go_wp2_with fail);go_ret;exact ⟨by rw [HRt.out]<;>rfl,HB.out⟩
theorem Zjv {D:Nat→Prop} (x:Z08) (deep:Nat) (A1 A2 A3:Option Addr) (c1 c2 c3:Nat) (w:World) (h1:RowR Z01 D w A1 c1 x.attr) (h2:RowR Z01 D w A2 c2 x.value) (hn3:(x.conds.length:Int)≤9223372036854775807) :
 Calls Tryz.prog 168 #[.agg #[.int .i64 x.kind,.bool x.goal,.string x.id,.slice A1 x.attr.length c1,.slice A2 x.value.length c2,.bool x.acc,.slice A3 x.conds.length c3],.int .i64 deep] w fun e w'=>e = .returned (.int .i64 (Z0e x deep))∧Below w.heap.size w w':=by
 have H1:=hid h1;have H2:=hid h2;have hl1:=h1.cap;have hl2:=h2.cap;clear h1 h2;go_enter Tryz.func168,Tryz.ntmps168;(go_upto_region 1 with fail);obtain ⟨w1,hw1⟩ : ∃w1,w1=(w.alloc (.cells #[.int .i64 x.kind,.bool x.goal,.string x.id,.slice A1 x.attr.length c1,.slice A2 x.value.length c2,.bool x.acc,.slice A3 x.conds.length c3] 59)):=⟨_,rfl⟩;rw [← hw1];have HB:=hid (show Below w.heap.size w w1 by rw [hw1];exact (by repeat (first | exact Zm7 _ _ | refine Below.drew ?_ | refine Below.al ?_ _ | refine Below.sc ?_ _)));have Kx:=hid (show Blk w1 (w.heap.size) 59 #[.int .i64 x.kind,.bool x.goal,.string x.id,.slice A1 x.attr.length c1,.slice A2 x.value.length c2,.bool x.acc,.slice A3 x.conds.length c3] by rw [hw1];exact (Blk.new w 59 #[.int .i64 x.kind,.bool x.goal,.string x.id,.slice A1 x.attr.length c1,.slice A2 x.value.length c2,.bool x.acc,.slice A3 x.conds.length c3]));clear hw1;obtain ⟨x0,x1,x2,x3,x4,x5,x6⟩:=Kx.out.c7;have xz:=Kx.out.lt;by_cases ha:x.kind<1
 · skip
   have a0:decide (x.kind<1)=true:=Zmb ha;have Ha:=hid ha;clear ha;have HN3:=hid (show ¬x.kind=3 by have:=Ha.out;omega);have HN1:=hid (show ¬x.kind=1 by have:=Ha.out;omega);have HN2:=hid (show ¬x.kind=2 by have:=Ha.out;omega);have HR:=hid (show Z0e x deep=9 by simp [Z0e,HN3.out,HN1.out,HN2.out]);(go_wp2_with fail);go_ret;exact ⟨by rw [HR.out]<;>rfl,by (repeat (first | exact Zm7 _ _ | exact HB.out | refine Below.drew ?_ | refine Below.al ?_ _ | refine Below.sc ?_ _))⟩
 · skip
   have a0:decide (x.kind<1)=false:=Zm9 ha;have Ha:=hid ha;clear ha;by_cases hb:3<x.kind
   · skip
     have b0:decide (3<x.kind)=true:=Zmb hb;have Hb:=hid hb;clear hb;have HN3:=hid (show ¬x.kind=3 by have:=Hb.out;omega);have HN1:=hid (show ¬x.kind=1 by have:=Hb.out;omega);have HN2:=hid (show ¬x.kind=2 by have:=Hb.out;omega);have HR:=hid (show Z0e x deep=9 by simp [Z0e,HN3.out,HN1.out,HN2.out]);(go_wp2_with fail);go_ret;exact ⟨by rw [HR.out]<;>rfl,by (repeat (first | exact Zm7 _ _ | exact HB.out | refine Below.drew ?_ | refine Below.al ?_ _ | refine Below.sc ?_ _))⟩
   · skip
     have b0:decide (3<x.kind)=false:=Zm9 hb;have Hb:=hid hb;clear hb;by_cases hk:x.kind=3
     · skip
       (have ka:(x.kind == 3)=true:=by simp [hk]);(have kb:decide (x.kind=3)=true:=by simp [hk]);have Hk:=hid hk;clear hk;by_cases hg:x.goal=true
       · skip
         have gq:x.goal=true:=hg;have Hg:=hid hg;clear hg;have HR:=hid (show Z0e x deep=9 by simp [Z0e,Hk.out,Hg.out]);(go_wp2_with fail);go_ret;exact ⟨by rw [HR.out]<;>rfl,by (repeat (first | exact Zm7 _ _ | exact HB.out | refine Below.drew ?_ | refine Below.al ?_ _ | refine Below.sc ?_ _))⟩
       · skip
         (have gq:x.goal=false:=by simpa using hg);have Hg:=hid hg;clear hg;by_cases hv : ¬x.id.toList = []
         · skip
           (have vva:(x.id.toList == [])=false:=by simp [hv]);(have vvb:x.id.toList.isEmpty=false:=by simp [hv]);(have vvc:decide (x.id.toList = [])=false:=by simp [hv]);(have vvd:(x.id.toList != [])=true:=by simp [hv]);have Hv:=hid hv;clear hv;have HR:=hid (show Z0e x deep=9 by simp [Z0e,Hk.out,Hg.out,Hv.out]);(go_wp2_with fail);go_ret;exact ⟨by rw [HR.out]<;>rfl,by (repeat (first | exact Zm7 _ _ | exact HB.out | refine Below.drew ?_ | refine Below.al ?_ _ | refine Below.sc ?_ _))⟩
         · skip
           have hv2:x.id.toList = []:=Zn4 hv;(have vva:(x.id.toList == [])=true:=by simp [hv2]);(have vvb:x.id.toList.isEmpty=true:=by simp [hv2]);(have vvc:decide (x.id.toList = [])=true:=by simp [hv2]);(have vvd:(x.id.toList != [])=false:=by simp [hv2]);clear hv2;have Hv:=hid hv;clear hv;have HV2:=hid (Zn4 Hv.out);by_cases hc:0<x.attr.length
           · skip
             have ca:decide ((0:Int)<(x.attr.length:Int))=true:=Zmb (by omega);have cb:decide (0<x.attr.length)=true:=Zmb (by omega);have Hc:=hid hc;clear hc;have HR:=hid (show Z0e x deep=9 by simp [Z0e,Hk.out,Hg.out,HV2.out,Hc.out]);(go_wp2_with fail);go_ret;exact ⟨by rw [HR.out]<;>rfl,by (repeat (first | exact Zm7 _ _ | exact HB.out | refine Below.drew ?_ | refine Below.al ?_ _ | refine Below.sc ?_ _))⟩
           · skip
             have ca:decide ((0:Int)<(x.attr.length:Int))=false:=Zm9 (by omega);have cb:decide (0<x.attr.length)=false:=Zm9 (by omega);have Hc:=hid hc;clear hc;have HLc:=hid (show x.attr = [] by have:=Hc.out;exact Zn3.1 (by omega));by_cases hd:0<x.value.length
             · skip
               have da:decide ((0:Int)<(x.value.length:Int))=true:=Zmb (by omega);have db:decide (0<x.value.length)=true:=Zmb (by omega);have Hd:=hid hd;clear hd;have HR:=hid (show Z0e x deep=9 by simp [Z0e,Hk.out,Hg.out,HV2.out,HLc.out,Hd.out]);(go_wp2_with fail);go_ret;exact ⟨by rw [HR.out]<;>rfl,by (repeat (first | exact Zm7 _ _ | exact HB.out | refine Below.drew ?_ | refine Below.al ?_ _ | refine Below.sc ?_ _))⟩
             · skip
               have da:decide ((0:Int)<(x.value.length:Int))=false:=Zm9 (by omega);have db:decide (0<x.value.length)=false:=Zm9 (by omega);have Hd:=hid hd;clear hd;have HLd:=hid (show x.value = [] by have:=Hd.out;exact Zn3.1 (by omega));by_cases he:x.acc=true
               · skip
                 have eq:x.acc=true:=he;have He:=hid he;clear he;have HR:=hid (show Z0e x deep=9 by simp [Z0e,Hk.out,Hg.out,HV2.out,HLc.out,HLd.out,He.out]);(go_wp2_with fail);go_ret;exact ⟨by rw [HR.out]<;>rfl,by (repeat (first | exact Zm7 _ _ | exact HB.out | refine Below.drew ?_ | refine Below.al ?_ _ | refine Below.sc ?_ _))⟩
               · skip
                 (have eq:x.acc=false:=by simpa using he);have He:=hid he;clear he;by_cases hf:x.conds.length=0
                 · skip
                   (have fz:((x.conds.length:Int) == 0)=true:=by rw [beq_iff_eq];omega);have fy:decide ((x.conds.length:Int)=0)=true:=Zmb (by omega);have Hf:=hid hf;clear hf;have HR:=hid (show Z0e x deep=9 by simp [Z0e,Hk.out,Hg.out,HV2.out,HLc.out,HLd.out,He.out,Hf.out]);(go_wp2_with fail);go_ret;exact ⟨by rw [HR.out]<;>rfl,by (repeat (first | exact Zm7 _ _ | exact HB.out | refine Below.drew ?_ | refine Below.al ?_ _ | refine Below.sc ?_ _))⟩
                 · skip
                   (have fz:((x.conds.length:Int) == 0)=false:=by rw [beq_eq_false_iff_ne];omega);have fy:decide ((x.conds.length:Int)=0)=false:=Zm9 (by omega);have Hf:=hid hf;clear hf;by_cases hp:3≤deep
                   · skip
                     have p0:decide ((3:Int)≤(deep:Int))=true:=Zmb (by omega);have p1:decide (3≤deep)=true:=Zmb (by omega);have Hp:=hid hp;clear hp;have HR:=hid (show Z0e x deep=8 by simp [Z0e,Hk.out,Hg.out,HV2.out,HLc.out,HLd.out,He.out,Hf.out,Hp.out]);(go_wp2_with fail);go_ret;exact ⟨by rw [HR.out]<;>rfl,by (repeat (first | exact Zm7 _ _ | exact HB.out | refine Below.drew ?_ | refine Below.al ?_ _ | refine Below.sc ?_ _))⟩
                   · skip
                     have p0:decide ((3:Int)≤(deep:Int))=false:=Zm9 (by omega);have p1:decide (3≤deep)=false:=Zm9 (by omega);have Hp:=hid hp;clear hp;have HR:=hid (show Z0e x deep=0 by simp [Z0e,Hk.out,Hg.out,HV2.out,HLc.out,HLd.out,He.out,Hf.out,Hp.out]);(go_wp2_with fail);go_ret;exact ⟨by rw [HR.out]<;>rfl,by (repeat (first | exact Zm7 _ _ | exact HB.out | refine Below.drew ?_ | refine Below.al ?_ _ | refine Below.sc ?_ _))⟩
     · skip
       (have ka:(x.kind == 3)=false:=by simp [hk]);(have kb:decide (x.kind=3)=false:=by simp [hk]);have Hk:=hid hk;clear hk;have H12:=hid (show x.kind=1∨x.kind=2 by have:=Ha.out;have:=Hb.out;have:=Hk.out;omega);by_cases hc:0<x.conds.length
       · skip
         have ca:decide ((0:Int)<(x.conds.length:Int))=true:=Zmb (by omega);have cb:decide (0<x.conds.length)=true:=Zmb (by omega);have Hc:=hid hc;clear hc;have HR:=hid (show Z0e x deep=9 by simp [Z0e,Hk.out,H12.out,Hc.out]);(go_wp2_with fail);go_ret;exact ⟨by rw [HR.out]<;>rfl,by (repeat (first | exact Zm7 _ _ | exact HB.out | refine Below.drew ?_ | refine Below.al ?_ _ | refine Below.sc ?_ _))⟩
       · skip
         have ca:decide ((0:Int)<(x.conds.length:Int))=false:=Zm9 (by omega);have cb:decide (0<x.conds.length)=false:=Zm9 (by omega);have Hc:=hid hc;clear hc;cases hw:Z15 x.id
         · skip
           have hc:=fun W=>Z41 x.id W;simp only [hw] at hc;have HCw:=hid hc;clear hc;(go_wp2_with fail);(with_reducible refine (HCw.out _).mono ?_);rintro e w0 ⟨rfl,rfl⟩;have HR:=hid (show Z0e x deep=9 by simp [Z0e,Hk.out,H12.out,Hc.out,hw]);(go_wp2_with fail);go_ret;exact ⟨by rw [HR.out]<;>rfl,by (repeat (first | exact Zm7 _ _ | exact HB.out | refine Below.drew ?_ | refine Below.al ?_ _ | refine Below.sc ?_ _))⟩
         · skip
           have hc:=fun W=>Z41 x.id W;simp only [hw] at hc;have HCw:=hid hc;clear hc;(go_wp2_with fail);(with_reducible refine (HCw.out _).mono ?_);rintro e w0 ⟨rfl,rfl⟩;have HW:=hid hw;clear hw;by_cases hd:x.attr.length=0
           · skip
             (have dz:((x.attr.length:Int) == 0)=true:=by rw [beq_iff_eq];omega);have dy:decide ((x.attr.length:Int)=0)=true:=Zmb (by omega);have Hd:=hid hd;clear hd;have HLd:=hid (Zn3.1 Hd.out);have HR:=hid (show Z0e x deep=9 by simp [Z0e,Hk.out,H12.out,Hc.out,HW.out,HLd.out]);(go_wp2_with fail);go_ret;exact ⟨by rw [HR.out]<;>rfl,by (repeat (first | exact Zm7 _ _ | exact HB.out | refine Below.drew ?_ | refine Below.al ?_ _ | refine Below.sc ?_ _))⟩
           · skip
             (have dz:((x.attr.length:Int) == 0)=false:=by rw [beq_eq_false_iff_ne];omega);have dy:decide ((x.attr.length:Int)=0)=false:=Zm9 (by omega);have Hd:=hid hd;clear hd;have HNd:=hid (show ¬x.attr = [] by intro e;exact Hd.out (by rw [e];rfl));by_cases he:4<x.attr.length
             · skip
               have ea:decide ((4:Int)<(x.attr.length:Int))=true:=Zmb (by omega);have eb:decide (4<x.attr.length)=true:=Zmb (by omega);have He:=hid he;clear he;have HR:=hid (show Z0e x deep=7 by simp [Z0e,Hk.out,H12.out,Hc.out,HW.out,HNd.out,He.out]);(go_wp2_with fail);go_ret;exact ⟨by rw [HR.out]<;>rfl,by (repeat (first | exact Zm7 _ _ | exact HB.out | refine Below.drew ?_ | refine Below.al ?_ _ | refine Below.sc ?_ _))⟩
             · skip
               have ea:decide ((4:Int)<(x.attr.length:Int))=false:=Zm9 (by omega);have eb:decide (4<x.attr.length)=false:=Zm9 (by omega);have He:=hid he;clear he;by_cases hf:4<x.value.length
               · skip
                 have fa:decide ((4:Int)<(x.value.length:Int))=true:=Zmb (by omega);have fb:decide (4<x.value.length)=true:=Zmb (by omega);have Hf:=hid hf;clear hf;have HR:=hid (show Z0e x deep=7 by simp [Z0e,Hk.out,H12.out,Hc.out,HW.out,HNd.out,He.out,Hf.out]);(go_wp2_with fail);go_ret;exact ⟨by rw [HR.out]<;>rfl,by (repeat (first | exact Zm7 _ _ | exact HB.out | refine Below.drew ?_ | refine Below.al ?_ _ | refine Below.sc ?_ _))⟩
               · skip
                 have fa:decide ((4:Int)<(x.value.length:Int))=false:=Zm9 (by omega);have fb:decide (4<x.value.length)=false:=Zm9 (by omega);have Hf:=hid hf;clear hf;cases ht:x.attr.all Z16
                 · skip
                   have hc:=fun W (hb:Below w.heap.size w W)=>Z6w A1 c1 x.attr W (H1.out.new_ hb);simp only [ht] at hc;have HCt:=hid hc;clear hc;(go_wp2_with fail);(with_reducible refine (HCt.out _ (by (repeat (first | exact Zm7 _ _ | exact HB.out | refine Below.drew ?_ | refine Below.al ?_ _ | refine Below.sc ?_ _)))).mono ?_);rintro e w2 ⟨rfl,hb⟩;have hbs:=Below.trans (show Below w1.heap.size w1 _ from (by (repeat (first | exact Zm7 _ _ | refine Below.drew ?_ | refine Below.al ?_ _ | refine Below.sc ?_ _)))) (hb.mono (by simp<;>omega));have Kx:=hid (Kx.out.new_ hbs);have HB:=hid (HB.out.trans (hbs.mono HB.out.size));have hsz2:=hbs.size;clear x0 x1 x2 x3 x4 x5 x6 xz hb hbs;obtain ⟨x0,x1,x2,x3,x4,x5,x6⟩:=Kx.out.c7;have xz:=Kx.out.lt;have HTt:=hid ht;clear ht;have HR:=hid (show Z0e x deep=9 by simp [Z0e,Hk.out,H12.out,Hc.out,HW.out,HNd.out,He.out,Hf.out,HTt.out]);(go_wp2_with fail);go_ret;exact ⟨by rw [HR.out]<;>rfl,by (repeat (first | exact Zm7 _ _ | exact HB.out | refine Below.drew ?_ | refine Below.al ?_ _ | refine Below.sc ?_ _))⟩
                 · skip
                   have hc:=fun W (hb:Below w.heap.size w W)=>Z6w A1 c1 x.attr W (H1.out.new_ hb);simp only [ht] at hc;have HCt:=hid hc;clear hc;(go_wp2_with fail);(with_reducible refine (HCt.out _ (by (repeat (first | exact Zm7 _ _ | exact HB.out | refine Below.drew ?_ | refine Below.al ?_ _ | refine Below.sc ?_ _)))).mono ?_);rintro e w2 ⟨rfl,hb⟩;have hbs:=Below.trans (show Below w1.heap.size w1 _ from (by (repeat (first | exact Zm7 _ _ | refine Below.drew ?_ | refine Below.al ?_ _ | refine Below.sc ?_ _)))) (hb.mono (by simp<;>omega));have Kx:=hid (Kx.out.new_ hbs);have HB:=hid (HB.out.trans (hbs.mono HB.out.size));have hsz2:=hbs.size;clear x0 x1 x2 x3 x4 x5 x6 xz hb hbs;obtain ⟨x0,x1,x2,x3,x4,x5,x6⟩:=Kx.out.c7;have xz:=Kx.out.lt;have HTt:=hid ht;clear ht;cases hu:x.value.all Z16
                   · skip
                     have hc:=fun W (hb:Below w.heap.size w W)=>Z6w A2 c2 x.value W (H2.out.new_ hb);simp only [hu] at hc;have HCu:=hid hc;clear hc;(go_wp2_with fail);(with_reducible refine (HCu.out _ (by (repeat (first | exact Zm7 _ _ | exact HB.out | refine Below.drew ?_ | refine Below.al ?_ _ | refine Below.sc ?_ _)))).mono ?_);rintro e w3 ⟨rfl,hb⟩;have hbs:=Below.trans (show Below w2.heap.size w2 _ from (by (repeat (first | exact Zm7 _ _ | refine Below.drew ?_ | refine Below.al ?_ _ | refine Below.sc ?_ _)))) (hb.mono (by simp<;>omega));have Kx:=hid (Kx.out.new_ hbs);have HB:=hid (HB.out.trans (hbs.mono HB.out.size));have hsz3:=hbs.size;clear x0 x1 x2 x3 x4 x5 x6 xz hb hbs;obtain ⟨x0,x1,x2,x3,x4,x5,x6⟩:=Kx.out.c7;have xz:=Kx.out.lt;have HTu:=hid hu;clear hu;have HR:=hid (show Z0e x deep=9 by simp [Z0e,Hk.out,H12.out,Hc.out,HW.out,HNd.out,He.out,Hf.out,HTt.out,HTu.out]);(go_wp2_with fail);go_ret;exact ⟨by rw [HR.out]<;>rfl,by (repeat (first | exact Zm7 _ _ | exact HB.out | refine Below.drew ?_ | refine Below.al ?_ _ | refine Below.sc ?_ _))⟩
                   · skip
                     have hc:=fun W (hb:Below w.heap.size w W)=>Z6w A2 c2 x.value W (H2.out.new_ hb);simp only [hu] at hc;have HCu:=hid hc;clear hc;(go_wp2_with fail);(with_reducible refine (HCu.out _ (by (repeat (first | exact Zm7 _ _ | exact HB.out | refine Below.drew ?_ | refine Below.al ?_ _ | refine Below.sc ?_ _)))).mono ?_);rintro e w3 ⟨rfl,hb⟩;have hbs:=Below.trans (show Below w2.heap.size w2 _ from (by (repeat (first | exact Zm7 _ _ | refine Below.drew ?_ | refine Below.al ?_ _ | refine Below.sc ?_ _)))) (hb.mono (by simp<;>omega));have Kx:=hid (Kx.out.new_ hbs);have HB:=hid (HB.out.trans (hbs.mono HB.out.size));have hsz3:=hbs.size;clear x0 x1 x2 x3 x4 x5 x6 xz hb hbs;obtain ⟨x0,x1,x2,x3,x4,x5,x6⟩:=Kx.out.c7;have xz:=Kx.out.lt;have HTu:=hid hu;clear hu;have HR:=hid (show Z0e x deep=0 by simp [Z0e,Hk.out,H12.out,Hc.out,HW.out,HNd.out,He.out,Hf.out,HTt.out,HTu.out]);(go_wp2_with fail);go_ret;exact ⟨by rw [HR.out]<;>rfl,by (repeat (first | exact Zm7 _ _ | exact HB.out | refine Below.drew ?_ | refine Below.al ?_ _ | refine Below.sc ?_ _))⟩
end
section
open Go.RowKit Go.Shelf
def Z1i:Int→List (Nat×Z08)→Int×Int
 | _,[]=>(-1,0)
 | n,c :: r=>if Z0e c.2 c.1≠0 then (n,Z0e c.2 c.1) else Z1i (n+1) r
theorem Z7a : ∀(n:Int) (a b:List (Nat×Z08)),(Z1i n a).2=0→Z1i n (a++b)=Z1i (n+(a.length:Nat)) b
 | n,[],b,_=>by simp
 | n,c :: a,b,h=>by
   rw [Zn2,Z1i];rw [Z1i] at h;by_cases hc:Z0e c.2 c.1≠0
   · rw [if_pos hc] at h;exact absurd h hc
   · rw [if_neg hc] at h
     rw [if_neg hc,Z7a (n+1) a b h,Zmp];congr 1;omega
theorem Z8e : ∀(n:Int) (a b:List (Nat×Z08)),(Z1i n a).2≠0→Z1i n (a++b)=Z1i n a
 | n,[],b,h=>absurd rfl h
 | n,c :: a,b,h=>by
   rw [Zn2,Z1i,Z1i];rw [Z1i] at h;by_cases hc:Z0e c.2 c.1≠0
   · rw [if_pos hc,if_pos hc]
   · rw [if_neg hc] at h
     rw [if_neg hc,if_neg hc,Z8e (n+1) a b h]
theorem Z7n : ∀(n:Int) (l:List (Nat×Z08)),Z1i n l=(match l.findIdx? (fun c=>decide (Z0e c.2 c.1≠0)) with
 | some k=>(n+k,((l[k]?).map fun c=>Z0e c.2 c.1).getD 0)
 | none=>(-1,0))
 | n,[]=>rfl
 | n,c :: r=>by
   rw [Z1i,List.findIdx?_cons];by_cases hc:Z0e c.2 c.1≠0
   · rw [if_pos hc,if_pos (Zmb hc)];simp
   · rw [if_neg hc,if_neg (by simpa using hc),Z7n (n+1) r]
     cases r.findIdx? (fun c=>decide (Z0e c.2 c.1≠0)) with
     | none=>rfl
     | some k=>simp only [Zmo,Zmf];congr 1;push_cast;omega
theorem Z79 {D:Nat→Prop} {w:World} {A:Option Addr} {c:Nat} {l:List Z08} (h:RowR (Z05 0) D w A c l):l = []:=by
 cases l with
 | nil=>rfl
 | cons x l=>
   obtain ⟨b,off,cs,_,_,_,hr,_⟩:=h.at_ (k:=0) (by simp);exact hr.elim
theorem Z8f (n d:Nat) (l:List Z08) (i:Nat) (hi:i<l.length):Z0h (n+1) d l=Z0h (n+1) d (l.take i)++((d,l[i]) :: Z0h n (d+1) l[i].conds++Z0h (n+1) d (l.drop (i+1))):=by
 rw [← Zn6,← Z42 n d l i hi]
 conv=>lhs;rw [← List.take_append_drop (i+1) l]
 rw [Z1q,Z1q,Z1q,Zmq]
theorem Z83 : ∀(n:Nat) (D:Nat→Prop) (A:Option Addr) (c:Nat) (d:Nat) (l:List Z08) (w:World),RowR (Z05 n) D w A c l→(Z0h n d l).length≤1000000→
 Calls Tryz.prog 78 #[.slice A l.length c] w fun e w'=>e = .returned (.int .i64 ((Z0h n d l).length:Nat))∧w=w':=by
 intro n
 induction n with
 | zero=>
   intro D A c d l w h _;obtain rfl:=Z79 h;clear h;have HR:=hid (show (((Z0h 0 d []).length:Nat):Int)=0 from rfl);go_enter Tryz.func78,Tryz.ntmps78;go_wp2_with fail
   go_loopw [3,4] (fun a s wr=>s = .int .i64 0∧a = .int .i64 0∧wr=w) (fun a s wr=>0)
   case atStart=>exact ⟨rfl,rfl,rfl⟩
   case round=>
    obtain ⟨rfl,rfl,rfl⟩:=hrel;(go_wp2_with fail);go_ret;exact ⟨by rw [HR.out];rfl,rfl⟩
 | succ n ih=>
   intro D A c d l w h hle;have IH:=hid ih;have H:=hid h;have hlc:=h.cap;obtain ⟨tot,htot⟩ : ∃tot,tot=(Z0h (n+1) d l).length:=⟨_,rfl⟩;rw [← htot] at hle ⊢;have HT:=hid htot;clear h ih htot;go_enter Tryz.func78,Tryz.ntmps78;go_wp2_with fail
   go_loopw [3,4] (fun a s wr=>∃i m:Nat,s = .int .i64 i∧i≤l.length∧a = .int .i64 (m:Int)∧m=(Z0h (n+1) d (l.take i)).length∧wr=w) (fun a s wr=>l.length - (intOf s).toNat)
   case atStart=>exact ⟨0,0,rfl,Nat.zero_le _,rfl,by simp [Z0h],rfl⟩
   case round=>
    obtain ⟨i,m,rfl,hi,rfl,hm,rfl⟩:=hrel;have HM:=hid hm;clear hm;by_cases hlt:i<l.length
    · obtain ⟨x,hx⟩ : ∃x,x=l[i]:=⟨_,rfl⟩
      obtain ⟨mi,hmi⟩ : ∃mi,mi=(Z0h n (d+1) x.conds).length:=⟨_,rfl⟩;have hall:=Z8f n d l i hlt;have hsn:=Z42 n d l i hlt;rw [← hx] at hall hsn;have HM1:=hid (show m+(1+mi)=(Z0h (n+1) d (l.take (i+1))).length by rw [hsn,Zmd,Zmp,← HM.out,← hmi];omega)
      have hmt:m+(1+mi)≤tot:=by
       rw [HT.out,hall,Zmd,Zmd,Zmp,← HM.out,← hmi];omega
      obtain ⟨g,off,A1,c1,A2,c2,A3,c3,rfl,_,hgs,q0,q1,q2,q3,q4,q5,q6,r1,r2,r3⟩:=Z1n H.out hlt;rw [← hx] at q6 r3;have hn3:=r3.cap
      have HCL:=hid (show Calls Tryz.prog 78 #[.slice A3 x.conds.length c3] wr fun e w'=>e = .returned (.int .i64 (mi:Int))∧wr=w' by
       have:=IH.out D A3 c3 (d+1) x.conds wr r3 (by omega);rw [hmi]
       exact this)
      (have b1:(0:Int)≤(i:Int):=by omega);(have b2:(i:Int)<(l.length:Int):=by omega);have v3:IntKind.i64.wrap (1+(mi:Int))=1+(mi:Int):=Zmh _ (by omega);have v4:IntKind.i64.wrap ((m:Int)+(1+(mi:Int)))=(m:Int)+(1+(mi:Int)):=Zmh _ (by omega);clear hx hmi hall hsn r1 r2 r3 q0 q1 q2 q3 q4 q5;(go_wp2_with fail);refine HCL.out.mono ?_;rintro e w2 ⟨rfl,rfl⟩;(go_wp2_with fail);go_roundw
      case rel=>exact ⟨i+1,m+(1+mi),by go_num,by omega,by push_cast;rfl,HM1.out,by trivial⟩
      case measure=>simp [intOf]<;>omega
    · have hie:i=l.length:=by omega
      subst hie;have HR:=hid (show m=tot by rw [HM.out,HT.out,Zmt]);(go_wp2_with fail);go_ret;exact ⟨by rw [HR.out];rfl,rfl⟩
theorem Zi0 : ∀(n:Nat) (D:Nat→Prop) (A:Option Addr) (c:Nat) (d:Nat) (k:Nat) (l:List Z08) (w:World),RowR (Z05 n) D w A c l→k+(Z0h n d l).length≤1000000→d+n≤1000000→
 Calls Tryz.prog 126 #[.slice A l.length c,.int .i64 (k:Int),.int .i64 (d:Int)] w fun e w'=>e = .returned (.tuple #[.int .i64 (Z1i k (Z0h n d l)).1,.int .i64 (Z1i k (Z0h n d l)).2])∧Below w.heap.size w w':=by
 intro n
 induction n with
 | zero=>
   intro D A c d k l w h _ _;obtain rfl:=Z79 h;clear h;have HR:=hid (show Z1i k (Z0h 0 d [])=(-1,0) from rfl);go_enter Tryz.func126,Tryz.ntmps126;go_wp2_with fail
   go_loopw [1,8] (fun a s wr=>s = .int .i64 0∧a = .int .i64 (k:Int)∧wr=w) (fun a s wr=>0)
   case atStart=>exact ⟨rfl,rfl,rfl⟩
   case round=>
    obtain ⟨rfl,rfl,rfl⟩:=hrel;(go_wp2_with fail);exact bodyPost_ret (v:=.tuple #[.int .i64 (-1),.int .i64 0]) (by simp [results,Tryz.results126,go_sem, *]) rfl ⟨by rw [HR.out],Zm7 _ _⟩
 | succ n ih=>
   intro D A c d k l w h hle hdn;have IH:=hid ih;have H:=hid h;have hlc:=h.cap;obtain ⟨fl,hfl⟩ : ∃fl,fl=Z0h (n+1) d l:=⟨_,rfl⟩;rw [← hfl] at hle ⊢;have HT:=hid hfl;clear h ih hfl;go_enter Tryz.func126,Tryz.ntmps126;go_wp2_with fail
   go_loopw [1,8] (fun a s wr=>∃i m:Nat,s = .int .i64 i∧i≤l.length∧a = .int .i64 (m:Int)∧m=k+(Z0h (n+1) d (l.take i)).length∧(Z1i k (Z0h (n+1) d (l.take i))).2=0∧Below w.heap.size w wr) (fun a s wr=>l.length - (intOf s).toNat)
   case atStart=>exact ⟨0,k,rfl,Nat.zero_le _,rfl,by simp [Z0h],by simp [Z0h,Z1i],Zm7 _ _⟩
   case round=>
    obtain ⟨i,m,rfl,hi,rfl,hm,hz,hB⟩:=hrel;have HM:=hid hm;have HZ:=hid hz;have HB:=hid hB;clear hm hz hB;by_cases hlt:i<l.length
    · obtain ⟨x,hx⟩ : ∃x,x=l[i]:=⟨_,rfl⟩
      obtain ⟨fi,hfi⟩ : ∃fi,fi=Z0h n (d+1) x.conds:=⟨_,rfl⟩;have hall:=Z8f n d l i hlt;have hsn:=Z42 n d l i hlt;rw [← hx,← hfi] at hall hsn
      have hmt:m+(1+fi.length)≤k+fl.length:=by
       rw [HT.out,hall,Zmd,Zmd,Zmp,HM.out];omega
      have HM1:=hid (show m+(1+fi.length)=k+(Z0h (n+1) d (l.take (i+1))).length by rw [hsn,Zmd,Zmp,HM.out];omega)
      have HFL:=hid (show ∀r,Z1i m ((d,x) :: fi)=r→r.2≠0→Z1i k fl=r by
       intro r h1 h2
       rw [HT.out,hall,Z7a _ _ _ HZ.out,show (k:Int)+((Z0h (n+1) d (l.take i)).length:Nat)=(m:Nat) by rw [HM.out];push_cast;rfl,Z8e _ _ _ (by rw [h1];exact h2),h1])
      have HZ1:=hid (show (Z1i m ((d,x) :: fi)).2=0→(Z1i k (Z0h (n+1) d (l.take (i+1)))).2=0 by
       intro h1
       rw [hsn,Z7a _ _ _ HZ.out,show (k:Int)+((Z0h (n+1) d (l.take i)).length:Nat)=(m:Nat) by rw [HM.out];push_cast;rfl,h1])
      obtain ⟨g,off,A1,c1,A2,c2,A3,c3,rfl,_,hgs,q0,q1,q2,q3,q4,q5,q6,r1,r2,r3⟩:=Z1n (H.out.new_ HB.out) hlt;rw [← hx] at q0 q1 q2 q3 q4 q5 q6 r1 r2 r3;have hn3:=r3.cap;have HR1:=hid r1;have HR2:=hid r2;have HR3:=hid r3
      have HCL:=hid (show ∀W,Below wr.heap.size wr W→Calls Tryz.prog 126 #[.slice A3 x.conds.length c3,.int .i64 ((m:Int)+1),.int .i64 ((d:Int)+1)] W fun e w'=>e = .returned (.tuple #[.int .i64 (Z1i ((m:Int)+1) fi).1,.int .i64 (Z1i ((m:Int)+1) fi).2])∧Below W.heap.size W w' by
       intro W hb;have:=IH.out D A3 c3 (d+1) (m+1) x.conds W (HR3.out.new_ hb) (by rw [← hfi];omega) (by omega);rw [← hfi] at this
       exact this)
      have HSZ:=hid (show ∀W,Below wr.heap.size wr W→Calls Tryz.prog 78 #[.slice A3 x.conds.length c3] W fun e w'=>e = .returned (.int .i64 (fi.length:Nat))∧W=w' by
       intro W hb;have:=Z83 n D A3 c3 (d+1) x.conds W (HR3.out.new_ hb) (by rw [← hfi];omega);rw [hfi]
       exact this)
      have HCE:=hid (show Z1i m ((d,x) :: fi)=if Z0e x d≠0 then ((m:Int),Z0e x d) else Z1i ((m:Int)+1) fi from rfl);(have b1:(0:Int)≤(i:Int):=by omega);(have b2:(i:Int)<(l.length:Int):=by omega);have v1:IntKind.i64.wrap ((m:Int)+1)=(m:Int)+1:=Zmh _ (by omega);have v2:IntKind.i64.wrap ((d:Int)+1)=(d:Int)+1:=Zmh _ (by omega);have v3:IntKind.i64.wrap (1+(fi.length:Int))=1+(fi.length:Int):=Zmh _ (by omega);have v4:IntKind.i64.wrap ((m:Int)+(1+(fi.length:Int)))=(m:Int)+(1+(fi.length:Int)):=Zmh _ (by omega);have hzr:=HB.out.size;clear hx hfi hall hsn r1 r2 r3;obtain ⟨e1,he1⟩ : ∃e1,e1=Z0e x d:=⟨_,rfl⟩;rw [← he1] at HCE;have HE1:=hid he1;clear he1;(go_wp2_with fail);refine (Zjv x d A1 A2 A3 c1 c2 c3 wr HR1.out HR2.out hn3).mono ?_;rintro e w2 ⟨rfl,hb⟩;rw [← HE1.out];have HB2:=hid hb;have q6':=(hb.cell (p:=⟨g,off+i*7+6,none⟩) hgs).trans q6;have hgs2:g<w2.heap.size:=Zma hgs hb.size;clear hb q0 q1 q2 q3 q4 q5 q6;by_cases hz1:e1=0
      · have t1:(e1 != 0)=false:=by simp [hz1]
        (have t2:(e1 == 0)=true:=by simp [hz1]);have HC2:=hid (show Z1i m ((d,x) :: fi)=Z1i ((m:Int)+1) fi by rw [HCE.out,if_neg (by simpa using hz1)]);clear hz1;(go_wp2_with fail);refine (HCL.out w2 HB2.out).mono ?_;rintro e w3 ⟨rfl,hb⟩;obtain ⟨⟨r1,r2⟩,hr⟩ : ∃r,r=Z1i ((m:Int)+1) fi:=⟨_,rfl⟩;rw [← hr] at HC2 ⊢;have HB3:=hid (HB2.out.trans (hb.mono HB2.out.size));have q7:=(hb.cell (p:=⟨g,off+i*7+6,none⟩) hgs2).trans q6';have hgs3:g<w3.heap.size:=Zma hgs2 hb.size;clear hb hr q6';dsimp only;by_cases hz2:r2=0
        · have t3:(r2 != 0)=false:=by simp [hz2]
          (have t4:(r2 == 0)=true:=by simp [hz2]);have HZ2:=hid (HZ1.out (by rw [HC2.out];exact hz2));clear hz2;(go_wp2_with fail);refine (HSZ.out w3 HB3.out).mono ?_;rintro e w0 ⟨rfl,rfl⟩;(go_wp2_with fail);go_roundw
          case rel=>exact ⟨i+1,m+(1+fi.length),by go_num,by omega,by push_cast;rfl,HM1.out,HZ2.out,HB.out.trans (HB3.out.mono hzr)⟩
          case measure=>simp [intOf]<;>omega
        · have t3:(r2 != 0)=true:=by simp [hz2]
          (have t4:(r2 == 0)=false:=by simp [hz2]);have HF:=hid (HFL.out _ HC2.out hz2);clear hz2;(go_wp2_with fail);exact bodyPost_ret (v:=.tuple #[.int .i64 r1,.int .i64 r2]) (by simp [results,Tryz.results126,go_sem, *]) rfl ⟨by rw [HF.out],HB.out.trans (HB3.out.mono hzr)⟩
      · have t1:(e1 != 0)=true:=by simp [hz1]
        (have t2:(e1 == 0)=false:=by simp [hz1]);have HF:=hid (HFL.out ((m:Int),e1) (by rw [HCE.out,if_pos hz1]) hz1);clear hz1;(go_wp2_with fail);exact bodyPost_ret (v:=.tuple #[.int .i64 (m:Int),.int .i64 e1]) (by simp [results,Tryz.results126,go_sem, *]) rfl ⟨by rw [HF.out],HB.out.trans (HB2.out.mono hzr)⟩
    · have hie:i=l.length:=by omega
      subst hie
      have HF:=hid (show Z1i k fl=(-1,0) by
       have h1:=HZ.out;rw [Zmt,← HT.out] at h1
       have : ∀(n:Int) (l:List (Nat×Z08)),(Z1i n l).2=0→Z1i n l=(-1,0):=by
        intro n l
        induction l generalizing n with
        | nil=>intro _;rfl
        | cons c l ih=>
          intro h;rw [Z1i] at h ⊢;by_cases hc:Z0e c.2 c.1≠0
          · rw [if_pos hc] at h;exact absurd h hc
          · rw [if_neg hc] at h ⊢;exact ih _ h
       exact this _ _ h1)
      (go_wp2_with fail);exact bodyPost_ret (v:=.tuple #[.int .i64 (-1),.int .i64 0]) (by simp [results,Tryz.results126,go_sem, *]) rfl ⟨by rw [HF.out],HB.out⟩
end
section
open Go.RowKit Go.Shelf
attribute [local go_sem] Oper.semAt_some
theorem Zca {n:Nat} {p:Z3y} {F:List (Nat×Z08)} (hF:F=Z0h n 0 p.conds) (hw:Z15 p.name=true) (h : ¬(F.length<1∨16<F.length∨p.acts.length<1∨16<p.acts.length)) :
 Z1m n p=if (Z1i 0 F).2≠0 then Z1i 0 F else match p.acts.findIdx? (fun a=>!actB a) with
  | some i=>(F.length+i,9)
  | none=>(-1,0):=by
 unfold Z1m;rw [← hF,if_neg (by rw [hw];simp),if_neg h,Z7n]
 cases hfi:F.findIdx? (fun c=>decide (Z0e c.2 c.1≠0)) with
 | none=>
   simp;cases p.acts.findIdx? (fun a=>!actB a)<;>rfl
 | some k=>
   obtain ⟨hk,h1,_⟩:=List.findIdx?_eq_some_iff_getElem.1 hfi;(have h1':Z0e F[k].2 F[k].1≠0:=by simpa using h1);simp [Zmc hk,h1']
theorem Zep {D:Nat→Prop} {w:World} {A:Option Addr} {c i:Nat} {l:List ActT} (h:RowR Z19 D w A c l) (hi:i<l.length) : ∃g off,A=some ⟨g,off,none⟩∧D g∧g<w.heap.size∧w.rangeAt g (off+i*19) (ActT.cells l[i]):=by
 obtain ⟨g,off,cs,e1,hd,hg,hr,hc⟩:=h.at_ hi;have hr2:cs=ActT.cells l[i]:=hr;subst hr2;exact ⟨g,off,e1,hd,hg,fun j v hv=>hc j v hv⟩
theorem Zi6 {D:Nat→Prop} (p:Z3y) (n:Nat) (A1 A2:Option Addr) (c1 c2:Nat) (w:World) (h1:RowR (Z05 n) D w A1 c1 p.conds) (h2:RowR Z19 D w A2 c2 p.acts) (hF:(Z0h n 0 p.conds).length≤1000000) (hn:n≤1000000) :
 Calls Tryz.prog 76 #[.agg #[.string p.name,.slice A1 p.conds.length c1,.slice A2 p.acts.length c2]] w fun e w'=>e = .returned (.tuple #[.int .i64 (Z1m n p).1,.int .i64 (Z1m n p).2])∧Below w.heap.size w w':=by
 have H1:=hid h1;have H2:=hid h2;have hl2:=h2.cap;have hl1:=h1.cap;clear h1 h2;obtain ⟨F,hFd⟩ : ∃F,F=Z0h n 0 p.conds:=⟨_,rfl⟩;have HFD:=hid hFd;rw [← hFd] at hF;clear hFd
 have HSZ:=hid (show ∀W,Below w.heap.size w W→Calls Tryz.prog 78 #[.slice A1 p.conds.length c1] W fun e w'=>e = .returned (.int .i64 (F.length:Nat))∧W=w' by
  intro W hb;have:=Z83 n D A1 c1 0 p.conds W (H1.out.new_ hb) (by rw [← HFD.out];omega);rw [← HFD.out] at this
  exact this)
 have HCN:=hid (show ∀W,Below w.heap.size w W→Calls Tryz.prog 126 #[.slice A1 p.conds.length c1,.int .i64 0,.int .i64 0] W fun e w'=>e = .returned (.tuple #[.int .i64 (Z1i 0 F).1,.int .i64 (Z1i 0 F).2])∧Below W.heap.size W w' by
  intro W hb;have:=Zi0 n D A1 c1 0 0 p.conds W (H1.out.new_ hb) (by rw [← HFD.out];omega) (by omega);rw [← HFD.out] at this
  exact this)
 have HBAD:=hid (show Z15 p.name=true→(F.length<1∨16<F.length∨p.acts.length<1∨16<p.acts.length)→Z1m n p=(-1,7) by
  intro hw h;unfold Z1m
  rw [if_neg (by rw [hw];simp),← HFD.out,if_pos h])
 go_enter Tryz.func76,Tryz.ntmps76;(go_upto_region 1 with fail);obtain ⟨w1,hw1⟩ : ∃w1,w1=(w.alloc (.cells #[.string p.name,.slice A1 p.conds.length c1,.slice A2 p.acts.length c2] 25)):=⟨_,rfl⟩;rw [← hw1];have HB:=hid (show Below w.heap.size w w1 by rw [hw1];exact (by repeat (first | exact Zm7 _ _ | refine Below.drew ?_ | refine Below.al ?_ _ | refine Below.sc ?_ _)));have Kp:=hid (show Blk w1 (w.heap.size) 25 #[.string p.name,.slice A1 p.conds.length c1,.slice A2 p.acts.length c2] by rw [hw1];exact (Blk.new w 25 #[.string p.name,.slice A1 p.conds.length c1,.slice A2 p.acts.length c2]));clear hw1;obtain ⟨p0,p1,p2⟩:=Kp.out.c3;have pz:=Kp.out.lt;cases hw:Z15 p.name
 · skip
   have hc:=fun W=>Z41 p.name W;simp only [hw] at hc;have HC:=hid hc;clear hc;(go_wp2_with fail);(with_reducible refine (HC.out _).mono ?_);rintro e w0 ⟨rfl,rfl⟩;have HR:=hid (show Z1m n p=(-1,2) by unfold Z1m;rw [if_pos hw]);clear hw;(go_wp2_with fail);exact bodyPost_ret (v:=.tuple #[.int .i64 (-1),.int .i64 2]) (by simp [results,Tryz.results76,go_sem, *]) rfl ⟨by rw [HR.out],by (repeat (first | exact Zm7 _ _ | exact HB.out | refine Below.drew ?_ | refine Below.al ?_ _ | refine Below.sc ?_ _))⟩
 · skip
   have hc:=fun W=>Z41 p.name W;simp only [hw] at hc;have HC:=hid hc;clear hc;(go_wp2_with fail);(with_reducible refine (HC.out _).mono ?_);rintro e w0 ⟨rfl,rfl⟩;have HW:=hid hw;clear hw;(go_wp2_with fail);(with_reducible refine (HSZ.out _ (by (repeat (first | exact Zm7 _ _ | exact HB.out | refine Below.drew ?_ | refine Below.al ?_ _ | refine Below.sc ?_ _)))).mono ?_);rintro e w0 ⟨rfl,rfl⟩;by_cases ha:F.length<1
   · skip
     have aa:decide ((F.length:Int)<1)=true:=Zmb (by omega);have ab:decide (F.length<1)=true:=Zmb (by omega);have HR:=hid (HBAD.out HW.out (by omega));(have hzz:F.length=0:=by omega);have HZZ:=hid hzz;clear hzz;clear ha;(go_wp2_with fail);exact bodyPost_ret (v:=.tuple #[.int .i64 (-1),.int .i64 7]) (by simp [results,Tryz.results76,go_sem, *]) rfl ⟨by rw [HR.out],by (repeat (first | exact Zm7 _ _ | exact HB.out | refine Below.drew ?_ | refine Below.al ?_ _ | refine Below.sc ?_ _))⟩
   · skip
     have aa:decide ((F.length:Int)<1)=false:=Zm9 (by omega);have ab:decide (F.length<1)=false:=Zm9 (by omega);have Ha:=hid ha;clear ha;by_cases hb:16<F.length
     · skip
       have ba:decide ((16:Int)<(F.length:Int))=true:=Zmb (by omega);have bb:decide (16<F.length)=true:=Zmb (by omega);have HR:=hid (HBAD.out HW.out (by omega));clear hb;(go_wp2_with fail);exact bodyPost_ret (v:=.tuple #[.int .i64 (-1),.int .i64 7]) (by simp [results,Tryz.results76,go_sem, *]) rfl ⟨by rw [HR.out],by (repeat (first | exact Zm7 _ _ | exact HB.out | refine Below.drew ?_ | refine Below.al ?_ _ | refine Below.sc ?_ _))⟩
     · skip
       have ba:decide ((16:Int)<(F.length:Int))=false:=Zm9 (by omega);have bb:decide (16<F.length)=false:=Zm9 (by omega);have Hb:=hid hb;clear hb;by_cases hc:p.acts.length<1
       · skip
         have ca:decide ((p.acts.length:Int)<1)=true:=Zmb (by omega);have cb:decide (p.acts.length<1)=true:=Zmb (by omega);have HR:=hid (HBAD.out HW.out (by omega));(have hzz:p.acts.length=0:=by omega);have HZZ:=hid hzz;clear hzz;clear hc;(go_wp2_with fail);exact bodyPost_ret (v:=.tuple #[.int .i64 (-1),.int .i64 7]) (by simp [results,Tryz.results76,go_sem, *]) rfl ⟨by rw [HR.out],by (repeat (first | exact Zm7 _ _ | exact HB.out | refine Below.drew ?_ | refine Below.al ?_ _ | refine Below.sc ?_ _))⟩
       · skip
         have ca:decide ((p.acts.length:Int)<1)=false:=Zm9 (by omega);have cb:decide (p.acts.length<1)=false:=Zm9 (by omega);have Hc:=hid hc;clear hc;by_cases hd:16<p.acts.length
         · skip
           have da:decide ((16:Int)<(p.acts.length:Int))=true:=Zmb (by omega);have db:decide (16<p.acts.length)=true:=Zmb (by omega);have HR:=hid (HBAD.out HW.out (by omega));clear hd;(go_wp2_with fail);exact bodyPost_ret (v:=.tuple #[.int .i64 (-1),.int .i64 7]) (by simp [results,Tryz.results76,go_sem, *]) rfl ⟨by rw [HR.out],by (repeat (first | exact Zm7 _ _ | exact HB.out | refine Below.drew ?_ | refine Below.al ?_ _ | refine Below.sc ?_ _))⟩
         · skip
           have da:decide ((16:Int)<(p.acts.length:Int))=false:=Zm9 (by omega);have db:decide (16<p.acts.length)=false:=Zm9 (by omega);have Hd:=hid hd;clear hd;have HS:=hid (Zca HFD.out HW.out (by have:=Ha.out;have:=Hb.out;have:=Hc.out;have:=Hd.out;omega));(go_wp2_with fail);(with_reducible refine (HCN.out _ (by (repeat (first | exact Zm7 _ _ | exact HB.out | refine Below.drew ?_ | refine Below.al ?_ _ | refine Below.sc ?_ _)))).mono ?_);rintro e w2 ⟨rfl,hb⟩;have hbs:=Below.trans (show Below w1.heap.size w1 _ from (by (repeat (first | exact Zm7 _ _ | refine Below.drew ?_ | refine Below.al ?_ _ | refine Below.sc ?_ _)))) (hb.mono (by simp<;>omega));have Kp:=hid (Kp.out.new_ hbs);have HB:=hid (HB.out.trans (hbs.mono HB.out.size));have hsz2:=hbs.size;clear p0 p1 p2 pz hb hbs;obtain ⟨p0,p1,p2⟩:=Kp.out.c3;have pz:=Kp.out.lt;obtain ⟨⟨r1,r2⟩,hr⟩ : ∃r,r=Z1i 0 F:=⟨_,rfl⟩;rw [← hr];have HRR:=hid hr;clear hr;dsimp only;by_cases hz:r2=0
           · skip
             (have z0:(r2 != 0)=false:=by simp [hz]);have z1:(r2 == 0)=true:=by simp [hz]
             have HQ:=hid (show Z1m n p=match p.acts.findIdx? (fun a=>!actB a) with | some i=>(F.length+i,9) | none=>(-1,0) by
              rw [HS.out,← HRR.out]
              rw [if_neg (by simp [hz])])
             have HZ:=hid hz;clear hz;(go_wp2_with fail);clear p0 p1 p2 pz
             go_loopw [7] (fun s wr=>∃i:Nat,s = .int .i64 i∧i≤p.acts.length∧(∀k,(h:k<p.acts.length)→k<i→actB p.acts[k]=true)∧Below w.heap.size w wr∧Blk wr (w.heap.size) 25 #[.string p.name,.slice A1 p.conds.length c1,.slice A2 p.acts.length c2]) (fun s wr=>p.acts.length - (intOf s).toNat)
             case atStart=>exact ⟨0,rfl,Nat.zero_le _,fun k _ h=>absurd h (by omega),HB.out,Kp.out⟩
             case round=>
              obtain ⟨i,rfl,hi,hall,hB,hK⟩:=hrel;have HALL:=hid hall;have HB:=hid hB;have Kp:=hid hK;clear hall hB hK;obtain ⟨p0,p1,p2⟩:=Kp.out.c3;have pz:=Kp.out.lt;by_cases hlt:i<p.acts.length
              · skip
                obtain ⟨y,hy⟩ : ∃y,y=p.acts[i]:=⟨_,rfl⟩;obtain ⟨g,off,rfl,_,hg,hrg⟩:=Zep (H2.out.new_ HB.out) hlt;rw [← hy] at hrg;have HRG:=hid (show wr.rangeAt g (off+i*19) [.string y.id,.string y.attr.var,.int .i64 y.attr.sym.kind,.string y.attr.sym.text,.int .i64 y.attr.sym.n,.int .i64 y.value.op,.string y.value.a.var,.int .i64 y.value.a.sym.kind,.string y.value.a.sym.text,.int .i64 y.value.a.sym.n,.string y.value.b.var,.int .i64 y.value.b.sym.kind,.string y.value.b.sym.text,.int .i64 y.value.b.sym.n,.int .i64 y.pref,.string y.other.var,.int .i64 y.other.sym.kind,.string y.other.sym.text,.int .i64 y.other.sym.n] from hrg);have HY:=hid hy;(have b1:(0:Int)≤(i:Int):=by omega);(have b2:(i:Int)<(p.acts.length:Int):=by omega);have v1:IntKind.i64.wrap ((F.length:Int)+(i:Int))=(F.length:Int)+(i:Int):=Zmh _ (by have:=Hd.out;omega);clear hy hrg;cases hab:actB y
                · skip
                  have hc:=fun W=>Zhy y W;simp only [hab] at hc;have HC:=hid hc;clear hc;(go_wp2_with (with_reducible refine wpList_load_mid rfl 96 _ rfl g (off+i*19) rfl _ _ HRG.out Tryz.underlying96 rfl (by kernel_rfl) ?_));(with_reducible refine (HC.out _).mono ?_);rintro e w3 ⟨rfl,hb⟩;have hbs:=Below.trans (show Below wr.heap.size wr _ from (by (repeat (first | exact Zm7 _ _ | refine Below.drew ?_ | refine Below.al ?_ _ | refine Below.sc ?_ _)))) (hb.mono (by simp<;>omega));have Kp:=hid (Kp.out.new_ hbs);have HB:=hid (HB.out.trans (hbs.mono HB.out.size));have hsz3:=hbs.size;clear p0 p1 p2 pz hb hbs;obtain ⟨p0,p1,p2⟩:=Kp.out.c3;have pz:=Kp.out.lt
                  have HR:=hid (show Z1m n p=((F.length:Int)+(i:Nat),9) by
                   have hfi:p.acts.findIdx? (fun a=>!actB a)=some i:=by
                    rw [List.findIdx?_eq_some_iff_getElem];exact ⟨hlt,by rw [← HY.out,hab];rfl,fun j hj=>by rw [HALL.out j (by omega) hj];simp⟩
                   rw [HQ.out,hfi])
                  clear hab;(go_wp2_with fail);exact bodyPost_ret (v:=.tuple #[.int .i64 ((F.length:Int)+(i:Int)),.int .i64 9]) (by simp [results,Tryz.results76,go_sem, *]) rfl ⟨by rw [HR.out],by (repeat (first | exact Zm7 _ _ | exact HB.out | refine Below.drew ?_ | refine Below.al ?_ _ | refine Below.sc ?_ _))⟩
                · skip
                  have hc:=fun W=>Zhy y W;simp only [hab] at hc;have HC:=hid hc;clear hc;(go_wp2_with (with_reducible refine wpList_load_mid rfl 96 _ rfl g (off+i*19) rfl _ _ HRG.out Tryz.underlying96 rfl (by kernel_rfl) ?_));(with_reducible refine (HC.out _).mono ?_);rintro e w3 ⟨rfl,hb⟩;have hbs:=Below.trans (show Below wr.heap.size wr _ from (by (repeat (first | exact Zm7 _ _ | refine Below.drew ?_ | refine Below.al ?_ _ | refine Below.sc ?_ _)))) (hb.mono (by simp<;>omega));have Kp:=hid (Kp.out.new_ hbs);have HB:=hid (HB.out.trans (hbs.mono HB.out.size));have hsz3:=hbs.size;clear p0 p1 p2 pz hb hbs;obtain ⟨p0,p1,p2⟩:=Kp.out.c3;have pz:=Kp.out.lt;have HCB:=hid hab;clear hab;(go_wp2_with fail);go_roundw
                  case rel=>exact ⟨i+1,by go_num,by omega,fun k hk hki=>by
                   by_cases e:k=i
                   · subst e;rw [← HY.out];exact HCB.out
                   · exact HALL.out k hk (by omega),HB.out,Kp.out⟩
                  case measure=>simp [intOf]<;>omega
              · skip
                (have hie:i=p.acts.length:=by omega);subst hie
                have HR:=hid (show Z1m n p=(-1,0) by
                 have hfi:p.acts.findIdx? (fun a=>!actB a)=none:=by
                  rw [List.findIdx?_eq_none_iff];intro x hx;obtain ⟨k,hk,rfl⟩:=List.getElem_of_mem hx;rw [HALL.out k hk hk];rfl
                 rw [HQ.out,hfi])
                (go_wp2_with fail);exact bodyPost_ret (v:=.tuple #[.int .i64 (-1),.int .i64 0]) (by simp [results,Tryz.results76,go_sem, *]) rfl ⟨by rw [HR.out],by (repeat (first | exact Zm7 _ _ | exact HB.out | refine Below.drew ?_ | refine Below.al ?_ _ | refine Below.sc ?_ _))⟩
           · skip
             (have z0:(r2 != 0)=true:=by simp [hz]);have z1:(r2 == 0)=false:=by simp [hz]
             have HR:=hid (show Z1m n p=(r1,r2) by
              rw [HS.out,← HRR.out]
              rw [if_pos (by simpa using hz)])
             clear hz;(go_wp2_with fail);exact bodyPost_ret (v:=.tuple #[.int .i64 r1,.int .i64 r2]) (by simp [results,Tryz.results76,go_sem, *]) rfl ⟨by rw [HR.out],by (repeat (first | exact Zm7 _ _ | exact HB.out | refine Below.drew ?_ | refine Below.al ?_ _ | refine Below.sc ?_ _))⟩
theorem Zgw {x:Z08} {d:Nat} (h:Z0e x d=0) (hk : ¬x.kind=3):x.conds = []∧x.attr.length≤4∧x.value.length≤4∧∀t∈x.attr++x.value,Z16 t=true:=by
 unfold Z0e at h;rw [if_neg hk] at h
 split at h
 · split at h
   · exact absurd h (by decide)
   · rename_i h1
     split at h
     · exact absurd h (by decide)
     · rename_i h2
       split at h
       · exact absurd h (by decide)
       · rename_i h3
         simp only [Bool.not_eq_false,Zmy,Zne] at h3;refine ⟨Zn3.1 (by omega),by omega,by omega,fun t ht=>?_⟩;rcases Znh.1 ht with ht | ht
         · exact h3.1 t ht
         · exact h3.2 t ht
 · exact absurd h (by decide)
def Zcj (r:Bool×Int×Kn) (k n m:Nat) (w:World) (e:Ending) (w':World):Prop:=
 ∃A c out kk,e = .returned (.tuple #[.slice A out.length c,.int .i64 kk,.bool r.1])∧Below w.heap.size w w'∧(r.1=true→KRel r.2.2 out∧RowR Z5z (fun _=>True) w' A c out∧out.length≤n+9*m∧r.2.1=((k+m:Nat):Int))∧(r.1=false→kk=r.2.1)
theorem Zi4 : ∀(n:Nat) (D:Nat→Prop) (Al A:Option Addr) (cl c:Nat) (d k:Nat) (K:Kn) (known:List ByteArray) (l:List Z08) (w:World),RowR (Z05 n) D w Al cl l→RowR Z5z (fun _=>True) w A c known→KRel K known→
 (∀z∈Z0h n d l,Z0e z.2 z.1=0)→k+(Z0h n d l).length≤1000→known.length+9*(Z0h n d l).length≤50000→
 Calls Tryz.prog 77 #[.slice Al l.length cl,.int .i64 (k:Int),.slice A known.length c] w (Zcj (Z1g n K l k) k known.length (Z0h n d l).length w):=by
 intro n
 induction n with
 | zero=>
   intro D Al A cl c d k K known l w h hs hk _ _ _;obtain rfl:=Z79 h;clear h;have HS:=hid hs;have HK:=hid hk;have HR:=hid (show Z1g 0 K [] (k:Int)=(true,(k:Int),K) from Z5p 0 K _);have HF0:=hid (show (Z0h 0 d []).length=0 from rfl);clear hs hk;go_enter Tryz.func77,Tryz.ntmps77;go_wp2_with fail
   go_loopw [1,2,9] (fun a b s wr=>s = .int .i64 0∧a = .int .i64 (k:Int)∧b = .slice A known.length c∧wr=w) (fun a b s wr=>0)
   case atStart=>exact ⟨rfl,rfl,rfl,rfl⟩
   case round=>
    obtain ⟨rfl,rfl,rfl,rfl⟩:=hrel;(go_wp2_with fail);exact bodyPost_ret (v:=.tuple #[.slice A known.length c,.int .i64 (-1),.bool true]) (by simp [results,Tryz.results77,go_sem, *]) rfl ⟨A,c,known,-1,by rw [HR.out],Zm7 _ _,fun _=>⟨by rw [HR.out];exact HK.out,HS.out,by omega,by rw [HR.out,HF0.out];rfl⟩,fun h=>absurd h (by rw [HR.out];simp)⟩
 | succ n ih=>
   intro D Al A cl c d k K known l w h hs hk hgood hle hlk;have IH:=hid ih;have H:=hid h;have HS:=hid hs;have HK:=hid hk;have HGOOD:=hid hgood;have hlc:=h.cap;obtain ⟨tot,htot⟩ : ∃tot,tot=(Z0h (n+1) d l).length:=⟨_,rfl⟩;rw [← htot] at hle hlk ⊢;have HT:=hid htot;obtain ⟨r,hr⟩ : ∃r,r=Z1g (n+1) K l (k:Int):=⟨_,rfl⟩;rw [← hr];have HR:=hid hr;clear h ih hs hk hgood htot hr;go_enter Tryz.func77,Tryz.ntmps77;go_wp2_with fail
   go_loopw [1,2,9] (fun a b s wr=>∃(i m:Nat) (Ao:Option Addr) (co:Nat) (o:List ByteArray) (K':Kn),s = .int .i64 i∧i≤l.length∧a = .int .i64 ((k+m:Nat):Int)∧b = .slice Ao o.length co∧m=(Z0h (n+1) d (l.take i)).length∧r=Z1g (n+1) K' (l.drop i) ((k+m:Nat):Int)∧KRel K' o∧RowR Z5z (fun _=>True) wr Ao co o∧o.length≤known.length+9*m∧Below w.heap.size w wr) (fun a b s wr=>l.length - (intOf s).toNat)
   case atStart=>exact ⟨0,0,A,c,known,K,rfl,Nat.zero_le _,rfl,rfl,by simp [Z0h],by rw [List.drop_zero];exact HR.out,HK.out,HS.out,by omega,Zm7 _ _⟩
   case round=>
    obtain ⟨i,m,Ao,co,o,K',rfl,hi,rfl,rfl,hm,hrr,hkr,hro,hol,hB⟩:=hrel;have HM:=hid hm;have HRR:=hid hrr;have HKR:=hid hkr;have HRO:=hid hro;have HB:=hid hB;clear hm hrr hkr hro hB;obtain ⟨q,hq⟩ : ∃q,q=k+m:=⟨_,rfl⟩;rw [← hq] at HRR ⊢;by_cases hlt:i<l.length
    · obtain ⟨x,hx⟩ : ∃x,x=l[i]:=⟨_,rfl⟩
      obtain ⟨fi,hfi⟩ : ∃fi,fi=Z0h n (d+1) x.conds:=⟨_,rfl⟩;have hall:=Z8f n d l i hlt;have hsn:=Z42 n d l i hlt;rw [← hx,← hfi] at hall hsn
      have hmt:m+(1+fi.length)≤tot:=by
       rw [HT.out,hall,Zmd,Zmd,Zmp,HM.out];omega
      have HM1:=hid (show m+(1+fi.length)=(Z0h (n+1) d (l.take (i+1))).length by rw [hsn,Zmd,Zmp,HM.out];omega);have HGX:=hid (show Z0e x d=0 from HGOOD.out (d,x) (by rw [hall];simp));have HGI:=hid (show ∀z∈fi,Z0e z.2 z.1=0 from fun z hz=>HGOOD.out z (by rw [hall];simp [hz]));have HST:=hid (show r=Z1g (n+1) K' (x :: l.drop (i+1)) (q:Int) by rw [HRR.out,Z6k hlt,← hx]);obtain ⟨g,off,A1,c1,A2,c2,A3,c3,rfl,_,hgs,q0,q1,q2,q3,q4,q5,q6,r1,r2,r3⟩:=Z1n (H.out.new_ HB.out) hlt;rw [← hx] at q0 q1 q2 q3 q4 q5 q6 r1 r2 r3;have hn3:=r3.cap;have HR1:=hid r1;have HR2:=hid r2;have HR3:=hid r3
      have HSZ:=hid (show ∀W,Below wr.heap.size wr W→Calls Tryz.prog 78 #[.slice A3 x.conds.length c3] W fun e w'=>e = .returned (.int .i64 (fi.length:Nat))∧W=w' by
       intro W hb;have:=Z83 n D A3 c3 (d+1) x.conds W (HR3.out.new_ hb) (by rw [← hfi];omega);rw [hfi]
       exact this)
      have HFI:=hid hfi;(have b1:(0:Int)≤(i:Int):=by omega);(have b2:(i:Int)<(l.length:Int):=by omega);have v1:IntKind.i64.wrap ((q:Int)+1)=(q:Int)+1:=Zmh _ (by omega);have v3:IntKind.i64.wrap (1+(fi.length:Int))=1+(fi.length:Int):=Zmh _ (by omega);have v4:IntKind.i64.wrap ((q:Int)+(1+(fi.length:Int)))=(q:Int)+(1+(fi.length:Int)):=Zmh _ (by omega);have hzr:=HB.out.size;have HQ:=hid hq;clear hx hfi hall hsn r1 r2 r3 hq;by_cases hk3:x.kind=3
      · have t1:(x.kind == 3)=true:=by simp [hk3]
        (have t2:decide (x.kind=3)=true:=by simp [hk3]);obtain ⟨r',hr'⟩ : ∃r',r'=Z1g n (K'.1,[]) x.conds ((q:Int)+1):=⟨_,rfl⟩
        have HS3:=hid (show r=if r'.1=true then Z1g (n+1) K' (l.drop (i+1)) r'.2.1 else (false,r'.2.1,K') by
         rw [HST.out,Z46,if_pos hk3,hr'];rcases Z1g n (K'.1,[]) x.conds ((q:Int)+1) with ⟨b,a2,k2⟩
         cases b<;>rfl)
        have HCL:=hid (show Calls Tryz.prog 77 #[.slice A3 x.conds.length c3,.int .i64 ((q:Int)+1),.slice Ao o.length co] wr (Zcj r' (q+1) o.length fi.length wr) by
         have:=IH.out D A3 Ao c3 co (d+1) (q+1) (K'.1,[]) o x.conds wr HR3.out HRO.out HKR.out.inner (by rw [← HFI.out];exact HGI.out) (by have hq:=HQ.out;rw [← HFI.out];omega) (by rw [← HFI.out];omega);rw [← HFI.out] at this;rw [hr']
         exact this)
        clear hk3 hr';obtain ⟨ok,a2,k2⟩:=r';(go_wp2_with fail);refine HCL.out.mono ?_;rintro e w2 ⟨A9,c9,o9,kk,rfl,hb,hyes,hno⟩;have HB2:=hid hb;have HY:=hid hyes;have HN:=hid hno;have q6':=(hb.cell (p:=⟨g,off+i*7+6,none⟩) hgs).trans q6;have hgs2:g<w2.heap.size:=Zma hgs hb.size;clear hb hyes hno q0 q1 q2 q3 q4 q5 q6;dsimp only
        cases ok with
        | false=>
          have HF:=hid (show r=(false,kk,K') by rw [HS3.out,HN.out rfl];rfl);(go_wp2_with fail);exact bodyPost_ret (v:=.tuple #[.slice none 0 0,.int .i64 kk,.bool false]) (by simp [results,Tryz.results77,go_sem, *]) rfl ⟨none,0,[],kk,by rw [HF.out];rfl,HB.out.trans (HB2.out.mono hzr),fun h=>absurd h (by rw [HF.out];simp),fun _=>by rw [HF.out]⟩
        | true=>
          have HF:=hid (show r=Z1g (n+1) K' (l.drop (i+1)) ((k+(m+(1+fi.length)):Nat):Int) by
           rw [HS3.out,if_pos rfl];(try dsimp only);have:=(HY.out rfl).2.2.2;try dsimp only at this
           rw [this,show q+1+fi.length=k+(m+(1+fi.length)) by have hq:=HQ.out;omega])
          (go_wp2_with fail);refine (HSZ.out w2 HB2.out).mono ?_;rintro e w0 ⟨rfl,rfl⟩;(go_wp2_with fail);go_roundw
          case rel=>exact ⟨i+1,m+(1+fi.length),Ao,co,o,K',by go_num,by omega,by have hq:=HQ.out;congr 1;push_cast;omega,rfl,HM1.out,HF.out,HKR.out,HRO.out.new_ HB2.out,by omega,HB.out.trans (HB2.out.mono hzr)⟩
          case measure=>simp [intOf]<;>omega
      · have t1:(x.kind == 3)=false:=by simp [hk3]
        (have t2:decide (x.kind=3)=false:=by simp [hk3]);obtain ⟨h0,h4,h5,h6⟩:=Zgw HGX.out hk3;obtain ⟨K0,hK0⟩ : ∃K0,K0=if x.kind=1 then K' else (K'.1,[]):=⟨_,rfl⟩;(have hf0:fi.length=0:=by rw [HFI.out,h0,Z6l];rfl);have HKR0:KRel K0 o:=by rw [hK0];split;exact HKR.out;exact HKR.out.inner
        have HS3:=hid (show r=if (oneK K0 x).1=true then Z1g (n+1) (if x.kind=1 then (oneK K0 x).2 else K') (l.drop (i+1)) ((q:Int)+1) else (false,(q:Int),K') by
         rw [HST.out,Z46,if_neg hk3,← hK0];rcases oneK K0 x with ⟨b,k2⟩
         cases b<;>rfl)
        have HCL:=hid (Zlc x K0 o A1 A2 A3 Ao c1 c2 c3 co wr HR1.out HR2.out HRO.out HKR0 h6 h4 h5 (by omega));have H4:=hid h4;have H5:=hid h5;have HF0:=hid hf0;clear hk3 hK0 h0 h4 h5 h6 hf0 HKR0;(go_wp2_with fail);refine HCL.out.mono ?_;rintro e w2 ⟨A9,c9,o9,rfl,hb,hyes⟩;obtain ⟨⟨ok,k2⟩,ho⟩ : ∃r,r=oneK K0 x:=⟨_,rfl⟩;rw [← ho] at HS3 hyes ⊢;have HB2:=hid hb;have HY:=hid hyes;have q6':=(hb.cell (p:=⟨g,off+i*7+6,none⟩) hgs).trans q6;have q0':=(hb.cell (p:=⟨g,off+i*7,none⟩) hgs).trans q0;have hgs2:g<w2.heap.size:=Zma hgs hb.size;clear hb hyes ho q0 q1 q2 q3 q4 q5 q6;dsimp only
        cases ok with
        | false=>
          have HF:=hid (show r=(false,(q:Int),K') by rw [HS3.out];rfl);(go_wp2_with fail);exact bodyPost_ret (v:=.tuple #[.slice none 0 0,.int .i64 (q:Int),.bool false]) (by simp [results,Tryz.results77,go_sem, *]) rfl ⟨none,0,[],(q:Int),by rw [HF.out];rfl,HB.out.trans (HB2.out.mono hzr),fun h=>absurd h (by rw [HF.out];simp),fun _=>by rw [HF.out]⟩
        | true=>
          by_cases hk1:x.kind=1
          · have t3:(x.kind == 1)=true:=by simp [hk1]
            have t4:decide (x.kind=1)=true:=by simp [hk1]
            have HF:=hid (show r=Z1g (n+1) k2 (l.drop (i+1)) ((k+(m+(1+fi.length)):Nat):Int) by
             rw [HS3.out,if_pos rfl];(try dsimp only);rw [if_pos hk1,show k+(m+(1+fi.length))=q+1 by have:=HF0.out;have hq:=HQ.out;omega]
             rfl)
            clear hk1;(go_wp2_with fail);refine (HSZ.out w2 HB2.out).mono ?_;rintro e w0 ⟨rfl,rfl⟩;(go_wp2_with fail);go_roundw
            case rel=>exact ⟨i+1,m+(1+fi.length),A9,c9,o9,k2,by go_num,by omega,by have hq:=HQ.out;congr 1;push_cast;omega,rfl,HM1.out,HF.out,(HY.out (by trivial)).1,(HY.out (by trivial)).2.1,by have:=(HY.out (by trivial)).2.2;have:=H4.out;have:=H5.out;omega,HB.out.trans (HB2.out.mono hzr)⟩
            case measure=>simp [intOf]<;>omega
          · have t3:(x.kind == 1)=false:=by simp [hk1]
            have t4:decide (x.kind=1)=false:=by simp [hk1]
            have HF:=hid (show r=Z1g (n+1) K' (l.drop (i+1)) ((k+(m+(1+fi.length)):Nat):Int) by
             rw [HS3.out,if_pos rfl];(try dsimp only);rw [if_neg hk1,show k+(m+(1+fi.length))=q+1 by have:=HF0.out;have hq:=HQ.out;omega]
             rfl)
            clear hk1;(go_wp2_with fail);refine (HSZ.out w2 HB2.out).mono ?_;rintro e w0 ⟨rfl,rfl⟩;(go_wp2_with fail);go_roundw
            case rel=>exact ⟨i+1,m+(1+fi.length),Ao,co,o,K',by go_num,by omega,by have hq:=HQ.out;congr 1;push_cast;omega,rfl,HM1.out,HF.out,HKR.out,HRO.out.new_ HB2.out,by omega,HB.out.trans (HB2.out.mono hzr)⟩
            case measure=>simp [intOf]<;>omega
    · have hie:i=l.length:=by omega
      subst hie;have HF:=hid (show r=(true,((k+m:Nat):Int),K') by rw [HRR.out,Zni,Z5p,hq]);have HMT:=hid (show m=tot by rw [HM.out,Zmt,HT.out]);(go_wp2_with fail);exact bodyPost_ret (v:=.tuple #[.slice Ao o.length co,.int .i64 (-1),.bool true]) (by simp [results,Tryz.results77,go_sem, *]) rfl ⟨Ao,co,o,-1,by rw [HF.out],HB.out,fun _=>⟨by rw [HF.out];exact HKR.out,HRO.out,by have:=HMT.out;omega,by rw [HF.out,HMT.out]⟩,fun h=>absurd h (by rw [HF.out];simp)⟩
end
end Go.Proofs.YtfidcfjcmlgkbaaGreat
