/-
  Texts put together: VaryNw1, VaryA, VaryU, VaryB3, VaryB4, VaryB1, VaryB2, VaryA1.
-/
import Derived.Test.YtldndkngpdfpfaaGreatPEp
namespace Go.Proofs.YtldndkngpdfpfaaGreat
open Lib (hid)
set_option maxRecDepth 100000
set_option maxHeartbeats 32000000
section
open Go.RowKit Go.Shelf
attribute [local go_sem] Oper.semAt_some
set_option linter.unusedSimpArgs false
theorem Zcs (s:Sym) (w:World):Calls Tryz.prog 94 #[.agg #[.int .i64 s.kind,.string s.text,.int .i64 s.n]] w fun e w'=>∃b,e = .returned (.bool b)∧Below w.heap.size w w':=by
 go_enter Tryz.func94,Tryz.ntmps94;(go_upto_region 1 with fail);obtain ⟨w1,hw1⟩ : ∃w1,w1=(w.alloc (.cells #[.int .i64 s.kind,.string s.text,.int .i64 s.n] 23)):=⟨_,rfl⟩;rw [← hw1];have HB:=hid (show Below w.heap.size w w1 by rw [hw1];exact (by repeat (first | exact Zi5 _ _ | refine Below.drew ?_ | refine Below.al ?_ _ | refine Below.sc ?_ _)));have Ks:=hid (show Blk w1 (w.heap.size) 23 #[.int .i64 s.kind,.string s.text,.int .i64 s.n] by rw [hw1];exact (Blk.new w 23 #[.int .i64 s.kind,.string s.text,.int .i64 s.n]));clear hw1;obtain ⟨s0,s1,s2⟩:=Ks.out.c3;have sz:=Ks.out.lt;(go_wp2_with fail);(with_reducible refine (Z6r s _).mono ?_);rintro e w2 ⟨rfl,hb⟩;have hbs:=Below.trans (show Below w1.heap.size w1 _ from (by (repeat (first | exact Zi5 _ _ | refine Below.drew ?_ | refine Below.al ?_ _ | refine Below.sc ?_ _)))) (hb.mono (by simp<;>omega));have Ks:=hid (Ks.out.new_ hbs);have HB:=hid (HB.out.trans (hbs.mono HB.out.size));have hsz2:=hbs.size;clear s0 s1 s2 sz hb hbs;obtain ⟨s0,s1,s2⟩:=Ks.out.c3;have sz:=Ks.out.lt;cases hv:Z1v s
 · skip
   (go_wp2_with fail);go_ret;exact ⟨_,rfl,by (repeat (first | exact Zi5 _ _ | exact HB.out | refine Below.drew ?_ | refine Below.al ?_ _ | refine Below.sc ?_ _))⟩
 · skip
   (go_wp2_with fail);go_ret;exact ⟨_,rfl,by (repeat (first | exact Zi5 _ _ | exact HB.out | refine Below.drew ?_ | refine Below.al ?_ _ | refine Below.sc ?_ _))⟩
theorem Zf2 (e:Elem) (w:World):Calls Tryz.prog 59 #[.agg #[.int .i64 e.id.kind,.string e.id.text,.int .i64 e.id.n,.int .i64 e.attr.kind,.string e.attr.text,.int .i64 e.attr.n,.int .i64 e.value.kind,.string e.value.text,.int .i64 e.value.n,.bool e.acc,.bool e.goal,.int .i64 e.tag]] w fun en w'=>∃b,en = .returned (.bool b)∧Below w.heap.size w w':=by
 go_enter Tryz.func59,Tryz.ntmps59;(go_upto_region 1 with fail);obtain ⟨w1,hw1⟩ : ∃w1,w1=(w.alloc (.cells #[.int .i64 e.id.kind,.string e.id.text,.int .i64 e.id.n,.int .i64 e.attr.kind,.string e.attr.text,.int .i64 e.attr.n,.int .i64 e.value.kind,.string e.value.text,.int .i64 e.value.n,.bool e.acc,.bool e.goal,.int .i64 e.tag] 55)):=⟨_,rfl⟩;rw [← hw1];have HB:=hid (show Below w.heap.size w w1 by rw [hw1];exact (by repeat (first | exact Zi5 _ _ | refine Below.drew ?_ | refine Below.al ?_ _ | refine Below.sc ?_ _)));have Ke:=hid (show Blk w1 (w.heap.size) 55 #[.int .i64 e.id.kind,.string e.id.text,.int .i64 e.id.n,.int .i64 e.attr.kind,.string e.attr.text,.int .i64 e.attr.n,.int .i64 e.value.kind,.string e.value.text,.int .i64 e.value.n,.bool e.acc,.bool e.goal,.int .i64 e.tag] by rw [hw1];exact (Blk.new w 55 #[.int .i64 e.id.kind,.string e.id.text,.int .i64 e.id.n,.int .i64 e.attr.kind,.string e.attr.text,.int .i64 e.attr.n,.int .i64 e.value.kind,.string e.value.text,.int .i64 e.value.n,.bool e.acc,.bool e.goal,.int .i64 e.tag]));clear hw1;obtain ⟨e0,e1,e2,e3,e4,e5,e6,e7,e8,e9,e10,e11⟩:=Ke.out.c12;have ez:=Ke.out.lt;(go_wp2_with fail);(with_reducible refine (Z6r e.id _).mono ?_);rintro en w2 ⟨rfl,hb⟩;have hbs:=Below.trans (show Below w1.heap.size w1 _ from (by (repeat (first | exact Zi5 _ _ | refine Below.drew ?_ | refine Below.al ?_ _ | refine Below.sc ?_ _)))) (hb.mono (by simp<;>omega));have Ke:=hid (Ke.out.new_ hbs);have HB:=hid (HB.out.trans (hbs.mono HB.out.size));have hsz2:=hbs.size;clear e0 e1 e2 e3 e4 e5 e6 e7 e8 e9 e10 e11 ez hb hbs;obtain ⟨e0,e1,e2,e3,e4,e5,e6,e7,e8,e9,e10,e11⟩:=Ke.out.c12;have ez:=Ke.out.lt;cases hv:Z1v e.id
 · skip
   (go_wp2_with fail);go_ret;exact ⟨_,rfl,by (repeat (first | exact Zi5 _ _ | exact HB.out | refine Below.drew ?_ | refine Below.al ?_ _ | refine Below.sc ?_ _))⟩
 · skip
   by_cases h2:e.id.kind=1
   · skip
     (have ka:(e.id.kind == 1)=true:=by simp [h2]);(have kb:decide (e.id.kind=1)=true:=by simp [h2]);(go_wp2_with fail);(with_reducible refine (Zcs e.attr _).mono ?_);rintro en w3 ⟨b2,rfl,hb⟩;have hbs:=Below.trans (show Below w2.heap.size w2 _ from (by (repeat (first | exact Zi5 _ _ | refine Below.drew ?_ | refine Below.al ?_ _ | refine Below.sc ?_ _)))) (hb.mono (by simp<;>omega));have Ke:=hid (Ke.out.new_ hbs);have HB:=hid (HB.out.trans (hbs.mono HB.out.size));have hsz3:=hbs.size;clear e0 e1 e2 e3 e4 e5 e6 e7 e8 e9 e10 e11 ez hb hbs;obtain ⟨e0,e1,e2,e3,e4,e5,e6,e7,e8,e9,e10,e11⟩:=Ke.out.c12;have ez:=Ke.out.lt;cases b2
     · skip
       (go_wp2_with fail);go_ret;exact ⟨_,rfl,by (repeat (first | exact Zi5 _ _ | exact HB.out | refine Below.drew ?_ | refine Below.al ?_ _ | refine Below.sc ?_ _))⟩
     · skip
       (go_wp2_with fail);(with_reducible refine (Z6r e.value _).mono ?_);rintro en w4 ⟨rfl,hb⟩;have hbs:=Below.trans (show Below w3.heap.size w3 _ from (by (repeat (first | exact Zi5 _ _ | refine Below.drew ?_ | refine Below.al ?_ _ | refine Below.sc ?_ _)))) (hb.mono (by simp<;>omega));have Ke:=hid (Ke.out.new_ hbs);have HB:=hid (HB.out.trans (hbs.mono HB.out.size));have hsz4:=hbs.size;clear e0 e1 e2 e3 e4 e5 e6 e7 e8 e9 e10 e11 ez hb hbs;obtain ⟨e0,e1,e2,e3,e4,e5,e6,e7,e8,e9,e10,e11⟩:=Ke.out.c12;have ez:=Ke.out.lt;(go_wp2_with fail);go_ret;exact ⟨_,rfl,by (repeat (first | exact Zi5 _ _ | exact HB.out | refine Below.drew ?_ | refine Below.al ?_ _ | refine Below.sc ?_ _))⟩
   · skip
     (have ka:(e.id.kind == 1)=false:=by simp [h2]);(have kb:decide (e.id.kind=1)=false:=by simp [h2]);(go_wp2_with fail);go_ret;exact ⟨_,rfl,by (repeat (first | exact Zi5 _ _ | exact HB.out | refine Below.drew ?_ | refine Below.al ?_ _ | refine Below.sc ?_ _))⟩
theorem Zd4 (A B:Option Addr) (c d:Nat) (l:List Int) (w:World) (hl:Z0k w 1 Int.cells1 A c l) (hm:Z0k w 1 Int.cells1 B d l) :
 Calls Tryz.prog 29 #[.slice A l.length c,.slice B l.length d] w fun e w'=>e = .returned (.bool true)∧Below w.heap.size w w':=by
 have HL:=hid hl;have HM:=hid hm;have hlc:=hl.cap;clear hl hm;(have t1:((l.length:Int) != (l.length:Int))=false:=by simp);go_enter Tryz.func29,Tryz.ntmps29;go_wp2_with fail
 go_loopw [5] (fun s wr=>∃i:Nat,s = .int .i64 i∧i≤l.length∧Below w.heap.size w wr) (fun s wr=>l.length - (intOf s).toNat)
 case atStart=>exact ⟨0,rfl,Nat.zero_le _,Zi5 _ _⟩
 case round=>
  obtain ⟨i,rfl,hi,hB⟩:=hrel;have HB:=hid hB;clear hB;by_cases hlt:i<l.length
  · obtain ⟨x,hx⟩ : ∃x,x=l[i]:=⟨_,rfl⟩
    obtain ⟨g,off,rfl,hgs,hcell⟩:=(HL.out.new_ HB.out).at_ hlt;obtain ⟨g2,off2,rfl,hgs2,hcell2⟩:=(HM.out.new_ HB.out).at_ hlt;rw [← hx] at hcell hcell2;(have q0:wr.cell? ⟨g,off+i,none⟩=some (.int .i64 x):=by simpa using hcell 0 _ rfl);(have p0:wr.cell? ⟨g2,off2+i,none⟩=some (.int .i64 x):=by simpa using hcell2 0 _ rfl);(have b1:(0:Int)≤(i:Int):=by omega);(have b2:(i:Int)<(l.length:Int):=by omega);(have b4:(x != x)=false:=by simp);clear hcell hcell2 hx;(go_wp2_with fail);go_quiet (fail);have HB2:=hid (Below.drewN' HB.out nq);clear q0 p0;(go_wp2_with fail);go_roundw
    case rel=>exact ⟨i+1,by go_num,by omega,HB2.out⟩
    case measure=>simp [intOf]<;>omega
  · obtain rfl:i=l.length:=by omega
    (go_wp2_with fail);go_ret;exact ⟨rfl,HB.out⟩
theorem Z7c:(Tryz.prog.info? 57).map (fun i=>(i.zero,i.size,i.bytes))=some (some (.agg #[.int .i64 0,.string ⟨#[]⟩,.int .i64 0,.int .i64 0,.string ⟨#[]⟩,.int .i64 0,.int .i64 0,.string ⟨#[]⟩,.int .i64 0,.bool false,.bool false,.int .i64 0,.int .i64 0,.int .i64 0]),14,128):=by kernel_rfl
theorem Z7i (l:List Z07) : ∀u∈l.flatMap Z07.cells,u.oneCell'=true:=by
 intro u hu;obtain ⟨b,_,hb⟩:=List.mem_flatMap.1 hu;simp only [Z07.cells,Zil,Zio,or_false] at hb;rcases hb with rfl | rfl | rfl | rfl | rfl | rfl | rfl | rfl | rfl | rfl | rfl | rfl | rfl | rfl<;>rfl
structure RV (X:World) (m:List Z07) (A:Option Addr) (c:Nat) (w:World):Prop where
 own:w.ownsRow 0 57 14 (.slice A m.length c) m.length (m.flatMap Z07.cells)
 ain:AIn A (X.heap.size≤·)
 bel:Below X.heap.size X w
theorem RV.new_ {X w w':World} {m:List Z07} {A:Option Addr} {c:Nat} (h:RV X m A c w) (hb:Below w.heap.size w w'):RV X m A c w':=⟨Z01 h.own hb,h.ain,h.bel.trans (hb.mono h.bel.size)⟩
def Zgx (X:World) (e:Ending) (w':World):Prop:=∃(l:List Z07) (A:Option Addr) (c:Nat),e = .returned (.slice A l.length c)∧l.length≤20∧Z0k w' 14 Z07.cells A c l∧Below X.heap.size X w'
theorem Zfu (es:List Z07) (AE:Option Addr) (cE:Nat) (w:World) (h1:Z0k w 14 Z07.cells AE cE es) (hl:es.length≤20):Calls Tryz.prog 17 #[.slice AE es.length cE] w (Zgx w):=by
 obtain ⟨i0,hi0,hz0,hz1,hz2⟩:=infp Z7c;have H1:=hid h1;have hc1:=h1.cap;have HL:=hid hl;clear h1 hl;go_enter Tryz.func17,Tryz.ntmps17;go_wp2_with fail
 go_loopw [3,4] (fun vm vi wr=>∃(i:Nat) (m:List Z07) (Am:Option Addr) (cm:Nat),vi = .int .i64 (i:Int)∧i≤es.length∧vm = .slice Am m.length cm∧m.length≤i∧RV w m Am cm wr) (fun vm vi wr=>es.length - (intOf vi).toNat)
 case atStart=>exact ⟨0,[],none,0,rfl,Nat.zero_le _,rfl,Zi6 _,⟨by simp,.inl ⟨rfl,rfl⟩⟩,AIn.none_ _,Zi5 _ _⟩
 case round=>
  obtain ⟨i,m,Am,cm,rfl,hi,rfl,hml,ht⟩:=hrel;have HT:=hid ht;have HML:=hid hml;(have hmc:m.length≤20:=by have:=HL.out;omega);clear ht hml;by_cases hlt:i<es.length
  · obtain ⟨y,hy⟩ : ∃y,y=es[i]:=⟨_,rfl⟩
    obtain ⟨g,off,hAA,hgl,hrg⟩:=(H1.out.new_ HT.out.bel).range hlt;rw [← hy] at hrg;subst hAA;have HRG:=hid (show wr.rangeAt g (off+i*14) [.int .i64 y.elem.id.kind,.string y.elem.id.text,.int .i64 y.elem.id.n,.int .i64 y.elem.attr.kind,.string y.elem.attr.text,.int .i64 y.elem.attr.n,.int .i64 y.elem.value.kind,.string y.elem.value.text,.int .i64 y.elem.value.n,.bool y.elem.acc,.bool y.elem.goal,.int .i64 y.elem.tag,.int .i64 y.level,.int .i64 y.cause] from hrg);have HTH:=hid (show (wr.alloc (.cells #[.int .i64 0,.string ⟨#[]⟩,.int .i64 0,.int .i64 0,.string ⟨#[]⟩,.int .i64 0,.int .i64 0,.string ⟨#[]⟩,.int .i64 0,.bool false,.bool false,.int .i64 0,.int .i64 0,.int .i64 0] 57)).there wr.heap.size 0 (#[.int .i64 y.elem.id.kind,.string y.elem.id.text,.int .i64 y.elem.id.n,.int .i64 y.elem.attr.kind,.string y.elem.attr.text,.int .i64 y.elem.attr.n,.int .i64 y.elem.value.kind,.string y.elem.value.text,.int .i64 y.elem.value.n,.bool y.elem.acc,.bool y.elem.goal,.int .i64 y.elem.tag,.int .i64 y.level,.int .i64 y.cause]:Array Value).size from (Blk.new wr 57 #[.int .i64 0,.string ⟨#[]⟩,.int .i64 0,.int .i64 0,.string ⟨#[]⟩,.int .i64 0,.int .i64 0,.string ⟨#[]⟩,.int .i64 0,.bool false,.bool false,.int .i64 0,.int .i64 0,.int .i64 0]).there);obtain ⟨W5,hW5⟩ : ∃W5,W5=(wr.alloc (.cells #[.int .i64 0,.string ⟨#[]⟩,.int .i64 0,.int .i64 0,.string ⟨#[]⟩,.int .i64 0,.int .i64 0,.string ⟨#[]⟩,.int .i64 0,.bool false,.bool false,.int .i64 0,.int .i64 0,.int .i64 0] 57)).setCells wr.heap.size 0 [.int .i64 y.elem.id.kind,.string y.elem.id.text,.int .i64 y.elem.id.n,.int .i64 y.elem.attr.kind,.string y.elem.attr.text,.int .i64 y.elem.attr.n,.int .i64 y.elem.value.kind,.string y.elem.value.text,.int .i64 y.elem.value.n,.bool y.elem.acc,.bool y.elem.goal,.int .i64 y.elem.tag,.int .i64 y.level,.int .i64 y.cause]:=⟨_,rfl⟩;have HW5:=hid hW5;have HK5:=hid (show Blk W5 wr.heap.size 57 #[.int .i64 y.elem.id.kind,.string y.elem.id.text,.int .i64 y.elem.id.n,.int .i64 y.elem.attr.kind,.string y.elem.attr.text,.int .i64 y.elem.attr.n,.int .i64 y.elem.value.kind,.string y.elem.value.text,.int .i64 y.elem.value.n,.bool y.elem.acc,.bool y.elem.goal,.int .i64 y.elem.tag,.int .i64 y.level,.int .i64 y.cause] from Z1e (zs:=[.int .i64 0,.string ⟨#[]⟩,.int .i64 0,.int .i64 0,.string ⟨#[]⟩,.int .i64 0,.int .i64 0,.string ⟨#[]⟩,.int .i64 0,.bool false,.bool false,.int .i64 0,.int .i64 0,.int .i64 0]) (vs:=[.int .i64 y.elem.id.kind,.string y.elem.id.text,.int .i64 y.elem.id.n,.int .i64 y.elem.attr.kind,.string y.elem.attr.text,.int .i64 y.elem.attr.n,.int .i64 y.elem.value.kind,.string y.elem.value.text,.int .i64 y.elem.value.n,.bool y.elem.acc,.bool y.elem.goal,.int .i64 y.elem.tag,.int .i64 y.level,.int .i64 y.cause]) rfl hW5 (by rw [hW5];exact Zi9 _ _ _ _ HTH.out));have HB5:=hid (show Below wr.heap.size wr W5 by rw [hW5];exact Below.setCells' _ _ ((Zi5 _ _).alloc (Zi6 _) _) (Zi6 _));(have j1:(0:Int)≤(i:Int):=by omega);(have j2:(i:Int)<(es.length:Int):=by omega);have v1:IntKind.i64.wrap ((i:Int)+1)=(i:Int)+1:=Zii _ (by have:=HL.out;omega);clear hW5 hrg hy
    go_upto_region 6 with (first
     | (with_reducible refine wpList_load_mid rfl 57 _ rfl g (off+i*14) rfl _ _ HRG.out Tryz.underlying57 rfl (by kernel_rfl) ?_)
     | ((with_reducible refine wpList_store_mid rfl 57 _ _ rfl wr.heap.size 0 #[.int .i64 y.elem.id.kind,.string y.elem.id.text,.int .i64 y.elem.id.n,.int .i64 y.elem.attr.kind,.string y.elem.attr.text,.int .i64 y.elem.attr.n,.int .i64 y.elem.value.kind,.string y.elem.value.text,.int .i64 y.elem.value.n,.bool y.elem.acc,.bool y.elem.goal,.int .i64 y.elem.tag,.int .i64 y.level,.int .i64 y.cause] rfl rfl HTH.out (by kernel_rfl) (by kernel_rfl) ?_);rw [← HW5.out]))
    obtain ⟨bx,hbx⟩ : ∃b,b=wr.heap.size:=⟨_,rfl⟩;rw [← hbx] at HK5 ⊢;have HBXE:=hid hbx;clear hbx;have k11:=(HK5.out.cell 11).trans rfl;have f11:=HK5.out.frozen 11;have kz:=HK5.out.lt;(go_upto_region 7 with fail);obtain ⟨W6,hW6⟩ : ∃W,W=W5.setCell ⟨bx,11,none⟩ (.int .i64 ((i:Int)+1)):=⟨_,rfl⟩;have HK6:=hid (show Blk W6 bx 57 #[.int .i64 y.elem.id.kind,.string y.elem.id.text,.int .i64 y.elem.id.n,.int .i64 y.elem.attr.kind,.string y.elem.attr.text,.int .i64 y.elem.attr.n,.int .i64 y.elem.value.kind,.string y.elem.value.text,.int .i64 y.elem.value.n,.bool y.elem.acc,.bool y.elem.goal,.int .i64 ((i:Int)+1),.int .i64 y.level,.int .i64 y.cause] by rw [hW6];have:=HK5.out.set_ 11 (.int .i64 ((i:Int)+1));simpa using this);have HB6:=hid (show Below wr.heap.size wr W6 by rw [hW6];exact Below.sc HB5.out _ (by have:=HBXE.out;show wr.heap.size≤bx;omega));rw [← hW6];have HRX:=hid (show W6.rangeAt bx 0 [.int .i64 y.elem.id.kind,.string y.elem.id.text,.int .i64 y.elem.id.n,.int .i64 y.elem.attr.kind,.string y.elem.attr.text,.int .i64 y.elem.attr.n,.int .i64 y.elem.value.kind,.string y.elem.value.text,.int .i64 y.elem.value.n,.bool y.elem.acc,.bool y.elem.goal,.int .i64 ((i:Int)+1)] from Z4t (m:=[.int .i64 y.level,.int .i64 y.cause]) HK6.out.range);clear hW6 k11 f11 kz;(go_wp2_with (with_reducible refine wpList_load_mid rfl 55 _ rfl bx 0 rfl _ _ HRX.out Tryz.underlying55 rfl (by kernel_rfl) ?_));refine (Zf2 { y.elem with tag:=(i:Int)+1 } _).mono ?_;rintro e w7 ⟨b,rfl,hb7⟩;have HK7:=hid (HK6.out.new_ hb7);have HB7:=hid (HB6.out.trans (hb7.mono HB6.out.size));have HT7:=hid (HT.out.new_ HB7.out);clear hb7;cases b
    · go_wp2_with fail
      go_roundw
      case rel=>exact ⟨i+1,m,Am,cm,by go_num,by omega,rfl,by have:=HML.out;omega,HT7.out⟩
      case measure=>simp [intOf]<;>omega
    · have HRY:=hid (show w7.rangeAt bx 0 [.int .i64 y.elem.id.kind,.string y.elem.id.text,.int .i64 y.elem.id.n,.int .i64 y.elem.attr.kind,.string y.elem.attr.text,.int .i64 y.elem.attr.n,.int .i64 y.elem.value.kind,.string y.elem.value.text,.int .i64 y.elem.value.n,.bool y.elem.acc,.bool y.elem.goal,.int .i64 ((i:Int)+1),.int .i64 y.level,.int .i64 y.cause] from HK7.out.range)
      obtain ⟨y2,hy2⟩ : ∃y2:Z07,y2=⟨{ y.elem with tag:=(i:Int)+1 },y.level,y.cause⟩:=⟨_,rfl⟩;have HC2:=hid (show [y2].flatMap Z07.cells = [.int .i64 y.elem.id.kind,.string y.elem.id.text,.int .i64 y.elem.id.n,.int .i64 y.elem.attr.kind,.string y.elem.attr.text,.int .i64 y.elem.attr.n,.int .i64 y.elem.value.kind,.string y.elem.value.text,.int .i64 y.elem.value.n,.bool y.elem.acc,.bool y.elem.goal,.int .i64 ((i:Int)+1),.int .i64 y.level,.int .i64 y.cause] by rw [hy2];rfl);obtain ⟨W8,hW8⟩ : ∃W,W=w7.alloc (.cells #[.int .i64 y.elem.id.kind,.string y.elem.id.text,.int .i64 y.elem.id.n,.int .i64 y.elem.attr.kind,.string y.elem.attr.text,.int .i64 y.elem.attr.n,.int .i64 y.elem.value.kind,.string y.elem.value.text,.int .i64 y.elem.value.n,.bool y.elem.acc,.bool y.elem.goal,.int .i64 ((i:Int)+1),.int .i64 y.level,.int .i64 y.cause] 57):=⟨_,rfl⟩;have HW8:=hid hW8;(have hb8:Below w7.heap.size w7 W8:=by rw [hW8];exact (Zi5 _ _).alloc (Zi6 _) _);have HT8:=hid (HT7.out.new_ hb8);have HN8:=hid (show 0<1→∃ad,(some (⟨w7.heap.size,0,none⟩:Addr))=some ad∧∀j u,([y2].flatMap Z07.cells)[j]? = some u→W8.cell? (ad.add j)=some u from fun _=>⟨_,rfl,by rw [HC2.out,hW8];exact Zij (heap_alloc_new _ _)⟩);clear hy2 hW8 hb8
      go_wp2_with (first
       | (with_reducible refine wpList_load_mid rfl 57 _ rfl bx 0 rfl _ _ HRY.out Tryz.underlying57 rfl (by kernel_rfl) ?_)
       | (at_builtin;rw [← HW8.out];refine Z02 W8 rfl (.tmp 23) (.tmp 25) 27 rfl 57 i0 _ 14 128 Tryz.underlying27 hi0 hz0 hz1 hz2 rfl (by omega) (.slice Am m.length cm) m.length (m.flatMap Z07.cells) rfl HT8.out.own (some ⟨w7.heap.size,0,none⟩) 1 1 ([y2].flatMap Z07.cells) rfl rfl HN8.out (Z7i _) (by unfold maxLen;omega) (by omega) ?_;intro v3 w9 hown1 hg1 hnil1 hat1;obtain ⟨A9,c9,rfl,hO9,hA9,hb9⟩:=Z8o (B:=w.heap.size) hown1 hg1 hat1 HT8.out.ain HT8.out.bel.size;obtain ⟨mn,hmn⟩ : ∃mn,mn=m ++ [y2]:=⟨_,rfl⟩;have hkk:m.length+1=mn.length:=(by rw [hmn];simp);rw [← Zin,← hmn,hkk] at hO9;rw [hkk];have hmi:mn.length≤i+1:=(by have:=HML.out;omega);have HMI:=hid hmi;have HT9:=hid (show RV w mn A9 c9 w9 from ⟨hO9,hA9,HT8.out.bel.trans hb9⟩);clear hown1 hg1 hnil1 hat1 hO9 hA9 hb9 hkk hmn hmi))
      go_roundw
      case rel=>exact ⟨i+1,mn,A9,c9,by go_num,by omega,rfl,HMI.out,HT9.out⟩
      case measure=>simp [intOf]<;>omega
  · obtain rfl:i=es.length:=by omega
    (have jz : ¬(es.length:Int)<(es.length:Int):=by omega);(go_wp2_with fail);go_ret;exact ⟨m,Am,cm,rfl,by omega,Z0a Z07.cells_length HT.out.own,HT.out.bel⟩
theorem Z87 {P:Program} {fn:Func} {t s:Tmp} {T T2:TypeId} (h:fn.results = #[.cell t T,.cell s T2]) (tmps:Array Value) (w:World) (g g2:Nat) (cs cs2:List Value) (d d2:TypeDesc) (ht:tmps.getD t undef = .pointer (some ⟨g,0,none⟩)) (hs:tmps.getD s undef = .pointer (some ⟨g2,0,none⟩)) (hc:w.rangeAt g 0 cs) (hc2:w.rangeAt g2 0 cs2)
 (hu:P.underlying T=some d) (hd:d.isRow=true) (hi:(P.info? T).map (·.size)=some cs.length) (hu2:P.underlying T2=some d2) (hd2:d2.isRow=true) (hi2:(P.info? T2).map (·.size)=some cs2.length):(results fn tmps).run P w = .ok (.tuple #[.agg cs.toArray,.agg cs2.toArray]) w:=by
 have hl:=run_loadVar_mid (P:=P) w g 0 T cs d hc hu hd hi;have hl2:=run_loadVar_mid (P:=P) w g2 0 T2 cs2 d2 hc2 hu2 hd2 hi2;(have ht':tmps[t]?.getD undef = .pointer (some ⟨g,0,none⟩):=by simpa using ht);(have hs':tmps[s]?.getD undef = .pointer (some ⟨g2,0,none⟩):=by simpa using hs);simp [results,h,ht',hs',asAddr,hl,hl2]
end
section
def Z3a (es:List Elem) (s:Sym):Bool:=es.any fun e=>decide (e.id=s)
def simT (u t:Z0t):Bool:=decide (u.rel=t.rel) && (decide (u.var=t.var) && decide (u.sym=t.sym))
def addT (t:Z0t) (vs:List Z0t):List Z0t:=if (vs.any fun u=>simT u t)=true then vs else vs ++ [t]
def metV (es:List Elem) (k:Nat) (s:Sym):Bool:=(es.take (k+1)).any fun e=>decide (e.id=s) || decide (e.value=s)
def Z3w (ns:List Sym) (s:Sym):Bool:=decide (s.kind=1) && decide (plV ns s=0)
def Z2w (ns:List Sym) (es:List Elem) (s:Sym):Bool:=decide (s.kind=1) && (!decide (plV ns s=0) && !Z3a es s)
def Z48 (a b v:Sym):Option Sym:=if v=b then some a else if v=a then some b else none
def twoF (all:List Elem) (a b:Sym):Nat→List Elem→Option (Nat×Sym)
 | _,[]=>none
 | k,e :: l=>match Z48 a b e.value with
   | some o=>if metV all k o=true then some (k,o) else twoF all a b (k+1) l
   | none=>twoF all a b (k+1) l
def oneF (id:Sym):Nat→List Elem→Option Nat
 | _,[]=>none
 | k,e :: l=>if e.value=id then some k else oneF id (k+1) l
def putT (vss:List (List Z0t)) (k:Nat) (t:Z0t):List (List Z0t):=vss.modify k (addT t)
def oneV (es:List Elem) (id c:Sym) (vss:List (List Z0t)):List (List Z0t):=match oneF id 0 es with
 | none=>vss
 | some k=>putT vss k ⟨2,⟨#[]⟩,c,[]⟩
def twoV (ns:List Sym) (es:List Elem) (x:Z0l) (vss:List (List Z0t)):Option (List (List Z0t)):=match twoF es x.a x.b 0 es with
 | none=>none
 | some (k,o)=>some (putT vss k (Z1h ns x.rel o))
def Z2b (ns:List Sym) (es:List Elem) (x:Z0l) (vss:List (List Z0t)):Option (List (List Z0t)):=
 if x.rel=7∧(Z2w ns es x.a=true∧Z3w ns x.b=true∨Z2w ns es x.b=true∧Z3w ns x.a=true) then none
 else if Z3w ns x.a=true∨Z3w ns x.b=true then some vss
 else if x.a.kind=1∧x.b.kind=1 then
  if x.a=x.b∨x.rel≠2∧(x.rel≠7∨Z3a es x.a=true∧Z3a es x.b=true) then some vss else twoV ns es x vss
 else if x.rel≠2 then some vss
 else if Z2w ns es x.a=true then some (oneV es x.a x.b vss)
 else if Z2w ns es x.b=true then some (oneV es x.b x.a vss)
 else some vss
def Z1s (ns:List Sym) (es:List Elem):List Z0l→List (List Z0t)→Option (List (List Z0t))
 | [],vss=>some vss
 | x :: l,vss=>match Z2b ns es x vss with
   | none=>none
   | some v=>Z1s ns es l v
def Z4q (ns:List Sym) (e:Elem) (vs:List Z0t):Z0h:=.mk 1 e.goal (Z2k e.id (plV ns e.id)) [⟨1,⟨#[]⟩,e.attr,[]⟩] vs e.acc []
def vs0 (ns:List Sym) (e:Elem):List Z0t:=[Z1h ns 1 e.value]
def Z3t (m:Nat) (name:ByteArray) (es:List Elem) (as_:List Z0l) (old:Sym→Bool) (news:List Sym) (l:List Z1a):Option (Z3o×List Int):=
 match Z2p es with
 | none=>none
 | some (o,ns)=>if o = [] then none else if (news.any fun s=>!decide (plV ns s=0))=true then none
   else match Z1s ns o as_ (o.map (vs0 ns)) with
    | none=>none
    | some vss=>Z5n m name (List.zipWith (Z4q ns) o vss) (o.map Elem.tag) old ns l
def upS (d:Int) (s:Sym):Sym:=if s.kind=1 then ⟨s.kind,s.text,s.n+d⟩ else s
theorem Z2u (d:Int) (s:Sym):(upS d s).kind=s.kind:=by unfold upS;split<;>rfl
theorem Zg0 (d:Int) (s:Sym):(upS d s).text=s.text:=by unfold upS;split<;>rfl
theorem Z5a {d:Int} {s:Sym} (h:s.kind≠1):upS d s=s:=by unfold upS;rw [if_neg h]
theorem Z5r {d:Int} {s t:Sym}:upS d s=upS d t↔s=t:=by
 refine ⟨fun h=>?_,fun h=>by rw [h]⟩;(have hk:s.kind=t.kind:=by rw [← Z2u d s,← Z2u d t,h]);unfold upS at h;by_cases h1:s.kind=1
 · rw [if_pos h1,if_pos (by omega)] at h
   cases s;cases t;simp only [Sym.mk.injEq] at h ⊢;exact ⟨h.1,h.2.1,by omega⟩
 · rw [if_neg h1,if_neg (by omega)] at h
   exact h
def upE (d:Int) (e:Elem):Elem:={ e with id:=upS d e.id,value:=upS d e.value }
def upA (d:Int) (x:Z0l):Z0l:={ x with a:=upS d x.a,b:=upS d x.b }
def upP (d:Int) (p:Z1a):Z1a:={ p with id:=upS d p.id,value:=upS d p.value,other:=upS d p.other }
section
variable (d:Int)
theorem Z74 (ns:List Sym) (s:Sym):plV (ns.map (upS d)) (upS d s)=plV ns s:=by
 induction ns with
 | nil=>rfl
 | cons x l ih=>simp only [List.map_cons,plV,Z5r,ih]
theorem Zaj (s:Sym) (n:Int):Z2k (upS d s) n=Z2k s n:=by
 (have h:letV (upS d s)=letV s:=by unfold letV;rw [Z2u,Zg0]);unfold Z2k;rw [h]
theorem Zee (ns:List Sym) (r:Int) (s:Sym):Z1h (ns.map (upS d)) r (upS d s)=Z1h ns r s:=by
 unfold Z1h;rw [Z2u,Zaj,Z74];by_cases h:s.kind=1
 · rw [if_pos h,if_pos h]
 · rw [if_neg h,if_neg h,Z5a h]
theorem Zec (ns:List Sym) (s:Sym):putN (ns.map (upS d)) (upS d s)=(putN ns s).map (upS d):=by
 unfold putN;rw [Z74]
 split
 · rw [Zik];rfl
 · rfl
theorem Zea (ns:List Sym) (e:Elem):Z3d (ns.map (upS d)) (upE d e)=(Z3d ns e).map (upS d):=by
 unfold Z3d upE;simp only [Z2u,Zec]
 split<;>rfl
theorem Zhg (ns:List Sym) (s:Sym):rkN (ns.map (upS d)) (upS d s)=rkN ns s:=by unfold rkN;rw [Z2u,Z74]
theorem Zi4 (ns:List Sym) (s:Sym):idN (ns.map (upS d)) (upS d s)=idN ns s:=by unfold idN;rw [Z74,Zim]
theorem Zg2 (ns:List Sym) (a b:Elem):Z3p (ns.map (upS d)) (upE d a) (upE d b)=Z3p ns a b:=by
 rw [Z7n,Z7n]
 have hk : ∀s,keyS (ns.map (upS d)) (upS d s)=keyS ns s:=fun s=>by
  unfold keyS;rw [Zhg]
  split
  · rename_i h
    refine Z5a (fun h1=>?_);unfold rkN at h;rw [if_neg (fun h2=>h2 h1)] at h
    split at h<;>cases h
  · rfl
 (have hp : ∀s,keyP (ns.map (upS d)) (upS d s)=keyP ns s:=fun s=>by unfold keyP;rw [Zhg,Z74]);unfold Zao upE;simp only [Zi4,Zhg,hk,hp]
theorem Ze8 (ns:List Sym) (l:List Elem) : ∀i,Z2i (ns.map (upS d)) (l.map (upE d)) i=Z2i ns l i
 | 0=>rfl
 | i+1=>by
   have hc : ∀e,canN (ns.map (upS d)) (upE d e)=canN ns e:=fun e=>by
    unfold canN;rw [show (upE d e).id=upS d e.id from rfl,Z74];rfl
   (have ha : ∀a b,Z4k (ns.map (upS d)) (upE d a) (upE d b)=Z4k ns a b:=fun a b=>by unfold Z4k;rw [Zg2]);rw [Z2i,Z2i,Ze8 ns l i,List.getElem?_map]
   cases l[i]? with
   | none=>rfl
   | some e=>
     simp only [Zif,hc]
     split
     · cases Z2i ns l i with
       | none=>rfl
       | some k=>
         simp only [List.getElem?_map]
         cases l[k]? with
         | none=>rfl
         | some b=>simp only [Zif,ha]
     · rfl
theorem Zbd : ∀(l:List Elem) (k:Nat),(l.map (upE d)).eraseIdx k=(l.eraseIdx k).map (upE d)
 | [],_=>rfl
 | x :: l,0=>rfl
 | x :: l,k+1=>by rw [List.map_cons,List.eraseIdx_cons_succ,List.eraseIdx_cons_succ,List.map_cons,Zbd l k]
theorem Ze9 : ∀(f:Nat) (ns:List Sym) (l out:List Elem),Z4i f (ns.map (upS d)) (l.map (upE d)) (out.map (upE d))=(Z4i f ns l out).map fun x=>(x.1.map (upE d),x.2.map (upS d))
 | 0,_,_,_=>rfl
 | f+1,ns,l,out=>by
   rw [Z4i,Z4i];by_cases h:l = []
   · subst h;rfl
   · rw [if_neg h,if_neg (by simpa using h)]
     unfold Z9r;rw [Zim,Ze8]
     cases Z2i ns l l.length with
     | none=>rfl
     | some k=>
       simp only [List.getElem?_map]
       cases l[k]? with
       | none=>rfl
       | some e=>
         simp only [Zif];rw [Zea,Zbd,show out.map (upE d) ++ [upE d e]=(out ++ [e]).map (upE d) by simp,Ze9 f]
theorem Zg5 (l:List Elem):Z2p (l.map (upE d))=(Z2p l).map fun x=>(x.1.map (upE d),x.2.map (upS d)):=by
 unfold Z2p;rw [Zim];exact Ze9 d l.length [] l []
theorem Zed (es:List Elem) (s:Sym):Z3a (es.map (upE d)) (upS d s)=Z3a es s:=by
 unfold Z3a;rw [List.any_map];congr 1;funext e;simp [upE,Z5r]
theorem Zhz (es:List Elem) (k:Nat) (s:Sym):metV (es.map (upE d)) k (upS d s)=metV es k s:=by
 unfold metV;rw [← List.map_take,List.any_map];congr 1;funext e;simp [upE,Z5r]
theorem Zhe (ns:List Sym) (s:Sym):Z3w (ns.map (upS d)) (upS d s)=Z3w ns s:=by unfold Z3w;rw [Z2u,Z74]
theorem Zg4 (ns:List Sym) (es:List Elem) (s:Sym):Z2w (ns.map (upS d)) (es.map (upE d)) (upS d s)=Z2w ns es s:=by unfold Z2w;rw [Z2u,Z74,Zed]
theorem Zg6 (a b v:Sym):Z48 (upS d a) (upS d b) (upS d v)=(Z48 a b v).map (upS d):=by
 unfold Z48;simp only [Z5r]
 split
 · rfl
 · split<;>rfl
theorem Zak (all:List Elem) (a b:Sym) : ∀(k:Nat) (l:List Elem),twoF (all.map (upE d)) (upS d a) (upS d b) k (l.map (upE d))=(twoF all a b k l).map fun x=>(x.1,upS d x.2)
 | _,[]=>rfl
 | k,e :: l=>by
   rw [List.map_cons,twoF,twoF,show (upE d e).value=upS d e.value from rfl,Zg6]
   cases Z48 a b e.value with
   | none=>exact Zak all a b (k+1) l
   | some o=>
     simp only [Zif,Zhz]
     split
     · rfl
     · exact Zak all a b (k+1) l
theorem Zeb (id:Sym) : ∀(k:Nat) (l:List Elem),oneF (upS d id) k (l.map (upE d))=oneF id k l
 | _,[]=>rfl
 | k,e :: l=>by
   rw [List.map_cons,oneF,oneF,show (upE d e).value=upS d e.value from rfl];simp only [Z5r,Zeb id (k+1) l]
theorem Zgs (es:List Elem) (id c:Sym) (vss:List (List Z0t)) (hc:c.kind≠1):oneV (es.map (upE d)) (upS d id) (upS d c) vss=oneV es id c vss:=by
 unfold oneV;rw [Zeb,Z5a hc]
theorem Zg3 (ns:List Sym) (es:List Elem) (x:Z0l) (vss:List (List Z0t)):Z2b (ns.map (upS d)) (es.map (upE d)) (upA d x) vss=Z2b ns es x vss:=by
 unfold Z2b;simp only [upA,Zg4,Zhe,Zed,Z2u,Z5r]
 split
 · rfl
 · split
   · rfl
   · split
     · split
       · rfl
       · unfold twoV
         simp only [Zak]
         cases twoF es x.a x.b 0 es with
         | none=>rfl
         | some y=>simp only [Zif,Zee]
     · rename_i h
       split
       · rfl
       · split
         · rename_i h2
           rw [Zgs];intro hb;refine h ⟨?_,hb⟩;unfold Z2w at h2;simp only [Ziu,Zjc] at h2;exact h2.1
         · split
           · rename_i h2
             rw [Zgs];intro hb;refine h ⟨hb,?_⟩;unfold Z2w at h2;simp only [Ziu,Zjc] at h2;exact h2.1
           · rfl
theorem Z9g (ns:List Sym) (es:List Elem) : ∀(l:List Z0l) (vss:List (List Z0t)),Z1s (ns.map (upS d)) (es.map (upE d)) (l.map (upA d)) vss=Z1s ns es l vss
 | [],_=>rfl
 | x :: l,vss=>by
   rw [List.map_cons,Z1s,Z1s,Zg3]
   cases Z2b ns es x vss with
   | none=>rfl
   | some v=>exact Z9g ns es l v
theorem Zah (ns:List Sym) (s:Sym):Z32 (fun _=>false) (ns.map (upS d)) (upS d s)=(Z32 (fun _=>false) ns s).map fun x=>(x.1,x.2.map (upS d)):=by
 unfold Z32;rw [Z2u];by_cases h:s.kind≠1
 · rw [if_pos h,if_pos h,Z5a h];rfl
 · rw [if_neg h,if_neg h,if_neg (by simp),if_neg (by simp),Zec,Z74,Zaj];rfl
theorem Zhy (ns:List Sym) (p:Z1a):Z44 (fun _=>false) (ns.map (upS d)) (upP d p)=(Z44 (fun _=>false) ns p).map fun x=>(x.1,x.2.map (upS d)):=by
 unfold Z44;rw [show (upP d p).id=upS d p.id from rfl,show (upP d p).value=upS d p.value from rfl,show (upP d p).other=upS d p.other from rfl,Zah]
 cases Z32 (fun _=>false) ns p.id with
 | none=>rfl
 | some x=>
   obtain ⟨i,n1⟩:=x;simp only [Zif,Zah]
   cases Z32 (fun _=>false) n1 p.value with
   | none=>rfl
   | some y=>
     obtain ⟨v,n2⟩:=y;simp only [Zif,Zah]
     cases Z32 (fun _=>false) n2 p.other with
     | none=>rfl
     | some z=>rfl
theorem Ze7 : ∀(l:List Z1a) (ns:List Sym) (acts:List ActT),Z1y (fun _=>false) (l.map (upP d)) (ns.map (upS d)) acts=(Z1y (fun _=>false) l ns acts).map fun x=>(x.1,x.2.map (upS d))
 | [],_,_=>rfl
 | p :: l,ns,acts=>by
   rw [List.map_cons,Z1y,Z1y,Zhy]
   cases Z44 (fun _=>false) ns p with
   | none=>rfl
   | some x=>
     obtain ⟨a,n⟩:=x;exact Ze7 l n (addA acts a)
theorem Zgt (ns:List Sym) : ∀(o:List Elem) (vss:List (List Z0t)),List.zipWith (Z4q (ns.map (upS d))) (o.map (upE d)) vss=List.zipWith (Z4q ns) o vss
 | [],_=>by simp
 | _ :: _,[]=>by simp
 | e :: o,v :: vss=>by
   rw [List.map_cons,List.zipWith_cons_cons,List.zipWith_cons_cons,Zgt ns o vss];congr 1;unfold Z4q upE;simp only [Zaj,Z74]
theorem Zhf (m:Nat) (nm:ByteArray) (es:List Elem) (as_:List Z0l) (l:List Z1a):Z3t m nm (es.map (upE d)) (as_.map (upA d)) (fun _=>false) [] (l.map (upP d))=Z3t m nm es as_ (fun _=>false) [] l:=by
 unfold Z3t;rw [Zg5]
 cases Z2p es with
 | none=>rfl
 | some x=>
   obtain ⟨o,ns⟩:=x
   have hv:(o.map (upE d)).map (vs0 (ns.map (upS d)))=o.map (vs0 ns):=by
    rw [List.map_map];congr 1;funext e;show [Z1h (ns.map (upS d)) 1 (upS d e.value)]=_;rw [Zee];rfl
   (have ht:(o.map (upE d)).map Elem.tag=o.map Elem.tag:=by rw [List.map_map];rfl);simp only [Zif,hv,ht,Z9g,List.any_nil,List.map_eq_nil_iff]
   cases Z1s ns o as_ (o.map (vs0 ns)) with
   | none=>rfl
   | some vss=>
     simp only [Zgt];unfold Z5n;rw [Ze7]
     cases Z1y (fun _=>false) l ns [] with
     | none=>rfl
     | some x=>rfl
end
end
section
open Go.RowKit Go.Shelf
attribute [local go_sem] Oper.semAt_some
set_option linter.unusedSimpArgs false
def bigB (s:Sym):Bool:=decide (s.kind=1) && (decide (1000000<s.n) || decide (s.n<1))
theorem Z68 (s:Sym) (w:World):Calls Tryz.prog 26 #[.agg #[.int .i64 s.kind,.string s.text,.int .i64 s.n]] w fun e w'=>e = .returned (.bool (bigB s))∧Below w.heap.size w w':=by
 go_enter Tryz.func26,Tryz.ntmps26;(go_upto_region 1 with fail);obtain ⟨W1,hW1⟩ : ∃W,W=w.alloc (.cells #[.int .i64 s.kind,.string s.text,.int .i64 s.n] 23):=⟨_,rfl⟩;obtain ⟨b1,hb1⟩ : ∃b,b=w.heap.size:=⟨_,rfl⟩;have K1:=hid (show Blk W1 b1 23 #[.int .i64 s.kind,.string s.text,.int .i64 s.n] by rw [hW1,hb1];exact Blk.new _ _ _);have HB:=hid (show Below w.heap.size w W1 by rw [hW1];exact (Zi5 _ _).alloc (Zi6 _) _);rw [← hW1,← hb1];clear hW1 hb1;obtain ⟨s0,s1,s2⟩:=K1.out.c3;have sz:=K1.out.lt;by_cases h1:s.kind=1
 case neg=>
  (have t1:(s.kind == 1)=false:=by simpa using h1);(go_wp2_with fail);go_ret;exact ⟨by rw [bigB,Zi7 h1];rfl,HB.out⟩
 have HG:=hid (show bigB s=(decide (1000000<s.n) || decide (s.n<1)) by rw [bigB,Zih h1];rfl);by_cases h2:(1000000:Int)<s.n
 case pos=>
  have d2:decide ((1000000:Int)<s.n)=true:=Zih h2;rw [d2] at HG;(go_wp2_with fail);go_ret;exact ⟨by rw [HG.out];rfl,HB.out⟩
 have d2:decide ((1000000:Int)<s.n)=false:=Zi7 h2;rw [d2] at HG;by_cases h3:s.n<1
 case pos=>
  have d3:decide (s.n<1)=true:=Zih h3;rw [d3] at HG;(go_wp2_with fail);go_ret;exact ⟨by rw [HG.out];rfl,HB.out⟩
 have d3:decide (s.n<1)=false:=Zi7 h3;rw [d3] at HG;(go_wp2_with fail);go_ret;exact ⟨by rw [HG.out];rfl,HB.out⟩
theorem Zai (s:Sym) (d:Int) (w:World) (hw:s.kind=1→IntKind.i64.wrap (s.n+d)=s.n+d):Calls Tryz.prog 27 #[.agg #[.int .i64 s.kind,.string s.text,.int .i64 s.n],.int .i64 d] w fun e w'=>e = .returned (.agg #[.int .i64 (upS d s).kind,.string (upS d s).text,.int .i64 (upS d s).n])∧Below w.heap.size w w':=by
 have HW:=hid hw;clear hw;go_enter Tryz.func27,Tryz.ntmps27;(go_upto_region 1 with fail);obtain ⟨W1,hW1⟩ : ∃W,W=(w.alloc (.cells #[.int .i64 s.kind,.string s.text,.int .i64 s.n] 23)).alloc (.cells #[.int .i64 0,.string ⟨#[]⟩,.int .i64 0] 23):=⟨_,rfl⟩;obtain ⟨b1,hb1⟩ : ∃b,b=w.heap.size:=⟨_,rfl⟩;have K1:=hid (show Blk W1 b1 23 #[.int .i64 s.kind,.string s.text,.int .i64 s.n] by rw [hW1,hb1];exact (Blk.new _ _ _).alloc _);have K2:=hid (show Blk W1 (b1+1) 23 #[.int .i64 0,.string ⟨#[]⟩,.int .i64 0] by rw [hW1,hb1];have hh:=Blk.new (w.alloc (.cells #[.int .i64 s.kind,.string s.text,.int .i64 s.n] 23)) 23 #[.int .i64 0,.string ⟨#[]⟩,.int .i64 0];simp only [Zir] at hh;exact hh);have HB:=hid (show Below w.heap.size w W1 by rw [hW1];exact ((Zi5 _ _).alloc (Zi6 _) _).alloc (by simp) _);have HG:=hid (show w.heap.size≤b1 by omega);(try simp only [Zir]);rw [← hW1,← hb1];clear hW1 hb1;obtain ⟨s0,s1,s2⟩:=K1.out.c3;have sz:=K1.out.lt;by_cases h1:s.kind=1
 case neg=>
  (have t1:(s.kind == 1)=false:=by simpa using h1);have HU:=hid (show upS d s=s by rw [upS,if_neg h1]);have HT:=hid (show W1.there (b1+1) 0 (#[.int .i64 s.kind,.string s.text,.int .i64 s.n]:Array Value).size from K2.out.there);(go_wp2_with (with_reducible refine wpList_store_mid rfl 23 _ _ rfl (b1+1) 0 #[.int .i64 s.kind,.string s.text,.int .i64 s.n] rfl rfl HT.out (by kernel_rfl) (by kernel_rfl) ?_));(try simp only [Exit.inBlock,Exit.then]);refine bodyPost_ret (v:=.agg #[.int .i64 s.kind,.string s.text,.int .i64 s.n]) ?_ rfl ⟨by rw [HU.out],Below.setCells' _ _ HB.out (by have:=HG.out;omega)⟩;exact Z1r (t:=4) (T:=23) rfl _ _ (b1+1) [.int .i64 s.kind,.string s.text,.int .i64 s.n] _ rfl (Zi9 W1 (b1+1) 0 [.int .i64 s.kind,.string s.text,.int .i64 s.n] HT.out) Tryz.underlying23 rfl (by kernel_rfl)
 (have t1:(s.kind == 1)=true:=by simp [h1]);have HU:=hid (show upS d s=⟨s.kind,s.text,s.n+d⟩ by rw [upS,if_pos h1]);have HK:=hid h1;clear h1;obtain ⟨W3,hW3⟩ : ∃W,W=W1.setCell ⟨b1,2,none⟩ (.int .i64 (s.n+d)):=⟨_,rfl⟩;have HW3:=hid hW3;have K3:=hid (show Blk W3 b1 23 #[.int .i64 s.kind,.string s.text,.int .i64 (s.n+d)] by rw [hW3];exact K1.out.set_ 2 _);have K4:=hid (show Blk W3 (b1+1) 23 #[.int .i64 0,.string ⟨#[]⟩,.int .i64 0] by rw [hW3];exact K2.out.far (by show b1+1≠b1;omega) _);have HB3:=hid (show Below w.heap.size w W3 by rw [hW3];exact HB.out.setCell HG.out _);have HT:=hid (show W3.there (b1+1) 0 (#[.int .i64 s.kind,.string s.text,.int .i64 (s.n+d)]:Array Value).size from K4.out.there);have f2:=K1.out.frozen 2;have v1:=HW.out HK.out;clear hW3;(go_upto_region 3 with fail);rw [← HW3.out];clear s0 s1 s2 sz f2;obtain ⟨u0,u1,u2⟩:=K3.out.c3;have uz:=K3.out.lt;(go_wp2_with (with_reducible refine wpList_store_mid rfl 23 _ _ rfl (b1+1) 0 #[.int .i64 s.kind,.string s.text,.int .i64 (s.n+d)] rfl rfl HT.out (by kernel_rfl) (by kernel_rfl) ?_));(try simp only [Exit.inBlock,Exit.then]);refine bodyPost_ret (v:=.agg #[.int .i64 s.kind,.string s.text,.int .i64 (s.n+d)]) ?_ rfl ⟨by rw [HU.out],Below.setCells' _ _ HB3.out (by have:=HG.out;omega)⟩;exact Z1r (t:=4) (T:=23) rfl _ _ (b1+1) [.int .i64 s.kind,.string s.text,.int .i64 (s.n+d)] _ rfl (Zi9 W3 (b1+1) 0 [.int .i64 s.kind,.string s.text,.int .i64 (s.n+d)] HT.out) Tryz.underlying23 rfl (by kernel_rfl)
end
section
open Go.RowKit Go.Shelf
set_option linter.unusedSimpArgs false
theorem Blk.thereAt {w:World} {g:Nat} {t:TypeId} {cs:Array Value} (h:Blk w g t cs) {o n:Nat} (hn:o+n≤cs.size):w.there g o n:=fun j hj=>⟨by rw [h.cell,Array.getElem?_eq_getElem (show o+j<cs.size by omega)];rfl,h.frozen _⟩
theorem Z0k.nilOf {α:Type} {w:World} {size c:Nat} {cells:α→List Value} {A:Option Addr} (h:c≤maxLen):Z0k w size cells A c ([]:List α):=⟨Nat.zero_le _,h,fun h=>absurd h (by simp)⟩
theorem Blk.set3 {w:World} {g:Nat} {t:TypeId} {cs:Array Value} (h:Blk w g t cs) (o:Nat) (a b c:Value):Blk (w.setCells g o [a,b,c]) g t (((cs.setIfInBounds o a).setIfInBounds (o+1) b).setIfInBounds (o+2) c):=((h.set_ o a).set_ (o+1) b).set_ (o+2) c
structure OwnG {α:Type} (T size:Nat) (cells:α→List Value) (X:World) (m:List α) (A:Option Addr) (c:Nat) (w:World):Prop where
 own:w.ownsRow 0 T size (.slice A m.length c) m.length (m.flatMap cells)
 ain:AIn A (X.heap.size≤·)
 bel:Below X.heap.size X w
section
variable {α:Type} {T size:Nat} {cells:α→List Value} {X:World} {m:List α} {A:Option Addr} {c:Nat} {w w':World}
theorem OwnG.start (hb:Below X.heap.size X w):OwnG T size cells X [] none 0 w:=⟨⟨by simp,.inl ⟨rfl,rfl⟩⟩,AIn.none_ _,hb⟩
theorem OwnG.new_ (h:OwnG T size cells X m A c w) (hb:Below w.heap.size w w'):OwnG T size cells X m A c w':=⟨Z01 h.own hb,h.ain,h.bel.trans (hb.mono h.bel.size)⟩
theorem OwnG.put {y:α} {v:Value} (h:OwnG T size cells X m A c w) (hown:w'.ownsRow 0 T size v (m.length+1) (m.flatMap cells ++ [y].flatMap cells)) (hg:w.grownBy w' (Value.slice A m.length c).ownBlock) (hat:v.ownBlock=(Value.slice A m.length c).ownBlock∨v.ownBlock=some w.heap.size) :
 ∃(mn:List α) (A':Option Addr) (c':Nat),mn=m ++ [y]∧v = .slice A' mn.length c'∧OwnG T size cells X mn A' c' w':=by
 obtain ⟨A9,c9,hv,hO9,hA9,hb9⟩:=Z8o (B:=X.heap.size) hown hg hat h.ain h.bel.size;rw [← Zin] at hO9;(have hl:(m ++ [y]).length=m.length+1:=by simp);exact ⟨m ++ [y],A9,c9,rfl,by rw [hl];exact hv,by rw [hl];exact hO9,hA9,h.bel.trans hb9⟩
end
def upT (d:Int) (t:Z07):Z07:={ t with elem:=upE d t.elem }
theorem Zg1 (d:Int) (l:List Z07):(l.map (upT d)).map Z07.elem=(l.map Z07.elem).map (upE d):=by rw [List.map_map,List.map_map];rfl
theorem Z5q {α β:Type} {l:List α} {f:α→β} {i:Nat} {m:List β} (hm:m=(l.take i).map f) (h:i<l.length):m ++ [f l[i]]=(l.take (i+1)).map f:=by rw [hm,Zj9,Zig h,Zik];rfl
theorem Z4u {s:Sym} {d:Int} (hb:bigB s=false) (h1:1≤d) (h2:d≤1000):s.kind=1→IntKind.i64.wrap (s.n+d)=s.n+d:=fun hk=>by
 unfold bigB at hb;rw [Zih hk] at hb;simp at hb;exact Zii _ (by omega)
def BigE (e:Elem):Prop:=bigB e.id=false∧bigB e.value=false
end
section
open Go.RowKit Go.Shelf
attribute [local go_sem] Oper.semAt_some
set_option linter.unusedSimpArgs false
theorem Zfv {n:Nat} {as_:List Z0l} {B:Option Addr} {d:Nat} {W:World} {g:Nat} {es:List Z07} {A:Option Addr} {c:Nat} (hb:Blk W g 121 #[.int .i64 0,.int .i64 0,.slice A es.length c,.slice none 0 0,.slice B as_.length d,.slice none 0 0]) (h:Z0k W 14 Z07.cells A c es) (h4:Z0k W 7 Z0l.cells B d as_) :
 RowR (Z26 n) (fun _=>True) W (some ⟨g,0,none⟩) 1 [⟨0,0,es,[],as_,[]⟩]:=by
 refine ⟨Zi6 _,by unfold maxLen;omega,fun _=>⟨g,0,rfl,trivial,hb.lt,fun k hk=>?_⟩⟩;(obtain rfl:k=0:=by simpa using hk);refine ⟨_,⟨A,c,none,0,B,d,none,0,rfl,RowR.of_rd (hs:=Z07.cells_length) h (fun _ _=>trivial),RowR.nil _ _ _,RowR.of_rd (hs:=Z0l.cells_length) h4 (fun _ _=>trivial),RowR.nil _ _ _⟩,fun j u hu=>?_⟩;simp only [Nat.zero_mul,Nat.add_zero,Zj1];rw [hb.cell];simpa using hu
theorem Zcz (as_:List Z0l) (AA:Option Addr) (cA:Nat) (es:List Z07) (AE:Option Addr) (cE:Nat) (prefs:List Z1a) (AP:Option Addr) (cP:Nat) (w:World) (h1:Z0k w 14 Z07.cells AE cE es) (h3:Z0k w 16 Z1a.cells AP cP prefs) (h4:Z0k w 7 Z0l.cells AA cA as_) :
 Calls Tryz.prog 16 #[.slice AE es.length cE,.slice none 0 0,.slice AA as_.length cA,.slice AP prefs.length cP] w fun e w'=>∃b,e = .returned (.bool b)∧Below w.heap.size w w'∧(b=false→es.length≤20∧prefs.length≤20∧as_.length≤1000):=by
 have H1:=hid h1;have H3:=hid h3;have hc1:=h1.cap;have hc3:=h3.cap;have hc4:=h4.cap;have H4:=hid h4;clear h1 h3 h4;by_cases hm:(20:Int)<(prefs.length:Int)
 · have d0:decide ((20:Int)<(prefs.length:Int))=true:=by simpa using hm
   clear hm;go_enter Tryz.func16,Tryz.ntmps16;(go_wp2_with fail);go_ret;exact ⟨true,rfl,Zi5 _ _,fun h=>by cases h⟩
 · have d0:decide ((20:Int)<(prefs.length:Int))=false:=by simpa using hm
   have HM:=hid (show prefs.length≤20 by omega);clear hm;go_enter Tryz.func16,Tryz.ntmps16;(go_wp2_with fail);have hb6:Below w.heap.size w (w.alloc (.cells #[.int .i64 0,.int .i64 0,.slice AE es.length cE,.slice none 0 0,.slice AA as_.length cA,.slice none 0 0] 121)):=(Zi5 _ _).alloc (Zi6 _) _;refine (Zbv 0 (some ⟨w.heap.size,0,none⟩) 1 [⟨0,0,es,[],as_,[]⟩] _ (Zfv (Blk.new _ _ _) (H1.out.new_ hb6) (H4.out.new_ hb6))).mono ?_;rintro e w1 ⟨b,rfl,hb1,hs⟩;have HB1:=hid (hb6.trans (hb1.mono hb6.size));have HS:=hid hs;clear hb1 hs hb6;cases b
   · have HE:=hid (show es.length≤20 from ((HS.out rfl).2 _ Zje).2)
     have HEA:=hid (show as_.length≤1000 from ((HS.out rfl).2 _ Zje).1.2.2.1);go_wp2_with fail
     go_loopw [9] (fun s wr=>∃i:Nat,s = .int .i64 i∧i≤prefs.length∧Below w.heap.size w wr) (fun s wr=>prefs.length - (intOf s).toNat)
     case atStart=>exact ⟨0,rfl,Nat.zero_le _,HB1.out⟩
     case round=>
      obtain ⟨i,rfl,hi,hB⟩:=hrel;have HB:=hid hB;clear hB;by_cases hlt:i<prefs.length
      · obtain ⟨y,hy⟩ : ∃y,y=prefs[i]:=⟨_,rfl⟩
        obtain ⟨g,off,hA0,hg,hcell⟩:=(H3.out.new_ HB.out).at_ hlt;subst hA0;rw [← hy] at hcell;have q1:wr.cell? ⟨g,off+i*16+1,none⟩=some (.string y.id.text):=hcell 1 _ rfl;have q4:wr.cell? ⟨g,off+i*16+4,none⟩=some (.string y.attr.text):=hcell 4 _ rfl;have q7:wr.cell? ⟨g,off+i*16+7,none⟩=some (.string y.value.text):=hcell 7 _ rfl;have q10:wr.cell? ⟨g,off+i*16+10,none⟩=some (.string y.other.text):=hcell 10 _ rfl;(have b1:(0:Int)≤(i:Int):=by omega);(have b2:(i:Int)<(prefs.length:Int):=by omega);clear hy hcell;cases d1:decide ((100:Int)<(y.id.text.size:Int))
        case true=>go_wp2_with fail;go_ret;exact ⟨true,rfl,HB.out,fun h=>by cases h⟩
        cases d2:decide ((100:Int)<(y.attr.text.size:Int))
        case true=>go_wp2_with fail;go_ret;exact ⟨true,rfl,HB.out,fun h=>by cases h⟩
        cases d3:decide ((100:Int)<(y.value.text.size:Int))
        case true=>go_wp2_with fail;go_ret;exact ⟨true,rfl,HB.out,fun h=>by cases h⟩
        cases d4:decide ((100:Int)<(y.other.text.size:Int))
        case true=>go_wp2_with fail;go_ret;exact ⟨true,rfl,HB.out,fun h=>by cases h⟩
        (go_wp2_with fail);go_roundw
        case rel=>exact ⟨i+1,by go_num,by omega,HB.out⟩
        case measure=>simp [intOf]<;>omega
      · obtain rfl:i=prefs.length:=by omega
        (go_wp2_with fail);go_ret;exact ⟨false,rfl,HB.out,fun _=>⟨HE.out,HM.out,HEA.out⟩⟩
   · go_wp2_with fail
     go_ret;exact ⟨true,rfl,HB1.out,fun h=>by cases h⟩
def Zes (es:List Z07) (as_:List Z0l) (X:World) (e:Ending) (w':World):Prop:=Below X.heap.size X w'∧∃A1 c1 A2 c2 A3 c3 A4 c4 B1 d1 B2 d2 B3 d3 B4 d4,e = .returned (.tuple #[.agg #[.slice A1 es.length c1,.slice A2 0 c2,.slice A3 as_.length c3,.slice A4 0 c4,.int .i64 0,.int .i64 0],.agg #[.slice B1 es.length d1,.slice B2 0 d2,.slice B3 as_.length d3,.slice B4 0 d4,.int .i64 0,.int .i64 0]])∧Z0k w' 14 Z07.cells A1 c1 es∧Z0k w' 7 Z0l.cells A3 c3 as_∧c4≤maxLen
theorem Zdz {w:World} {es:List Z07} {A:Option Addr} {c:Nat} {as_:List Z0l} {B:Option Addr} {d:Nat} (h:Z0k w 14 Z07.cells A c es) (h2:Z0k w 7 Z0l.cells B d as_):Z9n 0 (fun _=>True) w ⟨0,0,es,[],as_,[]⟩ A c none 0 B d none 0:=
 ⟨RowR.of_rd (hs:=Z07.cells_length) h (fun _ _=>trivial),RowR.nil _ _ _,RowR.of_rd (hs:=Z0l.cells_length) h2 (fun _ _=>trivial),RowR.nil _ _ _⟩
theorem Z9f (es:List Z07) (AE:Option Addr) (cE:Nat) (as_:List Z0l) (AN:Option Addr) (cN:Nat) (w:World) (h1:Z0k w 14 Z07.cells AE cE es) (h2:Z0k w 7 Z0l.cells AN cN as_) (hl1:es.length≤1000) (hl2:as_.length≤1000) :
 Calls Tryz.prog 19 #[.slice AE es.length cE,.slice none 0 0,.slice AN as_.length cN,.slice none 0 0] w (Zes es as_ w):=by
 have hsm:SmR 0 ⟨0,0,es,[],as_,[]⟩:=⟨hl1,by simp,hl2,by simp,by simp⟩;have HSM:=hid hsm;have H1:=hid h1;have H2:=hid h2;have hc1:=h1.cap;have hc2:=h2.cap;clear h1 h2 hl1 hl2 hsm;go_enter Tryz.func19,Tryz.ntmps19;(go_upto_region 1 with fail);obtain ⟨W1,hW1⟩ : ∃W,W=(w.alloc (.cells #[.slice none 0 0,.slice none 0 0,.slice none 0 0,.slice none 0 0,.int .i64 0,.int .i64 0] 38)).alloc (.cells #[.slice none 0 0,.slice none 0 0,.slice none 0 0,.slice none 0 0,.int .i64 0,.int .i64 0] 39):=⟨_,rfl⟩;obtain ⟨bt,hbt⟩ : ∃b,b=w.heap.size:=⟨_,rfl⟩;have Kt:=hid (show Blk W1 bt 38 #[.slice none 0 0,.slice none 0 0,.slice none 0 0,.slice none 0 0,.int .i64 0,.int .i64 0] by rw [hW1,hbt];exact (Blk.new _ _ _).alloc _);have Kr:=hid (show Blk W1 (bt+1) 39 #[.slice none 0 0,.slice none 0 0,.slice none 0 0,.slice none 0 0,.int .i64 0,.int .i64 0] by rw [hW1,hbt];have hh:=Blk.new (w.alloc (.cells #[.slice none 0 0,.slice none 0 0,.slice none 0 0,.slice none 0 0,.int .i64 0,.int .i64 0] 38)) 39 #[.slice none 0 0,.slice none 0 0,.slice none 0 0,.slice none 0 0,.int .i64 0,.int .i64 0];simp only [Zir] at hh;exact hh);have HB1:=hid (show Below w.heap.size w W1 by rw [hW1];exact ((Zi5 _ _).alloc (Zi6 _) _).alloc (by simp) _);have HBT:=hid (show w.heap.size≤bt by omega);rw [← hW1,← hbt];clear hW1 hbt;have H1:=hid (H1.out.new_ HB1.out);have H2:=hid (H2.out.new_ HB1.out);(go_upto_region 2 with fail);refine (Zat 0 ⟨0,0,es,[],as_,[]⟩ AE cE none 0 AN cN none 0 W1 (Zdz H1.out H2.out) HSM.out).mono ?_;rintro e w4 ⟨A1,c1,A2,c2,A3,c3,A4,c4,rfl,hr,hb⟩;have HRA:=hid hr;have HBx:=hid hb;clear hr hb;(go_upto_region 2 with fail);obtain ⟨W5,hW5⟩ : ∃W,W=w4.alloc (.cells #[.int .i64 0,.int .i64 0,.slice A1 es.length c1,.slice A2 0 c2,.slice A3 as_.length c3,.slice A4 0 c4] 121):=⟨_,rfl⟩;obtain ⟨bA,hbA⟩ : ∃b,b=w4.heap.size:=⟨_,rfl⟩;have KA:=hid (show Blk W5 bA 121 #[.int .i64 0,.int .i64 0,.slice A1 es.length c1,.slice A2 0 c2,.slice A3 as_.length c3,.slice A4 0 c4] by rw [hW5,hbA];exact Blk.new _ _ _);(have hbn:Below W1.heap.size W1 W5:=by rw [hW5];exact HBx.out.alloc HBx.out.size _);(have hbm:Below w4.heap.size w4 W5:=by rw [hW5];exact (Zi5 _ _).alloc (Zi6 _) _);rw [← hW5,← hbA];have HCA:=hid (HRA.out.2.2.2.2.1);have HRA:=hid (show RowR Z0q (fun k=>bt+2≤k) W5 A1 c1 es∧RowR Z1p (fun k=>bt+2≤k) W5 A3 c3 as_ from ⟨(HRA.out.1.weaken (fun k hk=>by have:=hk.1;have:=Kr.out.lt;omega)).new_ hbm,(HRA.out.2.2.1.weaken (fun k hk=>by have:=hk.1;have:=Kr.out.lt;omega)).new_ hbm⟩);have Kt:=hid (Kt.out.new_ hbn);have Kr:=hid (Kr.out.new_ hbn);have H1:=hid (H1.out.new_ hbn);have H2:=hid (H2.out.new_ hbn);have HB1:=hid (HB1.out.trans (hbn.mono HB1.out.size));clear hW5 hbA hbn hbm HBx;go_upto_region 3 with fail
 refine (Zat 0 ⟨0,0,es,[],as_,[]⟩ AE cE none 0 AN cN none 0 W5 (Zdz H1.out H2.out) HSM.out).mono ?_;rintro e w8 ⟨B1,d1,B2,d2,B3,d3,B4,d4,rfl,hr,hb⟩;have HRB:=hid hr;have HBx:=hid hb;clear hr hb;(go_upto_region 3 with fail);obtain ⟨W9,hW9⟩ : ∃W,W=w8.alloc (.cells #[.int .i64 0,.int .i64 0,.slice B1 es.length d1,.slice B2 0 d2,.slice B3 as_.length d3,.slice B4 0 d4] 121):=⟨_,rfl⟩;obtain ⟨bB,hbB⟩ : ∃b,b=w8.heap.size:=⟨_,rfl⟩;have KB:=hid (show Blk W9 bB 121 #[.int .i64 0,.int .i64 0,.slice B1 es.length d1,.slice B2 0 d2,.slice B3 as_.length d3,.slice B4 0 d4] by rw [hW9,hbB];exact Blk.new _ _ _);(have hbn:Below W5.heap.size W5 W9:=by rw [hW9];exact HBx.out.alloc HBx.out.size _);(have hbm:Below w8.heap.size w8 W9:=by rw [hW9];exact (Zi5 _ _).alloc (Zi6 _) _);rw [← hW9,← hbB];have HRB:=hid (show RowR Z0q (fun k=>bt+2≤k) W9 B1 d1 es∧RowR Z1p (fun k=>bt+2≤k) W9 B3 d3 as_ from ⟨(HRB.out.1.weaken (fun k hk=>by have:=hk.1;have:=Kr.out.lt;omega)).new_ hbm,(HRB.out.2.2.1.weaken (fun k hk=>by have:=hk.1;have:=Kr.out.lt;omega)).new_ hbm⟩);have Kt:=hid (Kt.out.new_ hbn);have Kr:=hid (Kr.out.new_ hbn);have H1:=hid (H1.out.new_ hbn);have H2:=hid (H2.out.new_ hbn);have HB1:=hid (HB1.out.trans (hbn.mono HB1.out.size));have HRA:=hid (And.intro (HRA.out.1.new_ hbn) (HRA.out.2.new_ hbn));have KA:=hid (KA.out.new_ hbn);clear hW9 hbB hbn hbm HBx;refine Z08 (fun w9=>Blk w9 bA 121 #[.int .i64 0,.int .i64 0,.slice A1 es.length c1,.slice A2 0 c2,.slice A3 as_.length c3,.slice A4 0 c4]∧Blk w9 bB 121 #[.int .i64 0,.int .i64 0,.slice B1 es.length d1,.slice B2 0 d2,.slice B3 as_.length d3,.slice B4 0 d4]) [(0,0),(1,1),(2,0),(3,1),(4,0),(5,1),(6,0),(7,1),(8,0),(9,0),(10,1),(11,0),(12,1),(13,0),(14,1),(15,0),(16,1),(17,0),(18,2),(19,2)] (by kernel_rfl) (by kernel_rfl) (fun KK hKK=>?_);simp only [Z05,Zie,Zi8,Zic,Zib,Zia,Zif];(repeat ((first | (refine Z09 ?_ (Or.inl ⟨by rfl,fun w9=>?_⟩) ?_;rotate_left 1;go_simp;with_reducible rfl) | (refine Z04 ?_ ((And.intro KA.out.drew KB.out.drew)) (Or.inl ⟨by rfl,fun w9 hw9=>?_⟩) ?_;rotate_left 1;obtain ⟨x0,x1,x2,x3,x4,x5⟩:=hw9.1.c6;obtain ⟨y0,y1,y2,y3,y4,y5⟩:=hw9.2.c6;have xz:=hw9.1.lt;have yz:=hw9.2.lt;go_simp;with_reducible rfl) | refine Z09 undef (Or.inr ⟨by rfl,rfl⟩) ?_ | refine Z04 undef ((And.intro KA.out.drew KB.out.drew)) (Or.inr ⟨by rfl,rfl⟩) ?_);go_frame));refine Z19 (fun K9 hK9=>?_);have hTH:=Kt.out.drew.there;refine Z03 rfl 38 _ _ rfl bt 0 #[.slice A1 es.length c1,.slice A2 0 c2,.slice A3 as_.length c3,.slice A4 0 c4,.int .i64 0,.int .i64 0] rfl rfl (show _ from hTH) (by kernel_rfl) (by kernel_rfl) ?_;obtain ⟨VA,hVA⟩ : ∃V,V=W9.drew.setCells bt 0 [.slice A1 es.length c1,.slice A2 0 c2,.slice A3 as_.length c3,.slice A4 0 c4,.int .i64 0,.int .i64 0]:=⟨_,rfl⟩;have Kt2:=hid (show Blk VA bt 38 #[.slice A1 es.length c1,.slice A2 0 c2,.slice A3 as_.length c3,.slice A4 0 c4,.int .i64 0,.int .i64 0] by rw [hVA];exact Kt.out.drew.setAllD rfl);have Kr2:=hid (show Blk VA (bt+1) 39 #[.slice none 0 0,.slice none 0 0,.slice none 0 0,.slice none 0 0,.int .i64 0,.int .i64 0] by rw [hVA];exact Blk.farCells _ _ Kr.out.drew (Kr.out.ne_ Kt.out (by decide)));have KA2:=hid (show Blk VA bA 121 #[.int .i64 0,.int .i64 0,.slice A1 es.length c1,.slice A2 0 c2,.slice A3 as_.length c3,.slice A4 0 c4] by rw [hVA];exact Blk.farCells _ _ KA.out.drew (KA.out.ne_ Kt.out (by decide)));have KB2:=hid (show Blk VA bB 121 #[.int .i64 0,.int .i64 0,.slice B1 es.length d1,.slice B2 0 d2,.slice B3 as_.length d3,.slice B4 0 d4] by rw [hVA];exact Blk.farCells _ _ KB.out.drew (KB.out.ne_ Kt.out (by decide)));have HB2:=hid (show Below w.heap.size w VA by rw [hVA];exact Below.setCells' _ _ HB1.out.drew HBT.out);have HRA2:=hid (show RowR Z0q (fun k=>bt+2≤k) VA A1 c1 es∧RowR Z1p (fun k=>bt+2≤k) VA A3 c3 as_ by rw [hVA];exact ⟨(show RowR Z0q (fun k=>bt+2≤k) W9.drew A1 c1 es from HRA.out.1).fr (M:=fun k=>k=bt) (Fr.setCells _ _ (Fr.refl _ _) (.inl rfl)) (fun k hk=>by have hk':bt+2≤k:=hk;show ¬k=bt;omega),(show RowR Z1p (fun k=>bt+2≤k) W9.drew A3 c3 as_ from HRA.out.2).fr (M:=fun k=>k=bt) (Fr.setCells _ _ (Fr.refl _ _) (.inl rfl)) (fun k hk=>by have hk':bt+2≤k:=hk;show ¬k=bt;omega)⟩);show K9 _ (W9.drew.setCells bt 0 [.slice A1 es.length c1,.slice A2 0 c2,.slice A3 as_.length c3,.slice A4 0 c4,.int .i64 0,.int .i64 0]);rw [← hVA];clear hVA hTH;refine hK9 _ _ (And.intro KA2.out KB2.out) ?_;clear hK9 K9;refine Z28 (by kernel_rfl) (fun K9 hK9=>?_);have hTH:=Kr2.out.there
 refine Z03 rfl 39 _ _ rfl (bt+1) 0 #[.slice B1 es.length d1,.slice B2 0 d2,.slice B3 as_.length d3,.slice B4 0 d4,.int .i64 0,.int .i64 0] rfl rfl (show _ from hTH) (by kernel_rfl) (by kernel_rfl) ?_;obtain ⟨VB,hVB⟩ : ∃V,V=VA.setCells (bt+1) 0 [.slice B1 es.length d1,.slice B2 0 d2,.slice B3 as_.length d3,.slice B4 0 d4,.int .i64 0,.int .i64 0]:=⟨_,rfl⟩;have Kr3:=hid (show Blk VB (bt+1) 39 #[.slice B1 es.length d1,.slice B2 0 d2,.slice B3 as_.length d3,.slice B4 0 d4,.int .i64 0,.int .i64 0] by rw [hVB];exact Kr2.out.setAllD rfl);have Kt3:=hid (show Blk VB bt 38 #[.slice A1 es.length c1,.slice A2 0 c2,.slice A3 as_.length c3,.slice A4 0 c4,.int .i64 0,.int .i64 0] by rw [hVB];exact Blk.farCells _ _ Kt2.out (Kt2.out.ne_ Kr2.out (by decide)));have HB3:=hid (show Below w.heap.size w VB by rw [hVB];exact Below.setCells' _ _ HB2.out (by have:=HBT.out;omega));have HRA3:=hid (show RowR Z0q (fun k=>bt+2≤k) VB A1 c1 es∧RowR Z1p (fun k=>bt+2≤k) VB A3 c3 as_ by rw [hVB];exact ⟨(show RowR Z0q (fun k=>bt+2≤k) VA A1 c1 es from HRA2.out.1).fr (M:=fun k=>k=bt+1) (Fr.setCells _ _ (Fr.refl _ _) (.inl rfl)) (fun k hk=>by have hk':bt+2≤k:=hk;show ¬k=bt+1;omega),(show RowR Z1p (fun k=>bt+2≤k) VA A3 c3 as_ from HRA2.out.2).fr (M:=fun k=>k=bt+1) (Fr.setCells _ _ (Fr.refl _ _) (.inl rfl)) (fun k hk=>by have hk':bt+2≤k:=hk;show ¬k=bt+1;omega)⟩);show K9 _ (VA.setCells (bt+1) 0 [.slice B1 es.length d1,.slice B2 0 d2,.slice B3 as_.length d3,.slice B4 0 d4,.int .i64 0,.int .i64 0]);rw [← hVB];clear hVB hTH;refine hK9 _ _ ?_;clear hK9 K9;refine Z0v ?_;simp only [Z00];refine hKK _ _ ?_;clear hKK KK;have HQA:=hid (Kt3.out.range);have HQB:=hid (Kr3.out.range);(go_wp2_with fail);(try simp only [Exit.inBlock,Exit.then]);refine bodyPost_ret (v:=.tuple #[.agg #[.slice A1 es.length c1,.slice A2 0 c2,.slice A3 as_.length c3,.slice A4 0 c4,.int .i64 0,.int .i64 0],.agg #[.slice B1 es.length d1,.slice B2 0 d2,.slice B3 as_.length d3,.slice B4 0 d4,.int .i64 0,.int .i64 0]]) ?_ rfl ⟨HB3.out,A1,c1,A2,c2,A3,c3,A4,c4,B1,d1,B2,d2,B3,d3,B4,d4,rfl,RowR.rd (hs:=Z07.cells_length) HRA3.out.1,RowR.rd (hs:=Z0l.cells_length) HRA3.out.2,HCA.out⟩;exact Z87 (t:=8) (s:=9) (T:=38) (T2:=39) rfl _ _ bt (bt+1) [.slice A1 es.length c1,.slice A2 0 c2,.slice A3 as_.length c3,.slice A4 0 c4,.int .i64 0,.int .i64 0] [.slice B1 es.length d1,.slice B2 0 d2,.slice B3 as_.length d3,.slice B4 0 d4,.int .i64 0,.int .i64 0] _ _ rfl rfl HQA.out HQB.out Tryz.underlying38 rfl (by kernel_rfl) Tryz.underlying39 rfl (by kernel_rfl)
theorem Z5p {α:Type} {l:List α} {i:Nat} (h:i<l.length):l.take (i+1)=l.take i ++ [l[i]]:=by rw [Zj9,Zig h];rfl
theorem Zae {X:World} {nb mb:Nat} {ns:List Sym} {es:List Elem} {AO:Option Addr} {cO:Nat} {vcs:List VCo} {AC:Option Addr} {cC:Nat} {D:Nat→Prop} (s:Sym) (w:World) (h:CS X nb mb ns es AO cO vcs AC cC D w):Calls Tryz.prog 108 #[.pointer (some ⟨mb,0,none⟩),.agg #[.int .i64 s.kind,.string s.text,.int .i64 s.n]] w fun e w'=>e = .returned (.bool (Z3a es s))∧Below w.heap.size w w':=by
 have H:=hid h;have hlc:=(Z0a Elem.cells_length h.eo).cap;obtain ⟨m0,m1,m2⟩:=h.mkb.c3;have mz:=h.mkb.lt;clear h;go_enter Tryz.func108,Tryz.ntmps108;(go_upto_region 2 with fail);clear m0 m1 m2 mz;obtain ⟨W1,hW1⟩ : ∃W,W=w.alloc (.cells #[.int .i64 s.kind,.string s.text,.int .i64 s.n] 23):=⟨_,rfl⟩;obtain ⟨b3,hb3⟩ : ∃b,b=w.heap.size:=⟨_,rfl⟩;have K3:=hid (show Blk W1 b3 23 #[.int .i64 s.kind,.string s.text,.int .i64 s.n] by rw [hW1,hb3];exact Blk.new _ _ _);have HB:=hid (show Below w.heap.size w W1 by rw [hW1];exact (Zi5 _ _).alloc (Zi6 _) _);rw [← hW1,← hb3];clear hW1 hb3
 go_loopw [12] (fun v wr=>∃i:Nat,v = .int .i64 (i:Int)∧i≤es.length∧Z3a (es.take i) s=false∧Below W1.heap.size W1 wr) (fun v wr=>es.length - (intOf v).toNat)
 case atStart=>exact ⟨0,rfl,Nat.zero_le _,by simp [Z3a],Zi5 _ _⟩
 case round=>
  obtain ⟨i,rfl,hi,hno,hbw⟩:=hrel;have HNO:=hid hno;have HBW:=hid hbw;have HBA:=hid (HB.out.trans (hbw.mono HB.out.size));clear hno hbw;by_cases hlt:i<es.length
  · obtain ⟨y,hy⟩ : ∃y,y=es[i]:=⟨_,rfl⟩
    obtain ⟨g,off,hAA,hgl,hrg⟩:=(Z0a Elem.cells_length (H.out.new_ HBA.out).eo).range hlt;rw [← hy] at hrg;subst hAA;have HTK:=hid (show Z3a (es.take (i+1)) s=decide (y.id=s) by rw [Z5p hlt,← hy,Z3a,List.any_append,show ((es.take i).any fun e=>decide (e.id=s))=false from HNO.out];simp);have HIN:=hid (show y∈es by rw [hy];exact Zip hlt);have HRG:=hid (show wr.rangeAt g (off+i*12) [.int .i64 y.id.kind,.string y.id.text,.int .i64 y.id.n,.int .i64 y.attr.kind,.string y.attr.text,.int .i64 y.attr.n,.int .i64 y.value.kind,.string y.value.text,.int .i64 y.value.n,.bool y.acc,.bool y.goal,.int .i64 y.tag] from hrg);obtain ⟨W5,hW5,hth,hrg5,hb5,hz5⟩:=Z4e (w:=wr) (t:=55) [.int .i64 0,.string ⟨#[]⟩,.int .i64 0,.int .i64 0,.string ⟨#[]⟩,.int .i64 0,.int .i64 0,.string ⟨#[]⟩,.int .i64 0,.bool false,.bool false,.int .i64 0] [.int .i64 y.id.kind,.string y.id.text,.int .i64 y.id.n,.int .i64 y.attr.kind,.string y.attr.text,.int .i64 y.attr.n,.int .i64 y.value.kind,.string y.value.text,.int .i64 y.value.n,.bool y.acc,.bool y.goal,.int .i64 y.tag] rfl;have HW5:=hid hW5;have HTH:=hid hth;have HBW5:=hid (HBW.out.trans (hb5.mono HBW.out.size));have HBA5:=hid (HBA.out.trans (hb5.mono HBA.out.size));have q0:W5.cell? ⟨wr.heap.size,0,none⟩=some (.int .i64 y.id.kind):=hrg5 0 _ rfl;have q1:W5.cell? ⟨wr.heap.size,1,none⟩=some (.string y.id.text):=hrg5 1 _ rfl;have q2:W5.cell? ⟨wr.heap.size,2,none⟩=some (.int .i64 y.id.n):=hrg5 2 _ rfl;(have qz:wr.heap.size<W5.heap.size:=by omega);obtain ⟨s0,s1,s2⟩:=(K3.out.new_ HBW5.out).c3;have sz:=(K3.out.new_ HBW5.out).lt;(have j1:(0:Int)≤(i:Int):=by omega);(have j2:(i:Int)<(es.length:Int):=by omega);have v1:IntKind.i64.wrap ((i:Int)+1)=(i:Int)+1:=Zii _ (by omega);have heq:=Z38 y.id s;clear hW5 hth hrg5 hb5 hz5 hrg hy;by_cases he:y.id=s
    · have t1:decide (y.id=s)=true:=by simpa using he
      rw [t1] at heq HTK;have HE:=hid (show Z3a es s=true from Zj3.2 ⟨y,HIN.out,by simpa using he⟩);clear he t1
      go_wp2_with (first
       | (with_reducible refine wpList_load_mid rfl 55 _ rfl g (off+i*12) rfl _ _ HRG.out Tryz.underlying55 rfl (by kernel_rfl) ?_)
       | ((with_reducible refine wpList_store_mid rfl 55 _ _ rfl wr.heap.size 0 #[.int .i64 y.id.kind,.string y.id.text,.int .i64 y.id.n,.int .i64 y.attr.kind,.string y.attr.text,.int .i64 y.attr.n,.int .i64 y.value.kind,.string y.value.text,.int .i64 y.value.n,.bool y.acc,.bool y.goal,.int .i64 y.tag] rfl rfl HTH.out (by kernel_rfl) (by kernel_rfl) ?_);rw [← HW5.out]))
      go_ret;exact ⟨by rw [HE.out];rfl,HBA5.out⟩
    · have t1:decide (y.id=s)=false:=by simpa using he
      rw [t1] at heq HTK;clear he t1
      go_wp2_with (first
       | (with_reducible refine wpList_load_mid rfl 55 _ rfl g (off+i*12) rfl _ _ HRG.out Tryz.underlying55 rfl (by kernel_rfl) ?_)
       | ((with_reducible refine wpList_store_mid rfl 55 _ _ rfl wr.heap.size 0 #[.int .i64 y.id.kind,.string y.id.text,.int .i64 y.id.n,.int .i64 y.attr.kind,.string y.attr.text,.int .i64 y.attr.n,.int .i64 y.value.kind,.string y.value.text,.int .i64 y.value.n,.bool y.acc,.bool y.goal,.int .i64 y.tag] rfl rfl HTH.out (by kernel_rfl) (by kernel_rfl) ?_);rw [← HW5.out]))
      go_roundw
      case rel=>exact ⟨i+1,by go_num,by omega,HTK.out,HBW5.out⟩
      case measure=>simp [intOf]<;>omega
  · obtain rfl:i=es.length:=by omega
    (have jz : ¬(es.length:Int)<(es.length:Int):=by omega);have HNO:=hid (show Z3a es s=false by have:=HNO.out;rwa [Ziq] at this);(go_wp2_with fail);go_ret;exact ⟨by rw [HNO.out];rfl,HBA.out⟩
theorem Zgl {X:World} {nb mb:Nat} {ns:List Sym} {es:List Elem} {AO:Option Addr} {cO:Nat} {vcs:List VCo} {AC:Option Addr} {cC:Nat} {D:Nat→Prop} (k:Nat) (s:Sym) (w:World) (h:CS X nb mb ns es AO cO vcs AC cC D w) (hk:k<es.length) (hel:es.length≤1000):Calls Tryz.prog 148 #[.pointer (some ⟨mb,0,none⟩),.int .i64 (k:Int),.agg #[.int .i64 s.kind,.string s.text,.int .i64 s.n]] w fun e w'=>e = .returned (.bool (metV es k s))∧Below w.heap.size w w':=by
 have H:=hid h;have HK:=hid hk;clear h;go_enter Tryz.func148,Tryz.ntmps148;(go_upto_region 2 with fail);obtain ⟨W1,hW1⟩ : ∃W,W=w.alloc (.cells #[.int .i64 s.kind,.string s.text,.int .i64 s.n] 23):=⟨_,rfl⟩;obtain ⟨b3,hb3⟩ : ∃b,b=w.heap.size:=⟨_,rfl⟩;have K3:=hid (show Blk W1 b3 23 #[.int .i64 s.kind,.string s.text,.int .i64 s.n] by rw [hW1,hb3];exact Blk.new _ _ _);have HB:=hid (show Below w.heap.size w W1 by rw [hW1];exact (Zi5 _ _).alloc (Zi6 _) _);rw [← hW1,← hb3];clear hW1 hb3
 go_loopw [7] (fun v wr=>∃i:Nat,v = .int .i64 (i:Int)∧i≤k+1∧((es.take i).any fun e=>decide (e.id=s) || decide (e.value=s))=false∧Below W1.heap.size W1 wr) (fun v wr=>k+1 - (intOf v).toNat)
 case atStart=>exact ⟨0,rfl,Nat.zero_le _,by simp,Zi5 _ _⟩
 case round=>
  obtain ⟨i,rfl,hi,hno,hbw⟩:=hrel;have HNO:=hid hno;have HBW:=hid hbw;have HBA:=hid (HB.out.trans (hbw.mono HB.out.size));clear hno hbw;by_cases hlt:i≤k
  · have hlt2:i<es.length:=by omega
    obtain ⟨y,hy⟩ : ∃y,y=es[i]:=⟨_,rfl⟩;have HC:=hid (H.out.new_ HBA.out);obtain ⟨m0,m1,m2⟩:=HC.out.mkb.c3;have mz:=HC.out.mkb.lt;obtain ⟨g,off,hAA,hgl,hcell⟩:=(Z0a Elem.cells_length HC.out.eo).at_ hlt2;rw [← hy] at hcell;subst hAA;have HTK:=hid (show ((es.take (i+1)).any fun e=>decide (e.id=s) || decide (e.value=s))=(decide (y.id=s) || decide (y.value=s)) by rw [Z5p hlt2,← hy,List.any_append,HNO.out];simp);have HIK:=hid (show (decide (y.id=s) || decide (y.value=s))=true→metV es k s=true from fun h=>Zj3.2 ⟨y,by rw [hy];exact List.mem_iff_getElem.2 ⟨i,by rw [Ziz];omega,by rw [List.getElem_take]⟩,h⟩);(have q0:wr.cell? ⟨g,off+i*12,none⟩=some (.int .i64 y.id.kind):=by simpa using hcell 0 _ rfl);(have q1:wr.cell? ⟨g,off+i*12+1,none⟩=some (.string y.id.text):=by simpa using hcell 1 _ rfl);(have q2:wr.cell? ⟨g,off+i*12+2,none⟩=some (.int .i64 y.id.n):=by simpa using hcell 2 _ rfl);(have q6:wr.cell? ⟨g,off+i*12+6,none⟩=some (.int .i64 y.value.kind):=by simpa using hcell 6 _ rfl);(have q7:wr.cell? ⟨g,off+i*12+7,none⟩=some (.string y.value.text):=by simpa using hcell 7 _ rfl);(have q8:wr.cell? ⟨g,off+i*12+8,none⟩=some (.int .i64 y.value.n):=by simpa using hcell 8 _ rfl);obtain ⟨s0,s1,s2⟩:=(K3.out.new_ HBW.out).c3;have sz:=(K3.out.new_ HBW.out).lt;(have j0:(i:Int)≤(k:Int):=by omega);(have j1:(0:Int)≤(i:Int):=by omega);(have j2:(i:Int)<(es.length:Int):=by omega);have v1:IntKind.i64.wrap ((i:Int)+1)=(i:Int)+1:=Zii _ (by omega);have heq1:=Z38 y.id s;have heq2:=Z38 y.value s;clear hcell hy;cases d1:decide (y.id=s)<;>cases d2:decide (y.value=s)
    all_goals
     rw [d1] at heq1 HTK HIK;rw [d2] at heq2 HTK HIK;clear d1 d2;(go_wp2_with fail);go_quiet (fail);have HB2:=hid (Below.drewN' HBA.out nq);have HB3:=hid (Below.drewN' HBW.out nq);clear q0 q1 q2 q6 q7 q8 m0 m1 m2 mz s0 s1 s2 sz;go_wp2_with fail
     first
      | (go_ret;exact ⟨by rw [HIK.out rfl];rfl,HB2.out⟩)
      | (go_roundw
         case rel=>exact ⟨i+1,by go_num,by omega,HTK.out,HB3.out⟩
         case measure=>simp [intOf]<;>omega)
  · obtain rfl:i=k+1:=by omega
    (have jz : ¬((k+1:Nat):Int)≤(k:Int):=by omega);(have jz2 : ¬(k:Int)+1≤(k:Int):=by omega);(go_wp2_with fail);go_ret;exact ⟨by rw [metV,HNO.out];rfl,HBA.out⟩
end
end Go.Proofs.YtldndkngpdfpfaaGreat
