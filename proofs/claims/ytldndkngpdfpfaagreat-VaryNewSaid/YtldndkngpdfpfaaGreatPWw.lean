/-
  Texts put together: VaryNw1, BkSame1, BkSame2, BkSame3, ActsSame.
-/
import Derived.Test.YtldndkngpdfpfaaGreatPWt
import Derived.Test.YtldndkngpdfpfaaGreatPWv
import Derived.Test.YtldndkngpdfpfaaGreatPWb
import Derived.Test.YtldndkngpdfpfaaGreatPWg
import Derived.Test.YtldndkngpdfpfaaGreatPWd
import Derived.Test.YtldndkngpdfpfaaGreatPWu
import Derived.Deep.MidRow
import Derived.Maps.RangeWalk
namespace Go.Proofs.YtldndkngpdfpfaaGreat
open Go.RowKit Go.Shelf
attribute [local go_sem] Oper.semAt_some
set_option linter.unusedSimpArgs false
set_option maxRecDepth 100000 in
set_option maxHeartbeats 4000000 in
theorem constv_is (s:Sym) (w:World):Calls Tryz.prog 94 #[.agg #[.int .i64 s.kind,.string s.text,.int .i64 s.n]] w fun e w'=>∃b,e = .returned (.bool b)∧Below w.heap.size w w':=by
 go_enter Tryz.func94,Tryz.ntmps94
 go_upto_region 1 with fail
 obtain ⟨w1,hw1⟩ : ∃w1,w1=(w.alloc (.cells #[.int .i64 s.kind,.string s.text,.int .i64 s.n] 23)):=⟨_,rfl⟩
 rw [← hw1]
 have HB:=Lib.hid (show Below w.heap.size w w1 by rw [hw1];exact (by repeat (first | exact Below.refl _ _ | refine Below.drew ?_ | refine Below.al ?_ _ | refine Below.sc ?_ _)))
 have Ks:=Lib.hid (show Blk w1 (w.heap.size) 23 #[.int .i64 s.kind,.string s.text,.int .i64 s.n] by rw [hw1];exact (Blk.new w 23 #[.int .i64 s.kind,.string s.text,.int .i64 s.n]))
 clear hw1
 obtain ⟨s0,s1,s2⟩:=Ks.out.c3
 have sz:=Ks.out.lt
 go_wp2_with fail
 with_reducible refine (rvalid_is s _).mono ?_
 rintro e w2 ⟨rfl,hb⟩
 have hbs:=Below.trans (show Below w1.heap.size w1 _ from (by (repeat (first | exact Below.refl _ _ | refine Below.drew ?_ | refine Below.al ?_ _ | refine Below.sc ?_ _)))) (hb.mono (by simp<;>omega))
 have Ks:=Lib.hid (Ks.out.new_ hbs)
 have HB:=Lib.hid (HB.out.trans (hbs.mono HB.out.size))
 have hsz2:=hbs.size
 clear s0 s1 s2 sz hb hbs
 obtain ⟨s0,s1,s2⟩:=Ks.out.c3
 have sz:=Ks.out.lt
 cases hv:validB s
 · skip
   go_wp2_with fail
   go_ret
   exact ⟨_,rfl,by (repeat (first | exact Below.refl _ _ | exact HB.out | refine Below.drew ?_ | refine Below.al ?_ _ | refine Below.sc ?_ _))⟩
 · skip
   go_wp2_with fail
   go_ret
   exact ⟨_,rfl,by (repeat (first | exact Below.refl _ _ | exact HB.out | refine Below.drew ?_ | refine Below.al ?_ _ | refine Below.sc ?_ _))⟩
set_option maxRecDepth 100000 in
set_option maxHeartbeats 4000000 in
theorem elemv_is (e:Elem) (w:World):Calls Tryz.prog 59 #[.agg #[.int .i64 e.id.kind,.string e.id.text,.int .i64 e.id.n,.int .i64 e.attr.kind,.string e.attr.text,.int .i64 e.attr.n,.int .i64 e.value.kind,.string e.value.text,.int .i64 e.value.n,.bool e.acc,.bool e.goal,.int .i64 e.tag]] w fun en w'=>∃b,en = .returned (.bool b)∧Below w.heap.size w w':=by
 go_enter Tryz.func59,Tryz.ntmps59
 go_upto_region 1 with fail
 obtain ⟨w1,hw1⟩ : ∃w1,w1=(w.alloc (.cells #[.int .i64 e.id.kind,.string e.id.text,.int .i64 e.id.n,.int .i64 e.attr.kind,.string e.attr.text,.int .i64 e.attr.n,.int .i64 e.value.kind,.string e.value.text,.int .i64 e.value.n,.bool e.acc,.bool e.goal,.int .i64 e.tag] 55)):=⟨_,rfl⟩
 rw [← hw1]
 have HB:=Lib.hid (show Below w.heap.size w w1 by rw [hw1];exact (by repeat (first | exact Below.refl _ _ | refine Below.drew ?_ | refine Below.al ?_ _ | refine Below.sc ?_ _)))
 have Ke:=Lib.hid (show Blk w1 (w.heap.size) 55 #[.int .i64 e.id.kind,.string e.id.text,.int .i64 e.id.n,.int .i64 e.attr.kind,.string e.attr.text,.int .i64 e.attr.n,.int .i64 e.value.kind,.string e.value.text,.int .i64 e.value.n,.bool e.acc,.bool e.goal,.int .i64 e.tag] by rw [hw1];exact (Blk.new w 55 #[.int .i64 e.id.kind,.string e.id.text,.int .i64 e.id.n,.int .i64 e.attr.kind,.string e.attr.text,.int .i64 e.attr.n,.int .i64 e.value.kind,.string e.value.text,.int .i64 e.value.n,.bool e.acc,.bool e.goal,.int .i64 e.tag]))
 clear hw1
 obtain ⟨e0,e1,e2,e3,e4,e5,e6,e7,e8,e9,e10,e11⟩:=Ke.out.c12
 have ez:=Ke.out.lt
 go_wp2_with fail
 with_reducible refine (rvalid_is e.id _).mono ?_
 rintro en w2 ⟨rfl,hb⟩
 have hbs:=Below.trans (show Below w1.heap.size w1 _ from (by (repeat (first | exact Below.refl _ _ | refine Below.drew ?_ | refine Below.al ?_ _ | refine Below.sc ?_ _)))) (hb.mono (by simp<;>omega))
 have Ke:=Lib.hid (Ke.out.new_ hbs)
 have HB:=Lib.hid (HB.out.trans (hbs.mono HB.out.size))
 have hsz2:=hbs.size
 clear e0 e1 e2 e3 e4 e5 e6 e7 e8 e9 e10 e11 ez hb hbs
 obtain ⟨e0,e1,e2,e3,e4,e5,e6,e7,e8,e9,e10,e11⟩:=Ke.out.c12
 have ez:=Ke.out.lt
 cases hv:validB e.id
 · skip
   go_wp2_with fail
   go_ret
   exact ⟨_,rfl,by (repeat (first | exact Below.refl _ _ | exact HB.out | refine Below.drew ?_ | refine Below.al ?_ _ | refine Below.sc ?_ _))⟩
 · skip
   by_cases h2:e.id.kind=1
   · skip
     have ka:(e.id.kind == 1)=true:=by simp [h2]
     have kb:decide (e.id.kind=1)=true:=by simp [h2]
     go_wp2_with fail
     with_reducible refine (constv_is e.attr _).mono ?_
     rintro en w3 ⟨b2,rfl,hb⟩
     have hbs:=Below.trans (show Below w2.heap.size w2 _ from (by (repeat (first | exact Below.refl _ _ | refine Below.drew ?_ | refine Below.al ?_ _ | refine Below.sc ?_ _)))) (hb.mono (by simp<;>omega))
     have Ke:=Lib.hid (Ke.out.new_ hbs)
     have HB:=Lib.hid (HB.out.trans (hbs.mono HB.out.size))
     have hsz3:=hbs.size
     clear e0 e1 e2 e3 e4 e5 e6 e7 e8 e9 e10 e11 ez hb hbs
     obtain ⟨e0,e1,e2,e3,e4,e5,e6,e7,e8,e9,e10,e11⟩:=Ke.out.c12
     have ez:=Ke.out.lt
     cases b2
     · skip
       go_wp2_with fail
       go_ret
       exact ⟨_,rfl,by (repeat (first | exact Below.refl _ _ | exact HB.out | refine Below.drew ?_ | refine Below.al ?_ _ | refine Below.sc ?_ _))⟩
     · skip
       go_wp2_with fail
       with_reducible refine (rvalid_is e.value _).mono ?_
       rintro en w4 ⟨rfl,hb⟩
       have hbs:=Below.trans (show Below w3.heap.size w3 _ from (by (repeat (first | exact Below.refl _ _ | refine Below.drew ?_ | refine Below.al ?_ _ | refine Below.sc ?_ _)))) (hb.mono (by simp<;>omega))
       have Ke:=Lib.hid (Ke.out.new_ hbs)
       have HB:=Lib.hid (HB.out.trans (hbs.mono HB.out.size))
       have hsz4:=hbs.size
       clear e0 e1 e2 e3 e4 e5 e6 e7 e8 e9 e10 e11 ez hb hbs
       obtain ⟨e0,e1,e2,e3,e4,e5,e6,e7,e8,e9,e10,e11⟩:=Ke.out.c12
       have ez:=Ke.out.lt
       go_wp2_with fail
       go_ret
       exact ⟨_,rfl,by (repeat (first | exact Below.refl _ _ | exact HB.out | refine Below.drew ?_ | refine Below.al ?_ _ | refine Below.sc ?_ _))⟩
   · skip
     have ka:(e.id.kind == 1)=false:=by simp [h2]
     have kb:decide (e.id.kind=1)=false:=by simp [h2]
     go_wp2_with fail
     go_ret
     exact ⟨_,rfl,by (repeat (first | exact Below.refl _ _ | exact HB.out | refine Below.drew ?_ | refine Below.al ?_ _ | refine Below.sc ?_ _))⟩
set_option maxRecDepth 100000 in
set_option maxHeartbeats 4000000 in
theorem ints_same (A B:Option Addr) (c d:Nat) (l:List Int) (w:World) (hl:RowRd w 1 Int.cells1 A c l) (hm:RowRd w 1 Int.cells1 B d l) :
 Calls Tryz.prog 29 #[.slice A l.length c,.slice B l.length d] w fun e w'=>e = .returned (.bool true)∧Below w.heap.size w w':=by
 have HL:=Lib.hid hl
 have HM:=Lib.hid hm
 have hlc:=hl.cap
 clear hl hm
 have t1:((l.length:Int) != (l.length:Int))=false:=by simp
 go_enter Tryz.func29,Tryz.ntmps29
 go_wp2_with fail
 go_loopw [5] (fun s wr=>∃i:Nat,s = .int .i64 i∧i≤l.length∧Below w.heap.size w wr) (fun s wr=>l.length - (intOf s).toNat)
 case atStart=>exact ⟨0,rfl,Nat.zero_le _,Below.refl _ _⟩
 case round=>
  obtain ⟨i,rfl,hi,hB⟩:=hrel
  have HB:=Lib.hid hB
  clear hB
  by_cases hlt:i<l.length
  · obtain ⟨x,hx⟩ : ∃x,x=l[i]:=⟨_,rfl⟩
    obtain ⟨g,off,rfl,hgs,hcell⟩:=(HL.out.new_ HB.out).at_ hlt
    obtain ⟨g2,off2,rfl,hgs2,hcell2⟩:=(HM.out.new_ HB.out).at_ hlt
    rw [← hx] at hcell hcell2
    have q0:wr.cell? ⟨g,off+i,none⟩=some (.int .i64 x):=by simpa using hcell 0 _ rfl
    have p0:wr.cell? ⟨g2,off2+i,none⟩=some (.int .i64 x):=by simpa using hcell2 0 _ rfl
    have b1:(0:Int)≤(i:Int):=by omega
    have b2:(i:Int)<(l.length:Int):=by omega
    have b4:(x != x)=false:=by simp
    clear hcell hcell2 hx
    go_wp2_with fail
    go_quiet (fail)
    have HB2:=Lib.hid (Below.drewN' HB.out nq)
    clear q0 p0
    go_wp2_with fail
    go_roundw
    case rel=>exact ⟨i+1,by go_num,by omega,HB2.out⟩
    case measure=>simp [intOf]<;>omega
  · obtain rfl:i=l.length:=by omega
    go_wp2_with fail
    go_ret
    exact ⟨rfl,HB.out⟩
theorem row_rec1 {n:Nat} {W:World} {g:Nat} {es:List TraceT} {A:Option Addr} {c:Nat} (hb:Blk W g 121 #[.int .i64 0,.int .i64 0,.slice A es.length c,.slice none 0 0,.slice none 0 0,.slice none 0 0]) (h:RowRd W 14 TraceT.cells A c es) :
 RowR (repRecordT n) (fun _=>True) W (some ⟨g,0,none⟩) 1 [⟨0,0,es,[],[],[]⟩]:=by
 refine ⟨Nat.le_refl _,by unfold maxLen;omega,fun _=>⟨g,0,rfl,trivial,hb.lt,fun k hk=>?_⟩⟩
 obtain rfl:k=0:=by simpa using hk
 refine ⟨_,⟨A,c,none,0,none,0,none,0,rfl,RowR.of_rd (hs:=TraceT.cells_length) h (fun _ _=>trivial),RowR.nil _ _ _,RowR.nil _ _ _,RowR.nil _ _ _⟩,fun j u hu=>?_⟩
 simp only [Nat.zero_mul,Nat.add_zero,Nat.zero_add]
 rw [hb.cell]
 simpa using hu
set_option maxRecDepth 100000 in
set_option maxHeartbeats 8000000 in
theorem heavyv_is (es:List TraceT) (AE:Option Addr) (cE:Nat) (prefs:List PrefT) (AP:Option Addr) (cP:Nat) (w:World) (h1:RowRd w 14 TraceT.cells AE cE es) (h3:RowRd w 16 PrefT.cells AP cP prefs) :
 Calls Tryz.prog 16 #[.slice AE es.length cE,.slice none 0 0,.slice none 0 0,.slice AP prefs.length cP] w fun e w'=>∃b,e = .returned (.bool b)∧Below w.heap.size w w'∧(b=false→es.length≤20∧prefs.length≤20):=by
 have H1:=Lib.hid h1
 have H3:=Lib.hid h3
 have hc1:=h1.cap
 have hc3:=h3.cap
 clear h1 h3
 by_cases hm:(20:Int)<(prefs.length:Int)
 · have d0:decide ((20:Int)<(prefs.length:Int))=true:=by simpa using hm
   clear hm
   go_enter Tryz.func16,Tryz.ntmps16
   go_wp2_with fail
   go_ret
   exact ⟨true,rfl,Below.refl _ _,fun h=>by cases h⟩
 · have d0:decide ((20:Int)<(prefs.length:Int))=false:=by simpa using hm
   have HM:=Lib.hid (show prefs.length≤20 by omega)
   clear hm
   go_enter Tryz.func16,Tryz.ntmps16
   go_wp2_with fail
   have hb6:Below w.heap.size w (w.alloc (.cells #[.int .i64 0,.int .i64 0,.slice AE es.length cE,.slice none 0 0,.slice none 0 0,.slice none 0 0] 121)):=(Below.refl _ _).alloc (Nat.le_refl _) _
   refine (heavy21_is 0 (some ⟨w.heap.size,0,none⟩) 1 [⟨0,0,es,[],[],[]⟩] _ (row_rec1 (Blk.new _ _ _) (H1.out.new_ hb6))).mono ?_
   rintro e w1 ⟨b,rfl,hb1,hs⟩
   have HB1:=Lib.hid (hb6.trans (hb1.mono hb6.size))
   have HS:=Lib.hid hs
   clear hb1 hs hb6
   cases b
   · have HE:=Lib.hid (show es.length≤20 from ((HS.out rfl).2 _ List.mem_cons_self).2)
     go_wp2_with fail
     go_loopw [9] (fun s wr=>∃i:Nat,s = .int .i64 i∧i≤prefs.length∧Below w.heap.size w wr) (fun s wr=>prefs.length - (intOf s).toNat)
     case atStart=>exact ⟨0,rfl,Nat.zero_le _,HB1.out⟩
     case round=>
      obtain ⟨i,rfl,hi,hB⟩:=hrel
      have HB:=Lib.hid hB
      clear hB
      by_cases hlt:i<prefs.length
      · obtain ⟨y,hy⟩ : ∃y,y=prefs[i]:=⟨_,rfl⟩
        obtain ⟨g,off,hA0,hg,hcell⟩:=(H3.out.new_ HB.out).at_ hlt
        subst hA0
        rw [← hy] at hcell
        have q1:wr.cell? ⟨g,off+i*16+1,none⟩=some (.string y.id.text):=hcell 1 _ rfl
        have q4:wr.cell? ⟨g,off+i*16+4,none⟩=some (.string y.attr.text):=hcell 4 _ rfl
        have q7:wr.cell? ⟨g,off+i*16+7,none⟩=some (.string y.value.text):=hcell 7 _ rfl
        have q10:wr.cell? ⟨g,off+i*16+10,none⟩=some (.string y.other.text):=hcell 10 _ rfl
        have b1:(0:Int)≤(i:Int):=by omega
        have b2:(i:Int)<(prefs.length:Int):=by omega
        clear hy hcell
        cases d1:decide ((100:Int)<(y.id.text.size:Int))
        case true=>go_wp2_with fail;go_ret;exact ⟨true,rfl,HB.out,fun h=>by cases h⟩
        cases d2:decide ((100:Int)<(y.attr.text.size:Int))
        case true=>go_wp2_with fail;go_ret;exact ⟨true,rfl,HB.out,fun h=>by cases h⟩
        cases d3:decide ((100:Int)<(y.value.text.size:Int))
        case true=>go_wp2_with fail;go_ret;exact ⟨true,rfl,HB.out,fun h=>by cases h⟩
        cases d4:decide ((100:Int)<(y.other.text.size:Int))
        case true=>go_wp2_with fail;go_ret;exact ⟨true,rfl,HB.out,fun h=>by cases h⟩
        go_wp2_with fail
        go_roundw
        case rel=>exact ⟨i+1,by go_num,by omega,HB.out⟩
        case measure=>simp [intOf]<;>omega
      · obtain rfl:i=prefs.length:=by omega
        go_wp2_with fail
        go_ret
        exact ⟨false,rfl,HB.out,fun _=>⟨HE.out,HM.out⟩⟩
   · go_wp2_with fail
     go_ret
     exact ⟨true,rfl,HB1.out,fun h=>by cases h⟩
theorem inf_TraceV:(Tryz.prog.info? 57).map (fun i=>(i.zero,i.size,i.bytes))=some (some (.agg #[.int .i64 0,.string ⟨#[]⟩,.int .i64 0,.int .i64 0,.string ⟨#[]⟩,.int .i64 0,.int .i64 0,.string ⟨#[]⟩,.int .i64 0,.bool false,.bool false,.int .i64 0,.int .i64 0,.int .i64 0]),14,128):=by kernel_rfl
theorem one_TraceV (l:List TraceT) : ∀u∈l.flatMap TraceT.cells,u.oneCell'=true:=by
 intro u hu
 obtain ⟨b,_,hb⟩:=List.mem_flatMap.1 hu
 simp only [TraceT.cells,List.mem_cons,List.not_mem_nil,or_false] at hb
 rcases hb with rfl | rfl | rfl | rfl | rfl | rfl | rfl | rfl | rfl | rfl | rfl | rfl | rfl | rfl<;>rfl
structure RV (X:World) (m:List TraceT) (A:Option Addr) (c:Nat) (w:World):Prop where
 own:w.ownsRow 0 57 14 (.slice A m.length c) m.length (m.flatMap TraceT.cells)
 ain:AIn A (X.heap.size≤·)
 bel:Below X.heap.size X w
theorem RV.new_ {X w w':World} {m:List TraceT} {A:Option Addr} {c:Nat} (h:RV X m A c w) (hb:Below w.heap.size w w'):RV X m A c w':=⟨ownsRow_new h.own hb,h.ain,h.bel.trans (hb.mono h.bel.size)⟩
def RightTo (X:World) (e:Ending) (w':World):Prop:=∃(l:List TraceT) (A:Option Addr) (c:Nat),e = .returned (.slice A l.length c)∧l.length≤20∧RowRd w' 14 TraceT.cells A c l∧Below X.heap.size X w'
set_option maxRecDepth 100000 in
set_option maxHeartbeats 8000000 in
theorem right_is (es:List TraceT) (AE:Option Addr) (cE:Nat) (w:World) (h1:RowRd w 14 TraceT.cells AE cE es) (hl:es.length≤20):Calls Tryz.prog 17 #[.slice AE es.length cE] w (RightTo w):=by
 obtain ⟨i0,hi0,hz0,hz1,hz2⟩:=infp inf_TraceV
 have H1:=Lib.hid h1
 have hc1:=h1.cap
 have HL:=Lib.hid hl
 clear h1 hl
 go_enter Tryz.func17,Tryz.ntmps17
 go_wp2_with fail
 go_loopw [3,4] (fun vm vi wr=>∃(i:Nat) (m:List TraceT) (Am:Option Addr) (cm:Nat),vi = .int .i64 (i:Int)∧i≤es.length∧vm = .slice Am m.length cm∧m.length≤i∧RV w m Am cm wr) (fun vm vi wr=>es.length - (intOf vi).toNat)
 case atStart=>exact ⟨0,[],none,0,rfl,Nat.zero_le _,rfl,Nat.le_refl _,⟨by simp,.inl ⟨rfl,rfl⟩⟩,AIn.none_ _,Below.refl _ _⟩
 case round=>
  obtain ⟨i,m,Am,cm,rfl,hi,rfl,hml,ht⟩:=hrel
  have HT:=Lib.hid ht
  have HML:=Lib.hid hml
  have hmc:m.length≤20:=by have:=HL.out;omega
  clear ht hml
  by_cases hlt:i<es.length
  · obtain ⟨y,hy⟩ : ∃y,y=es[i]:=⟨_,rfl⟩
    obtain ⟨g,off,hAA,hgl,hrg⟩:=(H1.out.new_ HT.out.bel).range hlt
    rw [← hy] at hrg
    subst hAA
    have HRG:=Lib.hid (show wr.rangeAt g (off+i*14) [.int .i64 y.elem.id.kind,.string y.elem.id.text,.int .i64 y.elem.id.n,.int .i64 y.elem.attr.kind,.string y.elem.attr.text,.int .i64 y.elem.attr.n,.int .i64 y.elem.value.kind,.string y.elem.value.text,.int .i64 y.elem.value.n,.bool y.elem.acc,.bool y.elem.goal,.int .i64 y.elem.tag,.int .i64 y.level,.int .i64 y.cause] from hrg)
    have HTH:=Lib.hid (show (wr.alloc (.cells #[.int .i64 0,.string ⟨#[]⟩,.int .i64 0,.int .i64 0,.string ⟨#[]⟩,.int .i64 0,.int .i64 0,.string ⟨#[]⟩,.int .i64 0,.bool false,.bool false,.int .i64 0,.int .i64 0,.int .i64 0] 57)).there wr.heap.size 0 (#[.int .i64 y.elem.id.kind,.string y.elem.id.text,.int .i64 y.elem.id.n,.int .i64 y.elem.attr.kind,.string y.elem.attr.text,.int .i64 y.elem.attr.n,.int .i64 y.elem.value.kind,.string y.elem.value.text,.int .i64 y.elem.value.n,.bool y.elem.acc,.bool y.elem.goal,.int .i64 y.elem.tag,.int .i64 y.level,.int .i64 y.cause]:Array Value).size from (Blk.new wr 57 #[.int .i64 0,.string ⟨#[]⟩,.int .i64 0,.int .i64 0,.string ⟨#[]⟩,.int .i64 0,.int .i64 0,.string ⟨#[]⟩,.int .i64 0,.bool false,.bool false,.int .i64 0,.int .i64 0,.int .i64 0]).there)
    obtain ⟨W5,hW5⟩ : ∃W5,W5=(wr.alloc (.cells #[.int .i64 0,.string ⟨#[]⟩,.int .i64 0,.int .i64 0,.string ⟨#[]⟩,.int .i64 0,.int .i64 0,.string ⟨#[]⟩,.int .i64 0,.bool false,.bool false,.int .i64 0,.int .i64 0,.int .i64 0] 57)).setCells wr.heap.size 0 [.int .i64 y.elem.id.kind,.string y.elem.id.text,.int .i64 y.elem.id.n,.int .i64 y.elem.attr.kind,.string y.elem.attr.text,.int .i64 y.elem.attr.n,.int .i64 y.elem.value.kind,.string y.elem.value.text,.int .i64 y.elem.value.n,.bool y.elem.acc,.bool y.elem.goal,.int .i64 y.elem.tag,.int .i64 y.level,.int .i64 y.cause]:=⟨_,rfl⟩
    have HW5:=Lib.hid hW5
    have HK5:=Lib.hid (show Blk W5 wr.heap.size 57 #[.int .i64 y.elem.id.kind,.string y.elem.id.text,.int .i64 y.elem.id.n,.int .i64 y.elem.attr.kind,.string y.elem.attr.text,.int .i64 y.elem.attr.n,.int .i64 y.elem.value.kind,.string y.elem.value.text,.int .i64 y.elem.value.n,.bool y.elem.acc,.bool y.elem.goal,.int .i64 y.elem.tag,.int .i64 y.level,.int .i64 y.cause] from kept_blk (zs:=[.int .i64 0,.string ⟨#[]⟩,.int .i64 0,.int .i64 0,.string ⟨#[]⟩,.int .i64 0,.int .i64 0,.string ⟨#[]⟩,.int .i64 0,.bool false,.bool false,.int .i64 0,.int .i64 0,.int .i64 0]) (vs:=[.int .i64 y.elem.id.kind,.string y.elem.id.text,.int .i64 y.elem.id.n,.int .i64 y.elem.attr.kind,.string y.elem.attr.text,.int .i64 y.elem.attr.n,.int .i64 y.elem.value.kind,.string y.elem.value.text,.int .i64 y.elem.value.n,.bool y.elem.acc,.bool y.elem.goal,.int .i64 y.elem.tag,.int .i64 y.level,.int .i64 y.cause]) rfl hW5 (by rw [hW5];exact World.rangeAt_setCells_same _ _ _ _ HTH.out))
    have HB5:=Lib.hid (show Below wr.heap.size wr W5 by rw [hW5];exact Below.setCells' _ _ ((Below.refl _ _).alloc (Nat.le_refl _) _) (Nat.le_refl _))
    have j1:(0:Int)≤(i:Int):=by omega
    have j2:(i:Int)<(es.length:Int):=by omega
    have v1:IntKind.i64.wrap ((i:Int)+1)=(i:Int)+1:=IntWalk.i64_in _ (by have:=HL.out;omega)
    clear hW5 hrg hy
    go_upto_region 6 with (first
     | (with_reducible refine wpList_load_mid rfl 57 _ rfl g (off+i*14) rfl [.int .i64 y.elem.id.kind,.string y.elem.id.text,.int .i64 y.elem.id.n,.int .i64 y.elem.attr.kind,.string y.elem.attr.text,.int .i64 y.elem.attr.n,.int .i64 y.elem.value.kind,.string y.elem.value.text,.int .i64 y.elem.value.n,.bool y.elem.acc,.bool y.elem.goal,.int .i64 y.elem.tag,.int .i64 y.level,.int .i64 y.cause] _ HRG.out Tryz.underlying57 rfl (by kernel_rfl) ?_)
     | ((with_reducible refine wpList_store_mid rfl 57 _ _ rfl wr.heap.size 0 #[.int .i64 y.elem.id.kind,.string y.elem.id.text,.int .i64 y.elem.id.n,.int .i64 y.elem.attr.kind,.string y.elem.attr.text,.int .i64 y.elem.attr.n,.int .i64 y.elem.value.kind,.string y.elem.value.text,.int .i64 y.elem.value.n,.bool y.elem.acc,.bool y.elem.goal,.int .i64 y.elem.tag,.int .i64 y.level,.int .i64 y.cause] rfl rfl HTH.out (by kernel_rfl) (by kernel_rfl) ?_);rw [← HW5.out]))
    obtain ⟨bx,hbx⟩ : ∃b,b=wr.heap.size:=⟨_,rfl⟩
    rw [← hbx] at HK5 ⊢
    have HBXE:=Lib.hid hbx
    clear hbx
    have k11:=(HK5.out.cell 11).trans rfl
    have f11:=HK5.out.frozen 11
    have kz:=HK5.out.lt
    go_upto_region 7 with fail
    obtain ⟨W6,hW6⟩ : ∃W,W=W5.setCell ⟨bx,11,none⟩ (.int .i64 ((i:Int)+1)):=⟨_,rfl⟩
    have HK6:=Lib.hid (show Blk W6 bx 57 #[.int .i64 y.elem.id.kind,.string y.elem.id.text,.int .i64 y.elem.id.n,.int .i64 y.elem.attr.kind,.string y.elem.attr.text,.int .i64 y.elem.attr.n,.int .i64 y.elem.value.kind,.string y.elem.value.text,.int .i64 y.elem.value.n,.bool y.elem.acc,.bool y.elem.goal,.int .i64 ((i:Int)+1),.int .i64 y.level,.int .i64 y.cause] by rw [hW6];have:=HK5.out.set_ 11 (.int .i64 ((i:Int)+1));simpa using this)
    have HB6:=Lib.hid (show Below wr.heap.size wr W6 by rw [hW6];exact Below.sc HB5.out _ (by have:=HBXE.out;show wr.heap.size≤bx;omega))
    rw [← hW6]
    have HRX:=Lib.hid (show W6.rangeAt bx 0 [.int .i64 y.elem.id.kind,.string y.elem.id.text,.int .i64 y.elem.id.n,.int .i64 y.elem.attr.kind,.string y.elem.attr.text,.int .i64 y.elem.attr.n,.int .i64 y.elem.value.kind,.string y.elem.value.text,.int .i64 y.elem.value.n,.bool y.elem.acc,.bool y.elem.goal,.int .i64 ((i:Int)+1)] from rangeAt_pre (m:=[.int .i64 y.level,.int .i64 y.cause]) HK6.out.range)
    clear hW6 k11 f11 kz
    go_wp2_with (with_reducible refine wpList_load_mid rfl 55 _ rfl bx 0 rfl [.int .i64 y.elem.id.kind,.string y.elem.id.text,.int .i64 y.elem.id.n,.int .i64 y.elem.attr.kind,.string y.elem.attr.text,.int .i64 y.elem.attr.n,.int .i64 y.elem.value.kind,.string y.elem.value.text,.int .i64 y.elem.value.n,.bool y.elem.acc,.bool y.elem.goal,.int .i64 ((i:Int)+1)] _ HRX.out Tryz.underlying55 rfl (by kernel_rfl) ?_)
    refine (elemv_is { y.elem with tag:=(i:Int)+1 } _).mono ?_
    rintro e w7 ⟨b,rfl,hb7⟩
    have HK7:=Lib.hid (HK6.out.new_ hb7)
    have HB7:=Lib.hid (HB6.out.trans (hb7.mono HB6.out.size))
    have HT7:=Lib.hid (HT.out.new_ HB7.out)
    clear hb7
    cases b
    · go_wp2_with fail
      go_roundw
      case rel=>exact ⟨i+1,m,Am,cm,by go_num,by omega,rfl,by have:=HML.out;omega,HT7.out⟩
      case measure=>simp [intOf]<;>omega
    · have HRY:=Lib.hid (show w7.rangeAt bx 0 [.int .i64 y.elem.id.kind,.string y.elem.id.text,.int .i64 y.elem.id.n,.int .i64 y.elem.attr.kind,.string y.elem.attr.text,.int .i64 y.elem.attr.n,.int .i64 y.elem.value.kind,.string y.elem.value.text,.int .i64 y.elem.value.n,.bool y.elem.acc,.bool y.elem.goal,.int .i64 ((i:Int)+1),.int .i64 y.level,.int .i64 y.cause] from HK7.out.range)
      obtain ⟨y2,hy2⟩ : ∃y2:TraceT,y2=⟨{ y.elem with tag:=(i:Int)+1 },y.level,y.cause⟩:=⟨_,rfl⟩
      have HC2:=Lib.hid (show [y2].flatMap TraceT.cells = [.int .i64 y.elem.id.kind,.string y.elem.id.text,.int .i64 y.elem.id.n,.int .i64 y.elem.attr.kind,.string y.elem.attr.text,.int .i64 y.elem.attr.n,.int .i64 y.elem.value.kind,.string y.elem.value.text,.int .i64 y.elem.value.n,.bool y.elem.acc,.bool y.elem.goal,.int .i64 ((i:Int)+1),.int .i64 y.level,.int .i64 y.cause] by rw [hy2];rfl)
      obtain ⟨W8,hW8⟩ : ∃W,W=w7.alloc (.cells #[.int .i64 y.elem.id.kind,.string y.elem.id.text,.int .i64 y.elem.id.n,.int .i64 y.elem.attr.kind,.string y.elem.attr.text,.int .i64 y.elem.attr.n,.int .i64 y.elem.value.kind,.string y.elem.value.text,.int .i64 y.elem.value.n,.bool y.elem.acc,.bool y.elem.goal,.int .i64 ((i:Int)+1),.int .i64 y.level,.int .i64 y.cause] 57):=⟨_,rfl⟩
      have HW8:=Lib.hid hW8
      have hb8:Below w7.heap.size w7 W8:=by rw [hW8];exact (Below.refl _ _).alloc (Nat.le_refl _) _
      have HT8:=Lib.hid (HT7.out.new_ hb8)
      have HN8:=Lib.hid (show 0<1→∃ad,(some (⟨w7.heap.size,0,none⟩:Addr))=some ad∧∀j u,([y2].flatMap TraceT.cells)[j]? = some u→W8.cell? (ad.add j)=some u from fun _=>⟨_,rfl,by rw [HC2.out,hW8];exact World.news_of_block (heap_alloc_new _ _)⟩)
      clear hy2 hW8 hb8
      go_wp2_with (first
       | (with_reducible refine wpList_load_mid rfl 57 _ rfl bx 0 rfl [.int .i64 y.elem.id.kind,.string y.elem.id.text,.int .i64 y.elem.id.n,.int .i64 y.elem.attr.kind,.string y.elem.attr.text,.int .i64 y.elem.attr.n,.int .i64 y.elem.value.kind,.string y.elem.value.text,.int .i64 y.elem.value.n,.bool y.elem.acc,.bool y.elem.goal,.int .i64 ((i:Int)+1),.int .i64 y.level,.int .i64 y.cause] _ HRY.out Tryz.underlying57 rfl (by kernel_rfl) ?_)
       | (at_builtin;rw [← HW8.out];refine wpList_append_src W8 rfl (.tmp 23) (.tmp 25) 27 rfl 57 i0 _ 14 128 Tryz.underlying27 hi0 hz0 hz1 hz2 rfl (by omega) (.slice Am m.length cm) m.length (m.flatMap TraceT.cells) rfl HT8.out.own (some ⟨w7.heap.size,0,none⟩) 1 1 ([y2].flatMap TraceT.cells) rfl rfl HN8.out (one_TraceV _) (by unfold maxLen;omega) (by omega) ?_;intro v3 w9 hown1 hg1 hnil1 hat1;obtain ⟨A9,c9,rfl,hO9,hA9,hb9⟩:=fresh_any (B:=w.heap.size) hown1 hg1 hat1 HT8.out.ain HT8.out.bel.size;obtain ⟨mn,hmn⟩ : ∃mn,mn=m ++ [y2]:=⟨_,rfl⟩;have hkk:m.length+1=mn.length:=(by rw [hmn];simp);rw [← List.flatMap_append,← hmn,hkk] at hO9;rw [hkk];have hmi:mn.length≤i+1:=(by have:=HML.out;omega);have HMI:=Lib.hid hmi;have HT9:=Lib.hid (show RV w mn A9 c9 w9 from ⟨hO9,hA9,HT8.out.bel.trans hb9⟩);clear hown1 hg1 hnil1 hat1 hO9 hA9 hb9 hkk hmn hmi))
      go_roundw
      case rel=>exact ⟨i+1,mn,A9,c9,by go_num,by omega,rfl,HMI.out,HT9.out⟩
      case measure=>simp [intOf]<;>omega
  · obtain rfl:i=es.length:=by omega
    have jz : ¬(es.length:Int)<(es.length:Int):=by omega
    go_wp2_with fail
    go_ret
    exact ⟨m,Am,cm,rfl,by omega,ownsRow_rd TraceT.cells_length HT.out.own,HT.out.bel⟩
def TrailTo (es:List TraceT) (news:List Sym) (X:World) (e:Ending) (w':World):Prop:=Below X.heap.size X w'∧∃A1 c1 A2 c2 A3 c3 A4 c4 B1 d1 B2 d2 B3 d3 B4 d4,e = .returned (.tuple #[.agg #[.slice A1 es.length c1,.slice A2 0 c2,.slice A3 0 c3,.slice A4 news.length c4,.int .i64 0,.int .i64 0],.agg #[.slice B1 es.length d1,.slice B2 0 d2,.slice B3 0 d3,.slice B4 news.length d4,.int .i64 0,.int .i64 0]])∧RowRd w' 14 TraceT.cells A1 c1 es∧RowRd w' 3 Sym.cells A4 c4 news
theorem results_cell2 {P:Program} {fn:Func} {t s:Tmp} {T T2:TypeId} (h:fn.results = #[.cell t T,.cell s T2]) (tmps:Array Value) (w:World) (g g2:Nat) (cs cs2:List Value) (d d2:TypeDesc) (ht:tmps.getD t undef = .pointer (some ⟨g,0,none⟩)) (hs:tmps.getD s undef = .pointer (some ⟨g2,0,none⟩)) (hc:w.rangeAt g 0 cs) (hc2:w.rangeAt g2 0 cs2)
 (hu:P.underlying T=some d) (hd:d.isRow=true) (hi:(P.info? T).map (·.size)=some cs.length) (hu2:P.underlying T2=some d2) (hd2:d2.isRow=true) (hi2:(P.info? T2).map (·.size)=some cs2.length):(results fn tmps).run P w = .ok (.tuple #[.agg cs.toArray,.agg cs2.toArray]) w:=by
 have hl:=run_loadVar_mid (P:=P) w g 0 T cs d hc hu hd hi
 have hl2:=run_loadVar_mid (P:=P) w g2 0 T2 cs2 d2 hc2 hu2 hd2 hi2
 have ht':tmps[t]?.getD undef = .pointer (some ⟨g,0,none⟩):=by simpa using ht
 have hs':tmps[s]?.getD undef = .pointer (some ⟨g2,0,none⟩):=by simpa using hs
 simp [results,h,ht',hs',asAddr,hl,hl2]
theorem recat_v {w:World} {es:List TraceT} {A:Option Addr} {c:Nat} {news:List Sym} {B:Option Addr} {d:Nat} (h:RowRd w 14 TraceT.cells A c es) (h2:RowRd w 3 Sym.cells B d news):RecAt 0 (fun _=>True) w ⟨0,0,es,[],[],news⟩ A c none 0 none 0 B d:=
 ⟨RowR.of_rd (hs:=TraceT.cells_length) h (fun _ _=>trivial),RowR.nil _ _ _,RowR.nil _ _ _,RowR.of_rd (hs:=Sym.cells_length) h2 (fun _ _=>trivial)⟩
set_option maxRecDepth 100000 in
set_option maxHeartbeats 8000000 in
theorem trail_is (es:List TraceT) (AE:Option Addr) (cE:Nat) (news:List Sym) (AN:Option Addr) (cN:Nat) (w:World) (h1:RowRd w 14 TraceT.cells AE cE es) (h2:RowRd w 3 Sym.cells AN cN news) (hl1:es.length≤1000) (hl2:news.length≤1000) :
 Calls Tryz.prog 19 #[.slice AE es.length cE,.slice none 0 0,.slice none 0 0,.slice AN news.length cN] w (TrailTo es news w):=by
 have hsm:SmR 0 ⟨0,0,es,[],[],news⟩:=⟨hl1,by simp,by simp,hl2,by simp⟩
 have HSM:=Lib.hid hsm
 have H1:=Lib.hid h1
 have H2:=Lib.hid h2
 have hc1:=h1.cap
 have hc2:=h2.cap
 clear h1 h2 hl1 hl2 hsm
 go_enter Tryz.func19,Tryz.ntmps19
 go_upto_region 1 with fail
 obtain ⟨W1,hW1⟩ : ∃W,W=(w.alloc (.cells #[.slice none 0 0,.slice none 0 0,.slice none 0 0,.slice none 0 0,.int .i64 0,.int .i64 0] 38)).alloc (.cells #[.slice none 0 0,.slice none 0 0,.slice none 0 0,.slice none 0 0,.int .i64 0,.int .i64 0] 39):=⟨_,rfl⟩
 obtain ⟨bt,hbt⟩ : ∃b,b=w.heap.size:=⟨_,rfl⟩
 have Kt:=Lib.hid (show Blk W1 bt 38 #[.slice none 0 0,.slice none 0 0,.slice none 0 0,.slice none 0 0,.int .i64 0,.int .i64 0] by rw [hW1,hbt];exact (Blk.new _ _ _).alloc _)
 have Kr:=Lib.hid (show Blk W1 (bt+1) 39 #[.slice none 0 0,.slice none 0 0,.slice none 0 0,.slice none 0 0,.int .i64 0,.int .i64 0] by rw [hW1,hbt];have hh:=Blk.new (w.alloc (.cells #[.slice none 0 0,.slice none 0 0,.slice none 0 0,.slice none 0 0,.int .i64 0,.int .i64 0] 38)) 39 #[.slice none 0 0,.slice none 0 0,.slice none 0 0,.slice none 0 0,.int .i64 0,.int .i64 0];simp only [World.size_alloc] at hh;exact hh)
 have HB1:=Lib.hid (show Below w.heap.size w W1 by rw [hW1];exact ((Below.refl _ _).alloc (Nat.le_refl _) _).alloc (by simp) _)
 have HBT:=Lib.hid (show w.heap.size≤bt by omega)
 rw [← hW1,← hbt]
 clear hW1 hbt
 have H1:=Lib.hid (H1.out.new_ HB1.out)
 have H2:=Lib.hid (H2.out.new_ HB1.out)
 go_upto_region 2 with fail
 refine (cprec_is 0 ⟨0,0,es,[],[],news⟩ AE cE none 0 none 0 AN cN W1 (recat_v H1.out H2.out) HSM.out).mono ?_
 rintro e w4 ⟨A1,c1,A2,c2,A3,c3,A4,c4,rfl,hr,hb⟩
 have HRA:=Lib.hid hr
 have HBx:=Lib.hid hb
 clear hr hb
 go_upto_region 2 with fail
 obtain ⟨W5,hW5⟩ : ∃W,W=w4.alloc (.cells #[.int .i64 0,.int .i64 0,.slice A1 es.length c1,.slice A2 0 c2,.slice A3 0 c3,.slice A4 news.length c4] 121):=⟨_,rfl⟩
 obtain ⟨bA,hbA⟩ : ∃b,b=w4.heap.size:=⟨_,rfl⟩
 have KA:=Lib.hid (show Blk W5 bA 121 #[.int .i64 0,.int .i64 0,.slice A1 es.length c1,.slice A2 0 c2,.slice A3 0 c3,.slice A4 news.length c4] by rw [hW5,hbA];exact Blk.new _ _ _)
 have hbn:Below W1.heap.size W1 W5:=by rw [hW5];exact HBx.out.alloc HBx.out.size _
 have hbm:Below w4.heap.size w4 W5:=by rw [hW5];exact (Below.refl _ _).alloc (Nat.le_refl _) _
 rw [← hW5,← hbA]
 have HRA:=Lib.hid (show RowR repTraceT (fun k=>bt+2≤k) W5 A1 c1 es∧RowR repSym (fun k=>bt+2≤k) W5 A4 c4 news from ⟨(HRA.out.1.weaken (fun k hk=>by have:=hk.1;have:=Kr.out.lt;omega)).new_ hbm,(HRA.out.2.2.2.weaken (fun k hk=>by have:=hk.1;have:=Kr.out.lt;omega)).new_ hbm⟩)
 have Kt:=Lib.hid (Kt.out.new_ hbn)
 have Kr:=Lib.hid (Kr.out.new_ hbn)
 have H1:=Lib.hid (H1.out.new_ hbn)
 have H2:=Lib.hid (H2.out.new_ hbn)
 have HB1:=Lib.hid (HB1.out.trans (hbn.mono HB1.out.size))
 clear hW5 hbA hbn hbm HBx
 go_upto_region 3 with fail
 refine (cprec_is 0 ⟨0,0,es,[],[],news⟩ AE cE none 0 none 0 AN cN W5 (recat_v H1.out H2.out) HSM.out).mono ?_
 rintro e w8 ⟨B1,d1,B2,d2,B3,d3,B4,d4,rfl,hr,hb⟩
 have HRB:=Lib.hid hr
 have HBx:=Lib.hid hb
 clear hr hb
 go_upto_region 3 with fail
 obtain ⟨W9,hW9⟩ : ∃W,W=w8.alloc (.cells #[.int .i64 0,.int .i64 0,.slice B1 es.length d1,.slice B2 0 d2,.slice B3 0 d3,.slice B4 news.length d4] 121):=⟨_,rfl⟩
 obtain ⟨bB,hbB⟩ : ∃b,b=w8.heap.size:=⟨_,rfl⟩
 have KB:=Lib.hid (show Blk W9 bB 121 #[.int .i64 0,.int .i64 0,.slice B1 es.length d1,.slice B2 0 d2,.slice B3 0 d3,.slice B4 news.length d4] by rw [hW9,hbB];exact Blk.new _ _ _)
 have hbn:Below W5.heap.size W5 W9:=by rw [hW9];exact HBx.out.alloc HBx.out.size _
 have hbm:Below w8.heap.size w8 W9:=by rw [hW9];exact (Below.refl _ _).alloc (Nat.le_refl _) _
 rw [← hW9,← hbB]
 have HRB:=Lib.hid (show RowR repTraceT (fun k=>bt+2≤k) W9 B1 d1 es∧RowR repSym (fun k=>bt+2≤k) W9 B4 d4 news from ⟨(HRB.out.1.weaken (fun k hk=>by have:=hk.1;have:=Kr.out.lt;omega)).new_ hbm,(HRB.out.2.2.2.weaken (fun k hk=>by have:=hk.1;have:=Kr.out.lt;omega)).new_ hbm⟩)
 have Kt:=Lib.hid (Kt.out.new_ hbn)
 have Kr:=Lib.hid (Kr.out.new_ hbn)
 have H1:=Lib.hid (H1.out.new_ hbn)
 have H2:=Lib.hid (H2.out.new_ hbn)
 have HB1:=Lib.hid (HB1.out.trans (hbn.mono HB1.out.size))
 have HRA:=Lib.hid (And.intro (HRA.out.1.new_ hbn) (HRA.out.2.new_ hbn))
 have KA:=Lib.hid (KA.out.new_ hbn)
 clear hW9 hbB hbn hbm HBx
 refine wp_region_E (fun w9=>Blk w9 bA 121 #[.int .i64 0,.int .i64 0,.slice A1 es.length c1,.slice A2 0 c2,.slice A3 0 c3,.slice A4 news.length c4]∧Blk w9 bB 121 #[.int .i64 0,.int .i64 0,.slice B1 es.length d1,.slice B2 0 d2,.slice B3 0 d3,.slice B4 news.length d4]) [(0,0),(1,1),(2,0),(3,1),(4,0),(5,1),(6,0),(7,1),(8,0),(9,0),(10,1),(11,0),(12,1),(13,0),(14,1),(15,0),(16,1),(17,0),(18,2),(19,2)] (by kernel_rfl) (by kernel_rfl) (fun KK hKK=>?_)
 simp only [beside,List.filterMap_cons,List.filterMap_nil,List.getElem?_toArray,List.getElem?_cons_zero,List.getElem?_cons_succ,Option.map_some]
 repeat ((first | (refine wpX_w ?_ (Or.inl ⟨by rfl,fun w9=>?_⟩) ?_;rotate_left 1;go_simp;with_reducible rfl) | (refine wpX_l ?_ ((And.intro KA.out.drew KB.out.drew)) (Or.inl ⟨by rfl,fun w9 hw9=>?_⟩) ?_;rotate_left 1;obtain ⟨x0,x1,x2,x3,x4,x5⟩:=hw9.1.c6;obtain ⟨y0,y1,y2,y3,y4,y5⟩:=hw9.2.c6;have xz:=hw9.1.lt;have yz:=hw9.2.lt;go_simp;with_reducible rfl) | refine wpX_w undef (Or.inr ⟨by rfl,rfl⟩) ?_ | refine wpX_l undef ((And.intro KA.out.drew KB.out.drew)) (Or.inr ⟨by rfl,rfl⟩) ?_);go_frame)
 refine wpX_es (fun K9 hK9=>?_)
 have hTH:=Kt.out.drew.there
 refine step_store_el rfl 38 _ _ rfl bt 0 #[Value.slice A1 es.length c1,Value.slice A2 0 c2,Value.slice A3 0 c3,Value.slice A4 news.length c4,Value.int IntKind.i64 0,Value.int IntKind.i64 0] rfl rfl (show _ from hTH) (by kernel_rfl) (by kernel_rfl) ?_
 obtain ⟨VA,hVA⟩ : ∃V,V=W9.drew.setCells bt 0 [Value.slice A1 es.length c1,Value.slice A2 0 c2,Value.slice A3 0 c3,Value.slice A4 news.length c4,Value.int IntKind.i64 0,Value.int IntKind.i64 0]:=⟨_,rfl⟩
 have Kt2:=Lib.hid (show Blk VA bt 38 #[Value.slice A1 es.length c1,Value.slice A2 0 c2,Value.slice A3 0 c3,Value.slice A4 news.length c4,Value.int IntKind.i64 0,Value.int IntKind.i64 0] by rw [hVA];exact Kt.out.drew.setAllD rfl)
 have Kr2:=Lib.hid (show Blk VA (bt+1) 39 #[.slice none 0 0,.slice none 0 0,.slice none 0 0,.slice none 0 0,.int .i64 0,.int .i64 0] by rw [hVA];exact Blk.farCells _ _ Kr.out.drew (Kr.out.ne_ Kt.out (by decide)))
 have KA2:=Lib.hid (show Blk VA bA 121 #[.int .i64 0,.int .i64 0,.slice A1 es.length c1,.slice A2 0 c2,.slice A3 0 c3,.slice A4 news.length c4] by rw [hVA];exact Blk.farCells _ _ KA.out.drew (KA.out.ne_ Kt.out (by decide)))
 have KB2:=Lib.hid (show Blk VA bB 121 #[.int .i64 0,.int .i64 0,.slice B1 es.length d1,.slice B2 0 d2,.slice B3 0 d3,.slice B4 news.length d4] by rw [hVA];exact Blk.farCells _ _ KB.out.drew (KB.out.ne_ Kt.out (by decide)))
 have HB2:=Lib.hid (show Below w.heap.size w VA by rw [hVA];exact Below.setCells' _ _ HB1.out.drew HBT.out)
 have HRA2:=Lib.hid (show RowR repTraceT (fun k=>bt+2≤k) VA A1 c1 es∧RowR repSym (fun k=>bt+2≤k) VA A4 c4 news by rw [hVA];exact ⟨(show RowR repTraceT (fun k=>bt+2≤k) W9.drew A1 c1 es from HRA.out.1).fr (M:=fun k=>k=bt) (Fr.setCells _ _ (Fr.refl _ _) (.inl rfl)) (fun k hk=>by have hk':bt+2≤k:=hk;show ¬k=bt;omega),(show RowR repSym (fun k=>bt+2≤k) W9.drew A4 c4 news from HRA.out.2).fr (M:=fun k=>k=bt) (Fr.setCells _ _ (Fr.refl _ _) (.inl rfl)) (fun k hk=>by have hk':bt+2≤k:=hk;show ¬k=bt;omega)⟩)
 show K9 _ (W9.drew.setCells bt 0 [Value.slice A1 es.length c1,Value.slice A2 0 c2,Value.slice A3 0 c3,Value.slice A4 news.length c4,Value.int IntKind.i64 0,Value.int IntKind.i64 0])
 rw [← hVA]
 clear hVA hTH
 refine hK9 _ _ (And.intro KA2.out KB2.out) ?_
 clear hK9 K9
 refine wpX_e (by kernel_rfl) (fun K9 hK9=>?_)
 have hTH:=Kr2.out.there
 refine step_store_el rfl 39 _ _ rfl (bt+1) 0 #[Value.slice B1 es.length d1,Value.slice B2 0 d2,Value.slice B3 0 d3,Value.slice B4 news.length d4,Value.int IntKind.i64 0,Value.int IntKind.i64 0] rfl rfl (show _ from hTH) (by kernel_rfl) (by kernel_rfl) ?_
 obtain ⟨VB,hVB⟩ : ∃V,V=VA.setCells (bt+1) 0 [Value.slice B1 es.length d1,Value.slice B2 0 d2,Value.slice B3 0 d3,Value.slice B4 news.length d4,Value.int IntKind.i64 0,Value.int IntKind.i64 0]:=⟨_,rfl⟩
 have Kr3:=Lib.hid (show Blk VB (bt+1) 39 #[Value.slice B1 es.length d1,Value.slice B2 0 d2,Value.slice B3 0 d3,Value.slice B4 news.length d4,Value.int IntKind.i64 0,Value.int IntKind.i64 0] by rw [hVB];exact Kr2.out.setAllD rfl)
 have Kt3:=Lib.hid (show Blk VB bt 38 #[Value.slice A1 es.length c1,Value.slice A2 0 c2,Value.slice A3 0 c3,Value.slice A4 news.length c4,Value.int IntKind.i64 0,Value.int IntKind.i64 0] by rw [hVB];exact Blk.farCells _ _ Kt2.out (Kt2.out.ne_ Kr2.out (by decide)))
 have HB3:=Lib.hid (show Below w.heap.size w VB by rw [hVB];exact Below.setCells' _ _ HB2.out (by have:=HBT.out;omega))
 have HRA3:=Lib.hid (show RowR repTraceT (fun k=>bt+2≤k) VB A1 c1 es∧RowR repSym (fun k=>bt+2≤k) VB A4 c4 news by rw [hVB];exact ⟨(show RowR repTraceT (fun k=>bt+2≤k) VA A1 c1 es from HRA2.out.1).fr (M:=fun k=>k=bt+1) (Fr.setCells _ _ (Fr.refl _ _) (.inl rfl)) (fun k hk=>by have hk':bt+2≤k:=hk;show ¬k=bt+1;omega),(show RowR repSym (fun k=>bt+2≤k) VA A4 c4 news from HRA2.out.2).fr (M:=fun k=>k=bt+1) (Fr.setCells _ _ (Fr.refl _ _) (.inl rfl)) (fun k hk=>by have hk':bt+2≤k:=hk;show ¬k=bt+1;omega)⟩)
 show K9 _ (VA.setCells (bt+1) 0 [Value.slice B1 es.length d1,Value.slice B2 0 d2,Value.slice B3 0 d3,Value.slice B4 news.length d4,Value.int IntKind.i64 0,Value.int IntKind.i64 0])
 rw [← hVB]
 clear hVB hTH
 refine hK9 _ _ ?_
 clear hK9 K9
 refine wpX_nil ?_
 simp only [OnlyN_normal]
 refine hKK _ _ ?_
 clear hKK KK
 have HQA:=Lib.hid (Kt3.out.range)
 have HQB:=Lib.hid (Kr3.out.range)
 go_wp2_with fail
 try simp only [Exit.inBlock,Exit.then]
 refine bodyPost_ret (v:=.tuple #[.agg #[.slice A1 es.length c1,.slice A2 0 c2,.slice A3 0 c3,.slice A4 news.length c4,.int .i64 0,.int .i64 0],.agg #[.slice B1 es.length d1,.slice B2 0 d2,.slice B3 0 d3,.slice B4 news.length d4,.int .i64 0,.int .i64 0]]) ?_ rfl ⟨HB3.out,A1,c1,A2,c2,A3,c3,A4,c4,B1,d1,B2,d2,B3,d3,B4,d4,rfl,RowR.rd (hs:=TraceT.cells_length) HRA3.out.1,RowR.rd (hs:=Sym.cells_length) HRA3.out.2⟩
 exact results_cell2 (t:=8) (s:=9) (T:=38) (T2:=39) rfl _ _ bt (bt+1) [Value.slice A1 es.length c1,Value.slice A2 0 c2,Value.slice A3 0 c3,Value.slice A4 news.length c4,Value.int IntKind.i64 0,Value.int IntKind.i64 0] [Value.slice B1 es.length d1,Value.slice B2 0 d2,Value.slice B3 0 d3,Value.slice B4 news.length d4,Value.int IntKind.i64 0,Value.int IntKind.i64 0] _ _ rfl rfl HQA.out HQB.out Tryz.underlying38 rfl (by kernel_rfl) Tryz.underlying39 rfl (by kernel_rfl)
end Go.Proofs.YtldndkngpdfpfaaGreat
namespace Go.Proofs.YtldndkngpdfpfaaGreat
open Go.RowKit Go.Shelf
theorem neqs_Sym (x:Sym) (W:World):(binOp .neq 23 (.agg #[.int .i64 x.kind,.string x.text,.int .i64 x.n]) (.agg #[.int .i64 x.kind,.string x.text,.int .i64 x.n])).run Tryz.prog W = .ok (.bool false) W:=by
 rw [run_neq_struct]
 go_simp
set_option maxRecDepth 100000 in
set_option maxHeartbeats 4000000 in
theorem syms_same {D D':Nat→Prop} {A B:Option Addr} {c d:Nat} (l:List Sym) (w:World) (hl:RowR repSym D w A c l) (hm:RowR repSym D' w B d l) :
 Calls Tryz.prog 42 #[.slice A l.length c,.slice B l.length d] w fun e w'=>e = .returned (.bool true)∧Below w.heap.size w w':=by
 have HL:=Lib.hid hl
 have HM:=Lib.hid hm
 have hlc:=hl.cap
 clear hl hm
 go_enter Tryz.func42,Tryz.ntmps42
 go_wp2_with fail
 go_loopw [5] (fun s wr=>∃i:Nat,s = .int .i64 i∧i≤l.length∧Below w.heap.size w wr) (fun s wr=>l.length - (intOf s).toNat)
 case atStart=>exact ⟨0,rfl,Nat.zero_le _,Below.refl _ _⟩
 case round=>
  obtain ⟨i,rfl,hi,hB⟩:=hrel
  have HB:=Lib.hid hB
  clear hB
  by_cases hlt:i<l.length
  · obtain ⟨x,hx⟩ : ∃x,x=l[i]:=⟨_,rfl⟩
    obtain ⟨g,off,rfl,_,hgs,q0,q1,q2⟩:=at_Sym (HL.out.new_ HB.out) hlt
    obtain ⟨g2,off2,rfl,_,hgs2,p0,p1,p2⟩:=at_Sym (HM.out.new_ HB.out) hlt
    rw [← hx] at q0 q1 q2 p0 p1 p2
    have b1:(0:Int)≤(i:Int):=by omega
    have b2:(i:Int)<(l.length:Int):=by omega
    have hbe:=fun W=>neqs_Sym x W
    clear hx
    go_wp2_with fail
    go_quiet (fail)
    have HB2:=Lib.hid (Below.drewN' HB.out nq)
    clear q0 q1 q2 p0 p1 p2
    go_wp2_with fail
    go_roundw
    case rel=>exact ⟨i+1,by go_num,by omega,HB2.out⟩
    case measure=>simp [intOf]<;>omega
  · obtain rfl:i=l.length:=by omega
    go_wp2_with fail
    go_ret
    exact ⟨rfl,HB.out⟩
end Go.Proofs.YtldndkngpdfpfaaGreat
namespace Go.Proofs.YtldndkngpdfpfaaGreat
open Go.RowKit Go.Shelf
set_option maxRecDepth 100000 in
set_option maxHeartbeats 16000000 in
theorem tests_same {D D':Nat→Prop} {A B:Option Addr} {c d:Nat} (l:List TestT) (w:World) (hl:RowR repTestT D w A c l) (hm:RowR repTestT D' w B d l) :
 Calls Tryz.prog 164 #[.slice A l.length c,.slice B l.length d] w fun e w'=>e = .returned (.bool true)∧Below w.heap.size w w':=by
 have HL:=Lib.hid hl
 have HM:=Lib.hid hm
 have hlc:=hl.cap
 clear hl hm
 go_enter Tryz.func164,Tryz.ntmps164
 go_wp2_with fail
 go_loopw [5] (fun s wr=>∃i:Nat,s = .int .i64 i∧i≤l.length∧Below w.heap.size w wr) (fun s wr=>l.length - (intOf s).toNat)
 case atStart=>exact ⟨0,rfl,Nat.zero_le _,Below.refl _ _⟩
 case round=>
  obtain ⟨i,rfl,hi,hB⟩:=hrel
  have HB:=Lib.hid hB
  clear hB
  by_cases hlt:i<l.length
  · obtain ⟨y,hy⟩ : ∃y,y=l[i]:=⟨_,rfl⟩
    have b1:(0:Int)≤(i:Int):=by omega
    have b2:(i:Int)<(l.length:Int):=by omega
    obtain ⟨g,off,A3,c3,rfl,_,hgs,q0,q1,q2,q3,q4,q5,h3⟩:=at_TestT (HL.out.new_ HB.out) hlt
    obtain ⟨g2,off2,B3,d3,rfl,_,hgs2,p0,p1,p2,p3,p4,p5,k3⟩:=at_TestT (HM.out.new_ HB.out) hlt
    rw [← hy] at q0 q1 q2 q3 q4 q5 p0 p1 p2 p3 p4 p5 h3 k3
    have H3:=Lib.hid h3
    have K3:=Lib.hid k3
    have hbe:=fun W=>neqs_Sym y.sym W
    clear hy h3 k3
    go_wp2_with fail
    refine wp_region_E (fun w9=>Below wr.heap.size wr w9) [(0,0),(1,0),(2,0),(3,0),(4,1),(5,0),(6,0),(7,0),(8,0),(9,1),(10,0),(11,0),(12,0),(13,0),(14,0),(15,0),(16,1),(17,0),(18,0),(19,0),(20,0),(21,1),(22,0),(23,0),(24,0),(25,0),(26,0),(27,0),(28,0),(29,1),(30,0),(31,0),(32,0),(33,0),(34,1),(35,0),(36,0),(37,0),(38,0),(39,0),(40,0),(41,0),(42,1),(43,0),(44,0),(45,0),(46,0),(47,1),(48,2),(49,0),(50,0)] (by kernel_rfl) (by kernel_rfl) (fun KK hKK=>?_)
    simp only [beside,List.filterMap_cons,List.filterMap_nil,List.getElem?_toArray,List.getElem?_cons_zero,List.getElem?_cons_succ,Option.map_some]
    repeat ((first | (refine wpX_w ?_ (Or.inl ⟨by rfl,fun w9=>?_⟩) ?_;rotate_left 1;go_simp;with_reducible rfl) | (refine wpX_l ?_ (((Below.refl _ _).drew)) (Or.inl ⟨by rfl,fun w9 hw9=>?_⟩) ?_;rotate_left 1;obtain ⟨hc9,hf9⟩:=bcell hw9;go_simp;with_reducible rfl) | refine wpX_w undef (Or.inr ⟨by rfl,rfl⟩) ?_ | refine wpX_l undef (((Below.refl _ _).drew)) (Or.inr ⟨by rfl,rfl⟩) ?_);go_frame)
    refine wpX_e (by kernel_rfl) (fun K9 hK9=>?_)
    go_simp
    refine (syms_same y.list _ (H3.out.new_ ((Below.refl _ _).drew)) (K3.out.new_ ((Below.refl _ _).drew))).mono ?_
    rintro e w5 ⟨rfl,hb5⟩
    have HB2:=Lib.hid ((HB.out.drew).trans (hb5.mono HB.out.size))
    clear hb5
    refine hK9 _ _ ?_
    clear hK9 K9
    repeat ((first | (refine wpX_w ?_ (Or.inl ⟨by rfl,fun w9=>?_⟩) ?_;rotate_left 1;go_simp;with_reducible rfl) | (refine wpX_l ?_ (((Below.refl _ _).drew)) (Or.inl ⟨by rfl,fun w9 hw9=>?_⟩) ?_;rotate_left 1;obtain ⟨hc9,hf9⟩:=bcell hw9;go_simp;with_reducible rfl) | refine wpX_w undef (Or.inr ⟨by rfl,rfl⟩) ?_ | refine wpX_l undef (((Below.refl _ _).drew)) (Or.inr ⟨by rfl,rfl⟩) ?_);go_frame)
    refine wpX_nil ?_
    simp only [OnlyN_normal]
    refine hKK _ _ ?_
    clear hKK KK
    clear q0 q1 q2 q3 q4 q5 p0 p1 p2 p3 p4 p5
    go_wp2_with fail
    go_roundw
    case rel=>exact ⟨i+1,by go_num,by omega,HB2.out⟩
    case measure=>simp [intOf]<;>omega
  · obtain rfl:i=l.length:=by omega
    go_wp2_with fail
    go_ret
    exact ⟨rfl,HB.out⟩
end Go.Proofs.YtldndkngpdfpfaaGreat
namespace Go.Proofs.YtldndkngpdfpfaaGreat
open Go.RowKit Go.Shelf
abbrev CondsSame (n:Nat):Prop:=∀(D D':Nat→Prop) (A B:Option Addr) (c d:Nat) (l:List CondT) (w:World),RowR (repCondT n) D w A c l→RowR (repCondT n) D' w B d l→
 Calls Tryz.prog 70 #[.slice A l.length c,.slice B l.length d] w fun e w'=>e = .returned (.bool true)∧Below w.heap.size w w'
set_option maxRecDepth 100000 in
set_option maxHeartbeats 4000000 in
theorem cond_same (n:Nat) (ih:CondsSame n) {D D':Nat→Prop} (y:CondT) (A1:Option Addr) (a1:Nat) (A2:Option Addr) (a2:Nat) (A3:Option Addr) (a3:Nat) (B1:Option Addr) (b1:Nat) (B2:Option Addr) (b2:Nat) (B3:Option Addr) (b3:Nat) (w:World)
 (g1:RowR repTestT D w A1 a1 y.attr) (g2:RowR repTestT D w A2 a2 y.value) (g3:RowR (repCondT n) D w A3 a3 y.conds) (k1:RowR repTestT D' w B1 b1 y.attr) (k2:RowR repTestT D' w B2 b2 y.value) (k3:RowR (repCondT n) D' w B3 b3 y.conds) :
 Calls Tryz.prog 124 #[.agg #[.int .i64 y.kind,.bool y.goal,.string y.id,.slice A1 y.attr.length a1,.slice A2 y.value.length a2,.bool y.acc,.slice A3 y.conds.length a3],.agg #[.int .i64 y.kind,.bool y.goal,.string y.id,.slice B1 y.attr.length b1,.slice B2 y.value.length b2,.bool y.acc,.slice B3 y.conds.length b3]] w fun e w'=>e = .returned (.bool true)∧Below w.heap.size w w':=by
 have G1:=Lib.hid g1
 have G2:=Lib.hid g2
 have G3:=Lib.hid g3
 have K1:=Lib.hid k1
 have K2:=Lib.hid k2
 have K3:=Lib.hid k3
 have IH:=Lib.hid ih
 clear g1 g2 g3 k1 k2 k3 ih
 go_enter Tryz.func124,Tryz.ntmps124
 go_upto_region 1 with fail
 obtain ⟨w1,hw1⟩ : ∃w1,w1=((w.alloc (.cells #[.int .i64 y.kind,.bool y.goal,.string y.id,.slice A1 y.attr.length a1,.slice A2 y.value.length a2,.bool y.acc,.slice A3 y.conds.length a3] 62)).alloc (.cells #[.int .i64 y.kind,.bool y.goal,.string y.id,.slice B1 y.attr.length b1,.slice B2 y.value.length b2,.bool y.acc,.slice B3 y.conds.length b3] 62)):=⟨_,rfl⟩
 rw [← hw1]
 have HB:=Lib.hid (show Below w.heap.size w w1 by rw [hw1];exact (by repeat (first | exact Below.refl _ _ | refine Below.drew ?_ | refine Below.al ?_ _ | refine Below.sc ?_ _)))
 have Ka:=Lib.hid (show Blk w1 (w.heap.size) 62 #[.int .i64 y.kind,.bool y.goal,.string y.id,.slice A1 y.attr.length a1,.slice A2 y.value.length a2,.bool y.acc,.slice A3 y.conds.length a3] by rw [hw1];exact ((Blk.new w 62 #[.int .i64 y.kind,.bool y.goal,.string y.id,.slice A1 y.attr.length a1,.slice A2 y.value.length a2,.bool y.acc,.slice A3 y.conds.length a3]).alloc (.cells #[.int .i64 y.kind,.bool y.goal,.string y.id,.slice B1 y.attr.length b1,.slice B2 y.value.length b2,.bool y.acc,.slice B3 y.conds.length b3] 62)))
 have Kb:=Lib.hid (show Blk w1 (w.heap.size+1) 62 #[.int .i64 y.kind,.bool y.goal,.string y.id,.slice B1 y.attr.length b1,.slice B2 y.value.length b2,.bool y.acc,.slice B3 y.conds.length b3] by rw [hw1];have hh:=(Blk.new (w.alloc (.cells #[.int .i64 y.kind,.bool y.goal,.string y.id,.slice A1 y.attr.length a1,.slice A2 y.value.length a2,.bool y.acc,.slice A3 y.conds.length a3] 62)) 62 #[.int .i64 y.kind,.bool y.goal,.string y.id,.slice B1 y.attr.length b1,.slice B2 y.value.length b2,.bool y.acc,.slice B3 y.conds.length b3]);simp only [World.size_alloc] at hh;exact hh)
 clear hw1
 obtain ⟨a0,a1,a2,a3,a4,a5,a6⟩:=Ka.out.c7
 have az:=Ka.out.lt
 obtain ⟨b0,b1,b2,b3,b4,b5,b6⟩:=Kb.out.c7
 have bz:=Kb.out.lt
 go_wp2_with fail
 with_reducible refine (tests_same y.attr _ (G1.out.new_ (by (repeat (first | exact Below.refl _ _ | exact HB.out | refine Below.drew ?_ | refine Below.al ?_ _ | refine Below.sc ?_ _)))) (K1.out.new_ (by (repeat (first | exact Below.refl _ _ | exact HB.out | refine Below.drew ?_ | refine Below.al ?_ _ | refine Below.sc ?_ _))))).mono ?_
 rintro e w2 ⟨rfl,hb⟩
 have hbs:=Below.trans (show Below w1.heap.size w1 _ from (by (repeat (first | exact Below.refl _ _ | refine Below.drew ?_ | refine Below.al ?_ _ | refine Below.sc ?_ _)))) (hb.mono (by simp<;>omega))
 have Ka:=Lib.hid (Ka.out.new_ hbs)
 have Kb:=Lib.hid (Kb.out.new_ hbs)
 have HB:=Lib.hid (HB.out.trans (hbs.mono HB.out.size))
 have hsz2:=hbs.size
 clear a0 a1 a2 a3 a4 a5 a6 az b0 b1 b2 b3 b4 b5 b6 bz hb hbs
 obtain ⟨a0,a1,a2,a3,a4,a5,a6⟩:=Ka.out.c7
 have az:=Ka.out.lt
 obtain ⟨b0,b1,b2,b3,b4,b5,b6⟩:=Kb.out.c7
 have bz:=Kb.out.lt
 go_wp2_with fail
 with_reducible refine (tests_same y.value _ (G2.out.new_ (by (repeat (first | exact Below.refl _ _ | exact HB.out | refine Below.drew ?_ | refine Below.al ?_ _ | refine Below.sc ?_ _)))) (K2.out.new_ (by (repeat (first | exact Below.refl _ _ | exact HB.out | refine Below.drew ?_ | refine Below.al ?_ _ | refine Below.sc ?_ _))))).mono ?_
 rintro e w3 ⟨rfl,hb⟩
 have hbs:=Below.trans (show Below w2.heap.size w2 _ from (by (repeat (first | exact Below.refl _ _ | refine Below.drew ?_ | refine Below.al ?_ _ | refine Below.sc ?_ _)))) (hb.mono (by simp<;>omega))
 have Ka:=Lib.hid (Ka.out.new_ hbs)
 have Kb:=Lib.hid (Kb.out.new_ hbs)
 have HB:=Lib.hid (HB.out.trans (hbs.mono HB.out.size))
 have hsz3:=hbs.size
 clear a0 a1 a2 a3 a4 a5 a6 az b0 b1 b2 b3 b4 b5 b6 bz hb hbs
 obtain ⟨a0,a1,a2,a3,a4,a5,a6⟩:=Ka.out.c7
 have az:=Ka.out.lt
 obtain ⟨b0,b1,b2,b3,b4,b5,b6⟩:=Kb.out.c7
 have bz:=Kb.out.lt
 go_wp2_with fail
 with_reducible refine (IH.out _ _ _ _ _ _ y.conds _ (G3.out.new_ (by (repeat (first | exact Below.refl _ _ | exact HB.out | refine Below.drew ?_ | refine Below.al ?_ _ | refine Below.sc ?_ _)))) (K3.out.new_ (by (repeat (first | exact Below.refl _ _ | exact HB.out | refine Below.drew ?_ | refine Below.al ?_ _ | refine Below.sc ?_ _))))).mono ?_
 rintro e w4 ⟨rfl,hb⟩
 have hbs:=Below.trans (show Below w3.heap.size w3 _ from (by (repeat (first | exact Below.refl _ _ | refine Below.drew ?_ | refine Below.al ?_ _ | refine Below.sc ?_ _)))) (hb.mono (by simp<;>omega))
 have Ka:=Lib.hid (Ka.out.new_ hbs)
 have Kb:=Lib.hid (Kb.out.new_ hbs)
 have HB:=Lib.hid (HB.out.trans (hbs.mono HB.out.size))
 have hsz4:=hbs.size
 clear a0 a1 a2 a3 a4 a5 a6 az b0 b1 b2 b3 b4 b5 b6 bz hb hbs
 obtain ⟨a0,a1,a2,a3,a4,a5,a6⟩:=Ka.out.c7
 have az:=Ka.out.lt
 obtain ⟨b0,b1,b2,b3,b4,b5,b6⟩:=Kb.out.c7
 have bz:=Kb.out.lt
 go_wp2_with fail
 go_ret
 exact ⟨rfl,by (repeat (first | exact Below.refl _ _ | exact HB.out | refine Below.drew ?_ | refine Below.al ?_ _ | refine Below.sc ?_ _))⟩
theorem row_zero {D:Nat→Prop} {w:World} {A:Option Addr} {c:Nat} {l:List CondT} (h:RowR (repCondT 0) D w A c l):l = []:=by
 cases l with
 | nil=>rfl
 | cons y l=>
   obtain ⟨b,off,cs,_,_,_,hr,_⟩:=h.at_ (k:=0) (by simp)
   exact hr.elim
set_option maxRecDepth 100000 in
set_option maxHeartbeats 4000000 in
theorem conds_nil {A B:Option Addr} {c d:Nat} (w:World) :
 Calls Tryz.prog 70 #[.slice A 0 c,.slice B 0 d] w fun e w'=>e = .returned (.bool true)∧Below w.heap.size w w':=by
 go_enter Tryz.func70,Tryz.ntmps70
 go_wp2_with fail
 go_loopw [5] (fun s wr=>s = .int .i64 0∧wr=w) (fun s wr=>0)
 case atStart=>exact ⟨rfl,rfl⟩
 case round=>
  obtain ⟨rfl,rfl⟩:=hrel
  go_wp2_with fail
  go_ret
  exact ⟨rfl,Below.refl _ _⟩
set_option maxRecDepth 100000 in
set_option maxHeartbeats 4000000 in
theorem conds_same_succ (n:Nat) (ih:CondsSame n):CondsSame (n+1):=by
 intro D D' A B c d l w hl hm
 have HL:=Lib.hid hl
 have HM:=Lib.hid hm
 have IH:=Lib.hid ih
 have hlc:=hl.cap
 clear hl hm ih
 go_enter Tryz.func70,Tryz.ntmps70
 go_wp2_with fail
 go_loopw [5] (fun s wr=>∃i:Nat,s = .int .i64 i∧i≤l.length∧Below w.heap.size w wr) (fun s wr=>l.length - (intOf s).toNat)
 case atStart=>exact ⟨0,rfl,Nat.zero_le _,Below.refl _ _⟩
 case round=>
  obtain ⟨i,rfl,hi,hB⟩:=hrel
  have HB:=Lib.hid hB
  clear hB
  by_cases hlt:i<l.length
  · obtain ⟨y,hy⟩ : ∃y,y=l[i]:=⟨_,rfl⟩
    have b1:(0:Int)≤(i:Int):=by omega
    have b2:(i:Int)<(l.length:Int):=by omega
    obtain ⟨g,off,A1,a1,A2,a2,A3,a3,rfl,_,hgs,q0,q1,q2,q3,q4,q5,q6,h1,h2,h3⟩:=at_CondT (HL.out.new_ HB.out) hlt
    obtain ⟨g2,off2,B1,b1_,B2,b2_,B3,b3_,rfl,_,hgs2,p0,p1,p2,p3,p4,p5,p6,k1,k2,k3⟩:=at_CondT (HM.out.new_ HB.out) hlt
    rw [← hy] at q0 q1 q2 q3 q4 q5 q6 p0 p1 p2 p3 p4 p5 p6 h1 h2 h3 k1 k2 k3
    have H1:=Lib.hid h1
    have H2:=Lib.hid h2
    have H3:=Lib.hid h3
    have L1:=Lib.hid k1
    have L2:=Lib.hid k2
    have L3:=Lib.hid k3
    clear hy h1 h2 h3 k1 k2 k3
    go_wp2_with fail
    refine wp_region_E (fun w9=>Below wr.heap.size wr w9) [(0,0),(1,0),(2,0),(3,1),(4,0),(5,0),(6,0),(7,1),(8,2),(9,0)] (by kernel_rfl) (by kernel_rfl) (fun KK hKK=>?_)
    simp only [beside,List.filterMap_cons,List.filterMap_nil,List.getElem?_toArray,List.getElem?_cons_zero,List.getElem?_cons_succ,Option.map_some]
    repeat ((first | (refine wpX_w ?_ (Or.inl ⟨by rfl,fun w9=>?_⟩) ?_;rotate_left 1;go_simp;with_reducible rfl) | (refine wpX_l ?_ (((Below.refl _ _).drew)) (Or.inl ⟨by rfl,fun w9 hw9=>?_⟩) ?_;rotate_left 1;obtain ⟨hc9,hf9⟩:=bcell hw9;go_simp;with_reducible rfl) | refine wpX_w undef (Or.inr ⟨by rfl,rfl⟩) ?_ | refine wpX_l undef (((Below.refl _ _).drew)) (Or.inr ⟨by rfl,rfl⟩) ?_);go_frame)
    refine wpX_e (by kernel_rfl) (fun K9 hK9=>?_)
    go_simp
    refine (cond_same n IH.out y A1 a1 A2 a2 A3 a3 B1 b1_ B2 b2_ B3 b3_ _ (H1.out.new_ ((Below.refl _ _).drew)) (H2.out.new_ ((Below.refl _ _).drew)) (H3.out.new_ ((Below.refl _ _).drew)) (L1.out.new_ ((Below.refl _ _).drew)) (L2.out.new_ ((Below.refl _ _).drew)) (L3.out.new_ ((Below.refl _ _).drew))).mono ?_
    rintro e w5 ⟨rfl,hb5⟩
    have HB2:=Lib.hid ((HB.out.drew).trans (hb5.mono HB.out.size))
    clear hb5
    refine hK9 _ _ ?_
    clear hK9 K9
    repeat ((first | (refine wpX_w ?_ (Or.inl ⟨by rfl,fun w9=>?_⟩) ?_;rotate_left 1;go_simp;with_reducible rfl) | (refine wpX_l ?_ (((Below.refl _ _).drew)) (Or.inl ⟨by rfl,fun w9 hw9=>?_⟩) ?_;rotate_left 1;obtain ⟨hc9,hf9⟩:=bcell hw9;go_simp;with_reducible rfl) | refine wpX_w undef (Or.inr ⟨by rfl,rfl⟩) ?_ | refine wpX_l undef (((Below.refl _ _).drew)) (Or.inr ⟨by rfl,rfl⟩) ?_);go_frame)
    refine wpX_nil ?_
    simp only [OnlyN_normal]
    refine hKK _ _ ?_
    clear hKK KK
    clear q0 q1 q2 q3 q4 q5 q6 p0 p1 p2 p3 p4 p5 p6
    go_wp2_with fail
    go_roundw
    case rel=>exact ⟨i+1,by go_num,by omega,HB2.out⟩
    case measure=>simp [intOf]<;>omega
  · obtain rfl:i=l.length:=by omega
    go_wp2_with fail
    go_ret
    exact ⟨rfl,HB.out⟩
theorem conds_same : ∀n:Nat,CondsSame n
 | 0=>by
   intro D D' A B c d l w hl hm
   obtain rfl:=row_zero hl
   exact conds_nil w
 | n+1=>conds_same_succ n (conds_same n)
end Go.Proofs.YtldndkngpdfpfaaGreat
namespace Go.Proofs.YtldndkngpdfpfaaGreat
open Go.RowKit Go.Shelf
theorem neqs_ActT (x:ActT) (W:World):(binOp .neq 80 (.agg #[.string x.id,.string x.attr.var,.int .i64 x.attr.sym.kind,.string x.attr.sym.text,.int .i64 x.attr.sym.n,.int .i64 x.value.op,.string x.value.a.var,.int .i64 x.value.a.sym.kind,.string x.value.a.sym.text,.int .i64 x.value.a.sym.n,.string x.value.b.var,.int .i64 x.value.b.sym.kind,.string x.value.b.sym.text,.int .i64 x.value.b.sym.n,.int .i64 x.pref,.string x.other.var,.int .i64 x.other.sym.kind,.string x.other.sym.text,.int .i64 x.other.sym.n]) (.agg #[.string x.id,.string x.attr.var,.int .i64 x.attr.sym.kind,.string x.attr.sym.text,.int .i64 x.attr.sym.n,.int .i64 x.value.op,.string x.value.a.var,.int .i64 x.value.a.sym.kind,.string x.value.a.sym.text,.int .i64 x.value.a.sym.n,.string x.value.b.var,.int .i64 x.value.b.sym.kind,.string x.value.b.sym.text,.int .i64 x.value.b.sym.n,.int .i64 x.pref,.string x.other.var,.int .i64 x.other.sym.kind,.string x.other.sym.text,.int .i64 x.other.sym.n])).run Tryz.prog W = .ok (.bool false) W:=by
 rw [run_neq_struct]
 go_simp
set_option maxRecDepth 100000 in
set_option maxHeartbeats 4000000 in
theorem acts_same {D D':Nat→Prop} {A B:Option Addr} {c d:Nat} (l:List ActT) (w:World) (hl:RowR repActT D w A c l) (hm:RowR repActT D' w B d l) :
 Calls Tryz.prog 71 #[.slice A l.length c,.slice B l.length d] w fun e w'=>e = .returned (.bool true)∧Below w.heap.size w w':=by
 have HL:=Lib.hid hl
 have HM:=Lib.hid hm
 have hlc:=hl.cap
 clear hl hm
 go_enter Tryz.func71,Tryz.ntmps71
 go_wp2_with fail
 go_loopw [5] (fun s wr=>∃i:Nat,s = .int .i64 i∧i≤l.length∧Below w.heap.size w wr) (fun s wr=>l.length - (intOf s).toNat)
 case atStart=>exact ⟨0,rfl,Nat.zero_le _,Below.refl _ _⟩
 case round=>
  obtain ⟨i,rfl,hi,hB⟩:=hrel
  have HB:=Lib.hid hB
  clear hB
  by_cases hlt:i<l.length
  · obtain ⟨y,hy⟩ : ∃y,y=l[i]:=⟨_,rfl⟩
    have b1:(0:Int)≤(i:Int):=by omega
    have b2:(i:Int)<(l.length:Int):=by omega
    have HY:=Lib.hid hy
    obtain ⟨g,off,hAA,_,hgs,_⟩:=at_ActT (HL.out.new_ HB.out) hlt
    subst hAA
    obtain ⟨g2,off2,hAA,_,hgs2,_⟩:=at_ActT (HM.out.new_ HB.out) hlt
    subst hAA
    have LA:=Lib.hid (show ∀w9,Below wr.heap.size wr w9→w9.rangeAt g (off+i*19) [.string y.id,.string y.attr.var,.int .i64 y.attr.sym.kind,.string y.attr.sym.text,.int .i64 y.attr.sym.n,.int .i64 y.value.op,.string y.value.a.var,.int .i64 y.value.a.sym.kind,.string y.value.a.sym.text,.int .i64 y.value.a.sym.n,.string y.value.b.var,.int .i64 y.value.b.sym.kind,.string y.value.b.sym.text,.int .i64 y.value.b.sym.n,.int .i64 y.pref,.string y.other.var,.int .i64 y.other.sym.kind,.string y.other.sym.text,.int .i64 y.other.sym.n] from fun w9 h9 j v hv=>by
     obtain ⟨g',off',cs,e1,_,_,hr,hc⟩:=(HL.out.new_ (HB.out.trans (h9.mono HB.out.size))).at_ hlt
     cases e1
     have hr2:cs=ActT.cells l[i]:=hr
     subst hr2
     rw [← HY.out] at hc
     exact hc j v hv)
    have LB:=Lib.hid (show ∀w9,Below wr.heap.size wr w9→w9.rangeAt g2 (off2+i*19) [.string y.id,.string y.attr.var,.int .i64 y.attr.sym.kind,.string y.attr.sym.text,.int .i64 y.attr.sym.n,.int .i64 y.value.op,.string y.value.a.var,.int .i64 y.value.a.sym.kind,.string y.value.a.sym.text,.int .i64 y.value.a.sym.n,.string y.value.b.var,.int .i64 y.value.b.sym.kind,.string y.value.b.sym.text,.int .i64 y.value.b.sym.n,.int .i64 y.pref,.string y.other.var,.int .i64 y.other.sym.kind,.string y.other.sym.text,.int .i64 y.other.sym.n] from fun w9 h9 j v hv=>by
     obtain ⟨g',off',cs,e1,_,_,hr,hc⟩:=(HM.out.new_ (HB.out.trans (h9.mono HB.out.size))).at_ hlt
     cases e1
     have hr2:cs=ActT.cells l[i]:=hr
     subst hr2
     rw [← HY.out] at hc
     exact hc j v hv)
    have hbe:=fun W=>neqs_ActT y W
    clear hy
    go_wp2_with fail
    refine wp_region_E (fun w9=>Below wr.heap.size wr w9) [(0,0),(1,0),(2,0),(3,1),(4,0),(5,0),(6,0),(7,1),(8,0)] (by kernel_rfl) (by kernel_rfl) (fun KK hKK=>?_)
    simp only [beside,List.filterMap_cons,List.filterMap_nil,List.getElem?_toArray,List.getElem?_cons_zero,List.getElem?_cons_succ,Option.map_some]
    repeat ((first | (refine wpX_l _ ((Below.refl _ _).drew) (yieldsIf_load_mid (by rfl) 80 _ rfl g (off+i*19) rfl [.string y.id,.string y.attr.var,.int .i64 y.attr.sym.kind,.string y.attr.sym.text,.int .i64 y.attr.sym.n,.int .i64 y.value.op,.string y.value.a.var,.int .i64 y.value.a.sym.kind,.string y.value.a.sym.text,.int .i64 y.value.a.sym.n,.string y.value.b.var,.int .i64 y.value.b.sym.kind,.string y.value.b.sym.text,.int .i64 y.value.b.sym.n,.int .i64 y.pref,.string y.other.var,.int .i64 y.other.sym.kind,.string y.other.sym.text,.int .i64 y.other.sym.n] _ LA.out Tryz.underlying80 rfl (by kernel_rfl)) ?_) | (refine wpX_l _ ((Below.refl _ _).drew) (yieldsIf_load_mid (by rfl) 80 _ rfl g2 (off2+i*19) rfl [.string y.id,.string y.attr.var,.int .i64 y.attr.sym.kind,.string y.attr.sym.text,.int .i64 y.attr.sym.n,.int .i64 y.value.op,.string y.value.a.var,.int .i64 y.value.a.sym.kind,.string y.value.a.sym.text,.int .i64 y.value.a.sym.n,.string y.value.b.var,.int .i64 y.value.b.sym.kind,.string y.value.b.sym.text,.int .i64 y.value.b.sym.n,.int .i64 y.pref,.string y.other.var,.int .i64 y.other.sym.kind,.string y.other.sym.text,.int .i64 y.other.sym.n] _ LB.out Tryz.underlying80 rfl (by kernel_rfl)) ?_) | (refine wpX_w ?_ (Or.inl ⟨by rfl,fun w9=>?_⟩) ?_;rotate_left 1;go_simp;with_reducible rfl) | (refine wpX_l ?_ (((Below.refl _ _).drew)) (Or.inl ⟨by rfl,fun w9 hw9=>?_⟩) ?_;rotate_left 1;fail;go_simp;with_reducible rfl) | refine wpX_w undef (Or.inr ⟨by rfl,rfl⟩) ?_ | refine wpX_l undef (((Below.refl _ _).drew)) (Or.inr ⟨by rfl,rfl⟩) ?_);go_frame)
    refine wpX_nil ?_
    simp only [OnlyN_normal]
    refine hKK _ _ ?_
    clear hKK KK
    have HB2:=Lib.hid (HB.out.drew)
    go_wp2_with fail
    go_roundw
    case rel=>exact ⟨i+1,by go_num,by omega,HB2.out⟩
    case measure=>simp [intOf]<;>omega
  · obtain rfl:i=l.length:=by omega
    go_wp2_with fail
    go_ret
    exact ⟨rfl,HB.out⟩
end Go.Proofs.YtldndkngpdfpfaaGreat
