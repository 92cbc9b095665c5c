/-
  Texts put together: CanonSay, ActsSame, ProdSame, BkTests2, BkCopyK, CopyProd, RowU, Canon2U, Canon3U.
-/
import Derived.Test.YtffemfglngikbaaRl
import Derived.Test.YtffemfglngikbaaRb
import Derived.Deep.MidRow
import Derived.Test.YtffemfglngikbaaRg
import Derived.Test.YtffemfglngikbaaRa
import Derived.Deep.Cut
import Derived.Maps.RangeWalk
namespace Go.Proofs.Ytffemfglngikbaa
open Go.RowKit Go.Shelf
attribute [local go_sem] Oper.semAt_some
def sayT (a b v:ByteArray):ByteArray:=if v=a then b else v++⟨#[120]⟩
theorem otherT_map (t:ByteArray→ByteArray) {v:ByteArray} : ∀(l:List ByteArray),v∈l→otherT l (l.map t) v=t v
 | u :: l,h=>by
   rw [List.map_cons,otherT]
   by_cases e:u=v
   · rw [if_pos e,e]
   · rw [if_neg e]
     exact otherT_map t l (by rcases List.mem_cons.1 h with h | h;exact absurd h.symm e;exact h)
set_option maxHeartbeats 2000000 in
theorem say_is (a b:ByteArray) (ka kb:Nat) (w0:World) (ha:Blk w0 ka 9 #[.string a]) (hb:Blk w0 kb 9 #[.string b]):NamerOk 15 #[.pointer (some ⟨ka,0,none⟩),.pointer (some ⟨kb,0,none⟩)] w0 (fun v=>v.size≤2000000) (sayT a b):=by
 refine ⟨fun args w=>by kernel_rfl,fun v W hW hv=>?_⟩
 have h1:=ha.new_ hW
 have h2:=hb.new_ hW
 have p0:W.cell? ⟨ka,0,none⟩=some (.string a):=(h1.cell 0).trans rfl
 have pz:=h1.lt
 have q0:W.cell? ⟨kb,0,none⟩=some (.string b):=(h2.cell 0).trans rfl
 have qz:=h2.lt
 show Calls Try.prog 15 #[.string v,.pointer (some ⟨ka,0,none⟩),.pointer (some ⟨kb,0,none⟩)] W _
 clear h1 h2 ha hb
 by_cases he:v=a
 · have HE:=Lib.hid (show sayT a b v=b by rw [sayT,if_pos he])
   have e1:(v.toList == a.toList)=true:=by rw [he];exact beq_self_eq_true _
   have e2:v.toList=a.toList:=by rw [he]
   clear he
   go_enter Try.func15,Try.ntmps15
   go_wp2_with fail
   go_ret
   exact ⟨by rw [HE.out]<;>rfl,Below.refl _ _⟩
 · have HE:=Lib.hid (show sayT a b v=v++⟨#[120]⟩ by rw [sayT,if_neg he])
   have e2 : ¬v.toList=a.toList:=toList_ne he
   have e1:(v.toList == a.toList)=false:=by simpa using e2
   have hcz : ¬9223372036854775807<v.size+1:=by omega
   clear he
   go_enter Try.func15,Try.ntmps15
   go_wp2_with fail
   go_ret
   exact ⟨by rw [HE.out]<;>rfl,Below.refl _ _⟩
end Go.Proofs.Ytffemfglngikbaa
namespace Go.Proofs.Ytffemfglngikbaa
open Go.RowKit Go.Shelf
theorem neqs_ActT (x:ActT) (W:World):(binOp .neq 58 (.agg #[.string x.id,.string x.attr.var,.int .i64 x.attr.sym.kind,.string x.attr.sym.text,.int .i64 x.attr.sym.n,.int .i64 x.value.op,.string x.value.a.var,.int .i64 x.value.a.sym.kind,.string x.value.a.sym.text,.int .i64 x.value.a.sym.n,.string x.value.b.var,.int .i64 x.value.b.sym.kind,.string x.value.b.sym.text,.int .i64 x.value.b.sym.n,.int .i64 x.pref,.string x.other.var,.int .i64 x.other.sym.kind,.string x.other.sym.text,.int .i64 x.other.sym.n]) (.agg #[.string x.id,.string x.attr.var,.int .i64 x.attr.sym.kind,.string x.attr.sym.text,.int .i64 x.attr.sym.n,.int .i64 x.value.op,.string x.value.a.var,.int .i64 x.value.a.sym.kind,.string x.value.a.sym.text,.int .i64 x.value.a.sym.n,.string x.value.b.var,.int .i64 x.value.b.sym.kind,.string x.value.b.sym.text,.int .i64 x.value.b.sym.n,.int .i64 x.pref,.string x.other.var,.int .i64 x.other.sym.kind,.string x.other.sym.text,.int .i64 x.other.sym.n])).run Try.prog W = .ok (.bool false) W:=by
 rw [run_neq_struct]
 go_simp
set_option maxRecDepth 100000 in
set_option maxHeartbeats 4000000 in
theorem acts_same {D D':Nat→Prop} {A B:Option Addr} {c d:Nat} (l:List ActT) (w:World) (hl:RowR repActT D w A c l) (hm:RowR repActT D' w B d l) :
 Calls Try.prog 37 #[.slice A l.length c,.slice B l.length d] w fun e w'=>e = .returned (.bool true)∧Below w.heap.size w w':=by
 have HL:=Lib.hid hl
 have HM:=Lib.hid hm
 have hlc:=hl.cap
 clear hl hm
 go_enter Try.func37,Try.ntmps37
 go_wp2_with fail
 go_loopw [5] (fun s wr=>∃i:Nat,s = .int .i64 i∧i≤l.length∧Below w.heap.size w wr) (fun s wr=>l.length - (intOf s).toNat)
 case atStart=>exact ⟨0,rfl,Nat.zero_le _,Below.refl _ _⟩
 case round=>
  obtain ⟨i,rfl,hi,hB⟩:=hrel
  have HB:=Lib.hid hB
  clear hB
  by_cases hlt:i<l.length
  · obtain ⟨y,hy⟩ : ∃y,y=l[i]:=⟨_,rfl⟩
    have b1:(0:Int)≤(i:Int):=by omega
    have b2:(i:Int)<(l.length:Int):=by omega
    have HY:=Lib.hid hy
    obtain ⟨g,off,hAA,_,hgs,_⟩:=at_ActT (HL.out.new_ HB.out) hlt
    subst hAA
    obtain ⟨g2,off2,hAA,_,hgs2,_⟩:=at_ActT (HM.out.new_ HB.out) hlt
    subst hAA
    have LA:=Lib.hid (show ∀w9,Below wr.heap.size wr w9→w9.rangeAt g (off+i*19) [.string y.id,.string y.attr.var,.int .i64 y.attr.sym.kind,.string y.attr.sym.text,.int .i64 y.attr.sym.n,.int .i64 y.value.op,.string y.value.a.var,.int .i64 y.value.a.sym.kind,.string y.value.a.sym.text,.int .i64 y.value.a.sym.n,.string y.value.b.var,.int .i64 y.value.b.sym.kind,.string y.value.b.sym.text,.int .i64 y.value.b.sym.n,.int .i64 y.pref,.string y.other.var,.int .i64 y.other.sym.kind,.string y.other.sym.text,.int .i64 y.other.sym.n] from fun w9 h9 j v hv=>by
     obtain ⟨g',off',cs,e1,_,_,hr,hc⟩:=(HL.out.new_ (HB.out.trans (h9.mono HB.out.size))).at_ hlt
     cases e1
     have hr2:cs=ActT.cells l[i]:=hr
     subst hr2
     rw [← HY.out] at hc
     exact hc j v hv)
    have LB:=Lib.hid (show ∀w9,Below wr.heap.size wr w9→w9.rangeAt g2 (off2+i*19) [.string y.id,.string y.attr.var,.int .i64 y.attr.sym.kind,.string y.attr.sym.text,.int .i64 y.attr.sym.n,.int .i64 y.value.op,.string y.value.a.var,.int .i64 y.value.a.sym.kind,.string y.value.a.sym.text,.int .i64 y.value.a.sym.n,.string y.value.b.var,.int .i64 y.value.b.sym.kind,.string y.value.b.sym.text,.int .i64 y.value.b.sym.n,.int .i64 y.pref,.string y.other.var,.int .i64 y.other.sym.kind,.string y.other.sym.text,.int .i64 y.other.sym.n] from fun w9 h9 j v hv=>by
     obtain ⟨g',off',cs,e1,_,_,hr,hc⟩:=(HM.out.new_ (HB.out.trans (h9.mono HB.out.size))).at_ hlt
     cases e1
     have hr2:cs=ActT.cells l[i]:=hr
     subst hr2
     rw [← HY.out] at hc
     exact hc j v hv)
    have hbe:=fun W=>neqs_ActT y W
    clear hy
    go_wp2_with fail
    refine wp_region_E (fun w9=>Below wr.heap.size wr w9) [(0,0),(1,0),(2,0),(3,1),(4,0),(5,0),(6,0),(7,1),(8,0)] (by kernel_rfl) (by kernel_rfl) (fun KK hKK=>?_)
    simp only [beside,List.filterMap_cons,List.filterMap_nil,List.getElem?_toArray,List.getElem?_cons_zero,List.getElem?_cons_succ,Option.map_some]
    repeat ((first | (refine wpX_l _ ((Below.refl _ _).drew) (yieldsIf_load_mid (by rfl) 58 _ rfl g (off+i*19) rfl [.string y.id,.string y.attr.var,.int .i64 y.attr.sym.kind,.string y.attr.sym.text,.int .i64 y.attr.sym.n,.int .i64 y.value.op,.string y.value.a.var,.int .i64 y.value.a.sym.kind,.string y.value.a.sym.text,.int .i64 y.value.a.sym.n,.string y.value.b.var,.int .i64 y.value.b.sym.kind,.string y.value.b.sym.text,.int .i64 y.value.b.sym.n,.int .i64 y.pref,.string y.other.var,.int .i64 y.other.sym.kind,.string y.other.sym.text,.int .i64 y.other.sym.n] _ LA.out Try.underlying58 rfl (by kernel_rfl)) ?_) | (refine wpX_l _ ((Below.refl _ _).drew) (yieldsIf_load_mid (by rfl) 58 _ rfl g2 (off2+i*19) rfl [.string y.id,.string y.attr.var,.int .i64 y.attr.sym.kind,.string y.attr.sym.text,.int .i64 y.attr.sym.n,.int .i64 y.value.op,.string y.value.a.var,.int .i64 y.value.a.sym.kind,.string y.value.a.sym.text,.int .i64 y.value.a.sym.n,.string y.value.b.var,.int .i64 y.value.b.sym.kind,.string y.value.b.sym.text,.int .i64 y.value.b.sym.n,.int .i64 y.pref,.string y.other.var,.int .i64 y.other.sym.kind,.string y.other.sym.text,.int .i64 y.other.sym.n] _ LB.out Try.underlying58 rfl (by kernel_rfl)) ?_) | (refine wpX_w ?_ (Or.inl ⟨by rfl,fun w9=>?_⟩) ?_;rotate_left 1;go_simp;with_reducible rfl) | (refine wpX_l ?_ (((Below.refl _ _).drew)) (Or.inl ⟨by rfl,fun w9 hw9=>?_⟩) ?_;rotate_left 1;fail;go_simp;with_reducible rfl) | refine wpX_w undef (Or.inr ⟨by rfl,rfl⟩) ?_ | refine wpX_l undef (((Below.refl _ _).drew)) (Or.inr ⟨by rfl,rfl⟩) ?_);go_frame)
    refine wpX_nil ?_
    simp only [OnlyN_normal]
    refine hKK _ _ ?_
    clear hKK KK
    have HB2:=Lib.hid (HB.out.drew)
    go_wp2_with fail
    go_roundw
    case rel=>exact ⟨i+1,by go_num,by omega,HB2.out⟩
    case measure=>simp [intOf]<;>omega
  · obtain rfl:i=l.length:=by omega
    go_wp2_with fail
    go_ret
    exact ⟨rfl,HB.out⟩
end Go.Proofs.Ytffemfglngikbaa
namespace Go.Proofs.Ytffemfglngikbaa
open Go.RowKit Go.Shelf
set_option maxRecDepth 100000 in
set_option maxHeartbeats 4000000 in
theorem prod_same {D D':Nat→Prop} (n:Nat) (p:ProdT) (A1:Option Addr) (c1:Nat) (A2:Option Addr) (c2:Nat) (B1:Option Addr) (d1:Nat) (B2:Option Addr) (d2:Nat) (w:World) (g1:RowR (repCondT n) D w A1 c1 p.conds) (g2:RowR repActT D w A2 c2 p.acts) (k1:RowR (repCondT n) D' w B1 d1 p.conds) (k2:RowR repActT D' w B2 d2 p.acts) :
 Calls Try.prog 18 #[.agg #[.string p.name,.slice A1 p.conds.length c1,.slice A2 p.acts.length c2],.agg #[.string p.name,.slice B1 p.conds.length d1,.slice B2 p.acts.length d2]] w fun e w'=>e = .returned (.bool true)∧Below w.heap.size w w':=by
 have G1:=Lib.hid g1
 have G2:=Lib.hid g2
 have K1:=Lib.hid k1
 have K2:=Lib.hid k2
 clear g1 g2 k1 k2
 go_enter Try.func18,Try.ntmps18
 go_upto_region 1 with fail
 obtain ⟨w1,hw1⟩ : ∃w1,w1=((w.alloc (.cells #[.string p.name,.slice A1 p.conds.length c1,.slice A2 p.acts.length c2] 25)).alloc (.cells #[.string p.name,.slice B1 p.conds.length d1,.slice B2 p.acts.length d2] 25)):=⟨_,rfl⟩
 rw [← hw1]
 have HB:=Lib.hid (show Below w.heap.size w w1 by rw [hw1];exact (by repeat (first | exact Below.refl _ _ | refine Below.drew ?_ | refine Below.al ?_ _ | refine Below.sc ?_ _)))
 have Ka:=Lib.hid (show Blk w1 (w.heap.size) 25 #[.string p.name,.slice A1 p.conds.length c1,.slice A2 p.acts.length c2] by rw [hw1];exact ((Blk.new w 25 #[.string p.name,.slice A1 p.conds.length c1,.slice A2 p.acts.length c2]).alloc (.cells #[.string p.name,.slice B1 p.conds.length d1,.slice B2 p.acts.length d2] 25)))
 have Kb:=Lib.hid (show Blk w1 (w.heap.size+1) 25 #[.string p.name,.slice B1 p.conds.length d1,.slice B2 p.acts.length d2] by rw [hw1];have hh:=(Blk.new (w.alloc (.cells #[.string p.name,.slice A1 p.conds.length c1,.slice A2 p.acts.length c2] 25)) 25 #[.string p.name,.slice B1 p.conds.length d1,.slice B2 p.acts.length d2]);simp only [World.size_alloc] at hh;exact hh)
 clear hw1
 obtain ⟨a0,a1,a2⟩:=Ka.out.c3
 have az:=Ka.out.lt
 obtain ⟨b0,b1,b2⟩:=Kb.out.c3
 have bz:=Kb.out.lt
 go_wp2_with fail
 with_reducible refine (conds_same n _ _ _ _ _ _ p.conds _ (G1.out.new_ (by (repeat (first | exact Below.refl _ _ | exact HB.out | refine Below.drew ?_ | refine Below.al ?_ _ | refine Below.sc ?_ _)))) (K1.out.new_ (by (repeat (first | exact Below.refl _ _ | exact HB.out | refine Below.drew ?_ | refine Below.al ?_ _ | refine Below.sc ?_ _))))).mono ?_
 rintro e w2 ⟨rfl,hb⟩
 have hbs:=Below.trans (show Below w1.heap.size w1 _ from (by (repeat (first | exact Below.refl _ _ | refine Below.drew ?_ | refine Below.al ?_ _ | refine Below.sc ?_ _)))) (hb.mono (by simp<;>omega))
 have Ka:=Lib.hid (Ka.out.new_ hbs)
 have Kb:=Lib.hid (Kb.out.new_ hbs)
 have HB:=Lib.hid (HB.out.trans (hbs.mono HB.out.size))
 have hsz2:=hbs.size
 clear a0 a1 a2 az b0 b1 b2 bz hb hbs
 obtain ⟨a0,a1,a2⟩:=Ka.out.c3
 have az:=Ka.out.lt
 obtain ⟨b0,b1,b2⟩:=Kb.out.c3
 have bz:=Kb.out.lt
 go_wp2_with fail
 with_reducible refine (acts_same p.acts _ (G2.out.new_ (by (repeat (first | exact Below.refl _ _ | exact HB.out | refine Below.drew ?_ | refine Below.al ?_ _ | refine Below.sc ?_ _)))) (K2.out.new_ (by (repeat (first | exact Below.refl _ _ | exact HB.out | refine Below.drew ?_ | refine Below.al ?_ _ | refine Below.sc ?_ _))))).mono ?_
 rintro e w3 ⟨rfl,hb⟩
 have hbs:=Below.trans (show Below w2.heap.size w2 _ from (by (repeat (first | exact Below.refl _ _ | refine Below.drew ?_ | refine Below.al ?_ _ | refine Below.sc ?_ _)))) (hb.mono (by simp<;>omega))
 have Ka:=Lib.hid (Ka.out.new_ hbs)
 have Kb:=Lib.hid (Kb.out.new_ hbs)
 have HB:=Lib.hid (HB.out.trans (hbs.mono HB.out.size))
 have hsz3:=hbs.size
 clear a0 a1 a2 az b0 b1 b2 bz hb hbs
 obtain ⟨a0,a1,a2⟩:=Ka.out.c3
 have az:=Ka.out.lt
 obtain ⟨b0,b1,b2⟩:=Kb.out.c3
 have bz:=Kb.out.lt
 go_wp2_with fail
 go_ret
 exact ⟨rfl,by (repeat (first | exact Below.refl _ _ | exact HB.out | refine Below.drew ?_ | refine Below.al ?_ _ | refine Below.sc ?_ _))⟩
end Go.Proofs.Ytffemfglngikbaa
namespace Go.Proofs.Ytffemfglngikbaa
open Go.RowKit
set_option maxRecDepth 100000 in
set_option maxHeartbeats 8000000 in
theorem ktests_is (A:Option Addr) (c:Nat) (l:List TestT) {D:Nat→Prop} (w:World) (hrd:RowR repTestT D w A c l) (hs:SmT l) :
 Calls Try.prog 73 #[.slice A l.length c] w (FreshR repTestT l w):=by
 obtain ⟨i0,hi0,hz0,hz1,hz2⟩:=infp inf_Sym
 obtain ⟨j0,hj0,hy0,hy1,hy2⟩:=infp inf_Test
 have hlc:=hrd.cap
 have hl1:=hs.1
 have HRD:=Lib.hid hrd
 have HS:=Lib.hid hs
 clear hrd hs
 go_enter Try.func73,Try.ntmps73
 go_wp2_with fail
 go_loopw [3,4] (fun v i wr=>∃k:Nat,i = .int .i64 k∧k≤l.length∧Copies repTestT 65 w (l.take k) v wr) (fun v i wr=>l.length - (intOf i).toNat)
 case atStart=>exact ⟨0,rfl,Nat.zero_le _,Copies.nil _ _ _ (Below.refl _ _)⟩
 case round=>
  obtain ⟨k,rfl,hk,hC⟩:=hrel
  obtain ⟨C,A1,c1,rfl,h1,h2,h3,h4⟩:=hC
  rw [take_len hk]
  by_cases hlt:k<l.length
  · have hrw:=HRD.out.keep (D':=D) h4.size (fun j hj hl=>⟨hj,h4.block j hl⟩)
    obtain ⟨g,off,A3,c3,rfl,hDg,hg,q0,q1,q2,q3,q4,q5,hr3⟩:=at_TestT hrw hlt
    obtain ⟨y,hy⟩ : ∃y,y=l[k]:=⟨_,rfl⟩
    have hy3:y.list.length≤1000:=by rw [hy];exact HS.out.2 _ (List.getElem_mem hlt)
    rw [← hy] at q0 q1 q2 q3 q4 q5 hr3
    have hr4:=RowR.rd (hs:=Sym.cells_length) hr3
    have hl3:=hr3.cap
    have b1:(0:Int)≤(k:Int):=by omega
    have b2:(k:Int)<(l.length:Int):=by omega
    have HY:=Lib.hid hy
    have H1:=Lib.hid h1
    have H2:=Lib.hid h2
    have H3:=Lib.hid h3
    have H4:=Lib.hid h4
    have HR4:=Lib.hid hr4
    clear hy hrw h1 h2 h3 h4 hr3 hr4
    go_upto_region 6 with fail
    obtain ⟨W4,hW4⟩ : ∃W4,W4=wr.alloc (.cells #[.int .i64 y.rel,.string y.var,.int .i64 y.sym.kind,.string y.sym.text,.int .i64 y.sym.n,.slice A3 y.list.length c3] 65):=⟨_,rfl⟩
    have hB4:Below wr.heap.size wr W4:=by rw [hW4];exact (Below.refl _ _).alloc (Nat.le_refl _) _
    have hX4:Blk W4 wr.heap.size 65 #[.int .i64 y.rel,.string y.var,.int .i64 y.sym.kind,.string y.sym.text,.int .i64 y.sym.n,.slice A3 y.list.length c3]:=by rw [hW4];exact Blk.new _ _ _
    rw [← hW4]
    clear hW4 q0 q1 q2 q3 q4
    have HB4:=Lib.hid hB4
    have HX4:=Lib.hid hX4
    have hxl4:=hX4.lt
    have x5:=(hB4.cell (p:=⟨g,off+k*6+5,none⟩) hg).trans q5
    clear hX4 hB4 q5
    have hg4:g<W4.heap.size:=by have:=HB4.out.size;omega
    go_wp2_with fail
    refine (cp_Sym A3 c3 y.list W4 (HR4.out.new_ HB4.out) (by omega)).mono ?_
    rintro e w5 ⟨A5,c5,rfl,ho5,hA5,hB5⟩
    have hX5:=HX4.out.new_ hB5
    have u5:=(hX5.cell 5).trans rfl
    have g5:=hX5.frozen 5
    have hxl5:=hX5.lt
    have HB5:=Lib.hid hB5
    have HO5:=Lib.hid ho5
    have HA5:=Lib.hid hA5
    have HX5:=Lib.hid hX5
    clear hX5 hB5 ho5 hA5 x5
    go_upto_region 7 with fail
    obtain ⟨W6,hW6⟩ : ∃W6,W6=w5.setCell ⟨wr.heap.size,5,none⟩ (.slice A5 y.list.length c5):=⟨_,rfl⟩
    have hX5:=HX5.out
    have hB6:Below wr.heap.size wr W6:=by rw [hW6];exact (HB4.out.trans (HB5.out.mono (by omega))).setCell (Nat.le_refl _) _
    have hX6:Blk W6 wr.heap.size 65 #[.int .i64 y.rel,.string y.var,.int .i64 y.sym.kind,.string y.sym.text,.int .i64 y.sym.n,.slice A5 y.list.length c5]:=by rw [hW6];exact hX5.set_ 5 _
    have hO6:W6.ownsRow 0 52 3 (.slice A5 y.list.length c5) y.list.length (y.list.flatMap Sym.cells):=by rw [hW6];exact ownsRow_setCell_other (a:=⟨wr.heap.size,5,none⟩) HO5.out (own_blk_ne HO5.out hX5 (by decide)) _
    have hA6:AIn A5 (NewD wr.heap.size W6):=HA5.out.mono (fun j hj=>⟨by have:=hj.1;omega,by rw [hW6];simpa using hj.2⟩)
    rw [← hW6]
    clear hW6 hX5
    have hB7:Below wr.heap.size wr (W6.alloc (.cells #[.int .i64 y.rel,.string y.var,.int .i64 y.sym.kind,.string y.sym.text,.int .i64 y.sym.n,.slice A5 y.list.length c5] 65)):=hB6.alloc hB6.size _
    have hrow:RowR repSym (Plus C wr (W6.alloc (.cells #[.int .i64 y.rel,.string y.var,.int .i64 y.sym.kind,.string y.sym.text,.int .i64 y.sym.n,.slice A5 y.list.length c5] 65))) (W6.alloc (.cells #[.int .i64 y.rel,.string y.var,.int .i64 y.sym.kind,.string y.sym.text,.int .i64 y.sym.n,.slice A5 y.list.length c5] 65)) A5 c5 y.list:=(Fresh1.row Sym.cells_length hO6 hA6).keep (by simp) (fun j hj hl=>⟨.inr ⟨hj.1,by simp;have:=hj.2;omega⟩,((Below.refl W6.heap.size W6).alloc (Nat.le_refl _) _).block j hl⟩)
    have hown7:=H1.out.plus hB7
    have hrep7:=rep_test hrow
    have hcl : ∀j,Plus C wr (W6.alloc (.cells #[.int .i64 y.rel,.string y.var,.int .i64 y.sym.kind,.string y.sym.text,.int .i64 y.sym.n,.slice A5 y.list.length c5] 65)) j→j<(W6.alloc (.cells #[.int .i64 y.rel,.string y.var,.int .i64 y.sym.kind,.string y.sym.text,.int .i64 y.sym.n,.slice A5 y.list.length c5] 65)).heap.size:=fun j hj=>by
     rcases hj with hj | hj
     · have:=(H2.out j hj).2;have:=hB7.size;omega
     · exact hj.2
    obtain ⟨u0,u1,u2,u3,u4,u5⟩:=hX6.c6
    have hxl6:=hX6.lt
    have HB7:=Lib.hid hB7
    have HOW:=Lib.hid hown7
    have HRE:=Lib.hid hrep7
    have HCL:=Lib.hid hcl
    have h63:(l.take k).length+1≤maxLen:=by rw [take_len hk];unfold maxLen;omega
    have hby:((l.take k).length+1)*80≤140737488355328:=by rw [take_len hk];omega
    have H63:=Lib.hid h63
    have HBY:=Lib.hid hby
    have HTL:=Lib.hid (take_len hk)
    clear hB6 hB7 hX6 hO6 hA6 hrow hown7 hrep7 hcl h63 hby
    have HV:=Lib.hid (show Value.slice A1 k c1 = .slice A1 (l.take k).length c1 by rw [take_len hk])
    go_wp2_with (at_builtin;refine wpList_append_C _ rfl _ _ 48 rfl 65 j0 _ 6 80 Try.underlying48 hj0 hy0 hy1 hy2 rfl rfl (by omega) (Plus C wr (W6.alloc (.cells #[.int .i64 y.rel,.string y.var,.int .i64 y.sym.kind,.string y.sym.text,.int .i64 y.sym.n,.slice A5 y.list.length c5] 65))) HCL.out (.slice A1 (l.take k).length c1) (l.take k) HV.out HOW.out ⟨W6.heap.size,0,none⟩ 1 y [.int .i64 y.rel,.string y.var,.int .i64 y.sym.kind,.string y.sym.text,.int .i64 y.sym.n,.slice A5 y.list.length c5] rfl (World.news_of_block (heap_alloc_new _ _)) (by intro u hu;simp only [List.mem_cons,List.not_mem_nil,or_false] at hu;rcases hu with rfl | rfl | rfl | rfl | rfl | rfl<;>rfl) HRE.out H63.out HBY.out ?_;intro v' w7 hap)
    have hfin:Copies repTestT 65 w (l.take k ++ [y]) v' w7:=Copies.snoc H2.out H3.out H4.out HB7.out (by have e:Value.slice A1 (l.take k).length c1 = .slice A1 (l.take k).length c1:=rfl;exact hap)
    rw [HY.out,take_snoc hlt] at hfin
    go_roundw
    case rel=>exact ⟨k+1,by go_num,by omega,hfin⟩
    case measure=>simp [intOf];omega
  · obtain rfl:k=l.length:=by omega
    have hfin:=Copies.done ⟨C,A1,c1,rfl,h1,h2,h3,h4⟩
    rw [List.take_length] at hfin
    have HF:=Lib.hid hfin
    clear h1 h2 h3 h4 hfin
    go_wp2_with fail
    go_ret
    exact HF.out
end Go.Proofs.Ytffemfglngikbaa
namespace Go.Proofs.Ytffemfglngikbaa
open Go.RowKit
set_option maxRecDepth 100000 in
set_option maxHeartbeats 8000000 in
theorem kconds_is (n:Nat) (hrec : ∀m,n=m+1→CopyOk 57 m) (A:Option Addr) (c:Nat) (L:List CondT) {D:Nat→Prop} (W0:World) (hrd:RowR (repCondT n) D W0 A c L) (hs:L.length≤1000∧∀x∈L,SmC n x) :
 Calls Try.prog 31 #[.slice A L.length c] W0 (FreshR (repCondT n) L W0):=by
 obtain ⟨j0,hj0,hy0,hyy1,hyy2⟩:=infp inf_Cond
 have hlc:=hrd.cap
 have hl1:=hs.1
 have HR3:=Lib.hid hrd
 have HS:=Lib.hid hs
 have HREC:=Lib.hid hrec
 clear hrd hs hrec
 go_enter Try.func31,Try.ntmps31
 go_wp2_with fail
 go_loopw [3,4] (fun v i wr=>∃k:Nat,i = .int .i64 k∧k≤L.length∧Copies (repCondT n) 50 W0 (L.take k) v wr) (fun v i wr=>L.length - (intOf i).toNat)
 case atStart=>exact ⟨0,rfl,Nat.zero_le _,Copies.nil _ _ _ (Below.refl _ _)⟩
 case round=>
  obtain ⟨k,rfl,hk,hC⟩:=hrel
  obtain ⟨C,A1,c1,rfl,h1,h2,h3,h4⟩:=hC
  rw [take_len hk]
  by_cases hlt:k<L.length
  · have hrw:=HR3.out.new_ (h4.mono (by omega):Below W0.heap.size W0 wr)
    obtain ⟨m,rfl⟩ : ∃m,n=m+1:=by
     cases n with
     | zero=>rw [row0 hrw] at hlt;simp at hlt
     | succ m=>exact ⟨m,rfl⟩
    obtain ⟨g,off,Ay1,cy1,Ay2,cy2,Ay3,cy3,hA0,hDg,hg,q0,q1,q2,q3,q4,q5,q6,hy1,hy2,hy3⟩:=at_CondT hrw hlt
    subst hA0
    obtain ⟨y,hy⟩ : ∃y,y=L[k]:=⟨_,rfl⟩
    have hys:SmC (m+1) y:=by rw [hy];exact HS.out.2 _ (List.getElem_mem hlt)
    rw [← hy] at q0 q1 q2 q3 q4 q5 q6 hy1 hy2 hy3
    have b1:(0:Int)≤(k:Int):=by omega
    have b2:(k:Int)<(L.length:Int):=by omega
    have HY:=Lib.hid hy
    have H1:=Lib.hid h1
    have H2:=Lib.hid h2
    have H3:=Lib.hid h3
    have H4:=Lib.hid h4
    have HY1:=Lib.hid hy1
    have HY2:=Lib.hid hy2
    have HY3:=Lib.hid hy3
    have HYS:=Lib.hid hys
    clear hy hrw h1 h2 h3 h4 hy1 hy2 hy3 hys
    go_wp2_with fail
    refine (HREC.out m rfl y Ay1 cy1 Ay2 cy2 Ay3 cy3 D wr HY1.out HY2.out HY3.out HYS.out).mono ?_
    rintro e w5 ⟨Az1,cz1,Az2,cz2,Az3,cz3,rfl,g1,g2,g3,hB5⟩
    have hB5':Below wr.heap.size wr w5:=hB5
    have h9:Below w5.heap.size w5 (w5.alloc (.cells #[.int .i64 y.kind,.bool y.goal,.string y.id,.slice Az1 y.attr.length cz1,.slice Az2 y.value.length cz2,.bool y.acc,.slice Az3 y.conds.length cz3] 50)):=(Below.refl _ _).alloc (Nat.le_refl _) _
    have hB7:Below wr.heap.size wr (w5.alloc (.cells #[.int .i64 y.kind,.bool y.goal,.string y.id,.slice Az1 y.attr.length cz1,.slice Az2 y.value.length cz2,.bool y.acc,.slice Az3 y.conds.length cz3] 50)):=hB5'.alloc hB5'.size _
    have up : ∀j,NewD wr.heap.size w5 j→j<w5.heap.size→(Plus C wr (w5.alloc (.cells #[.int .i64 y.kind,.bool y.goal,.string y.id,.slice Az1 y.attr.length cz1,.slice Az2 y.value.length cz2,.bool y.acc,.slice Az3 y.conds.length cz3] 50))) j∧(w5.alloc (.cells #[.int .i64 y.kind,.bool y.goal,.string y.id,.slice Az1 y.attr.length cz1,.slice Az2 y.value.length cz2,.bool y.acc,.slice Az3 y.conds.length cz3] 50)).heap[j]? = w5.heap[j]?:=fun j hj hl=>⟨.inr ⟨hj.1,by simp;omega⟩,h9.block j hl⟩
    have hrep7:=rep_cond (n:=m) (y:=y) (g1.keep h9.size up) (g2.keep h9.size up) (g3.keep h9.size up)
    have hown7:=H1.out.plus hB7
    have hcl : ∀j,Plus C wr (w5.alloc (.cells #[.int .i64 y.kind,.bool y.goal,.string y.id,.slice Az1 y.attr.length cz1,.slice Az2 y.value.length cz2,.bool y.acc,.slice Az3 y.conds.length cz3] 50)) j→j<(w5.alloc (.cells #[.int .i64 y.kind,.bool y.goal,.string y.id,.slice Az1 y.attr.length cz1,.slice Az2 y.value.length cz2,.bool y.acc,.slice Az3 y.conds.length cz3] 50)).heap.size:=fun j hj=>by
     rcases hj with hj | hj
     · have:=(H2.out j hj).2;have:=hB7.size;omega
     · exact hj.2
    have HB7:=Lib.hid hB7
    have HOW:=Lib.hid hown7
    have HRE:=Lib.hid hrep7
    have HCL:=Lib.hid hcl
    have HB5:=Lib.hid hB5'
    have H63:=Lib.hid (show (L.take k).length+1≤maxLen by rw [take_len hk];unfold maxLen;omega)
    have HBY:=Lib.hid (show ((L.take k).length+1)*112≤140737488355328 by rw [take_len hk];omega)
    have HV:=Lib.hid (show Value.slice A1 k c1 = .slice A1 (L.take k).length c1 by rw [take_len hk])
    clear g1 g2 g3 hB5 h9 hB7 up hrep7 hown7 hcl hB5' q0 q1 q2 q3 q4 q5 q6
    go_wp2_with (at_builtin;refine wpList_append_C _ rfl _ _ 22 rfl 50 j0 _ 7 112 Try.underlying22 hj0 hy0 hyy1 hyy2 rfl rfl (by omega) (Plus C wr (w5.alloc (.cells #[.int .i64 y.kind,.bool y.goal,.string y.id,.slice Az1 y.attr.length cz1,.slice Az2 y.value.length cz2,.bool y.acc,.slice Az3 y.conds.length cz3] 50))) HCL.out (.slice A1 (L.take k).length c1) (L.take k) HV.out HOW.out ⟨w5.heap.size,0,none⟩ 1 y [.int .i64 y.kind,.bool y.goal,.string y.id,.slice Az1 y.attr.length cz1,.slice Az2 y.value.length cz2,.bool y.acc,.slice Az3 y.conds.length cz3] rfl (World.news_of_block (heap_alloc_new _ _)) (by intro u hu;simp only [List.mem_cons,List.not_mem_nil,or_false] at hu;rcases hu with rfl | rfl | rfl | rfl | rfl | rfl | rfl<;>rfl) HRE.out H63.out HBY.out ?_;intro v' w7 hap)
    have hfin:Copies (repCondT (m+1)) 50 W0 (L.take k ++ [y]) v' w7:=Copies.snoc H2.out H3.out H4.out HB7.out hap
    rw [HY.out,take_snoc hlt] at hfin
    go_roundw
    case rel=>exact ⟨k+1,by go_num,by omega,hfin⟩
    case measure=>simp [intOf];omega
  · obtain rfl:k=L.length:=by omega
    have hfin:Copies (repCondT n) 50 W0 (L.take L.length) (.slice A1 (L.take L.length).length c1) wr:=⟨C,A1,c1,rfl,h1,h2,h3,h4⟩
    rw [List.take_length] at hfin
    have HF:=Lib.hid hfin
    clear h1 h2 h3 h4 hfin
    go_wp2_with fail
    go_ret
    exact HF.out.done
set_option maxRecDepth 100000 in
set_option maxHeartbeats 16000000 in
theorem kcond_body (n:Nat) (hrec : ∀m,n=m+1→CopyOk 57 m):CopyOk 57 n:=by
 intro x A1 c1 A2 c2 A3 c3 D w h1 h2 h3 hs
 obtain ⟨j0,hj0,hy0,hyy1,hyy2⟩:=infp inf_Cond
 have hcap1:=h1.cap
 have hcap2:=h2.cap
 have hcap3:=h3.cap
 obtain ⟨s1,s2,s3,s4⟩:=hs
 have S1:=Lib.hid s1
 have S2:=Lib.hid s2
 have HREC:=Lib.hid hrec
 obtain ⟨L,hL⟩ : ∃L,L=x.conds:=⟨_,rfl⟩
 rw [← hL] at h3 hcap3 s3 s4
 have HS:=Lib.hid (show L.length≤1000∧∀x∈L,SmC n x from ⟨s3,s4⟩)
 have HXC:=Lib.hid hL
 clear s1 s2 s4 hrec
 rw [← hL]
 clear hL
 have Q1:=Lib.hid h1
 have Q2:=Lib.hid h2
 have Q3:=Lib.hid h3
 clear h1 h2 h3
 go_enter Try.func57,Try.ntmps57
 go_upto_region 1 with fail
 obtain ⟨W1,hW1⟩ : ∃W1,W1=(w.alloc (.cells #[.int .i64 x.kind,.bool x.goal,.string x.id,.slice A1 x.attr.length c1,.slice A2 x.value.length c2,.bool x.acc,.slice A3 L.length c3] 50)).alloc (.cells #[.int .i64 0,.bool false,.string ⟨#[]⟩,.slice none 0 0,.slice none 0 0,.bool false,.slice none 0 0] 50):=⟨_,rfl⟩
 have hB1:Below w.heap.size w W1:=by rw [hW1];exact ((Below.refl _ _).alloc (Nat.le_refl _) _).alloc (by simp) _
 have hX1:Blk W1 w.heap.size 50 #[.int .i64 x.kind,.bool x.goal,.string x.id,.slice A1 x.attr.length c1,.slice A2 x.value.length c2,.bool x.acc,.slice A3 L.length c3]:=by rw [hW1];exact (Blk.new _ _ _).alloc _
 have hR1:Blk W1 (w.heap.size+1) 50 #[.int .i64 0,.bool false,.string ⟨#[]⟩,.slice none 0 0,.slice none 0 0,.bool false,.slice none 0 0]:=by rw [hW1];have:=Blk.new (w.alloc (.cells #[.int .i64 x.kind,.bool x.goal,.string x.id,.slice A1 x.attr.length c1,.slice A2 x.value.length c2,.bool x.acc,.slice A3 L.length c3] 50)) 50 #[.int .i64 0,.bool false,.string ⟨#[]⟩,.slice none 0 0,.slice none 0 0,.bool false,.slice none 0 0];simpa using this
 have hz1:W1.heap.size=w.heap.size+2:=by rw [hW1];simp
 rw [← hW1]
 clear hW1
 obtain ⟨-,-,-,x3,-,-,-⟩:=hX1.c7
 have HB1:=Lib.hid hB1
 have HX1:=Lib.hid hX1
 have HR1:=Lib.hid hR1
 have HZ1:=Lib.hid hz1
 have hxl1:=hX1.lt
 clear hB1 hX1 hR1 hz1
 go_wp2_with fail
 refine (ktests_is A1 c1 x.attr W1 (Q1.out.new_ HB1.out) S1.out).mono ?_
 rintro e w2 ⟨B1,d1,rfl,k1,-,hB2⟩
 obtain ⟨W2,hW2⟩ : ∃W2,W2=w2.setCell ⟨w.heap.size,3,none⟩ (.slice B1 x.attr.length d1):=⟨_,rfl⟩
 have hX2:=HX1.out.new_ hB2
 have u3:=(hX2.cell 3).trans rfl
 have g3:=hX2.frozen 3
 have hX2b:Blk W2 w.heap.size 50 #[.int .i64 x.kind,.bool x.goal,.string x.id,.slice B1 x.attr.length d1,.slice A2 x.value.length c2,.bool x.acc,.slice A3 L.length c3]:=by rw [hW2];exact hX2.set_ 3 _
 have hR2:Blk W2 (w.heap.size+1) 50 #[.int .i64 0,.bool false,.string ⟨#[]⟩,.slice none 0 0,.slice none 0 0,.bool false,.slice none 0 0]:=by rw [hW2];exact (HR1.out.new_ hB2).far (by simp) _
 have hz2:=hB2.size
 have hzW2:W2.heap.size=w2.heap.size:=by rw [hW2];simp
 have hB2b:Below w.heap.size w W2:=by rw [hW2];exact (HB1.out.trans (hB2.mono (by omega))).setCell (Nat.le_refl _) _
 have hk1:RowR repTestT (NewD W1.heap.size W2) W2 B1 d1 x.attr:=k1.keep (by omega) (fun j hj hl=>⟨⟨hj.1,by have:=hj.2;omega⟩,by rw [hW2];exact Below.heap_setCell _ _ _ _ (by dsimp only;have:=hj.1;have:=HZ1.out;omega)⟩)
 have HB2:=Lib.hid hB2b
 have HX2:=Lib.hid hX2b
 have HR2:=Lib.hid hR2
 have HK1:=Lib.hid hk1
 have HZ2:=Lib.hid (show W1.heap.size≤W2.heap.size by omega)
 have hxl2:=hX2.lt
 clear k1 hB2 hX2 hX2b hR2 hB2b hk1 hzW2 x3
 go_upto_region 2 with fail
 rw [← hW2]
 clear hW2 u3 g3 hz2
 obtain ⟨-,-,-,-,x4,-,-⟩:=HX2.out.c7
 have hxl2:=HX2.out.lt
 go_wp2_with fail
 refine (ktests_is A2 c2 x.value W2 (Q2.out.new_ HB2.out) S2.out).mono ?_
 rintro e w3 ⟨B2,d2,rfl,k2,-,hB3⟩
 obtain ⟨W3,hW3⟩ : ∃W3,W3=w3.setCell ⟨w.heap.size,4,none⟩ (.slice B2 x.value.length d2):=⟨_,rfl⟩
 have hX3:=HX2.out.new_ hB3
 have u4:=(hX3.cell 4).trans rfl
 have g4:=hX3.frozen 4
 have hX3b:Blk W3 w.heap.size 50 #[.int .i64 x.kind,.bool x.goal,.string x.id,.slice B1 x.attr.length d1,.slice B2 x.value.length d2,.bool x.acc,.slice A3 L.length c3]:=by rw [hW3];exact hX3.set_ 4 _
 have hR3:Blk W3 (w.heap.size+1) 50 #[.int .i64 0,.bool false,.string ⟨#[]⟩,.slice none 0 0,.slice none 0 0,.bool false,.slice none 0 0]:=by rw [hW3];exact (HR2.out.new_ hB3).far (by simp) _
 have hz3:=hB3.size
 have hzW3:W3.heap.size=w3.heap.size:=by rw [hW3];simp
 have hB3b:Below w.heap.size w W3:=by rw [hW3];exact (HB2.out.trans (hB3.mono (by have:=HB2.out.size;omega))).setCell (Nat.le_refl _) _
 have hk2:RowR repTestT (NewD W1.heap.size W3) W3 B2 d2 x.value:=k2.keep (by omega) (fun j hj hl=>⟨⟨by have:=hj.1;have:=HZ2.out;omega,by have:=hj.2;omega⟩,by rw [hW3];exact Below.heap_setCell _ _ _ _ (by dsimp only;have:=hj.1;have:=HZ1.out;have:=HZ2.out;omega)⟩)
 have hk1:RowR repTestT (NewD W1.heap.size W3) W3 B1 d1 x.attr:=HK1.out.keep (by omega) (fun j hj hl=>⟨⟨hj.1,by have:=hj.2;omega⟩,by rw [hW3];exact (Below.heap_setCell _ _ _ _ (by dsimp only;have:=hj.1;have:=HZ1.out;omega)).trans (hB3.block j hl)⟩)
 have HB3:=Lib.hid hB3b
 have HX3:=Lib.hid hX3b
 have HR3b:=Lib.hid hR3
 have HK2:=Lib.hid hk2
 have HK1b:=Lib.hid hk1
 have HZ3:=Lib.hid (show W1.heap.size≤W3.heap.size by have:=HZ2.out;omega)
 have HQ3:=Lib.hid (Q3.out.new_ HB3.out)
 have hxl3:=hX3.lt
 clear k2 hB3 hX3 hX3b hR3 hB3b hk1 hk2 hzW3 x4
 go_upto_region 3 with fail
 rw [← hW3]
 clear hW3 u4 g4 hz3
 obtain ⟨-,-,-,-,-,-,x6⟩:=HX3.out.c7
 have hxl3:=HX3.out.lt
 go_wp2_with fail
 refine (kconds_is n HREC.out A3 c3 L W3 HQ3.out HS.out).mono ?_
 intro e wf hf
 obtain ⟨E3,d3,he,r3,hE3,hBf⟩:=hf
 cases he
 obtain ⟨W9,hW9⟩ : ∃W9,W9=wf.setCell ⟨w.heap.size,6,none⟩ (.slice E3 L.length d3):=⟨_,rfl⟩
 have hX9:=HX3.out.new_ hBf
 have u6:=(hX9.cell 6).trans rfl
 have g6:=hX9.frozen 6
 have hxl9:=hX9.lt
 have hX9b:Blk W9 w.heap.size 50 #[.int .i64 x.kind,.bool x.goal,.string x.id,.slice B1 x.attr.length d1,.slice B2 x.value.length d2,.bool x.acc,.slice E3 L.length d3]:=by rw [hW9];exact hX9.set_ 6 _
 have hR9:Blk W9 (w.heap.size+1) 50 #[.int .i64 0,.bool false,.string ⟨#[]⟩,.slice none 0 0,.slice none 0 0,.bool false,.slice none 0 0]:=by rw [hW9];exact (HR3b.out.new_ hBf).far (by simp) _
 have hB9:Below w.heap.size w W9:=by rw [hW9];exact (HB3.out.trans (hBf.mono HB3.out.size)).setCell (Nat.le_refl _) _
 have hzf:=hBf.size
 have hz9:W9.heap.size=wf.heap.size:=by rw [hW9];simp
 have hk9 : ∀j,w.heap.size+2≤j→W9.heap[j]? = wf.heap[j]?:=fun j hj=>by rw [hW9];exact Below.heap_setCell _ _ _ _ (by dsimp only;omega)
 have HB9:=Lib.hid hB9
 have HX9:=Lib.hid hX9b
 have HT9:=Lib.hid (show W9.there (w.heap.size+1) 0 (#[Value.int IntKind.i64 x.kind,Value.bool x.goal,Value.string x.id,Value.slice B1 x.attr.length d1,Value.slice B2 x.value.length d2,Value.bool x.acc,Value.slice E3 L.length d3]:Array Value).size from hR9.there)
 have HRG:=Lib.hid (show W9.rangeAt w.heap.size 0 [Value.int IntKind.i64 x.kind,Value.bool x.goal,Value.string x.id,Value.slice B1 x.attr.length d1,Value.slice B2 x.value.length d2,Value.bool x.acc,Value.slice E3 L.length d3] from hX9b.range)
 have hrl9:=hR9.lt
 have l3:=r3.keep (w':=W9.setCells (w.heap.size+1) 0 [Value.int IntKind.i64 x.kind,Value.bool x.goal,Value.string x.id,Value.slice B1 x.attr.length d1,Value.slice B2 x.value.length d2,Value.bool x.acc,Value.slice E3 L.length d3]) (D':=NewD w.heap.size (W9.setCells (w.heap.size+1) 0 [Value.int IntKind.i64 x.kind,Value.bool x.goal,Value.string x.id,Value.slice B1 x.attr.length d1,Value.slice B2 x.value.length d2,Value.bool x.acc,Value.slice E3 L.length d3])) (by rw [size_setCells];omega) (fun j hj hl=>⟨⟨by have:=hj.1;have:=HB3.out.size;omega,by rw [size_setCells];omega⟩,(blk_setCells _ _ _ _ _ (by have:=hj.1;have:=HZ1.out;have:=HZ3.out;omega)).trans (hk9 j (by have:=hj.1;have:=HZ1.out;have:=HZ3.out;omega))⟩)
 have l1:=HK1b.out.keep (w':=W9.setCells (w.heap.size+1) 0 [Value.int IntKind.i64 x.kind,Value.bool x.goal,Value.string x.id,Value.slice B1 x.attr.length d1,Value.slice B2 x.value.length d2,Value.bool x.acc,Value.slice E3 L.length d3]) (D':=NewD w.heap.size (W9.setCells (w.heap.size+1) 0 [Value.int IntKind.i64 x.kind,Value.bool x.goal,Value.string x.id,Value.slice B1 x.attr.length d1,Value.slice B2 x.value.length d2,Value.bool x.acc,Value.slice E3 L.length d3])) (by rw [size_setCells];omega) (fun j hj hl=>⟨⟨by have:=hj.1;have:=HZ1.out;omega,by rw [size_setCells];omega⟩,(blk_setCells _ _ _ _ _ (by have:=hj.1;have:=HZ1.out;omega)).trans ((hk9 j (by have:=hj.1;have:=HZ1.out;omega)).trans (hBf.block j hl))⟩)
 have l2:=HK2.out.keep (w':=W9.setCells (w.heap.size+1) 0 [Value.int IntKind.i64 x.kind,Value.bool x.goal,Value.string x.id,Value.slice B1 x.attr.length d1,Value.slice B2 x.value.length d2,Value.bool x.acc,Value.slice E3 L.length d3]) (D':=NewD w.heap.size (W9.setCells (w.heap.size+1) 0 [Value.int IntKind.i64 x.kind,Value.bool x.goal,Value.string x.id,Value.slice B1 x.attr.length d1,Value.slice B2 x.value.length d2,Value.bool x.acc,Value.slice E3 L.length d3])) (by rw [size_setCells];omega) (fun j hj hl=>⟨⟨by have:=hj.1;have:=HZ1.out;omega,by rw [size_setCells];omega⟩,(blk_setCells _ _ _ _ _ (by have:=hj.1;have:=HZ1.out;omega)).trans ((hk9 j (by have:=hj.1;have:=HZ1.out;omega)).trans (hBf.block j hl))⟩)
 have R1:=Lib.hid l1
 have R2:=Lib.hid l2
 have R3:=Lib.hid l3
 clear hX9 hX9b hR9 hB9 hBf r3 hE3 l1 l2 l3 hz9 hk9 hzf x6
 go_upto_region 4 with fail
 rw [← hW9]
 clear hW9 u6 g6
 go_wp2_with (first | (with_reducible refine wpList_load_mid rfl 50 _ rfl w.heap.size 0 rfl [Value.int IntKind.i64 x.kind,Value.bool x.goal,Value.string x.id,Value.slice B1 x.attr.length d1,Value.slice B2 x.value.length d2,Value.bool x.acc,Value.slice E3 L.length d3] _ HRG.out Try.underlying50 rfl (by kernel_rfl) ?_) | (with_reducible refine wpList_store_mid rfl 50 _ _ rfl (w.heap.size+1) 0 #[Value.int IntKind.i64 x.kind,Value.bool x.goal,Value.string x.id,Value.slice B1 x.attr.length d1,Value.slice B2 x.value.length d2,Value.bool x.acc,Value.slice E3 L.length d3] rfl rfl HT9.out (by kernel_rfl) (by kernel_rfl) ?_))
 try simp only [Exit.inBlock,Exit.then]
 have hBe:Below w.heap.size w (W9.setCells (w.heap.size+1) 0 [Value.int IntKind.i64 x.kind,Value.bool x.goal,Value.string x.id,Value.slice B1 x.attr.length d1,Value.slice B2 x.value.length d2,Value.bool x.acc,Value.slice E3 L.length d3]):=Below.setCells' _ _ HB9.out (by omega)
 refine bodyPost_ret (v:=.agg #[.int .i64 x.kind,.bool x.goal,.string x.id,.slice B1 x.attr.length d1,.slice B2 x.value.length d2,.bool x.acc,.slice E3 L.length d3]) ?_ rfl ?_
 · exact results_cell (t:=2) (T:=50) rfl _ _ (w.heap.size+1) [Value.int IntKind.i64 x.kind,Value.bool x.goal,Value.string x.id,Value.slice B1 x.attr.length d1,Value.slice B2 x.value.length d2,Value.bool x.acc,Value.slice E3 L.length d3] _ rfl (World.rangeAt_setCells_same W9 (w.heap.size+1) 0 [Value.int IntKind.i64 x.kind,Value.bool x.goal,Value.string x.id,Value.slice B1 x.attr.length d1,Value.slice B2 x.value.length d2,Value.bool x.acc,Value.slice E3 L.length d3] HT9.out) Try.underlying50 rfl (by kernel_rfl)
 · have hxc:=HXC.out
   subst hxc
   exact ⟨B1,d1,B2,d2,E3,d3,rfl,R1.out,R2.out,R3.out,hBe⟩
theorem kcond_is : ∀n,CopyOk 57 n
 | 0=>kcond_body 0 (fun m h=>by omega)
 | n+1=>kcond_body (n+1) (fun m h=>by obtain rfl:m=n:=by omega
                                      exact kcond_is m)
end Go.Proofs.Ytffemfglngikbaa
namespace Go.Proofs.Ytffemfglngikbaa
open Go.RowKit Go.Shelf
set_option maxRecDepth 100000 in
set_option maxHeartbeats 8000000 in
theorem copyprod_is {D:Nat→Prop} (n:Nat) (p:ProdT) (A1:Option Addr) (c1:Nat) (A2:Option Addr) (c2:Nat) (w:World)
 (h1:RowR (repCondT n) D w A1 c1 p.conds) (h2:RowR repActT D w A2 c2 p.acts) (hl1:p.conds.length≤1000) (hl2:p.acts.length≤1000) (hs : ∀x∈p.conds,SmC n x) :
 Calls Try.prog 16 #[.agg #[.string p.name,.slice A1 p.conds.length c1,.slice A2 p.acts.length c2]] w (FreshP n p w):=by
 have HK1:=Lib.hid (show ∀W,Below w.heap.size w W→Calls Try.prog 31 #[.slice A1 p.conds.length c1] W (FreshR (repCondT n) p.conds W) from fun W hW=>kconds_is n (fun m _=>kcond_is m) A1 c1 p.conds W (h1.new_ hW) ⟨hl1,hs⟩)
 have HK2:=Lib.hid (show ∀W,Below w.heap.size w W→Calls Try.prog 32 #[.slice A2 p.acts.length c2] W _ from fun W hW=>cp_Act A2 c2 p.acts W (RowR.rd (hs:=ActT.cells_length) (h2.new_ hW)) (by omega))
 clear h1 h2 hs
 go_enter Try.func16,Try.ntmps16
 go_upto_region 1 with fail
 obtain ⟨w1,hw1⟩ : ∃w1,w1=((w.alloc (.cells #[.string p.name,.slice A1 p.conds.length c1,.slice A2 p.acts.length c2] 25)).alloc (.cells #[.string ⟨#[]⟩,.slice none 0 0,.slice none 0 0] 25)):=⟨_,rfl⟩
 rw [← hw1]
 have HB:=Lib.hid (show Below w.heap.size w w1 by rw [hw1];exact (by repeat (first | exact Below.refl _ _ | refine Below.drew ?_ | refine Below.al ?_ _ | refine Below.sc ?_ _)))
 have Kp:=Lib.hid (show Blk w1 (w.heap.size) 25 #[.string p.name,.slice A1 p.conds.length c1,.slice A2 p.acts.length c2] by rw [hw1];exact ((Blk.new w 25 #[.string p.name,.slice A1 p.conds.length c1,.slice A2 p.acts.length c2]).alloc (.cells #[.string ⟨#[]⟩,.slice none 0 0,.slice none 0 0] 25)))
 have Kr:=Lib.hid (show Blk w1 (w.heap.size+1) 25 #[.string ⟨#[]⟩,.slice none 0 0,.slice none 0 0] by rw [hw1];have hh:=(Blk.new (w.alloc (.cells #[.string p.name,.slice A1 p.conds.length c1,.slice A2 p.acts.length c2] 25)) 25 #[.string ⟨#[]⟩,.slice none 0 0,.slice none 0 0]);simp only [World.size_alloc] at hh;exact hh)
 clear hw1
 obtain ⟨p0,p1,p2⟩:=Kp.out.c3
 have pz:=Kp.out.lt
 obtain ⟨r0,r1,r2⟩:=Kr.out.c3
 have rz:=Kr.out.lt
 refine wp_region_E (fun w9=>Below w1.heap.size w1 w9) [(0,0),(1,1),(2,0),(3,1),(5,0),(6,1),(4,2),(7,2),(8,0),(9,2)] (by kernel_rfl) (by kernel_rfl) (fun KK hKK=>?_)
 simp only [beside,List.filterMap_cons,List.filterMap_nil,List.getElem?_toArray,List.getElem?_cons_zero,List.getElem?_cons_succ,Option.map_some]
 repeat ((first | (refine wpX_w ?_ (Or.inl ⟨by rfl,fun w9=>?_⟩) ?_;rotate_left 1;go_simp;with_reducible rfl) | (refine wpX_l ?_ (((Below.refl _ _).drew)) (Or.inl ⟨by rfl,fun w9 hw9=>?_⟩) ?_;rotate_left 1;obtain ⟨hc9,hf9⟩:=bcell hw9;go_simp;with_reducible rfl) | refine wpX_w undef (Or.inr ⟨by rfl,rfl⟩) ?_ | refine wpX_l undef (((Below.refl _ _).drew)) (Or.inr ⟨by rfl,rfl⟩) ?_);go_frame)
 refine wpX_es (fun K9 hK9=>?_)
 go_simp
 refine (HK1.out _ (HB.out.trans (((Below.refl w1.heap.size w1).drew).mono HB.out.size))).mono ?_
 rintro e w31 ⟨B1,d1,rfl,k1,-,hb31⟩
 have HB31:=Lib.hid (show Below w1.heap.size w1 w31 from ((Below.refl w1.heap.size w1).drew).trans hb31)
 have HR1:=Lib.hid (show RowR (repCondT n) (NewD w1.heap.size w31) w31 B1 d1 p.conds from k1)
 clear hb31 k1
 refine hK9 _ _ HB31.out ?_
 clear hK9 K9
 refine wpX_es (fun K9 hK9=>?_)
 go_simp
 refine (HK2.out _ (HB.out.trans (HB31.out.mono HB.out.size))).mono ?_
 rintro e w32 ⟨B2,d2,rfl,ho,hA,hb32⟩
 have HB32:=Lib.hid (HB31.out.trans (hb32.mono HB31.out.size))
 have HR2:=Lib.hid (show RowR repActT (NewD w1.heap.size w32) w32 B2 d2 p.acts from (Fresh1.row ActT.cells_length ho hA).newD (Below.refl _ _) HB31.out.size)
 have HR1:=Lib.hid (HR1.out.newD hb32 (Nat.le_refl _))
 have HKR:=Lib.hid (Kr.out.new_ HB32.out)
 clear hb32 ho hA
 refine hK9 _ _ HB32.out ?_
 clear hK9 K9
 repeat ((first | (refine wpX_w ?_ (Or.inl ⟨by rfl,fun w9=>?_⟩) ?_;rotate_left 1;go_simp;with_reducible rfl) | (refine wpX_l ?_ (HB32.out) (Or.inl ⟨by rfl,fun w9 hw9=>?_⟩) ?_;rotate_left 1;obtain ⟨hc9,hf9⟩:=bcell hw9;go_simp;with_reducible rfl) | refine wpX_w undef (Or.inr ⟨by rfl,rfl⟩) ?_ | refine wpX_l undef (HB32.out) (Or.inr ⟨by rfl,rfl⟩) ?_);go_frame)
 refine wpX_e (by kernel_rfl) (fun K9 hK9=>?_)
 have HTH:=Lib.hid (show w32.there (w.heap.size+1) 0 (#[Value.string p.name,Value.slice B1 p.conds.length d1,Value.slice B2 p.acts.length d2]:Array Value).size from HKR.out.there)
 refine step_store_el rfl 25 _ _ rfl (w.heap.size+1) 0 #[Value.string p.name,Value.slice B1 p.conds.length d1,Value.slice B2 p.acts.length d2] rfl rfl HTH.out (by kernel_rfl) (by kernel_rfl) ?_
 refine hK9 _ _ ?_
 clear hK9 K9
 refine wpX_nil ?_
 simp only [OnlyN_normal]
 refine hKK _ _ ?_
 clear hKK KK
 go_wp2_with fail
 try simp only [Exit.inBlock,Exit.then]
 have HRZ:=Kr.out.lt
 have hB9:Below w.heap.size w (w32.setCells (w.heap.size+1) 0 [Value.string p.name,Value.slice B1 p.conds.length d1,Value.slice B2 p.acts.length d2]):=Below.setCells' _ _ (HB.out.trans (HB32.out.mono HB.out.size)) (by omega)
 have hz1:=HB.out.size
 have hup : ∀j,NewD w1.heap.size w32 j→j<w32.heap.size→NewD w.heap.size (w32.setCells (w.heap.size+1) 0 [Value.string p.name,Value.slice B1 p.conds.length d1,Value.slice B2 p.acts.length d2]) j∧(w32.setCells (w.heap.size+1) 0 [Value.string p.name,Value.slice B1 p.conds.length d1,Value.slice B2 p.acts.length d2]).heap[j]? = w32.heap[j]?:=fun j hj hl=>⟨⟨by have:=hj.1;omega,by rw [size_setCells];omega⟩,blk_setCells _ _ _ _ _ (by have:=hj.1;omega)⟩
 refine bodyPost_ret (v:=.agg #[.string p.name,.slice B1 p.conds.length d1,.slice B2 p.acts.length d2]) ?_ rfl ⟨B1,d1,B2,d2,rfl,HR1.out.keep (by rw [size_setCells];omega) hup,HR2.out.keep (by rw [size_setCells];omega) hup,hB9⟩
 exact results_cell (t:=2) (T:=25) rfl _ _ (w.heap.size+1) [Value.string p.name,Value.slice B1 p.conds.length d1,Value.slice B2 p.acts.length d2] _ rfl (World.rangeAt_setCells_same w32 (w.heap.size+1) 0 [Value.string p.name,Value.slice B1 p.conds.length d1,Value.slice B2 p.acts.length d2] HTH.out) Try.underlying25 rfl (by kernel_rfl)
end Go.Proofs.Ytffemfglngikbaa
namespace Go.Proofs.Ytffemfglngikbaa
open Go.RowKit Go.Shelf
def Unf (w:World) (j:Nat):Prop:=j<w.heap.size∧∀o,w.frozen? ⟨j,o,none⟩=false
section
variable {α:Type} {r:RepT α} {D D':Nat→Prop} {w w':World} {A:Option Addr} {c:Nat} {l:List α}
theorem Unf.keep {j:Nat} (h:Unf w j) (hs:w.heap.size≤w'.heap.size) (hh:w'.heap[j]? = w.heap[j]?):Unf w' j:=⟨Nat.lt_of_lt_of_le h.1 hs,fun o=>(World.frozen?_of_block (a:=⟨j,o,none⟩) hh).trans (h.2 o)⟩
theorem unf_own {e:TypeId} {size n:Nat} {xs:List Value} (h:w.ownsRow 0 e size (.slice A n c) n xs):AIn A (Unf w):=by
 rcases h.2 with ⟨hv,_⟩ | ⟨g,cap,cur,hv,_,hg,_⟩
 · injection hv with hA;subst hA;exact AIn.none_ _
 · injection hv with hA;subst hA
   intro a ha
   cases ha
   exact ⟨Blk.lt (t:=e) hg,fun o=>Blk.frozen (t:=e) hg o⟩
def RowU (r:RepT α) (D:Nat→Prop) (w:World) (A:Option Addr) (c:Nat) (l:List α):Prop:=RowR r D w A c l∧AIn A (fun j=>D j∧Unf w j)
theorem RowU.keep (h:RowU r D w A c l) (hs:w.heap.size≤w'.heap.size) (hk : ∀k,D k→k<w.heap.size→D' k∧w'.heap[k]? = w.heap[k]?):RowU r D' w' A c l:=
 ⟨h.1.keep hs hk,fun a ha=>by
  obtain ⟨h1,h2⟩:=h.2 a ha
  obtain ⟨g1,g2⟩:=hk _ h1 h2.1
  exact ⟨g1,h2.keep hs g2⟩⟩
theorem RowU.new_ (h:RowU r D w A c l) (hb:Below w.heap.size w w'):RowU r D w' A c l:=h.keep hb.size (fun k hk hl=>⟨hk,hb.block k hl⟩)
theorem RowU.weaken (h:RowU r D w A c l) (hD : ∀k,D k→D' k):RowU r D' w A c l:=h.keep (Nat.le_refl _) (fun k hk _=>⟨hD k hk,rfl⟩)
theorem RowU.newD {B B':Nat} (h:RowU r (NewD B w) w A c l) (hb:Below w.heap.size w w') (hB:B'≤B):RowU r (NewD B' w') w' A c l:=
 h.keep hb.size (fun j hj hl=>⟨NewD.up hB hb.size j hj,hb.block j hl⟩)
theorem Fresh1.rowU {e size:Nat} {cells:α→List Value} (hs : ∀a,(cells a).length=size) {B:Nat} (h:w'.ownsRow 0 e size (.slice A l.length c) l.length (l.flatMap cells)) (hA:AIn A (NewD B w')):RowU (RepT.flat size cells hs) (NewD B w') w' A c l:=
 ⟨Fresh1.row hs h hA,fun a ha=>⟨hA a ha,unf_own h a ha⟩⟩
theorem OwnC.rowU {e:TypeId} {C C':Nat→Prop} {n:Nat} (h:OwnC r e C w (.slice A n c) l) (hC : ∀k,C k→C' k) (hA:AIn A C'):RowU r C' w A c l:=by
 have hr:=h.row hC hA
 obtain ⟨_,_,hv,_⟩:=h.form
 injection hv with _ hn _
 subst hn
 obtain ⟨css,hown,_⟩:=h
 exact ⟨hr,fun a ha=>⟨hA a ha,unf_own hown a ha⟩⟩
def FreshU (r:RepT α) (l:List α) (w:World) (en:Ending) (w':World):Prop:=
 ∃A c,en = .returned (.slice A l.length c)∧RowU r (NewD w.heap.size w') w' A c l∧AIn A (NewD w.heap.size w')∧Below w.heap.size w w'
theorem Copies.doneU {e:TypeId} {v:Value} (h:Copies r e w l v w'):FreshU r l w (.returned v) w':=by
 obtain ⟨C,A,c,rfl,h1,h2,h3,h4⟩:=h
 exact ⟨A,c,rfl,h1.rowU h2 h3,h3,h4⟩
end
def repTestU:RepT TestT:=
 { size:=6,rep:=fun D w x cs=>∃A c,cs = [.int .i64 x.rel,.string x.var,.int .i64 x.sym.kind,.string x.sym.text,.int .i64 x.sym.n,.slice A x.list.length c]∧RowU repSym D w A c x.list,
   len:=by rintro _ _ _ _ ⟨_,_,rfl,_⟩;rfl,
   keep:=by rintro _ _ _ _ _ _ hs hk ⟨A,c,h0,h1⟩;exact ⟨A,c,h0,h1.keep hs hk⟩ }
def repCondU:Nat→RepT CondT
 | 0=>{ size:=7,rep:=fun _ _ _ _=>False,len:=fun h=>h.elim,keep:=fun _ _ h=>h }
 | n+1=>
 { size:=7,rep:=fun D w x cs=>∃A1 c1 A2 c2 A3 c3,cs = [.int .i64 x.kind,.bool x.goal,.string x.id,.slice A1 x.attr.length c1,.slice A2 x.value.length c2,.bool x.acc,.slice A3 x.conds.length c3]∧RowU repTestU D w A1 c1 x.attr∧RowU repTestU D w A2 c2 x.value∧RowU (repCondU n) D w A3 c3 x.conds,
   len:=by rintro _ _ _ _ ⟨_,_,_,_,_,_,rfl,_⟩;rfl,
   keep:=by
    rintro _ _ _ _ _ _ hs hk ⟨A1,c1,A2,c2,A3,c3,h0,h1,h2,h3⟩
    exact ⟨A1,c1,A2,c2,A3,c3,h0,h1.keep hs hk,h2.keep hs hk,h3.keep hs hk⟩ }
theorem rep_testU {D:Nat→Prop} {w:World} {y:TestT} {A:Option Addr} {c:Nat} (h:RowU repSym D w A c y.list):repTestU.rep D w y [.int .i64 y.rel,.string y.var,.int .i64 y.sym.kind,.string y.sym.text,.int .i64 y.sym.n,.slice A y.list.length c]:=⟨A,c,rfl,h⟩
theorem rep_condU {n:Nat} {D:Nat→Prop} {w:World} {y:CondT} {Ay1 Ay2 Ay3:Option Addr} {cy1 cy2 cy3:Nat} (h1:RowU repTestU D w Ay1 cy1 y.attr) (h2:RowU repTestU D w Ay2 cy2 y.value) (h3:RowU (repCondU n) D w Ay3 cy3 y.conds) :
 (repCondU (n+1)).rep D w y [.int .i64 y.kind,.bool y.goal,.string y.id,.slice Ay1 y.attr.length cy1,.slice Ay2 y.value.length cy2,.bool y.acc,.slice Ay3 y.conds.length cy3]:=⟨Ay1,cy1,Ay2,cy2,Ay3,cy3,rfl,h1,h2,h3⟩
theorem RowU.test {D:Nat→Prop} {w:World} {A:Option Addr} {c:Nat} {l:List TestT} (h:RowU repTestU D w A c l):RowR repTestT D w A c l:=h.1.imp rfl (fun _ _ ⟨A,c,h0,h1⟩=>⟨A,c,h0,h1.1⟩)
theorem RowU.cond {D:Nat→Prop} {w:World} : ∀(n:Nat) {A:Option Addr} {c:Nat} {l:List CondT},RowU (repCondU n) D w A c l→RowR (repCondT n) D w A c l
 | 0,_,_,_,h=>h.1.imp rfl (fun _ _ h=>h)
 | n+1,_,_,_,h=>h.1.imp rfl (fun _ _ ⟨A1,c1,A2,c2,A3,c3,h0,h1,h2,h3⟩=>⟨A1,c1,A2,c2,A3,c3,h0,h1.test,h2.test,RowU.cond n h3⟩)
def FreshCU (n:Nat) (c:CondT) (w:World) (en:Ending) (w':World):Prop:=
 ∃A1 c1 A2 c2 A3 c3,en = .returned (.agg #[.int .i64 c.kind,.bool c.goal,.string c.id,.slice A1 c.attr.length c1,.slice A2 c.value.length c2,.bool c.acc,.slice A3 c.conds.length c3])∧RowU repTestU (NewD w.heap.size w') w' A1 c1 c.attr∧RowU repTestU (NewD w.heap.size w') w' A2 c2 c.value∧RowU (repCondU n) (NewD w.heap.size w') w' A3 c3 c.conds∧Below w.heap.size w w'
end Go.Proofs.Ytffemfglngikbaa
namespace Go.Proofs.Ytffemfglngikbaa
open Go.RowKit Go.Shelf
set_option maxRecDepth 100000 in
set_option maxHeartbeats 8000000 in
theorem ctests_isU {gf:Nat} {lb:Array Value} {w0:World} {Q:ByteArray→Prop} {t:ByteArray→ByteArray} (hN:NamerOk gf lb w0 Q t) (A:Option Addr) (c:Nat) (l:List TestT) {D:Nat→Prop} (w:World) (hw:Below w0.heap.size w0 w) (hrd:RowR repTestT D w A c l) (hs:SmT l) (hq:QT Q l) :
 Calls Try.prog 58 #[.func (.func gf) #[] lb,.slice A l.length c] w (FreshU repTestU (l.map (testR t)) w):=by
 obtain ⟨i0,hi0,hz0,hz1,hz2⟩:=infp inf_Sym
 obtain ⟨j0,hj0,hy0,hy1,hy2⟩:=infp inf_Test
 have hlc:=hrd.cap
 have hl1:=hs.1
 have HRD:=Lib.hid hrd
 have HS:=Lib.hid hs
 have HQ:=Lib.hid hq
 have HON:=Lib.hid (show ∀v W,Below w.heap.size w W→QV Q v→_ from fun v W hW hv=>one_is hN v W (hw.trans (hW.mono hw.size)) hv)
 obtain ⟨L,hL⟩ : ∃L,L=l.map (testR t):=⟨_,rfl⟩
 rw [← hL]
 have HLL:=Lib.hid (show L.length=l.length by rw [hL,List.length_map])
 have HLG:=Lib.hid (show ∀k,(h:k<l.length)→∃h':k<L.length,L[k]=testR t l[k] from fun k h=>⟨by rw [hL,List.length_map];exact h,by simp [hL]⟩)
 clear hrd hs hq hN hw hL
 go_enter Try.func58,Try.ntmps58
 go_wp2_with fail
 go_loopw [5,10] (fun v i wr=>∃k:Nat,i = .int .i64 k∧k≤l.length∧Copies repTestU 65 w (L.take k) v wr) (fun v i wr=>l.length - (intOf i).toNat)
 case atStart=>exact ⟨0,rfl,Nat.zero_le _,Copies.nil _ _ _ (Below.refl _ _)⟩
 case round=>
  obtain ⟨k,rfl,hk,hC⟩:=hrel
  obtain ⟨C,A1,c1,rfl,h1,h2,h3,h4⟩:=hC
  have hkL:(L.take k).length=k:=take_len (by rw [HLL.out];exact hk)
  rw [hkL]
  by_cases hlt:k<l.length
  · have hrw:=HRD.out.keep (D':=D) h4.size (fun j hj hl=>⟨hj,h4.block j hl⟩)
    obtain ⟨g,off,A3,c3,rfl,hDg,hg,q0,q1,q2,q3,q4,q5,hr3⟩:=at_TestT hrw hlt
    obtain ⟨y,hy⟩ : ∃y,y=l[k]:=⟨_,rfl⟩
    have hy3:y.list.length≤1000:=by rw [hy];exact HS.out.2 _ (List.getElem_mem hlt)
    have HQY:=Lib.hid (show QV Q y.var from fun h=>by rw [hy] at h ⊢;exact HQ.out _ (List.getElem_mem hlt) h)
    rw [← hy] at q0 q1 q2 q3 q4 q5 hr3
    have hr4:=RowR.rd (hs:=Sym.cells_length) hr3
    have hl3:=hr3.cap
    have b1:(0:Int)≤(k:Int):=by omega
    have b2:(k:Int)<(l.length:Int):=by omega
    have HZ:=Lib.hid (show L.take k ++ [testR t y]=L.take (k+1) by
     obtain ⟨h',e⟩:=HLG.out k hlt
     rw [hy,← e]
     exact take_snoc h')
    have H1:=Lib.hid h1
    have H2:=Lib.hid h2
    have H3:=Lib.hid h3
    have H4:=Lib.hid h4
    have HR4:=Lib.hid hr4
    have HKL:=Lib.hid hkL
    clear hy hrw h1 h2 h3 h4 hr3 hr4 hkL
    go_upto_region 5 with fail
    obtain ⟨W2,hW2⟩ : ∃W2,W2=wr.alloc (.cells #[.int .i64 y.rel,.string y.var,.int .i64 y.sym.kind,.string y.sym.text,.int .i64 y.sym.n,.slice A3 y.list.length c3] 65):=⟨_,rfl⟩
    have hB2:Below wr.heap.size wr W2:=by rw [hW2];exact (Below.refl _ _).alloc (Nat.le_refl _) _
    have hX2:Blk W2 wr.heap.size 65 #[.int .i64 y.rel,.string y.var,.int .i64 y.sym.kind,.string y.sym.text,.int .i64 y.sym.n,.slice A3 y.list.length c3]:=by rw [hW2];exact Blk.new _ _ _
    rw [← hW2]
    clear hW2 q0 q1 q2 q3 q4 q5
    have HB2:=Lib.hid hB2
    have HX2:=Lib.hid hX2
    have hxl2:=hX2.lt
    have x1:W2.cell? ⟨wr.heap.size,1,none⟩=some (.string y.var):=(hX2.cell 1).trans rfl
    clear hX2 hB2
    go_wp2_with fail
    refine (HON.out y.var W2 (H4.out.trans (HB2.out.mono H4.out.size)) HQY.out).mono ?_
    rintro e w3 ⟨rfl,hb3⟩
    obtain ⟨v,hv⟩ : ∃v,v=oneR t y.var:=⟨_,rfl⟩
    rw [← hv]
    have HV:=Lib.hid hv
    obtain ⟨W4,hW4⟩ : ∃W4,W4=w3.setCell ⟨wr.heap.size,1,none⟩ (.string v):=⟨_,rfl⟩
    have hX3:=HX2.out.new_ hb3
    have x1:w3.cell? ⟨wr.heap.size,1,none⟩=some (.string y.var):=(hX3.cell 1).trans rfl
    have g1:=hX3.frozen 1
    have hxl3:=hX3.lt
    have hX4:Blk W4 wr.heap.size 65 #[.int .i64 y.rel,.string v,.int .i64 y.sym.kind,.string y.sym.text,.int .i64 y.sym.n,.slice A3 y.list.length c3]:=by rw [hW4];exact hX3.set_ 1 _
    have hB4:Below wr.heap.size wr W4:=by rw [hW4];exact (HB2.out.trans (hb3.mono HB2.out.size)).setCell (Nat.le_refl _) _
    have HB4:=Lib.hid hB4
    have HX4:=Lib.hid hX4
    have hxl4:=hX4.lt
    have HTT:=Lib.hid (show testR t y=⟨y.rel,v,y.sym,y.list⟩ by rw [hv];rfl)
    clear hb3 hX3 hX4 hB4 hv
    go_upto_region 6 with fail
    rw [← hW4]
    clear hW4 g1 hxl3 hxl2
    have x5:W4.cell? ⟨wr.heap.size,5,none⟩=some (.slice A3 y.list.length c3):=(HX4.out.cell 5).trans rfl
    go_upto_region 7 with (at_builtin;refine wpList_append_src W4 rfl (.const (.slice none 0 0)) (.tmp 20) 63 rfl 52 i0 _ 3 32 Try.underlying63 hi0 hz0 hz1 hz2 rfl (by omega) (.slice none 0 0) 0 [] rfl (owns_nilC _ _ _) A3 y.list.length c3 (y.list.flatMap Sym.cells) rfl (flat_length Sym.cells_length _) ((HR4.out.new_ HB4.out).news Sym.cells_length (by omega)) (one_Sym _) (by unfold maxLen;omega) (by omega) ?_;intro v1 w5 hown1 hg1 hnil1 hat1;rw [Nat.zero_add,List.nil_append] at hown1;obtain ⟨A5,c5,rfl,ho5,hA5,hB5⟩:=fresh1_of hown1 hat1 rfl hg1;have hX5:=HX4.out.new_ hB5;have u5:=(hX5.cell 5).trans rfl;have g5:=hX5.frozen 5;have hxl5:=hX5.lt;have HB5:=Lib.hid hB5;have HO5:=Lib.hid ho5;have HA5:=Lib.hid hA5;have HX5:=Lib.hid hX5;clear hX5 hB5 ho5 hA5 hown1 hat1 hg1 hnil1 x5)
    obtain ⟨W6,hW6⟩ : ∃W6,W6=w5.setCell ⟨wr.heap.size,5,none⟩ (.slice A5 y.list.length c5):=⟨_,rfl⟩
    have hX5:=HX5.out
    have hB6:Below wr.heap.size wr W6:=by rw [hW6];exact (HB4.out.trans (HB5.out.mono (by omega))).setCell (Nat.le_refl _) _
    have hX6:Blk W6 wr.heap.size 65 #[.int .i64 y.rel,.string v,.int .i64 y.sym.kind,.string y.sym.text,.int .i64 y.sym.n,.slice A5 y.list.length c5]:=by rw [hW6];exact hX5.set_ 5 _
    have hO6:W6.ownsRow 0 52 3 (.slice A5 y.list.length c5) y.list.length (y.list.flatMap Sym.cells):=by rw [hW6];exact ownsRow_setCell_other (a:=⟨wr.heap.size,5,none⟩) HO5.out (own_blk_ne HO5.out hX5 (by decide)) _
    have hA6:AIn A5 (NewD wr.heap.size W6):=HA5.out.mono (fun j hj=>⟨by have:=hj.1;omega,by rw [hW6];simpa using hj.2⟩)
    rw [← hW6]
    clear hW6 hX5
    have hB7:Below wr.heap.size wr (W6.alloc (.cells #[.int .i64 y.rel,.string v,.int .i64 y.sym.kind,.string y.sym.text,.int .i64 y.sym.n,.slice A5 y.list.length c5] 65)):=hB6.alloc hB6.size _
    have hrow:RowU repSym (Plus C wr (W6.alloc (.cells #[.int .i64 y.rel,.string v,.int .i64 y.sym.kind,.string y.sym.text,.int .i64 y.sym.n,.slice A5 y.list.length c5] 65))) (W6.alloc (.cells #[.int .i64 y.rel,.string v,.int .i64 y.sym.kind,.string y.sym.text,.int .i64 y.sym.n,.slice A5 y.list.length c5] 65)) A5 c5 y.list:=(Fresh1.rowU Sym.cells_length hO6 hA6).keep (by simp) (fun j hj hl=>⟨.inr ⟨hj.1,by simp;have:=hj.2;omega⟩,((Below.refl W6.heap.size W6).alloc (Nat.le_refl _) _).block j hl⟩)
    have hown7:=H1.out.plus hB7
    have hrep7:repTestU.rep (Plus C wr (W6.alloc (.cells #[.int .i64 y.rel,.string v,.int .i64 y.sym.kind,.string y.sym.text,.int .i64 y.sym.n,.slice A5 y.list.length c5] 65))) (W6.alloc (.cells #[.int .i64 y.rel,.string v,.int .i64 y.sym.kind,.string y.sym.text,.int .i64 y.sym.n,.slice A5 y.list.length c5] 65)) (testR t y) [.int .i64 y.rel,.string v,.int .i64 y.sym.kind,.string y.sym.text,.int .i64 y.sym.n,.slice A5 y.list.length c5]:=by
     rw [HTT.out]
     exact rep_testU (y:=⟨y.rel,v,y.sym,y.list⟩) hrow
    have hcl : ∀j,Plus C wr (W6.alloc (.cells #[.int .i64 y.rel,.string v,.int .i64 y.sym.kind,.string y.sym.text,.int .i64 y.sym.n,.slice A5 y.list.length c5] 65)) j→j<(W6.alloc (.cells #[.int .i64 y.rel,.string v,.int .i64 y.sym.kind,.string y.sym.text,.int .i64 y.sym.n,.slice A5 y.list.length c5] 65)).heap.size:=fun j hj=>by
     rcases hj with hj | hj
     · have:=(H2.out j hj).2;have:=hB7.size;omega
     · exact hj.2
    obtain ⟨u0,u1,u2,u3,u4,u5⟩:=hX6.c6
    have hxl6:=hX6.lt
    have HB7:=Lib.hid hB7
    have HOW:=Lib.hid hown7
    have HRE:=Lib.hid hrep7
    have HCL:=Lib.hid hcl
    have h63:(L.take k).length+1≤maxLen:=by rw [HKL.out];unfold maxLen;omega
    have hby:((L.take k).length+1)*80≤140737488355328:=by rw [HKL.out];omega
    have H63:=Lib.hid h63
    have HBY:=Lib.hid hby
    clear hB6 hB7 hX6 hO6 hA6 hrow hown7 hrep7 hcl h63 hby
    have HVV:=Lib.hid (show Value.slice A1 k c1 = .slice A1 (L.take k).length c1 by rw [HKL.out])
    go_wp2_with (at_builtin;refine wpList_append_C _ rfl _ _ 48 rfl 65 j0 _ 6 80 Try.underlying48 hj0 hy0 hy1 hy2 rfl rfl (by omega) (Plus C wr (W6.alloc (.cells #[.int .i64 y.rel,.string v,.int .i64 y.sym.kind,.string y.sym.text,.int .i64 y.sym.n,.slice A5 y.list.length c5] 65))) HCL.out (.slice A1 (L.take k).length c1) (L.take k) HVV.out HOW.out ⟨W6.heap.size,0,none⟩ 1 (testR t y) [.int .i64 y.rel,.string v,.int .i64 y.sym.kind,.string y.sym.text,.int .i64 y.sym.n,.slice A5 y.list.length c5] rfl (World.news_of_block (heap_alloc_new _ _)) (by intro u hu;simp only [List.mem_cons,List.not_mem_nil,or_false] at hu;rcases hu with rfl | rfl | rfl | rfl | rfl | rfl<;>rfl) HRE.out H63.out HBY.out ?_;intro v' w7 hap)
    have hfin:Copies repTestU 65 w (L.take k ++ [testR t y]) v' w7:=Copies.snoc H2.out H3.out H4.out HB7.out hap
    rw [HZ.out] at hfin
    go_roundw
    case rel=>exact ⟨k+1,by go_num,by omega,hfin⟩
    case measure=>simp [intOf];omega
  · obtain rfl:k=l.length:=by omega
    have hfin:=Copies.doneU ⟨C,A1,c1,rfl,h1,h2,h3,h4⟩
    rw [show l.length=L.length from HLL.out.symm,List.take_length,HLL.out] at hfin
    have HF:=Lib.hid hfin
    clear h1 h2 h3 h4 hfin
    go_wp2_with fail
    go_ret
    exact HF.out
end Go.Proofs.Ytffemfglngikbaa
namespace Go.Proofs.Ytffemfglngikbaa
open Go.RowKit Go.Shelf
def CHU (n g:Nat) (x:CondT) (vi:ByteArray) (LA LV:List TestT) (L:List CondT) (W1:World) (BA:Option Addr) (dA:Nat) (BV:Option Addr) (dV:Nat) (k:Nat) (A:Option Addr) (c:Nat) (wr:World):Prop:=
 Blk wr g 50 #[.int .i64 x.kind,.bool x.goal,.string vi,.slice BA LA.length dA,.slice BV LV.length dV,.bool x.acc,.slice A k c]∧∃C:Nat→Prop,¬C g∧(∀j,C j→NewD W1.heap.size wr j)∧W1.heap.size≤g∧RowU repTestU C wr BA dA LA∧RowU repTestU C wr BV dV LV∧
  OwnC (repCondU n) 50 C wr (.slice A (L.take k).length c) (L.take k)∧AIn A (fun j=>NewD W1.heap.size wr j∧j≠g)∧Below W1.heap.size W1 wr
section
variable {n g:Nat} {x:CondT} {vi:ByteArray} {LA LV:List TestT} {L:List CondT} {W1 wr:World} {BA:Option Addr} {dA:Nat} {BV:Option Addr} {dV:Nat} {k:Nat} {A:Option Addr} {c:Nat} {C:Nat→Prop}
theorem CHU.step {y:CondT} {W7 w8:World} {A':Option Addr} {c':Nat} (hG:Blk wr g 50 #[.int .i64 x.kind,.bool x.goal,.string vi,.slice BA LA.length dA,.slice BV LV.length dV,.bool x.acc,.slice A k c]) (hCg : ¬C g) (hC : ∀j,C j→NewD W1.heap.size wr j) (hg:W1.heap.size≤g) (t1:RowU repTestU C wr BA dA LA) (t2:RowU repTestU C wr BV dV LV)
 (hO:OwnC (repCondU n) 50 C wr (.slice A (L.take k).length c) (L.take k)) (hA:AIn A (fun j=>NewD W1.heap.size wr j∧j≠g)) (hB:Below W1.heap.size W1 wr) (hk1:k+1≤L.length) (hy:L.take k ++ [y]=L.take (k+1)) (h7:Below wr.heap.size wr W7)
 (ha:Appended (repCondU n) 50 (Plus C wr W7) W7 (.slice A (L.take k).length c) (L.take k ++ [y]) (.slice A' (k+1) c') w8):CHU n g x vi LA LV L W1 BA dA BV dV (k+1) A' c' (w8.setCell ⟨g,6,none⟩ (.slice A' (k+1) c')):=by
 obtain ⟨a1,a2,a3⟩:=ha
 rw [hy] at a1
 have hz:=hB.size
 have hz7:=h7.size
 have hz8:=a2.size
 have hgl:=hG.lt
 have hnA : ∀j,(Value.slice A (L.take k).length c).ownBlock=some j→W1.heap.size≤j∧j<wr.heap.size∧j≠g:=fun j hj=>by
  rcases A with _ | a
  · simp [Value.ownBlock] at hj
  · simp only [Value.ownBlock,Option.some.injEq] at hj
    have:=hA a rfl
    exact ⟨by rw [← hj];exact this.1.1,by rw [← hj];exact this.1.2,by rw [← hj];exact this.2⟩
 have hlen:(L.take (k+1)).length=k+1:=take_len hk1
 have hG8:Blk w8 g 50 #[.int .i64 x.kind,.bool x.goal,.string vi,.slice BA LA.length dA,.slice BV LV.length dV,.bool x.acc,.slice A k c]:=(hG.new_ h7).grown a2 (fun e=>(hnA g e).2.2 rfl)
 have hne8 : ∀j,(Value.slice A' (k+1) c').ownBlock=some j→W1.heap.size≤j∧j≠g:=fun j hj=>by
  rcases a3 with a3 | a3
  · have:=hnA j (a3 ▸ hj);exact ⟨this.1,this.2.2⟩
  · rw [a3] at hj;injection hj with hj;subst hj;exact ⟨by omega,by omega⟩
 have hCP : ∀j,Plus C wr W7 j→NewD W1.heap.size W7 j:=fun j hj=>by
  rcases hj with hj | hj
  · have:=hC j hj;exact ⟨this.1,by have:=this.2;omega⟩
  · exact ⟨by omega,hj.2⟩
 have hgP : ¬Plus C wr W7 g:=fun h=>by
  rcases h with h | h
  · exact hCg h
  · omega
 have keep : ∀j,C j→j<wr.heap.size→Plus C wr W7 j∧(w8.setCell ⟨g,6,none⟩ (.slice A' (k+1) c')).heap[j]? = wr.heap[j]?:=fun j hj hl=>by
  refine ⟨.inl hj,?_⟩
  rw [Below.heap_setCell _ _ _ _ (by dsimp only;intro e;subst e;exact hCg hj),a2.block j (by omega) (fun e=>hO.off j e.symm hj)]
  exact h7.block j hl
 have hs9:wr.heap.size≤(w8.setCell ⟨g,6,none⟩ (.slice A' (k+1) c')).heap.size:=by simp;omega
 refine ⟨hG8.set_ 6 _,Plus C wr W7,hgP,fun j hj=>?_,hg,t1.keep hs9 keep,t2.keep hs9 keep,?_,?_,?_⟩
 · have:=hCP j hj;exact ⟨this.1,by have:=this.2;simp;omega⟩
 · rw [hlen]
   exact a1.fr (M:=(· = g)) ((Fr.refl (· = g) w8).setCell (p:=⟨g,6,none⟩) (.inl rfl) _) (fun j hj e=>by subst e;exact hgP hj) (fun j hj e=>by subst e;exact (hne8 _ hj).2 rfl)
 · intro a ha
   subst ha
   have hlt:=a1.lt a.block rfl
   exact ⟨⟨(hne8 _ rfl).1,by simpa using hlt⟩,(hne8 _ rfl).2⟩
 · exact ((hB.trans (h7.mono hz)).grown a2 (by omega) (fun j hj=>(hnA j hj).1)).setCell (by dsimp only;exact hg) _
end
def RenOkU (f:Nat) (gf:Nat) (lb:Array Value) (w0:World) (Q:ByteArray→Prop) (t:ByteArray→ByteArray) (n:Nat):Prop:=∀(x:CondT) (A1:Option Addr) (c1:Nat) (A2:Option Addr) (c2:Nat) (A3:Option Addr) (c3:Nat) (D:Nat→Prop) (w:World),Below w0.heap.size w0 w→
 RowR repTestT D w A1 c1 x.attr→RowR repTestT D w A2 c2 x.value→RowR (repCondT n) D w A3 c3 x.conds→SmC (n+1) x→QC Q (n+1) x→Calls Try.prog f #[.func (.func gf) #[] lb,.agg #[.int .i64 x.kind,.bool x.goal,.string x.id,.slice A1 x.attr.length c1,.slice A2 x.value.length c2,.bool x.acc,.slice A3 x.conds.length c3]] w (FreshCU n (condR t (n+1) x) w)
set_option maxRecDepth 100000 in
set_option maxHeartbeats 16000000 in
theorem ccond_bodyU {gf:Nat} {lb:Array Value} {w0:World} {Q:ByteArray→Prop} {t:ByteArray→ByteArray} (hN:NamerOk gf lb w0 Q t) (n:Nat) (hrec : ∀m,n=m+1→RenOkU 33 gf lb w0 Q t m):RenOkU 33 gf lb w0 Q t n:=by
 intro x A1 c1 A2 c2 A3 c3 D w hw h1 h2 h3 hs hq
 obtain ⟨j0,hj0,hy0,hyy1,hyy2⟩:=infp inf_Cond
 obtain ⟨s1,s2,s3,s4⟩:=hs
 obtain ⟨q1,q2,q3,q4⟩:=hq
 have hcap1:=h1.cap
 have hcap2:=h2.cap
 have hcap3:=h3.cap
 obtain ⟨vi,hvi⟩ : ∃v,v=oneR t x.id:=⟨_,rfl⟩
 obtain ⟨LA,hLA⟩ : ∃l,l=x.attr.map (testR t):=⟨_,rfl⟩
 obtain ⟨LV,hLV⟩ : ∃l,l=x.value.map (testR t):=⟨_,rfl⟩
 obtain ⟨L,hL⟩ : ∃l,l=x.conds.map (condR t n):=⟨_,rfl⟩
 have HR:=Lib.hid (show condR t (n+1) x = .mk x.kind x.goal vi LA LV x.acc L by rw [hvi,hLA,hLV,hL];rfl)
 have HLL:=Lib.hid (show L.length=x.conds.length by rw [hL,List.length_map])
 have HLG:=Lib.hid (show ∀k,(h:k<x.conds.length)→∃h':k<L.length,L[k]=condR t n x.conds[k] from fun k h=>⟨by rw [hL,List.length_map];exact h,by simp [hL]⟩)
 have HTI:=Lib.hid (show ∀W,Below w.heap.size w W→Calls Try.prog 34 #[.func (.func gf) #[] lb,.string x.id] W fun e w'=>e = .returned (.string vi)∧Below W.heap.size W w' from fun W hW=>by rw [hvi];exact one_is hN x.id W (hw.trans (hW.mono hw.size)) q1)
 have HTA:=Lib.hid (show ∀W,Below w.heap.size w W→Calls Try.prog 58 #[.func (.func gf) #[] lb,.slice A1 x.attr.length c1] W (FreshU repTestU LA W) from fun W hW=>by rw [hLA];exact ctests_isU hN A1 c1 x.attr W (hw.trans (hW.mono hw.size)) (h1.new_ hW) s1 q2)
 have HTV:=Lib.hid (show ∀W,Below w.heap.size w W→Calls Try.prog 58 #[.func (.func gf) #[] lb,.slice A2 x.value.length c2] W (FreshU repTestU LV W) from fun W hW=>by rw [hLV];exact ctests_isU hN A2 c2 x.value W (hw.trans (hW.mono hw.size)) (h2.new_ hW) s2 q3)
 have HREC:=Lib.hid hrec
 have HS:=Lib.hid s4
 have HQ4:=Lib.hid q4
 have Q3:=Lib.hid h3
 have HW0:=Lib.hid hw
 have hl3:x.conds.length≤1000:=s3
 clear hvi hLA hLV hL h1 h2 h3 s1 s2 s3 s4 q1 q2 q3 q4 hrec hN hw
 go_enter Try.func33,Try.ntmps33
 go_upto_region 1 with fail
 obtain ⟨W1,hW1⟩ : ∃W1,W1=(w.alloc (.cells #[.int .i64 x.kind,.bool x.goal,.string x.id,.slice A1 x.attr.length c1,.slice A2 x.value.length c2,.bool x.acc,.slice A3 x.conds.length c3] 50)).alloc (.cells #[.int .i64 0,.bool false,.string ⟨#[]⟩,.slice none 0 0,.slice none 0 0,.bool false,.slice none 0 0] 50):=⟨_,rfl⟩
 have hB1:Below w.heap.size w W1:=by rw [hW1];exact ((Below.refl _ _).alloc (Nat.le_refl _) _).alloc (by simp) _
 have hX1:Blk W1 w.heap.size 50 #[.int .i64 x.kind,.bool x.goal,.string x.id,.slice A1 x.attr.length c1,.slice A2 x.value.length c2,.bool x.acc,.slice A3 x.conds.length c3]:=by rw [hW1];exact (Blk.new _ _ _).alloc _
 have hR1:Blk W1 (w.heap.size+1) 50 #[.int .i64 0,.bool false,.string ⟨#[]⟩,.slice none 0 0,.slice none 0 0,.bool false,.slice none 0 0]:=by rw [hW1];have:=Blk.new (w.alloc (.cells #[.int .i64 x.kind,.bool x.goal,.string x.id,.slice A1 x.attr.length c1,.slice A2 x.value.length c2,.bool x.acc,.slice A3 x.conds.length c3] 50)) 50 #[.int .i64 0,.bool false,.string ⟨#[]⟩,.slice none 0 0,.slice none 0 0,.bool false,.slice none 0 0];simpa using this
 have hz1:W1.heap.size=w.heap.size+2:=by rw [hW1];simp
 rw [← hW1]
 clear hW1
 obtain ⟨p0,p1,p2,p3,p4,p5,p6⟩:=hX1.c7
 have HB1:=Lib.hid hB1
 have HX1:=Lib.hid hX1
 have HR1:=Lib.hid hR1
 have HZ1:=Lib.hid hz1
 have hxl1:=hX1.lt
 have hwz:w.heap.size≤W1.heap.size:=by omega
 have HWZ:=Lib.hid hwz
 clear hB1 hX1 hR1 hz1 hwz
 go_cut [5] from 8 (fun p wc=>∃g BA dA BV dV,p = .pointer (some ⟨g,0,none⟩)∧W1.heap.size≤g∧Blk wc g 50 #[.int .i64 x.kind,.bool x.goal,.string vi,.slice BA LA.length dA,.slice BV LV.length dV,.bool x.acc,.slice none 0 0]∧Below W1.heap.size W1 wc∧RowU repTestU (Ex W1 wc g) wc BA dA LA∧RowU repTestU (Ex W1 wc g) wc BV dV LV)
 case first=>
  refine wp_region_Pl (fun w9=>Below W1.heap.size W1 w9) [0,1,2,3,4,5,6,7,8,10,11,12,14,15,16,18] [1,3,5,8,12,16] (.fork [(0,0),(1,1),(2,0),(3,1),(4,0),(5,1),(6,0),(7,0),(8,1),(10,0),(11,0),(12,1),(14,0),(15,0),(16,1)] 9 (.fork [] 13 (.fork [] 17 (.fin [(18,0),(19,2),(20,2)]) 19 (.fin [(17,2),(18,0),(20,2)])) 19 (.fin [(13,2),(17,2),(18,0),(20,2)])) 19 (.fin [(9,2),(13,2),(17,2),(18,0),(20,2)])) (by kernel_rfl) (by kernel_rfl) (by kernel_rfl) (fun KK hKK=>?_)
  simp only [wpPl,beside,List.filterMap_cons,List.filterMap_nil,List.getElem?_toArray,List.getElem?_cons_zero,List.getElem?_cons_succ,Option.map_some]
  repeat ((first | (refine wpY_w ?_ (Or.inl ⟨by rfl,fun w9=>?_⟩) ?_;rotate_left 1;go_simp;with_reducible rfl) | (refine wpY_l ?_ ((Below.refl _ _).drew) (Or.inl ⟨by rfl,fun w9 hw9=>?_⟩) ?_;rotate_left 1;obtain ⟨hc9,hf9⟩:=bcell hw9;go_simp;with_reducible rfl) | refine wpY_w undef (Or.inr ⟨by rfl,rfl⟩) ?_ | refine wpY_l undef ((Below.refl _ _).drew) (Or.inr ⟨by rfl,rfl⟩) ?_);go_frame)
  refine wpY_nil ⟨?_,?_⟩
  · refine wpOp_cs rfl (fun K9 hK9=>?_)
    go_simp
    refine (HTI.out _ (HB1.out.trans (((Below.refl W1.heap.size W1).drew).mono HWZ.out))).mono ?_
    rintro e wo ⟨rfl,hb⟩
    have HBo:=Lib.hid (((Below.refl W1.heap.size W1).drew).trans (hb.mono ((Below.refl W1.heap.size W1).drew).size))
    clear hb
    refine hK9 _ _ (fun _=>HBo.out) ?_
    clear hK9 K9
    try go_frame
    try simp only [beside,List.filterMap_nil]
    refine wpY_nil ⟨?_,?_⟩
    · refine wpOp_cs rfl (fun K9 hK9=>?_)
      go_simp
      refine (HTA.out _ (HB1.out.trans ((HBo.out).mono HWZ.out))).mono ?_
      rintro e wA ⟨BA,dA,rfl,hr,-,hb⟩
      obtain ⟨DA,hr2,hl2⟩ : ∃D:Nat→Prop,RowU repTestU D wA BA dA LA∧(∀j,D j→(wo).heap.size≤j∧j<wA.heap.size):=⟨_,hr,fun j hj=>hj⟩
      have RA:=Lib.hid hr2
      have MA:=Lib.hid (show ∀j,DA j→W1.heap.size≤j∧j<wA.heap.size from fun j hj=>⟨Nat.le_trans (HBo.out).size (hl2 j hj).1,(hl2 j hj).2⟩)
      have HBAx:=Lib.hid ((HBo.out).trans (hb.mono (HBo.out).size))
      clear hr hr2 hl2 hb
      refine hK9 _ _ (fun _=>HBAx.out) ?_
      clear hK9 K9
      try go_frame
      try simp only [beside,List.filterMap_nil]
      refine wpY_nil ⟨?_,?_⟩
      · refine wpOp_cs rfl (fun K9 hK9=>?_)
        go_simp
        refine (HTV.out _ (HB1.out.trans ((HBAx.out).mono HWZ.out))).mono ?_
        rintro e wV ⟨BV,dV,rfl,hr,-,hb⟩
        obtain ⟨DV,hr2,hl2⟩ : ∃D:Nat→Prop,RowU repTestU D wV BV dV LV∧(∀j,D j→(wA).heap.size≤j∧j<wV.heap.size):=⟨_,hr,fun j hj=>hj⟩
        have RA:=Lib.hid (RA.out.new_ hb)
        have MA:=Lib.hid (fun j hj=>And.intro (MA.out j hj).1 (Nat.lt_of_lt_of_le (MA.out j hj).2 (hb).size))
        have RV:=Lib.hid hr2
        have MV:=Lib.hid (show ∀j,DV j→W1.heap.size≤j∧j<wV.heap.size from fun j hj=>⟨Nat.le_trans (HBAx.out).size (hl2 j hj).1,(hl2 j hj).2⟩)
        have HBVx:=Lib.hid ((HBAx.out).trans (hb.mono (HBAx.out).size))
        clear hr hr2 hl2 hb
        refine hK9 _ _ (fun _=>HBVx.out) ?_
        clear hK9 K9
        try go_frame
        try simp only [beside,List.filterMap_nil]
        repeat ((first | (refine wpY_w ?_ (Or.inl ⟨by rfl,fun w9=>?_⟩) ?_;rotate_left 1;go_simp;with_reducible rfl) | (refine wpY_l ?_ (HBVx.out) (Or.inl ⟨by rfl,fun w9 hw9=>?_⟩) ?_;rotate_left 1;obtain ⟨hc9,hf9⟩:=bcell hw9;go_simp;with_reducible rfl) | refine wpY_w undef (Or.inr ⟨by rfl,rfl⟩) ?_ | refine wpY_l undef (HBVx.out) (Or.inr ⟨by rfl,rfl⟩) ?_);go_frame)
        refine wpY_es (fun K9 hK9=>?_)
        go_simp
        have hb:Below wV.heap.size wV (wV.alloc (.cells #[.int .i64 0,.bool false,.string ⟨#[]⟩,.slice none 0 0,.slice none 0 0,.bool false,.slice none 0 0] 50)):=(Below.refl _ _).alloc (Nat.le_refl _) _
        have NA:=Lib.hid (show ∀j,DA j→j≠wV.heap.size from fun j hj e=>by have h1:=(MA.out j hj).2;omega)
        have NV:=Lib.hid (show ∀j,DV j→j≠wV.heap.size from fun j hj e=>by have h1:=(MV.out j hj).2;omega)
        have RA:=Lib.hid (RA.out.new_ hb)
        have MA:=Lib.hid (fun j hj=>And.intro (MA.out j hj).1 (Nat.lt_of_lt_of_le (MA.out j hj).2 (hb).size))
        have RV:=Lib.hid (RV.out.new_ hb)
        have MV:=Lib.hid (fun j hj=>And.intro (MV.out j hj).1 (Nat.lt_of_lt_of_le (MV.out j hj).2 (hb).size))
        have HK:=Lib.hid (show Blk (wV.alloc (.cells #[.int .i64 0,.bool false,.string ⟨#[]⟩,.slice none 0 0,.slice none 0 0,.bool false,.slice none 0 0] 50)) wV.heap.size 50 #[.int .i64 0,.bool false,.string ⟨#[]⟩,.slice none 0 0,.slice none 0 0,.bool false,.slice none 0 0] from Blk.new _ _ _)
        have HGE:=Lib.hid (show W1.heap.size≤wV.heap.size from (HBVx.out).size)
        have HBg:=Lib.hid ((HBVx.out).trans (hb.mono (HBVx.out).size))
        clear hb
        refine hK9 _ _ (HBg.out) ?_
        clear hK9 K9
        try go_frame
        refine wpY_es (fun K9 hK9=>?_)
        refine step_store_el rfl 50 _ _ rfl wV.heap.size 0 #[Value.int IntKind.i64 x.kind,Value.bool x.goal,Value.string vi,Value.slice BA LA.length dA,Value.slice BV LV.length dV,Value.bool x.acc,Value.slice none 0 0] rfl rfl (show _ from HK.out.there) (by kernel_rfl) (by kernel_rfl) ?_
        refine hK9 _ _ (Below.setCells' _ _ (HBg.out) HGE.out) ?_
        clear hK9 K9
        try go_frame
        refine wpY_nil ?_
        simp only [OnlyN_normal]
        refine hKK _ _ ?_
        clear hKK KK
        go_wp2_with fail
        go_meet
        case rel=>exact ⟨wV.heap.size,BA,dA,BV,dV,rfl,HGE.out,HK.out.setAllC rfl,Below.setCells' _ _ (HBg.out) HGE.out,(RA.out.keep (by rw [size_setCells];omega) (fun j hj _=>⟨⟨(MA.out j hj).1,by rw [size_setCells];exact (MA.out j hj).2,NA.out j hj⟩,blk_setCells _ _ _ _ _ (NA.out j hj)⟩)),(RV.out.keep (by rw [size_setCells];omega) (fun j hj _=>⟨⟨(MV.out j hj).1,by rw [size_setCells];exact (MV.out j hj).2,NV.out j hj⟩,blk_setCells _ _ _ _ _ (NV.out j hj)⟩))⟩
      · refine wpOp_cs rfl (fun K9 hK9=>?_)
        go_simp
        have hb:Below wA.heap.size wA (wA.alloc (.cells #[.int .i64 0,.bool false,.string ⟨#[]⟩,.slice none 0 0,.slice none 0 0,.bool false,.slice none 0 0] 50)):=(Below.refl _ _).alloc (Nat.le_refl _) _
        have NA:=Lib.hid (show ∀j,DA j→j≠wA.heap.size from fun j hj e=>by have h1:=(MA.out j hj).2;omega)
        have RA:=Lib.hid (RA.out.new_ hb)
        have MA:=Lib.hid (fun j hj=>And.intro (MA.out j hj).1 (Nat.lt_of_lt_of_le (MA.out j hj).2 (hb).size))
        have HK:=Lib.hid (show Blk (wA.alloc (.cells #[.int .i64 0,.bool false,.string ⟨#[]⟩,.slice none 0 0,.slice none 0 0,.bool false,.slice none 0 0] 50)) wA.heap.size 50 #[.int .i64 0,.bool false,.string ⟨#[]⟩,.slice none 0 0,.slice none 0 0,.bool false,.slice none 0 0] from Blk.new _ _ _)
        have HGE:=Lib.hid (show W1.heap.size≤wA.heap.size from (HBAx.out).size)
        have HBg:=Lib.hid ((HBAx.out).trans (hb.mono (HBAx.out).size))
        clear hb
        refine hK9 _ _ (fun _=>HBg.out) ?_
        clear hK9 K9
        try go_frame
        try simp only [beside,List.filterMap_nil]
        refine wpY_es (fun K9 hK9=>?_)
        go_simp
        refine (HTV.out _ (HB1.out.trans ((HBg.out).mono HWZ.out))).mono ?_
        rintro e wV ⟨BV,dV,rfl,hr,-,hb⟩
        obtain ⟨DV,hr2,hl2⟩ : ∃D:Nat→Prop,RowU repTestU D wV BV dV LV∧(∀j,D j→((wA.alloc (.cells #[.int .i64 0,.bool false,.string ⟨#[]⟩,.slice none 0 0,.slice none 0 0,.bool false,.slice none 0 0] 50))).heap.size≤j∧j<wV.heap.size):=⟨_,hr,fun j hj=>hj⟩
        have NV:=Lib.hid (show ∀j,DV j→j≠wA.heap.size from fun j hj e=>by have h1:=(hl2 j hj).1;have h2:=HK.out.lt;omega)
        have RA:=Lib.hid (RA.out.new_ hb)
        have MA:=Lib.hid (fun j hj=>And.intro (MA.out j hj).1 (Nat.lt_of_lt_of_le (MA.out j hj).2 (hb).size))
        have HK:=Lib.hid (HK.out.new_ hb)
        have RV:=Lib.hid hr2
        have MV:=Lib.hid (show ∀j,DV j→W1.heap.size≤j∧j<wV.heap.size from fun j hj=>⟨Nat.le_trans (HBg.out).size (hl2 j hj).1,(hl2 j hj).2⟩)
        have HBVx:=Lib.hid ((HBg.out).trans (hb.mono (HBg.out).size))
        clear hr hr2 hl2 hb
        refine hK9 _ _ (HBVx.out) ?_
        clear hK9 K9
        try go_frame
        repeat ((first | (refine wpY_w ?_ (Or.inl ⟨by rfl,fun w9=>?_⟩) ?_;rotate_left 1;go_simp;with_reducible rfl) | (refine wpY_l ?_ (HBVx.out) (Or.inl ⟨by rfl,fun w9 hw9=>?_⟩) ?_;rotate_left 1;obtain ⟨hc9,hf9⟩:=bcell hw9;go_simp;with_reducible rfl) | refine wpY_w undef (Or.inr ⟨by rfl,rfl⟩) ?_ | refine wpY_l undef (HBVx.out) (Or.inr ⟨by rfl,rfl⟩) ?_);go_frame)
        refine wpY_es (fun K9 hK9=>?_)
        refine step_store_el rfl 50 _ _ rfl wA.heap.size 0 #[Value.int IntKind.i64 x.kind,Value.bool x.goal,Value.string vi,Value.slice BA LA.length dA,Value.slice BV LV.length dV,Value.bool x.acc,Value.slice none 0 0] rfl rfl (show _ from HK.out.there) (by kernel_rfl) (by kernel_rfl) ?_
        refine hK9 _ _ (Below.setCells' _ _ (HBVx.out) HGE.out) ?_
        clear hK9 K9
        try go_frame
        refine wpY_nil ?_
        simp only [OnlyN_normal]
        refine hKK _ _ ?_
        clear hKK KK
        go_wp2_with fail
        go_meet
        case rel=>exact ⟨wA.heap.size,BA,dA,BV,dV,rfl,HGE.out,HK.out.setAllC rfl,Below.setCells' _ _ (HBVx.out) HGE.out,(RA.out.keep (by rw [size_setCells];omega) (fun j hj _=>⟨⟨(MA.out j hj).1,by rw [size_setCells];exact (MA.out j hj).2,NA.out j hj⟩,blk_setCells _ _ _ _ _ (NA.out j hj)⟩)),(RV.out.keep (by rw [size_setCells];omega) (fun j hj _=>⟨⟨(MV.out j hj).1,by rw [size_setCells];exact (MV.out j hj).2,NV.out j hj⟩,blk_setCells _ _ _ _ _ (NV.out j hj)⟩))⟩
    · refine wpOp_cs rfl (fun K9 hK9=>?_)
      go_simp
      have hb:Below wo.heap.size wo (wo.alloc (.cells #[.int .i64 0,.bool false,.string ⟨#[]⟩,.slice none 0 0,.slice none 0 0,.bool false,.slice none 0 0] 50)):=(Below.refl _ _).alloc (Nat.le_refl _) _
      have HK:=Lib.hid (show Blk (wo.alloc (.cells #[.int .i64 0,.bool false,.string ⟨#[]⟩,.slice none 0 0,.slice none 0 0,.bool false,.slice none 0 0] 50)) wo.heap.size 50 #[.int .i64 0,.bool false,.string ⟨#[]⟩,.slice none 0 0,.slice none 0 0,.bool false,.slice none 0 0] from Blk.new _ _ _)
      have HGE:=Lib.hid (show W1.heap.size≤wo.heap.size from (HBo.out).size)
      have HBg:=Lib.hid ((HBo.out).trans (hb.mono (HBo.out).size))
      clear hb
      refine hK9 _ _ (fun _=>HBg.out) ?_
      clear hK9 K9
      try go_frame
      try simp only [beside,List.filterMap_nil]
      refine wpY_es (fun K9 hK9=>?_)
      go_simp
      refine (HTA.out _ (HB1.out.trans ((HBg.out).mono HWZ.out))).mono ?_
      rintro e wA ⟨BA,dA,rfl,hr,-,hb⟩
      obtain ⟨DA,hr2,hl2⟩ : ∃D:Nat→Prop,RowU repTestU D wA BA dA LA∧(∀j,D j→((wo.alloc (.cells #[.int .i64 0,.bool false,.string ⟨#[]⟩,.slice none 0 0,.slice none 0 0,.bool false,.slice none 0 0] 50))).heap.size≤j∧j<wA.heap.size):=⟨_,hr,fun j hj=>hj⟩
      have NA:=Lib.hid (show ∀j,DA j→j≠wo.heap.size from fun j hj e=>by have h1:=(hl2 j hj).1;have h2:=HK.out.lt;omega)
      have HK:=Lib.hid (HK.out.new_ hb)
      have RA:=Lib.hid hr2
      have MA:=Lib.hid (show ∀j,DA j→W1.heap.size≤j∧j<wA.heap.size from fun j hj=>⟨Nat.le_trans (HBg.out).size (hl2 j hj).1,(hl2 j hj).2⟩)
      have HBAx:=Lib.hid ((HBg.out).trans (hb.mono (HBg.out).size))
      clear hr hr2 hl2 hb
      refine hK9 _ _ (HBAx.out) ?_
      clear hK9 K9
      try go_frame
      refine wpY_es (fun K9 hK9=>?_)
      go_simp
      refine (HTV.out _ (HB1.out.trans ((HBAx.out).mono HWZ.out))).mono ?_
      rintro e wV ⟨BV,dV,rfl,hr,-,hb⟩
      obtain ⟨DV,hr2,hl2⟩ : ∃D:Nat→Prop,RowU repTestU D wV BV dV LV∧(∀j,D j→(wA).heap.size≤j∧j<wV.heap.size):=⟨_,hr,fun j hj=>hj⟩
      have NV:=Lib.hid (show ∀j,DV j→j≠wo.heap.size from fun j hj e=>by have h1:=(hl2 j hj).1;have h2:=HK.out.lt;omega)
      have RA:=Lib.hid (RA.out.new_ hb)
      have MA:=Lib.hid (fun j hj=>And.intro (MA.out j hj).1 (Nat.lt_of_lt_of_le (MA.out j hj).2 (hb).size))
      have HK:=Lib.hid (HK.out.new_ hb)
      have RV:=Lib.hid hr2
      have MV:=Lib.hid (show ∀j,DV j→W1.heap.size≤j∧j<wV.heap.size from fun j hj=>⟨Nat.le_trans (HBAx.out).size (hl2 j hj).1,(hl2 j hj).2⟩)
      have HBVx:=Lib.hid ((HBAx.out).trans (hb.mono (HBAx.out).size))
      clear hr hr2 hl2 hb
      refine hK9 _ _ (HBVx.out) ?_
      clear hK9 K9
      try go_frame
      repeat ((first | (refine wpY_w ?_ (Or.inl ⟨by rfl,fun w9=>?_⟩) ?_;rotate_left 1;go_simp;with_reducible rfl) | (refine wpY_l ?_ (HBVx.out) (Or.inl ⟨by rfl,fun w9 hw9=>?_⟩) ?_;rotate_left 1;obtain ⟨hc9,hf9⟩:=bcell hw9;go_simp;with_reducible rfl) | refine wpY_w undef (Or.inr ⟨by rfl,rfl⟩) ?_ | refine wpY_l undef (HBVx.out) (Or.inr ⟨by rfl,rfl⟩) ?_);go_frame)
      refine wpY_es (fun K9 hK9=>?_)
      refine step_store_el rfl 50 _ _ rfl wo.heap.size 0 #[Value.int IntKind.i64 x.kind,Value.bool x.goal,Value.string vi,Value.slice BA LA.length dA,Value.slice BV LV.length dV,Value.bool x.acc,Value.slice none 0 0] rfl rfl (show _ from HK.out.there) (by kernel_rfl) (by kernel_rfl) ?_
      refine hK9 _ _ (Below.setCells' _ _ (HBVx.out) HGE.out) ?_
      clear hK9 K9
      try go_frame
      refine wpY_nil ?_
      simp only [OnlyN_normal]
      refine hKK _ _ ?_
      clear hKK KK
      go_wp2_with fail
      go_meet
      case rel=>exact ⟨wo.heap.size,BA,dA,BV,dV,rfl,HGE.out,HK.out.setAllC rfl,Below.setCells' _ _ (HBVx.out) HGE.out,(RA.out.keep (by rw [size_setCells];omega) (fun j hj _=>⟨⟨(MA.out j hj).1,by rw [size_setCells];exact (MA.out j hj).2,NA.out j hj⟩,blk_setCells _ _ _ _ _ (NA.out j hj)⟩)),(RV.out.keep (by rw [size_setCells];omega) (fun j hj _=>⟨⟨(MV.out j hj).1,by rw [size_setCells];exact (MV.out j hj).2,NV.out j hj⟩,blk_setCells _ _ _ _ _ (NV.out j hj)⟩))⟩
  · refine wpOp_cs rfl (fun K9 hK9=>?_)
    go_simp
    have hb:Below W1.drew.heap.size W1.drew (W1.drew.alloc (.cells #[.int .i64 0,.bool false,.string ⟨#[]⟩,.slice none 0 0,.slice none 0 0,.bool false,.slice none 0 0] 50)):=(Below.refl _ _).alloc (Nat.le_refl _) _
    have HK:=Lib.hid (show Blk (W1.drew.alloc (.cells #[.int .i64 0,.bool false,.string ⟨#[]⟩,.slice none 0 0,.slice none 0 0,.bool false,.slice none 0 0] 50)) W1.heap.size 50 #[.int .i64 0,.bool false,.string ⟨#[]⟩,.slice none 0 0,.slice none 0 0,.bool false,.slice none 0 0] from Blk.new _ _ _)
    have HGE:=Lib.hid (show W1.heap.size≤W1.heap.size from ((Below.refl W1.heap.size W1).drew).size)
    have HBg:=Lib.hid (((Below.refl W1.heap.size W1).drew).trans (hb.mono ((Below.refl W1.heap.size W1).drew).size))
    clear hb
    refine hK9 _ _ (fun _=>HBg.out) ?_
    clear hK9 K9
    try go_frame
    try simp only [beside,List.filterMap_nil]
    refine wpY_es (fun K9 hK9=>?_)
    go_simp
    refine (HTI.out _ (HB1.out.trans ((HBg.out).mono HWZ.out))).mono ?_
    rintro e wo ⟨rfl,hb⟩
    have HK:=Lib.hid (HK.out.new_ hb)
    have HBo:=Lib.hid ((HBg.out).trans (hb.mono (HBg.out).size))
    clear hb
    refine hK9 _ _ (HBo.out) ?_
    clear hK9 K9
    try go_frame
    refine wpY_es (fun K9 hK9=>?_)
    go_simp
    refine (HTA.out _ (HB1.out.trans ((HBo.out).mono HWZ.out))).mono ?_
    rintro e wA ⟨BA,dA,rfl,hr,-,hb⟩
    obtain ⟨DA,hr2,hl2⟩ : ∃D:Nat→Prop,RowU repTestU D wA BA dA LA∧(∀j,D j→(wo).heap.size≤j∧j<wA.heap.size):=⟨_,hr,fun j hj=>hj⟩
    have NA:=Lib.hid (show ∀j,DA j→j≠W1.heap.size from fun j hj e=>by have h1:=(hl2 j hj).1;have h2:=HK.out.lt;omega)
    have HK:=Lib.hid (HK.out.new_ hb)
    have RA:=Lib.hid hr2
    have MA:=Lib.hid (show ∀j,DA j→W1.heap.size≤j∧j<wA.heap.size from fun j hj=>⟨Nat.le_trans (HBo.out).size (hl2 j hj).1,(hl2 j hj).2⟩)
    have HBAx:=Lib.hid ((HBo.out).trans (hb.mono (HBo.out).size))
    clear hr hr2 hl2 hb
    refine hK9 _ _ (HBAx.out) ?_
    clear hK9 K9
    try go_frame
    refine wpY_es (fun K9 hK9=>?_)
    go_simp
    refine (HTV.out _ (HB1.out.trans ((HBAx.out).mono HWZ.out))).mono ?_
    rintro e wV ⟨BV,dV,rfl,hr,-,hb⟩
    obtain ⟨DV,hr2,hl2⟩ : ∃D:Nat→Prop,RowU repTestU D wV BV dV LV∧(∀j,D j→(wA).heap.size≤j∧j<wV.heap.size):=⟨_,hr,fun j hj=>hj⟩
    have NV:=Lib.hid (show ∀j,DV j→j≠W1.heap.size from fun j hj e=>by have h1:=(hl2 j hj).1;have h2:=HK.out.lt;omega)
    have RA:=Lib.hid (RA.out.new_ hb)
    have MA:=Lib.hid (fun j hj=>And.intro (MA.out j hj).1 (Nat.lt_of_lt_of_le (MA.out j hj).2 (hb).size))
    have HK:=Lib.hid (HK.out.new_ hb)
    have RV:=Lib.hid hr2
    have MV:=Lib.hid (show ∀j,DV j→W1.heap.size≤j∧j<wV.heap.size from fun j hj=>⟨Nat.le_trans (HBAx.out).size (hl2 j hj).1,(hl2 j hj).2⟩)
    have HBVx:=Lib.hid ((HBAx.out).trans (hb.mono (HBAx.out).size))
    clear hr hr2 hl2 hb
    refine hK9 _ _ (HBVx.out) ?_
    clear hK9 K9
    try go_frame
    repeat ((first | (refine wpY_w ?_ (Or.inl ⟨by rfl,fun w9=>?_⟩) ?_;rotate_left 1;go_simp;with_reducible rfl) | (refine wpY_l ?_ (HBVx.out) (Or.inl ⟨by rfl,fun w9 hw9=>?_⟩) ?_;rotate_left 1;obtain ⟨hc9,hf9⟩:=bcell hw9;go_simp;with_reducible rfl) | refine wpY_w undef (Or.inr ⟨by rfl,rfl⟩) ?_ | refine wpY_l undef (HBVx.out) (Or.inr ⟨by rfl,rfl⟩) ?_);go_frame)
    refine wpY_es (fun K9 hK9=>?_)
    refine step_store_el rfl 50 _ _ rfl W1.heap.size 0 #[Value.int IntKind.i64 x.kind,Value.bool x.goal,Value.string vi,Value.slice BA LA.length dA,Value.slice BV LV.length dV,Value.bool x.acc,Value.slice none 0 0] rfl rfl (show _ from HK.out.there) (by kernel_rfl) (by kernel_rfl) ?_
    refine hK9 _ _ (Below.setCells' _ _ (HBVx.out) HGE.out) ?_
    clear hK9 K9
    try go_frame
    refine wpY_nil ?_
    simp only [OnlyN_normal]
    refine hKK _ _ ?_
    clear hKK KK
    go_wp2_with fail
    go_meet
    case rel=>exact ⟨W1.heap.size,BA,dA,BV,dV,rfl,HGE.out,HK.out.setAllC rfl,Below.setCells' _ _ (HBVx.out) HGE.out,(RA.out.keep (by rw [size_setCells];omega) (fun j hj _=>⟨⟨(MA.out j hj).1,by rw [size_setCells];exact (MA.out j hj).2,NA.out j hj⟩,blk_setCells _ _ _ _ _ (NA.out j hj)⟩)),(RV.out.keep (by rw [size_setCells];omega) (fun j hj _=>⟨⟨(MV.out j hj).1,by rw [size_setCells];exact (MV.out j hj).2,NV.out j hj⟩,blk_setCells _ _ _ _ _ (NV.out j hj)⟩))⟩
 case rest=>
  obtain ⟨g,BA,dA,BV,dV,rfl,hg,hG,hB,t1,t2⟩:=hcut
  have h0:CHU n g x vi LA LV L W1 BA dA BV dV 0 none 0 wc:=⟨hG,Ex W1 wc g,fun h=>h.2.2 rfl,fun j hj=>⟨hj.1,hj.2.1⟩,hg,t1,t2,OwnC.nil _ _ _ _,AIn.none_ _,hB⟩
  have H0:=Lib.hid h0
  have hXc:=HX1.out.below hB (by have:=HZ1.out;omega)
  have p6:wc.cell? ⟨w.heap.size,6,none⟩=some (.slice A3 x.conds.length c3):=(hXc.cell 6).trans rfl
  have hxl1:=hXc.lt
  clear t1 t2 p0 p1 p2 p3 p4 p5 hG hB h0 hXc
  go_wp2_with fail
  go_loopw [30] (fun i wr=>∃(k:Nat) (A:Option Addr) (c:Nat),i = .int .i64 k∧k≤x.conds.length∧CHU n g x vi LA LV L W1 BA dA BV dV k A c wr) (fun i wr=>x.conds.length - (intOf i).toNat)
  case atStart=>exact ⟨0,none,0,rfl,Nat.zero_le _,H0.out⟩
  case round=>
   obtain ⟨k,A,c,rfl,hk,hRH⟩:=hrel
   obtain ⟨hG,C,hCg,hC,_,t1,t2,hO,hA,hB⟩:=hRH
   have hzr:=hB.size
   clear p6 hxl1
   by_cases hlt:k<x.conds.length
   · have hrw:=(Q3.out.new_ HB1.out).keep (D':=D) hB.size (fun j hj hl=>⟨hj,hB.block j hl⟩)
     obtain ⟨m,hnm⟩ : ∃m,n=m+1:=by
      cases n with
      | zero=>rw [row0 hrw] at hlt;simp at hlt
      | succ m=>exact ⟨m,rfl⟩
     subst hnm
     obtain ⟨gh,oh,Ay1,cy1,Ay2,cy2,Ay3,cy3,hA0,hDg,hgh,r0,r1,r2,r3,r4,r5,r6,hy1,hy2,hy3⟩:=at_CondT hrw hlt
     subst hA0
     obtain ⟨y,hy⟩ : ∃y,y=x.conds[k]:=⟨_,rfl⟩
     obtain ⟨z,hz⟩ : ∃z,z=condR t (m+1) y:=⟨_,rfl⟩
     have hys:SmC (m+1) y:=by rw [hy];exact HS.out _ (List.getElem_mem hlt)
     have hyq:QC Q (m+1) y:=by rw [hy];exact HQ4.out _ (List.getElem_mem hlt)
     rw [← hy] at r0 r1 r2 r3 r4 r5 r6 hy1 hy2 hy3
     have b1:(0:Int)≤(k:Int):=by omega
     have b2:(k:Int)<(x.conds.length:Int):=by omega
     have HBW:=Lib.hid (HB1.out.trans (hB.mono HWZ.out))
     have HCALL:=Lib.hid (show ∀W,Below wr.heap.size wr W→Calls Try.prog 33 #[.func (.func gf) #[] lb,.agg #[.int .i64 y.kind,.bool y.goal,.string y.id,.slice Ay1 y.attr.length cy1,.slice Ay2 y.value.length cy2,.bool y.acc,.slice Ay3 y.conds.length cy3]] W (FreshCU m z W) from fun W hW=>by
      rw [hz]
      exact HREC.out m rfl y Ay1 cy1 Ay2 cy2 Ay3 cy3 D W (HW0.out.trans ((HBW.out.trans (hW.mono HBW.out.size)).mono HW0.out.size)) (hy1.new_ hW) (hy2.new_ hW) (hy3.new_ hW) hys hyq)
     have hLz:L.take k ++ [z]=L.take (k+1):=by
      obtain ⟨h',e⟩:=HLG.out k hlt
      rw [hz,hy,← e]
      exact take_snoc h'
     have HG:=Lib.hid hG
     have HC:=Lib.hid hC
     have HO:=Lib.hid hO
     have HNE:=Lib.hid (show (Value.slice A (L.take k).length c).ownBlock≠some g from fun e=>by
      rcases A with _ | a
      · simp [Value.ownBlock] at e
      · simp only [Value.ownBlock,Option.some.injEq] at e
        exact (hA a rfl).2 e)
     have hkL:(L.take k).length=k:=take_len (by rw [HLL.out];exact hk)
     have HKL:=Lib.hid hkL
     have HST:=Lib.hid (show ∀W7 w8 A' c',Below wr.heap.size wr W7→Appended (repCondU (m+1)) 50 (Plus C wr W7) W7 (.slice A (L.take k).length c) (L.take k ++ [z]) (.slice A' (k+1) c') w8→CHU (m+1) g x vi LA LV L W1 BA dA BV dV (k+1) A' c' (w8.setCell ⟨g,6,none⟩ (.slice A' (k+1) c')) from
      fun W7 w8 A' c' h7 ha=>CHU.step hG hCg hC hg t1 t2 hO hA hB (by rw [HLL.out];omega) hLz h7 ha)
     have hgl:=hG.lt
     have hgw:wr.heap.size≠g:=by omega
     clear hy hrw hy1 hy2 hy3 hys hyq hG hCg hC t1 t2 hO hA hB hLz hkL hz
     go_upto_region 5 with fail
     obtain ⟨W5,hW5⟩ : ∃W5,W5=wr.alloc (.cells #[.int .i64 y.kind,.bool y.goal,.string y.id,.slice Ay1 y.attr.length cy1,.slice Ay2 y.value.length cy2,.bool y.acc,.slice Ay3 y.conds.length cy3] 50):=⟨_,rfl⟩
     have hB5:Below wr.heap.size wr W5:=by rw [hW5];exact (Below.refl _ _).alloc (Nat.le_refl _) _
     have hX5:Blk W5 wr.heap.size 50 #[.int .i64 y.kind,.bool y.goal,.string y.id,.slice Ay1 y.attr.length cy1,.slice Ay2 y.value.length cy2,.bool y.acc,.slice Ay3 y.conds.length cy3]:=by rw [hW5];exact Blk.new _ _ _
     rw [← hW5]
     clear hW5 r0 r1 r2 r3 r4 r5 r6
     have HB5:=Lib.hid hB5
     have HG:=Lib.hid (HG.out.new_ hB5)
     obtain ⟨m0,m1,m2,m3,m4,m5,m6⟩:=hX5.c7
     have n6:W5.cell? ⟨g,6,none⟩=some (.slice A k c):=(HG.out.cell 6).trans rfl
     have hgl:=HG.out.lt
     have hxl5:=hX5.lt
     clear hB5 hX5
     refine wp_region_E (fun w9=>Below W5.heap.size W5 w9) [(0,0),(1,1),(2,0),(3,1),(4,2),(5,2),(6,2),(7,0),(8,2)] (by kernel_rfl) (by kernel_rfl) (fun KK hKK=>?_)
     simp only [beside,List.filterMap_cons,List.filterMap_nil,List.getElem?_toArray,List.getElem?_cons_zero,List.getElem?_cons_succ,Option.map_some]
     repeat ((first | (refine wpX_w ?_ (Or.inl ⟨by rfl,fun w9=>?_⟩) ?_;rotate_left 1;go_simp;with_reducible rfl) | (refine wpX_l ?_ (((Below.refl _ _).drew)) (Or.inl ⟨by rfl,fun w9 hw9=>?_⟩) ?_;rotate_left 1;obtain ⟨hc9,hf9⟩:=bcell hw9;go_simp;with_reducible rfl) | refine wpX_w undef (Or.inr ⟨by rfl,rfl⟩) ?_ | refine wpX_l undef (((Below.refl _ _).drew)) (Or.inr ⟨by rfl,rfl⟩) ?_);go_frame)
     refine wpX_es (fun K9 hK9=>?_)
     go_simp
     refine (HCALL.out _ (HB5.out.drew)).mono ?_
     rintro e wa ⟨Az1,cz1,Az2,cz2,Az3,cz3,rfl,g1,g2,g3,hba⟩
     have HBa:=Lib.hid (show Below W5.heap.size W5 wa from ((Below.refl W5.heap.size W5).drew).trans hba)
     have G1:=Lib.hid g1
     have G2:=Lib.hid g2
     have G3:=Lib.hid g3
     clear g1 g2 g3 hba
     refine hK9 _ _ HBa.out ?_
     clear hK9 K9
     refine wpX_es (fun K9 hK9=>?_)
     go_simp
     have HB7x:=Lib.hid (HBa.out.alloc HBa.out.size (.cells #[.int .i64 z.kind,.bool z.goal,.string z.id,.slice Az1 z.attr.length cz1,.slice Az2 z.value.length cz2,.bool z.acc,.slice Az3 z.conds.length cz3] 50))
     refine hK9 _ _ HB7x.out ?_
     clear hK9 K9
     refine wpX_e (by kernel_rfl) (fun K9 hK9=>?_)
     have HB7:=Lib.hid (HB5.out.trans (HB7x.out.mono HB5.out.size))
     have h9:Below wa.heap.size wa (wa.alloc (.cells #[.int .i64 z.kind,.bool z.goal,.string z.id,.slice Az1 z.attr.length cz1,.slice Az2 z.value.length cz2,.bool z.acc,.slice Az3 z.conds.length cz3] 50)):=(Below.refl _ _).alloc (Nat.le_refl _) _
     have up : ∀j,NewD W5.heap.size wa j→j<wa.heap.size→(Plus C wr (wa.alloc (.cells #[.int .i64 z.kind,.bool z.goal,.string z.id,.slice Az1 z.attr.length cz1,.slice Az2 z.value.length cz2,.bool z.acc,.slice Az3 z.conds.length cz3] 50))) j∧((wa.alloc (.cells #[.int .i64 z.kind,.bool z.goal,.string z.id,.slice Az1 z.attr.length cz1,.slice Az2 z.value.length cz2,.bool z.acc,.slice Az3 z.conds.length cz3] 50))).heap[j]? = wa.heap[j]?:=fun j hj hl=>⟨.inr ⟨Nat.le_trans HB5.out.size hj.1,by simp;omega⟩,h9.block j hl⟩
     have hrep7:=rep_condU (n:=m) (y:=z) (G1.out.keep h9.size up) (G2.out.keep h9.size up) (G3.out.keep h9.size up)
     have hown7:=HO.out.plus HB7.out
     have hcl : ∀j,Plus C wr (wa.alloc (.cells #[.int .i64 z.kind,.bool z.goal,.string z.id,.slice Az1 z.attr.length cz1,.slice Az2 z.value.length cz2,.bool z.acc,.slice Az3 z.conds.length cz3] 50)) j→j<((wa.alloc (.cells #[.int .i64 z.kind,.bool z.goal,.string z.id,.slice Az1 z.attr.length cz1,.slice Az2 z.value.length cz2,.bool z.acc,.slice Az3 z.conds.length cz3] 50))).heap.size:=fun j hj=>by
      rcases hj with hj | hj
      · have:=(HC.out j hj).2;have:=HB7.out.size;omega
      · exact hj.2
     have h63:(L.take k).length+1≤maxLen:=by rw [HKL.out];unfold maxLen;omega
     have hby:((L.take k).length+1)*112≤140737488355328:=by rw [HKL.out];omega
     have hv:Value.slice A k c = .slice A (L.take k).length c:=by rw [HKL.out]
     refine step_append_C _ rfl _ _ 22 rfl 50 j0 _ 7 112 Try.underlying22 hj0 hy0 hyy1 hyy2 rfl rfl (by omega) (Plus C wr (wa.alloc (.cells #[.int .i64 z.kind,.bool z.goal,.string z.id,.slice Az1 z.attr.length cz1,.slice Az2 z.value.length cz2,.bool z.acc,.slice Az3 z.conds.length cz3] 50))) hcl (.slice A (L.take k).length c) (L.take k) hv hown7 ⟨wa.heap.size,0,none⟩ 1 z [.int .i64 z.kind,.bool z.goal,.string z.id,.slice Az1 z.attr.length cz1,.slice Az2 z.value.length cz2,.bool z.acc,.slice Az3 z.conds.length cz3] rfl (World.news_of_block (heap_alloc_new _ _)) (by intro u hu;simp only [List.mem_cons,List.not_mem_nil,or_false] at hu;rcases hu with rfl | rfl | rfl | rfl | rfl | rfl | rfl<;>rfl) hrep7 h63 hby ?_
     intro v' w8 hap
     obtain ⟨A',c',hv',-,-,-⟩:=hap.1.form
     have hlen1:(L.take k ++ [z]).length=k+1:=by rw [List.length_append,HKL.out];rfl
     rw [hlen1] at hv'
     subst hv'
     have hG8:=(HG.out.new_ HB7x.out).grown hap.2.1 HNE.out
     have HAP:=Lib.hid hap
     have u6:=(hG8.cell 6).trans rfl
     have f6:=hG8.frozen 6
     have hgl8:=hG8.lt
     clear h9 up hrep7 hown7 hcl h63 hby hv hlen1 hap hG8
     refine hK9 _ _ ?_
     clear hK9 K9
     repeat ((first | (refine wpX_w ?_ (Or.inl ⟨by rfl,fun w9=>?_⟩) ?_;rotate_left 1;go_simp;with_reducible rfl) | (refine wpX_l ?_ (HB7x.out) (Or.inl ⟨by rfl,fun w9 hw9=>?_⟩) ?_;rotate_left 1;obtain ⟨hc9,hf9⟩:=bcell hw9;go_simp;with_reducible rfl) | refine wpX_w undef (Or.inr ⟨by rfl,rfl⟩) ?_ | refine wpX_l undef (HB7x.out) (Or.inr ⟨by rfl,rfl⟩) ?_);go_frame)
     refine wpX_e (by kernel_rfl) (fun K9 hK9=>?_)
     go_simp
     refine hK9 _ _ ?_
     clear hK9 K9
     refine wpX_nil ?_
     simp only [OnlyN_normal]
     refine hKK _ _ ?_
     clear hKK KK
     go_wp2_with fail
     go_roundw
     case rel=>exact ⟨k+1,A',c',by go_num,by omega,HST.out _ _ _ _ HB7.out HAP.out⟩
     case measure=>simp [intOf];omega
   · obtain rfl:k=x.conds.length:=by omega
     rw [show x.conds.length=L.length from HLL.out.symm] at hG hO ⊢
     rw [List.take_length] at hO
     have hR:=HR1.out.below hB (by have:=HZ1.out;omega)
     have HB9:=Lib.hid (HB1.out.trans (hB.mono HWZ.out))
     have HT9:=Lib.hid (show wr.there (w.heap.size+1) 0 (#[Value.int IntKind.i64 x.kind,Value.bool x.goal,Value.string vi,Value.slice BA LA.length dA,Value.slice BV LV.length dV,Value.bool x.acc,Value.slice A L.length c]:Array Value).size from hR.there)
     have HRG:=Lib.hid (show wr.rangeAt g 0 [Value.int IntKind.i64 x.kind,Value.bool x.goal,Value.string vi,Value.slice BA LA.length dA,Value.slice BV LV.length dV,Value.bool x.acc,Value.slice A L.length c] from by have:=hG.range;exact this)
     have hrl:=hR.lt
     have hup : ∀j,NewD W1.heap.size wr j→j<wr.heap.size→NewD w.heap.size (wr.setCells (w.heap.size+1) 0 [Value.int IntKind.i64 x.kind,Value.bool x.goal,Value.string vi,Value.slice BA LA.length dA,Value.slice BV LV.length dV,Value.bool x.acc,Value.slice A L.length c]) j∧(wr.setCells (w.heap.size+1) 0 [Value.int IntKind.i64 x.kind,Value.bool x.goal,Value.string vi,Value.slice BA LA.length dA,Value.slice BV LV.length dV,Value.bool x.acc,Value.slice A L.length c]).heap[j]? = wr.heap[j]?:=fun j hj hl=>⟨⟨by have:=hj.1;have:=HZ1.out;omega,by rw [size_setCells];omega⟩,blk_setCells _ _ _ _ _ (by have:=hj.1;have:=HZ1.out;omega)⟩
     have L1:=Lib.hid ((t1.weaken hC).keep (w':=wr.setCells (w.heap.size+1) 0 [Value.int IntKind.i64 x.kind,Value.bool x.goal,Value.string vi,Value.slice BA LA.length dA,Value.slice BV LV.length dV,Value.bool x.acc,Value.slice A L.length c]) (by rw [size_setCells];omega) hup)
     have L2:=Lib.hid ((t2.weaken hC).keep (w':=wr.setCells (w.heap.size+1) 0 [Value.int IntKind.i64 x.kind,Value.bool x.goal,Value.string vi,Value.slice BA LA.length dA,Value.slice BV LV.length dV,Value.bool x.acc,Value.slice A L.length c]) (by rw [size_setCells];omega) hup)
     have L3:=Lib.hid ((hO.rowU hC (hA.mono (fun j hj=>hj.1))).keep (w':=wr.setCells (w.heap.size+1) 0 [Value.int IntKind.i64 x.kind,Value.bool x.goal,Value.string vi,Value.slice BA LA.length dA,Value.slice BV LV.length dV,Value.bool x.acc,Value.slice A L.length c]) (by rw [size_setCells];omega) hup)
     clear hR hG hCg hC t1 t2 hO hA hB hup
     go_upto_region 7 with fail
     go_wp2_with (first | (with_reducible refine wpList_load_mid rfl 50 _ rfl g 0 rfl [Value.int IntKind.i64 x.kind,Value.bool x.goal,Value.string vi,Value.slice BA LA.length dA,Value.slice BV LV.length dV,Value.bool x.acc,Value.slice A L.length c] _ HRG.out Try.underlying50 rfl (by kernel_rfl) ?_) | (with_reducible refine wpList_store_mid rfl 50 _ _ rfl (w.heap.size+1) 0 #[Value.int IntKind.i64 x.kind,Value.bool x.goal,Value.string vi,Value.slice BA LA.length dA,Value.slice BV LV.length dV,Value.bool x.acc,Value.slice A L.length c] rfl rfl HT9.out (by kernel_rfl) (by kernel_rfl) ?_))
     try simp only [Exit.inBlock,Exit.then]
     have hBe:Below w.heap.size w (wr.setCells (w.heap.size+1) 0 [Value.int IntKind.i64 x.kind,Value.bool x.goal,Value.string vi,Value.slice BA LA.length dA,Value.slice BV LV.length dV,Value.bool x.acc,Value.slice A L.length c]):=Below.setCells' _ _ HB9.out (by omega)
     refine bodyPost_ret (v:=.agg #[.int .i64 x.kind,.bool x.goal,.string vi,.slice BA LA.length dA,.slice BV LV.length dV,.bool x.acc,.slice A L.length c]) ?_ rfl (by rw [HR.out];exact ⟨BA,dA,BV,dV,A,c,rfl,L1.out,L2.out,L3.out,hBe⟩)
     exact results_cell (t:=4) (T:=50) rfl _ _ (w.heap.size+1) [Value.int IntKind.i64 x.kind,Value.bool x.goal,Value.string vi,Value.slice BA LA.length dA,Value.slice BV LV.length dV,Value.bool x.acc,Value.slice A L.length c] _ rfl (World.rangeAt_setCells_same wr (w.heap.size+1) 0 [Value.int IntKind.i64 x.kind,Value.bool x.goal,Value.string vi,Value.slice BA LA.length dA,Value.slice BV LV.length dV,Value.bool x.acc,Value.slice A L.length c] HT9.out) Try.underlying50 rfl (by kernel_rfl)
theorem ccond_isU {gf:Nat} {lb:Array Value} {w0:World} {Q:ByteArray→Prop} {t:ByteArray→ByteArray} (hN:NamerOk gf lb w0 Q t) : ∀n,RenOkU 33 gf lb w0 Q t n
 | 0=>ccond_bodyU hN 0 (fun m h=>by omega)
 | n+1=>ccond_bodyU hN (n+1) (fun m h=>by
    obtain rfl:m=n:=by omega
    exact ccond_isU hN m)
end Go.Proofs.Ytffemfglngikbaa
