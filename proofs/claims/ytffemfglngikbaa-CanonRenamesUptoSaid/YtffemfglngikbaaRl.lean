/-
  Texts put together: RefRen1, RefRen2, RefRen3, CanonAg.
-/
import Derived.Test.YtffemfglngikbaaRe
import Derived.Test.YtffemfglngikbaaRc
import Derived.Test.YtffemfglngikbaaRb
import Derived.Test.YtffemfglngikbaaRg
import Derived.Test.YtffemfglngikbaaRk
import Derived.Maps.RangeWalk
namespace Go.Proofs.Ytffemfglngikbaa
open Go.RowKit Go.Shelf
def otherT:List ByteArray→List ByteArray→ByteArray→ByteArray
 | a :: l,b :: m,v=>if a=v then b else otherT l m v
 | _,_,v=>v
theorem otherT_step {l m:List ByteArray} {i:Nat} (h1:i<l.length) (h2:i<m.length) (v:ByteArray):otherT (l.drop i) (m.drop i) v=if l[i]=v then m[i] else otherT (l.drop (i+1)) (m.drop (i+1)) v:=by
 rw [List.drop_eq_getElem_cons h1,List.drop_eq_getElem_cons h2];rfl
theorem otherT_end {l m:List ByteArray} {i:Nat} (h : ¬(i<l.length∧i<m.length)) (v:ByteArray):otherT (l.drop i) (m.drop i) v=v:=by
 by_cases h1:i<l.length
 · rw [List.drop_eq_nil_of_le (show m.length≤i by omega)]
   cases l.drop i<;>rfl
 · rw [List.drop_eq_nil_of_le (show l.length≤i by omega)];rfl
theorem empty_of {v:ByteArray} (h:v.toList = []):v=⟨#[]⟩:=by
 apply Go.WideShapes.bytes_inj
 rw [ByteArray.toList_eq] at h
 rw [h]
theorem toList_ne {u v:ByteArray} (h : ¬u=v) : ¬u.toList=v.toList:=fun e=>h (Go.WideShapes.bytes_inj (by rw [ByteArray.toList_eq,ByteArray.toList_eq] at e;exact e))
set_option maxRecDepth 100000 in
set_option maxHeartbeats 4000000 in
theorem otherR_is {D D':Nat→Prop} (v:ByteArray) (l m:List ByteArray) (A B:Option Addr) (c d:Nat) (w:World) (hl:RowR repStr D w A c l) (hm:RowR repStr D' w B d m) :
 Calls Try.prog 39 #[.string v,.slice A l.length c,.slice B m.length d] w fun e w'=>e = .returned (.string (otherT l m v))∧Below w.heap.size w w':=by
 have HL:=Lib.hid hl
 have HM:=Lib.hid hm
 have hlc:=hl.cap
 have hmc:=hm.cap
 have HR:=Lib.hid (show otherT l m v=otherT (l.drop 0) (m.drop 0) v from rfl)
 clear hl hm
 go_enter Try.func39,Try.ntmps39
 go_wp2_with fail
 go_loopw [7] (fun s wr=>∃i:Nat,s = .int .i64 i∧i≤l.length∧otherT l m v=otherT (l.drop i) (m.drop i) v∧Below w.heap.size w wr) (fun s wr=>l.length - (intOf s).toNat)
 case atStart=>exact ⟨0,rfl,Nat.zero_le _,rfl,Below.refl _ _⟩
 case round=>
  obtain ⟨i,rfl,hi,hR,hB⟩:=hrel
  have HB:=Lib.hid hB
  have HRR:=Lib.hid hR
  clear hB hR HR
  by_cases hlt:i<l.length
  · have b1:(0:Int)≤(i:Int):=by omega
    have b2:(i:Int)<(l.length:Int):=by omega
    have d2:decide ((i:Int)<(l.length:Int))=true:=by simpa using b2
    by_cases hlm:i<m.length
    · obtain ⟨x,hx⟩ : ∃x,x=l[i]:=⟨_,rfl⟩
      obtain ⟨y,hy⟩ : ∃y,y=m[i]:=⟨_,rfl⟩
      obtain ⟨g,off,rfl,hgs,q0⟩:=str_at (HL.out.new_ HB.out) hlt
      obtain ⟨g2,off2,rfl,hgs2,p0⟩:=str_at (HM.out.new_ HB.out) hlm
      rw [← hx] at q0
      rw [← hy] at p0
      have HST:=Lib.hid (show otherT l m v=if x=v then y else otherT (l.drop (i+1)) (m.drop (i+1)) v by rw [HRR.out,otherT_step hlt hlm,hx,hy])
      have b4:(i:Int)<(m.length:Int):=by omega
      have d4:decide ((i:Int)<(m.length:Int))=true:=by simpa using b4
      clear hx hy HRR
      by_cases he:x=v
      · have e1:(x.toList == v.toList)=true:=by rw [he];exact beq_self_eq_true _
        have e2:decide (x.toList=v.toList)=true:=by rw [he];simp
        have e3:x.toList=v.toList:=by rw [he]
        have HRE:=Lib.hid (show otherT l m v=y by rw [HST.out,if_pos he])
        clear he HST
        go_wp2_with fail
        go_ret
        exact ⟨by rw [HRE.out]<;>rfl,HB.out⟩
      · have e3 : ¬x.toList=v.toList:=toList_ne he
        have e1:(x.toList == v.toList)=false:=by simpa using e3
        have e2:decide (x.toList=v.toList)=false:=by simpa using e3
        have HRE:=Lib.hid (show otherT l m v=otherT (l.drop (i+1)) (m.drop (i+1)) v by rw [HST.out,if_neg he])
        clear he HST
        go_wp2_with fail
        go_roundw
        case rel=>exact ⟨i+1,by go_num,by omega,HRE.out,HB.out⟩
        case measure=>simp [intOf]<;>omega
    · have b4 : ¬(i:Int)<(m.length:Int):=by omega
      have d4:decide ((i:Int)<(m.length:Int))=false:=by simpa using b4
      have HRE:=Lib.hid (show otherT l m v=v by rw [HRR.out,otherT_end (fun h=>hlm h.2)])
      clear HRR
      go_wp2_with fail
      go_ret
      exact ⟨by rw [HRE.out]<;>rfl,HB.out⟩
  · have b2 : ¬(i:Int)<(l.length:Int):=by omega
    have d2:decide ((i:Int)<(l.length:Int))=false:=by simpa using b2
    have HRE:=Lib.hid (show otherT l m v=v by rw [HRR.out,otherT_end (fun h=>hlt h.1)])
    clear HRR
    go_wp2_with fail
    go_ret
    exact ⟨by rw [HRE.out]<;>rfl,HB.out⟩
def OtherOk (N I:Value) (w0:World) (t:ByteArray→ByteArray):Prop:=∀v W,Below w0.heap.size w0 W→Calls Try.prog 39 #[.string v,N,I] W fun e W'=>e = .returned (.string (t v))∧Below W.heap.size W W'
set_option maxRecDepth 100000 in
set_option maxHeartbeats 4000000 in
theorem ratomR_is {N I:Value} {w0:World} {t:ByteArray→ByteArray} (hN:OtherOk N I w0 t) (a:AtomT) (w:World) (hw:Below w0.heap.size w0 w) :
 Calls Try.prog 40 #[.agg #[.string a.var,.int .i64 a.sym.kind,.string a.sym.text,.int .i64 a.sym.n],N,I] w fun e w'=>e = .returned (.agg #[.string (oneR t a.var),.int .i64 a.sym.kind,.string a.sym.text,.int .i64 a.sym.n])∧Below w.heap.size w w':=by
 have HN:=Lib.hid (show ∀v W,Below w.heap.size w W→_ from fun v W hW=>hN v W (hw.trans (hW.mono hw.size)))
 obtain ⟨b,hb0⟩ : ∃b,b=oneR t a.var:=⟨_,rfl⟩
 rw [← hb0]
 have HBB:=Lib.hid hb0
 clear hN hw hb0
 go_enter Try.func40,Try.ntmps40
 go_upto_region 1 with fail
 obtain ⟨w1,hw1⟩ : ∃w1,w1=((w.alloc (.cells #[.string a.var,.int .i64 a.sym.kind,.string a.sym.text,.int .i64 a.sym.n] 54)).alloc (.cells #[.string ⟨#[]⟩,.int .i64 0,.string ⟨#[]⟩,.int .i64 0] 54)):=⟨_,rfl⟩
 rw [← hw1]
 have HB:=Lib.hid (show Below w.heap.size w w1 by rw [hw1];exact (by repeat (first | exact Below.refl _ _ | refine Below.drew ?_ | refine Below.al ?_ _ | refine Below.sc ?_ _)))
 have Kp:=Lib.hid (show Blk w1 (w.heap.size) 54 #[.string a.var,.int .i64 a.sym.kind,.string a.sym.text,.int .i64 a.sym.n] by rw [hw1];exact ((Blk.new w 54 #[.string a.var,.int .i64 a.sym.kind,.string a.sym.text,.int .i64 a.sym.n]).alloc (.cells #[.string ⟨#[]⟩,.int .i64 0,.string ⟨#[]⟩,.int .i64 0] 54)))
 have Kr:=Lib.hid (show Blk w1 (w.heap.size+1) 54 #[.string ⟨#[]⟩,.int .i64 0,.string ⟨#[]⟩,.int .i64 0] by rw [hw1];have hh:=(Blk.new (w.alloc (.cells #[.string a.var,.int .i64 a.sym.kind,.string a.sym.text,.int .i64 a.sym.n] 54)) 54 #[.string ⟨#[]⟩,.int .i64 0,.string ⟨#[]⟩,.int .i64 0]);simp only [World.size_alloc] at hh;exact hh)
 clear hw1
 obtain ⟨p0,p1,p2,p3⟩:=Kp.out.c4
 have pf0:=Kp.out.frozen 0
 have pf1:=Kp.out.frozen 1
 have pf2:=Kp.out.frozen 2
 have pf3:=Kp.out.frozen 3
 have pz:=Kp.out.lt
 obtain ⟨r0,r1,r2,r3⟩:=Kr.out.c4
 have rf0:=Kr.out.frozen 0
 have rf1:=Kr.out.frozen 1
 have rf2:=Kr.out.frozen 2
 have rf3:=Kr.out.frozen 3
 have rz:=Kr.out.lt
 by_cases hv:a.var.toList = []
 · have va:(a.var.toList == [])=true:=by simp [hv]
   have vb:a.var.toList.isEmpty=true:=by simp [hv]
   have vc:decide (a.var.toList = [])=true:=by simp [hv]
   have HE:=Lib.hid (show b=a.var by rw [HBB.out,oneR,if_pos hv];exact (empty_of hv).symm)
   clear hv
   go_wp2_with fail
   rw [HE.out]
   exact bodyPost_ret (v:=.agg #[.string a.var,.int .i64 a.sym.kind,.string a.sym.text,.int .i64 a.sym.n]) (by simp [results,Try.results40,go_sem, *]) rfl ⟨rfl,by (repeat (first | exact Below.refl _ _ | exact HB.out | refine Below.drew ?_ | refine Below.al ?_ _ | refine Below.sc ?_ _))⟩
 · have va:(a.var.toList == [])=false:=by simp [hv]
   have vb:a.var.toList.isEmpty=false:=by simp [hv]
   have vc:decide (a.var.toList = [])=false:=by simp [hv]
   have HE:=Lib.hid (show b=t a.var by rw [HBB.out,oneR,if_neg hv])
   clear hv
   go_wp2_with fail
   with_reducible refine (HN.out a.var _ (by (repeat (first | exact Below.refl _ _ | exact HB.out | refine Below.drew ?_ | refine Below.al ?_ _ | refine Below.sc ?_ _)))).mono ?_
   rintro e w2 ⟨rfl,hb⟩
   have hbs:=Below.trans (show Below w1.heap.size w1 _ from (by (repeat (first | exact Below.refl _ _ | refine Below.drew ?_ | refine Below.al ?_ _ | refine Below.sc ?_ _)))) (hb.mono (by simp<;>omega))
   have Kp:=Lib.hid (Kp.out.new_ hbs)
   have Kr:=Lib.hid (Kr.out.new_ hbs)
   have HB:=Lib.hid (HB.out.trans (hbs.mono HB.out.size))
   have hsz2:=hbs.size
   clear p0 p1 p2 p3 pf0 pf1 pf2 pf3 pz r0 r1 r2 r3 rf0 rf1 rf2 rf3 rz hb hbs
   obtain ⟨p0,p1,p2,p3⟩:=Kp.out.c4
   have pf0:=Kp.out.frozen 0
   have pf1:=Kp.out.frozen 1
   have pf2:=Kp.out.frozen 2
   have pf3:=Kp.out.frozen 3
   have pz:=Kp.out.lt
   obtain ⟨r0,r1,r2,r3⟩:=Kr.out.c4
   have rf0:=Kr.out.frozen 0
   have rf1:=Kr.out.frozen 1
   have rf2:=Kr.out.frozen 2
   have rf3:=Kr.out.frozen 3
   have rz:=Kr.out.lt
   rw [← HE.out]
   go_wp2_with fail
   exact bodyPost_ret (v:=.agg #[.string b,.int .i64 a.sym.kind,.string a.sym.text,.int .i64 a.sym.n]) (by simp [results,Try.results40,go_sem, *]) rfl ⟨rfl,by (repeat (first | exact Below.refl _ _ | exact HB.out | refine Below.drew ?_ | refine Below.al ?_ _ | refine Below.sc ?_ _))⟩
set_option maxRecDepth 100000 in
set_option maxHeartbeats 8000000 in
theorem rtestsR_is {N I:Value} {w0:World} {t:ByteArray→ByteArray} (hN:OtherOk N I w0 t) (A:Option Addr) (c:Nat) (l:List TestT) {D:Nat→Prop} (w:World) (hw:Below w0.heap.size w0 w) (hrd:RowR repTestT D w A c l) (hs:SmT l) :
 Calls Try.prog 60 #[.slice A l.length c,N,I] w (FreshR repTestT (l.map (testR t)) w):=by
 obtain ⟨i0,hi0,hz0,hz1,hz2⟩:=infp inf_Sym
 obtain ⟨j0,hj0,hy0,hy1,hy2⟩:=infp inf_Test
 have hlc:=hrd.cap
 have hl1:=hs.1
 have HRD:=Lib.hid hrd
 have HS:=Lib.hid hs
 have HN:=Lib.hid (show ∀v W,Below w.heap.size w W→_ from fun v W hW=>hN v W (hw.trans (hW.mono hw.size)))
 obtain ⟨L,hL⟩ : ∃L,L=l.map (testR t):=⟨_,rfl⟩
 rw [← hL]
 have HLL:=Lib.hid (show L.length=l.length by rw [hL,List.length_map])
 have HLG:=Lib.hid (show ∀k,(h:k<l.length)→∃h':k<L.length,L[k]=testR t l[k] from fun k h=>⟨by rw [hL,List.length_map];exact h,by simp [hL]⟩)
 clear hrd hs hN hw hL
 go_enter Try.func60,Try.ntmps60
 go_wp2_with fail
 go_loopw [7,8] (fun v i wr=>∃k:Nat,i = .int .i64 k∧k≤l.length∧Copies repTestT 65 w (L.take k) v wr) (fun v i wr=>l.length - (intOf i).toNat)
 case atStart=>exact ⟨0,rfl,Nat.zero_le _,Copies.nil _ _ _ (Below.refl _ _)⟩
 case round=>
  obtain ⟨k,rfl,hk,hC⟩:=hrel
  obtain ⟨C,A1,c1,rfl,h1,h2,h3,h4⟩:=hC
  have hkL:(L.take k).length=k:=take_len (by rw [HLL.out];exact hk)
  rw [hkL]
  by_cases hlt:k<l.length
  · have hrw:=HRD.out.keep (D':=D) h4.size (fun j hj hl=>⟨hj,h4.block j hl⟩)
    obtain ⟨g,off,A3,c3,rfl,hDg,hg,q0,q1,q2,q3,q4,q5,hr3⟩:=at_TestT hrw hlt
    obtain ⟨y,hy⟩ : ∃y,y=l[k]:=⟨_,rfl⟩
    have hy3:y.list.length≤1000:=by rw [hy];exact HS.out.2 _ (List.getElem_mem hlt)
    rw [← hy] at q0 q1 q2 q3 q4 q5 hr3
    have hr4:=RowR.rd (hs:=Sym.cells_length) hr3
    have hl3:=hr3.cap
    have b1:(0:Int)≤(k:Int):=by omega
    have b2:(k:Int)<(l.length:Int):=by omega
    have HZ:=Lib.hid (show L.take k ++ [testR t y]=L.take (k+1) by
     obtain ⟨h',e⟩:=HLG.out k hlt
     rw [hy,← e]
     exact take_snoc h')
    have H1:=Lib.hid h1
    have H2:=Lib.hid h2
    have H3:=Lib.hid h3
    have H4:=Lib.hid h4
    have HR4:=Lib.hid hr4
    have HKL:=Lib.hid hkL
    clear hy hrw h1 h2 h3 h4 hr3 hr4 hkL
    go_upto_region 6 with fail
    obtain ⟨W2,hW2⟩ : ∃W2,W2=wr.alloc (.cells #[.int .i64 y.rel,.string y.var,.int .i64 y.sym.kind,.string y.sym.text,.int .i64 y.sym.n,.slice A3 y.list.length c3] 65):=⟨_,rfl⟩
    have hB2:Below wr.heap.size wr W2:=by rw [hW2];exact (Below.refl _ _).alloc (Nat.le_refl _) _
    have hX2:Blk W2 wr.heap.size 65 #[.int .i64 y.rel,.string y.var,.int .i64 y.sym.kind,.string y.sym.text,.int .i64 y.sym.n,.slice A3 y.list.length c3]:=by rw [hW2];exact Blk.new _ _ _
    rw [← hW2]
    have p5:W2.cell? ⟨g,off+k*6+5,none⟩=some (.slice A3 y.list.length c3):=(hB2.cell (p:=⟨g,off+k*6+5,none⟩) hg).trans q5
    clear hW2 q0 q1 q2 q3 q4 q5
    have HB4:=Lib.hid hB2
    have HX4:=Lib.hid hX2
    have hxl2:=hX2.lt
    clear hX2 hB2
    go_upto_region 7 with (at_builtin;refine wpList_append_src W2 rfl (.const (.slice none 0 0)) (.tmp 24) 63 rfl 52 i0 _ 3 32 Try.underlying63 hi0 hz0 hz1 hz2 rfl (by omega) (.slice none 0 0) 0 [] rfl (owns_nilC _ _ _) A3 y.list.length c3 (y.list.flatMap Sym.cells) rfl (flat_length Sym.cells_length _) ((HR4.out.new_ HB4.out).news Sym.cells_length (by omega)) (one_Sym _) (by unfold maxLen;omega) (by omega) ?_;intro v1 w5 hown1 hg1 hnil1 hat1;rw [Nat.zero_add,List.nil_append] at hown1;obtain ⟨A5,c5,rfl,ho5,hA5,hB5⟩:=fresh1_of hown1 hat1 rfl hg1;have hX5:=HX4.out.new_ hB5;have u5:=(hX5.cell 5).trans rfl;have g5:=hX5.frozen 5;have hxl5:=hX5.lt;have HB5:=Lib.hid hB5;have HO5:=Lib.hid ho5;have HA5:=Lib.hid hA5;have HX5:=Lib.hid hX5;clear hX5 hB5 ho5 hA5 hown1 hat1 hg1 hnil1 p5)
    obtain ⟨W6,hW6⟩ : ∃W6,W6=w5.setCell ⟨wr.heap.size,5,none⟩ (.slice A5 y.list.length c5):=⟨_,rfl⟩
    have hX5:=HX5.out
    have HB6:=Lib.hid (show Below wr.heap.size wr W6 by rw [hW6];exact (HB4.out.trans (HB5.out.mono (by omega))).setCell (Nat.le_refl _) _)
    have HX6:=Lib.hid (show Blk W6 wr.heap.size 65 #[.int .i64 y.rel,.string y.var,.int .i64 y.sym.kind,.string y.sym.text,.int .i64 y.sym.n,.slice A5 y.list.length c5] by rw [hW6];exact hX5.set_ 5 _)
    have HO6:=Lib.hid (show W6.ownsRow 0 52 3 (.slice A5 y.list.length c5) y.list.length (y.list.flatMap Sym.cells) by rw [hW6];exact ownsRow_setCell_other (a:=⟨wr.heap.size,5,none⟩) HO5.out (own_blk_ne HO5.out hX5 (by decide)) _)
    have HA6:=Lib.hid (show AIn A5 (NewD wr.heap.size W6) from HA5.out.mono (fun j hj=>⟨by have:=hj.1;omega,by rw [hW6];simpa using hj.2⟩))
    rw [← hW6]
    clear hW6 hX5 hxl2 hxl5 u5 g5 HO5 HX5 HB5 HA5 HX4 HB4
    have x1:W6.cell? ⟨wr.heap.size,1,none⟩=some (.string y.var):=(HX6.out.cell 1).trans rfl
    have hxl6:=HX6.out.lt
    by_cases hv:y.var.toList = []
    · have va:(y.var.toList == [])=true:=by simp [hv]
      have vb:y.var.toList.isEmpty=true:=by simp [hv]
      have vc:decide (y.var.toList = [])=true:=by simp [hv]
      have HTT:=Lib.hid (show testR t y=⟨y.rel,y.var,y.sym,y.list⟩ by rw [testR,oneR,if_pos hv,← empty_of hv])
      clear hv
      have hB6:=HB6.out
      have hX6:=HX6.out
      have hB7:Below wr.heap.size wr (W6.alloc (.cells #[.int .i64 y.rel,.string y.var,.int .i64 y.sym.kind,.string y.sym.text,.int .i64 y.sym.n,.slice A5 y.list.length c5] 65)):=hB6.alloc hB6.size _
      have hrow:RowR repSym (Plus C wr (W6.alloc (.cells #[.int .i64 y.rel,.string y.var,.int .i64 y.sym.kind,.string y.sym.text,.int .i64 y.sym.n,.slice A5 y.list.length c5] 65))) (W6.alloc (.cells #[.int .i64 y.rel,.string y.var,.int .i64 y.sym.kind,.string y.sym.text,.int .i64 y.sym.n,.slice A5 y.list.length c5] 65)) A5 c5 y.list:=(Fresh1.row Sym.cells_length HO6.out HA6.out).keep (by simp) (fun j hj hl=>⟨.inr ⟨hj.1,by simp;have:=hj.2;omega⟩,((Below.refl W6.heap.size W6).alloc (Nat.le_refl _) _).block j hl⟩)
      have hown7:=H1.out.plus hB7
      have hrep7:repTestT.rep (Plus C wr (W6.alloc (.cells #[.int .i64 y.rel,.string y.var,.int .i64 y.sym.kind,.string y.sym.text,.int .i64 y.sym.n,.slice A5 y.list.length c5] 65))) (W6.alloc (.cells #[.int .i64 y.rel,.string y.var,.int .i64 y.sym.kind,.string y.sym.text,.int .i64 y.sym.n,.slice A5 y.list.length c5] 65)) (testR t y) [.int .i64 y.rel,.string y.var,.int .i64 y.sym.kind,.string y.sym.text,.int .i64 y.sym.n,.slice A5 y.list.length c5]:=by
       rw [HTT.out]
       exact rep_test (y:=⟨y.rel,y.var,y.sym,y.list⟩) hrow
      have hcl : ∀j,Plus C wr (W6.alloc (.cells #[.int .i64 y.rel,.string y.var,.int .i64 y.sym.kind,.string y.sym.text,.int .i64 y.sym.n,.slice A5 y.list.length c5] 65)) j→j<(W6.alloc (.cells #[.int .i64 y.rel,.string y.var,.int .i64 y.sym.kind,.string y.sym.text,.int .i64 y.sym.n,.slice A5 y.list.length c5] 65)).heap.size:=fun j hj=>by
       rcases hj with hj | hj
       · have:=(H2.out j hj).2;have:=hB7.size;omega
       · exact hj.2
      obtain ⟨u0,u1,u2,u3,u4,u5⟩:=hX6.c6
      have hxl9:=hX6.lt
      have HB7:=Lib.hid hB7
      have HOW:=Lib.hid hown7
      have HRE:=Lib.hid hrep7
      have HCL:=Lib.hid hcl
      have h63:(L.take k).length+1≤maxLen:=by rw [HKL.out];unfold maxLen;omega
      have hby:((L.take k).length+1)*80≤140737488355328:=by rw [HKL.out];omega
      have H63:=Lib.hid h63
      have HBY:=Lib.hid hby
      clear hB6 hB7 hX6 hrow hown7 hrep7 hcl h63 hby
      have HVV:=Lib.hid (show Value.slice A1 k c1 = .slice A1 (L.take k).length c1 by rw [HKL.out])
      go_wp2_with (at_builtin;refine wpList_append_C _ rfl _ _ 48 rfl 65 j0 _ 6 80 Try.underlying48 hj0 hy0 hy1 hy2 rfl rfl (by omega) (Plus C wr (W6.alloc (.cells #[.int .i64 y.rel,.string y.var,.int .i64 y.sym.kind,.string y.sym.text,.int .i64 y.sym.n,.slice A5 y.list.length c5] 65))) HCL.out (.slice A1 (L.take k).length c1) (L.take k) HVV.out HOW.out ⟨W6.heap.size,0,none⟩ 1 (testR t y) [.int .i64 y.rel,.string y.var,.int .i64 y.sym.kind,.string y.sym.text,.int .i64 y.sym.n,.slice A5 y.list.length c5] rfl (World.news_of_block (heap_alloc_new _ _)) (by intro u hu;simp only [List.mem_cons,List.not_mem_nil,or_false] at hu;rcases hu with rfl | rfl | rfl | rfl | rfl | rfl<;>rfl) HRE.out H63.out HBY.out ?_;intro v' w7 hap)
      have hfin:Copies repTestT 65 w (L.take k ++ [testR t y]) v' w7:=Copies.snoc H2.out H3.out H4.out HB7.out hap
      rw [HZ.out] at hfin
      go_roundw
      case rel=>exact ⟨k+1,by go_num,by omega,hfin⟩
      case measure=>simp [intOf];omega
    · have va:(y.var.toList == [])=false:=by simp [hv]
      have vb:y.var.toList.isEmpty=false:=by simp [hv]
      have vc:decide (y.var.toList = [])=false:=by simp [hv]
      obtain ⟨v,hvv⟩ : ∃v,v=t y.var:=⟨_,rfl⟩
      have HTT:=Lib.hid (show testR t y=⟨y.rel,v,y.sym,y.list⟩ by rw [testR,oneR,if_neg hv,hvv])
      clear hv
      go_wp2_with fail
      refine (HN.out y.var W6 (H4.out.trans (HB6.out.mono H4.out.size))).mono ?_
      rintro e w7 ⟨rfl,hb7⟩
      rw [← hvv]
      have hX7:=HX6.out.new_ hb7
      obtain ⟨W8,hW8⟩ : ∃W8,W8=w7.setCell ⟨wr.heap.size,1,none⟩ (.string v):=⟨_,rfl⟩
      have HB8:=Lib.hid (show Below wr.heap.size wr W8 by rw [hW8];exact (HB6.out.trans (hb7.mono HB6.out.size)).setCell (Nat.le_refl _) _)
      have HX8:=Lib.hid (show Blk W8 wr.heap.size 65 #[.int .i64 y.rel,.string v,.int .i64 y.sym.kind,.string y.sym.text,.int .i64 y.sym.n,.slice A5 y.list.length c5] by rw [hW8];exact hX7.set_ 1 _)
      have hO7:=ownsRow_new HO6.out hb7
      have HO8:=Lib.hid (show W8.ownsRow 0 52 3 (.slice A5 y.list.length c5) y.list.length (y.list.flatMap Sym.cells) by rw [hW8];exact ownsRow_setCell_other (a:=⟨wr.heap.size,1,none⟩) hO7 (own_blk_ne hO7 hX7 (by decide)) _)
      have HA8:=Lib.hid (show AIn A5 (NewD wr.heap.size W8) from HA6.out.mono (fun j hj=>⟨hj.1,by rw [hW8];have:=hj.2;have:=hb7.size;simp;omega⟩))
      have u1:w7.cell? ⟨wr.heap.size,1,none⟩=some (.string y.var):=(hX7.cell 1).trans rfl
      have g1:=hX7.frozen 1
      have hxl7:=hX7.lt
      clear hX7 hO7 hb7 hvv x1 hxl6 va vb vc
      go_upto_region 9 with fail
      rw [← hW8]
      clear hW8 u1 g1 hxl7
      have hB6:=HB8.out
      have hX6:=HX8.out
      have hB7:Below wr.heap.size wr (W8.alloc (.cells #[.int .i64 y.rel,.string v,.int .i64 y.sym.kind,.string y.sym.text,.int .i64 y.sym.n,.slice A5 y.list.length c5] 65)):=hB6.alloc hB6.size _
      have hrow:RowR repSym (Plus C wr (W8.alloc (.cells #[.int .i64 y.rel,.string v,.int .i64 y.sym.kind,.string y.sym.text,.int .i64 y.sym.n,.slice A5 y.list.length c5] 65))) (W8.alloc (.cells #[.int .i64 y.rel,.string v,.int .i64 y.sym.kind,.string y.sym.text,.int .i64 y.sym.n,.slice A5 y.list.length c5] 65)) A5 c5 y.list:=(Fresh1.row Sym.cells_length HO8.out HA8.out).keep (by simp) (fun j hj hl=>⟨.inr ⟨hj.1,by simp;have:=hj.2;omega⟩,((Below.refl W8.heap.size W8).alloc (Nat.le_refl _) _).block j hl⟩)
      have hown7:=H1.out.plus hB7
      have hrep7:repTestT.rep (Plus C wr (W8.alloc (.cells #[.int .i64 y.rel,.string v,.int .i64 y.sym.kind,.string y.sym.text,.int .i64 y.sym.n,.slice A5 y.list.length c5] 65))) (W8.alloc (.cells #[.int .i64 y.rel,.string v,.int .i64 y.sym.kind,.string y.sym.text,.int .i64 y.sym.n,.slice A5 y.list.length c5] 65)) (testR t y) [.int .i64 y.rel,.string v,.int .i64 y.sym.kind,.string y.sym.text,.int .i64 y.sym.n,.slice A5 y.list.length c5]:=by
       rw [HTT.out]
       exact rep_test (y:=⟨y.rel,v,y.sym,y.list⟩) hrow
      have hcl : ∀j,Plus C wr (W8.alloc (.cells #[.int .i64 y.rel,.string v,.int .i64 y.sym.kind,.string y.sym.text,.int .i64 y.sym.n,.slice A5 y.list.length c5] 65)) j→j<(W8.alloc (.cells #[.int .i64 y.rel,.string v,.int .i64 y.sym.kind,.string y.sym.text,.int .i64 y.sym.n,.slice A5 y.list.length c5] 65)).heap.size:=fun j hj=>by
       rcases hj with hj | hj
       · have:=(H2.out j hj).2;have:=hB7.size;omega
       · exact hj.2
      obtain ⟨u0,u1,u2,u3,u4,u5⟩:=hX6.c6
      have hxl9:=hX6.lt
      have HB7:=Lib.hid hB7
      have HOW:=Lib.hid hown7
      have HRE:=Lib.hid hrep7
      have HCL:=Lib.hid hcl
      have h63:(L.take k).length+1≤maxLen:=by rw [HKL.out];unfold maxLen;omega
      have hby:((L.take k).length+1)*80≤140737488355328:=by rw [HKL.out];omega
      have H63:=Lib.hid h63
      have HBY:=Lib.hid hby
      clear hB6 hB7 hX6 hrow hown7 hrep7 hcl h63 hby
      have HVV:=Lib.hid (show Value.slice A1 k c1 = .slice A1 (L.take k).length c1 by rw [HKL.out])
      go_wp2_with (at_builtin;refine wpList_append_C _ rfl _ _ 48 rfl 65 j0 _ 6 80 Try.underlying48 hj0 hy0 hy1 hy2 rfl rfl (by omega) (Plus C wr (W8.alloc (.cells #[.int .i64 y.rel,.string v,.int .i64 y.sym.kind,.string y.sym.text,.int .i64 y.sym.n,.slice A5 y.list.length c5] 65))) HCL.out (.slice A1 (L.take k).length c1) (L.take k) HVV.out HOW.out ⟨W8.heap.size,0,none⟩ 1 (testR t y) [.int .i64 y.rel,.string v,.int .i64 y.sym.kind,.string y.sym.text,.int .i64 y.sym.n,.slice A5 y.list.length c5] rfl (World.news_of_block (heap_alloc_new _ _)) (by intro u hu;simp only [List.mem_cons,List.not_mem_nil,or_false] at hu;rcases hu with rfl | rfl | rfl | rfl | rfl | rfl<;>rfl) HRE.out H63.out HBY.out ?_;intro v' w7 hap)
      have hfin:Copies repTestT 65 w (L.take k ++ [testR t y]) v' w7:=Copies.snoc H2.out H3.out H4.out HB7.out hap
      rw [HZ.out] at hfin
      go_roundw
      case rel=>exact ⟨k+1,by go_num,by omega,hfin⟩
      case measure=>simp [intOf];omega
  · obtain rfl:k=l.length:=by omega
    have hfin:=Copies.done ⟨C,A1,c1,rfl,h1,h2,h3,h4⟩
    rw [show l.length=L.length from HLL.out.symm,List.take_length,HLL.out] at hfin
    have HF:=Lib.hid hfin
    clear h1 h2 h3 h4 hfin
    go_wp2_with fail
    go_ret
    exact HF.out
end Go.Proofs.Ytffemfglngikbaa
namespace Go.Proofs.Ytffemfglngikbaa
open Go.RowKit Go.Shelf
theorem RowR.setBox {α:Type} {r:RepT α} {b:Nat} {W:World} {A:Option Addr} {c:Nat} {l:List α} (h:RowR r (NewD (b+1) W) W A c l) (i:Nat) (v:Value):RowR r (NewD (b+1) (W.setCell ⟨b,i,none⟩ v)) (W.setCell ⟨b,i,none⟩ v) A c l:=
 h.keep (by simp) (fun j hj hl=>⟨⟨hj.1,by simpa using hj.2⟩,Below.heap_setCell _ _ _ _ (by dsimp only;have:=hj.1;omega)⟩)
def RCSpec (N I:Value) (w0:World) (t:ByteArray→ByteArray) (n:Nat):Prop:=∀(A:Option Addr) (c:Nat) (L:List CondT) (D:Nat→Prop) (w:World),Below w0.heap.size w0 w→RowR (repCondT n) D w A c L→L.length≤1000→(∀x∈L,SmC n x)→Calls Try.prog 38 #[.slice A L.length c,N,I] w (FreshR (repCondT n) (L.map (condR t n)) w)
set_option maxRecDepth 100000 in
set_option maxHeartbeats 16000000 in
theorem rconds_step {N I:Value} {w0:World} {t:ByteArray→ByteArray} (hN:OtherOk N I w0 t) (n:Nat) (ih : ∀m,n=m+1→RCSpec N I w0 t m):RCSpec N I w0 t n:=by
 intro A c l D w hw hrd hl1 hs
 obtain ⟨j0,hj0,hy0,hyy1,hyy2⟩:=infp inf_Cond
 have hlc:=hrd.cap
 have HRD:=Lib.hid hrd
 have HS:=Lib.hid hs
 have HIH:=Lib.hid (show ∀m,n=m+1→∀(A:Option Addr) (c:Nat) (L:List CondT) (D:Nat→Prop) (W:World),Below w.heap.size w W→_ from fun m e A c L D W hW=>ih m e A c L D W (hw.trans (hW.mono hw.size)))
 have HN:=Lib.hid (show ∀v W,Below w.heap.size w W→_ from fun v W hW=>hN v W (hw.trans (hW.mono hw.size)))
 have HTS:=Lib.hid (show ∀(A:Option Addr) (c:Nat) (l:List TestT) (D:Nat→Prop) (W:World),Below w.heap.size w W→RowR repTestT D W A c l→SmT l→_ from fun A c l D W hW hr hs=>rtestsR_is hN A c l W (hw.trans (hW.mono hw.size)) hr hs)
 obtain ⟨L,hL⟩ : ∃L,L=l.map (condR t n):=⟨_,rfl⟩
 rw [← hL]
 have HLL:=Lib.hid (show L.length=l.length by rw [hL,List.length_map])
 have HLG:=Lib.hid (show ∀k,(h:k<l.length)→∃h':k<L.length,L[k]=condR t n l[k] from fun k h=>⟨by rw [hL,List.length_map];exact h,by simp [hL]⟩)
 clear hrd hs hN hw hL ih
 go_enter Try.func38,Try.ntmps38
 go_wp2_with fail
 go_loopw [7,8] (fun v i wr=>∃k:Nat,i = .int .i64 k∧k≤l.length∧Copies (repCondT n) 50 w (L.take k) v wr) (fun v i wr=>l.length - (intOf i).toNat)
 case atStart=>exact ⟨0,rfl,Nat.zero_le _,Copies.nil _ _ _ (Below.refl _ _)⟩
 case round=>
  obtain ⟨k,rfl,hk,hC⟩:=hrel
  obtain ⟨C,A1,c1,rfl,h1,h2,h3,h4⟩:=hC
  have hkL:(L.take k).length=k:=take_len (by rw [HLL.out];exact hk)
  rw [hkL]
  by_cases hlt:k<l.length
  · have hrw:=HRD.out.new_ h4
    obtain ⟨m,rfl⟩ : ∃m,n=m+1:=by
     cases n with
     | zero=>rw [row0 hrw] at hlt;simp at hlt
     | succ m=>exact ⟨m,rfl⟩
    obtain ⟨g,off,Ay1,cy1,Ay2,cy2,Ay3,cy3,hA0,hDg,hg,q0,q1,q2,q3,q4,q5,q6,hy1,hy2,hy3⟩:=at_CondT hrw hlt
    subst hA0
    obtain ⟨y,hy⟩ : ∃y,y=l[k]:=⟨_,rfl⟩
    have hys:SmC (m+1) y:=by rw [hy];exact HS.out _ (List.getElem_mem hlt)
    rw [← hy] at q0 q1 q2 q3 q4 q5 q6 hy1 hy2 hy3
    have b1:(0:Int)≤(k:Int):=by omega
    have b2:(k:Int)<(l.length:Int):=by omega
    have HZ:=Lib.hid (show L.take k ++ [condR t (m+1) y]=L.take (k+1) by
     obtain ⟨h',e⟩:=HLG.out k hlt
     rw [hy,← e]
     exact take_snoc h')
    obtain ⟨LA,hLA⟩ : ∃L,L=y.attr.map (testR t):=⟨_,rfl⟩
    obtain ⟨LV,hLV⟩ : ∃L,L=y.value.map (testR t):=⟨_,rfl⟩
    obtain ⟨LC,hLC⟩ : ∃L,L=y.conds.map (condR t m):=⟨_,rfl⟩
    obtain ⟨vi,hvi⟩ : ∃v,v=oneR t y.id:=⟨_,rfl⟩
    have HRR:=Lib.hid (show condR t (m+1) y = .mk y.kind y.goal vi LA LV y.acc LC by rw [hLA,hLV,hLC,hvi];rfl)
    have hb4:=h4
    have HTA:=Lib.hid (show ∀W,Below wr.heap.size wr W→Calls Try.prog 60 #[.slice Ay1 y.attr.length cy1,N,I] W (FreshR repTestT LA W) from fun W hW=>by rw [hLA];exact HTS.out Ay1 cy1 y.attr D W (hb4.trans (hW.mono hb4.size)) (hy1.new_ hW) hys.1)
    have HTV:=Lib.hid (show ∀W,Below wr.heap.size wr W→Calls Try.prog 60 #[.slice Ay2 y.value.length cy2,N,I] W (FreshR repTestT LV W) from fun W hW=>by rw [hLV];exact HTS.out Ay2 cy2 y.value D W (hb4.trans (hW.mono hb4.size)) (hy2.new_ hW) hys.2.1)
    have HTC:=Lib.hid (show ∀W,Below wr.heap.size wr W→Calls Try.prog 38 #[.slice Ay3 y.conds.length cy3,N,I] W (FreshR (repCondT m) LC W) from fun W hW=>by rw [hLC];exact HIH.out m rfl Ay3 cy3 y.conds D W (hb4.trans (hW.mono hb4.size)) (hy3.new_ hW) hys.2.2.1 hys.2.2.2)
    have HID:=Lib.hid (show ∀W,Below wr.heap.size wr W→_ from fun W hW=>HN.out y.id W (hb4.trans (hW.mono hb4.size)))
    have HVI:=Lib.hid hvi
    have H1:=Lib.hid h1
    have H2:=Lib.hid h2
    have H3:=Lib.hid h3
    have H4:=Lib.hid h4
    have HKL:=Lib.hid hkL
    have Q3:=Lib.hid q3
    have Q4:=Lib.hid q4
    have Q6:=Lib.hid q6
    have HG:=Lib.hid hg
    clear hy hrw h1 h2 h3 h4 hkL hy1 hy2 hy3 hys hLA hLV hLC hvi hb4
    go_upto_region 6 with fail
    obtain ⟨W2,hW2⟩ : ∃W2,W2=wr.alloc (.cells #[.int .i64 y.kind,.bool y.goal,.string y.id,.slice Ay1 y.attr.length cy1,.slice Ay2 y.value.length cy2,.bool y.acc,.slice Ay3 y.conds.length cy3] 50):=⟨_,rfl⟩
    have HB2:=Lib.hid (show Below wr.heap.size wr W2 by rw [hW2];exact (Below.refl _ _).alloc (Nat.le_refl _) _)
    have HX2:=Lib.hid (show Blk W2 wr.heap.size 50 #[.int .i64 y.kind,.bool y.goal,.string y.id,.slice Ay1 y.attr.length cy1,.slice Ay2 y.value.length cy2,.bool y.acc,.slice Ay3 y.conds.length cy3] by rw [hW2];exact Blk.new _ _ _)
    rw [← hW2]
    clear hW2 q0 q1 q2 q3 q4 q5 q6 hg
    have x2:W2.cell? ⟨wr.heap.size,2,none⟩=some (.string y.id):=(HX2.out.cell 2).trans rfl
    have xl2:=HX2.out.lt
    by_cases hv:y.id.toList = []
    · have va:(y.id.toList == [])=true:=by simp [hv]
      have vb:y.id.toList.isEmpty=true:=by simp [hv]
      have vc:decide (y.id.toList = [])=true:=by simp [hv]
      have hvi:vi=y.id:=by rw [HVI.out,oneR,if_pos hv,← empty_of hv]
      clear hv
      have HX2:=Lib.hid (show Blk W2 wr.heap.size 50 #[.int .i64 y.kind,.bool y.goal,.string vi,.slice Ay1 y.attr.length cy1,.slice Ay2 y.value.length cy2,.bool y.acc,.slice Ay3 y.conds.length cy3] by rw [hvi];exact HX2.out)
      clear hvi
      go_upto_region 8 with fail
      clear x2 xl2 va vb vc
      have q3:=(HB2.out.cell (p:=⟨g,off+k*7+3,none⟩) HG.out).trans Q3.out
      have zl:=HX2.out.lt
      go_wp2_with fail
      refine (HTA.out W2 HB2.out).mono ?_
      rintro e w7 ⟨B1,d1,rfl,kr,-,hb7⟩
      have hX7:=HX2.out.new_ hb7
      obtain ⟨W31,hW8⟩ : ∃W8,W8=w7.setCell ⟨wr.heap.size,3,none⟩ (.slice B1 LA.length d1):=⟨_,rfl⟩
      have HB31:=Lib.hid (show Below wr.heap.size wr W31 by rw [hW8];exact (HB2.out.trans (hb7.mono HB2.out.size)).setCell (Nat.le_refl _) _)
      have HX31:=Lib.hid (show Blk W31 wr.heap.size 50 #[.int .i64 y.kind,.bool y.goal,.string vi,.slice B1 LA.length d1,.slice Ay2 y.value.length cy2,.bool y.acc,.slice Ay3 y.conds.length cy3] by rw [hW8];exact hX7.set_ 3 _)
      have HK1:=Lib.hid (show RowR repTestT (NewD (wr.heap.size+1) W31) W31 B1 d1 LA by rw [hW8];exact (kr.newD (Below.refl _ _) zl).setBox 3 _)
      have u3:=(hX7.cell 3).trans rfl
      have g3:=hX7.frozen 3
      have xl7:=hX7.lt
      clear hX7 hb7 kr q3 zl HX2 HB2
      go_upto_region 9 with fail
      rw [← hW8]
      clear hW8 u3 g3 xl7
      have q4:=(HB31.out.cell (p:=⟨g,off+k*7+4,none⟩) HG.out).trans Q4.out
      have zl:=HX31.out.lt
      go_wp2_with fail
      refine (HTV.out W31 HB31.out).mono ?_
      rintro e w7 ⟨B2,d2,rfl,kr,-,hb7⟩
      have hX7:=HX31.out.new_ hb7
      obtain ⟨W32,hW8⟩ : ∃W8,W8=w7.setCell ⟨wr.heap.size,4,none⟩ (.slice B2 LV.length d2):=⟨_,rfl⟩
      have HB32:=Lib.hid (show Below wr.heap.size wr W32 by rw [hW8];exact (HB31.out.trans (hb7.mono HB31.out.size)).setCell (Nat.le_refl _) _)
      have HX32:=Lib.hid (show Blk W32 wr.heap.size 50 #[.int .i64 y.kind,.bool y.goal,.string vi,.slice B1 LA.length d1,.slice B2 LV.length d2,.bool y.acc,.slice Ay3 y.conds.length cy3] by rw [hW8];exact hX7.set_ 4 _)
      have HK2:=Lib.hid (show RowR repTestT (NewD (wr.heap.size+1) W32) W32 B2 d2 LV by rw [hW8];exact (kr.newD (Below.refl _ _) zl).setBox 4 _)
      have HK1:=Lib.hid (show RowR repTestT (NewD (wr.heap.size+1) W32) W32 B1 d1 LA by rw [hW8];exact (HK1.out.newD hb7 (Nat.le_refl _)).setBox 4 _)
      have u4:=(hX7.cell 4).trans rfl
      have g4:=hX7.frozen 4
      have xl7:=hX7.lt
      clear hX7 hb7 kr q4 zl HX31 HB31
      go_upto_region 10 with fail
      rw [← hW8]
      clear hW8 u4 g4 xl7
      have q6:=(HB32.out.cell (p:=⟨g,off+k*7+6,none⟩) HG.out).trans Q6.out
      have zl:=HX32.out.lt
      go_wp2_with fail
      refine (HTC.out W32 HB32.out).mono ?_
      rintro e w7 ⟨B3,d3,rfl,kr,-,hb7⟩
      have hX7:=HX32.out.new_ hb7
      obtain ⟨W33,hW8⟩ : ∃W8,W8=w7.setCell ⟨wr.heap.size,6,none⟩ (.slice B3 LC.length d3):=⟨_,rfl⟩
      have HB33:=Lib.hid (show Below wr.heap.size wr W33 by rw [hW8];exact (HB32.out.trans (hb7.mono HB32.out.size)).setCell (Nat.le_refl _) _)
      have HX33:=Lib.hid (show Blk W33 wr.heap.size 50 #[.int .i64 y.kind,.bool y.goal,.string vi,.slice B1 LA.length d1,.slice B2 LV.length d2,.bool y.acc,.slice B3 LC.length d3] by rw [hW8];exact hX7.set_ 6 _)
      have HK3:=Lib.hid (show RowR (repCondT m) (NewD (wr.heap.size+1) W33) W33 B3 d3 LC by rw [hW8];exact (kr.newD (Below.refl _ _) zl).setBox 6 _)
      have HK1:=Lib.hid (show RowR repTestT (NewD (wr.heap.size+1) W33) W33 B1 d1 LA by rw [hW8];exact (HK1.out.newD hb7 (Nat.le_refl _)).setBox 6 _)
      have HK2:=Lib.hid (show RowR repTestT (NewD (wr.heap.size+1) W33) W33 B2 d2 LV by rw [hW8];exact (HK2.out.newD hb7 (Nat.le_refl _)).setBox 6 _)
      have u6:=(hX7.cell 6).trans rfl
      have g6:=hX7.frozen 6
      have xl7:=hX7.lt
      clear hX7 hb7 kr q6 zl HX32 HB32
      go_upto_region 11 with fail
      rw [← hW8]
      clear hW8 u6 g6 xl7
      have h9:Below W33.heap.size W33 (W33.alloc (.cells #[.int .i64 y.kind,.bool y.goal,.string vi,.slice B1 LA.length d1,.slice B2 LV.length d2,.bool y.acc,.slice B3 LC.length d3] 50)):=(Below.refl _ _).alloc (Nat.le_refl _) _
      have hB5:=HB33.out
      have hB7:Below wr.heap.size wr (W33.alloc (.cells #[.int .i64 y.kind,.bool y.goal,.string vi,.slice B1 LA.length d1,.slice B2 LV.length d2,.bool y.acc,.slice B3 LC.length d3] 50)):=hB5.alloc hB5.size _
      have up : ∀j,NewD (wr.heap.size+1) W33 j→j<W33.heap.size→(Plus C wr (W33.alloc (.cells #[.int .i64 y.kind,.bool y.goal,.string vi,.slice B1 LA.length d1,.slice B2 LV.length d2,.bool y.acc,.slice B3 LC.length d3] 50))) j∧(W33.alloc (.cells #[.int .i64 y.kind,.bool y.goal,.string vi,.slice B1 LA.length d1,.slice B2 LV.length d2,.bool y.acc,.slice B3 LC.length d3] 50)).heap[j]? = W33.heap[j]?:=fun j hj hl=>⟨.inr ⟨by have:=hj.1;omega,by have:=hj.2;have:=h9.size;omega⟩,h9.block j hl⟩
      have hrep7:(repCondT (m+1)).rep (Plus C wr (W33.alloc (.cells #[.int .i64 y.kind,.bool y.goal,.string vi,.slice B1 LA.length d1,.slice B2 LV.length d2,.bool y.acc,.slice B3 LC.length d3] 50))) (W33.alloc (.cells #[.int .i64 y.kind,.bool y.goal,.string vi,.slice B1 LA.length d1,.slice B2 LV.length d2,.bool y.acc,.slice B3 LC.length d3] 50)) (condR t (m+1) y) [.int .i64 y.kind,.bool y.goal,.string vi,.slice B1 LA.length d1,.slice B2 LV.length d2,.bool y.acc,.slice B3 LC.length d3]:=by
       rw [HRR.out]
       exact rep_cond (n:=m) (y:=.mk y.kind y.goal vi LA LV y.acc LC) (HK1.out.keep h9.size up) (HK2.out.keep h9.size up) (HK3.out.keep h9.size up)
      have hown7:=H1.out.plus hB7
      have hcl : ∀j,Plus C wr (W33.alloc (.cells #[.int .i64 y.kind,.bool y.goal,.string vi,.slice B1 LA.length d1,.slice B2 LV.length d2,.bool y.acc,.slice B3 LC.length d3] 50)) j→j<(W33.alloc (.cells #[.int .i64 y.kind,.bool y.goal,.string vi,.slice B1 LA.length d1,.slice B2 LV.length d2,.bool y.acc,.slice B3 LC.length d3] 50)).heap.size:=fun j hj=>by
       rcases hj with hj | hj
       · have:=(H2.out j hj).2;have:=hB7.size;omega
       · exact hj.2
      obtain ⟨u0,u1,u2,u3,u4,u5,u6⟩:=HX33.out.c7
      have ul:=HX33.out.lt
      have HB7:=Lib.hid hB7
      have HOW:=Lib.hid hown7
      have HRE:=Lib.hid hrep7
      have HCL:=Lib.hid hcl
      have H63:=Lib.hid (show (L.take k).length+1≤maxLen by rw [HKL.out];unfold maxLen;omega)
      have HBY:=Lib.hid (show ((L.take k).length+1)*112≤140737488355328 by rw [HKL.out];omega)
      have HVV:=Lib.hid (show Value.slice A1 k c1 = .slice A1 (L.take k).length c1 by rw [HKL.out])
      clear h9 hB7 up hrep7 hown7 hcl hB5
      go_wp2_with (at_builtin;refine wpList_append_C _ rfl _ _ 22 rfl 50 j0 _ 7 112 Try.underlying22 hj0 hy0 hyy1 hyy2 rfl rfl (by omega) (Plus C wr (W33.alloc (.cells #[.int .i64 y.kind,.bool y.goal,.string vi,.slice B1 LA.length d1,.slice B2 LV.length d2,.bool y.acc,.slice B3 LC.length d3] 50))) HCL.out (.slice A1 (L.take k).length c1) (L.take k) HVV.out HOW.out ⟨W33.heap.size,0,none⟩ 1 (condR t (m+1) y) [.int .i64 y.kind,.bool y.goal,.string vi,.slice B1 LA.length d1,.slice B2 LV.length d2,.bool y.acc,.slice B3 LC.length d3] rfl (World.news_of_block (heap_alloc_new _ _)) (by intro u hu;simp only [List.mem_cons,List.not_mem_nil,or_false] at hu;rcases hu with rfl | rfl | rfl | rfl | rfl | rfl | rfl<;>rfl) HRE.out H63.out HBY.out ?_;intro v' w7 hap)
      have hfin:Copies (repCondT (m+1)) 50 w (L.take k ++ [condR t (m+1) y]) v' w7:=Copies.snoc H2.out H3.out H4.out HB7.out hap
      rw [HZ.out] at hfin
      go_roundw
      case rel=>exact ⟨k+1,by go_num,by omega,hfin⟩
      case measure=>simp [intOf];omega
    · have va:(y.id.toList == [])=false:=by simp [hv]
      have vb:y.id.toList.isEmpty=false:=by simp [hv]
      have vc:decide (y.id.toList = [])=false:=by simp [hv]
      have hvi:t y.id=vi:=by rw [HVI.out,oneR,if_neg hv]
      clear hv
      go_wp2_with fail
      refine (HID.out W2 HB2.out).mono ?_
      rintro e w7 ⟨rfl,hb7⟩
      rw [hvi]
      have hX7:=HX2.out.new_ hb7
      obtain ⟨W8,hW8⟩ : ∃W8,W8=w7.setCell ⟨wr.heap.size,2,none⟩ (.string vi):=⟨_,rfl⟩
      have HB8:=Lib.hid (show Below wr.heap.size wr W8 by rw [hW8];exact (HB2.out.trans (hb7.mono HB2.out.size)).setCell (Nat.le_refl _) _)
      have HX8:=Lib.hid (show Blk W8 wr.heap.size 50 #[.int .i64 y.kind,.bool y.goal,.string vi,.slice Ay1 y.attr.length cy1,.slice Ay2 y.value.length cy2,.bool y.acc,.slice Ay3 y.conds.length cy3] by rw [hW8];exact hX7.set_ 2 _)
      have u2:w7.cell? ⟨wr.heap.size,2,none⟩=some (.string y.id):=(hX7.cell 2).trans rfl
      have g2:=hX7.frozen 2
      have xl7:=hX7.lt
      clear hX7 hb7 hvi x2 xl2 va vb vc HX2 HB2
      go_upto_region 8 with fail
      rw [← hW8]
      clear hW8 u2 g2 xl7
      have q3:=(HB8.out.cell (p:=⟨g,off+k*7+3,none⟩) HG.out).trans Q3.out
      have zl:=HX8.out.lt
      go_wp2_with fail
      refine (HTA.out W8 HB8.out).mono ?_
      rintro e w7 ⟨B1,d1,rfl,kr,-,hb7⟩
      have hX7:=HX8.out.new_ hb7
      obtain ⟨W31,hW8⟩ : ∃W8,W8=w7.setCell ⟨wr.heap.size,3,none⟩ (.slice B1 LA.length d1):=⟨_,rfl⟩
      have HB31:=Lib.hid (show Below wr.heap.size wr W31 by rw [hW8];exact (HB8.out.trans (hb7.mono HB8.out.size)).setCell (Nat.le_refl _) _)
      have HX31:=Lib.hid (show Blk W31 wr.heap.size 50 #[.int .i64 y.kind,.bool y.goal,.string vi,.slice B1 LA.length d1,.slice Ay2 y.value.length cy2,.bool y.acc,.slice Ay3 y.conds.length cy3] by rw [hW8];exact hX7.set_ 3 _)
      have HK1:=Lib.hid (show RowR repTestT (NewD (wr.heap.size+1) W31) W31 B1 d1 LA by rw [hW8];exact (kr.newD (Below.refl _ _) zl).setBox 3 _)
      have u3:=(hX7.cell 3).trans rfl
      have g3:=hX7.frozen 3
      have xl7:=hX7.lt
      clear hX7 hb7 kr q3 zl HX8 HB8
      go_upto_region 9 with fail
      rw [← hW8]
      clear hW8 u3 g3 xl7
      have q4:=(HB31.out.cell (p:=⟨g,off+k*7+4,none⟩) HG.out).trans Q4.out
      have zl:=HX31.out.lt
      go_wp2_with fail
      refine (HTV.out W31 HB31.out).mono ?_
      rintro e w7 ⟨B2,d2,rfl,kr,-,hb7⟩
      have hX7:=HX31.out.new_ hb7
      obtain ⟨W32,hW8⟩ : ∃W8,W8=w7.setCell ⟨wr.heap.size,4,none⟩ (.slice B2 LV.length d2):=⟨_,rfl⟩
      have HB32:=Lib.hid (show Below wr.heap.size wr W32 by rw [hW8];exact (HB31.out.trans (hb7.mono HB31.out.size)).setCell (Nat.le_refl _) _)
      have HX32:=Lib.hid (show Blk W32 wr.heap.size 50 #[.int .i64 y.kind,.bool y.goal,.string vi,.slice B1 LA.length d1,.slice B2 LV.length d2,.bool y.acc,.slice Ay3 y.conds.length cy3] by rw [hW8];exact hX7.set_ 4 _)
      have HK2:=Lib.hid (show RowR repTestT (NewD (wr.heap.size+1) W32) W32 B2 d2 LV by rw [hW8];exact (kr.newD (Below.refl _ _) zl).setBox 4 _)
      have HK1:=Lib.hid (show RowR repTestT (NewD (wr.heap.size+1) W32) W32 B1 d1 LA by rw [hW8];exact (HK1.out.newD hb7 (Nat.le_refl _)).setBox 4 _)
      have u4:=(hX7.cell 4).trans rfl
      have g4:=hX7.frozen 4
      have xl7:=hX7.lt
      clear hX7 hb7 kr q4 zl HX31 HB31
      go_upto_region 10 with fail
      rw [← hW8]
      clear hW8 u4 g4 xl7
      have q6:=(HB32.out.cell (p:=⟨g,off+k*7+6,none⟩) HG.out).trans Q6.out
      have zl:=HX32.out.lt
      go_wp2_with fail
      refine (HTC.out W32 HB32.out).mono ?_
      rintro e w7 ⟨B3,d3,rfl,kr,-,hb7⟩
      have hX7:=HX32.out.new_ hb7
      obtain ⟨W33,hW8⟩ : ∃W8,W8=w7.setCell ⟨wr.heap.size,6,none⟩ (.slice B3 LC.length d3):=⟨_,rfl⟩
      have HB33:=Lib.hid (show Below wr.heap.size wr W33 by rw [hW8];exact (HB32.out.trans (hb7.mono HB32.out.size)).setCell (Nat.le_refl _) _)
      have HX33:=Lib.hid (show Blk W33 wr.heap.size 50 #[.int .i64 y.kind,.bool y.goal,.string vi,.slice B1 LA.length d1,.slice B2 LV.length d2,.bool y.acc,.slice B3 LC.length d3] by rw [hW8];exact hX7.set_ 6 _)
      have HK3:=Lib.hid (show RowR (repCondT m) (NewD (wr.heap.size+1) W33) W33 B3 d3 LC by rw [hW8];exact (kr.newD (Below.refl _ _) zl).setBox 6 _)
      have HK1:=Lib.hid (show RowR repTestT (NewD (wr.heap.size+1) W33) W33 B1 d1 LA by rw [hW8];exact (HK1.out.newD hb7 (Nat.le_refl _)).setBox 6 _)
      have HK2:=Lib.hid (show RowR repTestT (NewD (wr.heap.size+1) W33) W33 B2 d2 LV by rw [hW8];exact (HK2.out.newD hb7 (Nat.le_refl _)).setBox 6 _)
      have u6:=(hX7.cell 6).trans rfl
      have g6:=hX7.frozen 6
      have xl7:=hX7.lt
      clear hX7 hb7 kr q6 zl HX32 HB32
      go_upto_region 11 with fail
      rw [← hW8]
      clear hW8 u6 g6 xl7
      have h9:Below W33.heap.size W33 (W33.alloc (.cells #[.int .i64 y.kind,.bool y.goal,.string vi,.slice B1 LA.length d1,.slice B2 LV.length d2,.bool y.acc,.slice B3 LC.length d3] 50)):=(Below.refl _ _).alloc (Nat.le_refl _) _
      have hB5:=HB33.out
      have hB7:Below wr.heap.size wr (W33.alloc (.cells #[.int .i64 y.kind,.bool y.goal,.string vi,.slice B1 LA.length d1,.slice B2 LV.length d2,.bool y.acc,.slice B3 LC.length d3] 50)):=hB5.alloc hB5.size _
      have up : ∀j,NewD (wr.heap.size+1) W33 j→j<W33.heap.size→(Plus C wr (W33.alloc (.cells #[.int .i64 y.kind,.bool y.goal,.string vi,.slice B1 LA.length d1,.slice B2 LV.length d2,.bool y.acc,.slice B3 LC.length d3] 50))) j∧(W33.alloc (.cells #[.int .i64 y.kind,.bool y.goal,.string vi,.slice B1 LA.length d1,.slice B2 LV.length d2,.bool y.acc,.slice B3 LC.length d3] 50)).heap[j]? = W33.heap[j]?:=fun j hj hl=>⟨.inr ⟨by have:=hj.1;omega,by have:=hj.2;have:=h9.size;omega⟩,h9.block j hl⟩
      have hrep7:(repCondT (m+1)).rep (Plus C wr (W33.alloc (.cells #[.int .i64 y.kind,.bool y.goal,.string vi,.slice B1 LA.length d1,.slice B2 LV.length d2,.bool y.acc,.slice B3 LC.length d3] 50))) (W33.alloc (.cells #[.int .i64 y.kind,.bool y.goal,.string vi,.slice B1 LA.length d1,.slice B2 LV.length d2,.bool y.acc,.slice B3 LC.length d3] 50)) (condR t (m+1) y) [.int .i64 y.kind,.bool y.goal,.string vi,.slice B1 LA.length d1,.slice B2 LV.length d2,.bool y.acc,.slice B3 LC.length d3]:=by
       rw [HRR.out]
       exact rep_cond (n:=m) (y:=.mk y.kind y.goal vi LA LV y.acc LC) (HK1.out.keep h9.size up) (HK2.out.keep h9.size up) (HK3.out.keep h9.size up)
      have hown7:=H1.out.plus hB7
      have hcl : ∀j,Plus C wr (W33.alloc (.cells #[.int .i64 y.kind,.bool y.goal,.string vi,.slice B1 LA.length d1,.slice B2 LV.length d2,.bool y.acc,.slice B3 LC.length d3] 50)) j→j<(W33.alloc (.cells #[.int .i64 y.kind,.bool y.goal,.string vi,.slice B1 LA.length d1,.slice B2 LV.length d2,.bool y.acc,.slice B3 LC.length d3] 50)).heap.size:=fun j hj=>by
       rcases hj with hj | hj
       · have:=(H2.out j hj).2;have:=hB7.size;omega
       · exact hj.2
      obtain ⟨u0,u1,u2,u3,u4,u5,u6⟩:=HX33.out.c7
      have ul:=HX33.out.lt
      have HB7:=Lib.hid hB7
      have HOW:=Lib.hid hown7
      have HRE:=Lib.hid hrep7
      have HCL:=Lib.hid hcl
      have H63:=Lib.hid (show (L.take k).length+1≤maxLen by rw [HKL.out];unfold maxLen;omega)
      have HBY:=Lib.hid (show ((L.take k).length+1)*112≤140737488355328 by rw [HKL.out];omega)
      have HVV:=Lib.hid (show Value.slice A1 k c1 = .slice A1 (L.take k).length c1 by rw [HKL.out])
      clear h9 hB7 up hrep7 hown7 hcl hB5
      go_wp2_with (at_builtin;refine wpList_append_C _ rfl _ _ 22 rfl 50 j0 _ 7 112 Try.underlying22 hj0 hy0 hyy1 hyy2 rfl rfl (by omega) (Plus C wr (W33.alloc (.cells #[.int .i64 y.kind,.bool y.goal,.string vi,.slice B1 LA.length d1,.slice B2 LV.length d2,.bool y.acc,.slice B3 LC.length d3] 50))) HCL.out (.slice A1 (L.take k).length c1) (L.take k) HVV.out HOW.out ⟨W33.heap.size,0,none⟩ 1 (condR t (m+1) y) [.int .i64 y.kind,.bool y.goal,.string vi,.slice B1 LA.length d1,.slice B2 LV.length d2,.bool y.acc,.slice B3 LC.length d3] rfl (World.news_of_block (heap_alloc_new _ _)) (by intro u hu;simp only [List.mem_cons,List.not_mem_nil,or_false] at hu;rcases hu with rfl | rfl | rfl | rfl | rfl | rfl | rfl<;>rfl) HRE.out H63.out HBY.out ?_;intro v' w7 hap)
      have hfin:Copies (repCondT (m+1)) 50 w (L.take k ++ [condR t (m+1) y]) v' w7:=Copies.snoc H2.out H3.out H4.out HB7.out hap
      rw [HZ.out] at hfin
      go_roundw
      case rel=>exact ⟨k+1,by go_num,by omega,hfin⟩
      case measure=>simp [intOf];omega
  · obtain rfl:k=l.length:=by omega
    have hfin:=Copies.done ⟨C,A1,c1,rfl,h1,h2,h3,h4⟩
    rw [show l.length=L.length from HLL.out.symm,List.take_length,HLL.out] at hfin
    have HF:=Lib.hid hfin
    clear h1 h2 h3 h4 hfin
    go_wp2_with fail
    go_ret
    exact HF.out
theorem rconds_all {N I:Value} {w0:World} {t:ByteArray→ByteArray} (hN:OtherOk N I w0 t) : ∀n,RCSpec N I w0 t n
 | 0=>rconds_step hN 0 (fun m h=>by omega)
 | n+1=>rconds_step hN (n+1) (fun m h=>by obtain rfl:n=m:=by omega
                                          exact rconds_all hN n)
end Go.Proofs.Ytffemfglngikbaa
namespace Go.Proofs.Ytffemfglngikbaa
open Go.RowKit Go.Shelf
set_option maxRecDepth 100000 in
set_option maxHeartbeats 32000000 in
theorem rrename_is {N I:Value} {w0:World} {t:ByteArray→ByteArray} (hN:OtherOk N I w0 t) (n:Nat) (p:ProdT) (A1:Option Addr) (c1:Nat) (A2:Option Addr) (c2:Nat) {D:Nat→Prop} (w:World) (hw:Below w0.heap.size w0 w)
 (h1:RowR (repCondT n) D w A1 c1 p.conds) (h2:RowR repActT D w A2 c2 p.acts) (hl1:p.conds.length≤1000) (hl2:p.acts.length≤1000) (hs : ∀x∈p.conds,SmC n x) :
 Calls Try.prog 19 #[.agg #[.string p.name,.slice A1 p.conds.length c1,.slice A2 p.acts.length c2],N,I] w (FreshP n (prodR t n p) w):=by
 obtain ⟨i0,hi0,hz0,hz1,hz2⟩:=infp inf_Act
 obtain ⟨L,hL⟩ : ∃l,l=p.conds.map (condR t n):=⟨_,rfl⟩
 obtain ⟨M,hM⟩ : ∃l,l=p.acts.map (actR t):=⟨_,rfl⟩
 have HR:=Lib.hid (show prodR t n p=⟨p.name,L,M⟩ by rw [hL,hM];rfl)
 have HML:=Lib.hid (show M.length=p.acts.length by rw [hM,List.length_map])
 have HMG:=Lib.hid (show ∀k,(h:k<p.acts.length)→∃h':k<M.length,M[k]=actR t p.acts[k] from fun k h=>⟨by rw [hM,List.length_map];exact h,by simp [hM]⟩)
 have HTC:=Lib.hid (show ∀W,Below w.heap.size w W→Calls Try.prog 38 #[.slice A1 p.conds.length c1,N,I] W (FreshR (repCondT n) L W) from fun W hW=>by rw [hL];exact rconds_all hN n A1 c1 p.conds D W (hw.trans (hW.mono hw.size)) (h1.new_ hW) hl1 hs)
 have HNN:=Lib.hid hN
 have H2:=Lib.hid h2
 have HW0:=Lib.hid hw
 have hac:=h2.cap
 clear hL hM hN hs h1 h2 hw
 go_enter Try.func19,Try.ntmps19
 go_upto_region 1 with fail
 obtain ⟨W1,hW1⟩ : ∃W1,W1=(w.alloc (.cells #[.string p.name,.slice A1 p.conds.length c1,.slice A2 p.acts.length c2] 25)).alloc (.cells #[.string ⟨#[]⟩,.slice none 0 0,.slice none 0 0] 25):=⟨_,rfl⟩
 have hB1:Below w.heap.size w W1:=by rw [hW1];exact ((Below.refl _ _).alloc (Nat.le_refl _) _).alloc (by simp) _
 have hX1:Blk W1 w.heap.size 25 #[.string p.name,.slice A1 p.conds.length c1,.slice A2 p.acts.length c2]:=by rw [hW1];exact (Blk.new _ _ _).alloc _
 have hR1:Blk W1 (w.heap.size+1) 25 #[.string ⟨#[]⟩,.slice none 0 0,.slice none 0 0]:=by rw [hW1];have:=Blk.new (w.alloc (.cells #[.string p.name,.slice A1 p.conds.length c1,.slice A2 p.acts.length c2] 25)) 25 #[.string ⟨#[]⟩,.slice none 0 0,.slice none 0 0];simpa using this
 have hz1w:W1.heap.size=w.heap.size+2:=by rw [hW1];simp
 rw [← hW1]
 clear hW1
 obtain ⟨p0,p1,p2⟩:=hX1.c3
 have HB1:=Lib.hid hB1
 have HX1:=Lib.hid hX1
 have HR1:=Lib.hid hR1
 have HZ1:=Lib.hid hz1w
 have HWZ:=Lib.hid (show w.heap.size≤W1.heap.size by omega)
 have hxl1:=hX1.lt
 clear hB1 hX1 hR1 hz1w
 go_cut [7] from 10 (fun q wc=>∃g E1 d1,q = .pointer (some ⟨g,0,none⟩)∧W1.heap.size≤g∧Blk wc g 25 #[.string p.name,.slice E1 L.length d1,.slice none 0 0]∧Below W1.heap.size W1 wc∧RowR (repCondT n) (Ex W1 wc g) wc E1 d1 L)
 case first=>
  refine wp_region_Pl (fun w9=>Below W1.heap.size W1 w9) [0,1,2,3,4,5,7] [1,3] (.fork [(0,0),(1,1),(2,0),(3,1),(4,0),(5,0)] 6 (.fin [(7,0),(8,2),(9,2)]) 8 (.fin [(6,2),(7,0),(9,2)])) (by kernel_rfl) (by kernel_rfl) (by kernel_rfl) (fun KK hKK=>?_)
  simp only [wpPl,beside,List.filterMap_cons,List.filterMap_nil,List.getElem?_toArray,List.getElem?_cons_zero,List.getElem?_cons_succ,Option.map_some]
  repeat ((first | (refine wpY_w ?_ (Or.inl ⟨by rfl,fun w9=>?_⟩) ?_;rotate_left 1;go_simp;with_reducible rfl) | (refine wpY_l ?_ ((Below.refl _ _).drew) (Or.inl ⟨by rfl,fun w9 hw9=>?_⟩) ?_;rotate_left 1;obtain ⟨hc9,hf9⟩:=bcell hw9;go_simp;with_reducible rfl) | refine wpY_w undef (Or.inr ⟨by rfl,rfl⟩) ?_ | refine wpY_l undef ((Below.refl _ _).drew) (Or.inr ⟨by rfl,rfl⟩) ?_);go_frame)
  refine wpY_nil ⟨?_,?_⟩
  · refine wpOp_cs rfl (fun K9 hK9=>?_)
    go_simp
    refine (HTC.out _ (HB1.out.trans (((Below.refl W1.heap.size W1).drew).mono HWZ.out))).mono ?_
    rintro e wC ⟨BC,dC,rfl,hr,-,hb⟩
    obtain ⟨DC,hr2,hl2⟩ : ∃D:Nat→Prop,RowR (repCondT n) D wC BC dC L∧(∀j,D j→(W1.drew).heap.size≤j∧j<wC.heap.size):=⟨_,hr,fun j hj=>hj⟩
    have RC:=Lib.hid hr2
    have MC:=Lib.hid (show ∀j,DC j→W1.heap.size≤j∧j<wC.heap.size from fun j hj=>⟨Nat.le_trans ((Below.refl W1.heap.size W1).drew).size (hl2 j hj).1,(hl2 j hj).2⟩)
    have HBCx:=Lib.hid (((Below.refl W1.heap.size W1).drew).trans (hb.mono ((Below.refl W1.heap.size W1).drew).size))
    clear hr hr2 hl2 hb
    refine hK9 _ _ (fun _=>HBCx.out) ?_
    clear hK9 K9
    try go_frame
    try simp only [beside,List.filterMap_nil]
    repeat ((first | (refine wpY_w ?_ (Or.inl ⟨by rfl,fun w9=>?_⟩) ?_;rotate_left 1;go_simp;with_reducible rfl) | (refine wpY_l ?_ (HBCx.out) (Or.inl ⟨by rfl,fun w9 hw9=>?_⟩) ?_;rotate_left 1;obtain ⟨hc9,hf9⟩:=bcell hw9;go_simp;with_reducible rfl) | refine wpY_w undef (Or.inr ⟨by rfl,rfl⟩) ?_ | refine wpY_l undef (HBCx.out) (Or.inr ⟨by rfl,rfl⟩) ?_);go_frame)
    refine wpY_es (fun K9 hK9=>?_)
    go_simp
    have hb:Below wC.heap.size wC (wC.alloc (.cells #[.string ⟨#[]⟩,.slice none 0 0,.slice none 0 0] 25)):=(Below.refl _ _).alloc (Nat.le_refl _) _
    have NC:=Lib.hid (show ∀j,DC j→j≠wC.heap.size from fun j hj e=>by have h1:=(MC.out j hj).2;omega)
    have RC:=Lib.hid (RC.out.new_ hb)
    have MC:=Lib.hid (fun j hj=>And.intro (MC.out j hj).1 (Nat.lt_of_lt_of_le (MC.out j hj).2 (hb).size))
    have HK:=Lib.hid (show Blk (wC.alloc (.cells #[.string ⟨#[]⟩,.slice none 0 0,.slice none 0 0] 25)) wC.heap.size 25 #[.string ⟨#[]⟩,.slice none 0 0,.slice none 0 0] from Blk.new _ _ _)
    have HGE:=Lib.hid (show W1.heap.size≤wC.heap.size from (HBCx.out).size)
    have HBg:=Lib.hid ((HBCx.out).trans (hb.mono (HBCx.out).size))
    clear hb
    refine hK9 _ _ (HBg.out) ?_
    clear hK9 K9
    try go_frame
    refine wpY_es (fun K9 hK9=>?_)
    refine step_store_el rfl 25 _ _ rfl wC.heap.size 0 #[Value.string p.name,Value.slice BC L.length dC,Value.slice none 0 0] rfl rfl (show _ from HK.out.there) (by kernel_rfl) (by kernel_rfl) ?_
    refine hK9 _ _ (Below.setCells' _ _ (HBg.out) HGE.out) ?_
    clear hK9 K9
    try go_frame
    refine wpY_nil ?_
    simp only [OnlyN_normal]
    refine hKK _ _ ?_
    clear hKK KK
    go_wp2_with fail
    go_meet
    case rel=>exact ⟨wC.heap.size,BC,dC,rfl,HGE.out,HK.out.setAllC rfl,Below.setCells' _ _ (HBg.out) HGE.out,(RC.out.keep (by rw [size_setCells];omega) (fun j hj _=>⟨⟨(MC.out j hj).1,by rw [size_setCells];exact (MC.out j hj).2,NC.out j hj⟩,blk_setCells _ _ _ _ _ (NC.out j hj)⟩))⟩
  · refine wpOp_cs rfl (fun K9 hK9=>?_)
    go_simp
    have hb:Below W1.drew.heap.size W1.drew (W1.drew.alloc (.cells #[.string ⟨#[]⟩,.slice none 0 0,.slice none 0 0] 25)):=(Below.refl _ _).alloc (Nat.le_refl _) _
    have HK:=Lib.hid (show Blk (W1.drew.alloc (.cells #[.string ⟨#[]⟩,.slice none 0 0,.slice none 0 0] 25)) W1.heap.size 25 #[.string ⟨#[]⟩,.slice none 0 0,.slice none 0 0] from Blk.new _ _ _)
    have HGE:=Lib.hid (show W1.heap.size≤W1.heap.size from ((Below.refl W1.heap.size W1).drew).size)
    have HBg:=Lib.hid (((Below.refl W1.heap.size W1).drew).trans (hb.mono ((Below.refl W1.heap.size W1).drew).size))
    clear hb
    refine hK9 _ _ (fun _=>HBg.out) ?_
    clear hK9 K9
    try go_frame
    try simp only [beside,List.filterMap_nil]
    refine wpY_es (fun K9 hK9=>?_)
    go_simp
    refine (HTC.out _ (HB1.out.trans ((HBg.out).mono HWZ.out))).mono ?_
    rintro e wC ⟨BC,dC,rfl,hr,-,hb⟩
    obtain ⟨DC,hr2,hl2⟩ : ∃D:Nat→Prop,RowR (repCondT n) D wC BC dC L∧(∀j,D j→((W1.drew.alloc (.cells #[.string ⟨#[]⟩,.slice none 0 0,.slice none 0 0] 25))).heap.size≤j∧j<wC.heap.size):=⟨_,hr,fun j hj=>hj⟩
    have NC:=Lib.hid (show ∀j,DC j→j≠W1.heap.size from fun j hj e=>by have h1:=(hl2 j hj).1;have h2:=HK.out.lt;omega)
    have HK:=Lib.hid (HK.out.new_ hb)
    have RC:=Lib.hid hr2
    have MC:=Lib.hid (show ∀j,DC j→W1.heap.size≤j∧j<wC.heap.size from fun j hj=>⟨Nat.le_trans (HBg.out).size (hl2 j hj).1,(hl2 j hj).2⟩)
    have HBCx:=Lib.hid ((HBg.out).trans (hb.mono (HBg.out).size))
    clear hr hr2 hl2 hb
    refine hK9 _ _ (HBCx.out) ?_
    clear hK9 K9
    try go_frame
    repeat ((first | (refine wpY_w ?_ (Or.inl ⟨by rfl,fun w9=>?_⟩) ?_;rotate_left 1;go_simp;with_reducible rfl) | (refine wpY_l ?_ (HBCx.out) (Or.inl ⟨by rfl,fun w9 hw9=>?_⟩) ?_;rotate_left 1;obtain ⟨hc9,hf9⟩:=bcell hw9;go_simp;with_reducible rfl) | refine wpY_w undef (Or.inr ⟨by rfl,rfl⟩) ?_ | refine wpY_l undef (HBCx.out) (Or.inr ⟨by rfl,rfl⟩) ?_);go_frame)
    refine wpY_es (fun K9 hK9=>?_)
    refine step_store_el rfl 25 _ _ rfl W1.heap.size 0 #[Value.string p.name,Value.slice BC L.length dC,Value.slice none 0 0] rfl rfl (show _ from HK.out.there) (by kernel_rfl) (by kernel_rfl) ?_
    refine hK9 _ _ (Below.setCells' _ _ (HBCx.out) HGE.out) ?_
    clear hK9 K9
    try go_frame
    refine wpY_nil ?_
    simp only [OnlyN_normal]
    refine hKK _ _ ?_
    clear hKK KK
    go_wp2_with fail
    go_meet
    case rel=>exact ⟨W1.heap.size,BC,dC,rfl,HGE.out,HK.out.setAllC rfl,Below.setCells' _ _ (HBCx.out) HGE.out,(RC.out.keep (by rw [size_setCells];omega) (fun j hj _=>⟨⟨(MC.out j hj).1,by rw [size_setCells];exact (MC.out j hj).2,NC.out j hj⟩,blk_setCells _ _ _ _ _ (NC.out j hj)⟩))⟩
 case rest=>
  obtain ⟨g,E1,d1,rfl,hg,hG,hB,t1⟩:=hcut
  obtain ⟨wm,hwm⟩ : ∃wm,wm=wc:=⟨_,rfl⟩
  rw [← hwm] at hG hB t1 ⊢
  clear hwm
  have HROW:=Lib.hid t1
  have HBW:=Lib.hid (HB1.out.trans (hB.mono HWZ.out))
  have HXM:=Lib.hid (HX1.out.below hB (by have:=HZ1.out;omega))
  have HRB:=Lib.hid (HR1.out.below hB (by have:=HZ1.out;omega))
  have HGM:=Lib.hid hG.lt
  have HGG:=Lib.hid hg
  have H0A:=Lib.hid (show PA g p L M wm E1 d1 0 none 0 wm from ⟨hG,Fr.refl _ _,owns_nilC _ _ _,AIn.none_ _⟩)
  clear hg hG hB t1 p0 p1 p2 hxl1
  go_wp2_with fail
  go_loopw [8] (fun s wr=>∃(i:Nat) (A:Option Addr) (c:Nat),s = .int .i64 i∧i≤p.acts.length∧PA g p L M wm E1 d1 i A c wr) (fun s wr=>p.acts.length - (intOf s).toNat)
  case atStart=>exact ⟨0,none,0,rfl,Nat.zero_le _,H0A.out⟩
  case round=>
   obtain ⟨i,A,c,rfl,hi,hPA⟩:=hrel
   have HPA:=Lib.hid hPA
   have HFR:=Lib.hid (show Below w.heap.size w wr from HBW.out.trans (hPA.2.1.below HBW.out.size (fun j hj e=>by subst e;have:=HGG.out;have:=HZ1.out;omega)))
   have hXR:=HXM.out.fr hPA.2.1 (fun e=>by have:=HGG.out;have:=HZ1.out;omega)
   have p2:wr.cell? ⟨w.heap.size,2,none⟩=some (.slice A2 p.acts.length c2):=(hXR.cell 2).trans rfl
   have xz:=hXR.lt
   clear hPA hXR
   by_cases hlt:i<p.acts.length
   · skip
     obtain ⟨y,hy⟩ : ∃y,y=p.acts[i]:=⟨_,rfl⟩
     obtain ⟨ga,off,hAA,_,hga,_⟩:=at_ActT (H2.out.new_ HFR.out) hlt
     subst hAA
     have HY:=Lib.hid hy
     have b1:(0:Int)≤(i:Int):=by omega
     have b2:(i:Int)<(p.acts.length:Int):=by omega
     have HRG:=Lib.hid (show wr.rangeAt ga (off+i*19) [.string y.id,.string y.attr.var,.int .i64 y.attr.sym.kind,.string y.attr.sym.text,.int .i64 y.attr.sym.n,.int .i64 y.value.op,.string y.value.a.var,.int .i64 y.value.a.sym.kind,.string y.value.a.sym.text,.int .i64 y.value.a.sym.n,.string y.value.b.var,.int .i64 y.value.b.sym.kind,.string y.value.b.sym.text,.int .i64 y.value.b.sym.n,.int .i64 y.pref,.string y.other.var,.int .i64 y.other.sym.kind,.string y.other.sym.text,.int .i64 y.other.sym.n] from fun j v hv=>by
      obtain ⟨g',off',cs,e1,_,_,hr,hc⟩:=(H2.out.new_ HFR.out).at_ hlt
      cases e1
      have hr2:cs=ActT.cells p.acts[i]:=hr
      subst hr2
      rw [← HY.out] at hc
      exact hc j v hv)
     have HTH:=Lib.hid (show (wr.alloc (.cells #[.string ⟨#[]⟩,.string ⟨#[]⟩,.int .i64 0,.string ⟨#[]⟩,.int .i64 0,.int .i64 0,.string ⟨#[]⟩,.int .i64 0,.string ⟨#[]⟩,.int .i64 0,.string ⟨#[]⟩,.int .i64 0,.string ⟨#[]⟩,.int .i64 0,.int .i64 0,.string ⟨#[]⟩,.int .i64 0,.string ⟨#[]⟩,.int .i64 0] 58)).there wr.heap.size 0 (#[.string y.id,.string y.attr.var,.int .i64 y.attr.sym.kind,.string y.attr.sym.text,.int .i64 y.attr.sym.n,.int .i64 y.value.op,.string y.value.a.var,.int .i64 y.value.a.sym.kind,.string y.value.a.sym.text,.int .i64 y.value.a.sym.n,.string y.value.b.var,.int .i64 y.value.b.sym.kind,.string y.value.b.sym.text,.int .i64 y.value.b.sym.n,.int .i64 y.pref,.string y.other.var,.int .i64 y.other.sym.kind,.string y.other.sym.text,.int .i64 y.other.sym.n]:Array Value).size from (Blk.new wr 58 #[.string ⟨#[]⟩,.string ⟨#[]⟩,.int .i64 0,.string ⟨#[]⟩,.int .i64 0,.int .i64 0,.string ⟨#[]⟩,.int .i64 0,.string ⟨#[]⟩,.int .i64 0,.string ⟨#[]⟩,.int .i64 0,.string ⟨#[]⟩,.int .i64 0,.int .i64 0,.string ⟨#[]⟩,.int .i64 0,.string ⟨#[]⟩,.int .i64 0]).there)
     obtain ⟨W5,hW5⟩ : ∃W5,W5=(wr.alloc (.cells #[.string ⟨#[]⟩,.string ⟨#[]⟩,.int .i64 0,.string ⟨#[]⟩,.int .i64 0,.int .i64 0,.string ⟨#[]⟩,.int .i64 0,.string ⟨#[]⟩,.int .i64 0,.string ⟨#[]⟩,.int .i64 0,.string ⟨#[]⟩,.int .i64 0,.int .i64 0,.string ⟨#[]⟩,.int .i64 0,.string ⟨#[]⟩,.int .i64 0] 58)).setCells wr.heap.size 0 [.string y.id,.string y.attr.var,.int .i64 y.attr.sym.kind,.string y.attr.sym.text,.int .i64 y.attr.sym.n,.int .i64 y.value.op,.string y.value.a.var,.int .i64 y.value.a.sym.kind,.string y.value.a.sym.text,.int .i64 y.value.a.sym.n,.string y.value.b.var,.int .i64 y.value.b.sym.kind,.string y.value.b.sym.text,.int .i64 y.value.b.sym.n,.int .i64 y.pref,.string y.other.var,.int .i64 y.other.sym.kind,.string y.other.sym.text,.int .i64 y.other.sym.n]:=⟨_,rfl⟩
     have HW5:=Lib.hid hW5
     have KB:=Lib.hid (show Blk W5 wr.heap.size 58 #[.string y.id,.string y.attr.var,.int .i64 y.attr.sym.kind,.string y.attr.sym.text,.int .i64 y.attr.sym.n,.int .i64 y.value.op,.string y.value.a.var,.int .i64 y.value.a.sym.kind,.string y.value.a.sym.text,.int .i64 y.value.a.sym.n,.string y.value.b.var,.int .i64 y.value.b.sym.kind,.string y.value.b.sym.text,.int .i64 y.value.b.sym.n,.int .i64 y.pref,.string y.other.var,.int .i64 y.other.sym.kind,.string y.other.sym.text,.int .i64 y.other.sym.n] by rw [hW5];exact (Blk.new wr 58 #[.string ⟨#[]⟩,.string ⟨#[]⟩,.int .i64 0,.string ⟨#[]⟩,.int .i64 0,.int .i64 0,.string ⟨#[]⟩,.int .i64 0,.string ⟨#[]⟩,.int .i64 0,.string ⟨#[]⟩,.int .i64 0,.string ⟨#[]⟩,.int .i64 0,.int .i64 0,.string ⟨#[]⟩,.int .i64 0,.string ⟨#[]⟩,.int .i64 0]).setAllC rfl)
     have HBV:=Lib.hid (show Below wr.heap.size wr W5 by rw [hW5];exact Below.setCells' _ _ ((Below.refl _ _).alloc (Nat.le_refl _) _) (Nat.le_refl _))
     obtain ⟨vi,hvi⟩ : ∃v,v=oneR t y.id:=⟨_,rfl⟩
     have HVI:=Lib.hid hvi
     have HZZ:=Lib.hid (show M.take i ++ [(⟨vi,atomR t y.attr,⟨y.value.op,atomR t y.value.a,atomR t y.value.b⟩,y.pref,atomR t y.other⟩:ActT)]=M.take (i+1) by
      obtain ⟨h',e⟩:=HMG.out i hlt
      have e2:(⟨vi,atomR t y.attr,⟨y.value.op,atomR t y.value.a,atomR t y.value.b⟩,y.pref,atomR t y.other⟩:ActT)=M[i]:=by rw [e,← hy,hvi];rfl
      rw [e2]
      exact take_snoc h')
     have HW0R:=Lib.hid (HW0.out.trans (HFR.out.mono HW0.out.size))
     have HON:=Lib.hid (show ∀v W,Below wr.heap.size wr W→_ from fun v W hW=>HNN.out v W (HW0R.out.trans (hW.mono HW0R.out.size)))
     have HAT:=Lib.hid (show ∀a W,Below wr.heap.size wr W→_ from fun a W hW=>ratomR_is HNN.out a W (HW0R.out.trans (hW.mono HW0R.out.size)))
     clear hy hW5 hvi
     go_upto_region 6 with (first
      | (with_reducible refine wpList_load_mid rfl 58 _ rfl ga (off+i*19) rfl [.string y.id,.string y.attr.var,.int .i64 y.attr.sym.kind,.string y.attr.sym.text,.int .i64 y.attr.sym.n,.int .i64 y.value.op,.string y.value.a.var,.int .i64 y.value.a.sym.kind,.string y.value.a.sym.text,.int .i64 y.value.a.sym.n,.string y.value.b.var,.int .i64 y.value.b.sym.kind,.string y.value.b.sym.text,.int .i64 y.value.b.sym.n,.int .i64 y.pref,.string y.other.var,.int .i64 y.other.sym.kind,.string y.other.sym.text,.int .i64 y.other.sym.n] _ HRG.out Try.underlying58 rfl (by kernel_rfl) ?_)
      | ((with_reducible refine wpList_store_mid rfl 58 _ _ rfl wr.heap.size 0 #[.string y.id,.string y.attr.var,.int .i64 y.attr.sym.kind,.string y.attr.sym.text,.int .i64 y.attr.sym.n,.int .i64 y.value.op,.string y.value.a.var,.int .i64 y.value.a.sym.kind,.string y.value.a.sym.text,.int .i64 y.value.a.sym.n,.string y.value.b.var,.int .i64 y.value.b.sym.kind,.string y.value.b.sym.text,.int .i64 y.value.b.sym.n,.int .i64 y.pref,.string y.other.var,.int .i64 y.other.sym.kind,.string y.other.sym.text,.int .i64 y.other.sym.n] rfl rfl HTH.out (by kernel_rfl) (by kernel_rfl) ?_);rw [← HW5.out]))
     clear HRG HTH HW5 p2 xz
     have e0:W5.cell? ⟨wr.heap.size,0,none⟩=some (.string y.id):=(KB.out.cell 0).trans rfl
     have ez:=KB.out.lt
     by_cases hv:y.id.toList = []
     · have va:(y.id.toList == [])=true:=by simp [hv]
       have vb:y.id.toList.isEmpty=true:=by simp [hv]
       have vc:decide (y.id.toList = [])=true:=by simp [hv]
       have hvi:vi=y.id:=by rw [HVI.out,oneR,if_pos hv,← empty_of hv]
       have KB:=Lib.hid (show Blk W5 wr.heap.size 58 #[.string vi,.string y.attr.var,.int .i64 y.attr.sym.kind,.string y.attr.sym.text,.int .i64 y.attr.sym.n,.int .i64 y.value.op,.string y.value.a.var,.int .i64 y.value.a.sym.kind,.string y.value.a.sym.text,.int .i64 y.value.a.sym.n,.string y.value.b.var,.int .i64 y.value.b.sym.kind,.string y.value.b.sym.text,.int .i64 y.value.b.sym.n,.int .i64 y.pref,.string y.other.var,.int .i64 y.other.sym.kind,.string y.other.sym.text,.int .i64 y.other.sym.n] by rw [hvi];exact KB.out)
       clear hv hvi
       go_upto_region 8 with fail
       clear e0 ez va vb vc
       have e1:W5.cell? ⟨wr.heap.size,1,none⟩=some (.string y.attr.var):=(KB.out.cell 1).trans rfl
       have e2:W5.cell? ⟨wr.heap.size,2,none⟩=some (.int .i64 y.attr.sym.kind):=(KB.out.cell 2).trans rfl
       have e3:W5.cell? ⟨wr.heap.size,3,none⟩=some (.string y.attr.sym.text):=(KB.out.cell 3).trans rfl
       have e4:W5.cell? ⟨wr.heap.size,4,none⟩=some (.int .i64 y.attr.sym.n):=(KB.out.cell 4).trans rfl
       have ez:=KB.out.lt
       go_wp2_with fail
       refine (HAT.out y.attr W5 (HBV.out)).mono ?_
       rintro e v1 ⟨rfl,hb⟩
       clear ez e1 e2 e3 e4
       have KB:=Lib.hid (KB.out.new_ hb)
       have HBV:=Lib.hid (HBV.out.trans (hb.mono HBV.out.size))
       obtain ⟨V1,hV1⟩ : ∃W,W=v1.setCells wr.heap.size 1 [Value.string (oneR t y.attr.var),Value.int IntKind.i64 y.attr.sym.kind,Value.string y.attr.sym.text,Value.int IntKind.i64 y.attr.sym.n]:=⟨_,rfl⟩
       have HTH:=Lib.hid (show v1.there wr.heap.size 1 (#[.string (oneR t y.attr.var),.int .i64 y.attr.sym.kind,.string y.attr.sym.text,.int .i64 y.attr.sym.n]:Array Value).size from there_of KB.out (by simp))
       have HV1:=Lib.hid hV1
       have KB:=Lib.hid (show Blk V1 wr.heap.size 58 #[.string vi,.string (oneR t y.attr.var),.int .i64 y.attr.sym.kind,.string y.attr.sym.text,.int .i64 y.attr.sym.n,.int .i64 y.value.op,.string y.value.a.var,.int .i64 y.value.a.sym.kind,.string y.value.a.sym.text,.int .i64 y.value.a.sym.n,.string y.value.b.var,.int .i64 y.value.b.sym.kind,.string y.value.b.sym.text,.int .i64 y.value.b.sym.n,.int .i64 y.pref,.string y.other.var,.int .i64 y.other.sym.kind,.string y.other.sym.text,.int .i64 y.other.sym.n] by rw [hV1];exact ((((KB.out).set_ 1 (.string (oneR t y.attr.var))).set_ 2 (.int .i64 y.attr.sym.kind)).set_ 3 (.string y.attr.sym.text)).set_ 4 (.int .i64 y.attr.sym.n))
       have HBV:=Lib.hid (show Below wr.heap.size wr V1 by rw [hV1];exact Below.setCells' _ _ HBV.out (Nat.le_refl _))
       clear hV1 hb
       go_upto_region 9 with ((with_reducible refine wpList_store_mid rfl 54 _ _ rfl wr.heap.size 1 #[.string (oneR t y.attr.var),.int .i64 y.attr.sym.kind,.string y.attr.sym.text,.int .i64 y.attr.sym.n] rfl rfl HTH.out (by kernel_rfl) (by kernel_rfl) ?_);rw [← HV1.out])
       clear HTH HV1
       have e6:V1.cell? ⟨wr.heap.size,6,none⟩=some (.string y.value.a.var):=(KB.out.cell 6).trans rfl
       have e7:V1.cell? ⟨wr.heap.size,7,none⟩=some (.int .i64 y.value.a.sym.kind):=(KB.out.cell 7).trans rfl
       have e8:V1.cell? ⟨wr.heap.size,8,none⟩=some (.string y.value.a.sym.text):=(KB.out.cell 8).trans rfl
       have e9:V1.cell? ⟨wr.heap.size,9,none⟩=some (.int .i64 y.value.a.sym.n):=(KB.out.cell 9).trans rfl
       have ez:=KB.out.lt
       go_wp2_with fail
       refine (HAT.out y.value.a V1 (HBV.out)).mono ?_
       rintro e v2 ⟨rfl,hb⟩
       clear ez e6 e7 e8 e9
       have KB:=Lib.hid (KB.out.new_ hb)
       have HBV:=Lib.hid (HBV.out.trans (hb.mono HBV.out.size))
       obtain ⟨V2,hV2⟩ : ∃W,W=v2.setCells wr.heap.size 6 [Value.string (oneR t y.value.a.var),Value.int IntKind.i64 y.value.a.sym.kind,Value.string y.value.a.sym.text,Value.int IntKind.i64 y.value.a.sym.n]:=⟨_,rfl⟩
       have HTH:=Lib.hid (show v2.there wr.heap.size 6 (#[.string (oneR t y.value.a.var),.int .i64 y.value.a.sym.kind,.string y.value.a.sym.text,.int .i64 y.value.a.sym.n]:Array Value).size from there_of KB.out (by simp))
       have HV2:=Lib.hid hV2
       have KB:=Lib.hid (show Blk V2 wr.heap.size 58 #[.string vi,.string (oneR t y.attr.var),.int .i64 y.attr.sym.kind,.string y.attr.sym.text,.int .i64 y.attr.sym.n,.int .i64 y.value.op,.string (oneR t y.value.a.var),.int .i64 y.value.a.sym.kind,.string y.value.a.sym.text,.int .i64 y.value.a.sym.n,.string y.value.b.var,.int .i64 y.value.b.sym.kind,.string y.value.b.sym.text,.int .i64 y.value.b.sym.n,.int .i64 y.pref,.string y.other.var,.int .i64 y.other.sym.kind,.string y.other.sym.text,.int .i64 y.other.sym.n] by rw [hV2];exact ((((KB.out).set_ 6 (.string (oneR t y.value.a.var))).set_ 7 (.int .i64 y.value.a.sym.kind)).set_ 8 (.string y.value.a.sym.text)).set_ 9 (.int .i64 y.value.a.sym.n))
       have HBV:=Lib.hid (show Below wr.heap.size wr V2 by rw [hV2];exact Below.setCells' _ _ HBV.out (Nat.le_refl _))
       clear hV2 hb
       go_upto_region 10 with ((with_reducible refine wpList_store_mid rfl 54 _ _ rfl wr.heap.size 6 #[.string (oneR t y.value.a.var),.int .i64 y.value.a.sym.kind,.string y.value.a.sym.text,.int .i64 y.value.a.sym.n] rfl rfl HTH.out (by kernel_rfl) (by kernel_rfl) ?_);rw [← HV2.out])
       clear HTH HV2
       have e10:V2.cell? ⟨wr.heap.size,10,none⟩=some (.string y.value.b.var):=(KB.out.cell 10).trans rfl
       have e11:V2.cell? ⟨wr.heap.size,11,none⟩=some (.int .i64 y.value.b.sym.kind):=(KB.out.cell 11).trans rfl
       have e12:V2.cell? ⟨wr.heap.size,12,none⟩=some (.string y.value.b.sym.text):=(KB.out.cell 12).trans rfl
       have e13:V2.cell? ⟨wr.heap.size,13,none⟩=some (.int .i64 y.value.b.sym.n):=(KB.out.cell 13).trans rfl
       have ez:=KB.out.lt
       go_wp2_with fail
       refine (HAT.out y.value.b V2 (HBV.out)).mono ?_
       rintro e v3 ⟨rfl,hb⟩
       clear ez e10 e11 e12 e13
       have KB:=Lib.hid (KB.out.new_ hb)
       have HBV:=Lib.hid (HBV.out.trans (hb.mono HBV.out.size))
       obtain ⟨V3,hV3⟩ : ∃W,W=v3.setCells wr.heap.size 10 [Value.string (oneR t y.value.b.var),Value.int IntKind.i64 y.value.b.sym.kind,Value.string y.value.b.sym.text,Value.int IntKind.i64 y.value.b.sym.n]:=⟨_,rfl⟩
       have HTH:=Lib.hid (show v3.there wr.heap.size 10 (#[.string (oneR t y.value.b.var),.int .i64 y.value.b.sym.kind,.string y.value.b.sym.text,.int .i64 y.value.b.sym.n]:Array Value).size from there_of KB.out (by simp))
       have HV3:=Lib.hid hV3
       have KB:=Lib.hid (show Blk V3 wr.heap.size 58 #[.string vi,.string (oneR t y.attr.var),.int .i64 y.attr.sym.kind,.string y.attr.sym.text,.int .i64 y.attr.sym.n,.int .i64 y.value.op,.string (oneR t y.value.a.var),.int .i64 y.value.a.sym.kind,.string y.value.a.sym.text,.int .i64 y.value.a.sym.n,.string (oneR t y.value.b.var),.int .i64 y.value.b.sym.kind,.string y.value.b.sym.text,.int .i64 y.value.b.sym.n,.int .i64 y.pref,.string y.other.var,.int .i64 y.other.sym.kind,.string y.other.sym.text,.int .i64 y.other.sym.n] by rw [hV3];exact ((((KB.out).set_ 10 (.string (oneR t y.value.b.var))).set_ 11 (.int .i64 y.value.b.sym.kind)).set_ 12 (.string y.value.b.sym.text)).set_ 13 (.int .i64 y.value.b.sym.n))
       have HBV:=Lib.hid (show Below wr.heap.size wr V3 by rw [hV3];exact Below.setCells' _ _ HBV.out (Nat.le_refl _))
       clear hV3 hb
       go_upto_region 11 with ((with_reducible refine wpList_store_mid rfl 54 _ _ rfl wr.heap.size 10 #[.string (oneR t y.value.b.var),.int .i64 y.value.b.sym.kind,.string y.value.b.sym.text,.int .i64 y.value.b.sym.n] rfl rfl HTH.out (by kernel_rfl) (by kernel_rfl) ?_);rw [← HV3.out])
       clear HTH HV3
       have e15:V3.cell? ⟨wr.heap.size,15,none⟩=some (.string y.other.var):=(KB.out.cell 15).trans rfl
       have e16:V3.cell? ⟨wr.heap.size,16,none⟩=some (.int .i64 y.other.sym.kind):=(KB.out.cell 16).trans rfl
       have e17:V3.cell? ⟨wr.heap.size,17,none⟩=some (.string y.other.sym.text):=(KB.out.cell 17).trans rfl
       have e18:V3.cell? ⟨wr.heap.size,18,none⟩=some (.int .i64 y.other.sym.n):=(KB.out.cell 18).trans rfl
       have ez:=KB.out.lt
       go_wp2_with fail
       refine (HAT.out y.other V3 (HBV.out)).mono ?_
       rintro e v4 ⟨rfl,hb⟩
       clear ez e15 e16 e17 e18
       have KB:=Lib.hid (KB.out.new_ hb)
       have HBV:=Lib.hid (HBV.out.trans (hb.mono HBV.out.size))
       obtain ⟨V4,hV4⟩ : ∃W,W=v4.setCells wr.heap.size 15 [Value.string (oneR t y.other.var),Value.int IntKind.i64 y.other.sym.kind,Value.string y.other.sym.text,Value.int IntKind.i64 y.other.sym.n]:=⟨_,rfl⟩
       have HTH:=Lib.hid (show v4.there wr.heap.size 15 (#[.string (oneR t y.other.var),.int .i64 y.other.sym.kind,.string y.other.sym.text,.int .i64 y.other.sym.n]:Array Value).size from there_of KB.out (by simp))
       have HV4:=Lib.hid hV4
       have KB:=Lib.hid (show Blk V4 wr.heap.size 58 #[.string vi,.string (oneR t y.attr.var),.int .i64 y.attr.sym.kind,.string y.attr.sym.text,.int .i64 y.attr.sym.n,.int .i64 y.value.op,.string (oneR t y.value.a.var),.int .i64 y.value.a.sym.kind,.string y.value.a.sym.text,.int .i64 y.value.a.sym.n,.string (oneR t y.value.b.var),.int .i64 y.value.b.sym.kind,.string y.value.b.sym.text,.int .i64 y.value.b.sym.n,.int .i64 y.pref,.string (oneR t y.other.var),.int .i64 y.other.sym.kind,.string y.other.sym.text,.int .i64 y.other.sym.n] by rw [hV4];exact ((((KB.out).set_ 15 (.string (oneR t y.other.var))).set_ 16 (.int .i64 y.other.sym.kind)).set_ 17 (.string y.other.sym.text)).set_ 18 (.int .i64 y.other.sym.n))
       have HBV:=Lib.hid (show Below wr.heap.size wr V4 by rw [hV4];exact Below.setCells' _ _ HBV.out (Nat.le_refl _))
       clear hV4 hb
       go_upto_region 12 with ((with_reducible refine wpList_store_mid rfl 54 _ _ rfl wr.heap.size 15 #[.string (oneR t y.other.var),.int .i64 y.other.sym.kind,.string y.other.sym.text,.int .i64 y.other.sym.n] rfl rfl HTH.out (by kernel_rfl) (by kernel_rfl) ?_);rw [← HV4.out])
       clear HTH HV4
       have HRG9:=Lib.hid (show V4.rangeAt wr.heap.size 0 [Value.string vi,Value.string (oneR t y.attr.var),Value.int IntKind.i64 y.attr.sym.kind,Value.string y.attr.sym.text,Value.int IntKind.i64 y.attr.sym.n,Value.int IntKind.i64 y.value.op,Value.string (oneR t y.value.a.var),Value.int IntKind.i64 y.value.a.sym.kind,Value.string y.value.a.sym.text,Value.int IntKind.i64 y.value.a.sym.n,Value.string (oneR t y.value.b.var),Value.int IntKind.i64 y.value.b.sym.kind,Value.string y.value.b.sym.text,Value.int IntKind.i64 y.value.b.sym.n,Value.int IntKind.i64 y.pref,Value.string (oneR t y.other.var),Value.int IntKind.i64 y.other.sym.kind,Value.string y.other.sym.text,Value.int IntKind.i64 y.other.sym.n] from KB.out.range)
       have HGV:=Lib.hid (HPA.out.1.new_ HBV.out)
       have g2:V4.cell? ⟨g,2,none⟩=some (.slice A i c):=(HGV.out.cell 2).trans rfl
       have gz:=HGV.out.lt
       have HX:=Lib.hid (show Below V4.heap.size V4 (V4.alloc (.cells #[.string vi,.string (oneR t y.attr.var),.int .i64 y.attr.sym.kind,.string y.attr.sym.text,.int .i64 y.attr.sym.n,.int .i64 y.value.op,.string (oneR t y.value.a.var),.int .i64 y.value.a.sym.kind,.string y.value.a.sym.text,.int .i64 y.value.a.sym.n,.string (oneR t y.value.b.var),.int .i64 y.value.b.sym.kind,.string y.value.b.sym.text,.int .i64 y.value.b.sym.n,.int .i64 y.pref,.string (oneR t y.other.var),.int .i64 y.other.sym.kind,.string y.other.sym.text,.int .i64 y.other.sym.n] 58)) from (Below.refl _ _).alloc (Nat.le_refl _) _)
       have HBX:=Lib.hid (HBV.out.trans (HX.out.mono HBV.out.size))
       have HOX:=Lib.hid (ownsRow_new (ownsRow_new HPA.out.2.2.1 HBV.out) HX.out)
       have HNX:=Lib.hid (show ∀(j:Nat) (u:Value),(([.string vi,.string (oneR t y.attr.var),.int .i64 y.attr.sym.kind,.string y.attr.sym.text,.int .i64 y.attr.sym.n,.int .i64 y.value.op,.string (oneR t y.value.a.var),.int .i64 y.value.a.sym.kind,.string y.value.a.sym.text,.int .i64 y.value.a.sym.n,.string (oneR t y.value.b.var),.int .i64 y.value.b.sym.kind,.string y.value.b.sym.text,.int .i64 y.value.b.sym.n,.int .i64 y.pref,.string (oneR t y.other.var),.int .i64 y.other.sym.kind,.string y.other.sym.text,.int .i64 y.other.sym.n]:List Value))[j]? = some u→((V4.alloc (.cells #[.string vi,.string (oneR t y.attr.var),.int .i64 y.attr.sym.kind,.string y.attr.sym.text,.int .i64 y.attr.sym.n,.int .i64 y.value.op,.string (oneR t y.value.a.var),.int .i64 y.value.a.sym.kind,.string y.value.a.sym.text,.int .i64 y.value.a.sym.n,.string (oneR t y.value.b.var),.int .i64 y.value.b.sym.kind,.string y.value.b.sym.text,.int .i64 y.value.b.sym.n,.int .i64 y.pref,.string (oneR t y.other.var),.int .i64 y.other.sym.kind,.string y.other.sym.text,.int .i64 y.other.sym.n] 58))).cell? ((⟨V4.heap.size,0,none⟩:Addr).add j)=some u from World.news_of_block (heap_alloc_new _ _))
       have HGX:=Lib.hid (HGV.out.new_ HX.out)
       have hile:i≤1000:=by omega
       go_wp2_with (first
        | (with_reducible refine wpList_load_mid rfl 58 _ rfl wr.heap.size 0 rfl [Value.string vi,Value.string (oneR t y.attr.var),Value.int IntKind.i64 y.attr.sym.kind,Value.string y.attr.sym.text,Value.int IntKind.i64 y.attr.sym.n,Value.int IntKind.i64 y.value.op,Value.string (oneR t y.value.a.var),Value.int IntKind.i64 y.value.a.sym.kind,Value.string y.value.a.sym.text,Value.int IntKind.i64 y.value.a.sym.n,Value.string (oneR t y.value.b.var),Value.int IntKind.i64 y.value.b.sym.kind,Value.string y.value.b.sym.text,Value.int IntKind.i64 y.value.b.sym.n,Value.int IntKind.i64 y.pref,Value.string (oneR t y.other.var),Value.int IntKind.i64 y.other.sym.kind,Value.string y.other.sym.text,Value.int IntKind.i64 y.other.sym.n] _ HRG9.out Try.underlying58 rfl (by kernel_rfl) ?_)
        | (at_builtin;refine wpList_append_src (V4.alloc (.cells #[.string vi,.string (oneR t y.attr.var),.int .i64 y.attr.sym.kind,.string y.attr.sym.text,.int .i64 y.attr.sym.n,.int .i64 y.value.op,.string (oneR t y.value.a.var),.int .i64 y.value.a.sym.kind,.string y.value.a.sym.text,.int .i64 y.value.a.sym.n,.string (oneR t y.value.b.var),.int .i64 y.value.b.sym.kind,.string y.value.b.sym.text,.int .i64 y.value.b.sym.n,.int .i64 y.pref,.string (oneR t y.other.var),.int .i64 y.other.sym.kind,.string y.other.sym.text,.int .i64 y.other.sym.n] 58)) rfl (.tmp 68) (.tmp 70) 23 rfl 58 i0 _ 19 224 Try.underlying23 hi0 hz0 hz1 hz2 rfl (by omega) (.slice A i c) i ((M.take i).flatMap ActT.cells) rfl HOX.out (some ⟨V4.heap.size,0,none⟩) 1 1 [.string vi,.string (oneR t y.attr.var),.int .i64 y.attr.sym.kind,.string y.attr.sym.text,.int .i64 y.attr.sym.n,.int .i64 y.value.op,.string (oneR t y.value.a.var),.int .i64 y.value.a.sym.kind,.string y.value.a.sym.text,.int .i64 y.value.a.sym.n,.string (oneR t y.value.b.var),.int .i64 y.value.b.sym.kind,.string y.value.b.sym.text,.int .i64 y.value.b.sym.n,.int .i64 y.pref,.string (oneR t y.other.var),.int .i64 y.other.sym.kind,.string y.other.sym.text,.int .i64 y.other.sym.n] rfl rfl (fun _=>⟨_,rfl,HNX.out⟩) (by intro u hu;simp only [List.mem_cons,List.not_mem_nil,or_false] at hu;rcases hu with rfl | rfl | rfl | rfl | rfl | rfl | rfl | rfl | rfl | rfl | rfl | rfl | rfl | rfl | rfl | rfl | rfl | rfl | rfl<;>rfl) (by unfold maxLen;omega) (by omega) ?_;intro v1 w9 hown1 hg1 hnil1 hat1;obtain ⟨A',c',rfl,_⟩:=own_form2 hown1;have hne1:=own_blk_ne HOX.out HGX.out (by decide);have hgb:=HGX.out.grown hg1 hne1;have u2:=(hgb.cell 2).trans rfl;have f2:=hgb.frozen 2;have uz:=hgb.lt;have HOWN:=Lib.hid hown1;have HG1:=Lib.hid hg1;have HAT1:=Lib.hid hat1;clear hown1 hg1 hnil1 hat1 hne1 hgb))
       go_roundw
       case rel=>exact ⟨i+1,A',c',by go_num,by omega,HPA.out.step HGM.out HBX.out HZZ.out (by have h:=HOWN.out;exact h) HG1.out HAT1.out⟩
       case measure=>simp [intOf];omega
     · have va:(y.id.toList == [])=false:=by simp [hv]
       have vb:y.id.toList.isEmpty=false:=by simp [hv]
       have vc:decide (y.id.toList = [])=false:=by simp [hv]
       have hvi:t y.id=vi:=by rw [HVI.out,oneR,if_neg hv]
       clear hv
       go_wp2_with fail
       refine (HON.out y.id W5 HBV.out).mono ?_
       rintro e v0 ⟨rfl,hb⟩
       rw [hvi]
       have KB:=Lib.hid (KB.out.new_ hb)
       have HBV:=Lib.hid (HBV.out.trans (hb.mono HBV.out.size))
       obtain ⟨V0,hV0⟩ : ∃W,W=v0.setCell ⟨wr.heap.size,0,none⟩ (.string vi):=⟨_,rfl⟩
       have u0:v0.cell? ⟨wr.heap.size,0,none⟩=some (.string y.id):=(KB.out.cell 0).trans rfl
       have uf:=KB.out.frozen 0
       have uz:=KB.out.lt
       have KB:=Lib.hid (show Blk V0 wr.heap.size 58 #[.string vi,.string y.attr.var,.int .i64 y.attr.sym.kind,.string y.attr.sym.text,.int .i64 y.attr.sym.n,.int .i64 y.value.op,.string y.value.a.var,.int .i64 y.value.a.sym.kind,.string y.value.a.sym.text,.int .i64 y.value.a.sym.n,.string y.value.b.var,.int .i64 y.value.b.sym.kind,.string y.value.b.sym.text,.int .i64 y.value.b.sym.n,.int .i64 y.pref,.string y.other.var,.int .i64 y.other.sym.kind,.string y.other.sym.text,.int .i64 y.other.sym.n] by rw [hV0];exact KB.out.set_ 0 _)
       have HBV:=Lib.hid (show Below wr.heap.size wr V0 by rw [hV0];exact HBV.out.setCell (Nat.le_refl _) _)
       clear hb hvi e0 ez va vb vc
       go_upto_region 8 with fail
       rw [← hV0]
       clear u0 uf uz hV0
       have e1:V0.cell? ⟨wr.heap.size,1,none⟩=some (.string y.attr.var):=(KB.out.cell 1).trans rfl
       have e2:V0.cell? ⟨wr.heap.size,2,none⟩=some (.int .i64 y.attr.sym.kind):=(KB.out.cell 2).trans rfl
       have e3:V0.cell? ⟨wr.heap.size,3,none⟩=some (.string y.attr.sym.text):=(KB.out.cell 3).trans rfl
       have e4:V0.cell? ⟨wr.heap.size,4,none⟩=some (.int .i64 y.attr.sym.n):=(KB.out.cell 4).trans rfl
       have ez:=KB.out.lt
       go_wp2_with fail
       refine (HAT.out y.attr V0 (HBV.out)).mono ?_
       rintro e v1 ⟨rfl,hb⟩
       clear ez e1 e2 e3 e4
       have KB:=Lib.hid (KB.out.new_ hb)
       have HBV:=Lib.hid (HBV.out.trans (hb.mono HBV.out.size))
       obtain ⟨V1,hV1⟩ : ∃W,W=v1.setCells wr.heap.size 1 [Value.string (oneR t y.attr.var),Value.int IntKind.i64 y.attr.sym.kind,Value.string y.attr.sym.text,Value.int IntKind.i64 y.attr.sym.n]:=⟨_,rfl⟩
       have HTH:=Lib.hid (show v1.there wr.heap.size 1 (#[.string (oneR t y.attr.var),.int .i64 y.attr.sym.kind,.string y.attr.sym.text,.int .i64 y.attr.sym.n]:Array Value).size from there_of KB.out (by simp))
       have HV1:=Lib.hid hV1
       have KB:=Lib.hid (show Blk V1 wr.heap.size 58 #[.string vi,.string (oneR t y.attr.var),.int .i64 y.attr.sym.kind,.string y.attr.sym.text,.int .i64 y.attr.sym.n,.int .i64 y.value.op,.string y.value.a.var,.int .i64 y.value.a.sym.kind,.string y.value.a.sym.text,.int .i64 y.value.a.sym.n,.string y.value.b.var,.int .i64 y.value.b.sym.kind,.string y.value.b.sym.text,.int .i64 y.value.b.sym.n,.int .i64 y.pref,.string y.other.var,.int .i64 y.other.sym.kind,.string y.other.sym.text,.int .i64 y.other.sym.n] by rw [hV1];exact ((((KB.out).set_ 1 (.string (oneR t y.attr.var))).set_ 2 (.int .i64 y.attr.sym.kind)).set_ 3 (.string y.attr.sym.text)).set_ 4 (.int .i64 y.attr.sym.n))
       have HBV:=Lib.hid (show Below wr.heap.size wr V1 by rw [hV1];exact Below.setCells' _ _ HBV.out (Nat.le_refl _))
       clear hV1 hb
       go_upto_region 9 with ((with_reducible refine wpList_store_mid rfl 54 _ _ rfl wr.heap.size 1 #[.string (oneR t y.attr.var),.int .i64 y.attr.sym.kind,.string y.attr.sym.text,.int .i64 y.attr.sym.n] rfl rfl HTH.out (by kernel_rfl) (by kernel_rfl) ?_);rw [← HV1.out])
       clear HTH HV1
       have e6:V1.cell? ⟨wr.heap.size,6,none⟩=some (.string y.value.a.var):=(KB.out.cell 6).trans rfl
       have e7:V1.cell? ⟨wr.heap.size,7,none⟩=some (.int .i64 y.value.a.sym.kind):=(KB.out.cell 7).trans rfl
       have e8:V1.cell? ⟨wr.heap.size,8,none⟩=some (.string y.value.a.sym.text):=(KB.out.cell 8).trans rfl
       have e9:V1.cell? ⟨wr.heap.size,9,none⟩=some (.int .i64 y.value.a.sym.n):=(KB.out.cell 9).trans rfl
       have ez:=KB.out.lt
       go_wp2_with fail
       refine (HAT.out y.value.a V1 (HBV.out)).mono ?_
       rintro e v2 ⟨rfl,hb⟩
       clear ez e6 e7 e8 e9
       have KB:=Lib.hid (KB.out.new_ hb)
       have HBV:=Lib.hid (HBV.out.trans (hb.mono HBV.out.size))
       obtain ⟨V2,hV2⟩ : ∃W,W=v2.setCells wr.heap.size 6 [Value.string (oneR t y.value.a.var),Value.int IntKind.i64 y.value.a.sym.kind,Value.string y.value.a.sym.text,Value.int IntKind.i64 y.value.a.sym.n]:=⟨_,rfl⟩
       have HTH:=Lib.hid (show v2.there wr.heap.size 6 (#[.string (oneR t y.value.a.var),.int .i64 y.value.a.sym.kind,.string y.value.a.sym.text,.int .i64 y.value.a.sym.n]:Array Value).size from there_of KB.out (by simp))
       have HV2:=Lib.hid hV2
       have KB:=Lib.hid (show Blk V2 wr.heap.size 58 #[.string vi,.string (oneR t y.attr.var),.int .i64 y.attr.sym.kind,.string y.attr.sym.text,.int .i64 y.attr.sym.n,.int .i64 y.value.op,.string (oneR t y.value.a.var),.int .i64 y.value.a.sym.kind,.string y.value.a.sym.text,.int .i64 y.value.a.sym.n,.string y.value.b.var,.int .i64 y.value.b.sym.kind,.string y.value.b.sym.text,.int .i64 y.value.b.sym.n,.int .i64 y.pref,.string y.other.var,.int .i64 y.other.sym.kind,.string y.other.sym.text,.int .i64 y.other.sym.n] by rw [hV2];exact ((((KB.out).set_ 6 (.string (oneR t y.value.a.var))).set_ 7 (.int .i64 y.value.a.sym.kind)).set_ 8 (.string y.value.a.sym.text)).set_ 9 (.int .i64 y.value.a.sym.n))
       have HBV:=Lib.hid (show Below wr.heap.size wr V2 by rw [hV2];exact Below.setCells' _ _ HBV.out (Nat.le_refl _))
       clear hV2 hb
       go_upto_region 10 with ((with_reducible refine wpList_store_mid rfl 54 _ _ rfl wr.heap.size 6 #[.string (oneR t y.value.a.var),.int .i64 y.value.a.sym.kind,.string y.value.a.sym.text,.int .i64 y.value.a.sym.n] rfl rfl HTH.out (by kernel_rfl) (by kernel_rfl) ?_);rw [← HV2.out])
       clear HTH HV2
       have e10:V2.cell? ⟨wr.heap.size,10,none⟩=some (.string y.value.b.var):=(KB.out.cell 10).trans rfl
       have e11:V2.cell? ⟨wr.heap.size,11,none⟩=some (.int .i64 y.value.b.sym.kind):=(KB.out.cell 11).trans rfl
       have e12:V2.cell? ⟨wr.heap.size,12,none⟩=some (.string y.value.b.sym.text):=(KB.out.cell 12).trans rfl
       have e13:V2.cell? ⟨wr.heap.size,13,none⟩=some (.int .i64 y.value.b.sym.n):=(KB.out.cell 13).trans rfl
       have ez:=KB.out.lt
       go_wp2_with fail
       refine (HAT.out y.value.b V2 (HBV.out)).mono ?_
       rintro e v3 ⟨rfl,hb⟩
       clear ez e10 e11 e12 e13
       have KB:=Lib.hid (KB.out.new_ hb)
       have HBV:=Lib.hid (HBV.out.trans (hb.mono HBV.out.size))
       obtain ⟨V3,hV3⟩ : ∃W,W=v3.setCells wr.heap.size 10 [Value.string (oneR t y.value.b.var),Value.int IntKind.i64 y.value.b.sym.kind,Value.string y.value.b.sym.text,Value.int IntKind.i64 y.value.b.sym.n]:=⟨_,rfl⟩
       have HTH:=Lib.hid (show v3.there wr.heap.size 10 (#[.string (oneR t y.value.b.var),.int .i64 y.value.b.sym.kind,.string y.value.b.sym.text,.int .i64 y.value.b.sym.n]:Array Value).size from there_of KB.out (by simp))
       have HV3:=Lib.hid hV3
       have KB:=Lib.hid (show Blk V3 wr.heap.size 58 #[.string vi,.string (oneR t y.attr.var),.int .i64 y.attr.sym.kind,.string y.attr.sym.text,.int .i64 y.attr.sym.n,.int .i64 y.value.op,.string (oneR t y.value.a.var),.int .i64 y.value.a.sym.kind,.string y.value.a.sym.text,.int .i64 y.value.a.sym.n,.string (oneR t y.value.b.var),.int .i64 y.value.b.sym.kind,.string y.value.b.sym.text,.int .i64 y.value.b.sym.n,.int .i64 y.pref,.string y.other.var,.int .i64 y.other.sym.kind,.string y.other.sym.text,.int .i64 y.other.sym.n] by rw [hV3];exact ((((KB.out).set_ 10 (.string (oneR t y.value.b.var))).set_ 11 (.int .i64 y.value.b.sym.kind)).set_ 12 (.string y.value.b.sym.text)).set_ 13 (.int .i64 y.value.b.sym.n))
       have HBV:=Lib.hid (show Below wr.heap.size wr V3 by rw [hV3];exact Below.setCells' _ _ HBV.out (Nat.le_refl _))
       clear hV3 hb
       go_upto_region 11 with ((with_reducible refine wpList_store_mid rfl 54 _ _ rfl wr.heap.size 10 #[.string (oneR t y.value.b.var),.int .i64 y.value.b.sym.kind,.string y.value.b.sym.text,.int .i64 y.value.b.sym.n] rfl rfl HTH.out (by kernel_rfl) (by kernel_rfl) ?_);rw [← HV3.out])
       clear HTH HV3
       have e15:V3.cell? ⟨wr.heap.size,15,none⟩=some (.string y.other.var):=(KB.out.cell 15).trans rfl
       have e16:V3.cell? ⟨wr.heap.size,16,none⟩=some (.int .i64 y.other.sym.kind):=(KB.out.cell 16).trans rfl
       have e17:V3.cell? ⟨wr.heap.size,17,none⟩=some (.string y.other.sym.text):=(KB.out.cell 17).trans rfl
       have e18:V3.cell? ⟨wr.heap.size,18,none⟩=some (.int .i64 y.other.sym.n):=(KB.out.cell 18).trans rfl
       have ez:=KB.out.lt
       go_wp2_with fail
       refine (HAT.out y.other V3 (HBV.out)).mono ?_
       rintro e v4 ⟨rfl,hb⟩
       clear ez e15 e16 e17 e18
       have KB:=Lib.hid (KB.out.new_ hb)
       have HBV:=Lib.hid (HBV.out.trans (hb.mono HBV.out.size))
       obtain ⟨V4,hV4⟩ : ∃W,W=v4.setCells wr.heap.size 15 [Value.string (oneR t y.other.var),Value.int IntKind.i64 y.other.sym.kind,Value.string y.other.sym.text,Value.int IntKind.i64 y.other.sym.n]:=⟨_,rfl⟩
       have HTH:=Lib.hid (show v4.there wr.heap.size 15 (#[.string (oneR t y.other.var),.int .i64 y.other.sym.kind,.string y.other.sym.text,.int .i64 y.other.sym.n]:Array Value).size from there_of KB.out (by simp))
       have HV4:=Lib.hid hV4
       have KB:=Lib.hid (show Blk V4 wr.heap.size 58 #[.string vi,.string (oneR t y.attr.var),.int .i64 y.attr.sym.kind,.string y.attr.sym.text,.int .i64 y.attr.sym.n,.int .i64 y.value.op,.string (oneR t y.value.a.var),.int .i64 y.value.a.sym.kind,.string y.value.a.sym.text,.int .i64 y.value.a.sym.n,.string (oneR t y.value.b.var),.int .i64 y.value.b.sym.kind,.string y.value.b.sym.text,.int .i64 y.value.b.sym.n,.int .i64 y.pref,.string (oneR t y.other.var),.int .i64 y.other.sym.kind,.string y.other.sym.text,.int .i64 y.other.sym.n] by rw [hV4];exact ((((KB.out).set_ 15 (.string (oneR t y.other.var))).set_ 16 (.int .i64 y.other.sym.kind)).set_ 17 (.string y.other.sym.text)).set_ 18 (.int .i64 y.other.sym.n))
       have HBV:=Lib.hid (show Below wr.heap.size wr V4 by rw [hV4];exact Below.setCells' _ _ HBV.out (Nat.le_refl _))
       clear hV4 hb
       go_upto_region 12 with ((with_reducible refine wpList_store_mid rfl 54 _ _ rfl wr.heap.size 15 #[.string (oneR t y.other.var),.int .i64 y.other.sym.kind,.string y.other.sym.text,.int .i64 y.other.sym.n] rfl rfl HTH.out (by kernel_rfl) (by kernel_rfl) ?_);rw [← HV4.out])
       clear HTH HV4
       have HRG9:=Lib.hid (show V4.rangeAt wr.heap.size 0 [Value.string vi,Value.string (oneR t y.attr.var),Value.int IntKind.i64 y.attr.sym.kind,Value.string y.attr.sym.text,Value.int IntKind.i64 y.attr.sym.n,Value.int IntKind.i64 y.value.op,Value.string (oneR t y.value.a.var),Value.int IntKind.i64 y.value.a.sym.kind,Value.string y.value.a.sym.text,Value.int IntKind.i64 y.value.a.sym.n,Value.string (oneR t y.value.b.var),Value.int IntKind.i64 y.value.b.sym.kind,Value.string y.value.b.sym.text,Value.int IntKind.i64 y.value.b.sym.n,Value.int IntKind.i64 y.pref,Value.string (oneR t y.other.var),Value.int IntKind.i64 y.other.sym.kind,Value.string y.other.sym.text,Value.int IntKind.i64 y.other.sym.n] from KB.out.range)
       have HGV:=Lib.hid (HPA.out.1.new_ HBV.out)
       have g2:V4.cell? ⟨g,2,none⟩=some (.slice A i c):=(HGV.out.cell 2).trans rfl
       have gz:=HGV.out.lt
       have HX:=Lib.hid (show Below V4.heap.size V4 (V4.alloc (.cells #[.string vi,.string (oneR t y.attr.var),.int .i64 y.attr.sym.kind,.string y.attr.sym.text,.int .i64 y.attr.sym.n,.int .i64 y.value.op,.string (oneR t y.value.a.var),.int .i64 y.value.a.sym.kind,.string y.value.a.sym.text,.int .i64 y.value.a.sym.n,.string (oneR t y.value.b.var),.int .i64 y.value.b.sym.kind,.string y.value.b.sym.text,.int .i64 y.value.b.sym.n,.int .i64 y.pref,.string (oneR t y.other.var),.int .i64 y.other.sym.kind,.string y.other.sym.text,.int .i64 y.other.sym.n] 58)) from (Below.refl _ _).alloc (Nat.le_refl _) _)
       have HBX:=Lib.hid (HBV.out.trans (HX.out.mono HBV.out.size))
       have HOX:=Lib.hid (ownsRow_new (ownsRow_new HPA.out.2.2.1 HBV.out) HX.out)
       have HNX:=Lib.hid (show ∀(j:Nat) (u:Value),(([.string vi,.string (oneR t y.attr.var),.int .i64 y.attr.sym.kind,.string y.attr.sym.text,.int .i64 y.attr.sym.n,.int .i64 y.value.op,.string (oneR t y.value.a.var),.int .i64 y.value.a.sym.kind,.string y.value.a.sym.text,.int .i64 y.value.a.sym.n,.string (oneR t y.value.b.var),.int .i64 y.value.b.sym.kind,.string y.value.b.sym.text,.int .i64 y.value.b.sym.n,.int .i64 y.pref,.string (oneR t y.other.var),.int .i64 y.other.sym.kind,.string y.other.sym.text,.int .i64 y.other.sym.n]:List Value))[j]? = some u→((V4.alloc (.cells #[.string vi,.string (oneR t y.attr.var),.int .i64 y.attr.sym.kind,.string y.attr.sym.text,.int .i64 y.attr.sym.n,.int .i64 y.value.op,.string (oneR t y.value.a.var),.int .i64 y.value.a.sym.kind,.string y.value.a.sym.text,.int .i64 y.value.a.sym.n,.string (oneR t y.value.b.var),.int .i64 y.value.b.sym.kind,.string y.value.b.sym.text,.int .i64 y.value.b.sym.n,.int .i64 y.pref,.string (oneR t y.other.var),.int .i64 y.other.sym.kind,.string y.other.sym.text,.int .i64 y.other.sym.n] 58))).cell? ((⟨V4.heap.size,0,none⟩:Addr).add j)=some u from World.news_of_block (heap_alloc_new _ _))
       have HGX:=Lib.hid (HGV.out.new_ HX.out)
       have hile:i≤1000:=by omega
       go_wp2_with (first
        | (with_reducible refine wpList_load_mid rfl 58 _ rfl wr.heap.size 0 rfl [Value.string vi,Value.string (oneR t y.attr.var),Value.int IntKind.i64 y.attr.sym.kind,Value.string y.attr.sym.text,Value.int IntKind.i64 y.attr.sym.n,Value.int IntKind.i64 y.value.op,Value.string (oneR t y.value.a.var),Value.int IntKind.i64 y.value.a.sym.kind,Value.string y.value.a.sym.text,Value.int IntKind.i64 y.value.a.sym.n,Value.string (oneR t y.value.b.var),Value.int IntKind.i64 y.value.b.sym.kind,Value.string y.value.b.sym.text,Value.int IntKind.i64 y.value.b.sym.n,Value.int IntKind.i64 y.pref,Value.string (oneR t y.other.var),Value.int IntKind.i64 y.other.sym.kind,Value.string y.other.sym.text,Value.int IntKind.i64 y.other.sym.n] _ HRG9.out Try.underlying58 rfl (by kernel_rfl) ?_)
        | (at_builtin;refine wpList_append_src (V4.alloc (.cells #[.string vi,.string (oneR t y.attr.var),.int .i64 y.attr.sym.kind,.string y.attr.sym.text,.int .i64 y.attr.sym.n,.int .i64 y.value.op,.string (oneR t y.value.a.var),.int .i64 y.value.a.sym.kind,.string y.value.a.sym.text,.int .i64 y.value.a.sym.n,.string (oneR t y.value.b.var),.int .i64 y.value.b.sym.kind,.string y.value.b.sym.text,.int .i64 y.value.b.sym.n,.int .i64 y.pref,.string (oneR t y.other.var),.int .i64 y.other.sym.kind,.string y.other.sym.text,.int .i64 y.other.sym.n] 58)) rfl (.tmp 68) (.tmp 70) 23 rfl 58 i0 _ 19 224 Try.underlying23 hi0 hz0 hz1 hz2 rfl (by omega) (.slice A i c) i ((M.take i).flatMap ActT.cells) rfl HOX.out (some ⟨V4.heap.size,0,none⟩) 1 1 [.string vi,.string (oneR t y.attr.var),.int .i64 y.attr.sym.kind,.string y.attr.sym.text,.int .i64 y.attr.sym.n,.int .i64 y.value.op,.string (oneR t y.value.a.var),.int .i64 y.value.a.sym.kind,.string y.value.a.sym.text,.int .i64 y.value.a.sym.n,.string (oneR t y.value.b.var),.int .i64 y.value.b.sym.kind,.string y.value.b.sym.text,.int .i64 y.value.b.sym.n,.int .i64 y.pref,.string (oneR t y.other.var),.int .i64 y.other.sym.kind,.string y.other.sym.text,.int .i64 y.other.sym.n] rfl rfl (fun _=>⟨_,rfl,HNX.out⟩) (by intro u hu;simp only [List.mem_cons,List.not_mem_nil,or_false] at hu;rcases hu with rfl | rfl | rfl | rfl | rfl | rfl | rfl | rfl | rfl | rfl | rfl | rfl | rfl | rfl | rfl | rfl | rfl | rfl | rfl<;>rfl) (by unfold maxLen;omega) (by omega) ?_;intro v1 w9 hown1 hg1 hnil1 hat1;obtain ⟨A',c',rfl,_⟩:=own_form2 hown1;have hne1:=own_blk_ne HOX.out HGX.out (by decide);have hgb:=HGX.out.grown hg1 hne1;have u2:=(hgb.cell 2).trans rfl;have f2:=hgb.frozen 2;have uz:=hgb.lt;have HOWN:=Lib.hid hown1;have HG1:=Lib.hid hg1;have HAT1:=Lib.hid hat1;clear hown1 hg1 hnil1 hat1 hne1 hgb))
       go_roundw
       case rel=>exact ⟨i+1,A',c',by go_num,by omega,HPA.out.step HGM.out HBX.out HZZ.out (by have h:=HOWN.out;exact h) HG1.out HAT1.out⟩
       case measure=>simp [intOf];omega
   · obtain rfl:i=p.acts.length:=by omega
     have hPA:=HPA.out
     obtain ⟨hG,hF,hO,hA⟩:=hPA
     rw [show p.acts.length=M.length from HML.out.symm] at hG hO
     rw [List.take_length] at hO
     have hR:=HRB.out.fr hF (fun e=>by have:=HGG.out;have:=HZ1.out;omega)
     have HT9:=Lib.hid (show wr.there (w.heap.size+1) 0 (#[Value.string p.name,Value.slice E1 L.length d1,Value.slice A M.length c]:Array Value).size from hR.there)
     have HRG:=Lib.hid (show wr.rangeAt g 0 [Value.string p.name,Value.slice E1 L.length d1,Value.slice A M.length c] from by have:=hG.range;exact this)
     have hrl:=hR.lt
     have hgl:=hG.lt
     have hsz:=hF.size
     have L1:=Lib.hid ((HROW.out.keep (w':=wr) (D':=Ex W1 wm g) hsz (fun j hj hl=>⟨hj,hF.block j hl (fun e=>hj.2.2 e)⟩)).keep (w':=wr.setCells (w.heap.size+1) 0 [Value.string p.name,Value.slice E1 L.length d1,Value.slice A M.length c]) (D':=NewD w.heap.size (wr.setCells (w.heap.size+1) 0 [Value.string p.name,Value.slice E1 L.length d1,Value.slice A M.length c])) (by rw [size_setCells];omega) (fun j hj hl=>⟨⟨by have:=hj.1;have:=HZ1.out;omega,by rw [size_setCells];omega⟩,blk_setCells _ _ _ _ _ (by have:=hj.1;have:=HZ1.out;omega)⟩))
     have hOR:RowR repActT (NewD wm.heap.size wr) wr A c M:=RowR.of_rd (hs:=ActT.cells_length) (ownsRow_rd ActT.cells_length hO) hA
     have L2:=Lib.hid (hOR.keep (w':=wr.setCells (w.heap.size+1) 0 [Value.string p.name,Value.slice E1 L.length d1,Value.slice A M.length c]) (D':=NewD w.heap.size (wr.setCells (w.heap.size+1) 0 [Value.string p.name,Value.slice E1 L.length d1,Value.slice A M.length c])) (by rw [size_setCells];omega) (fun j hj hl=>⟨⟨by have:=hj.1;have:=HBW.out.size;omega,by rw [size_setCells];omega⟩,blk_setCells _ _ _ _ _ (by have:=hj.1;have:=HGM.out;have:=HGG.out;have:=HZ1.out;omega)⟩))
     clear hR hG hF hO hA hOR
     go_upto_region 13 with fail
     go_wp2_with (first | (with_reducible refine wpList_load_mid rfl 25 _ rfl g 0 rfl [Value.string p.name,Value.slice E1 L.length d1,Value.slice A M.length c] _ HRG.out Try.underlying25 rfl (by kernel_rfl) ?_) | (with_reducible refine wpList_store_mid rfl 25 _ _ rfl (w.heap.size+1) 0 #[Value.string p.name,Value.slice E1 L.length d1,Value.slice A M.length c] rfl rfl HT9.out (by kernel_rfl) (by kernel_rfl) ?_))
     try simp only [Exit.inBlock,Exit.then]
     have hBe:Below w.heap.size w (wr.setCells (w.heap.size+1) 0 [Value.string p.name,Value.slice E1 L.length d1,Value.slice A M.length c]):=Below.setCells' _ _ HFR.out (by omega)
     refine bodyPost_ret (v:=.agg #[.string p.name,.slice E1 L.length d1,.slice A M.length c]) ?_ rfl (by rw [HR.out];exact ⟨E1,d1,A,c,rfl,L1.out,L2.out,hBe⟩)
     exact results_cell (t:=6) (T:=25) rfl _ _ (w.heap.size+1) [Value.string p.name,Value.slice E1 L.length d1,Value.slice A M.length c] _ rfl (World.rangeAt_setCells_same wr (w.heap.size+1) 0 [Value.string p.name,Value.slice E1 L.length d1,Value.slice A M.length c] HT9.out) Try.underlying25 rfl (by kernel_rfl)
end Go.Proofs.Ytffemfglngikbaa
namespace Go.Proofs.Ytffemfglngikbaa
open Go.RowKit Go.Shelf
section
variable {t t':ByteArray→ByteArray}
theorem vars5 (a:ActT):varsA a=oneN a.id++(oneN a.attr.var++(oneN a.value.a.var++(oneN a.value.b.var++oneN a.other.var))):=by
 simp [varsA,fives]
end
theorem mem_varsC {n:Nat} {p:ProdT} {c:CondT} (hc:c∈p.conds) {x:ByteArray} (hx:x∈namesN n c):x∈varsP n p:=List.mem_append.2 (.inl (List.mem_flatMap.2 ⟨c,hc,hx⟩))
theorem mem_varsA {n:Nat} {p:ProdT} {a:ActT} (ha:a∈p.acts) {x:ByteArray} (hx:x∈varsA a):x∈varsP n p:=List.mem_append.2 (.inr (List.mem_flatMap.2 ⟨a,ha,hx⟩))
end Go.Proofs.Ytffemfglngikbaa
