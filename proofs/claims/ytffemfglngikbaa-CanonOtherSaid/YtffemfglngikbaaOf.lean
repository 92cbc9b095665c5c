/-
  Texts put together: Canon5, Canon6, Canon4, OwnD, Canon7.
-/
import Derived.Test.YtffemfglngikbaaOb
import Derived.Test.YtffemfglngikbaaOd
import Derived.Test.YtffemfglngikbaaOe
import Derived.Maps.RangeWalk
namespace Go.Proofs.Ytffemfglngikbaa
open Go.RowKit Go.Shelf
attribute [local go_sem] Oper.semAt_some
set_option maxRecDepth 100000 in
set_option maxHeartbeats 16000000 in
theorem each_is {n lo:Nat} {xs:List ByteArray} {J Jx:(Nat→Prop)→List ByteArray→World→Prop} {D:Nat→Prop} {W:World} (hJ:Steady W.heap.size J) (hJx:Steady W.heap.size Jx) (hY:RoundsO Try.prog lo encStr xs J Jx) (hD : ∀k,D k→k<W.heap.size) (h0:J D [] W)
 (p:ProdT) (A1:Option Addr) (c1:Nat) (A2:Option Addr) (c2:Nat) (h1:RowR (repCondT n) D W A1 c1 p.conds) (h2:RowR repActT D W A2 c2 p.acts) (hxs:xs=varsP n p) :
 CallsIn Fence.wide 0 Try.prog 30 #[.agg #[.string p.name,.slice A1 p.conds.length c1,.slice A2 p.acts.length c2],.func (.yield lo) #[] #[]] W fun e X'=>(∃v,e = .returned v)∧ToldO xs J Jx X':=by
 have HJ:=Lib.hid hJ
 have HJx:=Lib.hid hJx
 have HY:=Lib.hid hY
 have HD:=Lib.hid hD
 have H1:=Lib.hid h1
 have H2:=Lib.hid h2
 have HXS:=Lib.hid hxs
 have hc1:=h1.cap
 have hc2:=h2.cap
 obtain ⟨W0,hW0⟩ : ∃W0,W0=(W.alloc (.cells #[.string p.name,.slice A1 p.conds.length c1,.slice A2 p.acts.length c2] 25)).alloc (.cells #[.func (.yield lo) #[] #[]] 67):=⟨_,rfl⟩
 have hb0:Below W.heap.size W W0:=by rw [hW0];exact ((Below.refl _ _).alloc (Nat.le_refl _) _).alloc (by simp) _
 have hz0:W0.heap.size=W.heap.size+2:=by rw [hW0];simp
 have hkp:Blk W0 W.heap.size 25 #[.string p.name,.slice A1 p.conds.length c1,.slice A2 p.acts.length c2]:=by rw [hW0];exact (Blk.new _ _ _).alloc _
 have hky:Blk W0 (W.heap.size+1) 67 #[.func (.yield lo) #[] #[]]:=by rw [hW0];have:=Blk.new (W.alloc (.cells #[.string p.name,.slice A1 p.conds.length c1,.slice A2 p.acts.length c2] 25)) 67 #[.func (.yield lo) #[] #[]];simpa using this
 have HI0:=Lib.hid ((ItSt.start h0).new_ hJ hb0)
 have HKP:=Lib.hid hkp
 have HKY:=Lib.hid hky
 have HB0:=Lib.hid hb0
 have HZ0:=Lib.hid hz0
 have HW0:=Lib.hid hW0
 clear hW0 hJ hJx hY hD h0 h1 h2 hxs hb0 hkp hky hz0
 refine callsIn_of_wp_marks Try.func30 rfl trivial ?_
 simp only [Try.ntmps30,List.size_toArray,List.length_cons,List.length_nil,Nat.reduceAdd,Nat.reduceSub,Array.replicate_succ,Array.replicate_zero,List.push_toArray,List.append_toArray,List.nil_append,List.cons_append]
 gi_wp2_with fail
 rw [← HW0.out]
 clear HW0
 obtain ⟨ra,hra⟩ : ∃ra,ra=p.acts.flatMap varsA:=⟨_,rfl⟩
 have HRA:=Lib.hid hra
 have HX0:=Lib.hid (show xs = []++((p.conds.drop 0).flatMap (namesN n)++ra) by rw [HXS.out,hra];rfl)
 have E0:=Lib.hid (show Plus (fun _=>False) W W0 W.heap.size∧Plus (fun _=>False) W W0 (W.heap.size+1) from ⟨.inr ⟨Nat.le_refl _,by rw [HZ0.out];omega⟩,.inr ⟨by omega,by rw [HZ0.out];omega⟩⟩)
 clear hra
 obtain ⟨I,hI⟩ : ∃I:Act→World→Prop,I=fun a w=>∃(k:Nat) (ds:List Deferred) (E:Nat→Prop) (pre:List ByteArray) (u5 u6 u15 u16 u17 u18 u19 u20 u21 u22 u23 u24 u25:Value),k≤p.conds.length∧xs=pre++((p.conds.drop k).flatMap (namesN n)++ra)∧ItSt J D E W pre w∧(E W.heap.size∧E (W.heap.size+1))∧Blk w W.heap.size 25 #[.string p.name,.slice A1 p.conds.length c1,.slice A2 p.acts.length c2]∧Blk w (W.heap.size+1) 67 #[.func (.yield lo) #[] #[]]∧Marks E ds w∧a=⟨#[.agg #[.string p.name,.slice A1 p.conds.length c1,.slice A2 p.acts.length c2],.func (.yield lo) #[] #[],.pointer (some ⟨W.heap.size,0,none⟩),.pointer (some ⟨W.heap.size+1,0,none⟩),undef,u5,u6,undef,undef,undef,undef,.pointer (some ⟨W.heap.size,1,none⟩),.slice A1 p.conds.length c1,.int .i64 (p.conds.length:Int),.int .i64 (k:Int),u15,u16,u17,u18,u19,u20,u21,u22,u23,u24,u25,undef,undef,undef,undef,undef,undef,undef,undef,undef,undef,undef,undef,undef,undef,undef,undef,undef,undef,undef,undef,undef,undef,undef,undef,undef,undef,undef,undef,undef,undef,undef,undef,undef,undef,undef,undef,undef],ds⟩:=⟨_,rfl⟩
 refine wpIn_loop I (fun a _=>p.conds.length - (intOf (a.tmps.getD 14 undef)).toNat) ?_ ?_
 · rw [hI]
   exact ⟨0,[],_,[],undef,undef,undef,undef,undef,undef,undef,undef,undef,undef,undef,undef,undef,Nat.zero_le _,HX0.out,HI0.out,E0.out,HKP.out,HKY.out,trivial,rfl⟩
 intro a wr hIa
 have HII:=Lib.hid hI
 rw [hI] at hIa
 obtain ⟨k,ds,E,pre,u5,u6,u15,u16,u17,u18,u19,u20,u21,u22,u23,u24,u25,hk,hx,hit,hE,hkp,hky,hm,rfl⟩:=hIa
 have HX:=Lib.hid hx
 have HI:=Lib.hid hit
 have HE:=Lib.hid hE
 have HKP:=Lib.hid hkp
 have HKY:=Lib.hid hky
 have HM:=Lib.hid hm
 have hwr:=hit.fr.size
 have hkpl:=hkp.lt
 have hkyl:=hky.lt
 clear hI hx hit hE hkp hky hm HI0 HX0 E0
 by_cases hlt:k<p.conds.length
 · obtain ⟨m,hnm⟩ : ∃m,n=m+1:=by
    cases n with
    | zero=>have:=row_zero H1.out;rw [this] at hlt;simp at hlt
    | succ m=>exact ⟨m,rfl⟩
   subst hnm
   obtain ⟨y,hy0⟩ : ∃y,y=p.conds[k]:=⟨_,rfl⟩
   have hcr:=H1.out.fr HI.out.fr (fun k hk hn=>hn hk)
   obtain ⟨gt,ot,B1,b1_,B2,b2_,B3,b3_,hA,_,hgt,q0,q1,q2,q3,q4,q5,q6,r1,r2,r3⟩:=at_CondT hcr hlt
   have HDC:=Lib.hid (show (p.conds.drop k).flatMap (namesN (m+1))=namesN (m+1) y++(p.conds.drop (k+1)).flatMap (namesN (m+1)) by rw [hy0,List.drop_eq_getElem_cons hlt,List.flatMap_cons])
   subst hA
   rw [← hy0] at q0 q1 q2 q3 q4 q5 q6 r1 r2 r3
   have j1:(0:Int)≤(k:Int):=by omega
   have j2:(k:Int)<(p.conds.length:Int):=by omega
   obtain ⟨W5,hW5⟩ : ∃W5,W5=wr.alloc (.cells #[.int .i64 y.kind,.bool y.goal,.string y.id,.slice B1 y.attr.length b1_,.slice B2 y.value.length b2_,.bool y.acc,.slice B3 y.conds.length b3_] 50):=⟨_,rfl⟩
   have hb5:Below wr.heap.size wr W5:=by rw [hW5];exact (Below.refl _ _).alloc (Nat.le_refl _) _
   have HW5:=Lib.hid hW5
   have HB5:=Lib.hid hb5
   have R1:=Lib.hid (r1.new_ hb5)
   have R2:=Lib.hid (r2.new_ hb5)
   have R3:=Lib.hid (r3.new_ hb5)
   clear hy0 hcr r1 r2 r3 hW5 hb5
   gi_wp2_with fail
   rw [← HW5.out]
   refine ⟨trivial,rfl,?_⟩
   refine (callsIn_wide.2 (mknames_is y B1 B2 B3 b1_ b2_ b3_ W5)).mono ?_
   rintro e w3 ⟨rfl,hkb,hb3⟩
   have hz5:=HB5.out.size
   have hz3:=hb3.size
   have hkbl:=hkb.lt
   obtain ⟨kb,hkbe⟩ : ∃kb,kb=W5.heap.size:=⟨_,rfl⟩
   rw [← hkbe] at hkb hkbl ⊢
   have HB3:=Lib.hid (HB5.out.trans (hb3.mono hz5))
   have R1:=Lib.hid (R1.out.new_ hb3)
   have R2:=Lib.hid (R2.out.new_ hb3)
   have R3:=Lib.hid (R3.out.new_ hb3)
   have HKB:=Lib.hid hkb
   have HE5:=Lib.hid (show Plus E wr w3 kb from .inr ⟨by omega,hkbl⟩)
   have HI3:=Lib.hid (HI.out.new_ HJ.out HB3.out)
   have HKP3:=Lib.hid (HKP.out.new_ HB3.out)
   have HKY3:=Lib.hid (HKY.out.new_ HB3.out)
   have HM3:=Lib.hid (show Marks (fun k=>E k∧k<wr.heap.size) ds w3 from (HM.out.of).fr (Fr.of_below HB3.out) (fun k hk hn=>by have:=hk.2;omega))
   have HDW:=Lib.hid (show ∀k,D k→k<W.heap.size from HD.out)
   have hw3:wr.heap.size≤w3.heap.size:=by omega
   clear hkb hb3 q0 q1 q2 q3 q4 q5 q6 hkbe
   gi_wp2_with fail
   obtain ⟨I2,hI2⟩ : ∃I2:(Nat→Prop)→List ByteArray→World→Prop,I2=fun D' q X=>∃E',ItSt J D E' W (pre++q) X∧(∀k,D' k→D k∨E' k)∧(∀k,E k→E' k)∧Blk X W.heap.size 25 #[.string p.name,.slice (some ⟨gt,ot,none⟩) p.conds.length c1,.slice A2 p.acts.length c2]∧Blk X (W.heap.size+1) 67 #[.func (.yield lo) #[] #[]]∧Marks (fun k=>E k∧k<wr.heap.size) ds X:=⟨_,rfl⟩
   obtain ⟨Ix,hIx⟩ : ∃Ix:Code→(Nat→Prop)→List ByteArray→World→Prop,Ix=fun cd D' q X=>cd = .ret∧∃E',StopSt Jx D E' W xs X∧(∀k,D' k→D k∨E' k)∧(∀k,E k→E' k)∧Marks (fun k=>E k∧k<wr.heap.size) ds X:=⟨_,rfl⟩
   have hup : ∀(D' E':Nat→Prop),(∀k,D' k→D k∨E' k)→∀k,FromB w3.heap.size D' k→E' k:=fun D' E' h k hk=>by
    rcases h k hk.1 with h1 | h1
    · have:=HDW.out k h1;have:=hk.2;omega
    · exact h1
   have HUP:=Lib.hid hup
   have hst:Steady w3.heap.size I2:=by
    subst hI2
    rintro D' q X Y ⟨E',g1,g2,g3,g4,g5,g6⟩ hF
    exact ⟨Plus E' X Y,g1.step HJ.out (hF.mono (fun k _ hk=>HUP.out D' E' g2 k hk)),fun k hk=>hk.elim (fun h=>(g2 k h).imp id .inl) (fun h=>.inr (.inr h)),fun k hk=>.inl (g3 k hk),g4.fr hF (fun h=>by have:=h.2;omega),g5.fr hF (fun h=>by have:=h.2;omega),g6.fr hF (fun k hk h=>by have:=hk.2;have:=h.2;omega)⟩
   have hstx : ∀cd,Steady w3.heap.size (Ix cd):=by
    subst hIx
    rintro cd D' q X Y ⟨g0,E',g1,g2,g3,g6⟩ hF
    exact ⟨g0,Plus E' X Y,g1.step HJx.out (hF.mono (fun k _ hk=>HUP.out D' E' g2 k hk)),fun k hk=>hk.elim (fun h=>(g2 k h).imp id .inl) (fun h=>.inr (.inr h)),fun k hk=>.inl (g3 k hk),g6.fr hF (fun k hk h=>by have:=hk.2;have:=h.2;omega)⟩
   have HST:=Lib.hid hst
   have HSTX:=Lib.hid hstx
   refine wpIn_rangeO (w:=w3) (D:=fun j=>D j∨j=kb) (by rfl) (by intro args w;kernel_rfl) (fun k hk=>hk.elim (fun h=>by have:=HDW.out k h;omega) (fun h=>by omega))
    (fun V hV=>namesI_is m y kb B1 B2 B3 b1_ b2_ b3_ V (HKB.out.new_ hV) (.inr rfl) ((R1.out.new_ hV).weaken (fun k hk=>.inl hk)) ((R2.out.new_ hV).weaken (fun k hk=>.inl hk)) ((R3.out.new_ hV).weaken (fun k hk=>.inl hk)))
    (fun x=>by rfl) I2 Ix hst hstx ?_ ?_ ?_ ?_
   · subst hI2
     exact ⟨Plus E wr w3,by rw [List.append_nil];exact HI3.out,fun k hk=>hk.imp id (fun h=>by rw [h];exact HE5.out),fun k hk=>.inl hk,HKP3.out,HKY3.out,HM3.out⟩
   · intro D' l q x post X hx2 hl hDl hIX
     have HX2:=Lib.hid (show xs=(pre++q)++x :: (post++((p.conds.drop (k+1)).flatMap (namesN (m+1))++ra)) by rw [HX.out,HDC.out,hx2];simp)
     simp only [encStr,Array.zip]
     gi_wp2_with fail
     refine ⟨Fr.refl _ _,fun X2 hF2 hz2 _=>?_⟩
     have hI3:=hst.same hIX (hF2.mono (fun k _ e=>by rw [e];exact ⟨hDl,hl⟩)) hz2
     have HI2:=Lib.hid hI2
     have HIX:=Lib.hid hIx
     rw [hI2] at hI3
     clear hI2 hIx hst hstx hIX hF2 hz2 hx2 hup
     obtain ⟨E',g1,g2,g3,g4,g5,g6⟩:=hI3
     have y0:X2.cell? ⟨W.heap.size+1,0,none⟩=some (.func (.yield lo) #[] #[]):=(g5.cell 0).trans rfl
     have yz:=g5.lt
     have G1:=Lib.hid g1
     have G2:=Lib.hid g2
     have G3:=Lib.hid g3
     have G4:=Lib.hid g4
     have G5:=Lib.hid g5
     have G6:=Lib.hid g6
     have hEW:=Lib.hid (show E' W.heap.size∧E' (W.heap.size+1) from ⟨g3 _ HE.out.1,g3 _ HE.out.2⟩)
     obtain ⟨fy,ty,ay,by_,hyy,hR⟩:=g1.roundS HY.out HX2.out
     dsimp only [encStr] at hyy
     have HRR:=Lib.hid hR
     clear hR g1 g2 g3 g4 g5 g6
     gi_wp2_with fail
     refine ⟨rfl,HRR.out.mono ?_⟩
     rintro e W3 (⟨rfl,hi3,hk3⟩ | ⟨rfl,hs3,hk3⟩)
     · have HI3:=Lib.hid hi3
       have HK3:=Lib.hid hk3
       clear hi3 hk3 hyy y0 yz
       gi_wp2
       rw [HI2.out]
       exact ⟨HK3.out.mono (fun k _ hk hd=>hk (G2.out k hd)),E',by rw [← List.append_assoc];exact HI3.out,G2.out,G3.out,G4.out.fr HK3.out (fun h=>h (.inr hEW.out.1)),G5.out.fr HK3.out (fun h=>h (.inr hEW.out.2)),G6.out.fr HK3.out (fun k hk h=>h (.inr (G3.out k hk.1)))⟩
     · have HS3:=Lib.hid hs3
       have HK3:=Lib.hid hk3
       clear hs3 hk3 hyy y0 yz
       gi_wp2
       rw [HIX.out]
       exact ⟨HK3.out.mono (fun k _ hk hd=>hk (G2.out k hd)),rfl,E',HS3.out,G2.out,G3.out,G6.out.fr HK3.out (fun k hk h=>h (.inr (G3.out k hk.1)))⟩
   · intro D' d X hd hDd hIX hK
     rw [hI2] at hIX
     obtain ⟨E',g1,g2,g3,g4,g5,g6⟩:=hIX
     have hE'd:E' d:=HUP.out D' E' g2 d ⟨hDd,hd⟩
     have HMX:=Lib.hid (show Marks E' ({ target:=.collected d,args:=#[] } :: ds) X from g6.cons (fun k hk=>g3 k hk.1) hE'd hK (fun h=>by have:=h.2;omega))
     have G1:=Lib.hid g1
     have G3:=Lib.hid g3
     have G4:=Lib.hid g4
     have G5:=Lib.hid g5
     have HXE:=Lib.hid (show xs=(pre++namesN (m+1) y)++((p.conds.drop (k+1)).flatMap (namesN (m+1))++ra) by rw [HX.out,HDC.out];simp)
     clear hI2 hIx hst hstx g1 g2 g3 g4 g5 g6 hK hup
     gi_wp2_with fail
     refine ⟨?_,by simp [intOf];omega⟩
     rw [HII.out]
     exact ⟨k+1,_,E',_,_,_,_,_,_,_,_,_,_,_,_,_,_,by omega,HXE.out,G1.out,⟨G3.out _ HE.out.1,G3.out _ HE.out.2⟩,G4.out,G5.out,HMX.out,by go_num⟩
   · intro D' d cd q post X hd hDd hx2 hIX hK
     rw [hIx] at hIX
     obtain ⟨rfl,E',g1,g2,g3,g6⟩:=hIX
     have hE'd:E' d:=HUP.out D' E' g2 d ⟨hDd,hd⟩
     have HMX:=Lib.hid (show Marks E' ({ target:=.collected d,args:=#[] } :: ds) X from g6.cons (fun k hk=>g3 k hk.1) hE'd hK (fun h=>by have:=h.2;omega))
     have G1:=Lib.hid g1
     clear hI2 hIx hst hstx g1 g2 g3 g6 hK hup hx2
     gi_wp2_with fail
     refine leaves_marks _ _ HMX.out (fun w' hF hz=>?_)
     exact ⟨_,results_none rfl _ _ _,⟨_,rfl⟩,(G1.out.same HJx.out hF hz).told⟩
 · obtain rfl:k=p.conds.length:=by omega
   have HXA:=Lib.hid (show xs=pre++(p.acts.drop 0).flatMap varsA by rw [HX.out,List.drop_length,HRA.out];simp)
   have p2:wr.cell? ⟨W.heap.size,2,none⟩=some (.slice A2 p.acts.length c2):=(HKP.out.cell 2).trans rfl
   clear HX
   gi_wp2_with fail
   clear p2
   gi_loopw [29] (fun s wr=>∃(i:Nat) (E1:Nat→Prop) (p1:List ByteArray),s = .int .i64 i∧i≤p.acts.length∧xs=p1++(p.acts.drop i).flatMap varsA∧ItSt J D E1 W p1 wr∧(∀k,E k→E1 k)∧Blk wr (W.heap.size+1) 67 #[.func (.yield lo) #[] #[]]∧Marks E1 ds wr) (fun s wr=>p.acts.length - (intOf s).toNat)
   case atStart=>exact ⟨0,E,pre,rfl,Nat.zero_le _,HXA.out,HI.out,fun _ h=>h,HKY.out,HM.out⟩
   case round=>
    obtain ⟨i,E1,p1,rfl,hi,hx1,hit1,hee,hky1,hm1⟩:=hrel
    have HX1:=Lib.hid hx1
    have HI1:=Lib.hid hit1
    have HEE:=Lib.hid hee
    have HKY1:=Lib.hid hky1
    have HM1:=Lib.hid hm1
    have hyl:=hky1.lt
    clear hx1 hit1 hee hky1 hm1 HXA HI HKY HM hkpl hkyl
    by_cases hlt:i<p.acts.length
    · obtain ⟨y,hy⟩ : ∃y,y=p.acts[i]:=⟨_,rfl⟩
      have h2r:=H2.out.fr HI1.out.fr (fun k hk hn=>hn hk)
      obtain ⟨gg,oo,hAA,_,hgg,_⟩:=at_ActT h2r hlt
      have HRG:=Lib.hid (show wr.rangeAt gg (oo+i*19) [.string y.id,.string y.attr.var,.int .i64 y.attr.sym.kind,.string y.attr.sym.text,.int .i64 y.attr.sym.n,.int .i64 y.value.op,.string y.value.a.var,.int .i64 y.value.a.sym.kind,.string y.value.a.sym.text,.int .i64 y.value.a.sym.n,.string y.value.b.var,.int .i64 y.value.b.sym.kind,.string y.value.b.sym.text,.int .i64 y.value.b.sym.n,.int .i64 y.pref,.string y.other.var,.int .i64 y.other.sym.kind,.string y.other.sym.text,.int .i64 y.other.sym.n] from fun j v hv=>by
       obtain ⟨g',off',cs,e1,_,_,hr,hc⟩:=h2r.at_ hlt
       rw [hAA] at e1
       cases e1
       have hr2:cs=ActT.cells p.acts[i]:=hr
       subst hr2
       rw [← hy] at hc
       exact hc j v hv)
      have HDR:=Lib.hid (show (p.acts.drop i).flatMap varsA=varsA y++(p.acts.drop (i+1)).flatMap varsA by rw [List.drop_eq_getElem_cons hlt,List.flatMap_cons,← hy])
      subst hAA
      have b1:(0:Int)≤(i:Int):=by omega
      have b2:(i:Int)<(p.acts.length:Int):=by omega
      obtain ⟨W6,hW6,hth,hrg,hb6,hz6⟩:=kept_new (w:=wr) (t:=58) [.string ⟨#[]⟩,.string ⟨#[]⟩,.int .i64 0,.string ⟨#[]⟩,.int .i64 0,.int .i64 0,.string ⟨#[]⟩,.int .i64 0,.string ⟨#[]⟩,.int .i64 0,.string ⟨#[]⟩,.int .i64 0,.string ⟨#[]⟩,.int .i64 0,.int .i64 0,.string ⟨#[]⟩,.int .i64 0,.string ⟨#[]⟩,.int .i64 0] [.string y.id,.string y.attr.var,.int .i64 y.attr.sym.kind,.string y.attr.sym.text,.int .i64 y.attr.sym.n,.int .i64 y.value.op,.string y.value.a.var,.int .i64 y.value.a.sym.kind,.string y.value.a.sym.text,.int .i64 y.value.a.sym.n,.string y.value.b.var,.int .i64 y.value.b.sym.kind,.string y.value.b.sym.text,.int .i64 y.value.b.sym.n,.int .i64 y.pref,.string y.other.var,.int .i64 y.other.sym.kind,.string y.other.sym.text,.int .i64 y.other.sym.n] rfl
      have HW6:=Lib.hid hW6
      have HTH:=Lib.hid hth
      have e0:W6.cell? ⟨wr.heap.size,0,none⟩=some (.string y.id):=hrg 0 _ rfl
      have e1:W6.cell? ⟨wr.heap.size,1,none⟩=some (.string y.attr.var):=hrg 1 _ rfl
      have e6:W6.cell? ⟨wr.heap.size,6,none⟩=some (.string y.value.a.var):=hrg 6 _ rfl
      have e10:W6.cell? ⟨wr.heap.size,10,none⟩=some (.string y.value.b.var):=hrg 10 _ rfl
      have e15:W6.cell? ⟨wr.heap.size,15,none⟩=some (.string y.other.var):=hrg 15 _ rfl
      have hlo6:wr.heap.size<W6.heap.size:=by omega
      have HI6:=Lib.hid (HI1.out.new_ HJ.out hb6)
      have HKY6:=Lib.hid (HKY1.out.new_ hb6)
      have HM6:=Lib.hid ((HM1.out.of.fr (Fr.of_below hb6) (fun k hk hn=>by have:=hk.2;omega)).mono (fun k hk=>(.inl hk.1:Plus E1 wr W6 k)))
      have HE6:=Lib.hid (show ∀k,E k→Plus E1 wr W6 k from fun k hk=>.inl (HEE.out k hk))
      have HX6:=Lib.hid (show xs=p1++(((fives y).drop 0).flatMap oneN++(p.acts.drop (i+1)).flatMap varsA) by rw [HX1.out,HDR.out];rfl)
      clear hy h2r hW6 hth hrg hb6 hz6
      gi_wp2_with (first
       | (with_reducible refine wpListIn_load_mid rfl 58 _ rfl gg (oo+i*19) rfl [.string y.id,.string y.attr.var,.int .i64 y.attr.sym.kind,.string y.attr.sym.text,.int .i64 y.attr.sym.n,.int .i64 y.value.op,.string y.value.a.var,.int .i64 y.value.a.sym.kind,.string y.value.a.sym.text,.int .i64 y.value.a.sym.n,.string y.value.b.var,.int .i64 y.value.b.sym.kind,.string y.value.b.sym.text,.int .i64 y.value.b.sym.n,.int .i64 y.pref,.string y.other.var,.int .i64 y.other.sym.kind,.string y.other.sym.text,.int .i64 y.other.sym.n] _ HRG.out Try.underlying58 rfl (by kernel_rfl) ?_)
       | ((with_reducible refine wpListIn_store_mid rfl 58 _ _ rfl wr.heap.size 0 #[.string y.id,.string y.attr.var,.int .i64 y.attr.sym.kind,.string y.attr.sym.text,.int .i64 y.attr.sym.n,.int .i64 y.value.op,.string y.value.a.var,.int .i64 y.value.a.sym.kind,.string y.value.a.sym.text,.int .i64 y.value.a.sym.n,.string y.value.b.var,.int .i64 y.value.b.sym.kind,.string y.value.b.sym.text,.int .i64 y.value.b.sym.n,.int .i64 y.pref,.string y.other.var,.int .i64 y.other.sym.kind,.string y.other.sym.text,.int .i64 y.other.sym.n] rfl rfl HTH.out (by kernel_rfl) (by kernel_rfl) ?_);rw [← HW6.out]))
      clear e0 e1 e6 e10 e15 hlo6
      gi_loopw [50] (fun s wr=>∃(j:Nat) (E1:Nat→Prop) (p1:List ByteArray),s = .int .i64 j∧j≤5∧xs=p1++(((fives y).drop j).flatMap oneN++(p.acts.drop (i+1)).flatMap varsA)∧ItSt J D E1 W p1 wr∧(∀k,E k→E1 k)∧Blk wr (W.heap.size+1) 67 #[.func (.yield lo) #[] #[]]∧Marks E1 ds wr) (fun s wr=>5 - (intOf s).toNat)
      case atStart=>exact ⟨0,_,_,rfl,by omega,HX6.out,HI6.out,HE6.out,HKY6.out,HM6.out⟩
      case round=>
       clear HX1 HI1 HEE HKY1 HM1 HRG HW6 HTH HI6 HKY6 HM6 HE6 HX6
       obtain ⟨j,E1,p1,rfl,hj,hx1,hit1,hee,hky1,hm1⟩:=hrel
       have HX1:=Lib.hid hx1
       have HI1:=Lib.hid hit1
       have HEE:=Lib.hid hee
       have HKY1:=Lib.hid hky1
       have HM1:=Lib.hid hm1
       have y0:wr.cell? ⟨W.heap.size+1,0,none⟩=some (.func (.yield lo) #[] #[]):=(hky1.cell 0).trans rfl
       have yz:=hky1.lt
       clear hx1 hit1 hee hky1 hm1
       by_cases hj5:j<5
       · obtain ⟨v,hix,hv⟩ : ∃v:ByteArray,(∀V,(Instr.index 97 (.agg #[.string y.id,.string y.attr.var,.string y.value.a.var,.string y.value.b.var,.string y.other.var]) (.int .i64 (j:Int))).run Try.prog V = .ok (.string v) V)∧((fives y).drop j).flatMap oneN=oneN v++((fives y).drop (j+1)).flatMap oneN:=by
          match j,hj5 with
          | 0,_=>exact ⟨y.id,fun V=>by rfl,rfl⟩
          | 1,_=>exact ⟨y.attr.var,fun V=>by rfl,rfl⟩
          | 2,_=>exact ⟨y.value.a.var,fun V=>by rfl,rfl⟩
          | 3,_=>exact ⟨y.value.b.var,fun V=>by rfl,rfl⟩
          | 4,_=>exact ⟨y.other.var,fun V=>by rfl,rfl⟩
         have HV:=Lib.hid hv
         have jj1:(0:Int)≤(j:Int):=by omega
         have jj2:(j:Int)<5:=by omega
         clear hv
         by_cases hve:v.toList = []
         · have va:(v.toList == [])=true:=by simp [hve]
           have vb:v.toList.isEmpty=true:=by simp [hve]
           have vc:decide (v.toList = [])=true:=by simp [hve]
           have HXN:=Lib.hid (show xs=p1++(((fives y).drop (j+1)).flatMap oneN++(p.acts.drop (i+1)).flatMap varsA) by rw [HX1.out,HV.out,oneN_no hve,List.nil_append])
           clear hve
           gi_wp2_with fail
           refine ⟨(fun f h=>by cases h),?_⟩
           gi_wp2_with fail
           go_roundw
           case rel=>exact ⟨j+1,E1,p1,by go_num,by omega,HXN.out,HI1.out,HEE.out,HKY1.out,HM1.out⟩
           case measure=>simp [intOf]<;>omega
         · have va:(v.toList == [])=false:=by simp [hve]
           have vb:v.toList.isEmpty=false:=by simp [hve]
           have vc:decide (v.toList = [])=false:=by simp [hve]
           have HXV:=Lib.hid (show xs=p1++v :: (((fives y).drop (j+1)).flatMap oneN++(p.acts.drop (i+1)).flatMap varsA) by rw [HX1.out,HV.out,oneN_yes hve];simp)
           clear hve
           obtain ⟨fy,ty,ay,by_,hyy,hR⟩:=HI1.out.roundS HY.out HXV.out
           dsimp only [encStr] at hyy
           have HRR:=Lib.hid hR
           clear hR
           gi_wp2_with fail
           refine ⟨rfl,HRR.out.mono ?_⟩
           rintro e W3 (⟨rfl,hi3,hk3⟩ | ⟨rfl,hs3,hk3⟩)
           · have HI3:=Lib.hid hi3
             have HK3:=Lib.hid hk3
             have HXN:=Lib.hid (show xs=(p1 ++ [v])++(((fives y).drop (j+1)).flatMap oneN++(p.acts.drop (i+1)).flatMap varsA) by rw [HXV.out];simp)
             clear hi3 hk3 hyy y0 yz
             gi_wp2_with fail
             go_roundw
             case rel=>exact ⟨j+1,E1,_,by go_num,by omega,HXN.out,HI3.out,HEE.out,HKY1.out.fr HK3.out (fun h=>h (.inr (HEE.out _ HE.out.2))),HM1.out.fr HK3.out (fun k hk h=>h (.inr hk))⟩
             case measure=>simp [intOf]<;>omega
           · have HS3:=Lib.hid hs3
             have HMX:=Lib.hid (HM1.out.fr hk3 (fun k hk h=>h (.inr hk)))
             clear hs3 hk3 hyy y0 yz
             gi_wp2_with fail
             refine leaves_marks _ _ HMX.out (fun w' hF hz=>?_)
             exact ⟨_,results_none rfl _ _ _,⟨_,rfl⟩,(HS3.out.same HJx.out hF hz).told⟩
       · obtain rfl:j=5:=by omega
         have HXN:=Lib.hid (show xs=p1++(p.acts.drop (i+1)).flatMap varsA by rw [HX1.out];rfl)
         clear y0 yz
         gi_wp2_with fail
         go_roundw
         case rel=>exact ⟨i+1,E1,p1,by go_num,by omega,HXN.out,HI1.out,HEE.out,HKY1.out,HM1.out⟩
         case measure=>simp [intOf]<;>omega
    · obtain rfl:i=p.acts.length:=by omega
      have HXN:=Lib.hid (show p1=xs by have:=HX1.out;rw [List.drop_length,List.flatMap_nil,List.append_nil] at this;exact this.symm)
      gi_wp2_with fail
      refine leaves_marks _ _ HM1.out (fun w' hF hz=>?_)
      have h9:=HI1.out.same HJ.out hF hz
      rw [HXN.out] at h9
      exact ⟨_,results_none rfl _ _ _,⟨_,rfl⟩,h9.told⟩
end Go.Proofs.Ytffemfglngikbaa
namespace Go.Proofs.Ytffemfglngikbaa
open Go.RowKit Go.Shelf
attribute [local go_sem] Oper.semAt_some
set_option maxRecDepth 100000 in
set_option maxHeartbeats 4000000 in
theorem varsI_is {D:Nat→Prop} (n:Nat) (p:ProdT) (kb:Nat) (A1 A2:Option Addr) (c1 c2:Nat) (W:World) (hkb:Blk W kb 25 #[.string p.name,.slice A1 p.conds.length c1,.slice A2 p.acts.length c2]) (hD : ∀k,D k→k<W.heap.size) (h1:RowR (repCondT n) D W A1 c1 p.conds) (h2:RowR repActT D W A2 c2 p.acts) :
 IterO Try.prog 29 #[.pointer (some ⟨kb,0,none⟩)] encStr (varsP n p) W D:=by
 intro lo J Jx hJ hJx h0 hY
 have HC:=Lib.hid (each_is hJ hJx hY hD h0 p A1 c1 A2 c2 h1 h2 rfl)
 obtain ⟨vs,hvs⟩ : ∃vs,vs=varsP n p:=⟨_,rfl⟩
 rw [← hvs] at HC ⊢
 obtain ⟨q0,q1,q2⟩:=hkb.c3
 have hkl:=hkb.lt
 clear hvs h0 hJ hJx hY h1 h2 hkb hD
 refine callsIn_of_wp Try.func29 rfl trivial ?_
 simp only [Try.ntmps29,List.size_toArray,List.length_cons,List.length_nil,Nat.reduceAdd,Nat.reduceSub,Array.replicate_succ,Array.replicate_zero,List.push_toArray,List.append_toArray,List.nil_append,List.cons_append]
 gi_wp2_with fail
 refine ⟨trivial,rfl,?_⟩
 refine HC.out.mono ?_
 rintro e w5 ⟨⟨v,rfl⟩,hT⟩
 have HT:=Lib.hid hT
 clear hT q0 q1 q2
 gi_wp2_with fail
 go_end0
 exact ⟨⟨_,rfl⟩,HT.out⟩
set_option maxHeartbeats 400000 in
theorem mkvars_is (p:ProdT) (A1 A2:Option Addr) (c1 c2:Nat) (w:World) :
 Calls Try.prog 11 #[.agg #[.string p.name,.slice A1 p.conds.length c1,.slice A2 p.acts.length c2]] w fun e w'=>e = .returned (.func (.func 29) #[] #[.pointer (some ⟨w.heap.size,0,none⟩)])∧Blk w' w.heap.size 25 #[.string p.name,.slice A1 p.conds.length c1,.slice A2 p.acts.length c2]∧Below w.heap.size w w':=by
 go_enter Try.func11,Try.ntmps11
 go_wp2_with fail
 go_ret
 exact ⟨rfl,Blk.new _ _ _,(Below.refl _ _).alloc (Nat.le_refl _) _⟩
def MapAt (bm bp:Nat) (us:List ByteArray) (S:Nat→Prop) (X:World):Prop:=
 ∃sn A cc mm,Blk X bm 106 #[.pointer (some ⟨bp,0,none⟩)]∧PgWSet X bp sn A cc mm∧MapOk mm us∧AIn A S
theorem MapAt.new_ {bm bp:Nat} {us:List ByteArray} {S:Nat→Prop} {X Y:World} (h:MapAt bm bp us S X) (hb:Below X.heap.size X Y):MapAt bm bp us S Y:=by
 obtain ⟨sn,A,cc,mm,h1,h2,h3,h4⟩:=h
 exact ⟨sn,A,cc,mm,h1.new_ hb,h2.new_ hb,h3,h4⟩
theorem MapAt.fr {bm bp:Nat} {us:List ByteArray} {S M:Nat→Prop} {X Y:World} (h:MapAt bm bp us S X) (hF:Fr M X Y) (hm : ¬M bm) (hp : ¬M bp) (hS : ∀k,S k→¬M k):MapAt bm bp us S Y:=by
 obtain ⟨sn,A,cc,mm,h1,h2,h3,h4⟩:=h
 exact ⟨sn,A,cc,mm,h1.fr hF hm,h2.fr hF hp (h4.mono hS),h3,h4⟩
theorem mget_is {bm bp:Nat} {us:List ByteArray} {S:Nat→Prop} (v:ByteArray) (w:World) (h:MapAt bm bp us S w) (hl:us.length≤1000000) :
 Calls Try.prog 43 #[.pointer (some ⟨bm,0,none⟩),.string v] w fun e w'=>e = .returned (.tuple #[.string (numT us v),.bool (decide (v∈us))])∧Below w.heap.size w w':=by
 obtain ⟨sn,A,cc,mm,h1,h2,h3,h4⟩:=h
 have hlm:(mm.length:Int)≤1000000:=by rw [h3.len];omega
 by_cases hv:v∈us
 · obtain ⟨y,g1,g2⟩:=h3.get (z:=⟨#[]⟩) hv
   have:=wmapget_is bm bp cc sn A mm v y w h1 h2 h3.srt hlm (by rw [h3.has,decide_eq_true hv]) g1
   rw [g2] at this
   rw [decide_eq_true hv]
   exact this
 · have:=wmapget_no bm bp cc sn A mm v w h1 h2 h3.srt hlm (by rw [h3.has,decide_eq_false hv])
   rw [decide_eq_false hv,numT,if_neg hv]
   exact this
set_option maxRecDepth 100000 in
set_option maxHeartbeats 4000000 in
theorem pnamer_is {bt bm bp:Nat} {us:List ByteArray} {S:Nat→Prop} (w:World) (hb:Blk w bt 81 #[.pointer (some ⟨bm,0,none⟩)]) (h:MapAt bm bp us S w) (hl:us.length≤1000000) :
 NamerOk 47 #[.pointer (some ⟨bt,0,none⟩)] w (fun _=>True) (numT us):=by
 refine ⟨fun args w=>by kernel_rfl,fun v W hW _=>?_⟩
 have HC:=Lib.hid (mget_is v W (h.new_ hW) hl)
 have hB:=hb.new_ hW
 have b0:=hB.c1
 have bz:=hB.lt
 clear h hb hB hW
 show Calls Try.prog 47 #[.string v,.pointer (some ⟨bt,0,none⟩)] W _
 obtain ⟨t,ht⟩ : ∃t,t=numT us v:=⟨_,rfl⟩
 obtain ⟨b,hbb⟩ : ∃b,b=decide (v∈us):=⟨_,rfl⟩
 rw [← ht,← hbb] at HC
 rw [← ht]
 clear ht hbb
 go_enter Try.func47,Try.ntmps47
 go_wp2_with fail
 refine HC.out.mono ?_
 rintro e w5 ⟨rfl,hb5⟩
 have HB5:=Lib.hid hb5
 clear hb5 b0
 go_wp2_with fail
 go_ret
 exact ⟨rfl,HB5.out⟩
def PlI (w:World) (bt bm bp:Nat) (cp:Array Value) (D:Nat→Prop) (q:List ByteArray) (X:World):Prop:=
 Blk X bt 81 #[.pointer (some ⟨bm,0,none⟩)]∧MapAt bm bp (uq q) (fun k=>w.heap.size+2≤k∧¬D k) X∧Blk X w.heap.size 25 cp∧Blk X (w.heap.size+1) 25 #[.string ⟨#[]⟩,.slice none 0 0,.slice none 0 0]∧
  (¬D bt∧¬D bm∧¬D bp∧¬D w.heap.size∧¬D (w.heap.size+1))∧(w.heap.size+2≤bt∧w.heap.size+2≤bm∧w.heap.size+2≤bp)∧Below w.heap.size w X∧∀k,D k→k<X.heap.size
theorem PlI.step {w:World} {bt bm bp B:Nat} {cp:Array Value} {D:Nat→Prop} {q:List ByteArray} {X Y:World} (h:PlI w bt bm bp cp D q X) (hB:w.heap.size≤B) (hF:Fr (FromB B D) X Y):PlI w bt bm bp cp (Plus D X Y) q Y:=by
 obtain ⟨h1,h2,h3,h4,⟨n1,n2,n3,n4,n5⟩,h6,h7,h8⟩:=h
 have hl1:=h1.lt
 have hl3:=h3.lt
 have hl4:=h4.lt
 have hl2:bm<X.heap.size∧bp<X.heap.size:=by obtain ⟨_,_,_,_,g1,g2,_⟩:=h2;exact ⟨g1.lt,g2.lt⟩
 have np : ∀k,k<X.heap.size→¬D k→¬Plus D X Y k:=fun k hk hn hp=>hp.elim hn (fun h=>by omega)
 refine ⟨h1.fr hF (fun h=>n1 h.1),?_,h3.fr hF (fun h=>n4 h.1),h4.fr hF (fun h=>n5 h.1),⟨np _ hl1 n1,np _ hl2.1 n2,np _ hl2.2 n3,np _ hl3 n4,np _ hl4 n5⟩,h6,h7.trans (hF.below h7.size (fun k hk hn=>by have:=hn.2;omega)),fun k hk=>hk.elim (fun hk=>Nat.lt_of_lt_of_le (h8 k hk) hF.size) (·.2)⟩
 obtain ⟨sn,A,cc,mm,g1,g2,g3,g4⟩:=h2
 have hA:=g2.row_lt
 exact ⟨sn,A,cc,mm,g1.fr hF (fun h=>n2 h.1),g2.fr hF (fun h=>n3 h.1) (g4.mono (fun k hk h=>hk.2 h.1)),g3,fun a ha=>⟨(g4 a ha).1,np _ (hA a ha) (g4 a ha).2⟩⟩
theorem PlI.new_ {w:World} {bt bm bp:Nat} {cp:Array Value} {D:Nat→Prop} {q:List ByteArray} {X Y:World} (h:PlI w bt bm bp cp D q X) (hb:Below X.heap.size X Y):PlI w bt bm bp cp D q Y:=by
 obtain ⟨h1,h2,h3,h4,h5,h6,h7,h8⟩:=h
 exact ⟨h1.new_ hb,h2.new_ hb,h3.new_ hb,h4.new_ hb,h5,h6,h7.trans (hb.mono h7.size),fun k hk=>Nat.lt_of_lt_of_le (h8 k hk) hb.size⟩
theorem PlI.put {w:World} {bt bm bp cc:Nat} {sn:Bool} {A:Option Addr} {mm:List PgW} {cp:Array Value} {D:Nat→Prop} {q:List ByteArray} {v:ByteArray} {X X' Y:World} {sn':Bool} {A':Option Addr} {c':Nat} (h:PlI w bt bm bp cp D q X) (hb:Below X.heap.size X X') (hne:bt≠bp)
 (hM:Blk X' bm 106 #[.pointer (some ⟨bp,0,none⟩)]) (hS:PgWSet X' bp sn A cc mm) (hO:MapOk mm (uq q)) (hA:AIn A (fun k=>w.heap.size+2≤k∧¬D k)) (hv : ¬v∈uq q)
 (g1:PgWSet Y bp sn' A' c' (put cmpPgW mm ⟨v,nameW (mm.length+1)⟩)) (g2:Fr (SetMod bp sn A) X' Y) (g3:Moved X' sn A sn' A') (hAt:AIn A (fun k=>k≠bt∧k≠bm∧k≠w.heap.size∧k≠w.heap.size+1)) (hpm:bm≠bp) :
 PlI w bt bm bp cp D (q ++ [v]) Y∧Fr (fun k=>¬D k) X Y:=by
 obtain ⟨h1,h2,h3,h4,⟨n1,n2,n3,n4,n5⟩,h6,h7,h8⟩:=h
 have hz:=hb.size
 have hn : ∀k,k=bt∨k=bm∨k=w.heap.size∨k=w.heap.size+1→¬SetMod bp sn A k:=fun k hk hm=>by
  rcases hm with rfl | ⟨_,a,ha,hk2⟩
  · rcases hk with e | e | e | e
    · exact hne e.symm
    · exact hpm e.symm
    · omega
    · omega
  · have:=hAt a ha
    rw [hk2] at this
    rcases hk with e | e | e | e
    · exact this.1 e
    · exact this.2.1 e
    · exact this.2.2.1 e
    · exact this.2.2.2 e
 have hF:Fr (fun k=>¬D k) X Y:=(Fr.of_new hb).trans (g2.mono (fun k hk hm=>by
  rcases hm with rfl | ⟨_,a,ha,hk2⟩
  · exact n3
  · rw [← hk2];exact (hA a ha).2))
 refine ⟨⟨(h1.new_ hb).fr g2 (hn _ (.inl rfl)),?_,(h3.new_ hb).fr g2 (hn _ (.inr (.inr (.inl rfl)))),(h4.new_ hb).fr g2 (hn _ (.inr (.inr (.inr rfl)))),⟨n1,n2,n3,n4,n5⟩,h6,?_,fun k hk=>Nat.lt_of_lt_of_le (h8 k hk) hF.size⟩,hF⟩
 · refine ⟨sn',A',c',_,hM.fr g2 (hn _ (.inr (.inl rfl))),g1,by rw [uq_snoc,uqStep,if_neg hv];exact hO.put hv,fun a ha=>?_⟩
   rcases g3 with ⟨_,e⟩ | ⟨_,g,hg,e⟩
   · exact hA a (by rw [← e];exact ha)
   · rw [e] at ha
     injection ha with ha
     subst ha
     have:=h7.size
     exact ⟨by dsimp only;have:=h3.lt;have:=h4.lt;omega,fun hd=>by have:=h8 _ hd;dsimp only at this;omega⟩
 · exact (h7.trans (hb.mono h7.size)).trans (g2.below (by have:=h7.size;omega) (fun k hk hm=>by
    rcases hm with rfl | ⟨_,a,ha,hk2⟩
    · omega
    · have:=(hA a ha).1;rw [hk2] at this;omega))
end Go.Proofs.Ytffemfglngikbaa
namespace Go.Proofs.Ytffemfglngikbaa
open Go.RowKit Go.Shelf
def FreshP (n:Nat) (p:ProdT) (w:World) (en:Ending) (w':World):Prop:=
 ∃A1 c1 A2 c2,en = .returned (.agg #[.string p.name,.slice A1 p.conds.length c1,.slice A2 p.acts.length c2])∧RowR (repCondT n) (NewD w.heap.size w') w' A1 c1 p.conds∧RowR repActT (NewD w.heap.size w') w' A2 c2 p.acts∧Below w.heap.size w w'
def PH (n g:Nat) (p:ProdT) (L:List CondT) (W1:World) (k:Nat) (A:Option Addr) (c:Nat) (wr:World):Prop:=
 Blk wr g 25 #[.string p.name,.slice A k c,.slice none 0 0]∧∃C:Nat→Prop,¬C g∧(∀j,C j→NewD W1.heap.size wr j)∧W1.heap.size≤g∧OwnC (repCondT n) 50 C wr (.slice A (L.take k).length c) (L.take k)∧AIn A (fun j=>NewD W1.heap.size wr j∧j≠g)∧Below W1.heap.size W1 wr
section
variable {n g:Nat} {p:ProdT} {L:List CondT} {W1 wr:World} {k:Nat} {A:Option Addr} {c:Nat} {C:Nat→Prop}
theorem PH.step {y:CondT} {W7 w8:World} {A':Option Addr} {c':Nat} (hG:Blk wr g 25 #[.string p.name,.slice A k c,.slice none 0 0]) (hCg : ¬C g) (hC : ∀j,C j→NewD W1.heap.size wr j) (hg:W1.heap.size≤g)
 (hO:OwnC (repCondT n) 50 C wr (.slice A (L.take k).length c) (L.take k)) (hA:AIn A (fun j=>NewD W1.heap.size wr j∧j≠g)) (hB:Below W1.heap.size W1 wr) (hk1:k+1≤L.length) (hy:L.take k ++ [y]=L.take (k+1)) (h7:Below wr.heap.size wr W7)
 (ha:Appended (repCondT n) 50 (Plus C wr W7) W7 (.slice A (L.take k).length c) (L.take k ++ [y]) (.slice A' (k+1) c') w8):PH n g p L W1 (k+1) A' c' (w8.setCell ⟨g,1,none⟩ (.slice A' (k+1) c')):=by
 obtain ⟨a1,a2,a3⟩:=ha
 rw [hy] at a1
 have hz:=hB.size
 have hz7:=h7.size
 have hz8:=a2.size
 have hgl:=hG.lt
 have hnA : ∀j,(Value.slice A (L.take k).length c).ownBlock=some j→W1.heap.size≤j∧j<wr.heap.size∧j≠g:=fun j hj=>by
  rcases A with _ | a
  · simp [Value.ownBlock] at hj
  · simp only [Value.ownBlock,Option.some.injEq] at hj
    have:=hA a rfl
    exact ⟨by rw [← hj];exact this.1.1,by rw [← hj];exact this.1.2,by rw [← hj];exact this.2⟩
 have hlen:(L.take (k+1)).length=k+1:=take_len hk1
 have hG8:Blk w8 g 25 #[.string p.name,.slice A k c,.slice none 0 0]:=(hG.new_ h7).grown a2 (fun e=>(hnA g e).2.2 rfl)
 have hne8 : ∀j,(Value.slice A' (k+1) c').ownBlock=some j→W1.heap.size≤j∧j≠g:=fun j hj=>by
  rcases a3 with a3 | a3
  · have:=hnA j (a3 ▸ hj);exact ⟨this.1,this.2.2⟩
  · rw [a3] at hj;injection hj with hj;subst hj;exact ⟨by omega,by omega⟩
 have hCP : ∀j,Plus C wr W7 j→NewD W1.heap.size W7 j:=fun j hj=>by
  rcases hj with hj | hj
  · have:=hC j hj;exact ⟨this.1,by have:=this.2;omega⟩
  · exact ⟨by omega,hj.2⟩
 have hgP : ¬Plus C wr W7 g:=fun h=>by
  rcases h with h | h
  · exact hCg h
  · omega
 refine ⟨hG8.set_ 1 _,Plus C wr W7,hgP,fun j hj=>?_,hg,?_,?_,?_⟩
 · have:=hCP j hj;exact ⟨this.1,by have:=this.2;simp;omega⟩
 · rw [hlen]
   exact a1.fr (M:=(· = g)) ((Fr.refl (· = g) w8).setCell (p:=⟨g,1,none⟩) (.inl rfl) _) (fun j hj e=>by subst e;exact hgP hj) (fun j hj e=>by subst e;exact (hne8 _ hj).2 rfl)
 · intro a ha
   subst ha
   have hlt:=a1.lt a.block rfl
   exact ⟨⟨(hne8 _ rfl).1,by simpa using hlt⟩,(hne8 _ rfl).2⟩
 · exact ((hB.trans (h7.mono hz)).grown a2 (by omega) (fun j hj=>(hnA j hj).1)).setCell (by dsimp only;exact hg) _
end
def PA (g:Nat) (p:ProdT) (L:List CondT) (M:List ActT) (wm:World) (E1:Option Addr) (d1:Nat) (k:Nat) (A:Option Addr) (c:Nat) (wr:World):Prop:=
 Blk wr g 25 #[.string p.name,.slice E1 L.length d1,.slice A k c]∧Fr (· = g) wm wr∧wr.ownsRow 0 58 19 (.slice A k c) k ((M.take k).flatMap ActT.cells)∧AIn A (NewD wm.heap.size wr)
theorem PA.step {g:Nat} {p:ProdT} {L:List CondT} {M:List ActT} {wm wr W8 w9:World} {E1:Option Addr} {d1 k:Nat} {A:Option Addr} {c:Nat} {A':Option Addr} {c':Nat} {z:ActT} (h:PA g p L M wm E1 d1 k A c wr) (hgm:g<wm.heap.size) (hb:Below wr.heap.size wr W8) (hz:M.take k ++ [z]=M.take (k+1))
 (hown:w9.ownsRow 0 58 19 (.slice A' (k+1) c') (k+1) ((M.take k).flatMap ActT.cells++z.cells)) (hg:W8.grownBy w9 (Value.slice A k c).ownBlock) (hat:(Value.slice A' (k+1) c').ownBlock=(Value.slice A k c).ownBlock∨(Value.slice A' (k+1) c').ownBlock=some W8.heap.size) :
 PA g p L M wm E1 d1 (k+1) A' c' (w9.setCell ⟨g,2,none⟩ (.slice A' (k+1) c')):=by
 obtain ⟨h1,h2,h3,h4⟩:=h
 have hs:=h2.size
 have hs8:=hb.size
 have hs9:=hg.size
 have hA : ∀j,(Value.slice A k c).ownBlock=some j→wm.heap.size≤j∧j<wr.heap.size:=fun j hj=>by
  rcases A with _ | a
  · simp [Value.ownBlock] at hj
  · simp only [Value.ownBlock,Option.some.injEq] at hj
    rw [← hj];exact h4 a rfl
 have hG9:Blk w9 g 25 #[.string p.name,.slice E1 L.length d1,.slice A k c]:=(h1.new_ hb).grown hg (fun e=>by have:=(hA g e).1;omega)
 have hne:=own_blk_ne hown hG9 (by decide)
 refine ⟨hG9.set_ 2 _,?_,?_,?_⟩
 · exact (((h2.trans (Fr.of_new hb)).grown hg (fun j hj=>.inr (hA j hj).1))).setCell (p:=⟨g,2,none⟩) (.inl rfl) _
 · rw [← hz,List.flatMap_append]
   have:=ownsRow_setCell_other (a:=⟨g,2,none⟩) hown hne (.slice A' (k+1) c')
   simpa using this
 · intro a ha
   subst ha
   have hlt:=own_lt hown a.block rfl
   refine ⟨?_,by simpa using hlt⟩
   rcases hat with h | h
   · exact (hA a.block (h ▸ rfl)).1
   · simp only [Value.ownBlock,Option.some.injEq] at h
     omega
theorem there_of {w:World} {g:Nat} {t:TypeId} {cs:Array Value} {o n:Nat} (h:Blk w g t cs) (hn:o+n≤cs.size):w.there g o n:=by
 have h1:=h.there
 intro i hi
 have:=h1 (o+i) (by omega)
 simpa [Nat.add_assoc] using this
set_option maxRecDepth 100000 in
set_option maxHeartbeats 32000000 in
theorem crename_is {gf:Nat} {lb:Array Value} {w0:World} {Q:ByteArray→Prop} {t:ByteArray→ByteArray} (hN:NamerOk gf lb w0 Q t) (n:Nat) (p:ProdT) (A1:Option Addr) (c1:Nat) (A2:Option Addr) (c2:Nat) {D:Nat→Prop} (w:World) (hw:Below w0.heap.size w0 w)
 (h1:RowR (repCondT n) D w A1 c1 p.conds) (h2:RowR repActT D w A2 c2 p.acts) (hl1:p.conds.length≤1000) (hl2:p.acts.length≤1000) (hs : ∀x∈p.conds,SmC n x) (hq : ∀x∈p.conds,QC Q n x) (hqa : ∀a∈p.acts,QA Q a) :
 Calls Try.prog 17 #[.agg #[.string p.name,.slice A1 p.conds.length c1,.slice A2 p.acts.length c2],.func (.func gf) #[] lb] w (FreshP n (prodR t n p) w):=by
 obtain ⟨i0,hi0,hz0,hz1,hz2⟩:=infp inf_Act
 obtain ⟨j0,hj0,hy0,hyy1,hyy2⟩:=infp inf_Cond
 obtain ⟨L,hL⟩ : ∃l,l=p.conds.map (condR t n):=⟨_,rfl⟩
 obtain ⟨M,hM⟩ : ∃l,l=p.acts.map (actR t):=⟨_,rfl⟩
 have HR:=Lib.hid (show prodR t n p=⟨p.name,L,M⟩ by rw [hL,hM];rfl)
 have HLL:=Lib.hid (show L.length=p.conds.length by rw [hL,List.length_map])
 have HML:=Lib.hid (show M.length=p.acts.length by rw [hM,List.length_map])
 have HLG:=Lib.hid (show ∀k,(h:k<p.conds.length)→∃h':k<L.length,L[k]=condR t n p.conds[k] from fun k h=>⟨by rw [hL,List.length_map];exact h,by simp [hL]⟩)
 have HMG:=Lib.hid (show ∀k,(h:k<p.acts.length)→∃h':k<M.length,M[k]=actR t p.acts[k] from fun k h=>⟨by rw [hM,List.length_map];exact h,by simp [hM]⟩)
 have HREC:=Lib.hid (ccond_is hN)
 have HN:=Lib.hid hN
 have HS:=Lib.hid hs
 have HQ:=Lib.hid hq
 have HQA:=Lib.hid hqa
 have H1:=Lib.hid h1
 have H2:=Lib.hid h2
 have HW0:=Lib.hid hw
 clear hL hM hN hs hq hqa h1 h2 hw
 go_enter Try.func17,Try.ntmps17
 go_upto_region 2 with fail
 obtain ⟨W1,hW1⟩ : ∃W1,W1=(w.alloc (.cells #[.string p.name,.slice A1 p.conds.length c1,.slice A2 p.acts.length c2] 25)).alloc (.cells #[.string ⟨#[]⟩,.slice none 0 0,.slice none 0 0] 25):=⟨_,rfl⟩
 have hB1:Below w.heap.size w W1:=by rw [hW1];exact ((Below.refl _ _).alloc (Nat.le_refl _) _).alloc (by simp) _
 have hX1:Blk W1 w.heap.size 25 #[.string p.name,.slice A1 p.conds.length c1,.slice A2 p.acts.length c2]:=by rw [hW1];exact (Blk.new _ _ _).alloc _
 have hR1:Blk W1 (w.heap.size+1) 25 #[.string ⟨#[]⟩,.slice none 0 0,.slice none 0 0]:=by rw [hW1];have:=Blk.new (w.alloc (.cells #[.string p.name,.slice A1 p.conds.length c1,.slice A2 p.acts.length c2] 25)) 25 #[.string ⟨#[]⟩,.slice none 0 0,.slice none 0 0];simpa using this
 have hz1w:W1.heap.size=w.heap.size+2:=by rw [hW1];simp
 rw [← hW1]
 clear hW1
 obtain ⟨p0,p1,p2⟩:=hX1.c3
 have HB1:=Lib.hid hB1
 have HX1:=Lib.hid hX1
 have HR1:=Lib.hid hR1
 have HZ1:=Lib.hid hz1w
 have HWZ:=Lib.hid (show w.heap.size≤W1.heap.size by omega)
 have hxl1:=hX1.lt
 clear hB1 hX1 hR1 hz1w
 go_upto_region 3 with fail
 obtain ⟨W2,hW2⟩ : ∃W2,W2=W1.alloc (.cells #[.string p.name,.slice none 0 0,.slice none 0 0] 25):=⟨_,rfl⟩
 have hB2:Below W1.heap.size W1 W2:=by rw [hW2];exact (Below.refl _ _).alloc (Nat.le_refl _) _
 have hG2:Blk W2 W1.heap.size 25 #[.string p.name,.slice none 0 0,.slice none 0 0]:=by rw [hW2];exact Blk.new _ _ _
 rw [← hW2]
 clear hW2
 have HX2:=Lib.hid (HX1.out.new_ hB2)
 obtain ⟨g,hg⟩ : ∃g,g=W1.heap.size:=⟨_,rfl⟩
 rw [← hg] at hG2 ⊢
 have H0:=Lib.hid (show PH n g p L W1 0 none 0 W2 from ⟨hG2,fun _=>False,fun h=>h,fun j h=>h.elim,by omega,OwnC.nil _ _ _ _,AIn.none_ _,hB2⟩)
 have hgw:=hg
 have HGW:=Lib.hid hgw
 clear hB2 hG2 p0 p1 p2 hxl1 hg hgw
 obtain ⟨p0,p1,p2⟩:=HX2.out.c3
 have hxl1:=HX2.out.lt
 go_wp2_with fail
 go_loopw [18] (fun i wr=>∃(k:Nat) (A:Option Addr) (c:Nat),i = .int .i64 k∧k≤p.conds.length∧PH n g p L W1 k A c wr) (fun i wr=>p.conds.length - (intOf i).toNat)
 case atStart=>exact ⟨0,none,0,rfl,Nat.zero_le _,H0.out⟩
 case round=>
  obtain ⟨k,A,c,rfl,hk,hRH⟩:=hrel
  obtain ⟨hG,C,hCg,hC,hgg,hO,hA,hB⟩:=hRH
  have hzr:=hB.size
  clear p0 p1 p2 hxl1
  by_cases hlt:k<p.conds.length
  · have hrw:=(H1.out.new_ HB1.out).keep (D':=D) hB.size (fun j hj hl=>⟨hj,hB.block j hl⟩)
    obtain ⟨m,hnm⟩ : ∃m,n=m+1:=by
     cases n with
     | zero=>rw [row0 hrw] at hlt;simp at hlt
     | succ m=>exact ⟨m,rfl⟩
    subst hnm
    obtain ⟨gh,oh,Ay1,cy1,Ay2,cy2,Ay3,cy3,hA0,hDg,hgh,r0,r1,r2,r3,r4,r5,r6,hy1,hy2,hy3⟩:=at_CondT hrw hlt
    subst hA0
    obtain ⟨y,hy⟩ : ∃y,y=p.conds[k]:=⟨_,rfl⟩
    obtain ⟨z,hz⟩ : ∃z,z=condR t (m+1) y:=⟨_,rfl⟩
    have hys:SmC (m+1) y:=by rw [hy];exact HS.out _ (List.getElem_mem hlt)
    have hyq:QC Q (m+1) y:=by rw [hy];exact HQ.out _ (List.getElem_mem hlt)
    rw [← hy] at r0 r1 r2 r3 r4 r5 r6 hy1 hy2 hy3
    have b1:(0:Int)≤(k:Int):=by omega
    have b2:(k:Int)<(p.conds.length:Int):=by omega
    have HBW:=Lib.hid (HB1.out.trans (hB.mono HWZ.out))
    have HCALL:=Lib.hid (show ∀W,Below wr.heap.size wr W→Calls Try.prog 33 #[.func (.func gf) #[] lb,.agg #[.int .i64 y.kind,.bool y.goal,.string y.id,.slice Ay1 y.attr.length cy1,.slice Ay2 y.value.length cy2,.bool y.acc,.slice Ay3 y.conds.length cy3]] W (FreshC m z W) from fun W hW=>by
     rw [hz]
     exact HREC.out m y Ay1 cy1 Ay2 cy2 Ay3 cy3 D W (HW0.out.trans ((HBW.out.trans (hW.mono HBW.out.size)).mono HW0.out.size)) (hy1.new_ hW) (hy2.new_ hW) (hy3.new_ hW) hys hyq)
    have hLz:L.take k ++ [z]=L.take (k+1):=by
     obtain ⟨h',e⟩:=HLG.out k hlt
     rw [hz,hy,← e]
     exact take_snoc h'
    have HG:=Lib.hid hG
    have HC:=Lib.hid hC
    have HO:=Lib.hid hO
    have HNE:=Lib.hid (show (Value.slice A (L.take k).length c).ownBlock≠some g from fun e=>by
     rcases A with _ | a
     · simp [Value.ownBlock] at e
     · simp only [Value.ownBlock,Option.some.injEq] at e
       exact (hA a rfl).2 e)
    have hkL:(L.take k).length=k:=take_len (by rw [HLL.out];exact hk)
    have HKL:=Lib.hid hkL
    have HST:=Lib.hid (show ∀W7 w8 A' c',Below wr.heap.size wr W7→Appended (repCondT (m+1)) 50 (Plus C wr W7) W7 (.slice A (L.take k).length c) (L.take k ++ [z]) (.slice A' (k+1) c') w8→PH (m+1) g p L W1 (k+1) A' c' (w8.setCell ⟨g,1,none⟩ (.slice A' (k+1) c')) from
     fun W7 w8 A' c' h7 ha=>PH.step hG hCg hC hgg hO hA hB (by rw [HLL.out];omega) hLz h7 ha)
    clear hy hrw hy1 hy2 hy3 hys hyq hG hCg hC hO hA hB hLz hkL hz
    go_upto_region 6 with fail
    obtain ⟨W5,hW5⟩ : ∃W5,W5=wr.alloc (.cells #[.int .i64 y.kind,.bool y.goal,.string y.id,.slice Ay1 y.attr.length cy1,.slice Ay2 y.value.length cy2,.bool y.acc,.slice Ay3 y.conds.length cy3] 50):=⟨_,rfl⟩
    have hB5:Below wr.heap.size wr W5:=by rw [hW5];exact (Below.refl _ _).alloc (Nat.le_refl _) _
    have hX5:Blk W5 wr.heap.size 50 #[.int .i64 y.kind,.bool y.goal,.string y.id,.slice Ay1 y.attr.length cy1,.slice Ay2 y.value.length cy2,.bool y.acc,.slice Ay3 y.conds.length cy3]:=by rw [hW5];exact Blk.new _ _ _
    rw [← hW5]
    clear hW5 r0 r1 r2 r3 r4 r5 r6
    have HB5:=Lib.hid hB5
    have HG:=Lib.hid (HG.out.new_ hB5)
    obtain ⟨m0,m1,m2,m3,m4,m5,m6⟩:=hX5.c7
    have n1:W5.cell? ⟨g,1,none⟩=some (.slice A k c):=(HG.out.cell 1).trans rfl
    have hgl:=HG.out.lt
    have hxl5:=hX5.lt
    clear hB5 hX5
    refine wp_region_E (fun w9=>Below W5.heap.size W5 w9) [(0,0),(1,1),(2,0),(3,1),(4,2),(5,2),(6,2),(7,0),(8,2)] (by kernel_rfl) (by kernel_rfl) (fun KK hKK=>?_)
    simp only [beside,List.filterMap_cons,List.filterMap_nil,List.getElem?_toArray,List.getElem?_cons_zero,List.getElem?_cons_succ,Option.map_some]
    repeat ((first | (refine wpX_w ?_ (Or.inl ⟨by rfl,fun w9=>?_⟩) ?_;rotate_left 1;go_simp;with_reducible rfl) | (refine wpX_l ?_ (((Below.refl _ _).drew)) (Or.inl ⟨by rfl,fun w9 hw9=>?_⟩) ?_;rotate_left 1;obtain ⟨hc9,hf9⟩:=bcell hw9;go_simp;with_reducible rfl) | refine wpX_w undef (Or.inr ⟨by rfl,rfl⟩) ?_ | refine wpX_l undef (((Below.refl _ _).drew)) (Or.inr ⟨by rfl,rfl⟩) ?_);go_frame)
    refine wpX_es (fun K9 hK9=>?_)
    go_simp
    refine (HCALL.out _ (HB5.out.drew)).mono ?_
    rintro e wa ⟨Az1,cz1,Az2,cz2,Az3,cz3,rfl,g1,g2,g3,hba⟩
    have HBa:=Lib.hid (show Below W5.heap.size W5 wa from ((Below.refl W5.heap.size W5).drew).trans hba)
    have G1:=Lib.hid g1
    have G2:=Lib.hid g2
    have G3:=Lib.hid g3
    clear g1 g2 g3 hba
    refine hK9 _ _ HBa.out ?_
    clear hK9 K9
    refine wpX_es (fun K9 hK9=>?_)
    go_simp
    have HB7x:=Lib.hid (HBa.out.alloc HBa.out.size (.cells #[.int .i64 z.kind,.bool z.goal,.string z.id,.slice Az1 z.attr.length cz1,.slice Az2 z.value.length cz2,.bool z.acc,.slice Az3 z.conds.length cz3] 50))
    refine hK9 _ _ HB7x.out ?_
    clear hK9 K9
    refine wpX_e (by kernel_rfl) (fun K9 hK9=>?_)
    have HB7:=Lib.hid (HB5.out.trans (HB7x.out.mono HB5.out.size))
    have h9:Below wa.heap.size wa (wa.alloc (.cells #[.int .i64 z.kind,.bool z.goal,.string z.id,.slice Az1 z.attr.length cz1,.slice Az2 z.value.length cz2,.bool z.acc,.slice Az3 z.conds.length cz3] 50)):=(Below.refl _ _).alloc (Nat.le_refl _) _
    have up : ∀j,NewD W5.heap.size wa j→j<wa.heap.size→(Plus C wr (wa.alloc (.cells #[.int .i64 z.kind,.bool z.goal,.string z.id,.slice Az1 z.attr.length cz1,.slice Az2 z.value.length cz2,.bool z.acc,.slice Az3 z.conds.length cz3] 50))) j∧((wa.alloc (.cells #[.int .i64 z.kind,.bool z.goal,.string z.id,.slice Az1 z.attr.length cz1,.slice Az2 z.value.length cz2,.bool z.acc,.slice Az3 z.conds.length cz3] 50))).heap[j]? = wa.heap[j]?:=fun j hj hl=>⟨.inr ⟨Nat.le_trans HB5.out.size hj.1,by simp;omega⟩,h9.block j hl⟩
    have hrep7:=rep_cond (n:=m) (y:=z) (G1.out.keep h9.size up) (G2.out.keep h9.size up) (G3.out.keep h9.size up)
    have hown7:=HO.out.plus HB7.out
    have hcl : ∀j,Plus C wr (wa.alloc (.cells #[.int .i64 z.kind,.bool z.goal,.string z.id,.slice Az1 z.attr.length cz1,.slice Az2 z.value.length cz2,.bool z.acc,.slice Az3 z.conds.length cz3] 50)) j→j<((wa.alloc (.cells #[.int .i64 z.kind,.bool z.goal,.string z.id,.slice Az1 z.attr.length cz1,.slice Az2 z.value.length cz2,.bool z.acc,.slice Az3 z.conds.length cz3] 50))).heap.size:=fun j hj=>by
     rcases hj with hj | hj
     · have:=(HC.out j hj).2;have:=HB7.out.size;omega
     · exact hj.2
    have h63:(L.take k).length+1≤maxLen:=by rw [HKL.out];unfold maxLen;omega
    have hby:((L.take k).length+1)*112≤140737488355328:=by rw [HKL.out];omega
    have hv:Value.slice A k c = .slice A (L.take k).length c:=by rw [HKL.out]
    refine step_append_C _ rfl _ _ 22 rfl 50 j0 _ 7 112 Try.underlying22 hj0 hy0 hyy1 hyy2 rfl rfl (by omega) (Plus C wr (wa.alloc (.cells #[.int .i64 z.kind,.bool z.goal,.string z.id,.slice Az1 z.attr.length cz1,.slice Az2 z.value.length cz2,.bool z.acc,.slice Az3 z.conds.length cz3] 50))) hcl (.slice A (L.take k).length c) (L.take k) hv hown7 ⟨wa.heap.size,0,none⟩ 1 z [.int .i64 z.kind,.bool z.goal,.string z.id,.slice Az1 z.attr.length cz1,.slice Az2 z.value.length cz2,.bool z.acc,.slice Az3 z.conds.length cz3] rfl (World.news_of_block (heap_alloc_new _ _)) (by intro u hu;simp only [List.mem_cons,List.not_mem_nil,or_false] at hu;rcases hu with rfl | rfl | rfl | rfl | rfl | rfl | rfl<;>rfl) hrep7 h63 hby ?_
    intro v' w8 hap
    obtain ⟨A',c',hv',-,-,-⟩:=hap.1.form
    have hlen1:(L.take k ++ [z]).length=k+1:=by rw [List.length_append,HKL.out];rfl
    rw [hlen1] at hv'
    subst hv'
    have hG8:=(HG.out.new_ HB7x.out).grown hap.2.1 HNE.out
    have HAP:=Lib.hid hap
    have u1:=(hG8.cell 1).trans rfl
    have f1:=hG8.frozen 1
    have hgl8:=hG8.lt
    clear h9 up hrep7 hown7 hcl h63 hby hv hlen1 hap hG8
    refine hK9 _ _ ?_
    clear hK9 K9
    repeat ((first | (refine wpX_w ?_ (Or.inl ⟨by rfl,fun w9=>?_⟩) ?_;rotate_left 1;go_simp;with_reducible rfl) | (refine wpX_l ?_ (HB7x.out) (Or.inl ⟨by rfl,fun w9 hw9=>?_⟩) ?_;rotate_left 1;obtain ⟨hc9,hf9⟩:=bcell hw9;go_simp;with_reducible rfl) | refine wpX_w undef (Or.inr ⟨by rfl,rfl⟩) ?_ | refine wpX_l undef (HB7x.out) (Or.inr ⟨by rfl,rfl⟩) ?_);go_frame)
    refine wpX_e (by kernel_rfl) (fun K9 hK9=>?_)
    go_simp
    refine hK9 _ _ ?_
    clear hK9 K9
    refine wpX_nil ?_
    simp only [OnlyN_normal]
    refine hKK _ _ ?_
    clear hKK KK
    go_wp2_with fail
    go_roundw
    case rel=>exact ⟨k+1,A',c',by go_num,by omega,HST.out _ _ _ _ HB7.out HAP.out⟩
    case measure=>simp [intOf];omega
  · obtain rfl:k=p.conds.length:=by omega
    rw [show p.conds.length=L.length from HLL.out.symm] at hG hO
    rw [List.take_length] at hO
    have HBW:=Lib.hid (HB1.out.trans (hB.mono HWZ.out))
    have HROW:=Lib.hid (show RowR (repCondT n) (Ex W1 wr g) wr A c L from hO.row (fun j hj=>⟨(hC j hj).1,(hC j hj).2,fun e=>hCg (e ▸ hj)⟩) (hA.mono (fun j hj=>⟨hj.1.1,hj.1.2,hj.2⟩)))
    have hX:=HX1.out.below hB (by have:=HZ1.out;omega)
    have p2:wr.cell? ⟨w.heap.size,2,none⟩=some (.slice A2 p.acts.length c2):=(hX.cell 2).trans rfl
    have hxl:=hX.lt
    have HRB:=Lib.hid (HR1.out.below hB (by have:=HZ1.out;omega))
    have HGB:=Lib.hid hG
    have HGM:=Lib.hid hG.lt
    have HGG:=Lib.hid hgg
    have hac:=H2.out.cap
    clear hG hCg hC hO hA hB hX
    obtain ⟨E1,hE1⟩ : ∃E,E=A:=⟨_,rfl⟩
    obtain ⟨d1,hd1⟩ : ∃d,d=c:=⟨_,rfl⟩
    obtain ⟨wm,hwm⟩ : ∃wm,wm=wr:=⟨_,rfl⟩
    rw [← hwm,← hE1,← hd1] at HROW HGB
    rw [← hwm] at HBW p2 hxl HRB HGM ⊢
    clear hwm hE1 hd1 hzr
    have H0A:=Lib.hid (show PA g p L M wm E1 d1 0 none 0 wm from ⟨HGB.out,Fr.refl _ _,owns_nilC _ _ _,AIn.none_ _⟩)
    go_wp2_with fail
    clear p2 hxl
    go_loopw [34] (fun s wr=>∃(i:Nat) (A:Option Addr) (c:Nat),s = .int .i64 i∧i≤p.acts.length∧PA g p L M wm E1 d1 i A c wr) (fun s wr=>p.acts.length - (intOf s).toNat)
    case atStart=>exact ⟨0,none,0,rfl,Nat.zero_le _,H0A.out⟩
    case round=>
     obtain ⟨i,A,c,rfl,hi,hPA⟩:=hrel
     have HPA:=Lib.hid hPA
     have HFR:=Lib.hid (show Below w.heap.size w wr from HBW.out.trans (hPA.2.1.below HBW.out.size (fun j hj e=>by subst e;have:=HGG.out;have:=HZ1.out;omega)))
     clear hPA
     by_cases hlt:i<p.acts.length
     · skip
       obtain ⟨y,hy⟩ : ∃y,y=p.acts[i]:=⟨_,rfl⟩
       obtain ⟨ga,off,hAA,_,hga,_⟩:=at_ActT (H2.out.new_ HFR.out) hlt
       subst hAA
       have HY:=Lib.hid hy
       have b1:(0:Int)≤(i:Int):=by omega
       have b2:(i:Int)<(p.acts.length:Int):=by omega
       have HRG:=Lib.hid (show wr.rangeAt ga (off+i*19) [.string y.id,.string y.attr.var,.int .i64 y.attr.sym.kind,.string y.attr.sym.text,.int .i64 y.attr.sym.n,.int .i64 y.value.op,.string y.value.a.var,.int .i64 y.value.a.sym.kind,.string y.value.a.sym.text,.int .i64 y.value.a.sym.n,.string y.value.b.var,.int .i64 y.value.b.sym.kind,.string y.value.b.sym.text,.int .i64 y.value.b.sym.n,.int .i64 y.pref,.string y.other.var,.int .i64 y.other.sym.kind,.string y.other.sym.text,.int .i64 y.other.sym.n] from fun j v hv=>by
        obtain ⟨g',off',cs,e1,_,_,hr,hc⟩:=(H2.out.new_ HFR.out).at_ hlt
        cases e1
        have hr2:cs=ActT.cells p.acts[i]:=hr
        subst hr2
        rw [← HY.out] at hc
        exact hc j v hv)
       have HTH:=Lib.hid (show (wr.alloc (.cells #[.string ⟨#[]⟩,.string ⟨#[]⟩,.int .i64 0,.string ⟨#[]⟩,.int .i64 0,.int .i64 0,.string ⟨#[]⟩,.int .i64 0,.string ⟨#[]⟩,.int .i64 0,.string ⟨#[]⟩,.int .i64 0,.string ⟨#[]⟩,.int .i64 0,.int .i64 0,.string ⟨#[]⟩,.int .i64 0,.string ⟨#[]⟩,.int .i64 0] 58)).there wr.heap.size 0 (#[.string y.id,.string y.attr.var,.int .i64 y.attr.sym.kind,.string y.attr.sym.text,.int .i64 y.attr.sym.n,.int .i64 y.value.op,.string y.value.a.var,.int .i64 y.value.a.sym.kind,.string y.value.a.sym.text,.int .i64 y.value.a.sym.n,.string y.value.b.var,.int .i64 y.value.b.sym.kind,.string y.value.b.sym.text,.int .i64 y.value.b.sym.n,.int .i64 y.pref,.string y.other.var,.int .i64 y.other.sym.kind,.string y.other.sym.text,.int .i64 y.other.sym.n]:Array Value).size from (Blk.new wr 58 #[.string ⟨#[]⟩,.string ⟨#[]⟩,.int .i64 0,.string ⟨#[]⟩,.int .i64 0,.int .i64 0,.string ⟨#[]⟩,.int .i64 0,.string ⟨#[]⟩,.int .i64 0,.string ⟨#[]⟩,.int .i64 0,.string ⟨#[]⟩,.int .i64 0,.int .i64 0,.string ⟨#[]⟩,.int .i64 0,.string ⟨#[]⟩,.int .i64 0]).there)
       obtain ⟨W5,hW5⟩ : ∃W5,W5=(wr.alloc (.cells #[.string ⟨#[]⟩,.string ⟨#[]⟩,.int .i64 0,.string ⟨#[]⟩,.int .i64 0,.int .i64 0,.string ⟨#[]⟩,.int .i64 0,.string ⟨#[]⟩,.int .i64 0,.string ⟨#[]⟩,.int .i64 0,.string ⟨#[]⟩,.int .i64 0,.int .i64 0,.string ⟨#[]⟩,.int .i64 0,.string ⟨#[]⟩,.int .i64 0] 58)).setCells wr.heap.size 0 [.string y.id,.string y.attr.var,.int .i64 y.attr.sym.kind,.string y.attr.sym.text,.int .i64 y.attr.sym.n,.int .i64 y.value.op,.string y.value.a.var,.int .i64 y.value.a.sym.kind,.string y.value.a.sym.text,.int .i64 y.value.a.sym.n,.string y.value.b.var,.int .i64 y.value.b.sym.kind,.string y.value.b.sym.text,.int .i64 y.value.b.sym.n,.int .i64 y.pref,.string y.other.var,.int .i64 y.other.sym.kind,.string y.other.sym.text,.int .i64 y.other.sym.n]:=⟨_,rfl⟩
       have HW5:=Lib.hid hW5
       have KB:=Lib.hid (show Blk W5 wr.heap.size 58 #[.string y.id,.string y.attr.var,.int .i64 y.attr.sym.kind,.string y.attr.sym.text,.int .i64 y.attr.sym.n,.int .i64 y.value.op,.string y.value.a.var,.int .i64 y.value.a.sym.kind,.string y.value.a.sym.text,.int .i64 y.value.a.sym.n,.string y.value.b.var,.int .i64 y.value.b.sym.kind,.string y.value.b.sym.text,.int .i64 y.value.b.sym.n,.int .i64 y.pref,.string y.other.var,.int .i64 y.other.sym.kind,.string y.other.sym.text,.int .i64 y.other.sym.n] by rw [hW5];exact (Blk.new wr 58 #[.string ⟨#[]⟩,.string ⟨#[]⟩,.int .i64 0,.string ⟨#[]⟩,.int .i64 0,.int .i64 0,.string ⟨#[]⟩,.int .i64 0,.string ⟨#[]⟩,.int .i64 0,.string ⟨#[]⟩,.int .i64 0,.string ⟨#[]⟩,.int .i64 0,.int .i64 0,.string ⟨#[]⟩,.int .i64 0,.string ⟨#[]⟩,.int .i64 0]).setAllC rfl)
       have HBV:=Lib.hid (show Below wr.heap.size wr W5 by rw [hW5];exact Below.setCells' _ _ ((Below.refl _ _).alloc (Nat.le_refl _) _) (Nat.le_refl _))
       have HQY:=Lib.hid (show QA Q y by rw [hy];exact HQA.out _ (List.getElem_mem hlt))
       have HZZ:=Lib.hid (show M.take i ++ [actR t y]=M.take (i+1) by
        obtain ⟨h',e⟩:=HMG.out i hlt
        rw [hy,← e]
        exact take_snoc h')
       have HW0R:=Lib.hid (HW0.out.trans (HFR.out.mono HW0.out.size))
       have HON:=Lib.hid (show ∀v W,Below wr.heap.size wr W→QV Q v→_ from fun v W hW hv=>one_is HN.out v W (HW0R.out.trans (hW.mono HW0R.out.size)) hv)
       have HAT:=Lib.hid (show ∀a W,Below wr.heap.size wr W→QV Q a.var→_ from fun a W hW hv=>catom_is HN.out a W (HW0R.out.trans (hW.mono HW0R.out.size)) hv)
       clear hy hW5
       go_upto_region 11 with (first
        | (with_reducible refine wpList_load_mid rfl 58 _ rfl ga (off+i*19) rfl [.string y.id,.string y.attr.var,.int .i64 y.attr.sym.kind,.string y.attr.sym.text,.int .i64 y.attr.sym.n,.int .i64 y.value.op,.string y.value.a.var,.int .i64 y.value.a.sym.kind,.string y.value.a.sym.text,.int .i64 y.value.a.sym.n,.string y.value.b.var,.int .i64 y.value.b.sym.kind,.string y.value.b.sym.text,.int .i64 y.value.b.sym.n,.int .i64 y.pref,.string y.other.var,.int .i64 y.other.sym.kind,.string y.other.sym.text,.int .i64 y.other.sym.n] _ HRG.out Try.underlying58 rfl (by kernel_rfl) ?_)
        | ((with_reducible refine wpList_store_mid rfl 58 _ _ rfl wr.heap.size 0 #[.string y.id,.string y.attr.var,.int .i64 y.attr.sym.kind,.string y.attr.sym.text,.int .i64 y.attr.sym.n,.int .i64 y.value.op,.string y.value.a.var,.int .i64 y.value.a.sym.kind,.string y.value.a.sym.text,.int .i64 y.value.a.sym.n,.string y.value.b.var,.int .i64 y.value.b.sym.kind,.string y.value.b.sym.text,.int .i64 y.value.b.sym.n,.int .i64 y.pref,.string y.other.var,.int .i64 y.other.sym.kind,.string y.other.sym.text,.int .i64 y.other.sym.n] rfl rfl HTH.out (by kernel_rfl) (by kernel_rfl) ?_);rw [← HW5.out]))
       clear HRG HTH HW5
       have e0:W5.cell? ⟨wr.heap.size,0,none⟩=some (.string y.id):=(KB.out.cell 0).trans rfl
       have ez:=KB.out.lt
       go_wp2_with fail
       refine (HON.out y.id W5 (HBV.out) HQY.out.1).mono ?_
       rintro e v0 ⟨rfl,hb⟩
       clear ez e0
       have KB:=Lib.hid (KB.out.new_ hb)
       have HBV:=Lib.hid (HBV.out.trans (hb.mono HBV.out.size))
       obtain ⟨V0,hV0⟩ : ∃W,W=v0.setCell ⟨wr.heap.size,0,none⟩ (.string (oneR t y.id)):=⟨_,rfl⟩
       have HTH:=Lib.hid KB.out.lt
       have u0:v0.cell? ⟨wr.heap.size,0,none⟩=some (.string y.id):=(KB.out.cell 0).trans rfl
       have uf:=KB.out.frozen 0
       have uz:=KB.out.lt
       have HV0:=Lib.hid hV0
       have KB:=Lib.hid (show Blk V0 wr.heap.size 58 #[.string (oneR t y.id),.string y.attr.var,.int .i64 y.attr.sym.kind,.string y.attr.sym.text,.int .i64 y.attr.sym.n,.int .i64 y.value.op,.string y.value.a.var,.int .i64 y.value.a.sym.kind,.string y.value.a.sym.text,.int .i64 y.value.a.sym.n,.string y.value.b.var,.int .i64 y.value.b.sym.kind,.string y.value.b.sym.text,.int .i64 y.value.b.sym.n,.int .i64 y.pref,.string y.other.var,.int .i64 y.other.sym.kind,.string y.other.sym.text,.int .i64 y.other.sym.n] by rw [hV0];exact (KB.out).set_ 0 (.string (oneR t y.id)))
       have HBV:=Lib.hid (show Below wr.heap.size wr V0 by rw [hV0];exact HBV.out.setCell (Nat.le_refl _) _)
       clear hV0 hb
       go_upto_region 12 with fail
       rw [← HV0.out]
       clear u0 uf uz
       clear HTH HV0
       have e1:V0.cell? ⟨wr.heap.size,1,none⟩=some (.string y.attr.var):=(KB.out.cell 1).trans rfl
       have e2:V0.cell? ⟨wr.heap.size,2,none⟩=some (.int .i64 y.attr.sym.kind):=(KB.out.cell 2).trans rfl
       have e3:V0.cell? ⟨wr.heap.size,3,none⟩=some (.string y.attr.sym.text):=(KB.out.cell 3).trans rfl
       have e4:V0.cell? ⟨wr.heap.size,4,none⟩=some (.int .i64 y.attr.sym.n):=(KB.out.cell 4).trans rfl
       have ez:=KB.out.lt
       go_wp2_with fail
       refine (HAT.out y.attr V0 (HBV.out) HQY.out.2.1).mono ?_
       rintro e v1 ⟨rfl,hb⟩
       clear ez e1 e2 e3 e4
       have KB:=Lib.hid (KB.out.new_ hb)
       have HBV:=Lib.hid (HBV.out.trans (hb.mono HBV.out.size))
       obtain ⟨V1,hV1⟩ : ∃W,W=v1.setCells wr.heap.size 1 [Value.string (oneR t y.attr.var),Value.int IntKind.i64 y.attr.sym.kind,Value.string y.attr.sym.text,Value.int IntKind.i64 y.attr.sym.n]:=⟨_,rfl⟩
       have HTH:=Lib.hid (show v1.there wr.heap.size 1 (#[.string (oneR t y.attr.var),.int .i64 y.attr.sym.kind,.string y.attr.sym.text,.int .i64 y.attr.sym.n]:Array Value).size from there_of KB.out (by simp))
       have HV1:=Lib.hid hV1
       have KB:=Lib.hid (show Blk V1 wr.heap.size 58 #[.string (oneR t y.id),.string (oneR t y.attr.var),.int .i64 y.attr.sym.kind,.string y.attr.sym.text,.int .i64 y.attr.sym.n,.int .i64 y.value.op,.string y.value.a.var,.int .i64 y.value.a.sym.kind,.string y.value.a.sym.text,.int .i64 y.value.a.sym.n,.string y.value.b.var,.int .i64 y.value.b.sym.kind,.string y.value.b.sym.text,.int .i64 y.value.b.sym.n,.int .i64 y.pref,.string y.other.var,.int .i64 y.other.sym.kind,.string y.other.sym.text,.int .i64 y.other.sym.n] by rw [hV1];exact ((((KB.out).set_ 1 (.string (oneR t y.attr.var))).set_ 2 (.int .i64 y.attr.sym.kind)).set_ 3 (.string y.attr.sym.text)).set_ 4 (.int .i64 y.attr.sym.n))
       have HBV:=Lib.hid (show Below wr.heap.size wr V1 by rw [hV1];exact Below.setCells' _ _ HBV.out (Nat.le_refl _))
       clear hV1 hb
       go_upto_region 13 with ((with_reducible refine wpList_store_mid rfl 54 _ _ rfl wr.heap.size 1 #[.string (oneR t y.attr.var),.int .i64 y.attr.sym.kind,.string y.attr.sym.text,.int .i64 y.attr.sym.n] rfl rfl HTH.out (by kernel_rfl) (by kernel_rfl) ?_);rw [← HV1.out])
       clear HTH HV1
       have e6:V1.cell? ⟨wr.heap.size,6,none⟩=some (.string y.value.a.var):=(KB.out.cell 6).trans rfl
       have e7:V1.cell? ⟨wr.heap.size,7,none⟩=some (.int .i64 y.value.a.sym.kind):=(KB.out.cell 7).trans rfl
       have e8:V1.cell? ⟨wr.heap.size,8,none⟩=some (.string y.value.a.sym.text):=(KB.out.cell 8).trans rfl
       have e9:V1.cell? ⟨wr.heap.size,9,none⟩=some (.int .i64 y.value.a.sym.n):=(KB.out.cell 9).trans rfl
       have ez:=KB.out.lt
       go_wp2_with fail
       refine (HAT.out y.value.a V1 (HBV.out) HQY.out.2.2.1).mono ?_
       rintro e v2 ⟨rfl,hb⟩
       clear ez e6 e7 e8 e9
       have KB:=Lib.hid (KB.out.new_ hb)
       have HBV:=Lib.hid (HBV.out.trans (hb.mono HBV.out.size))
       obtain ⟨V2,hV2⟩ : ∃W,W=v2.setCells wr.heap.size 6 [Value.string (oneR t y.value.a.var),Value.int IntKind.i64 y.value.a.sym.kind,Value.string y.value.a.sym.text,Value.int IntKind.i64 y.value.a.sym.n]:=⟨_,rfl⟩
       have HTH:=Lib.hid (show v2.there wr.heap.size 6 (#[.string (oneR t y.value.a.var),.int .i64 y.value.a.sym.kind,.string y.value.a.sym.text,.int .i64 y.value.a.sym.n]:Array Value).size from there_of KB.out (by simp))
       have HV2:=Lib.hid hV2
       have KB:=Lib.hid (show Blk V2 wr.heap.size 58 #[.string (oneR t y.id),.string (oneR t y.attr.var),.int .i64 y.attr.sym.kind,.string y.attr.sym.text,.int .i64 y.attr.sym.n,.int .i64 y.value.op,.string (oneR t y.value.a.var),.int .i64 y.value.a.sym.kind,.string y.value.a.sym.text,.int .i64 y.value.a.sym.n,.string y.value.b.var,.int .i64 y.value.b.sym.kind,.string y.value.b.sym.text,.int .i64 y.value.b.sym.n,.int .i64 y.pref,.string y.other.var,.int .i64 y.other.sym.kind,.string y.other.sym.text,.int .i64 y.other.sym.n] by rw [hV2];exact ((((KB.out).set_ 6 (.string (oneR t y.value.a.var))).set_ 7 (.int .i64 y.value.a.sym.kind)).set_ 8 (.string y.value.a.sym.text)).set_ 9 (.int .i64 y.value.a.sym.n))
       have HBV:=Lib.hid (show Below wr.heap.size wr V2 by rw [hV2];exact Below.setCells' _ _ HBV.out (Nat.le_refl _))
       clear hV2 hb
       go_upto_region 14 with ((with_reducible refine wpList_store_mid rfl 54 _ _ rfl wr.heap.size 6 #[.string (oneR t y.value.a.var),.int .i64 y.value.a.sym.kind,.string y.value.a.sym.text,.int .i64 y.value.a.sym.n] rfl rfl HTH.out (by kernel_rfl) (by kernel_rfl) ?_);rw [← HV2.out])
       clear HTH HV2
       have e10:V2.cell? ⟨wr.heap.size,10,none⟩=some (.string y.value.b.var):=(KB.out.cell 10).trans rfl
       have e11:V2.cell? ⟨wr.heap.size,11,none⟩=some (.int .i64 y.value.b.sym.kind):=(KB.out.cell 11).trans rfl
       have e12:V2.cell? ⟨wr.heap.size,12,none⟩=some (.string y.value.b.sym.text):=(KB.out.cell 12).trans rfl
       have e13:V2.cell? ⟨wr.heap.size,13,none⟩=some (.int .i64 y.value.b.sym.n):=(KB.out.cell 13).trans rfl
       have ez:=KB.out.lt
       go_wp2_with fail
       refine (HAT.out y.value.b V2 (HBV.out) HQY.out.2.2.2.1).mono ?_
       rintro e v3 ⟨rfl,hb⟩
       clear ez e10 e11 e12 e13
       have KB:=Lib.hid (KB.out.new_ hb)
       have HBV:=Lib.hid (HBV.out.trans (hb.mono HBV.out.size))
       obtain ⟨V3,hV3⟩ : ∃W,W=v3.setCells wr.heap.size 10 [Value.string (oneR t y.value.b.var),Value.int IntKind.i64 y.value.b.sym.kind,Value.string y.value.b.sym.text,Value.int IntKind.i64 y.value.b.sym.n]:=⟨_,rfl⟩
       have HTH:=Lib.hid (show v3.there wr.heap.size 10 (#[.string (oneR t y.value.b.var),.int .i64 y.value.b.sym.kind,.string y.value.b.sym.text,.int .i64 y.value.b.sym.n]:Array Value).size from there_of KB.out (by simp))
       have HV3:=Lib.hid hV3
       have KB:=Lib.hid (show Blk V3 wr.heap.size 58 #[.string (oneR t y.id),.string (oneR t y.attr.var),.int .i64 y.attr.sym.kind,.string y.attr.sym.text,.int .i64 y.attr.sym.n,.int .i64 y.value.op,.string (oneR t y.value.a.var),.int .i64 y.value.a.sym.kind,.string y.value.a.sym.text,.int .i64 y.value.a.sym.n,.string (oneR t y.value.b.var),.int .i64 y.value.b.sym.kind,.string y.value.b.sym.text,.int .i64 y.value.b.sym.n,.int .i64 y.pref,.string y.other.var,.int .i64 y.other.sym.kind,.string y.other.sym.text,.int .i64 y.other.sym.n] by rw [hV3];exact ((((KB.out).set_ 10 (.string (oneR t y.value.b.var))).set_ 11 (.int .i64 y.value.b.sym.kind)).set_ 12 (.string y.value.b.sym.text)).set_ 13 (.int .i64 y.value.b.sym.n))
       have HBV:=Lib.hid (show Below wr.heap.size wr V3 by rw [hV3];exact Below.setCells' _ _ HBV.out (Nat.le_refl _))
       clear hV3 hb
       go_upto_region 15 with ((with_reducible refine wpList_store_mid rfl 54 _ _ rfl wr.heap.size 10 #[.string (oneR t y.value.b.var),.int .i64 y.value.b.sym.kind,.string y.value.b.sym.text,.int .i64 y.value.b.sym.n] rfl rfl HTH.out (by kernel_rfl) (by kernel_rfl) ?_);rw [← HV3.out])
       clear HTH HV3
       have e15:V3.cell? ⟨wr.heap.size,15,none⟩=some (.string y.other.var):=(KB.out.cell 15).trans rfl
       have e16:V3.cell? ⟨wr.heap.size,16,none⟩=some (.int .i64 y.other.sym.kind):=(KB.out.cell 16).trans rfl
       have e17:V3.cell? ⟨wr.heap.size,17,none⟩=some (.string y.other.sym.text):=(KB.out.cell 17).trans rfl
       have e18:V3.cell? ⟨wr.heap.size,18,none⟩=some (.int .i64 y.other.sym.n):=(KB.out.cell 18).trans rfl
       have ez:=KB.out.lt
       go_wp2_with fail
       refine (HAT.out y.other V3 (HBV.out) HQY.out.2.2.2.2).mono ?_
       rintro e v4 ⟨rfl,hb⟩
       clear ez e15 e16 e17 e18
       have KB:=Lib.hid (KB.out.new_ hb)
       have HBV:=Lib.hid (HBV.out.trans (hb.mono HBV.out.size))
       obtain ⟨V4,hV4⟩ : ∃W,W=v4.setCells wr.heap.size 15 [Value.string (oneR t y.other.var),Value.int IntKind.i64 y.other.sym.kind,Value.string y.other.sym.text,Value.int IntKind.i64 y.other.sym.n]:=⟨_,rfl⟩
       have HTH:=Lib.hid (show v4.there wr.heap.size 15 (#[.string (oneR t y.other.var),.int .i64 y.other.sym.kind,.string y.other.sym.text,.int .i64 y.other.sym.n]:Array Value).size from there_of KB.out (by simp))
       have HV4:=Lib.hid hV4
       have KB:=Lib.hid (show Blk V4 wr.heap.size 58 #[.string (oneR t y.id),.string (oneR t y.attr.var),.int .i64 y.attr.sym.kind,.string y.attr.sym.text,.int .i64 y.attr.sym.n,.int .i64 y.value.op,.string (oneR t y.value.a.var),.int .i64 y.value.a.sym.kind,.string y.value.a.sym.text,.int .i64 y.value.a.sym.n,.string (oneR t y.value.b.var),.int .i64 y.value.b.sym.kind,.string y.value.b.sym.text,.int .i64 y.value.b.sym.n,.int .i64 y.pref,.string (oneR t y.other.var),.int .i64 y.other.sym.kind,.string y.other.sym.text,.int .i64 y.other.sym.n] by rw [hV4];exact ((((KB.out).set_ 15 (.string (oneR t y.other.var))).set_ 16 (.int .i64 y.other.sym.kind)).set_ 17 (.string y.other.sym.text)).set_ 18 (.int .i64 y.other.sym.n))
       have HBV:=Lib.hid (show Below wr.heap.size wr V4 by rw [hV4];exact Below.setCells' _ _ HBV.out (Nat.le_refl _))
       clear hV4 hb
       go_upto_region 16 with ((with_reducible refine wpList_store_mid rfl 54 _ _ rfl wr.heap.size 15 #[.string (oneR t y.other.var),.int .i64 y.other.sym.kind,.string y.other.sym.text,.int .i64 y.other.sym.n] rfl rfl HTH.out (by kernel_rfl) (by kernel_rfl) ?_);rw [← HV4.out])
       clear HTH HV4
       have HRG9:=Lib.hid (show V4.rangeAt wr.heap.size 0 [Value.string (oneR t y.id),Value.string (oneR t y.attr.var),Value.int IntKind.i64 y.attr.sym.kind,Value.string y.attr.sym.text,Value.int IntKind.i64 y.attr.sym.n,Value.int IntKind.i64 y.value.op,Value.string (oneR t y.value.a.var),Value.int IntKind.i64 y.value.a.sym.kind,Value.string y.value.a.sym.text,Value.int IntKind.i64 y.value.a.sym.n,Value.string (oneR t y.value.b.var),Value.int IntKind.i64 y.value.b.sym.kind,Value.string y.value.b.sym.text,Value.int IntKind.i64 y.value.b.sym.n,Value.int IntKind.i64 y.pref,Value.string (oneR t y.other.var),Value.int IntKind.i64 y.other.sym.kind,Value.string y.other.sym.text,Value.int IntKind.i64 y.other.sym.n] from KB.out.range)
       have HGV:=Lib.hid (HPA.out.1.new_ HBV.out)
       have g2:V4.cell? ⟨g,2,none⟩=some (.slice A i c):=(HGV.out.cell 2).trans rfl
       have gz:=HGV.out.lt
       have HX:=Lib.hid (show Below V4.heap.size V4 (V4.alloc (.cells #[.string (oneR t y.id),.string (oneR t y.attr.var),.int .i64 y.attr.sym.kind,.string y.attr.sym.text,.int .i64 y.attr.sym.n,.int .i64 y.value.op,.string (oneR t y.value.a.var),.int .i64 y.value.a.sym.kind,.string y.value.a.sym.text,.int .i64 y.value.a.sym.n,.string (oneR t y.value.b.var),.int .i64 y.value.b.sym.kind,.string y.value.b.sym.text,.int .i64 y.value.b.sym.n,.int .i64 y.pref,.string (oneR t y.other.var),.int .i64 y.other.sym.kind,.string y.other.sym.text,.int .i64 y.other.sym.n] 58)) from (Below.refl _ _).alloc (Nat.le_refl _) _)
       have HBX:=Lib.hid (HBV.out.trans (HX.out.mono HBV.out.size))
       have HOX:=Lib.hid (ownsRow_new (ownsRow_new HPA.out.2.2.1 HBV.out) HX.out)
       have HNX:=Lib.hid (show ∀(j:Nat) (u:Value),(([.string (oneR t y.id),.string (oneR t y.attr.var),.int .i64 y.attr.sym.kind,.string y.attr.sym.text,.int .i64 y.attr.sym.n,.int .i64 y.value.op,.string (oneR t y.value.a.var),.int .i64 y.value.a.sym.kind,.string y.value.a.sym.text,.int .i64 y.value.a.sym.n,.string (oneR t y.value.b.var),.int .i64 y.value.b.sym.kind,.string y.value.b.sym.text,.int .i64 y.value.b.sym.n,.int .i64 y.pref,.string (oneR t y.other.var),.int .i64 y.other.sym.kind,.string y.other.sym.text,.int .i64 y.other.sym.n]:List Value))[j]? = some u→((V4.alloc (.cells #[.string (oneR t y.id),.string (oneR t y.attr.var),.int .i64 y.attr.sym.kind,.string y.attr.sym.text,.int .i64 y.attr.sym.n,.int .i64 y.value.op,.string (oneR t y.value.a.var),.int .i64 y.value.a.sym.kind,.string y.value.a.sym.text,.int .i64 y.value.a.sym.n,.string (oneR t y.value.b.var),.int .i64 y.value.b.sym.kind,.string y.value.b.sym.text,.int .i64 y.value.b.sym.n,.int .i64 y.pref,.string (oneR t y.other.var),.int .i64 y.other.sym.kind,.string y.other.sym.text,.int .i64 y.other.sym.n] 58))).cell? ((⟨V4.heap.size,0,none⟩:Addr).add j)=some u from World.news_of_block (heap_alloc_new _ _))
       have HGX:=Lib.hid (HGV.out.new_ HX.out)
       have hile:i≤1000:=by omega
       go_wp2_with (first
        | (with_reducible refine wpList_load_mid rfl 58 _ rfl wr.heap.size 0 rfl [Value.string (oneR t y.id),Value.string (oneR t y.attr.var),Value.int IntKind.i64 y.attr.sym.kind,Value.string y.attr.sym.text,Value.int IntKind.i64 y.attr.sym.n,Value.int IntKind.i64 y.value.op,Value.string (oneR t y.value.a.var),Value.int IntKind.i64 y.value.a.sym.kind,Value.string y.value.a.sym.text,Value.int IntKind.i64 y.value.a.sym.n,Value.string (oneR t y.value.b.var),Value.int IntKind.i64 y.value.b.sym.kind,Value.string y.value.b.sym.text,Value.int IntKind.i64 y.value.b.sym.n,Value.int IntKind.i64 y.pref,Value.string (oneR t y.other.var),Value.int IntKind.i64 y.other.sym.kind,Value.string y.other.sym.text,Value.int IntKind.i64 y.other.sym.n] _ HRG9.out Try.underlying58 rfl (by kernel_rfl) ?_)
        | (at_builtin;refine wpList_append_src (V4.alloc (.cells #[.string (oneR t y.id),.string (oneR t y.attr.var),.int .i64 y.attr.sym.kind,.string y.attr.sym.text,.int .i64 y.attr.sym.n,.int .i64 y.value.op,.string (oneR t y.value.a.var),.int .i64 y.value.a.sym.kind,.string y.value.a.sym.text,.int .i64 y.value.a.sym.n,.string (oneR t y.value.b.var),.int .i64 y.value.b.sym.kind,.string y.value.b.sym.text,.int .i64 y.value.b.sym.n,.int .i64 y.pref,.string (oneR t y.other.var),.int .i64 y.other.sym.kind,.string y.other.sym.text,.int .i64 y.other.sym.n] 58)) rfl (.tmp 68) (.tmp 70) 23 rfl 58 i0 _ 19 224 Try.underlying23 hi0 hz0 hz1 hz2 rfl (by omega) (.slice A i c) i ((M.take i).flatMap ActT.cells) rfl HOX.out (some ⟨V4.heap.size,0,none⟩) 1 1 [.string (oneR t y.id),.string (oneR t y.attr.var),.int .i64 y.attr.sym.kind,.string y.attr.sym.text,.int .i64 y.attr.sym.n,.int .i64 y.value.op,.string (oneR t y.value.a.var),.int .i64 y.value.a.sym.kind,.string y.value.a.sym.text,.int .i64 y.value.a.sym.n,.string (oneR t y.value.b.var),.int .i64 y.value.b.sym.kind,.string y.value.b.sym.text,.int .i64 y.value.b.sym.n,.int .i64 y.pref,.string (oneR t y.other.var),.int .i64 y.other.sym.kind,.string y.other.sym.text,.int .i64 y.other.sym.n] rfl rfl (fun _=>⟨_,rfl,HNX.out⟩) (by intro u hu;simp only [List.mem_cons,List.not_mem_nil,or_false] at hu;rcases hu with rfl | rfl | rfl | rfl | rfl | rfl | rfl | rfl | rfl | rfl | rfl | rfl | rfl | rfl | rfl | rfl | rfl | rfl | rfl<;>rfl) (by unfold maxLen;omega) (by omega) ?_;intro v1 w9 hown1 hg1 hnil1 hat1;obtain ⟨A',c',rfl,_⟩:=own_form2 hown1;have hne1:=own_blk_ne HOX.out HGX.out (by decide);have hgb:=HGX.out.grown hg1 hne1;have u2:=(hgb.cell 2).trans rfl;have f2:=hgb.frozen 2;have uz:=hgb.lt;have HOWN:=Lib.hid hown1;have HG1:=Lib.hid hg1;have HAT1:=Lib.hid hat1;clear hown1 hg1 hnil1 hat1 hne1 hgb))
       go_roundw
       case rel=>exact ⟨i+1,A',c',by go_num,by omega,HPA.out.step HGM.out HBX.out HZZ.out (by have h:=HOWN.out;exact h) HG1.out HAT1.out⟩
       case measure=>simp [intOf];omega
     · obtain rfl:i=p.acts.length:=by omega
       have hPA:=HPA.out
       obtain ⟨hG,hF,hO,hA⟩:=hPA
       rw [show p.acts.length=M.length from HML.out.symm] at hG hO
       rw [List.take_length] at hO
       have hR:=HRB.out.fr hF (fun e=>by have:=HGG.out;have:=HZ1.out;omega)
       have HT9:=Lib.hid (show wr.there (w.heap.size+1) 0 (#[Value.string p.name,Value.slice E1 L.length d1,Value.slice A M.length c]:Array Value).size from hR.there)
       have HRG:=Lib.hid (show wr.rangeAt g 0 [Value.string p.name,Value.slice E1 L.length d1,Value.slice A M.length c] from by have:=hG.range;exact this)
       have hrl:=hR.lt
       have hgl:=hG.lt
       have hsz:=hF.size
       have L1:=Lib.hid ((HROW.out.keep (w':=wr) (D':=Ex W1 wm g) hsz (fun j hj hl=>⟨hj,hF.block j hl (fun e=>hj.2.2 e)⟩)).keep (w':=wr.setCells (w.heap.size+1) 0 [Value.string p.name,Value.slice E1 L.length d1,Value.slice A M.length c]) (D':=NewD w.heap.size (wr.setCells (w.heap.size+1) 0 [Value.string p.name,Value.slice E1 L.length d1,Value.slice A M.length c])) (by rw [size_setCells];omega) (fun j hj hl=>⟨⟨by have:=hj.1;have:=HZ1.out;omega,by rw [size_setCells];omega⟩,blk_setCells _ _ _ _ _ (by have:=hj.1;have:=HZ1.out;omega)⟩))
       have hOR:RowR repActT (NewD wm.heap.size wr) wr A c M:=RowR.of_rd (hs:=ActT.cells_length) (ownsRow_rd ActT.cells_length hO) hA
       have L2:=Lib.hid (hOR.keep (w':=wr.setCells (w.heap.size+1) 0 [Value.string p.name,Value.slice E1 L.length d1,Value.slice A M.length c]) (D':=NewD w.heap.size (wr.setCells (w.heap.size+1) 0 [Value.string p.name,Value.slice E1 L.length d1,Value.slice A M.length c])) (by rw [size_setCells];omega) (fun j hj hl=>⟨⟨by have:=hj.1;have:=HBW.out.size;omega,by rw [size_setCells];omega⟩,blk_setCells _ _ _ _ _ (by have:=hj.1;have:=HGM.out;have:=HGG.out;have:=HZ1.out;omega)⟩))
       clear hR hG hF hO hA hOR
       go_upto_region 18 with fail
       go_wp2_with (first | (with_reducible refine wpList_load_mid rfl 25 _ rfl g 0 rfl [Value.string p.name,Value.slice E1 L.length d1,Value.slice A M.length c] _ HRG.out Try.underlying25 rfl (by kernel_rfl) ?_) | (with_reducible refine wpList_store_mid rfl 25 _ _ rfl (w.heap.size+1) 0 #[Value.string p.name,Value.slice E1 L.length d1,Value.slice A M.length c] rfl rfl HT9.out (by kernel_rfl) (by kernel_rfl) ?_))
       try simp only [Exit.inBlock,Exit.then]
       have hBe:Below w.heap.size w (wr.setCells (w.heap.size+1) 0 [Value.string p.name,Value.slice E1 L.length d1,Value.slice A M.length c]):=Below.setCells' _ _ HFR.out (by omega)
       refine bodyPost_ret (v:=.agg #[.string p.name,.slice E1 L.length d1,.slice A M.length c]) ?_ rfl (by rw [HR.out];exact ⟨E1,d1,A,c,rfl,L1.out,L2.out,hBe⟩)
       exact results_cell (t:=4) (T:=25) rfl _ _ (w.heap.size+1) [Value.string p.name,Value.slice E1 L.length d1,Value.slice A M.length c] _ rfl (World.rangeAt_setCells_same wr (w.heap.size+1) 0 [Value.string p.name,Value.slice E1 L.length d1,Value.slice A M.length c] HT9.out) Try.underlying25 rfl (by kernel_rfl)
end Go.Proofs.Ytffemfglngikbaa
namespace Go.Proofs.Ytffemfglngikbaa
open Go.RowKit
variable {D:Nat→Prop} {W W':World}
theorem info_parts {P:Program} {t:TypeId} {z:Value} {s b:Nat} (h:(P.info? t).map (fun i=>(i.zero,i.size,i.bytes))=some (some z,s,b)) : ∃i,P.info? t=some i∧i.zero=some z∧i.size=s∧i.bytes=b:=infp h
theorem row_low {e size n:Nat} {A:Option Addr} {c:Nat} {xs:List Value} (h:W.ownsRow 0 e size (.slice A n c) n xs):AIn A (· < W.heap.size):=fun a ha=>own_lt h a.block (by rw [ha];rfl)
def Own (D:Nat→Prop) (X:World) (k:Nat) (t:TypeId) (cs:Array Value):Prop:=Blk X k t cs∧¬D k
theorem Own.step {B k:Nat} {t:TypeId} {cs:Array Value} (h:Own D W k t cs) (hF:Fr (FromB B D) W W'):Own (Plus D W W') W' k t cs:=
 ⟨h.1.fr hF (fun hk=>h.2 hk.1),fun hk=>hk.elim h.2 (fun hk=>by have:=h.1.lt;omega)⟩
def OwnRD (D:Nat→Prop) (X:World) (e:TypeId) (size n:Nat) (A:Option Addr) (c:Nat) (xs:List Value):Prop:=X.ownsRow 0 e size (.slice A n c) n xs∧AIn A (fun k=>¬D k)
theorem OwnRD.step {B size n c:Nat} {e:TypeId} {A:Option Addr} {xs:List Value} (h:OwnRD D W e size n A c xs) (hF:Fr (FromB B D) W W'):OwnRD (Plus D W W') W' e size n A c xs:=by
 have hl:=row_low h.1
 refine ⟨ownsRow_fr h.1 hF (fun g hg hk=>?_),fun a ha hk=>hk.elim (h.2 a ha) (fun hk=>by have:=hl a ha;omega)⟩
 rcases A with _ | a
 · simp [Value.ownBlock] at hg
 · have e:a.block=g:=by simpa [Value.ownBlock] using hg
   exact h.2 a rfl (e ▸ hk.1)
end Go.Proofs.Ytffemfglngikbaa
namespace Go.Proofs.Ytffemfglngikbaa
open Go.RowKit Go.Shelf
attribute [local go_sem] Oper.semAt_some
theorem qc_true : ∀(n:Nat) (x:CondT),QC (fun _=>True) n x
 | 0,_=>trivial
 | n+1,_=>⟨fun _=>trivial,fun _ _ _=>trivial,fun _ _ _=>trivial,fun y _=>qc_true n y⟩
theorem qa_true (a:ActT):QA (fun _=>True) a:=⟨fun _=>trivial,fun _=>trivial,fun _=>trivial,fun _=>trivial,fun _=>trivial⟩
set_option maxRecDepth 100000 in
set_option maxHeartbeats 16000000 in
theorem cplain_is {D:Nat→Prop} (n:Nat) (p:ProdT) (A1:Option Addr) (c1:Nat) (A2:Option Addr) (c2:Nat) (w:World) (hD : ∀k,D k→k<w.heap.size)
 (h1:RowR (repCondT n) D w A1 c1 p.conds) (h2:RowR repActT D w A2 c2 p.acts) (hl1:p.conds.length≤1000) (hl2:p.acts.length≤1000) (hs : ∀x∈p.conds,SmC n x) (hlen:(varsP n p).length≤100000) :
 Calls Try.prog 21 #[.agg #[.string p.name,.slice A1 p.conds.length c1,.slice A2 p.acts.length c2]] w (FreshP n (plainP n p) w):=by
 have H1:=Lib.hid h1
 have H2:=Lib.hid h2
 have HD:=Lib.hid hD
 have HS:=Lib.hid hs
 obtain ⟨vs,hvs⟩ : ∃vs,vs=varsP n p:=⟨_,rfl⟩
 rw [← hvs] at hlen
 have HVS:=Lib.hid hvs
 have HV:=Lib.hid (show ∀kb W,Blk W kb 25 #[.string p.name,.slice A1 p.conds.length c1,.slice A2 p.acts.length c2]→Below w.heap.size w W→IterO Try.prog 29 #[.pointer (some ⟨kb,0,none⟩)] encStr vs W D from fun kb W hk hW=>by
  rw [hvs];exact varsI_is n p kb A1 A2 c1 c2 W hk (fun k hd=>Nat.lt_of_lt_of_le (hD k hd) hW.size) (h1.new_ hW) (h2.new_ hW))
 have HUL:=Lib.hid (show (uq vs).length≤100000 by have:=uq_len vs;omega)
 clear hvs h1 h2 hD hs
 refine (callsIn_wide (n:=0)).1 ?_
 refine callsIn_of_wp_marks Try.func21 rfl trivial ?_
 refine wpIn_wide.2 ?_
 simp only [Try.ntmps21,List.size_toArray,List.length_cons,List.length_nil,Nat.reduceAdd,Nat.reduceSub,Array.replicate_succ,Array.replicate_zero,List.push_toArray,List.append_toArray,List.nil_append,List.cons_append]
 go_upto_region 1 with fail
 obtain ⟨w1,hw1⟩ : ∃w1,w1=((w.alloc (.cells #[.string p.name,.slice A1 p.conds.length c1,.slice A2 p.acts.length c2] 25)).alloc (.cells #[.string ⟨#[]⟩,.slice none 0 0,.slice none 0 0] 25)):=⟨_,rfl⟩
 rw [← hw1]
 have HB:=Lib.hid (show Below w.heap.size w w1 by rw [hw1];exact (by repeat (first | exact Below.refl _ _ | refine Below.drew ?_ | refine Below.al ?_ _ | refine Below.sc ?_ _)))
 have Kp:=Lib.hid (show Blk w1 (w.heap.size) 25 #[.string p.name,.slice A1 p.conds.length c1,.slice A2 p.acts.length c2] by rw [hw1];exact ((Blk.new w 25 #[.string p.name,.slice A1 p.conds.length c1,.slice A2 p.acts.length c2]).alloc (.cells #[.string ⟨#[]⟩,.slice none 0 0,.slice none 0 0] 25)))
 have Kr:=Lib.hid (show Blk w1 (w.heap.size+1) 25 #[.string ⟨#[]⟩,.slice none 0 0,.slice none 0 0] by rw [hw1];have hh:=(Blk.new (w.alloc (.cells #[.string p.name,.slice A1 p.conds.length c1,.slice A2 p.acts.length c2] 25)) 25 #[.string ⟨#[]⟩,.slice none 0 0,.slice none 0 0]);simp only [World.size_alloc] at hh;exact hh)
 have W1Z:=Lib.hid (show w1.heap.size=w.heap.size+2 by rw [hw1];simp)
 clear hw1
 obtain ⟨p0,p1,p2⟩:=Kp.out.c3
 have pz:=Kp.out.lt
 obtain ⟨r0,r1,r2⟩:=Kr.out.c3
 have rf0:=Kr.out.frozen 0
 have rf1:=Kr.out.frozen 1
 have rf2:=Kr.out.frozen 2
 have rz:=Kr.out.lt
 go_wp2_with fail
 refine (bknew_PgW _).mono ?_
 rintro e w2 ⟨bm,bp,sn,A,cc,rfl,hbm,hbp,hA,hM,hS,hb⟩
 obtain ⟨w3,hw3⟩ : ∃W,W=w2.alloc (.cells #[.pointer (some ⟨bm,0,none⟩)] 81):=⟨_,rfl⟩
 have hb3:Below w2.heap.size w2 w3:=by rw [hw3];exact (Below.refl _ _).alloc (Nat.le_refl _) _
 have hz1:w1.heap.size=w.heap.size+2:=by have:=Kr.out.lt;have:=HB.out.size;have h9:=W1Z.out;omega
 have hbz:=hb.size
 have hb13:Below w1.heap.size w1 w3:=hb.trans (hb3.mono hbz)
 obtain ⟨bt,hbt⟩ : ∃bt,bt=w2.heap.size:=⟨_,rfl⟩
 have hBT:Blk w3 bt 81 #[.pointer (some ⟨bm,0,none⟩)]:=by rw [hw3,hbt];exact Blk.new _ _ _
 have hM3:=hM.new_ hb3
 have hS3:=hS.new_ hb3
 have hne:bt≠bp:=by have:=hS.lt;omega
 have nD : ∀k,w.heap.size≤k→¬D k:=fun k hk hd=>by have:=HD.out k hd;omega
 have hPL:PlI w bt bm bp #[.string p.name,.slice A1 p.conds.length c1,.slice A2 p.acts.length c2] D [] w3:=⟨hBT,⟨sn,A,cc,[],hM3,hS3,MapOk.nil,hA.mono (fun k hk=>⟨by omega,nD k (by omega)⟩)⟩,Kp.out.new_ hb13,Kr.out.new_ hb13,⟨nD _ (by omega),nD _ (by omega),nD _ (by omega),nD _ (Nat.le_refl _),nD _ (by omega)⟩,⟨by omega,by omega,by omega⟩,HB.out.trans (hb13.mono HB.out.size),fun k hk=>by have:=HD.out k hk;have:=hb13.size;omega⟩
 have HPL:=Lib.hid hPL
 have HNE:=Lib.hid hne
 have HPM:=Lib.hid (show bm≠bp from hM3.ne_ hS3.blk (by decide))
 have hBTl:=hBT.lt
 obtain ⟨q0,q1,q2⟩:=hPL.2.2.1.c3
 have hpl:=hPL.2.2.1.lt
 have HW3:=Lib.hid hw3
 have HB3:=Lib.hid (HB.out.trans (hb13.mono HB.out.size))
 clear p0 p1 p2 pz r0 r1 r2 rf0 rf1 rf2 rz hM hS hA hb hb3 hBT hM3 hS3 hb13 hPL hw3 hbm hbp hne nD hbz
 go_upto_region 2 with fail
 rw [← HW3.out,← hbt]
 clear hbt HW3
 go_wp2_with fail
 refine (mkvars_is p A1 A2 c1 c2 w3).mono ?_
 rintro e w4 ⟨rfl,hkb,hb4⟩
 obtain ⟨kv,hkv⟩ : ∃kv,kv=w3.heap.size:=⟨_,rfl⟩
 rw [← hkv] at hkb ⊢
 have HPL:=Lib.hid (HPL.out.new_ hb4)
 have HB4:=Lib.hid (HB3.out.trans (hb4.mono HB3.out.size))
 have HKB:=Lib.hid hkb
 have h4z:=HB4.out.size
 have h4r:=Lib.hid (show w.heap.size+2≤w4.heap.size from by have:=HPL.out.2.2.2.1.lt;have:=HPL.out.2.2.2.2.2.1.1;have:=HPL.out.1.lt;omega)
 clear hkb hb4 hkv q0 q1 q2 hpl HB3
 go_wp2_with fail
 obtain ⟨I,hI⟩ : ∃I:(Nat→Prop)→List ByteArray→World→Prop,I=fun D' q X=>PlI w bt bm bp #[.string p.name,.slice A1 p.conds.length c1,.slice A2 p.acts.length c2] D' q X:=⟨_,rfl⟩
 obtain ⟨Ix,hIx⟩ : ∃Ix:Code→(Nat→Prop)→List ByteArray→World→Prop,Ix=fun _ _ _ _=>False:=⟨_,rfl⟩
 have hst:Steady w4.heap.size I:=by
  subst hI
  intro D' q X Y h hF
  exact h.step h4z hF
 have hstx : ∀cd,Steady w4.heap.size (Ix cd):=by
  subst hIx
  intro cd D' q X Y h hF
  exact h.elim
 have HST:=Lib.hid hst
 refine (wpIn_wide (n:=0)).1 ?_
 refine wpIn_rangeO (w:=w4) (D:=D) (by rfl) (by intro args w;kernel_rfl) (fun k hk=>Nat.lt_of_lt_of_le (HD.out k hk) h4z) (fun W hW=>HV.out kv W (HKB.out.new_ hW) (HB4.out.trans (hW.mono h4z))) (fun x=>by rfl) I Ix hst hstx ?_ ?_ ?_ ?_
 · subst hI
   exact HPL.out
 · intro D' lo q x post X hx hlo hDl hIX
   have hql:q.length+1≤100000:=by
    have:=congrArg List.length hx
    simp at this
    omega
   have hul:(uq q).length≤99999:=by have:=uq_len q;omega
   have HX:=Lib.hid hx
   simp only [encStr,Array.zip]
   gi_wp2_with fail
   refine ⟨Fr.refl _ _,fun X2 hF2 hz2 _=>?_⟩
   have hI2:=hst.same hIX (hF2.mono (fun k _ e=>by rw [e];exact ⟨hDl,hlo⟩)) hz2
   have HI:=Lib.hid hI
   rw [hI] at hI2
   clear hI hIx hst hstx hIX hF2 hz2 hx HST
   have HP:=Lib.hid hI2
   have t0:X2.cell? ⟨bt,0,none⟩=some (.pointer (some ⟨bm,0,none⟩)):=(hI2.1.cell 0).trans rfl
   have tz:=hI2.1.lt
   have HGET:=Lib.hid (mget_is x X2 hI2.2.1 (by omega))
   obtain ⟨nx,hnx⟩ : ∃t,t=numT (uq q) x:=⟨_,rfl⟩
   obtain ⟨b,hbb⟩ : ∃b,b=decide (x∈uq q):=⟨_,rfl⟩
   rw [← hnx,← hbb] at HGET
   have HBB:=Lib.hid hbb
   clear hI2 hnx hbb
   gi_wp2_with fail
   refine ⟨trivial,rfl,?_⟩
   refine (callsIn_wide.2 HGET.out).mono ?_
   rintro e w5 ⟨rfl,hb5⟩
   have HB5:=Lib.hid hb5
   have HP5:=Lib.hid (HP.out.new_ hb5)
   clear hb5 t0 tz
   cases b with
   | true=>
     have hin:x∈uq q:=of_decide_eq_true HBB.out.symm
     have HQ:=Lib.hid (show uq (q ++ [x])=uq q by rw [uq_snoc,uqStep,if_pos hin])
     clear hin
     gi_wp2
     rw [HI.out]
     refine ⟨Fr.of_new HB5.out,?_⟩
     have h:=HP5.out
     exact ⟨h.1,by rw [HQ.out];exact h.2.1,h.2.2⟩
   | false=>
     have HNI:=Lib.hid (show ¬x∈uq q from of_decide_eq_false HBB.out.symm)
     have hPC:=HP5.out.2.1
     obtain ⟨sn,A,cc,mm,g1,g2,g3,g4⟩:=hPC
     have t0:w5.cell? ⟨bt,0,none⟩=some (.pointer (some ⟨bm,0,none⟩)):=(HP5.out.1.cell 0).trans rfl
     have tz:=HP5.out.1.lt
     obtain ⟨nn,hnn⟩ : ∃nn,nn=mm.length+1:=⟨_,rfl⟩
     have hne1:((mm.length:Int)+1)=(nn:Int):=by omega
     have hnb:nn≤100000:=by have:=g3.len;omega
     have vw:IntKind.i64.wrap (nn:Int)=(nn:Int):=IntWalk.i64_in _ (by omega)
     have hds:=decB_size nn
     have hcz : ¬9223372036854775807<1+(decB nn).size:=by omega
     have HPUT:=Lib.hid (show ∀Y,Below w5.heap.size w5 Y→Calls Try.prog 44 #[.pointer (some ⟨bm,0,none⟩),.string x,.string (nameW nn)] Y _ from fun Y hY=>bkput_PgW bm bp cc sn A mm ⟨x,nameW nn⟩ Y (g1.new_ hY) (g2.new_ hY) g3.srt (by have:=g3.len;omega) (by rw [g3.has];exact decide_eq_false HNI.out))
     have HLEN:=Lib.hid (show ∀Y,Below w5.heap.size w5 Y→_ from fun Y hY=>bklen_PgW bm bp cc sn A mm Y (g1.new_ hY) (g2.new_ hY))
     have HAT:=Lib.hid (show AIn A (fun k=>k≠bt∧k≠bm∧k≠w.heap.size∧k≠w.heap.size+1) from fun a ha=>by
      have k1:=own_blk_ne g2.row HP5.out.1 (by decide)
      have k2:=own_blk_ne g2.row g1 (by decide)
      have k3:=own_blk_ne g2.row HP5.out.2.2.1 (by decide)
      have k4:=own_blk_ne g2.row HP5.out.2.2.2.1 (by decide)
      subst ha
      exact ⟨fun e=>k1 (by simp [Value.ownBlock,e]),fun e=>k2 (by simp [Value.ownBlock,e]),fun e=>k3 (by simp [Value.ownBlock,e]),fun e=>k4 (by simp [Value.ownBlock,e])⟩)
     have HG1:=Lib.hid g1
     have HG2:=Lib.hid g2
     have HG3:=Lib.hid g3
     have HG4:=Lib.hid g4
     have HNN:=Lib.hid hnn
     clear g1 g2 g3 g4 hds hnn
     gi_wp2_with fail
     refine wpIn_region_E (fun w9=>Below w5.heap.size w5 w9) [(0,1),(1,0),(2,1),(3,2),(4,0),(5,2),(6,0),(7,2)] (by kernel_rfl) (by kernel_rfl) (by rfl) (fun KK hKK=>?_)
     simp only [beside,List.filterMap_cons,List.filterMap_nil,List.getElem?_toArray,List.getElem?_cons_zero,List.getElem?_cons_succ,Option.map_some]
     repeat ((first | (refine wpX_w ?_ (Or.inl ⟨by rfl,fun w9=>?_⟩) ?_;rotate_left 1;go_simp;with_reducible rfl) | (refine wpX_l ?_ (((Below.refl _ _).drew)) (Or.inl ⟨by rfl,fun w9 hw9=>?_⟩) ?_;rotate_left 1;obtain ⟨hc9,hf9⟩:=bcell hw9;go_simp;with_reducible rfl) | refine wpX_w undef (Or.inr ⟨by rfl,rfl⟩) ?_ | refine wpX_l undef (((Below.refl _ _).drew)) (Or.inr ⟨by rfl,rfl⟩) ?_);go_frame)
     refine wpX_es (fun K9 hK9=>?_)
     go_simp
     refine (HLEN.out _ ((Below.refl _ _).drew)).mono ?_
     rintro e w6 ⟨rfl,rfl⟩
     refine hK9 _ _ ((Below.refl _ _).drew) ?_
     clear hK9 K9
     repeat ((first | (refine wpX_w ?_ (Or.inl ⟨by rfl,fun w9=>?_⟩) ?_;rotate_left 1;go_simp;with_reducible rfl) | (refine wpX_l ?_ (((Below.refl _ _).drew)) (Or.inl ⟨by rfl,fun w9 hw9=>?_⟩) ?_;rotate_left 1;obtain ⟨hc9,hf9⟩:=bcell hw9;go_simp;with_reducible rfl) | refine wpX_w undef (Or.inr ⟨by rfl,rfl⟩) ?_ | refine wpX_l undef (((Below.refl _ _).drew)) (Or.inr ⟨by rfl,rfl⟩) ?_);go_frame)
     refine wpX_es (fun K9 hK9=>?_)
     go_simp
     refine (cdigits_is nn (by omega) _).mono ?_
     rintro e w7 ⟨rfl,hb7⟩
     have HB7:=Lib.hid (show Below w5.heap.size w5 w7 from ((Below.refl w5.heap.size w5).drew).trans hb7)
     clear hb7
     refine hK9 _ _ HB7.out ?_
     clear hK9 K9
     repeat ((first | (refine wpX_w ?_ (Or.inl ⟨by rfl,fun w9=>?_⟩) ?_;rotate_left 1;go_simp;with_reducible rfl) | (refine wpX_l ?_ (HB7.out) (Or.inl ⟨by rfl,fun w9 hw9=>?_⟩) ?_;rotate_left 1;obtain ⟨hc9,hf9⟩:=bcell hw9;go_simp;with_reducible rfl) | refine wpX_w undef (Or.inr ⟨by rfl,rfl⟩) ?_ | refine wpX_l undef (HB7.out) (Or.inr ⟨by rfl,rfl⟩) ?_);go_frame)
     refine wpX_e (by kernel_rfl) (fun K9 hK9=>?_)
     go_simp
     refine (HPUT.out w7 HB7.out).mono ?_
     rintro e w8 ⟨rfl,hp8⟩
     have HP8:=Lib.hid hp8
     clear hp8
     refine hK9 _ _ ?_
     clear hK9 K9
     refine wpX_nil ?_
     simp only [OnlyN_normal]
     refine hKK _ _ ?_
     clear hKK KK
     gi_wp2
     rw [HI.out]
     obtain ⟨sn',A',c',k1,k2,k3⟩:=HP8.out
     obtain ⟨m1,m2⟩:=HP.out.put (HB5.out.trans (HB7.out.mono HB5.out.size)) HNE.out (HG1.out.new_ HB7.out) (HG2.out.new_ HB7.out) HG3.out HG4.out HNI.out (by rw [← HNN.out];exact k1) k2 k3 HAT.out HPM.out
     exact ⟨m2,m1⟩
 · intro D' d X hd hDd hIX hK
   rw [hI] at hIX
   have HP:=Lib.hid hIX
   have HK:=Lib.hid hK
   obtain ⟨hBT,hMP,hPP,hRR,-,-,hBX,-⟩:=hIX
   obtain ⟨b0,b1,b2⟩:=hPP.c3
   have bz:=hPP.lt
   have HBX:=Lib.hid hBX
   have HRR:=Lib.hid hRR
   have HREN:=Lib.hid (crename_is (pnamer_is X hBT hMP (by have:=HUL.out;omega)) n p A1 c1 A2 c2 X (Below.refl _ _) (H1.out.new_ hBX) (H2.out.new_ hBX) hl1 hl2 HS.out (fun x _=>qc_true n x) (fun a _=>qa_true a))
   obtain ⟨r,hr⟩ : ∃r,r=prodR (numT (uq vs)) n p:=⟨_,rfl⟩
   rw [← hr] at HREN
   have HR:=Lib.hid (show plainP n p=⟨⟨#[120]⟩,r.conds,r.acts⟩∧r.name=p.name by rw [hr,HVS.out];exact ⟨rfl,rfl⟩)
   clear hBT hMP hPP hRR hBX hK hI hIx hst hstx HST hr
   go_wp2_with fail
   refine HREN.out.mono ?_
   rintro e w5 ⟨E1,d1,E2,d2,rfl,r1,r2,hb5⟩
   rw [HR.out.2]
   have hRr:=HRR.out.new_ hb5
   obtain ⟨w6,hw6⟩ : ∃W,W=w5.alloc (.cells #[.string p.name,.slice E1 r.conds.length d1,.slice E2 r.acts.length d2] 25):=⟨_,rfl⟩
   have hb6:Below w5.heap.size w5 w6:=by rw [hw6];exact (Below.refl _ _).alloc (Nat.le_refl _) _
   have hg6:Blk w6 w5.heap.size 25 #[.string p.name,.slice E1 r.conds.length d1,.slice E2 r.acts.length d2]:=by rw [hw6];exact Blk.new _ _ _
   obtain ⟨w7,hw7⟩ : ∃W,W=w6.setCell ⟨w5.heap.size,0,none⟩ (.string ⟨#[120]⟩):=⟨_,rfl⟩
   have hg7:Blk w7 w5.heap.size 25 #[.string ⟨#[120]⟩,.slice E1 r.conds.length d1,.slice E2 r.acts.length d2]:=by rw [hw7];exact hg6.set_ 0 _
   have hb7:Below w5.heap.size w5 w7:=by rw [hw7];exact hb6.setCell (Nat.le_refl _) _
   have g0:w6.cell? ⟨w5.heap.size,0,none⟩=some (.string p.name):=(hg6.cell 0).trans rfl
   have gf:=hg6.frozen 0
   have gl:=hg6.lt
   have HW6:=Lib.hid hw6
   have HW7:=Lib.hid hw7
   have HG7:=Lib.hid hg7
   have HR7:=Lib.hid (hRr.new_ hb7)
   have hz5:=hb5.size
   have hzx:=HBX.out.size
   have hB7:Below w.heap.size w w7:=HBX.out.trans ((hb5.trans (hb7.mono hz5)).mono hzx)
   have HB7:=Lib.hid hB7
   have hXd:d<X.heap.size:=(Array.getElem?_eq_some_iff.1 HK.out).1
   have HK7:=Lib.hid (((hb5.trans (hb7.mono hz5)).block d hXd).trans HK.out)
   have HR1:=Lib.hid (r1.newD hb7 (Nat.le_refl _))
   have HR2:=Lib.hid (r2.newD hb7 (Nat.le_refl _))
   clear hb5 hb6 hb7 hg6 hg7 hw6 hw7 hRr r1 r2 b0 b1 b2 bz hB7
   go_upto_region 8 with fail
   rw [← HW6.out]
   go_upto_region 9 with fail
   rw [← HW7.out]
   clear g0 gf gl HW6 HW7
   have HT9:=Lib.hid (show w7.there (w.heap.size+1) 0 (#[Value.string ⟨#[120]⟩,Value.slice E1 r.conds.length d1,Value.slice E2 r.acts.length d2]:Array Value).size from HR7.out.there)
   have HRG:=Lib.hid (show w7.rangeAt w5.heap.size 0 [Value.string ⟨#[120]⟩,Value.slice E1 r.conds.length d1,Value.slice E2 r.acts.length d2] from HG7.out.range)
   have hrl:=HR7.out.lt
   have hgl:=HG7.out.lt
   go_wp2_with (first | (with_reducible refine wpList_load_mid rfl 25 _ rfl w5.heap.size 0 rfl [Value.string ⟨#[120]⟩,Value.slice E1 r.conds.length d1,Value.slice E2 r.acts.length d2] _ HRG.out Try.underlying25 rfl (by kernel_rfl) ?_) | (with_reducible refine wpList_store_mid rfl 25 _ _ rfl (w.heap.size+1) 0 #[Value.string ⟨#[120]⟩,Value.slice E1 r.conds.length d1,Value.slice E2 r.acts.length d2] rfl rfl HT9.out (by kernel_rfl) (by kernel_rfl) ?_))
   try simp only [Exit.inBlock,Exit.then]
   obtain ⟨w8,hw8⟩ : ∃W,W=w7.setCells (w.heap.size+1) 0 [Value.string ⟨#[120]⟩,Value.slice E1 r.conds.length d1,Value.slice E2 r.acts.length d2]:=⟨_,rfl⟩
   have hz8:w8.heap.size=w7.heap.size:=by rw [hw8];exact size_setCells _ _ _ _
   have hk8 : ∀j,j≠w.heap.size+1→w8.heap[j]? = w7.heap[j]?:=fun j hj=>by rw [hw8];exact blk_setCells _ _ _ _ _ hj
   have hr8:w8.rangeAt (w.heap.size+1) 0 [Value.string ⟨#[120]⟩,Value.slice E1 r.conds.length d1,Value.slice E2 r.acts.length d2]:=by rw [hw8];exact World.rangeAt_setCells_same w7 (w.heap.size+1) 0 [Value.string ⟨#[120]⟩,Value.slice E1 r.conds.length d1,Value.slice E2 r.acts.length d2] HT9.out
   have hd1:d≠w.heap.size+1:=by have h4:=h4z;have:=h4r.out;omega
   have hK8:w8.heap[d]? = some (.deferred (some [])):=(hk8 d hd1).trans HK7.out
   have hB8:Below w.heap.size w w8:=by rw [hw8];exact Below.setCells' _ _ HB7.out (by omega)
   rw [← hw8]
   clear hw8
   refine ⟨by simp,.inl ⟨_,_,rfl,run_takeDeferred hK8,?_⟩⟩
   have hput:Fr (· = d) w8 (w8.putObj d (.deferred none)):=(Fr.refl (· = d) w8).putObj (.inl rfl) _
   have hr9:(w8.putObj d (.deferred none)).rangeAt (w.heap.size+1) 0 [Value.string ⟨#[120]⟩,Value.slice E1 r.conds.length d1,Value.slice E2 r.acts.length d2]:=fun j v hv=>(hput.cell (p:=⟨w.heap.size+1,0+j,none⟩) (by dsimp only;omega) (fun e=>hd1 e.symm)).trans (hr8 j v hv)
   refine ⟨_,results_cell (t:=2) (T:=25) rfl _ _ (w.heap.size+1) [Value.string ⟨#[120]⟩,Value.slice E1 r.conds.length d1,Value.slice E2 r.acts.length d2] _ rfl hr9 Try.underlying25 rfl (by kernel_rfl),?_⟩
   have hup : ∀j,NewD X.heap.size w7 j→j<w7.heap.size→NewD w.heap.size (w8.putObj d (.deferred none)) j∧(w8.putObj d (.deferred none)).heap[j]? = w7.heap[j]?:=fun j hj hl=>⟨⟨by have:=hj.1;omega,by have:=hput.size;omega⟩,(hput.block j (by omega) (fun e=>by have:=hj.1;omega)).trans (hk8 j (by have:=hj.1;have:=h4r.out;omega))⟩
   rw [HR.out.1]
   exact ⟨E1,d1,E2,d2,rfl,HR1.out.keep (by have:=hput.size;omega) hup,HR2.out.keep (by have:=hput.size;omega) hup,hB8.trans (hput.below (by omega) (fun k hk e=>by omega))⟩
 · intro D' d cd q post X hd hDd hx hIX hK
   rw [hIx] at hIX
   exact hIX.elim
end Go.Proofs.Ytffemfglngikbaa
