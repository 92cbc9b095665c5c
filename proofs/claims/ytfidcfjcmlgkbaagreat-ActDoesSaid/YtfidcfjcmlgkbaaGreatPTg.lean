/-
  Texts put together: Shape6, Act4, Act5, LeafPage.
-/
import Derived.Test.YtfidcfjcmlgkbaaGreatPTf
namespace Go.Proofs.YtfidcfjcmlgkbaaGreat
open Lib (hid)
set_option maxRecDepth 100000
set_option maxHeartbeats 32000000
section
open Go.RowKit Go.Shelf
attribute [local go_sem] Oper.semAt_some
theorem Zig {D:Nat→Prop} (p:Z31) (n:Nat) (A1 A2:Option Addr) (c1 c2:Nat) (w:World) (h1:RowR (Z0g n) D w A1 c1 p.conds) (h2:RowR Z0r D w A2 c2 p.acts) (hD : ∀k,D k→k<w.heap.size) (hF:(Z0f n 0 p.conds).length≤1000000000) (hn:n≤1000000000) :
 Calls Tryz.prog 136 #[.agg #[.string p.name,.slice A1 p.conds.length c1,.slice A2 p.acts.length c2]] w fun e w'=>e = .returned (.tuple #[.int .i64 (Z19 n p).1,.int .i64 (Z19 n p).2])∧Below w.heap.size w w':=by
 have H1:=hid h1;have H2:=hid h2;have HD:=hid hD;have hl2:=h2.cap;clear h1 h2 hD;by_cases hw:Z0n p.name=false
 · have HR:=hid (show Z19 n p=(-1,2) by unfold Z19;rw [if_pos hw])
   have w1:=hw;clear hw;go_enter Tryz.func136,Tryz.ntmps136;(go_wp2_with (go_at_call 98;refine (Z3h p.name _).mono ?_;rintro e w9 ⟨rfl,rfl⟩));go_ret2;exact ⟨by rw [HR.out]<;>rfl,(Zks _ _).alloc (Zkt _) _⟩
 (have w1:Z0n p.name=true:=by simpa using hw);have HW:=hid hw;clear hw;obtain ⟨F,hFd⟩ : ∃F,F=Z0f n 0 p.conds:=⟨_,rfl⟩;have HFD:=hid hFd;rw [← hFd] at hF;clear hFd;go_enter Tryz.func136,Tryz.ntmps136;(go_upto_region 4 with (go_at_call 98;refine (Z3h p.name _).mono ?_;rintro e w9 ⟨rfl,rfl⟩));obtain ⟨W1,hW1⟩ : ∃W1,W1=(w.alloc (.cells #[.string p.name,.slice A1 p.conds.length c1,.slice A2 p.acts.length c2] 25)).alloc (.cells #[.int .i64 0] 3):=⟨_,rfl⟩;rw [← hW1];(have hb1:Below w.heap.size w W1:=by rw [hW1];exact ((Zks _ _).alloc (Zkt _) _).alloc (by simp) _);have hP:Blk W1 w.heap.size 25 #[.string p.name,.slice A1 p.conds.length c1,.slice A2 p.acts.length c2]:=by rw [hW1];exact (Blk.new w 25 #[.string p.name,.slice A1 p.conds.length c1,.slice A2 p.acts.length c2]).alloc _
 have hN:Blk W1 (w.heap.size+1) 3 #[.int .i64 0]:=by
  rw [hW1];have:=Blk.new (w.alloc (.cells #[.string p.name,.slice A1 p.conds.length c1,.slice A2 p.acts.length c2] 25)) 3 #[.int .i64 0];rw [show (w.alloc (.cells #[.string p.name,.slice A1 p.conds.length c1,.slice A2 p.acts.length c2] 25)).heap.size=w.heap.size+1 from by simp] at this;exact this
 obtain ⟨bn,hbn⟩ : ∃bn,bn=w.heap.size+1:=⟨_,rfl⟩;obtain ⟨px,hpx⟩ : ∃px,px=w.heap.size:=⟨_,rfl⟩;rw [← hbn] at hN ⊢;rw [← hpx] at hP;have HPX:=hid hpx;have HBN:=hid hbn;(have hDn : ¬D bn:=fun h=>by have:=HD.out _ h;omega);(have p1:W1.cell? ⟨w.heap.size,1,none⟩=some (.slice A1 p.conds.length c1):=by rw [← hpx];exact (hP.cell 1).trans rfl);(have hpl:w.heap.size<W1.heap.size:=by rw [← hpx];exact hP.lt);have HB1:=hid hb1;have HP:=hid hP;have HN:=hid hN;clear hW1 hbn hpx hb1 hP hN;(go_wp2_with fail);have hwk:=Zgw (yld1 (D:=D) bn hDn F) hF n 0 0 A1 c1 p.conds W1 (H1.out.new_ HB1.out) (fun k hk=>by rw [hk];exact HN.out.lt) ⟨[],by rw [← HFD.out];simp⟩ (by rw [← HFD.out];omega) (by omega) ⟨HN.out,by omega⟩;rw [← HFD.out] at hwk;refine hwk.mono ?_;rintro e W2 ⟨b,a,rfl,hbt,hbf,hF2⟩
 have hm : ∃m:Nat,Blk W2 bn 3 #[.int .i64 (m:Int)]∧((m=F.length∧m≤16)∨(m=17∧16<F.length)):=by
  cases b with
  | true=>
    obtain ⟨ha,hI⟩:=hbt rfl;exact ⟨a,hI.1,.inl ⟨by omega,hI.2⟩⟩
  | false=>
    have hS:=hbf rfl;exact ⟨17,hS.1,.inr ⟨rfl,hS.2⟩⟩
 obtain ⟨m,hM,hmF⟩:=hm;have hP2:=HP.out.fr hF2 (fun e=>by have:=HPX.out;have:=HBN.out;omega);have HB2:=hid (HB1.out.trans (hF2.below HB1.out.size (fun k hk e=>by have:=HBN.out;omega)));have n0:W2.cell? ⟨bn,0,none⟩=some (.int .i64 (m:Int)):=(hM.cell 0).trans rfl;(have p1':W2.cell? ⟨w.heap.size,1,none⟩=some (.slice A1 p.conds.length c1):=by rw [← HPX.out];exact (hP2.cell 1).trans rfl);(have p2':W2.cell? ⟨w.heap.size,2,none⟩=some (.slice A2 p.acts.length c2):=by rw [← HPX.out];exact (hP2.cell 2).trans rfl);(have hpl2:w.heap.size<W2.heap.size:=by rw [← HPX.out];exact hP2.lt);have hnl:=hM.lt;have HM:=hid hM;have HP2:=hid hP2;clear hwk hbt hbf hF2 hM hP2 p1 hpl
 have bad:(F.length<1∨16<F.length∨p.acts.length<1∨16<p.acts.length)→Z19 n p=(-1,7):=fun h=>by
  unfold Z19;rw [if_neg HW.out,← HFD.out,if_pos h]
 have HBAD:=hid bad;clear bad;by_cases k1:m<1
 · have t1:decide ((m:Int)<1)=true:=Zkw (by omega)
   have t1n:decide (m<1)=true:=Zkw (by omega);have HR:=hid (HBAD.out (by omega));clear k1;(go_wp2_with fail);go_ret2;exact ⟨by rw [HR.out]<;>rfl,HB2.out⟩
 have t1:decide ((m:Int)<1)=false:=Zku (by omega);have t1n:decide (m<1)=false:=Zku (by omega);by_cases k2:16<m
 · have t2:decide ((16:Int)<(m:Int))=true:=Zkw (by omega)
   have t2n:decide (16<m)=true:=Zkw (by omega);have HR:=hid (HBAD.out (by omega));clear k1 k2;(go_wp2_with fail);go_ret2;exact ⟨by rw [HR.out]<;>rfl,HB2.out⟩
 have t2:decide ((16:Int)<(m:Int))=false:=Zku (by omega);have t2n:decide (16<m)=false:=Zku (by omega);(have hmF':m=F.length:=by omega);by_cases k3:p.acts.length<1
 · have t3:decide ((p.acts.length:Int)<1)=true:=Zkw (by omega)
   have t3n:decide (p.acts.length<1)=true:=Zkw (by omega);have HR:=hid (HBAD.out (by omega));(have hz0:p.acts.length=0:=by omega);clear k1 k2 k3 hmF hmF';(go_wp2_with fail);go_ret2;exact ⟨by rw [HR.out]<;>rfl,HB2.out⟩
 have t3:decide ((p.acts.length:Int)<1)=false:=Zku (by omega);have t3n:decide (p.acts.length<1)=false:=Zku (by omega);by_cases k4:16<p.acts.length
 · have t4:decide ((16:Int)<(p.acts.length:Int))=true:=Zkw (by omega)
   have t4n:decide (16<p.acts.length)=true:=Zkw (by omega);have HR:=hid (HBAD.out (by omega));clear k1 k2 k3 k4 hmF hmF';(go_wp2_with fail);go_ret2;exact ⟨by rw [HR.out]<;>rfl,HB2.out⟩
 have t4:decide ((16:Int)<(p.acts.length:Int))=false:=Zku (by omega);have t4n:decide (16<p.acts.length)=false:=Zku (by omega);clear k1 k2 k3 k4 hmF;have HMF:=hid hmF';clear hmF'
 have good : ∀r:Int×Int,(match F.findIdx? (fun c=>decide (Z0c c.2 c.1≠0)) with
  | some k=>((k:Int),((F[k]?).map fun c=>Z0c c.2 c.1).getD 0)
  | none=>match p.acts.findIdx? (fun a=>!actB a) with
    | some i=>(F.length+i,9)
    | none=>(-1,0))=r→Z19 n p=r:=fun r h=>by
  have ht2:=t2n;have ht1:=t1n;have ht3:=t3n;have ht4:=t4n;rw [decide_eq_false_iff_not] at ht1 ht2 ht3 ht4;unfold Z19;rw [if_neg HW.out,← HFD.out,if_neg (by have:=HMF.out;omega)];exact h
 have HGOOD:=hid good;clear good;(go_upto_region 8 with fail);obtain ⟨W3,hW3⟩ : ∃W3,W3=(W2.alloc (.cells #[.int .i64 (-1)] 3)).alloc (.cells #[.int .i64 0] 42):=⟨_,rfl⟩;rw [← hW3];(have hb3:Below W2.heap.size W2 W3:=by rw [hW3];exact ((Zks _ _).alloc (Zkt _) _).alloc (by simp) _);have hQ:Blk W3 W2.heap.size 3 #[.int .i64 (-1)]:=by rw [hW3];exact (Blk.new W2 3 #[.int .i64 (-1)]).alloc _
 have hE:Blk W3 (W2.heap.size+1) 42 #[.int .i64 0]:=by
  rw [hW3];have:=Blk.new (W2.alloc (.cells #[.int .i64 (-1)] 3)) 42 #[.int .i64 0];rw [show (W2.alloc (.cells #[.int .i64 (-1)] 3)).heap.size=W2.heap.size+1 from by simp] at this;exact this
 obtain ⟨be,hbe⟩ : ∃be,be=W2.heap.size+1:=⟨_,rfl⟩;obtain ⟨bp,hbp⟩ : ∃bp,bp=W2.heap.size:=⟨_,rfl⟩;rw [← hbe] at hE ⊢;rw [← hbp] at hQ ⊢;have hz2:=HB2.out.size;(have hD1 : ¬D be:=fun h=>by have:=HD.out _ h;omega);(have hD2 : ¬D bp:=fun h=>by have:=HD.out _ h;omega);have q1:W3.cell? ⟨w.heap.size,1,none⟩=some (.slice A1 p.conds.length c1):=(hb3.cell (p:=⟨w.heap.size,1,none⟩) hpl2).trans p1';have hpl3:=Zkx hpl2 hb3.size;have HB3:=hid hb3;have HE:=hid hE;have HQ:=hid hQ;have HBE:=hid hbe;have HBP:=hid hbp;clear hW3 hb3 hE hQ hbe hbp p1' n0 hnl;(go_wp2_with fail);have hwk:=Zgw (yld2 (D:=D) be bp hD1 hD2 (by have:=HBE.out;have:=HBP.out;omega) F) hF n 0 0 A1 c1 p.conds W3 (H1.out.new_ (HB2.out.trans (HB3.out.mono hz2))) (fun k hk=>hk.elim (fun e=>e ▸ HE.out.lt) (fun e=>e ▸ HQ.out.lt)) ⟨[],by rw [← HFD.out];simp⟩ (by rw [← HFD.out];omega) (by omega) ⟨HE.out,HQ.out,fun j _ h=>absurd h (by omega)⟩;rw [← HFD.out] at hwk;refine hwk.mono ?_;rintro e W4 ⟨b,a2,rfl,hbt,hbf,hF4⟩;have HB4:=hid (show Below w.heap.size w W4 from (HB2.out.trans (HB3.out.mono hz2)).trans (hF4.below (by have:=HB3.out.size;omega) (fun k hk e=>by have:=HBE.out;have:=HBP.out;rcases e with e | e<;>omega)));have hM4:=(HM.out.new_ HB3.out).fr hF4 (fun e=>by have h1:=HM.out.lt;have:=HBE.out;have:=HBP.out;rcases e with e | e<;>omega);have hP4:=(HP2.out.new_ HB3.out).fr hF4 (fun e=>by have h1:=HP2.out.lt;have:=HBE.out;have:=HBP.out;rcases e with e | e<;>omega);have HM4:=hid hM4;(have r2:W4.cell? ⟨w.heap.size,2,none⟩=some (.slice A2 p.acts.length c2):=by rw [← HPX.out];exact (hP4.cell 2).trans rfl);(have hpl4:w.heap.size<W4.heap.size:=by rw [← HPX.out];exact hP4.lt);have n4:W4.cell? ⟨bn,0,none⟩=some (.int .i64 (m:Int)):=(hM4.cell 0).trans rfl;have hnl4:=hM4.lt;clear hwk hF4 hM4 hP4 q1 hpl3 p2' hpl2
 cases b with
 | false=>
   obtain ⟨k,hk,hE4,hQ4,hne,hall⟩:=hbf rfl;obtain ⟨z,hz⟩ : ∃z,z=Z0c F[k].2 F[k].1:=⟨_,rfl⟩
   have hR:Z19 n p=((k:Int),z):=by
    refine HGOOD.out _ ?_
    have hfi:F.findIdx? (fun c=>decide (Z0c c.2 c.1≠0))=some k:=by
     rw [List.findIdx?_eq_some_iff_getElem];exact ⟨hk,by simpa using hne,fun j hj=>by simpa using hall j (by omega) hj⟩
    rw [hfi];simp [Zl1 hk,hz]
   rw [← hz] at hE4 hne;have HR:=hid hR;have s0:W4.cell? ⟨be,0,none⟩=some (.int .i64 z):=(hE4.cell 0).trans rfl;have s1:W4.cell? ⟨bp,0,none⟩=some (.int .i64 (k:Int)):=(hQ4.cell 0).trans rfl;have hl0:=hE4.lt;have hl1:=hQ4.lt;(have t5:(z == 0)=false:=by simp [hne]);(have t6:decide (z=0)=false:=by simp [hne]);clear hR hz hE4 hQ4 hall hbt hbf hne n4 r2;(go_wp2_with fail);go_quiet (fail);(go_wp2_with fail);go_ret2;exact ⟨by rw [HR.out]<;>rfl,Below.drewN' HB4.out _⟩
 | true=>
   obtain ⟨_,hE4,_,hall⟩:=hbt rfl
   have hnone:F.findIdx? (fun c=>decide (Z0c c.2 c.1≠0))=none:=by
    rw [List.findIdx?_eq_none_iff];intro x hx;obtain ⟨j,hj,rfl⟩:=List.getElem_of_mem hx;have:=hall j hj (by omega);simpa using this
   have HNO:=hid hnone;have s0:W4.cell? ⟨be,0,none⟩=some (.int .i64 0):=(hE4.cell 0).trans rfl;have hl0:=hE4.lt;clear hnone hall hbt hbf hE4;go_wp2_with fail
   go_loopw [46] (fun s wr=>∃i:Nat,s = .int .i64 i∧i≤p.acts.length∧(∀k,(h:k<p.acts.length)→k<i→actB p.acts[k]=true)∧Below W4.heap.size W4 wr) (fun s wr=>p.acts.length - (intOf s).toNat)
   case atStart=>exact ⟨0,rfl,Nat.zero_le _,fun k _ h=>absurd h (by omega),Zks _ _⟩
   case round=>
    obtain ⟨i,rfl,hi,hall,hBr⟩:=hrel;have HALL:=hid hall;have HBr:=hid hBr;have hz4:=HB4.out.size;have hzr:=hBr.size;clear hall hBr;by_cases hlt:i<p.acts.length
    · obtain ⟨y,hy⟩ : ∃y,y=p.acts[i]:=⟨_,rfl⟩
      obtain ⟨g,off,hAA,_,hg,q0,q1,q2,q3,q4,q5,q6,q7,q8,q9,q10,q11,q12,q13,q14,q15,q16,q17,q18⟩:=Z7v (H2.out.new_ (HB4.out.trans (HBr.out.mono hz4))) hlt;subst hAA;rw [← hy] at q0 q1 q2 q3 q4 q5 q6 q7 q8 q9 q10 q11 q12 q13 q14 q15 q16 q17 q18;have HY:=hid hy;(have b1:(0:Int)≤(i:Int):=by omega);have b2:(i:Int)<(p.acts.length:Int):=by omega
      have HRG:=hid (show wr.rangeAt g (off+i*19) [.string y.id,.string y.attr.var,.int .i64 y.attr.sym.kind,.string y.attr.sym.text,.int .i64 y.attr.sym.n,.int .i64 y.value.op,.string y.value.a.var,.int .i64 y.value.a.sym.kind,.string y.value.a.sym.text,.int .i64 y.value.a.sym.n,.string y.value.b.var,.int .i64 y.value.b.sym.kind,.string y.value.b.sym.text,.int .i64 y.value.b.sym.n,.int .i64 y.pref,.string y.other.var,.int .i64 y.other.sym.kind,.string y.other.sym.text,.int .i64 y.other.sym.n] from fun j v hv=>by
       obtain ⟨g',off',cs,e1,_,_,hr,hc⟩:=(H2.out.new_ (HB4.out.trans (HBr.out.mono hz4))).at_ hlt;cases e1;have hr2:cs=ActT.cells p.acts[i]:=hr;subst hr2;rw [← HY.out] at hc
       exact hc j v hv)
      have HTH:=hid (show (wr.alloc (.cells #[.string ⟨#[]⟩,.string ⟨#[]⟩,.int .i64 0,.string ⟨#[]⟩,.int .i64 0,.int .i64 0,.string ⟨#[]⟩,.int .i64 0,.string ⟨#[]⟩,.int .i64 0,.string ⟨#[]⟩,.int .i64 0,.string ⟨#[]⟩,.int .i64 0,.int .i64 0,.string ⟨#[]⟩,.int .i64 0,.string ⟨#[]⟩,.int .i64 0] 96)).there wr.heap.size 0 (#[.string y.id,.string y.attr.var,.int .i64 y.attr.sym.kind,.string y.attr.sym.text,.int .i64 y.attr.sym.n,.int .i64 y.value.op,.string y.value.a.var,.int .i64 y.value.a.sym.kind,.string y.value.a.sym.text,.int .i64 y.value.a.sym.n,.string y.value.b.var,.int .i64 y.value.b.sym.kind,.string y.value.b.sym.text,.int .i64 y.value.b.sym.n,.int .i64 y.pref,.string y.other.var,.int .i64 y.other.sym.kind,.string y.other.sym.text,.int .i64 y.other.sym.n]:Array Value).size from (Blk.new wr 96 #[.string ⟨#[]⟩,.string ⟨#[]⟩,.int .i64 0,.string ⟨#[]⟩,.int .i64 0,.int .i64 0,.string ⟨#[]⟩,.int .i64 0,.string ⟨#[]⟩,.int .i64 0,.string ⟨#[]⟩,.int .i64 0,.string ⟨#[]⟩,.int .i64 0,.int .i64 0,.string ⟨#[]⟩,.int .i64 0,.string ⟨#[]⟩,.int .i64 0]).there);obtain ⟨W5,hW5⟩ : ∃W5,W5=(wr.alloc (.cells #[.string ⟨#[]⟩,.string ⟨#[]⟩,.int .i64 0,.string ⟨#[]⟩,.int .i64 0,.int .i64 0,.string ⟨#[]⟩,.int .i64 0,.string ⟨#[]⟩,.int .i64 0,.string ⟨#[]⟩,.int .i64 0,.string ⟨#[]⟩,.int .i64 0,.int .i64 0,.string ⟨#[]⟩,.int .i64 0,.string ⟨#[]⟩,.int .i64 0] 96)).setCells wr.heap.size 0 [.string y.id,.string y.attr.var,.int .i64 y.attr.sym.kind,.string y.attr.sym.text,.int .i64 y.attr.sym.n,.int .i64 y.value.op,.string y.value.a.var,.int .i64 y.value.a.sym.kind,.string y.value.a.sym.text,.int .i64 y.value.a.sym.n,.string y.value.b.var,.int .i64 y.value.b.sym.kind,.string y.value.b.sym.text,.int .i64 y.value.b.sym.n,.int .i64 y.pref,.string y.other.var,.int .i64 y.other.sym.kind,.string y.other.sym.text,.int .i64 y.other.sym.n]:=⟨_,rfl⟩;have HW5:=hid hW5;have HRG5:=hid (show W5.rangeAt wr.heap.size 0 [.string y.id,.string y.attr.var,.int .i64 y.attr.sym.kind,.string y.attr.sym.text,.int .i64 y.attr.sym.n,.int .i64 y.value.op,.string y.value.a.var,.int .i64 y.value.a.sym.kind,.string y.value.a.sym.text,.int .i64 y.value.a.sym.n,.string y.value.b.var,.int .i64 y.value.b.sym.kind,.string y.value.b.sym.text,.int .i64 y.value.b.sym.n,.int .i64 y.pref,.string y.other.var,.int .i64 y.other.sym.kind,.string y.other.sym.text,.int .i64 y.other.sym.n] by rw [hW5];exact Zm4 _ _ _ _ HTH.out);have HB5:=hid (show Below wr.heap.size wr W5 by rw [hW5];exact Below.setCells' _ _ ((Zks _ _).alloc (Zkt _) _) (Zkt _));clear hy hW5 q0 q1 q2 q3 q4 q5 q6 q7 q8 q9 q10 q11 q12 q13 q14 q15 q16 q17 q18
      go_wp2_with (first
       | (with_reducible refine wpList_load_mid rfl 96 _ rfl g (off+i*19) rfl _ _ HRG.out Tryz.underlying96 rfl (by kernel_rfl) ?_)
       | ((with_reducible refine wpList_store_mid rfl 96 _ _ rfl wr.heap.size 0 #[.string y.id,.string y.attr.var,.int .i64 y.attr.sym.kind,.string y.attr.sym.text,.int .i64 y.attr.sym.n,.int .i64 y.value.op,.string y.value.a.var,.int .i64 y.value.a.sym.kind,.string y.value.a.sym.text,.int .i64 y.value.a.sym.n,.string y.value.b.var,.int .i64 y.value.b.sym.kind,.string y.value.b.sym.text,.int .i64 y.value.b.sym.n,.int .i64 y.pref,.string y.other.var,.int .i64 y.other.sym.kind,.string y.other.sym.text,.int .i64 y.other.sym.n] rfl rfl HTH.out (by kernel_rfl) (by kernel_rfl) ?_);rw [← HW5.out])
       | (with_reducible refine wpList_load_mid rfl 96 _ rfl wr.heap.size 0 rfl _ _ HRG5.out Tryz.underlying96 rfl (by kernel_rfl) ?_))
      refine (Zka y _).mono ?_;rintro e w9 ⟨rfl,hb9⟩;have HB9:=hid (HBr.out.trans ((HB5.out.trans (hb9.mono HB5.out.size)).mono hzr));clear hb9;cases hcb:actB y
      · have hfi:p.acts.findIdx? (fun a=>!actB a)=some i:=by
         rw [List.findIdx?_eq_some_iff_getElem];refine ⟨hlt,by rw [← HY.out,hcb];rfl,fun j hj=>?_⟩;have:=HALL.out j (by omega) hj;simp [this]
        have HR:=hid (HGOOD.out ((m:Int)+i,9) (by rw [HNO.out,hfi];simp [HMF.out]));have n9:w9.cell? ⟨bn,0,none⟩=some (.int .i64 (m:Int)):=(HB9.out.cell (p:=⟨bn,0,none⟩) hnl4).trans n4;have hn9:=Zkx hnl4 HB9.out.size;have t7:=t2n;rw [decide_eq_false_iff_not] at t7;have t8:=t4n;rw [decide_eq_false_iff_not] at t8;have v1:IntKind.i64.wrap ((m:Int)+(i:Int))=(m:Int)+(i:Int):=Zl5 _ (by omega);clear hcb hfi t7 t8;(go_wp2_with fail);go_ret2;exact ⟨by rw [HR.out]<;>rfl,HB4.out.trans (HB9.out.mono hz4)⟩
      · have HCB:=hid hcb
        clear hcb;(go_wp2_with fail);go_roundw
        case rel=>exact ⟨i+1,by go_num,by omega,fun k hk hki=>by
         by_cases e:k=i
         · subst e;rw [← HY.out];exact HCB.out
         · exact HALL.out k hk (by omega),HB9.out⟩
        case measure=>simp [intOf]<;>omega
    · have hie:i=p.acts.length:=by omega
      have hfi:p.acts.findIdx? (fun a=>!actB a)=none:=by
       rw [List.findIdx?_eq_none_iff];intro x hx;obtain ⟨j,hj,rfl⟩:=List.getElem_of_mem hx;simp [HALL.out j hj (by omega)]
      have HR:=hid (HGOOD.out (-1,0) (by rw [HNO.out,hfi]));subst hie;clear hfi;(go_wp2_with fail);go_ret2;exact ⟨by rw [HR.out]<;>rfl,HB4.out.trans (HBr.out.mono hz4)⟩
theorem Z6e:(Tryz.prog.info? 40).map (fun i=>(i.zero,i.size,i.bytes))=some (some (.agg #[.string ⟨#[]⟩,.int .i64 0,.string ⟨#[]⟩,.int .i64 0]),4,48):=by kernel_rfl
theorem Z9p (l:List Z05) : ∀u∈l.flatMap Z05.cells,u.oneCell'=true:=by
 intro u hu;obtain ⟨b,_,hb⟩:=List.mem_flatMap.1 hu;simp only [Z05.cells,Zl7,Zl9,or_false] at hb;rcases hb with rfl | rfl | rfl | rfl<;>rfl
theorem Z0w {Y:World} {t:TypeId} {cs:List Value} {k:Nat} (hk:Y.heap.size=k) : ∀(j:Nat) (u:Value),cs[j]? = some u→(Y.alloc (.cells cs.toArray t)).cell? ((⟨k,0,none⟩:Addr).add j)=some u:=by
 subst hk;exact Zlt (heap_alloc_new _ _)
theorem Z7q {E:Nat→Prop} {X Y:World} {k:Nat} (h1:X.heap.size≤k) (h2:k<Y.heap.size):Plus E X Y k:=.inr ⟨h1,h2⟩
theorem Zhz {D:Nat→Prop} (l:List Z05) (p:Z31) (kb kp:Nat) (Al A1 A2:Option Addr) (cl c1 c2:Nat) (W:World)
 (hkb:Blk W kb 26 #[.slice Al l.length cl]) (hkp:Blk W kp 25 #[.string p.name,.slice A1 p.conds.length c1,.slice A2 p.acts.length c2]) (hDb:D kb) (hDp:D kp)
 (h1:RowR Z0s D W Al cl l) (h2:RowR Z0r D W A2 c2 p.acts) (hl1:l.length≤1000) (hl2:p.acts.length≤1000) :
 Zj0 Tryz.prog 95 #[.pointer (some ⟨kb,0,none⟩),.pointer (some ⟨kp,0,none⟩)] Zav (Z2w l (p.acts.flatMap Z09)) W D:=by
 intro lo J Jx hJ hJx h0 hY;obtain ⟨i0,hi0,hz0,hz1,hz2⟩:=info_parts Z6e;have HKB:=hid hkb;have HKP:=hid hkp;have HJ:=hid hJ;have HY:=hid hY;have H1:=hid h1;have H2:=hid h2;have HDB:=hid hDb;have HDP:=hid hDp;have HI:=hid (ItSt.start h0);have b0:W.cell? ⟨kb,0,none⟩=some (.slice Al l.length cl):=(hkb.cell 0).trans rfl;have bz:=hkb.lt;have hlc:=h1.cap;have hac:=h2.cap;obtain ⟨F,hF⟩ : ∃F,F=Z2w l (p.acts.flatMap Z09):=⟨_,rfl⟩;rw [← hF] at HY ⊢;have HF:=hid hF;clear hkb hkp hJ hJx h0 hY h1 h2 hDb hDp hF;refine callsIn_of_wp Tryz.func95 rfl trivial ?_;simp only [Tryz.ntmps95,Zm8,Zle,Zlu,Nat.reduceAdd,Nat.reduceSub,Zm2,Zm3,Zm7,Zm5,Zl8,Zlh];gi_wp2_with (gi_at_builtin;refine Z37 W rfl (.const (.slice none 0 0)) (.tmp 12) 26 rfl 40 i0 _ 4 48 Tryz.underlying26 hi0 hz0 hz1 hz2 rfl (by decide) (.slice none 0 0) 0 [] rfl (Z28 _ _ _ _) Al l.length cl (l.flatMap Z05.cells) rfl (Z0m Z05.cells_length l) (H1.out.rd.news Z05.cells_length (by decide)) (Z9p l) (by unfold maxLen;omega) (by omega) ?_;intro v' w4 hown hg hnil hat;obtain ⟨A0,c0,rfl,hF0,hA0,hO0⟩:=Z1k (E:=fun _=>False) (AIn.none_ _) hown hg hat;rw [Zlm,Zl8] at hO0;simp only [Zlm];have hkp0:=HKP.out.fr hF0 (fun h=>h);have p2:=(hkp0.cell 2).trans rfl;have pz:=hkp0.lt;have HO:=hid hO0;have HA:=hid hA0;have HI:=hid (HI.out.step HJ.out hF0);clear hown hg hnil hat hF0 hA0 hO0 hkp0)
 gi_loopw [4,17] (fun s t wr=>∃(i:Nat) (E:Nat→Prop) (pre:List ByteArray) (h:List Z05) (A:Option Addr) (c:Nat),t = .int .i64 i∧s = .slice A h.length c∧i≤p.acts.length∧h.length≤l.length+3*i∧F=pre++Z2w h ((p.acts.drop i).flatMap Z09)∧ItSt J D E W pre wr∧AIn A E∧wr.ownsRow 0 40 4 (.slice A h.length c) h.length (h.flatMap Z05.cells)) (fun s t wr=>p.acts.length - (intOf t).toNat)
 case atStart=>exact ⟨0,_,[],l,A0,c0,rfl,rfl,Nat.zero_le _,by omega,by rw [HF.out];rfl,HI.out,HA.out,HO.out⟩
 case round=>
  obtain ⟨i,E,pre,h,A,c,rfl,rfl,hi,hh,hf,hit,hA,hO⟩:=hrel;have HF1:=hid hf;have HI1:=hid hit;have HA1:=hid hA;have HO1:=hid hO;clear hf hit hA hO p2 pz b0 bz;by_cases hlt:i<p.acts.length
  · obtain ⟨y,hy⟩ : ∃y,y=p.acts[i]:=⟨_,rfl⟩
    have h2r:=H2.out.fr HI1.out.fr (fun k hk hn=>hn hk);obtain ⟨gg,oo,hAA,_,hgg,_⟩:=Z7v h2r hlt
    have hRG:wr.rangeAt gg (oo+i*19) [.string y.id,.string y.attr.var,.int .i64 y.attr.sym.kind,.string y.attr.sym.text,.int .i64 y.attr.sym.n,.int .i64 y.value.op,.string y.value.a.var,.int .i64 y.value.a.sym.kind,.string y.value.a.sym.text,.int .i64 y.value.a.sym.n,.string y.value.b.var,.int .i64 y.value.b.sym.kind,.string y.value.b.sym.text,.int .i64 y.value.b.sym.n,.int .i64 y.pref,.string y.other.var,.int .i64 y.other.sym.kind,.string y.other.sym.text,.int .i64 y.other.sym.n]:=fun j v hv=>by
     obtain ⟨g',off',cs,e1,_,_,hr,hc⟩:=h2r.at_ hlt;rw [hAA] at e1;cases e1;have hr2:cs=ActT.cells p.acts[i]:=hr;subst hr2;rw [← hy] at hc;exact hc j v hv
    have HRG:=hid hRG;(have hdr:(p.acts.drop i).flatMap Z09=Z09 y++(p.acts.drop (i+1)).flatMap Z09:=by rw [Zlw hlt,Zlk,← hy]);have HDR:=hid hdr;subst hAA;(have b1:(0:Int)≤(i:Int):=by omega);(have b2:(i:Int)<(p.acts.length:Int):=by omega);obtain ⟨W6,hW6,hth,hrg,hb6,hz6⟩:=Z6g (w:=wr) (t:=96) [.string ⟨#[]⟩,.string ⟨#[]⟩,.int .i64 0,.string ⟨#[]⟩,.int .i64 0,.int .i64 0,.string ⟨#[]⟩,.int .i64 0,.string ⟨#[]⟩,.int .i64 0,.string ⟨#[]⟩,.int .i64 0,.string ⟨#[]⟩,.int .i64 0,.int .i64 0,.string ⟨#[]⟩,.int .i64 0,.string ⟨#[]⟩,.int .i64 0] [.string y.id,.string y.attr.var,.int .i64 y.attr.sym.kind,.string y.attr.sym.text,.int .i64 y.attr.sym.n,.int .i64 y.value.op,.string y.value.a.var,.int .i64 y.value.a.sym.kind,.string y.value.a.sym.text,.int .i64 y.value.a.sym.n,.string y.value.b.var,.int .i64 y.value.b.sym.kind,.string y.value.b.sym.text,.int .i64 y.value.b.sym.n,.int .i64 y.pref,.string y.other.var,.int .i64 y.other.sym.kind,.string y.other.sym.text,.int .i64 y.other.sym.n] rfl;have HW6:=hid hW6;have HTH:=hid hth;have e0:W6.cell? ⟨wr.heap.size,0,none⟩=some (.string y.id):=hrg 0 _ rfl;have e5:W6.cell? ⟨wr.heap.size,5,none⟩=some (.int .i64 y.value.op):=hrg 5 _ rfl;have e6:W6.cell? ⟨wr.heap.size,6,none⟩=some (.string y.value.a.var):=hrg 6 _ rfl;have e15:W6.cell? ⟨wr.heap.size,15,none⟩=some (.string y.other.var):=hrg 15 _ rfl;(have hlo6:wr.heap.size<W6.heap.size:=by omega);have HI6:=hid (HI1.out.new_ HJ.out hb6);have HO6:=hid (Z00 HO1.out hb6);have HB6:=hid hb6;clear hW6 hth hrg hb6 hdr hRG hy h2r hz6;by_cases hop:y.value.op=0
    · have o1:(y.value.op == 0)=true:=by simp [hop]
      (have o2:decide (y.value.op=0)=true:=by simp [hop]);(have hne:Z09 y = [y.id,y.value.a.var,y.other.var]:=by simp [Z09,hop]);have HN:=hid hne;clear hop hne;obtain ⟨n1,hn1⟩ : ∃n,n=y.value.a.var:=⟨_,rfl⟩;rw [← hn1] at HN;have HN1:=hid hn1;clear hn1
      gi_wp2_with (first
       | (with_reducible refine Z4n rfl 96 _ rfl gg (oo+i*19) rfl _ _ HRG.out Tryz.underlying96 rfl (by kernel_rfl) ?_)
       | ((with_reducible refine Z4b rfl 96 _ _ rfl wr.heap.size 0 #[.string y.id,.string y.attr.var,.int .i64 y.attr.sym.kind,.string y.attr.sym.text,.int .i64 y.attr.sym.n,.int .i64 y.value.op,.string y.value.a.var,.int .i64 y.value.a.sym.kind,.string y.value.a.sym.text,.int .i64 y.value.a.sym.n,.string y.value.b.var,.int .i64 y.value.b.sym.kind,.string y.value.b.sym.text,.int .i64 y.value.b.sym.n,.int .i64 y.pref,.string y.other.var,.int .i64 y.other.sym.kind,.string y.other.sym.text,.int .i64 y.other.sym.n] rfl rfl HTH.out (by kernel_rfl) (by kernel_rfl) ?_);rw [← HW6.out]))
      rw [← HN1.out]
      gi_loopw [4,39] (fun s t wr=>∃(j:Nat) (E:Nat→Prop) (pre:List ByteArray) (h:List Z05) (A:Option Addr) (c:Nat),t = .int .i64 j∧s = .slice A h.length c∧j≤3∧h.length≤l.length+3*i+j∧F=pre++Z2w h ((Z09 y).drop j++(p.acts.drop (i+1)).flatMap Z09)∧ItSt J D E W pre wr∧AIn A E∧wr.ownsRow 0 40 4 (.slice A h.length c) h.length (h.flatMap Z05.cells)∧E W6.heap.size∧Blk wr W6.heap.size 9 #[.string y.id,.string n1,.string y.other.var]) (fun s t wr=>3 - (intOf t).toNat)
      case atStart=>
       first
       | exact ⟨0,_,pre,h,A,c,rfl,rfl,by omega,by omega,by rw [HF1.out,HDR.out,List.drop_zero],HI6.out.new_ HJ.out (show Below W6.heap.size W6 _ from (by (repeat (first | exact Zks _ _ | refine Below.drew ?_ | refine Below.al ?_ _ | refine Below.sc ?_ _)))),HA1.out.mono (fun k hk=>.inl (.inl hk)),Z00 HO6.out (by (repeat (first | exact Zks _ _ | refine Below.drew ?_ | refine Below.al ?_ _ | refine Below.sc ?_ _))),Z7q (Zkt _) (by simp),Blk.new _ _ _⟩
       | (have hNN:=HN1.out;subst hNN;exact ⟨0,_,pre,h,A,c,rfl,rfl,by omega,by omega,by rw [HF1.out,HDR.out,List.drop_zero],HI6.out.new_ HJ.out (show Below W6.heap.size W6 _ from (by (repeat (first | exact Zks _ _ | refine Below.drew ?_ | refine Below.al ?_ _ | refine Below.sc ?_ _)))),HA1.out.mono (fun k hk=>.inl (.inl hk)),Z00 HO6.out (by (repeat (first | exact Zks _ _ | refine Below.drew ?_ | refine Below.al ?_ _ | refine Below.sc ?_ _))),Z7q (Zkt _) (by simp),Blk.new _ _ _⟩)
      case round=>
       obtain ⟨j,E2,pre2,h2,A2,c2,rfl,rfl,hj,hh2,hf2,hit2,hA2,hO2,hE2,hB2⟩:=hrel;have HF2:=hid hf2;have HI2:=hid hit2;have HA2:=hid hA2;have HO2:=hid hO2;have HE2:=hid hE2;have HB2:=hid hB2;have hlo2:=hB2.lt;clear hf2 hit2 hA2 hO2 hE2 e0 e5 e6 e15;by_cases hjt:j<3
       · obtain ⟨v,hv1,hv2⟩ : ∃v,(Z09 y).drop j=v :: (Z09 y).drop (j+1)∧(#[.string y.id,.string n1,.string y.other.var]:Array Value)[j]? = some (.string v):=by
          rw [HN.out]
          match j,hjt with
          | 0,_=>exact ⟨_,rfl,rfl⟩
          | 1,_=>exact ⟨_,rfl,rfl⟩
          | 2,_=>exact ⟨_,rfl,rfl⟩
         have q0:wr.cell? ⟨W6.heap.size,j,none⟩=some (.string v):=(hB2.cell j).trans hv2;have HV1:=hid hv1;(have b3:(0:Int)≤(j:Int):=by omega);(have b4:(j:Int)<3:=by omega);obtain ⟨⟨gs,gb⟩,hgb⟩ : ∃r,r=getB h2 v:=⟨_,rfl⟩;have hget:=fun X (hb:Below wr.heap.size wr X)=>Zd9 (D:=fun _=>True) (A:=A2) (c:=c2) h2 v X (RowR.of_rd (Z0j Z05.cells_length (Z00 HO2.out hb)) (fun _ _=>trivial));simp only [← hgb] at hget;have HGET:=hid hget;have HGB:=hid hgb;clear hv1 hv2 hB2 hgb hget
         cases gb with
         | true=>
           have HS:=hid (show Z2w h2 ((Z09 y).drop j++(p.acts.drop (i+1)).flatMap Z09)=Z2w h2 ((Z09 y).drop (j+1)++(p.acts.drop (i+1)).flatMap Z09) by rw [HV1.out,Zlh,Z3w (.inl (by rw [← HGB.out]))]);(gi_wp2_with fail);refine ⟨trivial,rfl,?_⟩;refine (callsIn_wide.2 (HGET.out _ (Zks _ _))).mono ?_;rintro e w5 ⟨rfl,hb5⟩;have HB5:=hid hb5;clear hb5 q0;(gi_wp2_with fail);go_roundw
           case rel=>
            have hbz:Below wr.heap.size wr (w5.alloc (.cells #[.int .i64 gs.kind,.string gs.text,.int .i64 gs.n] 38)):=HB5.out.alloc HB5.out.size _;exact ⟨j+1,_,pre2,h2,A2,c2,by go_num,rfl,by omega,by omega,by rw [HF2.out,HS.out],HI2.out.new_ HJ.out hbz,HA2.out.mono (fun k hk=>.inl hk),Z00 HO2.out hbz,.inl HE2.out,HB2.out.new_ hbz⟩
           case measure=>simp [intOf]<;>omega
         | false=>
           by_cases hve:v.toList = []
           · have v1:(v.toList == [])=true:=by simp [hve]
             (have v2:v.toList.isEmpty=true:=by simp [hve]);(have v3:decide (v.toList = [])=true:=by simp [hve]);have HS:=hid (show Z2w h2 ((Z09 y).drop j++(p.acts.drop (i+1)).flatMap Z09)=Z2w h2 ((Z09 y).drop (j+1)++(p.acts.drop (i+1)).flatMap Z09) by rw [HV1.out,Zlh,Z3w (.inr hve)]);clear hve;(gi_wp2_with fail);refine ⟨trivial,rfl,?_⟩;refine (callsIn_wide.2 (HGET.out _ (Zks _ _))).mono ?_;rintro e w5 ⟨rfl,hb5⟩;have HB5:=hid hb5;clear hb5 q0;(gi_wp2_with fail);go_roundw
             case rel=>
              have hbz:Below wr.heap.size wr (w5.alloc (.cells #[.int .i64 gs.kind,.string gs.text,.int .i64 gs.n] 38)):=HB5.out.alloc HB5.out.size _;exact ⟨j+1,_,pre2,h2,A2,c2,by go_num,rfl,by omega,by omega,by rw [HF2.out,HS.out],HI2.out.new_ HJ.out hbz,HA2.out.mono (fun k hk=>.inl hk),Z00 HO2.out hbz,.inl HE2.out,HB2.out.new_ hbz⟩
             case measure=>simp [intOf]<;>omega
           · have v1:(v.toList == [])=false:=by simp [hve]
             (have v2:v.toList.isEmpty=false:=by simp [hve]);(have v3:decide (v.toList = [])=false:=by simp [hve]);have HS:=hid (show Z2w h2 ((Z09 y).drop j++(p.acts.drop (i+1)).flatMap Z09)=v :: Z2w (h2 ++ [mkB v]) ((Z09 y).drop (j+1)++(p.acts.drop (i+1)).flatMap Z09) by rw [HV1.out,Zlh,Z5i (by rw [← HGB.out]) hve]);clear hve;(gi_wp2_with fail);refine ⟨trivial,rfl,?_⟩;refine (callsIn_wide.2 (HGET.out _ (Zks _ _))).mono ?_;rintro e w5 ⟨rfl,hb5⟩;have HB5:=hid hb5;have hz5:=hb5.size;clear hb5 q0;obtain ⟨X,hX⟩ : ∃X,X=(w5.alloc (.cells #[.int .i64 gs.kind,.string gs.text,.int .i64 gs.n] 38)).alloc (.cells #[.string v,.int .i64 0,.string ⟨#[]⟩,.int .i64 0] 40):=⟨_,rfl⟩;have HX:=hid hX;(have hbX:Below wr.heap.size wr X:=by rw [hX];exact (HB5.out.alloc hz5 _).alloc (by simp;omega) _);have HIX:=hid (HI2.out.new_ HJ.out hbX);have HOX:=hid (Z00 HO2.out hbX);have HBX:=hid hbX;have HAX:=hid (HA2.out.mono (fun k hk=>(.inl hk:Plus E2 wr X k)));have HNX:=hid (show ∀(j:Nat) (u:Value),(Z05.cells (mkB v))[j]? = some u→X.cell? ((⟨w5.heap.size+1,0,none⟩:Addr).add j)=some u by rw [hX];exact Z0w (by simp));clear hX hbX;(gi_wp2_with (gi_at_builtin;rw [← HX.out];refine Z37 X rfl (.tmp 54) (.tmp 57) 26 rfl 40 i0 _ 4 48 Tryz.underlying26 hi0 hz0 hz1 hz2 rfl (by decide) _ h2.length (h2.flatMap Z05.cells) rfl HOX.out _ 1 1 (Z05.cells (mkB v)) rfl rfl (fun _=>⟨_,rfl,HNX.out⟩) (by intro u hu;simp only [Z05.cells,Zl7,Zl9,or_false] at hu;rcases hu with rfl | rfl | rfl | rfl<;>rfl) (by unfold maxLen;omega) (by omega) ?_;intro v' w6 hown hg hnil hat;obtain ⟨A3,c3,rfl,hF3,hA3,hO3⟩:=Z1k HAX.out hown hg hat;have HO3:=hid hO3;have HA3:=hid hA3;have HF3:=hid hF3;have HI3:=hid (HIX.out.step HJ.out hF3);have HB3:=hid ((HB2.out.new_ HBX.out).grown hg (Z0d HOX.out (HB2.out.new_ HBX.out) (by decide)));obtain ⟨fn,tmps,assign,body,hy,hR⟩:=HI3.out.round HY.out (show F=pre2++v :: Z2w (h2 ++ [mkB v]) ((Z09 y).drop (j+1)++(p.acts.drop (i+1)).flatMap Z09) from by rw [HF2.out,HS.out]);dsimp only [Zav] at hy;have HRR:=hid hR;clear hR hown hg hnil hat hF3 hA3 hO3));refine ⟨rfl,HRR.out.mono ?_⟩;rintro e W3 (⟨rfl,hI4,hk4⟩ | ⟨rfl,hT,-⟩)
             · have HI4:=hid hI4
               have HK4:=hid hk4;clear hI4 hk4 hy;(gi_wp2_with fail);go_roundw
               case rel=>
                (have e1:h2.length+1=(h2 ++ [mkB v]).length:=by simp);have e2:h2.flatMap Z05.cells++Z05.cells (mkB v)=(h2 ++ [mkB v]).flatMap Z05.cells:=by simp
                have hO4:=Z12 HO3.out HK4.out (fun g hg hn=>hn (.inr (by
                 rcases A3 with _ | a
                 · simp [Value.ownBlock] at hg
                 · have e:a.block=g:=by simpa [Value.ownBlock] using hg
                   exact e ▸ HA3.out a rfl)))
                rw [e1,e2] at hO4;exact ⟨j+1,_,pre2 ++ [v],h2 ++ [mkB v],A3,c3,by go_num,by rw [← e1],by omega,by simp;omega,by rw [HF2.out,HS.out];simp,HI4.out,HA3.out,hO4,.inl (.inl HE2.out),HB3.out.fr HK4.out (fun hn=>hn (.inr (.inl (.inl HE2.out))))⟩
               case measure=>simp [intOf]<;>omega
             · have HT:=hid hT
               clear hT hy;(gi_wp2_with fail);refine bodyPost_ret (results_none rfl _ _ _) rfl ?_;exact ⟨⟨_,rfl⟩,HT.out⟩
       · have hje:j=3:=by omega
         subst hje;(gi_wp2_with fail);go_roundw
         case rel=>exact ⟨i+1,E2,pre2,h2,A2,c2,by go_num,rfl,by omega,by omega,by rw [HF2.out,HN.out];rfl,HI2.out,HA2.out,HO2.out⟩
         case measure=>simp [intOf]<;>omega
    · have o1:(y.value.op == 0)=false:=by simp [hop]
      (have o2:decide (y.value.op=0)=false:=by simp [hop]);(have hne:Z09 y = [y.id,⟨#[]⟩,y.other.var]:=by simp [Z09,hop]);have HN:=hid hne;clear hop hne;obtain ⟨n1,hn1⟩ : ∃n,n=(⟨#[]⟩:ByteArray):=⟨_,rfl⟩;rw [← hn1] at HN;have HN1:=hid hn1;clear hn1
      gi_wp2_with (first
       | (with_reducible refine Z4n rfl 96 _ rfl gg (oo+i*19) rfl _ _ HRG.out Tryz.underlying96 rfl (by kernel_rfl) ?_)
       | ((with_reducible refine Z4b rfl 96 _ _ rfl wr.heap.size 0 #[.string y.id,.string y.attr.var,.int .i64 y.attr.sym.kind,.string y.attr.sym.text,.int .i64 y.attr.sym.n,.int .i64 y.value.op,.string y.value.a.var,.int .i64 y.value.a.sym.kind,.string y.value.a.sym.text,.int .i64 y.value.a.sym.n,.string y.value.b.var,.int .i64 y.value.b.sym.kind,.string y.value.b.sym.text,.int .i64 y.value.b.sym.n,.int .i64 y.pref,.string y.other.var,.int .i64 y.other.sym.kind,.string y.other.sym.text,.int .i64 y.other.sym.n] rfl rfl HTH.out (by kernel_rfl) (by kernel_rfl) ?_);rw [← HW6.out]))
      gi_loopw [4,39] (fun s t wr=>∃(j:Nat) (E:Nat→Prop) (pre:List ByteArray) (h:List Z05) (A:Option Addr) (c:Nat),t = .int .i64 j∧s = .slice A h.length c∧j≤3∧h.length≤l.length+3*i+j∧F=pre++Z2w h ((Z09 y).drop j++(p.acts.drop (i+1)).flatMap Z09)∧ItSt J D E W pre wr∧AIn A E∧wr.ownsRow 0 40 4 (.slice A h.length c) h.length (h.flatMap Z05.cells)∧E W6.heap.size∧Blk wr W6.heap.size 9 #[.string y.id,.string n1,.string y.other.var]) (fun s t wr=>3 - (intOf t).toNat)
      case atStart=>
       first
       | exact ⟨0,_,pre,h,A,c,rfl,rfl,by omega,by omega,by rw [HF1.out,HDR.out,List.drop_zero],HI6.out.new_ HJ.out (show Below W6.heap.size W6 _ from (by (repeat (first | exact Zks _ _ | refine Below.drew ?_ | refine Below.al ?_ _ | refine Below.sc ?_ _)))),HA1.out.mono (fun k hk=>.inl (.inl hk)),Z00 HO6.out (by (repeat (first | exact Zks _ _ | refine Below.drew ?_ | refine Below.al ?_ _ | refine Below.sc ?_ _))),Z7q (Zkt _) (by simp),Blk.new _ _ _⟩
       | (have hNN:=HN1.out;subst hNN;exact ⟨0,_,pre,h,A,c,rfl,rfl,by omega,by omega,by rw [HF1.out,HDR.out,List.drop_zero],HI6.out.new_ HJ.out (show Below W6.heap.size W6 _ from (by (repeat (first | exact Zks _ _ | refine Below.drew ?_ | refine Below.al ?_ _ | refine Below.sc ?_ _)))),HA1.out.mono (fun k hk=>.inl (.inl hk)),Z00 HO6.out (by (repeat (first | exact Zks _ _ | refine Below.drew ?_ | refine Below.al ?_ _ | refine Below.sc ?_ _))),Z7q (Zkt _) (by simp),Blk.new _ _ _⟩)
      case round=>
       obtain ⟨j,E2,pre2,h2,A2,c2,rfl,rfl,hj,hh2,hf2,hit2,hA2,hO2,hE2,hB2⟩:=hrel;have HF2:=hid hf2;have HI2:=hid hit2;have HA2:=hid hA2;have HO2:=hid hO2;have HE2:=hid hE2;have HB2:=hid hB2;have hlo2:=hB2.lt;clear hf2 hit2 hA2 hO2 hE2 e0 e5 e6 e15;by_cases hjt:j<3
       · obtain ⟨v,hv1,hv2⟩ : ∃v,(Z09 y).drop j=v :: (Z09 y).drop (j+1)∧(#[.string y.id,.string n1,.string y.other.var]:Array Value)[j]? = some (.string v):=by
          rw [HN.out]
          match j,hjt with
          | 0,_=>exact ⟨_,rfl,rfl⟩
          | 1,_=>exact ⟨_,rfl,rfl⟩
          | 2,_=>exact ⟨_,rfl,rfl⟩
         have q0:wr.cell? ⟨W6.heap.size,j,none⟩=some (.string v):=(hB2.cell j).trans hv2;have HV1:=hid hv1;(have b3:(0:Int)≤(j:Int):=by omega);(have b4:(j:Int)<3:=by omega);obtain ⟨⟨gs,gb⟩,hgb⟩ : ∃r,r=getB h2 v:=⟨_,rfl⟩;have hget:=fun X (hb:Below wr.heap.size wr X)=>Zd9 (D:=fun _=>True) (A:=A2) (c:=c2) h2 v X (RowR.of_rd (Z0j Z05.cells_length (Z00 HO2.out hb)) (fun _ _=>trivial));simp only [← hgb] at hget;have HGET:=hid hget;have HGB:=hid hgb;clear hv1 hv2 hB2 hgb hget
         cases gb with
         | true=>
           have HS:=hid (show Z2w h2 ((Z09 y).drop j++(p.acts.drop (i+1)).flatMap Z09)=Z2w h2 ((Z09 y).drop (j+1)++(p.acts.drop (i+1)).flatMap Z09) by rw [HV1.out,Zlh,Z3w (.inl (by rw [← HGB.out]))]);(gi_wp2_with fail);refine ⟨trivial,rfl,?_⟩;refine (callsIn_wide.2 (HGET.out _ (Zks _ _))).mono ?_;rintro e w5 ⟨rfl,hb5⟩;have HB5:=hid hb5;clear hb5 q0;(gi_wp2_with fail);go_roundw
           case rel=>
            have hbz:Below wr.heap.size wr (w5.alloc (.cells #[.int .i64 gs.kind,.string gs.text,.int .i64 gs.n] 38)):=HB5.out.alloc HB5.out.size _;exact ⟨j+1,_,pre2,h2,A2,c2,by go_num,rfl,by omega,by omega,by rw [HF2.out,HS.out],HI2.out.new_ HJ.out hbz,HA2.out.mono (fun k hk=>.inl hk),Z00 HO2.out hbz,.inl HE2.out,HB2.out.new_ hbz⟩
           case measure=>simp [intOf]<;>omega
         | false=>
           by_cases hve:v.toList = []
           · have v1:(v.toList == [])=true:=by simp [hve]
             (have v2:v.toList.isEmpty=true:=by simp [hve]);(have v3:decide (v.toList = [])=true:=by simp [hve]);have HS:=hid (show Z2w h2 ((Z09 y).drop j++(p.acts.drop (i+1)).flatMap Z09)=Z2w h2 ((Z09 y).drop (j+1)++(p.acts.drop (i+1)).flatMap Z09) by rw [HV1.out,Zlh,Z3w (.inr hve)]);clear hve;(gi_wp2_with fail);refine ⟨trivial,rfl,?_⟩;refine (callsIn_wide.2 (HGET.out _ (Zks _ _))).mono ?_;rintro e w5 ⟨rfl,hb5⟩;have HB5:=hid hb5;clear hb5 q0;(gi_wp2_with fail);go_roundw
             case rel=>
              have hbz:Below wr.heap.size wr (w5.alloc (.cells #[.int .i64 gs.kind,.string gs.text,.int .i64 gs.n] 38)):=HB5.out.alloc HB5.out.size _;exact ⟨j+1,_,pre2,h2,A2,c2,by go_num,rfl,by omega,by omega,by rw [HF2.out,HS.out],HI2.out.new_ HJ.out hbz,HA2.out.mono (fun k hk=>.inl hk),Z00 HO2.out hbz,.inl HE2.out,HB2.out.new_ hbz⟩
             case measure=>simp [intOf]<;>omega
           · have v1:(v.toList == [])=false:=by simp [hve]
             (have v2:v.toList.isEmpty=false:=by simp [hve]);(have v3:decide (v.toList = [])=false:=by simp [hve]);have HS:=hid (show Z2w h2 ((Z09 y).drop j++(p.acts.drop (i+1)).flatMap Z09)=v :: Z2w (h2 ++ [mkB v]) ((Z09 y).drop (j+1)++(p.acts.drop (i+1)).flatMap Z09) by rw [HV1.out,Zlh,Z5i (by rw [← HGB.out]) hve]);clear hve;(gi_wp2_with fail);refine ⟨trivial,rfl,?_⟩;refine (callsIn_wide.2 (HGET.out _ (Zks _ _))).mono ?_;rintro e w5 ⟨rfl,hb5⟩;have HB5:=hid hb5;have hz5:=hb5.size;clear hb5 q0;obtain ⟨X,hX⟩ : ∃X,X=(w5.alloc (.cells #[.int .i64 gs.kind,.string gs.text,.int .i64 gs.n] 38)).alloc (.cells #[.string v,.int .i64 0,.string ⟨#[]⟩,.int .i64 0] 40):=⟨_,rfl⟩;have HX:=hid hX;(have hbX:Below wr.heap.size wr X:=by rw [hX];exact (HB5.out.alloc hz5 _).alloc (by simp;omega) _);have HIX:=hid (HI2.out.new_ HJ.out hbX);have HOX:=hid (Z00 HO2.out hbX);have HBX:=hid hbX;have HAX:=hid (HA2.out.mono (fun k hk=>(.inl hk:Plus E2 wr X k)));have HNX:=hid (show ∀(j:Nat) (u:Value),(Z05.cells (mkB v))[j]? = some u→X.cell? ((⟨w5.heap.size+1,0,none⟩:Addr).add j)=some u by rw [hX];exact Z0w (by simp));clear hX hbX;(gi_wp2_with (gi_at_builtin;rw [← HX.out];refine Z37 X rfl (.tmp 54) (.tmp 57) 26 rfl 40 i0 _ 4 48 Tryz.underlying26 hi0 hz0 hz1 hz2 rfl (by decide) _ h2.length (h2.flatMap Z05.cells) rfl HOX.out _ 1 1 (Z05.cells (mkB v)) rfl rfl (fun _=>⟨_,rfl,HNX.out⟩) (by intro u hu;simp only [Z05.cells,Zl7,Zl9,or_false] at hu;rcases hu with rfl | rfl | rfl | rfl<;>rfl) (by unfold maxLen;omega) (by omega) ?_;intro v' w6 hown hg hnil hat;obtain ⟨A3,c3,rfl,hF3,hA3,hO3⟩:=Z1k HAX.out hown hg hat;have HO3:=hid hO3;have HA3:=hid hA3;have HF3:=hid hF3;have HI3:=hid (HIX.out.step HJ.out hF3);have HB3:=hid ((HB2.out.new_ HBX.out).grown hg (Z0d HOX.out (HB2.out.new_ HBX.out) (by decide)));obtain ⟨fn,tmps,assign,body,hy,hR⟩:=HI3.out.round HY.out (show F=pre2++v :: Z2w (h2 ++ [mkB v]) ((Z09 y).drop (j+1)++(p.acts.drop (i+1)).flatMap Z09) from by rw [HF2.out,HS.out]);dsimp only [Zav] at hy;have HRR:=hid hR;clear hR hown hg hnil hat hF3 hA3 hO3));refine ⟨rfl,HRR.out.mono ?_⟩;rintro e W3 (⟨rfl,hI4,hk4⟩ | ⟨rfl,hT,-⟩)
             · have HI4:=hid hI4
               have HK4:=hid hk4;clear hI4 hk4 hy;(gi_wp2_with fail);go_roundw
               case rel=>
                (have e1:h2.length+1=(h2 ++ [mkB v]).length:=by simp);have e2:h2.flatMap Z05.cells++Z05.cells (mkB v)=(h2 ++ [mkB v]).flatMap Z05.cells:=by simp
                have hO4:=Z12 HO3.out HK4.out (fun g hg hn=>hn (.inr (by
                 rcases A3 with _ | a
                 · simp [Value.ownBlock] at hg
                 · have e:a.block=g:=by simpa [Value.ownBlock] using hg
                   exact e ▸ HA3.out a rfl)))
                rw [e1,e2] at hO4;exact ⟨j+1,_,pre2 ++ [v],h2 ++ [mkB v],A3,c3,by go_num,by rw [← e1],by omega,by simp;omega,by rw [HF2.out,HS.out];simp,HI4.out,HA3.out,hO4,.inl (.inl HE2.out),HB3.out.fr HK4.out (fun hn=>hn (.inr (.inl (.inl HE2.out))))⟩
               case measure=>simp [intOf]<;>omega
             · have HT:=hid hT
               clear hT hy;(gi_wp2_with fail);refine bodyPost_ret (results_none rfl _ _ _) rfl ?_;exact ⟨⟨_,rfl⟩,HT.out⟩
       · have hje:j=3:=by omega
         subst hje;(gi_wp2_with fail);go_roundw
         case rel=>exact ⟨i+1,E2,pre2,h2,A2,c2,by go_num,rfl,by omega,by omega,by rw [HF2.out,HN.out];rfl,HI2.out,HA2.out,HO2.out⟩
         case measure=>simp [intOf]<;>omega
  · have hie:i=p.acts.length:=by omega
    subst hie;rw [Zlz,List.flatMap_nil,Z6m,Zmd] at HF1;have HT:=hid (show Zh4 F J Jx wr by have:=HI1.out;rw [← HF1.out] at this;exact this.told);(gi_wp2_with fail);go_end0;exact ⟨⟨_,rfl⟩,HT.out⟩
end
section
open Go.RowKit Go.Shelf
def Z51 (a b c:Sym):Bool:=decide (a.kind=1) && decide (b.kind≠1) && Z07 a && Z07 b && Z07 c
theorem Zjv {a:Sym} {k:Int} (h:a.kind=k) : ∃x y,a=⟨k,x,y⟩:=by
 obtain ⟨k',x,y⟩:=a;simp only at h;subst h;exact ⟨x,y,rfl⟩
theorem Zdo (a b c:Sym) (w:World):Calls Tryz.prog 48 #[.agg #[.int .i64 a.kind,.string a.text,.int .i64 a.n],.agg #[.int .i64 b.kind,.string b.text,.int .i64 b.n],.agg #[.int .i64 c.kind,.string c.text,.int .i64 c.n]] w fun e w'=>e = .returned (.bool (Z51 a b c))∧Below w.heap.size w w':=by
 have HV:=hid (show Z51 a b c=(decide (a.kind=1) && decide (b.kind≠1) && Z07 a && Z07 b && Z07 c) from rfl);obtain ⟨r,hr⟩ : ∃r,r=Z51 a b c:=⟨_,rfl⟩;rw [← hr] at HV ⊢;clear hr;by_cases ha:a.kind=1
 · skip
   obtain ⟨ta,na,rfl⟩ : ∃x y,a=⟨1,x,y⟩:=Zjv ha;clear ha;by_cases hb1:b.kind=1
   · skip
     (have qa:(b.kind == 1)=true:=by simp [hb1]);(have qb:decide (b.kind=1)=true:=by simp [hb1]);have HB1:=hid hb1;clear hb1;go_enter Tryz.func48,Tryz.ntmps48;(go_upto_region 1 with fail);obtain ⟨w1,hw1⟩ : ∃w1,w1=(((w.alloc (.cells #[.int .i64 1,.string ta,.int .i64 na] 38)).alloc (.cells #[.int .i64 b.kind,.string b.text,.int .i64 b.n] 38)).alloc (.cells #[.int .i64 c.kind,.string c.text,.int .i64 c.n] 38)):=⟨_,rfl⟩;rw [← hw1];have HB:=hid (show Below w.heap.size w w1 by rw [hw1];exact (by repeat (first | exact Zks _ _ | refine Below.drew ?_ | refine Below.al ?_ _ | refine Below.sc ?_ _)));have Ka:=hid (show Blk w1 (w.heap.size) 38 #[.int .i64 1,.string ta,.int .i64 na] by rw [hw1];exact (((Blk.new w 38 #[.int .i64 1,.string ta,.int .i64 na]).alloc (.cells #[.int .i64 b.kind,.string b.text,.int .i64 b.n] 38)).alloc (.cells #[.int .i64 c.kind,.string c.text,.int .i64 c.n] 38)));have Kb:=hid (show Blk w1 (w.heap.size+1) 38 #[.int .i64 b.kind,.string b.text,.int .i64 b.n] by rw [hw1];have hh:=((Blk.new (w.alloc (.cells #[.int .i64 1,.string ta,.int .i64 na] 38)) 38 #[.int .i64 b.kind,.string b.text,.int .i64 b.n]).alloc (.cells #[.int .i64 c.kind,.string c.text,.int .i64 c.n] 38));simp only [Zld] at hh;exact hh);have Kc:=hid (show Blk w1 (w.heap.size+2) 38 #[.int .i64 c.kind,.string c.text,.int .i64 c.n] by rw [hw1];have hh:=(Blk.new ((w.alloc (.cells #[.int .i64 1,.string ta,.int .i64 na] 38)).alloc (.cells #[.int .i64 b.kind,.string b.text,.int .i64 b.n] 38)) 38 #[.int .i64 c.kind,.string c.text,.int .i64 c.n]);simp only [Zld] at hh;exact hh);clear hw1;obtain ⟨a0,a1,a2⟩:=Ka.out.c3;have az:=Ka.out.lt;obtain ⟨b0,b1,b2⟩:=Kb.out.c3;have bz:=Kb.out.lt;obtain ⟨c0,c1,c2⟩:=Kc.out.c3;have cz:=Kc.out.lt;have HR:=hid (show r=false by rw [HV.out];simp [HB1.out]);(go_wp2_with fail);go_ret;exact ⟨by rw [HR.out]<;>rfl,by (repeat (first | exact Zks _ _ | exact HB.out | refine Below.drew ?_ | refine Below.al ?_ _ | refine Below.sc ?_ _))⟩
   · skip
     (have qa:(b.kind == 1)=false:=by simp [hb1]);(have qb:decide (b.kind=1)=false:=by simp [hb1]);(have qc:(b.kind != 1)=true:=by simp [hb1]);go_enter Tryz.func48,Tryz.ntmps48;(go_upto_region 1 with fail);obtain ⟨w1,hw1⟩ : ∃w1,w1=(((w.alloc (.cells #[.int .i64 1,.string ta,.int .i64 na] 38)).alloc (.cells #[.int .i64 b.kind,.string b.text,.int .i64 b.n] 38)).alloc (.cells #[.int .i64 c.kind,.string c.text,.int .i64 c.n] 38)):=⟨_,rfl⟩;rw [← hw1];have HB:=hid (show Below w.heap.size w w1 by rw [hw1];exact (by repeat (first | exact Zks _ _ | refine Below.drew ?_ | refine Below.al ?_ _ | refine Below.sc ?_ _)));have Ka:=hid (show Blk w1 (w.heap.size) 38 #[.int .i64 1,.string ta,.int .i64 na] by rw [hw1];exact (((Blk.new w 38 #[.int .i64 1,.string ta,.int .i64 na]).alloc (.cells #[.int .i64 b.kind,.string b.text,.int .i64 b.n] 38)).alloc (.cells #[.int .i64 c.kind,.string c.text,.int .i64 c.n] 38)));have Kb:=hid (show Blk w1 (w.heap.size+1) 38 #[.int .i64 b.kind,.string b.text,.int .i64 b.n] by rw [hw1];have hh:=((Blk.new (w.alloc (.cells #[.int .i64 1,.string ta,.int .i64 na] 38)) 38 #[.int .i64 b.kind,.string b.text,.int .i64 b.n]).alloc (.cells #[.int .i64 c.kind,.string c.text,.int .i64 c.n] 38));simp only [Zld] at hh;exact hh);have Kc:=hid (show Blk w1 (w.heap.size+2) 38 #[.int .i64 c.kind,.string c.text,.int .i64 c.n] by rw [hw1];have hh:=(Blk.new ((w.alloc (.cells #[.int .i64 1,.string ta,.int .i64 na] 38)).alloc (.cells #[.int .i64 b.kind,.string b.text,.int .i64 b.n] 38)) 38 #[.int .i64 c.kind,.string c.text,.int .i64 c.n]);simp only [Zld] at hh;exact hh);clear hw1;obtain ⟨a0,a1,a2⟩:=Ka.out.c3;have az:=Ka.out.lt;obtain ⟨b0,b1,b2⟩:=Kb.out.c3;have bz:=Kb.out.lt;obtain ⟨c0,c1,c2⟩:=Kc.out.c3;have cz:=Kc.out.lt;cases hva:Z07 ⟨1,ta,na⟩
     · skip
       have hc:=fun W=>Z2j ⟨1,ta,na⟩ W;simp only [hva] at hc;have HC:=hid hc;clear hc;(go_wp2_with fail);(with_reducible refine (HC.out _).mono ?_);rintro e w2 ⟨rfl,hb⟩;have hbs:=Below.trans (show Below w1.heap.size w1 _ from (by (repeat (first | exact Zks _ _ | refine Below.drew ?_ | refine Below.al ?_ _ | refine Below.sc ?_ _)))) (hb.mono (by simp<;>omega));have Ka:=hid (Ka.out.new_ hbs);have Kb:=hid (Kb.out.new_ hbs);have Kc:=hid (Kc.out.new_ hbs);have HB:=hid (HB.out.trans (hbs.mono HB.out.size));have hsz2:=hbs.size;clear a0 a1 a2 az b0 b1 b2 bz c0 c1 c2 cz hb hbs;obtain ⟨a0,a1,a2⟩:=Ka.out.c3;have az:=Ka.out.lt;obtain ⟨b0,b1,b2⟩:=Kb.out.c3;have bz:=Kb.out.lt;obtain ⟨c0,c1,c2⟩:=Kc.out.c3;have cz:=Kc.out.lt;have HR:=hid (show r=false by rw [HV.out];simp [hb1,hva]);(go_wp2_with fail);go_ret;exact ⟨by rw [HR.out]<;>rfl,by (repeat (first | exact Zks _ _ | exact HB.out | refine Below.drew ?_ | refine Below.al ?_ _ | refine Below.sc ?_ _))⟩
     · skip
       have hc:=fun W=>Z2j ⟨1,ta,na⟩ W;simp only [hva] at hc;have HC:=hid hc;clear hc;(go_wp2_with fail);(with_reducible refine (HC.out _).mono ?_);rintro e w2 ⟨rfl,hb⟩;have hbs:=Below.trans (show Below w1.heap.size w1 _ from (by (repeat (first | exact Zks _ _ | refine Below.drew ?_ | refine Below.al ?_ _ | refine Below.sc ?_ _)))) (hb.mono (by simp<;>omega));have Ka:=hid (Ka.out.new_ hbs);have Kb:=hid (Kb.out.new_ hbs);have Kc:=hid (Kc.out.new_ hbs);have HB:=hid (HB.out.trans (hbs.mono HB.out.size));have hsz2:=hbs.size;clear a0 a1 a2 az b0 b1 b2 bz c0 c1 c2 cz hb hbs;obtain ⟨a0,a1,a2⟩:=Ka.out.c3;have az:=Ka.out.lt;obtain ⟨b0,b1,b2⟩:=Kb.out.c3;have bz:=Kb.out.lt;obtain ⟨c0,c1,c2⟩:=Kc.out.c3;have cz:=Kc.out.lt;cases hvb:Z07 b
       · skip
         have hc:=fun W=>Z2j b W;simp only [hvb] at hc;have HC:=hid hc;clear hc;(go_wp2_with fail);(with_reducible refine (HC.out _).mono ?_);rintro e w3 ⟨rfl,hb⟩;have hbs:=Below.trans (show Below w2.heap.size w2 _ from (by (repeat (first | exact Zks _ _ | refine Below.drew ?_ | refine Below.al ?_ _ | refine Below.sc ?_ _)))) (hb.mono (by simp<;>omega));have Ka:=hid (Ka.out.new_ hbs);have Kb:=hid (Kb.out.new_ hbs);have Kc:=hid (Kc.out.new_ hbs);have HB:=hid (HB.out.trans (hbs.mono HB.out.size));have hsz3:=hbs.size;clear a0 a1 a2 az b0 b1 b2 bz c0 c1 c2 cz hb hbs;obtain ⟨a0,a1,a2⟩:=Ka.out.c3;have az:=Ka.out.lt;obtain ⟨b0,b1,b2⟩:=Kb.out.c3;have bz:=Kb.out.lt;obtain ⟨c0,c1,c2⟩:=Kc.out.c3;have cz:=Kc.out.lt;have HR:=hid (show r=false by rw [HV.out];simp [hb1,hva,hvb]);(go_wp2_with fail);go_ret;exact ⟨by rw [HR.out]<;>rfl,by (repeat (first | exact Zks _ _ | exact HB.out | refine Below.drew ?_ | refine Below.al ?_ _ | refine Below.sc ?_ _))⟩
       · skip
         have hc:=fun W=>Z2j b W;simp only [hvb] at hc;have HC:=hid hc;clear hc;(go_wp2_with fail);(with_reducible refine (HC.out _).mono ?_);rintro e w3 ⟨rfl,hb⟩;have hbs:=Below.trans (show Below w2.heap.size w2 _ from (by (repeat (first | exact Zks _ _ | refine Below.drew ?_ | refine Below.al ?_ _ | refine Below.sc ?_ _)))) (hb.mono (by simp<;>omega));have Ka:=hid (Ka.out.new_ hbs);have Kb:=hid (Kb.out.new_ hbs);have Kc:=hid (Kc.out.new_ hbs);have HB:=hid (HB.out.trans (hbs.mono HB.out.size));have hsz3:=hbs.size;clear a0 a1 a2 az b0 b1 b2 bz c0 c1 c2 cz hb hbs;obtain ⟨a0,a1,a2⟩:=Ka.out.c3;have az:=Ka.out.lt;obtain ⟨b0,b1,b2⟩:=Kb.out.c3;have bz:=Kb.out.lt;obtain ⟨c0,c1,c2⟩:=Kc.out.c3;have cz:=Kc.out.lt;cases hvc:Z07 c
         · skip
           have hc:=fun W=>Z2j c W;simp only [hvc] at hc;have HC:=hid hc;clear hc;(go_wp2_with fail);(with_reducible refine (HC.out _).mono ?_);rintro e w4 ⟨rfl,hb⟩;have hbs:=Below.trans (show Below w3.heap.size w3 _ from (by (repeat (first | exact Zks _ _ | refine Below.drew ?_ | refine Below.al ?_ _ | refine Below.sc ?_ _)))) (hb.mono (by simp<;>omega));have Ka:=hid (Ka.out.new_ hbs);have Kb:=hid (Kb.out.new_ hbs);have Kc:=hid (Kc.out.new_ hbs);have HB:=hid (HB.out.trans (hbs.mono HB.out.size));have hsz4:=hbs.size;clear a0 a1 a2 az b0 b1 b2 bz c0 c1 c2 cz hb hbs;obtain ⟨a0,a1,a2⟩:=Ka.out.c3;have az:=Ka.out.lt;obtain ⟨b0,b1,b2⟩:=Kb.out.c3;have bz:=Kb.out.lt;obtain ⟨c0,c1,c2⟩:=Kc.out.c3;have cz:=Kc.out.lt;have HR:=hid (show r=false by rw [HV.out];simp [hb1,hva,hvb,hvc]);(go_wp2_with fail);go_ret;exact ⟨by rw [HR.out]<;>rfl,by (repeat (first | exact Zks _ _ | exact HB.out | refine Below.drew ?_ | refine Below.al ?_ _ | refine Below.sc ?_ _))⟩
         · skip
           have hc:=fun W=>Z2j c W;simp only [hvc] at hc;have HC:=hid hc;clear hc;(go_wp2_with fail);(with_reducible refine (HC.out _).mono ?_);rintro e w4 ⟨rfl,hb⟩;have hbs:=Below.trans (show Below w3.heap.size w3 _ from (by (repeat (first | exact Zks _ _ | refine Below.drew ?_ | refine Below.al ?_ _ | refine Below.sc ?_ _)))) (hb.mono (by simp<;>omega));have Ka:=hid (Ka.out.new_ hbs);have Kb:=hid (Kb.out.new_ hbs);have Kc:=hid (Kc.out.new_ hbs);have HB:=hid (HB.out.trans (hbs.mono HB.out.size));have hsz4:=hbs.size;clear a0 a1 a2 az b0 b1 b2 bz c0 c1 c2 cz hb hbs;obtain ⟨a0,a1,a2⟩:=Ka.out.c3;have az:=Ka.out.lt;obtain ⟨b0,b1,b2⟩:=Kb.out.c3;have bz:=Kb.out.lt;obtain ⟨c0,c1,c2⟩:=Kc.out.c3;have cz:=Kc.out.lt;have HR:=hid (show r=true by rw [HV.out];simp [hb1,hva,hvb,hvc]);(go_wp2_with fail);go_ret;exact ⟨by rw [HR.out]<;>rfl,by (repeat (first | exact Zks _ _ | exact HB.out | refine Below.drew ?_ | refine Below.al ?_ _ | refine Below.sc ?_ _))⟩
 · skip
   (have qa:(a.kind == 1)=false:=by simp [ha]);(have qb:decide (a.kind=1)=false:=by simp [ha]);go_enter Tryz.func48,Tryz.ntmps48;(go_upto_region 1 with fail);obtain ⟨w1,hw1⟩ : ∃w1,w1=(((w.alloc (.cells #[.int .i64 a.kind,.string a.text,.int .i64 a.n] 38)).alloc (.cells #[.int .i64 b.kind,.string b.text,.int .i64 b.n] 38)).alloc (.cells #[.int .i64 c.kind,.string c.text,.int .i64 c.n] 38)):=⟨_,rfl⟩;rw [← hw1];have HB:=hid (show Below w.heap.size w w1 by rw [hw1];exact (by repeat (first | exact Zks _ _ | refine Below.drew ?_ | refine Below.al ?_ _ | refine Below.sc ?_ _)));have Ka:=hid (show Blk w1 (w.heap.size) 38 #[.int .i64 a.kind,.string a.text,.int .i64 a.n] by rw [hw1];exact (((Blk.new w 38 #[.int .i64 a.kind,.string a.text,.int .i64 a.n]).alloc (.cells #[.int .i64 b.kind,.string b.text,.int .i64 b.n] 38)).alloc (.cells #[.int .i64 c.kind,.string c.text,.int .i64 c.n] 38)));have Kb:=hid (show Blk w1 (w.heap.size+1) 38 #[.int .i64 b.kind,.string b.text,.int .i64 b.n] by rw [hw1];have hh:=((Blk.new (w.alloc (.cells #[.int .i64 a.kind,.string a.text,.int .i64 a.n] 38)) 38 #[.int .i64 b.kind,.string b.text,.int .i64 b.n]).alloc (.cells #[.int .i64 c.kind,.string c.text,.int .i64 c.n] 38));simp only [Zld] at hh;exact hh);have Kc:=hid (show Blk w1 (w.heap.size+2) 38 #[.int .i64 c.kind,.string c.text,.int .i64 c.n] by rw [hw1];have hh:=(Blk.new ((w.alloc (.cells #[.int .i64 a.kind,.string a.text,.int .i64 a.n] 38)).alloc (.cells #[.int .i64 b.kind,.string b.text,.int .i64 b.n] 38)) 38 #[.int .i64 c.kind,.string c.text,.int .i64 c.n]);simp only [Zld] at hh;exact hh);clear hw1;obtain ⟨a0,a1,a2⟩:=Ka.out.c3;have az:=Ka.out.lt;obtain ⟨b0,b1,b2⟩:=Kb.out.c3;have bz:=Kb.out.lt;obtain ⟨c0,c1,c2⟩:=Kc.out.c3;have cz:=Kc.out.lt;have HR:=hid (show r=false by rw [HV.out];simp [ha]);(go_wp2_with fail);go_ret;exact ⟨by rw [HR.out]<;>rfl,by (repeat (first | exact Zks _ _ | exact HB.out | refine Below.drew ?_ | refine Below.al ?_ _ | refine Below.sc ?_ _))⟩
def Z1j (v:ByteArray):UInt8:=if h:0<v.size then v[0] - 32 else 65
theorem Zak (c:UInt8) (h1:97≤c.toNat) (h2:c.toNat≤122):((c - 32).toNat:Int)=(c.toNat:Int) - 97+65:=by
 have:(c - 32).toNat=c.toNat - 32:=by
  rw [UInt8.toNat_sub_of_le _ _ (by rw [UInt8.le_iff_toNat_le];show 32≤c.toNat;omega)];rfl
 rw [this];omega
theorem Z7u (v:ByteArray) (w:World) (h:Z0n v=true):Calls Tryz.prog 45 #[.string v] w fun e w'=>e = .returned (.int .u8 ((Z1j v).toNat:Int))∧w=w':=by
 obtain ⟨h0,_,hs,_⟩:=Z3v.1 h;obtain ⟨c,hc⟩ : ∃c,c=v[0]:=⟨_,rfl⟩;(have h1:97≤c.toNat∧c.toNat≤122:=by rw [← hc] at hs;simpa [Z30] using hs);have HG:=hid (show ((Z1j v).toNat:Int)=(c.toNat:Int) - 97+65 by unfold Z1j;rw [dif_pos h0,← hc];exact Zak c h1.1 h1.2);have HC:=hid hc;(have b1:(97:Int)≤c.toNat:=by omega);(have b2:(c.toNat:Int)≤122:=by omega);(have v1:IntKind.u8.wrap ((c.toNat:Int) - 97)=(c.toNat:Int) - 97:=by rw [IntWalk.u8_in _ (by omega)]);have v2:IntKind.u8.wrap ((c.toNat:Int) - 97+65)=(c.toNat:Int) - 97+65:=by rw [IntWalk.u8_in _ (by omega)]
 have hi : ∀W,(Instr.index 9 (.string v) (.int .i64 0)).run Tryz.prog W = .ok (.int .u8 (c.toNat:Int)) W:=fun W=>by
  rw [hc];go_simp
 clear hs hc h h1;go_enter Tryz.func45,Tryz.ntmps45;(go_wp2_with fail);go_ret;refine ⟨?_,rfl⟩;rw [HG.out];rfl
def Zh1 (l:List Z05) (p:Z31) (A1 A2:Option Addr) (c1 c2:Nat) (w:World) (e:Ending) (w':World):Prop:=
 ∃kb kp A c,e = .returned (.func (.func 95) #[] #[.pointer (some ⟨kb,0,none⟩),.pointer (some ⟨kp,0,none⟩)])∧Blk w' kb 26 #[.slice A l.length c]∧Blk w' kp 25 #[.string p.name,.slice A1 p.conds.length c1,.slice A2 p.acts.length c2]∧
  RowR Z0s (fun k=>w.heap.size≤k∧k<w'.heap.size) w' A c l∧w.heap.size≤kb∧w.heap.size≤kp∧Below w.heap.size w w'
theorem Zke {D:Nat→Prop} (l:List Z05) (p:Z31) (Al A1 A2:Option Addr) (cl c1 c2:Nat) (w:World) (h1:RowR Z0s D w Al cl l) (hl1:l.length≤1000) :
 Calls Tryz.prog 43 #[.agg #[.string p.name,.slice A1 p.conds.length c1,.slice A2 p.acts.length c2],.slice Al l.length cl] w (Zh1 l p A1 A2 c1 c2 w):=by
 obtain ⟨i0,hi0,hz0,hz1,hz2⟩:=info_parts Z6e;have HR:=hid h1;clear h1;go_enter Tryz.func43,Tryz.ntmps43;(go_upto_region 1 with fail);obtain ⟨W1,hW1⟩ : ∃W1,W1=w.alloc (.cells #[.string p.name,.slice A1 p.conds.length c1,.slice A2 p.acts.length c2] 25):=⟨_,rfl⟩;rw [← hW1];have HB1:=hid (show Below w.heap.size w W1 by rw [hW1];exact (Zks _ _).alloc (Zkt _) _);have HP:=hid (show Blk W1 w.heap.size 25 #[.string p.name,.slice A1 p.conds.length c1,.slice A2 p.acts.length c2] by rw [hW1];exact Blk.new _ _ _);have HZ:=hid (show W1.heap.size=w.heap.size+1 by rw [hW1,Zld]);clear hW1;(go_wp2_with (at_builtin;refine Z04 W1 rfl (.const (.slice none 0 0)) (.tmp 6) 26 rfl 40 i0 _ 4 48 Tryz.underlying26 hi0 hz0 hz1 hz2 rfl (by decide) (.slice none 0 0) 0 [] rfl (Z28 _ _ _ _) Al l.length cl (l.flatMap Z05.cells) rfl (Z0m Z05.cells_length l) ((HR.out.new_ HB1.out).rd.news Z05.cells_length (by decide)) (Z9p l) (by unfold maxLen;omega) (by omega) ?_;intro v' w4 hown hg hnil hat;obtain ⟨A0,c0,rfl,hF0,hA0,hO0⟩:=Z1k (E:=fun _=>False) (AIn.none_ _) hown hg hat;rw [Zlm,Zl8] at hO0;simp only [Zlm];have HO:=hid hO0;have HA:=hid hA0;have HF:=hid hF0;clear hown hg hnil hat hF0 hA0 hO0));go_ret;have hz:=HF.out.size;have hz1:=HZ.out;have hn:Below w4.heap.size w4 (w4.alloc (.cells #[.slice A0 l.length c0] 26)):=(Zks _ _).alloc (Zkt _) _;have hb4:Below w.heap.size w w4:=HB1.out.trans ((HF.out.below (Zkt _) (fun _ _ h=>h)).mono (by omega));refine ⟨w4.heap.size,w.heap.size,A0,c0,rfl,Blk.new _ _ _,(HP.out.fr HF.out (fun h=>h)).new_ hn,RowR.of_rd ((Z0j Z05.cells_length HO.out).new_ hn) (HA.out.mono (fun k hk=>?_)),by omega,Zkt _,hb4.trans (hn.mono (by omega))⟩;rcases hk with hk | hk
 · exact hk.elim
 · exact ⟨by omega,by simp;omega⟩
end
section
open Go.RowKit
structure Page where
 key:UInt8
 v:Int
 deriving DecidableEq
def Page.kk (p:Page):Int:=(p.key.toNat:Int)
theorem Page.kk_bd (p:Page):0≤p.kk∧p.kk≤255:=by
 unfold Page.kk;have:=p.key.toNat_lt;omega
def Page.cells (p:Page):List Value:=[.int .u8 p.kk,.int .i64 p.v]
theorem Page.cells_length (p:Page):p.cells.length=2:=rfl
def Z03 (a b:Page):Int:=a.kk - b.kk
theorem Z36:TC Z03:=⟨fun x=>by unfold Z03;omega,fun x y=>by unfold Z03;omega,fun x y z=>by unfold Z03;omega⟩
theorem Z2n {a b:Page}:Z03 a b=0↔a.key=b.key:=by
 unfold Z03 Page.kk;constructor
 · intro h
   exact UInt8.toNat_inj.1 (by omega)
 · intro h
   rw [h];omega
theorem Ze2 (a b:Int) (ha:0≤a) (ha2:a≤255) (hb:0≤b) (hb2:b≤255) (w:World):Calls Tryz.prog 242 #[.int .u8 a,.int .u8 b] w fun e w'=>e = .returned (.int .i64 (a - b))∧w=w':=by
 have v1:IntKind.i64.wrap a=a:=Zl5 _ (by omega);have v2:IntKind.i64.wrap b=b:=Zl5 _ (by omega);have v3:IntKind.i64.wrap (a - b)=a - b:=Zl5 _ (by omega);go_enter Tryz.func242,Tryz.ntmps242;go_wp2;go_ret;exact ⟨rfl,rfl⟩
theorem Z8d (k : Int) (w : World) : (nilAhead 442 154 (.int .u8 k) "Compare").run Tryz.prog w = .ok (some false) w := by kernel_rfl
theorem Za2 (k : Int) (w : World) : (method 442 154 (.int .u8 k) "Compare").run Tryz.prog w = .ok (242, .int .u8 k) w := by kernel_rfl
theorem Zh8 (a b:Page) (w:World):Calls Tryz.prog 259 #[.agg #[.int .u8 a.kk,.int .i64 a.v],.agg #[.int .u8 b.kk,.int .i64 b.v]] w fun e w'=>e = .returned (.int .i64 (Z03 a b))∧Below w.heap.size w w':=by
 have ha:=a.kk_bd;have hb:=b.kk_bd;have N:=Z8d;have M:=Za2;go_enter Tryz.func259,Tryz.ntmps259;(go_wp2_with fail);refine (Ze2 a.kk b.kk ha.1 ha.2 hb.1 hb.2 _).mono ?_;rintro e w' ⟨rfl,rfl⟩;(go_wp2_with fail);go_ret;exact ⟨rfl,((Zks _ _).alloc (Zkt _) _).alloc (by simp) _⟩
end
end Go.Proofs.YtfidcfjcmlgkbaaGreat
