/-
  Texts put together: Shape6, Known7, Known8.
-/
import Derived.Test.YtfidcfjcmlgkbaaGreatPHk
namespace Go.Proofs.YtfidcfjcmlgkbaaGreat
open Lib (hid)
set_option maxRecDepth 100000
set_option maxHeartbeats 32000000
set_option linter.unusedSimpArgs false
section
open Go.RowKit Go.Shelf
attribute [local go_sem] Oper.semAt_some
theorem Zk0 {D:Nat→Prop} (p:Z3y) (n:Nat) (A1 A2:Option Addr) (c1 c2:Nat) (w:World) (h1:RowR (Z05 n) D w A1 c1 p.conds) (h2:RowR Z19 D w A2 c2 p.acts) (hD : ∀k,D k→k<w.heap.size) (hF:(Z0h n 0 p.conds).length≤1000000000) (hn:n≤1000000000) :
 Calls Tryz.prog 136 #[.agg #[.string p.name,.slice A1 p.conds.length c1,.slice A2 p.acts.length c2]] w fun e w'=>e = .returned (.tuple #[.int .i64 (Z1m n p).1,.int .i64 (Z1m n p).2])∧Below w.heap.size w w':=by
 have H1:=hid h1;have H2:=hid h2;have HD:=hid hD;have hl2:=h2.cap;clear h1 h2 hD;by_cases hw:Z15 p.name=false
 · have HR:=hid (show Z1m n p=(-1,2) by unfold Z1m;rw [if_pos hw])
   have w1:=hw;clear hw;go_enter Tryz.func136,Tryz.ntmps136;(go_wp2_with (go_at_call 98;refine (Z3p p.name _).mono ?_;rintro e w9 ⟨rfl,rfl⟩));go_ret2;exact ⟨by rw [HR.out]<;>rfl,(Zm7 _ _).alloc (Zm8 _) _⟩
 (have w1:Z15 p.name=true:=by simpa using hw);have HW:=hid hw;clear hw;obtain ⟨F,hFd⟩ : ∃F,F=Z0h n 0 p.conds:=⟨_,rfl⟩;have HFD:=hid hFd;rw [← hFd] at hF;clear hFd;go_enter Tryz.func136,Tryz.ntmps136;(go_upto_region 4 with (go_at_call 98;refine (Z3p p.name _).mono ?_;rintro e w9 ⟨rfl,rfl⟩));obtain ⟨W1,hW1⟩ : ∃W1,W1=(w.alloc (.cells #[.string p.name,.slice A1 p.conds.length c1,.slice A2 p.acts.length c2] 25)).alloc (.cells #[.int .i64 0] 3):=⟨_,rfl⟩;rw [← hW1];(have hb1:Below w.heap.size w W1:=by rw [hW1];exact ((Zm7 _ _).alloc (Zm8 _) _).alloc (by simp) _);have hP:Blk W1 w.heap.size 25 #[.string p.name,.slice A1 p.conds.length c1,.slice A2 p.acts.length c2]:=by rw [hW1];exact (Blk.new w 25 #[.string p.name,.slice A1 p.conds.length c1,.slice A2 p.acts.length c2]).alloc _
 have hN:Blk W1 (w.heap.size+1) 3 #[.int .i64 0]:=by
  rw [hW1];have:=Blk.new (w.alloc (.cells #[.string p.name,.slice A1 p.conds.length c1,.slice A2 p.acts.length c2] 25)) 3 #[.int .i64 0];rw [show (w.alloc (.cells #[.string p.name,.slice A1 p.conds.length c1,.slice A2 p.acts.length c2] 25)).heap.size=w.heap.size+1 from by simp] at this;exact this
 obtain ⟨bn,hbn⟩ : ∃bn,bn=w.heap.size+1:=⟨_,rfl⟩;obtain ⟨px,hpx⟩ : ∃px,px=w.heap.size:=⟨_,rfl⟩;rw [← hbn] at hN ⊢;rw [← hpx] at hP;have HPX:=hid hpx;have HBN:=hid hbn;(have hDn : ¬D bn:=fun h=>by have:=HD.out _ h;omega);(have p1:W1.cell? ⟨w.heap.size,1,none⟩=some (.slice A1 p.conds.length c1):=by rw [← hpx];exact (hP.cell 1).trans rfl);(have hpl:w.heap.size<W1.heap.size:=by rw [← hpx];exact hP.lt);have HB1:=hid hb1;have HP:=hid hP;have HN:=hid hN;clear hW1 hbn hpx hb1 hP hN;(go_wp2_with fail);have hwk:=Zig (yld1 (D:=D) bn hDn F) hF n 0 0 A1 c1 p.conds W1 (H1.out.new_ HB1.out) (fun k hk=>by rw [hk];exact HN.out.lt) ⟨[],by rw [← HFD.out];simp⟩ (by rw [← HFD.out];omega) (by omega) ⟨HN.out,by omega⟩;rw [← HFD.out] at hwk;refine hwk.mono ?_;rintro e W2 ⟨b,a,rfl,hbt,hbf,hF2⟩
 have hm : ∃m:Nat,Blk W2 bn 3 #[.int .i64 (m:Int)]∧((m=F.length∧m≤16)∨(m=17∧16<F.length)):=by
  cases b with
  | true=>
    obtain ⟨ha,hI⟩:=hbt rfl;exact ⟨a,hI.1,.inl ⟨by omega,hI.2⟩⟩
  | false=>
    have hS:=hbf rfl;exact ⟨17,hS.1,.inr ⟨rfl,hS.2⟩⟩
 obtain ⟨m,hM,hmF⟩:=hm;have hP2:=HP.out.fr hF2 (fun e=>by have:=HPX.out;have:=HBN.out;omega);have HB2:=hid (HB1.out.trans (hF2.below HB1.out.size (fun k hk e=>by have:=HBN.out;omega)));have n0:W2.cell? ⟨bn,0,none⟩=some (.int .i64 (m:Int)):=(hM.cell 0).trans rfl;(have p1':W2.cell? ⟨w.heap.size,1,none⟩=some (.slice A1 p.conds.length c1):=by rw [← HPX.out];exact (hP2.cell 1).trans rfl);(have p2':W2.cell? ⟨w.heap.size,2,none⟩=some (.slice A2 p.acts.length c2):=by rw [← HPX.out];exact (hP2.cell 2).trans rfl);(have hpl2:w.heap.size<W2.heap.size:=by rw [← HPX.out];exact hP2.lt);have hnl:=hM.lt;have HM:=hid hM;have HP2:=hid hP2;clear hwk hbt hbf hF2 hM hP2 p1 hpl
 have bad:(F.length<1∨16<F.length∨p.acts.length<1∨16<p.acts.length)→Z1m n p=(-1,7):=fun h=>by
  unfold Z1m;rw [if_neg HW.out,← HFD.out,if_pos h]
 have HBAD:=hid bad;clear bad;by_cases k1:m<1
 · have t1:decide ((m:Int)<1)=true:=Zmb (by omega)
   have t1n:decide (m<1)=true:=Zmb (by omega);have HR:=hid (HBAD.out (by omega));clear k1;(go_wp2_with fail);go_ret2;exact ⟨by rw [HR.out]<;>rfl,HB2.out⟩
 have t1:decide ((m:Int)<1)=false:=Zm9 (by omega);have t1n:decide (m<1)=false:=Zm9 (by omega);by_cases k2:16<m
 · have t2:decide ((16:Int)<(m:Int))=true:=Zmb (by omega)
   have t2n:decide (16<m)=true:=Zmb (by omega);have HR:=hid (HBAD.out (by omega));clear k1 k2;(go_wp2_with fail);go_ret2;exact ⟨by rw [HR.out]<;>rfl,HB2.out⟩
 have t2:decide ((16:Int)<(m:Int))=false:=Zm9 (by omega);have t2n:decide (16<m)=false:=Zm9 (by omega);(have hmF':m=F.length:=by omega);by_cases k3:p.acts.length<1
 · have t3:decide ((p.acts.length:Int)<1)=true:=Zmb (by omega)
   have t3n:decide (p.acts.length<1)=true:=Zmb (by omega);have HR:=hid (HBAD.out (by omega));(have hz0:p.acts.length=0:=by omega);clear k1 k2 k3 hmF hmF';(go_wp2_with fail);go_ret2;exact ⟨by rw [HR.out]<;>rfl,HB2.out⟩
 have t3:decide ((p.acts.length:Int)<1)=false:=Zm9 (by omega);have t3n:decide (p.acts.length<1)=false:=Zm9 (by omega);by_cases k4:16<p.acts.length
 · have t4:decide ((16:Int)<(p.acts.length:Int))=true:=Zmb (by omega)
   have t4n:decide (16<p.acts.length)=true:=Zmb (by omega);have HR:=hid (HBAD.out (by omega));clear k1 k2 k3 k4 hmF hmF';(go_wp2_with fail);go_ret2;exact ⟨by rw [HR.out]<;>rfl,HB2.out⟩
 have t4:decide ((16:Int)<(p.acts.length:Int))=false:=Zm9 (by omega);have t4n:decide (16<p.acts.length)=false:=Zm9 (by omega);clear k1 k2 k3 k4 hmF;have HMF:=hid hmF';clear hmF'
 have good : ∀r:Int×Int,(match F.findIdx? (fun c=>decide (Z0e c.2 c.1≠0)) with
  | some k=>((k:Int),((F[k]?).map fun c=>Z0e c.2 c.1).getD 0)
  | none=>match p.acts.findIdx? (fun a=>!actB a) with
    | some i=>(F.length+i,9)
    | none=>(-1,0))=r→Z1m n p=r:=fun r h=>by
  have ht2:=t2n;have ht1:=t1n;have ht3:=t3n;have ht4:=t4n;rw [decide_eq_false_iff_not] at ht1 ht2 ht3 ht4;unfold Z1m;rw [if_neg HW.out,← HFD.out,if_neg (by have:=HMF.out;omega)];exact h
 have HGOOD:=hid good;clear good;(go_upto_region 8 with fail);obtain ⟨W3,hW3⟩ : ∃W3,W3=(W2.alloc (.cells #[.int .i64 (-1)] 3)).alloc (.cells #[.int .i64 0] 42):=⟨_,rfl⟩;rw [← hW3];(have hb3:Below W2.heap.size W2 W3:=by rw [hW3];exact ((Zm7 _ _).alloc (Zm8 _) _).alloc (by simp) _);have hQ:Blk W3 W2.heap.size 3 #[.int .i64 (-1)]:=by rw [hW3];exact (Blk.new W2 3 #[.int .i64 (-1)]).alloc _
 have hE:Blk W3 (W2.heap.size+1) 42 #[.int .i64 0]:=by
  rw [hW3];have:=Blk.new (W2.alloc (.cells #[.int .i64 (-1)] 3)) 42 #[.int .i64 0];rw [show (W2.alloc (.cells #[.int .i64 (-1)] 3)).heap.size=W2.heap.size+1 from by simp] at this;exact this
 obtain ⟨be,hbe⟩ : ∃be,be=W2.heap.size+1:=⟨_,rfl⟩;obtain ⟨bp,hbp⟩ : ∃bp,bp=W2.heap.size:=⟨_,rfl⟩;rw [← hbe] at hE ⊢;rw [← hbp] at hQ ⊢;have hz2:=HB2.out.size;(have hD1 : ¬D be:=fun h=>by have:=HD.out _ h;omega);(have hD2 : ¬D bp:=fun h=>by have:=HD.out _ h;omega);have q1:W3.cell? ⟨w.heap.size,1,none⟩=some (.slice A1 p.conds.length c1):=(hb3.cell (p:=⟨w.heap.size,1,none⟩) hpl2).trans p1';have hpl3:=Zma hpl2 hb3.size;have HB3:=hid hb3;have HE:=hid hE;have HQ:=hid hQ;have HBE:=hid hbe;have HBP:=hid hbp;clear hW3 hb3 hE hQ hbe hbp p1' n0 hnl;(go_wp2_with fail);have hwk:=Zig (yld2 (D:=D) be bp hD1 hD2 (by have:=HBE.out;have:=HBP.out;omega) F) hF n 0 0 A1 c1 p.conds W3 (H1.out.new_ (HB2.out.trans (HB3.out.mono hz2))) (fun k hk=>hk.elim (fun e=>e ▸ HE.out.lt) (fun e=>e ▸ HQ.out.lt)) ⟨[],by rw [← HFD.out];simp⟩ (by rw [← HFD.out];omega) (by omega) ⟨HE.out,HQ.out,fun j _ h=>absurd h (by omega)⟩;rw [← HFD.out] at hwk;refine hwk.mono ?_;rintro e W4 ⟨b,a2,rfl,hbt,hbf,hF4⟩;have HB4:=hid (show Below w.heap.size w W4 from (HB2.out.trans (HB3.out.mono hz2)).trans (hF4.below (by have:=HB3.out.size;omega) (fun k hk e=>by have:=HBE.out;have:=HBP.out;rcases e with e | e<;>omega)));have hM4:=(HM.out.new_ HB3.out).fr hF4 (fun e=>by have h1:=HM.out.lt;have:=HBE.out;have:=HBP.out;rcases e with e | e<;>omega);have hP4:=(HP2.out.new_ HB3.out).fr hF4 (fun e=>by have h1:=HP2.out.lt;have:=HBE.out;have:=HBP.out;rcases e with e | e<;>omega);have HM4:=hid hM4;(have r2:W4.cell? ⟨w.heap.size,2,none⟩=some (.slice A2 p.acts.length c2):=by rw [← HPX.out];exact (hP4.cell 2).trans rfl);(have hpl4:w.heap.size<W4.heap.size:=by rw [← HPX.out];exact hP4.lt);have n4:W4.cell? ⟨bn,0,none⟩=some (.int .i64 (m:Int)):=(hM4.cell 0).trans rfl;have hnl4:=hM4.lt;clear hwk hF4 hM4 hP4 q1 hpl3 p2' hpl2
 cases b with
 | false=>
   obtain ⟨k,hk,hE4,hQ4,hne,hall⟩:=hbf rfl;obtain ⟨z,hz⟩ : ∃z,z=Z0e F[k].2 F[k].1:=⟨_,rfl⟩
   have hR:Z1m n p=((k:Int),z):=by
    refine HGOOD.out _ ?_
    have hfi:F.findIdx? (fun c=>decide (Z0e c.2 c.1≠0))=some k:=by
     rw [List.findIdx?_eq_some_iff_getElem];exact ⟨hk,by simpa using hne,fun j hj=>by simpa using hall j (by omega) hj⟩
    rw [hfi];simp [Zmc hk,hz]
   rw [← hz] at hE4 hne;have HR:=hid hR;have s0:W4.cell? ⟨be,0,none⟩=some (.int .i64 z):=(hE4.cell 0).trans rfl;have s1:W4.cell? ⟨bp,0,none⟩=some (.int .i64 (k:Int)):=(hQ4.cell 0).trans rfl;have hl0:=hE4.lt;have hl1:=hQ4.lt;(have t5:(z == 0)=false:=by simp [hne]);(have t6:decide (z=0)=false:=by simp [hne]);clear hR hz hE4 hQ4 hall hbt hbf hne n4 r2;(go_wp2_with fail);go_quiet (fail);(go_wp2_with fail);go_ret2;exact ⟨by rw [HR.out]<;>rfl,Below.drewN' HB4.out _⟩
 | true=>
   obtain ⟨_,hE4,_,hall⟩:=hbt rfl
   have hnone:F.findIdx? (fun c=>decide (Z0e c.2 c.1≠0))=none:=by
    rw [List.findIdx?_eq_none_iff];intro x hx;obtain ⟨j,hj,rfl⟩:=List.getElem_of_mem hx;have:=hall j hj (by omega);simpa using this
   have HNO:=hid hnone;have s0:W4.cell? ⟨be,0,none⟩=some (.int .i64 0):=(hE4.cell 0).trans rfl;have hl0:=hE4.lt;clear hnone hall hbt hbf hE4;go_wp2_with fail
   go_loopw [46] (fun s wr=>∃i:Nat,s = .int .i64 i∧i≤p.acts.length∧(∀k,(h:k<p.acts.length)→k<i→actB p.acts[k]=true)∧Below W4.heap.size W4 wr) (fun s wr=>p.acts.length - (intOf s).toNat)
   case atStart=>exact ⟨0,rfl,Nat.zero_le _,fun k _ h=>absurd h (by omega),Zm7 _ _⟩
   case round=>
    obtain ⟨i,rfl,hi,hall,hBr⟩:=hrel;have HALL:=hid hall;have HBr:=hid hBr;have hz4:=HB4.out.size;have hzr:=hBr.size;clear hall hBr;by_cases hlt:i<p.acts.length
    · obtain ⟨y,hy⟩ : ∃y,y=p.acts[i]:=⟨_,rfl⟩
      obtain ⟨g,off,hAA,_,hg,q0,q1,q2,q3,q4,q5,q6,q7,q8,q9,q10,q11,q12,q13,q14,q15,q16,q17,q18⟩:=Zgj (H2.out.new_ (HB4.out.trans (HBr.out.mono hz4))) hlt;subst hAA;rw [← hy] at q0 q1 q2 q3 q4 q5 q6 q7 q8 q9 q10 q11 q12 q13 q14 q15 q16 q17 q18;have HY:=hid hy;(have b1:(0:Int)≤(i:Int):=by omega);have b2:(i:Int)<(p.acts.length:Int):=by omega
      have HRG:=hid (show wr.rangeAt g (off+i*19) [.string y.id,.string y.attr.var,.int .i64 y.attr.sym.kind,.string y.attr.sym.text,.int .i64 y.attr.sym.n,.int .i64 y.value.op,.string y.value.a.var,.int .i64 y.value.a.sym.kind,.string y.value.a.sym.text,.int .i64 y.value.a.sym.n,.string y.value.b.var,.int .i64 y.value.b.sym.kind,.string y.value.b.sym.text,.int .i64 y.value.b.sym.n,.int .i64 y.pref,.string y.other.var,.int .i64 y.other.sym.kind,.string y.other.sym.text,.int .i64 y.other.sym.n] from fun j v hv=>by
       obtain ⟨g',off',cs,e1,_,_,hr,hc⟩:=(H2.out.new_ (HB4.out.trans (HBr.out.mono hz4))).at_ hlt;cases e1;have hr2:cs=ActT.cells p.acts[i]:=hr;subst hr2;rw [← HY.out] at hc
       exact hc j v hv)
      have HTH:=hid (show (wr.alloc (.cells #[.string ⟨#[]⟩,.string ⟨#[]⟩,.int .i64 0,.string ⟨#[]⟩,.int .i64 0,.int .i64 0,.string ⟨#[]⟩,.int .i64 0,.string ⟨#[]⟩,.int .i64 0,.string ⟨#[]⟩,.int .i64 0,.string ⟨#[]⟩,.int .i64 0,.int .i64 0,.string ⟨#[]⟩,.int .i64 0,.string ⟨#[]⟩,.int .i64 0] 96)).there wr.heap.size 0 (#[.string y.id,.string y.attr.var,.int .i64 y.attr.sym.kind,.string y.attr.sym.text,.int .i64 y.attr.sym.n,.int .i64 y.value.op,.string y.value.a.var,.int .i64 y.value.a.sym.kind,.string y.value.a.sym.text,.int .i64 y.value.a.sym.n,.string y.value.b.var,.int .i64 y.value.b.sym.kind,.string y.value.b.sym.text,.int .i64 y.value.b.sym.n,.int .i64 y.pref,.string y.other.var,.int .i64 y.other.sym.kind,.string y.other.sym.text,.int .i64 y.other.sym.n]:Array Value).size from (Blk.new wr 96 #[.string ⟨#[]⟩,.string ⟨#[]⟩,.int .i64 0,.string ⟨#[]⟩,.int .i64 0,.int .i64 0,.string ⟨#[]⟩,.int .i64 0,.string ⟨#[]⟩,.int .i64 0,.string ⟨#[]⟩,.int .i64 0,.string ⟨#[]⟩,.int .i64 0,.int .i64 0,.string ⟨#[]⟩,.int .i64 0,.string ⟨#[]⟩,.int .i64 0]).there);obtain ⟨W5,hW5⟩ : ∃W5,W5=(wr.alloc (.cells #[.string ⟨#[]⟩,.string ⟨#[]⟩,.int .i64 0,.string ⟨#[]⟩,.int .i64 0,.int .i64 0,.string ⟨#[]⟩,.int .i64 0,.string ⟨#[]⟩,.int .i64 0,.string ⟨#[]⟩,.int .i64 0,.string ⟨#[]⟩,.int .i64 0,.int .i64 0,.string ⟨#[]⟩,.int .i64 0,.string ⟨#[]⟩,.int .i64 0] 96)).setCells wr.heap.size 0 [.string y.id,.string y.attr.var,.int .i64 y.attr.sym.kind,.string y.attr.sym.text,.int .i64 y.attr.sym.n,.int .i64 y.value.op,.string y.value.a.var,.int .i64 y.value.a.sym.kind,.string y.value.a.sym.text,.int .i64 y.value.a.sym.n,.string y.value.b.var,.int .i64 y.value.b.sym.kind,.string y.value.b.sym.text,.int .i64 y.value.b.sym.n,.int .i64 y.pref,.string y.other.var,.int .i64 y.other.sym.kind,.string y.other.sym.text,.int .i64 y.other.sym.n]:=⟨_,rfl⟩;have HW5:=hid hW5;have HRG5:=hid (show W5.rangeAt wr.heap.size 0 [.string y.id,.string y.attr.var,.int .i64 y.attr.sym.kind,.string y.attr.sym.text,.int .i64 y.attr.sym.n,.int .i64 y.value.op,.string y.value.a.var,.int .i64 y.value.a.sym.kind,.string y.value.a.sym.text,.int .i64 y.value.a.sym.n,.string y.value.b.var,.int .i64 y.value.b.sym.kind,.string y.value.b.sym.text,.int .i64 y.value.b.sym.n,.int .i64 y.pref,.string y.other.var,.int .i64 y.other.sym.kind,.string y.other.sym.text,.int .i64 y.other.sym.n] by rw [hW5];exact Zmm _ _ _ _ HTH.out);have HB5:=hid (show Below wr.heap.size wr W5 by rw [hW5];exact Below.setCells' _ _ ((Zm7 _ _).alloc (Zm8 _) _) (Zm8 _));clear hy hW5 q0 q1 q2 q3 q4 q5 q6 q7 q8 q9 q10 q11 q12 q13 q14 q15 q16 q17 q18
      go_wp2_with (first
       | (with_reducible refine wpList_load_mid rfl 96 _ rfl g (off+i*19) rfl _ _ HRG.out Tryz.underlying96 rfl (by kernel_rfl) ?_)
       | ((with_reducible refine wpList_store_mid rfl 96 _ _ rfl wr.heap.size 0 #[.string y.id,.string y.attr.var,.int .i64 y.attr.sym.kind,.string y.attr.sym.text,.int .i64 y.attr.sym.n,.int .i64 y.value.op,.string y.value.a.var,.int .i64 y.value.a.sym.kind,.string y.value.a.sym.text,.int .i64 y.value.a.sym.n,.string y.value.b.var,.int .i64 y.value.b.sym.kind,.string y.value.b.sym.text,.int .i64 y.value.b.sym.n,.int .i64 y.pref,.string y.other.var,.int .i64 y.other.sym.kind,.string y.other.sym.text,.int .i64 y.other.sym.n] rfl rfl HTH.out (by kernel_rfl) (by kernel_rfl) ?_);rw [← HW5.out])
       | (with_reducible refine wpList_load_mid rfl 96 _ rfl wr.heap.size 0 rfl _ _ HRG5.out Tryz.underlying96 rfl (by kernel_rfl) ?_))
      refine (Zlr y _).mono ?_;rintro e w9 ⟨rfl,hb9⟩;have HB9:=hid (HBr.out.trans ((HB5.out.trans (hb9.mono HB5.out.size)).mono hzr));clear hb9;cases hcb:actB y
      · have hfi:p.acts.findIdx? (fun a=>!actB a)=some i:=by
         rw [List.findIdx?_eq_some_iff_getElem];refine ⟨hlt,by rw [← HY.out,hcb];rfl,fun j hj=>?_⟩;have:=HALL.out j (by omega) hj;simp [this]
        have HR:=hid (HGOOD.out ((m:Int)+i,9) (by rw [HNO.out,hfi];simp [HMF.out]));have n9:w9.cell? ⟨bn,0,none⟩=some (.int .i64 (m:Int)):=(HB9.out.cell (p:=⟨bn,0,none⟩) hnl4).trans n4;have hn9:=Zma hnl4 HB9.out.size;have t7:=t2n;rw [decide_eq_false_iff_not] at t7;have t8:=t4n;rw [decide_eq_false_iff_not] at t8;have v1:IntKind.i64.wrap ((m:Int)+(i:Int))=(m:Int)+(i:Int):=Zmh _ (by omega);clear hcb hfi t7 t8;(go_wp2_with fail);go_ret2;exact ⟨by rw [HR.out]<;>rfl,HB4.out.trans (HB9.out.mono hz4)⟩
      · have HCB:=hid hcb
        clear hcb;(go_wp2_with fail);go_roundw
        case rel=>exact ⟨i+1,by go_num,by omega,fun k hk hki=>by
         by_cases e:k=i
         · subst e;rw [← HY.out];exact HCB.out
         · exact HALL.out k hk (by omega),HB9.out⟩
        case measure=>simp [intOf]<;>omega
    · have hie:i=p.acts.length:=by omega
      have hfi:p.acts.findIdx? (fun a=>!actB a)=none:=by
       rw [List.findIdx?_eq_none_iff];intro x hx;obtain ⟨j,hj,rfl⟩:=List.getElem_of_mem hx;simp [HALL.out j hj (by omega)]
      have HR:=hid (HGOOD.out (-1,0) (by rw [HNO.out,hfi]));subst hie;clear hfi;(go_wp2_with fail);go_ret2;exact ⟨by rw [HR.out]<;>rfl,HB4.out.trans (HBr.out.mono hz4)⟩
theorem Ziv {c:Z08} {d:Nat} (h:Z0e c d=0):Zb2 (d,c)∧c.kind≠0:=by
 unfold Z0e at h;unfold Zb2;dsimp only;by_cases h3:c.kind=3
 · rw [if_pos h3] at h
   by_cases h9:c.goal=true∨c.id.toList≠[]∨0<c.attr.length∨0<c.value.length∨c.acc=true∨c.conds.length=0
   · rw [if_pos h9] at h;omega
   · have ha : ¬0<c.attr.length:=fun h=>h9 (.inr (.inr (.inl h)))
     have hb : ¬0<c.value.length:=fun h=>h9 (.inr (.inr (.inr (.inl h))));exact ⟨⟨by omega,by omega,fun h=>absurd h3 h⟩,by omega⟩
 · rw [if_neg h3] at h
   by_cases h12:c.kind=1∨c.kind=2
   · rw [if_pos h12] at h
     by_cases ha:0<c.conds.length∨Z15 c.id=false∨c.attr.length=0
     · rw [if_pos ha] at h;omega
     · rw [if_neg ha] at h
       by_cases hb:4<c.attr.length∨4<c.value.length
       · rw [if_pos hb] at h;omega
       · exact ⟨⟨by omega,by omega,fun _=>Zn3.1 (by omega)⟩,by omega⟩
   · rw [if_neg h12] at h;omega
theorem Zcb {n:Nat} {p:Z3y} (h:(Z1m n p).2=0):1≤(Z0h n 0 p.conds).length∧(Z0h n 0 p.conds).length≤16∧1≤p.acts.length∧p.acts.length≤16∧∀x∈Z0h n 0 p.conds,Z0e x.2 x.1=0:=by
 unfold Z1m at h;by_cases h1:Z15 p.name=false
 · rw [if_pos h1] at h;simp at h
 rw [if_neg h1] at h;by_cases h2:(Z0h n 0 p.conds).length<1∨16<(Z0h n 0 p.conds).length∨p.acts.length<1∨16<p.acts.length
 · rw [if_pos h2] at h;simp at h
 rw [if_neg h2] at h;refine ⟨by omega,by omega,by omega,by omega,?_⟩
 cases hf:(Z0h n 0 p.conds).findIdx? (fun c=>decide (Z0e c.2 c.1≠0)) with
 | none=>
   rw [List.findIdx?_eq_none_iff] at hf;intro x hx;have:=hf x hx;simpa using this
 | some k=>
   rw [hf] at h;obtain ⟨hk,h3,_⟩:=List.findIdx?_eq_some_iff_getElem.1 hf;simp only [Zmc hk] at h;simp only [Zno] at h3;exact absurd h h3
theorem Z9e {n:Nat} {p:Z3y} (h:(Z1m n p).2≠0):Z2b n p=((Z1m n p).1,(Z1m n p).2,[]):=by unfold Z2b;rw [if_pos h]
theorem Z7l {n:Nat} {p:Z3y} {x:Z08} {l:List Z08} (h:(Z1m n p).2=0) (hp:p.conds=x :: l) (hx:x.kind≠1):Z2b n p=(0,9,[]):=by
 unfold Z2b;rw [if_neg (by rw [h];decide),hp];simp [hx]
theorem Z7k {n:Nat} {p:Z3y} {x:Z08} {l:List Z08} {a:Int} {k:Kn} (h:(Z1m n p).2=0) (hp:p.conds=x :: l) (hx:x.kind=1) (hc:Z1g n ([],[]) p.conds 0=(false,a,k)):Z2b n p=(a,6,[]):=by
 unfold Z2b;rw [if_neg (by rw [h];decide),hc];simp [hp,hx]
theorem Zba {n:Nat} {p:Z3y} {x:Z08} {l:List Z08} {a:Int} {k:Kn} (h:(Z1m n p).2=0) (hp:p.conds=x :: l) (hx:x.kind=1) (hc:Z1g n ([],[]) p.conds 0=(true,a,k)):Z2b n p=(match p.acts.findIdx? (actV k) with
 | some i=>(a+i,6,[])
 | none=>(-1,0,k.2)):=by
 (have e:(p.conds.head?.map Z08.kind).getD 0=1:=by rw [hp];exact hx);unfold Z2b;rw [if_neg (by rw [h];decide),hc,if_neg (by rw [e];decide)];rfl
theorem KSt.lacks {D:Nat→Prop} {W W1:World} {S:Nat→Option (List Name)} {kb sb:Nat} {K:Kn} (a:Z2j) (h:KSt D W S kb sb K W1) (hl:(K.1.length:Int)≤1000000) :
 Calls Tryz.prog 139 #[.pointer (some ⟨kb,0,none⟩),.agg #[.string a.var,.int .i64 a.sym.kind,.string a.sym.text,.int .i64 a.sym.n]] W1 fun e W'=>e = .returned (.bool (Z2y K a))∧Below W1.heap.size W1 W':=by
 obtain ⟨σ',A',c',h1,h2,h3,h4⟩:=h;exact Zhb a h1 h2 hl
def Z4j (W:World) (r:Int×Int×List ByteArray) (e:Ending) (W':World):Prop:=
 ∃A c,e = .returned (.tuple #[.int .i64 r.1,.int .i64 r.2.1,.slice A r.2.2.length c])∧W'.ownsRow 0 9 1 (.slice A r.2.2.length c) r.2.2.length (r.2.2.map Value.string)∧Below W.heap.size W W'
theorem Z4j.none_ {W W':World} {r:Int×Int×List ByteArray} {a e:Int} (hr:r=(a,e,[])) (hb:Below W.heap.size W W'):Z4j W r (.returned (.tuple #[.int .i64 a,.int .i64 e,.slice none 0 0])) W':=by
 subst hr;exact ⟨none,0,rfl,Z5t _ _ _ _,hb⟩
theorem Zfi {D:Nat→Prop} (p:Z3y) (n:Nat) (A1 A2:Option Addr) (c1 c2:Nat) (w:World) (h1:RowR (Z05 n) D w A1 c1 p.conds) (h2:RowR Z19 D w A2 c2 p.acts) (hD : ∀k,D k→k<w.heap.size) (hF:(Z0h n 0 p.conds).length≤1000000000) (hn:n≤1000000000) :
 Calls Tryz.prog 92 #[.agg #[.string p.name,.slice A1 p.conds.length c1,.slice A2 p.acts.length c2]] w (Z4j w (Z2b n p)):=by
 have H1:=hid h1;have H2:=hid h2;have HD:=hid hD;have hl1:=h1.cap;have hl2:=h2.cap
 have hsh : ∀W,Below w.heap.size w W→Calls Tryz.prog 136 #[.agg #[.string p.name,.slice A1 p.conds.length c1,.slice A2 p.acts.length c2]] W fun e w'=>e = .returned (.tuple #[.int .i64 (Z1m n p).1,.int .i64 (Z1m n p).2])∧Below W.heap.size W w':=fun W hb=>
  Zk0 p n A1 A2 c1 c2 W (h1.new_ hb) (h2.new_ hb) (fun k hk=>Zma (hD k hk) hb.size) hF hn
 obtain ⟨⟨sa,se⟩,hse⟩ : ∃r,Z1m n p=r:=⟨_,rfl⟩;simp only [hse] at hsh;have HSH:=hid hsh;have HSE:=hid hse;clear hse h1 h2 hD hsh hF;go_enter Tryz.func92,Tryz.ntmps92;(go_upto_region 1 with fail);obtain ⟨W1,hW1⟩ : ∃W1,W1=w.alloc (.cells #[.string p.name,.slice A1 p.conds.length c1,.slice A2 p.acts.length c2] 25):=⟨_,rfl⟩;rw [← hW1];obtain ⟨px,hpx⟩ : ∃px,px=w.heap.size:=⟨_,rfl⟩;(have hbW1:Below w.heap.size w W1:=by rw [hW1];exact (Zm7 _ _).alloc (Zm8 _) _);(have hkW1:Blk W1 px 25 #[.string p.name,.slice A1 p.conds.length c1,.slice A2 p.acts.length c2]:=by rw [hW1,hpx];exact Blk.new _ _ _);rw [← hpx];have H_px:=hid hpx;clear hW1 hpx;have HB1:=hid hbW1;have HP:=hid hkW1;have p0:W1.cell? ⟨px,0,none⟩=some (.string p.name):=(hkW1.cell 0).trans rfl;have p1:W1.cell? ⟨px,1,none⟩=some (.slice A1 p.conds.length c1):=(hkW1.cell 1).trans rfl;have p2:W1.cell? ⟨px,2,none⟩=some (.slice A2 p.acts.length c2):=(hkW1.cell 2).trans rfl;have hpl:=hkW1.lt;clear hbW1 hkW1;(go_wp2_with fail);refine (HSH.out W1 HB1.out).mono ?_;rintro e w2 ⟨rfl,hb2⟩;have HB2:=hid (HB1.out.trans (hb2.mono HB1.out.size));have hP2:=HP.out.fr (Fr.of_new (M:=fun _=>False) hb2) (fun h=>h);have HP2:=hid hP2;have p1:w2.cell? ⟨px,1,none⟩=some (.slice A1 p.conds.length c1):=(hP2.cell 1).trans rfl;have p2:w2.cell? ⟨px,2,none⟩=some (.slice A2 p.acts.length c2):=(hP2.cell 2).trans rfl;have hpl2:=hP2.lt;clear p0 hb2 hP2;by_cases hs0:se=0
 · have hok:=Zcb (n:=n) (p:=p) (by rw [HSE.out];exact hs0)
   have HOK:=hid hok;(have s1:(se == 0)=true:=by simp [hs0]);(have s2:decide (se=0)=true:=by simp [hs0]);have HS0:=hid (show (Z1m n p).2=0 by rw [HSE.out];exact hs0)
   have hne:p.conds≠[]:=by
    intro h;have:=hok.1;rw [h,Z6l] at this;simp at this
   obtain ⟨n,rfl⟩ : ∃m,n=m+1:=by
    cases n with
    | zero=>have:=hok.1;exact absurd this (by simp [Z0h])
    | succ m=>exact ⟨m,rfl⟩
   obtain ⟨x,l,hxl⟩:=List.exists_cons_of_ne_nil hne;have hlen1:0<p.conds.length:=List.length_pos_iff.2 hne;obtain ⟨g,off,B1,d1,B2,d2,B3,d3,rfl,hgD,hg,q0,-,-,-,-,-,-,-,-,-⟩:=Z1n (H1.out.new_ HB2.out) hlen1;(have hx0:p.conds[0]=x:=by simp [hxl]);rw [hx0] at q0;simp only [Nat.zero_mul,Nat.add_zero] at q0;have HXL:=hid hxl;(have b1:(0:Int)<(p.conds.length:Int):=by omega);clear hs0 hok hne hxl hx0 hlen1;by_cases hx1:x.kind=1
   · have t1:(x.kind == 1)=true:=by simp [hx1]
     (have t1':decide (x.kind=1)=true:=by simp [hx1]);have HX1:=hid hx1;clear hx1;(go_wp2_with fail);refine (Zi7 none 0 [] (Sets.start _ _ _ _ _ w2) (Z18.nil _ _ _) (by simp)).mono ?_;rintro e w3 ⟨⟨sb,rfl,hsb,_,σ3,hN3,hF3⟩,hb3⟩;have hb3sz:=hb3.size;have HN3:=hid hN3;have HB3:=hid hb3;clear hN3 hF3 hb3 q0;(go_upto_region 7 with fail);obtain ⟨W4,hW4⟩ : ∃W4,W4=w3.alloc (.cells #[.pointer (some ⟨sb,0,none⟩),.slice none 0 0] 218):=⟨_,rfl⟩;rw [← hW4];obtain ⟨kb,hkb⟩ : ∃kb,kb=w3.heap.size:=⟨_,rfl⟩;(have hbW4:Below w3.heap.size w3 W4:=by rw [hW4];exact (Zm7 _ _).alloc (Zm8 _) _);(have hkW4:Blk W4 kb 218 #[.pointer (some ⟨sb,0,none⟩),.slice none 0 0]:=by rw [hW4,hkb];exact Blk.new _ _ _);rw [← hkb];have H_kb:=hid hkb;clear hW4 hkb;have hst4:KSt (· < w2.heap.size) W4 (upd (fun _=>none) sb (some [])) kb sb ([],[]) W4:=KSt.start (HN3.out.below hbW4) ⟨hkW4,Z5t _ _ _ _,Z0o _ _ _⟩ (AIn.none_ _);have HB4:=hid (HB2.out.trans ((HB3.out.trans (hbW4.mono HB3.out.size)).mono HB2.out.size));have hB24:Below w2.heap.size w2 W4:=HB3.out.trans (hbW4.mono HB3.out.size);have HP4:=hid (HP2.out.new_ hB24);have p1:W4.cell? ⟨px,1,none⟩=some (.slice (some ⟨g,off,none⟩) p.conds.length c1):=(HP4.out.cell 1).trans rfl;have hpl4:=HP4.out.lt;have hkD : ¬(kb<w2.heap.size):=by have:=hb3sz;rw [H_kb.out];omega
     have hcd:Calls Tryz.prog 138 #[.pointer (some ⟨kb,0,none⟩),.slice (some ⟨g,off,none⟩) p.conds.length c1,.int .i64 0] W4 (Z62 (· < w2.heap.size) W4 (upd (fun _=>none) sb (some [])) kb sb ([],[]) 0 (Z0h (n+1) 0 p.conds).length (Z1g (n+1) ([],[]) p.conds 0)):=
      Zh8 (n+1) 0 0 _ W4 _ kb sb ([],[]) _ _ p.conds hst4 hkD (((H1.out.new_ (HB2.out.trans (hB24.mono HB2.out.size))).weaken (fun k hk=>Zma (HD.out k hk) HB2.out.size))) (fun y hy=>(Ziv (HOK.out.2.2.2.2 y hy)).1) (by have:=HOK.out.2.1;simp;omega) (by have:=HOK.out.2.1;simp;omega) (by have:=HOK.out.2.1;omega)
     obtain ⟨bo,ka,K3,hcr⟩ : ∃b a k,Z1g (n+1) ([],[]) p.conds 0=(b,a,k):=⟨_,_,_,rfl⟩;rw [hcr] at hcd;have HCD:=hid hcd;have HCR:=hid hcr;clear hst4 hB24 hcd hcr hbW4 hkW4 hb3sz hkD;(go_wp2_with fail);refine HCD.out.mono ?_;rintro e w5 ⟨rfl,hF5,hgo⟩;have hB5:Below w.heap.size w w5:=HB4.out.trans (hF5.below HB4.out.size (fun k hk hn=>hn (Zma hk HB2.out.size)));have HB5:=hid hB5;have HF5:=hid hF5;have HGO:=hid hgo;have hP5:=HP4.out.fr hF5 (fun h=>h hpl2);have p2:w5.cell? ⟨px,2,none⟩=some (.slice A2 p.acts.length c2):=(hP5.cell 2).trans rfl;have hpl5:=hP5.lt;clear hB5 hF5 hgo hP5 p1
     cases bo with
     | false=>
       have HR:=hid (Z7k HS0.out HXL.out HX1.out HCR.out);go_wp2_with fail
       go_ret3
       exact Z4j.none_ HR.out HB5.out
     | true=>
       obtain ⟨hst5,hka,hk1,hk2⟩:=HGO.out rfl;dsimp only at hst5 hka hk1 hk2;(have hka2:ka=(((Z0h (n+1) 0 p.conds).length:Nat):Int):=by rw [hka];omega);have HKA:=hid hka2;(have hka0:(0:Int)≤ka:=by rw [hka2];omega);(have hka1:ka≤16:=by have:=HOK.out.2.1;rw [hka2];omega);have hal:=HOK.out.2.2.2.1;(have hK3:(K3.1.length:Int)≤1000000:=by have:=HOK.out.2.1;simp at hk1;omega);have HST5:=hid hst5;have HR:=hid (Zba HS0.out HXL.out HX1.out HCR.out);clear hst5 hka hk1 hk2 hka2;go_wp2_with fail
       go_loopw [42] (fun s wr=>∃i:Nat,s = .int .i64 i∧i≤p.acts.length∧(∀k,(h:k<p.acts.length)→k<i→actV K3 p.acts[k]=false)∧Below w5.heap.size w5 wr) (fun s wr=>p.acts.length - (intOf s).toNat)
       case atStart=>exact ⟨0,rfl,Nat.zero_le _,fun k _ h=>absurd h (by omega),Zm7 _ _⟩
       case round=>
        obtain ⟨i,rfl,hi,hall,hBr⟩:=hrel;have HALL:=hid hall;have HBr:=hid hBr;have hz5:=HB5.out.size;have hzr:=hBr.size;clear hall hBr p2;by_cases hlt:i<p.acts.length
        · obtain ⟨y,hy⟩ : ∃y,y=p.acts[i]:=⟨_,rfl⟩
          obtain ⟨gg,oo,hAA,_,hgg,_⟩:=Zgj (H2.out.new_ (HB5.out.trans (HBr.out.mono hz5))) hlt;have HY:=hid hy;(have b1:(0:Int)≤(i:Int):=by omega);have b2:(i:Int)<(p.acts.length:Int):=by omega
          have HRG:=hid (show wr.rangeAt gg (oo+i*19) [.string y.id,.string y.attr.var,.int .i64 y.attr.sym.kind,.string y.attr.sym.text,.int .i64 y.attr.sym.n,.int .i64 y.value.op,.string y.value.a.var,.int .i64 y.value.a.sym.kind,.string y.value.a.sym.text,.int .i64 y.value.a.sym.n,.string y.value.b.var,.int .i64 y.value.b.sym.kind,.string y.value.b.sym.text,.int .i64 y.value.b.sym.n,.int .i64 y.pref,.string y.other.var,.int .i64 y.other.sym.kind,.string y.other.sym.text,.int .i64 y.other.sym.n] from fun j v hv=>by
           obtain ⟨g',off',cs,e1,_,_,hr,hc⟩:=(H2.out.new_ (HB5.out.trans (HBr.out.mono hz5))).at_ hlt;rw [hAA] at e1;cases e1;have hr2:cs=ActT.cells p.acts[i]:=hr;subst hr2;rw [← HY.out] at hc
           exact hc j v hv)
          subst hAA;have HTH:=hid (show (wr.alloc (.cells #[.string ⟨#[]⟩,.string ⟨#[]⟩,.int .i64 0,.string ⟨#[]⟩,.int .i64 0,.int .i64 0,.string ⟨#[]⟩,.int .i64 0,.string ⟨#[]⟩,.int .i64 0,.string ⟨#[]⟩,.int .i64 0,.string ⟨#[]⟩,.int .i64 0,.int .i64 0,.string ⟨#[]⟩,.int .i64 0,.string ⟨#[]⟩,.int .i64 0] 96)).there wr.heap.size 0 (#[.string y.id,.string y.attr.var,.int .i64 y.attr.sym.kind,.string y.attr.sym.text,.int .i64 y.attr.sym.n,.int .i64 y.value.op,.string y.value.a.var,.int .i64 y.value.a.sym.kind,.string y.value.a.sym.text,.int .i64 y.value.a.sym.n,.string y.value.b.var,.int .i64 y.value.b.sym.kind,.string y.value.b.sym.text,.int .i64 y.value.b.sym.n,.int .i64 y.pref,.string y.other.var,.int .i64 y.other.sym.kind,.string y.other.sym.text,.int .i64 y.other.sym.n]:Array Value).size from (Blk.new wr 96 #[.string ⟨#[]⟩,.string ⟨#[]⟩,.int .i64 0,.string ⟨#[]⟩,.int .i64 0,.int .i64 0,.string ⟨#[]⟩,.int .i64 0,.string ⟨#[]⟩,.int .i64 0,.string ⟨#[]⟩,.int .i64 0,.string ⟨#[]⟩,.int .i64 0,.int .i64 0,.string ⟨#[]⟩,.int .i64 0,.string ⟨#[]⟩,.int .i64 0]).there);obtain ⟨W6,hW6⟩ : ∃W6,W6=(wr.alloc (.cells #[.string ⟨#[]⟩,.string ⟨#[]⟩,.int .i64 0,.string ⟨#[]⟩,.int .i64 0,.int .i64 0,.string ⟨#[]⟩,.int .i64 0,.string ⟨#[]⟩,.int .i64 0,.string ⟨#[]⟩,.int .i64 0,.string ⟨#[]⟩,.int .i64 0,.int .i64 0,.string ⟨#[]⟩,.int .i64 0,.string ⟨#[]⟩,.int .i64 0] 96)).setCells wr.heap.size 0 [.string y.id,.string y.attr.var,.int .i64 y.attr.sym.kind,.string y.attr.sym.text,.int .i64 y.attr.sym.n,.int .i64 y.value.op,.string y.value.a.var,.int .i64 y.value.a.sym.kind,.string y.value.a.sym.text,.int .i64 y.value.a.sym.n,.string y.value.b.var,.int .i64 y.value.b.sym.kind,.string y.value.b.sym.text,.int .i64 y.value.b.sym.n,.int .i64 y.pref,.string y.other.var,.int .i64 y.other.sym.kind,.string y.other.sym.text,.int .i64 y.other.sym.n]:=⟨_,rfl⟩;have HW6:=hid hW6;(have hRG6:W6.rangeAt wr.heap.size 0 [.string y.id,.string y.attr.var,.int .i64 y.attr.sym.kind,.string y.attr.sym.text,.int .i64 y.attr.sym.n,.int .i64 y.value.op,.string y.value.a.var,.int .i64 y.value.a.sym.kind,.string y.value.a.sym.text,.int .i64 y.value.a.sym.n,.string y.value.b.var,.int .i64 y.value.b.sym.kind,.string y.value.b.sym.text,.int .i64 y.value.b.sym.n,.int .i64 y.pref,.string y.other.var,.int .i64 y.other.sym.kind,.string y.other.sym.text,.int .i64 y.other.sym.n]:=by rw [hW6];exact Zmm _ _ _ _ HTH.out);(have hB6:Below wr.heap.size wr W6:=by rw [hW6];exact Below.setCells' _ _ ((Zm7 _ _).alloc (Zm8 _) _) (Zm8 _));have HB6:=hid hB6;have e1:W6.cell? ⟨wr.heap.size,1,none⟩=some (.string y.attr.var):=(hRG6 1 _ rfl);have e2:W6.cell? ⟨wr.heap.size,2,none⟩=some (.int .i64 y.attr.sym.kind):=(hRG6 2 _ rfl);have e3:W6.cell? ⟨wr.heap.size,3,none⟩=some (.string y.attr.sym.text):=(hRG6 3 _ rfl);have e4:W6.cell? ⟨wr.heap.size,4,none⟩=some (.int .i64 y.attr.sym.n):=(hRG6 4 _ rfl);have e5:W6.cell? ⟨wr.heap.size,5,none⟩=some (.int .i64 y.value.op):=(hRG6 5 _ rfl);have e6:W6.cell? ⟨wr.heap.size,6,none⟩=some (.string y.value.a.var):=(hRG6 6 _ rfl);have e7:W6.cell? ⟨wr.heap.size,7,none⟩=some (.int .i64 y.value.a.sym.kind):=(hRG6 7 _ rfl);have e8:W6.cell? ⟨wr.heap.size,8,none⟩=some (.string y.value.a.sym.text):=(hRG6 8 _ rfl);have e9:W6.cell? ⟨wr.heap.size,9,none⟩=some (.int .i64 y.value.a.sym.n):=(hRG6 9 _ rfl);have e10:W6.cell? ⟨wr.heap.size,10,none⟩=some (.string y.value.b.var):=(hRG6 10 _ rfl);have e11:W6.cell? ⟨wr.heap.size,11,none⟩=some (.int .i64 y.value.b.sym.kind):=(hRG6 11 _ rfl);have e12:W6.cell? ⟨wr.heap.size,12,none⟩=some (.string y.value.b.sym.text):=(hRG6 12 _ rfl);have e13:W6.cell? ⟨wr.heap.size,13,none⟩=some (.int .i64 y.value.b.sym.n):=(hRG6 13 _ rfl);have hlo6:wr.heap.size<W6.heap.size:=Zmj _ _ e1;have HS6:=hid (HST5.out.below (HBr.out.trans (hB6.mono HBr.out.size)));clear hy hW6 hRG6 hB6;cases hla:Z2y K3 y.attr
          · skip
            have hA:=HS6.out.lacks y.attr hK3;rw [hla] at hA;have HA:=hid hA;clear hA;by_cases h0:y.value.op=0
            · have o1:(y.value.op == 0)=true:=by simp [h0]
              (have o2:decide (y.value.op=0)=true:=by simp [h0]);have o3 : ¬¬y.value.op=0:=fun h=>h h0;have HV:=hid (show actV K3 y=false by simp [actV,hla,h0]);clear hla h0
              go_wp2_with (first
               | (with_reducible refine wpList_load_mid rfl 96 _ rfl gg (oo+i*19) rfl _ _ HRG.out Tryz.underlying96 rfl (by kernel_rfl) ?_)
               | ((with_reducible refine wpList_store_mid rfl 96 _ _ rfl wr.heap.size 0 #[.string y.id,.string y.attr.var,.int .i64 y.attr.sym.kind,.string y.attr.sym.text,.int .i64 y.attr.sym.n,.int .i64 y.value.op,.string y.value.a.var,.int .i64 y.value.a.sym.kind,.string y.value.a.sym.text,.int .i64 y.value.a.sym.n,.string y.value.b.var,.int .i64 y.value.b.sym.kind,.string y.value.b.sym.text,.int .i64 y.value.b.sym.n,.int .i64 y.pref,.string y.other.var,.int .i64 y.other.sym.kind,.string y.other.sym.text,.int .i64 y.other.sym.n] rfl rfl HTH.out (by kernel_rfl) (by kernel_rfl) ?_);rw [← HW6.out])
               | ((with_reducible refine HA.out.mono ?_);rintro e w7 ⟨rfl,hb7⟩;obtain ⟨hc7,-⟩:=Z1a hb7;have hz7:=hb7.size;have hlo7:=Zma hlo6 hz7;have HB7:=hid hb7;clear hb7))
              have HBZ:=hid (HBr.out.trans ((HB6.out.trans (HB7.out.mono HB6.out.size)).mono hzr));go_roundw
              case rel=>exact ⟨i+1,by go_num,by omega,fun k hk hki=>by
               by_cases e:k=i
               · subst e;rw [← HY.out];exact HV.out
               · exact HALL.out k hk (by omega),HBZ.out⟩
              case measure=>simp [intOf]<;>omega
            · have o1:(y.value.op == 0)=false:=by simp [h0]
              (have o2:decide (y.value.op=0)=false:=by simp [h0]);cases hlb:Z2y K3 y.value.a
              · skip
                cases hlc:Z2y K3 y.value.b
                · skip
                  have HV:=hid (show actV K3 y=false by simp [actV,hla,h0,hlb,hlc]);clear hla
                  go_wp2_with (first
                   | (with_reducible refine wpList_load_mid rfl 96 _ rfl gg (oo+i*19) rfl _ _ HRG.out Tryz.underlying96 rfl (by kernel_rfl) ?_)
                   | ((with_reducible refine wpList_store_mid rfl 96 _ _ rfl wr.heap.size 0 #[.string y.id,.string y.attr.var,.int .i64 y.attr.sym.kind,.string y.attr.sym.text,.int .i64 y.attr.sym.n,.int .i64 y.value.op,.string y.value.a.var,.int .i64 y.value.a.sym.kind,.string y.value.a.sym.text,.int .i64 y.value.a.sym.n,.string y.value.b.var,.int .i64 y.value.b.sym.kind,.string y.value.b.sym.text,.int .i64 y.value.b.sym.n,.int .i64 y.pref,.string y.other.var,.int .i64 y.other.sym.kind,.string y.other.sym.text,.int .i64 y.other.sym.n] rfl rfl HTH.out (by kernel_rfl) (by kernel_rfl) ?_);rw [← HW6.out])
                   | ((with_reducible refine HA.out.mono ?_);rintro e w7 ⟨rfl,hb7⟩;obtain ⟨hc7,-⟩:=Z1a hb7;have hz7:=hb7.size;have hlo7:=Zma hlo6 hz7;have HB7:=hid hb7;clear hb7))
                  have HS7:=hid (HS6.out.below HB7.out);have hA2:=HS7.out.lacks y.value.a hK3;rw [hlb] at hA2;clear hlb;refine hA2.mono ?_;rintro e w8 ⟨rfl,hb8⟩;obtain ⟨hc8,-⟩:=Z1a hb8;have hz8:=hb8.size;have HB8:=hid hb8;clear hb8 hA2;(go_wp2_with fail);have HS8:=hid (HS7.out.below HB8.out);have hA3:=HS8.out.lacks y.value.b hK3;rw [hlc] at hA3;clear hlc;refine hA3.mono ?_;rintro e w9 ⟨rfl,hb9⟩;have HBZ:=hid (HBr.out.trans ((HB6.out.trans ((HB7.out.trans ((HB8.out.trans (hb9.mono HB8.out.size)).mono HB7.out.size)).mono HB6.out.size)).mono hzr));clear hb9 hA3;(go_wp2_with fail);go_roundw
                  case rel=>exact ⟨i+1,by go_num,by omega,fun k hk hki=>by
                   by_cases e:k=i
                   · subst e;rw [← HY.out];exact HV.out
                   · exact HALL.out k hk (by omega),HBZ.out⟩
                  case measure=>simp [intOf]<;>omega
                · skip
                  have HV:=hid (show actV K3 y=true by simp [actV,hla,h0,hlb,hlc]);clear hla
                  go_wp2_with (first
                   | (with_reducible refine wpList_load_mid rfl 96 _ rfl gg (oo+i*19) rfl _ _ HRG.out Tryz.underlying96 rfl (by kernel_rfl) ?_)
                   | ((with_reducible refine wpList_store_mid rfl 96 _ _ rfl wr.heap.size 0 #[.string y.id,.string y.attr.var,.int .i64 y.attr.sym.kind,.string y.attr.sym.text,.int .i64 y.attr.sym.n,.int .i64 y.value.op,.string y.value.a.var,.int .i64 y.value.a.sym.kind,.string y.value.a.sym.text,.int .i64 y.value.a.sym.n,.string y.value.b.var,.int .i64 y.value.b.sym.kind,.string y.value.b.sym.text,.int .i64 y.value.b.sym.n,.int .i64 y.pref,.string y.other.var,.int .i64 y.other.sym.kind,.string y.other.sym.text,.int .i64 y.other.sym.n] rfl rfl HTH.out (by kernel_rfl) (by kernel_rfl) ?_);rw [← HW6.out])
                   | ((with_reducible refine HA.out.mono ?_);rintro e w7 ⟨rfl,hb7⟩;obtain ⟨hc7,-⟩:=Z1a hb7;have hz7:=hb7.size;have hlo7:=Zma hlo6 hz7;have HB7:=hid hb7;clear hb7))
                  have HS7:=hid (HS6.out.below HB7.out);have hA2:=HS7.out.lacks y.value.a hK3;rw [hlb] at hA2;clear hlb;refine hA2.mono ?_;rintro e w8 ⟨rfl,hb8⟩;obtain ⟨hc8,-⟩:=Z1a hb8;have hz8:=hb8.size;have HB8:=hid hb8;clear hb8 hA2;(go_wp2_with fail);have HS8:=hid (HS7.out.below HB8.out);have hA3:=HS8.out.lacks y.value.b hK3;rw [hlc] at hA3;clear hlc;refine hA3.mono ?_;rintro e w9 ⟨rfl,hb9⟩;have HBZ:=hid (HBr.out.trans ((HB6.out.trans ((HB7.out.trans ((HB8.out.trans (hb9.mono HB8.out.size)).mono HB7.out.size)).mono HB6.out.size)).mono hzr));clear hb9 hA3
                  have hfi:p.acts.findIdx? (actV K3)=some i:=by
                   rw [List.findIdx?_eq_some_iff_getElem];exact ⟨hlt,by rw [← HY.out];exact HV.out,fun j hj=>by rw [HALL.out j (by omega) hj];decide⟩
                  have hR:=HR.out;rw [hfi] at hR;have HR2:=hid hR;have v1:IntKind.i64.wrap (ka+(i:Int))=ka+(i:Int):=Zmh _ (by omega);clear hfi hR;go_wp2_with fail
                  go_ret3
                  exact Z4j.none_ HR2.out (HB5.out.trans (HBZ.out.mono hz5))
              · skip
                have HV:=hid (show actV K3 y=true by simp [actV,hla,h0,hlb]);clear hla
                go_wp2_with (first
                 | (with_reducible refine wpList_load_mid rfl 96 _ rfl gg (oo+i*19) rfl _ _ HRG.out Tryz.underlying96 rfl (by kernel_rfl) ?_)
                 | ((with_reducible refine wpList_store_mid rfl 96 _ _ rfl wr.heap.size 0 #[.string y.id,.string y.attr.var,.int .i64 y.attr.sym.kind,.string y.attr.sym.text,.int .i64 y.attr.sym.n,.int .i64 y.value.op,.string y.value.a.var,.int .i64 y.value.a.sym.kind,.string y.value.a.sym.text,.int .i64 y.value.a.sym.n,.string y.value.b.var,.int .i64 y.value.b.sym.kind,.string y.value.b.sym.text,.int .i64 y.value.b.sym.n,.int .i64 y.pref,.string y.other.var,.int .i64 y.other.sym.kind,.string y.other.sym.text,.int .i64 y.other.sym.n] rfl rfl HTH.out (by kernel_rfl) (by kernel_rfl) ?_);rw [← HW6.out])
                 | ((with_reducible refine HA.out.mono ?_);rintro e w7 ⟨rfl,hb7⟩;obtain ⟨hc7,-⟩:=Z1a hb7;have hz7:=hb7.size;have hlo7:=Zma hlo6 hz7;have HB7:=hid hb7;clear hb7))
                have HS7:=hid (HS6.out.below HB7.out);have hA2:=HS7.out.lacks y.value.a hK3;rw [hlb] at hA2;clear hlb;refine hA2.mono ?_;rintro e w8 ⟨rfl,hb8⟩;have HBZ:=hid (HBr.out.trans ((HB6.out.trans ((HB7.out.trans (hb8.mono HB7.out.size)).mono HB6.out.size)).mono hzr));clear hb8 hA2
                have hfi:p.acts.findIdx? (actV K3)=some i:=by
                 rw [List.findIdx?_eq_some_iff_getElem];exact ⟨hlt,by rw [← HY.out];exact HV.out,fun j hj=>by rw [HALL.out j (by omega) hj];decide⟩
                have hR:=HR.out;rw [hfi] at hR;have HR2:=hid hR;have v1:IntKind.i64.wrap (ka+(i:Int))=ka+(i:Int):=Zmh _ (by omega);clear hfi hR;go_wp2_with fail
                go_ret3
                exact Z4j.none_ HR2.out (HB5.out.trans (HBZ.out.mono hz5))
          · skip
            have hA:=HS6.out.lacks y.attr hK3;rw [hla] at hA;have HA:=hid hA;clear hA;have HV:=hid (show actV K3 y=true by simp [actV,hla]);clear hla
            go_wp2_with (first
             | (with_reducible refine wpList_load_mid rfl 96 _ rfl gg (oo+i*19) rfl _ _ HRG.out Tryz.underlying96 rfl (by kernel_rfl) ?_)
             | ((with_reducible refine wpList_store_mid rfl 96 _ _ rfl wr.heap.size 0 #[.string y.id,.string y.attr.var,.int .i64 y.attr.sym.kind,.string y.attr.sym.text,.int .i64 y.attr.sym.n,.int .i64 y.value.op,.string y.value.a.var,.int .i64 y.value.a.sym.kind,.string y.value.a.sym.text,.int .i64 y.value.a.sym.n,.string y.value.b.var,.int .i64 y.value.b.sym.kind,.string y.value.b.sym.text,.int .i64 y.value.b.sym.n,.int .i64 y.pref,.string y.other.var,.int .i64 y.other.sym.kind,.string y.other.sym.text,.int .i64 y.other.sym.n] rfl rfl HTH.out (by kernel_rfl) (by kernel_rfl) ?_);rw [← HW6.out])
             | ((with_reducible refine HA.out.mono ?_);rintro e w7 ⟨rfl,hb7⟩;have HB7:=hid hb7;clear hb7))
            have HBZ:=hid (HBr.out.trans ((HB6.out.trans (HB7.out.mono HB6.out.size)).mono hzr))
            have hfi:p.acts.findIdx? (actV K3)=some i:=by
             rw [List.findIdx?_eq_some_iff_getElem];exact ⟨hlt,by rw [← HY.out];exact HV.out,fun j hj=>by rw [HALL.out j (by omega) hj];decide⟩
            have hR:=HR.out;rw [hfi] at hR;have HR2:=hid hR;have v1:IntKind.i64.wrap (ka+(i:Int))=ka+(i:Int):=Zmh _ (by omega);clear hfi hR;go_wp2_with fail
            go_ret3
            exact Z4j.none_ HR2.out (HB5.out.trans (HBZ.out.mono hz5))
        · have hie:i=p.acts.length:=by omega
          have hfi:p.acts.findIdx? (actV K3)=none:=by
           rw [List.findIdx?_eq_none_iff];intro x hx;obtain ⟨j,hj,rfl⟩:=List.getElem_of_mem hx;exact HALL.out j hj (by omega)
          have hR:=HR.out;rw [hfi] at hR;have HR2:=hid hR;obtain ⟨σr,Ar,cr,g1,g2,g3,g4⟩:=HST5.out.below HBr.out;have k1:wr.cell? ⟨kb,1,none⟩=some (.slice Ar K3.2.length cr):=(g2.blk.cell 1).trans rfl;have hkr:=g2.blk.lt;have HROW:=hid g2.row;subst hie;clear hfi hR g1 g2 g3 g4;(go_wp2_with fail);go_quiet (fail);go_wp2_with fail
          go_ret3
          unfold Z4j;rw [HR2.out];exact ⟨Ar,cr,rfl,Z04 HROW.out (Below.drewN' (Zm7 _ _) _),HB5.out.trans ((HBr.out.trans (Below.mono (Below.drewN' (Zm7 _ _) _) hzr)).mono hz5)⟩
   · have t1:(x.kind == 1)=false:=by simp [hx1]
     (have t1':decide (x.kind=1)=false:=by simp [hx1]);have HR:=hid (Z7l HS0.out HXL.out hx1);clear hx1;go_wp2_with fail
     go_ret3
     exact Z4j.none_ HR.out HB2.out
 · have s1:(se == 0)=false:=by simp [hs0]
   (have s2:decide (se=0)=false:=by simp [hs0]);have HR:=hid (show Z2b n p=(sa,se,[]) by rw [Z9e (by rw [HSE.out];exact hs0),HSE.out]);clear hs0;go_wp2_with fail
   go_ret3
   exact Z4j.none_ HR.out HB2.out
end
section
open Go.RowKit Go.Shelf
theorem Zit {D:Nat→Prop} (p:Z3y) (n:Nat) (A1 A2:Option Addr) (c1 c2:Nat) (w:World) (h1:RowR (Z05 n) D w A1 c1 p.conds) (h2:RowR Z19 D w A2 c2 p.acts) (hD : ∀k,D k→k<w.heap.size) (hF:(Z0h n 0 p.conds).length≤1000000000) (hn:n≤1000000000) :
 Calls Tryz.prog 41 #[.agg #[.string p.name,.slice A1 p.conds.length c1,.slice A2 p.acts.length c2]] w fun e W'=>e = .returned (.tuple #[.int .i64 (Z2b n p).1,.int .i64 (Z2b n p).2.1])∧Below w.heap.size w W':=by
 have hb:Below w.heap.size w (w.alloc (.cells #[.string p.name,.slice A1 p.conds.length c1,.slice A2 p.acts.length c2] 25)):=(Zm7 _ _).alloc (Zm8 _) _;have HC:=hid (Zfi p n A1 A2 c1 c2 _ (h1.new_ hb) (h2.new_ hb) (fun k hk=>Zma (hD k hk) hb.size) hF hn);have HB:=hid hb;clear h1 h2 hD hF hn hb;go_enter Tryz.func41,Tryz.ntmps41;(go_wp2_with fail);refine HC.out.mono ?_;rintro e w2 ⟨A,c,rfl,-,hb2⟩;have HB2:=hid (HB.out.trans (hb2.mono HB.out.size));clear hb2;(go_wp2_with fail);go_ret2;exact ⟨rfl,HB2.out⟩
end
end Go.Proofs.YtfidcfjcmlgkbaaGreat
