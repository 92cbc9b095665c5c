/-
  Texts put together: Known6, Shape5, Shape2, Shape6, Known7, Known8.
-/
import Derived.Test.YtcnnofgaifcgaaaGreatPTi
namespace Go.Proofs.YtcnnofgaifcgaaaGreat
set_option maxRecDepth 100000
set_option maxHeartbeats 32000000
set_option linter.unusedSimpArgs false
section
open Go.RowKit Go.Shelf
theorem Sets.more {α:Type}{tSet tE size:Nat}{cells:α→List Value}{cmp:α→α→Int}{D D2:Nat→Prop}{w:World}{S:Nat→Option (List α)}{σ:Nat→St}(h:Sets tSet tE size cells cmp D w S σ) (hD :∀q,D2 q→D q∨(Off q S σ∧q<w.heap.size)):Sets tSet tE size cells cmp D2 w S σ:=
 ⟨h.at_,h.srt,fun b l hb=>⟨fun hd=>(hD b hd).elim (h.o b l hb).1 (fun ho=>(ho.1 b l hb).1 rfl),fun hs a ha hd=>(hD _ hd).elim (fun hd=>(h.o b l hb).2 hs a ha hd) (fun ho=>(ho.1 b l hb).2 a ha rfl)⟩,h.apart,fun k hk=>(hD k hk).elim (h.low k) (·.2)⟩
theorem Sets.drop_ {α:Type}{tSet tE size:Nat}{cells:α→List Value}{cmp:α→α→Int}{D:Nat→Prop}{w:World}{S:Nat→Option (List α)}{σ:Nat→St}{k:Nat}{m:List α}(h:Sets tSet tE size cells cmp D w (upd S k (some m)) σ) (hk:S k=none):Sets tSet tE size cells cmp D w S σ:=by
 have Vw :∀b l,S b=some l→upd S k (some m) b=some l:=fun b l hb=>by
  rw [Z28 _ _ (fun e=>by rw [e,hk] at hb;cases hb)];exact hb
 exact ⟨fun b l hb=>h.at_ b l (Vw b l hb),fun b l hb=>h.srt b l (Vw b l hb),fun b l hb=>h.o b l (Vw b l hb),fun b l b' l' hb hb'=>h.apart b l b' l' (Vw b l hb) (Vw b' l' hb'),h.low⟩
def Zrt (D:Nat→Prop) (W:World) (S:Nat→Option (List Name)) (kb sb:Nat) (K:Kn) (X:World) (e:Ending) (w5:World):Prop:=
 ∃kb' sb' D2 S2,e = .returned (.pointer (some ⟨kb',0,none⟩))∧KSt D2 w5 S2 kb' sb' (K.1,[]) w5∧¬D2 kb'∧(∀k,D k→D2 k)∧(∀b t cs,Blk X b t cs→t≠296→Blk w5 b t cs)∧Fr (fun j=>¬D j) X w5∧(∀K2 w6,KSt D2 w5 S2 kb' sb' K2 w6→KSt D W S kb sb K w6)
theorem Zhk {D:Nat→Prop}{W X:World}{S:Nat→Option (List Name)}{kb sb:Nat}{K:Kn}(h:KSt D W S kb sb K X):Calls Tryz.prog 168 #[.pointer (some ⟨kb,0,none⟩)] X (Zrt D W S kb sb K X):=by
 obtain ⟨σ',A',c',h1,h2,h3,h4⟩:=h;refine (Zlb h1 h2).mono ?_;rintro e w5 ⟨kb',sb',rfl,hk,hs,⟨σ2,g1⟩,g2,g3,g4⟩;have Sr:=h1.at_ sb K.1 (Z19 _ _ _);have De:Blk w5 kb _ _:=h2.blk.fr g4 (fun e=>h2.blk.ne_ Sr.blk Yc e);have Ra:=Z0s h2.row g4 (fun g hg e=>Z01 h2.row Sr.blk Yc (by rw [hg,e]));have rs:=Zgj Ra
 have o8:upd S sb (some K.1) sb'=none:=by
  cases hx:upd S sb (some K.1) sb' with
  | none=>rfl
  | some m=>exact absurd (h1.lt hx) Ya
 refine ⟨kb',sb',fun k=>D k∨k=kb∨(∃a,A'=some a∧a.block=k),upd S sb (some K.1),rfl,?_,?_,fun k hk=>.inl hk,?_,g3,?_⟩
 · refine ⟨σ2,none,0,Sets.more g1 (fun q hq=>?_),g2,AIn.none_ _,Fr.refl _ _⟩
   rcases hq with hq|rfl|⟨a,rfl,rfl⟩
   · exact .inl hq
   · exact .inr ⟨g1.off_of De Yc Yc,De.lt⟩
   · refine .inr ⟨?_,rs a rfl⟩
     rcases Ra.2 with ⟨hv,_⟩|⟨g,cap,cur,hv,_,hg,_⟩
     · simp at hv
     · simp only [Value.slice.injEq,Option.some.injEq] at hv
       rw [hv.1];exact g1.off_of (t:=9) hg Yc Yc
 · rintro (hd|rfl|⟨a,rfl,rfl⟩)
   · have:=h1.low _ hd;omega
   · have:=h2.blk.lt;omega
   · have:=Zgj h2.row a rfl;omega
 · intro b t cs hb Xf
   exact hb.fr g4 (fun e=>hb.ne_ Sr.blk Xf e)
 · rintro K2 w6 ⟨σ3,A3,c3,k1,k2,k3,k4⟩
   refine ⟨σ3,A',c',(k1.drop_ o8).weaken (fun k hk=>.inl hk),⟨De.fr k4 (fun hn=>hn (.inr (.inl rfl))),Z0s Ra k4 (fun g hg hn=>hn (.inr (.inr ?_))),Z19 _ _ _⟩,h3,(h4.trans g3).trans (k4.mono (fun j _ hj hd=>hj (.inl hd)))⟩;rcases A' with _|a
   · simp [Value.ownBlock] at hg
   · exact ⟨a,rfl,by simpa [Value.ownBlock] using hg⟩
theorem Z7m (n:Nat) (k:Kn) (c:Z0a) (l:List Z0a) (a:Int):Z21 (n+1) k (c :: l) a=if c.kind=3 then
 (match Z21 n (k.1,[]) c.conds (a+1) with
   | (true,a2,_)=>Z21 (n+1) k l a2
   | (false,a2,_)=>(false,a2,k))
 else
  (match oneK (if c.kind=1 then k else (k.1,[])) c with
    | (true,k2)=>Z21 (n+1) (if c.kind=1 then k2 else k) l (a+1)
    | (false,_)=>(false,a,k)):=by rw [Z21]<;>rfl
theorem Zaz (n:Nat) (k:Kn) (a:Int):Z21 n k [] a=(true,a,k):=by
 cases n<;>rw [Z21]
theorem Zdg (n d:Nat):Z17 n d [] = []:=by cases n<;>rfl
def Zcw (x:Nat×Z0a):Prop:=x.2.attr.length≤4∧x.2.value.length≤4∧(x.2.kind≠3→x.2.conds = [])
def Z7h (D:Nat→Prop) (W:World) (S:Nat→Option (List Name)) (kb sb:Nat) (K:Kn) (at_ m:Nat) (r:Bool×Int×Kn) (e:Ending) (W':World):Prop:=
 e = .returned (.tuple #[.int .i64 r.2.1,.bool r.1])∧Fr (fun j=>¬D j) W W'∧(r.1=true→KSt D W S kb sb r.2.2 W'∧r.2.1=((at_+m:Nat):Int)∧r.2.2.1.length≤K.1.length+9*m∧r.2.2.2.length≤K.2.length+9*m)
theorem Zl9 :∀(n d at_:Nat) (D:Nat→Prop) (W:World) (S:Nat→Option (List Name)) (kb sb:Nat) (K:Kn) (A:Option Addr) (c:Nat) (l:List Z0a),KSt D W S kb sb K W→¬D kb→RowR (Z09 n) D W A c l→(∀x∈Z17 n d l,Zcw x)→K.1.length+9*(Z17 n d l).length≤900000→K.2.length+9*(Z17 n d l).length≤900000→at_+(Z17 n d l).length≤1000000000→
 Calls Tryz.prog 140 #[.pointer (some ⟨kb,0,none⟩),.slice A l.length c,.int .i64 (at_:Int)] W (Z7h D W S kb sb K at_ (Z17 n d l).length (Z21 n K l at_)):=by
 intro n
 induction n with
 | zero=>
   intro d at_ D W S kb sb K A c l Ss nh h Ib hl1 Ds zj
   have I5:l = []:=by
    cases l with
    | nil=>rfl
    | cons x l=>
      exact Yq0
   subst I5;have H0:=hU Ss;have HN:=hU (Zaz 0 K at_);clear h Ss Ib nh;go_enter Tryz.func140,Tryz.ntmps140;go_wp2_with fail
   go_loopw [2,15] (fun a s wr=>s = .int .i64 0∧a = .int .i64 (at_:Int)∧wr=W) (fun a s wr=>0)
   case atStart=>exact ⟨rfl,rfl,rfl⟩
   case round=>
    obtain ⟨rfl,rfl,rfl⟩:=hrel;go_wp2_with fail;go_ret2;unfold Z7h;rw [HN.o];exact ⟨rfl,Fr.refl _ _,fun _=>⟨H0.o,YHa,YHa,YHa⟩⟩
 | succ n ih=>
   intro d at_ D W S kb sb K A c l Ss nh h Ib hl1 Ds zj;have H0:=hU Ss;have fv:=hU nh;have HR:=hU h;have Lx:=hU Ib;have IH:=hU ih;have hlc:=h.cap;obtain ⟨tot,ke⟩:∃tot,tot=(Z17 (n+1) d l).length:=⟨_,rfl⟩;rw [←ke] at hl1 Ds zj ⊢;have kg:=hU ke;clear h Ss Ib nh ih ke;go_enter Tryz.func140,Tryz.ntmps140;go_wp2_with fail
   go_loopw [2,15] (fun a s wr=>∃(i m:Nat) (K':Kn),s = .int .i64 i∧i≤l.length∧m=(Z17 (n+1) d (l.take i)).length∧a = .int .i64 ((at_+m:Nat):Int)∧Z21 (n+1) K l at_=Z21 (n+1) K' (l.drop i) ((at_+m:Nat):Int)∧KSt D W S kb sb K' wr∧K'.1.length≤K.1.length+9*m∧K'.2.length≤K.2.length+9*m) (fun a s wr=>l.length - (intOf s).toNat)
   case atStart=>exact ⟨0,0,K,rfl,Nat.zero_le _,YHa,rfl,rfl,H0.o,Zsu _,Zsu _⟩
   case round=>
    obtain ⟨i,m,K',rfl,hi,hm,rfl,Fo,Ss,zi,L5⟩:=hrel;have HEQ:=hU Fo;have Ac:=hU Ss;have HM:=hU hm;clear Fo Ss hm;by_cases hlt:i<l.length
    · obtain ⟨y,hy⟩:∃y,y=l[i]:=⟨_,rfl⟩
      obtain ⟨k,hk⟩:∃k,k=at_+m:=⟨_,rfl⟩;obtain ⟨mi,hmi⟩:∃mi,mi=(Z17 n (d+1) y.conds).length:=⟨_,rfl⟩;have F3:=Zb0 n d l i hlt;rw [←hy] at F3;have du:=hU (show (Z17 (n+1) d (l.take (i+1))).length=m+1+mi by rw [F3,Ztd,Ztg,←HM.o,←hmi];omega)
      have hle:m+1+mi≤tot:=by
       rw [←du.o,kg.o]
       conv=>rhs;rw [←List.take_append_drop (i+1) l,Z1z,Zta,Ztd]
       rw [Z1z];omega
      have Rh :∀x,x∈(d,y) :: Z17 n (d+1) y.conds→x∈Z17 (n+1) d l:=by
       intro x hx;rw [Z1z];exact List.mem_flatMap.2 ⟨y,by rw [hy];exact Ztf hlt,hx⟩
      have hsy:Zcw (d,y):=Lx.o _ (Rh _ Zuj);have Tn:=hU (show ∀x∈Z17 n (d+1) y.conds,Zcw x from fun x hx=>Lx.o _ (Rh _ (Zug _ hx)));obtain ⟨hsy1,hsy2,Di⟩:=hsy;dsimp only at hsy1 hsy2 Di;have HMI:=hU (show y.kind≠3→mi=0 from fun hk=>by rw [hmi,Di hk,Zdg];rfl);clear Di;have Tl:=Zh3 hlt;rw [←hy] at Tl;have Ji:=hU (show Z21 (n+1) K l at_=Z21 (n+1) K' (y :: l.drop (i+1)) (k:Int) by rw [HEQ.o,Tl,hk]);obtain ⟨g,off,A1,c1,A2,c2,A3,c3,rfl,_,hg,q0,q1,q2,q3,q4,q5,q6,r1,r2,r3⟩:=Z31 (HR.o.fr Ac.o.fr_ (fun j hd hn=>hn hd)) hlt;rw [←hy] at q0 q1 q2 q3 q4 q5 q6 r1 r2 r3;have Nq:=hU r1;have O8:=hU r2;have ll:=hU r3;have hn3:=r3.cap;refine Yyx ?_;intro b1 b2;have hzr:=Ac.o.fr_.size;have v1:IntKind.i64.wrap ((k:Int)+1)=((k+1:Nat):Int):=YL9;have HK:=hU hk;rw [←hk];have eb:=hU hmi;clear hy F3 Rh Tl r1 r2 r3 hk hmi;by_cases kd1:y.kind=1
      · have t1:(y.kind == 1)=true:=by simp [kd1]
        (have t1':decide (y.kind=1)=true:=by simp [kd1]);(have t3:(y.kind == 3)=false:=by simp [kd1]);(have Tu:decide (y.kind=3)=false:=by simp [kd1]);obtain ⟨bo,ko,ho⟩:∃b k,oneK K' y=(b,k):=⟨_,_,rfl⟩
        have nt:=hU (show Z21 (n+1) K l at_=if bo=true then Z21 (n+1) ko (l.drop (i+1)) ((k:Int)+1) else (false,(k:Int),K') by
         rw [Ji.o,Z7m,if_neg (by rw [kd1];decide)];simp only [if_pos kd1,ho]
         cases bo<;>rfl)
        have Rq:=hU (HMI.o (by rw [kd1];decide));clear kd1;go_wp2_with fail;refine Yhe ?_;intro X Uf T7;have R5:=Zld y (A3:=A3) (c3:=c3) (Ac.o.below Uf.o).prot0 fv.o (Nq.o.new_ Uf.o) (O8.o.new_ Uf.o) Ya Ya;rw [ho] at R5;refine R5.mono ?_;rintro e w6 ⟨rfl,xr,lz,xi⟩;have Sa:=hU (xr.join (Ac.o.below Uf.o));dsimp only at lz xi;clear R5 ho xr q0 q1 q2 q3 q4 q5 q6
        cases bo with
        | false=>
          go_wp2_with fail;go_ret2;unfold Z7h;rw [nt.o,if_neg Yc];exact ⟨rfl,Sa.o.fr_,fun h=>YZt⟩
        | true=>
          go_wp2_with fail;go_roundw
          case rel=>
           (have Xd:((at_+(m+1+mi):Nat):Int)=(k:Int)+1:=by have:=Rq.o;have:=HK.o;omega);refine ⟨i+1,m+1+mi,ko,Yn,Ya,du.o.symm,by rw [Xd],by rw [Xd,nt.o];simp,Sa.o,Ya,Ya⟩
          case measure=>simp [intOf]<;>omega
      · have t1:(y.kind == 1)=false:=by simp [kd1]
        (have t1':decide (y.kind=1)=false:=by simp [kd1]);by_cases kd3:y.kind=3
        · have t3:(y.kind == 3)=true:=by simp [kd3]
          (have Tu:decide (y.kind=3)=true:=by simp [kd3]);obtain ⟨⟨bo,ao,ko⟩,ho⟩:∃r,Z21 n (K'.1,[]) y.conds ((k+1:Nat):Int)=r:=⟨_,rfl⟩
          have nt:=hU (show Z21 (n+1) K l at_=if bo=true then Z21 (n+1) K' (l.drop (i+1)) ao else (false,ao,K') by
           rw [Ji.o,Z7m,if_pos kd3,show ((k:Int)+1)=((k+1:Nat):Int) from Ya,ho]
           cases bo<;>rfl)
          have T3:=hU t3;have T3':=hU Tu;clear kd1 kd3 t3 Tu;go_wp2_with fail;refine Yhe ?_;intro X Uf T7;refine (Zhk (Ac.o.below Uf.o)).mono ?_;rintro e w5 ⟨kb',sb',D2,S2,rfl,bj,gu,Ro,P2,Pa,od⟩;have Ut:=hU ((Ac.o.below Uf.o).fr_.trans Pa);have mn:=hU Ro;have Gc:=P2 _ _ _ T7.o Yc;have HB5:=hU Gc;have Fp:=hU od;have hg5:=Gc.lt;have x0:w5.cell? ⟨wr.heap.size,0,none⟩=some (.int .i64 y.kind):=(Gc.cell 0).trans rfl;refine Y7g ?_;intro x6;have Ay:=IH.o (d+1) (k+1) D2 w5 S2 kb' sb' (K'.1,[]) A3 c3 y.conds bj gu (((ll.o.new_ Uf.o).fr Pa (fun k hk hn=>hn hk)).weaken Ro) Tn.o (by have:=eb.o;dsimp only;omega) (by have:=eb.o;simp;omega) (by have:=eb.o;have:=HK.o;omega);rw [ho] at Ay;have HIH:=hU Ay;clear Ay bj gu Ro P2 Pa od Gc ho q0 q1 q2 q3 q4 q5 q6;have t3:=T3.o;have Tu:=T3'.o;go_wp2_with fail;refine HIH.o.mono ?_;rintro e w6 ⟨rfl,Mq,Eq⟩
          cases bo with
          | false=>
            have ew:=hU Mq;clear Eq Mq x0 x6;go_wp2_with fail;go_ret2;unfold Z7h;rw [nt.o,if_neg Yc];exact ⟨rfl,Ut.o.trans (ew.o.mono (fun j _ hj hd=>hj (mn.o j hd))),fun h=>YZt⟩
          | true=>
            obtain ⟨xr,ha6,lz,xi⟩:=Eq rfl;have Sa:=hU (Fp.o _ _ xr);dsimp only at ha6;have HA6:=hU ha6;clear Eq Mq x0 x6 xr ha6 lz xi;go_wp2_with fail;go_roundw
            case rel=>
             (have Xd:ao=((at_+(m+1+mi):Nat):Int):=by have:=HA6.o;have:=HK.o;have:=eb.o;omega);refine ⟨i+1,m+1+mi,K',Yn,Ya,du.o.symm,by rw [Xd],by rw [nt.o,Xd];simp,Sa.o,Ya,Ya⟩
            case measure=>simp [intOf]<;>omega
        · have t3:(y.kind == 3)=false:=by simp [kd3]
          (have Tu:decide (y.kind=3)=false:=by simp [kd3]);obtain ⟨bo,ko,ho⟩:∃b k,oneK (K'.1,[]) y=(b,k):=⟨_,_,rfl⟩
          have nt:=hU (show Z21 (n+1) K l at_=if bo=true then Z21 (n+1) K' (l.drop (i+1)) ((k:Int)+1) else (false,(k:Int),K') by
           rw [Ji.o,Z7m,if_neg kd3];simp only [if_neg kd1,ho]
           cases bo<;>rfl)
          have Rq:=hU (HMI.o kd3);have T3:=hU t3;have T3':=hU Tu;clear kd1 kd3 t3 Tu;go_wp2_with fail;refine Yhe ?_;intro X Uf T7;refine (Zhk (Ac.o.below Uf.o)).mono ?_;rintro e w5 ⟨kb',sb',D2,S2,rfl,bj,gu,Ro,P2,Pa,od⟩;have Ut:=hU ((Ac.o.below Uf.o).fr_.trans Pa);have mn:=hU Ro;have Gc:=P2 _ _ _ T7.o Yc;have Fp:=hU od;have hg5:=Gc.lt;have x0:w5.cell? ⟨wr.heap.size,0,none⟩=some (.int .i64 y.kind):=(Gc.cell 0).trans rfl;have x1:w5.cell? ⟨wr.heap.size,1,none⟩=some (.bool y.goal):=(Gc.cell 1).trans rfl;have x2:w5.cell? ⟨wr.heap.size,2,none⟩=some (.string y.id):=(Gc.cell 2).trans rfl;have x3:w5.cell? ⟨wr.heap.size,3,none⟩=some (.slice A1 y.attr.length c1):=(Gc.cell 3).trans rfl;have x4:w5.cell? ⟨wr.heap.size,4,none⟩=some (.slice A2 y.value.length c2):=(Gc.cell 4).trans rfl;have x5:w5.cell? ⟨wr.heap.size,5,none⟩=some (.bool y.acc):=(Gc.cell 5).trans rfl;refine Y7g ?_;intro x6;have R5:=Zld y (A3:=A3) (c3:=c3) bj gu (((Nq.o.new_ Uf.o).fr Pa (fun k hk hn=>hn hk)).weaken Ro) (((O8.o.new_ Uf.o).fr Pa (fun k hk hn=>hn hk)).weaken Ro) Yg (by dsimp only;simp;omega);rw [ho] at R5;have Sh:=hU R5;clear R5 bj gu Ro P2 Pa od Gc ho q0 q1 q2 q3 q4 q5 q6;have t3:=T3.o;have Tu:=T3'.o;go_wp2_with fail;refine Sh.o.mono ?_;rintro e w6 ⟨rfl,xr,-,-⟩;have Sa:=hU xr;clear xr x0 x1 x2 x3 x4 x5 x6
          cases bo with
          | false=>
            go_wp2_with fail;go_ret2;unfold Z7h;rw [nt.o,if_neg Yc];exact ⟨rfl,Ut.o.trans (Sa.o.fr_.mono (fun j _ hj hd=>hj (mn.o j hd))),fun h=>YZt⟩
          | true=>
            go_wp2_with fail;go_roundw
            case rel=>
             (have Xd:((at_+(m+1+mi):Nat):Int)=(k:Int)+1:=by have:=Rq.o;have:=HK.o;omega);refine ⟨i+1,m+1+mi,K',Yn,Ya,du.o.symm,by rw [Xd],by rw [Xd,nt.o];simp,Fp.o _ _ Sa.o,Ya,Ya⟩
            case measure=>simp [intOf]<;>omega
    · have Np:i=l.length:=by omega
      subst Np;rw [Ztc,←kg.o] at HM;rw [Zuc,Zaz] at HEQ;have hm:=HM.o;subst hm;go_wp2_with fail;go_ret2;unfold Z7h;rw [HEQ.o];exact ⟨rfl,Ac.o.fr_,fun _=>⟨Ac.o,rfl,zi,L5⟩⟩
def Inv1 (bn:Nat) (k:Nat) (w:World):Prop:=Blk w bn 3 #[.int .i64 (k:Int)]∧k≤16
def Zsm (bn:Nat) (F:List (Nat×Z0a)) (w:World):Prop:=Blk w bn 3 #[.int .i64 17]∧16<F.length
theorem yld1 {D:Nat→Prop}(bn:Nat) (hD :¬D bn) (F:List (Nat×Z0a)):Yld 160 [.pointer (some ⟨bn,0,none⟩)] D (· = bn) F (Inv1 bn) (Zsm bn F):=by
 refine ⟨YX8,?_,fun j hj e=>hD (e ▸ hj),fun k w w' h hb=>⟨h.1.new_ hb,h.2⟩,fun w w' h hb=>⟨h.1.new_ hb,h.2⟩⟩;intro k hk w A1 A2 A3 c1 c2 c3 hI _ _ _;obtain ⟨x,hx⟩:∃x,x=F[k].2:=⟨_,rfl⟩;obtain ⟨d,hd⟩:∃d,d=F[k].1:=⟨_,rfl⟩;rw [←hx,←hd];have HI:=hU hI;have s0:w.cell? ⟨bn,0,none⟩=some (.int .i64 (k:Int)):=(hI.1.cell 0).trans rfl;have f0:=hI.1.frozen 0;have hl:=hI.1.lt;have hk16:=hI.2;have v1:IntKind.i64.wrap ((k:Int)+1)=(k:Int)+1:=Zt8 _ Ya;clear hI hx hd;show Calls Tryz.prog 160 #[_,_,_,_] w _;by_cases h16:k+1≤16
 · have t1:decide ((k:Int)+1≤16)=true:=Zt9 Ya
   go_enter Tryz.func160,Tryz.ntmps160;go_wp2_with fail;go_ret;refine ⟨true,rfl,fun _=>⟨?_,h16⟩,(fun h=>YZt),((Fr.refl (· = bn) w).setCell (p:=⟨bn,0,none⟩) (.inl rfl) _).alloc _⟩;exact (HI.o.1.set_ 0 (.int .i64 ((k:Int)+1))).alloc _
 · have t1:decide ((k:Int)+1≤16)=false:=Zsx Ya
   have B5:(k:Int)+1=17:=Ya;have HK:=hU B5;clear B5;go_enter Tryz.func160,Tryz.ntmps160;go_wp2_with fail;go_ret;refine ⟨false,rfl,(fun h=>YZt),fun _=>?_,((Fr.refl (· = bn) w).setCell (p:=⟨bn,0,none⟩) (.inl rfl) _).alloc _⟩;rw [HK.o];exact ⟨(HI.o.1.set_ 0 (.int .i64 17)).alloc _,by have:=HK.o;omega⟩
def Inv2 (be bp:Nat) (F:List (Nat×Z0a)) (k:Nat) (w:World):Prop:=Blk w be 184 #[.int .i64 0]∧Blk w bp 3 #[.int .i64 (-1)]∧∀j,(h:j<F.length)→j<k→Z1l F[j].2 F[j].1=0
def Zsn (be bp:Nat) (F:List (Nat×Z0a)) (w:World):Prop:=∃k,∃h:k<F.length,Blk w be 184 #[.int .i64 (Z1l F[k].2 F[k].1)]∧Blk w bp 3 #[.int .i64 (k:Int)]∧Z1l F[k].2 F[k].1≠0∧∀j,(h:j<F.length)→j<k→Z1l F[j].2 F[j].1=0
theorem yld2 {D:Nat→Prop}(be bp:Nat) (hD1 :¬D be) (hD2 :¬D bp) (hne:be≠bp) (F:List (Nat×Z0a)):Yld 161 [.pointer (some ⟨be,0,none⟩),.pointer (some ⟨bp,0,none⟩)] D (fun j=>j=be∨j=bp) F (Inv2 be bp F) (Zsn be bp F):=by
 refine ⟨YX8,?_,fun j hj e=>e.elim (fun e=>hD1 (e ▸ hj)) (fun e=>hD2 (e ▸ hj)),fun k w w' h hb=>⟨h.1.new_ hb,h.2.1.new_ hb,h.2.2⟩,fun w w' ⟨k,h,h1,h2,h3⟩ hb=>⟨k,h,h1.new_ hb,h2.new_ hb,h3⟩⟩;intro k hk w A1 A2 A3 c1 c2 c3 hI hr1 Gz hn3;obtain ⟨x,hx⟩:∃x,x=F[k].2:=⟨_,rfl⟩;obtain ⟨d,hd⟩:∃d,d=F[k].1:=⟨_,rfl⟩;rw [←hx] at hr1 Gz hn3;rw [←hx,←hd];have HI:=hU hI;have HX:=hU (show Z1l F[k].2 F[k].1=Z1l x d by rw [hx,hd]);have Nq:=hU hr1;have O8:=hU Gz;clear hI hx hd hr1 Gz;show Calls Tryz.prog 161 #[_,_,_,_,_] w _;go_enter Tryz.func161,Tryz.ntmps161;go_wp2_with fail;obtain ⟨X,hX⟩:∃X,X=w.alloc (.cells (Q0r x A1 c1 A2 c2 A3 c3) 77):=⟨_,rfl⟩;rw [←hX];have Ol:Below w.heap.size w X:=YHw;have Uf:=hU Ol;clear hX Ol;refine (Zqt x d A1 A2 A3 c1 c2 c3 X (Nq.o.new_ Uf.o) (O8.o.new_ Uf.o) hn3).mono ?_;rintro e w5 ⟨rfl,ww⟩;have Xp:=hU (Uf.o.trans (ww.mono Uf.o.size));have hE:=HI.o.1.new_ Xp.o;have hP:=HI.o.2.1.new_ Xp.o;have s0:w5.cell? ⟨be,0,none⟩=some (.int .i64 0):=(hE.cell 0).trans rfl;have s1:w5.cell? ⟨bp,0,none⟩=some (.int .i64 (-1)):=(hP.cell 0).trans rfl;have f0:=hE.frozen 0;have f1:=hP.frozen 0;have hl0:=hE.lt;have hl1:=hP.lt;have HE:=hU hE;have HP:=hU hP;obtain ⟨z,hz⟩:∃z,z=Z1l x d:=⟨_,rfl⟩;rw [←hz];have HZ:=hU hz;clear ww hE hP hz;by_cases h0:z=0
 · subst h0
   go_wp2_with fail;go_ret;refine ⟨true,rfl,fun _=>⟨HE.o.set_ 0 _,HP.o.far (p:=⟨be,0,none⟩) (Ne.symm hne) _,fun j hj hjk=>?_⟩,(fun h=>YZt),(Fr.of_new Xp.o).setCell (p:=⟨be,0,none⟩) (.inl (.inl rfl)) _⟩;by_cases e:j=k
   · subst e;rw [HX.o,←HZ.o]
   · exact HI.o.2.2 j hj Ya
 · have t1:(z == 0)=false:=by simp [h0]
   (have t2:decide (z=0)=false:=by simp [h0]);have HN0:=hU h0;clear h0;go_wp2_with fail;go_ret;refine ⟨false,rfl,(fun h=>YZt),fun _=>⟨k,hk,?_,?_,?_,HI.o.2.2⟩,((Fr.of_new Xp.o).setCell (p:=⟨be,0,none⟩) (.inl (.inl rfl)) _).setCell (p:=⟨bp,0,none⟩) (.inl (.inr rfl)) _⟩
   · rw [HX.o,←HZ.o]
     exact (HE.o.set_ 0 _).far (p:=⟨bp,0,none⟩) hne _
   · exact (HP.o.far (p:=⟨be,0,none⟩) (Ne.symm hne) _).set_ 0 _
   · rw [HX.o,←HZ.o];exact HN0.o
theorem Zs2 (a:ActT) (w:World):Calls Tryz.prog 163 #[.agg (Q0f a)] w fun e w'=>e = .returned (.bool (actB a))∧Below w.heap.size w w':=by
 by_cases c0:Z1t a.id=false;have t0:=c0;have HR:=hU (show actB a=false from YHd);clear c0;rotate_left 1;by_cases c1:Z4z a.attr=false;have t0:Z1t a.id=true:=YIm;have t1:=c1;have HR:=hU (show actB a=false from YHd);clear c0 c1;rotate_left 1;by_cases c2:Z5k a.value=false;have t0:Z1t a.id=true:=YIm;have t1:Z4z a.attr=true:=YK8;have t2:=c2;have HR:=hU (show actB a=false from YHd);clear c0 c1 c2;rotate_left 1;by_cases c3:a.pref<1;have t0:Z1t a.id=true:=YIm;have t1:Z4z a.attr=true:=YK8;have t2:Z5k a.value=true:=YVa;have t3:decide (a.pref<1)=true:=Yl;have HR:=hU (show actB a=false from YHd);clear c0 c1 c2 c3;rotate_left 1;by_cases c4:10<a.pref;refine Y1a ?_;intro t0 t1 t2 t3;have t4:decide (10<a.pref)=true:=Yl;have HR:=hU (show actB a=false from YHd);clear c0 c1 c2 c3 c4;rotate_left 1;by_cases c5:Zeb a.pref=true;refine Y1a ?_;intro t0 t1 t2 t3;have t4:decide (10<a.pref)=false:=Yk
 have t5:=c5;have HR:=hU (show actB a=Z4z a.other from YHd);clear c0 c1 c2 c3 c4 c5;rotate_left 1;refine Y1a ?_;intro t0 t1 t2 t3;have t4:decide (10<a.pref)=false:=Yk;(have t5:Zeb a.pref=false:=by simpa using c5);have HR:=hU (show actB a=Z91 a.other from YHd);clear c0 c1 c2 c3 c4 c5
 all_goals
  go_enter Tryz.func163,Tryz.ntmps163;go_upto_region 1 with fail;obtain ⟨W1,Wo⟩:∃W1,W1=w.alloc (.cells (Q0f a) 181):=⟨_,rfl⟩;rw [←Wo];have D8:Blk W1 w.heap.size 181 (Q0f a):=YBf;refine Ywp ?_;intro HB;have e0:W1.cell? ⟨w.heap.size,0,none⟩=some (.string a.id):=(D8.cell 0).trans rfl;have e1:W1.cell? ⟨w.heap.size,1,none⟩=some (.string a.attr.var):=(D8.cell 1).trans rfl;have e2:W1.cell? ⟨w.heap.size,2,none⟩=some (.int .i64 a.attr.sym.kind):=(D8.cell 2).trans rfl;have e3:W1.cell? ⟨w.heap.size,3,none⟩=some (.string a.attr.sym.text):=(D8.cell 3).trans rfl;have e4:W1.cell? ⟨w.heap.size,4,none⟩=some (.int .i64 a.attr.sym.n):=(D8.cell 4).trans rfl;have e5:W1.cell? ⟨w.heap.size,5,none⟩=some (.int .i64 a.value.op):=(D8.cell 5).trans rfl;have e6:W1.cell? ⟨w.heap.size,6,none⟩=some (.string a.value.a.var):=(D8.cell 6).trans rfl;have e7:W1.cell? ⟨w.heap.size,7,none⟩=some (.int .i64 a.value.a.sym.kind):=(D8.cell 7).trans rfl;have e8:W1.cell? ⟨w.heap.size,8,none⟩=some (.string a.value.a.sym.text):=(D8.cell 8).trans rfl;have e9:W1.cell? ⟨w.heap.size,9,none⟩=some (.int .i64 a.value.a.sym.n):=(D8.cell 9).trans rfl;have za:W1.cell? ⟨w.heap.size,10,none⟩=some (.string a.value.b.var):=(D8.cell 10).trans rfl;have kn:W1.cell? ⟨w.heap.size,11,none⟩=some (.int .i64 a.value.b.sym.kind):=(D8.cell 11).trans rfl;have yd:W1.cell? ⟨w.heap.size,12,none⟩=some (.string a.value.b.sym.text):=(D8.cell 12).trans rfl;have Mm:W1.cell? ⟨w.heap.size,13,none⟩=some (.int .i64 a.value.b.sym.n):=(D8.cell 13).trans rfl;have Ba:W1.cell? ⟨w.heap.size,14,none⟩=some (.int .i64 a.pref):=(D8.cell 14).trans rfl;have nx:W1.cell? ⟨w.heap.size,15,none⟩=some (.string a.other.var):=(D8.cell 15).trans rfl;have Te:W1.cell? ⟨w.heap.size,16,none⟩=some (.int .i64 a.other.sym.kind):=(D8.cell 16).trans rfl;have Fh:W1.cell? ⟨w.heap.size,17,none⟩=some (.string a.other.sym.text):=(D8.cell 17).trans rfl;have Ty:W1.cell? ⟨w.heap.size,18,none⟩=some (.int .i64 a.other.sym.n):=(D8.cell 18).trans rfl;have P2:=D8.lt;clear Wo D8
  go_wp2_with (first
   | (go_at_call 158;refine (Z49 a.id _).mono ?_;rintro e w9 ⟨rfl,rfl⟩)
   | (go_at_call 192;(first|(with_reducible refine (Z9b a.attr _).mono ?_)|(with_reducible refine (Z9b a.other _).mono ?_));rintro e w9 ⟨rfl,Ct⟩;have HB:=hU (HB.o.trans (Ct.mono HB.o.size));replace e0:=(Ct.cell (p:=⟨w.heap.size,0,none⟩) P2).trans e0;replace e1:=(Ct.cell (p:=⟨w.heap.size,1,none⟩) P2).trans e1;replace e2:=(Ct.cell (p:=⟨w.heap.size,2,none⟩) P2).trans e2;replace e3:=(Ct.cell (p:=⟨w.heap.size,3,none⟩) P2).trans e3;replace e4:=(Ct.cell (p:=⟨w.heap.size,4,none⟩) P2).trans e4;replace e5:=(Ct.cell (p:=⟨w.heap.size,5,none⟩) P2).trans e5;replace e6:=(Ct.cell (p:=⟨w.heap.size,6,none⟩) P2).trans e6;replace e7:=(Ct.cell (p:=⟨w.heap.size,7,none⟩) P2).trans e7;replace e8:=(Ct.cell (p:=⟨w.heap.size,8,none⟩) P2).trans e8;replace e9:=(Ct.cell (p:=⟨w.heap.size,9,none⟩) P2).trans e9;replace za:=(Ct.cell (p:=⟨w.heap.size,10,none⟩) P2).trans za;replace kn:=(Ct.cell (p:=⟨w.heap.size,11,none⟩) P2).trans kn;replace yd:=(Ct.cell (p:=⟨w.heap.size,12,none⟩) P2).trans yd;replace Mm:=(Ct.cell (p:=⟨w.heap.size,13,none⟩) P2).trans Mm;replace Ba:=(Ct.cell (p:=⟨w.heap.size,14,none⟩) P2).trans Ba;replace nx:=(Ct.cell (p:=⟨w.heap.size,15,none⟩) P2).trans nx;replace Te:=(Ct.cell (p:=⟨w.heap.size,16,none⟩) P2).trans Te;replace Fh:=(Ct.cell (p:=⟨w.heap.size,17,none⟩) P2).trans Fh;replace Ty:=(Ct.cell (p:=⟨w.heap.size,18,none⟩) P2).trans Ty;replace P2:=Zsw P2 Ct.size;clear Ct)
   | (go_at_call 193;refine (Zrm a.value _).mono ?_;rintro e w9 ⟨rfl,Ct⟩;have HB:=hU (HB.o.trans (Ct.mono HB.o.size));replace e0:=(Ct.cell (p:=⟨w.heap.size,0,none⟩) P2).trans e0;replace e1:=(Ct.cell (p:=⟨w.heap.size,1,none⟩) P2).trans e1;replace e2:=(Ct.cell (p:=⟨w.heap.size,2,none⟩) P2).trans e2;replace e3:=(Ct.cell (p:=⟨w.heap.size,3,none⟩) P2).trans e3;replace e4:=(Ct.cell (p:=⟨w.heap.size,4,none⟩) P2).trans e4;replace e5:=(Ct.cell (p:=⟨w.heap.size,5,none⟩) P2).trans e5;replace e6:=(Ct.cell (p:=⟨w.heap.size,6,none⟩) P2).trans e6;replace e7:=(Ct.cell (p:=⟨w.heap.size,7,none⟩) P2).trans e7;replace e8:=(Ct.cell (p:=⟨w.heap.size,8,none⟩) P2).trans e8;replace e9:=(Ct.cell (p:=⟨w.heap.size,9,none⟩) P2).trans e9;replace za:=(Ct.cell (p:=⟨w.heap.size,10,none⟩) P2).trans za;replace kn:=(Ct.cell (p:=⟨w.heap.size,11,none⟩) P2).trans kn;replace yd:=(Ct.cell (p:=⟨w.heap.size,12,none⟩) P2).trans yd;replace Mm:=(Ct.cell (p:=⟨w.heap.size,13,none⟩) P2).trans Mm;replace Ba:=(Ct.cell (p:=⟨w.heap.size,14,none⟩) P2).trans Ba;replace nx:=(Ct.cell (p:=⟨w.heap.size,15,none⟩) P2).trans nx;replace Te:=(Ct.cell (p:=⟨w.heap.size,16,none⟩) P2).trans Te;replace Fh:=(Ct.cell (p:=⟨w.heap.size,17,none⟩) P2).trans Fh;replace Ty:=(Ct.cell (p:=⟨w.heap.size,18,none⟩) P2).trans Ty;replace P2:=Zsw P2 Ct.size;clear Ct)
   | (go_at_call 194;refine (Zpc a.pref _).mono ?_;rintro e w9 ⟨rfl,rfl⟩)
   | (go_at_call 195;refine (Zh4 a.other _).mono ?_;rintro e w9 ⟨rfl,Ct⟩;have HB:=hU (HB.o.trans (Ct.mono HB.o.size));replace e0:=(Ct.cell (p:=⟨w.heap.size,0,none⟩) P2).trans e0;replace e1:=(Ct.cell (p:=⟨w.heap.size,1,none⟩) P2).trans e1;replace e2:=(Ct.cell (p:=⟨w.heap.size,2,none⟩) P2).trans e2;replace e3:=(Ct.cell (p:=⟨w.heap.size,3,none⟩) P2).trans e3;replace e4:=(Ct.cell (p:=⟨w.heap.size,4,none⟩) P2).trans e4;replace e5:=(Ct.cell (p:=⟨w.heap.size,5,none⟩) P2).trans e5;replace e6:=(Ct.cell (p:=⟨w.heap.size,6,none⟩) P2).trans e6;replace e7:=(Ct.cell (p:=⟨w.heap.size,7,none⟩) P2).trans e7;replace e8:=(Ct.cell (p:=⟨w.heap.size,8,none⟩) P2).trans e8;replace e9:=(Ct.cell (p:=⟨w.heap.size,9,none⟩) P2).trans e9;replace za:=(Ct.cell (p:=⟨w.heap.size,10,none⟩) P2).trans za;replace kn:=(Ct.cell (p:=⟨w.heap.size,11,none⟩) P2).trans kn;replace yd:=(Ct.cell (p:=⟨w.heap.size,12,none⟩) P2).trans yd;replace Mm:=(Ct.cell (p:=⟨w.heap.size,13,none⟩) P2).trans Mm;replace Ba:=(Ct.cell (p:=⟨w.heap.size,14,none⟩) P2).trans Ba;replace nx:=(Ct.cell (p:=⟨w.heap.size,15,none⟩) P2).trans nx;replace Te:=(Ct.cell (p:=⟨w.heap.size,16,none⟩) P2).trans Te;replace Fh:=(Ct.cell (p:=⟨w.heap.size,17,none⟩) P2).trans Fh;replace Ty:=(Ct.cell (p:=⟨w.heap.size,18,none⟩) P2).trans Ty;replace P2:=Zsw P2 Ct.size;clear Ct))
  go_ret;exact ⟨YE7,Yz⟩
end
section
open Go.RowKit Go.Shelf
attribute [local go_sem] Oper.semAt_some
theorem Zhu {D:Nat→Prop}(p:Z3r) (n:Nat) (A1 A2:Option Addr) (c1 c2:Nat) (w:World) (h1:RowR (Z09 n) D w A1 c1 p.conds) (h2:RowR Z1x D w A2 c2 p.acts) (hD :∀k,D k→k<w.heap.size) (hF:(Z17 n 0 p.conds).length≤1000000000) (hn:n≤1000000000) :
 Calls Tryz.prog 134 #[.agg (Q0v p A1 c1 A2 c2)] w fun e w'=>e = .returned (.tuple #[.int .i64 (Z2e n p).1,.int .i64 (Z2e n p).2])∧Below w.heap.size w w':=by
 have H1:=hU h1;have H2:=hU h2;have HD:=hU hD;have hl2:=h2.cap;clear h1 h2 hD;by_cases hw:Z1t p.name=false
 · have HR:=hU (show Z2e n p=(-1,2) by unfold Z2e;rw [if_pos hw])
   have w1:=hw;clear hw;go_enter Tryz.func134,Tryz.ntmps134;(go_wp2_with (go_at_call 158;refine (Z49 p.name _).mono ?_;rintro e w9 ⟨rfl,rfl⟩));go_ret2;exact ⟨YE7,(Zst _ _).alloc (Zsu _) _⟩
 (have w1:Z1t p.name=true:=by simpa using hw);have HW:=hU hw;clear hw;obtain ⟨F,hFd⟩:∃F,F=Z17 n 0 p.conds:=⟨_,rfl⟩;have Wg:=hU hFd;rw [←hFd] at hF;clear hFd;go_enter Tryz.func134,Tryz.ntmps134;(go_upto_region 4 with (go_at_call 158;refine (Z49 p.name _).mono ?_;rintro e w9 ⟨rfl,rfl⟩));obtain ⟨W1,Wo⟩:∃W1,W1=(w.alloc (.cells (Q0v p A1 c1 A2 c2) 29)).alloc (.cells #[.int .i64 0] 3):=⟨_,rfl⟩;rw [←Wo];have Pk:Below w.heap.size w W1:=Y6;have hP:Blk W1 w.heap.size 29 (Q0v p A1 c1 A2 c2):=by rw [Wo];exact (Blk.new w 29 (Q0v p A1 c1 A2 c2)).alloc _
 have hN:Blk W1 (w.heap.size+1) 3 #[.int .i64 0]:=by
  rw [Wo];have:=Blk.new (w.alloc (.cells (Q0v p A1 c1 A2 c2) 29)) 3 #[.int .i64 0];rw [show (w.alloc (.cells (Q0v p A1 c1 A2 c2) 29)).heap.size=w.heap.size+1 from Ye] at this;exact this
 obtain ⟨bn,Ij⟩:∃bn,bn=w.heap.size+1:=⟨_,rfl⟩;obtain ⟨px,Li⟩:∃px,px=w.heap.size:=⟨_,rfl⟩;rw [←Ij] at hN ⊢;rw [←Li] at hP;have Xw:=hU Li;have m9:=hU Ij;(have hDn :¬D bn:=fun h=>by have:=HD.o _ h;omega);(have p1:W1.cell? ⟨w.heap.size,1,none⟩=some (.slice A1 p.conds.length c1):=by rw [←Li];exact (hP.cell 1).trans rfl);(have Ly:w.heap.size<W1.heap.size:=by rw [←Li];exact hP.lt);have Nk:=hU Pk;have HP:=hU hP;have HN:=hU hN;clear Wo Ij Li Pk hP hN;go_wp2_with fail;have ni:=Zgs (yld1 (D:=D) bn hDn F) hF n 0 0 A1 c1 p.conds W1 (H1.o.new_ Nk.o) (fun k hk=>by rw [hk];exact HN.o.lt) ⟨[],by rw [←Wg.o];simp⟩ (by rw [←Wg.o];omega) Ya ⟨HN.o,Ya⟩;rw [←Wg.o] at ni;refine ni.mono ?_;rintro e W2 ⟨b,a,rfl,Gl,Ou,Td⟩
 have hm :∃m:Nat,Blk W2 bn 3 #[.int .i64 (m:Int)]∧((m=F.length∧m≤16)∨(m=17∧16<F.length)):=by
  cases b with
  | true=>
    obtain ⟨ha,hI⟩:=Gl rfl;exact ⟨a,hI.1,.inl ⟨Ya,hI.2⟩⟩
  | false=>
    have hS:=Ou rfl;exact ⟨17,hS.1,.inr ⟨rfl,hS.2⟩⟩
 obtain ⟨m,hM,hmF⟩:=hm;have I6:=HP.o.fr Td (fun e=>by have:=Xw.o;have:=m9.o;omega);have Un:=hU (Nk.o.trans (Td.below Nk.o.size (fun k hk e=>by have:=m9.o;omega)));have n0:W2.cell? ⟨bn,0,none⟩=some (.int .i64 (m:Int)):=(hM.cell 0).trans rfl;(have p1':W2.cell? ⟨w.heap.size,1,none⟩=some (.slice A1 p.conds.length c1):=by rw [←Xw.o];exact (I6.cell 1).trans rfl);(have p2':W2.cell? ⟨w.heap.size,2,none⟩=some (.slice A2 p.acts.length c2):=by rw [←Xw.o];exact (I6.cell 2).trans rfl);(have kx:w.heap.size<W2.heap.size:=by rw [←Xw.o];exact I6.lt);have hnl:=hM.lt;have HM:=hU hM;have Oc:=hU I6;clear ni Gl Ou Td hM I6 p1 Ly
 have bad:(F.length<1∨16<F.length∨p.acts.length<1∨16<p.acts.length)→Z2e n p=(-1,7):=fun h=>by
  unfold Z2e;rw [if_neg HW.o,←Wg.o,if_pos h]
 have O3:=hU bad;clear bad;by_cases k1:m<1
 · have t1:decide ((m:Int)<1)=true:=Zt9 Ya
   have t1n:decide (m<1)=true:=Zt9 Ya;have HR:=hU (O3.o Ya);clear k1;exact Yqv
 have t1:decide ((m:Int)<1)=false:=Zsx Ya;have t1n:decide (m<1)=false:=Zsx Ya;by_cases k2:16<m
 · have t2:decide ((16:Int)<(m:Int))=true:=Zt9 Ya
   have Vr:decide (16<m)=true:=Zt9 Ya;have HR:=hU (O3.o Ya);clear k1 k2;exact Yqv
 have t2:decide ((16:Int)<(m:Int))=false:=Zsx Ya;have Vr:decide (16<m)=false:=Zsx Ya;have I8:m=F.length:=Ya;by_cases k3:p.acts.length<1
 · have t3:decide ((p.acts.length:Int)<1)=true:=Zt9 Ya
   have t3n:decide (p.acts.length<1)=true:=Zt9 Ya;have HR:=hU (O3.o Ya);have hz0:p.acts.length=0:=Ya;clear k1 k2 k3 hmF I8;exact Yqv
 have t3:decide ((p.acts.length:Int)<1)=false:=Zsx Ya;have t3n:decide (p.acts.length<1)=false:=Zsx Ya;by_cases k4:16<p.acts.length
 · have t4:decide ((16:Int)<(p.acts.length:Int))=true:=Zt9 Ya
   have t4n:decide (16<p.acts.length)=true:=Zt9 Ya;have HR:=hU (O3.o Ya);clear k1 k2 k3 k4 hmF I8;exact Yqv
 have t4:decide ((16:Int)<(p.acts.length:Int))=false:=Zsx Ya;have t4n:decide (16<p.acts.length)=false:=Zsx Ya;clear k1 k2 k3 k4 hmF;have ph:=hU I8;clear I8
 have good :∀r:Int×Int,(match F.findIdx? (fun c=>decide (Z1l c.2 c.1≠0)) with
  | some k=>((k:Int),((F[k]?).map fun c=>Z1l c.2 c.1).getD 0)
  | none=>match p.acts.findIdx? (fun a=>!actB a) with
    | some i=>(F.length+i,9)
    | none=>(-1,0))=r→Z2e n p=r:=fun r h=>by
  have ht2:=Vr;have ht1:=t1n;have ht3:=t3n;have ht4:=t4n;rw [decide_eq_false_iff_not] at ht1 ht2 ht3 ht4;unfold Z2e;rw [if_neg HW.o,←Wg.o,if_neg (by have:=ph.o;omega)];exact h
 have C7:=hU good;clear good;go_upto_region 8 with fail;obtain ⟨W3,jb⟩:∃W3,W3=(W2.alloc (.cells #[.int .i64 (-1)] 3)).alloc (.cells #[.int .i64 0] 184):=⟨_,rfl⟩;rw [←jb];(have Ri:Below W2.heap.size W2 W3:=by rw [jb];exact ((Zst _ _).alloc (Zsu _) _).alloc Ye _);have hQ:Blk W3 W2.heap.size 3 #[.int .i64 (-1)]:=by rw [jb];exact (Blk.new W2 3 #[.int .i64 (-1)]).alloc _
 have hE:Blk W3 (W2.heap.size+1) 184 #[.int .i64 0]:=by
  rw [jb];have:=Blk.new (W2.alloc (.cells #[.int .i64 (-1)] 3)) 184 #[.int .i64 0];rw [show (W2.alloc (.cells #[.int .i64 (-1)] 3)).heap.size=W2.heap.size+1 from Ye] at this;exact this
 obtain ⟨be,yn⟩:∃be,be=W2.heap.size+1:=⟨_,rfl⟩;obtain ⟨bp,iv⟩:∃bp,bp=W2.heap.size:=⟨_,rfl⟩;rw [←yn] at hE ⊢;rw [←iv] at hQ ⊢;have Aj:=Un.o.size;(have Ls :¬D be:=fun h=>by have:=HD.o _ h;omega);(have hD2 :¬D bp:=fun h=>by have:=HD.o _ h;omega);have q1:W3.cell? ⟨w.heap.size,1,none⟩=some (.slice A1 p.conds.length c1):=(Ri.cell (p:=⟨w.heap.size,1,none⟩) kx).trans p1';have hpl3:=Zsw kx Ri.size;have Ue:=hU Ri;have HE:=hU hE;have HQ:=hU hQ;have mg:=hU yn;have bh:=hU iv;clear jb Ri hE hQ yn iv p1' n0 hnl;go_wp2_with fail;have ni:=Zgs (yld2 (D:=D) be bp Ls hD2 (by have:=mg.o;have:=bh.o;omega) F) hF n 0 0 A1 c1 p.conds W3 (H1.o.new_ (Un.o.trans (Ue.o.mono Aj))) (fun k hk=>hk.elim (fun e=>e ▸ HE.o.lt) (fun e=>e ▸ HQ.o.lt)) ⟨[],by rw [←Wg.o];simp⟩ (by rw [←Wg.o];omega) Ya ⟨HE.o,HQ.o,fun j _ h=>absurd h Ya⟩;rw [←Wg.o] at ni;refine ni.mono ?_;rintro e W4 ⟨b,a2,rfl,Gl,Ou,uc⟩;have Ni:=hU (show Below w.heap.size w W4 from (Un.o.trans (Ue.o.mono Aj)).trans (uc.below (by have:=Ue.o.size;omega) (fun k hk e=>by have:=mg.o;have:=bh.o;rcases e with e|e<;>omega)));have hM4:=(HM.o.new_ Ue.o).fr uc (fun e=>by have h1:=HM.o.lt;have:=mg.o;have:=bh.o;rcases e with e|e<;>omega);have hP4:=(Oc.o.new_ Ue.o).fr uc (fun e=>by have h1:=Oc.o.lt;have:=mg.o;have:=bh.o;rcases e with e|e<;>omega);have HM4:=hU hM4;(have r2:W4.cell? ⟨w.heap.size,2,none⟩=some (.slice A2 p.acts.length c2):=by rw [←Xw.o];exact (hP4.cell 2).trans rfl);(have hpl4:w.heap.size<W4.heap.size:=by rw [←Xw.o];exact hP4.lt);have n4:W4.cell? ⟨bn,0,none⟩=some (.int .i64 (m:Int)):=(hM4.cell 0).trans rfl;have Wm:=hM4.lt;clear ni uc hM4 hP4 q1 hpl3 p2' kx
 cases b with
 | false=>
   obtain ⟨k,hk,tk,hQ4,Xf,Lt⟩:=Ou rfl;obtain ⟨z,hz⟩:∃z,z=Z1l F[k].2 F[k].1:=⟨_,rfl⟩
   have hR:Z2e n p=((k:Int),z):=by
    refine C7.o _ ?_
    have pl:F.findIdx? (fun c=>decide (Z1l c.2 c.1≠0))=some k:=by
     rw [List.findIdx?_eq_some_iff_getElem];exact ⟨hk,by simpa using Xf,fun j hj=>by simpa using Lt j Ya hj⟩
    rw [pl];simp [Zt3 hk,hz]
   rw [←hz] at tk Xf;have HR:=hU hR;have s0:W4.cell? ⟨be,0,none⟩=some (.int .i64 z):=(tk.cell 0).trans rfl;have s1:W4.cell? ⟨bp,0,none⟩=some (.int .i64 (k:Int)):=(hQ4.cell 0).trans rfl;have I5:=tk.lt;have hl1:=hQ4.lt;(have t5:(z == 0)=false:=by simp [Xf]);(have t6:decide (z=0)=false:=by simp [Xf]);clear hR hz tk hQ4 Lt Gl Ou Xf n4 r2;go_wp2_with fail;go_quiet (fail);go_wp2_with fail;go_ret2;exact ⟨YE7,Below.drewN' Ni.o _⟩
 | true=>
   obtain ⟨_,tk,_,Lt⟩:=Gl rfl
   have o8:F.findIdx? (fun c=>decide (Z1l c.2 c.1≠0))=none:=by
    rw [List.findIdx?_eq_none_iff];intro x hx;obtain ⟨j,hj,rfl⟩:=List.getElem_of_mem hx;have:=Lt j hj Ya;exact Yuu
   have V7:=hU o8;have s0:W4.cell? ⟨be,0,none⟩=some (.int .i64 0):=(tk.cell 0).trans rfl;have I5:=tk.lt;clear o8 Lt Gl Ou tk;go_wp2_with fail
   go_loopw [46] (fun s wr=>∃i:Nat,s = .int .i64 i∧i≤p.acts.length∧(∀k,(h:k<p.acts.length)→k<i→actB p.acts[k]=true)∧Below W4.heap.size W4 wr) (fun s wr=>p.acts.length - (intOf s).toNat)
   case atStart=>exact ⟨0,rfl,Nat.zero_le _,fun k _ h=>absurd h Ya,Zst _ _⟩
   case round=>
    obtain ⟨i,rfl,hi,Lt,Bm⟩:=hrel;have Ci:=hU Lt;have Vt:=hU Bm;have Mt:=Ni.o.size;have Dy:=Bm.size;clear Lt Bm;by_cases hlt:i<p.acts.length
    · obtain ⟨y,hy⟩:∃y,y=p.acts[i]:=⟨_,rfl⟩
      obtain ⟨g,off,Jo,_,hg,q0,q1,q2,q3,q4,q5,q6,q7,q8,q9,Jw,P8,i5,Nb,j3,q15,q16,q17,q18⟩:=Zkc (H2.o.new_ (Ni.o.trans (Vt.o.mono Mt))) hlt;subst Jo;rw [←hy] at q0 q1 q2 q3 q4 q5 q6 q7 q8 q9 Jw P8 i5 Nb j3 q15 q16 q17 q18;have HY:=hU hy;have b1:(0:Int)≤(i:Int):=Ya;have b2:(i:Int)<(p.acts.length:Int):=Ya
      have ly:=hU (show wr.rangeAt g (off+i*19) (Q0e y) from fun j v hv=>by
       obtain ⟨g',off',cs,e1,_,_,hr,hc⟩:=(H2.o.new_ (Ni.o.trans (Vt.o.mono Mt))).at_ hlt;cases e1;have Gz:cs=ActT.cells p.acts[i]:=hr;subst Gz;rw [←HY.o] at hc
       exact hc j v hv)
      have Nw:=hU (show (wr.alloc (.cells Q2e 181)).there wr.heap.size 0 ((Q0f y):Array Value).size from (Blk.new wr 181 Q2e).there);obtain ⟨W5,wv⟩:∃W5,W5=(wr.alloc (.cells Q2e 181)).setCells wr.heap.size 0 (Q0e y):=⟨_,rfl⟩;have o9:=hU wv;have Ms:=hU (show W5.rangeAt wr.heap.size 0 (Q0e y) from YZ0);have Xp:=hU (show Below wr.heap.size wr W5 from Y5);clear hy wv q0 q1 q2 q3 q4 q5 q6 q7 q8 q9 Jw P8 i5 Nb j3 q15 q16 q17 q18
      go_wp2_with (first
       | (with_reducible refine wpList_load_mid rfl 181 _ rfl g (off+i*19) rfl (Q0e y) _ ly.o Tryz.underlying181 rfl Yb ?_)
       | ((with_reducible refine wpList_store_mid rfl 181 _ _ rfl wr.heap.size 0 (Q0f y) rfl rfl Nw.o Yb Yb ?_);rw [←o9.o])
       | (with_reducible refine wpList_load_mid rfl 181 _ rfl wr.heap.size 0 rfl (Q0e y) _ Ms.o Tryz.underlying181 rfl Yb ?_))
      refine (Zs2 y _).mono ?_;rintro e w9 ⟨rfl,Ct⟩;have yq:=hU (Vt.o.trans ((Xp.o.trans (Ct.mono Xp.o.size)).mono Dy));clear Ct;cases hcb:actB y
      · have pl:p.acts.findIdx? (fun a=>!actB a)=some i:=by
         rw [List.findIdx?_eq_some_iff_getElem];refine ⟨hlt,by rw [←HY.o,hcb];rfl,fun j hj=>?_⟩;have:=Ci.o j Ya hj;simp [this]
        have HR:=hU (C7.o ((m:Int)+i,9) (by rw [V7.o,pl];simp [ph.o]));have n9:w9.cell? ⟨bn,0,none⟩=some (.int .i64 (m:Int)):=(yq.o.cell (p:=⟨bn,0,none⟩) Wm).trans n4;have hn9:=Zsw Wm yq.o.size;have t7:=Vr;rw [decide_eq_false_iff_not] at t7;have t8:=t4n;rw [decide_eq_false_iff_not] at t8;have v1:IntKind.i64.wrap ((m:Int)+(i:Int))=(m:Int)+(i:Int):=Zt8 _ Ya;clear hcb pl t7 t8;go_wp2_with fail;go_ret2;exact ⟨YE7,Ni.o.trans (yq.o.mono Mt)⟩
      · exact Ygq
    · have Np:i=p.acts.length:=by omega
      have pl:p.acts.findIdx? (fun a=>!actB a)=none:=by
       rw [List.findIdx?_eq_none_iff];intro x hx;obtain ⟨j,hj,rfl⟩:=List.getElem_of_mem hx;simp [Ci.o j hj Ya]
      have HR:=hU (C7.o (-1,0) (by rw [V7.o,pl]));subst Np;clear pl;go_wp2_with fail;go_ret2;exact ⟨YE7,Ni.o.trans (Vt.o.mono Mt)⟩
theorem Zo7 {c:Z0a}{d:Nat}(h:Z1l c d=0):Zcw (d,c)∧c.kind≠0:=by
 unfold Z1l at h;unfold Zcw;dsimp only;by_cases h3:c.kind=3
 · rw [if_pos h3] at h
   by_cases h9:c.goal=true∨c.id.toList≠[]∨0<c.attr.length∨0<c.value.length∨c.acc=true∨c.conds.length=0
   · rw [if_pos h9] at h;omega
   · have ha :¬0<c.attr.length:=fun h=>h9 (.inr (.inr (.inl h)))
     have hb :¬0<c.value.length:=fun h=>h9 (.inr (.inr (.inr (.inl h))));exact ⟨⟨Ya,Ya,fun h=>absurd h3 h⟩,Ya⟩
 · rw [if_neg h3] at h
   by_cases h12:c.kind=1∨c.kind=2
   · rw [if_pos h12] at h
     by_cases ha:0<c.conds.length∨Z1t c.id=false∨c.attr.length=0
     · rw [if_pos ha] at h;omega
     · rw [if_neg ha] at h
       by_cases hb:4<c.attr.length∨4<c.value.length
       · rw [if_pos hb] at h;omega
       · exact ⟨⟨Ya,Ya,fun _=>Zty.1 Ya⟩,Ya⟩
   · rw [if_neg h12] at h;omega
theorem Zn1 {n:Nat}{p:Z3r}(h:(Z2e n p).2=0):1≤(Z17 n 0 p.conds).length∧(Z17 n 0 p.conds).length≤16∧1≤p.acts.length∧p.acts.length≤16∧∀x∈Z17 n 0 p.conds,Z1l x.2 x.1=0:=by
 unfold Z2e at h;by_cases h1:Z1t p.name=false
 · rw [if_pos h1] at h;simp at h
 rw [if_neg h1] at h;by_cases h2:(Z17 n 0 p.conds).length<1∨16<(Z17 n 0 p.conds).length∨p.acts.length<1∨16<p.acts.length
 · rw [if_pos h2] at h;simp at h
 rw [if_neg h2] at h;refine ⟨Ya,Ya,Ya,Ya,?_⟩
 cases hf:(Z17 n 0 p.conds).findIdx? (fun c=>decide (Z1l c.2 c.1≠0)) with
 | none=>
   rw [List.findIdx?_eq_none_iff] at hf;intro x hx;have:=hf x hx;exact Yuu
 | some k=>
   rw [hf] at h;obtain ⟨hk,h3,_⟩:=List.findIdx?_eq_some_iff_getElem.1 hf;simp only [Zt3 hk] at h;simp only [Zuf] at h3;exact absurd h h3
theorem Zif {n:Nat}{p:Z3r}(h:(Z2e n p).2≠0):Z41 n p=((Z2e n p).1,(Z2e n p).2,[]):=by unfold Z41;rw [if_pos h]
theorem Zd4 {n:Nat}{p:Z3r}{x:Z0a}{l:List Z0a}(h:(Z2e n p).2=0) (hp:p.conds=x :: l) (hx:x.kind≠1):Z41 n p=(0,9,[]):=by
 unfold Z41;rw [if_neg (by rw [h];decide),hp];simp [hx]
theorem Zd3 {n:Nat}{p:Z3r}{x:Z0a}{l:List Z0a}{a:Int}{k:Kn}(h:(Z2e n p).2=0) (hp:p.conds=x :: l) (hx:x.kind=1) (hc:Z21 n ([],[]) p.conds 0=(false,a,k)):Z41 n p=(a,6,[]):=by
 unfold Z41;rw [if_neg (by rw [h];decide),hc];simp [hp,hx]
theorem Zkt {n:Nat}{p:Z3r}{x:Z0a}{l:List Z0a}{a:Int}{k:Kn}(h:(Z2e n p).2=0) (hp:p.conds=x :: l) (hx:x.kind=1) (hc:Z21 n ([],[]) p.conds 0=(true,a,k)):Z41 n p=(match p.acts.findIdx? (actV k) with
 | some i=>(a+i,6,[])
 | none=>(-1,0,k.2)):=by
 (have e:(p.conds.head?.map Z0a.kind).getD 0=1:=by rw [hp];exact hx);unfold Z41;rw [if_neg (by rw [h];decide),hc,if_neg (by rw [e];decide)];rfl
theorem KSt.lacks {D:Nat→Prop}{W W1:World}{S:Nat→Option (List Name)}{kb sb:Nat}{K:Kn}(a:Z5l) (h:KSt D W S kb sb K W1) (hl:(K.1.length:Int)≤1000000) :
 Calls Tryz.prog 141 #[.pointer (some ⟨kb,0,none⟩),.agg #[.string a.var,.int .i64 a.sym.kind,.string a.sym.text,.int .i64 a.sym.n]] W1 fun e W'=>e = .returned (.bool (Z68 K a))∧Below W1.heap.size W1 W':=by
 obtain ⟨σ',A',c',h1,h2,h3,h4⟩:=h;exact Zlc a h1 h2 hl
def Z5h (W:World) (r:Int×Int×List ByteArray) (e:Ending) (W':World):Prop:=
 ∃A c,e = .returned (.tuple #[.int .i64 r.1,.int .i64 r.2.1,.slice A r.2.2.length c])∧W'.ownsRow 0 9 1 (.slice A r.2.2.length c) r.2.2.length (r.2.2.map Value.string)∧Below W.heap.size W W'
theorem Z5h.none_ {W W':World}{r:Int×Int×List ByteArray}{a e:Int}(hr:r=(a,e,[])) (hb:Below W.heap.size W W'):Z5h W r (.returned (.tuple #[.int .i64 a,.int .i64 e,.slice none 0 0])) W':=by
 subst hr;exact ⟨none,0,rfl,Zce _ _ _ _,hb⟩
theorem Zig {D:Nat→Prop}(p:Z3r) (n:Nat) (A1 A2:Option Addr) (c1 c2:Nat) (w:World) (h1:RowR (Z09 n) D w A1 c1 p.conds) (h2:RowR Z1x D w A2 c2 p.acts) (hD :∀k,D k→k<w.heap.size) (hF:(Z17 n 0 p.conds).length≤1000000000) (hn:n≤1000000000) :
 Calls Tryz.prog 118 #[.agg (Q0v p A1 c1 A2 c2)] w (Z5h w (Z41 n p)):=by
 have H1:=hU h1;have H2:=hU h2;have HD:=hU hD;have hl1:=h1.cap;have hl2:=h2.cap
 have hsh :∀W,Below w.heap.size w W→Calls Tryz.prog 134 #[.agg (Q0v p A1 c1 A2 c2)] W fun e w'=>e = .returned (.tuple #[.int .i64 (Z2e n p).1,.int .i64 (Z2e n p).2])∧Below W.heap.size W w':=fun W hb=>
  Zhu p n A1 A2 c1 c2 W (h1.new_ hb) (h2.new_ hb) (fun k hk=>Zsw (hD k hk) hb.size) hF hn
 obtain ⟨⟨sa,se⟩,hse⟩:∃r,Z2e n p=r:=⟨_,rfl⟩;simp only [hse] at hsh;have HSH:=hU hsh;have og:=hU hse;clear hse h1 h2 hD hsh hF;go_enter Tryz.func118,Tryz.ntmps118;go_upto_region 1 with fail;obtain ⟨W1,Wo⟩:∃W1,W1=w.alloc (.cells (Q0v p A1 c1 A2 c2) 29):=⟨_,rfl⟩;rw [←Wo];obtain ⟨px,Li⟩:∃px,px=w.heap.size:=⟨_,rfl⟩;have Tr:Below w.heap.size w W1:=Yo;(have Xr:Blk W1 px 29 (Q0v p A1 c1 A2 c2):=by rw [Wo,Li];exact Blk.new _ _ _);rw [←Li];have H_px:=hU Li;clear Wo Li;have Nk:=hU Tr;have HP:=hU Xr;have p0:W1.cell? ⟨px,0,none⟩=some (.string p.name):=(Xr.cell 0).trans rfl;have p1:W1.cell? ⟨px,1,none⟩=some (.slice A1 p.conds.length c1):=(Xr.cell 1).trans rfl;have p2:W1.cell? ⟨px,2,none⟩=some (.slice A2 p.acts.length c2):=(Xr.cell 2).trans rfl;have hpl:=Xr.lt;clear Tr Xr;go_wp2_with fail;refine (HSH.o W1 Nk.o).mono ?_;rintro e w2 ⟨rfl,lg⟩;have Un:=hU (Nk.o.trans (lg.mono Nk.o.size));have I6:=HP.o.fr (Fr.of_new (M:=fun _=>False) lg) (fun h=>h);have Oc:=hU I6;have p1:w2.cell? ⟨px,1,none⟩=some (.slice A1 p.conds.length c1):=(I6.cell 1).trans rfl;have p2:w2.cell? ⟨px,2,none⟩=some (.slice A2 p.acts.length c2):=(I6.cell 2).trans rfl;have kx:=I6.lt;clear p0 lg I6;by_cases hs0:se=0
 · have oc:=Zn1 (n:=n) (p:=p) (by rw [og.o];exact hs0)
   have wy:=hU oc;(have s1:(se == 0)=true:=by simp [hs0]);(have s2:decide (se=0)=true:=by simp [hs0]);have Vf:=hU (show (Z2e n p).2=0 by rw [og.o];exact hs0)
   have Xf:p.conds≠[]:=by
    intro h;have:=oc.1;rw [h,Zdg] at this;simp at this
   obtain ⟨n,rfl⟩:∃m,n=m+1:=by
    cases n with
    | zero=>have:=oc.1;exact absurd this YHa
    | succ m=>exact ⟨m,rfl⟩
   obtain ⟨x,l,Rr⟩:=List.exists_cons_of_ne_nil Xf;have O7:0<p.conds.length:=List.length_pos_iff.2 Xf;obtain ⟨g,off,B1,d1,B2,d2,B3,d3,rfl,hgD,hg,q0,-,-,-,-,-,-,-,-,-⟩:=Z31 (H1.o.new_ Un.o) O7;(have mj:p.conds[0]=x:=by simp [Rr]);rw [mj] at q0;simp only [Nat.zero_mul,Nat.add_zero] at q0;have HXL:=hU Rr;have b1:(0:Int)<(p.conds.length:Int):=Ya;clear hs0 oc Xf Rr mj O7;by_cases hx1:x.kind=1
   · have t1:(x.kind == 1)=true:=by simp [hx1]
     (have t1':decide (x.kind=1)=true:=by simp [hx1]);have Ld:=hU hx1;clear hx1;go_wp2_with fail;refine (Zmw none 0 [] (Sets.start _ _ _ _ _ w2) (Z0y.nil _ _ _) Ye).mono ?_;rintro e w3 ⟨⟨sb,rfl,hsb,_,σ3,iw,Se⟩,Ri⟩;have ws:=Ri.size;have HN3:=hU iw;have Ue:=hU Ri;clear iw Se Ri q0;go_upto_region 7 with fail;obtain ⟨W4,rj⟩:∃W4,W4=w3.alloc (.cells #[.pointer (some ⟨sb,0,none⟩),.slice none 0 0] 265):=⟨_,rfl⟩;rw [←rj];obtain ⟨kb,Jh⟩:∃kb,kb=w3.heap.size:=⟨_,rfl⟩;have O1:Below w3.heap.size w3 W4:=YIi;(have Ce:Blk W4 kb 265 #[.pointer (some ⟨sb,0,none⟩),.slice none 0 0]:=by rw [rj,Jh];exact Blk.new _ _ _);rw [←Jh];have H_kb:=hU Jh;clear rj Jh;have Ch:KSt (· < w2.heap.size) W4 (upd (fun _=>none) sb (some [])) kb sb ([],[]) W4:=KSt.start (HN3.o.below O1) ⟨Ce,Zce _ _ _ _,Z19 _ _ _⟩ (AIn.none_ _);have Ni:=hU (Un.o.trans ((Ue.o.trans (O1.mono Ue.o.size)).mono Un.o.size));have Br:Below w2.heap.size w2 W4:=Ue.o.trans (O1.mono Ue.o.size);have G6:=hU (Oc.o.new_ Br);have p1:W4.cell? ⟨px,1,none⟩=some (.slice (some ⟨g,off,none⟩) p.conds.length c1):=(G6.o.cell 1).trans rfl;have hpl4:=G6.o.lt;have nh :¬(kb<w2.heap.size):=by have:=ws;rw [H_kb.o];omega
     have hcd:Calls Tryz.prog 140 #[.pointer (some ⟨kb,0,none⟩),.slice (some ⟨g,off,none⟩) p.conds.length c1,.int .i64 0] W4 (Z7h (· < w2.heap.size) W4 (upd (fun _=>none) sb (some [])) kb sb ([],[]) 0 (Z17 (n+1) 0 p.conds).length (Z21 (n+1) ([],[]) p.conds 0)):=
      Zl9 (n+1) 0 0 _ W4 _ kb sb ([],[]) _ _ p.conds Ch nh (((H1.o.new_ (Un.o.trans (Br.mono Un.o.size))).weaken (fun k hk=>Zsw (HD.o k hk) Un.o.size))) (fun y hy=>(Zo7 (wy.o.2.2.2.2 y hy)).1) (by have:=wy.o.2.1;simp;omega) (by have:=wy.o.2.1;simp;omega) (by have:=wy.o.2.1;omega)
     obtain ⟨bo,ka,K3,hcr⟩:∃b a k,Z21 (n+1) ([],[]) p.conds 0=(b,a,k):=⟨_,_,_,rfl⟩;rw [hcr] at hcd;have HCD:=hU hcd;have HCR:=hU hcr;clear Ch Br hcd hcr O1 Ce ws nh;go_wp2_with fail;refine HCD.o.mono ?_;rintro e w5 ⟨rfl,Pa,Pm⟩;have Wz:Below w.heap.size w w5:=Ni.o.trans (Pa.below Ni.o.size (fun k hk hn=>hn (Zsw hk Un.o.size)));have Xp:=hU Wz;have HF5:=hU Pa;have rq:=hU Pm;have hP5:=G6.o.fr Pa (fun h=>h kx);have p2:w5.cell? ⟨px,2,none⟩=some (.slice A2 p.acts.length c2):=(hP5.cell 2).trans rfl;have hpl5:=hP5.lt;clear Wz Pa Pm hP5 p1
     cases bo with
     | false=>
       have HR:=hU (Zd3 Vf.o HXL.o Ld.o HCR.o);go_wp2_with fail
       go_ret3
       exact Z5h.none_ HR.o Xp.o
     | true=>
       obtain ⟨Jz,nl,zi,L5⟩:=rq.o rfl;dsimp only at Jz nl zi L5;(have bv:ka=(((Z17 (n+1) 0 p.conds).length:Nat):Int):=by rw [nl];omega);have HKA:=hU bv;(have hka0:(0:Int)≤ka:=by rw [bv];omega);(have hka1:ka≤16:=by have:=wy.o.2.1;rw [bv];omega);have hal:=wy.o.2.2.2.1;(have Cz:(K3.1.length:Int)≤1000000:=by have:=wy.o.2.1;simp at zi;omega);have Bw:=hU Jz;have HR:=hU (Zkt Vf.o HXL.o Ld.o HCR.o);clear Jz nl zi L5 bv;go_wp2_with fail
       go_loopw [42] (fun s wr=>∃i:Nat,s = .int .i64 i∧i≤p.acts.length∧(∀k,(h:k<p.acts.length)→k<i→actV K3 p.acts[k]=false)∧Below w5.heap.size w5 wr) (fun s wr=>p.acts.length - (intOf s).toNat)
       case atStart=>exact ⟨0,rfl,Nat.zero_le _,fun k _ h=>absurd h Ya,Zst _ _⟩
       case round=>
        obtain ⟨i,rfl,hi,Lt,Bm⟩:=hrel;have Ci:=hU Lt;have Vt:=hU Bm;have Ew:=Xp.o.size;have Dy:=Bm.size;clear Lt Bm p2;by_cases hlt:i<p.acts.length
        · obtain ⟨y,hy⟩:∃y,y=p.acts[i]:=⟨_,rfl⟩
          obtain ⟨gg,oo,Jo,_,hgg,_⟩:=Zkc (H2.o.new_ (Xp.o.trans (Vt.o.mono Ew))) hlt;have HY:=hU hy;have b1:(0:Int)≤(i:Int):=Ya;have b2:(i:Int)<(p.acts.length:Int):=Ya
          have ly:=hU (show wr.rangeAt gg (oo+i*19) (Q0e y) from fun j v hv=>by
           obtain ⟨g',off',cs,e1,_,_,hr,hc⟩:=(H2.o.new_ (Xp.o.trans (Vt.o.mono Ew))).at_ hlt;rw [Jo] at e1;cases e1;have Gz:cs=ActT.cells p.acts[i]:=hr;subst Gz;rw [←HY.o] at hc
           exact hc j v hv)
          subst Jo;have Nw:=hU (show (wr.alloc (.cells Q2e 181)).there wr.heap.size 0 ((Q0f y):Array Value).size from (Blk.new wr 181 Q2e).there);obtain ⟨W6,xy⟩:∃W6,W6=(wr.alloc (.cells Q2e 181)).setCells wr.heap.size 0 (Q0e y):=⟨_,rfl⟩;have F1:=hU xy;(have We:W6.rangeAt wr.heap.size 0 (Q0e y):=by rw [xy];exact Zsy _ _ _ _ Nw.o);(have Jp:Below wr.heap.size wr W6:=by rw [xy];exact Below.setCells' _ _ ((Zst _ _).alloc (Zsu _) _) (Zsu _));have gi:=hU Jp;have e1:W6.cell? ⟨wr.heap.size,1,none⟩=some (.string y.attr.var):=(We 1 _ rfl);have e2:W6.cell? ⟨wr.heap.size,2,none⟩=some (.int .i64 y.attr.sym.kind):=(We 2 _ rfl);have e3:W6.cell? ⟨wr.heap.size,3,none⟩=some (.string y.attr.sym.text):=(We 3 _ rfl);have e4:W6.cell? ⟨wr.heap.size,4,none⟩=some (.int .i64 y.attr.sym.n):=(We 4 _ rfl);have e5:W6.cell? ⟨wr.heap.size,5,none⟩=some (.int .i64 y.value.op):=(We 5 _ rfl);have e6:W6.cell? ⟨wr.heap.size,6,none⟩=some (.string y.value.a.var):=(We 6 _ rfl);have e7:W6.cell? ⟨wr.heap.size,7,none⟩=some (.int .i64 y.value.a.sym.kind):=(We 7 _ rfl);have e8:W6.cell? ⟨wr.heap.size,8,none⟩=some (.string y.value.a.sym.text):=(We 8 _ rfl);have e9:W6.cell? ⟨wr.heap.size,9,none⟩=some (.int .i64 y.value.a.sym.n):=(We 9 _ rfl);have e10:W6.cell? ⟨wr.heap.size,10,none⟩=some (.string y.value.b.var):=(We 10 _ rfl);have e11:W6.cell? ⟨wr.heap.size,11,none⟩=some (.int .i64 y.value.b.sym.kind):=(We 11 _ rfl);have e12:W6.cell? ⟨wr.heap.size,12,none⟩=some (.string y.value.b.sym.text):=(We 12 _ rfl);have e13:W6.cell? ⟨wr.heap.size,13,none⟩=some (.int .i64 y.value.b.sym.n):=(We 13 _ rfl);have T5:wr.heap.size<W6.heap.size:=Zt5 _ _ e1;have T9:=hU (Bw.o.below (Vt.o.trans (Jp.mono Vt.o.size)));clear hy xy We Jp;cases hla:Z68 K3 y.attr
          · skip
            have hA:=T9.o.lacks y.attr Cz;rw [hla] at hA;have HA:=hU hA;clear hA;by_cases h0:y.value.op=0
            · have o1:(y.value.op == 0)=true:=by simp [h0]
              (have o2:decide (y.value.op=0)=true:=by simp [h0]);have o3 :¬¬y.value.op=0:=fun h=>h h0;have HV:=hU (show actV K3 y=false by simp [actV,hla,h0]);clear hla h0
              go_wp2_with (first
               | (with_reducible refine wpList_load_mid rfl 181 _ rfl gg (oo+i*19) rfl (Q0e y) _ ly.o Tryz.underlying181 rfl Yb ?_)
               | ((with_reducible refine wpList_store_mid rfl 181 _ _ rfl wr.heap.size 0 (Q0f y) rfl rfl Nw.o Yb Yb ?_);rw [←F1.o])
               | ((with_reducible refine HA.o.mono ?_);rintro e w7 ⟨rfl,Vn⟩;obtain ⟨Jt,-⟩:=Z0i Vn;have Uk:=Vn.size;have Tb:=Zsw T5 Uk;have ms:=hU Vn;clear Vn))
              have rt:=hU (Vt.o.trans ((gi.o.trans (ms.o.mono gi.o.size)).mono Dy));exact Y7s
            · have o1:(y.value.op == 0)=false:=by simp [h0]
              (have o2:decide (y.value.op=0)=false:=by simp [h0]);cases hlb:Z68 K3 y.value.a
              · skip
                cases hlc:Z68 K3 y.value.b
                · skip
                  have HV:=hU (show actV K3 y=false by simp [actV,hla,h0,hlb,hlc]);clear hla
                  go_wp2_with (first
                   | (with_reducible refine wpList_load_mid rfl 181 _ rfl gg (oo+i*19) rfl (Q0e y) _ ly.o Tryz.underlying181 rfl Yb ?_)
                   | ((with_reducible refine wpList_store_mid rfl 181 _ _ rfl wr.heap.size 0 (Q0f y) rfl rfl Nw.o Yb Yb ?_);rw [←F1.o])
                   | ((with_reducible refine HA.o.mono ?_);rintro e w7 ⟨rfl,Vn⟩;obtain ⟨Jt,-⟩:=Z0i Vn;have Uk:=Vn.size;have Tb:=Zsw T5 Uk;have ms:=hU Vn;clear Vn))
                  have Su:=hU (T9.o.below ms.o);have jw:=Su.o.lacks y.value.a Cz;rw [hlb] at jw;clear hlb;refine jw.mono ?_;rintro e w8 ⟨rfl,gl⟩;obtain ⟨hc8,-⟩:=Z0i gl;have Ea:=gl.size;have ld:=hU gl;clear gl jw;go_wp2_with fail;have Fb:=hU (Su.o.below ld.o);have yw:=Fb.o.lacks y.value.b Cz;rw [hlc] at yw;clear hlc;refine Ym6 ?_;intro w9 Ct rt;clear Ct yw;go_wp2_with fail;exact Y7s
                · skip
                  have HV:=hU (show actV K3 y=true by simp [actV,hla,h0,hlb,hlc]);clear hla
                  go_wp2_with (first
                   | (with_reducible refine wpList_load_mid rfl 181 _ rfl gg (oo+i*19) rfl (Q0e y) _ ly.o Tryz.underlying181 rfl Yb ?_)
                   | ((with_reducible refine wpList_store_mid rfl 181 _ _ rfl wr.heap.size 0 (Q0f y) rfl rfl Nw.o Yb Yb ?_);rw [←F1.o])
                   | ((with_reducible refine HA.o.mono ?_);rintro e w7 ⟨rfl,Vn⟩;obtain ⟨Jt,-⟩:=Z0i Vn;have Uk:=Vn.size;have Tb:=Zsw T5 Uk;have ms:=hU Vn;clear Vn))
                  have Su:=hU (T9.o.below ms.o);have jw:=Su.o.lacks y.value.a Cz;rw [hlb] at jw;clear hlb;refine jw.mono ?_;rintro e w8 ⟨rfl,gl⟩;obtain ⟨hc8,-⟩:=Z0i gl;have Ea:=gl.size;have ld:=hU gl;clear gl jw;go_wp2_with fail;have Fb:=hU (Su.o.below ld.o);have yw:=Fb.o.lacks y.value.b Cz;rw [hlc] at yw;clear hlc;refine Ym6 ?_;intro w9 Ct rt;clear Ct yw
                  exact Ybv
              · skip
                have HV:=hU (show actV K3 y=true by simp [actV,hla,h0,hlb]);clear hla
                go_wp2_with (first
                 | (with_reducible refine wpList_load_mid rfl 181 _ rfl gg (oo+i*19) rfl (Q0e y) _ ly.o Tryz.underlying181 rfl Yb ?_)
                 | ((with_reducible refine wpList_store_mid rfl 181 _ _ rfl wr.heap.size 0 (Q0f y) rfl rfl Nw.o Yb Yb ?_);rw [←F1.o])
                 | ((with_reducible refine HA.o.mono ?_);rintro e w7 ⟨rfl,Vn⟩;obtain ⟨Jt,-⟩:=Z0i Vn;have Uk:=Vn.size;have Tb:=Zsw T5 Uk;have ms:=hU Vn;clear Vn))
                have Su:=hU (T9.o.below ms.o);have jw:=Su.o.lacks y.value.a Cz;rw [hlb] at jw;clear hlb;refine jw.mono ?_;rintro e w8 ⟨rfl,gl⟩;have rt:=hU (Vt.o.trans ((gi.o.trans ((ms.o.trans (gl.mono ms.o.size)).mono gi.o.size)).mono Dy));clear gl jw
                exact Ybv
          · skip
            have hA:=T9.o.lacks y.attr Cz;rw [hla] at hA;have HA:=hU hA;clear hA;have HV:=hU (show actV K3 y=true by simp [actV,hla]);clear hla
            go_wp2_with (first
             | (with_reducible refine wpList_load_mid rfl 181 _ rfl gg (oo+i*19) rfl (Q0e y) _ ly.o Tryz.underlying181 rfl Yb ?_)
             | ((with_reducible refine wpList_store_mid rfl 181 _ _ rfl wr.heap.size 0 (Q0f y) rfl rfl Nw.o Yb Yb ?_);rw [←F1.o])
             | ((with_reducible refine HA.o.mono ?_);rintro e w7 ⟨rfl,Vn⟩;have ms:=hU Vn;clear Vn))
            have rt:=hU (Vt.o.trans ((gi.o.trans (ms.o.mono gi.o.size)).mono Dy))
            exact Ybv
        · have Np:i=p.acts.length:=by omega
          have pl:p.acts.findIdx? (actV K3)=none:=by
           rw [List.findIdx?_eq_none_iff];intro x hx;obtain ⟨j,hj,rfl⟩:=List.getElem_of_mem hx;exact Ci.o j hj Ya
          have hR:=HR.o;rw [pl] at hR;have O8:=hU hR;obtain ⟨σr,Ar,cr,g1,g2,g3,g4⟩:=Bw.o.below Vt.o;have k1:wr.cell? ⟨kb,1,none⟩=some (.slice Ar K3.2.length cr):=(g2.blk.cell 1).trans rfl;have hkr:=g2.blk.lt;have Kc:=hU g2.row;subst Np;clear pl hR g1 g2 g3 g4;go_wp2_with fail;go_quiet (fail);go_wp2_with fail
          go_ret3
          unfold Z5h;rw [O8.o];exact ⟨Ar,cr,rfl,Z02 Kc.o (Below.drewN' (Zst _ _) _),Xp.o.trans ((Vt.o.trans (Below.mono (Below.drewN' (Zst _ _) _) Dy)).mono Ew)⟩
   · have t1:(x.kind == 1)=false:=by simp [hx1]
     (have t1':decide (x.kind=1)=false:=by simp [hx1]);have HR:=hU (Zd4 Vf.o HXL.o hx1);clear hx1;go_wp2_with fail
     go_ret3
     exact Z5h.none_ HR.o Un.o
 · have s1:(se == 0)=false:=by simp [hs0]
   (have s2:decide (se=0)=false:=by simp [hs0]);have HR:=hU (show Z41 n p=(sa,se,[]) by rw [Zif (by rw [og.o];exact hs0),og.o]);clear hs0;go_wp2_with fail
   go_ret3
   exact Z5h.none_ HR.o Un.o
end
section
open Go.RowKit Go.Shelf
theorem Zo3 {D:Nat→Prop}(p:Z3r) (n:Nat) (A1 A2:Option Addr) (c1 c2:Nat) (w:World) (h1:RowR (Z09 n) D w A1 c1 p.conds) (h2:RowR Z1x D w A2 c2 p.acts) (hD :∀k,D k→k<w.heap.size) (hF:(Z17 n 0 p.conds).length≤1000000000) (hn:n≤1000000000) :
 Calls Tryz.prog 84 #[.agg (Q0v p A1 c1 A2 c2)] w fun e W'=>e = .returned (.tuple #[.int .i64 (Z41 n p).1,.int .i64 (Z41 n p).2.1])∧Below w.heap.size w W':=by
 have hb:Below w.heap.size w (w.alloc (.cells (Q0v p A1 c1 A2 c2) 29)):=(Zst _ _).alloc (Zsu _) _;have HC:=hU (Zig p n A1 A2 c1 c2 _ (h1.new_ hb) (h2.new_ hb) (fun k hk=>Zsw (hD k hk) hb.size) hF hn);have HB:=hU hb;clear h1 h2 hD hF hn hb;go_enter Tryz.func84,Tryz.ntmps84;go_wp2_with fail;refine HC.o.mono ?_;rintro e w2 ⟨A,c,rfl,-,lg⟩;have Un:=hU (HB.o.trans (lg.mono HB.o.size));clear lg;go_wp2_with fail;go_ret2;exact ⟨rfl,Un.o⟩
end
end Go.Proofs.YtcnnofgaifcgaaaGreat
