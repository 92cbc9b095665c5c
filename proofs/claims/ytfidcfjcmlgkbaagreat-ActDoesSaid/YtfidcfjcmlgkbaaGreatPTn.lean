/-
  Texts put together: Known6, ActDo1, DoPlain, RangeT, Known3, Known7.
-/
import Derived.Test.YtfidcfjcmlgkbaaGreatPTm
namespace Go.Proofs.YtfidcfjcmlgkbaaGreat
open Lib (hid)
set_option maxRecDepth 100000
set_option maxHeartbeats 32000000
section
open Go.RowKit Go.Shelf
theorem Sets.more {α:Type} {tSet tE size:Nat} {cells:α→List Value} {cmp:α→α→Int} {D D2:Nat→Prop} {w:World} {S:Nat→Option (List α)} {σ:Nat→St} (h:Sets tSet tE size cells cmp D w S σ) (hD : ∀q,D2 q→D q∨(Off q S σ∧q<w.heap.size)):Sets tSet tE size cells cmp D2 w S σ:=
 ⟨h.at_,h.srt,fun b l hb=>⟨fun hd=>(hD b hd).elim (h.out b l hb).1 (fun ho=>(ho.1 b l hb).1 rfl),fun hs a ha hd=>(hD _ hd).elim (fun hd=>(h.out b l hb).2 hs a ha hd) (fun ho=>(ho.1 b l hb).2 a ha rfl)⟩,h.apart,fun k hk=>(hD k hk).elim (h.low k) (·.2)⟩
theorem Sets.drop_ {α:Type} {tSet tE size:Nat} {cells:α→List Value} {cmp:α→α→Int} {D:Nat→Prop} {w:World} {S:Nat→Option (List α)} {σ:Nat→St} {k:Nat} {m:List α} (h:Sets tSet tE size cells cmp D w (upd S k (some m)) σ) (hk:S k=none):Sets tSet tE size cells cmp D w S σ:=by
 have hup : ∀b l,S b=some l→upd S k (some m) b=some l:=fun b l hb=>by
  rw [Z0q _ _ (fun e=>by rw [e,hk] at hb;cases hb)];exact hb
 exact ⟨fun b l hb=>h.at_ b l (hup b l hb),fun b l hb=>h.srt b l (hup b l hb),fun b l hb=>h.out b l (hup b l hb),fun b l b' l' hb hb'=>h.apart b l b' l' (hup b l hb) (hup b' l' hb'),h.low⟩
def Zk4 (D:Nat→Prop) (W:World) (S:Nat→Option (List Name)) (kb sb:Nat) (K:Kn) (X:World) (e:Ending) (w5:World):Prop:=
 ∃kb' sb' D2 S2,e = .returned (.pointer (some ⟨kb',0,none⟩))∧KSt D2 w5 S2 kb' sb' (K.1,[]) w5∧¬D2 kb'∧(∀k,D k→D2 k)∧(∀b t cs,Blk X b t cs→t≠270→Blk w5 b t cs)∧Fr (fun j=>¬D j) X w5∧(∀K2 w6,KSt D2 w5 S2 kb' sb' K2 w6→KSt D W S kb sb K w6)
theorem Zde {D:Nat→Prop} {W X:World} {S:Nat→Option (List Name)} {kb sb:Nat} {K:Kn} (h:KSt D W S kb sb K X):Calls Tryz.prog 180 #[.pointer (some ⟨kb,0,none⟩)] X (Zk4 D W S kb sb K X):=by
 obtain ⟨σ',A',c',h1,h2,h3,h4⟩:=h;refine (Zfu h1 h2).mono ?_;rintro e w5 ⟨kb',sb',rfl,hk,hs,⟨σ2,g1⟩,g2,g3,g4⟩;have hsa:=h1.at_ sb K.1 (Z06 _ _ _);have hkb5:Blk w5 kb _ _:=h2.blk.fr g4 (fun e=>h2.blk.ne_ hsa.blk (by decide) e);have hrow5:=Z12 h2.row g4 (fun g hg e=>Z0d h2.row hsa.blk (by decide) (by rw [hg,e]));have hAs:=Z3p hrow5
 have hnone:upd S sb (some K.1) sb'=none:=by
  cases hx:upd S sb (some K.1) sb' with
  | none=>rfl
  | some m=>exact absurd (h1.lt hx) (by omega)
 refine ⟨kb',sb',fun k=>D k∨k=kb∨(∃a,A'=some a∧a.block=k),upd S sb (some K.1),rfl,?_,?_,fun k hk=>.inl hk,?_,g3,?_⟩
 · refine ⟨σ2,none,0,Sets.more g1 (fun q hq=>?_),g2,AIn.none_ _,Fr.refl _ _⟩
   rcases hq with hq | rfl | ⟨a,rfl,rfl⟩
   · exact .inl hq
   · exact .inr ⟨g1.off_of hkb5 (by decide) (by decide),hkb5.lt⟩
   · refine .inr ⟨?_,hAs a rfl⟩
     rcases hrow5.2 with ⟨hv,_⟩ | ⟨g,cap,cur,hv,_,hg,_⟩
     · simp at hv
     · simp only [Value.slice.injEq,Option.some.injEq] at hv
       rw [hv.1];exact g1.off_of (t:=9) hg (by decide) (by decide)
 · rintro (hd | rfl | ⟨a,rfl,rfl⟩)
   · have:=h1.low _ hd;omega
   · have:=h2.blk.lt;omega
   · have:=Z3p h2.row a rfl;omega
 · intro b t cs hb hne
   exact hb.fr g4 (fun e=>hb.ne_ hsa.blk hne e)
 · rintro K2 w6 ⟨σ3,A3,c3,k1,k2,k3,k4⟩
   refine ⟨σ3,A',c',(k1.drop_ hnone).weaken (fun k hk=>.inl hk),⟨hkb5.fr k4 (fun hn=>hn (.inr (.inl rfl))),Z12 hrow5 k4 (fun g hg hn=>hn (.inr (.inr ?_))),Z06 _ _ _⟩,h3,(h4.trans g3).trans (k4.mono (fun j _ hj hd=>hj (.inl hd)))⟩;rcases A' with _ | a
   · simp [Value.ownBlock] at hg
   · exact ⟨a,rfl,by simpa [Value.ownBlock] using hg⟩
theorem Z3z (n:Nat) (k:Kn) (c:Z0o) (l:List Z0o) (a:Int):Z18 (n+1) k (c :: l) a=if c.kind=3 then
 (match Z18 n (k.1,[]) c.conds (a+1) with
   | (true,a2,_)=>Z18 (n+1) k l a2
   | (false,a2,_)=>(false,a2,k))
 else
  (match oneK (if c.kind=1 then k else (k.1,[])) c with
    | (true,k2)=>Z18 (n+1) (if c.kind=1 then k2 else k) l (a+1)
    | (false,_)=>(false,a,k)):=by rw [Z18]<;>rfl
theorem Z5f (n:Nat) (k:Kn) (a:Int):Z18 n k [] a=(true,a,k):=by
 cases n<;>rw [Z18]
theorem Z6c (n d:Nat):Z0f n d [] = []:=by cases n<;>rfl
def Zan (x:Nat×Z0o):Prop:=x.2.attr.length≤4∧x.2.value.length≤4∧(x.2.kind≠3→x.2.conds = [])
def Z5t (D:Nat→Prop) (W:World) (S:Nat→Option (List Name)) (kb sb:Nat) (K:Kn) (at_ m:Nat) (r:Bool×Int×Kn) (e:Ending) (W':World):Prop:=
 e = .returned (.tuple #[.int .i64 r.2.1,.bool r.1])∧Fr (fun j=>¬D j) W W'∧(r.1=true→KSt D W S kb sb r.2.2 W'∧r.2.1=((at_+m:Nat):Int)∧r.2.2.1.length≤K.1.length+9*m∧r.2.2.2.length≤K.2.length+9*m)
theorem Zfs : ∀(n d at_:Nat) (D:Nat→Prop) (W:World) (S:Nat→Option (List Name)) (kb sb:Nat) (K:Kn) (A:Option Addr) (c:Nat) (l:List Z0o),KSt D W S kb sb K W→¬D kb→RowR (Z0g n) D W A c l→(∀x∈Z0f n d l,Zan x)→K.1.length+9*(Z0f n d l).length≤900000→K.2.length+9*(Z0f n d l).length≤900000→at_+(Z0f n d l).length≤1000000000→
 Calls Tryz.prog 138 #[.pointer (some ⟨kb,0,none⟩),.slice A l.length c,.int .i64 (at_:Int)] W (Z5t D W S kb sb K at_ (Z0f n d l).length (Z18 n K l at_)):=by
 intro n
 induction n with
 | zero=>
   intro d at_ D W S kb sb K A c l hst hkD h hsm hl1 hl2 hla
   have hl0:l = []:=by
    cases l with
    | nil=>rfl
    | cons x l=>
      obtain ⟨b,off,cs,_,_,_,hr,_⟩:=h.at_ (k:=0) (by simp);exact hr.elim
   subst hl0;have H0:=hid hst;have HN:=hid (Z5f 0 K at_);clear h hst hsm hkD;go_enter Tryz.func138,Tryz.ntmps138;go_wp2_with fail
   go_loopw [2,15] (fun a s wr=>s = .int .i64 0∧a = .int .i64 (at_:Int)∧wr=W) (fun a s wr=>0)
   case atStart=>exact ⟨rfl,rfl,rfl⟩
   case round=>
    obtain ⟨rfl,rfl,rfl⟩:=hrel;(go_wp2_with fail);go_ret2;unfold Z5t;rw [HN.out];exact ⟨rfl,Fr.refl _ _,fun _=>⟨H0.out,by simp [Z0f],by simp [Z0f],by simp [Z0f]⟩⟩
 | succ n ih=>
   intro d at_ D W S kb sb K A c l hst hkD h hsm hl1 hl2 hla;have H0:=hid hst;have HKD:=hid hkD;have HR:=hid h;have HSM:=hid hsm;have IH:=hid ih;have hlc:=h.cap;obtain ⟨tot,htot⟩ : ∃tot,tot=(Z0f (n+1) d l).length:=⟨_,rfl⟩;rw [← htot] at hl1 hl2 hla ⊢;have HTOT:=hid htot;clear h hst hsm hkD ih htot;go_enter Tryz.func138,Tryz.ntmps138;go_wp2_with fail
   go_loopw [2,15] (fun a s wr=>∃(i m:Nat) (K':Kn),s = .int .i64 i∧i≤l.length∧m=(Z0f (n+1) d (l.take i)).length∧a = .int .i64 ((at_+m:Nat):Int)∧Z18 (n+1) K l at_=Z18 (n+1) K' (l.drop i) ((at_+m:Nat):Int)∧KSt D W S kb sb K' wr∧K'.1.length≤K.1.length+9*m∧K'.2.length≤K.2.length+9*m) (fun a s wr=>l.length - (intOf s).toNat)
   case atStart=>exact ⟨0,0,K,rfl,Nat.zero_le _,by simp [Z0f],rfl,rfl,H0.out,Zkt _,Zkt _⟩
   case round=>
    obtain ⟨i,m,K',rfl,hi,hm,rfl,heq,hst,hk1,hk2⟩:=hrel;have HEQ:=hid heq;have HST:=hid hst;have HM:=hid hm;clear heq hst hm;by_cases hlt:i<l.length
    · obtain ⟨y,hy⟩ : ∃y,y=l[i]:=⟨_,rfl⟩
      obtain ⟨k,hk⟩ : ∃k,k=at_+m:=⟨_,rfl⟩;obtain ⟨mi,hmi⟩ : ∃mi,mi=(Z0f n (d+1) y.conds).length:=⟨_,rfl⟩;have hsn:=Z3u n d l i hlt;rw [← hy] at hsn;have HM1:=hid (show (Z0f (n+1) d (l.take (i+1))).length=m+1+mi by rw [hsn,Zlb,Zle,← HM.out,← hmi];omega)
      have hle:m+1+mi≤tot:=by
       rw [← HM1.out,HTOT.out]
       conv=>rhs;rw [← List.take_append_drop (i+1) l,Z1u,Zl3,Zlb]
       rw [Z1u];omega
      have hin : ∀x,x∈(d,y) :: Z0f n (d+1) y.conds→x∈Z0f (n+1) d l:=by
       intro x hx;rw [Z1u];exact List.mem_flatMap.2 ⟨y,by rw [hy];exact Zlj hlt,hx⟩
      have hsy:Zan (d,y):=HSM.out _ (hin _ Zmb);have HSY:=hid (show ∀x∈Z0f n (d+1) y.conds,Zan x from fun x hx=>HSM.out _ (hin _ (Zm0 _ hx)));obtain ⟨hsy1,hsy2,hsy3⟩:=hsy;dsimp only at hsy1 hsy2 hsy3;have HMI:=hid (show y.kind≠3→mi=0 from fun hk=>by rw [hmi,hsy3 hk,Z6c];rfl);clear hsy3;have hdr:=Z6b hlt;rw [← hy] at hdr;have HEQ2:=hid (show Z18 (n+1) K l at_=Z18 (n+1) K' (y :: l.drop (i+1)) (k:Int) by rw [HEQ.out,hdr,hk]);obtain ⟨g,off,A1,c1,A2,c2,A3,c3,rfl,_,hg,q0,q1,q2,q3,q4,q5,q6,r1,r2,r3⟩:=Z3r (HR.out.fr HST.out.fr_ (fun j hd hn=>hn hd)) hlt;rw [← hy] at q0 q1 q2 q3 q4 q5 q6 r1 r2 r3;have HR1:=hid r1;have HR2:=hid r2;have HR3:=hid r3;have hn3:=r3.cap;(have b1:(0:Int)≤(i:Int):=by omega);(have b2:(i:Int)<(l.length:Int):=by omega);have hzr:=HST.out.fr_.size;(have v1:IntKind.i64.wrap ((k:Int)+1)=((k+1:Nat):Int):=by rw [Zl5 _ (by omega)];rfl);have HK:=hid hk;rw [← hk];have HME:=hid hmi;clear hy hsn hin hdr r1 r2 r3 hk hmi;by_cases kd1:y.kind=1
      · have t1:(y.kind == 1)=true:=by simp [kd1]
        (have t1':decide (y.kind=1)=true:=by simp [kd1]);(have t3:(y.kind == 3)=false:=by simp [kd1]);(have t3':decide (y.kind=3)=false:=by simp [kd1]);obtain ⟨bo,ko,ho⟩ : ∃b k,oneK K' y=(b,k):=⟨_,_,rfl⟩
        have HEQ3:=hid (show Z18 (n+1) K l at_=if bo=true then Z18 (n+1) ko (l.drop (i+1)) ((k:Int)+1) else (false,(k:Int),K') by
         rw [HEQ2.out,Z3z,if_neg (by rw [kd1];decide)];simp only [if_pos kd1,ho]
         cases bo<;>rfl)
        have HM0:=hid (HMI.out (by rw [kd1];decide));clear kd1;(go_wp2_with fail);obtain ⟨X,hX⟩ : ∃X,X=wr.alloc (.cells #[.int .i64 y.kind,.bool y.goal,.string y.id,.slice A1 y.attr.length c1,.slice A2 y.value.length c2,.bool y.acc,.slice A3 y.conds.length c3] 59):=⟨_,rfl⟩;rw [← hX];(have hbX:Below wr.heap.size wr X:=by rw [hX];exact (Zks _ _).alloc (Zkt _) _);(have hBk:Blk X wr.heap.size 59 #[.int .i64 y.kind,.bool y.goal,.string y.id,.slice A1 y.attr.length c1,.slice A2 y.value.length c2,.bool y.acc,.slice A3 y.conds.length c3]:=by rw [hX];exact Blk.new _ _ _);have HBX:=hid hbX;have HBK:=hid hBk;clear hX hbX hBk;have hko:=Zfw y (A3:=A3) (c3:=c3) (HST.out.below HBX.out).prot0 HKD.out (HR1.out.new_ HBX.out) (HR2.out.new_ HBX.out) (by omega) (by omega);rw [ho] at hko;refine hko.mono ?_;rintro e w6 ⟨rfl,hst6,hl6,hl7⟩;have HST6:=hid (hst6.join (HST.out.below HBX.out));dsimp only at hl6 hl7;clear hko ho hst6 q0 q1 q2 q3 q4 q5 q6
        cases bo with
        | false=>
          (go_wp2_with fail);go_ret2;unfold Z5t;rw [HEQ3.out,if_neg (by decide)];exact ⟨rfl,HST6.out.fr_,fun h=>by cases h⟩
        | true=>
          (go_wp2_with fail);go_roundw
          case rel=>
           (have hat:((at_+(m+1+mi):Nat):Int)=(k:Int)+1:=by have:=HM0.out;have:=HK.out;omega);refine ⟨i+1,m+1+mi,ko,by go_num,by omega,HM1.out.symm,by rw [hat],by rw [hat,HEQ3.out];simp,HST6.out,by omega,by omega⟩
          case measure=>simp [intOf]<;>omega
      · have t1:(y.kind == 1)=false:=by simp [kd1]
        (have t1':decide (y.kind=1)=false:=by simp [kd1]);by_cases kd3:y.kind=3
        · have t3:(y.kind == 3)=true:=by simp [kd3]
          (have t3':decide (y.kind=3)=true:=by simp [kd3]);obtain ⟨⟨bo,ao,ko⟩,ho⟩ : ∃r,Z18 n (K'.1,[]) y.conds ((k+1:Nat):Int)=r:=⟨_,rfl⟩
          have HEQ3:=hid (show Z18 (n+1) K l at_=if bo=true then Z18 (n+1) K' (l.drop (i+1)) ao else (false,ao,K') by
           rw [HEQ2.out,Z3z,if_pos kd3,show ((k:Int)+1)=((k+1:Nat):Int) by omega,ho]
           cases bo<;>rfl)
          have T3:=hid t3;have T3':=hid t3';clear kd1 kd3 t3 t3';(go_wp2_with fail);obtain ⟨X,hX⟩ : ∃X,X=wr.alloc (.cells #[.int .i64 y.kind,.bool y.goal,.string y.id,.slice A1 y.attr.length c1,.slice A2 y.value.length c2,.bool y.acc,.slice A3 y.conds.length c3] 59):=⟨_,rfl⟩;rw [← hX];(have hbX:Below wr.heap.size wr X:=by rw [hX];exact (Zks _ _).alloc (Zkt _) _);(have hBk:Blk X wr.heap.size 59 #[.int .i64 y.kind,.bool y.goal,.string y.id,.slice A1 y.attr.length c1,.slice A2 y.value.length c2,.bool y.acc,.slice A3 y.conds.length c3]:=by rw [hX];exact Blk.new _ _ _);have HBX:=hid hbX;have HBK:=hid hBk;clear hX hbX hBk;refine (Zde (HST.out.below HBX.out)).mono ?_;rintro e w5 ⟨kb',sb',D2,S2,rfl,hs5,hkD2,hDD,hbl,hF5,hback⟩;have HF5:=hid ((HST.out.below HBX.out).fr_.trans hF5);have HDD:=hid hDD;have hBk5:=hbl _ _ _ HBK.out (by decide);have HB5:=hid hBk5;have HBACK:=hid hback;have hg5:=hBk5.lt;have x0:w5.cell? ⟨wr.heap.size,0,none⟩=some (.int .i64 y.kind):=(hBk5.cell 0).trans rfl;have x6:w5.cell? ⟨wr.heap.size,6,none⟩=some (.slice A3 y.conds.length c3):=(hBk5.cell 6).trans rfl;have hih:=IH.out (d+1) (k+1) D2 w5 S2 kb' sb' (K'.1,[]) A3 c3 y.conds hs5 hkD2 (((HR3.out.new_ HBX.out).fr hF5 (fun k hk hn=>hn hk)).weaken hDD) HSY.out (by have:=HME.out;dsimp only;omega) (by have:=HME.out;simp;omega) (by have:=HME.out;have:=HK.out;omega);rw [ho] at hih;have HIH:=hid hih;clear hih hs5 hkD2 hDD hbl hF5 hback hBk5 ho q0 q1 q2 q3 q4 q5 q6;have t3:=T3.out;have t3':=T3'.out;(go_wp2_with fail);refine HIH.out.mono ?_;rintro e w6 ⟨rfl,hF6,htr⟩
          cases bo with
          | false=>
            have HF6:=hid hF6;clear htr hF6 x0 x6;(go_wp2_with fail);go_ret2;unfold Z5t;rw [HEQ3.out,if_neg (by decide)];exact ⟨rfl,HF5.out.trans (HF6.out.mono (fun j _ hj hd=>hj (HDD.out j hd))),fun h=>by cases h⟩
          | true=>
            obtain ⟨hst6,ha6,hl6,hl7⟩:=htr rfl;have HST6:=hid (HBACK.out _ _ hst6);dsimp only at ha6;have HA6:=hid ha6;clear htr hF6 x0 x6 hst6 ha6 hl6 hl7;(go_wp2_with fail);go_roundw
            case rel=>
             (have hat:ao=((at_+(m+1+mi):Nat):Int):=by have:=HA6.out;have:=HK.out;have:=HME.out;omega);refine ⟨i+1,m+1+mi,K',by go_num,by omega,HM1.out.symm,by rw [hat],by rw [HEQ3.out,hat];simp,HST6.out,by omega,by omega⟩
            case measure=>simp [intOf]<;>omega
        · have t3:(y.kind == 3)=false:=by simp [kd3]
          (have t3':decide (y.kind=3)=false:=by simp [kd3]);obtain ⟨bo,ko,ho⟩ : ∃b k,oneK (K'.1,[]) y=(b,k):=⟨_,_,rfl⟩
          have HEQ3:=hid (show Z18 (n+1) K l at_=if bo=true then Z18 (n+1) K' (l.drop (i+1)) ((k:Int)+1) else (false,(k:Int),K') by
           rw [HEQ2.out,Z3z,if_neg kd3];simp only [if_neg kd1,ho]
           cases bo<;>rfl)
          have HM0:=hid (HMI.out kd3);have T3:=hid t3;have T3':=hid t3';clear kd1 kd3 t3 t3';(go_wp2_with fail);obtain ⟨X,hX⟩ : ∃X,X=wr.alloc (.cells #[.int .i64 y.kind,.bool y.goal,.string y.id,.slice A1 y.attr.length c1,.slice A2 y.value.length c2,.bool y.acc,.slice A3 y.conds.length c3] 59):=⟨_,rfl⟩;rw [← hX];(have hbX:Below wr.heap.size wr X:=by rw [hX];exact (Zks _ _).alloc (Zkt _) _);(have hBk:Blk X wr.heap.size 59 #[.int .i64 y.kind,.bool y.goal,.string y.id,.slice A1 y.attr.length c1,.slice A2 y.value.length c2,.bool y.acc,.slice A3 y.conds.length c3]:=by rw [hX];exact Blk.new _ _ _);have HBX:=hid hbX;have HBK:=hid hBk;clear hX hbX hBk;refine (Zde (HST.out.below HBX.out)).mono ?_;rintro e w5 ⟨kb',sb',D2,S2,rfl,hs5,hkD2,hDD,hbl,hF5,hback⟩;have HF5:=hid ((HST.out.below HBX.out).fr_.trans hF5);have HDD:=hid hDD;have hBk5:=hbl _ _ _ HBK.out (by decide);have HBACK:=hid hback;have hg5:=hBk5.lt;have x0:w5.cell? ⟨wr.heap.size,0,none⟩=some (.int .i64 y.kind):=(hBk5.cell 0).trans rfl;have x1:w5.cell? ⟨wr.heap.size,1,none⟩=some (.bool y.goal):=(hBk5.cell 1).trans rfl;have x2:w5.cell? ⟨wr.heap.size,2,none⟩=some (.string y.id):=(hBk5.cell 2).trans rfl;have x3:w5.cell? ⟨wr.heap.size,3,none⟩=some (.slice A1 y.attr.length c1):=(hBk5.cell 3).trans rfl;have x4:w5.cell? ⟨wr.heap.size,4,none⟩=some (.slice A2 y.value.length c2):=(hBk5.cell 4).trans rfl;have x5:w5.cell? ⟨wr.heap.size,5,none⟩=some (.bool y.acc):=(hBk5.cell 5).trans rfl;have x6:w5.cell? ⟨wr.heap.size,6,none⟩=some (.slice A3 y.conds.length c3):=(hBk5.cell 6).trans rfl;have hko:=Zfw y (A3:=A3) (c3:=c3) hs5 hkD2 (((HR1.out.new_ HBX.out).fr hF5 (fun k hk hn=>hn hk)).weaken hDD) (((HR2.out.new_ HBX.out).fr hF5 (fun k hk hn=>hn hk)).weaken hDD) (by dsimp only;omega) (by dsimp only;simp;omega);rw [ho] at hko;have HKO:=hid hko;clear hko hs5 hkD2 hDD hbl hF5 hback hBk5 ho q0 q1 q2 q3 q4 q5 q6;have t3:=T3.out;have t3':=T3'.out;(go_wp2_with fail);refine HKO.out.mono ?_;rintro e w6 ⟨rfl,hst6,-,-⟩;have HST6:=hid hst6;clear hst6 x0 x1 x2 x3 x4 x5 x6
          cases bo with
          | false=>
            (go_wp2_with fail);go_ret2;unfold Z5t;rw [HEQ3.out,if_neg (by decide)];exact ⟨rfl,HF5.out.trans (HST6.out.fr_.mono (fun j _ hj hd=>hj (HDD.out j hd))),fun h=>by cases h⟩
          | true=>
            (go_wp2_with fail);go_roundw
            case rel=>
             (have hat:((at_+(m+1+mi):Nat):Int)=(k:Int)+1:=by have:=HM0.out;have:=HK.out;omega);refine ⟨i+1,m+1+mi,K',by go_num,by omega,HM1.out.symm,by rw [hat],by rw [hat,HEQ3.out];simp,HBACK.out _ _ HST6.out,by omega,by omega⟩
            case measure=>simp [intOf]<;>omega
    · have hie:i=l.length:=by omega
      subst hie;rw [Zll,← HTOT.out] at HM;rw [Zlz,Z5f] at HEQ;have hm:=HM.out;subst hm;(go_wp2_with fail);go_ret2;unfold Z5t;rw [HEQ.out];exact ⟨rfl,HST.out.fr_,fun _=>⟨HST.out,rfl,hk1,hk2⟩⟩
def frs (room:Int) (s:List Z05×List Sym) (v:ByteArray):List Z05×List Sym:=(s.1 ++ [⟨v,Z21 room s.2 (Z1j v)⟩],Z20 room s.2 (Z1j v))
def Z1m (room:Int) (l:List Z05) (L:List Sym) (vs:List ByteArray):List Z05×List Sym:=vs.foldl (frs room) (l,L)
theorem Z2v (room:Int) (l:List Z05) (L:List Sym) (vs:List ByteArray) (v:ByteArray):Z1m room l L (vs ++ [v])=frs room (Z1m room l L vs) v:=by unfold Z1m;rw [List.foldl_append];rfl
theorem Z96 (room:Int) (l:List Z05) (L:List Sym) : ∀vs:List ByteArray,(Z1m room l L vs).1.length=l.length+vs.length:=by
 intro vs
 have : ∀(vs:List ByteArray) (s:List Z05×List Sym),(vs.foldl (frs room) s).1.length=s.1.length+vs.length:=by
  intro vs
  induction vs with
  | nil=>intro s;rfl
  | cons v vs ih=>intro s;rw [List.foldl_cons,ih];simp [frs];omega
 exact this vs (l,L)
def Z0x (room:Int):List Sym→List ByteArray→Int
 | _,[]=>0
 | L,v :: r=>if Z26 room L (Z1j v)≠0 then Z26 room L (Z1j v) else Z0x room (Z20 room L (Z1j v)) r
def Z34 (b:List Z05) (a:ActT):Option Z17:=
 if (Z29 a.value b).2=false∨Z51 (getB b a.id).1 (Z14 a.attr b).1 (Z29 a.value b).1=false then none
 else if Z1b a.pref=true then (if Z07 (Z14 a.other b).1=false then none else some ⟨(getB b a.id).1,(Z14 a.attr b).1,(Z29 a.value b).1,(Z14 a.other b).1,a.pref,false,0,0⟩)
 else some ⟨(getB b a.id).1,(Z14 a.attr b).1,(Z29 a.value b).1,zS,a.pref,false,0,0⟩
def putA (b:List Z05) (a:ActT):List Sym:=
 match Z34 b a with
 | none=>[]
 | some x=>if Z1b a.pref=true then [x.other,x.id,x.attr,x.value] else [x.id,x.attr,x.value]
def Z2r (l:List Z05) (acts:List ActT):List ByteArray:=Z2w l (acts.flatMap Z09)
def Z1e (room:Int) (l:List Z05) (acts:List ActT) (L:List Sym):List Z05×List Sym:=Z1m room l L (Z2r l acts)
def doV (room:Int) (l:List Z05) (acts:List ActT) (L:List Sym):(List Z17×List Z05×Int)×List Sym:=
 if Z0x room L (Z2r l acts)≠0 then (([],[],Z0x room L (Z2r l acts)),L)
 else if Z16 room (Z1e room l acts L).2 (acts.flatMap (putA (Z1e room l acts L).1))≠0 then (([],[],Z16 room (Z1e room l acts L).2 (acts.flatMap (putA (Z1e room l acts L).1))),L)
 else ((acts.filterMap (Z34 (Z1e room l acts L).1),(Z1e room l acts L).1,0),
  Z10 room ((((Z1e room l acts L).1.drop l.length).map Z05.sym).foldl (fun L s=>Z10 room L [s]) L) (acts.flatMap (putA (Z1e room l acts L).1)))
section
variable {D M:Nat→Prop} {W W':World} {T T':TB} {L L':List Sym}
theorem Z1o.lt (h:Z1o W T):T.b<W.heap.size∧T.bm<W.heap.size:=⟨h.1.lt,h.2.lt⟩
def Z13 (W:World) (k:Nat):Prop:=∃t cs,Blk W k t cs∧t≠203∧t≠38∧t≠260∧t≠207∧t≠119∧t≠209
theorem Z13.of {k:Nat} {t:TypeId} {cs:Array Value} (h:Blk W k t cs) (h1:t≠203) (h2:t≠38) (h3:t≠260) (h4:t≠207) (h5:t≠119) (h6:t≠209):Z13 W k:=⟨t,cs,h,h1,h2,h3,h4,h5,h6⟩
theorem GT2.lts (h:GT2 D W T T' L L'):(T.b<W.heap.size∧T.bm<W.heap.size)∧(T'.b<W.heap.size∧T'.bm<W.heap.size):=by
 obtain ⟨S,σ,S2,σ2,m,m',h1,h2,h3,h4,h5,h6⟩:=h;exact ⟨h3.blk.lt,h4.blk.lt⟩
theorem GT2.stepB {B:Nat} (h:GT2 D W T T' L L') (hB:(T.b<B∧T.bm<B)∧(T'.b<B∧T'.bm<B)) (hF:Fr (Z64 B D) W W'):GT2 (Plus D W W') W' T T' L L':=by
 obtain ⟨S,σ,S2,σ2,m,m',h1,h2,h3,h4,h5,h6⟩:=h;have hF2:Fr D W W':=hF.mono (fun k _ hk=>hk.1);(have nb : ∀k,k<B→¬Z64 B D k:=fun k hk h=>by have:=h.2;omega);exact ⟨S,σ,S2,σ2,m,m',h1.inD h2 hF2,h2.grow h1 _,h3.blk_ ⟨h3.blk.1.fr hF (nb _ hB.1.1),h3.blk.2.fr hF (nb _ hB.1.2)⟩,h4.blk_ ⟨h4.blk.1.fr hF (nb _ hB.2.1),h4.blk.2.fr hF (nb _ hB.2.2)⟩,h5,h6⟩
theorem GT2.offT (h:GT2 D W T T' L L') (hM : ∀k,M k→Z13 W k) (hF:Fr M W W'):GT2 D W' T T' L L':=by
 obtain ⟨S,σ,S2,σ2,m,m',h1,h2,h3,h4,h5,h6⟩:=h
 have ho : ∀q,M q→Off q S σ∧Off q S2 σ2:=fun q hq=>by
  obtain ⟨t,cs,hb,n1,n2,n3,n4,_⟩:=hM q hq;exact ⟨h1.syms.off_of hb n1 n2,h1.pages.off_of hb n3 n4⟩
 have hne : ∀{k:Nat} {cs:Array Value},(Blk W k 119 cs∨Blk W k 209 cs)→¬M k:=fun hb hk=>by
  obtain ⟨t,cs',hb',_,_,_,_,n5,n6⟩:=hM _ hk;rcases hb with hb | hb
  · exact hb'.ne_ hb n5 rfl
  · exact hb'.ne_ hb n6 rfl
 have hT : ∀{T:TB},Z1o W T→Z1o W' T:=fun hb=>⟨hb.1.fr hF (hne (.inl hb.1)),hb.2.fr hF (hne (.inr hb.2))⟩;exact ⟨S,σ,S2,σ2,m,m',⟨h1.syms.offM (fun q hq=>(ho q hq).1) hF,h1.pages.offM (fun q hq=>(ho q hq).2) hF⟩,h2,h3.blk_ (hT h3.blk),h4.blk_ (hT h4.blk),h5,h6⟩
theorem GT.stepB {B:Nat} (h:GT D W T L) (hB : ∀S2 σ2 σ S m,Tabs D W S σ S2 σ2→Z71 W S S2 T L m→T.b<B∧T.bm<B) (hF:Fr (Z64 B D) W W'):GT (Plus D W W') W' T L:=by
 obtain ⟨S,σ,S2,σ2,m,h1,h2,h3⟩:=h;have hF2:Fr D W W':=hF.mono (fun k _ hk=>hk.1);(have nb : ∀k,k<B→¬Z64 B D k:=fun k hk h=>by have:=h.2;omega);have hBB:=hB _ _ _ _ _ h1 h3;exact ⟨S,σ,S2,σ2,m,h1.inD h2 hF2,h2.grow h1 _,h3.blk_ ⟨h3.blk.1.fr hF (nb _ hBB.1),h3.blk.2.fr hF (nb _ hBB.2)⟩⟩
theorem Z8k {e1 e2:TypeId} {z1 z2 n1 n2 b1 b2:Nat} {v1 v2:Value} {x1 x2:List Value} (h1:W.ownsRow b1 e1 z1 v1 n1 x1) (h2:W.ownsRow b2 e2 z2 v2 n2 x2) (hne:e1≠e2) {g:Nat} (hg:v1.ownBlock=some g):v2.ownBlock≠some g:=by
 rcases h1.2 with ⟨rfl,_⟩ | ⟨k,cap,cur,rfl,_,hk,_⟩
 · simp [Value.ownBlock] at hg
 · have e:k=g:=by simpa [Value.ownBlock] using hg
   subst e;exact Z0d h2 (t:=e1) (cs:=cur) hk (Ne.symm hne)
theorem Blk.rangeAt {g:Nat} {t:TypeId} {cs:List Value} (h:Blk W g t cs.toArray):W.rangeAt g 0 cs:=fun j v hv=>by
 rw [show (0+j)=j by omega,h.cell j];simpa using hv
theorem Z0k.drop_ {α:Type} {size c:Nat} {cells:α→List Value} {A:Option Addr} {l:List α} (h:Z0k W size cells A c l) (k:Nat) (hk:k≤l.length):Z0k W size cells (if c=k then A else A.map (·.add (k*size))) (c - k) (l.drop k):=by
 obtain ⟨h1,h2,h3⟩:=h;refine ⟨by simp;omega,by omega,fun h0=>?_⟩;(have h0':k<l.length:=by simp at h0;omega);obtain ⟨b,off,rfl,hb,hc⟩:=h3 (by omega);refine ⟨b,off+k*size,?_,hb,fun j hj i u hu=>?_⟩
 · rw [if_neg (by omega)]
   simp only [Zl4];rw [Go.WideShapes.add_plain]
 · have hj':k+j<l.length:=by simp at hj;omega
   rw [List.getElem_drop] at hu;have:=hc (k+j) hj' i u hu;rw [show off+k*size+j*size+i=off+(k+j)*size+i by rw [Nat.add_mul];omega];exact this
def Own (D:Nat→Prop) (X:World) (k:Nat) (t:TypeId) (cs:Array Value):Prop:=Blk X k t cs∧¬D k
theorem Own.step {B k:Nat} {t:TypeId} {cs:Array Value} (h:Own D W k t cs) (hF:Fr (Z64 B D) W W'):Own (Plus D W W') W' k t cs:=
 ⟨h.1.fr hF (fun hk=>h.2 hk.1),fun hk=>hk.elim h.2 (fun hk=>by have:=h.1.lt;omega)⟩
def Zh3 (D:Nat→Prop) (X:World) (e:TypeId) (size n:Nat) (A:Option Addr) (c:Nat) (xs:List Value):Prop:=X.ownsRow 0 e size (.slice A n c) n xs∧AIn A (fun k=>¬D k)
theorem Zh3.step {B size n c:Nat} {e:TypeId} {A:Option Addr} {xs:List Value} (h:Zh3 D W e size n A c xs) (hF:Fr (Z64 B D) W W'):Zh3 (Plus D W W') W' e size n A c xs:=by
 have hl:=Z3p h.1;refine ⟨Z12 h.1 hF (fun g hg hk=>?_),fun a ha hk=>hk.elim (h.2 a ha) (fun hk=>by have:=hl a ha;omega)⟩;rcases A with _ | a
 · simp [Value.ownBlock] at hg
 · have e:a.block=g:=by simpa [Value.ownBlock] using hg
   exact h.2 a rfl (e ▸ hk.1)
structure DoI (DI:Nat→Prop) (w W5:World) (T T1:TB) (l:List Z05) (L:List Sym) (news:List ByteArray) (bb tr ro rb re:Nat) (D:Nat→Prop) (pre:List ByteArray) (X:World) (A:Option Addr) (c:Nat):Prop where
 gt:GT2 D X T T1 L (Z1m T1.room l L pre).2
 di : ∀k,DI k→D k
 bb:Own D X bb 26 #[.slice A (l.length+pre.length) c]
 row:Zh3 D X 40 4 (l.length+pre.length) A c ((Z1m T1.room l L pre).1.flatMap Z05.cells)
 from_:AIn A (w.heap.size≤·)
 tr:Own D X tr 31 #[.pointer (some ⟨T1.b,0,none⟩)]
 ro:Own D X ro 41 #[.slice none 0 0]
 rb:Own D X rb 26 #[.slice none 0 0]
 re:Own D X re 42 #[.int .i64 0]
 fr:Fr (fun j=>¬DI j) W5 X
 err : ∀post,news=pre++post→Z0x T1.room L news=Z0x T1.room (Z1m T1.room l L pre).2 post
theorem DoI.step {DI:Nat→Prop} {w W5:World} {T T1:TB} {l:List Z05} {L:List Sym} {news:List ByteArray} {bb tr ro rb re:Nat} {pre:List ByteArray} {A:Option Addr} {c:Nat}
 (h:DoI DI w W5 T T1 l L news bb tr ro rb re D pre W A c) (hB:(T.b<W5.heap.size∧T.bm<W5.heap.size)∧(T1.b<W5.heap.size∧T1.bm<W5.heap.size)) (hDI : ∀k,DI k→k<W5.heap.size) (hF:Fr (Z64 W5.heap.size D) W W') :
 DoI DI w W5 T T1 l L news bb tr ro rb re (Plus D W W') pre W' A c:=
 ⟨h.gt.stepB hB hF,fun k hk=>.inl (h.di k hk),h.bb.step hF,h.row.step hF,h.from_,h.tr.step hF,h.ro.step hF,h.rb.step hF,h.re.step hF,h.fr.trans (hF.mono (fun k _ hk hd=>by have:=hDI k hd;have:=hk.2;omega)),h.err⟩
structure DoX (DI:Nat→Prop) (W5:World) (T:TB) (L:List Sym) (R:(List Z17×List Z05×Int)×List Sym) (ro rb re:Nat) (D:Nat→Prop) (X:World) (e:Int):Prop where
 res:R=(([],[],e),L)
 gt:GT D X T L
 tb:T.b<W5.heap.size∧T.bm<W5.heap.size
 di : ∀k,DI k→D k
 ro:Own D X ro 41 #[.slice none 0 0]
 rb:Own D X rb 26 #[.slice none 0 0]
 re:Own D X re 42 #[.int .i64 e]
 fr:Fr (fun j=>¬DI j) W5 X
theorem DoX.step {DI:Nat→Prop} {W5:World} {R:(List Z17×List Z05×Int)×List Sym} {ro rb re:Nat} {e:Int} (h:DoX DI W5 T L R ro rb re D W e) (hDI : ∀k,DI k→k<W5.heap.size) (hF:Fr (Z64 W5.heap.size D) W W'):DoX DI W5 T L R ro rb re (Plus D W W') W' e:=
 ⟨h.res,h.gt.stepB (fun _ _ _ _ _ _ _=>h.tb) hF,h.tb,fun k hk=>.inl (h.di k hk),h.ro.step hF,h.rb.step hF,h.re.step hF,h.fr.trans (hF.mono (fun k _ hk hd=>by have:=hDI k hd;have:=hk.2;omega))⟩
theorem GT.addT (h:GT D W T L) (hM : ∀k,M k→Z13 W k):GT (fun k=>D k∨M k) W T L:=by
 obtain ⟨S,σ,S2,σ2,m,h1,h2,h3⟩:=h
 have ho : ∀q,M q→(Off q S σ∧Off q S2 σ2)∧q<W.heap.size:=fun q hq=>by
  obtain ⟨t,cs,hb,n1,n2,n3,n4,_⟩:=hM q hq;exact ⟨⟨h1.syms.off_of hb n1 n2,h1.pages.off_of hb n3 n4⟩,hb.lt⟩
 exact ⟨S,σ,S2,σ2,m,⟨Sets.more h1.syms (fun q hq=>hq.imp id (fun hq=>⟨(ho q hq).1.1,(ho q hq).2⟩)),Sets.more h1.pages (fun q hq=>hq.imp id (fun hq=>⟨(ho q hq).1.2,(ho q hq).2⟩))⟩,fun q hq=>hq.elim (h2 q) (fun hq=>(ho q hq).1),h3⟩
theorem GT.offT (h:GT D W T L) (hM : ∀k,M k→Z13 W k) (hF:Fr M W W'):GT D W' T L:=by
 obtain ⟨S,σ,S2,σ2,m,h1,h2,h3⟩:=h
 have ho : ∀q,M q→Off q S σ∧Off q S2 σ2:=fun q hq=>by
  obtain ⟨t,cs,hb,n1,n2,n3,n4,_⟩:=hM q hq;exact ⟨h1.syms.off_of hb n1 n2,h1.pages.off_of hb n3 n4⟩
 have hne : ∀{k:Nat} {cs:Array Value},(Blk W k 119 cs∨Blk W k 209 cs)→¬M k:=fun hb hk=>by
  obtain ⟨t,cs',hb',_,_,_,_,n5,n6⟩:=hM _ hk;rcases hb with hb | hb
  · exact hb'.ne_ hb n5 rfl
  · exact hb'.ne_ hb n6 rfl
 exact ⟨S,σ,S2,σ2,m,⟨h1.syms.offM (fun q hq=>(ho q hq).1) hF,h1.pages.offM (fun q hq=>(ho q hq).2) hF⟩,h2,h3.blk_ ⟨h3.blk.1.fr hF (hne (.inl h3.blk.1)),h3.blk.2.fr hF (hne (.inr h3.blk.2))⟩⟩
theorem GT2.plus (h:GT2 D W T T' L L') (hb:Below W.heap.size W W'):GT2 (Plus D W W') W' T T' L L':=h.new_ hb
theorem GT.plus (h:GT D W T L) (hb:Below W.heap.size W W'):GT (Plus D W W') W' T L:=h.new_ hb
end
end
section
theorem Zgf (L X Y:List Sym):puts Z01 L (X++Y)=puts Z01 (puts Z01 L X) Y:=by unfold puts;rw [List.foldl_append]
theorem Zej {L X Y:List Sym} (hs:Srt Z01 L) (h : ∀s,s∈X↔s∈Y):puts Z01 L X=puts Z01 L Y:=
 Zcx Z1d (fun x hx=>by have:=(Z3y (a:=x) (b:=x)).2 rfl;omega) (Srt.puts Z1d X hs) (Srt.puts Z1d Y hs) (fun s=>by rw [Z22,Z22,h])
theorem Z4s {room:Int} {L X:List Sym} (h : ∀s∈X,Z07 s=true):Z16 room L X=if room<((puts Z01 L X).length:Int) then 20 else 0:=by
 unfold Z16;rw [if_pos (Zlg.2 h)]
theorem Z4t {room:Int} {L X:List Sym} (h : ∀s∈X,Z07 s=true):Z10 room L X=if room<((puts Z01 L X).length:Int) then L else puts Z01 L X:=by
 unfold Z10;rw [if_pos (Zlg.2 h)]
def Z3q (room:Int):List Sym→List (List Sym)→Int×List Sym
 | L,[]=>(0,L)
 | L,Z :: r=>if Z16 room L Z≠0 then (Z16 room L Z,L) else Z3q room (Z10 room L Z) r
theorem Z8l (room:Int) : ∀(Zs:List (List Sym)) (L:List Sym),Srt Z01 L→(L.length:Int)≤room→(∀Z∈Zs,∀s∈Z,Z07 s=true)→
 (Z3q room L Zs).1=Z16 room L Zs.flatten∧((Z3q room L Zs).1=0→(Z3q room L Zs).2=Z10 room L Zs.flatten)
 | [],L,_,hl,_=>by
   rw [List.flatten_nil,Z4s (fun s hs=>absurd hs (by simp)),Z4t (fun s hs=>absurd hs (by simp)),show puts Z01 L []=L from rfl];rw [if_neg (by omega),if_neg (by omega)];exact ⟨rfl,fun _=>rfl⟩
 | Z :: r,L,hs,hl,hv=>by
   have hZ:=hv Z Zmb
   have hR : ∀s∈r.flatten,Z07 s=true:=fun s h=>by
    obtain ⟨Y,hY,h⟩:=List.mem_flatten.1 h;exact hv Y (Zm0 _ hY) s h
   have hall : ∀s∈(Z :: r).flatten,Z07 s=true:=fun s h=>by
    rw [List.flatten_cons] at h;exact (Zlv.1 h).elim (hZ s) (hR s)
   have hp:=Srt.puts Z1d Z hs;rw [Z4s hall,Z4t hall,List.flatten_cons,Zgf,Z3q,Z4s hZ,Z4t hZ];by_cases h1:room<((puts Z01 L Z).length:Int)
   · have h2:=Z4e r.flatten (puts Z01 L Z) hp
     rw [if_pos h1,if_pos (show (20:Int)≠0 by decide),if_pos (by omega)];exact ⟨rfl,fun h=>absurd (show (20:Int)=0 from h) (by decide)⟩
   · rw [if_neg h1,if_neg (by decide),if_neg h1]
     obtain ⟨g1,g2⟩:=Z8l room r (puts Z01 L Z) hp (by omega) (fun Y hY=>hv Y (Zm0 _ hY));rw [Z4s hR] at g1;rw [Z4t hR] at g2;refine ⟨g1,fun h=>?_⟩;rw [g2 h]
     have h3 : ¬room<((puts Z01 (puts Z01 L Z) r.flatten).length:Int):=fun h4=>by
      rw [g1,if_pos h4] at h;exact absurd h (by decide)
     rw [if_neg h3,if_neg h3]
theorem Zbg {room:Int} {L X Y:List Sym} (hs:Srt Z01 L) (h : ∀s,s∈X↔s∈Y):Z16 room L X=Z16 room L Y∧Z10 room L X=Z10 room L Y:=by
 have h1:X.all Z07=Y.all Z07:=by
  rw [Zly,Zlg,Zlg];exact ⟨fun g s hs=>g s ((h s).2 hs),fun g s hs=>g s ((h s).1 hs)⟩
 unfold Z16 Z10;rw [h1,Zej hs h];exact ⟨rfl,rfl⟩
theorem Zkc : ∀{l:List Z05} {v:ByteArray},(getB l v).2=false→(getB l v).1=zS
 | [],_,_=>rfl
 | x :: l,v,h=>by
   rw [Z3j] at h ⊢;by_cases h2:x.var.toList=v.toList
   · rw [if_pos h2] at h;exact absurd h (by simp)
   · rw [if_neg h2] at h ⊢
     exact Zkc h
theorem Zd5 {a:Z2f} {b:List Z05} (h:(Z14 a b).2=false):Z07 (Z14 a b).1=false:=by
 have hz:(Z14 a b).1=zS:=by
  unfold Z14 at *;by_cases h2:a.var.toList = []
  · rw [if_pos h2] at h;exact absurd h (by simp)
  · rw [if_neg h2] at h
    rw [if_neg h2];exact Zkc h
 rw [hz];decide +kernel
def Z5n (b:List Z05) (a:ActT):Bool:=
 decide ((getB b a.id).1.kind≠1) || !Z07 (getB b a.id).1 || !(Z14 a.attr b).2 || !Z1z (Z14 a.attr b).1 || !(if 8≤a.pref then (Z29 a.value b).2 && (Z14 a.other b).2 else (Z29 a.value b).2) || !Z07 (Z29 a.value b).1 || (decide (8≤a.pref) && !Z07 (if 8≤a.pref then (Z14 a.other b).1 else zS))
theorem Zbp {b:List Z05} {a:ActT} (h:a.pref≤10):Z34 b a=if Z5n b a=true then none else some ⟨(getB b a.id).1,(Z14 a.attr b).1,(Z29 a.value b).1,if 8≤a.pref then (Z14 a.other b).1 else zS,a.pref,false,0,0⟩:=by
 have hn1:=Zd5 (a:=a.attr) (b:=b);have hn2:=Zd5 (a:=a.other) (b:=b)
 have ho:Z1b a.pref=decide (8≤a.pref):=by
  unfold Z1b;rw [Zly];simp only [Zmc,Zlp];omega
 unfold Z34 Z5n Z51 Z1z;rw [ho];generalize getB b a.id=gi at *;generalize Z14 a.attr b=ga at *;generalize Z29 a.value b=gv at *;generalize Z14 a.other b=go at *;by_cases h8:8≤a.pref
 · simp only [h8,decide_true,if_true,Bool.true_and]
   by_cases k1:gi.1.kind=1<;>by_cases k2:ga.1.kind=1<;>cases v1:Z07 gi.1<;>cases v2:Z07 ga.1<;>cases v3:Z07 gv.1<;>cases v4:Z07 go.1<;>cases o1:ga.2<;>cases o2:gv.2<;>cases o3:go.2<;>simp_all
 · simp only [h8,decide_false,if_false,Bool.false_and,Bool.or_false]
   by_cases k1:gi.1.kind=1<;>by_cases k2:ga.1.kind=1<;>cases v1:Z07 gi.1<;>cases v2:Z07 ga.1<;>cases v3:Z07 gv.1<;>cases o1:ga.2<;>cases o2:gv.2<;>simp_all
end
section
open Go.RowKit
variable {P:Program}
theorem Z91 {id l0:Nat} {l:List Oper} {Q:Exit→Act→World→Prop} {a:Act} {w:World} (S:World→Prop) (qs ls:List Nat) (p:Pl) (hm:P.follows .mixedOrders=true) (hsel:Region.noSelect l.toArray=true)
 (hB:okPl l.toArray qs ls p l.toArray.size (Array.replicate l.toArray.size false)=true) (hd:(l.all fun o=>match o.op with | .defer _=>false | _=>true)=true)
 (h : ∀K:Act→World→Prop,(∀a w,Q .normal a w→K a w)→wpPl P l.toArray (Z65 K) S (fun j=>ls.any fun k=>k != j && !Z3m l.toArray l.toArray.size j k) p a w.drew):(Code.region id l.toArray true).wpIn (Fence.wide.inRound l0) 0 P Q a w:=by
 have hnd : ∀(i:Nat) (o:Oper),l.toArray[i]? = some o→∀c,o.op≠.defer c:=fun i o ho c hc=>by
  have hmem:o∈l:=by
   have:=Array.mem_of_getElem? ho;simpa using this
  have:=Zlg.1 hd o hmem;rw [hc] at this;cases this
 have conv : ∀(fuel:Nat) (listed:Array Bool) (a:Act) (w:World),wpAny P .any l.toArray (Z65 fun a w=>Q .normal a w) fuel listed a w→wpAnyIn (Fence.wide.inRound l0) 0 P .any l.toArray (Z65 fun a w=>Q .normal a w) fuel listed a w:=by
  intro fuel
  induction fuel with
  | zero=>exact fun _ _ _ h=>h
  | succ fuel ih=>
    intro listed a w hh;refine ⟨hh.1,fun i hi=>?_⟩;have h1:=hh.2 i hi;unfold wpOp at h1;unfold wpOpIn
    cases ho:l.toArray[i]? with
    | none=>simp only [ho] at h1 ⊢;exact ih _ _ _ h1
    | some o=>
      simp only [ho] at h1 ⊢;by_cases hw:Region.wanted o (yielded l.toArray a.tmps)=true
      · rw [if_pos hw] at h1 ⊢
        rcases h1 with h1 | ⟨_,⟨a',w',hlet⟩⟩
        · refine ⟨fun _ _=>trivial,?_⟩
          rw [show (Fence.wide.inRound l0).round=some l0 from rfl,Oper.semAt_some l0 a.eval o (hnd i o ho)];refine Z90 ?_;exact Oper.wp_mono (fun a w h=>ih _ _ _ h) h1
        · exact hlet.elim
      · rw [if_neg hw] at h1 ⊢
        exact ⟨fun _ _=>trivial,ih _ _ _ h1⟩
 refine wpIn_mono (Q:=Z65 fun a w=>Q .normal a w) (wpIn_region_any hm (conv _ _ _ _ ?_)) (fun e a w hq=>by cases e<;>first | exact hq | exact hq.elim);(have hcl:Z4g l.toArray (Array.replicate l.toArray.size false):=fun m o hm=>by rw [getD_replicate_false] at hm;cases hm);exact Z5l _ _ _ _ (Zbu (P:=P) (Q:=Z65 fun a w=>Q .normal a w) (S:=S) hsel (fun c a a' w h=>h) p _ _ a w.drew hcl hB (h _ (fun _ _ h=>h)))
end
section
open Go.RowKit Go.Shelf
theorem Zfv {D:Nat→Prop} {W:World} {S:Nat→Option (List Name)} {σ:Nat→St} {kb sb:Nat} {K:Kn} {A:Option Addr} {c:Nat} (a:Z2f) (hN:Z2q D W S σ) (hK:KnS W S kb sb K A c) (hl:(K.1.length:Int)≤1000000) :
 Calls Tryz.prog 139 #[.pointer (some ⟨kb,0,none⟩),.agg #[.string a.var,.int .i64 a.sym.kind,.string a.sym.text,.int .i64 a.sym.n]] W fun e W'=>e = .returned (.bool (Z33 K a))∧Below W.heap.size W W':=by
 have HN:=hid hN;have HK:=hid hK;clear hN hK;by_cases hv:a.var.toList = []
 · have v1:(a.var.toList == [])=true:=by simp [hv]
   (have v2:a.var.toList.isEmpty=true:=by simp [hv]);(have v3:decide (a.var.toList = [])=true:=by simp [hv]);have HR:=hid (show Z33 K a=false by simp [Z33,hv]);clear hv;go_enter Tryz.func139,Tryz.ntmps139;(go_wp2_with fail);go_ret;exact ⟨by rw [HR.out]<;>rfl,(Zks _ _).alloc (Zkt _) _⟩
 · have v1:(a.var.toList == [])=false:=by simp [hv]
   (have v2:a.var.toList.isEmpty=false:=by simp [hv]);(have v3:decide (a.var.toList = [])=false:=by simp [hv]);have HR:=hid (show Z33 K a = !hasK K a.var by simp [Z33,hv]);clear hv;go_enter Tryz.func139,Tryz.ntmps139;(go_wp2_with fail);have hb:=(Zks W.heap.size W).alloc (Zkt _) (.cells #[.string a.var,.int .i64 a.sym.kind,.string a.sym.text,.int .i64 a.sym.n] 91);refine (Zft a.var (HN.out.below hb) ⟨HK.out.blk.new_ hb,Z00 HK.out.row hb,HK.out.set⟩ hl).mono ?_;rintro e w1 ⟨rfl,hb1⟩;have HB:=hid (hb.trans (hb1.mono (by simp)));clear hb hb1;(go_wp2_with fail);go_ret;exact ⟨by rw [HR.out]<;>rfl,HB.out⟩
end
section
open Go.RowKit Go.Shelf
attribute [local go_sem] Oper.semAt_some
theorem Zh9 {c:Z0o} {d:Nat} (h:Z0c c d=0):Zan (d,c)∧c.kind≠0:=by
 unfold Z0c at h;unfold Zan;dsimp only;by_cases h3:c.kind=3
 · rw [if_pos h3] at h
   by_cases h9:c.goal=true∨c.id.toList≠[]∨0<c.attr.length∨0<c.value.length∨c.acc=true∨c.conds.length=0
   · rw [if_pos h9] at h;omega
   · have ha : ¬0<c.attr.length:=fun h=>h9 (.inr (.inr (.inl h)))
     have hb : ¬0<c.value.length:=fun h=>h9 (.inr (.inr (.inr (.inl h))));exact ⟨⟨by omega,by omega,fun h=>absurd h3 h⟩,by omega⟩
 · rw [if_neg h3] at h
   by_cases h12:c.kind=1∨c.kind=2
   · rw [if_pos h12] at h
     by_cases ha:0<c.conds.length∨Z0n c.id=false∨c.attr.length=0
     · rw [if_pos ha] at h;omega
     · rw [if_neg ha] at h
       by_cases hb:4<c.attr.length∨4<c.value.length
       · rw [if_pos hb] at h;omega
       · exact ⟨⟨by omega,by omega,fun _=>Zlq.1 (by omega)⟩,by omega⟩
   · rw [if_neg h12] at h;omega
theorem Z8o {n:Nat} {p:Z31} (h:(Z19 n p).2=0):1≤(Z0f n 0 p.conds).length∧(Z0f n 0 p.conds).length≤16∧1≤p.acts.length∧p.acts.length≤16∧∀x∈Z0f n 0 p.conds,Z0c x.2 x.1=0:=by
 unfold Z19 at h;by_cases h1:Z0n p.name=false
 · rw [if_pos h1] at h;simp at h
 rw [if_neg h1] at h;by_cases h2:(Z0f n 0 p.conds).length<1∨16<(Z0f n 0 p.conds).length∨p.acts.length<1∨16<p.acts.length
 · rw [if_pos h2] at h;simp at h
 rw [if_neg h2] at h;refine ⟨by omega,by omega,by omega,by omega,?_⟩
 cases hf:(Z0f n 0 p.conds).findIdx? (fun c=>decide (Z0c c.2 c.1≠0)) with
 | none=>
   rw [List.findIdx?_eq_none_iff] at hf;intro x hx;have:=hf x hx;simpa using this
 | some k=>
   rw [hf] at h;obtain ⟨hk,h3,_⟩:=List.findIdx?_eq_some_iff_getElem.1 hf;simp only [Zl1 hk] at h;simp only [Zlp] at h3;exact absurd h h3
theorem Z5e {n:Nat} {p:Z31} (h:(Z19 n p).2≠0):Z1t n p=((Z19 n p).1,(Z19 n p).2,[]):=by unfold Z1t;rw [if_pos h]
theorem Z7d {n:Nat} {p:Z31} {x:Z0o} {l:List Z0o} (h:(Z19 n p).2=0) (hp:p.conds=x :: l) (hx:x.kind≠1):Z1t n p=(0,9,[]):=by
 unfold Z1t;rw [if_neg (by rw [h];decide),hp];simp [hx]
theorem Z7c {n:Nat} {p:Z31} {x:Z0o} {l:List Z0o} {a:Int} {k:Kn} (h:(Z19 n p).2=0) (hp:p.conds=x :: l) (hx:x.kind=1) (hc:Z18 n ([],[]) p.conds 0=(false,a,k)):Z1t n p=(a,6,[]):=by
 unfold Z1t;rw [if_neg (by rw [h];decide),hc];simp [hp,hx]
theorem Zar {n:Nat} {p:Z31} {x:Z0o} {l:List Z0o} {a:Int} {k:Kn} (h:(Z19 n p).2=0) (hp:p.conds=x :: l) (hx:x.kind=1) (hc:Z18 n ([],[]) p.conds 0=(true,a,k)):Z1t n p=(match p.acts.findIdx? (actV k) with
 | some i=>(a+i,6,[])
 | none=>(-1,0,k.2)):=by
 (have e:(p.conds.head?.map Z0o.kind).getD 0=1:=by rw [hp];exact hx);unfold Z1t;rw [if_neg (by rw [h];decide),hc,if_neg (by rw [e];decide)];rfl
theorem KSt.lacks {D:Nat→Prop} {W W1:World} {S:Nat→Option (List Name)} {kb sb:Nat} {K:Kn} (a:Z2f) (h:KSt D W S kb sb K W1) (hl:(K.1.length:Int)≤1000000) :
 Calls Tryz.prog 139 #[.pointer (some ⟨kb,0,none⟩),.agg #[.string a.var,.int .i64 a.sym.kind,.string a.sym.text,.int .i64 a.sym.n]] W1 fun e W'=>e = .returned (.bool (Z33 K a))∧Below W1.heap.size W1 W':=by
 obtain ⟨σ',A',c',h1,h2,h3,h4⟩:=h;exact Zfv a h1 h2 hl
def Z4d (W:World) (r:Int×Int×List ByteArray) (e:Ending) (W':World):Prop:=
 ∃A c,e = .returned (.tuple #[.int .i64 r.1,.int .i64 r.2.1,.slice A r.2.2.length c])∧W'.ownsRow 0 9 1 (.slice A r.2.2.length c) r.2.2.length (r.2.2.map Value.string)∧Below W.heap.size W W'
theorem Z4d.none_ {W W':World} {r:Int×Int×List ByteArray} {a e:Int} (hr:r=(a,e,[])) (hb:Below W.heap.size W W'):Z4d W r (.returned (.tuple #[.int .i64 a,.int .i64 e,.slice none 0 0])) W':=by
 subst hr;exact ⟨none,0,rfl,Z28 _ _ _ _,hb⟩
theorem Zdz {D:Nat→Prop} (p:Z31) (n:Nat) (A1 A2:Option Addr) (c1 c2:Nat) (w:World) (h1:RowR (Z0g n) D w A1 c1 p.conds) (h2:RowR Z0r D w A2 c2 p.acts) (hD : ∀k,D k→k<w.heap.size) (hF:(Z0f n 0 p.conds).length≤1000000000) (hn:n≤1000000000) :
 Calls Tryz.prog 92 #[.agg #[.string p.name,.slice A1 p.conds.length c1,.slice A2 p.acts.length c2]] w (Z4d w (Z1t n p)):=by
 have H1:=hid h1;have H2:=hid h2;have HD:=hid hD;have hl1:=h1.cap;have hl2:=h2.cap
 have hsh : ∀W,Below w.heap.size w W→Calls Tryz.prog 136 #[.agg #[.string p.name,.slice A1 p.conds.length c1,.slice A2 p.acts.length c2]] W fun e w'=>e = .returned (.tuple #[.int .i64 (Z19 n p).1,.int .i64 (Z19 n p).2])∧Below W.heap.size W w':=fun W hb=>
  Zig p n A1 A2 c1 c2 W (h1.new_ hb) (h2.new_ hb) (fun k hk=>Zkx (hD k hk) hb.size) hF hn
 obtain ⟨⟨sa,se⟩,hse⟩ : ∃r,Z19 n p=r:=⟨_,rfl⟩;simp only [hse] at hsh;have HSH:=hid hsh;have HSE:=hid hse;clear hse h1 h2 hD hsh hF;go_enter Tryz.func92,Tryz.ntmps92;(go_upto_region 1 with fail);obtain ⟨W1,hW1⟩ : ∃W1,W1=w.alloc (.cells #[.string p.name,.slice A1 p.conds.length c1,.slice A2 p.acts.length c2] 25):=⟨_,rfl⟩;rw [← hW1];obtain ⟨px,hpx⟩ : ∃px,px=w.heap.size:=⟨_,rfl⟩;(have hbW1:Below w.heap.size w W1:=by rw [hW1];exact (Zks _ _).alloc (Zkt _) _);(have hkW1:Blk W1 px 25 #[.string p.name,.slice A1 p.conds.length c1,.slice A2 p.acts.length c2]:=by rw [hW1,hpx];exact Blk.new _ _ _);rw [← hpx];have H_px:=hid hpx;clear hW1 hpx;have HB1:=hid hbW1;have HP:=hid hkW1;have p0:W1.cell? ⟨px,0,none⟩=some (.string p.name):=(hkW1.cell 0).trans rfl;have p1:W1.cell? ⟨px,1,none⟩=some (.slice A1 p.conds.length c1):=(hkW1.cell 1).trans rfl;have p2:W1.cell? ⟨px,2,none⟩=some (.slice A2 p.acts.length c2):=(hkW1.cell 2).trans rfl;have hpl:=hkW1.lt;clear hbW1 hkW1;(go_wp2_with fail);refine (HSH.out W1 HB1.out).mono ?_;rintro e w2 ⟨rfl,hb2⟩;have HB2:=hid (HB1.out.trans (hb2.mono HB1.out.size));have hP2:=HP.out.fr (Fr.of_new (M:=fun _=>False) hb2) (fun h=>h);have HP2:=hid hP2;have p1:w2.cell? ⟨px,1,none⟩=some (.slice A1 p.conds.length c1):=(hP2.cell 1).trans rfl;have p2:w2.cell? ⟨px,2,none⟩=some (.slice A2 p.acts.length c2):=(hP2.cell 2).trans rfl;have hpl2:=hP2.lt;clear p0 hb2 hP2;by_cases hs0:se=0
 · have hok:=Z8o (n:=n) (p:=p) (by rw [HSE.out];exact hs0)
   have HOK:=hid hok;(have s1:(se == 0)=true:=by simp [hs0]);(have s2:decide (se=0)=true:=by simp [hs0]);have HS0:=hid (show (Z19 n p).2=0 by rw [HSE.out];exact hs0)
   have hne:p.conds≠[]:=by
    intro h;have:=hok.1;rw [h,Z6c] at this;simp at this
   obtain ⟨n,rfl⟩ : ∃m,n=m+1:=by
    cases n with
    | zero=>have:=hok.1;exact absurd this (by simp [Z0f])
    | succ m=>exact ⟨m,rfl⟩
   obtain ⟨x,l,hxl⟩:=List.exists_cons_of_ne_nil hne;have hlen1:0<p.conds.length:=List.length_pos_iff.2 hne;obtain ⟨g,off,B1,d1,B2,d2,B3,d3,rfl,hgD,hg,q0,-,-,-,-,-,-,-,-,-⟩:=Z3r (H1.out.new_ HB2.out) hlen1;(have hx0:p.conds[0]=x:=by simp [hxl]);rw [hx0] at q0;simp only [Nat.zero_mul,Nat.add_zero] at q0;have HXL:=hid hxl;(have b1:(0:Int)<(p.conds.length:Int):=by omega);clear hs0 hok hne hxl hx0 hlen1;by_cases hx1:x.kind=1
   · have t1:(x.kind == 1)=true:=by simp [hx1]
     (have t1':decide (x.kind=1)=true:=by simp [hx1]);have HX1:=hid hx1;clear hx1;(go_wp2_with fail);refine (Zgq none 0 [] (Sets.start _ _ _ _ _ w2) (Z0k.nil _ _ _) (by simp)).mono ?_;rintro e w3 ⟨⟨sb,rfl,hsb,_,σ3,hN3,hF3⟩,hb3⟩;have hb3sz:=hb3.size;have HN3:=hid hN3;have HB3:=hid hb3;clear hN3 hF3 hb3 q0;(go_upto_region 7 with fail);obtain ⟨W4,hW4⟩ : ∃W4,W4=w3.alloc (.cells #[.pointer (some ⟨sb,0,none⟩),.slice none 0 0] 218):=⟨_,rfl⟩;rw [← hW4];obtain ⟨kb,hkb⟩ : ∃kb,kb=w3.heap.size:=⟨_,rfl⟩;(have hbW4:Below w3.heap.size w3 W4:=by rw [hW4];exact (Zks _ _).alloc (Zkt _) _);(have hkW4:Blk W4 kb 218 #[.pointer (some ⟨sb,0,none⟩),.slice none 0 0]:=by rw [hW4,hkb];exact Blk.new _ _ _);rw [← hkb];have H_kb:=hid hkb;clear hW4 hkb;have hst4:KSt (· < w2.heap.size) W4 (upd (fun _=>none) sb (some [])) kb sb ([],[]) W4:=KSt.start (HN3.out.below hbW4) ⟨hkW4,Z28 _ _ _ _,Z06 _ _ _⟩ (AIn.none_ _);have HB4:=hid (HB2.out.trans ((HB3.out.trans (hbW4.mono HB3.out.size)).mono HB2.out.size));have hB24:Below w2.heap.size w2 W4:=HB3.out.trans (hbW4.mono HB3.out.size);have HP4:=hid (HP2.out.new_ hB24);have p1:W4.cell? ⟨px,1,none⟩=some (.slice (some ⟨g,off,none⟩) p.conds.length c1):=(HP4.out.cell 1).trans rfl;have hpl4:=HP4.out.lt;have hkD : ¬(kb<w2.heap.size):=by have:=hb3sz;rw [H_kb.out];omega
     have hcd:Calls Tryz.prog 138 #[.pointer (some ⟨kb,0,none⟩),.slice (some ⟨g,off,none⟩) p.conds.length c1,.int .i64 0] W4 (Z5t (· < w2.heap.size) W4 (upd (fun _=>none) sb (some [])) kb sb ([],[]) 0 (Z0f (n+1) 0 p.conds).length (Z18 (n+1) ([],[]) p.conds 0)):=
      Zfs (n+1) 0 0 _ W4 _ kb sb ([],[]) _ _ p.conds hst4 hkD (((H1.out.new_ (HB2.out.trans (hB24.mono HB2.out.size))).weaken (fun k hk=>Zkx (HD.out k hk) HB2.out.size))) (fun y hy=>(Zh9 (HOK.out.2.2.2.2 y hy)).1) (by have:=HOK.out.2.1;simp;omega) (by have:=HOK.out.2.1;simp;omega) (by have:=HOK.out.2.1;omega)
     obtain ⟨bo,ka,K3,hcr⟩ : ∃b a k,Z18 (n+1) ([],[]) p.conds 0=(b,a,k):=⟨_,_,_,rfl⟩;rw [hcr] at hcd;have HCD:=hid hcd;have HCR:=hid hcr;clear hst4 hB24 hcd hcr hbW4 hkW4 hb3sz hkD;(go_wp2_with fail);refine HCD.out.mono ?_;rintro e w5 ⟨rfl,hF5,hgo⟩;have hB5:Below w.heap.size w w5:=HB4.out.trans (hF5.below HB4.out.size (fun k hk hn=>hn (Zkx hk HB2.out.size)));have HB5:=hid hB5;have HF5:=hid hF5;have HGO:=hid hgo;have hP5:=HP4.out.fr hF5 (fun h=>h hpl2);have p2:w5.cell? ⟨px,2,none⟩=some (.slice A2 p.acts.length c2):=(hP5.cell 2).trans rfl;have hpl5:=hP5.lt;clear hB5 hF5 hgo hP5 p1
     cases bo with
     | false=>
       have HR:=hid (Z7c HS0.out HXL.out HX1.out HCR.out);go_wp2_with fail
       go_ret3
       exact Z4d.none_ HR.out HB5.out
     | true=>
       obtain ⟨hst5,hka,hk1,hk2⟩:=HGO.out rfl;dsimp only at hst5 hka hk1 hk2;(have hka2:ka=(((Z0f (n+1) 0 p.conds).length:Nat):Int):=by rw [hka];omega);have HKA:=hid hka2;(have hka0:(0:Int)≤ka:=by rw [hka2];omega);(have hka1:ka≤16:=by have:=HOK.out.2.1;rw [hka2];omega);have hal:=HOK.out.2.2.2.1;(have hK3:(K3.1.length:Int)≤1000000:=by have:=HOK.out.2.1;simp at hk1;omega);have HST5:=hid hst5;have HR:=hid (Zar HS0.out HXL.out HX1.out HCR.out);clear hst5 hka hk1 hk2 hka2;go_wp2_with fail
       go_loopw [42] (fun s wr=>∃i:Nat,s = .int .i64 i∧i≤p.acts.length∧(∀k,(h:k<p.acts.length)→k<i→actV K3 p.acts[k]=false)∧Below w5.heap.size w5 wr) (fun s wr=>p.acts.length - (intOf s).toNat)
       case atStart=>exact ⟨0,rfl,Nat.zero_le _,fun k _ h=>absurd h (by omega),Zks _ _⟩
       case round=>
        obtain ⟨i,rfl,hi,hall,hBr⟩:=hrel;have HALL:=hid hall;have HBr:=hid hBr;have hz5:=HB5.out.size;have hzr:=hBr.size;clear hall hBr p2;by_cases hlt:i<p.acts.length
        · obtain ⟨y,hy⟩ : ∃y,y=p.acts[i]:=⟨_,rfl⟩
          obtain ⟨gg,oo,hAA,_,hgg,_⟩:=Z7v (H2.out.new_ (HB5.out.trans (HBr.out.mono hz5))) hlt;have HY:=hid hy;(have b1:(0:Int)≤(i:Int):=by omega);have b2:(i:Int)<(p.acts.length:Int):=by omega
          have HRG:=hid (show wr.rangeAt gg (oo+i*19) [.string y.id,.string y.attr.var,.int .i64 y.attr.sym.kind,.string y.attr.sym.text,.int .i64 y.attr.sym.n,.int .i64 y.value.op,.string y.value.a.var,.int .i64 y.value.a.sym.kind,.string y.value.a.sym.text,.int .i64 y.value.a.sym.n,.string y.value.b.var,.int .i64 y.value.b.sym.kind,.string y.value.b.sym.text,.int .i64 y.value.b.sym.n,.int .i64 y.pref,.string y.other.var,.int .i64 y.other.sym.kind,.string y.other.sym.text,.int .i64 y.other.sym.n] from fun j v hv=>by
           obtain ⟨g',off',cs,e1,_,_,hr,hc⟩:=(H2.out.new_ (HB5.out.trans (HBr.out.mono hz5))).at_ hlt;rw [hAA] at e1;cases e1;have hr2:cs=ActT.cells p.acts[i]:=hr;subst hr2;rw [← HY.out] at hc
           exact hc j v hv)
          subst hAA;have HTH:=hid (show (wr.alloc (.cells #[.string ⟨#[]⟩,.string ⟨#[]⟩,.int .i64 0,.string ⟨#[]⟩,.int .i64 0,.int .i64 0,.string ⟨#[]⟩,.int .i64 0,.string ⟨#[]⟩,.int .i64 0,.string ⟨#[]⟩,.int .i64 0,.string ⟨#[]⟩,.int .i64 0,.int .i64 0,.string ⟨#[]⟩,.int .i64 0,.string ⟨#[]⟩,.int .i64 0] 96)).there wr.heap.size 0 (#[.string y.id,.string y.attr.var,.int .i64 y.attr.sym.kind,.string y.attr.sym.text,.int .i64 y.attr.sym.n,.int .i64 y.value.op,.string y.value.a.var,.int .i64 y.value.a.sym.kind,.string y.value.a.sym.text,.int .i64 y.value.a.sym.n,.string y.value.b.var,.int .i64 y.value.b.sym.kind,.string y.value.b.sym.text,.int .i64 y.value.b.sym.n,.int .i64 y.pref,.string y.other.var,.int .i64 y.other.sym.kind,.string y.other.sym.text,.int .i64 y.other.sym.n]:Array Value).size from (Blk.new wr 96 #[.string ⟨#[]⟩,.string ⟨#[]⟩,.int .i64 0,.string ⟨#[]⟩,.int .i64 0,.int .i64 0,.string ⟨#[]⟩,.int .i64 0,.string ⟨#[]⟩,.int .i64 0,.string ⟨#[]⟩,.int .i64 0,.string ⟨#[]⟩,.int .i64 0,.int .i64 0,.string ⟨#[]⟩,.int .i64 0,.string ⟨#[]⟩,.int .i64 0]).there);obtain ⟨W6,hW6⟩ : ∃W6,W6=(wr.alloc (.cells #[.string ⟨#[]⟩,.string ⟨#[]⟩,.int .i64 0,.string ⟨#[]⟩,.int .i64 0,.int .i64 0,.string ⟨#[]⟩,.int .i64 0,.string ⟨#[]⟩,.int .i64 0,.string ⟨#[]⟩,.int .i64 0,.string ⟨#[]⟩,.int .i64 0,.int .i64 0,.string ⟨#[]⟩,.int .i64 0,.string ⟨#[]⟩,.int .i64 0] 96)).setCells wr.heap.size 0 [.string y.id,.string y.attr.var,.int .i64 y.attr.sym.kind,.string y.attr.sym.text,.int .i64 y.attr.sym.n,.int .i64 y.value.op,.string y.value.a.var,.int .i64 y.value.a.sym.kind,.string y.value.a.sym.text,.int .i64 y.value.a.sym.n,.string y.value.b.var,.int .i64 y.value.b.sym.kind,.string y.value.b.sym.text,.int .i64 y.value.b.sym.n,.int .i64 y.pref,.string y.other.var,.int .i64 y.other.sym.kind,.string y.other.sym.text,.int .i64 y.other.sym.n]:=⟨_,rfl⟩;have HW6:=hid hW6;(have hRG6:W6.rangeAt wr.heap.size 0 [.string y.id,.string y.attr.var,.int .i64 y.attr.sym.kind,.string y.attr.sym.text,.int .i64 y.attr.sym.n,.int .i64 y.value.op,.string y.value.a.var,.int .i64 y.value.a.sym.kind,.string y.value.a.sym.text,.int .i64 y.value.a.sym.n,.string y.value.b.var,.int .i64 y.value.b.sym.kind,.string y.value.b.sym.text,.int .i64 y.value.b.sym.n,.int .i64 y.pref,.string y.other.var,.int .i64 y.other.sym.kind,.string y.other.sym.text,.int .i64 y.other.sym.n]:=by rw [hW6];exact Zm4 _ _ _ _ HTH.out);(have hB6:Below wr.heap.size wr W6:=by rw [hW6];exact Below.setCells' _ _ ((Zks _ _).alloc (Zkt _) _) (Zkt _));have HB6:=hid hB6;have e1:W6.cell? ⟨wr.heap.size,1,none⟩=some (.string y.attr.var):=(hRG6 1 _ rfl);have e2:W6.cell? ⟨wr.heap.size,2,none⟩=some (.int .i64 y.attr.sym.kind):=(hRG6 2 _ rfl);have e3:W6.cell? ⟨wr.heap.size,3,none⟩=some (.string y.attr.sym.text):=(hRG6 3 _ rfl);have e4:W6.cell? ⟨wr.heap.size,4,none⟩=some (.int .i64 y.attr.sym.n):=(hRG6 4 _ rfl);have e5:W6.cell? ⟨wr.heap.size,5,none⟩=some (.int .i64 y.value.op):=(hRG6 5 _ rfl);have e6:W6.cell? ⟨wr.heap.size,6,none⟩=some (.string y.value.a.var):=(hRG6 6 _ rfl);have e7:W6.cell? ⟨wr.heap.size,7,none⟩=some (.int .i64 y.value.a.sym.kind):=(hRG6 7 _ rfl);have e8:W6.cell? ⟨wr.heap.size,8,none⟩=some (.string y.value.a.sym.text):=(hRG6 8 _ rfl);have e9:W6.cell? ⟨wr.heap.size,9,none⟩=some (.int .i64 y.value.a.sym.n):=(hRG6 9 _ rfl);have e10:W6.cell? ⟨wr.heap.size,10,none⟩=some (.string y.value.b.var):=(hRG6 10 _ rfl);have e11:W6.cell? ⟨wr.heap.size,11,none⟩=some (.int .i64 y.value.b.sym.kind):=(hRG6 11 _ rfl);have e12:W6.cell? ⟨wr.heap.size,12,none⟩=some (.string y.value.b.sym.text):=(hRG6 12 _ rfl);have e13:W6.cell? ⟨wr.heap.size,13,none⟩=some (.int .i64 y.value.b.sym.n):=(hRG6 13 _ rfl);have hlo6:wr.heap.size<W6.heap.size:=Zla _ _ e1;have HS6:=hid (HST5.out.below (HBr.out.trans (hB6.mono HBr.out.size)));clear hy hW6 hRG6 hB6;cases hla:Z33 K3 y.attr
          · skip
            have hA:=HS6.out.lacks y.attr hK3;rw [hla] at hA;have HA:=hid hA;clear hA;by_cases h0:y.value.op=0
            · have o1:(y.value.op == 0)=true:=by simp [h0]
              (have o2:decide (y.value.op=0)=true:=by simp [h0]);have o3 : ¬¬y.value.op=0:=fun h=>h h0;have HV:=hid (show actV K3 y=false by simp [actV,hla,h0]);clear hla h0
              go_wp2_with (first
               | (with_reducible refine wpList_load_mid rfl 96 _ rfl gg (oo+i*19) rfl _ _ HRG.out Tryz.underlying96 rfl (by kernel_rfl) ?_)
               | ((with_reducible refine wpList_store_mid rfl 96 _ _ rfl wr.heap.size 0 #[.string y.id,.string y.attr.var,.int .i64 y.attr.sym.kind,.string y.attr.sym.text,.int .i64 y.attr.sym.n,.int .i64 y.value.op,.string y.value.a.var,.int .i64 y.value.a.sym.kind,.string y.value.a.sym.text,.int .i64 y.value.a.sym.n,.string y.value.b.var,.int .i64 y.value.b.sym.kind,.string y.value.b.sym.text,.int .i64 y.value.b.sym.n,.int .i64 y.pref,.string y.other.var,.int .i64 y.other.sym.kind,.string y.other.sym.text,.int .i64 y.other.sym.n] rfl rfl HTH.out (by kernel_rfl) (by kernel_rfl) ?_);rw [← HW6.out])
               | ((with_reducible refine HA.out.mono ?_);rintro e w7 ⟨rfl,hb7⟩;obtain ⟨hc7,-⟩:=Z0p hb7;have hz7:=hb7.size;have hlo7:=Zkx hlo6 hz7;have HB7:=hid hb7;clear hb7))
              have HBZ:=hid (HBr.out.trans ((HB6.out.trans (HB7.out.mono HB6.out.size)).mono hzr));go_roundw
              case rel=>exact ⟨i+1,by go_num,by omega,fun k hk hki=>by
               by_cases e:k=i
               · subst e;rw [← HY.out];exact HV.out
               · exact HALL.out k hk (by omega),HBZ.out⟩
              case measure=>simp [intOf]<;>omega
            · have o1:(y.value.op == 0)=false:=by simp [h0]
              (have o2:decide (y.value.op=0)=false:=by simp [h0]);cases hlb:Z33 K3 y.value.a
              · skip
                cases hlc:Z33 K3 y.value.b
                · skip
                  have HV:=hid (show actV K3 y=false by simp [actV,hla,h0,hlb,hlc]);clear hla
                  go_wp2_with (first
                   | (with_reducible refine wpList_load_mid rfl 96 _ rfl gg (oo+i*19) rfl _ _ HRG.out Tryz.underlying96 rfl (by kernel_rfl) ?_)
                   | ((with_reducible refine wpList_store_mid rfl 96 _ _ rfl wr.heap.size 0 #[.string y.id,.string y.attr.var,.int .i64 y.attr.sym.kind,.string y.attr.sym.text,.int .i64 y.attr.sym.n,.int .i64 y.value.op,.string y.value.a.var,.int .i64 y.value.a.sym.kind,.string y.value.a.sym.text,.int .i64 y.value.a.sym.n,.string y.value.b.var,.int .i64 y.value.b.sym.kind,.string y.value.b.sym.text,.int .i64 y.value.b.sym.n,.int .i64 y.pref,.string y.other.var,.int .i64 y.other.sym.kind,.string y.other.sym.text,.int .i64 y.other.sym.n] rfl rfl HTH.out (by kernel_rfl) (by kernel_rfl) ?_);rw [← HW6.out])
                   | ((with_reducible refine HA.out.mono ?_);rintro e w7 ⟨rfl,hb7⟩;obtain ⟨hc7,-⟩:=Z0p hb7;have hz7:=hb7.size;have hlo7:=Zkx hlo6 hz7;have HB7:=hid hb7;clear hb7))
                  have HS7:=hid (HS6.out.below HB7.out);have hA2:=HS7.out.lacks y.value.a hK3;rw [hlb] at hA2;clear hlb;refine hA2.mono ?_;rintro e w8 ⟨rfl,hb8⟩;obtain ⟨hc8,-⟩:=Z0p hb8;have hz8:=hb8.size;have HB8:=hid hb8;clear hb8 hA2;(go_wp2_with fail);have HS8:=hid (HS7.out.below HB8.out);have hA3:=HS8.out.lacks y.value.b hK3;rw [hlc] at hA3;clear hlc;refine hA3.mono ?_;rintro e w9 ⟨rfl,hb9⟩;have HBZ:=hid (HBr.out.trans ((HB6.out.trans ((HB7.out.trans ((HB8.out.trans (hb9.mono HB8.out.size)).mono HB7.out.size)).mono HB6.out.size)).mono hzr));clear hb9 hA3;(go_wp2_with fail);go_roundw
                  case rel=>exact ⟨i+1,by go_num,by omega,fun k hk hki=>by
                   by_cases e:k=i
                   · subst e;rw [← HY.out];exact HV.out
                   · exact HALL.out k hk (by omega),HBZ.out⟩
                  case measure=>simp [intOf]<;>omega
                · skip
                  have HV:=hid (show actV K3 y=true by simp [actV,hla,h0,hlb,hlc]);clear hla
                  go_wp2_with (first
                   | (with_reducible refine wpList_load_mid rfl 96 _ rfl gg (oo+i*19) rfl _ _ HRG.out Tryz.underlying96 rfl (by kernel_rfl) ?_)
                   | ((with_reducible refine wpList_store_mid rfl 96 _ _ rfl wr.heap.size 0 #[.string y.id,.string y.attr.var,.int .i64 y.attr.sym.kind,.string y.attr.sym.text,.int .i64 y.attr.sym.n,.int .i64 y.value.op,.string y.value.a.var,.int .i64 y.value.a.sym.kind,.string y.value.a.sym.text,.int .i64 y.value.a.sym.n,.string y.value.b.var,.int .i64 y.value.b.sym.kind,.string y.value.b.sym.text,.int .i64 y.value.b.sym.n,.int .i64 y.pref,.string y.other.var,.int .i64 y.other.sym.kind,.string y.other.sym.text,.int .i64 y.other.sym.n] rfl rfl HTH.out (by kernel_rfl) (by kernel_rfl) ?_);rw [← HW6.out])
                   | ((with_reducible refine HA.out.mono ?_);rintro e w7 ⟨rfl,hb7⟩;obtain ⟨hc7,-⟩:=Z0p hb7;have hz7:=hb7.size;have hlo7:=Zkx hlo6 hz7;have HB7:=hid hb7;clear hb7))
                  have HS7:=hid (HS6.out.below HB7.out);have hA2:=HS7.out.lacks y.value.a hK3;rw [hlb] at hA2;clear hlb;refine hA2.mono ?_;rintro e w8 ⟨rfl,hb8⟩;obtain ⟨hc8,-⟩:=Z0p hb8;have hz8:=hb8.size;have HB8:=hid hb8;clear hb8 hA2;(go_wp2_with fail);have HS8:=hid (HS7.out.below HB8.out);have hA3:=HS8.out.lacks y.value.b hK3;rw [hlc] at hA3;clear hlc;refine hA3.mono ?_;rintro e w9 ⟨rfl,hb9⟩;have HBZ:=hid (HBr.out.trans ((HB6.out.trans ((HB7.out.trans ((HB8.out.trans (hb9.mono HB8.out.size)).mono HB7.out.size)).mono HB6.out.size)).mono hzr));clear hb9 hA3
                  have hfi:p.acts.findIdx? (actV K3)=some i:=by
                   rw [List.findIdx?_eq_some_iff_getElem];exact ⟨hlt,by rw [← HY.out];exact HV.out,fun j hj=>by rw [HALL.out j (by omega) hj];decide⟩
                  have hR:=HR.out;rw [hfi] at hR;have HR2:=hid hR;have v1:IntKind.i64.wrap (ka+(i:Int))=ka+(i:Int):=Zl5 _ (by omega);clear hfi hR;go_wp2_with fail
                  go_ret3
                  exact Z4d.none_ HR2.out (HB5.out.trans (HBZ.out.mono hz5))
              · skip
                have HV:=hid (show actV K3 y=true by simp [actV,hla,h0,hlb]);clear hla
                go_wp2_with (first
                 | (with_reducible refine wpList_load_mid rfl 96 _ rfl gg (oo+i*19) rfl _ _ HRG.out Tryz.underlying96 rfl (by kernel_rfl) ?_)
                 | ((with_reducible refine wpList_store_mid rfl 96 _ _ rfl wr.heap.size 0 #[.string y.id,.string y.attr.var,.int .i64 y.attr.sym.kind,.string y.attr.sym.text,.int .i64 y.attr.sym.n,.int .i64 y.value.op,.string y.value.a.var,.int .i64 y.value.a.sym.kind,.string y.value.a.sym.text,.int .i64 y.value.a.sym.n,.string y.value.b.var,.int .i64 y.value.b.sym.kind,.string y.value.b.sym.text,.int .i64 y.value.b.sym.n,.int .i64 y.pref,.string y.other.var,.int .i64 y.other.sym.kind,.string y.other.sym.text,.int .i64 y.other.sym.n] rfl rfl HTH.out (by kernel_rfl) (by kernel_rfl) ?_);rw [← HW6.out])
                 | ((with_reducible refine HA.out.mono ?_);rintro e w7 ⟨rfl,hb7⟩;obtain ⟨hc7,-⟩:=Z0p hb7;have hz7:=hb7.size;have hlo7:=Zkx hlo6 hz7;have HB7:=hid hb7;clear hb7))
                have HS7:=hid (HS6.out.below HB7.out);have hA2:=HS7.out.lacks y.value.a hK3;rw [hlb] at hA2;clear hlb;refine hA2.mono ?_;rintro e w8 ⟨rfl,hb8⟩;have HBZ:=hid (HBr.out.trans ((HB6.out.trans ((HB7.out.trans (hb8.mono HB7.out.size)).mono HB6.out.size)).mono hzr));clear hb8 hA2
                have hfi:p.acts.findIdx? (actV K3)=some i:=by
                 rw [List.findIdx?_eq_some_iff_getElem];exact ⟨hlt,by rw [← HY.out];exact HV.out,fun j hj=>by rw [HALL.out j (by omega) hj];decide⟩
                have hR:=HR.out;rw [hfi] at hR;have HR2:=hid hR;have v1:IntKind.i64.wrap (ka+(i:Int))=ka+(i:Int):=Zl5 _ (by omega);clear hfi hR;go_wp2_with fail
                go_ret3
                exact Z4d.none_ HR2.out (HB5.out.trans (HBZ.out.mono hz5))
          · skip
            have hA:=HS6.out.lacks y.attr hK3;rw [hla] at hA;have HA:=hid hA;clear hA;have HV:=hid (show actV K3 y=true by simp [actV,hla]);clear hla
            go_wp2_with (first
             | (with_reducible refine wpList_load_mid rfl 96 _ rfl gg (oo+i*19) rfl _ _ HRG.out Tryz.underlying96 rfl (by kernel_rfl) ?_)
             | ((with_reducible refine wpList_store_mid rfl 96 _ _ rfl wr.heap.size 0 #[.string y.id,.string y.attr.var,.int .i64 y.attr.sym.kind,.string y.attr.sym.text,.int .i64 y.attr.sym.n,.int .i64 y.value.op,.string y.value.a.var,.int .i64 y.value.a.sym.kind,.string y.value.a.sym.text,.int .i64 y.value.a.sym.n,.string y.value.b.var,.int .i64 y.value.b.sym.kind,.string y.value.b.sym.text,.int .i64 y.value.b.sym.n,.int .i64 y.pref,.string y.other.var,.int .i64 y.other.sym.kind,.string y.other.sym.text,.int .i64 y.other.sym.n] rfl rfl HTH.out (by kernel_rfl) (by kernel_rfl) ?_);rw [← HW6.out])
             | ((with_reducible refine HA.out.mono ?_);rintro e w7 ⟨rfl,hb7⟩;have HB7:=hid hb7;clear hb7))
            have HBZ:=hid (HBr.out.trans ((HB6.out.trans (HB7.out.mono HB6.out.size)).mono hzr))
            have hfi:p.acts.findIdx? (actV K3)=some i:=by
             rw [List.findIdx?_eq_some_iff_getElem];exact ⟨hlt,by rw [← HY.out];exact HV.out,fun j hj=>by rw [HALL.out j (by omega) hj];decide⟩
            have hR:=HR.out;rw [hfi] at hR;have HR2:=hid hR;have v1:IntKind.i64.wrap (ka+(i:Int))=ka+(i:Int):=Zl5 _ (by omega);clear hfi hR;go_wp2_with fail
            go_ret3
            exact Z4d.none_ HR2.out (HB5.out.trans (HBZ.out.mono hz5))
        · have hie:i=p.acts.length:=by omega
          have hfi:p.acts.findIdx? (actV K3)=none:=by
           rw [List.findIdx?_eq_none_iff];intro x hx;obtain ⟨j,hj,rfl⟩:=List.getElem_of_mem hx;exact HALL.out j hj (by omega)
          have hR:=HR.out;rw [hfi] at hR;have HR2:=hid hR;obtain ⟨σr,Ar,cr,g1,g2,g3,g4⟩:=HST5.out.below HBr.out;have k1:wr.cell? ⟨kb,1,none⟩=some (.slice Ar K3.2.length cr):=(g2.blk.cell 1).trans rfl;have hkr:=g2.blk.lt;have HROW:=hid g2.row;subst hie;clear hfi hR g1 g2 g3 g4;(go_wp2_with fail);go_quiet (fail);go_wp2_with fail
          go_ret3
          unfold Z4d;rw [HR2.out];exact ⟨Ar,cr,rfl,Z00 HROW.out (Below.drewN' (Zks _ _) _),HB5.out.trans ((HBr.out.trans (Below.mono (Below.drewN' (Zks _ _) _) hzr)).mono hz5)⟩
   · have t1:(x.kind == 1)=false:=by simp [hx1]
     (have t1':decide (x.kind=1)=false:=by simp [hx1]);have HR:=hid (Z7d HS0.out HXL.out hx1);clear hx1;go_wp2_with fail
     go_ret3
     exact Z4d.none_ HR.out HB2.out
 · have s1:(se == 0)=false:=by simp [hs0]
   (have s2:decide (se=0)=false:=by simp [hs0]);have HR:=hid (show Z1t n p=(sa,se,[]) by rw [Z5e (by rw [HSE.out];exact hs0),HSE.out]);clear hs0;go_wp2_with fail
   go_ret3
   exact Z4d.none_ HR.out HB2.out
end
end Go.Proofs.YtfidcfjcmlgkbaaGreat
