/-
  Texts put together: Known6, Shape5, Shape2, Shape6.
-/
import Derived.Test.YtfidcfjcmlgkbaaGreatPMj
namespace Go.Proofs.YtfidcfjcmlgkbaaGreat
open Lib (hid)
set_option maxRecDepth 100000
set_option maxHeartbeats 32000000
set_option linter.unusedSimpArgs false
section
open Go.RowKit Go.Shelf
theorem Sets.more {α:Type}{tSet tE size:Nat}{cells:α→List Value}{cmp:α→α→Int}{D D2:Nat→Prop}{w:World}{S:Nat→Option (List α)}{σ:Nat→St}(h:Sets tSet tE size cells cmp D w S σ) (hD :∀q,D2 q→D q∨(Off q S σ∧q<w.heap.size)):Sets tSet tE size cells cmp D2 w S σ:=
 ⟨h.at_,h.srt,fun b l hb=>⟨fun hd=>(hD b hd).elim (h.out b l hb).1 (fun ho=>(ho.1 b l hb).1 rfl),fun hs a ha hd=>(hD _ hd).elim (fun hd=>(h.out b l hb).2 hs a ha hd) (fun ho=>(ho.1 b l hb).2 a ha rfl)⟩,h.apart,fun k hk=>(hD k hk).elim (h.low k) (·.2)⟩
theorem Sets.drop_ {α:Type}{tSet tE size:Nat}{cells:α→List Value}{cmp:α→α→Int}{D:Nat→Prop}{w:World}{S:Nat→Option (List α)}{σ:Nat→St}{k:Nat}{m:List α}(h:Sets tSet tE size cells cmp D w (upd S k (some m)) σ) (hk:S k=none):Sets tSet tE size cells cmp D w S σ:=by
 have hup :∀b l,S b=some l→upd S k (some m) b=some l:=fun b l hb=>by
  rw [Z1q _ _ (fun e=>by rw [e,hk] at hb;cases hb)];exact hb
 exact ⟨fun b l hb=>h.at_ b l (hup b l hb),fun b l hb=>h.srt b l (hup b l hb),fun b l hb=>h.out b l (hup b l hb),fun b l b' l' hb hb'=>h.apart b l b' l' (hup b l hb) (hup b' l' hb'),h.low⟩
def Zmu (D:Nat→Prop) (W:World) (S:Nat→Option (List Name)) (kb sb:Nat) (K:Kn) (X:World) (e:Ending) (w5:World):Prop:=
 ∃kb' sb' D2 S2,e = .returned (.pointer (some ⟨kb',0,none⟩))∧KSt D2 w5 S2 kb' sb' (K.1,[]) w5∧¬D2 kb'∧(∀k,D k→D2 k)∧(∀b t cs,Blk X b t cs→t≠270→Blk w5 b t cs)∧Fr (fun j=>¬D j) X w5∧(∀K2 w6,KSt D2 w5 S2 kb' sb' K2 w6→KSt D W S kb sb K w6)
theorem Zf1 {D:Nat→Prop}{W X:World}{S:Nat→Option (List Name)}{kb sb:Nat}{K:Kn}(h:KSt D W S kb sb K X):Calls Tryz.prog 180 #[.pointer (some ⟨kb,0,none⟩)] X (Zmu D W S kb sb K X):=by
 obtain ⟨σ',A',c',h1,h2,h3,h4⟩:=h;refine (Zhs h1 h2).mono ?_;rintro e w5 ⟨kb',sb',rfl,hk,hs,⟨σ2,g1⟩,g2,g3,g4⟩;have hsa:=h1.at_ sb K.1 (Z0r _ _ _);have hkb5:Blk w5 kb _ _:=h2.blk.fr g4 (fun e=>h2.blk.ne_ hsa.blk (by decide) e);have hrow5:=Z15 h2.row g4 (fun g hg e=>Z02 h2.row hsa.blk (by decide) (by rw [hg,e]));have hAs:=Z9i hrow5
 have hnone:upd S sb (some K.1) sb'=none:=by
  cases hx:upd S sb (some K.1) sb' with
  | none=>rfl
  | some m=>exact absurd (h1.lt hx) (by omega)
 refine ⟨kb',sb',fun k=>D k∨k=kb∨(∃a,A'=some a∧a.block=k),upd S sb (some K.1),rfl,?_,?_,fun k hk=>.inl hk,?_,g3,?_⟩
 · refine ⟨σ2,none,0,Sets.more g1 (fun q hq=>?_),g2,AIn.none_ _,Fr.refl _ _⟩
   rcases hq with hq|rfl|⟨a,rfl,rfl⟩
   · exact .inl hq
   · exact .inr ⟨g1.off_of hkb5 (by decide) (by decide),hkb5.lt⟩
   · refine .inr ⟨?_,hAs a rfl⟩
     rcases hrow5.2 with ⟨hv,_⟩|⟨g,cap,cur,hv,_,hg,_⟩
     · simp at hv
     · simp only [Value.slice.injEq,Option.some.injEq] at hv
       rw [hv.1];exact g1.off_of (t:=9) hg (by decide) (by decide)
 · rintro (hd|rfl|⟨a,rfl,rfl⟩)
   · have:=h1.low _ hd;omega
   · have:=h2.blk.lt;omega
   · have:=Z9i h2.row a rfl;omega
 · intro b t cs hb hne
   exact hb.fr g4 (fun e=>hb.ne_ hsa.blk hne e)
 · rintro K2 w6 ⟨σ3,A3,c3,k1,k2,k3,k4⟩
   refine ⟨σ3,A',c',(k1.drop_ hnone).weaken (fun k hk=>.inl hk),⟨hkb5.fr k4 (fun hn=>hn (.inr (.inl rfl))),Z15 hrow5 k4 (fun g hg hn=>hn (.inr (.inr ?_))),Z0r _ _ _⟩,h3,(h4.trans g3).trans (k4.mono (fun j _ hj hd=>hj (.inl hd)))⟩;rcases A' with _|a
   · simp [Value.ownBlock] at hg
   · exact ⟨a,rfl,by simpa [Value.ownBlock] using hg⟩
theorem Z2s (n:Nat) (k:Kn) (c:Z0a) (l:List Z0a) (a:Int):Z12 (n+1) k (c :: l) a=if c.kind=3 then
 (match Z12 n (k.1,[]) c.conds (a+1) with
   | (true,a2,_)=>Z12 (n+1) k l a2
   | (false,a2,_)=>(false,a2,k))
 else
  (match oneK (if c.kind=1 then k else (k.1,[])) c with
    | (true,k2)=>Z12 (n+1) (if c.kind=1 then k2 else k) l (a+1)
    | (false,_)=>(false,a,k)):=by rw [Z12]<;>rfl
theorem Z4b (n:Nat) (k:Kn) (a:Int):Z12 n k [] a=(true,a,k):=by
 cases n<;>rw [Z12]
theorem Z71 (n d:Nat):Z0i n d [] = []:=by cases n<;>rfl
def Zbq (x:Nat×Z0a):Prop:=x.2.attr.length≤4∧x.2.value.length≤4∧(x.2.kind≠3→x.2.conds = [])
def Z6h (D:Nat→Prop) (W:World) (S:Nat→Option (List Name)) (kb sb:Nat) (K:Kn) (at_ m:Nat) (r:Bool×Int×Kn) (e:Ending) (W':World):Prop:=
 e = .returned (.tuple #[.int .i64 r.2.1,.bool r.1])∧Fr (fun j=>¬D j) W W'∧(r.1=true→KSt D W S kb sb r.2.2 W'∧r.2.1=((at_+m:Nat):Int)∧r.2.2.1.length≤K.1.length+9*m∧r.2.2.2.length≤K.2.length+9*m)
theorem Zhq :∀(n d at_:Nat) (D:Nat→Prop) (W:World) (S:Nat→Option (List Name)) (kb sb:Nat) (K:Kn) (A:Option Addr) (c:Nat) (l:List Z0a),KSt D W S kb sb K W→¬D kb→RowR (Z06 n) D W A c l→(∀x∈Z0i n d l,Zbq x)→K.1.length+9*(Z0i n d l).length≤900000→K.2.length+9*(Z0i n d l).length≤900000→at_+(Z0i n d l).length≤1000000000→
 Calls Tryz.prog 138 #[.pointer (some ⟨kb,0,none⟩),.slice A l.length c,.int .i64 (at_:Int)] W (Z6h D W S kb sb K at_ (Z0i n d l).length (Z12 n K l at_)):=by
 intro n
 induction n with
 | zero=>
   intro d at_ D W S kb sb K A c l hst hkD h hsm hl1 hl2 hla
   have hl0:l = []:=by
    cases l with
    | nil=>rfl
    | cons x l=>
      obtain ⟨b,off,cs,_,_,_,hr,_⟩:=h.at_ (k:=0) (by simp);exact hr.elim
   subst hl0;have H0:=hid hst;have HN:=hid (Z4b 0 K at_);clear h hst hsm hkD;go_enter Tryz.func138,Tryz.ntmps138;go_wp2_with fail
   go_loopw [2,15] (fun a s wr=>s = .int .i64 0∧a = .int .i64 (at_:Int)∧wr=W) (fun a s wr=>0)
   case atStart=>exact ⟨rfl,rfl,rfl⟩
   case round=>
    obtain ⟨rfl,rfl,rfl⟩:=hrel;(go_wp2_with fail);go_ret2;unfold Z6h;rw [HN.out];exact ⟨rfl,Fr.refl _ _,fun _=>⟨H0.out,by simp [Z0i],by simp [Z0i],by simp [Z0i]⟩⟩
 | succ n ih=>
   intro d at_ D W S kb sb K A c l hst hkD h hsm hl1 hl2 hla;have H0:=hid hst;have HKD:=hid hkD;have HR:=hid h;have HSM:=hid hsm;have IH:=hid ih;have hlc:=h.cap;obtain ⟨tot,htot⟩:∃tot,tot=(Z0i (n+1) d l).length:=⟨_,rfl⟩;rw [←htot] at hl1 hl2 hla ⊢;have HTOT:=hid htot;clear h hst hsm hkD ih htot;go_enter Tryz.func138,Tryz.ntmps138;go_wp2_with fail
   go_loopw [2,15] (fun a s wr=>∃(i m:Nat) (K':Kn),s = .int .i64 i∧i≤l.length∧m=(Z0i (n+1) d (l.take i)).length∧a = .int .i64 ((at_+m:Nat):Int)∧Z12 (n+1) K l at_=Z12 (n+1) K' (l.drop i) ((at_+m:Nat):Int)∧KSt D W S kb sb K' wr∧K'.1.length≤K.1.length+9*m∧K'.2.length≤K.2.length+9*m) (fun a s wr=>l.length - (intOf s).toNat)
   case atStart=>exact ⟨0,0,K,rfl,Nat.zero_le _,by simp [Z0i],rfl,rfl,H0.out,Znl _,Znl _⟩
   case round=>
    obtain ⟨i,m,K',rfl,hi,hm,rfl,heq,hst,hk1,hk2⟩:=hrel;have HEQ:=hid heq;have HST:=hid hst;have HM:=hid hm;clear heq hst hm;by_cases hlt:i<l.length
    · obtain ⟨y,hy⟩:∃y,y=l[i]:=⟨_,rfl⟩
      obtain ⟨k,hk⟩:∃k,k=at_+m:=⟨_,rfl⟩;obtain ⟨mi,hmi⟩:∃mi,mi=(Z0i n (d+1) y.conds).length:=⟨_,rfl⟩;have hsn:=Z4c n d l i hlt;rw [←hy] at hsn;have HM1:=hid (show (Z0i (n+1) d (l.take (i+1))).length=m+1+mi by rw [hsn,Znp,Zo4,←HM.out,←hmi];omega)
      have hle:m+1+mi≤tot:=by
       rw [←HM1.out,HTOT.out]
       conv=>rhs;rw [←List.take_append_drop (i+1) l,Z1t,Zny,Znp]
       rw [Z1t];omega
      have hin :∀x,x∈(d,y) :: Z0i n (d+1) y.conds→x∈Z0i (n+1) d l:=by
       intro x hx;rw [Z1t];exact List.mem_flatMap.2 ⟨y,by rw [hy];exact Zo8 hlt,hx⟩
      have hsy:Zbq (d,y):=HSM.out _ (hin _ List.mem_cons_self);have HSY:=hid (show ∀x∈Z0i n (d+1) y.conds,Zbq x from fun x hx=>HSM.out _ (hin _ (List.mem_cons_of_mem _ hx)));obtain ⟨hsy1,hsy2,hsy3⟩:=hsy;dsimp only at hsy1 hsy2 hsy3;have HMI:=hid (show y.kind≠3→mi=0 from fun hk=>by rw [hmi,hsy3 hk,Z71];rfl);clear hsy3;have hdr:=Z70 hlt;rw [←hy] at hdr;have HEQ2:=hid (show Z12 (n+1) K l at_=Z12 (n+1) K' (y :: l.drop (i+1)) (k:Int) by rw [HEQ.out,hdr,hk]);obtain ⟨g,off,A1,c1,A2,c2,A3,c3,rfl,_,hg,q0,q1,q2,q3,q4,q5,q6,r1,r2,r3⟩:=Z1j (HR.out.fr HST.out.fr_ (fun j hd hn=>hn hd)) hlt;rw [←hy] at q0 q1 q2 q3 q4 q5 q6 r1 r2 r3;have HR1:=hid r1;have HR2:=hid r2;have HR3:=hid r3;have hn3:=r3.cap;(have b1:(0:Int)≤(i:Int):=by omega);(have b2:(i:Int)<(l.length:Int):=by omega);have hzr:=HST.out.fr_.size;(have v1:IntKind.i64.wrap ((k:Int)+1)=((k+1:Nat):Int):=by rw [Znu _ (by omega)];rfl);have HK:=hid hk;rw [←hk];have HME:=hid hmi;clear hy hsn hin hdr r1 r2 r3 hk hmi;by_cases kd1:y.kind=1
      · have t1:(y.kind == 1)=true:=by simp [kd1]
        (have t1':decide (y.kind=1)=true:=by simp [kd1]);(have t3:(y.kind == 3)=false:=by simp [kd1]);(have t3':decide (y.kind=3)=false:=by simp [kd1]);obtain ⟨bo,ko,ho⟩:∃b k,oneK K' y=(b,k):=⟨_,_,rfl⟩
        have HEQ3:=hid (show Z12 (n+1) K l at_=if bo=true then Z12 (n+1) ko (l.drop (i+1)) ((k:Int)+1) else (false,(k:Int),K') by
         rw [HEQ2.out,Z2s,if_neg (by rw [kd1];decide)];simp only [if_pos kd1,ho]
         cases bo<;>rfl)
        have HM0:=hid (HMI.out (by rw [kd1];decide));clear kd1;(go_wp2_with fail);obtain ⟨X,hX⟩:∃X,X=wr.alloc (.cells #[.int .i64 y.kind,.bool y.goal,.string y.id,.slice A1 y.attr.length c1,.slice A2 y.value.length c2,.bool y.acc,.slice A3 y.conds.length c3] 59):=⟨_,rfl⟩;rw [←hX];(have hbX:Below wr.heap.size wr X:=by rw [hX];exact (Znk _ _).alloc (Znl _) _);(have hBk:Blk X wr.heap.size 59 #[.int .i64 y.kind,.bool y.goal,.string y.id,.slice A1 y.attr.length c1,.slice A2 y.value.length c2,.bool y.acc,.slice A3 y.conds.length c3]:=by rw [hX];exact Blk.new _ _ _);have HBX:=hid hbX;have HBK:=hid hBk;clear hX hbX hBk;have hko:=Zhu y (A3:=A3) (c3:=c3) (HST.out.below HBX.out).prot0 HKD.out (HR1.out.new_ HBX.out) (HR2.out.new_ HBX.out) (by omega) (by omega);rw [ho] at hko;refine hko.mono ?_;rintro e w6 ⟨rfl,hst6,hl6,hl7⟩;have HST6:=hid (hst6.join (HST.out.below HBX.out));dsimp only at hl6 hl7;clear hko ho hst6 q0 q1 q2 q3 q4 q5 q6
        cases bo with
        | false=>
          (go_wp2_with fail);go_ret2;unfold Z6h;rw [HEQ3.out,if_neg (by decide)];exact ⟨rfl,HST6.out.fr_,fun h=>by cases h⟩
        | true=>
          (go_wp2_with fail);go_roundw
          case rel=>
           (have hat:((at_+(m+1+mi):Nat):Int)=(k:Int)+1:=by have:=HM0.out;have:=HK.out;omega);refine ⟨i+1,m+1+mi,ko,by go_num,by omega,HM1.out.symm,by rw [hat],by rw [hat,HEQ3.out];simp,HST6.out,by omega,by omega⟩
          case measure=>simp [intOf]<;>omega
      · have t1:(y.kind == 1)=false:=by simp [kd1]
        (have t1':decide (y.kind=1)=false:=by simp [kd1]);by_cases kd3:y.kind=3
        · have t3:(y.kind == 3)=true:=by simp [kd3]
          (have t3':decide (y.kind=3)=true:=by simp [kd3]);obtain ⟨⟨bo,ao,ko⟩,ho⟩:∃r,Z12 n (K'.1,[]) y.conds ((k+1:Nat):Int)=r:=⟨_,rfl⟩
          have HEQ3:=hid (show Z12 (n+1) K l at_=if bo=true then Z12 (n+1) K' (l.drop (i+1)) ao else (false,ao,K') by
           rw [HEQ2.out,Z2s,if_pos kd3,show ((k:Int)+1)=((k+1:Nat):Int) by omega,ho]
           cases bo<;>rfl)
          have T3:=hid t3;have T3':=hid t3';clear kd1 kd3 t3 t3';(go_wp2_with fail);obtain ⟨X,hX⟩:∃X,X=wr.alloc (.cells #[.int .i64 y.kind,.bool y.goal,.string y.id,.slice A1 y.attr.length c1,.slice A2 y.value.length c2,.bool y.acc,.slice A3 y.conds.length c3] 59):=⟨_,rfl⟩;rw [←hX];(have hbX:Below wr.heap.size wr X:=by rw [hX];exact (Znk _ _).alloc (Znl _) _);(have hBk:Blk X wr.heap.size 59 #[.int .i64 y.kind,.bool y.goal,.string y.id,.slice A1 y.attr.length c1,.slice A2 y.value.length c2,.bool y.acc,.slice A3 y.conds.length c3]:=by rw [hX];exact Blk.new _ _ _);have HBX:=hid hbX;have HBK:=hid hBk;clear hX hbX hBk;refine (Zf1 (HST.out.below HBX.out)).mono ?_;rintro e w5 ⟨kb',sb',D2,S2,rfl,hs5,hkD2,hDD,hbl,hF5,hback⟩;have HF5:=hid ((HST.out.below HBX.out).fr_.trans hF5);have HDD:=hid hDD;have hBk5:=hbl _ _ _ HBK.out (by decide);have HB5:=hid hBk5;have HBACK:=hid hback;have hg5:=hBk5.lt;have x0:w5.cell? ⟨wr.heap.size,0,none⟩=some (.int .i64 y.kind):=(hBk5.cell 0).trans rfl;have x6:w5.cell? ⟨wr.heap.size,6,none⟩=some (.slice A3 y.conds.length c3):=(hBk5.cell 6).trans rfl;have hih:=IH.out (d+1) (k+1) D2 w5 S2 kb' sb' (K'.1,[]) A3 c3 y.conds hs5 hkD2 (((HR3.out.new_ HBX.out).fr hF5 (fun k hk hn=>hn hk)).weaken hDD) HSY.out (by have:=HME.out;dsimp only;omega) (by have:=HME.out;simp;omega) (by have:=HME.out;have:=HK.out;omega);rw [ho] at hih;have HIH:=hid hih;clear hih hs5 hkD2 hDD hbl hF5 hback hBk5 ho q0 q1 q2 q3 q4 q5 q6;have t3:=T3.out;have t3':=T3'.out;(go_wp2_with fail);refine HIH.out.mono ?_;rintro e w6 ⟨rfl,hF6,htr⟩
          cases bo with
          | false=>
            have HF6:=hid hF6;clear htr hF6 x0 x6;(go_wp2_with fail);go_ret2;unfold Z6h;rw [HEQ3.out,if_neg (by decide)];exact ⟨rfl,HF5.out.trans (HF6.out.mono (fun j _ hj hd=>hj (HDD.out j hd))),fun h=>by cases h⟩
          | true=>
            obtain ⟨hst6,ha6,hl6,hl7⟩:=htr rfl;have HST6:=hid (HBACK.out _ _ hst6);dsimp only at ha6;have HA6:=hid ha6;clear htr hF6 x0 x6 hst6 ha6 hl6 hl7;(go_wp2_with fail);go_roundw
            case rel=>
             (have hat:ao=((at_+(m+1+mi):Nat):Int):=by have:=HA6.out;have:=HK.out;have:=HME.out;omega);refine ⟨i+1,m+1+mi,K',by go_num,by omega,HM1.out.symm,by rw [hat],by rw [HEQ3.out,hat];simp,HST6.out,by omega,by omega⟩
            case measure=>simp [intOf]<;>omega
        · have t3:(y.kind == 3)=false:=by simp [kd3]
          (have t3':decide (y.kind=3)=false:=by simp [kd3]);obtain ⟨bo,ko,ho⟩:∃b k,oneK (K'.1,[]) y=(b,k):=⟨_,_,rfl⟩
          have HEQ3:=hid (show Z12 (n+1) K l at_=if bo=true then Z12 (n+1) K' (l.drop (i+1)) ((k:Int)+1) else (false,(k:Int),K') by
           rw [HEQ2.out,Z2s,if_neg kd3];simp only [if_neg kd1,ho]
           cases bo<;>rfl)
          have HM0:=hid (HMI.out kd3);have T3:=hid t3;have T3':=hid t3';clear kd1 kd3 t3 t3';(go_wp2_with fail);obtain ⟨X,hX⟩:∃X,X=wr.alloc (.cells #[.int .i64 y.kind,.bool y.goal,.string y.id,.slice A1 y.attr.length c1,.slice A2 y.value.length c2,.bool y.acc,.slice A3 y.conds.length c3] 59):=⟨_,rfl⟩;rw [←hX];(have hbX:Below wr.heap.size wr X:=by rw [hX];exact (Znk _ _).alloc (Znl _) _);(have hBk:Blk X wr.heap.size 59 #[.int .i64 y.kind,.bool y.goal,.string y.id,.slice A1 y.attr.length c1,.slice A2 y.value.length c2,.bool y.acc,.slice A3 y.conds.length c3]:=by rw [hX];exact Blk.new _ _ _);have HBX:=hid hbX;have HBK:=hid hBk;clear hX hbX hBk;refine (Zf1 (HST.out.below HBX.out)).mono ?_;rintro e w5 ⟨kb',sb',D2,S2,rfl,hs5,hkD2,hDD,hbl,hF5,hback⟩;have HF5:=hid ((HST.out.below HBX.out).fr_.trans hF5);have HDD:=hid hDD;have hBk5:=hbl _ _ _ HBK.out (by decide);have HBACK:=hid hback;have hg5:=hBk5.lt;have x0:w5.cell? ⟨wr.heap.size,0,none⟩=some (.int .i64 y.kind):=(hBk5.cell 0).trans rfl;have x1:w5.cell? ⟨wr.heap.size,1,none⟩=some (.bool y.goal):=(hBk5.cell 1).trans rfl;have x2:w5.cell? ⟨wr.heap.size,2,none⟩=some (.string y.id):=(hBk5.cell 2).trans rfl;have x3:w5.cell? ⟨wr.heap.size,3,none⟩=some (.slice A1 y.attr.length c1):=(hBk5.cell 3).trans rfl;have x4:w5.cell? ⟨wr.heap.size,4,none⟩=some (.slice A2 y.value.length c2):=(hBk5.cell 4).trans rfl;have x5:w5.cell? ⟨wr.heap.size,5,none⟩=some (.bool y.acc):=(hBk5.cell 5).trans rfl;have x6:w5.cell? ⟨wr.heap.size,6,none⟩=some (.slice A3 y.conds.length c3):=(hBk5.cell 6).trans rfl;have hko:=Zhu y (A3:=A3) (c3:=c3) hs5 hkD2 (((HR1.out.new_ HBX.out).fr hF5 (fun k hk hn=>hn hk)).weaken hDD) (((HR2.out.new_ HBX.out).fr hF5 (fun k hk hn=>hn hk)).weaken hDD) (by dsimp only;omega) (by dsimp only;simp;omega);rw [ho] at hko;have HKO:=hid hko;clear hko hs5 hkD2 hDD hbl hF5 hback hBk5 ho q0 q1 q2 q3 q4 q5 q6;have t3:=T3.out;have t3':=T3'.out;(go_wp2_with fail);refine HKO.out.mono ?_;rintro e w6 ⟨rfl,hst6,-,-⟩;have HST6:=hid hst6;clear hst6 x0 x1 x2 x3 x4 x5 x6
          cases bo with
          | false=>
            (go_wp2_with fail);go_ret2;unfold Z6h;rw [HEQ3.out,if_neg (by decide)];exact ⟨rfl,HF5.out.trans (HST6.out.fr_.mono (fun j _ hj hd=>hj (HDD.out j hd))),fun h=>by cases h⟩
          | true=>
            (go_wp2_with fail);go_roundw
            case rel=>
             (have hat:((at_+(m+1+mi):Nat):Int)=(k:Int)+1:=by have:=HM0.out;have:=HK.out;omega);refine ⟨i+1,m+1+mi,K',by go_num,by omega,HM1.out.symm,by rw [hat],by rw [hat,HEQ3.out];simp,HBACK.out _ _ HST6.out,by omega,by omega⟩
            case measure=>simp [intOf]<;>omega
    · have hie:i=l.length:=by omega
      subst hie;rw [Zo6,←HTOT.out] at HM;rw [Zoq,Z4b] at HEQ;have hm:=HM.out;subst hm;(go_wp2_with fail);go_ret2;unfold Z6h;rw [HEQ.out];exact ⟨rfl,HST.out.fr_,fun _=>⟨HST.out,rfl,hk1,hk2⟩⟩
def Inv1 (bn:Nat) (k:Nat) (w:World):Prop:=Blk w bn 3 #[.int .i64 (k:Int)]∧k≤16
def Zni (bn:Nat) (F:List (Nat×Z0a)) (w:World):Prop:=Blk w bn 3 #[.int .i64 17]∧16<F.length
theorem yld1 {D:Nat→Prop}(bn:Nat) (hD :¬D bn) (F:List (Nat×Z0a)):Yld 175 [.pointer (some ⟨bn,0,none⟩)] D (· = bn) F (Inv1 bn) (Zni bn F):=by
 refine ⟨by intro args w;kernel_rfl,?_,fun j hj e=>hD (e ▸ hj),fun k w w' h hb=>⟨h.1.new_ hb,h.2⟩,fun w w' h hb=>⟨h.1.new_ hb,h.2⟩⟩;intro k hk w A1 A2 A3 c1 c2 c3 hI _ _ _;obtain ⟨x,hx⟩:∃x,x=F[k].2:=⟨_,rfl⟩;obtain ⟨d,hd⟩:∃d,d=F[k].1:=⟨_,rfl⟩;rw [←hx,←hd];have HI:=hid hI;have s0:w.cell? ⟨bn,0,none⟩=some (.int .i64 (k:Int)):=(hI.1.cell 0).trans rfl;have f0:=hI.1.frozen 0;have hl:=hI.1.lt;have hk16:=hI.2;have v1:IntKind.i64.wrap ((k:Int)+1)=(k:Int)+1:=Znu _ (by omega);clear hI hx hd;show Calls Tryz.prog 175 #[_,_,_,_] w _;by_cases h16:k+1≤16
 · have t1:decide ((k:Int)+1≤16)=true:=Zno (by omega)
   go_enter Tryz.func175,Tryz.ntmps175;(go_wp2_with fail);go_ret;refine ⟨true,rfl,fun _=>⟨?_,h16⟩,(fun h=>by cases h),((Fr.refl (· = bn) w).setCell (p:=⟨bn,0,none⟩) (.inl rfl) _).alloc _⟩;exact (HI.out.1.set_ 0 (.int .i64 ((k:Int)+1))).alloc _
 · have t1:decide ((k:Int)+1≤16)=false:=Znm (by omega)
   (have hk17:(k:Int)+1=17:=by omega);have HK:=hid hk17;clear hk17;go_enter Tryz.func175,Tryz.ntmps175;(go_wp2_with fail);go_ret;refine ⟨false,rfl,(fun h=>by cases h),fun _=>?_,((Fr.refl (· = bn) w).setCell (p:=⟨bn,0,none⟩) (.inl rfl) _).alloc _⟩;rw [HK.out];exact ⟨(HI.out.1.set_ 0 (.int .i64 17)).alloc _,by have:=HK.out;omega⟩
def Inv2 (be bp:Nat) (F:List (Nat×Z0a)) (k:Nat) (w:World):Prop:=Blk w be 42 #[.int .i64 0]∧Blk w bp 3 #[.int .i64 (-1)]∧∀j,(h:j<F.length)→j<k→Z0l F[j].2 F[j].1=0
def Znj (be bp:Nat) (F:List (Nat×Z0a)) (w:World):Prop:=∃k,∃h:k<F.length,Blk w be 42 #[.int .i64 (Z0l F[k].2 F[k].1)]∧Blk w bp 3 #[.int .i64 (k:Int)]∧Z0l F[k].2 F[k].1≠0∧∀j,(h:j<F.length)→j<k→Z0l F[j].2 F[j].1=0
theorem yld2 {D:Nat→Prop}(be bp:Nat) (hD1 :¬D be) (hD2 :¬D bp) (hne:be≠bp) (F:List (Nat×Z0a)):Yld 176 [.pointer (some ⟨be,0,none⟩),.pointer (some ⟨bp,0,none⟩)] D (fun j=>j=be∨j=bp) F (Inv2 be bp F) (Znj be bp F):=by
 refine ⟨by intro args w;kernel_rfl,?_,fun j hj e=>e.elim (fun e=>hD1 (e ▸ hj)) (fun e=>hD2 (e ▸ hj)),fun k w w' h hb=>⟨h.1.new_ hb,h.2.1.new_ hb,h.2.2⟩,fun w w' ⟨k,h,h1,h2,h3⟩ hb=>⟨k,h,h1.new_ hb,h2.new_ hb,h3⟩⟩;intro k hk w A1 A2 A3 c1 c2 c3 hI hr1 hr2 hn3;obtain ⟨x,hx⟩:∃x,x=F[k].2:=⟨_,rfl⟩;obtain ⟨d,hd⟩:∃d,d=F[k].1:=⟨_,rfl⟩;rw [←hx] at hr1 hr2 hn3;rw [←hx,←hd];have HI:=hid hI;have HX:=hid (show Z0l F[k].2 F[k].1=Z0l x d by rw [hx,hd]);have HR1:=hid hr1;have HR2:=hid hr2;clear hI hx hd hr1 hr2;show Calls Tryz.prog 176 #[_,_,_,_,_] w _;go_enter Tryz.func176,Tryz.ntmps176;(go_wp2_with fail);obtain ⟨X,hX⟩:∃X,X=w.alloc (.cells #[.int .i64 x.kind,.bool x.goal,.string x.id,.slice A1 x.attr.length c1,.slice A2 x.value.length c2,.bool x.acc,.slice A3 x.conds.length c3] 59):=⟨_,rfl⟩;rw [←hX];(have hbX:Below w.heap.size w X:=by rw [hX];exact (Znk _ _).alloc (Znl _) _);have HBX:=hid hbX;clear hX hbX;refine (Zlt x d A1 A2 A3 c1 c2 c3 X (HR1.out.new_ HBX.out) (HR2.out.new_ HBX.out) hn3).mono ?_;rintro e w5 ⟨rfl,hb5⟩;have HB5:=hid (HBX.out.trans (hb5.mono HBX.out.size));have hE:=HI.out.1.new_ HB5.out;have hP:=HI.out.2.1.new_ HB5.out;have s0:w5.cell? ⟨be,0,none⟩=some (.int .i64 0):=(hE.cell 0).trans rfl;have s1:w5.cell? ⟨bp,0,none⟩=some (.int .i64 (-1)):=(hP.cell 0).trans rfl;have f0:=hE.frozen 0;have f1:=hP.frozen 0;have hl0:=hE.lt;have hl1:=hP.lt;have HE:=hid hE;have HP:=hid hP;obtain ⟨z,hz⟩:∃z,z=Z0l x d:=⟨_,rfl⟩;rw [←hz];have HZ:=hid hz;clear hb5 hE hP hz;by_cases h0:z=0
 · subst h0
   (go_wp2_with fail);go_ret;refine ⟨true,rfl,fun _=>⟨HE.out.set_ 0 _,HP.out.far (p:=⟨be,0,none⟩) (Ne.symm hne) _,fun j hj hjk=>?_⟩,(fun h=>by cases h),(Fr.of_new HB5.out).setCell (p:=⟨be,0,none⟩) (.inl (.inl rfl)) _⟩;by_cases e:j=k
   · subst e;rw [HX.out,←HZ.out]
   · exact HI.out.2.2 j hj (by omega)
 · have t1:(z == 0)=false:=by simp [h0]
   (have t2:decide (z=0)=false:=by simp [h0]);have HN0:=hid h0;clear h0;(go_wp2_with fail);go_ret;refine ⟨false,rfl,(fun h=>by cases h),fun _=>⟨k,hk,?_,?_,?_,HI.out.2.2⟩,((Fr.of_new HB5.out).setCell (p:=⟨be,0,none⟩) (.inl (.inl rfl)) _).setCell (p:=⟨bp,0,none⟩) (.inl (.inr rfl)) _⟩
   · rw [HX.out,←HZ.out]
     exact (HE.out.set_ 0 _).far (p:=⟨bp,0,none⟩) hne _
   · exact (HP.out.far (p:=⟨be,0,none⟩) (Ne.symm hne) _).set_ 0 _
   · rw [HX.out,←HZ.out];exact HN0.out
theorem Zn2 (a:ActT) (w:World):Calls Tryz.prog 178 #[.agg #[.string a.id,.string a.attr.var,.int .i64 a.attr.sym.kind,.string a.attr.sym.text,.int .i64 a.attr.sym.n,.int .i64 a.value.op,.string a.value.a.var,.int .i64 a.value.a.sym.kind,.string a.value.a.sym.text,.int .i64 a.value.a.sym.n,.string a.value.b.var,.int .i64 a.value.b.sym.kind,.string a.value.b.sym.text,.int .i64 a.value.b.sym.n,.int .i64 a.pref,.string a.other.var,.int .i64 a.other.sym.kind,.string a.other.sym.text,.int .i64 a.other.sym.n]] w fun e w'=>e = .returned (.bool (actB a))∧Below w.heap.size w w':=by
 by_cases c0:Z17 a.id=false;have t0:=c0;have HR:=hid (show actB a=false by simp [actB, *]);clear c0;rotate_left 1;by_cases c1:Z2c a.attr=false;(have t0:Z17 a.id=true:=by simpa using c0);have t1:=c1;have HR:=hid (show actB a=false by simp [actB, *]);clear c0 c1;rotate_left 1;by_cases c2:Z2n a.value=false;(have t0:Z17 a.id=true:=by simpa using c0);(have t1:Z2c a.attr=true:=by simpa using c1);have t2:=c2;have HR:=hid (show actB a=false by simp [actB, *]);clear c0 c1 c2;rotate_left 1;by_cases c3:a.pref<1;(have t0:Z17 a.id=true:=by simpa using c0);(have t1:Z2c a.attr=true:=by simpa using c1);(have t2:Z2n a.value=true:=by simpa using c2);(have t3:decide (a.pref<1)=true:=by simp [*]);have HR:=hid (show actB a=false by simp [actB, *]);clear c0 c1 c2 c3;rotate_left 1;by_cases c4:10<a.pref;(have t0:Z17 a.id=true:=by simpa using c0);(have t1:Z2c a.attr=true:=by simpa using c1);(have t2:Z2n a.value=true:=by simpa using c2);(have t3:decide (a.pref<1)=false:=by simp;omega);(have t4:decide (10<a.pref)=true:=by simp [*]);have HR:=hid (show actB a=false by simp [actB, *]);clear c0 c1 c2 c3 c4;rotate_left 1;by_cases c5:Z2m a.pref=true;(have t0:Z17 a.id=true:=by simpa using c0);(have t1:Z2c a.attr=true:=by simpa using c1);(have t2:Z2n a.value=true:=by simpa using c2);(have t3:decide (a.pref<1)=false:=by simp;omega);have t4:decide (10<a.pref)=false:=by simp;omega
 have t5:=c5;have HR:=hid (show actB a=Z2c a.other by simp [actB, *]);clear c0 c1 c2 c3 c4 c5;rotate_left 1;(have t0:Z17 a.id=true:=by simpa using c0);(have t1:Z2c a.attr=true:=by simpa using c1);(have t2:Z2n a.value=true:=by simpa using c2);(have t3:decide (a.pref<1)=false:=by simp;omega);(have t4:decide (10<a.pref)=false:=by simp;omega);(have t5:Z2m a.pref=false:=by simpa using c5);have HR:=hid (show actB a=Z2t a.other by simp [actB, *]);clear c0 c1 c2 c3 c4 c5
 all_goals
  go_enter Tryz.func178,Tryz.ntmps178;(go_upto_region 1 with fail);obtain ⟨W1,hW1⟩:∃W1,W1=w.alloc (.cells #[.string a.id,.string a.attr.var,.int .i64 a.attr.sym.kind,.string a.attr.sym.text,.int .i64 a.attr.sym.n,.int .i64 a.value.op,.string a.value.a.var,.int .i64 a.value.a.sym.kind,.string a.value.a.sym.text,.int .i64 a.value.a.sym.n,.string a.value.b.var,.int .i64 a.value.b.sym.kind,.string a.value.b.sym.text,.int .i64 a.value.b.sym.n,.int .i64 a.pref,.string a.other.var,.int .i64 a.other.sym.kind,.string a.other.sym.text,.int .i64 a.other.sym.n] 96):=⟨_,rfl⟩;rw [←hW1];(have hBk:Blk W1 w.heap.size 96 #[.string a.id,.string a.attr.var,.int .i64 a.attr.sym.kind,.string a.attr.sym.text,.int .i64 a.attr.sym.n,.int .i64 a.value.op,.string a.value.a.var,.int .i64 a.value.a.sym.kind,.string a.value.a.sym.text,.int .i64 a.value.a.sym.n,.string a.value.b.var,.int .i64 a.value.b.sym.kind,.string a.value.b.sym.text,.int .i64 a.value.b.sym.n,.int .i64 a.pref,.string a.other.var,.int .i64 a.other.sym.kind,.string a.other.sym.text,.int .i64 a.other.sym.n]:=by rw [hW1];exact Blk.new _ _ _);have HB:=hid (show Below w.heap.size w W1 by rw [hW1];exact (Znk _ _).alloc (Znl _) _);have e0:W1.cell? ⟨w.heap.size,0,none⟩=some (.string a.id):=(hBk.cell 0).trans rfl;have e1:W1.cell? ⟨w.heap.size,1,none⟩=some (.string a.attr.var):=(hBk.cell 1).trans rfl;have e2:W1.cell? ⟨w.heap.size,2,none⟩=some (.int .i64 a.attr.sym.kind):=(hBk.cell 2).trans rfl;have e3:W1.cell? ⟨w.heap.size,3,none⟩=some (.string a.attr.sym.text):=(hBk.cell 3).trans rfl;have e4:W1.cell? ⟨w.heap.size,4,none⟩=some (.int .i64 a.attr.sym.n):=(hBk.cell 4).trans rfl;have e5:W1.cell? ⟨w.heap.size,5,none⟩=some (.int .i64 a.value.op):=(hBk.cell 5).trans rfl;have e6:W1.cell? ⟨w.heap.size,6,none⟩=some (.string a.value.a.var):=(hBk.cell 6).trans rfl;have e7:W1.cell? ⟨w.heap.size,7,none⟩=some (.int .i64 a.value.a.sym.kind):=(hBk.cell 7).trans rfl;have e8:W1.cell? ⟨w.heap.size,8,none⟩=some (.string a.value.a.sym.text):=(hBk.cell 8).trans rfl;have e9:W1.cell? ⟨w.heap.size,9,none⟩=some (.int .i64 a.value.a.sym.n):=(hBk.cell 9).trans rfl;have e10:W1.cell? ⟨w.heap.size,10,none⟩=some (.string a.value.b.var):=(hBk.cell 10).trans rfl;have e11:W1.cell? ⟨w.heap.size,11,none⟩=some (.int .i64 a.value.b.sym.kind):=(hBk.cell 11).trans rfl;have e12:W1.cell? ⟨w.heap.size,12,none⟩=some (.string a.value.b.sym.text):=(hBk.cell 12).trans rfl;have e13:W1.cell? ⟨w.heap.size,13,none⟩=some (.int .i64 a.value.b.sym.n):=(hBk.cell 13).trans rfl;have e14:W1.cell? ⟨w.heap.size,14,none⟩=some (.int .i64 a.pref):=(hBk.cell 14).trans rfl;have e15:W1.cell? ⟨w.heap.size,15,none⟩=some (.string a.other.var):=(hBk.cell 15).trans rfl;have e16:W1.cell? ⟨w.heap.size,16,none⟩=some (.int .i64 a.other.sym.kind):=(hBk.cell 16).trans rfl;have e17:W1.cell? ⟨w.heap.size,17,none⟩=some (.string a.other.sym.text):=(hBk.cell 17).trans rfl;have e18:W1.cell? ⟨w.heap.size,18,none⟩=some (.int .i64 a.other.sym.n):=(hBk.cell 18).trans rfl;have hbl:=hBk.lt;clear hW1 hBk
  go_wp2_with (first
   | (go_at_call 98;refine (Z3v a.id _).mono ?_;rintro e w9 ⟨rfl,rfl⟩)
   | (go_at_call 195;(first|(with_reducible refine (Z8l a.attr _).mono ?_)|(with_reducible refine (Z8l a.other _).mono ?_));rintro e w9 ⟨rfl,hb9⟩;have HB:=hid (HB.out.trans (hb9.mono HB.out.size));replace e0:=(hb9.cell (p:=⟨w.heap.size,0,none⟩) hbl).trans e0;replace e1:=(hb9.cell (p:=⟨w.heap.size,1,none⟩) hbl).trans e1;replace e2:=(hb9.cell (p:=⟨w.heap.size,2,none⟩) hbl).trans e2;replace e3:=(hb9.cell (p:=⟨w.heap.size,3,none⟩) hbl).trans e3;replace e4:=(hb9.cell (p:=⟨w.heap.size,4,none⟩) hbl).trans e4;replace e5:=(hb9.cell (p:=⟨w.heap.size,5,none⟩) hbl).trans e5;replace e6:=(hb9.cell (p:=⟨w.heap.size,6,none⟩) hbl).trans e6;replace e7:=(hb9.cell (p:=⟨w.heap.size,7,none⟩) hbl).trans e7;replace e8:=(hb9.cell (p:=⟨w.heap.size,8,none⟩) hbl).trans e8;replace e9:=(hb9.cell (p:=⟨w.heap.size,9,none⟩) hbl).trans e9;replace e10:=(hb9.cell (p:=⟨w.heap.size,10,none⟩) hbl).trans e10;replace e11:=(hb9.cell (p:=⟨w.heap.size,11,none⟩) hbl).trans e11;replace e12:=(hb9.cell (p:=⟨w.heap.size,12,none⟩) hbl).trans e12;replace e13:=(hb9.cell (p:=⟨w.heap.size,13,none⟩) hbl).trans e13;replace e14:=(hb9.cell (p:=⟨w.heap.size,14,none⟩) hbl).trans e14;replace e15:=(hb9.cell (p:=⟨w.heap.size,15,none⟩) hbl).trans e15;replace e16:=(hb9.cell (p:=⟨w.heap.size,16,none⟩) hbl).trans e16;replace e17:=(hb9.cell (p:=⟨w.heap.size,17,none⟩) hbl).trans e17;replace e18:=(hb9.cell (p:=⟨w.heap.size,18,none⟩) hbl).trans e18;replace hbl:=Znn hbl hb9.size;clear hb9)
   | (go_at_call 196;refine (Zmr a.value _).mono ?_;rintro e w9 ⟨rfl,hb9⟩;have HB:=hid (HB.out.trans (hb9.mono HB.out.size));replace e0:=(hb9.cell (p:=⟨w.heap.size,0,none⟩) hbl).trans e0;replace e1:=(hb9.cell (p:=⟨w.heap.size,1,none⟩) hbl).trans e1;replace e2:=(hb9.cell (p:=⟨w.heap.size,2,none⟩) hbl).trans e2;replace e3:=(hb9.cell (p:=⟨w.heap.size,3,none⟩) hbl).trans e3;replace e4:=(hb9.cell (p:=⟨w.heap.size,4,none⟩) hbl).trans e4;replace e5:=(hb9.cell (p:=⟨w.heap.size,5,none⟩) hbl).trans e5;replace e6:=(hb9.cell (p:=⟨w.heap.size,6,none⟩) hbl).trans e6;replace e7:=(hb9.cell (p:=⟨w.heap.size,7,none⟩) hbl).trans e7;replace e8:=(hb9.cell (p:=⟨w.heap.size,8,none⟩) hbl).trans e8;replace e9:=(hb9.cell (p:=⟨w.heap.size,9,none⟩) hbl).trans e9;replace e10:=(hb9.cell (p:=⟨w.heap.size,10,none⟩) hbl).trans e10;replace e11:=(hb9.cell (p:=⟨w.heap.size,11,none⟩) hbl).trans e11;replace e12:=(hb9.cell (p:=⟨w.heap.size,12,none⟩) hbl).trans e12;replace e13:=(hb9.cell (p:=⟨w.heap.size,13,none⟩) hbl).trans e13;replace e14:=(hb9.cell (p:=⟨w.heap.size,14,none⟩) hbl).trans e14;replace e15:=(hb9.cell (p:=⟨w.heap.size,15,none⟩) hbl).trans e15;replace e16:=(hb9.cell (p:=⟨w.heap.size,16,none⟩) hbl).trans e16;replace e17:=(hb9.cell (p:=⟨w.heap.size,17,none⟩) hbl).trans e17;replace e18:=(hb9.cell (p:=⟨w.heap.size,18,none⟩) hbl).trans e18;replace hbl:=Znn hbl hb9.size;clear hb9)
   | (go_at_call 197;refine (Zkp a.pref _).mono ?_;rintro e w9 ⟨rfl,rfl⟩)
   | (go_at_call 198;refine (Zeo a.other _).mono ?_;rintro e w9 ⟨rfl,hb9⟩;have HB:=hid (HB.out.trans (hb9.mono HB.out.size));replace e0:=(hb9.cell (p:=⟨w.heap.size,0,none⟩) hbl).trans e0;replace e1:=(hb9.cell (p:=⟨w.heap.size,1,none⟩) hbl).trans e1;replace e2:=(hb9.cell (p:=⟨w.heap.size,2,none⟩) hbl).trans e2;replace e3:=(hb9.cell (p:=⟨w.heap.size,3,none⟩) hbl).trans e3;replace e4:=(hb9.cell (p:=⟨w.heap.size,4,none⟩) hbl).trans e4;replace e5:=(hb9.cell (p:=⟨w.heap.size,5,none⟩) hbl).trans e5;replace e6:=(hb9.cell (p:=⟨w.heap.size,6,none⟩) hbl).trans e6;replace e7:=(hb9.cell (p:=⟨w.heap.size,7,none⟩) hbl).trans e7;replace e8:=(hb9.cell (p:=⟨w.heap.size,8,none⟩) hbl).trans e8;replace e9:=(hb9.cell (p:=⟨w.heap.size,9,none⟩) hbl).trans e9;replace e10:=(hb9.cell (p:=⟨w.heap.size,10,none⟩) hbl).trans e10;replace e11:=(hb9.cell (p:=⟨w.heap.size,11,none⟩) hbl).trans e11;replace e12:=(hb9.cell (p:=⟨w.heap.size,12,none⟩) hbl).trans e12;replace e13:=(hb9.cell (p:=⟨w.heap.size,13,none⟩) hbl).trans e13;replace e14:=(hb9.cell (p:=⟨w.heap.size,14,none⟩) hbl).trans e14;replace e15:=(hb9.cell (p:=⟨w.heap.size,15,none⟩) hbl).trans e15;replace e16:=(hb9.cell (p:=⟨w.heap.size,16,none⟩) hbl).trans e16;replace e17:=(hb9.cell (p:=⟨w.heap.size,17,none⟩) hbl).trans e17;replace e18:=(hb9.cell (p:=⟨w.heap.size,18,none⟩) hbl).trans e18;replace hbl:=Znn hbl hb9.size;clear hb9))
  go_ret;exact ⟨by rw [HR.out]<;>rfl,by (first|exact HB.out|(exact (Znk _ _).alloc (Znl _) _)|(simpa using HB.out))⟩
end
section
open Go.RowKit Go.Shelf
attribute [local go_sem] Oper.semAt_some
theorem Zl2 {D:Nat→Prop}(p:Z39) (n:Nat) (A1 A2:Option Addr) (c1 c2:Nat) (w:World) (h1:RowR (Z06 n) D w A1 c1 p.conds) (h2:RowR Z11 D w A2 c2 p.acts) (hD :∀k,D k→k<w.heap.size) (hF:(Z0i n 0 p.conds).length≤1000000000) (hn:n≤1000000000) :
 Calls Tryz.prog 136 #[.agg #[.string p.name,.slice A1 p.conds.length c1,.slice A2 p.acts.length c2]] w fun e w'=>e = .returned (.tuple #[.int .i64 (Z1i n p).1,.int .i64 (Z1i n p).2])∧Below w.heap.size w w':=by
 have H1:=hid h1;have H2:=hid h2;have HD:=hid hD;have hl2:=h2.cap;clear h1 h2 hD;by_cases hw:Z17 p.name=false
 · have HR:=hid (show Z1i n p=(-1,2) by unfold Z1i;rw [if_pos hw])
   have w1:=hw;clear hw;go_enter Tryz.func136,Tryz.ntmps136;(go_wp2_with (go_at_call 98;refine (Z3v p.name _).mono ?_;rintro e w9 ⟨rfl,rfl⟩));go_ret2;exact ⟨by rw [HR.out]<;>rfl,(Znk _ _).alloc (Znl _) _⟩
 (have w1:Z17 p.name=true:=by simpa using hw);have HW:=hid hw;clear hw;obtain ⟨F,hFd⟩:∃F,F=Z0i n 0 p.conds:=⟨_,rfl⟩;have HFD:=hid hFd;rw [←hFd] at hF;clear hFd;go_enter Tryz.func136,Tryz.ntmps136;(go_upto_region 4 with (go_at_call 98;refine (Z3v p.name _).mono ?_;rintro e w9 ⟨rfl,rfl⟩));obtain ⟨W1,hW1⟩:∃W1,W1=(w.alloc (.cells #[.string p.name,.slice A1 p.conds.length c1,.slice A2 p.acts.length c2] 25)).alloc (.cells #[.int .i64 0] 3):=⟨_,rfl⟩;rw [←hW1];(have hb1:Below w.heap.size w W1:=by rw [hW1];exact ((Znk _ _).alloc (Znl _) _).alloc (by simp) _);have hP:Blk W1 w.heap.size 25 #[.string p.name,.slice A1 p.conds.length c1,.slice A2 p.acts.length c2]:=by rw [hW1];exact (Blk.new w 25 #[.string p.name,.slice A1 p.conds.length c1,.slice A2 p.acts.length c2]).alloc _
 have hN:Blk W1 (w.heap.size+1) 3 #[.int .i64 0]:=by
  rw [hW1];have:=Blk.new (w.alloc (.cells #[.string p.name,.slice A1 p.conds.length c1,.slice A2 p.acts.length c2] 25)) 3 #[.int .i64 0];rw [show (w.alloc (.cells #[.string p.name,.slice A1 p.conds.length c1,.slice A2 p.acts.length c2] 25)).heap.size=w.heap.size+1 from by simp] at this;exact this
 obtain ⟨bn,hbn⟩:∃bn,bn=w.heap.size+1:=⟨_,rfl⟩;obtain ⟨px,hpx⟩:∃px,px=w.heap.size:=⟨_,rfl⟩;rw [←hbn] at hN ⊢;rw [←hpx] at hP;have HPX:=hid hpx;have HBN:=hid hbn;(have hDn :¬D bn:=fun h=>by have:=HD.out _ h;omega);(have p1:W1.cell? ⟨w.heap.size,1,none⟩=some (.slice A1 p.conds.length c1):=by rw [←hpx];exact (hP.cell 1).trans rfl);(have hpl:w.heap.size<W1.heap.size:=by rw [←hpx];exact hP.lt);have HB1:=hid hb1;have HP:=hid hP;have HN:=hid hN;clear hW1 hbn hpx hb1 hP hN;(go_wp2_with fail);have hwk:=Zj6 (yld1 (D:=D) bn hDn F) hF n 0 0 A1 c1 p.conds W1 (H1.out.new_ HB1.out) (fun k hk=>by rw [hk];exact HN.out.lt) ⟨[],by rw [←HFD.out];simp⟩ (by rw [←HFD.out];omega) (by omega) ⟨HN.out,by omega⟩;rw [←HFD.out] at hwk;refine hwk.mono ?_;rintro e W2 ⟨b,a,rfl,hbt,hbf,hF2⟩
 have hm :∃m:Nat,Blk W2 bn 3 #[.int .i64 (m:Int)]∧((m=F.length∧m≤16)∨(m=17∧16<F.length)):=by
  cases b with
  | true=>
    obtain ⟨ha,hI⟩:=hbt rfl;exact ⟨a,hI.1,.inl ⟨by omega,hI.2⟩⟩
  | false=>
    have hS:=hbf rfl;exact ⟨17,hS.1,.inr ⟨rfl,hS.2⟩⟩
 obtain ⟨m,hM,hmF⟩:=hm;have hP2:=HP.out.fr hF2 (fun e=>by have:=HPX.out;have:=HBN.out;omega);have HB2:=hid (HB1.out.trans (hF2.below HB1.out.size (fun k hk e=>by have:=HBN.out;omega)));have n0:W2.cell? ⟨bn,0,none⟩=some (.int .i64 (m:Int)):=(hM.cell 0).trans rfl;(have p1':W2.cell? ⟨w.heap.size,1,none⟩=some (.slice A1 p.conds.length c1):=by rw [←HPX.out];exact (hP2.cell 1).trans rfl);(have p2':W2.cell? ⟨w.heap.size,2,none⟩=some (.slice A2 p.acts.length c2):=by rw [←HPX.out];exact (hP2.cell 2).trans rfl);(have hpl2:w.heap.size<W2.heap.size:=by rw [←HPX.out];exact hP2.lt);have hnl:=hM.lt;have HM:=hid hM;have HP2:=hid hP2;clear hwk hbt hbf hF2 hM hP2 p1 hpl
 have bad:(F.length<1∨16<F.length∨p.acts.length<1∨16<p.acts.length)→Z1i n p=(-1,7):=fun h=>by
  unfold Z1i;rw [if_neg HW.out,←HFD.out,if_pos h]
 have HBAD:=hid bad;clear bad;by_cases k1:m<1
 · have t1:decide ((m:Int)<1)=true:=Zno (by omega)
   have t1n:decide (m<1)=true:=Zno (by omega);have HR:=hid (HBAD.out (by omega));clear k1;(go_wp2_with fail);go_ret2;exact ⟨by rw [HR.out]<;>rfl,HB2.out⟩
 have t1:decide ((m:Int)<1)=false:=Znm (by omega);have t1n:decide (m<1)=false:=Znm (by omega);by_cases k2:16<m
 · have t2:decide ((16:Int)<(m:Int))=true:=Zno (by omega)
   have t2n:decide (16<m)=true:=Zno (by omega);have HR:=hid (HBAD.out (by omega));clear k1 k2;(go_wp2_with fail);go_ret2;exact ⟨by rw [HR.out]<;>rfl,HB2.out⟩
 have t2:decide ((16:Int)<(m:Int))=false:=Znm (by omega);have t2n:decide (16<m)=false:=Znm (by omega);(have hmF':m=F.length:=by omega);by_cases k3:p.acts.length<1
 · have t3:decide ((p.acts.length:Int)<1)=true:=Zno (by omega)
   have t3n:decide (p.acts.length<1)=true:=Zno (by omega);have HR:=hid (HBAD.out (by omega));(have hz0:p.acts.length=0:=by omega);clear k1 k2 k3 hmF hmF';(go_wp2_with fail);go_ret2;exact ⟨by rw [HR.out]<;>rfl,HB2.out⟩
 have t3:decide ((p.acts.length:Int)<1)=false:=Znm (by omega);have t3n:decide (p.acts.length<1)=false:=Znm (by omega);by_cases k4:16<p.acts.length
 · have t4:decide ((16:Int)<(p.acts.length:Int))=true:=Zno (by omega)
   have t4n:decide (16<p.acts.length)=true:=Zno (by omega);have HR:=hid (HBAD.out (by omega));clear k1 k2 k3 k4 hmF hmF';(go_wp2_with fail);go_ret2;exact ⟨by rw [HR.out]<;>rfl,HB2.out⟩
 have t4:decide ((16:Int)<(p.acts.length:Int))=false:=Znm (by omega);have t4n:decide (16<p.acts.length)=false:=Znm (by omega);clear k1 k2 k3 k4 hmF;have HMF:=hid hmF';clear hmF'
 have good :∀r:Int×Int,(match F.findIdx? (fun c=>decide (Z0l c.2 c.1≠0)) with
  | some k=>((k:Int),((F[k]?).map fun c=>Z0l c.2 c.1).getD 0)
  | none=>match p.acts.findIdx? (fun a=>!actB a) with
    | some i=>(F.length+i,9)
    | none=>(-1,0))=r→Z1i n p=r:=fun r h=>by
  have ht2:=t2n;have ht1:=t1n;have ht3:=t3n;have ht4:=t4n;rw [decide_eq_false_iff_not] at ht1 ht2 ht3 ht4;unfold Z1i;rw [if_neg HW.out,←HFD.out,if_neg (by have:=HMF.out;omega)];exact h
 have HGOOD:=hid good;clear good;(go_upto_region 8 with fail);obtain ⟨W3,hW3⟩:∃W3,W3=(W2.alloc (.cells #[.int .i64 (-1)] 3)).alloc (.cells #[.int .i64 0] 42):=⟨_,rfl⟩;rw [←hW3];(have hb3:Below W2.heap.size W2 W3:=by rw [hW3];exact ((Znk _ _).alloc (Znl _) _).alloc (by simp) _);have hQ:Blk W3 W2.heap.size 3 #[.int .i64 (-1)]:=by rw [hW3];exact (Blk.new W2 3 #[.int .i64 (-1)]).alloc _
 have hE:Blk W3 (W2.heap.size+1) 42 #[.int .i64 0]:=by
  rw [hW3];have:=Blk.new (W2.alloc (.cells #[.int .i64 (-1)] 3)) 42 #[.int .i64 0];rw [show (W2.alloc (.cells #[.int .i64 (-1)] 3)).heap.size=W2.heap.size+1 from by simp] at this;exact this
 obtain ⟨be,hbe⟩:∃be,be=W2.heap.size+1:=⟨_,rfl⟩;obtain ⟨bp,hbp⟩:∃bp,bp=W2.heap.size:=⟨_,rfl⟩;rw [←hbe] at hE ⊢;rw [←hbp] at hQ ⊢;have hz2:=HB2.out.size;(have hD1 :¬D be:=fun h=>by have:=HD.out _ h;omega);(have hD2 :¬D bp:=fun h=>by have:=HD.out _ h;omega);have q1:W3.cell? ⟨w.heap.size,1,none⟩=some (.slice A1 p.conds.length c1):=(hb3.cell (p:=⟨w.heap.size,1,none⟩) hpl2).trans p1';have hpl3:=Znn hpl2 hb3.size;have HB3:=hid hb3;have HE:=hid hE;have HQ:=hid hQ;have HBE:=hid hbe;have HBP:=hid hbp;clear hW3 hb3 hE hQ hbe hbp p1' n0 hnl;(go_wp2_with fail);have hwk:=Zj6 (yld2 (D:=D) be bp hD1 hD2 (by have:=HBE.out;have:=HBP.out;omega) F) hF n 0 0 A1 c1 p.conds W3 (H1.out.new_ (HB2.out.trans (HB3.out.mono hz2))) (fun k hk=>hk.elim (fun e=>e ▸ HE.out.lt) (fun e=>e ▸ HQ.out.lt)) ⟨[],by rw [←HFD.out];simp⟩ (by rw [←HFD.out];omega) (by omega) ⟨HE.out,HQ.out,fun j _ h=>absurd h (by omega)⟩;rw [←HFD.out] at hwk;refine hwk.mono ?_;rintro e W4 ⟨b,a2,rfl,hbt,hbf,hF4⟩;have HB4:=hid (show Below w.heap.size w W4 from (HB2.out.trans (HB3.out.mono hz2)).trans (hF4.below (by have:=HB3.out.size;omega) (fun k hk e=>by have:=HBE.out;have:=HBP.out;rcases e with e|e<;>omega)));have hM4:=(HM.out.new_ HB3.out).fr hF4 (fun e=>by have h1:=HM.out.lt;have:=HBE.out;have:=HBP.out;rcases e with e|e<;>omega);have hP4:=(HP2.out.new_ HB3.out).fr hF4 (fun e=>by have h1:=HP2.out.lt;have:=HBE.out;have:=HBP.out;rcases e with e|e<;>omega);have HM4:=hid hM4;(have r2:W4.cell? ⟨w.heap.size,2,none⟩=some (.slice A2 p.acts.length c2):=by rw [←HPX.out];exact (hP4.cell 2).trans rfl);(have hpl4:w.heap.size<W4.heap.size:=by rw [←HPX.out];exact hP4.lt);have n4:W4.cell? ⟨bn,0,none⟩=some (.int .i64 (m:Int)):=(hM4.cell 0).trans rfl;have hnl4:=hM4.lt;clear hwk hF4 hM4 hP4 q1 hpl3 p2' hpl2
 cases b with
 | false=>
   obtain ⟨k,hk,hE4,hQ4,hne,hall⟩:=hbf rfl;obtain ⟨z,hz⟩:∃z,z=Z0l F[k].2 F[k].1:=⟨_,rfl⟩
   have hR:Z1i n p=((k:Int),z):=by
    refine HGOOD.out _ ?_
    have hfi:F.findIdx? (fun c=>decide (Z0l c.2 c.1≠0))=some k:=by
     rw [List.findIdx?_eq_some_iff_getElem];exact ⟨hk,by simpa using hne,fun j hj=>by simpa using hall j (by omega) hj⟩
    rw [hfi];simp [Znq hk,hz]
   rw [←hz] at hE4 hne;have HR:=hid hR;have s0:W4.cell? ⟨be,0,none⟩=some (.int .i64 z):=(hE4.cell 0).trans rfl;have s1:W4.cell? ⟨bp,0,none⟩=some (.int .i64 (k:Int)):=(hQ4.cell 0).trans rfl;have hl0:=hE4.lt;have hl1:=hQ4.lt;(have t5:(z == 0)=false:=by simp [hne]);(have t6:decide (z=0)=false:=by simp [hne]);clear hR hz hE4 hQ4 hall hbt hbf hne n4 r2;(go_wp2_with fail);go_quiet (fail);(go_wp2_with fail);go_ret2;exact ⟨by rw [HR.out]<;>rfl,Below.drewN' HB4.out _⟩
 | true=>
   obtain ⟨_,hE4,_,hall⟩:=hbt rfl
   have hnone:F.findIdx? (fun c=>decide (Z0l c.2 c.1≠0))=none:=by
    rw [List.findIdx?_eq_none_iff];intro x hx;obtain ⟨j,hj,rfl⟩:=List.getElem_of_mem hx;have:=hall j hj (by omega);simpa using this
   have HNO:=hid hnone;have s0:W4.cell? ⟨be,0,none⟩=some (.int .i64 0):=(hE4.cell 0).trans rfl;have hl0:=hE4.lt;clear hnone hall hbt hbf hE4;go_wp2_with fail
   go_loopw [46] (fun s wr=>∃i:Nat,s = .int .i64 i∧i≤p.acts.length∧(∀k,(h:k<p.acts.length)→k<i→actB p.acts[k]=true)∧Below W4.heap.size W4 wr) (fun s wr=>p.acts.length - (intOf s).toNat)
   case atStart=>exact ⟨0,rfl,Nat.zero_le _,fun k _ h=>absurd h (by omega),Znk _ _⟩
   case round=>
    obtain ⟨i,rfl,hi,hall,hBr⟩:=hrel;have HALL:=hid hall;have HBr:=hid hBr;have hz4:=HB4.out.size;have hzr:=hBr.size;clear hall hBr;by_cases hlt:i<p.acts.length
    · obtain ⟨y,hy⟩:∃y,y=p.acts[i]:=⟨_,rfl⟩
      obtain ⟨g,off,hAA,_,hg,q0,q1,q2,q3,q4,q5,q6,q7,q8,q9,q10,q11,q12,q13,q14,q15,q16,q17,q18⟩:=Zaq (H2.out.new_ (HB4.out.trans (HBr.out.mono hz4))) hlt;subst hAA;rw [←hy] at q0 q1 q2 q3 q4 q5 q6 q7 q8 q9 q10 q11 q12 q13 q14 q15 q16 q17 q18;have HY:=hid hy;(have b1:(0:Int)≤(i:Int):=by omega);have b2:(i:Int)<(p.acts.length:Int):=by omega
      have HRG:=hid (show wr.rangeAt g (off+i*19) [.string y.id,.string y.attr.var,.int .i64 y.attr.sym.kind,.string y.attr.sym.text,.int .i64 y.attr.sym.n,.int .i64 y.value.op,.string y.value.a.var,.int .i64 y.value.a.sym.kind,.string y.value.a.sym.text,.int .i64 y.value.a.sym.n,.string y.value.b.var,.int .i64 y.value.b.sym.kind,.string y.value.b.sym.text,.int .i64 y.value.b.sym.n,.int .i64 y.pref,.string y.other.var,.int .i64 y.other.sym.kind,.string y.other.sym.text,.int .i64 y.other.sym.n] from fun j v hv=>by
       obtain ⟨g',off',cs,e1,_,_,hr,hc⟩:=(H2.out.new_ (HB4.out.trans (HBr.out.mono hz4))).at_ hlt;cases e1;have hr2:cs=ActT.cells p.acts[i]:=hr;subst hr2;rw [←HY.out] at hc
       exact hc j v hv)
      have HTH:=hid (show (wr.alloc (.cells #[.string ⟨#[]⟩,.string ⟨#[]⟩,.int .i64 0,.string ⟨#[]⟩,.int .i64 0,.int .i64 0,.string ⟨#[]⟩,.int .i64 0,.string ⟨#[]⟩,.int .i64 0,.string ⟨#[]⟩,.int .i64 0,.string ⟨#[]⟩,.int .i64 0,.int .i64 0,.string ⟨#[]⟩,.int .i64 0,.string ⟨#[]⟩,.int .i64 0] 96)).there wr.heap.size 0 (#[.string y.id,.string y.attr.var,.int .i64 y.attr.sym.kind,.string y.attr.sym.text,.int .i64 y.attr.sym.n,.int .i64 y.value.op,.string y.value.a.var,.int .i64 y.value.a.sym.kind,.string y.value.a.sym.text,.int .i64 y.value.a.sym.n,.string y.value.b.var,.int .i64 y.value.b.sym.kind,.string y.value.b.sym.text,.int .i64 y.value.b.sym.n,.int .i64 y.pref,.string y.other.var,.int .i64 y.other.sym.kind,.string y.other.sym.text,.int .i64 y.other.sym.n]:Array Value).size from (Blk.new wr 96 #[.string ⟨#[]⟩,.string ⟨#[]⟩,.int .i64 0,.string ⟨#[]⟩,.int .i64 0,.int .i64 0,.string ⟨#[]⟩,.int .i64 0,.string ⟨#[]⟩,.int .i64 0,.string ⟨#[]⟩,.int .i64 0,.string ⟨#[]⟩,.int .i64 0,.int .i64 0,.string ⟨#[]⟩,.int .i64 0,.string ⟨#[]⟩,.int .i64 0]).there);obtain ⟨W5,hW5⟩:∃W5,W5=(wr.alloc (.cells #[.string ⟨#[]⟩,.string ⟨#[]⟩,.int .i64 0,.string ⟨#[]⟩,.int .i64 0,.int .i64 0,.string ⟨#[]⟩,.int .i64 0,.string ⟨#[]⟩,.int .i64 0,.string ⟨#[]⟩,.int .i64 0,.string ⟨#[]⟩,.int .i64 0,.int .i64 0,.string ⟨#[]⟩,.int .i64 0,.string ⟨#[]⟩,.int .i64 0] 96)).setCells wr.heap.size 0 [.string y.id,.string y.attr.var,.int .i64 y.attr.sym.kind,.string y.attr.sym.text,.int .i64 y.attr.sym.n,.int .i64 y.value.op,.string y.value.a.var,.int .i64 y.value.a.sym.kind,.string y.value.a.sym.text,.int .i64 y.value.a.sym.n,.string y.value.b.var,.int .i64 y.value.b.sym.kind,.string y.value.b.sym.text,.int .i64 y.value.b.sym.n,.int .i64 y.pref,.string y.other.var,.int .i64 y.other.sym.kind,.string y.other.sym.text,.int .i64 y.other.sym.n]:=⟨_,rfl⟩;have HW5:=hid hW5;have HRG5:=hid (show W5.rangeAt wr.heap.size 0 [.string y.id,.string y.attr.var,.int .i64 y.attr.sym.kind,.string y.attr.sym.text,.int .i64 y.attr.sym.n,.int .i64 y.value.op,.string y.value.a.var,.int .i64 y.value.a.sym.kind,.string y.value.a.sym.text,.int .i64 y.value.a.sym.n,.string y.value.b.var,.int .i64 y.value.b.sym.kind,.string y.value.b.sym.text,.int .i64 y.value.b.sym.n,.int .i64 y.pref,.string y.other.var,.int .i64 y.other.sym.kind,.string y.other.sym.text,.int .i64 y.other.sym.n] by rw [hW5];exact Znw _ _ _ _ HTH.out);have HB5:=hid (show Below wr.heap.size wr W5 by rw [hW5];exact Below.setCells' _ _ ((Znk _ _).alloc (Znl _) _) (Znl _));clear hy hW5 q0 q1 q2 q3 q4 q5 q6 q7 q8 q9 q10 q11 q12 q13 q14 q15 q16 q17 q18
      go_wp2_with (first
       | (with_reducible refine wpList_load_mid rfl 96 _ rfl g (off+i*19) rfl _ _ HRG.out Tryz.underlying96 rfl (by kernel_rfl) ?_)
       | ((with_reducible refine wpList_store_mid rfl 96 _ _ rfl wr.heap.size 0 #[.string y.id,.string y.attr.var,.int .i64 y.attr.sym.kind,.string y.attr.sym.text,.int .i64 y.attr.sym.n,.int .i64 y.value.op,.string y.value.a.var,.int .i64 y.value.a.sym.kind,.string y.value.a.sym.text,.int .i64 y.value.a.sym.n,.string y.value.b.var,.int .i64 y.value.b.sym.kind,.string y.value.b.sym.text,.int .i64 y.value.b.sym.n,.int .i64 y.pref,.string y.other.var,.int .i64 y.other.sym.kind,.string y.other.sym.text,.int .i64 y.other.sym.n] rfl rfl HTH.out (by kernel_rfl) (by kernel_rfl) ?_);rw [←HW5.out])
       | (with_reducible refine wpList_load_mid rfl 96 _ rfl wr.heap.size 0 rfl _ _ HRG5.out Tryz.underlying96 rfl (by kernel_rfl) ?_))
      refine (Zn2 y _).mono ?_;rintro e w9 ⟨rfl,hb9⟩;have HB9:=hid (HBr.out.trans ((HB5.out.trans (hb9.mono HB5.out.size)).mono hzr));clear hb9;cases hcb:actB y
      · have hfi:p.acts.findIdx? (fun a=>!actB a)=some i:=by
         rw [List.findIdx?_eq_some_iff_getElem];refine ⟨hlt,by rw [←HY.out,hcb];rfl,fun j hj=>?_⟩;have:=HALL.out j (by omega) hj;simp [this]
        have HR:=hid (HGOOD.out ((m:Int)+i,9) (by rw [HNO.out,hfi];simp [HMF.out]));have n9:w9.cell? ⟨bn,0,none⟩=some (.int .i64 (m:Int)):=(HB9.out.cell (p:=⟨bn,0,none⟩) hnl4).trans n4;have hn9:=Znn hnl4 HB9.out.size;have t7:=t2n;rw [decide_eq_false_iff_not] at t7;have t8:=t4n;rw [decide_eq_false_iff_not] at t8;have v1:IntKind.i64.wrap ((m:Int)+(i:Int))=(m:Int)+(i:Int):=Znu _ (by omega);clear hcb hfi t7 t8;(go_wp2_with fail);go_ret2;exact ⟨by rw [HR.out]<;>rfl,HB4.out.trans (HB9.out.mono hz4)⟩
      · have HCB:=hid hcb
        clear hcb;(go_wp2_with fail);go_roundw
        case rel=>exact ⟨i+1,by go_num,by omega,fun k hk hki=>by
         by_cases e:k=i
         · subst e;rw [←HY.out];exact HCB.out
         · exact HALL.out k hk (by omega),HB9.out⟩
        case measure=>simp [intOf]<;>omega
    · have hie:i=p.acts.length:=by omega
      have hfi:p.acts.findIdx? (fun a=>!actB a)=none:=by
       rw [List.findIdx?_eq_none_iff];intro x hx;obtain ⟨j,hj,rfl⟩:=List.getElem_of_mem hx;simp [HALL.out j hj (by omega)]
      have HR:=hid (HGOOD.out (-1,0) (by rw [HNO.out,hfi]));subst hie;clear hfi;(go_wp2_with fail);go_ret2;exact ⟨by rw [HR.out]<;>rfl,HB4.out.trans (HBr.out.mono hz4)⟩
end
end Go.Proofs.YtfidcfjcmlgkbaaGreat
