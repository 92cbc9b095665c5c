/-
  Texts put together: Ref06D, Ref06E, Ref06I, Ref06J.
-/
import Derived.Test.YtfidcfjcmlgkbaaGreatPMo
namespace Go.Proofs.YtfidcfjcmlgkbaaGreat
open Lib (hid)
set_option maxRecDepth 100000
set_option maxHeartbeats 32000000
set_option linter.unusedSimpArgs false
section
open Go.RowKit Go.Shelf
def Z1m:Int→List (Nat×Z0a)→Int×Int
 | _,[]=>(-1,0)
 | n,c :: r=>if Z0l c.2 c.1≠0 then (n,Z0l c.2 c.1) else Z1m (n+1) r
theorem Z7r :∀(n:Int) (a b:List (Nat×Z0a)),(Z1m n a).2=0→Z1m n (a++b)=Z1m (n+(a.length:Nat)) b
 | n,[],b,_=>by simp
 | n,c :: a,b,h=>by
   rw [Zog,Z1m];rw [Z1m] at h;by_cases hc:Z0l c.2 c.1≠0
   · rw [if_pos hc] at h;exact absurd h hc
   · rw [if_neg hc] at h
     rw [if_neg hc,Z7r (n+1) a b h,Zo4];congr 1;omega
theorem Z93 :∀(n:Int) (a b:List (Nat×Z0a)),(Z1m n a).2≠0→Z1m n (a++b)=Z1m n a
 | n,[],b,h=>absurd rfl h
 | n,c :: a,b,h=>by
   rw [Zog,Z1m,Z1m];rw [Z1m] at h;by_cases hc:Z0l c.2 c.1≠0
   · rw [if_pos hc,if_pos hc]
   · rw [if_neg hc] at h
     rw [if_neg hc,if_neg hc,Z93 (n+1) a b h]
theorem Z86 :∀(n:Int) (l:List (Nat×Z0a)),Z1m n l=(match l.findIdx? (fun c=>decide (Z0l c.2 c.1≠0)) with
 | some k=>(n+k,((l[k]?).map fun c=>Z0l c.2 c.1).getD 0)
 | none=>(-1,0))
 | n,[]=>rfl
 | n,c :: r=>by
   rw [Z1m,List.findIdx?_cons];by_cases hc:Z0l c.2 c.1≠0
   · rw [if_pos hc,if_pos (Zno hc)];simp
   · rw [if_neg hc,if_neg (by simpa using hc),Z86 (n+1) r]
     cases r.findIdx? (fun c=>decide (Z0l c.2 c.1≠0)) with
     | none=>rfl
     | some k=>simp only [Zo1,Zns];congr 1;push_cast;omega
theorem Z7q {D:Nat→Prop}{w:World}{A:Option Addr}{c:Nat}{l:List Z0a}(h:RowR (Z06 0) D w A c l):l = []:=by
 cases l with
 | nil=>rfl
 | cons x l=>
   obtain ⟨b,off,cs,_,_,_,hr,_⟩:=h.at_ (k:=0) (by simp);exact hr.elim
theorem Z94 (n d:Nat) (l:List Z0a) (i:Nat) (hi:i<l.length):Z0i (n+1) d l=Z0i (n+1) d (l.take i)++((d,l[i]) :: Z0i n (d+1) l[i].conds++Z0i (n+1) d (l.drop (i+1))):=by
 rw [←Zoc,←Z4c n d l i hi]
 conv=>lhs;rw [←List.take_append_drop (i+1) l]
 rw [Z1t,Z1t,Z1t,Zny]
theorem Z8v :∀(n:Nat) (D:Nat→Prop) (A:Option Addr) (c:Nat) (d:Nat) (l:List Z0a) (w:World),RowR (Z06 n) D w A c l→(Z0i n d l).length≤1000000→
 Calls Tryz.prog 78 #[.slice A l.length c] w fun e w'=>e = .returned (.int .i64 ((Z0i n d l).length:Nat))∧w=w':=by
 intro n
 induction n with
 | zero=>
   intro D A c d l w h _;obtain rfl:=Z7q h;clear h;have HR:=hid (show (((Z0i 0 d []).length:Nat):Int)=0 from rfl);go_enter Tryz.func78,Tryz.ntmps78;go_wp2_with fail
   go_loopw [3,4] (fun a s wr=>s = .int .i64 0∧a = .int .i64 0∧wr=w) (fun a s wr=>0)
   case atStart=>exact ⟨rfl,rfl,rfl⟩
   case round=>
    obtain ⟨rfl,rfl,rfl⟩:=hrel;(go_wp2_with fail);go_ret;exact ⟨by rw [HR.out];rfl,rfl⟩
 | succ n ih=>
   intro D A c d l w h hle;have IH:=hid ih;have H:=hid h;have hlc:=h.cap;obtain ⟨tot,htot⟩:∃tot,tot=(Z0i (n+1) d l).length:=⟨_,rfl⟩;rw [←htot] at hle ⊢;have HT:=hid htot;clear h ih htot;go_enter Tryz.func78,Tryz.ntmps78;go_wp2_with fail
   go_loopw [3,4] (fun a s wr=>∃i m:Nat,s = .int .i64 i∧i≤l.length∧a = .int .i64 (m:Int)∧m=(Z0i (n+1) d (l.take i)).length∧wr=w) (fun a s wr=>l.length - (intOf s).toNat)
   case atStart=>exact ⟨0,0,rfl,Nat.zero_le _,rfl,by simp [Z0i],rfl⟩
   case round=>
    obtain ⟨i,m,rfl,hi,rfl,hm,rfl⟩:=hrel;have HM:=hid hm;clear hm;by_cases hlt:i<l.length
    · obtain ⟨x,hx⟩:∃x,x=l[i]:=⟨_,rfl⟩
      obtain ⟨mi,hmi⟩:∃mi,mi=(Z0i n (d+1) x.conds).length:=⟨_,rfl⟩;have hall:=Z94 n d l i hlt;have hsn:=Z4c n d l i hlt;rw [←hx] at hall hsn;have HM1:=hid (show m+(1+mi)=(Z0i (n+1) d (l.take (i+1))).length by rw [hsn,Znp,Zo4,←HM.out,←hmi];omega)
      have hmt:m+(1+mi)≤tot:=by
       rw [HT.out,hall,Znp,Znp,Zo4,←HM.out,←hmi];omega
      obtain ⟨g,off,A1,c1,A2,c2,A3,c3,rfl,_,hgs,q0,q1,q2,q3,q4,q5,q6,r1,r2,r3⟩:=Z1j H.out hlt;rw [←hx] at q6 r3;have hn3:=r3.cap
      have HCL:=hid (show Calls Tryz.prog 78 #[.slice A3 x.conds.length c3] wr fun e w'=>e = .returned (.int .i64 (mi:Int))∧wr=w' by
       have:=IH.out D A3 c3 (d+1) x.conds wr r3 (by omega);rw [hmi]
       exact this)
      (have b1:(0:Int)≤(i:Int):=by omega);(have b2:(i:Int)<(l.length:Int):=by omega);have v3:IntKind.i64.wrap (1+(mi:Int))=1+(mi:Int):=Znu _ (by omega);have v4:IntKind.i64.wrap ((m:Int)+(1+(mi:Int)))=(m:Int)+(1+(mi:Int)):=Znu _ (by omega);clear hx hmi hall hsn r1 r2 r3 q0 q1 q2 q3 q4 q5;(go_wp2_with fail);refine HCL.out.mono ?_;rintro e w2 ⟨rfl,rfl⟩;(go_wp2_with fail);go_roundw
      case rel=>exact ⟨i+1,m+(1+mi),by go_num,by omega,by push_cast;rfl,HM1.out,by trivial⟩
      case measure=>simp [intOf]<;>omega
    · have hie:i=l.length:=by omega
      subst hie;have HR:=hid (show m=tot by rw [HM.out,HT.out,Zo6]);(go_wp2_with fail);go_ret;exact ⟨by rw [HR.out];rfl,rfl⟩
theorem Zio :∀(n:Nat) (D:Nat→Prop) (A:Option Addr) (c:Nat) (d:Nat) (k:Nat) (l:List Z0a) (w:World),RowR (Z06 n) D w A c l→k+(Z0i n d l).length≤1000000→d+n≤1000000→
 Calls Tryz.prog 126 #[.slice A l.length c,.int .i64 (k:Int),.int .i64 (d:Int)] w fun e w'=>e = .returned (.tuple #[.int .i64 (Z1m k (Z0i n d l)).1,.int .i64 (Z1m k (Z0i n d l)).2])∧Below w.heap.size w w':=by
 intro n
 induction n with
 | zero=>
   intro D A c d k l w h _ _;obtain rfl:=Z7q h;clear h;have HR:=hid (show Z1m k (Z0i 0 d [])=(-1,0) from rfl);go_enter Tryz.func126,Tryz.ntmps126;go_wp2_with fail
   go_loopw [1,8] (fun a s wr=>s = .int .i64 0∧a = .int .i64 (k:Int)∧wr=w) (fun a s wr=>0)
   case atStart=>exact ⟨rfl,rfl,rfl⟩
   case round=>
    obtain ⟨rfl,rfl,rfl⟩:=hrel;(go_wp2_with fail);exact bodyPost_ret (v:=.tuple #[.int .i64 (-1),.int .i64 0]) (by simp [results,Tryz.results126,go_sem, *]) rfl ⟨by rw [HR.out],Znk _ _⟩
 | succ n ih=>
   intro D A c d k l w h hle hdn;have IH:=hid ih;have H:=hid h;have hlc:=h.cap;obtain ⟨fl,hfl⟩:∃fl,fl=Z0i (n+1) d l:=⟨_,rfl⟩;rw [←hfl] at hle ⊢;have HT:=hid hfl;clear h ih hfl;go_enter Tryz.func126,Tryz.ntmps126;go_wp2_with fail
   go_loopw [1,8] (fun a s wr=>∃i m:Nat,s = .int .i64 i∧i≤l.length∧a = .int .i64 (m:Int)∧m=k+(Z0i (n+1) d (l.take i)).length∧(Z1m k (Z0i (n+1) d (l.take i))).2=0∧Below w.heap.size w wr) (fun a s wr=>l.length - (intOf s).toNat)
   case atStart=>exact ⟨0,k,rfl,Nat.zero_le _,rfl,by simp [Z0i],by simp [Z0i,Z1m],Znk _ _⟩
   case round=>
    obtain ⟨i,m,rfl,hi,rfl,hm,hz,hB⟩:=hrel;have HM:=hid hm;have HZ:=hid hz;have HB:=hid hB;clear hm hz hB;by_cases hlt:i<l.length
    · obtain ⟨x,hx⟩:∃x,x=l[i]:=⟨_,rfl⟩
      obtain ⟨fi,hfi⟩:∃fi,fi=Z0i n (d+1) x.conds:=⟨_,rfl⟩;have hall:=Z94 n d l i hlt;have hsn:=Z4c n d l i hlt;rw [←hx,←hfi] at hall hsn
      have hmt:m+(1+fi.length)≤k+fl.length:=by
       rw [HT.out,hall,Znp,Znp,Zo4,HM.out];omega
      have HM1:=hid (show m+(1+fi.length)=k+(Z0i (n+1) d (l.take (i+1))).length by rw [hsn,Znp,Zo4,HM.out];omega)
      have HFL:=hid (show ∀r,Z1m m ((d,x) :: fi)=r→r.2≠0→Z1m k fl=r by
       intro r h1 h2
       rw [HT.out,hall,Z7r _ _ _ HZ.out,show (k:Int)+((Z0i (n+1) d (l.take i)).length:Nat)=(m:Nat) by rw [HM.out];push_cast;rfl,Z93 _ _ _ (by rw [h1];exact h2),h1])
      have HZ1:=hid (show (Z1m m ((d,x) :: fi)).2=0→(Z1m k (Z0i (n+1) d (l.take (i+1)))).2=0 by
       intro h1
       rw [hsn,Z7r _ _ _ HZ.out,show (k:Int)+((Z0i (n+1) d (l.take i)).length:Nat)=(m:Nat) by rw [HM.out];push_cast;rfl,h1])
      obtain ⟨g,off,A1,c1,A2,c2,A3,c3,rfl,_,hgs,q0,q1,q2,q3,q4,q5,q6,r1,r2,r3⟩:=Z1j (H.out.new_ HB.out) hlt;rw [←hx] at q0 q1 q2 q3 q4 q5 q6 r1 r2 r3;have hn3:=r3.cap;have HR1:=hid r1;have HR2:=hid r2;have HR3:=hid r3
      have HCL:=hid (show ∀W,Below wr.heap.size wr W→Calls Tryz.prog 126 #[.slice A3 x.conds.length c3,.int .i64 ((m:Int)+1),.int .i64 ((d:Int)+1)] W fun e w'=>e = .returned (.tuple #[.int .i64 (Z1m ((m:Int)+1) fi).1,.int .i64 (Z1m ((m:Int)+1) fi).2])∧Below W.heap.size W w' by
       intro W hb;have:=IH.out D A3 c3 (d+1) (m+1) x.conds W (HR3.out.new_ hb) (by rw [←hfi];omega) (by omega);rw [←hfi] at this
       exact this)
      have HSZ:=hid (show ∀W,Below wr.heap.size wr W→Calls Tryz.prog 78 #[.slice A3 x.conds.length c3] W fun e w'=>e = .returned (.int .i64 (fi.length:Nat))∧W=w' by
       intro W hb;have:=Z8v n D A3 c3 (d+1) x.conds W (HR3.out.new_ hb) (by rw [←hfi];omega);rw [hfi]
       exact this)
      have HCE:=hid (show Z1m m ((d,x) :: fi)=if Z0l x d≠0 then ((m:Int),Z0l x d) else Z1m ((m:Int)+1) fi from rfl);(have b1:(0:Int)≤(i:Int):=by omega);(have b2:(i:Int)<(l.length:Int):=by omega);have v1:IntKind.i64.wrap ((m:Int)+1)=(m:Int)+1:=Znu _ (by omega);have v2:IntKind.i64.wrap ((d:Int)+1)=(d:Int)+1:=Znu _ (by omega);have v3:IntKind.i64.wrap (1+(fi.length:Int))=1+(fi.length:Int):=Znu _ (by omega);have v4:IntKind.i64.wrap ((m:Int)+(1+(fi.length:Int)))=(m:Int)+(1+(fi.length:Int)):=Znu _ (by omega);have hzr:=HB.out.size;clear hx hfi hall hsn r1 r2 r3;obtain ⟨e1,he1⟩:∃e1,e1=Z0l x d:=⟨_,rfl⟩;rw [←he1] at HCE;have HE1:=hid he1;clear he1;(go_wp2_with fail);refine (Zku x d A1 A2 A3 c1 c2 c3 wr HR1.out HR2.out hn3).mono ?_;rintro e w2 ⟨rfl,hb⟩;rw [←HE1.out];have HB2:=hid hb;have q6':=(hb.cell (p:=⟨g,off+i*7+6,none⟩) hgs).trans q6;have hgs2:g<w2.heap.size:=Znn hgs hb.size;clear hb q0 q1 q2 q3 q4 q5 q6;by_cases hz1:e1=0
      · have t1:(e1 != 0)=false:=by simp [hz1]
        (have t2:(e1 == 0)=true:=by simp [hz1]);have HC2:=hid (show Z1m m ((d,x) :: fi)=Z1m ((m:Int)+1) fi by rw [HCE.out,if_neg (by simpa using hz1)]);clear hz1;(go_wp2_with fail);refine (HCL.out w2 HB2.out).mono ?_;rintro e w3 ⟨rfl,hb⟩;obtain ⟨⟨r1,r2⟩,hr⟩:∃r,r=Z1m ((m:Int)+1) fi:=⟨_,rfl⟩;rw [←hr] at HC2 ⊢;have HB3:=hid (HB2.out.trans (hb.mono HB2.out.size));have q7:=(hb.cell (p:=⟨g,off+i*7+6,none⟩) hgs2).trans q6';have hgs3:g<w3.heap.size:=Znn hgs2 hb.size;clear hb hr q6';dsimp only;by_cases hz2:r2=0
        · have t3:(r2 != 0)=false:=by simp [hz2]
          (have t4:(r2 == 0)=true:=by simp [hz2]);have HZ2:=hid (HZ1.out (by rw [HC2.out];exact hz2));clear hz2;(go_wp2_with fail);refine (HSZ.out w3 HB3.out).mono ?_;rintro e w0 ⟨rfl,rfl⟩;(go_wp2_with fail);go_roundw
          case rel=>exact ⟨i+1,m+(1+fi.length),by go_num,by omega,by push_cast;rfl,HM1.out,HZ2.out,HB.out.trans (HB3.out.mono hzr)⟩
          case measure=>simp [intOf]<;>omega
        · have t3:(r2 != 0)=true:=by simp [hz2]
          (have t4:(r2 == 0)=false:=by simp [hz2]);have HF:=hid (HFL.out _ HC2.out hz2);clear hz2;(go_wp2_with fail);exact bodyPost_ret (v:=.tuple #[.int .i64 r1,.int .i64 r2]) (by simp [results,Tryz.results126,go_sem, *]) rfl ⟨by rw [HF.out],HB.out.trans (HB3.out.mono hzr)⟩
      · have t1:(e1 != 0)=true:=by simp [hz1]
        (have t2:(e1 == 0)=false:=by simp [hz1]);have HF:=hid (HFL.out ((m:Int),e1) (by rw [HCE.out,if_pos hz1]) hz1);clear hz1;(go_wp2_with fail);exact bodyPost_ret (v:=.tuple #[.int .i64 (m:Int),.int .i64 e1]) (by simp [results,Tryz.results126,go_sem, *]) rfl ⟨by rw [HF.out],HB.out.trans (HB2.out.mono hzr)⟩
    · have hie:i=l.length:=by omega
      subst hie
      have HF:=hid (show Z1m k fl=(-1,0) by
       have h1:=HZ.out;rw [Zo6,←HT.out] at h1
       have :∀(n:Int) (l:List (Nat×Z0a)),(Z1m n l).2=0→Z1m n l=(-1,0):=by
        intro n l
        induction l generalizing n with
        | nil=>intro _;rfl
        | cons c l ih=>
          intro h;rw [Z1m] at h ⊢;by_cases hc:Z0l c.2 c.1≠0
          · rw [if_pos hc] at h;exact absurd h hc
          · rw [if_neg hc] at h ⊢;exact ih _ h
       exact this _ _ h1)
      (go_wp2_with fail);exact bodyPost_ret (v:=.tuple #[.int .i64 (-1),.int .i64 0]) (by simp [results,Tryz.results126,go_sem, *]) rfl ⟨by rw [HF.out],HB.out⟩
end
section
open Go.RowKit Go.Shelf
attribute [local go_sem] Oper.semAt_some
theorem Zcv {n:Nat}{p:Z39}{F:List (Nat×Z0a)}(hF:F=Z0i n 0 p.conds) (hw:Z17 p.name=true) (h :¬(F.length<1∨16<F.length∨p.acts.length<1∨16<p.acts.length)) :
 Z1i n p=if (Z1m 0 F).2≠0 then Z1m 0 F else match p.acts.findIdx? (fun a=>!actB a) with
  | some i=>(F.length+i,9)
  | none=>(-1,0):=by
 unfold Z1i;rw [←hF,if_neg (by rw [hw];simp),if_neg h,Z86]
 cases hfi:F.findIdx? (fun c=>decide (Z0l c.2 c.1≠0)) with
 | none=>
   simp;cases p.acts.findIdx? (fun a=>!actB a)<;>rfl
 | some k=>
   obtain ⟨hk,h1,_⟩:=List.findIdx?_eq_some_iff_getElem.1 hfi;(have h1':Z0l F[k].2 F[k].1≠0:=by simpa using h1);simp [Znq hk,h1']
theorem Zf9 {D:Nat→Prop}{w:World}{A:Option Addr}{c i:Nat}{l:List ActT}(h:RowR Z11 D w A c l) (hi:i<l.length):∃g off,A=some ⟨g,off,none⟩∧D g∧g<w.heap.size∧w.rangeAt g (off+i*19) (ActT.cells l[i]):=by
 obtain ⟨g,off,cs,e1,hd,hg,hr,hc⟩:=h.at_ hi;have hr2:cs=ActT.cells l[i]:=hr;subst hr2;exact ⟨g,off,e1,hd,hg,fun j v hv=>hc j v hv⟩
theorem Zix {D:Nat→Prop}(p:Z39) (n:Nat) (A1 A2:Option Addr) (c1 c2:Nat) (w:World) (h1:RowR (Z06 n) D w A1 c1 p.conds) (h2:RowR Z11 D w A2 c2 p.acts) (hF:(Z0i n 0 p.conds).length≤1000000) (hn:n≤1000000) :
 Calls Tryz.prog 76 #[.agg #[.string p.name,.slice A1 p.conds.length c1,.slice A2 p.acts.length c2]] w fun e w'=>e = .returned (.tuple #[.int .i64 (Z1i n p).1,.int .i64 (Z1i n p).2])∧Below w.heap.size w w':=by
 have H1:=hid h1;have H2:=hid h2;have hl2:=h2.cap;have hl1:=h1.cap;clear h1 h2;obtain ⟨F,hFd⟩:∃F,F=Z0i n 0 p.conds:=⟨_,rfl⟩;have HFD:=hid hFd;rw [←hFd] at hF;clear hFd
 have HSZ:=hid (show ∀W,Below w.heap.size w W→Calls Tryz.prog 78 #[.slice A1 p.conds.length c1] W fun e w'=>e = .returned (.int .i64 (F.length:Nat))∧W=w' by
  intro W hb;have:=Z8v n D A1 c1 0 p.conds W (H1.out.new_ hb) (by rw [←HFD.out];omega);rw [←HFD.out] at this
  exact this)
 have HCN:=hid (show ∀W,Below w.heap.size w W→Calls Tryz.prog 126 #[.slice A1 p.conds.length c1,.int .i64 0,.int .i64 0] W fun e w'=>e = .returned (.tuple #[.int .i64 (Z1m 0 F).1,.int .i64 (Z1m 0 F).2])∧Below W.heap.size W w' by
  intro W hb;have:=Zio n D A1 c1 0 0 p.conds W (H1.out.new_ hb) (by rw [←HFD.out];omega) (by omega);rw [←HFD.out] at this
  exact this)
 have HBAD:=hid (show Z17 p.name=true→(F.length<1∨16<F.length∨p.acts.length<1∨16<p.acts.length)→Z1i n p=(-1,7) by
  intro hw h;unfold Z1i
  rw [if_neg (by rw [hw];simp),←HFD.out,if_pos h])
 go_enter Tryz.func76,Tryz.ntmps76;(go_upto_region 1 with fail);obtain ⟨w1,hw1⟩:∃w1,w1=(w.alloc (.cells #[.string p.name,.slice A1 p.conds.length c1,.slice A2 p.acts.length c2] 25)):=⟨_,rfl⟩;rw [←hw1];have HB:=hid (show Below w.heap.size w w1 by rw [hw1];exact (by repeat (first|exact Znk _ _|refine Below.drew ?_|refine Below.al ?_ _|refine Below.sc ?_ _)));have Kp:=hid (show Blk w1 (w.heap.size) 25 #[.string p.name,.slice A1 p.conds.length c1,.slice A2 p.acts.length c2] by rw [hw1];exact (Blk.new w 25 #[.string p.name,.slice A1 p.conds.length c1,.slice A2 p.acts.length c2]));clear hw1;obtain ⟨p0,p1,p2⟩:=Kp.out.c3;have pz:=Kp.out.lt;cases hw:Z17 p.name
 · skip
   have hc:=fun W=>Z49 p.name W;simp only [hw] at hc;have HC:=hid hc;clear hc;(go_wp2_with fail);(with_reducible refine (HC.out _).mono ?_);rintro e w0 ⟨rfl,rfl⟩;have HR:=hid (show Z1i n p=(-1,2) by unfold Z1i;rw [if_pos hw]);clear hw;(go_wp2_with fail);exact bodyPost_ret (v:=.tuple #[.int .i64 (-1),.int .i64 2]) (by simp [results,Tryz.results76,go_sem, *]) rfl ⟨by rw [HR.out],by (repeat (first|exact Znk _ _|exact HB.out|refine Below.drew ?_|refine Below.al ?_ _|refine Below.sc ?_ _))⟩
 · skip
   have hc:=fun W=>Z49 p.name W;simp only [hw] at hc;have HC:=hid hc;clear hc;(go_wp2_with fail);(with_reducible refine (HC.out _).mono ?_);rintro e w0 ⟨rfl,rfl⟩;have HW:=hid hw;clear hw;(go_wp2_with fail);(with_reducible refine (HSZ.out _ (by (repeat (first|exact Znk _ _|exact HB.out|refine Below.drew ?_|refine Below.al ?_ _|refine Below.sc ?_ _)))).mono ?_);rintro e w0 ⟨rfl,rfl⟩;by_cases ha:F.length<1
   · skip
     have aa:decide ((F.length:Int)<1)=true:=Zno (by omega);have ab:decide (F.length<1)=true:=Zno (by omega);have HR:=hid (HBAD.out HW.out (by omega));(have hzz:F.length=0:=by omega);have HZZ:=hid hzz;clear hzz;clear ha;(go_wp2_with fail);exact bodyPost_ret (v:=.tuple #[.int .i64 (-1),.int .i64 7]) (by simp [results,Tryz.results76,go_sem, *]) rfl ⟨by rw [HR.out],by (repeat (first|exact Znk _ _|exact HB.out|refine Below.drew ?_|refine Below.al ?_ _|refine Below.sc ?_ _))⟩
   · skip
     have aa:decide ((F.length:Int)<1)=false:=Znm (by omega);have ab:decide (F.length<1)=false:=Znm (by omega);have Ha:=hid ha;clear ha;by_cases hb:16<F.length
     · skip
       have ba:decide ((16:Int)<(F.length:Int))=true:=Zno (by omega);have bb:decide (16<F.length)=true:=Zno (by omega);have HR:=hid (HBAD.out HW.out (by omega));clear hb;(go_wp2_with fail);exact bodyPost_ret (v:=.tuple #[.int .i64 (-1),.int .i64 7]) (by simp [results,Tryz.results76,go_sem, *]) rfl ⟨by rw [HR.out],by (repeat (first|exact Znk _ _|exact HB.out|refine Below.drew ?_|refine Below.al ?_ _|refine Below.sc ?_ _))⟩
     · skip
       have ba:decide ((16:Int)<(F.length:Int))=false:=Znm (by omega);have bb:decide (16<F.length)=false:=Znm (by omega);have Hb:=hid hb;clear hb;by_cases hc:p.acts.length<1
       · skip
         have ca:decide ((p.acts.length:Int)<1)=true:=Zno (by omega);have cb:decide (p.acts.length<1)=true:=Zno (by omega);have HR:=hid (HBAD.out HW.out (by omega));(have hzz:p.acts.length=0:=by omega);have HZZ:=hid hzz;clear hzz;clear hc;(go_wp2_with fail);exact bodyPost_ret (v:=.tuple #[.int .i64 (-1),.int .i64 7]) (by simp [results,Tryz.results76,go_sem, *]) rfl ⟨by rw [HR.out],by (repeat (first|exact Znk _ _|exact HB.out|refine Below.drew ?_|refine Below.al ?_ _|refine Below.sc ?_ _))⟩
       · skip
         have ca:decide ((p.acts.length:Int)<1)=false:=Znm (by omega);have cb:decide (p.acts.length<1)=false:=Znm (by omega);have Hc:=hid hc;clear hc;by_cases hd:16<p.acts.length
         · skip
           have da:decide ((16:Int)<(p.acts.length:Int))=true:=Zno (by omega);have db:decide (16<p.acts.length)=true:=Zno (by omega);have HR:=hid (HBAD.out HW.out (by omega));clear hd;(go_wp2_with fail);exact bodyPost_ret (v:=.tuple #[.int .i64 (-1),.int .i64 7]) (by simp [results,Tryz.results76,go_sem, *]) rfl ⟨by rw [HR.out],by (repeat (first|exact Znk _ _|exact HB.out|refine Below.drew ?_|refine Below.al ?_ _|refine Below.sc ?_ _))⟩
         · skip
           have da:decide ((16:Int)<(p.acts.length:Int))=false:=Znm (by omega);have db:decide (16<p.acts.length)=false:=Znm (by omega);have Hd:=hid hd;clear hd;have HS:=hid (Zcv HFD.out HW.out (by have:=Ha.out;have:=Hb.out;have:=Hc.out;have:=Hd.out;omega));(go_wp2_with fail);(with_reducible refine (HCN.out _ (by (repeat (first|exact Znk _ _|exact HB.out|refine Below.drew ?_|refine Below.al ?_ _|refine Below.sc ?_ _)))).mono ?_);rintro e w2 ⟨rfl,hb⟩;have hbs:=Below.trans (show Below w1.heap.size w1 _ from (by (repeat (first|exact Znk _ _|refine Below.drew ?_|refine Below.al ?_ _|refine Below.sc ?_ _)))) (hb.mono (by simp<;>omega));have Kp:=hid (Kp.out.new_ hbs);have HB:=hid (HB.out.trans (hbs.mono HB.out.size));have hsz2:=hbs.size;clear p0 p1 p2 pz hb hbs;obtain ⟨p0,p1,p2⟩:=Kp.out.c3;have pz:=Kp.out.lt;obtain ⟨⟨r1,r2⟩,hr⟩:∃r,r=Z1m 0 F:=⟨_,rfl⟩;rw [←hr];have HRR:=hid hr;clear hr;dsimp only;by_cases hz:r2=0
           · skip
             (have z0:(r2 != 0)=false:=by simp [hz]);have z1:(r2 == 0)=true:=by simp [hz]
             have HQ:=hid (show Z1i n p=match p.acts.findIdx? (fun a=>!actB a) with|some i=>(F.length+i,9)|none=>(-1,0) by
              rw [HS.out,←HRR.out]
              rw [if_neg (by simp [hz])])
             have HZ:=hid hz;clear hz;(go_wp2_with fail);clear p0 p1 p2 pz
             go_loopw [7] (fun s wr=>∃i:Nat,s = .int .i64 i∧i≤p.acts.length∧(∀k,(h:k<p.acts.length)→k<i→actB p.acts[k]=true)∧Below w.heap.size w wr∧Blk wr (w.heap.size) 25 #[.string p.name,.slice A1 p.conds.length c1,.slice A2 p.acts.length c2]) (fun s wr=>p.acts.length - (intOf s).toNat)
             case atStart=>exact ⟨0,rfl,Nat.zero_le _,fun k _ h=>absurd h (by omega),HB.out,Kp.out⟩
             case round=>
              obtain ⟨i,rfl,hi,hall,hB,hK⟩:=hrel;have HALL:=hid hall;have HB:=hid hB;have Kp:=hid hK;clear hall hB hK;obtain ⟨p0,p1,p2⟩:=Kp.out.c3;have pz:=Kp.out.lt;by_cases hlt:i<p.acts.length
              · skip
                obtain ⟨y,hy⟩:∃y,y=p.acts[i]:=⟨_,rfl⟩;obtain ⟨g,off,rfl,_,hg,hrg⟩:=Zf9 (H2.out.new_ HB.out) hlt;rw [←hy] at hrg;have HRG:=hid (show wr.rangeAt g (off+i*19) [.string y.id,.string y.attr.var,.int .i64 y.attr.sym.kind,.string y.attr.sym.text,.int .i64 y.attr.sym.n,.int .i64 y.value.op,.string y.value.a.var,.int .i64 y.value.a.sym.kind,.string y.value.a.sym.text,.int .i64 y.value.a.sym.n,.string y.value.b.var,.int .i64 y.value.b.sym.kind,.string y.value.b.sym.text,.int .i64 y.value.b.sym.n,.int .i64 y.pref,.string y.other.var,.int .i64 y.other.sym.kind,.string y.other.sym.text,.int .i64 y.other.sym.n] from hrg);have HY:=hid hy;(have b1:(0:Int)≤(i:Int):=by omega);(have b2:(i:Int)<(p.acts.length:Int):=by omega);have v1:IntKind.i64.wrap ((F.length:Int)+(i:Int))=(F.length:Int)+(i:Int):=Znu _ (by have:=Hd.out;omega);clear hy hrg;cases hab:actB y
                · skip
                  have hc:=fun W=>Zim y W;simp only [hab] at hc;have HC:=hid hc;clear hc;(go_wp2_with (with_reducible refine wpList_load_mid rfl 96 _ rfl g (off+i*19) rfl _ _ HRG.out Tryz.underlying96 rfl (by kernel_rfl) ?_));(with_reducible refine (HC.out _).mono ?_);rintro e w3 ⟨rfl,hb⟩;have hbs:=Below.trans (show Below wr.heap.size wr _ from (by (repeat (first|exact Znk _ _|refine Below.drew ?_|refine Below.al ?_ _|refine Below.sc ?_ _)))) (hb.mono (by simp<;>omega));have Kp:=hid (Kp.out.new_ hbs);have HB:=hid (HB.out.trans (hbs.mono HB.out.size));have hsz3:=hbs.size;clear p0 p1 p2 pz hb hbs;obtain ⟨p0,p1,p2⟩:=Kp.out.c3;have pz:=Kp.out.lt
                  have HR:=hid (show Z1i n p=((F.length:Int)+(i:Nat),9) by
                   have hfi:p.acts.findIdx? (fun a=>!actB a)=some i:=by
                    rw [List.findIdx?_eq_some_iff_getElem];exact ⟨hlt,by rw [←HY.out,hab];rfl,fun j hj=>by rw [HALL.out j (by omega) hj];simp⟩
                   rw [HQ.out,hfi])
                  clear hab;(go_wp2_with fail);exact bodyPost_ret (v:=.tuple #[.int .i64 ((F.length:Int)+(i:Int)),.int .i64 9]) (by simp [results,Tryz.results76,go_sem, *]) rfl ⟨by rw [HR.out],by (repeat (first|exact Znk _ _|exact HB.out|refine Below.drew ?_|refine Below.al ?_ _|refine Below.sc ?_ _))⟩
                · skip
                  have hc:=fun W=>Zim y W;simp only [hab] at hc;have HC:=hid hc;clear hc;(go_wp2_with (with_reducible refine wpList_load_mid rfl 96 _ rfl g (off+i*19) rfl _ _ HRG.out Tryz.underlying96 rfl (by kernel_rfl) ?_));(with_reducible refine (HC.out _).mono ?_);rintro e w3 ⟨rfl,hb⟩;have hbs:=Below.trans (show Below wr.heap.size wr _ from (by (repeat (first|exact Znk _ _|refine Below.drew ?_|refine Below.al ?_ _|refine Below.sc ?_ _)))) (hb.mono (by simp<;>omega));have Kp:=hid (Kp.out.new_ hbs);have HB:=hid (HB.out.trans (hbs.mono HB.out.size));have hsz3:=hbs.size;clear p0 p1 p2 pz hb hbs;obtain ⟨p0,p1,p2⟩:=Kp.out.c3;have pz:=Kp.out.lt;have HCB:=hid hab;clear hab;(go_wp2_with fail);go_roundw
                  case rel=>exact ⟨i+1,by go_num,by omega,fun k hk hki=>by
                   by_cases e:k=i
                   · subst e;rw [←HY.out];exact HCB.out
                   · exact HALL.out k hk (by omega),HB.out,Kp.out⟩
                  case measure=>simp [intOf]<;>omega
              · skip
                (have hie:i=p.acts.length:=by omega);subst hie
                have HR:=hid (show Z1i n p=(-1,0) by
                 have hfi:p.acts.findIdx? (fun a=>!actB a)=none:=by
                  rw [List.findIdx?_eq_none_iff];intro x hx;obtain ⟨k,hk,rfl⟩:=List.getElem_of_mem hx;rw [HALL.out k hk hk];rfl
                 rw [HQ.out,hfi])
                (go_wp2_with fail);exact bodyPost_ret (v:=.tuple #[.int .i64 (-1),.int .i64 0]) (by simp [results,Tryz.results76,go_sem, *]) rfl ⟨by rw [HR.out],by (repeat (first|exact Znk _ _|exact HB.out|refine Below.drew ?_|refine Below.al ?_ _|refine Below.sc ?_ _))⟩
           · skip
             (have z0:(r2 != 0)=true:=by simp [hz]);have z1:(r2 == 0)=false:=by simp [hz]
             have HR:=hid (show Z1i n p=(r1,r2) by
              rw [HS.out,←HRR.out]
              rw [if_pos (by simpa using hz)])
             clear hz;(go_wp2_with fail);exact bodyPost_ret (v:=.tuple #[.int .i64 r1,.int .i64 r2]) (by simp [results,Tryz.results76,go_sem, *]) rfl ⟨by rw [HR.out],by (repeat (first|exact Znk _ _|exact HB.out|refine Below.drew ?_|refine Below.al ?_ _|refine Below.sc ?_ _))⟩
theorem Zh9 {x:Z0a}{d:Nat}(h:Z0l x d=0) (hk :¬x.kind=3):x.conds = []∧x.attr.length≤4∧x.value.length≤4∧∀t∈x.attr++x.value,Z1a t=true:=by
 unfold Z0l at h;rw [if_neg hk] at h
 split at h
 · split at h
   · exact absurd h (by decide)
   · rename_i h1
     split at h
     · exact absurd h (by decide)
     · rename_i h2
       split at h
       · exact absurd h (by decide)
       · rename_i h3
         simp only [Bool.not_eq_false,Zod,Zow] at h3;refine ⟨Zok.1 (by omega),by omega,by omega,fun t ht=>?_⟩;rcases Zoz.1 ht with ht|ht
         · exact h3.1 t ht
         · exact h3.2 t ht
 · exact absurd h (by decide)
def Zam (r:Bool×Int×Kn) (k n m:Nat) (w:World) (e:Ending) (w':World):Prop:=
 ∃A c out kk,e = .returned (.tuple #[.slice A out.length c,.int .i64 kk,.bool r.1])∧Below w.heap.size w w'∧(r.1=true→KRel r.2.2 out∧RowR Z61 (fun _=>True) w' A c out∧out.length≤n+9*m∧r.2.1=((k+m:Nat):Int))∧(r.1=false→kk=r.2.1)
theorem Zcu :∀(n:Nat) (D:Nat→Prop) (Al A:Option Addr) (cl c:Nat) (d k:Nat) (K:Kn) (known:List ByteArray) (l:List Z0a) (w:World),RowR (Z06 n) D w Al cl l→RowR Z61 (fun _=>True) w A c known→KRel K known→
 (∀z∈Z0i n d l,Z0l z.2 z.1=0)→k+(Z0i n d l).length≤1000→known.length+9*(Z0i n d l).length≤50000→
 Calls Tryz.prog 77 #[.slice Al l.length cl,.int .i64 (k:Int),.slice A known.length c] w (Zam (Z12 n K l k) k known.length (Z0i n d l).length w):=by
 intro n
 induction n with
 | zero=>
   intro D Al A cl c d k K known l w h hs hk _ _ _;obtain rfl:=Z7q h;clear h;have HS:=hid hs;have HK:=hid hk;have HR:=hid (show Z12 0 K [] (k:Int)=(true,(k:Int),K) from Z4b 0 K _);have HF0:=hid (show (Z0i 0 d []).length=0 from rfl);clear hs hk;go_enter Tryz.func77,Tryz.ntmps77;go_wp2_with fail
   go_loopw [1,2,9] (fun a b s wr=>s = .int .i64 0∧a = .int .i64 (k:Int)∧b = .slice A known.length c∧wr=w) (fun a b s wr=>0)
   case atStart=>exact ⟨rfl,rfl,rfl,rfl⟩
   case round=>
    obtain ⟨rfl,rfl,rfl,rfl⟩:=hrel;(go_wp2_with fail);exact bodyPost_ret (v:=.tuple #[.slice A known.length c,.int .i64 (-1),.bool true]) (by simp [results,Tryz.results77,go_sem, *]) rfl ⟨A,c,known,-1,by rw [HR.out],Znk _ _,fun _=>⟨by rw [HR.out];exact HK.out,HS.out,by omega,by rw [HR.out,HF0.out];rfl⟩,fun h=>absurd h (by rw [HR.out];simp)⟩
 | succ n ih=>
   intro D Al A cl c d k K known l w h hs hk hgood hle hlk;have IH:=hid ih;have H:=hid h;have HS:=hid hs;have HK:=hid hk;have HGOOD:=hid hgood;have hlc:=h.cap;obtain ⟨tot,htot⟩:∃tot,tot=(Z0i (n+1) d l).length:=⟨_,rfl⟩;rw [←htot] at hle hlk ⊢;have HT:=hid htot;obtain ⟨r,hr⟩:∃r,r=Z12 (n+1) K l (k:Int):=⟨_,rfl⟩;rw [←hr];have HR:=hid hr;clear h ih hs hk hgood htot hr;go_enter Tryz.func77,Tryz.ntmps77;go_wp2_with fail
   go_loopw [1,2,9] (fun a b s wr=>∃(i m:Nat) (Ao:Option Addr) (co:Nat) (o:List ByteArray) (K':Kn),s = .int .i64 i∧i≤l.length∧a = .int .i64 ((k+m:Nat):Int)∧b = .slice Ao o.length co∧m=(Z0i (n+1) d (l.take i)).length∧r=Z12 (n+1) K' (l.drop i) ((k+m:Nat):Int)∧KRel K' o∧RowR Z61 (fun _=>True) wr Ao co o∧o.length≤known.length+9*m∧Below w.heap.size w wr) (fun a b s wr=>l.length - (intOf s).toNat)
   case atStart=>exact ⟨0,0,A,c,known,K,rfl,Nat.zero_le _,rfl,rfl,by simp [Z0i],by rw [List.drop_zero];exact HR.out,HK.out,HS.out,by omega,Znk _ _⟩
   case round=>
    obtain ⟨i,m,Ao,co,o,K',rfl,hi,rfl,rfl,hm,hrr,hkr,hro,hol,hB⟩:=hrel;have HM:=hid hm;have HRR:=hid hrr;have HKR:=hid hkr;have HRO:=hid hro;have HB:=hid hB;clear hm hrr hkr hro hB;obtain ⟨q,hq⟩:∃q,q=k+m:=⟨_,rfl⟩;rw [←hq] at HRR ⊢;by_cases hlt:i<l.length
    · obtain ⟨x,hx⟩:∃x,x=l[i]:=⟨_,rfl⟩
      obtain ⟨fi,hfi⟩:∃fi,fi=Z0i n (d+1) x.conds:=⟨_,rfl⟩;have hall:=Z94 n d l i hlt;have hsn:=Z4c n d l i hlt;rw [←hx,←hfi] at hall hsn
      have hmt:m+(1+fi.length)≤tot:=by
       rw [HT.out,hall,Znp,Znp,Zo4,HM.out];omega
      have HM1:=hid (show m+(1+fi.length)=(Z0i (n+1) d (l.take (i+1))).length by rw [hsn,Znp,Zo4,HM.out];omega);have HGX:=hid (show Z0l x d=0 from HGOOD.out (d,x) (by rw [hall];simp));have HGI:=hid (show ∀z∈fi,Z0l z.2 z.1=0 from fun z hz=>HGOOD.out z (by rw [hall];simp [hz]));have HST:=hid (show r=Z12 (n+1) K' (x :: l.drop (i+1)) (q:Int) by rw [HRR.out,Z70 hlt,←hx]);obtain ⟨g,off,A1,c1,A2,c2,A3,c3,rfl,_,hgs,q0,q1,q2,q3,q4,q5,q6,r1,r2,r3⟩:=Z1j (H.out.new_ HB.out) hlt;rw [←hx] at q0 q1 q2 q3 q4 q5 q6 r1 r2 r3;have hn3:=r3.cap;have HR1:=hid r1;have HR2:=hid r2;have HR3:=hid r3
      have HSZ:=hid (show ∀W,Below wr.heap.size wr W→Calls Tryz.prog 78 #[.slice A3 x.conds.length c3] W fun e w'=>e = .returned (.int .i64 (fi.length:Nat))∧W=w' by
       intro W hb;have:=Z8v n D A3 c3 (d+1) x.conds W (HR3.out.new_ hb) (by rw [←hfi];omega);rw [hfi]
       exact this)
      have HFI:=hid hfi;(have b1:(0:Int)≤(i:Int):=by omega);(have b2:(i:Int)<(l.length:Int):=by omega);have v1:IntKind.i64.wrap ((q:Int)+1)=(q:Int)+1:=Znu _ (by omega);have v3:IntKind.i64.wrap (1+(fi.length:Int))=1+(fi.length:Int):=Znu _ (by omega);have v4:IntKind.i64.wrap ((q:Int)+(1+(fi.length:Int)))=(q:Int)+(1+(fi.length:Int)):=Znu _ (by omega);have hzr:=HB.out.size;have HQ:=hid hq;clear hx hfi hall hsn r1 r2 r3 hq;by_cases hk3:x.kind=3
      · have t1:(x.kind == 3)=true:=by simp [hk3]
        (have t2:decide (x.kind=3)=true:=by simp [hk3]);obtain ⟨r',hr'⟩:∃r',r'=Z12 n (K'.1,[]) x.conds ((q:Int)+1):=⟨_,rfl⟩
        have HS3:=hid (show r=if r'.1=true then Z12 (n+1) K' (l.drop (i+1)) r'.2.1 else (false,r'.2.1,K') by
         rw [HST.out,Z2s,if_pos hk3,hr'];rcases Z12 n (K'.1,[]) x.conds ((q:Int)+1) with ⟨b,a2,k2⟩
         cases b<;>rfl)
        have HCL:=hid (show Calls Tryz.prog 77 #[.slice A3 x.conds.length c3,.int .i64 ((q:Int)+1),.slice Ao o.length co] wr (Zam r' (q+1) o.length fi.length wr) by
         have:=IH.out D A3 Ao c3 co (d+1) (q+1) (K'.1,[]) o x.conds wr HR3.out HRO.out HKR.out.inner (by rw [←HFI.out];exact HGI.out) (by have hq:=HQ.out;rw [←HFI.out];omega) (by rw [←HFI.out];omega);rw [←HFI.out] at this;rw [hr']
         exact this)
        clear hk3 hr';obtain ⟨ok,a2,k2⟩:=r';(go_wp2_with fail);refine HCL.out.mono ?_;rintro e w2 ⟨A9,c9,o9,kk,rfl,hb,hyes,hno⟩;have HB2:=hid hb;have HY:=hid hyes;have HN:=hid hno;have q6':=(hb.cell (p:=⟨g,off+i*7+6,none⟩) hgs).trans q6;have hgs2:g<w2.heap.size:=Znn hgs hb.size;clear hb hyes hno q0 q1 q2 q3 q4 q5 q6;dsimp only
        cases ok with
        | false=>
          have HF:=hid (show r=(false,kk,K') by rw [HS3.out,HN.out rfl];rfl);(go_wp2_with fail);exact bodyPost_ret (v:=.tuple #[.slice none 0 0,.int .i64 kk,.bool false]) (by simp [results,Tryz.results77,go_sem, *]) rfl ⟨none,0,[],kk,by rw [HF.out];rfl,HB.out.trans (HB2.out.mono hzr),fun h=>absurd h (by rw [HF.out];simp),fun _=>by rw [HF.out]⟩
        | true=>
          have HF:=hid (show r=Z12 (n+1) K' (l.drop (i+1)) ((k+(m+(1+fi.length)):Nat):Int) by
           rw [HS3.out,if_pos rfl];(try dsimp only);have:=(HY.out rfl).2.2.2;try dsimp only at this
           rw [this,show q+1+fi.length=k+(m+(1+fi.length)) by have hq:=HQ.out;omega])
          (go_wp2_with fail);refine (HSZ.out w2 HB2.out).mono ?_;rintro e w0 ⟨rfl,rfl⟩;(go_wp2_with fail);go_roundw
          case rel=>exact ⟨i+1,m+(1+fi.length),Ao,co,o,K',by go_num,by omega,by have hq:=HQ.out;congr 1;push_cast;omega,rfl,HM1.out,HF.out,HKR.out,HRO.out.new_ HB2.out,by omega,HB.out.trans (HB2.out.mono hzr)⟩
          case measure=>simp [intOf]<;>omega
      · have t1:(x.kind == 3)=false:=by simp [hk3]
        (have t2:decide (x.kind=3)=false:=by simp [hk3]);obtain ⟨h0,h4,h5,h6⟩:=Zh9 HGX.out hk3;obtain ⟨K0,hK0⟩:∃K0,K0=if x.kind=1 then K' else (K'.1,[]):=⟨_,rfl⟩;(have hf0:fi.length=0:=by rw [HFI.out,h0,Z71];rfl);have HKR0:KRel K0 o:=by rw [hK0];split;exact HKR.out;exact HKR.out.inner
        have HS3:=hid (show r=if (oneK K0 x).1=true then Z12 (n+1) (if x.kind=1 then (oneK K0 x).2 else K') (l.drop (i+1)) ((q:Int)+1) else (false,(q:Int),K') by
         rw [HST.out,Z2s,if_neg hk3,←hK0];rcases oneK K0 x with ⟨b,k2⟩
         cases b<;>rfl)
        have HCL:=hid (Zmm x K0 o A1 A2 A3 Ao c1 c2 c3 co wr HR1.out HR2.out HRO.out HKR0 h6 h4 h5 (by omega));have H4:=hid h4;have H5:=hid h5;have HF0:=hid hf0;clear hk3 hK0 h0 h4 h5 h6 hf0 HKR0;(go_wp2_with fail);refine HCL.out.mono ?_;rintro e w2 ⟨A9,c9,o9,rfl,hb,hyes⟩;obtain ⟨⟨ok,k2⟩,ho⟩:∃r,r=oneK K0 x:=⟨_,rfl⟩;rw [←ho] at HS3 hyes ⊢;have HB2:=hid hb;have HY:=hid hyes;have q6':=(hb.cell (p:=⟨g,off+i*7+6,none⟩) hgs).trans q6;have q0':=(hb.cell (p:=⟨g,off+i*7,none⟩) hgs).trans q0;have hgs2:g<w2.heap.size:=Znn hgs hb.size;clear hb hyes ho q0 q1 q2 q3 q4 q5 q6;dsimp only
        cases ok with
        | false=>
          have HF:=hid (show r=(false,(q:Int),K') by rw [HS3.out];rfl);(go_wp2_with fail);exact bodyPost_ret (v:=.tuple #[.slice none 0 0,.int .i64 (q:Int),.bool false]) (by simp [results,Tryz.results77,go_sem, *]) rfl ⟨none,0,[],(q:Int),by rw [HF.out];rfl,HB.out.trans (HB2.out.mono hzr),fun h=>absurd h (by rw [HF.out];simp),fun _=>by rw [HF.out]⟩
        | true=>
          by_cases hk1:x.kind=1
          · have t3:(x.kind == 1)=true:=by simp [hk1]
            have t4:decide (x.kind=1)=true:=by simp [hk1]
            have HF:=hid (show r=Z12 (n+1) k2 (l.drop (i+1)) ((k+(m+(1+fi.length)):Nat):Int) by
             rw [HS3.out,if_pos rfl];(try dsimp only);rw [if_pos hk1,show k+(m+(1+fi.length))=q+1 by have:=HF0.out;have hq:=HQ.out;omega]
             rfl)
            clear hk1;(go_wp2_with fail);refine (HSZ.out w2 HB2.out).mono ?_;rintro e w0 ⟨rfl,rfl⟩;(go_wp2_with fail);go_roundw
            case rel=>exact ⟨i+1,m+(1+fi.length),A9,c9,o9,k2,by go_num,by omega,by have hq:=HQ.out;congr 1;push_cast;omega,rfl,HM1.out,HF.out,(HY.out (by trivial)).1,(HY.out (by trivial)).2.1,by have:=(HY.out (by trivial)).2.2;have:=H4.out;have:=H5.out;omega,HB.out.trans (HB2.out.mono hzr)⟩
            case measure=>simp [intOf]<;>omega
          · have t3:(x.kind == 1)=false:=by simp [hk1]
            have t4:decide (x.kind=1)=false:=by simp [hk1]
            have HF:=hid (show r=Z12 (n+1) K' (l.drop (i+1)) ((k+(m+(1+fi.length)):Nat):Int) by
             rw [HS3.out,if_pos rfl];(try dsimp only);rw [if_neg hk1,show k+(m+(1+fi.length))=q+1 by have:=HF0.out;have hq:=HQ.out;omega]
             rfl)
            clear hk1;(go_wp2_with fail);refine (HSZ.out w2 HB2.out).mono ?_;rintro e w0 ⟨rfl,rfl⟩;(go_wp2_with fail);go_roundw
            case rel=>exact ⟨i+1,m+(1+fi.length),Ao,co,o,K',by go_num,by omega,by have hq:=HQ.out;congr 1;push_cast;omega,rfl,HM1.out,HF.out,HKR.out,HRO.out.new_ HB2.out,by omega,HB.out.trans (HB2.out.mono hzr)⟩
            case measure=>simp [intOf]<;>omega
    · have hie:i=l.length:=by omega
      subst hie;have HF:=hid (show r=(true,((k+m:Nat):Int),K') by rw [HRR.out,Zoq,Z4b,hq]);have HMT:=hid (show m=tot by rw [HM.out,Zo6,HT.out]);(go_wp2_with fail);exact bodyPost_ret (v:=.tuple #[.slice Ao o.length co,.int .i64 (-1),.bool true]) (by simp [results,Tryz.results77,go_sem, *]) rfl ⟨Ao,co,o,-1,by rw [HF.out],HB.out,fun _=>⟨by rw [HF.out];exact HKR.out,HRO.out,by have:=HMT.out;omega,by rw [HF.out,HMT.out]⟩,fun h=>absurd h (by rw [HF.out];simp)⟩
theorem Zin {D:Nat→Prop}(p:Z39) (n:Nat) (A1 A2:Option Addr) (c1 c2:Nat) (w:World) (h1:RowR (Z06 n) D w A1 c1 p.conds) (h2:RowR Z11 D w A2 c2 p.acts) (hF:(Z0i n 0 p.conds).length≤1000000) (hn:n≤1000000) :
 Calls Tryz.prog 31 #[.agg #[.string p.name,.slice A1 p.conds.length c1,.slice A2 p.acts.length c2]] w fun e w'=>e = .returned (.tuple #[.int .i64 (Z22 n p).1,.int .i64 (Z22 n p).2.1])∧Below w.heap.size w w':=by
 have H1:=hid h1;have H2:=hid h2;have hl2:=h2.cap;obtain ⟨⟨sa,se⟩,hse⟩:∃r,r=Z1i n p:=⟨_,rfl⟩;have HSE:=hid hse.symm;have hsh:=fun W (hb:Below w.heap.size w W)=>Zix p n A1 A2 c1 c2 W (h1.new_ hb) (h2.new_ hb) hF hn;simp only [←hse] at hsh;have HSH:=hid hsh;have HF:=hid hF;clear h1 h2 hse hsh hF;go_enter Tryz.func31,Tryz.ntmps31;(go_upto_region 1 with fail);obtain ⟨w1,hw1⟩:∃w1,w1=(w.alloc (.cells #[.string p.name,.slice A1 p.conds.length c1,.slice A2 p.acts.length c2] 25)):=⟨_,rfl⟩;rw [←hw1];have HB:=hid (show Below w.heap.size w w1 by rw [hw1];exact (by repeat (first|exact Znk _ _|refine Below.drew ?_|refine Below.al ?_ _|refine Below.sc ?_ _)));have Kp:=hid (show Blk w1 (w.heap.size) 25 #[.string p.name,.slice A1 p.conds.length c1,.slice A2 p.acts.length c2] by rw [hw1];exact (Blk.new w 25 #[.string p.name,.slice A1 p.conds.length c1,.slice A2 p.acts.length c2]));clear hw1;obtain ⟨p0,p1,p2⟩:=Kp.out.c3;have pz:=Kp.out.lt;(go_wp2_with fail);(with_reducible refine (HSH.out _ (by (repeat (first|exact Znk _ _|exact HB.out|refine Below.drew ?_|refine Below.al ?_ _|refine Below.sc ?_ _)))).mono ?_);rintro e w2 ⟨rfl,hb⟩;have hbs:=Below.trans (show Below w1.heap.size w1 _ from (by (repeat (first|exact Znk _ _|refine Below.drew ?_|refine Below.al ?_ _|refine Below.sc ?_ _)))) (hb.mono (by simp<;>omega));have Kp:=hid (Kp.out.new_ hbs);have HB:=hid (HB.out.trans (hbs.mono HB.out.size));have hsz2:=hbs.size;clear p0 p1 p2 pz hb hbs;obtain ⟨p0,p1,p2⟩:=Kp.out.c3;have pz:=Kp.out.lt;by_cases hs0:se=0
 · skip
   have hok:=Zcw (n:=n) (p:=p) (by rw [HSE.out];exact hs0);have HOK:=hid hok;(have s1:(se == 0)=true:=by simp [hs0]);(have s2:decide (se=0)=true:=by simp [hs0]);(have s3:(se != 0)=false:=by simp [hs0]);have HS0:=hid (show (Z1i n p).2=0 by rw [HSE.out];exact hs0)
   have hne:p.conds≠[]:=by
    intro h;have:=hok.1;rw [h,Z71] at this;simp at this
   obtain ⟨n,rfl⟩:∃m,n=m+1:=by
    cases n with
    | zero=>have:=hok.1;exact absurd this (by simp [Z0i])
    | succ m=>exact ⟨m,rfl⟩
   obtain ⟨x,l,hxl⟩:=List.exists_cons_of_ne_nil hne;have hlen1:0<p.conds.length:=List.length_pos_iff.2 hne;obtain ⟨g,off,B1,d1,B2,d2,B3,d3,rfl,hgD,hg,q0,-,-,-,-,-,-,-,-,-⟩:=Z1j (H1.out.new_ HB.out) hlen1;(have hx0:p.conds[0]=x:=by simp [hxl]);rw [hx0] at q0;simp only [Nat.zero_mul,Nat.add_zero] at q0;have HXL:=hid hxl;(have b1:(0:Int)<(p.conds.length:Int):=by omega);clear hs0 hok hne hxl hx0 hlen1;by_cases hx1:x.kind=1
   · skip
     (have t1:(x.kind == 1)=true:=by simp [hx1]);(have t2:decide (x.kind=1)=true:=by simp [hx1]);(have t3:(x.kind != 1)=false:=by simp [hx1]);have HX1:=hid hx1;clear hx1;obtain ⟨⟨bo,ka,K3⟩,hcr⟩:∃r,r=Z12 (n+1) ([],[]) p.conds 0:=⟨_,rfl⟩;obtain ⟨m,hm⟩:∃m,m=(Z0i (n+1) 0 p.conds).length:=⟨_,rfl⟩;have HM:=hid hm;(have hm16:m≤16:=by rw [hm];exact HOK.out.2.1);have hkn:=fun W (hb:Below w.heap.size w W)=>Zcu (n+1) D (some ⟨g,off,none⟩) none c1 0 0 0 ([],[]) [] p.conds W (H1.out.new_ hb) (RowR.nil _ _ _) KRel.nil HOK.out.2.2.2.2 (by have:=HOK.out.2.1;omega) (by have:=HOK.out.2.1;simp;omega)
     have hkn2 :∀W,Below w.heap.size w W→Calls Tryz.prog 77 #[.slice (some ⟨g,off,none⟩) p.conds.length c1,.int .i64 0,.slice none 0 0] W (Zam (bo,ka,K3) 0 0 m W):=by
      intro W hb;have:=hkn W hb;rw [hcr,hm];exact this
     have HKN:=hid hkn2
     have HSZ:=hid (show ∀W,Below w.heap.size w W→Calls Tryz.prog 78 #[.slice (some ⟨g,off,none⟩) p.conds.length c1] W fun e w'=>e = .returned (.int .i64 (m:Nat))∧W=w' by
      intro W hb;have:=Z8v (n+1) D (some ⟨g,off,none⟩) c1 0 p.conds W (H1.out.new_ hb) HF.out;rw [hm]
      exact this)
     have HCR:=hid hcr.symm;clear hkn hkn2 hcr hm;(go_wp2_with fail);(with_reducible refine (HKN.out _ (by (repeat (first|exact Znk _ _|exact HB.out|refine Below.drew ?_|refine Below.al ?_ _|refine Below.sc ?_ _)))).mono ?_);rintro e w3 ⟨A9,c9,o9,kk,rfl,hb,hyes,hno⟩;have hbs:=Below.trans (show Below w2.heap.size w2 _ from (by (repeat (first|exact Znk _ _|refine Below.drew ?_|refine Below.al ?_ _|refine Below.sc ?_ _)))) (hb.mono (by simp<;>omega));have Kp:=hid (Kp.out.new_ hbs);have HB:=hid (HB.out.trans (hbs.mono HB.out.size));have hsz3:=hbs.size;clear p0 p1 p2 pz hb hbs;obtain ⟨p0,p1,p2⟩:=Kp.out.c3;have pz:=Kp.out.lt;have HY:=hid hyes;have HN:=hid hno;clear hyes hno q0;dsimp only;cases bo
     · skip
       have HR:=hid (show Z22 (n+1) p=(kk,6,[]) by rw [HN.out rfl];exact Z82 HS0.out HXL.out HX1.out HCR.out);(go_wp2_with fail);exact bodyPost_ret (v:=.tuple #[.int .i64 kk,.int .i64 6]) (by simp [results,Tryz.results31,go_sem, *]) rfl ⟨by rw [HR.out],by (repeat (first|exact Znk _ _|exact HB.out|refine Below.drew ?_|refine Below.al ?_ _|refine Below.sc ?_ _))⟩
     · skip
       obtain ⟨hkr,hro,-,hka⟩:=HY.out rfl;dsimp only at hkr hro hka;(have hka2:ka=(m:Int):=by rw [hka];simp);subst hka2;have HKR:=hid hkr;have HRO:=hid hro;have HR0:=hid (Zbw HS0.out HXL.out HX1.out HCR.out);have hal:=HOK.out.2.2.2.1;clear hkr hro hka;(go_wp2_with fail);(with_reducible refine (HSZ.out _ (by (repeat (first|exact Znk _ _|exact HB.out|refine Below.drew ?_|refine Below.al ?_ _|refine Below.sc ?_ _)))).mono ?_);rintro e w0 ⟨rfl,rfl⟩;have HBL:=hid HB.out;(go_wp2_with fail);clear p0 p1 p2 pz
       go_loopw [9] (fun s wr=>∃i:Nat,s = .int .i64 i∧i≤p.acts.length∧(∀k,(h:k<p.acts.length)→k<i→actV K3 p.acts[k]=false)∧Below w3.heap.size w3 wr) (fun s wr=>p.acts.length - (intOf s).toNat)
       case atStart=>exact ⟨0,rfl,Nat.zero_le _,fun k _ h=>absurd h (by omega),Znk _ _⟩
       case round=>
        obtain ⟨i,rfl,hi,hall,hBr⟩:=hrel;have HALL:=hid hall;have HBr:=hid hBr;have HB:=hid (HBL.out.trans (hBr.mono HBL.out.size));have Kp:=hid (Kp.out.new_ hBr);have hzr:=hBr.size;clear hall hBr;obtain ⟨p0,p1,p2⟩:=Kp.out.c3;have pz:=Kp.out.lt;by_cases hlt:i<p.acts.length
        · skip
          obtain ⟨y,hy⟩:∃y,y=p.acts[i]:=⟨_,rfl⟩;obtain ⟨gg,oo,rfl,_,hgg,hrg⟩:=Zf9 (H2.out.new_ HB.out) hlt;rw [←hy] at hrg;have HRG:=hid (show wr.rangeAt gg (oo+i*19) [.string y.id,.string y.attr.var,.int .i64 y.attr.sym.kind,.string y.attr.sym.text,.int .i64 y.attr.sym.n,.int .i64 y.value.op,.string y.value.a.var,.int .i64 y.value.a.sym.kind,.string y.value.a.sym.text,.int .i64 y.value.a.sym.n,.string y.value.b.var,.int .i64 y.value.b.sym.kind,.string y.value.b.sym.text,.int .i64 y.value.b.sym.n,.int .i64 y.pref,.string y.other.var,.int .i64 y.other.sym.kind,.string y.other.sym.text,.int .i64 y.other.sym.n] from hrg);have HY2:=hid hy;(have b3:(0:Int)≤(i:Int):=by omega);(have b4:(i:Int)<(p.acts.length:Int):=by omega);have HTH:=hid (show (wr.alloc (.cells #[.string ⟨#[]⟩,.string ⟨#[]⟩,.int .i64 0,.string ⟨#[]⟩,.int .i64 0,.int .i64 0,.string ⟨#[]⟩,.int .i64 0,.string ⟨#[]⟩,.int .i64 0,.string ⟨#[]⟩,.int .i64 0,.string ⟨#[]⟩,.int .i64 0,.int .i64 0,.string ⟨#[]⟩,.int .i64 0,.string ⟨#[]⟩,.int .i64 0] 96)).there wr.heap.size 0 (#[.string y.id,.string y.attr.var,.int .i64 y.attr.sym.kind,.string y.attr.sym.text,.int .i64 y.attr.sym.n,.int .i64 y.value.op,.string y.value.a.var,.int .i64 y.value.a.sym.kind,.string y.value.a.sym.text,.int .i64 y.value.a.sym.n,.string y.value.b.var,.int .i64 y.value.b.sym.kind,.string y.value.b.sym.text,.int .i64 y.value.b.sym.n,.int .i64 y.pref,.string y.other.var,.int .i64 y.other.sym.kind,.string y.other.sym.text,.int .i64 y.other.sym.n]:Array Value).size from (Blk.new wr 96 #[.string ⟨#[]⟩,.string ⟨#[]⟩,.int .i64 0,.string ⟨#[]⟩,.int .i64 0,.int .i64 0,.string ⟨#[]⟩,.int .i64 0,.string ⟨#[]⟩,.int .i64 0,.string ⟨#[]⟩,.int .i64 0,.string ⟨#[]⟩,.int .i64 0,.int .i64 0,.string ⟨#[]⟩,.int .i64 0,.string ⟨#[]⟩,.int .i64 0]).there);obtain ⟨W6,hW6⟩:∃W6,W6=(wr.alloc (.cells #[.string ⟨#[]⟩,.string ⟨#[]⟩,.int .i64 0,.string ⟨#[]⟩,.int .i64 0,.int .i64 0,.string ⟨#[]⟩,.int .i64 0,.string ⟨#[]⟩,.int .i64 0,.string ⟨#[]⟩,.int .i64 0,.string ⟨#[]⟩,.int .i64 0,.int .i64 0,.string ⟨#[]⟩,.int .i64 0,.string ⟨#[]⟩,.int .i64 0] 96)).setCells wr.heap.size 0 [.string y.id,.string y.attr.var,.int .i64 y.attr.sym.kind,.string y.attr.sym.text,.int .i64 y.attr.sym.n,.int .i64 y.value.op,.string y.value.a.var,.int .i64 y.value.a.sym.kind,.string y.value.a.sym.text,.int .i64 y.value.a.sym.n,.string y.value.b.var,.int .i64 y.value.b.sym.kind,.string y.value.b.sym.text,.int .i64 y.value.b.sym.n,.int .i64 y.pref,.string y.other.var,.int .i64 y.other.sym.kind,.string y.other.sym.text,.int .i64 y.other.sym.n]:=⟨_,rfl⟩;have HW6:=hid hW6;(have hRG6:W6.rangeAt wr.heap.size 0 [.string y.id,.string y.attr.var,.int .i64 y.attr.sym.kind,.string y.attr.sym.text,.int .i64 y.attr.sym.n,.int .i64 y.value.op,.string y.value.a.var,.int .i64 y.value.a.sym.kind,.string y.value.a.sym.text,.int .i64 y.value.a.sym.n,.string y.value.b.var,.int .i64 y.value.b.sym.kind,.string y.value.b.sym.text,.int .i64 y.value.b.sym.n,.int .i64 y.pref,.string y.other.var,.int .i64 y.other.sym.kind,.string y.other.sym.text,.int .i64 y.other.sym.n]:=by rw [hW6];exact Znw _ _ _ _ HTH.out);(have hB6:Below wr.heap.size wr W6:=by rw [hW6];exact Below.setCells' _ _ ((Znk _ _).alloc (Znl _) _) (Znl _));have HB6:=hid (HB.out.trans (hB6.mono HB.out.size));have HSN:=hid (show ∀(a:Z2o) (X:World),Below wr.heap.size wr X→Calls Tryz.prog 79 #[.agg #[.string a.var,.int .i64 a.sym.kind,.string a.sym.text,.int .i64 a.sym.n],.slice A9 o9.length c9] X fun e w'=>e = .returned (.bool (!Z34 K3 a))∧Below X.heap.size X w' from fun a X hX=>Zmo a K3 o9 X (HRO.out.new_ (HBr.out.trans (hX.mono hzr))) HKR.out);have HB66:=hid hB6;have e1:W6.cell? ⟨wr.heap.size,1,none⟩=some (.string y.attr.var):=(hRG6 1 _ rfl);have e2:W6.cell? ⟨wr.heap.size,2,none⟩=some (.int .i64 y.attr.sym.kind):=(hRG6 2 _ rfl);have e3:W6.cell? ⟨wr.heap.size,3,none⟩=some (.string y.attr.sym.text):=(hRG6 3 _ rfl);have e4:W6.cell? ⟨wr.heap.size,4,none⟩=some (.int .i64 y.attr.sym.n):=(hRG6 4 _ rfl);have e5:W6.cell? ⟨wr.heap.size,5,none⟩=some (.int .i64 y.value.op):=(hRG6 5 _ rfl);have e6:W6.cell? ⟨wr.heap.size,6,none⟩=some (.string y.value.a.var):=(hRG6 6 _ rfl);have e7:W6.cell? ⟨wr.heap.size,7,none⟩=some (.int .i64 y.value.a.sym.kind):=(hRG6 7 _ rfl);have e8:W6.cell? ⟨wr.heap.size,8,none⟩=some (.string y.value.a.sym.text):=(hRG6 8 _ rfl);have e9:W6.cell? ⟨wr.heap.size,9,none⟩=some (.int .i64 y.value.a.sym.n):=(hRG6 9 _ rfl);have e10:W6.cell? ⟨wr.heap.size,10,none⟩=some (.string y.value.b.var):=(hRG6 10 _ rfl);have e11:W6.cell? ⟨wr.heap.size,11,none⟩=some (.int .i64 y.value.b.sym.kind):=(hRG6 11 _ rfl);have e12:W6.cell? ⟨wr.heap.size,12,none⟩=some (.string y.value.b.sym.text):=(hRG6 12 _ rfl);have e13:W6.cell? ⟨wr.heap.size,13,none⟩=some (.int .i64 y.value.b.sym.n):=(hRG6 13 _ rfl);have hlo6:wr.heap.size<W6.heap.size:=Znx _ _ e1;clear hy hrg hW6 hRG6 hB6;cases hla:Z34 K3 y.attr
          · skip
            have hA:=HSN.out y.attr W6 HB66.out;simp only [hla,Bool.not_false] at hA;have HA:=hid hA;clear hA;by_cases h0:y.value.op=0
            · skip
              (have o1:(y.value.op == 0)=true:=by simp [h0]);(have o2:decide (y.value.op=0)=true:=by simp [h0]);(have o4:(y.value.op != 0)=false:=by simp [h0]);have HV:=hid (show actV K3 y=false by simp [actV,hla,h0]);clear hla h0
              go_wp2_with (first
               | (with_reducible refine wpList_load_mid rfl 96 _ rfl gg (oo+i*19) rfl _ _ HRG.out Tryz.underlying96 rfl (by kernel_rfl) ?_)
               | ((with_reducible refine wpList_store_mid rfl 96 _ _ rfl wr.heap.size 0 #[.string y.id,.string y.attr.var,.int .i64 y.attr.sym.kind,.string y.attr.sym.text,.int .i64 y.attr.sym.n,.int .i64 y.value.op,.string y.value.a.var,.int .i64 y.value.a.sym.kind,.string y.value.a.sym.text,.int .i64 y.value.a.sym.n,.string y.value.b.var,.int .i64 y.value.b.sym.kind,.string y.value.b.sym.text,.int .i64 y.value.b.sym.n,.int .i64 y.pref,.string y.other.var,.int .i64 y.other.sym.kind,.string y.other.sym.text,.int .i64 y.other.sym.n] rfl rfl HTH.out (by kernel_rfl) (by kernel_rfl) ?_);rw [←HW6.out])
               | ((with_reducible refine HA.out.mono ?_);rintro e w7 ⟨rfl,hb7⟩;obtain ⟨hc7,-⟩:=Z1e hb7;have hz7:=hb7.size;have hlo7:=Znn hlo6 hz7;have HB7:=hid hb7;clear hb7))
              have HBZ:=hid (HB66.out.trans (HB7.out.mono HB66.out.size));go_roundw
              case rel=>exact ⟨i+1,by go_num,by omega,fun k hk hki=>by
               by_cases e:k=i
               · subst e;rw [←HY2.out];exact HV.out
               · exact HALL.out k hk (by omega),HBr.out.trans (HBZ.out.mono hzr)⟩
              case measure=>simp [intOf]<;>omega
            · skip
              (have o1:(y.value.op == 0)=false:=by simp [h0]);(have o2:decide (y.value.op=0)=false:=by simp [h0]);(have o4:(y.value.op != 0)=true:=by simp [h0]);cases hlb:Z34 K3 y.value.a
              · skip
                cases hlc:Z34 K3 y.value.b
                · skip
                  have HV:=hid (show actV K3 y=false by simp [actV,hla,h0,hlb,hlc]);clear hla h0
                  go_wp2_with (first
                   | (with_reducible refine wpList_load_mid rfl 96 _ rfl gg (oo+i*19) rfl _ _ HRG.out Tryz.underlying96 rfl (by kernel_rfl) ?_)
                   | ((with_reducible refine wpList_store_mid rfl 96 _ _ rfl wr.heap.size 0 #[.string y.id,.string y.attr.var,.int .i64 y.attr.sym.kind,.string y.attr.sym.text,.int .i64 y.attr.sym.n,.int .i64 y.value.op,.string y.value.a.var,.int .i64 y.value.a.sym.kind,.string y.value.a.sym.text,.int .i64 y.value.a.sym.n,.string y.value.b.var,.int .i64 y.value.b.sym.kind,.string y.value.b.sym.text,.int .i64 y.value.b.sym.n,.int .i64 y.pref,.string y.other.var,.int .i64 y.other.sym.kind,.string y.other.sym.text,.int .i64 y.other.sym.n] rfl rfl HTH.out (by kernel_rfl) (by kernel_rfl) ?_);rw [←HW6.out])
                   | ((with_reducible refine HA.out.mono ?_);rintro e w7 ⟨rfl,hb7⟩;obtain ⟨hc7,-⟩:=Z1e hb7;have hz7:=hb7.size;have hlo7:=Znn hlo6 hz7;have HB7:=hid hb7;clear hb7))
                  have hA:=HSN.out y.value.a w7 (HB66.out.trans (HB7.out.mono HB66.out.size));simp only [hlb,Bool.not_false] at hA;have HA2:=hid hA;clear hA;clear hlb;refine HA2.out.mono ?_;rintro e w8 ⟨rfl,hb8⟩;obtain ⟨hc8,-⟩:=Z1e hb8;have hz8:=hb8.size;have HB8:=hid (HB7.out.trans (hb8.mono HB7.out.size));clear hb8;(go_wp2_with fail);have hA:=HSN.out y.value.b w8 (HB66.out.trans (HB8.out.mono HB66.out.size));simp only [hlc,Bool.not_false] at hA;have HA3:=hid hA;clear hA;clear hlc;refine HA3.out.mono ?_;rintro e w9 ⟨rfl,hb9⟩;have HBZ:=hid (HB66.out.trans ((HB8.out.trans (hb9.mono HB8.out.size)).mono HB66.out.size));clear hb9;(go_wp2_with fail);go_roundw
                  case rel=>exact ⟨i+1,by go_num,by omega,fun k hk hki=>by
                   by_cases e:k=i
                   · subst e;rw [←HY2.out];exact HV.out
                   · exact HALL.out k hk (by omega),HBr.out.trans (HBZ.out.mono hzr)⟩
                  case measure=>simp [intOf]<;>omega
                · skip
                  have HV:=hid (show actV K3 y=true by simp [actV,hla,h0,hlb,hlc]);clear hla h0
                  go_wp2_with (first
                   | (with_reducible refine wpList_load_mid rfl 96 _ rfl gg (oo+i*19) rfl _ _ HRG.out Tryz.underlying96 rfl (by kernel_rfl) ?_)
                   | ((with_reducible refine wpList_store_mid rfl 96 _ _ rfl wr.heap.size 0 #[.string y.id,.string y.attr.var,.int .i64 y.attr.sym.kind,.string y.attr.sym.text,.int .i64 y.attr.sym.n,.int .i64 y.value.op,.string y.value.a.var,.int .i64 y.value.a.sym.kind,.string y.value.a.sym.text,.int .i64 y.value.a.sym.n,.string y.value.b.var,.int .i64 y.value.b.sym.kind,.string y.value.b.sym.text,.int .i64 y.value.b.sym.n,.int .i64 y.pref,.string y.other.var,.int .i64 y.other.sym.kind,.string y.other.sym.text,.int .i64 y.other.sym.n] rfl rfl HTH.out (by kernel_rfl) (by kernel_rfl) ?_);rw [←HW6.out])
                   | ((with_reducible refine HA.out.mono ?_);rintro e w7 ⟨rfl,hb7⟩;obtain ⟨hc7,-⟩:=Z1e hb7;have hz7:=hb7.size;have hlo7:=Znn hlo6 hz7;have HB7:=hid hb7;clear hb7))
                  have hA:=HSN.out y.value.a w7 (HB66.out.trans (HB7.out.mono HB66.out.size));simp only [hlb,Bool.not_false] at hA;have HA2:=hid hA;clear hA;clear hlb;refine HA2.out.mono ?_;rintro e w8 ⟨rfl,hb8⟩;obtain ⟨hc8,-⟩:=Z1e hb8;have hz8:=hb8.size;have HB8:=hid (HB7.out.trans (hb8.mono HB7.out.size));clear hb8;(go_wp2_with fail);have hA:=HSN.out y.value.b w8 (HB66.out.trans (HB8.out.mono HB66.out.size));simp only [hlc,Bool.not_true] at hA;have HA3:=hid hA;clear hA;clear hlc;refine HA3.out.mono ?_;rintro e w9 ⟨rfl,hb9⟩;have HBZ:=hid (HB66.out.trans ((HB8.out.trans (hb9.mono HB8.out.size)).mono HB66.out.size));clear hb9
                  have hfi:p.acts.findIdx? (actV K3)=some i:=by
                   rw [List.findIdx?_eq_some_iff_getElem];exact ⟨hlt,by rw [←HY2.out];exact HV.out,fun j hj=>by rw [HALL.out j (by omega) hj];decide⟩
                  have HR:=hid (show Z22 (n+1) p=((m:Int)+(i:Nat),6,[]) by rw [HR0.out,hfi]);have v1:IntKind.i64.wrap ((m:Int)+(i:Int))=(m:Int)+(i:Int):=Znu _ (by omega);clear hfi;(go_wp2_with fail);exact bodyPost_ret (v:=.tuple #[.int .i64 ((m:Int)+(i:Int)),.int .i64 6]) (by simp [results,Tryz.results31,go_sem, *]) rfl ⟨by rw [HR.out],HB.out.trans (HBZ.out.mono HB.out.size)⟩
              · skip
                have HV:=hid (show actV K3 y=true by simp [actV,hla,h0,hlb]);clear hla h0
                go_wp2_with (first
                 | (with_reducible refine wpList_load_mid rfl 96 _ rfl gg (oo+i*19) rfl _ _ HRG.out Tryz.underlying96 rfl (by kernel_rfl) ?_)
                 | ((with_reducible refine wpList_store_mid rfl 96 _ _ rfl wr.heap.size 0 #[.string y.id,.string y.attr.var,.int .i64 y.attr.sym.kind,.string y.attr.sym.text,.int .i64 y.attr.sym.n,.int .i64 y.value.op,.string y.value.a.var,.int .i64 y.value.a.sym.kind,.string y.value.a.sym.text,.int .i64 y.value.a.sym.n,.string y.value.b.var,.int .i64 y.value.b.sym.kind,.string y.value.b.sym.text,.int .i64 y.value.b.sym.n,.int .i64 y.pref,.string y.other.var,.int .i64 y.other.sym.kind,.string y.other.sym.text,.int .i64 y.other.sym.n] rfl rfl HTH.out (by kernel_rfl) (by kernel_rfl) ?_);rw [←HW6.out])
                 | ((with_reducible refine HA.out.mono ?_);rintro e w7 ⟨rfl,hb7⟩;obtain ⟨hc7,-⟩:=Z1e hb7;have hz7:=hb7.size;have hlo7:=Znn hlo6 hz7;have HB7:=hid hb7;clear hb7))
                have hA:=HSN.out y.value.a w7 (HB66.out.trans (HB7.out.mono HB66.out.size));simp only [hlb,Bool.not_true] at hA;have HA2:=hid hA;clear hA;clear hlb;refine HA2.out.mono ?_;rintro e w8 ⟨rfl,hb8⟩;have HBZ:=hid (HB66.out.trans ((HB7.out.trans (hb8.mono HB7.out.size)).mono HB66.out.size));clear hb8
                have hfi:p.acts.findIdx? (actV K3)=some i:=by
                 rw [List.findIdx?_eq_some_iff_getElem];exact ⟨hlt,by rw [←HY2.out];exact HV.out,fun j hj=>by rw [HALL.out j (by omega) hj];decide⟩
                have HR:=hid (show Z22 (n+1) p=((m:Int)+(i:Nat),6,[]) by rw [HR0.out,hfi]);have v1:IntKind.i64.wrap ((m:Int)+(i:Int))=(m:Int)+(i:Int):=Znu _ (by omega);clear hfi;(go_wp2_with fail);exact bodyPost_ret (v:=.tuple #[.int .i64 ((m:Int)+(i:Int)),.int .i64 6]) (by simp [results,Tryz.results31,go_sem, *]) rfl ⟨by rw [HR.out],HB.out.trans (HBZ.out.mono HB.out.size)⟩
          · skip
            have hA:=HSN.out y.attr W6 HB66.out;simp only [hla,Bool.not_true] at hA;have HA:=hid hA;clear hA;have HV:=hid (show actV K3 y=true by simp [actV,hla]);clear hla
            go_wp2_with (first
             | (with_reducible refine wpList_load_mid rfl 96 _ rfl gg (oo+i*19) rfl _ _ HRG.out Tryz.underlying96 rfl (by kernel_rfl) ?_)
             | ((with_reducible refine wpList_store_mid rfl 96 _ _ rfl wr.heap.size 0 #[.string y.id,.string y.attr.var,.int .i64 y.attr.sym.kind,.string y.attr.sym.text,.int .i64 y.attr.sym.n,.int .i64 y.value.op,.string y.value.a.var,.int .i64 y.value.a.sym.kind,.string y.value.a.sym.text,.int .i64 y.value.a.sym.n,.string y.value.b.var,.int .i64 y.value.b.sym.kind,.string y.value.b.sym.text,.int .i64 y.value.b.sym.n,.int .i64 y.pref,.string y.other.var,.int .i64 y.other.sym.kind,.string y.other.sym.text,.int .i64 y.other.sym.n] rfl rfl HTH.out (by kernel_rfl) (by kernel_rfl) ?_);rw [←HW6.out])
             | ((with_reducible refine HA.out.mono ?_);rintro e w7 ⟨rfl,hb7⟩;obtain ⟨hc7,-⟩:=Z1e hb7;have hz7:=hb7.size;have hlo7:=Znn hlo6 hz7;have HB7:=hid hb7;clear hb7))
            have HBZ:=hid (HB66.out.trans (HB7.out.mono HB66.out.size))
            have hfi:p.acts.findIdx? (actV K3)=some i:=by
             rw [List.findIdx?_eq_some_iff_getElem];exact ⟨hlt,by rw [←HY2.out];exact HV.out,fun j hj=>by rw [HALL.out j (by omega) hj];decide⟩
            have HR:=hid (show Z22 (n+1) p=((m:Int)+(i:Nat),6,[]) by rw [HR0.out,hfi]);have v1:IntKind.i64.wrap ((m:Int)+(i:Int))=(m:Int)+(i:Int):=Znu _ (by omega);clear hfi;(go_wp2_with fail);exact bodyPost_ret (v:=.tuple #[.int .i64 ((m:Int)+(i:Int)),.int .i64 6]) (by simp [results,Tryz.results31,go_sem, *]) rfl ⟨by rw [HR.out],HB.out.trans (HBZ.out.mono HB.out.size)⟩
        · skip
          (have hie:i=p.acts.length:=by omega);subst hie
          have HR:=hid (show Z22 (n+1) p=(-1,0,K3.2) by
           have hfi:p.acts.findIdx? (actV K3)=none:=by
            rw [List.findIdx?_eq_none_iff];intro x hx;obtain ⟨j,hj,rfl⟩:=List.getElem_of_mem hx;exact HALL.out j hj (by omega)
           rw [HR0.out,hfi])
          (go_wp2_with fail);exact bodyPost_ret (v:=.tuple #[.int .i64 (-1),.int .i64 0]) (by simp [results,Tryz.results31,go_sem, *]) rfl ⟨by rw [HR.out],by (repeat (first|exact Znk _ _|exact HB.out|refine Below.drew ?_|refine Below.al ?_ _|refine Below.sc ?_ _))⟩
   · skip
     (have t1:(x.kind == 1)=false:=by simp [hx1]);(have t2:decide (x.kind=1)=false:=by simp [hx1]);(have t3:(x.kind != 1)=true:=by simp [hx1]);have HR:=hid (Z83 HS0.out HXL.out hx1);clear hx1;(go_wp2_with fail);exact bodyPost_ret (v:=.tuple #[.int .i64 0,.int .i64 9]) (by simp [results,Tryz.results31,go_sem, *]) rfl ⟨by rw [HR.out],by (repeat (first|exact Znk _ _|exact HB.out|refine Below.drew ?_|refine Below.al ?_ _|refine Below.sc ?_ _))⟩
 · skip
   (have s1:(se == 0)=false:=by simp [hs0]);(have s2:decide (se=0)=false:=by simp [hs0]);(have s3:(se != 0)=true:=by simp [hs0]);have HR:=hid (show Z22 n p=(sa,se,[]) by rw [Z7o (by rw [HSE.out];exact hs0),HSE.out]);clear hs0;(go_wp2_with fail);exact bodyPost_ret (v:=.tuple #[.int .i64 sa,.int .i64 se]) (by simp [results,Tryz.results31,go_sem, *]) rfl ⟨by rw [HR.out],by (repeat (first|exact Znk _ _|exact HB.out|refine Below.drew ?_|refine Below.al ?_ _|refine Below.sc ?_ _))⟩
end
end Go.Proofs.YtfidcfjcmlgkbaaGreat
