/-
  Texts put together: KeepHeavy, BkSm40, KeepTexts, Ref06F, Ref06G.
-/
import Derived.Test.YtfidcfjcmlgkbaaGreatPHm
namespace Go.Proofs.YtfidcfjcmlgkbaaGreat
open Lib (hid)
set_option maxRecDepth 100000
set_option maxHeartbeats 32000000
set_option linter.unusedSimpArgs false
section
open Go.RowKit Go.Shelf
def goK (most:Nat) (f:Z08→Nat):List Z08→Nat→Nat
 | [],s=>s
 | c :: l,s=>if s≤most then goK most f l (s+(1+f c)) else s
def Z23 (most:Nat):Nat→Nat→List Z08→Nat
 | 0,d,l=>if 20<d then most+1 else if l = [] then 0 else most+1
 | n+1,d,l=>if 20<d then most+1 else min (goK most (fun c=>Z23 most n (d+1) c.conds) l 0) (most+1)
theorem Zk9 (most:Nat) (f:Z08→Nat) : ∀(l:List Z08) (s:Nat),s≤goK most f l s
 | [],s=>Zm8 _
 | c :: l,s=>by
   rw [goK]
   split
   · have:=Zk9 most f l (s+(1+f c));omega
   · omega
theorem Zaa (most:Nat) (f:Z08→Nat) : ∀(l:List Z08) (s:Nat),goK most f l s≤most→goK most f l s=s+(l.map fun c=>1+f c).sum∧∀c∈l,f c≤most
 | [],s,_=>by simp [goK]
 | c :: l,s,h=>by
   rw [goK] at h ⊢;by_cases hs:s≤most
   · rw [if_pos hs] at h ⊢
     obtain ⟨h1,h2⟩:=Zaa most f l _ h;have:=Zk9 most f l (s+(1+f c));refine ⟨by rw [h1,List.map_cons,List.sum_cons];omega,fun x hx=>?_⟩;rcases Zms.1 hx with rfl | hx
     · omega
     · exact h2 x hx
   · rw [if_neg hs] at h
     omega
theorem Ze4 (most:Nat) (f:Z08→Nat) : ∀(l:List Z08) (c:Z08) (s:Nat),goK most f (l ++ [c]) s=if goK most f l s≤most then goK most f l s+(1+f c) else goK most f l s
 | [],c,s=>rfl
 | x :: l,c,s=>by
   rw [Zn2,goK,goK];by_cases hs:s≤most
   · rw [if_pos hs,if_pos hs,Ze4 most f l c]
   · rw [if_neg hs,if_neg hs,if_neg hs]
theorem Ze5 (most:Nat) (f:Z08→Nat) : ∀(l m:List Z08) (s:Nat),¬goK most f l s≤most→goK most f (l++m) s=goK most f l s
 | [],m,s,h=>by
   rw [goK] at h
   cases m with
   | nil=>rfl
   | cons c m=>simp only [Zmr,goK];rw [if_neg h]
 | x :: l,m,s,h=>by
   rw [Zn2,goK,goK];rw [goK] at h;by_cases hs:s≤most
   · rw [if_pos hs,if_pos hs]
     rw [if_pos hs] at h;exact Ze5 most f l m _ h
   · rw [if_neg hs,if_neg hs]
theorem Zcf {α:Type} (f g:α→Nat) : ∀l:List α,(∀c∈l,f c≤g c)→(l.map f).sum≤(l.map g).sum
 | [],_=>Zm8 _
 | c :: l,h=>by
   rw [List.map_cons,List.map_cons,List.sum_cons,List.sum_cons];have h1:=h c Znw;have h2:=Zcf f g l (fun x hx=>h x (Znq _ hx));omega
theorem Zh1 (m d:Nat) (l:List Z08):(Z0h (m+1) d l).length=(l.map fun c=>1+(Z0h m (d+1) c.conds).length).sum:=by
 rw [Z1q,List.length_flatMap];congr 1;apply List.map_congr_left;intro c _;simp;omega
theorem Z9p (most:Nat) : ∀(n m d e:Nat) (l:List Z08),Z23 most n d l≤most→(Z0h m e l).length≤Z23 most n d l
 | 0,m,d,e,l,h=>by
   rw [Z23] at h;by_cases h1:20<d
   · rw [if_pos h1] at h;omega
   · rw [if_neg h1] at h
     by_cases h2:l = []
     · subst h2;cases m<;>simp [Z0h]
     · rw [if_neg h2] at h;omega
 | n+1,m,d,e,l,h=>by
   rw [Z23] at h ⊢;by_cases h1:20<d
   · rw [if_pos h1] at h;omega
   · rw [if_neg h1] at h ⊢
     obtain ⟨h2,h3⟩:=Zaa most (fun c=>Z23 most n (d+1) c.conds) l 0 (by omega)
     cases m with
     | zero=>simp [Z0h]
     | succ m=>
       have h4:=Zcf (fun c:Z08=>1+(Z0h m (e+1) c.conds).length) (fun c=>1+Z23 most n (d+1) c.conds) l (fun c hc=>by
        have:=Z9p most n m (d+1) (e+1) c.conds (h3 c hc)
        omega)
       rw [Zh1];omega
theorem Z7h (most:Nat) : ∀(n d:Nat) (l:List Z08),Z23 most n d l≤most→d≤20∧∀{D:Nat→Prop} {w:World} {A:Option Addr} {c:Nat},RowR (Z05 n) D w A c l→RowR (Z05 (20 - d)) D w A c l
 | 0,d,l,h=>by
   rw [Z23] at h;by_cases h1:20<d
   · rw [if_pos h1] at h;omega
   · rw [if_neg h1] at h
     by_cases h2:l = []
     · subst h2
       exact ⟨by omega,fun g=>⟨g.1,g.2.1,fun h=>absurd h (by simp)⟩⟩
     · rw [if_neg h2] at h;omega
 | n+1,d,l,h=>by
   rw [Z23] at h;by_cases h1:20<d
   · rw [if_pos h1] at h;omega
   · rw [if_neg h1] at h
     obtain ⟨_,h3⟩:=Zaa most (fun c=>Z23 most n (d+1) c.conds) l 0 (by omega);refine ⟨by omega,fun {D w A c} g=>?_⟩;refine ⟨g.1,g.2.1,fun h0=>?_⟩;obtain ⟨b,off,g1,g2,g3,g4⟩:=g.2.2 h0;obtain ⟨d1,_⟩:=Z7h most n (d+1) _ (h3 l[0] (Zmv h0));obtain ⟨k,hk⟩ : ∃k,20 - d=k+1:=⟨20 - d - 1,by omega⟩;refine ⟨b,off,g1,g2,g3,fun j hj=>?_⟩;obtain ⟨cs,r,hc⟩:=g4 j hj;obtain ⟨A1,c1,A2,c2,A3,c3,e0,e1,e2,e3⟩:=r;have h5:=(Z7h most n (d+1) _ (h3 l[j] (Zmv hj))).2 e3;rw [hk];rw [show 20 - (d+1)=k by omega] at h5;exact ⟨cs,⟨A1,c1,A2,c2,A3,c3,e0,e1,e2,h5⟩,hc⟩
def Z3k (t:Z1t):Bool:=decide (20<t.list.length) || (decide (100<t.var.size) || decide (100<t.sym.text.size))
def Z3w (c:Z08):Bool:=decide (100<c.id.size) || (decide (10<c.attr.length) || (decide (10<c.value.length) || (c.attr.any Z3k || c.value.any Z3k)))
def Z3j:Nat→List Z08→Bool
 | 0,_=>false
 | n+1,l=>l.any fun c=>Z3w c || Z3j n c.conds
def Z5y (n:Nat) (p:Z3y):Bool:=decide (40<Z23 40 n 0 p.conds) || (decide (40<p.acts.length) || (decide (100<p.name.size) || Z3j n p.conds))
theorem Z28 {D:Nat→Prop} {A:Option Addr} {c:Nat} (l:List Z1t) (w:World) (h:RowR Z01 D w A c l):Calls Tryz.prog 81 #[.slice A l.length c] w fun e w'=>e = .returned (.bool (l.any Z3k))∧w=w':=by
 have H:=hid h;have hlc:=h.cap;clear h;go_enter Tryz.func81,Tryz.ntmps81;go_wp2_with fail
 go_loopw [3] (fun s wr=>∃i:Nat,s = .int .i64 i∧i≤l.length∧(∀k,(h:k<l.length)→k<i→Z3k l[k]=false)∧wr=w) (fun s wr=>l.length - (intOf s).toNat)
 case atStart=>exact ⟨0,rfl,Nat.zero_le _,fun k _ h=>absurd h (by omega),rfl⟩
 case round=>
  obtain ⟨i,rfl,hi,hall,rfl⟩:=hrel;have HALL:=hid hall;clear hall;by_cases hlt:i<l.length
  · obtain ⟨x,hx⟩ : ∃x,x=l[i]:=⟨_,rfl⟩
    obtain ⟨g,off,A1,c1,rfl,_,hgs,q0,q1,q2,q3,q4,q5,hr⟩:=Z32 H.out hlt;rw [← hx] at q0 q1 q2 q3 q4 q5 hr;have hcap:=hr.cap;(have b1:(0:Int)≤(i:Int):=by omega);(have b2:(i:Int)<(l.length:Int):=by omega);have HX:=hid hx;have HYES:=hid (show Z3k x=true→l.any Z3k=true from fun h=>Znr.2 ⟨x,by rw [HX.out];exact Zmv hlt,h⟩);clear hx hr;cases t1:decide (20<x.list.length)
    · cases t2:decide (100<x.var.size)
      · cases t3:decide (100<x.sym.text.size)
        · have s1:decide ((20:Int)<(x.list.length:Int))=false:=by simp at t1 ⊢;omega
          (have s2:decide ((100:Int)<(x.var.size:Int))=false:=by simp at t2 ⊢;omega);(have s3:decide ((100:Int)<(x.sym.text.size:Int))=false:=by simp at t3 ⊢;omega);have HN:=hid (show Z3k x=false by simp [Z3k,t1,t2,t3]);clear t1 t2 t3;(go_wp2_with fail);go_roundw
          case rel=>
           refine ⟨i+1,by go_num,by omega,fun k h hk=>?_,by trivial⟩;rcases Nat.lt_or_ge k i with h3 | h3
           · exact HALL.out k h h3
           · obtain rfl:k=i:=by omega
             rw [← HX.out];exact HN.out
          case measure=>simp [intOf]<;>omega
        · have s1:decide ((20:Int)<(x.list.length:Int))=false:=by simp at t1 ⊢;omega
          (have s2:decide ((100:Int)<(x.var.size:Int))=false:=by simp at t2 ⊢;omega);(have s3:decide ((100:Int)<(x.sym.text.size:Int))=true:=by simp at t3 ⊢;omega);have HN:=hid (HYES.out (by simp [Z3k,t3]));clear t1 t2 t3;(go_wp2_with fail);go_ret;exact ⟨by rw [HN.out];rfl,rfl⟩
      · have s1:decide ((20:Int)<(x.list.length:Int))=false:=by simp at t1 ⊢;omega
        (have s2:decide ((100:Int)<(x.var.size:Int))=true:=by simp at t2 ⊢;omega);have HN:=hid (HYES.out (by simp [Z3k,t2]));clear t1 t2;(go_wp2_with fail);go_ret;exact ⟨by rw [HN.out];rfl,rfl⟩
    · have s1:decide ((20:Int)<(x.list.length:Int))=true:=by simp at t1 ⊢;omega
      have HN:=hid (HYES.out (by simp [Z3k,t1]));clear t1;(go_wp2_with fail);go_ret;exact ⟨by rw [HN.out];rfl,rfl⟩
  · have hie:i=l.length:=by omega
    subst hie
    have HN:=hid (show l.any Z3k=false by
     rw [List.any_eq_false];intro x hx;obtain ⟨k,hk,rfl⟩:=List.getElem_of_mem hx
     simp [HALL.out k hk hk])
    (go_wp2_with fail);go_ret;exact ⟨by rw [HN.out];rfl,rfl⟩
theorem Zlf (most:Nat) (hm:most≤1000) : ∀(n:Nat) (D:Nat→Prop) (A:Option Addr) (c:Nat) (d:Nat) (l:List Z08) (w:World),RowR (Z05 n) D w A c l→d≤21→
 Calls Tryz.prog 34 #[.slice A l.length c,.int .i64 (most:Int),.int .i64 (d:Int)] w fun e w'=>e = .returned (.int .i64 (Z23 most n d l:Int))∧w=w':=by
 intro n
 induction n with
 | zero=>
   intro D A c d l w h hd
   have hl0:l = []:=by
    cases l with
    | nil=>rfl
    | cons x l=>
      obtain ⟨b,off,cs,_,_,_,hr,_⟩:=h.at_ (k:=0) (by simp);exact hr.elim
   subst hl0;clear h;by_cases h20:20<d
   · have t1:decide ((20:Int)<(d:Int))=true:=by simp;omega
     have v1:IntKind.i64.wrap ((most:Int)+1)=(most:Int)+1:=Zmh _ (by omega);have HR:=hid (show ((Z23 most 0 d []:Nat):Int)=(most:Int)+1 by rw [Z23,if_pos h20];rfl);clear h20;go_enter Tryz.func34,Tryz.ntmps34;(go_wp2_with fail);go_ret;exact ⟨by rw [HR.out];rfl,rfl⟩
   · have t1:decide ((20:Int)<(d:Int))=false:=by simp;omega
     have v1:IntKind.i64.wrap ((most:Int)+1)=(most:Int)+1:=Zmh _ (by omega);have HR:=hid (show ((Z23 most 0 d []:Nat):Int)=0 by rw [Z23,if_neg h20,if_pos rfl];rfl);(have hmin:min (0:Int) ((most:Int)+1)=0:=by omega);clear h20;go_enter Tryz.func34,Tryz.ntmps34;go_wp2_with fail
     go_loopw [7,8] (fun a s wr=>s = .int .i64 0∧a = .int .i64 0∧wr=w) (fun a s wr=>0)
     case atStart=>exact ⟨rfl,rfl,rfl⟩
     case round=>
      obtain ⟨rfl,rfl,rfl⟩:=hrel;(go_wp2_with fail);go_ret;exact ⟨by rw [HR.out];rfl,rfl⟩
 | succ n ih=>
   intro D A c d l w h hd;have IH:=hid ih;have H:=hid h;have hlc:=h.cap;clear h ih;have v1:IntKind.i64.wrap ((most:Int)+1)=(most:Int)+1:=Zmh _ (by omega);by_cases h20:20<d
   · have t1:decide ((20:Int)<(d:Int))=true:=by simp;omega
     have HR:=hid (show ((Z23 most (n+1) d l:Nat):Int)=(most:Int)+1 by rw [Z23,if_pos h20];rfl);clear h20;go_enter Tryz.func34,Tryz.ntmps34;(go_wp2_with fail);go_ret;exact ⟨by rw [HR.out];rfl,rfl⟩
   · have t1:decide ((20:Int)<(d:Int))=false:=by simp;omega
     obtain ⟨f,hf⟩ : ∃f:Z08→Nat,f=fun c=>Z23 most n (d+1) c.conds:=⟨_,rfl⟩
     have hfle : ∀c,f c≤most+1:=fun c=>by
      rw [hf]
      cases n with
      | zero=>simp only [Z23];split;omega;split<;>omega
      | succ n=>simp only [Z23];split;omega;omega
     have HFLE:=hid hfle;have HR:=hid (show ((Z23 most (n+1) d l:Nat):Int)=min ((goK most f l 0:Nat):Int) ((most:Int)+1) by rw [Z23,if_neg h20,← hf];omega);have HF:=hid hf;(have hd20:d≤20:=by omega);clear h20 hfle hf;go_enter Tryz.func34,Tryz.ntmps34;go_wp2_with fail
     go_loopw [7,8] (fun a s wr=>∃i:Nat,s = .int .i64 i∧i≤l.length∧a = .int .i64 ((goK most f (l.take i) 0:Nat):Int)∧goK most f (l.take i) 0≤2*most+2∧wr=w) (fun a s wr=>l.length - (intOf s).toNat)
     case atStart=>exact ⟨0,rfl,Nat.zero_le _,rfl,by simp [goK],rfl⟩
     case round=>
      obtain ⟨i,rfl,hi,rfl,hle,rfl⟩:=hrel;obtain ⟨s,hs⟩ : ∃s,s=goK most f (l.take i) 0:=⟨_,rfl⟩;rw [← hs] at hle ⊢;have HS:=hid hs;clear hs;by_cases hlt:i<l.length
      · by_cases hsm:s≤most
        · have t2:decide ((s:Int)≤(most:Int))=true:=by simp;omega
          obtain ⟨x,hx⟩ : ∃x,x=l[i]:=⟨_,rfl⟩;obtain ⟨g,off,A1,c1,A2,c2,A3,c3,rfl,_,hgs,q0,q1,q2,q3,q4,q5,q6,r1,r2,r3⟩:=Z1n H.out hlt;rw [← hx] at q6 r3;have HR3:=hid r3;have hn3:=r3.cap;(have b1:(0:Int)≤(i:Int):=by omega);(have b2:(i:Int)<(l.length:Int):=by omega);obtain ⟨y,hy⟩ : ∃y,y=f x:=⟨_,rfl⟩;have hyle:y≤most+1:=by rw [hy];exact HFLE.out x
          have HCL:=hid (show Calls Tryz.prog 34 #[.slice A3 x.conds.length c3,.int .i64 (most:Int),.int .i64 ((d:Int)+1)] wr fun e w'=>e = .returned (.int .i64 (y:Int))∧wr=w' by
           have:=IH.out D A3 c3 (d+1) x.conds wr HR3.out (by omega);rw [hy,HF.out]
           exact this)
          have HN:=hid (show goK most f (l.take (i+1)) 0=s+(1+y) by
           rw [List.take_succ_eq_append_getElem hlt,Ze4,← HS.out,if_pos hsm,← hx,hy])
          have v2:IntKind.i64.wrap ((d:Int)+1)=(d:Int)+1:=Zmh _ (by omega);have v3:IntKind.i64.wrap (1+(y:Int))=1+(y:Int):=Zmh _ (by omega);have v4:IntKind.i64.wrap ((s:Int)+(1+(y:Int)))=(s:Int)+(1+(y:Int)):=Zmh _ (by omega);clear hx hy r1 r2 r3 q0 q1 q2 q3 q4 q5;(go_wp2_with fail);refine HCL.out.mono ?_;rintro e w2 ⟨rfl,rfl⟩;(go_wp2_with fail);go_roundw
          case rel=>exact ⟨i+1,by go_num,by omega,by rw [HN.out];simp,by rw [HN.out];omega,by trivial⟩
          case measure=>simp [intOf]<;>omega
        · have t2:decide ((s:Int)≤(most:Int))=false:=by simp;omega
          (have b2:(i:Int)<(l.length:Int):=by omega);have hmin:min (s:Int) ((most:Int)+1)=(most:Int)+1:=by omega
          have HN:=hid (show goK most f l 0=s by
           have:=Ze5 most f (l.take i) (l.drop i) 0 (by rw [← HS.out];exact hsm)
           rwa [List.take_append_drop,← HS.out] at this)
          clear hsm;(go_wp2_with fail);go_ret;exact ⟨by rw [HR.out,HN.out,hmin];rfl,rfl⟩
      · have hie:i=l.length:=by omega
        subst hie;have HN:=hid (show goK most f l 0=s by rw [HS.out,Zmt]);obtain ⟨z,hz⟩ : ∃z,z=min (s:Int) ((most:Int)+1):=⟨_,rfl⟩;have HZ:=hid hz;clear hz;(go_wp2_with fail);go_ret;exact ⟨by rw [HR.out,HN.out];rfl,rfl⟩
theorem Zcy (n:Nat) (l:List Z08):Z3j (n+1) l=l.any fun c=>Z3w c || Z3j n c.conds:=rfl
theorem Zab : ∀(n:Nat) (D:Nat→Prop) (A:Option Addr) (c:Nat) (l:List Z08) (w:World),RowR (Z05 n) D w A c l→
 Calls Tryz.prog 35 #[.slice A l.length c] w fun e w'=>e = .returned (.bool (Z3j n l))∧Below w.heap.size w w':=by
 intro n
 induction n with
 | zero=>
   intro D A c l w h
   have hl0:l = []:=by
    cases l with
    | nil=>rfl
    | cons x l=>
      obtain ⟨b,off,cs,_,_,_,hr,_⟩:=h.at_ (k:=0) (by simp);exact hr.elim
   subst hl0;clear h;go_enter Tryz.func35,Tryz.ntmps35;go_wp2_with fail
   go_loopw [3] (fun s wr=>s = .int .i64 0∧wr=w) (fun s wr=>0)
   case atStart=>exact ⟨rfl,rfl⟩
   case round=>
    obtain ⟨rfl,rfl⟩:=hrel;(go_wp2_with fail);go_ret;exact ⟨rfl,Zm7 _ _⟩
 | succ n ih=>
   intro D A c l w h;have IH:=hid ih;have H:=hid h;have hlc:=h.cap;clear h ih;obtain ⟨R,hR⟩ : ∃R,R=Z3j (n+1) l:=⟨_,rfl⟩;rw [← hR];have HR:=hid (show R=l.any fun c=>Z3w c || Z3j n c.conds by rw [hR,Zcy]);clear hR;go_enter Tryz.func35,Tryz.ntmps35;go_wp2_with fail
   go_loopw [3] (fun s wr=>∃i:Nat,s = .int .i64 i∧i≤l.length∧(∀k,(h:k<l.length)→k<i→(Z3w l[k] || Z3j n l[k].conds)=false)∧Below w.heap.size w wr) (fun s wr=>l.length - (intOf s).toNat)
   case atStart=>exact ⟨0,rfl,Nat.zero_le _,fun k _ h=>absurd h (by omega),Zm7 _ _⟩
   case round=>
    obtain ⟨i,rfl,hi,hall,hB⟩:=hrel;have HALL:=hid hall;have HB0:=hid hB;clear hall hB;by_cases hlt:i<l.length
    · obtain ⟨x,hx⟩ : ∃x,x=l[i]:=⟨_,rfl⟩
      obtain ⟨g,off,A1,c1,A2,c2,A3,c3,rfl,_,hgs,q0,q1,q2,q3,q4,q5,q6,r1,r2,r3⟩:=Z1n (H.out.new_ HB0.out) hlt;rw [← hx] at q0 q1 q2 q3 q4 q5 q6 r1 r2 r3;have HR1:=hid r1;have HR2:=hid r2;have HR3:=hid r3;have hn1:=r1.cap;have hn2:=r2.cap;have hn3:=r3.cap;(have b1:(0:Int)≤(i:Int):=by omega);(have b2:(i:Int)<(l.length:Int):=by omega);have HX:=hid hx;have HYES:=hid (show (Z3w x || Z3j n x.conds)=true→R=true from fun h=>by rw [HR.out];exact Znr.2 ⟨x,by rw [HX.out];exact Zmv hlt,h⟩);have hsz:=HB0.out.size;clear hx r1 r2 r3;(go_upto_region 5 with fail);obtain ⟨X,hX⟩ : ∃X,X=wr.alloc (.cells #[.int .i64 x.kind,.bool x.goal,.string x.id,.slice A1 x.attr.length c1,.slice A2 x.value.length c2,.bool x.acc,.slice A3 x.conds.length c3] 59):=⟨_,rfl⟩;rw [← hX];(have hbX:Below wr.heap.size wr X:=by rw [hX];exact (Zm7 _ _).alloc (Zm8 _) _);have Kx:=hid (show Blk X wr.heap.size 59 #[.int .i64 x.kind,.bool x.goal,.string x.id,.slice A1 x.attr.length c1,.slice A2 x.value.length c2,.bool x.acc,.slice A3 x.conds.length c3] by rw [hX];exact Blk.new _ _ _);have HB:=hid hbX;have HBW:=hid (HB0.out.trans (hbX.mono hsz));clear hX hbX q0 q1 q2 q3 q4 q5 q6;obtain ⟨-,-,x2,x3,x4,-,x6⟩:=Kx.out.c7;have xz:=Kx.out.lt;cases t1:decide (100<x.id.size)
      · skip
        cases t2:decide (10<x.attr.length)
        · skip
          cases t3:decide (10<x.value.length)
          · skip
            (have s1:decide ((100:Int)<(x.id.size:Int))=false:=by simp at t1 ⊢;omega);(have s2:decide ((10:Int)<(x.attr.length:Int))=false:=by simp at t2 ⊢;omega);(have s3:decide ((10:Int)<(x.value.length:Int))=false:=by simp at t3 ⊢;omega);cases t4:x.attr.any Z3k
            · skip
              cases t5:x.value.any Z3k
              · skip
                cases t6:Z3j n x.conds
                · skip
                  have hc1:=Z28 x.attr X (HR1.out.new_ HB.out);rw [t4] at hc1;have HC1:=hid hc1;clear hc1;have hc2:=Z28 x.value X (HR2.out.new_ HB.out);rw [t5] at hc2;have HC2:=hid hc2;clear hc2;have hc3:=IH.out D A3 c3 x.conds X (HR3.out.new_ HB.out);rw [t6] at hc3;have HC3:=hid hc3;clear hc3;have HN:=hid (show (Z3w x || Z3j n x.conds)=false by simp [Z3w,t1,t2,t3,t4,t5,t6]);clear t1 t2 t3 t4 t5 t6;(go_wp2_with fail);refine HC1.out.mono ?_;rintro e w9 ⟨rfl,rfl⟩;(go_wp2_with fail);refine HC2.out.mono ?_;rintro e w9 ⟨rfl,rfl⟩;(go_wp2_with fail);refine HC3.out.mono ?_;rintro e w5 ⟨rfl,hb5⟩;have HB5:=hid (HBW.out.trans (hb5.mono HBW.out.size));clear hb5;clear x2 x3 x4 x6;(go_wp2_with fail);go_roundw
                  case rel=>
                   refine ⟨i+1,by go_num,by omega,fun k h hk=>?_,HB5.out⟩;rcases Nat.lt_or_ge k i with h3 | h3
                   · exact HALL.out k h h3
                   · obtain rfl:k=i:=by omega
                     rw [← HX.out];exact HN.out
                  case measure=>simp [intOf]<;>omega
                · skip
                  have hc1:=Z28 x.attr X (HR1.out.new_ HB.out);rw [t4] at hc1;have HC1:=hid hc1;clear hc1;have hc2:=Z28 x.value X (HR2.out.new_ HB.out);rw [t5] at hc2;have HC2:=hid hc2;clear hc2;have hc3:=IH.out D A3 c3 x.conds X (HR3.out.new_ HB.out);rw [t6] at hc3;have HC3:=hid hc3;clear hc3;have HN:=hid (HYES.out (by simp [t6]));clear t1 t2 t3 t4 t5 t6;(go_wp2_with fail);refine HC1.out.mono ?_;rintro e w9 ⟨rfl,rfl⟩;(go_wp2_with fail);refine HC2.out.mono ?_;rintro e w9 ⟨rfl,rfl⟩;(go_wp2_with fail);refine HC3.out.mono ?_;rintro e w5 ⟨rfl,hb5⟩;have HB5:=hid (HBW.out.trans (hb5.mono HBW.out.size));clear hb5;clear x2 x3 x4 x6;(go_wp2_with fail);go_ret;exact ⟨by rw [HN.out];rfl,HB5.out⟩
              · skip
                have hc1:=Z28 x.attr X (HR1.out.new_ HB.out);rw [t4] at hc1;have HC1:=hid hc1;clear hc1;have hc2:=Z28 x.value X (HR2.out.new_ HB.out);rw [t5] at hc2;have HC2:=hid hc2;clear hc2;have HN:=hid (HYES.out (by simp [Z3w,t5]));clear t1 t2 t3 t4 t5;(go_wp2_with fail);refine HC1.out.mono ?_;rintro e w9 ⟨rfl,rfl⟩;(go_wp2_with fail);refine HC2.out.mono ?_;rintro e w9 ⟨rfl,rfl⟩;(go_wp2_with fail);go_ret;exact ⟨by rw [HN.out];rfl,HBW.out⟩
            · skip
              have hc1:=Z28 x.attr X (HR1.out.new_ HB.out);rw [t4] at hc1;have HC1:=hid hc1;clear hc1;have HN:=hid (HYES.out (by simp [Z3w,t4]));clear t1 t2 t3 t4;(go_wp2_with fail);refine HC1.out.mono ?_;rintro e w9 ⟨rfl,rfl⟩;(go_wp2_with fail);go_ret;exact ⟨by rw [HN.out];rfl,HBW.out⟩
          · skip
            (have s1:decide ((100:Int)<(x.id.size:Int))=false:=by simp at t1 ⊢;omega);(have s2:decide ((10:Int)<(x.attr.length:Int))=false:=by simp at t2 ⊢;omega);(have s3:decide ((10:Int)<(x.value.length:Int))=true:=by simp at t3 ⊢;omega);have HN:=hid (HYES.out (by simp [Z3w,t3]));clear t1 t2 t3;(go_wp2_with fail);go_ret;exact ⟨by rw [HN.out];rfl,HBW.out⟩
        · skip
          (have s1:decide ((100:Int)<(x.id.size:Int))=false:=by simp at t1 ⊢;omega);(have s2:decide ((10:Int)<(x.attr.length:Int))=true:=by simp at t2 ⊢;omega);have HN:=hid (HYES.out (by simp [Z3w,t2]));clear t1 t2;(go_wp2_with fail);go_ret;exact ⟨by rw [HN.out];rfl,HBW.out⟩
      · skip
        (have s1:decide ((100:Int)<(x.id.size:Int))=true:=by simp at t1 ⊢;omega);have HN:=hid (HYES.out (by simp [Z3w,t1]));clear t1;(go_wp2_with fail);go_ret;exact ⟨by rw [HN.out];rfl,HBW.out⟩
    · have hie:i=l.length:=by omega
      subst hie
      have HN:=hid (show R=false by
       rw [HR.out,List.any_eq_false];intro x hx;obtain ⟨k,hk,rfl⟩:=List.getElem_of_mem hx;have:=HALL.out k hk hk
       simpa using this)
      (go_wp2_with fail);go_ret;exact ⟨by rw [HN.out];rfl,HB0.out⟩
theorem Zj7 {D:Nat→Prop} (n:Nat) (p:Z3y) (A1 A2:Option Addr) (c1 c2:Nat) (w:World) (h1:RowR (Z05 n) D w A1 c1 p.conds) (h2:RowR Z19 D w A2 c2 p.acts) :
 Calls Tryz.prog 6 #[.agg #[.string p.name,.slice A1 p.conds.length c1,.slice A2 p.acts.length c2]] w fun e w'=>e = .returned (.bool (Z5y n p))∧Below w.heap.size w w':=by
 have H1:=hid h1;have hac:=h2.cap;obtain ⟨R,hR⟩ : ∃R,R=Z5y n p:=⟨_,rfl⟩;rw [← hR];have HR:=hid hR;obtain ⟨s,hs⟩ : ∃s,s=Z23 40 n 0 p.conds:=⟨_,rfl⟩;unfold Z5y at hR;rw [← hs] at hR;have HV:=hid hR;clear hR h1 h2;go_enter Tryz.func6,Tryz.ntmps6;(go_upto_region 1 with fail);obtain ⟨w1,hw1⟩ : ∃w1,w1=(w.alloc (.cells #[.string p.name,.slice A1 p.conds.length c1,.slice A2 p.acts.length c2] 25)):=⟨_,rfl⟩;rw [← hw1];have HB:=hid (show Below w.heap.size w w1 by rw [hw1];exact (by repeat (first | exact Zm7 _ _ | refine Below.drew ?_ | refine Below.al ?_ _ | refine Below.sc ?_ _)));have Kp:=hid (show Blk w1 (w.heap.size) 25 #[.string p.name,.slice A1 p.conds.length c1,.slice A2 p.acts.length c2] by rw [hw1];exact (Blk.new w 25 #[.string p.name,.slice A1 p.conds.length c1,.slice A2 p.acts.length c2]));clear hw1;obtain ⟨p0,p1,p2⟩:=Kp.out.c3;have pz:=Kp.out.lt;have hc1:Calls Tryz.prog 34 #[.slice A1 p.conds.length c1,.int .i64 40,.int .i64 0] w1 _:=Zlf 40 (by decide) n D A1 c1 0 p.conds w1 (H1.out.new_ HB.out) (by decide);rw [← hs] at hc1;have HC1:=hid hc1;clear hc1 hs;cases t1:decide (40<s)
 · skip
   cases t2:decide (40<p.acts.length)
   · skip
     cases t3:decide (100<p.name.size)
     · skip
       (have s1:decide ((40:Int)<(s:Int))=false:=by simp at t1 ⊢;omega);(have s2:decide ((40:Int)<(p.acts.length:Int))=false:=by simp at t2 ⊢;omega);(have s3:decide ((100:Int)<(p.name.size:Int))=false:=by simp at t3 ⊢;omega);have HN:=hid (show R=Z3j n p.conds by rw [HV.out,t1,t2,t3];simp);clear t1 t2 t3;(go_wp2_with fail);(with_reducible refine (HC1.out).mono ?_);rintro e w0 ⟨rfl,rfl⟩;(go_wp2_with fail);(with_reducible refine (Zab n D A1 c1 p.conds _ (H1.out.new_ HB.out)).mono ?_);rintro e w2 ⟨rfl,hb⟩;have hbs:=Below.trans (show Below w1.heap.size w1 _ from (by (repeat (first | exact Zm7 _ _ | refine Below.drew ?_ | refine Below.al ?_ _ | refine Below.sc ?_ _)))) (hb.mono (by simp<;>omega));have Kp:=hid (Kp.out.new_ hbs);have HB:=hid (HB.out.trans (hbs.mono HB.out.size));have hsz2:=hbs.size;clear p0 p1 p2 pz hb hbs;obtain ⟨p0,p1,p2⟩:=Kp.out.c3;have pz:=Kp.out.lt;(go_wp2_with fail);go_ret;exact ⟨by rw [HN.out];rfl,HB.out⟩
     · skip
       (have s1:decide ((40:Int)<(s:Int))=false:=by simp at t1 ⊢;omega);(have s2:decide ((40:Int)<(p.acts.length:Int))=false:=by simp at t2 ⊢;omega);(have s3:decide ((100:Int)<(p.name.size:Int))=true:=by simp at t3 ⊢;omega);have HN:=hid (show R=true by rw [HV.out,t1,t2,t3];simp);clear t1 t2 t3;(go_wp2_with fail);(with_reducible refine (HC1.out).mono ?_);rintro e w0 ⟨rfl,rfl⟩;(go_wp2_with fail);go_ret;exact ⟨by rw [HN.out];rfl,HB.out⟩
   · skip
     (have s1:decide ((40:Int)<(s:Int))=false:=by simp at t1 ⊢;omega);(have s2:decide ((40:Int)<(p.acts.length:Int))=true:=by simp at t2 ⊢;omega);have HN:=hid (show R=true by rw [HV.out,t1,t2];simp);clear t1 t2;(go_wp2_with fail);(with_reducible refine (HC1.out).mono ?_);rintro e w0 ⟨rfl,rfl⟩;(go_wp2_with fail);go_ret;exact ⟨by rw [HN.out];rfl,HB.out⟩
 · skip
   (have s1:decide ((40:Int)<(s:Int))=true:=by simp at t1 ⊢;omega);have HN:=hid (show R=true by rw [HV.out,t1];simp);clear t1;(go_wp2_with fail);(with_reducible refine (HC1.out).mono ?_);rintro e w0 ⟨rfl,rfl⟩;(go_wp2_with fail);go_ret;exact ⟨by rw [HN.out];rfl,HB.out⟩
theorem Zbl {n:Nat} {p:Z3y} (h:Z5y n p=false):(∀{D:Nat→Prop} {w:World} {A:Option Addr} {c:Nat},RowR (Z05 n) D w A c p.conds→RowR (Z05 20) D w A c p.conds)∧(∀m e,(Z0h m e p.conds).length≤40)∧p.acts.length≤40∧p.name.size≤100:=by
 unfold Z5y at h;simp only [Bool.or_eq_false_iff,decide_eq_false_iff_not] at h;obtain ⟨h1,h2,h3,h4⟩:=h;(have h5:Z23 40 n 0 p.conds≤40:=by omega);exact ⟨fun g=>(Z7h 40 n 0 p.conds h5).2 g,fun m e=>Zmk (Z9p 40 n m 0 e p.conds h5) h5,by omega,by omega⟩
theorem Z7i {d:Nat} {l:List Z08} (h:Z23 40 0 d l≤40):l = []:=by
 rw [Z23] at h;by_cases h1:20<d
 · rw [if_pos h1] at h;omega
 · rw [if_neg h1] at h
   by_cases h2:l = []
   · exact h2
   · rw [if_neg h2] at h;omega
theorem Zav {n d:Nat} {l:List Z08} (h:Z23 40 (n+1) d l≤40):Z23 40 (n+1) d l=(l.map fun c=>1+Z23 40 n (d+1) c.conds).sum∧∀c∈l,Z23 40 n (d+1) c.conds≤40:=by
 rw [Z23] at h ⊢;by_cases h1:20<d
 · rw [if_pos h1] at h;omega
 · rw [if_neg h1] at h ⊢
   obtain ⟨g1,g2⟩:=Zaa 40 (fun c=>Z23 40 n (d+1) c.conds) l 0 (by omega);exact ⟨by omega,g2⟩
theorem Zhe (f:Z08→Nat) : ∀l:List Z08,l.length≤(l.map fun c=>1+f c).sum
 | []=>by simp
 | c :: l=>by have:=Zhe f l;rw [List.map_cons,List.sum_cons,Zmp];omega
theorem Zcc : ∀(n d:Nat) (l:List Z08),Z23 40 n d l≤40→l.length≤40
 | 0,d,l,h=>by rw [Z7i h];simp
 | n+1,d,l,h=>by
   obtain ⟨g1,_⟩:=Zav h;have:=Zhe (fun c=>Z23 40 n (d+1) c.conds) l;omega
theorem Ze8 {n:Nat} {l:List Z08} (h:Z3j (n+1) l=false) {c:Z08} (hc:c∈l):Z3w c=false∧Z3j n c.conds=false:=by
 have h2:=List.any_eq_false.1 (show (l.any fun c=>Z3w c || Z3j n c.conds)=false from h) c hc;simp only [Znp,not_or,Bool.not_eq_true] at h2;exact h2
theorem Zbm {l:List Z1t} (h1:l.length≤10) (h2:l.any Z3k=false):SmT l:=by
 refine ⟨by omega,fun t ht=>?_⟩;have h3:=List.any_eq_false.1 h2 t ht;unfold Z3k at h3;simp only [Znp,Zno,not_or] at h3;omega
theorem Zbk {c:Z08} (h:Z3w c=false):c.id.size≤100∧c.attr.length≤10∧c.value.length≤10∧SmT c.attr∧SmT c.value∧c.attr.any Z3k=false∧c.value.any Z3k=false:=by
 unfold Z3w at h;simp only [Bool.or_eq_false_iff,decide_eq_false_iff_not] at h;obtain ⟨h1,h2,h3,h4,h5⟩:=h;exact ⟨by omega,by omega,by omega,Zbm (by omega) h4,Zbm (by omega) h5,h4,h5⟩
theorem Zev : ∀(n d m:Nat) (l:List Z08),Z23 40 n d l≤40→Z3j n l=false→∀c∈l,SmC m c
 | 0,d,m,l,h1,_,c,hc=>by rw [Z7i h1] at hc;cases hc
 | n+1,d,0,l,_,_,c,hc=>trivial
 | n+1,d,m+1,l,h1,h2,c,hc=>by
   obtain ⟨g1,g2⟩:=Zav h1;obtain ⟨k1,k2⟩:=Ze8 h2 hc;obtain ⟨-,-,-,s1,s2,-,-⟩:=Zbk k1;have:=Zcc n (d+1) c.conds (g2 c hc);exact ⟨s1,s2,by omega,Zev n (d+1) m c.conds (g2 c hc) k2⟩
theorem Z9g {β:Type} (f:Z08→List β) (g:Z08→Nat) (k:Nat) : ∀l:List Z08,(∀c∈l,(f c).length≤k*g c)→(l.flatMap f).length≤k*(l.map g).sum
 | [],_=>by simp
 | c :: l,h=>by
   have h1:=h c (by simp);have h2:=Z9g f g k l (fun x hx=>h x (by simp [hx]));rw [Zn7,Zmd,List.map_cons,List.sum_cons,Nat.mul_add];omega
theorem Z8p : ∀(n d m:Nat) (l:List Z08),Z23 40 n d l≤40→Z3j n l=false→(l.flatMap (Z0z m)).length≤21*Z23 40 n d l
 | 0,d,m,l,h1,_=>by rw [Z7i h1];simp
 | n+1,d,0,l,_,_=>by
   have:l.flatMap (Z0z 0) = []:=by
    rw [List.flatMap_eq_nil_iff];intro x _;rfl
   rw [this];simp
 | n+1,d,m+1,l,h1,h2=>by
   obtain ⟨g1,g2⟩:=Zav h1;rw [g1];refine Z9g (Z0z (m+1)) (fun c:Z08=>1+Z23 40 n (d+1) c.conds) 21 l (fun c hc=>?_);obtain ⟨k1,k2⟩:=Ze8 h2 hc;obtain ⟨-,s1,s2,-⟩:=Zbk k1;have h5:=Z8p n (d+1) m c.conds (g2 c hc) k2;have k1:=Zcg c.attr;have k2:=Zcg c.value;have k3:=Zek c.id;rw [Z0z,Zmd,Zmd,Zmd];omega
theorem Zh3 {n:Nat} {p:Z3y} (h:Z5y n p=false):Z23 40 n 0 p.conds≤40∧p.acts.length≤40∧p.name.size≤100∧Z3j n p.conds=false:=by
 unfold Z5y at h;simp only [Bool.or_eq_false_iff,decide_eq_false_iff_not] at h;obtain ⟨h1,h2,h3,h4⟩:=h;exact ⟨by omega,by omega,by omega,h4⟩
theorem sm40 {n:Nat} {p:Z3y} (h:Z5y n p=false) (m:Nat):p.conds.length≤40∧∀c∈p.conds,SmC m c∧(Z0z m c).length≤100000:=by
 obtain ⟨h1,_,_,h4⟩:=Zh3 h;refine ⟨Zcc n 0 p.conds h1,fun c hc=>⟨Zev n 0 m p.conds h1 h4 c hc,?_⟩⟩;have h5:=Z8p n 0 m p.conds h1 h4
 have h6:(Z0z m c).length≤(p.conds.flatMap (Z0z m)).length:=by
  obtain ⟨s,t,e⟩:=List.append_of_mem hc;rw [e];simp only [Zmq,Zn7,Zmd];omega
 omega
theorem Z7c {Y:World} {t:TypeId} {cs:List Value} {k:Nat} (hk:Y.heap.size=k) : ∀(j:Nat) (u:Value),cs[j]? = some u→(Y.alloc (.cells cs.toArray t)).cell? ((⟨k,0,none⟩:Addr).add j)=some u:=by
 subst hk;exact Zmu (heap_alloc_new _ _)
def strC (s:ByteArray):List Value:=[.string s]
theorem Zax (s:ByteArray):(strC s).length=1:=rfl
theorem Zlg (l:List ByteArray) : ∀u∈l.flatMap strC,u.oneCell'=true:=by
 intro u hu;obtain ⟨s,_,h⟩:=List.mem_flatMap.1 hu;simp only [strC,Zms,Zmw,or_false] at h;subst h;rfl
theorem Zj8:(Tryz.prog.info? 9).map (fun i=>(i.zero,i.size,i.bytes))=some (some (.string ⟨#[]⟩),1,16):=by kernel_rfl
theorem Zm1 {D:Nat→Prop} {w:World} {A:Option Addr} {c k:Nat} {l:List ByteArray} (h:RowR Z5z D w A c l) (hk:k<l.length) : ∃g off,A=some ⟨g,off,none⟩∧g<w.heap.size∧w.cell? ⟨g,off+k,none⟩=some (.string l[k]):=by
 obtain ⟨g,off,cs,hA,hD,hg,hr,hc⟩:=h.at_ hk;have hr2:cs = [.string l[k]]:=hr;subst hr2;exact ⟨g,off,hA,hg,by simpa [Z5z,RepT.flat] using hc 0 _ rfl⟩
theorem Z4f {w:World} {A:Option Addr} {c n:Nat} {l:List ByteArray} (hn:l.length=n) (h:w.ownsRow 0 9 1 (.slice A n c) n (l.flatMap strC)):RowR Z5z (fun _=>True) w A c l:=by
 subst hn;exact RowR.of_rd (Z0x Zax h) (fun _ _=>trivial)
def inB (l:List ByteArray) (v:ByteArray):Bool:=l.any fun s=>decide (s.toList=v.toList)
end
section
open Go.RowKit Go.Shelf
attribute [local go_sem] Oper.semAt_some
theorem Zj5 (l:List ByteArray) (x y:ByteArray):has Z0g (put Z0g l x) y=(has Z0g l y || (Z0g x y == 0)):=by
 rw [Zns,Znp,beq_iff_eq,Z4m];unfold put
 split
 · rename_i h
   constructor
   · exact .inl
   · rintro (h2 | rfl)
     · exact h2
     · exact h
 · rw [Z4w,Z4w]
   constructor
   · rintro ⟨z,hz,e⟩
     rcases Znh.1 hz with hz | hz
     · exact .inl ⟨z,(Z3r.1 hz).1,e⟩
     · rcases Zms.1 hz with rfl | hz
       · exact .inr (Z4m.1 e)
       · exact .inl ⟨z,(Z3q.1 hz).1,e⟩
   · rintro (⟨z,hz,e⟩ | rfl)
     · refine ⟨z,?_,e⟩
       rcases Int.lt_trichotomy (Z0g z x) 0 with h1 | h1 | h1
       · exact Znh.2 (.inl (Z3r.2 ⟨hz,h1⟩))
       · rw [Z4m] at h1;subst h1;simp
       · exact Znh.2 (.inr (Zms.2 (.inr (Z3q.2 ⟨hz,h1⟩))))
     · exact ⟨x,by simp,Z4m.2 rfl⟩
def KRel (K:Kn) (l:List ByteArray):Prop:=∀v,hasK K v=inB l v
theorem KRel.inner {K:Kn} {l:List ByteArray} (h:KRel K l):KRel (K.1,[]) l:=h
theorem KRel.nil:KRel ([],[]) []:=fun _=>rfl
theorem KRel.met {K:Kn} {l:List ByteArray} (h:KRel K l) (v:ByteArray):KRel (metK K v) (l ++ [v]):=fun u=>by
 show has Z0g (put Z0g K.1 v) u=_;rw [Zj5,show has Z0g K.1 u=inB l u from h u];unfold inB;rw [List.any_append];congr 1;rw [Zns,beq_iff_eq,Z4m];simp only [List.any_cons,List.any_nil,Bool.or_false,Zno];exact ⟨fun e=>by rw [e],fun e=>toList_inj e⟩
theorem KRel.again {K:Kn} {l:List ByteArray} (h:KRel K l) {v:ByteArray} (hv:inB l v=true):KRel (metK K v) l:=fun u=>by
 show has Z0g (put Z0g K.1 v) u=_;have:put Z0g K.1 v=K.1:=if_pos ((h v).trans hv);rw [this];exact h u
theorem Z5q : ∀(k:Kn) (a b:List Z1t),Z0u k (a++b)=if (Z0u k a).1=true then Z0u (Z0u k a).2 b else (false,(Z0u k a).2)
 | k,[],b=>by simp [Z0u]
 | k,t :: a,b=>by
   rw [Zn2,Z27,Z27]
   split
   · exact Z5q k a b
   · split
     · exact Z5q _ a b
     · split
       · exact Z5q k a b
       · rfl
theorem Zal (k:Kn) (c:Z08):oneK k c=if hasK (if c.goal=true then metK k c.id else k) c.id=true then ((Z0u (if c.goal=true then metK k c.id else k) (c.attr++c.value)).1,(Z0u (if c.goal=true then metK k c.id else k) (c.attr++c.value)).2) else (false,if c.goal=true then metK k c.id else k):=by
 unfold oneK;dsimp only;generalize (if c.goal=true then metK k c.id else k)=k1;by_cases h:hasK k1 c.id=true
 · rw [if_pos h,if_pos h,Z5q]
   cases hf:Z0u k1 c.attr with
   | mk b k2=>cases b<;>simp
 · rw [if_neg h,if_neg h]
theorem Z6c {D:Nat→Prop} {A:Option Addr} {c:Nat} (l:List ByteArray) (v:ByteArray) (w:World) (h:RowR Z5z D w A c l):Calls Tryz.prog 129 #[.slice A l.length c,.string v] w fun e w'=>e = .returned (.bool (inB l v))∧w=w':=by
 have H:=hid h;have hlc:=h.cap;clear h;go_enter Tryz.func129,Tryz.ntmps129;go_wp2_with fail
 go_loopw [5] (fun s wr=>∃i:Nat,s = .int .i64 i∧i≤l.length∧(∀k,(h:k<l.length)→k<i→¬l[k].toList=v.toList)∧wr=w) (fun s wr=>l.length - (intOf s).toNat)
 case atStart=>exact ⟨0,rfl,Nat.zero_le _,fun k _ h=>absurd h (by omega),rfl⟩
 case round=>
  obtain ⟨i,rfl,hi,hall,rfl⟩:=hrel;have HALL:=hid hall;clear hall;by_cases hlt:i<l.length
  · obtain ⟨x,hx⟩ : ∃x,x=l[i]:=⟨_,rfl⟩
    obtain ⟨g,off,rfl,hgs,q0⟩:=Zm1 H.out hlt;rw [← hx] at q0;(have b1:(0:Int)≤(i:Int):=by omega);(have b2:(i:Int)<(l.length:Int):=by omega);have HX:=hid hx;clear hx;by_cases he:x.toList=v.toList
    · have t1:(x.toList == v.toList)=true:=by simp [he]
      (have t2:decide (x.toList=v.toList)=true:=by simp [he]);have HN:=hid (show inB l v=true from Znr.2 ⟨x,by rw [HX.out];exact Zmv hlt,t2⟩);clear he;(go_wp2_with fail);go_ret;exact ⟨by rw [HN.out];rfl,rfl⟩
    · have t1:(x.toList == v.toList)=false:=by simp [he]
      (have t2:decide (x.toList=v.toList)=false:=by simp [he]);have HE:=hid he;clear he;(go_wp2_with fail);go_roundw
      case rel=>
       refine ⟨i+1,by go_num,by omega,fun k h hk=>?_,by trivial⟩;rcases Nat.lt_or_ge k i with h3 | h3
       · exact HALL.out k h h3
       · obtain rfl:k=i:=by omega
         rw [← HX.out];exact HE.out
      case measure=>simp [intOf]<;>omega
  · have hie:i=l.length:=by omega
    subst hie
    have HN:=hid (show inB l v=false by
     unfold inB;rw [List.any_eq_false];intro x hx;obtain ⟨k,hk,rfl⟩:=List.getElem_of_mem hx
     simpa using HALL.out k hk hk)
    (go_wp2_with fail);go_ret;exact ⟨by rw [HN.out];rfl,rfl⟩
theorem Zle {D:Nat→Prop} {A:Option Addr} {c:Nat} (a:Z2j) (K:Kn) (l:List ByteArray) (w:World) (h:RowR Z5z D w A c l) (hk:KRel K l):Calls Tryz.prog 79 #[.agg #[.string a.var,.int .i64 a.sym.kind,.string a.sym.text,.int .i64 a.sym.n],.slice A l.length c] w fun e w'=>e = .returned (.bool (!Z2y K a))∧Below w.heap.size w w':=by
 have H:=hid h;have HK:=hid hk;have hlc:=h.cap;clear h hk;by_cases hv:a.var.toList = []
 · skip
   (have va:(a.var.toList == [])=true:=by simp [hv]);(have vb:a.var.toList.isEmpty=true:=by simp [hv]);(have vc:decide (a.var.toList = [])=true:=by simp [hv]);have HR:=hid (show Z2y K a=false by simp [Z2y,hv]);clear hv;go_enter Tryz.func79,Tryz.ntmps79;(go_upto_region 1 with fail);obtain ⟨w1,hw1⟩ : ∃w1,w1=(w.alloc (.cells #[.string a.var,.int .i64 a.sym.kind,.string a.sym.text,.int .i64 a.sym.n] 91)):=⟨_,rfl⟩;rw [← hw1];have HB:=hid (show Below w.heap.size w w1 by rw [hw1];exact (by repeat (first | exact Zm7 _ _ | refine Below.drew ?_ | refine Below.al ?_ _ | refine Below.sc ?_ _)));have Ka:=hid (show Blk w1 (w.heap.size) 91 #[.string a.var,.int .i64 a.sym.kind,.string a.sym.text,.int .i64 a.sym.n] by rw [hw1];exact (Blk.new w 91 #[.string a.var,.int .i64 a.sym.kind,.string a.sym.text,.int .i64 a.sym.n]));clear hw1;obtain ⟨a0,a1,a2,a3⟩:=Ka.out.c4;have az:=Ka.out.lt;(go_wp2_with fail);go_ret;exact ⟨by rw [HR.out]<;>rfl,by (repeat (first | exact Zm7 _ _ | exact HB.out | refine Below.drew ?_ | refine Below.al ?_ _ | refine Below.sc ?_ _))⟩
 · skip
   (have va:(a.var.toList == [])=false:=by simp [hv]);(have vb:a.var.toList.isEmpty=false:=by simp [hv]);(have vc:decide (a.var.toList = [])=false:=by simp [hv]);have HR:=hid (show (!Z2y K a)=inB l a.var by rw [← HK.out a.var];simp [Z2y,hv]);clear hv;go_enter Tryz.func79,Tryz.ntmps79;(go_upto_region 1 with fail);obtain ⟨w1,hw1⟩ : ∃w1,w1=(w.alloc (.cells #[.string a.var,.int .i64 a.sym.kind,.string a.sym.text,.int .i64 a.sym.n] 91)):=⟨_,rfl⟩;rw [← hw1];have HB:=hid (show Below w.heap.size w w1 by rw [hw1];exact (by repeat (first | exact Zm7 _ _ | refine Below.drew ?_ | refine Below.al ?_ _ | refine Below.sc ?_ _)));have Ka:=hid (show Blk w1 (w.heap.size) 91 #[.string a.var,.int .i64 a.sym.kind,.string a.sym.text,.int .i64 a.sym.n] by rw [hw1];exact (Blk.new w 91 #[.string a.var,.int .i64 a.sym.kind,.string a.sym.text,.int .i64 a.sym.n]));clear hw1;obtain ⟨a0,a1,a2,a3⟩:=Ka.out.c4;have az:=Ka.out.lt;obtain ⟨b,hb⟩ : ∃b,b=inB l a.var:=⟨_,rfl⟩;have hc:=fun W (hb:Below w.heap.size w W)=>Z6c l a.var W (H.out.new_ hb);rw [← hb] at HR;simp only [← hb] at hc;have HC:=hid hc;clear hc hb;(go_wp2_with fail);(with_reducible refine (HC.out _ (by (repeat (first | exact Zm7 _ _ | exact HB.out | refine Below.drew ?_ | refine Below.al ?_ _ | refine Below.sc ?_ _)))).mono ?_);rintro e w0 ⟨rfl,rfl⟩;(go_wp2_with fail);go_ret;exact ⟨by rw [HR.out]<;>rfl,by (repeat (first | exact Zm7 _ _ | exact HB.out | refine Below.drew ?_ | refine Below.al ?_ _ | refine Below.sc ?_ _))⟩
abbrev V6:={cs:List Value // cs.length=6∧∀u∈cs,u.oneCell'=true}
theorem Z9t (v:V6):(v.1).length=6:=v.2.1
theorem Zey (l:List V6) : ∀u∈l.flatMap (·.1),u.oneCell'=true:=fun u hu=>by
 obtain ⟨v,_,h⟩:=List.mem_flatMap.1 hu;exact v.2.2 u h
def Raw6 (l:List Z1t) (xs:List V6):Prop:=xs.map (fun v=>(v.1[0]?,v.1[1]?))=l.map (fun t=>(some (Value.int .i64 t.rel),some (Value.string t.var)))
theorem Raw6.app {l m:List Z1t} {xs ys:List V6} (h1:Raw6 l xs) (h2:Raw6 m ys):Raw6 (l++m) (xs++ys):=by
 unfold Raw6 at *;rw [Znd,Znd,h1,h2]
theorem Raw6.len {l:List Z1t} {xs:List V6} (h:Raw6 l xs):xs.length=l.length:=by
 have:=congrArg List.length h;simpa using this
theorem Raw6.get {l:List Z1t} {xs:List V6} (h:Raw6 l xs) {k:Nat} (hk:k<l.length) (hk2:k<xs.length):xs[k].1[0]? = some (.int .i64 l[k].rel)∧xs[k].1[1]? = some (.string l[k].var):=by
 have:=congrArg (·[k]?) h;simp only [List.getElem?_map,Zmc hk,Zmc hk2,Zmo,Option.some.injEq,Prod.mk.injEq] at this;exact this
theorem Zc9 {D:Nat→Prop} {w:World} {A:Option Addr} {c:Nat} {l:List Z1t} (h:RowR Z01 D w A c l) : ∃xs:List V6,Raw6 l xs∧Z18 w 6 (·.1) A c xs:=by
 by_cases h0:0<l.length
 · obtain ⟨b,off,hA,_,hb,hall⟩:=h.2.2 h0
   have hex : ∀i:Fin l.length,∃v:V6,v.1[0]? = some (.int .i64 l[i].rel)∧v.1[1]? = some (.string l[i].var)∧∀j u,v.1[j]? = some u→w.cell? ⟨b,off+i*6+j,none⟩=some u:=fun i=>by
    obtain ⟨cs,⟨A1,c1,hcs,_⟩,hc⟩:=hall i i.2;subst hcs;refine ⟨⟨_,by rfl,by simp [Value.oneCell']⟩,rfl,rfl,fun j u hu=>hc j u hu⟩
   refine ⟨List.ofFn fun i=>Classical.choose (hex i),?_,?_⟩
   · unfold Raw6
     apply List.ext_getElem
     · simp
     · intro k hk hk2
       simp only [Znm,List.length_ofFn] at hk;simp only [List.getElem_map,List.getElem_ofFn];obtain ⟨g1,g2,_⟩:=Classical.choose_spec (hex ⟨k,hk⟩);rw [g1,g2];rfl
   · refine ⟨by simpa using h.1,h.2.1,fun _=>⟨b,off,hA,hb,fun k hk j u hu=>?_⟩⟩
     simp only [List.length_ofFn] at hk;simp only [List.getElem_ofFn] at hu;exact (Classical.choose_spec (hex ⟨k,hk⟩)).2.2 j u hu
 · have:l = []:=Zn3.1 (by omega)
   subst this;exact ⟨[],rfl,by simp,h.2.1,fun h=>absurd h (by simp)⟩
theorem Zew {t:Z1t} (h:Z16 t=true) (h8:t.rel=8):t.var.toList = []:=by
 unfold Z16 at h;rw [if_pos h8] at h;simp only [Zmy,Zno] at h;exact h.1.1.1.1
theorem Zh5:(Tryz.prog.info? 138).map (fun i=>(i.zero,i.size,i.bytes))=some (some (.agg #[.int .i64 0,.string ⟨#[]⟩,.int .i64 0,.string ⟨#[]⟩,.int .i64 0,.slice none 0 0]),6,80):=by kernel_rfl
end
end Go.Proofs.YtfidcfjcmlgkbaaGreat
