/-
  Texts put together: KeepHeavy, BkCopy1, BkTests, BkCopyP, BkTests2, BkCopyK.
-/
import Derived.Test.YtldndkngpdfpfaaGreatPGn
namespace Go.Proofs.YtldndkngpdfpfaaGreat
open Lib (hid)
set_option maxRecDepth 100000
set_option maxHeartbeats 32000000
section
open Go.RowKit Go.Shelf
def goK (most:Nat) (f:Z0m→Nat):List Z0m→Nat→Nat
 | [],s=>s
 | c :: l,s=>if s≤most then goK most f l (s+(1+f c)) else s
def Z3j (most:Nat):Nat→Nat→List Z0m→Nat
 | 0,d,l=>if 20<d then most+1 else if l = [] then 0 else most+1
 | n+1,d,l=>if 20<d then most+1 else min (goK most (fun c=>Z3j most n (d+1) c.conds) l 0) (most+1)
theorem Zgj (most:Nat) (f:Z0m→Nat) : ∀(l:List Z0m) (s:Nat),s≤goK most f l s
 | [],s=>Zi3 _
 | c :: l,s=>by
   rw [goK]
   split
   · have:=Zgj most f l (s+(1+f c));omega
   · omega
theorem Zd2 (most:Nat) (f:Z0m→Nat) : ∀(l:List Z0m) (s:Nat),goK most f l s≤most→goK most f l s=s+(l.map fun c=>1+f c).sum∧∀c∈l,f c≤most
 | [],s,_=>by simp [goK]
 | c :: l,s,h=>by
   rw [goK] at h ⊢;by_cases hs:s≤most
   · rw [if_pos hs] at h ⊢
     obtain ⟨h1,h2⟩:=Zd2 most f l _ h;have:=Zgj most f l (s+(1+f c));refine ⟨by rw [h1,List.map_cons,List.sum_cons];omega,fun x hx=>?_⟩;rcases Zij.1 hx with rfl | hx
     · omega
     · exact h2 x hx
   · rw [if_neg hs] at h
     omega
theorem Zax (most:Nat) (f:Z0m→Nat) : ∀(l:List Z0m) (c:Z0m) (s:Nat),goK most f (l ++ [c]) s=if goK most f l s≤most then goK most f l s+(1+f c) else goK most f l s
 | [],c,s=>rfl
 | x :: l,c,s=>by
   rw [Zje,goK,goK];by_cases hs:s≤most
   · rw [if_pos hs,if_pos hs,Zax most f l c]
   · rw [if_neg hs,if_neg hs,if_neg hs]
theorem Zay (most:Nat) (f:Z0m→Nat) : ∀(l m:List Z0m) (s:Nat),¬goK most f l s≤most→goK most f (l++m) s=goK most f l s
 | [],m,s,h=>by
   rw [goK] at h
   cases m with
   | nil=>rfl
   | cons c m=>simp only [Zj6,goK];rw [if_neg h]
 | x :: l,m,s,h=>by
   rw [Zje,goK,goK];rw [goK] at h;by_cases hs:s≤most
   · rw [if_pos hs,if_pos hs]
     rw [if_pos hs] at h;exact Zay most f l m _ h
   · rw [if_neg hs,if_neg hs]
def Z30 (t:Z0i):Bool:=decide (20<t.list.length) || (decide (100<t.var.size) || decide (100<t.sym.text.size))
def Z3c (c:Z0m):Bool:=decide (100<c.id.size) || (decide (10<c.attr.length) || (decide (10<c.value.length) || (c.attr.any Z30 || c.value.any Z30)))
def Z3z:Nat→List Z0m→Bool
 | 0,_=>false
 | n+1,l=>l.any fun c=>Z3c c || Z3z n c.conds
theorem Z1u {D:Nat→Prop} {A:Option Addr} {c:Nat} (l:List Z0i) (w:World) (h:RowR Z0d D w A c l):Calls Tryz.prog 136 #[.slice A l.length c] w fun e w'=>e = .returned (.bool (l.any Z30))∧w=w':=by
 have H:=hid h;have hlc:=h.cap;clear h;go_enter Tryz.func136,Tryz.ntmps136;go_wp2_with fail
 go_loopw [3] (fun s wr=>∃i:Nat,s = .int .i64 i∧i≤l.length∧(∀k,(h:k<l.length)→k<i→Z30 l[k]=false)∧wr=w) (fun s wr=>l.length - (intOf s).toNat)
 case atStart=>exact ⟨0,rfl,Nat.zero_le _,fun k _ h=>absurd h (by omega),rfl⟩
 case round=>
  obtain ⟨i,rfl,hi,hall,rfl⟩:=hrel;have HALL:=hid hall;clear hall;by_cases hlt:i<l.length
  · obtain ⟨x,hx⟩ : ∃x,x=l[i]:=⟨_,rfl⟩
    obtain ⟨g,off,A1,c1,rfl,_,hgs,q0,q1,q2,q3,q4,q5,hr⟩:=Z4y H.out hlt;rw [← hx] at q0 q1 q2 q3 q4 q5 hr;have hcap:=hr.cap;(have b1:(0:Int)≤(i:Int):=by omega);(have b2:(i:Int)<(l.length:Int):=by omega);have HX:=hid hx;have HYES:=hid (show Z30 x=true→l.any Z30=true from fun h=>Zj2.2 ⟨x,by rw [HX.out];exact Zin hlt,h⟩);clear hx hr;cases t1:decide (20<x.list.length)
    · cases t2:decide (100<x.var.size)
      · cases t3:decide (100<x.sym.text.size)
        · have s1:decide ((20:Int)<(x.list.length:Int))=false:=by simp at t1 ⊢;omega
          (have s2:decide ((100:Int)<(x.var.size:Int))=false:=by simp at t2 ⊢;omega);(have s3:decide ((100:Int)<(x.sym.text.size:Int))=false:=by simp at t3 ⊢;omega);have HN:=hid (show Z30 x=false by simp [Z30,t1,t2,t3]);clear t1 t2 t3;(go_wp2_with fail);go_roundw
          case rel=>
           refine ⟨i+1,by go_num,by omega,fun k h hk=>?_,by trivial⟩;rcases Nat.lt_or_ge k i with h3 | h3
           · exact HALL.out k h h3
           · obtain rfl:k=i:=by omega
             rw [← HX.out];exact HN.out
          case measure=>simp [intOf]<;>omega
        · have s1:decide ((20:Int)<(x.list.length:Int))=false:=by simp at t1 ⊢;omega
          (have s2:decide ((100:Int)<(x.var.size:Int))=false:=by simp at t2 ⊢;omega);(have s3:decide ((100:Int)<(x.sym.text.size:Int))=true:=by simp at t3 ⊢;omega);have HN:=hid (HYES.out (by simp [Z30,t3]));clear t1 t2 t3;(go_wp2_with fail);go_ret;exact ⟨by rw [HN.out];rfl,rfl⟩
      · have s1:decide ((20:Int)<(x.list.length:Int))=false:=by simp at t1 ⊢;omega
        (have s2:decide ((100:Int)<(x.var.size:Int))=true:=by simp at t2 ⊢;omega);have HN:=hid (HYES.out (by simp [Z30,t2]));clear t1 t2;(go_wp2_with fail);go_ret;exact ⟨by rw [HN.out];rfl,rfl⟩
    · have s1:decide ((20:Int)<(x.list.length:Int))=true:=by simp at t1 ⊢;omega
      have HN:=hid (HYES.out (by simp [Z30,t1]));clear t1;(go_wp2_with fail);go_ret;exact ⟨by rw [HN.out];rfl,rfl⟩
  · have hie:i=l.length:=by omega
    subst hie
    have HN:=hid (show l.any Z30=false by
     rw [List.any_eq_false];intro x hx;obtain ⟨k,hk,rfl⟩:=List.getElem_of_mem hx
     simp [HALL.out k hk hk])
    (go_wp2_with fail);go_ret;exact ⟨by rw [HN.out];rfl,rfl⟩
theorem Zh9 (most:Nat) (hm:most≤1000) : ∀(n:Nat) (D:Nat→Prop) (A:Option Addr) (c:Nat) (d:Nat) (l:List Z0m) (w:World),RowR (Z0g n) D w A c l→d≤21→
 Calls Tryz.prog 91 #[.slice A l.length c,.int .i64 (most:Int),.int .i64 (d:Int)] w fun e w'=>e = .returned (.int .i64 (Z3j most n d l:Int))∧w=w':=by
 intro n
 induction n with
 | zero=>
   intro D A c d l w h hd
   have hl0:l = []:=by
    cases l with
    | nil=>rfl
    | cons x l=>
      obtain ⟨b,off,cs,_,_,_,hr,_⟩:=h.at_ (k:=0) (by simp);exact hr.elim
   subst hl0;clear h;by_cases h20:20<d
   · have t1:decide ((20:Int)<(d:Int))=true:=by simp;omega
     have v1:IntKind.i64.wrap ((most:Int)+1)=(most:Int)+1:=Zih _ (by omega);have HR:=hid (show ((Z3j most 0 d []:Nat):Int)=(most:Int)+1 by rw [Z3j,if_pos h20];rfl);clear h20;go_enter Tryz.func91,Tryz.ntmps91;(go_wp2_with fail);go_ret;exact ⟨by rw [HR.out];rfl,rfl⟩
   · have t1:decide ((20:Int)<(d:Int))=false:=by simp;omega
     have v1:IntKind.i64.wrap ((most:Int)+1)=(most:Int)+1:=Zih _ (by omega);have HR:=hid (show ((Z3j most 0 d []:Nat):Int)=0 by rw [Z3j,if_neg h20,if_pos rfl];rfl);(have hmin:min (0:Int) ((most:Int)+1)=0:=by omega);clear h20;go_enter Tryz.func91,Tryz.ntmps91;go_wp2_with fail
     go_loopw [7,8] (fun a s wr=>s = .int .i64 0∧a = .int .i64 0∧wr=w) (fun a s wr=>0)
     case atStart=>exact ⟨rfl,rfl,rfl⟩
     case round=>
      obtain ⟨rfl,rfl,rfl⟩:=hrel;(go_wp2_with fail);go_ret;exact ⟨by rw [HR.out];rfl,rfl⟩
 | succ n ih=>
   intro D A c d l w h hd;have IH:=hid ih;have H:=hid h;have hlc:=h.cap;clear h ih;have v1:IntKind.i64.wrap ((most:Int)+1)=(most:Int)+1:=Zih _ (by omega);by_cases h20:20<d
   · have t1:decide ((20:Int)<(d:Int))=true:=by simp;omega
     have HR:=hid (show ((Z3j most (n+1) d l:Nat):Int)=(most:Int)+1 by rw [Z3j,if_pos h20];rfl);clear h20;go_enter Tryz.func91,Tryz.ntmps91;(go_wp2_with fail);go_ret;exact ⟨by rw [HR.out];rfl,rfl⟩
   · have t1:decide ((20:Int)<(d:Int))=false:=by simp;omega
     obtain ⟨f,hf⟩ : ∃f:Z0m→Nat,f=fun c=>Z3j most n (d+1) c.conds:=⟨_,rfl⟩
     have hfle : ∀c,f c≤most+1:=fun c=>by
      rw [hf]
      cases n with
      | zero=>simp only [Z3j];split;omega;split<;>omega
      | succ n=>simp only [Z3j];split;omega;omega
     have HFLE:=hid hfle;have HR:=hid (show ((Z3j most (n+1) d l:Nat):Int)=min ((goK most f l 0:Nat):Int) ((most:Int)+1) by rw [Z3j,if_neg h20,← hf];omega);have HF:=hid hf;(have hd20:d≤20:=by omega);clear h20 hfle hf;go_enter Tryz.func91,Tryz.ntmps91;go_wp2_with fail
     go_loopw [7,8] (fun a s wr=>∃i:Nat,s = .int .i64 i∧i≤l.length∧a = .int .i64 ((goK most f (l.take i) 0:Nat):Int)∧goK most f (l.take i) 0≤2*most+2∧wr=w) (fun a s wr=>l.length - (intOf s).toNat)
     case atStart=>exact ⟨0,rfl,Nat.zero_le _,rfl,by simp [goK],rfl⟩
     case round=>
      obtain ⟨i,rfl,hi,rfl,hle,rfl⟩:=hrel;obtain ⟨s,hs⟩ : ∃s,s=goK most f (l.take i) 0:=⟨_,rfl⟩;rw [← hs] at hle ⊢;have HS:=hid hs;clear hs;by_cases hlt:i<l.length
      · by_cases hsm:s≤most
        · have t2:decide ((s:Int)≤(most:Int))=true:=by simp;omega
          obtain ⟨x,hx⟩ : ∃x,x=l[i]:=⟨_,rfl⟩;obtain ⟨g,off,A1,c1,A2,c2,A3,c3,rfl,_,hgs,q0,q1,q2,q3,q4,q5,q6,r1,r2,r3⟩:=Z2t H.out hlt;rw [← hx] at q6 r3;have HR3:=hid r3;have hn3:=r3.cap;(have b1:(0:Int)≤(i:Int):=by omega);(have b2:(i:Int)<(l.length:Int):=by omega);obtain ⟨y,hy⟩ : ∃y,y=f x:=⟨_,rfl⟩;have hyle:y≤most+1:=by rw [hy];exact HFLE.out x
          have HCL:=hid (show Calls Tryz.prog 91 #[.slice A3 x.conds.length c3,.int .i64 (most:Int),.int .i64 ((d:Int)+1)] wr fun e w'=>e = .returned (.int .i64 (y:Int))∧wr=w' by
           have:=IH.out D A3 c3 (d+1) x.conds wr HR3.out (by omega);rw [hy,HF.out]
           exact this)
          have HN:=hid (show goK most f (l.take (i+1)) 0=s+(1+y) by
           rw [List.take_succ_eq_append_getElem hlt,Zax,← HS.out,if_pos hsm,← hx,hy])
          have v2:IntKind.i64.wrap ((d:Int)+1)=(d:Int)+1:=Zih _ (by omega);have v3:IntKind.i64.wrap (1+(y:Int))=1+(y:Int):=Zih _ (by omega);have v4:IntKind.i64.wrap ((s:Int)+(1+(y:Int)))=(s:Int)+(1+(y:Int)):=Zih _ (by omega);clear hx hy r1 r2 r3 q0 q1 q2 q3 q4 q5;(go_wp2_with fail);refine HCL.out.mono ?_;rintro e w2 ⟨rfl,rfl⟩;(go_wp2_with fail);go_roundw
          case rel=>exact ⟨i+1,by go_num,by omega,by rw [HN.out];simp,by rw [HN.out];omega,by trivial⟩
          case measure=>simp [intOf]<;>omega
        · have t2:decide ((s:Int)≤(most:Int))=false:=by simp;omega
          (have b2:(i:Int)<(l.length:Int):=by omega);have hmin:min (s:Int) ((most:Int)+1)=(most:Int)+1:=by omega
          have HN:=hid (show goK most f l 0=s by
           have:=Zay most f (l.take i) (l.drop i) 0 (by rw [← HS.out];exact hsm)
           rwa [List.take_append_drop,← HS.out] at this)
          clear hsm;(go_wp2_with fail);go_ret;exact ⟨by rw [HR.out,HN.out,hmin];rfl,rfl⟩
      · have hie:i=l.length:=by omega
        subst hie;have HN:=hid (show goK most f l 0=s by rw [HS.out,Zis]);obtain ⟨z,hz⟩ : ∃z,z=min (s:Int) ((most:Int)+1):=⟨_,rfl⟩;have HZ:=hid hz;clear hz;(go_wp2_with fail);go_ret;exact ⟨by rw [HR.out,HN.out];rfl,rfl⟩
theorem Z6i (n:Nat) (l:List Z0m):Z3z (n+1) l=l.any fun c=>Z3c c || Z3z n c.conds:=rfl
theorem Z7u : ∀(n:Nat) (D:Nat→Prop) (A:Option Addr) (c:Nat) (l:List Z0m) (w:World),RowR (Z0g n) D w A c l→
 Calls Tryz.prog 92 #[.slice A l.length c] w fun e w'=>e = .returned (.bool (Z3z n l))∧Below w.heap.size w w':=by
 intro n
 induction n with
 | zero=>
   intro D A c l w h
   have hl0:l = []:=by
    cases l with
    | nil=>rfl
    | cons x l=>
      obtain ⟨b,off,cs,_,_,_,hr,_⟩:=h.at_ (k:=0) (by simp);exact hr.elim
   subst hl0;clear h;go_enter Tryz.func92,Tryz.ntmps92;go_wp2_with fail
   go_loopw [3] (fun s wr=>s = .int .i64 0∧wr=w) (fun s wr=>0)
   case atStart=>exact ⟨rfl,rfl⟩
   case round=>
    obtain ⟨rfl,rfl⟩:=hrel;(go_wp2_with fail);go_ret;exact ⟨rfl,Zi2 _ _⟩
 | succ n ih=>
   intro D A c l w h;have IH:=hid ih;have H:=hid h;have hlc:=h.cap;clear h ih;obtain ⟨R,hR⟩ : ∃R,R=Z3z (n+1) l:=⟨_,rfl⟩;rw [← hR];have HR:=hid (show R=l.any fun c=>Z3c c || Z3z n c.conds by rw [hR,Z6i]);clear hR;go_enter Tryz.func92,Tryz.ntmps92;go_wp2_with fail
   go_loopw [3] (fun s wr=>∃i:Nat,s = .int .i64 i∧i≤l.length∧(∀k,(h:k<l.length)→k<i→(Z3c l[k] || Z3z n l[k].conds)=false)∧Below w.heap.size w wr) (fun s wr=>l.length - (intOf s).toNat)
   case atStart=>exact ⟨0,rfl,Nat.zero_le _,fun k _ h=>absurd h (by omega),Zi2 _ _⟩
   case round=>
    obtain ⟨i,rfl,hi,hall,hB⟩:=hrel;have HALL:=hid hall;have HB0:=hid hB;clear hall hB;by_cases hlt:i<l.length
    · obtain ⟨x,hx⟩ : ∃x,x=l[i]:=⟨_,rfl⟩
      obtain ⟨g,off,A1,c1,A2,c2,A3,c3,rfl,_,hgs,q0,q1,q2,q3,q4,q5,q6,r1,r2,r3⟩:=Z2t (H.out.new_ HB0.out) hlt;rw [← hx] at q0 q1 q2 q3 q4 q5 q6 r1 r2 r3;have HR1:=hid r1;have HR2:=hid r2;have HR3:=hid r3;have hn1:=r1.cap;have hn2:=r2.cap;have hn3:=r3.cap;(have b1:(0:Int)≤(i:Int):=by omega);(have b2:(i:Int)<(l.length:Int):=by omega);have HX:=hid hx;have HYES:=hid (show (Z3c x || Z3z n x.conds)=true→R=true from fun h=>by rw [HR.out];exact Zj2.2 ⟨x,by rw [HX.out];exact Zin hlt,h⟩);have hsz:=HB0.out.size;clear hx r1 r2 r3;(go_upto_region 5 with fail);obtain ⟨X,hX⟩ : ∃X,X=wr.alloc (.cells #[.int .i64 x.kind,.bool x.goal,.string x.id,.slice A1 x.attr.length c1,.slice A2 x.value.length c2,.bool x.acc,.slice A3 x.conds.length c3] 62):=⟨_,rfl⟩;rw [← hX];(have hbX:Below wr.heap.size wr X:=by rw [hX];exact (Zi2 _ _).alloc (Zi3 _) _);have Kx:=hid (show Blk X wr.heap.size 62 #[.int .i64 x.kind,.bool x.goal,.string x.id,.slice A1 x.attr.length c1,.slice A2 x.value.length c2,.bool x.acc,.slice A3 x.conds.length c3] by rw [hX];exact Blk.new _ _ _);have HB:=hid hbX;have HBW:=hid (HB0.out.trans (hbX.mono hsz));clear hX hbX q0 q1 q2 q3 q4 q5 q6;obtain ⟨-,-,x2,x3,x4,-,x6⟩:=Kx.out.c7;have xz:=Kx.out.lt;cases t1:decide (100<x.id.size)
      · skip
        cases t2:decide (10<x.attr.length)
        · skip
          cases t3:decide (10<x.value.length)
          · skip
            (have s1:decide ((100:Int)<(x.id.size:Int))=false:=by simp at t1 ⊢;omega);(have s2:decide ((10:Int)<(x.attr.length:Int))=false:=by simp at t2 ⊢;omega);(have s3:decide ((10:Int)<(x.value.length:Int))=false:=by simp at t3 ⊢;omega);cases t4:x.attr.any Z30
            · skip
              cases t5:x.value.any Z30
              · skip
                cases t6:Z3z n x.conds
                · skip
                  have hc1:=Z1u x.attr X (HR1.out.new_ HB.out);rw [t4] at hc1;have HC1:=hid hc1;clear hc1;have hc2:=Z1u x.value X (HR2.out.new_ HB.out);rw [t5] at hc2;have HC2:=hid hc2;clear hc2;have hc3:=IH.out D A3 c3 x.conds X (HR3.out.new_ HB.out);rw [t6] at hc3;have HC3:=hid hc3;clear hc3;have HN:=hid (show (Z3c x || Z3z n x.conds)=false by simp [Z3c,t1,t2,t3,t4,t5,t6]);clear t1 t2 t3 t4 t5 t6;(go_wp2_with fail);refine HC1.out.mono ?_;rintro e w9 ⟨rfl,rfl⟩;(go_wp2_with fail);refine HC2.out.mono ?_;rintro e w9 ⟨rfl,rfl⟩;(go_wp2_with fail);refine HC3.out.mono ?_;rintro e w5 ⟨rfl,hb5⟩;have HB5:=hid (HBW.out.trans (hb5.mono HBW.out.size));clear hb5;clear x2 x3 x4 x6;(go_wp2_with fail);go_roundw
                  case rel=>
                   refine ⟨i+1,by go_num,by omega,fun k h hk=>?_,HB5.out⟩;rcases Nat.lt_or_ge k i with h3 | h3
                   · exact HALL.out k h h3
                   · obtain rfl:k=i:=by omega
                     rw [← HX.out];exact HN.out
                  case measure=>simp [intOf]<;>omega
                · skip
                  have hc1:=Z1u x.attr X (HR1.out.new_ HB.out);rw [t4] at hc1;have HC1:=hid hc1;clear hc1;have hc2:=Z1u x.value X (HR2.out.new_ HB.out);rw [t5] at hc2;have HC2:=hid hc2;clear hc2;have hc3:=IH.out D A3 c3 x.conds X (HR3.out.new_ HB.out);rw [t6] at hc3;have HC3:=hid hc3;clear hc3;have HN:=hid (HYES.out (by simp [t6]));clear t1 t2 t3 t4 t5 t6;(go_wp2_with fail);refine HC1.out.mono ?_;rintro e w9 ⟨rfl,rfl⟩;(go_wp2_with fail);refine HC2.out.mono ?_;rintro e w9 ⟨rfl,rfl⟩;(go_wp2_with fail);refine HC3.out.mono ?_;rintro e w5 ⟨rfl,hb5⟩;have HB5:=hid (HBW.out.trans (hb5.mono HBW.out.size));clear hb5;clear x2 x3 x4 x6;(go_wp2_with fail);go_ret;exact ⟨by rw [HN.out];rfl,HB5.out⟩
              · skip
                have hc1:=Z1u x.attr X (HR1.out.new_ HB.out);rw [t4] at hc1;have HC1:=hid hc1;clear hc1;have hc2:=Z1u x.value X (HR2.out.new_ HB.out);rw [t5] at hc2;have HC2:=hid hc2;clear hc2;have HN:=hid (HYES.out (by simp [Z3c,t5]));clear t1 t2 t3 t4 t5;(go_wp2_with fail);refine HC1.out.mono ?_;rintro e w9 ⟨rfl,rfl⟩;(go_wp2_with fail);refine HC2.out.mono ?_;rintro e w9 ⟨rfl,rfl⟩;(go_wp2_with fail);go_ret;exact ⟨by rw [HN.out];rfl,HBW.out⟩
            · skip
              have hc1:=Z1u x.attr X (HR1.out.new_ HB.out);rw [t4] at hc1;have HC1:=hid hc1;clear hc1;have HN:=hid (HYES.out (by simp [Z3c,t4]));clear t1 t2 t3 t4;(go_wp2_with fail);refine HC1.out.mono ?_;rintro e w9 ⟨rfl,rfl⟩;(go_wp2_with fail);go_ret;exact ⟨by rw [HN.out];rfl,HBW.out⟩
          · skip
            (have s1:decide ((100:Int)<(x.id.size:Int))=false:=by simp at t1 ⊢;omega);(have s2:decide ((10:Int)<(x.attr.length:Int))=false:=by simp at t2 ⊢;omega);(have s3:decide ((10:Int)<(x.value.length:Int))=true:=by simp at t3 ⊢;omega);have HN:=hid (HYES.out (by simp [Z3c,t3]));clear t1 t2 t3;(go_wp2_with fail);go_ret;exact ⟨by rw [HN.out];rfl,HBW.out⟩
        · skip
          (have s1:decide ((100:Int)<(x.id.size:Int))=false:=by simp at t1 ⊢;omega);(have s2:decide ((10:Int)<(x.attr.length:Int))=true:=by simp at t2 ⊢;omega);have HN:=hid (HYES.out (by simp [Z3c,t2]));clear t1 t2;(go_wp2_with fail);go_ret;exact ⟨by rw [HN.out];rfl,HBW.out⟩
      · skip
        (have s1:decide ((100:Int)<(x.id.size:Int))=true:=by simp at t1 ⊢;omega);have HN:=hid (HYES.out (by simp [Z3c,t1]));clear t1;(go_wp2_with fail);go_ret;exact ⟨by rw [HN.out];rfl,HBW.out⟩
    · have hie:i=l.length:=by omega
      subst hie
      have HN:=hid (show R=false by
       rw [HR.out,List.any_eq_false];intro x hx;obtain ⟨k,hk,rfl⟩:=List.getElem_of_mem hx;have:=HALL.out k hk hk
       simpa using this)
      (go_wp2_with fail);go_ret;exact ⟨by rw [HN.out];rfl,HB0.out⟩
end
section
open Go.RowKit
def Z77 {α:Type} (e size:Nat) (cells:α→List Value) (l:List α) (w:World) (en:Ending) (w':World):Prop:=
 ∃A c,en = .returned (.slice A l.length c)∧w'.ownsRow 0 e size (.slice A l.length c) l.length (l.flatMap cells)∧AIn A (NewD w.heap.size w')∧Below w.heap.size w w'
theorem Z50 {α:Type} {e size:Nat} {cells:α→List Value} {l:List α} {w w':World} {v v0:Value} (hown:w'.ownsRow 0 e size v l.length (l.flatMap cells)) (hat:v.ownBlock=v0.ownBlock∨v.ownBlock=some w.heap.size) (h0:v0.ownBlock=none) (hg:w.grownBy w' v0.ownBlock) :
 ∃A c,v = .slice A l.length c∧w'.ownsRow 0 e size (.slice A l.length c) l.length (l.flatMap cells)∧AIn A (NewD w.heap.size w')∧Below w.heap.size w w':=by
 have hlt:=Z6n hown;obtain ⟨A,c,rfl,_,_,_⟩:=Z2w hown;refine ⟨A,c,rfl,hown,fun a ha=>?_,(Zi2 w.heap.size w).grown hg (Zi3 _) (fun k hk=>by rw [h0] at hk;cases hk)⟩;subst ha;rcases hat with h | h
 · rw [h0] at h;cases h
 · have:=hlt a.block rfl
   simp only [Value.ownBlock,Option.some.injEq] at h;exact ⟨by omega,this⟩
theorem Z56 (W:World) (e size:Nat):W.ownsRow 0 e size (.slice none 0 0) 0 []:=⟨by simp,.inl ⟨rfl,rfl⟩⟩
theorem Z77.row {α:Type} {e size:Nat} {cells:α→List Value} (hs : ∀a,(cells a).length=size) {l:List α} {A:Option Addr} {c B:Nat} {w':World} (h:w'.ownsRow 0 e size (.slice A l.length c) l.length (l.flatMap cells)) (hA:AIn A (NewD B w')):RowR (RepT.flat size cells hs) (NewD B w') w' A c l:=RowR.of_rd (Z08 hs h) hA
theorem Z8l (A:Option Addr) (c:Nat) (l:List Sym) (w:World) (hrd:Z0h w 3 Sym.cells A c l) (hl:(l.length:Int)≤100000) :
 Calls Tryz.prog 97 #[.slice A l.length c] w (Z77 23 3 Sym.cells l w):=by
 obtain ⟨i0,hi0,hz0,hz1,hz2⟩:=infp Za3;have HRD:=hid hrd;have hlc:=hrd.cap;have hlcc:=hrd.1;clear hrd;go_enter Tryz.func97,Tryz.ntmps97;(go_wp2_with (at_builtin;refine Z03 w rfl (.const (.slice none 0 0)) (.tmp 3) 36 rfl 23 i0 _ 3 32 Tryz.underlying36 hi0 hz0 hz1 hz2 rfl (by omega) (.slice none 0 0) 0 [] rfl (Z56 w _ _) A l.length c (l.flatMap Sym.cells) rfl (Z13 Sym.cells_length _) (HRD.out.news Sym.cells_length (by omega)) (Zh5 _) (by unfold maxLen;omega) (by omega) ?_;intro v1 w2 hown1 hg1 hnil1 hat1));go_ret;rw [Ziu,Zj6] at hown1;obtain ⟨A',c',rfl,h1,h2,h3⟩:=Z50 hown1 hat1 rfl hg1;exact ⟨A',c',rfl,h1,h2,h3⟩
theorem Zgz (A:Option Addr) (c:Nat) (l:List Z0w) (w:World) (hrd:Z0h w 4 Z0w.cells A c l) (hl:(l.length:Int)≤100000) :
 Calls Tryz.prog 99 #[.slice A l.length c] w (Z77 176 4 Z0w.cells l w):=by
 obtain ⟨i0,hi0,hz0,hz1,hz2⟩:=infp Zfh;have HRD:=hid hrd;have hlc:=hrd.cap;have hlcc:=hrd.1;clear hrd;go_enter Tryz.func99,Tryz.ntmps99;(go_wp2_with (at_builtin;refine Z03 w rfl (.const (.slice none 0 0)) (.tmp 3) 53 rfl 176 i0 _ 4 48 Tryz.underlying53 hi0 hz0 hz1 hz2 rfl (by omega) (.slice none 0 0) 0 [] rfl (Z56 w _ _) A l.length c (l.flatMap Z0w.cells) rfl (Z13 Z0w.cells_length _) (HRD.out.news Z0w.cells_length (by omega)) (Zfw _) (by unfold maxLen;omega) (by omega) ?_;intro v1 w2 hown1 hg1 hnil1 hat1));go_ret;rw [Ziu,Zj6] at hown1;obtain ⟨A',c',rfl,h1,h2,h3⟩:=Z50 hown1 hat1 rfl hg1;exact ⟨A',c',rfl,h1,h2,h3⟩
theorem Zaq (A:Option Addr) (c:Nat) (l:List Z07) (w:World) (hrd:Z0h w 14 Z07.cells A c l) (hl:(l.length:Int)≤100000) :
 Calls Tryz.prog 95 #[.slice A l.length c] w (Z77 57 14 Z07.cells l w):=by
 obtain ⟨i0,hi0,hz0,hz1,hz2⟩:=infp Zd8;have HRD:=hid hrd;have hlc:=hrd.cap;have hlcc:=hrd.1;clear hrd;go_enter Tryz.func95,Tryz.ntmps95;(go_wp2_with (at_builtin;refine Z03 w rfl (.const (.slice none 0 0)) (.tmp 3) 27 rfl 57 i0 _ 14 128 Tryz.underlying27 hi0 hz0 hz1 hz2 rfl (by omega) (.slice none 0 0) 0 [] rfl (Z56 w _ _) A l.length c (l.flatMap Z07.cells) rfl (Z13 Z07.cells_length _) (HRD.out.news Z07.cells_length (by omega)) (Zdv _) (by unfold maxLen;omega) (by omega) ?_;intro v1 w2 hown1 hg1 hnil1 hat1));go_ret;rw [Ziu,Zj6] at hown1;obtain ⟨A',c',rfl,h1,h2,h3⟩:=Z50 hown1 hat1 rfl hg1;exact ⟨A',c',rfl,h1,h2,h3⟩
theorem Z7t (A:Option Addr) (c:Nat) (l:List Z0j) (w:World) (hrd:Z0h w 7 Z0j.cells A c l) (hl:(l.length:Int)≤100000) :
 Calls Tryz.prog 96 #[.slice A l.length c] w (Z77 34 7 Z0j.cells l w):=by
 obtain ⟨i0,hi0,hz0,hz1,hz2⟩:=infp Z8s;have HRD:=hid hrd;have hlc:=hrd.cap;have hlcc:=hrd.1;clear hrd;go_enter Tryz.func96,Tryz.ntmps96;(go_wp2_with (at_builtin;refine Z03 w rfl (.const (.slice none 0 0)) (.tmp 3) 28 rfl 34 i0 _ 7 72 Tryz.underlying28 hi0 hz0 hz1 hz2 rfl (by omega) (.slice none 0 0) 0 [] rfl (Z56 w _ _) A l.length c (l.flatMap Z0j.cells) rfl (Z13 Z0j.cells_length _) (HRD.out.news Z0j.cells_length (by omega)) (Z91 _) (by unfold maxLen;omega) (by omega) ?_;intro v1 w2 hown1 hg1 hnil1 hat1));go_ret;rw [Ziu,Zj6] at hown1;obtain ⟨A',c',rfl,h1,h2,h3⟩:=Z50 hown1 hat1 rfl hg1;exact ⟨A',c',rfl,h1,h2,h3⟩
def SmT (l:List Z0i):Prop:=l.length≤1000∧∀t∈l,t.list.length≤1000
def Zcf {α:Type} (r:RepT α) (l:List α) (w:World) (en:Ending) (w':World):Prop:=
 ∃A c,en = .returned (.slice A l.length c)∧RowR r (NewD w.heap.size w') w' A c l∧AIn A (NewD w.heap.size w')∧Below w.heap.size w w'
theorem NewD.up {B B':Nat} {w w':World} (hB:B'≤B) (hw:w.heap.size≤w'.heap.size) : ∀k,NewD B w k→NewD B' w' k:=fun k hk=>⟨by have:=hk.1;omega,by have:=hk.2;omega⟩
theorem Zg6 {D:Nat→Prop} {w:World} {y:Z0i} {A:Option Addr} {c:Nat} (h:RowR Z3r D w A c y.list):Z0d.rep D w y [.int .i64 y.rel,.string y.var,.int .i64 y.sym.kind,.string y.sym.text,.int .i64 y.sym.n,.slice A y.list.length c]:=⟨A,c,rfl,h⟩
def Z2z {α:Type} (r:RepT α) (e:TypeId) (w:World) (l:List α) (v:Value) (wr:World):Prop:=
 ∃C A c,v = .slice A l.length c∧OwnC r e C wr v l∧(∀j,C j→NewD w.heap.size wr j)∧AIn A (NewD w.heap.size wr)∧Below w.heap.size w wr
theorem Z2z.nil {α:Type} (r:RepT α) (e:TypeId) (w:World) {wr:World} (hb:Below w.heap.size w wr):Z2z r e w [] (.slice none 0 0) wr:=
 ⟨fun _=>False,none,0,rfl,OwnC.nil _ _ _ _,fun _ h=>h.elim,AIn.none_ _,hb⟩
theorem Z2z.done {α:Type} {r:RepT α} {e:TypeId} {w wr:World} {l:List α} {v:Value} (h:Z2z r e w l v wr):Zcf r l w (.returned v) wr:=by
 obtain ⟨C,A,c,rfl,h1,h2,h3,h4⟩:=h;exact ⟨A,c,rfl,h1.row h2 h3,h3,h4⟩
theorem Z2z.snoc {α:Type} {r:RepT α} {e:TypeId} {w wr W W':World} {C:Nat→Prop} {l:List α} {y:α} {A:Option Addr} {c:Nat} {v':Value} (h2 : ∀j,C j→NewD w.heap.size wr j) (h3:AIn A (NewD w.heap.size wr)) (h4:Below w.heap.size w wr)
 (hb:Below wr.heap.size wr W) (ha:Z4v r e (Plus C wr W) W (.slice A l.length c) (l ++ [y]) v' W'):Z2z r e w (l ++ [y]) v' W':=by
 obtain ⟨g1,g2,g3⟩:=ha;have hz:=hb.size;have hz2:=g2.size;have hz4:=h4.size;obtain ⟨A',c',rfl,_,_,hA'⟩:=g1.form;refine ⟨Plus C wr W,A',c',rfl,g1,fun j hj=>?_,fun a ha=>⟨?_,(hA' a ha).1⟩,(h4.trans (hb.mono hz4)).grown g2 (by omega) (fun k hk=>?_)⟩
 · rcases hj with hj | hj
   · have:=h2 j hj;exact ⟨this.1,by have:=this.2;omega⟩
   · exact ⟨by omega,by omega⟩
 · subst ha
   rcases g3 with g3 | g3
   · rcases A with _ | b
     · simp [Value.ownBlock] at g3
     · simp only [Value.ownBlock,Option.some.injEq] at g3
       have:=(h3 b rfl).1;omega
   · simp only [Value.ownBlock,Option.some.injEq] at g3
     omega
 · rcases A with _ | b
   · simp [Value.ownBlock] at hk
   · simp only [Value.ownBlock,Option.some.injEq] at hk
     have:=(h3 b rfl).1;omega
theorem Z6v {α:Type} {l:List α} {k:Nat} (hk:k<l.length):l.take k ++ [l[k]]=l.take (k+1):=by rw [Zj9,Zic hk];rfl
theorem Z21 {α:Type} {l:List α} {k:Nat} (hk:k≤l.length):(l.take k).length=k:=by simp;omega
def SmC:Nat→Z0m→Prop
 | 0,_=>True
 | n+1,c=>SmT c.attr∧SmT c.value∧c.conds.length≤1000∧∀x∈c.conds,SmC n x
def Zhf (n:Nat) (c:Z0m) (w:World) (en:Ending) (w':World):Prop:=
 ∃A1 c1 A2 c2 A3 c3,en = .returned (.agg #[.int .i64 c.kind,.bool c.goal,.string c.id,.slice A1 c.attr.length c1,.slice A2 c.value.length c2,.bool c.acc,.slice A3 c.conds.length c3])∧RowR Z0d (NewD w.heap.size w') w' A1 c1 c.attr∧RowR Z0d (NewD w.heap.size w') w' A2 c2 c.value∧RowR (Z0g n) (NewD w.heap.size w') w' A3 c3 c.conds∧Below w.heap.size w w'
def Zan (f n:Nat):Prop:=∀(c:Z0m) (A1:Option Addr) (c1:Nat) (A2:Option Addr) (c2:Nat) (A3:Option Addr) (c3:Nat) (D:Nat→Prop) (w:World),
 RowR Z0d D w A1 c1 c.attr→RowR Z0d D w A2 c2 c.value→RowR (Z0g n) D w A3 c3 c.conds→SmC (n+1) c→Calls Tryz.prog f #[.agg #[.int .i64 c.kind,.bool c.goal,.string c.id,.slice A1 c.attr.length c1,.slice A2 c.value.length c2,.bool c.acc,.slice A3 c.conds.length c3]] w (Zhf n c w)
theorem Zb9 {n:Nat} {D:Nat→Prop} {w:World} {y:Z0m} {Ay1 Ay2 Ay3:Option Addr} {cy1 cy2 cy3:Nat} (h1:RowR Z0d D w Ay1 cy1 y.attr) (h2:RowR Z0d D w Ay2 cy2 y.value) (h3:RowR (Z0g n) D w Ay3 cy3 y.conds) :
 (Z0g (n+1)).rep D w y [.int .i64 y.kind,.bool y.goal,.string y.id,.slice Ay1 y.attr.length cy1,.slice Ay2 y.value.length cy2,.bool y.acc,.slice Ay3 y.conds.length cy3]:=⟨Ay1,cy1,Ay2,cy2,Ay3,cy3,rfl,h1,h2,h3⟩
theorem row0 {D:Nat→Prop} {w:World} {A:Option Addr} {c:Nat} {l:List Z0m} (h:RowR (Z0g 0) D w A c l):l = []:=by
 cases l with
 | nil=>rfl
 | cons x l=>
   obtain ⟨_,_,_,_,_,_,hr,_⟩:=h.at_ (k:=0) (by simp);exact hr.elim
theorem RowR.newD {α:Type} {r:RepT α} {B B':Nat} {w w':World} {A:Option Addr} {c:Nat} {l:List α} (h:RowR r (NewD B w) w A c l) (hb:Below w.heap.size w w') (hB:B'≤B):RowR r (NewD B' w') w' A c l:=
 h.keep hb.size (fun j hj hl=>⟨NewD.up hB hb.size j hj,hb.block j hl⟩)
theorem Z2u (b:Nat) : ∀(vs:List Value) (o:Nat) (w:World) (j:Nat),j≠b→(w.setCells b o vs).heap[j]? = w.heap[j]?
 | [],_,_,_,_=>rfl
 | v :: r,o,w,j,h=>by
   rw [World.setCells,Z2u b r (o+1) _ j h];exact Below.heap_setCell _ _ _ _ h
theorem Z8v (A:Option Addr) (c:Nat) (l:List Z0i) {D:Nat→Prop} (w:World) (hrd:RowR Z0d D w A c l) (hs:SmT l) :
 Calls Tryz.prog 138 #[.slice A l.length c] w (Zcf Z0d l w):=by
 obtain ⟨i0,hi0,hz0,hz1,hz2⟩:=infp Za3;obtain ⟨j0,hj0,hy0,hy1,hy2⟩:=infp Zfj;have hlc:=hrd.cap;have hl1:=hs.1;have HRD:=hid hrd;have HS:=hid hs;clear hrd hs;go_enter Tryz.func138,Tryz.ntmps138;go_wp2_with fail
 go_loopw [3,4] (fun v i wr=>∃k:Nat,i = .int .i64 k∧k≤l.length∧Z2z Z0d 142 w (l.take k) v wr) (fun v i wr=>l.length - (intOf i).toNat)
 case atStart=>exact ⟨0,rfl,Nat.zero_le _,Z2z.nil _ _ _ (Zi2 _ _)⟩
 case round=>
  obtain ⟨k,rfl,hk,hC⟩:=hrel;obtain ⟨C,A1,c1,rfl,h1,h2,h3,h4⟩:=hC;rw [Z21 hk];by_cases hlt:k<l.length
  · have hrw:=HRD.out.keep (D':=D) h4.size (fun j hj hl=>⟨hj,h4.block j hl⟩)
    obtain ⟨g,off,A3,c3,rfl,hDg,hg,q0,q1,q2,q3,q4,q5,hr3⟩:=Z4y hrw hlt;obtain ⟨y,hy⟩ : ∃y,y=l[k]:=⟨_,rfl⟩;(have hy3:y.list.length≤1000:=by rw [hy];exact HS.out.2 _ (Zin hlt));rw [← hy] at q0 q1 q2 q3 q4 q5 hr3;have hr4:=RowR.rd (hs:=Sym.cells_length) hr3;have hl3:=hr3.cap;(have b1:(0:Int)≤(k:Int):=by omega);(have b2:(k:Int)<(l.length:Int):=by omega);have HY:=hid hy;have H1:=hid h1;have H2:=hid h2;have H3:=hid h3;have H4:=hid h4;have HR4:=hid hr4;clear hy hrw h1 h2 h3 h4 hr3 hr4;(go_upto_region 6 with fail);obtain ⟨W4,hW4⟩ : ∃W4,W4=wr.alloc (.cells #[.int .i64 y.rel,.string y.var,.int .i64 y.sym.kind,.string y.sym.text,.int .i64 y.sym.n,.slice A3 y.list.length c3] 142):=⟨_,rfl⟩;(have hB4:Below wr.heap.size wr W4:=by rw [hW4];exact (Zi2 _ _).alloc (Zi3 _) _);(have hX4:Blk W4 wr.heap.size 142 #[.int .i64 y.rel,.string y.var,.int .i64 y.sym.kind,.string y.sym.text,.int .i64 y.sym.n,.slice A3 y.list.length c3]:=by rw [hW4];exact Blk.new _ _ _);rw [← hW4];clear hW4 q0 q1 q2 q3 q4;have HB4:=hid hB4;have HX4:=hid hX4;have hxl4:=hX4.lt;have x5:=(hB4.cell (p:=⟨g,off+k*6+5,none⟩) hg).trans q5;clear hX4 hB4 q5;(have hg4:g<W4.heap.size:=by have:=HB4.out.size;omega);(go_wp2_with fail);refine (Z8l A3 c3 y.list W4 (HR4.out.new_ HB4.out) (by omega)).mono ?_;rintro e w5 ⟨A5,c5,rfl,ho5,hA5,hB5⟩;have hX5:=HX4.out.new_ hB5;have u5:=(hX5.cell 5).trans rfl;have g5:=hX5.frozen 5;have hxl5:=hX5.lt;have HB5:=hid hB5;have HO5:=hid ho5;have HA5:=hid hA5;have HX5:=hid hX5;clear hX5 hB5 ho5 hA5 x5;(go_upto_region 7 with fail);obtain ⟨W6,hW6⟩ : ∃W6,W6=w5.setCell ⟨wr.heap.size,5,none⟩ (.slice A5 y.list.length c5):=⟨_,rfl⟩
    have hX5:=HX5.out;(have hB6:Below wr.heap.size wr W6:=by rw [hW6];exact (HB4.out.trans (HB5.out.mono (by omega))).setCell (Zi3 _) _);(have hX6:Blk W6 wr.heap.size 142 #[.int .i64 y.rel,.string y.var,.int .i64 y.sym.kind,.string y.sym.text,.int .i64 y.sym.n,.slice A5 y.list.length c5]:=by rw [hW6];exact hX5.set_ 5 _);(have hO6:W6.ownsRow 0 23 3 (.slice A5 y.list.length c5) y.list.length (y.list.flatMap Sym.cells):=by rw [hW6];exact ownsRow_setCell_other (a:=⟨wr.heap.size,5,none⟩) HO5.out (Z04 HO5.out hX5 (by decide)) _);have hA6:AIn A5 (NewD wr.heap.size W6):=HA5.out.mono (fun j hj=>⟨by have:=hj.1;omega,by rw [hW6];simpa using hj.2⟩);rw [← hW6];clear hW6 hX5;have hB7:Below wr.heap.size wr (W6.alloc (.cells #[.int .i64 y.rel,.string y.var,.int .i64 y.sym.kind,.string y.sym.text,.int .i64 y.sym.n,.slice A5 y.list.length c5] 142)):=hB6.alloc hB6.size _;have hrow:RowR Z3r (Plus C wr (W6.alloc (.cells #[.int .i64 y.rel,.string y.var,.int .i64 y.sym.kind,.string y.sym.text,.int .i64 y.sym.n,.slice A5 y.list.length c5] 142))) (W6.alloc (.cells #[.int .i64 y.rel,.string y.var,.int .i64 y.sym.kind,.string y.sym.text,.int .i64 y.sym.n,.slice A5 y.list.length c5] 142)) A5 c5 y.list:=(Z77.row Sym.cells_length hO6 hA6).keep (by simp) (fun j hj hl=>⟨.inr ⟨hj.1,by simp;have:=hj.2;omega⟩,((Zi2 W6.heap.size W6).alloc (Zi3 _) _).block j hl⟩);have hown7:=H1.out.plus hB7;have hrep7:=Zg6 hrow
    have hcl : ∀j,Plus C wr (W6.alloc (.cells #[.int .i64 y.rel,.string y.var,.int .i64 y.sym.kind,.string y.sym.text,.int .i64 y.sym.n,.slice A5 y.list.length c5] 142)) j→j<(W6.alloc (.cells #[.int .i64 y.rel,.string y.var,.int .i64 y.sym.kind,.string y.sym.text,.int .i64 y.sym.n,.slice A5 y.list.length c5] 142)).heap.size:=fun j hj=>by
     rcases hj with hj | hj
     · have:=(H2.out j hj).2;have:=hB7.size;omega
     · exact hj.2
    obtain ⟨u0,u1,u2,u3,u4,u5⟩:=hX6.c6;have hxl6:=hX6.lt;have HB7:=hid hB7;have HOW:=hid hown7;have HRE:=hid hrep7;have HCL:=hid hcl;(have h63:(l.take k).length+1≤maxLen:=by rw [Z21 hk];unfold maxLen;omega);(have hby:((l.take k).length+1)*80≤140737488355328:=by rw [Z21 hk];omega);have H63:=hid h63;have HBY:=hid hby;have HTL:=hid (Z21 hk);clear hB6 hB7 hX6 hO6 hA6 hrow hown7 hrep7 hcl h63 hby;have HV:=hid (show Value.slice A1 k c1 = .slice A1 (l.take k).length c1 by rw [Z21 hk]);(go_wp2_with (at_builtin;refine Z4d _ rfl _ _ 60 rfl 142 j0 _ 6 80 Tryz.underlying60 hj0 hy0 hy1 hy2 rfl rfl (by omega) (Plus C wr (W6.alloc (.cells #[.int .i64 y.rel,.string y.var,.int .i64 y.sym.kind,.string y.sym.text,.int .i64 y.sym.n,.slice A5 y.list.length c5] 142))) HCL.out (.slice A1 (l.take k).length c1) (l.take k) HV.out HOW.out ⟨W6.heap.size,0,none⟩ 1 y [.int .i64 y.rel,.string y.var,.int .i64 y.sym.kind,.string y.sym.text,.int .i64 y.sym.n,.slice A5 y.list.length c5] rfl (Zii (heap_alloc_new _ _)) (by intro u hu;simp only [Zij,Zio,or_false] at hu;rcases hu with rfl | rfl | rfl | rfl | rfl | rfl<;>rfl) HRE.out H63.out HBY.out ?_;intro v' w7 hap));have hfin:Z2z Z0d 142 w (l.take k ++ [y]) v' w7:=Z2z.snoc H2.out H3.out H4.out HB7.out (by have e:Value.slice A1 (l.take k).length c1 = .slice A1 (l.take k).length c1:=rfl;exact hap);rw [HY.out,Z6v hlt] at hfin;go_roundw
    case rel=>exact ⟨k+1,by go_num,by omega,hfin⟩
    case measure=>simp [intOf];omega
  · obtain rfl:k=l.length:=by omega
    have hfin:=Z2z.done ⟨C,A1,c1,rfl,h1,h2,h3,h4⟩;rw [Zis] at hfin;have HF:=hid hfin;clear h1 h2 h3 h4 hfin;(go_wp2_with fail);go_ret;exact HF.out
theorem Z9z (n:Nat) (hrec : ∀m,n=m+1→Zan 98 m) (A:Option Addr) (c:Nat) (L:List Z0m) {D:Nat→Prop} (W0:World) (hrd:RowR (Z0g n) D W0 A c L) (hs:L.length≤1000∧∀x∈L,SmC n x) :
 Calls Tryz.prog 139 #[.slice A L.length c] W0 (Zcf (Z0g n) L W0):=by
 obtain ⟨j0,hj0,hy0,hyy1,hyy2⟩:=infp Zb0;have hlc:=hrd.cap;have hl1:=hs.1;have HR3:=hid hrd;have HS:=hid hs;have HREC:=hid hrec;clear hrd hs hrec;go_enter Tryz.func139,Tryz.ntmps139;go_wp2_with fail
 go_loopw [3,4] (fun v i wr=>∃k:Nat,i = .int .i64 k∧k≤L.length∧Z2z (Z0g n) 62 W0 (L.take k) v wr) (fun v i wr=>L.length - (intOf i).toNat)
 case atStart=>exact ⟨0,rfl,Nat.zero_le _,Z2z.nil _ _ _ (Zi2 _ _)⟩
 case round=>
  obtain ⟨k,rfl,hk,hC⟩:=hrel;obtain ⟨C,A1,c1,rfl,h1,h2,h3,h4⟩:=hC;rw [Z21 hk];by_cases hlt:k<L.length
  · have hrw:=HR3.out.new_ (h4.mono (by omega):Below W0.heap.size W0 wr)
    obtain ⟨m,rfl⟩ : ∃m,n=m+1:=by
     cases n with
     | zero=>rw [row0 hrw] at hlt;simp at hlt
     | succ m=>exact ⟨m,rfl⟩
    obtain ⟨g,off,Ay1,cy1,Ay2,cy2,Ay3,cy3,hA0,hDg,hg,q0,q1,q2,q3,q4,q5,q6,hy1,hy2,hy3⟩:=Z2t hrw hlt;subst hA0;obtain ⟨y,hy⟩ : ∃y,y=L[k]:=⟨_,rfl⟩;(have hys:SmC (m+1) y:=by rw [hy];exact HS.out.2 _ (Zin hlt));rw [← hy] at q0 q1 q2 q3 q4 q5 q6 hy1 hy2 hy3;(have b1:(0:Int)≤(k:Int):=by omega);(have b2:(k:Int)<(L.length:Int):=by omega);have HY:=hid hy;have H1:=hid h1;have H2:=hid h2;have H3:=hid h3;have H4:=hid h4;have HY1:=hid hy1;have HY2:=hid hy2;have HY3:=hid hy3;have HYS:=hid hys;clear hy hrw h1 h2 h3 h4 hy1 hy2 hy3 hys;(go_wp2_with fail);refine (HREC.out m rfl y Ay1 cy1 Ay2 cy2 Ay3 cy3 D wr HY1.out HY2.out HY3.out HYS.out).mono ?_;rintro e w5 ⟨Az1,cz1,Az2,cz2,Az3,cz3,rfl,g1,g2,g3,hB5⟩;have hB5':Below wr.heap.size wr w5:=hB5;have h9:Below w5.heap.size w5 (w5.alloc (.cells #[.int .i64 y.kind,.bool y.goal,.string y.id,.slice Az1 y.attr.length cz1,.slice Az2 y.value.length cz2,.bool y.acc,.slice Az3 y.conds.length cz3] 62)):=(Zi2 _ _).alloc (Zi3 _) _;have hB7:Below wr.heap.size wr (w5.alloc (.cells #[.int .i64 y.kind,.bool y.goal,.string y.id,.slice Az1 y.attr.length cz1,.slice Az2 y.value.length cz2,.bool y.acc,.slice Az3 y.conds.length cz3] 62)):=hB5'.alloc hB5'.size _;have up : ∀j,NewD wr.heap.size w5 j→j<w5.heap.size→(Plus C wr (w5.alloc (.cells #[.int .i64 y.kind,.bool y.goal,.string y.id,.slice Az1 y.attr.length cz1,.slice Az2 y.value.length cz2,.bool y.acc,.slice Az3 y.conds.length cz3] 62))) j∧(w5.alloc (.cells #[.int .i64 y.kind,.bool y.goal,.string y.id,.slice Az1 y.attr.length cz1,.slice Az2 y.value.length cz2,.bool y.acc,.slice Az3 y.conds.length cz3] 62)).heap[j]? = w5.heap[j]?:=fun j hj hl=>⟨.inr ⟨hj.1,by simp;omega⟩,h9.block j hl⟩;have hrep7:=Zb9 (n:=m) (y:=y) (g1.keep h9.size up) (g2.keep h9.size up) (g3.keep h9.size up);have hown7:=H1.out.plus hB7
    have hcl : ∀j,Plus C wr (w5.alloc (.cells #[.int .i64 y.kind,.bool y.goal,.string y.id,.slice Az1 y.attr.length cz1,.slice Az2 y.value.length cz2,.bool y.acc,.slice Az3 y.conds.length cz3] 62)) j→j<(w5.alloc (.cells #[.int .i64 y.kind,.bool y.goal,.string y.id,.slice Az1 y.attr.length cz1,.slice Az2 y.value.length cz2,.bool y.acc,.slice Az3 y.conds.length cz3] 62)).heap.size:=fun j hj=>by
     rcases hj with hj | hj
     · have:=(H2.out j hj).2;have:=hB7.size;omega
     · exact hj.2
    have HB7:=hid hB7;have HOW:=hid hown7;have HRE:=hid hrep7;have HCL:=hid hcl;have HB5:=hid hB5';have H63:=hid (show (L.take k).length+1≤maxLen by rw [Z21 hk];unfold maxLen;omega);have HBY:=hid (show ((L.take k).length+1)*112≤140737488355328 by rw [Z21 hk];omega);have HV:=hid (show Value.slice A1 k c1 = .slice A1 (L.take k).length c1 by rw [Z21 hk]);clear g1 g2 g3 hB5 h9 hB7 up hrep7 hown7 hcl hB5' q0 q1 q2 q3 q4 q5 q6;(go_wp2_with (at_builtin;refine Z4d _ rfl _ _ 42 rfl 62 j0 _ 7 112 Tryz.underlying42 hj0 hy0 hyy1 hyy2 rfl rfl (by omega) (Plus C wr (w5.alloc (.cells #[.int .i64 y.kind,.bool y.goal,.string y.id,.slice Az1 y.attr.length cz1,.slice Az2 y.value.length cz2,.bool y.acc,.slice Az3 y.conds.length cz3] 62))) HCL.out (.slice A1 (L.take k).length c1) (L.take k) HV.out HOW.out ⟨w5.heap.size,0,none⟩ 1 y [.int .i64 y.kind,.bool y.goal,.string y.id,.slice Az1 y.attr.length cz1,.slice Az2 y.value.length cz2,.bool y.acc,.slice Az3 y.conds.length cz3] rfl (Zii (heap_alloc_new _ _)) (by intro u hu;simp only [Zij,Zio,or_false] at hu;rcases hu with rfl | rfl | rfl | rfl | rfl | rfl | rfl<;>rfl) HRE.out H63.out HBY.out ?_;intro v' w7 hap));have hfin:Z2z (Z0g (m+1)) 62 W0 (L.take k ++ [y]) v' w7:=Z2z.snoc H2.out H3.out H4.out HB7.out hap;rw [HY.out,Z6v hlt] at hfin;go_roundw
    case rel=>exact ⟨k+1,by go_num,by omega,hfin⟩
    case measure=>simp [intOf];omega
  · obtain rfl:k=L.length:=by omega
    have hfin:Z2z (Z0g n) 62 W0 (L.take L.length) (.slice A1 (L.take L.length).length c1) wr:=⟨C,A1,c1,rfl,h1,h2,h3,h4⟩;rw [Zis] at hfin;have HF:=hid hfin;clear h1 h2 h3 h4 hfin;(go_wp2_with fail);go_ret;exact HF.out.done
theorem Z7f (n:Nat) (hrec : ∀m,n=m+1→Zan 98 m):Zan 98 n:=by
 intro x A1 c1 A2 c2 A3 c3 D w h1 h2 h3 hs;obtain ⟨j0,hj0,hy0,hyy1,hyy2⟩:=infp Zb0;have hcap1:=h1.cap;have hcap2:=h2.cap;have hcap3:=h3.cap;obtain ⟨s1,s2,s3,s4⟩:=hs;have S1:=hid s1;have S2:=hid s2;have HREC:=hid hrec;obtain ⟨L,hL⟩ : ∃L,L=x.conds:=⟨_,rfl⟩;rw [← hL] at h3 hcap3 s3 s4;have HS:=hid (show L.length≤1000∧∀x∈L,SmC n x from ⟨s3,s4⟩);have HXC:=hid hL;clear s1 s2 s4 hrec;rw [← hL];clear hL;have Q1:=hid h1;have Q2:=hid h2;have Q3:=hid h3;clear h1 h2 h3;go_enter Tryz.func98,Tryz.ntmps98;(go_upto_region 1 with fail);obtain ⟨W1,hW1⟩ : ∃W1,W1=(w.alloc (.cells #[.int .i64 x.kind,.bool x.goal,.string x.id,.slice A1 x.attr.length c1,.slice A2 x.value.length c2,.bool x.acc,.slice A3 L.length c3] 62)).alloc (.cells #[.int .i64 0,.bool false,.string ⟨#[]⟩,.slice none 0 0,.slice none 0 0,.bool false,.slice none 0 0] 62):=⟨_,rfl⟩;(have hB1:Below w.heap.size w W1:=by rw [hW1];exact ((Zi2 _ _).alloc (Zi3 _) _).alloc (by simp) _);(have hX1:Blk W1 w.heap.size 62 #[.int .i64 x.kind,.bool x.goal,.string x.id,.slice A1 x.attr.length c1,.slice A2 x.value.length c2,.bool x.acc,.slice A3 L.length c3]:=by rw [hW1];exact (Blk.new _ _ _).alloc _);(have hR1:Blk W1 (w.heap.size+1) 62 #[.int .i64 0,.bool false,.string ⟨#[]⟩,.slice none 0 0,.slice none 0 0,.bool false,.slice none 0 0]:=by rw [hW1];have:=Blk.new (w.alloc (.cells #[.int .i64 x.kind,.bool x.goal,.string x.id,.slice A1 x.attr.length c1,.slice A2 x.value.length c2,.bool x.acc,.slice A3 L.length c3] 62)) 62 #[.int .i64 0,.bool false,.string ⟨#[]⟩,.slice none 0 0,.slice none 0 0,.bool false,.slice none 0 0];simpa using this);(have hz1:W1.heap.size=w.heap.size+2:=by rw [hW1];simp);rw [← hW1];clear hW1;obtain ⟨-,-,-,x3,-,-,-⟩:=hX1.c7;have HB1:=hid hB1;have HX1:=hid hX1;have HR1:=hid hR1;have HZ1:=hid hz1;have hxl1:=hX1.lt;clear hB1 hX1 hR1 hz1;(go_wp2_with fail);refine (Z8v A1 c1 x.attr W1 (Q1.out.new_ HB1.out) S1.out).mono ?_;rintro e w2 ⟨B1,d1,rfl,k1,-,hB2⟩;obtain ⟨W2,hW2⟩ : ∃W2,W2=w2.setCell ⟨w.heap.size,3,none⟩ (.slice B1 x.attr.length d1):=⟨_,rfl⟩;have hX2:=HX1.out.new_ hB2
 have u3:=(hX2.cell 3).trans rfl;have g3:=hX2.frozen 3;(have hX2b:Blk W2 w.heap.size 62 #[.int .i64 x.kind,.bool x.goal,.string x.id,.slice B1 x.attr.length d1,.slice A2 x.value.length c2,.bool x.acc,.slice A3 L.length c3]:=by rw [hW2];exact hX2.set_ 3 _);(have hR2:Blk W2 (w.heap.size+1) 62 #[.int .i64 0,.bool false,.string ⟨#[]⟩,.slice none 0 0,.slice none 0 0,.bool false,.slice none 0 0]:=by rw [hW2];exact (HR1.out.new_ hB2).far (by simp) _);have hz2:=hB2.size;(have hzW2:W2.heap.size=w2.heap.size:=by rw [hW2];simp);(have hB2b:Below w.heap.size w W2:=by rw [hW2];exact (HB1.out.trans (hB2.mono (by omega))).setCell (Zi3 _) _);have hk1:RowR Z0d (NewD W1.heap.size W2) W2 B1 d1 x.attr:=k1.keep (by omega) (fun j hj hl=>⟨⟨hj.1,by have:=hj.2;omega⟩,by rw [hW2];exact Below.heap_setCell _ _ _ _ (by dsimp only;have:=hj.1;have:=HZ1.out;omega)⟩);have HB2:=hid hB2b;have HX2:=hid hX2b;have HR2:=hid hR2;have HK1:=hid hk1;have HZ2:=hid (show W1.heap.size≤W2.heap.size by omega);have hxl2:=hX2.lt;clear k1 hB2 hX2 hX2b hR2 hB2b hk1 hzW2 x3;(go_upto_region 2 with fail);rw [← hW2];clear hW2 u3 g3 hz2;obtain ⟨-,-,-,-,x4,-,-⟩:=HX2.out.c7;have hxl2:=HX2.out.lt;(go_wp2_with fail);refine (Z8v A2 c2 x.value W2 (Q2.out.new_ HB2.out) S2.out).mono ?_;rintro e w3 ⟨B2,d2,rfl,k2,-,hB3⟩;obtain ⟨W3,hW3⟩ : ∃W3,W3=w3.setCell ⟨w.heap.size,4,none⟩ (.slice B2 x.value.length d2):=⟨_,rfl⟩;have hX3:=HX2.out.new_ hB3;have u4:=(hX3.cell 4).trans rfl;have g4:=hX3.frozen 4;(have hX3b:Blk W3 w.heap.size 62 #[.int .i64 x.kind,.bool x.goal,.string x.id,.slice B1 x.attr.length d1,.slice B2 x.value.length d2,.bool x.acc,.slice A3 L.length c3]:=by rw [hW3];exact hX3.set_ 4 _);(have hR3:Blk W3 (w.heap.size+1) 62 #[.int .i64 0,.bool false,.string ⟨#[]⟩,.slice none 0 0,.slice none 0 0,.bool false,.slice none 0 0]:=by rw [hW3];exact (HR2.out.new_ hB3).far (by simp) _);have hz3:=hB3.size;(have hzW3:W3.heap.size=w3.heap.size:=by rw [hW3];simp);(have hB3b:Below w.heap.size w W3:=by rw [hW3];exact (HB2.out.trans (hB3.mono (by have:=HB2.out.size;omega))).setCell (Zi3 _) _);have hk2:RowR Z0d (NewD W1.heap.size W3) W3 B2 d2 x.value:=k2.keep (by omega) (fun j hj hl=>⟨⟨by have:=hj.1;have:=HZ2.out;omega,by have:=hj.2;omega⟩,by rw [hW3];exact Below.heap_setCell _ _ _ _ (by dsimp only;have:=hj.1;have:=HZ1.out;have:=HZ2.out;omega)⟩);have hk1:RowR Z0d (NewD W1.heap.size W3) W3 B1 d1 x.attr:=HK1.out.keep (by omega) (fun j hj hl=>⟨⟨hj.1,by have:=hj.2;omega⟩,by rw [hW3];exact (Below.heap_setCell _ _ _ _ (by dsimp only;have:=hj.1;have:=HZ1.out;omega)).trans (hB3.block j hl)⟩);have HB3:=hid hB3b;have HX3:=hid hX3b;have HR3b:=hid hR3;have HK2:=hid hk2;have HK1b:=hid hk1;have HZ3:=hid (show W1.heap.size≤W3.heap.size by have:=HZ2.out;omega);have HQ3:=hid (Q3.out.new_ HB3.out)
 have hxl3:=hX3.lt;clear k2 hB3 hX3 hX3b hR3 hB3b hk1 hk2 hzW3 x4;(go_upto_region 3 with fail);rw [← hW3];clear hW3 u4 g4 hz3;obtain ⟨-,-,-,-,-,-,x6⟩:=HX3.out.c7;have hxl3:=HX3.out.lt;(go_wp2_with fail);refine (Z9z n HREC.out A3 c3 L W3 HQ3.out HS.out).mono ?_;intro e wf hf;obtain ⟨E3,d3,he,r3,hE3,hBf⟩:=hf;cases he;obtain ⟨W9,hW9⟩ : ∃W9,W9=wf.setCell ⟨w.heap.size,6,none⟩ (.slice E3 L.length d3):=⟨_,rfl⟩;have hX9:=HX3.out.new_ hBf;have u6:=(hX9.cell 6).trans rfl;have g6:=hX9.frozen 6;have hxl9:=hX9.lt;(have hX9b:Blk W9 w.heap.size 62 #[.int .i64 x.kind,.bool x.goal,.string x.id,.slice B1 x.attr.length d1,.slice B2 x.value.length d2,.bool x.acc,.slice E3 L.length d3]:=by rw [hW9];exact hX9.set_ 6 _);(have hR9:Blk W9 (w.heap.size+1) 62 #[.int .i64 0,.bool false,.string ⟨#[]⟩,.slice none 0 0,.slice none 0 0,.bool false,.slice none 0 0]:=by rw [hW9];exact (HR3b.out.new_ hBf).far (by simp) _);(have hB9:Below w.heap.size w W9:=by rw [hW9];exact (HB3.out.trans (hBf.mono HB3.out.size)).setCell (Zi3 _) _);have hzf:=hBf.size;(have hz9:W9.heap.size=wf.heap.size:=by rw [hW9];simp);(have hk9 : ∀j,w.heap.size+2≤j→W9.heap[j]? = wf.heap[j]?:=fun j hj=>by rw [hW9];exact Below.heap_setCell _ _ _ _ (by dsimp only;omega));have HB9:=hid hB9;have HX9:=hid hX9b;have HT9:=hid (show W9.there (w.heap.size+1) 0 (#[.int .i64 x.kind,.bool x.goal,.string x.id,.slice B1 x.attr.length d1,.slice B2 x.value.length d2,.bool x.acc,.slice E3 L.length d3]:Array Value).size from hR9.there);have HRG:=hid (show W9.rangeAt w.heap.size 0 [.int .i64 x.kind,.bool x.goal,.string x.id,.slice B1 x.attr.length d1,.slice B2 x.value.length d2,.bool x.acc,.slice E3 L.length d3] from hX9b.range);have hrl9:=hR9.lt;have l3:=r3.keep (w':=W9.setCells (w.heap.size+1) 0 [.int .i64 x.kind,.bool x.goal,.string x.id,.slice B1 x.attr.length d1,.slice B2 x.value.length d2,.bool x.acc,.slice E3 L.length d3]) (D':=NewD w.heap.size (W9.setCells (w.heap.size+1) 0 [.int .i64 x.kind,.bool x.goal,.string x.id,.slice B1 x.attr.length d1,.slice B2 x.value.length d2,.bool x.acc,.slice E3 L.length d3])) (by rw [Z0b];omega) (fun j hj hl=>⟨⟨by have:=hj.1;have:=HB3.out.size;omega,by rw [Z0b];omega⟩,(Z2u _ _ _ _ _ (by have:=hj.1;have:=HZ1.out;have:=HZ3.out;omega)).trans (hk9 j (by have:=hj.1;have:=HZ1.out;have:=HZ3.out;omega))⟩);have l1:=HK1b.out.keep (w':=W9.setCells (w.heap.size+1) 0 [.int .i64 x.kind,.bool x.goal,.string x.id,.slice B1 x.attr.length d1,.slice B2 x.value.length d2,.bool x.acc,.slice E3 L.length d3]) (D':=NewD w.heap.size (W9.setCells (w.heap.size+1) 0 [.int .i64 x.kind,.bool x.goal,.string x.id,.slice B1 x.attr.length d1,.slice B2 x.value.length d2,.bool x.acc,.slice E3 L.length d3])) (by rw [Z0b];omega) (fun j hj hl=>⟨⟨by have:=hj.1;have:=HZ1.out;omega,by rw [Z0b];omega⟩,(Z2u _ _ _ _ _ (by have:=hj.1;have:=HZ1.out;omega)).trans ((hk9 j (by have:=hj.1;have:=HZ1.out;omega)).trans (hBf.block j hl))⟩);have l2:=HK2.out.keep (w':=W9.setCells (w.heap.size+1) 0 [.int .i64 x.kind,.bool x.goal,.string x.id,.slice B1 x.attr.length d1,.slice B2 x.value.length d2,.bool x.acc,.slice E3 L.length d3]) (D':=NewD w.heap.size (W9.setCells (w.heap.size+1) 0 [.int .i64 x.kind,.bool x.goal,.string x.id,.slice B1 x.attr.length d1,.slice B2 x.value.length d2,.bool x.acc,.slice E3 L.length d3])) (by rw [Z0b];omega) (fun j hj hl=>⟨⟨by have:=hj.1;have:=HZ1.out;omega,by rw [Z0b];omega⟩,(Z2u _ _ _ _ _ (by have:=hj.1;have:=HZ1.out;omega)).trans ((hk9 j (by have:=hj.1;have:=HZ1.out;omega)).trans (hBf.block j hl))⟩);have R1:=hid l1;have R2:=hid l2;have R3:=hid l3;clear hX9 hX9b hR9 hB9 hBf r3 hE3 l1 l2 l3 hz9 hk9 hzf x6;(go_upto_region 4 with fail);rw [← hW9];clear hW9 u6 g6;(go_wp2_with (first | (with_reducible refine wpList_load_mid rfl 62 _ rfl w.heap.size 0 rfl _ _ HRG.out Tryz.underlying62 rfl (by kernel_rfl) ?_) | (with_reducible refine wpList_store_mid rfl 62 _ _ rfl (w.heap.size+1) 0 #[.int .i64 x.kind,.bool x.goal,.string x.id,.slice B1 x.attr.length d1,.slice B2 x.value.length d2,.bool x.acc,.slice E3 L.length d3] rfl rfl HT9.out (by kernel_rfl) (by kernel_rfl) ?_)));(try simp only [Exit.inBlock,Exit.then]);have hBe:Below w.heap.size w (W9.setCells (w.heap.size+1) 0 [.int .i64 x.kind,.bool x.goal,.string x.id,.slice B1 x.attr.length d1,.slice B2 x.value.length d2,.bool x.acc,.slice E3 L.length d3]):=Below.setCells' _ _ HB9.out (by omega)
 refine bodyPost_ret (v:=.agg #[.int .i64 x.kind,.bool x.goal,.string x.id,.slice B1 x.attr.length d1,.slice B2 x.value.length d2,.bool x.acc,.slice E3 L.length d3]) ?_ rfl ?_
 · exact Z2f (t:=2) (T:=62) rfl _ _ (w.heap.size+1) [.int .i64 x.kind,.bool x.goal,.string x.id,.slice B1 x.attr.length d1,.slice B2 x.value.length d2,.bool x.acc,.slice E3 L.length d3] _ rfl (Zi6 W9 (w.heap.size+1) 0 [.int .i64 x.kind,.bool x.goal,.string x.id,.slice B1 x.attr.length d1,.slice B2 x.value.length d2,.bool x.acc,.slice E3 L.length d3] HT9.out) Tryz.underlying62 rfl (by kernel_rfl)
 · have hxc:=HXC.out
   subst hxc;exact ⟨B1,d1,B2,d2,E3,d3,rfl,R1.out,R2.out,R3.out,hBe⟩
theorem Zb2 : ∀n,Zan 98 n
 | 0=>Z7f 0 (fun m h=>by omega)
 | n+1=>Z7f (n+1) (fun m h=>by obtain rfl:m=n:=by omega
                               exact Zb2 m)
end
end Go.Proofs.YtldndkngpdfpfaaGreat
