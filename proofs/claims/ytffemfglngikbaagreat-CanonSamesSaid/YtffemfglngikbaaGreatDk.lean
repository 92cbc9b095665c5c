/-
  Texts put together: KeepHeavy, CanonFit, ActsSame, ProdSame, Ref07A, Ref07B, Ref07C.
-/
import Derived.Test.YtffemfglngikbaaGreatDh
import Derived.Test.YtffemfglngikbaaGreatDj
import Derived.Test.YtffemfglngikbaaGreatDb
import Derived.Deep.MidRow
import Derived.Test.YtffemfglngikbaaGreatDd
import Derived.Test.YtffemfglngikbaaGreatDg
import Derived.Test.YtffemfglngikbaaGreatDe
import Derived.Test.YtffemfglngikbaaGreatDc
import Derived.Maps.RangeWalk
namespace Go.Proofs.YtffemfglngikbaaGreat
open Go.RowKit Go.Shelf
def goK (most:Nat) (f:CondT→Nat):List CondT→Nat→Nat
 | [],s=>s
 | c :: l,s=>if s≤most then goK most f l (s+(1+f c)) else s
def sizeK (most:Nat):Nat→Nat→List CondT→Nat
 | 0,d,l=>if 20<d then most+1 else if l = [] then 0 else most+1
 | n+1,d,l=>if 20<d then most+1 else min (goK most (fun c=>sizeK most n (d+1) c.conds) l 0) (most+1)
theorem goK_ge (most:Nat) (f:CondT→Nat) : ∀(l:List CondT) (s:Nat),s≤goK most f l s
 | [],s=>Nat.le_refl _
 | c :: l,s=>by
   rw [goK]
   split
   · have:=goK_ge most f l (s+(1+f c));omega
   · omega
theorem goK_all (most:Nat) (f:CondT→Nat) : ∀(l:List CondT) (s:Nat),goK most f l s≤most→goK most f l s=s+(l.map fun c=>1+f c).sum∧∀c∈l,f c≤most
 | [],s,_=>by simp [goK]
 | c :: l,s,h=>by
   rw [goK] at h ⊢
   by_cases hs:s≤most
   · rw [if_pos hs] at h ⊢
     obtain ⟨h1,h2⟩:=goK_all most f l _ h
     have:=goK_ge most f l (s+(1+f c))
     refine ⟨by rw [h1,List.map_cons,List.sum_cons];omega,fun x hx=>?_⟩
     rcases List.mem_cons.1 hx with rfl | hx
     · omega
     · exact h2 x hx
   · rw [if_neg hs] at h
     omega
theorem goK_snoc (most:Nat) (f:CondT→Nat) : ∀(l:List CondT) (c:CondT) (s:Nat),goK most f (l ++ [c]) s=if goK most f l s≤most then goK most f l s+(1+f c) else goK most f l s
 | [],c,s=>rfl
 | x :: l,c,s=>by
   rw [List.cons_append,goK,goK]
   by_cases hs:s≤most
   · rw [if_pos hs,if_pos hs,goK_snoc most f l c]
   · rw [if_neg hs,if_neg hs,if_neg hs]
theorem goK_stop (most:Nat) (f:CondT→Nat) : ∀(l m:List CondT) (s:Nat),¬goK most f l s≤most→goK most f (l++m) s=goK most f l s
 | [],m,s,h=>by
   rw [goK] at h
   cases m with
   | nil=>rfl
   | cons c m=>simp only [List.nil_append,goK];rw [if_neg h]
 | x :: l,m,s,h=>by
   rw [List.cons_append,goK,goK]
   rw [goK] at h
   by_cases hs:s≤most
   · rw [if_pos hs,if_pos hs]
     rw [if_pos hs] at h
     exact goK_stop most f l m _ h
   · rw [if_neg hs,if_neg hs]
theorem sum_le_of {α:Type} (f g:α→Nat) : ∀l:List α,(∀c∈l,f c≤g c)→(l.map f).sum≤(l.map g).sum
 | [],_=>Nat.le_refl _
 | c :: l,h=>by
   rw [List.map_cons,List.map_cons,List.sum_cons,List.sum_cons]
   have h1:=h c List.mem_cons_self
   have h2:=sum_le_of f g l (fun x hx=>h x (List.mem_cons_of_mem _ hx))
   omega
theorem flatC_len (m d:Nat) (l:List CondT):(flatC (m+1) d l).length=(l.map fun c=>1+(flatC m (d+1) c.conds).length).sum:=by
 rw [flatC_succ,List.length_flatMap]
 congr 1
 apply List.map_congr_left
 intro c _
 simp;omega
theorem sizeK_flat (most:Nat) : ∀(n m d e:Nat) (l:List CondT),sizeK most n d l≤most→(flatC m e l).length≤sizeK most n d l
 | 0,m,d,e,l,h=>by
   rw [sizeK] at h
   by_cases h1:20<d
   · rw [if_pos h1] at h;omega
   · rw [if_neg h1] at h
     by_cases h2:l = []
     · subst h2;cases m<;>simp [flatC]
     · rw [if_neg h2] at h;omega
 | n+1,m,d,e,l,h=>by
   rw [sizeK] at h ⊢
   by_cases h1:20<d
   · rw [if_pos h1] at h;omega
   · rw [if_neg h1] at h ⊢
     obtain ⟨h2,h3⟩:=goK_all most (fun c=>sizeK most n (d+1) c.conds) l 0 (by omega)
     cases m with
     | zero=>simp [flatC]
     | succ m=>
       have h4:=sum_le_of (fun c:CondT=>1+(flatC m (e+1) c.conds).length) (fun c=>1+sizeK most n (d+1) c.conds) l (fun c hc=>by
        have:=sizeK_flat most n m (d+1) (e+1) c.conds (h3 c hc)
        omega)
       rw [flatC_len]
       omega
theorem sizeK_deep (most:Nat) : ∀(n d:Nat) (l:List CondT),sizeK most n d l≤most→d≤20∧∀{D:Nat→Prop} {w:World} {A:Option Addr} {c:Nat},RowR (repCondT n) D w A c l→RowR (repCondT (20 - d)) D w A c l
 | 0,d,l,h=>by
   rw [sizeK] at h
   by_cases h1:20<d
   · rw [if_pos h1] at h;omega
   · rw [if_neg h1] at h
     by_cases h2:l = []
     · subst h2
       exact ⟨by omega,fun g=>⟨g.1,g.2.1,fun h=>absurd h (by simp)⟩⟩
     · rw [if_neg h2] at h;omega
 | n+1,d,l,h=>by
   rw [sizeK] at h
   by_cases h1:20<d
   · rw [if_pos h1] at h;omega
   · rw [if_neg h1] at h
     obtain ⟨_,h3⟩:=goK_all most (fun c=>sizeK most n (d+1) c.conds) l 0 (by omega)
     refine ⟨by omega,fun {D w A c} g=>?_⟩
     refine ⟨g.1,g.2.1,fun h0=>?_⟩
     obtain ⟨b,off,g1,g2,g3,g4⟩:=g.2.2 h0
     obtain ⟨d1,_⟩:=sizeK_deep most n (d+1) _ (h3 l[0] (List.getElem_mem h0))
     obtain ⟨k,hk⟩ : ∃k,20 - d=k+1:=⟨20 - d - 1,by omega⟩
     refine ⟨b,off,g1,g2,g3,fun j hj=>?_⟩
     obtain ⟨cs,r,hc⟩:=g4 j hj
     obtain ⟨A1,c1,A2,c2,A3,c3,e0,e1,e2,e3⟩:=r
     have h5:=(sizeK_deep most n (d+1) _ (h3 l[j] (List.getElem_mem hj))).2 e3
     rw [hk]
     rw [show 20 - (d+1)=k by omega] at h5
     exact ⟨cs,⟨A1,c1,A2,c2,A3,c3,e0,e1,e2,h5⟩,hc⟩
def heavyT (t:TestT):Bool:=decide (20<t.list.length) || (decide (100<t.var.size) || decide (100<t.sym.text.size))
def heavyO (c:CondT):Bool:=decide (100<c.id.size) || (decide (10<c.attr.length) || (decide (10<c.value.length) || (c.attr.any heavyT || c.value.any heavyT)))
def heavyC:Nat→List CondT→Bool
 | 0,_=>false
 | n+1,l=>l.any fun c=>heavyO c || heavyC n c.conds
def heavyP (n:Nat) (p:ProdT):Bool:=decide (40<sizeK 40 n 0 p.conds) || (decide (40<p.acts.length) || (decide (100<p.name.size) || heavyC n p.conds))
set_option maxRecDepth 100000 in
set_option maxHeartbeats 2000000 in
theorem heavyTests_is {D:Nat→Prop} {A:Option Addr} {c:Nat} (l:List TestT) (w:World) (h:RowR repTestT D w A c l):Calls Tryz.prog 109 #[.slice A l.length c] w fun e w'=>e = .returned (.bool (l.any heavyT))∧w=w':=by
 have H:=Lib.hid h
 have hlc:=h.cap
 clear h
 go_enter Tryz.func109,Tryz.ntmps109
 go_wp2_with fail
 go_loopw [3] (fun s wr=>∃i:Nat,s = .int .i64 i∧i≤l.length∧(∀k,(h:k<l.length)→k<i→heavyT l[k]=false)∧wr=w) (fun s wr=>l.length - (intOf s).toNat)
 case atStart=>exact ⟨0,rfl,Nat.zero_le _,fun k _ h=>absurd h (by omega),rfl⟩
 case round=>
  obtain ⟨i,rfl,hi,hall,rfl⟩:=hrel
  have HALL:=Lib.hid hall
  clear hall
  by_cases hlt:i<l.length
  · obtain ⟨x,hx⟩ : ∃x,x=l[i]:=⟨_,rfl⟩
    obtain ⟨g,off,A1,c1,rfl,_,hgs,q0,q1,q2,q3,q4,q5,hr⟩:=at_TestT H.out hlt
    rw [← hx] at q0 q1 q2 q3 q4 q5 hr
    have hcap:=hr.cap
    have b1:(0:Int)≤(i:Int):=by omega
    have b2:(i:Int)<(l.length:Int):=by omega
    have HX:=Lib.hid hx
    have HYES:=Lib.hid (show heavyT x=true→l.any heavyT=true from fun h=>List.any_eq_true.2 ⟨x,by rw [HX.out];exact List.getElem_mem hlt,h⟩)
    clear hx hr
    cases t1:decide (20<x.list.length)
    · cases t2:decide (100<x.var.size)
      · cases t3:decide (100<x.sym.text.size)
        · have s1:decide ((20:Int)<(x.list.length:Int))=false:=by simp at t1 ⊢;omega
          have s2:decide ((100:Int)<(x.var.size:Int))=false:=by simp at t2 ⊢;omega
          have s3:decide ((100:Int)<(x.sym.text.size:Int))=false:=by simp at t3 ⊢;omega
          have HN:=Lib.hid (show heavyT x=false by simp [heavyT,t1,t2,t3])
          clear t1 t2 t3
          go_wp2_with fail
          go_roundw
          case rel=>
           refine ⟨i+1,by go_num,by omega,fun k h hk=>?_,by trivial⟩
           rcases Nat.lt_or_ge k i with h3 | h3
           · exact HALL.out k h h3
           · obtain rfl:k=i:=by omega
             rw [← HX.out]
             exact HN.out
          case measure=>simp [intOf]<;>omega
        · have s1:decide ((20:Int)<(x.list.length:Int))=false:=by simp at t1 ⊢;omega
          have s2:decide ((100:Int)<(x.var.size:Int))=false:=by simp at t2 ⊢;omega
          have s3:decide ((100:Int)<(x.sym.text.size:Int))=true:=by simp at t3 ⊢;omega
          have HN:=Lib.hid (HYES.out (by simp [heavyT,t3]))
          clear t1 t2 t3
          go_wp2_with fail
          go_ret
          exact ⟨by rw [HN.out];rfl,rfl⟩
      · have s1:decide ((20:Int)<(x.list.length:Int))=false:=by simp at t1 ⊢;omega
        have s2:decide ((100:Int)<(x.var.size:Int))=true:=by simp at t2 ⊢;omega
        have HN:=Lib.hid (HYES.out (by simp [heavyT,t2]))
        clear t1 t2
        go_wp2_with fail
        go_ret
        exact ⟨by rw [HN.out];rfl,rfl⟩
    · have s1:decide ((20:Int)<(x.list.length:Int))=true:=by simp at t1 ⊢;omega
      have HN:=Lib.hid (HYES.out (by simp [heavyT,t1]))
      clear t1
      go_wp2_with fail
      go_ret
      exact ⟨by rw [HN.out];rfl,rfl⟩
  · have hie:i=l.length:=by omega
    subst hie
    have HN:=Lib.hid (show l.any heavyT=false by
     rw [List.any_eq_false]
     intro x hx
     obtain ⟨k,hk,rfl⟩:=List.getElem_of_mem hx
     simp [HALL.out k hk hk])
    go_wp2_with fail
    go_ret
    exact ⟨by rw [HN.out];rfl,rfl⟩
set_option maxRecDepth 100000 in
set_option maxHeartbeats 4000000 in
theorem size_is (most:Nat) (hm:most≤1000) : ∀(n:Nat) (D:Nat→Prop) (A:Option Addr) (c:Nat) (d:Nat) (l:List CondT) (w:World),RowR (repCondT n) D w A c l→d≤21→
 Calls Tryz.prog 45 #[.slice A l.length c,.int .i64 (most:Int),.int .i64 (d:Int)] w fun e w'=>e = .returned (.int .i64 (sizeK most n d l:Int))∧w=w':=by
 intro n
 induction n with
 | zero=>
   intro D A c d l w h hd
   have hl0:l = []:=by
    cases l with
    | nil=>rfl
    | cons x l=>
      obtain ⟨b,off,cs,_,_,_,hr,_⟩:=h.at_ (k:=0) (by simp)
      exact hr.elim
   subst hl0
   clear h
   by_cases h20:20<d
   · have t1:decide ((20:Int)<(d:Int))=true:=by simp;omega
     have v1:IntKind.i64.wrap ((most:Int)+1)=(most:Int)+1:=IntWalk.i64_in _ (by omega)
     have HR:=Lib.hid (show ((sizeK most 0 d []:Nat):Int)=(most:Int)+1 by rw [sizeK,if_pos h20];rfl)
     clear h20
     go_enter Tryz.func45,Tryz.ntmps45
     go_wp2_with fail
     go_ret
     exact ⟨by rw [HR.out];rfl,rfl⟩
   · have t1:decide ((20:Int)<(d:Int))=false:=by simp;omega
     have v1:IntKind.i64.wrap ((most:Int)+1)=(most:Int)+1:=IntWalk.i64_in _ (by omega)
     have HR:=Lib.hid (show ((sizeK most 0 d []:Nat):Int)=0 by rw [sizeK,if_neg h20,if_pos rfl];rfl)
     have hmin:min (0:Int) ((most:Int)+1)=0:=by omega
     clear h20
     go_enter Tryz.func45,Tryz.ntmps45
     go_wp2_with fail
     go_loopw [7,8] (fun a s wr=>s = .int .i64 0∧a = .int .i64 0∧wr=w) (fun a s wr=>0)
     case atStart=>exact ⟨rfl,rfl,rfl⟩
     case round=>
      obtain ⟨rfl,rfl,rfl⟩:=hrel
      go_wp2_with fail
      go_ret
      exact ⟨by rw [HR.out];rfl,rfl⟩
 | succ n ih=>
   intro D A c d l w h hd
   have IH:=Lib.hid ih
   have H:=Lib.hid h
   have hlc:=h.cap
   clear h ih
   have v1:IntKind.i64.wrap ((most:Int)+1)=(most:Int)+1:=IntWalk.i64_in _ (by omega)
   by_cases h20:20<d
   · have t1:decide ((20:Int)<(d:Int))=true:=by simp;omega
     have HR:=Lib.hid (show ((sizeK most (n+1) d l:Nat):Int)=(most:Int)+1 by rw [sizeK,if_pos h20];rfl)
     clear h20
     go_enter Tryz.func45,Tryz.ntmps45
     go_wp2_with fail
     go_ret
     exact ⟨by rw [HR.out];rfl,rfl⟩
   · have t1:decide ((20:Int)<(d:Int))=false:=by simp;omega
     obtain ⟨f,hf⟩ : ∃f:CondT→Nat,f=fun c=>sizeK most n (d+1) c.conds:=⟨_,rfl⟩
     have hfle : ∀c,f c≤most+1:=fun c=>by
      rw [hf]
      cases n with
      | zero=>simp only [sizeK];split;omega;split<;>omega
      | succ n=>simp only [sizeK];split;omega;omega
     have HFLE:=Lib.hid hfle
     have HR:=Lib.hid (show ((sizeK most (n+1) d l:Nat):Int)=min ((goK most f l 0:Nat):Int) ((most:Int)+1) by rw [sizeK,if_neg h20,← hf];omega)
     have HF:=Lib.hid hf
     have hd20:d≤20:=by omega
     clear h20 hfle hf
     go_enter Tryz.func45,Tryz.ntmps45
     go_wp2_with fail
     go_loopw [7,8] (fun a s wr=>∃i:Nat,s = .int .i64 i∧i≤l.length∧a = .int .i64 ((goK most f (l.take i) 0:Nat):Int)∧goK most f (l.take i) 0≤2*most+2∧wr=w) (fun a s wr=>l.length - (intOf s).toNat)
     case atStart=>exact ⟨0,rfl,Nat.zero_le _,rfl,by simp [goK],rfl⟩
     case round=>
      obtain ⟨i,rfl,hi,rfl,hle,rfl⟩:=hrel
      obtain ⟨s,hs⟩ : ∃s,s=goK most f (l.take i) 0:=⟨_,rfl⟩
      rw [← hs] at hle ⊢
      have HS:=Lib.hid hs
      clear hs
      by_cases hlt:i<l.length
      · by_cases hsm:s≤most
        · have t2:decide ((s:Int)≤(most:Int))=true:=by simp;omega
          obtain ⟨x,hx⟩ : ∃x,x=l[i]:=⟨_,rfl⟩
          obtain ⟨g,off,A1,c1,A2,c2,A3,c3,rfl,_,hgs,q0,q1,q2,q3,q4,q5,q6,r1,r2,r3⟩:=at_CondT H.out hlt
          rw [← hx] at q6 r3
          have HR3:=Lib.hid r3
          have hn3:=r3.cap
          have b1:(0:Int)≤(i:Int):=by omega
          have b2:(i:Int)<(l.length:Int):=by omega
          obtain ⟨y,hy⟩ : ∃y,y=f x:=⟨_,rfl⟩
          have hyle:y≤most+1:=by rw [hy];exact HFLE.out x
          have HCL:=Lib.hid (show Calls Tryz.prog 45 #[.slice A3 x.conds.length c3,.int .i64 (most:Int),.int .i64 ((d:Int)+1)] wr fun e w'=>e = .returned (.int .i64 (y:Int))∧wr=w' by
           have:=IH.out D A3 c3 (d+1) x.conds wr HR3.out (by omega)
           rw [hy,HF.out]
           exact this)
          have HN:=Lib.hid (show goK most f (l.take (i+1)) 0=s+(1+y) by
           rw [List.take_succ_eq_append_getElem hlt,goK_snoc,← HS.out,if_pos hsm,← hx,hy])
          have v2:IntKind.i64.wrap ((d:Int)+1)=(d:Int)+1:=IntWalk.i64_in _ (by omega)
          have v3:IntKind.i64.wrap (1+(y:Int))=1+(y:Int):=IntWalk.i64_in _ (by omega)
          have v4:IntKind.i64.wrap ((s:Int)+(1+(y:Int)))=(s:Int)+(1+(y:Int)):=IntWalk.i64_in _ (by omega)
          clear hx hy r1 r2 r3 q0 q1 q2 q3 q4 q5
          go_wp2_with fail
          refine HCL.out.mono ?_
          rintro e w2 ⟨rfl,rfl⟩
          go_wp2_with fail
          go_roundw
          case rel=>exact ⟨i+1,by go_num,by omega,by rw [HN.out];simp,by rw [HN.out];omega,by trivial⟩
          case measure=>simp [intOf]<;>omega
        · have t2:decide ((s:Int)≤(most:Int))=false:=by simp;omega
          have b2:(i:Int)<(l.length:Int):=by omega
          have hmin:min (s:Int) ((most:Int)+1)=(most:Int)+1:=by omega
          have HN:=Lib.hid (show goK most f l 0=s by
           have:=goK_stop most f (l.take i) (l.drop i) 0 (by rw [← HS.out];exact hsm)
           rwa [List.take_append_drop,← HS.out] at this)
          clear hsm
          go_wp2_with fail
          go_ret
          exact ⟨by rw [HR.out,HN.out,hmin];rfl,rfl⟩
      · have hie:i=l.length:=by omega
        subst hie
        have HN:=Lib.hid (show goK most f l 0=s by rw [HS.out,List.take_length])
        obtain ⟨z,hz⟩ : ∃z,z=min (s:Int) ((most:Int)+1):=⟨_,rfl⟩
        have HZ:=Lib.hid hz
        clear hz
        go_wp2_with fail
        go_ret
        exact ⟨by rw [HR.out,HN.out];rfl,rfl⟩
theorem heavyC_succ (n:Nat) (l:List CondT):heavyC (n+1) l=l.any fun c=>heavyO c || heavyC n c.conds:=rfl
set_option maxRecDepth 100000 in
set_option maxHeartbeats 4000000 in
theorem heavyConds_is : ∀(n:Nat) (D:Nat→Prop) (A:Option Addr) (c:Nat) (l:List CondT) (w:World),RowR (repCondT n) D w A c l→
 Calls Tryz.prog 46 #[.slice A l.length c] w fun e w'=>e = .returned (.bool (heavyC n l))∧Below w.heap.size w w':=by
 intro n
 induction n with
 | zero=>
   intro D A c l w h
   have hl0:l = []:=by
    cases l with
    | nil=>rfl
    | cons x l=>
      obtain ⟨b,off,cs,_,_,_,hr,_⟩:=h.at_ (k:=0) (by simp)
      exact hr.elim
   subst hl0
   clear h
   go_enter Tryz.func46,Tryz.ntmps46
   go_wp2_with fail
   go_loopw [3] (fun s wr=>s = .int .i64 0∧wr=w) (fun s wr=>0)
   case atStart=>exact ⟨rfl,rfl⟩
   case round=>
    obtain ⟨rfl,rfl⟩:=hrel
    go_wp2_with fail
    go_ret
    exact ⟨rfl,Below.refl _ _⟩
 | succ n ih=>
   intro D A c l w h
   have IH:=Lib.hid ih
   have H:=Lib.hid h
   have hlc:=h.cap
   clear h ih
   obtain ⟨R,hR⟩ : ∃R,R=heavyC (n+1) l:=⟨_,rfl⟩
   rw [← hR]
   have HR:=Lib.hid (show R=l.any fun c=>heavyO c || heavyC n c.conds by rw [hR,heavyC_succ])
   clear hR
   go_enter Tryz.func46,Tryz.ntmps46
   go_wp2_with fail
   go_loopw [3] (fun s wr=>∃i:Nat,s = .int .i64 i∧i≤l.length∧(∀k,(h:k<l.length)→k<i→(heavyO l[k] || heavyC n l[k].conds)=false)∧Below w.heap.size w wr) (fun s wr=>l.length - (intOf s).toNat)
   case atStart=>exact ⟨0,rfl,Nat.zero_le _,fun k _ h=>absurd h (by omega),Below.refl _ _⟩
   case round=>
    obtain ⟨i,rfl,hi,hall,hB⟩:=hrel
    have HALL:=Lib.hid hall
    have HB0:=Lib.hid hB
    clear hall hB
    by_cases hlt:i<l.length
    · obtain ⟨x,hx⟩ : ∃x,x=l[i]:=⟨_,rfl⟩
      obtain ⟨g,off,A1,c1,A2,c2,A3,c3,rfl,_,hgs,q0,q1,q2,q3,q4,q5,q6,r1,r2,r3⟩:=at_CondT (H.out.new_ HB0.out) hlt
      rw [← hx] at q0 q1 q2 q3 q4 q5 q6 r1 r2 r3
      have HR1:=Lib.hid r1
      have HR2:=Lib.hid r2
      have HR3:=Lib.hid r3
      have hn1:=r1.cap
      have hn2:=r2.cap
      have hn3:=r3.cap
      have b1:(0:Int)≤(i:Int):=by omega
      have b2:(i:Int)<(l.length:Int):=by omega
      have HX:=Lib.hid hx
      have HYES:=Lib.hid (show (heavyO x || heavyC n x.conds)=true→R=true from fun h=>by rw [HR.out];exact List.any_eq_true.2 ⟨x,by rw [HX.out];exact List.getElem_mem hlt,h⟩)
      have hsz:=HB0.out.size
      clear hx r1 r2 r3
      go_upto_region 5 with fail
      obtain ⟨X,hX⟩ : ∃X,X=wr.alloc (.cells #[.int .i64 x.kind,.bool x.goal,.string x.id,.slice A1 x.attr.length c1,.slice A2 x.value.length c2,.bool x.acc,.slice A3 x.conds.length c3] 59):=⟨_,rfl⟩
      rw [← hX]
      have hbX:Below wr.heap.size wr X:=by rw [hX];exact (Below.refl _ _).alloc (Nat.le_refl _) _
      have Kx:=Lib.hid (show Blk X wr.heap.size 59 #[.int .i64 x.kind,.bool x.goal,.string x.id,.slice A1 x.attr.length c1,.slice A2 x.value.length c2,.bool x.acc,.slice A3 x.conds.length c3] by rw [hX];exact Blk.new _ _ _)
      have HB:=Lib.hid hbX
      have HBW:=Lib.hid (HB0.out.trans (hbX.mono hsz))
      clear hX hbX q0 q1 q2 q3 q4 q5 q6
      obtain ⟨-,-,x2,x3,x4,-,x6⟩:=Kx.out.c7
      have xz:=Kx.out.lt
      cases t1:decide (100<x.id.size)
      · skip
        cases t2:decide (10<x.attr.length)
        · skip
          cases t3:decide (10<x.value.length)
          · skip
            have s1:decide ((100:Int)<(x.id.size:Int))=false:=by simp at t1 ⊢;omega
            have s2:decide ((10:Int)<(x.attr.length:Int))=false:=by simp at t2 ⊢;omega
            have s3:decide ((10:Int)<(x.value.length:Int))=false:=by simp at t3 ⊢;omega
            cases t4:x.attr.any heavyT
            · skip
              cases t5:x.value.any heavyT
              · skip
                cases t6:heavyC n x.conds
                · skip
                  have hc1:=heavyTests_is x.attr X (HR1.out.new_ HB.out)
                  rw [t4] at hc1
                  have HC1:=Lib.hid hc1
                  clear hc1
                  have hc2:=heavyTests_is x.value X (HR2.out.new_ HB.out)
                  rw [t5] at hc2
                  have HC2:=Lib.hid hc2
                  clear hc2
                  have hc3:=IH.out D A3 c3 x.conds X (HR3.out.new_ HB.out)
                  rw [t6] at hc3
                  have HC3:=Lib.hid hc3
                  clear hc3
                  have HN:=Lib.hid (show (heavyO x || heavyC n x.conds)=false by simp [heavyO,t1,t2,t3,t4,t5,t6])
                  clear t1 t2 t3 t4 t5 t6
                  go_wp2_with fail
                  refine HC1.out.mono ?_
                  rintro e w9 ⟨rfl,rfl⟩
                  go_wp2_with fail
                  refine HC2.out.mono ?_
                  rintro e w9 ⟨rfl,rfl⟩
                  go_wp2_with fail
                  refine HC3.out.mono ?_
                  rintro e w5 ⟨rfl,hb5⟩
                  have HB5:=Lib.hid (HBW.out.trans (hb5.mono HBW.out.size))
                  clear hb5
                  clear x2 x3 x4 x6
                  go_wp2_with fail
                  go_roundw
                  case rel=>
                   refine ⟨i+1,by go_num,by omega,fun k h hk=>?_,HB5.out⟩
                   rcases Nat.lt_or_ge k i with h3 | h3
                   · exact HALL.out k h h3
                   · obtain rfl:k=i:=by omega
                     rw [← HX.out]
                     exact HN.out
                  case measure=>simp [intOf]<;>omega
                · skip
                  have hc1:=heavyTests_is x.attr X (HR1.out.new_ HB.out)
                  rw [t4] at hc1
                  have HC1:=Lib.hid hc1
                  clear hc1
                  have hc2:=heavyTests_is x.value X (HR2.out.new_ HB.out)
                  rw [t5] at hc2
                  have HC2:=Lib.hid hc2
                  clear hc2
                  have hc3:=IH.out D A3 c3 x.conds X (HR3.out.new_ HB.out)
                  rw [t6] at hc3
                  have HC3:=Lib.hid hc3
                  clear hc3
                  have HN:=Lib.hid (HYES.out (by simp [t6]))
                  clear t1 t2 t3 t4 t5 t6
                  go_wp2_with fail
                  refine HC1.out.mono ?_
                  rintro e w9 ⟨rfl,rfl⟩
                  go_wp2_with fail
                  refine HC2.out.mono ?_
                  rintro e w9 ⟨rfl,rfl⟩
                  go_wp2_with fail
                  refine HC3.out.mono ?_
                  rintro e w5 ⟨rfl,hb5⟩
                  have HB5:=Lib.hid (HBW.out.trans (hb5.mono HBW.out.size))
                  clear hb5
                  clear x2 x3 x4 x6
                  go_wp2_with fail
                  go_ret
                  exact ⟨by rw [HN.out];rfl,HB5.out⟩
              · skip
                have hc1:=heavyTests_is x.attr X (HR1.out.new_ HB.out)
                rw [t4] at hc1
                have HC1:=Lib.hid hc1
                clear hc1
                have hc2:=heavyTests_is x.value X (HR2.out.new_ HB.out)
                rw [t5] at hc2
                have HC2:=Lib.hid hc2
                clear hc2
                have HN:=Lib.hid (HYES.out (by simp [heavyO,t5]))
                clear t1 t2 t3 t4 t5
                go_wp2_with fail
                refine HC1.out.mono ?_
                rintro e w9 ⟨rfl,rfl⟩
                go_wp2_with fail
                refine HC2.out.mono ?_
                rintro e w9 ⟨rfl,rfl⟩
                go_wp2_with fail
                go_ret
                exact ⟨by rw [HN.out];rfl,HBW.out⟩
            · skip
              have hc1:=heavyTests_is x.attr X (HR1.out.new_ HB.out)
              rw [t4] at hc1
              have HC1:=Lib.hid hc1
              clear hc1
              have HN:=Lib.hid (HYES.out (by simp [heavyO,t4]))
              clear t1 t2 t3 t4
              go_wp2_with fail
              refine HC1.out.mono ?_
              rintro e w9 ⟨rfl,rfl⟩
              go_wp2_with fail
              go_ret
              exact ⟨by rw [HN.out];rfl,HBW.out⟩
          · skip
            have s1:decide ((100:Int)<(x.id.size:Int))=false:=by simp at t1 ⊢;omega
            have s2:decide ((10:Int)<(x.attr.length:Int))=false:=by simp at t2 ⊢;omega
            have s3:decide ((10:Int)<(x.value.length:Int))=true:=by simp at t3 ⊢;omega
            have HN:=Lib.hid (HYES.out (by simp [heavyO,t3]))
            clear t1 t2 t3
            go_wp2_with fail
            go_ret
            exact ⟨by rw [HN.out];rfl,HBW.out⟩
        · skip
          have s1:decide ((100:Int)<(x.id.size:Int))=false:=by simp at t1 ⊢;omega
          have s2:decide ((10:Int)<(x.attr.length:Int))=true:=by simp at t2 ⊢;omega
          have HN:=Lib.hid (HYES.out (by simp [heavyO,t2]))
          clear t1 t2
          go_wp2_with fail
          go_ret
          exact ⟨by rw [HN.out];rfl,HBW.out⟩
      · skip
        have s1:decide ((100:Int)<(x.id.size:Int))=true:=by simp at t1 ⊢;omega
        have HN:=Lib.hid (HYES.out (by simp [heavyO,t1]))
        clear t1
        go_wp2_with fail
        go_ret
        exact ⟨by rw [HN.out];rfl,HBW.out⟩
    · have hie:i=l.length:=by omega
      subst hie
      have HN:=Lib.hid (show R=false by
       rw [HR.out,List.any_eq_false]
       intro x hx
       obtain ⟨k,hk,rfl⟩:=List.getElem_of_mem hx
       have:=HALL.out k hk hk
       simpa using this)
      go_wp2_with fail
      go_ret
      exact ⟨by rw [HN.out];rfl,HB0.out⟩
set_option maxRecDepth 100000 in
set_option maxHeartbeats 4000000 in
theorem heavy_is {D:Nat→Prop} (n:Nat) (p:ProdT) (A1 A2:Option Addr) (c1 c2:Nat) (w:World) (h1:RowR (repCondT n) D w A1 c1 p.conds) (h2:RowR repActT D w A2 c2 p.acts) :
 Calls Tryz.prog 9 #[.agg #[.string p.name,.slice A1 p.conds.length c1,.slice A2 p.acts.length c2]] w fun e w'=>e = .returned (.bool (heavyP n p))∧Below w.heap.size w w':=by
 have H1:=Lib.hid h1
 have hac:=h2.cap
 obtain ⟨R,hR⟩ : ∃R,R=heavyP n p:=⟨_,rfl⟩
 rw [← hR]
 have HR:=Lib.hid hR
 obtain ⟨s,hs⟩ : ∃s,s=sizeK 40 n 0 p.conds:=⟨_,rfl⟩
 unfold heavyP at hR
 rw [← hs] at hR
 have HV:=Lib.hid hR
 clear hR h1 h2
 go_enter Tryz.func9,Tryz.ntmps9
 go_upto_region 1 with fail
 obtain ⟨w1,hw1⟩ : ∃w1,w1=(w.alloc (.cells #[.string p.name,.slice A1 p.conds.length c1,.slice A2 p.acts.length c2] 25)):=⟨_,rfl⟩
 rw [← hw1]
 have HB:=Lib.hid (show Below w.heap.size w w1 by rw [hw1];exact (by repeat (first | exact Below.refl _ _ | refine Below.drew ?_ | refine Below.al ?_ _ | refine Below.sc ?_ _)))
 have Kp:=Lib.hid (show Blk w1 (w.heap.size) 25 #[.string p.name,.slice A1 p.conds.length c1,.slice A2 p.acts.length c2] by rw [hw1];exact (Blk.new w 25 #[.string p.name,.slice A1 p.conds.length c1,.slice A2 p.acts.length c2]))
 clear hw1
 obtain ⟨p0,p1,p2⟩:=Kp.out.c3
 have pz:=Kp.out.lt
 have hc1:Calls Tryz.prog 45 #[.slice A1 p.conds.length c1,.int .i64 40,.int .i64 0] w1 _:=size_is 40 (by decide) n D A1 c1 0 p.conds w1 (H1.out.new_ HB.out) (by decide)
 rw [← hs] at hc1
 have HC1:=Lib.hid hc1
 clear hc1 hs
 cases t1:decide (40<s)
 · skip
   cases t2:decide (40<p.acts.length)
   · skip
     cases t3:decide (100<p.name.size)
     · skip
       have s1:decide ((40:Int)<(s:Int))=false:=by simp at t1 ⊢;omega
       have s2:decide ((40:Int)<(p.acts.length:Int))=false:=by simp at t2 ⊢;omega
       have s3:decide ((100:Int)<(p.name.size:Int))=false:=by simp at t3 ⊢;omega
       have HN:=Lib.hid (show R=heavyC n p.conds by rw [HV.out,t1,t2,t3];simp)
       clear t1 t2 t3
       go_wp2_with fail
       with_reducible refine (HC1.out).mono ?_
       rintro e w0 ⟨rfl,rfl⟩
       go_wp2_with fail
       with_reducible refine (heavyConds_is n D A1 c1 p.conds _ (H1.out.new_ HB.out)).mono ?_
       rintro e w2 ⟨rfl,hb⟩
       have hbs:=Below.trans (show Below w1.heap.size w1 _ from (by (repeat (first | exact Below.refl _ _ | refine Below.drew ?_ | refine Below.al ?_ _ | refine Below.sc ?_ _)))) (hb.mono (by simp<;>omega))
       have Kp:=Lib.hid (Kp.out.new_ hbs)
       have HB:=Lib.hid (HB.out.trans (hbs.mono HB.out.size))
       have hsz2:=hbs.size
       clear p0 p1 p2 pz hb hbs
       obtain ⟨p0,p1,p2⟩:=Kp.out.c3
       have pz:=Kp.out.lt
       go_wp2_with fail
       go_ret
       exact ⟨by rw [HN.out];rfl,HB.out⟩
     · skip
       have s1:decide ((40:Int)<(s:Int))=false:=by simp at t1 ⊢;omega
       have s2:decide ((40:Int)<(p.acts.length:Int))=false:=by simp at t2 ⊢;omega
       have s3:decide ((100:Int)<(p.name.size:Int))=true:=by simp at t3 ⊢;omega
       have HN:=Lib.hid (show R=true by rw [HV.out,t1,t2,t3];simp)
       clear t1 t2 t3
       go_wp2_with fail
       with_reducible refine (HC1.out).mono ?_
       rintro e w0 ⟨rfl,rfl⟩
       go_wp2_with fail
       go_ret
       exact ⟨by rw [HN.out];rfl,HB.out⟩
   · skip
     have s1:decide ((40:Int)<(s:Int))=false:=by simp at t1 ⊢;omega
     have s2:decide ((40:Int)<(p.acts.length:Int))=true:=by simp at t2 ⊢;omega
     have HN:=Lib.hid (show R=true by rw [HV.out,t1,t2];simp)
     clear t1 t2
     go_wp2_with fail
     with_reducible refine (HC1.out).mono ?_
     rintro e w0 ⟨rfl,rfl⟩
     go_wp2_with fail
     go_ret
     exact ⟨by rw [HN.out];rfl,HB.out⟩
 · skip
   have s1:decide ((40:Int)<(s:Int))=true:=by simp at t1 ⊢;omega
   have HN:=Lib.hid (show R=true by rw [HV.out,t1];simp)
   clear t1
   go_wp2_with fail
   with_reducible refine (HC1.out).mono ?_
   rintro e w0 ⟨rfl,rfl⟩
   go_wp2_with fail
   go_ret
   exact ⟨by rw [HN.out];rfl,HB.out⟩
theorem heavyP_light {n:Nat} {p:ProdT} (h:heavyP n p=false):(∀{D:Nat→Prop} {w:World} {A:Option Addr} {c:Nat},RowR (repCondT n) D w A c p.conds→RowR (repCondT 20) D w A c p.conds)∧(∀m e,(flatC m e p.conds).length≤40)∧p.acts.length≤40∧p.name.size≤100:=by
 unfold heavyP at h
 simp only [Bool.or_eq_false_iff,decide_eq_false_iff_not] at h
 obtain ⟨h1,h2,h3,h4⟩:=h
 have h5:sizeK 40 n 0 p.conds≤40:=by omega
 exact ⟨fun g=>(sizeK_deep 40 n 0 p.conds h5).2 g,fun m e=>Nat.le_trans (sizeK_flat 40 n m 0 e p.conds h5) h5,by omega,by omega⟩
end Go.Proofs.YtffemfglngikbaaGreat
namespace Go.Proofs.YtffemfglngikbaaGreat
open Go.RowKit Go.Shelf
theorem sizeK_zero {d:Nat} {l:List CondT} (h:sizeK 40 0 d l≤40):l = []:=by
 rw [sizeK] at h
 by_cases h1:20<d
 · rw [if_pos h1] at h;omega
 · rw [if_neg h1] at h
   by_cases h2:l = []
   · exact h2
   · rw [if_neg h2] at h;omega
theorem sizeK_go {n d:Nat} {l:List CondT} (h:sizeK 40 (n+1) d l≤40):sizeK 40 (n+1) d l=(l.map fun c=>1+sizeK 40 n (d+1) c.conds).sum∧∀c∈l,sizeK 40 n (d+1) c.conds≤40:=by
 rw [sizeK] at h ⊢
 by_cases h1:20<d
 · rw [if_pos h1] at h;omega
 · rw [if_neg h1] at h ⊢
   obtain ⟨g1,g2⟩:=goK_all 40 (fun c=>sizeK 40 n (d+1) c.conds) l 0 (by omega)
   exact ⟨by omega,g2⟩
theorem len_sum (f:CondT→Nat) : ∀l:List CondT,l.length≤(l.map fun c=>1+f c).sum
 | []=>by simp
 | c :: l=>by have:=len_sum f l;rw [List.map_cons,List.sum_cons,List.length_cons];omega
theorem sizeK_len : ∀(n d:Nat) (l:List CondT),sizeK 40 n d l≤40→l.length≤40
 | 0,d,l,h=>by rw [sizeK_zero h];simp
 | n+1,d,l,h=>by
   obtain ⟨g1,_⟩:=sizeK_go h
   have:=len_sum (fun c=>sizeK 40 n (d+1) c.conds) l
   omega
theorem heavy_in {n:Nat} {l:List CondT} (h:heavyC (n+1) l=false) {c:CondT} (hc:c∈l):heavyO c=false∧heavyC n c.conds=false:=by
 have h2:=List.any_eq_false.1 (show (l.any fun c=>heavyO c || heavyC n c.conds)=false from h) c hc
 simp only [Bool.or_eq_true,not_or,Bool.not_eq_true] at h2
 exact h2
theorem heavyT_sm {l:List TestT} (h1:l.length≤10) (h2:l.any heavyT=false):SmT l:=by
 refine ⟨by omega,fun t ht=>?_⟩
 have h3:=List.any_eq_false.1 h2 t ht
 unfold heavyT at h3
 simp only [Bool.or_eq_true,decide_eq_true_eq,not_or] at h3
 omega
theorem heavyO_sm {c:CondT} (h:heavyO c=false):c.id.size≤100∧c.attr.length≤10∧c.value.length≤10∧SmT c.attr∧SmT c.value∧c.attr.any heavyT=false∧c.value.any heavyT=false:=by
 unfold heavyO at h
 simp only [Bool.or_eq_false_iff,decide_eq_false_iff_not] at h
 obtain ⟨h1,h2,h3,h4,h5⟩:=h
 exact ⟨by omega,by omega,by omega,heavyT_sm (by omega) h4,heavyT_sm (by omega) h5,h4,h5⟩
theorem smc_of40 : ∀(n d m:Nat) (l:List CondT),sizeK 40 n d l≤40→heavyC n l=false→∀c∈l,SmC m c
 | 0,d,m,l,h1,_,c,hc=>by rw [sizeK_zero h1] at hc;cases hc
 | n+1,d,0,l,_,_,c,hc=>trivial
 | n+1,d,m+1,l,h1,h2,c,hc=>by
   obtain ⟨g1,g2⟩:=sizeK_go h1
   obtain ⟨k1,k2⟩:=heavy_in h2 hc
   obtain ⟨-,-,-,s1,s2,-,-⟩:=heavyO_sm k1
   have:=sizeK_len n (d+1) c.conds (g2 c hc)
   exact ⟨s1,s2,by omega,smc_of40 n (d+1) m c.conds (g2 c hc) k2⟩
theorem flat_sum40 {β:Type} (f:CondT→List β) (g:CondT→Nat) (k:Nat) : ∀l:List CondT,(∀c∈l,(f c).length≤k*g c)→(l.flatMap f).length≤k*(l.map g).sum
 | [],_=>by simp
 | c :: l,h=>by
   have h1:=h c (by simp)
   have h2:=flat_sum40 f g k l (fun x hx=>h x (by simp [hx]))
   rw [List.flatMap_cons,List.length_append,List.map_cons,List.sum_cons,Nat.mul_add]
   omega
theorem names_len40 : ∀(n d m:Nat) (l:List CondT),sizeK 40 n d l≤40→heavyC n l=false→(l.flatMap (namesN m)).length≤21*sizeK 40 n d l
 | 0,d,m,l,h1,_=>by rw [sizeK_zero h1];simp
 | n+1,d,0,l,_,_=>by
   have:l.flatMap (namesN 0) = []:=by
    rw [List.flatMap_eq_nil_iff]
    intro x _
    rfl
   rw [this];simp
 | n+1,d,m+1,l,h1,h2=>by
   obtain ⟨g1,g2⟩:=sizeK_go h1
   rw [g1]
   refine flat_sum40 (namesN (m+1)) (fun c:CondT=>1+sizeK 40 n (d+1) c.conds) 21 l (fun c hc=>?_)
   obtain ⟨k1,k2⟩:=heavy_in h2 hc
   obtain ⟨-,s1,s2,-⟩:=heavyO_sm k1
   have h5:=names_len40 n (d+1) m c.conds (g2 c hc) k2
   have k1:=varsT_len c.attr
   have k2:=varsT_len c.value
   have k3:=oneN_len c.id
   rw [namesN,List.length_append,List.length_append,List.length_append]
   omega
theorem varsA_len (a:ActT):(varsA a).length≤5:=by
 have h1:=oneN_len a.id
 have h2:=oneN_len a.attr.var
 have h3:=oneN_len a.value.a.var
 have h4:=oneN_len a.value.b.var
 have h5:=oneN_len a.other.var
 simp only [varsA,fives,List.flatMap_cons,List.flatMap_nil,List.length_append,List.length_nil]
 omega
theorem varsAs_len : ∀l:List ActT,(l.flatMap varsA).length≤5*l.length
 | []=>by simp
 | a :: l=>by have h1:=varsA_len a;have h2:=varsAs_len l;rw [List.flatMap_cons,List.length_append,List.length_cons];omega
theorem heavyP_no {n:Nat} {p:ProdT} (h:heavyP n p=false):sizeK 40 n 0 p.conds≤40∧p.acts.length≤40∧p.name.size≤100∧heavyC n p.conds=false:=by
 unfold heavyP at h
 simp only [Bool.or_eq_false_iff,decide_eq_false_iff_not] at h
 obtain ⟨h1,h2,h3,h4⟩:=h
 exact ⟨by omega,by omega,by omega,h4⟩
theorem vars_len40 {n:Nat} {p:ProdT} (h:heavyP n p=false) (m:Nat):(varsP m p).length≤1100:=by
 obtain ⟨h1,h2,_,h4⟩:=heavyP_no h
 have g1:=names_len40 n 0 m p.conds h1 h4
 have g2:=varsAs_len p.acts
 unfold varsP
 rw [List.length_append]
 omega
theorem fit_of {n:Nat} {p:ProdT} (h:heavyP n p=false) {D:Nat→Prop} {w:World} {A:Option Addr} {c:Nat} (hr:RowR (repCondT n) D w A c p.conds):RowR (repCondT 20) D w A c p.conds∧Fit 20 p:=by
 obtain ⟨h1,h2,_,h4⟩:=heavyP_no h
 have hr20:=(heavyP_light h).1 hr
 exact ⟨hr20,⟨by have:=sizeK_len n 0 p.conds h1;omega,by omega,smc_of40 n 0 20 p.conds h1 h4,by have:=vars_len40 h 20;omega,by have:=(heavyP_light h).2.1 20 0;omega,by omega,row_dp 20 hr20⟩⟩
end Go.Proofs.YtffemfglngikbaaGreat
namespace Go.Proofs.YtffemfglngikbaaGreat
open Go.RowKit Go.Shelf
theorem neqs_ActT (x:ActT) (W:World):(binOp .neq 99 (.agg #[.string x.id,.string x.attr.var,.int .i64 x.attr.sym.kind,.string x.attr.sym.text,.int .i64 x.attr.sym.n,.int .i64 x.value.op,.string x.value.a.var,.int .i64 x.value.a.sym.kind,.string x.value.a.sym.text,.int .i64 x.value.a.sym.n,.string x.value.b.var,.int .i64 x.value.b.sym.kind,.string x.value.b.sym.text,.int .i64 x.value.b.sym.n,.int .i64 x.pref,.string x.other.var,.int .i64 x.other.sym.kind,.string x.other.sym.text,.int .i64 x.other.sym.n]) (.agg #[.string x.id,.string x.attr.var,.int .i64 x.attr.sym.kind,.string x.attr.sym.text,.int .i64 x.attr.sym.n,.int .i64 x.value.op,.string x.value.a.var,.int .i64 x.value.a.sym.kind,.string x.value.a.sym.text,.int .i64 x.value.a.sym.n,.string x.value.b.var,.int .i64 x.value.b.sym.kind,.string x.value.b.sym.text,.int .i64 x.value.b.sym.n,.int .i64 x.pref,.string x.other.var,.int .i64 x.other.sym.kind,.string x.other.sym.text,.int .i64 x.other.sym.n])).run Tryz.prog W = .ok (.bool false) W:=by
 rw [run_neq_struct]
 go_simp
set_option maxRecDepth 100000 in
set_option maxHeartbeats 4000000 in
theorem acts_same {D D':Nat→Prop} {A B:Option Addr} {c d:Nat} (l:List ActT) (w:World) (hl:RowR repActT D w A c l) (hm:RowR repActT D' w B d l) :
 Calls Tryz.prog 86 #[.slice A l.length c,.slice B l.length d] w fun e w'=>e = .returned (.bool true)∧Below w.heap.size w w':=by
 have HL:=Lib.hid hl
 have HM:=Lib.hid hm
 have hlc:=hl.cap
 clear hl hm
 go_enter Tryz.func86,Tryz.ntmps86
 go_wp2_with fail
 go_loopw [5] (fun s wr=>∃i:Nat,s = .int .i64 i∧i≤l.length∧Below w.heap.size w wr) (fun s wr=>l.length - (intOf s).toNat)
 case atStart=>exact ⟨0,rfl,Nat.zero_le _,Below.refl _ _⟩
 case round=>
  obtain ⟨i,rfl,hi,hB⟩:=hrel
  have HB:=Lib.hid hB
  clear hB
  by_cases hlt:i<l.length
  · obtain ⟨y,hy⟩ : ∃y,y=l[i]:=⟨_,rfl⟩
    have b1:(0:Int)≤(i:Int):=by omega
    have b2:(i:Int)<(l.length:Int):=by omega
    have HY:=Lib.hid hy
    obtain ⟨g,off,hAA,_,hgs,_⟩:=at_ActT (HL.out.new_ HB.out) hlt
    subst hAA
    obtain ⟨g2,off2,hAA,_,hgs2,_⟩:=at_ActT (HM.out.new_ HB.out) hlt
    subst hAA
    have LA:=Lib.hid (show ∀w9,Below wr.heap.size wr w9→w9.rangeAt g (off+i*19) [.string y.id,.string y.attr.var,.int .i64 y.attr.sym.kind,.string y.attr.sym.text,.int .i64 y.attr.sym.n,.int .i64 y.value.op,.string y.value.a.var,.int .i64 y.value.a.sym.kind,.string y.value.a.sym.text,.int .i64 y.value.a.sym.n,.string y.value.b.var,.int .i64 y.value.b.sym.kind,.string y.value.b.sym.text,.int .i64 y.value.b.sym.n,.int .i64 y.pref,.string y.other.var,.int .i64 y.other.sym.kind,.string y.other.sym.text,.int .i64 y.other.sym.n] from fun w9 h9 j v hv=>by
     obtain ⟨g',off',cs,e1,_,_,hr,hc⟩:=(HL.out.new_ (HB.out.trans (h9.mono HB.out.size))).at_ hlt
     cases e1
     have hr2:cs=ActT.cells l[i]:=hr
     subst hr2
     rw [← HY.out] at hc
     exact hc j v hv)
    have LB:=Lib.hid (show ∀w9,Below wr.heap.size wr w9→w9.rangeAt g2 (off2+i*19) [.string y.id,.string y.attr.var,.int .i64 y.attr.sym.kind,.string y.attr.sym.text,.int .i64 y.attr.sym.n,.int .i64 y.value.op,.string y.value.a.var,.int .i64 y.value.a.sym.kind,.string y.value.a.sym.text,.int .i64 y.value.a.sym.n,.string y.value.b.var,.int .i64 y.value.b.sym.kind,.string y.value.b.sym.text,.int .i64 y.value.b.sym.n,.int .i64 y.pref,.string y.other.var,.int .i64 y.other.sym.kind,.string y.other.sym.text,.int .i64 y.other.sym.n] from fun w9 h9 j v hv=>by
     obtain ⟨g',off',cs,e1,_,_,hr,hc⟩:=(HM.out.new_ (HB.out.trans (h9.mono HB.out.size))).at_ hlt
     cases e1
     have hr2:cs=ActT.cells l[i]:=hr
     subst hr2
     rw [← HY.out] at hc
     exact hc j v hv)
    have hbe:=fun W=>neqs_ActT y W
    clear hy
    go_wp2_with fail
    refine wp_region_E (fun w9=>Below wr.heap.size wr w9) [(0,0),(1,0),(2,0),(3,1),(4,0),(5,0),(6,0),(7,1),(8,0)] (by kernel_rfl) (by kernel_rfl) (fun KK hKK=>?_)
    simp only [beside,List.filterMap_cons,List.filterMap_nil,List.getElem?_toArray,List.getElem?_cons_zero,List.getElem?_cons_succ,Option.map_some]
    repeat ((first | (refine wpX_l _ ((Below.refl _ _).drew) (yieldsIf_load_mid (by rfl) 99 _ rfl g (off+i*19) rfl [.string y.id,.string y.attr.var,.int .i64 y.attr.sym.kind,.string y.attr.sym.text,.int .i64 y.attr.sym.n,.int .i64 y.value.op,.string y.value.a.var,.int .i64 y.value.a.sym.kind,.string y.value.a.sym.text,.int .i64 y.value.a.sym.n,.string y.value.b.var,.int .i64 y.value.b.sym.kind,.string y.value.b.sym.text,.int .i64 y.value.b.sym.n,.int .i64 y.pref,.string y.other.var,.int .i64 y.other.sym.kind,.string y.other.sym.text,.int .i64 y.other.sym.n] _ LA.out Tryz.underlying99 rfl (by kernel_rfl)) ?_) | (refine wpX_l _ ((Below.refl _ _).drew) (yieldsIf_load_mid (by rfl) 99 _ rfl g2 (off2+i*19) rfl [.string y.id,.string y.attr.var,.int .i64 y.attr.sym.kind,.string y.attr.sym.text,.int .i64 y.attr.sym.n,.int .i64 y.value.op,.string y.value.a.var,.int .i64 y.value.a.sym.kind,.string y.value.a.sym.text,.int .i64 y.value.a.sym.n,.string y.value.b.var,.int .i64 y.value.b.sym.kind,.string y.value.b.sym.text,.int .i64 y.value.b.sym.n,.int .i64 y.pref,.string y.other.var,.int .i64 y.other.sym.kind,.string y.other.sym.text,.int .i64 y.other.sym.n] _ LB.out Tryz.underlying99 rfl (by kernel_rfl)) ?_) | (refine wpX_w ?_ (Or.inl ⟨by rfl,fun w9=>?_⟩) ?_;rotate_left 1;go_simp;with_reducible rfl) | (refine wpX_l ?_ (((Below.refl _ _).drew)) (Or.inl ⟨by rfl,fun w9 hw9=>?_⟩) ?_;rotate_left 1;fail;go_simp;with_reducible rfl) | refine wpX_w undef (Or.inr ⟨by rfl,rfl⟩) ?_ | refine wpX_l undef (((Below.refl _ _).drew)) (Or.inr ⟨by rfl,rfl⟩) ?_);go_frame)
    refine wpX_nil ?_
    simp only [OnlyN_normal]
    refine hKK _ _ ?_
    clear hKK KK
    have HB2:=Lib.hid (HB.out.drew)
    go_wp2_with fail
    go_roundw
    case rel=>exact ⟨i+1,by go_num,by omega,HB2.out⟩
    case measure=>simp [intOf]<;>omega
  · obtain rfl:i=l.length:=by omega
    go_wp2_with fail
    go_ret
    exact ⟨rfl,HB.out⟩
end Go.Proofs.YtffemfglngikbaaGreat
namespace Go.Proofs.YtffemfglngikbaaGreat
open Go.RowKit Go.Shelf
set_option maxRecDepth 100000 in
set_option maxHeartbeats 4000000 in
theorem prod_same {D D':Nat→Prop} (n:Nat) (p:ProdT) (A1:Option Addr) (c1:Nat) (A2:Option Addr) (c2:Nat) (B1:Option Addr) (d1:Nat) (B2:Option Addr) (d2:Nat) (w:World) (g1:RowR (repCondT n) D w A1 c1 p.conds) (g2:RowR repActT D w A2 c2 p.acts) (k1:RowR (repCondT n) D' w B1 d1 p.conds) (k2:RowR repActT D' w B2 d2 p.acts) :
 Calls Tryz.prog 33 #[.agg #[.string p.name,.slice A1 p.conds.length c1,.slice A2 p.acts.length c2],.agg #[.string p.name,.slice B1 p.conds.length d1,.slice B2 p.acts.length d2]] w fun e w'=>e = .returned (.bool true)∧Below w.heap.size w w':=by
 have G1:=Lib.hid g1
 have G2:=Lib.hid g2
 have K1:=Lib.hid k1
 have K2:=Lib.hid k2
 clear g1 g2 k1 k2
 go_enter Tryz.func33,Tryz.ntmps33
 go_upto_region 1 with fail
 obtain ⟨w1,hw1⟩ : ∃w1,w1=((w.alloc (.cells #[.string p.name,.slice A1 p.conds.length c1,.slice A2 p.acts.length c2] 25)).alloc (.cells #[.string p.name,.slice B1 p.conds.length d1,.slice B2 p.acts.length d2] 25)):=⟨_,rfl⟩
 rw [← hw1]
 have HB:=Lib.hid (show Below w.heap.size w w1 by rw [hw1];exact (by repeat (first | exact Below.refl _ _ | refine Below.drew ?_ | refine Below.al ?_ _ | refine Below.sc ?_ _)))
 have Ka:=Lib.hid (show Blk w1 (w.heap.size) 25 #[.string p.name,.slice A1 p.conds.length c1,.slice A2 p.acts.length c2] by rw [hw1];exact ((Blk.new w 25 #[.string p.name,.slice A1 p.conds.length c1,.slice A2 p.acts.length c2]).alloc (.cells #[.string p.name,.slice B1 p.conds.length d1,.slice B2 p.acts.length d2] 25)))
 have Kb:=Lib.hid (show Blk w1 (w.heap.size+1) 25 #[.string p.name,.slice B1 p.conds.length d1,.slice B2 p.acts.length d2] by rw [hw1];have hh:=(Blk.new (w.alloc (.cells #[.string p.name,.slice A1 p.conds.length c1,.slice A2 p.acts.length c2] 25)) 25 #[.string p.name,.slice B1 p.conds.length d1,.slice B2 p.acts.length d2]);simp only [World.size_alloc] at hh;exact hh)
 clear hw1
 obtain ⟨a0,a1,a2⟩:=Ka.out.c3
 have az:=Ka.out.lt
 obtain ⟨b0,b1,b2⟩:=Kb.out.c3
 have bz:=Kb.out.lt
 go_wp2_with fail
 with_reducible refine (conds_same n _ _ _ _ _ _ p.conds _ (G1.out.new_ (by (repeat (first | exact Below.refl _ _ | exact HB.out | refine Below.drew ?_ | refine Below.al ?_ _ | refine Below.sc ?_ _)))) (K1.out.new_ (by (repeat (first | exact Below.refl _ _ | exact HB.out | refine Below.drew ?_ | refine Below.al ?_ _ | refine Below.sc ?_ _))))).mono ?_
 rintro e w2 ⟨rfl,hb⟩
 have hbs:=Below.trans (show Below w1.heap.size w1 _ from (by (repeat (first | exact Below.refl _ _ | refine Below.drew ?_ | refine Below.al ?_ _ | refine Below.sc ?_ _)))) (hb.mono (by simp<;>omega))
 have Ka:=Lib.hid (Ka.out.new_ hbs)
 have Kb:=Lib.hid (Kb.out.new_ hbs)
 have HB:=Lib.hid (HB.out.trans (hbs.mono HB.out.size))
 have hsz2:=hbs.size
 clear a0 a1 a2 az b0 b1 b2 bz hb hbs
 obtain ⟨a0,a1,a2⟩:=Ka.out.c3
 have az:=Ka.out.lt
 obtain ⟨b0,b1,b2⟩:=Kb.out.c3
 have bz:=Kb.out.lt
 go_wp2_with fail
 with_reducible refine (acts_same p.acts _ (G2.out.new_ (by (repeat (first | exact Below.refl _ _ | exact HB.out | refine Below.drew ?_ | refine Below.al ?_ _ | refine Below.sc ?_ _)))) (K2.out.new_ (by (repeat (first | exact Below.refl _ _ | exact HB.out | refine Below.drew ?_ | refine Below.al ?_ _ | refine Below.sc ?_ _))))).mono ?_
 rintro e w3 ⟨rfl,hb⟩
 have hbs:=Below.trans (show Below w2.heap.size w2 _ from (by (repeat (first | exact Below.refl _ _ | refine Below.drew ?_ | refine Below.al ?_ _ | refine Below.sc ?_ _)))) (hb.mono (by simp<;>omega))
 have Ka:=Lib.hid (Ka.out.new_ hbs)
 have Kb:=Lib.hid (Kb.out.new_ hbs)
 have HB:=Lib.hid (HB.out.trans (hbs.mono HB.out.size))
 have hsz3:=hbs.size
 clear a0 a1 a2 az b0 b1 b2 bz hb hbs
 obtain ⟨a0,a1,a2⟩:=Ka.out.c3
 have az:=Ka.out.lt
 obtain ⟨b0,b1,b2⟩:=Kb.out.c3
 have bz:=Kb.out.lt
 go_wp2_with fail
 go_ret
 exact ⟨rfl,by (repeat (first | exact Below.refl _ _ | exact HB.out | refine Below.drew ?_ | refine Below.al ?_ _ | refine Below.sc ?_ _))⟩
end Go.Proofs.YtffemfglngikbaaGreat
namespace Go.Proofs.YtffemfglngikbaaGreat
open Go.RowKit Go.Shelf
attribute [local go_sem] Oper.semAt_some
set_option linter.unusedSimpArgs false
set_option maxRecDepth 100000 in
set_option maxHeartbeats 8000000 in
theorem r7atom_is (a:AtomT) (w:World) (hz:(atomX a.var a.sym).size≤MAXS):Calls Tryz.prog 228 #[.agg #[.string a.var,.int .i64 a.sym.kind,.string a.sym.text,.int .i64 a.sym.n]] w fun e w'=>e = .returned (.string (atomX a.var a.sym))∧Below w.heap.size w w':=by
 by_cases hv:a.var.toList = []
 · skip
   have va:(a.var.toList == [])=true:=by simp [hv]
   have vb:a.var.toList.isEmpty=true:=by simp [hv]
   have vc:decide (a.var.toList = [])=true:=by simp [hv]
   have vd:(a.var.toList != [])=false:=by simp [hv]
   have HR:=Lib.hid (show atomX a.var a.sym=textB a.sym by unfold atomX;rw [if_pos hv])
   clear hv hz
   go_enter Tryz.func228,Tryz.ntmps228
   go_upto_region 1 with fail
   obtain ⟨w1,hw1⟩ : ∃w1,w1=(w.alloc (.cells #[.string a.var,.int .i64 a.sym.kind,.string a.sym.text,.int .i64 a.sym.n] 94)):=⟨_,rfl⟩
   rw [← hw1]
   have HB:=Lib.hid (show Below w.heap.size w w1 by rw [hw1];exact (by repeat (first | exact Below.refl _ _ | refine Below.drew ?_ | refine Below.al ?_ _ | refine Below.sc ?_ _)))
   have Ka:=Lib.hid (show Blk w1 (w.heap.size) 94 #[.string a.var,.int .i64 a.sym.kind,.string a.sym.text,.int .i64 a.sym.n] by rw [hw1];exact (Blk.new w 94 #[.string a.var,.int .i64 a.sym.kind,.string a.sym.text,.int .i64 a.sym.n]))
   clear hw1
   obtain ⟨a0,a1,a2,a3⟩:=Ka.out.c4
   have az:=Ka.out.lt
   go_wp2_with fail
   with_reducible refine (rtext_is a.sym _).mono ?_
   rintro e w2 ⟨rfl,hb⟩
   have hbs:=Below.trans (show Below w1.heap.size w1 _ from (by (repeat (first | exact Below.refl _ _ | refine Below.drew ?_ | refine Below.al ?_ _ | refine Below.sc ?_ _)))) (hb.mono (by simp<;>omega))
   have Ka:=Lib.hid (Ka.out.new_ hbs)
   have HB:=Lib.hid (HB.out.trans (hbs.mono HB.out.size))
   have hsz2:=hbs.size
   clear a0 a1 a2 a3 az hb hbs
   obtain ⟨a0,a1,a2,a3⟩:=Ka.out.c4
   have az:=Ka.out.lt
   go_wp2_with fail
   go_ret
   exact ⟨by rw [HR.out]<;>rfl,by (repeat (first | exact Below.refl _ _ | exact HB.out | refine Below.drew ?_ | refine Below.al ?_ _ | refine Below.sc ?_ _))⟩
 · skip
   have va:(a.var.toList == [])=false:=by simp [hv]
   have vb:a.var.toList.isEmpty=false:=by simp [hv]
   have vc:decide (a.var.toList = [])=false:=by simp [hv]
   have vd:(a.var.toList != [])=true:=by simp [hv]
   have HR:=Lib.hid (show atomX a.var a.sym=(⟨#[60]⟩:ByteArray)++a.var++(⟨#[62]⟩:ByteArray) by unfold atomX;rw [if_neg hv])
   rw [HR.out,ByteArray.size_append,ByteArray.size_append] at hz
   have hz1 : ¬MAXS<1+a.var.size+1:=Nat.not_lt.2 hz
   have hz0 : ¬MAXS<1+a.var.size:=by unfold MAXS at hz1 ⊢;omega
   clear hv hz
   go_enter Tryz.func228,Tryz.ntmps228
   go_upto_region 1 with fail
   obtain ⟨w1,hw1⟩ : ∃w1,w1=(w.alloc (.cells #[.string a.var,.int .i64 a.sym.kind,.string a.sym.text,.int .i64 a.sym.n] 94)):=⟨_,rfl⟩
   rw [← hw1]
   have HB:=Lib.hid (show Below w.heap.size w w1 by rw [hw1];exact (by repeat (first | exact Below.refl _ _ | refine Below.drew ?_ | refine Below.al ?_ _ | refine Below.sc ?_ _)))
   have Ka:=Lib.hid (show Blk w1 (w.heap.size) 94 #[.string a.var,.int .i64 a.sym.kind,.string a.sym.text,.int .i64 a.sym.n] by rw [hw1];exact (Blk.new w 94 #[.string a.var,.int .i64 a.sym.kind,.string a.sym.text,.int .i64 a.sym.n]))
   clear hw1
   obtain ⟨a0,a1,a2,a3⟩:=Ka.out.c4
   have az:=Ka.out.lt
   go_wp2_with fail
   go_ret
   exact ⟨by rw [HR.out]<;>rfl,by (repeat (first | exact Below.refl _ _ | exact HB.out | refine Below.drew ?_ | refine Below.al ?_ _ | refine Below.sc ?_ _))⟩
set_option maxRecDepth 100000 in
set_option maxHeartbeats 8000000 in
theorem r7test_is {D:Nat→Prop} {A:Option Addr} {c:Nat} (t:TestT) (w:World) (h:RowR repSym D w A c t.list) (hz:(testX t).size≤MAXS):Calls Tryz.prog 254 #[.agg #[.int .i64 t.rel,.string t.var,.int .i64 t.sym.kind,.string t.sym.text,.int .i64 t.sym.n,.slice A t.list.length c]] w fun e w'=>e = .returned (.string (testX t))∧Below w.heap.size w w':=by
 have H:=Lib.hid h
 have hlc:=h.cap
 clear h
 by_cases h8:t.rel=8
 · skip
   have ka:(t.rel == 8)=true:=by simp [h8]
   have kb:decide (t.rel=8)=true:=by simp [h8]
   have HR:=Lib.hid (show testX t=t.list.foldl listX (⟨#[60,60]⟩:ByteArray)++(⟨#[32,62,62]⟩:ByteArray) by unfold testX;rw [if_pos h8])
   rw [HR.out,ByteArray.size_append] at hz
   obtain ⟨T,hT⟩ : ∃T,T=t.list.foldl listX (⟨#[60,60]⟩:ByteArray):=⟨_,rfl⟩
   rw [← hT] at HR hz
   have HT:=Lib.hid hT
   have hz9 : ¬MAXS<T.size+3:=Nat.not_lt.2 hz
   have hzz:T.size≤MAXS:=by unfold MAXS at hz9 ⊢;omega
   clear h8 hz hT
   go_enter Tryz.func254,Tryz.ntmps254
   go_upto_region 1 with fail
   obtain ⟨w1,hw1⟩ : ∃w1,w1=(w.alloc (.cells #[.int .i64 t.rel,.string t.var,.int .i64 t.sym.kind,.string t.sym.text,.int .i64 t.sym.n,.slice A t.list.length c] 141)):=⟨_,rfl⟩
   rw [← hw1]
   have HB:=Lib.hid (show Below w.heap.size w w1 by rw [hw1];exact (by repeat (first | exact Below.refl _ _ | refine Below.drew ?_ | refine Below.al ?_ _ | refine Below.sc ?_ _)))
   have Kt:=Lib.hid (show Blk w1 (w.heap.size) 141 #[.int .i64 t.rel,.string t.var,.int .i64 t.sym.kind,.string t.sym.text,.int .i64 t.sym.n,.slice A t.list.length c] by rw [hw1];exact (Blk.new w 141 #[.int .i64 t.rel,.string t.var,.int .i64 t.sym.kind,.string t.sym.text,.int .i64 t.sym.n,.slice A t.list.length c]))
   clear hw1
   obtain ⟨t0,t1,t2,t3,t4,t5⟩:=Kt.out.c6
   have tz:=Kt.out.lt
   go_wp2_with fail
   clear t0 t1 t2 t3 t4 t5 tz 
   go_loopw [3,4] (fun s i wr=>∃k:Nat,i = .int .i64 k∧k≤t.list.length∧s = .string ((t.list.take k).foldl listX (⟨#[60,60]⟩:ByteArray))∧Below w.heap.size w wr∧Blk wr (w.heap.size) 141 #[.int .i64 t.rel,.string t.var,.int .i64 t.sym.kind,.string t.sym.text,.int .i64 t.sym.n,.slice A t.list.length c]) (fun s i wr=>t.list.length - (intOf i).toNat)
   case atStart=>exact ⟨0,rfl,Nat.zero_le _,rfl,HB.out,Kt.out⟩
   case round=>
    obtain ⟨k,rfl,hk,rfl,hb,hkt⟩:=hrel
    have HBR:=Lib.hid hb
    have Kt:=Lib.hid hkt
    clear hb hkt
    by_cases hlt:k<t.list.length
    · obtain ⟨x,hx⟩ : ∃x,x=t.list[k]:=⟨_,rfl⟩
      obtain ⟨S,hS⟩ : ∃S,S=(t.list.take k).foldl listX (⟨#[60,60]⟩:ByteArray):=⟨_,rfl⟩
      have h1:=fold_take listX_le hlt (⟨#[60,60]⟩:ByteArray)
      rw [← hS,← hx,← HT.out] at h1
      unfold listX at h1
      rw [ByteArray.size_append,ByteArray.size_append] at h1
      have h2:S.size+1+(textB x).size≤MAXS:=Nat.le_trans h1 hzz
      have hz1 : ¬MAXS<1+(textB x).size:=by unfold MAXS at h2 ⊢;omega
      have hz2 : ¬MAXS<S.size+1+(textB x).size:=Nat.not_lt.2 h2
      have hz3 : ¬MAXS<S.size+(1+(textB x).size):=by unfold MAXS at h2 ⊢;omega
      have HS:=Lib.hid (show (t.list.take (k+1)).foldl listX (⟨#[60,60]⟩:ByteArray)=S++((⟨#[32]⟩:ByteArray)++textB x) by rw [fold_snoc listX hlt,← hS,← hx,← ByteArray.append_assoc];rfl)
      obtain ⟨g,off,rfl,_,hgs,q0,q1,q2⟩:=at_Sym (H.out.new_ HBR.out) hlt
      rw [← hx] at q0 q1 q2
      have b1:(0:Int)≤(k:Int):=by omega
      have b2:(k:Int)<(t.list.length:Int):=by omega
      rw [← hS]
      obtain ⟨t0,t1,t2,t3,t4,t5⟩:=Kt.out.c6
      have tz:=Kt.out.lt
      clear hx h1 h2 hS hz9 hzz
      go_wp2_with fail
      refine (rtext_is x _).mono ?_
      rintro e w5 ⟨rfl,hb5⟩
      have HB5:=Lib.hid (HBR.out.trans (hb5.mono HBR.out.size))
      have Kt:=Lib.hid (Kt.out.new_ hb5)
      clear hb5 q0 q1 q2 t0 t1 t2 t3 t4 t5 tz
      go_wp2_with fail
      go_roundw
      case rel=>exact ⟨k+1,by go_num,by omega,by rw [HS.out],HB5.out,Kt.out⟩
      case measure=>simp [intOf]<;>omega
    · obtain rfl:k=t.list.length:=by omega
      rw [List.take_length,← HT.out]
      obtain ⟨t0,t1,t2,t3,t4,t5⟩:=Kt.out.c6
      have tz:=Kt.out.lt
      go_wp2_with fail
      go_ret
      exact ⟨by rw [HR.out]<;>rfl,HBR.out⟩
 · skip
   have ka:(t.rel == 8)=false:=by simp [h8]
   have kb:decide (t.rel=8)=false:=by simp [h8]
   by_cases h2:t.rel=2
   · skip
     have r2_a:(t.rel == 2)=true:=by simp [h2]
     have r2_b:decide (t.rel=2)=true:=by simp [h2]
     have hr:relX t.rel=(⟨#[60,62]⟩:ByteArray):=by rw [h2];kernel_rfl
     have HR:=Lib.hid (show testX t=(⟨#[60,62,32]⟩:ByteArray)++atomX t.var t.sym by
      unfold testX
      rw [if_neg h8,hr,if_neg (by rw [show ((⟨#[60,62]⟩:ByteArray)).toList = [60,62] by kernel_rfl];simp)]
      rfl)
     rw [HR.out,ByteArray.size_append] at hz
     have es:((⟨#[60,62,32]⟩:ByteArray)).size=3:=rfl
     rw [es] at hz
     have hz2 : ¬MAXS<3+(atomX t.var t.sym).size:=Nat.not_lt.2 hz
     have HZ:=Lib.hid (show (atomX t.var t.sym).size≤MAXS by unfold MAXS at hz2 ⊢;omega)
     clear h8 hr hz es h2
     go_enter Tryz.func254,Tryz.ntmps254
     go_upto_region 1 with fail
     obtain ⟨w1,hw1⟩ : ∃w1,w1=(w.alloc (.cells #[.int .i64 t.rel,.string t.var,.int .i64 t.sym.kind,.string t.sym.text,.int .i64 t.sym.n,.slice A t.list.length c] 141)):=⟨_,rfl⟩
     rw [← hw1]
     have HB:=Lib.hid (show Below w.heap.size w w1 by rw [hw1];exact (by repeat (first | exact Below.refl _ _ | refine Below.drew ?_ | refine Below.al ?_ _ | refine Below.sc ?_ _)))
     have Kt:=Lib.hid (show Blk w1 (w.heap.size) 141 #[.int .i64 t.rel,.string t.var,.int .i64 t.sym.kind,.string t.sym.text,.int .i64 t.sym.n,.slice A t.list.length c] by rw [hw1];exact (Blk.new w 141 #[.int .i64 t.rel,.string t.var,.int .i64 t.sym.kind,.string t.sym.text,.int .i64 t.sym.n,.slice A t.list.length c]))
     clear hw1
     obtain ⟨t0,t1,t2,t3,t4,t5⟩:=Kt.out.c6
     have tz:=Kt.out.lt
     go_wp2_with fail
     with_reducible refine (r7atom_is ⟨t.var,t.sym⟩ _ HZ.out).mono ?_
     rintro e w2 ⟨rfl,hb⟩
     have hbs:=Below.trans (show Below w1.heap.size w1 _ from (by (repeat (first | exact Below.refl _ _ | refine Below.drew ?_ | refine Below.al ?_ _ | refine Below.sc ?_ _)))) (hb.mono (by simp<;>omega))
     have Kt:=Lib.hid (Kt.out.new_ hbs)
     have HB:=Lib.hid (HB.out.trans (hbs.mono HB.out.size))
     have hsz2:=hbs.size
     clear t0 t1 t2 t3 t4 t5 tz hb hbs
     obtain ⟨t0,t1,t2,t3,t4,t5⟩:=Kt.out.c6
     have tz:=Kt.out.lt
     go_wp2_with fail
     go_ret
     exact ⟨by rw [HR.out]<;>rfl,by (repeat (first | exact Below.refl _ _ | exact HB.out | refine Below.drew ?_ | refine Below.al ?_ _ | refine Below.sc ?_ _))⟩
   · skip
     by_cases h3:t.rel=3
     · skip
       have r2_a:(t.rel == 2)=false:=by simp [h2]
       have r2_b:decide (t.rel=2)=false:=by simp [h2]
       have r3_a:(t.rel == 3)=true:=by simp [h3]
       have r3_b:decide (t.rel=3)=true:=by simp [h3]
       have hr:relX t.rel=(⟨#[60]⟩:ByteArray):=by rw [h3];kernel_rfl
       have HR:=Lib.hid (show testX t=(⟨#[60,32]⟩:ByteArray)++atomX t.var t.sym by
        unfold testX
        rw [if_neg h8,hr,if_neg (by rw [show ((⟨#[60]⟩:ByteArray)).toList = [60] by kernel_rfl];simp)]
        rfl)
       rw [HR.out,ByteArray.size_append] at hz
       have es:((⟨#[60,32]⟩:ByteArray)).size=2:=rfl
       rw [es] at hz
       have hz2 : ¬MAXS<2+(atomX t.var t.sym).size:=Nat.not_lt.2 hz
       have HZ:=Lib.hid (show (atomX t.var t.sym).size≤MAXS by unfold MAXS at hz2 ⊢;omega)
       clear h8 hr hz es h2 h3
       go_enter Tryz.func254,Tryz.ntmps254
       go_upto_region 1 with fail
       obtain ⟨w1,hw1⟩ : ∃w1,w1=(w.alloc (.cells #[.int .i64 t.rel,.string t.var,.int .i64 t.sym.kind,.string t.sym.text,.int .i64 t.sym.n,.slice A t.list.length c] 141)):=⟨_,rfl⟩
       rw [← hw1]
       have HB:=Lib.hid (show Below w.heap.size w w1 by rw [hw1];exact (by repeat (first | exact Below.refl _ _ | refine Below.drew ?_ | refine Below.al ?_ _ | refine Below.sc ?_ _)))
       have Kt:=Lib.hid (show Blk w1 (w.heap.size) 141 #[.int .i64 t.rel,.string t.var,.int .i64 t.sym.kind,.string t.sym.text,.int .i64 t.sym.n,.slice A t.list.length c] by rw [hw1];exact (Blk.new w 141 #[.int .i64 t.rel,.string t.var,.int .i64 t.sym.kind,.string t.sym.text,.int .i64 t.sym.n,.slice A t.list.length c]))
       clear hw1
       obtain ⟨t0,t1,t2,t3,t4,t5⟩:=Kt.out.c6
       have tz:=Kt.out.lt
       go_wp2_with fail
       with_reducible refine (r7atom_is ⟨t.var,t.sym⟩ _ HZ.out).mono ?_
       rintro e w2 ⟨rfl,hb⟩
       have hbs:=Below.trans (show Below w1.heap.size w1 _ from (by (repeat (first | exact Below.refl _ _ | refine Below.drew ?_ | refine Below.al ?_ _ | refine Below.sc ?_ _)))) (hb.mono (by simp<;>omega))
       have Kt:=Lib.hid (Kt.out.new_ hbs)
       have HB:=Lib.hid (HB.out.trans (hbs.mono HB.out.size))
       have hsz2:=hbs.size
       clear t0 t1 t2 t3 t4 t5 tz hb hbs
       obtain ⟨t0,t1,t2,t3,t4,t5⟩:=Kt.out.c6
       have tz:=Kt.out.lt
       go_wp2_with fail
       go_ret
       exact ⟨by rw [HR.out]<;>rfl,by (repeat (first | exact Below.refl _ _ | exact HB.out | refine Below.drew ?_ | refine Below.al ?_ _ | refine Below.sc ?_ _))⟩
     · skip
       by_cases h4:t.rel=4
       · skip
         have r2_a:(t.rel == 2)=false:=by simp [h2]
         have r2_b:decide (t.rel=2)=false:=by simp [h2]
         have r3_a:(t.rel == 3)=false:=by simp [h3]
         have r3_b:decide (t.rel=3)=false:=by simp [h3]
         have r4_a:(t.rel == 4)=true:=by simp [h4]
         have r4_b:decide (t.rel=4)=true:=by simp [h4]
         have hr:relX t.rel=(⟨#[60,61]⟩:ByteArray):=by rw [h4];kernel_rfl
         have HR:=Lib.hid (show testX t=(⟨#[60,61,32]⟩:ByteArray)++atomX t.var t.sym by
          unfold testX
          rw [if_neg h8,hr,if_neg (by rw [show ((⟨#[60,61]⟩:ByteArray)).toList = [60,61] by kernel_rfl];simp)]
          rfl)
         rw [HR.out,ByteArray.size_append] at hz
         have es:((⟨#[60,61,32]⟩:ByteArray)).size=3:=rfl
         rw [es] at hz
         have hz2 : ¬MAXS<3+(atomX t.var t.sym).size:=Nat.not_lt.2 hz
         have HZ:=Lib.hid (show (atomX t.var t.sym).size≤MAXS by unfold MAXS at hz2 ⊢;omega)
         clear h8 hr hz es h2 h3 h4
         go_enter Tryz.func254,Tryz.ntmps254
         go_upto_region 1 with fail
         obtain ⟨w1,hw1⟩ : ∃w1,w1=(w.alloc (.cells #[.int .i64 t.rel,.string t.var,.int .i64 t.sym.kind,.string t.sym.text,.int .i64 t.sym.n,.slice A t.list.length c] 141)):=⟨_,rfl⟩
         rw [← hw1]
         have HB:=Lib.hid (show Below w.heap.size w w1 by rw [hw1];exact (by repeat (first | exact Below.refl _ _ | refine Below.drew ?_ | refine Below.al ?_ _ | refine Below.sc ?_ _)))
         have Kt:=Lib.hid (show Blk w1 (w.heap.size) 141 #[.int .i64 t.rel,.string t.var,.int .i64 t.sym.kind,.string t.sym.text,.int .i64 t.sym.n,.slice A t.list.length c] by rw [hw1];exact (Blk.new w 141 #[.int .i64 t.rel,.string t.var,.int .i64 t.sym.kind,.string t.sym.text,.int .i64 t.sym.n,.slice A t.list.length c]))
         clear hw1
         obtain ⟨t0,t1,t2,t3,t4,t5⟩:=Kt.out.c6
         have tz:=Kt.out.lt
         go_wp2_with fail
         with_reducible refine (r7atom_is ⟨t.var,t.sym⟩ _ HZ.out).mono ?_
         rintro e w2 ⟨rfl,hb⟩
         have hbs:=Below.trans (show Below w1.heap.size w1 _ from (by (repeat (first | exact Below.refl _ _ | refine Below.drew ?_ | refine Below.al ?_ _ | refine Below.sc ?_ _)))) (hb.mono (by simp<;>omega))
         have Kt:=Lib.hid (Kt.out.new_ hbs)
         have HB:=Lib.hid (HB.out.trans (hbs.mono HB.out.size))
         have hsz2:=hbs.size
         clear t0 t1 t2 t3 t4 t5 tz hb hbs
         obtain ⟨t0,t1,t2,t3,t4,t5⟩:=Kt.out.c6
         have tz:=Kt.out.lt
         go_wp2_with fail
         go_ret
         exact ⟨by rw [HR.out]<;>rfl,by (repeat (first | exact Below.refl _ _ | exact HB.out | refine Below.drew ?_ | refine Below.al ?_ _ | refine Below.sc ?_ _))⟩
       · skip
         by_cases h5:t.rel=5
         · skip
           have r2_a:(t.rel == 2)=false:=by simp [h2]
           have r2_b:decide (t.rel=2)=false:=by simp [h2]
           have r3_a:(t.rel == 3)=false:=by simp [h3]
           have r3_b:decide (t.rel=3)=false:=by simp [h3]
           have r4_a:(t.rel == 4)=false:=by simp [h4]
           have r4_b:decide (t.rel=4)=false:=by simp [h4]
           have r5_a:(t.rel == 5)=true:=by simp [h5]
           have r5_b:decide (t.rel=5)=true:=by simp [h5]
           have hr:relX t.rel=(⟨#[62]⟩:ByteArray):=by rw [h5];kernel_rfl
           have HR:=Lib.hid (show testX t=(⟨#[62,32]⟩:ByteArray)++atomX t.var t.sym by
            unfold testX
            rw [if_neg h8,hr,if_neg (by rw [show ((⟨#[62]⟩:ByteArray)).toList = [62] by kernel_rfl];simp)]
            rfl)
           rw [HR.out,ByteArray.size_append] at hz
           have es:((⟨#[62,32]⟩:ByteArray)).size=2:=rfl
           rw [es] at hz
           have hz2 : ¬MAXS<2+(atomX t.var t.sym).size:=Nat.not_lt.2 hz
           have HZ:=Lib.hid (show (atomX t.var t.sym).size≤MAXS by unfold MAXS at hz2 ⊢;omega)
           clear h8 hr hz es h2 h3 h4 h5
           go_enter Tryz.func254,Tryz.ntmps254
           go_upto_region 1 with fail
           obtain ⟨w1,hw1⟩ : ∃w1,w1=(w.alloc (.cells #[.int .i64 t.rel,.string t.var,.int .i64 t.sym.kind,.string t.sym.text,.int .i64 t.sym.n,.slice A t.list.length c] 141)):=⟨_,rfl⟩
           rw [← hw1]
           have HB:=Lib.hid (show Below w.heap.size w w1 by rw [hw1];exact (by repeat (first | exact Below.refl _ _ | refine Below.drew ?_ | refine Below.al ?_ _ | refine Below.sc ?_ _)))
           have Kt:=Lib.hid (show Blk w1 (w.heap.size) 141 #[.int .i64 t.rel,.string t.var,.int .i64 t.sym.kind,.string t.sym.text,.int .i64 t.sym.n,.slice A t.list.length c] by rw [hw1];exact (Blk.new w 141 #[.int .i64 t.rel,.string t.var,.int .i64 t.sym.kind,.string t.sym.text,.int .i64 t.sym.n,.slice A t.list.length c]))
           clear hw1
           obtain ⟨t0,t1,t2,t3,t4,t5⟩:=Kt.out.c6
           have tz:=Kt.out.lt
           go_wp2_with fail
           with_reducible refine (r7atom_is ⟨t.var,t.sym⟩ _ HZ.out).mono ?_
           rintro e w2 ⟨rfl,hb⟩
           have hbs:=Below.trans (show Below w1.heap.size w1 _ from (by (repeat (first | exact Below.refl _ _ | refine Below.drew ?_ | refine Below.al ?_ _ | refine Below.sc ?_ _)))) (hb.mono (by simp<;>omega))
           have Kt:=Lib.hid (Kt.out.new_ hbs)
           have HB:=Lib.hid (HB.out.trans (hbs.mono HB.out.size))
           have hsz2:=hbs.size
           clear t0 t1 t2 t3 t4 t5 tz hb hbs
           obtain ⟨t0,t1,t2,t3,t4,t5⟩:=Kt.out.c6
           have tz:=Kt.out.lt
           go_wp2_with fail
           go_ret
           exact ⟨by rw [HR.out]<;>rfl,by (repeat (first | exact Below.refl _ _ | exact HB.out | refine Below.drew ?_ | refine Below.al ?_ _ | refine Below.sc ?_ _))⟩
         · skip
           by_cases h6:t.rel=6
           · skip
             have r2_a:(t.rel == 2)=false:=by simp [h2]
             have r2_b:decide (t.rel=2)=false:=by simp [h2]
             have r3_a:(t.rel == 3)=false:=by simp [h3]
             have r3_b:decide (t.rel=3)=false:=by simp [h3]
             have r4_a:(t.rel == 4)=false:=by simp [h4]
             have r4_b:decide (t.rel=4)=false:=by simp [h4]
             have r5_a:(t.rel == 5)=false:=by simp [h5]
             have r5_b:decide (t.rel=5)=false:=by simp [h5]
             have r6_a:(t.rel == 6)=true:=by simp [h6]
             have r6_b:decide (t.rel=6)=true:=by simp [h6]
             have hr:relX t.rel=(⟨#[62,61]⟩:ByteArray):=by rw [h6];kernel_rfl
             have HR:=Lib.hid (show testX t=(⟨#[62,61,32]⟩:ByteArray)++atomX t.var t.sym by
              unfold testX
              rw [if_neg h8,hr,if_neg (by rw [show ((⟨#[62,61]⟩:ByteArray)).toList = [62,61] by kernel_rfl];simp)]
              rfl)
             rw [HR.out,ByteArray.size_append] at hz
             have es:((⟨#[62,61,32]⟩:ByteArray)).size=3:=rfl
             rw [es] at hz
             have hz2 : ¬MAXS<3+(atomX t.var t.sym).size:=Nat.not_lt.2 hz
             have HZ:=Lib.hid (show (atomX t.var t.sym).size≤MAXS by unfold MAXS at hz2 ⊢;omega)
             clear h8 hr hz es h2 h3 h4 h5 h6
             go_enter Tryz.func254,Tryz.ntmps254
             go_upto_region 1 with fail
             obtain ⟨w1,hw1⟩ : ∃w1,w1=(w.alloc (.cells #[.int .i64 t.rel,.string t.var,.int .i64 t.sym.kind,.string t.sym.text,.int .i64 t.sym.n,.slice A t.list.length c] 141)):=⟨_,rfl⟩
             rw [← hw1]
             have HB:=Lib.hid (show Below w.heap.size w w1 by rw [hw1];exact (by repeat (first | exact Below.refl _ _ | refine Below.drew ?_ | refine Below.al ?_ _ | refine Below.sc ?_ _)))
             have Kt:=Lib.hid (show Blk w1 (w.heap.size) 141 #[.int .i64 t.rel,.string t.var,.int .i64 t.sym.kind,.string t.sym.text,.int .i64 t.sym.n,.slice A t.list.length c] by rw [hw1];exact (Blk.new w 141 #[.int .i64 t.rel,.string t.var,.int .i64 t.sym.kind,.string t.sym.text,.int .i64 t.sym.n,.slice A t.list.length c]))
             clear hw1
             obtain ⟨t0,t1,t2,t3,t4,t5⟩:=Kt.out.c6
             have tz:=Kt.out.lt
             go_wp2_with fail
             with_reducible refine (r7atom_is ⟨t.var,t.sym⟩ _ HZ.out).mono ?_
             rintro e w2 ⟨rfl,hb⟩
             have hbs:=Below.trans (show Below w1.heap.size w1 _ from (by (repeat (first | exact Below.refl _ _ | refine Below.drew ?_ | refine Below.al ?_ _ | refine Below.sc ?_ _)))) (hb.mono (by simp<;>omega))
             have Kt:=Lib.hid (Kt.out.new_ hbs)
             have HB:=Lib.hid (HB.out.trans (hbs.mono HB.out.size))
             have hsz2:=hbs.size
             clear t0 t1 t2 t3 t4 t5 tz hb hbs
             obtain ⟨t0,t1,t2,t3,t4,t5⟩:=Kt.out.c6
             have tz:=Kt.out.lt
             go_wp2_with fail
             go_ret
             exact ⟨by rw [HR.out]<;>rfl,by (repeat (first | exact Below.refl _ _ | exact HB.out | refine Below.drew ?_ | refine Below.al ?_ _ | refine Below.sc ?_ _))⟩
           · skip
             by_cases h7:t.rel=7
             · skip
               have r2_a:(t.rel == 2)=false:=by simp [h2]
               have r2_b:decide (t.rel=2)=false:=by simp [h2]
               have r3_a:(t.rel == 3)=false:=by simp [h3]
               have r3_b:decide (t.rel=3)=false:=by simp [h3]
               have r4_a:(t.rel == 4)=false:=by simp [h4]
               have r4_b:decide (t.rel=4)=false:=by simp [h4]
               have r5_a:(t.rel == 5)=false:=by simp [h5]
               have r5_b:decide (t.rel=5)=false:=by simp [h5]
               have r6_a:(t.rel == 6)=false:=by simp [h6]
               have r6_b:decide (t.rel=6)=false:=by simp [h6]
               have r7_a:(t.rel == 7)=true:=by simp [h7]
               have r7_b:decide (t.rel=7)=true:=by simp [h7]
               have hr:relX t.rel=(⟨#[60,61,62]⟩:ByteArray):=by rw [h7];kernel_rfl
               have HR:=Lib.hid (show testX t=(⟨#[60,61,62,32]⟩:ByteArray)++atomX t.var t.sym by
                unfold testX
                rw [if_neg h8,hr,if_neg (by rw [show ((⟨#[60,61,62]⟩:ByteArray)).toList = [60,61,62] by kernel_rfl];simp)]
                rfl)
               rw [HR.out,ByteArray.size_append] at hz
               have es:((⟨#[60,61,62,32]⟩:ByteArray)).size=4:=rfl
               rw [es] at hz
               have hz2 : ¬MAXS<4+(atomX t.var t.sym).size:=Nat.not_lt.2 hz
               have HZ:=Lib.hid (show (atomX t.var t.sym).size≤MAXS by unfold MAXS at hz2 ⊢;omega)
               clear h8 hr hz es h2 h3 h4 h5 h6 h7
               go_enter Tryz.func254,Tryz.ntmps254
               go_upto_region 1 with fail
               obtain ⟨w1,hw1⟩ : ∃w1,w1=(w.alloc (.cells #[.int .i64 t.rel,.string t.var,.int .i64 t.sym.kind,.string t.sym.text,.int .i64 t.sym.n,.slice A t.list.length c] 141)):=⟨_,rfl⟩
               rw [← hw1]
               have HB:=Lib.hid (show Below w.heap.size w w1 by rw [hw1];exact (by repeat (first | exact Below.refl _ _ | refine Below.drew ?_ | refine Below.al ?_ _ | refine Below.sc ?_ _)))
               have Kt:=Lib.hid (show Blk w1 (w.heap.size) 141 #[.int .i64 t.rel,.string t.var,.int .i64 t.sym.kind,.string t.sym.text,.int .i64 t.sym.n,.slice A t.list.length c] by rw [hw1];exact (Blk.new w 141 #[.int .i64 t.rel,.string t.var,.int .i64 t.sym.kind,.string t.sym.text,.int .i64 t.sym.n,.slice A t.list.length c]))
               clear hw1
               obtain ⟨t0,t1,t2,t3,t4,t5⟩:=Kt.out.c6
               have tz:=Kt.out.lt
               go_wp2_with fail
               with_reducible refine (r7atom_is ⟨t.var,t.sym⟩ _ HZ.out).mono ?_
               rintro e w2 ⟨rfl,hb⟩
               have hbs:=Below.trans (show Below w1.heap.size w1 _ from (by (repeat (first | exact Below.refl _ _ | refine Below.drew ?_ | refine Below.al ?_ _ | refine Below.sc ?_ _)))) (hb.mono (by simp<;>omega))
               have Kt:=Lib.hid (Kt.out.new_ hbs)
               have HB:=Lib.hid (HB.out.trans (hbs.mono HB.out.size))
               have hsz2:=hbs.size
               clear t0 t1 t2 t3 t4 t5 tz hb hbs
               obtain ⟨t0,t1,t2,t3,t4,t5⟩:=Kt.out.c6
               have tz:=Kt.out.lt
               go_wp2_with fail
               go_ret
               exact ⟨by rw [HR.out]<;>rfl,by (repeat (first | exact Below.refl _ _ | exact HB.out | refine Below.drew ?_ | refine Below.al ?_ _ | refine Below.sc ?_ _))⟩
             · skip
               have r2_a:(t.rel == 2)=false:=by simp [h2]
               have r2_b:decide (t.rel=2)=false:=by simp [h2]
               have r3_a:(t.rel == 3)=false:=by simp [h3]
               have r3_b:decide (t.rel=3)=false:=by simp [h3]
               have r4_a:(t.rel == 4)=false:=by simp [h4]
               have r4_b:decide (t.rel=4)=false:=by simp [h4]
               have r5_a:(t.rel == 5)=false:=by simp [h5]
               have r5_b:decide (t.rel=5)=false:=by simp [h5]
               have r6_a:(t.rel == 6)=false:=by simp [h6]
               have r6_b:decide (t.rel=6)=false:=by simp [h6]
               have r7_a:(t.rel == 7)=false:=by simp [h7]
               have r7_b:decide (t.rel=7)=false:=by simp [h7]
               have hr:(relX t.rel).toList = []:=(relX_27 _).2 (by omega)
               have HR:=Lib.hid (show testX t=atomX t.var t.sym by unfold testX;rw [if_neg h8,if_pos hr])
               rw [HR.out] at hz
               have hz2 : ¬MAXS<(atomX t.var t.sym).size:=Nat.not_lt.2 hz
               have HZ:=Lib.hid hz
               clear h8 hr hz h2 h3 h4 h5 h6 h7
               go_enter Tryz.func254,Tryz.ntmps254
               go_upto_region 1 with fail
               obtain ⟨w1,hw1⟩ : ∃w1,w1=(w.alloc (.cells #[.int .i64 t.rel,.string t.var,.int .i64 t.sym.kind,.string t.sym.text,.int .i64 t.sym.n,.slice A t.list.length c] 141)):=⟨_,rfl⟩
               rw [← hw1]
               have HB:=Lib.hid (show Below w.heap.size w w1 by rw [hw1];exact (by repeat (first | exact Below.refl _ _ | refine Below.drew ?_ | refine Below.al ?_ _ | refine Below.sc ?_ _)))
               have Kt:=Lib.hid (show Blk w1 (w.heap.size) 141 #[.int .i64 t.rel,.string t.var,.int .i64 t.sym.kind,.string t.sym.text,.int .i64 t.sym.n,.slice A t.list.length c] by rw [hw1];exact (Blk.new w 141 #[.int .i64 t.rel,.string t.var,.int .i64 t.sym.kind,.string t.sym.text,.int .i64 t.sym.n,.slice A t.list.length c]))
               clear hw1
               obtain ⟨t0,t1,t2,t3,t4,t5⟩:=Kt.out.c6
               have tz:=Kt.out.lt
               go_wp2_with fail
               with_reducible refine (r7atom_is ⟨t.var,t.sym⟩ _ HZ.out).mono ?_
               rintro e w2 ⟨rfl,hb⟩
               have hbs:=Below.trans (show Below w1.heap.size w1 _ from (by (repeat (first | exact Below.refl _ _ | refine Below.drew ?_ | refine Below.al ?_ _ | refine Below.sc ?_ _)))) (hb.mono (by simp<;>omega))
               have Kt:=Lib.hid (Kt.out.new_ hbs)
               have HB:=Lib.hid (HB.out.trans (hbs.mono HB.out.size))
               have hsz2:=hbs.size
               clear t0 t1 t2 t3 t4 t5 tz hb hbs
               obtain ⟨t0,t1,t2,t3,t4,t5⟩:=Kt.out.c6
               have tz:=Kt.out.lt
               go_wp2_with fail
               go_ret
               exact ⟨by rw [HR.out]<;>rfl,by (repeat (first | exact Below.refl _ _ | exact HB.out | refine Below.drew ?_ | refine Below.al ?_ _ | refine Below.sc ?_ _))⟩
set_option maxRecDepth 100000 in
set_option maxHeartbeats 8000000 in
theorem r7field_is {D:Nat→Prop} {A:Option Addr} {c:Nat} (l:List TestT) (w:World) (h:RowR repTestT D w A c l) (h0:0<l.length) (hz:(fieldX l).size≤MAXS):Calls Tryz.prog 227 #[.slice A l.length c] w fun e w'=>e = .returned (.string (fieldX l))∧Below w.heap.size w w':=by
 have H:=Lib.hid h
 have hlc:=h.cap
 have h0' : ¬l.length=0:=by omega
 clear h
 by_cases h1:l.length=1
 · have t2:((l.length:Int) == 1)=true:=by simp [h1]
   have t3:decide ((l.length:Int)=1)=true:=by simp [h1]
   have hlt:0<l.length:=by omega
   obtain ⟨x,hx⟩ : ∃x,x=l[0]:=⟨_,rfl⟩
   have HR:=Lib.hid (show fieldX l=testX x by unfold fieldX;rw [if_neg h0',dif_pos h1,hx])
   have b2:(0:Int)<(l.length:Int):=by omega
   rw [HR.out] at hz
   have HZ:=Lib.hid hz
   obtain ⟨g,off,A1,c1,rfl,_,hgs,q0,q1,q2,q3,q4,q5,hl⟩:=at_TestT H.out hlt
   rw [← hx] at q0 q1 q2 q3 q4 q5 hl
   rw [Nat.zero_mul,Nat.add_zero] at q0 q1 q2 q3 q4 q5
   have HL:=Lib.hid hl
   clear hl h0 h0' h1 hx hz
   go_enter Tryz.func227,Tryz.ntmps227
   go_wp2_with fail
   refine (r7test_is x _ HL.out HZ.out).mono ?_
   rintro e w5 ⟨rfl,hb5⟩
   have HB5:=Lib.hid hb5
   clear hb5 q0 q1 q2 q3 q4 q5
   go_wp2_with fail
   go_ret
   exact ⟨by rw [HR.out]<;>rfl,HB5.out⟩
 have t2:((l.length:Int) == 1)=false:=by simp;omega
 have t3:decide ((l.length:Int)=1)=false:=by simp;omega
 have HR:=Lib.hid (show fieldX l=l.foldl fieldF (⟨#[123]⟩:ByteArray)++(⟨#[32,125]⟩:ByteArray) by unfold fieldX;rw [if_neg h0',dif_neg h1])
 rw [HR.out,ByteArray.size_append] at hz
 obtain ⟨T,hT⟩ : ∃T,T=l.foldl fieldF (⟨#[123]⟩:ByteArray):=⟨_,rfl⟩
 rw [← hT] at HR hz
 have HT:=Lib.hid hT
 have hz9 : ¬MAXS<T.size+2:=Nat.not_lt.2 hz
 have hzz:T.size≤MAXS:=by unfold MAXS at hz9 ⊢;omega
 clear h0 h0' h1 hz hT
 go_enter Tryz.func227,Tryz.ntmps227
 go_wp2_with fail
 clear t2 t3
 go_loopw [3,4] (fun s i wr=>∃k:Nat,i = .int .i64 k∧k≤l.length∧s = .string ((l.take k).foldl fieldF (⟨#[123]⟩:ByteArray))∧Below w.heap.size w wr) (fun s i wr=>l.length - (intOf i).toNat)
 case atStart=>exact ⟨0,rfl,Nat.zero_le _,rfl,Below.refl _ _⟩
 case round=>
  obtain ⟨k,rfl,hk,rfl,hb⟩:=hrel
  have HBR:=Lib.hid hb
  clear hb
  by_cases hlt:k<l.length
  · obtain ⟨x,hx⟩ : ∃x,x=l[k]:=⟨_,rfl⟩
    obtain ⟨S,hS⟩ : ∃S,S=(l.take k).foldl fieldF (⟨#[123]⟩:ByteArray):=⟨_,rfl⟩
    have h1:=fold_take fieldF_le hlt (⟨#[123]⟩:ByteArray)
    rw [← hS,← hx,← HT.out] at h1
    unfold fieldF at h1
    rw [ByteArray.size_append,ByteArray.size_append] at h1
    have h2:S.size+1+(testX x).size≤MAXS:=Nat.le_trans h1 hzz
    have hz1 : ¬MAXS<1+(testX x).size:=by unfold MAXS at h2 ⊢;omega
    have hz2 : ¬MAXS<S.size+1+(testX x).size:=Nat.not_lt.2 h2
    have hz3 : ¬MAXS<S.size+(1+(testX x).size):=by unfold MAXS at h2 ⊢;omega
    have HZX:=Lib.hid (show (testX x).size≤MAXS by unfold MAXS at h2 ⊢;omega)
    have HS:=Lib.hid (show (l.take (k+1)).foldl fieldF (⟨#[123]⟩:ByteArray)=S++((⟨#[32]⟩:ByteArray)++testX x) by rw [fold_snoc fieldF hlt,← hS,← hx,← ByteArray.append_assoc];rfl)
    obtain ⟨g,off,A1,c1,rfl,_,hgs,q0,q1,q2,q3,q4,q5,hl⟩:=at_TestT (H.out.new_ HBR.out) hlt
    rw [← hx] at q0 q1 q2 q3 q4 q5 hl
    have HL:=Lib.hid hl
    have b1:(0:Int)≤(k:Int):=by omega
    have b2:(k:Int)<(l.length:Int):=by omega
    rw [← hS]
    clear hx h1 h2 hS hz9 hzz hl
    go_wp2_with fail
    refine (r7test_is x _ HL.out HZX.out).mono ?_
    rintro e w5 ⟨rfl,hb5⟩
    have HB5:=Lib.hid (HBR.out.trans (hb5.mono HBR.out.size))
    clear hb5 q0 q1 q2 q3 q4 q5
    go_wp2_with fail
    go_roundw
    case rel=>exact ⟨k+1,by go_num,by omega,by rw [HS.out],HB5.out⟩
    case measure=>simp [intOf]<;>omega
  · obtain rfl:k=l.length:=by omega
    rw [List.take_length,← HT.out]
    go_wp2_with fail
    go_ret
    exact ⟨by rw [HR.out]<;>rfl,HBR.out⟩
end Go.Proofs.YtffemfglngikbaaGreat
namespace Go.Proofs.YtffemfglngikbaaGreat
open Go.RowKit Go.Shelf
attribute [local go_sem] Oper.semAt_some
set_option linter.unusedSimpArgs false
set_option maxRecDepth 100000 in
set_option maxHeartbeats 8000000 in
theorem r7cond_leaf {D:Nat→Prop} (c:CondT) (A1:Option Addr) (c1:Nat) (A2:Option Addr) (c2:Nat) (A3:Option Addr) (c3:Nat) (w:World) (h1:RowR repTestT D w A1 c1 c.attr) (h2:RowR repTestT D w A2 c2 c.value) (hk : ¬c.kind=3) (h0:0<c.attr.length) (hz:(leafX c).size≤MAXS) :
 Calls Tryz.prog 173 #[.agg #[.int .i64 c.kind,.bool c.goal,.string c.id,.slice A1 c.attr.length c1,.slice A2 c.value.length c2,.bool c.acc,.slice A3 c.conds.length c3]] w fun e w'=>e = .returned (.string (leafX c))∧Below w.heap.size w w':=by
 have H1:=Lib.hid h1
 have H2:=Lib.hid h2
 have hc1:=h1.cap
 have hc2:=h2.cap
 have H0:=Lib.hid h0
 obtain ⟨S1,hS1⟩ : ∃S,S=leaf1 c:=⟨_,rfl⟩
 obtain ⟨S2,hS2⟩ : ∃S,S=leaf2 c:=⟨_,rfl⟩
 obtain ⟨S3,hS3⟩ : ∃S,S=leaf3 c:=⟨_,rfl⟩
 obtain ⟨S4,hS4⟩ : ∃S,S=leaf4 c:=⟨_,rfl⟩
 obtain ⟨S5,hS5⟩ : ∃S,S=leaf5 c:=⟨_,rfl⟩
 have HR:=Lib.hid (show leafX c=S5++(⟨#[41]⟩:ByteArray) by unfold leafX;rw [hS5])
 rw [HR.out,ByteArray.size_append] at hz
 have z5:S5.size+1≤MAXS:=hz
 have HS1:=Lib.hid hS1
 have E2:=Lib.hid (show S2=if c.goal=true then S1++(⟨#[115,116,97,116,101,32]⟩:ByteArray) else S1 by rw [hS2,hS1];rfl)
 have E3:=Lib.hid (show S3=S2++((⟨#[60]⟩:ByteArray)++c.id++(⟨#[62,32,94]⟩:ByteArray)++fieldX c.attr) by rw [hS3,hS2,leaf3];simp only [ByteArray.append_assoc])
 have E4:=Lib.hid (show S4=if 0<c.value.length then S3++((⟨#[32]⟩:ByteArray)++fieldX c.value) else S3 by rw [hS4,hS3,← ByteArray.append_assoc];rfl)
 have E5:=Lib.hid (show S5=if c.acc=true then S4++(⟨#[32,43]⟩:ByteArray) else S4 by rw [hS5,hS4];rfl)
 have z4:S4.size≤MAXS:=by
  have:=congrArg ByteArray.size E5.out
  split at this
  · rw [ByteArray.size_append] at this;omega
  · omega
 have z3:S3.size≤MAXS:=by
  have:=congrArg ByteArray.size E4.out
  split at this
  · rw [ByteArray.size_append,ByteArray.size_append] at this;omega
  · omega
 have z2:S2.size+(1+c.id.size+3+(fieldX c.attr).size)≤MAXS:=by
  have:=congrArg ByteArray.size E3.out
  rw [ByteArray.size_append,ByteArray.size_append,ByteArray.size_append,ByteArray.size_append] at this
  have e1:((⟨#[60]⟩:ByteArray)).size=1:=rfl
  have e3:((⟨#[62,32,94]⟩:ByteArray)).size=3:=rfl
  omega
 have Z1:=Lib.hid (show c.goal=true→S1.size+6≤MAXS from fun h=>by
  have:=congrArg ByteArray.size E2.out
  rw [if_pos h,ByteArray.size_append] at this
  have e6:((⟨#[115,116,97,116,101,32]⟩:ByteArray)).size=6:=rfl
  omega)
 have Z4:=Lib.hid (show 0<c.value.length→S3.size+1+(fieldX c.value).size≤MAXS from fun h=>by
  have:=congrArg ByteArray.size E4.out
  rw [if_pos h,ByteArray.size_append,ByteArray.size_append] at this
  have e1:((⟨#[32]⟩:ByteArray)).size=1:=rfl
  omega)
 have Z5:=Lib.hid (show c.acc=true→S4.size+2≤MAXS from fun h=>by
  have:=congrArg ByteArray.size E5.out
  rw [if_pos h,ByteArray.size_append] at this
  have e1:((⟨#[32,43]⟩:ByteArray)).size=2:=rfl
  omega)
 have y5 : ¬MAXS<S5.size+1:=Nat.not_lt.2 z5
 have y1 : ¬MAXS<1+c.id.size:=by unfold MAXS at *;omega
 have y2 : ¬MAXS<1+c.id.size+3:=by unfold MAXS at *;omega
 have y3 : ¬MAXS<1+c.id.size+3+(fieldX c.attr).size:=by unfold MAXS at *;omega
 have y4 : ¬MAXS<S2.size+(1+c.id.size+3+(fieldX c.attr).size):=Nat.not_lt.2 z2
 have HF1:=Lib.hid (show (fieldX c.attr).size≤MAXS by omega)
 have HY:=Lib.hid (And.intro y5 (And.intro y1 (And.intro y2 (And.intro y3 y4))))
 clear h1 h2 h0 hS1 hS2 hS3 hS4 hS5 hz z5 z4 z3 z2 y5 y1 y2 y3 y4
 have ka:(c.kind == 3)=false:=by simp [hk]
 have kb:decide (c.kind=3)=false:=by simp [hk]
 clear hk
 go_enter Tryz.func173,Tryz.ntmps173
 go_upto_region 1 with fail
 obtain ⟨w1,hw1⟩ : ∃w1,w1=(w.alloc (.cells #[.int .i64 c.kind,.bool c.goal,.string c.id,.slice A1 c.attr.length c1,.slice A2 c.value.length c2,.bool c.acc,.slice A3 c.conds.length c3] 59)):=⟨_,rfl⟩
 rw [← hw1]
 have HB:=Lib.hid (show Below w.heap.size w w1 by rw [hw1];exact (by repeat (first | exact Below.refl _ _ | refine Below.drew ?_ | refine Below.al ?_ _ | refine Below.sc ?_ _)))
 have Kb:=Lib.hid (show Blk w1 (w.heap.size) 59 #[.int .i64 c.kind,.bool c.goal,.string c.id,.slice A1 c.attr.length c1,.slice A2 c.value.length c2,.bool c.acc,.slice A3 c.conds.length c3] by rw [hw1];exact (Blk.new w 59 #[.int .i64 c.kind,.bool c.goal,.string c.id,.slice A1 c.attr.length c1,.slice A2 c.value.length c2,.bool c.acc,.slice A3 c.conds.length c3]))
 clear hw1
 obtain ⟨b0,b1,b2,b3,b4,b5,b6⟩:=Kb.out.c7
 have bz:=Kb.out.lt
 obtain ⟨vg,hvg⟩ : ∃v,v=c.goal:=⟨_,rfl⟩
 rw [← hvg] at b1
 have HVG:=Lib.hid hvg
 obtain ⟨va,hva⟩ : ∃v,v=c.acc:=⟨_,rfl⟩
 rw [← hva] at b5
 have HVA:=Lib.hid hva
 clear hvg hva
 go_upto_if 32 with fail
 go_cut [5] from 30 (fun s wc=>s = .string S1∧wc=w1)
 case first=>
  by_cases h2:c.kind=2
  · have k2a:(c.kind == 2)=true:=by simp [h2]
    have k2b:decide (c.kind=2)=true:=by simp [h2]
    have HV:=Lib.hid (show S1=(⟨#[45,40]⟩:ByteArray) by rw [HS1.out];unfold leaf1;rw [if_pos h2])
    clear h2
    go_wp2_with fail
    go_meet
    case rel=>exact ⟨by rw [HV.out],rfl⟩
  · have k2a:(c.kind == 2)=false:=by simp [h2]
    have k2b:decide (c.kind=2)=false:=by simp [h2]
    have HV:=Lib.hid (show S1=(⟨#[40]⟩:ByteArray) by rw [HS1.out];unfold leaf1;rw [if_neg h2])
    clear h2
    go_wp2_with fail
    go_meet
    case rel=>exact ⟨by rw [HV.out],rfl⟩
 case rest=>
  obtain ⟨rfl,rfl⟩:=hcut
  go_upto_if 34 with fail
  go_cut [5] from 30 (fun s w0=>s = .string S2∧w0=wc)
  case first=>
   cases vg
   · have HV:=Lib.hid (show S2=S1 by rw [E2.out,← HVG.out];rfl)
     go_wp2_with fail
     go_meet
     case rel=>exact ⟨by rw [HV.out],rfl⟩
   · have HV:=Lib.hid (show S2=S1++(⟨#[115,116,97,116,101,32]⟩:ByteArray) by rw [E2.out,← HVG.out];rfl)
     have y6 : ¬MAXS<S1.size+6:=Nat.not_lt.2 (Z1.out HVG.out.symm)
     go_wp2_with fail
     go_meet
     case rel=>exact ⟨by rw [HV.out],rfl⟩
  case rest=>
   obtain ⟨rfl,rfl⟩:=hcut
   obtain ⟨y5,y1,y2,y3,y4⟩:=HY.out
   go_upto_region 15 with fail
   refine wp_region_E (fun w9=>Below wc.heap.size wc w9) [(0,0),(1,0),(2,1),(3,0),(4,0),(5,0),(6,1),(7,2),(8,0),(9,0),(10,0)] (by kernel_rfl) (by kernel_rfl) (fun KK hKK=>?_)
   simp only [beside,List.filterMap_cons,List.filterMap_nil,List.getElem?_toArray,List.getElem?_cons_zero,List.getElem?_cons_succ,Option.map_some]
   repeat ((first | (refine wpX_w ?_ (Or.inl ⟨by rfl,fun w9=>?_⟩) ?_;rotate_left 1;go_simp;with_reducible rfl) | (refine wpX_l ?_ (((Below.refl _ _).drew)) (Or.inl ⟨by rfl,fun w9 hw9=>?_⟩) ?_;rotate_left 1;obtain ⟨hc9,hf9⟩:=bcell hw9;go_simp;with_reducible rfl) | refine wpX_w undef (Or.inr ⟨by rfl,rfl⟩) ?_ | refine wpX_l undef (((Below.refl _ _).drew)) (Or.inr ⟨by rfl,rfl⟩) ?_);go_frame)
   refine wpX_es (fun K9 hK9=>?_)
   go_simp
   refine (r7field_is c.attr _ ((H1.out.new_ HB.out).new_ ((Below.refl _ _).drew)) H0.out HF1.out).mono ?_
   rintro e w5 ⟨rfl,hb5⟩
   have HB5:=Lib.hid (show Below wc.heap.size wc w5 from ((Below.refl wc.heap.size wc).drew).trans hb5)
   have HK5:=Lib.hid (Kb.out.new_ HB5.out)
   clear hb5
   refine hK9 _ _ HB5.out ?_
   clear hK9 K9
   repeat ((first | (refine wpX_w ?_ (Or.inl ⟨by rfl,fun w9=>?_⟩) ?_;rotate_left 1;go_simp;with_reducible rfl) | (refine wpX_l ?_ (HB5.out) (Or.inl ⟨by rfl,fun w9 hw9=>?_⟩) ?_;rotate_left 1;obtain ⟨hc9,hf9⟩:=bcell hw9;go_simp;with_reducible rfl) | refine wpX_w undef (Or.inr ⟨by rfl,rfl⟩) ?_ | refine wpX_l undef (HB5.out) (Or.inr ⟨by rfl,rfl⟩) ?_);go_frame)
   refine wpX_nil ?_
   simp only [OnlyN_normal]
   refine hKK _ _ ?_
   clear hKK KK
   rw [← E3.out]
   clear y1 y2 y3 y4 b0 b1 b2 b3 b4 b5 b6 bz
   have b4:w5.cell? ⟨w.heap.size,4,none⟩=some (.slice A2 c.value.length c2):=(HK5.out.cell 4).trans rfl
   have b5:w5.cell? ⟨w.heap.size,5,none⟩=some (.bool c.acc):=(HK5.out.cell 5).trans rfl
   rw [← HVA.out] at b5
   have bz:=HK5.out.lt
   have HBW:=Lib.hid (HB.out.trans (HB5.out.mono HB.out.size))
   go_upto_if 50 with fail
   go_cut [5] from 30 (fun s wd=>s = .string S4∧Below w5.heap.size w5 wd)
   case first=>
    by_cases hv:0<c.value.length
    · have g1:decide ((0:Int)<(c.value.length:Int))=true:=decide_eq_true (by omega)
      have g2:decide (0<c.value.length)=true:=decide_eq_true hv
      have HV:=Lib.hid (show S4=S3++((⟨#[32]⟩:ByteArray)++fieldX c.value) by rw [E4.out,if_pos hv])
      have z4:=Z4.out hv
      have y6 : ¬MAXS<1+(fieldX c.value).size:=by unfold MAXS at *;omega
      have y7 : ¬MAXS<S3.size+1+(fieldX c.value).size:=Nat.not_lt.2 z4
      have y8 : ¬MAXS<S3.size+(1+(fieldX c.value).size):=by unfold MAXS at *;omega
      have HF2:=Lib.hid (show (fieldX c.value).size≤MAXS by omega)
      have HV0:=Lib.hid hv
      clear z4 y5 hv
      go_wp2_with fail
      refine (r7field_is c.value _ (H2.out.new_ HBW.out) HV0.out HF2.out).mono ?_
      rintro e w6 ⟨rfl,hb6⟩
      have HB6:=Lib.hid hb6
      clear hb6 b4 b5 bz
      go_wp2_with fail
      go_meet
      case rel=>exact ⟨by rw [HV.out],HB6.out⟩
    · have g1:decide ((0:Int)<(c.value.length:Int))=false:=decide_eq_false (by omega)
      have g2:decide (0<c.value.length)=false:=decide_eq_false hv
      have HV:=Lib.hid (show S4=S3 by rw [E4.out,if_neg hv])
      clear y5
      go_wp2_with fail
      go_meet
      case rel=>exact ⟨by rw [HV.out],Below.refl _ _⟩
   case rest=>
    obtain ⟨rfl,hbd⟩:=hcut
    have HBD:=Lib.hid hbd
    have HK7:=HK5.out.new_ hbd
    clear hbd b4 b5 bz
    have b5:wc.cell? ⟨w.heap.size,5,none⟩=some (.bool c.acc):=(HK7.cell 5).trans rfl
    rw [← HVA.out] at b5
    have bz:=HK7.lt
    clear HK7
    go_upto_if 58 with fail
    go_cut [5] from 30 (fun s we=>s = .string S5∧we=wc)
    case first=>
     cases va
     · have HV:=Lib.hid (show S5=S4 by rw [E5.out,← HVA.out];rfl)
       go_wp2_with fail
       go_meet
       case rel=>exact ⟨by rw [HV.out],rfl⟩
     · have HV:=Lib.hid (show S5=S4++(⟨#[32,43]⟩:ByteArray) by rw [E5.out,← HVA.out];rfl)
       have y6 : ¬MAXS<S4.size+2:=Nat.not_lt.2 (Z5.out HVA.out.symm)
       go_wp2_with fail
       go_meet
       case rel=>exact ⟨by rw [HV.out],rfl⟩
    case rest=>
     obtain ⟨rfl,rfl⟩:=hcut
     go_wp2_with fail
     go_ret
     exact ⟨by rw [HR.out]<;>rfl,HBW.out.trans (HBD.out.mono HBW.out.size)⟩
end Go.Proofs.YtffemfglngikbaaGreat
namespace Go.Proofs.YtffemfglngikbaaGreat
open Go.RowKit Go.Shelf
attribute [local go_sem] Oper.semAt_some
set_option linter.unusedSimpArgs false
def AtOk:Nat→CondT→Prop
 | 0,_=>True
 | n+1,c=>(¬c.kind=3→0<c.attr.length)∧∀x∈c.conds,AtOk n x
theorem cond_at : ∀(n d:Nat) (c:CondT),condE c d=0→(∀x∈flatC n (d+1) c.conds,condE x.2 x.1=0)→AtOk (n+1) c
 | n,d,c,h1,h2=>by
   refine ⟨fun hk=>(condE_leaf h1 hk).2.2.2.2.2.2.2,fun c2 hc2=>?_⟩
   cases n with
   | zero=>trivial
   | succ n=>
     obtain ⟨g1,g2⟩:=flatC_in (n:=n) (d:=d+1) hc2
     exact cond_at n (d+1) c2 (h2 _ g1) (fun z hz=>h2 _ (g2 z hz))
theorem prod_at {n:Nat} {p:ProdT} (h:(shapeP n p).2=0) : ∀c∈p.conds,AtOk n c:=by
 obtain ⟨_,_,_,_,_,h2,_⟩:=shapeP_ok h
 intro c hc
 cases n with
 | zero=>trivial
 | succ n=>
   obtain ⟨g1,g2⟩:=flatC_in (n:=n) (d:=0) hc
   exact cond_at n 0 c (h2 _ g1) (fun z hz=>h2 _ (g2 z hz))
def SCond7 (n:Nat):Prop:=∀(c:CondT) (A1:Option Addr) (c1:Nat) (A2:Option Addr) (c2:Nat) (A3:Option Addr) (c3:Nat) (D:Nat→Prop) (w:World),AtOk (n+1) c→RowR repTestT D w A1 c1 c.attr→RowR repTestT D w A2 c2 c.value→RowR (repCondT n) D w A3 c3 c.conds→(condX (n+1) c).size≤MAXS→
    Calls Tryz.prog 173 #[.agg #[.int .i64 c.kind,.bool c.goal,.string c.id,.slice A1 c.attr.length c1,.slice A2 c.value.length c2,.bool c.acc,.slice A3 c.conds.length c3]] w fun e w'=>e = .returned (.string (condX (n+1) c))∧Below w.heap.size w w'
set_option maxRecDepth 100000 in
set_option maxHeartbeats 8000000 in
theorem r7cond_body (n:Nat) (ih : ∀m,n=m+1→SCond7 m):SCond7 n:=by
 intro c A1 c1 A2 c2 A3 c3 D w hat h1 h2 h3 hz
 by_cases hk:c.kind=3
 case neg=>
  have e:condX (n+1) c=leafX c:=by rw [condX,if_neg hk]
  rw [e] at hz ⊢
  exact r7cond_leaf c A1 c1 A2 c2 A3 c3 w h1 h2 hk (hat.1 hk) hz
 have HR:=Lib.hid (show condX (n+1) c=(c.conds.foldl (allF (condX n)) (0,(⟨#[45,123]⟩:ByteArray))).2++(⟨#[125]⟩:ByteArray) by rw [condX,if_pos hk])
 rw [HR.out,ByteArray.size_append] at hz
 obtain ⟨T,hT⟩ : ∃T,T=(c.conds.foldl (allF (condX n)) (0,(⟨#[45,123]⟩:ByteArray))).2:=⟨_,rfl⟩
 rw [← hT] at HR hz
 have HT:=Lib.hid hT
 have hz9 : ¬MAXS<T.size+1:=Nat.not_lt.2 hz
 have hzz:T.size≤MAXS:=by unfold MAXS at hz9 ⊢;omega
 have H3:=Lib.hid h3
 have IH:=Lib.hid ih
 have HAT:=Lib.hid hat.2
 have hc1:=h1.cap
 have hc2:=h2.cap
 have hc3:=h3.cap
 have ka:(c.kind == 3)=true:=by simp [hk]
 have kb:decide (c.kind=3)=true:=by simp [hk]
 clear hk h1 h2 h3 ih hz hT hat
 go_enter Tryz.func173,Tryz.ntmps173
 go_upto_region 1 with fail
 obtain ⟨w1,hw1⟩ : ∃w1,w1=(w.alloc (.cells #[.int .i64 c.kind,.bool c.goal,.string c.id,.slice A1 c.attr.length c1,.slice A2 c.value.length c2,.bool c.acc,.slice A3 c.conds.length c3] 59)):=⟨_,rfl⟩
 rw [← hw1]
 have HB:=Lib.hid (show Below w.heap.size w w1 by rw [hw1];exact (by repeat (first | exact Below.refl _ _ | refine Below.drew ?_ | refine Below.al ?_ _ | refine Below.sc ?_ _)))
 have Kb:=Lib.hid (show Blk w1 (w.heap.size) 59 #[.int .i64 c.kind,.bool c.goal,.string c.id,.slice A1 c.attr.length c1,.slice A2 c.value.length c2,.bool c.acc,.slice A3 c.conds.length c3] by rw [hw1];exact (Blk.new w 59 #[.int .i64 c.kind,.bool c.goal,.string c.id,.slice A1 c.attr.length c1,.slice A2 c.value.length c2,.bool c.acc,.slice A3 c.conds.length c3]))
 clear hw1
 obtain ⟨b0,b1,b2,b3,b4,b5,b6⟩:=Kb.out.c7
 have bz:=Kb.out.lt
 go_wp2_with fail
 clear b0 b1 b2 b3 b4 b5 b6 bz 
 go_loopw [3,4] (fun s i wr=>∃k:Nat,i = .int .i64 k∧k≤c.conds.length∧s = .string ((c.conds.take k).foldl (allF (condX n)) (0,(⟨#[45,123]⟩:ByteArray))).2∧Below w.heap.size w wr∧Blk wr (w.heap.size) 59 #[.int .i64 c.kind,.bool c.goal,.string c.id,.slice A1 c.attr.length c1,.slice A2 c.value.length c2,.bool c.acc,.slice A3 c.conds.length c3]) (fun s i wr=>c.conds.length - (intOf i).toNat)
 case atStart=>exact ⟨0,rfl,Nat.zero_le _,rfl,HB.out,Kb.out⟩
 case round=>
  obtain ⟨k,rfl,hk,rfl,hb,hkb⟩:=hrel
  have HBW:=Lib.hid hb
  have Kb:=Lib.hid hkb
  clear hb hkb
  by_cases hlt:k<c.conds.length
  · have hrw:=H3.out.new_ HBW.out
    obtain ⟨m,hnm⟩ : ∃m,n=m+1:=by
     cases n with
     | zero=>rw [row0 hrw] at hlt;simp at hlt
     | succ m=>exact ⟨m,rfl⟩
    subst hnm
    obtain ⟨g,off,B1,d1,B2,d2,B3,d3,hA0,_,hg,q0,q1,q2,q3,q4,q5,q6,hy1,hy2,hy3⟩:=at_CondT hrw hlt
    subst hA0
    obtain ⟨y,hy⟩ : ∃y,y=c.conds[k]:=⟨_,rfl⟩
    obtain ⟨S,hS⟩ : ∃S,S=((c.conds.take k).foldl (allF (condX (m+1))) (0,(⟨#[45,123]⟩:ByteArray))).2:=⟨_,rfl⟩
    have HN:=Lib.hid (show ((c.conds.take (k+1)).foldl (allF (condX (m+1))) (0,(⟨#[45,123]⟩:ByteArray))).2=(if 0<k then S++(⟨#[32]⟩:ByteArray) else S)++condX (m+1) y by rw [allF_snoc _ hlt,← hS,← hy])
    have hle:=allF_take (condX (m+1)) (l:=c.conds) (i:=k+1) (⟨#[45,123]⟩:ByteArray)
    rw [HN.out,← HT.out,ByteArray.size_append] at hle
    rw [← hy] at q0 q1 q2 q3 q4 q5 q6 hy1 hy2 hy3
    have HZY:=Lib.hid (show (condX (m+1) y).size≤MAXS by omega)
    have HIH:=Lib.hid (IH.out m rfl y B1 d1 B2 d2 B3 d3 D wr (HAT.out y (by rw [hy];exact List.getElem_mem hlt)) hy1 hy2 hy3 HZY.out)
    have b1_:(0:Int)≤(k:Int):=by omega
    have b2_:(k:Int)<(c.conds.length:Int):=by omega
    obtain ⟨b0,b1,b2,b3,b4,b5,b6⟩:=Kb.out.c7
    have bz:=Kb.out.lt
    rw [← hS]
    by_cases hk0:0<k
    · have g1:decide ((0:Int)<(k:Int))=true:=decide_eq_true (by omega)
      have g2:decide (0<k)=true:=decide_eq_true hk0
      rw [if_pos hk0] at HN hle
      rw [ByteArray.size_append] at hle
      have y1 : ¬MAXS<S.size+1:=Nat.not_lt.2 (by have e:((⟨#[32]⟩:ByteArray)).size=1:=rfl;unfold MAXS at *;omega)
      have y2 : ¬MAXS<S.size+1+(condX (m+1) y).size:=Nat.not_lt.2 (by have e:((⟨#[32]⟩:ByteArray)).size=1:=rfl;unfold MAXS at *;omega)
      clear hy hS hle hrw hy1 hy2 hy3 hz9 hzz
      go_wp2_with fail
      refine HIH.out.mono ?_
      rintro e w5 ⟨rfl,hb5⟩
      have HB5:=Lib.hid (HBW.out.trans (hb5.mono HBW.out.size))
      have Kb:=Lib.hid (Kb.out.new_ hb5)
      clear hb5 q0 q1 q2 q3 q4 q5 q6 b0 b1 b2 b3 b4 b5 b6 bz
      go_wp2_with fail
      go_roundw
      case rel=>exact ⟨k+1,by go_num,by omega,by rw [HN.out],HB5.out,Kb.out⟩
      case measure=>simp [intOf]<;>omega
    · have g1:decide ((0:Int)<(k:Int))=false:=decide_eq_false (by omega)
      have g2:decide (0<k)=false:=decide_eq_false hk0
      rw [if_neg hk0] at HN hle
      have y2 : ¬MAXS<S.size+(condX (m+1) y).size:=Nat.not_lt.2 (by unfold MAXS at *;omega)
      clear hy hS hle hrw hy1 hy2 hy3 hz9 hzz
      go_wp2_with fail
      refine HIH.out.mono ?_
      rintro e w5 ⟨rfl,hb5⟩
      have HB5:=Lib.hid (HBW.out.trans (hb5.mono HBW.out.size))
      have Kb:=Lib.hid (Kb.out.new_ hb5)
      clear hb5 q0 q1 q2 q3 q4 q5 q6 b0 b1 b2 b3 b4 b5 b6 bz
      go_wp2_with fail
      go_roundw
      case rel=>exact ⟨k+1,by go_num,by omega,by rw [HN.out],HB5.out,Kb.out⟩
      case measure=>simp [intOf]<;>omega
  · obtain rfl:k=c.conds.length:=by omega
    rw [List.take_length,← HT.out]
    obtain ⟨b0,b1,b2,b3,b4,b5,b6⟩:=Kb.out.c7
    have bz:=Kb.out.lt
    go_wp2_with fail
    go_ret
    exact ⟨by rw [HR.out]<;>rfl,HBW.out⟩
theorem r7cond_is : ∀n,SCond7 n
 | 0=>r7cond_body 0 (fun m h=>by omega)
 | n+1=>r7cond_body (n+1) (fun m h=>by obtain rfl:m=n:=by omega
                                       exact r7cond_is m)
end Go.Proofs.YtffemfglngikbaaGreat
