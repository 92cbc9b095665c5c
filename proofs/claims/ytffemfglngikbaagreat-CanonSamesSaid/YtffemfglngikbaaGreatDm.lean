/-
  Texts put together: Ref06D, Ref06E, Ref07E, KeepTexts, RefNm, RefVars.
-/
import Derived.Test.YtffemfglngikbaaGreatDl
import Derived.Test.YtffemfglngikbaaGreatDh
import Derived.Test.YtffemfglngikbaaGreatDc
import Derived.Test.YtffemfglngikbaaGreatDk
import Derived.Test.YtffemfglngikbaaGreatDi
import Derived.Test.YtffemfglngikbaaGreatDb
import Derived.Test.YtffemfglngikbaaGreatDd
import Derived.Deep.MidRow
import Derived.Maps.RangeWalk
namespace Go.Proofs.YtffemfglngikbaaGreat
open Go.RowKit Go.Shelf
def firstE:Int→List (Nat×CondT)→Int×Int
 | _,[]=>(-1,0)
 | n,c :: r=>if condE c.2 c.1≠0 then (n,condE c.2 c.1) else firstE (n+1) r
theorem firstE_app : ∀(n:Int) (a b:List (Nat×CondT)),(firstE n a).2=0→firstE n (a++b)=firstE (n+(a.length:Nat)) b
 | n,[],b,_=>by simp
 | n,c :: a,b,h=>by
   rw [List.cons_append,firstE]
   rw [firstE] at h
   by_cases hc:condE c.2 c.1≠0
   · rw [if_pos hc] at h;exact absurd h hc
   · rw [if_neg hc] at h
     rw [if_neg hc,firstE_app (n+1) a b h,List.length_cons]
     congr 1;omega
theorem firstE_stop : ∀(n:Int) (a b:List (Nat×CondT)),(firstE n a).2≠0→firstE n (a++b)=firstE n a
 | n,[],b,h=>absurd rfl h
 | n,c :: a,b,h=>by
   rw [List.cons_append,firstE,firstE]
   rw [firstE] at h
   by_cases hc:condE c.2 c.1≠0
   · rw [if_pos hc,if_pos hc]
   · rw [if_neg hc] at h
     rw [if_neg hc,if_neg hc,firstE_stop (n+1) a b h]
theorem firstE_shape : ∀(n:Int) (l:List (Nat×CondT)),firstE n l=(match l.findIdx? (fun c=>decide (condE c.2 c.1≠0)) with
 | some k=>(n+k,((l[k]?).map fun c=>condE c.2 c.1).getD 0)
 | none=>(-1,0))
 | n,[]=>rfl
 | n,c :: r=>by
   rw [firstE,List.findIdx?_cons]
   by_cases hc:condE c.2 c.1≠0
   · rw [if_pos hc,if_pos (decide_eq_true hc)];simp
   · rw [if_neg hc,if_neg (by simpa using hc),firstE_shape (n+1) r]
     cases r.findIdx? (fun c=>decide (condE c.2 c.1≠0)) with
     | none=>rfl
     | some k=>simp only [Option.map_some,List.getElem?_cons_succ];congr 1;push_cast;omega
theorem conds_zero {D:Nat→Prop} {w:World} {A:Option Addr} {c:Nat} {l:List CondT} (h:RowR (repCondT 0) D w A c l):l = []:=by
 cases l with
 | nil=>rfl
 | cons x l=>
   obtain ⟨b,off,cs,_,_,_,hr,_⟩:=h.at_ (k:=0) (by simp)
   exact hr.elim
theorem flatC_all (n d:Nat) (l:List CondT) (i:Nat) (hi:i<l.length):flatC (n+1) d l=flatC (n+1) d (l.take i)++((d,l[i]) :: flatC n (d+1) l[i].conds++flatC (n+1) d (l.drop (i+1))):=by
 rw [← List.append_assoc,← flatC_snoc n d l i hi]
 conv=>lhs;rw [← List.take_append_drop (i+1) l]
 rw [flatC_succ,flatC_succ,flatC_succ,List.flatMap_append]
set_option maxRecDepth 100000 in
set_option maxHeartbeats 4000000 in
theorem rsize_is : ∀(n:Nat) (D:Nat→Prop) (A:Option Addr) (c:Nat) (d:Nat) (l:List CondT) (w:World),RowR (repCondT n) D w A c l→(flatC n d l).length≤1000000→
 Calls Tryz.prog 88 #[.slice A l.length c] w fun e w'=>e = .returned (.int .i64 ((flatC n d l).length:Nat))∧w=w':=by
 intro n
 induction n with
 | zero=>
   intro D A c d l w h _
   obtain rfl:=conds_zero h
   clear h
   have HR:=Lib.hid (show (((flatC 0 d []).length:Nat):Int)=0 from rfl)
   go_enter Tryz.func88,Tryz.ntmps88
   go_wp2_with fail
   go_loopw [3,4] (fun a s wr=>s = .int .i64 0∧a = .int .i64 0∧wr=w) (fun a s wr=>0)
   case atStart=>exact ⟨rfl,rfl,rfl⟩
   case round=>
    obtain ⟨rfl,rfl,rfl⟩:=hrel
    go_wp2_with fail
    go_ret
    exact ⟨by rw [HR.out];rfl,rfl⟩
 | succ n ih=>
   intro D A c d l w h hle
   have IH:=Lib.hid ih
   have H:=Lib.hid h
   have hlc:=h.cap
   obtain ⟨tot,htot⟩ : ∃tot,tot=(flatC (n+1) d l).length:=⟨_,rfl⟩
   rw [← htot] at hle ⊢
   have HT:=Lib.hid htot
   clear h ih htot
   go_enter Tryz.func88,Tryz.ntmps88
   go_wp2_with fail
   go_loopw [3,4] (fun a s wr=>∃i m:Nat,s = .int .i64 i∧i≤l.length∧a = .int .i64 (m:Int)∧m=(flatC (n+1) d (l.take i)).length∧wr=w) (fun a s wr=>l.length - (intOf s).toNat)
   case atStart=>exact ⟨0,0,rfl,Nat.zero_le _,rfl,by simp [flatC],rfl⟩
   case round=>
    obtain ⟨i,m,rfl,hi,rfl,hm,rfl⟩:=hrel
    have HM:=Lib.hid hm
    clear hm
    by_cases hlt:i<l.length
    · obtain ⟨x,hx⟩ : ∃x,x=l[i]:=⟨_,rfl⟩
      obtain ⟨mi,hmi⟩ : ∃mi,mi=(flatC n (d+1) x.conds).length:=⟨_,rfl⟩
      have hall:=flatC_all n d l i hlt
      have hsn:=flatC_snoc n d l i hlt
      rw [← hx] at hall hsn
      have HM1:=Lib.hid (show m+(1+mi)=(flatC (n+1) d (l.take (i+1))).length by rw [hsn,List.length_append,List.length_cons,← HM.out,← hmi];omega)
      have hmt:m+(1+mi)≤tot:=by
       rw [HT.out,hall,List.length_append,List.length_append,List.length_cons,← HM.out,← hmi];omega
      obtain ⟨g,off,A1,c1,A2,c2,A3,c3,rfl,_,hgs,q0,q1,q2,q3,q4,q5,q6,r1,r2,r3⟩:=at_CondT H.out hlt
      rw [← hx] at q6 r3
      have hn3:=r3.cap
      have HCL:=Lib.hid (show Calls Tryz.prog 88 #[.slice A3 x.conds.length c3] wr fun e w'=>e = .returned (.int .i64 (mi:Int))∧wr=w' by
       have:=IH.out D A3 c3 (d+1) x.conds wr r3 (by omega)
       rw [hmi]
       exact this)
      have b1:(0:Int)≤(i:Int):=by omega
      have b2:(i:Int)<(l.length:Int):=by omega
      have v3:IntKind.i64.wrap (1+(mi:Int))=1+(mi:Int):=IntWalk.i64_in _ (by omega)
      have v4:IntKind.i64.wrap ((m:Int)+(1+(mi:Int)))=(m:Int)+(1+(mi:Int)):=IntWalk.i64_in _ (by omega)
      clear hx hmi hall hsn r1 r2 r3 q0 q1 q2 q3 q4 q5
      go_wp2_with fail
      refine HCL.out.mono ?_
      rintro e w2 ⟨rfl,rfl⟩
      go_wp2_with fail
      go_roundw
      case rel=>exact ⟨i+1,m+(1+mi),by go_num,by omega,by push_cast;rfl,HM1.out,by trivial⟩
      case measure=>simp [intOf]<;>omega
    · have hie:i=l.length:=by omega
      subst hie
      have HR:=Lib.hid (show m=tot by rw [HM.out,HT.out,List.take_length])
      go_wp2_with fail
      go_ret
      exact ⟨by rw [HR.out];rfl,rfl⟩
set_option maxRecDepth 100000 in
set_option maxHeartbeats 8000000 in
theorem rconds_is : ∀(n:Nat) (D:Nat→Prop) (A:Option Addr) (c:Nat) (d:Nat) (k:Nat) (l:List CondT) (w:World),RowR (repCondT n) D w A c l→k+(flatC n d l).length≤1000000→d+n≤1000000→
 Calls Tryz.prog 105 #[.slice A l.length c,.int .i64 (k:Int),.int .i64 (d:Int)] w fun e w'=>e = .returned (.tuple #[.int .i64 (firstE k (flatC n d l)).1,.int .i64 (firstE k (flatC n d l)).2])∧Below w.heap.size w w':=by
 intro n
 induction n with
 | zero=>
   intro D A c d k l w h _ _
   obtain rfl:=conds_zero h
   clear h
   have HR:=Lib.hid (show firstE k (flatC 0 d [])=(-1,0) from rfl)
   go_enter Tryz.func105,Tryz.ntmps105
   go_wp2_with fail
   go_loopw [1,8] (fun a s wr=>s = .int .i64 0∧a = .int .i64 (k:Int)∧wr=w) (fun a s wr=>0)
   case atStart=>exact ⟨rfl,rfl,rfl⟩
   case round=>
    obtain ⟨rfl,rfl,rfl⟩:=hrel
    go_wp2_with fail
    exact bodyPost_ret (v:=.tuple #[.int .i64 (-1),.int .i64 0]) (by simp [results,Tryz.results105,go_sem, *]) rfl ⟨by rw [HR.out],Below.refl _ _⟩
 | succ n ih=>
   intro D A c d k l w h hle hdn
   have IH:=Lib.hid ih
   have H:=Lib.hid h
   have hlc:=h.cap
   obtain ⟨fl,hfl⟩ : ∃fl,fl=flatC (n+1) d l:=⟨_,rfl⟩
   rw [← hfl] at hle ⊢
   have HT:=Lib.hid hfl
   clear h ih hfl
   go_enter Tryz.func105,Tryz.ntmps105
   go_wp2_with fail
   go_loopw [1,8] (fun a s wr=>∃i m:Nat,s = .int .i64 i∧i≤l.length∧a = .int .i64 (m:Int)∧m=k+(flatC (n+1) d (l.take i)).length∧(firstE k (flatC (n+1) d (l.take i))).2=0∧Below w.heap.size w wr) (fun a s wr=>l.length - (intOf s).toNat)
   case atStart=>exact ⟨0,k,rfl,Nat.zero_le _,rfl,by simp [flatC],by simp [flatC,firstE],Below.refl _ _⟩
   case round=>
    obtain ⟨i,m,rfl,hi,rfl,hm,hz,hB⟩:=hrel
    have HM:=Lib.hid hm
    have HZ:=Lib.hid hz
    have HB:=Lib.hid hB
    clear hm hz hB
    by_cases hlt:i<l.length
    · obtain ⟨x,hx⟩ : ∃x,x=l[i]:=⟨_,rfl⟩
      obtain ⟨fi,hfi⟩ : ∃fi,fi=flatC n (d+1) x.conds:=⟨_,rfl⟩
      have hall:=flatC_all n d l i hlt
      have hsn:=flatC_snoc n d l i hlt
      rw [← hx,← hfi] at hall hsn
      have hmt:m+(1+fi.length)≤k+fl.length:=by
       rw [HT.out,hall,List.length_append,List.length_append,List.length_cons,HM.out];omega
      have HM1:=Lib.hid (show m+(1+fi.length)=k+(flatC (n+1) d (l.take (i+1))).length by rw [hsn,List.length_append,List.length_cons,HM.out];omega)
      have HFL:=Lib.hid (show ∀r,firstE m ((d,x) :: fi)=r→r.2≠0→firstE k fl=r by
       intro r h1 h2
       rw [HT.out,hall,firstE_app _ _ _ HZ.out,show (k:Int)+((flatC (n+1) d (l.take i)).length:Nat)=(m:Nat) by rw [HM.out];push_cast;rfl,firstE_stop _ _ _ (by rw [h1];exact h2),h1])
      have HZ1:=Lib.hid (show (firstE m ((d,x) :: fi)).2=0→(firstE k (flatC (n+1) d (l.take (i+1)))).2=0 by
       intro h1
       rw [hsn,firstE_app _ _ _ HZ.out,show (k:Int)+((flatC (n+1) d (l.take i)).length:Nat)=(m:Nat) by rw [HM.out];push_cast;rfl,h1])
      obtain ⟨g,off,A1,c1,A2,c2,A3,c3,rfl,_,hgs,q0,q1,q2,q3,q4,q5,q6,r1,r2,r3⟩:=at_CondT (H.out.new_ HB.out) hlt
      rw [← hx] at q0 q1 q2 q3 q4 q5 q6 r1 r2 r3
      have hn3:=r3.cap
      have HR1:=Lib.hid r1
      have HR2:=Lib.hid r2
      have HR3:=Lib.hid r3
      have HCL:=Lib.hid (show ∀W,Below wr.heap.size wr W→Calls Tryz.prog 105 #[.slice A3 x.conds.length c3,.int .i64 ((m:Int)+1),.int .i64 ((d:Int)+1)] W fun e w'=>e = .returned (.tuple #[.int .i64 (firstE ((m:Int)+1) fi).1,.int .i64 (firstE ((m:Int)+1) fi).2])∧Below W.heap.size W w' by
       intro W hb
       have:=IH.out D A3 c3 (d+1) (m+1) x.conds W (HR3.out.new_ hb) (by rw [← hfi];omega) (by omega)
       rw [← hfi] at this
       exact this)
      have HSZ:=Lib.hid (show ∀W,Below wr.heap.size wr W→Calls Tryz.prog 88 #[.slice A3 x.conds.length c3] W fun e w'=>e = .returned (.int .i64 (fi.length:Nat))∧W=w' by
       intro W hb
       have:=rsize_is n D A3 c3 (d+1) x.conds W (HR3.out.new_ hb) (by rw [← hfi];omega)
       rw [hfi]
       exact this)
      have HCE:=Lib.hid (show firstE m ((d,x) :: fi)=if condE x d≠0 then ((m:Int),condE x d) else firstE ((m:Int)+1) fi from rfl)
      have b1:(0:Int)≤(i:Int):=by omega
      have b2:(i:Int)<(l.length:Int):=by omega
      have v1:IntKind.i64.wrap ((m:Int)+1)=(m:Int)+1:=IntWalk.i64_in _ (by omega)
      have v2:IntKind.i64.wrap ((d:Int)+1)=(d:Int)+1:=IntWalk.i64_in _ (by omega)
      have v3:IntKind.i64.wrap (1+(fi.length:Int))=1+(fi.length:Int):=IntWalk.i64_in _ (by omega)
      have v4:IntKind.i64.wrap ((m:Int)+(1+(fi.length:Int)))=(m:Int)+(1+(fi.length:Int)):=IntWalk.i64_in _ (by omega)
      have hzr:=HB.out.size
      clear hx hfi hall hsn r1 r2 r3
      obtain ⟨e1,he1⟩ : ∃e1,e1=condE x d:=⟨_,rfl⟩
      rw [← he1] at HCE
      have HE1:=Lib.hid he1
      clear he1
      go_wp2_with fail
      refine (rcond_is x d A1 A2 A3 c1 c2 c3 wr HR1.out HR2.out hn3).mono ?_
      rintro e w2 ⟨rfl,hb⟩
      rw [← HE1.out]
      have HB2:=Lib.hid hb
      have q6':=(hb.cell (p:=⟨g,off+i*7+6,none⟩) hgs).trans q6
      have hgs2:g<w2.heap.size:=Nat.lt_of_lt_of_le hgs hb.size
      clear hb q0 q1 q2 q3 q4 q5 q6
      by_cases hz1:e1=0
      · have t1:(e1 != 0)=false:=by simp [hz1]
        have t2:(e1 == 0)=true:=by simp [hz1]
        have HC2:=Lib.hid (show firstE m ((d,x) :: fi)=firstE ((m:Int)+1) fi by rw [HCE.out,if_neg (by simpa using hz1)])
        clear hz1
        go_wp2_with fail
        refine (HCL.out w2 HB2.out).mono ?_
        rintro e w3 ⟨rfl,hb⟩
        obtain ⟨⟨r1,r2⟩,hr⟩ : ∃r,r=firstE ((m:Int)+1) fi:=⟨_,rfl⟩
        rw [← hr] at HC2 ⊢
        have HB3:=Lib.hid (HB2.out.trans (hb.mono HB2.out.size))
        have q7:=(hb.cell (p:=⟨g,off+i*7+6,none⟩) hgs2).trans q6'
        have hgs3:g<w3.heap.size:=Nat.lt_of_lt_of_le hgs2 hb.size
        clear hb hr q6'
        dsimp only
        by_cases hz2:r2=0
        · have t3:(r2 != 0)=false:=by simp [hz2]
          have t4:(r2 == 0)=true:=by simp [hz2]
          have HZ2:=Lib.hid (HZ1.out (by rw [HC2.out];exact hz2))
          clear hz2
          go_wp2_with fail
          refine (HSZ.out w3 HB3.out).mono ?_
          rintro e w0 ⟨rfl,rfl⟩
          go_wp2_with fail
          go_roundw
          case rel=>exact ⟨i+1,m+(1+fi.length),by go_num,by omega,by push_cast;rfl,HM1.out,HZ2.out,HB.out.trans (HB3.out.mono hzr)⟩
          case measure=>simp [intOf]<;>omega
        · have t3:(r2 != 0)=true:=by simp [hz2]
          have t4:(r2 == 0)=false:=by simp [hz2]
          have HF:=Lib.hid (HFL.out _ HC2.out hz2)
          clear hz2
          go_wp2_with fail
          exact bodyPost_ret (v:=.tuple #[.int .i64 r1,.int .i64 r2]) (by simp [results,Tryz.results105,go_sem, *]) rfl ⟨by rw [HF.out],HB.out.trans (HB3.out.mono hzr)⟩
      · have t1:(e1 != 0)=true:=by simp [hz1]
        have t2:(e1 == 0)=false:=by simp [hz1]
        have HF:=Lib.hid (HFL.out ((m:Int),e1) (by rw [HCE.out,if_pos hz1]) hz1)
        clear hz1
        go_wp2_with fail
        exact bodyPost_ret (v:=.tuple #[.int .i64 (m:Int),.int .i64 e1]) (by simp [results,Tryz.results105,go_sem, *]) rfl ⟨by rw [HF.out],HB.out.trans (HB2.out.mono hzr)⟩
    · have hie:i=l.length:=by omega
      subst hie
      have HF:=Lib.hid (show firstE k fl=(-1,0) by
       have h1:=HZ.out
       rw [List.take_length,← HT.out] at h1
       have : ∀(n:Int) (l:List (Nat×CondT)),(firstE n l).2=0→firstE n l=(-1,0):=by
        intro n l
        induction l generalizing n with
        | nil=>intro _;rfl
        | cons c l ih=>
          intro h
          rw [firstE] at h ⊢
          by_cases hc:condE c.2 c.1≠0
          · rw [if_pos hc] at h;exact absurd h hc
          · rw [if_neg hc] at h ⊢;exact ih _ h
       exact this _ _ h1)
      go_wp2_with fail
      exact bodyPost_ret (v:=.tuple #[.int .i64 (-1),.int .i64 0]) (by simp [results,Tryz.results105,go_sem, *]) rfl ⟨by rw [HF.out],HB.out⟩
end Go.Proofs.YtffemfglngikbaaGreat
namespace Go.Proofs.YtffemfglngikbaaGreat
open Go.RowKit Go.Shelf
attribute [local go_sem] Oper.semAt_some
theorem shapeP_first {n:Nat} {p:ProdT} {F:List (Nat×CondT)} (hF:F=flatC n 0 p.conds) (hw:isWord p.name=true) (h : ¬(F.length<1∨16<F.length∨p.acts.length<1∨16<p.acts.length)) :
 shapeP n p=if (firstE 0 F).2≠0 then firstE 0 F else match p.acts.findIdx? (fun a=>!actB a) with
  | some i=>(F.length+i,9)
  | none=>(-1,0):=by
 unfold shapeP
 rw [← hF,if_neg (by rw [hw];simp),if_neg h,firstE_shape]
 cases hfi:F.findIdx? (fun c=>decide (condE c.2 c.1≠0)) with
 | none=>
   simp
   cases p.acts.findIdx? (fun a=>!actB a)<;>rfl
 | some k=>
   obtain ⟨hk,h1,_⟩:=List.findIdx?_eq_some_iff_getElem.1 hfi
   have h1':condE F[k].2 F[k].1≠0:=by simpa using h1
   simp [List.getElem?_eq_getElem hk,h1']
theorem ract_row {D:Nat→Prop} {w:World} {A:Option Addr} {c i:Nat} {l:List ActT} (h:RowR repActT D w A c l) (hi:i<l.length) : ∃g off,A=some ⟨g,off,none⟩∧D g∧g<w.heap.size∧w.rangeAt g (off+i*19) (ActT.cells l[i]):=by
 obtain ⟨g,off,cs,e1,hd,hg,hr,hc⟩:=h.at_ hi
 have hr2:cs=ActT.cells l[i]:=hr
 subst hr2
 exact ⟨g,off,e1,hd,hg,fun j v hv=>hc j v hv⟩
set_option maxRecDepth 100000 in
set_option maxHeartbeats 8000000 in
theorem rshape_is {D:Nat→Prop} (p:ProdT) (n:Nat) (A1 A2:Option Addr) (c1 c2:Nat) (w:World) (h1:RowR (repCondT n) D w A1 c1 p.conds) (h2:RowR repActT D w A2 c2 p.acts) (hF:(flatC n 0 p.conds).length≤1000000) (hn:n≤1000000) :
 Calls Tryz.prog 43 #[.agg #[.string p.name,.slice A1 p.conds.length c1,.slice A2 p.acts.length c2]] w fun e w'=>e = .returned (.tuple #[.int .i64 (shapeP n p).1,.int .i64 (shapeP n p).2])∧Below w.heap.size w w':=by
 have H1:=Lib.hid h1
 have H2:=Lib.hid h2
 have hl2:=h2.cap
 have hl1:=h1.cap
 clear h1 h2
 obtain ⟨F,hFd⟩ : ∃F,F=flatC n 0 p.conds:=⟨_,rfl⟩
 have HFD:=Lib.hid hFd
 rw [← hFd] at hF
 clear hFd
 have HSZ:=Lib.hid (show ∀W,Below w.heap.size w W→Calls Tryz.prog 88 #[.slice A1 p.conds.length c1] W fun e w'=>e = .returned (.int .i64 (F.length:Nat))∧W=w' by
  intro W hb
  have:=rsize_is n D A1 c1 0 p.conds W (H1.out.new_ hb) (by rw [← HFD.out];omega)
  rw [← HFD.out] at this
  exact this)
 have HCN:=Lib.hid (show ∀W,Below w.heap.size w W→Calls Tryz.prog 105 #[.slice A1 p.conds.length c1,.int .i64 0,.int .i64 0] W fun e w'=>e = .returned (.tuple #[.int .i64 (firstE 0 F).1,.int .i64 (firstE 0 F).2])∧Below W.heap.size W w' by
  intro W hb
  have:=rconds_is n D A1 c1 0 0 p.conds W (H1.out.new_ hb) (by rw [← HFD.out];omega) (by omega)
  rw [← HFD.out] at this
  exact this)
 have HBAD:=Lib.hid (show isWord p.name=true→(F.length<1∨16<F.length∨p.acts.length<1∨16<p.acts.length)→shapeP n p=(-1,7) by
  intro hw h
  unfold shapeP
  rw [if_neg (by rw [hw];simp),← HFD.out,if_pos h])
 go_enter Tryz.func43,Tryz.ntmps43
 go_upto_region 1 with fail
 obtain ⟨w1,hw1⟩ : ∃w1,w1=(w.alloc (.cells #[.string p.name,.slice A1 p.conds.length c1,.slice A2 p.acts.length c2] 25)):=⟨_,rfl⟩
 rw [← hw1]
 have HB:=Lib.hid (show Below w.heap.size w w1 by rw [hw1];exact (by repeat (first | exact Below.refl _ _ | refine Below.drew ?_ | refine Below.al ?_ _ | refine Below.sc ?_ _)))
 have Kp:=Lib.hid (show Blk w1 (w.heap.size) 25 #[.string p.name,.slice A1 p.conds.length c1,.slice A2 p.acts.length c2] by rw [hw1];exact (Blk.new w 25 #[.string p.name,.slice A1 p.conds.length c1,.slice A2 p.acts.length c2]))
 clear hw1
 obtain ⟨p0,p1,p2⟩:=Kp.out.c3
 have pz:=Kp.out.lt
 cases hw:isWord p.name
 · skip
   have hc:=fun W=>rword_is p.name W
   simp only [hw] at hc
   have HC:=Lib.hid hc
   clear hc
   go_wp2_with fail
   with_reducible refine (HC.out _).mono ?_
   rintro e w0 ⟨rfl,rfl⟩
   have HR:=Lib.hid (show shapeP n p=(-1,2) by unfold shapeP;rw [if_pos hw])
   clear hw
   go_wp2_with fail
   exact bodyPost_ret (v:=.tuple #[.int .i64 (-1),.int .i64 2]) (by simp [results,Tryz.results43,go_sem, *]) rfl ⟨by rw [HR.out],by (repeat (first | exact Below.refl _ _ | exact HB.out | refine Below.drew ?_ | refine Below.al ?_ _ | refine Below.sc ?_ _))⟩
 · skip
   have hc:=fun W=>rword_is p.name W
   simp only [hw] at hc
   have HC:=Lib.hid hc
   clear hc
   go_wp2_with fail
   with_reducible refine (HC.out _).mono ?_
   rintro e w0 ⟨rfl,rfl⟩
   have HW:=Lib.hid hw
   clear hw
   go_wp2_with fail
   with_reducible refine (HSZ.out _ (by (repeat (first | exact Below.refl _ _ | exact HB.out | refine Below.drew ?_ | refine Below.al ?_ _ | refine Below.sc ?_ _)))).mono ?_
   rintro e w0 ⟨rfl,rfl⟩
   by_cases ha:F.length<1
   · skip
     have aa:decide ((F.length:Int)<1)=true:=decide_eq_true (by omega)
     have ab:decide (F.length<1)=true:=decide_eq_true (by omega)
     have HR:=Lib.hid (HBAD.out HW.out (by omega))
     have hzz:F.length=0:=by omega
     have HZZ:=Lib.hid hzz
     clear hzz
     clear ha
     go_wp2_with fail
     exact bodyPost_ret (v:=.tuple #[.int .i64 (-1),.int .i64 7]) (by simp [results,Tryz.results43,go_sem, *]) rfl ⟨by rw [HR.out],by (repeat (first | exact Below.refl _ _ | exact HB.out | refine Below.drew ?_ | refine Below.al ?_ _ | refine Below.sc ?_ _))⟩
   · skip
     have aa:decide ((F.length:Int)<1)=false:=decide_eq_false (by omega)
     have ab:decide (F.length<1)=false:=decide_eq_false (by omega)
     have Ha:=Lib.hid ha
     clear ha
     by_cases hb:16<F.length
     · skip
       have ba:decide ((16:Int)<(F.length:Int))=true:=decide_eq_true (by omega)
       have bb:decide (16<F.length)=true:=decide_eq_true (by omega)
       have HR:=Lib.hid (HBAD.out HW.out (by omega))
       clear hb
       go_wp2_with fail
       exact bodyPost_ret (v:=.tuple #[.int .i64 (-1),.int .i64 7]) (by simp [results,Tryz.results43,go_sem, *]) rfl ⟨by rw [HR.out],by (repeat (first | exact Below.refl _ _ | exact HB.out | refine Below.drew ?_ | refine Below.al ?_ _ | refine Below.sc ?_ _))⟩
     · skip
       have ba:decide ((16:Int)<(F.length:Int))=false:=decide_eq_false (by omega)
       have bb:decide (16<F.length)=false:=decide_eq_false (by omega)
       have Hb:=Lib.hid hb
       clear hb
       by_cases hc:p.acts.length<1
       · skip
         have ca:decide ((p.acts.length:Int)<1)=true:=decide_eq_true (by omega)
         have cb:decide (p.acts.length<1)=true:=decide_eq_true (by omega)
         have HR:=Lib.hid (HBAD.out HW.out (by omega))
         have hzz:p.acts.length=0:=by omega
         have HZZ:=Lib.hid hzz
         clear hzz
         clear hc
         go_wp2_with fail
         exact bodyPost_ret (v:=.tuple #[.int .i64 (-1),.int .i64 7]) (by simp [results,Tryz.results43,go_sem, *]) rfl ⟨by rw [HR.out],by (repeat (first | exact Below.refl _ _ | exact HB.out | refine Below.drew ?_ | refine Below.al ?_ _ | refine Below.sc ?_ _))⟩
       · skip
         have ca:decide ((p.acts.length:Int)<1)=false:=decide_eq_false (by omega)
         have cb:decide (p.acts.length<1)=false:=decide_eq_false (by omega)
         have Hc:=Lib.hid hc
         clear hc
         by_cases hd:16<p.acts.length
         · skip
           have da:decide ((16:Int)<(p.acts.length:Int))=true:=decide_eq_true (by omega)
           have db:decide (16<p.acts.length)=true:=decide_eq_true (by omega)
           have HR:=Lib.hid (HBAD.out HW.out (by omega))
           clear hd
           go_wp2_with fail
           exact bodyPost_ret (v:=.tuple #[.int .i64 (-1),.int .i64 7]) (by simp [results,Tryz.results43,go_sem, *]) rfl ⟨by rw [HR.out],by (repeat (first | exact Below.refl _ _ | exact HB.out | refine Below.drew ?_ | refine Below.al ?_ _ | refine Below.sc ?_ _))⟩
         · skip
           have da:decide ((16:Int)<(p.acts.length:Int))=false:=decide_eq_false (by omega)
           have db:decide (16<p.acts.length)=false:=decide_eq_false (by omega)
           have Hd:=Lib.hid hd
           clear hd
           have HS:=Lib.hid (shapeP_first HFD.out HW.out (by have:=Ha.out;have:=Hb.out;have:=Hc.out;have:=Hd.out;omega))
           go_wp2_with fail
           with_reducible refine (HCN.out _ (by (repeat (first | exact Below.refl _ _ | exact HB.out | refine Below.drew ?_ | refine Below.al ?_ _ | refine Below.sc ?_ _)))).mono ?_
           rintro e w2 ⟨rfl,hb⟩
           have hbs:=Below.trans (show Below w1.heap.size w1 _ from (by (repeat (first | exact Below.refl _ _ | refine Below.drew ?_ | refine Below.al ?_ _ | refine Below.sc ?_ _)))) (hb.mono (by simp<;>omega))
           have Kp:=Lib.hid (Kp.out.new_ hbs)
           have HB:=Lib.hid (HB.out.trans (hbs.mono HB.out.size))
           have hsz2:=hbs.size
           clear p0 p1 p2 pz hb hbs
           obtain ⟨p0,p1,p2⟩:=Kp.out.c3
           have pz:=Kp.out.lt
           obtain ⟨⟨r1,r2⟩,hr⟩ : ∃r,r=firstE 0 F:=⟨_,rfl⟩
           rw [← hr]
           have HRR:=Lib.hid hr
           clear hr
           dsimp only
           by_cases hz:r2=0
           · skip
             have z0:(r2 != 0)=false:=by simp [hz]
             have z1:(r2 == 0)=true:=by simp [hz]
             have HQ:=Lib.hid (show shapeP n p=match p.acts.findIdx? (fun a=>!actB a) with | some i=>(F.length+i,9) | none=>(-1,0) by
              rw [HS.out,← HRR.out]
              rw [if_neg (by simp [hz])])
             have HZ:=Lib.hid hz
             clear hz
             go_wp2_with fail
             clear p0 p1 p2 pz 
             go_loopw [7] (fun s wr=>∃i:Nat,s = .int .i64 i∧i≤p.acts.length∧(∀k,(h:k<p.acts.length)→k<i→actB p.acts[k]=true)∧Below w.heap.size w wr∧Blk wr (w.heap.size) 25 #[.string p.name,.slice A1 p.conds.length c1,.slice A2 p.acts.length c2]) (fun s wr=>p.acts.length - (intOf s).toNat)
             case atStart=>exact ⟨0,rfl,Nat.zero_le _,fun k _ h=>absurd h (by omega),HB.out,Kp.out⟩
             case round=>
              obtain ⟨i,rfl,hi,hall,hB,hK⟩:=hrel
              have HALL:=Lib.hid hall
              have HB:=Lib.hid hB
              have Kp:=Lib.hid hK
              clear hall hB hK
              obtain ⟨p0,p1,p2⟩:=Kp.out.c3
              have pz:=Kp.out.lt
              by_cases hlt:i<p.acts.length
              · skip
                obtain ⟨y,hy⟩ : ∃y,y=p.acts[i]:=⟨_,rfl⟩
                obtain ⟨g,off,rfl,_,hg,hrg⟩:=ract_row (H2.out.new_ HB.out) hlt
                rw [← hy] at hrg
                have HRG:=Lib.hid (show wr.rangeAt g (off+i*19) [.string y.id,.string y.attr.var,.int .i64 y.attr.sym.kind,.string y.attr.sym.text,.int .i64 y.attr.sym.n,.int .i64 y.value.op,.string y.value.a.var,.int .i64 y.value.a.sym.kind,.string y.value.a.sym.text,.int .i64 y.value.a.sym.n,.string y.value.b.var,.int .i64 y.value.b.sym.kind,.string y.value.b.sym.text,.int .i64 y.value.b.sym.n,.int .i64 y.pref,.string y.other.var,.int .i64 y.other.sym.kind,.string y.other.sym.text,.int .i64 y.other.sym.n] from hrg)
                have HY:=Lib.hid hy
                have b1:(0:Int)≤(i:Int):=by omega
                have b2:(i:Int)<(p.acts.length:Int):=by omega
                have v1:IntKind.i64.wrap ((F.length:Int)+(i:Int))=(F.length:Int)+(i:Int):=IntWalk.i64_in _ (by have:=Hd.out;omega)
                clear hy hrg
                cases hab:actB y
                · skip
                  have hc:=fun W=>ract_is y W
                  simp only [hab] at hc
                  have HC:=Lib.hid hc
                  clear hc
                  go_wp2_with (with_reducible refine wpList_load_mid rfl 99 _ rfl g (off+i*19) rfl [.string y.id,.string y.attr.var,.int .i64 y.attr.sym.kind,.string y.attr.sym.text,.int .i64 y.attr.sym.n,.int .i64 y.value.op,.string y.value.a.var,.int .i64 y.value.a.sym.kind,.string y.value.a.sym.text,.int .i64 y.value.a.sym.n,.string y.value.b.var,.int .i64 y.value.b.sym.kind,.string y.value.b.sym.text,.int .i64 y.value.b.sym.n,.int .i64 y.pref,.string y.other.var,.int .i64 y.other.sym.kind,.string y.other.sym.text,.int .i64 y.other.sym.n] _ HRG.out Tryz.underlying99 rfl (by kernel_rfl) ?_)
                  with_reducible refine (HC.out _).mono ?_
                  rintro e w3 ⟨rfl,hb⟩
                  have hbs:=Below.trans (show Below wr.heap.size wr _ from (by (repeat (first | exact Below.refl _ _ | refine Below.drew ?_ | refine Below.al ?_ _ | refine Below.sc ?_ _)))) (hb.mono (by simp<;>omega))
                  have Kp:=Lib.hid (Kp.out.new_ hbs)
                  have HB:=Lib.hid (HB.out.trans (hbs.mono HB.out.size))
                  have hsz3:=hbs.size
                  clear p0 p1 p2 pz hb hbs
                  obtain ⟨p0,p1,p2⟩:=Kp.out.c3
                  have pz:=Kp.out.lt
                  have HR:=Lib.hid (show shapeP n p=((F.length:Int)+(i:Nat),9) by
                   have hfi:p.acts.findIdx? (fun a=>!actB a)=some i:=by
                    rw [List.findIdx?_eq_some_iff_getElem]
                    exact ⟨hlt,by rw [← HY.out,hab];rfl,fun j hj=>by rw [HALL.out j (by omega) hj];simp⟩
                   rw [HQ.out,hfi])
                  clear hab
                  go_wp2_with fail
                  exact bodyPost_ret (v:=.tuple #[.int .i64 ((F.length:Int)+(i:Int)),.int .i64 9]) (by simp [results,Tryz.results43,go_sem, *]) rfl ⟨by rw [HR.out],by (repeat (first | exact Below.refl _ _ | exact HB.out | refine Below.drew ?_ | refine Below.al ?_ _ | refine Below.sc ?_ _))⟩
                · skip
                  have hc:=fun W=>ract_is y W
                  simp only [hab] at hc
                  have HC:=Lib.hid hc
                  clear hc
                  go_wp2_with (with_reducible refine wpList_load_mid rfl 99 _ rfl g (off+i*19) rfl [.string y.id,.string y.attr.var,.int .i64 y.attr.sym.kind,.string y.attr.sym.text,.int .i64 y.attr.sym.n,.int .i64 y.value.op,.string y.value.a.var,.int .i64 y.value.a.sym.kind,.string y.value.a.sym.text,.int .i64 y.value.a.sym.n,.string y.value.b.var,.int .i64 y.value.b.sym.kind,.string y.value.b.sym.text,.int .i64 y.value.b.sym.n,.int .i64 y.pref,.string y.other.var,.int .i64 y.other.sym.kind,.string y.other.sym.text,.int .i64 y.other.sym.n] _ HRG.out Tryz.underlying99 rfl (by kernel_rfl) ?_)
                  with_reducible refine (HC.out _).mono ?_
                  rintro e w3 ⟨rfl,hb⟩
                  have hbs:=Below.trans (show Below wr.heap.size wr _ from (by (repeat (first | exact Below.refl _ _ | refine Below.drew ?_ | refine Below.al ?_ _ | refine Below.sc ?_ _)))) (hb.mono (by simp<;>omega))
                  have Kp:=Lib.hid (Kp.out.new_ hbs)
                  have HB:=Lib.hid (HB.out.trans (hbs.mono HB.out.size))
                  have hsz3:=hbs.size
                  clear p0 p1 p2 pz hb hbs
                  obtain ⟨p0,p1,p2⟩:=Kp.out.c3
                  have pz:=Kp.out.lt
                  have HCB:=Lib.hid hab
                  clear hab
                  go_wp2_with fail
                  go_roundw
                  case rel=>exact ⟨i+1,by go_num,by omega,fun k hk hki=>by
                   by_cases e:k=i
                   · subst e;rw [← HY.out];exact HCB.out
                   · exact HALL.out k hk (by omega),HB.out,Kp.out⟩
                  case measure=>simp [intOf]<;>omega
              · skip
                have hie:i=p.acts.length:=by omega
                subst hie
                have HR:=Lib.hid (show shapeP n p=(-1,0) by
                 have hfi:p.acts.findIdx? (fun a=>!actB a)=none:=by
                  rw [List.findIdx?_eq_none_iff]
                  intro x hx
                  obtain ⟨k,hk,rfl⟩:=List.getElem_of_mem hx
                  rw [HALL.out k hk hk];rfl
                 rw [HQ.out,hfi])
                go_wp2_with fail
                exact bodyPost_ret (v:=.tuple #[.int .i64 (-1),.int .i64 0]) (by simp [results,Tryz.results43,go_sem, *]) rfl ⟨by rw [HR.out],by (repeat (first | exact Below.refl _ _ | exact HB.out | refine Below.drew ?_ | refine Below.al ?_ _ | refine Below.sc ?_ _))⟩
           · skip
             have z0:(r2 != 0)=true:=by simp [hz]
             have z1:(r2 == 0)=false:=by simp [hz]
             have HR:=Lib.hid (show shapeP n p=(r1,r2) by
              rw [HS.out,← HRR.out]
              rw [if_pos (by simpa using hz)])
             clear hz
             go_wp2_with fail
             exact bodyPost_ret (v:=.tuple #[.int .i64 r1,.int .i64 r2]) (by simp [results,Tryz.results43,go_sem, *]) rfl ⟨by rw [HR.out],by (repeat (first | exact Below.refl _ _ | exact HB.out | refine Below.drew ?_ | refine Below.al ?_ _ | refine Below.sc ?_ _))⟩
end Go.Proofs.YtffemfglngikbaaGreat
namespace Go.Proofs.YtffemfglngikbaaGreat
open Go.RowKit Go.Shelf
attribute [local go_sem] Oper.semAt_some
set_option linter.unusedSimpArgs false
set_option maxRecDepth 100000 in
set_option maxHeartbeats 8000000 in
theorem r7prod_is {D:Nat→Prop} (n:Nat) (p:ProdT) (A1 A2:Option Addr) (c1 c2:Nat) (w:World) (h1:RowR (repCondT n) D w A1 c1 p.conds) (h2:RowR repActT D w A2 c2 p.acts) (hF:(flatC n 0 p.conds).length≤1000000) (hn:n≤1000000) (hz:(shapeP n p).2=0→(prodX n p).size≤MAXS) :
 Calls Tryz.prog 103 #[.agg #[.string p.name,.slice A1 p.conds.length c1,.slice A2 p.acts.length c2]] w fun e w'=>e = .returned (.tuple #[.string (showX n p),.int .i64 (shapeP n p).2])∧Below w.heap.size w w':=by
 have H1:=Lib.hid h1
 have H2:=Lib.hid h2
 have hl1:=h1.cap
 have hl2:=h2.cap
 have HSH:=Lib.hid (show ∀W,Below w.heap.size w W→Calls Tryz.prog 43 #[.agg #[.string p.name,.slice A1 p.conds.length c1,.slice A2 p.acts.length c2]] W fun e w'=>e = .returned (.tuple #[.int .i64 (shapeP n p).1,.int .i64 (shapeP n p).2])∧Below W.heap.size W w' from fun W hW=>rshape_is p n A1 A2 c1 c2 W (h1.new_ hW) (h2.new_ hW) hF hn)
 obtain ⟨q1,hq1⟩ : ∃q,q=(shapeP n p).1:=⟨_,rfl⟩
 obtain ⟨q2,hq2⟩ : ∃q,q=(shapeP n p).2:=⟨_,rfl⟩
 rw [← hq1,← hq2] at HSH
 rw [← hq2] at hz ⊢
 have HQ:=Lib.hid hq2
 clear h1 h2 hF hn hq1 hq2
 by_cases he:q2=0
 · skip
   have HR:=Lib.hid (show showX n p=p.acts.foldl lineA (midX n p)++(⟨#[125,10]⟩:ByteArray) by unfold showX;rw [if_pos (HQ.out ▸ he)];rfl)
   have HAT:=Lib.hid (prod_at (n:=n) (p:=p) (HQ.out ▸ he))
   have HAB:=Lib.hid (shapeP_ok (n:=n) (p:=p) (HQ.out ▸ he)).2.2.2.2.2.2
   have hz:=hz he
   rw [show prodX n p=p.acts.foldl lineA (midX n p)++(⟨#[125,10]⟩:ByteArray) from rfl,ByteArray.size_append] at hz
   have et:((⟨#[125,10]⟩:ByteArray)).size=2:=rfl
   rw [et] at hz
   obtain ⟨T,hT⟩ : ∃T,T=p.acts.foldl lineA (midX n p):=⟨_,rfl⟩
   rw [← hT] at HR hz
   have zm:(midX n p).size≤T.size:=by rw [hT];exact fold_le lineA_le _ _
   obtain ⟨C,hC⟩ : ∃C,C=p.conds.foldl (lineC n) (headX p):=⟨_,rfl⟩
   have hm:midX n p=C++(⟨#[45,45,62,10]⟩:ByteArray):=by rw [hC];rfl
   have HM:=Lib.hid hm
   rw [hm,ByteArray.size_append] at zm
   have ea:((⟨#[45,45,62,10]⟩:ByteArray)).size=4:=rfl
   rw [ea] at zm
   have zh:(headX p).size≤C.size:=by rw [hC];exact fold_le (lineC_le n) _ _
   unfold headX at zh
   rw [ByteArray.size_append,ByteArray.size_append] at zh
   have eh:((⟨#[115,112,32,123]⟩:ByteArray)).size=4:=rfl
   have en:((⟨#[10]⟩:ByteArray)).size=1:=rfl
   rw [eh,en] at zh
   have y1 : ¬MAXS<4+p.name.size:=by unfold MAXS at *;omega
   have y2 : ¬MAXS<4+p.name.size+1:=by unfold MAXS at *;omega
   have y3 : ¬MAXS<C.size+4:=by unfold MAXS at *;omega
   have y4 : ¬MAXS<T.size+2:=by unfold MAXS at *;omega
   have zC:=Lib.hid (show C.size≤MAXS by unfold MAXS at *;omega)
   have zT:=Lib.hid (show T.size≤MAXS by unfold MAXS at *;omega)
   have HC:=Lib.hid hC
   have HT:=Lib.hid hT
   subst he
   clear hz et hT zm hC hm ea zh eh en
   go_enter Tryz.func103,Tryz.ntmps103
   go_upto_region 1 with fail
   obtain ⟨w1,hw1⟩ : ∃w1,w1=(w.alloc (.cells #[.string p.name,.slice A1 p.conds.length c1,.slice A2 p.acts.length c2] 25)):=⟨_,rfl⟩
   rw [← hw1]
   have HB:=Lib.hid (show Below w.heap.size w w1 by rw [hw1];exact (by repeat (first | exact Below.refl _ _ | refine Below.drew ?_ | refine Below.al ?_ _ | refine Below.sc ?_ _)))
   have Kb:=Lib.hid (show Blk w1 (w.heap.size) 25 #[.string p.name,.slice A1 p.conds.length c1,.slice A2 p.acts.length c2] by rw [hw1];exact (Blk.new w 25 #[.string p.name,.slice A1 p.conds.length c1,.slice A2 p.acts.length c2]))
   clear hw1
   obtain ⟨b0,b1,b2⟩:=Kb.out.c3
   have bz:=Kb.out.lt
   go_wp2_with fail
   with_reducible refine (HSH.out _ (by (repeat (first | exact Below.refl _ _ | exact HB.out | refine Below.drew ?_ | refine Below.al ?_ _ | refine Below.sc ?_ _)))).mono ?_
   rintro e w2 ⟨rfl,hb⟩
   have hbs:=Below.trans (show Below w1.heap.size w1 _ from (by (repeat (first | exact Below.refl _ _ | refine Below.drew ?_ | refine Below.al ?_ _ | refine Below.sc ?_ _)))) (hb.mono (by simp<;>omega))
   have Kb:=Lib.hid (Kb.out.new_ hbs)
   have HB:=Lib.hid (HB.out.trans (hbs.mono HB.out.size))
   have hsz2:=hbs.size
   clear b0 b1 b2 bz hb hbs
   obtain ⟨b0,b1,b2⟩:=Kb.out.c3
   have bz:=Kb.out.lt
   go_wp2_with fail
   clear b0 b1 b2 bz y1 y2
   rw [show (⟨#[115,112,32,123]⟩:ByteArray)++p.name++(⟨#[10]⟩:ByteArray)=headX p from rfl]
   go_loopw [6,7] (fun s i wr=>∃k:Nat,i = .int .i64 k∧k≤p.conds.length∧s = .string ((p.conds.take k).foldl (lineC n) (headX p))∧Below w.heap.size w wr∧Blk wr (w.heap.size) 25 #[.string p.name,.slice A1 p.conds.length c1,.slice A2 p.acts.length c2]) (fun s i wr=>p.conds.length - (intOf i).toNat)
   case atStart=>exact ⟨0,rfl,Nat.zero_le _,rfl,HB.out,Kb.out⟩
   case round=>
    obtain ⟨k,rfl,hk,rfl,hb,hkb⟩:=hrel
    have HBW:=Lib.hid hb
    have Kb:=Lib.hid hkb
    clear hb hkb
    by_cases hlt:k<p.conds.length
    · have hrw:=H1.out.new_ HBW.out
      obtain ⟨m,hnm⟩ : ∃m,n=m+1:=by
       cases n with
       | zero=>rw [row0 hrw] at hlt;simp at hlt
       | succ m=>exact ⟨m,rfl⟩
      subst hnm
      obtain ⟨g,off,B1,d1,B2,d2,B3,d3,hA0,_,hg,q0,q1_,q2_,q3,q4,q5,q6,hy1,hy2,hy3⟩:=at_CondT hrw hlt
      subst hA0
      obtain ⟨y,hy⟩ : ∃y,y=p.conds[k]:=⟨_,rfl⟩
      obtain ⟨S,hS⟩ : ∃S,S=(p.conds.take k).foldl (lineC (m+1)) (headX p):=⟨_,rfl⟩
      have HN:=Lib.hid (show (p.conds.take (k+1)).foldl (lineC (m+1)) (headX p)=S++((⟨#[32,32]⟩:ByteArray)++condX (m+1) y++(⟨#[10]⟩:ByteArray)) by rw [fold_snoc _ hlt,← hS,← hy,lineC];simp only [ByteArray.append_assoc])
      have hle:=fold_take (lineC_le (m+1)) hlt (headX p)
      rw [← hS,← hy,← HC.out] at hle
      unfold lineC at hle
      rw [ByteArray.size_append,ByteArray.size_append,ByteArray.size_append] at hle
      have e2:((⟨#[32,32]⟩:ByteArray)).size=2:=rfl
      have e1:((⟨#[10]⟩:ByteArray)).size=1:=rfl
      rw [e2,e1] at hle
      have zc:=zC.out
      have x1 : ¬MAXS<2+(condX (m+1) y).size:=by unfold MAXS at *;omega
      have x2 : ¬MAXS<2+(condX (m+1) y).size+1:=by unfold MAXS at *;omega
      have x3 : ¬MAXS<S.size+(2+(condX (m+1) y).size+1):=by unfold MAXS at *;omega
      rw [← hy] at q0 q1_ q2_ q3 q4 q5 q6 hy1 hy2 hy3
      have HZY:=Lib.hid (show (condX (m+1) y).size≤MAXS by unfold MAXS at *;omega)
      have HIH:=Lib.hid (r7cond_is m y B1 d1 B2 d2 B3 d3 D wr (HAT.out y (by rw [hy];exact List.getElem_mem hlt)) hy1 hy2 hy3 HZY.out)
      have b1_:(0:Int)≤(k:Int):=by omega
      have b2_:(k:Int)<(p.conds.length:Int):=by omega
      obtain ⟨b0,b1,b2⟩:=Kb.out.c3
      have bz:=Kb.out.lt
      rw [← hS]
      clear hy hS hle hrw hy1 hy2 hy3 e1 e2 zc
      go_wp2_with fail
      refine HIH.out.mono ?_
      rintro e w5 ⟨rfl,hb5⟩
      have HB5:=Lib.hid (HBW.out.trans (hb5.mono HBW.out.size))
      have Kb:=Lib.hid (Kb.out.new_ hb5)
      clear hb5 q0 q1_ q2_ q3 q4 q5 q6 b0 b1 b2 bz
      go_wp2_with fail
      go_roundw
      case rel=>exact ⟨k+1,by go_num,by omega,by rw [HN.out],HB5.out,Kb.out⟩
      case measure=>simp [intOf]<;>omega
    · obtain rfl:k=p.conds.length:=by omega
      rw [List.take_length,← HC.out]
      obtain ⟨b0,b1,b2⟩:=Kb.out.c3
      have bz:=Kb.out.lt
      go_wp2_with fail
      rw [← HM.out]
      clear b0 b1 b2 bz y3
      go_loopw [6,8] (fun s i wr=>∃k:Nat,i = .int .i64 k∧k≤p.acts.length∧s = .string ((p.acts.take k).foldl lineA (midX n p))∧Below w.heap.size w wr∧Blk wr (w.heap.size) 25 #[.string p.name,.slice A1 p.conds.length c1,.slice A2 p.acts.length c2]) (fun s i wr=>p.acts.length - (intOf i).toNat)
      case atStart=>exact ⟨0,rfl,Nat.zero_le _,rfl,HBW.out,Kb.out⟩
      case round=>
       obtain ⟨i,rfl,hi,rfl,hb,hkb⟩:=hrel
       have HBW:=Lib.hid hb
       have Kb:=Lib.hid hkb
       clear hb hkb
       by_cases hlt:i<p.acts.length
       · obtain ⟨y,hy⟩ : ∃y,y=p.acts[i]:=⟨_,rfl⟩
         obtain ⟨g,off,rfl,_,hg,hrg⟩:=ract_row (H2.out.new_ HBW.out) hlt
         rw [← hy] at hrg
         have HRG:=Lib.hid (show wr.rangeAt g (off+i*19) [.string y.id,.string y.attr.var,.int .i64 y.attr.sym.kind,.string y.attr.sym.text,.int .i64 y.attr.sym.n,.int .i64 y.value.op,.string y.value.a.var,.int .i64 y.value.a.sym.kind,.string y.value.a.sym.text,.int .i64 y.value.a.sym.n,.string y.value.b.var,.int .i64 y.value.b.sym.kind,.string y.value.b.sym.text,.int .i64 y.value.b.sym.n,.int .i64 y.pref,.string y.other.var,.int .i64 y.other.sym.kind,.string y.other.sym.text,.int .i64 y.other.sym.n] from hrg)
         have HYB:=Lib.hid (show actB y=true from HAB.out y (by rw [hy];exact List.getElem_mem hlt))
         have b1_:(0:Int)≤(i:Int):=by omega
         have b2_:(i:Int)<(p.acts.length:Int):=by omega
         obtain ⟨S,hS⟩ : ∃S,S=(p.acts.take i).foldl lineA (midX n p):=⟨_,rfl⟩
         have HN:=Lib.hid (show (p.acts.take (i+1)).foldl lineA (midX n p)=S++((⟨#[32,32]⟩:ByteArray)++actX y++(⟨#[10]⟩:ByteArray)) by rw [fold_snoc _ hlt,← hS,← hy,lineA];simp only [ByteArray.append_assoc])
         have hle:=fold_take lineA_le hlt (midX n p)
         rw [← hS,← hy,← HT.out] at hle
         unfold lineA at hle
         rw [ByteArray.size_append,ByteArray.size_append,ByteArray.size_append] at hle
         have e2:((⟨#[32,32]⟩:ByteArray)).size=2:=rfl
         have e1:((⟨#[10]⟩:ByteArray)).size=1:=rfl
         rw [e2,e1] at hle
         have zc:=zT.out
         have x1 : ¬MAXS<2+(actX y).size:=by unfold MAXS at *;omega
         have x2 : ¬MAXS<2+(actX y).size+1:=by unfold MAXS at *;omega
         have x3 : ¬MAXS<S.size+(2+(actX y).size+1):=by unfold MAXS at *;omega
         have HZY:=Lib.hid (show (actX y).size≤MAXS by unfold MAXS at *;omega)
         obtain ⟨b0,b1,b2⟩:=Kb.out.c3
         have bz:=Kb.out.lt
         rw [← hS]
         clear hy hS hle hrg e1 e2 zc
         go_wp2_with (with_reducible refine wpList_load_mid rfl 99 _ rfl g (off+i*19) rfl [.string y.id,.string y.attr.var,.int .i64 y.attr.sym.kind,.string y.attr.sym.text,.int .i64 y.attr.sym.n,.int .i64 y.value.op,.string y.value.a.var,.int .i64 y.value.a.sym.kind,.string y.value.a.sym.text,.int .i64 y.value.a.sym.n,.string y.value.b.var,.int .i64 y.value.b.sym.kind,.string y.value.b.sym.text,.int .i64 y.value.b.sym.n,.int .i64 y.pref,.string y.other.var,.int .i64 y.other.sym.kind,.string y.other.sym.text,.int .i64 y.other.sym.n] _ HRG.out Tryz.underlying99 rfl (by kernel_rfl) ?_)
         refine (r7act_is y _ HYB.out HZY.out).mono ?_
         rintro e w9 ⟨rfl,hb9⟩
         have HB9:=Lib.hid (HBW.out.trans (hb9.mono HBW.out.size))
         have Kb:=Lib.hid (Kb.out.new_ hb9)
         clear hb9 b0 b1 b2 bz
         go_wp2_with fail
         go_roundw
         case rel=>exact ⟨i+1,by go_num,by omega,by rw [HN.out],HB9.out,Kb.out⟩
         case measure=>simp [intOf]<;>omega
       · obtain rfl:i=p.acts.length:=by omega
         rw [List.take_length,← HT.out]
         obtain ⟨b0,b1,b2⟩:=Kb.out.c3
         have bz:=Kb.out.lt
         go_wp2_with fail
         go_ret2
         exact ⟨by rw [HR.out]<;>rfl,HBW.out⟩
 · skip
   have HR:=Lib.hid (show showX n p=⟨#[]⟩ by unfold showX;rw [if_neg (HQ.out ▸ he)])
   have e1:(q2 != 0)=true:=by simp [he]
   have e2:decide (q2=0)=false:=by simp [he]
   have e3:(q2 == 0)=false:=by simp [he]
   clear hz he
   go_enter Tryz.func103,Tryz.ntmps103
   go_upto_region 1 with fail
   obtain ⟨w1,hw1⟩ : ∃w1,w1=(w.alloc (.cells #[.string p.name,.slice A1 p.conds.length c1,.slice A2 p.acts.length c2] 25)):=⟨_,rfl⟩
   rw [← hw1]
   have HB:=Lib.hid (show Below w.heap.size w w1 by rw [hw1];exact (by repeat (first | exact Below.refl _ _ | refine Below.drew ?_ | refine Below.al ?_ _ | refine Below.sc ?_ _)))
   have Kb:=Lib.hid (show Blk w1 (w.heap.size) 25 #[.string p.name,.slice A1 p.conds.length c1,.slice A2 p.acts.length c2] by rw [hw1];exact (Blk.new w 25 #[.string p.name,.slice A1 p.conds.length c1,.slice A2 p.acts.length c2]))
   clear hw1
   obtain ⟨b0,b1,b2⟩:=Kb.out.c3
   have bz:=Kb.out.lt
   go_wp2_with fail
   with_reducible refine (HSH.out _ (by (repeat (first | exact Below.refl _ _ | exact HB.out | refine Below.drew ?_ | refine Below.al ?_ _ | refine Below.sc ?_ _)))).mono ?_
   rintro e w2 ⟨rfl,hb⟩
   have hbs:=Below.trans (show Below w1.heap.size w1 _ from (by (repeat (first | exact Below.refl _ _ | refine Below.drew ?_ | refine Below.al ?_ _ | refine Below.sc ?_ _)))) (hb.mono (by simp<;>omega))
   have Kb:=Lib.hid (Kb.out.new_ hbs)
   have HB:=Lib.hid (HB.out.trans (hbs.mono HB.out.size))
   have hsz2:=hbs.size
   clear b0 b1 b2 bz hb hbs
   obtain ⟨b0,b1,b2⟩:=Kb.out.c3
   have bz:=Kb.out.lt
   go_wp2_with fail
   go_ret2
   exact ⟨by rw [HR.out]<;>rfl,HB.out⟩
end Go.Proofs.YtffemfglngikbaaGreat
namespace Go.Proofs.YtffemfglngikbaaGreat
open Go.RowKit Go.Shelf
def strC (s:ByteArray):List Value:=[.string s]
theorem strC_len (s:ByteArray):(strC s).length=1:=rfl
theorem str_one (l:List ByteArray) : ∀u∈l.flatMap strC,u.oneCell'=true:=by
 intro u hu
 obtain ⟨s,_,h⟩:=List.mem_flatMap.1 hu
 simp only [strC,List.mem_cons,List.not_mem_nil,or_false] at h
 subst h;rfl
theorem info_Str:(Tryz.prog.info? 9).map (fun i=>(i.zero,i.size,i.bytes))=some (some (.string ⟨#[]⟩),1,16):=by kernel_rfl
def StrsTo (W:World) (xs:List ByteArray) (e:Ending) (W':World):Prop:=
 ∃A c,e = .returned (.slice A xs.length c)∧W'.ownsRow 0 9 1 (.slice A xs.length c) xs.length (xs.flatMap strC)∧AIn A (W.heap.size≤·)∧Below W.heap.size W W'
theorem str_at {D:Nat→Prop} {w:World} {A:Option Addr} {c k:Nat} {l:List ByteArray} (h:RowR repStr D w A c l) (hk:k<l.length) : ∃g off,A=some ⟨g,off,none⟩∧g<w.heap.size∧w.cell? ⟨g,off+k,none⟩=some (.string l[k]):=by
 obtain ⟨g,off,cs,hA,hD,hg,hr,hc⟩:=h.at_ hk
 have hr2:cs = [Value.string l[k]]:=hr
 subst hr2
 exact ⟨g,off,hA,hg,by simpa [repStr,RepT.flat] using hc 0 _ rfl⟩
theorem strs_row {w:World} {A:Option Addr} {c n:Nat} {l:List ByteArray} (hn:l.length=n) (h:w.ownsRow 0 9 1 (.slice A n c) n (l.flatMap strC)):RowR repStr (fun _=>True) w A c l:=by
 subst hn
 exact RowR.of_rd (ownsRow_rd strC_len h) (fun _ _=>trivial)
def inB (l:List ByteArray) (v:ByteArray):Bool:=l.any fun s=>decide (s.toList=v.toList)
set_option maxRecDepth 100000 in
set_option maxHeartbeats 2000000 in
theorem inB_is {D:Nat→Prop} {A:Option Addr} {c:Nat} (l:List ByteArray) (v:ByteArray) (w:World) (h:RowR repStr D w A c l):Calls Tryz.prog 82 #[.slice A l.length c,.string v] w fun e w'=>e = .returned (.bool (inB l v))∧w=w':=by
 have H:=Lib.hid h
 have hlc:=h.cap
 clear h
 go_enter Tryz.func82,Tryz.ntmps82
 go_wp2_with fail
 go_loopw [5] (fun s wr=>∃i:Nat,s = .int .i64 i∧i≤l.length∧(∀k,(h:k<l.length)→k<i→¬l[k].toList=v.toList)∧wr=w) (fun s wr=>l.length - (intOf s).toNat)
 case atStart=>exact ⟨0,rfl,Nat.zero_le _,fun k _ h=>absurd h (by omega),rfl⟩
 case round=>
  obtain ⟨i,rfl,hi,hall,rfl⟩:=hrel
  have HALL:=Lib.hid hall
  clear hall
  by_cases hlt:i<l.length
  · obtain ⟨x,hx⟩ : ∃x,x=l[i]:=⟨_,rfl⟩
    obtain ⟨g,off,rfl,hgs,q0⟩:=str_at H.out hlt
    rw [← hx] at q0
    have b1:(0:Int)≤(i:Int):=by omega
    have b2:(i:Int)<(l.length:Int):=by omega
    have HX:=Lib.hid hx
    clear hx
    by_cases he:x.toList=v.toList
    · have t1:(x.toList == v.toList)=true:=by simp [he]
      have t2:decide (x.toList=v.toList)=true:=by simp [he]
      have HN:=Lib.hid (show inB l v=true from List.any_eq_true.2 ⟨x,by rw [HX.out];exact List.getElem_mem hlt,t2⟩)
      clear he
      go_wp2_with fail
      go_ret
      exact ⟨by rw [HN.out];rfl,rfl⟩
    · have t1:(x.toList == v.toList)=false:=by simp [he]
      have t2:decide (x.toList=v.toList)=false:=by simp [he]
      have HE:=Lib.hid he
      clear he
      go_wp2_with fail
      go_roundw
      case rel=>
       refine ⟨i+1,by go_num,by omega,fun k h hk=>?_,by trivial⟩
       rcases Nat.lt_or_ge k i with h3 | h3
       · exact HALL.out k h h3
       · obtain rfl:k=i:=by omega
         rw [← HX.out]
         exact HE.out
      case measure=>simp [intOf]<;>omega
  · have hie:i=l.length:=by omega
    subst hie
    have HN:=Lib.hid (show inB l v=false by
     unfold inB
     rw [List.any_eq_false]
     intro x hx
     obtain ⟨k,hk,rfl⟩:=List.getElem_of_mem hx
     simpa using HALL.out k hk hk)
    go_wp2_with fail
    go_ret
    exact ⟨by rw [HN.out];rfl,rfl⟩
end Go.Proofs.YtffemfglngikbaaGreat
namespace Go.Proofs.YtffemfglngikbaaGreat
open Go.RowKit Go.Shelf
abbrev V6:={cs:List Value // cs.length=6∧∀u∈cs,u.oneCell'=true}
theorem v6_len (v:V6):(v.1).length=6:=v.2.1
theorem v6_one (l:List V6) : ∀u∈l.flatMap (·.1),u.oneCell'=true:=fun u hu=>by
 obtain ⟨v,_,h⟩:=List.mem_flatMap.1 hu
 exact v.2.2 u h
def Raw6 (l:List TestT) (xs:List V6):Prop:=xs.map (fun v=>(v.1[0]?,v.1[1]?))=l.map (fun t=>(some (Value.int .i64 t.rel),some (Value.string t.var)))
theorem Raw6.app {l m:List TestT} {xs ys:List V6} (h1:Raw6 l xs) (h2:Raw6 m ys):Raw6 (l++m) (xs++ys):=by
 unfold Raw6 at *
 rw [List.map_append,List.map_append,h1,h2]
theorem Raw6.len {l:List TestT} {xs:List V6} (h:Raw6 l xs):xs.length=l.length:=by
 have:=congrArg List.length h
 simpa using this
theorem Raw6.get {l:List TestT} {xs:List V6} (h:Raw6 l xs) {k:Nat} (hk:k<l.length) (hk2:k<xs.length):xs[k].1[0]? = some (.int .i64 l[k].rel)∧xs[k].1[1]? = some (.string l[k].var):=by
 have:=congrArg (·[k]?) h
 simp only [List.getElem?_map,List.getElem?_eq_getElem hk,List.getElem?_eq_getElem hk2,Option.map_some,Option.some.injEq,Prod.mk.injEq] at this
 exact this
theorem raw_tests {D:Nat→Prop} {w:World} {A:Option Addr} {c:Nat} {l:List TestT} (h:RowR repTestT D w A c l) : ∃xs:List V6,Raw6 l xs∧RowRd w 6 (·.1) A c xs:=by
 by_cases h0:0<l.length
 · obtain ⟨b,off,hA,_,hb,hall⟩:=h.2.2 h0
   have hex : ∀i:Fin l.length,∃v:V6,v.1[0]? = some (.int .i64 l[i].rel)∧v.1[1]? = some (.string l[i].var)∧∀j u,v.1[j]? = some u→w.cell? ⟨b,off+i*6+j,none⟩=some u:=fun i=>by
    obtain ⟨cs,⟨A1,c1,hcs,_⟩,hc⟩:=hall i i.2
    subst hcs
    refine ⟨⟨_,by rfl,by simp [Value.oneCell']⟩,rfl,rfl,fun j u hu=>hc j u hu⟩
   refine ⟨List.ofFn fun i=>Classical.choose (hex i),?_,?_⟩
   · unfold Raw6
     apply List.ext_getElem
     · simp
     · intro k hk hk2
       simp only [List.length_map,List.length_ofFn] at hk
       simp only [List.getElem_map,List.getElem_ofFn]
       obtain ⟨g1,g2,_⟩:=Classical.choose_spec (hex ⟨k,hk⟩)
       rw [g1,g2];rfl
   · refine ⟨by simpa using h.1,h.2.1,fun _=>⟨b,off,hA,hb,fun k hk j u hu=>?_⟩⟩
     simp only [List.length_ofFn] at hk
     simp only [List.getElem_ofFn] at hu
     exact (Classical.choose_spec (hex ⟨k,hk⟩)).2.2 j u hu
 · have:l = []:=List.length_eq_zero_iff.1 (by omega)
   subst this
   exact ⟨[],rfl,by simp,h.2.1,fun h=>absurd h (by simp)⟩
theorem rows_neN {W:World} {e1 e2:TypeId} {z1 z2 n1 n2 b1 b2:Nat} {v1 v2:Value} {x1 x2:List Value} (h1:W.ownsRow b1 e1 z1 v1 n1 x1) (h2:W.ownsRow b2 e2 z2 v2 n2 x2) (hne:e1≠e2) {g:Nat} (hg:v1.ownBlock=some g):v2.ownBlock≠some g:=by
 rcases h1.2 with ⟨rfl,_⟩ | ⟨k,cap,cur,rfl,_,hk,_⟩
 · simp [Value.ownBlock] at hg
 · have e:k=g:=by simpa [Value.ownBlock] using hg
   subst e
   exact own_blk_ne h2 (t:=e1) (cs:=cur) hk (Ne.symm hne)
theorem grown_str {B:Nat} {w w':World} {A:Option Addr} {c:Nat} {xs ys:List ByteArray} {v:Value} (hown:w'.ownsRow 0 9 1 v (xs.length+ys.length) (xs.flatMap strC++ys.flatMap strC)) (hg:w.grownBy w' (Value.slice A xs.length c).ownBlock)
 (hat:v.ownBlock=(Value.slice A xs.length c).ownBlock∨v.ownBlock=some w.heap.size) (hA:AIn A (B≤·)) (hB:B≤w.heap.size) :
 ∃A' c',v = .slice A' (xs++ys).length c'∧w'.ownsRow 0 9 1 (.slice A' (xs++ys).length c') (xs++ys).length ((xs++ys).flatMap strC)∧AIn A' (B≤·)∧Below B w w'∧Fr (fun k=>(Value.slice A xs.length c).ownBlock=some k) w w':=by
 rw [← List.length_append,← List.flatMap_append] at hown
 obtain ⟨A',c',rfl,_⟩:=own_form2 hown
 have hown2 : ∀k,(Value.slice A xs.length c).ownBlock=some k→B≤k:=fun k hk=>by
  cases A with
  | none=>cases hk
  | some a=>simp only [Value.ownBlock,Option.some.injEq] at hk;rw [← hk];exact hA a rfl
 refine ⟨A',c',rfl,hown,fun a ha=>?_,(Below.refl B w).grown hg hB hown2,(Fr.refl _ w).grown hg (fun k hk=>.inl hk)⟩
 subst ha
 rcases hat with h | h
 · exact hown2 _ h.symm
 · simp only [Value.ownBlock,Option.some.injEq] at h
   omega
def RNSpec (n:Nat):Prop:=∀(c:CondT) (A1:Option Addr) (a1:Nat) (A2:Option Addr) (a2:Nat) (A3:Option Addr) (a3:Nat) (D:Nat→Prop) (X:World),SmC (n+1) c→(namesN (n+1) c).length≤100000→RowR repTestT D X A1 a1 c.attr→RowR repTestT D X A2 a2 c.value→RowR (repCondT n) D X A3 a3 c.conds→
    Calls Tryz.prog 80 #[.agg #[.int .i64 c.kind,.bool c.goal,.string c.id,.slice A1 c.attr.length a1,.slice A2 c.value.length a2,.bool c.acc,.slice A3 c.conds.length a3]] X (StrsTo X (namesN (n+1) c))
structure RN (X:World) (c:CondT) (A1:Option Addr) (a1:Nat) (A2:Option Addr) (a2:Nat) (A3:Option Addr) (a3:Nat) (out:List ByteArray) (A:Option Addr) (cp:Nat) (w:World):Prop where
 own:w.ownsRow 0 9 1 (.slice A out.length cp) out.length (out.flatMap strC)
 ain:AIn A (X.heap.size≤·)
 blk:Blk w X.heap.size 59 #[.int .i64 c.kind,.bool c.goal,.string c.id,.slice A1 c.attr.length a1,.slice A2 c.value.length a2,.bool c.acc,.slice A3 c.conds.length a3]
 bel:Below X.heap.size X w
section
variable {X w w':World} {c:CondT} {A1 A2 A3 A:Option Addr} {a1 a2 a3 cp:Nat} {out ys:List ByteArray}
theorem RN.new_ (h:RN X c A1 a1 A2 a2 A3 a3 out A cp w) (hb:Below w.heap.size w w'):RN X c A1 a1 A2 a2 A3 a3 out A cp w':=⟨ownsRow_new h.own hb,h.ain,h.blk.new_ hb,h.bel.trans (hb.mono h.bel.size)⟩
theorem RN.app {v:Value} (h:RN X c A1 a1 A2 a2 A3 a3 out A cp w) (hown:w'.ownsRow 0 9 1 v (out.length+ys.length) (out.flatMap strC++ys.flatMap strC)) (hg:w.grownBy w' (Value.slice A out.length cp).ownBlock) (hat:v.ownBlock=(Value.slice A out.length cp).ownBlock∨v.ownBlock=some w.heap.size) :
 ∃A' c',v = .slice A' (out++ys).length c'∧RN X c A1 a1 A2 a2 A3 a3 (out++ys) A' c' w'∧Fr (fun k=>(Value.slice A out.length cp).ownBlock=some k) w w':=by
 obtain ⟨A',c',rfl,h1,h2,h3,h4⟩:=grown_str hown hg hat h.ain h.bel.size
 exact ⟨A',c',rfl,⟨h1,h2,h.blk.fr h4 (fun e=>own_blk_ne h.own h.blk (by decide) e),h.bel.trans h3⟩,h4⟩
end
set_option maxRecDepth 100000 in
set_option maxHeartbeats 16000000 in
theorem rnames_step (n:Nat) (ih : ∀m,n=m+1→RNSpec m):RNSpec n:=by
 intro c A1 a1 A2 a2 A3 a3 D X hsm hlen h1 h2 h3
 obtain ⟨i0,hi0,hz0,hz1,hz2⟩:=info_parts info_Str
 obtain ⟨t0,ht0,hy0,hyy1,hyy2⟩:=infp inf_Test
 obtain ⟨xs1,hr1,hd1⟩:=raw_tests h1
 obtain ⟨xs2,hr2,hd2⟩:=raw_tests h2
 have hl1:xs1.length=c.attr.length:=hr1.len
 have hl2:xs2.length=c.value.length:=hr2.len
 obtain ⟨⟨hs1,_⟩,⟨hs2,_⟩,_,hs4⟩:=hsm
 have IH:=Lib.hid ih
 have HS4:=Lib.hid hs4
 have HLEN:=Lib.hid hlen
 have H3:=Lib.hid h3
 have hac:=h3.cap
 have HD1:=Lib.hid (show RowRd X 6 (fun v:V6=>v.1) A1 a1 xs1 from hd1)
 have HD2:=Lib.hid (show RowRd X 6 (fun v:V6=>v.1) A2 a2 xs2 from hd2)
 have HRW:=Lib.hid (hr1.app hr2)
 have hlx1:xs1.length≤1000:=by omega
 have hlx2:xs2.length≤1000:=by omega
 have HL1:=Lib.hid hl1
 have HL2:=Lib.hid hl2
 clear ih hs4 hlen h1 h2 h3 hd1 hd2 hr1 hr2 hs1 hs2 hl1 hl2
 go_enter Tryz.func80,Tryz.ntmps80
 go_upto_region 1 with fail
 obtain ⟨W1,hW1⟩ : ∃W1,W1=X.alloc (.cells #[.int .i64 c.kind,.bool c.goal,.string c.id,.slice A1 c.attr.length a1,.slice A2 c.value.length a2,.bool c.acc,.slice A3 c.conds.length a3] 59):=⟨_,rfl⟩
 have hb1:Below X.heap.size X W1:=by rw [hW1];exact (Below.refl _ _).alloc (Nat.le_refl _) _
 have HN1:=Lib.hid (show RN X c A1 a1 A2 a2 A3 a3 [] none 0 W1 from ⟨owns_nilC _ _ _,AIn.none_ _,by rw [hW1];exact Blk.new _ _ _,hb1⟩)
 rw [← hW1]
 clear hW1 hb1
 have q2:=(HN1.out.blk.cell 2).trans rfl
 have qz:=HN1.out.blk.lt
 by_cases hid:c.id.toList = []
 · have ia:(c.id.toList == [])=true:=by simp [hid]
   have ib:c.id.toList.isEmpty=true:=by simp [hid]
   have ic:decide (c.id.toList = [])=true:=by simp [hid]
   have HOS:=Lib.hid (show ([]:List ByteArray)=oneN c.id by rw [oneN_no hid])
   have HOSL:=Lib.hid (show ([]:List ByteArray).length≤1 by simp)
   have HNo:=Lib.hid HN1.out
   clear hid
   go_upto_region 4 with fail
   clear q2 qz
   have q3:=(HNo.out.blk.cell 3).trans rfl
   have q4:=(HNo.out.blk.cell 4).trans rfl
   have qz:=HNo.out.blk.lt
   refine wp_region_E (fun w9=>Below W1.heap.size W1 w9) [(0,0),(1,1),(3,0),(4,1),(2,2),(5,2),(6,0)] (by kernel_rfl) (by kernel_rfl) (fun KK hKK=>?_)
   simp only [beside,List.filterMap_cons,List.filterMap_nil,List.getElem?_toArray,List.getElem?_cons_zero,List.getElem?_cons_succ,Option.map_some]
   repeat ((first | (refine wpX_w ?_ (Or.inl ⟨by rfl,fun w9=>?_⟩) ?_;rotate_left 1;go_simp;with_reducible rfl) | (refine wpX_l ?_ (((Below.refl _ _).drew)) (Or.inl ⟨by rfl,fun w9 hw9=>?_⟩) ?_;rotate_left 1;obtain ⟨hc9,hf9⟩:=bcell hw9;go_simp;with_reducible rfl) | refine wpX_w undef (Or.inr ⟨by rfl,rfl⟩) ?_ | refine wpX_l undef (((Below.refl _ _).drew)) (Or.inr ⟨by rfl,rfl⟩) ?_);go_frame)
   refine wpX_es (fun K9_ hK9_=>?_)
   refine step_append_src _ rfl _ _ 57 rfl 141 t0 _ 6 80 Tryz.underlying57 ht0 hy0 hyy1 hyy2 rfl (by omega) (.slice none 0 0) 0 [] rfl (owns_nilC _ _ _) A1 c.attr.length a1 (xs1.flatMap (fun v:V6=>v.1)) rfl (by rw [← HL1.out];exact flat_length v6_len xs1) (by rw [← HL1.out];exact ((HD1.out.new_ HNo.out.bel).new_ ((Below.refl _ _).drew)).news v6_len (by omega)) (v6_one _) (by have:=HL1.out;unfold maxLen;omega) (by have:=HL1.out;omega) ?_
   intro vb w3 hown1 hg1 hnil1 hat1
   rw [Nat.zero_add,List.nil_append] at hown1
   obtain ⟨Ad,cd,rfl,_⟩:=own_form2 hown1
   have HB3:=Lib.hid (show Below W1.heap.size W1 w3 from ((Below.refl W1.heap.size W1).drew).trans ((Below.refl _ _).grown hg1 (Nat.le_refl _) (fun k hk=>by cases hk)))
   have HO3:=Lib.hid hown1
   have HA3:=Lib.hid (show AIn Ad (W1.heap.size≤·) from fun a ha=>by
    subst ha
    rcases hat1 with h | h
    · cases h
    · simp only [Value.ownBlock,Option.some.injEq] at h
      exact Nat.le_of_eq h.symm)
   clear hown1 hg1 hnil1 hat1
   refine hK9_ _ _ HB3.out ?_
   clear hK9_ K9_
   refine wpX_es (fun K9_ hK9_=>?_)
   refine step_append_src _ rfl _ _ 57 rfl 141 t0 _ 6 80 Tryz.underlying57 ht0 hy0 hyy1 hyy2 rfl (by omega) (.slice Ad c.attr.length cd) c.attr.length (xs1.flatMap (fun v:V6=>v.1)) rfl HO3.out A2 c.value.length a2 (xs2.flatMap (fun v:V6=>v.1)) rfl (by rw [← HL2.out];exact flat_length v6_len xs2) (by rw [← HL2.out];exact ((HD2.out.new_ HNo.out.bel).new_ HB3.out).news v6_len (by omega)) (v6_one _) (by have:=HL1.out;have:=HL2.out;unfold maxLen;omega) (by have:=HL1.out;have:=HL2.out;omega) ?_
   intro vb w4 hown1 hg1 hnil1 hat1
   rw [← List.flatMap_append] at hown1
   obtain ⟨Al,cl,rfl,_⟩:=own_form2 hown1
   have HB4:=Lib.hid (show Below W1.heap.size W1 w4 from HB3.out.grown hg1 HB3.out.size (fun k hk=>by
    cases Ad with
    | none=>cases hk
    | some a=>simp only [Value.ownBlock,Option.some.injEq] at hk;rw [← hk];exact HA3.out a rfl))
   have HO4:=Lib.hid hown1
   clear hown1 hg1 hnil1 hat1 HO3 HA3 HB3
   obtain ⟨tl,htl⟩ : ∃tl,tl=c.attr++c.value:=⟨_,rfl⟩
   have htll:c.attr.length+c.value.length=tl.length:=by rw [htl,List.length_append]
   rw [htll] at HO4 ⊢
   have HTL:=Lib.hid htl
   clear htl htll
   refine hK9_ _ _ HB4.out ?_
   clear hK9_ K9_
   repeat ((first | (refine wpX_w ?_ (Or.inl ⟨by rfl,fun w9=>?_⟩) ?_;rotate_left 1;go_simp;with_reducible rfl) | (refine wpX_l ?_ (HB3.out) (Or.inl ⟨by rfl,fun w9 hw9=>?_⟩) ?_;rotate_left 1;obtain ⟨hc9,hf9⟩:=bcell hw9;go_simp;with_reducible rfl) | refine wpX_w undef (Or.inr ⟨by rfl,rfl⟩) ?_ | refine wpX_l undef (HB3.out) (Or.inr ⟨by rfl,rfl⟩) ?_);go_frame)
   refine wpX_nil ?_
   simp only [OnlyN_normal]
   refine hKK _ _ ?_
   clear hKK KK
   obtain ⟨xs,hxs⟩ : ∃xs,xs=xs1++xs2:=⟨_,rfl⟩
   rw [← hxs] at HO4 HRW
   rw [← HTL.out] at HRW
   have HN4:=Lib.hid (HNo.out.new_ HB4.out)
   have htc:tl.length≤2000:=by rw [HTL.out,List.length_append];have:=HL1.out;have:=HL2.out;omega
   have HXL:=Lib.hid (show xs.length=tl.length from HRW.out.len)
   clear q3 q4 qz HNo hxs
   go_wp2_with fail
   go_loopw [3,5] (fun v s wr=>∃(i:Nat) (out:List ByteArray) (A:Option Addr) (cp:Nat),s = .int .i64 i∧v = .slice A out.length cp∧i≤tl.length∧out=([]:List ByteArray)++varsT (tl.take i)∧RN X c A1 a1 A2 a2 A3 a3 out A cp wr∧wr.ownsRow 0 141 6 (.slice Al tl.length cl) tl.length (xs.flatMap (fun v:V6=>v.1))) (fun v s wr=>tl.length - (intOf s).toNat)
   case atStart=>exact ⟨0,([]:List ByteArray),none,0,rfl,rfl,Nat.zero_le _,by simp [varsT],HN4.out,HO4.out⟩
   case round=>
    obtain ⟨i,out,A,cp,rfl,rfl,hi,hout,hn,ho⟩:=hrel
    have HNR:=Lib.hid hn
    have HOR:=Lib.hid ho
    have HOUT:=Lib.hid hout
    clear hn ho hout HN4 HO4
    by_cases hlt:i<tl.length
    · obtain ⟨y,hy⟩ : ∃y,y=tl[i]:=⟨_,rfl⟩
      have hxi:i<xs.length:=by rw [HXL.out];exact hlt
      have hrd:RowRd wr 6 (fun v:V6=>v.1) Al cl xs:=by
       have h:=HOR.out
       rw [← HXL.out] at h
       exact ownsRow_rd v6_len h
      obtain ⟨g,off,hA0,hg,hcel⟩:=hrd.at_ hxi
      have q1:wr.cell? ⟨g,off+i*6+1,none⟩=some (.string y.var):=hcel 1 _ (by rw [(HRW.out.get hlt hxi).2,hy])
      subst hA0
      have HVT:=Lib.hid (show varsT (tl.take (i+1))=varsT (tl.take i)++oneN y.var by unfold varsT;rw [← take_snoc hlt,List.flatMap_append,hy];simp)
      have hol:out.length≤100000:=by
       have h1:=varsT_len (tl.take i)
       have h2:=HOSL.out
       rw [HOUT.out,List.length_append]
       have h3:(tl.take i).length≤tl.length:=Nat.le_trans (List.length_take_le _ _) hi
       omega
      have j1:(0:Int)≤(i:Int):=by omega
      have j2:(i:Int)<(tl.length:Int):=by omega
      clear hy hrd hcel
      by_cases hve:y.var.toList = []
      · have va:(y.var.toList == [])=true:=by simp [hve]
        have vb:y.var.toList.isEmpty=true:=by simp [hve]
        have vc:decide (y.var.toList = [])=true:=by simp [hve]
        have HON:=Lib.hid (show out=([]:List ByteArray)++varsT (tl.take (i+1)) by rw [HVT.out,oneN_no hve,List.append_nil];exact HOUT.out)
        clear hve
        go_wp2_with fail
        go_roundw
        case rel=>exact ⟨i+1,out,A,cp,by go_num,rfl,by omega,HON.out,HNR.out,HOR.out⟩
        case measure=>simp [intOf]<;>omega
      · have va:(y.var.toList == [])=false:=by simp [hve]
        have vb:y.var.toList.isEmpty=false:=by simp [hve]
        have vc:decide (y.var.toList = [])=false:=by simp [hve]
        have HON:=Lib.hid (show out ++ [y.var]=([]:List ByteArray)++varsT (tl.take (i+1)) by rw [HVT.out,oneN_yes hve,HOUT.out];simp)
        clear hve
        obtain ⟨Y9,hY9⟩ : ∃Y9,Y9=wr.alloc (.cells #[.string y.var] 9):=⟨_,rfl⟩
        have hb9:Below wr.heap.size wr Y9:=by rw [hY9];exact (Below.refl _ _).alloc (Nat.le_refl _) _
        have HY9:=Lib.hid hY9
        have HN9:=Lib.hid (HNR.out.new_ hb9)
        have HO9:=Lib.hid (ownsRow_new HOR.out hb9)
        have HW9:=Lib.hid (show 0<1→∃ad,(some (⟨wr.heap.size,0,none⟩:Addr))=some ad∧∀j u,([y.var].flatMap strC)[j]? = some u→Y9.cell? (ad.add j)=some u from fun _=>⟨_,rfl,by rw [hY9];exact World.news_of_block (heap_alloc_new _ _)⟩)
        clear hY9 hb9
        go_wp2_with (at_builtin;rw [← HY9.out];refine wpList_append_src Y9 rfl (.tmp 33) (.tmp 39) 117 rfl 9 i0 _ 1 16 Tryz.underlying117 hi0 hz0 hz1 hz2 rfl (by decide) (.slice A out.length cp) out.length (out.flatMap strC) rfl HN9.out.own (some ⟨wr.heap.size,0,none⟩) 1 1 ([y.var].flatMap strC) rfl rfl HW9.out (str_one _) (by unfold maxLen;omega) (by omega) ?_;intro v1 w9 hown1 hg1 hnil1 hat1;obtain ⟨A9,c9,rfl,hn9,hf9⟩:=HN9.out.app (ys:=[y.var]) hown1 hg1 hat1;have HN10:=Lib.hid hn9;have HO10:=Lib.hid (ownsRow_fr HO9.out hf9 (fun g hg e=>rows_neN HO9.out HN9.out.own (by decide) hg e));clear hown1 hg1 hnil1 hat1 hn9 hf9)
        go_roundw
        case rel=>exact ⟨i+1,out ++ [y.var],A9,c9,by go_num,by simp,by omega,HON.out,HN10.out,HO10.out⟩
        case measure=>simp [intOf]<;>omega
    · obtain rfl:i=tl.length:=by omega
      have HOC:=Lib.hid (show out=([]:List ByteArray)++(varsT c.attr++varsT c.value)++((c.conds.take 0).flatMap (namesN n)) by rw [HOUT.out,List.take_length,HTL.out];simp [varsT])
      clear HOUT
      go_wp2_with fail
      go_loopw [3,6] (fun v s wr=>∃(i:Nat) (out:List ByteArray) (A:Option Addr) (cp:Nat),s = .int .i64 i∧v = .slice A out.length cp∧i≤c.conds.length∧out=([]:List ByteArray)++(varsT c.attr++varsT c.value)++((c.conds.take i).flatMap (namesN n))∧RN X c A1 a1 A2 a2 A3 a3 out A cp wr) (fun v s wr=>c.conds.length - (intOf s).toNat)
      case atStart=>exact ⟨0,out,A,cp,rfl,rfl,Nat.zero_le _,HOC.out,HNR.out⟩
      case round=>
       clear HOC HNR HOR
       obtain ⟨i,out,A,cp,rfl,rfl,hi,hout,hn⟩:=hrel
       have HNR:=Lib.hid hn
       have HOUT:=Lib.hid hout
       have q6:=(hn.blk.cell 6).trans rfl
       have qz:=hn.blk.lt
       clear hn hout
       by_cases hlt:i<c.conds.length
       · obtain ⟨m,hnm⟩ : ∃m,n=m+1:=by
          cases n with
          | zero=>have:=row_zero H3.out;rw [this] at hlt;simp at hlt
          | succ m=>exact ⟨m,rfl⟩
         subst hnm
         obtain ⟨y,hy⟩ : ∃y,y=c.conds[i]:=⟨_,rfl⟩
         have hcr:=H3.out.new_ HNR.out.bel
         obtain ⟨gt,ot,B1,b1_,B2,b2_,B3,b3_,hA,_,hgt,p0,p1,p2,p3,p4,p5,p6,r1,r2,r3⟩:=at_CondT hcr hlt
         subst hA
         rw [← hy] at p0 p1 p2 p3 p4 p5 p6 r1 r2 r3
         have htk:(c.conds.take (i+1)).flatMap (namesN (m+1))=(c.conds.take i).flatMap (namesN (m+1))++namesN (m+1) y:=by rw [← take_snoc hlt,List.flatMap_append,hy];simp
         have htot:(out++namesN (m+1) y).length≤(namesN (m+1+1) c).length:=by
          have e:namesN (m+1+1) c=out++namesN (m+1) y++(c.conds.drop (i+1)).flatMap (namesN (m+1)):=by
           rw [HOUT.out,List.append_assoc,List.append_assoc,← List.append_assoc ((c.conds.take i).flatMap _),← htk,← List.flatMap_append,List.take_append_drop,namesN,← HOS.out]
           simp
          rw [e];simp only [List.length_append];omega
         rw [List.length_append] at htot
         have hl9:=HLEN.out
         have hcall:=IH.out m rfl y B1 b1_ B2 b2_ B3 b3_ D wr (HS4.out y (by rw [hy];exact List.getElem_mem hlt)) (by omega) r1 r2 r3
         obtain ⟨ns,hns⟩ : ∃ns,ns=namesN (m+1) y:=⟨_,rfl⟩
         rw [← hns] at hcall htk htot
         have HCALL:=Lib.hid hcall
         have HTK:=Lib.hid htk
         have ho1:out.length≤100000:=by omega
         have ho2:ns.length≤100000:=by omega
         have j1:(0:Int)≤(i:Int):=by omega
         have j2:(i:Int)<(c.conds.length:Int):=by omega
         clear hy hcr r1 r2 r3 htk htot hcall hns hl9
         go_wp2_with fail
         refine HCALL.out.mono ?_
         rintro e w8 ⟨A8,c8,rfl,ho8,hA8,hb8⟩
         have HO8:=Lib.hid (show RowRd w8 1 strC A8 c8 ns from ownsRow_rd strC_len ho8)
         have HN8:=Lib.hid (HNR.out.new_ hb8)
         clear ho8 hA8 hb8 p0 p1 p2 p3 p4 p5 p6 q6 qz
         go_wp2_with (at_builtin;refine wpList_append_src w8 rfl (.tmp 48) (.tmp 54) 117 rfl 9 i0 _ 1 16 Tryz.underlying117 hi0 hz0 hz1 hz2 rfl (by decide) (.slice A out.length cp) out.length (out.flatMap strC) rfl HN8.out.own A8 ns.length c8 (ns.flatMap strC) rfl (flat_length strC_len _) (HO8.out.news strC_len (by decide)) (str_one _) (by unfold maxLen;omega) (by omega) ?_;intro v1 w9 hown1 hg1 hnil1 hat1;obtain ⟨A9,c9,rfl,hn9,hf9⟩:=HN8.out.app hown1 hg1 hat1;have HN10:=Lib.hid hn9;clear hown1 hg1 hnil1 hat1 hn9 hf9)
         go_roundw
         case rel=>exact ⟨i+1,out++ns,A9,c9,by go_num,by simp,by omega,by rw [HTK.out,HOUT.out];simp,HN10.out⟩
         case measure=>simp [intOf]<;>omega
       · obtain rfl:i=c.conds.length:=by omega
         have HEN:=Lib.hid (show namesN (n+1) c=out by rw [HOUT.out,List.take_length,namesN,← HOS.out];simp)
         go_wp2_with fail
         go_ret
         rw [HEN.out]
         exact ⟨A,cp,rfl,HNR.out.own,HNR.out.ain,HNR.out.bel⟩
 · have ia:(c.id.toList == [])=false:=by simp [hid]
   have ib:c.id.toList.isEmpty=false:=by simp [hid]
   have ic:decide (c.id.toList = [])=false:=by simp [hid]
   have HOS:=Lib.hid (show [c.id]=oneN c.id by rw [oneN_yes hid])
   have HOSL:=Lib.hid (show [c.id].length≤1 by simp)
   clear hid
   obtain ⟨Y9,hY9⟩ : ∃Y9,Y9=W1.alloc (.cells #[.string c.id] 9):=⟨_,rfl⟩
   have hb9:Below W1.heap.size W1 Y9:=by rw [hY9];exact (Below.refl _ _).alloc (Nat.le_refl _) _
   have HY9:=Lib.hid hY9
   have HN9:=Lib.hid (HN1.out.new_ hb9)
   have HW9:=Lib.hid (show 0<1→∃ad,(some (⟨W1.heap.size,0,none⟩:Addr))=some ad∧∀j u,([c.id].flatMap strC)[j]? = some u→Y9.cell? (ad.add j)=some u from fun _=>⟨_,rfl,by rw [hY9];exact World.news_of_block (heap_alloc_new _ _)⟩)
   clear hY9 hb9
   go_upto_region 4 with (at_builtin;rw [← HY9.out];refine wpList_append_src Y9 rfl (.tmp 10) (.tmp 13) 117 rfl 9 i0 _ 1 16 Tryz.underlying117 hi0 hz0 hz1 hz2 rfl (by decide) (.slice none 0 0) ([]:List ByteArray).length (([]:List ByteArray).flatMap strC) rfl HN9.out.own (some ⟨W1.heap.size,0,none⟩) 1 1 ([c.id].flatMap strC) rfl rfl HW9.out (str_one _) (by simp [maxLen]) (by simp) ?_;intro v1 wN hown1 hg1 hnil1 hat1;obtain ⟨Ao,co,rfl,hn9,_⟩:=HN9.out.app (ys:=[c.id]) hown1 hg1 hat1;have HNo:=Lib.hid (show RN X c A1 a1 A2 a2 A3 a3 [c.id] Ao co wN from hn9);clear hown1 hg1 hnil1 hat1 hn9)
   clear q2 qz
   have q3:=(HNo.out.blk.cell 3).trans rfl
   have q4:=(HNo.out.blk.cell 4).trans rfl
   have qz:=HNo.out.blk.lt
   refine wp_region_E (fun w9=>Below wN.heap.size wN w9) [(0,0),(1,1),(3,0),(4,1),(2,2),(5,2),(6,0)] (by kernel_rfl) (by kernel_rfl) (fun KK hKK=>?_)
   simp only [beside,List.filterMap_cons,List.filterMap_nil,List.getElem?_toArray,List.getElem?_cons_zero,List.getElem?_cons_succ,Option.map_some]
   repeat ((first | (refine wpX_w ?_ (Or.inl ⟨by rfl,fun w9=>?_⟩) ?_;rotate_left 1;go_simp;with_reducible rfl) | (refine wpX_l ?_ (((Below.refl _ _).drew)) (Or.inl ⟨by rfl,fun w9 hw9=>?_⟩) ?_;rotate_left 1;obtain ⟨hc9,hf9⟩:=bcell hw9;go_simp;with_reducible rfl) | refine wpX_w undef (Or.inr ⟨by rfl,rfl⟩) ?_ | refine wpX_l undef (((Below.refl _ _).drew)) (Or.inr ⟨by rfl,rfl⟩) ?_);go_frame)
   refine wpX_es (fun K9_ hK9_=>?_)
   refine step_append_src _ rfl _ _ 57 rfl 141 t0 _ 6 80 Tryz.underlying57 ht0 hy0 hyy1 hyy2 rfl (by omega) (.slice none 0 0) 0 [] rfl (owns_nilC _ _ _) A1 c.attr.length a1 (xs1.flatMap (fun v:V6=>v.1)) rfl (by rw [← HL1.out];exact flat_length v6_len xs1) (by rw [← HL1.out];exact ((HD1.out.new_ HNo.out.bel).new_ ((Below.refl _ _).drew)).news v6_len (by omega)) (v6_one _) (by have:=HL1.out;unfold maxLen;omega) (by have:=HL1.out;omega) ?_
   intro vb w3 hown1 hg1 hnil1 hat1
   rw [Nat.zero_add,List.nil_append] at hown1
   obtain ⟨Ad,cd,rfl,_⟩:=own_form2 hown1
   have HB3:=Lib.hid (show Below wN.heap.size wN w3 from ((Below.refl wN.heap.size wN).drew).trans ((Below.refl _ _).grown hg1 (Nat.le_refl _) (fun k hk=>by cases hk)))
   have HO3:=Lib.hid hown1
   have HA3:=Lib.hid (show AIn Ad (wN.heap.size≤·) from fun a ha=>by
    subst ha
    rcases hat1 with h | h
    · cases h
    · simp only [Value.ownBlock,Option.some.injEq] at h
      exact Nat.le_of_eq h.symm)
   clear hown1 hg1 hnil1 hat1
   refine hK9_ _ _ HB3.out ?_
   clear hK9_ K9_
   refine wpX_es (fun K9_ hK9_=>?_)
   refine step_append_src _ rfl _ _ 57 rfl 141 t0 _ 6 80 Tryz.underlying57 ht0 hy0 hyy1 hyy2 rfl (by omega) (.slice Ad c.attr.length cd) c.attr.length (xs1.flatMap (fun v:V6=>v.1)) rfl HO3.out A2 c.value.length a2 (xs2.flatMap (fun v:V6=>v.1)) rfl (by rw [← HL2.out];exact flat_length v6_len xs2) (by rw [← HL2.out];exact ((HD2.out.new_ HNo.out.bel).new_ HB3.out).news v6_len (by omega)) (v6_one _) (by have:=HL1.out;have:=HL2.out;unfold maxLen;omega) (by have:=HL1.out;have:=HL2.out;omega) ?_
   intro vb w4 hown1 hg1 hnil1 hat1
   rw [← List.flatMap_append] at hown1
   obtain ⟨Al,cl,rfl,_⟩:=own_form2 hown1
   have HB4:=Lib.hid (show Below wN.heap.size wN w4 from HB3.out.grown hg1 HB3.out.size (fun k hk=>by
    cases Ad with
    | none=>cases hk
    | some a=>simp only [Value.ownBlock,Option.some.injEq] at hk;rw [← hk];exact HA3.out a rfl))
   have HO4:=Lib.hid hown1
   clear hown1 hg1 hnil1 hat1 HO3 HA3 HB3
   obtain ⟨tl,htl⟩ : ∃tl,tl=c.attr++c.value:=⟨_,rfl⟩
   have htll:c.attr.length+c.value.length=tl.length:=by rw [htl,List.length_append]
   rw [htll] at HO4 ⊢
   have HTL:=Lib.hid htl
   clear htl htll
   refine hK9_ _ _ HB4.out ?_
   clear hK9_ K9_
   repeat ((first | (refine wpX_w ?_ (Or.inl ⟨by rfl,fun w9=>?_⟩) ?_;rotate_left 1;go_simp;with_reducible rfl) | (refine wpX_l ?_ (HB3.out) (Or.inl ⟨by rfl,fun w9 hw9=>?_⟩) ?_;rotate_left 1;obtain ⟨hc9,hf9⟩:=bcell hw9;go_simp;with_reducible rfl) | refine wpX_w undef (Or.inr ⟨by rfl,rfl⟩) ?_ | refine wpX_l undef (HB3.out) (Or.inr ⟨by rfl,rfl⟩) ?_);go_frame)
   refine wpX_nil ?_
   simp only [OnlyN_normal]
   refine hKK _ _ ?_
   clear hKK KK
   obtain ⟨xs,hxs⟩ : ∃xs,xs=xs1++xs2:=⟨_,rfl⟩
   rw [← hxs] at HO4 HRW
   rw [← HTL.out] at HRW
   have HN4:=Lib.hid (HNo.out.new_ HB4.out)
   have htc:tl.length≤2000:=by rw [HTL.out,List.length_append];have:=HL1.out;have:=HL2.out;omega
   have HXL:=Lib.hid (show xs.length=tl.length from HRW.out.len)
   clear q3 q4 qz HNo hxs
   go_wp2_with fail
   go_loopw [3,5] (fun v s wr=>∃(i:Nat) (out:List ByteArray) (A:Option Addr) (cp:Nat),s = .int .i64 i∧v = .slice A out.length cp∧i≤tl.length∧out = [c.id]++varsT (tl.take i)∧RN X c A1 a1 A2 a2 A3 a3 out A cp wr∧wr.ownsRow 0 141 6 (.slice Al tl.length cl) tl.length (xs.flatMap (fun v:V6=>v.1))) (fun v s wr=>tl.length - (intOf s).toNat)
   case atStart=>exact ⟨0,[c.id],Ao,co,rfl,rfl,Nat.zero_le _,by simp [varsT],HN4.out,HO4.out⟩
   case round=>
    obtain ⟨i,out,A,cp,rfl,rfl,hi,hout,hn,ho⟩:=hrel
    have HNR:=Lib.hid hn
    have HOR:=Lib.hid ho
    have HOUT:=Lib.hid hout
    clear hn ho hout HN4 HO4
    by_cases hlt:i<tl.length
    · obtain ⟨y,hy⟩ : ∃y,y=tl[i]:=⟨_,rfl⟩
      have hxi:i<xs.length:=by rw [HXL.out];exact hlt
      have hrd:RowRd wr 6 (fun v:V6=>v.1) Al cl xs:=by
       have h:=HOR.out
       rw [← HXL.out] at h
       exact ownsRow_rd v6_len h
      obtain ⟨g,off,hA0,hg,hcel⟩:=hrd.at_ hxi
      have q1:wr.cell? ⟨g,off+i*6+1,none⟩=some (.string y.var):=hcel 1 _ (by rw [(HRW.out.get hlt hxi).2,hy])
      subst hA0
      have HVT:=Lib.hid (show varsT (tl.take (i+1))=varsT (tl.take i)++oneN y.var by unfold varsT;rw [← take_snoc hlt,List.flatMap_append,hy];simp)
      have hol:out.length≤100000:=by
       have h1:=varsT_len (tl.take i)
       have h2:=HOSL.out
       rw [HOUT.out,List.length_append]
       have h3:(tl.take i).length≤tl.length:=Nat.le_trans (List.length_take_le _ _) hi
       omega
      have j1:(0:Int)≤(i:Int):=by omega
      have j2:(i:Int)<(tl.length:Int):=by omega
      clear hy hrd hcel
      by_cases hve:y.var.toList = []
      · have va:(y.var.toList == [])=true:=by simp [hve]
        have vb:y.var.toList.isEmpty=true:=by simp [hve]
        have vc:decide (y.var.toList = [])=true:=by simp [hve]
        have HON:=Lib.hid (show out = [c.id]++varsT (tl.take (i+1)) by rw [HVT.out,oneN_no hve,List.append_nil];exact HOUT.out)
        clear hve
        go_wp2_with fail
        go_roundw
        case rel=>exact ⟨i+1,out,A,cp,by go_num,rfl,by omega,HON.out,HNR.out,HOR.out⟩
        case measure=>simp [intOf]<;>omega
      · have va:(y.var.toList == [])=false:=by simp [hve]
        have vb:y.var.toList.isEmpty=false:=by simp [hve]
        have vc:decide (y.var.toList = [])=false:=by simp [hve]
        have HON:=Lib.hid (show out ++ [y.var] = [c.id]++varsT (tl.take (i+1)) by rw [HVT.out,oneN_yes hve,HOUT.out];simp)
        clear hve
        obtain ⟨Y9,hY9⟩ : ∃Y9,Y9=wr.alloc (.cells #[.string y.var] 9):=⟨_,rfl⟩
        have hb9:Below wr.heap.size wr Y9:=by rw [hY9];exact (Below.refl _ _).alloc (Nat.le_refl _) _
        have HY9:=Lib.hid hY9
        have HN9:=Lib.hid (HNR.out.new_ hb9)
        have HO9:=Lib.hid (ownsRow_new HOR.out hb9)
        have HW9:=Lib.hid (show 0<1→∃ad,(some (⟨wr.heap.size,0,none⟩:Addr))=some ad∧∀j u,([y.var].flatMap strC)[j]? = some u→Y9.cell? (ad.add j)=some u from fun _=>⟨_,rfl,by rw [hY9];exact World.news_of_block (heap_alloc_new _ _)⟩)
        clear hY9 hb9
        go_wp2_with (at_builtin;rw [← HY9.out];refine wpList_append_src Y9 rfl (.tmp 33) (.tmp 39) 117 rfl 9 i0 _ 1 16 Tryz.underlying117 hi0 hz0 hz1 hz2 rfl (by decide) (.slice A out.length cp) out.length (out.flatMap strC) rfl HN9.out.own (some ⟨wr.heap.size,0,none⟩) 1 1 ([y.var].flatMap strC) rfl rfl HW9.out (str_one _) (by unfold maxLen;omega) (by omega) ?_;intro v1 w9 hown1 hg1 hnil1 hat1;obtain ⟨A9,c9,rfl,hn9,hf9⟩:=HN9.out.app (ys:=[y.var]) hown1 hg1 hat1;have HN10:=Lib.hid hn9;have HO10:=Lib.hid (ownsRow_fr HO9.out hf9 (fun g hg e=>rows_neN HO9.out HN9.out.own (by decide) hg e));clear hown1 hg1 hnil1 hat1 hn9 hf9)
        go_roundw
        case rel=>exact ⟨i+1,out ++ [y.var],A9,c9,by go_num,by simp,by omega,HON.out,HN10.out,HO10.out⟩
        case measure=>simp [intOf]<;>omega
    · obtain rfl:i=tl.length:=by omega
      have HOC:=Lib.hid (show out = [c.id]++(varsT c.attr++varsT c.value)++((c.conds.take 0).flatMap (namesN n)) by rw [HOUT.out,List.take_length,HTL.out];simp [varsT])
      clear HOUT
      go_wp2_with fail
      go_loopw [3,6] (fun v s wr=>∃(i:Nat) (out:List ByteArray) (A:Option Addr) (cp:Nat),s = .int .i64 i∧v = .slice A out.length cp∧i≤c.conds.length∧out = [c.id]++(varsT c.attr++varsT c.value)++((c.conds.take i).flatMap (namesN n))∧RN X c A1 a1 A2 a2 A3 a3 out A cp wr) (fun v s wr=>c.conds.length - (intOf s).toNat)
      case atStart=>exact ⟨0,out,A,cp,rfl,rfl,Nat.zero_le _,HOC.out,HNR.out⟩
      case round=>
       clear HOC HNR HOR
       obtain ⟨i,out,A,cp,rfl,rfl,hi,hout,hn⟩:=hrel
       have HNR:=Lib.hid hn
       have HOUT:=Lib.hid hout
       have q6:=(hn.blk.cell 6).trans rfl
       have qz:=hn.blk.lt
       clear hn hout
       by_cases hlt:i<c.conds.length
       · obtain ⟨m,hnm⟩ : ∃m,n=m+1:=by
          cases n with
          | zero=>have:=row_zero H3.out;rw [this] at hlt;simp at hlt
          | succ m=>exact ⟨m,rfl⟩
         subst hnm
         obtain ⟨y,hy⟩ : ∃y,y=c.conds[i]:=⟨_,rfl⟩
         have hcr:=H3.out.new_ HNR.out.bel
         obtain ⟨gt,ot,B1,b1_,B2,b2_,B3,b3_,hA,_,hgt,p0,p1,p2,p3,p4,p5,p6,r1,r2,r3⟩:=at_CondT hcr hlt
         subst hA
         rw [← hy] at p0 p1 p2 p3 p4 p5 p6 r1 r2 r3
         have htk:(c.conds.take (i+1)).flatMap (namesN (m+1))=(c.conds.take i).flatMap (namesN (m+1))++namesN (m+1) y:=by rw [← take_snoc hlt,List.flatMap_append,hy];simp
         have htot:(out++namesN (m+1) y).length≤(namesN (m+1+1) c).length:=by
          have e:namesN (m+1+1) c=out++namesN (m+1) y++(c.conds.drop (i+1)).flatMap (namesN (m+1)):=by
           rw [HOUT.out,List.append_assoc,List.append_assoc,← List.append_assoc ((c.conds.take i).flatMap _),← htk,← List.flatMap_append,List.take_append_drop,namesN,← HOS.out]
           simp
          rw [e];simp only [List.length_append];omega
         rw [List.length_append] at htot
         have hl9:=HLEN.out
         have hcall:=IH.out m rfl y B1 b1_ B2 b2_ B3 b3_ D wr (HS4.out y (by rw [hy];exact List.getElem_mem hlt)) (by omega) r1 r2 r3
         obtain ⟨ns,hns⟩ : ∃ns,ns=namesN (m+1) y:=⟨_,rfl⟩
         rw [← hns] at hcall htk htot
         have HCALL:=Lib.hid hcall
         have HTK:=Lib.hid htk
         have ho1:out.length≤100000:=by omega
         have ho2:ns.length≤100000:=by omega
         have j1:(0:Int)≤(i:Int):=by omega
         have j2:(i:Int)<(c.conds.length:Int):=by omega
         clear hy hcr r1 r2 r3 htk htot hcall hns hl9
         go_wp2_with fail
         refine HCALL.out.mono ?_
         rintro e w8 ⟨A8,c8,rfl,ho8,hA8,hb8⟩
         have HO8:=Lib.hid (show RowRd w8 1 strC A8 c8 ns from ownsRow_rd strC_len ho8)
         have HN8:=Lib.hid (HNR.out.new_ hb8)
         clear ho8 hA8 hb8 p0 p1 p2 p3 p4 p5 p6 q6 qz
         go_wp2_with (at_builtin;refine wpList_append_src w8 rfl (.tmp 48) (.tmp 54) 117 rfl 9 i0 _ 1 16 Tryz.underlying117 hi0 hz0 hz1 hz2 rfl (by decide) (.slice A out.length cp) out.length (out.flatMap strC) rfl HN8.out.own A8 ns.length c8 (ns.flatMap strC) rfl (flat_length strC_len _) (HO8.out.news strC_len (by decide)) (str_one _) (by unfold maxLen;omega) (by omega) ?_;intro v1 w9 hown1 hg1 hnil1 hat1;obtain ⟨A9,c9,rfl,hn9,hf9⟩:=HN8.out.app hown1 hg1 hat1;have HN10:=Lib.hid hn9;clear hown1 hg1 hnil1 hat1 hn9 hf9)
         go_roundw
         case rel=>exact ⟨i+1,out++ns,A9,c9,by go_num,by simp,by omega,by rw [HTK.out,HOUT.out];simp,HN10.out⟩
         case measure=>simp [intOf]<;>omega
       · obtain rfl:i=c.conds.length:=by omega
         have HEN:=Lib.hid (show namesN (n+1) c=out by rw [HOUT.out,List.take_length,namesN,← HOS.out];simp)
         go_wp2_with fail
         go_ret
         rw [HEN.out]
         exact ⟨A,cp,rfl,HNR.out.own,HNR.out.ain,HNR.out.bel⟩
end Go.Proofs.YtffemfglngikbaaGreat
namespace Go.Proofs.YtffemfglngikbaaGreat
open Go.RowKit Go.Shelf
theorem rnames_is : ∀n:Nat,RNSpec n
 | 0=>rnames_step 0 (fun m h=>by omega)
 | n+1=>rnames_step (n+1) (fun m h=>by obtain rfl:n=m:=by omega
                                       exact rnames_is n)
theorem ones_len : ∀l:List ByteArray,(l.flatMap oneN).length≤l.length
 | []=>by simp
 | v :: l=>by have h1:=oneN_len v;have h2:=ones_len l;rw [List.flatMap_cons,List.length_append,List.length_cons];omega
structure RV (X:World) (p:ProdT) (A1:Option Addr) (c1:Nat) (A2:Option Addr) (c2:Nat) (out:List ByteArray) (A:Option Addr) (cp:Nat) (w:World):Prop where
 own:w.ownsRow 0 9 1 (.slice A out.length cp) out.length (out.flatMap strC)
 ain:AIn A (X.heap.size≤·)
 blk:Blk w X.heap.size 25 #[.string p.name,.slice A1 p.conds.length c1,.slice A2 p.acts.length c2]
 bel:Below X.heap.size X w
section
variable {X w w':World} {p:ProdT} {A1 A2 A:Option Addr} {c1 c2 cp:Nat} {out ys:List ByteArray}
theorem RV.new_ (h:RV X p A1 c1 A2 c2 out A cp w) (hb:Below w.heap.size w w'):RV X p A1 c1 A2 c2 out A cp w':=⟨ownsRow_new h.own hb,h.ain,h.blk.new_ hb,h.bel.trans (hb.mono h.bel.size)⟩
theorem RV.app {v:Value} (h:RV X p A1 c1 A2 c2 out A cp w) (hown:w'.ownsRow 0 9 1 v (out.length+ys.length) (out.flatMap strC++ys.flatMap strC)) (hg:w.grownBy w' (Value.slice A out.length cp).ownBlock) (hat:v.ownBlock=(Value.slice A out.length cp).ownBlock∨v.ownBlock=some w.heap.size) :
 ∃A' c',v = .slice A' (out++ys).length c'∧RV X p A1 c1 A2 c2 (out++ys) A' c' w'∧Fr (fun k=>(Value.slice A out.length cp).ownBlock=some k) w w'∧(∀g,g<w.heap.size→AIn A (·≠g)→AIn A' (·≠g)):=by
 obtain ⟨A',c',rfl,h1,h2,h3,h4⟩:=grown_str hown hg hat h.ain h.bel.size
 refine ⟨A',c',rfl,⟨h1,h2,h.blk.fr h4 (fun e=>own_blk_ne h.own h.blk (by decide) e),h.bel.trans h3⟩,h4,fun g hg2 hA a ha=>?_⟩
 subst ha
 rcases hat with e | e
 · cases A with
   | none=>cases e
   | some a0=>
     simp only [Value.ownBlock,Option.some.injEq] at e
     rw [e];exact hA a0 rfl
 · simp only [Value.ownBlock,Option.some.injEq] at e
   omega
theorem RV.far (h:RV X p A1 c1 A2 c2 out A cp w) {g:Nat} (hg:w.heap.size≤g):AIn A (·≠g):=fun a ha=>by
 rcases h.own.2 with ⟨e,_⟩ | ⟨k,cap,cur,e,_,hk,_⟩
 · injection e with e1;rw [e1] at ha;cases ha
 · injection e with e1;rw [e1] at ha
   injection ha with ha
   subst ha
   have:=(Array.getElem?_eq_some_iff.1 hk).1
   show k≠g
   omega
end
set_option maxRecDepth 100000 in
set_option maxHeartbeats 16000000 in
theorem rvars_is (n:Nat) (p:ProdT) (A1:Option Addr) (c1:Nat) (A2:Option Addr) (c2:Nat) (D:Nat→Prop) (X:World) (h1:RowR (repCondT n) D X A1 c1 p.conds) (h2:RowR repActT D X A2 c2 p.acts) (hs : ∀x∈p.conds,SmC n x) (hal:p.acts.length≤1000) (hlen:(varsP n p).length≤100000) :
 Calls Tryz.prog 99 #[.agg #[.string p.name,.slice A1 p.conds.length c1,.slice A2 p.acts.length c2]] X (StrsTo X (varsP n p)):=by
 obtain ⟨i0,hi0,hz0,hz1,hz2⟩:=info_parts info_Str
 have HS:=Lib.hid hs
 have HAL:=Lib.hid hal
 have HLEN:=Lib.hid hlen
 have H1:=Lib.hid h1
 have H2:=Lib.hid h2
 have hac1:=h1.cap
 have hac2:=h2.cap
 clear hs hal hlen h1 h2
 go_enter Tryz.func99,Tryz.ntmps99
 go_upto_region 1 with fail
 obtain ⟨W1,hW1⟩ : ∃W1,W1=X.alloc (.cells #[.string p.name,.slice A1 p.conds.length c1,.slice A2 p.acts.length c2] 25):=⟨_,rfl⟩
 have hb1:Below X.heap.size X W1:=by rw [hW1];exact (Below.refl _ _).alloc (Nat.le_refl _) _
 have HN1:=Lib.hid (show RV X p A1 c1 A2 c2 [] none 0 W1 from ⟨owns_nilC _ _ _,AIn.none_ _,by rw [hW1];exact Blk.new _ _ _,hb1⟩)
 rw [← hW1]
 clear hW1 hb1
 go_wp2_with fail
 go_loopw [3,4] (fun v s wr=>∃(i:Nat) (out:List ByteArray) (A:Option Addr) (cp:Nat),s = .int .i64 i∧v = .slice A out.length cp∧i≤p.conds.length∧out=(p.conds.take i).flatMap (namesN n)∧RV X p A1 c1 A2 c2 out A cp wr) (fun v s wr=>p.conds.length - (intOf s).toNat)
 case atStart=>exact ⟨0,[],none,0,rfl,rfl,Nat.zero_le _,by simp,HN1.out⟩
 case round=>
  clear HN1
  obtain ⟨i,out,A,cp,rfl,rfl,hi,hout,hn⟩:=hrel
  have HNR:=Lib.hid hn
  have HOUT:=Lib.hid hout
  obtain ⟨q0,q1,q2⟩:=hn.blk.c3
  have qz:=hn.blk.lt
  clear hn hout
  by_cases hlt:i<p.conds.length
  · obtain ⟨m,hnm⟩ : ∃m,n=m+1:=by
     cases n with
     | zero=>have:=row_zero H1.out;rw [this] at hlt;simp at hlt
     | succ m=>exact ⟨m,rfl⟩
    subst hnm
    obtain ⟨y,hy⟩ : ∃y,y=p.conds[i]:=⟨_,rfl⟩
    have hcr:=H1.out.new_ HNR.out.bel
    obtain ⟨gt,ot,B1,b1_,B2,b2_,B3,b3_,hA,_,hgt,p0,p1,p2,p3,p4,p5,p6,r1,r2,r3⟩:=at_CondT hcr hlt
    subst hA
    rw [← hy] at p0 p1 p2 p3 p4 p5 p6 r1 r2 r3
    have htk:(p.conds.take (i+1)).flatMap (namesN (m+1))=(p.conds.take i).flatMap (namesN (m+1))++namesN (m+1) y:=by rw [← take_snoc hlt,List.flatMap_append,hy];simp
    have htot:(out++namesN (m+1) y).length≤(varsP (m+1) p).length:=by
     have e:varsP (m+1) p=out++namesN (m+1) y++((p.conds.drop (i+1)).flatMap (namesN (m+1))++p.acts.flatMap varsA):=by
      rw [HOUT.out,← htk,← List.append_assoc,← List.flatMap_append,List.take_append_drop,varsP]
     rw [e];simp only [List.length_append];omega
    rw [List.length_append] at htot
    have hl9:=HLEN.out
    have hcall:=rnames_is m y B1 b1_ B2 b2_ B3 b3_ D wr (HS.out y (by rw [hy];exact List.getElem_mem hlt)) (by omega) r1 r2 r3
    obtain ⟨ns,hns⟩ : ∃ns,ns=namesN (m+1) y:=⟨_,rfl⟩
    rw [← hns] at hcall htk htot
    have HCALL:=Lib.hid hcall
    have HTK:=Lib.hid htk
    have ho1:out.length≤100000:=by omega
    have ho2:ns.length≤100000:=by omega
    have j1:(0:Int)≤(i:Int):=by omega
    have j2:(i:Int)<(p.conds.length:Int):=by omega
    clear hy hcr r1 r2 r3 htk htot hcall hns hl9
    go_wp2_with fail
    refine HCALL.out.mono ?_
    rintro e w8 ⟨A8,c8,rfl,ho8,hA8,hb8⟩
    have HO8:=Lib.hid (show RowRd w8 1 strC A8 c8 ns from ownsRow_rd strC_len ho8)
    have HN8:=Lib.hid (HNR.out.new_ hb8)
    clear ho8 hA8 hb8 p0 p1 p2 p3 p4 p5 p6 q0 q1 q2 qz
    go_wp2_with (at_builtin;refine wpList_append_src w8 rfl (.tmp 16) (.tmp 22) 117 rfl 9 i0 _ 1 16 Tryz.underlying117 hi0 hz0 hz1 hz2 rfl (by decide) (.slice A out.length cp) out.length (out.flatMap strC) rfl HN8.out.own A8 ns.length c8 (ns.flatMap strC) rfl (flat_length strC_len _) (HO8.out.news strC_len (by decide)) (str_one _) (by unfold maxLen;omega) (by omega) ?_;intro v1 w9 hown1 hg1 hnil1 hat1;obtain ⟨A9,c9,rfl,hn9,hf9,_⟩:=HN8.out.app hown1 hg1 hat1;have HN10:=Lib.hid hn9;clear hown1 hg1 hnil1 hat1 hn9 hf9)
    go_roundw
    case rel=>exact ⟨i+1,out++ns,A9,c9,by go_num,by simp,by omega,by rw [HTK.out,HOUT.out],HN10.out⟩
    case measure=>simp [intOf]<;>omega
  · obtain rfl:i=p.conds.length:=by omega
    have HOC:=Lib.hid (show out=p.conds.flatMap (namesN n)++((p.acts.take 0).flatMap varsA) by rw [HOUT.out,List.take_length];simp)
    have HCL:=Lib.hid (show (p.conds.flatMap (namesN n)).length≤100000 by have:=HLEN.out;unfold varsP at this;rw [List.length_append] at this;omega)
    obtain ⟨C,hC⟩ : ∃C,C=p.conds.flatMap (namesN n):=⟨_,rfl⟩
    have HVP:=Lib.hid (show varsP n p=C++p.acts.flatMap varsA by rw [hC];rfl)
    rw [← hC] at HOC HCL
    clear HOUT hC
    go_wp2_with fail
    go_loopw [3,5] (fun v s wr=>∃(i:Nat) (out:List ByteArray) (A:Option Addr) (cp:Nat),s = .int .i64 i∧v = .slice A out.length cp∧i≤p.acts.length∧out=C++((p.acts.take i).flatMap varsA)∧RV X p A1 c1 A2 c2 out A cp wr) (fun v s wr=>p.acts.length - (intOf s).toNat)
    case atStart=>exact ⟨0,out,A,cp,rfl,rfl,Nat.zero_le _,HOC.out,HNR.out⟩
    case round=>
     clear HOC HNR q0 q1 q2 qz
     obtain ⟨i,out,A,cp,rfl,rfl,hi,hout,hn⟩:=hrel
     have HNR:=Lib.hid hn
     have HBW:=Lib.hid hn.bel
     have HOUT:=Lib.hid hout
     obtain ⟨q0,q1,q2⟩:=hn.blk.c3
     have qz:=hn.blk.lt
     clear hn hout
     by_cases hlt:i<p.acts.length
     · skip
       obtain ⟨y,hy⟩ : ∃y,y=p.acts[i]:=⟨_,rfl⟩
       obtain ⟨g,off,hAA,_,hg,_⟩:=at_ActT (H2.out.new_ HBW.out) hlt
       subst hAA
       have HY:=Lib.hid hy
       have b1:(0:Int)≤(i:Int):=by omega
       have b2:(i:Int)<(p.acts.length:Int):=by omega
       have HRG:=Lib.hid (show wr.rangeAt g (off+i*19) [.string y.id,.string y.attr.var,.int .i64 y.attr.sym.kind,.string y.attr.sym.text,.int .i64 y.attr.sym.n,.int .i64 y.value.op,.string y.value.a.var,.int .i64 y.value.a.sym.kind,.string y.value.a.sym.text,.int .i64 y.value.a.sym.n,.string y.value.b.var,.int .i64 y.value.b.sym.kind,.string y.value.b.sym.text,.int .i64 y.value.b.sym.n,.int .i64 y.pref,.string y.other.var,.int .i64 y.other.sym.kind,.string y.other.sym.text,.int .i64 y.other.sym.n] from fun j v hv=>by
        obtain ⟨g',off',cs,e1,_,_,hr,hc⟩:=(H2.out.new_ HBW.out).at_ hlt
        cases e1
        have hr2:cs=ActT.cells p.acts[i]:=hr
        subst hr2
        rw [← HY.out] at hc
        exact hc j v hv)
       have HTH:=Lib.hid (show (wr.alloc (.cells #[.string ⟨#[]⟩,.string ⟨#[]⟩,.int .i64 0,.string ⟨#[]⟩,.int .i64 0,.int .i64 0,.string ⟨#[]⟩,.int .i64 0,.string ⟨#[]⟩,.int .i64 0,.string ⟨#[]⟩,.int .i64 0,.string ⟨#[]⟩,.int .i64 0,.int .i64 0,.string ⟨#[]⟩,.int .i64 0,.string ⟨#[]⟩,.int .i64 0] 99)).there wr.heap.size 0 (#[.string y.id,.string y.attr.var,.int .i64 y.attr.sym.kind,.string y.attr.sym.text,.int .i64 y.attr.sym.n,.int .i64 y.value.op,.string y.value.a.var,.int .i64 y.value.a.sym.kind,.string y.value.a.sym.text,.int .i64 y.value.a.sym.n,.string y.value.b.var,.int .i64 y.value.b.sym.kind,.string y.value.b.sym.text,.int .i64 y.value.b.sym.n,.int .i64 y.pref,.string y.other.var,.int .i64 y.other.sym.kind,.string y.other.sym.text,.int .i64 y.other.sym.n]:Array Value).size from (Blk.new wr 99 #[.string ⟨#[]⟩,.string ⟨#[]⟩,.int .i64 0,.string ⟨#[]⟩,.int .i64 0,.int .i64 0,.string ⟨#[]⟩,.int .i64 0,.string ⟨#[]⟩,.int .i64 0,.string ⟨#[]⟩,.int .i64 0,.string ⟨#[]⟩,.int .i64 0,.int .i64 0,.string ⟨#[]⟩,.int .i64 0,.string ⟨#[]⟩,.int .i64 0]).there)
       obtain ⟨W5,hW5⟩ : ∃W5,W5=(wr.alloc (.cells #[.string ⟨#[]⟩,.string ⟨#[]⟩,.int .i64 0,.string ⟨#[]⟩,.int .i64 0,.int .i64 0,.string ⟨#[]⟩,.int .i64 0,.string ⟨#[]⟩,.int .i64 0,.string ⟨#[]⟩,.int .i64 0,.string ⟨#[]⟩,.int .i64 0,.int .i64 0,.string ⟨#[]⟩,.int .i64 0,.string ⟨#[]⟩,.int .i64 0] 99)).setCells wr.heap.size 0 [.string y.id,.string y.attr.var,.int .i64 y.attr.sym.kind,.string y.attr.sym.text,.int .i64 y.attr.sym.n,.int .i64 y.value.op,.string y.value.a.var,.int .i64 y.value.a.sym.kind,.string y.value.a.sym.text,.int .i64 y.value.a.sym.n,.string y.value.b.var,.int .i64 y.value.b.sym.kind,.string y.value.b.sym.text,.int .i64 y.value.b.sym.n,.int .i64 y.pref,.string y.other.var,.int .i64 y.other.sym.kind,.string y.other.sym.text,.int .i64 y.other.sym.n]:=⟨_,rfl⟩
       have HW5:=Lib.hid hW5
       have HRG5:=Lib.hid (show W5.rangeAt wr.heap.size 0 [.string y.id,.string y.attr.var,.int .i64 y.attr.sym.kind,.string y.attr.sym.text,.int .i64 y.attr.sym.n,.int .i64 y.value.op,.string y.value.a.var,.int .i64 y.value.a.sym.kind,.string y.value.a.sym.text,.int .i64 y.value.a.sym.n,.string y.value.b.var,.int .i64 y.value.b.sym.kind,.string y.value.b.sym.text,.int .i64 y.value.b.sym.n,.int .i64 y.pref,.string y.other.var,.int .i64 y.other.sym.kind,.string y.other.sym.text,.int .i64 y.other.sym.n] by rw [hW5];exact World.rangeAt_setCells_same _ _ _ _ HTH.out)
       have HB5:=Lib.hid (show Below wr.heap.size wr W5 by rw [hW5];exact Below.setCells' _ _ ((Below.refl _ _).alloc (Nat.le_refl _) _) (Nat.le_refl _))
       have HTK:=Lib.hid (show (p.acts.take (i+1)).flatMap varsA=(p.acts.take i).flatMap varsA++(fives y).flatMap oneN by rw [← take_snoc hlt,List.flatMap_append,← hy];simp [varsA])
       have HOL:=Lib.hid (show out.length≤105000 by
        have h1:=varsAs_len (p.acts.take i)
        have h2:=HCL.out
        have h3:=HAL.out
        have h4:(p.acts.take i).length≤p.acts.length:=by rw [List.length_take];omega
        rw [HOUT.out,List.length_append];omega)
       have HN5:=Lib.hid (HNR.out.new_ HB5.out)
       have k0:W5.cell? ⟨wr.heap.size,0,none⟩=some (.string y.id):=by have:=HRG5.out 0 _ rfl;simpa using this
       have k1:W5.cell? ⟨wr.heap.size,1,none⟩=some (.string y.attr.var):=by have:=HRG5.out 1 _ rfl;simpa using this
       have k6:W5.cell? ⟨wr.heap.size,6,none⟩=some (.string y.value.a.var):=by have:=HRG5.out 6 _ rfl;simpa using this
       have k10:W5.cell? ⟨wr.heap.size,10,none⟩=some (.string y.value.b.var):=by have:=HRG5.out 10 _ rfl;simpa using this
       have k15:W5.cell? ⟨wr.heap.size,15,none⟩=some (.string y.other.var):=by have:=HRG5.out 15 _ rfl;simpa using this
       clear hy hW5
       go_upto_region 11 with (first
        | (with_reducible refine wpList_load_mid rfl 99 _ rfl g (off+i*19) rfl [.string y.id,.string y.attr.var,.int .i64 y.attr.sym.kind,.string y.attr.sym.text,.int .i64 y.attr.sym.n,.int .i64 y.value.op,.string y.value.a.var,.int .i64 y.value.a.sym.kind,.string y.value.a.sym.text,.int .i64 y.value.a.sym.n,.string y.value.b.var,.int .i64 y.value.b.sym.kind,.string y.value.b.sym.text,.int .i64 y.value.b.sym.n,.int .i64 y.pref,.string y.other.var,.int .i64 y.other.sym.kind,.string y.other.sym.text,.int .i64 y.other.sym.n] _ HRG.out Tryz.underlying99 rfl (by kernel_rfl) ?_)
        | ((with_reducible refine wpList_store_mid rfl 99 _ _ rfl wr.heap.size 0 #[.string y.id,.string y.attr.var,.int .i64 y.attr.sym.kind,.string y.attr.sym.text,.int .i64 y.attr.sym.n,.int .i64 y.value.op,.string y.value.a.var,.int .i64 y.value.a.sym.kind,.string y.value.a.sym.text,.int .i64 y.value.a.sym.n,.string y.value.b.var,.int .i64 y.value.b.sym.kind,.string y.value.b.sym.text,.int .i64 y.value.b.sym.n,.int .i64 y.pref,.string y.other.var,.int .i64 y.other.sym.kind,.string y.other.sym.text,.int .i64 y.other.sym.n] rfl rfl HTH.out (by kernel_rfl) (by kernel_rfl) ?_);rw [← HW5.out])
        | (with_reducible refine wpList_load_mid rfl 99 _ rfl wr.heap.size 0 rfl [.string y.id,.string y.attr.var,.int .i64 y.attr.sym.kind,.string y.attr.sym.text,.int .i64 y.attr.sym.n,.int .i64 y.value.op,.string y.value.a.var,.int .i64 y.value.a.sym.kind,.string y.value.a.sym.text,.int .i64 y.value.a.sym.n,.string y.value.b.var,.int .i64 y.value.b.sym.kind,.string y.value.b.sym.text,.int .i64 y.value.b.sym.n,.int .i64 y.pref,.string y.other.var,.int .i64 y.other.sym.kind,.string y.other.sym.text,.int .i64 y.other.sym.n] _ HRG5.out Tryz.underlying99 rfl (by kernel_rfl) ?_))
       obtain ⟨W6,hW6⟩ : ∃W,W=W5.alloc (.cells #[.string y.id,.string y.attr.var,.string y.value.a.var,.string y.value.b.var,.string y.other.var] 9):=⟨_,rfl⟩
       have hb6:Below W5.heap.size W5 W6:=by rw [hW6];exact (Below.refl _ _).alloc (Nat.le_refl _) _
       have HL6:=Lib.hid (show Blk W6 W5.heap.size 9 #[.string y.id,.string y.attr.var,.string y.value.a.var,.string y.value.b.var,.string y.other.var] by rw [hW6];exact Blk.new _ _ _)
       have HN6:=Lib.hid (HN5.out.new_ hb6)
       have HF6:=Lib.hid (HN5.out.far (Nat.le_refl _))
       rw [← hW6]
       clear hW6 hb6 k0 k1 k6 k10 k15 q0 q1 q2 qz b1 b2
       obtain ⟨gl,hgl⟩ : ∃g,g=W5.heap.size:=⟨_,rfl⟩
       rw [← hgl] at HL6 HF6 ⊢
       clear hgl
       go_wp2_with fail
       go_loopw [3,8] (fun v s wr=>∃(k:Nat) (out:List ByteArray) (A:Option Addr) (cp:Nat),s = .int .i64 k∧v = .slice A out.length cp∧k≤5∧out=C++((p.acts.take i).flatMap varsA)++((fives y).take k).flatMap oneN∧RV X p A1 c1 (some ⟨g,off,none⟩) c2 out A cp wr∧Blk wr gl 9 #[.string y.id,.string y.attr.var,.string y.value.a.var,.string y.value.b.var,.string y.other.var]∧AIn A (·≠gl)) (fun v s wr=>5 - (intOf s).toNat)
       case atStart=>exact ⟨0,out,A,cp,rfl,rfl,Nat.zero_le _,by rw [HOUT.out];simp,HN6.out,HL6.out,HF6.out⟩
       case round=>
        clear HN6 HL6 HF6 HN5 HNR
        have HOL0:=HOL
        have HOUT0:=HOUT
        clear HOL HOUT
        obtain ⟨k,out2,A6,cp6,rfl,rfl,hk,hout2,hn,hl,hf⟩:=hrel
        have HNR:=Lib.hid hn
        have HOUT:=Lib.hid hout2
        have HLR:=Lib.hid hl
        have HFR:=Lib.hid hf
        clear hn hout2 hl hf
        by_cases hk5:k<5
        · obtain ⟨v,hv⟩ : ∃v,v=(fives y)[k]'hk5:=⟨_,rfl⟩
          have lc:wr.cell? ⟨gl,k,none⟩=some (.string v):=by
           refine (HLR.out.cell k).trans ?_
           rw [hv]
           rcases (show k=0∨k=1∨k=2∨k=3∨k=4 by omega) with e | e | e | e | e<;>(subst e;rfl)
          have lz:=HLR.out.lt
          have HVT:=Lib.hid (show ((fives y).take (k+1)).flatMap oneN=((fives y).take k).flatMap oneN++oneN v by rw [← take_snoc (l:=fives y) hk5,List.flatMap_append,hv];simp)
          have hol:out2.length≤105005:=by
           have h1:=ones_len ((fives y).take k)
           have h2:((fives y).take k).length≤5:=by rw [List.length_take];omega
           have h3:=HOL0.out
           rw [HOUT0.out,List.length_append] at h3
           rw [HOUT.out,List.length_append,List.length_append];omega
          have j1:(0:Int)≤(k:Int):=by omega
          have j2:(k:Int)<5:=by omega
          clear hv
          by_cases hve:v.toList = []
          · have va:(v.toList == [])=true:=by simp [hve]
            have vb:v.toList.isEmpty=true:=by simp [hve]
            have vc:decide (v.toList = [])=true:=by simp [hve]
            have HON:=Lib.hid (show out2=C++((p.acts.take i).flatMap varsA)++((fives y).take (k+1)).flatMap oneN by rw [HVT.out,oneN_no hve,List.append_nil];exact HOUT.out)
            clear hve
            go_wp2_with fail
            go_roundw
            case rel=>exact ⟨k+1,out2,A6,cp6,by go_num,rfl,by omega,HON.out,HNR.out,HLR.out,HFR.out⟩
            case measure=>simp [intOf]<;>omega
          · have va:(v.toList == [])=false:=by simp [hve]
            have vb:v.toList.isEmpty=false:=by simp [hve]
            have vc:decide (v.toList = [])=false:=by simp [hve]
            have HON:=Lib.hid (show out2 ++ [v]=C++((p.acts.take i).flatMap varsA)++((fives y).take (k+1)).flatMap oneN by rw [HVT.out,oneN_yes hve,HOUT.out];simp)
            clear hve
            obtain ⟨Y9,hY9⟩ : ∃Y9,Y9=wr.alloc (.cells #[.string v] 9):=⟨_,rfl⟩
            have hb9:Below wr.heap.size wr Y9:=by rw [hY9];exact (Below.refl _ _).alloc (Nat.le_refl _) _
            have HY9:=Lib.hid hY9
            have HN9:=Lib.hid (HNR.out.new_ hb9)
            have HL9:=Lib.hid (HLR.out.new_ hb9)
            have HW9:=Lib.hid (show 0<1→∃ad,(some (⟨wr.heap.size,0,none⟩:Addr))=some ad∧∀j u,([v].flatMap strC)[j]? = some u→Y9.cell? (ad.add j)=some u from fun _=>⟨_,rfl,by rw [hY9];exact World.news_of_block (heap_alloc_new _ _)⟩)
            clear hY9 hb9
            go_wp2_with (at_builtin;rw [← HY9.out];refine wpList_append_src Y9 rfl (.tmp 64) (.tmp 69) 117 rfl 9 i0 _ 1 16 Tryz.underlying117 hi0 hz0 hz1 hz2 rfl (by decide) (.slice A6 out2.length cp6) out2.length (out2.flatMap strC) rfl HN9.out.own (some ⟨wr.heap.size,0,none⟩) 1 1 ([v].flatMap strC) rfl rfl HW9.out (str_one _) (by unfold maxLen;omega) (by omega) ?_;intro v1 w9 hown1 hg1 hnil1 hat1;obtain ⟨A9,c9,rfl,hn9,hf9,ha9⟩:=HN9.out.app (ys:=[v]) hown1 hg1 hat1;have HN10:=Lib.hid hn9;have HL10:=Lib.hid (HL9.out.fr hf9 (fun e=>by
             cases A6 with
             | none=>cases e
             | some a0=>simp only [Value.ownBlock,Option.some.injEq] at e;exact HFR.out a0 rfl e));have HF10:=Lib.hid (ha9 gl HL9.out.lt HFR.out);clear hown1 hg1 hnil1 hat1 hn9 hf9 ha9)
            go_roundw
            case rel=>exact ⟨k+1,out2 ++ [v],A9,c9,by go_num,by simp,by omega,HON.out,HN10.out,HL10.out,HF10.out⟩
            case measure=>simp [intOf]<;>omega
        · obtain rfl:k=5:=by omega
          have HOE:=Lib.hid (show out2=C++((p.acts.take (i+1)).flatMap varsA) by rw [HTK.out,HOUT.out,List.append_assoc];rfl)
          go_wp2_with fail
          go_roundw
          case rel=>exact ⟨i+1,out2,A6,cp6,by go_num,rfl,by omega,HOE.out,HNR.out⟩
          case measure=>simp [intOf]<;>omega
     · obtain rfl:i=p.acts.length:=by omega
       have HEN:=Lib.hid (show varsP n p=out by rw [HOUT.out,List.take_length,HVP.out])
       go_wp2_with fail
       go_ret
       rw [HEN.out]
       exact ⟨A,cp,rfl,HNR.out.own,HNR.out.ain,HNR.out.bel⟩
end Go.Proofs.YtffemfglngikbaaGreat
