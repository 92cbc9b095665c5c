/-
  Texts put together: ShowSz, Canon8, KeepHeavy, CanonFit, RefVars.
-/
import Derived.Test.YtffemfglngikbaaRg
import Derived.Test.YtffemfglngikbaaRj
import Derived.Test.YtffemfglngikbaaRi
import Derived.Test.YtffemfglngikbaaRc
import Derived.Deep.MidRow
namespace Go.Proofs.Ytffemfglngikbaa
theorem numB_le (n:Int) (h1 : -2147483647≤n) (h2:n≤2147483647):(numB n).size≤2200000000:=by
 unfold numB
 split
 · rw [ByteArray.size_append]
   have:=decB_size (-n).toNat
   have e:(⟨#[45]⟩:ByteArray).size=1:=rfl
   omega
 · have:=decB_size n.toNat
   omega
theorem word_le {t:ByteArray} (h:isWord t=true):t.size≤32:=by
 obtain ⟨_,h,_⟩:=isWord_iff.1 h
 exact h
theorem textB_le (s:Sym):(textB s).size≤2300000000:=by
 unfold textB
 by_cases hv:validB s=true
 · rw [if_pos hv]
   obtain ⟨k,t,n⟩:=s
   rcases validB_kind hv with rfl | rfl | rfl
   · obtain ⟨h1,_,h3,h4⟩:=validB_id hv
     rw [if_pos rfl,ByteArray.size_append]
     have:=numB_le n (by omega) (by omega)
     simp only
     omega
   · obtain ⟨_,h3,h4⟩:=validB_int hv
     rw [if_neg (by simp),if_pos rfl]
     have:=numB_le n (by omega) (by omega)
     simp only
     omega
   · rw [if_neg (by simp),if_neg (by simp)]
     have h2:isWord t=true:=by
      unfold validB at hv
      simp at hv
      first | exact hv.2 | exact hv | exact hv.1
     have:=word_le h2
     simp only
     omega
 · rw [if_neg hv]
   have e:(⟨#[]⟩:ByteArray).size=0:=rfl
   omega
theorem atomX_le {v:ByteArray} {s:Sym} (h:v.toList = []∨isWord v=true):(atomX v s).size≤2300000000:=by
 unfold atomX
 split
 · exact textB_le s
 · rename_i h1
   have:=word_le (h.resolve_left h1)
   rw [ByteArray.size_append,ByteArray.size_append]
   have e1:(⟨#[60]⟩:ByteArray).size=1:=rfl
   have e2:(⟨#[62]⟩:ByteArray).size=1:=rfl
   omega
theorem relX_le (k:Int):(relX k).size≤3:=by
 have e0:(⟨#[]⟩:ByteArray).size=0:=rfl
 have e1:(⟨#[60,62]⟩:ByteArray).size=2:=rfl
 have e2:(⟨#[60]⟩:ByteArray).size=1:=rfl
 have e3:(⟨#[60,61]⟩:ByteArray).size=2:=rfl
 have e4:(⟨#[62]⟩:ByteArray).size=1:=rfl
 have e5:(⟨#[62,61]⟩:ByteArray).size=2:=rfl
 have e6:(⟨#[60,61,62]⟩:ByteArray).size=3:=rfl
 unfold relX
 repeat (split;omega)
 omega
theorem fold_sum {α:Type} {f:ByteArray→α→ByteArray} {B:Nat} : ∀(l:List α) (s:ByteArray),(∀x∈l,∀s,(f s x).size≤s.size+B)→(l.foldl f s).size≤s.size+l.length*B
 | [],_,_=>by simp
 | x :: l,s,h=>by
   have h1:=h x (by simp) s
   have h2:=fold_sum l (f s x) (fun y hy=>h y (by simp [hy]))
   rw [List.foldl_cons,List.length_cons,Nat.add_mul]
   omega
theorem testX_le {t:TestT} (h:testB t=true):(testX t).size≤30000000000:=by
 unfold testX
 unfold testB at h
 by_cases h8:t.rel=8
 · rw [if_pos h8] at h ⊢
   simp only [Bool.and_eq_true,decide_eq_true_eq] at h
   have h9:t.list.length≤8:=h.1.2
   have h1:=fold_sum (f:=listX) (B:=2300000001) t.list (⟨#[60,60]⟩:ByteArray) (fun x _ s=>by
    unfold listX
    rw [ByteArray.size_append,ByteArray.size_append]
    have:=textB_le x
    have e:(⟨#[32]⟩:ByteArray).size=1:=rfl
    omega)
   rw [ByteArray.size_append]
   have e1:(⟨#[60,60]⟩:ByteArray).size=2:=rfl
   have e2:(⟨#[32,62,62]⟩:ByteArray).size=3:=rfl
   have h3:t.list.length*2300000001≤8*2300000001:=Nat.mul_le_mul_right _ h9
   omega
 · rw [if_neg h8] at h ⊢
   have hv:t.var.toList = []∨isWord t.var=true:=by
    by_cases hv:t.var.toList = []
    · exact .inl hv
    · right
      split at h
      · cases h
      · have h':(isWord t.var && noneB t.sym)=true:=by first | exact h | (rw [if_neg hv] at h;exact h)
        simp only [Bool.and_eq_true] at h'
        exact h'.1
   have ha:=atomX_le (s:=t.sym) hv
   split
   · omega
   · rw [ByteArray.size_append,ByteArray.size_append]
     have:=relX_le t.rel
     have e:(⟨#[32]⟩:ByteArray).size=1:=rfl
     omega
theorem fieldX_le {l:List TestT} (h : ∀t∈l,testB t=true) (h4:l.length≤4):(fieldX l).size≤200000000000:=by
 unfold fieldX
 split
 · have e:(⟨#[]⟩:ByteArray).size=0:=rfl
   omega
 · split
   · rename_i h1
     have:=testX_le (h l[0] (List.getElem_mem _))
     omega
   · rw [ByteArray.size_append]
     have h1:=fold_sum (f:=fieldF) (B:=30000000001) l (⟨#[123]⟩:ByteArray) (fun x hx s=>by
      unfold fieldF
      rw [ByteArray.size_append,ByteArray.size_append]
      have:=testX_le (h x hx)
      have e:(⟨#[32]⟩:ByteArray).size=1:=rfl
      omega)
     have e1:(⟨#[123]⟩:ByteArray).size=1:=rfl
     have e2:(⟨#[32,125]⟩:ByteArray).size=2:=rfl
     have h3:l.length*30000000001≤4*30000000001:=Nat.mul_le_mul_right _ h4
     omega
theorem condE_leaf {c:CondT} {d:Nat} (h:condE c d=0) (hk : ¬c.kind=3):isWord c.id=true∧(∀t∈c.attr,testB t=true)∧(∀t∈c.value,testB t=true)∧c.attr.length≤4∧c.value.length≤4∧(c.kind=1∨c.kind=2)∧c.conds.length=0∧0<c.attr.length:=by
 unfold condE at h
 rw [if_neg hk] at h
 by_cases h1:c.kind=1∨c.kind=2
 · rw [if_pos h1] at h
   by_cases h2:0<c.conds.length∨isWord c.id=false∨c.attr.length=0
   · rw [if_pos h2] at h;exact absurd h (by decide)
   rw [if_neg h2] at h
   by_cases h3:4<c.attr.length∨4<c.value.length
   · rw [if_pos h3] at h;exact absurd h (by decide)
   rw [if_neg h3] at h
   by_cases h4:(c.attr.all testB && c.value.all testB)=false
   · rw [if_pos h4] at h;exact absurd h (by decide)
   simp only [not_or] at h2 h3
   have h5:c.attr.all testB=true∧c.value.all testB=true:=by
    have:(c.attr.all testB && c.value.all testB)=true:=by simpa using h4
    simpa using this
   exact ⟨by simpa using h2.2.1,fun t ht=>List.all_eq_true.1 h5.1 t ht,fun t ht=>List.all_eq_true.1 h5.2 t ht,by omega,by omega,h1,by omega,by omega⟩
 · rw [if_neg h1] at h;exact absurd h (by decide)
theorem leafX_le {c:CondT} {d:Nat} (h:condE c d=0) (hk : ¬c.kind=3):(leafX c).size≤500000000000:=by
 obtain ⟨h1,h2,h3,h4,h5,_⟩:=condE_leaf h hk
 have a1:=word_le h1
 have a2:=fieldX_le h2 h4
 have a3:=fieldX_le h3 h5
 have e1:(⟨#[45,40]⟩:ByteArray).size=2:=rfl
 have e2:(⟨#[40]⟩:ByteArray).size=1:=rfl
 have e3:(⟨#[115,116,97,116,101,32]⟩:ByteArray).size=6:=rfl
 have e4:(⟨#[60]⟩:ByteArray).size=1:=rfl
 have e5:(⟨#[62,32,94]⟩:ByteArray).size=3:=rfl
 have e6:(⟨#[32]⟩:ByteArray).size=1:=rfl
 have e7:(⟨#[32,43]⟩:ByteArray).size=2:=rfl
 have e8:(⟨#[41]⟩:ByteArray).size=1:=rfl
 have l1:(leaf1 c).size≤2:=by unfold leaf1;split<;>omega
 have l2:(leaf2 c).size≤8:=by unfold leaf2;split;rw [ByteArray.size_append];omega;omega
 have l3:(leaf3 c).size≤200000000050:=by unfold leaf3;rw [ByteArray.size_append,ByteArray.size_append,ByteArray.size_append,ByteArray.size_append];omega
 have l4:(leaf4 c).size≤400000000060:=by unfold leaf4;split;rw [ByteArray.size_append,ByteArray.size_append];omega;omega
 have l5:(leaf5 c).size≤400000000070:=by unfold leaf5;split;rw [ByteArray.size_append];omega;omega
 unfold leafX
 rw [ByteArray.size_append]
 omega
theorem allF_sum {f:CondT→ByteArray} {g:CondT→Nat} : ∀(l:List CondT) (p:Nat×ByteArray),(∀x∈l,(f x).size+1≤g x)→(l.foldl (allF f) p).2.size≤p.2.size+(l.map g).sum
 | [],_,_=>by simp
 | x :: l,p,h=>by
   have h1:=h x (by simp)
   have h2:=allF_sum l (allF f p x) (fun y hy=>h y (by simp [hy]))
   have e:(⟨#[32]⟩:ByteArray).size=1:=rfl
   have h3:(allF f p x).2.size≤p.2.size+g x:=by
    unfold allF
    dsimp only
    rw [ByteArray.size_append]
    split
    · rw [ByteArray.size_append];omega
    · omega
   rw [List.foldl_cons,List.map_cons,List.sum_cons]
   omega
theorem flatC_sum (n d:Nat) : ∀l:List CondT,(l.map fun c=>1+(flatC n (d+1) c.conds).length).sum=(flatC (n+1) d l).length
 | []=>by simp [flatC]
 | c :: l=>by
   have:=flatC_sum n d l
   rw [List.map_cons,List.sum_cons,this]
   simp [flatC,List.flatMap_cons]
   omega
theorem sum_mul (k:Nat) (g:CondT→Nat) : ∀l:List CondT,(l.map fun c=>k*g c).sum=k*(l.map g).sum
 | []=>by simp
 | c :: l=>by rw [List.map_cons,List.sum_cons,sum_mul k g l,List.map_cons,List.sum_cons,Nat.mul_add]
theorem flatC_in {n d:Nat} {l:List CondT} {c:CondT} (h:c∈l):(d,c)∈flatC (n+1) d l∧∀x∈flatC n (d+1) c.conds,x∈flatC (n+1) d l:=by
 constructor
 · rw [flatC];exact List.mem_flatMap.2 ⟨c,h,by simp⟩
 · intro x hx;rw [flatC];exact List.mem_flatMap.2 ⟨c,h,by simp [hx]⟩
def Dp:Nat→CondT→Prop
 | 0,_=>False
 | n+1,c=>∀x∈c.conds,Dp n x
theorem row_dp : ∀(n:Nat) {D:Nat→Prop} {w:World} {A:Option Addr} {c:Nat} {l:List CondT},RowR (repCondT n) D w A c l→∀x∈l,Dp n x
 | 0,_,_,_,_,l,h,x,hx=>by
   obtain ⟨k,hk,rfl⟩:=List.getElem_of_mem hx
   obtain ⟨_,_,_,_,_,_,hr,_⟩:=h.at_ hk
   exact hr.elim
 | n+1,_,_,_,_,l,h,x,hx=>by
   obtain ⟨k,hk,rfl⟩:=List.getElem_of_mem hx
   obtain ⟨_,_,_,_,_,_,_,_,_,_,_,_,_,_,_,_,_,_,_,_,h3⟩:=at_CondT h hk
   exact row_dp n h3
theorem condX_le : ∀(n d:Nat) (c:CondT),Dp (n+1) c→condE c d=0→(∀x∈flatC n (d+1) c.conds,condE x.2 x.1=0)→(condX (n+1) c).size+4≤1000000000000*(1+(flatC n (d+1) c.conds).length)
 | n,d,c,hd,h,hf=>by
   rw [condX]
   by_cases hk:c.kind=3
   · rw [if_pos hk,ByteArray.size_append]
     have e1:(⟨#[45,123]⟩:ByteArray).size=2:=rfl
     have e2:(⟨#[125]⟩:ByteArray).size=1:=rfl
     cases n with
     | zero=>
       have hc:c.conds = []:=by
        cases hcc:c.conds with
        | nil=>rfl
        | cons x l=>exact (hd x (by rw [hcc];simp)).elim
       rw [hc]
       simp
       omega
     | succ m=>
       have h1:=allF_sum (f:=condX (m+1)) (g:=fun x=>1000000000000*(1+(flatC m (d+1+1) x.conds).length)) c.conds (0,(⟨#[45,123]⟩:ByteArray)) (fun x hx=>by
        obtain ⟨g1,g2⟩:=flatC_in (n:=m) (d:=d+1) hx
        have:=condX_le m (d+1) x (hd x hx) (hf _ g1) (fun y hy=>hf _ (g2 y hy))
        omega)
       rw [sum_mul,flatC_sum] at h1
       rw [e1] at h1
       omega
   · rw [if_neg hk]
     have:=leafX_le h hk
     omega
theorem termX_le {t:TermT} (h:termB t=true):(termX t).size≤5000000000:=by
 unfold termB at h
 by_cases h1:t.op<0∨3<t.op∨atomB t.a=false
 · rw [if_pos h1] at h;cases h
 rw [if_neg h1] at h
 simp only [not_or] at h1
 have av : ∀a:AtomT,atomB a=true→a.var.toList = []∨isWord a.var=true:=fun a ha=>by
  unfold atomB at ha
  split at ha
  · exact .inl (by assumption)
  · simp only [Bool.and_eq_true] at ha;exact .inr ha.1
 have ha:=atomX_le (s:=t.a.sym) (av t.a (by simpa using h1.2.2))
 unfold termX
 have e1:(⟨#[40]⟩:ByteArray).size=1:=rfl
 have e2:(⟨#[32]⟩:ByteArray).size=1:=rfl
 have e3:(⟨#[41]⟩:ByteArray).size=1:=rfl
 have e4:(⟨#[43]⟩:ByteArray).size=1:=rfl
 have e5:(⟨#[45]⟩:ByteArray).size=1:=rfl
 have e6:(⟨#[42]⟩:ByteArray).size=1:=rfl
 have eo:(opX t.op).size=1:=by unfold opX;split;rfl;split<;>rfl
 split
 · rename_i ho
   rw [if_neg (by omega)] at h
   simp only [Bool.and_eq_true] at h
   have hb:=atomX_le (s:=t.b.sym) (av t.b h.1.1)
   simp only [ByteArray.size_append]
   omega
 · omega
theorem signX_le (k:Int):(signX k).size≤1:=by
 unfold signX
 repeat (split;exact Nat.le_refl 1)
 exact Nat.le_refl 1
theorem actX_le {a:ActT} (h:actB a=true):(actX a).size≤20000000000:=by
 unfold actB at h
 by_cases h1:isWord a.id=false∨atomB a.attr=false∨termB a.value=false∨a.pref<1∨10<a.pref
 · rw [if_pos h1] at h;cases h
 rw [if_neg h1] at h
 simp only [not_or] at h1
 have av : ∀a:AtomT,atomB a=true→a.var.toList = []∨isWord a.var=true:=fun a ha=>by
  unfold atomB at ha
  split at ha
  · exact .inl (by assumption)
  · simp only [Bool.and_eq_true] at ha;exact .inr ha.1
 have w1:=word_le (show isWord a.id=true by simpa using h1.1)
 have ha:=atomX_le (s:=a.attr.sym) (av a.attr (by simpa using h1.2.1))
 have ht:=termX_le (show termB a.value=true by simpa using h1.2.2.1)
 have hs:=signX_le a.pref
 have e1:(⟨#[40,60]⟩:ByteArray).size=2:=rfl
 have e2:(⟨#[62,32,94]⟩:ByteArray).size=3:=rfl
 have e3:(⟨#[32]⟩:ByteArray).size=1:=rfl
 have e4:(⟨#[41]⟩:ByteArray).size=1:=rfl
 unfold actX
 dsimp only
 rw [ByteArray.size_append]
 split
 · rename_i ho
   rw [if_pos ho] at h
   have hb:=atomX_le (s:=a.other.sym) (av a.other h)
   simp only [ByteArray.size_append]
   omega
 · simp only [ByteArray.size_append]
   omega
theorem shapeP_ok {n:Nat} {p:ProdT} (h:(shapeP n p).2=0):isWord p.name=true∧(flatC n 0 p.conds).length≤16∧1≤(flatC n 0 p.conds).length∧p.acts.length≤16∧1≤p.acts.length∧(∀x∈flatC n 0 p.conds,condE x.2 x.1=0)∧∀a∈p.acts,actB a=true:=by
 unfold shapeP at h
 by_cases h1:isWord p.name=false
 · rw [if_pos h1] at h;exact absurd h (by decide)
 rw [if_neg h1] at h
 by_cases h2:(flatC n 0 p.conds).length<1∨16<(flatC n 0 p.conds).length∨p.acts.length<1∨16<p.acts.length
 · rw [if_pos h2] at h;exact absurd h (by decide)
 rw [if_neg h2] at h
 simp only [not_or] at h2
 cases h3:(flatC n 0 p.conds).findIdx? (fun c=>decide (condE c.2 c.1≠0)) with
 | some k=>
   rw [h3] at h
   obtain ⟨hk,hp,_⟩:=List.findIdx?_eq_some_iff_getElem.1 h3
   simp only at h
   rw [List.getElem?_eq_getElem hk] at h
   simp at h hp
   exact absurd h hp
 | none=>
   rw [h3] at h
   cases h4:p.acts.findIdx? (fun a=>!actB a) with
   | some i=>rw [h4] at h;exact absurd h (by simp)
   | none=>
     refine ⟨by simpa using h1,by omega,by omega,by omega,by omega,fun x hx=>?_,fun a ha=>?_⟩
     · have:=List.findIdx?_eq_none_iff.1 h3 x hx
       simpa using this
     · have:=List.findIdx?_eq_none_iff.1 h4 a ha
       simpa using this
theorem prodX_le {n:Nat} {p:ProdT} (hdp : ∀c∈p.conds,Dp n c) (h:(shapeP n p).2=0):(prodX n p).size≤1000000000000000:=by
 obtain ⟨h1,h2,_,h4,_,h6,h7⟩:=shapeP_ok h
 have w1:=word_le h1
 cases n with
 | zero=>exact absurd h2 (by have:=(shapeP_ok h).2.2.1;simp [flatC] at this)
 | succ m=>
   have hl:p.conds.length≤16:=by
    have:=flatC_sum m 0 p.conds
    have h8 : ∀l:List CondT,l.length≤(l.map fun c=>1+(flatC m (0+1) c.conds).length).sum:=by
     intro l
     induction l with
     | nil=>simp
     | cons c l ih=>rw [List.map_cons,List.sum_cons,List.length_cons];omega
    have:=h8 p.conds
    omega
   have c1:=fold_sum (f:=lineC (m+1)) (B:=17000000000010) p.conds ((⟨#[115,112,32,123]⟩:ByteArray)++p.name++(⟨#[10]⟩:ByteArray)) (fun c hc s=>by
    obtain ⟨g1,g2⟩:=flatC_in (n:=m) (d:=0) hc
    have g3:=condX_le m 0 c (hdp c hc) (h6 _ g1) (fun y hy=>h6 _ (g2 y hy))
    have g4:(flatC m (0+1) c.conds).length≤16:=by
     have e:=flatC_sum m 0 p.conds
     have g5 : ∀l:List CondT,c∈l→1+(flatC m (0+1) c.conds).length≤(l.map fun c=>1+(flatC m (0+1) c.conds).length).sum:=by
      intro l hl
      induction l with
      | nil=>cases hl
      | cons x l ih=>
        rw [List.map_cons,List.sum_cons]
        rcases List.mem_cons.1 hl with rfl | hl
        · omega
        · have:=ih hl;omega
     have:=g5 p.conds hc
     omega
    unfold lineC
    rw [ByteArray.size_append,ByteArray.size_append,ByteArray.size_append]
    have e1:(⟨#[32,32]⟩:ByteArray).size=2:=rfl
    have e2:(⟨#[10]⟩:ByteArray).size=1:=rfl
    omega)
   have a1:=fold_sum (f:=lineA) (B:=20000000010) p.acts (p.conds.foldl (lineC (m+1)) ((⟨#[115,112,32,123]⟩:ByteArray)++p.name++(⟨#[10]⟩:ByteArray))++(⟨#[45,45,62,10]⟩:ByteArray)) (fun a ha s=>by
    have:=actX_le (h7 a ha)
    unfold lineA
    rw [ByteArray.size_append,ByteArray.size_append,ByteArray.size_append]
    have e1:(⟨#[32,32]⟩:ByteArray).size=2:=rfl
    have e2:(⟨#[10]⟩:ByteArray).size=1:=rfl
    omega)
   unfold prodX
   rw [ByteArray.size_append]
   rw [ByteArray.size_append (b:=(⟨#[45,45,62,10]⟩:ByteArray))] at a1
   rw [ByteArray.size_append,ByteArray.size_append] at c1
   have e1:(⟨#[115,112,32,123]⟩:ByteArray).size=4:=rfl
   have e2:(⟨#[10]⟩:ByteArray).size=1:=rfl
   have e3:(⟨#[45,45,62,10]⟩:ByteArray).size=4:=rfl
   have e4:(⟨#[125,10]⟩:ByteArray).size=2:=rfl
   have m1:p.conds.length*17000000000010≤16*17000000000010:=Nat.mul_le_mul_right _ hl
   have m2:p.acts.length*20000000010≤16*20000000010:=Nat.mul_le_mul_right _ h4
   omega
end Go.Proofs.Ytffemfglngikbaa
namespace Go.Proofs.Ytffemfglngikbaa
open Go.RowKit Go.Shelf
attribute [local go_sem] Oper.semAt_some
set_option linter.unusedSimpArgs false
theorem newD_lt {B k:Nat} {w:World} (h:NewD B w k):k<w.heap.size:=h.2
theorem dp_condR (t:ByteArray→ByteArray) : ∀(n:Nat) (x:CondT),Dp n x→Dp n (condR t n x)
 | 0,_,h=>h.elim
 | n+1,x,h=>by
   intro y hy
   obtain ⟨z,hz,rfl⟩:=List.mem_map.1 (show y∈x.conds.map (condR t n) from hy)
   exact dp_condR t n z (h z hz)
theorem flat_condR (t:ByteArray→ByteArray) : ∀(n d:Nat) (l:List CondT),(flatC n d (l.map (condR t n))).length=(flatC n d l).length
 | 0,_,_=>rfl
 | n+1,d,l=>by
   rw [← flatC_sum,← flatC_sum,List.map_map]
   congr 1
   apply List.map_congr_left
   intro x _
   show 1+(flatC n (d+1) (x.conds.map (condR t n))).length=_
   rw [flat_condR t n]
structure Fit (n:Nat) (p:ProdT):Prop where
 c:p.conds.length≤1000
 a:p.acts.length≤1000
 s : ∀x∈p.conds,SmC n x
 v:(varsP n p).length≤100000
 f:(flatC n 0 p.conds).length≤1000000000
 nn:n≤1000000000
 d : ∀x∈p.conds,Dp n x
def textC (n:Nat) (p:ProdT):ByteArray:=showX n (plainP n p)
def sameC (n:Nat) (p q:ProdT):Bool:=decide (¬(textC n p).toList = []) && decide ((textC n p).toList=(textC n q).toList)
set_option maxRecDepth 100000 in
set_option maxHeartbeats 4000000 in
theorem ctext_is {D:Nat→Prop} (n:Nat) (p:ProdT) (A1:Option Addr) (c1:Nat) (A2:Option Addr) (c2:Nat) (w:World) (hD : ∀k,D k→k<w.heap.size) (h1:RowR (repCondT n) D w A1 c1 p.conds) (h2:RowR repActT D w A2 c2 p.acts) (hf:Fit n p) :
 Calls Try.prog 52 #[.agg #[.string p.name,.slice A1 p.conds.length c1,.slice A2 p.acts.length c2]] w fun e w'=>e = .returned (.string (textC n p))∧Below w.heap.size w w':=by
 have HPL:=Lib.hid (show ∀W,Below w.heap.size w W→Calls Try.prog 21 #[.agg #[.string p.name,.slice A1 p.conds.length c1,.slice A2 p.acts.length c2]] W (FreshP n (plainP n p) W) from fun W hW=>cplain_is n p A1 c1 A2 c2 W (fun k hk=>Nat.lt_of_lt_of_le (hD k hk) hW.size) (h1.new_ hW) (h2.new_ hW) hf.c hf.a hf.s hf.v)
 obtain ⟨q,hq⟩ : ∃q,q=plainP n p:=⟨_,rfl⟩
 have HSZ:=Lib.hid (show (shapeP n q).2=0→(prodX n q).size≤MAXS from fun h=>by
  have:=prodX_le (n:=n) (p:=q) (by rw [hq];intro x hx;obtain ⟨z,hz,rfl⟩:=List.mem_map.1 (show x∈p.conds.map _ from hx);exact dp_condR _ n z (hf.d z hz)) h
  unfold MAXS
  omega)
 have HFL:=Lib.hid (show (flatC n 0 q.conds).length≤1000000000 by rw [hq];show (flatC n 0 (p.conds.map _)).length≤_;rw [flat_condR];exact hf.f)
 have HNN:=Lib.hid hf.nn
 have HTX:=Lib.hid (show textC n p=showX n q by rw [hq];rfl)
 rw [← hq] at HPL
 have hc1:=h1.cap
 have hc2:=h2.cap
 clear h1 h2 hD hf hq
 go_enter Try.func52,Try.ntmps52
 go_upto_region 1 with fail
 obtain ⟨w1,hw1⟩ : ∃w1,w1=(w.alloc (.cells #[.string p.name,.slice A1 p.conds.length c1,.slice A2 p.acts.length c2] 25)):=⟨_,rfl⟩
 rw [← hw1]
 have HB:=Lib.hid (show Below w.heap.size w w1 by rw [hw1];exact (by repeat (first | exact Below.refl _ _ | refine Below.drew ?_ | refine Below.al ?_ _ | refine Below.sc ?_ _)))
 have Kb:=Lib.hid (show Blk w1 (w.heap.size) 25 #[.string p.name,.slice A1 p.conds.length c1,.slice A2 p.acts.length c2] by rw [hw1];exact (Blk.new w 25 #[.string p.name,.slice A1 p.conds.length c1,.slice A2 p.acts.length c2]))
 clear hw1
 obtain ⟨b0,b1,b2⟩:=Kb.out.c3
 have bz:=Kb.out.lt
 go_wp2_with fail
 with_reducible refine (HPL.out _ (by (repeat (first | exact Below.refl _ _ | exact HB.out | refine Below.drew ?_ | refine Below.al ?_ _ | refine Below.sc ?_ _)))).mono ?_
 rintro e w2 ⟨E1,d1,E2,d2,rfl,r1,r2,hb⟩
 have hbs:=Below.trans (show Below w1.heap.size w1 _ from (by (repeat (first | exact Below.refl _ _ | refine Below.drew ?_ | refine Below.al ?_ _ | refine Below.sc ?_ _)))) (hb.mono (by simp<;>omega))
 have Kb:=Lib.hid (Kb.out.new_ hbs)
 have HB:=Lib.hid (HB.out.trans (hbs.mono HB.out.size))
 have hsz2:=hbs.size
 clear b0 b1 b2 bz hb hbs
 obtain ⟨b0,b1,b2⟩:=Kb.out.c3
 have bz:=Kb.out.lt
 have HR1:=Lib.hid r1
 have HR2:=Lib.hid r2
 clear r1 r2
 go_wp2_with fail
 with_reducible refine (sprod_is n q E1 E2 d1 d2 _ HR1.out HR2.out (fun _ hk=>newD_lt hk) HFL.out HNN.out HSZ.out).mono ?_
 rintro e w3 ⟨rfl,hb⟩
 have hbs:=Below.trans (show Below w2.heap.size w2 _ from (by (repeat (first | exact Below.refl _ _ | refine Below.drew ?_ | refine Below.al ?_ _ | refine Below.sc ?_ _)))) (hb.mono (by simp<;>omega))
 have Kb:=Lib.hid (Kb.out.new_ hbs)
 have HB:=Lib.hid (HB.out.trans (hbs.mono HB.out.size))
 have hsz3:=hbs.size
 clear b0 b1 b2 bz hb hbs
 obtain ⟨b0,b1,b2⟩:=Kb.out.c3
 have bz:=Kb.out.lt
 go_wp2_with fail
 go_ret
 exact ⟨by rw [HTX.out]<;>rfl,HB.out⟩
set_option maxRecDepth 100000 in
set_option maxHeartbeats 4000000 in
theorem csame_is {D:Nat→Prop} (n:Nat) (p q:ProdT) (A1:Option Addr) (c1:Nat) (A2:Option Addr) (c2:Nat) (B1:Option Addr) (d1:Nat) (B2:Option Addr) (d2:Nat) (w:World) (hD : ∀k,D k→k<w.heap.size)
 (h1:RowR (repCondT n) D w A1 c1 p.conds) (h2:RowR repActT D w A2 c2 p.acts) (hf:Fit n p) (k1:RowR (repCondT n) D w B1 d1 q.conds) (k2:RowR repActT D w B2 d2 q.acts) (kf:Fit n q) :
 Calls Try.prog 24 #[.agg #[.string p.name,.slice A1 p.conds.length c1,.slice A2 p.acts.length c2],.agg #[.string q.name,.slice B1 q.conds.length d1,.slice B2 q.acts.length d2]] w fun e w'=>e = .returned (.bool (sameC n p q))∧Below w.heap.size w w':=by
 obtain ⟨s,hs⟩ : ∃s,s=textC n p:=⟨_,rfl⟩
 obtain ⟨t,ht⟩ : ∃t,t=textC n q:=⟨_,rfl⟩
 have HTP:=Lib.hid (show ∀W,Below w.heap.size w W→Calls Try.prog 52 #[.agg #[.string p.name,.slice A1 p.conds.length c1,.slice A2 p.acts.length c2]] W fun e w'=>e = .returned (.string s)∧Below W.heap.size W w' from fun W hW=>by rw [hs];exact ctext_is n p A1 c1 A2 c2 W (fun k hk=>Nat.lt_of_lt_of_le (hD k hk) hW.size) (h1.new_ hW) (h2.new_ hW) hf)
 have HTQ:=Lib.hid (show ∀W,Below w.heap.size w W→Calls Try.prog 52 #[.agg #[.string q.name,.slice B1 q.conds.length d1,.slice B2 q.acts.length d2]] W fun e w'=>e = .returned (.string t)∧Below W.heap.size W w' from fun W hW=>by rw [ht];exact ctext_is n q B1 d1 B2 d2 W (fun k hk=>Nat.lt_of_lt_of_le (hD k hk) hW.size) (k1.new_ hW) (k2.new_ hW) kf)
 have HV:=Lib.hid (show sameC n p q=(decide (¬s.toList = []) && decide (s.toList=t.toList)) by rw [hs,ht];rfl)
 have hc1:=h1.cap
 have hc2:=h2.cap
 have hc3:=k1.cap
 have hc4:=k2.cap
 clear h1 h2 k1 k2 hf kf hD hs ht
 by_cases he:s.toList = []
 · skip
   have ea:(s.toList == [])=true:=by simp [he]
   have eb:s.toList.isEmpty=true:=by simp [he]
   have ec:decide (s.toList = [])=true:=by simp [he]
   have HR:=Lib.hid (show sameC n p q=false by rw [HV.out,he];rfl)
   clear he
   go_enter Try.func24,Try.ntmps24
   go_upto_region 1 with fail
   obtain ⟨w1,hw1⟩ : ∃w1,w1=((w.alloc (.cells #[.string p.name,.slice A1 p.conds.length c1,.slice A2 p.acts.length c2] 25)).alloc (.cells #[.string q.name,.slice B1 q.conds.length d1,.slice B2 q.acts.length d2] 25)):=⟨_,rfl⟩
   rw [← hw1]
   have HB:=Lib.hid (show Below w.heap.size w w1 by rw [hw1];exact (by repeat (first | exact Below.refl _ _ | refine Below.drew ?_ | refine Below.al ?_ _ | refine Below.sc ?_ _)))
   have Ka:=Lib.hid (show Blk w1 (w.heap.size) 25 #[.string p.name,.slice A1 p.conds.length c1,.slice A2 p.acts.length c2] by rw [hw1];exact ((Blk.new w 25 #[.string p.name,.slice A1 p.conds.length c1,.slice A2 p.acts.length c2]).alloc (.cells #[.string q.name,.slice B1 q.conds.length d1,.slice B2 q.acts.length d2] 25)))
   have Kb:=Lib.hid (show Blk w1 (w.heap.size+1) 25 #[.string q.name,.slice B1 q.conds.length d1,.slice B2 q.acts.length d2] by rw [hw1];have hh:=(Blk.new (w.alloc (.cells #[.string p.name,.slice A1 p.conds.length c1,.slice A2 p.acts.length c2] 25)) 25 #[.string q.name,.slice B1 q.conds.length d1,.slice B2 q.acts.length d2]);simp only [World.size_alloc] at hh;exact hh)
   clear hw1
   obtain ⟨a0,a1,a2⟩:=Ka.out.c3
   have az:=Ka.out.lt
   obtain ⟨b0,b1,b2⟩:=Kb.out.c3
   have bz:=Kb.out.lt
   go_wp2_with fail
   with_reducible refine (HTP.out _ (by (repeat (first | exact Below.refl _ _ | exact HB.out | refine Below.drew ?_ | refine Below.al ?_ _ | refine Below.sc ?_ _)))).mono ?_
   rintro e w2 ⟨rfl,hb⟩
   have hbs:=Below.trans (show Below w1.heap.size w1 _ from (by (repeat (first | exact Below.refl _ _ | refine Below.drew ?_ | refine Below.al ?_ _ | refine Below.sc ?_ _)))) (hb.mono (by simp<;>omega))
   have Ka:=Lib.hid (Ka.out.new_ hbs)
   have Kb:=Lib.hid (Kb.out.new_ hbs)
   have HB:=Lib.hid (HB.out.trans (hbs.mono HB.out.size))
   have hsz2:=hbs.size
   clear a0 a1 a2 az b0 b1 b2 bz hb hbs
   obtain ⟨a0,a1,a2⟩:=Ka.out.c3
   have az:=Ka.out.lt
   obtain ⟨b0,b1,b2⟩:=Kb.out.c3
   have bz:=Kb.out.lt
   go_wp2_with fail
   go_ret
   exact ⟨by rw [HR.out]<;>rfl,HB.out⟩
 · skip
   have ea:(s.toList == [])=false:=by simp [he]
   have eb:s.toList.isEmpty=false:=by simp [he]
   have ec:decide (s.toList = [])=false:=by simp [he]
   by_cases hq:s.toList=t.toList
   · skip
     have qa:(s.toList == t.toList)=true:=by simp [hq]
     have qb:decide (s.toList=t.toList)=true:=by simp [hq]
     have HR:=Lib.hid (show sameC n p q=true by rw [HV.out,decide_eq_true he,decide_eq_true hq];rfl)
     clear he hq
     go_enter Try.func24,Try.ntmps24
     go_upto_region 1 with fail
     obtain ⟨w1,hw1⟩ : ∃w1,w1=((w.alloc (.cells #[.string p.name,.slice A1 p.conds.length c1,.slice A2 p.acts.length c2] 25)).alloc (.cells #[.string q.name,.slice B1 q.conds.length d1,.slice B2 q.acts.length d2] 25)):=⟨_,rfl⟩
     rw [← hw1]
     have HB:=Lib.hid (show Below w.heap.size w w1 by rw [hw1];exact (by repeat (first | exact Below.refl _ _ | refine Below.drew ?_ | refine Below.al ?_ _ | refine Below.sc ?_ _)))
     have Ka:=Lib.hid (show Blk w1 (w.heap.size) 25 #[.string p.name,.slice A1 p.conds.length c1,.slice A2 p.acts.length c2] by rw [hw1];exact ((Blk.new w 25 #[.string p.name,.slice A1 p.conds.length c1,.slice A2 p.acts.length c2]).alloc (.cells #[.string q.name,.slice B1 q.conds.length d1,.slice B2 q.acts.length d2] 25)))
     have Kb:=Lib.hid (show Blk w1 (w.heap.size+1) 25 #[.string q.name,.slice B1 q.conds.length d1,.slice B2 q.acts.length d2] by rw [hw1];have hh:=(Blk.new (w.alloc (.cells #[.string p.name,.slice A1 p.conds.length c1,.slice A2 p.acts.length c2] 25)) 25 #[.string q.name,.slice B1 q.conds.length d1,.slice B2 q.acts.length d2]);simp only [World.size_alloc] at hh;exact hh)
     clear hw1
     obtain ⟨a0,a1,a2⟩:=Ka.out.c3
     have az:=Ka.out.lt
     obtain ⟨b0,b1,b2⟩:=Kb.out.c3
     have bz:=Kb.out.lt
     go_wp2_with fail
     with_reducible refine (HTP.out _ (by (repeat (first | exact Below.refl _ _ | exact HB.out | refine Below.drew ?_ | refine Below.al ?_ _ | refine Below.sc ?_ _)))).mono ?_
     rintro e w2 ⟨rfl,hb⟩
     have hbs:=Below.trans (show Below w1.heap.size w1 _ from (by (repeat (first | exact Below.refl _ _ | refine Below.drew ?_ | refine Below.al ?_ _ | refine Below.sc ?_ _)))) (hb.mono (by simp<;>omega))
     have Ka:=Lib.hid (Ka.out.new_ hbs)
     have Kb:=Lib.hid (Kb.out.new_ hbs)
     have HB:=Lib.hid (HB.out.trans (hbs.mono HB.out.size))
     have hsz2:=hbs.size
     clear a0 a1 a2 az b0 b1 b2 bz hb hbs
     obtain ⟨a0,a1,a2⟩:=Ka.out.c3
     have az:=Ka.out.lt
     obtain ⟨b0,b1,b2⟩:=Kb.out.c3
     have bz:=Kb.out.lt
     go_wp2_with fail
     with_reducible refine (HTQ.out _ (by (repeat (first | exact Below.refl _ _ | exact HB.out | refine Below.drew ?_ | refine Below.al ?_ _ | refine Below.sc ?_ _)))).mono ?_
     rintro e w3 ⟨rfl,hb⟩
     have hbs:=Below.trans (show Below w2.heap.size w2 _ from (by (repeat (first | exact Below.refl _ _ | refine Below.drew ?_ | refine Below.al ?_ _ | refine Below.sc ?_ _)))) (hb.mono (by simp<;>omega))
     have Ka:=Lib.hid (Ka.out.new_ hbs)
     have Kb:=Lib.hid (Kb.out.new_ hbs)
     have HB:=Lib.hid (HB.out.trans (hbs.mono HB.out.size))
     have hsz3:=hbs.size
     clear a0 a1 a2 az b0 b1 b2 bz hb hbs
     obtain ⟨a0,a1,a2⟩:=Ka.out.c3
     have az:=Ka.out.lt
     obtain ⟨b0,b1,b2⟩:=Kb.out.c3
     have bz:=Kb.out.lt
     go_wp2_with fail
     go_ret
     exact ⟨by rw [HR.out]<;>rfl,HB.out⟩
   · skip
     have qa:(s.toList == t.toList)=false:=by simp [hq]
     have qb:decide (s.toList=t.toList)=false:=by simp [hq]
     have HR:=Lib.hid (show sameC n p q=false by rw [HV.out];simp [he,hq])
     clear he hq
     go_enter Try.func24,Try.ntmps24
     go_upto_region 1 with fail
     obtain ⟨w1,hw1⟩ : ∃w1,w1=((w.alloc (.cells #[.string p.name,.slice A1 p.conds.length c1,.slice A2 p.acts.length c2] 25)).alloc (.cells #[.string q.name,.slice B1 q.conds.length d1,.slice B2 q.acts.length d2] 25)):=⟨_,rfl⟩
     rw [← hw1]
     have HB:=Lib.hid (show Below w.heap.size w w1 by rw [hw1];exact (by repeat (first | exact Below.refl _ _ | refine Below.drew ?_ | refine Below.al ?_ _ | refine Below.sc ?_ _)))
     have Ka:=Lib.hid (show Blk w1 (w.heap.size) 25 #[.string p.name,.slice A1 p.conds.length c1,.slice A2 p.acts.length c2] by rw [hw1];exact ((Blk.new w 25 #[.string p.name,.slice A1 p.conds.length c1,.slice A2 p.acts.length c2]).alloc (.cells #[.string q.name,.slice B1 q.conds.length d1,.slice B2 q.acts.length d2] 25)))
     have Kb:=Lib.hid (show Blk w1 (w.heap.size+1) 25 #[.string q.name,.slice B1 q.conds.length d1,.slice B2 q.acts.length d2] by rw [hw1];have hh:=(Blk.new (w.alloc (.cells #[.string p.name,.slice A1 p.conds.length c1,.slice A2 p.acts.length c2] 25)) 25 #[.string q.name,.slice B1 q.conds.length d1,.slice B2 q.acts.length d2]);simp only [World.size_alloc] at hh;exact hh)
     clear hw1
     obtain ⟨a0,a1,a2⟩:=Ka.out.c3
     have az:=Ka.out.lt
     obtain ⟨b0,b1,b2⟩:=Kb.out.c3
     have bz:=Kb.out.lt
     go_wp2_with fail
     with_reducible refine (HTP.out _ (by (repeat (first | exact Below.refl _ _ | exact HB.out | refine Below.drew ?_ | refine Below.al ?_ _ | refine Below.sc ?_ _)))).mono ?_
     rintro e w2 ⟨rfl,hb⟩
     have hbs:=Below.trans (show Below w1.heap.size w1 _ from (by (repeat (first | exact Below.refl _ _ | refine Below.drew ?_ | refine Below.al ?_ _ | refine Below.sc ?_ _)))) (hb.mono (by simp<;>omega))
     have Ka:=Lib.hid (Ka.out.new_ hbs)
     have Kb:=Lib.hid (Kb.out.new_ hbs)
     have HB:=Lib.hid (HB.out.trans (hbs.mono HB.out.size))
     have hsz2:=hbs.size
     clear a0 a1 a2 az b0 b1 b2 bz hb hbs
     obtain ⟨a0,a1,a2⟩:=Ka.out.c3
     have az:=Ka.out.lt
     obtain ⟨b0,b1,b2⟩:=Kb.out.c3
     have bz:=Kb.out.lt
     go_wp2_with fail
     with_reducible refine (HTQ.out _ (by (repeat (first | exact Below.refl _ _ | exact HB.out | refine Below.drew ?_ | refine Below.al ?_ _ | refine Below.sc ?_ _)))).mono ?_
     rintro e w3 ⟨rfl,hb⟩
     have hbs:=Below.trans (show Below w2.heap.size w2 _ from (by (repeat (first | exact Below.refl _ _ | refine Below.drew ?_ | refine Below.al ?_ _ | refine Below.sc ?_ _)))) (hb.mono (by simp<;>omega))
     have Ka:=Lib.hid (Ka.out.new_ hbs)
     have Kb:=Lib.hid (Kb.out.new_ hbs)
     have HB:=Lib.hid (HB.out.trans (hbs.mono HB.out.size))
     have hsz3:=hbs.size
     clear a0 a1 a2 az b0 b1 b2 bz hb hbs
     obtain ⟨a0,a1,a2⟩:=Ka.out.c3
     have az:=Ka.out.lt
     obtain ⟨b0,b1,b2⟩:=Kb.out.c3
     have bz:=Kb.out.lt
     go_wp2_with fail
     go_ret
     exact ⟨by rw [HR.out]<;>rfl,HB.out⟩
end Go.Proofs.Ytffemfglngikbaa
namespace Go.Proofs.Ytffemfglngikbaa
open Go.RowKit Go.Shelf
def goK (most:Nat) (f:CondT→Nat):List CondT→Nat→Nat
 | [],s=>s
 | c :: l,s=>if s≤most then goK most f l (s+(1+f c)) else s
def sizeK (most:Nat):Nat→Nat→List CondT→Nat
 | 0,d,l=>if 20<d then most+1 else if l = [] then 0 else most+1
 | n+1,d,l=>if 20<d then most+1 else min (goK most (fun c=>sizeK most n (d+1) c.conds) l 0) (most+1)
theorem goK_ge (most:Nat) (f:CondT→Nat) : ∀(l:List CondT) (s:Nat),s≤goK most f l s
 | [],s=>Nat.le_refl _
 | c :: l,s=>by
   rw [goK]
   split
   · have:=goK_ge most f l (s+(1+f c));omega
   · omega
theorem goK_all (most:Nat) (f:CondT→Nat) : ∀(l:List CondT) (s:Nat),goK most f l s≤most→goK most f l s=s+(l.map fun c=>1+f c).sum∧∀c∈l,f c≤most
 | [],s,_=>by simp [goK]
 | c :: l,s,h=>by
   rw [goK] at h ⊢
   by_cases hs:s≤most
   · rw [if_pos hs] at h ⊢
     obtain ⟨h1,h2⟩:=goK_all most f l _ h
     have:=goK_ge most f l (s+(1+f c))
     refine ⟨by rw [h1,List.map_cons,List.sum_cons];omega,fun x hx=>?_⟩
     rcases List.mem_cons.1 hx with rfl | hx
     · omega
     · exact h2 x hx
   · rw [if_neg hs] at h
     omega
theorem goK_snoc (most:Nat) (f:CondT→Nat) : ∀(l:List CondT) (c:CondT) (s:Nat),goK most f (l ++ [c]) s=if goK most f l s≤most then goK most f l s+(1+f c) else goK most f l s
 | [],c,s=>rfl
 | x :: l,c,s=>by
   rw [List.cons_append,goK,goK]
   by_cases hs:s≤most
   · rw [if_pos hs,if_pos hs,goK_snoc most f l c]
   · rw [if_neg hs,if_neg hs,if_neg hs]
theorem goK_stop (most:Nat) (f:CondT→Nat) : ∀(l m:List CondT) (s:Nat),¬goK most f l s≤most→goK most f (l++m) s=goK most f l s
 | [],m,s,h=>by
   rw [goK] at h
   cases m with
   | nil=>rfl
   | cons c m=>simp only [List.nil_append,goK];rw [if_neg h]
 | x :: l,m,s,h=>by
   rw [List.cons_append,goK,goK]
   rw [goK] at h
   by_cases hs:s≤most
   · rw [if_pos hs,if_pos hs]
     rw [if_pos hs] at h
     exact goK_stop most f l m _ h
   · rw [if_neg hs,if_neg hs]
theorem sum_le_of {α:Type} (f g:α→Nat) : ∀l:List α,(∀c∈l,f c≤g c)→(l.map f).sum≤(l.map g).sum
 | [],_=>Nat.le_refl _
 | c :: l,h=>by
   rw [List.map_cons,List.map_cons,List.sum_cons,List.sum_cons]
   have h1:=h c List.mem_cons_self
   have h2:=sum_le_of f g l (fun x hx=>h x (List.mem_cons_of_mem _ hx))
   omega
theorem flatC_len (m d:Nat) (l:List CondT):(flatC (m+1) d l).length=(l.map fun c=>1+(flatC m (d+1) c.conds).length).sum:=by
 rw [flatC_succ,List.length_flatMap]
 congr 1
 apply List.map_congr_left
 intro c _
 simp;omega
theorem sizeK_flat (most:Nat) : ∀(n m d e:Nat) (l:List CondT),sizeK most n d l≤most→(flatC m e l).length≤sizeK most n d l
 | 0,m,d,e,l,h=>by
   rw [sizeK] at h
   by_cases h1:20<d
   · rw [if_pos h1] at h;omega
   · rw [if_neg h1] at h
     by_cases h2:l = []
     · subst h2;cases m<;>simp [flatC]
     · rw [if_neg h2] at h;omega
 | n+1,m,d,e,l,h=>by
   rw [sizeK] at h ⊢
   by_cases h1:20<d
   · rw [if_pos h1] at h;omega
   · rw [if_neg h1] at h ⊢
     obtain ⟨h2,h3⟩:=goK_all most (fun c=>sizeK most n (d+1) c.conds) l 0 (by omega)
     cases m with
     | zero=>simp [flatC]
     | succ m=>
       have h4:=sum_le_of (fun c:CondT=>1+(flatC m (e+1) c.conds).length) (fun c=>1+sizeK most n (d+1) c.conds) l (fun c hc=>by
        have:=sizeK_flat most n m (d+1) (e+1) c.conds (h3 c hc)
        omega)
       rw [flatC_len]
       omega
theorem sizeK_deep (most:Nat) : ∀(n d:Nat) (l:List CondT),sizeK most n d l≤most→d≤20∧∀{D:Nat→Prop} {w:World} {A:Option Addr} {c:Nat},RowR (repCondT n) D w A c l→RowR (repCondT (20 - d)) D w A c l
 | 0,d,l,h=>by
   rw [sizeK] at h
   by_cases h1:20<d
   · rw [if_pos h1] at h;omega
   · rw [if_neg h1] at h
     by_cases h2:l = []
     · subst h2
       exact ⟨by omega,fun g=>⟨g.1,g.2.1,fun h=>absurd h (by simp)⟩⟩
     · rw [if_neg h2] at h;omega
 | n+1,d,l,h=>by
   rw [sizeK] at h
   by_cases h1:20<d
   · rw [if_pos h1] at h;omega
   · rw [if_neg h1] at h
     obtain ⟨_,h3⟩:=goK_all most (fun c=>sizeK most n (d+1) c.conds) l 0 (by omega)
     refine ⟨by omega,fun {D w A c} g=>?_⟩
     refine ⟨g.1,g.2.1,fun h0=>?_⟩
     obtain ⟨b,off,g1,g2,g3,g4⟩:=g.2.2 h0
     obtain ⟨d1,_⟩:=sizeK_deep most n (d+1) _ (h3 l[0] (List.getElem_mem h0))
     obtain ⟨k,hk⟩ : ∃k,20 - d=k+1:=⟨20 - d - 1,by omega⟩
     refine ⟨b,off,g1,g2,g3,fun j hj=>?_⟩
     obtain ⟨cs,r,hc⟩:=g4 j hj
     obtain ⟨A1,c1,A2,c2,A3,c3,e0,e1,e2,e3⟩:=r
     have h5:=(sizeK_deep most n (d+1) _ (h3 l[j] (List.getElem_mem hj))).2 e3
     rw [hk]
     rw [show 20 - (d+1)=k by omega] at h5
     exact ⟨cs,⟨A1,c1,A2,c2,A3,c3,e0,e1,e2,h5⟩,hc⟩
def heavyT (t:TestT):Bool:=decide (20<t.list.length) || (decide (100<t.var.size) || decide (100<t.sym.text.size))
def heavyO (c:CondT):Bool:=decide (100<c.id.size) || (decide (10<c.attr.length) || (decide (10<c.value.length) || (c.attr.any heavyT || c.value.any heavyT)))
def heavyC:Nat→List CondT→Bool
 | 0,_=>false
 | n+1,l=>l.any fun c=>heavyO c || heavyC n c.conds
def heavyP (n:Nat) (p:ProdT):Bool:=decide (40<sizeK 40 n 0 p.conds) || (decide (40<p.acts.length) || (decide (100<p.name.size) || heavyC n p.conds))
set_option maxRecDepth 100000 in
set_option maxHeartbeats 2000000 in
theorem heavyTests_is {D:Nat→Prop} {A:Option Addr} {c:Nat} (l:List TestT) (w:World) (h:RowR repTestT D w A c l):Calls Try.prog 53 #[.slice A l.length c] w fun e w'=>e = .returned (.bool (l.any heavyT))∧w=w':=by
 have H:=Lib.hid h
 have hlc:=h.cap
 clear h
 go_enter Try.func53,Try.ntmps53
 go_wp2_with fail
 go_loopw [3] (fun s wr=>∃i:Nat,s = .int .i64 i∧i≤l.length∧(∀k,(h:k<l.length)→k<i→heavyT l[k]=false)∧wr=w) (fun s wr=>l.length - (intOf s).toNat)
 case atStart=>exact ⟨0,rfl,Nat.zero_le _,fun k _ h=>absurd h (by omega),rfl⟩
 case round=>
  obtain ⟨i,rfl,hi,hall,rfl⟩:=hrel
  have HALL:=Lib.hid hall
  clear hall
  by_cases hlt:i<l.length
  · obtain ⟨x,hx⟩ : ∃x,x=l[i]:=⟨_,rfl⟩
    obtain ⟨g,off,A1,c1,rfl,_,hgs,q0,q1,q2,q3,q4,q5,hr⟩:=at_TestT H.out hlt
    rw [← hx] at q0 q1 q2 q3 q4 q5 hr
    have hcap:=hr.cap
    have b1:(0:Int)≤(i:Int):=by omega
    have b2:(i:Int)<(l.length:Int):=by omega
    have HX:=Lib.hid hx
    have HYES:=Lib.hid (show heavyT x=true→l.any heavyT=true from fun h=>List.any_eq_true.2 ⟨x,by rw [HX.out];exact List.getElem_mem hlt,h⟩)
    clear hx hr
    cases t1:decide (20<x.list.length)
    · cases t2:decide (100<x.var.size)
      · cases t3:decide (100<x.sym.text.size)
        · have s1:decide ((20:Int)<(x.list.length:Int))=false:=by simp at t1 ⊢;omega
          have s2:decide ((100:Int)<(x.var.size:Int))=false:=by simp at t2 ⊢;omega
          have s3:decide ((100:Int)<(x.sym.text.size:Int))=false:=by simp at t3 ⊢;omega
          have HN:=Lib.hid (show heavyT x=false by simp [heavyT,t1,t2,t3])
          clear t1 t2 t3
          go_wp2_with fail
          go_roundw
          case rel=>
           refine ⟨i+1,by go_num,by omega,fun k h hk=>?_,by trivial⟩
           rcases Nat.lt_or_ge k i with h3 | h3
           · exact HALL.out k h h3
           · obtain rfl:k=i:=by omega
             rw [← HX.out]
             exact HN.out
          case measure=>simp [intOf]<;>omega
        · have s1:decide ((20:Int)<(x.list.length:Int))=false:=by simp at t1 ⊢;omega
          have s2:decide ((100:Int)<(x.var.size:Int))=false:=by simp at t2 ⊢;omega
          have s3:decide ((100:Int)<(x.sym.text.size:Int))=true:=by simp at t3 ⊢;omega
          have HN:=Lib.hid (HYES.out (by simp [heavyT,t3]))
          clear t1 t2 t3
          go_wp2_with fail
          go_ret
          exact ⟨by rw [HN.out];rfl,rfl⟩
      · have s1:decide ((20:Int)<(x.list.length:Int))=false:=by simp at t1 ⊢;omega
        have s2:decide ((100:Int)<(x.var.size:Int))=true:=by simp at t2 ⊢;omega
        have HN:=Lib.hid (HYES.out (by simp [heavyT,t2]))
        clear t1 t2
        go_wp2_with fail
        go_ret
        exact ⟨by rw [HN.out];rfl,rfl⟩
    · have s1:decide ((20:Int)<(x.list.length:Int))=true:=by simp at t1 ⊢;omega
      have HN:=Lib.hid (HYES.out (by simp [heavyT,t1]))
      clear t1
      go_wp2_with fail
      go_ret
      exact ⟨by rw [HN.out];rfl,rfl⟩
  · have hie:i=l.length:=by omega
    subst hie
    have HN:=Lib.hid (show l.any heavyT=false by
     rw [List.any_eq_false]
     intro x hx
     obtain ⟨k,hk,rfl⟩:=List.getElem_of_mem hx
     simp [HALL.out k hk hk])
    go_wp2_with fail
    go_ret
    exact ⟨by rw [HN.out];rfl,rfl⟩
set_option maxRecDepth 100000 in
set_option maxHeartbeats 4000000 in
theorem size_is (most:Nat) (hm:most≤1000) : ∀(n:Nat) (D:Nat→Prop) (A:Option Addr) (c:Nat) (d:Nat) (l:List CondT) (w:World),RowR (repCondT n) D w A c l→d≤21→
 Calls Try.prog 25 #[.slice A l.length c,.int .i64 (most:Int),.int .i64 (d:Int)] w fun e w'=>e = .returned (.int .i64 (sizeK most n d l:Int))∧w=w':=by
 intro n
 induction n with
 | zero=>
   intro D A c d l w h hd
   have hl0:l = []:=by
    cases l with
    | nil=>rfl
    | cons x l=>
      obtain ⟨b,off,cs,_,_,_,hr,_⟩:=h.at_ (k:=0) (by simp)
      exact hr.elim
   subst hl0
   clear h
   by_cases h20:20<d
   · have t1:decide ((20:Int)<(d:Int))=true:=by simp;omega
     have v1:IntKind.i64.wrap ((most:Int)+1)=(most:Int)+1:=IntWalk.i64_in _ (by omega)
     have HR:=Lib.hid (show ((sizeK most 0 d []:Nat):Int)=(most:Int)+1 by rw [sizeK,if_pos h20];rfl)
     clear h20
     go_enter Try.func25,Try.ntmps25
     go_wp2_with fail
     go_ret
     exact ⟨by rw [HR.out];rfl,rfl⟩
   · have t1:decide ((20:Int)<(d:Int))=false:=by simp;omega
     have v1:IntKind.i64.wrap ((most:Int)+1)=(most:Int)+1:=IntWalk.i64_in _ (by omega)
     have HR:=Lib.hid (show ((sizeK most 0 d []:Nat):Int)=0 by rw [sizeK,if_neg h20,if_pos rfl];rfl)
     have hmin:min (0:Int) ((most:Int)+1)=0:=by omega
     clear h20
     go_enter Try.func25,Try.ntmps25
     go_wp2_with fail
     go_loopw [7,8] (fun a s wr=>s = .int .i64 0∧a = .int .i64 0∧wr=w) (fun a s wr=>0)
     case atStart=>exact ⟨rfl,rfl,rfl⟩
     case round=>
      obtain ⟨rfl,rfl,rfl⟩:=hrel
      go_wp2_with fail
      go_ret
      exact ⟨by rw [HR.out];rfl,rfl⟩
 | succ n ih=>
   intro D A c d l w h hd
   have IH:=Lib.hid ih
   have H:=Lib.hid h
   have hlc:=h.cap
   clear h ih
   have v1:IntKind.i64.wrap ((most:Int)+1)=(most:Int)+1:=IntWalk.i64_in _ (by omega)
   by_cases h20:20<d
   · have t1:decide ((20:Int)<(d:Int))=true:=by simp;omega
     have HR:=Lib.hid (show ((sizeK most (n+1) d l:Nat):Int)=(most:Int)+1 by rw [sizeK,if_pos h20];rfl)
     clear h20
     go_enter Try.func25,Try.ntmps25
     go_wp2_with fail
     go_ret
     exact ⟨by rw [HR.out];rfl,rfl⟩
   · have t1:decide ((20:Int)<(d:Int))=false:=by simp;omega
     obtain ⟨f,hf⟩ : ∃f:CondT→Nat,f=fun c=>sizeK most n (d+1) c.conds:=⟨_,rfl⟩
     have hfle : ∀c,f c≤most+1:=fun c=>by
      rw [hf]
      cases n with
      | zero=>simp only [sizeK];split;omega;split<;>omega
      | succ n=>simp only [sizeK];split;omega;omega
     have HFLE:=Lib.hid hfle
     have HR:=Lib.hid (show ((sizeK most (n+1) d l:Nat):Int)=min ((goK most f l 0:Nat):Int) ((most:Int)+1) by rw [sizeK,if_neg h20,← hf];omega)
     have HF:=Lib.hid hf
     have hd20:d≤20:=by omega
     clear h20 hfle hf
     go_enter Try.func25,Try.ntmps25
     go_wp2_with fail
     go_loopw [7,8] (fun a s wr=>∃i:Nat,s = .int .i64 i∧i≤l.length∧a = .int .i64 ((goK most f (l.take i) 0:Nat):Int)∧goK most f (l.take i) 0≤2*most+2∧wr=w) (fun a s wr=>l.length - (intOf s).toNat)
     case atStart=>exact ⟨0,rfl,Nat.zero_le _,rfl,by simp [goK],rfl⟩
     case round=>
      obtain ⟨i,rfl,hi,rfl,hle,rfl⟩:=hrel
      obtain ⟨s,hs⟩ : ∃s,s=goK most f (l.take i) 0:=⟨_,rfl⟩
      rw [← hs] at hle ⊢
      have HS:=Lib.hid hs
      clear hs
      by_cases hlt:i<l.length
      · by_cases hsm:s≤most
        · have t2:decide ((s:Int)≤(most:Int))=true:=by simp;omega
          obtain ⟨x,hx⟩ : ∃x,x=l[i]:=⟨_,rfl⟩
          obtain ⟨g,off,A1,c1,A2,c2,A3,c3,rfl,_,hgs,q0,q1,q2,q3,q4,q5,q6,r1,r2,r3⟩:=at_CondT H.out hlt
          rw [← hx] at q6 r3
          have HR3:=Lib.hid r3
          have hn3:=r3.cap
          have b1:(0:Int)≤(i:Int):=by omega
          have b2:(i:Int)<(l.length:Int):=by omega
          obtain ⟨y,hy⟩ : ∃y,y=f x:=⟨_,rfl⟩
          have hyle:y≤most+1:=by rw [hy];exact HFLE.out x
          have HCL:=Lib.hid (show Calls Try.prog 25 #[.slice A3 x.conds.length c3,.int .i64 (most:Int),.int .i64 ((d:Int)+1)] wr fun e w'=>e = .returned (.int .i64 (y:Int))∧wr=w' by
           have:=IH.out D A3 c3 (d+1) x.conds wr HR3.out (by omega)
           rw [hy,HF.out]
           exact this)
          have HN:=Lib.hid (show goK most f (l.take (i+1)) 0=s+(1+y) by
           rw [List.take_succ_eq_append_getElem hlt,goK_snoc,← HS.out,if_pos hsm,← hx,hy])
          have v2:IntKind.i64.wrap ((d:Int)+1)=(d:Int)+1:=IntWalk.i64_in _ (by omega)
          have v3:IntKind.i64.wrap (1+(y:Int))=1+(y:Int):=IntWalk.i64_in _ (by omega)
          have v4:IntKind.i64.wrap ((s:Int)+(1+(y:Int)))=(s:Int)+(1+(y:Int)):=IntWalk.i64_in _ (by omega)
          clear hx hy r1 r2 r3 q0 q1 q2 q3 q4 q5
          go_wp2_with fail
          refine HCL.out.mono ?_
          rintro e w2 ⟨rfl,rfl⟩
          go_wp2_with fail
          go_roundw
          case rel=>exact ⟨i+1,by go_num,by omega,by rw [HN.out];simp,by rw [HN.out];omega,by trivial⟩
          case measure=>simp [intOf]<;>omega
        · have t2:decide ((s:Int)≤(most:Int))=false:=by simp;omega
          have b2:(i:Int)<(l.length:Int):=by omega
          have hmin:min (s:Int) ((most:Int)+1)=(most:Int)+1:=by omega
          have HN:=Lib.hid (show goK most f l 0=s by
           have:=goK_stop most f (l.take i) (l.drop i) 0 (by rw [← HS.out];exact hsm)
           rwa [List.take_append_drop,← HS.out] at this)
          clear hsm
          go_wp2_with fail
          go_ret
          exact ⟨by rw [HR.out,HN.out,hmin];rfl,rfl⟩
      · have hie:i=l.length:=by omega
        subst hie
        have HN:=Lib.hid (show goK most f l 0=s by rw [HS.out,List.take_length])
        obtain ⟨z,hz⟩ : ∃z,z=min (s:Int) ((most:Int)+1):=⟨_,rfl⟩
        have HZ:=Lib.hid hz
        clear hz
        go_wp2_with fail
        go_ret
        exact ⟨by rw [HR.out,HN.out];rfl,rfl⟩
theorem heavyC_succ (n:Nat) (l:List CondT):heavyC (n+1) l=l.any fun c=>heavyO c || heavyC n c.conds:=rfl
set_option maxRecDepth 100000 in
set_option maxHeartbeats 4000000 in
theorem heavyConds_is : ∀(n:Nat) (D:Nat→Prop) (A:Option Addr) (c:Nat) (l:List CondT) (w:World),RowR (repCondT n) D w A c l→
 Calls Try.prog 26 #[.slice A l.length c] w fun e w'=>e = .returned (.bool (heavyC n l))∧Below w.heap.size w w':=by
 intro n
 induction n with
 | zero=>
   intro D A c l w h
   have hl0:l = []:=by
    cases l with
    | nil=>rfl
    | cons x l=>
      obtain ⟨b,off,cs,_,_,_,hr,_⟩:=h.at_ (k:=0) (by simp)
      exact hr.elim
   subst hl0
   clear h
   go_enter Try.func26,Try.ntmps26
   go_wp2_with fail
   go_loopw [3] (fun s wr=>s = .int .i64 0∧wr=w) (fun s wr=>0)
   case atStart=>exact ⟨rfl,rfl⟩
   case round=>
    obtain ⟨rfl,rfl⟩:=hrel
    go_wp2_with fail
    go_ret
    exact ⟨rfl,Below.refl _ _⟩
 | succ n ih=>
   intro D A c l w h
   have IH:=Lib.hid ih
   have H:=Lib.hid h
   have hlc:=h.cap
   clear h ih
   obtain ⟨R,hR⟩ : ∃R,R=heavyC (n+1) l:=⟨_,rfl⟩
   rw [← hR]
   have HR:=Lib.hid (show R=l.any fun c=>heavyO c || heavyC n c.conds by rw [hR,heavyC_succ])
   clear hR
   go_enter Try.func26,Try.ntmps26
   go_wp2_with fail
   go_loopw [3] (fun s wr=>∃i:Nat,s = .int .i64 i∧i≤l.length∧(∀k,(h:k<l.length)→k<i→(heavyO l[k] || heavyC n l[k].conds)=false)∧Below w.heap.size w wr) (fun s wr=>l.length - (intOf s).toNat)
   case atStart=>exact ⟨0,rfl,Nat.zero_le _,fun k _ h=>absurd h (by omega),Below.refl _ _⟩
   case round=>
    obtain ⟨i,rfl,hi,hall,hB⟩:=hrel
    have HALL:=Lib.hid hall
    have HB0:=Lib.hid hB
    clear hall hB
    by_cases hlt:i<l.length
    · obtain ⟨x,hx⟩ : ∃x,x=l[i]:=⟨_,rfl⟩
      obtain ⟨g,off,A1,c1,A2,c2,A3,c3,rfl,_,hgs,q0,q1,q2,q3,q4,q5,q6,r1,r2,r3⟩:=at_CondT (H.out.new_ HB0.out) hlt
      rw [← hx] at q0 q1 q2 q3 q4 q5 q6 r1 r2 r3
      have HR1:=Lib.hid r1
      have HR2:=Lib.hid r2
      have HR3:=Lib.hid r3
      have hn1:=r1.cap
      have hn2:=r2.cap
      have hn3:=r3.cap
      have b1:(0:Int)≤(i:Int):=by omega
      have b2:(i:Int)<(l.length:Int):=by omega
      have HX:=Lib.hid hx
      have HYES:=Lib.hid (show (heavyO x || heavyC n x.conds)=true→R=true from fun h=>by rw [HR.out];exact List.any_eq_true.2 ⟨x,by rw [HX.out];exact List.getElem_mem hlt,h⟩)
      have hsz:=HB0.out.size
      clear hx r1 r2 r3
      go_upto_region 5 with fail
      obtain ⟨X,hX⟩ : ∃X,X=wr.alloc (.cells #[.int .i64 x.kind,.bool x.goal,.string x.id,.slice A1 x.attr.length c1,.slice A2 x.value.length c2,.bool x.acc,.slice A3 x.conds.length c3] 50):=⟨_,rfl⟩
      rw [← hX]
      have hbX:Below wr.heap.size wr X:=by rw [hX];exact (Below.refl _ _).alloc (Nat.le_refl _) _
      have Kx:=Lib.hid (show Blk X wr.heap.size 50 #[.int .i64 x.kind,.bool x.goal,.string x.id,.slice A1 x.attr.length c1,.slice A2 x.value.length c2,.bool x.acc,.slice A3 x.conds.length c3] by rw [hX];exact Blk.new _ _ _)
      have HB:=Lib.hid hbX
      have HBW:=Lib.hid (HB0.out.trans (hbX.mono hsz))
      clear hX hbX q0 q1 q2 q3 q4 q5 q6
      obtain ⟨-,-,x2,x3,x4,-,x6⟩:=Kx.out.c7
      have xz:=Kx.out.lt
      cases t1:decide (100<x.id.size)
      · skip
        cases t2:decide (10<x.attr.length)
        · skip
          cases t3:decide (10<x.value.length)
          · skip
            have s1:decide ((100:Int)<(x.id.size:Int))=false:=by simp at t1 ⊢;omega
            have s2:decide ((10:Int)<(x.attr.length:Int))=false:=by simp at t2 ⊢;omega
            have s3:decide ((10:Int)<(x.value.length:Int))=false:=by simp at t3 ⊢;omega
            cases t4:x.attr.any heavyT
            · skip
              cases t5:x.value.any heavyT
              · skip
                cases t6:heavyC n x.conds
                · skip
                  have hc1:=heavyTests_is x.attr X (HR1.out.new_ HB.out)
                  rw [t4] at hc1
                  have HC1:=Lib.hid hc1
                  clear hc1
                  have hc2:=heavyTests_is x.value X (HR2.out.new_ HB.out)
                  rw [t5] at hc2
                  have HC2:=Lib.hid hc2
                  clear hc2
                  have hc3:=IH.out D A3 c3 x.conds X (HR3.out.new_ HB.out)
                  rw [t6] at hc3
                  have HC3:=Lib.hid hc3
                  clear hc3
                  have HN:=Lib.hid (show (heavyO x || heavyC n x.conds)=false by simp [heavyO,t1,t2,t3,t4,t5,t6])
                  clear t1 t2 t3 t4 t5 t6
                  go_wp2_with fail
                  refine HC1.out.mono ?_
                  rintro e w9 ⟨rfl,rfl⟩
                  go_wp2_with fail
                  refine HC2.out.mono ?_
                  rintro e w9 ⟨rfl,rfl⟩
                  go_wp2_with fail
                  refine HC3.out.mono ?_
                  rintro e w5 ⟨rfl,hb5⟩
                  have HB5:=Lib.hid (HBW.out.trans (hb5.mono HBW.out.size))
                  clear hb5
                  clear x2 x3 x4 x6
                  go_wp2_with fail
                  go_roundw
                  case rel=>
                   refine ⟨i+1,by go_num,by omega,fun k h hk=>?_,HB5.out⟩
                   rcases Nat.lt_or_ge k i with h3 | h3
                   · exact HALL.out k h h3
                   · obtain rfl:k=i:=by omega
                     rw [← HX.out]
                     exact HN.out
                  case measure=>simp [intOf]<;>omega
                · skip
                  have hc1:=heavyTests_is x.attr X (HR1.out.new_ HB.out)
                  rw [t4] at hc1
                  have HC1:=Lib.hid hc1
                  clear hc1
                  have hc2:=heavyTests_is x.value X (HR2.out.new_ HB.out)
                  rw [t5] at hc2
                  have HC2:=Lib.hid hc2
                  clear hc2
                  have hc3:=IH.out D A3 c3 x.conds X (HR3.out.new_ HB.out)
                  rw [t6] at hc3
                  have HC3:=Lib.hid hc3
                  clear hc3
                  have HN:=Lib.hid (HYES.out (by simp [t6]))
                  clear t1 t2 t3 t4 t5 t6
                  go_wp2_with fail
                  refine HC1.out.mono ?_
                  rintro e w9 ⟨rfl,rfl⟩
                  go_wp2_with fail
                  refine HC2.out.mono ?_
                  rintro e w9 ⟨rfl,rfl⟩
                  go_wp2_with fail
                  refine HC3.out.mono ?_
                  rintro e w5 ⟨rfl,hb5⟩
                  have HB5:=Lib.hid (HBW.out.trans (hb5.mono HBW.out.size))
                  clear hb5
                  clear x2 x3 x4 x6
                  go_wp2_with fail
                  go_ret
                  exact ⟨by rw [HN.out];rfl,HB5.out⟩
              · skip
                have hc1:=heavyTests_is x.attr X (HR1.out.new_ HB.out)
                rw [t4] at hc1
                have HC1:=Lib.hid hc1
                clear hc1
                have hc2:=heavyTests_is x.value X (HR2.out.new_ HB.out)
                rw [t5] at hc2
                have HC2:=Lib.hid hc2
                clear hc2
                have HN:=Lib.hid (HYES.out (by simp [heavyO,t5]))
                clear t1 t2 t3 t4 t5
                go_wp2_with fail
                refine HC1.out.mono ?_
                rintro e w9 ⟨rfl,rfl⟩
                go_wp2_with fail
                refine HC2.out.mono ?_
                rintro e w9 ⟨rfl,rfl⟩
                go_wp2_with fail
                go_ret
                exact ⟨by rw [HN.out];rfl,HBW.out⟩
            · skip
              have hc1:=heavyTests_is x.attr X (HR1.out.new_ HB.out)
              rw [t4] at hc1
              have HC1:=Lib.hid hc1
              clear hc1
              have HN:=Lib.hid (HYES.out (by simp [heavyO,t4]))
              clear t1 t2 t3 t4
              go_wp2_with fail
              refine HC1.out.mono ?_
              rintro e w9 ⟨rfl,rfl⟩
              go_wp2_with fail
              go_ret
              exact ⟨by rw [HN.out];rfl,HBW.out⟩
          · skip
            have s1:decide ((100:Int)<(x.id.size:Int))=false:=by simp at t1 ⊢;omega
            have s2:decide ((10:Int)<(x.attr.length:Int))=false:=by simp at t2 ⊢;omega
            have s3:decide ((10:Int)<(x.value.length:Int))=true:=by simp at t3 ⊢;omega
            have HN:=Lib.hid (HYES.out (by simp [heavyO,t3]))
            clear t1 t2 t3
            go_wp2_with fail
            go_ret
            exact ⟨by rw [HN.out];rfl,HBW.out⟩
        · skip
          have s1:decide ((100:Int)<(x.id.size:Int))=false:=by simp at t1 ⊢;omega
          have s2:decide ((10:Int)<(x.attr.length:Int))=true:=by simp at t2 ⊢;omega
          have HN:=Lib.hid (HYES.out (by simp [heavyO,t2]))
          clear t1 t2
          go_wp2_with fail
          go_ret
          exact ⟨by rw [HN.out];rfl,HBW.out⟩
      · skip
        have s1:decide ((100:Int)<(x.id.size:Int))=true:=by simp at t1 ⊢;omega
        have HN:=Lib.hid (HYES.out (by simp [heavyO,t1]))
        clear t1
        go_wp2_with fail
        go_ret
        exact ⟨by rw [HN.out];rfl,HBW.out⟩
    · have hie:i=l.length:=by omega
      subst hie
      have HN:=Lib.hid (show R=false by
       rw [HR.out,List.any_eq_false]
       intro x hx
       obtain ⟨k,hk,rfl⟩:=List.getElem_of_mem hx
       have:=HALL.out k hk hk
       simpa using this)
      go_wp2_with fail
      go_ret
      exact ⟨by rw [HN.out];rfl,HB0.out⟩
set_option maxRecDepth 100000 in
set_option maxHeartbeats 4000000 in
theorem heavy_is {D:Nat→Prop} (n:Nat) (p:ProdT) (A1 A2:Option Addr) (c1 c2:Nat) (w:World) (h1:RowR (repCondT n) D w A1 c1 p.conds) (h2:RowR repActT D w A2 c2 p.acts) :
 Calls Try.prog 7 #[.agg #[.string p.name,.slice A1 p.conds.length c1,.slice A2 p.acts.length c2]] w fun e w'=>e = .returned (.bool (heavyP n p))∧Below w.heap.size w w':=by
 have H1:=Lib.hid h1
 have hac:=h2.cap
 obtain ⟨R,hR⟩ : ∃R,R=heavyP n p:=⟨_,rfl⟩
 rw [← hR]
 have HR:=Lib.hid hR
 obtain ⟨s,hs⟩ : ∃s,s=sizeK 40 n 0 p.conds:=⟨_,rfl⟩
 unfold heavyP at hR
 rw [← hs] at hR
 have HV:=Lib.hid hR
 clear hR h1 h2
 go_enter Try.func7,Try.ntmps7
 go_upto_region 1 with fail
 obtain ⟨w1,hw1⟩ : ∃w1,w1=(w.alloc (.cells #[.string p.name,.slice A1 p.conds.length c1,.slice A2 p.acts.length c2] 25)):=⟨_,rfl⟩
 rw [← hw1]
 have HB:=Lib.hid (show Below w.heap.size w w1 by rw [hw1];exact (by repeat (first | exact Below.refl _ _ | refine Below.drew ?_ | refine Below.al ?_ _ | refine Below.sc ?_ _)))
 have Kp:=Lib.hid (show Blk w1 (w.heap.size) 25 #[.string p.name,.slice A1 p.conds.length c1,.slice A2 p.acts.length c2] by rw [hw1];exact (Blk.new w 25 #[.string p.name,.slice A1 p.conds.length c1,.slice A2 p.acts.length c2]))
 clear hw1
 obtain ⟨p0,p1,p2⟩:=Kp.out.c3
 have pz:=Kp.out.lt
 have hc1:Calls Try.prog 25 #[.slice A1 p.conds.length c1,.int .i64 40,.int .i64 0] w1 _:=size_is 40 (by decide) n D A1 c1 0 p.conds w1 (H1.out.new_ HB.out) (by decide)
 rw [← hs] at hc1
 have HC1:=Lib.hid hc1
 clear hc1 hs
 cases t1:decide (40<s)
 · skip
   cases t2:decide (40<p.acts.length)
   · skip
     cases t3:decide (100<p.name.size)
     · skip
       have s1:decide ((40:Int)<(s:Int))=false:=by simp at t1 ⊢;omega
       have s2:decide ((40:Int)<(p.acts.length:Int))=false:=by simp at t2 ⊢;omega
       have s3:decide ((100:Int)<(p.name.size:Int))=false:=by simp at t3 ⊢;omega
       have HN:=Lib.hid (show R=heavyC n p.conds by rw [HV.out,t1,t2,t3];simp)
       clear t1 t2 t3
       go_wp2_with fail
       with_reducible refine (HC1.out).mono ?_
       rintro e w0 ⟨rfl,rfl⟩
       go_wp2_with fail
       with_reducible refine (heavyConds_is n D A1 c1 p.conds _ (H1.out.new_ HB.out)).mono ?_
       rintro e w2 ⟨rfl,hb⟩
       have hbs:=Below.trans (show Below w1.heap.size w1 _ from (by (repeat (first | exact Below.refl _ _ | refine Below.drew ?_ | refine Below.al ?_ _ | refine Below.sc ?_ _)))) (hb.mono (by simp<;>omega))
       have Kp:=Lib.hid (Kp.out.new_ hbs)
       have HB:=Lib.hid (HB.out.trans (hbs.mono HB.out.size))
       have hsz2:=hbs.size
       clear p0 p1 p2 pz hb hbs
       obtain ⟨p0,p1,p2⟩:=Kp.out.c3
       have pz:=Kp.out.lt
       go_wp2_with fail
       go_ret
       exact ⟨by rw [HN.out];rfl,HB.out⟩
     · skip
       have s1:decide ((40:Int)<(s:Int))=false:=by simp at t1 ⊢;omega
       have s2:decide ((40:Int)<(p.acts.length:Int))=false:=by simp at t2 ⊢;omega
       have s3:decide ((100:Int)<(p.name.size:Int))=true:=by simp at t3 ⊢;omega
       have HN:=Lib.hid (show R=true by rw [HV.out,t1,t2,t3];simp)
       clear t1 t2 t3
       go_wp2_with fail
       with_reducible refine (HC1.out).mono ?_
       rintro e w0 ⟨rfl,rfl⟩
       go_wp2_with fail
       go_ret
       exact ⟨by rw [HN.out];rfl,HB.out⟩
   · skip
     have s1:decide ((40:Int)<(s:Int))=false:=by simp at t1 ⊢;omega
     have s2:decide ((40:Int)<(p.acts.length:Int))=true:=by simp at t2 ⊢;omega
     have HN:=Lib.hid (show R=true by rw [HV.out,t1,t2];simp)
     clear t1 t2
     go_wp2_with fail
     with_reducible refine (HC1.out).mono ?_
     rintro e w0 ⟨rfl,rfl⟩
     go_wp2_with fail
     go_ret
     exact ⟨by rw [HN.out];rfl,HB.out⟩
 · skip
   have s1:decide ((40:Int)<(s:Int))=true:=by simp at t1 ⊢;omega
   have HN:=Lib.hid (show R=true by rw [HV.out,t1];simp)
   clear t1
   go_wp2_with fail
   with_reducible refine (HC1.out).mono ?_
   rintro e w0 ⟨rfl,rfl⟩
   go_wp2_with fail
   go_ret
   exact ⟨by rw [HN.out];rfl,HB.out⟩
theorem heavyP_light {n:Nat} {p:ProdT} (h:heavyP n p=false):(∀{D:Nat→Prop} {w:World} {A:Option Addr} {c:Nat},RowR (repCondT n) D w A c p.conds→RowR (repCondT 20) D w A c p.conds)∧(∀m e,(flatC m e p.conds).length≤40)∧p.acts.length≤40∧p.name.size≤100:=by
 unfold heavyP at h
 simp only [Bool.or_eq_false_iff,decide_eq_false_iff_not] at h
 obtain ⟨h1,h2,h3,h4⟩:=h
 have h5:sizeK 40 n 0 p.conds≤40:=by omega
 exact ⟨fun g=>(sizeK_deep 40 n 0 p.conds h5).2 g,fun m e=>Nat.le_trans (sizeK_flat 40 n m 0 e p.conds h5) h5,by omega,by omega⟩
end Go.Proofs.Ytffemfglngikbaa
namespace Go.Proofs.Ytffemfglngikbaa
open Go.RowKit Go.Shelf
theorem sizeK_zero {d:Nat} {l:List CondT} (h:sizeK 40 0 d l≤40):l = []:=by
 rw [sizeK] at h
 by_cases h1:20<d
 · rw [if_pos h1] at h;omega
 · rw [if_neg h1] at h
   by_cases h2:l = []
   · exact h2
   · rw [if_neg h2] at h;omega
theorem sizeK_go {n d:Nat} {l:List CondT} (h:sizeK 40 (n+1) d l≤40):sizeK 40 (n+1) d l=(l.map fun c=>1+sizeK 40 n (d+1) c.conds).sum∧∀c∈l,sizeK 40 n (d+1) c.conds≤40:=by
 rw [sizeK] at h ⊢
 by_cases h1:20<d
 · rw [if_pos h1] at h;omega
 · rw [if_neg h1] at h ⊢
   obtain ⟨g1,g2⟩:=goK_all 40 (fun c=>sizeK 40 n (d+1) c.conds) l 0 (by omega)
   exact ⟨by omega,g2⟩
theorem len_sum (f:CondT→Nat) : ∀l:List CondT,l.length≤(l.map fun c=>1+f c).sum
 | []=>by simp
 | c :: l=>by have:=len_sum f l;rw [List.map_cons,List.sum_cons,List.length_cons];omega
theorem sizeK_len : ∀(n d:Nat) (l:List CondT),sizeK 40 n d l≤40→l.length≤40
 | 0,d,l,h=>by rw [sizeK_zero h];simp
 | n+1,d,l,h=>by
   obtain ⟨g1,_⟩:=sizeK_go h
   have:=len_sum (fun c=>sizeK 40 n (d+1) c.conds) l
   omega
theorem heavy_in {n:Nat} {l:List CondT} (h:heavyC (n+1) l=false) {c:CondT} (hc:c∈l):heavyO c=false∧heavyC n c.conds=false:=by
 have h2:=List.any_eq_false.1 (show (l.any fun c=>heavyO c || heavyC n c.conds)=false from h) c hc
 simp only [Bool.or_eq_true,not_or,Bool.not_eq_true] at h2
 exact h2
theorem heavyT_sm {l:List TestT} (h1:l.length≤10) (h2:l.any heavyT=false):SmT l:=by
 refine ⟨by omega,fun t ht=>?_⟩
 have h3:=List.any_eq_false.1 h2 t ht
 unfold heavyT at h3
 simp only [Bool.or_eq_true,decide_eq_true_eq,not_or] at h3
 omega
theorem heavyO_sm {c:CondT} (h:heavyO c=false):c.id.size≤100∧c.attr.length≤10∧c.value.length≤10∧SmT c.attr∧SmT c.value∧c.attr.any heavyT=false∧c.value.any heavyT=false:=by
 unfold heavyO at h
 simp only [Bool.or_eq_false_iff,decide_eq_false_iff_not] at h
 obtain ⟨h1,h2,h3,h4,h5⟩:=h
 exact ⟨by omega,by omega,by omega,heavyT_sm (by omega) h4,heavyT_sm (by omega) h5,h4,h5⟩
theorem smc_of40 : ∀(n d m:Nat) (l:List CondT),sizeK 40 n d l≤40→heavyC n l=false→∀c∈l,SmC m c
 | 0,d,m,l,h1,_,c,hc=>by rw [sizeK_zero h1] at hc;cases hc
 | n+1,d,0,l,_,_,c,hc=>trivial
 | n+1,d,m+1,l,h1,h2,c,hc=>by
   obtain ⟨g1,g2⟩:=sizeK_go h1
   obtain ⟨k1,k2⟩:=heavy_in h2 hc
   obtain ⟨-,-,-,s1,s2,-,-⟩:=heavyO_sm k1
   have:=sizeK_len n (d+1) c.conds (g2 c hc)
   exact ⟨s1,s2,by omega,smc_of40 n (d+1) m c.conds (g2 c hc) k2⟩
theorem flat_sum40 {β:Type} (f:CondT→List β) (g:CondT→Nat) (k:Nat) : ∀l:List CondT,(∀c∈l,(f c).length≤k*g c)→(l.flatMap f).length≤k*(l.map g).sum
 | [],_=>by simp
 | c :: l,h=>by
   have h1:=h c (by simp)
   have h2:=flat_sum40 f g k l (fun x hx=>h x (by simp [hx]))
   rw [List.flatMap_cons,List.length_append,List.map_cons,List.sum_cons,Nat.mul_add]
   omega
theorem names_len40 : ∀(n d m:Nat) (l:List CondT),sizeK 40 n d l≤40→heavyC n l=false→(l.flatMap (namesN m)).length≤21*sizeK 40 n d l
 | 0,d,m,l,h1,_=>by rw [sizeK_zero h1];simp
 | n+1,d,0,l,_,_=>by
   have:l.flatMap (namesN 0) = []:=by
    rw [List.flatMap_eq_nil_iff]
    intro x _
    rfl
   rw [this];simp
 | n+1,d,m+1,l,h1,h2=>by
   obtain ⟨g1,g2⟩:=sizeK_go h1
   rw [g1]
   refine flat_sum40 (namesN (m+1)) (fun c:CondT=>1+sizeK 40 n (d+1) c.conds) 21 l (fun c hc=>?_)
   obtain ⟨k1,k2⟩:=heavy_in h2 hc
   obtain ⟨-,s1,s2,-⟩:=heavyO_sm k1
   have h5:=names_len40 n (d+1) m c.conds (g2 c hc) k2
   have k1:=varsT_len c.attr
   have k2:=varsT_len c.value
   have k3:=oneN_len c.id
   rw [namesN,List.length_append,List.length_append,List.length_append]
   omega
theorem varsA_len (a:ActT):(varsA a).length≤5:=by
 have h1:=oneN_len a.id
 have h2:=oneN_len a.attr.var
 have h3:=oneN_len a.value.a.var
 have h4:=oneN_len a.value.b.var
 have h5:=oneN_len a.other.var
 simp only [varsA,fives,List.flatMap_cons,List.flatMap_nil,List.length_append,List.length_nil]
 omega
theorem varsAs_len : ∀l:List ActT,(l.flatMap varsA).length≤5*l.length
 | []=>by simp
 | a :: l=>by have h1:=varsA_len a;have h2:=varsAs_len l;rw [List.flatMap_cons,List.length_append,List.length_cons];omega
theorem heavyP_no {n:Nat} {p:ProdT} (h:heavyP n p=false):sizeK 40 n 0 p.conds≤40∧p.acts.length≤40∧p.name.size≤100∧heavyC n p.conds=false:=by
 unfold heavyP at h
 simp only [Bool.or_eq_false_iff,decide_eq_false_iff_not] at h
 obtain ⟨h1,h2,h3,h4⟩:=h
 exact ⟨by omega,by omega,by omega,h4⟩
theorem vars_len40 {n:Nat} {p:ProdT} (h:heavyP n p=false) (m:Nat):(varsP m p).length≤1100:=by
 obtain ⟨h1,h2,_,h4⟩:=heavyP_no h
 have g1:=names_len40 n 0 m p.conds h1 h4
 have g2:=varsAs_len p.acts
 unfold varsP
 rw [List.length_append]
 omega
theorem fit_of {n:Nat} {p:ProdT} (h:heavyP n p=false) {D:Nat→Prop} {w:World} {A:Option Addr} {c:Nat} (hr:RowR (repCondT n) D w A c p.conds):RowR (repCondT 20) D w A c p.conds∧Fit 20 p:=by
 obtain ⟨h1,h2,_,h4⟩:=heavyP_no h
 have hr20:=(heavyP_light h).1 hr
 exact ⟨hr20,⟨by have:=sizeK_len n 0 p.conds h1;omega,by omega,smc_of40 n 0 20 p.conds h1 h4,by have:=vars_len40 h 20;omega,by have:=(heavyP_light h).2.1 20 0;omega,by omega,row_dp 20 hr20⟩⟩
end Go.Proofs.Ytffemfglngikbaa
namespace Go.Proofs.Ytffemfglngikbaa
open Go.RowKit Go.Shelf
theorem rnames_is : ∀n:Nat,RNSpec n
 | 0=>rnames_step 0 (fun m h=>by omega)
 | n+1=>rnames_step (n+1) (fun m h=>by obtain rfl:n=m:=by omega
                                       exact rnames_is n)
theorem ones_len : ∀l:List ByteArray,(l.flatMap oneN).length≤l.length
 | []=>by simp
 | v :: l=>by have h1:=oneN_len v;have h2:=ones_len l;rw [List.flatMap_cons,List.length_append,List.length_cons];omega
structure RV (X:World) (p:ProdT) (A1:Option Addr) (c1:Nat) (A2:Option Addr) (c2:Nat) (out:List ByteArray) (A:Option Addr) (cp:Nat) (w:World):Prop where
 own:w.ownsRow 0 9 1 (.slice A out.length cp) out.length (out.flatMap strC)
 ain:AIn A (X.heap.size≤·)
 blk:Blk w X.heap.size 25 #[.string p.name,.slice A1 p.conds.length c1,.slice A2 p.acts.length c2]
 bel:Below X.heap.size X w
section
variable {X w w':World} {p:ProdT} {A1 A2 A:Option Addr} {c1 c2 cp:Nat} {out ys:List ByteArray}
theorem RV.new_ (h:RV X p A1 c1 A2 c2 out A cp w) (hb:Below w.heap.size w w'):RV X p A1 c1 A2 c2 out A cp w':=⟨ownsRow_new h.own hb,h.ain,h.blk.new_ hb,h.bel.trans (hb.mono h.bel.size)⟩
theorem RV.app {v:Value} (h:RV X p A1 c1 A2 c2 out A cp w) (hown:w'.ownsRow 0 9 1 v (out.length+ys.length) (out.flatMap strC++ys.flatMap strC)) (hg:w.grownBy w' (Value.slice A out.length cp).ownBlock) (hat:v.ownBlock=(Value.slice A out.length cp).ownBlock∨v.ownBlock=some w.heap.size) :
 ∃A' c',v = .slice A' (out++ys).length c'∧RV X p A1 c1 A2 c2 (out++ys) A' c' w'∧Fr (fun k=>(Value.slice A out.length cp).ownBlock=some k) w w'∧(∀g,g<w.heap.size→AIn A (·≠g)→AIn A' (·≠g)):=by
 obtain ⟨A',c',rfl,h1,h2,h3,h4⟩:=grown_str hown hg hat h.ain h.bel.size
 refine ⟨A',c',rfl,⟨h1,h2,h.blk.fr h4 (fun e=>own_blk_ne h.own h.blk (by decide) e),h.bel.trans h3⟩,h4,fun g hg2 hA a ha=>?_⟩
 subst ha
 rcases hat with e | e
 · cases A with
   | none=>cases e
   | some a0=>
     simp only [Value.ownBlock,Option.some.injEq] at e
     rw [e];exact hA a0 rfl
 · simp only [Value.ownBlock,Option.some.injEq] at e
   omega
theorem RV.far (h:RV X p A1 c1 A2 c2 out A cp w) {g:Nat} (hg:w.heap.size≤g):AIn A (·≠g):=fun a ha=>by
 rcases h.own.2 with ⟨e,_⟩ | ⟨k,cap,cur,e,_,hk,_⟩
 · injection e with e1;rw [e1] at ha;cases ha
 · injection e with e1;rw [e1] at ha
   injection ha with ha
   subst ha
   have:=(Array.getElem?_eq_some_iff.1 hk).1
   show k≠g
   omega
end
set_option maxRecDepth 100000 in
set_option maxHeartbeats 16000000 in
theorem rvars_is (n:Nat) (p:ProdT) (A1:Option Addr) (c1:Nat) (A2:Option Addr) (c2:Nat) (D:Nat→Prop) (X:World) (h1:RowR (repCondT n) D X A1 c1 p.conds) (h2:RowR repActT D X A2 c2 p.acts) (hs : ∀x∈p.conds,SmC n x) (hal:p.acts.length≤1000) (hlen:(varsP n p).length≤100000) :
 Calls Try.prog 9 #[.agg #[.string p.name,.slice A1 p.conds.length c1,.slice A2 p.acts.length c2]] X (StrsTo X (varsP n p)):=by
 obtain ⟨i0,hi0,hz0,hz1,hz2⟩:=info_parts info_Str
 have HS:=Lib.hid hs
 have HAL:=Lib.hid hal
 have HLEN:=Lib.hid hlen
 have H1:=Lib.hid h1
 have H2:=Lib.hid h2
 have hac1:=h1.cap
 have hac2:=h2.cap
 clear hs hal hlen h1 h2
 go_enter Try.func9,Try.ntmps9
 go_upto_region 1 with fail
 obtain ⟨W1,hW1⟩ : ∃W1,W1=X.alloc (.cells #[.string p.name,.slice A1 p.conds.length c1,.slice A2 p.acts.length c2] 25):=⟨_,rfl⟩
 have hb1:Below X.heap.size X W1:=by rw [hW1];exact (Below.refl _ _).alloc (Nat.le_refl _) _
 have HN1:=Lib.hid (show RV X p A1 c1 A2 c2 [] none 0 W1 from ⟨owns_nilC _ _ _,AIn.none_ _,by rw [hW1];exact Blk.new _ _ _,hb1⟩)
 rw [← hW1]
 clear hW1 hb1
 go_wp2_with fail
 go_loopw [3,4] (fun v s wr=>∃(i:Nat) (out:List ByteArray) (A:Option Addr) (cp:Nat),s = .int .i64 i∧v = .slice A out.length cp∧i≤p.conds.length∧out=(p.conds.take i).flatMap (namesN n)∧RV X p A1 c1 A2 c2 out A cp wr) (fun v s wr=>p.conds.length - (intOf s).toNat)
 case atStart=>exact ⟨0,[],none,0,rfl,rfl,Nat.zero_le _,by simp,HN1.out⟩
 case round=>
  clear HN1
  obtain ⟨i,out,A,cp,rfl,rfl,hi,hout,hn⟩:=hrel
  have HNR:=Lib.hid hn
  have HOUT:=Lib.hid hout
  obtain ⟨q0,q1,q2⟩:=hn.blk.c3
  have qz:=hn.blk.lt
  clear hn hout
  by_cases hlt:i<p.conds.length
  · obtain ⟨m,hnm⟩ : ∃m,n=m+1:=by
     cases n with
     | zero=>have:=row_zero H1.out;rw [this] at hlt;simp at hlt
     | succ m=>exact ⟨m,rfl⟩
    subst hnm
    obtain ⟨y,hy⟩ : ∃y,y=p.conds[i]:=⟨_,rfl⟩
    have hcr:=H1.out.new_ HNR.out.bel
    obtain ⟨gt,ot,B1,b1_,B2,b2_,B3,b3_,hA,_,hgt,p0,p1,p2,p3,p4,p5,p6,r1,r2,r3⟩:=at_CondT hcr hlt
    subst hA
    rw [← hy] at p0 p1 p2 p3 p4 p5 p6 r1 r2 r3
    have htk:(p.conds.take (i+1)).flatMap (namesN (m+1))=(p.conds.take i).flatMap (namesN (m+1))++namesN (m+1) y:=by rw [← take_snoc hlt,List.flatMap_append,hy];simp
    have htot:(out++namesN (m+1) y).length≤(varsP (m+1) p).length:=by
     have e:varsP (m+1) p=out++namesN (m+1) y++((p.conds.drop (i+1)).flatMap (namesN (m+1))++p.acts.flatMap varsA):=by
      rw [HOUT.out,← htk,← List.append_assoc,← List.flatMap_append,List.take_append_drop,varsP]
     rw [e];simp only [List.length_append];omega
    rw [List.length_append] at htot
    have hl9:=HLEN.out
    have hcall:=rnames_is m y B1 b1_ B2 b2_ B3 b3_ D wr (HS.out y (by rw [hy];exact List.getElem_mem hlt)) (by omega) r1 r2 r3
    obtain ⟨ns,hns⟩ : ∃ns,ns=namesN (m+1) y:=⟨_,rfl⟩
    rw [← hns] at hcall htk htot
    have HCALL:=Lib.hid hcall
    have HTK:=Lib.hid htk
    have ho1:out.length≤100000:=by omega
    have ho2:ns.length≤100000:=by omega
    have j1:(0:Int)≤(i:Int):=by omega
    have j2:(i:Int)<(p.conds.length:Int):=by omega
    clear hy hcr r1 r2 r3 htk htot hcall hns hl9
    go_wp2_with fail
    refine HCALL.out.mono ?_
    rintro e w8 ⟨A8,c8,rfl,ho8,hA8,hb8⟩
    have HO8:=Lib.hid (show RowRd w8 1 strC A8 c8 ns from ownsRow_rd strC_len ho8)
    have HN8:=Lib.hid (HNR.out.new_ hb8)
    clear ho8 hA8 hb8 p0 p1 p2 p3 p4 p5 p6 q0 q1 q2 qz
    go_wp2_with (at_builtin;refine wpList_append_src w8 rfl (.tmp 16) (.tmp 22) 28 rfl 9 i0 _ 1 16 Try.underlying28 hi0 hz0 hz1 hz2 rfl (by decide) (.slice A out.length cp) out.length (out.flatMap strC) rfl HN8.out.own A8 ns.length c8 (ns.flatMap strC) rfl (flat_length strC_len _) (HO8.out.news strC_len (by decide)) (str_one _) (by unfold maxLen;omega) (by omega) ?_;intro v1 w9 hown1 hg1 hnil1 hat1;obtain ⟨A9,c9,rfl,hn9,hf9,_⟩:=HN8.out.app hown1 hg1 hat1;have HN10:=Lib.hid hn9;clear hown1 hg1 hnil1 hat1 hn9 hf9)
    go_roundw
    case rel=>exact ⟨i+1,out++ns,A9,c9,by go_num,by simp,by omega,by rw [HTK.out,HOUT.out],HN10.out⟩
    case measure=>simp [intOf]<;>omega
  · obtain rfl:i=p.conds.length:=by omega
    have HOC:=Lib.hid (show out=p.conds.flatMap (namesN n)++((p.acts.take 0).flatMap varsA) by rw [HOUT.out,List.take_length];simp)
    have HCL:=Lib.hid (show (p.conds.flatMap (namesN n)).length≤100000 by have:=HLEN.out;unfold varsP at this;rw [List.length_append] at this;omega)
    obtain ⟨C,hC⟩ : ∃C,C=p.conds.flatMap (namesN n):=⟨_,rfl⟩
    have HVP:=Lib.hid (show varsP n p=C++p.acts.flatMap varsA by rw [hC];rfl)
    rw [← hC] at HOC HCL
    clear HOUT hC
    go_wp2_with fail
    go_loopw [3,5] (fun v s wr=>∃(i:Nat) (out:List ByteArray) (A:Option Addr) (cp:Nat),s = .int .i64 i∧v = .slice A out.length cp∧i≤p.acts.length∧out=C++((p.acts.take i).flatMap varsA)∧RV X p A1 c1 A2 c2 out A cp wr) (fun v s wr=>p.acts.length - (intOf s).toNat)
    case atStart=>exact ⟨0,out,A,cp,rfl,rfl,Nat.zero_le _,HOC.out,HNR.out⟩
    case round=>
     clear HOC HNR q0 q1 q2 qz
     obtain ⟨i,out,A,cp,rfl,rfl,hi,hout,hn⟩:=hrel
     have HNR:=Lib.hid hn
     have HBW:=Lib.hid hn.bel
     have HOUT:=Lib.hid hout
     obtain ⟨q0,q1,q2⟩:=hn.blk.c3
     have qz:=hn.blk.lt
     clear hn hout
     by_cases hlt:i<p.acts.length
     · skip
       obtain ⟨y,hy⟩ : ∃y,y=p.acts[i]:=⟨_,rfl⟩
       obtain ⟨g,off,hAA,_,hg,_⟩:=at_ActT (H2.out.new_ HBW.out) hlt
       subst hAA
       have HY:=Lib.hid hy
       have b1:(0:Int)≤(i:Int):=by omega
       have b2:(i:Int)<(p.acts.length:Int):=by omega
       have HRG:=Lib.hid (show wr.rangeAt g (off+i*19) [.string y.id,.string y.attr.var,.int .i64 y.attr.sym.kind,.string y.attr.sym.text,.int .i64 y.attr.sym.n,.int .i64 y.value.op,.string y.value.a.var,.int .i64 y.value.a.sym.kind,.string y.value.a.sym.text,.int .i64 y.value.a.sym.n,.string y.value.b.var,.int .i64 y.value.b.sym.kind,.string y.value.b.sym.text,.int .i64 y.value.b.sym.n,.int .i64 y.pref,.string y.other.var,.int .i64 y.other.sym.kind,.string y.other.sym.text,.int .i64 y.other.sym.n] from fun j v hv=>by
        obtain ⟨g',off',cs,e1,_,_,hr,hc⟩:=(H2.out.new_ HBW.out).at_ hlt
        cases e1
        have hr2:cs=ActT.cells p.acts[i]:=hr
        subst hr2
        rw [← HY.out] at hc
        exact hc j v hv)
       have HTH:=Lib.hid (show (wr.alloc (.cells #[.string ⟨#[]⟩,.string ⟨#[]⟩,.int .i64 0,.string ⟨#[]⟩,.int .i64 0,.int .i64 0,.string ⟨#[]⟩,.int .i64 0,.string ⟨#[]⟩,.int .i64 0,.string ⟨#[]⟩,.int .i64 0,.string ⟨#[]⟩,.int .i64 0,.int .i64 0,.string ⟨#[]⟩,.int .i64 0,.string ⟨#[]⟩,.int .i64 0] 58)).there wr.heap.size 0 (#[.string y.id,.string y.attr.var,.int .i64 y.attr.sym.kind,.string y.attr.sym.text,.int .i64 y.attr.sym.n,.int .i64 y.value.op,.string y.value.a.var,.int .i64 y.value.a.sym.kind,.string y.value.a.sym.text,.int .i64 y.value.a.sym.n,.string y.value.b.var,.int .i64 y.value.b.sym.kind,.string y.value.b.sym.text,.int .i64 y.value.b.sym.n,.int .i64 y.pref,.string y.other.var,.int .i64 y.other.sym.kind,.string y.other.sym.text,.int .i64 y.other.sym.n]:Array Value).size from (Blk.new wr 58 #[.string ⟨#[]⟩,.string ⟨#[]⟩,.int .i64 0,.string ⟨#[]⟩,.int .i64 0,.int .i64 0,.string ⟨#[]⟩,.int .i64 0,.string ⟨#[]⟩,.int .i64 0,.string ⟨#[]⟩,.int .i64 0,.string ⟨#[]⟩,.int .i64 0,.int .i64 0,.string ⟨#[]⟩,.int .i64 0,.string ⟨#[]⟩,.int .i64 0]).there)
       obtain ⟨W5,hW5⟩ : ∃W5,W5=(wr.alloc (.cells #[.string ⟨#[]⟩,.string ⟨#[]⟩,.int .i64 0,.string ⟨#[]⟩,.int .i64 0,.int .i64 0,.string ⟨#[]⟩,.int .i64 0,.string ⟨#[]⟩,.int .i64 0,.string ⟨#[]⟩,.int .i64 0,.string ⟨#[]⟩,.int .i64 0,.int .i64 0,.string ⟨#[]⟩,.int .i64 0,.string ⟨#[]⟩,.int .i64 0] 58)).setCells wr.heap.size 0 [.string y.id,.string y.attr.var,.int .i64 y.attr.sym.kind,.string y.attr.sym.text,.int .i64 y.attr.sym.n,.int .i64 y.value.op,.string y.value.a.var,.int .i64 y.value.a.sym.kind,.string y.value.a.sym.text,.int .i64 y.value.a.sym.n,.string y.value.b.var,.int .i64 y.value.b.sym.kind,.string y.value.b.sym.text,.int .i64 y.value.b.sym.n,.int .i64 y.pref,.string y.other.var,.int .i64 y.other.sym.kind,.string y.other.sym.text,.int .i64 y.other.sym.n]:=⟨_,rfl⟩
       have HW5:=Lib.hid hW5
       have HRG5:=Lib.hid (show W5.rangeAt wr.heap.size 0 [.string y.id,.string y.attr.var,.int .i64 y.attr.sym.kind,.string y.attr.sym.text,.int .i64 y.attr.sym.n,.int .i64 y.value.op,.string y.value.a.var,.int .i64 y.value.a.sym.kind,.string y.value.a.sym.text,.int .i64 y.value.a.sym.n,.string y.value.b.var,.int .i64 y.value.b.sym.kind,.string y.value.b.sym.text,.int .i64 y.value.b.sym.n,.int .i64 y.pref,.string y.other.var,.int .i64 y.other.sym.kind,.string y.other.sym.text,.int .i64 y.other.sym.n] by rw [hW5];exact World.rangeAt_setCells_same _ _ _ _ HTH.out)
       have HB5:=Lib.hid (show Below wr.heap.size wr W5 by rw [hW5];exact Below.setCells' _ _ ((Below.refl _ _).alloc (Nat.le_refl _) _) (Nat.le_refl _))
       have HTK:=Lib.hid (show (p.acts.take (i+1)).flatMap varsA=(p.acts.take i).flatMap varsA++(fives y).flatMap oneN by rw [← take_snoc hlt,List.flatMap_append,← hy];simp [varsA])
       have HOL:=Lib.hid (show out.length≤105000 by
        have h1:=varsAs_len (p.acts.take i)
        have h2:=HCL.out
        have h3:=HAL.out
        have h4:(p.acts.take i).length≤p.acts.length:=by rw [List.length_take];omega
        rw [HOUT.out,List.length_append];omega)
       have HN5:=Lib.hid (HNR.out.new_ HB5.out)
       have k0:W5.cell? ⟨wr.heap.size,0,none⟩=some (.string y.id):=by have:=HRG5.out 0 _ rfl;simpa using this
       have k1:W5.cell? ⟨wr.heap.size,1,none⟩=some (.string y.attr.var):=by have:=HRG5.out 1 _ rfl;simpa using this
       have k6:W5.cell? ⟨wr.heap.size,6,none⟩=some (.string y.value.a.var):=by have:=HRG5.out 6 _ rfl;simpa using this
       have k10:W5.cell? ⟨wr.heap.size,10,none⟩=some (.string y.value.b.var):=by have:=HRG5.out 10 _ rfl;simpa using this
       have k15:W5.cell? ⟨wr.heap.size,15,none⟩=some (.string y.other.var):=by have:=HRG5.out 15 _ rfl;simpa using this
       clear hy hW5
       go_upto_region 11 with (first
        | (with_reducible refine wpList_load_mid rfl 58 _ rfl g (off+i*19) rfl [.string y.id,.string y.attr.var,.int .i64 y.attr.sym.kind,.string y.attr.sym.text,.int .i64 y.attr.sym.n,.int .i64 y.value.op,.string y.value.a.var,.int .i64 y.value.a.sym.kind,.string y.value.a.sym.text,.int .i64 y.value.a.sym.n,.string y.value.b.var,.int .i64 y.value.b.sym.kind,.string y.value.b.sym.text,.int .i64 y.value.b.sym.n,.int .i64 y.pref,.string y.other.var,.int .i64 y.other.sym.kind,.string y.other.sym.text,.int .i64 y.other.sym.n] _ HRG.out Try.underlying58 rfl (by kernel_rfl) ?_)
        | ((with_reducible refine wpList_store_mid rfl 58 _ _ rfl wr.heap.size 0 #[.string y.id,.string y.attr.var,.int .i64 y.attr.sym.kind,.string y.attr.sym.text,.int .i64 y.attr.sym.n,.int .i64 y.value.op,.string y.value.a.var,.int .i64 y.value.a.sym.kind,.string y.value.a.sym.text,.int .i64 y.value.a.sym.n,.string y.value.b.var,.int .i64 y.value.b.sym.kind,.string y.value.b.sym.text,.int .i64 y.value.b.sym.n,.int .i64 y.pref,.string y.other.var,.int .i64 y.other.sym.kind,.string y.other.sym.text,.int .i64 y.other.sym.n] rfl rfl HTH.out (by kernel_rfl) (by kernel_rfl) ?_);rw [← HW5.out])
        | (with_reducible refine wpList_load_mid rfl 58 _ rfl wr.heap.size 0 rfl [.string y.id,.string y.attr.var,.int .i64 y.attr.sym.kind,.string y.attr.sym.text,.int .i64 y.attr.sym.n,.int .i64 y.value.op,.string y.value.a.var,.int .i64 y.value.a.sym.kind,.string y.value.a.sym.text,.int .i64 y.value.a.sym.n,.string y.value.b.var,.int .i64 y.value.b.sym.kind,.string y.value.b.sym.text,.int .i64 y.value.b.sym.n,.int .i64 y.pref,.string y.other.var,.int .i64 y.other.sym.kind,.string y.other.sym.text,.int .i64 y.other.sym.n] _ HRG5.out Try.underlying58 rfl (by kernel_rfl) ?_))
       obtain ⟨W6,hW6⟩ : ∃W,W=W5.alloc (.cells #[.string y.id,.string y.attr.var,.string y.value.a.var,.string y.value.b.var,.string y.other.var] 9):=⟨_,rfl⟩
       have hb6:Below W5.heap.size W5 W6:=by rw [hW6];exact (Below.refl _ _).alloc (Nat.le_refl _) _
       have HL6:=Lib.hid (show Blk W6 W5.heap.size 9 #[.string y.id,.string y.attr.var,.string y.value.a.var,.string y.value.b.var,.string y.other.var] by rw [hW6];exact Blk.new _ _ _)
       have HN6:=Lib.hid (HN5.out.new_ hb6)
       have HF6:=Lib.hid (HN5.out.far (Nat.le_refl _))
       rw [← hW6]
       clear hW6 hb6 k0 k1 k6 k10 k15 q0 q1 q2 qz b1 b2
       obtain ⟨gl,hgl⟩ : ∃g,g=W5.heap.size:=⟨_,rfl⟩
       rw [← hgl] at HL6 HF6 ⊢
       clear hgl
       go_wp2_with fail
       go_loopw [3,8] (fun v s wr=>∃(k:Nat) (out:List ByteArray) (A:Option Addr) (cp:Nat),s = .int .i64 k∧v = .slice A out.length cp∧k≤5∧out=C++((p.acts.take i).flatMap varsA)++((fives y).take k).flatMap oneN∧RV X p A1 c1 (some ⟨g,off,none⟩) c2 out A cp wr∧Blk wr gl 9 #[.string y.id,.string y.attr.var,.string y.value.a.var,.string y.value.b.var,.string y.other.var]∧AIn A (·≠gl)) (fun v s wr=>5 - (intOf s).toNat)
       case atStart=>exact ⟨0,out,A,cp,rfl,rfl,Nat.zero_le _,by rw [HOUT.out];simp,HN6.out,HL6.out,HF6.out⟩
       case round=>
        clear HN6 HL6 HF6 HN5 HNR
        have HOL0:=HOL
        have HOUT0:=HOUT
        clear HOL HOUT
        obtain ⟨k,out2,A6,cp6,rfl,rfl,hk,hout2,hn,hl,hf⟩:=hrel
        have HNR:=Lib.hid hn
        have HOUT:=Lib.hid hout2
        have HLR:=Lib.hid hl
        have HFR:=Lib.hid hf
        clear hn hout2 hl hf
        by_cases hk5:k<5
        · obtain ⟨v,hv⟩ : ∃v,v=(fives y)[k]'hk5:=⟨_,rfl⟩
          have lc:wr.cell? ⟨gl,k,none⟩=some (.string v):=by
           refine (HLR.out.cell k).trans ?_
           rw [hv]
           rcases (show k=0∨k=1∨k=2∨k=3∨k=4 by omega) with e | e | e | e | e<;>(subst e;rfl)
          have lz:=HLR.out.lt
          have HVT:=Lib.hid (show ((fives y).take (k+1)).flatMap oneN=((fives y).take k).flatMap oneN++oneN v by rw [← take_snoc (l:=fives y) hk5,List.flatMap_append,hv];simp)
          have hol:out2.length≤105005:=by
           have h1:=ones_len ((fives y).take k)
           have h2:((fives y).take k).length≤5:=by rw [List.length_take];omega
           have h3:=HOL0.out
           rw [HOUT0.out,List.length_append] at h3
           rw [HOUT.out,List.length_append,List.length_append];omega
          have j1:(0:Int)≤(k:Int):=by omega
          have j2:(k:Int)<5:=by omega
          clear hv
          by_cases hve:v.toList = []
          · have va:(v.toList == [])=true:=by simp [hve]
            have vb:v.toList.isEmpty=true:=by simp [hve]
            have vc:decide (v.toList = [])=true:=by simp [hve]
            have HON:=Lib.hid (show out2=C++((p.acts.take i).flatMap varsA)++((fives y).take (k+1)).flatMap oneN by rw [HVT.out,oneN_no hve,List.append_nil];exact HOUT.out)
            clear hve
            go_wp2_with fail
            go_roundw
            case rel=>exact ⟨k+1,out2,A6,cp6,by go_num,rfl,by omega,HON.out,HNR.out,HLR.out,HFR.out⟩
            case measure=>simp [intOf]<;>omega
          · have va:(v.toList == [])=false:=by simp [hve]
            have vb:v.toList.isEmpty=false:=by simp [hve]
            have vc:decide (v.toList = [])=false:=by simp [hve]
            have HON:=Lib.hid (show out2 ++ [v]=C++((p.acts.take i).flatMap varsA)++((fives y).take (k+1)).flatMap oneN by rw [HVT.out,oneN_yes hve,HOUT.out];simp)
            clear hve
            obtain ⟨Y9,hY9⟩ : ∃Y9,Y9=wr.alloc (.cells #[.string v] 9):=⟨_,rfl⟩
            have hb9:Below wr.heap.size wr Y9:=by rw [hY9];exact (Below.refl _ _).alloc (Nat.le_refl _) _
            have HY9:=Lib.hid hY9
            have HN9:=Lib.hid (HNR.out.new_ hb9)
            have HL9:=Lib.hid (HLR.out.new_ hb9)
            have HW9:=Lib.hid (show 0<1→∃ad,(some (⟨wr.heap.size,0,none⟩:Addr))=some ad∧∀j u,([v].flatMap strC)[j]? = some u→Y9.cell? (ad.add j)=some u from fun _=>⟨_,rfl,by rw [hY9];exact World.news_of_block (heap_alloc_new _ _)⟩)
            clear hY9 hb9
            go_wp2_with (at_builtin;rw [← HY9.out];refine wpList_append_src Y9 rfl (.tmp 64) (.tmp 69) 28 rfl 9 i0 _ 1 16 Try.underlying28 hi0 hz0 hz1 hz2 rfl (by decide) (.slice A6 out2.length cp6) out2.length (out2.flatMap strC) rfl HN9.out.own (some ⟨wr.heap.size,0,none⟩) 1 1 ([v].flatMap strC) rfl rfl HW9.out (str_one _) (by unfold maxLen;omega) (by omega) ?_;intro v1 w9 hown1 hg1 hnil1 hat1;obtain ⟨A9,c9,rfl,hn9,hf9,ha9⟩:=HN9.out.app (ys:=[v]) hown1 hg1 hat1;have HN10:=Lib.hid hn9;have HL10:=Lib.hid (HL9.out.fr hf9 (fun e=>by
             cases A6 with
             | none=>cases e
             | some a0=>simp only [Value.ownBlock,Option.some.injEq] at e;exact HFR.out a0 rfl e));have HF10:=Lib.hid (ha9 gl HL9.out.lt HFR.out);clear hown1 hg1 hnil1 hat1 hn9 hf9 ha9)
            go_roundw
            case rel=>exact ⟨k+1,out2 ++ [v],A9,c9,by go_num,by simp,by omega,HON.out,HN10.out,HL10.out,HF10.out⟩
            case measure=>simp [intOf]<;>omega
        · obtain rfl:k=5:=by omega
          have HOE:=Lib.hid (show out2=C++((p.acts.take (i+1)).flatMap varsA) by rw [HTK.out,HOUT.out,List.append_assoc];rfl)
          go_wp2_with fail
          go_roundw
          case rel=>exact ⟨i+1,out2,A6,cp6,by go_num,rfl,by omega,HOE.out,HNR.out⟩
          case measure=>simp [intOf]<;>omega
     · obtain rfl:i=p.acts.length:=by omega
       have HEN:=Lib.hid (show varsP n p=out by rw [HOUT.out,List.take_length,HVP.out])
       go_wp2_with fail
       go_ret
       rw [HEN.out]
       exact ⟨A,cp,rfl,HNR.out.own,HNR.out.ain,HNR.out.bel⟩
end Go.Proofs.Ytffemfglngikbaa
