/-
  Texts put together: ShowSz, Canon8, Canon9.
-/
import Derived.Test.YtffemfglngikbaaGreatDg
import Derived.Test.YtffemfglngikbaaGreatDf
import Derived.Test.YtffemfglngikbaaGreatDi
import Derived.Maps.RangeWalk
namespace Go.Proofs.YtffemfglngikbaaGreat
theorem numB_le (n:Int) (h1 : -2147483647≤n) (h2:n≤2147483647):(numB n).size≤2200000000:=by
 unfold numB
 split
 · rw [ByteArray.size_append]
   have:=decB_size (-n).toNat
   have e:(⟨#[45]⟩:ByteArray).size=1:=rfl
   omega
 · have:=decB_size n.toNat
   omega
theorem word_le {t:ByteArray} (h:isWord t=true):t.size≤32:=by
 obtain ⟨_,h,_⟩:=isWord_iff.1 h
 exact h
theorem textB_le (s:Sym):(textB s).size≤2300000000:=by
 unfold textB
 by_cases hv:validB s=true
 · rw [if_pos hv]
   obtain ⟨k,t,n⟩:=s
   rcases validB_kind hv with rfl | rfl | rfl
   · obtain ⟨h1,_,h3,h4⟩:=validB_id hv
     rw [if_pos rfl,ByteArray.size_append]
     have:=numB_le n (by omega) (by omega)
     simp only
     omega
   · obtain ⟨_,h3,h4⟩:=validB_int hv
     rw [if_neg (by simp),if_pos rfl]
     have:=numB_le n (by omega) (by omega)
     simp only
     omega
   · rw [if_neg (by simp),if_neg (by simp)]
     have h2:isWord t=true:=by
      unfold validB at hv
      simp at hv
      first | exact hv.2 | exact hv | exact hv.1
     have:=word_le h2
     simp only
     omega
 · rw [if_neg hv]
   have e:(⟨#[]⟩:ByteArray).size=0:=rfl
   omega
theorem atomX_le {v:ByteArray} {s:Sym} (h:v.toList = []∨isWord v=true):(atomX v s).size≤2300000000:=by
 unfold atomX
 split
 · exact textB_le s
 · rename_i h1
   have:=word_le (h.resolve_left h1)
   rw [ByteArray.size_append,ByteArray.size_append]
   have e1:(⟨#[60]⟩:ByteArray).size=1:=rfl
   have e2:(⟨#[62]⟩:ByteArray).size=1:=rfl
   omega
theorem relX_le (k:Int):(relX k).size≤3:=by
 have e0:(⟨#[]⟩:ByteArray).size=0:=rfl
 have e1:(⟨#[60,62]⟩:ByteArray).size=2:=rfl
 have e2:(⟨#[60]⟩:ByteArray).size=1:=rfl
 have e3:(⟨#[60,61]⟩:ByteArray).size=2:=rfl
 have e4:(⟨#[62]⟩:ByteArray).size=1:=rfl
 have e5:(⟨#[62,61]⟩:ByteArray).size=2:=rfl
 have e6:(⟨#[60,61,62]⟩:ByteArray).size=3:=rfl
 unfold relX
 repeat (split;omega)
 omega
theorem fold_sum {α:Type} {f:ByteArray→α→ByteArray} {B:Nat} : ∀(l:List α) (s:ByteArray),(∀x∈l,∀s,(f s x).size≤s.size+B)→(l.foldl f s).size≤s.size+l.length*B
 | [],_,_=>by simp
 | x :: l,s,h=>by
   have h1:=h x (by simp) s
   have h2:=fold_sum l (f s x) (fun y hy=>h y (by simp [hy]))
   rw [List.foldl_cons,List.length_cons,Nat.add_mul]
   omega
theorem testX_le {t:TestT} (h:testB t=true):(testX t).size≤30000000000:=by
 unfold testX
 unfold testB at h
 by_cases h8:t.rel=8
 · rw [if_pos h8] at h ⊢
   simp only [Bool.and_eq_true,decide_eq_true_eq] at h
   have h9:t.list.length≤8:=h.1.2
   have h1:=fold_sum (f:=listX) (B:=2300000001) t.list (⟨#[60,60]⟩:ByteArray) (fun x _ s=>by
    unfold listX
    rw [ByteArray.size_append,ByteArray.size_append]
    have:=textB_le x
    have e:(⟨#[32]⟩:ByteArray).size=1:=rfl
    omega)
   rw [ByteArray.size_append]
   have e1:(⟨#[60,60]⟩:ByteArray).size=2:=rfl
   have e2:(⟨#[32,62,62]⟩:ByteArray).size=3:=rfl
   have h3:t.list.length*2300000001≤8*2300000001:=Nat.mul_le_mul_right _ h9
   omega
 · rw [if_neg h8] at h ⊢
   have hv:t.var.toList = []∨isWord t.var=true:=by
    by_cases hv:t.var.toList = []
    · exact .inl hv
    · right
      split at h
      · cases h
      · have h':(isWord t.var && noneB t.sym)=true:=by first | exact h | (rw [if_neg hv] at h;exact h)
        simp only [Bool.and_eq_true] at h'
        exact h'.1
   have ha:=atomX_le (s:=t.sym) hv
   split
   · omega
   · rw [ByteArray.size_append,ByteArray.size_append]
     have:=relX_le t.rel
     have e:(⟨#[32]⟩:ByteArray).size=1:=rfl
     omega
theorem fieldX_le {l:List TestT} (h : ∀t∈l,testB t=true) (h4:l.length≤4):(fieldX l).size≤200000000000:=by
 unfold fieldX
 split
 · have e:(⟨#[]⟩:ByteArray).size=0:=rfl
   omega
 · split
   · rename_i h1
     have:=testX_le (h l[0] (List.getElem_mem _))
     omega
   · rw [ByteArray.size_append]
     have h1:=fold_sum (f:=fieldF) (B:=30000000001) l (⟨#[123]⟩:ByteArray) (fun x hx s=>by
      unfold fieldF
      rw [ByteArray.size_append,ByteArray.size_append]
      have:=testX_le (h x hx)
      have e:(⟨#[32]⟩:ByteArray).size=1:=rfl
      omega)
     have e1:(⟨#[123]⟩:ByteArray).size=1:=rfl
     have e2:(⟨#[32,125]⟩:ByteArray).size=2:=rfl
     have h3:l.length*30000000001≤4*30000000001:=Nat.mul_le_mul_right _ h4
     omega
theorem condE_leaf {c:CondT} {d:Nat} (h:condE c d=0) (hk : ¬c.kind=3):isWord c.id=true∧(∀t∈c.attr,testB t=true)∧(∀t∈c.value,testB t=true)∧c.attr.length≤4∧c.value.length≤4∧(c.kind=1∨c.kind=2)∧c.conds.length=0∧0<c.attr.length:=by
 unfold condE at h
 rw [if_neg hk] at h
 by_cases h1:c.kind=1∨c.kind=2
 · rw [if_pos h1] at h
   by_cases h2:0<c.conds.length∨isWord c.id=false∨c.attr.length=0
   · rw [if_pos h2] at h;exact absurd h (by decide)
   rw [if_neg h2] at h
   by_cases h3:4<c.attr.length∨4<c.value.length
   · rw [if_pos h3] at h;exact absurd h (by decide)
   rw [if_neg h3] at h
   by_cases h4:(c.attr.all testB && c.value.all testB)=false
   · rw [if_pos h4] at h;exact absurd h (by decide)
   simp only [not_or] at h2 h3
   have h5:c.attr.all testB=true∧c.value.all testB=true:=by
    have:(c.attr.all testB && c.value.all testB)=true:=by simpa using h4
    simpa using this
   exact ⟨by simpa using h2.2.1,fun t ht=>List.all_eq_true.1 h5.1 t ht,fun t ht=>List.all_eq_true.1 h5.2 t ht,by omega,by omega,h1,by omega,by omega⟩
 · rw [if_neg h1] at h;exact absurd h (by decide)
theorem leafX_le {c:CondT} {d:Nat} (h:condE c d=0) (hk : ¬c.kind=3):(leafX c).size≤500000000000:=by
 obtain ⟨h1,h2,h3,h4,h5,_⟩:=condE_leaf h hk
 have a1:=word_le h1
 have a2:=fieldX_le h2 h4
 have a3:=fieldX_le h3 h5
 have e1:(⟨#[45,40]⟩:ByteArray).size=2:=rfl
 have e2:(⟨#[40]⟩:ByteArray).size=1:=rfl
 have e3:(⟨#[115,116,97,116,101,32]⟩:ByteArray).size=6:=rfl
 have e4:(⟨#[60]⟩:ByteArray).size=1:=rfl
 have e5:(⟨#[62,32,94]⟩:ByteArray).size=3:=rfl
 have e6:(⟨#[32]⟩:ByteArray).size=1:=rfl
 have e7:(⟨#[32,43]⟩:ByteArray).size=2:=rfl
 have e8:(⟨#[41]⟩:ByteArray).size=1:=rfl
 have l1:(leaf1 c).size≤2:=by unfold leaf1;split<;>omega
 have l2:(leaf2 c).size≤8:=by unfold leaf2;split;rw [ByteArray.size_append];omega;omega
 have l3:(leaf3 c).size≤200000000050:=by unfold leaf3;rw [ByteArray.size_append,ByteArray.size_append,ByteArray.size_append,ByteArray.size_append];omega
 have l4:(leaf4 c).size≤400000000060:=by unfold leaf4;split;rw [ByteArray.size_append,ByteArray.size_append];omega;omega
 have l5:(leaf5 c).size≤400000000070:=by unfold leaf5;split;rw [ByteArray.size_append];omega;omega
 unfold leafX
 rw [ByteArray.size_append]
 omega
theorem allF_sum {f:CondT→ByteArray} {g:CondT→Nat} : ∀(l:List CondT) (p:Nat×ByteArray),(∀x∈l,(f x).size+1≤g x)→(l.foldl (allF f) p).2.size≤p.2.size+(l.map g).sum
 | [],_,_=>by simp
 | x :: l,p,h=>by
   have h1:=h x (by simp)
   have h2:=allF_sum l (allF f p x) (fun y hy=>h y (by simp [hy]))
   have e:(⟨#[32]⟩:ByteArray).size=1:=rfl
   have h3:(allF f p x).2.size≤p.2.size+g x:=by
    unfold allF
    dsimp only
    rw [ByteArray.size_append]
    split
    · rw [ByteArray.size_append];omega
    · omega
   rw [List.foldl_cons,List.map_cons,List.sum_cons]
   omega
theorem flatC_sum (n d:Nat) : ∀l:List CondT,(l.map fun c=>1+(flatC n (d+1) c.conds).length).sum=(flatC (n+1) d l).length
 | []=>by simp [flatC]
 | c :: l=>by
   have:=flatC_sum n d l
   rw [List.map_cons,List.sum_cons,this]
   simp [flatC,List.flatMap_cons]
   omega
theorem sum_mul (k:Nat) (g:CondT→Nat) : ∀l:List CondT,(l.map fun c=>k*g c).sum=k*(l.map g).sum
 | []=>by simp
 | c :: l=>by rw [List.map_cons,List.sum_cons,sum_mul k g l,List.map_cons,List.sum_cons,Nat.mul_add]
theorem flatC_in {n d:Nat} {l:List CondT} {c:CondT} (h:c∈l):(d,c)∈flatC (n+1) d l∧∀x∈flatC n (d+1) c.conds,x∈flatC (n+1) d l:=by
 constructor
 · rw [flatC];exact List.mem_flatMap.2 ⟨c,h,by simp⟩
 · intro x hx;rw [flatC];exact List.mem_flatMap.2 ⟨c,h,by simp [hx]⟩
def Dp:Nat→CondT→Prop
 | 0,_=>False
 | n+1,c=>∀x∈c.conds,Dp n x
theorem row_dp : ∀(n:Nat) {D:Nat→Prop} {w:World} {A:Option Addr} {c:Nat} {l:List CondT},RowR (repCondT n) D w A c l→∀x∈l,Dp n x
 | 0,_,_,_,_,l,h,x,hx=>by
   obtain ⟨k,hk,rfl⟩:=List.getElem_of_mem hx
   obtain ⟨_,_,_,_,_,_,hr,_⟩:=h.at_ hk
   exact hr.elim
 | n+1,_,_,_,_,l,h,x,hx=>by
   obtain ⟨k,hk,rfl⟩:=List.getElem_of_mem hx
   obtain ⟨_,_,_,_,_,_,_,_,_,_,_,_,_,_,_,_,_,_,_,_,h3⟩:=at_CondT h hk
   exact row_dp n h3
theorem condX_le : ∀(n d:Nat) (c:CondT),Dp (n+1) c→condE c d=0→(∀x∈flatC n (d+1) c.conds,condE x.2 x.1=0)→(condX (n+1) c).size+4≤1000000000000*(1+(flatC n (d+1) c.conds).length)
 | n,d,c,hd,h,hf=>by
   rw [condX]
   by_cases hk:c.kind=3
   · rw [if_pos hk,ByteArray.size_append]
     have e1:(⟨#[45,123]⟩:ByteArray).size=2:=rfl
     have e2:(⟨#[125]⟩:ByteArray).size=1:=rfl
     cases n with
     | zero=>
       have hc:c.conds = []:=by
        cases hcc:c.conds with
        | nil=>rfl
        | cons x l=>exact (hd x (by rw [hcc];simp)).elim
       rw [hc]
       simp
       omega
     | succ m=>
       have h1:=allF_sum (f:=condX (m+1)) (g:=fun x=>1000000000000*(1+(flatC m (d+1+1) x.conds).length)) c.conds (0,(⟨#[45,123]⟩:ByteArray)) (fun x hx=>by
        obtain ⟨g1,g2⟩:=flatC_in (n:=m) (d:=d+1) hx
        have:=condX_le m (d+1) x (hd x hx) (hf _ g1) (fun y hy=>hf _ (g2 y hy))
        omega)
       rw [sum_mul,flatC_sum] at h1
       rw [e1] at h1
       omega
   · rw [if_neg hk]
     have:=leafX_le h hk
     omega
theorem termX_le {t:TermT} (h:termB t=true):(termX t).size≤5000000000:=by
 unfold termB at h
 by_cases h1:t.op<0∨3<t.op∨atomB t.a=false
 · rw [if_pos h1] at h;cases h
 rw [if_neg h1] at h
 simp only [not_or] at h1
 have av : ∀a:AtomT,atomB a=true→a.var.toList = []∨isWord a.var=true:=fun a ha=>by
  unfold atomB at ha
  split at ha
  · exact .inl (by assumption)
  · simp only [Bool.and_eq_true] at ha;exact .inr ha.1
 have ha:=atomX_le (s:=t.a.sym) (av t.a (by simpa using h1.2.2))
 unfold termX
 have e1:(⟨#[40]⟩:ByteArray).size=1:=rfl
 have e2:(⟨#[32]⟩:ByteArray).size=1:=rfl
 have e3:(⟨#[41]⟩:ByteArray).size=1:=rfl
 have e4:(⟨#[43]⟩:ByteArray).size=1:=rfl
 have e5:(⟨#[45]⟩:ByteArray).size=1:=rfl
 have e6:(⟨#[42]⟩:ByteArray).size=1:=rfl
 have eo:(opX t.op).size=1:=by unfold opX;split;rfl;split<;>rfl
 split
 · rename_i ho
   rw [if_neg (by omega)] at h
   simp only [Bool.and_eq_true] at h
   have hb:=atomX_le (s:=t.b.sym) (av t.b h.1.1)
   simp only [ByteArray.size_append]
   omega
 · omega
theorem signX_le (k:Int):(signX k).size≤1:=by
 unfold signX
 repeat (split;exact Nat.le_refl 1)
 exact Nat.le_refl 1
theorem actX_le {a:ActT} (h:actB a=true):(actX a).size≤20000000000:=by
 unfold actB at h
 by_cases h1:isWord a.id=false∨atomB a.attr=false∨termB a.value=false∨a.pref<1∨10<a.pref
 · rw [if_pos h1] at h;cases h
 rw [if_neg h1] at h
 simp only [not_or] at h1
 have av : ∀a:AtomT,atomB a=true→a.var.toList = []∨isWord a.var=true:=fun a ha=>by
  unfold atomB at ha
  split at ha
  · exact .inl (by assumption)
  · simp only [Bool.and_eq_true] at ha;exact .inr ha.1
 have w1:=word_le (show isWord a.id=true by simpa using h1.1)
 have ha:=atomX_le (s:=a.attr.sym) (av a.attr (by simpa using h1.2.1))
 have ht:=termX_le (show termB a.value=true by simpa using h1.2.2.1)
 have hs:=signX_le a.pref
 have e1:(⟨#[40,60]⟩:ByteArray).size=2:=rfl
 have e2:(⟨#[62,32,94]⟩:ByteArray).size=3:=rfl
 have e3:(⟨#[32]⟩:ByteArray).size=1:=rfl
 have e4:(⟨#[41]⟩:ByteArray).size=1:=rfl
 unfold actX
 dsimp only
 rw [ByteArray.size_append]
 split
 · rename_i ho
   rw [if_pos ho] at h
   have hb:=atomX_le (s:=a.other.sym) (av a.other h)
   simp only [ByteArray.size_append]
   omega
 · simp only [ByteArray.size_append]
   omega
theorem shapeP_ok {n:Nat} {p:ProdT} (h:(shapeP n p).2=0):isWord p.name=true∧(flatC n 0 p.conds).length≤16∧1≤(flatC n 0 p.conds).length∧p.acts.length≤16∧1≤p.acts.length∧(∀x∈flatC n 0 p.conds,condE x.2 x.1=0)∧∀a∈p.acts,actB a=true:=by
 unfold shapeP at h
 by_cases h1:isWord p.name=false
 · rw [if_pos h1] at h;exact absurd h (by decide)
 rw [if_neg h1] at h
 by_cases h2:(flatC n 0 p.conds).length<1∨16<(flatC n 0 p.conds).length∨p.acts.length<1∨16<p.acts.length
 · rw [if_pos h2] at h;exact absurd h (by decide)
 rw [if_neg h2] at h
 simp only [not_or] at h2
 cases h3:(flatC n 0 p.conds).findIdx? (fun c=>decide (condE c.2 c.1≠0)) with
 | some k=>
   rw [h3] at h
   obtain ⟨hk,hp,_⟩:=List.findIdx?_eq_some_iff_getElem.1 h3
   simp only at h
   rw [List.getElem?_eq_getElem hk] at h
   simp at h hp
   exact absurd h hp
 | none=>
   rw [h3] at h
   cases h4:p.acts.findIdx? (fun a=>!actB a) with
   | some i=>rw [h4] at h;exact absurd h (by simp)
   | none=>
     refine ⟨by simpa using h1,by omega,by omega,by omega,by omega,fun x hx=>?_,fun a ha=>?_⟩
     · have:=List.findIdx?_eq_none_iff.1 h3 x hx
       simpa using this
     · have:=List.findIdx?_eq_none_iff.1 h4 a ha
       simpa using this
theorem prodX_le {n:Nat} {p:ProdT} (hdp : ∀c∈p.conds,Dp n c) (h:(shapeP n p).2=0):(prodX n p).size≤1000000000000000:=by
 obtain ⟨h1,h2,_,h4,_,h6,h7⟩:=shapeP_ok h
 have w1:=word_le h1
 cases n with
 | zero=>exact absurd h2 (by have:=(shapeP_ok h).2.2.1;simp [flatC] at this)
 | succ m=>
   have hl:p.conds.length≤16:=by
    have:=flatC_sum m 0 p.conds
    have h8 : ∀l:List CondT,l.length≤(l.map fun c=>1+(flatC m (0+1) c.conds).length).sum:=by
     intro l
     induction l with
     | nil=>simp
     | cons c l ih=>rw [List.map_cons,List.sum_cons,List.length_cons];omega
    have:=h8 p.conds
    omega
   have c1:=fold_sum (f:=lineC (m+1)) (B:=17000000000010) p.conds ((⟨#[115,112,32,123]⟩:ByteArray)++p.name++(⟨#[10]⟩:ByteArray)) (fun c hc s=>by
    obtain ⟨g1,g2⟩:=flatC_in (n:=m) (d:=0) hc
    have g3:=condX_le m 0 c (hdp c hc) (h6 _ g1) (fun y hy=>h6 _ (g2 y hy))
    have g4:(flatC m (0+1) c.conds).length≤16:=by
     have e:=flatC_sum m 0 p.conds
     have g5 : ∀l:List CondT,c∈l→1+(flatC m (0+1) c.conds).length≤(l.map fun c=>1+(flatC m (0+1) c.conds).length).sum:=by
      intro l hl
      induction l with
      | nil=>cases hl
      | cons x l ih=>
        rw [List.map_cons,List.sum_cons]
        rcases List.mem_cons.1 hl with rfl | hl
        · omega
        · have:=ih hl;omega
     have:=g5 p.conds hc
     omega
    unfold lineC
    rw [ByteArray.size_append,ByteArray.size_append,ByteArray.size_append]
    have e1:(⟨#[32,32]⟩:ByteArray).size=2:=rfl
    have e2:(⟨#[10]⟩:ByteArray).size=1:=rfl
    omega)
   have a1:=fold_sum (f:=lineA) (B:=20000000010) p.acts (p.conds.foldl (lineC (m+1)) ((⟨#[115,112,32,123]⟩:ByteArray)++p.name++(⟨#[10]⟩:ByteArray))++(⟨#[45,45,62,10]⟩:ByteArray)) (fun a ha s=>by
    have:=actX_le (h7 a ha)
    unfold lineA
    rw [ByteArray.size_append,ByteArray.size_append,ByteArray.size_append]
    have e1:(⟨#[32,32]⟩:ByteArray).size=2:=rfl
    have e2:(⟨#[10]⟩:ByteArray).size=1:=rfl
    omega)
   unfold prodX
   rw [ByteArray.size_append]
   rw [ByteArray.size_append (b:=(⟨#[45,45,62,10]⟩:ByteArray))] at a1
   rw [ByteArray.size_append,ByteArray.size_append] at c1
   have e1:(⟨#[115,112,32,123]⟩:ByteArray).size=4:=rfl
   have e2:(⟨#[10]⟩:ByteArray).size=1:=rfl
   have e3:(⟨#[45,45,62,10]⟩:ByteArray).size=4:=rfl
   have e4:(⟨#[125,10]⟩:ByteArray).size=2:=rfl
   have m1:p.conds.length*17000000000010≤16*17000000000010:=Nat.mul_le_mul_right _ hl
   have m2:p.acts.length*20000000010≤16*20000000010:=Nat.mul_le_mul_right _ h4
   omega
end Go.Proofs.YtffemfglngikbaaGreat
namespace Go.Proofs.YtffemfglngikbaaGreat
open Go.RowKit Go.Shelf
attribute [local go_sem] Oper.semAt_some
set_option linter.unusedSimpArgs false
theorem newD_lt {B k:Nat} {w:World} (h:NewD B w k):k<w.heap.size:=h.2
theorem dp_condR (t:ByteArray→ByteArray) : ∀(n:Nat) (x:CondT),Dp n x→Dp n (condR t n x)
 | 0,_,h=>h.elim
 | n+1,x,h=>by
   intro y hy
   obtain ⟨z,hz,rfl⟩:=List.mem_map.1 (show y∈x.conds.map (condR t n) from hy)
   exact dp_condR t n z (h z hz)
theorem flat_condR (t:ByteArray→ByteArray) : ∀(n d:Nat) (l:List CondT),(flatC n d (l.map (condR t n))).length=(flatC n d l).length
 | 0,_,_=>rfl
 | n+1,d,l=>by
   rw [← flatC_sum,← flatC_sum,List.map_map]
   congr 1
   apply List.map_congr_left
   intro x _
   show 1+(flatC n (d+1) (x.conds.map (condR t n))).length=_
   rw [flat_condR t n]
structure Fit (n:Nat) (p:ProdT):Prop where
 c:p.conds.length≤1000
 a:p.acts.length≤1000
 s : ∀x∈p.conds,SmC n x
 v:(varsP n p).length≤100000
 f:(flatC n 0 p.conds).length≤1000000000
 nn:n≤1000000000
 d : ∀x∈p.conds,Dp n x
def textC (n:Nat) (p:ProdT):ByteArray:=showX n (plainP n p)
def sameC (n:Nat) (p q:ProdT):Bool:=decide (¬(textC n p).toList = []) && decide ((textC n p).toList=(textC n q).toList)
set_option maxRecDepth 100000 in
set_option maxHeartbeats 4000000 in
theorem ctext_is {D:Nat→Prop} (n:Nat) (p:ProdT) (A1:Option Addr) (c1:Nat) (A2:Option Addr) (c2:Nat) (w:World) (hD : ∀k,D k→k<w.heap.size) (h1:RowR (repCondT n) D w A1 c1 p.conds) (h2:RowR repActT D w A2 c2 p.acts) (hf:Fit n p) :
 Calls Tryz.prog 40 #[.agg #[.string p.name,.slice A1 p.conds.length c1,.slice A2 p.acts.length c2]] w fun e w'=>e = .returned (.string (textC n p))∧Below w.heap.size w w':=by
 have HPL:=Lib.hid (show ∀W,Below w.heap.size w W→Calls Tryz.prog 38 #[.agg #[.string p.name,.slice A1 p.conds.length c1,.slice A2 p.acts.length c2]] W (FreshP n (plainP n p) W) from fun W hW=>cplain_is n p A1 c1 A2 c2 W (fun k hk=>Nat.lt_of_lt_of_le (hD k hk) hW.size) (h1.new_ hW) (h2.new_ hW) hf.c hf.a hf.s hf.v)
 obtain ⟨q,hq⟩ : ∃q,q=plainP n p:=⟨_,rfl⟩
 have HSZ:=Lib.hid (show (shapeP n q).2=0→(prodX n q).size≤MAXS from fun h=>by
  have:=prodX_le (n:=n) (p:=q) (by rw [hq];intro x hx;obtain ⟨z,hz,rfl⟩:=List.mem_map.1 (show x∈p.conds.map _ from hx);exact dp_condR _ n z (hf.d z hz)) h
  unfold MAXS
  omega)
 have HFL:=Lib.hid (show (flatC n 0 q.conds).length≤1000000000 by rw [hq];show (flatC n 0 (p.conds.map _)).length≤_;rw [flat_condR];exact hf.f)
 have HNN:=Lib.hid hf.nn
 have HTX:=Lib.hid (show textC n p=showX n q by rw [hq];rfl)
 rw [← hq] at HPL
 have hc1:=h1.cap
 have hc2:=h2.cap
 clear h1 h2 hD hf hq
 go_enter Tryz.func40,Tryz.ntmps40
 go_upto_region 1 with fail
 obtain ⟨w1,hw1⟩ : ∃w1,w1=(w.alloc (.cells #[.string p.name,.slice A1 p.conds.length c1,.slice A2 p.acts.length c2] 25)):=⟨_,rfl⟩
 rw [← hw1]
 have HB:=Lib.hid (show Below w.heap.size w w1 by rw [hw1];exact (by repeat (first | exact Below.refl _ _ | refine Below.drew ?_ | refine Below.al ?_ _ | refine Below.sc ?_ _)))
 have Kb:=Lib.hid (show Blk w1 (w.heap.size) 25 #[.string p.name,.slice A1 p.conds.length c1,.slice A2 p.acts.length c2] by rw [hw1];exact (Blk.new w 25 #[.string p.name,.slice A1 p.conds.length c1,.slice A2 p.acts.length c2]))
 clear hw1
 obtain ⟨b0,b1,b2⟩:=Kb.out.c3
 have bz:=Kb.out.lt
 go_wp2_with fail
 with_reducible refine (HPL.out _ (by (repeat (first | exact Below.refl _ _ | exact HB.out | refine Below.drew ?_ | refine Below.al ?_ _ | refine Below.sc ?_ _)))).mono ?_
 rintro e w2 ⟨E1,d1,E2,d2,rfl,r1,r2,hb⟩
 have hbs:=Below.trans (show Below w1.heap.size w1 _ from (by (repeat (first | exact Below.refl _ _ | refine Below.drew ?_ | refine Below.al ?_ _ | refine Below.sc ?_ _)))) (hb.mono (by simp<;>omega))
 have Kb:=Lib.hid (Kb.out.new_ hbs)
 have HB:=Lib.hid (HB.out.trans (hbs.mono HB.out.size))
 have hsz2:=hbs.size
 clear b0 b1 b2 bz hb hbs
 obtain ⟨b0,b1,b2⟩:=Kb.out.c3
 have bz:=Kb.out.lt
 have HR1:=Lib.hid r1
 have HR2:=Lib.hid r2
 clear r1 r2
 go_wp2_with fail
 with_reducible refine (sprod_is n q E1 E2 d1 d2 _ HR1.out HR2.out (fun _ hk=>newD_lt hk) HFL.out HNN.out HSZ.out).mono ?_
 rintro e w3 ⟨rfl,hb⟩
 have hbs:=Below.trans (show Below w2.heap.size w2 _ from (by (repeat (first | exact Below.refl _ _ | refine Below.drew ?_ | refine Below.al ?_ _ | refine Below.sc ?_ _)))) (hb.mono (by simp<;>omega))
 have Kb:=Lib.hid (Kb.out.new_ hbs)
 have HB:=Lib.hid (HB.out.trans (hbs.mono HB.out.size))
 have hsz3:=hbs.size
 clear b0 b1 b2 bz hb hbs
 obtain ⟨b0,b1,b2⟩:=Kb.out.c3
 have bz:=Kb.out.lt
 go_wp2_with fail
 go_ret
 exact ⟨by rw [HTX.out]<;>rfl,HB.out⟩
set_option maxRecDepth 100000 in
set_option maxHeartbeats 4000000 in
theorem csame_is {D:Nat→Prop} (n:Nat) (p q:ProdT) (A1:Option Addr) (c1:Nat) (A2:Option Addr) (c2:Nat) (B1:Option Addr) (d1:Nat) (B2:Option Addr) (d2:Nat) (w:World) (hD : ∀k,D k→k<w.heap.size)
 (h1:RowR (repCondT n) D w A1 c1 p.conds) (h2:RowR repActT D w A2 c2 p.acts) (hf:Fit n p) (k1:RowR (repCondT n) D w B1 d1 q.conds) (k2:RowR repActT D w B2 d2 q.acts) (kf:Fit n q) :
 Calls Tryz.prog 42 #[.agg #[.string p.name,.slice A1 p.conds.length c1,.slice A2 p.acts.length c2],.agg #[.string q.name,.slice B1 q.conds.length d1,.slice B2 q.acts.length d2]] w fun e w'=>e = .returned (.bool (sameC n p q))∧Below w.heap.size w w':=by
 obtain ⟨s,hs⟩ : ∃s,s=textC n p:=⟨_,rfl⟩
 obtain ⟨t,ht⟩ : ∃t,t=textC n q:=⟨_,rfl⟩
 have HTP:=Lib.hid (show ∀W,Below w.heap.size w W→Calls Tryz.prog 40 #[.agg #[.string p.name,.slice A1 p.conds.length c1,.slice A2 p.acts.length c2]] W fun e w'=>e = .returned (.string s)∧Below W.heap.size W w' from fun W hW=>by rw [hs];exact ctext_is n p A1 c1 A2 c2 W (fun k hk=>Nat.lt_of_lt_of_le (hD k hk) hW.size) (h1.new_ hW) (h2.new_ hW) hf)
 have HTQ:=Lib.hid (show ∀W,Below w.heap.size w W→Calls Tryz.prog 40 #[.agg #[.string q.name,.slice B1 q.conds.length d1,.slice B2 q.acts.length d2]] W fun e w'=>e = .returned (.string t)∧Below W.heap.size W w' from fun W hW=>by rw [ht];exact ctext_is n q B1 d1 B2 d2 W (fun k hk=>Nat.lt_of_lt_of_le (hD k hk) hW.size) (k1.new_ hW) (k2.new_ hW) kf)
 have HV:=Lib.hid (show sameC n p q=(decide (¬s.toList = []) && decide (s.toList=t.toList)) by rw [hs,ht];rfl)
 have hc1:=h1.cap
 have hc2:=h2.cap
 have hc3:=k1.cap
 have hc4:=k2.cap
 clear h1 h2 k1 k2 hf kf hD hs ht
 by_cases he:s.toList = []
 · skip
   have ea:(s.toList == [])=true:=by simp [he]
   have eb:s.toList.isEmpty=true:=by simp [he]
   have ec:decide (s.toList = [])=true:=by simp [he]
   have HR:=Lib.hid (show sameC n p q=false by rw [HV.out,he];rfl)
   clear he
   go_enter Tryz.func42,Tryz.ntmps42
   go_upto_region 1 with fail
   obtain ⟨w1,hw1⟩ : ∃w1,w1=((w.alloc (.cells #[.string p.name,.slice A1 p.conds.length c1,.slice A2 p.acts.length c2] 25)).alloc (.cells #[.string q.name,.slice B1 q.conds.length d1,.slice B2 q.acts.length d2] 25)):=⟨_,rfl⟩
   rw [← hw1]
   have HB:=Lib.hid (show Below w.heap.size w w1 by rw [hw1];exact (by repeat (first | exact Below.refl _ _ | refine Below.drew ?_ | refine Below.al ?_ _ | refine Below.sc ?_ _)))
   have Ka:=Lib.hid (show Blk w1 (w.heap.size) 25 #[.string p.name,.slice A1 p.conds.length c1,.slice A2 p.acts.length c2] by rw [hw1];exact ((Blk.new w 25 #[.string p.name,.slice A1 p.conds.length c1,.slice A2 p.acts.length c2]).alloc (.cells #[.string q.name,.slice B1 q.conds.length d1,.slice B2 q.acts.length d2] 25)))
   have Kb:=Lib.hid (show Blk w1 (w.heap.size+1) 25 #[.string q.name,.slice B1 q.conds.length d1,.slice B2 q.acts.length d2] by rw [hw1];have hh:=(Blk.new (w.alloc (.cells #[.string p.name,.slice A1 p.conds.length c1,.slice A2 p.acts.length c2] 25)) 25 #[.string q.name,.slice B1 q.conds.length d1,.slice B2 q.acts.length d2]);simp only [World.size_alloc] at hh;exact hh)
   clear hw1
   obtain ⟨a0,a1,a2⟩:=Ka.out.c3
   have az:=Ka.out.lt
   obtain ⟨b0,b1,b2⟩:=Kb.out.c3
   have bz:=Kb.out.lt
   go_wp2_with fail
   with_reducible refine (HTP.out _ (by (repeat (first | exact Below.refl _ _ | exact HB.out | refine Below.drew ?_ | refine Below.al ?_ _ | refine Below.sc ?_ _)))).mono ?_
   rintro e w2 ⟨rfl,hb⟩
   have hbs:=Below.trans (show Below w1.heap.size w1 _ from (by (repeat (first | exact Below.refl _ _ | refine Below.drew ?_ | refine Below.al ?_ _ | refine Below.sc ?_ _)))) (hb.mono (by simp<;>omega))
   have Ka:=Lib.hid (Ka.out.new_ hbs)
   have Kb:=Lib.hid (Kb.out.new_ hbs)
   have HB:=Lib.hid (HB.out.trans (hbs.mono HB.out.size))
   have hsz2:=hbs.size
   clear a0 a1 a2 az b0 b1 b2 bz hb hbs
   obtain ⟨a0,a1,a2⟩:=Ka.out.c3
   have az:=Ka.out.lt
   obtain ⟨b0,b1,b2⟩:=Kb.out.c3
   have bz:=Kb.out.lt
   go_wp2_with fail
   go_ret
   exact ⟨by rw [HR.out]<;>rfl,HB.out⟩
 · skip
   have ea:(s.toList == [])=false:=by simp [he]
   have eb:s.toList.isEmpty=false:=by simp [he]
   have ec:decide (s.toList = [])=false:=by simp [he]
   by_cases hq:s.toList=t.toList
   · skip
     have qa:(s.toList == t.toList)=true:=by simp [hq]
     have qb:decide (s.toList=t.toList)=true:=by simp [hq]
     have HR:=Lib.hid (show sameC n p q=true by rw [HV.out,decide_eq_true he,decide_eq_true hq];rfl)
     clear he hq
     go_enter Tryz.func42,Tryz.ntmps42
     go_upto_region 1 with fail
     obtain ⟨w1,hw1⟩ : ∃w1,w1=((w.alloc (.cells #[.string p.name,.slice A1 p.conds.length c1,.slice A2 p.acts.length c2] 25)).alloc (.cells #[.string q.name,.slice B1 q.conds.length d1,.slice B2 q.acts.length d2] 25)):=⟨_,rfl⟩
     rw [← hw1]
     have HB:=Lib.hid (show Below w.heap.size w w1 by rw [hw1];exact (by repeat (first | exact Below.refl _ _ | refine Below.drew ?_ | refine Below.al ?_ _ | refine Below.sc ?_ _)))
     have Ka:=Lib.hid (show Blk w1 (w.heap.size) 25 #[.string p.name,.slice A1 p.conds.length c1,.slice A2 p.acts.length c2] by rw [hw1];exact ((Blk.new w 25 #[.string p.name,.slice A1 p.conds.length c1,.slice A2 p.acts.length c2]).alloc (.cells #[.string q.name,.slice B1 q.conds.length d1,.slice B2 q.acts.length d2] 25)))
     have Kb:=Lib.hid (show Blk w1 (w.heap.size+1) 25 #[.string q.name,.slice B1 q.conds.length d1,.slice B2 q.acts.length d2] by rw [hw1];have hh:=(Blk.new (w.alloc (.cells #[.string p.name,.slice A1 p.conds.length c1,.slice A2 p.acts.length c2] 25)) 25 #[.string q.name,.slice B1 q.conds.length d1,.slice B2 q.acts.length d2]);simp only [World.size_alloc] at hh;exact hh)
     clear hw1
     obtain ⟨a0,a1,a2⟩:=Ka.out.c3
     have az:=Ka.out.lt
     obtain ⟨b0,b1,b2⟩:=Kb.out.c3
     have bz:=Kb.out.lt
     go_wp2_with fail
     with_reducible refine (HTP.out _ (by (repeat (first | exact Below.refl _ _ | exact HB.out | refine Below.drew ?_ | refine Below.al ?_ _ | refine Below.sc ?_ _)))).mono ?_
     rintro e w2 ⟨rfl,hb⟩
     have hbs:=Below.trans (show Below w1.heap.size w1 _ from (by (repeat (first | exact Below.refl _ _ | refine Below.drew ?_ | refine Below.al ?_ _ | refine Below.sc ?_ _)))) (hb.mono (by simp<;>omega))
     have Ka:=Lib.hid (Ka.out.new_ hbs)
     have Kb:=Lib.hid (Kb.out.new_ hbs)
     have HB:=Lib.hid (HB.out.trans (hbs.mono HB.out.size))
     have hsz2:=hbs.size
     clear a0 a1 a2 az b0 b1 b2 bz hb hbs
     obtain ⟨a0,a1,a2⟩:=Ka.out.c3
     have az:=Ka.out.lt
     obtain ⟨b0,b1,b2⟩:=Kb.out.c3
     have bz:=Kb.out.lt
     go_wp2_with fail
     with_reducible refine (HTQ.out _ (by (repeat (first | exact Below.refl _ _ | exact HB.out | refine Below.drew ?_ | refine Below.al ?_ _ | refine Below.sc ?_ _)))).mono ?_
     rintro e w3 ⟨rfl,hb⟩
     have hbs:=Below.trans (show Below w2.heap.size w2 _ from (by (repeat (first | exact Below.refl _ _ | refine Below.drew ?_ | refine Below.al ?_ _ | refine Below.sc ?_ _)))) (hb.mono (by simp<;>omega))
     have Ka:=Lib.hid (Ka.out.new_ hbs)
     have Kb:=Lib.hid (Kb.out.new_ hbs)
     have HB:=Lib.hid (HB.out.trans (hbs.mono HB.out.size))
     have hsz3:=hbs.size
     clear a0 a1 a2 az b0 b1 b2 bz hb hbs
     obtain ⟨a0,a1,a2⟩:=Ka.out.c3
     have az:=Ka.out.lt
     obtain ⟨b0,b1,b2⟩:=Kb.out.c3
     have bz:=Kb.out.lt
     go_wp2_with fail
     go_ret
     exact ⟨by rw [HR.out]<;>rfl,HB.out⟩
   · skip
     have qa:(s.toList == t.toList)=false:=by simp [hq]
     have qb:decide (s.toList=t.toList)=false:=by simp [hq]
     have HR:=Lib.hid (show sameC n p q=false by rw [HV.out];simp [he,hq])
     clear he hq
     go_enter Tryz.func42,Tryz.ntmps42
     go_upto_region 1 with fail
     obtain ⟨w1,hw1⟩ : ∃w1,w1=((w.alloc (.cells #[.string p.name,.slice A1 p.conds.length c1,.slice A2 p.acts.length c2] 25)).alloc (.cells #[.string q.name,.slice B1 q.conds.length d1,.slice B2 q.acts.length d2] 25)):=⟨_,rfl⟩
     rw [← hw1]
     have HB:=Lib.hid (show Below w.heap.size w w1 by rw [hw1];exact (by repeat (first | exact Below.refl _ _ | refine Below.drew ?_ | refine Below.al ?_ _ | refine Below.sc ?_ _)))
     have Ka:=Lib.hid (show Blk w1 (w.heap.size) 25 #[.string p.name,.slice A1 p.conds.length c1,.slice A2 p.acts.length c2] by rw [hw1];exact ((Blk.new w 25 #[.string p.name,.slice A1 p.conds.length c1,.slice A2 p.acts.length c2]).alloc (.cells #[.string q.name,.slice B1 q.conds.length d1,.slice B2 q.acts.length d2] 25)))
     have Kb:=Lib.hid (show Blk w1 (w.heap.size+1) 25 #[.string q.name,.slice B1 q.conds.length d1,.slice B2 q.acts.length d2] by rw [hw1];have hh:=(Blk.new (w.alloc (.cells #[.string p.name,.slice A1 p.conds.length c1,.slice A2 p.acts.length c2] 25)) 25 #[.string q.name,.slice B1 q.conds.length d1,.slice B2 q.acts.length d2]);simp only [World.size_alloc] at hh;exact hh)
     clear hw1
     obtain ⟨a0,a1,a2⟩:=Ka.out.c3
     have az:=Ka.out.lt
     obtain ⟨b0,b1,b2⟩:=Kb.out.c3
     have bz:=Kb.out.lt
     go_wp2_with fail
     with_reducible refine (HTP.out _ (by (repeat (first | exact Below.refl _ _ | exact HB.out | refine Below.drew ?_ | refine Below.al ?_ _ | refine Below.sc ?_ _)))).mono ?_
     rintro e w2 ⟨rfl,hb⟩
     have hbs:=Below.trans (show Below w1.heap.size w1 _ from (by (repeat (first | exact Below.refl _ _ | refine Below.drew ?_ | refine Below.al ?_ _ | refine Below.sc ?_ _)))) (hb.mono (by simp<;>omega))
     have Ka:=Lib.hid (Ka.out.new_ hbs)
     have Kb:=Lib.hid (Kb.out.new_ hbs)
     have HB:=Lib.hid (HB.out.trans (hbs.mono HB.out.size))
     have hsz2:=hbs.size
     clear a0 a1 a2 az b0 b1 b2 bz hb hbs
     obtain ⟨a0,a1,a2⟩:=Ka.out.c3
     have az:=Ka.out.lt
     obtain ⟨b0,b1,b2⟩:=Kb.out.c3
     have bz:=Kb.out.lt
     go_wp2_with fail
     with_reducible refine (HTQ.out _ (by (repeat (first | exact Below.refl _ _ | exact HB.out | refine Below.drew ?_ | refine Below.al ?_ _ | refine Below.sc ?_ _)))).mono ?_
     rintro e w3 ⟨rfl,hb⟩
     have hbs:=Below.trans (show Below w2.heap.size w2 _ from (by (repeat (first | exact Below.refl _ _ | refine Below.drew ?_ | refine Below.al ?_ _ | refine Below.sc ?_ _)))) (hb.mono (by simp<;>omega))
     have Ka:=Lib.hid (Ka.out.new_ hbs)
     have Kb:=Lib.hid (Kb.out.new_ hbs)
     have HB:=Lib.hid (HB.out.trans (hbs.mono HB.out.size))
     have hsz3:=hbs.size
     clear a0 a1 a2 az b0 b1 b2 bz hb hbs
     obtain ⟨a0,a1,a2⟩:=Ka.out.c3
     have az:=Ka.out.lt
     obtain ⟨b0,b1,b2⟩:=Kb.out.c3
     have bz:=Kb.out.lt
     go_wp2_with fail
     go_ret
     exact ⟨by rw [HR.out]<;>rfl,HB.out⟩
end Go.Proofs.YtffemfglngikbaaGreat
namespace Go.Proofs.YtffemfglngikbaaGreat
open Go.RowKit Go.Shelf
attribute [local go_sem] Oper.semAt_some
theorem row_oneC {α:Type} {r:RepT α} {D:Nat→Prop} {w:World} {g:Nat} {t:TypeId} {cs:List Value} {a:α} (hb:Blk w g t cs.toArray) (hD:D g) (hr:r.rep D w a cs):RowR r D w (some ⟨g,0,none⟩) 1 [a]:=by
 refine ⟨Nat.le_refl _,by unfold maxLen;omega,fun _=>⟨g,0,rfl,hD,hb.lt,fun k hk=>?_⟩⟩
 obtain rfl:k=0:=by simp at hk;omega
 exact ⟨cs,hr,fun j u hu=>by rw [show 0+0*r.size+j=j by omega,hb.cell];simpa using hu⟩
def wkC (i v:ByteArray):CondT:=.mk 1 true i [⟨1,⟨#[]⟩,⟨3,⟨#[120]⟩,0⟩,[]⟩] [⟨1,v,⟨0,⟨#[]⟩,0⟩,[]⟩] false []
def wkA (i:ByteArray):ActT:=⟨i,⟨⟨#[]⟩,⟨3,⟨#[121]⟩,0⟩⟩,⟨0,⟨⟨#[]⟩,⟨2,⟨#[]⟩,2⟩⟩,⟨⟨#[]⟩,⟨0,⟨#[]⟩,0⟩⟩⟩,1,⟨⟨#[]⟩,⟨0,⟨#[]⟩,0⟩⟩⟩
def wkP (i v:ByteArray):ProdT:=⟨⟨#[97]⟩,[wkC i v],[wkA i]⟩
theorem wk_yes:sameC 1 (wkP ⟨#[115]⟩ ⟨#[121]⟩) (wkP ⟨#[97]⟩ ⟨#[98]⟩)=true:=by kernel_rfl
theorem wk_no:sameC 1 (wkP ⟨#[115]⟩ ⟨#[121]⟩) (wkP ⟨#[115]⟩ ⟨#[115]⟩)=false:=by kernel_rfl
theorem wk_vars (i v:ByteArray):(varsP 1 (wkP i v)).length≤100000:=by
 have h1:=oneN_len i
 have h2:=oneN_len v
 have h0:=oneN_len ⟨#[]⟩
 simp only [varsP,wkP,wkC,wkA,namesN,varsT,varsA,fives,CondT.id,CondT.attr,CondT.value,CondT.conds,List.flatMap_cons,List.flatMap_nil,List.length_append,List.length_nil]
 omega
theorem wk_fit (i v:ByteArray):Fit 1 (wkP i v):=
 ⟨by simp [wkP],by simp [wkP],fun x hx=>by
  rw [List.mem_singleton.1 (show x∈[wkC i v] from hx)]
  exact ⟨⟨by simp [wkC,CondT.attr],fun t ht=>by rw [List.mem_singleton.1 (show t∈_ from ht)];simp⟩,⟨by simp [wkC,CondT.value],fun t ht=>by rw [List.mem_singleton.1 (show t∈_ from ht)];simp⟩,by simp [wkC,CondT.conds],fun y hy=>by cases (show y∈([]:List CondT) from hy)⟩,wk_vars i v,by show ([(0,wkC i v)] ++ []:List (Nat×CondT)).length≤_;simp,by omega,fun x hx=>by
  rw [List.mem_singleton.1 (show x∈[wkC i v] from hx)]
  intro y hy
  cases (show y∈([]:List CondT) from hy)⟩
set_option maxHeartbeats 1000000 in
theorem wW6_is (t:ByteArray)(w:World):Calls Tryz.prog 111 #[.string t] w fun e w'=>e = .returned (.agg #[.int .i64 3,.string t,.int .i64 0])∧Below w.heap.size w w':=by
 go_enter Tryz.func111,Tryz.ntmps111
 go_wp2_with fail
 exact bodyPost_ret (v:=.agg #[.int .i64 3,.string t,.int .i64 0]) (by simp [results,Tryz.results111,go_sem]) rfl ⟨rfl,by (repeat (first | exact Below.refl _ _ | refine Below.drew ?_ | refine Below.al ?_ _ | refine Below.sc ?_ _))⟩
set_option maxHeartbeats 1000000 in
theorem wN6_is (n:Int)(w:World):Calls Tryz.prog 112 #[.int .i64 n] w fun e w'=>e = .returned (.agg #[.int .i64 2,.string ⟨#[]⟩,.int .i64 n])∧Below w.heap.size w w':=by
 go_enter Tryz.func112,Tryz.ntmps112
 go_wp2_with fail
 exact bodyPost_ret (v:=.agg #[.int .i64 2,.string ⟨#[]⟩,.int .i64 n]) (by simp [results,Tryz.results112,go_sem]) rfl ⟨rfl,by (repeat (first | exact Below.refl _ _ | refine Below.drew ?_ | refine Below.al ?_ _ | refine Below.sc ?_ _))⟩
set_option maxRecDepth 100000 in
set_option maxHeartbeats 4000000 in
theorem one_blk (w:World):Calls Tryz.prog 48 #[] w fun e w'=>∃gc gt gu ga,e = .returned (.agg #[.string ⟨#[97]⟩,.slice (some ⟨gc,0,none⟩) 1 1,.slice (some ⟨ga,0,none⟩) 1 1])∧Blk w' gc 59 #[.int .i64 1,.bool true,.string ⟨#[115]⟩,.slice (some ⟨gt,0,none⟩) 1 1,.slice (some ⟨gu,0,none⟩) 1 1,.bool false,.slice none 0 0]∧Blk w' gt 141 #[.int .i64 1,.string ⟨#[]⟩,.int .i64 3,.string ⟨#[120]⟩,.int .i64 0,.slice none 0 0]∧Blk w' gu 141 #[.int .i64 1,.string ⟨#[]⟩,.int .i64 2,.string ⟨#[]⟩,.int .i64 1,.slice none 0 0]∧Blk w' ga 99 #[.string ⟨#[115]⟩,.string ⟨#[]⟩,.int .i64 3,.string ⟨#[121]⟩,.int .i64 0,.int .i64 0,.string ⟨#[]⟩,.int .i64 2,.string ⟨#[]⟩,.int .i64 2,.string ⟨#[]⟩,.int .i64 0,.string ⟨#[]⟩,.int .i64 0,.int .i64 1,.string ⟨#[]⟩,.int .i64 0,.string ⟨#[]⟩,.int .i64 0]∧(w.heap.size≤gc∧w.heap.size≤gt∧w.heap.size≤gu∧w.heap.size≤ga)∧Below w.heap.size w w':=by
 go_enter Tryz.func48,Tryz.ntmps48
 go_upto_region 1 with fail
 obtain ⟨w1,hw1⟩ : ∃w1,w1=(w.alloc (.cells #[.string ⟨#[]⟩,.slice none 0 0,.slice none 0 0] 25)):=⟨_,rfl⟩
 rw [← hw1]
 have HB:=Lib.hid (show Below w.heap.size w w1 by rw [hw1];exact (by repeat (first | exact Below.refl _ _ | refine Below.drew ?_ | refine Below.al ?_ _ | refine Below.sc ?_ _)))
 have Kr:=Lib.hid (show Blk w1 (w.heap.size) 25 #[.string ⟨#[]⟩,.slice none 0 0,.slice none 0 0] by rw [hw1];exact (Blk.new w 25 #[.string ⟨#[]⟩,.slice none 0 0,.slice none 0 0]))
 clear hw1
 obtain ⟨r0,r1,r2⟩:=Kr.out.c3
 have rf0:=Kr.out.frozen 0
 have rf1:=Kr.out.frozen 1
 have rf2:=Kr.out.frozen 2
 have rz:=Kr.out.lt
 go_wp2_with fail
 with_reducible refine (wW6_is ⟨#[120]⟩ _).mono ?_
 rintro e w2 ⟨rfl,hb⟩
 have hbs:=Below.trans (show Below w1.heap.size w1 _ from (by (repeat (first | exact Below.refl _ _ | refine Below.drew ?_ | refine Below.al ?_ _ | refine Below.sc ?_ _)))) (hb.mono (by simp<;>omega))
 have Kr:=Lib.hid (Kr.out.new_ hbs)
 have HB:=Lib.hid (HB.out.trans (hbs.mono HB.out.size))
 have hsz2:=hbs.size
 clear r0 r1 r2 rf0 rf1 rf2 rz hb hbs
 obtain ⟨r0,r1,r2⟩:=Kr.out.c3
 have rf0:=Kr.out.frozen 0
 have rf1:=Kr.out.frozen 1
 have rf2:=Kr.out.frozen 2
 have rz:=Kr.out.lt
 have hs0_2:=HB.out.size
 go_wp2_with fail
 with_reducible refine (wN6_is 1 _).mono ?_
 rintro e w3 ⟨rfl,hb⟩
 have hbs:=Below.trans (show Below w2.heap.size w2 _ from (by (repeat (first | exact Below.refl _ _ | refine Below.drew ?_ | refine Below.al ?_ _ | refine Below.sc ?_ _)))) (hb.mono (by simp<;>omega))
 have Kr:=Lib.hid (Kr.out.new_ hbs)
 have Kt1:=Lib.hid (show Blk w3 (w2.heap.size) 141 #[.int .i64 1,.string ⟨#[]⟩,.int .i64 3,.string ⟨#[120]⟩,.int .i64 0,.slice none 0 0] from (Blk.new _ _ _).new_ hb)
 have HB:=Lib.hid (HB.out.trans (hbs.mono HB.out.size))
 have hsz3:=hbs.size
 clear r0 r1 r2 rf0 rf1 rf2 rz hb hbs
 obtain ⟨r0,r1,r2⟩:=Kr.out.c3
 have rf0:=Kr.out.frozen 0
 have rf1:=Kr.out.frozen 1
 have rf2:=Kr.out.frozen 2
 have rz:=Kr.out.lt
 obtain ⟨t10,t11,t12,t13,t14,t15⟩:=Kt1.out.c6
 have t1z:=Kt1.out.lt
 have hs0_3:=HB.out.size
 go_wp2_with fail
 with_reducible refine (wW6_is ⟨#[121]⟩ _).mono ?_
 rintro e w4 ⟨rfl,hb⟩
 have hbs:=Below.trans (show Below w3.heap.size w3 _ from (by (repeat (first | exact Below.refl _ _ | refine Below.drew ?_ | refine Below.al ?_ _ | refine Below.sc ?_ _)))) (hb.mono (by simp<;>omega))
 have Kr:=Lib.hid (Kr.out.new_ hbs)
 have Kt1:=Lib.hid (Kt1.out.new_ hbs)
 have Kt2:=Lib.hid (show Blk w4 (w3.heap.size) 141 #[.int .i64 1,.string ⟨#[]⟩,.int .i64 2,.string ⟨#[]⟩,.int .i64 1,.slice none 0 0] from ((Blk.new _ _ _).alloc _).new_ hb)
 have Kc:=Lib.hid (show Blk w4 (w3.heap.size+1) 59 #[.int .i64 1,.bool true,.string ⟨#[115]⟩,.slice (some ⟨w2.heap.size,0,none⟩) 1 1,.slice (some ⟨w3.heap.size,0,none⟩) 1 1,.bool false,.slice none 0 0] from ((show Blk ((w3.alloc (.cells #[.int .i64 1,.string ⟨#[]⟩,.int .i64 2,.string ⟨#[]⟩,.int .i64 1,.slice none 0 0] 141)).alloc (.cells #[.int .i64 1,.bool true,.string ⟨#[115]⟩,.slice (some ⟨w2.heap.size,0,none⟩) 1 1,.slice (some ⟨w3.heap.size,0,none⟩) 1 1,.bool false,.slice none 0 0] 59)) (w3.heap.size+1) 59 #[.int .i64 1,.bool true,.string ⟨#[115]⟩,.slice (some ⟨w2.heap.size,0,none⟩) 1 1,.slice (some ⟨w3.heap.size,0,none⟩) 1 1,.bool false,.slice none 0 0] by have hh:=Blk.new (w3.alloc (.cells #[.int .i64 1,.string ⟨#[]⟩,.int .i64 2,.string ⟨#[]⟩,.int .i64 1,.slice none 0 0] 141)) 59 #[.int .i64 1,.bool true,.string ⟨#[115]⟩,.slice (some ⟨w2.heap.size,0,none⟩) 1 1,.slice (some ⟨w3.heap.size,0,none⟩) 1 1,.bool false,.slice none 0 0];simp only [World.size_alloc] at hh;exact hh)).new_ hb)
 have HB:=Lib.hid (HB.out.trans (hbs.mono HB.out.size))
 have hsz4:=hbs.size
 clear r0 r1 r2 rf0 rf1 rf2 rz t10 t11 t12 t13 t14 t15 t1z hb hbs
 obtain ⟨r0,r1,r2⟩:=Kr.out.c3
 have rf0:=Kr.out.frozen 0
 have rf1:=Kr.out.frozen 1
 have rf2:=Kr.out.frozen 2
 have rz:=Kr.out.lt
 obtain ⟨t10,t11,t12,t13,t14,t15⟩:=Kt1.out.c6
 have t1z:=Kt1.out.lt
 obtain ⟨t20,t21,t22,t23,t24,t25⟩:=Kt2.out.c6
 have t2z:=Kt2.out.lt
 obtain ⟨c0,c1,c2,c3,c4,c5,c6⟩:=Kc.out.c7
 have cz:=Kc.out.lt
 go_wp2_with fail
 with_reducible refine (wN6_is 2 _).mono ?_
 rintro e w5 ⟨rfl,hb⟩
 have hbs:=Below.trans (show Below w4.heap.size w4 _ from (by (repeat (first | exact Below.refl _ _ | refine Below.drew ?_ | refine Below.al ?_ _ | refine Below.sc ?_ _)))) (hb.mono (by simp<;>omega))
 have Kr:=Lib.hid (Kr.out.new_ hbs)
 have Kt1:=Lib.hid (Kt1.out.new_ hbs)
 have Kt2:=Lib.hid (Kt2.out.new_ hbs)
 have Kc:=Lib.hid (Kc.out.new_ hbs)
 have HB:=Lib.hid (HB.out.trans (hbs.mono HB.out.size))
 have hsz5:=hbs.size
 clear r0 r1 r2 rf0 rf1 rf2 rz t10 t11 t12 t13 t14 t15 t1z t20 t21 t22 t23 t24 t25 t2z c0 c1 c2 c3 c4 c5 c6 cz hb hbs
 obtain ⟨r0,r1,r2⟩:=Kr.out.c3
 have rf0:=Kr.out.frozen 0
 have rf1:=Kr.out.frozen 1
 have rf2:=Kr.out.frozen 2
 have rz:=Kr.out.lt
 obtain ⟨t10,t11,t12,t13,t14,t15⟩:=Kt1.out.c6
 have t1z:=Kt1.out.lt
 obtain ⟨t20,t21,t22,t23,t24,t25⟩:=Kt2.out.c6
 have t2z:=Kt2.out.lt
 obtain ⟨c0,c1,c2,c3,c4,c5,c6⟩:=Kc.out.c7
 have cz:=Kc.out.lt
 go_wp2_with fail
 obtain ⟨X,hX⟩ : ∃X,X=((w5.setCell ⟨w.heap.size,0,none⟩ (.string ⟨#[97]⟩)).setCell ⟨w.heap.size,1,none⟩ (.slice (some ⟨w3.heap.size+1,0,none⟩) 1 1)).setCell ⟨w.heap.size,2,none⟩ (.slice (some ⟨w5.heap.size,0,none⟩) 1 1):=⟨_,rfl⟩
 rw [← hX]
 have hFX:Fr (· = w.heap.size) w5 X:=by rw [hX];exact (((Fr.refl (· = w.heap.size) w5).setCell (p:=⟨w.heap.size,0,none⟩) (.inl rfl) _).setCell (p:=⟨w.heap.size,1,none⟩) (.inl rfl) _).setCell (p:=⟨w.heap.size,2,none⟩) (.inl rfl) _
 have hsX:X.heap.size=w5.heap.size:=by rw [hX];simp
 have KrX:Blk X w.heap.size 25 #[.string ⟨#[97]⟩,.slice (some ⟨w3.heap.size+1,0,none⟩) 1 1,.slice (some ⟨w5.heap.size,0,none⟩) 1 1]:=by
  rw [hX];simpa using (((Kr.out.set_ 0 (.string ⟨#[97]⟩)).set_ 1 (.slice (some ⟨w3.heap.size+1,0,none⟩) 1 1)).set_ 2 (.slice (some ⟨w5.heap.size,0,none⟩) 1 1))
 obtain ⟨Z,hZ⟩ : ∃Z,Z=X.alloc (.cells #[.string ⟨#[115]⟩,.string ⟨#[]⟩,.int .i64 3,.string ⟨#[121]⟩,.int .i64 0,.int .i64 0,.string ⟨#[]⟩,.int .i64 2,.string ⟨#[]⟩,.int .i64 2,.string ⟨#[]⟩,.int .i64 0,.string ⟨#[]⟩,.int .i64 0,.int .i64 1,.string ⟨#[]⟩,.int .i64 0,.string ⟨#[]⟩,.int .i64 0] 99):=⟨_,rfl⟩
 rw [← hZ]
 have hbZX:Below X.heap.size X Z:=by rw [hZ];exact (Below.refl _ _).alloc (Nat.le_refl _) _
 have ga:Blk Z w5.heap.size 99 #[.string ⟨#[115]⟩,.string ⟨#[]⟩,.int .i64 3,.string ⟨#[121]⟩,.int .i64 0,.int .i64 0,.string ⟨#[]⟩,.int .i64 2,.string ⟨#[]⟩,.int .i64 2,.string ⟨#[]⟩,.int .i64 0,.string ⟨#[]⟩,.int .i64 0,.int .i64 1,.string ⟨#[]⟩,.int .i64 0,.string ⟨#[]⟩,.int .i64 0]:=by rw [hZ,← hsX];exact Blk.new _ _ _
 have KrZ:=KrX.new_ hbZX
 have hB:=HB.out
 have hzw:=hB.size
 have hzX:=hbZX.size
 have hlX:=ga.lt
 have hbZ:Below w.heap.size w Z:=(hB.trans (hFX.below (by omega) (fun k hk hn=>by omega))).trans (hbZX.mono (by omega))
 have k1:=Kt1.out.lt
 have k2:=Kt2.out.lt
 have kc:=Kc.out.lt
 have gt1:=(Kt1.out.fr hFX (Kt1.out.ne_ Kr.out (by decide))).new_ hbZX
 have gt2:=(Kt2.out.fr hFX (Kt2.out.ne_ Kr.out (by decide))).new_ hbZX
 have gc:=(Kc.out.fr hFX (Kc.out.ne_ Kr.out (by decide))).new_ hbZX
 have r0:=(KrZ.cell 0).trans rfl
 have r1:=(KrZ.cell 1).trans rfl
 have r2:=(KrZ.cell 2).trans rfl
 refine bodyPost_ret (v:=.agg #[.string ⟨#[97]⟩,.slice (some ⟨w3.heap.size+1,0,none⟩) 1 1,.slice (some ⟨w5.heap.size,0,none⟩) 1 1]) (by simp [results,Tryz.results48,go_sem,r0,r1,r2]) rfl ?_
 exact ⟨_,_,_,_,rfl,gc,gt1,gt2,ga,⟨by omega,by omega,by omega,by omega⟩,hbZ⟩
theorem wk_rows {X:World} {D:Nat→Prop} {gc gt gv ga:Nat} (i v:ByteArray) (hc:Blk X gc 59 #[.int .i64 1,.bool true,.string i,.slice (some ⟨gt,0,none⟩) 1 1,.slice (some ⟨gv,0,none⟩) 1 1,.bool false,.slice none 0 0]) (ht:Blk X gt 141 #[.int .i64 1,.string ⟨#[]⟩,.int .i64 3,.string ⟨#[120]⟩,.int .i64 0,.slice none 0 0]) (hv:Blk X gv 141 #[.int .i64 1,.string v,.int .i64 0,.string ⟨#[]⟩,.int .i64 0,.slice none 0 0]) (ha:Blk X ga 99 #[.string i,.string ⟨#[]⟩,.int .i64 3,.string ⟨#[121]⟩,.int .i64 0,.int .i64 0,.string ⟨#[]⟩,.int .i64 2,.string ⟨#[]⟩,.int .i64 2,.string ⟨#[]⟩,.int .i64 0,.string ⟨#[]⟩,.int .i64 0,.int .i64 1,.string ⟨#[]⟩,.int .i64 0,.string ⟨#[]⟩,.int .i64 0]) (hD : ∀k,k<X.heap.size→D k) :
 RowR (repCondT 1) D X (some ⟨gc,0,none⟩) 1 (wkP i v).conds∧RowR repActT D X (some ⟨ga,0,none⟩) 1 (wkP i v).acts:=
 ⟨row_oneC (cs:=[.int .i64 1,.bool true,.string i,.slice (some ⟨gt,0,none⟩) 1 1,.slice (some ⟨gv,0,none⟩) 1 1,.bool false,.slice none 0 0]) hc (hD _ hc.lt) ⟨_,_,_,_,none,0,rfl,row_oneC (cs:=[.int .i64 1,.string ⟨#[]⟩,.int .i64 3,.string ⟨#[120]⟩,.int .i64 0,.slice none 0 0]) ht (hD _ ht.lt) ⟨none,0,rfl,RowR.nil _ _ _⟩,row_oneC (cs:=[.int .i64 1,.string v,.int .i64 0,.string ⟨#[]⟩,.int .i64 0,.slice none 0 0]) hv (hD _ hv.lt) ⟨none,0,rfl,RowR.nil _ _ _⟩,RowR.nil _ _ _⟩,row_oneC (cs:=[.string i,.string ⟨#[]⟩,.int .i64 3,.string ⟨#[121]⟩,.int .i64 0,.int .i64 0,.string ⟨#[]⟩,.int .i64 2,.string ⟨#[]⟩,.int .i64 2,.string ⟨#[]⟩,.int .i64 0,.string ⟨#[]⟩,.int .i64 0,.int .i64 1,.string ⟨#[]⟩,.int .i64 0,.string ⟨#[]⟩,.int .i64 0]) ha (hD _ ha.lt) rfl⟩
set_option maxRecDepth 100000 in
set_option maxHeartbeats 16000000 in
theorem wakes23_is (w:World):Calls Tryz.prog 37 #[] w fun e w'=>e = .returned (.bool true)∧Below w.heap.size w w':=by
 have HB:=Lib.hid (Below.refl w.heap.size w)
 go_enter Tryz.func37,Tryz.ntmps37
 go_wp2_with fail
 refine (one_blk w).mono ?_
 rintro e v1 ⟨c1,t1,u1,a1,rfl,hc,ht,hu,ha,⟨l1,l2,l3,l4⟩,hb⟩
 have hsz1:=hb.size
 have LC1:=Lib.hid l1
 have LA1:=Lib.hid l4
 have MC1:=Lib.hid hc.lt
 have MA1:=Lib.hid ha.lt
 have HB:=Lib.hid (HB.out.trans (hb.mono HB.out.size))
 have HC1:=Lib.hid hc
 have HT1:=Lib.hid ht
 have HA1:=Lib.hid ha
 clear hc ht hu ha l1 l2 l3 l4 hb
 go_wp2_with fail
 refine (one_blk v1).mono ?_
 rintro e v2 ⟨c2,t2,u2,a2,rfl,hc,ht,hu,ha,⟨l1,l2,l3,l4⟩,hb⟩
 have hsz2:=hb.size
 have LC2:=Lib.hid l1
 have LA2:=Lib.hid l4
 have MC2:=Lib.hid hc.lt
 have MA2:=Lib.hid ha.lt
 have HC1:=Lib.hid (HC1.out.new_ hb)
 have HT1:=Lib.hid (HT1.out.new_ hb)
 have HA1:=Lib.hid (HA1.out.new_ hb)
 have HB:=Lib.hid (HB.out.trans (hb.mono HB.out.size))
 have HC2:=Lib.hid hc
 have HT2:=Lib.hid ht
 have HA2:=Lib.hid ha
 clear hc ht hu ha l1 l2 l3 l4 hb
 go_wp2_with fail
 refine (one_blk v2).mono ?_
 rintro e v3 ⟨c3,t3,u3,a3,rfl,hc,ht,hu,ha,⟨l1,l2,l3,l4⟩,hb⟩
 have hsz3:=hb.size
 have LC3:=Lib.hid l1
 have LA3:=Lib.hid l4
 have MC3:=Lib.hid hc.lt
 have MA3:=Lib.hid ha.lt
 have HC1:=Lib.hid (HC1.out.new_ hb)
 have HT1:=Lib.hid (HT1.out.new_ hb)
 have HA1:=Lib.hid (HA1.out.new_ hb)
 have HC2:=Lib.hid (HC2.out.new_ hb)
 have HT2:=Lib.hid (HT2.out.new_ hb)
 have HA2:=Lib.hid (HA2.out.new_ hb)
 have HB:=Lib.hid (HB.out.trans (hb.mono HB.out.size))
 have HC3:=Lib.hid hc
 have HT3:=Lib.hid ht
 have HA3:=Lib.hid ha
 clear hc ht hu ha l1 l2 l3 l4 hb
 go_upto_region 2 with fail
 obtain ⟨V0,hV0⟩ : ∃V,V=((v3.alloc (.cells #[.string ⟨#[97]⟩,.slice (some ⟨c1,0,none⟩) 1 1,.slice (some ⟨a1,0,none⟩) 1 1] 25)).alloc (.cells #[.string ⟨#[97]⟩,.slice (some ⟨c2,0,none⟩) 1 1,.slice (some ⟨a2,0,none⟩) 1 1] 25)).alloc (.cells #[.string ⟨#[97]⟩,.slice (some ⟨c3,0,none⟩) 1 1,.slice (some ⟨a3,0,none⟩) 1 1] 25):=⟨_,rfl⟩
 have hb0:Below v3.heap.size v3 V0:=by rw [hV0];exact (((Below.refl _ _).alloc (Nat.le_refl _) _).alloc (by simp) _).alloc (by simp;omega) _
 have HZ0:=Lib.hid (show V0.heap.size=v3.heap.size+3 by rw [hV0];simp)
 have hp1:Blk V0 (v3.heap.size) 25 #[.string ⟨#[97]⟩,.slice (some ⟨c1,0,none⟩) 1 1,.slice (some ⟨a1,0,none⟩) 1 1]:=by rw [hV0];have hh:=(((Blk.new v3 25 #[.string ⟨#[97]⟩,.slice (some ⟨c1,0,none⟩) 1 1,.slice (some ⟨a1,0,none⟩) 1 1]).alloc (.cells #[.string ⟨#[97]⟩,.slice (some ⟨c2,0,none⟩) 1 1,.slice (some ⟨a2,0,none⟩) 1 1] 25)).alloc (.cells #[.string ⟨#[97]⟩,.slice (some ⟨c3,0,none⟩) 1 1,.slice (some ⟨a3,0,none⟩) 1 1] 25));simpa using hh
 have hp2:Blk V0 (v3.heap.size+1) 25 #[.string ⟨#[97]⟩,.slice (some ⟨c2,0,none⟩) 1 1,.slice (some ⟨a2,0,none⟩) 1 1]:=by rw [hV0];have hh:=((Blk.new (v3.alloc (.cells #[.string ⟨#[97]⟩,.slice (some ⟨c1,0,none⟩) 1 1,.slice (some ⟨a1,0,none⟩) 1 1] 25)) 25 #[.string ⟨#[97]⟩,.slice (some ⟨c2,0,none⟩) 1 1,.slice (some ⟨a2,0,none⟩) 1 1]).alloc (.cells #[.string ⟨#[97]⟩,.slice (some ⟨c3,0,none⟩) 1 1,.slice (some ⟨a3,0,none⟩) 1 1] 25));simpa using hh
 have hp3:Blk V0 (v3.heap.size+2) 25 #[.string ⟨#[97]⟩,.slice (some ⟨c3,0,none⟩) 1 1,.slice (some ⟨a3,0,none⟩) 1 1]:=by rw [hV0];have hh:=(Blk.new ((v3.alloc (.cells #[.string ⟨#[97]⟩,.slice (some ⟨c1,0,none⟩) 1 1,.slice (some ⟨a1,0,none⟩) 1 1] 25)).alloc (.cells #[.string ⟨#[97]⟩,.slice (some ⟨c2,0,none⟩) 1 1,.slice (some ⟨a2,0,none⟩) 1 1] 25)) 25 #[.string ⟨#[97]⟩,.slice (some ⟨c3,0,none⟩) 1 1,.slice (some ⟨a3,0,none⟩) 1 1]);simpa using hh
 have HC1:=Lib.hid (HC1.out.new_ hb0)
 have HT1:=Lib.hid (HT1.out.new_ hb0)
 have HA1:=Lib.hid (HA1.out.new_ hb0)
 have HC2:=Lib.hid (HC2.out.new_ hb0)
 have HT2:=Lib.hid (HT2.out.new_ hb0)
 have HA2:=Lib.hid (HA2.out.new_ hb0)
 have HC3:=Lib.hid (HC3.out.new_ hb0)
 have HT3:=Lib.hid (HT3.out.new_ hb0)
 have HA3:=Lib.hid (HA3.out.new_ hb0)
 have HB:=Lib.hid (HB.out.trans (hb0.mono HB.out.size))
 rw [← hV0]
 clear hV0 hb0
 have HP1:=Lib.hid hp1
 clear hp1
 have HP2:=Lib.hid hp2
 clear hp2
 have HP3:=Lib.hid hp3
 clear hp3
 have xP1_1:V0.cell? ⟨v3.heap.size,1,none⟩=some (.slice (some ⟨c1,0,none⟩) 1 1):=(HP1.out.cell 1).trans rfl
 have zP1:=HP1.out.lt
 have xC1_4:V0.cell? ⟨c1,4,none⟩=some (.slice (some ⟨u1,0,none⟩) 1 1):=(HC1.out.cell 4).trans rfl
 have zC1:=HC1.out.lt
 have f4:=HC1.out.frozen 4
 go_upto_region 3 with fail
 obtain ⟨V1,hV1⟩ : ∃V,V=(V0.setCell ⟨c1,4,none⟩ (.slice (some ⟨V0.heap.size,0,none⟩) 1 1)).alloc (.cells #[.int .i64 1,.string ⟨#[121]⟩,.int .i64 0,.string ⟨#[]⟩,.int .i64 0,.slice none 0 0] 141):=⟨_,rfl⟩
 rw [← hV1]
 have hC1:Blk V1 (c1) 59 #[.int .i64 1,.bool true,.string ⟨#[115]⟩,.slice (some ⟨t1,0,none⟩) 1 1,.slice (some ⟨V0.heap.size,0,none⟩) 1 1,.bool false,.slice none 0 0]:=by rw [hV1];exact ((HC1.out.set_ 4 (.slice (some ⟨V0.heap.size,0,none⟩) 1 1))).alloc _
 have hT1:Blk V1 (t1) 141 #[.int .i64 1,.string ⟨#[]⟩,.int .i64 3,.string ⟨#[120]⟩,.int .i64 0,.slice none 0 0]:=by rw [hV1];exact ((HT1.out.far (p:=⟨c1,4,none⟩) (HT1.out.ne_ HC1.out (by decide)) (.slice (some ⟨V0.heap.size,0,none⟩) 1 1))).alloc _
 have hA1:Blk V1 (a1) 99 #[.string ⟨#[115]⟩,.string ⟨#[]⟩,.int .i64 3,.string ⟨#[121]⟩,.int .i64 0,.int .i64 0,.string ⟨#[]⟩,.int .i64 2,.string ⟨#[]⟩,.int .i64 2,.string ⟨#[]⟩,.int .i64 0,.string ⟨#[]⟩,.int .i64 0,.int .i64 1,.string ⟨#[]⟩,.int .i64 0,.string ⟨#[]⟩,.int .i64 0]:=by rw [hV1];exact ((HA1.out.far (p:=⟨c1,4,none⟩) (HA1.out.ne_ HC1.out (by decide)) (.slice (some ⟨V0.heap.size,0,none⟩) 1 1))).alloc _
 have hC2:Blk V1 (c2) 59 #[.int .i64 1,.bool true,.string ⟨#[115]⟩,.slice (some ⟨t2,0,none⟩) 1 1,.slice (some ⟨u2,0,none⟩) 1 1,.bool false,.slice none 0 0]:=by rw [hV1];exact ((HC2.out.far (p:=⟨c1,4,none⟩) (by dsimp only;have:=LC1.out;have:=LC2.out;have:=LC3.out;have:=MC1.out;have:=MC2.out;have:=MC3.out;have:=LA1.out;have:=LA2.out;have:=LA3.out;have:=MA1.out;have:=MA2.out;have:=MA3.out;omega) (.slice (some ⟨V0.heap.size,0,none⟩) 1 1))).alloc _
 have hT2:Blk V1 (t2) 141 #[.int .i64 1,.string ⟨#[]⟩,.int .i64 3,.string ⟨#[120]⟩,.int .i64 0,.slice none 0 0]:=by rw [hV1];exact ((HT2.out.far (p:=⟨c1,4,none⟩) (HT2.out.ne_ HC1.out (by decide)) (.slice (some ⟨V0.heap.size,0,none⟩) 1 1))).alloc _
 have hA2:Blk V1 (a2) 99 #[.string ⟨#[115]⟩,.string ⟨#[]⟩,.int .i64 3,.string ⟨#[121]⟩,.int .i64 0,.int .i64 0,.string ⟨#[]⟩,.int .i64 2,.string ⟨#[]⟩,.int .i64 2,.string ⟨#[]⟩,.int .i64 0,.string ⟨#[]⟩,.int .i64 0,.int .i64 1,.string ⟨#[]⟩,.int .i64 0,.string ⟨#[]⟩,.int .i64 0]:=by rw [hV1];exact ((HA2.out.far (p:=⟨c1,4,none⟩) (HA2.out.ne_ HC1.out (by decide)) (.slice (some ⟨V0.heap.size,0,none⟩) 1 1))).alloc _
 have hC3:Blk V1 (c3) 59 #[.int .i64 1,.bool true,.string ⟨#[115]⟩,.slice (some ⟨t3,0,none⟩) 1 1,.slice (some ⟨u3,0,none⟩) 1 1,.bool false,.slice none 0 0]:=by rw [hV1];exact ((HC3.out.far (p:=⟨c1,4,none⟩) (by dsimp only;have:=LC1.out;have:=LC2.out;have:=LC3.out;have:=MC1.out;have:=MC2.out;have:=MC3.out;have:=LA1.out;have:=LA2.out;have:=LA3.out;have:=MA1.out;have:=MA2.out;have:=MA3.out;omega) (.slice (some ⟨V0.heap.size,0,none⟩) 1 1))).alloc _
 have hT3:Blk V1 (t3) 141 #[.int .i64 1,.string ⟨#[]⟩,.int .i64 3,.string ⟨#[120]⟩,.int .i64 0,.slice none 0 0]:=by rw [hV1];exact ((HT3.out.far (p:=⟨c1,4,none⟩) (HT3.out.ne_ HC1.out (by decide)) (.slice (some ⟨V0.heap.size,0,none⟩) 1 1))).alloc _
 have hA3:Blk V1 (a3) 99 #[.string ⟨#[115]⟩,.string ⟨#[]⟩,.int .i64 3,.string ⟨#[121]⟩,.int .i64 0,.int .i64 0,.string ⟨#[]⟩,.int .i64 2,.string ⟨#[]⟩,.int .i64 2,.string ⟨#[]⟩,.int .i64 0,.string ⟨#[]⟩,.int .i64 0,.int .i64 1,.string ⟨#[]⟩,.int .i64 0,.string ⟨#[]⟩,.int .i64 0]:=by rw [hV1];exact ((HA3.out.far (p:=⟨c1,4,none⟩) (HA3.out.ne_ HC1.out (by decide)) (.slice (some ⟨V0.heap.size,0,none⟩) 1 1))).alloc _
 have hP1:Blk V1 (v3.heap.size) 25 #[.string ⟨#[97]⟩,.slice (some ⟨c1,0,none⟩) 1 1,.slice (some ⟨a1,0,none⟩) 1 1]:=by rw [hV1];exact ((HP1.out.far (p:=⟨c1,4,none⟩) (HP1.out.ne_ HC1.out (by decide)) (.slice (some ⟨V0.heap.size,0,none⟩) 1 1))).alloc _
 have hP2:Blk V1 (v3.heap.size+1) 25 #[.string ⟨#[97]⟩,.slice (some ⟨c2,0,none⟩) 1 1,.slice (some ⟨a2,0,none⟩) 1 1]:=by rw [hV1];exact ((HP2.out.far (p:=⟨c1,4,none⟩) (HP2.out.ne_ HC1.out (by decide)) (.slice (some ⟨V0.heap.size,0,none⟩) 1 1))).alloc _
 have hP3:Blk V1 (v3.heap.size+2) 25 #[.string ⟨#[97]⟩,.slice (some ⟨c3,0,none⟩) 1 1,.slice (some ⟨a3,0,none⟩) 1 1]:=by rw [hV1];exact ((HP3.out.far (p:=⟨c1,4,none⟩) (HP3.out.ne_ HC1.out (by decide)) (.slice (some ⟨V0.heap.size,0,none⟩) 1 1))).alloc _
 have hn:Blk V1 V0.heap.size 141 #[.int .i64 1,.string ⟨#[121]⟩,.int .i64 0,.string ⟨#[]⟩,.int .i64 0,.slice none 0 0]:=by rw [hV1];have hh:=Blk.new (V0.setCell ⟨c1,4,none⟩ (.slice (some ⟨V0.heap.size,0,none⟩) 1 1)) 141 #[.int .i64 1,.string ⟨#[121]⟩,.int .i64 0,.string ⟨#[]⟩,.int .i64 0,.slice none 0 0];simpa using hh
 have HBn:=Lib.hid (show Below w.heap.size w V1 by rw [hV1];exact (HB.out.setCell (by have:=LC1.out;dsimp only;omega) _).alloc (by have:=HB.out.size;simpa using this) _)
 clear HB
 have HB:=HBn
 clear HBn
 clear xP1_1 zP1 xC1_4 zC1 f4 hV1
 have HC1:=Lib.hid hC1
 clear hC1
 have HT1:=Lib.hid hT1
 clear hT1
 have HA1:=Lib.hid hA1
 clear hA1
 have HC2:=Lib.hid hC2
 clear hC2
 have HT2:=Lib.hid hT2
 clear hT2
 have HA2:=Lib.hid hA2
 clear hA2
 have HC3:=Lib.hid hC3
 clear hC3
 have HT3:=Lib.hid hT3
 clear hT3
 have HA3:=Lib.hid hA3
 clear hA3
 have HP1:=Lib.hid hP1
 clear hP1
 have HP2:=Lib.hid hP2
 clear hP2
 have HP3:=Lib.hid hP3
 clear hP3
 obtain ⟨y1,hy1⟩ : ∃y,y=V0.heap.size:=⟨_,rfl⟩
 rw [← hy1] at hn HC1
 have HY1:=Lib.hid hn
 clear hn hy1
 have xP2_1:V1.cell? ⟨v3.heap.size+1,1,none⟩=some (.slice (some ⟨c2,0,none⟩) 1 1):=(HP2.out.cell 1).trans rfl
 have xP2_2:V1.cell? ⟨v3.heap.size+1,2,none⟩=some (.slice (some ⟨a2,0,none⟩) 1 1):=(HP2.out.cell 2).trans rfl
 have zP2:=HP2.out.lt
 have xC2_2:V1.cell? ⟨c2,2,none⟩=some (.string ⟨#[115]⟩):=(HC2.out.cell 2).trans rfl
 have zC2:=HC2.out.lt
 have xA2_0:V1.cell? ⟨a2,0,none⟩=some (.string ⟨#[115]⟩):=(HA2.out.cell 0).trans rfl
 have zA2:=HA2.out.lt
 have f2:=HC2.out.frozen 2
 have f0:=HA2.out.frozen 0
 have hca:=HC2.out.ne_ HA2.out (by decide)
 have hac:=HA2.out.ne_ HC2.out (by decide)
 have hcp:=HP2.out.ne_ HC2.out (by decide)
 refine wp_region_E (fun w9=>w9.cell? ⟨v3.heap.size+1,1,none⟩=some (.slice (some ⟨c2,0,none⟩) 1 1)∧w9.cell? ⟨v3.heap.size+1,2,none⟩=some (.slice (some ⟨a2,0,none⟩) 1 1)) [(0,0),(1,1),(2,0),(3,1),(4,0),(5,0),(6,2),(7,0),(8,0),(9,2)] (by kernel_rfl) (by kernel_rfl) (fun KK hKK=>?_)
 simp only [beside,List.filterMap_cons,List.filterMap_nil,List.getElem?_toArray,List.getElem?_cons_zero,List.getElem?_cons_succ,Option.map_some]
 repeat ((first | (refine wpX_w ?_ (Or.inl ⟨by rfl,fun w9=>?_⟩) ?_;rotate_left 1;go_simp;with_reducible rfl) | (refine wpX_l ?_ ((And.intro xP2_1 xP2_2)) (Or.inl ⟨by rfl,fun w9 hw9=>?_⟩) ?_;rotate_left 1;obtain ⟨s1,s2⟩:=hw9;go_simp;with_reducible rfl) | refine wpX_w undef (Or.inr ⟨by rfl,rfl⟩) ?_ | refine wpX_l undef ((And.intro xP2_1 xP2_2)) (Or.inr ⟨by rfl,rfl⟩) ?_);go_frame)
 refine wpX_es (fun K9 hK9=>?_)
 go_simp
 refine hK9 _ _ (And.intro (((HP2.out.far (p:=⟨c2,2,none⟩) hcp (.string ⟨#[97]⟩)).drew.cell 1).trans rfl) (((HP2.out.far (p:=⟨c2,2,none⟩) hcp (.string ⟨#[97]⟩)).drew.cell 2).trans rfl)) ?_
 clear hK9 K9
 repeat ((first | (refine wpX_w ?_ (Or.inl ⟨by rfl,fun w9=>?_⟩) ?_;rotate_left 1;go_simp;with_reducible rfl) | (refine wpX_l ?_ ((And.intro (((HP2.out.far (p:=⟨c2,2,none⟩) hcp (.string ⟨#[97]⟩)).drew.cell 1).trans rfl) (((HP2.out.far (p:=⟨c2,2,none⟩) hcp (.string ⟨#[97]⟩)).drew.cell 2).trans rfl))) (Or.inl ⟨by rfl,fun w9 hw9=>?_⟩) ?_;rotate_left 1;obtain ⟨s1,s2⟩:=hw9;go_simp;with_reducible rfl) | refine wpX_w undef (Or.inr ⟨by rfl,rfl⟩) ?_ | refine wpX_l undef ((And.intro (((HP2.out.far (p:=⟨c2,2,none⟩) hcp (.string ⟨#[97]⟩)).drew.cell 1).trans rfl) (((HP2.out.far (p:=⟨c2,2,none⟩) hcp (.string ⟨#[97]⟩)).drew.cell 2).trans rfl))) (Or.inr ⟨by rfl,rfl⟩) ?_);go_frame)
 refine wpX_e (by kernel_rfl) (fun K9 hK9=>?_)
 go_simp
 refine hK9 _ _ ?_
 clear hK9 K9
 refine wpX_nil ?_
 simp only [OnlyN_normal]
 refine hKK _ _ ?_
 clear hKK KK
 obtain ⟨V2,hV2⟩ : ∃V,V=((V1.setCell ⟨c2,2,none⟩ (.string ⟨#[97]⟩)).setCell ⟨a2,0,none⟩ (.string ⟨#[97]⟩)).drew:=⟨_,rfl⟩
 rw [← hV2]
 have hC1:Blk V2 (c1) 59 #[.int .i64 1,.bool true,.string ⟨#[115]⟩,.slice (some ⟨t1,0,none⟩) 1 1,.slice (some ⟨y1,0,none⟩) 1 1,.bool false,.slice none 0 0]:=by rw [hV2];exact (((HC1.out.far (p:=⟨c2,2,none⟩) (by dsimp only;have:=LC1.out;have:=LC2.out;have:=LC3.out;have:=MC1.out;have:=MC2.out;have:=MC3.out;have:=LA1.out;have:=LA2.out;have:=LA3.out;have:=MA1.out;have:=MA2.out;have:=MA3.out;omega) (.string ⟨#[97]⟩)).far (p:=⟨a2,0,none⟩) (HC1.out.ne_ HA2.out (by decide)) (.string ⟨#[97]⟩))).drew
 have hT1:Blk V2 (t1) 141 #[.int .i64 1,.string ⟨#[]⟩,.int .i64 3,.string ⟨#[120]⟩,.int .i64 0,.slice none 0 0]:=by rw [hV2];exact (((HT1.out.far (p:=⟨c2,2,none⟩) (HT1.out.ne_ HC2.out (by decide)) (.string ⟨#[97]⟩)).far (p:=⟨a2,0,none⟩) (HT1.out.ne_ HA2.out (by decide)) (.string ⟨#[97]⟩))).drew
 have hA1:Blk V2 (a1) 99 #[.string ⟨#[115]⟩,.string ⟨#[]⟩,.int .i64 3,.string ⟨#[121]⟩,.int .i64 0,.int .i64 0,.string ⟨#[]⟩,.int .i64 2,.string ⟨#[]⟩,.int .i64 2,.string ⟨#[]⟩,.int .i64 0,.string ⟨#[]⟩,.int .i64 0,.int .i64 1,.string ⟨#[]⟩,.int .i64 0,.string ⟨#[]⟩,.int .i64 0]:=by rw [hV2];exact (((HA1.out.far (p:=⟨c2,2,none⟩) (HA1.out.ne_ HC2.out (by decide)) (.string ⟨#[97]⟩)).far (p:=⟨a2,0,none⟩) (by dsimp only;have:=LC1.out;have:=LC2.out;have:=LC3.out;have:=MC1.out;have:=MC2.out;have:=MC3.out;have:=LA1.out;have:=LA2.out;have:=LA3.out;have:=MA1.out;have:=MA2.out;have:=MA3.out;omega) (.string ⟨#[97]⟩))).drew
 have hC2:Blk V2 (c2) 59 #[.int .i64 1,.bool true,.string ⟨#[97]⟩,.slice (some ⟨t2,0,none⟩) 1 1,.slice (some ⟨u2,0,none⟩) 1 1,.bool false,.slice none 0 0]:=by rw [hV2];exact (((HC2.out.set_ 2 (.string ⟨#[97]⟩)).far (p:=⟨a2,0,none⟩) (HC2.out.ne_ HA2.out (by decide)) (.string ⟨#[97]⟩))).drew
 have hT2:Blk V2 (t2) 141 #[.int .i64 1,.string ⟨#[]⟩,.int .i64 3,.string ⟨#[120]⟩,.int .i64 0,.slice none 0 0]:=by rw [hV2];exact (((HT2.out.far (p:=⟨c2,2,none⟩) (HT2.out.ne_ HC2.out (by decide)) (.string ⟨#[97]⟩)).far (p:=⟨a2,0,none⟩) (HT2.out.ne_ HA2.out (by decide)) (.string ⟨#[97]⟩))).drew
 have hA2:Blk V2 (a2) 99 #[.string ⟨#[97]⟩,.string ⟨#[]⟩,.int .i64 3,.string ⟨#[121]⟩,.int .i64 0,.int .i64 0,.string ⟨#[]⟩,.int .i64 2,.string ⟨#[]⟩,.int .i64 2,.string ⟨#[]⟩,.int .i64 0,.string ⟨#[]⟩,.int .i64 0,.int .i64 1,.string ⟨#[]⟩,.int .i64 0,.string ⟨#[]⟩,.int .i64 0]:=by rw [hV2];exact (((HA2.out.far (p:=⟨c2,2,none⟩) (HA2.out.ne_ HC2.out (by decide)) (.string ⟨#[97]⟩)).set_ 0 (.string ⟨#[97]⟩))).drew
 have hC3:Blk V2 (c3) 59 #[.int .i64 1,.bool true,.string ⟨#[115]⟩,.slice (some ⟨t3,0,none⟩) 1 1,.slice (some ⟨u3,0,none⟩) 1 1,.bool false,.slice none 0 0]:=by rw [hV2];exact (((HC3.out.far (p:=⟨c2,2,none⟩) (by dsimp only;have:=LC1.out;have:=LC2.out;have:=LC3.out;have:=MC1.out;have:=MC2.out;have:=MC3.out;have:=LA1.out;have:=LA2.out;have:=LA3.out;have:=MA1.out;have:=MA2.out;have:=MA3.out;omega) (.string ⟨#[97]⟩)).far (p:=⟨a2,0,none⟩) (HC3.out.ne_ HA2.out (by decide)) (.string ⟨#[97]⟩))).drew
 have hT3:Blk V2 (t3) 141 #[.int .i64 1,.string ⟨#[]⟩,.int .i64 3,.string ⟨#[120]⟩,.int .i64 0,.slice none 0 0]:=by rw [hV2];exact (((HT3.out.far (p:=⟨c2,2,none⟩) (HT3.out.ne_ HC2.out (by decide)) (.string ⟨#[97]⟩)).far (p:=⟨a2,0,none⟩) (HT3.out.ne_ HA2.out (by decide)) (.string ⟨#[97]⟩))).drew
 have hA3:Blk V2 (a3) 99 #[.string ⟨#[115]⟩,.string ⟨#[]⟩,.int .i64 3,.string ⟨#[121]⟩,.int .i64 0,.int .i64 0,.string ⟨#[]⟩,.int .i64 2,.string ⟨#[]⟩,.int .i64 2,.string ⟨#[]⟩,.int .i64 0,.string ⟨#[]⟩,.int .i64 0,.int .i64 1,.string ⟨#[]⟩,.int .i64 0,.string ⟨#[]⟩,.int .i64 0]:=by rw [hV2];exact (((HA3.out.far (p:=⟨c2,2,none⟩) (HA3.out.ne_ HC2.out (by decide)) (.string ⟨#[97]⟩)).far (p:=⟨a2,0,none⟩) (by dsimp only;have:=LC1.out;have:=LC2.out;have:=LC3.out;have:=MC1.out;have:=MC2.out;have:=MC3.out;have:=LA1.out;have:=LA2.out;have:=LA3.out;have:=MA1.out;have:=MA2.out;have:=MA3.out;omega) (.string ⟨#[97]⟩))).drew
 have hP1:Blk V2 (v3.heap.size) 25 #[.string ⟨#[97]⟩,.slice (some ⟨c1,0,none⟩) 1 1,.slice (some ⟨a1,0,none⟩) 1 1]:=by rw [hV2];exact (((HP1.out.far (p:=⟨c2,2,none⟩) (HP1.out.ne_ HC2.out (by decide)) (.string ⟨#[97]⟩)).far (p:=⟨a2,0,none⟩) (HP1.out.ne_ HA2.out (by decide)) (.string ⟨#[97]⟩))).drew
 have hP2:Blk V2 (v3.heap.size+1) 25 #[.string ⟨#[97]⟩,.slice (some ⟨c2,0,none⟩) 1 1,.slice (some ⟨a2,0,none⟩) 1 1]:=by rw [hV2];exact (((HP2.out.far (p:=⟨c2,2,none⟩) (HP2.out.ne_ HC2.out (by decide)) (.string ⟨#[97]⟩)).far (p:=⟨a2,0,none⟩) (HP2.out.ne_ HA2.out (by decide)) (.string ⟨#[97]⟩))).drew
 have hP3:Blk V2 (v3.heap.size+2) 25 #[.string ⟨#[97]⟩,.slice (some ⟨c3,0,none⟩) 1 1,.slice (some ⟨a3,0,none⟩) 1 1]:=by rw [hV2];exact (((HP3.out.far (p:=⟨c2,2,none⟩) (HP3.out.ne_ HC2.out (by decide)) (.string ⟨#[97]⟩)).far (p:=⟨a2,0,none⟩) (HP3.out.ne_ HA2.out (by decide)) (.string ⟨#[97]⟩))).drew
 have hY1:Blk V2 (y1) 141 #[.int .i64 1,.string ⟨#[121]⟩,.int .i64 0,.string ⟨#[]⟩,.int .i64 0,.slice none 0 0]:=by rw [hV2];exact (((HY1.out.far (p:=⟨c2,2,none⟩) (HY1.out.ne_ HC2.out (by decide)) (.string ⟨#[97]⟩)).far (p:=⟨a2,0,none⟩) (HY1.out.ne_ HA2.out (by decide)) (.string ⟨#[97]⟩))).drew
 have HBn:=Lib.hid (show Below w.heap.size w V2 by rw [hV2];exact ((HB.out.setCell (by have:=LC2.out;dsimp only;omega) _).setCell (by have:=LA2.out;dsimp only;omega) _).drew)
 clear HB
 have HB:=HBn
 clear HBn
 clear xP2_1 xP2_2 zP2 xC2_2 zC2 xA2_0 zA2 f2 f0 hca hac hcp hV2
 have HC1:=Lib.hid hC1
 clear hC1
 have HT1:=Lib.hid hT1
 clear hT1
 have HA1:=Lib.hid hA1
 clear hA1
 have HC2:=Lib.hid hC2
 clear hC2
 have HT2:=Lib.hid hT2
 clear hT2
 have HA2:=Lib.hid hA2
 clear hA2
 have HC3:=Lib.hid hC3
 clear hC3
 have HT3:=Lib.hid hT3
 clear hT3
 have HA3:=Lib.hid hA3
 clear hA3
 have HP1:=Lib.hid hP1
 clear hP1
 have HP2:=Lib.hid hP2
 clear hP2
 have HP3:=Lib.hid hP3
 clear hP3
 have HY1:=Lib.hid hY1
 clear hY1
 have xP2_1:V2.cell? ⟨v3.heap.size+1,1,none⟩=some (.slice (some ⟨c2,0,none⟩) 1 1):=(HP2.out.cell 1).trans rfl
 have zP2:=HP2.out.lt
 have xC2_4:V2.cell? ⟨c2,4,none⟩=some (.slice (some ⟨u2,0,none⟩) 1 1):=(HC2.out.cell 4).trans rfl
 have zC2:=HC2.out.lt
 have f4:=HC2.out.frozen 4
 go_upto_region 5 with fail
 obtain ⟨V3,hV3⟩ : ∃V,V=(V2.setCell ⟨c2,4,none⟩ (.slice (some ⟨V2.heap.size,0,none⟩) 1 1)).alloc (.cells #[.int .i64 1,.string ⟨#[98]⟩,.int .i64 0,.string ⟨#[]⟩,.int .i64 0,.slice none 0 0] 141):=⟨_,rfl⟩
 rw [← hV3]
 have hC1:Blk V3 (c1) 59 #[.int .i64 1,.bool true,.string ⟨#[115]⟩,.slice (some ⟨t1,0,none⟩) 1 1,.slice (some ⟨y1,0,none⟩) 1 1,.bool false,.slice none 0 0]:=by rw [hV3];exact ((HC1.out.far (p:=⟨c2,4,none⟩) (by dsimp only;have:=LC1.out;have:=LC2.out;have:=LC3.out;have:=MC1.out;have:=MC2.out;have:=MC3.out;have:=LA1.out;have:=LA2.out;have:=LA3.out;have:=MA1.out;have:=MA2.out;have:=MA3.out;omega) (.slice (some ⟨V2.heap.size,0,none⟩) 1 1))).alloc _
 have hT1:Blk V3 (t1) 141 #[.int .i64 1,.string ⟨#[]⟩,.int .i64 3,.string ⟨#[120]⟩,.int .i64 0,.slice none 0 0]:=by rw [hV3];exact ((HT1.out.far (p:=⟨c2,4,none⟩) (HT1.out.ne_ HC2.out (by decide)) (.slice (some ⟨V2.heap.size,0,none⟩) 1 1))).alloc _
 have hA1:Blk V3 (a1) 99 #[.string ⟨#[115]⟩,.string ⟨#[]⟩,.int .i64 3,.string ⟨#[121]⟩,.int .i64 0,.int .i64 0,.string ⟨#[]⟩,.int .i64 2,.string ⟨#[]⟩,.int .i64 2,.string ⟨#[]⟩,.int .i64 0,.string ⟨#[]⟩,.int .i64 0,.int .i64 1,.string ⟨#[]⟩,.int .i64 0,.string ⟨#[]⟩,.int .i64 0]:=by rw [hV3];exact ((HA1.out.far (p:=⟨c2,4,none⟩) (HA1.out.ne_ HC2.out (by decide)) (.slice (some ⟨V2.heap.size,0,none⟩) 1 1))).alloc _
 have hC2:Blk V3 (c2) 59 #[.int .i64 1,.bool true,.string ⟨#[97]⟩,.slice (some ⟨t2,0,none⟩) 1 1,.slice (some ⟨V2.heap.size,0,none⟩) 1 1,.bool false,.slice none 0 0]:=by rw [hV3];exact ((HC2.out.set_ 4 (.slice (some ⟨V2.heap.size,0,none⟩) 1 1))).alloc _
 have hT2:Blk V3 (t2) 141 #[.int .i64 1,.string ⟨#[]⟩,.int .i64 3,.string ⟨#[120]⟩,.int .i64 0,.slice none 0 0]:=by rw [hV3];exact ((HT2.out.far (p:=⟨c2,4,none⟩) (HT2.out.ne_ HC2.out (by decide)) (.slice (some ⟨V2.heap.size,0,none⟩) 1 1))).alloc _
 have hA2:Blk V3 (a2) 99 #[.string ⟨#[97]⟩,.string ⟨#[]⟩,.int .i64 3,.string ⟨#[121]⟩,.int .i64 0,.int .i64 0,.string ⟨#[]⟩,.int .i64 2,.string ⟨#[]⟩,.int .i64 2,.string ⟨#[]⟩,.int .i64 0,.string ⟨#[]⟩,.int .i64 0,.int .i64 1,.string ⟨#[]⟩,.int .i64 0,.string ⟨#[]⟩,.int .i64 0]:=by rw [hV3];exact ((HA2.out.far (p:=⟨c2,4,none⟩) (HA2.out.ne_ HC2.out (by decide)) (.slice (some ⟨V2.heap.size,0,none⟩) 1 1))).alloc _
 have hC3:Blk V3 (c3) 59 #[.int .i64 1,.bool true,.string ⟨#[115]⟩,.slice (some ⟨t3,0,none⟩) 1 1,.slice (some ⟨u3,0,none⟩) 1 1,.bool false,.slice none 0 0]:=by rw [hV3];exact ((HC3.out.far (p:=⟨c2,4,none⟩) (by dsimp only;have:=LC1.out;have:=LC2.out;have:=LC3.out;have:=MC1.out;have:=MC2.out;have:=MC3.out;have:=LA1.out;have:=LA2.out;have:=LA3.out;have:=MA1.out;have:=MA2.out;have:=MA3.out;omega) (.slice (some ⟨V2.heap.size,0,none⟩) 1 1))).alloc _
 have hT3:Blk V3 (t3) 141 #[.int .i64 1,.string ⟨#[]⟩,.int .i64 3,.string ⟨#[120]⟩,.int .i64 0,.slice none 0 0]:=by rw [hV3];exact ((HT3.out.far (p:=⟨c2,4,none⟩) (HT3.out.ne_ HC2.out (by decide)) (.slice (some ⟨V2.heap.size,0,none⟩) 1 1))).alloc _
 have hA3:Blk V3 (a3) 99 #[.string ⟨#[115]⟩,.string ⟨#[]⟩,.int .i64 3,.string ⟨#[121]⟩,.int .i64 0,.int .i64 0,.string ⟨#[]⟩,.int .i64 2,.string ⟨#[]⟩,.int .i64 2,.string ⟨#[]⟩,.int .i64 0,.string ⟨#[]⟩,.int .i64 0,.int .i64 1,.string ⟨#[]⟩,.int .i64 0,.string ⟨#[]⟩,.int .i64 0]:=by rw [hV3];exact ((HA3.out.far (p:=⟨c2,4,none⟩) (HA3.out.ne_ HC2.out (by decide)) (.slice (some ⟨V2.heap.size,0,none⟩) 1 1))).alloc _
 have hP1:Blk V3 (v3.heap.size) 25 #[.string ⟨#[97]⟩,.slice (some ⟨c1,0,none⟩) 1 1,.slice (some ⟨a1,0,none⟩) 1 1]:=by rw [hV3];exact ((HP1.out.far (p:=⟨c2,4,none⟩) (HP1.out.ne_ HC2.out (by decide)) (.slice (some ⟨V2.heap.size,0,none⟩) 1 1))).alloc _
 have hP2:Blk V3 (v3.heap.size+1) 25 #[.string ⟨#[97]⟩,.slice (some ⟨c2,0,none⟩) 1 1,.slice (some ⟨a2,0,none⟩) 1 1]:=by rw [hV3];exact ((HP2.out.far (p:=⟨c2,4,none⟩) (HP2.out.ne_ HC2.out (by decide)) (.slice (some ⟨V2.heap.size,0,none⟩) 1 1))).alloc _
 have hP3:Blk V3 (v3.heap.size+2) 25 #[.string ⟨#[97]⟩,.slice (some ⟨c3,0,none⟩) 1 1,.slice (some ⟨a3,0,none⟩) 1 1]:=by rw [hV3];exact ((HP3.out.far (p:=⟨c2,4,none⟩) (HP3.out.ne_ HC2.out (by decide)) (.slice (some ⟨V2.heap.size,0,none⟩) 1 1))).alloc _
 have hY1:Blk V3 (y1) 141 #[.int .i64 1,.string ⟨#[121]⟩,.int .i64 0,.string ⟨#[]⟩,.int .i64 0,.slice none 0 0]:=by rw [hV3];exact ((HY1.out.far (p:=⟨c2,4,none⟩) (HY1.out.ne_ HC2.out (by decide)) (.slice (some ⟨V2.heap.size,0,none⟩) 1 1))).alloc _
 have hn:Blk V3 V2.heap.size 141 #[.int .i64 1,.string ⟨#[98]⟩,.int .i64 0,.string ⟨#[]⟩,.int .i64 0,.slice none 0 0]:=by rw [hV3];have hh:=Blk.new (V2.setCell ⟨c2,4,none⟩ (.slice (some ⟨V2.heap.size,0,none⟩) 1 1)) 141 #[.int .i64 1,.string ⟨#[98]⟩,.int .i64 0,.string ⟨#[]⟩,.int .i64 0,.slice none 0 0];simpa using hh
 have HBn:=Lib.hid (show Below w.heap.size w V3 by rw [hV3];exact (HB.out.setCell (by have:=LC2.out;dsimp only;omega) _).alloc (by have:=HB.out.size;simpa using this) _)
 clear HB
 have HB:=HBn
 clear HBn
 clear xP2_1 zP2 xC2_4 zC2 f4 hV3
 have HC1:=Lib.hid hC1
 clear hC1
 have HT1:=Lib.hid hT1
 clear hT1
 have HA1:=Lib.hid hA1
 clear hA1
 have HC2:=Lib.hid hC2
 clear hC2
 have HT2:=Lib.hid hT2
 clear hT2
 have HA2:=Lib.hid hA2
 clear hA2
 have HC3:=Lib.hid hC3
 clear hC3
 have HT3:=Lib.hid hT3
 clear hT3
 have HA3:=Lib.hid hA3
 clear hA3
 have HP1:=Lib.hid hP1
 clear hP1
 have HP2:=Lib.hid hP2
 clear hP2
 have HP3:=Lib.hid hP3
 clear hP3
 have HY1:=Lib.hid hY1
 clear hY1
 obtain ⟨y2,hy2⟩ : ∃y,y=V2.heap.size:=⟨_,rfl⟩
 rw [← hy2] at hn HC2
 have HY2:=Lib.hid hn
 clear hn hy2
 have xP3_1:V3.cell? ⟨v3.heap.size+2,1,none⟩=some (.slice (some ⟨c3,0,none⟩) 1 1):=(HP3.out.cell 1).trans rfl
 have zP3:=HP3.out.lt
 have xC3_4:V3.cell? ⟨c3,4,none⟩=some (.slice (some ⟨u3,0,none⟩) 1 1):=(HC3.out.cell 4).trans rfl
 have zC3:=HC3.out.lt
 have f4:=HC3.out.frozen 4
 go_upto_region 6 with fail
 obtain ⟨V4,hV4⟩ : ∃V,V=(V3.setCell ⟨c3,4,none⟩ (.slice (some ⟨V3.heap.size,0,none⟩) 1 1)).alloc (.cells #[.int .i64 1,.string ⟨#[115]⟩,.int .i64 0,.string ⟨#[]⟩,.int .i64 0,.slice none 0 0] 141):=⟨_,rfl⟩
 rw [← hV4]
 have hC1:Blk V4 (c1) 59 #[.int .i64 1,.bool true,.string ⟨#[115]⟩,.slice (some ⟨t1,0,none⟩) 1 1,.slice (some ⟨y1,0,none⟩) 1 1,.bool false,.slice none 0 0]:=by rw [hV4];exact ((HC1.out.far (p:=⟨c3,4,none⟩) (by dsimp only;have:=LC1.out;have:=LC2.out;have:=LC3.out;have:=MC1.out;have:=MC2.out;have:=MC3.out;have:=LA1.out;have:=LA2.out;have:=LA3.out;have:=MA1.out;have:=MA2.out;have:=MA3.out;omega) (.slice (some ⟨V3.heap.size,0,none⟩) 1 1))).alloc _
 have hT1:Blk V4 (t1) 141 #[.int .i64 1,.string ⟨#[]⟩,.int .i64 3,.string ⟨#[120]⟩,.int .i64 0,.slice none 0 0]:=by rw [hV4];exact ((HT1.out.far (p:=⟨c3,4,none⟩) (HT1.out.ne_ HC3.out (by decide)) (.slice (some ⟨V3.heap.size,0,none⟩) 1 1))).alloc _
 have hA1:Blk V4 (a1) 99 #[.string ⟨#[115]⟩,.string ⟨#[]⟩,.int .i64 3,.string ⟨#[121]⟩,.int .i64 0,.int .i64 0,.string ⟨#[]⟩,.int .i64 2,.string ⟨#[]⟩,.int .i64 2,.string ⟨#[]⟩,.int .i64 0,.string ⟨#[]⟩,.int .i64 0,.int .i64 1,.string ⟨#[]⟩,.int .i64 0,.string ⟨#[]⟩,.int .i64 0]:=by rw [hV4];exact ((HA1.out.far (p:=⟨c3,4,none⟩) (HA1.out.ne_ HC3.out (by decide)) (.slice (some ⟨V3.heap.size,0,none⟩) 1 1))).alloc _
 have hC2:Blk V4 (c2) 59 #[.int .i64 1,.bool true,.string ⟨#[97]⟩,.slice (some ⟨t2,0,none⟩) 1 1,.slice (some ⟨y2,0,none⟩) 1 1,.bool false,.slice none 0 0]:=by rw [hV4];exact ((HC2.out.far (p:=⟨c3,4,none⟩) (by dsimp only;have:=LC1.out;have:=LC2.out;have:=LC3.out;have:=MC1.out;have:=MC2.out;have:=MC3.out;have:=LA1.out;have:=LA2.out;have:=LA3.out;have:=MA1.out;have:=MA2.out;have:=MA3.out;omega) (.slice (some ⟨V3.heap.size,0,none⟩) 1 1))).alloc _
 have hT2:Blk V4 (t2) 141 #[.int .i64 1,.string ⟨#[]⟩,.int .i64 3,.string ⟨#[120]⟩,.int .i64 0,.slice none 0 0]:=by rw [hV4];exact ((HT2.out.far (p:=⟨c3,4,none⟩) (HT2.out.ne_ HC3.out (by decide)) (.slice (some ⟨V3.heap.size,0,none⟩) 1 1))).alloc _
 have hA2:Blk V4 (a2) 99 #[.string ⟨#[97]⟩,.string ⟨#[]⟩,.int .i64 3,.string ⟨#[121]⟩,.int .i64 0,.int .i64 0,.string ⟨#[]⟩,.int .i64 2,.string ⟨#[]⟩,.int .i64 2,.string ⟨#[]⟩,.int .i64 0,.string ⟨#[]⟩,.int .i64 0,.int .i64 1,.string ⟨#[]⟩,.int .i64 0,.string ⟨#[]⟩,.int .i64 0]:=by rw [hV4];exact ((HA2.out.far (p:=⟨c3,4,none⟩) (HA2.out.ne_ HC3.out (by decide)) (.slice (some ⟨V3.heap.size,0,none⟩) 1 1))).alloc _
 have hC3:Blk V4 (c3) 59 #[.int .i64 1,.bool true,.string ⟨#[115]⟩,.slice (some ⟨t3,0,none⟩) 1 1,.slice (some ⟨V3.heap.size,0,none⟩) 1 1,.bool false,.slice none 0 0]:=by rw [hV4];exact ((HC3.out.set_ 4 (.slice (some ⟨V3.heap.size,0,none⟩) 1 1))).alloc _
 have hT3:Blk V4 (t3) 141 #[.int .i64 1,.string ⟨#[]⟩,.int .i64 3,.string ⟨#[120]⟩,.int .i64 0,.slice none 0 0]:=by rw [hV4];exact ((HT3.out.far (p:=⟨c3,4,none⟩) (HT3.out.ne_ HC3.out (by decide)) (.slice (some ⟨V3.heap.size,0,none⟩) 1 1))).alloc _
 have hA3:Blk V4 (a3) 99 #[.string ⟨#[115]⟩,.string ⟨#[]⟩,.int .i64 3,.string ⟨#[121]⟩,.int .i64 0,.int .i64 0,.string ⟨#[]⟩,.int .i64 2,.string ⟨#[]⟩,.int .i64 2,.string ⟨#[]⟩,.int .i64 0,.string ⟨#[]⟩,.int .i64 0,.int .i64 1,.string ⟨#[]⟩,.int .i64 0,.string ⟨#[]⟩,.int .i64 0]:=by rw [hV4];exact ((HA3.out.far (p:=⟨c3,4,none⟩) (HA3.out.ne_ HC3.out (by decide)) (.slice (some ⟨V3.heap.size,0,none⟩) 1 1))).alloc _
 have hP1:Blk V4 (v3.heap.size) 25 #[.string ⟨#[97]⟩,.slice (some ⟨c1,0,none⟩) 1 1,.slice (some ⟨a1,0,none⟩) 1 1]:=by rw [hV4];exact ((HP1.out.far (p:=⟨c3,4,none⟩) (HP1.out.ne_ HC3.out (by decide)) (.slice (some ⟨V3.heap.size,0,none⟩) 1 1))).alloc _
 have hP2:Blk V4 (v3.heap.size+1) 25 #[.string ⟨#[97]⟩,.slice (some ⟨c2,0,none⟩) 1 1,.slice (some ⟨a2,0,none⟩) 1 1]:=by rw [hV4];exact ((HP2.out.far (p:=⟨c3,4,none⟩) (HP2.out.ne_ HC3.out (by decide)) (.slice (some ⟨V3.heap.size,0,none⟩) 1 1))).alloc _
 have hP3:Blk V4 (v3.heap.size+2) 25 #[.string ⟨#[97]⟩,.slice (some ⟨c3,0,none⟩) 1 1,.slice (some ⟨a3,0,none⟩) 1 1]:=by rw [hV4];exact ((HP3.out.far (p:=⟨c3,4,none⟩) (HP3.out.ne_ HC3.out (by decide)) (.slice (some ⟨V3.heap.size,0,none⟩) 1 1))).alloc _
 have hY1:Blk V4 (y1) 141 #[.int .i64 1,.string ⟨#[121]⟩,.int .i64 0,.string ⟨#[]⟩,.int .i64 0,.slice none 0 0]:=by rw [hV4];exact ((HY1.out.far (p:=⟨c3,4,none⟩) (HY1.out.ne_ HC3.out (by decide)) (.slice (some ⟨V3.heap.size,0,none⟩) 1 1))).alloc _
 have hY2:Blk V4 (y2) 141 #[.int .i64 1,.string ⟨#[98]⟩,.int .i64 0,.string ⟨#[]⟩,.int .i64 0,.slice none 0 0]:=by rw [hV4];exact ((HY2.out.far (p:=⟨c3,4,none⟩) (HY2.out.ne_ HC3.out (by decide)) (.slice (some ⟨V3.heap.size,0,none⟩) 1 1))).alloc _
 have hn:Blk V4 V3.heap.size 141 #[.int .i64 1,.string ⟨#[115]⟩,.int .i64 0,.string ⟨#[]⟩,.int .i64 0,.slice none 0 0]:=by rw [hV4];have hh:=Blk.new (V3.setCell ⟨c3,4,none⟩ (.slice (some ⟨V3.heap.size,0,none⟩) 1 1)) 141 #[.int .i64 1,.string ⟨#[115]⟩,.int .i64 0,.string ⟨#[]⟩,.int .i64 0,.slice none 0 0];simpa using hh
 have HBn:=Lib.hid (show Below w.heap.size w V4 by rw [hV4];exact (HB.out.setCell (by have:=LC3.out;dsimp only;omega) _).alloc (by have:=HB.out.size;simpa using this) _)
 clear HB
 have HB:=HBn
 clear HBn
 clear xP3_1 zP3 xC3_4 zC3 f4 hV4
 have HC1:=Lib.hid hC1
 clear hC1
 have HT1:=Lib.hid hT1
 clear hT1
 have HA1:=Lib.hid hA1
 clear hA1
 have HC2:=Lib.hid hC2
 clear hC2
 have HT2:=Lib.hid hT2
 clear hT2
 have HA2:=Lib.hid hA2
 clear hA2
 have HC3:=Lib.hid hC3
 clear hC3
 have HT3:=Lib.hid hT3
 clear hT3
 have HA3:=Lib.hid hA3
 clear hA3
 have HP1:=Lib.hid hP1
 clear hP1
 have HP2:=Lib.hid hP2
 clear hP2
 have HP3:=Lib.hid hP3
 clear hP3
 have HY1:=Lib.hid hY1
 clear hY1
 have HY2:=Lib.hid hY2
 clear hY2
 obtain ⟨y3,hy3⟩ : ∃y,y=V3.heap.size:=⟨_,rfl⟩
 rw [← hy3] at hn HC3
 have HY3:=Lib.hid hn
 clear hn hy3
 obtain ⟨X,hX⟩ : ∃X,X=V4:=⟨_,rfl⟩
 rw [← hX] at HB ⊢
 rw [← hX] at HC1
 rw [← hX] at HT1
 rw [← hX] at HA1
 rw [← hX] at HC2
 rw [← hX] at HT2
 rw [← hX] at HA2
 rw [← hX] at HC3
 rw [← hX] at HT3
 rw [← hX] at HA3
 rw [← hX] at HP1
 rw [← hX] at HP2
 rw [← hX] at HP3
 rw [← hX] at HY1
 rw [← hX] at HY2
 rw [← hX] at HY3
 clear hX
 have HS1:=Lib.hid (show ∀Y,Below X.heap.size X Y→Calls Tryz.prog 42 #[.agg #[.string ⟨#[97]⟩,.slice (some ⟨c1,0,none⟩) 1 1,.slice (some ⟨a1,0,none⟩) 1 1],.agg #[.string ⟨#[97]⟩,.slice (some ⟨c2,0,none⟩) 1 1,.slice (some ⟨a2,0,none⟩) 1 1]] Y fun e w'=>e = .returned (.bool true)∧Below Y.heap.size Y w' from fun Y hY=>by
  have h:=csame_is (D:=(· < Y.heap.size)) 1 (wkP ⟨#[115]⟩ ⟨#[121]⟩) (wkP ⟨#[97]⟩ ⟨#[98]⟩) (some ⟨c1,0,none⟩) 1 (some ⟨a1,0,none⟩) 1 (some ⟨c2,0,none⟩) 1 (some ⟨a2,0,none⟩) 1 Y (fun _ hk=>hk) (wk_rows (D:=(· < Y.heap.size)) ⟨#[115]⟩ ⟨#[121]⟩ (HC1.out.new_ hY) (HT1.out.new_ hY) (HY1.out.new_ hY) (HA1.out.new_ hY) (fun k hk=>hk)).1 (wk_rows (D:=(· < Y.heap.size)) ⟨#[115]⟩ ⟨#[121]⟩ (HC1.out.new_ hY) (HT1.out.new_ hY) (HY1.out.new_ hY) (HA1.out.new_ hY) (fun k hk=>hk)).2 (wk_fit _ _) (wk_rows (D:=(· < Y.heap.size)) ⟨#[97]⟩ ⟨#[98]⟩ (HC2.out.new_ hY) (HT2.out.new_ hY) (HY2.out.new_ hY) (HA2.out.new_ hY) (fun k hk=>hk)).1 (wk_rows (D:=(· < Y.heap.size)) ⟨#[97]⟩ ⟨#[98]⟩ (HC2.out.new_ hY) (HT2.out.new_ hY) (HY2.out.new_ hY) (HA2.out.new_ hY) (fun k hk=>hk)).2 (wk_fit _ _)
  rw [wk_yes] at h
  exact h)
 have HS2:=Lib.hid (show ∀Y,Below X.heap.size X Y→Calls Tryz.prog 42 #[.agg #[.string ⟨#[97]⟩,.slice (some ⟨c1,0,none⟩) 1 1,.slice (some ⟨a1,0,none⟩) 1 1],.agg #[.string ⟨#[97]⟩,.slice (some ⟨c3,0,none⟩) 1 1,.slice (some ⟨a3,0,none⟩) 1 1]] Y fun e w'=>e = .returned (.bool false)∧Below Y.heap.size Y w' from fun Y hY=>by
  have h:=csame_is (D:=(· < Y.heap.size)) 1 (wkP ⟨#[115]⟩ ⟨#[121]⟩) (wkP ⟨#[115]⟩ ⟨#[115]⟩) (some ⟨c1,0,none⟩) 1 (some ⟨a1,0,none⟩) 1 (some ⟨c3,0,none⟩) 1 (some ⟨a3,0,none⟩) 1 Y (fun _ hk=>hk) (wk_rows (D:=(· < Y.heap.size)) ⟨#[115]⟩ ⟨#[121]⟩ (HC1.out.new_ hY) (HT1.out.new_ hY) (HY1.out.new_ hY) (HA1.out.new_ hY) (fun k hk=>hk)).1 (wk_rows (D:=(· < Y.heap.size)) ⟨#[115]⟩ ⟨#[121]⟩ (HC1.out.new_ hY) (HT1.out.new_ hY) (HY1.out.new_ hY) (HA1.out.new_ hY) (fun k hk=>hk)).2 (wk_fit _ _) (wk_rows (D:=(· < Y.heap.size)) ⟨#[115]⟩ ⟨#[115]⟩ (HC3.out.new_ hY) (HT3.out.new_ hY) (HY3.out.new_ hY) (HA3.out.new_ hY) (fun k hk=>hk)).1 (wk_rows (D:=(· < Y.heap.size)) ⟨#[115]⟩ ⟨#[115]⟩ (HC3.out.new_ hY) (HT3.out.new_ hY) (HY3.out.new_ hY) (HA3.out.new_ hY) (fun k hk=>hk)).2 (wk_fit _ _)
  rw [wk_no] at h
  exact h)
 have xP1_0:X.cell? ⟨v3.heap.size,0,none⟩=some (.string ⟨#[97]⟩):=(HP1.out.cell 0).trans rfl
 have xP1_1:X.cell? ⟨v3.heap.size,1,none⟩=some (.slice (some ⟨c1,0,none⟩) 1 1):=(HP1.out.cell 1).trans rfl
 have xP1_2:X.cell? ⟨v3.heap.size,2,none⟩=some (.slice (some ⟨a1,0,none⟩) 1 1):=(HP1.out.cell 2).trans rfl
 have zP1:=HP1.out.lt
 have xP2_0:X.cell? ⟨v3.heap.size+1,0,none⟩=some (.string ⟨#[97]⟩):=(HP2.out.cell 0).trans rfl
 have xP2_1:X.cell? ⟨v3.heap.size+1,1,none⟩=some (.slice (some ⟨c2,0,none⟩) 1 1):=(HP2.out.cell 1).trans rfl
 have xP2_2:X.cell? ⟨v3.heap.size+1,2,none⟩=some (.slice (some ⟨a2,0,none⟩) 1 1):=(HP2.out.cell 2).trans rfl
 have zP2:=HP2.out.lt
 have xP3_0:X.cell? ⟨v3.heap.size+2,0,none⟩=some (.string ⟨#[97]⟩):=(HP3.out.cell 0).trans rfl
 have xP3_1:X.cell? ⟨v3.heap.size+2,1,none⟩=some (.slice (some ⟨c3,0,none⟩) 1 1):=(HP3.out.cell 1).trans rfl
 have xP3_2:X.cell? ⟨v3.heap.size+2,2,none⟩=some (.slice (some ⟨a3,0,none⟩) 1 1):=(HP3.out.cell 2).trans rfl
 have zP3:=HP3.out.lt
 go_wp2_with fail
 refine (HS1.out X (Below.refl _ _)).mono ?_
 rintro e X2 ⟨rfl,hb2⟩
 have HB2:=Lib.hid hb2
 clear xP1_0 xP1_1 xP1_2 zP1 xP2_0 xP2_1 xP2_2 zP2 xP3_0 xP3_1 xP3_2 zP3
 have HP1:=Lib.hid (HP1.out.new_ hb2)
 have HP3:=Lib.hid (HP3.out.new_ hb2)
 clear hb2
 have xP1_0:X2.cell? ⟨v3.heap.size,0,none⟩=some (.string ⟨#[97]⟩):=(HP1.out.cell 0).trans rfl
 have xP1_1:X2.cell? ⟨v3.heap.size,1,none⟩=some (.slice (some ⟨c1,0,none⟩) 1 1):=(HP1.out.cell 1).trans rfl
 have xP1_2:X2.cell? ⟨v3.heap.size,2,none⟩=some (.slice (some ⟨a1,0,none⟩) 1 1):=(HP1.out.cell 2).trans rfl
 have zP1:=HP1.out.lt
 have xP3_0:X2.cell? ⟨v3.heap.size+2,0,none⟩=some (.string ⟨#[97]⟩):=(HP3.out.cell 0).trans rfl
 have xP3_1:X2.cell? ⟨v3.heap.size+2,1,none⟩=some (.slice (some ⟨c3,0,none⟩) 1 1):=(HP3.out.cell 1).trans rfl
 have xP3_2:X2.cell? ⟨v3.heap.size+2,2,none⟩=some (.slice (some ⟨a3,0,none⟩) 1 1):=(HP3.out.cell 2).trans rfl
 have zP3:=HP3.out.lt
 go_wp2_with fail
 refine (HS2.out X2 HB2.out).mono ?_
 rintro e X3 ⟨rfl,hb3⟩
 have HB3:=Lib.hid (HB2.out.trans (hb3.mono HB2.out.size))
 clear hb3 xP1_0 xP1_1 xP1_2 zP1 xP3_0 xP3_1 xP3_2 zP3
 go_wp2_with fail
 go_ret
 exact ⟨rfl,HB.out.trans (HB3.out.mono HB.out.size)⟩
end Go.Proofs.YtffemfglngikbaaGreat
