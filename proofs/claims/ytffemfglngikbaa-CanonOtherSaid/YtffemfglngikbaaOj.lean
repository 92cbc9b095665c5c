/-
  Texts put together: ShowSz, Canon8, KeepHeavy, CanonFit, CanonAg, CanonPt, CanonPt2, CanonMg, CanonTurn.
-/
import Derived.Test.YtffemfglngikbaaOg
import Derived.Test.YtffemfglngikbaaOf
import Derived.Test.YtffemfglngikbaaOi
import Derived.Test.YtffemfglngikbaaOh
namespace Go.Proofs.Ytffemfglngikbaa
theorem numB_le (n:Int) (h1 : -2147483647≤n) (h2:n≤2147483647):(numB n).size≤2200000000:=by
 unfold numB
 split
 · rw [ByteArray.size_append]
   have:=decB_size (-n).toNat
   have e:(⟨#[45]⟩:ByteArray).size=1:=rfl
   omega
 · have:=decB_size n.toNat
   omega
theorem word_le {t:ByteArray} (h:isWord t=true):t.size≤32:=by
 obtain ⟨_,h,_⟩:=isWord_iff.1 h
 exact h
theorem textB_le (s:Sym):(textB s).size≤2300000000:=by
 unfold textB
 by_cases hv:validB s=true
 · rw [if_pos hv]
   obtain ⟨k,t,n⟩:=s
   rcases validB_kind hv with rfl | rfl | rfl
   · obtain ⟨h1,_,h3,h4⟩:=validB_id hv
     rw [if_pos rfl,ByteArray.size_append]
     have:=numB_le n (by omega) (by omega)
     simp only
     omega
   · obtain ⟨_,h3,h4⟩:=validB_int hv
     rw [if_neg (by simp),if_pos rfl]
     have:=numB_le n (by omega) (by omega)
     simp only
     omega
   · rw [if_neg (by simp),if_neg (by simp)]
     have h2:isWord t=true:=by
      unfold validB at hv
      simp at hv
      first | exact hv.2 | exact hv | exact hv.1
     have:=word_le h2
     simp only
     omega
 · rw [if_neg hv]
   have e:(⟨#[]⟩:ByteArray).size=0:=rfl
   omega
theorem atomX_le {v:ByteArray} {s:Sym} (h:v.toList = []∨isWord v=true):(atomX v s).size≤2300000000:=by
 unfold atomX
 split
 · exact textB_le s
 · rename_i h1
   have:=word_le (h.resolve_left h1)
   rw [ByteArray.size_append,ByteArray.size_append]
   have e1:(⟨#[60]⟩:ByteArray).size=1:=rfl
   have e2:(⟨#[62]⟩:ByteArray).size=1:=rfl
   omega
theorem relX_le (k:Int):(relX k).size≤3:=by
 have e0:(⟨#[]⟩:ByteArray).size=0:=rfl
 have e1:(⟨#[60,62]⟩:ByteArray).size=2:=rfl
 have e2:(⟨#[60]⟩:ByteArray).size=1:=rfl
 have e3:(⟨#[60,61]⟩:ByteArray).size=2:=rfl
 have e4:(⟨#[62]⟩:ByteArray).size=1:=rfl
 have e5:(⟨#[62,61]⟩:ByteArray).size=2:=rfl
 have e6:(⟨#[60,61,62]⟩:ByteArray).size=3:=rfl
 unfold relX
 repeat (split;omega)
 omega
theorem fold_sum {α:Type} {f:ByteArray→α→ByteArray} {B:Nat} : ∀(l:List α) (s:ByteArray),(∀x∈l,∀s,(f s x).size≤s.size+B)→(l.foldl f s).size≤s.size+l.length*B
 | [],_,_=>by simp
 | x :: l,s,h=>by
   have h1:=h x (by simp) s
   have h2:=fold_sum l (f s x) (fun y hy=>h y (by simp [hy]))
   rw [List.foldl_cons,List.length_cons,Nat.add_mul]
   omega
theorem testX_le {t:TestT} (h:testB t=true):(testX t).size≤30000000000:=by
 unfold testX
 unfold testB at h
 by_cases h8:t.rel=8
 · rw [if_pos h8] at h ⊢
   simp only [Bool.and_eq_true,decide_eq_true_eq] at h
   have h9:t.list.length≤8:=h.1.2
   have h1:=fold_sum (f:=listX) (B:=2300000001) t.list (⟨#[60,60]⟩:ByteArray) (fun x _ s=>by
    unfold listX
    rw [ByteArray.size_append,ByteArray.size_append]
    have:=textB_le x
    have e:(⟨#[32]⟩:ByteArray).size=1:=rfl
    omega)
   rw [ByteArray.size_append]
   have e1:(⟨#[60,60]⟩:ByteArray).size=2:=rfl
   have e2:(⟨#[32,62,62]⟩:ByteArray).size=3:=rfl
   have h3:t.list.length*2300000001≤8*2300000001:=Nat.mul_le_mul_right _ h9
   omega
 · rw [if_neg h8] at h ⊢
   have hv:t.var.toList = []∨isWord t.var=true:=by
    by_cases hv:t.var.toList = []
    · exact .inl hv
    · right
      split at h
      · cases h
      · have h':(isWord t.var && noneB t.sym)=true:=by first | exact h | (rw [if_neg hv] at h;exact h)
        simp only [Bool.and_eq_true] at h'
        exact h'.1
   have ha:=atomX_le (s:=t.sym) hv
   split
   · omega
   · rw [ByteArray.size_append,ByteArray.size_append]
     have:=relX_le t.rel
     have e:(⟨#[32]⟩:ByteArray).size=1:=rfl
     omega
theorem fieldX_le {l:List TestT} (h : ∀t∈l,testB t=true) (h4:l.length≤4):(fieldX l).size≤200000000000:=by
 unfold fieldX
 split
 · have e:(⟨#[]⟩:ByteArray).size=0:=rfl
   omega
 · split
   · rename_i h1
     have:=testX_le (h l[0] (List.getElem_mem _))
     omega
   · rw [ByteArray.size_append]
     have h1:=fold_sum (f:=fieldF) (B:=30000000001) l (⟨#[123]⟩:ByteArray) (fun x hx s=>by
      unfold fieldF
      rw [ByteArray.size_append,ByteArray.size_append]
      have:=testX_le (h x hx)
      have e:(⟨#[32]⟩:ByteArray).size=1:=rfl
      omega)
     have e1:(⟨#[123]⟩:ByteArray).size=1:=rfl
     have e2:(⟨#[32,125]⟩:ByteArray).size=2:=rfl
     have h3:l.length*30000000001≤4*30000000001:=Nat.mul_le_mul_right _ h4
     omega
theorem condE_leaf {c:CondT} {d:Nat} (h:condE c d=0) (hk : ¬c.kind=3):isWord c.id=true∧(∀t∈c.attr,testB t=true)∧(∀t∈c.value,testB t=true)∧c.attr.length≤4∧c.value.length≤4∧(c.kind=1∨c.kind=2)∧c.conds.length=0∧0<c.attr.length:=by
 unfold condE at h
 rw [if_neg hk] at h
 by_cases h1:c.kind=1∨c.kind=2
 · rw [if_pos h1] at h
   by_cases h2:0<c.conds.length∨isWord c.id=false∨c.attr.length=0
   · rw [if_pos h2] at h;exact absurd h (by decide)
   rw [if_neg h2] at h
   by_cases h3:4<c.attr.length∨4<c.value.length
   · rw [if_pos h3] at h;exact absurd h (by decide)
   rw [if_neg h3] at h
   by_cases h4:(c.attr.all testB && c.value.all testB)=false
   · rw [if_pos h4] at h;exact absurd h (by decide)
   simp only [not_or] at h2 h3
   have h5:c.attr.all testB=true∧c.value.all testB=true:=by
    have:(c.attr.all testB && c.value.all testB)=true:=by simpa using h4
    simpa using this
   exact ⟨by simpa using h2.2.1,fun t ht=>List.all_eq_true.1 h5.1 t ht,fun t ht=>List.all_eq_true.1 h5.2 t ht,by omega,by omega,h1,by omega,by omega⟩
 · rw [if_neg h1] at h;exact absurd h (by decide)
theorem leafX_le {c:CondT} {d:Nat} (h:condE c d=0) (hk : ¬c.kind=3):(leafX c).size≤500000000000:=by
 obtain ⟨h1,h2,h3,h4,h5,_⟩:=condE_leaf h hk
 have a1:=word_le h1
 have a2:=fieldX_le h2 h4
 have a3:=fieldX_le h3 h5
 have e1:(⟨#[45,40]⟩:ByteArray).size=2:=rfl
 have e2:(⟨#[40]⟩:ByteArray).size=1:=rfl
 have e3:(⟨#[115,116,97,116,101,32]⟩:ByteArray).size=6:=rfl
 have e4:(⟨#[60]⟩:ByteArray).size=1:=rfl
 have e5:(⟨#[62,32,94]⟩:ByteArray).size=3:=rfl
 have e6:(⟨#[32]⟩:ByteArray).size=1:=rfl
 have e7:(⟨#[32,43]⟩:ByteArray).size=2:=rfl
 have e8:(⟨#[41]⟩:ByteArray).size=1:=rfl
 have l1:(leaf1 c).size≤2:=by unfold leaf1;split<;>omega
 have l2:(leaf2 c).size≤8:=by unfold leaf2;split;rw [ByteArray.size_append];omega;omega
 have l3:(leaf3 c).size≤200000000050:=by unfold leaf3;rw [ByteArray.size_append,ByteArray.size_append,ByteArray.size_append,ByteArray.size_append];omega
 have l4:(leaf4 c).size≤400000000060:=by unfold leaf4;split;rw [ByteArray.size_append,ByteArray.size_append];omega;omega
 have l5:(leaf5 c).size≤400000000070:=by unfold leaf5;split;rw [ByteArray.size_append];omega;omega
 unfold leafX
 rw [ByteArray.size_append]
 omega
theorem allF_sum {f:CondT→ByteArray} {g:CondT→Nat} : ∀(l:List CondT) (p:Nat×ByteArray),(∀x∈l,(f x).size+1≤g x)→(l.foldl (allF f) p).2.size≤p.2.size+(l.map g).sum
 | [],_,_=>by simp
 | x :: l,p,h=>by
   have h1:=h x (by simp)
   have h2:=allF_sum l (allF f p x) (fun y hy=>h y (by simp [hy]))
   have e:(⟨#[32]⟩:ByteArray).size=1:=rfl
   have h3:(allF f p x).2.size≤p.2.size+g x:=by
    unfold allF
    dsimp only
    rw [ByteArray.size_append]
    split
    · rw [ByteArray.size_append];omega
    · omega
   rw [List.foldl_cons,List.map_cons,List.sum_cons]
   omega
theorem flatC_sum (n d:Nat) : ∀l:List CondT,(l.map fun c=>1+(flatC n (d+1) c.conds).length).sum=(flatC (n+1) d l).length
 | []=>by simp [flatC]
 | c :: l=>by
   have:=flatC_sum n d l
   rw [List.map_cons,List.sum_cons,this]
   simp [flatC,List.flatMap_cons]
   omega
theorem sum_mul (k:Nat) (g:CondT→Nat) : ∀l:List CondT,(l.map fun c=>k*g c).sum=k*(l.map g).sum
 | []=>by simp
 | c :: l=>by rw [List.map_cons,List.sum_cons,sum_mul k g l,List.map_cons,List.sum_cons,Nat.mul_add]
theorem flatC_in {n d:Nat} {l:List CondT} {c:CondT} (h:c∈l):(d,c)∈flatC (n+1) d l∧∀x∈flatC n (d+1) c.conds,x∈flatC (n+1) d l:=by
 constructor
 · rw [flatC];exact List.mem_flatMap.2 ⟨c,h,by simp⟩
 · intro x hx;rw [flatC];exact List.mem_flatMap.2 ⟨c,h,by simp [hx]⟩
def Dp:Nat→CondT→Prop
 | 0,_=>False
 | n+1,c=>∀x∈c.conds,Dp n x
theorem row_dp : ∀(n:Nat) {D:Nat→Prop} {w:World} {A:Option Addr} {c:Nat} {l:List CondT},RowR (repCondT n) D w A c l→∀x∈l,Dp n x
 | 0,_,_,_,_,l,h,x,hx=>by
   obtain ⟨k,hk,rfl⟩:=List.getElem_of_mem hx
   obtain ⟨_,_,_,_,_,_,hr,_⟩:=h.at_ hk
   exact hr.elim
 | n+1,_,_,_,_,l,h,x,hx=>by
   obtain ⟨k,hk,rfl⟩:=List.getElem_of_mem hx
   obtain ⟨_,_,_,_,_,_,_,_,_,_,_,_,_,_,_,_,_,_,_,_,h3⟩:=at_CondT h hk
   exact row_dp n h3
theorem condX_le : ∀(n d:Nat) (c:CondT),Dp (n+1) c→condE c d=0→(∀x∈flatC n (d+1) c.conds,condE x.2 x.1=0)→(condX (n+1) c).size+4≤1000000000000*(1+(flatC n (d+1) c.conds).length)
 | n,d,c,hd,h,hf=>by
   rw [condX]
   by_cases hk:c.kind=3
   · rw [if_pos hk,ByteArray.size_append]
     have e1:(⟨#[45,123]⟩:ByteArray).size=2:=rfl
     have e2:(⟨#[125]⟩:ByteArray).size=1:=rfl
     cases n with
     | zero=>
       have hc:c.conds = []:=by
        cases hcc:c.conds with
        | nil=>rfl
        | cons x l=>exact (hd x (by rw [hcc];simp)).elim
       rw [hc]
       simp
       omega
     | succ m=>
       have h1:=allF_sum (f:=condX (m+1)) (g:=fun x=>1000000000000*(1+(flatC m (d+1+1) x.conds).length)) c.conds (0,(⟨#[45,123]⟩:ByteArray)) (fun x hx=>by
        obtain ⟨g1,g2⟩:=flatC_in (n:=m) (d:=d+1) hx
        have:=condX_le m (d+1) x (hd x hx) (hf _ g1) (fun y hy=>hf _ (g2 y hy))
        omega)
       rw [sum_mul,flatC_sum] at h1
       rw [e1] at h1
       omega
   · rw [if_neg hk]
     have:=leafX_le h hk
     omega
theorem termX_le {t:TermT} (h:termB t=true):(termX t).size≤5000000000:=by
 unfold termB at h
 by_cases h1:t.op<0∨3<t.op∨atomB t.a=false
 · rw [if_pos h1] at h;cases h
 rw [if_neg h1] at h
 simp only [not_or] at h1
 have av : ∀a:AtomT,atomB a=true→a.var.toList = []∨isWord a.var=true:=fun a ha=>by
  unfold atomB at ha
  split at ha
  · exact .inl (by assumption)
  · simp only [Bool.and_eq_true] at ha;exact .inr ha.1
 have ha:=atomX_le (s:=t.a.sym) (av t.a (by simpa using h1.2.2))
 unfold termX
 have e1:(⟨#[40]⟩:ByteArray).size=1:=rfl
 have e2:(⟨#[32]⟩:ByteArray).size=1:=rfl
 have e3:(⟨#[41]⟩:ByteArray).size=1:=rfl
 have e4:(⟨#[43]⟩:ByteArray).size=1:=rfl
 have e5:(⟨#[45]⟩:ByteArray).size=1:=rfl
 have e6:(⟨#[42]⟩:ByteArray).size=1:=rfl
 have eo:(opX t.op).size=1:=by unfold opX;split;rfl;split<;>rfl
 split
 · rename_i ho
   rw [if_neg (by omega)] at h
   simp only [Bool.and_eq_true] at h
   have hb:=atomX_le (s:=t.b.sym) (av t.b h.1.1)
   simp only [ByteArray.size_append]
   omega
 · omega
theorem signX_le (k:Int):(signX k).size≤1:=by
 unfold signX
 repeat (split;exact Nat.le_refl 1)
 exact Nat.le_refl 1
theorem actX_le {a:ActT} (h:actB a=true):(actX a).size≤20000000000:=by
 unfold actB at h
 by_cases h1:isWord a.id=false∨atomB a.attr=false∨termB a.value=false∨a.pref<1∨10<a.pref
 · rw [if_pos h1] at h;cases h
 rw [if_neg h1] at h
 simp only [not_or] at h1
 have av : ∀a:AtomT,atomB a=true→a.var.toList = []∨isWord a.var=true:=fun a ha=>by
  unfold atomB at ha
  split at ha
  · exact .inl (by assumption)
  · simp only [Bool.and_eq_true] at ha;exact .inr ha.1
 have w1:=word_le (show isWord a.id=true by simpa using h1.1)
 have ha:=atomX_le (s:=a.attr.sym) (av a.attr (by simpa using h1.2.1))
 have ht:=termX_le (show termB a.value=true by simpa using h1.2.2.1)
 have hs:=signX_le a.pref
 have e1:(⟨#[40,60]⟩:ByteArray).size=2:=rfl
 have e2:(⟨#[62,32,94]⟩:ByteArray).size=3:=rfl
 have e3:(⟨#[32]⟩:ByteArray).size=1:=rfl
 have e4:(⟨#[41]⟩:ByteArray).size=1:=rfl
 unfold actX
 dsimp only
 rw [ByteArray.size_append]
 split
 · rename_i ho
   rw [if_pos ho] at h
   have hb:=atomX_le (s:=a.other.sym) (av a.other h)
   simp only [ByteArray.size_append]
   omega
 · simp only [ByteArray.size_append]
   omega
theorem shapeP_ok {n:Nat} {p:ProdT} (h:(shapeP n p).2=0):isWord p.name=true∧(flatC n 0 p.conds).length≤16∧1≤(flatC n 0 p.conds).length∧p.acts.length≤16∧1≤p.acts.length∧(∀x∈flatC n 0 p.conds,condE x.2 x.1=0)∧∀a∈p.acts,actB a=true:=by
 unfold shapeP at h
 by_cases h1:isWord p.name=false
 · rw [if_pos h1] at h;exact absurd h (by decide)
 rw [if_neg h1] at h
 by_cases h2:(flatC n 0 p.conds).length<1∨16<(flatC n 0 p.conds).length∨p.acts.length<1∨16<p.acts.length
 · rw [if_pos h2] at h;exact absurd h (by decide)
 rw [if_neg h2] at h
 simp only [not_or] at h2
 cases h3:(flatC n 0 p.conds).findIdx? (fun c=>decide (condE c.2 c.1≠0)) with
 | some k=>
   rw [h3] at h
   obtain ⟨hk,hp,_⟩:=List.findIdx?_eq_some_iff_getElem.1 h3
   simp only at h
   rw [List.getElem?_eq_getElem hk] at h
   simp at h hp
   exact absurd h hp
 | none=>
   rw [h3] at h
   cases h4:p.acts.findIdx? (fun a=>!actB a) with
   | some i=>rw [h4] at h;exact absurd h (by simp)
   | none=>
     refine ⟨by simpa using h1,by omega,by omega,by omega,by omega,fun x hx=>?_,fun a ha=>?_⟩
     · have:=List.findIdx?_eq_none_iff.1 h3 x hx
       simpa using this
     · have:=List.findIdx?_eq_none_iff.1 h4 a ha
       simpa using this
theorem prodX_le {n:Nat} {p:ProdT} (hdp : ∀c∈p.conds,Dp n c) (h:(shapeP n p).2=0):(prodX n p).size≤1000000000000000:=by
 obtain ⟨h1,h2,_,h4,_,h6,h7⟩:=shapeP_ok h
 have w1:=word_le h1
 cases n with
 | zero=>exact absurd h2 (by have:=(shapeP_ok h).2.2.1;simp [flatC] at this)
 | succ m=>
   have hl:p.conds.length≤16:=by
    have:=flatC_sum m 0 p.conds
    have h8 : ∀l:List CondT,l.length≤(l.map fun c=>1+(flatC m (0+1) c.conds).length).sum:=by
     intro l
     induction l with
     | nil=>simp
     | cons c l ih=>rw [List.map_cons,List.sum_cons,List.length_cons];omega
    have:=h8 p.conds
    omega
   have c1:=fold_sum (f:=lineC (m+1)) (B:=17000000000010) p.conds ((⟨#[115,112,32,123]⟩:ByteArray)++p.name++(⟨#[10]⟩:ByteArray)) (fun c hc s=>by
    obtain ⟨g1,g2⟩:=flatC_in (n:=m) (d:=0) hc
    have g3:=condX_le m 0 c (hdp c hc) (h6 _ g1) (fun y hy=>h6 _ (g2 y hy))
    have g4:(flatC m (0+1) c.conds).length≤16:=by
     have e:=flatC_sum m 0 p.conds
     have g5 : ∀l:List CondT,c∈l→1+(flatC m (0+1) c.conds).length≤(l.map fun c=>1+(flatC m (0+1) c.conds).length).sum:=by
      intro l hl
      induction l with
      | nil=>cases hl
      | cons x l ih=>
        rw [List.map_cons,List.sum_cons]
        rcases List.mem_cons.1 hl with rfl | hl
        · omega
        · have:=ih hl;omega
     have:=g5 p.conds hc
     omega
    unfold lineC
    rw [ByteArray.size_append,ByteArray.size_append,ByteArray.size_append]
    have e1:(⟨#[32,32]⟩:ByteArray).size=2:=rfl
    have e2:(⟨#[10]⟩:ByteArray).size=1:=rfl
    omega)
   have a1:=fold_sum (f:=lineA) (B:=20000000010) p.acts (p.conds.foldl (lineC (m+1)) ((⟨#[115,112,32,123]⟩:ByteArray)++p.name++(⟨#[10]⟩:ByteArray))++(⟨#[45,45,62,10]⟩:ByteArray)) (fun a ha s=>by
    have:=actX_le (h7 a ha)
    unfold lineA
    rw [ByteArray.size_append,ByteArray.size_append,ByteArray.size_append]
    have e1:(⟨#[32,32]⟩:ByteArray).size=2:=rfl
    have e2:(⟨#[10]⟩:ByteArray).size=1:=rfl
    omega)
   unfold prodX
   rw [ByteArray.size_append]
   rw [ByteArray.size_append (b:=(⟨#[45,45,62,10]⟩:ByteArray))] at a1
   rw [ByteArray.size_append,ByteArray.size_append] at c1
   have e1:(⟨#[115,112,32,123]⟩:ByteArray).size=4:=rfl
   have e2:(⟨#[10]⟩:ByteArray).size=1:=rfl
   have e3:(⟨#[45,45,62,10]⟩:ByteArray).size=4:=rfl
   have e4:(⟨#[125,10]⟩:ByteArray).size=2:=rfl
   have m1:p.conds.length*17000000000010≤16*17000000000010:=Nat.mul_le_mul_right _ hl
   have m2:p.acts.length*20000000010≤16*20000000010:=Nat.mul_le_mul_right _ h4
   omega
end Go.Proofs.Ytffemfglngikbaa
namespace Go.Proofs.Ytffemfglngikbaa
open Go.RowKit Go.Shelf
attribute [local go_sem] Oper.semAt_some
set_option linter.unusedSimpArgs false
theorem newD_lt {B k:Nat} {w:World} (h:NewD B w k):k<w.heap.size:=h.2
theorem dp_condR (t:ByteArray→ByteArray) : ∀(n:Nat) (x:CondT),Dp n x→Dp n (condR t n x)
 | 0,_,h=>h.elim
 | n+1,x,h=>by
   intro y hy
   obtain ⟨z,hz,rfl⟩:=List.mem_map.1 (show y∈x.conds.map (condR t n) from hy)
   exact dp_condR t n z (h z hz)
theorem flat_condR (t:ByteArray→ByteArray) : ∀(n d:Nat) (l:List CondT),(flatC n d (l.map (condR t n))).length=(flatC n d l).length
 | 0,_,_=>rfl
 | n+1,d,l=>by
   rw [← flatC_sum,← flatC_sum,List.map_map]
   congr 1
   apply List.map_congr_left
   intro x _
   show 1+(flatC n (d+1) (x.conds.map (condR t n))).length=_
   rw [flat_condR t n]
structure Fit (n:Nat) (p:ProdT):Prop where
 c:p.conds.length≤1000
 a:p.acts.length≤1000
 s : ∀x∈p.conds,SmC n x
 v:(varsP n p).length≤100000
 f:(flatC n 0 p.conds).length≤1000000000
 nn:n≤1000000000
 d : ∀x∈p.conds,Dp n x
def textC (n:Nat) (p:ProdT):ByteArray:=showX n (plainP n p)
def sameC (n:Nat) (p q:ProdT):Bool:=decide (¬(textC n p).toList = []) && decide ((textC n p).toList=(textC n q).toList)
set_option maxRecDepth 100000 in
set_option maxHeartbeats 4000000 in
theorem ctext_is {D:Nat→Prop} (n:Nat) (p:ProdT) (A1:Option Addr) (c1:Nat) (A2:Option Addr) (c2:Nat) (w:World) (hD : ∀k,D k→k<w.heap.size) (h1:RowR (repCondT n) D w A1 c1 p.conds) (h2:RowR repActT D w A2 c2 p.acts) (hf:Fit n p) :
 Calls Try.prog 52 #[.agg #[.string p.name,.slice A1 p.conds.length c1,.slice A2 p.acts.length c2]] w fun e w'=>e = .returned (.string (textC n p))∧Below w.heap.size w w':=by
 have HPL:=Lib.hid (show ∀W,Below w.heap.size w W→Calls Try.prog 21 #[.agg #[.string p.name,.slice A1 p.conds.length c1,.slice A2 p.acts.length c2]] W (FreshP n (plainP n p) W) from fun W hW=>cplain_is n p A1 c1 A2 c2 W (fun k hk=>Nat.lt_of_lt_of_le (hD k hk) hW.size) (h1.new_ hW) (h2.new_ hW) hf.c hf.a hf.s hf.v)
 obtain ⟨q,hq⟩ : ∃q,q=plainP n p:=⟨_,rfl⟩
 have HSZ:=Lib.hid (show (shapeP n q).2=0→(prodX n q).size≤MAXS from fun h=>by
  have:=prodX_le (n:=n) (p:=q) (by rw [hq];intro x hx;obtain ⟨z,hz,rfl⟩:=List.mem_map.1 (show x∈p.conds.map _ from hx);exact dp_condR _ n z (hf.d z hz)) h
  unfold MAXS
  omega)
 have HFL:=Lib.hid (show (flatC n 0 q.conds).length≤1000000000 by rw [hq];show (flatC n 0 (p.conds.map _)).length≤_;rw [flat_condR];exact hf.f)
 have HNN:=Lib.hid hf.nn
 have HTX:=Lib.hid (show textC n p=showX n q by rw [hq];rfl)
 rw [← hq] at HPL
 have hc1:=h1.cap
 have hc2:=h2.cap
 clear h1 h2 hD hf hq
 go_enter Try.func52,Try.ntmps52
 go_upto_region 1 with fail
 obtain ⟨w1,hw1⟩ : ∃w1,w1=(w.alloc (.cells #[.string p.name,.slice A1 p.conds.length c1,.slice A2 p.acts.length c2] 25)):=⟨_,rfl⟩
 rw [← hw1]
 have HB:=Lib.hid (show Below w.heap.size w w1 by rw [hw1];exact (by repeat (first | exact Below.refl _ _ | refine Below.drew ?_ | refine Below.al ?_ _ | refine Below.sc ?_ _)))
 have Kb:=Lib.hid (show Blk w1 (w.heap.size) 25 #[.string p.name,.slice A1 p.conds.length c1,.slice A2 p.acts.length c2] by rw [hw1];exact (Blk.new w 25 #[.string p.name,.slice A1 p.conds.length c1,.slice A2 p.acts.length c2]))
 clear hw1
 obtain ⟨b0,b1,b2⟩:=Kb.out.c3
 have bz:=Kb.out.lt
 go_wp2_with fail
 with_reducible refine (HPL.out _ (by (repeat (first | exact Below.refl _ _ | exact HB.out | refine Below.drew ?_ | refine Below.al ?_ _ | refine Below.sc ?_ _)))).mono ?_
 rintro e w2 ⟨E1,d1,E2,d2,rfl,r1,r2,hb⟩
 have hbs:=Below.trans (show Below w1.heap.size w1 _ from (by (repeat (first | exact Below.refl _ _ | refine Below.drew ?_ | refine Below.al ?_ _ | refine Below.sc ?_ _)))) (hb.mono (by simp<;>omega))
 have Kb:=Lib.hid (Kb.out.new_ hbs)
 have HB:=Lib.hid (HB.out.trans (hbs.mono HB.out.size))
 have hsz2:=hbs.size
 clear b0 b1 b2 bz hb hbs
 obtain ⟨b0,b1,b2⟩:=Kb.out.c3
 have bz:=Kb.out.lt
 have HR1:=Lib.hid r1
 have HR2:=Lib.hid r2
 clear r1 r2
 go_wp2_with fail
 with_reducible refine (sprod_is n q E1 E2 d1 d2 _ HR1.out HR2.out (fun _ hk=>newD_lt hk) HFL.out HNN.out HSZ.out).mono ?_
 rintro e w3 ⟨rfl,hb⟩
 have hbs:=Below.trans (show Below w2.heap.size w2 _ from (by (repeat (first | exact Below.refl _ _ | refine Below.drew ?_ | refine Below.al ?_ _ | refine Below.sc ?_ _)))) (hb.mono (by simp<;>omega))
 have Kb:=Lib.hid (Kb.out.new_ hbs)
 have HB:=Lib.hid (HB.out.trans (hbs.mono HB.out.size))
 have hsz3:=hbs.size
 clear b0 b1 b2 bz hb hbs
 obtain ⟨b0,b1,b2⟩:=Kb.out.c3
 have bz:=Kb.out.lt
 go_wp2_with fail
 go_ret
 exact ⟨by rw [HTX.out]<;>rfl,HB.out⟩
set_option maxRecDepth 100000 in
set_option maxHeartbeats 4000000 in
theorem csame_is {D:Nat→Prop} (n:Nat) (p q:ProdT) (A1:Option Addr) (c1:Nat) (A2:Option Addr) (c2:Nat) (B1:Option Addr) (d1:Nat) (B2:Option Addr) (d2:Nat) (w:World) (hD : ∀k,D k→k<w.heap.size)
 (h1:RowR (repCondT n) D w A1 c1 p.conds) (h2:RowR repActT D w A2 c2 p.acts) (hf:Fit n p) (k1:RowR (repCondT n) D w B1 d1 q.conds) (k2:RowR repActT D w B2 d2 q.acts) (kf:Fit n q) :
 Calls Try.prog 24 #[.agg #[.string p.name,.slice A1 p.conds.length c1,.slice A2 p.acts.length c2],.agg #[.string q.name,.slice B1 q.conds.length d1,.slice B2 q.acts.length d2]] w fun e w'=>e = .returned (.bool (sameC n p q))∧Below w.heap.size w w':=by
 obtain ⟨s,hs⟩ : ∃s,s=textC n p:=⟨_,rfl⟩
 obtain ⟨t,ht⟩ : ∃t,t=textC n q:=⟨_,rfl⟩
 have HTP:=Lib.hid (show ∀W,Below w.heap.size w W→Calls Try.prog 52 #[.agg #[.string p.name,.slice A1 p.conds.length c1,.slice A2 p.acts.length c2]] W fun e w'=>e = .returned (.string s)∧Below W.heap.size W w' from fun W hW=>by rw [hs];exact ctext_is n p A1 c1 A2 c2 W (fun k hk=>Nat.lt_of_lt_of_le (hD k hk) hW.size) (h1.new_ hW) (h2.new_ hW) hf)
 have HTQ:=Lib.hid (show ∀W,Below w.heap.size w W→Calls Try.prog 52 #[.agg #[.string q.name,.slice B1 q.conds.length d1,.slice B2 q.acts.length d2]] W fun e w'=>e = .returned (.string t)∧Below W.heap.size W w' from fun W hW=>by rw [ht];exact ctext_is n q B1 d1 B2 d2 W (fun k hk=>Nat.lt_of_lt_of_le (hD k hk) hW.size) (k1.new_ hW) (k2.new_ hW) kf)
 have HV:=Lib.hid (show sameC n p q=(decide (¬s.toList = []) && decide (s.toList=t.toList)) by rw [hs,ht];rfl)
 have hc1:=h1.cap
 have hc2:=h2.cap
 have hc3:=k1.cap
 have hc4:=k2.cap
 clear h1 h2 k1 k2 hf kf hD hs ht
 by_cases he:s.toList = []
 · skip
   have ea:(s.toList == [])=true:=by simp [he]
   have eb:s.toList.isEmpty=true:=by simp [he]
   have ec:decide (s.toList = [])=true:=by simp [he]
   have HR:=Lib.hid (show sameC n p q=false by rw [HV.out,he];rfl)
   clear he
   go_enter Try.func24,Try.ntmps24
   go_upto_region 1 with fail
   obtain ⟨w1,hw1⟩ : ∃w1,w1=((w.alloc (.cells #[.string p.name,.slice A1 p.conds.length c1,.slice A2 p.acts.length c2] 25)).alloc (.cells #[.string q.name,.slice B1 q.conds.length d1,.slice B2 q.acts.length d2] 25)):=⟨_,rfl⟩
   rw [← hw1]
   have HB:=Lib.hid (show Below w.heap.size w w1 by rw [hw1];exact (by repeat (first | exact Below.refl _ _ | refine Below.drew ?_ | refine Below.al ?_ _ | refine Below.sc ?_ _)))
   have Ka:=Lib.hid (show Blk w1 (w.heap.size) 25 #[.string p.name,.slice A1 p.conds.length c1,.slice A2 p.acts.length c2] by rw [hw1];exact ((Blk.new w 25 #[.string p.name,.slice A1 p.conds.length c1,.slice A2 p.acts.length c2]).alloc (.cells #[.string q.name,.slice B1 q.conds.length d1,.slice B2 q.acts.length d2] 25)))
   have Kb:=Lib.hid (show Blk w1 (w.heap.size+1) 25 #[.string q.name,.slice B1 q.conds.length d1,.slice B2 q.acts.length d2] by rw [hw1];have hh:=(Blk.new (w.alloc (.cells #[.string p.name,.slice A1 p.conds.length c1,.slice A2 p.acts.length c2] 25)) 25 #[.string q.name,.slice B1 q.conds.length d1,.slice B2 q.acts.length d2]);simp only [World.size_alloc] at hh;exact hh)
   clear hw1
   obtain ⟨a0,a1,a2⟩:=Ka.out.c3
   have az:=Ka.out.lt
   obtain ⟨b0,b1,b2⟩:=Kb.out.c3
   have bz:=Kb.out.lt
   go_wp2_with fail
   with_reducible refine (HTP.out _ (by (repeat (first | exact Below.refl _ _ | exact HB.out | refine Below.drew ?_ | refine Below.al ?_ _ | refine Below.sc ?_ _)))).mono ?_
   rintro e w2 ⟨rfl,hb⟩
   have hbs:=Below.trans (show Below w1.heap.size w1 _ from (by (repeat (first | exact Below.refl _ _ | refine Below.drew ?_ | refine Below.al ?_ _ | refine Below.sc ?_ _)))) (hb.mono (by simp<;>omega))
   have Ka:=Lib.hid (Ka.out.new_ hbs)
   have Kb:=Lib.hid (Kb.out.new_ hbs)
   have HB:=Lib.hid (HB.out.trans (hbs.mono HB.out.size))
   have hsz2:=hbs.size
   clear a0 a1 a2 az b0 b1 b2 bz hb hbs
   obtain ⟨a0,a1,a2⟩:=Ka.out.c3
   have az:=Ka.out.lt
   obtain ⟨b0,b1,b2⟩:=Kb.out.c3
   have bz:=Kb.out.lt
   go_wp2_with fail
   go_ret
   exact ⟨by rw [HR.out]<;>rfl,HB.out⟩
 · skip
   have ea:(s.toList == [])=false:=by simp [he]
   have eb:s.toList.isEmpty=false:=by simp [he]
   have ec:decide (s.toList = [])=false:=by simp [he]
   by_cases hq:s.toList=t.toList
   · skip
     have qa:(s.toList == t.toList)=true:=by simp [hq]
     have qb:decide (s.toList=t.toList)=true:=by simp [hq]
     have HR:=Lib.hid (show sameC n p q=true by rw [HV.out,decide_eq_true he,decide_eq_true hq];rfl)
     clear he hq
     go_enter Try.func24,Try.ntmps24
     go_upto_region 1 with fail
     obtain ⟨w1,hw1⟩ : ∃w1,w1=((w.alloc (.cells #[.string p.name,.slice A1 p.conds.length c1,.slice A2 p.acts.length c2] 25)).alloc (.cells #[.string q.name,.slice B1 q.conds.length d1,.slice B2 q.acts.length d2] 25)):=⟨_,rfl⟩
     rw [← hw1]
     have HB:=Lib.hid (show Below w.heap.size w w1 by rw [hw1];exact (by repeat (first | exact Below.refl _ _ | refine Below.drew ?_ | refine Below.al ?_ _ | refine Below.sc ?_ _)))
     have Ka:=Lib.hid (show Blk w1 (w.heap.size) 25 #[.string p.name,.slice A1 p.conds.length c1,.slice A2 p.acts.length c2] by rw [hw1];exact ((Blk.new w 25 #[.string p.name,.slice A1 p.conds.length c1,.slice A2 p.acts.length c2]).alloc (.cells #[.string q.name,.slice B1 q.conds.length d1,.slice B2 q.acts.length d2] 25)))
     have Kb:=Lib.hid (show Blk w1 (w.heap.size+1) 25 #[.string q.name,.slice B1 q.conds.length d1,.slice B2 q.acts.length d2] by rw [hw1];have hh:=(Blk.new (w.alloc (.cells #[.string p.name,.slice A1 p.conds.length c1,.slice A2 p.acts.length c2] 25)) 25 #[.string q.name,.slice B1 q.conds.length d1,.slice B2 q.acts.length d2]);simp only [World.size_alloc] at hh;exact hh)
     clear hw1
     obtain ⟨a0,a1,a2⟩:=Ka.out.c3
     have az:=Ka.out.lt
     obtain ⟨b0,b1,b2⟩:=Kb.out.c3
     have bz:=Kb.out.lt
     go_wp2_with fail
     with_reducible refine (HTP.out _ (by (repeat (first | exact Below.refl _ _ | exact HB.out | refine Below.drew ?_ | refine Below.al ?_ _ | refine Below.sc ?_ _)))).mono ?_
     rintro e w2 ⟨rfl,hb⟩
     have hbs:=Below.trans (show Below w1.heap.size w1 _ from (by (repeat (first | exact Below.refl _ _ | refine Below.drew ?_ | refine Below.al ?_ _ | refine Below.sc ?_ _)))) (hb.mono (by simp<;>omega))
     have Ka:=Lib.hid (Ka.out.new_ hbs)
     have Kb:=Lib.hid (Kb.out.new_ hbs)
     have HB:=Lib.hid (HB.out.trans (hbs.mono HB.out.size))
     have hsz2:=hbs.size
     clear a0 a1 a2 az b0 b1 b2 bz hb hbs
     obtain ⟨a0,a1,a2⟩:=Ka.out.c3
     have az:=Ka.out.lt
     obtain ⟨b0,b1,b2⟩:=Kb.out.c3
     have bz:=Kb.out.lt
     go_wp2_with fail
     with_reducible refine (HTQ.out _ (by (repeat (first | exact Below.refl _ _ | exact HB.out | refine Below.drew ?_ | refine Below.al ?_ _ | refine Below.sc ?_ _)))).mono ?_
     rintro e w3 ⟨rfl,hb⟩
     have hbs:=Below.trans (show Below w2.heap.size w2 _ from (by (repeat (first | exact Below.refl _ _ | refine Below.drew ?_ | refine Below.al ?_ _ | refine Below.sc ?_ _)))) (hb.mono (by simp<;>omega))
     have Ka:=Lib.hid (Ka.out.new_ hbs)
     have Kb:=Lib.hid (Kb.out.new_ hbs)
     have HB:=Lib.hid (HB.out.trans (hbs.mono HB.out.size))
     have hsz3:=hbs.size
     clear a0 a1 a2 az b0 b1 b2 bz hb hbs
     obtain ⟨a0,a1,a2⟩:=Ka.out.c3
     have az:=Ka.out.lt
     obtain ⟨b0,b1,b2⟩:=Kb.out.c3
     have bz:=Kb.out.lt
     go_wp2_with fail
     go_ret
     exact ⟨by rw [HR.out]<;>rfl,HB.out⟩
   · skip
     have qa:(s.toList == t.toList)=false:=by simp [hq]
     have qb:decide (s.toList=t.toList)=false:=by simp [hq]
     have HR:=Lib.hid (show sameC n p q=false by rw [HV.out];simp [he,hq])
     clear he hq
     go_enter Try.func24,Try.ntmps24
     go_upto_region 1 with fail
     obtain ⟨w1,hw1⟩ : ∃w1,w1=((w.alloc (.cells #[.string p.name,.slice A1 p.conds.length c1,.slice A2 p.acts.length c2] 25)).alloc (.cells #[.string q.name,.slice B1 q.conds.length d1,.slice B2 q.acts.length d2] 25)):=⟨_,rfl⟩
     rw [← hw1]
     have HB:=Lib.hid (show Below w.heap.size w w1 by rw [hw1];exact (by repeat (first | exact Below.refl _ _ | refine Below.drew ?_ | refine Below.al ?_ _ | refine Below.sc ?_ _)))
     have Ka:=Lib.hid (show Blk w1 (w.heap.size) 25 #[.string p.name,.slice A1 p.conds.length c1,.slice A2 p.acts.length c2] by rw [hw1];exact ((Blk.new w 25 #[.string p.name,.slice A1 p.conds.length c1,.slice A2 p.acts.length c2]).alloc (.cells #[.string q.name,.slice B1 q.conds.length d1,.slice B2 q.acts.length d2] 25)))
     have Kb:=Lib.hid (show Blk w1 (w.heap.size+1) 25 #[.string q.name,.slice B1 q.conds.length d1,.slice B2 q.acts.length d2] by rw [hw1];have hh:=(Blk.new (w.alloc (.cells #[.string p.name,.slice A1 p.conds.length c1,.slice A2 p.acts.length c2] 25)) 25 #[.string q.name,.slice B1 q.conds.length d1,.slice B2 q.acts.length d2]);simp only [World.size_alloc] at hh;exact hh)
     clear hw1
     obtain ⟨a0,a1,a2⟩:=Ka.out.c3
     have az:=Ka.out.lt
     obtain ⟨b0,b1,b2⟩:=Kb.out.c3
     have bz:=Kb.out.lt
     go_wp2_with fail
     with_reducible refine (HTP.out _ (by (repeat (first | exact Below.refl _ _ | exact HB.out | refine Below.drew ?_ | refine Below.al ?_ _ | refine Below.sc ?_ _)))).mono ?_
     rintro e w2 ⟨rfl,hb⟩
     have hbs:=Below.trans (show Below w1.heap.size w1 _ from (by (repeat (first | exact Below.refl _ _ | refine Below.drew ?_ | refine Below.al ?_ _ | refine Below.sc ?_ _)))) (hb.mono (by simp<;>omega))
     have Ka:=Lib.hid (Ka.out.new_ hbs)
     have Kb:=Lib.hid (Kb.out.new_ hbs)
     have HB:=Lib.hid (HB.out.trans (hbs.mono HB.out.size))
     have hsz2:=hbs.size
     clear a0 a1 a2 az b0 b1 b2 bz hb hbs
     obtain ⟨a0,a1,a2⟩:=Ka.out.c3
     have az:=Ka.out.lt
     obtain ⟨b0,b1,b2⟩:=Kb.out.c3
     have bz:=Kb.out.lt
     go_wp2_with fail
     with_reducible refine (HTQ.out _ (by (repeat (first | exact Below.refl _ _ | exact HB.out | refine Below.drew ?_ | refine Below.al ?_ _ | refine Below.sc ?_ _)))).mono ?_
     rintro e w3 ⟨rfl,hb⟩
     have hbs:=Below.trans (show Below w2.heap.size w2 _ from (by (repeat (first | exact Below.refl _ _ | refine Below.drew ?_ | refine Below.al ?_ _ | refine Below.sc ?_ _)))) (hb.mono (by simp<;>omega))
     have Ka:=Lib.hid (Ka.out.new_ hbs)
     have Kb:=Lib.hid (Kb.out.new_ hbs)
     have HB:=Lib.hid (HB.out.trans (hbs.mono HB.out.size))
     have hsz3:=hbs.size
     clear a0 a1 a2 az b0 b1 b2 bz hb hbs
     obtain ⟨a0,a1,a2⟩:=Ka.out.c3
     have az:=Ka.out.lt
     obtain ⟨b0,b1,b2⟩:=Kb.out.c3
     have bz:=Kb.out.lt
     go_wp2_with fail
     go_ret
     exact ⟨by rw [HR.out]<;>rfl,HB.out⟩
end Go.Proofs.Ytffemfglngikbaa
namespace Go.Proofs.Ytffemfglngikbaa
open Go.RowKit Go.Shelf
def goK (most:Nat) (f:CondT→Nat):List CondT→Nat→Nat
 | [],s=>s
 | c :: l,s=>if s≤most then goK most f l (s+(1+f c)) else s
def sizeK (most:Nat):Nat→Nat→List CondT→Nat
 | 0,d,l=>if 20<d then most+1 else if l = [] then 0 else most+1
 | n+1,d,l=>if 20<d then most+1 else min (goK most (fun c=>sizeK most n (d+1) c.conds) l 0) (most+1)
theorem goK_ge (most:Nat) (f:CondT→Nat) : ∀(l:List CondT) (s:Nat),s≤goK most f l s
 | [],s=>Nat.le_refl _
 | c :: l,s=>by
   rw [goK]
   split
   · have:=goK_ge most f l (s+(1+f c));omega
   · omega
theorem goK_all (most:Nat) (f:CondT→Nat) : ∀(l:List CondT) (s:Nat),goK most f l s≤most→goK most f l s=s+(l.map fun c=>1+f c).sum∧∀c∈l,f c≤most
 | [],s,_=>by simp [goK]
 | c :: l,s,h=>by
   rw [goK] at h ⊢
   by_cases hs:s≤most
   · rw [if_pos hs] at h ⊢
     obtain ⟨h1,h2⟩:=goK_all most f l _ h
     have:=goK_ge most f l (s+(1+f c))
     refine ⟨by rw [h1,List.map_cons,List.sum_cons];omega,fun x hx=>?_⟩
     rcases List.mem_cons.1 hx with rfl | hx
     · omega
     · exact h2 x hx
   · rw [if_neg hs] at h
     omega
theorem goK_snoc (most:Nat) (f:CondT→Nat) : ∀(l:List CondT) (c:CondT) (s:Nat),goK most f (l ++ [c]) s=if goK most f l s≤most then goK most f l s+(1+f c) else goK most f l s
 | [],c,s=>rfl
 | x :: l,c,s=>by
   rw [List.cons_append,goK,goK]
   by_cases hs:s≤most
   · rw [if_pos hs,if_pos hs,goK_snoc most f l c]
   · rw [if_neg hs,if_neg hs,if_neg hs]
theorem goK_stop (most:Nat) (f:CondT→Nat) : ∀(l m:List CondT) (s:Nat),¬goK most f l s≤most→goK most f (l++m) s=goK most f l s
 | [],m,s,h=>by
   rw [goK] at h
   cases m with
   | nil=>rfl
   | cons c m=>simp only [List.nil_append,goK];rw [if_neg h]
 | x :: l,m,s,h=>by
   rw [List.cons_append,goK,goK]
   rw [goK] at h
   by_cases hs:s≤most
   · rw [if_pos hs,if_pos hs]
     rw [if_pos hs] at h
     exact goK_stop most f l m _ h
   · rw [if_neg hs,if_neg hs]
theorem sum_le_of {α:Type} (f g:α→Nat) : ∀l:List α,(∀c∈l,f c≤g c)→(l.map f).sum≤(l.map g).sum
 | [],_=>Nat.le_refl _
 | c :: l,h=>by
   rw [List.map_cons,List.map_cons,List.sum_cons,List.sum_cons]
   have h1:=h c List.mem_cons_self
   have h2:=sum_le_of f g l (fun x hx=>h x (List.mem_cons_of_mem _ hx))
   omega
theorem flatC_len (m d:Nat) (l:List CondT):(flatC (m+1) d l).length=(l.map fun c=>1+(flatC m (d+1) c.conds).length).sum:=by
 rw [flatC_succ,List.length_flatMap]
 congr 1
 apply List.map_congr_left
 intro c _
 simp;omega
theorem sizeK_flat (most:Nat) : ∀(n m d e:Nat) (l:List CondT),sizeK most n d l≤most→(flatC m e l).length≤sizeK most n d l
 | 0,m,d,e,l,h=>by
   rw [sizeK] at h
   by_cases h1:20<d
   · rw [if_pos h1] at h;omega
   · rw [if_neg h1] at h
     by_cases h2:l = []
     · subst h2;cases m<;>simp [flatC]
     · rw [if_neg h2] at h;omega
 | n+1,m,d,e,l,h=>by
   rw [sizeK] at h ⊢
   by_cases h1:20<d
   · rw [if_pos h1] at h;omega
   · rw [if_neg h1] at h ⊢
     obtain ⟨h2,h3⟩:=goK_all most (fun c=>sizeK most n (d+1) c.conds) l 0 (by omega)
     cases m with
     | zero=>simp [flatC]
     | succ m=>
       have h4:=sum_le_of (fun c:CondT=>1+(flatC m (e+1) c.conds).length) (fun c=>1+sizeK most n (d+1) c.conds) l (fun c hc=>by
        have:=sizeK_flat most n m (d+1) (e+1) c.conds (h3 c hc)
        omega)
       rw [flatC_len]
       omega
theorem sizeK_deep (most:Nat) : ∀(n d:Nat) (l:List CondT),sizeK most n d l≤most→d≤20∧∀{D:Nat→Prop} {w:World} {A:Option Addr} {c:Nat},RowR (repCondT n) D w A c l→RowR (repCondT (20 - d)) D w A c l
 | 0,d,l,h=>by
   rw [sizeK] at h
   by_cases h1:20<d
   · rw [if_pos h1] at h;omega
   · rw [if_neg h1] at h
     by_cases h2:l = []
     · subst h2
       exact ⟨by omega,fun g=>⟨g.1,g.2.1,fun h=>absurd h (by simp)⟩⟩
     · rw [if_neg h2] at h;omega
 | n+1,d,l,h=>by
   rw [sizeK] at h
   by_cases h1:20<d
   · rw [if_pos h1] at h;omega
   · rw [if_neg h1] at h
     obtain ⟨_,h3⟩:=goK_all most (fun c=>sizeK most n (d+1) c.conds) l 0 (by omega)
     refine ⟨by omega,fun {D w A c} g=>?_⟩
     refine ⟨g.1,g.2.1,fun h0=>?_⟩
     obtain ⟨b,off,g1,g2,g3,g4⟩:=g.2.2 h0
     obtain ⟨d1,_⟩:=sizeK_deep most n (d+1) _ (h3 l[0] (List.getElem_mem h0))
     obtain ⟨k,hk⟩ : ∃k,20 - d=k+1:=⟨20 - d - 1,by omega⟩
     refine ⟨b,off,g1,g2,g3,fun j hj=>?_⟩
     obtain ⟨cs,r,hc⟩:=g4 j hj
     obtain ⟨A1,c1,A2,c2,A3,c3,e0,e1,e2,e3⟩:=r
     have h5:=(sizeK_deep most n (d+1) _ (h3 l[j] (List.getElem_mem hj))).2 e3
     rw [hk]
     rw [show 20 - (d+1)=k by omega] at h5
     exact ⟨cs,⟨A1,c1,A2,c2,A3,c3,e0,e1,e2,h5⟩,hc⟩
def heavyT (t:TestT):Bool:=decide (20<t.list.length) || (decide (100<t.var.size) || decide (100<t.sym.text.size))
def heavyO (c:CondT):Bool:=decide (100<c.id.size) || (decide (10<c.attr.length) || (decide (10<c.value.length) || (c.attr.any heavyT || c.value.any heavyT)))
def heavyC:Nat→List CondT→Bool
 | 0,_=>false
 | n+1,l=>l.any fun c=>heavyO c || heavyC n c.conds
def heavyP (n:Nat) (p:ProdT):Bool:=decide (40<sizeK 40 n 0 p.conds) || (decide (40<p.acts.length) || (decide (100<p.name.size) || heavyC n p.conds))
set_option maxRecDepth 100000 in
set_option maxHeartbeats 2000000 in
theorem heavyTests_is {D:Nat→Prop} {A:Option Addr} {c:Nat} (l:List TestT) (w:World) (h:RowR repTestT D w A c l):Calls Try.prog 53 #[.slice A l.length c] w fun e w'=>e = .returned (.bool (l.any heavyT))∧w=w':=by
 have H:=Lib.hid h
 have hlc:=h.cap
 clear h
 go_enter Try.func53,Try.ntmps53
 go_wp2_with fail
 go_loopw [3] (fun s wr=>∃i:Nat,s = .int .i64 i∧i≤l.length∧(∀k,(h:k<l.length)→k<i→heavyT l[k]=false)∧wr=w) (fun s wr=>l.length - (intOf s).toNat)
 case atStart=>exact ⟨0,rfl,Nat.zero_le _,fun k _ h=>absurd h (by omega),rfl⟩
 case round=>
  obtain ⟨i,rfl,hi,hall,rfl⟩:=hrel
  have HALL:=Lib.hid hall
  clear hall
  by_cases hlt:i<l.length
  · obtain ⟨x,hx⟩ : ∃x,x=l[i]:=⟨_,rfl⟩
    obtain ⟨g,off,A1,c1,rfl,_,hgs,q0,q1,q2,q3,q4,q5,hr⟩:=at_TestT H.out hlt
    rw [← hx] at q0 q1 q2 q3 q4 q5 hr
    have hcap:=hr.cap
    have b1:(0:Int)≤(i:Int):=by omega
    have b2:(i:Int)<(l.length:Int):=by omega
    have HX:=Lib.hid hx
    have HYES:=Lib.hid (show heavyT x=true→l.any heavyT=true from fun h=>List.any_eq_true.2 ⟨x,by rw [HX.out];exact List.getElem_mem hlt,h⟩)
    clear hx hr
    cases t1:decide (20<x.list.length)
    · cases t2:decide (100<x.var.size)
      · cases t3:decide (100<x.sym.text.size)
        · have s1:decide ((20:Int)<(x.list.length:Int))=false:=by simp at t1 ⊢;omega
          have s2:decide ((100:Int)<(x.var.size:Int))=false:=by simp at t2 ⊢;omega
          have s3:decide ((100:Int)<(x.sym.text.size:Int))=false:=by simp at t3 ⊢;omega
          have HN:=Lib.hid (show heavyT x=false by simp [heavyT,t1,t2,t3])
          clear t1 t2 t3
          go_wp2_with fail
          go_roundw
          case rel=>
           refine ⟨i+1,by go_num,by omega,fun k h hk=>?_,by trivial⟩
           rcases Nat.lt_or_ge k i with h3 | h3
           · exact HALL.out k h h3
           · obtain rfl:k=i:=by omega
             rw [← HX.out]
             exact HN.out
          case measure=>simp [intOf]<;>omega
        · have s1:decide ((20:Int)<(x.list.length:Int))=false:=by simp at t1 ⊢;omega
          have s2:decide ((100:Int)<(x.var.size:Int))=false:=by simp at t2 ⊢;omega
          have s3:decide ((100:Int)<(x.sym.text.size:Int))=true:=by simp at t3 ⊢;omega
          have HN:=Lib.hid (HYES.out (by simp [heavyT,t3]))
          clear t1 t2 t3
          go_wp2_with fail
          go_ret
          exact ⟨by rw [HN.out];rfl,rfl⟩
      · have s1:decide ((20:Int)<(x.list.length:Int))=false:=by simp at t1 ⊢;omega
        have s2:decide ((100:Int)<(x.var.size:Int))=true:=by simp at t2 ⊢;omega
        have HN:=Lib.hid (HYES.out (by simp [heavyT,t2]))
        clear t1 t2
        go_wp2_with fail
        go_ret
        exact ⟨by rw [HN.out];rfl,rfl⟩
    · have s1:decide ((20:Int)<(x.list.length:Int))=true:=by simp at t1 ⊢;omega
      have HN:=Lib.hid (HYES.out (by simp [heavyT,t1]))
      clear t1
      go_wp2_with fail
      go_ret
      exact ⟨by rw [HN.out];rfl,rfl⟩
  · have hie:i=l.length:=by omega
    subst hie
    have HN:=Lib.hid (show l.any heavyT=false by
     rw [List.any_eq_false]
     intro x hx
     obtain ⟨k,hk,rfl⟩:=List.getElem_of_mem hx
     simp [HALL.out k hk hk])
    go_wp2_with fail
    go_ret
    exact ⟨by rw [HN.out];rfl,rfl⟩
set_option maxRecDepth 100000 in
set_option maxHeartbeats 4000000 in
theorem size_is (most:Nat) (hm:most≤1000) : ∀(n:Nat) (D:Nat→Prop) (A:Option Addr) (c:Nat) (d:Nat) (l:List CondT) (w:World),RowR (repCondT n) D w A c l→d≤21→
 Calls Try.prog 25 #[.slice A l.length c,.int .i64 (most:Int),.int .i64 (d:Int)] w fun e w'=>e = .returned (.int .i64 (sizeK most n d l:Int))∧w=w':=by
 intro n
 induction n with
 | zero=>
   intro D A c d l w h hd
   have hl0:l = []:=by
    cases l with
    | nil=>rfl
    | cons x l=>
      obtain ⟨b,off,cs,_,_,_,hr,_⟩:=h.at_ (k:=0) (by simp)
      exact hr.elim
   subst hl0
   clear h
   by_cases h20:20<d
   · have t1:decide ((20:Int)<(d:Int))=true:=by simp;omega
     have v1:IntKind.i64.wrap ((most:Int)+1)=(most:Int)+1:=IntWalk.i64_in _ (by omega)
     have HR:=Lib.hid (show ((sizeK most 0 d []:Nat):Int)=(most:Int)+1 by rw [sizeK,if_pos h20];rfl)
     clear h20
     go_enter Try.func25,Try.ntmps25
     go_wp2_with fail
     go_ret
     exact ⟨by rw [HR.out];rfl,rfl⟩
   · have t1:decide ((20:Int)<(d:Int))=false:=by simp;omega
     have v1:IntKind.i64.wrap ((most:Int)+1)=(most:Int)+1:=IntWalk.i64_in _ (by omega)
     have HR:=Lib.hid (show ((sizeK most 0 d []:Nat):Int)=0 by rw [sizeK,if_neg h20,if_pos rfl];rfl)
     have hmin:min (0:Int) ((most:Int)+1)=0:=by omega
     clear h20
     go_enter Try.func25,Try.ntmps25
     go_wp2_with fail
     go_loopw [7,8] (fun a s wr=>s = .int .i64 0∧a = .int .i64 0∧wr=w) (fun a s wr=>0)
     case atStart=>exact ⟨rfl,rfl,rfl⟩
     case round=>
      obtain ⟨rfl,rfl,rfl⟩:=hrel
      go_wp2_with fail
      go_ret
      exact ⟨by rw [HR.out];rfl,rfl⟩
 | succ n ih=>
   intro D A c d l w h hd
   have IH:=Lib.hid ih
   have H:=Lib.hid h
   have hlc:=h.cap
   clear h ih
   have v1:IntKind.i64.wrap ((most:Int)+1)=(most:Int)+1:=IntWalk.i64_in _ (by omega)
   by_cases h20:20<d
   · have t1:decide ((20:Int)<(d:Int))=true:=by simp;omega
     have HR:=Lib.hid (show ((sizeK most (n+1) d l:Nat):Int)=(most:Int)+1 by rw [sizeK,if_pos h20];rfl)
     clear h20
     go_enter Try.func25,Try.ntmps25
     go_wp2_with fail
     go_ret
     exact ⟨by rw [HR.out];rfl,rfl⟩
   · have t1:decide ((20:Int)<(d:Int))=false:=by simp;omega
     obtain ⟨f,hf⟩ : ∃f:CondT→Nat,f=fun c=>sizeK most n (d+1) c.conds:=⟨_,rfl⟩
     have hfle : ∀c,f c≤most+1:=fun c=>by
      rw [hf]
      cases n with
      | zero=>simp only [sizeK];split;omega;split<;>omega
      | succ n=>simp only [sizeK];split;omega;omega
     have HFLE:=Lib.hid hfle
     have HR:=Lib.hid (show ((sizeK most (n+1) d l:Nat):Int)=min ((goK most f l 0:Nat):Int) ((most:Int)+1) by rw [sizeK,if_neg h20,← hf];omega)
     have HF:=Lib.hid hf
     have hd20:d≤20:=by omega
     clear h20 hfle hf
     go_enter Try.func25,Try.ntmps25
     go_wp2_with fail
     go_loopw [7,8] (fun a s wr=>∃i:Nat,s = .int .i64 i∧i≤l.length∧a = .int .i64 ((goK most f (l.take i) 0:Nat):Int)∧goK most f (l.take i) 0≤2*most+2∧wr=w) (fun a s wr=>l.length - (intOf s).toNat)
     case atStart=>exact ⟨0,rfl,Nat.zero_le _,rfl,by simp [goK],rfl⟩
     case round=>
      obtain ⟨i,rfl,hi,rfl,hle,rfl⟩:=hrel
      obtain ⟨s,hs⟩ : ∃s,s=goK most f (l.take i) 0:=⟨_,rfl⟩
      rw [← hs] at hle ⊢
      have HS:=Lib.hid hs
      clear hs
      by_cases hlt:i<l.length
      · by_cases hsm:s≤most
        · have t2:decide ((s:Int)≤(most:Int))=true:=by simp;omega
          obtain ⟨x,hx⟩ : ∃x,x=l[i]:=⟨_,rfl⟩
          obtain ⟨g,off,A1,c1,A2,c2,A3,c3,rfl,_,hgs,q0,q1,q2,q3,q4,q5,q6,r1,r2,r3⟩:=at_CondT H.out hlt
          rw [← hx] at q6 r3
          have HR3:=Lib.hid r3
          have hn3:=r3.cap
          have b1:(0:Int)≤(i:Int):=by omega
          have b2:(i:Int)<(l.length:Int):=by omega
          obtain ⟨y,hy⟩ : ∃y,y=f x:=⟨_,rfl⟩
          have hyle:y≤most+1:=by rw [hy];exact HFLE.out x
          have HCL:=Lib.hid (show Calls Try.prog 25 #[.slice A3 x.conds.length c3,.int .i64 (most:Int),.int .i64 ((d:Int)+1)] wr fun e w'=>e = .returned (.int .i64 (y:Int))∧wr=w' by
           have:=IH.out D A3 c3 (d+1) x.conds wr HR3.out (by omega)
           rw [hy,HF.out]
           exact this)
          have HN:=Lib.hid (show goK most f (l.take (i+1)) 0=s+(1+y) by
           rw [List.take_succ_eq_append_getElem hlt,goK_snoc,← HS.out,if_pos hsm,← hx,hy])
          have v2:IntKind.i64.wrap ((d:Int)+1)=(d:Int)+1:=IntWalk.i64_in _ (by omega)
          have v3:IntKind.i64.wrap (1+(y:Int))=1+(y:Int):=IntWalk.i64_in _ (by omega)
          have v4:IntKind.i64.wrap ((s:Int)+(1+(y:Int)))=(s:Int)+(1+(y:Int)):=IntWalk.i64_in _ (by omega)
          clear hx hy r1 r2 r3 q0 q1 q2 q3 q4 q5
          go_wp2_with fail
          refine HCL.out.mono ?_
          rintro e w2 ⟨rfl,rfl⟩
          go_wp2_with fail
          go_roundw
          case rel=>exact ⟨i+1,by go_num,by omega,by rw [HN.out];simp,by rw [HN.out];omega,by trivial⟩
          case measure=>simp [intOf]<;>omega
        · have t2:decide ((s:Int)≤(most:Int))=false:=by simp;omega
          have b2:(i:Int)<(l.length:Int):=by omega
          have hmin:min (s:Int) ((most:Int)+1)=(most:Int)+1:=by omega
          have HN:=Lib.hid (show goK most f l 0=s by
           have:=goK_stop most f (l.take i) (l.drop i) 0 (by rw [← HS.out];exact hsm)
           rwa [List.take_append_drop,← HS.out] at this)
          clear hsm
          go_wp2_with fail
          go_ret
          exact ⟨by rw [HR.out,HN.out,hmin];rfl,rfl⟩
      · have hie:i=l.length:=by omega
        subst hie
        have HN:=Lib.hid (show goK most f l 0=s by rw [HS.out,List.take_length])
        obtain ⟨z,hz⟩ : ∃z,z=min (s:Int) ((most:Int)+1):=⟨_,rfl⟩
        have HZ:=Lib.hid hz
        clear hz
        go_wp2_with fail
        go_ret
        exact ⟨by rw [HR.out,HN.out];rfl,rfl⟩
theorem heavyC_succ (n:Nat) (l:List CondT):heavyC (n+1) l=l.any fun c=>heavyO c || heavyC n c.conds:=rfl
set_option maxRecDepth 100000 in
set_option maxHeartbeats 4000000 in
theorem heavyConds_is : ∀(n:Nat) (D:Nat→Prop) (A:Option Addr) (c:Nat) (l:List CondT) (w:World),RowR (repCondT n) D w A c l→
 Calls Try.prog 26 #[.slice A l.length c] w fun e w'=>e = .returned (.bool (heavyC n l))∧Below w.heap.size w w':=by
 intro n
 induction n with
 | zero=>
   intro D A c l w h
   have hl0:l = []:=by
    cases l with
    | nil=>rfl
    | cons x l=>
      obtain ⟨b,off,cs,_,_,_,hr,_⟩:=h.at_ (k:=0) (by simp)
      exact hr.elim
   subst hl0
   clear h
   go_enter Try.func26,Try.ntmps26
   go_wp2_with fail
   go_loopw [3] (fun s wr=>s = .int .i64 0∧wr=w) (fun s wr=>0)
   case atStart=>exact ⟨rfl,rfl⟩
   case round=>
    obtain ⟨rfl,rfl⟩:=hrel
    go_wp2_with fail
    go_ret
    exact ⟨rfl,Below.refl _ _⟩
 | succ n ih=>
   intro D A c l w h
   have IH:=Lib.hid ih
   have H:=Lib.hid h
   have hlc:=h.cap
   clear h ih
   obtain ⟨R,hR⟩ : ∃R,R=heavyC (n+1) l:=⟨_,rfl⟩
   rw [← hR]
   have HR:=Lib.hid (show R=l.any fun c=>heavyO c || heavyC n c.conds by rw [hR,heavyC_succ])
   clear hR
   go_enter Try.func26,Try.ntmps26
   go_wp2_with fail
   go_loopw [3] (fun s wr=>∃i:Nat,s = .int .i64 i∧i≤l.length∧(∀k,(h:k<l.length)→k<i→(heavyO l[k] || heavyC n l[k].conds)=false)∧Below w.heap.size w wr) (fun s wr=>l.length - (intOf s).toNat)
   case atStart=>exact ⟨0,rfl,Nat.zero_le _,fun k _ h=>absurd h (by omega),Below.refl _ _⟩
   case round=>
    obtain ⟨i,rfl,hi,hall,hB⟩:=hrel
    have HALL:=Lib.hid hall
    have HB0:=Lib.hid hB
    clear hall hB
    by_cases hlt:i<l.length
    · obtain ⟨x,hx⟩ : ∃x,x=l[i]:=⟨_,rfl⟩
      obtain ⟨g,off,A1,c1,A2,c2,A3,c3,rfl,_,hgs,q0,q1,q2,q3,q4,q5,q6,r1,r2,r3⟩:=at_CondT (H.out.new_ HB0.out) hlt
      rw [← hx] at q0 q1 q2 q3 q4 q5 q6 r1 r2 r3
      have HR1:=Lib.hid r1
      have HR2:=Lib.hid r2
      have HR3:=Lib.hid r3
      have hn1:=r1.cap
      have hn2:=r2.cap
      have hn3:=r3.cap
      have b1:(0:Int)≤(i:Int):=by omega
      have b2:(i:Int)<(l.length:Int):=by omega
      have HX:=Lib.hid hx
      have HYES:=Lib.hid (show (heavyO x || heavyC n x.conds)=true→R=true from fun h=>by rw [HR.out];exact List.any_eq_true.2 ⟨x,by rw [HX.out];exact List.getElem_mem hlt,h⟩)
      have hsz:=HB0.out.size
      clear hx r1 r2 r3
      go_upto_region 5 with fail
      obtain ⟨X,hX⟩ : ∃X,X=wr.alloc (.cells #[.int .i64 x.kind,.bool x.goal,.string x.id,.slice A1 x.attr.length c1,.slice A2 x.value.length c2,.bool x.acc,.slice A3 x.conds.length c3] 50):=⟨_,rfl⟩
      rw [← hX]
      have hbX:Below wr.heap.size wr X:=by rw [hX];exact (Below.refl _ _).alloc (Nat.le_refl _) _
      have Kx:=Lib.hid (show Blk X wr.heap.size 50 #[.int .i64 x.kind,.bool x.goal,.string x.id,.slice A1 x.attr.length c1,.slice A2 x.value.length c2,.bool x.acc,.slice A3 x.conds.length c3] by rw [hX];exact Blk.new _ _ _)
      have HB:=Lib.hid hbX
      have HBW:=Lib.hid (HB0.out.trans (hbX.mono hsz))
      clear hX hbX q0 q1 q2 q3 q4 q5 q6
      obtain ⟨-,-,x2,x3,x4,-,x6⟩:=Kx.out.c7
      have xz:=Kx.out.lt
      cases t1:decide (100<x.id.size)
      · skip
        cases t2:decide (10<x.attr.length)
        · skip
          cases t3:decide (10<x.value.length)
          · skip
            have s1:decide ((100:Int)<(x.id.size:Int))=false:=by simp at t1 ⊢;omega
            have s2:decide ((10:Int)<(x.attr.length:Int))=false:=by simp at t2 ⊢;omega
            have s3:decide ((10:Int)<(x.value.length:Int))=false:=by simp at t3 ⊢;omega
            cases t4:x.attr.any heavyT
            · skip
              cases t5:x.value.any heavyT
              · skip
                cases t6:heavyC n x.conds
                · skip
                  have hc1:=heavyTests_is x.attr X (HR1.out.new_ HB.out)
                  rw [t4] at hc1
                  have HC1:=Lib.hid hc1
                  clear hc1
                  have hc2:=heavyTests_is x.value X (HR2.out.new_ HB.out)
                  rw [t5] at hc2
                  have HC2:=Lib.hid hc2
                  clear hc2
                  have hc3:=IH.out D A3 c3 x.conds X (HR3.out.new_ HB.out)
                  rw [t6] at hc3
                  have HC3:=Lib.hid hc3
                  clear hc3
                  have HN:=Lib.hid (show (heavyO x || heavyC n x.conds)=false by simp [heavyO,t1,t2,t3,t4,t5,t6])
                  clear t1 t2 t3 t4 t5 t6
                  go_wp2_with fail
                  refine HC1.out.mono ?_
                  rintro e w9 ⟨rfl,rfl⟩
                  go_wp2_with fail
                  refine HC2.out.mono ?_
                  rintro e w9 ⟨rfl,rfl⟩
                  go_wp2_with fail
                  refine HC3.out.mono ?_
                  rintro e w5 ⟨rfl,hb5⟩
                  have HB5:=Lib.hid (HBW.out.trans (hb5.mono HBW.out.size))
                  clear hb5
                  clear x2 x3 x4 x6
                  go_wp2_with fail
                  go_roundw
                  case rel=>
                   refine ⟨i+1,by go_num,by omega,fun k h hk=>?_,HB5.out⟩
                   rcases Nat.lt_or_ge k i with h3 | h3
                   · exact HALL.out k h h3
                   · obtain rfl:k=i:=by omega
                     rw [← HX.out]
                     exact HN.out
                  case measure=>simp [intOf]<;>omega
                · skip
                  have hc1:=heavyTests_is x.attr X (HR1.out.new_ HB.out)
                  rw [t4] at hc1
                  have HC1:=Lib.hid hc1
                  clear hc1
                  have hc2:=heavyTests_is x.value X (HR2.out.new_ HB.out)
                  rw [t5] at hc2
                  have HC2:=Lib.hid hc2
                  clear hc2
                  have hc3:=IH.out D A3 c3 x.conds X (HR3.out.new_ HB.out)
                  rw [t6] at hc3
                  have HC3:=Lib.hid hc3
                  clear hc3
                  have HN:=Lib.hid (HYES.out (by simp [t6]))
                  clear t1 t2 t3 t4 t5 t6
                  go_wp2_with fail
                  refine HC1.out.mono ?_
                  rintro e w9 ⟨rfl,rfl⟩
                  go_wp2_with fail
                  refine HC2.out.mono ?_
                  rintro e w9 ⟨rfl,rfl⟩
                  go_wp2_with fail
                  refine HC3.out.mono ?_
                  rintro e w5 ⟨rfl,hb5⟩
                  have HB5:=Lib.hid (HBW.out.trans (hb5.mono HBW.out.size))
                  clear hb5
                  clear x2 x3 x4 x6
                  go_wp2_with fail
                  go_ret
                  exact ⟨by rw [HN.out];rfl,HB5.out⟩
              · skip
                have hc1:=heavyTests_is x.attr X (HR1.out.new_ HB.out)
                rw [t4] at hc1
                have HC1:=Lib.hid hc1
                clear hc1
                have hc2:=heavyTests_is x.value X (HR2.out.new_ HB.out)
                rw [t5] at hc2
                have HC2:=Lib.hid hc2
                clear hc2
                have HN:=Lib.hid (HYES.out (by simp [heavyO,t5]))
                clear t1 t2 t3 t4 t5
                go_wp2_with fail
                refine HC1.out.mono ?_
                rintro e w9 ⟨rfl,rfl⟩
                go_wp2_with fail
                refine HC2.out.mono ?_
                rintro e w9 ⟨rfl,rfl⟩
                go_wp2_with fail
                go_ret
                exact ⟨by rw [HN.out];rfl,HBW.out⟩
            · skip
              have hc1:=heavyTests_is x.attr X (HR1.out.new_ HB.out)
              rw [t4] at hc1
              have HC1:=Lib.hid hc1
              clear hc1
              have HN:=Lib.hid (HYES.out (by simp [heavyO,t4]))
              clear t1 t2 t3 t4
              go_wp2_with fail
              refine HC1.out.mono ?_
              rintro e w9 ⟨rfl,rfl⟩
              go_wp2_with fail
              go_ret
              exact ⟨by rw [HN.out];rfl,HBW.out⟩
          · skip
            have s1:decide ((100:Int)<(x.id.size:Int))=false:=by simp at t1 ⊢;omega
            have s2:decide ((10:Int)<(x.attr.length:Int))=false:=by simp at t2 ⊢;omega
            have s3:decide ((10:Int)<(x.value.length:Int))=true:=by simp at t3 ⊢;omega
            have HN:=Lib.hid (HYES.out (by simp [heavyO,t3]))
            clear t1 t2 t3
            go_wp2_with fail
            go_ret
            exact ⟨by rw [HN.out];rfl,HBW.out⟩
        · skip
          have s1:decide ((100:Int)<(x.id.size:Int))=false:=by simp at t1 ⊢;omega
          have s2:decide ((10:Int)<(x.attr.length:Int))=true:=by simp at t2 ⊢;omega
          have HN:=Lib.hid (HYES.out (by simp [heavyO,t2]))
          clear t1 t2
          go_wp2_with fail
          go_ret
          exact ⟨by rw [HN.out];rfl,HBW.out⟩
      · skip
        have s1:decide ((100:Int)<(x.id.size:Int))=true:=by simp at t1 ⊢;omega
        have HN:=Lib.hid (HYES.out (by simp [heavyO,t1]))
        clear t1
        go_wp2_with fail
        go_ret
        exact ⟨by rw [HN.out];rfl,HBW.out⟩
    · have hie:i=l.length:=by omega
      subst hie
      have HN:=Lib.hid (show R=false by
       rw [HR.out,List.any_eq_false]
       intro x hx
       obtain ⟨k,hk,rfl⟩:=List.getElem_of_mem hx
       have:=HALL.out k hk hk
       simpa using this)
      go_wp2_with fail
      go_ret
      exact ⟨by rw [HN.out];rfl,HB0.out⟩
set_option maxRecDepth 100000 in
set_option maxHeartbeats 4000000 in
theorem heavy_is {D:Nat→Prop} (n:Nat) (p:ProdT) (A1 A2:Option Addr) (c1 c2:Nat) (w:World) (h1:RowR (repCondT n) D w A1 c1 p.conds) (h2:RowR repActT D w A2 c2 p.acts) :
 Calls Try.prog 7 #[.agg #[.string p.name,.slice A1 p.conds.length c1,.slice A2 p.acts.length c2]] w fun e w'=>e = .returned (.bool (heavyP n p))∧Below w.heap.size w w':=by
 have H1:=Lib.hid h1
 have hac:=h2.cap
 obtain ⟨R,hR⟩ : ∃R,R=heavyP n p:=⟨_,rfl⟩
 rw [← hR]
 have HR:=Lib.hid hR
 obtain ⟨s,hs⟩ : ∃s,s=sizeK 40 n 0 p.conds:=⟨_,rfl⟩
 unfold heavyP at hR
 rw [← hs] at hR
 have HV:=Lib.hid hR
 clear hR h1 h2
 go_enter Try.func7,Try.ntmps7
 go_upto_region 1 with fail
 obtain ⟨w1,hw1⟩ : ∃w1,w1=(w.alloc (.cells #[.string p.name,.slice A1 p.conds.length c1,.slice A2 p.acts.length c2] 25)):=⟨_,rfl⟩
 rw [← hw1]
 have HB:=Lib.hid (show Below w.heap.size w w1 by rw [hw1];exact (by repeat (first | exact Below.refl _ _ | refine Below.drew ?_ | refine Below.al ?_ _ | refine Below.sc ?_ _)))
 have Kp:=Lib.hid (show Blk w1 (w.heap.size) 25 #[.string p.name,.slice A1 p.conds.length c1,.slice A2 p.acts.length c2] by rw [hw1];exact (Blk.new w 25 #[.string p.name,.slice A1 p.conds.length c1,.slice A2 p.acts.length c2]))
 clear hw1
 obtain ⟨p0,p1,p2⟩:=Kp.out.c3
 have pz:=Kp.out.lt
 have hc1:Calls Try.prog 25 #[.slice A1 p.conds.length c1,.int .i64 40,.int .i64 0] w1 _:=size_is 40 (by decide) n D A1 c1 0 p.conds w1 (H1.out.new_ HB.out) (by decide)
 rw [← hs] at hc1
 have HC1:=Lib.hid hc1
 clear hc1 hs
 cases t1:decide (40<s)
 · skip
   cases t2:decide (40<p.acts.length)
   · skip
     cases t3:decide (100<p.name.size)
     · skip
       have s1:decide ((40:Int)<(s:Int))=false:=by simp at t1 ⊢;omega
       have s2:decide ((40:Int)<(p.acts.length:Int))=false:=by simp at t2 ⊢;omega
       have s3:decide ((100:Int)<(p.name.size:Int))=false:=by simp at t3 ⊢;omega
       have HN:=Lib.hid (show R=heavyC n p.conds by rw [HV.out,t1,t2,t3];simp)
       clear t1 t2 t3
       go_wp2_with fail
       with_reducible refine (HC1.out).mono ?_
       rintro e w0 ⟨rfl,rfl⟩
       go_wp2_with fail
       with_reducible refine (heavyConds_is n D A1 c1 p.conds _ (H1.out.new_ HB.out)).mono ?_
       rintro e w2 ⟨rfl,hb⟩
       have hbs:=Below.trans (show Below w1.heap.size w1 _ from (by (repeat (first | exact Below.refl _ _ | refine Below.drew ?_ | refine Below.al ?_ _ | refine Below.sc ?_ _)))) (hb.mono (by simp<;>omega))
       have Kp:=Lib.hid (Kp.out.new_ hbs)
       have HB:=Lib.hid (HB.out.trans (hbs.mono HB.out.size))
       have hsz2:=hbs.size
       clear p0 p1 p2 pz hb hbs
       obtain ⟨p0,p1,p2⟩:=Kp.out.c3
       have pz:=Kp.out.lt
       go_wp2_with fail
       go_ret
       exact ⟨by rw [HN.out];rfl,HB.out⟩
     · skip
       have s1:decide ((40:Int)<(s:Int))=false:=by simp at t1 ⊢;omega
       have s2:decide ((40:Int)<(p.acts.length:Int))=false:=by simp at t2 ⊢;omega
       have s3:decide ((100:Int)<(p.name.size:Int))=true:=by simp at t3 ⊢;omega
       have HN:=Lib.hid (show R=true by rw [HV.out,t1,t2,t3];simp)
       clear t1 t2 t3
       go_wp2_with fail
       with_reducible refine (HC1.out).mono ?_
       rintro e w0 ⟨rfl,rfl⟩
       go_wp2_with fail
       go_ret
       exact ⟨by rw [HN.out];rfl,HB.out⟩
   · skip
     have s1:decide ((40:Int)<(s:Int))=false:=by simp at t1 ⊢;omega
     have s2:decide ((40:Int)<(p.acts.length:Int))=true:=by simp at t2 ⊢;omega
     have HN:=Lib.hid (show R=true by rw [HV.out,t1,t2];simp)
     clear t1 t2
     go_wp2_with fail
     with_reducible refine (HC1.out).mono ?_
     rintro e w0 ⟨rfl,rfl⟩
     go_wp2_with fail
     go_ret
     exact ⟨by rw [HN.out];rfl,HB.out⟩
 · skip
   have s1:decide ((40:Int)<(s:Int))=true:=by simp at t1 ⊢;omega
   have HN:=Lib.hid (show R=true by rw [HV.out,t1];simp)
   clear t1
   go_wp2_with fail
   with_reducible refine (HC1.out).mono ?_
   rintro e w0 ⟨rfl,rfl⟩
   go_wp2_with fail
   go_ret
   exact ⟨by rw [HN.out];rfl,HB.out⟩
theorem heavyP_light {n:Nat} {p:ProdT} (h:heavyP n p=false):(∀{D:Nat→Prop} {w:World} {A:Option Addr} {c:Nat},RowR (repCondT n) D w A c p.conds→RowR (repCondT 20) D w A c p.conds)∧(∀m e,(flatC m e p.conds).length≤40)∧p.acts.length≤40∧p.name.size≤100:=by
 unfold heavyP at h
 simp only [Bool.or_eq_false_iff,decide_eq_false_iff_not] at h
 obtain ⟨h1,h2,h3,h4⟩:=h
 have h5:sizeK 40 n 0 p.conds≤40:=by omega
 exact ⟨fun g=>(sizeK_deep 40 n 0 p.conds h5).2 g,fun m e=>Nat.le_trans (sizeK_flat 40 n m 0 e p.conds h5) h5,by omega,by omega⟩
end Go.Proofs.Ytffemfglngikbaa
namespace Go.Proofs.Ytffemfglngikbaa
open Go.RowKit Go.Shelf
theorem fm_congr {α β:Type} {f g:α→List β} : ∀{l:List α},(∀x∈l,f x=g x)→l.flatMap f=l.flatMap g
 | [],_=>rfl
 | x :: l,h=>by rw [List.flatMap_cons,List.flatMap_cons,h x (by simp),fm_congr (l:=l) (fun y hy=>h y (by simp [hy]))]
theorem sizeK_zero {d:Nat} {l:List CondT} (h:sizeK 40 0 d l≤40):l = []:=by
 rw [sizeK] at h
 by_cases h1:20<d
 · rw [if_pos h1] at h;omega
 · rw [if_neg h1] at h
   by_cases h2:l = []
   · exact h2
   · rw [if_neg h2] at h;omega
theorem sizeK_go {n d:Nat} {l:List CondT} (h:sizeK 40 (n+1) d l≤40):sizeK 40 (n+1) d l=(l.map fun c=>1+sizeK 40 n (d+1) c.conds).sum∧∀c∈l,sizeK 40 n (d+1) c.conds≤40:=by
 rw [sizeK] at h ⊢
 by_cases h1:20<d
 · rw [if_pos h1] at h;omega
 · rw [if_neg h1] at h ⊢
   obtain ⟨g1,g2⟩:=goK_all 40 (fun c=>sizeK 40 n (d+1) c.conds) l 0 (by omega)
   exact ⟨by omega,g2⟩
theorem len_sum (f:CondT→Nat) : ∀l:List CondT,l.length≤(l.map fun c=>1+f c).sum
 | []=>by simp
 | c :: l=>by have:=len_sum f l;rw [List.map_cons,List.sum_cons,List.length_cons];omega
theorem sizeK_len : ∀(n d:Nat) (l:List CondT),sizeK 40 n d l≤40→l.length≤40
 | 0,d,l,h=>by rw [sizeK_zero h];simp
 | n+1,d,l,h=>by
   obtain ⟨g1,_⟩:=sizeK_go h
   have:=len_sum (fun c=>sizeK 40 n (d+1) c.conds) l
   omega
theorem heavy_in {n:Nat} {l:List CondT} (h:heavyC (n+1) l=false) {c:CondT} (hc:c∈l):heavyO c=false∧heavyC n c.conds=false:=by
 have h2:=List.any_eq_false.1 (show (l.any fun c=>heavyO c || heavyC n c.conds)=false from h) c hc
 simp only [Bool.or_eq_true,not_or,Bool.not_eq_true] at h2
 exact h2
theorem heavyT_sm {l:List TestT} (h1:l.length≤10) (h2:l.any heavyT=false):SmT l:=by
 refine ⟨by omega,fun t ht=>?_⟩
 have h3:=List.any_eq_false.1 h2 t ht
 unfold heavyT at h3
 simp only [Bool.or_eq_true,decide_eq_true_eq,not_or] at h3
 omega
theorem heavyO_sm {c:CondT} (h:heavyO c=false):c.id.size≤100∧c.attr.length≤10∧c.value.length≤10∧SmT c.attr∧SmT c.value∧c.attr.any heavyT=false∧c.value.any heavyT=false:=by
 unfold heavyO at h
 simp only [Bool.or_eq_false_iff,decide_eq_false_iff_not] at h
 obtain ⟨h1,h2,h3,h4,h5⟩:=h
 exact ⟨by omega,by omega,by omega,heavyT_sm (by omega) h4,heavyT_sm (by omega) h5,h4,h5⟩
theorem smc_of40 : ∀(n d m:Nat) (l:List CondT),sizeK 40 n d l≤40→heavyC n l=false→∀c∈l,SmC m c
 | 0,d,m,l,h1,_,c,hc=>by rw [sizeK_zero h1] at hc;cases hc
 | n+1,d,0,l,_,_,c,hc=>trivial
 | n+1,d,m+1,l,h1,h2,c,hc=>by
   obtain ⟨g1,g2⟩:=sizeK_go h1
   obtain ⟨k1,k2⟩:=heavy_in h2 hc
   obtain ⟨-,-,-,s1,s2,-,-⟩:=heavyO_sm k1
   have:=sizeK_len n (d+1) c.conds (g2 c hc)
   exact ⟨s1,s2,by omega,smc_of40 n (d+1) m c.conds (g2 c hc) k2⟩
theorem flat_sum40 {β:Type} (f:CondT→List β) (g:CondT→Nat) (k:Nat) : ∀l:List CondT,(∀c∈l,(f c).length≤k*g c)→(l.flatMap f).length≤k*(l.map g).sum
 | [],_=>by simp
 | c :: l,h=>by
   have h1:=h c (by simp)
   have h2:=flat_sum40 f g k l (fun x hx=>h x (by simp [hx]))
   rw [List.flatMap_cons,List.length_append,List.map_cons,List.sum_cons,Nat.mul_add]
   omega
theorem names_len40 : ∀(n d m:Nat) (l:List CondT),sizeK 40 n d l≤40→heavyC n l=false→(l.flatMap (namesN m)).length≤21*sizeK 40 n d l
 | 0,d,m,l,h1,_=>by rw [sizeK_zero h1];simp
 | n+1,d,0,l,_,_=>by
   have:l.flatMap (namesN 0) = []:=by
    rw [List.flatMap_eq_nil_iff]
    intro x _
    rfl
   rw [this];simp
 | n+1,d,m+1,l,h1,h2=>by
   obtain ⟨g1,g2⟩:=sizeK_go h1
   rw [g1]
   refine flat_sum40 (namesN (m+1)) (fun c:CondT=>1+sizeK 40 n (d+1) c.conds) 21 l (fun c hc=>?_)
   obtain ⟨k1,k2⟩:=heavy_in h2 hc
   obtain ⟨-,s1,s2,-⟩:=heavyO_sm k1
   have h5:=names_len40 n (d+1) m c.conds (g2 c hc) k2
   have k1:=varsT_len c.attr
   have k2:=varsT_len c.value
   have k3:=oneN_len c.id
   rw [namesN,List.length_append,List.length_append,List.length_append]
   omega
theorem varsA_len (a:ActT):(varsA a).length≤5:=by
 have h1:=oneN_len a.id
 have h2:=oneN_len a.attr.var
 have h3:=oneN_len a.value.a.var
 have h4:=oneN_len a.value.b.var
 have h5:=oneN_len a.other.var
 simp only [varsA,fives,List.flatMap_cons,List.flatMap_nil,List.length_append,List.length_nil]
 omega
theorem varsAs_len : ∀l:List ActT,(l.flatMap varsA).length≤5*l.length
 | []=>by simp
 | a :: l=>by have h1:=varsA_len a;have h2:=varsAs_len l;rw [List.flatMap_cons,List.length_append,List.length_cons];omega
theorem heavyP_no {n:Nat} {p:ProdT} (h:heavyP n p=false):sizeK 40 n 0 p.conds≤40∧p.acts.length≤40∧p.name.size≤100∧heavyC n p.conds=false:=by
 unfold heavyP at h
 simp only [Bool.or_eq_false_iff,decide_eq_false_iff_not] at h
 obtain ⟨h1,h2,h3,h4⟩:=h
 exact ⟨by omega,by omega,by omega,h4⟩
theorem vars_len40 {n:Nat} {p:ProdT} (h:heavyP n p=false) (m:Nat):(varsP m p).length≤1100:=by
 obtain ⟨h1,h2,_,h4⟩:=heavyP_no h
 have g1:=names_len40 n 0 m p.conds h1 h4
 have g2:=varsAs_len p.acts
 unfold varsP
 rw [List.length_append]
 omega
theorem fit_of {n:Nat} {p:ProdT} (h:heavyP n p=false) {D:Nat→Prop} {w:World} {A:Option Addr} {c:Nat} (hr:RowR (repCondT n) D w A c p.conds):RowR (repCondT 20) D w A c p.conds∧Fit 20 p:=by
 obtain ⟨h1,h2,_,h4⟩:=heavyP_no h
 have hr20:=(heavyP_light h).1 hr
 exact ⟨hr20,⟨by have:=sizeK_len n 0 p.conds h1;omega,by omega,smc_of40 n 0 20 p.conds h1 h4,by have:=vars_len40 h 20;omega,by have:=(heavyP_light h).2.1 20 0;omega,by omega,row_dp 20 hr20⟩⟩
end Go.Proofs.Ytffemfglngikbaa
namespace Go.Proofs.Ytffemfglngikbaa
open Go.RowKit Go.Shelf
def valB (b:ByteArray):Nat:=b.data.toList.foldl (fun a c=>a*10+(c.toNat - 48)) 0
theorem valB_dec (n:Nat):valB (decB n)=n:=by
 induction n using Nat.strongRecOn with
 | _ n ih=>
   by_cases h:n<10
   · rw [decB,if_pos h]
     show 0*10+((UInt8.ofNat (48+n)).toNat - 48)=n
     have:(UInt8.ofNat (48+n)).toNat=48+n:=by simp;omega
     omega
   · rw [decB,if_neg h]
     have h1:=ih (n / 10) (by omega)
     unfold valB at h1 ⊢
     have e:(decB (n / 10)++byte1 (n % 10)).data.toList=(decB (n / 10)).data.toList ++ [UInt8.ofNat (48+n % 10)]:=by simp [ByteArray.data_append,byte1]
     rw [e,List.foldl_append,h1]
     show n / 10*10+((UInt8.ofNat (48+n % 10)).toNat - 48)=n
     have:(UInt8.ofNat (48+n % 10)).toNat=48+n % 10:=by simp;omega
     omega
theorem nameW_data (k:Nat):(nameW k).data.toList=118 :: (decB k).data.toList:=by simp [nameW,ByteArray.data_append]
theorem nameW_inj {a b:Nat} (h:nameW a=nameW b):a=b:=by
 have h1:=nameW_data a
 rw [h,nameW_data] at h1
 have h2:(decB a).data.toList=(decB b).data.toList:=(List.cons.inj h1).2.symm
 rw [← valB_dec a,← valB_dec b]
 unfold valB
 rw [h2]
theorem nameW_no (k:Nat) : ¬(nameW k).toList = []:=by
 intro h
 rw [ByteArray.toList_eq,nameW_data] at h
 cases h
theorem uqStep_mem {u:List ByteArray} {v x:ByteArray}:x∈uqStep u v↔x∈u∨x=v:=by
 unfold uqStep
 by_cases h:v∈u
 · rw [if_pos h]
   exact ⟨.inl,fun g=>g.elim id (fun e=>e ▸ h)⟩
 · rw [if_neg h];simp
theorem uqf_mem {x:ByteArray} : ∀(q u:List ByteArray),x∈q.foldl uqStep u↔x∈u∨x∈q
 | [],u=>by simp
 | v :: q,u=>by rw [List.foldl_cons,uqf_mem q,uqStep_mem,List.mem_cons,or_assoc]
theorem uq_mem {x:ByteArray} {q:List ByteArray}:x∈uq q↔x∈q:=by unfold uq;rw [uqf_mem];simp
theorem numT_inj {us:List ByteArray} {a b:ByteArray} (ha:a∈us) (hb:b∈us) (h:numT us a=numT us b):a=b:=by
 rw [numT,if_pos ha,numT,if_pos hb] at h
 have h1:=nameW_inj h
 have h2:=(ixOf_lt ha).2
 rw [show ixOf a us=ixOf b us by omega,(ixOf_lt hb).2] at h2
 exact (Option.some.inj h2).symm
theorem numT_no {us:List ByteArray} {a:ByteArray} (ha:a∈us) : ¬(numT us a).toList = []:=by
 rw [numT,if_pos ha];exact nameW_no _
theorem e0L:(⟨#[]⟩:ByteArray).toList = []:=by kernel_rfl
section
variable {t t':ByteArray→ByteArray}
theorem one_names {v:ByteArray} (h : ∀x∈oneN v,¬(t x).toList = []):oneN (oneR t v)=(oneN v).map t:=by
 by_cases hv:v.toList = []
 · rw [oneR,if_pos hv,oneN_no hv,oneN_no e0L];rfl
 · rw [oneN_yes hv] at h
   rw [oneR,if_neg hv,oneN_yes hv,oneN_yes (h v (by simp))];rfl
theorem tests_names {l:List TestT} (h : ∀x∈varsT l,¬(t x).toList = []):varsT (l.map (testR t))=(varsT l).map t:=by
 unfold varsT at *
 rw [List.flatMap_map,List.map_flatMap]
 exact fm_congr fun x hx=>one_names (fun y hy=>h y (List.mem_flatMap.2 ⟨x,hx,hy⟩))
theorem cond_names : ∀(n:Nat) (c:CondT),(∀x∈namesN n c,¬(t x).toList = [])→namesN n (condR t n c)=(namesN n c).map t
 | 0,_,_=>rfl
 | n+1,c,h=>by
   have e:namesN (n+1) c=oneN c.id++(varsT c.attr++(varsT c.value++c.conds.flatMap (namesN n))):=rfl
   rw [e] at h
   have h3:(c.conds.map (condR t n)).flatMap (namesN n)=(c.conds.flatMap (namesN n)).map t:=by
    rw [List.flatMap_map,List.map_flatMap]
    exact fm_congr fun x hx=>cond_names n x (fun y hy=>h y (by simp only [List.mem_append,List.mem_flatMap];exact .inr (.inr (.inr ⟨x,hx,hy⟩))))
   show oneN (oneR t c.id)++(varsT (c.attr.map (testR t))++(varsT (c.value.map (testR t))++(c.conds.map (condR t n)).flatMap (namesN n)))=_
   rw [one_names (fun y hy=>h y (by simp [hy])),tests_names (fun y hy=>h y (by simp [hy])),tests_names (fun y hy=>h y (by simp [hy])),h3,e,List.map_append,List.map_append,List.map_append]
theorem vars5 (a:ActT):varsA a=oneN a.id++(oneN a.attr.var++(oneN a.value.a.var++(oneN a.value.b.var++oneN a.other.var))):=by
 simp [varsA,fives]
theorem act_names (a:ActT) (h : ∀x∈varsA a,¬(t x).toList = []):varsA (actR t a)=(varsA a).map t:=by
 rw [vars5] at h
 rw [vars5,vars5]
 show oneN (oneR t a.id)++(oneN (oneR t a.attr.var)++(oneN (oneR t a.value.a.var)++(oneN (oneR t a.value.b.var)++oneN (oneR t a.other.var))))=_
 rw [one_names (fun y hy=>h y (by simp [hy])),one_names (fun y hy=>h y (by simp [hy])),one_names (fun y hy=>h y (by simp [hy])),one_names (fun y hy=>h y (by simp [hy])),one_names (fun y hy=>h y (by simp [hy]))]
 simp only [List.map_append]
end
theorem mem_varsC {n:Nat} {p:ProdT} {c:CondT} (hc:c∈p.conds) {x:ByteArray} (hx:x∈namesN n c):x∈varsP n p:=List.mem_append.2 (.inl (List.mem_flatMap.2 ⟨c,hc,hx⟩))
theorem mem_varsA {n:Nat} {p:ProdT} {a:ActT} (ha:a∈p.acts) {x:ByteArray} (hx:x∈varsA a):x∈varsP n p:=List.mem_append.2 (.inr (List.mem_flatMap.2 ⟨a,ha,hx⟩))
theorem smt_R (t:ByteArray→ByteArray) {l:List TestT} (h:SmT l):SmT (l.map (testR t)):=by
 refine ⟨by rw [List.length_map];exact h.1,fun x hx=>?_⟩
 obtain ⟨y,hy,rfl⟩:=List.mem_map.1 hx
 exact h.2 y hy
theorem smc_R (t:ByteArray→ByteArray) : ∀(n:Nat) (c:CondT),SmC n c→SmC n (condR t n c)
 | 0,_,_=>trivial
 | n+1,c,⟨h1,h2,h3,h4⟩=>⟨smt_R t h1,smt_R t h2,by show (c.conds.map (condR t n)).length≤1000;rw [List.length_map];exact h3,fun x hx=>by
    obtain ⟨y,hy,rfl⟩:=List.mem_map.1 (show x∈c.conds.map (condR t n) from hx)
    exact smc_R t n y (h4 y hy)⟩
end Go.Proofs.Ytffemfglngikbaa
namespace Go.Proofs.Ytffemfglngikbaa
open Go.RowKit Go.Shelf
abbrev Pt:=ByteArray ⊕ ByteArray
def flat (t:ByteArray→ByteArray):List Pt→List UInt8
 | []=>[]
 | .inl b :: l=>b.data.toList++flat t l
 | .inr v :: l=>(t v).data.toList++flat t l
theorem flat_append (t:ByteArray→ByteArray) : ∀l m,flat t (l++m)=flat t l++flat t m
 | [],_=>rfl
 | .inl b :: l,m=>by rw [List.cons_append,flat,flat,flat_append t l m,List.append_assoc]
 | .inr v :: l,m=>by rw [List.cons_append,flat,flat,flat_append t l m,List.append_assoc]
section
variable {t1 t2:ByteArray→ByteArray}
theorem flat_len : ∀ps:List Pt,(∀v,Sum.inr v∈ps→(t1 v).data.toList.length≤(t2 v).data.toList.length)→(flat t1 ps).length≤(flat t2 ps).length
 | [],_=>Nat.le_refl _
 | .inl b :: l,h=>by
   have:=flat_len l (fun v hv=>h v (List.mem_cons_of_mem _ hv))
   rw [flat,flat,List.length_append,List.length_append];omega
 | .inr v :: l,h=>by
   have h1:=flat_len l (fun v hv=>h v (List.mem_cons_of_mem _ hv))
   have h2:=h v (List.mem_cons_self ..)
   rw [flat,flat,List.length_append,List.length_append];omega
theorem flat_same : ∀ps:List Pt,(∀v,Sum.inr v∈ps→(t1 v).data.toList.length≤(t2 v).data.toList.length)→flat t1 ps=flat t2 ps→∀v,Sum.inr v∈ps→t1 v=t2 v
 | [],_,_,v,hv=>by cases hv
 | .inl b :: l,h,e,v,hv=>by
   rw [flat,flat] at e
   rcases List.mem_cons.1 hv with hv | hv
   · cases hv
   · exact flat_same l (fun v hv=>h v (List.mem_cons_of_mem _ hv)) (List.append_cancel_left e) v hv
 | .inr u :: l,h,e,v,hv=>by
   rw [flat,flat] at e
   have hl:=flat_len l (fun v hv=>h v (List.mem_cons_of_mem _ hv))
   have hu:=h u (List.mem_cons_self ..)
   have he:=congrArg List.length e
   rw [List.length_append,List.length_append] at he
   obtain ⟨e1,e2⟩:=List.append_inj e (by omega)
   rcases List.mem_cons.1 hv with hv | hv
   · injection hv with hv
     subst hv
     exact Go.WideShapes.bytes_inj e1
   · exact flat_same l (fun v hv=>h v (List.mem_cons_of_mem _ hv)) e2 v hv
end
theorem dat_app (a b:ByteArray):(a++b).data.toList=a.data.toList++b.data.toList:=by rw [ByteArray.data_append,Array.toList_append]
def atomPt (v:ByteArray) (s:Sym):List Pt:=if v.toList = [] then [.inl (textB s)] else [.inl ⟨#[60]⟩,.inr v,.inl ⟨#[62]⟩]
section
variable {t:ByteArray→ByteArray}
theorem atomPt_is (v:ByteArray) (s:Sym) (h : ∀x∈oneN v,¬(t x).toList = []):(atomX (oneR t v) s).data.toList=flat t (atomPt v s):=by
 by_cases hv:v.toList = []
 · rw [oneR,if_pos hv,atomX,if_pos e0L,atomPt,if_pos hv]
   simp [flat]
 · rw [oneN_yes hv] at h
   rw [oneR,if_neg hv,atomX,if_neg (h v (by simp)),atomPt,if_neg hv,dat_app,dat_app]
   simp [flat]
def testPt (x:TestT):List Pt:=
 if x.rel=8 then [.inl (x.list.foldl listX (⟨#[60,60]⟩:ByteArray)++(⟨#[32,62,62]⟩:ByteArray))]
 else if (relX x.rel).toList = [] then atomPt x.var x.sym else .inl (relX x.rel++(⟨#[32]⟩:ByteArray)) :: atomPt x.var x.sym
theorem testPt_is (x:TestT) (h : ∀v∈oneN x.var,¬(t v).toList = []):(testX (testR t x)).data.toList=flat t (testPt x):=by
 unfold testX testPt testR
 by_cases h8:x.rel=8
 · rw [if_pos h8,if_pos h8];simp [flat]
 · rw [if_neg h8,if_neg h8]
   by_cases hr:(relX x.rel).toList = []
   · rw [if_pos hr,if_pos hr];exact atomPt_is _ _ h
   · rw [if_neg hr,if_neg hr,dat_app,atomPt_is _ _ h];rfl
theorem foldF_is {f:ByteArray→TestT→ByteArray} (hf : ∀s x,(f s x).data.toList=s.data.toList++(⟨#[32]⟩:ByteArray).data.toList++(testX x).data.toList) : ∀(l:List TestT) (s:ByteArray),(∀v∈varsT l,¬(t v).toList = [])→((l.map (testR t)).foldl f s).data.toList=s.data.toList++flat t (l.flatMap fun x=>.inl ⟨#[32]⟩ :: testPt x)
 | [],s,_=>by simp [flat]
 | x :: l,s,h=>by
   have h1 : ∀v∈oneN x.var,¬(t v).toList = []:=fun v hv=>h v (List.mem_flatMap.2 ⟨x,by simp,hv⟩)
   have h2 : ∀v∈varsT l,¬(t v).toList = []:=fun v hv=>by
    obtain ⟨y,hy,hz⟩:=List.mem_flatMap.1 hv
    exact h v (List.mem_flatMap.2 ⟨y,by simp [hy],hz⟩)
   rw [List.map_cons,List.foldl_cons,foldF_is hf l _ h2,hf,testPt_is x h1,List.flatMap_cons,flat_append]
   simp [flat]
def fieldPt (l:List TestT):List Pt:=if l.length=0 then [] else if h:l.length=1 then testPt l[0] else .inl ⟨#[123]⟩ :: (l.flatMap fun x=>.inl ⟨#[32]⟩ :: testPt x) ++ [.inl ⟨#[32,125]⟩]
theorem fieldPt_is (l:List TestT) (h : ∀v∈varsT l,¬(t v).toList = []):(fieldX (l.map (testR t))).data.toList=flat t (fieldPt l):=by
 unfold fieldX fieldPt
 by_cases h0:l.length=0
 · rw [if_pos (by rw [List.length_map];exact h0),if_pos h0];rfl
 · rw [if_neg (by rw [List.length_map];exact h0),if_neg h0]
   by_cases h1:l.length=1
   · rw [dif_pos (by rw [List.length_map];exact h1),dif_pos h1,List.getElem_map]
     exact testPt_is _ (fun v hv=>h v (List.mem_flatMap.2 ⟨l[0],List.getElem_mem _,hv⟩))
   · rw [dif_neg (by rw [List.length_map];exact h1),dif_neg h1,dat_app,foldF_is (fun s x=>by unfold fieldF;rw [dat_app,dat_app]) l _ h]
     simp [flat,flat_append]
end
end Go.Proofs.Ytffemfglngikbaa
namespace Go.Proofs.Ytffemfglngikbaa
open Go.RowKit Go.Shelf
section
variable {t:ByteArray→ByteArray}
def idPt (v:ByteArray):List Pt:=if v.toList = [] then [] else [.inr v]
theorem idPt_is (v:ByteArray):(oneR t v).data.toList=flat t (idPt v):=by
 by_cases hv:v.toList = []
 · rw [oneR,if_pos hv,idPt,if_pos hv];rfl
 · rw [oneR,if_neg hv,idPt,if_neg hv];simp [flat]
def leafPt (c:CondT):List Pt:=
 .inl (leaf2 c++(⟨#[60]⟩:ByteArray)) :: (idPt c.id++(.inl ⟨#[62,32,94]⟩ :: (fieldPt c.attr++((if 0<c.value.length then .inl ⟨#[32]⟩ :: fieldPt c.value else [])++((if c.acc=true then [.inl ⟨#[32,43]⟩] else []) ++ [.inl ⟨#[41]⟩])))))
theorem leafPt_is (n:Nat) (c:CondT) (h1 : ∀v∈varsT c.attr,¬(t v).toList = []) (h2 : ∀v∈varsT c.value,¬(t v).toList = []):(leafX (condR t (n+1) c)).data.toList=flat t (leafPt c):=by
 have e3:(leaf3 (condR t (n+1) c)).data.toList=(leaf2 c).data.toList++(⟨#[60]⟩:ByteArray).data.toList++flat t (idPt c.id)++(⟨#[62,32,94]⟩:ByteArray).data.toList++flat t (fieldPt c.attr):=by
  rw [leaf3,dat_app,dat_app,dat_app,dat_app]
  show (leaf2 c).data.toList++_++(oneR t c.id).data.toList++_++(fieldX (c.attr.map (testR t))).data.toList=_
  rw [idPt_is,fieldPt_is _ h1]
 have e4:(leaf4 (condR t (n+1) c)).data.toList=(leaf3 (condR t (n+1) c)).data.toList++flat t (if 0<c.value.length then .inl ⟨#[32]⟩ :: fieldPt c.value else []):=by
  unfold leaf4
  show (if 0<(c.value.map (testR t)).length then leaf3 (condR t (n+1) c)++(⟨#[32]⟩:ByteArray)++fieldX (c.value.map (testR t)) else leaf3 (condR t (n+1) c)).data.toList=_
  by_cases hv:0<c.value.length
  · rw [if_pos (by rw [List.length_map];exact hv),if_pos hv,dat_app,dat_app,fieldPt_is _ h2];simp [flat]
  · rw [if_neg (by rw [List.length_map];exact hv),if_neg hv];simp [flat]
 have e5:(leaf5 (condR t (n+1) c)).data.toList=(leaf4 (condR t (n+1) c)).data.toList++flat t (if c.acc=true then [.inl ⟨#[32,43]⟩] else []):=by
  unfold leaf5
  show (if c.acc=true then leaf4 (condR t (n+1) c)++(⟨#[32,43]⟩:ByteArray) else leaf4 (condR t (n+1) c)).data.toList=_
  by_cases ha:c.acc=true
  · rw [if_pos ha,if_pos ha,dat_app];simp [flat]
  · rw [if_neg ha,if_neg ha];simp [flat]
 rw [leafX,dat_app,e5,e4,e3,leafPt]
 simp [flat,flat_append,dat_app]
def allPt (f:CondT→List Pt):Bool→List CondT→List Pt
 | _,[]=>[]
 | b,x :: l=>(if b=true then [.inl ⟨#[32]⟩] else [])++(f x++allPt f true l)
theorem allPt_is {g:CondT→ByteArray} {r:CondT→CondT} {f:CondT→List Pt} : ∀(l:List CondT) (k:Nat) (s:ByteArray),(∀x∈l,(g (r x)).data.toList=flat t (f x))→((l.map r).foldl (allF g) (k,s)).2.data.toList=s.data.toList++flat t (allPt f (decide (0<k)) l)
 | [],_,s,_=>by simp [allPt,flat]
 | x :: l,k,s,h=>by
   rw [List.map_cons,List.foldl_cons,allF,allPt_is l (k+1) _ (fun y hy=>h y (by simp [hy])),allPt,dat_app,h x (by simp)]
   by_cases hk:0<k
   · simp [hk,flat,flat_append]
   · simp [hk,flat_append]
def condPt:Nat→CondT→List Pt
 | 0,_=>[]
 | n+1,c=>if c.kind=3 then .inl ⟨#[45,123]⟩ :: (allPt (condPt n) false c.conds ++ [.inl ⟨#[125]⟩]) else leafPt c
theorem condPt_is : ∀(n:Nat) (c:CondT),(∀v∈namesN n c,¬(t v).toList = [])→(condX n (condR t n c)).data.toList=flat t (condPt n c)
 | 0,_,_=>rfl
 | n+1,c,h=>by
   have e:namesN (n+1) c=oneN c.id++(varsT c.attr++(varsT c.value++c.conds.flatMap (namesN n))):=rfl
   rw [e] at h
   unfold condX condPt
   by_cases hk:c.kind=3
   · rw [if_pos (show (condR t (n+1) c).kind=3 from hk),if_pos hk,dat_app]
     show ((c.conds.map (condR t n)).foldl (allF (condX n)) (0,_)).2.data.toList++_=_
     rw [allPt_is (f:=condPt n) c.conds 0 _ (fun x hx=>condPt_is n x (fun v hv=>h v (by simp only [List.mem_append,List.mem_flatMap];exact .inr (.inr (.inr ⟨x,hx,hv⟩)))))]
     simp [flat,flat_append]
   · rw [if_neg (show ¬(condR t (n+1) c).kind=3 from hk),if_neg hk]
     exact leafPt_is n c (fun v hv=>h v (by simp [hv])) (fun v hv=>h v (by simp [hv]))
def termPt (x:TermT):List Pt:=if x.op=1∨x.op=2∨x.op=3 then .inl ((⟨#[40]⟩:ByteArray)++opX x.op++(⟨#[32]⟩:ByteArray)) :: (atomPt x.a.var x.a.sym++(.inl ⟨#[32]⟩ :: (atomPt x.b.var x.b.sym ++ [.inl ⟨#[41]⟩]))) else atomPt x.a.var x.a.sym
theorem termPt_is (x:TermT) (h1 : ∀v∈oneN x.a.var,¬(t v).toList = []) (h2 : ∀v∈oneN x.b.var,¬(t v).toList = []):(termX ⟨x.op,atomR t x.a,atomR t x.b⟩).data.toList=flat t (termPt x):=by
 unfold termX termPt
 by_cases ho:x.op=1∨x.op=2∨x.op=3
 · rw [if_pos ho,if_pos ho,dat_app,dat_app,dat_app,dat_app]
   show _++(atomX (oneR t x.a.var) x.a.sym).data.toList++_++(atomX (oneR t x.b.var) x.b.sym).data.toList++_=_
   rw [atomPt_is _ _ h1,atomPt_is _ _ h2]
   simp [flat,flat_append,dat_app]
 · rw [if_neg ho,if_neg ho];exact atomPt_is _ _ h1
def actPt (a:ActT):List Pt:=
 .inl ⟨#[40,60]⟩ :: (idPt a.id++(.inl ⟨#[62,32,94]⟩ :: (atomPt a.attr.var a.attr.sym++(.inl ⟨#[32]⟩ :: (termPt a.value++(.inl ((⟨#[32]⟩:ByteArray)++signX a.pref) :: ((if otherB a.pref=true then .inl ⟨#[32]⟩ :: atomPt a.other.var a.other.sym else []) ++ [.inl ⟨#[41]⟩])))))))
theorem actPt_is (a:ActT) (h : ∀v∈varsA a,¬(t v).toList = []):(actX (actR t a)).data.toList=flat t (actPt a):=by
 rw [vars5] at h
 have k1:=atomPt_is (t:=t) a.attr.var a.attr.sym (fun v hv=>h v (by simp [hv]))
 have k2:=termPt_is (t:=t) a.value (fun v hv=>h v (by simp [hv])) (fun v hv=>h v (by simp [hv]))
 have k3:=atomPt_is (t:=t) a.other.var a.other.sym (fun v hv=>h v (by simp [hv]))
 unfold actX actPt
 show ((if otherB a.pref=true then _++(⟨#[32]⟩:ByteArray)++atomX (oneR t a.other.var) a.other.sym else _)++(⟨#[41]⟩:ByteArray)).data.toList=_
 have k4:(((⟨#[40,60]⟩:ByteArray)++(actR t a).id++(⟨#[62,32,94]⟩:ByteArray)++atomX (actR t a).attr.var (actR t a).attr.sym++(⟨#[32]⟩:ByteArray)++termX (actR t a).value++(⟨#[32]⟩:ByteArray)++signX (actR t a).pref)).data.toList=(⟨#[40,60]⟩:ByteArray).data.toList++flat t (idPt a.id)++(⟨#[62,32,94]⟩:ByteArray).data.toList++flat t (atomPt a.attr.var a.attr.sym)++(⟨#[32]⟩:ByteArray).data.toList++flat t (termPt a.value)++(⟨#[32]⟩:ByteArray).data.toList++(signX a.pref).data.toList:=by
  rw [dat_app,dat_app,dat_app,dat_app,dat_app,dat_app,dat_app]
  show _++(oneR t a.id).data.toList++_++(atomX (oneR t a.attr.var) a.attr.sym).data.toList++_++(termX ⟨a.value.op,atomR t a.value.a,atomR t a.value.b⟩).data.toList++_++_=_
  rw [idPt_is,k1,k2]
  rfl
 by_cases ho:otherB a.pref=true
 · rw [if_pos ho,if_pos ho,dat_app,dat_app,dat_app,k4,k3];simp [flat,flat_append,dat_app]
 · rw [if_neg ho,if_neg ho,dat_app,k4];simp [flat,flat_append,dat_app]
def lineCPt (n:Nat) (c:CondT):List Pt:=.inl ⟨#[32,32]⟩ :: (condPt n c ++ [.inl ⟨#[10]⟩])
def lineAPt (a:ActT):List Pt:=.inl ⟨#[32,32]⟩ :: (actPt a ++ [.inl ⟨#[10]⟩])
def prodPt (n:Nat) (nm:ByteArray) (p:ProdT):List Pt:=.inl ((⟨#[115,112,32,123]⟩:ByteArray)++nm++(⟨#[10]⟩:ByteArray)) :: (p.conds.flatMap (lineCPt n)++(.inl ⟨#[45,45,62,10]⟩ :: (p.acts.flatMap lineAPt ++ [.inl ⟨#[125,10]⟩])))
theorem linesC_is (n:Nat) : ∀(l:List CondT) (s:ByteArray),(∀c∈l,∀v∈namesN n c,¬(t v).toList = [])→((l.map (condR t n)).foldl (lineC n) s).data.toList=s.data.toList++flat t (l.flatMap (lineCPt n))
 | [],s,_=>by simp [flat]
 | c :: l,s,h=>by
   rw [List.map_cons,List.foldl_cons,linesC_is n l _ (fun x hx=>h x (by simp [hx])),lineC,dat_app,dat_app,dat_app,condPt_is n c (h c (by simp)),List.flatMap_cons,flat_append,lineCPt]
   simp [flat,flat_append]
theorem linesA_is : ∀(l:List ActT) (s:ByteArray),(∀a∈l,∀v∈varsA a,¬(t v).toList = [])→((l.map (actR t)).foldl lineA s).data.toList=s.data.toList++flat t (l.flatMap lineAPt)
 | [],s,_=>by simp [flat]
 | a :: l,s,h=>by
   rw [List.map_cons,List.foldl_cons,linesA_is l _ (fun x hx=>h x (by simp [hx])),lineA,dat_app,dat_app,dat_app,actPt_is a (h a (by simp)),List.flatMap_cons,flat_append,lineAPt]
   simp [flat,flat_append]
theorem prodPt_is (n:Nat) (nm:ByteArray) (p:ProdT) (h : ∀v∈varsP n p,¬(t v).toList = []):(prodX n ⟨nm,p.conds.map (condR t n),p.acts.map (actR t)⟩).data.toList=flat t (prodPt n nm p):=by
 unfold prodX prodPt
 rw [dat_app,linesA_is _ _ (fun a ha v hv=>h v (mem_varsA ha hv)),dat_app,linesC_is _ _ _ (fun c hc v hv=>h v (mem_varsC hc hv))]
 simp [flat,flat_append]
end
end Go.Proofs.Ytffemfglngikbaa
namespace Go.Proofs.Ytffemfglngikbaa
open Go.RowKit Go.Shelf
theorem ixOf_app {v:ByteArray} : ∀{l:List ByteArray} (m:List ByteArray),v∈l→ixOf v (l++m)=ixOf v l
 | u :: l,m,h=>by
   rw [List.cons_append,ixOf,ixOf]
   by_cases e:u=v
   · rw [if_pos e,if_pos e]
   · rw [if_neg e,if_neg e,ixOf_app m (by rcases List.mem_cons.1 h with h | h;exact absurd h.symm e;exact h)]
theorem ixOf_new {v:ByteArray} : ∀{l:List ByteArray},¬v∈l→ixOf v (l ++ [v])=l.length
 | [],_=>by rw [List.nil_append,ixOf,if_pos rfl];rfl
 | u :: l,h=>by
   rw [List.cons_append,ixOf,if_neg (fun e=>h (by simp [e])),ixOf_new (fun hh=>h (by simp [hh]))];rfl
structure MgI (f:ByteArray→ByteArray) (u u':List ByteArray):Prop where
 len:u'.length≤u.length
 ix : ∀w∈u,f w∈u'∧ixOf (f w) u'≤ixOf w u
theorem MgI.step {f:ByteArray→ByteArray} {u u':List ByteArray} (h:MgI f u u') (v:ByteArray):MgI f (uqStep u v) (uqStep u' (f v)):=by
 unfold uqStep
 by_cases hv:v∈u
 · rw [if_pos hv,if_pos (h.ix v hv).1];exact h
 · rw [if_neg hv]
   by_cases hf:f v∈u'
   · rw [if_pos hf]
     refine ⟨by have:=h.len;simp;omega,fun w hw=>?_⟩
     rcases List.mem_append.1 hw with hw | hw
     · rw [ixOf_app _ hw];exact h.ix w hw
     · rw [List.mem_singleton] at hw
       subst hw
       rw [ixOf_new hv]
       exact ⟨hf,by have:=(ixOf_lt hf).1;have:=h.len;omega⟩
   · rw [if_neg hf]
     refine ⟨by have:=h.len;simp;omega,fun w hw=>?_⟩
     rcases List.mem_append.1 hw with hw | hw
     · obtain ⟨g1,g2⟩:=h.ix w hw
       rw [ixOf_app _ hw,ixOf_app _ g1];exact ⟨by simp [g1],g2⟩
     · rw [List.mem_singleton] at hw
       subst hw
       rw [ixOf_new hv,ixOf_new hf]
       exact ⟨by simp,h.len⟩
theorem mgI_fold (f:ByteArray→ByteArray) : ∀(q u u':List ByteArray),MgI f u u'→MgI f (q.foldl uqStep u) ((q.map f).foldl uqStep u')
 | [],_,_,h=>h
 | v :: q,u,u',h=>by rw [List.map_cons,List.foldl_cons,List.foldl_cons];exact mgI_fold f q _ _ (h.step v)
theorem mgI_uq (f:ByteArray→ByteArray) (q:List ByteArray):MgI f (uq q) (uq (q.map f)):=mgI_fold f q [] [] ⟨Nat.le_refl _,fun w hw=>by cases hw⟩
theorem decB_mono : ∀(b a:Nat),a≤b→(decB a).size≤(decB b).size:=by
 intro b
 induction b using Nat.strongRecOn with
 | _ b ih=>
   intro a h
   have D1 : ∀k,k<10→(decB k).size=1:=fun k h=>by rw [decB,if_pos h,byte1_size]
   have D2 : ∀k,¬k<10→(decB k).size=(decB (k / 10)).size+1:=fun k h=>by rw [decB,if_neg h,ByteArray.size_append,byte1_size]
   by_cases hb:b<10
   · rw [D1 a (by omega),D1 b hb];exact Nat.le_refl _
   · rw [D2 b hb]
     by_cases ha:a<10
     · rw [D1 a ha];omega
     · rw [D2 a ha]
       have:=ih (b / 10) (by omega) (a / 10) (Nat.div_le_div_right h)
       omega
theorem nameW_mono {a b:Nat} (h:a≤b):(nameW a).data.toList.length≤(nameW b).data.toList.length:=by
 rw [nameW_data,nameW_data,List.length_cons,List.length_cons]
 have h1:=decB_mono b a h
 have e : ∀k,(decB k).data.toList.length=(decB k).size:=fun k=>Array.length_toList
 rw [e,e];omega
theorem merge_ne (n:Nat) (p:ProdT) {f:ByteArray→ByteArray} {x y:ByteArray} (hx:x∈varsP n p) (hy:y∈varsP n p) (hxy : ¬x=y) (hf:f x=f y)
 (hin : ∀v∈varsP n p,Sum.inr v∈prodPt n ⟨#[120]⟩ p) (hsub : ∀v,Sum.inr v∈prodPt n ⟨#[120]⟩ p→v∈varsP n p) :
 ¬flat (fun v=>numT (uq ((varsP n p).map f)) (f v)) (prodPt n ⟨#[120]⟩ p)=flat (numT (uq (varsP n p))) (prodPt n ⟨#[120]⟩ p):=by
 intro e
 have hm:=mgI_uq f (varsP n p)
 have hs:=flat_same (prodPt n ⟨#[120]⟩ p) (fun v hv=>by
  have hv2:=uq_mem.2 (hsub v hv)
  obtain ⟨g1,g2⟩:=hm.ix v hv2
  rw [numT,if_pos g1,numT,if_pos hv2]
  exact nameW_mono (by omega)) e
 have h1:=hs x (hin x hx)
 have h2:=hs y (hin y hy)
 simp only [hf] at h1
 exact hxy (numT_inj (uq_mem.2 hx) (uq_mem.2 hy) (h1.symm.trans h2))
end Go.Proofs.Ytffemfglngikbaa
namespace Go.Proofs.Ytffemfglngikbaa
open Go.RowKit Go.Shelf
section
variable {t t' t2:ByteArray→ByteArray}
theorem one_comp {v:ByteArray} (h : ∀x∈oneN v,t' (t x)=t2 x∧¬(t x).toList = []):oneR t' (oneR t v)=oneR t2 v:=by
 by_cases hv:v.toList = []
 · rw [oneR,oneR,oneR,if_pos hv,if_pos e0L,if_pos hv]
 · rw [oneN_yes hv] at h
   obtain ⟨h1,h2⟩:=h v (by simp)
   rw [oneR,oneR,oneR,if_neg hv,if_neg h2,if_neg hv,h1]
theorem tests_comp {l:List TestT} (h : ∀x∈varsT l,t' (t x)=t2 x∧¬(t x).toList = []):(l.map (testR t)).map (testR t')=l.map (testR t2):=by
 rw [List.map_map]
 refine List.map_congr_left fun x hx=>?_
 show TestT.mk x.rel (oneR t' (oneR t x.var)) x.sym x.list=_
 rw [one_comp (fun y hy=>h y (List.mem_flatMap.2 ⟨x,hx,hy⟩))]
 rfl
theorem cond_comp : ∀(n:Nat) (c:CondT),(∀x∈namesN n c,t' (t x)=t2 x∧¬(t x).toList = [])→condR t' n (condR t n c)=condR t2 n c
 | 0,_,_=>rfl
 | n+1,c,h=>by
   have e:namesN (n+1) c=oneN c.id++(varsT c.attr++(varsT c.value++c.conds.flatMap (namesN n))):=rfl
   rw [e] at h
   have h3:(c.conds.map (condR t n)).map (condR t' n)=c.conds.map (condR t2 n):=by
    rw [List.map_map]
    exact List.map_congr_left fun x hx=>cond_comp n x (fun y hy=>h y (by simp only [List.mem_append,List.mem_flatMap];exact .inr (.inr (.inr ⟨x,hx,hy⟩))))
   show CondT.mk c.kind c.goal (oneR t' (oneR t c.id)) ((c.attr.map (testR t)).map (testR t')) ((c.value.map (testR t)).map (testR t')) c.acc ((c.conds.map (condR t n)).map (condR t' n))=_
   rw [one_comp (fun y hy=>h y (by simp [hy])),tests_comp (fun y hy=>h y (by simp [hy])),tests_comp (fun y hy=>h y (by simp [hy])),h3]
   rfl
theorem act_comp (a:ActT) (h : ∀x∈varsA a,t' (t x)=t2 x∧¬(t x).toList = []):actR t' (actR t a)=actR t2 a:=by
 rw [vars5] at h
 show ActT.mk (oneR t' (oneR t a.id)) ⟨oneR t' (oneR t a.attr.var),a.attr.sym⟩ ⟨a.value.op,⟨oneR t' (oneR t a.value.a.var),a.value.a.sym⟩,⟨oneR t' (oneR t a.value.b.var),a.value.b.sym⟩⟩ a.pref ⟨oneR t' (oneR t a.other.var),a.other.sym⟩=_
 rw [one_comp (fun y hy=>h y (by simp [hy])),one_comp (fun y hy=>h y (by simp [hy])),one_comp (fun y hy=>h y (by simp [hy])),one_comp (fun y hy=>h y (by simp [hy])),one_comp (fun y hy=>h y (by simp [hy]))]
 rfl
end
theorem ren_vars {t:ByteArray→ByteArray} (n:Nat) (p:ProdT) (nm:ByteArray) (h : ∀x∈varsP n p,¬(t x).toList = []):varsP n ⟨nm,(prodR t n p).conds,(prodR t n p).acts⟩=(varsP n p).map t:=by
 show ((p.conds.map (condR t n)).flatMap (namesN n))++((p.acts.map (actR t)).flatMap varsA)=((p.conds.flatMap (namesN n))++(p.acts.flatMap varsA)).map t
 rw [List.flatMap_map,List.flatMap_map,List.map_append,List.map_flatMap,List.map_flatMap]
 congr 1
 · exact fm_congr fun c hc=>cond_names n c (fun y hy=>h y (mem_varsC hc hy))
 · exact fm_congr fun a ha=>act_names a (fun y hy=>h y (mem_varsA ha hy))
theorem ones_no {v x:ByteArray} (h:x∈oneN v) : ¬x.toList = []:=by
 by_cases hv:v.toList = []
 · rw [oneN_no hv] at h;cases h
 · rw [oneN_yes hv,List.mem_singleton] at h;rw [h];exact hv
theorem varsT_no {l:List TestT} {x:ByteArray} (h:x∈varsT l) : ¬x.toList = []:=by
 obtain ⟨t,_,ht⟩:=List.mem_flatMap.1 h
 exact ones_no ht
theorem namesN_no : ∀(n:Nat) (c:CondT) (x:ByteArray),x∈namesN n c→¬x.toList = []
 | 0,_,x,h=>by cases h
 | n+1,c,x,h=>by
   have e:namesN (n+1) c=oneN c.id++(varsT c.attr++(varsT c.value++c.conds.flatMap (namesN n))):=rfl
   rw [e,List.mem_append,List.mem_append,List.mem_append] at h
   rcases h with h | h | h | h
   · exact ones_no h
   · exact varsT_no h
   · exact varsT_no h
   · obtain ⟨y,_,hy⟩:=List.mem_flatMap.1 h
     exact namesN_no n y x hy
theorem vars_no {n:Nat} {p:ProdT} {x:ByteArray} (h:x∈varsP n p) : ¬x.toList = []:=by
 rcases List.mem_append.1 h with h | h
 · obtain ⟨c,_,hc⟩:=List.mem_flatMap.1 h
   exact namesN_no n c x hc
 · obtain ⟨a,_,ha⟩:=List.mem_flatMap.1 h
   obtain ⟨v,_,hv⟩:=List.mem_flatMap.1 ha
   exact ones_no hv
end Go.Proofs.Ytffemfglngikbaa
