/-
  Texts put together: CanonOp, BkTests2, BkCopyK, CopyCondsC, ListStr, KeepTexts, RefNm.
-/
import Derived.Test.YtffemfglngikbaaOj
import Derived.Test.YtffemfglngikbaaOb
import Derived.Test.YtffemfglngikbaaOf
import Derived.Test.YtffemfglngikbaaOd
import Derived.Maps.RangeWalk
namespace Go.Proofs.Ytffemfglngikbaa
open Go.RowKit Go.Shelf
set_option linter.unusedSimpArgs false
theorem id_pt {v x:ByteArray} (h:x∈oneN v):Sum.inr x∈idPt v:=by
 by_cases hv:v.toList = []
 · rw [oneN_no hv] at h;cases h
 · rw [oneN_yes hv,List.mem_singleton] at h;subst h;rw [idPt,if_neg hv];simp
theorem id_sub {v x:ByteArray} (h:Sum.inr x∈idPt v):x∈oneN v:=by
 by_cases hv:v.toList = []
 · rw [idPt,if_pos hv] at h;cases h
 · rw [idPt,if_neg hv,List.mem_singleton] at h;injection h with h;rw [oneN_yes hv,h];simp
theorem atom_pt {v x:ByteArray} {s:Sym} (h:x∈oneN v):Sum.inr x∈atomPt v s:=by
 by_cases hv:v.toList = []
 · rw [oneN_no hv] at h;cases h
 · rw [oneN_yes hv,List.mem_singleton] at h;subst h;rw [atomPt,if_neg hv];simp
theorem atom_sub {v x:ByteArray} {s:Sym} (h:Sum.inr x∈atomPt v s):x∈oneN v:=by
 by_cases hv:v.toList = []
 · rw [atomPt,if_pos hv,List.mem_singleton] at h;cases h
 · rw [atomPt,if_neg hv] at h;simp at h;rw [oneN_yes hv,h];simp
theorem test_pt {t:TestT} (ht:testB t=true) {x:ByteArray} (h:x∈oneN t.var):Sum.inr x∈testPt t:=by
 unfold testPt
 by_cases h8:t.rel=8
 · have hv:t.var.toList = []:=by
    unfold testB at ht
    rw [if_pos h8] at ht
    simp only [Bool.and_eq_true,decide_eq_true_eq] at ht
    exact ht.1.1.1.1
   rw [oneN_no hv] at h;cases h
 · rw [if_neg h8]
   by_cases hr:(relX t.rel).toList = []
   · rw [if_pos hr];exact atom_pt h
   · rw [if_neg hr];exact List.mem_cons_of_mem _ (atom_pt h)
theorem test_sub {t:TestT} {x:ByteArray} (h:Sum.inr x∈testPt t):x∈oneN t.var:=by
 unfold testPt at h
 by_cases h8:t.rel=8
 · rw [if_pos h8,List.mem_singleton] at h;cases h
 · rw [if_neg h8] at h
   by_cases hr:(relX t.rel).toList = []
   · rw [if_pos hr] at h;exact atom_sub h
   · rw [if_neg hr] at h
     rcases List.mem_cons.1 h with h | h
     · cases h
     · exact atom_sub h
theorem field_pt {l:List TestT} (hl : ∀t∈l,testB t=true) {x:ByteArray} (h:x∈varsT l):Sum.inr x∈fieldPt l:=by
 obtain ⟨t,ht,hx⟩:=List.mem_flatMap.1 h
 have h1:=test_pt (hl t ht) hx
 unfold fieldPt
 have h0 : ¬l.length=0:=fun e=>by rw [List.length_eq_zero_iff.1 e] at ht;cases ht
 rw [if_neg h0]
 by_cases h2:l.length=1
 · rw [dif_pos h2]
   obtain ⟨k,hk,e⟩:=List.getElem_of_mem ht
   obtain rfl:k=0:=by omega
   rw [e];exact h1
 · rw [dif_neg h2]
   refine List.mem_append.2 (.inl (List.mem_cons_of_mem _ (List.mem_flatMap.2 ⟨t,ht,List.mem_cons_of_mem _ h1⟩)))
theorem field_sub {l:List TestT} {x:ByteArray} (h:Sum.inr x∈fieldPt l):x∈varsT l:=by
 unfold fieldPt at h
 by_cases h0:l.length=0
 · rw [if_pos h0] at h;cases h
 rw [if_neg h0] at h
 by_cases h2:l.length=1
 · rw [dif_pos h2] at h
   exact List.mem_flatMap.2 ⟨l[0],List.getElem_mem _,test_sub h⟩
 · rw [dif_neg h2] at h
   rcases List.mem_append.1 h with h | h
   · rcases List.mem_cons.1 h with h | h
     · cases h
     · obtain ⟨t,ht,h⟩:=List.mem_flatMap.1 h
       rcases List.mem_cons.1 h with h | h
       · cases h
       · exact List.mem_flatMap.2 ⟨t,ht,test_sub h⟩
   · rw [List.mem_singleton] at h;cases h
theorem all_pt {f:CondT→List Pt} {x:ByteArray} : ∀{l:List CondT} {b:Bool} {y:CondT},y∈l→Sum.inr x∈f y→Sum.inr x∈allPt f b l
 | z :: l,b,y,hy,h=>by
   rw [allPt]
   refine List.mem_append.2 (.inr (List.mem_append.2 ?_))
   rcases List.mem_cons.1 hy with e | hy
   · subst e;exact .inl h
   · exact .inr (all_pt hy h)
theorem all_sub {f:CondT→List Pt} {x:ByteArray} : ∀{l:List CondT} {b:Bool},Sum.inr x∈allPt f b l→∃y∈l,Sum.inr x∈f y
 | z :: l,b,h=>by
   rw [allPt] at h
   rcases List.mem_append.1 h with h | h
   · cases b
     · cases h
     · simp at h
   · rcases List.mem_append.1 h with h | h
     · exact ⟨z,by simp,h⟩
     · obtain ⟨y,hy,h⟩:=all_sub h
       exact ⟨y,by simp [hy],h⟩
theorem leaf_pt {c:CondT} (h1 : ∀t∈c.attr,testB t=true) (h2 : ∀t∈c.value,testB t=true) {x:ByteArray} (h:x∈oneN c.id∨x∈varsT c.attr∨x∈varsT c.value):Sum.inr x∈leafPt c:=by
 unfold leafPt
 refine List.mem_cons_of_mem _ (List.mem_append.2 ?_)
 rcases h with h | h | h
 · exact .inl (id_pt h)
 · exact .inr (List.mem_cons_of_mem _ (List.mem_append.2 (.inl (field_pt h1 h))))
 · refine .inr (List.mem_cons_of_mem _ (List.mem_append.2 (.inr (List.mem_append.2 (.inl ?_)))))
   have h0:0<c.value.length:=by
    obtain ⟨t,ht,_⟩:=List.mem_flatMap.1 h
    exact List.length_pos_of_mem ht
   rw [if_pos h0]
   exact List.mem_cons_of_mem _ (field_pt h2 h)
theorem leaf_sub {c:CondT} {x:ByteArray} (h:Sum.inr x∈leafPt c):x∈oneN c.id∨x∈varsT c.attr∨x∈varsT c.value:=by
 unfold leafPt at h
 rcases List.mem_cons.1 h with h | h
 · cases h
 rcases List.mem_append.1 h with h | h
 · exact .inl (id_sub h)
 rcases List.mem_cons.1 h with h | h
 · cases h
 rcases List.mem_append.1 h with h | h
 · exact .inr (.inl (field_sub h))
 rcases List.mem_append.1 h with h | h
 · split at h
   · rcases List.mem_cons.1 h with h | h
     · cases h
     · exact .inr (.inr (field_sub h))
   · cases h
 rcases List.mem_append.1 h with h | h
 · split at h<;>simp at h
 · simp at h
theorem condE_all {c:CondT} {d:Nat} (h:condE c d=0) (hk:c.kind=3):c.goal=false∧c.id.toList = []∧c.attr = []∧c.value = []∧c.acc=false:=by
 unfold condE at h
 rw [if_pos hk] at h
 split at h
 · exact absurd h (by decide)
 · rename_i hh
   simp only [not_or,Decidable.not_not,Nat.not_lt,Bool.not_eq_true] at hh
   exact ⟨hh.1,hh.2.1,List.length_eq_zero_iff.1 (by omega),List.length_eq_zero_iff.1 (by omega),hh.2.2.2.2.1⟩
theorem cond_pt : ∀(n d:Nat) (c:CondT),condE c d=0→(∀x∈flatC n (d+1) c.conds,condE x.2 x.1=0)→∀x∈namesN (n+1) c,Sum.inr x∈condPt (n+1) c
 | n,d,c,h1,h2,x,hx=>by
   have e:namesN (n+1) c=oneN c.id++(varsT c.attr++(varsT c.value++c.conds.flatMap (namesN n))):=rfl
   rw [e,List.mem_append,List.mem_append,List.mem_append] at hx
   unfold condPt
   by_cases hk:c.kind=3
   · obtain ⟨_,i1,i2,i3,_⟩:=condE_all h1 hk
     rw [oneN_no i1,i2,i3] at hx
     rw [if_pos hk]
     rcases hx with hx | hx | hx | hx
     · cases hx
     · cases hx
     · cases hx
     · obtain ⟨c2,hc2,hy2⟩:=List.mem_flatMap.1 hx
       refine List.mem_cons_of_mem _ (List.mem_append.2 (.inl (all_pt hc2 ?_)))
       cases n with
       | zero=>cases hy2
       | succ n=>
         obtain ⟨g1,g2⟩:=flatC_in (n:=n) (d:=d+1) hc2
         exact cond_pt n (d+1) c2 (h2 _ g1) (fun z hz=>h2 _ (g2 z hz)) x hy2
   · obtain ⟨_,i2,i3,_,_,_,i4,_⟩:=condE_leaf h1 hk
     rw [if_neg hk]
     rw [List.length_eq_zero_iff.1 i4] at hx
     refine leaf_pt i2 i3 ?_
     rcases hx with hx | hx | hx | hx
     · exact .inl hx
     · exact .inr (.inl hx)
     · exact .inr (.inr hx)
     · cases hx
theorem cond_sub : ∀(n:Nat) (c:CondT) (x:ByteArray),Sum.inr x∈condPt n c→x∈namesN n c
 | 0,_,_,h=>by cases h
 | n+1,c,x,h=>by
   have e:namesN (n+1) c=oneN c.id++(varsT c.attr++(varsT c.value++c.conds.flatMap (namesN n))):=rfl
   rw [e,List.mem_append,List.mem_append,List.mem_append]
   unfold condPt at h
   by_cases hk:c.kind=3
   · rw [if_pos hk] at h
     rcases List.mem_cons.1 h with h | h
     · cases h
     rcases List.mem_append.1 h with h | h
     · obtain ⟨y,hy,h⟩:=all_sub h
       exact .inr (.inr (.inr (List.mem_flatMap.2 ⟨y,hy,cond_sub n y x h⟩)))
     · simp at h
   · rw [if_neg hk] at h
     rcases leaf_sub h with h | h | h
     · exact .inl h
     · exact .inr (.inl h)
     · exact .inr (.inr (.inl h))
theorem actB_parts {a:ActT} (h:actB a=true):termB a.value=true∧1≤a.pref∧a.pref≤10∧(otherB a.pref=false→emptyB a.other=true):=by
 unfold actB at h
 split at h
 · cases h
 · rename_i hh
   simp only [not_or] at hh
   refine ⟨by simpa using hh.2.2.1,by omega,by omega,fun ho=>?_⟩
   rw [ho] at h
   simpa using h
theorem termB_parts {t:TermT} (h:termB t=true):0≤t.op∧t.op≤3∧(t.op=0→emptyB t.b=true):=by
 unfold termB at h
 split at h
 · cases h
 · rename_i hh
   simp only [not_or] at hh
   refine ⟨by omega,by omega,fun ho=>?_⟩
   rw [if_pos ho] at h
   exact h
theorem emptyB_var {a:AtomT} (h:emptyB a=true):a.var.toList = []:=by
 unfold emptyB at h
 simp only [Bool.and_eq_true,decide_eq_true_eq] at h
 exact h.1
theorem act_pt {a:ActT} (h:actB a=true) : ∀x∈varsA a,Sum.inr x∈actPt a:=by
 intro x hx
 obtain ⟨h1,_,_,h4⟩:=actB_parts h
 obtain ⟨g1,g2,g3⟩:=termB_parts h1
 rw [vars5,List.mem_append,List.mem_append,List.mem_append,List.mem_append] at hx
 unfold actPt
 refine List.mem_cons_of_mem _ (List.mem_append.2 ?_)
 rcases hx with hx | hx
 · exact .inl (id_pt hx)
 refine .inr (List.mem_cons_of_mem _ (List.mem_append.2 ?_))
 rcases hx with hx | hx
 · exact .inl (atom_pt hx)
 refine .inr (List.mem_cons_of_mem _ (List.mem_append.2 ?_))
 by_cases ho:a.value.op=0
 · rcases hx with hx | hx | hx
   · refine .inl ?_
     unfold termPt
     rw [if_neg (by omega)]
     exact atom_pt hx
   · rw [oneN_no (emptyB_var (g3 ho))] at hx;cases hx
   · refine .inr (List.mem_cons_of_mem _ (List.mem_append.2 (.inl ?_)))
     by_cases hp:otherB a.pref=true
     · rw [if_pos hp];exact List.mem_cons_of_mem _ (atom_pt hx)
     · rw [oneN_no (emptyB_var (h4 (by simpa using hp)))] at hx;cases hx
 · have ho3:a.value.op=1∨a.value.op=2∨a.value.op=3:=by omega
   rcases hx with hx | hx | hx
   · refine .inl ?_
     unfold termPt
     rw [if_pos ho3]
     exact List.mem_cons_of_mem _ (List.mem_append.2 (.inl (atom_pt hx)))
   · refine .inl ?_
     unfold termPt
     rw [if_pos ho3]
     exact List.mem_cons_of_mem _ (List.mem_append.2 (.inr (List.mem_cons_of_mem _ (List.mem_append.2 (.inl (atom_pt hx))))))
   · refine .inr (List.mem_cons_of_mem _ (List.mem_append.2 (.inl ?_)))
     by_cases hp:otherB a.pref=true
     · rw [if_pos hp];exact List.mem_cons_of_mem _ (atom_pt hx)
     · rw [oneN_no (emptyB_var (h4 (by simpa using hp)))] at hx;cases hx
theorem act_sub {a:ActT} {x:ByteArray} (h:Sum.inr x∈actPt a):x∈varsA a:=by
 rw [vars5,List.mem_append,List.mem_append,List.mem_append,List.mem_append]
 unfold actPt at h
 rcases List.mem_cons.1 h with h | h
 · cases h
 rcases List.mem_append.1 h with h | h
 · exact .inl (id_sub h)
 rcases List.mem_cons.1 h with h | h
 · cases h
 rcases List.mem_append.1 h with h | h
 · exact .inr (.inl (atom_sub h))
 rcases List.mem_cons.1 h with h | h
 · cases h
 rcases List.mem_append.1 h with h | h
 · unfold termPt at h
   split at h
   · rcases List.mem_cons.1 h with h | h
     · cases h
     rcases List.mem_append.1 h with h | h
     · exact .inr (.inr (.inl (atom_sub h)))
     rcases List.mem_cons.1 h with h | h
     · cases h
     rcases List.mem_append.1 h with h | h
     · exact .inr (.inr (.inr (.inl (atom_sub h))))
     · simp at h
   · exact .inr (.inr (.inl (atom_sub h)))
 rcases List.mem_cons.1 h with h | h
 · cases h
 rcases List.mem_append.1 h with h | h
 · split at h
   · rcases List.mem_cons.1 h with h | h
     · cases h
     · exact .inr (.inr (.inr (.inr (atom_sub h))))
   · cases h
 · simp at h
theorem prod_pt {n:Nat} {p:ProdT} (nm:ByteArray) (h:(shapeP n p).2=0) : ∀x∈varsP n p,Sum.inr x∈prodPt n nm p:=by
 obtain ⟨_,_,_,_,_,h2,h3⟩:=shapeP_ok h
 intro x hx
 unfold prodPt
 refine List.mem_cons_of_mem _ (List.mem_append.2 ?_)
 rcases List.mem_append.1 hx with hx | hx
 · obtain ⟨c,hc,hy⟩:=List.mem_flatMap.1 hx
   refine .inl (List.mem_flatMap.2 ⟨c,hc,?_⟩)
   unfold lineCPt
   refine List.mem_cons_of_mem _ (List.mem_append.2 (.inl ?_))
   cases n with
   | zero=>cases hy
   | succ n=>
     obtain ⟨g1,g2⟩:=flatC_in (n:=n) (d:=0) hc
     exact cond_pt n 0 c (h2 _ g1) (fun z hz=>h2 _ (g2 z hz)) x hy
 · obtain ⟨a,ha,hy⟩:=List.mem_flatMap.1 hx
   refine .inr (List.mem_cons_of_mem _ (List.mem_append.2 (.inl (List.mem_flatMap.2 ⟨a,ha,?_⟩))))
   unfold lineAPt
   exact List.mem_cons_of_mem _ (List.mem_append.2 (.inl (act_pt (h3 a ha) x hy)))
theorem prod_sub {n:Nat} {p:ProdT} {nm x:ByteArray} (h:Sum.inr x∈prodPt n nm p):x∈varsP n p:=by
 unfold prodPt at h
 rcases List.mem_cons.1 h with h | h
 · cases h
 rcases List.mem_append.1 h with h | h
 · obtain ⟨c,hc,h⟩:=List.mem_flatMap.1 h
   unfold lineCPt at h
   rcases List.mem_cons.1 h with h | h
   · cases h
   rcases List.mem_append.1 h with h | h
   · exact mem_varsC hc (cond_sub n c x h)
   · simp at h
 rcases List.mem_cons.1 h with h | h
 · cases h
 rcases List.mem_append.1 h with h | h
 · obtain ⟨a,ha,h⟩:=List.mem_flatMap.1 h
   unfold lineAPt at h
   rcases List.mem_cons.1 h with h | h
   · cases h
   rcases List.mem_append.1 h with h | h
   · exact mem_varsA ha (act_sub h)
   · simp at h
 · simp at h
theorem same_no {n:Nat} {p q:ProdT} (h:(shapeP n (plainP n p)).2=0→(shapeP n (plainP n q)).2=0→¬(prodX n (plainP n p)).data.toList=(prodX n (plainP n q)).data.toList):sameC n p q=false:=by
 have ez:(⟨#[]⟩:ByteArray).toList = []:=by kernel_rfl
 unfold sameC textC showX
 by_cases hp:(shapeP n (plainP n p)).2=0
 · rw [if_pos hp]
   by_cases hq:(shapeP n (plainP n q)).2=0
   · rw [if_pos hq]
     have:=h hp hq
     rw [← ByteArray.toList_eq,← ByteArray.toList_eq] at this
     rw [decide_eq_false this,Bool.and_false]
   · rw [if_neg hq,ez]
     by_cases he:(prodX n (plainP n p)).toList = []
     · simp [he]
     · simp [he]
 · rw [if_neg hp,ez];simp
theorem plain_text (n:Nat) (p:ProdT):(prodX n (plainP n p)).data.toList=flat (numT (uq (varsP n p))) (prodPt n ⟨#[120]⟩ p):=
 prodPt_is n ⟨#[120]⟩ p (fun _ hv=>numT_no (uq_mem.2 hv))
def mergeT (x y v:ByteArray):ByteArray:=if v=x then y else v
theorem merge_no (n:Nat) (p:ProdT) {x y:ByteArray} (hs:(shapeP n p).2=0) (hx:x∈varsP n p) (hy:y∈varsP n p) (hxy : ¬x=y):sameC n p (prodR (mergeT x y) n p)=false:=by
 have hne : ∀v∈varsP n p,¬(mergeT x y v).toList = []:=fun v hv=>by
  unfold mergeT
  split
  · exact vars_no hy
  · exact vars_no hv
 have hv:varsP n (prodR (mergeT x y) n p)=(varsP n p).map (mergeT x y):=ren_vars n p p.name hne
 have hin : ∀v∈varsP n p,mergeT x y v∈uq ((varsP n p).map (mergeT x y)):=fun v hv=>uq_mem.2 (List.mem_map_of_mem hv)
 have hp:plainP n (prodR (mergeT x y) n p)=⟨⟨#[120]⟩,p.conds.map (condR (fun v=>numT (uq ((varsP n p).map (mergeT x y))) (mergeT x y v)) n),p.acts.map (actR (fun v=>numT (uq ((varsP n p).map (mergeT x y))) (mergeT x y v)))⟩:=by
  rw [plainP,hv]
  congr 1
  · show (p.conds.map _).map _=_
    rw [List.map_map]
    exact List.map_congr_left fun c hc=>cond_comp n c (fun v hvv=>⟨rfl,hne v (mem_varsC hc hvv)⟩)
  · show (p.acts.map _).map _=_
    rw [List.map_map]
    exact List.map_congr_left fun a ha=>act_comp a (fun v hvv=>⟨rfl,hne v (mem_varsA ha hvv)⟩)
 refine same_no fun _ _ e=>?_
 rw [plain_text,hp,prodPt_is n ⟨#[120]⟩ p (fun v hvv=>numT_no (hin v hvv))] at e
 refine merge_ne n p (f:=mergeT x y) hx hy hxy ?_ (prod_pt ⟨#[120]⟩ hs) (fun v hvv=>prod_sub hvv) e.symm
 unfold mergeT
 rw [if_pos rfl,if_neg (fun e=>hxy e.symm)]
def restPt (n:Nat) (cs:List CondT) (az:List ActT):List Pt:=.inl ⟨#[10]⟩ :: (cs.flatMap (lineCPt n)++(.inl ⟨#[45,45,62,10]⟩ :: (az.flatMap lineAPt ++ [.inl ⟨#[125,10]⟩])))
theorem head_pt (t:ByteArray→ByteArray) (n:Nat) (nm pn:ByteArray) (c:CondT) (cs:List CondT) (az:List ActT):flat t (prodPt n nm ⟨pn,c :: cs,az⟩)=((⟨#[115,112,32,123]⟩:ByteArray)++nm++(⟨#[10]⟩:ByteArray)).data.toList++((⟨#[32,32]⟩:ByteArray).data.toList++(flat t (condPt n c)++flat t (restPt n cs az))):=by
 simp [prodPt,restPt,lineCPt,flat,flat_append]
theorem first_cond {n:Nat} {nm:ByteArray} {c:CondT} {cs:List CondT} {az:List ActT} (h:(shapeP n ⟨nm,c :: cs,az⟩).2=0) : ∃m,n=m+1∧condE c 0=0:=by
 obtain ⟨_,_,h1,_,_,h2,_⟩:=shapeP_ok h
 cases n with
 | zero=>simp [flatC] at h1
 | succ m=>exact ⟨m,rfl,h2 _ (flatC_in (n:=m) (d:=0) (show c∈c :: cs by simp)).1⟩
def goalC (c:CondT) (v:Bool):CondT:=.mk c.kind v c.id c.attr c.value c.acc c.conds
def accC (c:CondT) (v:Bool):CondT:=.mk c.kind c.goal c.id c.attr c.value v c.conds
theorem goal_no (n:Nat) (nm:ByteArray) (c:CondT) (cs:List CondT) (az:List ActT):sameC n ⟨nm,c :: cs,az⟩ ⟨nm,goalC c (!c.goal) :: cs,az⟩=false:=by
 have hv:varsP n ⟨nm,goalC c (!c.goal) :: cs,az⟩=varsP n ⟨nm,c :: cs,az⟩:=by cases n<;>rfl
 refine same_no fun hp hq e=>?_
 rw [plain_text,plain_text,hv] at e
 obtain ⟨m,rfl,k1⟩:=first_cond hp
 obtain ⟨_,_,k2⟩:=first_cond hq
 generalize numT (uq (varsP (m+1) ⟨nm,c :: cs,az⟩))=t at e k1 k2
 rw [hv] at k2
 by_cases hk:c.kind=3
 · have g1:c.goal=false:=(condE_all k1 hk).1
   have g2:(!c.goal)=false:=(condE_all k2 hk).1
   rw [g1] at g2
   cases g2
 · rw [head_pt,head_pt] at e
   have e2:=List.append_cancel_left (List.append_cancel_left e)
   rw [condPt,if_neg hk,condPt,if_neg (show ¬(goalC c (!c.goal)).kind=3 from hk),leafPt,leafPt,flat,flat,dat_app,dat_app] at e2
   have l1:leaf2 (goalC c (!c.goal))=if (!c.goal)=true then leaf1 c++(⟨#[115,116,97,116,101,32]⟩:ByteArray) else leaf1 c:=rfl
   have l2:leaf2 c=if c.goal=true then leaf1 c++(⟨#[115,116,97,116,101,32]⟩:ByteArray) else leaf1 c:=rfl
   rw [l1,l2] at e2
   cases hg:c.goal
   · simp only [hg,Bool.not_false,if_true,Bool.false_eq_true,if_false,dat_app,List.append_assoc] at e2
     have e3:=List.append_cancel_left e2
     have:(60:UInt8)=115:=(List.cons.inj e3).1
     exact absurd this (by decide)
   · simp only [hg,Bool.not_true,if_true,Bool.false_eq_true,if_false,dat_app,List.append_assoc] at e2
     have e3:=List.append_cancel_left e2
     have:(115:UInt8)=60:=(List.cons.inj e3).1
     exact absurd this (by decide)
theorem acc_no (n:Nat) (nm:ByteArray) (c:CondT) (cs:List CondT) (az:List ActT):sameC n ⟨nm,c :: cs,az⟩ ⟨nm,accC c (!c.acc) :: cs,az⟩=false:=by
 have hv:varsP n ⟨nm,accC c (!c.acc) :: cs,az⟩=varsP n ⟨nm,c :: cs,az⟩:=by cases n<;>rfl
 refine same_no fun hp hq e=>?_
 rw [plain_text,plain_text,hv] at e
 obtain ⟨m,rfl,k1⟩:=first_cond hp
 obtain ⟨_,_,k2⟩:=first_cond hq
 generalize numT (uq (varsP (m+1) ⟨nm,c :: cs,az⟩))=t at e k1 k2
 rw [hv] at k2
 by_cases hk:c.kind=3
 · have g1:c.acc=false:=(condE_all k1 hk).2.2.2.2
   have g2:(!c.acc)=false:=(condE_all k2 hk).2.2.2.2
   rw [g1] at g2
   cases g2
 · rw [head_pt,head_pt] at e
   have e2:=List.append_cancel_left (List.append_cancel_left e)
   rw [condPt,if_neg hk,condPt,if_neg (show ¬(accC c (!c.acc)).kind=3 from hk),leafPt,leafPt,flat,flat] at e2
   have hl:leaf2 (accC c (!c.acc))=leaf2 c:=rfl
   rw [hl] at e2
   simp only [flat_append,flat,List.append_assoc] at e2
   have e3:=List.append_cancel_left (List.append_cancel_left (List.append_cancel_left (List.append_cancel_left (List.append_cancel_left e2))))
   cases hg:c.acc
   · simp only [hg,Bool.not_false,if_true,Bool.false_eq_true,if_false,flat,List.nil_append,List.append_assoc] at e3
     have:(41:UInt8)=32:=(List.cons.inj e3).1
     exact absurd this (by decide)
   · simp only [hg,Bool.not_true,if_true,Bool.false_eq_true,if_false,flat,List.nil_append,List.append_assoc] at e3
     have:(32:UInt8)=41:=(List.cons.inj e3).1
     exact absurd this (by decide)
theorem sign_ne {k:Int} (h1:1≤k) (h2:k≤10) : ∃a r b s,(signX k).data.toList=a :: r∧(signX (1+k.tmod 10)).data.toList=b :: s∧¬a=b:=by
 have h:k=1∨k=2∨k=3∨k=4∨k=5∨k=6∨k=7∨k=8∨k=9∨k=10:=by omega
 rcases h with rfl | rfl | rfl | rfl | rfl | rfl | rfl | rfl | rfl | rfl
 · exact ⟨43,[],45,[],by kernel_rfl,by kernel_rfl,by decide⟩
 · exact ⟨45,[],33,[],by kernel_rfl,by kernel_rfl,by decide⟩
 · exact ⟨33,[],126,[],by kernel_rfl,by kernel_rfl,by decide⟩
 · exact ⟨126,[],62,[],by kernel_rfl,by kernel_rfl,by decide⟩
 · exact ⟨62,[],60,[],by kernel_rfl,by kernel_rfl,by decide⟩
 · exact ⟨60,[],61,[],by kernel_rfl,by kernel_rfl,by decide⟩
 · exact ⟨61,[],62,[],by kernel_rfl,by kernel_rfl,by decide⟩
 · exact ⟨62,[],60,[],by kernel_rfl,by kernel_rfl,by decide⟩
 · exact ⟨60,[],61,[],by kernel_rfl,by kernel_rfl,by decide⟩
 · exact ⟨61,[],43,[],by kernel_rfl,by kernel_rfl,by decide⟩
theorem pref_no (n:Nat) (nm:ByteArray) (cs:List CondT) (a:ActT) (az:List ActT):sameC n ⟨nm,cs,a :: az⟩ ⟨nm,cs,{ a with pref:=1+a.pref.tmod 10 } :: az⟩=false:=by
 have hv:varsP n ⟨nm,cs,{ a with pref:=1+a.pref.tmod 10 } :: az⟩=varsP n ⟨nm,cs,a :: az⟩:=rfl
 refine same_no fun hp hq e=>?_
 rw [plain_text,plain_text,hv] at e
 have hb:actB (actR (numT (uq (varsP n ⟨nm,cs,a :: az⟩))) a)=true:=(shapeP_ok hp).2.2.2.2.2.2 _ (show _∈(a :: az).map _ by simp)
 obtain ⟨_,h1,h2,_⟩:=actB_parts hb
 obtain ⟨u,r,v,s,e1,e2,e3⟩:=sign_ne (k:=a.pref) h1 h2
 generalize numT (uq (varsP n ⟨nm,cs,a :: az⟩))=t at e
 simp only [prodPt,lineAPt,actPt,List.flatMap_cons,flat,flat_append,List.append_assoc,List.cons_append,List.nil_append,dat_app,List.cons.injEq,true_and,List.append_cancel_left_eq,e1,e2] at e
 exact e3 e.1
theorem uq_again : ∀(m u:List ByteArray),(∀v∈m,v∈u)→m.foldl uqStep u=u
 | [],_,_=>rfl
 | v :: m,u,h=>by
   rw [List.foldl_cons,show uqStep u v=u by unfold uqStep;rw [if_pos (h v (by simp))]]
   exact uq_again m u (fun w hw=>h w (by simp [hw]))
theorem more_no (n:Nat) (nm:ByteArray) (cs:List CondT) (a:ActT) (az:List ActT):sameC n ⟨nm,cs,a :: az⟩ ⟨nm,cs,(a :: az) ++ [a]⟩=false:=by
 have hv:uq (varsP n ⟨nm,cs,(a :: az) ++ [a]⟩)=uq (varsP n ⟨nm,cs,a :: az⟩):=by
  have e:varsP n ⟨nm,cs,(a :: az) ++ [a]⟩=varsP n ⟨nm,cs,a :: az⟩++varsA a:=by
   show _++((a :: az) ++ [a]).flatMap varsA=(_++(a :: az).flatMap varsA)++varsA a
   rw [List.flatMap_append,List.append_assoc]
   simp
  rw [e]
  unfold uq
  rw [List.foldl_append]
  refine uq_again _ _ (fun v hvv=>?_)
  exact uq_mem.2 (mem_varsA (n:=n) (p:=⟨nm,cs,a :: az⟩) (show a∈a :: az by simp) hvv)
 refine same_no fun _ _ e=>?_
 rw [plain_text,plain_text,hv] at e
 generalize numT (uq (varsP n ⟨nm,cs,a :: az⟩))=t at e
 simp only [prodPt,List.flatMap_append,flat,flat_append,List.append_assoc] at e
 have e2:=List.append_cancel_left (List.append_cancel_left (List.append_cancel_left (List.append_cancel_left e)))
 simp only [List.flatMap_cons,List.flatMap_nil,lineAPt,flat,flat_append,List.append_assoc,List.cons_append] at e2
 have:(125:UInt8)=32:=(List.cons.inj e2).1
 exact absurd this (by decide)
end Go.Proofs.Ytffemfglngikbaa
namespace Go.Proofs.Ytffemfglngikbaa
open Go.RowKit
set_option maxRecDepth 100000 in
set_option maxHeartbeats 8000000 in
theorem ktests_is (A:Option Addr) (c:Nat) (l:List TestT) {D:Nat→Prop} (w:World) (hrd:RowR repTestT D w A c l) (hs:SmT l) :
 Calls Try.prog 73 #[.slice A l.length c] w (FreshR repTestT l w):=by
 obtain ⟨i0,hi0,hz0,hz1,hz2⟩:=infp inf_Sym
 obtain ⟨j0,hj0,hy0,hy1,hy2⟩:=infp inf_Test
 have hlc:=hrd.cap
 have hl1:=hs.1
 have HRD:=Lib.hid hrd
 have HS:=Lib.hid hs
 clear hrd hs
 go_enter Try.func73,Try.ntmps73
 go_wp2_with fail
 go_loopw [3,4] (fun v i wr=>∃k:Nat,i = .int .i64 k∧k≤l.length∧Copies repTestT 65 w (l.take k) v wr) (fun v i wr=>l.length - (intOf i).toNat)
 case atStart=>exact ⟨0,rfl,Nat.zero_le _,Copies.nil _ _ _ (Below.refl _ _)⟩
 case round=>
  obtain ⟨k,rfl,hk,hC⟩:=hrel
  obtain ⟨C,A1,c1,rfl,h1,h2,h3,h4⟩:=hC
  rw [take_len hk]
  by_cases hlt:k<l.length
  · have hrw:=HRD.out.keep (D':=D) h4.size (fun j hj hl=>⟨hj,h4.block j hl⟩)
    obtain ⟨g,off,A3,c3,rfl,hDg,hg,q0,q1,q2,q3,q4,q5,hr3⟩:=at_TestT hrw hlt
    obtain ⟨y,hy⟩ : ∃y,y=l[k]:=⟨_,rfl⟩
    have hy3:y.list.length≤1000:=by rw [hy];exact HS.out.2 _ (List.getElem_mem hlt)
    rw [← hy] at q0 q1 q2 q3 q4 q5 hr3
    have hr4:=RowR.rd (hs:=Sym.cells_length) hr3
    have hl3:=hr3.cap
    have b1:(0:Int)≤(k:Int):=by omega
    have b2:(k:Int)<(l.length:Int):=by omega
    have HY:=Lib.hid hy
    have H1:=Lib.hid h1
    have H2:=Lib.hid h2
    have H3:=Lib.hid h3
    have H4:=Lib.hid h4
    have HR4:=Lib.hid hr4
    clear hy hrw h1 h2 h3 h4 hr3 hr4
    go_upto_region 6 with fail
    obtain ⟨W4,hW4⟩ : ∃W4,W4=wr.alloc (.cells #[.int .i64 y.rel,.string y.var,.int .i64 y.sym.kind,.string y.sym.text,.int .i64 y.sym.n,.slice A3 y.list.length c3] 65):=⟨_,rfl⟩
    have hB4:Below wr.heap.size wr W4:=by rw [hW4];exact (Below.refl _ _).alloc (Nat.le_refl _) _
    have hX4:Blk W4 wr.heap.size 65 #[.int .i64 y.rel,.string y.var,.int .i64 y.sym.kind,.string y.sym.text,.int .i64 y.sym.n,.slice A3 y.list.length c3]:=by rw [hW4];exact Blk.new _ _ _
    rw [← hW4]
    clear hW4 q0 q1 q2 q3 q4
    have HB4:=Lib.hid hB4
    have HX4:=Lib.hid hX4
    have hxl4:=hX4.lt
    have x5:=(hB4.cell (p:=⟨g,off+k*6+5,none⟩) hg).trans q5
    clear hX4 hB4 q5
    have hg4:g<W4.heap.size:=by have:=HB4.out.size;omega
    go_wp2_with fail
    refine (cp_Sym A3 c3 y.list W4 (HR4.out.new_ HB4.out) (by omega)).mono ?_
    rintro e w5 ⟨A5,c5,rfl,ho5,hA5,hB5⟩
    have hX5:=HX4.out.new_ hB5
    have u5:=(hX5.cell 5).trans rfl
    have g5:=hX5.frozen 5
    have hxl5:=hX5.lt
    have HB5:=Lib.hid hB5
    have HO5:=Lib.hid ho5
    have HA5:=Lib.hid hA5
    have HX5:=Lib.hid hX5
    clear hX5 hB5 ho5 hA5 x5
    go_upto_region 7 with fail
    obtain ⟨W6,hW6⟩ : ∃W6,W6=w5.setCell ⟨wr.heap.size,5,none⟩ (.slice A5 y.list.length c5):=⟨_,rfl⟩
    have hX5:=HX5.out
    have hB6:Below wr.heap.size wr W6:=by rw [hW6];exact (HB4.out.trans (HB5.out.mono (by omega))).setCell (Nat.le_refl _) _
    have hX6:Blk W6 wr.heap.size 65 #[.int .i64 y.rel,.string y.var,.int .i64 y.sym.kind,.string y.sym.text,.int .i64 y.sym.n,.slice A5 y.list.length c5]:=by rw [hW6];exact hX5.set_ 5 _
    have hO6:W6.ownsRow 0 52 3 (.slice A5 y.list.length c5) y.list.length (y.list.flatMap Sym.cells):=by rw [hW6];exact ownsRow_setCell_other (a:=⟨wr.heap.size,5,none⟩) HO5.out (own_blk_ne HO5.out hX5 (by decide)) _
    have hA6:AIn A5 (NewD wr.heap.size W6):=HA5.out.mono (fun j hj=>⟨by have:=hj.1;omega,by rw [hW6];simpa using hj.2⟩)
    rw [← hW6]
    clear hW6 hX5
    have hB7:Below wr.heap.size wr (W6.alloc (.cells #[.int .i64 y.rel,.string y.var,.int .i64 y.sym.kind,.string y.sym.text,.int .i64 y.sym.n,.slice A5 y.list.length c5] 65)):=hB6.alloc hB6.size _
    have hrow:RowR repSym (Plus C wr (W6.alloc (.cells #[.int .i64 y.rel,.string y.var,.int .i64 y.sym.kind,.string y.sym.text,.int .i64 y.sym.n,.slice A5 y.list.length c5] 65))) (W6.alloc (.cells #[.int .i64 y.rel,.string y.var,.int .i64 y.sym.kind,.string y.sym.text,.int .i64 y.sym.n,.slice A5 y.list.length c5] 65)) A5 c5 y.list:=(Fresh1.row Sym.cells_length hO6 hA6).keep (by simp) (fun j hj hl=>⟨.inr ⟨hj.1,by simp;have:=hj.2;omega⟩,((Below.refl W6.heap.size W6).alloc (Nat.le_refl _) _).block j hl⟩)
    have hown7:=H1.out.plus hB7
    have hrep7:=rep_test hrow
    have hcl : ∀j,Plus C wr (W6.alloc (.cells #[.int .i64 y.rel,.string y.var,.int .i64 y.sym.kind,.string y.sym.text,.int .i64 y.sym.n,.slice A5 y.list.length c5] 65)) j→j<(W6.alloc (.cells #[.int .i64 y.rel,.string y.var,.int .i64 y.sym.kind,.string y.sym.text,.int .i64 y.sym.n,.slice A5 y.list.length c5] 65)).heap.size:=fun j hj=>by
     rcases hj with hj | hj
     · have:=(H2.out j hj).2;have:=hB7.size;omega
     · exact hj.2
    obtain ⟨u0,u1,u2,u3,u4,u5⟩:=hX6.c6
    have hxl6:=hX6.lt
    have HB7:=Lib.hid hB7
    have HOW:=Lib.hid hown7
    have HRE:=Lib.hid hrep7
    have HCL:=Lib.hid hcl
    have h63:(l.take k).length+1≤maxLen:=by rw [take_len hk];unfold maxLen;omega
    have hby:((l.take k).length+1)*80≤140737488355328:=by rw [take_len hk];omega
    have H63:=Lib.hid h63
    have HBY:=Lib.hid hby
    have HTL:=Lib.hid (take_len hk)
    clear hB6 hB7 hX6 hO6 hA6 hrow hown7 hrep7 hcl h63 hby
    have HV:=Lib.hid (show Value.slice A1 k c1 = .slice A1 (l.take k).length c1 by rw [take_len hk])
    go_wp2_with (at_builtin;refine wpList_append_C _ rfl _ _ 48 rfl 65 j0 _ 6 80 Try.underlying48 hj0 hy0 hy1 hy2 rfl rfl (by omega) (Plus C wr (W6.alloc (.cells #[.int .i64 y.rel,.string y.var,.int .i64 y.sym.kind,.string y.sym.text,.int .i64 y.sym.n,.slice A5 y.list.length c5] 65))) HCL.out (.slice A1 (l.take k).length c1) (l.take k) HV.out HOW.out ⟨W6.heap.size,0,none⟩ 1 y [.int .i64 y.rel,.string y.var,.int .i64 y.sym.kind,.string y.sym.text,.int .i64 y.sym.n,.slice A5 y.list.length c5] rfl (World.news_of_block (heap_alloc_new _ _)) (by intro u hu;simp only [List.mem_cons,List.not_mem_nil,or_false] at hu;rcases hu with rfl | rfl | rfl | rfl | rfl | rfl<;>rfl) HRE.out H63.out HBY.out ?_;intro v' w7 hap)
    have hfin:Copies repTestT 65 w (l.take k ++ [y]) v' w7:=Copies.snoc H2.out H3.out H4.out HB7.out (by have e:Value.slice A1 (l.take k).length c1 = .slice A1 (l.take k).length c1:=rfl;exact hap)
    rw [HY.out,take_snoc hlt] at hfin
    go_roundw
    case rel=>exact ⟨k+1,by go_num,by omega,hfin⟩
    case measure=>simp [intOf];omega
  · obtain rfl:k=l.length:=by omega
    have hfin:=Copies.done ⟨C,A1,c1,rfl,h1,h2,h3,h4⟩
    rw [List.take_length] at hfin
    have HF:=Lib.hid hfin
    clear h1 h2 h3 h4 hfin
    go_wp2_with fail
    go_ret
    exact HF.out
end Go.Proofs.Ytffemfglngikbaa
namespace Go.Proofs.Ytffemfglngikbaa
open Go.RowKit
set_option maxRecDepth 100000 in
set_option maxHeartbeats 8000000 in
theorem kconds_is (n:Nat) (hrec : ∀m,n=m+1→CopyOk 57 m) (A:Option Addr) (c:Nat) (L:List CondT) {D:Nat→Prop} (W0:World) (hrd:RowR (repCondT n) D W0 A c L) (hs:L.length≤1000∧∀x∈L,SmC n x) :
 Calls Try.prog 31 #[.slice A L.length c] W0 (FreshR (repCondT n) L W0):=by
 obtain ⟨j0,hj0,hy0,hyy1,hyy2⟩:=infp inf_Cond
 have hlc:=hrd.cap
 have hl1:=hs.1
 have HR3:=Lib.hid hrd
 have HS:=Lib.hid hs
 have HREC:=Lib.hid hrec
 clear hrd hs hrec
 go_enter Try.func31,Try.ntmps31
 go_wp2_with fail
 go_loopw [3,4] (fun v i wr=>∃k:Nat,i = .int .i64 k∧k≤L.length∧Copies (repCondT n) 50 W0 (L.take k) v wr) (fun v i wr=>L.length - (intOf i).toNat)
 case atStart=>exact ⟨0,rfl,Nat.zero_le _,Copies.nil _ _ _ (Below.refl _ _)⟩
 case round=>
  obtain ⟨k,rfl,hk,hC⟩:=hrel
  obtain ⟨C,A1,c1,rfl,h1,h2,h3,h4⟩:=hC
  rw [take_len hk]
  by_cases hlt:k<L.length
  · have hrw:=HR3.out.new_ (h4.mono (by omega):Below W0.heap.size W0 wr)
    obtain ⟨m,rfl⟩ : ∃m,n=m+1:=by
     cases n with
     | zero=>rw [row0 hrw] at hlt;simp at hlt
     | succ m=>exact ⟨m,rfl⟩
    obtain ⟨g,off,Ay1,cy1,Ay2,cy2,Ay3,cy3,hA0,hDg,hg,q0,q1,q2,q3,q4,q5,q6,hy1,hy2,hy3⟩:=at_CondT hrw hlt
    subst hA0
    obtain ⟨y,hy⟩ : ∃y,y=L[k]:=⟨_,rfl⟩
    have hys:SmC (m+1) y:=by rw [hy];exact HS.out.2 _ (List.getElem_mem hlt)
    rw [← hy] at q0 q1 q2 q3 q4 q5 q6 hy1 hy2 hy3
    have b1:(0:Int)≤(k:Int):=by omega
    have b2:(k:Int)<(L.length:Int):=by omega
    have HY:=Lib.hid hy
    have H1:=Lib.hid h1
    have H2:=Lib.hid h2
    have H3:=Lib.hid h3
    have H4:=Lib.hid h4
    have HY1:=Lib.hid hy1
    have HY2:=Lib.hid hy2
    have HY3:=Lib.hid hy3
    have HYS:=Lib.hid hys
    clear hy hrw h1 h2 h3 h4 hy1 hy2 hy3 hys
    go_wp2_with fail
    refine (HREC.out m rfl y Ay1 cy1 Ay2 cy2 Ay3 cy3 D wr HY1.out HY2.out HY3.out HYS.out).mono ?_
    rintro e w5 ⟨Az1,cz1,Az2,cz2,Az3,cz3,rfl,g1,g2,g3,hB5⟩
    have hB5':Below wr.heap.size wr w5:=hB5
    have h9:Below w5.heap.size w5 (w5.alloc (.cells #[.int .i64 y.kind,.bool y.goal,.string y.id,.slice Az1 y.attr.length cz1,.slice Az2 y.value.length cz2,.bool y.acc,.slice Az3 y.conds.length cz3] 50)):=(Below.refl _ _).alloc (Nat.le_refl _) _
    have hB7:Below wr.heap.size wr (w5.alloc (.cells #[.int .i64 y.kind,.bool y.goal,.string y.id,.slice Az1 y.attr.length cz1,.slice Az2 y.value.length cz2,.bool y.acc,.slice Az3 y.conds.length cz3] 50)):=hB5'.alloc hB5'.size _
    have up : ∀j,NewD wr.heap.size w5 j→j<w5.heap.size→(Plus C wr (w5.alloc (.cells #[.int .i64 y.kind,.bool y.goal,.string y.id,.slice Az1 y.attr.length cz1,.slice Az2 y.value.length cz2,.bool y.acc,.slice Az3 y.conds.length cz3] 50))) j∧(w5.alloc (.cells #[.int .i64 y.kind,.bool y.goal,.string y.id,.slice Az1 y.attr.length cz1,.slice Az2 y.value.length cz2,.bool y.acc,.slice Az3 y.conds.length cz3] 50)).heap[j]? = w5.heap[j]?:=fun j hj hl=>⟨.inr ⟨hj.1,by simp;omega⟩,h9.block j hl⟩
    have hrep7:=rep_cond (n:=m) (y:=y) (g1.keep h9.size up) (g2.keep h9.size up) (g3.keep h9.size up)
    have hown7:=H1.out.plus hB7
    have hcl : ∀j,Plus C wr (w5.alloc (.cells #[.int .i64 y.kind,.bool y.goal,.string y.id,.slice Az1 y.attr.length cz1,.slice Az2 y.value.length cz2,.bool y.acc,.slice Az3 y.conds.length cz3] 50)) j→j<(w5.alloc (.cells #[.int .i64 y.kind,.bool y.goal,.string y.id,.slice Az1 y.attr.length cz1,.slice Az2 y.value.length cz2,.bool y.acc,.slice Az3 y.conds.length cz3] 50)).heap.size:=fun j hj=>by
     rcases hj with hj | hj
     · have:=(H2.out j hj).2;have:=hB7.size;omega
     · exact hj.2
    have HB7:=Lib.hid hB7
    have HOW:=Lib.hid hown7
    have HRE:=Lib.hid hrep7
    have HCL:=Lib.hid hcl
    have HB5:=Lib.hid hB5'
    have H63:=Lib.hid (show (L.take k).length+1≤maxLen by rw [take_len hk];unfold maxLen;omega)
    have HBY:=Lib.hid (show ((L.take k).length+1)*112≤140737488355328 by rw [take_len hk];omega)
    have HV:=Lib.hid (show Value.slice A1 k c1 = .slice A1 (L.take k).length c1 by rw [take_len hk])
    clear g1 g2 g3 hB5 h9 hB7 up hrep7 hown7 hcl hB5' q0 q1 q2 q3 q4 q5 q6
    go_wp2_with (at_builtin;refine wpList_append_C _ rfl _ _ 22 rfl 50 j0 _ 7 112 Try.underlying22 hj0 hy0 hyy1 hyy2 rfl rfl (by omega) (Plus C wr (w5.alloc (.cells #[.int .i64 y.kind,.bool y.goal,.string y.id,.slice Az1 y.attr.length cz1,.slice Az2 y.value.length cz2,.bool y.acc,.slice Az3 y.conds.length cz3] 50))) HCL.out (.slice A1 (L.take k).length c1) (L.take k) HV.out HOW.out ⟨w5.heap.size,0,none⟩ 1 y [.int .i64 y.kind,.bool y.goal,.string y.id,.slice Az1 y.attr.length cz1,.slice Az2 y.value.length cz2,.bool y.acc,.slice Az3 y.conds.length cz3] rfl (World.news_of_block (heap_alloc_new _ _)) (by intro u hu;simp only [List.mem_cons,List.not_mem_nil,or_false] at hu;rcases hu with rfl | rfl | rfl | rfl | rfl | rfl | rfl<;>rfl) HRE.out H63.out HBY.out ?_;intro v' w7 hap)
    have hfin:Copies (repCondT (m+1)) 50 W0 (L.take k ++ [y]) v' w7:=Copies.snoc H2.out H3.out H4.out HB7.out hap
    rw [HY.out,take_snoc hlt] at hfin
    go_roundw
    case rel=>exact ⟨k+1,by go_num,by omega,hfin⟩
    case measure=>simp [intOf];omega
  · obtain rfl:k=L.length:=by omega
    have hfin:Copies (repCondT n) 50 W0 (L.take L.length) (.slice A1 (L.take L.length).length c1) wr:=⟨C,A1,c1,rfl,h1,h2,h3,h4⟩
    rw [List.take_length] at hfin
    have HF:=Lib.hid hfin
    clear h1 h2 h3 h4 hfin
    go_wp2_with fail
    go_ret
    exact HF.out.done
set_option maxRecDepth 100000 in
set_option maxHeartbeats 16000000 in
theorem kcond_body (n:Nat) (hrec : ∀m,n=m+1→CopyOk 57 m):CopyOk 57 n:=by
 intro x A1 c1 A2 c2 A3 c3 D w h1 h2 h3 hs
 obtain ⟨j0,hj0,hy0,hyy1,hyy2⟩:=infp inf_Cond
 have hcap1:=h1.cap
 have hcap2:=h2.cap
 have hcap3:=h3.cap
 obtain ⟨s1,s2,s3,s4⟩:=hs
 have S1:=Lib.hid s1
 have S2:=Lib.hid s2
 have HREC:=Lib.hid hrec
 obtain ⟨L,hL⟩ : ∃L,L=x.conds:=⟨_,rfl⟩
 rw [← hL] at h3 hcap3 s3 s4
 have HS:=Lib.hid (show L.length≤1000∧∀x∈L,SmC n x from ⟨s3,s4⟩)
 have HXC:=Lib.hid hL
 clear s1 s2 s4 hrec
 rw [← hL]
 clear hL
 have Q1:=Lib.hid h1
 have Q2:=Lib.hid h2
 have Q3:=Lib.hid h3
 clear h1 h2 h3
 go_enter Try.func57,Try.ntmps57
 go_upto_region 1 with fail
 obtain ⟨W1,hW1⟩ : ∃W1,W1=(w.alloc (.cells #[.int .i64 x.kind,.bool x.goal,.string x.id,.slice A1 x.attr.length c1,.slice A2 x.value.length c2,.bool x.acc,.slice A3 L.length c3] 50)).alloc (.cells #[.int .i64 0,.bool false,.string ⟨#[]⟩,.slice none 0 0,.slice none 0 0,.bool false,.slice none 0 0] 50):=⟨_,rfl⟩
 have hB1:Below w.heap.size w W1:=by rw [hW1];exact ((Below.refl _ _).alloc (Nat.le_refl _) _).alloc (by simp) _
 have hX1:Blk W1 w.heap.size 50 #[.int .i64 x.kind,.bool x.goal,.string x.id,.slice A1 x.attr.length c1,.slice A2 x.value.length c2,.bool x.acc,.slice A3 L.length c3]:=by rw [hW1];exact (Blk.new _ _ _).alloc _
 have hR1:Blk W1 (w.heap.size+1) 50 #[.int .i64 0,.bool false,.string ⟨#[]⟩,.slice none 0 0,.slice none 0 0,.bool false,.slice none 0 0]:=by rw [hW1];have:=Blk.new (w.alloc (.cells #[.int .i64 x.kind,.bool x.goal,.string x.id,.slice A1 x.attr.length c1,.slice A2 x.value.length c2,.bool x.acc,.slice A3 L.length c3] 50)) 50 #[.int .i64 0,.bool false,.string ⟨#[]⟩,.slice none 0 0,.slice none 0 0,.bool false,.slice none 0 0];simpa using this
 have hz1:W1.heap.size=w.heap.size+2:=by rw [hW1];simp
 rw [← hW1]
 clear hW1
 obtain ⟨-,-,-,x3,-,-,-⟩:=hX1.c7
 have HB1:=Lib.hid hB1
 have HX1:=Lib.hid hX1
 have HR1:=Lib.hid hR1
 have HZ1:=Lib.hid hz1
 have hxl1:=hX1.lt
 clear hB1 hX1 hR1 hz1
 go_wp2_with fail
 refine (ktests_is A1 c1 x.attr W1 (Q1.out.new_ HB1.out) S1.out).mono ?_
 rintro e w2 ⟨B1,d1,rfl,k1,-,hB2⟩
 obtain ⟨W2,hW2⟩ : ∃W2,W2=w2.setCell ⟨w.heap.size,3,none⟩ (.slice B1 x.attr.length d1):=⟨_,rfl⟩
 have hX2:=HX1.out.new_ hB2
 have u3:=(hX2.cell 3).trans rfl
 have g3:=hX2.frozen 3
 have hX2b:Blk W2 w.heap.size 50 #[.int .i64 x.kind,.bool x.goal,.string x.id,.slice B1 x.attr.length d1,.slice A2 x.value.length c2,.bool x.acc,.slice A3 L.length c3]:=by rw [hW2];exact hX2.set_ 3 _
 have hR2:Blk W2 (w.heap.size+1) 50 #[.int .i64 0,.bool false,.string ⟨#[]⟩,.slice none 0 0,.slice none 0 0,.bool false,.slice none 0 0]:=by rw [hW2];exact (HR1.out.new_ hB2).far (by simp) _
 have hz2:=hB2.size
 have hzW2:W2.heap.size=w2.heap.size:=by rw [hW2];simp
 have hB2b:Below w.heap.size w W2:=by rw [hW2];exact (HB1.out.trans (hB2.mono (by omega))).setCell (Nat.le_refl _) _
 have hk1:RowR repTestT (NewD W1.heap.size W2) W2 B1 d1 x.attr:=k1.keep (by omega) (fun j hj hl=>⟨⟨hj.1,by have:=hj.2;omega⟩,by rw [hW2];exact Below.heap_setCell _ _ _ _ (by dsimp only;have:=hj.1;have:=HZ1.out;omega)⟩)
 have HB2:=Lib.hid hB2b
 have HX2:=Lib.hid hX2b
 have HR2:=Lib.hid hR2
 have HK1:=Lib.hid hk1
 have HZ2:=Lib.hid (show W1.heap.size≤W2.heap.size by omega)
 have hxl2:=hX2.lt
 clear k1 hB2 hX2 hX2b hR2 hB2b hk1 hzW2 x3
 go_upto_region 2 with fail
 rw [← hW2]
 clear hW2 u3 g3 hz2
 obtain ⟨-,-,-,-,x4,-,-⟩:=HX2.out.c7
 have hxl2:=HX2.out.lt
 go_wp2_with fail
 refine (ktests_is A2 c2 x.value W2 (Q2.out.new_ HB2.out) S2.out).mono ?_
 rintro e w3 ⟨B2,d2,rfl,k2,-,hB3⟩
 obtain ⟨W3,hW3⟩ : ∃W3,W3=w3.setCell ⟨w.heap.size,4,none⟩ (.slice B2 x.value.length d2):=⟨_,rfl⟩
 have hX3:=HX2.out.new_ hB3
 have u4:=(hX3.cell 4).trans rfl
 have g4:=hX3.frozen 4
 have hX3b:Blk W3 w.heap.size 50 #[.int .i64 x.kind,.bool x.goal,.string x.id,.slice B1 x.attr.length d1,.slice B2 x.value.length d2,.bool x.acc,.slice A3 L.length c3]:=by rw [hW3];exact hX3.set_ 4 _
 have hR3:Blk W3 (w.heap.size+1) 50 #[.int .i64 0,.bool false,.string ⟨#[]⟩,.slice none 0 0,.slice none 0 0,.bool false,.slice none 0 0]:=by rw [hW3];exact (HR2.out.new_ hB3).far (by simp) _
 have hz3:=hB3.size
 have hzW3:W3.heap.size=w3.heap.size:=by rw [hW3];simp
 have hB3b:Below w.heap.size w W3:=by rw [hW3];exact (HB2.out.trans (hB3.mono (by have:=HB2.out.size;omega))).setCell (Nat.le_refl _) _
 have hk2:RowR repTestT (NewD W1.heap.size W3) W3 B2 d2 x.value:=k2.keep (by omega) (fun j hj hl=>⟨⟨by have:=hj.1;have:=HZ2.out;omega,by have:=hj.2;omega⟩,by rw [hW3];exact Below.heap_setCell _ _ _ _ (by dsimp only;have:=hj.1;have:=HZ1.out;have:=HZ2.out;omega)⟩)
 have hk1:RowR repTestT (NewD W1.heap.size W3) W3 B1 d1 x.attr:=HK1.out.keep (by omega) (fun j hj hl=>⟨⟨hj.1,by have:=hj.2;omega⟩,by rw [hW3];exact (Below.heap_setCell _ _ _ _ (by dsimp only;have:=hj.1;have:=HZ1.out;omega)).trans (hB3.block j hl)⟩)
 have HB3:=Lib.hid hB3b
 have HX3:=Lib.hid hX3b
 have HR3b:=Lib.hid hR3
 have HK2:=Lib.hid hk2
 have HK1b:=Lib.hid hk1
 have HZ3:=Lib.hid (show W1.heap.size≤W3.heap.size by have:=HZ2.out;omega)
 have HQ3:=Lib.hid (Q3.out.new_ HB3.out)
 have hxl3:=hX3.lt
 clear k2 hB3 hX3 hX3b hR3 hB3b hk1 hk2 hzW3 x4
 go_upto_region 3 with fail
 rw [← hW3]
 clear hW3 u4 g4 hz3
 obtain ⟨-,-,-,-,-,-,x6⟩:=HX3.out.c7
 have hxl3:=HX3.out.lt
 go_wp2_with fail
 refine (kconds_is n HREC.out A3 c3 L W3 HQ3.out HS.out).mono ?_
 intro e wf hf
 obtain ⟨E3,d3,he,r3,hE3,hBf⟩:=hf
 cases he
 obtain ⟨W9,hW9⟩ : ∃W9,W9=wf.setCell ⟨w.heap.size,6,none⟩ (.slice E3 L.length d3):=⟨_,rfl⟩
 have hX9:=HX3.out.new_ hBf
 have u6:=(hX9.cell 6).trans rfl
 have g6:=hX9.frozen 6
 have hxl9:=hX9.lt
 have hX9b:Blk W9 w.heap.size 50 #[.int .i64 x.kind,.bool x.goal,.string x.id,.slice B1 x.attr.length d1,.slice B2 x.value.length d2,.bool x.acc,.slice E3 L.length d3]:=by rw [hW9];exact hX9.set_ 6 _
 have hR9:Blk W9 (w.heap.size+1) 50 #[.int .i64 0,.bool false,.string ⟨#[]⟩,.slice none 0 0,.slice none 0 0,.bool false,.slice none 0 0]:=by rw [hW9];exact (HR3b.out.new_ hBf).far (by simp) _
 have hB9:Below w.heap.size w W9:=by rw [hW9];exact (HB3.out.trans (hBf.mono HB3.out.size)).setCell (Nat.le_refl _) _
 have hzf:=hBf.size
 have hz9:W9.heap.size=wf.heap.size:=by rw [hW9];simp
 have hk9 : ∀j,w.heap.size+2≤j→W9.heap[j]? = wf.heap[j]?:=fun j hj=>by rw [hW9];exact Below.heap_setCell _ _ _ _ (by dsimp only;omega)
 have HB9:=Lib.hid hB9
 have HX9:=Lib.hid hX9b
 have HT9:=Lib.hid (show W9.there (w.heap.size+1) 0 (#[Value.int IntKind.i64 x.kind,Value.bool x.goal,Value.string x.id,Value.slice B1 x.attr.length d1,Value.slice B2 x.value.length d2,Value.bool x.acc,Value.slice E3 L.length d3]:Array Value).size from hR9.there)
 have HRG:=Lib.hid (show W9.rangeAt w.heap.size 0 [Value.int IntKind.i64 x.kind,Value.bool x.goal,Value.string x.id,Value.slice B1 x.attr.length d1,Value.slice B2 x.value.length d2,Value.bool x.acc,Value.slice E3 L.length d3] from hX9b.range)
 have hrl9:=hR9.lt
 have l3:=r3.keep (w':=W9.setCells (w.heap.size+1) 0 [Value.int IntKind.i64 x.kind,Value.bool x.goal,Value.string x.id,Value.slice B1 x.attr.length d1,Value.slice B2 x.value.length d2,Value.bool x.acc,Value.slice E3 L.length d3]) (D':=NewD w.heap.size (W9.setCells (w.heap.size+1) 0 [Value.int IntKind.i64 x.kind,Value.bool x.goal,Value.string x.id,Value.slice B1 x.attr.length d1,Value.slice B2 x.value.length d2,Value.bool x.acc,Value.slice E3 L.length d3])) (by rw [size_setCells];omega) (fun j hj hl=>⟨⟨by have:=hj.1;have:=HB3.out.size;omega,by rw [size_setCells];omega⟩,(blk_setCells _ _ _ _ _ (by have:=hj.1;have:=HZ1.out;have:=HZ3.out;omega)).trans (hk9 j (by have:=hj.1;have:=HZ1.out;have:=HZ3.out;omega))⟩)
 have l1:=HK1b.out.keep (w':=W9.setCells (w.heap.size+1) 0 [Value.int IntKind.i64 x.kind,Value.bool x.goal,Value.string x.id,Value.slice B1 x.attr.length d1,Value.slice B2 x.value.length d2,Value.bool x.acc,Value.slice E3 L.length d3]) (D':=NewD w.heap.size (W9.setCells (w.heap.size+1) 0 [Value.int IntKind.i64 x.kind,Value.bool x.goal,Value.string x.id,Value.slice B1 x.attr.length d1,Value.slice B2 x.value.length d2,Value.bool x.acc,Value.slice E3 L.length d3])) (by rw [size_setCells];omega) (fun j hj hl=>⟨⟨by have:=hj.1;have:=HZ1.out;omega,by rw [size_setCells];omega⟩,(blk_setCells _ _ _ _ _ (by have:=hj.1;have:=HZ1.out;omega)).trans ((hk9 j (by have:=hj.1;have:=HZ1.out;omega)).trans (hBf.block j hl))⟩)
 have l2:=HK2.out.keep (w':=W9.setCells (w.heap.size+1) 0 [Value.int IntKind.i64 x.kind,Value.bool x.goal,Value.string x.id,Value.slice B1 x.attr.length d1,Value.slice B2 x.value.length d2,Value.bool x.acc,Value.slice E3 L.length d3]) (D':=NewD w.heap.size (W9.setCells (w.heap.size+1) 0 [Value.int IntKind.i64 x.kind,Value.bool x.goal,Value.string x.id,Value.slice B1 x.attr.length d1,Value.slice B2 x.value.length d2,Value.bool x.acc,Value.slice E3 L.length d3])) (by rw [size_setCells];omega) (fun j hj hl=>⟨⟨by have:=hj.1;have:=HZ1.out;omega,by rw [size_setCells];omega⟩,(blk_setCells _ _ _ _ _ (by have:=hj.1;have:=HZ1.out;omega)).trans ((hk9 j (by have:=hj.1;have:=HZ1.out;omega)).trans (hBf.block j hl))⟩)
 have R1:=Lib.hid l1
 have R2:=Lib.hid l2
 have R3:=Lib.hid l3
 clear hX9 hX9b hR9 hB9 hBf r3 hE3 l1 l2 l3 hz9 hk9 hzf x6
 go_upto_region 4 with fail
 rw [← hW9]
 clear hW9 u6 g6
 go_wp2_with (first | (with_reducible refine wpList_load_mid rfl 50 _ rfl w.heap.size 0 rfl [Value.int IntKind.i64 x.kind,Value.bool x.goal,Value.string x.id,Value.slice B1 x.attr.length d1,Value.slice B2 x.value.length d2,Value.bool x.acc,Value.slice E3 L.length d3] _ HRG.out Try.underlying50 rfl (by kernel_rfl) ?_) | (with_reducible refine wpList_store_mid rfl 50 _ _ rfl (w.heap.size+1) 0 #[Value.int IntKind.i64 x.kind,Value.bool x.goal,Value.string x.id,Value.slice B1 x.attr.length d1,Value.slice B2 x.value.length d2,Value.bool x.acc,Value.slice E3 L.length d3] rfl rfl HT9.out (by kernel_rfl) (by kernel_rfl) ?_))
 try simp only [Exit.inBlock,Exit.then]
 have hBe:Below w.heap.size w (W9.setCells (w.heap.size+1) 0 [Value.int IntKind.i64 x.kind,Value.bool x.goal,Value.string x.id,Value.slice B1 x.attr.length d1,Value.slice B2 x.value.length d2,Value.bool x.acc,Value.slice E3 L.length d3]):=Below.setCells' _ _ HB9.out (by omega)
 refine bodyPost_ret (v:=.agg #[.int .i64 x.kind,.bool x.goal,.string x.id,.slice B1 x.attr.length d1,.slice B2 x.value.length d2,.bool x.acc,.slice E3 L.length d3]) ?_ rfl ?_
 · exact results_cell (t:=2) (T:=50) rfl _ _ (w.heap.size+1) [Value.int IntKind.i64 x.kind,Value.bool x.goal,Value.string x.id,Value.slice B1 x.attr.length d1,Value.slice B2 x.value.length d2,Value.bool x.acc,Value.slice E3 L.length d3] _ rfl (World.rangeAt_setCells_same W9 (w.heap.size+1) 0 [Value.int IntKind.i64 x.kind,Value.bool x.goal,Value.string x.id,Value.slice B1 x.attr.length d1,Value.slice B2 x.value.length d2,Value.bool x.acc,Value.slice E3 L.length d3] HT9.out) Try.underlying50 rfl (by kernel_rfl)
 · have hxc:=HXC.out
   subst hxc
   exact ⟨B1,d1,B2,d2,E3,d3,rfl,R1.out,R2.out,R3.out,hBe⟩
theorem kcond_is : ∀n,CopyOk 57 n
 | 0=>kcond_body 0 (fun m h=>by omega)
 | n+1=>kcond_body (n+1) (fun m h=>by obtain rfl:m=n:=by omega
                                      exact kcond_is m)
end Go.Proofs.Ytffemfglngikbaa
namespace Go.Proofs.Ytffemfglngikbaa
open Go.RowKit
set_option maxRecDepth 100000 in
set_option maxHeartbeats 8000000 in
theorem kcondsC_is (n:Nat) (hrec : ∀m,n=m+1→CopyOk 57 m) (A:Option Addr) (c:Nat) (L:List CondT) {D:Nat→Prop} (W0:World) (hrd:RowR (repCondT n) D W0 A c L) (hs:L.length≤1000∧∀x∈L,SmC n x) :
 Calls Try.prog 31 #[.slice A L.length c] W0 fun e w'=>∃v,e = .returned v∧Copies (repCondT n) 50 W0 L v w':=by
 obtain ⟨j0,hj0,hy0,hyy1,hyy2⟩:=infp inf_Cond
 have hlc:=hrd.cap
 have hl1:=hs.1
 have HR3:=Lib.hid hrd
 have HS:=Lib.hid hs
 have HREC:=Lib.hid hrec
 clear hrd hs hrec
 go_enter Try.func31,Try.ntmps31
 go_wp2_with fail
 go_loopw [3,4] (fun v i wr=>∃k:Nat,i = .int .i64 k∧k≤L.length∧Copies (repCondT n) 50 W0 (L.take k) v wr) (fun v i wr=>L.length - (intOf i).toNat)
 case atStart=>exact ⟨0,rfl,Nat.zero_le _,Copies.nil _ _ _ (Below.refl _ _)⟩
 case round=>
  obtain ⟨k,rfl,hk,hC⟩:=hrel
  obtain ⟨C,A1,c1,rfl,h1,h2,h3,h4⟩:=hC
  rw [take_len hk]
  by_cases hlt:k<L.length
  · have hrw:=HR3.out.new_ (h4.mono (by omega):Below W0.heap.size W0 wr)
    obtain ⟨m,rfl⟩ : ∃m,n=m+1:=by
     cases n with
     | zero=>rw [row0 hrw] at hlt;simp at hlt
     | succ m=>exact ⟨m,rfl⟩
    obtain ⟨g,off,Ay1,cy1,Ay2,cy2,Ay3,cy3,hA0,hDg,hg,q0,q1,q2,q3,q4,q5,q6,hy1,hy2,hy3⟩:=at_CondT hrw hlt
    subst hA0
    obtain ⟨y,hy⟩ : ∃y,y=L[k]:=⟨_,rfl⟩
    have hys:SmC (m+1) y:=by rw [hy];exact HS.out.2 _ (List.getElem_mem hlt)
    rw [← hy] at q0 q1 q2 q3 q4 q5 q6 hy1 hy2 hy3
    have b1:(0:Int)≤(k:Int):=by omega
    have b2:(k:Int)<(L.length:Int):=by omega
    have HY:=Lib.hid hy
    have H1:=Lib.hid h1
    have H2:=Lib.hid h2
    have H3:=Lib.hid h3
    have H4:=Lib.hid h4
    have HY1:=Lib.hid hy1
    have HY2:=Lib.hid hy2
    have HY3:=Lib.hid hy3
    have HYS:=Lib.hid hys
    clear hy hrw h1 h2 h3 h4 hy1 hy2 hy3 hys
    go_wp2_with fail
    refine (HREC.out m rfl y Ay1 cy1 Ay2 cy2 Ay3 cy3 D wr HY1.out HY2.out HY3.out HYS.out).mono ?_
    rintro e w5 ⟨Az1,cz1,Az2,cz2,Az3,cz3,rfl,g1,g2,g3,hB5⟩
    have hB5':Below wr.heap.size wr w5:=hB5
    have h9:Below w5.heap.size w5 (w5.alloc (.cells #[.int .i64 y.kind,.bool y.goal,.string y.id,.slice Az1 y.attr.length cz1,.slice Az2 y.value.length cz2,.bool y.acc,.slice Az3 y.conds.length cz3] 50)):=(Below.refl _ _).alloc (Nat.le_refl _) _
    have hB7:Below wr.heap.size wr (w5.alloc (.cells #[.int .i64 y.kind,.bool y.goal,.string y.id,.slice Az1 y.attr.length cz1,.slice Az2 y.value.length cz2,.bool y.acc,.slice Az3 y.conds.length cz3] 50)):=hB5'.alloc hB5'.size _
    have up : ∀j,NewD wr.heap.size w5 j→j<w5.heap.size→(Plus C wr (w5.alloc (.cells #[.int .i64 y.kind,.bool y.goal,.string y.id,.slice Az1 y.attr.length cz1,.slice Az2 y.value.length cz2,.bool y.acc,.slice Az3 y.conds.length cz3] 50))) j∧(w5.alloc (.cells #[.int .i64 y.kind,.bool y.goal,.string y.id,.slice Az1 y.attr.length cz1,.slice Az2 y.value.length cz2,.bool y.acc,.slice Az3 y.conds.length cz3] 50)).heap[j]? = w5.heap[j]?:=fun j hj hl=>⟨.inr ⟨hj.1,by simp;omega⟩,h9.block j hl⟩
    have hrep7:=rep_cond (n:=m) (y:=y) (g1.keep h9.size up) (g2.keep h9.size up) (g3.keep h9.size up)
    have hown7:=H1.out.plus hB7
    have hcl : ∀j,Plus C wr (w5.alloc (.cells #[.int .i64 y.kind,.bool y.goal,.string y.id,.slice Az1 y.attr.length cz1,.slice Az2 y.value.length cz2,.bool y.acc,.slice Az3 y.conds.length cz3] 50)) j→j<(w5.alloc (.cells #[.int .i64 y.kind,.bool y.goal,.string y.id,.slice Az1 y.attr.length cz1,.slice Az2 y.value.length cz2,.bool y.acc,.slice Az3 y.conds.length cz3] 50)).heap.size:=fun j hj=>by
     rcases hj with hj | hj
     · have:=(H2.out j hj).2;have:=hB7.size;omega
     · exact hj.2
    have HB7:=Lib.hid hB7
    have HOW:=Lib.hid hown7
    have HRE:=Lib.hid hrep7
    have HCL:=Lib.hid hcl
    have HB5:=Lib.hid hB5'
    have H63:=Lib.hid (show (L.take k).length+1≤maxLen by rw [take_len hk];unfold maxLen;omega)
    have HBY:=Lib.hid (show ((L.take k).length+1)*112≤140737488355328 by rw [take_len hk];omega)
    have HV:=Lib.hid (show Value.slice A1 k c1 = .slice A1 (L.take k).length c1 by rw [take_len hk])
    clear g1 g2 g3 hB5 h9 hB7 up hrep7 hown7 hcl hB5' q0 q1 q2 q3 q4 q5 q6
    go_wp2_with (at_builtin;refine wpList_append_C _ rfl _ _ 22 rfl 50 j0 _ 7 112 Try.underlying22 hj0 hy0 hyy1 hyy2 rfl rfl (by omega) (Plus C wr (w5.alloc (.cells #[.int .i64 y.kind,.bool y.goal,.string y.id,.slice Az1 y.attr.length cz1,.slice Az2 y.value.length cz2,.bool y.acc,.slice Az3 y.conds.length cz3] 50))) HCL.out (.slice A1 (L.take k).length c1) (L.take k) HV.out HOW.out ⟨w5.heap.size,0,none⟩ 1 y [.int .i64 y.kind,.bool y.goal,.string y.id,.slice Az1 y.attr.length cz1,.slice Az2 y.value.length cz2,.bool y.acc,.slice Az3 y.conds.length cz3] rfl (World.news_of_block (heap_alloc_new _ _)) (by intro u hu;simp only [List.mem_cons,List.not_mem_nil,or_false] at hu;rcases hu with rfl | rfl | rfl | rfl | rfl | rfl | rfl<;>rfl) HRE.out H63.out HBY.out ?_;intro v' w7 hap)
    have hfin:Copies (repCondT (m+1)) 50 W0 (L.take k ++ [y]) v' w7:=Copies.snoc H2.out H3.out H4.out HB7.out hap
    rw [HY.out,take_snoc hlt] at hfin
    go_roundw
    case rel=>exact ⟨k+1,by go_num,by omega,hfin⟩
    case measure=>simp [intOf];omega
  · obtain rfl:k=L.length:=by omega
    have hfin:Copies (repCondT n) 50 W0 (L.take L.length) (.slice A1 (L.take L.length).length c1) wr:=⟨C,A1,c1,rfl,h1,h2,h3,h4⟩
    rw [List.take_length] at hfin
    have HF:=Lib.hid hfin
    clear h1 h2 h3 h4 hfin
    go_wp2_with fail
    go_ret
    exact ⟨_,rfl,HF.out⟩
end Go.Proofs.Ytffemfglngikbaa
namespace Go.Proofs.Ytffemfglngikbaa
open Go.RowKit Go.Shelf
attribute [local go_sem] Oper.semAt_some
def strC (s:ByteArray):List Value:=[.string s]
theorem strC_len (s:ByteArray):(strC s).length=1:=rfl
theorem str_one (l:List ByteArray) : ∀u∈l.flatMap strC,u.oneCell'=true:=by
 intro u hu
 obtain ⟨s,_,h⟩:=List.mem_flatMap.1 hu
 simp only [strC,List.mem_cons,List.not_mem_nil,or_false] at h
 subst h;rfl
theorem info_Str:(Try.prog.info? 9).map (fun i=>(i.zero,i.size,i.bytes))=some (some (.string ⟨#[]⟩),1,16):=by kernel_rfl
def StrsTo (W:World) (xs:List ByteArray) (e:Ending) (W':World):Prop:=
 ∃A c,e = .returned (.slice A xs.length c)∧W'.ownsRow 0 9 1 (.slice A xs.length c) xs.length (xs.flatMap strC)∧AIn A (W.heap.size≤·)∧Below W.heap.size W W'
def ColI (w:World) (ob:Nat) (D:Nat→Prop) (pre:List ByteArray) (X:World):Prop:=
 ∃A c,Own D X ob 28 #[.slice A pre.length c]∧OwnRD D X 9 1 pre.length A c (pre.flatMap strC)∧AIn A (w.heap.size≤·)∧Below w.heap.size w X∧(∀k,D k→k<X.heap.size)
theorem ColI.step {w:World} {ob B:Nat} {D:Nat→Prop} {pre:List ByteArray} {X Y:World} (h:ColI w ob D pre X) (hB:w.heap.size≤B) (hF:Fr (FromB B D) X Y):ColI w ob (Plus D X Y) pre Y:=by
 obtain ⟨A,c,h1,h2,h3,h4,h5⟩:=h
 exact ⟨A,c,h1.step hF,h2.step hF,h3,h4.trans (hF.below h4.size (fun k hk hn=>by have:=hn.2;omega)),fun k hk=>hk.elim (fun hk=>Nat.lt_of_lt_of_le (h5 k hk) hF.size) (·.2)⟩
end Go.Proofs.Ytffemfglngikbaa
namespace Go.Proofs.Ytffemfglngikbaa
open Go.RowKit Go.Shelf
theorem str_at {D:Nat→Prop} {w:World} {A:Option Addr} {c k:Nat} {l:List ByteArray} (h:RowR repStr D w A c l) (hk:k<l.length) : ∃g off,A=some ⟨g,off,none⟩∧g<w.heap.size∧w.cell? ⟨g,off+k,none⟩=some (.string l[k]):=by
 obtain ⟨g,off,cs,hA,hD,hg,hr,hc⟩:=h.at_ hk
 have hr2:cs = [Value.string l[k]]:=hr
 subst hr2
 exact ⟨g,off,hA,hg,by simpa [repStr,RepT.flat] using hc 0 _ rfl⟩
theorem strs_row {w:World} {A:Option Addr} {c n:Nat} {l:List ByteArray} (hn:l.length=n) (h:w.ownsRow 0 9 1 (.slice A n c) n (l.flatMap strC)):RowR repStr (fun _=>True) w A c l:=by
 subst hn
 exact RowR.of_rd (ownsRow_rd strC_len h) (fun _ _=>trivial)
end Go.Proofs.Ytffemfglngikbaa
namespace Go.Proofs.Ytffemfglngikbaa
open Go.RowKit Go.Shelf
abbrev V6:={cs:List Value // cs.length=6∧∀u∈cs,u.oneCell'=true}
theorem v6_len (v:V6):(v.1).length=6:=v.2.1
theorem v6_one (l:List V6) : ∀u∈l.flatMap (·.1),u.oneCell'=true:=fun u hu=>by
 obtain ⟨v,_,h⟩:=List.mem_flatMap.1 hu
 exact v.2.2 u h
def Raw6 (l:List TestT) (xs:List V6):Prop:=xs.map (fun v=>(v.1[0]?,v.1[1]?))=l.map (fun t=>(some (Value.int .i64 t.rel),some (Value.string t.var)))
theorem Raw6.app {l m:List TestT} {xs ys:List V6} (h1:Raw6 l xs) (h2:Raw6 m ys):Raw6 (l++m) (xs++ys):=by
 unfold Raw6 at *
 rw [List.map_append,List.map_append,h1,h2]
theorem Raw6.len {l:List TestT} {xs:List V6} (h:Raw6 l xs):xs.length=l.length:=by
 have:=congrArg List.length h
 simpa using this
theorem Raw6.get {l:List TestT} {xs:List V6} (h:Raw6 l xs) {k:Nat} (hk:k<l.length) (hk2:k<xs.length):xs[k].1[0]? = some (.int .i64 l[k].rel)∧xs[k].1[1]? = some (.string l[k].var):=by
 have:=congrArg (·[k]?) h
 simp only [List.getElem?_map,List.getElem?_eq_getElem hk,List.getElem?_eq_getElem hk2,Option.map_some,Option.some.injEq,Prod.mk.injEq] at this
 exact this
theorem raw_tests {D:Nat→Prop} {w:World} {A:Option Addr} {c:Nat} {l:List TestT} (h:RowR repTestT D w A c l) : ∃xs:List V6,Raw6 l xs∧RowRd w 6 (·.1) A c xs:=by
 by_cases h0:0<l.length
 · obtain ⟨b,off,hA,_,hb,hall⟩:=h.2.2 h0
   have hex : ∀i:Fin l.length,∃v:V6,v.1[0]? = some (.int .i64 l[i].rel)∧v.1[1]? = some (.string l[i].var)∧∀j u,v.1[j]? = some u→w.cell? ⟨b,off+i*6+j,none⟩=some u:=fun i=>by
    obtain ⟨cs,⟨A1,c1,hcs,_⟩,hc⟩:=hall i i.2
    subst hcs
    refine ⟨⟨_,by rfl,by simp [Value.oneCell']⟩,rfl,rfl,fun j u hu=>hc j u hu⟩
   refine ⟨List.ofFn fun i=>Classical.choose (hex i),?_,?_⟩
   · unfold Raw6
     apply List.ext_getElem
     · simp
     · intro k hk hk2
       simp only [List.length_map,List.length_ofFn] at hk
       simp only [List.getElem_map,List.getElem_ofFn]
       obtain ⟨g1,g2,_⟩:=Classical.choose_spec (hex ⟨k,hk⟩)
       rw [g1,g2];rfl
   · refine ⟨by simpa using h.1,h.2.1,fun _=>⟨b,off,hA,hb,fun k hk j u hu=>?_⟩⟩
     simp only [List.length_ofFn] at hk
     simp only [List.getElem_ofFn] at hu
     exact (Classical.choose_spec (hex ⟨k,hk⟩)).2.2 j u hu
 · have:l = []:=List.length_eq_zero_iff.1 (by omega)
   subst this
   exact ⟨[],rfl,by simp,h.2.1,fun h=>absurd h (by simp)⟩
theorem rows_neN {W:World} {e1 e2:TypeId} {z1 z2 n1 n2 b1 b2:Nat} {v1 v2:Value} {x1 x2:List Value} (h1:W.ownsRow b1 e1 z1 v1 n1 x1) (h2:W.ownsRow b2 e2 z2 v2 n2 x2) (hne:e1≠e2) {g:Nat} (hg:v1.ownBlock=some g):v2.ownBlock≠some g:=by
 rcases h1.2 with ⟨rfl,_⟩ | ⟨k,cap,cur,rfl,_,hk,_⟩
 · simp [Value.ownBlock] at hg
 · have e:k=g:=by simpa [Value.ownBlock] using hg
   subst e
   exact own_blk_ne h2 (t:=e1) (cs:=cur) hk (Ne.symm hne)
theorem grown_str {B:Nat} {w w':World} {A:Option Addr} {c:Nat} {xs ys:List ByteArray} {v:Value} (hown:w'.ownsRow 0 9 1 v (xs.length+ys.length) (xs.flatMap strC++ys.flatMap strC)) (hg:w.grownBy w' (Value.slice A xs.length c).ownBlock)
 (hat:v.ownBlock=(Value.slice A xs.length c).ownBlock∨v.ownBlock=some w.heap.size) (hA:AIn A (B≤·)) (hB:B≤w.heap.size) :
 ∃A' c',v = .slice A' (xs++ys).length c'∧w'.ownsRow 0 9 1 (.slice A' (xs++ys).length c') (xs++ys).length ((xs++ys).flatMap strC)∧AIn A' (B≤·)∧Below B w w'∧Fr (fun k=>(Value.slice A xs.length c).ownBlock=some k) w w':=by
 rw [← List.length_append,← List.flatMap_append] at hown
 obtain ⟨A',c',rfl,_⟩:=own_form2 hown
 have hown2 : ∀k,(Value.slice A xs.length c).ownBlock=some k→B≤k:=fun k hk=>by
  cases A with
  | none=>cases hk
  | some a=>simp only [Value.ownBlock,Option.some.injEq] at hk;rw [← hk];exact hA a rfl
 refine ⟨A',c',rfl,hown,fun a ha=>?_,(Below.refl B w).grown hg hB hown2,(Fr.refl _ w).grown hg (fun k hk=>.inl hk)⟩
 subst ha
 rcases hat with h | h
 · exact hown2 _ h.symm
 · simp only [Value.ownBlock,Option.some.injEq] at h
   omega
def RNSpec (n:Nat):Prop:=∀(c:CondT) (A1:Option Addr) (a1:Nat) (A2:Option Addr) (a2:Nat) (A3:Option Addr) (a3:Nat) (D:Nat→Prop) (X:World),SmC (n+1) c→(namesN (n+1) c).length≤100000→RowR repTestT D X A1 a1 c.attr→RowR repTestT D X A2 a2 c.value→RowR (repCondT n) D X A3 a3 c.conds→
    Calls Try.prog 28 #[.agg #[.int .i64 c.kind,.bool c.goal,.string c.id,.slice A1 c.attr.length a1,.slice A2 c.value.length a2,.bool c.acc,.slice A3 c.conds.length a3]] X (StrsTo X (namesN (n+1) c))
structure RN (X:World) (c:CondT) (A1:Option Addr) (a1:Nat) (A2:Option Addr) (a2:Nat) (A3:Option Addr) (a3:Nat) (out:List ByteArray) (A:Option Addr) (cp:Nat) (w:World):Prop where
 own:w.ownsRow 0 9 1 (.slice A out.length cp) out.length (out.flatMap strC)
 ain:AIn A (X.heap.size≤·)
 blk:Blk w X.heap.size 50 #[.int .i64 c.kind,.bool c.goal,.string c.id,.slice A1 c.attr.length a1,.slice A2 c.value.length a2,.bool c.acc,.slice A3 c.conds.length a3]
 bel:Below X.heap.size X w
section
variable {X w w':World} {c:CondT} {A1 A2 A3 A:Option Addr} {a1 a2 a3 cp:Nat} {out ys:List ByteArray}
theorem RN.new_ (h:RN X c A1 a1 A2 a2 A3 a3 out A cp w) (hb:Below w.heap.size w w'):RN X c A1 a1 A2 a2 A3 a3 out A cp w':=⟨ownsRow_new h.own hb,h.ain,h.blk.new_ hb,h.bel.trans (hb.mono h.bel.size)⟩
theorem RN.app {v:Value} (h:RN X c A1 a1 A2 a2 A3 a3 out A cp w) (hown:w'.ownsRow 0 9 1 v (out.length+ys.length) (out.flatMap strC++ys.flatMap strC)) (hg:w.grownBy w' (Value.slice A out.length cp).ownBlock) (hat:v.ownBlock=(Value.slice A out.length cp).ownBlock∨v.ownBlock=some w.heap.size) :
 ∃A' c',v = .slice A' (out++ys).length c'∧RN X c A1 a1 A2 a2 A3 a3 (out++ys) A' c' w'∧Fr (fun k=>(Value.slice A out.length cp).ownBlock=some k) w w':=by
 obtain ⟨A',c',rfl,h1,h2,h3,h4⟩:=grown_str hown hg hat h.ain h.bel.size
 exact ⟨A',c',rfl,⟨h1,h2,h.blk.fr h4 (fun e=>own_blk_ne h.own h.blk (by decide) e),h.bel.trans h3⟩,h4⟩
end
set_option maxRecDepth 100000 in
set_option maxHeartbeats 16000000 in
theorem rnames_step (n:Nat) (ih : ∀m,n=m+1→RNSpec m):RNSpec n:=by
 intro c A1 a1 A2 a2 A3 a3 D X hsm hlen h1 h2 h3
 obtain ⟨i0,hi0,hz0,hz1,hz2⟩:=info_parts info_Str
 obtain ⟨t0,ht0,hy0,hyy1,hyy2⟩:=infp inf_Test
 obtain ⟨xs1,hr1,hd1⟩:=raw_tests h1
 obtain ⟨xs2,hr2,hd2⟩:=raw_tests h2
 have hl1:xs1.length=c.attr.length:=hr1.len
 have hl2:xs2.length=c.value.length:=hr2.len
 obtain ⟨⟨hs1,_⟩,⟨hs2,_⟩,_,hs4⟩:=hsm
 have IH:=Lib.hid ih
 have HS4:=Lib.hid hs4
 have HLEN:=Lib.hid hlen
 have H3:=Lib.hid h3
 have hac:=h3.cap
 have HD1:=Lib.hid (show RowRd X 6 (fun v:V6=>v.1) A1 a1 xs1 from hd1)
 have HD2:=Lib.hid (show RowRd X 6 (fun v:V6=>v.1) A2 a2 xs2 from hd2)
 have HRW:=Lib.hid (hr1.app hr2)
 have hlx1:xs1.length≤1000:=by omega
 have hlx2:xs2.length≤1000:=by omega
 have HL1:=Lib.hid hl1
 have HL2:=Lib.hid hl2
 clear ih hs4 hlen h1 h2 h3 hd1 hd2 hr1 hr2 hs1 hs2 hl1 hl2
 go_enter Try.func28,Try.ntmps28
 go_upto_region 1 with fail
 obtain ⟨W1,hW1⟩ : ∃W1,W1=X.alloc (.cells #[.int .i64 c.kind,.bool c.goal,.string c.id,.slice A1 c.attr.length a1,.slice A2 c.value.length a2,.bool c.acc,.slice A3 c.conds.length a3] 50):=⟨_,rfl⟩
 have hb1:Below X.heap.size X W1:=by rw [hW1];exact (Below.refl _ _).alloc (Nat.le_refl _) _
 have HN1:=Lib.hid (show RN X c A1 a1 A2 a2 A3 a3 [] none 0 W1 from ⟨owns_nilC _ _ _,AIn.none_ _,by rw [hW1];exact Blk.new _ _ _,hb1⟩)
 rw [← hW1]
 clear hW1 hb1
 have q2:=(HN1.out.blk.cell 2).trans rfl
 have qz:=HN1.out.blk.lt
 by_cases hid:c.id.toList = []
 · have ia:(c.id.toList == [])=true:=by simp [hid]
   have ib:c.id.toList.isEmpty=true:=by simp [hid]
   have ic:decide (c.id.toList = [])=true:=by simp [hid]
   have HOS:=Lib.hid (show ([]:List ByteArray)=oneN c.id by rw [oneN_no hid])
   have HOSL:=Lib.hid (show ([]:List ByteArray).length≤1 by simp)
   have HNo:=Lib.hid HN1.out
   clear hid
   go_upto_region 4 with fail
   clear q2 qz
   have q3:=(HNo.out.blk.cell 3).trans rfl
   have q4:=(HNo.out.blk.cell 4).trans rfl
   have qz:=HNo.out.blk.lt
   refine wp_region_E (fun w9=>Below W1.heap.size W1 w9) [(0,0),(1,1),(3,0),(4,1),(2,2),(5,2),(6,0)] (by kernel_rfl) (by kernel_rfl) (fun KK hKK=>?_)
   simp only [beside,List.filterMap_cons,List.filterMap_nil,List.getElem?_toArray,List.getElem?_cons_zero,List.getElem?_cons_succ,Option.map_some]
   repeat ((first | (refine wpX_w ?_ (Or.inl ⟨by rfl,fun w9=>?_⟩) ?_;rotate_left 1;go_simp;with_reducible rfl) | (refine wpX_l ?_ (((Below.refl _ _).drew)) (Or.inl ⟨by rfl,fun w9 hw9=>?_⟩) ?_;rotate_left 1;obtain ⟨hc9,hf9⟩:=bcell hw9;go_simp;with_reducible rfl) | refine wpX_w undef (Or.inr ⟨by rfl,rfl⟩) ?_ | refine wpX_l undef (((Below.refl _ _).drew)) (Or.inr ⟨by rfl,rfl⟩) ?_);go_frame)
   refine wpX_es (fun K9_ hK9_=>?_)
   refine step_append_src _ rfl _ _ 48 rfl 65 t0 _ 6 80 Try.underlying48 ht0 hy0 hyy1 hyy2 rfl (by omega) (.slice none 0 0) 0 [] rfl (owns_nilC _ _ _) A1 c.attr.length a1 (xs1.flatMap (fun v:V6=>v.1)) rfl (by rw [← HL1.out];exact flat_length v6_len xs1) (by rw [← HL1.out];exact ((HD1.out.new_ HNo.out.bel).new_ ((Below.refl _ _).drew)).news v6_len (by omega)) (v6_one _) (by have:=HL1.out;unfold maxLen;omega) (by have:=HL1.out;omega) ?_
   intro vb w3 hown1 hg1 hnil1 hat1
   rw [Nat.zero_add,List.nil_append] at hown1
   obtain ⟨Ad,cd,rfl,_⟩:=own_form2 hown1
   have HB3:=Lib.hid (show Below W1.heap.size W1 w3 from ((Below.refl W1.heap.size W1).drew).trans ((Below.refl _ _).grown hg1 (Nat.le_refl _) (fun k hk=>by cases hk)))
   have HO3:=Lib.hid hown1
   have HA3:=Lib.hid (show AIn Ad (W1.heap.size≤·) from fun a ha=>by
    subst ha
    rcases hat1 with h | h
    · cases h
    · simp only [Value.ownBlock,Option.some.injEq] at h
      exact Nat.le_of_eq h.symm)
   clear hown1 hg1 hnil1 hat1
   refine hK9_ _ _ HB3.out ?_
   clear hK9_ K9_
   refine wpX_es (fun K9_ hK9_=>?_)
   refine step_append_src _ rfl _ _ 48 rfl 65 t0 _ 6 80 Try.underlying48 ht0 hy0 hyy1 hyy2 rfl (by omega) (.slice Ad c.attr.length cd) c.attr.length (xs1.flatMap (fun v:V6=>v.1)) rfl HO3.out A2 c.value.length a2 (xs2.flatMap (fun v:V6=>v.1)) rfl (by rw [← HL2.out];exact flat_length v6_len xs2) (by rw [← HL2.out];exact ((HD2.out.new_ HNo.out.bel).new_ HB3.out).news v6_len (by omega)) (v6_one _) (by have:=HL1.out;have:=HL2.out;unfold maxLen;omega) (by have:=HL1.out;have:=HL2.out;omega) ?_
   intro vb w4 hown1 hg1 hnil1 hat1
   rw [← List.flatMap_append] at hown1
   obtain ⟨Al,cl,rfl,_⟩:=own_form2 hown1
   have HB4:=Lib.hid (show Below W1.heap.size W1 w4 from HB3.out.grown hg1 HB3.out.size (fun k hk=>by
    cases Ad with
    | none=>cases hk
    | some a=>simp only [Value.ownBlock,Option.some.injEq] at hk;rw [← hk];exact HA3.out a rfl))
   have HO4:=Lib.hid hown1
   clear hown1 hg1 hnil1 hat1 HO3 HA3 HB3
   obtain ⟨tl,htl⟩ : ∃tl,tl=c.attr++c.value:=⟨_,rfl⟩
   have htll:c.attr.length+c.value.length=tl.length:=by rw [htl,List.length_append]
   rw [htll] at HO4 ⊢
   have HTL:=Lib.hid htl
   clear htl htll
   refine hK9_ _ _ HB4.out ?_
   clear hK9_ K9_
   repeat ((first | (refine wpX_w ?_ (Or.inl ⟨by rfl,fun w9=>?_⟩) ?_;rotate_left 1;go_simp;with_reducible rfl) | (refine wpX_l ?_ (HB3.out) (Or.inl ⟨by rfl,fun w9 hw9=>?_⟩) ?_;rotate_left 1;obtain ⟨hc9,hf9⟩:=bcell hw9;go_simp;with_reducible rfl) | refine wpX_w undef (Or.inr ⟨by rfl,rfl⟩) ?_ | refine wpX_l undef (HB3.out) (Or.inr ⟨by rfl,rfl⟩) ?_);go_frame)
   refine wpX_nil ?_
   simp only [OnlyN_normal]
   refine hKK _ _ ?_
   clear hKK KK
   obtain ⟨xs,hxs⟩ : ∃xs,xs=xs1++xs2:=⟨_,rfl⟩
   rw [← hxs] at HO4 HRW
   rw [← HTL.out] at HRW
   have HN4:=Lib.hid (HNo.out.new_ HB4.out)
   have htc:tl.length≤2000:=by rw [HTL.out,List.length_append];have:=HL1.out;have:=HL2.out;omega
   have HXL:=Lib.hid (show xs.length=tl.length from HRW.out.len)
   clear q3 q4 qz HNo hxs
   go_wp2_with fail
   go_loopw [3,5] (fun v s wr=>∃(i:Nat) (out:List ByteArray) (A:Option Addr) (cp:Nat),s = .int .i64 i∧v = .slice A out.length cp∧i≤tl.length∧out=([]:List ByteArray)++varsT (tl.take i)∧RN X c A1 a1 A2 a2 A3 a3 out A cp wr∧wr.ownsRow 0 65 6 (.slice Al tl.length cl) tl.length (xs.flatMap (fun v:V6=>v.1))) (fun v s wr=>tl.length - (intOf s).toNat)
   case atStart=>exact ⟨0,([]:List ByteArray),none,0,rfl,rfl,Nat.zero_le _,by simp [varsT],HN4.out,HO4.out⟩
   case round=>
    obtain ⟨i,out,A,cp,rfl,rfl,hi,hout,hn,ho⟩:=hrel
    have HNR:=Lib.hid hn
    have HOR:=Lib.hid ho
    have HOUT:=Lib.hid hout
    clear hn ho hout HN4 HO4
    by_cases hlt:i<tl.length
    · obtain ⟨y,hy⟩ : ∃y,y=tl[i]:=⟨_,rfl⟩
      have hxi:i<xs.length:=by rw [HXL.out];exact hlt
      have hrd:RowRd wr 6 (fun v:V6=>v.1) Al cl xs:=by
       have h:=HOR.out
       rw [← HXL.out] at h
       exact ownsRow_rd v6_len h
      obtain ⟨g,off,hA0,hg,hcel⟩:=hrd.at_ hxi
      have q1:wr.cell? ⟨g,off+i*6+1,none⟩=some (.string y.var):=hcel 1 _ (by rw [(HRW.out.get hlt hxi).2,hy])
      subst hA0
      have HVT:=Lib.hid (show varsT (tl.take (i+1))=varsT (tl.take i)++oneN y.var by unfold varsT;rw [← take_snoc hlt,List.flatMap_append,hy];simp)
      have hol:out.length≤100000:=by
       have h1:=varsT_len (tl.take i)
       have h2:=HOSL.out
       rw [HOUT.out,List.length_append]
       have h3:(tl.take i).length≤tl.length:=Nat.le_trans (List.length_take_le _ _) hi
       omega
      have j1:(0:Int)≤(i:Int):=by omega
      have j2:(i:Int)<(tl.length:Int):=by omega
      clear hy hrd hcel
      by_cases hve:y.var.toList = []
      · have va:(y.var.toList == [])=true:=by simp [hve]
        have vb:y.var.toList.isEmpty=true:=by simp [hve]
        have vc:decide (y.var.toList = [])=true:=by simp [hve]
        have HON:=Lib.hid (show out=([]:List ByteArray)++varsT (tl.take (i+1)) by rw [HVT.out,oneN_no hve,List.append_nil];exact HOUT.out)
        clear hve
        go_wp2_with fail
        go_roundw
        case rel=>exact ⟨i+1,out,A,cp,by go_num,rfl,by omega,HON.out,HNR.out,HOR.out⟩
        case measure=>simp [intOf]<;>omega
      · have va:(y.var.toList == [])=false:=by simp [hve]
        have vb:y.var.toList.isEmpty=false:=by simp [hve]
        have vc:decide (y.var.toList = [])=false:=by simp [hve]
        have HON:=Lib.hid (show out ++ [y.var]=([]:List ByteArray)++varsT (tl.take (i+1)) by rw [HVT.out,oneN_yes hve,HOUT.out];simp)
        clear hve
        obtain ⟨Y9,hY9⟩ : ∃Y9,Y9=wr.alloc (.cells #[.string y.var] 9):=⟨_,rfl⟩
        have hb9:Below wr.heap.size wr Y9:=by rw [hY9];exact (Below.refl _ _).alloc (Nat.le_refl _) _
        have HY9:=Lib.hid hY9
        have HN9:=Lib.hid (HNR.out.new_ hb9)
        have HO9:=Lib.hid (ownsRow_new HOR.out hb9)
        have HW9:=Lib.hid (show 0<1→∃ad,(some (⟨wr.heap.size,0,none⟩:Addr))=some ad∧∀j u,([y.var].flatMap strC)[j]? = some u→Y9.cell? (ad.add j)=some u from fun _=>⟨_,rfl,by rw [hY9];exact World.news_of_block (heap_alloc_new _ _)⟩)
        clear hY9 hb9
        go_wp2_with (at_builtin;rw [← HY9.out];refine wpList_append_src Y9 rfl (.tmp 33) (.tmp 39) 28 rfl 9 i0 _ 1 16 Try.underlying28 hi0 hz0 hz1 hz2 rfl (by decide) (.slice A out.length cp) out.length (out.flatMap strC) rfl HN9.out.own (some ⟨wr.heap.size,0,none⟩) 1 1 ([y.var].flatMap strC) rfl rfl HW9.out (str_one _) (by unfold maxLen;omega) (by omega) ?_;intro v1 w9 hown1 hg1 hnil1 hat1;obtain ⟨A9,c9,rfl,hn9,hf9⟩:=HN9.out.app (ys:=[y.var]) hown1 hg1 hat1;have HN10:=Lib.hid hn9;have HO10:=Lib.hid (ownsRow_fr HO9.out hf9 (fun g hg e=>rows_neN HO9.out HN9.out.own (by decide) hg e));clear hown1 hg1 hnil1 hat1 hn9 hf9)
        go_roundw
        case rel=>exact ⟨i+1,out ++ [y.var],A9,c9,by go_num,by simp,by omega,HON.out,HN10.out,HO10.out⟩
        case measure=>simp [intOf]<;>omega
    · obtain rfl:i=tl.length:=by omega
      have HOC:=Lib.hid (show out=([]:List ByteArray)++(varsT c.attr++varsT c.value)++((c.conds.take 0).flatMap (namesN n)) by rw [HOUT.out,List.take_length,HTL.out];simp [varsT])
      clear HOUT
      go_wp2_with fail
      go_loopw [3,6] (fun v s wr=>∃(i:Nat) (out:List ByteArray) (A:Option Addr) (cp:Nat),s = .int .i64 i∧v = .slice A out.length cp∧i≤c.conds.length∧out=([]:List ByteArray)++(varsT c.attr++varsT c.value)++((c.conds.take i).flatMap (namesN n))∧RN X c A1 a1 A2 a2 A3 a3 out A cp wr) (fun v s wr=>c.conds.length - (intOf s).toNat)
      case atStart=>exact ⟨0,out,A,cp,rfl,rfl,Nat.zero_le _,HOC.out,HNR.out⟩
      case round=>
       clear HOC HNR HOR
       obtain ⟨i,out,A,cp,rfl,rfl,hi,hout,hn⟩:=hrel
       have HNR:=Lib.hid hn
       have HOUT:=Lib.hid hout
       have q6:=(hn.blk.cell 6).trans rfl
       have qz:=hn.blk.lt
       clear hn hout
       by_cases hlt:i<c.conds.length
       · obtain ⟨m,hnm⟩ : ∃m,n=m+1:=by
          cases n with
          | zero=>have:=row_zero H3.out;rw [this] at hlt;simp at hlt
          | succ m=>exact ⟨m,rfl⟩
         subst hnm
         obtain ⟨y,hy⟩ : ∃y,y=c.conds[i]:=⟨_,rfl⟩
         have hcr:=H3.out.new_ HNR.out.bel
         obtain ⟨gt,ot,B1,b1_,B2,b2_,B3,b3_,hA,_,hgt,p0,p1,p2,p3,p4,p5,p6,r1,r2,r3⟩:=at_CondT hcr hlt
         subst hA
         rw [← hy] at p0 p1 p2 p3 p4 p5 p6 r1 r2 r3
         have htk:(c.conds.take (i+1)).flatMap (namesN (m+1))=(c.conds.take i).flatMap (namesN (m+1))++namesN (m+1) y:=by rw [← take_snoc hlt,List.flatMap_append,hy];simp
         have htot:(out++namesN (m+1) y).length≤(namesN (m+1+1) c).length:=by
          have e:namesN (m+1+1) c=out++namesN (m+1) y++(c.conds.drop (i+1)).flatMap (namesN (m+1)):=by
           rw [HOUT.out,List.append_assoc,List.append_assoc,← List.append_assoc ((c.conds.take i).flatMap _),← htk,← List.flatMap_append,List.take_append_drop,namesN,← HOS.out]
           simp
          rw [e];simp only [List.length_append];omega
         rw [List.length_append] at htot
         have hl9:=HLEN.out
         have hcall:=IH.out m rfl y B1 b1_ B2 b2_ B3 b3_ D wr (HS4.out y (by rw [hy];exact List.getElem_mem hlt)) (by omega) r1 r2 r3
         obtain ⟨ns,hns⟩ : ∃ns,ns=namesN (m+1) y:=⟨_,rfl⟩
         rw [← hns] at hcall htk htot
         have HCALL:=Lib.hid hcall
         have HTK:=Lib.hid htk
         have ho1:out.length≤100000:=by omega
         have ho2:ns.length≤100000:=by omega
         have j1:(0:Int)≤(i:Int):=by omega
         have j2:(i:Int)<(c.conds.length:Int):=by omega
         clear hy hcr r1 r2 r3 htk htot hcall hns hl9
         go_wp2_with fail
         refine HCALL.out.mono ?_
         rintro e w8 ⟨A8,c8,rfl,ho8,hA8,hb8⟩
         have HO8:=Lib.hid (show RowRd w8 1 strC A8 c8 ns from ownsRow_rd strC_len ho8)
         have HN8:=Lib.hid (HNR.out.new_ hb8)
         clear ho8 hA8 hb8 p0 p1 p2 p3 p4 p5 p6 q6 qz
         go_wp2_with (at_builtin;refine wpList_append_src w8 rfl (.tmp 48) (.tmp 54) 28 rfl 9 i0 _ 1 16 Try.underlying28 hi0 hz0 hz1 hz2 rfl (by decide) (.slice A out.length cp) out.length (out.flatMap strC) rfl HN8.out.own A8 ns.length c8 (ns.flatMap strC) rfl (flat_length strC_len _) (HO8.out.news strC_len (by decide)) (str_one _) (by unfold maxLen;omega) (by omega) ?_;intro v1 w9 hown1 hg1 hnil1 hat1;obtain ⟨A9,c9,rfl,hn9,hf9⟩:=HN8.out.app hown1 hg1 hat1;have HN10:=Lib.hid hn9;clear hown1 hg1 hnil1 hat1 hn9 hf9)
         go_roundw
         case rel=>exact ⟨i+1,out++ns,A9,c9,by go_num,by simp,by omega,by rw [HTK.out,HOUT.out];simp,HN10.out⟩
         case measure=>simp [intOf]<;>omega
       · obtain rfl:i=c.conds.length:=by omega
         have HEN:=Lib.hid (show namesN (n+1) c=out by rw [HOUT.out,List.take_length,namesN,← HOS.out];simp)
         go_wp2_with fail
         go_ret
         rw [HEN.out]
         exact ⟨A,cp,rfl,HNR.out.own,HNR.out.ain,HNR.out.bel⟩
 · have ia:(c.id.toList == [])=false:=by simp [hid]
   have ib:c.id.toList.isEmpty=false:=by simp [hid]
   have ic:decide (c.id.toList = [])=false:=by simp [hid]
   have HOS:=Lib.hid (show [c.id]=oneN c.id by rw [oneN_yes hid])
   have HOSL:=Lib.hid (show [c.id].length≤1 by simp)
   clear hid
   obtain ⟨Y9,hY9⟩ : ∃Y9,Y9=W1.alloc (.cells #[.string c.id] 9):=⟨_,rfl⟩
   have hb9:Below W1.heap.size W1 Y9:=by rw [hY9];exact (Below.refl _ _).alloc (Nat.le_refl _) _
   have HY9:=Lib.hid hY9
   have HN9:=Lib.hid (HN1.out.new_ hb9)
   have HW9:=Lib.hid (show 0<1→∃ad,(some (⟨W1.heap.size,0,none⟩:Addr))=some ad∧∀j u,([c.id].flatMap strC)[j]? = some u→Y9.cell? (ad.add j)=some u from fun _=>⟨_,rfl,by rw [hY9];exact World.news_of_block (heap_alloc_new _ _)⟩)
   clear hY9 hb9
   go_upto_region 4 with (at_builtin;rw [← HY9.out];refine wpList_append_src Y9 rfl (.tmp 10) (.tmp 13) 28 rfl 9 i0 _ 1 16 Try.underlying28 hi0 hz0 hz1 hz2 rfl (by decide) (.slice none 0 0) ([]:List ByteArray).length (([]:List ByteArray).flatMap strC) rfl HN9.out.own (some ⟨W1.heap.size,0,none⟩) 1 1 ([c.id].flatMap strC) rfl rfl HW9.out (str_one _) (by simp [maxLen]) (by simp) ?_;intro v1 wN hown1 hg1 hnil1 hat1;obtain ⟨Ao,co,rfl,hn9,_⟩:=HN9.out.app (ys:=[c.id]) hown1 hg1 hat1;have HNo:=Lib.hid (show RN X c A1 a1 A2 a2 A3 a3 [c.id] Ao co wN from hn9);clear hown1 hg1 hnil1 hat1 hn9)
   clear q2 qz
   have q3:=(HNo.out.blk.cell 3).trans rfl
   have q4:=(HNo.out.blk.cell 4).trans rfl
   have qz:=HNo.out.blk.lt
   refine wp_region_E (fun w9=>Below wN.heap.size wN w9) [(0,0),(1,1),(3,0),(4,1),(2,2),(5,2),(6,0)] (by kernel_rfl) (by kernel_rfl) (fun KK hKK=>?_)
   simp only [beside,List.filterMap_cons,List.filterMap_nil,List.getElem?_toArray,List.getElem?_cons_zero,List.getElem?_cons_succ,Option.map_some]
   repeat ((first | (refine wpX_w ?_ (Or.inl ⟨by rfl,fun w9=>?_⟩) ?_;rotate_left 1;go_simp;with_reducible rfl) | (refine wpX_l ?_ (((Below.refl _ _).drew)) (Or.inl ⟨by rfl,fun w9 hw9=>?_⟩) ?_;rotate_left 1;obtain ⟨hc9,hf9⟩:=bcell hw9;go_simp;with_reducible rfl) | refine wpX_w undef (Or.inr ⟨by rfl,rfl⟩) ?_ | refine wpX_l undef (((Below.refl _ _).drew)) (Or.inr ⟨by rfl,rfl⟩) ?_);go_frame)
   refine wpX_es (fun K9_ hK9_=>?_)
   refine step_append_src _ rfl _ _ 48 rfl 65 t0 _ 6 80 Try.underlying48 ht0 hy0 hyy1 hyy2 rfl (by omega) (.slice none 0 0) 0 [] rfl (owns_nilC _ _ _) A1 c.attr.length a1 (xs1.flatMap (fun v:V6=>v.1)) rfl (by rw [← HL1.out];exact flat_length v6_len xs1) (by rw [← HL1.out];exact ((HD1.out.new_ HNo.out.bel).new_ ((Below.refl _ _).drew)).news v6_len (by omega)) (v6_one _) (by have:=HL1.out;unfold maxLen;omega) (by have:=HL1.out;omega) ?_
   intro vb w3 hown1 hg1 hnil1 hat1
   rw [Nat.zero_add,List.nil_append] at hown1
   obtain ⟨Ad,cd,rfl,_⟩:=own_form2 hown1
   have HB3:=Lib.hid (show Below wN.heap.size wN w3 from ((Below.refl wN.heap.size wN).drew).trans ((Below.refl _ _).grown hg1 (Nat.le_refl _) (fun k hk=>by cases hk)))
   have HO3:=Lib.hid hown1
   have HA3:=Lib.hid (show AIn Ad (wN.heap.size≤·) from fun a ha=>by
    subst ha
    rcases hat1 with h | h
    · cases h
    · simp only [Value.ownBlock,Option.some.injEq] at h
      exact Nat.le_of_eq h.symm)
   clear hown1 hg1 hnil1 hat1
   refine hK9_ _ _ HB3.out ?_
   clear hK9_ K9_
   refine wpX_es (fun K9_ hK9_=>?_)
   refine step_append_src _ rfl _ _ 48 rfl 65 t0 _ 6 80 Try.underlying48 ht0 hy0 hyy1 hyy2 rfl (by omega) (.slice Ad c.attr.length cd) c.attr.length (xs1.flatMap (fun v:V6=>v.1)) rfl HO3.out A2 c.value.length a2 (xs2.flatMap (fun v:V6=>v.1)) rfl (by rw [← HL2.out];exact flat_length v6_len xs2) (by rw [← HL2.out];exact ((HD2.out.new_ HNo.out.bel).new_ HB3.out).news v6_len (by omega)) (v6_one _) (by have:=HL1.out;have:=HL2.out;unfold maxLen;omega) (by have:=HL1.out;have:=HL2.out;omega) ?_
   intro vb w4 hown1 hg1 hnil1 hat1
   rw [← List.flatMap_append] at hown1
   obtain ⟨Al,cl,rfl,_⟩:=own_form2 hown1
   have HB4:=Lib.hid (show Below wN.heap.size wN w4 from HB3.out.grown hg1 HB3.out.size (fun k hk=>by
    cases Ad with
    | none=>cases hk
    | some a=>simp only [Value.ownBlock,Option.some.injEq] at hk;rw [← hk];exact HA3.out a rfl))
   have HO4:=Lib.hid hown1
   clear hown1 hg1 hnil1 hat1 HO3 HA3 HB3
   obtain ⟨tl,htl⟩ : ∃tl,tl=c.attr++c.value:=⟨_,rfl⟩
   have htll:c.attr.length+c.value.length=tl.length:=by rw [htl,List.length_append]
   rw [htll] at HO4 ⊢
   have HTL:=Lib.hid htl
   clear htl htll
   refine hK9_ _ _ HB4.out ?_
   clear hK9_ K9_
   repeat ((first | (refine wpX_w ?_ (Or.inl ⟨by rfl,fun w9=>?_⟩) ?_;rotate_left 1;go_simp;with_reducible rfl) | (refine wpX_l ?_ (HB3.out) (Or.inl ⟨by rfl,fun w9 hw9=>?_⟩) ?_;rotate_left 1;obtain ⟨hc9,hf9⟩:=bcell hw9;go_simp;with_reducible rfl) | refine wpX_w undef (Or.inr ⟨by rfl,rfl⟩) ?_ | refine wpX_l undef (HB3.out) (Or.inr ⟨by rfl,rfl⟩) ?_);go_frame)
   refine wpX_nil ?_
   simp only [OnlyN_normal]
   refine hKK _ _ ?_
   clear hKK KK
   obtain ⟨xs,hxs⟩ : ∃xs,xs=xs1++xs2:=⟨_,rfl⟩
   rw [← hxs] at HO4 HRW
   rw [← HTL.out] at HRW
   have HN4:=Lib.hid (HNo.out.new_ HB4.out)
   have htc:tl.length≤2000:=by rw [HTL.out,List.length_append];have:=HL1.out;have:=HL2.out;omega
   have HXL:=Lib.hid (show xs.length=tl.length from HRW.out.len)
   clear q3 q4 qz HNo hxs
   go_wp2_with fail
   go_loopw [3,5] (fun v s wr=>∃(i:Nat) (out:List ByteArray) (A:Option Addr) (cp:Nat),s = .int .i64 i∧v = .slice A out.length cp∧i≤tl.length∧out = [c.id]++varsT (tl.take i)∧RN X c A1 a1 A2 a2 A3 a3 out A cp wr∧wr.ownsRow 0 65 6 (.slice Al tl.length cl) tl.length (xs.flatMap (fun v:V6=>v.1))) (fun v s wr=>tl.length - (intOf s).toNat)
   case atStart=>exact ⟨0,[c.id],Ao,co,rfl,rfl,Nat.zero_le _,by simp [varsT],HN4.out,HO4.out⟩
   case round=>
    obtain ⟨i,out,A,cp,rfl,rfl,hi,hout,hn,ho⟩:=hrel
    have HNR:=Lib.hid hn
    have HOR:=Lib.hid ho
    have HOUT:=Lib.hid hout
    clear hn ho hout HN4 HO4
    by_cases hlt:i<tl.length
    · obtain ⟨y,hy⟩ : ∃y,y=tl[i]:=⟨_,rfl⟩
      have hxi:i<xs.length:=by rw [HXL.out];exact hlt
      have hrd:RowRd wr 6 (fun v:V6=>v.1) Al cl xs:=by
       have h:=HOR.out
       rw [← HXL.out] at h
       exact ownsRow_rd v6_len h
      obtain ⟨g,off,hA0,hg,hcel⟩:=hrd.at_ hxi
      have q1:wr.cell? ⟨g,off+i*6+1,none⟩=some (.string y.var):=hcel 1 _ (by rw [(HRW.out.get hlt hxi).2,hy])
      subst hA0
      have HVT:=Lib.hid (show varsT (tl.take (i+1))=varsT (tl.take i)++oneN y.var by unfold varsT;rw [← take_snoc hlt,List.flatMap_append,hy];simp)
      have hol:out.length≤100000:=by
       have h1:=varsT_len (tl.take i)
       have h2:=HOSL.out
       rw [HOUT.out,List.length_append]
       have h3:(tl.take i).length≤tl.length:=Nat.le_trans (List.length_take_le _ _) hi
       omega
      have j1:(0:Int)≤(i:Int):=by omega
      have j2:(i:Int)<(tl.length:Int):=by omega
      clear hy hrd hcel
      by_cases hve:y.var.toList = []
      · have va:(y.var.toList == [])=true:=by simp [hve]
        have vb:y.var.toList.isEmpty=true:=by simp [hve]
        have vc:decide (y.var.toList = [])=true:=by simp [hve]
        have HON:=Lib.hid (show out = [c.id]++varsT (tl.take (i+1)) by rw [HVT.out,oneN_no hve,List.append_nil];exact HOUT.out)
        clear hve
        go_wp2_with fail
        go_roundw
        case rel=>exact ⟨i+1,out,A,cp,by go_num,rfl,by omega,HON.out,HNR.out,HOR.out⟩
        case measure=>simp [intOf]<;>omega
      · have va:(y.var.toList == [])=false:=by simp [hve]
        have vb:y.var.toList.isEmpty=false:=by simp [hve]
        have vc:decide (y.var.toList = [])=false:=by simp [hve]
        have HON:=Lib.hid (show out ++ [y.var] = [c.id]++varsT (tl.take (i+1)) by rw [HVT.out,oneN_yes hve,HOUT.out];simp)
        clear hve
        obtain ⟨Y9,hY9⟩ : ∃Y9,Y9=wr.alloc (.cells #[.string y.var] 9):=⟨_,rfl⟩
        have hb9:Below wr.heap.size wr Y9:=by rw [hY9];exact (Below.refl _ _).alloc (Nat.le_refl _) _
        have HY9:=Lib.hid hY9
        have HN9:=Lib.hid (HNR.out.new_ hb9)
        have HO9:=Lib.hid (ownsRow_new HOR.out hb9)
        have HW9:=Lib.hid (show 0<1→∃ad,(some (⟨wr.heap.size,0,none⟩:Addr))=some ad∧∀j u,([y.var].flatMap strC)[j]? = some u→Y9.cell? (ad.add j)=some u from fun _=>⟨_,rfl,by rw [hY9];exact World.news_of_block (heap_alloc_new _ _)⟩)
        clear hY9 hb9
        go_wp2_with (at_builtin;rw [← HY9.out];refine wpList_append_src Y9 rfl (.tmp 33) (.tmp 39) 28 rfl 9 i0 _ 1 16 Try.underlying28 hi0 hz0 hz1 hz2 rfl (by decide) (.slice A out.length cp) out.length (out.flatMap strC) rfl HN9.out.own (some ⟨wr.heap.size,0,none⟩) 1 1 ([y.var].flatMap strC) rfl rfl HW9.out (str_one _) (by unfold maxLen;omega) (by omega) ?_;intro v1 w9 hown1 hg1 hnil1 hat1;obtain ⟨A9,c9,rfl,hn9,hf9⟩:=HN9.out.app (ys:=[y.var]) hown1 hg1 hat1;have HN10:=Lib.hid hn9;have HO10:=Lib.hid (ownsRow_fr HO9.out hf9 (fun g hg e=>rows_neN HO9.out HN9.out.own (by decide) hg e));clear hown1 hg1 hnil1 hat1 hn9 hf9)
        go_roundw
        case rel=>exact ⟨i+1,out ++ [y.var],A9,c9,by go_num,by simp,by omega,HON.out,HN10.out,HO10.out⟩
        case measure=>simp [intOf]<;>omega
    · obtain rfl:i=tl.length:=by omega
      have HOC:=Lib.hid (show out = [c.id]++(varsT c.attr++varsT c.value)++((c.conds.take 0).flatMap (namesN n)) by rw [HOUT.out,List.take_length,HTL.out];simp [varsT])
      clear HOUT
      go_wp2_with fail
      go_loopw [3,6] (fun v s wr=>∃(i:Nat) (out:List ByteArray) (A:Option Addr) (cp:Nat),s = .int .i64 i∧v = .slice A out.length cp∧i≤c.conds.length∧out = [c.id]++(varsT c.attr++varsT c.value)++((c.conds.take i).flatMap (namesN n))∧RN X c A1 a1 A2 a2 A3 a3 out A cp wr) (fun v s wr=>c.conds.length - (intOf s).toNat)
      case atStart=>exact ⟨0,out,A,cp,rfl,rfl,Nat.zero_le _,HOC.out,HNR.out⟩
      case round=>
       clear HOC HNR HOR
       obtain ⟨i,out,A,cp,rfl,rfl,hi,hout,hn⟩:=hrel
       have HNR:=Lib.hid hn
       have HOUT:=Lib.hid hout
       have q6:=(hn.blk.cell 6).trans rfl
       have qz:=hn.blk.lt
       clear hn hout
       by_cases hlt:i<c.conds.length
       · obtain ⟨m,hnm⟩ : ∃m,n=m+1:=by
          cases n with
          | zero=>have:=row_zero H3.out;rw [this] at hlt;simp at hlt
          | succ m=>exact ⟨m,rfl⟩
         subst hnm
         obtain ⟨y,hy⟩ : ∃y,y=c.conds[i]:=⟨_,rfl⟩
         have hcr:=H3.out.new_ HNR.out.bel
         obtain ⟨gt,ot,B1,b1_,B2,b2_,B3,b3_,hA,_,hgt,p0,p1,p2,p3,p4,p5,p6,r1,r2,r3⟩:=at_CondT hcr hlt
         subst hA
         rw [← hy] at p0 p1 p2 p3 p4 p5 p6 r1 r2 r3
         have htk:(c.conds.take (i+1)).flatMap (namesN (m+1))=(c.conds.take i).flatMap (namesN (m+1))++namesN (m+1) y:=by rw [← take_snoc hlt,List.flatMap_append,hy];simp
         have htot:(out++namesN (m+1) y).length≤(namesN (m+1+1) c).length:=by
          have e:namesN (m+1+1) c=out++namesN (m+1) y++(c.conds.drop (i+1)).flatMap (namesN (m+1)):=by
           rw [HOUT.out,List.append_assoc,List.append_assoc,← List.append_assoc ((c.conds.take i).flatMap _),← htk,← List.flatMap_append,List.take_append_drop,namesN,← HOS.out]
           simp
          rw [e];simp only [List.length_append];omega
         rw [List.length_append] at htot
         have hl9:=HLEN.out
         have hcall:=IH.out m rfl y B1 b1_ B2 b2_ B3 b3_ D wr (HS4.out y (by rw [hy];exact List.getElem_mem hlt)) (by omega) r1 r2 r3
         obtain ⟨ns,hns⟩ : ∃ns,ns=namesN (m+1) y:=⟨_,rfl⟩
         rw [← hns] at hcall htk htot
         have HCALL:=Lib.hid hcall
         have HTK:=Lib.hid htk
         have ho1:out.length≤100000:=by omega
         have ho2:ns.length≤100000:=by omega
         have j1:(0:Int)≤(i:Int):=by omega
         have j2:(i:Int)<(c.conds.length:Int):=by omega
         clear hy hcr r1 r2 r3 htk htot hcall hns hl9
         go_wp2_with fail
         refine HCALL.out.mono ?_
         rintro e w8 ⟨A8,c8,rfl,ho8,hA8,hb8⟩
         have HO8:=Lib.hid (show RowRd w8 1 strC A8 c8 ns from ownsRow_rd strC_len ho8)
         have HN8:=Lib.hid (HNR.out.new_ hb8)
         clear ho8 hA8 hb8 p0 p1 p2 p3 p4 p5 p6 q6 qz
         go_wp2_with (at_builtin;refine wpList_append_src w8 rfl (.tmp 48) (.tmp 54) 28 rfl 9 i0 _ 1 16 Try.underlying28 hi0 hz0 hz1 hz2 rfl (by decide) (.slice A out.length cp) out.length (out.flatMap strC) rfl HN8.out.own A8 ns.length c8 (ns.flatMap strC) rfl (flat_length strC_len _) (HO8.out.news strC_len (by decide)) (str_one _) (by unfold maxLen;omega) (by omega) ?_;intro v1 w9 hown1 hg1 hnil1 hat1;obtain ⟨A9,c9,rfl,hn9,hf9⟩:=HN8.out.app hown1 hg1 hat1;have HN10:=Lib.hid hn9;clear hown1 hg1 hnil1 hat1 hn9 hf9)
         go_roundw
         case rel=>exact ⟨i+1,out++ns,A9,c9,by go_num,by simp,by omega,by rw [HTK.out,HOUT.out];simp,HN10.out⟩
         case measure=>simp [intOf]<;>omega
       · obtain rfl:i=c.conds.length:=by omega
         have HEN:=Lib.hid (show namesN (n+1) c=out by rw [HOUT.out,List.take_length,namesN,← HOS.out];simp)
         go_wp2_with fail
         go_ret
         rw [HEN.out]
         exact ⟨A,cp,rfl,HNR.out.own,HNR.out.ain,HNR.out.bel⟩
end Go.Proofs.Ytffemfglngikbaa
