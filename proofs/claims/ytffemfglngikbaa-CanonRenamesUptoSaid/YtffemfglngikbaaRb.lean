/-
  Texts put together: Plain, SetLeaf, RowSym, Types, Own, OwnC, BkInfo, OwnD, NamesP, KitSyms, BkSame1, EagerT, BkCopy1, BkTests, BkCopyP, BkSame2, BkSame3.
-/
import Derived.WalkKit
import Derived.Lib.Strings
import Derived.Test.YtffemfglngikbaaRows
import Derived.Test.YtffemfglngikbaaRa
import Derived.Deep.Cut
import Derived.Maps.RangeWalk
namespace Go.Proofs.Ytffemfglngikbaa
structure TC {α:Type} (cmp:α→α→Int):Prop where
 refl : ∀x,cmp x x=0
 symm : ∀x y,cmp x y<0↔0<cmp y x
 trans : ∀x y z,cmp x y≤0→cmp y z≤0→cmp x z≤0
section
variable {α:Type} {cmp:α→α→Int}
theorem TC.eq_symm (h:TC cmp) {x y:α} (e:cmp x y=0):cmp y x=0:=by
 have a:=h.symm x y
 have b:=h.symm y x
 omega
theorem TC.lt_of_lt_of_le (h:TC cmp) {x y z:α} (a:cmp x y<0) (b:cmp y z≤0):cmp x z<0:=by
 have c:=h.symm x z
 have d:=h.symm z x
 have e:=h.symm x y
 have g:=h.symm y x
 by_cases hz:cmp x z<0
 · exact hz
 · have t:=h.trans y z x b (by omega)
   omega
theorem TC.lt_of_le_of_lt (h:TC cmp) {x y z:α} (a:cmp x y≤0) (b:cmp y z<0):cmp x z<0:=by
 have c:=h.symm x z
 have d:=h.symm z x
 have e:=h.symm y z
 have g:=h.symm z y
 by_cases hz:cmp x z<0
 · exact hz
 · have t:=h.trans z x y (by omega) a
   omega
theorem TC.lt_trans (h:TC cmp) {x y z:α} (a:cmp x y<0) (b:cmp y z<0):cmp x z<0:=h.lt_of_lt_of_le a (by omega)
def Srt (cmp:α→α→Int) (l:List α):Prop:=l.Pairwise (fun a b=>cmp a b<0)
def has (cmp:α→α→Int) (l:List α) (x:α):Bool:=l.any (fun y=>cmp y x == 0)
def below (cmp:α→α→Int) (l:List α) (x:α):List α:=l.filter (fun y=>decide (cmp y x<0))
def above (cmp:α→α→Int) (l:List α) (x:α):List α:=l.filter (fun y=>decide (0<cmp y x))
def rank (cmp:α→α→Int) (l:List α) (x:α):Nat:=(below cmp l x).length
def put (cmp:α→α→Int) (l:List α) (x:α):List α:=if has cmp l x then l else below cmp l x++x :: above cmp l x
def drop (cmp:α→α→Int) (l:List α) (x:α):List α:=l.filter (fun y=>!(cmp y x == 0))
def puts (cmp:α→α→Int) (l xs:List α):List α:=xs.foldl (put cmp) l
theorem has_iff {l:List α} {x:α}:has cmp l x=true↔∃y∈l,cmp y x=0:=by simp [has]
theorem has_false {l:List α} {x:α}:has cmp l x=false↔∀y∈l,cmp y x≠0:=by simp [has]
theorem at_none {l:List α} {x:α} {k:Nat} (h1 : ∀i,(h:i<l.length)→i<k→cmp l[i] x<0) (h2 : ∀i,(h:i<l.length)→k≤i→0<cmp l[i] x) :
 below cmp l x=l.take k∧above cmp l x=l.drop k∧has cmp l x=false:=by
 have e1 : ∀y∈l.take k,cmp y x<0:=by
  intro y hy
  obtain ⟨i,hi,rfl⟩:=List.getElem_of_mem hy
  rw [List.getElem_take]
  simp at hi
  exact h1 i (by omega) (by omega)
 have e2 : ∀y∈l.drop k,0<cmp y x:=by
  intro y hy
  obtain ⟨i,hi,rfl⟩:=List.getElem_of_mem hy
  rw [List.getElem_drop]
  simp at hi
  exact h2 (k+i) (by omega) (by omega)
 refine ⟨?_,?_,?_⟩
 · unfold below
   conv=>lhs;rw [← List.take_append_drop k l]
   rw [List.filter_append,List.filter_eq_self.2 (fun y hy=>by simpa using e1 y hy),List.filter_eq_nil_iff.2 (fun y hy=>by have:=e2 y hy;simp;omega),List.append_nil]
 · unfold above
   conv=>lhs;rw [← List.take_append_drop k l]
   rw [List.filter_append,(List.filter_eq_self (l:=l.drop k)).2 (fun y hy=>by simpa using e2 y hy),List.filter_eq_nil_iff.2 (fun y hy=>by have:=e1 y hy;simp;omega),List.nil_append]
 · rw [has_false]
   intro y hy
   rw [← List.take_append_drop k l] at hy
   rcases List.mem_append.1 hy with hy | hy
   · have:=e1 y hy;omega
   · have:=e2 y hy;omega
theorem Srt.lt {l:List α} (h:Srt cmp l) {i j:Nat} (hij:i<j) (hj:j<l.length):cmp (l[i]'(by omega)) l[j]<0:=
 List.pairwise_iff_getElem.1 h i j (by omega) hj hij
theorem at_some (t:TC cmp) {l:List α} (hs:Srt cmp l) {x:α} {k:Nat} (hk:k<l.length) (e:cmp l[k] x=0) :
 below cmp l x=l.take k∧above cmp l x=l.drop (k+1)∧has cmp l x=true∧drop cmp l x=l.take k++l.drop (k+1):=by
 have e1 : ∀y∈l.take k,cmp y x<0:=by
  intro y hy
  obtain ⟨i,hi,rfl⟩:=List.getElem_of_mem hy
  rw [List.getElem_take]
  simp at hi
  exact t.lt_of_lt_of_le (hs.lt (by omega) hk) (by omega)
 have e2 : ∀y∈l.drop (k+1),0<cmp y x:=by
  intro y hy
  obtain ⟨i,hi,rfl⟩:=List.getElem_of_mem hy
  rw [List.getElem_drop]
  simp at hi
  have h1:cmp x (l[k+1+i]'(by omega))<0:=t.lt_of_le_of_lt (y:=l[k]) (by have:=t.eq_symm e;omega) (hs.lt (by omega) (by omega))
  exact (t.symm _ _).1 h1
 have hl:l=l.take k++l[k] :: l.drop (k+1):=by
  rw [List.getElem_cons_drop,List.take_append_drop]
 refine ⟨?_,?_,?_,?_⟩
 · unfold below
   conv=>lhs;rw [hl]
   rw [List.filter_append,List.filter_cons,List.filter_eq_self.2 (fun y hy=>by simpa using e1 y hy),List.filter_eq_nil_iff.2 (fun y hy=>by have:=e2 y hy;simp;omega)]
   simp [e]
 · unfold above
   conv=>lhs;rw [hl]
   rw [List.filter_append,List.filter_cons,List.filter_eq_nil_iff.2 (fun y hy=>by have:=e1 y hy;simp;omega),(List.filter_eq_self (l:=l.drop (k+1))).2 (fun y hy=>by simpa using e2 y hy)]
   simp [e]
 · rw [has_iff];exact ⟨_,List.getElem_mem hk,e⟩
 · unfold drop
   conv=>lhs;rw [hl]
   rw [List.filter_append,List.filter_cons,List.filter_eq_self.2 (fun y hy=>by have:=e1 y hy;simp;omega),(List.filter_eq_self (l:=l.drop (k+1))).2 (fun y hy=>by have:=e2 y hy;simp;omega)]
   simp [e]
theorem rank_none {l:List α} {x:α} {k:Nat} (hk:k≤l.length) (h1 : ∀i,(h:i<l.length)→i<k→cmp l[i] x<0) (h2 : ∀i,(h:i<l.length)→k≤i→0<cmp l[i] x):rank cmp l x=k:=by
 unfold rank;rw [(at_none h1 h2).1];simp;omega
theorem rank_some (t:TC cmp) {l:List α} (hs:Srt cmp l) {x:α} {k:Nat} (hk:k<l.length) (e:cmp l[k] x=0):rank cmp l x=k:=by
 unfold rank;rw [(at_some t hs hk e).1];simp;omega
theorem place (t:TC cmp) {l:List α} (hs:Srt cmp l) (x:α) :
 (has cmp l x=false∧l=below cmp l x++above cmp l x)∨(∃y,has cmp l x=true∧cmp y x=0∧l=below cmp l x++y :: above cmp l x):=by
 induction l with
 | nil=>exact .inl ⟨rfl,rfl⟩
 | cons a r ih=>
   have hr:Srt cmp r:=(List.pairwise_cons.1 hs).2
   have ha : ∀y∈r,cmp a y<0:=(List.pairwise_cons.1 hs).1
   by_cases h1:cmp a x<0
   · rcases ih hr with ⟨h2,h3⟩ | ⟨y,h2,h3,h4⟩
     · left
       refine ⟨?_,?_⟩
       · simp only [has,List.any_cons,Bool.or_eq_false_iff];exact ⟨by simp;omega,h2⟩
       · have e1:below cmp (a :: r) x=a :: below cmp r x:=by simp [below,h1]
         have e2:above cmp (a :: r) x=above cmp r x:=by unfold above;rw [List.filter_cons,if_neg (by simp;omega)]
         rw [e1,e2,List.cons_append,← h3]
     · right
       refine ⟨y,?_,h3,?_⟩
       · simp only [has,List.any_cons,Bool.or_eq_true];exact .inr h2
       · have e1:below cmp (a :: r) x=a :: below cmp r x:=by simp [below,h1]
         have e2:above cmp (a :: r) x=above cmp r x:=by unfold above;rw [List.filter_cons,if_neg (by simp;omega)]
         rw [e1,e2,List.cons_append,← h4]
   · have hall : ∀y∈r,0<cmp y x:=fun y hy=>(t.symm x y).1 (t.lt_of_le_of_lt (y:=a) (by have:=t.symm a x;have:=t.symm x a;omega) (ha y hy))
     have b0:below cmp r x = []:=List.filter_eq_nil_iff.2 (fun y hy=>by have:=hall y hy;simp;omega)
     have a0:above cmp r x=r:=List.filter_eq_self.2 (fun y hy=>by simpa using hall y hy)
     have n0:has cmp r x=false:=has_false.2 (fun y hy=>by have:=hall y hy;omega)
     have e1:below cmp (a :: r) x = []:=by unfold below;rw [List.filter_cons,if_neg (by simpa using h1)];exact b0
     by_cases h2:cmp a x=0
     · right
       refine ⟨a,has_iff.2 ⟨a,by simp,h2⟩,h2,?_⟩
       have e2:above cmp (a :: r) x=r:=by unfold above;rw [List.filter_cons,if_neg (by simp;omega)];exact a0
       rw [e1,e2];rfl
     · left
       refine ⟨?_,?_⟩
       · simp only [has,List.any_cons,Bool.or_eq_false_iff];exact ⟨by simpa using h2,n0⟩
       · have e2:above cmp (a :: r) x=a :: r:=by unfold above;rw [List.filter_cons,if_pos (by simp;omega)];exact congrArg _ a0
         rw [e1,e2];rfl
theorem mem_below {l:List α} {x y:α}:y∈below cmp l x↔y∈l∧cmp y x<0:=by simp [below]
theorem mem_above {l:List α} {x y:α}:y∈above cmp l x↔y∈l∧0<cmp y x:=by simp [above]
theorem Srt.put (t:TC cmp) {l:List α} (hs:Srt cmp l) (x:α):Srt cmp (put cmp l x):=by
 unfold Ytffemfglngikbaa.put
 split
 · exact hs
 · refine List.pairwise_append.2 ⟨hs.sublist List.filter_sublist,List.pairwise_cons.2 ⟨fun y hy=>?_,hs.sublist List.filter_sublist⟩,fun y hy z hz=>?_⟩
   · exact (t.symm x y).2 (mem_above.1 hy).2
   · rcases List.mem_cons.1 hz with rfl | hz
     · exact (mem_below.1 hy).2
     · exact t.lt_trans (mem_below.1 hy).2 ((t.symm x z).2 (mem_above.1 hz).2)
theorem Srt.drop {l:List α} (hs:Srt cmp l) (x:α):Srt cmp (drop cmp l x):=hs.sublist List.filter_sublist
theorem Srt.nil:Srt cmp ([]:List α):=List.Pairwise.nil
theorem Srt.puts (t:TC cmp) : ∀(xs:List α) {l:List α},Srt cmp l→Srt cmp (puts cmp l xs)
 | [],_,h=>h
 | x :: xs,_,h=>Srt.puts t xs (h.put t x)
theorem puts_snoc (l xs:List α) (x:α):puts cmp l (xs ++ [x])=put cmp (puts cmp l xs) x:=by simp [puts]
theorem length_below_above {l:List α} {x:α} (t:TC cmp) (hs:Srt cmp l) (h:has cmp l x=false):(below cmp l x).length+(above cmp l x).length=l.length:=by
 rcases place t hs x with ⟨_,e⟩ | ⟨y,h',_⟩
 · conv=>rhs;rw [e]
   simp
 · rw [h] at h';cases h'
theorem length_put_le (t:TC cmp) {l:List α} (hs:Srt cmp l) (x:α):(put cmp l x).length≤l.length+1:=by
 unfold Ytffemfglngikbaa.put
 by_cases h:has cmp l x=true
 · rw [if_pos h];omega
 · rw [if_neg h]
   have:=length_below_above t hs (x:=x) (by simpa using h)
   simp;omega
theorem length_puts_le (t:TC cmp) : ∀(xs:List α) {l:List α},Srt cmp l→(puts cmp l xs).length≤l.length+xs.length
 | [],_,_=>by simp [puts]
 | x :: xs,l,h=>by
   have h1:=length_puts_le t xs (h.put t x)
   have h2:=length_put_le t h x
   have e:puts cmp l (x :: xs)=puts cmp (put cmp l x) xs:=rfl
   rw [e];simp;omega
theorem rank_le (l:List α) (x:α):rank cmp l x≤l.length:=List.length_filter_le _ _
theorem take_of_app {l B A:List α} (e:l=B++A):l.take B.length=B:=by subst e;simp
theorem drop_of_app {l B A:List α} (e:l=B++A):l.drop B.length=A:=by subst e;simp
theorem get_of_app {l B A:List α} {y:α} (e:l=B++y :: A):l[B.length]? = some y:=by subst e;simp
theorem put_eq (t:TC cmp) {l:List α} (hs:Srt cmp l) {x:α} (h:has cmp l x=false):put cmp l x=l.take (rank cmp l x)++x :: l.drop (rank cmp l x):=by
 rcases place t hs x with ⟨_,e⟩ | ⟨y,h',_⟩
 · have e1:l.take (rank cmp l x)=below cmp l x:=take_of_app e
   have e2:l.drop (rank cmp l x)=above cmp l x:=drop_of_app e
   rw [e1,e2]
   unfold Ytffemfglngikbaa.put
   rw [if_neg (by rw [h];simp)]
 · rw [h] at h';cases h'
theorem put_has {l:List α} {x:α} (h:has cmp l x=true):put cmp l x=l:=by unfold Ytffemfglngikbaa.put;rw [if_pos h]
theorem length_put (t:TC cmp) {l:List α} (hs:Srt cmp l) {x:α} (h:has cmp l x=false):(put cmp l x).length=l.length+1:=by
 rw [put_eq t hs h]
 have:=rank_le (cmp:=cmp) l x
 simp;omega
theorem drop_eq (t:TC cmp) {l:List α} (hs:Srt cmp l) {x:α} (h:has cmp l x=true):rank cmp l x<l.length∧drop cmp l x=l.take (rank cmp l x)++l.drop (rank cmp l x+1)∧∃hk:rank cmp l x<l.length,cmp l[rank cmp l x] x=0:=by
 rcases place t hs x with ⟨h',_⟩ | ⟨y,_,ey,e⟩
 · rw [h] at h';cases h'
 · have hk:rank cmp l x<l.length:=by
    have h2:l[rank cmp l x]? = some y:=get_of_app e
    exact (List.getElem?_eq_some_iff.1 h2).1
   have hy:l[rank cmp l x]=y:=by
    have h1:l[rank cmp l x]? = some y:=get_of_app e
    rw [List.getElem?_eq_getElem hk] at h1
    exact Option.some.inj h1
   have e0:cmp l[rank cmp l x] x=0:=by rw [hy];exact ey
   exact ⟨hk,(at_some t hs hk e0).2.2.2,hk,e0⟩
def shiftAt (l:List α) (x:α) (i:Nat):List α:=l.take i++(l ++ [x]).getD i x :: l.drop i
theorem shiftAt_length (l:List α) (x:α) {i:Nat} (h:i≤l.length):(shiftAt l x i).length=l.length+1:=by simp [shiftAt];omega
theorem shiftAt_start (l:List α) (x:α):shiftAt l x l.length=l ++ [x]:=by simp [shiftAt]
theorem shiftAt_read (l:List α) (x:α) {j:Nat} (h:j<l.length) (h':j<(shiftAt l x (j+1)).length):(shiftAt l x (j+1))[j]=l[j]:=by
 apply Option.some.inj
 rw [← List.getElem?_eq_getElem]
 unfold shiftAt
 rw [List.getElem?_append_left (by simp;omega)]
 simp [h]
theorem shiftAt_step (l:List α) (x:α) {j:Nat} (h:j<l.length):(shiftAt l x (j+1)).set (j+1) l[j]=shiftAt l x j:=by
 unfold shiftAt
 rw [List.set_append_right _ _ (by simp;omega)]
 have e:(j+1 - (l.take (j+1)).length)=0:=by simp;omega
 rw [e,List.set_cons_zero,List.take_succ_eq_append_getElem h,List.append_assoc]
 have e2:(l ++ [x]).getD j x=l[j]:=by rw [List.getD_eq_getElem?_getD,List.getElem?_append_left h,List.getElem?_eq_getElem h];rfl
 rw [e2,← List.getElem_cons_drop h]
 rfl
theorem shiftAt_end (l:List α) (x:α) {k:Nat} (h:k≤l.length):(shiftAt l x k).set k x=l.take k++x :: l.drop k:=by
 unfold shiftAt
 rw [List.set_append_right _ _ (by simp;omega)]
 have e:(k - (l.take k).length)=0:=by simp;omega
 rw [e,List.set_cons_zero]
end
theorem bytesLess_irrefl : ∀x:List UInt8,Op.bytesLess x x=false
 | []=>rfl
 | a :: x=>by simp [Op.bytesLess,bytesLess_irrefl x]
theorem bytesLess_trans : ∀{x y z:List UInt8},Op.bytesLess x y=true→Op.bytesLess y z=true→Op.bytesLess x z=true
 | _,[],_,h,_=>by simp [Op.bytesLess] at h
 | _,_ :: _,[],_,h=>by simp [Op.bytesLess] at h
 | [],_ :: _,_ :: _,_,_=>by simp [Op.bytesLess]
 | a :: x,b :: y,c :: z,h1,h2=>by
   simp only [Op.bytesLess,Bool.or_eq_true,Bool.and_eq_true,decide_eq_true_eq,beq_iff_eq] at h1 h2 ⊢
   rcases h1 with h1 | ⟨rfl,h1⟩
   · rcases h2 with h2 | ⟨rfl,h2⟩
     · exact .inl (UInt8.lt_trans h1 h2)
     · exact .inl h1
   · rcases h2 with h2 | ⟨rfl,h2⟩
     · exact .inl h2
     · exact .inr ⟨rfl,bytesLess_trans h1 h2⟩
theorem bytesLess_total : ∀(x y:List UInt8),Op.bytesLess x y=false→Op.bytesLess y x=false→x=y
 | [],[],_,_=>rfl
 | [],_ :: _,h,_=>by simp [Op.bytesLess] at h
 | _ :: _,[],_,h=>by simp [Op.bytesLess] at h
 | a :: x,b :: y,h1,h2=>by
   simp only [Op.bytesLess,Bool.or_eq_false_iff,decide_eq_false_iff_not,Bool.and_eq_false_iff,beq_eq_false_iff_ne] at h1 h2
   obtain ⟨h1,h3⟩:=h1
   obtain ⟨h2,h4⟩:=h2
   have e:a=b:=by
    apply UInt8.toNat_inj.1
    simp only [UInt8.lt_iff_toNat_lt] at h1 h2
    omega
   subst e
   rw [bytesLess_total x y (h3.resolve_left (fun h=>h rfl)) (h4.resolve_left (fun h=>h rfl))]
theorem bytesLess_asymm {x y:List UInt8} (h:Op.bytesLess x y=true):Op.bytesLess y x=false:=by
 cases e:Op.bytesLess y x
 · rfl
 · have:=bytesLess_trans h e;rw [bytesLess_irrefl] at this;cases this
def cmpStr (a b:ByteArray):Int:=if Op.bytesLess a.toList b.toList=true then -1 else if a.toList=b.toList then 0 else 1
theorem tc_str:TC cmpStr:=by
 have key : ∀a b:ByteArray,(cmpStr a b = -1∧Op.bytesLess a.toList b.toList=true∧Op.bytesLess b.toList a.toList=false∧a.toList≠b.toList)∨
  (cmpStr a b=0∧Op.bytesLess a.toList b.toList=false∧Op.bytesLess b.toList a.toList=false∧a.toList=b.toList)∨
  (cmpStr a b=1∧Op.bytesLess a.toList b.toList=false∧Op.bytesLess b.toList a.toList=true∧a.toList≠b.toList):=by
  intro a b
  unfold cmpStr
  cases h1:Op.bytesLess a.toList b.toList
  · cases h2:Op.bytesLess b.toList a.toList
    · have e:=bytesLess_total _ _ h1 h2
      simp [e]
    · have hne:a.toList≠b.toList:=fun e=>by rw [e,bytesLess_irrefl] at h2;cases h2
      simp [hne]
  · have h2:=bytesLess_asymm h1
    have hne:a.toList≠b.toList:=fun e=>by rw [e,bytesLess_irrefl] at h1;cases h1
    simp [h2,hne]
 constructor
 · intro x;simp [cmpStr,bytesLess_irrefl]
 · intro x y
   rcases key x y with ⟨e,a,b,c⟩ | ⟨e,a,b,c⟩ | ⟨e,a,b,c⟩<;>rcases key y x with ⟨e',a',b',c'⟩ | ⟨e',a',b',c'⟩ | ⟨e',a',b',c'⟩<;>rw [e,e']<;>simp_all
 · intro x y z h1 h2
   rcases key x y with ⟨e,a,b,c⟩ | ⟨e,a,b,c⟩ | ⟨e,a,b,c⟩<;>rcases key y z with ⟨e',a',b',c'⟩ | ⟨e',a',b',c'⟩ | ⟨e',a',b',c'⟩<;>rw [e] at h1<;>rw [e'] at h2<;>(try omega)
   · have:=bytesLess_trans a a';unfold cmpStr;rw [if_pos this];omega
   · rw [c'] at a;unfold cmpStr;rw [if_pos a];omega
   · rw [← c] at a';unfold cmpStr;rw [if_pos a'];omega
   · unfold cmpStr;rw [c,c',if_neg (by rw [bytesLess_irrefl];simp),if_pos rfl];omega
theorem toList_inj {a b:ByteArray} (h:a.toList=b.toList):a=b:=by
 have e : ∀x:ByteArray,x.toList=x.data.toList:=Lib.toList_data
 rw [e,e] at h
 cases a;cases b
 simp only [ByteArray.mk.injEq]
 exact Array.toList_inj.1 h
theorem cmpStr_eq {a b:ByteArray}:cmpStr a b=0↔a=b:=by
 constructor
 · intro h
   unfold cmpStr at h
   split at h
   · omega
   · split at h
     · exact toList_inj ‹_›
     · omega
 · rintro rfl;simp [cmpStr,bytesLess_irrefl]
structure Sym where
 kind:Int
 text:ByteArray
 n:Int
theorem Sym.ext' {a b:Sym} (h1:a.kind=b.kind) (h2:a.text=b.text) (h3:a.n=b.n):a=b:=by cases a;cases b;simp_all
instance:DecidableEq Sym:=fun a b=>decidable_of_iff (a.kind=b.kind∧a.text=b.text∧a.n=b.n) ⟨fun ⟨h1,h2,h3⟩=>Sym.ext' h1 h2 h3,fun h=>by subst h;exact ⟨rfl,rfl,rfl⟩⟩
instance:Inhabited Sym:=⟨⟨0,⟨#[]⟩,0⟩⟩
end Go.Proofs.Ytffemfglngikbaa
namespace Go.Proofs.Ytffemfglngikbaa
open Go.RowKit
def Sym.cells (s:Sym):List Value:=[.int .i64 s.kind,.string s.text,.int .i64 s.n]
theorem Sym.cells_length (s:Sym):s.cells.length=3:=rfl
end Go.Proofs.Ytffemfglngikbaa
namespace Go.Proofs.Ytffemfglngikbaa
open Go.RowKit Go.ChangeShapes Go.WideShapes Go.Deep
theorem reads_Sym:Reads Try.prog 52 3 Sym.cells:=
 ⟨by kernel_rfl,fun H enc w base spare held n cs x h=>by
  obtain ⟨y0,y1,y2,n',_,hl,h0,h1,h2⟩:=trod_struct3 Try.underlying52 h
  have hl3:cs.length=3:=hl.trans (by kernel_rfl)
  have c3:Try.prog.cellsOf 3=1:=by kernel_rfl
  have c9:Try.prog.cellsOf 9=1:=by kernel_rfl
  simp only [c3,c9] at h0 h1 h2
  match cs,hl3 with
  | [v0,v1,v2],_=>
    simp at h0 h1 h2
    obtain ⟨a,e0,_⟩:=DataW.trod_int Try.underlying3 h0
    obtain ⟨b,e1,_⟩:=DataW.trod_string Try.underlying9 h1
    obtain ⟨c,e2,_⟩:=DataW.trod_int Try.underlying3 h2
    simp at e0 e1 e2
    subst e0;subst e1;subst e2
    exact ⟨⟨a,b,c⟩,rfl⟩⟩
end Go.Proofs.Ytffemfglngikbaa
namespace Go.Proofs.Ytffemfglngikbaa
open Go.RowKit Go.ChangeShapes Go.WideShapes Go.Deep
def repStr:RepT ByteArray:=RepT.flat 1 (fun s:ByteArray=>[Value.string s]) (fun _=>rfl)
def repSym:RepT Sym:=RepT.flat 3 Sym.cells Sym.cells_length
theorem opens_Sym:Opens Try.prog 52 repSym:=opens_of_reads Sym.cells_length reads_Sym
theorem at_Sym {D:Nat→Prop} {w:World} {A:Option Addr} {c k:Nat} {l:List Sym} (h:RowR repSym D w A c l) (hk:k<l.length) : ∃g off,A=some ⟨g,off,none⟩∧D g∧g<w.heap.size∧w.cell? ⟨g,off+k*3,none⟩=some (.int .i64 l[k].kind)∧w.cell? ⟨g,off+k*3+1,none⟩=some (.string l[k].text)∧w.cell? ⟨g,off+k*3+2,none⟩=some (.int .i64 l[k].n):=by
 obtain ⟨g,off,cs,hA,hD,hg,hr,hc⟩:=h.at_ hk
 have hr2:cs=Sym.cells l[k]:=hr
 subst hr2
 refine ⟨g,off,hA,hD,hg,by simpa [repSym,RepT.flat] using hc 0 _ rfl,by simpa [repSym,RepT.flat] using hc 1 _ rfl,by simpa [repSym,RepT.flat] using hc 2 _ rfl⟩
structure TestT where
 rel:Int
 var:ByteArray
 sym:Sym
 list:List Sym
def repTestT:RepT TestT:=
 { size:=6,rep:=fun D w x cs=>∃A1 c1,cs = [.int .i64 x.rel,.string x.var,.int .i64 x.sym.kind,.string x.sym.text,.int .i64 x.sym.n,.slice A1 x.list.length c1]∧RowR repSym D w A1 c1 x.list,
   len:=by rintro _ _ _ _ ⟨_,_,rfl,_⟩;rfl,
   keep:=by
    rintro _ _ _ _ _ _ hs hk ⟨A1,c1,h0,h1⟩
    exact ⟨A1,c1,h0,h1.keep hs hk⟩ }
theorem at_TestT {D:Nat→Prop} {w:World} {A:Option Addr} {c k:Nat} {l:List TestT} (h:RowR repTestT D w A c l) (hk:k<l.length) : ∃g off A1 c1,A=some ⟨g,off,none⟩∧D g∧g<w.heap.size∧w.cell? ⟨g,off+k*6,none⟩=some (.int .i64 l[k].rel)∧w.cell? ⟨g,off+k*6+1,none⟩=some (.string l[k].var)∧w.cell? ⟨g,off+k*6+2,none⟩=some (.int .i64 l[k].sym.kind)∧w.cell? ⟨g,off+k*6+3,none⟩=some (.string l[k].sym.text)∧w.cell? ⟨g,off+k*6+4,none⟩=some (.int .i64 l[k].sym.n)∧w.cell? ⟨g,off+k*6+5,none⟩=some (.slice A1 l[k].list.length c1)∧RowR repSym D w A1 c1 l[k].list:=by
 obtain ⟨g,off,cs,hA,hD,hg,⟨A1,c1,rfl,hrs⟩,hc⟩:=h.at_ hk
 exact ⟨g,off,A1,c1,hA,hD,hg,by simpa [repTestT] using hc 0 _ rfl,by simpa [repTestT] using hc 1 _ rfl,by simpa [repTestT] using hc 2 _ rfl,by simpa [repTestT] using hc 3 _ rfl,by simpa [repTestT] using hc 4 _ rfl,by simpa [repTestT] using hc 5 _ rfl,hrs⟩
theorem opens_TestT:Opens Try.prog 65 repTestT:=
 ⟨by kernel_rfl,fun H enc w base spare held n cs x h=>by
  have hl2:cs.length=6:=(trod_len Try.underlying65 h).trans (by kernel_rfl)
  obtain ⟨m0,y0,h0⟩:=trod_field Try.underlying65 h 0 rfl 3 0 1 rfl rfl (by kernel_rfl)
  obtain ⟨m1,y1,h1⟩:=trod_field Try.underlying65 h 1 rfl 9 1 1 rfl rfl (by kernel_rfl)
  obtain ⟨m2,y2,h2⟩:=trod_field Try.underlying65 h 2 rfl 52 2 3 rfl rfl (by kernel_rfl)
  obtain ⟨m3,y3,h3⟩:=trod_field Try.underlying65 h 3 rfl 63 5 1 rfl rfl (by kernel_rfl)
  match cs,hl2 with
  | [v0,v1,v2,v3,v4,v5],_=>
    simp at h0 h1 h2 h3
    obtain ⟨a0,e0,_⟩:=DataW.trod_int Try.underlying3 h0
    simp at e0
    obtain ⟨a1,e1,_⟩:=DataW.trod_string Try.underlying9 h1
    simp at e1
    obtain ⟨a2,e2⟩:=opens_Sym.2 H enc w base spare held _ _ _ h2
    have e2:_=Sym.cells a2:=e2
    simp [Sym.cells] at e2
    obtain ⟨a3,A3,c3,e3,r3⟩:=(opens_slice Try.underlying63 (by kernel_rfl) (by decide) opens_Sym).2 H enc w base spare held _ _ _ h3
    simp at e3
    subst e0
    subst e1
    obtain ⟨rfl,rfl,rfl⟩:=e2
    subst e3
    exact ⟨⟨a0,a1,a2,a3⟩,A3,c3,rfl,r3⟩⟩
inductive CondT where
 | mk (kind:Int) (goal:Bool) (id:ByteArray) (attr:List TestT) (value:List TestT) (acc:Bool) (conds:List CondT)
def CondT.kind:CondT→Int
 | .mk x _ _ _ _ _ _=>x
def CondT.goal:CondT→Bool
 | .mk _ x _ _ _ _ _=>x
def CondT.id:CondT→ByteArray
 | .mk _ _ x _ _ _ _=>x
def CondT.attr:CondT→List TestT
 | .mk _ _ _ x _ _ _=>x
def CondT.value:CondT→List TestT
 | .mk _ _ _ _ x _ _=>x
def CondT.acc:CondT→Bool
 | .mk _ _ _ _ _ x _=>x
def CondT.conds:CondT→List CondT
 | .mk _ _ _ _ _ _ x=>x
def repCondT:Nat→RepT CondT
 | 0=>{ size:=7,rep:=fun _ _ _ _=>False,len:=fun h=>h.elim,keep:=fun _ _ h=>h }
 | n+1=>
 { size:=7,rep:=fun D w x cs=>∃A1 c1 A2 c2 A3 c3,cs = [.int .i64 x.kind,.bool x.goal,.string x.id,.slice A1 x.attr.length c1,.slice A2 x.value.length c2,.bool x.acc,.slice A3 x.conds.length c3]∧RowR repTestT D w A1 c1 x.attr∧RowR repTestT D w A2 c2 x.value∧RowR (repCondT n) D w A3 c3 x.conds,
   len:=by rintro _ _ _ _ ⟨_,_,_,_,_,_,rfl,_⟩;rfl,
   keep:=by
    rintro _ _ _ _ _ _ hs hk ⟨A1,c1,A2,c2,A3,c3,h0,h1,h2,h3⟩
    exact ⟨A1,c1,A2,c2,A3,c3,h0,h1.keep hs hk,h2.keep hs hk,h3.keep hs hk⟩ }
theorem repCondT_size (n:Nat):(repCondT n).size=7:=by cases n<;>rfl
theorem at_CondT {n:Nat} {D:Nat→Prop} {w:World} {A:Option Addr} {c k:Nat} {l:List CondT} (h:RowR (repCondT (n+1)) D w A c l) (hk:k<l.length) : ∃g off A1 c1 A2 c2 A3 c3,A=some ⟨g,off,none⟩∧D g∧g<w.heap.size∧w.cell? ⟨g,off+k*7,none⟩=some (.int .i64 l[k].kind)∧w.cell? ⟨g,off+k*7+1,none⟩=some (.bool l[k].goal)∧w.cell? ⟨g,off+k*7+2,none⟩=some (.string l[k].id)∧w.cell? ⟨g,off+k*7+3,none⟩=some (.slice A1 l[k].attr.length c1)∧w.cell? ⟨g,off+k*7+4,none⟩=some (.slice A2 l[k].value.length c2)∧w.cell? ⟨g,off+k*7+5,none⟩=some (.bool l[k].acc)∧w.cell? ⟨g,off+k*7+6,none⟩=some (.slice A3 l[k].conds.length c3)∧RowR repTestT D w A1 c1 l[k].attr∧RowR repTestT D w A2 c2 l[k].value∧RowR (repCondT n) D w A3 c3 l[k].conds:=by
 obtain ⟨g,off,cs,hA,hD,hg,⟨A1,c1,A2,c2,A3,c3,rfl,hrs⟩,hc⟩:=h.at_ hk
 exact ⟨g,off,A1,c1,A2,c2,A3,c3,hA,hD,hg,by simpa [repCondT] using hc 0 _ rfl,by simpa [repCondT] using hc 1 _ rfl,by simpa [repCondT] using hc 2 _ rfl,by simpa [repCondT] using hc 3 _ rfl,by simpa [repCondT] using hc 4 _ rfl,by simpa [repCondT] using hc 5 _ rfl,by simpa [repCondT] using hc 6 _ rfl,hrs⟩
theorem repCondT_mono : ∀(n:Nat) {D:Nat→Prop} {w:World} {a:CondT} {cs:List Value},(repCondT n).rep D w a cs→(repCondT (n+1)).rep D w a cs
 | 0,_,_,_,_,h=>h.elim
 | n+1,_,_,_,_,h=>by
   obtain ⟨A1,c1,A2,c2,A3,c3,h0,h1,h2,h3⟩:=h
   exact ⟨A1,c1,A2,c2,A3,c3,h0,h1,h2,h3.imp (by rw [repCondT_size,repCondT_size]) (fun _ _ g=>repCondT_mono n g)⟩
theorem repCondT_le {m n:Nat} (h:m≤n) {D:Nat→Prop} {w:World} {a:CondT} {cs:List Value} (g:(repCondT m).rep D w a cs):(repCondT n).rep D w a cs:=by
 induction n with
 | zero=>obtain rfl:m=0:=by omega
         exact g
 | succ n ih=>
   by_cases e:m=n+1
   · subst e;exact g
   · exact repCondT_mono n (ih (by omega))
theorem lenCondT {cs:List Value} (h:cs.length=7) : ∃v0 v1 v2 v3 v4 v5 v6,cs = [v0,v1,v2,v3,v4,v5,v6]:=by
 match cs,h with
 | [v0,v1,v2,v3,v4,v5,v6],_=>exact ⟨v0,v1,v2,v3,v4,v5,v6,rfl⟩
theorem openN_CondT {H:Type} (enc:TypeId×Value→H) (w:World) (base:Nat) (spare:Nat→Bool) (held:Bool) : ∀(fuel:Nat) (cs:List Value) (x:DataW H×List MemPlace),DataW.trod enc Try.prog w base spare held fuel 50 cs=some x→∃a:CondT,(repCondT fuel).rep (· < w.heap.size) w a cs:=by
 intro fuel
 induction fuel using Nat.strongRecOn with
 | _ fuel ih=>
   intro cs x h
   obtain ⟨n,rfl⟩ : ∃n,fuel=n+1:=⟨fuel - 1,by have:=trod_pos h;omega⟩
   have hl2:cs.length=7:=(trod_len Try.underlying50 h).trans (by kernel_rfl)
   obtain ⟨y0,h0⟩:=trod_fieldN Try.underlying50 h 0 rfl 3 0 1 rfl rfl (by kernel_rfl)
   obtain ⟨y1,h1⟩:=trod_fieldN Try.underlying50 h 1 rfl 4 1 1 rfl rfl (by kernel_rfl)
   obtain ⟨y2,h2⟩:=trod_fieldN Try.underlying50 h 2 rfl 9 2 1 rfl rfl (by kernel_rfl)
   obtain ⟨y3,h3⟩:=trod_fieldN Try.underlying50 h 3 rfl 48 3 1 rfl rfl (by kernel_rfl)
   obtain ⟨y4,h4⟩:=trod_fieldN Try.underlying50 h 4 rfl 48 4 1 rfl rfl (by kernel_rfl)
   obtain ⟨y5,h5⟩:=trod_fieldN Try.underlying50 h 5 rfl 4 5 1 rfl rfl (by kernel_rfl)
   obtain ⟨y6,h6⟩:=trod_fieldN Try.underlying50 h 6 rfl 22 6 1 rfl rfl (by kernel_rfl)
   obtain ⟨v0,v1,v2,v3,v4,v5,v6,rfl⟩:=lenCondT hl2
   simp at h0 h1 h2 h3 h4 h5 h6
   obtain ⟨a0,e0,_⟩:=DataW.trod_int Try.underlying3 h0
   simp at e0
   obtain ⟨a1,e1,_⟩:=DataW.trod_bool Try.underlying4 h1
   simp at e1
   obtain ⟨a2,e2,_⟩:=DataW.trod_string Try.underlying9 h2
   simp at e2
   obtain ⟨A3,c3,a3,e3,r3⟩:=row_of_trod (r:=repTestT) Try.underlying48 (by decide) opens_TestT.1 (fun n cs x hx=>opens_TestT.2 H enc w base spare held n cs x hx) h3
   simp at e3
   obtain ⟨A4,c4,a4,e4,r4⟩:=row_of_trod (r:=repTestT) Try.underlying48 (by decide) opens_TestT.1 (fun n cs x hx=>opens_TestT.2 H enc w base spare held n cs x hx) h4
   simp at e4
   obtain ⟨a5,e5,_⟩:=DataW.trod_bool Try.underlying4 h5
   simp at e5
   obtain ⟨A6,c6,a6,e6,r6⟩:=row_of_trodN (r:=repCondT n) Try.underlying22 (by rw [repCondT_size];decide) (by rw [repCondT_size];kernel_rfl) (fun m hm cs x hx=>(ih m (by omega) cs x hx).imp fun _ g=>repCondT_le (by omega) g) h6
   simp at e6
   subst e0
   subst e1
   subst e2
   subst e3
   subst e4
   subst e5
   subst e6
   exact ⟨⟨a0,a1,a2,a3,a4,a5,a6⟩,A3,c3,A4,c4,A6,c6,rfl,r3,r4,r6⟩
structure AtomT where
 var:ByteArray
 sym:Sym
def AtomT.cells (x:AtomT):List Value:=[.string x.var,.int .i64 x.sym.kind,.string x.sym.text,.int .i64 x.sym.n]
theorem AtomT.cells_length (x:AtomT):x.cells.length=4:=rfl
def repAtomT:RepT AtomT:=RepT.flat 4 AtomT.cells AtomT.cells_length
theorem opens_AtomT:Opens Try.prog 54 repAtomT:=
 ⟨by kernel_rfl,fun H enc w base spare held n cs x h=>by
  have hl2:cs.length=4:=(trod_len Try.underlying54 h).trans (by kernel_rfl)
  obtain ⟨m0,y0,h0⟩:=trod_field Try.underlying54 h 0 rfl 9 0 1 rfl rfl (by kernel_rfl)
  obtain ⟨m1,y1,h1⟩:=trod_field Try.underlying54 h 1 rfl 52 1 3 rfl rfl (by kernel_rfl)
  match cs,hl2 with
  | [v0,v1,v2,v3],_=>
    simp at h0 h1
    obtain ⟨a0,e0,_⟩:=DataW.trod_string Try.underlying9 h0
    simp at e0
    obtain ⟨a1,e1⟩:=opens_Sym.2 H enc w base spare held _ _ _ h1
    have e1:_=Sym.cells a1:=e1
    simp [Sym.cells] at e1
    subst e0
    obtain ⟨rfl,rfl,rfl⟩:=e1
    exact ⟨⟨a0,a1⟩,rfl⟩⟩
structure TermT where
 op:Int
 a:AtomT
 b:AtomT
def TermT.cells (x:TermT):List Value:=[.int .i64 x.op,.string x.a.var,.int .i64 x.a.sym.kind,.string x.a.sym.text,.int .i64 x.a.sym.n,.string x.b.var,.int .i64 x.b.sym.kind,.string x.b.sym.text,.int .i64 x.b.sym.n]
theorem TermT.cells_length (x:TermT):x.cells.length=9:=rfl
def repTermT:RepT TermT:=RepT.flat 9 TermT.cells TermT.cells_length
theorem opens_TermT:Opens Try.prog 56 repTermT:=
 ⟨by kernel_rfl,fun H enc w base spare held n cs x h=>by
  have hl2:cs.length=9:=(trod_len Try.underlying56 h).trans (by kernel_rfl)
  obtain ⟨m0,y0,h0⟩:=trod_field Try.underlying56 h 0 rfl 3 0 1 rfl rfl (by kernel_rfl)
  obtain ⟨m1,y1,h1⟩:=trod_field Try.underlying56 h 1 rfl 54 1 4 rfl rfl (by kernel_rfl)
  obtain ⟨m2,y2,h2⟩:=trod_field Try.underlying56 h 2 rfl 54 5 4 rfl rfl (by kernel_rfl)
  match cs,hl2 with
  | [v0,v1,v2,v3,v4,v5,v6,v7,v8],_=>
    simp at h0 h1 h2
    obtain ⟨a0,e0,_⟩:=DataW.trod_int Try.underlying3 h0
    simp at e0
    obtain ⟨a1,e1⟩:=opens_AtomT.2 H enc w base spare held _ _ _ h1
    have e1:_=AtomT.cells a1:=e1
    simp [AtomT.cells] at e1
    obtain ⟨a2,e2⟩:=opens_AtomT.2 H enc w base spare held _ _ _ h2
    have e2:_=AtomT.cells a2:=e2
    simp [AtomT.cells] at e2
    subst e0
    obtain ⟨rfl,rfl,rfl,rfl⟩:=e1
    obtain ⟨rfl,rfl,rfl,rfl⟩:=e2
    exact ⟨⟨a0,a1,a2⟩,rfl⟩⟩
structure ActT where
 id:ByteArray
 attr:AtomT
 value:TermT
 pref:Int
 other:AtomT
def ActT.cells (x:ActT):List Value:=[.string x.id,.string x.attr.var,.int .i64 x.attr.sym.kind,.string x.attr.sym.text,.int .i64 x.attr.sym.n,.int .i64 x.value.op,.string x.value.a.var,.int .i64 x.value.a.sym.kind,.string x.value.a.sym.text,.int .i64 x.value.a.sym.n,.string x.value.b.var,.int .i64 x.value.b.sym.kind,.string x.value.b.sym.text,.int .i64 x.value.b.sym.n,.int .i64 x.pref,.string x.other.var,.int .i64 x.other.sym.kind,.string x.other.sym.text,.int .i64 x.other.sym.n]
theorem ActT.cells_length (x:ActT):x.cells.length=19:=rfl
def repActT:RepT ActT:=RepT.flat 19 ActT.cells ActT.cells_length
theorem at_ActT {D:Nat→Prop} {w:World} {A:Option Addr} {c k:Nat} {l:List ActT} (h:RowR repActT D w A c l) (hk:k<l.length) : ∃g off,A=some ⟨g,off,none⟩∧D g∧g<w.heap.size∧w.cell? ⟨g,off+k*19,none⟩=some (.string l[k].id)∧w.cell? ⟨g,off+k*19+1,none⟩=some (.string l[k].attr.var)∧w.cell? ⟨g,off+k*19+2,none⟩=some (.int .i64 l[k].attr.sym.kind)∧w.cell? ⟨g,off+k*19+3,none⟩=some (.string l[k].attr.sym.text)∧w.cell? ⟨g,off+k*19+4,none⟩=some (.int .i64 l[k].attr.sym.n)∧w.cell? ⟨g,off+k*19+5,none⟩=some (.int .i64 l[k].value.op)∧w.cell? ⟨g,off+k*19+6,none⟩=some (.string l[k].value.a.var)∧w.cell? ⟨g,off+k*19+7,none⟩=some (.int .i64 l[k].value.a.sym.kind)∧w.cell? ⟨g,off+k*19+8,none⟩=some (.string l[k].value.a.sym.text)∧w.cell? ⟨g,off+k*19+9,none⟩=some (.int .i64 l[k].value.a.sym.n)∧w.cell? ⟨g,off+k*19+10,none⟩=some (.string l[k].value.b.var)∧w.cell? ⟨g,off+k*19+11,none⟩=some (.int .i64 l[k].value.b.sym.kind)∧w.cell? ⟨g,off+k*19+12,none⟩=some (.string l[k].value.b.sym.text)∧w.cell? ⟨g,off+k*19+13,none⟩=some (.int .i64 l[k].value.b.sym.n)∧w.cell? ⟨g,off+k*19+14,none⟩=some (.int .i64 l[k].pref)∧w.cell? ⟨g,off+k*19+15,none⟩=some (.string l[k].other.var)∧w.cell? ⟨g,off+k*19+16,none⟩=some (.int .i64 l[k].other.sym.kind)∧w.cell? ⟨g,off+k*19+17,none⟩=some (.string l[k].other.sym.text)∧w.cell? ⟨g,off+k*19+18,none⟩=some (.int .i64 l[k].other.sym.n):=by
 obtain ⟨g,off,cs,hA,hD,hg,hr,hc⟩:=h.at_ hk
 have hr2:cs=ActT.cells l[k]:=hr
 subst hr2
 refine ⟨g,off,hA,hD,hg,by simpa [repActT,RepT.flat] using hc 0 _ rfl,by simpa [repActT,RepT.flat] using hc 1 _ rfl,by simpa [repActT,RepT.flat] using hc 2 _ rfl,by simpa [repActT,RepT.flat] using hc 3 _ rfl,by simpa [repActT,RepT.flat] using hc 4 _ rfl,by simpa [repActT,RepT.flat] using hc 5 _ rfl,by simpa [repActT,RepT.flat] using hc 6 _ rfl,by simpa [repActT,RepT.flat] using hc 7 _ rfl,by simpa [repActT,RepT.flat] using hc 8 _ rfl,by simpa [repActT,RepT.flat] using hc 9 _ rfl,by simpa [repActT,RepT.flat] using hc 10 _ rfl,by simpa [repActT,RepT.flat] using hc 11 _ rfl,by simpa [repActT,RepT.flat] using hc 12 _ rfl,by simpa [repActT,RepT.flat] using hc 13 _ rfl,by simpa [repActT,RepT.flat] using hc 14 _ rfl,by simpa [repActT,RepT.flat] using hc 15 _ rfl,by simpa [repActT,RepT.flat] using hc 16 _ rfl,by simpa [repActT,RepT.flat] using hc 17 _ rfl,by simpa [repActT,RepT.flat] using hc 18 _ rfl⟩
theorem opens_ActT:Opens Try.prog 58 repActT:=
 ⟨by kernel_rfl,fun H enc w base spare held n cs x h=>by
  have hl2:cs.length=19:=(trod_len Try.underlying58 h).trans (by kernel_rfl)
  obtain ⟨m0,y0,h0⟩:=trod_field Try.underlying58 h 0 rfl 9 0 1 rfl rfl (by kernel_rfl)
  obtain ⟨m1,y1,h1⟩:=trod_field Try.underlying58 h 1 rfl 54 1 4 rfl rfl (by kernel_rfl)
  obtain ⟨m2,y2,h2⟩:=trod_field Try.underlying58 h 2 rfl 56 5 9 rfl rfl (by kernel_rfl)
  obtain ⟨m3,y3,h3⟩:=trod_field Try.underlying58 h 3 rfl 3 14 1 rfl rfl (by kernel_rfl)
  obtain ⟨m4,y4,h4⟩:=trod_field Try.underlying58 h 4 rfl 54 15 4 rfl rfl (by kernel_rfl)
  match cs,hl2 with
  | [v0,v1,v2,v3,v4,v5,v6,v7,v8,v9,v10,v11,v12,v13,v14,v15,v16,v17,v18],_=>
    simp at h0 h1 h2 h3 h4
    obtain ⟨a0,e0,_⟩:=DataW.trod_string Try.underlying9 h0
    simp at e0
    obtain ⟨a1,e1⟩:=opens_AtomT.2 H enc w base spare held _ _ _ h1
    have e1:_=AtomT.cells a1:=e1
    simp [AtomT.cells] at e1
    obtain ⟨a2,e2⟩:=opens_TermT.2 H enc w base spare held _ _ _ h2
    have e2:_=TermT.cells a2:=e2
    simp [TermT.cells] at e2
    obtain ⟨a3,e3,_⟩:=DataW.trod_int Try.underlying3 h3
    simp at e3
    obtain ⟨a4,e4⟩:=opens_AtomT.2 H enc w base spare held _ _ _ h4
    have e4:_=AtomT.cells a4:=e4
    simp [AtomT.cells] at e4
    subst e0
    obtain ⟨rfl,rfl,rfl,rfl⟩:=e1
    obtain ⟨rfl,rfl,rfl,rfl,rfl,rfl,rfl,rfl,rfl⟩:=e2
    subst e3
    obtain ⟨rfl,rfl,rfl,rfl⟩:=e4
    exact ⟨⟨a0,a1,a2,a3,a4⟩,rfl⟩⟩
structure ProdT where
 name:ByteArray
 conds:List CondT
 acts:List ActT
def repProdT (n:Nat):RepT ProdT:=
 { size:=3,rep:=fun D w x cs=>∃A1 c1 A2 c2,cs = [.string x.name,.slice A1 x.conds.length c1,.slice A2 x.acts.length c2]∧RowR (repCondT n) D w A1 c1 x.conds∧RowR repActT D w A2 c2 x.acts,
   len:=by rintro _ _ _ _ ⟨_,_,_,_,rfl,_⟩;rfl,
   keep:=by
    rintro _ _ _ _ _ _ hs hk ⟨A1,c1,A2,c2,h0,h1,h2⟩
    exact ⟨A1,c1,A2,c2,h0,h1.keep hs hk,h2.keep hs hk⟩ }
theorem lenProdT {cs:List Value} (h:cs.length=3) : ∃v0 v1 v2,cs = [v0,v1,v2]:=by
 match cs,h with
 | [v0,v1,v2],_=>exact ⟨v0,v1,v2,rfl⟩
theorem openN_ProdT {H:Type} (enc:TypeId×Value→H) (w:World) (base:Nat) (spare:Nat→Bool) (held:Bool) : ∀(fuel:Nat) (cs:List Value) (x:DataW H×List MemPlace),DataW.trod enc Try.prog w base spare held fuel 25 cs=some x→∃a:ProdT,(repProdT fuel).rep (· < w.heap.size) w a cs:=by
 intro fuel
 induction fuel using Nat.strongRecOn with
 | _ fuel ih=>
   intro cs x h
   obtain ⟨n,rfl⟩ : ∃n,fuel=n+1:=⟨fuel - 1,by have:=trod_pos h;omega⟩
   have hl2:cs.length=3:=(trod_len Try.underlying25 h).trans (by kernel_rfl)
   obtain ⟨y0,h0⟩:=trod_fieldN Try.underlying25 h 0 rfl 9 0 1 rfl rfl (by kernel_rfl)
   obtain ⟨y1,h1⟩:=trod_fieldN Try.underlying25 h 1 rfl 22 1 1 rfl rfl (by kernel_rfl)
   obtain ⟨y2,h2⟩:=trod_fieldN Try.underlying25 h 2 rfl 23 2 1 rfl rfl (by kernel_rfl)
   obtain ⟨v0,v1,v2,rfl⟩:=lenProdT hl2
   simp at h0 h1 h2
   obtain ⟨a0,e0,_⟩:=DataW.trod_string Try.underlying9 h0
   simp at e0
   obtain ⟨A1,c1,a1,e1,r1⟩:=row_of_trodN (r:=repCondT (n+1)) Try.underlying22 (by rw [repCondT_size];decide) (by rw [repCondT_size];kernel_rfl) (fun m hm cs x hx=>(openN_CondT enc w base spare held m cs x hx).imp fun _ g=>repCondT_le (by omega) g) h1
   simp at e1
   obtain ⟨A2,c2,a2,e2,r2⟩:=row_of_trod (r:=repActT) Try.underlying23 (by decide) opens_ActT.1 (fun n cs x hx=>opens_ActT.2 H enc w base spare held n cs x hx) h2
   simp at e2
   subst e0
   subst e1
   subst e2
   exact ⟨⟨a0,a1,a2⟩,A1,c1,A2,c2,rfl,r1,r2⟩
end Go.Proofs.Ytffemfglngikbaa
namespace Go.Proofs.Ytffemfglngikbaa
open Go.RowKit
inductive Each2 {α β:Type} (R:α→β→Prop):List α→List β→Prop
 | nil:Each2 R [] []
 | cons {a:α} {b:β} {l:List α} {m:List β}:R a b→Each2 R l m→Each2 R (a :: l) (b :: m)
section
variable {α β:Type} {R R':α→β→Prop}
theorem Each2.length : ∀{l:List α} {m:List β},Each2 R l m→l.length=m.length
 | _,_,.nil=>rfl
 | _,_,.cons _ h=>by simp [h.length]
theorem Each2.imp (hr : ∀a b,R a b→R' a b) : ∀{l:List α} {m:List β},Each2 R l m→Each2 R' l m
 | _,_,.nil=>.nil
 | _,_,.cons h t=>.cons (hr _ _ h) (t.imp hr)
theorem Each2.snoc {a:α} {b:β} (hr:R a b) : ∀{l:List α} {m:List β},Each2 R l m→Each2 R (l ++ [a]) (m ++ [b])
 | _,_,.nil=>.cons hr .nil
 | _,_,.cons h t=>.cons h (t.snoc hr)
theorem Each2.append : ∀{l l':List α} {m m':List β},Each2 R l m→Each2 R l' m'→Each2 R (l++l') (m++m')
 | _,_,_,_,.nil,h=>h
 | _,_,_,_,.cons h t,k=>.cons h (t.append k)
theorem Each2.get : ∀{l:List α} {m:List β},Each2 R l m→∀k,(h:k<l.length)→∃h':k<m.length,R l[k] m[k]
 | _,_,.nil,_,h=>absurd h (by simp)
 | _,_,.cons h _,0,_=>⟨by simp,h⟩
 | _,_,.cons _ t,k+1,h=>by
   obtain ⟨h1,h2⟩:=t.get k (by simpa using h)
   exact ⟨by simpa using h1,by simpa using h2⟩
end
theorem flatten_get {size:Nat} : ∀(css:List (List Value)),(∀cs∈css,cs.length=size)→∀k,(h:k<css.length)→∀j,j<size→css.flatten[k*size+j]? = css[k][j]?
 | [],_,_,h,_,_=>absurd h (by simp)
 | c :: css,hs,0,_,j,hj=>by
   rw [List.flatten_cons,List.getElem?_append_left (by rw [hs c (by simp)];omega)];simp
 | c :: css,hs,k+1,h,j,hj=>by
   have hc:=hs c (by simp)
   rw [List.flatten_cons,List.getElem?_append_right (by rw [hc,Nat.add_mul];omega),hc]
   rw [show (k+1)*size+j - size=k*size+j by rw [Nat.add_mul];omega]
   exact flatten_get css (fun cs h=>hs cs (by simp [h])) k (by simpa using h) j hj
theorem sum_const {α:Type} (n:Nat) : ∀l:List α,(l.map fun _=>n).sum=l.length*n
 | []=>by simp
 | _ :: l=>by simp only [List.map_cons,List.sum_cons,List.length_cons,sum_const n l,Nat.add_mul];omega
def Aside (w:World) (v:Value):Nat→Prop:=fun j=>j<w.heap.size∧v.ownBlock≠some j
def OwnR {α:Type} (r:RepT α) (e:TypeId) (base:Nat) (w:World) (v:Value) (l:List α):Prop:=
 ∃css,w.ownsRow base e r.size v l.length css.flatten∧Each2 (fun a cs=>r.rep (Aside w v) w a cs) l css
section
variable {α:Type} {r:RepT α} {e:TypeId} {base:Nat} {w w':World} {v:Value} {l:List α}
theorem OwnR.nil (r:RepT α) (e:TypeId) (base:Nat) (w:World):OwnR r e base w (.slice none 0 0) []:=⟨[],⟨by simp,.inl ⟨rfl,rfl⟩⟩,.nil⟩
theorem OwnR.form (h:OwnR r e base w v l) : ∃A c,v = .slice A l.length c∧l.length≤c∧c≤maxLen∧AIn A (fun j=>base≤j∧j<w.heap.size):=by
 obtain ⟨css,hown,_⟩:=h
 rcases hown.2 with ⟨rfl,hn⟩ | ⟨g,cap,cur,rfl,h0,hg,hn,hc,_⟩
 · exact ⟨none,0,by rw [hn],by omega,Nat.zero_le _,AIn.none_ _⟩
 · exact ⟨_,cap,rfl,hn,hc,fun a ha=>by cases ha;exact ⟨h0,Blk.lt (t:=e) hg⟩⟩
theorem OwnR.block (h:OwnR r e base w v l) : ∀k,v.ownBlock=some k→base≤k∧k<w.heap.size:=by
 obtain ⟨A,c,rfl,_,_,hA⟩:=h.form
 intro k hk
 rcases A with _ | a
 · cases hk
 · simp only [Value.ownBlock,Option.some.injEq] at hk
   subst hk
   exact hA a rfl
theorem OwnR.keep (h:OwnR r e base w v l) (hs:w.heap.size≤w'.heap.size) (hk : ∀k,k<w.heap.size→w'.heap[k]? = w.heap[k]?):OwnR r e base w' v l:=by
 obtain ⟨css,hown,he⟩:=h
 refine ⟨css,⟨hown.1,hown.2.imp id fun ⟨g,cap,cur,hv,h0,hg,hr⟩=>⟨g,cap,cur,hv,h0,(hk g (Blk.lt (t:=e) hg)).trans hg,hr⟩⟩,he.imp fun a cs hr=>r.keep hs (fun k hd hl=>⟨⟨by omega,hd.2⟩,hk k hl⟩) hr⟩
theorem OwnR.new_ (h:OwnR r e base w v l) (hb:Below w.heap.size w w'):OwnR r e base w' v l:=h.keep hb.size hb.block
theorem OwnR.fr {M:Nat→Prop} (h:OwnR r e base w v l) (hF:Fr M w w') (hM : ∀k,¬M k):OwnR r e base w' v l:=h.keep hF.size (fun k hk=>hF.block k hk (hM k))
theorem OwnR.row {A:Option Addr} {n c:Nat} (h:OwnR r e base w (.slice A n c) l):RowR r (· < w.heap.size) w A c l:=by
 obtain ⟨A',c',hv,h1,h2,_⟩:=h.form
 injection hv with hA hn hc
 subst hA;subst hc
 obtain ⟨css,hown,he⟩:=h
 refine ⟨h1,h2,fun h0=>?_⟩
 have hsz : ∀cs∈css,cs.length=r.size:=fun cs hcs=>by
  obtain ⟨k,hk,rfl⟩:=List.getElem_of_mem hcs
  obtain ⟨_,h3⟩:=he.get k (by rw [he.length];exact hk)
  exact r.len h3
 rcases hown.2 with ⟨hv,hn0⟩ | ⟨g,cap,cur,hv,_,hg,hn2,hc2,hs2,ht⟩
 · omega
 · injection hv with hA _ hc
   subst hA
   have hgl:g<w.heap.size:=Blk.lt (t:=e) hg
   refine ⟨g,0,rfl,hgl,hgl,fun k hk=>?_⟩
   obtain ⟨hk2,hrep⟩:=he.get k hk
   refine ⟨css[k],r.keep (Nat.le_refl _) (fun j hj _=>⟨hj.1,rfl⟩) hrep,fun j u hu=>?_⟩
   have hj:j<r.size:=by rw [← r.len hrep];exact (List.getElem?_eq_some_iff.1 hu).1
   have hf:=flatten_get css hsz k hk2 j hj
   rw [hu,← ht] at hf
   rw [Nat.zero_add,Blk.cell (t:=e) hg]
   have hlt:k*r.size+j<l.length*r.size:=by
    have:(k+1)*r.size≤l.length*r.size:=Nat.mul_le_mul_right _ hk
    rw [Nat.add_mul] at this;omega
   rw [List.getElem?_take_of_lt hlt] at hf
   rw [← hf];simp
theorem OwnR.grown {v':Value} {l2:List α} {css2:List (List Value)} (h:OwnR r e base w v l) (hown:w'.ownsRow base e r.size v' (l++l2).length ((Classical.choose h).flatten++css2.flatten)) (hg:w.grownBy w' v.ownBlock)
 (hv:v'.ownBlock=v.ownBlock∨v'.ownBlock=some w.heap.size) (he2:Each2 (fun a cs=>r.rep (Aside w v) w a cs) l2 css2):OwnR r e base w' v' (l++l2):=by
 have hs:=Classical.choose_spec h
 have up : ∀a cs,r.rep (Aside w v) w a cs→r.rep (Aside w' v') w' a cs:=fun a cs hr=>r.keep hg.size (fun k hd hl=>⟨⟨Nat.lt_of_lt_of_le hd.1 hg.size,fun hk=>by
  rcases hv with hv | hv
  · exact hd.2 (hv ▸ hk)
  · rw [hv] at hk;injection hk with hk;omega⟩,hg.block k hl (fun hk=>hd.2 hk.symm)⟩) hr
 exact ⟨Classical.choose h++css2,by rw [List.flatten_append];exact hown,(hs.2.imp up).append (he2.imp up)⟩
end
section
variable {P:Program} (w:World)
theorem run_append_srcB (t ty e:TypeId) (i:TypeInfo) (z:Value) (size bytes:Nat) (ht:P.underlying t=some (.slice e)) (hi:P.info? e=some i) (hz:i.zero=some z)
 (hsize:i.size=size) (hby:i.bytes=bytes) (hzs:z.cells.size=size) (hsz:0<size)
 (base:Nat) (hbase:base≤w.heap.size) (v:Value) (n:Nat) (xs:List Value) (hown:w.ownsRow base e size v n xs) (A:Option Addr) (m c:Nat) (news:List Value) (hl:news.length=m*size)
 (hnews:0<m→∃ad,A=some ad∧∀j u,news[j]? = some u→w.cell? (ad.add j)=some u) (h1 : ∀u∈news,u.oneCell'=true)
 (h63:n+m≤maxLen) (hbytes:(n+m)*bytes≤140737488355328) :
 ∃v' w',(Builtin.append_ #[t,t] ty #[v,.slice A m c]).run P w = .ok v' w'∧w'.ownsRow base e size v' (n+m) (xs++news)∧w.grownBy w' v.ownBlock∧
  (v' = .slice none 0 0↔v = .slice none 0 0∧m=0)∧(v'.ownBlock=v.ownBlock∨v'.ownBlock=some w.heap.size):=by
 rcases Nat.eq_zero_or_pos m with rfl | hm
 · have hn:news = []:=List.eq_nil_of_length_eq_zero (by simpa using hl)
   subst hn
   rcases A with _ | ad
   · refine ⟨v,w,?_,by simpa using hown,World.grownBy.refl w _,by simp,.inl rfl⟩
     rcases hown.2 with ⟨rfl,rfl⟩ | ⟨g,cap,cur,rfl,_,_,hnc,_⟩
     · simp [Builtin.append_,run_underlying ht,sizeOf,typeInfo,hi,Builtin.lenOf,Builtin.firstCells]
     · simp [Builtin.append_,run_underlying ht,sizeOf,typeInfo,hi,Builtin.lenOf,Builtin.firstCells,hnc,storeCells]
   · exact run_append_own_at w base t ty e i z size bytes ht hi hz hsize hby hzs hsz v n xs hown ad 0 c [] (by simp) (by simp) (by simp) h63 hbytes hbase
 · obtain ⟨ad,rfl,hc⟩:=hnews hm
   exact run_append_own_at w base t ty e i z size bytes ht hi hz hsize hby hzs hsz v n xs hown ad m c news hl hc h1 h63 hbytes hbase
theorem wp_append_srcB {o:Oper} {a:Act} {K:Act→World→Prop} {Q:Exit→Act→World→Prop} (s x:Operand) (t:TypeId)
 (ho:o.op = .call { callee:=.builtin .append,args:=#[s,x],argTypes:=#[t,t] })
 (e:TypeId) (i:TypeInfo) (z:Value) (size bytes:Nat) (ht:P.underlying t=some (.slice e)) (hi:P.info? e=some i) (hz:i.zero=some z)
 (hsize:i.size=size) (hby:i.bytes=bytes) (hzs:z.cells.size=size) (hsz:0<size)
 (base:Nat) (hbase:base≤w.heap.size) (v:Value) (n:Nat) (xs:List Value) (hs:a.eval s=v) (hown:w.ownsRow base e size v n xs)
 (A:Option Addr) (m c:Nat) (news:List Value) (hx:a.eval x = .slice A m c) (hl:news.length=m*size)
 (hnews:0<m→∃ad,A=some ad∧∀j u,news[j]? = some u→w.cell? (ad.add j)=some u) (h1 : ∀u∈news,u.oneCell'=true)
 (h63:n+m≤maxLen) (hbytes:(n+m)*bytes≤140737488355328)
 (h : ∀v' w',w'.ownsRow base e size v' (n+m) (xs++news)→w.grownBy w' v.ownBlock→(v' = .slice none 0 0↔v = .slice none 0 0∧m=0)→(v'.ownBlock=v.ownBlock∨v'.ownBlock=some w.heap.size)→K (a.put o.dst v') w') :
 Oper.wp P o a w K Q:=by
 obtain ⟨v',w',hr,h2,h3,h4,h5⟩:=run_append_srcB (P:=P) w t o.type e i z size bytes ht hi hz hsize hby hzs hsz base hbase v n xs hown A m c news hl hnews h1 h63 hbytes
 unfold Oper.wp execOp
 simp only [ho,resolve,invoke,builtin,Sem.run_bind,Sem.run_pure,Result.andThen_ok,List.map_toArray,List.map_cons,List.map_nil,hs,hx,hr]
 exact h v' w' h2 h3 h4 h5
theorem step_append_srcB {ops:Array Oper} {o:Oper} {a:Act} {K:Act→World→Prop} {Q:Exit→Act→World→Prop} {E:Prop} (hgd:o.guard=none) (s x:Operand) (t:TypeId)
 (ho:o.op = .call { callee:=.builtin .append,args:=#[s,x],argTypes:=#[t,t] })
 (e:TypeId) (i:TypeInfo) (z:Value) (size bytes:Nat) (ht:P.underlying t=some (.slice e)) (hi:P.info? e=some i) (hz:i.zero=some z)
 (hsize:i.size=size) (hby:i.bytes=bytes) (hzs:z.cells.size=size) (hsz:0<size)
 (base:Nat) (hbase:base≤w.heap.size) (v:Value) (n:Nat) (xs:List Value) (hs:a.eval s=v) (hown:w.ownsRow base e size v n xs)
 (A:Option Addr) (m c:Nat) (news:List Value) (hx:a.eval x = .slice A m c) (hl:news.length=m*size)
 (hnews:0<m→∃ad,A=some ad∧∀j u,news[j]? = some u→w.cell? (ad.add j)=some u) (h1 : ∀u∈news,u.oneCell'=true)
 (h63:n+m≤maxLen) (hbytes:(n+m)*bytes≤140737488355328)
 (h : ∀v' w',w'.ownsRow base e size v' (n+m) (xs++news)→w.grownBy w' v.ownBlock→(v' = .slice none 0 0↔v = .slice none 0 0∧m=0)→(v'.ownBlock=v.ownBlock∨v'.ownBlock=some w.heap.size)→K (a.put o.dst v') w') :
 if Region.wanted o (yielded ops a.tmps)=true then Oper.wp P o a w K Q else E:=by
 rw [if_pos (by simp [Region.wanted,hgd])]
 exact wp_append_srcB w s x t ho e i z size bytes ht hi hz hsize hby hzs hsz base hbase v n xs hs hown A m c news hx hl hnews h1 h63 hbytes h
theorem wpList_append_srcB {ops:Array Oper} {rest:List Oper} {o:Oper} {a:Act} {Q:Exit→Act→World→Prop} (hgd:o.guard=none) (s x:Operand) (t:TypeId)
 (ho:o.op = .call { callee:=.builtin .append,args:=#[s,x],argTypes:=#[t,t] })
 (e:TypeId) (i:TypeInfo) (z:Value) (size bytes:Nat) (ht:P.underlying t=some (.slice e)) (hi:P.info? e=some i) (hz:i.zero=some z)
 (hsize:i.size=size) (hby:i.bytes=bytes) (hzs:z.cells.size=size) (hsz:0<size)
 (base:Nat) (hbase:base≤w.heap.size) (v:Value) (n:Nat) (xs:List Value) (hs:a.eval s=v) (hown:w.ownsRow base e size v n xs)
 (A:Option Addr) (m c:Nat) (news:List Value) (hx:a.eval x = .slice A m c) (hl:news.length=m*size)
 (hnews:0<m→∃ad,A=some ad∧∀j u,news[j]? = some u→w.cell? (ad.add j)=some u) (h1 : ∀u∈news,u.oneCell'=true)
 (h63:n+m≤maxLen) (hbytes:(n+m)*bytes≤140737488355328)
 (h : ∀v' w',w'.ownsRow base e size v' (n+m) (xs++news)→w.grownBy w' v.ownBlock→(v' = .slice none 0 0↔v = .slice none 0 0∧m=0)→(v'.ownBlock=v.ownBlock∨v'.ownBlock=some w.heap.size)→wpList P ops Q rest (a.put o.dst v') w') :
 wpList P ops Q (o :: rest) a w:=
 wpList_plain hgd fun _ hK=>wp_append_srcB w s x t ho e i z size bytes ht hi hz hsize hby hzs hsz base hbase v n xs hs hown A m c news hx hl hnews h1 h63 hbytes (fun v' w' a b c d=>hK _ _ (h v' w' a b c d))
end
section
variable {P:Program} {α:Type} {r:RepT α} (w:World)
end
end Go.Proofs.Ytffemfglngikbaa
namespace Go.Proofs.Ytffemfglngikbaa
open Go.RowKit
def NewD (B:Nat) (w:World):Nat→Prop:=fun k=>B≤k∧k<w.heap.size
def OwnC {α:Type} (r:RepT α) (e:TypeId) (C:Nat→Prop) (w:World) (v:Value) (l:List α):Prop:=
 ∃css,w.ownsRow 0 e r.size v l.length css.flatten∧Each2 (fun a cs=>r.rep C w a cs) l css∧∀k,v.ownBlock=some k→¬C k
theorem own_lt {w:World} {e:TypeId} {size n:Nat} {v:Value} {xs:List Value} (h:w.ownsRow 0 e size v n xs) : ∀k,v.ownBlock=some k→k<w.heap.size:=by
 intro k hk
 rcases h.2 with ⟨rfl,_⟩ | ⟨g,cap,cur,rfl,_,hg,_⟩
 · cases hk
 · simp only [Value.ownBlock,Option.some.injEq] at hk
   subst hk
   exact Blk.lt (t:=e) hg
section
variable {α:Type} {r:RepT α} {e:TypeId} {C C':Nat→Prop} {w w':World} {v:Value} {l:List α}
theorem OwnC.nil (r:RepT α) (e:TypeId) (C:Nat→Prop) (w:World):OwnC r e C w (.slice none 0 0) []:=⟨[],⟨by simp,.inl ⟨rfl,rfl⟩⟩,.nil,fun _ h=>by cases h⟩
theorem OwnC.form (h:OwnC r e C w v l) : ∃A c,v = .slice A l.length c∧l.length≤c∧c≤maxLen∧AIn A (fun j=>j<w.heap.size∧¬C j):=by
 obtain ⟨css,hown,_,hC⟩:=h
 have hlt:=own_lt hown
 obtain ⟨A,c,rfl,h1,h2,_⟩:=own_form2 hown
 exact ⟨A,c,rfl,h1,h2,fun a ha=>by subst ha;exact ⟨hlt _ rfl,hC _ rfl⟩⟩
theorem OwnC.lt (h:OwnC r e C w v l) : ∀k,v.ownBlock=some k→k<w.heap.size:=by
 obtain ⟨css,hown,_⟩:=h
 exact own_lt hown
theorem OwnC.off (h:OwnC r e C w v l) : ∀k,v.ownBlock=some k→¬C k:=by
 obtain ⟨_,_,_,h⟩:=h
 exact h
theorem OwnC.keep (h:OwnC r e C w v l) (hs:w.heap.size≤w'.heap.size) (hk : ∀k,C k→k<w.heap.size→C' k∧w'.heap[k]? = w.heap[k]?) (hv : ∀k,v.ownBlock=some k→w'.heap[k]? = w.heap[k]?∧¬C' k):OwnC r e C' w' v l:=by
 obtain ⟨css,hown,he,hC⟩:=h
 refine ⟨css,⟨hown.1,hown.2.imp id fun ⟨g,cap,cur,hv',h0,hg,hr⟩=>⟨g,cap,cur,hv',h0,(hv g (by rw [hv'];rfl)).1.trans hg,hr⟩⟩,he.imp fun a cs hr=>r.keep hs hk hr,fun k hk=>(hv k hk).2⟩
theorem OwnC.new_ (h:OwnC r e C w v l) (hb:Below w.heap.size w w'):OwnC r e C w' v l:=
 h.keep hb.size (fun k hk hl=>⟨hk,hb.block k hl⟩) (fun k hk=>⟨hb.block k (h.lt k hk),h.off k hk⟩)
theorem OwnC.plus (h:OwnC r e C w v l) (hb:Below w.heap.size w w'):OwnC r e (Plus C w w') w' v l:=
 h.keep hb.size (fun k hk hl=>⟨.inl hk,hb.block k hl⟩) (fun k hk=>⟨hb.block k (h.lt k hk),fun hp=>hp.elim (h.off k hk) (fun hp=>by have:=h.lt k hk;omega)⟩)
theorem OwnC.fr {M:Nat→Prop} (h:OwnC r e C w v l) (hF:Fr M w w') (hC : ∀k,C k→¬M k) (hv : ∀k,v.ownBlock=some k→¬M k):OwnC r e C w' v l:=
 h.keep hF.size (fun k hk hl=>⟨hk,hF.block k hl (hC k hk)⟩) (fun k hk=>⟨hF.block k (h.lt k hk) (hv k hk),h.off k hk⟩)
theorem OwnC.row {A:Option Addr} {n c:Nat} (h:OwnC r e C w (.slice A n c) l) (hC : ∀k,C k→C' k) (hA:AIn A C'):RowR r C' w A c l:=by
 obtain ⟨A',c',hv,h1,h2,_⟩:=h.form
 injection hv with hA' hn hc
 subst hA';subst hc
 obtain ⟨css,hown,he,_⟩:=h
 refine ⟨h1,h2,fun h0=>?_⟩
 have hsz : ∀cs∈css,cs.length=r.size:=fun cs hcs=>by
  obtain ⟨k,hk,rfl⟩:=List.getElem_of_mem hcs
  obtain ⟨_,h3⟩:=he.get k (by rw [he.length];exact hk)
  exact r.len h3
 rcases hown.2 with ⟨hv,hn0⟩ | ⟨g,cap,cur,hv,_,hg,hn2,hc2,hs2,ht⟩
 · omega
 · injection hv with hA' _ hc
   subst hA'
   have hgl:g<w.heap.size:=Blk.lt (t:=e) hg
   refine ⟨g,0,rfl,hA _ rfl,hgl,fun k hk=>?_⟩
   obtain ⟨hk2,hrep⟩:=he.get k hk
   refine ⟨css[k],r.keep (Nat.le_refl _) (fun j hj _=>⟨hC j hj,rfl⟩) hrep,fun j u hu=>?_⟩
   have hj:j<r.size:=by rw [← r.len hrep];exact (List.getElem?_eq_some_iff.1 hu).1
   have hf:=flatten_get css hsz k hk2 j hj
   rw [hu,← ht] at hf
   rw [Nat.zero_add,Blk.cell (t:=e) hg]
   have hlt:k*r.size+j<l.length*r.size:=by
    have:(k+1)*r.size≤l.length*r.size:=Nat.mul_le_mul_right _ hk
    rw [Nat.add_mul] at this;omega
   rw [List.getElem?_take_of_lt hlt] at hf
   rw [← hf];simp
theorem OwnC.grown {v':Value} {l2:List α} {css css2:List (List Value)} (he:Each2 (fun a cs=>r.rep C w a cs) l css) (hC : ∀k,v.ownBlock=some k→¬C k) (hCl : ∀k,C k→k<w.heap.size)
 (hown:w'.ownsRow 0 e r.size v' (l++l2).length (css.flatten++css2.flatten)) (hg:w.grownBy w' v.ownBlock)
 (hv:v'.ownBlock=v.ownBlock∨v'.ownBlock=some w.heap.size) (he2:Each2 (fun a cs=>r.rep C w a cs) l2 css2):OwnC r e C w' v' (l++l2):=by
 have up : ∀a cs,r.rep C w a cs→r.rep C w' a cs:=fun a cs hr=>r.keep hg.size (fun k hd hl=>⟨hd,hg.block k hl (fun hk=>hC k hk.symm hd)⟩) hr
 refine ⟨css++css2,by rw [List.flatten_append];exact hown,(he.imp up).append (he2.imp up),fun k hk=>?_⟩
 rcases hv with hv | hv
 · exact hC k (hv ▸ hk)
 · rw [hv] at hk;injection hk with hk;intro h;have:=hCl k h;omega
theorem css_len {l2:List α} {css2:List (List Value)} {D:Nat→Prop} {m:Nat} (hm:m=l2.length) (he2:Each2 (fun a cs=>r.rep D w a cs) l2 css2):css2.flatten.length=m*r.size:=by
 have hall : ∀cs∈css2,cs.length=r.size:=fun cs hcs=>by
  obtain ⟨k,hk,rfl⟩:=List.getElem_of_mem hcs
  obtain ⟨_,h3⟩:=he2.get k (by rw [he2.length];exact hk)
  exact r.len h3
 rw [hm,he2.length,List.length_flatten,List.map_congr_left hall]
 exact sum_const _ _
theorem flat1 (cs:List Value) : [cs].flatten=cs:=by simp
end
def Appended {α:Type} (r:RepT α) (e:TypeId) (C:Nat→Prop) (w:World) (v:Value) (l:List α) (v':Value) (w':World):Prop:=
 OwnC r e C w' v' l∧w.grownBy w' v.ownBlock∧(v'.ownBlock=v.ownBlock∨v'.ownBlock=some w.heap.size)
section
variable {P:Program} {α:Type} {r:RepT α} (w:World)
theorem wpList_append_C {ops:Array Oper} {rest:List Oper} {o:Oper} {a:Act} {Q:Exit→Act→World→Prop} (hgd:o.guard=none) (s x:Operand) (t:TypeId)
 (ho:o.op = .call { callee:=.builtin .append,args:=#[s,x],argTypes:=#[t,t] })
 (e:TypeId) (i:TypeInfo) (z:Value) (size bytes:Nat) (ht:P.underlying t=some (.slice e)) (hi:P.info? e=some i) (hz:i.zero=some z)
 (hsize:i.size=size) (hby:i.bytes=bytes) (hzs:z.cells.size=size) (hrs:r.size=size) (hsz:0<size)
 (C:Nat→Prop) (hCl : ∀k,C k→k<w.heap.size) (v:Value) (l:List α) (hs:a.eval s=v) (hown:OwnC r e C w v l)
 (ad:Addr) (c:Nat) (y:α) (cs:List Value) (hx:a.eval x = .slice (some ad) 1 c)
 (hnews : ∀j u,cs[j]? = some u→w.cell? (ad.add j)=some u) (h1 : ∀u∈cs,u.oneCell'=true)
 (he2:r.rep C w y cs)
 (h63:l.length+1≤maxLen) (hbytes:(l.length+1)*bytes≤140737488355328)
 (h : ∀v' w',Appended r e C w v (l ++ [y]) v' w'→wpList P ops Q rest (a.put o.dst v') w') :
 wpList P ops Q (o :: rest) a w:=by
 obtain ⟨css,h2,h3,h4⟩:=hown
 subst hrs
 have he3:Each2 (fun a cs=>r.rep C w a cs) [y] [cs]:=.cons he2 .nil
 refine wpList_append_srcB w hgd s x t ho e i z r.size bytes ht hi hz hsize hby hzs hsz 0 (Nat.zero_le _) v l.length _ hs h2 (some ad) 1 c [cs].flatten hx (css_len (l2:=[y]) rfl he3) (fun _=>⟨ad,rfl,by rw [flat1];exact hnews⟩) (by rw [flat1];exact h1) h63 hbytes (fun v' w' g1 g2 g3 g4=>h v' w' ⟨?_,g2,g4⟩)
 exact OwnC.grown h3 h4 hCl (by rw [List.length_append];exact g1) g2 g4 he3
theorem step_append_C {ops:Array Oper} {o:Oper} {a:Act} {K:Act→World→Prop} {Q:Exit→Act→World→Prop} {E:Prop} (hgd:o.guard=none) (s x:Operand) (t:TypeId)
 (ho:o.op = .call { callee:=.builtin .append,args:=#[s,x],argTypes:=#[t,t] })
 (e:TypeId) (i:TypeInfo) (z:Value) (size bytes:Nat) (ht:P.underlying t=some (.slice e)) (hi:P.info? e=some i) (hz:i.zero=some z)
 (hsize:i.size=size) (hby:i.bytes=bytes) (hzs:z.cells.size=size) (hrs:r.size=size) (hsz:0<size)
 (C:Nat→Prop) (hCl : ∀k,C k→k<w.heap.size) (v:Value) (l:List α) (hs:a.eval s=v) (hown:OwnC r e C w v l)
 (ad:Addr) (c:Nat) (y:α) (cs:List Value) (hx:a.eval x = .slice (some ad) 1 c)
 (hnews : ∀j u,cs[j]? = some u→w.cell? (ad.add j)=some u) (h1 : ∀u∈cs,u.oneCell'=true)
 (he2:r.rep C w y cs)
 (h63:l.length+1≤maxLen) (hbytes:(l.length+1)*bytes≤140737488355328)
 (h : ∀v' w',Appended r e C w v (l ++ [y]) v' w'→K (a.put o.dst v') w') :
 if Region.wanted o (yielded ops a.tmps)=true then Oper.wp P o a w K Q else E:=by
 obtain ⟨css,h2,h3,h4⟩:=hown
 subst hrs
 have he3:Each2 (fun a cs=>r.rep C w a cs) [y] [cs]:=.cons he2 .nil
 refine step_append_srcB w hgd s x t ho e i z r.size bytes ht hi hz hsize hby hzs hsz 0 (Nat.zero_le _) v l.length _ hs h2 (some ad) 1 c [cs].flatten hx (css_len (l2:=[y]) rfl he3) (fun _=>⟨ad,rfl,by rw [flat1];exact hnews⟩) (by rw [flat1];exact h1) h63 hbytes (fun v' w' g1 g2 g3 g4=>h v' w' ⟨?_,g2,g4⟩)
 exact OwnC.grown h3 h4 hCl (by rw [List.length_append];exact g1) g2 g4 he3
end
end Go.Proofs.Ytffemfglngikbaa
namespace Go.Proofs.Ytffemfglngikbaa
open Go.RowKit
theorem inf_Sym:(Try.prog.info? 52).map (fun i=>(i.zero,i.size,i.bytes))=some (some (.agg #[.int .i64 0,.string ⟨#[]⟩,.int .i64 0]),3,32):=by kernel_rfl
theorem one_Sym (l:List Sym) : ∀u∈l.flatMap Sym.cells,u.oneCell'=true:=by
 intro u hu
 obtain ⟨b,_,hb⟩:=List.mem_flatMap.1 hu
 simp only [Sym.cells,List.mem_cons,List.not_mem_nil,or_false] at hb
 rcases hb with rfl | rfl | rfl<;>rfl
theorem inf_Act:(Try.prog.info? 58).map (fun i=>(i.zero,i.size,i.bytes))=some (some (.agg #[.string ⟨#[]⟩,.string ⟨#[]⟩,.int .i64 0,.string ⟨#[]⟩,.int .i64 0,.int .i64 0,.string ⟨#[]⟩,.int .i64 0,.string ⟨#[]⟩,.int .i64 0,.string ⟨#[]⟩,.int .i64 0,.string ⟨#[]⟩,.int .i64 0,.int .i64 0,.string ⟨#[]⟩,.int .i64 0,.string ⟨#[]⟩,.int .i64 0]),19,224):=by kernel_rfl
theorem one_Act (l:List ActT) : ∀u∈l.flatMap ActT.cells,u.oneCell'=true:=by
 intro u hu
 obtain ⟨b,_,hb⟩:=List.mem_flatMap.1 hu
 simp only [ActT.cells,List.mem_cons,List.not_mem_nil,or_false] at hb
 rcases hb with rfl | rfl | rfl | rfl | rfl | rfl | rfl | rfl | rfl | rfl | rfl | rfl | rfl | rfl | rfl | rfl | rfl | rfl | rfl<;>rfl
theorem inf_Test:(Try.prog.info? 65).map (fun i=>(i.zero,i.size,i.bytes))=some (some (.agg #[.int .i64 0,.string ⟨#[]⟩,.int .i64 0,.string ⟨#[]⟩,.int .i64 0,.slice none 0 0]),6,80):=by kernel_rfl
theorem inf_Cond:(Try.prog.info? 50).map (fun i=>(i.zero,i.size,i.bytes))=some (some (.agg #[.int .i64 0,.bool false,.string ⟨#[]⟩,.slice none 0 0,.slice none 0 0,.bool false,.slice none 0 0]),7,112):=by kernel_rfl
theorem infp {P:Program} {t:TypeId} {z:Value} {s b:Nat} (h:(P.info? t).map (fun i=>(i.zero,i.size,i.bytes))=some (some z,s,b)) : ∃i,P.info? t=some i∧i.zero=some z∧i.size=s∧i.bytes=b:=by
 cases hq:P.info? t with
 | none=>rw [hq] at h;cases h
 | some i=>
   rw [hq] at h
   simp only [Option.map_some,Option.some.injEq,Prod.mk.injEq] at h
   exact ⟨i,rfl,h.1,h.2.1,h.2.2⟩
end Go.Proofs.Ytffemfglngikbaa
namespace Go.Proofs.Ytffemfglngikbaa
open Go.RowKit
variable {D:Nat→Prop} {W W':World}
theorem info_parts {P:Program} {t:TypeId} {z:Value} {s b:Nat} (h:(P.info? t).map (fun i=>(i.zero,i.size,i.bytes))=some (some z,s,b)) : ∃i,P.info? t=some i∧i.zero=some z∧i.size=s∧i.bytes=b:=infp h
theorem row_low {e size n:Nat} {A:Option Addr} {c:Nat} {xs:List Value} (h:W.ownsRow 0 e size (.slice A n c) n xs):AIn A (· < W.heap.size):=fun a ha=>own_lt h a.block (by rw [ha];rfl)
def Own (D:Nat→Prop) (X:World) (k:Nat) (t:TypeId) (cs:Array Value):Prop:=Blk X k t cs∧¬D k
theorem Own.step {B k:Nat} {t:TypeId} {cs:Array Value} (h:Own D W k t cs) (hF:Fr (FromB B D) W W'):Own (Plus D W W') W' k t cs:=
 ⟨h.1.fr hF (fun hk=>h.2 hk.1),fun hk=>hk.elim h.2 (fun hk=>by have:=h.1.lt;omega)⟩
def OwnRD (D:Nat→Prop) (X:World) (e:TypeId) (size n:Nat) (A:Option Addr) (c:Nat) (xs:List Value):Prop:=X.ownsRow 0 e size (.slice A n c) n xs∧AIn A (fun k=>¬D k)
theorem OwnRD.step {B size n c:Nat} {e:TypeId} {A:Option Addr} {xs:List Value} (h:OwnRD D W e size n A c xs) (hF:Fr (FromB B D) W W'):OwnRD (Plus D W W') W' e size n A c xs:=by
 have hl:=row_low h.1
 refine ⟨ownsRow_fr h.1 hF (fun g hg hk=>?_),fun a ha hk=>hk.elim (h.2 a ha) (fun hk=>by have:=hl a ha;omega)⟩
 rcases A with _ | a
 · simp [Value.ownBlock] at hg
 · have e:a.block=g:=by simpa [Value.ownBlock] using hg
   exact h.2 a rfl (e ▸ hk.1)
end Go.Proofs.Ytffemfglngikbaa
namespace Go.Proofs.Ytffemfglngikbaa
def oneN (s:ByteArray):List ByteArray:=if s.toList = [] then [] else [s]
theorem oneN_no {s:ByteArray} (h:s.toList = []):oneN s = []:=by rw [oneN,if_pos h]
theorem oneN_yes {s:ByteArray} (h : ¬s.toList = []):oneN s = [s]:=by rw [oneN,if_neg h]
def varsT (l:List TestT):List ByteArray:=l.flatMap fun t=>oneN t.var
def namesN:Nat→CondT→List ByteArray
 | 0,_=>[]
 | n+1,c=>oneN c.id++(varsT c.attr++(varsT c.value++c.conds.flatMap (namesN n)))
theorem oneN_len (s:ByteArray):(oneN s).length≤1:=by unfold oneN;split<;>simp
theorem varsT_len (l:List TestT):(varsT l).length≤l.length:=by
 unfold varsT
 induction l with
 | nil=>simp
 | cons t l ih=>have:=oneN_len t.var;rw [List.flatMap_cons,List.length_append,List.length_cons];omega
theorem varsT_drop {l:List TestT} {i:Nat} (h:i<l.length):varsT (l.drop i)=oneN l[i].var++varsT (l.drop (i+1)):=by
 unfold varsT
 rw [List.drop_eq_getElem_cons h,List.flatMap_cons]
def encStr (v:ByteArray):Array Value:=#[.string v]
end Go.Proofs.Ytffemfglngikbaa
namespace Go.Proofs.Ytffemfglngikbaa
open Go.RowKit
theorem eql_sym (x y:Sym) (W:World):(binOp .eql 52 (.agg #[.int .i64 x.kind,.string x.text,.int .i64 x.n]) (.agg #[.int .i64 y.kind,.string y.text,.int .i64 y.n])).run Try.prog W = .ok (.bool (decide (x=y))) W:=by
 rw [run_eql_struct]
 go_simp
 by_cases h:x=y
 · subst h;simp
 · have h2 : ¬(x.kind=y.kind∧x.text.toList=y.text.toList∧x.n=y.n):=fun ⟨h1,h2,h3⟩=>h (Sym.ext' h1 (toList_inj h2) h3)
   rw [decide_eq_false h]
   split
   · split
     · split
       · exact absurd ⟨by assumption,by assumption,by assumption⟩ h2
       · rfl
     · rfl
   · rfl
theorem neq_sym (x y:Sym) (W:World):(binOp .neq 52 (.agg #[.int .i64 x.kind,.string x.text,.int .i64 x.n]) (.agg #[.int .i64 y.kind,.string y.text,.int .i64 y.n])).run Try.prog W = .ok (.bool (!decide (x=y))) W:=by
 rw [run_neq_struct]
 go_simp
 by_cases h:x=y
 · subst h;simp
 · have h2 : ¬(x.kind=y.kind∧x.text.toList=y.text.toList∧x.n=y.n):=fun ⟨h1,h2,h3⟩=>h (Sym.ext' h1 (toList_inj h2) h3)
   rw [decide_eq_false h]
   split
   · split
     · split
       · exact absurd ⟨by assumption,by assumption,by assumption⟩ h2
       · rfl
     · rfl
   · rfl
attribute [local go_sem] eql_sym neq_sym
theorem sym_at {w:World} {A:Option Addr} {c k:Nat} {l:List Sym} (h:RowRd w 3 Sym.cells A c l) (hk:k<l.length) : ∃g off,A=some ⟨g,off,none⟩∧g<w.heap.size∧
 w.cell? ⟨g,off+k*3,none⟩=some (.int .i64 l[k].kind)∧w.cell? ⟨g,off+k*3+1,none⟩=some (.string l[k].text)∧w.cell? ⟨g,off+k*3+2,none⟩=some (.int .i64 l[k].n):=by
 obtain ⟨g,off,hA,hg,hc⟩:=h.at_ hk
 exact ⟨g,off,hA,hg,by simpa using hc 0 _ rfl,by simpa using hc 1 _ rfl,by simpa using hc 2 _ rfl⟩
end Go.Proofs.Ytffemfglngikbaa
namespace Go.Proofs.Ytffemfglngikbaa
open Go.RowKit Go.Shelf
theorem neqs_Sym (x:Sym) (W:World):(binOp .neq 52 (.agg #[.int .i64 x.kind,.string x.text,.int .i64 x.n]) (.agg #[.int .i64 x.kind,.string x.text,.int .i64 x.n])).run Try.prog W = .ok (.bool false) W:=by
 rw [run_neq_struct]
 go_simp
set_option maxRecDepth 100000 in
set_option maxHeartbeats 4000000 in
theorem syms_same {D D':Nat→Prop} {A B:Option Addr} {c d:Nat} (l:List Sym) (w:World) (hl:RowR repSym D w A c l) (hm:RowR repSym D' w B d l) :
 Calls Try.prog 83 #[.slice A l.length c,.slice B l.length d] w fun e w'=>e = .returned (.bool true)∧Below w.heap.size w w':=by
 have HL:=Lib.hid hl
 have HM:=Lib.hid hm
 have hlc:=hl.cap
 clear hl hm
 go_enter Try.func83,Try.ntmps83
 go_wp2_with fail
 go_loopw [5] (fun s wr=>∃i:Nat,s = .int .i64 i∧i≤l.length∧Below w.heap.size w wr) (fun s wr=>l.length - (intOf s).toNat)
 case atStart=>exact ⟨0,rfl,Nat.zero_le _,Below.refl _ _⟩
 case round=>
  obtain ⟨i,rfl,hi,hB⟩:=hrel
  have HB:=Lib.hid hB
  clear hB
  by_cases hlt:i<l.length
  · obtain ⟨x,hx⟩ : ∃x,x=l[i]:=⟨_,rfl⟩
    obtain ⟨g,off,rfl,_,hgs,q0,q1,q2⟩:=at_Sym (HL.out.new_ HB.out) hlt
    obtain ⟨g2,off2,rfl,_,hgs2,p0,p1,p2⟩:=at_Sym (HM.out.new_ HB.out) hlt
    rw [← hx] at q0 q1 q2 p0 p1 p2
    have b1:(0:Int)≤(i:Int):=by omega
    have b2:(i:Int)<(l.length:Int):=by omega
    have hbe:=fun W=>neqs_Sym x W
    clear hx
    go_wp2_with fail
    go_quiet (fail)
    have HB2:=Lib.hid (Below.drewN' HB.out nq)
    clear q0 q1 q2 p0 p1 p2
    go_wp2_with fail
    go_roundw
    case rel=>exact ⟨i+1,by go_num,by omega,HB2.out⟩
    case measure=>simp [intOf]<;>omega
  · obtain rfl:i=l.length:=by omega
    go_wp2_with fail
    go_ret
    exact ⟨rfl,HB.out⟩
end Go.Proofs.Ytffemfglngikbaa
namespace Go.Proofs.Ytffemfglngikbaa
section
variable {P:Program} {ops:Array Oper} {Q:Exit→Act→World→Prop} {S:World→Prop}
inductive Pl where
 | fin (l:List (Nat×Cls))
 | fork (l:List (Nat×Cls)) (i:Nat) (r:Pl) (j:Nat) (s:Pl)
def setL (listed:Array Bool) (l:List (Nat×Cls)):Array Bool:=l.foldl (fun g x=>g.setIfInBounds x.1 true) listed
def okL (ops:Array Oper):List (Nat×Cls)→Array Bool→Bool
 | [],_=>true
 | (k,c) :: rest,listed=>(if c == 2 then Region.ready .any ops listed == [k] else (Region.ready .any ops listed).contains k && Region.free .any ops listed k) && okL ops rest (listed.setIfInBounds k true)
def chkL (qs ls:List Nat) (l:List (Nat×Cls)):Bool:=l.all fun (k,c)=>(c != 2) == qs.contains k && (c != 1 || ls.contains k)
def okPl (ops:Array Oper) (qs ls:List Nat):Pl→Nat→Array Bool→Bool
 | .fin l,n,listed=>n == l.length && chkL qs ls l && okL ops l listed && (Region.ready .any ops (setL listed l)).isEmpty && l.all fun x=>x.1<ops.size
 | .fork l i r j s,n,listed=>decide (l.length+1≤n) && chkL qs ls l && okL ops l listed && (l.all fun x=>x.1<ops.size) && Region.ready .any ops (setL listed l) == [i,j] && !qs.contains i && !qs.contains j &&
  okPl ops qs ls r (n - l.length - 1) ((setL listed l).setIfInBounds i true) && okPl ops qs ls s (n - l.length - 1) ((setL listed l).setIfInBounds j true)
def wpY (P:Program) (ops:Array Oper) (Q:Exit→Act→World→Prop) (S:World→Prop) (ns:Nat→Bool) (R:Act→World→Prop):List (Nat×Cls×Oper)→Act→World→Prop
 | [],a,w=>R a w
 | (i,c,o) :: rest,a,w=>
   if c=2 then (if Region.wanted o (yielded ops a.tmps)=true then o.wp P a w (fun a' w'=>(ns i=true→S w')∧wpY P ops Q S ns R rest a' w') Q else (ns i=true→S w)∧wpY P ops Q S ns R rest (a.put o.dst undef) w)
   else ∃v,(if c=1 then YieldsIf P ops S o v a∧S w else Yields P ops o v a)∧wpY P ops Q S ns R rest (a.put o.dst v) w
def wpPl (P:Program) (ops:Array Oper) (Q:Exit→Act→World→Prop) (S:World→Prop) (ns:Nat→Bool):Pl→Act→World→Prop
 | .fin l,a,w=>wpY P ops Q S ns (fun a w=>Q .normal a w) (beside ops l) a w
 | .fork l i r j s,a,w=>wpY P ops Q S ns (fun a w=>wpOp P ops Q i (fun a' w'=>(ns i=true→S w')∧wpPl P ops Q S ns r a' w') a w∧wpOp P ops Q j (fun a' w'=>(ns j=true→S w')∧wpPl P ops Q S ns s a' w') a w) (beside ops l) a w
theorem closed_setL : ∀(l:List (Nat×Cls)) (listed:Array Bool),Closed ops listed→okL ops l listed=true→Closed ops (setL listed l)
 | [],_,h,_=>h
 | (k,c) :: rest,listed,h,hB=>by
   simp only [okL,Bool.and_eq_true] at hB
   refine closed_setL rest _ (closed_ready h ?_) hB.2
   by_cases hc:c=2
   · subst hc
     have hB1:=hB.1
     simp only [beq_self_eq_true,if_true] at hB1
     have hr:Region.ready .any ops listed = [k]:=by simpa using hB1
     rw [hr];simp
   · have hB1:=hB.1
     rw [if_neg (by simpa using hc)] at hB1
     simp only [Bool.and_eq_true] at hB1
     simpa using hB1.1
theorem wpAnyE_list {qt ns:Nat→Bool} {R:Act→World→Prop} {n:Nat} (hsel:Region.noSelect ops=true) (hQ : ∀c a a' w,Q (.panic c) a w→Q (.panic c) a' w) :
 ∀(rest:List (Nat×Cls)) (listed:Array Bool) (a:Act) (w:World),Closed ops listed→okL ops rest listed=true→(∀x∈rest,x.1<ops.size)→
  (∀k c,(k,c)∈rest→(qt k=true↔c≠2))→(∀k,(k,1)∈rest→∀j,waitsT ops ops.size j k=false→j≠k→j<ops.size→ns j=true)→
  (∀a w,R a w→wpAnyE P ops Q S qt ns n (setL listed rest) a w)→wpY P ops Q S ns R (beside ops rest) a w→wpAnyE P ops Q S qt ns (rest.length+n) listed a w
 | [],listed,a,w,_,_,_,_,_,hR,h=>by
   have:=hR a w h
   simpa [setL] using this
 | (k,c) :: rest,listed,a,w,hcl,hB,hl,hqt,hns,hR,h=>by
   simp only [okL,Bool.and_eq_true] at hB
   obtain ⟨hB1,hB2⟩:=hB
   have hi:k<ops.size:=hl (k,c) (by simp)
   have ho:ops[k]? = some ops[k]:=Array.getElem?_eq_getElem hi
   have hb:beside ops ((k,c) :: rest)=(k,c,ops[k]) :: beside ops rest:=by simp [beside,ho]
   have ih:=fun listed' a w hcl' hB' hR' h'=>wpAnyE_list (R:=R) (n:=n) hsel hQ rest listed' a w hcl' hB' (fun x hx=>hl x (by simp [hx])) (fun k c hk=>hqt k c (by simp [hk])) (fun k hk=>hns k (by simp [hk])) hR' h'
   rw [hb] at h
   simp only [wpY] at h
   have hlen:((k,c) :: rest).length+n=(rest.length+n)+1:=by simp;omega
   rw [hlen]
   by_cases hc:c=2
   · subst hc
     simp only [beq_self_eq_true,if_true] at hB1
     have hr:Region.ready .any ops listed = [k]:=by simpa using hB1
     simp only [if_true] at h
     have hcl2:=closed_ready hcl (i:=k) (by rw [hr];simp)
     refine ⟨fun h0=>(by rw [hr] at h0;cases h0),fun i hi'=>?_⟩
     rw [hr] at hi'
     obtain rfl:i=k:=by simpa using hi'
     have hbh : ∀w',(ns i=true→S w')→behind S qt ns i w w':=fun w' hs=>by
      unfold behind
      rw [if_neg (fun hq=>(hqt i 2 (by simp)).1 hq rfl)]
      exact hs
     unfold wpOp
     simp only [ho]
     split
     · rename_i hw
       rw [if_pos hw] at h
       exact .inl (Oper.wp_mono (fun a' w' h'=>⟨hbh w' h'.1,ih _ a' w' hcl2 hB2 hR h'.2⟩) h)
     · rename_i hw
       rw [if_neg hw] at h
       exact ⟨hbh w h.1,ih _ _ w hcl2 hB2 hR h.2⟩
   · rw [if_neg (by simpa using hc)] at hB1
     simp only [Bool.and_eq_true] at hB1
     rw [if_neg hc] at h
     obtain ⟨v,hy,hk⟩:=h
     have hrdy:k∈Region.ready .any ops listed:=by simpa using hB1.1
     have hrest:=ih _ _ w (closed_ready hcl hrdy) hB2 hR hk
     by_cases h1:c=1
     · subst h1
       rw [if_pos rfl] at hy
       exact wpAnyE_first ho (Region.noSelect_spec hsel) (fun c a w=>hQ c _ _ w) true ((hqt k 1 (by simp)).2 hc) (fun _=>hns k (by simp)) (rest.length+n) listed a w hcl (Region.free_spec ho hB1.2) hrdy
        (hy.1.imp (fun ⟨p,q⟩=>⟨p,fun w' hw'=>q w' (hw' rfl)⟩) id) (fun _=>hy.2) hrest
     · rw [if_neg h1] at hy
       exact wpAnyE_first ho (Region.noSelect_spec hsel) (fun c a w=>hQ c _ _ w) false ((hqt k c (by simp)).2 hc) (fun h=>by cases h) (rest.length+n) listed a w hcl (Region.free_spec ho hB1.2) hrdy
        (hy.imp (fun ⟨p,q⟩=>⟨p,fun w' _=>q w'⟩) id) (fun h=>by cases h) hrest
theorem wpAnyE_pl {qs ls:List Nat} (hsel:Region.noSelect ops=true) (hQ : ∀c a a' w,Q (.panic c) a w→Q (.panic c) a' w) (p:Pl) :
 ∀(n:Nat) (listed:Array Bool) (a:Act) (w:World),Closed ops listed→okPl ops qs ls p n listed=true→
  wpPl P ops Q S (fun j=>ls.any fun k=>k != j && !waitsT ops ops.size j k) p a w→wpAnyE P ops Q S (fun k=>qs.contains k) (fun j=>ls.any fun k=>k != j && !waitsT ops ops.size j k) n listed a w:=by
 have hq : ∀l,chkL qs ls l=true→∀k c,(k,c)∈l→(qs.contains k=true↔c≠2):=fun l hl k c hk=>by
  have:=List.all_eq_true.1 hl (k,c) hk
  simp only [Bool.and_eq_true,beq_iff_eq] at this
  rw [← this.1];simp
 have hn : ∀l,chkL qs ls l=true→∀k,(k,1)∈l→∀j,waitsT ops ops.size j k=false→j≠k→j<ops.size→(ls.any fun k=>k != j && !waitsT ops ops.size j k)=true:=fun l hl k hk j hw hjk _=>by
  have:=List.all_eq_true.1 hl (k,1) hk
  simp only [Bool.and_eq_true] at this
  have h2:ls.contains k=true:=by simpa using this.2
  rw [List.any_eq_true]
  exact ⟨k,by simpa using h2,by rw [hw];simp [Ne.symm hjk]⟩
 induction p with
 | fin l=>
   intro n listed a w hcl hB h
   simp only [okPl,Bool.and_eq_true,beq_iff_eq] at hB
   obtain ⟨⟨⟨⟨rfl,hc⟩,hL⟩,he⟩,hlt⟩:=hB
   have:=wpAnyE_list (P:=P) (Q:=Q) (S:=S) (qt:=fun k=>qs.contains k) (ns:=fun j=>ls.any fun k=>k != j && !waitsT ops ops.size j k) (R:=fun a w=>Q .normal a w) (n:=0) hsel hQ l listed a w hcl hL (by simpa [List.all_eq_true] using hlt) (hq l hc) (hn l hc)
    (fun a w h=>⟨by simpa using he,h⟩) h
   simpa using this
 | fork l i r j s ihr ihs=>
   intro n listed a w hcl hB h
   simp only [okPl,Bool.and_eq_true,beq_iff_eq,decide_eq_true_eq,Bool.not_eq_true'] at hB
   obtain ⟨⟨⟨⟨⟨⟨⟨⟨hlen,hc⟩,hL⟩,hlt⟩,hrd⟩,hqi⟩,hqj⟩,hr⟩,hs⟩:=hB
   obtain ⟨m,rfl⟩ : ∃m,n=l.length+(m+1):=⟨n - l.length - 1,by omega⟩
   have em:l.length+(m+1) - l.length - 1=m:=by omega
   rw [em] at hr hs
   have hcl2:=closed_setL l listed hcl hL
   refine wpAnyE_list (P:=P) (Q:=Q) (S:=S) (qt:=fun k=>qs.contains k) (ns:=fun j=>ls.any fun k=>k != j && !waitsT ops ops.size j k) (n:=m+1) hsel hQ l listed a w hcl hL (by simpa [List.all_eq_true] using hlt) (hq l hc) (hn l hc) (fun a w hR=>?_) h
   refine ⟨fun h0=>(by rw [hrd] at h0;cases h0),fun k hk=>?_⟩
   have hcl3:=closed_ready hcl2 hk
   rw [hrd] at hk
   simp only [List.mem_cons,List.not_mem_nil,or_false] at hk
   rcases hk with rfl | rfl
   · refine wpOp_mono (fun a' w' h'=>⟨?_,ihr m _ a' w' hcl3 hr h'.2⟩) hR.1
     unfold behind
     rw [if_neg (by simp only [hqi];simp)]
     exact h'.1
   · refine wpOp_mono (fun a' w' h'=>⟨?_,ihs m _ a' w' hcl3 hs h'.2⟩) hR.2
     unfold behind
     rw [if_neg (by simp only [hqj];simp)]
     exact h'.1
theorem wp_region_Pl {id:Nat} {l:List Oper} {a:Act} {w:World} (S:World→Prop) (qs ls:List Nat) (p:Pl) (hm:P.follows .mixedOrders=true) (hsel:Region.noSelect l.toArray=true)
 (hB:okPl l.toArray qs ls p l.toArray.size (Array.replicate l.toArray.size false)=true)
 (h : ∀K:Act→World→Prop,(∀a w,Q .normal a w→K a w)→wpPl P l.toArray (OnlyN K) S (fun j=>ls.any fun k=>k != j && !waitsT l.toArray l.toArray.size j k) p a w.drew):(Code.region id l.toArray true).wp P Q a w:=by
 refine Code.wp_mono (Q:=OnlyN fun a w=>Q .normal a w) (fun e a w hq=>by cases e<;>first | exact hq | exact hq.elim) (wp_region_any hm ?_)
 have hcl:Closed l.toArray (Array.replicate l.toArray.size false):=fun m o hm=>by rw [getD_replicate_false] at hm;cases hm
 exact wpAny_of_E _ _ _ _ (wpAnyE_pl (P:=P) (Q:=OnlyN fun a w=>Q .normal a w) (S:=S) hsel (fun c a a' w h=>h) p _ _ a w.drew hcl hB (h _ (fun _ _ h=>h)))
variable {ns:Nat→Bool} {R:Act→World→Prop} {rest:List (Nat×Cls×Oper)} {a:Act} {w:World} {i:Nat} {o:Oper}
theorem wpY_nil (h:R a w):wpY P ops Q S ns R [] a w:=h
theorem wpY_w (v:Value) (hy:Yields P ops o v a) (h:wpY P ops Q S ns R rest (a.put o.dst v) w):wpY P ops Q S ns R ((i,0,o) :: rest) a w:=by
 simp only [wpY]
 exact ⟨v,by simpa using hy,h⟩
theorem wpY_l (v:Value) (hS:S w) (hy:YieldsIf P ops S o v a) (h:wpY P ops Q S ns R rest (a.put o.dst v) w):wpY P ops Q S ns R ((i,1,o) :: rest) a w:=by
 simp only [wpY]
 exact ⟨v,by simpa using ⟨hy,hS⟩,h⟩
theorem wpY_e (hn:ns i=false)
 (h : ∀K:Act→World→Prop,(∀a w,wpY P ops Q S ns R rest a w→K a w)→if Region.wanted o (yielded ops a.tmps)=true then Oper.wp P o a w K Q else K (a.put o.dst undef) w):wpY P ops Q S ns R ((i,2,o) :: rest) a w:=by
 have:=h (fun a' w'=>(ns i=true→S w')∧wpY P ops Q S ns R rest a' w') (fun a w h2=>⟨fun h=>absurd h (by rw [hn];simp),h2⟩)
 simpa only [wpY,if_true] using this
theorem wpY_es
 (h : ∀K:Act→World→Prop,(∀a w,S w→wpY P ops Q S ns R rest a w→K a w)→if Region.wanted o (yielded ops a.tmps)=true then Oper.wp P o a w K Q else K (a.put o.dst undef) w):wpY P ops Q S ns R ((i,2,o) :: rest) a w:=by
 have:=h (fun a' w'=>(ns i=true→S w')∧wpY P ops Q S ns R rest a' w') (fun a w h1 h2=>⟨fun _=>h1,h2⟩)
 simpa only [wpY,if_true] using this
theorem wpOp_c {C:World→Prop} {H:Act→World→Prop} (hC : ∀w,C w) (ho:ops[i]? = some o)
 (h : ∀K:Act→World→Prop,(∀a w,H a w→K a w)→if Region.wanted o (yielded ops a.tmps)=true then Oper.wp P o a w K Q else K (a.put o.dst undef) w) :
 wpOp P ops Q i (fun a' w'=>C w'∧H a' w') a w:=by
 have h2:=h (fun a' w'=>C w'∧H a' w') (fun a w h2=>⟨hC w,h2⟩)
 unfold wpOp
 simp only [ho]
 split
 · rename_i hw
   rw [if_pos hw] at h2
   exact .inl h2
 · rename_i hw
   rw [if_neg hw] at h2
   exact h2
theorem wpOp_cs {C:World→Prop} {H:Act→World→Prop} (ho:ops[i]? = some o)
 (h : ∀K:Act→World→Prop,(∀a w,C w→H a w→K a w)→if Region.wanted o (yielded ops a.tmps)=true then Oper.wp P o a w K Q else K (a.put o.dst undef) w) :
 wpOp P ops Q i (fun a' w'=>C w'∧H a' w') a w:=by
 have h2:=h (fun a' w'=>C w'∧H a' w') (fun a w h1 h2=>⟨h1,h2⟩)
 unfold wpOp
 simp only [ho]
 split
 · rename_i hw
   rw [if_pos hw] at h2
   exact .inl h2
 · rename_i hw
   rw [if_neg hw] at h2
   exact h2
end
end Go.Proofs.Ytffemfglngikbaa
namespace Go.Proofs.Ytffemfglngikbaa
open Go.RowKit
def Fresh1 {α:Type} (e size:Nat) (cells:α→List Value) (l:List α) (w:World) (en:Ending) (w':World):Prop:=
 ∃A c,en = .returned (.slice A l.length c)∧w'.ownsRow 0 e size (.slice A l.length c) l.length (l.flatMap cells)∧AIn A (NewD w.heap.size w')∧Below w.heap.size w w'
theorem fresh1_of {α:Type} {e size:Nat} {cells:α→List Value} {l:List α} {w w':World} {v v0:Value} (hown:w'.ownsRow 0 e size v l.length (l.flatMap cells)) (hat:v.ownBlock=v0.ownBlock∨v.ownBlock=some w.heap.size) (h0:v0.ownBlock=none) (hg:w.grownBy w' v0.ownBlock) :
 ∃A c,v = .slice A l.length c∧w'.ownsRow 0 e size (.slice A l.length c) l.length (l.flatMap cells)∧AIn A (NewD w.heap.size w')∧Below w.heap.size w w':=by
 have hlt:=own_lt hown
 obtain ⟨A,c,rfl,_,_,_⟩:=own_form2 hown
 refine ⟨A,c,rfl,hown,fun a ha=>?_,(Below.refl w.heap.size w).grown hg (Nat.le_refl _) (fun k hk=>by rw [h0] at hk;cases hk)⟩
 subst ha
 rcases hat with h | h
 · rw [h0] at h;cases h
 · have:=hlt a.block rfl
   simp only [Value.ownBlock,Option.some.injEq] at h
   exact ⟨by omega,this⟩
theorem owns_nilC (W:World) (e size:Nat):W.ownsRow 0 e size (.slice none 0 0) 0 []:=⟨by simp,.inl ⟨rfl,rfl⟩⟩
theorem Fresh1.row {α:Type} {e size:Nat} {cells:α→List Value} (hs : ∀a,(cells a).length=size) {l:List α} {A:Option Addr} {c B:Nat} {w':World} (h:w'.ownsRow 0 e size (.slice A l.length c) l.length (l.flatMap cells)) (hA:AIn A (NewD B w')):RowR (RepT.flat size cells hs) (NewD B w') w' A c l:=RowR.of_rd (ownsRow_rd hs h) hA
set_option maxRecDepth 100000 in
set_option maxHeartbeats 4000000 in
theorem cp_Sym (A:Option Addr) (c:Nat) (l:List Sym) (w:World) (hrd:RowRd w 3 Sym.cells A c l) (hl:(l.length:Int)≤100000) :
 Calls Try.prog 82 #[.slice A l.length c] w (Fresh1 52 3 Sym.cells l w):=by
 obtain ⟨i0,hi0,hz0,hz1,hz2⟩:=infp inf_Sym
 have HRD:=Lib.hid hrd
 have hlc:=hrd.cap
 have hlcc:=hrd.1
 clear hrd
 go_enter Try.func82,Try.ntmps82
 go_wp2_with (at_builtin;refine wpList_append_src w rfl (.const (.slice none 0 0)) (.tmp 3) 63 rfl 52 i0 _ 3 32 Try.underlying63 hi0 hz0 hz1 hz2 rfl (by omega) (.slice none 0 0) 0 [] rfl (owns_nilC w _ _) A l.length c (l.flatMap Sym.cells) rfl (flat_length Sym.cells_length _) (HRD.out.news Sym.cells_length (by omega)) (one_Sym _) (by unfold maxLen;omega) (by omega) ?_;intro v1 w2 hown1 hg1 hnil1 hat1)
 go_ret
 rw [Nat.zero_add,List.nil_append] at hown1
 obtain ⟨A',c',rfl,h1,h2,h3⟩:=fresh1_of hown1 hat1 rfl hg1
 exact ⟨A',c',rfl,h1,h2,h3⟩
set_option maxRecDepth 100000 in
set_option maxHeartbeats 4000000 in
theorem cp_Act (A:Option Addr) (c:Nat) (l:List ActT) (w:World) (hrd:RowRd w 19 ActT.cells A c l) (hl:(l.length:Int)≤100000) :
 Calls Try.prog 32 #[.slice A l.length c] w (Fresh1 58 19 ActT.cells l w):=by
 obtain ⟨i0,hi0,hz0,hz1,hz2⟩:=infp inf_Act
 have HRD:=Lib.hid hrd
 have hlc:=hrd.cap
 have hlcc:=hrd.1
 clear hrd
 go_enter Try.func32,Try.ntmps32
 go_wp2_with (at_builtin;refine wpList_append_src w rfl (.const (.slice none 0 0)) (.tmp 3) 23 rfl 58 i0 _ 19 224 Try.underlying23 hi0 hz0 hz1 hz2 rfl (by omega) (.slice none 0 0) 0 [] rfl (owns_nilC w _ _) A l.length c (l.flatMap ActT.cells) rfl (flat_length ActT.cells_length _) (HRD.out.news ActT.cells_length (by omega)) (one_Act _) (by unfold maxLen;omega) (by omega) ?_;intro v1 w2 hown1 hg1 hnil1 hat1)
 go_ret
 rw [Nat.zero_add,List.nil_append] at hown1
 obtain ⟨A',c',rfl,h1,h2,h3⟩:=fresh1_of hown1 hat1 rfl hg1
 exact ⟨A',c',rfl,h1,h2,h3⟩
end Go.Proofs.Ytffemfglngikbaa
namespace Go.Proofs.Ytffemfglngikbaa
open Go.RowKit
def SmT (l:List TestT):Prop:=l.length≤1000∧∀t∈l,t.list.length≤1000
def FreshR {α:Type} (r:RepT α) (l:List α) (w:World) (en:Ending) (w':World):Prop:=
 ∃A c,en = .returned (.slice A l.length c)∧RowR r (NewD w.heap.size w') w' A c l∧AIn A (NewD w.heap.size w')∧Below w.heap.size w w'
theorem NewD.up {B B':Nat} {w w':World} (hB:B'≤B) (hw:w.heap.size≤w'.heap.size) : ∀k,NewD B w k→NewD B' w' k:=fun k hk=>⟨by have:=hk.1;omega,by have:=hk.2;omega⟩
theorem rep_test {D:Nat→Prop} {w:World} {y:TestT} {A:Option Addr} {c:Nat} (h:RowR repSym D w A c y.list):repTestT.rep D w y [.int .i64 y.rel,.string y.var,.int .i64 y.sym.kind,.string y.sym.text,.int .i64 y.sym.n,.slice A y.list.length c]:=⟨A,c,rfl,h⟩
def Copies {α:Type} (r:RepT α) (e:TypeId) (w:World) (l:List α) (v:Value) (wr:World):Prop:=
 ∃C A c,v = .slice A l.length c∧OwnC r e C wr v l∧(∀j,C j→NewD w.heap.size wr j)∧AIn A (NewD w.heap.size wr)∧Below w.heap.size w wr
theorem Copies.nil {α:Type} (r:RepT α) (e:TypeId) (w:World) {wr:World} (hb:Below w.heap.size w wr):Copies r e w [] (.slice none 0 0) wr:=
 ⟨fun _=>False,none,0,rfl,OwnC.nil _ _ _ _,fun _ h=>h.elim,AIn.none_ _,hb⟩
theorem Copies.done {α:Type} {r:RepT α} {e:TypeId} {w wr:World} {l:List α} {v:Value} (h:Copies r e w l v wr):FreshR r l w (.returned v) wr:=by
 obtain ⟨C,A,c,rfl,h1,h2,h3,h4⟩:=h
 exact ⟨A,c,rfl,h1.row h2 h3,h3,h4⟩
theorem Copies.snoc {α:Type} {r:RepT α} {e:TypeId} {w wr W W':World} {C:Nat→Prop} {l:List α} {y:α} {A:Option Addr} {c:Nat} {v':Value} (h2 : ∀j,C j→NewD w.heap.size wr j) (h3:AIn A (NewD w.heap.size wr)) (h4:Below w.heap.size w wr)
 (hb:Below wr.heap.size wr W) (ha:Appended r e (Plus C wr W) W (.slice A l.length c) (l ++ [y]) v' W'):Copies r e w (l ++ [y]) v' W':=by
 obtain ⟨g1,g2,g3⟩:=ha
 have hz:=hb.size
 have hz2:=g2.size
 have hz4:=h4.size
 obtain ⟨A',c',rfl,_,_,hA'⟩:=g1.form
 refine ⟨Plus C wr W,A',c',rfl,g1,fun j hj=>?_,fun a ha=>⟨?_,(hA' a ha).1⟩,(h4.trans (hb.mono hz4)).grown g2 (by omega) (fun k hk=>?_)⟩
 · rcases hj with hj | hj
   · have:=h2 j hj;exact ⟨this.1,by have:=this.2;omega⟩
   · exact ⟨by omega,by omega⟩
 · subst ha
   rcases g3 with g3 | g3
   · rcases A with _ | b
     · simp [Value.ownBlock] at g3
     · simp only [Value.ownBlock,Option.some.injEq] at g3
       have:=(h3 b rfl).1
       omega
   · simp only [Value.ownBlock,Option.some.injEq] at g3
     omega
 · rcases A with _ | b
   · simp [Value.ownBlock] at hk
   · simp only [Value.ownBlock,Option.some.injEq] at hk
     have:=(h3 b rfl).1
     omega
theorem Copies.below {α:Type} {r:RepT α} {e:TypeId} {w wr W:World} {l:List α} {v:Value} (h:Copies r e w l v wr) (hb:Below wr.heap.size wr W):Copies r e w l v W:=by
 obtain ⟨C,A,c,rfl,h1,h2,h3,h4⟩:=h
 exact ⟨C,A,c,rfl,h1.new_ hb,fun j hj=>NewD.up (Nat.le_refl _) hb.size j (h2 j hj),h3.mono (fun j hj=>NewD.up (Nat.le_refl _) hb.size j hj),h4.trans (hb.mono h4.size)⟩
theorem take_snoc {α:Type} {l:List α} {k:Nat} (hk:k<l.length):l.take k ++ [l[k]]=l.take (k+1):=by rw [List.take_add_one,List.getElem?_eq_getElem hk];rfl
theorem take_len {α:Type} {l:List α} {k:Nat} (hk:k≤l.length):(l.take k).length=k:=by simp;omega
end Go.Proofs.Ytffemfglngikbaa
namespace Go.Proofs.Ytffemfglngikbaa
open Go.RowKit
def SmC:Nat→CondT→Prop
 | 0,_=>True
 | n+1,c=>SmT c.attr∧SmT c.value∧c.conds.length≤1000∧∀x∈c.conds,SmC n x
def FreshC (n:Nat) (c:CondT) (w:World) (en:Ending) (w':World):Prop:=
 ∃A1 c1 A2 c2 A3 c3,en = .returned (.agg #[.int .i64 c.kind,.bool c.goal,.string c.id,.slice A1 c.attr.length c1,.slice A2 c.value.length c2,.bool c.acc,.slice A3 c.conds.length c3])∧RowR repTestT (NewD w.heap.size w') w' A1 c1 c.attr∧RowR repTestT (NewD w.heap.size w') w' A2 c2 c.value∧RowR (repCondT n) (NewD w.heap.size w') w' A3 c3 c.conds∧Below w.heap.size w w'
def CopyOk (f n:Nat):Prop:=∀(c:CondT) (A1:Option Addr) (c1:Nat) (A2:Option Addr) (c2:Nat) (A3:Option Addr) (c3:Nat) (D:Nat→Prop) (w:World),
 RowR repTestT D w A1 c1 c.attr→RowR repTestT D w A2 c2 c.value→RowR (repCondT n) D w A3 c3 c.conds→SmC (n+1) c→Calls Try.prog f #[.agg #[.int .i64 c.kind,.bool c.goal,.string c.id,.slice A1 c.attr.length c1,.slice A2 c.value.length c2,.bool c.acc,.slice A3 c.conds.length c3]] w (FreshC n c w)
theorem rep_cond {n:Nat} {D:Nat→Prop} {w:World} {y:CondT} {Ay1 Ay2 Ay3:Option Addr} {cy1 cy2 cy3:Nat} (h1:RowR repTestT D w Ay1 cy1 y.attr) (h2:RowR repTestT D w Ay2 cy2 y.value) (h3:RowR (repCondT n) D w Ay3 cy3 y.conds) :
 (repCondT (n+1)).rep D w y [.int .i64 y.kind,.bool y.goal,.string y.id,.slice Ay1 y.attr.length cy1,.slice Ay2 y.value.length cy2,.bool y.acc,.slice Ay3 y.conds.length cy3]:=⟨Ay1,cy1,Ay2,cy2,Ay3,cy3,rfl,h1,h2,h3⟩
theorem row0 {D:Nat→Prop} {w:World} {A:Option Addr} {c:Nat} {l:List CondT} (h:RowR (repCondT 0) D w A c l):l = []:=by
 cases l with
 | nil=>rfl
 | cons x l=>
   obtain ⟨_,_,_,_,_,_,hr,_⟩:=h.at_ (k:=0) (by simp)
   exact hr.elim
theorem RowR.newD {α:Type} {r:RepT α} {B B':Nat} {w w':World} {A:Option Addr} {c:Nat} {l:List α} (h:RowR r (NewD B w) w A c l) (hb:Below w.heap.size w w') (hB:B'≤B):RowR r (NewD B' w') w' A c l:=
 h.keep hb.size (fun j hj hl=>⟨NewD.up hB hb.size j hj,hb.block j hl⟩)
theorem blk_setCells (b:Nat) : ∀(vs:List Value) (o:Nat) (w:World) (j:Nat),j≠b→(w.setCells b o vs).heap[j]? = w.heap[j]?
 | [],_,_,_,_=>rfl
 | v :: r,o,w,j,h=>by
   rw [World.setCells,blk_setCells b r (o+1) _ j h]
   exact Below.heap_setCell _ _ _ _ h
end Go.Proofs.Ytffemfglngikbaa
namespace Go.Proofs.Ytffemfglngikbaa
open Go.RowKit Go.Shelf
set_option maxRecDepth 100000 in
set_option maxHeartbeats 16000000 in
theorem tests_same {D D':Nat→Prop} {A B:Option Addr} {c d:Nat} (l:List TestT) (w:World) (hl:RowR repTestT D w A c l) (hm:RowR repTestT D' w B d l) :
 Calls Try.prog 74 #[.slice A l.length c,.slice B l.length d] w fun e w'=>e = .returned (.bool true)∧Below w.heap.size w w':=by
 have HL:=Lib.hid hl
 have HM:=Lib.hid hm
 have hlc:=hl.cap
 clear hl hm
 go_enter Try.func74,Try.ntmps74
 go_wp2_with fail
 go_loopw [5] (fun s wr=>∃i:Nat,s = .int .i64 i∧i≤l.length∧Below w.heap.size w wr) (fun s wr=>l.length - (intOf s).toNat)
 case atStart=>exact ⟨0,rfl,Nat.zero_le _,Below.refl _ _⟩
 case round=>
  obtain ⟨i,rfl,hi,hB⟩:=hrel
  have HB:=Lib.hid hB
  clear hB
  by_cases hlt:i<l.length
  · obtain ⟨y,hy⟩ : ∃y,y=l[i]:=⟨_,rfl⟩
    have b1:(0:Int)≤(i:Int):=by omega
    have b2:(i:Int)<(l.length:Int):=by omega
    obtain ⟨g,off,A3,c3,rfl,_,hgs,q0,q1,q2,q3,q4,q5,h3⟩:=at_TestT (HL.out.new_ HB.out) hlt
    obtain ⟨g2,off2,B3,d3,rfl,_,hgs2,p0,p1,p2,p3,p4,p5,k3⟩:=at_TestT (HM.out.new_ HB.out) hlt
    rw [← hy] at q0 q1 q2 q3 q4 q5 p0 p1 p2 p3 p4 p5 h3 k3
    have H3:=Lib.hid h3
    have K3:=Lib.hid k3
    have hbe:=fun W=>neqs_Sym y.sym W
    clear hy h3 k3
    go_wp2_with fail
    refine wp_region_E (fun w9=>Below wr.heap.size wr w9) [(0,0),(1,0),(2,0),(3,0),(4,1),(5,0),(6,0),(7,0),(8,0),(9,1),(10,0),(11,0),(12,0),(13,0),(14,0),(15,0),(16,1),(17,0),(18,0),(19,0),(20,0),(21,1),(22,0),(23,0),(24,0),(25,0),(26,0),(27,0),(28,0),(29,1),(30,0),(31,0),(32,0),(33,0),(34,1),(35,0),(36,0),(37,0),(38,0),(39,0),(40,0),(41,0),(42,1),(43,0),(44,0),(45,0),(46,0),(47,1),(48,2),(49,0),(50,0)] (by kernel_rfl) (by kernel_rfl) (fun KK hKK=>?_)
    simp only [beside,List.filterMap_cons,List.filterMap_nil,List.getElem?_toArray,List.getElem?_cons_zero,List.getElem?_cons_succ,Option.map_some]
    repeat ((first | (refine wpX_w ?_ (Or.inl ⟨by rfl,fun w9=>?_⟩) ?_;rotate_left 1;go_simp;with_reducible rfl) | (refine wpX_l ?_ (((Below.refl _ _).drew)) (Or.inl ⟨by rfl,fun w9 hw9=>?_⟩) ?_;rotate_left 1;obtain ⟨hc9,hf9⟩:=bcell hw9;go_simp;with_reducible rfl) | refine wpX_w undef (Or.inr ⟨by rfl,rfl⟩) ?_ | refine wpX_l undef (((Below.refl _ _).drew)) (Or.inr ⟨by rfl,rfl⟩) ?_);go_frame)
    refine wpX_e (by kernel_rfl) (fun K9 hK9=>?_)
    go_simp
    refine (syms_same y.list _ (H3.out.new_ ((Below.refl _ _).drew)) (K3.out.new_ ((Below.refl _ _).drew))).mono ?_
    rintro e w5 ⟨rfl,hb5⟩
    have HB2:=Lib.hid ((HB.out.drew).trans (hb5.mono HB.out.size))
    clear hb5
    refine hK9 _ _ ?_
    clear hK9 K9
    repeat ((first | (refine wpX_w ?_ (Or.inl ⟨by rfl,fun w9=>?_⟩) ?_;rotate_left 1;go_simp;with_reducible rfl) | (refine wpX_l ?_ (((Below.refl _ _).drew)) (Or.inl ⟨by rfl,fun w9 hw9=>?_⟩) ?_;rotate_left 1;obtain ⟨hc9,hf9⟩:=bcell hw9;go_simp;with_reducible rfl) | refine wpX_w undef (Or.inr ⟨by rfl,rfl⟩) ?_ | refine wpX_l undef (((Below.refl _ _).drew)) (Or.inr ⟨by rfl,rfl⟩) ?_);go_frame)
    refine wpX_nil ?_
    simp only [OnlyN_normal]
    refine hKK _ _ ?_
    clear hKK KK
    clear q0 q1 q2 q3 q4 q5 p0 p1 p2 p3 p4 p5
    go_wp2_with fail
    go_roundw
    case rel=>exact ⟨i+1,by go_num,by omega,HB2.out⟩
    case measure=>simp [intOf]<;>omega
  · obtain rfl:i=l.length:=by omega
    go_wp2_with fail
    go_ret
    exact ⟨rfl,HB.out⟩
end Go.Proofs.Ytffemfglngikbaa
namespace Go.Proofs.Ytffemfglngikbaa
open Go.RowKit Go.Shelf
abbrev CondsSame (n:Nat):Prop:=∀(D D':Nat→Prop) (A B:Option Addr) (c d:Nat) (l:List CondT) (w:World),RowR (repCondT n) D w A c l→RowR (repCondT n) D' w B d l→
 Calls Try.prog 36 #[.slice A l.length c,.slice B l.length d] w fun e w'=>e = .returned (.bool true)∧Below w.heap.size w w'
set_option maxRecDepth 100000 in
set_option maxHeartbeats 4000000 in
theorem cond_same (n:Nat) (ih:CondsSame n) {D D':Nat→Prop} (y:CondT) (A1:Option Addr) (a1:Nat) (A2:Option Addr) (a2:Nat) (A3:Option Addr) (a3:Nat) (B1:Option Addr) (b1:Nat) (B2:Option Addr) (b2:Nat) (B3:Option Addr) (b3:Nat) (w:World)
 (g1:RowR repTestT D w A1 a1 y.attr) (g2:RowR repTestT D w A2 a2 y.value) (g3:RowR (repCondT n) D w A3 a3 y.conds) (k1:RowR repTestT D' w B1 b1 y.attr) (k2:RowR repTestT D' w B2 b2 y.value) (k3:RowR (repCondT n) D' w B3 b3 y.conds) :
 Calls Try.prog 59 #[.agg #[.int .i64 y.kind,.bool y.goal,.string y.id,.slice A1 y.attr.length a1,.slice A2 y.value.length a2,.bool y.acc,.slice A3 y.conds.length a3],.agg #[.int .i64 y.kind,.bool y.goal,.string y.id,.slice B1 y.attr.length b1,.slice B2 y.value.length b2,.bool y.acc,.slice B3 y.conds.length b3]] w fun e w'=>e = .returned (.bool true)∧Below w.heap.size w w':=by
 have G1:=Lib.hid g1
 have G2:=Lib.hid g2
 have G3:=Lib.hid g3
 have K1:=Lib.hid k1
 have K2:=Lib.hid k2
 have K3:=Lib.hid k3
 have IH:=Lib.hid ih
 clear g1 g2 g3 k1 k2 k3 ih
 go_enter Try.func59,Try.ntmps59
 go_upto_region 1 with fail
 obtain ⟨w1,hw1⟩ : ∃w1,w1=((w.alloc (.cells #[.int .i64 y.kind,.bool y.goal,.string y.id,.slice A1 y.attr.length a1,.slice A2 y.value.length a2,.bool y.acc,.slice A3 y.conds.length a3] 50)).alloc (.cells #[.int .i64 y.kind,.bool y.goal,.string y.id,.slice B1 y.attr.length b1,.slice B2 y.value.length b2,.bool y.acc,.slice B3 y.conds.length b3] 50)):=⟨_,rfl⟩
 rw [← hw1]
 have HB:=Lib.hid (show Below w.heap.size w w1 by rw [hw1];exact (by repeat (first | exact Below.refl _ _ | refine Below.drew ?_ | refine Below.al ?_ _ | refine Below.sc ?_ _)))
 have Ka:=Lib.hid (show Blk w1 (w.heap.size) 50 #[.int .i64 y.kind,.bool y.goal,.string y.id,.slice A1 y.attr.length a1,.slice A2 y.value.length a2,.bool y.acc,.slice A3 y.conds.length a3] by rw [hw1];exact ((Blk.new w 50 #[.int .i64 y.kind,.bool y.goal,.string y.id,.slice A1 y.attr.length a1,.slice A2 y.value.length a2,.bool y.acc,.slice A3 y.conds.length a3]).alloc (.cells #[.int .i64 y.kind,.bool y.goal,.string y.id,.slice B1 y.attr.length b1,.slice B2 y.value.length b2,.bool y.acc,.slice B3 y.conds.length b3] 50)))
 have Kb:=Lib.hid (show Blk w1 (w.heap.size+1) 50 #[.int .i64 y.kind,.bool y.goal,.string y.id,.slice B1 y.attr.length b1,.slice B2 y.value.length b2,.bool y.acc,.slice B3 y.conds.length b3] by rw [hw1];have hh:=(Blk.new (w.alloc (.cells #[.int .i64 y.kind,.bool y.goal,.string y.id,.slice A1 y.attr.length a1,.slice A2 y.value.length a2,.bool y.acc,.slice A3 y.conds.length a3] 50)) 50 #[.int .i64 y.kind,.bool y.goal,.string y.id,.slice B1 y.attr.length b1,.slice B2 y.value.length b2,.bool y.acc,.slice B3 y.conds.length b3]);simp only [World.size_alloc] at hh;exact hh)
 clear hw1
 obtain ⟨a0,a1,a2,a3,a4,a5,a6⟩:=Ka.out.c7
 have az:=Ka.out.lt
 obtain ⟨b0,b1,b2,b3,b4,b5,b6⟩:=Kb.out.c7
 have bz:=Kb.out.lt
 go_wp2_with fail
 with_reducible refine (tests_same y.attr _ (G1.out.new_ (by (repeat (first | exact Below.refl _ _ | exact HB.out | refine Below.drew ?_ | refine Below.al ?_ _ | refine Below.sc ?_ _)))) (K1.out.new_ (by (repeat (first | exact Below.refl _ _ | exact HB.out | refine Below.drew ?_ | refine Below.al ?_ _ | refine Below.sc ?_ _))))).mono ?_
 rintro e w2 ⟨rfl,hb⟩
 have hbs:=Below.trans (show Below w1.heap.size w1 _ from (by (repeat (first | exact Below.refl _ _ | refine Below.drew ?_ | refine Below.al ?_ _ | refine Below.sc ?_ _)))) (hb.mono (by simp<;>omega))
 have Ka:=Lib.hid (Ka.out.new_ hbs)
 have Kb:=Lib.hid (Kb.out.new_ hbs)
 have HB:=Lib.hid (HB.out.trans (hbs.mono HB.out.size))
 have hsz2:=hbs.size
 clear a0 a1 a2 a3 a4 a5 a6 az b0 b1 b2 b3 b4 b5 b6 bz hb hbs
 obtain ⟨a0,a1,a2,a3,a4,a5,a6⟩:=Ka.out.c7
 have az:=Ka.out.lt
 obtain ⟨b0,b1,b2,b3,b4,b5,b6⟩:=Kb.out.c7
 have bz:=Kb.out.lt
 go_wp2_with fail
 with_reducible refine (tests_same y.value _ (G2.out.new_ (by (repeat (first | exact Below.refl _ _ | exact HB.out | refine Below.drew ?_ | refine Below.al ?_ _ | refine Below.sc ?_ _)))) (K2.out.new_ (by (repeat (first | exact Below.refl _ _ | exact HB.out | refine Below.drew ?_ | refine Below.al ?_ _ | refine Below.sc ?_ _))))).mono ?_
 rintro e w3 ⟨rfl,hb⟩
 have hbs:=Below.trans (show Below w2.heap.size w2 _ from (by (repeat (first | exact Below.refl _ _ | refine Below.drew ?_ | refine Below.al ?_ _ | refine Below.sc ?_ _)))) (hb.mono (by simp<;>omega))
 have Ka:=Lib.hid (Ka.out.new_ hbs)
 have Kb:=Lib.hid (Kb.out.new_ hbs)
 have HB:=Lib.hid (HB.out.trans (hbs.mono HB.out.size))
 have hsz3:=hbs.size
 clear a0 a1 a2 a3 a4 a5 a6 az b0 b1 b2 b3 b4 b5 b6 bz hb hbs
 obtain ⟨a0,a1,a2,a3,a4,a5,a6⟩:=Ka.out.c7
 have az:=Ka.out.lt
 obtain ⟨b0,b1,b2,b3,b4,b5,b6⟩:=Kb.out.c7
 have bz:=Kb.out.lt
 go_wp2_with fail
 with_reducible refine (IH.out _ _ _ _ _ _ y.conds _ (G3.out.new_ (by (repeat (first | exact Below.refl _ _ | exact HB.out | refine Below.drew ?_ | refine Below.al ?_ _ | refine Below.sc ?_ _)))) (K3.out.new_ (by (repeat (first | exact Below.refl _ _ | exact HB.out | refine Below.drew ?_ | refine Below.al ?_ _ | refine Below.sc ?_ _))))).mono ?_
 rintro e w4 ⟨rfl,hb⟩
 have hbs:=Below.trans (show Below w3.heap.size w3 _ from (by (repeat (first | exact Below.refl _ _ | refine Below.drew ?_ | refine Below.al ?_ _ | refine Below.sc ?_ _)))) (hb.mono (by simp<;>omega))
 have Ka:=Lib.hid (Ka.out.new_ hbs)
 have Kb:=Lib.hid (Kb.out.new_ hbs)
 have HB:=Lib.hid (HB.out.trans (hbs.mono HB.out.size))
 have hsz4:=hbs.size
 clear a0 a1 a2 a3 a4 a5 a6 az b0 b1 b2 b3 b4 b5 b6 bz hb hbs
 obtain ⟨a0,a1,a2,a3,a4,a5,a6⟩:=Ka.out.c7
 have az:=Ka.out.lt
 obtain ⟨b0,b1,b2,b3,b4,b5,b6⟩:=Kb.out.c7
 have bz:=Kb.out.lt
 go_wp2_with fail
 go_ret
 exact ⟨rfl,by (repeat (first | exact Below.refl _ _ | exact HB.out | refine Below.drew ?_ | refine Below.al ?_ _ | refine Below.sc ?_ _))⟩
theorem row_zero {D:Nat→Prop} {w:World} {A:Option Addr} {c:Nat} {l:List CondT} (h:RowR (repCondT 0) D w A c l):l = []:=by
 cases l with
 | nil=>rfl
 | cons y l=>
   obtain ⟨b,off,cs,_,_,_,hr,_⟩:=h.at_ (k:=0) (by simp)
   exact hr.elim
set_option maxRecDepth 100000 in
set_option maxHeartbeats 4000000 in
theorem conds_nil {A B:Option Addr} {c d:Nat} (w:World) :
 Calls Try.prog 36 #[.slice A 0 c,.slice B 0 d] w fun e w'=>e = .returned (.bool true)∧Below w.heap.size w w':=by
 go_enter Try.func36,Try.ntmps36
 go_wp2_with fail
 go_loopw [5] (fun s wr=>s = .int .i64 0∧wr=w) (fun s wr=>0)
 case atStart=>exact ⟨rfl,rfl⟩
 case round=>
  obtain ⟨rfl,rfl⟩:=hrel
  go_wp2_with fail
  go_ret
  exact ⟨rfl,Below.refl _ _⟩
set_option maxRecDepth 100000 in
set_option maxHeartbeats 4000000 in
theorem conds_same_succ (n:Nat) (ih:CondsSame n):CondsSame (n+1):=by
 intro D D' A B c d l w hl hm
 have HL:=Lib.hid hl
 have HM:=Lib.hid hm
 have IH:=Lib.hid ih
 have hlc:=hl.cap
 clear hl hm ih
 go_enter Try.func36,Try.ntmps36
 go_wp2_with fail
 go_loopw [5] (fun s wr=>∃i:Nat,s = .int .i64 i∧i≤l.length∧Below w.heap.size w wr) (fun s wr=>l.length - (intOf s).toNat)
 case atStart=>exact ⟨0,rfl,Nat.zero_le _,Below.refl _ _⟩
 case round=>
  obtain ⟨i,rfl,hi,hB⟩:=hrel
  have HB:=Lib.hid hB
  clear hB
  by_cases hlt:i<l.length
  · obtain ⟨y,hy⟩ : ∃y,y=l[i]:=⟨_,rfl⟩
    have b1:(0:Int)≤(i:Int):=by omega
    have b2:(i:Int)<(l.length:Int):=by omega
    obtain ⟨g,off,A1,a1,A2,a2,A3,a3,rfl,_,hgs,q0,q1,q2,q3,q4,q5,q6,h1,h2,h3⟩:=at_CondT (HL.out.new_ HB.out) hlt
    obtain ⟨g2,off2,B1,b1_,B2,b2_,B3,b3_,rfl,_,hgs2,p0,p1,p2,p3,p4,p5,p6,k1,k2,k3⟩:=at_CondT (HM.out.new_ HB.out) hlt
    rw [← hy] at q0 q1 q2 q3 q4 q5 q6 p0 p1 p2 p3 p4 p5 p6 h1 h2 h3 k1 k2 k3
    have H1:=Lib.hid h1
    have H2:=Lib.hid h2
    have H3:=Lib.hid h3
    have L1:=Lib.hid k1
    have L2:=Lib.hid k2
    have L3:=Lib.hid k3
    clear hy h1 h2 h3 k1 k2 k3
    go_wp2_with fail
    refine wp_region_E (fun w9=>Below wr.heap.size wr w9) [(0,0),(1,0),(2,0),(3,1),(4,0),(5,0),(6,0),(7,1),(8,2),(9,0)] (by kernel_rfl) (by kernel_rfl) (fun KK hKK=>?_)
    simp only [beside,List.filterMap_cons,List.filterMap_nil,List.getElem?_toArray,List.getElem?_cons_zero,List.getElem?_cons_succ,Option.map_some]
    repeat ((first | (refine wpX_w ?_ (Or.inl ⟨by rfl,fun w9=>?_⟩) ?_;rotate_left 1;go_simp;with_reducible rfl) | (refine wpX_l ?_ (((Below.refl _ _).drew)) (Or.inl ⟨by rfl,fun w9 hw9=>?_⟩) ?_;rotate_left 1;obtain ⟨hc9,hf9⟩:=bcell hw9;go_simp;with_reducible rfl) | refine wpX_w undef (Or.inr ⟨by rfl,rfl⟩) ?_ | refine wpX_l undef (((Below.refl _ _).drew)) (Or.inr ⟨by rfl,rfl⟩) ?_);go_frame)
    refine wpX_e (by kernel_rfl) (fun K9 hK9=>?_)
    go_simp
    refine (cond_same n IH.out y A1 a1 A2 a2 A3 a3 B1 b1_ B2 b2_ B3 b3_ _ (H1.out.new_ ((Below.refl _ _).drew)) (H2.out.new_ ((Below.refl _ _).drew)) (H3.out.new_ ((Below.refl _ _).drew)) (L1.out.new_ ((Below.refl _ _).drew)) (L2.out.new_ ((Below.refl _ _).drew)) (L3.out.new_ ((Below.refl _ _).drew))).mono ?_
    rintro e w5 ⟨rfl,hb5⟩
    have HB2:=Lib.hid ((HB.out.drew).trans (hb5.mono HB.out.size))
    clear hb5
    refine hK9 _ _ ?_
    clear hK9 K9
    repeat ((first | (refine wpX_w ?_ (Or.inl ⟨by rfl,fun w9=>?_⟩) ?_;rotate_left 1;go_simp;with_reducible rfl) | (refine wpX_l ?_ (((Below.refl _ _).drew)) (Or.inl ⟨by rfl,fun w9 hw9=>?_⟩) ?_;rotate_left 1;obtain ⟨hc9,hf9⟩:=bcell hw9;go_simp;with_reducible rfl) | refine wpX_w undef (Or.inr ⟨by rfl,rfl⟩) ?_ | refine wpX_l undef (((Below.refl _ _).drew)) (Or.inr ⟨by rfl,rfl⟩) ?_);go_frame)
    refine wpX_nil ?_
    simp only [OnlyN_normal]
    refine hKK _ _ ?_
    clear hKK KK
    clear q0 q1 q2 q3 q4 q5 q6 p0 p1 p2 p3 p4 p5 p6
    go_wp2_with fail
    go_roundw
    case rel=>exact ⟨i+1,by go_num,by omega,HB2.out⟩
    case measure=>simp [intOf]<;>omega
  · obtain rfl:i=l.length:=by omega
    go_wp2_with fail
    go_ret
    exact ⟨rfl,HB.out⟩
theorem conds_same : ∀n:Nat,CondsSame n
 | 0=>by
   intro D D' A B c d l w hl hm
   obtain rfl:=row_zero hl
   exact conds_nil w
 | n+1=>conds_same_succ n (conds_same n)
end Go.Proofs.Ytffemfglngikbaa
