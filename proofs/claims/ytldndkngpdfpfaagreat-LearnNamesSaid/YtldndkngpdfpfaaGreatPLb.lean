/-
  Texts put together: Plain, IterBase, Seq, Open, Rep, SetLeaf, Types, LrnOf, SymWord.
-/
import Derived.WalkKit
import Derived.Lib.Strings
import Derived.Test.YtldndkngpdfpfaaGreatRows
import Derived.Test.YtldndkngpdfpfaaGreatPLa
import Derived.ProofKit
import Derived.Carry
import Derived.ChangeSame
import Derived.Deep.Slices
import Derived.Deep.Strs
import Derived.Deep.Cut
namespace Go.Proofs.YtldndkngpdfpfaaGreat
set_option maxRecDepth 100000
set_option maxHeartbeats 32000000
section
structure TC {α:Type} (cmp:α→α→Int):Prop where
 refl : ∀x,cmp x x=0
 symm : ∀x y,cmp x y<0↔0<cmp y x
 trans : ∀x y z,cmp x y≤0→cmp y z≤0→cmp x z≤0
section
variable {α:Type} {cmp:α→α→Int}
theorem TC.eq_symm (h:TC cmp) {x y:α} (e:cmp x y=0):cmp y x=0:=by
 have a:=h.symm x y;have b:=h.symm y x;omega
theorem TC.lt_of_lt_of_le (h:TC cmp) {x y z:α} (a:cmp x y<0) (b:cmp y z≤0):cmp x z<0:=by
 have c:=h.symm x z;have d:=h.symm z x;have e:=h.symm x y;have g:=h.symm y x;by_cases hz:cmp x z<0
 · exact hz
 · have t:=h.trans y z x b (by omega)
   omega
theorem TC.lt_of_le_of_lt (h:TC cmp) {x y z:α} (a:cmp x y≤0) (b:cmp y z<0):cmp x z<0:=by
 have c:=h.symm x z;have d:=h.symm z x;have e:=h.symm y z;have g:=h.symm z y;by_cases hz:cmp x z<0
 · exact hz
 · have t:=h.trans z x y (by omega) a
   omega
theorem TC.lt_trans (h:TC cmp) {x y z:α} (a:cmp x y<0) (b:cmp y z<0):cmp x z<0:=h.lt_of_lt_of_le a (by omega)
def Srt (cmp:α→α→Int) (l:List α):Prop:=l.Pairwise (fun a b=>cmp a b<0)
def has (cmp:α→α→Int) (l:List α) (x:α):Bool:=l.any (fun y=>cmp y x == 0)
def below (cmp:α→α→Int) (l:List α) (x:α):List α:=l.filter (fun y=>decide (cmp y x<0))
def above (cmp:α→α→Int) (l:List α) (x:α):List α:=l.filter (fun y=>decide (0<cmp y x))
def rank (cmp:α→α→Int) (l:List α) (x:α):Nat:=(below cmp l x).length
def put (cmp:α→α→Int) (l:List α) (x:α):List α:=if has cmp l x then l else below cmp l x++x :: above cmp l x
def drop (cmp:α→α→Int) (l:List α) (x:α):List α:=l.filter (fun y=>!(cmp y x == 0))
def puts (cmp:α→α→Int) (l xs:List α):List α:=xs.foldl (put cmp) l
theorem has_iff {l:List α} {x:α}:has cmp l x=true↔∃y∈l,cmp y x=0:=by simp [has]
theorem has_false {l:List α} {x:α}:has cmp l x=false↔∀y∈l,cmp y x≠0:=by simp [has]
theorem at_none {l:List α} {x:α} {k:Nat} (h1 : ∀i,(h:i<l.length)→i<k→cmp l[i] x<0) (h2 : ∀i,(h:i<l.length)→k≤i→0<cmp l[i] x) :
 below cmp l x=l.take k∧above cmp l x=l.drop k∧has cmp l x=false:=by
 have e1 : ∀y∈l.take k,cmp y x<0:=by
  intro y hy;obtain ⟨i,hi,rfl⟩:=List.getElem_of_mem hy;rw [List.getElem_take];simp at hi;exact h1 i (by omega) (by omega)
 have e2 : ∀y∈l.drop k,0<cmp y x:=by
  intro y hy;obtain ⟨i,hi,rfl⟩:=List.getElem_of_mem hy;rw [List.getElem_drop];simp at hi;exact h2 (k+i) (by omega) (by omega)
 refine ⟨?_,?_,?_⟩
 · unfold below
   conv=>lhs;rw [← List.take_append_drop k l]
   rw [List.filter_append,List.filter_eq_self.2 (fun y hy=>by simpa using e1 y hy),List.filter_eq_nil_iff.2 (fun y hy=>by have:=e2 y hy;simp;omega),List.append_nil]
 · unfold above
   conv=>lhs;rw [← List.take_append_drop k l]
   rw [List.filter_append,(List.filter_eq_self (l:=l.drop k)).2 (fun y hy=>by simpa using e2 y hy),List.filter_eq_nil_iff.2 (fun y hy=>by have:=e1 y hy;simp;omega),List.nil_append]
 · rw [has_false]
   intro y hy;rw [← List.take_append_drop k l] at hy;rcases List.mem_append.1 hy with hy | hy
   · have:=e1 y hy;omega
   · have:=e2 y hy;omega
theorem Srt.lt {l:List α} (h:Srt cmp l) {i j:Nat} (hij:i<j) (hj:j<l.length):cmp (l[i]'(by omega)) l[j]<0:=
 List.pairwise_iff_getElem.1 h i j (by omega) hj hij
theorem at_some (t:TC cmp) {l:List α} (hs:Srt cmp l) {x:α} {k:Nat} (hk:k<l.length) (e:cmp l[k] x=0) :
 below cmp l x=l.take k∧above cmp l x=l.drop (k+1)∧has cmp l x=true∧drop cmp l x=l.take k++l.drop (k+1):=by
 have e1 : ∀y∈l.take k,cmp y x<0:=by
  intro y hy;obtain ⟨i,hi,rfl⟩:=List.getElem_of_mem hy;rw [List.getElem_take];simp at hi;exact t.lt_of_lt_of_le (hs.lt (by omega) hk) (by omega)
 have e2 : ∀y∈l.drop (k+1),0<cmp y x:=by
  intro y hy;obtain ⟨i,hi,rfl⟩:=List.getElem_of_mem hy;rw [List.getElem_drop];simp at hi;have h1:cmp x (l[k+1+i]'(by omega))<0:=t.lt_of_le_of_lt (y:=l[k]) (by have:=t.eq_symm e;omega) (hs.lt (by omega) (by omega));exact (t.symm _ _).1 h1
 have hl:l=l.take k++l[k] :: l.drop (k+1):=by
  rw [List.getElem_cons_drop,List.take_append_drop]
 refine ⟨?_,?_,?_,?_⟩
 · unfold below
   conv=>lhs;rw [hl]
   rw [List.filter_append,List.filter_cons,List.filter_eq_self.2 (fun y hy=>by simpa using e1 y hy),List.filter_eq_nil_iff.2 (fun y hy=>by have:=e2 y hy;simp;omega)];simp [e]
 · unfold above
   conv=>lhs;rw [hl]
   rw [List.filter_append,List.filter_cons,List.filter_eq_nil_iff.2 (fun y hy=>by have:=e1 y hy;simp;omega),(List.filter_eq_self (l:=l.drop (k+1))).2 (fun y hy=>by simpa using e2 y hy)];simp [e]
 · rw [has_iff];exact ⟨_,List.getElem_mem hk,e⟩
 · unfold drop
   conv=>lhs;rw [hl]
   rw [List.filter_append,List.filter_cons,List.filter_eq_self.2 (fun y hy=>by have:=e1 y hy;simp;omega),(List.filter_eq_self (l:=l.drop (k+1))).2 (fun y hy=>by have:=e2 y hy;simp;omega)];simp [e]
theorem rank_none {l:List α} {x:α} {k:Nat} (hk:k≤l.length) (h1 : ∀i,(h:i<l.length)→i<k→cmp l[i] x<0) (h2 : ∀i,(h:i<l.length)→k≤i→0<cmp l[i] x):rank cmp l x=k:=by
 unfold rank;rw [(at_none h1 h2).1];simp;omega
theorem rank_some (t:TC cmp) {l:List α} (hs:Srt cmp l) {x:α} {k:Nat} (hk:k<l.length) (e:cmp l[k] x=0):rank cmp l x=k:=by
 unfold rank;rw [(at_some t hs hk e).1];simp;omega
theorem place (t:TC cmp) {l:List α} (hs:Srt cmp l) (x:α) :
 (has cmp l x=false∧l=below cmp l x++above cmp l x)∨(∃y,has cmp l x=true∧cmp y x=0∧l=below cmp l x++y :: above cmp l x):=by
 induction l with
 | nil=>exact .inl ⟨rfl,rfl⟩
 | cons a r ih=>
   have hr:Srt cmp r:=(List.pairwise_cons.1 hs).2;have ha : ∀y∈r,cmp a y<0:=(List.pairwise_cons.1 hs).1;by_cases h1:cmp a x<0
   · rcases ih hr with ⟨h2,h3⟩ | ⟨y,h2,h3,h4⟩
     · left
       refine ⟨?_,?_⟩
       · simp only [has,List.any_cons,Bool.or_eq_false_iff];exact ⟨by simp;omega,h2⟩
       · have e1:below cmp (a :: r) x=a :: below cmp r x:=by simp [below,h1]
         (have e2:above cmp (a :: r) x=above cmp r x:=by unfold above;rw [List.filter_cons,if_neg (by simp;omega)]);rw [e1,e2,List.cons_append,← h3]
     · right
       refine ⟨y,?_,h3,?_⟩
       · simp only [has,List.any_cons,Bool.or_eq_true];exact .inr h2
       · have e1:below cmp (a :: r) x=a :: below cmp r x:=by simp [below,h1]
         (have e2:above cmp (a :: r) x=above cmp r x:=by unfold above;rw [List.filter_cons,if_neg (by simp;omega)]);rw [e1,e2,List.cons_append,← h4]
   · have hall : ∀y∈r,0<cmp y x:=fun y hy=>(t.symm x y).1 (t.lt_of_le_of_lt (y:=a) (by have:=t.symm a x;have:=t.symm x a;omega) (ha y hy))
     have b0:below cmp r x = []:=List.filter_eq_nil_iff.2 (fun y hy=>by have:=hall y hy;simp;omega);have a0:above cmp r x=r:=List.filter_eq_self.2 (fun y hy=>by simpa using hall y hy);have n0:has cmp r x=false:=has_false.2 (fun y hy=>by have:=hall y hy;omega);(have e1:below cmp (a :: r) x = []:=by unfold below;rw [List.filter_cons,if_neg (by simpa using h1)];exact b0);by_cases h2:cmp a x=0
     · right
       refine ⟨a,has_iff.2 ⟨a,by simp,h2⟩,h2,?_⟩;(have e2:above cmp (a :: r) x=r:=by unfold above;rw [List.filter_cons,if_neg (by simp;omega)];exact a0);rw [e1,e2];rfl
     · left
       refine ⟨?_,?_⟩
       · simp only [has,List.any_cons,Bool.or_eq_false_iff];exact ⟨by simpa using h2,n0⟩
       · have e2:above cmp (a :: r) x=a :: r:=by unfold above;rw [List.filter_cons,if_pos (by simp;omega)];exact congrArg _ a0
         rw [e1,e2];rfl
theorem mem_below {l:List α} {x y:α}:y∈below cmp l x↔y∈l∧cmp y x<0:=by simp [below]
theorem mem_above {l:List α} {x y:α}:y∈above cmp l x↔y∈l∧0<cmp y x:=by simp [above]
theorem Srt.put (t:TC cmp) {l:List α} (hs:Srt cmp l) (x:α):Srt cmp (put cmp l x):=by
 unfold YtldndkngpdfpfaaGreat.put
 split
 · exact hs
 · refine List.pairwise_append.2 ⟨hs.sublist List.filter_sublist,List.pairwise_cons.2 ⟨fun y hy=>?_,hs.sublist List.filter_sublist⟩,fun y hy z hz=>?_⟩
   · exact (t.symm x y).2 (mem_above.1 hy).2
   · rcases List.mem_cons.1 hz with rfl | hz
     · exact (mem_below.1 hy).2
     · exact t.lt_trans (mem_below.1 hy).2 ((t.symm x z).2 (mem_above.1 hz).2)
theorem Srt.nil:Srt cmp ([]:List α):=List.Pairwise.nil
theorem Srt.puts (t:TC cmp) : ∀(xs:List α) {l:List α},Srt cmp l→Srt cmp (puts cmp l xs)
 | [],_,h=>h
 | x :: xs,_,h=>Srt.puts t xs (h.put t x)
theorem puts_snoc (l xs:List α) (x:α):puts cmp l (xs ++ [x])=put cmp (puts cmp l xs) x:=by simp [puts]
theorem length_below_above {l:List α} {x:α} (t:TC cmp) (hs:Srt cmp l) (h:has cmp l x=false):(below cmp l x).length+(above cmp l x).length=l.length:=by
 rcases place t hs x with ⟨_,e⟩ | ⟨y,h',_⟩
 · conv=>rhs;rw [e]
   simp
 · rw [h] at h';cases h'
theorem length_put_le (t:TC cmp) {l:List α} (hs:Srt cmp l) (x:α):(put cmp l x).length≤l.length+1:=by
 unfold YtldndkngpdfpfaaGreat.put;by_cases h:has cmp l x=true
 · rw [if_pos h];omega
 · rw [if_neg h]
   have:=length_below_above t hs (x:=x) (by simpa using h);simp;omega
theorem length_puts_le (t:TC cmp) : ∀(xs:List α) {l:List α},Srt cmp l→(puts cmp l xs).length≤l.length+xs.length
 | [],_,_=>by simp [puts]
 | x :: xs,l,h=>by
   have h1:=length_puts_le t xs (h.put t x);have h2:=length_put_le t h x;have e:puts cmp l (x :: xs)=puts cmp (put cmp l x) xs:=rfl;rw [e];simp;omega
theorem rank_le (l:List α) (x:α):rank cmp l x≤l.length:=List.length_filter_le _ _
theorem take_of_app {l B A:List α} (e:l=B++A):l.take B.length=B:=by subst e;simp
theorem drop_of_app {l B A:List α} (e:l=B++A):l.drop B.length=A:=by subst e;simp
theorem get_of_app {l B A:List α} {y:α} (e:l=B++y :: A):l[B.length]? = some y:=by subst e;simp
theorem put_eq (t:TC cmp) {l:List α} (hs:Srt cmp l) {x:α} (h:has cmp l x=false):put cmp l x=l.take (rank cmp l x)++x :: l.drop (rank cmp l x):=by
 rcases place t hs x with ⟨_,e⟩ | ⟨y,h',_⟩
 · have e1:l.take (rank cmp l x)=below cmp l x:=take_of_app e
   have e2:l.drop (rank cmp l x)=above cmp l x:=drop_of_app e;rw [e1,e2];unfold YtldndkngpdfpfaaGreat.put;rw [if_neg (by rw [h];simp)]
 · rw [h] at h';cases h'
theorem put_has {l:List α} {x:α} (h:has cmp l x=true):put cmp l x=l:=by unfold YtldndkngpdfpfaaGreat.put;rw [if_pos h]
theorem length_put (t:TC cmp) {l:List α} (hs:Srt cmp l) {x:α} (h:has cmp l x=false):(put cmp l x).length=l.length+1:=by
 rw [put_eq t hs h];have:=rank_le (cmp:=cmp) l x;simp;omega
theorem drop_eq (t:TC cmp) {l:List α} (hs:Srt cmp l) {x:α} (h:has cmp l x=true):rank cmp l x<l.length∧drop cmp l x=l.take (rank cmp l x)++l.drop (rank cmp l x+1)∧∃hk:rank cmp l x<l.length,cmp l[rank cmp l x] x=0:=by
 rcases place t hs x with ⟨h',_⟩ | ⟨y,_,ey,e⟩
 · rw [h] at h';cases h'
 · have hk:rank cmp l x<l.length:=by
    have h2:l[rank cmp l x]? = some y:=get_of_app e;exact (List.getElem?_eq_some_iff.1 h2).1
   have hy:l[rank cmp l x]=y:=by
    have h1:l[rank cmp l x]? = some y:=get_of_app e;rw [List.getElem?_eq_getElem hk] at h1;exact Option.some.inj h1
   (have e0:cmp l[rank cmp l x] x=0:=by rw [hy];exact ey);exact ⟨hk,(at_some t hs hk e0).2.2.2,hk,e0⟩
def shiftAt (l:List α) (x:α) (i:Nat):List α:=l.take i++(l ++ [x]).getD i x :: l.drop i
theorem shiftAt_length (l:List α) (x:α) {i:Nat} (h:i≤l.length):(shiftAt l x i).length=l.length+1:=by simp [shiftAt];omega
theorem shiftAt_start (l:List α) (x:α):shiftAt l x l.length=l ++ [x]:=by simp [shiftAt]
theorem shiftAt_read (l:List α) (x:α) {j:Nat} (h:j<l.length) (h':j<(shiftAt l x (j+1)).length):(shiftAt l x (j+1))[j]=l[j]:=by
 apply Option.some.inj;rw [← List.getElem?_eq_getElem];unfold shiftAt;rw [List.getElem?_append_left (by simp;omega)];simp [h]
theorem shiftAt_step (l:List α) (x:α) {j:Nat} (h:j<l.length):(shiftAt l x (j+1)).set (j+1) l[j]=shiftAt l x j:=by
 unfold shiftAt;rw [List.set_append_right _ _ (by simp;omega)];(have e:(j+1 - (l.take (j+1)).length)=0:=by simp;omega);rw [e,List.set_cons_zero,List.take_succ_eq_append_getElem h,List.append_assoc];(have e2:(l ++ [x]).getD j x=l[j]:=by rw [List.getD_eq_getElem?_getD,List.getElem?_append_left h,List.getElem?_eq_getElem h];rfl);rw [e2,← List.getElem_cons_drop h];rfl
theorem shiftAt_end (l:List α) (x:α) {k:Nat} (h:k≤l.length):(shiftAt l x k).set k x=l.take k++x :: l.drop k:=by
 unfold shiftAt;rw [List.set_append_right _ _ (by simp;omega)];(have e:(k - (l.take k).length)=0:=by simp;omega);rw [e,List.set_cons_zero]
end
def cmpInt (a b:Int):Int:=if a<b then -1 else if b<a then 1 else 0
theorem tc_int:TC cmpInt:=by
 constructor
 · intro x;simp [cmpInt]
 · intro x y;simp only [cmpInt];split<;>split<;>simp<;>(try split)<;>omega
 · intro x y z;simp only [cmpInt];intro h1 h2;split at h1<;>split at h2<;>(try split at h1)<;>(try split at h2)<;>split<;>(try split)<;>omega
theorem cmpInt_eq {a b:Int}:cmpInt a b=0↔a=b:=by simp only [cmpInt];split<;>(try split)<;>omega
theorem bytesLess_irrefl : ∀x:List UInt8,Op.bytesLess x x=false
 | []=>rfl
 | a :: x=>by simp [Op.bytesLess,bytesLess_irrefl x]
theorem bytesLess_trans : ∀{x y z:List UInt8},Op.bytesLess x y=true→Op.bytesLess y z=true→Op.bytesLess x z=true
 | _,[],_,h,_=>by simp [Op.bytesLess] at h
 | _,_ :: _,[],_,h=>by simp [Op.bytesLess] at h
 | [],_ :: _,_ :: _,_,_=>by simp [Op.bytesLess]
 | a :: x,b :: y,c :: z,h1,h2=>by
   simp only [Op.bytesLess,Bool.or_eq_true,Bool.and_eq_true,decide_eq_true_eq,beq_iff_eq] at h1 h2 ⊢;rcases h1 with h1 | ⟨rfl,h1⟩
   · rcases h2 with h2 | ⟨rfl,h2⟩
     · exact .inl (UInt8.lt_trans h1 h2)
     · exact .inl h1
   · rcases h2 with h2 | ⟨rfl,h2⟩
     · exact .inl h2
     · exact .inr ⟨rfl,bytesLess_trans h1 h2⟩
theorem bytesLess_total : ∀(x y:List UInt8),Op.bytesLess x y=false→Op.bytesLess y x=false→x=y
 | [],[],_,_=>rfl
 | [],_ :: _,h,_=>by simp [Op.bytesLess] at h
 | _ :: _,[],_,h=>by simp [Op.bytesLess] at h
 | a :: x,b :: y,h1,h2=>by
   simp only [Op.bytesLess,Bool.or_eq_false_iff,decide_eq_false_iff_not,Bool.and_eq_false_iff,beq_eq_false_iff_ne] at h1 h2;obtain ⟨h1,h3⟩:=h1;obtain ⟨h2,h4⟩:=h2
   have e:a=b:=by
    apply UInt8.toNat_inj.1;simp only [UInt8.lt_iff_toNat_lt] at h1 h2;omega
   subst e;rw [bytesLess_total x y (h3.resolve_left (fun h=>h rfl)) (h4.resolve_left (fun h=>h rfl))]
theorem bytesLess_asymm {x y:List UInt8} (h:Op.bytesLess x y=true):Op.bytesLess y x=false:=by
 cases e:Op.bytesLess y x
 · rfl
 · have:=bytesLess_trans h e;rw [bytesLess_irrefl] at this;cases this
def cmpStr (a b:ByteArray):Int:=if Op.bytesLess a.toList b.toList=true then -1 else if a.toList=b.toList then 0 else 1
theorem tc_str:TC cmpStr:=by
 have key : ∀a b:ByteArray,(cmpStr a b = -1∧Op.bytesLess a.toList b.toList=true∧Op.bytesLess b.toList a.toList=false∧a.toList≠b.toList)∨
  (cmpStr a b=0∧Op.bytesLess a.toList b.toList=false∧Op.bytesLess b.toList a.toList=false∧a.toList=b.toList)∨
  (cmpStr a b=1∧Op.bytesLess a.toList b.toList=false∧Op.bytesLess b.toList a.toList=true∧a.toList≠b.toList):=by
  intro a b;unfold cmpStr;cases h1:Op.bytesLess a.toList b.toList
  · cases h2:Op.bytesLess b.toList a.toList
    · have e:=bytesLess_total _ _ h1 h2
      simp [e]
    · have hne:a.toList≠b.toList:=fun e=>by rw [e,bytesLess_irrefl] at h2;cases h2
      simp [hne]
  · have h2:=bytesLess_asymm h1
    (have hne:a.toList≠b.toList:=fun e=>by rw [e,bytesLess_irrefl] at h1;cases h1);simp [h2,hne]
 constructor
 · intro x;simp [cmpStr,bytesLess_irrefl]
 · intro x y
   rcases key x y with ⟨e,a,b,c⟩ | ⟨e,a,b,c⟩ | ⟨e,a,b,c⟩<;>rcases key y x with ⟨e',a',b',c'⟩ | ⟨e',a',b',c'⟩ | ⟨e',a',b',c'⟩<;>rw [e,e']<;>simp_all
 · intro x y z h1 h2
   rcases key x y with ⟨e,a,b,c⟩ | ⟨e,a,b,c⟩ | ⟨e,a,b,c⟩<;>rcases key y z with ⟨e',a',b',c'⟩ | ⟨e',a',b',c'⟩ | ⟨e',a',b',c'⟩<;>rw [e] at h1<;>rw [e'] at h2<;>(try omega)
   · have:=bytesLess_trans a a';unfold cmpStr;rw [if_pos this];omega
   · rw [c'] at a;unfold cmpStr;rw [if_pos a];omega
   · rw [← c] at a';unfold cmpStr;rw [if_pos a'];omega
   · unfold cmpStr;rw [c,c',if_neg (by rw [bytesLess_irrefl];simp),if_pos rfl];omega
theorem toList_inj {a b:ByteArray} (h:a.toList=b.toList):a=b:=by
 have e : ∀x:ByteArray,x.toList=x.data.toList:=Lib.toList_data;rw [e,e] at h;cases a;cases b;simp only [ByteArray.mk.injEq];exact Array.toList_inj.1 h
theorem cmpStr_eq {a b:ByteArray}:cmpStr a b=0↔a=b:=by
 constructor
 · intro h
   unfold cmpStr at h
   split at h
   · omega
   · split at h
     · exact toList_inj ‹_›
     · omega
 · rintro rfl;simp [cmpStr,bytesLess_irrefl]
def andThen (a b:Int):Int:=if a=0 then b else a
theorem tc_andThen {α β γ:Type} {f:α→β} {g:α→γ} {c1:β→β→Int} {c2:γ→γ→Int} (h1:TC c1) (h2:TC c2):TC (fun x y=>andThen (c1 (f x) (f y)) (c2 (g x) (g y))):=by
 constructor
 · intro x;simp [andThen,h1.refl,h2.refl]
 · intro x y
   have a:=h1.symm (f x) (f y);have b:=h1.symm (f y) (f x);have c:=h2.symm (g x) (g y);simp only [andThen]
   split<;>split<;>omega
 · intro x y z e1 e2
   simp only [andThen] at e1 e2 ⊢;by_cases p:c1 (f x) (f y)=0
   · rw [if_pos p] at e1
     by_cases q:c1 (f y) (f z)=0
     · rw [if_pos q] at e2
       have r:c1 (f x) (f z)=0:=by
        have r1:=h1.trans (f x) (f y) (f z) (by omega) (by omega);have r2:=h1.trans (f z) (f y) (f x) (by have:=h1.eq_symm q;omega) (by have:=h1.eq_symm p;omega);have a:=h1.symm (f x) (f z);have b:=h1.symm (f z) (f x);omega
       rw [if_pos r];exact h2.trans _ _ _ e1 e2
     · rw [if_neg q] at e2
       have:=h1.lt_of_le_of_lt (x:=f x) (y:=f y) (z:=f z) (by omega) (by omega);rw [if_neg (by omega)];omega
   · rw [if_neg p] at e1
     have hq:c1 (f y) (f z)≤0:=by
      by_cases q:c1 (f y) (f z)=0
      · omega
      · rw [if_neg q] at e2;exact e2
     have:=h1.lt_of_lt_of_le (x:=f x) (y:=f y) (z:=f z) (by omega) hq;rw [if_neg (by omega)];omega
structure Sym where
 kind:Int
 text:ByteArray
 n:Int
theorem Sym.ext' {a b:Sym} (h1:a.kind=b.kind) (h2:a.text=b.text) (h3:a.n=b.n):a=b:=by cases a;cases b;simp_all
instance:DecidableEq Sym:=fun a b=>decidable_of_iff (a.kind=b.kind∧a.text=b.text∧a.n=b.n) ⟨fun ⟨h1,h2,h3⟩=>Sym.ext' h1 h2 h3,fun h=>by subst h;exact ⟨rfl,rfl,rfl⟩⟩
instance:Inhabited Sym:=⟨⟨0,⟨#[]⟩,0⟩⟩
def cmpSym (a b:Sym):Int:=andThen (cmpInt a.kind b.kind) (andThen (cmpStr a.text b.text) (cmpInt a.n b.n))
theorem tc_sym:TC cmpSym:=tc_andThen (f:=Sym.kind) (g:=fun s:Sym=>(s.text,s.n)) (c2:=fun x y=>andThen (cmpStr x.1 y.1) (cmpInt x.2 y.2)) tc_int
 (tc_andThen (f:=fun x:ByteArray×Int=>x.1) (g:=fun x:ByteArray×Int=>x.2) tc_str tc_int)
theorem cmpSym_eq {a b:Sym}:cmpSym a b=0↔a=b:=by
 constructor
 · intro h
   simp only [cmpSym,andThen] at h
   split at h
   · split at h
     · exact Sym.ext' (cmpInt_eq.1 ‹_›) (cmpStr_eq.1 ‹_›) (cmpInt_eq.1 h)
     · exact absurd h ‹_›
   · exact absurd h ‹_›
 · rintro rfl;exact tc_sym.refl _
end
section
open Go.RowKit Go.Shelf
def RowKeep (A:Option Addr) (W W':World):Prop:=W.heap.size≤W'.heap.size∧∀a,A=some a→a.block<W.heap.size→W'.heap[a.block]? = W.heap[a.block]?
theorem RowKeep.trans {A:Option Addr} {X Y Z:World} (h:RowKeep A X Y) (k:RowKeep A Y Z):RowKeep A X Z:=⟨Nat.le_trans h.1 k.1,fun a e hl=>(k.2 a e (Nat.lt_of_lt_of_le hl h.1)).trans (h.2 a e hl)⟩
theorem RowKeep.of_priv {A:Option Addr} {B:Nat} {X Y:World} (hA:AIn A (· < B)) (h:Priv B X Y):RowKeep A X Y:=⟨h.size,fun a e hl=>h.block _ hl (.inl (hA a e))⟩
theorem RowKeep.of_below {A:Option Addr} {B:Nat} {X Y:World} (hA:AIn A (· < B)) (h:Below B X Y):RowKeep A X Y:=⟨h.size,fun a e _=>h.block _ (hA a e)⟩
theorem RowKeep.rd {α:Type} {size c:Nat} {cells:α→List Value} {A:Option Addr} {l:List α} {W W':World} (hk:RowKeep A W W') (h:RowRd W size cells A c l):RowRd W' size cells A c l:=
 h.keep hk.1 (fun p hp ⟨a,ha,hb⟩=>World.cell?_of_block (by rw [← hb];exact hk.2 a ha (by rw [hb];exact hp)))
def SeenStart (b:Nat) (X Y:World):Prop:=∃X1,Below X.heap.size X X1∧Y=X1.setCell ⟨b,1,none⟩ (.bool true)
theorem SeenStart.fr {b:Nat} {W W1:World} (h:SeenStart b W W1):Fr (· = b) W W1:=by
 obtain ⟨X1,hb,rfl⟩:=h;exact (Fr.of_new (M:=(· = b)) hb).setCell (p:=⟨b,1,none⟩) (.inl rfl) _
abbrev Rounds {α:Type} (lo:Nat) (encs:α→Array Value) (xs:List α) (Kp:World→World→Prop) (J Jx:List α→World→Prop):Prop:=
 ∀pre x post W1,xs=pre++x :: post→J pre W1→YieldAt Fence.wide 0 Tryz.prog lo (encs x) W1 fun e W'=>
  (e = .returned (.bool true)∧J (pre ++ [x]) W'∧Kp W1 W')∨(e = .returned (.bool false)∧Jx (pre ++ [x]) W')
abbrev Told {α:Type} (xs:List α) (J Jx:List α→World→Prop) (e:Ending) (W':World):Prop:=(∃v,e = .returned v)∧(J xs W'∨∃pre post,xs=pre++post∧Jx pre W')
end
section
open Go.RowKit Go.Shelf
attribute [local go_sem] Oper.semAt_some
structure Seq {α:Type} (gf:Nat) (lb:Array Value) (encs:α→Array Value) (xs:List α) (w:World) (start Kp:World→World→Prop):Prop where
 enter : ∀args w,(callFunc gf args).run Tryz.prog w = .ok (.enter gf args) w
 iter : ∀W,Below w.heap.size w W→Iter Tryz.prog gf lb encs xs W start (fun X Y=>Kp X Y∧KeepsFrom W.heap.size X Y)
 trans : ∀A B C,Kp A B→Kp B C→Kp A C
 keep : ∀A B,Priv w.heap.size A B→Kp A B
 below : ∀A B,Below w.heap.size A B→Kp A B
 mods : ∀W W1,start W W1→Fr (· < w.heap.size) W W1
theorem keepsFrom_of_fr {B:Nat} {X Y:World} (h:Fr (· < B) X Y):KeepsFrom B X Y:=⟨h.size,fun k _ hB hk _=>(h.block k (Array.getElem?_eq_some_iff.1 hk).1 (by omega)).trans hk⟩
theorem owns_cells {W:World} {base:Nat} {e:TypeId} {size:Nat} {v:Value} {n:Nat} {xs:List Value} (h:W.ownsRow base e size v n xs) : ∀k,v.ownBlock=some k→cellsAt W k:=by
 rcases h.2 with ⟨rfl,rfl⟩ | ⟨g,cap,cur,rfl,h0,hg,_⟩
 · intro k hk;cases hk
 · intro k hk;cases hk;exact ⟨_,_,_,hg⟩
theorem owns_nil (W:World) (base:Nat) (e:TypeId) (size:Nat):W.ownsRow base e size (.slice none 0 0) 0 []:=⟨by simp,.inl ⟨rfl,rfl⟩⟩
theorem Seq.new_ {α:Type} {gf:Nat} {lb:Array Value} {encs:α→Array Value} {xs:List α} {w w':World} {start Kp:World→World→Prop} (h:Seq gf lb encs xs w start Kp) (hb:Below w.heap.size w w'):Seq gf lb encs xs w' start Kp:=
 ⟨h.enter,fun W hW=>h.iter W (hb.trans (hW.mono hb.size)),h.trans,fun A B hp=>h.keep A B (hp.mono hb.size),fun A B hp=>h.below A B (hp.mono hb.size),fun W W1 hs=>(h.mods W W1 hs).mono (fun _ _ hk=>Nat.lt_of_lt_of_le hk hb.size)⟩
end
section
open Go.RowKit Go.ChangeShapes Go.WideShapes Go.Deep
section
variable {H:Type} {enc:TypeId×Value→H} {P:Program}
theorem post_of_below {f:Func} {s:ChangeSpec} {apart fresh handsOn again:Bool} {W W':World} {args:Array Value} {v:Value} {ds gs:List (DataW H)} {before pa pv:List MemPlace}
 (hW:DataW.Whole enc P f.params.toList s.vars apart W args.toList ds gs before)
 (hres : ∀(b:Nat) (sp:Nat→Bool) (hd:Bool),DataW.TrodAll enc P W' b sp hd f.resultTypes.toList (v.resultList f.resultTypes.size) (s.fn H (ds++gs)).results [])
 (hargs : ∀sp:Nat→Bool,(∀p∈before,sp p.block=true)→DataW.TrodAll enc P W' 0 sp true f.params.toList args.toList (s.fn H (ds++gs)).args pa)
 (hvars : ∀sp:Nat→Bool,(∀p∈before,sp p.block=true)→DataW.TrodVars enc P W' sp s.vars (s.fn H (ds++gs)).vars pv)
 (hps:before=pa++pv) (hb:Below W.heap.size W W')
 (hok : ∀(j:Nat) (t:TypeId) (r:Value),f.resultTypes[j]? = some t→(v.resultList f.resultTypes.size)[j]? = some r→Value.okWide P W' .any 0 t r) :
 s.post enc P f apart fresh handsOn again W args v W':=by
 have hlt : ∀p∈before,p.block<W.heap.size:=fun p hp=>hW.lt p hp;(have hold : ∀p∈before,(fun b=>decide (b<W.heap.size)) p.block=true:=fun p hp=>by simpa using hlt p hp);refine ⟨ds,gs,before,[],pa,pv,hW,hres _ _ _,hargs _ hold,hvars _ hold,World.keptBut_mono (fun p hp=>⟨hp,?_⟩) (hb.frame (·∈before)),fun _=>?_⟩
 · rw [hps,List.mem_append] at hp
   exact Or.inr hp
 · obtain ⟨_,_,_,_,_,hz,hn⟩:=hW
   refine ⟨hok,_,_,([]++pa)++pv,⟨[]++pa,pv,trodAll_append (hargs _ (fun _ _=>rfl)) (hres _ _ _),hvars _ (fun _ _=>rfl),rfl,?_,?_⟩,?_⟩
   · intro b off hp
     (have hin:MemPlace.cell b off∈before:=by rw [hps];simpa using hp);rw [hb.frozen (hlt _ hin)];exact hz b off hin
   · intro ha
     have:=hn ha;rw [hps] at this;simpa using this
   · intro p hp _
     rw [hps];simpa using hp
theorem trodAll_stays (hl:laidOutB P=true) {W W':World} {sp:Nat→Bool} (hb:Below W.heap.size W W') : ∀(ts:List TypeId) (vs:List Value) (ds:List (DataW H)) (ps:List MemPlace),
 (∀t∈ts,P.readableRec t=true∧t<P.types.size)→DataW.TrodAll enc P W 0 (fun _=>true) true ts vs ds ps→(∀p∈ps,p.block<W.heap.size)→(∀p∈ps,sp p.block=true)→DataW.TrodAll enc P W' 0 sp true ts vs ds ps
 | [],[],[],ps,_,h,_,_=>h
 | t :: ts,v :: vs,d :: ds,ps,ht,⟨p,q,h1,h2,he⟩,hlt,hsp=>by
   subst he;refine ⟨p,q,WideElems.Trod_stays hl (ht t (by simp)).1 (ht t (by simp)).2 h1 (fun x hx=>hb.same (hlt x (by simp [hx]))) (fun x hx=>hsp x (by simp [hx])),?_,rfl⟩;exact trodAll_stays hl hb ts vs ds q (fun t' h'=>ht t' (by simp [h'])) h2 (fun x hx=>hlt x (by simp [hx])) (fun x hx=>hsp x (by simp [hx]))
 | [],_ :: _,_,_,_,h,_,_=>h.elim
 | [],[],_ :: _,_,_,h,_,_=>h.elim
 | _ :: _,[],_,_,_,h,_,_=>h.elim
 | _ :: _,_ :: _,[],_,_,h,_,_=>h.elim
theorem post_true {f:Func} {s:ChangeSpec} {apart fresh handsOn again:Bool} {W W':World} {args:Array Value} {ds gs:List (DataW H)} {before:List MemPlace} {tb:TypeId}
 (hl:laidOutB P=true) (hv:s.vars = []) (hW:DataW.Whole enc P f.params.toList s.vars apart W args.toList ds gs before) (hr:f.resultTypes = #[tb]) (htb:P.underlying tb=some .bool)
 (hp : ∀t∈f.params.toList,P.readableRec t=true∧t<P.types.size) (h1:(s.fn H (ds++gs)).results = [.lit (.bool true)]) (h2:(s.fn H (ds++gs)).args=ds) (h3:(s.fn H (ds++gs)).vars = [])
 (hb:Below W.heap.size W W'):s.post enc P f apart fresh handsOn again W args (.bool true) W':=by
 have hlt : ∀p∈before,p.block<W.heap.size:=fun p hp=>hW.lt p hp;have hW0:=hW;obtain ⟨p,q,hA,hV,he,_⟩:=hW;rw [hv] at hV;(have hq:q = []:=by cases gs<;>simp [DataW.TrodVars] at hV;exact hV);subst hq;rw [List.append_nil] at he;subst he;refine post_of_below (pa:=before) (pv:=[]) hW0 (fun b sp hd=>?_) (fun sp hsp=>?_) (fun sp hsp=>?_) (by simp) hb ?_
 · rw [hr,h1];exact trodAll_mk1 (shut_bool htb true)
 · rw [h2];exact trodAll_stays hl hb _ _ _ _ hp hA hlt hsp
 · rw [hv,h3];rfl
 · exact ok_one hr rfl (okWide_bool_mk htb true)
end
def Reads {α:Type} (P:Program) (e:TypeId) (size:Nat) (cells:α→List Value):Prop:=
 P.cellsOf e=size∧∀(H:Type) (enc:TypeId×Value→H) (w:World) (base:Nat) (spare:Nat→Bool) (held:Bool) (n:Nat) (cs:List Value) (x:DataW H×List MemPlace),
  DataW.trod enc P w base spare held n e cs=some x→∃a:α,cs=cells a
theorem list_of {α:Type} {Q:Nat→α→Prop} : ∀(n:Nat),(∀i,i<n→∃a,Q i a)→∃l:List α,l.length=n∧∀i,(h:i<l.length)→Q i l[i]
 | 0,_=>⟨[],rfl,fun i h=>absurd h (by simp)⟩
 | n+1,h=>by
   obtain ⟨l,hl,hq⟩:=list_of n (fun i hi=>h i (by omega));obtain ⟨a,ha⟩:=h n (by omega);refine ⟨l ++ [a],by simp [hl],fun i hi=>?_⟩;by_cases hi':i<l.length
   · rw [List.getElem_append_left hi'];exact hq i hi'
   · have:i=n:=by simp at hi;omega
     subst this;rw [List.getElem_append_right (by omega)];simpa [hl] using ha
theorem open_row {H:Type} {enc:TypeId×Value→H} {P:Program} {w:World} {r:Reach} {b0 base:Nat} {spare:Nat→Bool} {held:Bool} {α:Type} {t e:TypeId} {size:Nat} {cells:α→List Value} {v:Value} {d:DataW H} {ps:List MemPlace}
 (ht:P.underlying t=some (.slice e)) (h0:0<size) (hr:Reads P e size cells) (hval:Value.okWide P w r b0 t v) (h:DataW.Trod enc P w base spare held t v d ps) :
 ∃A c,∃l:List α,v = .slice A l.length c∧RowRd w size cells A c l:=by
 obtain ⟨A,len,cap,rfl⟩:=okWide_slice ht hval;obtain ⟨fuel,hf⟩:=h;(have hcs:(Value.slice A len cap).cells.toList = [.slice A len cap]:=by simp [Value.cells]);rw [hcs] at hf;rcases open_slice ht hf with ⟨h1,_⟩ | ⟨a,len',cap',m,n,D,Pl,h1,_,hl,hm,hmm,_,hx⟩
 · simp at h1
   obtain ⟨rfl,rfl,rfl⟩:=h1;exact ⟨none,0,[],rfl,RowRd.nil _ _ _⟩
 · simp at h1
   obtain ⟨rfl,rfl,rfl⟩:=h1;have hlm:len≤m:=by rw [hmm];split<;>omega
   obtain ⟨l,hll,hq⟩:=list_of (α:=α) (Q:=fun i x=>∀j u,(cells x)[j]? = some u→w.cell? ((a.add (i*size)).add j)=some u) len (fun i hi=>by
    obtain ⟨cs',c1,c2⟩:=hx i (by omega);obtain ⟨x,rfl⟩:=hr.2 H enc w base spare held n cs' _ c2;obtain ⟨_,hlen,hcell⟩:=World.cells?_some c1;rw [hr.1] at hcell hlen
    exact ⟨x,fun j u hu=>(hcell j (by rw [← hlen];exact (List.getElem?_eq_some_iff.1 hu).1)).trans hu⟩)
   subst hll;refine ⟨some a,cap,l,rfl,hl,hm,fun hpos=>?_⟩;obtain ⟨cs',c1,c2⟩:=hx 0 (by omega);obtain ⟨_,hlen,hcell⟩:=World.cells?_some c1;rw [hr.1] at hlen hcell
   have hspot:a.spot=none:=by
    have:=hcell 0 h0;rw [List.getElem?_eq_getElem (by omega)] at this;(have e2:(a.add (0*size)).add 0=a:=by simp [Addr.add]);rw [e2] at this;exact World.cell?_spot this
   obtain ⟨b,off,spot⟩:=a;simp only at hspot;subst hspot;refine ⟨b,off,rfl,?_,fun k hk j u hu=>?_⟩
   · have:=hcell 0 h0
     rw [List.getElem?_eq_getElem (by omega)] at this;(have e2:((⟨b,off,none⟩:Addr).add (0*size)).add 0=⟨b,off,none⟩:=by simp [Addr.add]);rw [e2] at this;exact World.block_lt_of_cell? w _ this
   · have:=hq k hk j u hu
     rwa [add_plain,add_plain] at this
theorem reads_int {P:Program} {e:TypeId} (he:P.underlying e=some (.int .i64)) (hc:P.cellsOf e=1):Reads P e 1 (fun n:Int=>[Value.int .i64 n]):=
 ⟨hc,fun H enc w base spare held n cs x h=>by
  obtain ⟨k,rfl,_⟩:=DataW.trod_int he h
  exact ⟨k,rfl⟩⟩
end
section
open Go.RowKit Go.ChangeShapes Go.WideShapes Go.Deep
structure RepT (α:Type) where
 size:Nat
 rep:(Nat→Prop)→World→α→List Value→Prop
 len : ∀{D:Nat→Prop} {w:World} {a:α} {cs:List Value},rep D w a cs→cs.length=size
 keep : ∀{D D':Nat→Prop} {w w':World} {a:α} {cs:List Value},w.heap.size≤w'.heap.size→(∀k,D k→k<w.heap.size→D' k∧w'.heap[k]? = w.heap[k]?)→rep D w a cs→rep D' w' a cs
def RowR {α:Type} (r:RepT α) (D:Nat→Prop) (w:World) (A:Option Addr) (c:Nat) (l:List α):Prop:=
 l.length≤c∧c≤maxLen∧
  (0<l.length→∃b off,A=some ⟨b,off,none⟩∧D b∧b<w.heap.size∧∀k,(h:k<l.length)→∃cs,r.rep D w l[k] cs∧∀j u,cs[j]? = some u→w.cell? ⟨b,off+k*r.size+j,none⟩=some u)
section
variable {α:Type} {r:RepT α} {D D':Nat→Prop} {w w':World} {A:Option Addr} {c:Nat} {l:List α}
theorem RowR.keep (h:RowR r D w A c l) (hs:w.heap.size≤w'.heap.size) (hk : ∀k,D k→k<w.heap.size→D' k∧w'.heap[k]? = w.heap[k]?):RowR r D' w' A c l:=by
 refine ⟨h.1,h.2.1,fun h0=>?_⟩;obtain ⟨b,off,h1,h2,h3,h4⟩:=h.2.2 h0;refine ⟨b,off,h1,(hk b h2 h3).1,by omega,fun k hk'=>?_⟩;obtain ⟨cs,h5,h6⟩:=h4 k hk';exact ⟨cs,r.keep hs hk h5,fun j u hu=>(World.cell?_of_block (hk b h2 h3).2).trans (h6 j u hu)⟩
theorem RowR.nil (r:RepT α) (D:Nat→Prop) (w:World):RowR r D w none 0 []:=⟨Nat.le_refl _,Nat.zero_le _,fun h=>absurd h (by simp)⟩
theorem RowR.cap (h:RowR r D w A c l):(l.length:Int)≤9223372036854775807:=by have:=h.1;have:=h.2.1;unfold maxLen at this;omega
theorem RowR.at_ (h:RowR r D w A c l) {k:Nat} (hk:k<l.length) : ∃b off cs,A=some ⟨b,off,none⟩∧D b∧b<w.heap.size∧r.rep D w l[k] cs∧∀j u,cs[j]? = some u→w.cell? ⟨b,off+k*r.size+j,none⟩=some u:=by
 obtain ⟨b,off,h1,h2,h3,h4⟩:=h.2.2 (by omega);obtain ⟨cs,h5,h6⟩:=h4 k hk;exact ⟨b,off,cs,h1,h2,h3,h5,h6⟩
theorem RowR.weaken (h:RowR r D w A c l) (hD : ∀k,D k→D' k):RowR r D' w A c l:=h.keep (Nat.le_refl _) (fun k hk _=>⟨hD k hk,rfl⟩)
theorem RowR.new_ (h:RowR r D w A c l) (hb:Below w.heap.size w w'):RowR r D w' A c l:=h.keep hb.size (fun k hk hl=>⟨hk,hb.block k hl⟩)
theorem RowR.fr {M:Nat→Prop} (h:RowR r D w A c l) (hb:Fr M w w') (hm : ∀k,D k→¬M k):RowR r D w' A c l:=h.keep hb.size (fun k hk hl=>⟨hk,hb.block k hl (hm k hk)⟩)
end
def RepT.flat {α:Type} (size:Nat) (cells:α→List Value) (h : ∀a,(cells a).length=size):RepT α:=
 ⟨size,fun _ _ a cs=>cs=cells a,by rintro _ _ _ _ rfl;exact h _,by rintro _ _ _ _ _ _ _ _ h;exact h⟩
theorem RowR.rd {α:Type} {size:Nat} {cells:α→List Value} {hs : ∀a,(cells a).length=size} {D:Nat→Prop} {w:World} {A:Option Addr} {c:Nat} {l:List α} (h:RowR (RepT.flat size cells hs) D w A c l):RowRd w size cells A c l:=by
 refine ⟨h.1,h.2.1,fun h0=>?_⟩;obtain ⟨b,off,h1,h2,h3,h4⟩:=h.2.2 h0;refine ⟨b,off,h1,h3,fun k hk j u hu=>?_⟩;obtain ⟨cs,h5,h6⟩:=h4 k hk;have h5':cs=cells l[k]:=h5;exact h6 j u (by rw [h5'];exact hu)
theorem RowR.of_rd {α:Type} {size:Nat} {cells:α→List Value} {hs : ∀a,(cells a).length=size} {D:Nat→Prop} {w:World} {A:Option Addr} {c:Nat} {l:List α} (h:RowRd w size cells A c l) (hA:AIn A D):RowR (RepT.flat size cells hs) D w A c l:=by
 refine ⟨h.1,h.2.1,fun h0=>?_⟩;obtain ⟨b,off,h1,h2,h3⟩:=h.2.2 h0;exact ⟨b,off,h1,hA _ h1,h2,fun k hk=>⟨_,rfl,h3 k hk⟩⟩
end
section
open Go.RowKit
def Sym.cells (s:Sym):List Value:=[.int .i64 s.kind,.string s.text,.int .i64 s.n]
theorem Sym.cells_length (s:Sym):s.cells.length=3:=rfl
theorem isNaN_int (a:Int) (w:World):Calls Tryz.prog 226 #[.int .i64 a] w fun e w'=>e = .returned (.bool false)∧w=w':=by
 go_enter Tryz.func226,Tryz.ntmps226;go_wp2;go_ret;exact ⟨by simp,rfl⟩
theorem isNaN_str (a:ByteArray) (w:World):Calls Tryz.prog 227 #[.string a] w fun e w'=>e = .returned (.bool false)∧w=w':=by
 go_enter Tryz.func227,Tryz.ntmps227;go_wp2;go_ret;exact ⟨by simp,rfl⟩
theorem cmp_int (a b:Int) (w:World):Calls Tryz.prog 184 #[.int .i64 a,.int .i64 b] w fun e w'=>e = .returned (.int .i64 (cmpInt a b))∧w=w':=by
 go_enter Tryz.func184,Tryz.ntmps184;go_wp2_with (go_at_call 226;refine (isNaN_int _ _).mono ?_;rintro e w' ⟨rfl,rfl⟩)
 all_goals (go_ret;refine ⟨?_,rfl⟩;unfold cmpInt;(repeat' split)<;>first | rfl | (exfalso;omega))
theorem cmp_str (a b:ByteArray) (w:World):Calls Tryz.prog 185 #[.string a,.string b] w fun e w'=>e = .returned (.int .i64 (cmpStr a b))∧w=w':=by
 go_enter Tryz.func185,Tryz.ntmps185;go_wp2_with (go_at_call 227;refine (isNaN_str _ _).mono ?_;rintro e w' ⟨rfl,rfl⟩)
 all_goals (go_ret;refine ⟨?_,rfl⟩;unfold cmpStr;(repeat' split)<;>first | rfl | (exfalso;simp_all))
theorem cmp_sym (a b:Sym) (w:World) :
 Calls Tryz.prog 143 #[.agg #[.int .i64 a.kind,.string a.text,.int .i64 a.n],.agg #[.int .i64 b.kind,.string b.text,.int .i64 b.n]] w fun e w'=>e = .returned (.int .i64 (cmpSym a b))∧Below w.heap.size w w':=by
 obtain ⟨ak,at_,an⟩:=a;obtain ⟨bk,bt,bn⟩:=b;by_cases h1:cmpInt ak bk=0
 · have n1:(cmpInt ak bk != 0)=false:=by simp [h1]
   by_cases h2:cmpStr at_ bt=0
   · have n2:(cmpStr at_ bt != 0)=false:=by simp [h2]
     (have HF:Hid (cmpSym ⟨ak,at_,an⟩ ⟨bk,bt,bn⟩=cmpInt an bn):=by simp [Hid,cmpSym,andThen,h1,h2]);clear h1 h2;go_enter Tryz.func143,Tryz.ntmps143;(go_wp2_with (first | (go_at_call 184;refine (cmp_int _ _ _).mono ?_;rintro e w' ⟨rfl,rfl⟩) | (go_at_call 185;refine (cmp_str _ _ _).mono ?_;rintro e w' ⟨rfl,rfl⟩)));go_ret;exact ⟨by rw [HF.out];rfl,((Below.refl _ _).alloc (Nat.le_refl _) _).alloc (by simp) _⟩
   · have n2:(cmpStr at_ bt != 0)=true:=by simp [h2]
     (have HF:Hid (cmpSym ⟨ak,at_,an⟩ ⟨bk,bt,bn⟩=cmpStr at_ bt):=by simp [Hid,cmpSym,andThen,h1,h2]);clear h1 h2;go_enter Tryz.func143,Tryz.ntmps143;(go_wp2_with (first | (go_at_call 184;refine (cmp_int _ _ _).mono ?_;rintro e w' ⟨rfl,rfl⟩) | (go_at_call 185;refine (cmp_str _ _ _).mono ?_;rintro e w' ⟨rfl,rfl⟩)));go_ret;exact ⟨by rw [HF.out];rfl,((Below.refl _ _).alloc (Nat.le_refl _) _).alloc (by simp) _⟩
 · have n1:(cmpInt ak bk != 0)=true:=by simp [h1]
   (have HF:Hid (cmpSym ⟨ak,at_,an⟩ ⟨bk,bt,bn⟩=cmpInt ak bk):=by simp [Hid,cmpSym,andThen,h1]);clear h1;go_enter Tryz.func143,Tryz.ntmps143;(go_wp2_with (first | (go_at_call 184;refine (cmp_int _ _ _).mono ?_;rintro e w' ⟨rfl,rfl⟩) | (go_at_call 185;refine (cmp_str _ _ _).mono ?_;rintro e w' ⟨rfl,rfl⟩)));go_ret;exact ⟨by rw [HF.out];rfl,((Below.refl _ _).alloc (Nat.le_refl _) _).alloc (by simp) _⟩
end
section
open Go.RowKit Go.ChangeShapes Go.WideShapes Go.Deep
def repSym:RepT Sym:=RepT.flat 3 Sym.cells Sym.cells_length
structure Elem where
 id:Sym
 attr:Sym
 value:Sym
 acc:Bool
 goal:Bool
 tag:Int
def Elem.cells (x:Elem):List Value:=[.int .i64 x.id.kind,.string x.id.text,.int .i64 x.id.n,.int .i64 x.attr.kind,.string x.attr.text,.int .i64 x.attr.n,.int .i64 x.value.kind,.string x.value.text,.int .i64 x.value.n,.bool x.acc,.bool x.goal,.int .i64 x.tag]
theorem Elem.cells_length (x:Elem):x.cells.length=12:=rfl
structure TestT where
 rel:Int
 var:ByteArray
 sym:Sym
 list:List Sym
def repTestT:RepT TestT:=
 { size:=6,rep:=fun D w x cs=>∃A1 c1,cs = [.int .i64 x.rel,.string x.var,.int .i64 x.sym.kind,.string x.sym.text,.int .i64 x.sym.n,.slice A1 x.list.length c1]∧RowR repSym D w A1 c1 x.list,
   len:=by rintro _ _ _ _ ⟨_,_,rfl,_⟩;rfl,
   keep:=by
    rintro _ _ _ _ _ _ hs hk ⟨A1,c1,h0,h1⟩
    exact ⟨A1,c1,h0,h1.keep hs hk⟩ }
theorem at_TestT {D:Nat→Prop} {w:World} {A:Option Addr} {c k:Nat} {l:List TestT} (h:RowR repTestT D w A c l) (hk:k<l.length) : ∃g off A1 c1,A=some ⟨g,off,none⟩∧D g∧g<w.heap.size∧w.cell? ⟨g,off+k*6,none⟩=some (.int .i64 l[k].rel)∧w.cell? ⟨g,off+k*6+1,none⟩=some (.string l[k].var)∧w.cell? ⟨g,off+k*6+2,none⟩=some (.int .i64 l[k].sym.kind)∧w.cell? ⟨g,off+k*6+3,none⟩=some (.string l[k].sym.text)∧w.cell? ⟨g,off+k*6+4,none⟩=some (.int .i64 l[k].sym.n)∧w.cell? ⟨g,off+k*6+5,none⟩=some (.slice A1 l[k].list.length c1)∧RowR repSym D w A1 c1 l[k].list:=by
 obtain ⟨g,off,cs,hA,hD,hg,⟨A1,c1,rfl,hrs⟩,hc⟩:=h.at_ hk;exact ⟨g,off,A1,c1,hA,hD,hg,by simpa [repTestT] using hc 0 _ rfl,by simpa [repTestT] using hc 1 _ rfl,by simpa [repTestT] using hc 2 _ rfl,by simpa [repTestT] using hc 3 _ rfl,by simpa [repTestT] using hc 4 _ rfl,by simpa [repTestT] using hc 5 _ rfl,hrs⟩
inductive CondT where
 | mk (kind:Int) (goal:Bool) (id:ByteArray) (attr:List TestT) (value:List TestT) (acc:Bool) (conds:List CondT)
def CondT.kind:CondT→Int
 | .mk x _ _ _ _ _ _=>x
def CondT.goal:CondT→Bool
 | .mk _ x _ _ _ _ _=>x
def CondT.id:CondT→ByteArray
 | .mk _ _ x _ _ _ _=>x
def CondT.attr:CondT→List TestT
 | .mk _ _ _ x _ _ _=>x
def CondT.value:CondT→List TestT
 | .mk _ _ _ _ x _ _=>x
def CondT.acc:CondT→Bool
 | .mk _ _ _ _ _ x _=>x
def CondT.conds:CondT→List CondT
 | .mk _ _ _ _ _ _ x=>x
def repCondT:Nat→RepT CondT
 | 0=>{ size:=7,rep:=fun _ _ _ _=>False,len:=fun h=>h.elim,keep:=fun _ _ h=>h }
 | n+1=>
 { size:=7,rep:=fun D w x cs=>∃A1 c1 A2 c2 A3 c3,cs = [.int .i64 x.kind,.bool x.goal,.string x.id,.slice A1 x.attr.length c1,.slice A2 x.value.length c2,.bool x.acc,.slice A3 x.conds.length c3]∧RowR repTestT D w A1 c1 x.attr∧RowR repTestT D w A2 c2 x.value∧RowR (repCondT n) D w A3 c3 x.conds,
   len:=by rintro _ _ _ _ ⟨_,_,_,_,_,_,rfl,_⟩;rfl,
   keep:=by
    rintro _ _ _ _ _ _ hs hk ⟨A1,c1,A2,c2,A3,c3,h0,h1,h2,h3⟩
    exact ⟨A1,c1,A2,c2,A3,c3,h0,h1.keep hs hk,h2.keep hs hk,h3.keep hs hk⟩ }
theorem repCondT_size (n:Nat):(repCondT n).size=7:=by cases n<;>rfl
theorem at_CondT {n:Nat} {D:Nat→Prop} {w:World} {A:Option Addr} {c k:Nat} {l:List CondT} (h:RowR (repCondT (n+1)) D w A c l) (hk:k<l.length) : ∃g off A1 c1 A2 c2 A3 c3,A=some ⟨g,off,none⟩∧D g∧g<w.heap.size∧w.cell? ⟨g,off+k*7,none⟩=some (.int .i64 l[k].kind)∧w.cell? ⟨g,off+k*7+1,none⟩=some (.bool l[k].goal)∧w.cell? ⟨g,off+k*7+2,none⟩=some (.string l[k].id)∧w.cell? ⟨g,off+k*7+3,none⟩=some (.slice A1 l[k].attr.length c1)∧w.cell? ⟨g,off+k*7+4,none⟩=some (.slice A2 l[k].value.length c2)∧w.cell? ⟨g,off+k*7+5,none⟩=some (.bool l[k].acc)∧w.cell? ⟨g,off+k*7+6,none⟩=some (.slice A3 l[k].conds.length c3)∧RowR repTestT D w A1 c1 l[k].attr∧RowR repTestT D w A2 c2 l[k].value∧RowR (repCondT n) D w A3 c3 l[k].conds:=by
 obtain ⟨g,off,cs,hA,hD,hg,⟨A1,c1,A2,c2,A3,c3,rfl,hrs⟩,hc⟩:=h.at_ hk;exact ⟨g,off,A1,c1,A2,c2,A3,c3,hA,hD,hg,by simpa [repCondT] using hc 0 _ rfl,by simpa [repCondT] using hc 1 _ rfl,by simpa [repCondT] using hc 2 _ rfl,by simpa [repCondT] using hc 3 _ rfl,by simpa [repCondT] using hc 4 _ rfl,by simpa [repCondT] using hc 5 _ rfl,by simpa [repCondT] using hc 6 _ rfl,hrs⟩
structure AtomT where
 var:ByteArray
 sym:Sym
structure TermT where
 op:Int
 a:AtomT
 b:AtomT
structure ActT where
 id:ByteArray
 attr:AtomT
 value:TermT
 pref:Int
 other:AtomT
def ActT.cells (x:ActT):List Value:=[.string x.id,.string x.attr.var,.int .i64 x.attr.sym.kind,.string x.attr.sym.text,.int .i64 x.attr.sym.n,.int .i64 x.value.op,.string x.value.a.var,.int .i64 x.value.a.sym.kind,.string x.value.a.sym.text,.int .i64 x.value.a.sym.n,.string x.value.b.var,.int .i64 x.value.b.sym.kind,.string x.value.b.sym.text,.int .i64 x.value.b.sym.n,.int .i64 x.pref,.string x.other.var,.int .i64 x.other.sym.kind,.string x.other.sym.text,.int .i64 x.other.sym.n]
theorem ActT.cells_length (x:ActT):x.cells.length=19:=rfl
def repActT:RepT ActT:=RepT.flat 19 ActT.cells ActT.cells_length
theorem at_ActT {D:Nat→Prop} {w:World} {A:Option Addr} {c k:Nat} {l:List ActT} (h:RowR repActT D w A c l) (hk:k<l.length) : ∃g off,A=some ⟨g,off,none⟩∧D g∧g<w.heap.size∧w.cell? ⟨g,off+k*19,none⟩=some (.string l[k].id)∧w.cell? ⟨g,off+k*19+1,none⟩=some (.string l[k].attr.var)∧w.cell? ⟨g,off+k*19+2,none⟩=some (.int .i64 l[k].attr.sym.kind)∧w.cell? ⟨g,off+k*19+3,none⟩=some (.string l[k].attr.sym.text)∧w.cell? ⟨g,off+k*19+4,none⟩=some (.int .i64 l[k].attr.sym.n)∧w.cell? ⟨g,off+k*19+5,none⟩=some (.int .i64 l[k].value.op)∧w.cell? ⟨g,off+k*19+6,none⟩=some (.string l[k].value.a.var)∧w.cell? ⟨g,off+k*19+7,none⟩=some (.int .i64 l[k].value.a.sym.kind)∧w.cell? ⟨g,off+k*19+8,none⟩=some (.string l[k].value.a.sym.text)∧w.cell? ⟨g,off+k*19+9,none⟩=some (.int .i64 l[k].value.a.sym.n)∧w.cell? ⟨g,off+k*19+10,none⟩=some (.string l[k].value.b.var)∧w.cell? ⟨g,off+k*19+11,none⟩=some (.int .i64 l[k].value.b.sym.kind)∧w.cell? ⟨g,off+k*19+12,none⟩=some (.string l[k].value.b.sym.text)∧w.cell? ⟨g,off+k*19+13,none⟩=some (.int .i64 l[k].value.b.sym.n)∧w.cell? ⟨g,off+k*19+14,none⟩=some (.int .i64 l[k].pref)∧w.cell? ⟨g,off+k*19+15,none⟩=some (.string l[k].other.var)∧w.cell? ⟨g,off+k*19+16,none⟩=some (.int .i64 l[k].other.sym.kind)∧w.cell? ⟨g,off+k*19+17,none⟩=some (.string l[k].other.sym.text)∧w.cell? ⟨g,off+k*19+18,none⟩=some (.int .i64 l[k].other.sym.n):=by
 obtain ⟨g,off,cs,hA,hD,hg,hr,hc⟩:=h.at_ hk;have hr2:cs=ActT.cells l[k]:=hr;subst hr2;refine ⟨g,off,hA,hD,hg,by simpa [repActT,RepT.flat] using hc 0 _ rfl,by simpa [repActT,RepT.flat] using hc 1 _ rfl,by simpa [repActT,RepT.flat] using hc 2 _ rfl,by simpa [repActT,RepT.flat] using hc 3 _ rfl,by simpa [repActT,RepT.flat] using hc 4 _ rfl,by simpa [repActT,RepT.flat] using hc 5 _ rfl,by simpa [repActT,RepT.flat] using hc 6 _ rfl,by simpa [repActT,RepT.flat] using hc 7 _ rfl,by simpa [repActT,RepT.flat] using hc 8 _ rfl,by simpa [repActT,RepT.flat] using hc 9 _ rfl,by simpa [repActT,RepT.flat] using hc 10 _ rfl,by simpa [repActT,RepT.flat] using hc 11 _ rfl,by simpa [repActT,RepT.flat] using hc 12 _ rfl,by simpa [repActT,RepT.flat] using hc 13 _ rfl,by simpa [repActT,RepT.flat] using hc 14 _ rfl,by simpa [repActT,RepT.flat] using hc 15 _ rfl,by simpa [repActT,RepT.flat] using hc 16 _ rfl,by simpa [repActT,RepT.flat] using hc 17 _ rfl,by simpa [repActT,RepT.flat] using hc 18 _ rfl⟩
structure ProdT where
 name:ByteArray
 conds:List CondT
 acts:List ActT
structure BindT where
 var:ByteArray
 sym:Sym
def BindT.cells (x:BindT):List Value:=[.string x.var,.int .i64 x.sym.kind,.string x.sym.text,.int .i64 x.sym.n]
theorem BindT.cells_length (x:BindT):x.cells.length=4:=rfl
def repBindT:RepT BindT:=RepT.flat 4 BindT.cells BindT.cells_length
structure PrefT where
 id:Sym
 attr:Sym
 value:Sym
 other:Sym
 kind:Int
 o:Bool
 level:Int
 by_:Int
def PrefT.cells (x:PrefT):List Value:=[.int .i64 x.id.kind,.string x.id.text,.int .i64 x.id.n,.int .i64 x.attr.kind,.string x.attr.text,.int .i64 x.attr.n,.int .i64 x.value.kind,.string x.value.text,.int .i64 x.value.n,.int .i64 x.other.kind,.string x.other.text,.int .i64 x.other.n,.int .i64 x.kind,.bool x.o,.int .i64 x.level,.int .i64 x.by_]
theorem PrefT.cells_length (x:PrefT):x.cells.length=16:=rfl
structure TraceT where
 elem:Elem
 level:Int
 cause:Int
def TraceT.cells (x:TraceT):List Value:=[.int .i64 x.elem.id.kind,.string x.elem.id.text,.int .i64 x.elem.id.n,.int .i64 x.elem.attr.kind,.string x.elem.attr.text,.int .i64 x.elem.attr.n,.int .i64 x.elem.value.kind,.string x.elem.value.text,.int .i64 x.elem.value.n,.bool x.elem.acc,.bool x.elem.goal,.int .i64 x.elem.tag,.int .i64 x.level,.int .i64 x.cause]
theorem TraceT.cells_length (x:TraceT):x.cells.length=14:=rfl
def repTraceT:RepT TraceT:=RepT.flat 14 TraceT.cells TraceT.cells_length
theorem at_TraceT {D:Nat→Prop} {w:World} {A:Option Addr} {c k:Nat} {l:List TraceT} (h:RowR repTraceT D w A c l) (hk:k<l.length) : ∃g off,A=some ⟨g,off,none⟩∧D g∧g<w.heap.size∧w.cell? ⟨g,off+k*14,none⟩=some (.int .i64 l[k].elem.id.kind)∧w.cell? ⟨g,off+k*14+1,none⟩=some (.string l[k].elem.id.text)∧w.cell? ⟨g,off+k*14+2,none⟩=some (.int .i64 l[k].elem.id.n)∧w.cell? ⟨g,off+k*14+3,none⟩=some (.int .i64 l[k].elem.attr.kind)∧w.cell? ⟨g,off+k*14+4,none⟩=some (.string l[k].elem.attr.text)∧w.cell? ⟨g,off+k*14+5,none⟩=some (.int .i64 l[k].elem.attr.n)∧w.cell? ⟨g,off+k*14+6,none⟩=some (.int .i64 l[k].elem.value.kind)∧w.cell? ⟨g,off+k*14+7,none⟩=some (.string l[k].elem.value.text)∧w.cell? ⟨g,off+k*14+8,none⟩=some (.int .i64 l[k].elem.value.n)∧w.cell? ⟨g,off+k*14+9,none⟩=some (.bool l[k].elem.acc)∧w.cell? ⟨g,off+k*14+10,none⟩=some (.bool l[k].elem.goal)∧w.cell? ⟨g,off+k*14+11,none⟩=some (.int .i64 l[k].elem.tag)∧w.cell? ⟨g,off+k*14+12,none⟩=some (.int .i64 l[k].level)∧w.cell? ⟨g,off+k*14+13,none⟩=some (.int .i64 l[k].cause):=by
 obtain ⟨g,off,cs,hA,hD,hg,hr,hc⟩:=h.at_ hk;have hr2:cs=TraceT.cells l[k]:=hr;subst hr2;refine ⟨g,off,hA,hD,hg,by simpa [repTraceT,RepT.flat] using hc 0 _ rfl,by simpa [repTraceT,RepT.flat] using hc 1 _ rfl,by simpa [repTraceT,RepT.flat] using hc 2 _ rfl,by simpa [repTraceT,RepT.flat] using hc 3 _ rfl,by simpa [repTraceT,RepT.flat] using hc 4 _ rfl,by simpa [repTraceT,RepT.flat] using hc 5 _ rfl,by simpa [repTraceT,RepT.flat] using hc 6 _ rfl,by simpa [repTraceT,RepT.flat] using hc 7 _ rfl,by simpa [repTraceT,RepT.flat] using hc 8 _ rfl,by simpa [repTraceT,RepT.flat] using hc 9 _ rfl,by simpa [repTraceT,RepT.flat] using hc 10 _ rfl,by simpa [repTraceT,RepT.flat] using hc 11 _ rfl,by simpa [repTraceT,RepT.flat] using hc 12 _ rfl,by simpa [repTraceT,RepT.flat] using hc 13 _ rfl⟩
structure HoleT where
 cond:CondT
 binds:List BindT
def repHoleT (n:Nat):RepT HoleT:=
 { size:=8,rep:=fun D w x cs=>∃A1 c1 A2 c2 A3 c3 A4 c4,cs = [.int .i64 x.cond.kind,.bool x.cond.goal,.string x.cond.id,.slice A1 x.cond.attr.length c1,.slice A2 x.cond.value.length c2,.bool x.cond.acc,.slice A3 x.cond.conds.length c3,.slice A4 x.binds.length c4]∧RowR repTestT D w A1 c1 x.cond.attr∧RowR repTestT D w A2 c2 x.cond.value∧RowR (repCondT n) D w A3 c3 x.cond.conds∧RowR repBindT D w A4 c4 x.binds,
   len:=by rintro _ _ _ _ ⟨_,_,_,_,_,_,_,_,rfl,_⟩;rfl,
   keep:=by
    rintro _ _ _ _ _ _ hs hk ⟨A1,c1,A2,c2,A3,c3,A4,c4,h0,h1,h2,h3,h4⟩
    exact ⟨A1,c1,A2,c2,A3,c3,A4,c4,h0,h1.keep hs hk,h2.keep hs hk,h3.keep hs hk,h4.keep hs hk⟩ }
theorem at_HoleT {n:Nat} {D:Nat→Prop} {w:World} {A:Option Addr} {c k:Nat} {l:List HoleT} (h:RowR (repHoleT n) D w A c l) (hk:k<l.length) : ∃g off A1 c1 A2 c2 A3 c3 A4 c4,A=some ⟨g,off,none⟩∧D g∧g<w.heap.size∧w.cell? ⟨g,off+k*8,none⟩=some (.int .i64 l[k].cond.kind)∧w.cell? ⟨g,off+k*8+1,none⟩=some (.bool l[k].cond.goal)∧w.cell? ⟨g,off+k*8+2,none⟩=some (.string l[k].cond.id)∧w.cell? ⟨g,off+k*8+3,none⟩=some (.slice A1 l[k].cond.attr.length c1)∧w.cell? ⟨g,off+k*8+4,none⟩=some (.slice A2 l[k].cond.value.length c2)∧w.cell? ⟨g,off+k*8+5,none⟩=some (.bool l[k].cond.acc)∧w.cell? ⟨g,off+k*8+6,none⟩=some (.slice A3 l[k].cond.conds.length c3)∧w.cell? ⟨g,off+k*8+7,none⟩=some (.slice A4 l[k].binds.length c4)∧RowR repTestT D w A1 c1 l[k].cond.attr∧RowR repTestT D w A2 c2 l[k].cond.value∧RowR (repCondT n) D w A3 c3 l[k].cond.conds∧RowR repBindT D w A4 c4 l[k].binds:=by
 obtain ⟨g,off,cs,hA,hD,hg,⟨A1,c1,A2,c2,A3,c3,A4,c4,rfl,hrs⟩,hc⟩:=h.at_ hk;exact ⟨g,off,A1,c1,A2,c2,A3,c3,A4,c4,hA,hD,hg,by simpa [repHoleT] using hc 0 _ rfl,by simpa [repHoleT] using hc 1 _ rfl,by simpa [repHoleT] using hc 2 _ rfl,by simpa [repHoleT] using hc 3 _ rfl,by simpa [repHoleT] using hc 4 _ rfl,by simpa [repHoleT] using hc 5 _ rfl,by simpa [repHoleT] using hc 6 _ rfl,by simpa [repHoleT] using hc 7 _ rfl,hrs⟩
structure ApartT where
 a:Sym
 b:Sym
 rel:Int
def ApartT.cells (x:ApartT):List Value:=[.int .i64 x.a.kind,.string x.a.text,.int .i64 x.a.n,.int .i64 x.b.kind,.string x.b.text,.int .i64 x.b.n,.int .i64 x.rel]
theorem ApartT.cells_length (x:ApartT):x.cells.length=7:=rfl
def repApartT:RepT ApartT:=RepT.flat 7 ApartT.cells ApartT.cells_length
structure RecordT where
 num:Int
 level:Int
 elems:List TraceT
 holes:List HoleT
 aparts:List ApartT
 news:List Sym
def repRecordT (n:Nat):RepT RecordT:=
 { size:=6,rep:=fun D w x cs=>∃A1 c1 A2 c2 A3 c3 A4 c4,cs = [.int .i64 x.num,.int .i64 x.level,.slice A1 x.elems.length c1,.slice A2 x.holes.length c2,.slice A3 x.aparts.length c3,.slice A4 x.news.length c4]∧RowR repTraceT D w A1 c1 x.elems∧RowR (repHoleT n) D w A2 c2 x.holes∧RowR repApartT D w A3 c3 x.aparts∧RowR repSym D w A4 c4 x.news,
   len:=by rintro _ _ _ _ ⟨_,_,_,_,_,_,_,_,rfl,_⟩;rfl,
   keep:=by
    rintro _ _ _ _ _ _ hs hk ⟨A1,c1,A2,c2,A3,c3,A4,c4,h0,h1,h2,h3,h4⟩
    exact ⟨A1,c1,A2,c2,A3,c3,A4,c4,h0,h1.keep hs hk,h2.keep hs hk,h3.keep hs hk,h4.keep hs hk⟩ }
theorem at_RecordT {n:Nat} {D:Nat→Prop} {w:World} {A:Option Addr} {c k:Nat} {l:List RecordT} (h:RowR (repRecordT n) D w A c l) (hk:k<l.length) : ∃g off A1 c1 A2 c2 A3 c3 A4 c4,A=some ⟨g,off,none⟩∧D g∧g<w.heap.size∧w.cell? ⟨g,off+k*6,none⟩=some (.int .i64 l[k].num)∧w.cell? ⟨g,off+k*6+1,none⟩=some (.int .i64 l[k].level)∧w.cell? ⟨g,off+k*6+2,none⟩=some (.slice A1 l[k].elems.length c1)∧w.cell? ⟨g,off+k*6+3,none⟩=some (.slice A2 l[k].holes.length c2)∧w.cell? ⟨g,off+k*6+4,none⟩=some (.slice A3 l[k].aparts.length c3)∧w.cell? ⟨g,off+k*6+5,none⟩=some (.slice A4 l[k].news.length c4)∧RowR repTraceT D w A1 c1 l[k].elems∧RowR (repHoleT n) D w A2 c2 l[k].holes∧RowR repApartT D w A3 c3 l[k].aparts∧RowR repSym D w A4 c4 l[k].news:=by
 obtain ⟨g,off,cs,hA,hD,hg,⟨A1,c1,A2,c2,A3,c3,A4,c4,rfl,hrs⟩,hc⟩:=h.at_ hk;exact ⟨g,off,A1,c1,A2,c2,A3,c3,A4,c4,hA,hD,hg,by simpa [repRecordT] using hc 0 _ rfl,by simpa [repRecordT] using hc 1 _ rfl,by simpa [repRecordT] using hc 2 _ rfl,by simpa [repRecordT] using hc 3 _ rfl,by simpa [repRecordT] using hc 4 _ rfl,by simpa [repRecordT] using hc 5 _ rfl,hrs⟩
end
section
open Go.RowKit Go.Shelf
attribute [local go_sem] Oper.semAt_some
set_option linter.unusedSimpArgs false
structure SlV where
 A:Option Addr
 n:Nat
 c:Nat
structure PV where
 name:ByteArray
 cs:SlV
 acts:SlV
def PV.cells (x:PV):List Value:=[.string x.name,.slice x.cs.A x.cs.n x.cs.c,.slice x.acts.A x.acts.n x.acts.c]
theorem PV.cells_length (x:PV):x.cells.length=3:=rfl
def KeepO (kb:Nat) (A:Option Addr) (X Y:World):Prop:=RowKeep A X Y∧RowKeep (some ⟨kb,0,none⟩) X Y
theorem KeepO.blk {kb:Nat} {A:Option Addr} {X Y:World} {t:TypeId} {cs:Array Value} (h:KeepO kb A X Y) (hb:Blk X kb t cs):Blk Y kb t cs:=(h.2.2 _ rfl hb.lt).trans hb
theorem AIn.one {P:Nat→Prop} {k:Nat} (h:P k):AIn (some ⟨k,0,none⟩) P:=fun a e=>by cases e;exact h
def encOPV (x:PV):Array Value:=#[.agg #[.string x.name,.slice x.cs.A x.cs.n x.cs.c,.slice x.acts.A x.acts.n x.acts.c]]
theorem of_PV (kb:Nat) (A:Option Addr) (c:Nat) (l:List PV) (W:World) (hb:Blk W kb 95 #[.slice A l.length c]) (hrd:RowRd W 3 PV.cells A c l) :
 Iter Tryz.prog 83 #[.pointer (some ⟨kb,0,none⟩)] encOPV l W (fun X Y=>Y=X) (KeepO kb A):=by
 intro lo J Jx _ _ h0 hY;have H0:=Lib.hid (h0 W rfl);have HY:=Lib.hid hY;have HB:=Lib.hid hb;have HR:=Lib.hid hrd;have hlm:=hrd.cap;clear h0 hY hb hrd;refine callsIn_of_wp Tryz.func83 rfl trivial ?_;simp only [Tryz.ntmps83,List.size_toArray,List.length_cons,List.length_nil,Nat.reduceAdd,Nat.reduceSub,Array.replicate_succ,Array.replicate_zero,List.push_toArray,List.append_toArray,List.nil_append,List.cons_append];gi_wp2
 gi_loopw [3] (fun s wr=>∃pre post,s = .int .i64 (pre.length:Int)∧l=pre++post∧J pre wr∧Blk wr kb 95 #[.slice A l.length c]∧RowRd wr 3 PV.cells A c l) (fun s wr=>l.length - (intOf s).toNat)
 case atStart=>exact ⟨[],l,rfl,rfl,H0.out,HB.out,HR.out⟩
 case round=>
  obtain ⟨pre,post,rfl,hx,hJ,hbk,hrd⟩:=hrel;(have hlen:pre.length+post.length=l.length:=by have:=congrArg List.length hx;simp at this;omega);have HX:=Lib.hid hx;have HJ:=Lib.hid hJ;have HB1:=Lib.hid hbk;have HR1:=Lib.hid hrd;have k0:=hbk.c1;have kz:=hbk.lt;clear hx hJ hrd hbk
  cases post with
  | nil=>
    (have e1:(pre.length:Int)=(l.length:Int):=by simp at hlen;omega);rw [e1];clear hlen e1;gi_wp2;go_end0;exact ⟨⟨_,rfl⟩,.inl (by have:=HX.out;rw [List.append_nil] at this;rw [this];exact HJ.out)⟩
  | cons x post=>
    obtain ⟨m,hm⟩ : ∃m,m=pre.length:=⟨_,rfl⟩;have hml:m<l.length:=by simp at hlen;omega
    have hget:l[m]=x:=by
     apply Option.some.inj;rw [← List.getElem?_eq_getElem hml,HX.out,hm,List.getElem?_append_right (Nat.le_refl _),Nat.sub_self];rfl
    obtain ⟨g,off,hAA,hgs,hcell⟩:=HR1.out.at_ hml;rw [hget] at hcell;rw [hAA] at k0;(have q0:wr.cell? ⟨g,off+m*3,none⟩=some (.string x.name):=by simpa using hcell 0 _ rfl);(have q1:wr.cell? ⟨g,off+m*3+1,none⟩=some (.slice x.cs.A x.cs.n x.cs.c):=by simpa using hcell 1 _ rfl);(have q2:wr.cell? ⟨g,off+m*3+2,none⟩=some (.slice x.acts.A x.acts.n x.acts.c):=by simpa using hcell 2 _ rfl);(have b1:(0:Int)≤(m:Int):=by omega);(have b2:(m:Int)<(l.length:Int):=by omega);rw [← hm];have HM:=Lib.hid hm;clear hcell hget hlen hm;obtain ⟨fn,tmps,assign,body,hy,hR⟩:=HY.out pre x post wr HX.out HJ.out;dsimp only [encOPV] at hy;have HRR:=Lib.hid hR;clear hR;(gi_wp2_with fail);refine ⟨rfl,HRR.out.mono ?_⟩;rintro e W3 (⟨rfl,hJ3,hk3⟩ | ⟨rfl,hJx3⟩)
    · have HJ3:=Lib.hid hJ3
      have HK3:=Lib.hid hk3;clear hJ3 hk3 hy q0 q1 q2;gi_wp2;go_roundw
      case rel=>exact ⟨pre ++ [x],post,by rw [HM.out,List.length_append,List.length_singleton];go_num,by rw [HX.out];simp,HJ3.out,HK3.out.blk HB1.out,HK3.out.1.rd HR1.out⟩
      case measure=>simp [intOf]<;>omega
    · have HJ3:=Lib.hid hJx3
      clear hJx3 hy q0 q1 q2;gi_wp2;refine bodyPost_ret (results_none rfl _ _ _) rfl ?_;exact ⟨⟨_,rfl⟩,.inr ⟨pre ++ [x],post,by rw [HX.out];simp,HJ3.out⟩⟩
theorem seqof_PV (kb:Nat) (A:Option Addr) (c:Nat) (l:List PV) (w:World) (hb:Blk w kb 95 #[.slice A l.length c]) (hrd:RowRd w 3 PV.cells A c l) (hA:AIn A (· < w.heap.size)) :
 Seq 83 #[.pointer (some ⟨kb,0,none⟩)] encOPV l w (fun X Y=>Y=X) (KeepO kb A):=
 ⟨by intro args w;kernel_rfl,fun W hW=>(of_PV kb A c l W (hb.new_ hW) (hrd.new_ hW)).weak (fun _ _ h=>h.1),fun _ _ _ h k=>⟨h.1.trans k.1,h.2.trans k.2⟩,
  fun _ _ h=>⟨RowKeep.of_priv hA h,RowKeep.of_priv (AIn.one hb.lt) h⟩,fun _ _ h=>⟨RowKeep.of_below hA h,RowKeep.of_below (AIn.one hb.lt) h⟩,fun _ _ h=>h ▸ Fr.refl _ _⟩
theorem mkof_PV (A:Option Addr) (c n:Nat) (w:World) :
 Calls Tryz.prog 47 #[.slice A n c] w fun e w'=>e = .returned (.func (.func 83) #[] #[.pointer (some ⟨w.heap.size,0,none⟩)])∧Below w.heap.size w w'∧Blk w' w.heap.size 95 #[.slice A n c]:=by
 go_enter Tryz.func47,Tryz.ntmps47;go_wp2;go_ret;exact ⟨rfl,(Below.refl _ _).alloc (Nat.le_refl _) _,Blk.new _ _ _⟩
end
section
open Go.RowKit
def smallB (c:UInt8):Bool:=decide (97≤c.toNat) && decide (c.toNat≤122)
def greatB (c:UInt8):Bool:=decide (65≤c.toNat) && decide (c.toNat≤90)
def digitB (c:UInt8):Bool:=decide (48≤c.toNat) && decide (c.toNat≤57)
def partB (c:UInt8):Bool:=smallB c || digitB c || c.toNat == 45 || c.toNat == 95
def isWord (t:ByteArray):Bool:=decide (1≤t.size) && decide (t.size≤32) && t.data.toList.head?.any smallB && t.data.toList.all partB
theorem isWord_iff {t:ByteArray}:isWord t=true↔∃h:0<t.size,t.size≤32∧smallB t[0]=true∧∀k,(h:k<t.size)→partB t[k]=true:=by
 unfold isWord;rw [Bool.and_eq_true,Bool.and_eq_true,Bool.and_eq_true,decide_eq_true_iff,decide_eq_true_iff,List.all_eq_true];have hs:t.data.toList.length=t.size:=Array.length_toList;constructor
 · rintro ⟨⟨⟨h1,h2⟩,h3⟩,h4⟩
   refine ⟨h1,h2,?_,fun k h=>h4 _ ?_⟩
   · rw [List.head?_eq_getElem?,List.getElem?_eq_getElem (by omega)] at h3
     exact (by simpa only [Option.any_some,Array.getElem_toList] using h3:smallB t.data[0]=true)
   · have:t[k]=t.data.toList[k]'(by omega):=by rw [Array.getElem_toList];rfl
     rw [this];exact List.getElem_mem _
 · rintro ⟨h1,h2,h3,h4⟩
   refine ⟨⟨⟨h1,h2⟩,?_⟩,fun x hx=>?_⟩
   · rw [List.head?_eq_getElem?,List.getElem?_eq_getElem (by omega)]
     rw [Option.any_some,Array.getElem_toList];exact h3
   · obtain ⟨k,hk,rfl⟩:=List.getElem_of_mem hx
     have:=h4 k (by omega);rw [Array.getElem_toList];exact this
theorem isWord_no {t:ByteArray} (h : ¬∃h:0<t.size,t.size≤32∧smallB t[0]=true∧∀k,(h:k<t.size)→partB t[k]=true):isWord t=false:=by
 cases e:isWord t
 · rfl
 · exact absurd (isWord_iff.1 e) h
theorem small_is (c:UInt8) (w:World):Calls Tryz.prog 191 #[.int .u8 (c.toNat:Int)] w fun e w'=>e = .returned (.bool (smallB c))∧w=w':=by
 by_cases h1:97≤c.toNat
 · have t1:decide ((97:Int)≤(c.toNat:Int))=true:=by simp;omega
   by_cases h2:c.toNat≤122
   · have t2:decide ((c.toNat:Int)≤122)=true:=by simp;omega
     (have HF:Hid (smallB c=true):=by simp [Hid,smallB,h1,h2]);clear h1 h2;go_enter Tryz.func191,Tryz.ntmps191;go_wp2;go_ret;exact ⟨by rw [HF.out];rfl,rfl⟩
   · have t2:decide ((c.toNat:Int)≤122)=false:=by simp;omega
     (have HF:Hid (smallB c=false):=by simp [Hid,smallB,h2]);clear h1 h2;go_enter Tryz.func191,Tryz.ntmps191;go_wp2;go_ret;exact ⟨by rw [HF.out];rfl,rfl⟩
 · have t1:decide ((97:Int)≤(c.toNat:Int))=false:=by simp;omega
   (have HF:Hid (smallB c=false):=by simp [Hid,smallB,h1]);clear h1;go_enter Tryz.func191,Tryz.ntmps191;go_wp2;go_ret;exact ⟨by rw [HF.out];rfl,rfl⟩
theorem great_is (c:UInt8) (w:World):Calls Tryz.prog 253 #[.int .u8 (c.toNat:Int)] w fun e w'=>e = .returned (.bool (greatB c))∧w=w':=by
 by_cases h1:65≤c.toNat
 · have t1:decide ((65:Int)≤(c.toNat:Int))=true:=by simp;omega
   by_cases h2:c.toNat≤90
   · have t2:decide ((c.toNat:Int)≤90)=true:=by simp;omega
     (have HF:Hid (greatB c=true):=by simp [Hid,greatB,h1,h2]);clear h1 h2;go_enter Tryz.func253,Tryz.ntmps253;go_wp2;go_ret;exact ⟨by rw [HF.out];rfl,rfl⟩
   · have t2:decide ((c.toNat:Int)≤90)=false:=by simp;omega
     (have HF:Hid (greatB c=false):=by simp [Hid,greatB,h2]);clear h1 h2;go_enter Tryz.func253,Tryz.ntmps253;go_wp2;go_ret;exact ⟨by rw [HF.out];rfl,rfl⟩
 · have t1:decide ((65:Int)≤(c.toNat:Int))=false:=by simp;omega
   (have HF:Hid (greatB c=false):=by simp [Hid,greatB,h1]);clear h1;go_enter Tryz.func253,Tryz.ntmps253;go_wp2;go_ret;exact ⟨by rw [HF.out];rfl,rfl⟩
theorem digit_is (c:UInt8) (w:World):Calls Tryz.prog 192 #[.int .u8 (c.toNat:Int)] w fun e w'=>e = .returned (.bool (digitB c))∧w=w':=by
 by_cases h1:48≤c.toNat
 · have t1:decide ((48:Int)≤(c.toNat:Int))=true:=by simp;omega
   by_cases h2:c.toNat≤57
   · have t2:decide ((c.toNat:Int)≤57)=true:=by simp;omega
     (have HF:Hid (digitB c=true):=by simp [Hid,digitB,h1,h2]);clear h1 h2;go_enter Tryz.func192,Tryz.ntmps192;go_wp2;go_ret;exact ⟨by rw [HF.out];rfl,rfl⟩
   · have t2:decide ((c.toNat:Int)≤57)=false:=by simp;omega
     (have HF:Hid (digitB c=false):=by simp [Hid,digitB,h2]);clear h1 h2;go_enter Tryz.func192,Tryz.ntmps192;go_wp2;go_ret;exact ⟨by rw [HF.out];rfl,rfl⟩
 · have t1:decide ((48:Int)≤(c.toNat:Int))=false:=by simp;omega
   (have HF:Hid (digitB c=false):=by simp [Hid,digitB,h1]);clear h1;go_enter Tryz.func192,Tryz.ntmps192;go_wp2;go_ret;exact ⟨by rw [HF.out];rfl,rfl⟩
theorem word_is (t:ByteArray) (w:World):Calls Tryz.prog 154 #[.string t] w fun e w'=>e = .returned (.bool (isWord t))∧w=w':=by
 by_cases h1:t.size<1
 · have t1:decide ((t.size:Int)<1)=true:=by simp;omega
   have HF:=Lib.hid (isWord_no (t:=t) (fun ⟨h,_⟩=>by omega));clear h1;go_enter Tryz.func154,Tryz.ntmps154;go_wp2;go_ret;exact ⟨by rw [HF.out];rfl,rfl⟩
 (have t1:decide ((t.size:Int)<1)=false:=by simp;omega);by_cases h2:32<t.size
 · have t2:decide ((32:Int)<(t.size:Int))=true:=by simp;omega
   have HF:=Lib.hid (isWord_no (t:=t) (fun ⟨h,h3,_⟩=>by omega));clear h1 h2;go_enter Tryz.func154,Tryz.ntmps154;go_wp2;go_ret;exact ⟨by rw [HF.out];rfl,rfl⟩
 (have t2:decide ((32:Int)<(t.size:Int))=false:=by simp;omega);(have h0:0<t.size:=by omega);(have h32:t.size≤32:=by omega);clear h1 h2;cases h3:smallB t[0]
 · have HF:=Lib.hid (isWord_no (t:=t) (fun ⟨h,_,h4,_⟩=>by rw [h3] at h4;cases h4))
   go_enter Tryz.func154,Tryz.ntmps154;(go_wp2_with (go_at_call 191;refine (small_is _ _).mono ?_;rintro e w' ⟨rfl,rfl⟩));go_ret;exact ⟨by rw [HF.out];rfl,rfl⟩
 go_enter Tryz.func154,Tryz.ntmps154;(go_wp2_with (go_at_call 191;refine (small_is _ _).mono ?_;rintro e w' ⟨rfl,rfl⟩));have H3:=Lib.hid h3;clear h3 t1 t2
 go_loop [3] (fun s=>∃i:Nat,s = .int .i64 i∧1≤i∧i≤t.size∧∀k,(h:k<t.size)→k<i→partB t[k]=true) (fun s=>t.size - (intOf s).toNat)
 case atStart=>exact ⟨1,rfl,Nat.le_refl _,h0,fun k h hk=>by obtain rfl:k=0:=by omega
                                                            simp [partB,H3.out]⟩
 case round=>
  obtain ⟨i,rfl,hi1,hi,hall⟩:=hrel;have HALL:=Lib.hid hall;clear hall;by_cases hlt:i<t.size
  · have HP:Hid (partB t[i]=(smallB t[i] || digitB t[i] || decide (t[i].toNat=45) || decide (t[i].toNat=95))):=rfl
    (have t5:((t[i].toNat:Int) != 45) = !decide (t[i].toNat=45):=by rw [Bool.eq_iff_iff];simp;omega);(have t6:((t[i].toNat:Int) != 95) = !decide (t[i].toNat=95):=by rw [Bool.eq_iff_iff];simp;omega);cases hs:smallB t[i]<;>cases hd:digitB t[i]<;>cases h5:decide (t[i].toNat=45)<;>cases h6:decide (t[i].toNat=95)
    all_goals
     rw [h5] at t5;rw [h6] at t6;simp only [Bool.not_true,Bool.not_false] at t5 t6;have HF1:=HP.out;rw [hs,hd,h5,h6] at HF1;have HF2:=Lib.hid HF1;clear h5 h6 HP HF1;go_wp2_with (first | (go_at_call 191;refine (small_is _ _).mono ?_;rintro e w' ⟨rfl,rfl⟩) | (go_at_call 192;refine (digit_is _ _).mono ?_;rintro e w' ⟨rfl,rfl⟩))
     first
      | (go_ret
         refine ⟨?_,rfl⟩
         rw [isWord_no (t:=t) (fun ⟨_,_,_,h⟩=>by have h2:=h i hlt;rw [HF2.out] at h2;exact absurd h2 (by decide))];rfl)
      | (go_round
         case rel=>exact ⟨i+1,by go_num,by omega,by omega,fun k h hk=>by
          rcases Nat.lt_or_ge k i with h3 | h3
          · exact HALL.out k h h3
          · obtain rfl:k=i:=by omega
            rw [HF2.out];rfl⟩
         case measure=>simp [intOf]<;>omega)
  · have hie:i=t.size:=by omega
    subst hie;go_wp2;go_ret;exact ⟨by rw [isWord_iff.2 ⟨h0,h32,H3.out,fun k h=>HALL.out k h h⟩];rfl,rfl⟩
end
end Go.Proofs.YtldndkngpdfpfaaGreat
