/-
  Texts put together: Plain, Sets, SetLeaf, Scal, LeafBname, FindBname, OpsBname, PutBname, DropBname, MiscBname, NewBname.
-/
import Derived.Test.YtfidcfjcmlgkbaaGreatPHa
import Derived.Test.YtfidcfjcmlgkbaaGreatRows
namespace Go.Proofs.YtfidcfjcmlgkbaaGreat
open Lib (hid)
set_option maxRecDepth 100000
set_option maxHeartbeats 32000000
set_option linter.unusedSimpArgs false
section
structure TC {α:Type} (cmp:α→α→Int):Prop where
 refl : ∀x,cmp x x=0
 symm : ∀x y,cmp x y<0↔0<cmp y x
 trans : ∀x y z,cmp x y≤0→cmp y z≤0→cmp x z≤0
section
variable {α:Type} {cmp:α→α→Int}
theorem TC.eq_symm (h:TC cmp) {x y:α} (e:cmp x y=0):cmp y x=0:=by
 have a:=h.symm x y;have b:=h.symm y x;omega
theorem TC.lt_of_lt_of_le (h:TC cmp) {x y z:α} (a:cmp x y<0) (b:cmp y z≤0):cmp x z<0:=by
 have c:=h.symm x z;have d:=h.symm z x;have e:=h.symm x y;have g:=h.symm y x;by_cases hz:cmp x z<0
 · exact hz
 · have t:=h.trans y z x b (by omega)
   omega
theorem TC.lt_of_le_of_lt (h:TC cmp) {x y z:α} (a:cmp x y≤0) (b:cmp y z<0):cmp x z<0:=by
 have c:=h.symm x z;have d:=h.symm z x;have e:=h.symm y z;have g:=h.symm z y;by_cases hz:cmp x z<0
 · exact hz
 · have t:=h.trans z x y (by omega) a
   omega
theorem TC.lt_trans (h:TC cmp) {x y z:α} (a:cmp x y<0) (b:cmp y z<0):cmp x z<0:=h.lt_of_lt_of_le a (by omega)
def Srt (cmp:α→α→Int) (l:List α):Prop:=l.Pairwise (fun a b=>cmp a b<0)
def has (cmp:α→α→Int) (l:List α) (x:α):Bool:=l.any (fun y=>cmp y x == 0)
def below (cmp:α→α→Int) (l:List α) (x:α):List α:=l.filter (fun y=>decide (cmp y x<0))
def Z43 (cmp:α→α→Int) (l:List α) (x:α):List α:=l.filter (fun y=>decide (0<cmp y x))
def rank (cmp:α→α→Int) (l:List α) (x:α):Nat:=(below cmp l x).length
def put (cmp:α→α→Int) (l:List α) (x:α):List α:=if has cmp l x then l else below cmp l x++x :: Z43 cmp l x
def drop (cmp:α→α→Int) (l:List α) (x:α):List α:=l.filter (fun y=>!(cmp y x == 0))
def puts (cmp:α→α→Int) (l xs:List α):List α:=xs.foldl (put cmp) l
theorem Z4w {l:List α} {x:α}:has cmp l x=true↔∃y∈l,cmp y x=0:=by simp [has]
theorem Z38 {l:List α} {x:α}:has cmp l x=false↔∀y∈l,cmp y x≠0:=by simp [has]
theorem Z68 {l:List α} {x:α} {k:Nat} (h1 : ∀i,(h:i<l.length)→i<k→cmp l[i] x<0) (h2 : ∀i,(h:i<l.length)→k≤i→0<cmp l[i] x) :
 below cmp l x=l.take k∧Z43 cmp l x=l.drop k∧has cmp l x=false:=by
 have e1 : ∀y∈l.take k,cmp y x<0:=by
  intro y hy;obtain ⟨i,hi,rfl⟩:=List.getElem_of_mem hy;rw [List.getElem_take];simp at hi;exact h1 i (by omega) (by omega)
 have e2 : ∀y∈l.drop k,0<cmp y x:=by
  intro y hy;obtain ⟨i,hi,rfl⟩:=List.getElem_of_mem hy;rw [List.getElem_drop];simp at hi;exact h2 (k+i) (by omega) (by omega)
 refine ⟨?_,?_,?_⟩
 · unfold below
   conv=>lhs;rw [← List.take_append_drop k l]
   rw [List.filter_append,List.filter_eq_self.2 (fun y hy=>by simpa using e1 y hy),List.filter_eq_nil_iff.2 (fun y hy=>by have:=e2 y hy;simp;omega),Zn9]
 · unfold Z43
   conv=>lhs;rw [← List.take_append_drop k l]
   rw [List.filter_append,(List.filter_eq_self (l:=l.drop k)).2 (fun y hy=>by simpa using e2 y hy),List.filter_eq_nil_iff.2 (fun y hy=>by have:=e1 y hy;simp;omega),Zmr]
 · rw [Z38]
   intro y hy;rw [← List.take_append_drop k l] at hy;rcases Znh.1 hy with hy | hy
   · have:=e1 y hy;omega
   · have:=e2 y hy;omega
theorem Srt.lt {l:List α} (h:Srt cmp l) {i j:Nat} (hij:i<j) (hj:j<l.length):cmp (l[i]'(by omega)) l[j]<0:=
 List.pairwise_iff_getElem.1 h i j (by omega) hj hij
theorem Z5h (t:TC cmp) {l:List α} (hs:Srt cmp l) {x:α} {k:Nat} (hk:k<l.length) (e:cmp l[k] x=0) :
 below cmp l x=l.take k∧Z43 cmp l x=l.drop (k+1)∧has cmp l x=true∧drop cmp l x=l.take k++l.drop (k+1):=by
 have e1 : ∀y∈l.take k,cmp y x<0:=by
  intro y hy;obtain ⟨i,hi,rfl⟩:=List.getElem_of_mem hy;rw [List.getElem_take];simp at hi;exact t.lt_of_lt_of_le (hs.lt (by omega) hk) (by omega)
 have e2 : ∀y∈l.drop (k+1),0<cmp y x:=by
  intro y hy;obtain ⟨i,hi,rfl⟩:=List.getElem_of_mem hy;rw [List.getElem_drop];simp at hi;have h1:cmp x (l[k+1+i]'(by omega))<0:=t.lt_of_le_of_lt (y:=l[k]) (by have:=t.eq_symm e;omega) (hs.lt (by omega) (by omega));exact (t.symm _ _).1 h1
 have hl:l=l.take k++l[k] :: l.drop (k+1):=by
  rw [List.getElem_cons_drop,List.take_append_drop]
 refine ⟨?_,?_,?_,?_⟩
 · unfold below
   conv=>lhs;rw [hl]
   rw [List.filter_append,List.filter_cons,List.filter_eq_self.2 (fun y hy=>by simpa using e1 y hy),List.filter_eq_nil_iff.2 (fun y hy=>by have:=e2 y hy;simp;omega)];simp [e]
 · unfold Z43
   conv=>lhs;rw [hl]
   rw [List.filter_append,List.filter_cons,List.filter_eq_nil_iff.2 (fun y hy=>by have:=e1 y hy;simp;omega),(List.filter_eq_self (l:=l.drop (k+1))).2 (fun y hy=>by simpa using e2 y hy)];simp [e]
 · rw [Z4w];exact ⟨_,Zmv hk,e⟩
 · unfold drop
   conv=>lhs;rw [hl]
   rw [List.filter_append,List.filter_cons,List.filter_eq_self.2 (fun y hy=>by have:=e1 y hy;simp;omega),(List.filter_eq_self (l:=l.drop (k+1))).2 (fun y hy=>by have:=e2 y hy;simp;omega)];simp [e]
theorem Z4q {l:List α} {x:α} {k:Nat} (hk:k≤l.length) (h1 : ∀i,(h:i<l.length)→i<k→cmp l[i] x<0) (h2 : ∀i,(h:i<l.length)→k≤i→0<cmp l[i] x):rank cmp l x=k:=by
 unfold rank;rw [(Z68 h1 h2).1];simp;omega
theorem Z4r (t:TC cmp) {l:List α} (hs:Srt cmp l) {x:α} {k:Nat} (hk:k<l.length) (e:cmp l[k] x=0):rank cmp l x=k:=by
 unfold rank;rw [(Z5h t hs hk e).1];simp;omega
theorem Zl8 (t:TC cmp) {l:List α} (hs:Srt cmp l) (x:α) :
 (has cmp l x=false∧l=below cmp l x++Z43 cmp l x)∨(∃y,has cmp l x=true∧cmp y x=0∧l=below cmp l x++y :: Z43 cmp l x):=by
 induction l with
 | nil=>exact .inl ⟨rfl,rfl⟩
 | cons a r ih=>
   have hr:Srt cmp r:=(List.pairwise_cons.1 hs).2;have ha : ∀y∈r,cmp a y<0:=(List.pairwise_cons.1 hs).1;by_cases h1:cmp a x<0
   · rcases ih hr with ⟨h2,h3⟩ | ⟨y,h2,h3,h4⟩
     · left
       refine ⟨?_,?_⟩
       · simp only [has,List.any_cons,Bool.or_eq_false_iff];exact ⟨by simp;omega,h2⟩
       · have e1:below cmp (a :: r) x=a :: below cmp r x:=by simp [below,h1]
         (have e2:Z43 cmp (a :: r) x=Z43 cmp r x:=by unfold Z43;rw [List.filter_cons,if_neg (by simp;omega)]);rw [e1,e2,Zn2,← h3]
     · right
       refine ⟨y,?_,h3,?_⟩
       · simp only [has,List.any_cons,Znp];exact .inr h2
       · have e1:below cmp (a :: r) x=a :: below cmp r x:=by simp [below,h1]
         (have e2:Z43 cmp (a :: r) x=Z43 cmp r x:=by unfold Z43;rw [List.filter_cons,if_neg (by simp;omega)]);rw [e1,e2,Zn2,← h4]
   · have hall : ∀y∈r,0<cmp y x:=fun y hy=>(t.symm x y).1 (t.lt_of_le_of_lt (y:=a) (by have:=t.symm a x;have:=t.symm x a;omega) (ha y hy))
     have b0:below cmp r x = []:=List.filter_eq_nil_iff.2 (fun y hy=>by have:=hall y hy;simp;omega);have a0:Z43 cmp r x=r:=List.filter_eq_self.2 (fun y hy=>by simpa using hall y hy);have n0:has cmp r x=false:=Z38.2 (fun y hy=>by have:=hall y hy;omega);(have e1:below cmp (a :: r) x = []:=by unfold below;rw [List.filter_cons,if_neg (by simpa using h1)];exact b0);by_cases h2:cmp a x=0
     · right
       refine ⟨a,Z4w.2 ⟨a,by simp,h2⟩,h2,?_⟩;(have e2:Z43 cmp (a :: r) x=r:=by unfold Z43;rw [List.filter_cons,if_neg (by simp;omega)];exact a0);rw [e1,e2];rfl
     · left
       refine ⟨?_,?_⟩
       · simp only [has,List.any_cons,Bool.or_eq_false_iff];exact ⟨by simpa using h2,n0⟩
       · have e2:Z43 cmp (a :: r) x=a :: r:=by unfold Z43;rw [List.filter_cons,if_pos (by simp;omega)];exact congrArg _ a0
         rw [e1,e2];rfl
theorem Z3r {l:List α} {x y:α}:y∈below cmp l x↔y∈l∧cmp y x<0:=by simp [below]
theorem Z3q {l:List α} {x y:α}:y∈Z43 cmp l x↔y∈l∧0<cmp y x:=by simp [Z43]
theorem Zjh {l:List α} {x y:α}:y∈drop cmp l x↔y∈l∧cmp y x≠0:=by simp [drop]
theorem Srt.put (t:TC cmp) {l:List α} (hs:Srt cmp l) (x:α):Srt cmp (put cmp l x):=by
 unfold YtfidcfjcmlgkbaaGreat.put
 split
 · exact hs
 · refine List.pairwise_append.2 ⟨hs.sublist List.filter_sublist,List.pairwise_cons.2 ⟨fun y hy=>?_,hs.sublist List.filter_sublist⟩,fun y hy z hz=>?_⟩
   · exact (t.symm x y).2 (Z3q.1 hy).2
   · rcases Zms.1 hz with rfl | hz
     · exact (Z3r.1 hy).2
     · exact t.lt_trans (Z3r.1 hy).2 ((t.symm x z).2 (Z3q.1 hz).2)
theorem Srt.drop {l:List α} (hs:Srt cmp l) (x:α):Srt cmp (drop cmp l x):=hs.sublist List.filter_sublist
theorem Srt.nil:Srt cmp ([]:List α):=List.Pairwise.nil
theorem Srt.puts (t:TC cmp) : ∀(xs:List α) {l:List α},Srt cmp l→Srt cmp (puts cmp l xs)
 | [],_,h=>h
 | x :: xs,_,h=>Srt.puts t xs (h.put t x)
theorem Z2q (l xs:List α) (x:α):puts cmp l (xs ++ [x])=put cmp (puts cmp l xs) x:=by simp [puts]
theorem Z6q {l:List α} {x:α} (t:TC cmp) (hs:Srt cmp l) (h:has cmp l x=false):(below cmp l x).length+(Z43 cmp l x).length=l.length:=by
 rcases Zl8 t hs x with ⟨_,e⟩ | ⟨y,h',_⟩
 · conv=>rhs;rw [e]
   simp
 · rw [h] at h';cases h'
theorem Z6r (t:TC cmp) {l:List α} (hs:Srt cmp l) (x:α):(put cmp l x).length≤l.length+1:=by
 unfold YtfidcfjcmlgkbaaGreat.put;by_cases h:has cmp l x=true
 · rw [if_pos h];omega
 · rw [if_neg h]
   have:=Z6q t hs (x:=x) (by simpa using h);simp;omega
theorem Z12 (t:TC cmp) : ∀(xs:List α) {l:List α},Srt cmp l→(puts cmp l xs).length≤l.length+xs.length
 | [],_,_=>by simp [puts]
 | x :: xs,l,h=>by
   have h1:=Z12 t xs (h.put t x);have h2:=Z6r t h x;have e:puts cmp l (x :: xs)=puts cmp (put cmp l x) xs:=rfl;rw [e];simp;omega
theorem Z95 (l:List α) (x:α):(drop cmp l x).length≤l.length:=List.length_filter_le _ _
theorem Zbf {l:List α} {x:α} (h:has cmp l x=false):drop cmp l x=l:=by
 unfold YtfidcfjcmlgkbaaGreat.drop;exact List.filter_eq_self.2 (fun y hy=>by simpa using Z38.1 h y hy)
theorem Z6b (l:List α) (x:α):rank cmp l x≤l.length:=List.length_filter_le _ _
theorem Zdv {l B A:List α} (e:l=B++A):l.take B.length=B:=by subst e;simp
theorem Zcv {l B A:List α} (e:l=B++A):l.drop B.length=A:=by subst e;simp
theorem Z9i {l B A:List α} {y:α} (e:l=B++y :: A):l[B.length]? = some y:=by subst e;simp
theorem Z8s (t:TC cmp) {l:List α} (hs:Srt cmp l) {x:α} (h:has cmp l x=false):put cmp l x=l.take (rank cmp l x)++x :: l.drop (rank cmp l x):=by
 rcases Zl8 t hs x with ⟨_,e⟩ | ⟨y,h',_⟩
 · have e1:l.take (rank cmp l x)=below cmp l x:=Zdv e
   have e2:l.drop (rank cmp l x)=Z43 cmp l x:=Zcv e;rw [e1,e2];unfold YtfidcfjcmlgkbaaGreat.put;rw [if_neg (by rw [h];simp)]
 · rw [h] at h';cases h'
theorem Z4b {l:List α} {x:α} (h:has cmp l x=true):put cmp l x=l:=by unfold YtfidcfjcmlgkbaaGreat.put;rw [if_pos h]
theorem Z3m (t:TC cmp) {l:List α} (hs:Srt cmp l) {x:α} (h:has cmp l x=false):(put cmp l x).length=l.length+1:=by
 rw [Z8s t hs h];have:=Z6b (cmp:=cmp) l x;simp;omega
theorem Zgz (t:TC cmp) {l:List α} (hs:Srt cmp l) {x:α} (h:has cmp l x=true):rank cmp l x<l.length∧drop cmp l x=l.take (rank cmp l x)++l.drop (rank cmp l x+1)∧∃hk:rank cmp l x<l.length,cmp l[rank cmp l x] x=0:=by
 rcases Zl8 t hs x with ⟨h',_⟩ | ⟨y,_,ey,e⟩
 · rw [h] at h';cases h'
 · have hk:rank cmp l x<l.length:=by
    have h2:l[rank cmp l x]? = some y:=Z9i e;exact (Zn5.1 h2).1
   have hy:l[rank cmp l x]=y:=by
    have h1:l[rank cmp l x]? = some y:=Z9i e;rw [Zmc hk] at h1;exact Znt h1
   (have e0:cmp l[rank cmp l x] x=0:=by rw [hy];exact ey);exact ⟨hk,(Z5h t hs hk e0).2.2.2,hk,e0⟩
def Z0p (l:List α) (x:α) (i:Nat):List α:=l.take i++(l ++ [x]).getD i x :: l.drop i
theorem Z0a (l:List α) (x:α) {i:Nat} (h:i≤l.length):(Z0p l x i).length=l.length+1:=by simp [Z0p];omega
theorem Z2r (l:List α) (x:α):Z0p l x l.length=l ++ [x]:=by simp [Z0p]
theorem Z34 (l:List α) (x:α) {j:Nat} (h:j<l.length) (h':j<(Z0p l x (j+1)).length):(Z0p l x (j+1))[j]=l[j]:=by
 apply Znt;rw [← Zmc];unfold Z0p;rw [Zn1 (by simp;omega)];simp [h]
theorem Z35 (l:List α) (x:α) {j:Nat} (h:j<l.length):(Z0p l x (j+1)).set (j+1) l[j]=Z0p l x j:=by
 unfold Z0p;rw [List.set_append_right _ _ (by simp;omega)];(have e:(j+1 - (l.take (j+1)).length)=0:=by simp;omega);rw [e,List.set_cons_zero,List.take_succ_eq_append_getElem h,Zn6];(have e2:(l ++ [x]).getD j x=l[j]:=by rw [List.getD_eq_getElem?_getD,Zn1 h,Zmc h];rfl);rw [e2,← List.getElem_cons_drop h];rfl
theorem Z3n (l:List α) (x:α) {k:Nat} (h:k≤l.length):(Z0p l x k).set k x=l.take k++x :: l.drop k:=by
 unfold Z0p;rw [List.set_append_right _ _ (by simp;omega)];(have e:(k - (l.take k).length)=0:=by simp;omega);rw [e,List.set_cons_zero]
def Z3i (l:List α) (k i:Nat):List α:=l.take k++(l.drop (k+1)).take (i - k)++l.drop i
theorem Z37 (l:List α) {k i:Nat} (h:k≤i) (h':i<l.length):(Z3i l k i).length=l.length:=by simp [Z3i];omega
theorem Zbe (l:List α) (k:Nat):Z3i l k k=l:=by simp [Z3i]
theorem Zct (l:List α) {k i:Nat} (h:k≤i) (h':i+1<l.length) (h2:i+1<(Z3i l k i).length):(Z3i l k i)[i+1]=l[i+1]:=by
 apply Znt;rw [← Zmc,← Zmc];unfold Z3i;rw [Zn0 (by simp;omega),List.getElem?_drop];congr 1;simp;omega
theorem Zcu (l:List α) {k i:Nat} (h:k≤i) (h':i+1<l.length):(Z3i l k i).set i l[i+1]=Z3i l k (i+1):=by
 apply List.ext_getElem?;intro j;have len:(Z3i l k i).length=l.length:=Z37 l h (by omega);by_cases e:j=i
 · subst e
   rw [List.getElem?_set_self (by omega)];unfold Z3i;rw [Zn1 (by simp;omega),Zn0 (by simp;omega),List.getElem?_take,List.getElem?_drop];rw [if_pos (by simp;omega)];(have:k+1+(j - (l.take k).length)=j+1:=by simp;omega);rw [this,Zmc h']
 · rw [List.getElem?_set_ne (fun h=>e h.symm)]
   unfold Z3i;by_cases h1:j<k
   · rw [Zn6,Zn6,Zn1 (by simp;omega),Zn1 (by simp;omega)]
   · by_cases h2:j<i
     · rw [Zn1 (by simp;omega),Zn0 (by simp;omega),Zn1 (by simp;omega),Zn0 (by simp;omega)]
       rw [List.getElem?_take,List.getElem?_take,if_pos (by simp;omega),if_pos (by simp;omega)]
     · rw [Zn0 (by simp;omega),Zn0 (by simp;omega),List.getElem?_drop,List.getElem?_drop]
       congr 1;simp;omega
theorem Zfl (l:List α) {k:Nat} (h:k<l.length):(Z3i l k (l.length - 1)).take (l.length - 1)=l.take k++l.drop (k+1):=by
 unfold Z3i;(have e:(l.take k++(l.drop (k+1)).take (l.length - 1 - k)).length=l.length - 1:=by simp;omega);have e2:(l.drop (k+1)).take (l.length - 1 - k)=l.drop (k+1):=List.take_of_length_le (by simp;omega);rw [List.take_append_of_le_length (by omega),List.take_of_length_le (by omega),e2]
end
def Z2s (a b:Int):Int:=if a<b then -1 else if b<a then 1 else 0
theorem Z59:TC Z2s:=by
 constructor
 · intro x;simp [Z2s]
 · intro x y;simp only [Z2s];split<;>split<;>simp<;>(try split)<;>omega
 · intro x y z;simp only [Z2s];intro h1 h2;split at h1<;>split at h2<;>(try split at h1)<;>(try split at h2)<;>split<;>(try split)<;>omega
theorem Z45 {a b:Int}:Z2s a b=0↔a=b:=by simp only [Z2s];split<;>(try split)<;>omega
theorem Z1r : ∀x:List UInt8,Op.bytesLess x x=false
 | []=>rfl
 | a :: x=>by simp [Op.bytesLess,Z1r x]
theorem Z44 : ∀{x y z:List UInt8},Op.bytesLess x y=true→Op.bytesLess y z=true→Op.bytesLess x z=true
 | _,[],_,h,_=>by simp [Op.bytesLess] at h
 | _,_ :: _,[],_,h=>by simp [Op.bytesLess] at h
 | [],_ :: _,_ :: _,_,_=>by simp [Op.bytesLess]
 | a :: x,b :: y,c :: z,h1,h2=>by
   simp only [Op.bytesLess,Znp,Zmy,Zno,beq_iff_eq] at h1 h2 ⊢;rcases h1 with h1 | ⟨rfl,h1⟩
   · rcases h2 with h2 | ⟨rfl,h2⟩
     · exact .inl (UInt8.lt_trans h1 h2)
     · exact .inl h1
   · rcases h2 with h2 | ⟨rfl,h2⟩
     · exact .inl h2
     · exact .inr ⟨rfl,Z44 h1 h2⟩
theorem Z5i : ∀(x y:List UInt8),Op.bytesLess x y=false→Op.bytesLess y x=false→x=y
 | [],[],_,_=>rfl
 | [],_ :: _,h,_=>by simp [Op.bytesLess] at h
 | _ :: _,[],_,h=>by simp [Op.bytesLess] at h
 | a :: x,b :: y,h1,h2=>by
   simp only [Op.bytesLess,Bool.or_eq_false_iff,decide_eq_false_iff_not,Bool.and_eq_false_iff,beq_eq_false_iff_ne] at h1 h2;obtain ⟨h1,h3⟩:=h1;obtain ⟨h2,h4⟩:=h2
   have e:a=b:=by
    apply UInt8.toNat_inj.1;simp only [UInt8.lt_iff_toNat_lt] at h1 h2;omega
   subst e;rw [Z5i x y (h3.resolve_left (fun h=>h rfl)) (h4.resolve_left (fun h=>h rfl))]
theorem Z86 {x y:List UInt8} (h:Op.bytesLess x y=true):Op.bytesLess y x=false:=by
 cases e:Op.bytesLess y x
 · rfl
 · have:=Z44 h e;rw [Z1r] at this;cases this
def Z2c (a b:ByteArray):Int:=if Op.bytesLess a.toList b.toList=true then -1 else if a.toList=b.toList then 0 else 1
theorem Zie:TC Z2c:=by
 have key : ∀a b:ByteArray,(Z2c a b = -1∧Op.bytesLess a.toList b.toList=true∧Op.bytesLess b.toList a.toList=false∧a.toList≠b.toList)∨
  (Z2c a b=0∧Op.bytesLess a.toList b.toList=false∧Op.bytesLess b.toList a.toList=false∧a.toList=b.toList)∨
  (Z2c a b=1∧Op.bytesLess a.toList b.toList=false∧Op.bytesLess b.toList a.toList=true∧a.toList≠b.toList):=by
  intro a b;unfold Z2c;cases h1:Op.bytesLess a.toList b.toList
  · cases h2:Op.bytesLess b.toList a.toList
    · have e:=Z5i _ _ h1 h2
      simp [e]
    · have hne:a.toList≠b.toList:=fun e=>by rw [e,Z1r] at h2;cases h2
      simp [hne]
  · have h2:=Z86 h1
    (have hne:a.toList≠b.toList:=fun e=>by rw [e,Z1r] at h1;cases h1);simp [h2,hne]
 constructor
 · intro x;simp [Z2c,Z1r]
 · intro x y
   rcases key x y with ⟨e,a,b,c⟩ | ⟨e,a,b,c⟩ | ⟨e,a,b,c⟩<;>rcases key y x with ⟨e',a',b',c'⟩ | ⟨e',a',b',c'⟩ | ⟨e',a',b',c'⟩<;>rw [e,e']<;>simp_all
 · intro x y z h1 h2
   rcases key x y with ⟨e,a,b,c⟩ | ⟨e,a,b,c⟩ | ⟨e,a,b,c⟩<;>rcases key y z with ⟨e',a',b',c'⟩ | ⟨e',a',b',c'⟩ | ⟨e',a',b',c'⟩<;>rw [e] at h1<;>rw [e'] at h2<;>(try omega)
   · have:=Z44 a a';unfold Z2c;rw [if_pos this];omega
   · rw [c'] at a;unfold Z2c;rw [if_pos a];omega
   · rw [← c] at a';unfold Z2c;rw [if_pos a'];omega
   · unfold Z2c;rw [c,c',if_neg (by rw [Z1r];simp),if_pos rfl];omega
theorem toList_inj {a b:ByteArray} (h:a.toList=b.toList):a=b:=by
 have e : ∀x:ByteArray,x.toList=x.data.toList:=Lib.toList_data;rw [e,e] at h;cases a;cases b;simp only [ByteArray.mk.injEq];exact Array.toList_inj.1 h
theorem Z88 {a b:ByteArray}:Z2c a b=0↔a=b:=by
 constructor
 · intro h
   unfold Z2c at h
   split at h
   · omega
   · split at h
     · exact toList_inj ‹_›
     · omega
 · rintro rfl;simp [Z2c,Z1r]
def andThen (a b:Int):Int:=if a=0 then b else a
theorem Z9r {α β γ:Type} {f:α→β} {g:α→γ} {c1:β→β→Int} {c2:γ→γ→Int} (h1:TC c1) (h2:TC c2):TC (fun x y=>andThen (c1 (f x) (f y)) (c2 (g x) (g y))):=by
 constructor
 · intro x;simp [andThen,h1.refl,h2.refl]
 · intro x y
   have a:=h1.symm (f x) (f y);have b:=h1.symm (f y) (f x);have c:=h2.symm (g x) (g y);simp only [andThen]
   split<;>split<;>omega
 · intro x y z e1 e2
   simp only [andThen] at e1 e2 ⊢;by_cases p:c1 (f x) (f y)=0
   · rw [if_pos p] at e1
     by_cases q:c1 (f y) (f z)=0
     · rw [if_pos q] at e2
       have r:c1 (f x) (f z)=0:=by
        have r1:=h1.trans (f x) (f y) (f z) (by omega) (by omega);have r2:=h1.trans (f z) (f y) (f x) (by have:=h1.eq_symm q;omega) (by have:=h1.eq_symm p;omega);have a:=h1.symm (f x) (f z);have b:=h1.symm (f z) (f x);omega
       rw [if_pos r];exact h2.trans _ _ _ e1 e2
     · rw [if_neg q] at e2
       have:=h1.lt_of_le_of_lt (x:=f x) (y:=f y) (z:=f z) (by omega) (by omega);rw [if_neg (by omega)];omega
   · rw [if_neg p] at e1
     have hq:c1 (f y) (f z)≤0:=by
      by_cases q:c1 (f y) (f z)=0
      · omega
      · rw [if_neg q] at e2;exact e2
     have:=h1.lt_of_lt_of_le (x:=f x) (y:=f y) (z:=f z) (by omega) hq;rw [if_neg (by omega)];omega
structure Sym where
 kind:Int
 text:ByteArray
 n:Int
theorem Sym.ext' {a b:Sym} (h1:a.kind=b.kind) (h2:a.text=b.text) (h3:a.n=b.n):a=b:=by cases a;cases b;simp_all
instance:DecidableEq Sym:=fun a b=>decidable_of_iff (a.kind=b.kind∧a.text=b.text∧a.n=b.n) ⟨fun ⟨h1,h2,h3⟩=>Sym.ext' h1 h2 h3,fun h=>by subst h;exact ⟨rfl,rfl,rfl⟩⟩
instance:Inhabited Sym:=⟨⟨0,⟨#[]⟩,0⟩⟩
def Z0r (a b:Sym):Int:=andThen (Z2s a.kind b.kind) (andThen (Z2c a.text b.text) (Z2s a.n b.n))
theorem Z4s:TC Z0r:=Z9r (f:=Sym.kind) (g:=fun s:Sym=>(s.text,s.n)) (c2:=fun x y=>andThen (Z2c x.1 y.1) (Z2s x.2 y.2)) Z59
 (Z9r (f:=fun x:ByteArray×Int=>x.1) (g:=fun x:ByteArray×Int=>x.2) Zie Z59)
theorem Z89 {a b:Sym}:Z0r a b=0↔a=b:=by
 constructor
 · intro h
   simp only [Z0r,andThen] at h
   split at h
   · split at h
     · exact Sym.ext' (Z45.1 ‹_›) (Z88.1 ‹_›) (Z45.1 h)
     · exact absurd h ‹_›
   · exact absurd h ‹_›
 · rintro rfl;exact Z4s.refl _
end
section
open Go.RowKit
structure St where
 sn:Bool
 A:Option Addr
 c:Nat
def upd {β:Type} (S:Nat→β) (b:Nat) (l:β):Nat→β:=fun k=>if k=b then l else S k
theorem Z0o {β:Type} (S:Nat→β) (b:Nat) (l:β):upd S b l b=l:=by simp [upd]
theorem Z1p {β:Type} (S:Nat→β) {b k:Nat} (l:β) (h:k≠b):upd S b l k=S k:=by simp [upd,h]
theorem Zm2 {β:Type} (S:Nat→β) (b:Nat) (l:β) (h:S b=l):upd S b l=S:=by funext k;simp only [upd];split<;>simp_all
structure Sets {α:Type} (tSet tE size:Nat) (cells:α→List Value) (cmp:α→α→Int) (D:Nat→Prop) (w:World) (S:Nat→Option (List α)) (σ:Nat→St):Prop where
 at_ : ∀b l,S b=some l→Z1z tSet tE size cells w b (σ b).sn (σ b).A (σ b).c l
 srt : ∀b l,S b=some l→Srt cmp l
 out : ∀b l,S b=some l→¬D b∧((σ b).sn=false→AIn (σ b).A (fun k=>¬D k))
 apart : ∀b l b' l',S b=some l→S b'=some l'→b≠b'→(σ b).sn=false→∀a a',(σ b).A=some a→(σ b').A=some a'→a.block≠a'.block
 low : ∀k,D k→k<w.heap.size
section
variable {α:Type} {tSet tE size:Nat} {cells:α→List Value} {cmp:α→α→Int} {D D':Nat→Prop} {w w':World} {S:Nat→Option (List α)} {σ:Nat→St} {b b':Nat} {l l':List α}
theorem Z1z.far {sn:Bool} {A:Option Addr} {c:Nat} (h:Z1z tSet tE size cells w b sn A c l) {sn':Bool} {A':Option Addr} {c':Nat} (h':Z1z tSet tE size cells w b' sn' A' c' l') (hne:tE≠tSet):AIn A (·≠b'):=by
 intro a e hb;have:=Z02 h.row h'.blk hne;subst e;exact this (by simp [Value.ownBlock,hb])
theorem Sets.start (tSet tE size:Nat) (cells:α→List Value) (cmp:α→α→Int) (w:World):Sets tSet tE size cells cmp (· < w.heap.size) w (fun _=>none) (fun _=>⟨false,none,0⟩):=
 ⟨fun _ _ h=>by simp at h,fun _ _ h=>by simp at h,fun _ _ h=>by simp at h,fun _ _ _ _ h=>by simp at h,fun _ h=>h⟩
theorem Sets.lt (h:Sets tSet tE size cells cmp D w S σ) (hb:S b=some l):b<w.heap.size:=(h.at_ b l hb).lt
theorem Sets.below (h:Sets tSet tE size cells cmp D w S σ) (hw:Below w.heap.size w w'):Sets tSet tE size cells cmp D w' S σ:=
 ⟨fun b l hb=>(h.at_ b l hb).new_ hw,h.srt,h.out,h.apart,fun k hk=>Zma (h.low k hk) hw.size⟩
theorem Sets.weaken (h:Sets tSet tE size cells cmp D w S σ) (hD : ∀k,D' k→D k):Sets tSet tE size cells cmp D' w S σ:=
 ⟨h.at_,h.srt,fun b l hb=>⟨fun hk=>(h.out b l hb).1 (hD _ hk),fun hs=>((h.out b l hb).2 hs).mono (fun _ hk hd=>hk (hD _ hd))⟩,h.apart,fun k hk=>h.low k (hD k hk)⟩
theorem Sets.widen (h:Sets tSet tE size cells cmp D w S σ) (n:Nat) (hn : ∀b l,S b=some l→b<n∧((σ b).sn=false→AIn (σ b).A (· < n))):Sets tSet tE size cells cmp (fun k=>D k∨(n≤k∧k<w.heap.size)) w S σ:=
 ⟨h.at_,h.srt,fun b l hb=>⟨fun hk=>by
  rcases hk with hk | hk
  · exact (h.out b l hb).1 hk
  · have:=(hn b l hb).1;omega,fun hs a ha hk=>by
  rcases hk with hk | hk
  · exact (h.out b l hb).2 hs a ha hk
  · have:=(hn b l hb).2 hs a ha;omega⟩,h.apart,fun k hk=>by
  rcases hk with hk | hk
  · exact h.low k hk
  · exact hk.2⟩
theorem Sets.protect (h:Sets tSet tE size cells cmp D w S σ) (hw:Below w.heap.size w w'):Sets tSet tE size cells cmp (fun k=>D k∨(w.heap.size≤k∧k<w'.heap.size)) w' S σ:=
 (h.below hw).widen w.heap.size (fun b l hb=>⟨h.lt hb,fun _=>(h.at_ b l hb).row_lt⟩)
theorem Sets.mod (h:Sets tSet tE size cells cmp D w S σ) (hb:S b=some l) (hF:Fr (Z1d b (σ b).sn (σ b).A) w w'):Fr (fun k=>¬D k) w w':=
 hF.mono (fun k _ hk=>by
  rcases hk with rfl | ⟨hs,a,ha,rfl⟩
  · exact (h.out _ l hb).1
  · exact (h.out b l hb).2 hs a ha)
theorem Sets.moved (h:Sets tSet tE size cells cmp D w S σ) (hne:tE≠tSet) (hb:S b=some l) {sn':Bool} {A':Option Addr} {c':Nat} (h1:Z1z tSet tE size cells w' b sn' A' c' l') (hs:Srt cmp l')
 (hF:Fr (Z1d b (σ b).sn (σ b).A) w w') (hM:Z2w w (σ b).sn (σ b).A sn' A'):Sets tSet tE size cells cmp D w' (upd S b (some l')) (upd σ b ⟨sn',A',c'⟩):=by
 have hB:=h.at_ b l hb;refine ⟨fun k m hk=>?_,fun k m hk=>?_,fun k m hk=>?_,fun k m k' m' hk hk' hkk hsk a a' ha ha'=>?_,fun k hk=>Zma (h.low k hk) hF.size⟩
 · by_cases e:k=b
   · subst e;rw [Z0o] at hk ⊢;cases hk;exact h1
   · rw [Z1p _ _ e] at hk ⊢
     have hK:=h.at_ k m hk;refine hK.fr hF ?_ ?_
     · rintro (hx | ⟨hx,a,ha,hx2⟩)
       · exact e hx
       · exact hB.far hK hne a ha hx2
     · intro a ha hx
       rcases hx with hx | ⟨hx,a2,ha2,hx2⟩
       · exact hK.far hB hne a ha hx
       · exact h.apart b l k m hb hk (Ne.symm e) hx a2 a ha2 ha hx2
 · by_cases e:k=b
   · subst e;rw [Z0o] at hk;cases hk;exact hs
   · rw [Z1p _ _ e] at hk;exact h.srt k m hk
 · by_cases e:k=b
   · subst e;rw [Z0o] at hk ⊢;cases hk
     refine ⟨(h.out _ _ hb).1,fun hs2=>?_⟩;rcases hM with ⟨e1,e2⟩ | ⟨_,g,hg,e2⟩
     · simp only at hs2 ⊢;rw [e2];exact (h.out _ _ hb).2 (by rw [← e1];exact hs2)
     · simp only;rw [e2];intro a ha hd;cases ha;have:=h.low _ hd;simp at this;omega
   · rw [Z1p _ _ e] at hk ⊢;exact h.out k m hk
 · by_cases e:k=b
   · subst e
     have e':k'≠k:=Ne.symm hkk;rw [Z1p _ _ e'] at hk' ha';rw [Z0o] at hsk ha;simp only at hsk ha;rcases hM with ⟨e1,e2⟩ | ⟨_,g,hg,e2⟩
     · exact h.apart k l k' m' hb hk' hkk (by rw [← e1];exact hsk) a a' (by rw [← e2];exact ha) ha'
     · rw [e2] at ha;cases ha
       have:=(h.at_ k' m' hk').row_lt a' ha';simp only;omega
   · rw [Z1p _ _ e] at hk hsk ha
     by_cases e2:k'=b
     · subst e2
       rw [Z0o] at ha';simp only at ha';rcases hM with ⟨_,e3⟩ | ⟨_,g,hg,e3⟩
       · exact h.apart k m k' l hk hb hkk hsk a a' ha (by rw [← e3];exact ha')
       · rw [e3] at ha';cases ha'
         have:=(h.at_ k m hk).row_lt a ha;simp only;omega
     · rw [Z1p _ _ e2] at hk' ha'
       exact h.apart k m k' m' hk hk' hkk hsk a a' ha ha'
theorem Sets.seen (h:Sets tSet tE size cells cmp D w S σ) (hne:tE≠tSet) (hb:S b=some l) (h1:Z1z tSet tE size cells w' b true (σ b).A (σ b).c l) (hF:Fr (· = b) w w') :
 Sets tSet tE size cells cmp D w' S (upd σ b ⟨true,(σ b).A,(σ b).c⟩):=by
 have hB:=h.at_ b l hb;refine ⟨fun k m hk=>?_,h.srt,fun k m hk=>?_,fun k m k' m' hk hk' hkk hsk a a' ha ha'=>?_,fun k hk=>Zma (h.low k hk) hF.size⟩
 · by_cases e:k=b
   · subst e;rw [Z0o];rw [hb] at hk;cases hk;exact h1
   · rw [Z1p _ _ e]
     exact (h.at_ k m hk).fr hF e (fun a ha hx=>(h.at_ k m hk).far hB hne a ha hx)
 · refine ⟨(h.out k m hk).1,fun hs=>?_⟩
   by_cases e:k=b
   · subst e;rw [Z0o] at hs;cases hs
   · rw [Z1p _ _ e] at hs ⊢;exact (h.out k m hk).2 hs
 · by_cases e:k=b
   · subst e;rw [Z0o] at hsk;cases hsk
   · rw [Z1p _ _ e] at hsk ha
     by_cases e2:k'=b
     · subst e2;rw [Z0o] at ha';exact h.apart k m k' m' hk hk' hkk hsk a a' ha ha'
     · rw [Z1p _ _ e2] at ha';exact h.apart k m k' m' hk hk' hkk hsk a a' ha ha'
theorem Sets.add (h:Sets tSet tE size cells cmp D w S σ) {k:Nat} {sn':Bool} {A':Option Addr} {c':Nat} (hk:w.heap.size≤k) (h1:Z1z tSet tE size cells w' k sn' A' c' l') (hs:Srt cmp l')
 (hA:AIn A' (w.heap.size≤·)∨(sn'=true∧∃b l,S b=some l∧(σ b).sn=true∧(σ b).A=A')) (hF:Below w.heap.size w w'):Sets tSet tE size cells cmp D w' (upd S k (some l')) (upd σ k ⟨sn',A',c'⟩):=by
 (have hnk : ∀b l,S b=some l→b≠k:=fun b l hb e=>by have:=h.lt hb;omega);refine ⟨fun b m hb=>?_,fun b m hb=>?_,fun b m hb=>?_,fun b m b' m' hb hb' hkk hsk a a' ha ha'=>?_,fun k hk=>Zma (h.low k hk) hF.size⟩
 · by_cases e:b=k
   · subst e;rw [Z0o] at hb ⊢;cases hb;exact h1
   · rw [Z1p _ _ e] at hb ⊢;exact (h.at_ b m hb).new_ hF
 · by_cases e:b=k
   · subst e;rw [Z0o] at hb;cases hb;exact hs
   · rw [Z1p _ _ e] at hb;exact h.srt b m hb
 · by_cases e:b=k
   · subst e;rw [Z0o] at hb ⊢;cases hb
     refine ⟨fun hd=>by have:=h.low _ hd;omega,fun hs2 a ha hd=>?_⟩;have h3:=h.low _ hd;rcases hA with hA | ⟨hA,_⟩
     · have:=hA a ha;omega
     · simp only at hs2;rw [hA] at hs2;cases hs2
   · rw [Z1p _ _ e] at hb ⊢;exact h.out b m hb
 · by_cases e:b=k
   · subst e
     rw [Z1p _ _ (Ne.symm hkk)] at hb' ha';rw [Z0o] at hsk ha;simp only at hsk ha;have h3:=(h.at_ b' m' hb').row_lt a' ha';rcases hA with hA | ⟨hA,_⟩
     · have:=hA a ha;omega
     · rw [hA] at hsk;cases hsk
   · rw [Z1p _ _ e] at hb hsk ha
     have h3:=(h.at_ b m hb).row_lt a ha;by_cases e2:b'=k
     · subst e2
       rw [Z0o] at ha';simp only at ha';rcases hA with hA | ⟨_,b2,l2,hb2,hs2,hA⟩
       · have:=hA a' ha';omega
       · by_cases e3:b=b2
         · subst e3;rw [hsk] at hs2;cases hs2
         · exact h.apart b m b2 l2 hb hb2 e3 hsk a a' ha (hA.trans ha')
     · rw [Z1p _ _ e2] at hb' ha'
       exact h.apart b m b' m' hb hb' hkk hsk a a' ha ha'
end
end
section
open Go.RowKit
def Sym.cells (s:Sym):List Value:=[.int .i64 s.kind,.string s.text,.int .i64 s.n]
theorem Sym.cells_length (s:Sym):s.cells.length=3:=rfl
theorem Zh6 (a:Int) (w:World):Calls Tryz.prog 229 #[.int .i64 a] w fun e w'=>e = .returned (.bool false)∧w=w':=by
 go_enter Tryz.func229,Tryz.ntmps229;go_wp2;go_ret;exact ⟨by simp,rfl⟩
theorem Zh7 (a:ByteArray) (w:World):Calls Tryz.prog 230 #[.string a] w fun e w'=>e = .returned (.bool false)∧w=w':=by
 go_enter Tryz.func230,Tryz.ntmps230;go_wp2;go_ret;exact ⟨by simp,rfl⟩
theorem Zcq (a b:Int) (w:World):Calls Tryz.prog 227 #[.int .i64 a,.int .i64 b] w fun e w'=>e = .returned (.int .i64 (Z2s a b))∧w=w':=by
 go_enter Tryz.func227,Tryz.ntmps227;go_wp2_with (go_at_call 229;refine (Zh6 _ _).mono ?_;rintro e w' ⟨rfl,rfl⟩)
 all_goals (go_ret;refine ⟨?_,rfl⟩;unfold Z2s;(repeat' split)<;>first | rfl | (exfalso;omega))
theorem Zcr (a b:ByteArray) (w:World):Calls Tryz.prog 228 #[.string a,.string b] w fun e w'=>e = .returned (.int .i64 (Z2c a b))∧w=w':=by
 go_enter Tryz.func228,Tryz.ntmps228;go_wp2_with (go_at_call 230;refine (Zh7 _ _).mono ?_;rintro e w' ⟨rfl,rfl⟩)
 all_goals (go_ret;refine ⟨?_,rfl⟩;unfold Z2c;(repeat' split)<;>first | rfl | (exfalso;simp_all))
theorem Zkn (a b:Sym) (w:World) :
 Calls Tryz.prog 226 #[.agg #[.int .i64 a.kind,.string a.text,.int .i64 a.n],.agg #[.int .i64 b.kind,.string b.text,.int .i64 b.n]] w fun e w'=>e = .returned (.int .i64 (Z0r a b))∧Below w.heap.size w w':=by
 obtain ⟨ak,at_,an⟩:=a;obtain ⟨bk,bt,bn⟩:=b;by_cases h1:Z2s ak bk=0
 · have n1:(Z2s ak bk != 0)=false:=by simp [h1]
   by_cases h2:Z2c at_ bt=0
   · have n2:(Z2c at_ bt != 0)=false:=by simp [h2]
     (have HF:Hid (Z0r ⟨ak,at_,an⟩ ⟨bk,bt,bn⟩=Z2s an bn):=by simp [Hid,Z0r,andThen,h1,h2]);clear h1 h2;go_enter Tryz.func226,Tryz.ntmps226;(go_wp2_with (first | (go_at_call 227;refine (Zcq _ _ _).mono ?_;rintro e w' ⟨rfl,rfl⟩) | (go_at_call 228;refine (Zcr _ _ _).mono ?_;rintro e w' ⟨rfl,rfl⟩)));go_ret;exact ⟨by rw [HF.out];rfl,((Zm7 _ _).alloc (Zm8 _) _).alloc (by simp) _⟩
   · have n2:(Z2c at_ bt != 0)=true:=by simp [h2]
     (have HF:Hid (Z0r ⟨ak,at_,an⟩ ⟨bk,bt,bn⟩=Z2c at_ bt):=by simp [Hid,Z0r,andThen,h1,h2]);clear h1 h2;go_enter Tryz.func226,Tryz.ntmps226;(go_wp2_with (first | (go_at_call 227;refine (Zcq _ _ _).mono ?_;rintro e w' ⟨rfl,rfl⟩) | (go_at_call 228;refine (Zcr _ _ _).mono ?_;rintro e w' ⟨rfl,rfl⟩)));go_ret;exact ⟨by rw [HF.out];rfl,((Zm7 _ _).alloc (Zm8 _) _).alloc (by simp) _⟩
 · have n1:(Z2s ak bk != 0)=true:=by simp [h1]
   (have HF:Hid (Z0r ⟨ak,at_,an⟩ ⟨bk,bt,bn⟩=Z2s ak bk):=by simp [Hid,Z0r,andThen,h1]);clear h1;go_enter Tryz.func226,Tryz.ntmps226;(go_wp2_with (first | (go_at_call 227;refine (Zcq _ _ _).mono ?_;rintro e w' ⟨rfl,rfl⟩) | (go_at_call 228;refine (Zcr _ _ _).mono ?_;rintro e w' ⟨rfl,rfl⟩)));go_ret;exact ⟨by rw [HF.out];rfl,((Zm7 _ _).alloc (Zm8 _) _).alloc (by simp) _⟩
theorem Z47 {α:Type} {cells:α→List Value} (hsz : ∀x,(cells x).length=1) (_h0:0<1) (l:List α) (k:Nat) (hk:k<l.length) (y:α) :
 setAll (l.flatMap cells) k (cells y)=(l.set k y).flatMap cells:=by
 have h:=Z81 hsz (by omega) l k hk y;rwa [Nat.mul_one] at h
abbrev Z0i:=ByteArray
def Z0i.cells (n:Z0i):List Value:=[.string n]
theorem Z0i.cells_length (n:Z0i):(Z0i.cells n).length=1:=rfl
def Z00 (a b:Z0i):Int:=Z2c a b
theorem Z2a:TC Z00:=Zie
theorem Z4v {a b:Z0i}:Z00 a b=0↔a=b:=Z88
theorem Zgv (a b:Z0i) (w:World):Calls Tryz.prog 241 #[.string a,.string b] w fun e w'=>e = .returned (.int .i64 (Z00 a b))∧Below w.heap.size w w':=by
 go_enter Tryz.func241,Tryz.ntmps241;go_wp2
 all_goals (go_ret;refine ⟨?_,Zm7 _ _⟩;unfold Z00 Z2c;simp_all)
abbrev Z1x:=Z1z (α:=Z0i) 191 132 1 Z0i.cells
theorem Z96 (k0 : ByteArray) (w : World) : (nilAhead 442 132 (.string k0) "Compare").run Tryz.prog w = .ok (some false) w := by kernel_rfl
theorem Zbu (k0 : ByteArray) (w : World) : (method 442 132 (.string k0) "Compare").run Tryz.prog w = .ok (241, .string k0) w := by kernel_rfl
def Z9d (l:List Z0i) (x:Z0i) (w:World) (e:Ending) (w':World):Prop:=
 e = .returned (.tuple #[.int .i64 (rank Z00 l x),.bool (has Z00 l x)])∧Below w.heap.size w w'
theorem Z4n (b c:Nat) (sn:Bool) (A:Option Addr) (l:List Z0i) (x:Z0i) (w:World) (hS:Z1x w b sn A c l) (hs:Srt Z00 l) (hl:(l.length:Int)≤4611686018427387904) :
 Calls Tryz.prog 124 #[.pointer (some ⟨b,0,none⟩),.string x] w (Z9d l x w):=by
 have hrd:=hS.rd Z0i.cells_length;have h0:=hS.cell0;have hb:=hS.lt;clear hS;have HS:=hid hs;have HRD:=hid hrd;clear hs hrd;go_enter Tryz.func124,Tryz.ntmps124;(go_wp2_with fail);go_quiet (fail);(go_wp2_with fail);obtain ⟨W0,hW0⟩ : ∃W0,W0=(w.drewN nq):=⟨_,rfl⟩;(have hB0:Below w.heap.size w W0:=by rw [hW0];exact Below.drewN' (Zm7 _ _) _);rw [← hW0];clear hW0;have HB0:=hid hB0;clear hB0
 go_loopw [6,7] (fun lo hi wr=>∃i j:Nat,lo = .int .i64 i∧hi = .int .i64 j∧i≤j∧j≤l.length∧(∀k,(h:k<l.length)→k<i→Z00 l[k] x<0)∧(∀k,(h:k<l.length)→j≤k→0<Z00 l[k] x)∧Below W0.heap.size W0 wr) (fun lo hi wr=>(intOf hi).toNat - (intOf lo).toNat)
 case atStart=>exact ⟨0,l.length,rfl,rfl,Nat.zero_le _,Zm8 _,fun k _ h=>absurd h (by omega),fun k h h'=>absurd h (by omega),Zm7 _ _⟩
 case round=>
  obtain ⟨i,j,rfl,rfl,hij,hj,hlo,hhi,hB⟩:=hrel;have HLO:=hid hlo;have HHI:=hid hhi;clear hlo hhi;have hsz:w.heap.size≤W0.heap.size:=HB0.out.size;by_cases hlt:i<j
  · obtain ⟨m,hm⟩ : ∃m,m=i+(j - i) / 2:=⟨_,rfl⟩
    (have hml:m<l.length:=by omega);(have hmj:m<j:=by omega);(have hmi:i≤m:=by omega);(have e1:((i:Int)+((j:Int) - (i:Int)) / 2)=(m:Int):=by omega);have E1:=hid e1;clear e1 hm;obtain ⟨g,off,rfl,hgs,hcell⟩:=HRD.out.at_ hml;have low : ∀(p:Addr),p.block<w.heap.size→wr.cell? p=w.cell? p:=fun p hp=>(hB.cell (p:=p) (by omega)).trans (HB0.out.cell (p:=p) hp);have r0:=(low ⟨b,0,none⟩ hb).trans h0;have q0:wr.cell? ⟨g,off+m,none⟩=some (.string l[m]):=(low ⟨g,off+m,none⟩ hgs).trans (by simpa using hcell 0 _ rfl);(have b1:(0:Int)≤(m:Int):=by omega);(have b2:(m:Int)<(l.length:Int):=by omega);have hsw:W0.heap.size≤wr.heap.size:=hB.size;have N:=Z96;have M:=Zbu;clear low hcell h0;have HB:=hid hB;clear hB;obtain ⟨y,hy⟩ : ∃y,y=l[m]:=⟨_,rfl⟩;rw [← hy] at q0;have HY:=hid hy;clear hy;(have hbw:b<wr.heap.size:=by omega);(have hgw:g<wr.heap.size:=by omega);(go_upto_region 4 with (fail));rw [E1.out];(go_wp2_with fail);refine (Zgv y x _).mono ?_;rintro e w1 ⟨rfl,hb1⟩;have HB1:Below W0.heap.size W0 w1:=HB.out.trans (hb1.mono hsw);clear r0 q0 N M;have HB1':=hid HB1;clear HB1;by_cases hc:Z00 y x=0
    · have HC:=hid hc
      (have t1:(Z00 y x == 0)=true:=by simp [hc]);clear hc;(go_wp2_with fail);go_ret2;have e:=HC.out;rw [HY.out] at e;refine ⟨?_,HB0.out.trans (HB1'.out.mono (by omega))⟩;rw [Z4r Z2a HS.out hml e,(Z5h Z2a HS.out hml e).2.2.1];rfl
    · have t1:(Z00 y x == 0)=false:=by simp [hc]
      by_cases hc2:Z00 y x<0
      · have HC:=hid hc2
        (have t2:decide (Z00 y x<0)=true:=by simpa using hc2);clear hc hc2;(go_wp2_with fail);go_roundw
        case rel=>
         refine ⟨m+1,j,by go_num,rfl,by omega,hj,fun k h1 h2=>?_,HHI.out,HB1'.out⟩;have e:=HC.out;rw [HY.out] at e;rcases Nat.lt_or_ge k m with h3 | h3
         · exact Z2a.lt_of_lt_of_le (HS.out.lt h3 hml) (by omega)
         · obtain rfl:k=m:=by omega
           exact e
        case measure=>simp [intOf];omega
      · have t2:decide (Z00 y x<0)=false:=by simpa using hc2
        (have hc3:0<Z00 y x:=by omega);have HC:=hid hc3;clear hc hc2 hc3;(go_wp2_with fail);go_roundw
        case rel=>
         refine ⟨i,m,rfl,rfl,by omega,by omega,HLO.out,fun k h1 h2=>?_,HB1'.out⟩;have e:=HC.out;rw [HY.out] at e;rcases Nat.lt_or_ge m k with h3 | h3
         · exact (Z2a.symm _ _).1 (Z2a.lt_trans ((Z2a.symm _ _).2 e) (HS.out.lt h3 h1))
         · obtain rfl:k=m:=by omega
           exact e
        case measure=>simp [intOf];omega
  · obtain rfl:i=j:=by omega
    have HB:=hid hB;clear hB;(go_wp2_with fail);go_ret2;refine ⟨?_,HB0.out.trans (HB.out.mono (by omega))⟩;rw [Z4q hj HLO.out HHI.out,(Z68 HLO.out HHI.out).2.2];rfl
theorem Z9j:(Tryz.prog.info? 132).map (fun i=>(i.zero,i.size,i.bytes))=some (some (.string ⟨#[]⟩),1,16):=by kernel_rfl
theorem Z0i.one (x:Z0i) : ∀u∈Z0i.cells x,u.oneCell'=true:=by intro u hu;simp [Z0i.cells] at hu;rcases hu with rfl<;>rfl
theorem Z0i.oneAll (l:List Z0i) : ∀u∈l.flatMap Z0i.cells,u.oneCell'=true:=by intro u hu;obtain ⟨x,_,hx⟩:=List.mem_flatMap.1 hu;exact Z0i.one x u hx
def Z5e (w:World) (b:Nat) (sn:Bool) (A:Option Addr) (l:List Z0i) (e:Ending) (w':World):Prop:=
 e = .returned (.tuple #[])∧∃A' c',Z1x w' b false A' c' l∧Fr (· = b) w w'∧Z2w w sn A false A'
theorem Zc2 (b c:Nat) (A:Option Addr) (l:List Z0i) (w:World) (hS:Z1x w b false A c l) :
 Calls Tryz.prog 125 #[.pointer (some ⟨b,0,none⟩)] w (Z5e w b false A l):=by
 have h1:=hS.cell1;have HS:=hid hS;clear hS;go_enter Tryz.func125,Tryz.ntmps125;go_wp2;go_end0;exact ⟨rfl,A,c,HS.out,Fr.refl _ _,.inl ⟨rfl,rfl⟩⟩
theorem Zan (b c:Nat) (A:Option Addr) (l:List Z0i) (w:World) (hS:Z1x w b true A c l) (hl:(l.length:Int)≤1000000000) :
 Calls Tryz.prog 125 #[.pointer (some ⟨b,0,none⟩)] w (Z5e w b true A l):=by
 obtain ⟨i0,hi,hz0,hz1,hz2⟩:=info_parts Z9j;have h0:=hS.cell0;have h1:=hS.cell1;have hb:=hS.lt;have f0:=hS.blk.frozen 0;have f1:=hS.blk.frozen 1;have hrd:=hS.rd Z0i.cells_length;have HB:=hid hS.blk;have HRD:=hid hrd;clear hS hrd;have e1:IntKind.i64.wrap ((l.length:Int)+1)=(l.length:Int)+1:=Zmh _ (by omega)
 have hmk : ∀W:World,(Instr.makeSlice 189 (.int .i64 0) (.int .i64 ((l.length:Int)+1))).run Tryz.prog W = .ok (.slice (some ⟨W.heap.size,0,none⟩) 0 (l.length+1)) (W.alloc (.cells (madeCells (Value.cells (.string ⟨#[]⟩)) ((l.length+1))) 132)):=fun W=>by
  have h:=run_make (P:=Tryz.prog) W 189 132 i0 _ Tryz.underlying189 hi hz0 .i64 .i64 0 ((l.length:Int)+1) (by omega) (by omega) (by rw [hz2];omega) (by omega);rw [hz1] at h;simpa [show ((l.length:Int)+1).toNat=l.length+1 by omega] using h
 go_enter Tryz.func125,Tryz.ntmps125;(go_wp2_with fail);refine Z0c (fun w9=>Below w.heap.size w w9) [(0,0),(1,0),(2,0),(3,0),(4,1),(5,0),(6,0),(8,0),(9,0),(10,0),(11,1),(7,2),(12,2),(13,0),(14,0),(15,2)] (by kernel_rfl) (by kernel_rfl) (fun KK hKK=>?_);simp only [Z0v,Zmn,Zme,Zml,Zmg,Zmf,Zmo];(repeat ((first | (refine Z0m ?_ (Or.inl ⟨by rfl,fun w9=>?_⟩) ?_;rotate_left 1;go_simp;with_reducible rfl) | (refine Z0l ?_ (((Zm7 _ _).drew)) (Or.inl ⟨by rfl,fun w9 hw9=>?_⟩) ?_;rotate_left 1;obtain ⟨hc9,hf9⟩:=Z1a hw9;go_simp;with_reducible rfl) | refine Z0m undef (Or.inr ⟨by rfl,rfl⟩) ?_ | refine Z0l undef (((Zm7 _ _).drew)) (Or.inr ⟨by rfl,rfl⟩) ?_);go_frame));refine Z2v (fun K9 hK9=>?_);go_simp;refine hK9 _ _ (((Zm7 _ _).drew).alloc (Zm8 _) _) ?_;clear hK9 K9;refine Z1w (by kernel_rfl) (fun K9 hK9=>?_)
 refine Z0s _ (by rfl) _ _ _ (by rfl) 132 i0 _ 1 16 Tryz.underlying189 hi hz0 hz1 hz2 rfl (by omega) _ 0 [] (by rfl) (World.ownsRow_made _ _ _ (Nat.zero_le _) (by unfold maxLen;omega) (by simp [madeCells])) A l.length c (l.flatMap Z0i.cells) (by rfl) (Z0f Z0i.cells_length l)
  ((HRD.out.drew.alloc _).news Z0i.cells_length (by omega)) (Z0i.oneAll l) (by unfold maxLen;omega) (by omega) ?_
 intro v2 w2 hown hgr hnil hat;refine hK9 _ _ ?_;clear hK9 K9;rw [Zmz,Zmr] at hown;obtain ⟨A',c',rfl,_,_,hz⟩:=Z0y hown;have HB1:=(HB.out.drew.alloc (.cells (madeCells (Value.cells (.string ⟨#[]⟩)) ((l.length+1))) 132)).grown hgr (by simp [Value.ownBlock];omega);have c0:=(HB1.cell 0).trans rfl;have c1:=(HB1.cell 1).trans rfl;have z0:=HB1.frozen 0;have z1:=HB1.frozen 1;have HB2:=hid HB1;clear HB1;(repeat ((first | (refine Z0m ?_ (Or.inl ⟨by rfl,fun w9=>?_⟩) ?_;rotate_left 1;go_simp;with_reducible rfl) | (refine Z0l ?_ (((Zm7 _ _).drew).alloc (Zm8 _) _) (Or.inl ⟨by rfl,fun w9 hw9=>?_⟩) ?_;rotate_left 1;obtain ⟨hc9,hf9⟩:=Z1a hw9;go_simp;with_reducible rfl) | refine Z0m undef (Or.inr ⟨by rfl,rfl⟩) ?_ | refine Z0l undef (((Zm7 _ _).drew).alloc (Zm8 _) _) (Or.inr ⟨by rfl,rfl⟩) ?_);go_frame));refine Z1w (by kernel_rfl) (fun K9 hK9=>?_);go_simp;refine hK9 _ _ ?_;clear hK9 K9;refine Z1b ?_;simp only [Z03];refine hKK _ _ ?_;clear hKK KK;go_wp2;go_end0
 have hb2:(Value.slice A' l.length c').ownBlock=some w.heap.size∨(Value.slice A' l.length c').ownBlock=some (w.heap.size+1):=by
  rcases hat with h | h
  · left;rw [h];rfl
  · right;rw [h];simp
 have hA : ∃g,w.heap.size≤g∧A'=some ⟨g,0,none⟩:=by
  rcases A' with _ | a
  · exfalso;simp [Value.ownBlock] at hb2
  · obtain ⟨g,rfl⟩:=hz a rfl
    refine ⟨g,?_,rfl⟩;simp [Value.ownBlock] at hb2;omega
 obtain ⟨g,hg,rfl⟩:=hA;have HB1:=HB2.out;have HF:Fr (· = b) w w2:=((Fr.refl (· = b) w).drew.alloc _).grown hgr (fun k e=>by simp [Value.ownBlock] at e;right;omega);refine ⟨rfl,some ⟨g,0,none⟩,c',⟨(HB1.set_ 0 _).set_ 1 _,?_⟩,(HF.setCell (p:=⟨b,0,none⟩) (.inl rfl) _).setCell (p:=⟨b,1,none⟩) (.inl rfl) _,.inr ⟨rfl,g,hg,rfl⟩⟩;(have hne:(Value.slice (some ⟨g,0,none⟩) l.length c').ownBlock≠some b:=by simp [Value.ownBlock];omega);exact ownsRow_setCell_other (a:=⟨b,1,none⟩) (ownsRow_setCell_other (a:=⟨b,0,none⟩) hown hne _) hne _
theorem Zc1 (b c:Nat) (sn:Bool) (A:Option Addr) (l:List Z0i) (w:World) (hS:Z1x w b sn A c l) (hl:(l.length:Int)≤1000000000) :
 Calls Tryz.prog 125 #[.pointer (some ⟨b,0,none⟩)] w (Z5e w b sn A l):=by
 cases sn
 · exact Zc2 b c A l w hS
 · exact Zan b c A l w hS hl
def Z5f (w:World) (b:Nat) (sn:Bool) (A:Option Addr) (l:List Z0i) (x:Z0i) (e:Ending) (w':World):Prop:=
 e = .returned (.bool (!has Z00 l x))∧∃sn' A' c',Z1x w' b sn' A' c' (put Z00 l x)∧Fr (Z1d b sn A) w w'∧Z2w w sn A sn' A'
theorem Z8t (b c:Nat) (sn:Bool) (A:Option Addr) (l:List Z0i) (x:Z0i) (w:World) (hS:Z1x w b sn A c l) (hs:Srt Z00 l) (hl:(l.length:Int)≤100000000) (hh:has Z00 l x=true) :
 Calls Tryz.prog 67 #[.pointer (some ⟨b,0,none⟩),.string x] w (Z5f w b sn A l x):=by
 have HS:=hid hS;have HO:=hid hs;clear hS hs;go_enter Tryz.func67,Tryz.ntmps67;(go_wp2_with fail);refine (Z4n b c sn A l x _ (HS.out.new_ (Zm7 _ _)) HO.out (by omega)).mono ?_;rintro e w1 ⟨rfl,hb1⟩;(go_wp2_with fail);go_ret;refine ⟨by rw [hh];rfl,sn,A,c,?_,Fr.of_new ((Zm7 _ _).trans (hb1.mono (by simp))),.inl ⟨rfl,rfl⟩⟩;rw [Z4b hh];exact HS.out.new_ ((Zm7 _ _).trans (hb1.mono (by simp)))
theorem Zap (b c:Nat) (sn:Bool) (A:Option Addr) (l:List Z0i) (x:Z0i) (w:World) (hS:Z1x w b sn A c l) (hs:Srt Z00 l) (hl:(l.length:Int)≤100000000) (hh:has Z00 l x=false) :
 Calls Tryz.prog 67 #[.pointer (some ⟨b,0,none⟩),.string x] w (Z5f w b sn A l x):=by
 obtain ⟨i0,hi,hz0,hz1,hz2⟩:=info_parts Z9j;have HS:=hid hS;have HO:=hid hs;have hb:=hS.lt;clear hS hs;have hrk:=Z6b (cmp:=Z00) l x;go_enter Tryz.func67,Tryz.ntmps67;(go_wp2_with fail);have hSa:=HS.out.new_ (Zm7 w.heap.size w);have HSa:=hid hSa;clear hSa;refine (Z4n b c sn A l x _ HSa.out HO.out (by omega)).mono ?_;rintro e w1 ⟨rfl,hb1⟩;have HS1:=hid (HSa.out.new_ hb1);(have hsz1:w.heap.size≤w1.heap.size:=by have:=hb1.size;(try simp at this);omega);have HB1:=hid hb1;clear hb1;(go_wp2_with fail);refine (Zc1 b c sn A l _ HS1.out (by omega)).mono ?_;rintro e w2 ⟨rfl,A1,c1,hS2,hF2,hM2⟩;have hsz2:w1.heap.size≤w2.heap.size:=hF2.size;have s0:=hS2.cell0;have f0:=hS2.blk.frozen 0;(have hb2:b<w2.heap.size:=by omega);have HS2:=hid hS2;have HF2:=hid hF2;have HM2:=hid hM2;clear hS2 hF2 hM2
 go_upto_region 8 with
  (at_builtin;refine Z07 (w2.alloc (.cells #[.string x] 132)) rfl (.tmp 23) (.tmp 25) 189 rfl 132 i0 _ 1 16 Tryz.underlying189 hi hz0 hz1 hz2 rfl (by omega) (.slice A1 l.length c1) l.length (l.flatMap Z0i.cells) rfl (Z04 HS2.out.row ((Zm7 _ _).alloc (Zm8 _) _)) (some ⟨w2.heap.size,0,none⟩) 1 1 (Z0i.cells x) rfl rfl (fun _=>⟨_,rfl,Zmu (heap_alloc_new _ _)⟩) (Z0i.one x) (by unfold maxLen;omega) (by omega) ?_;
   intro v2 w3 hown hgr hnil hat;
   obtain ⟨g,c2,rfl⟩ : ∃g c2,v2 = .slice (some ⟨g,0,none⟩) (l.length+1) c2:=(by
    rcases Z0b hown with ⟨_,h0,_⟩ | ⟨g,c2,h,_⟩
    · omega
    · exact ⟨g,c2,h⟩);
   have HB3':=(HS2.out.blk.alloc (.cells #[.string x] 132)).grown hgr (Z02 HS2.out.row HS2.out.blk (by decide));
   have c0:=(HB3'.cell 0).trans rfl;
   have z0:=HB3'.frozen 0;
   have HB3:=hid HB3';
   have HOWN:=hid hown;
   have HGR:=hid hgr;
   clear HB3' hown hgr)
 have hlg:((l.length+1:Nat):Int)=(l.length:Int)+1:=by omega
 have hG:(Z1d b sn A g∨w.heap.size≤g)∧Z2w w sn A false (some ⟨g,0,none⟩)∧True∧g≠b:=by
  rcases hat with h | h
  · rcases A1 with _ | a1
    · simp [Value.ownBlock] at h
    · obtain ⟨A',c',hv,_,_,hz⟩:=Z0y HS2.out.row
      injection hv with hv _ _;obtain ⟨g',rfl⟩:=hz a1 hv.symm;(have hgg:g'=g:=by simpa [Value.ownBlock] using h.symm);subst hgg;have hne:g'≠b:=HS2.out.row_ne (by decide) _ rfl;rcases HM2.out with ⟨hsn,hA⟩ | ⟨_,g2,hg2,hA⟩
      · have h1:=HS.out.row_lt _ hA.symm
        exact ⟨.inl (.inr ⟨hsn.symm,_,hA.symm,rfl⟩),.inl ⟨hsn,hA⟩,True.intro,hne⟩
      · injection hA with hA
        injection hA with hA;subst hA;exact ⟨.inr (by omega),.inr ⟨rfl,_,by omega,rfl⟩,True.intro,hne⟩
  · have hgg:g=w2.heap.size+1:=by simpa [Value.ownBlock] using h
    subst hgg;exact ⟨.inr (by omega),.inr ⟨rfl,_,by omega,rfl⟩,True.intro,by omega⟩
 obtain ⟨hgM,hgMv,hgk1,hgb⟩:=hG;obtain ⟨w4,hw4⟩ : ∃w4,w4=w3.setCell ⟨b,0,none⟩ (.slice (some ⟨g,0,none⟩) (l.length+1) c2):=⟨_,rfl⟩;have hB4:Blk w4 b 191 #[.slice (some ⟨g,0,none⟩) (l.length+1) c2,.bool false]:=by rw [hw4];exact HB3.out.set_ 0 _
 have hR4:w4.ownsRow 0 132 1 (.slice (some ⟨g,0,none⟩) (l.length+1) c2) (l.length+1) ((Z0p l x l.length).flatMap Z0i.cells):=by
  rw [hw4,Z2r];refine ownsRow_setCell_other (a:=⟨b,0,none⟩) ?_ (by simpa [Value.ownBlock] using hgb) _;rw [Zmq,List.flatMap_singleton];exact HOWN.out
 have hF4:Fr (Z1d b sn A) w w4:=by
  rw [hw4];have h1:Fr (Z1d b sn A) w w1:=Fr.of_new ((Zm7 _ _).trans (HB1.out.mono (by simp)));have h2:Fr (Z1d b sn A) w w2:=h1.trans (HF2.out.mono (fun k _ h=>.inl h));refine ((h2.alloc _).grown HGR.out (fun k hk=>?_)).setCell (p:=⟨b,0,none⟩) (.inl (.inl rfl)) _;rcases A1 with _ | a1
  · cases hk
  · simp only [Value.ownBlock,Option.some.injEq] at hk
    subst hk;rcases HM2.out with ⟨hsn,hA⟩ | ⟨_,g',hg',hA⟩
    · left;right;exact ⟨hsn.symm,a1,hA.symm,rfl⟩
    · injection hA with hA
      subst hA;right;dsimp only;omega
 rw [← hw4];have HgM:=hid hgM;have HgMv:=hid hgMv;have HB4:=hid hB4;have HR4:=hid hR4;have HF4:=hid hF4;have s4:=hB4.cell 0;have s4':w4.cell? ⟨b,0,none⟩=some (.slice (some ⟨g,0,none⟩) (l.length+1) c2):=s4;clear s4 hw4 hB4 hR4 hF4 hat hgM hgMv hnil  s0 f0;go_wp2_with fail
 go_loopw [7] (fun s wr=>∃i:Nat,s = .int .i64 i∧rank Z00 l x≤i∧i≤l.length∧wr.ownsRow 0 132 1 (.slice (some ⟨g,0,none⟩) (l.length+1) c2) (l.length+1) ((Z0p l x i).flatMap Z0i.cells)∧Fr (· = g) w4 wr) (fun s wr=>(intOf s).toNat)
 case atStart=>exact ⟨l.length,by go_num,hrk,Zm8 _,HR4.out,Fr.refl _ _⟩
 case round=>
  obtain ⟨i,rfl,hi1,hi2,hown,hfr⟩:=hrel;have hgw:g<wr.heap.size:=(hown.lt g rfl).2;have r0:wr.cell? ⟨b,0,none⟩=some (.slice (some ⟨g,0,none⟩) (l.length+1) c2):=(hfr.cell (p:=⟨b,0,none⟩) HB4.out.lt (fun h=>hgb h.symm)).trans s4';have fz : ∀o,wr.frozen? ⟨g,o,none⟩=false:=fun o=>hown.frozenAt o;have HOW:=hid hown;have HFR:=hid hfr;clear hown hfr;by_cases hlt:rank Z00 l x<i
  · obtain ⟨j,rfl⟩ : ∃j,i=j+1:=⟨i - 1,by omega⟩
    (have hj:j<l.length:=by omega);have hrd:=Z0x (A:=some ⟨g,0,none⟩) (c:=c2) (l:=Z0p l x (j+1)) Z0i.cells_length (by rw [Z0a l x hi2];exact HOW.out);obtain ⟨g',o',hgo,_,hcell⟩:=hrd.at_ (k:=j) (by rw [Z0a l x hi2];omega);injection hgo with hgo;injection hgo with hg1 hg2;subst hg1;subst hg2;rw [Z34 l x hj] at hcell;have q0:wr.cell? ⟨g,j,none⟩=some (.string l[j]):=by simpa using hcell 0 _ rfl
    have rmj:Room wr g 132 (c2*1)∧l.length+1≤c2:=by
     rcases Z0b HOW.out with ⟨hv,_⟩ | ⟨g',cap,hv,hn,_,hr,_⟩
     · cases hv
     · injection hv with hA _ hc
       injection hA with hA;injection hA with hA;subst hA;subst hc;exact ⟨hr,hn⟩
    obtain ⟨hrm,hcap⟩:=rmj;obtain ⟨u0,t0⟩:=hrm.cell (i:=(j+1)) (by omega);(have b0:(0:Int)≤(j:Int)+1:=by omega);(have b1:(0:Int)≤(j:Int):=by omega);(have b4:(j:Int)<(l.length:Int):=by omega);(have b2:(j:Int)<(l.length:Int)+1:=by omega);(have b3:(j:Int)+1<(l.length:Int)+1:=by omega);have w1:IntKind.i64.wrap ((j:Int))=(j:Int):=Zmh _ (by omega);(have w2:IntKind.i64.wrap ((j:Int)+1 - 1)=(j:Int):=by rw [Zmh _ (by omega)];omega);clear hcell hrd hrm;obtain ⟨y,hy⟩ : ∃y,y=l[j]:=⟨_,rfl⟩;rw [← hy] at q0;have HY:=hid hy;have hbw:b<wr.heap.size:=Zmj wr _ r0;clear hy;(go_wp2_with fail);refine Z0c (fun w9=>Below wr.heap.size wr w9) [(0,0),(1,0),(2,0),(3,1),(4,0),(5,0),(6,0),(7,0),(8,1),(9,0),(10,0),(11,0),(12,1),(13,0),(14,2)] (by kernel_rfl) (by kernel_rfl) (fun KK hKK=>?_);simp only [Z0v,Zmn,Zme,Zml,Zmg,Zmf,Zmo];(repeat ((first | (refine Z0m ?_ (Or.inl ⟨by rfl,fun w9=>?_⟩) ?_;rotate_left 1;go_simp;with_reducible rfl) | (refine Z0l ?_ (((Zm7 _ _).drew)) (Or.inl ⟨by rfl,fun w9 hw9=>?_⟩) ?_;rotate_left 1;obtain ⟨hc9,hf9⟩:=Z1a hw9;go_simp;with_reducible rfl) | refine Z0m undef (Or.inr ⟨by rfl,rfl⟩) ?_ | refine Z0l undef (((Zm7 _ _).drew)) (Or.inr ⟨by rfl,rfl⟩) ?_);go_frame));refine Z1w (by kernel_rfl) (fun K9 hK9=>?_);go_simp;refine hK9 _ _ ?_;clear hK9 K9;refine Z1b ?_;simp only [Z03];refine hKK _ _ ?_;clear hKK KK;(go_wp2_with fail);go_roundw
    case rel=>
     refine ⟨j,by go_num,by omega,by omega,?_,Fr.drew ((HFR.out).setCell (p:=⟨g,(j+1),none⟩) (.inl rfl) (_))⟩;have hst:=((HOW.out).stored ((j+1)) (.string y)).1
     have he:setAll ((Z0p l x (j+1)).flatMap Z0i.cells) ((j+1)) (Z0i.cells y)=(Z0p l x j).flatMap Z0i.cells:=by
      rw [Z47 Z0i.cells_length (by omega) _ (j+1) (by rw [Z0a l x hi2];omega),HY.out,Z35 l x hj]
     rw [← he];exact hst
    case measure=>simp [intOf]<;>omega
  · obtain rfl:i=rank Z00 l x:=by omega
    have rmj:Room wr g 132 (c2*1)∧l.length+1≤c2:=by
     rcases Z0b HOW.out with ⟨hv,_⟩ | ⟨g',cap,hv,hn,_,hr,_⟩
     · cases hv
     · injection hv with hA _ hc
       injection hA with hA;injection hA with hA;subst hA;subst hc;exact ⟨hr,hn⟩
    obtain ⟨hrm,hcap⟩:=rmj;obtain ⟨k,hk⟩ : ∃k,k=rank Z00 l x:=⟨_,rfl⟩;rw [← hk] at hi2 hlt ⊢;obtain ⟨u0,t0⟩:=hrm.cell (i:=k) (by omega);(have b1:(0:Int)≤(k:Int):=by omega);(have b2:(k:Int)<(l.length:Int)+1:=by omega);have HK:=hid hk;have hbw:b<wr.heap.size:=Zmj wr _ r0;clear hrm hk;(go_wp2_with fail);go_ret;have HOWk:=HOW.out;rw [← HK.out] at HOWk;have hst:=((HOWk).stored (k) (.string x)).1
    have he:setAll ((Z0p l x k).flatMap Z0i.cells) (k) (Z0i.cells x)=(put Z00 l x).flatMap Z0i.cells:=by
     rw [Z47 Z0i.cells_length (by omega) _ k (by rw [Z0a l x hi2];omega),Z3n l x hi2,Z8s Z2a HO.out hh,HK.out]
    have hln:=Z3m Z2a HO.out hh;refine ⟨by rw [hh];rfl,false,some ⟨g,0,none⟩,c2,⟨?_,?_⟩,?_,?_⟩
    · rw [hln]
      exact (HB4.out.fr HFR.out (fun h=>hgb h.symm)).far (p:=⟨g,k,none⟩) (fun h=>hgb h.symm) _
    · rw [hln,← he]
      exact hst
    · exact HF4.out.into (((HFR.out).setCell (p:=⟨g,k,none⟩) (.inl rfl) (_))) (fun k hk=>by subst hk;exact HgM.out)
    · exact HgMv.out
theorem Zc6 (b c:Nat) (sn:Bool) (A:Option Addr) (l:List Z0i) (x:Z0i) (w:World) (hS:Z1x w b sn A c l) (hs:Srt Z00 l) (hl:(l.length:Int)≤100000000) :
 Calls Tryz.prog 67 #[.pointer (some ⟨b,0,none⟩),.string x] w (Z5f w b sn A l x):=by
 cases hh:has Z00 l x
 · exact Zap b c sn A l x w hS hs hl hh
 · exact Z8t b c sn A l x w hS hs hl hh
def Z4u (w:World) (b:Nat) (sn:Bool) (A:Option Addr) (l:List Z0i) (x:Z0i) (e:Ending) (w':World):Prop:=
 e = .returned (.bool (has Z00 l x))∧∃sn' A' c',Z1x w' b sn' A' c' (drop Z00 l x)∧Fr (Z1d b sn A) w w'∧Z2w w sn A sn' A'
theorem Z94 (b c:Nat) (sn:Bool) (A:Option Addr) (l:List Z0i) (x:Z0i) (w:World) (hS:Z1x w b sn A c l) (hs:Srt Z00 l) (hl:(l.length:Int)≤100000000) (hh:has Z00 l x=false) :
 Calls Tryz.prog 122 #[.pointer (some ⟨b,0,none⟩),.string x] w (Z4u w b sn A l x):=by
 have HS:=hid hS;have HO:=hid hs;clear hS hs;go_enter Tryz.func122,Tryz.ntmps122;(go_wp2_with fail);refine (Z4n b c sn A l x _ (HS.out.new_ (Zm7 _ _)) HO.out (by omega)).mono ?_;rintro e w1 ⟨rfl,hb1⟩;(go_wp2_with fail);go_ret;refine ⟨by rw [hh];rfl,sn,A,c,?_,Fr.of_new ((Zm7 _ _).trans (hb1.mono (by simp))),.inl ⟨rfl,rfl⟩⟩;rw [Zbf hh];exact HS.out.new_ ((Zm7 _ _).trans (hb1.mono (by simp)))
theorem Za5 (b c:Nat) (sn:Bool) (A:Option Addr) (l:List Z0i) (x:Z0i) (w:World) (hS:Z1x w b sn A c l) (hs:Srt Z00 l) (hl:(l.length:Int)≤100000000) (hh:has Z00 l x=true) :
 Calls Tryz.prog 122 #[.pointer (some ⟨b,0,none⟩),.string x] w (Z4u w b sn A l x):=by
 obtain ⟨hrk,hde,_,_⟩:=Zgz Z2a hs hh;have HDE:=hid hde;have HS:=hid hS;have HO:=hid hs;have hb:=hS.lt;clear hS hs hde;go_enter Tryz.func122,Tryz.ntmps122;(go_wp2_with fail);have hSa:=HS.out.new_ (Zm7 w.heap.size w);have HSa:=hid hSa;clear hSa;refine (Z4n b c sn A l x _ HSa.out HO.out (by omega)).mono ?_;rintro e w1 ⟨rfl,hb1⟩;have HS1:=hid (HSa.out.new_ hb1);(have hsz1:w.heap.size≤w1.heap.size:=by have:=hb1.size;first | omega | (simp at this;omega));have HB1:=hid hb1;clear hb1;(go_wp2_with fail);refine (Zc1 b c sn A l _ HS1.out (by omega)).mono ?_;rintro e w2 ⟨rfl,A1,c1,hS2,hF2,hM2⟩;have hsz2:w1.heap.size≤w2.heap.size:=hF2.size
 obtain ⟨g,rfl⟩ : ∃g,A1=some ⟨g,0,none⟩:=by
  rcases Z0b hS2.row with ⟨_,h0,_⟩ | ⟨g,cap,hv,_⟩
  · omega
  · injection hv with hv;exact ⟨g,hv⟩
 have hgb:g≠b:=hS2.row_ne (by decide) _ rfl;obtain ⟨hroom,hcap,hcm⟩:=Z7p hS2.row;unfold maxLen at hcm
 have hgM:Z1d b sn A g∨w.heap.size≤g:=by
  rcases hM2 with ⟨hsn,hA⟩ | ⟨_,g',hg',hA⟩
  · exact .inl (.inr ⟨hsn.symm,_,hA.symm,rfl⟩)
  · injection hA with hA
    injection hA with hA;subst hA;exact .inr (by omega)
 have hgMv:Z2w w sn A false (some ⟨g,0,none⟩):=by
  rcases hM2 with ⟨hsn,hA⟩ | ⟨_,g',hg',hA⟩
  · exact .inl ⟨hsn,hA⟩
  · injection hA with hA
    injection hA with hA;subst hA;exact .inr ⟨rfl,_,by omega,rfl⟩
 have hF:Fr (Z1d b sn A) w w2:=(Fr.of_new ((Zm7 _ _).trans (HB1.out.mono (by simp)))).into hF2 (fun k hk=>.inl (.inl hk));have s0:=hS2.cell0;have HgM:=hid hgM;have HgMv:=hid hgMv;have HF:=hid hF;have HBk:=hid hS2.blk;have HRo:=hid hS2.row;(have hb2:b<w2.heap.size:=by omega);clear hgM hgMv hF hS2 hF2 hM2 hroom;go_wp2_with fail
 go_loopw [7] (fun s wr=>∃i:Nat,s = .int .i64 i∧rank Z00 l x≤i∧i<l.length∧wr.ownsRow 0 132 1 (.slice (some ⟨g,0,none⟩) l.length c1) l.length ((Z3i l (rank Z00 l x) i).flatMap Z0i.cells)∧Fr (· = g) w2 wr) (fun s wr=>l.length - (intOf s).toNat)
 case atStart=>exact ⟨rank Z00 l x,rfl,Zm8 _,hrk,by rw [Zbe];exact HRo.out,Fr.refl _ _⟩
 case round=>
  obtain ⟨i,rfl,hi1,hi2,hown,hfr⟩:=hrel;have hgw:g<wr.heap.size:=(hown.lt g rfl).2;have r0:wr.cell? ⟨b,0,none⟩=some (.slice (some ⟨g,0,none⟩) l.length c1):=(hfr.cell (p:=⟨b,0,none⟩) hb2 (fun h=>hgb h.symm)).trans s0;have fz : ∀o,wr.frozen? ⟨g,o,none⟩=false:=fun o=>hown.frozenAt o;have hbw:b<wr.heap.size:=Zmj wr _ r0;obtain ⟨hrm,_,_⟩:=Z7p hown;have HOW:=hid hown;have HFR:=hid hfr;clear hown hfr;by_cases hlt:i+1<l.length
  · have hrd:=Z0x (A:=some ⟨g,0,none⟩) (c:=c1) (l:=Z3i l (rank Z00 l x) i) Z0i.cells_length (by rw [Z37 l hi1 hi2];exact HOW.out)
    obtain ⟨g',o',hgo,_,hcell⟩:=hrd.at_ (k:=i+1) (by rw [Z37 l hi1 hi2];omega);injection hgo with hgo;injection hgo with hg1 hg2;subst hg1;subst hg2;rw [Zct l hi1 hlt] at hcell;(have q0:wr.cell? ⟨g,(i+1),none⟩=some (.string l[i+1]):=by simpa using hcell 0 _ rfl);obtain ⟨u0,t0⟩:=hrm.cell (i:=i) (by omega);(have b0:(0:Int)≤(i:Int)+1:=by omega);(have b1:(0:Int)≤(i:Int):=by omega);(have b2:(i:Int)<(l.length:Int):=by omega);(have b3:(i:Int)+1<(l.length:Int):=by omega);have v1:IntKind.i64.wrap ((i:Int)+1)=(i:Int)+1:=Zmh _ (by omega);clear hcell hrd hrm;obtain ⟨y,hy⟩ : ∃y,y=l[i+1]:=⟨_,rfl⟩;rw [← hy] at q0;have HY:=hid hy;clear hy;(go_wp2_with fail);refine Z0c (fun w9=>Below wr.heap.size wr w9) [(0,0),(1,0),(2,0),(3,1),(4,0),(5,0),(6,0),(7,0),(8,1),(9,0),(10,0),(11,0),(12,1),(13,0),(14,2)] (by kernel_rfl) (by kernel_rfl) (fun KK hKK=>?_);simp only [Z0v,Zmn,Zme,Zml,Zmg,Zmf,Zmo];(repeat ((first | (refine Z0m ?_ (Or.inl ⟨by rfl,fun w9=>?_⟩) ?_;rotate_left 1;go_simp;with_reducible rfl) | (refine Z0l ?_ (((Zm7 _ _).drew)) (Or.inl ⟨by rfl,fun w9 hw9=>?_⟩) ?_;rotate_left 1;obtain ⟨hc9,hf9⟩:=Z1a hw9;go_simp;with_reducible rfl) | refine Z0m undef (Or.inr ⟨by rfl,rfl⟩) ?_ | refine Z0l undef (((Zm7 _ _).drew)) (Or.inr ⟨by rfl,rfl⟩) ?_);go_frame));refine Z1w (by kernel_rfl) (fun K9 hK9=>?_);go_simp;refine hK9 _ _ ?_;clear hK9 K9;refine Z1b ?_;simp only [Z03];refine hKK _ _ ?_;clear hKK KK;(go_wp2_with fail);go_roundw
    case rel=>
     refine ⟨i+1,by go_num,by omega,by omega,?_,Fr.drew ((HFR.out).setCell (p:=⟨g,i,none⟩) (.inl rfl) (_))⟩;have hst:=((HOW.out).stored (i) (.string y)).1
     have he:setAll ((Z3i l (rank Z00 l x) i).flatMap Z0i.cells) (i) (Z0i.cells y)=(Z3i l (rank Z00 l x) (i+1)).flatMap Z0i.cells:=by
      rw [Z47 Z0i.cells_length (by omega) _ i (by rw [Z37 l hi1 hi2];omega),HY.out,Zcu l hi1 hlt]
     rw [← he];exact hst
    case measure=>simp [intOf]<;>omega
  · have hin:i=l.length - 1:=by omega
    have HIN:=hid hin;(have b1:(0:Int)≤(l.length:Int) - 1:=by omega);(have b2:(l.length:Int) - 1≤(c1:Int):=by omega);(have b3 : ¬c1=0:=by omega);have v1:IntKind.i64.wrap ((l.length:Int) - 1)=(l.length:Int) - 1:=Zmh _ (by omega);(have v2:((l.length:Int) - 1).toNat=l.length - 1:=by omega);(have b4:(1:Int)≤(l.length:Int):=by omega);(have b5:l.length - 1≤c1:=by omega);have f0:wr.frozen? ⟨b,0,none⟩=false:=(HBk.out.fr HFR.out (fun h=>hgb h.symm)).frozen 0;clear hin hrm;(go_wp2_with fail);refine Z0c (fun w9=>Below wr.heap.size wr w9) [(0,0),(1,0),(2,0),(3,0),(4,1),(5,0),(6,0),(7,0),(8,1),(9,0),(10,0),(11,0),(12,0),(13,0),(14,2)] (by kernel_rfl) (by kernel_rfl) (fun KK hKK=>?_);simp only [Z0v,Zmn,Zme,Zml,Zmg,Zmf,Zmo];(repeat ((first | (refine Z0m ?_ (Or.inl ⟨by rfl,fun w9=>?_⟩) ?_;rotate_left 1;go_simp;with_reducible rfl) | (refine Z0l ?_ (((Zm7 _ _).drew)) (Or.inl ⟨by rfl,fun w9 hw9=>?_⟩) ?_;rotate_left 1;obtain ⟨hc9,hf9⟩:=Z1a hw9;go_simp;with_reducible rfl) | refine Z0m undef (Or.inr ⟨by rfl,rfl⟩) ?_ | refine Z0l undef (((Zm7 _ _).drew)) (Or.inr ⟨by rfl,rfl⟩) ?_);go_frame));refine Z1w (by kernel_rfl) (fun K9 hK9=>?_);go_simp;refine hK9 _ _ ?_;clear hK9 K9;refine Z1b ?_;simp only [Z03];refine hKK _ _ ?_;clear hKK KK;(go_wp2_with fail);go_ret;(have hdl:(drop Z00 l x).length=l.length - 1:=by rw [HDE.out];simp;omega);refine ⟨by rw [hh];rfl,false,some ⟨g,0,none⟩,c1,⟨?_,?_⟩,?_,HgMv.out⟩
    · rw [hdl]
      exact (HBk.out.fr HFR.out (fun h=>hgb h.symm)).set_ 0 _
    · rw [hdl]
      refine ownsRow_setCell_other (a:=⟨b,0,none⟩) ?_ (by simpa [Value.ownBlock] using hgb) _;have h1:=HOW.out;rw [HIN.out] at h1;have h2:=Z98 Z0i.cells_length (by omega) h1 (m:=l.length - 1) (by omega) (Z37 l (by omega) (by omega));rw [Zfl l hrk,← HDE.out] at h2;exact h2
    · exact (HF.out.into HFR.out (fun k hk=>by subst hk;exact HgM.out)).drew.setCell (p:=⟨b,0,none⟩) (.inl (.inl rfl)) _
theorem Zfm (b c:Nat) (sn:Bool) (A:Option Addr) (l:List Z0i) (x:Z0i) (w:World) (hS:Z1x w b sn A c l) (hs:Srt Z00 l) (hl:(l.length:Int)≤100000000) :
 Calls Tryz.prog 122 #[.pointer (some ⟨b,0,none⟩),.string x] w (Z4u w b sn A l x):=by
 cases hh:has Z00 l x
 · exact Z94 b c sn A l x w hS hs hl hh
 · exact Za5 b c sn A l x w hS hs hl hh
theorem Zdm (b c:Nat) (sn:Bool) (A:Option Addr) (l:List Z0i) (x:Z0i) (w:World) (hS:Z1x w b sn A c l) (hs:Srt Z00 l) (hl:(l.length:Int)≤1000000000) :
 Calls Tryz.prog 167 #[.pointer (some ⟨b,0,none⟩),.string x] w (Z9d l x w):=by
 have HS:=hid hS;have HO:=hid hs;clear hS hs;go_enter Tryz.func167,Tryz.ntmps167;(go_wp2_with fail);refine (Z4n b c sn A l x _ (HS.out.new_ (Zm7 _ _)) HO.out (by omega)).mono ?_;rintro e w1 ⟨rfl,hb1⟩;(go_wp2_with fail);go_ret2;exact ⟨rfl,(Zm7 _ _).trans (hb1.mono (by simp))⟩
def Zb1 (w:World) (xs:List Z0i) (e:Ending) (w':World):Prop:=
 ∃k,e = .returned (.pointer (some ⟨k,0,none⟩))∧w.heap.size≤k∧∃sn A c,Z1x w' k sn A c (puts Z00 [] xs)∧AIn A (w.heap.size≤·)∧Below w.heap.size w w'
theorem Zho (A:Option Addr) (c:Nat) (xs:List Z0i) (w:World) (hrd:Z18 w 1 Z0i.cells A c xs) (hl:(xs.length:Int)≤10000000) :
 Calls Tryz.prog 64 #[.slice A xs.length c] w (Zb1 w xs):=by
 have HRD:=hid hrd;clear hrd;go_enter Tryz.func64,Tryz.ntmps64;(go_wp2_with fail);obtain ⟨W0,hW0⟩ : ∃W0,W0=w.alloc (.cells #[.slice none 0 0,.bool false] 191):=⟨_,rfl⟩;(have hb0:Below w.heap.size w W0:=by rw [hW0];exact (Zm7 _ _).alloc (Zm8 _) _);have hS0:Z1x W0 w.heap.size false none 0 []:=⟨by rw [hW0];exact Blk.new _ _ _,⟨by simp,.inl ⟨rfl,rfl⟩⟩⟩;rw [← hW0];clear hW0;have HB0:=hid hb0;have HS0:=hid hS0;clear hb0 hS0
 go_loopw [10] (fun s wr=>∃i:Nat,s = .int .i64 i∧i≤xs.length∧∃sn A' c',Z1x wr w.heap.size sn A' c' (puts Z00 [] (xs.take i))∧AIn A' (w.heap.size≤·)∧Below w.heap.size w wr) (fun s wr=>xs.length - (intOf s).toNat)
 case atStart=>exact ⟨0,rfl,Nat.zero_le _,false,none,0,HS0.out,AIn.none_ _,HB0.out⟩
 case round=>
  obtain ⟨i,rfl,hi,sn,A',c',hS,hA',hB⟩:=hrel;have HS:=hid hS;have HA:=hid hA';have HB:=hid hB;clear hS hA' hB;by_cases hlt:i<xs.length
  · obtain ⟨x,hx⟩ : ∃x,x=xs[i]:=⟨_,rfl⟩
    obtain ⟨g,off,rfl,hgs,hcell⟩:=(HRD.out.fr (Fr.of_new (M:=fun _=>False) HB.out) (fun _ _ h=>h)).at_ hlt;rw [← hx] at hcell;(have q0:wr.cell? ⟨g,off+i,none⟩=some (.string x):=by simpa using hcell 0 _ rfl);(have b1:(0:Int)≤(i:Int):=by omega);(have b2:(i:Int)<(xs.length:Int):=by omega);have HX:=hid hx;clear hcell hx;(go_wp2_with fail);have hsr:=Srt.puts Z2a (xs.take i) (Srt.nil (cmp:=Z00))
    have hlen:(((puts Z00 [] (xs.take i)).length:Nat):Int)≤100000000:=by
     have:=Z12 Z2a (xs.take i) (Srt.nil (cmp:=Z00));simp at this;omega
    refine (Zc6 w.heap.size c' sn A' _ x _ (HS.out.new_ (Zm7 _ _)) hsr hlen).mono ?_;rintro e w1 ⟨rfl,sn2,A2,c2,hS2,hF2,hM2⟩
    have hB1:Below w.heap.size w w1:=(HB.out).trans (hF2.below (by have:=HB.out.size;(try simp);omega) (fun k hk hm=>by
     rcases hm with hm | ⟨_,a,ha,hm⟩
     · omega
     · have:=HA.out a ha;omega))
    have hA2:AIn A2 (w.heap.size≤·):=by
     rcases hM2 with ⟨_,rfl⟩ | ⟨_,g2,hg2,rfl⟩
     · exact HA.out
     · intro a ha;cases ha;have:=HB.out.size;(try simp at hg2 ⊢);omega
    have HS2:=hid hS2;have HB1:=hid hB1;have HA2:=hid hA2;clear hS2 hB1 hA2 hF2 hM2 hsr hlen q0;(go_wp2_with fail);go_roundw
    case rel=>
     refine ⟨i+1,by go_num,by omega,sn2,A2,c2,?_,HA2.out,HB1.out⟩;rw [Zn8,Zmc hlt,← HX.out];simp only [Option.toList_some,Z2q];exact HS2.out
    case measure=>simp [intOf]<;>omega
  · have hie:i=xs.length:=by omega
    subst hie;(go_wp2_with fail);go_ret;refine ⟨w.heap.size,rfl,Zm8 _,sn,A',c',?_,HA.out,HB.out⟩;have:=HS.out;rwa [Zmt] at this
end
end Go.Proofs.YtfidcfjcmlgkbaaGreat
