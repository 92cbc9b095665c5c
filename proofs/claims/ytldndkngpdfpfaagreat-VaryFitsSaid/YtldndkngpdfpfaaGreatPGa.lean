/-
  Texts put together: Plain, Mem, Open.
-/
import Derived.BigQuiet
import Derived.Deep.AppendLies
import Derived.Deep.CutRange
import Derived.Deep.RegionHeld3
import Derived.Deep.Strs
import Derived.Laws.EntriesVeiled
import Derived.Lib.Hide
import Derived.Lib.SlBytesRow
import Derived.LoopIn
import Derived.LoopNIn
import Derived.OwnWalkIn
import Derived.ProofKit
import Derived.RangeFuncBound
import Derived.RangeFuncNested
import Derived.Shelf.Abstract
import Derived.StillTailTactics
import Derived.TacticsInMore
import Derived.WalkLawsBesides
import Derived.WalkSpells
namespace Go.Proofs.YtldndkngpdfpfaaGreat
open Lib (hid)
section
open Go.RowKit Go.Shelf Go
abbrev Zi2:=@Below.refl
abbrev Zi3:=@Nat.le_refl
abbrev Zi4:=@decide_eq_false
abbrev Zi5:=@List.filterMap_nil
abbrev Zi6:=@World.rangeAt_setCells_same
abbrev Zi7:=@List.getElem?_cons_succ
abbrev Zi8:=@List.getElem?_cons_zero
abbrev Zi9:=@List.getElem?_toArray
abbrev Zia:=@Nat.lt_of_lt_of_le
abbrev Zib:=@List.filterMap_cons
abbrev Zic:=@List.getElem?_eq_getElem
abbrev Zid:=@World.size_alloc
abbrev Zie:=@decide_eq_true
abbrev Zif:=@Option.map_some
abbrev Zig:=@List.getElem?_eq_some_iff
abbrev Zih:=@IntWalk.i64_in
abbrev Zii:=@World.news_of_block
abbrev Zij:=@List.mem_cons
abbrev Zik:=@List.flatMap_append
abbrev Zil:=@List.map_append
abbrev Zim:=@List.length_append
abbrev Zin:=@List.getElem_mem
abbrev Zio:=@List.not_mem_nil
abbrev Zip:=@Nat.le_trans
abbrev Ziq:=@List.length_map
abbrev Zir:=@Bool.and_eq_true
abbrev Zis:=@List.take_length
abbrev Zit:=@List.mem_singleton
abbrev Ziu:=@Nat.zero_add
abbrev Ziv:=@Classical.byContradiction
abbrev Ziw:=@List.drop_eq_getElem_cons
abbrev Zix:=@List.length_eq_zero_iff
abbrev Ziy:=@World.block_lt_of_cell?
abbrev Ziz:=@List.getElem?_append_left
abbrev Zj0:=@List.mem_append
abbrev Zj1:=@List.length_cons
abbrev Zj2:=@List.any_eq_true
abbrev Zj3:=@List.getElem?_append_right
abbrev Zj4:=@List.length_take
abbrev Zj5:=@List.flatMap_cons
abbrev Zj6:=@List.nil_append
abbrev Zj7:=@List.all_eq_true
abbrev Zj8:=@List.drop_length
abbrev Zj9:=@List.take_add_one
abbrev Zja:=@List.mem_cons_self
abbrev Zjb:=@List.mem_cons_of_mem
abbrev Zjc:=@decide_eq_true_eq
abbrev Zjd:=@of_decide_eq_true
abbrev Zje:=@List.cons_append
abbrev Zjf:=@Bool.eq_iff_iff
abbrev Zjg:=@Bool.or_eq_true
end
set_option maxRecDepth 100000
set_option maxHeartbeats 32000000
section
structure TC {α:Type} (cmp:α→α→Int):Prop where
 refl : ∀x,cmp x x=0
 symm : ∀x y,cmp x y<0↔0<cmp y x
 trans : ∀x y z,cmp x y≤0→cmp y z≤0→cmp x z≤0
section
variable {α:Type} {cmp:α→α→Int}
theorem TC.eq_symm (h:TC cmp) {x y:α} (e:cmp x y=0):cmp y x=0:=by
 have a:=h.symm x y;have b:=h.symm y x;omega
theorem TC.lt_of_lt_of_le (h:TC cmp) {x y z:α} (a:cmp x y<0) (b:cmp y z≤0):cmp x z<0:=by
 have c:=h.symm x z;have d:=h.symm z x;have e:=h.symm x y;have g:=h.symm y x;by_cases hz:cmp x z<0
 · exact hz
 · have t:=h.trans y z x b (by omega)
   omega
theorem TC.lt_of_le_of_lt (h:TC cmp) {x y z:α} (a:cmp x y≤0) (b:cmp y z<0):cmp x z<0:=by
 have c:=h.symm x z;have d:=h.symm z x;have e:=h.symm y z;have g:=h.symm z y;by_cases hz:cmp x z<0
 · exact hz
 · have t:=h.trans z x y (by omega) a
   omega
theorem TC.lt_trans (h:TC cmp) {x y z:α} (a:cmp x y<0) (b:cmp y z<0):cmp x z<0:=h.lt_of_lt_of_le a (by omega)
def Srt (cmp:α→α→Int) (l:List α):Prop:=l.Pairwise (fun a b=>cmp a b<0)
def has (cmp:α→α→Int) (l:List α) (x:α):Bool:=l.any (fun y=>cmp y x == 0)
def below (cmp:α→α→Int) (l:List α) (x:α):List α:=l.filter (fun y=>decide (cmp y x<0))
def Z3b (cmp:α→α→Int) (l:List α) (x:α):List α:=l.filter (fun y=>decide (0<cmp y x))
def rank (cmp:α→α→Int) (l:List α) (x:α):Nat:=(below cmp l x).length
def put (cmp:α→α→Int) (l:List α) (x:α):List α:=if has cmp l x then l else below cmp l x++x :: Z3b cmp l x
def drop (cmp:α→α→Int) (l:List α) (x:α):List α:=l.filter (fun y=>!(cmp y x == 0))
def puts (cmp:α→α→Int) (l xs:List α):List α:=xs.foldl (put cmp) l
theorem Za2 {l:List α} {x:α}:has cmp l x=true↔∃y∈l,cmp y x=0:=by simp [has]
theorem Z6h {l:List α} {x:α}:has cmp l x=false↔∀y∈l,cmp y x≠0:=by simp [has]
theorem Z9s {l:List α} {x:α} {k:Nat} (h1 : ∀i,(h:i<l.length)→i<k→cmp l[i] x<0) (h2 : ∀i,(h:i<l.length)→k≤i→0<cmp l[i] x) :
 below cmp l x=l.take k∧Z3b cmp l x=l.drop k∧has cmp l x=false:=by
 have e1 : ∀y∈l.take k,cmp y x<0:=by
  intro y hy;obtain ⟨i,hi,rfl⟩:=List.getElem_of_mem hy;rw [List.getElem_take];simp at hi;exact h1 i (by omega) (by omega)
 have e2 : ∀y∈l.drop k,0<cmp y x:=by
  intro y hy;obtain ⟨i,hi,rfl⟩:=List.getElem_of_mem hy;rw [List.getElem_drop];simp at hi;exact h2 (k+i) (by omega) (by omega)
 refine ⟨?_,?_,?_⟩
 · unfold below
   conv=>lhs;rw [← List.take_append_drop k l]
   rw [List.filter_append,List.filter_eq_self.2 (fun y hy=>by simpa using e1 y hy),List.filter_eq_nil_iff.2 (fun y hy=>by have:=e2 y hy;simp;omega),List.append_nil]
 · unfold Z3b
   conv=>lhs;rw [← List.take_append_drop k l]
   rw [List.filter_append,(List.filter_eq_self (l:=l.drop k)).2 (fun y hy=>by simpa using e2 y hy),List.filter_eq_nil_iff.2 (fun y hy=>by have:=e1 y hy;simp;omega),Zj6]
 · rw [Z6h]
   intro y hy;rw [← List.take_append_drop k l] at hy;rcases Zj0.1 hy with hy | hy
   · have:=e1 y hy;omega
   · have:=e2 y hy;omega
theorem Srt.lt {l:List α} (h:Srt cmp l) {i j:Nat} (hij:i<j) (hj:j<l.length):cmp (l[i]'(by omega)) l[j]<0:=
 List.pairwise_iff_getElem.1 h i j (by omega) hj hij
theorem Z7q (t:TC cmp) {l:List α} (hs:Srt cmp l) {x:α} {k:Nat} (hk:k<l.length) (e:cmp l[k] x=0) :
 below cmp l x=l.take k∧Z3b cmp l x=l.drop (k+1)∧has cmp l x=true∧drop cmp l x=l.take k++l.drop (k+1):=by
 have e1 : ∀y∈l.take k,cmp y x<0:=by
  intro y hy;obtain ⟨i,hi,rfl⟩:=List.getElem_of_mem hy;rw [List.getElem_take];simp at hi;exact t.lt_of_lt_of_le (hs.lt (by omega) hk) (by omega)
 have e2 : ∀y∈l.drop (k+1),0<cmp y x:=by
  intro y hy;obtain ⟨i,hi,rfl⟩:=List.getElem_of_mem hy;rw [List.getElem_drop];simp at hi;have h1:cmp x (l[k+1+i]'(by omega))<0:=t.lt_of_le_of_lt (y:=l[k]) (by have:=t.eq_symm e;omega) (hs.lt (by omega) (by omega));exact (t.symm _ _).1 h1
 have hl:l=l.take k++l[k] :: l.drop (k+1):=by
  rw [List.getElem_cons_drop,List.take_append_drop]
 refine ⟨?_,?_,?_,?_⟩
 · unfold below
   conv=>lhs;rw [hl]
   rw [List.filter_append,List.filter_cons,List.filter_eq_self.2 (fun y hy=>by simpa using e1 y hy),List.filter_eq_nil_iff.2 (fun y hy=>by have:=e2 y hy;simp;omega)];simp [e]
 · unfold Z3b
   conv=>lhs;rw [hl]
   rw [List.filter_append,List.filter_cons,List.filter_eq_nil_iff.2 (fun y hy=>by have:=e1 y hy;simp;omega),(List.filter_eq_self (l:=l.drop (k+1))).2 (fun y hy=>by simpa using e2 y hy)];simp [e]
 · rw [Za2];exact ⟨_,Zin hk,e⟩
 · unfold drop
   conv=>lhs;rw [hl]
   rw [List.filter_append,List.filter_cons,List.filter_eq_self.2 (fun y hy=>by have:=e1 y hy;simp;omega),(List.filter_eq_self (l:=l.drop (k+1))).2 (fun y hy=>by have:=e2 y hy;simp;omega)];simp [e]
theorem Z9a {l:List α} {x:α} {k:Nat} (hk:k≤l.length) (h1 : ∀i,(h:i<l.length)→i<k→cmp l[i] x<0) (h2 : ∀i,(h:i<l.length)→k≤i→0<cmp l[i] x):rank cmp l x=k:=by
 unfold rank;rw [(Z9s h1 h2).1];simp;omega
theorem Z9b (t:TC cmp) {l:List α} (hs:Srt cmp l) {x:α} {k:Nat} (hk:k<l.length) (e:cmp l[k] x=0):rank cmp l x=k:=by
 unfold rank;rw [(Z7q t hs hk e).1];simp;omega
theorem Zh7 (t:TC cmp) {l:List α} (hs:Srt cmp l) (x:α) :
 (has cmp l x=false∧l=below cmp l x++Z3b cmp l x)∨(∃y,has cmp l x=true∧cmp y x=0∧l=below cmp l x++y :: Z3b cmp l x):=by
 induction l with
 | nil=>exact .inl ⟨rfl,rfl⟩
 | cons a r ih=>
   have hr:Srt cmp r:=(List.pairwise_cons.1 hs).2;have ha : ∀y∈r,cmp a y<0:=(List.pairwise_cons.1 hs).1;by_cases h1:cmp a x<0
   · rcases ih hr with ⟨h2,h3⟩ | ⟨y,h2,h3,h4⟩
     · left
       refine ⟨?_,?_⟩
       · simp only [has,List.any_cons,Bool.or_eq_false_iff];exact ⟨by simp;omega,h2⟩
       · have e1:below cmp (a :: r) x=a :: below cmp r x:=by simp [below,h1]
         (have e2:Z3b cmp (a :: r) x=Z3b cmp r x:=by unfold Z3b;rw [List.filter_cons,if_neg (by simp;omega)]);rw [e1,e2,Zje,← h3]
     · right
       refine ⟨y,?_,h3,?_⟩
       · simp only [has,List.any_cons,Zjg];exact .inr h2
       · have e1:below cmp (a :: r) x=a :: below cmp r x:=by simp [below,h1]
         (have e2:Z3b cmp (a :: r) x=Z3b cmp r x:=by unfold Z3b;rw [List.filter_cons,if_neg (by simp;omega)]);rw [e1,e2,Zje,← h4]
   · have hall : ∀y∈r,0<cmp y x:=fun y hy=>(t.symm x y).1 (t.lt_of_le_of_lt (y:=a) (by have:=t.symm a x;have:=t.symm x a;omega) (ha y hy))
     have b0:below cmp r x = []:=List.filter_eq_nil_iff.2 (fun y hy=>by have:=hall y hy;simp;omega);have a0:Z3b cmp r x=r:=List.filter_eq_self.2 (fun y hy=>by simpa using hall y hy);have n0:has cmp r x=false:=Z6h.2 (fun y hy=>by have:=hall y hy;omega);(have e1:below cmp (a :: r) x = []:=by unfold below;rw [List.filter_cons,if_neg (by simpa using h1)];exact b0);by_cases h2:cmp a x=0
     · right
       refine ⟨a,Za2.2 ⟨a,by simp,h2⟩,h2,?_⟩;(have e2:Z3b cmp (a :: r) x=r:=by unfold Z3b;rw [List.filter_cons,if_neg (by simp;omega)];exact a0);rw [e1,e2];rfl
     · left
       refine ⟨?_,?_⟩
       · simp only [has,List.any_cons,Bool.or_eq_false_iff];exact ⟨by simpa using h2,n0⟩
       · have e2:Z3b cmp (a :: r) x=a :: r:=by unfold Z3b;rw [List.filter_cons,if_pos (by simp;omega)];exact congrArg _ a0
         rw [e1,e2];rfl
theorem Z8y {l:List α} {x y:α}:y∈below cmp l x↔y∈l∧cmp y x<0:=by simp [below]
theorem Z8x {l:List α} {x y:α}:y∈Z3b cmp l x↔y∈l∧0<cmp y x:=by simp [Z3b]
theorem Srt.put (t:TC cmp) {l:List α} (hs:Srt cmp l) (x:α):Srt cmp (put cmp l x):=by
 unfold YtldndkngpdfpfaaGreat.put
 split
 · exact hs
 · refine List.pairwise_append.2 ⟨hs.sublist List.filter_sublist,List.pairwise_cons.2 ⟨fun y hy=>?_,hs.sublist List.filter_sublist⟩,fun y hy z hz=>?_⟩
   · exact (t.symm x y).2 (Z8x.1 hy).2
   · rcases Zij.1 hz with rfl | hz
     · exact (Z8y.1 hy).2
     · exact t.lt_trans (Z8y.1 hy).2 ((t.symm x z).2 (Z8x.1 hz).2)
theorem Srt.nil:Srt cmp ([]:List α):=List.Pairwise.nil
theorem Srt.puts (t:TC cmp) : ∀(xs:List α) {l:List α},Srt cmp l→Srt cmp (puts cmp l xs)
 | [],_,h=>h
 | x :: xs,_,h=>Srt.puts t xs (h.put t x)
theorem Z99 (l xs:List α) (x:α):puts cmp l (xs ++ [x])=put cmp (puts cmp l xs) x:=by simp [puts]
theorem Z52 {l:List α} {x:α} (t:TC cmp) (hs:Srt cmp l) (h:has cmp l x=false):(below cmp l x).length+(Z3b cmp l x).length=l.length:=by
 rcases Zh7 t hs x with ⟨_,e⟩ | ⟨y,h',_⟩
 · conv=>rhs;rw [e]
   simp
 · rw [h] at h';cases h'
theorem Z7w (t:TC cmp) {l:List α} (hs:Srt cmp l) (x:α):(put cmp l x).length≤l.length+1:=by
 unfold YtldndkngpdfpfaaGreat.put;by_cases h:has cmp l x=true
 · rw [if_pos h];omega
 · rw [if_neg h]
   have:=Z52 t hs (x:=x) (by simpa using h);simp;omega
theorem Z3i (t:TC cmp) : ∀(xs:List α) {l:List α},Srt cmp l→(puts cmp l xs).length≤l.length+xs.length
 | [],_,_=>by simp [puts]
 | x :: xs,l,h=>by
   have h1:=Z3i t xs (h.put t x);have h2:=Z7w t h x;have e:puts cmp l (x :: xs)=puts cmp (put cmp l x) xs:=rfl;rw [e];simp;omega
theorem Zaf (l:List α) (x:α):rank cmp l x≤l.length:=List.length_filter_le _ _
theorem Zak {l B A:List α} (e:l=B++A):l.take B.length=B:=by subst e;simp
theorem Za0 {l B A:List α} (e:l=B++A):l.drop B.length=A:=by subst e;simp
theorem Z7e {l B A:List α} {y:α} (e:l=B++y :: A):l[B.length]? = some y:=by subst e;simp
theorem Zb8 (t:TC cmp) {l:List α} (hs:Srt cmp l) {x:α} (h:has cmp l x=false):put cmp l x=l.take (rank cmp l x)++x :: l.drop (rank cmp l x):=by
 rcases Zh7 t hs x with ⟨_,e⟩ | ⟨y,h',_⟩
 · have e1:l.take (rank cmp l x)=below cmp l x:=Zak e
   have e2:l.drop (rank cmp l x)=Z3b cmp l x:=Za0 e;rw [e1,e2];unfold YtldndkngpdfpfaaGreat.put;rw [if_neg (by rw [h];simp)]
 · rw [h] at h';cases h'
theorem Zad {l:List α} {x:α} (h:has cmp l x=true):put cmp l x=l:=by unfold YtldndkngpdfpfaaGreat.put;rw [if_pos h]
theorem Z4h (t:TC cmp) {l:List α} (hs:Srt cmp l) {x:α} (h:has cmp l x=false):(put cmp l x).length=l.length+1:=by
 rw [Zb8 t hs h];have:=Zaf (cmp:=cmp) l x;simp;omega
theorem Zh0 (t:TC cmp) {l:List α} (hs:Srt cmp l) {x:α} (h:has cmp l x=true):rank cmp l x<l.length∧drop cmp l x=l.take (rank cmp l x)++l.drop (rank cmp l x+1)∧∃hk:rank cmp l x<l.length,cmp l[rank cmp l x] x=0:=by
 rcases Zh7 t hs x with ⟨h',_⟩ | ⟨y,_,ey,e⟩
 · rw [h] at h';cases h'
 · have hk:rank cmp l x<l.length:=by
    have h2:l[rank cmp l x]? = some y:=Z7e e;exact (Zig.1 h2).1
   have hy:l[rank cmp l x]=y:=by
    have h1:l[rank cmp l x]? = some y:=Z7e e;rw [Zic hk] at h1;exact Option.some.inj h1
   (have e0:cmp l[rank cmp l x] x=0:=by rw [hy];exact ey);exact ⟨hk,(Z7q t hs hk e0).2.2.2,hk,e0⟩
def Z1g (l:List α) (x:α) (i:Nat):List α:=l.take i++(l ++ [x]).getD i x :: l.drop i
theorem Z1h (l:List α) (x:α) {i:Nat} (h:i≤l.length):(Z1g l x i).length=l.length+1:=by simp [Z1g];omega
theorem Z58 (l:List α) (x:α):Z1g l x l.length=l ++ [x]:=by simp [Z1g]
theorem Z5t (l:List α) (x:α) {j:Nat} (h:j<l.length) (h':j<(Z1g l x (j+1)).length):(Z1g l x (j+1))[j]=l[j]:=by
 apply Option.some.inj;rw [← Zic];unfold Z1g;rw [Ziz (by simp;omega)];simp [h]
theorem Z5u (l:List α) (x:α) {j:Nat} (h:j<l.length):(Z1g l x (j+1)).set (j+1) l[j]=Z1g l x j:=by
 unfold Z1g;rw [List.set_append_right _ _ (by simp;omega)];(have e:(j+1 - (l.take (j+1)).length)=0:=by simp;omega);rw [e,List.set_cons_zero,List.take_succ_eq_append_getElem h,List.append_assoc];(have e2:(l ++ [x]).getD j x=l[j]:=by rw [List.getD_eq_getElem?_getD,Ziz h,Zic h];rfl);rw [e2,← List.getElem_cons_drop h];rfl
theorem Z6u (l:List α) (x:α) {k:Nat} (h:k≤l.length):(Z1g l x k).set k x=l.take k++x :: l.drop k:=by
 unfold Z1g;rw [List.set_append_right _ _ (by simp;omega)];(have e:(k - (l.take k).length)=0:=by simp;omega);rw [e,List.set_cons_zero]
end
def Z12 (a b:Int):Int:=if a<b then -1 else if b<a then 1 else 0
theorem Z6w:TC Z12:=by
 constructor
 · intro x;simp [Z12]
 · intro x y;simp only [Z12];split<;>split<;>simp<;>(try split)<;>omega
 · intro x y z;simp only [Z12];intro h1 h2;split at h1<;>split at h2<;>(try split at h1)<;>(try split at h2)<;>split<;>(try split)<;>omega
theorem Z6b {a b:Int}:Z12 a b=0↔a=b:=by simp only [Z12];split<;>(try split)<;>omega
theorem Z1d : ∀x:List UInt8,Op.bytesLess x x=false
 | []=>rfl
 | a :: x=>by simp [Op.bytesLess,Z1d x]
theorem Z39 : ∀{x y z:List UInt8},Op.bytesLess x y=true→Op.bytesLess y z=true→Op.bytesLess x z=true
 | _,[],_,h,_=>by simp [Op.bytesLess] at h
 | _,_ :: _,[],_,h=>by simp [Op.bytesLess] at h
 | [],_ :: _,_ :: _,_,_=>by simp [Op.bytesLess]
 | a :: x,b :: y,c :: z,h1,h2=>by
   simp only [Op.bytesLess,Zjg,Zir,Zjc,beq_iff_eq] at h1 h2 ⊢;rcases h1 with h1 | ⟨rfl,h1⟩
   · rcases h2 with h2 | ⟨rfl,h2⟩
     · exact .inl (UInt8.lt_trans h1 h2)
     · exact .inl h1
   · rcases h2 with h2 | ⟨rfl,h2⟩
     · exact .inl h2
     · exact .inr ⟨rfl,Z39 h1 h2⟩
theorem Z47 : ∀(x y:List UInt8),Op.bytesLess x y=false→Op.bytesLess y x=false→x=y
 | [],[],_,_=>rfl
 | [],_ :: _,h,_=>by simp [Op.bytesLess] at h
 | _ :: _,[],_,h=>by simp [Op.bytesLess] at h
 | a :: x,b :: y,h1,h2=>by
   simp only [Op.bytesLess,Bool.or_eq_false_iff,decide_eq_false_iff_not,Bool.and_eq_false_iff,beq_eq_false_iff_ne] at h1 h2;obtain ⟨h1,h3⟩:=h1;obtain ⟨h2,h4⟩:=h2
   have e:a=b:=by
    apply UInt8.toNat_inj.1;simp only [UInt8.lt_iff_toNat_lt] at h1 h2;omega
   subst e;rw [Z47 x y (h3.resolve_left (fun h=>h rfl)) (h4.resolve_left (fun h=>h rfl))]
theorem Z69 {x y:List UInt8} (h:Op.bytesLess x y=true):Op.bytesLess y x=false:=by
 cases e:Op.bytesLess y x
 · rfl
 · have:=Z39 h e;rw [Z1d] at this;cases this
def Z26 (a b:ByteArray):Int:=if Op.bytesLess a.toList b.toList=true then -1 else if a.toList=b.toList then 0 else 1
theorem Zgo:TC Z26:=by
 have key : ∀a b:ByteArray,(Z26 a b = -1∧Op.bytesLess a.toList b.toList=true∧Op.bytesLess b.toList a.toList=false∧a.toList≠b.toList)∨
  (Z26 a b=0∧Op.bytesLess a.toList b.toList=false∧Op.bytesLess b.toList a.toList=false∧a.toList=b.toList)∨
  (Z26 a b=1∧Op.bytesLess a.toList b.toList=false∧Op.bytesLess b.toList a.toList=true∧a.toList≠b.toList):=by
  intro a b;unfold Z26;cases h1:Op.bytesLess a.toList b.toList
  · cases h2:Op.bytesLess b.toList a.toList
    · have e:=Z47 _ _ h1 h2
      simp [e]
    · have hne:a.toList≠b.toList:=fun e=>by rw [e,Z1d] at h2;cases h2
      simp [hne]
  · have h2:=Z69 h1
    (have hne:a.toList≠b.toList:=fun e=>by rw [e,Z1d] at h1;cases h1);simp [h2,hne]
 constructor
 · intro x;simp [Z26,Z1d]
 · intro x y
   rcases key x y with ⟨e,a,b,c⟩ | ⟨e,a,b,c⟩ | ⟨e,a,b,c⟩<;>rcases key y x with ⟨e',a',b',c'⟩ | ⟨e',a',b',c'⟩ | ⟨e',a',b',c'⟩<;>rw [e,e']<;>simp_all
 · intro x y z h1 h2
   rcases key x y with ⟨e,a,b,c⟩ | ⟨e,a,b,c⟩ | ⟨e,a,b,c⟩<;>rcases key y z with ⟨e',a',b',c'⟩ | ⟨e',a',b',c'⟩ | ⟨e',a',b',c'⟩<;>rw [e] at h1<;>rw [e'] at h2<;>(try omega)
   · have:=Z39 a a';unfold Z26;rw [if_pos this];omega
   · rw [c'] at a;unfold Z26;rw [if_pos a];omega
   · rw [← c] at a';unfold Z26;rw [if_pos a'];omega
   · unfold Z26;rw [c,c',if_neg (by rw [Z1d];simp),if_pos rfl];omega
theorem toList_inj {a b:ByteArray} (h:a.toList=b.toList):a=b:=by
 have e : ∀x:ByteArray,x.toList=x.data.toList:=Lib.toList_data;rw [e,e] at h;cases a;cases b;simp only [ByteArray.mk.injEq];exact Array.toList_inj.1 h
theorem Zcs {a b:ByteArray}:Z26 a b=0↔a=b:=by
 constructor
 · intro h
   unfold Z26 at h
   split at h
   · omega
   · split at h
     · exact toList_inj ‹_›
     · omega
 · rintro rfl;simp [Z26,Z1d]
def Z0c (a b:Int):Int:=if a=0 then b else a
theorem Z2g {α β γ:Type} {f:α→β} {g:α→γ} {c1:β→β→Int} {c2:γ→γ→Int} (h1:TC c1) (h2:TC c2):TC (fun x y=>Z0c (c1 (f x) (f y)) (c2 (g x) (g y))):=by
 constructor
 · intro x;simp [Z0c,h1.refl,h2.refl]
 · intro x y
   have a:=h1.symm (f x) (f y);have b:=h1.symm (f y) (f x);have c:=h2.symm (g x) (g y);simp only [Z0c]
   split<;>split<;>omega
 · intro x y z e1 e2
   simp only [Z0c] at e1 e2 ⊢;by_cases p:c1 (f x) (f y)=0
   · rw [if_pos p] at e1
     by_cases q:c1 (f y) (f z)=0
     · rw [if_pos q] at e2
       have r:c1 (f x) (f z)=0:=by
        have r1:=h1.trans (f x) (f y) (f z) (by omega) (by omega);have r2:=h1.trans (f z) (f y) (f x) (by have:=h1.eq_symm q;omega) (by have:=h1.eq_symm p;omega);have a:=h1.symm (f x) (f z);have b:=h1.symm (f z) (f x);omega
       rw [if_pos r];exact h2.trans _ _ _ e1 e2
     · rw [if_neg q] at e2
       have:=h1.lt_of_le_of_lt (x:=f x) (y:=f y) (z:=f z) (by omega) (by omega);rw [if_neg (by omega)];omega
   · rw [if_neg p] at e1
     have hq:c1 (f y) (f z)≤0:=by
      by_cases q:c1 (f y) (f z)=0
      · omega
      · rw [if_neg q] at e2;exact e2
     have:=h1.lt_of_lt_of_le (x:=f x) (y:=f y) (z:=f z) (by omega) hq;rw [if_neg (by omega)];omega
structure Sym where
 kind:Int
 text:ByteArray
 n:Int
theorem Sym.ext' {a b:Sym} (h1:a.kind=b.kind) (h2:a.text=b.text) (h3:a.n=b.n):a=b:=by cases a;cases b;simp_all
instance:DecidableEq Sym:=fun a b=>decidable_of_iff (a.kind=b.kind∧a.text=b.text∧a.n=b.n) ⟨fun ⟨h1,h2,h3⟩=>Sym.ext' h1 h2 h3,fun h=>by subst h;exact ⟨rfl,rfl,rfl⟩⟩
instance:Inhabited Sym:=⟨⟨0,⟨#[]⟩,0⟩⟩
def Z1z (a b:Sym):Int:=Z0c (Z12 a.kind b.kind) (Z0c (Z26 a.text b.text) (Z12 a.n b.n))
theorem Z6x:TC Z1z:=Z2g (f:=Sym.kind) (g:=fun s:Sym=>(s.text,s.n)) (c2:=fun x y=>Z0c (Z26 x.1 y.1) (Z12 x.2 y.2)) Z6w
 (Z2g (f:=fun x:ByteArray×Int=>x.1) (g:=fun x:ByteArray×Int=>x.2) Zgo Z6w)
theorem Zct {a b:Sym}:Z1z a b=0↔a=b:=by
 constructor
 · intro h
   simp only [Z1z,Z0c] at h
   split at h
   · split at h
     · exact Sym.ext' (Z6b.1 ‹_›) (Zcs.1 ‹_›) (Z6b.1 h)
     · exact absurd h ‹_›
   · exact absurd h ‹_›
 · rintro rfl;exact Z6x.refl _
end
section
open Go.RowKit
theorem Z0e {W w1:World} (hb:Below W.heap.size W w1):(∀b o,b<W.heap.size→w1.cell? ⟨b,o,none⟩=W.cell? ⟨b,o,none⟩)∧(∀b o,b<W.heap.size→w1.frozen? ⟨b,o,none⟩=W.frozen? ⟨b,o,none⟩):=
 ⟨fun b o h=>hb.cell (p:=⟨b,o,none⟩) h,fun b o h=>hb.frozen (p:=⟨b,o,none⟩) h⟩
theorem Below.drewN' {B:Nat} {a w:World} (h:Below B a w) (n:Nat):Below B a (w.drewN n):=⟨h.os,h.tape,h.output,h.size,h.block⟩
theorem Below.al {B:Nat} {a w:World} (h:Below B a w) (o:Obj) (hB:B≤w.heap.size:=by first | omega | (simp;done) | (simp;omega)):Below B a (w.alloc o):=h.alloc hB o
theorem Below.sc {B:Nat} {a w:World} {p:Addr} (h:Below B a w) (u:Value) (hB:B≤p.block:=by first | omega | (simp;done) | (simp;omega)):Below B a (w.setCell p u):=h.setCell hB u
structure Fr (M:Nat→Prop) (w w':World):Prop where
 os:w'.os=w.os
 tape:w'.tape=w.tape
 output:w'.output=w.output
 size:w.heap.size≤w'.heap.size
 block : ∀k,k<w.heap.size→¬M k→w'.heap[k]? = w.heap[k]?
section
variable {M M':Nat→Prop} {a b c w w':World}
theorem Fr.refl (M:Nat→Prop) (w:World):Fr M w w:=⟨rfl,rfl,rfl,Zi3 _,fun _ _ _=>rfl⟩
theorem Fr.trans (h:Fr M a b) (k:Fr M b c):Fr M a c:=
 ⟨k.os.trans h.os,k.tape.trans h.tape,k.output.trans h.output,Zip h.size k.size,fun i hi hn=>(k.block i (Zia hi h.size) hn).trans (h.block i hi hn)⟩
theorem Fr.mono (h:Fr M a b) (hm : ∀k,k<a.heap.size→M k→M' k):Fr M' a b:=⟨h.os,h.tape,h.output,h.size,fun k hk hn=>h.block k hk (fun h=>hn (hm k hk h))⟩
theorem Fr.of_new (h:Below a.heap.size a b):Fr M a b:=⟨h.os,h.tape,h.output,h.size,fun k hk _=>h.block k hk⟩
theorem Fr.below {B:Nat} (h:Fr M a b) (hB:B≤a.heap.size) (hm : ∀k,k<B→¬M k):Below B a b:=⟨h.os,h.tape,h.output,h.size,fun k hk=>h.block k (by omega) (hm k hk)⟩
theorem Fr.alloc (h:Fr M a b) (o:Obj):Fr M a (b.alloc o):=
 ⟨h.os,h.tape,h.output,Zip h.size (by simp),fun k hk hn=>(Below.heap_alloc b o k (Zia hk h.size)).trans (h.block k hk hn)⟩
theorem Fr.drew (h:Fr M a b):Fr M a b.drew:=⟨h.os,h.tape,h.output,h.size,h.block⟩
theorem Fr.setCell (h:Fr M a b) {p:Addr} (hp:M p.block∨a.heap.size≤p.block) (u:Value):Fr M a (b.setCell p u):=
 ⟨h.os,h.tape,h.output,by simpa [World.setCell] using h.size,fun k hk hn=>(Below.heap_setCell b p u k (by
  rintro rfl;rcases hp with hp | hp
  · exact hn hp
  · omega)).trans (h.block k hk hn)⟩
theorem Fr.grown {row:Option Nat} (h:Fr M a b) (hg:b.grownBy c row) (hr : ∀k,row=some k→M k∨a.heap.size≤k):Fr M a c:=
 ⟨hg.os.trans h.os,hg.tape.trans h.tape,hg.output.trans h.output,Zip h.size hg.size,fun k hk hn=>(hg.block k (Zia hk h.size) (fun e=>by
  rcases hr k e.symm with h' | h'
  · exact hn h'
  · omega)).trans (h.block k hk hn)⟩
theorem Fr.into (h:Fr M a b) (k:Fr M' b c) (hm : ∀i,M' i→M i∨a.heap.size≤i):Fr M a c:=
 ⟨k.os.trans h.os,k.tape.trans h.tape,k.output.trans h.output,Zip h.size k.size,fun i hi hn=>(k.block i (Zia hi h.size) (fun hM=>by
  rcases hm i hM with h' | h'
  · exact hn h'
  · omega)).trans (h.block i hi hn)⟩
theorem Fr.cell (h:Fr M w w') {p:Addr} (hp:p.block<w.heap.size) (hn : ¬M p.block):w'.cell? p=w.cell? p:=World.cell?_of_block (h.block _ hp hn)
end
def Blk (w:World) (g:Nat) (t:TypeId) (cs:Array Value):Prop:=w.heap[g]? = some (.cells cs t (0,0))
section
variable {w w':World} {g:Nat} {t:TypeId} {cs:Array Value}
theorem Blk.lt (h:Blk w g t cs):g<w.heap.size:=by
 rcases Nat.lt_or_ge g w.heap.size with hlt | hge
 · exact hlt
 · unfold Blk at h;rw [Array.getElem?_eq_none hge] at h;cases h
theorem Blk.cell (h:Blk w g t cs) (i:Nat):w.cell? ⟨g,i,none⟩=cs[i]?:=cell_of_row w g i cs t (0,0) h
theorem Blk.c1 {v0:Value} (h:Blk w g t #[v0]):w.cell? ⟨g,0,none⟩=some v0:=(h.cell 0).trans rfl
theorem Blk.c3 {v0 v1 v2:Value} (h:Blk w g t #[v0,v1,v2]):w.cell? ⟨g,0,none⟩=some v0∧w.cell? ⟨g,1,none⟩=some v1∧w.cell? ⟨g,2,none⟩=some v2:=⟨(h.cell 0).trans rfl,(h.cell 1).trans rfl,(h.cell 2).trans rfl⟩
theorem Blk.c4 {v0 v1 v2 v3:Value} (h:Blk w g t #[v0,v1,v2,v3]):w.cell? ⟨g,0,none⟩=some v0∧w.cell? ⟨g,1,none⟩=some v1∧w.cell? ⟨g,2,none⟩=some v2∧w.cell? ⟨g,3,none⟩=some v3:=⟨(h.cell 0).trans rfl,(h.cell 1).trans rfl,(h.cell 2).trans rfl,(h.cell 3).trans rfl⟩
theorem Blk.c6 {v0 v1 v2 v3 v4 v5:Value} (h:Blk w g t #[v0,v1,v2,v3,v4,v5]):w.cell? ⟨g,0,none⟩=some v0∧w.cell? ⟨g,1,none⟩=some v1∧w.cell? ⟨g,2,none⟩=some v2∧w.cell? ⟨g,3,none⟩=some v3∧w.cell? ⟨g,4,none⟩=some v4∧w.cell? ⟨g,5,none⟩=some v5:=⟨(h.cell 0).trans rfl,(h.cell 1).trans rfl,(h.cell 2).trans rfl,(h.cell 3).trans rfl,(h.cell 4).trans rfl,(h.cell 5).trans rfl⟩
theorem Blk.c7 {v0 v1 v2 v3 v4 v5 v6:Value} (h:Blk w g t #[v0,v1,v2,v3,v4,v5,v6]):w.cell? ⟨g,0,none⟩=some v0∧w.cell? ⟨g,1,none⟩=some v1∧w.cell? ⟨g,2,none⟩=some v2∧w.cell? ⟨g,3,none⟩=some v3∧w.cell? ⟨g,4,none⟩=some v4∧w.cell? ⟨g,5,none⟩=some v5∧w.cell? ⟨g,6,none⟩=some v6:=⟨(h.cell 0).trans rfl,(h.cell 1).trans rfl,(h.cell 2).trans rfl,(h.cell 3).trans rfl,(h.cell 4).trans rfl,(h.cell 5).trans rfl,(h.cell 6).trans rfl⟩
theorem Blk.c12 {v0 v1 v2 v3 v4 v5 v6 v7 v8 v9 v10 v11:Value} (h:Blk w g t #[v0,v1,v2,v3,v4,v5,v6,v7,v8,v9,v10,v11]):w.cell? ⟨g,0,none⟩=some v0∧w.cell? ⟨g,1,none⟩=some v1∧w.cell? ⟨g,2,none⟩=some v2∧w.cell? ⟨g,3,none⟩=some v3∧w.cell? ⟨g,4,none⟩=some v4∧w.cell? ⟨g,5,none⟩=some v5∧w.cell? ⟨g,6,none⟩=some v6∧w.cell? ⟨g,7,none⟩=some v7∧w.cell? ⟨g,8,none⟩=some v8∧w.cell? ⟨g,9,none⟩=some v9∧w.cell? ⟨g,10,none⟩=some v10∧w.cell? ⟨g,11,none⟩=some v11:=⟨(h.cell 0).trans rfl,(h.cell 1).trans rfl,(h.cell 2).trans rfl,(h.cell 3).trans rfl,(h.cell 4).trans rfl,(h.cell 5).trans rfl,(h.cell 6).trans rfl,(h.cell 7).trans rfl,(h.cell 8).trans rfl,(h.cell 9).trans rfl,(h.cell 10).trans rfl,(h.cell 11).trans rfl⟩
theorem Blk.c16 {v0 v1 v2 v3 v4 v5 v6 v7 v8 v9 v10 v11 v12 v13 v14 v15:Value} (h:Blk w g t #[v0,v1,v2,v3,v4,v5,v6,v7,v8,v9,v10,v11,v12,v13,v14,v15]):w.cell? ⟨g,0,none⟩=some v0∧w.cell? ⟨g,1,none⟩=some v1∧w.cell? ⟨g,2,none⟩=some v2∧w.cell? ⟨g,3,none⟩=some v3∧w.cell? ⟨g,4,none⟩=some v4∧w.cell? ⟨g,5,none⟩=some v5∧w.cell? ⟨g,6,none⟩=some v6∧w.cell? ⟨g,7,none⟩=some v7∧w.cell? ⟨g,8,none⟩=some v8∧w.cell? ⟨g,9,none⟩=some v9∧w.cell? ⟨g,10,none⟩=some v10∧w.cell? ⟨g,11,none⟩=some v11∧w.cell? ⟨g,12,none⟩=some v12∧w.cell? ⟨g,13,none⟩=some v13∧w.cell? ⟨g,14,none⟩=some v14∧w.cell? ⟨g,15,none⟩=some v15:=⟨(h.cell 0).trans rfl,(h.cell 1).trans rfl,(h.cell 2).trans rfl,(h.cell 3).trans rfl,(h.cell 4).trans rfl,(h.cell 5).trans rfl,(h.cell 6).trans rfl,(h.cell 7).trans rfl,(h.cell 8).trans rfl,(h.cell 9).trans rfl,(h.cell 10).trans rfl,(h.cell 11).trans rfl,(h.cell 12).trans rfl,(h.cell 13).trans rfl,(h.cell 14).trans rfl,(h.cell 15).trans rfl⟩
theorem Blk.c19 {v0 v1 v2 v3 v4 v5 v6 v7 v8 v9 v10 v11 v12 v13 v14 v15 v16 v17 v18:Value} (h:Blk w g t #[v0,v1,v2,v3,v4,v5,v6,v7,v8,v9,v10,v11,v12,v13,v14,v15,v16,v17,v18]):w.cell? ⟨g,0,none⟩=some v0∧w.cell? ⟨g,1,none⟩=some v1∧w.cell? ⟨g,2,none⟩=some v2∧w.cell? ⟨g,3,none⟩=some v3∧w.cell? ⟨g,4,none⟩=some v4∧w.cell? ⟨g,5,none⟩=some v5∧w.cell? ⟨g,6,none⟩=some v6∧w.cell? ⟨g,7,none⟩=some v7∧w.cell? ⟨g,8,none⟩=some v8∧w.cell? ⟨g,9,none⟩=some v9∧w.cell? ⟨g,10,none⟩=some v10∧w.cell? ⟨g,11,none⟩=some v11∧w.cell? ⟨g,12,none⟩=some v12∧w.cell? ⟨g,13,none⟩=some v13∧w.cell? ⟨g,14,none⟩=some v14∧w.cell? ⟨g,15,none⟩=some v15∧w.cell? ⟨g,16,none⟩=some v16∧w.cell? ⟨g,17,none⟩=some v17∧w.cell? ⟨g,18,none⟩=some v18:=⟨(h.cell 0).trans rfl,(h.cell 1).trans rfl,(h.cell 2).trans rfl,(h.cell 3).trans rfl,(h.cell 4).trans rfl,(h.cell 5).trans rfl,(h.cell 6).trans rfl,(h.cell 7).trans rfl,(h.cell 8).trans rfl,(h.cell 9).trans rfl,(h.cell 10).trans rfl,(h.cell 11).trans rfl,(h.cell 12).trans rfl,(h.cell 13).trans rfl,(h.cell 14).trans rfl,(h.cell 15).trans rfl,(h.cell 16).trans rfl,(h.cell 17).trans rfl,(h.cell 18).trans rfl⟩
theorem Blk.frozen (h:Blk w g t cs) (i:Nat):w.frozen? ⟨g,i,none⟩=false:=by unfold Blk at h;simp [World.frozen?,h]
theorem Blk.new (w:World) (t:TypeId) (cs:Array Value):Blk (w.alloc (.cells cs t)) w.heap.size t cs:=heap_alloc_new w _
theorem Blk.drew (h:Blk w g t cs):Blk w.drew g t cs:=h
theorem Blk.alloc (h:Blk w g t cs) (o:Obj):Blk (w.alloc o) g t cs:=(Below.heap_alloc w o g h.lt).trans h
theorem Blk.set_ (h:Blk w g t cs) (i:Nat) (u:Value):Blk (w.setCell ⟨g,i,none⟩ u) g t (cs.setIfInBounds i u):=by
 unfold Blk at h ⊢;simp [World.setCell,Array.getElem?_modify,h]
theorem Blk.far (h:Blk w g t cs) {p:Addr} (hp:g≠p.block) (u:Value):Blk (w.setCell p u) g t cs:=(Below.heap_setCell w p u g hp).trans h
theorem Blk.below {B:Nat} (h:Blk w g t cs) (hb:Below B w w') (hg:g<B):Blk w' g t cs:=(hb.block g hg).trans h
theorem Blk.new_ (h:Blk w g t cs) (hb:Below w.heap.size w w'):Blk w' g t cs:=h.below hb h.lt
theorem Blk.fr {M:Nat→Prop} (h:Blk w g t cs) (hb:Fr M w w') (hg : ¬M g):Blk w' g t cs:=(hb.block g h.lt hg).trans h
theorem Blk.grown {row:Option Nat} (h:Blk w g t cs) (hb:w.grownBy w' row) (hg:row≠some g):Blk w' g t cs:=(hb.block g h.lt (fun e=>hg e.symm)).trans h
theorem Blk.ne_ {g':Nat} {t':TypeId} {cs':Array Value} (h:Blk w g t cs) (h':Blk w g' t' cs') (hne:t≠t'):g≠g':=by
 rintro rfl;unfold Blk at h h';rw [h] at h';injection h' with h';injection h' with _ ht;exact hne ht
theorem Z04 {base:Nat} {e:TypeId} {size n:Nat} {v:Value} {xs:List Value} (h:w.ownsRow base e size v n xs) (hg:Blk w g t cs) (hne:e≠t):v.ownBlock≠some g:=by
 rcases h.2 with ⟨rfl,_⟩ | ⟨g',cap,cur,rfl,_,hh,_⟩
 · simp [Value.ownBlock]
 · intro he
   (have:g'=g:=by simpa [Value.ownBlock] using he);subst this;exact Blk.ne_ (t:=e) hh hg hne rfl
end
def Z0h {α:Type} (w:World) (size:Nat) (cells:α→List Value) (A:Option Addr) (c:Nat) (l:List α):Prop:=
 l.length≤c∧c≤maxLen∧
  (0<l.length→∃b off,A=some ⟨b,off,none⟩∧b<w.heap.size∧∀k,(h:k<l.length)→∀j u,(cells l[k])[j]? = some u→w.cell? ⟨b,off+k*size+j,none⟩=some u)
def AIn (A:Option Addr) (S:Nat→Prop):Prop:=∀a,A=some a→S a.block
section
variable {α:Type} {w w':World} {size c:Nat} {cells:α→List Value} {A:Option Addr} {l:List α}
theorem AIn.mono {S S':Nat→Prop} (h:AIn A S) (hs : ∀k,S k→S' k):AIn A S':=fun a e=>hs _ (h a e)
theorem AIn.none_ (S:Nat→Prop):AIn none S:=fun _ e=>by cases e
theorem Z0h.nil (w:World) (size:Nat) (cells:α→List Value):Z0h w size cells none 0 ([]:List α):=⟨Zi3 _,Nat.zero_le _,fun h=>absurd h (by simp)⟩
theorem Z0h.at_ (h:Z0h w size cells A c l) {k:Nat} (hk:k<l.length) : ∃b off,A=some ⟨b,off,none⟩∧b<w.heap.size∧∀j u,(cells l[k])[j]? = some u→w.cell? ⟨b,off+k*size+j,none⟩=some u:=by
 obtain ⟨b,off,h1,h2,h3⟩:=h.2.2 (by omega);exact ⟨b,off,h1,h2,h3 k hk⟩
theorem Z0h.keep (h:Z0h w size cells A c l) (hs:w.heap.size≤w'.heap.size) (hk : ∀p:Addr,p.block<w.heap.size→(∃a,A=some a∧a.block=p.block)→w'.cell? p=w.cell? p):Z0h w' size cells A c l:=by
 refine ⟨h.1,h.2.1,fun h0=>?_⟩;obtain ⟨b,off,rfl,hb,hc⟩:=h.2.2 h0;exact ⟨b,off,rfl,by omega,fun k hk' j u hu=>(hk ⟨b,off+k*size+j,none⟩ hb ⟨_,rfl,rfl⟩).trans (hc k hk' j u hu)⟩
theorem Z0h.new_ (h:Z0h w size cells A c l) (hb:Below w.heap.size w w'):Z0h w' size cells A c l:=h.keep hb.size (fun _ hp _=>hb.cell hp)
theorem Z0h.fr {M:Nat→Prop} (h:Z0h w size cells A c l) (hb:Fr M w w') (hm:AIn A (fun k=>¬M k)):Z0h w' size cells A c l:=
 h.keep hb.size (fun _ hp ⟨a,ha,hb'⟩=>hb.cell hp (by rw [← hb'];exact hm a ha))
theorem Z0h.drew (h:Z0h w size cells A c l):Z0h w.drew size cells A c l:=h
theorem Z0h.alloc (h:Z0h w size cells A c l) (o:Obj):Z0h (w.alloc o) size cells A c l:=h.new_ ((Zi2 _ _).alloc (Zi3 _) _)
theorem Z0h.cap (h:Z0h w size cells A c l):l.length≤9223372036854775807:=by have:=h.1;have:=h.2.1;unfold maxLen at this;omega
theorem Z0h.prefix_ (h:Z0h w size cells A c l) (n:Nat):Z0h w size cells A c (l.take n):=by
 refine ⟨by simp;have:=h.1;omega,h.2.1,fun h0=>?_⟩;obtain ⟨b,off,h1,h2,h3⟩:=h.2.2 (by simp at h0;omega);exact ⟨b,off,h1,h2,fun k hk j u hu=>h3 k (by simp at hk;omega) j u (by rw [← hu];simp)⟩
theorem Z0h.of_cells {b off:Nat} (h1:l.length≤c) (h2:c≤maxLen) (hb:b<w.heap.size) (h : ∀k,(h:k<l.length)→∀j u,(cells l[k])[j]? = some u→w.cell? ⟨b,off+k*size+j,none⟩=some u):Z0h w size cells (some ⟨b,off,none⟩) c l:=
 ⟨h1,h2,fun _=>⟨b,off,rfl,hb,h⟩⟩
end
theorem Z3u {α:Type} {cells:α→List Value} {size:Nat} (hsz : ∀x,(cells x).length=size) : ∀(l:List α) (k:Nat) (h:k<l.length) (j:Nat),j<size→(l.flatMap cells)[k*size+j]? = (cells l[k])[j]?
 | x :: l,0,_,j,hj=>by
   rw [Zj5,Ziz (by rw [hsz];omega)];simp
 | x :: l,k+1,h,j,hj=>by
   rw [Zj5,Zj3 (by rw [hsz,Nat.add_mul];omega),hsz];rw [show (k+1)*size+j - size=k*size+j by rw [Nat.add_mul];omega];exact Z3u hsz l k (by simpa using h) j hj
theorem Z13 {α:Type} {cells:α→List Value} {size:Nat} (hsz : ∀x,(cells x).length=size) : ∀(l:List α),(l.flatMap cells).length=l.length*size
 | []=>by simp
 | x :: l=>by rw [Zj5,Zim,hsz,Z13 hsz l];simp [Nat.add_mul];omega
theorem Zd1 {α:Type} {cells:α→List Value} {size:Nat} (hsz : ∀x,(cells x).length=size) (l:List α) (i:Nat) (u:Value) (hu:(l.flatMap cells)[i]? = some u) (h0:0<size) :
 ∃k j,∃h:k<l.length,i=k*size+j∧j<size∧(cells l[k])[j]? = some u:=by
 have hi:i<l.length*size:=by
  have:=(Zig.1 hu).1;rwa [Z13 hsz] at this
 have hk:i / size<l.length:=Nat.div_lt_of_lt_mul (by rw [Nat.mul_comm];exact hi);have hj:i % size<size:=Nat.mod_lt _ h0;(have e:i=i / size*size+i % size:=by rw [Nat.mul_comm];exact (Nat.div_add_mod i size).symm);refine ⟨i / size,i % size,hk,e,hj,?_⟩;rw [← Z3u hsz l _ hk _ hj,← e];exact hu
def Room (w:World) (g:Nat) (e:TypeId) (cells:Nat):Prop:=∃cur,w.heap[g]? = some (.cells cur e (0,0))∧cur.size=cells
section
variable {w w':World} {g:Nat} {e:TypeId} {m size n cap:Nat} {v:Value} {xs:List Value}
theorem Room.lt (h:Room w g e m):g<w.heap.size:=by obtain ⟨cur,h,_⟩:=h;exact Blk.lt (t:=e) h
theorem Room.frozen (h:Room w g e m) (i:Nat):w.frozen? ⟨g,i,none⟩=false:=by obtain ⟨cur,h,_⟩:=h;exact Blk.frozen (t:=e) h i
theorem Room.cell (h:Room w g e m) {i:Nat} (hi:i<m) : ∃u,w.cell? ⟨g,i,none⟩=some u:=by
 obtain ⟨cur,h,hs⟩:=h;exact ⟨cur[i]'(by omega),by rw [Blk.cell (t:=e) h];exact Array.getElem?_eq_getElem (by omega)⟩
theorem Z14 (h:w.ownsRow 0 e size v n xs):(v = .slice none 0 0∧n=0∧xs = [])∨∃g cap,v = .slice (some ⟨g,0,none⟩) n cap∧n≤cap∧cap≤maxLen∧Room w g e (cap*size)∧xs.length=n*size∧∀i u,xs[i]? = some u→w.cell? ⟨g,i,none⟩=some u:=by
 obtain ⟨h1,h2⟩:=h;rcases h2 with ⟨rfl,rfl⟩ | ⟨g,cap,cur,rfl,_,hg,hn,hc,hs,ht⟩
 · exact .inl ⟨rfl,rfl,List.eq_nil_of_length_eq_zero (by simpa using h1)⟩
 · refine .inr ⟨g,cap,rfl,hn,hc,⟨cur,hg,hs⟩,h1,fun i u hu=>?_⟩
   rw [Blk.cell (t:=e) hg,← hu,← ht];have hi:i<xs.length:=(Zig.1 hu).1;rw [h1] at hi;simp [hi]
theorem Zc1 (hr:Room w g e (cap*size)) (hn:n≤cap) (hc:cap≤maxLen) (hx:xs.length=n*size) (h : ∀i u,xs[i]? = some u→w.cell? ⟨g,i,none⟩=some u):w.ownsRow 0 e size (.slice (some ⟨g,0,none⟩) n cap) n xs:=by
 obtain ⟨cur,hg,hs⟩:=hr;refine ⟨hx,.inr ⟨g,cap,cur,rfl,Nat.zero_le _,hg,hn,hc,hs,?_⟩⟩;apply List.ext_getElem?;intro i;by_cases hi:i<n*size
 · have hxi:i<xs.length:=by omega
   have h1:=h i xs[i] (Zic hxi);rw [Blk.cell (t:=e) hg] at h1;rw [Zic hxi];simp [hi,h1]
 · rw [List.getElem?_eq_none (by simp;omega),List.getElem?_eq_none (by omega)]
theorem Z08 {α:Type} {cells:α→List Value} (hsz : ∀x,(cells x).length=size) {l:List α} {A:Option Addr} {c:Nat} (h:w.ownsRow 0 e size (.slice A l.length c) l.length (l.flatMap cells)):Z0h w size cells A c l:=by
 rcases Z14 h with ⟨hv,hn,_⟩ | ⟨g,cap,hv,hn,hc,hr,hx,hcell⟩
 · injection hv with _ _ hc
   exact ⟨by omega,by omega,fun h0=>by omega⟩
 · injection hv with hA _ hc'
   subst hA;subst hc';refine ⟨hn,hc,fun _=>⟨g,0,rfl,hr.lt,fun k hk j u hu=>?_⟩⟩;(have hj:j<size:=by have:=(Zig.1 hu).1;rwa [hsz] at this);have:=hcell (k*size+j) u (by rw [Z3u hsz l k hk j hj];exact hu);simpa using this
theorem Z16 {M:Nat→Prop} (h:w.ownsRow 0 e size v n xs) (hb:Fr M w w') (hm : ∀g,v.ownBlock=some g→¬M g):w'.ownsRow 0 e size v n xs:=by
 refine ⟨h.1,h.2.imp id fun ⟨g,cap,cur,hv,h0,hg,hr⟩=>⟨g,cap,cur,hv,h0,?_,hr⟩⟩;exact Blk.fr (t:=e) hg hb (hm g (by rw [hv];rfl))
theorem Z01 (h:w.ownsRow 0 e size v n xs) (hb:Below w.heap.size w w'):w'.ownsRow 0 e size v n xs:=by
 refine ⟨h.1,h.2.imp id fun ⟨g,cap,cur,hv,h0,hg,hr⟩=>⟨g,cap,cur,hv,h0,?_,hr⟩⟩;exact Blk.new_ (t:=e) hg hb
end
theorem Z72 {α:Type} {cells:α→List Value} {w:World} {g:Nat} {e:TypeId} {size n cap:Nat} (hsz : ∀x,(cells x).length=size) (h0:0<size) {l:List α} (h:w.ownsRow 0 e size (.slice (some ⟨g,0,none⟩) n cap) n (l.flatMap cells)) {m:Nat} (hm:m≤n) (hl:l.length=n) :
 w.ownsRow 0 e size (.slice (some ⟨g,0,none⟩) m cap) m ((l.take m).flatMap cells):=by
 rcases Z14 h with ⟨hv,_⟩ | ⟨g',cap',hv,hn,hc,hr,hx,hcell⟩
 · cases hv
 · injection hv with hA _ hc'
   injection hA with hA;injection hA with hA;subst hA;subst hc';refine Zc1 hr (by omega) hc (by rw [Z13 hsz,Zj4,Nat.min_eq_left (by omega)]) (fun i u hu=>?_);obtain ⟨k,j,hk,rfl,hj,hu'⟩:=Zd1 hsz _ i u hu h0;(have hk':k<l.length:=by simp at hk;omega);refine hcell _ u ?_;rw [Z3u hsz l k hk' j hj];rw [List.getElem_take] at hu';exact hu'
theorem Z2x {w:World} {g:Nat} {e:TypeId} {size n cap:Nat} {xs:List Value} (h:w.ownsRow 0 e size (.slice (some ⟨g,0,none⟩) n cap) n xs):Room w g e (cap*size)∧n≤cap∧cap≤maxLen:=by
 rcases Z14 h with ⟨hv,_⟩ | ⟨g',cap',hv,hn,hc,hr,_⟩
 · cases hv
 · injection hv with hA _ hc'
   injection hA with hA;injection hA with hA;subst hA;subst hc';exact ⟨hr,hn,hc⟩
section
variable {P:Program} (w:World)
theorem Z75 (t ty e:TypeId) (i:TypeInfo) (z:Value) (size bytes:Nat) (ht:P.underlying t=some (.slice e)) (hi:P.info? e=some i) (hz:i.zero=some z)
 (hsize:i.size=size) (hby:i.bytes=bytes) (hzs:z.cells.size=size) (hsz:0<size)
 (v:Value) (n:Nat) (xs:List Value) (hown:w.ownsRow 0 e size v n xs) (A:Option Addr) (m c:Nat) (news:List Value) (hl:news.length=m*size)
 (hnews:0<m→∃ad,A=some ad∧∀j u,news[j]? = some u→w.cell? (ad.add j)=some u) (h1 : ∀u∈news,u.oneCell'=true)
 (h63:n+m≤maxLen) (hbytes:(n+m)*bytes≤140737488355328) :
 ∃v' w',(Builtin.append_ #[t,t] ty #[v,.slice A m c]).run P w = .ok v' w'∧w'.ownsRow 0 e size v' (n+m) (xs++news)∧w.grownBy w' v.ownBlock∧
  (v' = .slice none 0 0↔v = .slice none 0 0∧m=0)∧(v'.ownBlock=v.ownBlock∨v'.ownBlock=some w.heap.size):=by
 rcases Nat.eq_zero_or_pos m with rfl | hm
 · have hn:news = []:=List.eq_nil_of_length_eq_zero (by simpa using hl)
   subst hn;rcases A with _ | ad
   · refine ⟨v,w,?_,by simpa using hown,World.grownBy.refl w _,by simp,.inl rfl⟩
     rcases hown.2 with ⟨rfl,rfl⟩ | ⟨g,cap,cur,rfl,_,_,hnc,_⟩
     · simp [Builtin.append_,run_underlying ht,sizeOf,typeInfo,hi,Builtin.lenOf,Builtin.firstCells]
     · simp [Builtin.append_,run_underlying ht,sizeOf,typeInfo,hi,Builtin.lenOf,Builtin.firstCells,hnc,storeCells]
   · exact run_append_own_at w 0 t ty e i z size bytes ht hi hz hsize hby hzs hsz v n xs hown ad 0 c [] (by simp) (by simp) (by simp) h63 hbytes (Nat.zero_le _)
 · obtain ⟨ad,rfl,hc⟩:=hnews hm
   exact run_append_own_at w 0 t ty e i z size bytes ht hi hz hsize hby hzs hsz v n xs hown ad m c news hl hc h1 h63 hbytes (Nat.zero_le _)
theorem Z5d {o:Oper} {a:Act} {K:Act→World→Prop} {Q:Exit→Act→World→Prop} (s x:Operand) (t:TypeId)
 (ho:o.op = .call { callee:=.builtin .append,args:=#[s,x],argTypes:=#[t,t] })
 (e:TypeId) (i:TypeInfo) (z:Value) (size bytes:Nat) (ht:P.underlying t=some (.slice e)) (hi:P.info? e=some i) (hz:i.zero=some z)
 (hsize:i.size=size) (hby:i.bytes=bytes) (hzs:z.cells.size=size) (hsz:0<size)
 (v:Value) (n:Nat) (xs:List Value) (hs:a.eval s=v) (hown:w.ownsRow 0 e size v n xs)
 (A:Option Addr) (m c:Nat) (news:List Value) (hx:a.eval x = .slice A m c) (hl:news.length=m*size)
 (hnews:0<m→∃ad,A=some ad∧∀j u,news[j]? = some u→w.cell? (ad.add j)=some u) (h1 : ∀u∈news,u.oneCell'=true)
 (h63:n+m≤maxLen) (hbytes:(n+m)*bytes≤140737488355328)
 (h : ∀v' w',w'.ownsRow 0 e size v' (n+m) (xs++news)→w.grownBy w' v.ownBlock→(v' = .slice none 0 0↔v = .slice none 0 0∧m=0)→(v'.ownBlock=v.ownBlock∨v'.ownBlock=some w.heap.size)→K (a.put o.dst v') w') :
 Oper.wp P o a w K Q:=by
 obtain ⟨v',w',hr,h2,h3,h4,h5⟩:=Z75 (P:=P) w t o.type e i z size bytes ht hi hz hsize hby hzs hsz v n xs hown A m c news hl hnews h1 h63 hbytes;unfold Oper.wp execOp;simp only [ho,resolve,invoke,builtin,Sem.run_bind,Sem.run_pure,Result.andThen_ok,List.map_toArray,List.map_cons,List.map_nil,hs,hx,hr];exact h v' w' h2 h3 h4 h5
theorem Z0q {ops:Array Oper} {o:Oper} {a:Act} {K:Act→World→Prop} {Q:Exit→Act→World→Prop} {E:Prop} (hgd:o.guard=none) (s x:Operand) (t:TypeId)
 (ho:o.op = .call { callee:=.builtin .append,args:=#[s,x],argTypes:=#[t,t] })
 (e:TypeId) (i:TypeInfo) (z:Value) (size bytes:Nat) (ht:P.underlying t=some (.slice e)) (hi:P.info? e=some i) (hz:i.zero=some z)
 (hsize:i.size=size) (hby:i.bytes=bytes) (hzs:z.cells.size=size) (hsz:0<size)
 (v:Value) (n:Nat) (xs:List Value) (hs:a.eval s=v) (hown:w.ownsRow 0 e size v n xs)
 (A:Option Addr) (m c:Nat) (news:List Value) (hx:a.eval x = .slice A m c) (hl:news.length=m*size)
 (hnews:0<m→∃ad,A=some ad∧∀j u,news[j]? = some u→w.cell? (ad.add j)=some u) (h1 : ∀u∈news,u.oneCell'=true)
 (h63:n+m≤maxLen) (hbytes:(n+m)*bytes≤140737488355328)
 (h : ∀v' w',w'.ownsRow 0 e size v' (n+m) (xs++news)→w.grownBy w' v.ownBlock→(v' = .slice none 0 0↔v = .slice none 0 0∧m=0)→(v'.ownBlock=v.ownBlock∨v'.ownBlock=some w.heap.size)→K (a.put o.dst v') w') :
 if Region.wanted o (yielded ops a.tmps)=true then Oper.wp P o a w K Q else E:=by
 rw [if_pos (by simp [Region.wanted,hgd])];exact Z5d w s x t ho e i z size bytes ht hi hz hsize hby hzs hsz v n xs hs hown A m c news hx hl hnews h1 h63 hbytes h
theorem Z03 {ops:Array Oper} {rest:List Oper} {o:Oper} {a:Act} {Q:Exit→Act→World→Prop} (hgd:o.guard=none) (s x:Operand) (t:TypeId)
 (ho:o.op = .call { callee:=.builtin .append,args:=#[s,x],argTypes:=#[t,t] })
 (e:TypeId) (i:TypeInfo) (z:Value) (size bytes:Nat) (ht:P.underlying t=some (.slice e)) (hi:P.info? e=some i) (hz:i.zero=some z)
 (hsize:i.size=size) (hby:i.bytes=bytes) (hzs:z.cells.size=size) (hsz:0<size)
 (v:Value) (n:Nat) (xs:List Value) (hs:a.eval s=v) (hown:w.ownsRow 0 e size v n xs)
 (A:Option Addr) (m c:Nat) (news:List Value) (hx:a.eval x = .slice A m c) (hl:news.length=m*size)
 (hnews:0<m→∃ad,A=some ad∧∀j u,news[j]? = some u→w.cell? (ad.add j)=some u) (h1 : ∀u∈news,u.oneCell'=true)
 (h63:n+m≤maxLen) (hbytes:(n+m)*bytes≤140737488355328)
 (h : ∀v' w',w'.ownsRow 0 e size v' (n+m) (xs++news)→w.grownBy w' v.ownBlock→(v' = .slice none 0 0↔v = .slice none 0 0∧m=0)→(v'.ownBlock=v.ownBlock∨v'.ownBlock=some w.heap.size)→wpList P ops Q rest (a.put o.dst v') w') :
 wpList P ops Q (o :: rest) a w:=
 wpList_plain hgd fun _ hK=>Z5d w s x t ho e i z size bytes ht hi hz hsize hby hzs hsz v n xs hs hown A m c news hx hl hnews h1 h63 hbytes (fun v' w' a b c d=>hK _ _ (h v' w' a b c d))
end
theorem Z0h.news {α:Type} {w:World} {size c:Nat} {cells:α→List Value} (hsz : ∀x,(cells x).length=size) (h0:0<size) {A:Option Addr} {l:List α} (h:Z0h w size cells A c l) :
 0<l.length→∃ad,A=some ad∧∀j u,(l.flatMap cells)[j]? = some u→w.cell? (ad.add j)=some u:=by
 intro hl;obtain ⟨b,off,rfl,_,hc⟩:=h.2.2 hl;refine ⟨_,rfl,fun j u hu=>?_⟩;obtain ⟨k,i,hk,rfl,hi,hu'⟩:=Zd1 hsz l j u hu h0;have:=hc k hk i u hu';unfold Addr.add
 split
 · rename_i hz
   (have e:k*size=0:=by omega);(have e2:i=0:=by omega);rw [e,e2] at this;simpa using this
 · simpa [Nat.add_assoc] using this
theorem Z2w {w:World} {e:TypeId} {size n:Nat} {v:Value} {xs:List Value} (h:w.ownsRow 0 e size v n xs) : ∃A c,v = .slice A n c∧n≤c∧c≤maxLen∧(∀a,A=some a→∃g,a=⟨g,0,none⟩):=by
 rcases Z14 h with ⟨rfl,rfl,_⟩ | ⟨g,cap,rfl,hn,hc,_⟩
 · exact ⟨none,0,rfl,Zi3 _,Nat.zero_le _,fun a e=>by cases e⟩
 · exact ⟨_,cap,rfl,hn,hc,fun a e=>⟨g,by injection e with e;exact e.symm⟩⟩
def setAll (xs:List Value) (o:Nat) (vs:List Value):List Value:=vs.zipIdx.foldl (fun l (v,j)=>l.set (o+j) v) xs
theorem Z7l (o:Nat) : ∀(vs:List Value) (s:Nat) (xs:List Value),o+s+vs.length≤xs.length→
 ((vs.zipIdx s).foldl (fun l (v,j)=>l.set (o+j) v) xs).length=xs.length∧
 ∀i,((vs.zipIdx s).foldl (fun l (v,j)=>l.set (o+j) v) xs)[i]? = if o+s≤i∧i<o+s+vs.length then vs[i - (o+s)]? else xs[i]?
 | [],s,xs,_=>⟨rfl,fun i=>by simp;omega⟩
 | v :: vs,s,xs,h=>by
   simp only [Zj1] at h;rw [List.zipIdx_cons,List.foldl_cons];obtain ⟨h1,h2⟩:=Z7l o vs (s+1) (xs.set (o+s) v) (by simp;omega);refine ⟨by rw [h1];simp,fun i=>?_⟩;rw [h2];simp only [Zj1];by_cases hi:i=o+s
   · subst hi
     rw [if_neg (by omega),if_pos (by omega),List.getElem?_set_self (by omega),Nat.sub_self,Zi8]
   · by_cases hlt:o+(s+1)≤i∧i<o+(s+1)+vs.length
     · rw [if_pos hlt,if_pos (by omega)]
       rw [show i - (o+s)=(i - (o+(s+1)))+1 by omega];simp
     · rw [if_neg hlt,if_neg (by omega),List.getElem?_set_ne (by omega)]
theorem Z62 {α:Type} {cells:α→List Value} {size:Nat} (hsz : ∀x,(cells x).length=size) (h0:0<size) (l:List α) (k:Nat) (hk:k<l.length) (y:α) :
 setAll (l.flatMap cells) (k*size) (cells y)=(l.set k y).flatMap cells:=by
 (have hb:k*size+size≤l.length*size:=by rw [← Nat.succ_mul];exact Nat.mul_le_mul_right _ hk);obtain ⟨h1,h2⟩:=Z7l (k*size) (cells y) 0 (l.flatMap cells) (by rw [Z13 hsz,hsz];omega);unfold setAll;apply List.ext_getElem?;intro i;rw [h2,hsz];by_cases hi:i<l.length*size
 · have hq:i / size<l.length:=Nat.div_lt_of_lt_mul (by rw [Nat.mul_comm];exact hi)
   have hr:i % size<size:=Nat.mod_lt _ h0;have e:i=i / size*size+i % size:=by rw [Nat.mul_comm];exact (Nat.div_add_mod i size).symm
   have r2:((l.set k y).flatMap cells)[i]? = (cells ((l.set k y)[i / size]'(by simpa using hq)))[i % size]?:=by
    conv=>lhs;rw [e]
    exact Z3u hsz _ _ (by simpa using hq) _ hr
   rw [r2];by_cases hik:i / size=k
   · have e3:i - (k*size+0)=i % size:=by rw [← hik];omega
     rw [if_pos (by rw [hik] at e;omega),e3];congr 1;rw [List.getElem_set];simp [hik]
   · have hne : ¬(k*size+0≤i∧i<k*size+0+size):=by
      rintro ⟨a,b⟩;apply hik;apply Nat.div_eq_of_lt_le
      · omega
      · rw [Nat.add_mul];omega
     rw [if_neg hne]
     have r1:(l.flatMap cells)[i]? = (cells l[i / size])[i % size]?:=by
      conv=>lhs;rw [e]
      exact Z3u hsz _ _ hq _ hr
     rw [r1];congr 2;rw [List.getElem_set];simp [Ne.symm hik]
 · rw [if_neg (by omega),List.getElem?_eq_none (by rw [Z13 hsz];omega),List.getElem?_eq_none (by rw [Z13 hsz];simp;omega)]
structure Z2h {α:Type} (tSet tE size:Nat) (cells:α→List Value) (w:World) (b:Nat) (sn:Bool) (A:Option Addr) (c:Nat) (l:List α):Prop where
 blk:Blk w b tSet #[.slice A l.length c,.bool sn]
 row:w.ownsRow 0 tE size (.slice A l.length c) l.length (l.flatMap cells)
def Z2i (b:Nat) (sn:Bool) (A:Option Addr):Nat→Prop:=fun k=>k=b∨(sn=false∧∃a,A=some a∧a.block=k)
def Z5e (w:World) (sn:Bool) (A:Option Addr) (sn':Bool) (A':Option Addr):Prop:=
 (sn'=sn∧A'=A)∨(sn'=false∧∃g,w.heap.size≤g∧A'=some ⟨g,0,none⟩)
section
variable {α:Type} {tSet tE size:Nat} {cells:α→List Value} {w w':World} {b:Nat} {sn:Bool} {A:Option Addr} {c:Nat} {l:List α}
theorem Z2h.lt (h:Z2h tSet tE size cells w b sn A c l):b<w.heap.size:=h.blk.lt
theorem Z2h.cell0 (h:Z2h tSet tE size cells w b sn A c l):w.cell? ⟨b,0,none⟩=some (.slice A l.length c):=(h.blk.cell 0).trans rfl
theorem Z2h.cell1 (h:Z2h tSet tE size cells w b sn A c l):w.cell? ⟨b,1,none⟩=some (.bool sn):=(h.blk.cell 1).trans rfl
theorem Z2h.rd (hsz : ∀x,(cells x).length=size) (h:Z2h tSet tE size cells w b sn A c l):Z0h w size cells A c l:=Z08 hsz h.row
theorem Z2h.row_lt (h:Z2h tSet tE size cells w b sn A c l):AIn A (· < w.heap.size):=by
 intro a e;subst e;rcases Z14 h.row with ⟨hv,_⟩ | ⟨g,cap,hv,_,_,hr,_⟩
 · cases hv
 · injection hv with hA
   injection hA with hA;subst hA;exact hr.lt
theorem Z2h.row_ne (h:Z2h tSet tE size cells w b sn A c l) (hne:tE≠tSet):AIn A (·≠b):=by
 intro a e hb;have:=Z04 h.row h.blk hne;subst e;exact this (by simp [Value.ownBlock,hb])
theorem Z2h.fr {M:Nat→Prop} (h:Z2h tSet tE size cells w b sn A c l) (hf:Fr M w w') (hb : ¬M b) (hA:AIn A (fun k=>¬M k)):Z2h tSet tE size cells w' b sn A c l:=
 ⟨h.blk.fr hf hb,Z16 h.row hf (fun g e=>by
  rcases A with _ | a
  · cases e
  · simp only [Value.ownBlock,Option.some.injEq] at e
    subst e
    exact hA a rfl)⟩
theorem Z2h.new_ (h:Z2h tSet tE size cells w b sn A c l) (hf:Below w.heap.size w w'):Z2h tSet tE size cells w' b sn A c l:=⟨h.blk.new_ hf,Z01 h.row hf⟩
end
end
section
open Go.RowKit Go.ChangeShapes Go.WideShapes Go.Deep
section
variable {H:Type} {enc:TypeId×Value→H} {P:Program}
theorem Z84 {f:Func} {s:ChangeSpec} {apart fresh handsOn again:Bool} {W W':World} {args:Array Value} {v:Value} {ds gs:List (DataW H)} {before pa pv:List MemPlace}
 (hW:DataW.Whole enc P f.params.toList s.vars apart W args.toList ds gs before)
 (hres : ∀(b:Nat) (sp:Nat→Bool) (hd:Bool),DataW.TrodAll enc P W' b sp hd f.resultTypes.toList (v.resultList f.resultTypes.size) (s.fn H (ds++gs)).results [])
 (hargs : ∀sp:Nat→Bool,(∀p∈before,sp p.block=true)→DataW.TrodAll enc P W' 0 sp true f.params.toList args.toList (s.fn H (ds++gs)).args pa)
 (hvars : ∀sp:Nat→Bool,(∀p∈before,sp p.block=true)→DataW.TrodVars enc P W' sp s.vars (s.fn H (ds++gs)).vars pv)
 (hps:before=pa++pv) (hb:Below W.heap.size W W')
 (hok : ∀(j:Nat) (t:TypeId) (r:Value),f.resultTypes[j]? = some t→(v.resultList f.resultTypes.size)[j]? = some r→Value.okWide P W' .any 0 t r) :
 s.post enc P f apart fresh handsOn again W args v W':=by
 have hlt : ∀p∈before,p.block<W.heap.size:=fun p hp=>hW.lt p hp;(have hold : ∀p∈before,(fun b=>decide (b<W.heap.size)) p.block=true:=fun p hp=>by simpa using hlt p hp);refine ⟨ds,gs,before,[],pa,pv,hW,hres _ _ _,hargs _ hold,hvars _ hold,World.keptBut_mono (fun p hp=>⟨hp,?_⟩) (hb.frame (·∈before)),fun _=>?_⟩
 · rw [hps,Zj0] at hp
   exact Or.inr hp
 · obtain ⟨_,_,_,_,_,hz,hn⟩:=hW
   refine ⟨hok,_,_,([]++pa)++pv,⟨[]++pa,pv,trodAll_append (hargs _ (fun _ _=>rfl)) (hres _ _ _),hvars _ (fun _ _=>rfl),rfl,?_,?_⟩,?_⟩
   · intro b off hp
     (have hin:MemPlace.cell b off∈before:=by rw [hps];simpa using hp);rw [hb.frozen (hlt _ hin)];exact hz b off hin
   · intro ha
     have:=hn ha;rw [hps] at this;simpa using this
   · intro p hp _
     rw [hps];simpa using hp
theorem Z59 (hl:laidOutB P=true) {W W':World} {sp:Nat→Bool} (hb:Below W.heap.size W W') : ∀(ts:List TypeId) (vs:List Value) (ds:List (DataW H)) (ps:List MemPlace),
 (∀t∈ts,P.readableRec t=true∧t<P.types.size)→DataW.TrodAll enc P W 0 (fun _=>true) true ts vs ds ps→(∀p∈ps,p.block<W.heap.size)→(∀p∈ps,sp p.block=true)→DataW.TrodAll enc P W' 0 sp true ts vs ds ps
 | [],[],[],ps,_,h,_,_=>h
 | t :: ts,v :: vs,d :: ds,ps,ht,⟨p,q,h1,h2,he⟩,hlt,hsp=>by
   subst he;refine ⟨p,q,WideElems.Trod_stays hl (ht t (by simp)).1 (ht t (by simp)).2 h1 (fun x hx=>hb.same (hlt x (by simp [hx]))) (fun x hx=>hsp x (by simp [hx])),?_,rfl⟩;exact Z59 hl hb ts vs ds q (fun t' h'=>ht t' (by simp [h'])) h2 (fun x hx=>hlt x (by simp [hx])) (fun x hx=>hsp x (by simp [hx]))
 | [],_ :: _,_,_,_,h,_,_=>h.elim
 | [],[],_ :: _,_,_,h,_,_=>h.elim
 | _ :: _,[],_,_,_,h,_,_=>h.elim
 | _ :: _,_ :: _,[],_,_,h,_,_=>h.elim
theorem Ze1 {f:Func} {s:ChangeSpec} {apart fresh handsOn again:Bool} {W W':World} {args:Array Value} {ds gs:List (DataW H)} {before:List MemPlace} {tb:TypeId}
 (hl:laidOutB P=true) (hv:s.vars = []) (hW:DataW.Whole enc P f.params.toList s.vars apart W args.toList ds gs before) (hr:f.resultTypes = #[tb]) (htb:P.underlying tb=some .bool)
 (hp : ∀t∈f.params.toList,P.readableRec t=true∧t<P.types.size) (h1:(s.fn H (ds++gs)).results = [.lit (.bool true)]) (h2:(s.fn H (ds++gs)).args=ds) (h3:(s.fn H (ds++gs)).vars = [])
 (hb:Below W.heap.size W W'):s.post enc P f apart fresh handsOn again W args (.bool true) W':=by
 have hlt : ∀p∈before,p.block<W.heap.size:=fun p hp=>hW.lt p hp;have hW0:=hW;obtain ⟨p,q,hA,hV,he,_⟩:=hW;rw [hv] at hV;(have hq:q = []:=by cases gs<;>simp [DataW.TrodVars] at hV;exact hV);subst hq;rw [List.append_nil] at he;subst he;refine Z84 (pa:=before) (pv:=[]) hW0 (fun b sp hd=>?_) (fun sp hsp=>?_) (fun sp hsp=>?_) (by simp) hb ?_
 · rw [hr,h1];exact trodAll_mk1 (shut_bool htb true)
 · rw [h2];exact Z59 hl hb _ _ _ _ hp hA hlt hsp
 · rw [hv,h3];rfl
 · exact ok_one hr rfl (okWide_bool_mk htb true)
end
def Zhi {α:Type} (P:Program) (e:TypeId) (size:Nat) (cells:α→List Value):Prop:=
 P.cellsOf e=size∧∀(H:Type) (enc:TypeId×Value→H) (w:World) (base:Nat) (spare:Nat→Bool) (held:Bool) (n:Nat) (cs:List Value) (x:DataW H×List MemPlace),
  DataW.trod enc P w base spare held n e cs=some x→∃a:α,cs=cells a
theorem Zdk {α:Type} {Q:Nat→α→Prop} : ∀(n:Nat),(∀i,i<n→∃a,Q i a)→∃l:List α,l.length=n∧∀i,(h:i<l.length)→Q i l[i]
 | 0,_=>⟨[],rfl,fun i h=>absurd h (by simp)⟩
 | n+1,h=>by
   obtain ⟨l,hl,hq⟩:=Zdk n (fun i hi=>h i (by omega));obtain ⟨a,ha⟩:=h n (by omega);refine ⟨l ++ [a],by simp [hl],fun i hi=>?_⟩;by_cases hi':i<l.length
   · rw [List.getElem_append_left hi'];exact hq i hi'
   · have:i=n:=by simp at hi;omega
     subst this;rw [List.getElem_append_right (by omega)];simpa [hl] using ha
end
end Go.Proofs.YtldndkngpdfpfaaGreat
