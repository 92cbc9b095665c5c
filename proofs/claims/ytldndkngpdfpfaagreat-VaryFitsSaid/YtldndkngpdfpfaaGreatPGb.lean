/-
  Texts put together: Eager, Range, Rep, SetLeaf, RowSym, Types, VaryP, VaryP2.
-/
import Derived.Test.YtldndkngpdfpfaaGreatPGa
import Derived.Test.YtldndkngpdfpfaaGreatRows
namespace Go.Proofs.YtldndkngpdfpfaaGreat
open Lib (hid)
set_option maxRecDepth 100000
set_option maxHeartbeats 32000000
section
abbrev Cls:=Nat
section
variable {P:Program} {ops:Array Oper} {Q:Exit→Act→World→Prop} {S:World→Prop}
def Z31 (ops:Array Oper):Nat→Nat→Nat→Bool
 | 0,_,_=>false
 | n+1,j,k=>((ops[j]?).map fun o=>o.after.any fun e=>Region.binds .any e && (e.on == k || Z31 ops n e.on k)).getD false
def Zfr (ops:Array Oper) (ord:List (Nat×Cls)) (j:Nat):Bool:=ord.any fun (k,c)=>c == 1 && k != j && !Z31 ops ops.size j k
def okE (ops:Array Oper):List (Nat×Cls)→Array Bool→Bool
 | [],listed=>(Region.ready .any ops listed).isEmpty
 | (k,c) :: rest,listed=>(if c == 2 then Region.ready .any ops listed == [k] else (Region.ready .any ops listed).contains k && Region.free .any ops listed k) && okE ops rest (listed.setIfInBounds k true)
def Z4z (S:World→Prop) (qt ns:Nat→Bool) (i:Nat) (w w':World):Prop:=if qt i=true then w'=w else (ns i=true→S w')
def Z5v (P:Program) (ops:Array Oper) (Q:Exit→Act→World→Prop) (S:World→Prop) (qt ns:Nat→Bool):Nat→Array Bool→Act→World→Prop
 | 0,listed,a,w=>Region.ready .any ops listed = []∧Q .normal a w
 | fuel+1,listed,a,w=>
   (Region.ready .any ops listed = []→Q .normal a w)∧
   ∀i∈Region.ready .any ops listed,wpOp P ops Q i (fun a' w'=>Z4z S qt ns i w w'∧Z5v P ops Q S qt ns fuel (listed.setIfInBounds i true) a' w') a w
theorem Z5q {qt ns:Nat→Bool} : ∀(fuel:Nat) (listed:Array Bool) (a:Act) (w:World),Z5v P ops Q S qt ns fuel listed a w→wpAny P .any ops Q fuel listed a w
 | 0,_,_,_,h=>h
 | fuel+1,_,_,_,h=>⟨h.1,fun i hi=>wpOp_mono (fun a' w' h'=>Z5q fuel _ a' w' h'.2) (h.2 i hi)⟩
def wpE (P:Program) (ops:Array Oper) (Q:Exit→Act→World→Prop) (S:World→Prop) (ns:Nat→Bool):List (Nat×Cls)→Act→World→Prop
 | [],a,w=>Q .normal a w
 | (i,c) :: rest,a,w=>
   if c=2 then wpOp P ops Q i (fun a' w'=>(ns i=true→S w')∧wpE P ops Q S ns rest a' w') a w
   else ∃o v,ops[i]? = some o∧(if c=1 then YieldsIf P ops S o v a∧S w else Yields P ops o v a)∧wpE P ops Q S ns rest (a.put o.dst v) w
def Z3x (ops:Array Oper) (listed:Array Bool):Prop:=∀(m:Nat) (o:Oper),listed.getD m false=true→ops[m]? = some o→∀e∈o.after,Region.binds .any e=true→listed.getD e.on false=true
theorem Z25 {listed:Array Bool} (hc:Z3x ops listed) {i:Nat} (hi:i∈Region.ready .any ops listed):Z3x ops (listed.setIfInBounds i true):=by
 obtain ⟨hu,o,ho,hall⟩:=mem_ready.1 hi
 have up : ∀m,listed.getD m false=true→(listed.setIfInBounds i true).getD m false=true:=fun m hm=>by
  by_cases e:i=m
  · subst e
    rcases Nat.lt_or_ge i listed.size with h' | h'
    · simp [h']
    · simp [Array.getElem?_eq_none h'] at hm
  · rw [getD_set_ne false e];exact hm
 intro m om hm hom e he hb;by_cases e':i=m
 · subst e'
   rw [ho] at hom;cases hom;exact up _ (hall e he hb)
 · rw [getD_set_ne false e'] at hm
   exact up _ (hc m om hm hom e he hb)
theorem Z41 {listed:Array Bool} (hc:Z3x ops listed) {k:Nat} (hk:listed.getD k false=false) : ∀(n m:Nat),listed.getD m false=true→Z31 ops n m k=false
 | 0,_,_=>rfl
 | n+1,m,hm=>by
   unfold Z31
   cases ho:ops[m]? with
   | none=>rfl
   | some o=>
     simp only [Zif,Option.getD_some];rw [Array.any_eq_false];intro i hi;simp only [Zir,Zjg,beq_iff_eq,not_and,not_or,Bool.not_eq_true];intro hb;have hl:=hc m o hm ho o.after[i] (Array.getElem_mem hi) hb;refine ⟨fun e=>?_,Z41 hc hk n _ hl⟩;rw [e,hk] at hl;cases hl
theorem Z6q {listed:Array Bool} (hc:Z3x ops listed) {k j:Nat} (hk:listed.getD k false=false) (hj:j∈Region.ready .any ops listed) (n:Nat):Z31 ops n j k=false:=by
 cases n with
 | zero=>rfl
 | succ n=>
   obtain ⟨_,o,ho,hall⟩:=mem_ready.1 hj;unfold Z31;simp only [ho,Zif,Option.getD_some];rw [Array.any_eq_false];intro i hi;simp only [Zir,Zjg,beq_iff_eq,not_and,not_or,Bool.not_eq_true];intro hb;have hl:=hall o.after[i] (Array.getElem_mem hi) hb;refine ⟨fun e=>?_,Z41 hc hk n _ hl⟩;rw [e,hk] at hl;cases hl
theorem Z3g {qt ns:Nat→Bool} {i:Nat} {oi:Oper} {v:Value} (hi:ops[i]? = some oi) (hsel : ∀(j:Nat) (o:Oper) cs b,ops[j]? = some o→o.op≠.select cs b)
 (hQ : ∀c a w,Q (.panic c) (a.put oi.dst v) w→Q (.panic c) a w) (L:Bool) (hqt:qt i=true) (hns:L=true→∀(j:Nat),Z31 ops ops.size j i=false→j≠i→j<ops.size→ns j=true) :
 ∀(fuel:Nat) (listed:Array Bool) (a:Act) (w:World),Z3x ops listed→
  (∀j oj,ops[j]? = some oj→j≠i→listed.getD j true=false→(∀e∈oj.after,Region.binds .any e=true→e.on≠i)→oi.apart ops oj=true)→
  i∈Region.ready .any ops listed→YieldsIf P ops (fun w=>L=true→S w) oi v a→(L=true→S w)→
  Z5v P ops Q S qt ns fuel (listed.setIfInBounds i true) (a.put oi.dst v) w→Z5v P ops Q S qt ns (fuel+1) listed a w:=by
 (have own : ∀w:World,Z4z S qt ns i w w:=fun w=>by unfold Z4z;rw [if_pos hqt]);intro fuel
 induction fuel with
 | zero=>
   intro listed a w _ _ hr hy hS H;refine ⟨fun h=>(by rw [h] at hr;cases hr),fun j hj=>?_⟩;by_cases hji:j=i
   · subst hji;exact hy.wpOp hi hS ⟨own w,H⟩
   · have:=ready_mono hj hji
     rw [H.1] at this;cases this
 | succ fuel ih=>
   intro listed a w hcl hfree hr hy hS H;refine ⟨fun h=>(by rw [h] at hr;cases hr),fun j hj=>?_⟩;by_cases hji:j=i
   · subst hji;exact hy.wpOp hi hS ⟨own w,H⟩
   · have h1:=H.2 j (ready_mono hj hji)
     obtain ⟨hjun,oj,hoj,hall⟩:=mem_ready.1 hj
     have hiun:listed.getD i false=false:=by
      have h0:=(mem_ready.1 hr).1;rcases Nat.lt_or_ge i listed.size with h' | h'
      · simp [h'] at h0 ⊢;exact h0
      · simp [Array.getElem?_eq_none h'] at h0
     have hnot : ∀e∈oj.after,Region.binds .any e=true→e.on≠i:=fun e he hb heq=>by
      have h1:=hall e he hb;rw [heq,hiun] at h1;cases h1
     have hnsj:L=true→ns j=true:=fun hL=>hns hL j (Z6q hcl hiun hj _) hji (Array.getElem?_eq_some_iff.1 hoj).1;have h2:=wpOp_putIf hoj (hfree j oj hoj hji hjun hnot) (fun cs b=>hsel i oi cs b hi) (fun cs b=>hsel j oj cs b hoj) hQ hy h1
     have hfree' : ∀k ok,ops[k]? = some ok→k≠i→(listed.setIfInBounds j true).getD k true=false→
      (∀e∈ok.after,Region.binds .any e=true→e.on≠i)→oi.apart ops ok=true:=fun k ok hk hki hun hno=>by
      refine hfree k ok hk hki ?_ hno;by_cases hjk:j=k
      · subst hjk;exact hjun
      · rw [getD_set_ne true hjk] at hun;exact hun
     refine wpOp_mono (fun a' w' h3=>⟨h3.2.1,?_⟩) h2
     have hS':L=true→S w':=fun hL=>by
      have hb:=h3.2.1;unfold Z4z at hb;by_cases hq:qt j=true
      · rw [if_pos hq] at hb;rw [hb];exact hS hL
      · rw [if_neg hq] at hb;exact hb (hnsj hL)
     refine ih (listed.setIfInBounds j true) a' w' (Z25 hcl hj) hfree' (ready_mono hr (Ne.symm hji)) h3.1 hS' ?_;rw [Array.setIfInBounds_comm _ _ hji];exact h3.2.2
theorem Z70 {ord:List (Nat×Cls)} {qt ns:Nat→Bool} (hsel:Region.noSelect ops=true) (hQ : ∀c a a' w,Q (.panic c) a w→Q (.panic c) a' w)
 (hqt : ∀k c,(k,c)∈ord→(qt k=true↔c≠2)) (hns : ∀k,(k,1)∈ord→∀j,Z31 ops ops.size j k=false→j≠k→j<ops.size→ns j=true) :
 ∀(rest:List (Nat×Cls)) (listed:Array Bool) (a:Act) (w:World),(∀x∈rest,x∈ord)→Z3x ops listed→okE ops rest listed=true→wpE P ops Q S ns rest a w→Z5v P ops Q S qt ns rest.length listed a w
 | [],listed,a,w,_,_,hB,h=>⟨by simpa [okE] using hB,h⟩
 | (k,c) :: rest,listed,a,w,hm,hcl,hB,h=>by
   simp only [okE,Zir] at hB;obtain ⟨hB1,hB2⟩:=hB;have hmk:=hm (k,c) (by simp);simp only [wpE] at h;by_cases hc:c=2
   · subst hc
     simp only [beq_self_eq_true,if_true] at hB1;(have hr:Region.ready .any ops listed = [k]:=by simpa using hB1);simp only [if_true] at h;refine ⟨fun h0=>(by rw [hr] at h0;cases h0),fun i hi=>?_⟩;rw [hr] at hi;(obtain rfl:i=k:=by simpa using hi);refine wpOp_mono (fun a' w' h'=>⟨?_,Z70 hsel hQ hqt hns rest _ a' w' (fun x hx=>hm x (by simp [hx])) (Z25 hcl (by rw [hr];simp)) hB2 h'.2⟩) h;unfold Z4z;rw [if_neg (fun hq=>(hqt i 2 hmk).1 hq rfl)];exact h'.1
   · rw [if_neg (by simpa using hc)] at hB1
     simp only [Zir] at hB1;rw [if_neg hc] at h;obtain ⟨o,v,ho,hy,hk⟩:=h;(have hrdy:k∈Region.ready .any ops listed:=by simpa using hB1.1);have hrest:=Z70 hsel hQ hqt hns rest _ _ w (fun x hx=>hm x (by simp [hx])) (Z25 hcl hrdy) hB2 hk;by_cases h1:c=1
     · subst h1
       rw [if_pos rfl] at hy
       exact Z3g ho (Region.noSelect_spec hsel) (fun c a w=>hQ c _ _ w) true ((hqt k 1 hmk).2 hc) (fun _=>hns k hmk) rest.length listed a w hcl (Region.free_spec ho hB1.2) hrdy
        (hy.1.imp (fun ⟨p,q⟩=>⟨p,fun w' hw'=>q w' (hw' rfl)⟩) id) (fun _=>hy.2) hrest
     · rw [if_neg h1] at hy
       exact Z3g ho (Region.noSelect_spec hsel) (fun c a w=>hQ c _ _ w) false ((hqt k c hmk).2 hc) (fun h=>by cases h) rest.length listed a w hcl (Region.free_spec ho hB1.2) hrdy
        (hy.imp (fun ⟨p,q⟩=>⟨p,fun w' _=>q w'⟩) id) (fun h=>by cases h) hrest
def Zh4 (ops:Array Oper) (ord:List (Nat×Cls)):Bool:=
 Region.noSelect ops && okE ops ord (Array.replicate ops.size false) && ord.length == ops.size && (ord.map (·.1)).Nodup && ord.all fun x=>x.1<ops.size
def Z7o (K:Act→World→Prop):Exit→Act→World→Prop
 | .normal,a,w=>K a w
 | _,_,_=>False
@[go_sem] theorem Z00 (K:Act→World→Prop) (a:Act) (w:World):Z7o K .normal a w=K a w:=rfl
def wpX (P:Program) (ops:Array Oper) (Q:Exit→Act→World→Prop) (S:World→Prop) (ns:Nat→Bool):List (Nat×Cls×Oper)→Act→World→Prop
 | [],a,w=>Q .normal a w
 | (i,c,o) :: rest,a,w=>
   if c=2 then (if Region.wanted o (yielded ops a.tmps)=true then o.wp P a w (fun a' w'=>(ns i=true→S w')∧wpX P ops Q S ns rest a' w') Q else (ns i=true→S w)∧wpX P ops Q S ns rest (a.put o.dst undef) w)
   else ∃v,(if c=1 then YieldsIf P ops S o v a∧S w else Yields P ops o v a)∧wpX P ops Q S ns rest (a.put o.dst v) w
def Z02 (ops:Array Oper) (ord:List (Nat×Cls)):List (Nat×Cls×Oper):=ord.filterMap fun (i,c)=>(ops[i]?).map fun o=>(i,c,o)
theorem Zbe {ns:Nat→Bool} : ∀(ord:List (Nat×Cls)) (a:Act) (w:World),(∀x∈ord,x.1<ops.size)→wpX P ops Q S ns (Z02 ops ord) a w→wpE P ops Q S ns ord a w
 | [],_,_,_,h=>h
 | (i,c) :: rest,a,w,hl,h=>by
   have hi:i<ops.size:=hl (i,c) (by simp);have ho:ops[i]? = some ops[i]:=Array.getElem?_eq_getElem hi;(have hb:Z02 ops ((i,c) :: rest)=(i,c,ops[i]) :: Z02 ops rest:=by simp [Z02,ho]);have ih:=fun a w=>Zbe (ns:=ns) rest a w (fun x hx=>hl x (by simp [hx]));rw [hb] at h;simp only [wpX] at h;simp only [wpE]
   split
   · rename_i hc
     rw [if_pos hc] at h;unfold wpOp;simp only [ho]
     split
     · rename_i hw
       rw [if_pos hw] at h;exact .inl (Oper.wp_mono (fun a w h=>⟨h.1,ih _ _ h.2⟩) h)
     · rename_i hw
       rw [if_neg hw] at h;exact ⟨h.1,ih _ _ h.2⟩
   · rename_i hc
     rw [if_neg hc] at h;obtain ⟨v,h1,h2⟩:=h;exact ⟨_,v,ho,h1,ih _ _ h2⟩
theorem Zhd {l:List Oper} {a:Act} {w:World} (S:World→Prop) (ord:List (Nat×Cls)) (hB:Zh4 l.toArray ord=true)
 (h : ∀K:Act→World→Prop,(∀a w,Q .normal a w→K a w)→wpX P l.toArray (Z7o K) S (Zfr l.toArray ord) (Z02 l.toArray ord) a w.drew) :
 wpAny P .any l.toArray (Z7o fun a w=>Q .normal a w) l.toArray.size (Array.replicate l.toArray.size false) a w.drew:=by
 simp only [Zh4,Zir,beq_iff_eq,Zjc] at hB;obtain ⟨⟨⟨⟨hsel,hE⟩,hlen⟩,hnd⟩,hlt0⟩:=hB;(have hlt : ∀x∈ord,x.1<l.toArray.size:=by simpa [Zj7] using hlt0);clear hlt0;have h0:=Zbe ord a w.drew hlt (h (fun a w=>Q .normal a w) (fun _ _ h=>h));have hcl:Z3x l.toArray (Array.replicate l.toArray.size false):=fun m o hm=>by rw [getD_replicate_false] at hm;cases hm
 have hone : ∀k c c',(k,c)∈ord→(k,c')∈ord→c=c':=fun k c c' h1 h2=>by
  clear h h0 hE hlen hcl hlt
  induction ord with
  | nil=>cases h1
  | cons x r ih=>
    simp only [List.map_cons,List.nodup_cons,List.mem_map,not_exists,not_and] at hnd;rcases Zij.1 h1 with e1 | h3
    · rcases Zij.1 h2 with e2 | h4
      · rw [← e1] at e2;injection e2 with _ e;exact e.symm
      · subst e1;exact absurd rfl (hnd.1 (k,c') h4)
    · rcases Zij.1 h2 with e2 | h4
      · subst e2;exact absurd rfl (hnd.1 (k,c) h3)
      · exact ih hnd.2 h3 h4
 have H:=Z70 (P:=P) (Q:=Z7o fun a w=>Q .normal a w) (S:=S) (ord:=ord) (qt:=fun k=>ord.any fun (j,c)=>j == k && c != 2) (ns:=Zfr l.toArray ord) hsel (fun c a a' w h=>h)
  (fun k c hk=>by
    simp only [Zj2,Zir,beq_iff_eq,bne_iff_ne];constructor
    · rintro ⟨⟨j,c'⟩,hj,hjk,hc'⟩
      dsimp only at hjk hc';subst hjk;rw [hone _ _ _ hk hj];exact hc'
    · intro hc;exact ⟨(k,c),hk,rfl,hc⟩)
  (fun k hk j hw hjk _=>by
    unfold Zfr;rw [Zj2]
    exact ⟨(k,1),hk,by dsimp only;rw [hw];simp [Ne.symm hjk]⟩)
  ord (Array.replicate l.toArray.size false) a w.drew (fun _ hx=>hx) hcl hE h0
 rw [hlen] at H;exact Z5q _ _ _ _ H
theorem Z05 {id:Nat} {l:List Oper} {a:Act} {w:World} (S:World→Prop) (ord:List (Nat×Cls)) (hm:P.follows .mixedOrders=true) (hB:Zh4 l.toArray ord=true)
 (h : ∀K:Act→World→Prop,(∀a w,Q .normal a w→K a w)→wpX P l.toArray (Z7o K) S (Zfr l.toArray ord) (Z02 l.toArray ord) a w.drew):(Code.region id l.toArray true).wp P Q a w:=
 Code.wp_mono (Q:=Z7o fun a w=>Q .normal a w) (fun e a w hq=>by cases e<;>first | exact hq | exact hq.elim) (wp_region_any hm (Zhd S ord hB h))
variable {ns:Nat→Bool} {rest:List (Nat×Cls×Oper)} {a:Act} {w:World} {i:Nat} {o:Oper}
theorem Z0z (h:Q .normal a w):wpX P ops Q S ns [] a w:=h
theorem Z0a (v:Value) (hy:Yields P ops o v a) (h:wpX P ops Q S ns rest (a.put o.dst v) w):wpX P ops Q S ns ((i,0,o) :: rest) a w:=by
 simp only [wpX];exact ⟨v,by simpa using hy,h⟩
theorem Z06 (v:Value) (hS:S w) (hy:YieldsIf P ops S o v a) (h:wpX P ops Q S ns rest (a.put o.dst v) w):wpX P ops Q S ns ((i,1,o) :: rest) a w:=by
 simp only [wpX];exact ⟨v,by simpa using ⟨hy,hS⟩,h⟩
theorem Z2p (hn:ns i=false)
 (h : ∀K:Act→World→Prop,(∀a w,wpX P ops Q S ns rest a w→K a w)→if Region.wanted o (yielded ops a.tmps)=true then Oper.wp P o a w K Q else K (a.put o.dst undef) w):wpX P ops Q S ns ((i,2,o) :: rest) a w:=by
 have:=h (fun a' w'=>(ns i=true→S w')∧wpX P ops Q S ns rest a' w') (fun a w h2=>⟨fun h=>absurd h (by rw [hn];simp),h2⟩);simpa only [wpX,if_true] using this
theorem Z1f
 (h : ∀K:Act→World→Prop,(∀a w,S w→wpX P ops Q S ns rest a w→K a w)→if Region.wanted o (yielded ops a.tmps)=true then Oper.wp P o a w K Q else K (a.put o.dst undef) w):wpX P ops Q S ns ((i,2,o) :: rest) a w:=by
 have:=h (fun a' w'=>(ns i=true→S w')∧wpX P ops Q S ns rest a' w') (fun a w h1 h2=>⟨fun _=>h1,h2⟩);simpa only [wpX,if_true] using this
end
end
section
open Go.RowKit
def cellsAt (W:World) (k:Nat):Prop:=∃c e f,W.heap[k]? = some (.cells c e f)
section
variable {B B':Nat} {W W' X Y Z:World}
end
variable {P:Program}
end
section
open Go.RowKit Go.ChangeShapes Go.WideShapes Go.Deep
structure RepT (α:Type) where
 size:Nat
 rep:(Nat→Prop)→World→α→List Value→Prop
 len : ∀{D:Nat→Prop} {w:World} {a:α} {cs:List Value},rep D w a cs→cs.length=size
 keep : ∀{D D':Nat→Prop} {w w':World} {a:α} {cs:List Value},w.heap.size≤w'.heap.size→(∀k,D k→k<w.heap.size→D' k∧w'.heap[k]? = w.heap[k]?)→rep D w a cs→rep D' w' a cs
def RowR {α:Type} (r:RepT α) (D:Nat→Prop) (w:World) (A:Option Addr) (c:Nat) (l:List α):Prop:=
 l.length≤c∧c≤maxLen∧
  (0<l.length→∃b off,A=some ⟨b,off,none⟩∧D b∧b<w.heap.size∧∀k,(h:k<l.length)→∃cs,r.rep D w l[k] cs∧∀j u,cs[j]? = some u→w.cell? ⟨b,off+k*r.size+j,none⟩=some u)
section
variable {α:Type} {r:RepT α} {D D':Nat→Prop} {w w':World} {A:Option Addr} {c:Nat} {l:List α}
theorem RowR.keep (h:RowR r D w A c l) (hs:w.heap.size≤w'.heap.size) (hk : ∀k,D k→k<w.heap.size→D' k∧w'.heap[k]? = w.heap[k]?):RowR r D' w' A c l:=by
 refine ⟨h.1,h.2.1,fun h0=>?_⟩;obtain ⟨b,off,h1,h2,h3,h4⟩:=h.2.2 h0;refine ⟨b,off,h1,(hk b h2 h3).1,by omega,fun k hk'=>?_⟩;obtain ⟨cs,h5,h6⟩:=h4 k hk';exact ⟨cs,r.keep hs hk h5,fun j u hu=>(World.cell?_of_block (hk b h2 h3).2).trans (h6 j u hu)⟩
theorem RowR.nil (r:RepT α) (D:Nat→Prop) (w:World):RowR r D w none 0 []:=⟨Zi3 _,Nat.zero_le _,fun h=>absurd h (by simp)⟩
theorem RowR.cap (h:RowR r D w A c l):(l.length:Int)≤9223372036854775807:=by have:=h.1;have:=h.2.1;unfold maxLen at this;omega
theorem RowR.at_ (h:RowR r D w A c l) {k:Nat} (hk:k<l.length) : ∃b off cs,A=some ⟨b,off,none⟩∧D b∧b<w.heap.size∧r.rep D w l[k] cs∧∀j u,cs[j]? = some u→w.cell? ⟨b,off+k*r.size+j,none⟩=some u:=by
 obtain ⟨b,off,h1,h2,h3,h4⟩:=h.2.2 (by omega);obtain ⟨cs,h5,h6⟩:=h4 k hk;exact ⟨b,off,cs,h1,h2,h3,h5,h6⟩
theorem RowR.weaken (h:RowR r D w A c l) (hD : ∀k,D k→D' k):RowR r D' w A c l:=h.keep (Zi3 _) (fun k hk _=>⟨hD k hk,rfl⟩)
theorem RowR.new_ (h:RowR r D w A c l) (hb:Below w.heap.size w w'):RowR r D w' A c l:=h.keep hb.size (fun k hk hl=>⟨hk,hb.block k hl⟩)
theorem RowR.fr {M:Nat→Prop} (h:RowR r D w A c l) (hb:Fr M w w') (hm : ∀k,D k→¬M k):RowR r D w' A c l:=h.keep hb.size (fun k hk hl=>⟨hk,hb.block k hl (hm k hk)⟩)
end
def RepT.flat {α:Type} (size:Nat) (cells:α→List Value) (h : ∀a,(cells a).length=size):RepT α:=
 ⟨size,fun _ _ a cs=>cs=cells a,by rintro _ _ _ _ rfl;exact h _,by rintro _ _ _ _ _ _ _ _ h;exact h⟩
theorem RowR.rd {α:Type} {size:Nat} {cells:α→List Value} {hs : ∀a,(cells a).length=size} {D:Nat→Prop} {w:World} {A:Option Addr} {c:Nat} {l:List α} (h:RowR (RepT.flat size cells hs) D w A c l):Z0h w size cells A c l:=by
 refine ⟨h.1,h.2.1,fun h0=>?_⟩;obtain ⟨b,off,h1,h2,h3,h4⟩:=h.2.2 h0;refine ⟨b,off,h1,h3,fun k hk j u hu=>?_⟩;obtain ⟨cs,h5,h6⟩:=h4 k hk;have h5':cs=cells l[k]:=h5;exact h6 j u (by rw [h5'];exact hu)
theorem RowR.of_rd {α:Type} {size:Nat} {cells:α→List Value} {hs : ∀a,(cells a).length=size} {D:Nat→Prop} {w:World} {A:Option Addr} {c:Nat} {l:List α} (h:Z0h w size cells A c l) (hA:AIn A D):RowR (RepT.flat size cells hs) D w A c l:=by
 refine ⟨h.1,h.2.1,fun h0=>?_⟩;obtain ⟨b,off,h1,h2,h3⟩:=h.2.2 h0;exact ⟨b,off,h1,hA _ h1,h2,fun k hk=>⟨_,rfl,h3 k hk⟩⟩
def Z9o {α:Type} (P:Program) (t:TypeId) (r:RepT α):Prop:=
 P.cellsOf t=r.size∧∀(H:Type) (enc:TypeId×Value→H) (w:World) (base:Nat) (spare:Nat→Bool) (held:Bool) (n:Nat) (cs:List Value) (x:DataW H×List MemPlace),
  DataW.trod enc P w base spare held n t cs=some x→∃a:α,r.rep (· < w.heap.size) w a cs
theorem Z71 {α:Type} {P:Program} {t:TypeId} {size:Nat} {cells:α→List Value} (hs : ∀a,(cells a).length=size) (h:Zhi P t size cells):Z9o P t (RepT.flat size cells hs):=
 ⟨h.1,fun H enc w base spare held n cs x hx=>h.2 H enc w base spare held n cs x hx⟩
theorem Zah {H:Type} {enc:TypeId×Value→H} {P:Program} {w:World} {base:Nat} {spare:Nat→Bool} {held:Bool} {α:Type} {r:RepT α} {t e:TypeId} {fuel:Nat} {cs:List Value} {x:DataW H×List MemPlace}
 (ht:P.underlying t=some (.slice e)) (h0:0<r.size) (hr:P.cellsOf e=r.size) (hE : ∀n cs x,DataW.trod enc P w base spare held n e cs=some x→∃a:α,r.rep (· < w.heap.size) w a cs)
 (hf:DataW.trod enc P w base spare held fuel t cs=some x) : ∃A c,∃l:List α,cs = [.slice A l.length c]∧RowR r (· < w.heap.size) w A c l:=by
 rcases open_slice ht hf with ⟨h1,_⟩ | ⟨a,len,cap,m,n,Dd,Pl,h1,_,hl,hm,hmm,_,hx⟩
 · exact ⟨none,0,[],h1,RowR.nil _ _ _⟩
 · have hlm:len≤m:=by rw [hmm];split<;>omega
   obtain ⟨l,hll,hq⟩:=Zdk (α:=α) (Q:=fun i x=>∃cs',r.rep (· < w.heap.size) w x cs'∧∀j u,cs'[j]? = some u→w.cell? ((a.add (i*r.size)).add j)=some u) len (fun i hi=>by
    obtain ⟨cs',c1,c2⟩:=hx i (by omega);obtain ⟨x,hrep⟩:=hE n cs' _ c2;obtain ⟨_,hlen,hcell⟩:=World.cells?_some c1;rw [hr] at hcell hlen
    exact ⟨x,cs',hrep,fun j u hu=>(hcell j (by rw [← hlen];exact (Zig.1 hu).1)).trans hu⟩)
   subst hll;refine ⟨some a,cap,l,h1,hl,hm,fun hpos=>?_⟩;obtain ⟨cs',c1,c2⟩:=hx 0 (by omega);obtain ⟨_,hlen,hcell⟩:=World.cells?_some c1;rw [hr] at hlen hcell
   have hspot:a.spot=none:=by
    have:=hcell 0 h0;rw [Zic (by omega)] at this;(have e2:(a.add (0*r.size)).add 0=a:=by simp [Addr.add]);rw [e2] at this;exact World.cell?_spot this
   obtain ⟨b,off,spot⟩:=a;simp only at hspot;subst hspot
   have hbl:b<w.heap.size:=by
    have:=hcell 0 h0;rw [Zic (by omega)] at this;(have e2:((⟨b,off,none⟩:Addr).add (0*r.size)).add 0=⟨b,off,none⟩:=by simp [Addr.add]);rw [e2] at this;exact Ziy w _ this
   refine ⟨b,off,rfl,hbl,hbl,fun k hk=>?_⟩;obtain ⟨cs2,g1,g2⟩:=hq k hk;refine ⟨cs2,g1,fun j u hu=>?_⟩;have:=g2 j u hu;rwa [add_plain,add_plain] at this
theorem Z11 {H:Type} {enc:TypeId×Value→H} {P:Program} {w:World} {base:Nat} {spare:Nat→Bool} {held:Bool} {t:TypeId} {fs:Array Field} {n:Nat} {cs:List Value} {x:DataW H×List MemPlace}
 (ht:P.underlying t=some (.struct fs)) (h:DataW.trod enc P w base spare held n t cs=some x) (i:Nat) {f:Field} (hf:fs[i]? = some f) (ty off sz:Nat) (e1:f.type=ty) (e2:f.offset=off) (e3:P.cellsOf ty=sz) :
 ∃m y,DataW.trod enc P w base spare held m ty ((cs.drop off).take sz)=some y:=by
 obtain ⟨xs,n2,_,_,_,hlen,hx⟩:=DataW.trod_struct ht h;have h1:=hx i f hf;subst e1;subst e2;subst e3
 have hi:i<xs.length:=by
  have:=(Array.getElem?_eq_some_iff.1 hf).1;omega
 rw [Zic hi] at h1;exact ⟨n2,_,h1⟩
theorem Z65 {H:Type} {enc:TypeId×Value→H} {P:Program} {w:World} {base:Nat} {spare:Nat→Bool} {held:Bool} {t:TypeId} {fs:Array Field} {n:Nat} {cs:List Value} {x:DataW H×List MemPlace}
 (ht:P.underlying t=some (.struct fs)) (h:DataW.trod enc P w base spare held n t cs=some x):cs.length=P.cellsOf t:=by
 obtain ⟨_,_,_,_,hl,_⟩:=DataW.trod_struct ht h;exact hl
theorem Z6m {H:Type} {enc:TypeId×Value→H} {P:Program} {w:World} {rc:Reach} {b0 base:Nat} {spare:Nat→Bool} {held:Bool} {α:Type} {r:RepT α} {t e:TypeId} {v:Value} {d:DataW H} {ps:List MemPlace}
 (ht:P.underlying t=some (.slice e)) (h0:0<r.size) (hr:Z9o P e r) (hval:Value.okWide P w rc b0 t v) (h:DataW.Trod enc P w base spare held t v d ps) :
 ∃A c,∃l:List α,v = .slice A l.length c∧RowR r (· < w.heap.size) w A c l:=by
 obtain ⟨A,len,cap,rfl⟩:=okWide_slice ht hval;obtain ⟨fuel,hf⟩:=h;(have hcs:(Value.slice A len cap).cells.toList = [.slice A len cap]:=by simp [Value.cells]);rw [hcs] at hf;obtain ⟨A',c',l,h1,h2⟩:=Zah ht h0 hr.1 (fun n cs x h=>hr.2 H enc w base spare held n cs x h) hf;simp only [List.cons.injEq,and_true] at h1;exact ⟨A',c',l,h1,h2⟩
end
section
open Go.RowKit
def Sym.cells (s:Sym):List Value:=[.int .i64 s.kind,.string s.text,.int .i64 s.n]
theorem Sym.cells_length (s:Sym):s.cells.length=3:=rfl
theorem Zd9 (a:Int) (w:World):Calls Tryz.prog 226 #[.int .i64 a] w fun e w'=>e = .returned (.bool false)∧w=w':=by
 go_enter Tryz.func226,Tryz.ntmps226;go_wp2;go_ret;exact ⟨by simp,rfl⟩
theorem Zda (a:ByteArray) (w:World):Calls Tryz.prog 227 #[.string a] w fun e w'=>e = .returned (.bool false)∧w=w':=by
 go_enter Tryz.func227,Tryz.ntmps227;go_wp2;go_ret;exact ⟨by simp,rfl⟩
theorem Z9u (a b:Int) (w:World):Calls Tryz.prog 184 #[.int .i64 a,.int .i64 b] w fun e w'=>e = .returned (.int .i64 (Z12 a b))∧w=w':=by
 go_enter Tryz.func184,Tryz.ntmps184;go_wp2_with (go_at_call 226;refine (Zd9 _ _).mono ?_;rintro e w' ⟨rfl,rfl⟩)
 all_goals (go_ret;refine ⟨?_,rfl⟩;unfold Z12;(repeat' split)<;>first | rfl | (exfalso;omega))
theorem Z9v (a b:ByteArray) (w:World):Calls Tryz.prog 185 #[.string a,.string b] w fun e w'=>e = .returned (.int .i64 (Z26 a b))∧w=w':=by
 go_enter Tryz.func185,Tryz.ntmps185;go_wp2_with (go_at_call 227;refine (Zda _ _).mono ?_;rintro e w' ⟨rfl,rfl⟩)
 all_goals (go_ret;refine ⟨?_,rfl⟩;unfold Z26;(repeat' split)<;>first | rfl | (exfalso;simp_all))
theorem Z9w (a b:Sym) (w:World) :
 Calls Tryz.prog 143 #[.agg #[.int .i64 a.kind,.string a.text,.int .i64 a.n],.agg #[.int .i64 b.kind,.string b.text,.int .i64 b.n]] w fun e w'=>e = .returned (.int .i64 (Z1z a b))∧Below w.heap.size w w':=by
 obtain ⟨ak,at_,an⟩:=a;obtain ⟨bk,bt,bn⟩:=b;by_cases h1:Z12 ak bk=0
 · have n1:(Z12 ak bk != 0)=false:=by simp [h1]
   by_cases h2:Z26 at_ bt=0
   · have n2:(Z26 at_ bt != 0)=false:=by simp [h2]
     (have HF:Hid (Z1z ⟨ak,at_,an⟩ ⟨bk,bt,bn⟩=Z12 an bn):=by simp [Hid,Z1z,Z0c,h1,h2]);clear h1 h2;go_enter Tryz.func143,Tryz.ntmps143;(go_wp2_with (first | (go_at_call 184;refine (Z9u _ _ _).mono ?_;rintro e w' ⟨rfl,rfl⟩) | (go_at_call 185;refine (Z9v _ _ _).mono ?_;rintro e w' ⟨rfl,rfl⟩)));go_ret;exact ⟨by rw [HF.out];rfl,((Zi2 _ _).alloc (Zi3 _) _).alloc (by simp) _⟩
   · have n2:(Z26 at_ bt != 0)=true:=by simp [h2]
     (have HF:Hid (Z1z ⟨ak,at_,an⟩ ⟨bk,bt,bn⟩=Z26 at_ bt):=by simp [Hid,Z1z,Z0c,h1,h2]);clear h1 h2;go_enter Tryz.func143,Tryz.ntmps143;(go_wp2_with (first | (go_at_call 184;refine (Z9u _ _ _).mono ?_;rintro e w' ⟨rfl,rfl⟩) | (go_at_call 185;refine (Z9v _ _ _).mono ?_;rintro e w' ⟨rfl,rfl⟩)));go_ret;exact ⟨by rw [HF.out];rfl,((Zi2 _ _).alloc (Zi3 _) _).alloc (by simp) _⟩
 · have n1:(Z12 ak bk != 0)=true:=by simp [h1]
   (have HF:Hid (Z1z ⟨ak,at_,an⟩ ⟨bk,bt,bn⟩=Z12 ak bk):=by simp [Hid,Z1z,Z0c,h1]);clear h1;go_enter Tryz.func143,Tryz.ntmps143;(go_wp2_with (first | (go_at_call 184;refine (Z9u _ _ _).mono ?_;rintro e w' ⟨rfl,rfl⟩) | (go_at_call 185;refine (Z9v _ _ _).mono ?_;rintro e w' ⟨rfl,rfl⟩)));go_ret;exact ⟨by rw [HF.out];rfl,((Zi2 _ _).alloc (Zi3 _) _).alloc (by simp) _⟩
end
section
open Go.RowKit Go.ChangeShapes Go.WideShapes Go.Deep
theorem Ze5:Zhi Tryz.prog 23 3 Sym.cells:=
 ⟨by kernel_rfl,fun H enc w base spare held n cs x h=>by
  obtain ⟨y0,y1,y2,n',_,hl,h0,h1,h2⟩:=trod_struct3 Tryz.underlying23 h;have hl3:cs.length=3:=hl.trans (by kernel_rfl);(have c3:Tryz.prog.cellsOf 3=1:=by kernel_rfl);(have c9:Tryz.prog.cellsOf 9=1:=by kernel_rfl);simp only [c3,c9] at h0 h1 h2
  match cs,hl3 with
  | [v0,v1,v2],_=>
    simp at h0 h1 h2;obtain ⟨a,e0,_⟩:=DataW.trod_int Tryz.underlying3 h0;obtain ⟨b,e1,_⟩:=DataW.trod_string Tryz.underlying9 h1;obtain ⟨c,e2,_⟩:=DataW.trod_int Tryz.underlying3 h2;simp at e0 e1 e2;subst e0;subst e1;subst e2
    exact ⟨⟨a,b,c⟩,rfl⟩⟩
def Z3r:RepT Sym:=RepT.flat 3 Sym.cells Sym.cells_length
theorem Z2l:Z9o Tryz.prog 23 Z3r:=Z71 Sym.cells_length Ze5
structure Elem where
 id:Sym
 attr:Sym
 value:Sym
 acc:Bool
 goal:Bool
 tag:Int
def Elem.cells (x:Elem):List Value:=[.int .i64 x.id.kind,.string x.id.text,.int .i64 x.id.n,.int .i64 x.attr.kind,.string x.attr.text,.int .i64 x.attr.n,.int .i64 x.value.kind,.string x.value.text,.int .i64 x.value.n,.bool x.acc,.bool x.goal,.int .i64 x.tag]
theorem Elem.cells_length (x:Elem):x.cells.length=12:=rfl
def Z27:RepT Elem:=RepT.flat 12 Elem.cells Elem.cells_length
theorem Zgv {D:Nat→Prop} {w:World} {A:Option Addr} {c k:Nat} {l:List Elem} (h:RowR Z27 D w A c l) (hk:k<l.length) : ∃g off,A=some ⟨g,off,none⟩∧D g∧g<w.heap.size∧w.cell? ⟨g,off+k*12,none⟩=some (.int .i64 l[k].id.kind)∧w.cell? ⟨g,off+k*12+1,none⟩=some (.string l[k].id.text)∧w.cell? ⟨g,off+k*12+2,none⟩=some (.int .i64 l[k].id.n)∧w.cell? ⟨g,off+k*12+3,none⟩=some (.int .i64 l[k].attr.kind)∧w.cell? ⟨g,off+k*12+4,none⟩=some (.string l[k].attr.text)∧w.cell? ⟨g,off+k*12+5,none⟩=some (.int .i64 l[k].attr.n)∧w.cell? ⟨g,off+k*12+6,none⟩=some (.int .i64 l[k].value.kind)∧w.cell? ⟨g,off+k*12+7,none⟩=some (.string l[k].value.text)∧w.cell? ⟨g,off+k*12+8,none⟩=some (.int .i64 l[k].value.n)∧w.cell? ⟨g,off+k*12+9,none⟩=some (.bool l[k].acc)∧w.cell? ⟨g,off+k*12+10,none⟩=some (.bool l[k].goal)∧w.cell? ⟨g,off+k*12+11,none⟩=some (.int .i64 l[k].tag):=by
 obtain ⟨g,off,cs,hA,hD,hg,hr,hc⟩:=h.at_ hk;have hr2:cs=Elem.cells l[k]:=hr;subst hr2;refine ⟨g,off,hA,hD,hg,by simpa [Z27,RepT.flat] using hc 0 _ rfl,by simpa [Z27,RepT.flat] using hc 1 _ rfl,by simpa [Z27,RepT.flat] using hc 2 _ rfl,by simpa [Z27,RepT.flat] using hc 3 _ rfl,by simpa [Z27,RepT.flat] using hc 4 _ rfl,by simpa [Z27,RepT.flat] using hc 5 _ rfl,by simpa [Z27,RepT.flat] using hc 6 _ rfl,by simpa [Z27,RepT.flat] using hc 7 _ rfl,by simpa [Z27,RepT.flat] using hc 8 _ rfl,by simpa [Z27,RepT.flat] using hc 9 _ rfl,by simpa [Z27,RepT.flat] using hc 10 _ rfl,by simpa [Z27,RepT.flat] using hc 11 _ rfl⟩
theorem Zbz:Z9o Tryz.prog 55 Z27:=
 ⟨by kernel_rfl,fun H enc w base spare held n cs x h=>by
  have hl2:cs.length=12:=(Z65 Tryz.underlying55 h).trans (by kernel_rfl);obtain ⟨m0,y0,h0⟩:=Z11 Tryz.underlying55 h 0 rfl 23 0 3 rfl rfl (by kernel_rfl);obtain ⟨m1,y1,h1⟩:=Z11 Tryz.underlying55 h 1 rfl 23 3 3 rfl rfl (by kernel_rfl);obtain ⟨m2,y2,h2⟩:=Z11 Tryz.underlying55 h 2 rfl 23 6 3 rfl rfl (by kernel_rfl);obtain ⟨m3,y3,h3⟩:=Z11 Tryz.underlying55 h 3 rfl 4 9 1 rfl rfl (by kernel_rfl);obtain ⟨m4,y4,h4⟩:=Z11 Tryz.underlying55 h 4 rfl 4 10 1 rfl rfl (by kernel_rfl);obtain ⟨m5,y5,h5⟩:=Z11 Tryz.underlying55 h 5 rfl 3 11 1 rfl rfl (by kernel_rfl)
  match cs,hl2 with
  | [v0,v1,v2,v3,v4,v5,v6,v7,v8,v9,v10,v11],_=>
    simp at h0 h1 h2 h3 h4 h5;obtain ⟨a0,e0⟩:=Z2l.2 H enc w base spare held _ _ _ h0;have e0:_=Sym.cells a0:=e0;simp [Sym.cells] at e0;obtain ⟨a1,e1⟩:=Z2l.2 H enc w base spare held _ _ _ h1;have e1:_=Sym.cells a1:=e1;simp [Sym.cells] at e1;obtain ⟨a2,e2⟩:=Z2l.2 H enc w base spare held _ _ _ h2;have e2:_=Sym.cells a2:=e2;simp [Sym.cells] at e2;obtain ⟨a3,e3,_⟩:=DataW.trod_bool Tryz.underlying4 h3;simp at e3;obtain ⟨a4,e4,_⟩:=DataW.trod_bool Tryz.underlying4 h4;simp at e4;obtain ⟨a5,e5,_⟩:=DataW.trod_int Tryz.underlying3 h5;simp at e5;obtain ⟨rfl,rfl,rfl⟩:=e0;obtain ⟨rfl,rfl,rfl⟩:=e1;obtain ⟨rfl,rfl,rfl⟩:=e2;subst e3;subst e4;subst e5
    exact ⟨⟨a0,a1,a2,a3,a4,a5⟩,rfl⟩⟩
structure Z0i where
 rel:Int
 var:ByteArray
 sym:Sym
 list:List Sym
def Z0d:RepT Z0i:=
 { size:=6,rep:=fun D w x cs=>∃A1 c1,cs = [.int .i64 x.rel,.string x.var,.int .i64 x.sym.kind,.string x.sym.text,.int .i64 x.sym.n,.slice A1 x.list.length c1]∧RowR Z3r D w A1 c1 x.list,
   len:=by rintro _ _ _ _ ⟨_,_,rfl,_⟩;rfl,
   keep:=by
    rintro _ _ _ _ _ _ hs hk ⟨A1,c1,h0,h1⟩
    exact ⟨A1,c1,h0,h1.keep hs hk⟩ }
theorem Z4y {D:Nat→Prop} {w:World} {A:Option Addr} {c k:Nat} {l:List Z0i} (h:RowR Z0d D w A c l) (hk:k<l.length) : ∃g off A1 c1,A=some ⟨g,off,none⟩∧D g∧g<w.heap.size∧w.cell? ⟨g,off+k*6,none⟩=some (.int .i64 l[k].rel)∧w.cell? ⟨g,off+k*6+1,none⟩=some (.string l[k].var)∧w.cell? ⟨g,off+k*6+2,none⟩=some (.int .i64 l[k].sym.kind)∧w.cell? ⟨g,off+k*6+3,none⟩=some (.string l[k].sym.text)∧w.cell? ⟨g,off+k*6+4,none⟩=some (.int .i64 l[k].sym.n)∧w.cell? ⟨g,off+k*6+5,none⟩=some (.slice A1 l[k].list.length c1)∧RowR Z3r D w A1 c1 l[k].list:=by
 obtain ⟨g,off,cs,hA,hD,hg,⟨A1,c1,rfl,hrs⟩,hc⟩:=h.at_ hk;exact ⟨g,off,A1,c1,hA,hD,hg,by simpa [Z0d] using hc 0 _ rfl,by simpa [Z0d] using hc 1 _ rfl,by simpa [Z0d] using hc 2 _ rfl,by simpa [Z0d] using hc 3 _ rfl,by simpa [Z0d] using hc 4 _ rfl,by simpa [Z0d] using hc 5 _ rfl,hrs⟩
inductive Z0m where
 | mk (kind:Int) (goal:Bool) (id:ByteArray) (attr:List Z0i) (value:List Z0i) (acc:Bool) (conds:List Z0m)
def Z0m.kind:Z0m→Int
 | .mk x _ _ _ _ _ _=>x
def Z0m.goal:Z0m→Bool
 | .mk _ x _ _ _ _ _=>x
def Z0m.id:Z0m→ByteArray
 | .mk _ _ x _ _ _ _=>x
def Z0m.attr:Z0m→List Z0i
 | .mk _ _ _ x _ _ _=>x
def Z0m.value:Z0m→List Z0i
 | .mk _ _ _ _ x _ _=>x
def Z0m.acc:Z0m→Bool
 | .mk _ _ _ _ _ x _=>x
def Z0m.conds:Z0m→List Z0m
 | .mk _ _ _ _ _ _ x=>x
def Z0g:Nat→RepT Z0m
 | 0=>{ size:=7,rep:=fun _ _ _ _=>False,len:=fun h=>h.elim,keep:=fun _ _ h=>h }
 | n+1=>
 { size:=7,rep:=fun D w x cs=>∃A1 c1 A2 c2 A3 c3,cs = [.int .i64 x.kind,.bool x.goal,.string x.id,.slice A1 x.attr.length c1,.slice A2 x.value.length c2,.bool x.acc,.slice A3 x.conds.length c3]∧RowR Z0d D w A1 c1 x.attr∧RowR Z0d D w A2 c2 x.value∧RowR (Z0g n) D w A3 c3 x.conds,
   len:=by rintro _ _ _ _ ⟨_,_,_,_,_,_,rfl,_⟩;rfl,
   keep:=by
    rintro _ _ _ _ _ _ hs hk ⟨A1,c1,A2,c2,A3,c3,h0,h1,h2,h3⟩
    exact ⟨A1,c1,A2,c2,A3,c3,h0,h1.keep hs hk,h2.keep hs hk,h3.keep hs hk⟩ }
theorem Z87 (n:Nat):(Z0g n).size=7:=by cases n<;>rfl
theorem Z2t {n:Nat} {D:Nat→Prop} {w:World} {A:Option Addr} {c k:Nat} {l:List Z0m} (h:RowR (Z0g (n+1)) D w A c l) (hk:k<l.length) : ∃g off A1 c1 A2 c2 A3 c3,A=some ⟨g,off,none⟩∧D g∧g<w.heap.size∧w.cell? ⟨g,off+k*7,none⟩=some (.int .i64 l[k].kind)∧w.cell? ⟨g,off+k*7+1,none⟩=some (.bool l[k].goal)∧w.cell? ⟨g,off+k*7+2,none⟩=some (.string l[k].id)∧w.cell? ⟨g,off+k*7+3,none⟩=some (.slice A1 l[k].attr.length c1)∧w.cell? ⟨g,off+k*7+4,none⟩=some (.slice A2 l[k].value.length c2)∧w.cell? ⟨g,off+k*7+5,none⟩=some (.bool l[k].acc)∧w.cell? ⟨g,off+k*7+6,none⟩=some (.slice A3 l[k].conds.length c3)∧RowR Z0d D w A1 c1 l[k].attr∧RowR Z0d D w A2 c2 l[k].value∧RowR (Z0g n) D w A3 c3 l[k].conds:=by
 obtain ⟨g,off,cs,hA,hD,hg,⟨A1,c1,A2,c2,A3,c3,rfl,hrs⟩,hc⟩:=h.at_ hk;exact ⟨g,off,A1,c1,A2,c2,A3,c3,hA,hD,hg,by simpa [Z0g] using hc 0 _ rfl,by simpa [Z0g] using hc 1 _ rfl,by simpa [Z0g] using hc 2 _ rfl,by simpa [Z0g] using hc 3 _ rfl,by simpa [Z0g] using hc 4 _ rfl,by simpa [Z0g] using hc 5 _ rfl,by simpa [Z0g] using hc 6 _ rfl,hrs⟩
structure Z3t where
 var:ByteArray
 sym:Sym
structure Zcg where
 op:Int
 a:Z3t
 b:Z3t
structure ActT where
 id:ByteArray
 attr:Z3t
 value:Zcg
 pref:Int
 other:Z3t
def ActT.cells (x:ActT):List Value:=[.string x.id,.string x.attr.var,.int .i64 x.attr.sym.kind,.string x.attr.sym.text,.int .i64 x.attr.sym.n,.int .i64 x.value.op,.string x.value.a.var,.int .i64 x.value.a.sym.kind,.string x.value.a.sym.text,.int .i64 x.value.a.sym.n,.string x.value.b.var,.int .i64 x.value.b.sym.kind,.string x.value.b.sym.text,.int .i64 x.value.b.sym.n,.int .i64 x.pref,.string x.other.var,.int .i64 x.other.sym.kind,.string x.other.sym.text,.int .i64 x.other.sym.n]
theorem ActT.cells_length (x:ActT):x.cells.length=19:=rfl
def Z17:RepT ActT:=RepT.flat 19 ActT.cells ActT.cells_length
theorem Z9r {D:Nat→Prop} {w:World} {A:Option Addr} {c k:Nat} {l:List ActT} (h:RowR Z17 D w A c l) (hk:k<l.length) : ∃g off,A=some ⟨g,off,none⟩∧D g∧g<w.heap.size∧w.cell? ⟨g,off+k*19,none⟩=some (.string l[k].id)∧w.cell? ⟨g,off+k*19+1,none⟩=some (.string l[k].attr.var)∧w.cell? ⟨g,off+k*19+2,none⟩=some (.int .i64 l[k].attr.sym.kind)∧w.cell? ⟨g,off+k*19+3,none⟩=some (.string l[k].attr.sym.text)∧w.cell? ⟨g,off+k*19+4,none⟩=some (.int .i64 l[k].attr.sym.n)∧w.cell? ⟨g,off+k*19+5,none⟩=some (.int .i64 l[k].value.op)∧w.cell? ⟨g,off+k*19+6,none⟩=some (.string l[k].value.a.var)∧w.cell? ⟨g,off+k*19+7,none⟩=some (.int .i64 l[k].value.a.sym.kind)∧w.cell? ⟨g,off+k*19+8,none⟩=some (.string l[k].value.a.sym.text)∧w.cell? ⟨g,off+k*19+9,none⟩=some (.int .i64 l[k].value.a.sym.n)∧w.cell? ⟨g,off+k*19+10,none⟩=some (.string l[k].value.b.var)∧w.cell? ⟨g,off+k*19+11,none⟩=some (.int .i64 l[k].value.b.sym.kind)∧w.cell? ⟨g,off+k*19+12,none⟩=some (.string l[k].value.b.sym.text)∧w.cell? ⟨g,off+k*19+13,none⟩=some (.int .i64 l[k].value.b.sym.n)∧w.cell? ⟨g,off+k*19+14,none⟩=some (.int .i64 l[k].pref)∧w.cell? ⟨g,off+k*19+15,none⟩=some (.string l[k].other.var)∧w.cell? ⟨g,off+k*19+16,none⟩=some (.int .i64 l[k].other.sym.kind)∧w.cell? ⟨g,off+k*19+17,none⟩=some (.string l[k].other.sym.text)∧w.cell? ⟨g,off+k*19+18,none⟩=some (.int .i64 l[k].other.sym.n):=by
 obtain ⟨g,off,cs,hA,hD,hg,hr,hc⟩:=h.at_ hk;have hr2:cs=ActT.cells l[k]:=hr;subst hr2;refine ⟨g,off,hA,hD,hg,by simpa [Z17,RepT.flat] using hc 0 _ rfl,by simpa [Z17,RepT.flat] using hc 1 _ rfl,by simpa [Z17,RepT.flat] using hc 2 _ rfl,by simpa [Z17,RepT.flat] using hc 3 _ rfl,by simpa [Z17,RepT.flat] using hc 4 _ rfl,by simpa [Z17,RepT.flat] using hc 5 _ rfl,by simpa [Z17,RepT.flat] using hc 6 _ rfl,by simpa [Z17,RepT.flat] using hc 7 _ rfl,by simpa [Z17,RepT.flat] using hc 8 _ rfl,by simpa [Z17,RepT.flat] using hc 9 _ rfl,by simpa [Z17,RepT.flat] using hc 10 _ rfl,by simpa [Z17,RepT.flat] using hc 11 _ rfl,by simpa [Z17,RepT.flat] using hc 12 _ rfl,by simpa [Z17,RepT.flat] using hc 13 _ rfl,by simpa [Z17,RepT.flat] using hc 14 _ rfl,by simpa [Z17,RepT.flat] using hc 15 _ rfl,by simpa [Z17,RepT.flat] using hc 16 _ rfl,by simpa [Z17,RepT.flat] using hc 17 _ rfl,by simpa [Z17,RepT.flat] using hc 18 _ rfl⟩
structure Z35 where
 name:ByteArray
 conds:List Z0m
 acts:List ActT
structure Z0w where
 var:ByteArray
 sym:Sym
def Z0w.cells (x:Z0w):List Value:=[.string x.var,.int .i64 x.sym.kind,.string x.sym.text,.int .i64 x.sym.n]
theorem Z0w.cells_length (x:Z0w):x.cells.length=4:=rfl
def Z32:RepT Z0w:=RepT.flat 4 Z0w.cells Z0w.cells_length
theorem Zf2 {D:Nat→Prop} {w:World} {A:Option Addr} {c k:Nat} {l:List Z0w} (h:RowR Z32 D w A c l) (hk:k<l.length) : ∃g off,A=some ⟨g,off,none⟩∧D g∧g<w.heap.size∧w.cell? ⟨g,off+k*4,none⟩=some (.string l[k].var)∧w.cell? ⟨g,off+k*4+1,none⟩=some (.int .i64 l[k].sym.kind)∧w.cell? ⟨g,off+k*4+2,none⟩=some (.string l[k].sym.text)∧w.cell? ⟨g,off+k*4+3,none⟩=some (.int .i64 l[k].sym.n):=by
 obtain ⟨g,off,cs,hA,hD,hg,hr,hc⟩:=h.at_ hk;have hr2:cs=Z0w.cells l[k]:=hr;subst hr2;refine ⟨g,off,hA,hD,hg,by simpa [Z32,RepT.flat] using hc 0 _ rfl,by simpa [Z32,RepT.flat] using hc 1 _ rfl,by simpa [Z32,RepT.flat] using hc 2 _ rfl,by simpa [Z32,RepT.flat] using hc 3 _ rfl⟩
structure Z1x where
 id:Sym
 attr:Sym
 value:Sym
 other:Sym
 kind:Int
 o:Bool
 level:Int
 by_:Int
def Z1x.cells (x:Z1x):List Value:=[.int .i64 x.id.kind,.string x.id.text,.int .i64 x.id.n,.int .i64 x.attr.kind,.string x.attr.text,.int .i64 x.attr.n,.int .i64 x.value.kind,.string x.value.text,.int .i64 x.value.n,.int .i64 x.other.kind,.string x.other.text,.int .i64 x.other.n,.int .i64 x.kind,.bool x.o,.int .i64 x.level,.int .i64 x.by_]
theorem Z1x.cells_length (x:Z1x):x.cells.length=16:=rfl
def Zg4:RepT Z1x:=RepT.flat 16 Z1x.cells Z1x.cells_length
theorem Za9:Z9o Tryz.prog 68 Zg4:=
 ⟨by kernel_rfl,fun H enc w base spare held n cs x h=>by
  have hl2:cs.length=16:=(Z65 Tryz.underlying68 h).trans (by kernel_rfl);obtain ⟨m0,y0,h0⟩:=Z11 Tryz.underlying68 h 0 rfl 23 0 3 rfl rfl (by kernel_rfl);obtain ⟨m1,y1,h1⟩:=Z11 Tryz.underlying68 h 1 rfl 23 3 3 rfl rfl (by kernel_rfl);obtain ⟨m2,y2,h2⟩:=Z11 Tryz.underlying68 h 2 rfl 23 6 3 rfl rfl (by kernel_rfl);obtain ⟨m3,y3,h3⟩:=Z11 Tryz.underlying68 h 3 rfl 23 9 3 rfl rfl (by kernel_rfl);obtain ⟨m4,y4,h4⟩:=Z11 Tryz.underlying68 h 4 rfl 3 12 1 rfl rfl (by kernel_rfl);obtain ⟨m5,y5,h5⟩:=Z11 Tryz.underlying68 h 5 rfl 4 13 1 rfl rfl (by kernel_rfl);obtain ⟨m6,y6,h6⟩:=Z11 Tryz.underlying68 h 6 rfl 3 14 1 rfl rfl (by kernel_rfl);obtain ⟨m7,y7,h7⟩:=Z11 Tryz.underlying68 h 7 rfl 3 15 1 rfl rfl (by kernel_rfl)
  match cs,hl2 with
  | [v0,v1,v2,v3,v4,v5,v6,v7,v8,v9,v10,v11,v12,v13,v14,v15],_=>
    simp at h0 h1 h2 h3 h4 h5 h6 h7;obtain ⟨a0,e0⟩:=Z2l.2 H enc w base spare held _ _ _ h0;have e0:_=Sym.cells a0:=e0;simp [Sym.cells] at e0;obtain ⟨a1,e1⟩:=Z2l.2 H enc w base spare held _ _ _ h1;have e1:_=Sym.cells a1:=e1;simp [Sym.cells] at e1;obtain ⟨a2,e2⟩:=Z2l.2 H enc w base spare held _ _ _ h2;have e2:_=Sym.cells a2:=e2;simp [Sym.cells] at e2;obtain ⟨a3,e3⟩:=Z2l.2 H enc w base spare held _ _ _ h3;have e3:_=Sym.cells a3:=e3;simp [Sym.cells] at e3;obtain ⟨a4,e4,_⟩:=DataW.trod_int Tryz.underlying3 h4;simp at e4;obtain ⟨a5,e5,_⟩:=DataW.trod_bool Tryz.underlying4 h5;simp at e5;obtain ⟨a6,e6,_⟩:=DataW.trod_int Tryz.underlying3 h6;simp at e6;obtain ⟨a7,e7,_⟩:=DataW.trod_int Tryz.underlying3 h7;simp at e7;obtain ⟨rfl,rfl,rfl⟩:=e0;obtain ⟨rfl,rfl,rfl⟩:=e1;obtain ⟨rfl,rfl,rfl⟩:=e2;obtain ⟨rfl,rfl,rfl⟩:=e3;subst e4;subst e5;subst e6;subst e7
    exact ⟨⟨a0,a1,a2,a3,a4,a5,a6,a7⟩,rfl⟩⟩
structure Z07 where
 elem:Elem
 level:Int
 cause:Int
def Z07.cells (x:Z07):List Value:=[.int .i64 x.elem.id.kind,.string x.elem.id.text,.int .i64 x.elem.id.n,.int .i64 x.elem.attr.kind,.string x.elem.attr.text,.int .i64 x.elem.attr.n,.int .i64 x.elem.value.kind,.string x.elem.value.text,.int .i64 x.elem.value.n,.bool x.elem.acc,.bool x.elem.goal,.int .i64 x.elem.tag,.int .i64 x.level,.int .i64 x.cause]
theorem Z07.cells_length (x:Z07):x.cells.length=14:=rfl
def Z0u:RepT Z07:=RepT.flat 14 Z07.cells Z07.cells_length
theorem Zcl {D:Nat→Prop} {w:World} {A:Option Addr} {c k:Nat} {l:List Z07} (h:RowR Z0u D w A c l) (hk:k<l.length) : ∃g off,A=some ⟨g,off,none⟩∧D g∧g<w.heap.size∧w.cell? ⟨g,off+k*14,none⟩=some (.int .i64 l[k].elem.id.kind)∧w.cell? ⟨g,off+k*14+1,none⟩=some (.string l[k].elem.id.text)∧w.cell? ⟨g,off+k*14+2,none⟩=some (.int .i64 l[k].elem.id.n)∧w.cell? ⟨g,off+k*14+3,none⟩=some (.int .i64 l[k].elem.attr.kind)∧w.cell? ⟨g,off+k*14+4,none⟩=some (.string l[k].elem.attr.text)∧w.cell? ⟨g,off+k*14+5,none⟩=some (.int .i64 l[k].elem.attr.n)∧w.cell? ⟨g,off+k*14+6,none⟩=some (.int .i64 l[k].elem.value.kind)∧w.cell? ⟨g,off+k*14+7,none⟩=some (.string l[k].elem.value.text)∧w.cell? ⟨g,off+k*14+8,none⟩=some (.int .i64 l[k].elem.value.n)∧w.cell? ⟨g,off+k*14+9,none⟩=some (.bool l[k].elem.acc)∧w.cell? ⟨g,off+k*14+10,none⟩=some (.bool l[k].elem.goal)∧w.cell? ⟨g,off+k*14+11,none⟩=some (.int .i64 l[k].elem.tag)∧w.cell? ⟨g,off+k*14+12,none⟩=some (.int .i64 l[k].level)∧w.cell? ⟨g,off+k*14+13,none⟩=some (.int .i64 l[k].cause):=by
 obtain ⟨g,off,cs,hA,hD,hg,hr,hc⟩:=h.at_ hk;have hr2:cs=Z07.cells l[k]:=hr;subst hr2;refine ⟨g,off,hA,hD,hg,by simpa [Z0u,RepT.flat] using hc 0 _ rfl,by simpa [Z0u,RepT.flat] using hc 1 _ rfl,by simpa [Z0u,RepT.flat] using hc 2 _ rfl,by simpa [Z0u,RepT.flat] using hc 3 _ rfl,by simpa [Z0u,RepT.flat] using hc 4 _ rfl,by simpa [Z0u,RepT.flat] using hc 5 _ rfl,by simpa [Z0u,RepT.flat] using hc 6 _ rfl,by simpa [Z0u,RepT.flat] using hc 7 _ rfl,by simpa [Z0u,RepT.flat] using hc 8 _ rfl,by simpa [Z0u,RepT.flat] using hc 9 _ rfl,by simpa [Z0u,RepT.flat] using hc 10 _ rfl,by simpa [Z0u,RepT.flat] using hc 11 _ rfl,by simpa [Z0u,RepT.flat] using hc 12 _ rfl,by simpa [Z0u,RepT.flat] using hc 13 _ rfl⟩
theorem Z93:Z9o Tryz.prog 57 Z0u:=
 ⟨by kernel_rfl,fun H enc w base spare held n cs x h=>by
  have hl2:cs.length=14:=(Z65 Tryz.underlying57 h).trans (by kernel_rfl);obtain ⟨m0,y0,h0⟩:=Z11 Tryz.underlying57 h 0 rfl 55 0 12 rfl rfl (by kernel_rfl);obtain ⟨m1,y1,h1⟩:=Z11 Tryz.underlying57 h 1 rfl 3 12 1 rfl rfl (by kernel_rfl);obtain ⟨m2,y2,h2⟩:=Z11 Tryz.underlying57 h 2 rfl 3 13 1 rfl rfl (by kernel_rfl)
  match cs,hl2 with
  | [v0,v1,v2,v3,v4,v5,v6,v7,v8,v9,v10,v11,v12,v13],_=>
    simp at h0 h1 h2;obtain ⟨a0,e0⟩:=Zbz.2 H enc w base spare held _ _ _ h0;have e0:_=Elem.cells a0:=e0;simp [Elem.cells] at e0;obtain ⟨a1,e1,_⟩:=DataW.trod_int Tryz.underlying3 h1;simp at e1;obtain ⟨a2,e2,_⟩:=DataW.trod_int Tryz.underlying3 h2;simp at e2;obtain ⟨rfl,rfl,rfl,rfl,rfl,rfl,rfl,rfl,rfl,rfl,rfl,rfl⟩:=e0;subst e1;subst e2
    exact ⟨⟨a0,a1,a2⟩,rfl⟩⟩
structure Zbh where
 cond:Z0m
 binds:List Z0w
def Z1j (n:Nat):RepT Zbh:=
 { size:=8,rep:=fun D w x cs=>∃A1 c1 A2 c2 A3 c3 A4 c4,cs = [.int .i64 x.cond.kind,.bool x.cond.goal,.string x.cond.id,.slice A1 x.cond.attr.length c1,.slice A2 x.cond.value.length c2,.bool x.cond.acc,.slice A3 x.cond.conds.length c3,.slice A4 x.binds.length c4]∧RowR Z0d D w A1 c1 x.cond.attr∧RowR Z0d D w A2 c2 x.cond.value∧RowR (Z0g n) D w A3 c3 x.cond.conds∧RowR Z32 D w A4 c4 x.binds,
   len:=by rintro _ _ _ _ ⟨_,_,_,_,_,_,_,_,rfl,_⟩;rfl,
   keep:=by
    rintro _ _ _ _ _ _ hs hk ⟨A1,c1,A2,c2,A3,c3,A4,c4,h0,h1,h2,h3,h4⟩
    exact ⟨A1,c1,A2,c2,A3,c3,A4,c4,h0,h1.keep hs hk,h2.keep hs hk,h3.keep hs hk,h4.keep hs hk⟩ }
theorem Zap {n:Nat} {D:Nat→Prop} {w:World} {A:Option Addr} {c k:Nat} {l:List Zbh} (h:RowR (Z1j n) D w A c l) (hk:k<l.length) : ∃g off A1 c1 A2 c2 A3 c3 A4 c4,A=some ⟨g,off,none⟩∧D g∧g<w.heap.size∧w.cell? ⟨g,off+k*8,none⟩=some (.int .i64 l[k].cond.kind)∧w.cell? ⟨g,off+k*8+1,none⟩=some (.bool l[k].cond.goal)∧w.cell? ⟨g,off+k*8+2,none⟩=some (.string l[k].cond.id)∧w.cell? ⟨g,off+k*8+3,none⟩=some (.slice A1 l[k].cond.attr.length c1)∧w.cell? ⟨g,off+k*8+4,none⟩=some (.slice A2 l[k].cond.value.length c2)∧w.cell? ⟨g,off+k*8+5,none⟩=some (.bool l[k].cond.acc)∧w.cell? ⟨g,off+k*8+6,none⟩=some (.slice A3 l[k].cond.conds.length c3)∧w.cell? ⟨g,off+k*8+7,none⟩=some (.slice A4 l[k].binds.length c4)∧RowR Z0d D w A1 c1 l[k].cond.attr∧RowR Z0d D w A2 c2 l[k].cond.value∧RowR (Z0g n) D w A3 c3 l[k].cond.conds∧RowR Z32 D w A4 c4 l[k].binds:=by
 obtain ⟨g,off,cs,hA,hD,hg,⟨A1,c1,A2,c2,A3,c3,A4,c4,rfl,hrs⟩,hc⟩:=h.at_ hk;exact ⟨g,off,A1,c1,A2,c2,A3,c3,A4,c4,hA,hD,hg,by simpa [Z1j] using hc 0 _ rfl,by simpa [Z1j] using hc 1 _ rfl,by simpa [Z1j] using hc 2 _ rfl,by simpa [Z1j] using hc 3 _ rfl,by simpa [Z1j] using hc 4 _ rfl,by simpa [Z1j] using hc 5 _ rfl,by simpa [Z1j] using hc 6 _ rfl,by simpa [Z1j] using hc 7 _ rfl,hrs⟩
structure Z0j where
 a:Sym
 b:Sym
 rel:Int
def Z0j.cells (x:Z0j):List Value:=[.int .i64 x.a.kind,.string x.a.text,.int .i64 x.a.n,.int .i64 x.b.kind,.string x.b.text,.int .i64 x.b.n,.int .i64 x.rel]
theorem Z0j.cells_length (x:Z0j):x.cells.length=7:=rfl
def Z1s:RepT Z0j:=RepT.flat 7 Z0j.cells Z0j.cells_length
theorem Z92:Z9o Tryz.prog 34 Z1s:=
 ⟨by kernel_rfl,fun H enc w base spare held n cs x h=>by
  have hl2:cs.length=7:=(Z65 Tryz.underlying34 h).trans (by kernel_rfl);obtain ⟨m0,y0,h0⟩:=Z11 Tryz.underlying34 h 0 rfl 23 0 3 rfl rfl (by kernel_rfl);obtain ⟨m1,y1,h1⟩:=Z11 Tryz.underlying34 h 1 rfl 23 3 3 rfl rfl (by kernel_rfl);obtain ⟨m2,y2,h2⟩:=Z11 Tryz.underlying34 h 2 rfl 3 6 1 rfl rfl (by kernel_rfl)
  match cs,hl2 with
  | [v0,v1,v2,v3,v4,v5,v6],_=>
    simp at h0 h1 h2;obtain ⟨a0,e0⟩:=Z2l.2 H enc w base spare held _ _ _ h0;have e0:_=Sym.cells a0:=e0;simp [Sym.cells] at e0;obtain ⟨a1,e1⟩:=Z2l.2 H enc w base spare held _ _ _ h1;have e1:_=Sym.cells a1:=e1;simp [Sym.cells] at e1;obtain ⟨a2,e2,_⟩:=DataW.trod_int Tryz.underlying3 h2;simp at e2;obtain ⟨rfl,rfl,rfl⟩:=e0;obtain ⟨rfl,rfl,rfl⟩:=e1;subst e2
    exact ⟨⟨a0,a1,a2⟩,rfl⟩⟩
structure Z36 where
 num:Int
 level:Int
 elems:List Z07
 holes:List Zbh
 aparts:List Z0j
 news:List Sym
def Z29 (n:Nat):RepT Z36:=
 { size:=6,rep:=fun D w x cs=>∃A1 c1 A2 c2 A3 c3 A4 c4,cs = [.int .i64 x.num,.int .i64 x.level,.slice A1 x.elems.length c1,.slice A2 x.holes.length c2,.slice A3 x.aparts.length c3,.slice A4 x.news.length c4]∧RowR Z0u D w A1 c1 x.elems∧RowR (Z1j n) D w A2 c2 x.holes∧RowR Z1s D w A3 c3 x.aparts∧RowR Z3r D w A4 c4 x.news,
   len:=by rintro _ _ _ _ ⟨_,_,_,_,_,_,_,_,rfl,_⟩;rfl,
   keep:=by
    rintro _ _ _ _ _ _ hs hk ⟨A1,c1,A2,c2,A3,c3,A4,c4,h0,h1,h2,h3,h4⟩
    exact ⟨A1,c1,A2,c2,A3,c3,A4,c4,h0,h1.keep hs hk,h2.keep hs hk,h3.keep hs hk,h4.keep hs hk⟩ }
theorem Zbn {n:Nat} {D:Nat→Prop} {w:World} {A:Option Addr} {c k:Nat} {l:List Z36} (h:RowR (Z29 n) D w A c l) (hk:k<l.length) : ∃g off A1 c1 A2 c2 A3 c3 A4 c4,A=some ⟨g,off,none⟩∧D g∧g<w.heap.size∧w.cell? ⟨g,off+k*6,none⟩=some (.int .i64 l[k].num)∧w.cell? ⟨g,off+k*6+1,none⟩=some (.int .i64 l[k].level)∧w.cell? ⟨g,off+k*6+2,none⟩=some (.slice A1 l[k].elems.length c1)∧w.cell? ⟨g,off+k*6+3,none⟩=some (.slice A2 l[k].holes.length c2)∧w.cell? ⟨g,off+k*6+4,none⟩=some (.slice A3 l[k].aparts.length c3)∧w.cell? ⟨g,off+k*6+5,none⟩=some (.slice A4 l[k].news.length c4)∧RowR Z0u D w A1 c1 l[k].elems∧RowR (Z1j n) D w A2 c2 l[k].holes∧RowR Z1s D w A3 c3 l[k].aparts∧RowR Z3r D w A4 c4 l[k].news:=by
 obtain ⟨g,off,cs,hA,hD,hg,⟨A1,c1,A2,c2,A3,c3,A4,c4,rfl,hrs⟩,hc⟩:=h.at_ hk;exact ⟨g,off,A1,c1,A2,c2,A3,c3,A4,c4,hA,hD,hg,by simpa [Z29] using hc 0 _ rfl,by simpa [Z29] using hc 1 _ rfl,by simpa [Z29] using hc 2 _ rfl,by simpa [Z29] using hc 3 _ rfl,by simpa [Z29] using hc 4 _ rfl,by simpa [Z29] using hc 5 _ rfl,hrs⟩
end
section
def plV:List Sym→Sym→Nat
 | [],_=>0
 | x :: l,s=>if x=s then 1 else if plV l s=0 then 0 else plV l s+1
theorem Z3d {s:Sym} : ∀{l:List Sym},plV l s=0↔s ∉ l
 | []=>by simp [plV]
 | x :: l=>by
   have ih:=Z3d (s:=s) (l:=l);rw [plV];by_cases h:x=s
   · rw [if_pos h];subst h;simp
   · rw [if_neg h,Zij]
     by_cases h2:plV l s=0
     · rw [if_pos h2]
       have h3:=ih.1 h2;refine ⟨fun _ e=>e.elim (fun e=>h e.symm) h3,fun _=>rfl⟩
     · rw [if_neg h2]
       refine ⟨fun e=>by omega,fun e=>absurd (ih.2 (fun h4=>e (.inr h4))) h2⟩
theorem Zb6 (s:Sym) : ∀l:List Sym,plV l s≤l.length
 | []=>Zi3 _
 | x :: l=>by
   have ih:=Zb6 s l;rw [plV,Zj1]
   split
   · omega
   · split<;>omega
theorem Ze0 {s t:Sym} : ∀{l:List Sym},plV l s=plV l t→plV l s≠0→s=t
 | [],_,h=>absurd rfl h
 | x :: l,e,h=>by
   rw [plV] at h;rw [plV,plV] at e;by_cases h1:x=s
   · rw [if_pos h1] at e
     by_cases h2:x=t
     · rw [← h1,← h2]
     · rw [if_neg h2] at e
       split at e<;>omega
   · rw [if_neg h1] at e h
     by_cases h2:x=t
     · rw [if_pos h2] at e
       split at e<;>omega
     · rw [if_neg h2] at e
       split at e
       · rename_i h3;rw [if_pos h3] at h;exact absurd rfl h
       · split at e
         · omega
         · rename_i h3 h4;exact Ze0 (l:=l) (by omega) h3
def putN (ns:List Sym) (s:Sym):List Sym:=if plV ns s=0 then ns ++ [s] else ns
def Z49 (ns:List Sym) (e:Elem):List Sym:=if e.value.kind=1 then putN (putN ns e.id) e.value else putN ns e.id
theorem Z57 (ns:List Sym) (s:Sym):(putN ns s).length≤ns.length+1:=by unfold putN;split<;>simp
theorem Z7k (ns:List Sym) (e:Elem):(Z49 ns e).length≤ns.length+2:=by
 unfold Z49;have h1:=Z57 ns e.id;have h2:=Z57 (putN ns e.id) e.value
 split<;>omega
theorem Z5n {ns:List Sym} (h:ns.Nodup) (s:Sym):(putN ns s).Nodup:=by
 unfold putN
 split
 · rename_i h2
   rw [List.nodup_append];refine ⟨h,by simp,fun a ha b hb e=>?_⟩;rw [Zit] at hb;subst hb e;exact Z3d.1 h2 ha
 · exact h
theorem Z8z {ns:List Sym} (h:ns.Nodup) (e:Elem):(Z49 ns e).Nodup:=by
 unfold Z49
 split
 · exact Z5n (Z5n h _) _
 · exact Z5n h _
theorem Z7x {ns:List Sym} {s t:Sym}:t∈putN ns s↔t∈ns∨t=s:=by
 unfold putN
 split
 · simp
 · rename_i h
   refine ⟨.inl,fun h2=>h2.elim id fun e=>?_⟩;subst e;exact Ziv fun h3=>h (Z3d.2 h3)
def idN (ns:List Sym) (s:Sym):Int:=if plV ns s=0 then ns.length+1 else plV ns s
def rkN (ns:List Sym) (s:Sym):Int:=if s.kind≠1 then 0 else if plV ns s=0 then 2 else 1
def Z3o (a b:Bool):Int:=if a=b then 0 else if b=true then -1 else 1
theorem Zgn:TC Z3o:=by
 constructor
 · intro x;simp [Z3o]
 · intro x y;cases x<;>cases y<;>simp [Z3o]
 · intro x y z;cases x<;>cases y<;>cases z<;>simp [Z3o]
def cmpV (ns:List Sym) (a b:Sym):Int:=
 if rkN ns a=0 then Z1z a b else if rkN ns a=1 then Z12 (plV ns a) (plV ns b) else 0
def Z46 (ns:List Sym) (a b:Elem):Int:=
 Z0c (Z12 (idN ns a.id) (idN ns b.id)) (Z0c (Z1z a.attr b.attr) (Z0c (Z3o a.acc b.acc) (Z0c (Z12 (rkN ns a.value) (rkN ns b.value)) (Z0c (cmpV ns a.value b.value) (Z12 a.tag b.tag)))))
def keyS (ns:List Sym) (s:Sym):Sym:=if rkN ns s=0 then s else ⟨0,⟨#[]⟩,0⟩
def keyP (ns:List Sym) (s:Sym):Int:=if rkN ns s=1 then plV ns s else 0
theorem Zf7 {ns:List Sym} {a b:Sym} (h:rkN ns a=rkN ns b):cmpV ns a b=Z0c (Z1z (keyS ns a) (keyS ns b)) (Z12 (keyP ns a) (keyP ns b)):=by
 have hr : ∀x,Z12 x x=0:=Z6w.refl;have hs : ∀x,Z1z x x=0:=Z6x.refl;unfold cmpV keyS keyP;rw [← h];by_cases h0:rkN ns a=0
 · simp only [h0,if_true]
   rw [if_neg (by decide),if_neg (by decide),hr];unfold Z0c
   split<;>simp [*]
 · by_cases h1:rkN ns a=1
   · simp only [h1,if_true]
     rw [if_neg (by decide),if_neg (by decide),if_neg (by decide),hs];simp [Z0c]
   · simp [h0,h1,hr,hs,Z0c]
def Zcj (ns:List Sym) (a b:Elem):Int:=
 Z0c (Z12 (idN ns a.id) (idN ns b.id)) (Z0c (Z1z a.attr b.attr) (Z0c (Z3o a.acc b.acc) (Z0c (Z12 (rkN ns a.value) (rkN ns b.value)) (Z0c (Z1z (keyS ns a.value) (keyS ns b.value)) (Z0c (Z12 (keyP ns a.value) (keyP ns b.value)) (Z12 a.tag b.tag))))))
theorem Z7p (a b c:Int):Z0c (Z0c a b) c=Z0c a (Z0c b c):=by
 unfold Z0c
 split<;>simp_all
theorem Zf0 (ns:List Sym) (a b:Elem):Z46 ns a b=Zcj ns a b:=by
 unfold Z46 Zcj;congr 3;by_cases h:Z12 (rkN ns a.value) (rkN ns b.value)=0
 · rw [Zf7 (Z6b.1 h),Z7p]
 · simp only [Z0c,if_neg h]
theorem Zgb (ns:List Sym):TC (Z46 ns):=by
 (have h:Z46 ns=Zcj ns:=by funext a b;exact Zf0 ns a b);rw [h]
 exact Z2g (f:=fun e:Elem=>idN ns e.id) (g:=fun e:Elem=>e) (c2:=fun a b:Elem=>Z0c (Z1z a.attr b.attr) (Z0c (Z3o a.acc b.acc) (Z0c (Z12 (rkN ns a.value) (rkN ns b.value)) (Z0c (Z1z (keyS ns a.value) (keyS ns b.value)) (Z0c (Z12 (keyP ns a.value) (keyP ns b.value)) (Z12 a.tag b.tag)))))) Z6w
  (Z2g (f:=fun e:Elem=>e.attr) (g:=fun e:Elem=>e) (c2:=fun a b:Elem=>Z0c (Z3o a.acc b.acc) (Z0c (Z12 (rkN ns a.value) (rkN ns b.value)) (Z0c (Z1z (keyS ns a.value) (keyS ns b.value)) (Z0c (Z12 (keyP ns a.value) (keyP ns b.value)) (Z12 a.tag b.tag))))) Z6x
  (Z2g (f:=fun e:Elem=>e.acc) (g:=fun e:Elem=>e) (c2:=fun a b:Elem=>Z0c (Z12 (rkN ns a.value) (rkN ns b.value)) (Z0c (Z1z (keyS ns a.value) (keyS ns b.value)) (Z0c (Z12 (keyP ns a.value) (keyP ns b.value)) (Z12 a.tag b.tag)))) Zgn
  (Z2g (f:=fun e:Elem=>rkN ns e.value) (g:=fun e:Elem=>e) (c2:=fun a b:Elem=>Z0c (Z1z (keyS ns a.value) (keyS ns b.value)) (Z0c (Z12 (keyP ns a.value) (keyP ns b.value)) (Z12 a.tag b.tag))) Z6w
  (Z2g (f:=fun e:Elem=>keyS ns e.value) (g:=fun e:Elem=>e) (c2:=fun a b:Elem=>Z0c (Z12 (keyP ns a.value) (keyP ns b.value)) (Z12 a.tag b.tag)) Z6x
  (Z2g (f:=fun e:Elem=>keyP ns e.value) (g:=fun e:Elem=>e.tag) (c2:=Z12) Z6w Z6w)))))
def Z66 (ns:List Sym) (a b:Elem):Bool:=decide (Z46 ns a b<0)
def canN (ns:List Sym) (e:Elem):Bool:=e.goal || !decide (plV ns e.id=0)
def Z38 (ns:List Sym) (left:List Elem):Nat→Option Nat
 | 0=>none
 | i+1=>match left[i]? with
   | none=>Z38 ns left i
   | some e=>if canN ns e=true then (match Z38 ns left i with
    | none=>some i
    | some k=>match left[k]? with
      | none=>some i
      | some b=>if Z66 ns e b=true then some i else some k) else Z38 ns left i
theorem Z4f {ns:List Sym} {left:List Elem} : ∀{i k:Nat},Z38 ns left i=some k→k<i∧k<left.length
 | 0,_,h=>by cases h
 | i+1,k,h=>by
   rw [Z38] at h
   split at h
   · have:=Z4f h;omega
   · rename_i e he
     have hi:=(Zig.1 he).1
     split at h
     · split at h
       · injection h with h;omega
       · rename_i j hj
         have:=Z4f hj
         split at h
         · injection h with h;omega
         · split at h
           · injection h with h;omega
           · injection h with h;omega
     · have:=Z4f h;omega
theorem Z4e {ns:List Sym} {left:List Elem} : ∀{i k:Nat},Z38 ns left i=some k→∃e,left[k]? = some e∧canN ns e=true∧∀j x,j<i→left[j]? = some x→canN ns x=true→Z46 ns e x≤0
 | 0,_,h=>by cases h
 | i+1,k,h=>by
   have T:=Zgb ns;rw [Z38] at h
   cases he:left[i]? with
   | none=>
     rw [he] at h;obtain ⟨e,h1,h2,h3⟩:=Z4e h;refine ⟨e,h1,h2,fun j x hj hx hc=>?_⟩;by_cases h4:j=i
     · subst h4;rw [he] at hx;cases hx
     · exact h3 j x (by omega) hx hc
   | some y=>
     rw [he] at h;simp only at h;by_cases hy:canN ns y=true
     · rw [if_pos hy] at h
       cases hb:Z38 ns left i with
       | none=>
         rw [hb] at h;injection h with h;subst h;refine ⟨y,he,hy,fun j x hj hx hc=>?_⟩;by_cases h4:j=i
         · subst h4;rw [he] at hx;injection hx with hx;subst hx;rw [T.refl];exact Int.le_refl _
         · exact absurd (bestS_none hb j x (by omega) hx) (by rw [hc];decide)
       | some m=>
         rw [hb] at h;simp only at h;obtain ⟨b,h1,h2,h3⟩:=Z4e hb;rw [h1] at h;simp only at h;by_cases hd:Z66 ns y b=true
         · rw [if_pos hd] at h
           injection h with h;subst h;have hd2:Z46 ns y b<0:=Zjd hd;refine ⟨y,he,hy,fun j x hj hx hc=>?_⟩;by_cases h4:j=i
           · subst h4;rw [he] at hx;injection hx with hx;subst hx;rw [T.refl];exact Int.le_refl _
           · exact T.trans y b x (by omega) (h3 j x (by omega) hx hc)
         · rw [if_neg hd] at h
           injection h with h;subst h;have hd2 : ¬Z46 ns y b<0:=fun e=>hd (Zie e);refine ⟨b,h1,h2,fun j x hj hx hc=>?_⟩;by_cases h4:j=i
           · subst h4
             rw [he] at hx;injection hx with hx;subst hx;have h5:=T.symm y b;omega
           · exact h3 j x (by omega) hx hc
     · rw [if_neg hy] at h
       obtain ⟨e,h1,h2,h3⟩:=Z4e h;refine ⟨e,h1,h2,fun j x hj hx hc=>?_⟩;by_cases h4:j=i
       · subst h4;rw [he] at hx;injection hx with hx;subst hx;exact absurd hc hy
       · exact h3 j x (by omega) hx hc
where
 bestS_none {ns:List Sym} {left:List Elem} : ∀{i:Nat},Z38 ns left i=none→∀j x,j<i→left[j]? = some x→canN ns x=false
 | 0,_,j,_,h,_=>by omega
 | i+1,hb,j,x,hj,hx=>by
   rw [Z38] at hb
   cases he:left[i]? with
   | none=>
     rw [he] at hb;by_cases h4:j=i
     · subst h4;rw [he] at hx;cases hx
     · exact bestS_none hb j x (by omega) hx
   | some y=>
     rw [he] at hb;simp only at hb
     split at hb
     · exfalso
       split at hb
       · cases hb
       · split at hb
         · cases hb
         · split at hb<;>cases hb
     · rename_i hy
       by_cases h4:j=i
       · subst h4;rw [he] at hx;injection hx with hx;subst hx;simpa using hy
       · exact bestS_none hb j x (by omega) hx
def Zbp (ns:List Sym) (left:List Elem):Option Nat:=Z38 ns left left.length
def Z5x:Nat→List Sym→List Elem→List Elem→Option (List Elem×List Sym)
 | 0,ns,_,out=>some (out,ns)
 | f+1,ns,left,out=>if left = [] then some (out,ns) else
   match Zbp ns left with
   | none=>none
   | some k=>match left[k]? with
     | none=>none
     | some e=>Z5x f (Z49 ns e) (left.eraseIdx k) (out ++ [e])
def Z2v (l:List Elem):Option (List Elem×List Sym):=Z5x l.length [] l []
theorem Z7h {f:Nat} {ns:List Sym} {left out:List Elem} {k:Nat} {e:Elem} (hb:Zbp ns left=some k) (he:left[k]? = some e):Z5x (f+1) ns left out=Z5x f (Z49 ns e) (left.eraseIdx k) (out ++ [e]):=by
 (have hl:left≠[]:=by intro h;subst h;simp at he);rw [Z5x,if_neg hl,hb];simp only;rw [he]
theorem Z7g {f:Nat} {ns:List Sym} {left out:List Elem} (hl:left≠[]) (hb:Zbp ns left=none):Z5x (f+1) ns left out=none:=by
 rw [Z5x,if_neg hl,hb]
theorem Z8w {f:Nat} {ns:List Sym} {out:List Elem}:Z5x f ns [] out=some (out,ns):=by
 cases f with
 | zero=>rfl
 | succ f=>rw [Z5x,if_pos rfl]
theorem Zgw {ns:List Sym} {left:List Elem} {k:Nat} (h:Zbp ns left=some k) : ∃e,left[k]? = some e∧canN ns e=true∧∀x∈left,canN ns x=true→Z46 ns e x≤0:=by
 obtain ⟨e,h1,h2,h3⟩:=Z4e h;refine ⟨e,h1,h2,fun x hx hc=>?_⟩;obtain ⟨j,hj,rfl⟩:=List.getElem_of_mem hx;exact h3 j _ hj (Zic hj) hc
theorem Z5j : ∀{l:List Elem} {k:Nat} {e:Elem},l[k]? = some e→(e :: l.eraseIdx k).Perm l
 | [],_,_,h=>by simp at h
 | x :: l,0,e,h=>by simp at h;subst h;exact .refl _
 | x :: l,k+1,e,h=>by
   have:=Z5j (l:=l) (k:=k) (e:=e) (by simpa using h);rw [List.eraseIdx_cons_succ];exact (List.Perm.swap x e _).trans (this.cons x)
theorem Z8n {l:List Elem} {k:Nat} {e:Elem} (h:l[k]? = some e):(l.eraseIdx k).length+1=l.length:=by
 have:=(Z5j h).length_eq;simpa using this
theorem Z7i : ∀(f:Nat) (ns:List Sym) (l out:List Elem),l.length≤f→ns.Nodup→∀o n,Z5x f ns l out=some (o,n)→
 o.Perm (out++l)∧n.Nodup∧n.length≤ns.length+2*l.length∧∀s,s∈n↔s∈ns∨∃e∈l,s=e.id∨(s=e.value∧e.value.kind=1)
 | 0,ns,l,out,hf,hn,o,n,h=>by
   obtain rfl:l = []:=Zix.1 (by omega);injection h with h;injection h with h1 h2;subst h1 h2;exact ⟨by simp,hn,by simp,fun s=>by simp⟩
 | f+1,ns,l,out,hf,hn,o,n,h=>by
   by_cases hl:l = []
   · subst hl
     rw [Z8w] at h;injection h with h;injection h with h1 h2;subst h1 h2;exact ⟨by simp,hn,by simp,fun s=>by simp⟩
   · cases hb:Zbp ns l with
     | none=>rw [Z7g hl hb] at h;cases h
     | some k=>
       obtain ⟨e,h1,_,_⟩:=Zgw hb;rw [Z7h hb h1] at h;have hlen:=Z8n h1;obtain ⟨g1,g2,g3,g4⟩:=Z7i f _ _ _ (by omega) (Z8z hn e) o n h;have p1:=Z5j h1;have hnl:=Z7k ns e;refine ⟨?_,g2,by omega,fun s=>?_⟩
       · refine g1.trans ?_
         rw [List.append_assoc];exact List.Perm.append_left _ p1
       · rw [g4 s]
         have hm : ∀x,x∈l↔x=e∨x∈l.eraseIdx k:=fun x=>by rw [← p1.mem_iff,Zij]
         have hs:s∈Z49 ns e↔s∈ns∨s=e.id∨(s=e.value∧e.value.kind=1):=by
          unfold Z49;by_cases hk:e.value.kind=1
          · rw [if_pos hk,Z7x,Z7x,or_assoc];simp [hk]
          · rw [if_neg hk,Z7x];simp [hk]
         rw [hs];constructor
         · rintro ((q | q) | ⟨x,hx,q⟩)
           · exact .inl q
           · exact .inr ⟨e,(hm e).2 (.inl rfl),q⟩
           · exact .inr ⟨x,(hm x).2 (.inr hx),q⟩
         · rintro (q | ⟨x,hx,q⟩)
           · exact .inl (.inl q)
           · rcases (hm x).1 hx with rfl | hx
             · exact .inl (.inr q)
             · exact .inr ⟨x,hx,q⟩
theorem Z4r {l o:List Elem} {n:List Sym} (h:Z2v l=some (o,n)):o.Perm l∧n.Nodup∧n.length≤2*l.length∧∀s,s∈n↔∃e∈l,s=e.id∨(s=e.value∧e.value.kind=1):=by
 obtain ⟨h1,h2,h3,h4⟩:=Z7i l.length [] l [] (Zi3 _) .nil o n h;exact ⟨by simpa using h1,h2,by simpa using h3,fun s=>by rw [h4 s];simp⟩
theorem Z34 {a:Int} (b:Int) (h:a≠0):Z0c a b=a:=if_neg h
theorem Z33 {a:Int} (b:Int) (h:a=0):Z0c a b=b:=if_pos h
end
end Go.Proofs.YtldndkngpdfpfaaGreat
