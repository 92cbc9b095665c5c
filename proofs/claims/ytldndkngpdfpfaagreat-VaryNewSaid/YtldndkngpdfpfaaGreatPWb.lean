/-
  Texts put together: Eager, Range, Rep, Rec, SetLeaf, RowSym, Types.
-/
import Derived.Test.YtldndkngpdfpfaaGreatPWa
import Derived.OrdersHeld
import Derived.StillTail
import Derived.RangeFuncNested
import Derived.RangeFuncBound
import Derived.RangeFuncCalls
import Derived.RangeFuncLeaves
import Derived.OrdersIn
import Derived.OwnWalkIn
import Derived.TacticsInMore
import Derived.LoopNIn
import Derived.LoopIn
import Derived.Shelf.Abstract
import Derived.Test.YtldndkngpdfpfaaGreatRows
namespace Go.Proofs.YtldndkngpdfpfaaGreat
abbrev Cls:=Nat
section
variable {P:Program} {ops:Array Oper} {Q:Exit→Act→World→Prop} {S:World→Prop}
def waitsT (ops:Array Oper):Nat→Nat→Nat→Bool
 | 0,_,_=>false
 | n+1,j,k=>((ops[j]?).map fun o=>o.after.any fun e=>Region.binds .any e && (e.on == k || waitsT ops n e.on k)).getD false
def needS (ops:Array Oper) (ord:List (Nat×Cls)) (j:Nat):Bool:=ord.any fun (k,c)=>c == 1 && k != j && !waitsT ops ops.size j k
def okE (ops:Array Oper):List (Nat×Cls)→Array Bool→Bool
 | [],listed=>(Region.ready .any ops listed).isEmpty
 | (k,c) :: rest,listed=>(if c == 2 then Region.ready .any ops listed == [k] else (Region.ready .any ops listed).contains k && Region.free .any ops listed k) && okE ops rest (listed.setIfInBounds k true)
def behind (S:World→Prop) (qt ns:Nat→Bool) (i:Nat) (w w':World):Prop:=if qt i=true then w'=w else (ns i=true→S w')
def wpAnyE (P:Program) (ops:Array Oper) (Q:Exit→Act→World→Prop) (S:World→Prop) (qt ns:Nat→Bool):Nat→Array Bool→Act→World→Prop
 | 0,listed,a,w=>Region.ready .any ops listed = []∧Q .normal a w
 | fuel+1,listed,a,w=>
   (Region.ready .any ops listed = []→Q .normal a w)∧
   ∀i∈Region.ready .any ops listed,wpOp P ops Q i (fun a' w'=>behind S qt ns i w w'∧wpAnyE P ops Q S qt ns fuel (listed.setIfInBounds i true) a' w') a w
theorem wpAny_of_E {qt ns:Nat→Bool} : ∀(fuel:Nat) (listed:Array Bool) (a:Act) (w:World),wpAnyE P ops Q S qt ns fuel listed a w→wpAny P .any ops Q fuel listed a w
 | 0,_,_,_,h=>h
 | fuel+1,_,_,_,h=>⟨h.1,fun i hi=>wpOp_mono (fun a' w' h'=>wpAny_of_E fuel _ a' w' h'.2) (h.2 i hi)⟩
def wpE (P:Program) (ops:Array Oper) (Q:Exit→Act→World→Prop) (S:World→Prop) (ns:Nat→Bool):List (Nat×Cls)→Act→World→Prop
 | [],a,w=>Q .normal a w
 | (i,c) :: rest,a,w=>
   if c=2 then wpOp P ops Q i (fun a' w'=>(ns i=true→S w')∧wpE P ops Q S ns rest a' w') a w
   else ∃o v,ops[i]? = some o∧(if c=1 then YieldsIf P ops S o v a∧S w else Yields P ops o v a)∧wpE P ops Q S ns rest (a.put o.dst v) w
def Closed (ops:Array Oper) (listed:Array Bool):Prop:=∀(m:Nat) (o:Oper),listed.getD m false=true→ops[m]? = some o→∀e∈o.after,Region.binds .any e=true→listed.getD e.on false=true
theorem closed_ready {listed:Array Bool} (hc:Closed ops listed) {i:Nat} (hi:i∈Region.ready .any ops listed):Closed ops (listed.setIfInBounds i true):=by
 obtain ⟨hu,o,ho,hall⟩:=mem_ready.1 hi
 have up : ∀m,listed.getD m false=true→(listed.setIfInBounds i true).getD m false=true:=fun m hm=>by
  by_cases e:i=m
  · subst e
    rcases Nat.lt_or_ge i listed.size with h' | h'
    · simp [h']
    · simp [Array.getElem?_eq_none h'] at hm
  · rw [getD_set_ne false e];exact hm
 intro m om hm hom e he hb
 by_cases e':i=m
 · subst e'
   rw [ho] at hom
   cases hom
   exact up _ (hall e he hb)
 · rw [getD_set_ne false e'] at hm
   exact up _ (hc m om hm hom e he hb)
theorem listed_not_waits {listed:Array Bool} (hc:Closed ops listed) {k:Nat} (hk:listed.getD k false=false) : ∀(n m:Nat),listed.getD m false=true→waitsT ops n m k=false
 | 0,_,_=>rfl
 | n+1,m,hm=>by
   unfold waitsT
   cases ho:ops[m]? with
   | none=>rfl
   | some o=>
     simp only [Option.map_some,Option.getD_some]
     rw [Array.any_eq_false]
     intro i hi
     simp only [Bool.and_eq_true,Bool.or_eq_true,beq_iff_eq,not_and,not_or,Bool.not_eq_true]
     intro hb
     have hl:=hc m o hm ho o.after[i] (Array.getElem_mem hi) hb
     refine ⟨fun e=>?_,listed_not_waits hc hk n _ hl⟩
     rw [e,hk] at hl
     cases hl
theorem ready_not_waits {listed:Array Bool} (hc:Closed ops listed) {k j:Nat} (hk:listed.getD k false=false) (hj:j∈Region.ready .any ops listed) (n:Nat):waitsT ops n j k=false:=by
 cases n with
 | zero=>rfl
 | succ n=>
   obtain ⟨_,o,ho,hall⟩:=mem_ready.1 hj
   unfold waitsT
   simp only [ho,Option.map_some,Option.getD_some]
   rw [Array.any_eq_false]
   intro i hi
   simp only [Bool.and_eq_true,Bool.or_eq_true,beq_iff_eq,not_and,not_or,Bool.not_eq_true]
   intro hb
   have hl:=hall o.after[i] (Array.getElem_mem hi) hb
   refine ⟨fun e=>?_,listed_not_waits hc hk n _ hl⟩
   rw [e,hk] at hl
   cases hl
theorem wpAnyE_first {qt ns:Nat→Bool} {i:Nat} {oi:Oper} {v:Value} (hi:ops[i]? = some oi) (hsel : ∀(j:Nat) (o:Oper) cs b,ops[j]? = some o→o.op≠.select cs b)
 (hQ : ∀c a w,Q (.panic c) (a.put oi.dst v) w→Q (.panic c) a w) (L:Bool) (hqt:qt i=true) (hns:L=true→∀(j:Nat),waitsT ops ops.size j i=false→j≠i→j<ops.size→ns j=true) :
 ∀(fuel:Nat) (listed:Array Bool) (a:Act) (w:World),Closed ops listed→
  (∀j oj,ops[j]? = some oj→j≠i→listed.getD j true=false→(∀e∈oj.after,Region.binds .any e=true→e.on≠i)→oi.apart ops oj=true)→
  i∈Region.ready .any ops listed→YieldsIf P ops (fun w=>L=true→S w) oi v a→(L=true→S w)→
  wpAnyE P ops Q S qt ns fuel (listed.setIfInBounds i true) (a.put oi.dst v) w→wpAnyE P ops Q S qt ns (fuel+1) listed a w:=by
 have own : ∀w:World,behind S qt ns i w w:=fun w=>by unfold behind;rw [if_pos hqt]
 intro fuel
 induction fuel with
 | zero=>
   intro listed a w _ _ hr hy hS H
   refine ⟨fun h=>(by rw [h] at hr;cases hr),fun j hj=>?_⟩
   by_cases hji:j=i
   · subst hji;exact hy.wpOp hi hS ⟨own w,H⟩
   · have:=ready_mono hj hji
     rw [H.1] at this
     cases this
 | succ fuel ih=>
   intro listed a w hcl hfree hr hy hS H
   refine ⟨fun h=>(by rw [h] at hr;cases hr),fun j hj=>?_⟩
   by_cases hji:j=i
   · subst hji;exact hy.wpOp hi hS ⟨own w,H⟩
   · have h1:=H.2 j (ready_mono hj hji)
     obtain ⟨hjun,oj,hoj,hall⟩:=mem_ready.1 hj
     have hiun:listed.getD i false=false:=by
      have h0:=(mem_ready.1 hr).1
      rcases Nat.lt_or_ge i listed.size with h' | h'
      · simp [h'] at h0 ⊢;exact h0
      · simp [Array.getElem?_eq_none h'] at h0
     have hnot : ∀e∈oj.after,Region.binds .any e=true→e.on≠i:=fun e he hb heq=>by
      have h1:=hall e he hb
      rw [heq,hiun] at h1
      cases h1
     have hnsj:L=true→ns j=true:=fun hL=>hns hL j (ready_not_waits hcl hiun hj _) hji (Array.getElem?_eq_some_iff.1 hoj).1
     have h2:=wpOp_putIf hoj (hfree j oj hoj hji hjun hnot) (fun cs b=>hsel i oi cs b hi) (fun cs b=>hsel j oj cs b hoj) hQ hy h1
     have hfree' : ∀k ok,ops[k]? = some ok→k≠i→(listed.setIfInBounds j true).getD k true=false→
      (∀e∈ok.after,Region.binds .any e=true→e.on≠i)→oi.apart ops ok=true:=fun k ok hk hki hun hno=>by
      refine hfree k ok hk hki ?_ hno
      by_cases hjk:j=k
      · subst hjk;exact hjun
      · rw [getD_set_ne true hjk] at hun;exact hun
     refine wpOp_mono (fun a' w' h3=>⟨h3.2.1,?_⟩) h2
     have hS':L=true→S w':=fun hL=>by
      have hb:=h3.2.1
      unfold behind at hb
      by_cases hq:qt j=true
      · rw [if_pos hq] at hb;rw [hb];exact hS hL
      · rw [if_neg hq] at hb;exact hb (hnsj hL)
     refine ih (listed.setIfInBounds j true) a' w' (closed_ready hcl hj) hfree' (ready_mono hr (Ne.symm hji)) h3.1 hS' ?_
     rw [Array.setIfInBounds_comm _ _ hji]
     exact h3.2.2
theorem wpAnyE_of {ord:List (Nat×Cls)} {qt ns:Nat→Bool} (hsel:Region.noSelect ops=true) (hQ : ∀c a a' w,Q (.panic c) a w→Q (.panic c) a' w)
 (hqt : ∀k c,(k,c)∈ord→(qt k=true↔c≠2)) (hns : ∀k,(k,1)∈ord→∀j,waitsT ops ops.size j k=false→j≠k→j<ops.size→ns j=true) :
 ∀(rest:List (Nat×Cls)) (listed:Array Bool) (a:Act) (w:World),(∀x∈rest,x∈ord)→Closed ops listed→okE ops rest listed=true→wpE P ops Q S ns rest a w→wpAnyE P ops Q S qt ns rest.length listed a w
 | [],listed,a,w,_,_,hB,h=>⟨by simpa [okE] using hB,h⟩
 | (k,c) :: rest,listed,a,w,hm,hcl,hB,h=>by
   simp only [okE,Bool.and_eq_true] at hB
   obtain ⟨hB1,hB2⟩:=hB
   have hmk:=hm (k,c) (by simp)
   simp only [wpE] at h
   by_cases hc:c=2
   · subst hc
     simp only [beq_self_eq_true,if_true] at hB1
     have hr:Region.ready .any ops listed = [k]:=by simpa using hB1
     simp only [if_true] at h
     refine ⟨fun h0=>(by rw [hr] at h0;cases h0),fun i hi=>?_⟩
     rw [hr] at hi
     obtain rfl:i=k:=by simpa using hi
     refine wpOp_mono (fun a' w' h'=>⟨?_,wpAnyE_of hsel hQ hqt hns rest _ a' w' (fun x hx=>hm x (by simp [hx])) (closed_ready hcl (by rw [hr];simp)) hB2 h'.2⟩) h
     unfold behind
     rw [if_neg (fun hq=>(hqt i 2 hmk).1 hq rfl)]
     exact h'.1
   · rw [if_neg (by simpa using hc)] at hB1
     simp only [Bool.and_eq_true] at hB1
     rw [if_neg hc] at h
     obtain ⟨o,v,ho,hy,hk⟩:=h
     have hrdy:k∈Region.ready .any ops listed:=by simpa using hB1.1
     have hrest:=wpAnyE_of hsel hQ hqt hns rest _ _ w (fun x hx=>hm x (by simp [hx])) (closed_ready hcl hrdy) hB2 hk
     by_cases h1:c=1
     · subst h1
       rw [if_pos rfl] at hy
       exact wpAnyE_first ho (Region.noSelect_spec hsel) (fun c a w=>hQ c _ _ w) true ((hqt k 1 hmk).2 hc) (fun _=>hns k hmk) rest.length listed a w hcl (Region.free_spec ho hB1.2) hrdy
        (hy.1.imp (fun ⟨p,q⟩=>⟨p,fun w' hw'=>q w' (hw' rfl)⟩) id) (fun _=>hy.2) hrest
     · rw [if_neg h1] at hy
       exact wpAnyE_first ho (Region.noSelect_spec hsel) (fun c a w=>hQ c _ _ w) false ((hqt k c hmk).2 hc) (fun h=>by cases h) rest.length listed a w hcl (Region.free_spec ho hB1.2) hrdy
        (hy.imp (fun ⟨p,q⟩=>⟨p,fun w' _=>q w'⟩) id) (fun h=>by cases h) hrest
def okOrd (ops:Array Oper) (ord:List (Nat×Cls)):Bool:=
 Region.noSelect ops && okE ops ord (Array.replicate ops.size false) && ord.length == ops.size && (ord.map (·.1)).Nodup && ord.all fun x=>x.1<ops.size
def OnlyN (K:Act→World→Prop):Exit→Act→World→Prop
 | .normal,a,w=>K a w
 | _,_,_=>False
@[go_sem] theorem OnlyN_normal (K:Act→World→Prop) (a:Act) (w:World):OnlyN K .normal a w=K a w:=rfl
def wpX (P:Program) (ops:Array Oper) (Q:Exit→Act→World→Prop) (S:World→Prop) (ns:Nat→Bool):List (Nat×Cls×Oper)→Act→World→Prop
 | [],a,w=>Q .normal a w
 | (i,c,o) :: rest,a,w=>
   if c=2 then (if Region.wanted o (yielded ops a.tmps)=true then o.wp P a w (fun a' w'=>(ns i=true→S w')∧wpX P ops Q S ns rest a' w') Q else (ns i=true→S w)∧wpX P ops Q S ns rest (a.put o.dst undef) w)
   else ∃v,(if c=1 then YieldsIf P ops S o v a∧S w else Yields P ops o v a)∧wpX P ops Q S ns rest (a.put o.dst v) w
def beside (ops:Array Oper) (ord:List (Nat×Cls)):List (Nat×Cls×Oper):=ord.filterMap fun (i,c)=>(ops[i]?).map fun o=>(i,c,o)
theorem wpE_of_X {ns:Nat→Bool} : ∀(ord:List (Nat×Cls)) (a:Act) (w:World),(∀x∈ord,x.1<ops.size)→wpX P ops Q S ns (beside ops ord) a w→wpE P ops Q S ns ord a w
 | [],_,_,_,h=>h
 | (i,c) :: rest,a,w,hl,h=>by
   have hi:i<ops.size:=hl (i,c) (by simp)
   have ho:ops[i]? = some ops[i]:=Array.getElem?_eq_getElem hi
   have hb:beside ops ((i,c) :: rest)=(i,c,ops[i]) :: beside ops rest:=by simp [beside,ho]
   have ih:=fun a w=>wpE_of_X (ns:=ns) rest a w (fun x hx=>hl x (by simp [hx]))
   rw [hb] at h
   simp only [wpX] at h
   simp only [wpE]
   split
   · rename_i hc
     rw [if_pos hc] at h
     unfold wpOp
     simp only [ho]
     split
     · rename_i hw
       rw [if_pos hw] at h
       exact .inl (Oper.wp_mono (fun a w h=>⟨h.1,ih _ _ h.2⟩) h)
     · rename_i hw
       rw [if_neg hw] at h
       exact ⟨h.1,ih _ _ h.2⟩
   · rename_i hc
     rw [if_neg hc] at h
     obtain ⟨v,h1,h2⟩:=h
     exact ⟨_,v,ho,h1,ih _ _ h2⟩
theorem wpAny_E {l:List Oper} {a:Act} {w:World} (S:World→Prop) (ord:List (Nat×Cls)) (hB:okOrd l.toArray ord=true)
 (h : ∀K:Act→World→Prop,(∀a w,Q .normal a w→K a w)→wpX P l.toArray (OnlyN K) S (needS l.toArray ord) (beside l.toArray ord) a w.drew) :
 wpAny P .any l.toArray (OnlyN fun a w=>Q .normal a w) l.toArray.size (Array.replicate l.toArray.size false) a w.drew:=by
 simp only [okOrd,Bool.and_eq_true,beq_iff_eq,decide_eq_true_eq] at hB
 obtain ⟨⟨⟨⟨hsel,hE⟩,hlen⟩,hnd⟩,hlt0⟩:=hB
 have hlt : ∀x∈ord,x.1<l.toArray.size:=by simpa [List.all_eq_true] using hlt0
 clear hlt0
 have h0:=wpE_of_X ord a w.drew hlt (h (fun a w=>Q .normal a w) (fun _ _ h=>h))
 have hcl:Closed l.toArray (Array.replicate l.toArray.size false):=fun m o hm=>by rw [getD_replicate_false] at hm;cases hm
 have hone : ∀k c c',(k,c)∈ord→(k,c')∈ord→c=c':=fun k c c' h1 h2=>by
  clear h h0 hE hlen hcl hlt
  induction ord with
  | nil=>cases h1
  | cons x r ih=>
    simp only [List.map_cons,List.nodup_cons,List.mem_map,not_exists,not_and] at hnd
    rcases List.mem_cons.1 h1 with e1 | h3
    · rcases List.mem_cons.1 h2 with e2 | h4
      · rw [← e1] at e2;injection e2 with _ e;exact e.symm
      · subst e1;exact absurd rfl (hnd.1 (k,c') h4)
    · rcases List.mem_cons.1 h2 with e2 | h4
      · subst e2;exact absurd rfl (hnd.1 (k,c) h3)
      · exact ih hnd.2 h3 h4
 have H:=wpAnyE_of (P:=P) (Q:=OnlyN fun a w=>Q .normal a w) (S:=S) (ord:=ord) (qt:=fun k=>ord.any fun (j,c)=>j == k && c != 2) (ns:=needS l.toArray ord) hsel (fun c a a' w h=>h)
  (fun k c hk=>by
    simp only [List.any_eq_true,Bool.and_eq_true,beq_iff_eq,bne_iff_ne]
    constructor
    · rintro ⟨⟨j,c'⟩,hj,hjk,hc'⟩
      dsimp only at hjk hc'
      subst hjk
      rw [hone _ _ _ hk hj];exact hc'
    · intro hc;exact ⟨(k,c),hk,rfl,hc⟩)
  (fun k hk j hw hjk _=>by
    unfold needS
    rw [List.any_eq_true]
    exact ⟨(k,1),hk,by dsimp only;rw [hw];simp [Ne.symm hjk]⟩)
  ord (Array.replicate l.toArray.size false) a w.drew (fun _ hx=>hx) hcl hE h0
 rw [hlen] at H
 exact wpAny_of_E _ _ _ _ H
theorem wp_region_E {id:Nat} {l:List Oper} {a:Act} {w:World} (S:World→Prop) (ord:List (Nat×Cls)) (hm:P.follows .mixedOrders=true) (hB:okOrd l.toArray ord=true)
 (h : ∀K:Act→World→Prop,(∀a w,Q .normal a w→K a w)→wpX P l.toArray (OnlyN K) S (needS l.toArray ord) (beside l.toArray ord) a w.drew):(Code.region id l.toArray true).wp P Q a w:=
 Code.wp_mono (Q:=OnlyN fun a w=>Q .normal a w) (fun e a w hq=>by cases e<;>first | exact hq | exact hq.elim) (wp_region_any hm (wpAny_E S ord hB h))
variable {ns:Nat→Bool} {rest:List (Nat×Cls×Oper)} {a:Act} {w:World} {i:Nat} {o:Oper}
theorem wpX_nil (h:Q .normal a w):wpX P ops Q S ns [] a w:=h
theorem wpX_w (v:Value) (hy:Yields P ops o v a) (h:wpX P ops Q S ns rest (a.put o.dst v) w):wpX P ops Q S ns ((i,0,o) :: rest) a w:=by
 simp only [wpX]
 exact ⟨v,by simpa using hy,h⟩
theorem wpX_l (v:Value) (hS:S w) (hy:YieldsIf P ops S o v a) (h:wpX P ops Q S ns rest (a.put o.dst v) w):wpX P ops Q S ns ((i,1,o) :: rest) a w:=by
 simp only [wpX]
 exact ⟨v,by simpa using ⟨hy,hS⟩,h⟩
theorem wpX_e (hn:ns i=false)
 (h : ∀K:Act→World→Prop,(∀a w,wpX P ops Q S ns rest a w→K a w)→if Region.wanted o (yielded ops a.tmps)=true then Oper.wp P o a w K Q else K (a.put o.dst undef) w):wpX P ops Q S ns ((i,2,o) :: rest) a w:=by
 have:=h (fun a' w'=>(ns i=true→S w')∧wpX P ops Q S ns rest a' w') (fun a w h2=>⟨fun h=>absurd h (by rw [hn];simp),h2⟩)
 simpa only [wpX,if_true] using this
theorem wpX_es
 (h : ∀K:Act→World→Prop,(∀a w,S w→wpX P ops Q S ns rest a w→K a w)→if Region.wanted o (yielded ops a.tmps)=true then Oper.wp P o a w K Q else K (a.put o.dst undef) w):wpX P ops Q S ns ((i,2,o) :: rest) a w:=by
 have:=h (fun a' w'=>(ns i=true→S w')∧wpX P ops Q S ns rest a' w') (fun a w h1 h2=>⟨fun _=>h1,h2⟩)
 simpa only [wpX,if_true] using this
end
end Go.Proofs.YtldndkngpdfpfaaGreat
namespace Go.Proofs.YtldndkngpdfpfaaGreat
open Go.RowKit
def cellsAt (W:World) (k:Nat):Prop:=∃c e f,W.heap[k]? = some (.cells c e f)
structure Priv (B:Nat) (W W':World):Prop where
 os:W'.os=W.os
 tape:W'.tape=W.tape
 output:W'.output=W.output
 size:W.heap.size≤W'.heap.size
 block : ∀k,k<W.heap.size→(k<B∨cellsAt W k)→W'.heap[k]? = W.heap[k]?
section
variable {B B':Nat} {W W' X Y Z:World}
theorem Priv.refl (B:Nat) (W:World):Priv B W W:=⟨rfl,rfl,rfl,Nat.le_refl _,fun _ _ _=>rfl⟩
theorem Priv.trans (h:Priv B X Y) (k:Priv B Y Z):Priv B X Z:=
 ⟨k.os.trans h.os,k.tape.trans h.tape,k.output.trans h.output,Nat.le_trans h.size k.size,fun i hi hc=>by
  have e:=h.block i hi hc
  refine (k.block i (Nat.lt_of_lt_of_le hi h.size) (hc.imp id fun ⟨c,t,f,hh⟩=>⟨c,t,f,e.trans hh⟩)).trans e⟩
theorem Priv.alloc (h:Priv B X Y) (o:Obj):Priv B X (Y.alloc o):=
 ⟨h.os,h.tape,h.output,Nat.le_trans h.size (by simp),fun k hk hc=>(Below.heap_alloc Y o k (Nat.lt_of_lt_of_le hk h.size)).trans (h.block k hk hc)⟩
theorem Priv.drew (h:Priv B X Y):Priv B X Y.drew:=⟨h.os,h.tape,h.output,h.size,h.block⟩
theorem Priv.mono (h:Priv B' X Y) (hB:B≤B'):Priv B X Y:=⟨h.os,h.tape,h.output,h.size,fun k hk hc=>h.block k hk (hc.imp (fun h=>by omega) id)⟩
theorem Blk.at_ {g:Nat} {t:TypeId} {cs:Array Value} (h:Blk W g t cs):cellsAt W g:=⟨_,_,_,h⟩
theorem KeepsFrom.set_ (h:KeepsFrom B X Y) (a:Addr) (v:Value):KeepsFrom B X (Y.setCell a v):=h.trans ((KeepsOthers.setCell Y a v).from B)
end
variable {P:Program}
def Iter {α:Type} (P:Program) (gf:Nat) (lb:Array Value) (encs:α→Array Value) (xs:List α) (W:World) (start Kp:World→World→Prop):Prop:=
 ∀(l:Nat) (J Jx:List α→World→Prop),(∀p X Y,J p X→Priv W.heap.size X Y→J p Y)→(∀p X Y,Jx p X→Priv W.heap.size X Y→Jx p Y)→
  (∀W1,start W W1→J [] W1)→
  (∀pre x post W1,xs=pre++x :: post→J pre W1→YieldAt Fence.wide 0 P l (encs x) W1 fun e W'=>
    (e = .returned (.bool true)∧J (pre ++ [x]) W'∧Kp W1 W')∨(e = .returned (.bool false)∧Jx (pre ++ [x]) W'))→
  CallsIn Fence.wide 0 P gf (#[.func (.yield l) #[] #[]]++lb) W fun e W'=>(∃v,e = .returned v)∧(J xs W'∨∃pre post,xs=pre++post∧Jx pre W')
theorem KeepsFrom.up {B C:Nat} {X Y:World} (h:KeepsFrom B X Y) (hB:B≤C):KeepsFrom C X Y:=⟨h.size,fun k o hC hk hc=>h.same k o (by omega) hk hc⟩
end Go.Proofs.YtldndkngpdfpfaaGreat
namespace Go.Proofs.YtldndkngpdfpfaaGreat
open Go.RowKit Go.ChangeShapes Go.WideShapes Go.Deep
structure RepT (α:Type) where
 size:Nat
 rep:(Nat→Prop)→World→α→List Value→Prop
 len : ∀{D:Nat→Prop} {w:World} {a:α} {cs:List Value},rep D w a cs→cs.length=size
 keep : ∀{D D':Nat→Prop} {w w':World} {a:α} {cs:List Value},w.heap.size≤w'.heap.size→(∀k,D k→k<w.heap.size→D' k∧w'.heap[k]? = w.heap[k]?)→rep D w a cs→rep D' w' a cs
def RowR {α:Type} (r:RepT α) (D:Nat→Prop) (w:World) (A:Option Addr) (c:Nat) (l:List α):Prop:=
 l.length≤c∧c≤maxLen∧
  (0<l.length→∃b off,A=some ⟨b,off,none⟩∧D b∧b<w.heap.size∧∀k,(h:k<l.length)→∃cs,r.rep D w l[k] cs∧∀j u,cs[j]? = some u→w.cell? ⟨b,off+k*r.size+j,none⟩=some u)
section
variable {α:Type} {r:RepT α} {D D':Nat→Prop} {w w':World} {A:Option Addr} {c:Nat} {l:List α}
theorem RowR.keep (h:RowR r D w A c l) (hs:w.heap.size≤w'.heap.size) (hk : ∀k,D k→k<w.heap.size→D' k∧w'.heap[k]? = w.heap[k]?):RowR r D' w' A c l:=by
 refine ⟨h.1,h.2.1,fun h0=>?_⟩
 obtain ⟨b,off,h1,h2,h3,h4⟩:=h.2.2 h0
 refine ⟨b,off,h1,(hk b h2 h3).1,by omega,fun k hk'=>?_⟩
 obtain ⟨cs,h5,h6⟩:=h4 k hk'
 exact ⟨cs,r.keep hs hk h5,fun j u hu=>(World.cell?_of_block (hk b h2 h3).2).trans (h6 j u hu)⟩
theorem RowR.nil (r:RepT α) (D:Nat→Prop) (w:World):RowR r D w none 0 []:=⟨Nat.le_refl _,Nat.zero_le _,fun h=>absurd h (by simp)⟩
theorem RowR.cap (h:RowR r D w A c l):(l.length:Int)≤9223372036854775807:=by have:=h.1;have:=h.2.1;unfold maxLen at this;omega
theorem RowR.at_ (h:RowR r D w A c l) {k:Nat} (hk:k<l.length) : ∃b off cs,A=some ⟨b,off,none⟩∧D b∧b<w.heap.size∧r.rep D w l[k] cs∧∀j u,cs[j]? = some u→w.cell? ⟨b,off+k*r.size+j,none⟩=some u:=by
 obtain ⟨b,off,h1,h2,h3,h4⟩:=h.2.2 (by omega)
 obtain ⟨cs,h5,h6⟩:=h4 k hk
 exact ⟨b,off,cs,h1,h2,h3,h5,h6⟩
theorem RowR.weaken (h:RowR r D w A c l) (hD : ∀k,D k→D' k):RowR r D' w A c l:=h.keep (Nat.le_refl _) (fun k hk _=>⟨hD k hk,rfl⟩)
theorem RowR.new_ (h:RowR r D w A c l) (hb:Below w.heap.size w w'):RowR r D w' A c l:=h.keep hb.size (fun k hk hl=>⟨hk,hb.block k hl⟩)
theorem RowR.fr {M:Nat→Prop} (h:RowR r D w A c l) (hb:Fr M w w') (hm : ∀k,D k→¬M k):RowR r D w' A c l:=h.keep hb.size (fun k hk hl=>⟨hk,hb.block k hl (hm k hk)⟩)
end
def RepT.flat {α:Type} (size:Nat) (cells:α→List Value) (h : ∀a,(cells a).length=size):RepT α:=
 ⟨size,fun _ _ a cs=>cs=cells a,by rintro _ _ _ _ rfl;exact h _,by rintro _ _ _ _ _ _ _ _ h;exact h⟩
theorem RowR.rd {α:Type} {size:Nat} {cells:α→List Value} {hs : ∀a,(cells a).length=size} {D:Nat→Prop} {w:World} {A:Option Addr} {c:Nat} {l:List α} (h:RowR (RepT.flat size cells hs) D w A c l):RowRd w size cells A c l:=by
 refine ⟨h.1,h.2.1,fun h0=>?_⟩
 obtain ⟨b,off,h1,h2,h3,h4⟩:=h.2.2 h0
 refine ⟨b,off,h1,h3,fun k hk j u hu=>?_⟩
 obtain ⟨cs,h5,h6⟩:=h4 k hk
 have h5':cs=cells l[k]:=h5
 exact h6 j u (by rw [h5'];exact hu)
theorem RowR.ain {α:Type} {r:RepT α} {D:Nat→Prop} {w:World} {A:Option Addr} {c:Nat} {l:List α} (h:RowR r D w A c l) (h0:0<l.length):AIn A D:=by
 obtain ⟨b,off,rfl,h2,_⟩:=h.2.2 h0
 intro a ha;cases ha;exact h2
theorem RowR.of_rd {α:Type} {size:Nat} {cells:α→List Value} {hs : ∀a,(cells a).length=size} {D:Nat→Prop} {w:World} {A:Option Addr} {c:Nat} {l:List α} (h:RowRd w size cells A c l) (hA:AIn A D):RowR (RepT.flat size cells hs) D w A c l:=by
 refine ⟨h.1,h.2.1,fun h0=>?_⟩
 obtain ⟨b,off,h1,h2,h3⟩:=h.2.2 h0
 exact ⟨b,off,h1,hA _ h1,h2,fun k hk=>⟨_,rfl,h3 k hk⟩⟩
def RepT.list {α:Type} (r:RepT α):RepT (List α):=
 ⟨1,fun D w l cs=>∃A c,cs = [.slice A l.length c]∧RowR r D w A c l,by rintro _ _ _ _ ⟨_,_,rfl,_⟩;rfl,by
  rintro _ _ _ _ _ _ hs hk ⟨A,c,h1,h2⟩;exact ⟨A,c,h1,h2.keep hs hk⟩⟩
def Opens {α:Type} (P:Program) (t:TypeId) (r:RepT α):Prop:=
 P.cellsOf t=r.size∧∀(H:Type) (enc:TypeId×Value→H) (w:World) (base:Nat) (spare:Nat→Bool) (held:Bool) (n:Nat) (cs:List Value) (x:DataW H×List MemPlace),
  DataW.trod enc P w base spare held n t cs=some x→∃a:α,r.rep (· < w.heap.size) w a cs
theorem opens_of_reads {α:Type} {P:Program} {t:TypeId} {size:Nat} {cells:α→List Value} (hs : ∀a,(cells a).length=size) (h:Reads P t size cells):Opens P t (RepT.flat size cells hs):=
 ⟨h.1,fun H enc w base spare held n cs x hx=>h.2 H enc w base spare held n cs x hx⟩
theorem row_of_trod {H:Type} {enc:TypeId×Value→H} {P:Program} {w:World} {base:Nat} {spare:Nat→Bool} {held:Bool} {α:Type} {r:RepT α} {t e:TypeId} {fuel:Nat} {cs:List Value} {x:DataW H×List MemPlace}
 (ht:P.underlying t=some (.slice e)) (h0:0<r.size) (hr:P.cellsOf e=r.size) (hE : ∀n cs x,DataW.trod enc P w base spare held n e cs=some x→∃a:α,r.rep (· < w.heap.size) w a cs)
 (hf:DataW.trod enc P w base spare held fuel t cs=some x) : ∃A c,∃l:List α,cs = [.slice A l.length c]∧RowR r (· < w.heap.size) w A c l:=by
 rcases open_slice ht hf with ⟨h1,_⟩ | ⟨a,len,cap,m,n,Dd,Pl,h1,_,hl,hm,hmm,_,hx⟩
 · exact ⟨none,0,[],h1,RowR.nil _ _ _⟩
 · have hlm:len≤m:=by rw [hmm];split<;>omega
   obtain ⟨l,hll,hq⟩:=list_of (α:=α) (Q:=fun i x=>∃cs',r.rep (· < w.heap.size) w x cs'∧∀j u,cs'[j]? = some u→w.cell? ((a.add (i*r.size)).add j)=some u) len (fun i hi=>by
    obtain ⟨cs',c1,c2⟩:=hx i (by omega)
    obtain ⟨x,hrep⟩:=hE n cs' _ c2
    obtain ⟨_,hlen,hcell⟩:=World.cells?_some c1
    rw [hr] at hcell hlen
    exact ⟨x,cs',hrep,fun j u hu=>(hcell j (by rw [← hlen];exact (List.getElem?_eq_some_iff.1 hu).1)).trans hu⟩)
   subst hll
   refine ⟨some a,cap,l,h1,hl,hm,fun hpos=>?_⟩
   obtain ⟨cs',c1,c2⟩:=hx 0 (by omega)
   obtain ⟨_,hlen,hcell⟩:=World.cells?_some c1
   rw [hr] at hlen hcell
   have hspot:a.spot=none:=by
    have:=hcell 0 h0
    rw [List.getElem?_eq_getElem (by omega)] at this
    have e2:(a.add (0*r.size)).add 0=a:=by simp [Addr.add]
    rw [e2] at this
    exact World.cell?_spot this
   obtain ⟨b,off,spot⟩:=a
   simp only at hspot
   subst hspot
   have hbl:b<w.heap.size:=by
    have:=hcell 0 h0
    rw [List.getElem?_eq_getElem (by omega)] at this
    have e2:((⟨b,off,none⟩:Addr).add (0*r.size)).add 0=⟨b,off,none⟩:=by simp [Addr.add]
    rw [e2] at this
    exact World.block_lt_of_cell? w _ this
   refine ⟨b,off,rfl,hbl,hbl,fun k hk=>?_⟩
   obtain ⟨cs2,g1,g2⟩:=hq k hk
   refine ⟨cs2,g1,fun j u hu=>?_⟩
   have:=g2 j u hu
   rwa [add_plain,add_plain] at this
theorem trod_field {H:Type} {enc:TypeId×Value→H} {P:Program} {w:World} {base:Nat} {spare:Nat→Bool} {held:Bool} {t:TypeId} {fs:Array Field} {n:Nat} {cs:List Value} {x:DataW H×List MemPlace}
 (ht:P.underlying t=some (.struct fs)) (h:DataW.trod enc P w base spare held n t cs=some x) (i:Nat) {f:Field} (hf:fs[i]? = some f) (ty off sz:Nat) (e1:f.type=ty) (e2:f.offset=off) (e3:P.cellsOf ty=sz) :
 ∃m y,DataW.trod enc P w base spare held m ty ((cs.drop off).take sz)=some y:=by
 obtain ⟨xs,n2,_,_,_,hlen,hx⟩:=DataW.trod_struct ht h
 have h1:=hx i f hf
 subst e1;subst e2;subst e3
 have hi:i<xs.length:=by
  have:=(Array.getElem?_eq_some_iff.1 hf).1
  omega
 rw [List.getElem?_eq_getElem hi] at h1
 exact ⟨n2,_,h1⟩
theorem trod_len {H:Type} {enc:TypeId×Value→H} {P:Program} {w:World} {base:Nat} {spare:Nat→Bool} {held:Bool} {t:TypeId} {fs:Array Field} {n:Nat} {cs:List Value} {x:DataW H×List MemPlace}
 (ht:P.underlying t=some (.struct fs)) (h:DataW.trod enc P w base spare held n t cs=some x):cs.length=P.cellsOf t:=by
 obtain ⟨_,_,_,_,hl,_⟩:=DataW.trod_struct ht h
 exact hl
theorem open_rowR {H:Type} {enc:TypeId×Value→H} {P:Program} {w:World} {rc:Reach} {b0 base:Nat} {spare:Nat→Bool} {held:Bool} {α:Type} {r:RepT α} {t e:TypeId} {v:Value} {d:DataW H} {ps:List MemPlace}
 (ht:P.underlying t=some (.slice e)) (h0:0<r.size) (hr:Opens P e r) (hval:Value.okWide P w rc b0 t v) (h:DataW.Trod enc P w base spare held t v d ps) :
 ∃A c,∃l:List α,v = .slice A l.length c∧RowR r (· < w.heap.size) w A c l:=by
 obtain ⟨A,len,cap,rfl⟩:=okWide_slice ht hval
 obtain ⟨fuel,hf⟩:=h
 have hcs:(Value.slice A len cap).cells.toList = [.slice A len cap]:=by simp [Value.cells]
 rw [hcs] at hf
 obtain ⟨A',c',l,h1,h2⟩:=row_of_trod ht h0 hr.1 (fun n cs x h=>hr.2 H enc w base spare held n cs x h) hf
 simp only [List.cons.injEq,and_true] at h1
 exact ⟨A',c',l,h1,h2⟩
end Go.Proofs.YtldndkngpdfpfaaGreat
namespace Go.Proofs.YtldndkngpdfpfaaGreat
open Go.RowKit Go.ChangeShapes Go.WideShapes Go.Deep
theorem RowR.imp {α:Type} {r r':RepT α} {D:Nat→Prop} {w:World} {A:Option Addr} {c:Nat} {l:List α} (h:RowR r D w A c l) (hs:r.size=r'.size) (hi : ∀a cs,r.rep D w a cs→r'.rep D w a cs):RowR r' D w A c l:=by
 refine ⟨h.1,h.2.1,fun h0=>?_⟩
 obtain ⟨b,off,h1,h2,h3,h4⟩:=h.2.2 h0
 refine ⟨b,off,h1,h2,h3,fun k hk=>?_⟩
 obtain ⟨cs,h5,h6⟩:=h4 k hk
 exact ⟨cs,hi _ _ h5,by rw [← hs];exact h6⟩
end Go.Proofs.YtldndkngpdfpfaaGreat
namespace Go.Proofs.YtldndkngpdfpfaaGreat
open Go.RowKit
def Sym.cells (s:Sym):List Value:=[.int .i64 s.kind,.string s.text,.int .i64 s.n]
theorem Sym.cells_length (s:Sym):s.cells.length=3:=rfl
set_option maxHeartbeats 400000 in
theorem isNaN_int (a:Int) (w:World):Calls Tryz.prog 226 #[.int .i64 a] w fun e w'=>e = .returned (.bool false)∧w=w':=by
 go_enter Tryz.func226,Tryz.ntmps226
 go_wp2
 go_ret
 exact ⟨by simp,rfl⟩
set_option maxHeartbeats 400000 in
theorem isNaN_str (a:ByteArray) (w:World):Calls Tryz.prog 227 #[.string a] w fun e w'=>e = .returned (.bool false)∧w=w':=by
 go_enter Tryz.func227,Tryz.ntmps227
 go_wp2
 go_ret
 exact ⟨by simp,rfl⟩
set_option maxHeartbeats 400000 in
theorem cmp_int (a b:Int) (w:World):Calls Tryz.prog 184 #[.int .i64 a,.int .i64 b] w fun e w'=>e = .returned (.int .i64 (cmpInt a b))∧w=w':=by
 go_enter Tryz.func184,Tryz.ntmps184
 go_wp2_with (go_at_call 226;refine (isNaN_int _ _).mono ?_;rintro e w' ⟨rfl,rfl⟩)
 all_goals (go_ret;refine ⟨?_,rfl⟩;unfold cmpInt;(repeat' split)<;>first | rfl | (exfalso;omega))
set_option maxHeartbeats 400000 in
theorem cmp_str (a b:ByteArray) (w:World):Calls Tryz.prog 185 #[.string a,.string b] w fun e w'=>e = .returned (.int .i64 (cmpStr a b))∧w=w':=by
 go_enter Tryz.func185,Tryz.ntmps185
 go_wp2_with (go_at_call 227;refine (isNaN_str _ _).mono ?_;rintro e w' ⟨rfl,rfl⟩)
 all_goals (go_ret;refine ⟨?_,rfl⟩;unfold cmpStr;(repeat' split)<;>first | rfl | (exfalso;simp_all))
set_option maxRecDepth 100000 in
set_option maxHeartbeats 400000 in
theorem cmp_sym (a b:Sym) (w:World) :
 Calls Tryz.prog 143 #[.agg #[.int .i64 a.kind,.string a.text,.int .i64 a.n],.agg #[.int .i64 b.kind,.string b.text,.int .i64 b.n]] w fun e w'=>e = .returned (.int .i64 (cmpSym a b))∧Below w.heap.size w w':=by
 obtain ⟨ak,at_,an⟩:=a
 obtain ⟨bk,bt,bn⟩:=b
 by_cases h1:cmpInt ak bk=0
 · have n1:(cmpInt ak bk != 0)=false:=by simp [h1]
   by_cases h2:cmpStr at_ bt=0
   · have n2:(cmpStr at_ bt != 0)=false:=by simp [h2]
     have HF:Hid (cmpSym ⟨ak,at_,an⟩ ⟨bk,bt,bn⟩=cmpInt an bn):=by simp [Hid,cmpSym,andThen,h1,h2]
     clear h1 h2
     go_enter Tryz.func143,Tryz.ntmps143
     go_wp2_with (first | (go_at_call 184;refine (cmp_int _ _ _).mono ?_;rintro e w' ⟨rfl,rfl⟩) | (go_at_call 185;refine (cmp_str _ _ _).mono ?_;rintro e w' ⟨rfl,rfl⟩))
     go_ret
     exact ⟨by rw [HF.out];rfl,((Below.refl _ _).alloc (Nat.le_refl _) _).alloc (by simp) _⟩
   · have n2:(cmpStr at_ bt != 0)=true:=by simp [h2]
     have HF:Hid (cmpSym ⟨ak,at_,an⟩ ⟨bk,bt,bn⟩=cmpStr at_ bt):=by simp [Hid,cmpSym,andThen,h1,h2]
     clear h1 h2
     go_enter Tryz.func143,Tryz.ntmps143
     go_wp2_with (first | (go_at_call 184;refine (cmp_int _ _ _).mono ?_;rintro e w' ⟨rfl,rfl⟩) | (go_at_call 185;refine (cmp_str _ _ _).mono ?_;rintro e w' ⟨rfl,rfl⟩))
     go_ret
     exact ⟨by rw [HF.out];rfl,((Below.refl _ _).alloc (Nat.le_refl _) _).alloc (by simp) _⟩
 · have n1:(cmpInt ak bk != 0)=true:=by simp [h1]
   have HF:Hid (cmpSym ⟨ak,at_,an⟩ ⟨bk,bt,bn⟩=cmpInt ak bk):=by simp [Hid,cmpSym,andThen,h1]
   clear h1
   go_enter Tryz.func143,Tryz.ntmps143
   go_wp2_with (first | (go_at_call 184;refine (cmp_int _ _ _).mono ?_;rintro e w' ⟨rfl,rfl⟩) | (go_at_call 185;refine (cmp_str _ _ _).mono ?_;rintro e w' ⟨rfl,rfl⟩))
   go_ret
   exact ⟨by rw [HF.out];rfl,((Below.refl _ _).alloc (Nat.le_refl _) _).alloc (by simp) _⟩
end Go.Proofs.YtldndkngpdfpfaaGreat
namespace Go.Proofs.YtldndkngpdfpfaaGreat
open Go.RowKit Go.ChangeShapes Go.WideShapes Go.Deep
theorem reads_Sym:Reads Tryz.prog 23 3 Sym.cells:=
 ⟨by kernel_rfl,fun H enc w base spare held n cs x h=>by
  obtain ⟨y0,y1,y2,n',_,hl,h0,h1,h2⟩:=trod_struct3 Tryz.underlying23 h
  have hl3:cs.length=3:=hl.trans (by kernel_rfl)
  have c3:Tryz.prog.cellsOf 3=1:=by kernel_rfl
  have c9:Tryz.prog.cellsOf 9=1:=by kernel_rfl
  simp only [c3,c9] at h0 h1 h2
  match cs,hl3 with
  | [v0,v1,v2],_=>
    simp at h0 h1 h2
    obtain ⟨a,e0,_⟩:=DataW.trod_int Tryz.underlying3 h0
    obtain ⟨b,e1,_⟩:=DataW.trod_string Tryz.underlying9 h1
    obtain ⟨c,e2,_⟩:=DataW.trod_int Tryz.underlying3 h2
    simp at e0 e1 e2
    subst e0;subst e1;subst e2
    exact ⟨⟨a,b,c⟩,rfl⟩⟩
end Go.Proofs.YtldndkngpdfpfaaGreat
namespace Go.Proofs.YtldndkngpdfpfaaGreat
open Go.RowKit Go.ChangeShapes Go.WideShapes Go.Deep
def repSym:RepT Sym:=RepT.flat 3 Sym.cells Sym.cells_length
theorem opens_Sym:Opens Tryz.prog 23 repSym:=opens_of_reads Sym.cells_length reads_Sym
theorem at_Sym {D:Nat→Prop} {w:World} {A:Option Addr} {c k:Nat} {l:List Sym} (h:RowR repSym D w A c l) (hk:k<l.length) : ∃g off,A=some ⟨g,off,none⟩∧D g∧g<w.heap.size∧w.cell? ⟨g,off+k*3,none⟩=some (.int .i64 l[k].kind)∧w.cell? ⟨g,off+k*3+1,none⟩=some (.string l[k].text)∧w.cell? ⟨g,off+k*3+2,none⟩=some (.int .i64 l[k].n):=by
 obtain ⟨g,off,cs,hA,hD,hg,hr,hc⟩:=h.at_ hk
 have hr2:cs=Sym.cells l[k]:=hr
 subst hr2
 refine ⟨g,off,hA,hD,hg,by simpa [repSym,RepT.flat] using hc 0 _ rfl,by simpa [repSym,RepT.flat] using hc 1 _ rfl,by simpa [repSym,RepT.flat] using hc 2 _ rfl⟩
structure Elem where
 id:Sym
 attr:Sym
 value:Sym
 acc:Bool
 goal:Bool
 tag:Int
def Elem.cells (x:Elem):List Value:=[.int .i64 x.id.kind,.string x.id.text,.int .i64 x.id.n,.int .i64 x.attr.kind,.string x.attr.text,.int .i64 x.attr.n,.int .i64 x.value.kind,.string x.value.text,.int .i64 x.value.n,.bool x.acc,.bool x.goal,.int .i64 x.tag]
theorem Elem.cells_length (x:Elem):x.cells.length=12:=rfl
def repElem:RepT Elem:=RepT.flat 12 Elem.cells Elem.cells_length
theorem at_Elem {D:Nat→Prop} {w:World} {A:Option Addr} {c k:Nat} {l:List Elem} (h:RowR repElem D w A c l) (hk:k<l.length) : ∃g off,A=some ⟨g,off,none⟩∧D g∧g<w.heap.size∧w.cell? ⟨g,off+k*12,none⟩=some (.int .i64 l[k].id.kind)∧w.cell? ⟨g,off+k*12+1,none⟩=some (.string l[k].id.text)∧w.cell? ⟨g,off+k*12+2,none⟩=some (.int .i64 l[k].id.n)∧w.cell? ⟨g,off+k*12+3,none⟩=some (.int .i64 l[k].attr.kind)∧w.cell? ⟨g,off+k*12+4,none⟩=some (.string l[k].attr.text)∧w.cell? ⟨g,off+k*12+5,none⟩=some (.int .i64 l[k].attr.n)∧w.cell? ⟨g,off+k*12+6,none⟩=some (.int .i64 l[k].value.kind)∧w.cell? ⟨g,off+k*12+7,none⟩=some (.string l[k].value.text)∧w.cell? ⟨g,off+k*12+8,none⟩=some (.int .i64 l[k].value.n)∧w.cell? ⟨g,off+k*12+9,none⟩=some (.bool l[k].acc)∧w.cell? ⟨g,off+k*12+10,none⟩=some (.bool l[k].goal)∧w.cell? ⟨g,off+k*12+11,none⟩=some (.int .i64 l[k].tag):=by
 obtain ⟨g,off,cs,hA,hD,hg,hr,hc⟩:=h.at_ hk
 have hr2:cs=Elem.cells l[k]:=hr
 subst hr2
 refine ⟨g,off,hA,hD,hg,by simpa [repElem,RepT.flat] using hc 0 _ rfl,by simpa [repElem,RepT.flat] using hc 1 _ rfl,by simpa [repElem,RepT.flat] using hc 2 _ rfl,by simpa [repElem,RepT.flat] using hc 3 _ rfl,by simpa [repElem,RepT.flat] using hc 4 _ rfl,by simpa [repElem,RepT.flat] using hc 5 _ rfl,by simpa [repElem,RepT.flat] using hc 6 _ rfl,by simpa [repElem,RepT.flat] using hc 7 _ rfl,by simpa [repElem,RepT.flat] using hc 8 _ rfl,by simpa [repElem,RepT.flat] using hc 9 _ rfl,by simpa [repElem,RepT.flat] using hc 10 _ rfl,by simpa [repElem,RepT.flat] using hc 11 _ rfl⟩
theorem opens_Elem:Opens Tryz.prog 55 repElem:=
 ⟨by kernel_rfl,fun H enc w base spare held n cs x h=>by
  have hl2:cs.length=12:=(trod_len Tryz.underlying55 h).trans (by kernel_rfl)
  obtain ⟨m0,y0,h0⟩:=trod_field Tryz.underlying55 h 0 rfl 23 0 3 rfl rfl (by kernel_rfl)
  obtain ⟨m1,y1,h1⟩:=trod_field Tryz.underlying55 h 1 rfl 23 3 3 rfl rfl (by kernel_rfl)
  obtain ⟨m2,y2,h2⟩:=trod_field Tryz.underlying55 h 2 rfl 23 6 3 rfl rfl (by kernel_rfl)
  obtain ⟨m3,y3,h3⟩:=trod_field Tryz.underlying55 h 3 rfl 4 9 1 rfl rfl (by kernel_rfl)
  obtain ⟨m4,y4,h4⟩:=trod_field Tryz.underlying55 h 4 rfl 4 10 1 rfl rfl (by kernel_rfl)
  obtain ⟨m5,y5,h5⟩:=trod_field Tryz.underlying55 h 5 rfl 3 11 1 rfl rfl (by kernel_rfl)
  match cs,hl2 with
  | [v0,v1,v2,v3,v4,v5,v6,v7,v8,v9,v10,v11],_=>
    simp at h0 h1 h2 h3 h4 h5
    obtain ⟨a0,e0⟩:=opens_Sym.2 H enc w base spare held _ _ _ h0
    have e0:_=Sym.cells a0:=e0
    simp [Sym.cells] at e0
    obtain ⟨a1,e1⟩:=opens_Sym.2 H enc w base spare held _ _ _ h1
    have e1:_=Sym.cells a1:=e1
    simp [Sym.cells] at e1
    obtain ⟨a2,e2⟩:=opens_Sym.2 H enc w base spare held _ _ _ h2
    have e2:_=Sym.cells a2:=e2
    simp [Sym.cells] at e2
    obtain ⟨a3,e3,_⟩:=DataW.trod_bool Tryz.underlying4 h3
    simp at e3
    obtain ⟨a4,e4,_⟩:=DataW.trod_bool Tryz.underlying4 h4
    simp at e4
    obtain ⟨a5,e5,_⟩:=DataW.trod_int Tryz.underlying3 h5
    simp at e5
    obtain ⟨rfl,rfl,rfl⟩:=e0
    obtain ⟨rfl,rfl,rfl⟩:=e1
    obtain ⟨rfl,rfl,rfl⟩:=e2
    subst e3
    subst e4
    subst e5
    exact ⟨⟨a0,a1,a2,a3,a4,a5⟩,rfl⟩⟩
structure TestT where
 rel:Int
 var:ByteArray
 sym:Sym
 list:List Sym
def repTestT:RepT TestT:=
 { size:=6,rep:=fun D w x cs=>∃A1 c1,cs = [.int .i64 x.rel,.string x.var,.int .i64 x.sym.kind,.string x.sym.text,.int .i64 x.sym.n,.slice A1 x.list.length c1]∧RowR repSym D w A1 c1 x.list,
   len:=by rintro _ _ _ _ ⟨_,_,rfl,_⟩;rfl,
   keep:=by
    rintro _ _ _ _ _ _ hs hk ⟨A1,c1,h0,h1⟩
    exact ⟨A1,c1,h0,h1.keep hs hk⟩ }
theorem at_TestT {D:Nat→Prop} {w:World} {A:Option Addr} {c k:Nat} {l:List TestT} (h:RowR repTestT D w A c l) (hk:k<l.length) : ∃g off A1 c1,A=some ⟨g,off,none⟩∧D g∧g<w.heap.size∧w.cell? ⟨g,off+k*6,none⟩=some (.int .i64 l[k].rel)∧w.cell? ⟨g,off+k*6+1,none⟩=some (.string l[k].var)∧w.cell? ⟨g,off+k*6+2,none⟩=some (.int .i64 l[k].sym.kind)∧w.cell? ⟨g,off+k*6+3,none⟩=some (.string l[k].sym.text)∧w.cell? ⟨g,off+k*6+4,none⟩=some (.int .i64 l[k].sym.n)∧w.cell? ⟨g,off+k*6+5,none⟩=some (.slice A1 l[k].list.length c1)∧RowR repSym D w A1 c1 l[k].list:=by
 obtain ⟨g,off,cs,hA,hD,hg,⟨A1,c1,rfl,hrs⟩,hc⟩:=h.at_ hk
 exact ⟨g,off,A1,c1,hA,hD,hg,by simpa [repTestT] using hc 0 _ rfl,by simpa [repTestT] using hc 1 _ rfl,by simpa [repTestT] using hc 2 _ rfl,by simpa [repTestT] using hc 3 _ rfl,by simpa [repTestT] using hc 4 _ rfl,by simpa [repTestT] using hc 5 _ rfl,hrs⟩
inductive CondT where
 | mk (kind:Int) (goal:Bool) (id:ByteArray) (attr:List TestT) (value:List TestT) (acc:Bool) (conds:List CondT)
def CondT.kind:CondT→Int
 | .mk x _ _ _ _ _ _=>x
def CondT.goal:CondT→Bool
 | .mk _ x _ _ _ _ _=>x
def CondT.id:CondT→ByteArray
 | .mk _ _ x _ _ _ _=>x
def CondT.attr:CondT→List TestT
 | .mk _ _ _ x _ _ _=>x
def CondT.value:CondT→List TestT
 | .mk _ _ _ _ x _ _=>x
def CondT.acc:CondT→Bool
 | .mk _ _ _ _ _ x _=>x
def CondT.conds:CondT→List CondT
 | .mk _ _ _ _ _ _ x=>x
def repCondT:Nat→RepT CondT
 | 0=>{ size:=7,rep:=fun _ _ _ _=>False,len:=fun h=>h.elim,keep:=fun _ _ h=>h }
 | n+1=>
 { size:=7,rep:=fun D w x cs=>∃A1 c1 A2 c2 A3 c3,cs = [.int .i64 x.kind,.bool x.goal,.string x.id,.slice A1 x.attr.length c1,.slice A2 x.value.length c2,.bool x.acc,.slice A3 x.conds.length c3]∧RowR repTestT D w A1 c1 x.attr∧RowR repTestT D w A2 c2 x.value∧RowR (repCondT n) D w A3 c3 x.conds,
   len:=by rintro _ _ _ _ ⟨_,_,_,_,_,_,rfl,_⟩;rfl,
   keep:=by
    rintro _ _ _ _ _ _ hs hk ⟨A1,c1,A2,c2,A3,c3,h0,h1,h2,h3⟩
    exact ⟨A1,c1,A2,c2,A3,c3,h0,h1.keep hs hk,h2.keep hs hk,h3.keep hs hk⟩ }
theorem repCondT_size (n:Nat):(repCondT n).size=7:=by cases n<;>rfl
theorem at_CondT {n:Nat} {D:Nat→Prop} {w:World} {A:Option Addr} {c k:Nat} {l:List CondT} (h:RowR (repCondT (n+1)) D w A c l) (hk:k<l.length) : ∃g off A1 c1 A2 c2 A3 c3,A=some ⟨g,off,none⟩∧D g∧g<w.heap.size∧w.cell? ⟨g,off+k*7,none⟩=some (.int .i64 l[k].kind)∧w.cell? ⟨g,off+k*7+1,none⟩=some (.bool l[k].goal)∧w.cell? ⟨g,off+k*7+2,none⟩=some (.string l[k].id)∧w.cell? ⟨g,off+k*7+3,none⟩=some (.slice A1 l[k].attr.length c1)∧w.cell? ⟨g,off+k*7+4,none⟩=some (.slice A2 l[k].value.length c2)∧w.cell? ⟨g,off+k*7+5,none⟩=some (.bool l[k].acc)∧w.cell? ⟨g,off+k*7+6,none⟩=some (.slice A3 l[k].conds.length c3)∧RowR repTestT D w A1 c1 l[k].attr∧RowR repTestT D w A2 c2 l[k].value∧RowR (repCondT n) D w A3 c3 l[k].conds:=by
 obtain ⟨g,off,cs,hA,hD,hg,⟨A1,c1,A2,c2,A3,c3,rfl,hrs⟩,hc⟩:=h.at_ hk
 exact ⟨g,off,A1,c1,A2,c2,A3,c3,hA,hD,hg,by simpa [repCondT] using hc 0 _ rfl,by simpa [repCondT] using hc 1 _ rfl,by simpa [repCondT] using hc 2 _ rfl,by simpa [repCondT] using hc 3 _ rfl,by simpa [repCondT] using hc 4 _ rfl,by simpa [repCondT] using hc 5 _ rfl,by simpa [repCondT] using hc 6 _ rfl,hrs⟩
structure AtomT where
 var:ByteArray
 sym:Sym
def AtomT.cells (x:AtomT):List Value:=[.string x.var,.int .i64 x.sym.kind,.string x.sym.text,.int .i64 x.sym.n]
theorem AtomT.cells_length (x:AtomT):x.cells.length=4:=rfl
structure TermT where
 op:Int
 a:AtomT
 b:AtomT
def TermT.cells (x:TermT):List Value:=[.int .i64 x.op,.string x.a.var,.int .i64 x.a.sym.kind,.string x.a.sym.text,.int .i64 x.a.sym.n,.string x.b.var,.int .i64 x.b.sym.kind,.string x.b.sym.text,.int .i64 x.b.sym.n]
theorem TermT.cells_length (x:TermT):x.cells.length=9:=rfl
structure ActT where
 id:ByteArray
 attr:AtomT
 value:TermT
 pref:Int
 other:AtomT
def ActT.cells (x:ActT):List Value:=[.string x.id,.string x.attr.var,.int .i64 x.attr.sym.kind,.string x.attr.sym.text,.int .i64 x.attr.sym.n,.int .i64 x.value.op,.string x.value.a.var,.int .i64 x.value.a.sym.kind,.string x.value.a.sym.text,.int .i64 x.value.a.sym.n,.string x.value.b.var,.int .i64 x.value.b.sym.kind,.string x.value.b.sym.text,.int .i64 x.value.b.sym.n,.int .i64 x.pref,.string x.other.var,.int .i64 x.other.sym.kind,.string x.other.sym.text,.int .i64 x.other.sym.n]
theorem ActT.cells_length (x:ActT):x.cells.length=19:=rfl
def repActT:RepT ActT:=RepT.flat 19 ActT.cells ActT.cells_length
theorem at_ActT {D:Nat→Prop} {w:World} {A:Option Addr} {c k:Nat} {l:List ActT} (h:RowR repActT D w A c l) (hk:k<l.length) : ∃g off,A=some ⟨g,off,none⟩∧D g∧g<w.heap.size∧w.cell? ⟨g,off+k*19,none⟩=some (.string l[k].id)∧w.cell? ⟨g,off+k*19+1,none⟩=some (.string l[k].attr.var)∧w.cell? ⟨g,off+k*19+2,none⟩=some (.int .i64 l[k].attr.sym.kind)∧w.cell? ⟨g,off+k*19+3,none⟩=some (.string l[k].attr.sym.text)∧w.cell? ⟨g,off+k*19+4,none⟩=some (.int .i64 l[k].attr.sym.n)∧w.cell? ⟨g,off+k*19+5,none⟩=some (.int .i64 l[k].value.op)∧w.cell? ⟨g,off+k*19+6,none⟩=some (.string l[k].value.a.var)∧w.cell? ⟨g,off+k*19+7,none⟩=some (.int .i64 l[k].value.a.sym.kind)∧w.cell? ⟨g,off+k*19+8,none⟩=some (.string l[k].value.a.sym.text)∧w.cell? ⟨g,off+k*19+9,none⟩=some (.int .i64 l[k].value.a.sym.n)∧w.cell? ⟨g,off+k*19+10,none⟩=some (.string l[k].value.b.var)∧w.cell? ⟨g,off+k*19+11,none⟩=some (.int .i64 l[k].value.b.sym.kind)∧w.cell? ⟨g,off+k*19+12,none⟩=some (.string l[k].value.b.sym.text)∧w.cell? ⟨g,off+k*19+13,none⟩=some (.int .i64 l[k].value.b.sym.n)∧w.cell? ⟨g,off+k*19+14,none⟩=some (.int .i64 l[k].pref)∧w.cell? ⟨g,off+k*19+15,none⟩=some (.string l[k].other.var)∧w.cell? ⟨g,off+k*19+16,none⟩=some (.int .i64 l[k].other.sym.kind)∧w.cell? ⟨g,off+k*19+17,none⟩=some (.string l[k].other.sym.text)∧w.cell? ⟨g,off+k*19+18,none⟩=some (.int .i64 l[k].other.sym.n):=by
 obtain ⟨g,off,cs,hA,hD,hg,hr,hc⟩:=h.at_ hk
 have hr2:cs=ActT.cells l[k]:=hr
 subst hr2
 refine ⟨g,off,hA,hD,hg,by simpa [repActT,RepT.flat] using hc 0 _ rfl,by simpa [repActT,RepT.flat] using hc 1 _ rfl,by simpa [repActT,RepT.flat] using hc 2 _ rfl,by simpa [repActT,RepT.flat] using hc 3 _ rfl,by simpa [repActT,RepT.flat] using hc 4 _ rfl,by simpa [repActT,RepT.flat] using hc 5 _ rfl,by simpa [repActT,RepT.flat] using hc 6 _ rfl,by simpa [repActT,RepT.flat] using hc 7 _ rfl,by simpa [repActT,RepT.flat] using hc 8 _ rfl,by simpa [repActT,RepT.flat] using hc 9 _ rfl,by simpa [repActT,RepT.flat] using hc 10 _ rfl,by simpa [repActT,RepT.flat] using hc 11 _ rfl,by simpa [repActT,RepT.flat] using hc 12 _ rfl,by simpa [repActT,RepT.flat] using hc 13 _ rfl,by simpa [repActT,RepT.flat] using hc 14 _ rfl,by simpa [repActT,RepT.flat] using hc 15 _ rfl,by simpa [repActT,RepT.flat] using hc 16 _ rfl,by simpa [repActT,RepT.flat] using hc 17 _ rfl,by simpa [repActT,RepT.flat] using hc 18 _ rfl⟩
structure ProdT where
 name:ByteArray
 conds:List CondT
 acts:List ActT
structure BindT where
 var:ByteArray
 sym:Sym
def BindT.cells (x:BindT):List Value:=[.string x.var,.int .i64 x.sym.kind,.string x.sym.text,.int .i64 x.sym.n]
theorem BindT.cells_length (x:BindT):x.cells.length=4:=rfl
def repBindT:RepT BindT:=RepT.flat 4 BindT.cells BindT.cells_length
structure PrefT where
 id:Sym
 attr:Sym
 value:Sym
 other:Sym
 kind:Int
 o:Bool
 level:Int
 by_:Int
def PrefT.cells (x:PrefT):List Value:=[.int .i64 x.id.kind,.string x.id.text,.int .i64 x.id.n,.int .i64 x.attr.kind,.string x.attr.text,.int .i64 x.attr.n,.int .i64 x.value.kind,.string x.value.text,.int .i64 x.value.n,.int .i64 x.other.kind,.string x.other.text,.int .i64 x.other.n,.int .i64 x.kind,.bool x.o,.int .i64 x.level,.int .i64 x.by_]
theorem PrefT.cells_length (x:PrefT):x.cells.length=16:=rfl
def repPrefT:RepT PrefT:=RepT.flat 16 PrefT.cells PrefT.cells_length
theorem opens_PrefT:Opens Tryz.prog 68 repPrefT:=
 ⟨by kernel_rfl,fun H enc w base spare held n cs x h=>by
  have hl2:cs.length=16:=(trod_len Tryz.underlying68 h).trans (by kernel_rfl)
  obtain ⟨m0,y0,h0⟩:=trod_field Tryz.underlying68 h 0 rfl 23 0 3 rfl rfl (by kernel_rfl)
  obtain ⟨m1,y1,h1⟩:=trod_field Tryz.underlying68 h 1 rfl 23 3 3 rfl rfl (by kernel_rfl)
  obtain ⟨m2,y2,h2⟩:=trod_field Tryz.underlying68 h 2 rfl 23 6 3 rfl rfl (by kernel_rfl)
  obtain ⟨m3,y3,h3⟩:=trod_field Tryz.underlying68 h 3 rfl 23 9 3 rfl rfl (by kernel_rfl)
  obtain ⟨m4,y4,h4⟩:=trod_field Tryz.underlying68 h 4 rfl 3 12 1 rfl rfl (by kernel_rfl)
  obtain ⟨m5,y5,h5⟩:=trod_field Tryz.underlying68 h 5 rfl 4 13 1 rfl rfl (by kernel_rfl)
  obtain ⟨m6,y6,h6⟩:=trod_field Tryz.underlying68 h 6 rfl 3 14 1 rfl rfl (by kernel_rfl)
  obtain ⟨m7,y7,h7⟩:=trod_field Tryz.underlying68 h 7 rfl 3 15 1 rfl rfl (by kernel_rfl)
  match cs,hl2 with
  | [v0,v1,v2,v3,v4,v5,v6,v7,v8,v9,v10,v11,v12,v13,v14,v15],_=>
    simp at h0 h1 h2 h3 h4 h5 h6 h7
    obtain ⟨a0,e0⟩:=opens_Sym.2 H enc w base spare held _ _ _ h0
    have e0:_=Sym.cells a0:=e0
    simp [Sym.cells] at e0
    obtain ⟨a1,e1⟩:=opens_Sym.2 H enc w base spare held _ _ _ h1
    have e1:_=Sym.cells a1:=e1
    simp [Sym.cells] at e1
    obtain ⟨a2,e2⟩:=opens_Sym.2 H enc w base spare held _ _ _ h2
    have e2:_=Sym.cells a2:=e2
    simp [Sym.cells] at e2
    obtain ⟨a3,e3⟩:=opens_Sym.2 H enc w base spare held _ _ _ h3
    have e3:_=Sym.cells a3:=e3
    simp [Sym.cells] at e3
    obtain ⟨a4,e4,_⟩:=DataW.trod_int Tryz.underlying3 h4
    simp at e4
    obtain ⟨a5,e5,_⟩:=DataW.trod_bool Tryz.underlying4 h5
    simp at e5
    obtain ⟨a6,e6,_⟩:=DataW.trod_int Tryz.underlying3 h6
    simp at e6
    obtain ⟨a7,e7,_⟩:=DataW.trod_int Tryz.underlying3 h7
    simp at e7
    obtain ⟨rfl,rfl,rfl⟩:=e0
    obtain ⟨rfl,rfl,rfl⟩:=e1
    obtain ⟨rfl,rfl,rfl⟩:=e2
    obtain ⟨rfl,rfl,rfl⟩:=e3
    subst e4
    subst e5
    subst e6
    subst e7
    exact ⟨⟨a0,a1,a2,a3,a4,a5,a6,a7⟩,rfl⟩⟩
structure TraceT where
 elem:Elem
 level:Int
 cause:Int
def TraceT.cells (x:TraceT):List Value:=[.int .i64 x.elem.id.kind,.string x.elem.id.text,.int .i64 x.elem.id.n,.int .i64 x.elem.attr.kind,.string x.elem.attr.text,.int .i64 x.elem.attr.n,.int .i64 x.elem.value.kind,.string x.elem.value.text,.int .i64 x.elem.value.n,.bool x.elem.acc,.bool x.elem.goal,.int .i64 x.elem.tag,.int .i64 x.level,.int .i64 x.cause]
theorem TraceT.cells_length (x:TraceT):x.cells.length=14:=rfl
def repTraceT:RepT TraceT:=RepT.flat 14 TraceT.cells TraceT.cells_length
theorem at_TraceT {D:Nat→Prop} {w:World} {A:Option Addr} {c k:Nat} {l:List TraceT} (h:RowR repTraceT D w A c l) (hk:k<l.length) : ∃g off,A=some ⟨g,off,none⟩∧D g∧g<w.heap.size∧w.cell? ⟨g,off+k*14,none⟩=some (.int .i64 l[k].elem.id.kind)∧w.cell? ⟨g,off+k*14+1,none⟩=some (.string l[k].elem.id.text)∧w.cell? ⟨g,off+k*14+2,none⟩=some (.int .i64 l[k].elem.id.n)∧w.cell? ⟨g,off+k*14+3,none⟩=some (.int .i64 l[k].elem.attr.kind)∧w.cell? ⟨g,off+k*14+4,none⟩=some (.string l[k].elem.attr.text)∧w.cell? ⟨g,off+k*14+5,none⟩=some (.int .i64 l[k].elem.attr.n)∧w.cell? ⟨g,off+k*14+6,none⟩=some (.int .i64 l[k].elem.value.kind)∧w.cell? ⟨g,off+k*14+7,none⟩=some (.string l[k].elem.value.text)∧w.cell? ⟨g,off+k*14+8,none⟩=some (.int .i64 l[k].elem.value.n)∧w.cell? ⟨g,off+k*14+9,none⟩=some (.bool l[k].elem.acc)∧w.cell? ⟨g,off+k*14+10,none⟩=some (.bool l[k].elem.goal)∧w.cell? ⟨g,off+k*14+11,none⟩=some (.int .i64 l[k].elem.tag)∧w.cell? ⟨g,off+k*14+12,none⟩=some (.int .i64 l[k].level)∧w.cell? ⟨g,off+k*14+13,none⟩=some (.int .i64 l[k].cause):=by
 obtain ⟨g,off,cs,hA,hD,hg,hr,hc⟩:=h.at_ hk
 have hr2:cs=TraceT.cells l[k]:=hr
 subst hr2
 refine ⟨g,off,hA,hD,hg,by simpa [repTraceT,RepT.flat] using hc 0 _ rfl,by simpa [repTraceT,RepT.flat] using hc 1 _ rfl,by simpa [repTraceT,RepT.flat] using hc 2 _ rfl,by simpa [repTraceT,RepT.flat] using hc 3 _ rfl,by simpa [repTraceT,RepT.flat] using hc 4 _ rfl,by simpa [repTraceT,RepT.flat] using hc 5 _ rfl,by simpa [repTraceT,RepT.flat] using hc 6 _ rfl,by simpa [repTraceT,RepT.flat] using hc 7 _ rfl,by simpa [repTraceT,RepT.flat] using hc 8 _ rfl,by simpa [repTraceT,RepT.flat] using hc 9 _ rfl,by simpa [repTraceT,RepT.flat] using hc 10 _ rfl,by simpa [repTraceT,RepT.flat] using hc 11 _ rfl,by simpa [repTraceT,RepT.flat] using hc 12 _ rfl,by simpa [repTraceT,RepT.flat] using hc 13 _ rfl⟩
theorem opens_TraceT:Opens Tryz.prog 57 repTraceT:=
 ⟨by kernel_rfl,fun H enc w base spare held n cs x h=>by
  have hl2:cs.length=14:=(trod_len Tryz.underlying57 h).trans (by kernel_rfl)
  obtain ⟨m0,y0,h0⟩:=trod_field Tryz.underlying57 h 0 rfl 55 0 12 rfl rfl (by kernel_rfl)
  obtain ⟨m1,y1,h1⟩:=trod_field Tryz.underlying57 h 1 rfl 3 12 1 rfl rfl (by kernel_rfl)
  obtain ⟨m2,y2,h2⟩:=trod_field Tryz.underlying57 h 2 rfl 3 13 1 rfl rfl (by kernel_rfl)
  match cs,hl2 with
  | [v0,v1,v2,v3,v4,v5,v6,v7,v8,v9,v10,v11,v12,v13],_=>
    simp at h0 h1 h2
    obtain ⟨a0,e0⟩:=opens_Elem.2 H enc w base spare held _ _ _ h0
    have e0:_=Elem.cells a0:=e0
    simp [Elem.cells] at e0
    obtain ⟨a1,e1,_⟩:=DataW.trod_int Tryz.underlying3 h1
    simp at e1
    obtain ⟨a2,e2,_⟩:=DataW.trod_int Tryz.underlying3 h2
    simp at e2
    obtain ⟨rfl,rfl,rfl,rfl,rfl,rfl,rfl,rfl,rfl,rfl,rfl,rfl⟩:=e0
    subst e1
    subst e2
    exact ⟨⟨a0,a1,a2⟩,rfl⟩⟩
structure HoleT where
 cond:CondT
 binds:List BindT
def repHoleT (n:Nat):RepT HoleT:=
 { size:=8,rep:=fun D w x cs=>∃A1 c1 A2 c2 A3 c3 A4 c4,cs = [.int .i64 x.cond.kind,.bool x.cond.goal,.string x.cond.id,.slice A1 x.cond.attr.length c1,.slice A2 x.cond.value.length c2,.bool x.cond.acc,.slice A3 x.cond.conds.length c3,.slice A4 x.binds.length c4]∧RowR repTestT D w A1 c1 x.cond.attr∧RowR repTestT D w A2 c2 x.cond.value∧RowR (repCondT n) D w A3 c3 x.cond.conds∧RowR repBindT D w A4 c4 x.binds,
   len:=by rintro _ _ _ _ ⟨_,_,_,_,_,_,_,_,rfl,_⟩;rfl,
   keep:=by
    rintro _ _ _ _ _ _ hs hk ⟨A1,c1,A2,c2,A3,c3,A4,c4,h0,h1,h2,h3,h4⟩
    exact ⟨A1,c1,A2,c2,A3,c3,A4,c4,h0,h1.keep hs hk,h2.keep hs hk,h3.keep hs hk,h4.keep hs hk⟩ }
theorem at_HoleT {n:Nat} {D:Nat→Prop} {w:World} {A:Option Addr} {c k:Nat} {l:List HoleT} (h:RowR (repHoleT n) D w A c l) (hk:k<l.length) : ∃g off A1 c1 A2 c2 A3 c3 A4 c4,A=some ⟨g,off,none⟩∧D g∧g<w.heap.size∧w.cell? ⟨g,off+k*8,none⟩=some (.int .i64 l[k].cond.kind)∧w.cell? ⟨g,off+k*8+1,none⟩=some (.bool l[k].cond.goal)∧w.cell? ⟨g,off+k*8+2,none⟩=some (.string l[k].cond.id)∧w.cell? ⟨g,off+k*8+3,none⟩=some (.slice A1 l[k].cond.attr.length c1)∧w.cell? ⟨g,off+k*8+4,none⟩=some (.slice A2 l[k].cond.value.length c2)∧w.cell? ⟨g,off+k*8+5,none⟩=some (.bool l[k].cond.acc)∧w.cell? ⟨g,off+k*8+6,none⟩=some (.slice A3 l[k].cond.conds.length c3)∧w.cell? ⟨g,off+k*8+7,none⟩=some (.slice A4 l[k].binds.length c4)∧RowR repTestT D w A1 c1 l[k].cond.attr∧RowR repTestT D w A2 c2 l[k].cond.value∧RowR (repCondT n) D w A3 c3 l[k].cond.conds∧RowR repBindT D w A4 c4 l[k].binds:=by
 obtain ⟨g,off,cs,hA,hD,hg,⟨A1,c1,A2,c2,A3,c3,A4,c4,rfl,hrs⟩,hc⟩:=h.at_ hk
 exact ⟨g,off,A1,c1,A2,c2,A3,c3,A4,c4,hA,hD,hg,by simpa [repHoleT] using hc 0 _ rfl,by simpa [repHoleT] using hc 1 _ rfl,by simpa [repHoleT] using hc 2 _ rfl,by simpa [repHoleT] using hc 3 _ rfl,by simpa [repHoleT] using hc 4 _ rfl,by simpa [repHoleT] using hc 5 _ rfl,by simpa [repHoleT] using hc 6 _ rfl,by simpa [repHoleT] using hc 7 _ rfl,hrs⟩
structure ApartT where
 a:Sym
 b:Sym
 rel:Int
def ApartT.cells (x:ApartT):List Value:=[.int .i64 x.a.kind,.string x.a.text,.int .i64 x.a.n,.int .i64 x.b.kind,.string x.b.text,.int .i64 x.b.n,.int .i64 x.rel]
theorem ApartT.cells_length (x:ApartT):x.cells.length=7:=rfl
def repApartT:RepT ApartT:=RepT.flat 7 ApartT.cells ApartT.cells_length
structure RecordT where
 num:Int
 level:Int
 elems:List TraceT
 holes:List HoleT
 aparts:List ApartT
 news:List Sym
def repRecordT (n:Nat):RepT RecordT:=
 { size:=6,rep:=fun D w x cs=>∃A1 c1 A2 c2 A3 c3 A4 c4,cs = [.int .i64 x.num,.int .i64 x.level,.slice A1 x.elems.length c1,.slice A2 x.holes.length c2,.slice A3 x.aparts.length c3,.slice A4 x.news.length c4]∧RowR repTraceT D w A1 c1 x.elems∧RowR (repHoleT n) D w A2 c2 x.holes∧RowR repApartT D w A3 c3 x.aparts∧RowR repSym D w A4 c4 x.news,
   len:=by rintro _ _ _ _ ⟨_,_,_,_,_,_,_,_,rfl,_⟩;rfl,
   keep:=by
    rintro _ _ _ _ _ _ hs hk ⟨A1,c1,A2,c2,A3,c3,A4,c4,h0,h1,h2,h3,h4⟩
    exact ⟨A1,c1,A2,c2,A3,c3,A4,c4,h0,h1.keep hs hk,h2.keep hs hk,h3.keep hs hk,h4.keep hs hk⟩ }
theorem at_RecordT {n:Nat} {D:Nat→Prop} {w:World} {A:Option Addr} {c k:Nat} {l:List RecordT} (h:RowR (repRecordT n) D w A c l) (hk:k<l.length) : ∃g off A1 c1 A2 c2 A3 c3 A4 c4,A=some ⟨g,off,none⟩∧D g∧g<w.heap.size∧w.cell? ⟨g,off+k*6,none⟩=some (.int .i64 l[k].num)∧w.cell? ⟨g,off+k*6+1,none⟩=some (.int .i64 l[k].level)∧w.cell? ⟨g,off+k*6+2,none⟩=some (.slice A1 l[k].elems.length c1)∧w.cell? ⟨g,off+k*6+3,none⟩=some (.slice A2 l[k].holes.length c2)∧w.cell? ⟨g,off+k*6+4,none⟩=some (.slice A3 l[k].aparts.length c3)∧w.cell? ⟨g,off+k*6+5,none⟩=some (.slice A4 l[k].news.length c4)∧RowR repTraceT D w A1 c1 l[k].elems∧RowR (repHoleT n) D w A2 c2 l[k].holes∧RowR repApartT D w A3 c3 l[k].aparts∧RowR repSym D w A4 c4 l[k].news:=by
 obtain ⟨g,off,cs,hA,hD,hg,⟨A1,c1,A2,c2,A3,c3,A4,c4,rfl,hrs⟩,hc⟩:=h.at_ hk
 exact ⟨g,off,A1,c1,A2,c2,A3,c3,A4,c4,hA,hD,hg,by simpa [repRecordT] using hc 0 _ rfl,by simpa [repRecordT] using hc 1 _ rfl,by simpa [repRecordT] using hc 2 _ rfl,by simpa [repRecordT] using hc 3 _ rfl,by simpa [repRecordT] using hc 4 _ rfl,by simpa [repRecordT] using hc 5 _ rfl,hrs⟩
end Go.Proofs.YtldndkngpdfpfaaGreat
