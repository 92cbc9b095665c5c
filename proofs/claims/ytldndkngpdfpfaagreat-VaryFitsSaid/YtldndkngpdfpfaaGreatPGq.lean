/-
  Texts put together: VaryF, VaryB3, VaryB4.
-/
import Derived.Test.YtldndkngpdfpfaaGreatPGp
namespace Go.Proofs.YtldndkngpdfpfaaGreat
open Lib (hid)
set_option maxRecDepth 100000
set_option maxHeartbeats 32000000
section
def getR:List Z0w→ByteArray→Option Sym
 | [],_=>none
 | x :: l,v=>if x.var=v then some x.sym else getR l v
theorem Z8q (x:Z0w) (v:ByteArray) : ∀l:List Z0w,getR (l ++ [x]) v=(getR l v).or (if x.var=v then some x.sym else none)
 | []=>by simp [getR]
 | y :: l=>by
   rw [Zje,getR,getR,Z8q x v l]
   split<;>rfl
def numR (a b:Sym):Bool:=decide (a.kind=2) && decide (b.kind=2)
def Z0v (rel:Int) (a b:Sym):Bool:=
 if rel=1 then decide (a=b) else if rel=2 then !decide (a=b) else if rel=3 then numR a b && decide (a.n<b.n) else if rel=4 then numR a b && decide (a.n≤b.n)
 else if rel=5 then numR a b && decide (b.n<a.n) else if rel=6 then numR a b && decide (b.n≤a.n) else if rel=7 then decide (a.kind=b.kind) else false
def oneR (t:Z0i) (s:Sym) (l:List Z0w):Option (List Z0w):=
 if t.rel=8 then (if s∈t.list then some l else none)
 else if t.rel<1∨7<t.rel then none
 else if t.var=⟨#[]⟩ then (if Z0v t.rel s t.sym=true then some l else none)
 else match getR l t.var with
  | none=>if t.rel=1 then some (l ++ [⟨t.var,s⟩]) else none
  | some b=>if Z0v t.rel s b=true then some l else none
def Z28:List Z0i→Sym→List Z0w→Option (List Z0w)
 | [],_,l=>some l
 | t :: ts,s,l=>match oneR t s l with
   | none=>none
   | some m=>Z28 ts s m
def Z9x (c:Z0m) (e:Elem) (l:List Z0w):Option (List Z0w):=
 if (c.kind≠1∧c.kind≠2)∨(c.goal=true∧e.goal=false)∨c.acc≠e.acc then none
 else match oneR ⟨1,c.id,symZ,[]⟩ e.id l with
  | none=>none
  | some m=>match Z28 c.attr e.attr m with
    | none=>none
    | some m2=>Z28 c.value e.value m2
def Zfq:Bool:=(List.range 60).all fun m=>(List.range 60).all fun n=>decide ((decF 18 m).toList=(decF 18 n).toList→m=n)
theorem Za6:Zfq=true:=by kernel_rfl
theorem Zfa {m n:Nat} (hm:m<60) (hn:n<60) (h:decF 18 m=decF 18 n):m=n:=by
 have h1:=Zj7.1 Za6 m (List.mem_range.2 hm);have h2:=Zj7.1 h1 n (List.mem_range.2 hn);exact Zjd h2 (by rw [h])
theorem Zgu {x y:UInt8} {a b:ByteArray} (h:(⟨#[x]⟩:ByteArray)++a=⟨#[y]⟩++b):a=b:=by
 have h1:=congrArg (fun z:ByteArray=>z.data.toList) h;simp only [ByteArray.data_append,Array.toList_append] at h1;have h2:x :: a.data.toList=y :: b.data.toList:=h1;injection h2 with _ h3;have h4:a.data=b.data:=Array.toList_inj.1 h3;cases a;cases b;simp_all
theorem Zhm {x:UInt8} {a:ByteArray}:(⟨#[x]⟩:ByteArray)++a≠⟨#[]⟩:=fun h=>by
 have h1:=congrArg (fun z:ByteArray=>z.data.toList) h;simp only [ByteArray.data_append,Array.toList_append] at h1;cases h1
def Z8d (ns:List Sym):Prop:=ns.length<60∧∀s∈ns,(letV s).isSome=true∧s.kind=1
def nmV (ns:List Sym) (s:Sym):ByteArray:=Z2c s (plV ns s)
theorem Za7 {ns:List Sym} (h:Z8d ns) {s:Sym} (hs:s∈ns) : ∃c,nmV ns s=⟨#[c]⟩++decF 18 (plV ns s):=by
 obtain ⟨c,hc⟩:=Option.isSome_iff_exists.1 (h.2 s hs).1;have h0:plV ns s≠0:=fun e=>Z3d.1 e hs;refine ⟨c - 65+97,?_⟩;unfold nmV Z2c;rw [if_neg (by omega),hc];simp
theorem Zhs {ns:List Sym} (h:Z8d ns) {s:Sym} (hs:s∈ns):nmV ns s≠⟨#[]⟩:=by
 obtain ⟨c,e⟩:=Za7 h hs;rw [e];exact Zhm
theorem Zhr {ns:List Sym} (h:Z8d ns) {s t:Sym} (hs:s∈ns) (ht:t∈ns) (e:nmV ns s=nmV ns t):s=t:=by
 obtain ⟨c,e1⟩:=Za7 h hs;obtain ⟨d,e2⟩:=Za7 h ht;rw [e1,e2] at e;have l1:=Zb6 s ns;have l2:=Zb6 t ns;have h60:=h.1;exact Ze0 (Zfa (by omega) (by omega) (Zgu e)) (fun e=>Z3d.1 e hs)
def Zbk (l:List Elem) (s:Sym):Prop:=∃e∈l,e.id=s∨e.value=s
def Bd (ns:List Sym) (S:Sym→Prop) (b:List Z0w):Prop:=∀s∈ns,(S s→getR b (nmV ns s)=some s)∧(¬S s→getR b (nmV ns s)=none)
theorem Bd.same {ns:List Sym} {S T:Sym→Prop} {b:List Z0w} (h:Bd ns S b) (hs : ∀s∈ns,S s↔T s):Bd ns T b:=fun s hm=>⟨fun ht=>(h s hm).1 ((hs s hm).2 ht),fun ht=>(h s hm).2 (fun g=>ht ((hs s hm).1 g))⟩
theorem Zd0 {ns:List Sym} (hl:Z8d ns) {S:Sym→Prop} {b:List Z0w} (h:Bd ns S b) {s:Sym} (hs:s∈ns) : ∃b',oneR ⟨1,nmV ns s,symZ,[]⟩ s b=some b'∧Bd ns (fun t=>S t∨t=s) b'∧b'.length≤b.length+1:=by
 unfold oneR;rw [if_neg (show ¬(1:Int)=8 by decide),if_neg (by simp only;omega),if_neg (Zhs hl hs)];by_cases hS:S s
 · simp only [(h s hs).1 hS]
   rw [if_pos (by unfold Z0v;simp)];exact ⟨b,rfl,h.same (fun t ht=>⟨.inl,fun g=>g.elim id (fun e=>by rw [e];exact hS)⟩),by omega⟩
 · simp only [(h s hs).2 hS,if_true]
   refine ⟨_,rfl,fun t ht=>?_,by simp⟩;rw [Z8q];constructor
   · rintro (g | rfl)
     · rw [(h t ht).1 g];rfl
     · rw [(h t ht).2 hS,if_pos rfl];rfl
   · intro g
     rw [(h t ht).2 (fun g2=>g (.inl g2)),if_neg (fun e=>g (.inr (Zhr hl ht hs e.symm)))];rfl
def Zgr (ns:List Sym) (seen:List Elem) (v:Sym) (t:Z0i):Prop:=
 (t.rel=2∧t.var=⟨#[]⟩∧v≠t.sym)∨∃s∈ns,Zbk seen s∧(t.rel=2∨t.rel=7)∧t.var=nmV ns s∧Z0v t.rel v s=true
theorem Z8r {ns:List Sym} (hl:Z8d ns) {seen:List Elem} {v:Sym} {b:List Z0w} (h:Bd ns (Zbk seen) b) : ∀{ts:List Z0i},(∀t∈ts,Zgr ns seen v t)→Z28 ts v b=some b
 | [],_=>rfl
 | t :: ts,hg=>by
   rw [Z28]
   have h1:oneR t v b=some b:=by
    unfold oneR;rcases hg t Zja with ⟨e1,e2,e3⟩ | ⟨s,hs,h1,h2,e2,h3⟩
    · rw [if_neg (by rw [e1];decide),if_neg (by rw [e1];omega),if_pos e2,if_pos (by unfold Z0v;rw [e1];simp [e3])]
    · rw [if_neg (by rcases h2 with e | e<;>rw [e]<;>decide),if_neg (by rcases h2 with e | e<;>rw [e]<;>omega),if_neg (by rw [e2];exact Zhs hl hs),e2,(h s hs).1 h1]
      simp only;rw [if_pos h3]
   rw [h1];exact Z8r hl h (fun x hx=>hg x (Zjb _ hx))
def FitI (ns:List Sym) (o:List Elem) (vss:List (List Z0i)):Prop:=vss.length=o.length∧∀(k:Nat) (e:Elem) (vs:List Z0i),o[k]? = some e→vss[k]? = some vs→∃rest,vs=Z1c ns 1 e.value :: rest∧∀t∈rest,Zgr ns (o.take (k+1)) e.value t
theorem FitI.start (ns:List Sym) (o:List Elem):FitI ns o (o.map (vs0 ns)):=by
 refine ⟨by simp,fun k e vs he hv=>⟨[],?_,fun t ht=>by cases ht⟩⟩;rw [List.getElem?_map,he] at hv;injection hv with hv;exact hv.symm
theorem FitI.putT_ {ns:List Sym} {o:List Elem} {vss:List (List Z0i)} (h:FitI ns o vss) {k:Nat} {t:Z0i} (hg : ∀e,o[k]? = some e→Zgr ns (o.take (k+1)) e.value t):FitI ns o (putT vss k t):=by
 refine ⟨by rw [Zg3];exact h.1,fun j e vs he hv=>?_⟩;unfold putT at hv;rw [List.getElem?_modify] at hv
 cases hw:vss[j]? with
 | none=>rw [hw] at hv;cases hv
 | some ws=>
   obtain ⟨rest,e1,e2⟩:=h.2 j e ws he hw;rw [hw] at hv;simp only [Option.map_eq_map,Zif,Option.some.injEq] at hv;by_cases hk:k=j
   · subst hk
     rw [if_pos rfl] at hv;subst hv;unfold addT
     split
     · exact ⟨rest,e1,e2⟩
     · refine ⟨rest ++ [t],by rw [e1];rfl,fun u hu=>?_⟩
       rcases Zj0.1 hu with hu | hu
       · exact e2 u hu
       · rw [Zit.1 hu];exact hg e he
   · rw [if_neg hk] at hv
     subst hv;exact ⟨rest,e1,e2⟩
theorem Zef {all:List Elem} {a b:Sym} : ∀{l:List Elem} {k j:Nat} {o:Sym},twoF all a b k l=some (j,o)→∃i e,j=k+i∧l[i]? = some e∧Z4b a b e.value=some o∧metV all j o=true
 | [],_,_,_,h=>by cases h
 | e :: l,k,j,o,h=>by
   rw [twoF] at h
   have go : ∀{h:twoF all a b (k+1) l=some (j,o)},∃i e',j=k+i∧(e :: l)[i]? = some e'∧Z4b a b e'.value=some o∧metV all j o=true:=fun {h}=>by
    obtain ⟨i,e',h1,h2,h3⟩:=Zef h;exact ⟨i+1,e',by omega,by simpa using h2,h3⟩
   cases ho:Z4b a b e.value with
   | none=>rw [ho] at h;exact go (h:=h)
   | some x=>
     rw [ho] at h;simp only at h;by_cases hm:metV all k x=true
     · rw [if_pos hm] at h
       injection h with h;injection h with h1 h2;subst h1;subst h2;exact ⟨0,e,by omega,rfl,ho,hm⟩
     · rw [if_neg hm] at h
       exact go (h:=h)
theorem Zdq {id:Sym} : ∀{l:List Elem} {k j:Nat},oneF id k l=some j→∃i e,j=k+i∧l[i]? = some e∧e.value=id
 | [],_,_,h=>by cases h
 | e :: l,k,j,h=>by
   rw [oneF] at h;by_cases he:e.value=id
   · rw [if_pos he] at h
     injection h with h;exact ⟨0,e,by omega,rfl,he⟩
   · rw [if_neg he] at h
     obtain ⟨i,e',h1,h2,h3⟩:=Zdq h;exact ⟨i+1,e',by omega,by simpa using h2,h3⟩
theorem FitI.apart {ns:List Sym} {o:List Elem} {vss v:List (List Z0i)} {x:Z0j} (h:FitI ns o vss) (hh:Z0v x.rel x.a x.b=true) (ha:Z2b ns o x vss=some v):FitI ns o v:=by
 have hone : ∀id c:Sym,id≠c→FitI ns o (oneV o id c vss):=fun id c hne=>by
  unfold oneV
  cases hf:oneF id 0 o with
  | none=>exact h
  | some k=>
    obtain ⟨i,e,h1,h2,h3⟩:=Zdq hf;(obtain rfl:k=i:=by omega);refine h.putT_ (fun e' he'=>.inl ⟨rfl,rfl,?_⟩);rw [h2] at he';injection he' with he';subst he';rw [h3];exact hne
 unfold Z2b at ha
 split at ha
 · cases ha
 · split at ha
   · injection ha with ha;rw [← ha];exact h
   · rename_i hlost
     split at ha
     · rename_i hk
       split at ha
       · injection ha with ha;rw [← ha];exact h
       · rename_i hr
         unfold twoV at ha
         cases hf:twoF o x.a x.b 0 o with
         | none=>rw [hf] at ha;cases ha
         | some y=>
           obtain ⟨k,s⟩:=y;rw [hf] at ha;injection ha with ha;rw [← ha];obtain ⟨i,e,h1,h2,h3,h4⟩:=Zef hf;obtain rfl:k=i:=by omega
           have hrel:x.rel=2∨x.rel=7:=by
            rcases Classical.em (x.rel=2) with h5 | h5
            · exact .inl h5
            · refine .inr (Ziv fun h6=>hr (.inr ⟨h5,.inl h6⟩))
           have hab:x.a≠x.b:=fun e=>hr (.inl e)
           have hs:s=x.a∧e.value=x.b∨s=x.b∧e.value=x.a:=by
            unfold Z4b at h3
            split at h3
            · rename_i h5;injection h3 with h3;exact .inl ⟨h3.symm,h5⟩
            · split at h3
              · rename_i h5;injection h3 with h3;exact .inr ⟨h3.symm,h5⟩
              · cases h3
           have hsk:s.kind=1:=by rcases hs with ⟨e,_⟩ | ⟨e,_⟩<;>rw [e]<;>first | exact hk.1 | exact hk.2
           have hsn:s∈ns:=by
            refine Ziv fun hn=>hlost ?_;(have h5:Z45 ns s=true:=by unfold Z45;simp [hsk,Z3d.2 hn]);rcases hs with ⟨e,_⟩ | ⟨e,_⟩<;>rw [e] at h5<;>first | exact .inl h5 | exact .inr h5
           have hv:Z0v x.rel e.value s=true:=by
            rcases hs with ⟨e1,e2⟩ | ⟨e1,e2⟩<;>rw [e1,e2]
            · unfold Z0v at hh ⊢
              rcases hrel with h5 | h5<;>rw [h5] at hh ⊢
              · simp;exact fun e=>hab e.symm
              · simp at hh ⊢;exact hh.symm
            · exact hh
           (have ht:Z1c ns x.rel s=⟨x.rel,nmV ns s,symZ,[]⟩:=by unfold Z1c;rw [if_pos hsk];rfl);refine h.putT_ (fun e' he'=>.inr ⟨s,hsn,?_,by rw [ht];exact hrel,by rw [ht],by rw [ht];rw [h2] at he';injection he' with he';rw [← he'];exact hv⟩);unfold metV at h4;obtain ⟨u,hu,h5⟩:=Zj2.1 h4;exact ⟨u,hu,by simpa using h5⟩
     · split at ha
       · injection ha with ha;rw [← ha];exact h
       · rename_i h2
         have hne:x.a≠x.b:=by
          have h3:x.rel=2:=Ziv h2;unfold Z0v at hh;rw [h3] at hh;simpa using hh
         split at ha
         · injection ha with ha;rw [← ha];exact hone _ _ hne
         · split at ha
           · injection ha with ha;rw [← ha];exact hone _ _ (fun e=>hne e.symm)
           · injection ha with ha;rw [← ha];exact h
theorem FitI.aparts {ns:List Sym} {o:List Elem} : ∀{l:List Z0j} {vss v:List (List Z0i)},FitI ns o vss→(∀x∈l,Z0v x.rel x.a x.b=true)→Z1q ns o l vss=some v→FitI ns o v
 | [],_,_,h,_,e=>by injection e with e;rw [← e];exact h
 | x :: l,vss,v,h,hh,e=>by
   rw [Z1q] at e
   cases ha:Z2b ns o x vss with
   | none=>rw [ha] at e;cases e
   | some w=>
     rw [ha] at e;exact FitI.aparts (h.apart (hh x Zja) ha) (fun y hy=>hh y (Zjb _ hy)) e
theorem Zcu {ns:List Sym} (hl:Z8d ns) {o:List Elem} {vss:List (List Z0i)} (h:FitI ns o vss) {i:Nat} {e:Elem} {vs:List Z0i} (he:o[i]? = some e) (hv:vss[i]? = some vs) (hid:e.id∈ns) (hval:e.value.kind=1→e.value∈ns) {b:List Z0w} (hb:Bd ns (Zbk (o.take i)) b) (hk : ∀s∈ns,s.kind=1) :
 ∃b',Z9x (Z2o ns e vs) e b=some b'∧Bd ns (Zbk (o.take (i+1))) b'∧b'.length≤b.length+2:=by
 obtain ⟨rest,e1,hg⟩:=h.2 i e vs he hv;have hi:=(Zig.1 he).1
 have htk:o.take (i+1)=o.take i ++ [e]:=by
  rw [Zj9,he];rfl
 obtain ⟨b1,h1,h2,h3⟩:=Zd0 hl hb hid
 have hat:Z28 [⟨1,⟨#[]⟩,e.attr,[]⟩] e.attr b1=some b1:=by
  simp only [Z28,oneR];rw [if_neg (by decide),if_neg (by omega),if_pos trivial,if_pos (by unfold Z0v;simp)]
 have hval2 : ∃b2,oneR (Z1c ns 1 e.value) e.value b1=some b2∧Bd ns (Zbk (o.take (i+1))) b2∧b2.length≤b1.length+1:=by
  by_cases hkv:e.value.kind=1
  · have ht:Z1c ns 1 e.value=⟨1,nmV ns e.value,symZ,[]⟩:=by unfold Z1c;rw [if_pos hkv];rfl
    rw [ht];obtain ⟨b2,g1,g2,g3⟩:=Zd0 hl h2 (hval hkv);refine ⟨b2,g1,g2.same (fun s hs=>?_),g3⟩;rw [htk];constructor
    · rintro ((⟨u,hu,g⟩ | e3) | e3)
      · exact ⟨u,List.mem_append_left _ hu,g⟩
      · exact ⟨e,by simp,.inl e3.symm⟩
      · exact ⟨e,by simp,.inr e3.symm⟩
    · rintro ⟨u,hu,g⟩
      rcases Zj0.1 hu with hu | hu
      · exact .inl (.inl ⟨u,hu,g⟩)
      · rw [Zit.1 hu] at g
        exact g.elim (fun e3=>.inl (.inr e3.symm)) (fun e3=>.inr e3.symm)
  · have ht:Z1c ns 1 e.value=⟨1,⟨#[]⟩,e.value,[]⟩:=by unfold Z1c;rw [if_neg hkv]
    rw [ht];refine ⟨b1,?_,h2.same (fun s hs=>?_),by omega⟩
    · unfold oneR
      rw [if_neg (show ¬(1:Int)=8 by decide),if_neg (by simp only;omega),if_pos rfl,if_pos (by unfold Z0v;simp)]
    · rw [htk]
      constructor
      · rintro (⟨u,hu,g⟩ | e3)
        · exact ⟨u,List.mem_append_left _ hu,g⟩
        · exact ⟨e,by simp,.inl e3.symm⟩
      · rintro ⟨u,hu,g⟩
        rcases Zj0.1 hu with hu | hu
        · exact .inl ⟨u,hu,g⟩
        · rw [Zit.1 hu] at g
          refine g.elim (fun e3=>.inr e3.symm) (fun e3=>?_);rw [← e3] at hs;exact absurd (hk _ hs) hkv
 obtain ⟨b2,g1,g2,g3⟩:=hval2;refine ⟨b2,?_,g2,by omega⟩
 have hc : ¬(((Z2o ns e vs).kind≠1∧(Z2o ns e vs).kind≠2)∨((Z2o ns e vs).goal=true∧e.goal=false)∨(Z2o ns e vs).acc≠e.acc):=by
  show ¬(((1:Int)≠1∧(1:Int)≠2)∨(e.goal=true∧e.goal=false)∨e.acc≠e.acc);simp
 have hi1:oneR ⟨1,(Z2o ns e vs).id,symZ,[]⟩ e.id b=some b1:=h1;have hi2:Z28 (Z2o ns e vs).attr e.attr b1=some b1:=hat
 have hi3:Z28 (Z2o ns e vs).value e.value b1=some b2:=by
  show Z28 vs e.value b1=some b2;rw [e1,Z28,g1];exact Z8r hl g2 hg
 rw [Z9x,if_neg hc,hi1];simp only [hi2,hi3]
end
section
open Go.RowKit Go.Shelf
attribute [local go_sem] Oper.semAt_some
set_option linter.unusedSimpArgs false
end
section
open Go.RowKit Go.Shelf
set_option linter.unusedSimpArgs false
theorem Z0h.nilOf {α:Type} {w:World} {size c:Nat} {cells:α→List Value} {A:Option Addr} (h:c≤maxLen):Z0h w size cells A c ([]:List α):=⟨Nat.zero_le _,h,fun h=>absurd h (by simp)⟩
structure OwnG {α:Type} (T size:Nat) (cells:α→List Value) (X:World) (m:List α) (A:Option Addr) (c:Nat) (w:World):Prop where
 own:w.ownsRow 0 T size (.slice A m.length c) m.length (m.flatMap cells)
 ain:AIn A (X.heap.size≤·)
 bel:Below X.heap.size X w
section
variable {α:Type} {T size:Nat} {cells:α→List Value} {X:World} {m:List α} {A:Option Addr} {c:Nat} {w w':World}
theorem OwnG.start (hb:Below X.heap.size X w):OwnG T size cells X [] none 0 w:=⟨⟨by simp,.inl ⟨rfl,rfl⟩⟩,AIn.none_ _,hb⟩
theorem OwnG.new_ (h:OwnG T size cells X m A c w) (hb:Below w.heap.size w w'):OwnG T size cells X m A c w':=⟨Z01 h.own hb,h.ain,h.bel.trans (hb.mono h.bel.size)⟩
theorem OwnG.put {y:α} {v:Value} (h:OwnG T size cells X m A c w) (hown:w'.ownsRow 0 T size v (m.length+1) (m.flatMap cells ++ [y].flatMap cells)) (hg:w.grownBy w' (Value.slice A m.length c).ownBlock) (hat:v.ownBlock=(Value.slice A m.length c).ownBlock∨v.ownBlock=some w.heap.size) :
 ∃(mn:List α) (A':Option Addr) (c':Nat),mn=m ++ [y]∧v = .slice A' mn.length c'∧OwnG T size cells X mn A' c' w':=by
 obtain ⟨A9,c9,hv,hO9,hA9,hb9⟩:=Z3q (B:=X.heap.size) hown hg hat h.ain h.bel.size;rw [← Zik] at hO9;(have hl:(m ++ [y]).length=m.length+1:=by simp);exact ⟨m ++ [y],A9,c9,rfl,by rw [hl];exact hv,by rw [hl];exact hO9,hA9,h.bel.trans hb9⟩
end
end
end Go.Proofs.YtldndkngpdfpfaaGreat
