/-
  Texts put together: Rep, Plain, SetLeaf, RowSym, Types, Sets, FindSym.
-/
import Derived.Test.YtldndkngpdfpfaaGreatPFa
import Derived.Test.YtldndkngpdfpfaaGreatRows
namespace Go.Proofs.YtldndkngpdfpfaaGreat
open Lib (hid)
set_option maxRecDepth 100000
set_option maxHeartbeats 32000000
section
open Go.RowKit Go.ChangeShapes Go.WideShapes Go.Deep
structure RepT (α:Type) where
 size:Nat
 rep:(Nat→Prop)→World→α→List Value→Prop
 len : ∀{D:Nat→Prop} {w:World} {a:α} {cs:List Value},rep D w a cs→cs.length=size
 keep : ∀{D D':Nat→Prop} {w w':World} {a:α} {cs:List Value},w.heap.size≤w'.heap.size→(∀k,D k→k<w.heap.size→D' k∧w'.heap[k]? = w.heap[k]?)→rep D w a cs→rep D' w' a cs
def RowR {α:Type} (r:RepT α) (D:Nat→Prop) (w:World) (A:Option Addr) (c:Nat) (l:List α):Prop:=
 l.length≤c∧c≤maxLen∧
  (0<l.length→∃b off,A=some ⟨b,off,none⟩∧D b∧b<w.heap.size∧∀k,(h:k<l.length)→∃cs,r.rep D w l[k] cs∧∀j u,cs[j]? = some u→w.cell? ⟨b,off+k*r.size+j,none⟩=some u)
section
variable {α:Type} {r:RepT α} {D D':Nat→Prop} {w w':World} {A:Option Addr} {c:Nat} {l:List α}
theorem RowR.keep (h:RowR r D w A c l) (hs:w.heap.size≤w'.heap.size) (hk : ∀k,D k→k<w.heap.size→D' k∧w'.heap[k]? = w.heap[k]?):RowR r D' w' A c l:=by
 refine ⟨h.1,h.2.1,fun h0=>?_⟩;obtain ⟨b,off,h1,h2,h3,h4⟩:=h.2.2 h0;refine ⟨b,off,h1,(hk b h2 h3).1,by omega,fun k hk'=>?_⟩;obtain ⟨cs,h5,h6⟩:=h4 k hk';exact ⟨cs,r.keep hs hk h5,fun j u hu=>(World.cell?_of_block (hk b h2 h3).2).trans (h6 j u hu)⟩
theorem RowR.nil (r:RepT α) (D:Nat→Prop) (w:World):RowR r D w none 0 []:=⟨Zo0 _,Nat.zero_le _,fun h=>absurd h (by simp)⟩
theorem RowR.cap (h:RowR r D w A c l):(l.length:Int)≤9223372036854775807:=by have:=h.1;have:=h.2.1;unfold maxLen at this;omega
theorem RowR.at_ (h:RowR r D w A c l) {k:Nat} (hk:k<l.length) : ∃b off cs,A=some ⟨b,off,none⟩∧D b∧b<w.heap.size∧r.rep D w l[k] cs∧∀j u,cs[j]? = some u→w.cell? ⟨b,off+k*r.size+j,none⟩=some u:=by
 obtain ⟨b,off,h1,h2,h3,h4⟩:=h.2.2 (by omega);obtain ⟨cs,h5,h6⟩:=h4 k hk;exact ⟨b,off,cs,h1,h2,h3,h5,h6⟩
theorem RowR.weaken (h:RowR r D w A c l) (hD : ∀k,D k→D' k):RowR r D' w A c l:=h.keep (Zo0 _) (fun k hk _=>⟨hD k hk,rfl⟩)
theorem RowR.new_ (h:RowR r D w A c l) (hb:Below w.heap.size w w'):RowR r D w' A c l:=h.keep hb.size (fun k hk hl=>⟨hk,hb.block k hl⟩)
theorem RowR.fr {M:Nat→Prop} (h:RowR r D w A c l) (hb:Fr M w w') (hm : ∀k,D k→¬M k):RowR r D w' A c l:=h.keep hb.size (fun k hk hl=>⟨hk,hb.block k hl (hm k hk)⟩)
end
def RepT.flat {α:Type} (size:Nat) (cells:α→List Value) (h : ∀a,(cells a).length=size):RepT α:=
 ⟨size,fun _ _ a cs=>cs=cells a,by rintro _ _ _ _ rfl;exact h _,by rintro _ _ _ _ _ _ _ _ h;exact h⟩
theorem RowR.rd {α:Type} {size:Nat} {cells:α→List Value} {hs : ∀a,(cells a).length=size} {D:Nat→Prop} {w:World} {A:Option Addr} {c:Nat} {l:List α} (h:RowR (RepT.flat size cells hs) D w A c l):Z0p w size cells A c l:=by
 refine ⟨h.1,h.2.1,fun h0=>?_⟩;obtain ⟨b,off,h1,h2,h3,h4⟩:=h.2.2 h0;refine ⟨b,off,h1,h3,fun k hk j u hu=>?_⟩;obtain ⟨cs,h5,h6⟩:=h4 k hk;have h5':cs=cells l[k]:=h5;exact h6 j u (by rw [h5'];exact hu)
theorem RowR.of_rd {α:Type} {size:Nat} {cells:α→List Value} {hs : ∀a,(cells a).length=size} {D:Nat→Prop} {w:World} {A:Option Addr} {c:Nat} {l:List α} (h:Z0p w size cells A c l) (hA:AIn A D):RowR (RepT.flat size cells hs) D w A c l:=by
 refine ⟨h.1,h.2.1,fun h0=>?_⟩;obtain ⟨b,off,h1,h2,h3⟩:=h.2.2 h0;exact ⟨b,off,h1,hA _ h1,h2,fun k hk=>⟨_,rfl,h3 k hk⟩⟩
def Zgj {α:Type} (P:Program) (t:TypeId) (r:RepT α):Prop:=
 P.cellsOf t=r.size∧∀(H:Type) (enc:TypeId×Value→H) (w:World) (base:Nat) (spare:Nat→Bool) (held:Bool) (n:Nat) (cs:List Value) (x:DataW H×List MemPlace),
  DataW.trod enc P w base spare held n t cs=some x→∃a:α,r.rep (· < w.heap.size) w a cs
theorem Z92 {α:Type} {P:Program} {t:TypeId} {size:Nat} {cells:α→List Value} (hs : ∀a,(cells a).length=size) (h:Zn6 P t size cells):Zgj P t (RepT.flat size cells hs):=
 ⟨h.1,fun H enc w base spare held n cs x hx=>h.2 H enc w base spare held n cs x hx⟩
theorem Zdq {H:Type} {enc:TypeId×Value→H} {P:Program} {w:World} {base:Nat} {spare:Nat→Bool} {held:Bool} {α:Type} {r:RepT α} {t e:TypeId} {fuel:Nat} {cs:List Value} {x:DataW H×List MemPlace}
 (ht:P.underlying t=some (.slice e)) (h0:0<r.size) (hr:P.cellsOf e=r.size) (hE : ∀n cs x,DataW.trod enc P w base spare held n e cs=some x→∃a:α,r.rep (· < w.heap.size) w a cs)
 (hf:DataW.trod enc P w base spare held fuel t cs=some x) : ∃A c,∃l:List α,cs = [.slice A l.length c]∧RowR r (· < w.heap.size) w A c l:=by
 rcases open_slice ht hf with ⟨h1,_⟩ | ⟨a,len,cap,m,n,Dd,Pl,h1,_,hl,hm,hmm,_,hx⟩
 · exact ⟨none,0,[],h1,RowR.nil _ _ _⟩
 · have hlm:len≤m:=by rw [hmm];split<;>omega
   obtain ⟨l,hll,hq⟩:=Zhw (α:=α) (Q:=fun i x=>∃cs',r.rep (· < w.heap.size) w x cs'∧∀j u,cs'[j]? = some u→w.cell? ((a.add (i*r.size)).add j)=some u) len (fun i hi=>by
    obtain ⟨cs',c1,c2⟩:=hx i (by omega);obtain ⟨x,hrep⟩:=hE n cs' _ c2;obtain ⟨_,hlen,hcell⟩:=World.cells?_some c1;rw [hr] at hcell hlen
    exact ⟨x,cs',hrep,fun j u hu=>(hcell j (by rw [← hlen];exact (Zoh.1 hu).1)).trans hu⟩)
   subst hll;refine ⟨some a,cap,l,h1,hl,hm,fun hpos=>?_⟩;obtain ⟨cs',c1,c2⟩:=hx 0 (by omega);obtain ⟨_,hlen,hcell⟩:=World.cells?_some c1;rw [hr] at hlen hcell
   have hspot:a.spot=none:=by
    have:=hcell 0 h0;rw [Zo8 (by omega)] at this;(have e2:(a.add (0*r.size)).add 0=a:=by simp [Addr.add]);rw [e2] at this;exact World.cell?_spot this
   obtain ⟨b,off,spot⟩:=a;simp only at hspot;subst hspot
   have hbl:b<w.heap.size:=by
    have:=hcell 0 h0;rw [Zo8 (by omega)] at this;(have e2:((⟨b,off,none⟩:Addr).add (0*r.size)).add 0=⟨b,off,none⟩:=by simp [Addr.add]);rw [e2] at this;exact Zoa w _ this
   refine ⟨b,off,rfl,hbl,hbl,fun k hk=>?_⟩;obtain ⟨cs2,g1,g2⟩:=hq k hk;refine ⟨cs2,g1,fun j u hu=>?_⟩;have:=g2 j u hu;rwa [add_plain,add_plain] at this
theorem Z2g {H:Type} {enc:TypeId×Value→H} {P:Program} {w:World} {base:Nat} {spare:Nat→Bool} {held:Bool} {t:TypeId} {fs:Array Field} {n:Nat} {cs:List Value} {x:DataW H×List MemPlace}
 (ht:P.underlying t=some (.struct fs)) (h:DataW.trod enc P w base spare held n t cs=some x) (i:Nat) {f:Field} (hf:fs[i]? = some f) (ty off sz:Nat) (e1:f.type=ty) (e2:f.offset=off) (e3:P.cellsOf ty=sz) :
 ∃m y,DataW.trod enc P w base spare held m ty ((cs.drop off).take sz)=some y:=by
 obtain ⟨xs,n2,_,_,_,hlen,hx⟩:=DataW.trod_struct ht h;have h1:=hx i f hf;subst e1;subst e2;subst e3
 have hi:i<xs.length:=by
  have:=(Zob.1 hf).1;omega
 rw [Zo8 hi] at h1;exact ⟨n2,_,h1⟩
theorem Zem {H:Type} {enc:TypeId×Value→H} {P:Program} {w:World} {base:Nat} {spare:Nat→Bool} {held:Bool} {t:TypeId} {fs:Array Field} {n:Nat} {cs:List Value} {x:DataW H×List MemPlace}
 (ht:P.underlying t=some (.struct fs)) (h:DataW.trod enc P w base spare held n t cs=some x):cs.length=P.cellsOf t:=by
 obtain ⟨_,_,_,_,hl,_⟩:=DataW.trod_struct ht h;exact hl
theorem Z8o {H:Type} {enc:TypeId×Value→H} {P:Program} {w:World} {rc:Reach} {b0 base:Nat} {spare:Nat→Bool} {held:Bool} {α:Type} {r:RepT α} {t e:TypeId} {v:Value} {d:DataW H} {ps:List MemPlace}
 (ht:P.underlying t=some (.slice e)) (h0:0<r.size) (hr:Zgj P e r) (hval:Value.okWide P w rc b0 t v) (h:DataW.Trod enc P w base spare held t v d ps) :
 ∃A c,∃l:List α,v = .slice A l.length c∧RowR r (· < w.heap.size) w A c l:=by
 obtain ⟨A,len,cap,rfl⟩:=okWide_slice ht hval;obtain ⟨fuel,hf⟩:=h;(have hcs:(Value.slice A len cap).cells.toList = [.slice A len cap]:=by simp [Value.cells]);rw [hcs] at hf;obtain ⟨A',c',l,h1,h2⟩:=Zdq ht h0 hr.1 (fun n cs x h=>hr.2 H enc w base spare held n cs x h) hf;simp only [List.cons.injEq,and_true] at h1;exact ⟨A',c',l,h1,h2⟩
end
section
structure TC {α:Type} (cmp:α→α→Int):Prop where
 refl : ∀x,cmp x x=0
 symm : ∀x y,cmp x y<0↔0<cmp y x
 trans : ∀x y z,cmp x y≤0→cmp y z≤0→cmp x z≤0
section
variable {α:Type} {cmp:α→α→Int}
theorem TC.eq_symm (h:TC cmp) {x y:α} (e:cmp x y=0):cmp y x=0:=by
 have a:=h.symm x y;have b:=h.symm y x;omega
theorem TC.lt_of_lt_of_le (h:TC cmp) {x y z:α} (a:cmp x y<0) (b:cmp y z≤0):cmp x z<0:=by
 have c:=h.symm x z;have d:=h.symm z x;have e:=h.symm x y;have g:=h.symm y x;by_cases hz:cmp x z<0
 · exact hz
 · have t:=h.trans y z x b (by omega)
   omega
theorem TC.lt_of_le_of_lt (h:TC cmp) {x y z:α} (a:cmp x y≤0) (b:cmp y z<0):cmp x z<0:=by
 have c:=h.symm x z;have d:=h.symm z x;have e:=h.symm y z;have g:=h.symm z y;by_cases hz:cmp x z<0
 · exact hz
 · have t:=h.trans z x y (by omega) a
   omega
theorem TC.lt_trans (h:TC cmp) {x y z:α} (a:cmp x y<0) (b:cmp y z<0):cmp x z<0:=h.lt_of_lt_of_le a (by omega)
def Srt (cmp:α→α→Int) (l:List α):Prop:=l.Pairwise (fun a b=>cmp a b<0)
def has (cmp:α→α→Int) (l:List α) (x:α):Bool:=l.any (fun y=>cmp y x == 0)
def below (cmp:α→α→Int) (l:List α) (x:α):List α:=l.filter (fun y=>decide (cmp y x<0))
def Z3u (cmp:α→α→Int) (l:List α) (x:α):List α:=l.filter (fun y=>decide (0<cmp y x))
def rank (cmp:α→α→Int) (l:List α) (x:α):Nat:=(below cmp l x).length
def put (cmp:α→α→Int) (l:List α) (x:α):List α:=if has cmp l x then l else below cmp l x++x :: Z3u cmp l x
def drop (cmp:α→α→Int) (l:List α) (x:α):List α:=l.filter (fun y=>!(cmp y x == 0))
def puts (cmp:α→α→Int) (l xs:List α):List α:=xs.foldl (put cmp) l
theorem Z4y {l:List α} {x:α}:has cmp l x=true↔∃y∈l,cmp y x=0:=by simp [has]
theorem Z35 {l:List α} {x:α}:has cmp l x=false↔∀y∈l,cmp y x≠0:=by simp [has]
theorem Z4v {l:List α} {x:α} {k:Nat} (h1 : ∀i,(h:i<l.length)→i<k→cmp l[i] x<0) (h2 : ∀i,(h:i<l.length)→k≤i→0<cmp l[i] x) :
 below cmp l x=l.take k∧Z3u cmp l x=l.drop k∧has cmp l x=false:=by
 have e1 : ∀y∈l.take k,cmp y x<0:=by
  intro y hy;obtain ⟨i,hi,rfl⟩:=List.getElem_of_mem hy;rw [List.getElem_take];simp at hi;exact h1 i (by omega) (by omega)
 have e2 : ∀y∈l.drop k,0<cmp y x:=by
  intro y hy;obtain ⟨i,hi,rfl⟩:=List.getElem_of_mem hy;rw [List.getElem_drop];simp at hi;exact h2 (k+i) (by omega) (by omega)
 refine ⟨?_,?_,?_⟩
 · unfold below
   conv=>lhs;rw [← List.take_append_drop k l]
   rw [List.filter_append,List.filter_eq_self.2 (fun y hy=>by simpa using e1 y hy),List.filter_eq_nil_iff.2 (fun y hy=>by have:=e2 y hy;simp;omega),Zpa]
 · unfold Z3u
   conv=>lhs;rw [← List.take_append_drop k l]
   rw [List.filter_append,(List.filter_eq_self (l:=l.drop k)).2 (fun y hy=>by simpa using e2 y hy),List.filter_eq_nil_iff.2 (fun y hy=>by have:=e1 y hy;simp;omega),Zom]
 · rw [Z35]
   intro y hy;rw [← List.take_append_drop k l] at hy;rcases Zp7.1 hy with hy | hy
   · have:=e1 y hy;omega
   · have:=e2 y hy;omega
theorem Srt.lt {l:List α} (h:Srt cmp l) {i j:Nat} (hij:i<j) (hj:j<l.length):cmp (l[i]'(by omega)) l[j]<0:=
 List.pairwise_iff_getElem.1 h i j (by omega) hj hij
theorem Z4g (t:TC cmp) {l:List α} (hs:Srt cmp l) {x:α} {k:Nat} (hk:k<l.length) (e:cmp l[k] x=0) :
 below cmp l x=l.take k∧Z3u cmp l x=l.drop (k+1)∧has cmp l x=true∧drop cmp l x=l.take k++l.drop (k+1):=by
 have e1 : ∀y∈l.take k,cmp y x<0:=by
  intro y hy;obtain ⟨i,hi,rfl⟩:=List.getElem_of_mem hy;rw [List.getElem_take];simp at hi;exact t.lt_of_lt_of_le (hs.lt (by omega) hk) (by omega)
 have e2 : ∀y∈l.drop (k+1),0<cmp y x:=by
  intro y hy;obtain ⟨i,hi,rfl⟩:=List.getElem_of_mem hy;rw [List.getElem_drop];simp at hi;have h1:cmp x (l[k+1+i]'(by omega))<0:=t.lt_of_le_of_lt (y:=l[k]) (by have:=t.eq_symm e;omega) (hs.lt (by omega) (by omega));exact (t.symm _ _).1 h1
 have hl:l=l.take k++l[k] :: l.drop (k+1):=by
  rw [List.getElem_cons_drop,List.take_append_drop]
 refine ⟨?_,?_,?_,?_⟩
 · unfold below
   conv=>lhs;rw [hl]
   rw [List.filter_append,List.filter_cons,List.filter_eq_self.2 (fun y hy=>by simpa using e1 y hy),List.filter_eq_nil_iff.2 (fun y hy=>by have:=e2 y hy;simp;omega)];simp [e]
 · unfold Z3u
   conv=>lhs;rw [hl]
   rw [List.filter_append,List.filter_cons,List.filter_eq_nil_iff.2 (fun y hy=>by have:=e1 y hy;simp;omega),(List.filter_eq_self (l:=l.drop (k+1))).2 (fun y hy=>by simpa using e2 y hy)];simp [e]
 · rw [Z4y];exact ⟨_,Zoy hk,e⟩
 · unfold drop
   conv=>lhs;rw [hl]
   rw [List.filter_append,List.filter_cons,List.filter_eq_self.2 (fun y hy=>by have:=e1 y hy;simp;omega),(List.filter_eq_self (l:=l.drop (k+1))).2 (fun y hy=>by have:=e2 y hy;simp;omega)];simp [e]
theorem Z3i {l:List α} {x:α} {k:Nat} (hk:k≤l.length) (h1 : ∀i,(h:i<l.length)→i<k→cmp l[i] x<0) (h2 : ∀i,(h:i<l.length)→k≤i→0<cmp l[i] x):rank cmp l x=k:=by
 unfold rank;rw [(Z4v h1 h2).1];simp;omega
theorem Z3j (t:TC cmp) {l:List α} (hs:Srt cmp l) {x:α} {k:Nat} (hk:k<l.length) (e:cmp l[k] x=0):rank cmp l x=k:=by
 unfold rank;rw [(Z4g t hs hk e).1];simp;omega
theorem Zmw (t:TC cmp) {l:List α} (hs:Srt cmp l) (x:α) :
 (has cmp l x=false∧l=below cmp l x++Z3u cmp l x)∨(∃y,has cmp l x=true∧cmp y x=0∧l=below cmp l x++y :: Z3u cmp l x):=by
 induction l with
 | nil=>exact .inl ⟨rfl,rfl⟩
 | cons a r ih=>
   have hr:Srt cmp r:=(List.pairwise_cons.1 hs).2;have ha : ∀y∈r,cmp a y<0:=(List.pairwise_cons.1 hs).1;by_cases h1:cmp a x<0
   · rcases ih hr with ⟨h2,h3⟩ | ⟨y,h2,h3,h4⟩
     · left
       refine ⟨?_,?_⟩
       · simp only [has,List.any_cons,Bool.or_eq_false_iff];exact ⟨by simp;omega,h2⟩
       · have e1:below cmp (a :: r) x=a :: below cmp r x:=by simp [below,h1]
         (have e2:Z3u cmp (a :: r) x=Z3u cmp r x:=by unfold Z3u;rw [List.filter_cons,if_neg (by simp;omega)]);rw [e1,e2,Zp1,← h3]
     · right
       refine ⟨y,?_,h3,?_⟩
       · simp only [has,List.any_cons,Bool.or_eq_true];exact .inr h2
       · have e1:below cmp (a :: r) x=a :: below cmp r x:=by simp [below,h1]
         (have e2:Z3u cmp (a :: r) x=Z3u cmp r x:=by unfold Z3u;rw [List.filter_cons,if_neg (by simp;omega)]);rw [e1,e2,Zp1,← h4]
   · have hall : ∀y∈r,0<cmp y x:=fun y hy=>(t.symm x y).1 (t.lt_of_le_of_lt (y:=a) (by have:=t.symm a x;have:=t.symm x a;omega) (ha y hy))
     have b0:below cmp r x = []:=List.filter_eq_nil_iff.2 (fun y hy=>by have:=hall y hy;simp;omega);have a0:Z3u cmp r x=r:=List.filter_eq_self.2 (fun y hy=>by simpa using hall y hy);have n0:has cmp r x=false:=Z35.2 (fun y hy=>by have:=hall y hy;omega);(have e1:below cmp (a :: r) x = []:=by unfold below;rw [List.filter_cons,if_neg (by simpa using h1)];exact b0);by_cases h2:cmp a x=0
     · right
       refine ⟨a,Z4y.2 ⟨a,by simp,h2⟩,h2,?_⟩;(have e2:Z3u cmp (a :: r) x=r:=by unfold Z3u;rw [List.filter_cons,if_neg (by simp;omega)];exact a0);rw [e1,e2];rfl
     · left
       refine ⟨?_,?_⟩
       · simp only [has,List.any_cons,Bool.or_eq_false_iff];exact ⟨by simpa using h2,n0⟩
       · have e2:Z3u cmp (a :: r) x=a :: r:=by unfold Z3u;rw [List.filter_cons,if_pos (by simp;omega)];exact congrArg _ a0
         rw [e1,e2];rfl
theorem Z4p {l:List α} {x y:α}:y∈below cmp l x↔y∈l∧cmp y x<0:=by simp [below]
theorem Z4o {l:List α} {x y:α}:y∈Z3u cmp l x↔y∈l∧0<cmp y x:=by simp [Z3u]
theorem Srt.put (t:TC cmp) {l:List α} (hs:Srt cmp l) (x:α):Srt cmp (put cmp l x):=by
 unfold YtldndkngpdfpfaaGreat.put
 split
 · exact hs
 · refine List.pairwise_append.2 ⟨hs.sublist List.filter_sublist,List.pairwise_cons.2 ⟨fun y hy=>?_,hs.sublist List.filter_sublist⟩,fun y hy z hz=>?_⟩
   · exact (t.symm x y).2 (Z4o.1 hy).2
   · rcases Zoj.1 hz with rfl | hz
     · exact (Z4p.1 hy).2
     · exact t.lt_trans (Z4p.1 hy).2 ((t.symm x z).2 (Z4o.1 hz).2)
theorem Srt.nil:Srt cmp ([]:List α):=List.Pairwise.nil
theorem Srt.puts (t:TC cmp) : ∀(xs:List α) {l:List α},Srt cmp l→Srt cmp (puts cmp l xs)
 | [],_,h=>h
 | x :: xs,_,h=>Srt.puts t xs (h.put t x)
theorem Z23 (l xs:List α) (x:α):puts cmp l (xs ++ [x])=put cmp (puts cmp l xs) x:=by simp [puts]
theorem Z6r {l:List α} {x:α} (t:TC cmp) (hs:Srt cmp l) (h:has cmp l x=false):(below cmp l x).length+(Z3u cmp l x).length=l.length:=by
 rcases Zmw t hs x with ⟨_,e⟩ | ⟨y,h',_⟩
 · conv=>rhs;rw [e]
   simp
 · rw [h] at h';cases h'
theorem Z6s (t:TC cmp) {l:List α} (hs:Srt cmp l) (x:α):(put cmp l x).length≤l.length+1:=by
 unfold YtldndkngpdfpfaaGreat.put;by_cases h:has cmp l x=true
 · rw [if_pos h];omega
 · rw [if_neg h]
   have:=Z6r t hs (x:=x) (by simpa using h);simp;omega
theorem Z13 (t:TC cmp) : ∀(xs:List α) {l:List α},Srt cmp l→(puts cmp l xs).length≤l.length+xs.length
 | [],_,_=>by simp [puts]
 | x :: xs,l,h=>by
   have h1:=Z13 t xs (h.put t x);have h2:=Z6s t h x;have e:puts cmp l (x :: xs)=puts cmp (put cmp l x) xs:=rfl;rw [e];simp;omega
theorem Z4z (l:List α) (x:α):rank cmp l x≤l.length:=List.length_filter_le _ _
theorem Zdw {l B A:List α} (e:l=B++A):l.take B.length=B:=by subst e;simp
theorem Zcs {l B A:List α} (e:l=B++A):l.drop B.length=A:=by subst e;simp
theorem Z9d {l B A:List α} {y:α} (e:l=B++y :: A):l[B.length]? = some y:=by subst e;simp
theorem Z66 (t:TC cmp) {l:List α} (hs:Srt cmp l) {x:α} (h:has cmp l x=false):put cmp l x=l.take (rank cmp l x)++x :: l.drop (rank cmp l x):=by
 rcases Zmw t hs x with ⟨_,e⟩ | ⟨y,h',_⟩
 · have e1:l.take (rank cmp l x)=below cmp l x:=Zdw e
   have e2:l.drop (rank cmp l x)=Z3u cmp l x:=Zcs e;rw [e1,e2];unfold YtldndkngpdfpfaaGreat.put;rw [if_neg (by rw [h];simp)]
 · rw [h] at h';cases h'
theorem Z3m {l:List α} {x:α} (h:has cmp l x=true):put cmp l x=l:=by unfold YtldndkngpdfpfaaGreat.put;rw [if_pos h]
theorem Z2e (t:TC cmp) {l:List α} (hs:Srt cmp l) {x:α} (h:has cmp l x=false):(put cmp l x).length=l.length+1:=by
 rw [Z66 t hs h];have:=Z4z (cmp:=cmp) l x;simp;omega
theorem Zhe (t:TC cmp) {l:List α} (hs:Srt cmp l) {x:α} (h:has cmp l x=true):rank cmp l x<l.length∧drop cmp l x=l.take (rank cmp l x)++l.drop (rank cmp l x+1)∧∃hk:rank cmp l x<l.length,cmp l[rank cmp l x] x=0:=by
 rcases Zmw t hs x with ⟨h',_⟩ | ⟨y,_,ey,e⟩
 · rw [h] at h';cases h'
 · have hk:rank cmp l x<l.length:=by
    have h2:l[rank cmp l x]? = some y:=Z9d e;exact (Zoh.1 h2).1
   have hy:l[rank cmp l x]=y:=by
    have h1:l[rank cmp l x]? = some y:=Z9d e;rw [Zo8 hk] at h1;exact Zpd h1
   (have e0:cmp l[rank cmp l x] x=0:=by rw [hy];exact ey);exact ⟨hk,(Z4g t hs hk e0).2.2.2,hk,e0⟩
def Z0c (l:List α) (x:α) (i:Nat):List α:=l.take i++(l ++ [x]).getD i x :: l.drop i
theorem Z03 (l:List α) (x:α) {i:Nat} (h:i≤l.length):(Z0c l x i).length=l.length+1:=by simp [Z0c];omega
theorem Z21 (l:List α) (x:α):Z0c l x l.length=l ++ [x]:=by simp [Z0c]
theorem Z26 (l:List α) (x:α) {j:Nat} (h:j<l.length) (h':j<(Z0c l x (j+1)).length):(Z0c l x (j+1))[j]=l[j]:=by
 apply Zpd;rw [← Zo8];unfold Z0c;rw [Zot (by simp;omega)];simp [h]
theorem Z27 (l:List α) (x:α) {j:Nat} (h:j<l.length):(Z0c l x (j+1)).set (j+1) l[j]=Z0c l x j:=by
 unfold Z0c;rw [List.set_append_right _ _ (by simp;omega)];(have e:(j+1 - (l.take (j+1)).length)=0:=by simp;omega);rw [e,List.set_cons_zero,List.take_succ_eq_append_getElem h,Zpf];(have e2:(l ++ [x]).getD j x=l[j]:=by rw [List.getD_eq_getElem?_getD,Zot h,Zo8 h];rfl);rw [e2,← List.getElem_cons_drop h];rfl
theorem Z2q (l:List α) (x:α) {k:Nat} (h:k≤l.length):(Z0c l x k).set k x=l.take k++x :: l.drop k:=by
 unfold Z0c;rw [List.set_append_right _ _ (by simp;omega)];(have e:(k - (l.take k).length)=0:=by simp;omega);rw [e,List.set_cons_zero]
end
def Z14 (a b:Int):Int:=if a<b then -1 else if b<a then 1 else 0
theorem Z31:TC Z14:=by
 constructor
 · intro x;simp [Z14]
 · intro x y;simp only [Z14];split<;>split<;>simp<;>(try split)<;>omega
 · intro x y z;simp only [Z14];intro h1 h2;split at h1<;>split at h2<;>(try split at h1)<;>(try split at h2)<;>split<;>(try split)<;>omega
theorem Z3h {a b:Int}:Z14 a b=0↔a=b:=by simp only [Z14];split<;>(try split)<;>omega
theorem Z1m : ∀x:List UInt8,Op.bytesLess x x=false
 | []=>rfl
 | a :: x=>by simp [Op.bytesLess,Z1m x]
theorem Z3w : ∀{x y z:List UInt8},Op.bytesLess x y=true→Op.bytesLess y z=true→Op.bytesLess x z=true
 | _,[],_,h,_=>by simp [Op.bytesLess] at h
 | _,_ :: _,[],_,h=>by simp [Op.bytesLess] at h
 | [],_ :: _,_ :: _,_,_=>by simp [Op.bytesLess]
 | a :: x,b :: y,c :: z,h1,h2=>by
   simp only [Op.bytesLess,Bool.or_eq_true,Zoo,Zpg,beq_iff_eq] at h1 h2 ⊢;rcases h1 with h1 | ⟨rfl,h1⟩
   · rcases h2 with h2 | ⟨rfl,h2⟩
     · exact .inl (UInt8.lt_trans h1 h2)
     · exact .inl h1
   · rcases h2 with h2 | ⟨rfl,h2⟩
     · exact .inl h2
     · exact .inr ⟨rfl,Z3w h1 h2⟩
theorem Z5e : ∀(x y:List UInt8),Op.bytesLess x y=false→Op.bytesLess y x=false→x=y
 | [],[],_,_=>rfl
 | [],_ :: _,h,_=>by simp [Op.bytesLess] at h
 | _ :: _,[],_,h=>by simp [Op.bytesLess] at h
 | a :: x,b :: y,h1,h2=>by
   simp only [Op.bytesLess,Bool.or_eq_false_iff,decide_eq_false_iff_not,Bool.and_eq_false_iff,beq_eq_false_iff_ne] at h1 h2;obtain ⟨h1,h3⟩:=h1;obtain ⟨h2,h4⟩:=h2
   have e:a=b:=by
    apply UInt8.toNat_inj.1;simp only [UInt8.lt_iff_toNat_lt] at h1 h2;omega
   subst e;rw [Z5e x y (h3.resolve_left (fun h=>h rfl)) (h4.resolve_left (fun h=>h rfl))]
theorem Z8b {x y:List UInt8} (h:Op.bytesLess x y=true):Op.bytesLess y x=false:=by
 cases e:Op.bytesLess y x
 · rfl
 · have:=Z3w h e;rw [Z1m] at this;cases this
def Z2a (a b:ByteArray):Int:=if Op.bytesLess a.toList b.toList=true then -1 else if a.toList=b.toList then 0 else 1
theorem Ziv:TC Z2a:=by
 have key : ∀a b:ByteArray,(Z2a a b = -1∧Op.bytesLess a.toList b.toList=true∧Op.bytesLess b.toList a.toList=false∧a.toList≠b.toList)∨
  (Z2a a b=0∧Op.bytesLess a.toList b.toList=false∧Op.bytesLess b.toList a.toList=false∧a.toList=b.toList)∨
  (Z2a a b=1∧Op.bytesLess a.toList b.toList=false∧Op.bytesLess b.toList a.toList=true∧a.toList≠b.toList):=by
  intro a b;unfold Z2a;cases h1:Op.bytesLess a.toList b.toList
  · cases h2:Op.bytesLess b.toList a.toList
    · have e:=Z5e _ _ h1 h2
      simp [e]
    · have hne:a.toList≠b.toList:=fun e=>by rw [e,Z1m] at h2;cases h2
      simp [hne]
  · have h2:=Z8b h1
    (have hne:a.toList≠b.toList:=fun e=>by rw [e,Z1m] at h1;cases h1);simp [h2,hne]
 constructor
 · intro x;simp [Z2a,Z1m]
 · intro x y
   rcases key x y with ⟨e,a,b,c⟩ | ⟨e,a,b,c⟩ | ⟨e,a,b,c⟩<;>rcases key y x with ⟨e',a',b',c'⟩ | ⟨e',a',b',c'⟩ | ⟨e',a',b',c'⟩<;>rw [e,e']<;>simp_all
 · intro x y z h1 h2
   rcases key x y with ⟨e,a,b,c⟩ | ⟨e,a,b,c⟩ | ⟨e,a,b,c⟩<;>rcases key y z with ⟨e',a',b',c'⟩ | ⟨e',a',b',c'⟩ | ⟨e',a',b',c'⟩<;>rw [e] at h1<;>rw [e'] at h2<;>(try omega)
   · have:=Z3w a a';unfold Z2a;rw [if_pos this];omega
   · rw [c'] at a;unfold Z2a;rw [if_pos a];omega
   · rw [← c] at a';unfold Z2a;rw [if_pos a'];omega
   · unfold Z2a;rw [c,c',if_neg (by rw [Z1m];simp),if_pos rfl];omega
theorem toList_inj {a b:ByteArray} (h:a.toList=b.toList):a=b:=by
 have e : ∀x:ByteArray,x.toList=x.data.toList:=Lib.toList_data;rw [e,e] at h;cases a;cases b;simp only [ByteArray.mk.injEq];exact Array.toList_inj.1 h
theorem Zh7 {a b:ByteArray}:Z2a a b=0↔a=b:=by
 constructor
 · intro h
   unfold Z2a at h
   split at h
   · omega
   · split at h
     · exact toList_inj ‹_›
     · omega
 · rintro rfl;simp [Z2a,Z1m]
def andThen (a b:Int):Int:=if a=0 then b else a
theorem Z30 {α β γ:Type} {f:α→β} {g:α→γ} {c1:β→β→Int} {c2:γ→γ→Int} (h1:TC c1) (h2:TC c2):TC (fun x y=>andThen (c1 (f x) (f y)) (c2 (g x) (g y))):=by
 constructor
 · intro x;simp [andThen,h1.refl,h2.refl]
 · intro x y
   have a:=h1.symm (f x) (f y);have b:=h1.symm (f y) (f x);have c:=h2.symm (g x) (g y);simp only [andThen]
   split<;>split<;>omega
 · intro x y z e1 e2
   simp only [andThen] at e1 e2 ⊢;by_cases p:c1 (f x) (f y)=0
   · rw [if_pos p] at e1
     by_cases q:c1 (f y) (f z)=0
     · rw [if_pos q] at e2
       have r:c1 (f x) (f z)=0:=by
        have r1:=h1.trans (f x) (f y) (f z) (by omega) (by omega);have r2:=h1.trans (f z) (f y) (f x) (by have:=h1.eq_symm q;omega) (by have:=h1.eq_symm p;omega);have a:=h1.symm (f x) (f z);have b:=h1.symm (f z) (f x);omega
       rw [if_pos r];exact h2.trans _ _ _ e1 e2
     · rw [if_neg q] at e2
       have:=h1.lt_of_le_of_lt (x:=f x) (y:=f y) (z:=f z) (by omega) (by omega);rw [if_neg (by omega)];omega
   · rw [if_neg p] at e1
     have hq:c1 (f y) (f z)≤0:=by
      by_cases q:c1 (f y) (f z)=0
      · omega
      · rw [if_neg q] at e2;exact e2
     have:=h1.lt_of_lt_of_le (x:=f x) (y:=f y) (z:=f z) (by omega) hq;rw [if_neg (by omega)];omega
structure Sym where
 kind:Int
 text:ByteArray
 n:Int
theorem Sym.ext' {a b:Sym} (h1:a.kind=b.kind) (h2:a.text=b.text) (h3:a.n=b.n):a=b:=by cases a;cases b;simp_all
instance:DecidableEq Sym:=fun a b=>decidable_of_iff (a.kind=b.kind∧a.text=b.text∧a.n=b.n) ⟨fun ⟨h1,h2,h3⟩=>Sym.ext' h1 h2 h3,fun h=>by subst h;exact ⟨rfl,rfl,rfl⟩⟩
instance:Inhabited Sym:=⟨⟨0,⟨#[]⟩,0⟩⟩
def Z08 (a b:Sym):Int:=andThen (Z14 a.kind b.kind) (andThen (Z2a a.text b.text) (Z14 a.n b.n))
theorem Z2x:TC Z08:=Z30 (f:=Sym.kind) (g:=fun s:Sym=>(s.text,s.n)) (c2:=fun x y=>andThen (Z2a x.1 y.1) (Z14 x.2 y.2)) Z31
 (Z30 (f:=fun x:ByteArray×Int=>x.1) (g:=fun x:ByteArray×Int=>x.2) Ziv Z31)
theorem Z3x {a b:Sym}:Z08 a b=0↔a=b:=by
 constructor
 · intro h
   simp only [Z08,andThen] at h
   split at h
   · split at h
     · exact Sym.ext' (Z3h.1 ‹_›) (Zh7.1 ‹_›) (Z3h.1 h)
     · exact absurd h ‹_›
   · exact absurd h ‹_›
 · rintro rfl;exact Z2x.refl _
end
section
open Go.RowKit
def Sym.cells (s:Sym):List Value:=[.int .i64 s.kind,.string s.text,.int .i64 s.n]
theorem Sym.cells_length (s:Sym):s.cells.length=3:=rfl
theorem Zhk (a:Int) (w:World):Calls Tryz.prog 226 #[.int .i64 a] w fun e w'=>e = .returned (.bool false)∧w=w':=by
 go_enter Tryz.func226,Tryz.ntmps226;go_wp2;go_ret;exact ⟨by simp,rfl⟩
theorem Zhl (a:ByteArray) (w:World):Calls Tryz.prog 227 #[.string a] w fun e w'=>e = .returned (.bool false)∧w=w':=by
 go_enter Tryz.func227,Tryz.ntmps227;go_wp2;go_ret;exact ⟨by simp,rfl⟩
theorem Zco (a b:Int) (w:World):Calls Tryz.prog 184 #[.int .i64 a,.int .i64 b] w fun e w'=>e = .returned (.int .i64 (Z14 a b))∧w=w':=by
 go_enter Tryz.func184,Tryz.ntmps184;go_wp2_with (go_at_call 226;refine (Zhk _ _).mono ?_;rintro e w' ⟨rfl,rfl⟩)
 all_goals (go_ret;refine ⟨?_,rfl⟩;unfold Z14;(repeat' split)<;>first | rfl | (exfalso;omega))
theorem Zcp (a b:ByteArray) (w:World):Calls Tryz.prog 185 #[.string a,.string b] w fun e w'=>e = .returned (.int .i64 (Z2a a b))∧w=w':=by
 go_enter Tryz.func185,Tryz.ntmps185;go_wp2_with (go_at_call 227;refine (Zhl _ _).mono ?_;rintro e w' ⟨rfl,rfl⟩)
 all_goals (go_ret;refine ⟨?_,rfl⟩;unfold Z2a;(repeat' split)<;>first | rfl | (exfalso;simp_all))
theorem Zh9 (a b:Sym) (w:World) :
 Calls Tryz.prog 143 #[.agg #[.int .i64 a.kind,.string a.text,.int .i64 a.n],.agg #[.int .i64 b.kind,.string b.text,.int .i64 b.n]] w fun e w'=>e = .returned (.int .i64 (Z08 a b))∧Below w.heap.size w w':=by
 obtain ⟨ak,at_,an⟩:=a;obtain ⟨bk,bt,bn⟩:=b;by_cases h1:Z14 ak bk=0
 · have n1:(Z14 ak bk != 0)=false:=by simp [h1]
   by_cases h2:Z2a at_ bt=0
   · have n2:(Z2a at_ bt != 0)=false:=by simp [h2]
     (have HF:Hid (Z08 ⟨ak,at_,an⟩ ⟨bk,bt,bn⟩=Z14 an bn):=by simp [Hid,Z08,andThen,h1,h2]);clear h1 h2;go_enter Tryz.func143,Tryz.ntmps143;(go_wp2_with (first | (go_at_call 184;refine (Zco _ _ _).mono ?_;rintro e w' ⟨rfl,rfl⟩) | (go_at_call 185;refine (Zcp _ _ _).mono ?_;rintro e w' ⟨rfl,rfl⟩)));go_ret;exact ⟨by rw [HF.out];rfl,((Znz _ _).alloc (Zo0 _) _).alloc (by simp) _⟩
   · have n2:(Z2a at_ bt != 0)=true:=by simp [h2]
     (have HF:Hid (Z08 ⟨ak,at_,an⟩ ⟨bk,bt,bn⟩=Z2a at_ bt):=by simp [Hid,Z08,andThen,h1,h2]);clear h1 h2;go_enter Tryz.func143,Tryz.ntmps143;(go_wp2_with (first | (go_at_call 184;refine (Zco _ _ _).mono ?_;rintro e w' ⟨rfl,rfl⟩) | (go_at_call 185;refine (Zcp _ _ _).mono ?_;rintro e w' ⟨rfl,rfl⟩)));go_ret;exact ⟨by rw [HF.out];rfl,((Znz _ _).alloc (Zo0 _) _).alloc (by simp) _⟩
 · have n1:(Z14 ak bk != 0)=true:=by simp [h1]
   (have HF:Hid (Z08 ⟨ak,at_,an⟩ ⟨bk,bt,bn⟩=Z14 ak bk):=by simp [Hid,Z08,andThen,h1]);clear h1;go_enter Tryz.func143,Tryz.ntmps143;(go_wp2_with (first | (go_at_call 184;refine (Zco _ _ _).mono ?_;rintro e w' ⟨rfl,rfl⟩) | (go_at_call 185;refine (Zcp _ _ _).mono ?_;rintro e w' ⟨rfl,rfl⟩)));go_ret;exact ⟨by rw [HF.out];rfl,((Znz _ _).alloc (Zo0 _) _).alloc (by simp) _⟩
end
section
open Go.RowKit Go.ChangeShapes Go.WideShapes Go.Deep
theorem Zil:Zn6 Tryz.prog 23 3 Sym.cells:=
 ⟨by kernel_rfl,fun H enc w base spare held n cs x h=>by
  obtain ⟨y0,y1,y2,n',_,hl,h0,h1,h2⟩:=trod_struct3 Tryz.underlying23 h;have hl3:cs.length=3:=hl.trans (by kernel_rfl);(have c3:Tryz.prog.cellsOf 3=1:=by kernel_rfl);(have c9:Tryz.prog.cellsOf 9=1:=by kernel_rfl);simp only [c3,c9] at h0 h1 h2
  match cs,hl3 with
  | [v0,v1,v2],_=>
    simp at h0 h1 h2;obtain ⟨a,e0,_⟩:=DataW.trod_int Tryz.underlying3 h0;obtain ⟨b,e1,_⟩:=DataW.trod_string Tryz.underlying9 h1;obtain ⟨c,e2,_⟩:=DataW.trod_int Tryz.underlying3 h2;simp at e0 e1 e2;subst e0;subst e1;subst e2
    exact ⟨⟨a,b,c⟩,rfl⟩⟩
def Z4r:RepT Sym:=RepT.flat 3 Sym.cells Sym.cells_length
theorem Z5l:Zgj Tryz.prog 23 Z4r:=Z92 Sym.cells_length Zil
structure Elem where
 id:Sym
 attr:Sym
 value:Sym
 acc:Bool
 goal:Bool
 tag:Int
def Elem.cells (x:Elem):List Value:=[.int .i64 x.id.kind,.string x.id.text,.int .i64 x.id.n,.int .i64 x.attr.kind,.string x.attr.text,.int .i64 x.attr.n,.int .i64 x.value.kind,.string x.value.text,.int .i64 x.value.n,.bool x.acc,.bool x.goal,.int .i64 x.tag]
theorem Elem.cells_length (x:Elem):x.cells.length=12:=rfl
structure Z3a where
 rel:Int
 var:ByteArray
 sym:Sym
 list:List Sym
def Z0g:RepT Z3a:=
 { size:=6,rep:=fun D w x cs=>∃A1 c1,cs = [.int .i64 x.rel,.string x.var,.int .i64 x.sym.kind,.string x.sym.text,.int .i64 x.sym.n,.slice A1 x.list.length c1]∧RowR Z4r D w A1 c1 x.list,
   len:=by rintro _ _ _ _ ⟨_,_,rfl,_⟩;rfl,
   keep:=by
    rintro _ _ _ _ _ _ hs hk ⟨A1,c1,h0,h1⟩
    exact ⟨A1,c1,h0,h1.keep hs hk⟩ }
theorem Z9v {D:Nat→Prop} {w:World} {A:Option Addr} {c k:Nat} {l:List Z3a} (h:RowR Z0g D w A c l) (hk:k<l.length) : ∃g off A1 c1,A=some ⟨g,off,none⟩∧D g∧g<w.heap.size∧w.cell? ⟨g,off+k*6,none⟩=some (.int .i64 l[k].rel)∧w.cell? ⟨g,off+k*6+1,none⟩=some (.string l[k].var)∧w.cell? ⟨g,off+k*6+2,none⟩=some (.int .i64 l[k].sym.kind)∧w.cell? ⟨g,off+k*6+3,none⟩=some (.string l[k].sym.text)∧w.cell? ⟨g,off+k*6+4,none⟩=some (.int .i64 l[k].sym.n)∧w.cell? ⟨g,off+k*6+5,none⟩=some (.slice A1 l[k].list.length c1)∧RowR Z4r D w A1 c1 l[k].list:=by
 obtain ⟨g,off,cs,hA,hD,hg,⟨A1,c1,rfl,hrs⟩,hc⟩:=h.at_ hk;exact ⟨g,off,A1,c1,hA,hD,hg,by simpa [Z0g] using hc 0 _ rfl,by simpa [Z0g] using hc 1 _ rfl,by simpa [Z0g] using hc 2 _ rfl,by simpa [Z0g] using hc 3 _ rfl,by simpa [Z0g] using hc 4 _ rfl,by simpa [Z0g] using hc 5 _ rfl,hrs⟩
inductive Z1c where
 | mk (kind:Int) (goal:Bool) (id:ByteArray) (attr:List Z3a) (value:List Z3a) (acc:Bool) (conds:List Z1c)
def Z1c.kind:Z1c→Int
 | .mk x _ _ _ _ _ _=>x
def Z1c.goal:Z1c→Bool
 | .mk _ x _ _ _ _ _=>x
def Z1c.id:Z1c→ByteArray
 | .mk _ _ x _ _ _ _=>x
def Z1c.attr:Z1c→List Z3a
 | .mk _ _ _ x _ _ _=>x
def Z1c.value:Z1c→List Z3a
 | .mk _ _ _ _ x _ _=>x
def Z1c.acc:Z1c→Bool
 | .mk _ _ _ _ _ x _=>x
def Z1c.conds:Z1c→List Z1c
 | .mk _ _ _ _ _ _ x=>x
def Z0x:Nat→RepT Z1c
 | 0=>{ size:=7,rep:=fun _ _ _ _=>False,len:=fun h=>h.elim,keep:=fun _ _ h=>h }
 | n+1=>
 { size:=7,rep:=fun D w x cs=>∃A1 c1 A2 c2 A3 c3,cs = [.int .i64 x.kind,.bool x.goal,.string x.id,.slice A1 x.attr.length c1,.slice A2 x.value.length c2,.bool x.acc,.slice A3 x.conds.length c3]∧RowR Z0g D w A1 c1 x.attr∧RowR Z0g D w A2 c2 x.value∧RowR (Z0x n) D w A3 c3 x.conds,
   len:=by rintro _ _ _ _ ⟨_,_,_,_,_,_,rfl,_⟩;rfl,
   keep:=by
    rintro _ _ _ _ _ _ hs hk ⟨A1,c1,A2,c2,A3,c3,h0,h1,h2,h3⟩
    exact ⟨A1,c1,A2,c2,A3,c3,h0,h1.keep hs hk,h2.keep hs hk,h3.keep hs hk⟩ }
theorem Z50 (n:Nat):(Z0x n).size=7:=by cases n<;>rfl
theorem Z82 {n:Nat} {D:Nat→Prop} {w:World} {A:Option Addr} {c k:Nat} {l:List Z1c} (h:RowR (Z0x (n+1)) D w A c l) (hk:k<l.length) : ∃g off A1 c1 A2 c2 A3 c3,A=some ⟨g,off,none⟩∧D g∧g<w.heap.size∧w.cell? ⟨g,off+k*7,none⟩=some (.int .i64 l[k].kind)∧w.cell? ⟨g,off+k*7+1,none⟩=some (.bool l[k].goal)∧w.cell? ⟨g,off+k*7+2,none⟩=some (.string l[k].id)∧w.cell? ⟨g,off+k*7+3,none⟩=some (.slice A1 l[k].attr.length c1)∧w.cell? ⟨g,off+k*7+4,none⟩=some (.slice A2 l[k].value.length c2)∧w.cell? ⟨g,off+k*7+5,none⟩=some (.bool l[k].acc)∧w.cell? ⟨g,off+k*7+6,none⟩=some (.slice A3 l[k].conds.length c3)∧RowR Z0g D w A1 c1 l[k].attr∧RowR Z0g D w A2 c2 l[k].value∧RowR (Z0x n) D w A3 c3 l[k].conds:=by
 obtain ⟨g,off,cs,hA,hD,hg,⟨A1,c1,A2,c2,A3,c3,rfl,hrs⟩,hc⟩:=h.at_ hk;exact ⟨g,off,A1,c1,A2,c2,A3,c3,hA,hD,hg,by simpa [Z0x] using hc 0 _ rfl,by simpa [Z0x] using hc 1 _ rfl,by simpa [Z0x] using hc 2 _ rfl,by simpa [Z0x] using hc 3 _ rfl,by simpa [Z0x] using hc 4 _ rfl,by simpa [Z0x] using hc 5 _ rfl,by simpa [Z0x] using hc 6 _ rfl,hrs⟩
structure Z4t where
 var:ByteArray
 sym:Sym
structure Zgl where
 op:Int
 a:Z4t
 b:Z4t
structure ActT where
 id:ByteArray
 attr:Z4t
 value:Zgl
 pref:Int
 other:Z4t
def ActT.cells (x:ActT):List Value:=[.string x.id,.string x.attr.var,.int .i64 x.attr.sym.kind,.string x.attr.sym.text,.int .i64 x.attr.sym.n,.int .i64 x.value.op,.string x.value.a.var,.int .i64 x.value.a.sym.kind,.string x.value.a.sym.text,.int .i64 x.value.a.sym.n,.string x.value.b.var,.int .i64 x.value.b.sym.kind,.string x.value.b.sym.text,.int .i64 x.value.b.sym.n,.int .i64 x.pref,.string x.other.var,.int .i64 x.other.sym.kind,.string x.other.sym.text,.int .i64 x.other.sym.n]
theorem ActT.cells_length (x:ActT):x.cells.length=19:=rfl
def Z1j:RepT ActT:=RepT.flat 19 ActT.cells ActT.cells_length
theorem Zgq {D:Nat→Prop} {w:World} {A:Option Addr} {c k:Nat} {l:List ActT} (h:RowR Z1j D w A c l) (hk:k<l.length) : ∃g off,A=some ⟨g,off,none⟩∧D g∧g<w.heap.size∧w.cell? ⟨g,off+k*19,none⟩=some (.string l[k].id)∧w.cell? ⟨g,off+k*19+1,none⟩=some (.string l[k].attr.var)∧w.cell? ⟨g,off+k*19+2,none⟩=some (.int .i64 l[k].attr.sym.kind)∧w.cell? ⟨g,off+k*19+3,none⟩=some (.string l[k].attr.sym.text)∧w.cell? ⟨g,off+k*19+4,none⟩=some (.int .i64 l[k].attr.sym.n)∧w.cell? ⟨g,off+k*19+5,none⟩=some (.int .i64 l[k].value.op)∧w.cell? ⟨g,off+k*19+6,none⟩=some (.string l[k].value.a.var)∧w.cell? ⟨g,off+k*19+7,none⟩=some (.int .i64 l[k].value.a.sym.kind)∧w.cell? ⟨g,off+k*19+8,none⟩=some (.string l[k].value.a.sym.text)∧w.cell? ⟨g,off+k*19+9,none⟩=some (.int .i64 l[k].value.a.sym.n)∧w.cell? ⟨g,off+k*19+10,none⟩=some (.string l[k].value.b.var)∧w.cell? ⟨g,off+k*19+11,none⟩=some (.int .i64 l[k].value.b.sym.kind)∧w.cell? ⟨g,off+k*19+12,none⟩=some (.string l[k].value.b.sym.text)∧w.cell? ⟨g,off+k*19+13,none⟩=some (.int .i64 l[k].value.b.sym.n)∧w.cell? ⟨g,off+k*19+14,none⟩=some (.int .i64 l[k].pref)∧w.cell? ⟨g,off+k*19+15,none⟩=some (.string l[k].other.var)∧w.cell? ⟨g,off+k*19+16,none⟩=some (.int .i64 l[k].other.sym.kind)∧w.cell? ⟨g,off+k*19+17,none⟩=some (.string l[k].other.sym.text)∧w.cell? ⟨g,off+k*19+18,none⟩=some (.int .i64 l[k].other.sym.n):=by
 obtain ⟨g,off,cs,hA,hD,hg,hr,hc⟩:=h.at_ hk;have hr2:cs=ActT.cells l[k]:=hr;subst hr2;refine ⟨g,off,hA,hD,hg,by simpa [Z1j,RepT.flat] using hc 0 _ rfl,by simpa [Z1j,RepT.flat] using hc 1 _ rfl,by simpa [Z1j,RepT.flat] using hc 2 _ rfl,by simpa [Z1j,RepT.flat] using hc 3 _ rfl,by simpa [Z1j,RepT.flat] using hc 4 _ rfl,by simpa [Z1j,RepT.flat] using hc 5 _ rfl,by simpa [Z1j,RepT.flat] using hc 6 _ rfl,by simpa [Z1j,RepT.flat] using hc 7 _ rfl,by simpa [Z1j,RepT.flat] using hc 8 _ rfl,by simpa [Z1j,RepT.flat] using hc 9 _ rfl,by simpa [Z1j,RepT.flat] using hc 10 _ rfl,by simpa [Z1j,RepT.flat] using hc 11 _ rfl,by simpa [Z1j,RepT.flat] using hc 12 _ rfl,by simpa [Z1j,RepT.flat] using hc 13 _ rfl,by simpa [Z1j,RepT.flat] using hc 14 _ rfl,by simpa [Z1j,RepT.flat] using hc 15 _ rfl,by simpa [Z1j,RepT.flat] using hc 16 _ rfl,by simpa [Z1j,RepT.flat] using hc 17 _ rfl,by simpa [Z1j,RepT.flat] using hc 18 _ rfl⟩
structure Z4u where
 name:ByteArray
 conds:List Z1c
 acts:List ActT
structure Z59 where
 var:ByteArray
 sym:Sym
def Z59.cells (x:Z59):List Value:=[.string x.var,.int .i64 x.sym.kind,.string x.sym.text,.int .i64 x.sym.n]
theorem Z59.cells_length (x:Z59):x.cells.length=4:=rfl
def Zan:RepT Z59:=RepT.flat 4 Z59.cells Z59.cells_length
structure Z04 where
 id:Sym
 attr:Sym
 value:Sym
 other:Sym
 kind:Int
 o:Bool
 level:Int
 by_:Int
def Z04.cells (x:Z04):List Value:=[.int .i64 x.id.kind,.string x.id.text,.int .i64 x.id.n,.int .i64 x.attr.kind,.string x.attr.text,.int .i64 x.attr.n,.int .i64 x.value.kind,.string x.value.text,.int .i64 x.value.n,.int .i64 x.other.kind,.string x.other.text,.int .i64 x.other.n,.int .i64 x.kind,.bool x.o,.int .i64 x.level,.int .i64 x.by_]
theorem Z04.cells_length (x:Z04):x.cells.length=16:=rfl
def Zl3:RepT Z04:=RepT.flat 16 Z04.cells Z04.cells_length
theorem Z8p:Zgj Tryz.prog 68 Zl3:=
 ⟨by kernel_rfl,fun H enc w base spare held n cs x h=>by
  have hl2:cs.length=16:=(Zem Tryz.underlying68 h).trans (by kernel_rfl);obtain ⟨m0,y0,h0⟩:=Z2g Tryz.underlying68 h 0 rfl 23 0 3 rfl rfl (by kernel_rfl);obtain ⟨m1,y1,h1⟩:=Z2g Tryz.underlying68 h 1 rfl 23 3 3 rfl rfl (by kernel_rfl);obtain ⟨m2,y2,h2⟩:=Z2g Tryz.underlying68 h 2 rfl 23 6 3 rfl rfl (by kernel_rfl);obtain ⟨m3,y3,h3⟩:=Z2g Tryz.underlying68 h 3 rfl 23 9 3 rfl rfl (by kernel_rfl);obtain ⟨m4,y4,h4⟩:=Z2g Tryz.underlying68 h 4 rfl 3 12 1 rfl rfl (by kernel_rfl);obtain ⟨m5,y5,h5⟩:=Z2g Tryz.underlying68 h 5 rfl 4 13 1 rfl rfl (by kernel_rfl);obtain ⟨m6,y6,h6⟩:=Z2g Tryz.underlying68 h 6 rfl 3 14 1 rfl rfl (by kernel_rfl);obtain ⟨m7,y7,h7⟩:=Z2g Tryz.underlying68 h 7 rfl 3 15 1 rfl rfl (by kernel_rfl)
  match cs,hl2 with
  | [v0,v1,v2,v3,v4,v5,v6,v7,v8,v9,v10,v11,v12,v13,v14,v15],_=>
    simp at h0 h1 h2 h3 h4 h5 h6 h7;obtain ⟨a0,e0⟩:=Z5l.2 H enc w base spare held _ _ _ h0;have e0:_=Sym.cells a0:=e0;simp [Sym.cells] at e0;obtain ⟨a1,e1⟩:=Z5l.2 H enc w base spare held _ _ _ h1;have e1:_=Sym.cells a1:=e1;simp [Sym.cells] at e1;obtain ⟨a2,e2⟩:=Z5l.2 H enc w base spare held _ _ _ h2;have e2:_=Sym.cells a2:=e2;simp [Sym.cells] at e2;obtain ⟨a3,e3⟩:=Z5l.2 H enc w base spare held _ _ _ h3;have e3:_=Sym.cells a3:=e3;simp [Sym.cells] at e3;obtain ⟨a4,e4,_⟩:=DataW.trod_int Tryz.underlying3 h4;simp at e4;obtain ⟨a5,e5,_⟩:=DataW.trod_bool Tryz.underlying4 h5;simp at e5;obtain ⟨a6,e6,_⟩:=DataW.trod_int Tryz.underlying3 h6;simp at e6;obtain ⟨a7,e7,_⟩:=DataW.trod_int Tryz.underlying3 h7;simp at e7;obtain ⟨rfl,rfl,rfl⟩:=e0;obtain ⟨rfl,rfl,rfl⟩:=e1;obtain ⟨rfl,rfl,rfl⟩:=e2;obtain ⟨rfl,rfl,rfl⟩:=e3;subst e4;subst e5;subst e6;subst e7
    exact ⟨⟨a0,a1,a2,a3,a4,a5,a6,a7⟩,rfl⟩⟩
structure Z0e where
 elem:Elem
 level:Int
 cause:Int
def Z0e.cells (x:Z0e):List Value:=[.int .i64 x.elem.id.kind,.string x.elem.id.text,.int .i64 x.elem.id.n,.int .i64 x.elem.attr.kind,.string x.elem.attr.text,.int .i64 x.elem.attr.n,.int .i64 x.elem.value.kind,.string x.elem.value.text,.int .i64 x.elem.value.n,.bool x.elem.acc,.bool x.elem.goal,.int .i64 x.elem.tag,.int .i64 x.level,.int .i64 x.cause]
theorem Z0e.cells_length (x:Z0e):x.cells.length=14:=rfl
def Z1b:RepT Z0e:=RepT.flat 14 Z0e.cells Z0e.cells_length
theorem Zay {D:Nat→Prop} {w:World} {A:Option Addr} {c k:Nat} {l:List Z0e} (h:RowR Z1b D w A c l) (hk:k<l.length) : ∃g off,A=some ⟨g,off,none⟩∧D g∧g<w.heap.size∧w.cell? ⟨g,off+k*14,none⟩=some (.int .i64 l[k].elem.id.kind)∧w.cell? ⟨g,off+k*14+1,none⟩=some (.string l[k].elem.id.text)∧w.cell? ⟨g,off+k*14+2,none⟩=some (.int .i64 l[k].elem.id.n)∧w.cell? ⟨g,off+k*14+3,none⟩=some (.int .i64 l[k].elem.attr.kind)∧w.cell? ⟨g,off+k*14+4,none⟩=some (.string l[k].elem.attr.text)∧w.cell? ⟨g,off+k*14+5,none⟩=some (.int .i64 l[k].elem.attr.n)∧w.cell? ⟨g,off+k*14+6,none⟩=some (.int .i64 l[k].elem.value.kind)∧w.cell? ⟨g,off+k*14+7,none⟩=some (.string l[k].elem.value.text)∧w.cell? ⟨g,off+k*14+8,none⟩=some (.int .i64 l[k].elem.value.n)∧w.cell? ⟨g,off+k*14+9,none⟩=some (.bool l[k].elem.acc)∧w.cell? ⟨g,off+k*14+10,none⟩=some (.bool l[k].elem.goal)∧w.cell? ⟨g,off+k*14+11,none⟩=some (.int .i64 l[k].elem.tag)∧w.cell? ⟨g,off+k*14+12,none⟩=some (.int .i64 l[k].level)∧w.cell? ⟨g,off+k*14+13,none⟩=some (.int .i64 l[k].cause):=by
 obtain ⟨g,off,cs,hA,hD,hg,hr,hc⟩:=h.at_ hk;have hr2:cs=Z0e.cells l[k]:=hr;subst hr2;refine ⟨g,off,hA,hD,hg,by simpa [Z1b,RepT.flat] using hc 0 _ rfl,by simpa [Z1b,RepT.flat] using hc 1 _ rfl,by simpa [Z1b,RepT.flat] using hc 2 _ rfl,by simpa [Z1b,RepT.flat] using hc 3 _ rfl,by simpa [Z1b,RepT.flat] using hc 4 _ rfl,by simpa [Z1b,RepT.flat] using hc 5 _ rfl,by simpa [Z1b,RepT.flat] using hc 6 _ rfl,by simpa [Z1b,RepT.flat] using hc 7 _ rfl,by simpa [Z1b,RepT.flat] using hc 8 _ rfl,by simpa [Z1b,RepT.flat] using hc 9 _ rfl,by simpa [Z1b,RepT.flat] using hc 10 _ rfl,by simpa [Z1b,RepT.flat] using hc 11 _ rfl,by simpa [Z1b,RepT.flat] using hc 12 _ rfl,by simpa [Z1b,RepT.flat] using hc 13 _ rfl⟩
structure Z90 where
 cond:Z1c
 binds:List Z59
def Z15 (n:Nat):RepT Z90:=
 { size:=8,rep:=fun D w x cs=>∃A1 c1 A2 c2 A3 c3 A4 c4,cs = [.int .i64 x.cond.kind,.bool x.cond.goal,.string x.cond.id,.slice A1 x.cond.attr.length c1,.slice A2 x.cond.value.length c2,.bool x.cond.acc,.slice A3 x.cond.conds.length c3,.slice A4 x.binds.length c4]∧RowR Z0g D w A1 c1 x.cond.attr∧RowR Z0g D w A2 c2 x.cond.value∧RowR (Z0x n) D w A3 c3 x.cond.conds∧RowR Zan D w A4 c4 x.binds,
   len:=by rintro _ _ _ _ ⟨_,_,_,_,_,_,_,_,rfl,_⟩;rfl,
   keep:=by
    rintro _ _ _ _ _ _ hs hk ⟨A1,c1,A2,c2,A3,c3,A4,c4,h0,h1,h2,h3,h4⟩
    exact ⟨A1,c1,A2,c2,A3,c3,A4,c4,h0,h1.keep hs hk,h2.keep hs hk,h3.keep hs hk,h4.keep hs hk⟩ }
theorem Zje {n:Nat} {D:Nat→Prop} {w:World} {A:Option Addr} {c k:Nat} {l:List Z90} (h:RowR (Z15 n) D w A c l) (hk:k<l.length) : ∃g off A1 c1 A2 c2 A3 c3 A4 c4,A=some ⟨g,off,none⟩∧D g∧g<w.heap.size∧w.cell? ⟨g,off+k*8,none⟩=some (.int .i64 l[k].cond.kind)∧w.cell? ⟨g,off+k*8+1,none⟩=some (.bool l[k].cond.goal)∧w.cell? ⟨g,off+k*8+2,none⟩=some (.string l[k].cond.id)∧w.cell? ⟨g,off+k*8+3,none⟩=some (.slice A1 l[k].cond.attr.length c1)∧w.cell? ⟨g,off+k*8+4,none⟩=some (.slice A2 l[k].cond.value.length c2)∧w.cell? ⟨g,off+k*8+5,none⟩=some (.bool l[k].cond.acc)∧w.cell? ⟨g,off+k*8+6,none⟩=some (.slice A3 l[k].cond.conds.length c3)∧w.cell? ⟨g,off+k*8+7,none⟩=some (.slice A4 l[k].binds.length c4)∧RowR Z0g D w A1 c1 l[k].cond.attr∧RowR Z0g D w A2 c2 l[k].cond.value∧RowR (Z0x n) D w A3 c3 l[k].cond.conds∧RowR Zan D w A4 c4 l[k].binds:=by
 obtain ⟨g,off,cs,hA,hD,hg,⟨A1,c1,A2,c2,A3,c3,A4,c4,rfl,hrs⟩,hc⟩:=h.at_ hk;exact ⟨g,off,A1,c1,A2,c2,A3,c3,A4,c4,hA,hD,hg,by simpa [Z15] using hc 0 _ rfl,by simpa [Z15] using hc 1 _ rfl,by simpa [Z15] using hc 2 _ rfl,by simpa [Z15] using hc 3 _ rfl,by simpa [Z15] using hc 4 _ rfl,by simpa [Z15] using hc 5 _ rfl,by simpa [Z15] using hc 6 _ rfl,by simpa [Z15] using hc 7 _ rfl,hrs⟩
structure Z1i where
 a:Sym
 b:Sym
 rel:Int
def Z1i.cells (x:Z1i):List Value:=[.int .i64 x.a.kind,.string x.a.text,.int .i64 x.a.n,.int .i64 x.b.kind,.string x.b.text,.int .i64 x.b.n,.int .i64 x.rel]
theorem Z1i.cells_length (x:Z1i):x.cells.length=7:=rfl
def Z4q:RepT Z1i:=RepT.flat 7 Z1i.cells Z1i.cells_length
structure Z0f where
 num:Int
 level:Int
 elems:List Z0e
 holes:List Z90
 aparts:List Z1i
 news:List Sym
def Z1x (n:Nat):RepT Z0f:=
 { size:=6,rep:=fun D w x cs=>∃A1 c1 A2 c2 A3 c3 A4 c4,cs = [.int .i64 x.num,.int .i64 x.level,.slice A1 x.elems.length c1,.slice A2 x.holes.length c2,.slice A3 x.aparts.length c3,.slice A4 x.news.length c4]∧RowR Z1b D w A1 c1 x.elems∧RowR (Z15 n) D w A2 c2 x.holes∧RowR Z4q D w A3 c3 x.aparts∧RowR Z4r D w A4 c4 x.news,
   len:=by rintro _ _ _ _ ⟨_,_,_,_,_,_,_,_,rfl,_⟩;rfl,
   keep:=by
    rintro _ _ _ _ _ _ hs hk ⟨A1,c1,A2,c2,A3,c3,A4,c4,h0,h1,h2,h3,h4⟩
    exact ⟨A1,c1,A2,c2,A3,c3,A4,c4,h0,h1.keep hs hk,h2.keep hs hk,h3.keep hs hk,h4.keep hs hk⟩ }
theorem Zev {n:Nat} {D:Nat→Prop} {w:World} {A:Option Addr} {c k:Nat} {l:List Z0f} (h:RowR (Z1x n) D w A c l) (hk:k<l.length) : ∃g off A1 c1 A2 c2 A3 c3 A4 c4,A=some ⟨g,off,none⟩∧D g∧g<w.heap.size∧w.cell? ⟨g,off+k*6,none⟩=some (.int .i64 l[k].num)∧w.cell? ⟨g,off+k*6+1,none⟩=some (.int .i64 l[k].level)∧w.cell? ⟨g,off+k*6+2,none⟩=some (.slice A1 l[k].elems.length c1)∧w.cell? ⟨g,off+k*6+3,none⟩=some (.slice A2 l[k].holes.length c2)∧w.cell? ⟨g,off+k*6+4,none⟩=some (.slice A3 l[k].aparts.length c3)∧w.cell? ⟨g,off+k*6+5,none⟩=some (.slice A4 l[k].news.length c4)∧RowR Z1b D w A1 c1 l[k].elems∧RowR (Z15 n) D w A2 c2 l[k].holes∧RowR Z4q D w A3 c3 l[k].aparts∧RowR Z4r D w A4 c4 l[k].news:=by
 obtain ⟨g,off,cs,hA,hD,hg,⟨A1,c1,A2,c2,A3,c3,A4,c4,rfl,hrs⟩,hc⟩:=h.at_ hk;exact ⟨g,off,A1,c1,A2,c2,A3,c3,A4,c4,hA,hD,hg,by simpa [Z1x] using hc 0 _ rfl,by simpa [Z1x] using hc 1 _ rfl,by simpa [Z1x] using hc 2 _ rfl,by simpa [Z1x] using hc 3 _ rfl,by simpa [Z1x] using hc 4 _ rfl,by simpa [Z1x] using hc 5 _ rfl,hrs⟩
end
section
open Go.RowKit
structure St where
 sn:Bool
 A:Option Addr
 c:Nat
def upd {β:Type} (S:Nat→β) (b:Nat) (l:β):Nat→β:=fun k=>if k=b then l else S k
theorem Z11 {β:Type} (S:Nat→β) (b:Nat) (l:β):upd S b l b=l:=by simp [upd]
theorem Z1u {β:Type} (S:Nat→β) {b k:Nat} (l:β) (h:k≠b):upd S b l k=S k:=by simp [upd,h]
theorem Znn {β:Type} (S:Nat→β) (b:Nat) (l:β) (h:S b=l):upd S b l=S:=by funext k;simp only [upd];split<;>simp_all
structure Sets {α:Type} (tSet tE size:Nat) (cells:α→List Value) (cmp:α→α→Int) (D:Nat→Prop) (w:World) (S:Nat→Option (List α)) (σ:Nat→St):Prop where
 at_ : ∀b l,S b=some l→Z1w tSet tE size cells w b (σ b).sn (σ b).A (σ b).c l
 srt : ∀b l,S b=some l→Srt cmp l
 out : ∀b l,S b=some l→¬D b∧((σ b).sn=false→AIn (σ b).A (fun k=>¬D k))
 apart : ∀b l b' l',S b=some l→S b'=some l'→b≠b'→(σ b).sn=false→∀a a',(σ b).A=some a→(σ b').A=some a'→a.block≠a'.block
 low : ∀k,D k→k<w.heap.size
section
variable {α:Type} {tSet tE size:Nat} {cells:α→List Value} {cmp:α→α→Int} {D D':Nat→Prop} {w w':World} {S:Nat→Option (List α)} {σ:Nat→St} {b b':Nat} {l l':List α}
theorem Z1w.far {sn:Bool} {A:Option Addr} {c:Nat} (h:Z1w tSet tE size cells w b sn A c l) {sn':Bool} {A':Option Addr} {c':Nat} (h':Z1w tSet tE size cells w b' sn' A' c' l') (hne:tE≠tSet):AIn A (·≠b'):=by
 intro a e hb;have:=Z01 h.row h'.blk hne;subst e;exact this (by simp [Value.ownBlock,hb])
theorem Sets.start (tSet tE size:Nat) (cells:α→List Value) (cmp:α→α→Int) (w:World):Sets tSet tE size cells cmp (· < w.heap.size) w (fun _=>none) (fun _=>⟨false,none,0⟩):=
 ⟨fun _ _ h=>by simp at h,fun _ _ h=>by simp at h,fun _ _ h=>by simp at h,fun _ _ _ _ h=>by simp at h,fun _ h=>h⟩
theorem Sets.lt (h:Sets tSet tE size cells cmp D w S σ) (hb:S b=some l):b<w.heap.size:=(h.at_ b l hb).lt
theorem Sets.below (h:Sets tSet tE size cells cmp D w S σ) (hw:Below w.heap.size w w'):Sets tSet tE size cells cmp D w' S σ:=
 ⟨fun b l hb=>(h.at_ b l hb).new_ hw,h.srt,h.out,h.apart,fun k hk=>Zo3 (h.low k hk) hw.size⟩
theorem Sets.weaken (h:Sets tSet tE size cells cmp D w S σ) (hD : ∀k,D' k→D k):Sets tSet tE size cells cmp D' w S σ:=
 ⟨h.at_,h.srt,fun b l hb=>⟨fun hk=>(h.out b l hb).1 (hD _ hk),fun hs=>((h.out b l hb).2 hs).mono (fun _ hk hd=>hk (hD _ hd))⟩,h.apart,fun k hk=>h.low k (hD k hk)⟩
theorem Sets.widen (h:Sets tSet tE size cells cmp D w S σ) (n:Nat) (hn : ∀b l,S b=some l→b<n∧((σ b).sn=false→AIn (σ b).A (· < n))):Sets tSet tE size cells cmp (fun k=>D k∨(n≤k∧k<w.heap.size)) w S σ:=
 ⟨h.at_,h.srt,fun b l hb=>⟨fun hk=>by
  rcases hk with hk | hk
  · exact (h.out b l hb).1 hk
  · have:=(hn b l hb).1;omega,fun hs a ha hk=>by
  rcases hk with hk | hk
  · exact (h.out b l hb).2 hs a ha hk
  · have:=(hn b l hb).2 hs a ha;omega⟩,h.apart,fun k hk=>by
  rcases hk with hk | hk
  · exact h.low k hk
  · exact hk.2⟩
theorem Sets.protect (h:Sets tSet tE size cells cmp D w S σ) (hw:Below w.heap.size w w'):Sets tSet tE size cells cmp (fun k=>D k∨(w.heap.size≤k∧k<w'.heap.size)) w' S σ:=
 (h.below hw).widen w.heap.size (fun b l hb=>⟨h.lt hb,fun _=>(h.at_ b l hb).row_lt⟩)
theorem Sets.mod (h:Sets tSet tE size cells cmp D w S σ) (hb:S b=some l) (hF:Fr (Z0y b (σ b).sn (σ b).A) w w'):Fr (fun k=>¬D k) w w':=
 hF.mono (fun k _ hk=>by
  rcases hk with rfl | ⟨hs,a,ha,rfl⟩
  · exact (h.out _ l hb).1
  · exact (h.out b l hb).2 hs a ha)
theorem Sets.moved (h:Sets tSet tE size cells cmp D w S σ) (hne:tE≠tSet) (hb:S b=some l) {sn':Bool} {A':Option Addr} {c':Nat} (h1:Z1w tSet tE size cells w' b sn' A' c' l') (hs:Srt cmp l')
 (hF:Fr (Z0y b (σ b).sn (σ b).A) w w') (hM:Z1p w (σ b).sn (σ b).A sn' A'):Sets tSet tE size cells cmp D w' (upd S b (some l')) (upd σ b ⟨sn',A',c'⟩):=by
 have hB:=h.at_ b l hb;refine ⟨fun k m hk=>?_,fun k m hk=>?_,fun k m hk=>?_,fun k m k' m' hk hk' hkk hsk a a' ha ha'=>?_,fun k hk=>Zo3 (h.low k hk) hF.size⟩
 · by_cases e:k=b
   · subst e;rw [Z11] at hk ⊢;cases hk;exact h1
   · rw [Z1u _ _ e] at hk ⊢
     have hK:=h.at_ k m hk;refine hK.fr hF ?_ ?_
     · rintro (hx | ⟨hx,a,ha,hx2⟩)
       · exact e hx
       · exact hB.far hK hne a ha hx2
     · intro a ha hx
       rcases hx with hx | ⟨hx,a2,ha2,hx2⟩
       · exact hK.far hB hne a ha hx
       · exact h.apart b l k m hb hk (Ne.symm e) hx a2 a ha2 ha hx2
 · by_cases e:k=b
   · subst e;rw [Z11] at hk;cases hk;exact hs
   · rw [Z1u _ _ e] at hk;exact h.srt k m hk
 · by_cases e:k=b
   · subst e;rw [Z11] at hk ⊢;cases hk
     refine ⟨(h.out _ _ hb).1,fun hs2=>?_⟩;rcases hM with ⟨e1,e2⟩ | ⟨_,g,hg,e2⟩
     · simp only at hs2 ⊢;rw [e2];exact (h.out _ _ hb).2 (by rw [← e1];exact hs2)
     · simp only;rw [e2];intro a ha hd;cases ha;have:=h.low _ hd;simp at this;omega
   · rw [Z1u _ _ e] at hk ⊢;exact h.out k m hk
 · by_cases e:k=b
   · subst e
     have e':k'≠k:=Ne.symm hkk;rw [Z1u _ _ e'] at hk' ha';rw [Z11] at hsk ha;simp only at hsk ha;rcases hM with ⟨e1,e2⟩ | ⟨_,g,hg,e2⟩
     · exact h.apart k l k' m' hb hk' hkk (by rw [← e1];exact hsk) a a' (by rw [← e2];exact ha) ha'
     · rw [e2] at ha;cases ha
       have:=(h.at_ k' m' hk').row_lt a' ha';simp only;omega
   · rw [Z1u _ _ e] at hk hsk ha
     by_cases e2:k'=b
     · subst e2
       rw [Z11] at ha';simp only at ha';rcases hM with ⟨_,e3⟩ | ⟨_,g,hg,e3⟩
       · exact h.apart k m k' l hk hb hkk hsk a a' ha (by rw [← e3];exact ha')
       · rw [e3] at ha';cases ha'
         have:=(h.at_ k m hk).row_lt a ha;simp only;omega
     · rw [Z1u _ _ e2] at hk' ha'
       exact h.apart k m k' m' hk hk' hkk hsk a a' ha ha'
theorem Sets.seen (h:Sets tSet tE size cells cmp D w S σ) (hne:tE≠tSet) (hb:S b=some l) (h1:Z1w tSet tE size cells w' b true (σ b).A (σ b).c l) (hF:Fr (· = b) w w') :
 Sets tSet tE size cells cmp D w' S (upd σ b ⟨true,(σ b).A,(σ b).c⟩):=by
 have hB:=h.at_ b l hb;refine ⟨fun k m hk=>?_,h.srt,fun k m hk=>?_,fun k m k' m' hk hk' hkk hsk a a' ha ha'=>?_,fun k hk=>Zo3 (h.low k hk) hF.size⟩
 · by_cases e:k=b
   · subst e;rw [Z11];rw [hb] at hk;cases hk;exact h1
   · rw [Z1u _ _ e]
     exact (h.at_ k m hk).fr hF e (fun a ha hx=>(h.at_ k m hk).far hB hne a ha hx)
 · refine ⟨(h.out k m hk).1,fun hs=>?_⟩
   by_cases e:k=b
   · subst e;rw [Z11] at hs;cases hs
   · rw [Z1u _ _ e] at hs ⊢;exact (h.out k m hk).2 hs
 · by_cases e:k=b
   · subst e;rw [Z11] at hsk;cases hsk
   · rw [Z1u _ _ e] at hsk ha
     by_cases e2:k'=b
     · subst e2;rw [Z11] at ha';exact h.apart k m k' m' hk hk' hkk hsk a a' ha ha'
     · rw [Z1u _ _ e2] at ha';exact h.apart k m k' m' hk hk' hkk hsk a a' ha ha'
theorem Sets.add (h:Sets tSet tE size cells cmp D w S σ) {k:Nat} {sn':Bool} {A':Option Addr} {c':Nat} (hk:w.heap.size≤k) (h1:Z1w tSet tE size cells w' k sn' A' c' l') (hs:Srt cmp l')
 (hA:AIn A' (w.heap.size≤·)∨(sn'=true∧∃b l,S b=some l∧(σ b).sn=true∧(σ b).A=A')) (hF:Below w.heap.size w w'):Sets tSet tE size cells cmp D w' (upd S k (some l')) (upd σ k ⟨sn',A',c'⟩):=by
 (have hnk : ∀b l,S b=some l→b≠k:=fun b l hb e=>by have:=h.lt hb;omega);refine ⟨fun b m hb=>?_,fun b m hb=>?_,fun b m hb=>?_,fun b m b' m' hb hb' hkk hsk a a' ha ha'=>?_,fun k hk=>Zo3 (h.low k hk) hF.size⟩
 · by_cases e:b=k
   · subst e;rw [Z11] at hb ⊢;cases hb;exact h1
   · rw [Z1u _ _ e] at hb ⊢;exact (h.at_ b m hb).new_ hF
 · by_cases e:b=k
   · subst e;rw [Z11] at hb;cases hb;exact hs
   · rw [Z1u _ _ e] at hb;exact h.srt b m hb
 · by_cases e:b=k
   · subst e;rw [Z11] at hb ⊢;cases hb
     refine ⟨fun hd=>by have:=h.low _ hd;omega,fun hs2 a ha hd=>?_⟩;have h3:=h.low _ hd;rcases hA with hA | ⟨hA,_⟩
     · have:=hA a ha;omega
     · simp only at hs2;rw [hA] at hs2;cases hs2
   · rw [Z1u _ _ e] at hb ⊢;exact h.out b m hb
 · by_cases e:b=k
   · subst e
     rw [Z1u _ _ (Ne.symm hkk)] at hb' ha';rw [Z11] at hsk ha;simp only at hsk ha;have h3:=(h.at_ b' m' hb').row_lt a' ha';rcases hA with hA | ⟨hA,_⟩
     · have:=hA a ha;omega
     · rw [hA] at hsk;cases hsk
   · rw [Z1u _ _ e] at hb hsk ha
     have h3:=(h.at_ b m hb).row_lt a ha;by_cases e2:b'=k
     · subst e2
       rw [Z11] at ha';simp only at ha';rcases hA with hA | ⟨_,b2,l2,hb2,hs2,hA⟩
       · have:=hA a' ha';omega
       · by_cases e3:b=b2
         · subst e3;rw [hsk] at hs2;cases hs2
         · exact h.apart b m b2 l2 hb hb2 e3 hsk a a' ha (hA.trans ha')
     · rw [Z1u _ _ e2] at hb' ha'
       exact h.apart b m b' m' hb hb' hkk hsk a a' ha ha'
end
end
section
open Go.RowKit
abbrev Z49:=Z1w (α:=Sym) 216 23 3 Sym.cells
theorem Zbv (k0 : Int) (k1 : ByteArray) (k2 : Int) (w : World) : (nilAhead 555 23 (.agg #[.int .i64 k0, .string k1, .int .i64 k2]) "Compare").run Tryz.prog w = .ok (some false) w := by kernel_rfl
theorem Zfp (k0 : Int) (k1 : ByteArray) (k2 : Int) (w : World) : (method 555 23 (.agg #[.int .i64 k0, .string k1, .int .i64 k2]) "Compare").run Tryz.prog w = .ok (143, .agg #[.int .i64 k0, .string k1, .int .i64 k2]) w := by kernel_rfl
def Zj9 (l:List Sym) (x:Sym) (w:World) (e:Ending) (w':World):Prop:=
 e = .returned (.tuple #[.int .i64 (rank Z08 l x),.bool (has Z08 l x)])∧Below w.heap.size w w'
theorem Ze4 (b c:Nat) (sn:Bool) (A:Option Addr) (l:List Sym) (x:Sym) (w:World) (hS:Z49 w b sn A c l) (hs:Srt Z08 l) (hl:(l.length:Int)≤4611686018427387904) :
 Calls Tryz.prog 134 #[.pointer (some ⟨b,0,none⟩),.agg #[.int .i64 x.kind,.string x.text,.int .i64 x.n]] w (Zj9 l x w):=by
 have hrd:=hS.rd Sym.cells_length;have h0:=hS.cell0;have hb:=hS.lt;clear hS;have HS:=hid hs;have HRD:=hid hrd;clear hs hrd;go_enter Tryz.func134,Tryz.ntmps134;(go_wp2_with fail);go_quiet (fail);(go_wp2_with fail);obtain ⟨W0,hW0⟩ : ∃W0,W0=((w.alloc (Obj.cells #[.int .i64 x.kind,.string x.text,.int .i64 x.n] 23)).drewN nq):=⟨_,rfl⟩;(have hB0:Below w.heap.size w W0:=by rw [hW0];exact Below.drewN' ((Znz _ _).alloc (Zo0 _) _) _);(have hx0:W0.cell? ⟨w.heap.size,0,none⟩=some (.int .i64 x.kind):=by rw [hW0];go_simp);(have hx1:W0.cell? ⟨w.heap.size,1,none⟩=some (.string x.text):=by rw [hW0];go_simp);(have hx2:W0.cell? ⟨w.heap.size,2,none⟩=some (.int .i64 x.n):=by rw [hW0];go_simp);rw [← hW0];clear hW0;have HB0:=hid hB0;clear hB0
 go_loopw [6,7] (fun lo hi wr=>∃i j:Nat,lo = .int .i64 i∧hi = .int .i64 j∧i≤j∧j≤l.length∧(∀k,(h:k<l.length)→k<i→Z08 l[k] x<0)∧(∀k,(h:k<l.length)→j≤k→0<Z08 l[k] x)∧Below W0.heap.size W0 wr) (fun lo hi wr=>(intOf hi).toNat - (intOf lo).toNat)
 case atStart=>exact ⟨0,l.length,rfl,rfl,Nat.zero_le _,Zo0 _,fun k _ h=>absurd h (by omega),fun k h h'=>absurd h (by omega),Znz _ _⟩
 case round=>
  obtain ⟨i,j,rfl,rfl,hij,hj,hlo,hhi,hB⟩:=hrel;have HLO:=hid hlo;have HHI:=hid hhi;clear hlo hhi;have hsz:w.heap.size<W0.heap.size:=Zoa W0 _ hx0;by_cases hlt:i<j
  · obtain ⟨m,hm⟩ : ∃m,m=i+(j - i) / 2:=⟨_,rfl⟩
    (have hml:m<l.length:=by omega);(have hmj:m<j:=by omega);(have hmi:i≤m:=by omega);(have e1:((i:Int)+((j:Int) - (i:Int)) / 2)=(m:Int):=by omega);have E1:=hid e1;clear e1 hm;obtain ⟨g,off,rfl,hgs,hcell⟩:=HRD.out.at_ hml;have low : ∀(p:Addr),p.block<w.heap.size→wr.cell? p=w.cell? p:=fun p hp=>(hB.cell (p:=p) (by omega)).trans (HB0.out.cell (p:=p) hp);have r0:=(low ⟨b,0,none⟩ hb).trans h0;have q0:=(low ⟨g,off+m*3,none⟩ hgs).trans (hcell 0 _ rfl);have q1:=(low ⟨g,off+m*3+1,none⟩ hgs).trans (hcell 1 _ rfl);have q2:=(low ⟨g,off+m*3+2,none⟩ hgs).trans (hcell 2 _ rfl);have y0:=(hB.cell (p:=⟨w.heap.size,0,none⟩) hsz).trans hx0;have y1:=(hB.cell (p:=⟨w.heap.size,1,none⟩) hsz).trans hx1;have y2:=(hB.cell (p:=⟨w.heap.size,2,none⟩) hsz).trans hx2;(have b1:(0:Int)≤(m:Int):=by omega);(have b2:(m:Int)<(l.length:Int):=by omega);have hsw:W0.heap.size≤wr.heap.size:=hB.size;have N:=Zbv;have M:=Zfp;clear low hcell hx0 hx1 hx2 h0;have HB:=hid hB;clear hB;obtain ⟨y,hy⟩ : ∃y,y=l[m]:=⟨_,rfl⟩;rw [← hy] at q0 q1 q2;have HY:=hid hy;clear hy;(have hbw:b<wr.heap.size:=by omega);(have hgw:g<wr.heap.size:=by omega);(have hww:w.heap.size<wr.heap.size:=by omega);(go_wp2_with fail);rw [E1.out]
    go_region_held3 (fun w'=>w'.cell? ⟨b,0,none⟩=some (.slice (some ⟨g,off,none⟩) l.length c)∧w'.cell? ⟨g,off+m*3,none⟩=some (.int .i64 y.kind)∧w'.cell? ⟨g,off+m*3+1,none⟩=some (.string y.text)∧w'.cell? ⟨g,off+m*3+2,none⟩=some (.int .i64 y.n)∧w'.cell? ⟨w.heap.size,0,none⟩=some (.int .i64 x.kind)∧w'.cell? ⟨w.heap.size,1,none⟩=some (.string x.text)∧w'.cell? ⟨w.heap.size,2,none⟩=some (.int .i64 x.n))
     (first | go_keep | (refine ⟨?_,?_,?_,?_,?_,?_,?_⟩<;>exact (hb1.cell (by simpa using by assumption)).trans (by simp [*])))
     ((go_at_call 143;refine (Zh9 y x _).mono ?_;rintro e w1 ⟨rfl,hb1⟩))
    have HB1:Below W0.heap.size W0 w1:=HB.out.drew.trans (hb1.mono hsw);clear r0 q0 q1 q2 y0 y1 y2 N M;by_cases hc:Z08 y x=0
    · have HC:=hid hc
      (have t1:(Z08 y x == 0)=true:=by simp [hc]);clear hc;(go_wp2_with fail);go_ret2;have e:=HC.out;rw [HY.out] at e;refine ⟨?_,HB0.out.trans (HB1.mono (by omega))⟩;rw [Z3j Z2x HS.out hml e,(Z4g Z2x HS.out hml e).2.2.1];rfl
    · have t1:(Z08 y x == 0)=false:=by simp [hc]
      by_cases hc2:Z08 y x<0
      · have HC:=hid hc2
        (have t2:decide (Z08 y x<0)=true:=by simpa using hc2);clear hc hc2;(go_wp2_with fail);go_roundw
        case rel=>
         refine ⟨m+1,j,by go_num,rfl,by omega,hj,fun k h1 h2=>?_,HHI.out,HB1⟩;have e:=HC.out;rw [HY.out] at e;rcases Nat.lt_or_ge k m with h3 | h3
         · exact Z2x.lt_of_lt_of_le (HS.out.lt h3 hml) (by omega)
         · obtain rfl:k=m:=by omega
           exact e
        case measure=>simp [intOf];omega
      · have t2:decide (Z08 y x<0)=false:=by simpa using hc2
        (have hc3:0<Z08 y x:=by omega);have HC:=hid hc3;clear hc hc2 hc3;(go_wp2_with fail);go_roundw
        case rel=>
         refine ⟨i,m,rfl,rfl,by omega,by omega,HLO.out,fun k h1 h2=>?_,HB1⟩;have e:=HC.out;rw [HY.out] at e;rcases Nat.lt_or_ge m k with h3 | h3
         · exact (Z2x.symm _ _).1 (Z2x.lt_trans ((Z2x.symm _ _).2 e) (HS.out.lt h3 h1))
         · obtain rfl:k=m:=by omega
           exact e
        case measure=>simp [intOf];omega
  · obtain rfl:i=j:=by omega
    have HB:=hid hB;clear hB;(go_wp2_with fail);go_ret2;refine ⟨?_,HB0.out.trans (HB.out.mono (by omega))⟩;rw [Z3i hj HLO.out HHI.out,(Z4v HLO.out HHI.out).2.2];rfl
end
end Go.Proofs.YtldndkngpdfpfaaGreat
