/-
  Texts put together: Rep, Rec, Plain, SetLeaf, RowSym, Types.
-/
import Derived.Test.YtfidcfjcmlgkbaaGreatPTa
import Derived.Test.YtfidcfjcmlgkbaaGreatRows
namespace Go.Proofs.YtfidcfjcmlgkbaaGreat
open Lib (hid)
set_option maxRecDepth 100000
set_option maxHeartbeats 32000000
section
open Go.RowKit Go.ChangeShapes Go.WideShapes Go.Deep
structure RepT (α:Type) where
 size:Nat
 rep:(Nat→Prop)→World→α→List Value→Prop
 len : ∀{D:Nat→Prop} {w:World} {a:α} {cs:List Value},rep D w a cs→cs.length=size
 keep : ∀{D D':Nat→Prop} {w w':World} {a:α} {cs:List Value},w.heap.size≤w'.heap.size→(∀k,D k→k<w.heap.size→D' k∧w'.heap[k]? = w.heap[k]?)→rep D w a cs→rep D' w' a cs
def RowR {α:Type} (r:RepT α) (D:Nat→Prop) (w:World) (A:Option Addr) (c:Nat) (l:List α):Prop:=
 l.length≤c∧c≤maxLen∧
  (0<l.length→∃b off,A=some ⟨b,off,none⟩∧D b∧b<w.heap.size∧∀k,(h:k<l.length)→∃cs,r.rep D w l[k] cs∧∀j u,cs[j]? = some u→w.cell? ⟨b,off+k*r.size+j,none⟩=some u)
section
variable {α:Type} {r:RepT α} {D D':Nat→Prop} {w w':World} {A:Option Addr} {c:Nat} {l:List α}
theorem RowR.keep (h:RowR r D w A c l) (hs:w.heap.size≤w'.heap.size) (hk : ∀k,D k→k<w.heap.size→D' k∧w'.heap[k]? = w.heap[k]?):RowR r D' w' A c l:=by
 refine ⟨h.1,h.2.1,fun h0=>?_⟩;obtain ⟨b,off,h1,h2,h3,h4⟩:=h.2.2 h0;refine ⟨b,off,h1,(hk b h2 h3).1,by omega,fun k hk'=>?_⟩;obtain ⟨cs,h5,h6⟩:=h4 k hk';exact ⟨cs,r.keep hs hk h5,fun j u hu=>(World.cell?_of_block (hk b h2 h3).2).trans (h6 j u hu)⟩
theorem RowR.nil (r:RepT α) (D:Nat→Prop) (w:World):RowR r D w none 0 []:=⟨Zkt _,Nat.zero_le _,fun h=>absurd h (by simp)⟩
theorem RowR.cap (h:RowR r D w A c l):(l.length:Int)≤9223372036854775807:=by have:=h.1;have:=h.2.1;unfold maxLen at this;omega
theorem RowR.at_ (h:RowR r D w A c l) {k:Nat} (hk:k<l.length) : ∃b off cs,A=some ⟨b,off,none⟩∧D b∧b<w.heap.size∧r.rep D w l[k] cs∧∀j u,cs[j]? = some u→w.cell? ⟨b,off+k*r.size+j,none⟩=some u:=by
 obtain ⟨b,off,h1,h2,h3,h4⟩:=h.2.2 (by omega);obtain ⟨cs,h5,h6⟩:=h4 k hk;exact ⟨b,off,cs,h1,h2,h3,h5,h6⟩
theorem RowR.weaken (h:RowR r D w A c l) (hD : ∀k,D k→D' k):RowR r D' w A c l:=h.keep (Zkt _) (fun k hk _=>⟨hD k hk,rfl⟩)
theorem RowR.new_ (h:RowR r D w A c l) (hb:Below w.heap.size w w'):RowR r D w' A c l:=h.keep hb.size (fun k hk hl=>⟨hk,hb.block k hl⟩)
theorem RowR.fr {M:Nat→Prop} (h:RowR r D w A c l) (hb:Fr M w w') (hm : ∀k,D k→¬M k):RowR r D w' A c l:=h.keep hb.size (fun k hk hl=>⟨hk,hb.block k hl (hm k hk)⟩)
end
def RepT.flat {α:Type} (size:Nat) (cells:α→List Value) (h : ∀a,(cells a).length=size):RepT α:=
 ⟨size,fun _ _ a cs=>cs=cells a,by rintro _ _ _ _ rfl;exact h _,by rintro _ _ _ _ _ _ _ _ h;exact h⟩
theorem RowR.rd {α:Type} {size:Nat} {cells:α→List Value} {hs : ∀a,(cells a).length=size} {D:Nat→Prop} {w:World} {A:Option Addr} {c:Nat} {l:List α} (h:RowR (RepT.flat size cells hs) D w A c l):Z0k w size cells A c l:=by
 refine ⟨h.1,h.2.1,fun h0=>?_⟩;obtain ⟨b,off,h1,h2,h3,h4⟩:=h.2.2 h0;refine ⟨b,off,h1,h3,fun k hk j u hu=>?_⟩;obtain ⟨cs,h5,h6⟩:=h4 k hk;have h5':cs=cells l[k]:=h5;exact h6 j u (by rw [h5'];exact hu)
theorem RowR.of_rd {α:Type} {size:Nat} {cells:α→List Value} {hs : ∀a,(cells a).length=size} {D:Nat→Prop} {w:World} {A:Option Addr} {c:Nat} {l:List α} (h:Z0k w size cells A c l) (hA:AIn A D):RowR (RepT.flat size cells hs) D w A c l:=by
 refine ⟨h.1,h.2.1,fun h0=>?_⟩;obtain ⟨b,off,h1,h2,h3⟩:=h.2.2 h0;exact ⟨b,off,h1,hA _ h1,h2,fun k hk=>⟨_,rfl,h3 k hk⟩⟩
def RepT.list {α:Type} (r:RepT α):RepT (List α):=
 ⟨1,fun D w l cs=>∃A c,cs = [.slice A l.length c]∧RowR r D w A c l,by rintro _ _ _ _ ⟨_,_,rfl,_⟩;rfl,by
  rintro _ _ _ _ _ _ hs hk ⟨A,c,h1,h2⟩;exact ⟨A,c,h1,h2.keep hs hk⟩⟩
def Z8t {α:Type} (P:Program) (t:TypeId) (r:RepT α):Prop:=
 P.cellsOf t=r.size∧∀(H:Type) (enc:TypeId×Value→H) (w:World) (base:Nat) (spare:Nat→Bool) (held:Bool) (n:Nat) (cs:List Value) (x:DataW H×List MemPlace),
  DataW.trod enc P w base spare held n t cs=some x→∃a:α,r.rep (· < w.heap.size) w a cs
theorem Z8v {α:Type} {P:Program} {t:TypeId} {size:Nat} {cells:α→List Value} (hs : ∀a,(cells a).length=size) (h:Zj2 P t size cells):Z8t P t (RepT.flat size cells hs):=
 ⟨h.1,fun H enc w base spare held n cs x hx=>h.2 H enc w base spare held n cs x hx⟩
theorem Z43 {H:Type} {enc:TypeId×Value→H} {P:Program} {w:World} {base:Nat} {spare:Nat→Bool} {held:Bool} {α:Type} {r:RepT α} {t e:TypeId} {fuel:Nat} {cs:List Value} {x:DataW H×List MemPlace}
 (ht:P.underlying t=some (.slice e)) (h0:0<r.size) (hr:P.cellsOf e=r.size) (hE : ∀n cs x,DataW.trod enc P w base spare held n e cs=some x→∃a:α,r.rep (· < w.heap.size) w a cs)
 (hf:DataW.trod enc P w base spare held fuel t cs=some x) : ∃A c,∃l:List α,cs = [.slice A l.length c]∧RowR r (· < w.heap.size) w A c l:=by
 rcases open_slice ht hf with ⟨h1,_⟩ | ⟨a,len,cap,m,n,Dd,Pl,h1,_,hl,hm,hmm,_,hx⟩
 · exact ⟨none,0,[],h1,RowR.nil _ _ _⟩
 · have hlm:len≤m:=by rw [hmm];split<;>omega
   obtain ⟨l,hll,hq⟩:=Z9y (α:=α) (Q:=fun i x=>∃cs',r.rep (· < w.heap.size) w x cs'∧∀j u,cs'[j]? = some u→w.cell? ((a.add (i*r.size)).add j)=some u) len (fun i hi=>by
    obtain ⟨cs',c1,c2⟩:=hx i (by omega);obtain ⟨x,hrep⟩:=hE n cs' _ c2;obtain ⟨_,hlen,hcell⟩:=World.cells?_some c1;rw [hr] at hcell hlen
    exact ⟨x,cs',hrep,fun j u hu=>(hcell j (by rw [← hlen];exact (Zln.1 hu).1)).trans hu⟩)
   subst hll;refine ⟨some a,cap,l,h1,hl,hm,fun hpos=>?_⟩;obtain ⟨cs',c1,c2⟩:=hx 0 (by omega);obtain ⟨_,hlen,hcell⟩:=World.cells?_some c1;rw [hr] at hlen hcell
   have hspot:a.spot=none:=by
    have:=hcell 0 h0;rw [Zl1 (by omega)] at this;(have e2:(a.add (0*r.size)).add 0=a:=by simp [Addr.add]);rw [e2] at this;exact World.cell?_spot this
   obtain ⟨b,off,spot⟩:=a;simp only at hspot;subst hspot
   have hbl:b<w.heap.size:=by
    have:=hcell 0 h0;rw [Zl1 (by omega)] at this;(have e2:((⟨b,off,none⟩:Addr).add (0*r.size)).add 0=⟨b,off,none⟩:=by simp [Addr.add]);rw [e2] at this;exact Zla w _ this
   refine ⟨b,off,rfl,hbl,hbl,fun k hk=>?_⟩;obtain ⟨cs2,g1,g2⟩:=hq k hk;refine ⟨cs2,g1,fun j u hu=>?_⟩;have:=g2 j u hu;rwa [add_plain,add_plain] at this
theorem Zco {α:Type} {P:Program} {r:RepT α} {t e:TypeId} (ht:P.underlying t=some (.slice e)) (hc:P.cellsOf t=1) (h0:0<r.size) (hr:Z8t P e r):Z8t P t r.list:=
 ⟨hc,fun H enc w base spare held n cs x h=>by
  obtain ⟨A,c,l,h1,h2⟩:=Z43 ht h0 hr.1 (fun n cs x h=>hr.2 H enc w base spare held n cs x h) h
  exact ⟨l,A,c,h1,h2⟩⟩
theorem Z1l {H:Type} {enc:TypeId×Value→H} {P:Program} {w:World} {base:Nat} {spare:Nat→Bool} {held:Bool} {t:TypeId} {fs:Array Field} {n:Nat} {cs:List Value} {x:DataW H×List MemPlace}
 (ht:P.underlying t=some (.struct fs)) (h:DataW.trod enc P w base spare held n t cs=some x) (i:Nat) {f:Field} (hf:fs[i]? = some f) (ty off sz:Nat) (e1:f.type=ty) (e2:f.offset=off) (e3:P.cellsOf ty=sz) :
 ∃m y,DataW.trod enc P w base spare held m ty ((cs.drop off).take sz)=some y:=by
 obtain ⟨xs,n2,_,_,_,hlen,hx⟩:=DataW.trod_struct ht h;have h1:=hx i f hf;subst e1;subst e2;subst e3
 have hi:i<xs.length:=by
  have:=(Zl6.1 hf).1;omega
 rw [Zl1 hi] at h1;exact ⟨n2,_,h1⟩
theorem Z4w {H:Type} {enc:TypeId×Value→H} {P:Program} {w:World} {base:Nat} {spare:Nat→Bool} {held:Bool} {t:TypeId} {fs:Array Field} {n:Nat} {cs:List Value} {x:DataW H×List MemPlace}
 (ht:P.underlying t=some (.struct fs)) (h:DataW.trod enc P w base spare held n t cs=some x):cs.length=P.cellsOf t:=by
 obtain ⟨_,_,_,_,hl,_⟩:=DataW.trod_struct ht h;exact hl
theorem Zg9 {H:Type} {enc:TypeId×Value→H} {P:Program} {w:World} {rc:Reach} {b0 base:Nat} {spare:Nat→Bool} {held:Bool} {α:Type} {r:RepT α} {t e:TypeId} {v:Value} {d:DataW H} {ps:List MemPlace}
 (ht:P.underlying t=some (.slice e)) (h0:0<r.size) (hr:Z8t P e r) (hval:Value.okWide P w rc b0 t v) (h:DataW.Trod enc P w base spare held t v d ps) :
 ∃A c,∃l:List α,v = .slice A l.length c∧RowR r (· < w.heap.size) w A c l:=by
 obtain ⟨A,len,cap,rfl⟩:=okWide_slice ht hval;obtain ⟨fuel,hf⟩:=h;(have hcs:(Value.slice A len cap).cells.toList = [.slice A len cap]:=by simp [Value.cells]);rw [hcs] at hf;obtain ⟨A',c',l,h1,h2⟩:=Z43 ht h0 hr.1 (fun n cs x h=>hr.2 H enc w base spare held n cs x h) hf;simp only [List.cons.injEq,and_true] at h1;exact ⟨A',c',l,h1,h2⟩
end
section
open Go.RowKit Go.ChangeShapes Go.WideShapes Go.Deep
theorem RowR.imp {α:Type} {r r':RepT α} {D:Nat→Prop} {w:World} {A:Option Addr} {c:Nat} {l:List α} (h:RowR r D w A c l) (hs:r.size=r'.size) (hi : ∀a cs,r.rep D w a cs→r'.rep D w a cs):RowR r' D w A c l:=by
 refine ⟨h.1,h.2.1,fun h0=>?_⟩;obtain ⟨b,off,h1,h2,h3,h4⟩:=h.2.2 h0;refine ⟨b,off,h1,h2,h3,fun k hk=>?_⟩;obtain ⟨cs,h5,h6⟩:=h4 k hk;exact ⟨cs,hi _ _ h5,by rw [← hs];exact h6⟩
theorem Z7g {H:Type} {enc:TypeId×Value→H} {P:Program} {w:World} {base:Nat} {spare:Nat→Bool} {held:Bool} {α:Type} {r:RepT α} {t e:TypeId} {fuel:Nat} {cs:List Value} {x:DataW H×List MemPlace}
 (ht:P.underlying t=some (.slice e)) (h0:0<r.size) (hr:P.cellsOf e=r.size) (hE : ∀n,n<fuel→∀cs x,DataW.trod enc P w base spare held n e cs=some x→∃a:α,r.rep (· < w.heap.size) w a cs)
 (hf:DataW.trod enc P w base spare held fuel t cs=some x) : ∃A c,∃l:List α,cs = [.slice A l.length c]∧RowR r (· < w.heap.size) w A c l:=by
 rcases DataW.trod_slice ht hf with ⟨h1,_⟩ | ⟨a,len,cap,elems,rest,n,hn,h1,_,_,hl,hm,hlen,hel,_,_⟩
 · exact ⟨none,0,[],h1,RowR.nil _ _ _⟩
 · have hx : ∀i,i<len→∃cs',w.cells? base (a.add (i*P.cellsOf e)) (P.cellsOf e)=some cs'∧∃y,DataW.trod enc P w base spare held n e cs'=some y:=fun i hi=>by
    have h2:=hel i hi;rw [Zl1 (by omega)] at h2;obtain ⟨cs',g1,g2⟩:=Option.bind_eq_some_iff.1 h2;exact ⟨cs',g1,_,g2⟩
   obtain ⟨l,hll,hq⟩:=Z9y (α:=α) (Q:=fun i x=>∃cs',r.rep (· < w.heap.size) w x cs'∧∀j u,cs'[j]? = some u→w.cell? ((a.add (i*r.size)).add j)=some u) len (fun i hi=>by
    obtain ⟨cs',c1,y,c2⟩:=hx i (by omega);obtain ⟨x,hrep⟩:=hE n (by omega) cs' _ c2;obtain ⟨_,hlen,hcell⟩:=World.cells?_some c1;rw [hr] at hcell hlen
    exact ⟨x,cs',hrep,fun j u hu=>(hcell j (by rw [← hlen];exact (Zln.1 hu).1)).trans hu⟩)
   subst hll;refine ⟨some a,cap,l,h1,hl,hm,fun hpos=>?_⟩;obtain ⟨cs',c1,_⟩:=hx 0 (by omega);obtain ⟨_,hlen,hcell⟩:=World.cells?_some c1;rw [hr] at hlen hcell
   have hspot:a.spot=none:=by
    have:=hcell 0 h0;rw [Zl1 (by omega)] at this;(have e2:(a.add (0*r.size)).add 0=a:=by simp [Addr.add]);rw [e2] at this;exact World.cell?_spot this
   obtain ⟨b,off,spot⟩:=a;simp only at hspot;subst hspot
   have hbl:b<w.heap.size:=by
    have:=hcell 0 h0;rw [Zl1 (by omega)] at this;(have e2:((⟨b,off,none⟩:Addr).add (0*r.size)).add 0=⟨b,off,none⟩:=by simp [Addr.add]);rw [e2] at this;exact Zla w _ this
   refine ⟨b,off,rfl,hbl,hbl,fun k hk=>?_⟩;obtain ⟨cs2,g1,g2⟩:=hq k hk;refine ⟨cs2,g1,fun j u hu=>?_⟩;have:=g2 j u hu;rwa [add_plain,add_plain] at this
theorem Z2a {H:Type} {enc:TypeId×Value→H} {P:Program} {w:World} {base:Nat} {spare:Nat→Bool} {held:Bool} {t:TypeId} {fs:Array Field} {n:Nat} {cs:List Value} {x:DataW H×List MemPlace}
 (ht:P.underlying t=some (.struct fs)) (h:DataW.trod enc P w base spare held n t cs=some x) (i:Nat) {f:Field} (hf:fs[i]? = some f) (ty off sz:Nat) (e1:f.type=ty) (e2:f.offset=off) (e3:P.cellsOf ty=sz) :
 ∃y,DataW.trod enc P w base spare held (n - 1) ty ((cs.drop off).take sz)=some y:=by
 obtain ⟨xs,n2,hn,_,_,hlen,hx⟩:=DataW.trod_struct ht h;have h1:=hx i f hf;subst e1;subst e2;subst e3
 have hi:i<xs.length:=by
  have:=(Zl6.1 hf).1;omega
 rw [Zl1 hi] at h1;subst hn;exact ⟨_,h1⟩
theorem Zdr {H:Type} {enc:TypeId×Value→H} {P:Program} {w:World} {base:Nat} {spare:Nat→Bool} {held:Bool} {t:TypeId} {n:Nat} {cs:List Value} {x:DataW H×List MemPlace} (h:DataW.trod enc P w base spare held n t cs=some x):0<n:=by
 cases n with
 | zero=>simp [DataW.trod] at h
 | succ n=>omega
end
section
structure TC {α:Type} (cmp:α→α→Int):Prop where
 refl : ∀x,cmp x x=0
 symm : ∀x y,cmp x y<0↔0<cmp y x
 trans : ∀x y z,cmp x y≤0→cmp y z≤0→cmp x z≤0
section
variable {α:Type} {cmp:α→α→Int}
theorem TC.eq_symm (h:TC cmp) {x y:α} (e:cmp x y=0):cmp y x=0:=by
 have a:=h.symm x y;have b:=h.symm y x;omega
theorem TC.lt_of_lt_of_le (h:TC cmp) {x y z:α} (a:cmp x y<0) (b:cmp y z≤0):cmp x z<0:=by
 have c:=h.symm x z;have d:=h.symm z x;have e:=h.symm x y;have g:=h.symm y x;by_cases hz:cmp x z<0
 · exact hz
 · have t:=h.trans y z x b (by omega)
   omega
theorem TC.lt_of_le_of_lt (h:TC cmp) {x y z:α} (a:cmp x y≤0) (b:cmp y z<0):cmp x z<0:=by
 have c:=h.symm x z;have d:=h.symm z x;have e:=h.symm y z;have g:=h.symm z y;by_cases hz:cmp x z<0
 · exact hz
 · have t:=h.trans z x y (by omega) a
   omega
theorem TC.lt_trans (h:TC cmp) {x y z:α} (a:cmp x y<0) (b:cmp y z<0):cmp x z<0:=h.lt_of_lt_of_le a (by omega)
def Srt (cmp:α→α→Int) (l:List α):Prop:=l.Pairwise (fun a b=>cmp a b<0)
def has (cmp:α→α→Int) (l:List α) (x:α):Bool:=l.any (fun y=>cmp y x == 0)
def below (cmp:α→α→Int) (l:List α) (x:α):List α:=l.filter (fun y=>decide (cmp y x<0))
def Z3o (cmp:α→α→Int) (l:List α) (x:α):List α:=l.filter (fun y=>decide (0<cmp y x))
def rank (cmp:α→α→Int) (l:List α) (x:α):Nat:=(below cmp l x).length
def put (cmp:α→α→Int) (l:List α) (x:α):List α:=if has cmp l x then l else below cmp l x++x :: Z3o cmp l x
def drop (cmp:α→α→Int) (l:List α) (x:α):List α:=l.filter (fun y=>!(cmp y x == 0))
def puts (cmp:α→α→Int) (l xs:List α):List α:=xs.foldl (put cmp) l
theorem Z5z {l:List α} {x:α}:has cmp l x=true↔∃y∈l,cmp y x=0:=by simp [has]
theorem Z32 {l:List α} {x:α}:has cmp l x=false↔∀y∈l,cmp y x≠0:=by simp [has]
theorem Z7w {l:List α} {x:α} {k:Nat} (h1 : ∀i,(h:i<l.length)→i<k→cmp l[i] x<0) (h2 : ∀i,(h:i<l.length)→k≤i→0<cmp l[i] x) :
 below cmp l x=l.take k∧Z3o cmp l x=l.drop k∧has cmp l x=false:=by
 have e1 : ∀y∈l.take k,cmp y x<0:=by
  intro y hy;obtain ⟨i,hi,rfl⟩:=List.getElem_of_mem hy;rw [List.getElem_take];simp at hi;exact h1 i (by omega) (by omega)
 have e2 : ∀y∈l.drop k,0<cmp y x:=by
  intro y hy;obtain ⟨i,hi,rfl⟩:=List.getElem_of_mem hy;rw [List.getElem_drop];simp at hi;exact h2 (k+i) (by omega) (by omega)
 refine ⟨?_,?_,?_⟩
 · unfold below
   conv=>lhs;rw [← List.take_append_drop k l]
   rw [List.filter_append,List.filter_eq_self.2 (fun y hy=>by simpa using e1 y hy),List.filter_eq_nil_iff.2 (fun y hy=>by have:=e2 y hy;simp;omega),Zmd]
 · unfold Z3o
   conv=>lhs;rw [← List.take_append_drop k l]
   rw [List.filter_append,(List.filter_eq_self (l:=l.drop k)).2 (fun y hy=>by simpa using e2 y hy),List.filter_eq_nil_iff.2 (fun y hy=>by have:=e1 y hy;simp;omega),Zl8]
 · rw [Z32]
   intro y hy;rw [← List.take_append_drop k l] at hy;rcases Zlv.1 hy with hy | hy
   · have:=e1 y hy;omega
   · have:=e2 y hy;omega
theorem Srt.lt {l:List α} (h:Srt cmp l) {i j:Nat} (hij:i<j) (hj:j<l.length):cmp (l[i]'(by omega)) l[j]<0:=
 List.pairwise_iff_getElem.1 h i j (by omega) hj hij
theorem Z7x (t:TC cmp) {l:List α} (hs:Srt cmp l) {x:α} {k:Nat} (hk:k<l.length) (e:cmp l[k] x=0) :
 below cmp l x=l.take k∧Z3o cmp l x=l.drop (k+1)∧has cmp l x=true∧drop cmp l x=l.take k++l.drop (k+1):=by
 have e1 : ∀y∈l.take k,cmp y x<0:=by
  intro y hy;obtain ⟨i,hi,rfl⟩:=List.getElem_of_mem hy;rw [List.getElem_take];simp at hi;exact t.lt_of_lt_of_le (hs.lt (by omega) hk) (by omega)
 have e2 : ∀y∈l.drop (k+1),0<cmp y x:=by
  intro y hy;obtain ⟨i,hi,rfl⟩:=List.getElem_of_mem hy;rw [List.getElem_drop];simp at hi;have h1:cmp x (l[k+1+i]'(by omega))<0:=t.lt_of_le_of_lt (y:=l[k]) (by have:=t.eq_symm e;omega) (hs.lt (by omega) (by omega));exact (t.symm _ _).1 h1
 have hl:l=l.take k++l[k] :: l.drop (k+1):=by
  rw [List.getElem_cons_drop,List.take_append_drop]
 refine ⟨?_,?_,?_,?_⟩
 · unfold below
   conv=>lhs;rw [hl]
   rw [List.filter_append,List.filter_cons,List.filter_eq_self.2 (fun y hy=>by simpa using e1 y hy),List.filter_eq_nil_iff.2 (fun y hy=>by have:=e2 y hy;simp;omega)];simp [e]
 · unfold Z3o
   conv=>lhs;rw [hl]
   rw [List.filter_append,List.filter_cons,List.filter_eq_nil_iff.2 (fun y hy=>by have:=e1 y hy;simp;omega),(List.filter_eq_self (l:=l.drop (k+1))).2 (fun y hy=>by simpa using e2 y hy)];simp [e]
 · rw [Z5z];exact ⟨_,Zlj hk,e⟩
 · unfold drop
   conv=>lhs;rw [hl]
   rw [List.filter_append,List.filter_cons,List.filter_eq_self.2 (fun y hy=>by have:=e1 y hy;simp;omega),(List.filter_eq_self (l:=l.drop (k+1))).2 (fun y hy=>by have:=e2 y hy;simp;omega)];simp [e]
theorem Z6r {l:List α} {x:α} {k:Nat} (hk:k≤l.length) (h1 : ∀i,(h:i<l.length)→i<k→cmp l[i] x<0) (h2 : ∀i,(h:i<l.length)→k≤i→0<cmp l[i] x):rank cmp l x=k:=by
 unfold rank;rw [(Z7w h1 h2).1];simp;omega
theorem Z8g (t:TC cmp) {l:List α} (hs:Srt cmp l) {x:α} {k:Nat} (hk:k<l.length) (e:cmp l[k] x=0):rank cmp l x=k:=by
 unfold rank;rw [(Z7x t hs hk e).1];simp;omega
theorem Zjn (t:TC cmp) {l:List α} (hs:Srt cmp l) (x:α) :
 (has cmp l x=false∧l=below cmp l x++Z3o cmp l x)∨(∃y,has cmp l x=true∧cmp y x=0∧l=below cmp l x++y :: Z3o cmp l x):=by
 induction l with
 | nil=>exact .inl ⟨rfl,rfl⟩
 | cons a r ih=>
   have hr:Srt cmp r:=(List.pairwise_cons.1 hs).2;have ha : ∀y∈r,cmp a y<0:=(List.pairwise_cons.1 hs).1;by_cases h1:cmp a x<0
   · rcases ih hr with ⟨h2,h3⟩ | ⟨y,h2,h3,h4⟩
     · left
       refine ⟨?_,?_⟩
       · simp only [has,List.any_cons,Bool.or_eq_false_iff];exact ⟨by simp;omega,h2⟩
       · have e1:below cmp (a :: r) x=a :: below cmp r x:=by simp [below,h1]
         (have e2:Z3o cmp (a :: r) x=Z3o cmp r x:=by unfold Z3o;rw [List.filter_cons,if_neg (by simp;omega)]);rw [e1,e2,Zlh,← h3]
     · right
       refine ⟨y,?_,h3,?_⟩
       · simp only [has,List.any_cons,Zmc];exact .inr h2
       · have e1:below cmp (a :: r) x=a :: below cmp r x:=by simp [below,h1]
         (have e2:Z3o cmp (a :: r) x=Z3o cmp r x:=by unfold Z3o;rw [List.filter_cons,if_neg (by simp;omega)]);rw [e1,e2,Zlh,← h4]
   · have hall : ∀y∈r,0<cmp y x:=fun y hy=>(t.symm x y).1 (t.lt_of_le_of_lt (y:=a) (by have:=t.symm a x;have:=t.symm x a;omega) (ha y hy))
     have b0:below cmp r x = []:=List.filter_eq_nil_iff.2 (fun y hy=>by have:=hall y hy;simp;omega);have a0:Z3o cmp r x=r:=List.filter_eq_self.2 (fun y hy=>by simpa using hall y hy);have n0:has cmp r x=false:=Z32.2 (fun y hy=>by have:=hall y hy;omega);(have e1:below cmp (a :: r) x = []:=by unfold below;rw [List.filter_cons,if_neg (by simpa using h1)];exact b0);by_cases h2:cmp a x=0
     · right
       refine ⟨a,Z5z.2 ⟨a,by simp,h2⟩,h2,?_⟩;(have e2:Z3o cmp (a :: r) x=r:=by unfold Z3o;rw [List.filter_cons,if_neg (by simp;omega)];exact a0);rw [e1,e2];rfl
     · left
       refine ⟨?_,?_⟩
       · simp only [has,List.any_cons,Bool.or_eq_false_iff];exact ⟨by simpa using h2,n0⟩
       · have e2:Z3o cmp (a :: r) x=a :: r:=by unfold Z3o;rw [List.filter_cons,if_pos (by simp;omega)];exact congrArg _ a0
         rw [e1,e2];rfl
theorem Z4l {l:List α} {x y:α}:y∈below cmp l x↔y∈l∧cmp y x<0:=by simp [below]
theorem Z4k {l:List α} {x y:α}:y∈Z3o cmp l x↔y∈l∧0<cmp y x:=by simp [Z3o]
theorem Za0 {l:List α} {x y:α}:y∈drop cmp l x↔y∈l∧cmp y x≠0:=by simp [drop]
theorem Srt.put (t:TC cmp) {l:List α} (hs:Srt cmp l) (x:α):Srt cmp (put cmp l x):=by
 unfold YtfidcfjcmlgkbaaGreat.put
 split
 · exact hs
 · refine List.pairwise_append.2 ⟨hs.sublist List.filter_sublist,List.pairwise_cons.2 ⟨fun y hy=>?_,hs.sublist List.filter_sublist⟩,fun y hy z hz=>?_⟩
   · exact (t.symm x y).2 (Z4k.1 hy).2
   · rcases Zl7.1 hz with rfl | hz
     · exact (Z4l.1 hy).2
     · exact t.lt_trans (Z4l.1 hy).2 ((t.symm x z).2 (Z4k.1 hz).2)
theorem Srt.drop {l:List α} (hs:Srt cmp l) (x:α):Srt cmp (drop cmp l x):=hs.sublist List.filter_sublist
theorem Srt.nil:Srt cmp ([]:List α):=List.Pairwise.nil
theorem Srt.puts (t:TC cmp) : ∀(xs:List α) {l:List α},Srt cmp l→Srt cmp (puts cmp l xs)
 | [],_,h=>h
 | x :: xs,_,h=>Srt.puts t xs (h.put t x)
theorem Z3k (l xs:List α) (x:α):puts cmp l (xs ++ [x])=put cmp (puts cmp l xs) x:=by simp [puts]
theorem Z6i {l:List α} {x:α} (t:TC cmp) (hs:Srt cmp l) (h:has cmp l x=false):(below cmp l x).length+(Z3o cmp l x).length=l.length:=by
 rcases Zjn t hs x with ⟨_,e⟩ | ⟨y,h',_⟩
 · conv=>rhs;rw [e]
   simp
 · rw [h] at h';cases h'
theorem Z9x (t:TC cmp) {l:List α} (hs:Srt cmp l) (x:α):(put cmp l x).length≤l.length+1:=by
 unfold YtfidcfjcmlgkbaaGreat.put;by_cases h:has cmp l x=true
 · rw [if_pos h];omega
 · rw [if_neg h]
   have:=Z6i t hs (x:=x) (by simpa using h);simp;omega
theorem Z2p (t:TC cmp) : ∀(xs:List α) {l:List α},Srt cmp l→(puts cmp l xs).length≤l.length+xs.length
 | [],_,_=>by simp [puts]
 | x :: xs,l,h=>by
   have h1:=Z2p t xs (h.put t x);have h2:=Z9x t h x;have e:puts cmp l (x :: xs)=puts cmp (put cmp l x) xs:=rfl;rw [e];simp;omega
theorem Z5q (l:List α) (x:α):(drop cmp l x).length≤l.length:=List.length_filter_le _ _
theorem Zau {l:List α} {x:α} (h:has cmp l x=false):drop cmp l x=l:=by
 unfold YtfidcfjcmlgkbaaGreat.drop;exact List.filter_eq_self.2 (fun y hy=>by simpa using Z32.1 h y hy)
theorem Zac (l:List α) (x:α):rank cmp l x≤l.length:=List.length_filter_le _ _
theorem Zd0 {l B A:List α} (e:l=B++A):l.take B.length=B:=by subst e;simp
theorem Zc9 {l B A:List α} (e:l=B++A):l.drop B.length=A:=by subst e;simp
theorem Z97 {l B A:List α} {y:α} (e:l=B++y :: A):l[B.length]? = some y:=by subst e;simp
theorem Zbh (t:TC cmp) {l:List α} (hs:Srt cmp l) {x:α} (h:has cmp l x=false):put cmp l x=l.take (rank cmp l x)++x :: l.drop (rank cmp l x):=by
 rcases Zjn t hs x with ⟨_,e⟩ | ⟨y,h',_⟩
 · have e1:l.take (rank cmp l x)=below cmp l x:=Zd0 e
   have e2:l.drop (rank cmp l x)=Z3o cmp l x:=Zc9 e;rw [e1,e2];unfold YtfidcfjcmlgkbaaGreat.put;rw [if_neg (by rw [h];simp)]
 · rw [h] at h';cases h'
theorem Z59 {l:List α} {x:α} (h:has cmp l x=true):put cmp l x=l:=by unfold YtfidcfjcmlgkbaaGreat.put;rw [if_pos h]
theorem Z2o (t:TC cmp) {l:List α} (hs:Srt cmp l) {x:α} (h:has cmp l x=false):(put cmp l x).length=l.length+1:=by
 rw [Zbh t hs h];have:=Zac (cmp:=cmp) l x;simp;omega
theorem Zff (t:TC cmp) {l:List α} (hs:Srt cmp l) {x:α} (h:has cmp l x=true):rank cmp l x<l.length∧drop cmp l x=l.take (rank cmp l x)++l.drop (rank cmp l x+1)∧∃hk:rank cmp l x<l.length,cmp l[rank cmp l x] x=0:=by
 rcases Zjn t hs x with ⟨h',_⟩ | ⟨y,_,ey,e⟩
 · rw [h] at h';cases h'
 · have hk:rank cmp l x<l.length:=by
    have h2:l[rank cmp l x]? = some y:=Z97 e;exact (Zln.1 h2).1
   have hy:l[rank cmp l x]=y:=by
    have h1:l[rank cmp l x]? = some y:=Z97 e;rw [Zl1 hk] at h1;exact Zmh h1
   (have e0:cmp l[rank cmp l x] x=0:=by rw [hy];exact ey);exact ⟨hk,(Z7x t hs hk e0).2.2.2,hk,e0⟩
def Z1f (l:List α) (x:α) (i:Nat):List α:=l.take i++(l ++ [x]).getD i x :: l.drop i
theorem Z11 (l:List α) (x:α) {i:Nat} (h:i≤l.length):(Z1f l x i).length=l.length+1:=by simp [Z1f];omega
theorem Z4u (l:List α) (x:α):Z1f l x l.length=l ++ [x]:=by simp [Z1f]
theorem Z5a (l:List α) (x:α) {j:Nat} (h:j<l.length) (h':j<(Z1f l x (j+1)).length):(Z1f l x (j+1))[j]=l[j]:=by
 apply Zmh;rw [← Zl1];unfold Z1f;rw [Zls (by simp;omega)];simp [h]
theorem Z5b (l:List α) (x:α) {j:Nat} (h:j<l.length):(Z1f l x (j+1)).set (j+1) l[j]=Z1f l x j:=by
 unfold Z1f;rw [List.set_append_right _ _ (by simp;omega)];(have e:(j+1 - (l.take (j+1)).length)=0:=by simp;omega);rw [e,List.set_cons_zero,List.take_succ_eq_append_getElem h,Zlx];(have e2:(l ++ [x]).getD j x=l[j]:=by rw [List.getD_eq_getElem?_getD,Zls h,Zl1 h];rfl);rw [e2,← List.getElem_cons_drop h];rfl
theorem Z62 (l:List α) (x:α) {k:Nat} (h:k≤l.length):(Z1f l x k).set k x=l.take k++x :: l.drop k:=by
 unfold Z1f;rw [List.set_append_right _ _ (by simp;omega)];(have e:(k - (l.take k).length)=0:=by simp;omega);rw [e,List.set_cons_zero]
def Z3c (l:List α) (k i:Nat):List α:=l.take k++(l.drop (k+1)).take (i - k)++l.drop i
theorem Z39 (l:List α) {k i:Nat} (h:k≤i) (h':i<l.length):(Z3c l k i).length=l.length:=by simp [Z3c];omega
theorem Zas (l:List α) (k:Nat):Z3c l k k=l:=by simp [Z3c]
theorem Zc7 (l:List α) {k i:Nat} (h:k≤i) (h':i+1<l.length) (h2:i+1<(Z3c l k i).length):(Z3c l k i)[i+1]=l[i+1]:=by
 apply Zmh;rw [← Zl1,← Zl1];unfold Z3c;rw [Zlo (by simp;omega),List.getElem?_drop];congr 1;simp;omega
theorem Zc8 (l:List α) {k i:Nat} (h:k≤i) (h':i+1<l.length):(Z3c l k i).set i l[i+1]=Z3c l k (i+1):=by
 apply List.ext_getElem?;intro j;have len:(Z3c l k i).length=l.length:=Z39 l h (by omega);by_cases e:j=i
 · subst e
   rw [List.getElem?_set_self (by omega)];unfold Z3c;rw [Zls (by simp;omega),Zlo (by simp;omega),List.getElem?_take,List.getElem?_drop];rw [if_pos (by simp;omega)];(have:k+1+(j - (l.take k).length)=j+1:=by simp;omega);rw [this,Zl1 h']
 · rw [List.getElem?_set_ne (fun h=>e h.symm)]
   unfold Z3c;by_cases h1:j<k
   · rw [Zlx,Zlx,Zls (by simp;omega),Zls (by simp;omega)]
   · by_cases h2:j<i
     · rw [Zls (by simp;omega),Zlo (by simp;omega),Zls (by simp;omega),Zlo (by simp;omega)]
       rw [List.getElem?_take,List.getElem?_take,if_pos (by simp;omega),if_pos (by simp;omega)]
     · rw [Zlo (by simp;omega),Zlo (by simp;omega),List.getElem?_drop,List.getElem?_drop]
       congr 1;simp;omega
theorem Ze5 (l:List α) {k:Nat} (h:k<l.length):(Z3c l k (l.length - 1)).take (l.length - 1)=l.take k++l.drop (k+1):=by
 unfold Z3c;(have e:(l.take k++(l.drop (k+1)).take (l.length - 1 - k)).length=l.length - 1:=by simp;omega);have e2:(l.drop (k+1)).take (l.length - 1 - k)=l.drop (k+1):=List.take_of_length_le (by simp;omega);rw [List.take_append_of_le_length (by omega),List.take_of_length_le (by omega),e2]
end
def Z2z (a b:Int):Int:=if a<b then -1 else if b<a then 1 else 0
theorem Zis:TC Z2z:=by
 constructor
 · intro x;simp [Z2z]
 · intro x y;simp only [Z2z];split<;>split<;>simp<;>(try split)<;>omega
 · intro x y z;simp only [Z2z];intro h1 h2;split at h1<;>split at h2<;>(try split at h1)<;>(try split at h2)<;>split<;>(try split)<;>omega
theorem Z56 {a b:Int}:Z2z a b=0↔a=b:=by simp only [Z2z];split<;>(try split)<;>omega
theorem Z1w : ∀x:List UInt8,Op.bytesLess x x=false
 | []=>rfl
 | a :: x=>by simp [Op.bytesLess,Z1w x]
theorem Z3x : ∀{x y z:List UInt8},Op.bytesLess x y=true→Op.bytesLess y z=true→Op.bytesLess x z=true
 | _,[],_,h,_=>by simp [Op.bytesLess] at h
 | _,_ :: _,[],_,h=>by simp [Op.bytesLess] at h
 | [],_ :: _,_ :: _,_,_=>by simp [Op.bytesLess]
 | a :: x,b :: y,c :: z,h1,h2=>by
   simp only [Op.bytesLess,Zmc,Zlc,Zlp,beq_iff_eq] at h1 h2 ⊢;rcases h1 with h1 | ⟨rfl,h1⟩
   · rcases h2 with h2 | ⟨rfl,h2⟩
     · exact .inl (UInt8.lt_trans h1 h2)
     · exact .inl h1
   · rcases h2 with h2 | ⟨rfl,h2⟩
     · exact .inl h2
     · exact .inr ⟨rfl,Z3x h1 h2⟩
theorem Z54 : ∀(x y:List UInt8),Op.bytesLess x y=false→Op.bytesLess y x=false→x=y
 | [],[],_,_=>rfl
 | [],_ :: _,h,_=>by simp [Op.bytesLess] at h
 | _ :: _,[],_,h=>by simp [Op.bytesLess] at h
 | a :: x,b :: y,h1,h2=>by
   simp only [Op.bytesLess,Bool.or_eq_false_iff,decide_eq_false_iff_not,Bool.and_eq_false_iff,beq_eq_false_iff_ne] at h1 h2;obtain ⟨h1,h3⟩:=h1;obtain ⟨h2,h4⟩:=h2
   have e:a=b:=by
    apply UInt8.toNat_inj.1;simp only [UInt8.lt_iff_toNat_lt] at h1 h2;omega
   subst e;rw [Z54 x y (h3.resolve_left (fun h=>h rfl)) (h4.resolve_left (fun h=>h rfl))]
theorem Z7z {x y:List UInt8} (h:Op.bytesLess x y=true):Op.bytesLess y x=false:=by
 cases e:Op.bytesLess y x
 · rfl
 · have:=Z3x h e;rw [Z1w] at this;cases this
def Z2c (a b:ByteArray):Int:=if Op.bytesLess a.toList b.toList=true then -1 else if a.toList=b.toList then 0 else 1
theorem Zit:TC Z2c:=by
 have key : ∀a b:ByteArray,(Z2c a b = -1∧Op.bytesLess a.toList b.toList=true∧Op.bytesLess b.toList a.toList=false∧a.toList≠b.toList)∨
  (Z2c a b=0∧Op.bytesLess a.toList b.toList=false∧Op.bytesLess b.toList a.toList=false∧a.toList=b.toList)∨
  (Z2c a b=1∧Op.bytesLess a.toList b.toList=false∧Op.bytesLess b.toList a.toList=true∧a.toList≠b.toList):=by
  intro a b;unfold Z2c;cases h1:Op.bytesLess a.toList b.toList
  · cases h2:Op.bytesLess b.toList a.toList
    · have e:=Z54 _ _ h1 h2
      simp [e]
    · have hne:a.toList≠b.toList:=fun e=>by rw [e,Z1w] at h2;cases h2
      simp [hne]
  · have h2:=Z7z h1
    (have hne:a.toList≠b.toList:=fun e=>by rw [e,Z1w] at h1;cases h1);simp [h2,hne]
 constructor
 · intro x;simp [Z2c,Z1w]
 · intro x y
   rcases key x y with ⟨e,a,b,c⟩ | ⟨e,a,b,c⟩ | ⟨e,a,b,c⟩<;>rcases key y x with ⟨e',a',b',c'⟩ | ⟨e',a',b',c'⟩ | ⟨e',a',b',c'⟩<;>rw [e,e']<;>simp_all
 · intro x y z h1 h2
   rcases key x y with ⟨e,a,b,c⟩ | ⟨e,a,b,c⟩ | ⟨e,a,b,c⟩<;>rcases key y z with ⟨e',a',b',c'⟩ | ⟨e',a',b',c'⟩ | ⟨e',a',b',c'⟩<;>rw [e] at h1<;>rw [e'] at h2<;>(try omega)
   · have:=Z3x a a';unfold Z2c;rw [if_pos this];omega
   · rw [c'] at a;unfold Z2c;rw [if_pos a];omega
   · rw [← c] at a';unfold Z2c;rw [if_pos a'];omega
   · unfold Z2c;rw [c,c',if_neg (by rw [Z1w];simp),if_pos rfl];omega
theorem toList_inj {a b:ByteArray} (h:a.toList=b.toList):a=b:=by
 have e : ∀x:ByteArray,x.toList=x.data.toList:=Lib.toList_data;rw [e,e] at h;cases a;cases b;simp only [ByteArray.mk.injEq];exact Array.toList_inj.1 h
theorem Z6a {a b:ByteArray}:Z2c a b=0↔a=b:=by
 constructor
 · intro h
   unfold Z2c at h
   split at h
   · omega
   · split at h
     · exact toList_inj ‹_›
     · omega
 · rintro rfl;simp [Z2c,Z1w]
def andThen (a b:Int):Int:=if a=0 then b else a
theorem Z9h {α β γ:Type} {f:α→β} {g:α→γ} {c1:β→β→Int} {c2:γ→γ→Int} (h1:TC c1) (h2:TC c2):TC (fun x y=>andThen (c1 (f x) (f y)) (c2 (g x) (g y))):=by
 constructor
 · intro x;simp [andThen,h1.refl,h2.refl]
 · intro x y
   have a:=h1.symm (f x) (f y);have b:=h1.symm (f y) (f x);have c:=h2.symm (g x) (g y);simp only [andThen]
   split<;>split<;>omega
 · intro x y z e1 e2
   simp only [andThen] at e1 e2 ⊢;by_cases p:c1 (f x) (f y)=0
   · rw [if_pos p] at e1
     by_cases q:c1 (f y) (f z)=0
     · rw [if_pos q] at e2
       have r:c1 (f x) (f z)=0:=by
        have r1:=h1.trans (f x) (f y) (f z) (by omega) (by omega);have r2:=h1.trans (f z) (f y) (f x) (by have:=h1.eq_symm q;omega) (by have:=h1.eq_symm p;omega);have a:=h1.symm (f x) (f z);have b:=h1.symm (f z) (f x);omega
       rw [if_pos r];exact h2.trans _ _ _ e1 e2
     · rw [if_neg q] at e2
       have:=h1.lt_of_le_of_lt (x:=f x) (y:=f y) (z:=f z) (by omega) (by omega);rw [if_neg (by omega)];omega
   · rw [if_neg p] at e1
     have hq:c1 (f y) (f z)≤0:=by
      by_cases q:c1 (f y) (f z)=0
      · omega
      · rw [if_neg q] at e2;exact e2
     have:=h1.lt_of_lt_of_le (x:=f x) (y:=f y) (z:=f z) (by omega) hq;rw [if_neg (by omega)];omega
structure Sym where
 kind:Int
 text:ByteArray
 n:Int
theorem Sym.ext' {a b:Sym} (h1:a.kind=b.kind) (h2:a.text=b.text) (h3:a.n=b.n):a=b:=by cases a;cases b;simp_all
instance:DecidableEq Sym:=fun a b=>decidable_of_iff (a.kind=b.kind∧a.text=b.text∧a.n=b.n) ⟨fun ⟨h1,h2,h3⟩=>Sym.ext' h1 h2 h3,fun h=>by subst h;exact ⟨rfl,rfl,rfl⟩⟩
instance:Inhabited Sym:=⟨⟨0,⟨#[]⟩,0⟩⟩
def Z01 (a b:Sym):Int:=andThen (Z2z a.kind b.kind) (andThen (Z2c a.text b.text) (Z2z a.n b.n))
theorem Z1d:TC Z01:=Z9h (f:=Sym.kind) (g:=fun s:Sym=>(s.text,s.n)) (c2:=fun x y=>andThen (Z2c x.1 y.1) (Z2z x.2 y.2)) Zis
 (Z9h (f:=fun x:ByteArray×Int=>x.1) (g:=fun x:ByteArray×Int=>x.2) Zit Zis)
theorem Z3y {a b:Sym}:Z01 a b=0↔a=b:=by
 constructor
 · intro h
   simp only [Z01,andThen] at h
   split at h
   · split at h
     · exact Sym.ext' (Z56.1 ‹_›) (Z6a.1 ‹_›) (Z56.1 h)
     · exact absurd h ‹_›
   · exact absurd h ‹_›
 · rintro rfl;exact Z1d.refl _
end
section
open Go.RowKit
def Sym.cells (s:Sym):List Value:=[.int .i64 s.kind,.string s.text,.int .i64 s.n]
theorem Sym.cells_length (s:Sym):s.cells.length=3:=rfl
theorem Zfq (a:Int) (w:World):Calls Tryz.prog 229 #[.int .i64 a] w fun e w'=>e = .returned (.bool false)∧w=w':=by
 go_enter Tryz.func229,Tryz.ntmps229;go_wp2;go_ret;exact ⟨by simp,rfl⟩
theorem Zfr (a:ByteArray) (w:World):Calls Tryz.prog 230 #[.string a] w fun e w'=>e = .returned (.bool false)∧w=w':=by
 go_enter Tryz.func230,Tryz.ntmps230;go_wp2;go_ret;exact ⟨by simp,rfl⟩
theorem Zc2 (a b:Int) (w:World):Calls Tryz.prog 227 #[.int .i64 a,.int .i64 b] w fun e w'=>e = .returned (.int .i64 (Z2z a b))∧w=w':=by
 go_enter Tryz.func227,Tryz.ntmps227;go_wp2_with (go_at_call 229;refine (Zfq _ _).mono ?_;rintro e w' ⟨rfl,rfl⟩)
 all_goals (go_ret;refine ⟨?_,rfl⟩;unfold Z2z;(repeat' split)<;>first | rfl | (exfalso;omega))
theorem Zc3 (a b:ByteArray) (w:World):Calls Tryz.prog 228 #[.string a,.string b] w fun e w'=>e = .returned (.int .i64 (Z2c a b))∧w=w':=by
 go_enter Tryz.func228,Tryz.ntmps228;go_wp2_with (go_at_call 230;refine (Zfr _ _).mono ?_;rintro e w' ⟨rfl,rfl⟩)
 all_goals (go_ret;refine ⟨?_,rfl⟩;unfold Z2c;(repeat' split)<;>first | rfl | (exfalso;simp_all))
theorem Zj6 (a b:Sym) (w:World) :
 Calls Tryz.prog 226 #[.agg #[.int .i64 a.kind,.string a.text,.int .i64 a.n],.agg #[.int .i64 b.kind,.string b.text,.int .i64 b.n]] w fun e w'=>e = .returned (.int .i64 (Z01 a b))∧Below w.heap.size w w':=by
 obtain ⟨ak,at_,an⟩:=a;obtain ⟨bk,bt,bn⟩:=b;by_cases h1:Z2z ak bk=0
 · have n1:(Z2z ak bk != 0)=false:=by simp [h1]
   by_cases h2:Z2c at_ bt=0
   · have n2:(Z2c at_ bt != 0)=false:=by simp [h2]
     (have HF:Hid (Z01 ⟨ak,at_,an⟩ ⟨bk,bt,bn⟩=Z2z an bn):=by simp [Hid,Z01,andThen,h1,h2]);clear h1 h2;go_enter Tryz.func226,Tryz.ntmps226;(go_wp2_with (first | (go_at_call 227;refine (Zc2 _ _ _).mono ?_;rintro e w' ⟨rfl,rfl⟩) | (go_at_call 228;refine (Zc3 _ _ _).mono ?_;rintro e w' ⟨rfl,rfl⟩)));go_ret;exact ⟨by rw [HF.out];rfl,((Zks _ _).alloc (Zkt _) _).alloc (by simp) _⟩
   · have n2:(Z2c at_ bt != 0)=true:=by simp [h2]
     (have HF:Hid (Z01 ⟨ak,at_,an⟩ ⟨bk,bt,bn⟩=Z2c at_ bt):=by simp [Hid,Z01,andThen,h1,h2]);clear h1 h2;go_enter Tryz.func226,Tryz.ntmps226;(go_wp2_with (first | (go_at_call 227;refine (Zc2 _ _ _).mono ?_;rintro e w' ⟨rfl,rfl⟩) | (go_at_call 228;refine (Zc3 _ _ _).mono ?_;rintro e w' ⟨rfl,rfl⟩)));go_ret;exact ⟨by rw [HF.out];rfl,((Zks _ _).alloc (Zkt _) _).alloc (by simp) _⟩
 · have n1:(Z2z ak bk != 0)=true:=by simp [h1]
   (have HF:Hid (Z01 ⟨ak,at_,an⟩ ⟨bk,bt,bn⟩=Z2z ak bk):=by simp [Hid,Z01,andThen,h1]);clear h1;go_enter Tryz.func226,Tryz.ntmps226;(go_wp2_with (first | (go_at_call 227;refine (Zc2 _ _ _).mono ?_;rintro e w' ⟨rfl,rfl⟩) | (go_at_call 228;refine (Zc3 _ _ _).mono ?_;rintro e w' ⟨rfl,rfl⟩)));go_ret;exact ⟨by rw [HF.out];rfl,((Zks _ _).alloc (Zkt _) _).alloc (by simp) _⟩
end
section
open Go.RowKit Go.ChangeShapes Go.WideShapes Go.Deep
theorem Zbm:Zj2 Tryz.prog 38 3 Sym.cells:=
 ⟨by kernel_rfl,fun H enc w base spare held n cs x h=>by
  obtain ⟨y0,y1,y2,n',_,hl,h0,h1,h2⟩:=trod_struct3 Tryz.underlying38 h;have hl3:cs.length=3:=hl.trans (by kernel_rfl);(have c3:Tryz.prog.cellsOf 3=1:=by kernel_rfl);(have c9:Tryz.prog.cellsOf 9=1:=by kernel_rfl);simp only [c3,c9] at h0 h1 h2
  match cs,hl3 with
  | [v0,v1,v2],_=>
    simp at h0 h1 h2;obtain ⟨a,e0,_⟩:=DataW.trod_int Tryz.underlying3 h0;obtain ⟨b,e1,_⟩:=DataW.trod_string Tryz.underlying9 h1;obtain ⟨c,e2,_⟩:=DataW.trod_int Tryz.underlying3 h2;simp at e0 e1 e2;subst e0;subst e1;subst e2
    exact ⟨⟨a,b,c⟩,rfl⟩⟩
def Z42:RepT ByteArray:=RepT.flat 1 (fun s:ByteArray=>[.string s]) (fun _=>rfl)
def Zgj:RepT Sym:=RepT.flat 3 Sym.cells Sym.cells_length
theorem Z6p:Z8t Tryz.prog 38 Zgj:=Z8v Sym.cells_length Zbm
structure Z3n where
 rel:Int
 var:ByteArray
 sym:Sym
 list:List Sym
def Z0t:RepT Z3n:=
 { size:=6,rep:=fun D w x cs=>∃A1 c1,cs = [.int .i64 x.rel,.string x.var,.int .i64 x.sym.kind,.string x.sym.text,.int .i64 x.sym.n,.slice A1 x.list.length c1]∧RowR Zgj D w A1 c1 x.list,
   len:=by rintro _ _ _ _ ⟨_,_,rfl,_⟩;rfl,
   keep:=by
    rintro _ _ _ _ _ _ hs hk ⟨A1,c1,h0,h1⟩
    exact ⟨A1,c1,h0,h1.keep hs hk⟩ }
theorem Z7l {D:Nat→Prop} {w:World} {A:Option Addr} {c k:Nat} {l:List Z3n} (h:RowR Z0t D w A c l) (hk:k<l.length) : ∃g off A1 c1,A=some ⟨g,off,none⟩∧D g∧g<w.heap.size∧w.cell? ⟨g,off+k*6,none⟩=some (.int .i64 l[k].rel)∧w.cell? ⟨g,off+k*6+1,none⟩=some (.string l[k].var)∧w.cell? ⟨g,off+k*6+2,none⟩=some (.int .i64 l[k].sym.kind)∧w.cell? ⟨g,off+k*6+3,none⟩=some (.string l[k].sym.text)∧w.cell? ⟨g,off+k*6+4,none⟩=some (.int .i64 l[k].sym.n)∧w.cell? ⟨g,off+k*6+5,none⟩=some (.slice A1 l[k].list.length c1)∧RowR Zgj D w A1 c1 l[k].list:=by
 obtain ⟨g,off,cs,hA,hD,hg,⟨A1,c1,rfl,hrs⟩,hc⟩:=h.at_ hk;exact ⟨g,off,A1,c1,hA,hD,hg,by simpa [Z0t] using hc 0 _ rfl,by simpa [Z0t] using hc 1 _ rfl,by simpa [Z0t] using hc 2 _ rfl,by simpa [Z0t] using hc 3 _ rfl,by simpa [Z0t] using hc 4 _ rfl,by simpa [Z0t] using hc 5 _ rfl,hrs⟩
theorem Z4r:Z8t Tryz.prog 138 Z0t:=
 ⟨by kernel_rfl,fun H enc w base spare held n cs x h=>by
  have hl2:cs.length=6:=(Z4w Tryz.underlying138 h).trans (by kernel_rfl);obtain ⟨m0,y0,h0⟩:=Z1l Tryz.underlying138 h 0 rfl 3 0 1 rfl rfl (by kernel_rfl);obtain ⟨m1,y1,h1⟩:=Z1l Tryz.underlying138 h 1 rfl 9 1 1 rfl rfl (by kernel_rfl);obtain ⟨m2,y2,h2⟩:=Z1l Tryz.underlying138 h 2 rfl 38 2 3 rfl rfl (by kernel_rfl);obtain ⟨m3,y3,h3⟩:=Z1l Tryz.underlying138 h 3 rfl 27 5 1 rfl rfl (by kernel_rfl)
  match cs,hl2 with
  | [v0,v1,v2,v3,v4,v5],_=>
    simp at h0 h1 h2 h3;obtain ⟨a0,e0,_⟩:=DataW.trod_int Tryz.underlying3 h0;simp at e0;obtain ⟨a1,e1,_⟩:=DataW.trod_string Tryz.underlying9 h1;simp at e1;obtain ⟨a2,e2⟩:=Z6p.2 H enc w base spare held _ _ _ h2;have e2:_=Sym.cells a2:=e2;simp [Sym.cells] at e2;obtain ⟨a3,A3,c3,e3,r3⟩:=(Zco Tryz.underlying27 (by kernel_rfl) (by decide) Z6p).2 H enc w base spare held _ _ _ h3;simp at e3;subst e0;subst e1;obtain ⟨rfl,rfl,rfl⟩:=e2;subst e3
    exact ⟨⟨a0,a1,a2,a3⟩,A3,c3,rfl,r3⟩⟩
inductive Z0o where
 | mk (kind:Int) (goal:Bool) (id:ByteArray) (attr:List Z3n) (value:List Z3n) (acc:Bool) (conds:List Z0o)
def Z0o.kind:Z0o→Int
 | .mk x _ _ _ _ _ _=>x
def Z0o.goal:Z0o→Bool
 | .mk _ x _ _ _ _ _=>x
def Z0o.id:Z0o→ByteArray
 | .mk _ _ x _ _ _ _=>x
def Z0o.attr:Z0o→List Z3n
 | .mk _ _ _ x _ _ _=>x
def Z0o.value:Z0o→List Z3n
 | .mk _ _ _ _ x _ _=>x
def Z0o.acc:Z0o→Bool
 | .mk _ _ _ _ _ x _=>x
def Z0o.conds:Z0o→List Z0o
 | .mk _ _ _ _ _ _ x=>x
def Z0g:Nat→RepT Z0o
 | 0=>{ size:=7,rep:=fun _ _ _ _=>False,len:=fun h=>h.elim,keep:=fun _ _ h=>h }
 | n+1=>
 { size:=7,rep:=fun D w x cs=>∃A1 c1 A2 c2 A3 c3,cs = [.int .i64 x.kind,.bool x.goal,.string x.id,.slice A1 x.attr.length c1,.slice A2 x.value.length c2,.bool x.acc,.slice A3 x.conds.length c3]∧RowR Z0t D w A1 c1 x.attr∧RowR Z0t D w A2 c2 x.value∧RowR (Z0g n) D w A3 c3 x.conds,
   len:=by rintro _ _ _ _ ⟨_,_,_,_,_,_,rfl,_⟩;rfl,
   keep:=by
    rintro _ _ _ _ _ _ hs hk ⟨A1,c1,A2,c2,A3,c3,h0,h1,h2,h3⟩
    exact ⟨A1,c1,A2,c2,A3,c3,h0,h1.keep hs hk,h2.keep hs hk,h3.keep hs hk⟩ }
theorem Z2y (n:Nat):(Z0g n).size=7:=by cases n<;>rfl
theorem Z3r {n:Nat} {D:Nat→Prop} {w:World} {A:Option Addr} {c k:Nat} {l:List Z0o} (h:RowR (Z0g (n+1)) D w A c l) (hk:k<l.length) : ∃g off A1 c1 A2 c2 A3 c3,A=some ⟨g,off,none⟩∧D g∧g<w.heap.size∧w.cell? ⟨g,off+k*7,none⟩=some (.int .i64 l[k].kind)∧w.cell? ⟨g,off+k*7+1,none⟩=some (.bool l[k].goal)∧w.cell? ⟨g,off+k*7+2,none⟩=some (.string l[k].id)∧w.cell? ⟨g,off+k*7+3,none⟩=some (.slice A1 l[k].attr.length c1)∧w.cell? ⟨g,off+k*7+4,none⟩=some (.slice A2 l[k].value.length c2)∧w.cell? ⟨g,off+k*7+5,none⟩=some (.bool l[k].acc)∧w.cell? ⟨g,off+k*7+6,none⟩=some (.slice A3 l[k].conds.length c3)∧RowR Z0t D w A1 c1 l[k].attr∧RowR Z0t D w A2 c2 l[k].value∧RowR (Z0g n) D w A3 c3 l[k].conds:=by
 obtain ⟨g,off,cs,hA,hD,hg,⟨A1,c1,A2,c2,A3,c3,rfl,hrs⟩,hc⟩:=h.at_ hk;exact ⟨g,off,A1,c1,A2,c2,A3,c3,hA,hD,hg,by simpa [Z0g] using hc 0 _ rfl,by simpa [Z0g] using hc 1 _ rfl,by simpa [Z0g] using hc 2 _ rfl,by simpa [Z0g] using hc 3 _ rfl,by simpa [Z0g] using hc 4 _ rfl,by simpa [Z0g] using hc 5 _ rfl,by simpa [Z0g] using hc 6 _ rfl,hrs⟩
theorem Z6u : ∀(n:Nat) {D:Nat→Prop} {w:World} {a:Z0o} {cs:List Value},(Z0g n).rep D w a cs→(Z0g (n+1)).rep D w a cs
 | 0,_,_,_,_,h=>h.elim
 | n+1,_,_,_,_,h=>by
   obtain ⟨A1,c1,A2,c2,A3,c3,h0,h1,h2,h3⟩:=h;exact ⟨A1,c1,A2,c2,A3,c3,h0,h1,h2,h3.imp (by rw [Z2y,Z2y]) (fun _ _ g=>Z6u n g)⟩
theorem Z8i {m n:Nat} (h:m≤n) {D:Nat→Prop} {w:World} {a:Z0o} {cs:List Value} (g:(Z0g m).rep D w a cs):(Z0g n).rep D w a cs:=by
 induction n with
 | zero=>obtain rfl:m=0:=by omega
         exact g
 | succ n ih=>
   by_cases e:m=n+1
   · subst e;exact g
   · exact Z6u n (ih (by omega))
theorem Zhs {cs:List Value} (h:cs.length=7) : ∃v0 v1 v2 v3 v4 v5 v6,cs = [v0,v1,v2,v3,v4,v5,v6]:=by
 match cs,h with
 | [v0,v1,v2,v3,v4,v5,v6],_=>exact ⟨v0,v1,v2,v3,v4,v5,v6,rfl⟩
theorem Zck {H:Type} (enc:TypeId×Value→H) (w:World) (base:Nat) (spare:Nat→Bool) (held:Bool) : ∀(fuel:Nat) (cs:List Value) (x:DataW H×List MemPlace),DataW.trod enc Tryz.prog w base spare held fuel 59 cs=some x→∃a:Z0o,(Z0g fuel).rep (· < w.heap.size) w a cs:=by
 intro fuel
 induction fuel using Nat.strongRecOn with
 | _ fuel ih=>
   intro cs x h;obtain ⟨n,rfl⟩ : ∃n,fuel=n+1:=⟨fuel - 1,by have:=Zdr h;omega⟩;have hl2:cs.length=7:=(Z4w Tryz.underlying59 h).trans (by kernel_rfl);obtain ⟨y0,h0⟩:=Z2a Tryz.underlying59 h 0 rfl 3 0 1 rfl rfl (by kernel_rfl);obtain ⟨y1,h1⟩:=Z2a Tryz.underlying59 h 1 rfl 4 1 1 rfl rfl (by kernel_rfl);obtain ⟨y2,h2⟩:=Z2a Tryz.underlying59 h 2 rfl 9 2 1 rfl rfl (by kernel_rfl);obtain ⟨y3,h3⟩:=Z2a Tryz.underlying59 h 3 rfl 57 3 1 rfl rfl (by kernel_rfl);obtain ⟨y4,h4⟩:=Z2a Tryz.underlying59 h 4 rfl 57 4 1 rfl rfl (by kernel_rfl);obtain ⟨y5,h5⟩:=Z2a Tryz.underlying59 h 5 rfl 4 5 1 rfl rfl (by kernel_rfl);obtain ⟨y6,h6⟩:=Z2a Tryz.underlying59 h 6 rfl 22 6 1 rfl rfl (by kernel_rfl);obtain ⟨v0,v1,v2,v3,v4,v5,v6,rfl⟩:=Zhs hl2;simp at h0 h1 h2 h3 h4 h5 h6;obtain ⟨a0,e0,_⟩:=DataW.trod_int Tryz.underlying3 h0;simp at e0;obtain ⟨a1,e1,_⟩:=DataW.trod_bool Tryz.underlying4 h1;simp at e1;obtain ⟨a2,e2,_⟩:=DataW.trod_string Tryz.underlying9 h2;simp at e2;obtain ⟨A3,c3,a3,e3,r3⟩:=Z43 (r:=Z0t) Tryz.underlying57 (by decide) Z4r.1 (fun n cs x hx=>Z4r.2 H enc w base spare held n cs x hx) h3;simp at e3;obtain ⟨A4,c4,a4,e4,r4⟩:=Z43 (r:=Z0t) Tryz.underlying57 (by decide) Z4r.1 (fun n cs x hx=>Z4r.2 H enc w base spare held n cs x hx) h4;simp at e4;obtain ⟨a5,e5,_⟩:=DataW.trod_bool Tryz.underlying4 h5;simp at e5;obtain ⟨A6,c6,a6,e6,r6⟩:=Z7g (r:=Z0g n) Tryz.underlying22 (by rw [Z2y];decide) (by rw [Z2y];kernel_rfl) (fun m hm cs x hx=>(ih m (by omega) cs x hx).imp fun _ g=>Z8i (by omega) g) h6;simp at e6;subst e0;subst e1;subst e2;subst e3;subst e4;subst e5;subst e6;exact ⟨⟨a0,a1,a2,a3,a4,a5,a6⟩,A3,c3,A4,c4,A6,c6,rfl,r3,r4,r6⟩
structure Z2f where
 var:ByteArray
 sym:Sym
def Z2f.cells (x:Z2f):List Value:=[.string x.var,.int .i64 x.sym.kind,.string x.sym.text,.int .i64 x.sym.n]
theorem Z2f.cells_length (x:Z2f):x.cells.length=4:=rfl
def Zi9:RepT Z2f:=RepT.flat 4 Z2f.cells Z2f.cells_length
theorem Z4q:Z8t Tryz.prog 91 Zi9:=
 ⟨by kernel_rfl,fun H enc w base spare held n cs x h=>by
  have hl2:cs.length=4:=(Z4w Tryz.underlying91 h).trans (by kernel_rfl);obtain ⟨m0,y0,h0⟩:=Z1l Tryz.underlying91 h 0 rfl 9 0 1 rfl rfl (by kernel_rfl);obtain ⟨m1,y1,h1⟩:=Z1l Tryz.underlying91 h 1 rfl 38 1 3 rfl rfl (by kernel_rfl)
  match cs,hl2 with
  | [v0,v1,v2,v3],_=>
    simp at h0 h1;obtain ⟨a0,e0,_⟩:=DataW.trod_string Tryz.underlying9 h0;simp at e0;obtain ⟨a1,e1⟩:=Z6p.2 H enc w base spare held _ _ _ h1;have e1:_=Sym.cells a1:=e1;simp [Sym.cells] at e1;subst e0;obtain ⟨rfl,rfl,rfl⟩:=e1
    exact ⟨⟨a0,a1⟩,rfl⟩⟩
structure Z5m where
 op:Int
 a:Z2f
 b:Z2f
def Z5m.cells (x:Z5m):List Value:=[.int .i64 x.op,.string x.a.var,.int .i64 x.a.sym.kind,.string x.a.sym.text,.int .i64 x.a.sym.n,.string x.b.var,.int .i64 x.b.sym.kind,.string x.b.sym.text,.int .i64 x.b.sym.n]
theorem Z5m.cells_length (x:Z5m):x.cells.length=9:=rfl
def Zib:RepT Z5m:=RepT.flat 9 Z5m.cells Z5m.cells_length
theorem Zcn:Z8t Tryz.prog 93 Zib:=
 ⟨by kernel_rfl,fun H enc w base spare held n cs x h=>by
  have hl2:cs.length=9:=(Z4w Tryz.underlying93 h).trans (by kernel_rfl);obtain ⟨m0,y0,h0⟩:=Z1l Tryz.underlying93 h 0 rfl 3 0 1 rfl rfl (by kernel_rfl);obtain ⟨m1,y1,h1⟩:=Z1l Tryz.underlying93 h 1 rfl 91 1 4 rfl rfl (by kernel_rfl);obtain ⟨m2,y2,h2⟩:=Z1l Tryz.underlying93 h 2 rfl 91 5 4 rfl rfl (by kernel_rfl)
  match cs,hl2 with
  | [v0,v1,v2,v3,v4,v5,v6,v7,v8],_=>
    simp at h0 h1 h2;obtain ⟨a0,e0,_⟩:=DataW.trod_int Tryz.underlying3 h0;simp at e0;obtain ⟨a1,e1⟩:=Z4q.2 H enc w base spare held _ _ _ h1;have e1:_=Z2f.cells a1:=e1;simp [Z2f.cells] at e1;obtain ⟨a2,e2⟩:=Z4q.2 H enc w base spare held _ _ _ h2;have e2:_=Z2f.cells a2:=e2;simp [Z2f.cells] at e2;subst e0;obtain ⟨rfl,rfl,rfl,rfl⟩:=e1;obtain ⟨rfl,rfl,rfl,rfl⟩:=e2
    exact ⟨⟨a0,a1,a2⟩,rfl⟩⟩
structure ActT where
 id:ByteArray
 attr:Z2f
 value:Z5m
 pref:Int
 other:Z2f
def ActT.cells (x:ActT):List Value:=[.string x.id,.string x.attr.var,.int .i64 x.attr.sym.kind,.string x.attr.sym.text,.int .i64 x.attr.sym.n,.int .i64 x.value.op,.string x.value.a.var,.int .i64 x.value.a.sym.kind,.string x.value.a.sym.text,.int .i64 x.value.a.sym.n,.string x.value.b.var,.int .i64 x.value.b.sym.kind,.string x.value.b.sym.text,.int .i64 x.value.b.sym.n,.int .i64 x.pref,.string x.other.var,.int .i64 x.other.sym.kind,.string x.other.sym.text,.int .i64 x.other.sym.n]
theorem ActT.cells_length (x:ActT):x.cells.length=19:=rfl
def Z0r:RepT ActT:=RepT.flat 19 ActT.cells ActT.cells_length
theorem Z7v {D:Nat→Prop} {w:World} {A:Option Addr} {c k:Nat} {l:List ActT} (h:RowR Z0r D w A c l) (hk:k<l.length) : ∃g off,A=some ⟨g,off,none⟩∧D g∧g<w.heap.size∧w.cell? ⟨g,off+k*19,none⟩=some (.string l[k].id)∧w.cell? ⟨g,off+k*19+1,none⟩=some (.string l[k].attr.var)∧w.cell? ⟨g,off+k*19+2,none⟩=some (.int .i64 l[k].attr.sym.kind)∧w.cell? ⟨g,off+k*19+3,none⟩=some (.string l[k].attr.sym.text)∧w.cell? ⟨g,off+k*19+4,none⟩=some (.int .i64 l[k].attr.sym.n)∧w.cell? ⟨g,off+k*19+5,none⟩=some (.int .i64 l[k].value.op)∧w.cell? ⟨g,off+k*19+6,none⟩=some (.string l[k].value.a.var)∧w.cell? ⟨g,off+k*19+7,none⟩=some (.int .i64 l[k].value.a.sym.kind)∧w.cell? ⟨g,off+k*19+8,none⟩=some (.string l[k].value.a.sym.text)∧w.cell? ⟨g,off+k*19+9,none⟩=some (.int .i64 l[k].value.a.sym.n)∧w.cell? ⟨g,off+k*19+10,none⟩=some (.string l[k].value.b.var)∧w.cell? ⟨g,off+k*19+11,none⟩=some (.int .i64 l[k].value.b.sym.kind)∧w.cell? ⟨g,off+k*19+12,none⟩=some (.string l[k].value.b.sym.text)∧w.cell? ⟨g,off+k*19+13,none⟩=some (.int .i64 l[k].value.b.sym.n)∧w.cell? ⟨g,off+k*19+14,none⟩=some (.int .i64 l[k].pref)∧w.cell? ⟨g,off+k*19+15,none⟩=some (.string l[k].other.var)∧w.cell? ⟨g,off+k*19+16,none⟩=some (.int .i64 l[k].other.sym.kind)∧w.cell? ⟨g,off+k*19+17,none⟩=some (.string l[k].other.sym.text)∧w.cell? ⟨g,off+k*19+18,none⟩=some (.int .i64 l[k].other.sym.n):=by
 obtain ⟨g,off,cs,hA,hD,hg,hr,hc⟩:=h.at_ hk;have hr2:cs=ActT.cells l[k]:=hr;subst hr2;refine ⟨g,off,hA,hD,hg,by simpa [Z0r,RepT.flat] using hc 0 _ rfl,by simpa [Z0r,RepT.flat] using hc 1 _ rfl,by simpa [Z0r,RepT.flat] using hc 2 _ rfl,by simpa [Z0r,RepT.flat] using hc 3 _ rfl,by simpa [Z0r,RepT.flat] using hc 4 _ rfl,by simpa [Z0r,RepT.flat] using hc 5 _ rfl,by simpa [Z0r,RepT.flat] using hc 6 _ rfl,by simpa [Z0r,RepT.flat] using hc 7 _ rfl,by simpa [Z0r,RepT.flat] using hc 8 _ rfl,by simpa [Z0r,RepT.flat] using hc 9 _ rfl,by simpa [Z0r,RepT.flat] using hc 10 _ rfl,by simpa [Z0r,RepT.flat] using hc 11 _ rfl,by simpa [Z0r,RepT.flat] using hc 12 _ rfl,by simpa [Z0r,RepT.flat] using hc 13 _ rfl,by simpa [Z0r,RepT.flat] using hc 14 _ rfl,by simpa [Z0r,RepT.flat] using hc 15 _ rfl,by simpa [Z0r,RepT.flat] using hc 16 _ rfl,by simpa [Z0r,RepT.flat] using hc 17 _ rfl,by simpa [Z0r,RepT.flat] using hc 18 _ rfl⟩
theorem Z9b:Z8t Tryz.prog 96 Z0r:=
 ⟨by kernel_rfl,fun H enc w base spare held n cs x h=>by
  have hl2:cs.length=19:=(Z4w Tryz.underlying96 h).trans (by kernel_rfl);obtain ⟨m0,y0,h0⟩:=Z1l Tryz.underlying96 h 0 rfl 9 0 1 rfl rfl (by kernel_rfl);obtain ⟨m1,y1,h1⟩:=Z1l Tryz.underlying96 h 1 rfl 91 1 4 rfl rfl (by kernel_rfl);obtain ⟨m2,y2,h2⟩:=Z1l Tryz.underlying96 h 2 rfl 93 5 9 rfl rfl (by kernel_rfl);obtain ⟨m3,y3,h3⟩:=Z1l Tryz.underlying96 h 3 rfl 3 14 1 rfl rfl (by kernel_rfl);obtain ⟨m4,y4,h4⟩:=Z1l Tryz.underlying96 h 4 rfl 91 15 4 rfl rfl (by kernel_rfl)
  match cs,hl2 with
  | [v0,v1,v2,v3,v4,v5,v6,v7,v8,v9,v10,v11,v12,v13,v14,v15,v16,v17,v18],_=>
    simp at h0 h1 h2 h3 h4;obtain ⟨a0,e0,_⟩:=DataW.trod_string Tryz.underlying9 h0;simp at e0;obtain ⟨a1,e1⟩:=Z4q.2 H enc w base spare held _ _ _ h1;have e1:_=Z2f.cells a1:=e1;simp [Z2f.cells] at e1;obtain ⟨a2,e2⟩:=Zcn.2 H enc w base spare held _ _ _ h2;have e2:_=Z5m.cells a2:=e2;simp [Z5m.cells] at e2;obtain ⟨a3,e3,_⟩:=DataW.trod_int Tryz.underlying3 h3;simp at e3;obtain ⟨a4,e4⟩:=Z4q.2 H enc w base spare held _ _ _ h4;have e4:_=Z2f.cells a4:=e4;simp [Z2f.cells] at e4;subst e0;obtain ⟨rfl,rfl,rfl,rfl⟩:=e1;obtain ⟨rfl,rfl,rfl,rfl,rfl,rfl,rfl,rfl,rfl⟩:=e2;subst e3;obtain ⟨rfl,rfl,rfl,rfl⟩:=e4
    exact ⟨⟨a0,a1,a2,a3,a4⟩,rfl⟩⟩
structure Z31 where
 name:ByteArray
 conds:List Z0o
 acts:List ActT
def Zia (n:Nat):RepT Z31:=
 { size:=3,rep:=fun D w x cs=>∃A1 c1 A2 c2,cs = [.string x.name,.slice A1 x.conds.length c1,.slice A2 x.acts.length c2]∧RowR (Z0g n) D w A1 c1 x.conds∧RowR Z0r D w A2 c2 x.acts,
   len:=by rintro _ _ _ _ ⟨_,_,_,_,rfl,_⟩;rfl,
   keep:=by
    rintro _ _ _ _ _ _ hs hk ⟨A1,c1,A2,c2,h0,h1,h2⟩
    exact ⟨A1,c1,A2,c2,h0,h1.keep hs hk,h2.keep hs hk⟩ }
theorem Zht {cs:List Value} (h:cs.length=3) : ∃v0 v1 v2,cs = [v0,v1,v2]:=by
 match cs,h with
 | [v0,v1,v2],_=>exact ⟨v0,v1,v2,rfl⟩
theorem Zcl {H:Type} (enc:TypeId×Value→H) (w:World) (base:Nat) (spare:Nat→Bool) (held:Bool) : ∀(fuel:Nat) (cs:List Value) (x:DataW H×List MemPlace),DataW.trod enc Tryz.prog w base spare held fuel 25 cs=some x→∃a:Z31,(Zia fuel).rep (· < w.heap.size) w a cs:=by
 intro fuel
 induction fuel using Nat.strongRecOn with
 | _ fuel ih=>
   intro cs x h;obtain ⟨n,rfl⟩ : ∃n,fuel=n+1:=⟨fuel - 1,by have:=Zdr h;omega⟩;have hl2:cs.length=3:=(Z4w Tryz.underlying25 h).trans (by kernel_rfl);obtain ⟨y0,h0⟩:=Z2a Tryz.underlying25 h 0 rfl 9 0 1 rfl rfl (by kernel_rfl);obtain ⟨y1,h1⟩:=Z2a Tryz.underlying25 h 1 rfl 22 1 1 rfl rfl (by kernel_rfl);obtain ⟨y2,h2⟩:=Z2a Tryz.underlying25 h 2 rfl 23 2 1 rfl rfl (by kernel_rfl);obtain ⟨v0,v1,v2,rfl⟩:=Zht hl2;simp at h0 h1 h2;obtain ⟨a0,e0,_⟩:=DataW.trod_string Tryz.underlying9 h0;simp at e0;obtain ⟨A1,c1,a1,e1,r1⟩:=Z7g (r:=Z0g (n+1)) Tryz.underlying22 (by rw [Z2y];decide) (by rw [Z2y];kernel_rfl) (fun m hm cs x hx=>(Zck enc w base spare held m cs x hx).imp fun _ g=>Z8i (by omega) g) h1;simp at e1;obtain ⟨A2,c2,a2,e2,r2⟩:=Z43 (r:=Z0r) Tryz.underlying23 (by decide) Z9b.1 (fun n cs x hx=>Z9b.2 H enc w base spare held n cs x hx) h2;simp at e2;subst e0;subst e1;subst e2;exact ⟨⟨a0,a1,a2⟩,A1,c1,A2,c2,rfl,r1,r2⟩
structure Z05 where
 var:ByteArray
 sym:Sym
def Z05.cells (x:Z05):List Value:=[.string x.var,.int .i64 x.sym.kind,.string x.sym.text,.int .i64 x.sym.n]
theorem Z05.cells_length (x:Z05):x.cells.length=4:=rfl
def Z0s:RepT Z05:=RepT.flat 4 Z05.cells Z05.cells_length
theorem Z5c {D:Nat→Prop} {w:World} {A:Option Addr} {c k:Nat} {l:List Z05} (h:RowR Z0s D w A c l) (hk:k<l.length) : ∃g off,A=some ⟨g,off,none⟩∧D g∧g<w.heap.size∧w.cell? ⟨g,off+k*4,none⟩=some (.string l[k].var)∧w.cell? ⟨g,off+k*4+1,none⟩=some (.int .i64 l[k].sym.kind)∧w.cell? ⟨g,off+k*4+2,none⟩=some (.string l[k].sym.text)∧w.cell? ⟨g,off+k*4+3,none⟩=some (.int .i64 l[k].sym.n):=by
 obtain ⟨g,off,cs,hA,hD,hg,hr,hc⟩:=h.at_ hk;have hr2:cs=Z05.cells l[k]:=hr;subst hr2;refine ⟨g,off,hA,hD,hg,by simpa [Z0s,RepT.flat] using hc 0 _ rfl,by simpa [Z0s,RepT.flat] using hc 1 _ rfl,by simpa [Z0s,RepT.flat] using hc 2 _ rfl,by simpa [Z0s,RepT.flat] using hc 3 _ rfl⟩
theorem Zcm:Z8t Tryz.prog 40 Z0s:=
 ⟨by kernel_rfl,fun H enc w base spare held n cs x h=>by
  have hl2:cs.length=4:=(Z4w Tryz.underlying40 h).trans (by kernel_rfl);obtain ⟨m0,y0,h0⟩:=Z1l Tryz.underlying40 h 0 rfl 9 0 1 rfl rfl (by kernel_rfl);obtain ⟨m1,y1,h1⟩:=Z1l Tryz.underlying40 h 1 rfl 38 1 3 rfl rfl (by kernel_rfl)
  match cs,hl2 with
  | [v0,v1,v2,v3],_=>
    simp at h0 h1;obtain ⟨a0,e0,_⟩:=DataW.trod_string Tryz.underlying9 h0;simp at e0;obtain ⟨a1,e1⟩:=Z6p.2 H enc w base spare held _ _ _ h1;have e1:_=Sym.cells a1:=e1;simp [Sym.cells] at e1;subst e0;obtain ⟨rfl,rfl,rfl⟩:=e1
    exact ⟨⟨a0,a1⟩,rfl⟩⟩
structure Z17 where
 id:Sym
 attr:Sym
 value:Sym
 other:Sym
 kind:Int
 o:Bool
 level:Int
 by_:Int
def Z17.cells (x:Z17):List Value:=[.int .i64 x.id.kind,.string x.id.text,.int .i64 x.id.n,.int .i64 x.attr.kind,.string x.attr.text,.int .i64 x.attr.n,.int .i64 x.value.kind,.string x.value.text,.int .i64 x.value.n,.int .i64 x.other.kind,.string x.other.text,.int .i64 x.other.n,.int .i64 x.kind,.bool x.o,.int .i64 x.level,.int .i64 x.by_]
theorem Z17.cells_length (x:Z17):x.cells.length=16:=rfl
def Z1q:RepT Z17:=RepT.flat 16 Z17.cells Z17.cells_length
theorem Zd4 {D:Nat→Prop} {w:World} {A:Option Addr} {c k:Nat} {l:List Z17} (h:RowR Z1q D w A c l) (hk:k<l.length) : ∃g off,A=some ⟨g,off,none⟩∧D g∧g<w.heap.size∧w.cell? ⟨g,off+k*16,none⟩=some (.int .i64 l[k].id.kind)∧w.cell? ⟨g,off+k*16+1,none⟩=some (.string l[k].id.text)∧w.cell? ⟨g,off+k*16+2,none⟩=some (.int .i64 l[k].id.n)∧w.cell? ⟨g,off+k*16+3,none⟩=some (.int .i64 l[k].attr.kind)∧w.cell? ⟨g,off+k*16+4,none⟩=some (.string l[k].attr.text)∧w.cell? ⟨g,off+k*16+5,none⟩=some (.int .i64 l[k].attr.n)∧w.cell? ⟨g,off+k*16+6,none⟩=some (.int .i64 l[k].value.kind)∧w.cell? ⟨g,off+k*16+7,none⟩=some (.string l[k].value.text)∧w.cell? ⟨g,off+k*16+8,none⟩=some (.int .i64 l[k].value.n)∧w.cell? ⟨g,off+k*16+9,none⟩=some (.int .i64 l[k].other.kind)∧w.cell? ⟨g,off+k*16+10,none⟩=some (.string l[k].other.text)∧w.cell? ⟨g,off+k*16+11,none⟩=some (.int .i64 l[k].other.n)∧w.cell? ⟨g,off+k*16+12,none⟩=some (.int .i64 l[k].kind)∧w.cell? ⟨g,off+k*16+13,none⟩=some (.bool l[k].o)∧w.cell? ⟨g,off+k*16+14,none⟩=some (.int .i64 l[k].level)∧w.cell? ⟨g,off+k*16+15,none⟩=some (.int .i64 l[k].by_):=by
 obtain ⟨g,off,cs,hA,hD,hg,hr,hc⟩:=h.at_ hk;have hr2:cs=Z17.cells l[k]:=hr;subst hr2;refine ⟨g,off,hA,hD,hg,by simpa [Z1q,RepT.flat] using hc 0 _ rfl,by simpa [Z1q,RepT.flat] using hc 1 _ rfl,by simpa [Z1q,RepT.flat] using hc 2 _ rfl,by simpa [Z1q,RepT.flat] using hc 3 _ rfl,by simpa [Z1q,RepT.flat] using hc 4 _ rfl,by simpa [Z1q,RepT.flat] using hc 5 _ rfl,by simpa [Z1q,RepT.flat] using hc 6 _ rfl,by simpa [Z1q,RepT.flat] using hc 7 _ rfl,by simpa [Z1q,RepT.flat] using hc 8 _ rfl,by simpa [Z1q,RepT.flat] using hc 9 _ rfl,by simpa [Z1q,RepT.flat] using hc 10 _ rfl,by simpa [Z1q,RepT.flat] using hc 11 _ rfl,by simpa [Z1q,RepT.flat] using hc 12 _ rfl,by simpa [Z1q,RepT.flat] using hc 13 _ rfl,by simpa [Z1q,RepT.flat] using hc 14 _ rfl,by simpa [Z1q,RepT.flat] using hc 15 _ rfl⟩
end
end Go.Proofs.YtfidcfjcmlgkbaaGreat
