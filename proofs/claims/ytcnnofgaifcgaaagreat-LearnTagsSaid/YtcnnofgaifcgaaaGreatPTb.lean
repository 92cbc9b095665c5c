/-
  Texts put together: Rep, Rec, Plain, SetLeaf, RowSym.
-/
import Derived.Test.YtcnnofgaifcgaaaGreatPTa
import Derived.Test.YtcnnofgaifcgaaaGreatRows
namespace Go.Proofs.YtcnnofgaifcgaaaGreat
set_option maxRecDepth 100000
set_option maxHeartbeats 32000000
set_option linter.unusedSimpArgs false
section
open Go.RowKit Go.ChangeShapes Go.WideShapes Go.Deep
structure RepT (α:Type) where
 size:Nat
 rep:(Nat→Prop)→World→α→List Value→Prop
 len :∀{D:Nat→Prop}{w:World}{a:α}{cs:List Value},rep D w a cs→cs.length=size
 keep :∀{D D':Nat→Prop}{w w':World}{a:α}{cs:List Value},w.heap.size≤w'.heap.size→(∀k,D k→k<w.heap.size→D' k∧w'.heap[k]? = w.heap[k]?)→rep D w a cs→rep D' w' a cs
def RowR {α:Type}(r:RepT α) (D:Nat→Prop) (w:World) (A:Option Addr) (c:Nat) (l:List α):Prop:=
 l.length≤c∧c≤maxLen∧
  (0<l.length→∃b off,A=some ⟨b,off,none⟩∧D b∧b<w.heap.size∧∀k,(h:k<l.length)→∃cs,r.rep D w l[k] cs∧∀j u,cs[j]? = some u→w.cell? ⟨b,off+k*r.size+j,none⟩=some u)
section
variable {α:Type}{r:RepT α}{D D':Nat→Prop}{w w':World}{A:Option Addr}{c:Nat}{l:List α}
theorem RowR.keep (h:RowR r D w A c l) (hs:w.heap.size≤w'.heap.size) (hk :∀k,D k→k<w.heap.size→D' k∧w'.heap[k]? = w.heap[k]?):RowR r D' w' A c l:=by
 refine ⟨h.1,h.2.1,fun h0=>?_⟩;obtain ⟨b,off,h1,h2,h3,h4⟩:=h.2.2 h0;refine ⟨b,off,h1,(hk b h2 h3).1,Ya,fun k hk'=>?_⟩;obtain ⟨cs,h5,h6⟩:=h4 k hk';exact ⟨cs,r.keep hs hk h5,fun j u hu=>(World.cell?_of_block (hk b h2 h3).2).trans (h6 j u hu)⟩
theorem RowR.nil (r:RepT α) (D:Nat→Prop) (w:World):RowR r D w none 0 []:=⟨Zsu _,Nat.zero_le _,fun h=>absurd h Ye⟩
theorem RowR.cap (h:RowR r D w A c l):(l.length:Int)≤9223372036854775807:=by have:=h.1;have:=h.2.1;unfold maxLen at this;omega
theorem RowR.at_ (h:RowR r D w A c l){k:Nat}(hk:k<l.length):∃b off cs,A=some ⟨b,off,none⟩∧D b∧b<w.heap.size∧r.rep D w l[k] cs∧∀j u,cs[j]? = some u→w.cell? ⟨b,off+k*r.size+j,none⟩=some u:=by
 obtain ⟨b,off,h1,h2,h3,h4⟩:=h.2.2 Ya;obtain ⟨cs,h5,h6⟩:=h4 k hk;exact ⟨b,off,cs,h1,h2,h3,h5,h6⟩
theorem RowR.weaken (h:RowR r D w A c l) (hD :∀k,D k→D' k):RowR r D' w A c l:=h.keep (Zsu _) (fun k hk _=>⟨hD k hk,rfl⟩)
theorem RowR.new_ (h:RowR r D w A c l) (hb:Below w.heap.size w w'):RowR r D w' A c l:=h.keep hb.size (fun k hk hl=>⟨hk,hb.block k hl⟩)
theorem RowR.fr {M:Nat→Prop}(h:RowR r D w A c l) (hb:Fr M w w') (hm :∀k,D k→¬M k):RowR r D w' A c l:=h.keep hb.size (fun k hk hl=>⟨hk,hb.block k hl (hm k hk)⟩)
end
def RepT.flat {α:Type}(size:Nat) (cells:α→List Value) (h :∀a,(cells a).length=size):RepT α:=
 ⟨size,fun _ _ a cs=>cs=cells a,by rintro _ _ _ _ rfl;exact h _,by rintro _ _ _ _ _ _ _ _ h;exact h⟩
theorem RowR.rd {α:Type}{size:Nat}{cells:α→List Value}{hs :∀a,(cells a).length=size}{D:Nat→Prop}{w:World}{A:Option Addr}{c:Nat}{l:List α}(h:RowR (RepT.flat size cells hs) D w A c l):Z0y w size cells A c l:=by
 refine ⟨h.1,h.2.1,fun h0=>?_⟩;obtain ⟨b,off,h1,h2,h3,h4⟩:=h.2.2 h0;refine ⟨b,off,h1,h3,fun k hk j u hu=>?_⟩;obtain ⟨cs,h5,h6⟩:=h4 k hk;have h5':cs=cells l[k]:=h5;exact h6 j u (by rw [h5'];exact hu)
theorem RowR.of_rd {α:Type}{size:Nat}{cells:α→List Value}{hs :∀a,(cells a).length=size}{D:Nat→Prop}{w:World}{A:Option Addr}{c:Nat}{l:List α}(h:Z0y w size cells A c l) (hA:AIn A D):RowR (RepT.flat size cells hs) D w A c l:=by
 refine ⟨h.1,h.2.1,fun h0=>?_⟩;obtain ⟨b,off,h1,h2,h3⟩:=h.2.2 h0;exact ⟨b,off,h1,hA _ h1,h2,fun k hk=>⟨_,rfl,h3 k hk⟩⟩
def RepT.list {α:Type}(r:RepT α):RepT (List α):=
 ⟨1,fun D w l cs=>∃A c,cs = [.slice A l.length c]∧RowR r D w A c l,by rintro _ _ _ _ ⟨_,_,rfl,_⟩;rfl,by
  rintro _ _ _ _ _ _ hs hk ⟨A,c,h1,h2⟩;exact ⟨A,c,h1,h2.keep hs hk⟩⟩
def Z9l {α:Type}(P:Program) (t:TypeId) (r:RepT α):Prop:=
 P.cellsOf t=r.size∧∀(H:Type) (enc:TypeId×Value→H) (w:World) (base:Nat) (spare:Nat→Bool) (held:Bool) (n:Nat) (cs:List Value) (x:DataW H×List MemPlace),
  DataW.trod enc P w base spare held n t cs=some x→∃a:α,r.rep (· < w.heap.size) w a cs
theorem Zao {α:Type}{P:Program}{t:TypeId}{size:Nat}{cells:α→List Value}(hs :∀a,(cells a).length=size) (h:Zrz P t size cells):Z9l P t (RepT.flat size cells hs):=
 ⟨h.1,fun H enc w base spare held n cs x hx=>h.2 H enc w base spare held n cs x hx⟩
theorem Z3a {H:Type}{enc:TypeId×Value→H}{P:Program}{w:World}{base:Nat}{spare:Nat→Bool}{held:Bool}{α:Type}{r:RepT α}{t e:TypeId}{fuel:Nat}{cs:List Value}{x:DataW H×List MemPlace}
 (ht:P.underlying t=some (.slice e)) (h0:0<r.size) (hr:P.cellsOf e=r.size) (hE :∀n cs x,DataW.trod enc P w base spare held n e cs=some x→∃a:α,r.rep (· < w.heap.size) w a cs)
 (hf:DataW.trod enc P w base spare held fuel t cs=some x):∃A c,∃l:List α,cs = [.slice A l.length c]∧RowR r (· < w.heap.size) w A c l:=by
 rcases open_slice ht hf with ⟨h1,_⟩|⟨a,len,cap,m,n,Dd,Pl,h1,_,hl,hm,hmm,_,hx⟩
 · exact ⟨none,0,[],h1,RowR.nil _ _ _⟩
 · have hlm:len≤m:=by rw [hmm];split<;>omega
   obtain ⟨l,df,hq⟩:=Zfk (α:=α) (Q:=fun i x=>∃cs',r.rep (· < w.heap.size) w x cs'∧∀j u,cs'[j]? = some u→w.cell? ((a.add (i*r.size)).add j)=some u) len (fun i hi=>by
    obtain ⟨cs',c1,c2⟩:=hx i Ya;obtain ⟨x,Pq⟩:=hE n cs' _ c2;obtain ⟨_,Vx,R9⟩:=World.cells?_some c1;rw [hr] at R9 Vx
    exact ⟨x,cs',Pq,fun j u hu=>(R9 j (by rw [←Vx];exact (Ztp.1 hu).1)).trans hu⟩)
   subst df;refine ⟨some a,cap,l,h1,hl,hm,fun hpos=>?_⟩;obtain ⟨cs',c1,c2⟩:=hx 0 Ya;exact Y9f
theorem Zfz {α:Type}{P:Program}{r:RepT α}{t e:TypeId}(ht:P.underlying t=some (.slice e)) (hc:P.cellsOf t=1) (h0:0<r.size) (hr:Z9l P e r):Z9l P t r.list:=
 ⟨hc,fun H enc w base spare held n cs x h=>by
  obtain ⟨A,c,l,h1,h2⟩:=Z3a ht h0 hr.1 (fun n cs x h=>hr.2 H enc w base spare held n cs x h) h
  exact ⟨l,A,c,h1,h2⟩⟩
theorem Z13 {H:Type}{enc:TypeId×Value→H}{P:Program}{w:World}{base:Nat}{spare:Nat→Bool}{held:Bool}{t:TypeId}{fs:Array Field}{n:Nat}{cs:List Value}{x:DataW H×List MemPlace}
 (ht:P.underlying t=some (.struct fs)) (h:DataW.trod enc P w base spare held n t cs=some x) (i:Nat){f:Field}(hf:fs[i]? = some f) (ty off sz:Nat) (e1:f.type=ty) (e2:f.offset=off) (e3:P.cellsOf ty=sz) :
 ∃m y,DataW.trod enc P w base spare held m ty ((cs.drop off).take sz)=some y:=by
 obtain ⟨xs,n2,_,_,_,hlen,hx⟩:=DataW.trod_struct ht h;have h1:=hx i f hf;subst e1;subst e2;subst e3
 have hi:i<xs.length:=by
  have:=(Zt7.1 hf).1;omega
 rw [Zt3 hi] at h1;exact ⟨n2,_,h1⟩
theorem Z4v {H:Type}{enc:TypeId×Value→H}{P:Program}{w:World}{base:Nat}{spare:Nat→Bool}{held:Bool}{t:TypeId}{fs:Array Field}{n:Nat}{cs:List Value}{x:DataW H×List MemPlace}
 (ht:P.underlying t=some (.struct fs)) (h:DataW.trod enc P w base spare held n t cs=some x):cs.length=P.cellsOf t:=by
 obtain ⟨_,_,_,_,hl,_⟩:=DataW.trod_struct ht h;exact hl
theorem Zm9 {H:Type}{enc:TypeId×Value→H}{P:Program}{w:World}{rc:Reach}{b0 base:Nat}{spare:Nat→Bool}{held:Bool}{α:Type}{r:RepT α}{t e:TypeId}{v:Value}{d:DataW H}{ps:List MemPlace}
 (ht:P.underlying t=some (.slice e)) (h0:0<r.size) (hr:Z9l P e r) (hval:Value.okWide P w rc b0 t v) (h:DataW.Trod enc P w base spare held t v d ps) :
 ∃A c,∃l:List α,v = .slice A l.length c∧RowR r (· < w.heap.size) w A c l:=by
 obtain ⟨A,len,cap,rfl⟩:=okWide_slice ht hval;obtain ⟨fuel,hf⟩:=h;(have Ta:(Value.slice A len cap).cells.toList = [.slice A len cap]:=by simp [Value.cells]);rw [Ta] at hf;obtain ⟨A',c',l,h1,h2⟩:=Z3a ht h0 hr.1 (fun n cs x h=>hr.2 H enc w base spare held n cs x h) hf;simp only [List.cons.injEq,and_true] at h1;exact ⟨A',c',l,h1,h2⟩
end
section
open Go.RowKit Go.ChangeShapes Go.WideShapes Go.Deep
theorem RowR.imp {α:Type}{r r':RepT α}{D:Nat→Prop}{w:World}{A:Option Addr}{c:Nat}{l:List α}(h:RowR r D w A c l) (hs:r.size=r'.size) (hi :∀a cs,r.rep D w a cs→r'.rep D w a cs):RowR r' D w A c l:=by
 refine ⟨h.1,h.2.1,fun h0=>?_⟩;obtain ⟨b,off,h1,h2,h3,h4⟩:=h.2.2 h0;refine ⟨b,off,h1,h2,h3,fun k hk=>?_⟩;obtain ⟨cs,h5,h6⟩:=h4 k hk;exact ⟨cs,hi _ _ h5,by rw [←hs];exact h6⟩
theorem Z6v {H:Type}{enc:TypeId×Value→H}{P:Program}{w:World}{base:Nat}{spare:Nat→Bool}{held:Bool}{α:Type}{r:RepT α}{t e:TypeId}{fuel:Nat}{cs:List Value}{x:DataW H×List MemPlace}
 (ht:P.underlying t=some (.slice e)) (h0:0<r.size) (hr:P.cellsOf e=r.size) (hE :∀n,n<fuel→∀cs x,DataW.trod enc P w base spare held n e cs=some x→∃a:α,r.rep (· < w.heap.size) w a cs)
 (hf:DataW.trod enc P w base spare held fuel t cs=some x):∃A c,∃l:List α,cs = [.slice A l.length c]∧RowR r (· < w.heap.size) w A c l:=by
 rcases DataW.trod_slice ht hf with ⟨h1,_⟩|⟨a,len,cap,elems,rest,n,hn,h1,_,_,hl,hm,Vx,hel,_,_⟩
 · exact ⟨none,0,[],h1,RowR.nil _ _ _⟩
 · have hx :∀i,i<len→∃cs',w.cells? base (a.add (i*P.cellsOf e)) (P.cellsOf e)=some cs'∧∃y,DataW.trod enc P w base spare held n e cs'=some y:=fun i hi=>by
    have h2:=hel i hi;rw [Zt3 Ya] at h2;obtain ⟨cs',g1,g2⟩:=Option.bind_eq_some_iff.1 h2;exact ⟨cs',g1,_,g2⟩
   obtain ⟨l,df,hq⟩:=Zfk (α:=α) (Q:=fun i x=>∃cs',r.rep (· < w.heap.size) w x cs'∧∀j u,cs'[j]? = some u→w.cell? ((a.add (i*r.size)).add j)=some u) len (fun i hi=>by
    obtain ⟨cs',c1,y,c2⟩:=hx i Ya;obtain ⟨x,Pq⟩:=hE n Ya cs' _ c2;obtain ⟨_,Vx,R9⟩:=World.cells?_some c1;rw [hr] at R9 Vx
    exact ⟨x,cs',Pq,fun j u hu=>(R9 j (by rw [←Vx];exact (Ztp.1 hu).1)).trans hu⟩)
   subst df;refine ⟨some a,cap,l,h1,hl,hm,fun hpos=>?_⟩;obtain ⟨cs',c1,_⟩:=hx 0 Ya;exact Y9f
theorem Z1o {H:Type}{enc:TypeId×Value→H}{P:Program}{w:World}{base:Nat}{spare:Nat→Bool}{held:Bool}{t:TypeId}{fs:Array Field}{n:Nat}{cs:List Value}{x:DataW H×List MemPlace}
 (ht:P.underlying t=some (.struct fs)) (h:DataW.trod enc P w base spare held n t cs=some x) (i:Nat){f:Field}(hf:fs[i]? = some f) (ty off sz:Nat) (e1:f.type=ty) (e2:f.offset=off) (e3:P.cellsOf ty=sz) :
 ∃y,DataW.trod enc P w base spare held (n - 1) ty ((cs.drop off).take sz)=some y:=by
 obtain ⟨xs,n2,hn,_,_,hlen,hx⟩:=DataW.trod_struct ht h;have h1:=hx i f hf;subst e1;subst e2;subst e3
 have hi:i<xs.length:=by
  have:=(Zt7.1 hf).1;omega
 rw [Zt3 hi] at h1;subst hn;exact ⟨_,h1⟩
theorem Zcs {H:Type}{enc:TypeId×Value→H}{P:Program}{w:World}{base:Nat}{spare:Nat→Bool}{held:Bool}{t:TypeId}{n:Nat}{cs:List Value}{x:DataW H×List MemPlace}(h:DataW.trod enc P w base spare held n t cs=some x):0<n:=by
 cases n with
 | zero=>simp [DataW.trod] at h
 | succ n=>omega
end
section
structure TC {α:Type}(cmp:α→α→Int):Prop where
 refl :∀x,cmp x x=0
 symm :∀x y,cmp x y<0↔0<cmp y x
 trans :∀x y z,cmp x y≤0→cmp y z≤0→cmp x z≤0
section
variable {α:Type}{cmp:α→α→Int}
theorem TC.eq_symm (h:TC cmp){x y:α}(e:cmp x y=0):cmp y x=0:=by
 have a:=h.symm x y;have b:=h.symm y x;omega
theorem TC.lt_of_lt_of_le (h:TC cmp){x y z:α}(a:cmp x y<0) (b:cmp y z≤0):cmp x z<0:=by
 have c:=h.symm x z;have d:=h.symm z x;have e:=h.symm x y;have g:=h.symm y x;by_cases hz:cmp x z<0
 · exact hz
 · have t:=h.trans y z x b Ya
   omega
theorem TC.lt_of_le_of_lt (h:TC cmp){x y z:α}(a:cmp x y≤0) (b:cmp y z<0):cmp x z<0:=by
 have c:=h.symm x z;have d:=h.symm z x;have e:=h.symm y z;have g:=h.symm z y;by_cases hz:cmp x z<0
 · exact hz
 · have t:=h.trans z x y Ya a
   omega
theorem TC.lt_trans (h:TC cmp){x y z:α}(a:cmp x y<0) (b:cmp y z<0):cmp x z<0:=h.lt_of_lt_of_le a Ya
def Srt (cmp:α→α→Int) (l:List α):Prop:=l.Pairwise (fun a b=>cmp a b<0)
def has (cmp:α→α→Int) (l:List α) (x:α):Bool:=l.any (fun y=>cmp y x == 0)
def below (cmp:α→α→Int) (l:List α) (x:α):List α:=l.filter (fun y=>decide (cmp y x<0))
def Z4y (cmp:α→α→Int) (l:List α) (x:α):List α:=l.filter (fun y=>decide (0<cmp y x))
def rank (cmp:α→α→Int) (l:List α) (x:α):Nat:=(below cmp l x).length
def put (cmp:α→α→Int) (l:List α) (x:α):List α:=if has cmp l x then l else below cmp l x++x :: Z4y cmp l x
def drop (cmp:α→α→Int) (l:List α) (x:α):List α:=l.filter (fun y=>!(cmp y x == 0))
def puts (cmp:α→α→Int) (l xs:List α):List α:=xs.foldl (put cmp) l
theorem Z46 {l:List α}{x:α}:has cmp l x=true↔∃y∈l,cmp y x=0:=by simp [has]
theorem Z3w {l:List α}{x:α}:has cmp l x=false↔∀y∈l,cmp y x≠0:=by simp [has]
theorem Z5v {l:List α}{x:α}{k:Nat}(h1 :∀i,(h:i<l.length)→i<k→cmp l[i] x<0) (h2 :∀i,(h:i<l.length)→k≤i→0<cmp l[i] x) :
 below cmp l x=l.take k∧Z4y cmp l x=l.drop k∧has cmp l x=false:=by
 have e1 :∀y∈l.take k,cmp y x<0:=by
  intro y hy;obtain ⟨i,hi,rfl⟩:=List.getElem_of_mem hy;rw [List.getElem_take];simp at hi;exact h1 i Ya Ya
 have e2 :∀y∈l.drop k,0<cmp y x:=by
  intro y hy;obtain ⟨i,hi,rfl⟩:=List.getElem_of_mem hy;rw [List.getElem_drop];simp at hi;exact h2 (k+i) Ya Ya
 refine ⟨?_,?_,?_⟩
 · unfold below
   conv=>lhs;rw [←List.take_append_drop k l]
   rw [List.filter_append,List.filter_eq_self.2 (fun y hy=>by simpa using e1 y hy),List.filter_eq_nil_iff.2 (fun y hy=>by have:=e2 y hy;simp;omega),Zu9]
 · unfold Z4y
   conv=>lhs;rw [←List.take_append_drop k l]
   rw [List.filter_append,(List.filter_eq_self (l:=l.drop k)).2 (fun y hy=>by simpa using e2 y hy),List.filter_eq_nil_iff.2 (fun y hy=>by have:=e1 y hy;simp;omega),Ztk]
 · rw [Z3w]
   intro y hy;rw [←List.take_append_drop k l] at hy;rcases Ztu.1 hy with hy|hy
   · have:=e1 y hy;omega
   · have:=e2 y hy;omega
theorem Srt.lt {l:List α}(h:Srt cmp l){i j:Nat}(hij:i<j) (hj:j<l.length):cmp (l[i]' Ya) l[j]<0:=
 List.pairwise_iff_getElem.1 h i j Ya hj hij
theorem Z5j (t:TC cmp){l:List α}(hs:Srt cmp l){x:α}{k:Nat}(hk:k<l.length) (e:cmp l[k] x=0) :
 below cmp l x=l.take k∧Z4y cmp l x=l.drop (k+1)∧has cmp l x=true∧drop cmp l x=l.take k++l.drop (k+1):=by
 have e1 :∀y∈l.take k,cmp y x<0:=by
  intro y hy;obtain ⟨i,hi,rfl⟩:=List.getElem_of_mem hy;rw [List.getElem_take];simp at hi;exact t.lt_of_lt_of_le (hs.lt Ya hk) Ya
 have e2 :∀y∈l.drop (k+1),0<cmp y x:=by
  intro y hy;obtain ⟨i,hi,rfl⟩:=List.getElem_of_mem hy;rw [List.getElem_drop];simp at hi;have h1:cmp x (l[k+1+i]' Ya)<0:=t.lt_of_le_of_lt (y:=l[k]) (by have:=t.eq_symm e;omega) (hs.lt Ya Ya);exact (t.symm _ _).1 h1
 have hl:l=l.take k++l[k] :: l.drop (k+1):=by
  rw [List.getElem_cons_drop,List.take_append_drop]
 refine ⟨?_,?_,?_,?_⟩
 · unfold below
   conv=>lhs;rw [hl]
   rw [List.filter_append,List.filter_cons,List.filter_eq_self.2 (fun y hy=>by simpa using e1 y hy),List.filter_eq_nil_iff.2 (fun y hy=>by have:=e2 y hy;simp;omega)];simp [e]
 · unfold Z4y
   conv=>lhs;rw [hl]
   rw [List.filter_append,List.filter_cons,List.filter_eq_nil_iff.2 (fun y hy=>by have:=e1 y hy;simp;omega),(List.filter_eq_self (l:=l.drop (k+1))).2 (fun y hy=>by simpa using e2 y hy)];simp [e]
 · rw [Z46];exact ⟨_,Ztf hk,e⟩
 · unfold drop
   conv=>lhs;rw [hl]
   rw [List.filter_append,List.filter_cons,List.filter_eq_self.2 (fun y hy=>by have:=e1 y hy;simp;omega),(List.filter_eq_self (l:=l.drop (k+1))).2 (fun y hy=>by have:=e2 y hy;simp;omega)];simp [e]
theorem Z4h {l:List α}{x:α}{k:Nat}(hk:k≤l.length) (h1 :∀i,(h:i<l.length)→i<k→cmp l[i] x<0) (h2 :∀i,(h:i<l.length)→k≤i→0<cmp l[i] x):rank cmp l x=k:=by
 unfold rank;rw [(Z5v h1 h2).1];simp;omega
theorem Z4i (t:TC cmp){l:List α}(hs:Srt cmp l){x:α}{k:Nat}(hk:k<l.length) (e:cmp l[k] x=0):rank cmp l x=k:=by
 unfold rank;rw [(Z5j t hs hk e).1];simp;omega
theorem Zrg (t:TC cmp){l:List α}(hs:Srt cmp l) (x:α) :
 (has cmp l x=false∧l=below cmp l x++Z4y cmp l x)∨(∃y,has cmp l x=true∧cmp y x=0∧l=below cmp l x++y :: Z4y cmp l x):=by
 induction l with
 | nil=>exact .inl ⟨rfl,rfl⟩
 | cons a r ih=>
   have hr:Srt cmp r:=(List.pairwise_cons.1 hs).2;have ha :∀y∈r,cmp a y<0:=(List.pairwise_cons.1 hs).1;by_cases h1:cmp a x<0
   · rcases ih hr with ⟨h2,h3⟩|⟨y,h2,h3,h4⟩
     · left
       refine ⟨?_,?_⟩
       · simp only [has,List.any_cons,Bool.or_eq_false_iff];exact ⟨Yk,h2⟩
       · refine Yaf ?_;intro e1 e2;rw [e1,e2,Ztv,←h3]
     · right
       refine ⟨y,?_,h3,?_⟩
       · simp only [has,List.any_cons,Zui];exact .inr h2
       · refine Yaf ?_;intro e1 e2;rw [e1,e2,Ztv,←h4]
   · have Lt :∀y∈r,0<cmp y x:=fun y hy=>(t.symm x y).1 (t.lt_of_le_of_lt (y:=a) (by have:=t.symm a x;have:=t.symm x a;omega) (ha y hy))
     have b0:below cmp r x = []:=List.filter_eq_nil_iff.2 (fun y hy=>by have:=Lt y hy;simp;omega);have a0:Z4y cmp r x=r:=List.filter_eq_self.2 (fun y hy=>by simpa using Lt y hy);have n0:has cmp r x=false:=Z3w.2 (fun y hy=>by have:=Lt y hy;omega);(have e1:below cmp (a :: r) x = []:=by unfold below;rw [List.filter_cons,if_neg (by simpa using h1)];exact b0);by_cases h2:cmp a x=0
     · right
       refine ⟨a,Z46.2 ⟨a,Ye,h2⟩,h2,?_⟩;(have e2:Z4y cmp (a :: r) x=r:=by unfold Z4y;rw [List.filter_cons,if_neg Yk];exact a0);rw [e1,e2];rfl
     · left
       refine ⟨?_,?_⟩
       · simp only [has,List.any_cons,Bool.or_eq_false_iff];exact ⟨YT7,n0⟩
       · have e2:Z4y cmp (a :: r) x=a :: r:=by unfold Z4y;rw [List.filter_cons,if_pos Yk];exact congrArg _ a0
         rw [e1,e2];rfl
theorem Z6r {l:List α}{x y:α}:y∈below cmp l x↔y∈l∧cmp y x<0:=by simp [below]
theorem Z6q {l:List α}{x y:α}:y∈Z4y cmp l x↔y∈l∧0<cmp y x:=by simp [Z4y]
theorem Zc0 {l:List α}{x y:α}:y∈drop cmp l x↔y∈l∧cmp y x≠0:=by simp [drop]
theorem Srt.put (t:TC cmp){l:List α}(hs:Srt cmp l) (x:α):Srt cmp (put cmp l x):=by
 unfold YtcnnofgaifcgaaaGreat.put
 split
 · exact hs
 · refine List.pairwise_append.2 ⟨hs.sublist List.filter_sublist,List.pairwise_cons.2 ⟨fun y hy=>?_,hs.sublist List.filter_sublist⟩,fun y hy z hz=>?_⟩
   · exact (t.symm x y).2 (Z6q.1 hy).2
   · rcases Ztb.1 hz with rfl|hz
     · exact (Z6r.1 hy).2
     · exact t.lt_trans (Z6r.1 hy).2 ((t.symm x z).2 (Z6q.1 hz).2)
theorem Srt.drop {l:List α}(hs:Srt cmp l) (x:α):Srt cmp (drop cmp l x):=hs.sublist List.filter_sublist
theorem Srt.nil:Srt cmp ([]:List α):=List.Pairwise.nil
theorem Srt.puts (t:TC cmp):∀(xs:List α){l:List α},Srt cmp l→Srt cmp (puts cmp l xs)
 | [],_,h=>h
 | x :: xs,_,h=>Srt.puts t xs (h.put t x)
theorem Z2u (l xs:List α) (x:α):puts cmp l (xs ++ [x])=put cmp (puts cmp l xs) x:=by simp [puts]
theorem Z80 {l:List α}{x:α}(t:TC cmp) (hs:Srt cmp l) (h:has cmp l x=false):(below cmp l x).length+(Z4y cmp l x).length=l.length:=by
 rcases Zrg t hs x with ⟨_,e⟩|⟨y,h',_⟩
 · conv=>rhs;rw [e]
   simp
 · rw [h] at h';cases h'
theorem Z4s (t:TC cmp){l:List α}(hs:Srt cmp l) (x:α):(put cmp l x).length≤l.length+1:=by
 unfold YtcnnofgaifcgaaaGreat.put;by_cases h:has cmp l x=true
 · rw [if_pos h];omega
 · rw [if_neg h]
   have:=Z80 t hs (x:=x) YIz;simp;omega
theorem Z1e (t:TC cmp):∀(xs:List α){l:List α},Srt cmp l→(puts cmp l xs).length≤l.length+xs.length
 | [],_,_=>by simp [puts]
 | x :: xs,l,h=>by
   have h1:=Z1e t xs (h.put t x);have h2:=Z4s t h x;have e:puts cmp l (x :: xs)=puts cmp (put cmp l x) xs:=rfl;rw [e];simp;omega
theorem Zam (l:List α) (x:α):(drop cmp l x).length≤l.length:=List.length_filter_le _ _
theorem Z62 (l:List α) (x:α):rank cmp l x≤l.length:=List.length_filter_le _ _
theorem Zgq {l B A:List α}(e:l=B++A):l.take B.length=B:=by subst e;simp
theorem Zfg {l B A:List α}(e:l=B++A):l.drop B.length=A:=by subst e;simp
theorem Zb3 {l B A:List α}{y:α}(e:l=B++y :: A):l[B.length]? = some y:=by subst e;simp
theorem Z6b (t:TC cmp){l:List α}(hs:Srt cmp l){x:α}(h:has cmp l x=false):put cmp l x=l.take (rank cmp l x)++x :: l.drop (rank cmp l x):=by
 rcases Zrg t hs x with ⟨_,e⟩|⟨y,h',_⟩
 · have e1:l.take (rank cmp l x)=below cmp l x:=Zgq e
   have e2:l.drop (rank cmp l x)=Z4y cmp l x:=Zfg e;rw [e1,e2];unfold YtcnnofgaifcgaaaGreat.put;rw [if_neg (by rw [h];simp)]
 · rw [h] at h';cases h'
theorem Z47 {l:List α}{x:α}(h:has cmp l x=true):put cmp l x=l:=by unfold YtcnnofgaifcgaaaGreat.put;rw [if_pos h]
theorem Z2y (t:TC cmp){l:List α}(hs:Srt cmp l){x:α}(h:has cmp l x=false):(put cmp l x).length=l.length+1:=by
 rw [Z6b t hs h];have:=Z62 (cmp:=cmp) l x;simp;omega
theorem Z9s (t:TC cmp){l:List α}(hs:Srt cmp l){x:α}(h:has cmp l x=true):rank cmp l x<l.length∧drop cmp l x=l.take (rank cmp l x)++l.drop (rank cmp l x+1)∧∃hk:rank cmp l x<l.length,cmp l[rank cmp l x] x=0:=by
 rcases Zrg t hs x with ⟨h',_⟩|⟨y,_,ey,e⟩
 · rw [h] at h';cases h'
 · have hk:rank cmp l x<l.length:=by
    have h2:l[rank cmp l x]? = some y:=Zb3 e;exact (Ztp.1 h2).1
   have hy:l[rank cmp l x]=y:=by
    have h1:l[rank cmp l x]? = some y:=Zb3 e;rw [Zt3 hk] at h1;exact Zud h1
   (have e0:cmp l[rank cmp l x] x=0:=by rw [hy];exact ey);exact ⟨hk,(Z5j t hs hk e0).2.2.2,hk,e0⟩
def Z0k (l:List α) (x:α) (i:Nat):List α:=l.take i++(l ++ [x]).getD i x :: l.drop i
theorem Z0b (l:List α) (x:α){i:Nat}(h:i≤l.length):(Z0k l x i).length=l.length+1:=by simp [Z0k];omega
theorem Z2f (l:List α) (x:α):Z0k l x l.length=l ++ [x]:=by simp [Z0k]
theorem Z2n (l:List α) (x:α){j:Nat}(h:j<l.length) (h':j<(Z0k l x (j+1)).length):(Z0k l x (j+1))[j]=l[j]:=by
 apply Zud;rw [←Zt3];unfold Z0k;rw [Zto Yk];simp [h]
theorem Z2o (l:List α) (x:α){j:Nat}(h:j<l.length):(Z0k l x (j+1)).set (j+1) l[j]=Z0k l x j:=by
 unfold Z0k;rw [List.set_append_right _ _ Yk];have e:(j+1 - (l.take (j+1)).length)=0:=Yk;rw [e,List.set_cons_zero,List.take_succ_eq_append_getElem h,Zu8];(have e2:(l ++ [x]).getD j x=l[j]:=by rw [List.getD_eq_getElem?_getD,Zto h,Zt3 h];rfl);rw [e2,←List.getElem_cons_drop h];rfl
theorem Z3b (l:List α) (x:α){k:Nat}(h:k≤l.length):(Z0k l x k).set k x=l.take k++x :: l.drop k:=by
 unfold Z0k;rw [List.set_append_right _ _ Yk];have e:(k - (l.take k).length)=0:=Yk;rw [e,List.set_cons_zero]
def Z42 (l:List α) (k i:Nat):List α:=l.take k++(l.drop (k+1)).take (i - k)++l.drop i
theorem Z3v (l:List α){k i:Nat}(h:k≤i) (h':i<l.length):(Z42 l k i).length=l.length:=by simp [Z42];omega
theorem Zd9 (l:List α) (k:Nat):Z42 l k k=l:=by simp [Z42]
theorem Zfd (l:List α){k i:Nat}(h:k≤i) (h':i+1<l.length) (h2:i+1<(Z42 l k i).length):(Z42 l k i)[i+1]=l[i+1]:=by
 apply Zud;rw [←Zt3,←Zt3];unfold Z42;rw [Ztn Yk,List.getElem?_drop];congr 1;simp;omega
theorem Zfe (l:List α){k i:Nat}(h:k≤i) (h':i+1<l.length):(Z42 l k i).set i l[i+1]=Z42 l k (i+1):=by
 apply List.ext_getElem?;intro j;have len:(Z42 l k i).length=l.length:=Z3v l h Ya;by_cases e:j=i
 · subst e
   rw [List.getElem?_set_self Ya];unfold Z42;rw [Zto Yk,Ztn Yk,List.getElem?_take,List.getElem?_drop];rw [if_pos Yk];(have:k+1+(j - (l.take k).length)=j+1:=Yk);rw [this,Zt3 h']
 · rw [List.getElem?_set_ne (fun h=>e h.symm)]
   unfold Z42;by_cases h1:j<k
   · rw [Zu8,Zu8,Zto Yk,Zto Yk]
   · by_cases h2:j<i
     · rw [Zto Yk,Ztn Yk,Zto Yk,Ztn Yk]
       rw [List.getElem?_take,List.getElem?_take,if_pos Yk,if_pos Yk]
     · rw [Ztn Yk,Ztn Yk,List.getElem?_drop,List.getElem?_drop]
       congr 1;simp;omega
theorem Zij (l:List α){k:Nat}(h:k<l.length):(Z42 l k (l.length - 1)).take (l.length - 1)=l.take k++l.drop (k+1):=by
 unfold Z42;have e:(l.take k++(l.drop (k+1)).take (l.length - 1 - k)).length=l.length - 1:=Yk;have e2:(l.drop (k+1)).take (l.length - 1 - k)=l.drop (k+1):=List.take_of_length_le Yk;rw [List.take_append_of_le_length Ya,List.take_of_length_le Ya,e2]
end
def Z1b (a b:Int):Int:=if a<b then -1 else if b<a then 1 else 0
theorem Z3c:TC Z1b:=by
 constructor
 · intro x;simp [Z1b]
 · intro x y;simp only [Z1b];split<;>split<;>simp<;>(try split)<;>omega
 · intro x y z;simp only [Z1b];intro h1 h2;split at h1<;>split at h2<;>(try split at h1)<;>(try split at h2)<;>split<;>(try split)<;>omega
theorem Z3u {a b:Int}:Z1b a b=0↔a=b:=by simp only [Z1b];split<;>(try split)<;>omega
theorem Z20 :∀x:List UInt8,Op.bytesLess x x=false
 | []=>rfl
 | a :: x=>by simp [Op.bytesLess,Z20 x]
theorem Z51 :∀{x y z:List UInt8},Op.bytesLess x y=true→Op.bytesLess y z=true→Op.bytesLess x z=true
 | _,[],_,h,_=>YLw
 | _,_ :: _,[],_,h=>YLw
 | [],_ :: _,_ :: _,_,_=>by simp [Op.bytesLess]
 | a :: x,b :: y,c :: z,h1,h2=>by
   simp only [Op.bytesLess,Zui,Ztr,Zuf,beq_iff_eq] at h1 h2 ⊢;rcases h1 with h1|⟨rfl,h1⟩
   · rcases h2 with h2|⟨rfl,h2⟩
     · exact .inl (UInt8.lt_trans h1 h2)
     · exact .inl h1
   · rcases h2 with h2|⟨rfl,h2⟩
     · exact .inl h2
     · exact .inr ⟨rfl,Z51 h1 h2⟩
theorem Z6k :∀(x y:List UInt8),Op.bytesLess x y=false→Op.bytesLess y x=false→x=y
 | [],[],_,_=>rfl
 | [],_ :: _,h,_=>YLw
 | _ :: _,[],_,h=>YLw
 | a :: x,b :: y,h1,h2=>by
   simp only [Op.bytesLess,Bool.or_eq_false_iff,decide_eq_false_iff_not,Bool.and_eq_false_iff,beq_eq_false_iff_ne] at h1 h2;obtain ⟨h1,h3⟩:=h1;obtain ⟨h2,h4⟩:=h2
   have e:a=b:=by
    apply UInt8.toNat_inj.1;simp only [UInt8.lt_iff_toNat_lt] at h1 h2;omega
   subst e;rw [Z6k x y (h3.resolve_left (fun h=>h rfl)) (h4.resolve_left (fun h=>h rfl))]
theorem Z9p {x y:List UInt8}(h:Op.bytesLess x y=true):Op.bytesLess y x=false:=by
 cases e:Op.bytesLess y x
 · rfl
 · have:=Z51 h e;rw [Z20] at this;cases this
def Z2s (a b:ByteArray):Int:=if Op.bytesLess a.toList b.toList=true then -1 else if a.toList=b.toList then 0 else 1
theorem Zn5:TC Z2s:=by
 have key :∀a b:ByteArray,(Z2s a b = -1∧Op.bytesLess a.toList b.toList=true∧Op.bytesLess b.toList a.toList=false∧a.toList≠b.toList)∨
  (Z2s a b=0∧Op.bytesLess a.toList b.toList=false∧Op.bytesLess b.toList a.toList=false∧a.toList=b.toList)∨
  (Z2s a b=1∧Op.bytesLess a.toList b.toList=false∧Op.bytesLess b.toList a.toList=true∧a.toList≠b.toList):=by
  intro a b;unfold Z2s;cases h1:Op.bytesLess a.toList b.toList
  · cases h2:Op.bytesLess b.toList a.toList
    · have e:=Z6k _ _ h1 h2
      simp [e]
    · have Xf:a.toList≠b.toList:=fun e=>by rw [e,Z20] at h2;cases h2
      simp [Xf]
  · have h2:=Z9p h1
    (have Xf:a.toList≠b.toList:=fun e=>by rw [e,Z20] at h1;cases h1);simp [h2,Xf]
 constructor
 · intro x;simp [Z2s,Z20]
 · intro x y
   rcases key x y with ⟨e,a,b,c⟩|⟨e,a,b,c⟩|⟨e,a,b,c⟩<;>rcases key y x with ⟨e',a',b',c'⟩|⟨e',a',b',c'⟩|⟨e',a',b',c'⟩<;>rw [e,e']<;>simp_all
 · intro x y z h1 h2
   rcases key x y with ⟨e,a,b,c⟩|⟨e,a,b,c⟩|⟨e,a,b,c⟩<;>rcases key y z with ⟨e',a',b',c'⟩|⟨e',a',b',c'⟩|⟨e',a',b',c'⟩<;>rw [e] at h1<;>rw [e'] at h2<;>(try omega)
   · have:=Z51 a a';unfold Z2s;rw [if_pos this];omega
   · rw [c'] at a;unfold Z2s;rw [if_pos a];omega
   · rw [←c] at a';unfold Z2s;rw [if_pos a'];omega
   · unfold Z2s;rw [c,c',if_neg (by rw [Z20];simp),if_pos rfl];omega
theorem toList_inj {a b:ByteArray}(h:a.toList=b.toList):a=b:=by
 have e :∀x:ByteArray,x.toList=x.data.toList:=Lib.toList_data;rw [e,e] at h;cases a;cases b;simp only [ByteArray.mk.injEq];exact Array.toList_inj.1 h
theorem Zku {a b:ByteArray}:Z2s a b=0↔a=b:=by
 constructor
 · intro h
   unfold Z2s at h
   split at h
   · omega
   · split at h
     · exact toList_inj ‹_›
     · omega
 · rintro rfl;simp [Z2s,Z20]
def andThen (a b:Int):Int:=if a=0 then b else a
theorem Z3o {α β γ:Type}{f:α→β}{g:α→γ}{c1:β→β→Int}{c2:γ→γ→Int}(h1:TC c1) (h2:TC c2):TC (fun x y=>andThen (c1 (f x) (f y)) (c2 (g x) (g y))):=by
 constructor
 · intro x;simp [andThen,h1.refl,h2.refl]
 · intro x y
   have a:=h1.symm (f x) (f y);have b:=h1.symm (f y) (f x);have c:=h2.symm (g x) (g y);simp only [andThen]
   split<;>split<;>omega
 · intro x y z e1 e2
   simp only [andThen] at e1 e2 ⊢;by_cases p:c1 (f x) (f y)=0
   · rw [if_pos p] at e1
     by_cases q:c1 (f y) (f z)=0
     · rw [if_pos q] at e2
       have r:c1 (f x) (f z)=0:=by
        have r1:=h1.trans (f x) (f y) (f z) Ya Ya;have r2:=h1.trans (f z) (f y) (f x) (by have:=h1.eq_symm q;omega) (by have:=h1.eq_symm p;omega);have a:=h1.symm (f x) (f z);have b:=h1.symm (f z) (f x);omega
       rw [if_pos r];exact h2.trans _ _ _ e1 e2
     · rw [if_neg q] at e2
       have:=h1.lt_of_le_of_lt (x:=f x) (y:=f y) (z:=f z) Ya Ya;rw [if_neg Ya];omega
   · rw [if_neg p] at e1
     have hq:c1 (f y) (f z)≤0:=by
      by_cases q:c1 (f y) (f z)=0
      · omega
      · rw [if_neg q] at e2;exact e2
     have:=h1.lt_of_lt_of_le (x:=f x) (y:=f y) (z:=f z) Ya hq;rw [if_neg Ya];omega
structure Sym where
 kind:Int
 text:ByteArray
 n:Int
theorem Sym.ext' {a b:Sym}(h1:a.kind=b.kind) (h2:a.text=b.text) (h3:a.n=b.n):a=b:=YM5
instance:DecidableEq Sym:=fun a b=>decidable_of_iff (a.kind=b.kind∧a.text=b.text∧a.n=b.n) ⟨fun ⟨h1,h2,h3⟩=>Sym.ext' h1 h2 h3,fun h=>by subst h;exact ⟨rfl,rfl,rfl⟩⟩
instance:Inhabited Sym:=⟨⟨0,⟨#[]⟩,0⟩⟩
def Z0o (a b:Sym):Int:=andThen (Z1b a.kind b.kind) (andThen (Z2s a.text b.text) (Z1b a.n b.n))
theorem Z40:TC Z0o:=Z3o (f:=Sym.kind) (g:=fun s:Sym=>(s.text,s.n)) (c2:=fun x y=>andThen (Z2s x.1 y.1) (Z1b x.2 y.2)) Z3c
 (Z3o (f:=fun x:ByteArray×Int=>x.1) (g:=fun x:ByteArray×Int=>x.2) Zn5 Z3c)
theorem Z7t {a b:Sym}:Z0o a b=0↔a=b:=by
 constructor
 · intro h
   simp only [Z0o,andThen] at h
   split at h
   · split at h
     · exact Sym.ext' (Z3u.1 ‹_›) (Zku.1 ‹_›) (Z3u.1 h)
     · exact absurd h ‹_›
   · exact absurd h ‹_›
 · rintro rfl;exact Z40.refl _
abbrev Q1c (x:Sym)  : List Value:=[.int .i64 x.kind,.string x.text,.int .i64 x.n]
abbrev Q1d (x:Sym)  : Array Value:=#[.int .i64 x.kind,.string x.text,.int .i64 x.n]
end
section
open Go.RowKit
def Sym.cells (s:Sym):List Value:=(Q1c s)
theorem Sym.cells_length (s:Sym):s.cells.length=3:=rfl
theorem Zl7 (a:Int) (w:World):Calls Tryz.prog 187 #[.int .i64 a] w fun e w'=>e = .returned (.bool false)∧w=w':=by
 go_enter Tryz.func187,Tryz.ntmps187;go_wp2;go_ret;exact ⟨Ye,rfl⟩
theorem Zl8 (a:ByteArray) (w:World):Calls Tryz.prog 188 #[.string a] w fun e w'=>e = .returned (.bool false)∧w=w':=by
 go_enter Tryz.func188,Tryz.ntmps188;go_wp2;go_ret;exact ⟨Ye,rfl⟩
theorem Zf7 (a b:Int) (w:World):Calls Tryz.prog 153 #[.int .i64 a,.int .i64 b] w fun e w'=>e = .returned (.int .i64 (Z1b a b))∧w=w':=by
 go_enter Tryz.func153,Tryz.ntmps153;go_wp2_with (go_at_call 187;refine (Zl7 _ _).mono ?_;rintro e w' ⟨rfl,rfl⟩)
 all_goals (go_ret;refine ⟨?_,rfl⟩;unfold Z1b;(repeat' split)<;>first|rfl|(exfalso;omega))
theorem Zf8 (a b:ByteArray) (w:World):Calls Tryz.prog 154 #[.string a,.string b] w fun e w'=>e = .returned (.int .i64 (Z2s a b))∧w=w':=by
 go_enter Tryz.func154,Tryz.ntmps154;go_wp2_with (go_at_call 188;refine (Zl8 _ _).mono ?_;rintro e w' ⟨rfl,rfl⟩)
 all_goals (go_ret;refine ⟨?_,rfl⟩;unfold Z2s;(repeat' split)<;>first|rfl|(exfalso;simp_all))
theorem Zbr (a b:Sym) (w:World) :
 Calls Tryz.prog 126 #[.agg (Q1d a),.agg (Q1d b)] w fun e w'=>e = .returned (.int .i64 (Z0o a b))∧Below w.heap.size w w':=by
 obtain ⟨ak,at_,an⟩:=a;obtain ⟨bk,bt,bn⟩:=b;by_cases h1:Z1b ak bk=0
 · have n1:(Z1b ak bk != 0)=false:=by simp [h1]
   by_cases h2:Z2s at_ bt=0
   · have n2:(Z2s at_ bt != 0)=false:=by simp [h2]
     (have HF:Hq (Z0o ⟨ak,at_,an⟩ ⟨bk,bt,bn⟩=Z1b an bn):=by simp [Hq,Z0o,andThen,h1,h2]);clear h1 h2;exact Yy8
   · have n2:(Z2s at_ bt != 0)=true:=by simp [h2]
     (have HF:Hq (Z0o ⟨ak,at_,an⟩ ⟨bk,bt,bn⟩=Z2s at_ bt):=by simp [Hq,Z0o,andThen,h1,h2]);clear h1 h2;exact Yy8
 · have n1:(Z1b ak bk != 0)=true:=by simp [h1]
   (have HF:Hq (Z0o ⟨ak,at_,an⟩ ⟨bk,bt,bn⟩=Z1b ak bk):=by simp [Hq,Z0o,andThen,h1]);clear h1;exact Yy8
end
section
open Go.RowKit Go.ChangeShapes Go.WideShapes Go.Deep
theorem Zmp:Zrz Tryz.prog 41 3 Sym.cells:=
 ⟨Yb,fun H enc w base spare held n cs x h=>by
  obtain ⟨y0,y1,y2,n',_,hl,h0,h1,h2⟩:=trod_struct3 Tryz.underlying41 h;have wm:cs.length=3:=hl.trans Yb;have c3:Tryz.prog.cellsOf 3=1:=Yb;have c9:Tryz.prog.cellsOf 9=1:=Yb;simp only [c3,c9] at h0 h1 h2
  match cs,wm with
  | [v0,v1,v2],_=>
    simp at h0 h1 h2;obtain ⟨a,e0,_⟩:=DataW.trod_int Tryz.underlying3 h0;obtain ⟨b,e1,_⟩:=DataW.trod_string Tryz.underlying9 h1;obtain ⟨c,e2,_⟩:=DataW.trod_int Tryz.underlying3 h2;simp at e0 e1 e2;subst e0;subst e1;subst e2
    exact ⟨⟨a,b,c⟩,rfl⟩⟩
end
end Go.Proofs.YtcnnofgaifcgaaaGreat
