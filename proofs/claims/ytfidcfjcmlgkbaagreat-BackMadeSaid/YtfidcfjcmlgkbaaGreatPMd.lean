/-
  Texts put together: Rep, Rec, RowSym, Types, NamesP, SymWord, EagerT.
-/
import Derived.Test.YtfidcfjcmlgkbaaGreatPMc
namespace Go.Proofs.YtfidcfjcmlgkbaaGreat
open Lib (hid)
set_option maxRecDepth 100000
set_option maxHeartbeats 32000000
set_option linter.unusedSimpArgs false
section
open Go.RowKit Go.ChangeShapes Go.WideShapes Go.Deep
structure RepT (α:Type) where
 size:Nat
 rep:(Nat→Prop)→World→α→List Value→Prop
 len :∀{D:Nat→Prop}{w:World}{a:α}{cs:List Value},rep D w a cs→cs.length=size
 keep :∀{D D':Nat→Prop}{w w':World}{a:α}{cs:List Value},w.heap.size≤w'.heap.size→(∀k,D k→k<w.heap.size→D' k∧w'.heap[k]? = w.heap[k]?)→rep D w a cs→rep D' w' a cs
def RowR {α:Type}(r:RepT α) (D:Nat→Prop) (w:World) (A:Option Addr) (c:Nat) (l:List α):Prop:=
 l.length≤c∧c≤maxLen∧
  (0<l.length→∃b off,A=some ⟨b,off,none⟩∧D b∧b<w.heap.size∧∀k,(h:k<l.length)→∃cs,r.rep D w l[k] cs∧∀j u,cs[j]? = some u→w.cell? ⟨b,off+k*r.size+j,none⟩=some u)
section
variable {α:Type}{r:RepT α}{D D':Nat→Prop}{w w':World}{A:Option Addr}{c:Nat}{l:List α}
theorem RowR.keep (h:RowR r D w A c l) (hs:w.heap.size≤w'.heap.size) (hk :∀k,D k→k<w.heap.size→D' k∧w'.heap[k]? = w.heap[k]?):RowR r D' w' A c l:=by
 refine ⟨h.1,h.2.1,fun h0=>?_⟩;obtain ⟨b,off,h1,h2,h3,h4⟩:=h.2.2 h0;refine ⟨b,off,h1,(hk b h2 h3).1,by omega,fun k hk'=>?_⟩;obtain ⟨cs,h5,h6⟩:=h4 k hk';exact ⟨cs,r.keep hs hk h5,fun j u hu=>(World.cell?_of_block (hk b h2 h3).2).trans (h6 j u hu)⟩
theorem RowR.nil (r:RepT α) (D:Nat→Prop) (w:World):RowR r D w none 0 []:=⟨Znl _,Nat.zero_le _,fun h=>absurd h (by simp)⟩
theorem RowR.cap (h:RowR r D w A c l):(l.length:Int)≤9223372036854775807:=by have:=h.1;have:=h.2.1;unfold maxLen at this;omega
theorem RowR.at_ (h:RowR r D w A c l){k:Nat}(hk:k<l.length):∃b off cs,A=some ⟨b,off,none⟩∧D b∧b<w.heap.size∧r.rep D w l[k] cs∧∀j u,cs[j]? = some u→w.cell? ⟨b,off+k*r.size+j,none⟩=some u:=by
 obtain ⟨b,off,h1,h2,h3,h4⟩:=h.2.2 (by omega);obtain ⟨cs,h5,h6⟩:=h4 k hk;exact ⟨b,off,cs,h1,h2,h3,h5,h6⟩
theorem RowR.weaken (h:RowR r D w A c l) (hD :∀k,D k→D' k):RowR r D' w A c l:=h.keep (Znl _) (fun k hk _=>⟨hD k hk,rfl⟩)
theorem RowR.new_ (h:RowR r D w A c l) (hb:Below w.heap.size w w'):RowR r D w' A c l:=h.keep hb.size (fun k hk hl=>⟨hk,hb.block k hl⟩)
theorem RowR.fr {M:Nat→Prop}(h:RowR r D w A c l) (hb:Fr M w w') (hm :∀k,D k→¬M k):RowR r D w' A c l:=h.keep hb.size (fun k hk hl=>⟨hk,hb.block k hl (hm k hk)⟩)
theorem RowR.prefix_ (h:RowR r D w A c l) (n:Nat):RowR r D w A c (l.take n):=by
 refine ⟨by simp;have:=h.1;omega,h.2.1,fun h0=>?_⟩;obtain ⟨b,off,h1,h2,h3,h4⟩:=h.2.2 (by simp at h0;omega);exact ⟨b,off,h1,h2,h3,fun k hk=>by rw [List.getElem_take];exact h4 k (by simp at hk;omega)⟩
end
def RepT.flat {α:Type}(size:Nat) (cells:α→List Value) (h :∀a,(cells a).length=size):RepT α:=
 ⟨size,fun _ _ a cs=>cs=cells a,by rintro _ _ _ _ rfl;exact h _,by rintro _ _ _ _ _ _ _ _ h;exact h⟩
theorem RowR.rd {α:Type}{size:Nat}{cells:α→List Value}{hs :∀a,(cells a).length=size}{D:Nat→Prop}{w:World}{A:Option Addr}{c:Nat}{l:List α}(h:RowR (RepT.flat size cells hs) D w A c l):Z0z w size cells A c l:=by
 refine ⟨h.1,h.2.1,fun h0=>?_⟩;obtain ⟨b,off,h1,h2,h3,h4⟩:=h.2.2 h0;refine ⟨b,off,h1,h3,fun k hk j u hu=>?_⟩;obtain ⟨cs,h5,h6⟩:=h4 k hk;have h5':cs=cells l[k]:=h5;exact h6 j u (by rw [h5'];exact hu)
theorem RowR.of_rd {α:Type}{size:Nat}{cells:α→List Value}{hs :∀a,(cells a).length=size}{D:Nat→Prop}{w:World}{A:Option Addr}{c:Nat}{l:List α}(h:Z0z w size cells A c l) (hA:AIn A D):RowR (RepT.flat size cells hs) D w A c l:=by
 refine ⟨h.1,h.2.1,fun h0=>?_⟩;obtain ⟨b,off,h1,h2,h3⟩:=h.2.2 h0;exact ⟨b,off,h1,hA _ h1,h2,fun k hk=>⟨_,rfl,h3 k hk⟩⟩
def RepT.list {α:Type}(r:RepT α):RepT (List α):=
 ⟨1,fun D w l cs=>∃A c,cs = [.slice A l.length c]∧RowR r D w A c l,by rintro _ _ _ _ ⟨_,_,rfl,_⟩;rfl,by
  rintro _ _ _ _ _ _ hs hk ⟨A,c,h1,h2⟩;exact ⟨A,c,h1,h2.keep hs hk⟩⟩
def Z8i {α:Type}(P:Program) (t:TypeId) (r:RepT α):Prop:=
 P.cellsOf t=r.size∧∀(H:Type) (enc:TypeId×Value→H) (w:World) (base:Nat) (spare:Nat→Bool) (held:Bool) (n:Nat) (cs:List Value) (x:DataW H×List MemPlace),
  DataW.trod enc P w base spare held n t cs=some x→∃a:α,r.rep (· < w.heap.size) w a cs
theorem Z9s {α:Type}{P:Program}{t:TypeId}{size:Nat}{cells:α→List Value}(hs :∀a,(cells a).length=size) (h:Zmy P t size cells):Z8i P t (RepT.flat size cells hs):=
 ⟨h.1,fun H enc w base spare held n cs x hx=>h.2 H enc w base spare held n cs x hx⟩
theorem Z4o {H:Type}{enc:TypeId×Value→H}{P:Program}{w:World}{base:Nat}{spare:Nat→Bool}{held:Bool}{α:Type}{r:RepT α}{t e:TypeId}{fuel:Nat}{cs:List Value}{x:DataW H×List MemPlace}
 (ht:P.underlying t=some (.slice e)) (h0:0<r.size) (hr:P.cellsOf e=r.size) (hE :∀n cs x,DataW.trod enc P w base spare held n e cs=some x→∃a:α,r.rep (· < w.heap.size) w a cs)
 (hf:DataW.trod enc P w base spare held fuel t cs=some x):∃A c,∃l:List α,cs = [.slice A l.length c]∧RowR r (· < w.heap.size) w A c l:=by
 rcases open_slice ht hf with ⟨h1,_⟩|⟨a,len,cap,m,n,Dd,Pl,h1,_,hl,hm,hmm,_,hx⟩
 · exact ⟨none,0,[],h1,RowR.nil _ _ _⟩
 · have hlm:len≤m:=by rw [hmm];split<;>omega
   obtain ⟨l,hll,hq⟩:=Zdj (α:=α) (Q:=fun i x=>∃cs',r.rep (· < w.heap.size) w x cs'∧∀j u,cs'[j]? = some u→w.cell? ((a.add (i*r.size)).add j)=some u) len (fun i hi=>by
    obtain ⟨cs',c1,c2⟩:=hx i (by omega);obtain ⟨x,hrep⟩:=hE n cs' _ c2;obtain ⟨_,hlen,hcell⟩:=World.cells?_some c1;rw [hr] at hcell hlen
    exact ⟨x,cs',hrep,fun j u hu=>(hcell j (by rw [←hlen];exact (Zom.1 hu).1)).trans hu⟩)
   subst hll;refine ⟨some a,cap,l,h1,hl,hm,fun hpos=>?_⟩;obtain ⟨cs',c1,c2⟩:=hx 0 (by omega);obtain ⟨_,hlen,hcell⟩:=World.cells?_some c1;rw [hr] at hlen hcell
   have hspot:a.spot=none:=by
    have:=hcell 0 h0;rw [Znq (by omega)] at this;(have e2:(a.add (0*r.size)).add 0=a:=by simp [Addr.add]);rw [e2] at this;exact World.cell?_spot this
   obtain ⟨b,off,spot⟩:=a;simp only at hspot;subst hspot
   have hbl:b<w.heap.size:=by
    have:=hcell 0 h0;rw [Znq (by omega)] at this;(have e2:((⟨b,off,none⟩:Addr).add (0*r.size)).add 0=⟨b,off,none⟩:=by simp [Addr.add]);rw [e2] at this;exact Znx w _ this
   refine ⟨b,off,rfl,hbl,hbl,fun k hk=>?_⟩;obtain ⟨cs2,g1,g2⟩:=hq k hk;refine ⟨cs2,g1,fun j u hu=>?_⟩;have:=g2 j u hu;rwa [add_plain,add_plain] at this
theorem Zdy {α:Type}{P:Program}{r:RepT α}{t e:TypeId}(ht:P.underlying t=some (.slice e)) (hc:P.cellsOf t=1) (h0:0<r.size) (hr:Z8i P e r):Z8i P t r.list:=
 ⟨hc,fun H enc w base spare held n cs x h=>by
  obtain ⟨A,c,l,h1,h2⟩:=Z4o ht h0 hr.1 (fun n cs x h=>hr.2 H enc w base spare held n cs x h) h
  exact ⟨l,A,c,h1,h2⟩⟩
theorem Z0y {H:Type}{enc:TypeId×Value→H}{P:Program}{w:World}{base:Nat}{spare:Nat→Bool}{held:Bool}{t:TypeId}{fs:Array Field}{n:Nat}{cs:List Value}{x:DataW H×List MemPlace}
 (ht:P.underlying t=some (.struct fs)) (h:DataW.trod enc P w base spare held n t cs=some x) (i:Nat){f:Field}(hf:fs[i]? = some f) (ty off sz:Nat) (e1:f.type=ty) (e2:f.offset=off) (e3:P.cellsOf ty=sz) :
 ∃m y,DataW.trod enc P w base spare held m ty ((cs.drop off).take sz)=some y:=by
 obtain ⟨xs,n2,_,_,_,hlen,hx⟩:=DataW.trod_struct ht h;have h1:=hx i f hf;subst e1;subst e2;subst e3
 have hi:i<xs.length:=by
  have:=(Zo0.1 hf).1;omega
 rw [Znq hi] at h1;exact ⟨n2,_,h1⟩
theorem Z4a {H:Type}{enc:TypeId×Value→H}{P:Program}{w:World}{base:Nat}{spare:Nat→Bool}{held:Bool}{t:TypeId}{fs:Array Field}{n:Nat}{cs:List Value}{x:DataW H×List MemPlace}
 (ht:P.underlying t=some (.struct fs)) (h:DataW.trod enc P w base spare held n t cs=some x):cs.length=P.cellsOf t:=by
 obtain ⟨_,_,_,_,hl,_⟩:=DataW.trod_struct ht h;exact hl
theorem Z76 {H:Type}{enc:TypeId×Value→H}{P:Program}{w:World}{rc:Reach}{b0 base:Nat}{spare:Nat→Bool}{held:Bool}{α:Type}{r:RepT α}{t e:TypeId}{v:Value}{d:DataW H}{ps:List MemPlace}
 (ht:P.underlying t=some (.slice e)) (h0:0<r.size) (hr:Z8i P e r) (hval:Value.okWide P w rc b0 t v) (h:DataW.Trod enc P w base spare held t v d ps) :
 ∃A c,∃l:List α,v = .slice A l.length c∧RowR r (· < w.heap.size) w A c l:=by
 obtain ⟨A,len,cap,rfl⟩:=okWide_slice ht hval;obtain ⟨fuel,hf⟩:=h;(have hcs:(Value.slice A len cap).cells.toList = [.slice A len cap]:=by simp [Value.cells]);rw [hcs] at hf;obtain ⟨A',c',l,h1,h2⟩:=Z4o ht h0 hr.1 (fun n cs x h=>hr.2 H enc w base spare held n cs x h) hf;simp only [List.cons.injEq,and_true] at h1;exact ⟨A',c',l,h1,h2⟩
end
section
open Go.RowKit Go.ChangeShapes Go.WideShapes Go.Deep
theorem RowR.imp {α:Type}{r r':RepT α}{D:Nat→Prop}{w:World}{A:Option Addr}{c:Nat}{l:List α}(h:RowR r D w A c l) (hs:r.size=r'.size) (hi :∀a cs,r.rep D w a cs→r'.rep D w a cs):RowR r' D w A c l:=by
 refine ⟨h.1,h.2.1,fun h0=>?_⟩;obtain ⟨b,off,h1,h2,h3,h4⟩:=h.2.2 h0;refine ⟨b,off,h1,h2,h3,fun k hk=>?_⟩;obtain ⟨cs,h5,h6⟩:=h4 k hk;exact ⟨cs,hi _ _ h5,by rw [←hs];exact h6⟩
theorem Z8b {H:Type}{enc:TypeId×Value→H}{P:Program}{w:World}{base:Nat}{spare:Nat→Bool}{held:Bool}{α:Type}{r:RepT α}{t e:TypeId}{fuel:Nat}{cs:List Value}{x:DataW H×List MemPlace}
 (ht:P.underlying t=some (.slice e)) (h0:0<r.size) (hr:P.cellsOf e=r.size) (hE :∀n,n<fuel→∀cs x,DataW.trod enc P w base spare held n e cs=some x→∃a:α,r.rep (· < w.heap.size) w a cs)
 (hf:DataW.trod enc P w base spare held fuel t cs=some x):∃A c,∃l:List α,cs = [.slice A l.length c]∧RowR r (· < w.heap.size) w A c l:=by
 rcases DataW.trod_slice ht hf with ⟨h1,_⟩|⟨a,len,cap,elems,rest,n,hn,h1,_,_,hl,hm,hlen,hel,_,_⟩
 · exact ⟨none,0,[],h1,RowR.nil _ _ _⟩
 · have hx :∀i,i<len→∃cs',w.cells? base (a.add (i*P.cellsOf e)) (P.cellsOf e)=some cs'∧∃y,DataW.trod enc P w base spare held n e cs'=some y:=fun i hi=>by
    have h2:=hel i hi;rw [Znq (by omega)] at h2;obtain ⟨cs',g1,g2⟩:=Option.bind_eq_some_iff.1 h2;exact ⟨cs',g1,_,g2⟩
   obtain ⟨l,hll,hq⟩:=Zdj (α:=α) (Q:=fun i x=>∃cs',r.rep (· < w.heap.size) w x cs'∧∀j u,cs'[j]? = some u→w.cell? ((a.add (i*r.size)).add j)=some u) len (fun i hi=>by
    obtain ⟨cs',c1,y,c2⟩:=hx i (by omega);obtain ⟨x,hrep⟩:=hE n (by omega) cs' _ c2;obtain ⟨_,hlen,hcell⟩:=World.cells?_some c1;rw [hr] at hcell hlen
    exact ⟨x,cs',hrep,fun j u hu=>(hcell j (by rw [←hlen];exact (Zom.1 hu).1)).trans hu⟩)
   subst hll;refine ⟨some a,cap,l,h1,hl,hm,fun hpos=>?_⟩;obtain ⟨cs',c1,_⟩:=hx 0 (by omega);obtain ⟨_,hlen,hcell⟩:=World.cells?_some c1;rw [hr] at hlen hcell
   have hspot:a.spot=none:=by
    have:=hcell 0 h0;rw [Znq (by omega)] at this;(have e2:(a.add (0*r.size)).add 0=a:=by simp [Addr.add]);rw [e2] at this;exact World.cell?_spot this
   obtain ⟨b,off,spot⟩:=a;simp only at hspot;subst hspot
   have hbl:b<w.heap.size:=by
    have:=hcell 0 h0;rw [Znq (by omega)] at this;(have e2:((⟨b,off,none⟩:Addr).add (0*r.size)).add 0=⟨b,off,none⟩:=by simp [Addr.add]);rw [e2] at this;exact Znx w _ this
   refine ⟨b,off,rfl,hbl,hbl,fun k hk=>?_⟩;obtain ⟨cs2,g1,g2⟩:=hq k hk;refine ⟨cs2,g1,fun j u hu=>?_⟩;have:=g2 j u hu;rwa [add_plain,add_plain] at this
theorem Z26 {H:Type}{enc:TypeId×Value→H}{P:Program}{w:World}{base:Nat}{spare:Nat→Bool}{held:Bool}{t:TypeId}{fs:Array Field}{n:Nat}{cs:List Value}{x:DataW H×List MemPlace}
 (ht:P.underlying t=some (.struct fs)) (h:DataW.trod enc P w base spare held n t cs=some x) (i:Nat){f:Field}(hf:fs[i]? = some f) (ty off sz:Nat) (e1:f.type=ty) (e2:f.offset=off) (e3:P.cellsOf ty=sz) :
 ∃y,DataW.trod enc P w base spare held (n - 1) ty ((cs.drop off).take sz)=some y:=by
 obtain ⟨xs,n2,hn,_,_,hlen,hx⟩:=DataW.trod_struct ht h;have h1:=hx i f hf;subst e1;subst e2;subst e3
 have hi:i<xs.length:=by
  have:=(Zo0.1 hf).1;omega
 rw [Znq hi] at h1;subst hn;exact ⟨_,h1⟩
theorem Zff {H:Type}{enc:TypeId×Value→H}{P:Program}{w:World}{base:Nat}{spare:Nat→Bool}{held:Bool}{t:TypeId}{n:Nat}{cs:List Value}{x:DataW H×List MemPlace}(h:DataW.trod enc P w base spare held n t cs=some x):0<n:=by
 cases n with
 | zero=>simp [DataW.trod] at h
 | succ n=>omega
theorem Zir:Zmy Tryz.prog 38 3 Sym.cells:=
 ⟨by kernel_rfl,fun H enc w base spare held n cs x h=>by
  obtain ⟨y0,y1,y2,n',_,hl,h0,h1,h2⟩:=trod_struct3 Tryz.underlying38 h;have hl3:cs.length=3:=hl.trans (by kernel_rfl);(have c3:Tryz.prog.cellsOf 3=1:=by kernel_rfl);(have c9:Tryz.prog.cellsOf 9=1:=by kernel_rfl);simp only [c3,c9] at h0 h1 h2
  match cs,hl3 with
  | [v0,v1,v2],_=>
    simp at h0 h1 h2;obtain ⟨a,e0,_⟩:=DataW.trod_int Tryz.underlying3 h0;obtain ⟨b,e1,_⟩:=DataW.trod_string Tryz.underlying9 h1;obtain ⟨c,e2,_⟩:=DataW.trod_int Tryz.underlying3 h2;simp at e0 e1 e2;subst e0;subst e1;subst e2
    exact ⟨⟨a,b,c⟩,rfl⟩⟩
def Z61:RepT ByteArray:=RepT.flat 1 (fun s:ByteArray=>[.string s]) (fun _=>rfl)
def Z24:RepT Sym:=RepT.flat 3 Sym.cells Sym.cells_length
theorem Z3y:Z8i Tryz.prog 38 Z24:=Z9s Sym.cells_length Zir
theorem Zla {D:Nat→Prop}{w:World}{A:Option Addr}{c k:Nat}{l:List Sym}(h:RowR Z24 D w A c l) (hk:k<l.length):∃g off,A=some ⟨g,off,none⟩∧D g∧g<w.heap.size∧w.cell? ⟨g,off+k*3,none⟩=some (.int .i64 l[k].kind)∧w.cell? ⟨g,off+k*3+1,none⟩=some (.string l[k].text)∧w.cell? ⟨g,off+k*3+2,none⟩=some (.int .i64 l[k].n):=by
 obtain ⟨g,off,cs,hA,hD,hg,hr,hc⟩:=h.at_ hk;have hr2:cs=Sym.cells l[k]:=hr;subst hr2;refine ⟨g,off,hA,hD,hg,by simpa [Z24,RepT.flat] using hc 0 _ rfl,by simpa [Z24,RepT.flat] using hc 1 _ rfl,by simpa [Z24,RepT.flat] using hc 2 _ rfl⟩
structure Elem where
 id:Sym
 attr:Sym
 value:Sym
 acc:Bool
 goal:Bool
 tag:Int
def Elem.cells (x:Elem):List Value:=[.int .i64 x.id.kind,.string x.id.text,.int .i64 x.id.n,.int .i64 x.attr.kind,.string x.attr.text,.int .i64 x.attr.n,.int .i64 x.value.kind,.string x.value.text,.int .i64 x.value.n,.bool x.acc,.bool x.goal,.int .i64 x.tag]
theorem Elem.cells_length (x:Elem):x.cells.length=12:=rfl
def Zmk:RepT Elem:=RepT.flat 12 Elem.cells Elem.cells_length
theorem Zgh:Z8i Tryz.prog 62 Zmk:=
 ⟨by kernel_rfl,fun H enc w base spare held n cs x h=>by
  have hl2:cs.length=12:=(Z4a Tryz.underlying62 h).trans (by kernel_rfl);obtain ⟨m0,y0,h0⟩:=Z0y Tryz.underlying62 h 0 rfl 38 0 3 rfl rfl (by kernel_rfl);obtain ⟨m1,y1,h1⟩:=Z0y Tryz.underlying62 h 1 rfl 38 3 3 rfl rfl (by kernel_rfl);obtain ⟨m2,y2,h2⟩:=Z0y Tryz.underlying62 h 2 rfl 38 6 3 rfl rfl (by kernel_rfl);obtain ⟨m3,y3,h3⟩:=Z0y Tryz.underlying62 h 3 rfl 4 9 1 rfl rfl (by kernel_rfl);obtain ⟨m4,y4,h4⟩:=Z0y Tryz.underlying62 h 4 rfl 4 10 1 rfl rfl (by kernel_rfl);obtain ⟨m5,y5,h5⟩:=Z0y Tryz.underlying62 h 5 rfl 3 11 1 rfl rfl (by kernel_rfl)
  match cs,hl2 with
  | [v0,v1,v2,v3,v4,v5,v6,v7,v8,v9,v10,v11],_=>
    simp at h0 h1 h2 h3 h4 h5;obtain ⟨a0,e0⟩:=Z3y.2 H enc w base spare held _ _ _ h0;have e0:_=Sym.cells a0:=e0;simp [Sym.cells] at e0;obtain ⟨a1,e1⟩:=Z3y.2 H enc w base spare held _ _ _ h1;have e1:_=Sym.cells a1:=e1;simp [Sym.cells] at e1;obtain ⟨a2,e2⟩:=Z3y.2 H enc w base spare held _ _ _ h2;have e2:_=Sym.cells a2:=e2;simp [Sym.cells] at e2;obtain ⟨a3,e3,_⟩:=DataW.trod_bool Tryz.underlying4 h3;simp at e3;obtain ⟨a4,e4,_⟩:=DataW.trod_bool Tryz.underlying4 h4;simp at e4;obtain ⟨a5,e5,_⟩:=DataW.trod_int Tryz.underlying3 h5;simp at e5;obtain ⟨rfl,rfl,rfl⟩:=e0;obtain ⟨rfl,rfl,rfl⟩:=e1;obtain ⟨rfl,rfl,rfl⟩:=e2;subst e3;subst e4;subst e5
    exact ⟨⟨a0,a1,a2,a3,a4,a5⟩,rfl⟩⟩
structure Z1r where
 rel:Int
 var:ByteArray
 sym:Sym
 list:List Sym
def Z03:RepT Z1r:=
 { size:=6,rep:=fun D w x cs=>∃A1 c1,cs = [.int .i64 x.rel,.string x.var,.int .i64 x.sym.kind,.string x.sym.text,.int .i64 x.sym.n,.slice A1 x.list.length c1]∧RowR Z24 D w A1 c1 x.list,
   len:=by rintro _ _ _ _ ⟨_,_,rfl,_⟩;rfl,
   keep:=by
    rintro _ _ _ _ _ _ hs hk ⟨A1,c1,h0,h1⟩
    exact ⟨A1,c1,h0,h1.keep hs hk⟩ }
theorem Z2w {D:Nat→Prop}{w:World}{A:Option Addr}{c k:Nat}{l:List Z1r}(h:RowR Z03 D w A c l) (hk:k<l.length):∃g off A1 c1,A=some ⟨g,off,none⟩∧D g∧g<w.heap.size∧w.cell? ⟨g,off+k*6,none⟩=some (.int .i64 l[k].rel)∧w.cell? ⟨g,off+k*6+1,none⟩=some (.string l[k].var)∧w.cell? ⟨g,off+k*6+2,none⟩=some (.int .i64 l[k].sym.kind)∧w.cell? ⟨g,off+k*6+3,none⟩=some (.string l[k].sym.text)∧w.cell? ⟨g,off+k*6+4,none⟩=some (.int .i64 l[k].sym.n)∧w.cell? ⟨g,off+k*6+5,none⟩=some (.slice A1 l[k].list.length c1)∧RowR Z24 D w A1 c1 l[k].list:=by
 obtain ⟨g,off,cs,hA,hD,hg,⟨A1,c1,rfl,hrs⟩,hc⟩:=h.at_ hk;exact ⟨g,off,A1,c1,hA,hD,hg,by simpa [Z03] using hc 0 _ rfl,by simpa [Z03] using hc 1 _ rfl,by simpa [Z03] using hc 2 _ rfl,by simpa [Z03] using hc 3 _ rfl,by simpa [Z03] using hc 4 _ rfl,by simpa [Z03] using hc 5 _ rfl,hrs⟩
theorem Z5h:Z8i Tryz.prog 138 Z03:=
 ⟨by kernel_rfl,fun H enc w base spare held n cs x h=>by
  have hl2:cs.length=6:=(Z4a Tryz.underlying138 h).trans (by kernel_rfl);obtain ⟨m0,y0,h0⟩:=Z0y Tryz.underlying138 h 0 rfl 3 0 1 rfl rfl (by kernel_rfl);obtain ⟨m1,y1,h1⟩:=Z0y Tryz.underlying138 h 1 rfl 9 1 1 rfl rfl (by kernel_rfl);obtain ⟨m2,y2,h2⟩:=Z0y Tryz.underlying138 h 2 rfl 38 2 3 rfl rfl (by kernel_rfl);obtain ⟨m3,y3,h3⟩:=Z0y Tryz.underlying138 h 3 rfl 27 5 1 rfl rfl (by kernel_rfl)
  match cs,hl2 with
  | [v0,v1,v2,v3,v4,v5],_=>
    simp at h0 h1 h2 h3;obtain ⟨a0,e0,_⟩:=DataW.trod_int Tryz.underlying3 h0;simp at e0;obtain ⟨a1,e1,_⟩:=DataW.trod_string Tryz.underlying9 h1;simp at e1;obtain ⟨a2,e2⟩:=Z3y.2 H enc w base spare held _ _ _ h2;have e2:_=Sym.cells a2:=e2;simp [Sym.cells] at e2;obtain ⟨a3,A3,c3,e3,r3⟩:=(Zdy Tryz.underlying27 (by kernel_rfl) (by decide) Z3y).2 H enc w base spare held _ _ _ h3;simp at e3;subst e0;subst e1;obtain ⟨rfl,rfl,rfl⟩:=e2;subst e3
    exact ⟨⟨a0,a1,a2,a3⟩,A3,c3,rfl,r3⟩⟩
inductive Z0a where
 | mk (kind:Int) (goal:Bool) (id:ByteArray) (attr:List Z1r) (value:List Z1r) (acc:Bool) (conds:List Z0a)
def Z0a.kind:Z0a→Int
 | .mk x _ _ _ _ _ _=>x
def Z0a.goal:Z0a→Bool
 | .mk _ x _ _ _ _ _=>x
def Z0a.id:Z0a→ByteArray
 | .mk _ _ x _ _ _ _=>x
def Z0a.attr:Z0a→List Z1r
 | .mk _ _ _ x _ _ _=>x
def Z0a.value:Z0a→List Z1r
 | .mk _ _ _ _ x _ _=>x
def Z0a.acc:Z0a→Bool
 | .mk _ _ _ _ _ x _=>x
def Z0a.conds:Z0a→List Z0a
 | .mk _ _ _ _ _ _ x=>x
def Z06:Nat→RepT Z0a
 | 0=>{ size:=7,rep:=fun _ _ _ _=>False,len:=fun h=>h.elim,keep:=fun _ _ h=>h }
 | n+1=>
 { size:=7,rep:=fun D w x cs=>∃A1 c1 A2 c2 A3 c3,cs = [.int .i64 x.kind,.bool x.goal,.string x.id,.slice A1 x.attr.length c1,.slice A2 x.value.length c2,.bool x.acc,.slice A3 x.conds.length c3]∧RowR Z03 D w A1 c1 x.attr∧RowR Z03 D w A2 c2 x.value∧RowR (Z06 n) D w A3 c3 x.conds,
   len:=by rintro _ _ _ _ ⟨_,_,_,_,_,_,rfl,_⟩;rfl,
   keep:=by
    rintro _ _ _ _ _ _ hs hk ⟨A1,c1,A2,c2,A3,c3,h0,h1,h2,h3⟩
    exact ⟨A1,c1,A2,c2,A3,c3,h0,h1.keep hs hk,h2.keep hs hk,h3.keep hs hk⟩ }
theorem Z2x (n:Nat):(Z06 n).size=7:=by cases n<;>rfl
theorem Z1j {n:Nat}{D:Nat→Prop}{w:World}{A:Option Addr}{c k:Nat}{l:List Z0a}(h:RowR (Z06 (n+1)) D w A c l) (hk:k<l.length):∃g off A1 c1 A2 c2 A3 c3,A=some ⟨g,off,none⟩∧D g∧g<w.heap.size∧w.cell? ⟨g,off+k*7,none⟩=some (.int .i64 l[k].kind)∧w.cell? ⟨g,off+k*7+1,none⟩=some (.bool l[k].goal)∧w.cell? ⟨g,off+k*7+2,none⟩=some (.string l[k].id)∧w.cell? ⟨g,off+k*7+3,none⟩=some (.slice A1 l[k].attr.length c1)∧w.cell? ⟨g,off+k*7+4,none⟩=some (.slice A2 l[k].value.length c2)∧w.cell? ⟨g,off+k*7+5,none⟩=some (.bool l[k].acc)∧w.cell? ⟨g,off+k*7+6,none⟩=some (.slice A3 l[k].conds.length c3)∧RowR Z03 D w A1 c1 l[k].attr∧RowR Z03 D w A2 c2 l[k].value∧RowR (Z06 n) D w A3 c3 l[k].conds:=by
 obtain ⟨g,off,cs,hA,hD,hg,⟨A1,c1,A2,c2,A3,c3,rfl,hrs⟩,hc⟩:=h.at_ hk;exact ⟨g,off,A1,c1,A2,c2,A3,c3,hA,hD,hg,by simpa [Z06] using hc 0 _ rfl,by simpa [Z06] using hc 1 _ rfl,by simpa [Z06] using hc 2 _ rfl,by simpa [Z06] using hc 3 _ rfl,by simpa [Z06] using hc 4 _ rfl,by simpa [Z06] using hc 5 _ rfl,by simpa [Z06] using hc 6 _ rfl,hrs⟩
theorem Z7a :∀(n:Nat){D:Nat→Prop}{w:World}{a:Z0a}{cs:List Value},(Z06 n).rep D w a cs→(Z06 (n+1)).rep D w a cs
 | 0,_,_,_,_,h=>h.elim
 | n+1,_,_,_,_,h=>by
   obtain ⟨A1,c1,A2,c2,A3,c3,h0,h1,h2,h3⟩:=h;exact ⟨A1,c1,A2,c2,A3,c3,h0,h1,h2,h3.imp (by rw [Z2x,Z2x]) (fun _ _ g=>Z7a n g)⟩
theorem Z9g {m n:Nat}(h:m≤n){D:Nat→Prop}{w:World}{a:Z0a}{cs:List Value}(g:(Z06 m).rep D w a cs):(Z06 n).rep D w a cs:=by
 induction n with
 | zero=>obtain rfl:m=0:=by omega
         exact g
 | succ n ih=>
   by_cases e:m=n+1
   · subst e;exact g
   · exact Z7a n (ih (by omega))
theorem Zjy {cs:List Value}(h:cs.length=7):∃v0 v1 v2 v3 v4 v5 v6,cs = [v0,v1,v2,v3,v4,v5,v6]:=by
 match cs,h with
 | [v0,v1,v2,v3,v4,v5,v6],_=>exact ⟨v0,v1,v2,v3,v4,v5,v6,rfl⟩
theorem Zdu {H:Type}(enc:TypeId×Value→H) (w:World) (base:Nat) (spare:Nat→Bool) (held:Bool):∀(fuel:Nat) (cs:List Value) (x:DataW H×List MemPlace),DataW.trod enc Tryz.prog w base spare held fuel 59 cs=some x→∃a:Z0a,(Z06 fuel).rep (· < w.heap.size) w a cs:=by
 intro fuel
 induction fuel using Nat.strongRecOn with
 | _ fuel ih=>
   intro cs x h;obtain ⟨n,rfl⟩:∃n,fuel=n+1:=⟨fuel - 1,by have:=Zff h;omega⟩;have hl2:cs.length=7:=(Z4a Tryz.underlying59 h).trans (by kernel_rfl);obtain ⟨y0,h0⟩:=Z26 Tryz.underlying59 h 0 rfl 3 0 1 rfl rfl (by kernel_rfl);obtain ⟨y1,h1⟩:=Z26 Tryz.underlying59 h 1 rfl 4 1 1 rfl rfl (by kernel_rfl);obtain ⟨y2,h2⟩:=Z26 Tryz.underlying59 h 2 rfl 9 2 1 rfl rfl (by kernel_rfl);obtain ⟨y3,h3⟩:=Z26 Tryz.underlying59 h 3 rfl 57 3 1 rfl rfl (by kernel_rfl);obtain ⟨y4,h4⟩:=Z26 Tryz.underlying59 h 4 rfl 57 4 1 rfl rfl (by kernel_rfl);obtain ⟨y5,h5⟩:=Z26 Tryz.underlying59 h 5 rfl 4 5 1 rfl rfl (by kernel_rfl);obtain ⟨y6,h6⟩:=Z26 Tryz.underlying59 h 6 rfl 22 6 1 rfl rfl (by kernel_rfl);obtain ⟨v0,v1,v2,v3,v4,v5,v6,rfl⟩:=Zjy hl2;simp at h0 h1 h2 h3 h4 h5 h6;obtain ⟨a0,e0,_⟩:=DataW.trod_int Tryz.underlying3 h0;simp at e0;obtain ⟨a1,e1,_⟩:=DataW.trod_bool Tryz.underlying4 h1;simp at e1;obtain ⟨a2,e2,_⟩:=DataW.trod_string Tryz.underlying9 h2;simp at e2;obtain ⟨A3,c3,a3,e3,r3⟩:=Z4o (r:=Z03) Tryz.underlying57 (by decide) Z5h.1 (fun n cs x hx=>Z5h.2 H enc w base spare held n cs x hx) h3;simp at e3;obtain ⟨A4,c4,a4,e4,r4⟩:=Z4o (r:=Z03) Tryz.underlying57 (by decide) Z5h.1 (fun n cs x hx=>Z5h.2 H enc w base spare held n cs x hx) h4;simp at e4;obtain ⟨a5,e5,_⟩:=DataW.trod_bool Tryz.underlying4 h5;simp at e5;obtain ⟨A6,c6,a6,e6,r6⟩:=Z8b (r:=Z06 n) Tryz.underlying22 (by rw [Z2x];decide) (by rw [Z2x];kernel_rfl) (fun m hm cs x hx=>(ih m (by omega) cs x hx).imp fun _ g=>Z9g (by omega) g) h6;simp at e6;subst e0;subst e1;subst e2;subst e3;subst e4;subst e5;subst e6;exact ⟨⟨a0,a1,a2,a3,a4,a5,a6⟩,A3,c3,A4,c4,A6,c6,rfl,r3,r4,r6⟩
structure Z2o where
 var:ByteArray
 sym:Sym
def Z2o.cells (x:Z2o):List Value:=[.string x.var,.int .i64 x.sym.kind,.string x.sym.text,.int .i64 x.sym.n]
theorem Z2o.cells_length (x:Z2o):x.cells.length=4:=rfl
def Zkv:RepT Z2o:=RepT.flat 4 Z2o.cells Z2o.cells_length
theorem Z5g:Z8i Tryz.prog 91 Zkv:=
 ⟨by kernel_rfl,fun H enc w base spare held n cs x h=>by
  have hl2:cs.length=4:=(Z4a Tryz.underlying91 h).trans (by kernel_rfl);obtain ⟨m0,y0,h0⟩:=Z0y Tryz.underlying91 h 0 rfl 9 0 1 rfl rfl (by kernel_rfl);obtain ⟨m1,y1,h1⟩:=Z0y Tryz.underlying91 h 1 rfl 38 1 3 rfl rfl (by kernel_rfl)
  match cs,hl2 with
  | [v0,v1,v2,v3],_=>
    simp at h0 h1;obtain ⟨a0,e0,_⟩:=DataW.trod_string Tryz.underlying9 h0;simp at e0;obtain ⟨a1,e1⟩:=Z3y.2 H enc w base spare held _ _ _ h1;have e1:_=Sym.cells a1:=e1;simp [Sym.cells] at e1;subst e0;obtain ⟨rfl,rfl,rfl⟩:=e1
    exact ⟨⟨a0,a1⟩,rfl⟩⟩
structure Z8j where
 op:Int
 a:Z2o
 b:Z2o
def Z8j.cells (x:Z8j):List Value:=[.int .i64 x.op,.string x.a.var,.int .i64 x.a.sym.kind,.string x.a.sym.text,.int .i64 x.a.sym.n,.string x.b.var,.int .i64 x.b.sym.kind,.string x.b.sym.text,.int .i64 x.b.sym.n]
theorem Z8j.cells_length (x:Z8j):x.cells.length=9:=rfl
def Zkx:RepT Z8j:=RepT.flat 9 Z8j.cells Z8j.cells_length
theorem Zdx:Z8i Tryz.prog 93 Zkx:=
 ⟨by kernel_rfl,fun H enc w base spare held n cs x h=>by
  have hl2:cs.length=9:=(Z4a Tryz.underlying93 h).trans (by kernel_rfl);obtain ⟨m0,y0,h0⟩:=Z0y Tryz.underlying93 h 0 rfl 3 0 1 rfl rfl (by kernel_rfl);obtain ⟨m1,y1,h1⟩:=Z0y Tryz.underlying93 h 1 rfl 91 1 4 rfl rfl (by kernel_rfl);obtain ⟨m2,y2,h2⟩:=Z0y Tryz.underlying93 h 2 rfl 91 5 4 rfl rfl (by kernel_rfl)
  match cs,hl2 with
  | [v0,v1,v2,v3,v4,v5,v6,v7,v8],_=>
    simp at h0 h1 h2;obtain ⟨a0,e0,_⟩:=DataW.trod_int Tryz.underlying3 h0;simp at e0;obtain ⟨a1,e1⟩:=Z5g.2 H enc w base spare held _ _ _ h1;have e1:_=Z2o.cells a1:=e1;simp [Z2o.cells] at e1;obtain ⟨a2,e2⟩:=Z5g.2 H enc w base spare held _ _ _ h2;have e2:_=Z2o.cells a2:=e2;simp [Z2o.cells] at e2;subst e0;obtain ⟨rfl,rfl,rfl,rfl⟩:=e1;obtain ⟨rfl,rfl,rfl,rfl⟩:=e2
    exact ⟨⟨a0,a1,a2⟩,rfl⟩⟩
structure ActT where
 id:ByteArray
 attr:Z2o
 value:Z8j
 pref:Int
 other:Z2o
def ActT.cells (x:ActT):List Value:=[.string x.id,.string x.attr.var,.int .i64 x.attr.sym.kind,.string x.attr.sym.text,.int .i64 x.attr.sym.n,.int .i64 x.value.op,.string x.value.a.var,.int .i64 x.value.a.sym.kind,.string x.value.a.sym.text,.int .i64 x.value.a.sym.n,.string x.value.b.var,.int .i64 x.value.b.sym.kind,.string x.value.b.sym.text,.int .i64 x.value.b.sym.n,.int .i64 x.pref,.string x.other.var,.int .i64 x.other.sym.kind,.string x.other.sym.text,.int .i64 x.other.sym.n]
theorem ActT.cells_length (x:ActT):x.cells.length=19:=rfl
def Z11:RepT ActT:=RepT.flat 19 ActT.cells ActT.cells_length
theorem Zaq {D:Nat→Prop}{w:World}{A:Option Addr}{c k:Nat}{l:List ActT}(h:RowR Z11 D w A c l) (hk:k<l.length):∃g off,A=some ⟨g,off,none⟩∧D g∧g<w.heap.size∧w.cell? ⟨g,off+k*19,none⟩=some (.string l[k].id)∧w.cell? ⟨g,off+k*19+1,none⟩=some (.string l[k].attr.var)∧w.cell? ⟨g,off+k*19+2,none⟩=some (.int .i64 l[k].attr.sym.kind)∧w.cell? ⟨g,off+k*19+3,none⟩=some (.string l[k].attr.sym.text)∧w.cell? ⟨g,off+k*19+4,none⟩=some (.int .i64 l[k].attr.sym.n)∧w.cell? ⟨g,off+k*19+5,none⟩=some (.int .i64 l[k].value.op)∧w.cell? ⟨g,off+k*19+6,none⟩=some (.string l[k].value.a.var)∧w.cell? ⟨g,off+k*19+7,none⟩=some (.int .i64 l[k].value.a.sym.kind)∧w.cell? ⟨g,off+k*19+8,none⟩=some (.string l[k].value.a.sym.text)∧w.cell? ⟨g,off+k*19+9,none⟩=some (.int .i64 l[k].value.a.sym.n)∧w.cell? ⟨g,off+k*19+10,none⟩=some (.string l[k].value.b.var)∧w.cell? ⟨g,off+k*19+11,none⟩=some (.int .i64 l[k].value.b.sym.kind)∧w.cell? ⟨g,off+k*19+12,none⟩=some (.string l[k].value.b.sym.text)∧w.cell? ⟨g,off+k*19+13,none⟩=some (.int .i64 l[k].value.b.sym.n)∧w.cell? ⟨g,off+k*19+14,none⟩=some (.int .i64 l[k].pref)∧w.cell? ⟨g,off+k*19+15,none⟩=some (.string l[k].other.var)∧w.cell? ⟨g,off+k*19+16,none⟩=some (.int .i64 l[k].other.sym.kind)∧w.cell? ⟨g,off+k*19+17,none⟩=some (.string l[k].other.sym.text)∧w.cell? ⟨g,off+k*19+18,none⟩=some (.int .i64 l[k].other.sym.n):=by
 obtain ⟨g,off,cs,hA,hD,hg,hr,hc⟩:=h.at_ hk;have hr2:cs=ActT.cells l[k]:=hr;subst hr2;refine ⟨g,off,hA,hD,hg,by simpa [Z11,RepT.flat] using hc 0 _ rfl,by simpa [Z11,RepT.flat] using hc 1 _ rfl,by simpa [Z11,RepT.flat] using hc 2 _ rfl,by simpa [Z11,RepT.flat] using hc 3 _ rfl,by simpa [Z11,RepT.flat] using hc 4 _ rfl,by simpa [Z11,RepT.flat] using hc 5 _ rfl,by simpa [Z11,RepT.flat] using hc 6 _ rfl,by simpa [Z11,RepT.flat] using hc 7 _ rfl,by simpa [Z11,RepT.flat] using hc 8 _ rfl,by simpa [Z11,RepT.flat] using hc 9 _ rfl,by simpa [Z11,RepT.flat] using hc 10 _ rfl,by simpa [Z11,RepT.flat] using hc 11 _ rfl,by simpa [Z11,RepT.flat] using hc 12 _ rfl,by simpa [Z11,RepT.flat] using hc 13 _ rfl,by simpa [Z11,RepT.flat] using hc 14 _ rfl,by simpa [Z11,RepT.flat] using hc 15 _ rfl,by simpa [Z11,RepT.flat] using hc 16 _ rfl,by simpa [Z11,RepT.flat] using hc 17 _ rfl,by simpa [Z11,RepT.flat] using hc 18 _ rfl⟩
theorem Zab:Z8i Tryz.prog 96 Z11:=
 ⟨by kernel_rfl,fun H enc w base spare held n cs x h=>by
  have hl2:cs.length=19:=(Z4a Tryz.underlying96 h).trans (by kernel_rfl);obtain ⟨m0,y0,h0⟩:=Z0y Tryz.underlying96 h 0 rfl 9 0 1 rfl rfl (by kernel_rfl);obtain ⟨m1,y1,h1⟩:=Z0y Tryz.underlying96 h 1 rfl 91 1 4 rfl rfl (by kernel_rfl);obtain ⟨m2,y2,h2⟩:=Z0y Tryz.underlying96 h 2 rfl 93 5 9 rfl rfl (by kernel_rfl);obtain ⟨m3,y3,h3⟩:=Z0y Tryz.underlying96 h 3 rfl 3 14 1 rfl rfl (by kernel_rfl);obtain ⟨m4,y4,h4⟩:=Z0y Tryz.underlying96 h 4 rfl 91 15 4 rfl rfl (by kernel_rfl)
  match cs,hl2 with
  | [v0,v1,v2,v3,v4,v5,v6,v7,v8,v9,v10,v11,v12,v13,v14,v15,v16,v17,v18],_=>
    simp at h0 h1 h2 h3 h4;obtain ⟨a0,e0,_⟩:=DataW.trod_string Tryz.underlying9 h0;simp at e0;obtain ⟨a1,e1⟩:=Z5g.2 H enc w base spare held _ _ _ h1;have e1:_=Z2o.cells a1:=e1;simp [Z2o.cells] at e1;obtain ⟨a2,e2⟩:=Zdx.2 H enc w base spare held _ _ _ h2;have e2:_=Z8j.cells a2:=e2;simp [Z8j.cells] at e2;obtain ⟨a3,e3,_⟩:=DataW.trod_int Tryz.underlying3 h3;simp at e3;obtain ⟨a4,e4⟩:=Z5g.2 H enc w base spare held _ _ _ h4;have e4:_=Z2o.cells a4:=e4;simp [Z2o.cells] at e4;subst e0;obtain ⟨rfl,rfl,rfl,rfl⟩:=e1;obtain ⟨rfl,rfl,rfl,rfl,rfl,rfl,rfl,rfl,rfl⟩:=e2;subst e3;obtain ⟨rfl,rfl,rfl,rfl⟩:=e4
    exact ⟨⟨a0,a1,a2,a3,a4⟩,rfl⟩⟩
structure Z39 where
 name:ByteArray
 conds:List Z0a
 acts:List ActT
def Zkw (n:Nat):RepT Z39:=
 { size:=3,rep:=fun D w x cs=>∃A1 c1 A2 c2,cs = [.string x.name,.slice A1 x.conds.length c1,.slice A2 x.acts.length c2]∧RowR (Z06 n) D w A1 c1 x.conds∧RowR Z11 D w A2 c2 x.acts,
   len:=by rintro _ _ _ _ ⟨_,_,_,_,rfl,_⟩;rfl,
   keep:=by
    rintro _ _ _ _ _ _ hs hk ⟨A1,c1,A2,c2,h0,h1,h2⟩
    exact ⟨A1,c1,A2,c2,h0,h1.keep hs hk,h2.keep hs hk⟩ }
theorem Zjz {cs:List Value}(h:cs.length=3):∃v0 v1 v2,cs = [v0,v1,v2]:=by
 match cs,h with
 | [v0,v1,v2],_=>exact ⟨v0,v1,v2,rfl⟩
theorem Zdv {H:Type}(enc:TypeId×Value→H) (w:World) (base:Nat) (spare:Nat→Bool) (held:Bool):∀(fuel:Nat) (cs:List Value) (x:DataW H×List MemPlace),DataW.trod enc Tryz.prog w base spare held fuel 25 cs=some x→∃a:Z39,(Zkw fuel).rep (· < w.heap.size) w a cs:=by
 intro fuel
 induction fuel using Nat.strongRecOn with
 | _ fuel ih=>
   intro cs x h;obtain ⟨n,rfl⟩:∃n,fuel=n+1:=⟨fuel - 1,by have:=Zff h;omega⟩;have hl2:cs.length=3:=(Z4a Tryz.underlying25 h).trans (by kernel_rfl);obtain ⟨y0,h0⟩:=Z26 Tryz.underlying25 h 0 rfl 9 0 1 rfl rfl (by kernel_rfl);obtain ⟨y1,h1⟩:=Z26 Tryz.underlying25 h 1 rfl 22 1 1 rfl rfl (by kernel_rfl);obtain ⟨y2,h2⟩:=Z26 Tryz.underlying25 h 2 rfl 23 2 1 rfl rfl (by kernel_rfl);obtain ⟨v0,v1,v2,rfl⟩:=Zjz hl2;simp at h0 h1 h2;obtain ⟨a0,e0,_⟩:=DataW.trod_string Tryz.underlying9 h0;simp at e0;obtain ⟨A1,c1,a1,e1,r1⟩:=Z8b (r:=Z06 (n+1)) Tryz.underlying22 (by rw [Z2x];decide) (by rw [Z2x];kernel_rfl) (fun m hm cs x hx=>(Zdu enc w base spare held m cs x hx).imp fun _ g=>Z9g (by omega) g) h1;simp at e1;obtain ⟨A2,c2,a2,e2,r2⟩:=Z4o (r:=Z11) Tryz.underlying23 (by decide) Zab.1 (fun n cs x hx=>Zab.2 H enc w base spare held n cs x hx) h2;simp at e2;subst e0;subst e1;subst e2;exact ⟨⟨a0,a1,a2⟩,A1,c1,A2,c2,rfl,r1,r2⟩
structure Z13 where
 var:ByteArray
 sym:Sym
def Z13.cells (x:Z13):List Value:=[.string x.var,.int .i64 x.sym.kind,.string x.sym.text,.int .i64 x.sym.n]
theorem Z13.cells_length (x:Z13):x.cells.length=4:=rfl
def Z1n:RepT Z13:=RepT.flat 4 Z13.cells Z13.cells_length
theorem Z5d {D:Nat→Prop}{w:World}{A:Option Addr}{c k:Nat}{l:List Z13}(h:RowR Z1n D w A c l) (hk:k<l.length):∃g off,A=some ⟨g,off,none⟩∧D g∧g<w.heap.size∧w.cell? ⟨g,off+k*4,none⟩=some (.string l[k].var)∧w.cell? ⟨g,off+k*4+1,none⟩=some (.int .i64 l[k].sym.kind)∧w.cell? ⟨g,off+k*4+2,none⟩=some (.string l[k].sym.text)∧w.cell? ⟨g,off+k*4+3,none⟩=some (.int .i64 l[k].sym.n):=by
 obtain ⟨g,off,cs,hA,hD,hg,hr,hc⟩:=h.at_ hk;have hr2:cs=Z13.cells l[k]:=hr;subst hr2;refine ⟨g,off,hA,hD,hg,by simpa [Z1n,RepT.flat] using hc 0 _ rfl,by simpa [Z1n,RepT.flat] using hc 1 _ rfl,by simpa [Z1n,RepT.flat] using hc 2 _ rfl,by simpa [Z1n,RepT.flat] using hc 3 _ rfl⟩
theorem Zdw:Z8i Tryz.prog 40 Z1n:=
 ⟨by kernel_rfl,fun H enc w base spare held n cs x h=>by
  have hl2:cs.length=4:=(Z4a Tryz.underlying40 h).trans (by kernel_rfl);obtain ⟨m0,y0,h0⟩:=Z0y Tryz.underlying40 h 0 rfl 9 0 1 rfl rfl (by kernel_rfl);obtain ⟨m1,y1,h1⟩:=Z0y Tryz.underlying40 h 1 rfl 38 1 3 rfl rfl (by kernel_rfl)
  match cs,hl2 with
  | [v0,v1,v2,v3],_=>
    simp at h0 h1;obtain ⟨a0,e0,_⟩:=DataW.trod_string Tryz.underlying9 h0;simp at e0;obtain ⟨a1,e1⟩:=Z3y.2 H enc w base spare held _ _ _ h1;have e1:_=Sym.cells a1:=e1;simp [Sym.cells] at e1;subst e0;obtain ⟨rfl,rfl,rfl⟩:=e1
    exact ⟨⟨a0,a1⟩,rfl⟩⟩
structure Z07 where
 elem:Elem
 level:Int
 cause:Int
def Z07.cells (x:Z07):List Value:=[.int .i64 x.elem.id.kind,.string x.elem.id.text,.int .i64 x.elem.id.n,.int .i64 x.elem.attr.kind,.string x.elem.attr.text,.int .i64 x.elem.attr.n,.int .i64 x.elem.value.kind,.string x.elem.value.text,.int .i64 x.elem.value.n,.bool x.elem.acc,.bool x.elem.goal,.int .i64 x.elem.tag,.int .i64 x.level,.int .i64 x.cause]
theorem Z07.cells_length (x:Z07):x.cells.length=14:=rfl
def Z0j:RepT Z07:=RepT.flat 14 Z07.cells Z07.cells_length
theorem Z3w {D:Nat→Prop}{w:World}{A:Option Addr}{c k:Nat}{l:List Z07}(h:RowR Z0j D w A c l) (hk:k<l.length):∃g off,A=some ⟨g,off,none⟩∧D g∧g<w.heap.size∧w.cell? ⟨g,off+k*14,none⟩=some (.int .i64 l[k].elem.id.kind)∧w.cell? ⟨g,off+k*14+1,none⟩=some (.string l[k].elem.id.text)∧w.cell? ⟨g,off+k*14+2,none⟩=some (.int .i64 l[k].elem.id.n)∧w.cell? ⟨g,off+k*14+3,none⟩=some (.int .i64 l[k].elem.attr.kind)∧w.cell? ⟨g,off+k*14+4,none⟩=some (.string l[k].elem.attr.text)∧w.cell? ⟨g,off+k*14+5,none⟩=some (.int .i64 l[k].elem.attr.n)∧w.cell? ⟨g,off+k*14+6,none⟩=some (.int .i64 l[k].elem.value.kind)∧w.cell? ⟨g,off+k*14+7,none⟩=some (.string l[k].elem.value.text)∧w.cell? ⟨g,off+k*14+8,none⟩=some (.int .i64 l[k].elem.value.n)∧w.cell? ⟨g,off+k*14+9,none⟩=some (.bool l[k].elem.acc)∧w.cell? ⟨g,off+k*14+10,none⟩=some (.bool l[k].elem.goal)∧w.cell? ⟨g,off+k*14+11,none⟩=some (.int .i64 l[k].elem.tag)∧w.cell? ⟨g,off+k*14+12,none⟩=some (.int .i64 l[k].level)∧w.cell? ⟨g,off+k*14+13,none⟩=some (.int .i64 l[k].cause):=by
 obtain ⟨g,off,cs,hA,hD,hg,hr,hc⟩:=h.at_ hk;have hr2:cs=Z07.cells l[k]:=hr;subst hr2;refine ⟨g,off,hA,hD,hg,by simpa [Z0j,RepT.flat] using hc 0 _ rfl,by simpa [Z0j,RepT.flat] using hc 1 _ rfl,by simpa [Z0j,RepT.flat] using hc 2 _ rfl,by simpa [Z0j,RepT.flat] using hc 3 _ rfl,by simpa [Z0j,RepT.flat] using hc 4 _ rfl,by simpa [Z0j,RepT.flat] using hc 5 _ rfl,by simpa [Z0j,RepT.flat] using hc 6 _ rfl,by simpa [Z0j,RepT.flat] using hc 7 _ rfl,by simpa [Z0j,RepT.flat] using hc 8 _ rfl,by simpa [Z0j,RepT.flat] using hc 9 _ rfl,by simpa [Z0j,RepT.flat] using hc 10 _ rfl,by simpa [Z0j,RepT.flat] using hc 11 _ rfl,by simpa [Z0j,RepT.flat] using hc 12 _ rfl,by simpa [Z0j,RepT.flat] using hc 13 _ rfl⟩
theorem Z88:Z8i Tryz.prog 64 Z0j:=
 ⟨by kernel_rfl,fun H enc w base spare held n cs x h=>by
  have hl2:cs.length=14:=(Z4a Tryz.underlying64 h).trans (by kernel_rfl);obtain ⟨m0,y0,h0⟩:=Z0y Tryz.underlying64 h 0 rfl 62 0 12 rfl rfl (by kernel_rfl);obtain ⟨m1,y1,h1⟩:=Z0y Tryz.underlying64 h 1 rfl 3 12 1 rfl rfl (by kernel_rfl);obtain ⟨m2,y2,h2⟩:=Z0y Tryz.underlying64 h 2 rfl 3 13 1 rfl rfl (by kernel_rfl)
  match cs,hl2 with
  | [v0,v1,v2,v3,v4,v5,v6,v7,v8,v9,v10,v11,v12,v13],_=>
    simp at h0 h1 h2;obtain ⟨a0,e0⟩:=Zgh.2 H enc w base spare held _ _ _ h0;have e0:_=Elem.cells a0:=e0;simp [Elem.cells] at e0;obtain ⟨a1,e1,_⟩:=DataW.trod_int Tryz.underlying3 h1;simp at e1;obtain ⟨a2,e2,_⟩:=DataW.trod_int Tryz.underlying3 h2;simp at e2;obtain ⟨rfl,rfl,rfl,rfl,rfl,rfl,rfl,rfl,rfl,rfl,rfl,rfl⟩:=e0;subst e1;subst e2
    exact ⟨⟨a0,a1,a2⟩,rfl⟩⟩
structure Z4y where
 cond:Z0a
 binds:List Z13
def Z14 (n:Nat):RepT Z4y:=
 { size:=8,rep:=fun D w x cs=>∃A1 c1 A2 c2 A3 c3 A4 c4,cs = [.int .i64 x.cond.kind,.bool x.cond.goal,.string x.cond.id,.slice A1 x.cond.attr.length c1,.slice A2 x.cond.value.length c2,.bool x.cond.acc,.slice A3 x.cond.conds.length c3,.slice A4 x.binds.length c4]∧RowR Z03 D w A1 c1 x.cond.attr∧RowR Z03 D w A2 c2 x.cond.value∧RowR (Z06 n) D w A3 c3 x.cond.conds∧RowR Z1n D w A4 c4 x.binds,
   len:=by rintro _ _ _ _ ⟨_,_,_,_,_,_,_,_,rfl,_⟩;rfl,
   keep:=by
    rintro _ _ _ _ _ _ hs hk ⟨A1,c1,A2,c2,A3,c3,A4,c4,h0,h1,h2,h3,h4⟩
    exact ⟨A1,c1,A2,c2,A3,c3,A4,c4,h0,h1.keep hs hk,h2.keep hs hk,h3.keep hs hk,h4.keep hs hk⟩ }
theorem Zel {n:Nat}{D:Nat→Prop}{w:World}{A:Option Addr}{c k:Nat}{l:List Z4y}(h:RowR (Z14 n) D w A c l) (hk:k<l.length):∃g off A1 c1 A2 c2 A3 c3 A4 c4,A=some ⟨g,off,none⟩∧D g∧g<w.heap.size∧w.cell? ⟨g,off+k*8,none⟩=some (.int .i64 l[k].cond.kind)∧w.cell? ⟨g,off+k*8+1,none⟩=some (.bool l[k].cond.goal)∧w.cell? ⟨g,off+k*8+2,none⟩=some (.string l[k].cond.id)∧w.cell? ⟨g,off+k*8+3,none⟩=some (.slice A1 l[k].cond.attr.length c1)∧w.cell? ⟨g,off+k*8+4,none⟩=some (.slice A2 l[k].cond.value.length c2)∧w.cell? ⟨g,off+k*8+5,none⟩=some (.bool l[k].cond.acc)∧w.cell? ⟨g,off+k*8+6,none⟩=some (.slice A3 l[k].cond.conds.length c3)∧w.cell? ⟨g,off+k*8+7,none⟩=some (.slice A4 l[k].binds.length c4)∧RowR Z03 D w A1 c1 l[k].cond.attr∧RowR Z03 D w A2 c2 l[k].cond.value∧RowR (Z06 n) D w A3 c3 l[k].cond.conds∧RowR Z1n D w A4 c4 l[k].binds:=by
 obtain ⟨g,off,cs,hA,hD,hg,⟨A1,c1,A2,c2,A3,c3,A4,c4,rfl,hrs⟩,hc⟩:=h.at_ hk;exact ⟨g,off,A1,c1,A2,c2,A3,c3,A4,c4,hA,hD,hg,by simpa [Z14] using hc 0 _ rfl,by simpa [Z14] using hc 1 _ rfl,by simpa [Z14] using hc 2 _ rfl,by simpa [Z14] using hc 3 _ rfl,by simpa [Z14] using hc 4 _ rfl,by simpa [Z14] using hc 5 _ rfl,by simpa [Z14] using hc 6 _ rfl,by simpa [Z14] using hc 7 _ rfl,hrs⟩
structure Z09 where
 a:Sym
 b:Sym
 rel:Int
def Z09.cells (x:Z09):List Value:=[.int .i64 x.a.kind,.string x.a.text,.int .i64 x.a.n,.int .i64 x.b.kind,.string x.b.text,.int .i64 x.b.n,.int .i64 x.rel]
theorem Z09.cells_length (x:Z09):x.cells.length=7:=rfl
def Z1o:RepT Z09:=RepT.flat 7 Z09.cells Z09.cells_length
theorem Zbs {D:Nat→Prop}{w:World}{A:Option Addr}{c k:Nat}{l:List Z09}(h:RowR Z1o D w A c l) (hk:k<l.length):∃g off,A=some ⟨g,off,none⟩∧D g∧g<w.heap.size∧w.cell? ⟨g,off+k*7,none⟩=some (.int .i64 l[k].a.kind)∧w.cell? ⟨g,off+k*7+1,none⟩=some (.string l[k].a.text)∧w.cell? ⟨g,off+k*7+2,none⟩=some (.int .i64 l[k].a.n)∧w.cell? ⟨g,off+k*7+3,none⟩=some (.int .i64 l[k].b.kind)∧w.cell? ⟨g,off+k*7+4,none⟩=some (.string l[k].b.text)∧w.cell? ⟨g,off+k*7+5,none⟩=some (.int .i64 l[k].b.n)∧w.cell? ⟨g,off+k*7+6,none⟩=some (.int .i64 l[k].rel):=by
 obtain ⟨g,off,cs,hA,hD,hg,hr,hc⟩:=h.at_ hk;have hr2:cs=Z09.cells l[k]:=hr;subst hr2;refine ⟨g,off,hA,hD,hg,by simpa [Z1o,RepT.flat] using hc 0 _ rfl,by simpa [Z1o,RepT.flat] using hc 1 _ rfl,by simpa [Z1o,RepT.flat] using hc 2 _ rfl,by simpa [Z1o,RepT.flat] using hc 3 _ rfl,by simpa [Z1o,RepT.flat] using hc 4 _ rfl,by simpa [Z1o,RepT.flat] using hc 5 _ rfl,by simpa [Z1o,RepT.flat] using hc 6 _ rfl⟩
structure Z0e where
 num:Int
 level:Int
 elems:List Z07
 holes:List Z4y
 aparts:List Z09
 news:List Sym
def Z29 (n:Nat):RepT Z0e:=
 { size:=6,rep:=fun D w x cs=>∃A1 c1 A2 c2 A3 c3 A4 c4,cs = [.int .i64 x.num,.int .i64 x.level,.slice A1 x.elems.length c1,.slice A2 x.holes.length c2,.slice A3 x.aparts.length c3,.slice A4 x.news.length c4]∧RowR Z0j D w A1 c1 x.elems∧RowR (Z14 n) D w A2 c2 x.holes∧RowR Z1o D w A3 c3 x.aparts∧RowR Z24 D w A4 c4 x.news,
   len:=by rintro _ _ _ _ ⟨_,_,_,_,_,_,_,_,rfl,_⟩;rfl,
   keep:=by
    rintro _ _ _ _ _ _ hs hk ⟨A1,c1,A2,c2,A3,c3,A4,c4,h0,h1,h2,h3,h4⟩
    exact ⟨A1,c1,A2,c2,A3,c3,A4,c4,h0,h1.keep hs hk,h2.keep hs hk,h3.keep hs hk,h4.keep hs hk⟩ }
theorem Zfp {n:Nat}{D:Nat→Prop}{w:World}{A:Option Addr}{c k:Nat}{l:List Z0e}(h:RowR (Z29 n) D w A c l) (hk:k<l.length):∃g off A1 c1 A2 c2 A3 c3 A4 c4,A=some ⟨g,off,none⟩∧D g∧g<w.heap.size∧w.cell? ⟨g,off+k*6,none⟩=some (.int .i64 l[k].num)∧w.cell? ⟨g,off+k*6+1,none⟩=some (.int .i64 l[k].level)∧w.cell? ⟨g,off+k*6+2,none⟩=some (.slice A1 l[k].elems.length c1)∧w.cell? ⟨g,off+k*6+3,none⟩=some (.slice A2 l[k].holes.length c2)∧w.cell? ⟨g,off+k*6+4,none⟩=some (.slice A3 l[k].aparts.length c3)∧w.cell? ⟨g,off+k*6+5,none⟩=some (.slice A4 l[k].news.length c4)∧RowR Z0j D w A1 c1 l[k].elems∧RowR (Z14 n) D w A2 c2 l[k].holes∧RowR Z1o D w A3 c3 l[k].aparts∧RowR Z24 D w A4 c4 l[k].news:=by
 obtain ⟨g,off,cs,hA,hD,hg,⟨A1,c1,A2,c2,A3,c3,A4,c4,rfl,hrs⟩,hc⟩:=h.at_ hk;exact ⟨g,off,A1,c1,A2,c2,A3,c3,A4,c4,hA,hD,hg,by simpa [Z29] using hc 0 _ rfl,by simpa [Z29] using hc 1 _ rfl,by simpa [Z29] using hc 2 _ rfl,by simpa [Z29] using hc 3 _ rfl,by simpa [Z29] using hc 4 _ rfl,by simpa [Z29] using hc 5 _ rfl,hrs⟩
end
section
def oneN (s:ByteArray):List ByteArray:=if s.toList = [] then [] else [s]
theorem Z7w {s:ByteArray}(h:s.toList = []):oneN s = []:=by rw [oneN,if_pos h]
theorem Z67 {s:ByteArray}(h :¬s.toList = []):oneN s = [s]:=by rw [oneN,if_neg h]
def Z1s (l:List Z1r):List ByteArray:=l.flatMap fun t=>oneN t.var
def Z0b:Nat→Z0a→List ByteArray
 | 0,_=>[]
 | n+1,c=>oneN c.id++(Z1s c.attr++(Z1s c.value++c.conds.flatMap (Z0b n)))
theorem Zf4 (s:ByteArray):(oneN s).length≤1:=by unfold oneN;split<;>simp
theorem Z7f (l:List Z1r):(Z1s l).length≤l.length:=by
 unfold Z1s
 induction l with
 | nil=>simp
 | cons t l ih=>have:=Zf4 t.var;rw [Zoo,Znp,Zo4];omega
theorem Zak {l:List Z1r}{i:Nat}(h:i<l.length):Z1s (l.drop i)=oneN l[i].var++Z1s (l.drop (i+1)):=by
 unfold Z1s;rw [Zol h,Zoo]
def Z85 (v:ByteArray):Array Value:=#[.string v]
end
section
open Go.RowKit
def Z3k (c:UInt8):Bool:=decide (97≤c.toNat) && decide (c.toNat≤122)
def Z31 (c:UInt8):Bool:=decide (65≤c.toNat) && decide (c.toNat≤90)
def Z6b (c:UInt8):Bool:=decide (48≤c.toNat) && decide (c.toNat≤57)
def Z9u (c:UInt8):Bool:=Z3k c ||Z6b c ||c.toNat == 45 ||c.toNat == 95
def Z17 (t:ByteArray):Bool:=decide (1≤t.size) && decide (t.size≤32) && t.data.toList.head?.any Z3k && t.data.toList.all Z9u
theorem Z7t {t:ByteArray}:Z17 t=true↔∃h:0<t.size,t.size≤32∧Z3k t[0]=true∧∀k,(h:k<t.size)→Z9u t[k]=true:=by
 unfold Z17;rw [Zod,Zod,Zod,decide_eq_true_iff,decide_eq_true_iff,Zow];have hs:t.data.toList.length=t.size:=Array.length_toList;constructor
 · rintro ⟨⟨⟨h1,h2⟩,h3⟩,h4⟩
   refine ⟨h1,h2,?_,fun k h=>h4 _ ?_⟩
   · rw [List.head?_eq_getElem?,Znq (by omega)] at h3
     exact (by simpa only [Option.any_some,Array.getElem_toList] using h3:Z3k t.data[0]=true)
   · have:t[k]=t.data.toList[k]'(by omega):=by rw [Array.getElem_toList];rfl
     rw [this];exact Zo8 _
 · rintro ⟨h1,h2,h3,h4⟩
   refine ⟨⟨⟨h1,h2⟩,?_⟩,fun x hx=>?_⟩
   · rw [List.head?_eq_getElem?,Znq (by omega)]
     rw [Option.any_some,Array.getElem_toList];exact h3
   · obtain ⟨k,hk,rfl⟩:=List.getElem_of_mem hx
     have:=h4 k (by omega);rw [Array.getElem_toList];exact this
theorem Z3f {t:ByteArray}(h :¬∃h:0<t.size,t.size≤32∧Z3k t[0]=true∧∀k,(h:k<t.size)→Z9u t[k]=true):Z17 t=false:=by
 cases e:Z17 t
 · rfl
 · exact absurd (Z7t.1 e) h
theorem Zbk (c:UInt8) (w:World):Calls Tryz.prog 142 #[.int .u8 (c.toNat:Int)] w fun e w'=>e = .returned (.bool (Z3k c))∧w=w':=by
 by_cases h1:97≤c.toNat
 · have t1:decide ((97:Int)≤(c.toNat:Int))=true:=by simp;omega
   by_cases h2:c.toNat≤122
   · have t2:decide ((c.toNat:Int)≤122)=true:=by simp;omega
     (have HF:Hid (Z3k c=true):=by simp [Hid,Z3k,h1,h2]);clear h1 h2;go_enter Tryz.func142,Tryz.ntmps142;go_wp2;go_ret;exact ⟨by rw [HF.out];rfl,rfl⟩
   · have t2:decide ((c.toNat:Int)≤122)=false:=by simp;omega
     (have HF:Hid (Z3k c=false):=by simp [Hid,Z3k,h2]);clear h1 h2;go_enter Tryz.func142,Tryz.ntmps142;go_wp2;go_ret;exact ⟨by rw [HF.out];rfl,rfl⟩
 · have t1:decide ((97:Int)≤(c.toNat:Int))=false:=by simp;omega
   (have HF:Hid (Z3k c=false):=by simp [Hid,Z3k,h1]);clear h1;go_enter Tryz.func142,Tryz.ntmps142;go_wp2;go_ret;exact ⟨by rw [HF.out];rfl,rfl⟩
theorem Zjs (c:UInt8) (w:World):Calls Tryz.prog 96 #[.int .u8 (c.toNat:Int)] w fun e w'=>e = .returned (.bool (Z31 c))∧w=w':=by
 by_cases h1:65≤c.toNat
 · have t1:decide ((65:Int)≤(c.toNat:Int))=true:=by simp;omega
   by_cases h2:c.toNat≤90
   · have t2:decide ((c.toNat:Int)≤90)=true:=by simp;omega
     (have HF:Hid (Z31 c=true):=by simp [Hid,Z31,h1,h2]);clear h1 h2;go_enter Tryz.func96,Tryz.ntmps96;go_wp2;go_ret;exact ⟨by rw [HF.out];rfl,rfl⟩
   · have t2:decide ((c.toNat:Int)≤90)=false:=by simp;omega
     (have HF:Hid (Z31 c=false):=by simp [Hid,Z31,h2]);clear h1 h2;go_enter Tryz.func96,Tryz.ntmps96;go_wp2;go_ret;exact ⟨by rw [HF.out];rfl,rfl⟩
 · have t1:decide ((65:Int)≤(c.toNat:Int))=false:=by simp;omega
   (have HF:Hid (Z31 c=false):=by simp [Hid,Z31,h1]);clear h1;go_enter Tryz.func96,Tryz.ntmps96;go_wp2;go_ret;exact ⟨by rw [HF.out];rfl,rfl⟩
theorem Zjm (c:UInt8) (w:World):Calls Tryz.prog 143 #[.int .u8 (c.toNat:Int)] w fun e w'=>e = .returned (.bool (Z6b c))∧w=w':=by
 by_cases h1:48≤c.toNat
 · have t1:decide ((48:Int)≤(c.toNat:Int))=true:=by simp;omega
   by_cases h2:c.toNat≤57
   · have t2:decide ((c.toNat:Int)≤57)=true:=by simp;omega
     (have HF:Hid (Z6b c=true):=by simp [Hid,Z6b,h1,h2]);clear h1 h2;go_enter Tryz.func143,Tryz.ntmps143;go_wp2;go_ret;exact ⟨by rw [HF.out];rfl,rfl⟩
   · have t2:decide ((c.toNat:Int)≤57)=false:=by simp;omega
     (have HF:Hid (Z6b c=false):=by simp [Hid,Z6b,h2]);clear h1 h2;go_enter Tryz.func143,Tryz.ntmps143;go_wp2;go_ret;exact ⟨by rw [HF.out];rfl,rfl⟩
 · have t1:decide ((48:Int)≤(c.toNat:Int))=false:=by simp;omega
   (have HF:Hid (Z6b c=false):=by simp [Hid,Z6b,h1]);clear h1;go_enter Tryz.func143,Tryz.ntmps143;go_wp2;go_ret;exact ⟨by rw [HF.out];rfl,rfl⟩
theorem Zig (c:UInt8) (w:World):Calls Tryz.prog 144 #[.int .u8 (c.toNat:Int)] w fun e w'=>e = .returned (.bool (Z9u c))∧w=w':=by
 have HF:Hid (Z9u c=(((decide (97≤c.toNat) && decide (c.toNat≤122)) ||(decide (48≤c.toNat) && decide (c.toNat≤57))) ||decide (c.toNat=45) ||decide (c.toNat=95))):=rfl;(have t1:decide ((97:Int)≤(c.toNat:Int))=decide (97≤c.toNat):=by apply decide_eq_decide.2;omega);(have t2:decide ((c.toNat:Int)≤122)=decide (c.toNat≤122):=by apply decide_eq_decide.2;omega);(have t3:decide ((48:Int)≤(c.toNat:Int))=decide (48≤c.toNat):=by apply decide_eq_decide.2;omega);(have t4:decide ((c.toNat:Int)≤57)=decide (c.toNat≤57):=by apply decide_eq_decide.2;omega);(have t5:((c.toNat:Int) == 45)=decide (c.toNat=45):=by rw [Zp4];simp;omega);(have t6:((c.toNat:Int) == 95)=decide (c.toNat=95):=by rw [Zp4];simp;omega);cases h1:decide (97≤c.toNat)<;>cases h2:decide (c.toNat≤122)<;>cases h3:decide (48≤c.toNat)<;>cases h4:decide (c.toNat≤57)<;>cases h5:decide (c.toNat=45)<;>cases h6:decide (c.toNat=95)
 all_goals
  rw [h1] at t1;rw [h2] at t2;rw [h3] at t3;rw [h4] at t4;rw [h5] at t5;rw [h6] at t6;have HF2:=HF.out;rw [h1,h2,h3,h4,h5,h6] at HF2;have HF3:=hid HF2;clear h1 h2 h3 h4 h5 h6 HF HF2;go_enter Tryz.func144,Tryz.ntmps144;go_wp2;go_ret;exact ⟨by rw [HF3.out];rfl,rfl⟩
theorem Z3v (t:ByteArray) (w:World):Calls Tryz.prog 98 #[.string t] w fun e w'=>e = .returned (.bool (Z17 t))∧w=w':=by
 by_cases h1:t.size<1
 · have t1:decide ((t.size:Int)<1)=true:=by simp;omega
   have HF:=hid (Z3f (t:=t) (fun ⟨h,_⟩=>by omega));clear h1;go_enter Tryz.func98,Tryz.ntmps98;go_wp2;go_ret;exact ⟨by rw [HF.out];rfl,rfl⟩
 (have t1:decide ((t.size:Int)<1)=false:=by simp;omega);by_cases h2:32<t.size
 · have t2:decide ((32:Int)<(t.size:Int))=true:=by simp;omega
   have HF:=hid (Z3f (t:=t) (fun ⟨h,h3,_⟩=>by omega));clear h1 h2;go_enter Tryz.func98,Tryz.ntmps98;go_wp2;go_ret;exact ⟨by rw [HF.out];rfl,rfl⟩
 (have t2:decide ((32:Int)<(t.size:Int))=false:=by simp;omega);(have h0:0<t.size:=by omega);(have h32:t.size≤32:=by omega);clear h1 h2;cases h3:Z3k t[0]
 · have HF:=hid (Z3f (t:=t) (fun ⟨h,_,h4,_⟩=>by rw [h3] at h4;cases h4))
   go_enter Tryz.func98,Tryz.ntmps98;(go_wp2_with (go_at_call 142;refine (Zbk _ _).mono ?_;rintro e w' ⟨rfl,rfl⟩));go_ret;exact ⟨by rw [HF.out];rfl,rfl⟩
 go_enter Tryz.func98,Tryz.ntmps98;(go_wp2_with (go_at_call 142;refine (Zbk _ _).mono ?_;rintro e w' ⟨rfl,rfl⟩));have H3:=hid h3;clear h3 t1 t2
 go_loop [3] (fun s=>∃i:Nat,s = .int .i64 i∧1≤i∧i≤t.size∧∀k,(h:k<t.size)→k<i→Z9u t[k]=true) (fun s=>t.size - (intOf s).toNat)
 case atStart=>exact ⟨1,rfl,Znl _,h0,fun k h hk=>by obtain rfl:k=0:=by omega
                                                    simp [Z9u,H3.out]⟩
 case round=>
  obtain ⟨i,rfl,hi1,hi,hall⟩:=hrel;have HALL:=hid hall;clear hall;by_cases hlt:i<t.size
  · have HP:Hid (Z9u t[i]=(Z3k t[i] ||Z6b t[i] ||decide (t[i].toNat=45) ||decide (t[i].toNat=95))):=rfl
    (have t5:((t[i].toNat:Int) != 45) = !decide (t[i].toNat=45):=by rw [Zp4];simp;omega);(have t6:((t[i].toNat:Int) != 95) = !decide (t[i].toNat=95):=by rw [Zp4];simp;omega);cases hs:Z3k t[i]<;>cases hd:Z6b t[i]<;>cases h5:decide (t[i].toNat=45)<;>cases h6:decide (t[i].toNat=95)
    all_goals
     rw [h5] at t5;rw [h6] at t6;simp only [Bool.not_true,Bool.not_false] at t5 t6;have HF1:=HP.out;rw [hs,hd,h5,h6] at HF1;have HF2:=hid HF1;clear h5 h6 HP HF1;go_wp2_with (first|(go_at_call 142;refine (Zbk _ _).mono ?_;rintro e w' ⟨rfl,rfl⟩)|(go_at_call 143;refine (Zjm _ _).mono ?_;rintro e w' ⟨rfl,rfl⟩))
     first
      | (go_ret
         refine ⟨?_,rfl⟩
         rw [Z3f (t:=t) (fun ⟨_,_,_,h⟩=>by have h2:=h i hlt;rw [HF2.out] at h2;exact absurd h2 (by decide))];rfl)
      | (go_round
         case rel=>exact ⟨i+1,by go_num,by omega,by omega,fun k h hk=>by
          rcases Nat.lt_or_ge k i with h3|h3
          · exact HALL.out k h h3
          · obtain rfl:k=i:=by omega
            rw [HF2.out];rfl⟩
         case measure=>simp [intOf]<;>omega)
  · have hie:i=t.size:=by omega
    subst hie;go_wp2;go_ret;exact ⟨by rw [Z7t.2 ⟨h0,h32,H3.out,fun k h=>HALL.out k h h⟩];rfl,rfl⟩
theorem Z49 (t:ByteArray) (w:World):Calls Tryz.prog 103 #[.string t] w fun e w'=>e = .returned (.bool (Z17 t))∧w=w':=by
 by_cases h1:t.size<1
 · have t1:decide ((t.size:Int)<1)=true:=by simp;omega
   have HF:=hid (Z3f (t:=t) (fun ⟨h,_⟩=>by omega));clear h1;go_enter Tryz.func103,Tryz.ntmps103;go_wp2;go_ret;exact ⟨by rw [HF.out];rfl,rfl⟩
 (have t1:decide ((t.size:Int)<1)=false:=by simp;omega);by_cases h2:32<t.size
 · have t2:decide ((32:Int)<(t.size:Int))=true:=by simp;omega
   have HF:=hid (Z3f (t:=t) (fun ⟨h,h3,_⟩=>by omega));clear h1 h2;go_enter Tryz.func103,Tryz.ntmps103;go_wp2;go_ret;exact ⟨by rw [HF.out];rfl,rfl⟩
 (have t2:decide ((32:Int)<(t.size:Int))=false:=by simp;omega);(have h0:0<t.size:=by omega);(have h32:t.size≤32:=by omega);clear h1 h2;by_cases h3:t[0].toNat<97
 · have t3:decide ((t[0].toNat:Int)<97)=true:=by simp;omega
   have HF:=hid (Z3f (t:=t) (fun ⟨h,_,h4,_⟩=>by simp [Z3k] at h4;omega));clear h3;go_enter Tryz.func103,Tryz.ntmps103;go_wp2;go_ret;exact ⟨by rw [HF.out];rfl,rfl⟩
 (have t3:decide ((t[0].toNat:Int)<97)=false:=by simp;omega);by_cases h4:122<t[0].toNat
 · have t4:decide ((122:Int)<(t[0].toNat:Int))=true:=by simp;omega
   have HF:=hid (Z3f (t:=t) (fun ⟨h,_,h4,_⟩=>by simp [Z3k] at h4;omega));clear h3 h4;go_enter Tryz.func103,Tryz.ntmps103;go_wp2;go_ret;exact ⟨by rw [HF.out];rfl,rfl⟩
 (have t4:decide ((122:Int)<(t[0].toNat:Int))=false:=by simp;omega);(have h5:Z3k t[0]=true:=by simp [Z3k];omega);have H5:=hid h5;clear h3 h4 h5;go_enter Tryz.func103,Tryz.ntmps103;go_wp2;clear t1 t2 t3 t4
 go_loop [3] (fun s=>∃i:Nat,s = .int .i64 i∧i≤t.size∧∀k,(h:k<t.size)→k<i→Z9u t[k]=true) (fun s=>t.size - (intOf s).toNat)
 case atStart=>exact ⟨0,rfl,Nat.zero_le _,fun k h hk=>by omega⟩
 case round=>
  obtain ⟨i,rfl,hi,hall⟩:=hrel;have HALL:=hid hall;clear hall;by_cases hlt:i<t.size
  · cases hp:Z9u t[i]
    · go_wp2_with (go_at_call 144;refine (Zig _ _).mono ?_;rintro e w' ⟨rfl,rfl⟩)
      go_ret;refine ⟨?_,rfl⟩;rw [Z3f (t:=t) (fun ⟨_,_,_,h⟩=>by have h2:=h i hlt;rw [hp] at h2;cases h2)];rfl
    · have HP:=hid hp
      go_wp2_with (go_at_call 144;refine (Zig _ _).mono ?_;rintro e w' ⟨rfl,rfl⟩)
      go_round
      case rel=>exact ⟨i+1,by go_num,by omega,fun k h hk=>by
              rcases Nat.lt_or_ge k i with h3|h3
              · exact HALL.out k h h3
              · obtain rfl:k=i:=by omega
                exact HP.out⟩
      case measure=>simp [intOf]<;>omega
  · have hie:i=t.size:=by omega
    subst hie;go_wp2;go_ret;exact ⟨by rw [Z7t.2 ⟨h0,h32,H5.out,fun k h=>HALL.out k h h⟩];rfl,rfl⟩
end
section
section
variable {P:Program}{ops:Array Oper}{Q:Exit→Act→World→Prop}{S:World→Prop}
inductive Pl where
 | fin (l:List (Nat×Cls))
 | fork (l:List (Nat×Cls)) (i:Nat) (r:Pl) (j:Nat) (s:Pl)
def setL (listed:Array Bool) (l:List (Nat×Cls)):Array Bool:=l.foldl (fun g x=>g.setIfInBounds x.1 true) listed
def okL (ops:Array Oper):List (Nat×Cls)→Array Bool→Bool
 | [],_=>true
 | (k,c) :: rest,listed=>(if c == 2 then Region.ready .any ops listed == [k] else (Region.ready .any ops listed).contains k && Region.free .any ops listed k) && okL ops rest (listed.setIfInBounds k true)
def chkL (qs ls:List Nat) (l:List (Nat×Cls)):Bool:=l.all fun (k,c)=>(c != 2) == qs.contains k && (c != 1 ||ls.contains k)
def okPl (ops:Array Oper) (qs ls:List Nat):Pl→Nat→Array Bool→Bool
 | .fin l,n,listed=>n == l.length && chkL qs ls l && okL ops l listed && (Region.ready .any ops (setL listed l)).isEmpty && l.all fun x=>x.1<ops.size
 | .fork l i r j s,n,listed=>decide (l.length+1≤n) && chkL qs ls l && okL ops l listed && (l.all fun x=>x.1<ops.size) && Region.ready .any ops (setL listed l) == [i,j] && !qs.contains i && !qs.contains j &&
  okPl ops qs ls r (n - l.length - 1) ((setL listed l).setIfInBounds i true) && okPl ops qs ls s (n - l.length - 1) ((setL listed l).setIfInBounds j true)
def wpY (P:Program) (ops:Array Oper) (Q:Exit→Act→World→Prop) (S:World→Prop) (ns:Nat→Bool) (R:Act→World→Prop):List (Nat×Cls×Oper)→Act→World→Prop
 | [],a,w=>R a w
 | (i,c,o) :: rest,a,w=>
   if c=2 then (if Region.wanted o (yielded ops a.tmps)=true then o.wp P a w (fun a' w'=>(ns i=true→S w')∧wpY P ops Q S ns R rest a' w') Q else (ns i=true→S w)∧wpY P ops Q S ns R rest (a.put o.dst undef) w)
   else ∃v,(if c=1 then YieldsIf P ops S o v a∧S w else Yields P ops o v a)∧wpY P ops Q S ns R rest (a.put o.dst v) w
def wpPl (P:Program) (ops:Array Oper) (Q:Exit→Act→World→Prop) (S:World→Prop) (ns:Nat→Bool):Pl→Act→World→Prop
 | .fin l,a,w=>wpY P ops Q S ns (fun a w=>Q .normal a w) (Z0w ops l) a w
 | .fork l i r j s,a,w=>wpY P ops Q S ns (fun a w=>wpOp P ops Q i (fun a' w'=>(ns i=true→S w')∧wpPl P ops Q S ns r a' w') a w∧wpOp P ops Q j (fun a' w'=>(ns j=true→S w')∧wpPl P ops Q S ns s a' w') a w) (Z0w ops l) a w
theorem Z8z :∀(l:List (Nat×Cls)) (listed:Array Bool),Z5j ops listed→okL ops l listed=true→Z5j ops (setL listed l)
 | [],_,h,_=>h
 | (k,c) :: rest,listed,h,hB=>by
   simp only [okL,Zod] at hB;refine Z8z rest _ (Z2r h ?_) hB.2;by_cases hc:c=2
   · subst hc
     have hB1:=hB.1;simp only [beq_self_eq_true,if_true] at hB1;(have hr:Region.ready .any ops listed = [k]:=by simpa using hB1);rw [hr];simp
   · have hB1:=hB.1
     rw [if_neg (by simpa using hc)] at hB1;simp only [Zod] at hB1;simpa using hB1.1
theorem Z6t {qt ns:Nat→Bool}{R:Act→World→Prop}{n:Nat}(hsel:Region.noSelect ops=true) (hQ :∀c a a' w,Q (.panic c) a w→Q (.panic c) a' w) :
 ∀(rest:List (Nat×Cls)) (listed:Array Bool) (a:Act) (w:World),Z5j ops listed→okL ops rest listed=true→(∀x∈rest,x.1<ops.size)→
  (∀k c,(k,c)∈rest→(qt k=true↔c≠2))→(∀k,(k,1)∈rest→∀j,Z45 ops ops.size j k=false→j≠k→j<ops.size→ns j=true)→
  (∀a w,R a w→Z8e P ops Q S qt ns n (setL listed rest) a w)→wpY P ops Q S ns R (Z0w ops rest) a w→Z8e P ops Q S qt ns (rest.length+n) listed a w
 | [],listed,a,w,_,_,_,_,_,hR,h=>by
   have:=hR a w h;simpa [setL] using this
 | (k,c) :: rest,listed,a,w,hcl,hB,hl,hqt,hns,hR,h=>by
   simp only [okL,Zod] at hB;obtain ⟨hB1,hB2⟩:=hB;have hi:k<ops.size:=hl (k,c) (by simp);have ho:ops[k]? = some ops[k]:=Array.getElem?_eq_getElem hi;(have hb:Z0w ops ((k,c) :: rest)=(k,c,ops[k]) :: Z0w ops rest:=by simp [Z0w,ho]);have ih:=fun listed' a w hcl' hB' hR' h'=>Z6t (R:=R) (n:=n) hsel hQ rest listed' a w hcl' hB' (fun x hx=>hl x (by simp [hx])) (fun k c hk=>hqt k c (by simp [hk])) (fun k hk=>hns k (by simp [hk])) hR' h';rw [hb] at h;simp only [wpY] at h;(have hlen:((k,c) :: rest).length+n=(rest.length+n)+1:=by simp;omega);rw [hlen];by_cases hc:c=2
   · subst hc
     simp only [beq_self_eq_true,if_true] at hB1;(have hr:Region.ready .any ops listed = [k]:=by simpa using hB1);simp only [if_true] at h;have hcl2:=Z2r hcl (i:=k) (by rw [hr];simp);refine ⟨fun h0=>(by rw [hr] at h0;cases h0),fun i hi'=>?_⟩;rw [hr] at hi';obtain rfl:i=k:=by simpa using hi'
     have hbh :∀w',(ns i=true→S w')→Z6y S qt ns i w w':=fun w' hs=>by
      unfold Z6y;rw [if_neg (fun hq=>(hqt i 2 (by simp)).1 hq rfl)];exact hs
     unfold wpOp;simp only [ho]
     split
     · rename_i hw
       rw [if_pos hw] at h;exact .inl (Oper.wp_mono (fun a' w' h'=>⟨hbh w' h'.1,ih _ a' w' hcl2 hB2 hR h'.2⟩) h)
     · rename_i hw
       rw [if_neg hw] at h;exact ⟨hbh w h.1,ih _ _ w hcl2 hB2 hR h.2⟩
   · rw [if_neg (by simpa using hc)] at hB1
     simp only [Zod] at hB1;rw [if_neg hc] at h;obtain ⟨v,hy,hk⟩:=h;(have hrdy:k∈Region.ready .any ops listed:=by simpa using hB1.1);have hrest:=ih _ _ w (Z2r hcl hrdy) hB2 hR hk;by_cases h1:c=1
     · subst h1
       rw [if_pos rfl] at hy
       exact Z4w ho (Region.noSelect_spec hsel) (fun c a w=>hQ c _ _ w) true ((hqt k 1 (by simp)).2 hc) (fun _=>hns k (by simp)) (rest.length+n) listed a w hcl (Region.free_spec ho hB1.2) hrdy
        (hy.1.imp (fun ⟨p,q⟩=>⟨p,fun w' hw'=>q w' (hw' rfl)⟩) id) (fun _=>hy.2) hrest
     · rw [if_neg h1] at hy
       exact Z4w ho (Region.noSelect_spec hsel) (fun c a w=>hQ c _ _ w) false ((hqt k c (by simp)).2 hc) (fun h=>by cases h) (rest.length+n) listed a w hcl (Region.free_spec ho hB1.2) hrdy
        (hy.imp (fun ⟨p,q⟩=>⟨p,fun w' _=>q w'⟩) id) (fun h=>by cases h) hrest
theorem Zj9 {qs ls:List Nat}(hsel:Region.noSelect ops=true) (hQ :∀c a a' w,Q (.panic c) a w→Q (.panic c) a' w) (p:Pl) :
 ∀(n:Nat) (listed:Array Bool) (a:Act) (w:World),Z5j ops listed→okPl ops qs ls p n listed=true→
  wpPl P ops Q S (fun j=>ls.any fun k=>k != j && !Z45 ops ops.size j k) p a w→Z8e P ops Q S (fun k=>qs.contains k) (fun j=>ls.any fun k=>k != j && !Z45 ops ops.size j k) n listed a w:=by
 have hq :∀l,chkL qs ls l=true→∀k c,(k,c)∈l→(qs.contains k=true↔c≠2):=fun l hl k c hk=>by
  have:=Zow.1 hl (k,c) hk;simp only [Zod,beq_iff_eq] at this;rw [←this.1];simp
 have hn :∀l,chkL qs ls l=true→∀k,(k,1)∈l→∀j,Z45 ops ops.size j k=false→j≠k→j<ops.size→(ls.any fun k=>k != j && !Z45 ops ops.size j k)=true:=fun l hl k hk j hw hjk _=>by
  have:=Zow.1 hl (k,1) hk;simp only [Zod] at this;(have h2:ls.contains k=true:=by simpa using this.2);rw [Zp2];exact ⟨k,by simpa using h2,by rw [hw];simp [Ne.symm hjk]⟩
 induction p with
 | fin l=>
   intro n listed a w hcl hB h;simp only [okPl,Zod,beq_iff_eq] at hB;obtain ⟨⟨⟨⟨rfl,hc⟩,hL⟩,he⟩,hlt⟩:=hB
   have:=Z6t (P:=P) (Q:=Q) (S:=S) (qt:=fun k=>qs.contains k) (ns:=fun j=>ls.any fun k=>k != j && !Z45 ops ops.size j k) (R:=fun a w=>Q .normal a w) (n:=0) hsel hQ l listed a w hcl hL (by simpa [Zow] using hlt) (hq l hc) (hn l hc)
    (fun a w h=>⟨by simpa using he,h⟩) h
   simpa using this
 | fork l i r j s ihr ihs=>
   intro n listed a w hcl hB h;simp only [okPl,Zod,beq_iff_eq,Zp0,Bool.not_eq_true'] at hB;obtain ⟨⟨⟨⟨⟨⟨⟨⟨hlen,hc⟩,hL⟩,hlt⟩,hrd⟩,hqi⟩,hqj⟩,hr⟩,hs⟩:=hB;obtain ⟨m,rfl⟩:∃m,n=l.length+(m+1):=⟨n - l.length - 1,by omega⟩;(have em:l.length+(m+1) - l.length - 1=m:=by omega);rw [em] at hr hs;have hcl2:=Z8z l listed hcl hL;refine Z6t (P:=P) (Q:=Q) (S:=S) (qt:=fun k=>qs.contains k) (ns:=fun j=>ls.any fun k=>k != j && !Z45 ops ops.size j k) (n:=m+1) hsel hQ l listed a w hcl hL (by simpa [Zow] using hlt) (hq l hc) (hn l hc) (fun a w hR=>?_) h;refine ⟨fun h0=>(by rw [hrd] at h0;cases h0),fun k hk=>?_⟩;have hcl3:=Z2r hcl2 hk;rw [hrd] at hk;simp only [Zo5,Zo9,or_false] at hk;rcases hk with rfl|rfl
   · refine wpOp_mono (fun a' w' h'=>⟨?_,ihr m _ a' w' hcl3 hr h'.2⟩) hR.1
     unfold Z6y;rw [if_neg (by simp only [hqi];simp)];exact h'.1
   · refine wpOp_mono (fun a' w' h'=>⟨?_,ihs m _ a' w' hcl3 hs h'.2⟩) hR.2
     unfold Z6y;rw [if_neg (by simp only [hqj];simp)];exact h'.1
theorem Z40 {id:Nat}{l:List Oper}{a:Act}{w:World}(S:World→Prop) (qs ls:List Nat) (p:Pl) (hm:P.follows .mixedOrders=true) (hsel:Region.noSelect l.toArray=true)
 (hB:okPl l.toArray qs ls p l.toArray.size (Array.replicate l.toArray.size false)=true)
 (h :∀K:Act→World→Prop,(∀a w,Q .normal a w→K a w)→wpPl P l.toArray (Zao K) S (fun j=>ls.any fun k=>k != j && !Z45 l.toArray l.toArray.size j k) p a w.drew):(Code.region id l.toArray true).wp P Q a w:=by
 refine Code.wp_mono (Q:=Zao fun a w=>Q .normal a w) (fun e a w hq=>by cases e<;>first|exact hq|exact hq.elim) (wp_region_any hm ?_);(have hcl:Z5j l.toArray (Array.replicate l.toArray.size false):=fun m o hm=>by rw [getD_replicate_false] at hm;cases hm);exact Z7z _ _ _ _ (Zj9 (P:=P) (Q:=Zao fun a w=>Q .normal a w) (S:=S) hsel (fun c a a' w h=>h) p _ _ a w.drew hcl hB (h _ (fun _ _ h=>h)))
variable {ns:Nat→Bool}{R:Act→World→Prop}{rest:List (Nat×Cls×Oper)}{a:Act}{w:World}{i:Nat}{o:Oper}
theorem Z52 (h:R a w):wpY P ops Q S ns R [] a w:=h
theorem Z9y (v:Value) (hy:Yields P ops o v a) (h:wpY P ops Q S ns R rest (a.put o.dst v) w):wpY P ops Q S ns R ((i,0,o) :: rest) a w:=by
 simp only [wpY];exact ⟨v,by simpa using hy,h⟩
theorem Z9x (v:Value) (hS:S w) (hy:YieldsIf P ops S o v a) (h:wpY P ops Q S ns R rest (a.put o.dst v) w):wpY P ops Q S ns R ((i,1,o) :: rest) a w:=by
 simp only [wpY];exact ⟨v,by simpa using ⟨hy,hS⟩,h⟩
theorem Z6f
 (h :∀K:Act→World→Prop,(∀a w,S w→wpY P ops Q S ns R rest a w→K a w)→if Region.wanted o (yielded ops a.tmps)=true then Oper.wp P o a w K Q else K (a.put o.dst undef) w):wpY P ops Q S ns R ((i,2,o) :: rest) a w:=by
 have:=h (fun a' w'=>(ns i=true→S w')∧wpY P ops Q S ns R rest a' w') (fun a w h1 h2=>⟨fun _=>h1,h2⟩);simpa only [wpY,if_true] using this
theorem Z51 {C:World→Prop}{H:Act→World→Prop}(ho:ops[i]? = some o)
 (h :∀K:Act→World→Prop,(∀a w,C w→H a w→K a w)→if Region.wanted o (yielded ops a.tmps)=true then Oper.wp P o a w K Q else K (a.put o.dst undef) w) :
 wpOp P ops Q i (fun a' w'=>C w'∧H a' w') a w:=by
 have h2:=h (fun a' w'=>C w'∧H a' w') (fun a w h1 h2=>⟨h1,h2⟩);unfold wpOp;simp only [ho]
 split
 · rename_i hw
   rw [if_pos hw] at h2;exact .inl h2
 · rename_i hw
   rw [if_neg hw] at h2;exact h2
end
end
end Go.Proofs.YtfidcfjcmlgkbaaGreat
