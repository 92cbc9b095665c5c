/-
  Texts put together: Mem, Eager, Range, RangeP, RangeO, Store, RangeO2, Open, Rep, Rec.
-/
import Derived.WalkKit
import Derived.WalkSpells
import Derived.WalkLawsBesides
import Derived.Lib.Hide
import Derived.Deep.QuietTactic
import Derived.BigQuiet
import Derived.Deep.RegionHeld3
import Derived.Deep.AppendLies
import Derived.Maps.AppendAt
import Derived.StillTailTactics
import Derived.Maps.RangeWalk
import Derived.OrdersHeld
import Derived.StillTail
import Derived.RangeFuncNested
import Derived.RangeFuncBound
import Derived.RangeFuncCalls
import Derived.RangeFuncLeaves
import Derived.OrdersIn
import Derived.OwnWalkIn
import Derived.TacticsInMore
import Derived.LoopNIn
import Derived.LoopIn
import Derived.Shelf.Abstract
import Derived.Deep.MidRow
import Derived.ProofKit
import Derived.Carry
import Derived.ChangeSame
import Derived.Deep.Slices
import Derived.Deep.Strs
namespace Go.Proofs.Ytffemfglngikbaa
open Go.RowKit
theorem bcell {W w1:World} (hb:Below W.heap.size W w1):(∀b o,b<W.heap.size→w1.cell? ⟨b,o,none⟩=W.cell? ⟨b,o,none⟩)∧(∀b o,b<W.heap.size→w1.frozen? ⟨b,o,none⟩=W.frozen? ⟨b,o,none⟩):=
 ⟨fun b o h=>hb.cell (p:=⟨b,o,none⟩) h,fun b o h=>hb.frozen (p:=⟨b,o,none⟩) h⟩
theorem Below.drewN' {B:Nat} {a w:World} (h:Below B a w) (n:Nat):Below B a (w.drewN n):=⟨h.os,h.tape,h.output,h.size,h.block⟩
theorem Below.al {B:Nat} {a w:World} (h:Below B a w) (o:Obj) (hB:B≤w.heap.size:=by first | omega | (simp;done) | (simp;omega)):Below B a (w.alloc o):=h.alloc hB o
theorem Below.sc {B:Nat} {a w:World} {p:Addr} (h:Below B a w) (u:Value) (hB:B≤p.block:=by first | omega | (simp;done) | (simp;omega)):Below B a (w.setCell p u):=h.setCell hB u
structure Fr (M:Nat→Prop) (w w':World):Prop where
 os:w'.os=w.os
 tape:w'.tape=w.tape
 output:w'.output=w.output
 size:w.heap.size≤w'.heap.size
 block : ∀k,k<w.heap.size→¬M k→w'.heap[k]? = w.heap[k]?
section
variable {M M':Nat→Prop} {a b c w w':World}
theorem Fr.refl (M:Nat→Prop) (w:World):Fr M w w:=⟨rfl,rfl,rfl,Nat.le_refl _,fun _ _ _=>rfl⟩
theorem Fr.trans (h:Fr M a b) (k:Fr M b c):Fr M a c:=
 ⟨k.os.trans h.os,k.tape.trans h.tape,k.output.trans h.output,Nat.le_trans h.size k.size,fun i hi hn=>(k.block i (Nat.lt_of_lt_of_le hi h.size) hn).trans (h.block i hi hn)⟩
theorem Fr.mono (h:Fr M a b) (hm : ∀k,k<a.heap.size→M k→M' k):Fr M' a b:=⟨h.os,h.tape,h.output,h.size,fun k hk hn=>h.block k hk (fun h=>hn (hm k hk h))⟩
theorem Fr.of_below {B:Nat} (h:Below B a b):Fr (fun k=>B≤k) a b:=⟨h.os,h.tape,h.output,h.size,fun k _ hn=>h.block k (by omega)⟩
theorem Fr.of_new (h:Below a.heap.size a b):Fr M a b:=⟨h.os,h.tape,h.output,h.size,fun k hk _=>h.block k hk⟩
theorem Fr.below {B:Nat} (h:Fr M a b) (hB:B≤a.heap.size) (hm : ∀k,k<B→¬M k):Below B a b:=⟨h.os,h.tape,h.output,h.size,fun k hk=>h.block k (by omega) (hm k hk)⟩
theorem Fr.alloc (h:Fr M a b) (o:Obj):Fr M a (b.alloc o):=
 ⟨h.os,h.tape,h.output,Nat.le_trans h.size (by simp),fun k hk hn=>(Below.heap_alloc b o k (Nat.lt_of_lt_of_le hk h.size)).trans (h.block k hk hn)⟩
theorem Fr.drew (h:Fr M a b):Fr M a b.drew:=⟨h.os,h.tape,h.output,h.size,h.block⟩
theorem Fr.drewN (h:Fr M a b) (n:Nat):Fr M a (b.drewN n):=⟨h.os,h.tape,h.output,h.size,h.block⟩
theorem Fr.setCell (h:Fr M a b) {p:Addr} (hp:M p.block∨a.heap.size≤p.block) (u:Value):Fr M a (b.setCell p u):=
 ⟨h.os,h.tape,h.output,by simpa [World.setCell] using h.size,fun k hk hn=>(Below.heap_setCell b p u k (by
  rintro rfl
  rcases hp with hp | hp
  · exact hn hp
  · omega)).trans (h.block k hk hn)⟩
theorem Fr.grown {row:Option Nat} (h:Fr M a b) (hg:b.grownBy c row) (hr : ∀k,row=some k→M k∨a.heap.size≤k):Fr M a c:=
 ⟨hg.os.trans h.os,hg.tape.trans h.tape,hg.output.trans h.output,Nat.le_trans h.size hg.size,fun k hk hn=>(hg.block k (Nat.lt_of_lt_of_le hk h.size) (fun e=>by
  rcases hr k e.symm with h' | h'
  · exact hn h'
  · omega)).trans (h.block k hk hn)⟩
theorem Fr.into (h:Fr M a b) (k:Fr M' b c) (hm : ∀i,M' i→M i∨a.heap.size≤i):Fr M a c:=
 ⟨k.os.trans h.os,k.tape.trans h.tape,k.output.trans h.output,Nat.le_trans h.size k.size,fun i hi hn=>(k.block i (Nat.lt_of_lt_of_le hi h.size) (fun hM=>by
  rcases hm i hM with h' | h'
  · exact hn h'
  · omega)).trans (h.block i hi hn)⟩
theorem Fr.cell (h:Fr M w w') {p:Addr} (hp:p.block<w.heap.size) (hn : ¬M p.block):w'.cell? p=w.cell? p:=World.cell?_of_block (h.block _ hp hn)
theorem Fr.frozen (h:Fr M w w') {p:Addr} (hp:p.block<w.heap.size) (hn : ¬M p.block):w'.frozen? p=w.frozen? p:=World.frozen?_of_block (h.block _ hp hn)
end
def Blk (w:World) (g:Nat) (t:TypeId) (cs:Array Value):Prop:=w.heap[g]? = some (.cells cs t (0,0))
section
variable {w w':World} {g:Nat} {t:TypeId} {cs:Array Value}
theorem Blk.lt (h:Blk w g t cs):g<w.heap.size:=by
 rcases Nat.lt_or_ge g w.heap.size with hlt | hge
 · exact hlt
 · unfold Blk at h;rw [Array.getElem?_eq_none hge] at h;cases h
theorem Blk.cell (h:Blk w g t cs) (i:Nat):w.cell? ⟨g,i,none⟩=cs[i]?:=cell_of_row w g i cs t (0,0) h
theorem Blk.c1 {v0:Value} (h:Blk w g t #[v0]):w.cell? ⟨g,0,none⟩=some v0:=(h.cell 0).trans rfl
theorem Blk.c2 {v0 v1:Value} (h:Blk w g t #[v0,v1]):w.cell? ⟨g,0,none⟩=some v0∧w.cell? ⟨g,1,none⟩=some v1:=⟨(h.cell 0).trans rfl,(h.cell 1).trans rfl⟩
theorem Blk.c3 {v0 v1 v2:Value} (h:Blk w g t #[v0,v1,v2]):w.cell? ⟨g,0,none⟩=some v0∧w.cell? ⟨g,1,none⟩=some v1∧w.cell? ⟨g,2,none⟩=some v2:=⟨(h.cell 0).trans rfl,(h.cell 1).trans rfl,(h.cell 2).trans rfl⟩
theorem Blk.c4 {v0 v1 v2 v3:Value} (h:Blk w g t #[v0,v1,v2,v3]):w.cell? ⟨g,0,none⟩=some v0∧w.cell? ⟨g,1,none⟩=some v1∧w.cell? ⟨g,2,none⟩=some v2∧w.cell? ⟨g,3,none⟩=some v3:=⟨(h.cell 0).trans rfl,(h.cell 1).trans rfl,(h.cell 2).trans rfl,(h.cell 3).trans rfl⟩
theorem Blk.c5 {v0 v1 v2 v3 v4:Value} (h:Blk w g t #[v0,v1,v2,v3,v4]):w.cell? ⟨g,0,none⟩=some v0∧w.cell? ⟨g,1,none⟩=some v1∧w.cell? ⟨g,2,none⟩=some v2∧w.cell? ⟨g,3,none⟩=some v3∧w.cell? ⟨g,4,none⟩=some v4:=⟨(h.cell 0).trans rfl,(h.cell 1).trans rfl,(h.cell 2).trans rfl,(h.cell 3).trans rfl,(h.cell 4).trans rfl⟩
theorem Blk.c6 {v0 v1 v2 v3 v4 v5:Value} (h:Blk w g t #[v0,v1,v2,v3,v4,v5]):w.cell? ⟨g,0,none⟩=some v0∧w.cell? ⟨g,1,none⟩=some v1∧w.cell? ⟨g,2,none⟩=some v2∧w.cell? ⟨g,3,none⟩=some v3∧w.cell? ⟨g,4,none⟩=some v4∧w.cell? ⟨g,5,none⟩=some v5:=⟨(h.cell 0).trans rfl,(h.cell 1).trans rfl,(h.cell 2).trans rfl,(h.cell 3).trans rfl,(h.cell 4).trans rfl,(h.cell 5).trans rfl⟩
theorem Blk.c7 {v0 v1 v2 v3 v4 v5 v6:Value} (h:Blk w g t #[v0,v1,v2,v3,v4,v5,v6]):w.cell? ⟨g,0,none⟩=some v0∧w.cell? ⟨g,1,none⟩=some v1∧w.cell? ⟨g,2,none⟩=some v2∧w.cell? ⟨g,3,none⟩=some v3∧w.cell? ⟨g,4,none⟩=some v4∧w.cell? ⟨g,5,none⟩=some v5∧w.cell? ⟨g,6,none⟩=some v6:=⟨(h.cell 0).trans rfl,(h.cell 1).trans rfl,(h.cell 2).trans rfl,(h.cell 3).trans rfl,(h.cell 4).trans rfl,(h.cell 5).trans rfl,(h.cell 6).trans rfl⟩
theorem Blk.c9 {v0 v1 v2 v3 v4 v5 v6 v7 v8:Value} (h:Blk w g t #[v0,v1,v2,v3,v4,v5,v6,v7,v8]):w.cell? ⟨g,0,none⟩=some v0∧w.cell? ⟨g,1,none⟩=some v1∧w.cell? ⟨g,2,none⟩=some v2∧w.cell? ⟨g,3,none⟩=some v3∧w.cell? ⟨g,4,none⟩=some v4∧w.cell? ⟨g,5,none⟩=some v5∧w.cell? ⟨g,6,none⟩=some v6∧w.cell? ⟨g,7,none⟩=some v7∧w.cell? ⟨g,8,none⟩=some v8:=⟨(h.cell 0).trans rfl,(h.cell 1).trans rfl,(h.cell 2).trans rfl,(h.cell 3).trans rfl,(h.cell 4).trans rfl,(h.cell 5).trans rfl,(h.cell 6).trans rfl,(h.cell 7).trans rfl,(h.cell 8).trans rfl⟩
theorem Blk.c19 {v0 v1 v2 v3 v4 v5 v6 v7 v8 v9 v10 v11 v12 v13 v14 v15 v16 v17 v18:Value} (h:Blk w g t #[v0,v1,v2,v3,v4,v5,v6,v7,v8,v9,v10,v11,v12,v13,v14,v15,v16,v17,v18]):w.cell? ⟨g,0,none⟩=some v0∧w.cell? ⟨g,1,none⟩=some v1∧w.cell? ⟨g,2,none⟩=some v2∧w.cell? ⟨g,3,none⟩=some v3∧w.cell? ⟨g,4,none⟩=some v4∧w.cell? ⟨g,5,none⟩=some v5∧w.cell? ⟨g,6,none⟩=some v6∧w.cell? ⟨g,7,none⟩=some v7∧w.cell? ⟨g,8,none⟩=some v8∧w.cell? ⟨g,9,none⟩=some v9∧w.cell? ⟨g,10,none⟩=some v10∧w.cell? ⟨g,11,none⟩=some v11∧w.cell? ⟨g,12,none⟩=some v12∧w.cell? ⟨g,13,none⟩=some v13∧w.cell? ⟨g,14,none⟩=some v14∧w.cell? ⟨g,15,none⟩=some v15∧w.cell? ⟨g,16,none⟩=some v16∧w.cell? ⟨g,17,none⟩=some v17∧w.cell? ⟨g,18,none⟩=some v18:=⟨(h.cell 0).trans rfl,(h.cell 1).trans rfl,(h.cell 2).trans rfl,(h.cell 3).trans rfl,(h.cell 4).trans rfl,(h.cell 5).trans rfl,(h.cell 6).trans rfl,(h.cell 7).trans rfl,(h.cell 8).trans rfl,(h.cell 9).trans rfl,(h.cell 10).trans rfl,(h.cell 11).trans rfl,(h.cell 12).trans rfl,(h.cell 13).trans rfl,(h.cell 14).trans rfl,(h.cell 15).trans rfl,(h.cell 16).trans rfl,(h.cell 17).trans rfl,(h.cell 18).trans rfl⟩
theorem Blk.frozen (h:Blk w g t cs) (i:Nat):w.frozen? ⟨g,i,none⟩=false:=by unfold Blk at h;simp [World.frozen?,h]
theorem Blk.new (w:World) (t:TypeId) (cs:Array Value):Blk (w.alloc (.cells cs t)) w.heap.size t cs:=heap_alloc_new w _
theorem Blk.drew (h:Blk w g t cs):Blk w.drew g t cs:=h
theorem Blk.drewN (h:Blk w g t cs) (n:Nat):Blk (w.drewN n) g t cs:=h
theorem Blk.alloc (h:Blk w g t cs) (o:Obj):Blk (w.alloc o) g t cs:=(Below.heap_alloc w o g h.lt).trans h
theorem Blk.set_ (h:Blk w g t cs) (i:Nat) (u:Value):Blk (w.setCell ⟨g,i,none⟩ u) g t (cs.setIfInBounds i u):=by
 unfold Blk at h ⊢
 simp [World.setCell,Array.getElem?_modify,h]
theorem Blk.far (h:Blk w g t cs) {p:Addr} (hp:g≠p.block) (u:Value):Blk (w.setCell p u) g t cs:=(Below.heap_setCell w p u g hp).trans h
theorem Blk.below {B:Nat} (h:Blk w g t cs) (hb:Below B w w') (hg:g<B):Blk w' g t cs:=(hb.block g hg).trans h
theorem Blk.new_ (h:Blk w g t cs) (hb:Below w.heap.size w w'):Blk w' g t cs:=h.below hb h.lt
theorem Blk.fr {M:Nat→Prop} (h:Blk w g t cs) (hb:Fr M w w') (hg : ¬M g):Blk w' g t cs:=(hb.block g h.lt hg).trans h
theorem Blk.grown {row:Option Nat} (h:Blk w g t cs) (hb:w.grownBy w' row) (hg:row≠some g):Blk w' g t cs:=(hb.block g h.lt (fun e=>hg e.symm)).trans h
theorem Blk.ne_ {g':Nat} {t':TypeId} {cs':Array Value} (h:Blk w g t cs) (h':Blk w g' t' cs') (hne:t≠t'):g≠g':=by
 rintro rfl
 unfold Blk at h h'
 rw [h] at h'
 injection h' with h'
 injection h' with _ ht
 exact hne ht
theorem own_blk_ne {base:Nat} {e:TypeId} {size n:Nat} {v:Value} {xs:List Value} (h:w.ownsRow base e size v n xs) (hg:Blk w g t cs) (hne:e≠t):v.ownBlock≠some g:=by
 rcases h.2 with ⟨rfl,_⟩ | ⟨g',cap,cur,rfl,_,hh,_⟩
 · simp [Value.ownBlock]
 · intro he
   have:g'=g:=by simpa [Value.ownBlock] using he
   subst this
   exact Blk.ne_ (t:=e) hh hg hne rfl
end
def RowRd {α:Type} (w:World) (size:Nat) (cells:α→List Value) (A:Option Addr) (c:Nat) (l:List α):Prop:=
 l.length≤c∧c≤maxLen∧
  (0<l.length→∃b off,A=some ⟨b,off,none⟩∧b<w.heap.size∧∀k,(h:k<l.length)→∀j u,(cells l[k])[j]? = some u→w.cell? ⟨b,off+k*size+j,none⟩=some u)
def AIn (A:Option Addr) (S:Nat→Prop):Prop:=∀a,A=some a→S a.block
section
variable {α:Type} {w w':World} {size c:Nat} {cells:α→List Value} {A:Option Addr} {l:List α}
theorem AIn.mono {S S':Nat→Prop} (h:AIn A S) (hs : ∀k,S k→S' k):AIn A S':=fun a e=>hs _ (h a e)
theorem AIn.none_ (S:Nat→Prop):AIn none S:=fun _ e=>by cases e
theorem RowRd.nil (w:World) (size:Nat) (cells:α→List Value):RowRd w size cells none 0 ([]:List α):=⟨Nat.le_refl _,Nat.zero_le _,fun h=>absurd h (by simp)⟩
theorem RowRd.at_ (h:RowRd w size cells A c l) {k:Nat} (hk:k<l.length) : ∃b off,A=some ⟨b,off,none⟩∧b<w.heap.size∧∀j u,(cells l[k])[j]? = some u→w.cell? ⟨b,off+k*size+j,none⟩=some u:=by
 obtain ⟨b,off,h1,h2,h3⟩:=h.2.2 (by omega)
 exact ⟨b,off,h1,h2,h3 k hk⟩
theorem RowRd.keep (h:RowRd w size cells A c l) (hs:w.heap.size≤w'.heap.size) (hk : ∀p:Addr,p.block<w.heap.size→(∃a,A=some a∧a.block=p.block)→w'.cell? p=w.cell? p):RowRd w' size cells A c l:=by
 refine ⟨h.1,h.2.1,fun h0=>?_⟩
 obtain ⟨b,off,rfl,hb,hc⟩:=h.2.2 h0
 exact ⟨b,off,rfl,by omega,fun k hk' j u hu=>(hk ⟨b,off+k*size+j,none⟩ hb ⟨_,rfl,rfl⟩).trans (hc k hk' j u hu)⟩
theorem RowRd.new_ (h:RowRd w size cells A c l) (hb:Below w.heap.size w w'):RowRd w' size cells A c l:=h.keep hb.size (fun _ hp _=>hb.cell hp)
theorem RowRd.fr {M:Nat→Prop} (h:RowRd w size cells A c l) (hb:Fr M w w') (hm:AIn A (fun k=>¬M k)):RowRd w' size cells A c l:=
 h.keep hb.size (fun _ hp ⟨a,ha,hb'⟩=>hb.cell hp (by rw [← hb'];exact hm a ha))
theorem RowRd.drew (h:RowRd w size cells A c l):RowRd w.drew size cells A c l:=h
theorem RowRd.drewN (h:RowRd w size cells A c l) (n:Nat):RowRd (w.drewN n) size cells A c l:=h
theorem RowRd.alloc (h:RowRd w size cells A c l) (o:Obj):RowRd (w.alloc o) size cells A c l:=h.new_ ((Below.refl _ _).alloc (Nat.le_refl _) _)
theorem RowRd.cap (h:RowRd w size cells A c l):l.length≤9223372036854775807:=by have:=h.1;have:=h.2.1;unfold maxLen at this;omega
end
theorem flat_get {α:Type} {cells:α→List Value} {size:Nat} (hsz : ∀x,(cells x).length=size) : ∀(l:List α) (k:Nat) (h:k<l.length) (j:Nat),j<size→(l.flatMap cells)[k*size+j]? = (cells l[k])[j]?
 | x :: l,0,_,j,hj=>by
   rw [List.flatMap_cons,List.getElem?_append_left (by rw [hsz];omega)];simp
 | x :: l,k+1,h,j,hj=>by
   rw [List.flatMap_cons,List.getElem?_append_right (by rw [hsz,Nat.add_mul];omega),hsz]
   rw [show (k+1)*size+j - size=k*size+j by rw [Nat.add_mul];omega]
   exact flat_get hsz l k (by simpa using h) j hj
theorem flat_length {α:Type} {cells:α→List Value} {size:Nat} (hsz : ∀x,(cells x).length=size) : ∀(l:List α),(l.flatMap cells).length=l.length*size
 | []=>by simp
 | x :: l=>by rw [List.flatMap_cons,List.length_append,hsz,flat_length hsz l];simp [Nat.add_mul];omega
theorem flat_at {α:Type} {cells:α→List Value} {size:Nat} (hsz : ∀x,(cells x).length=size) (l:List α) (i:Nat) (u:Value) (hu:(l.flatMap cells)[i]? = some u) (h0:0<size) :
 ∃k j,∃h:k<l.length,i=k*size+j∧j<size∧(cells l[k])[j]? = some u:=by
 have hi:i<l.length*size:=by
  have:=(List.getElem?_eq_some_iff.1 hu).1
  rwa [flat_length hsz] at this
 have hk:i / size<l.length:=Nat.div_lt_of_lt_mul (by rw [Nat.mul_comm];exact hi)
 have hj:i % size<size:=Nat.mod_lt _ h0
 have e:i=i / size*size+i % size:=by rw [Nat.mul_comm];exact (Nat.div_add_mod i size).symm
 refine ⟨i / size,i % size,hk,e,hj,?_⟩
 rw [← flat_get hsz l _ hk _ hj,← e];exact hu
def Room (w:World) (g:Nat) (e:TypeId) (cells:Nat):Prop:=∃cur,w.heap[g]? = some (.cells cur e (0,0))∧cur.size=cells
section
variable {w w':World} {g:Nat} {e:TypeId} {m size n cap:Nat} {v:Value} {xs:List Value}
theorem Room.lt (h:Room w g e m):g<w.heap.size:=by obtain ⟨cur,h,_⟩:=h;exact Blk.lt (t:=e) h
theorem Room.frozen (h:Room w g e m) (i:Nat):w.frozen? ⟨g,i,none⟩=false:=by obtain ⟨cur,h,_⟩:=h;exact Blk.frozen (t:=e) h i
theorem Room.set_ (h:Room w g e m) (i:Nat) (u:Value):Room (w.setCell ⟨g,i,none⟩ u) g e m:=by
 obtain ⟨cur,h,hs⟩:=h
 exact ⟨_,Blk.set_ (t:=e) h i u,by simpa using hs⟩
theorem Room.far (h:Room w g e m) {p:Addr} (hp:g≠p.block) (u:Value):Room (w.setCell p u) g e m:=by
 obtain ⟨cur,h,hs⟩:=h
 exact ⟨_,Blk.far (t:=e) h hp u,hs⟩
theorem Room.drew (h:Room w g e m):Room w.drew g e m:=h
theorem Room.cell (h:Room w g e m) {i:Nat} (hi:i<m) : ∃u,w.cell? ⟨g,i,none⟩=some u:=by
 obtain ⟨cur,h,hs⟩:=h
 exact ⟨cur[i]'(by omega),by rw [Blk.cell (t:=e) h];exact Array.getElem?_eq_getElem (by omega)⟩
theorem ownsRow_form (h:w.ownsRow 0 e size v n xs):(v = .slice none 0 0∧n=0∧xs = [])∨∃g cap,v = .slice (some ⟨g,0,none⟩) n cap∧n≤cap∧cap≤maxLen∧Room w g e (cap*size)∧xs.length=n*size∧∀i u,xs[i]? = some u→w.cell? ⟨g,i,none⟩=some u:=by
 obtain ⟨h1,h2⟩:=h
 rcases h2 with ⟨rfl,rfl⟩ | ⟨g,cap,cur,rfl,_,hg,hn,hc,hs,ht⟩
 · exact .inl ⟨rfl,rfl,List.eq_nil_of_length_eq_zero (by simpa using h1)⟩
 · refine .inr ⟨g,cap,rfl,hn,hc,⟨cur,hg,hs⟩,h1,fun i u hu=>?_⟩
   rw [Blk.cell (t:=e) hg,← hu,← ht]
   have hi:i<xs.length:=(List.getElem?_eq_some_iff.1 hu).1
   rw [h1] at hi
   simp [hi]
theorem ownsRow_rd {α:Type} {cells:α→List Value} (hsz : ∀x,(cells x).length=size) {l:List α} {A:Option Addr} {c:Nat} (h:w.ownsRow 0 e size (.slice A l.length c) l.length (l.flatMap cells)):RowRd w size cells A c l:=by
 rcases ownsRow_form h with ⟨hv,hn,_⟩ | ⟨g,cap,hv,hn,hc,hr,hx,hcell⟩
 · injection hv with _ _ hc
   exact ⟨by omega,by omega,fun h0=>by omega⟩
 · injection hv with hA _ hc'
   subst hA;subst hc'
   refine ⟨hn,hc,fun _=>⟨g,0,rfl,hr.lt,fun k hk j u hu=>?_⟩⟩
   have hj:j<size:=by have:=(List.getElem?_eq_some_iff.1 hu).1;rwa [hsz] at this
   have:=hcell (k*size+j) u (by rw [flat_get hsz l k hk j hj];exact hu)
   simpa using this
theorem ownsRow_fr {M:Nat→Prop} (h:w.ownsRow 0 e size v n xs) (hb:Fr M w w') (hm : ∀g,v.ownBlock=some g→¬M g):w'.ownsRow 0 e size v n xs:=by
 refine ⟨h.1,h.2.imp id fun ⟨g,cap,cur,hv,h0,hg,hr⟩=>⟨g,cap,cur,hv,h0,?_,hr⟩⟩
 exact Blk.fr (t:=e) hg hb (hm g (by rw [hv];rfl))
theorem ownsRow_new (h:w.ownsRow 0 e size v n xs) (hb:Below w.heap.size w w'):w'.ownsRow 0 e size v n xs:=by
 refine ⟨h.1,h.2.imp id fun ⟨g,cap,cur,hv,h0,hg,hr⟩=>⟨g,cap,cur,hv,h0,?_,hr⟩⟩
 exact Blk.new_ (t:=e) hg hb
end
section
variable {P:Program} (w:World)
theorem run_append_src (t ty e:TypeId) (i:TypeInfo) (z:Value) (size bytes:Nat) (ht:P.underlying t=some (.slice e)) (hi:P.info? e=some i) (hz:i.zero=some z)
 (hsize:i.size=size) (hby:i.bytes=bytes) (hzs:z.cells.size=size) (hsz:0<size)
 (v:Value) (n:Nat) (xs:List Value) (hown:w.ownsRow 0 e size v n xs) (A:Option Addr) (m c:Nat) (news:List Value) (hl:news.length=m*size)
 (hnews:0<m→∃ad,A=some ad∧∀j u,news[j]? = some u→w.cell? (ad.add j)=some u) (h1 : ∀u∈news,u.oneCell'=true)
 (h63:n+m≤maxLen) (hbytes:(n+m)*bytes≤140737488355328) :
 ∃v' w',(Builtin.append_ #[t,t] ty #[v,.slice A m c]).run P w = .ok v' w'∧w'.ownsRow 0 e size v' (n+m) (xs++news)∧w.grownBy w' v.ownBlock∧
  (v' = .slice none 0 0↔v = .slice none 0 0∧m=0)∧(v'.ownBlock=v.ownBlock∨v'.ownBlock=some w.heap.size):=by
 rcases Nat.eq_zero_or_pos m with rfl | hm
 · have hn:news = []:=List.eq_nil_of_length_eq_zero (by simpa using hl)
   subst hn
   rcases A with _ | ad
   · refine ⟨v,w,?_,by simpa using hown,World.grownBy.refl w _,by simp,.inl rfl⟩
     rcases hown.2 with ⟨rfl,rfl⟩ | ⟨g,cap,cur,rfl,_,_,hnc,_⟩
     · simp [Builtin.append_,run_underlying ht,sizeOf,typeInfo,hi,Builtin.lenOf,Builtin.firstCells]
     · simp [Builtin.append_,run_underlying ht,sizeOf,typeInfo,hi,Builtin.lenOf,Builtin.firstCells,hnc,storeCells]
   · exact run_append_own_at w 0 t ty e i z size bytes ht hi hz hsize hby hzs hsz v n xs hown ad 0 c [] (by simp) (by simp) (by simp) h63 hbytes (Nat.zero_le _)
 · obtain ⟨ad,rfl,hc⟩:=hnews hm
   exact run_append_own_at w 0 t ty e i z size bytes ht hi hz hsize hby hzs hsz v n xs hown ad m c news hl hc h1 h63 hbytes (Nat.zero_le _)
theorem wp_append_src {o:Oper} {a:Act} {K:Act→World→Prop} {Q:Exit→Act→World→Prop} (s x:Operand) (t:TypeId)
 (ho:o.op = .call { callee:=.builtin .append,args:=#[s,x],argTypes:=#[t,t] })
 (e:TypeId) (i:TypeInfo) (z:Value) (size bytes:Nat) (ht:P.underlying t=some (.slice e)) (hi:P.info? e=some i) (hz:i.zero=some z)
 (hsize:i.size=size) (hby:i.bytes=bytes) (hzs:z.cells.size=size) (hsz:0<size)
 (v:Value) (n:Nat) (xs:List Value) (hs:a.eval s=v) (hown:w.ownsRow 0 e size v n xs)
 (A:Option Addr) (m c:Nat) (news:List Value) (hx:a.eval x = .slice A m c) (hl:news.length=m*size)
 (hnews:0<m→∃ad,A=some ad∧∀j u,news[j]? = some u→w.cell? (ad.add j)=some u) (h1 : ∀u∈news,u.oneCell'=true)
 (h63:n+m≤maxLen) (hbytes:(n+m)*bytes≤140737488355328)
 (h : ∀v' w',w'.ownsRow 0 e size v' (n+m) (xs++news)→w.grownBy w' v.ownBlock→(v' = .slice none 0 0↔v = .slice none 0 0∧m=0)→(v'.ownBlock=v.ownBlock∨v'.ownBlock=some w.heap.size)→K (a.put o.dst v') w') :
 Oper.wp P o a w K Q:=by
 obtain ⟨v',w',hr,h2,h3,h4,h5⟩:=run_append_src (P:=P) w t o.type e i z size bytes ht hi hz hsize hby hzs hsz v n xs hown A m c news hl hnews h1 h63 hbytes
 unfold Oper.wp execOp
 simp only [ho,resolve,invoke,builtin,Sem.run_bind,Sem.run_pure,Result.andThen_ok,List.map_toArray,List.map_cons,List.map_nil,hs,hx,hr]
 exact h v' w' h2 h3 h4 h5
theorem step_append_src {ops:Array Oper} {o:Oper} {a:Act} {K:Act→World→Prop} {Q:Exit→Act→World→Prop} {E:Prop} (hgd:o.guard=none) (s x:Operand) (t:TypeId)
 (ho:o.op = .call { callee:=.builtin .append,args:=#[s,x],argTypes:=#[t,t] })
 (e:TypeId) (i:TypeInfo) (z:Value) (size bytes:Nat) (ht:P.underlying t=some (.slice e)) (hi:P.info? e=some i) (hz:i.zero=some z)
 (hsize:i.size=size) (hby:i.bytes=bytes) (hzs:z.cells.size=size) (hsz:0<size)
 (v:Value) (n:Nat) (xs:List Value) (hs:a.eval s=v) (hown:w.ownsRow 0 e size v n xs)
 (A:Option Addr) (m c:Nat) (news:List Value) (hx:a.eval x = .slice A m c) (hl:news.length=m*size)
 (hnews:0<m→∃ad,A=some ad∧∀j u,news[j]? = some u→w.cell? (ad.add j)=some u) (h1 : ∀u∈news,u.oneCell'=true)
 (h63:n+m≤maxLen) (hbytes:(n+m)*bytes≤140737488355328)
 (h : ∀v' w',w'.ownsRow 0 e size v' (n+m) (xs++news)→w.grownBy w' v.ownBlock→(v' = .slice none 0 0↔v = .slice none 0 0∧m=0)→(v'.ownBlock=v.ownBlock∨v'.ownBlock=some w.heap.size)→K (a.put o.dst v') w') :
 if Region.wanted o (yielded ops a.tmps)=true then Oper.wp P o a w K Q else E:=by
 rw [if_pos (by simp [Region.wanted,hgd])]
 exact wp_append_src w s x t ho e i z size bytes ht hi hz hsize hby hzs hsz v n xs hs hown A m c news hx hl hnews h1 h63 hbytes h
theorem wpList_append_src {ops:Array Oper} {rest:List Oper} {o:Oper} {a:Act} {Q:Exit→Act→World→Prop} (hgd:o.guard=none) (s x:Operand) (t:TypeId)
 (ho:o.op = .call { callee:=.builtin .append,args:=#[s,x],argTypes:=#[t,t] })
 (e:TypeId) (i:TypeInfo) (z:Value) (size bytes:Nat) (ht:P.underlying t=some (.slice e)) (hi:P.info? e=some i) (hz:i.zero=some z)
 (hsize:i.size=size) (hby:i.bytes=bytes) (hzs:z.cells.size=size) (hsz:0<size)
 (v:Value) (n:Nat) (xs:List Value) (hs:a.eval s=v) (hown:w.ownsRow 0 e size v n xs)
 (A:Option Addr) (m c:Nat) (news:List Value) (hx:a.eval x = .slice A m c) (hl:news.length=m*size)
 (hnews:0<m→∃ad,A=some ad∧∀j u,news[j]? = some u→w.cell? (ad.add j)=some u) (h1 : ∀u∈news,u.oneCell'=true)
 (h63:n+m≤maxLen) (hbytes:(n+m)*bytes≤140737488355328)
 (h : ∀v' w',w'.ownsRow 0 e size v' (n+m) (xs++news)→w.grownBy w' v.ownBlock→(v' = .slice none 0 0↔v = .slice none 0 0∧m=0)→(v'.ownBlock=v.ownBlock∨v'.ownBlock=some w.heap.size)→wpList P ops Q rest (a.put o.dst v') w') :
 wpList P ops Q (o :: rest) a w:=
 wpList_plain hgd fun _ hK=>wp_append_src w s x t ho e i z size bytes ht hi hz hsize hby hzs hsz v n xs hs hown A m c news hx hl hnews h1 h63 hbytes (fun v' w' a b c d=>hK _ _ (h v' w' a b c d))
end
theorem RowRd.news {α:Type} {w:World} {size c:Nat} {cells:α→List Value} (hsz : ∀x,(cells x).length=size) (h0:0<size) {A:Option Addr} {l:List α} (h:RowRd w size cells A c l) :
 0<l.length→∃ad,A=some ad∧∀j u,(l.flatMap cells)[j]? = some u→w.cell? (ad.add j)=some u:=by
 intro hl
 obtain ⟨b,off,rfl,_,hc⟩:=h.2.2 hl
 refine ⟨_,rfl,fun j u hu=>?_⟩
 obtain ⟨k,i,hk,rfl,hi,hu'⟩:=flat_at hsz l j u hu h0
 have:=hc k hk i u hu'
 unfold Addr.add
 split
 · rename_i hz
   have e:k*size=0:=by omega
   have e2:i=0:=by omega
   rw [e,e2] at this
   simpa using this
 · simpa [Nat.add_assoc] using this
theorem own_form2 {w:World} {e:TypeId} {size n:Nat} {v:Value} {xs:List Value} (h:w.ownsRow 0 e size v n xs) : ∃A c,v = .slice A n c∧n≤c∧c≤maxLen∧(∀a,A=some a→∃g,a=⟨g,0,none⟩):=by
 rcases ownsRow_form h with ⟨rfl,rfl,_⟩ | ⟨g,cap,rfl,hn,hc,_⟩
 · exact ⟨none,0,rfl,Nat.le_refl _,Nat.zero_le _,fun a e=>by cases e⟩
 · exact ⟨_,cap,rfl,hn,hc,fun a e=>⟨g,by injection e with e;exact e.symm⟩⟩
def setAll (xs:List Value) (o:Nat) (vs:List Value):List Value:=vs.zipIdx.foldl (fun l (v,j)=>l.set (o+j) v) xs
theorem setAll_get (o:Nat) : ∀(vs:List Value) (s:Nat) (xs:List Value),o+s+vs.length≤xs.length→
 ((vs.zipIdx s).foldl (fun l (v,j)=>l.set (o+j) v) xs).length=xs.length∧
 ∀i,((vs.zipIdx s).foldl (fun l (v,j)=>l.set (o+j) v) xs)[i]? = if o+s≤i∧i<o+s+vs.length then vs[i - (o+s)]? else xs[i]?
 | [],s,xs,_=>⟨rfl,fun i=>by simp;omega⟩
 | v :: vs,s,xs,h=>by
   simp only [List.length_cons] at h
   rw [List.zipIdx_cons,List.foldl_cons]
   obtain ⟨h1,h2⟩:=setAll_get o vs (s+1) (xs.set (o+s) v) (by simp;omega)
   refine ⟨by rw [h1];simp,fun i=>?_⟩
   rw [h2]
   simp only [List.length_cons]
   by_cases hi:i=o+s
   · subst hi
     rw [if_neg (by omega),if_pos (by omega),List.getElem?_set_self (by omega),Nat.sub_self,List.getElem?_cons_zero]
   · by_cases hlt:o+(s+1)≤i∧i<o+(s+1)+vs.length
     · rw [if_pos hlt,if_pos (by omega)]
       rw [show i - (o+s)=(i - (o+(s+1)))+1 by omega]
       simp
     · rw [if_neg hlt,if_neg (by omega),List.getElem?_set_ne (by omega)]
theorem flat_set {α:Type} {cells:α→List Value} {size:Nat} (hsz : ∀x,(cells x).length=size) (h0:0<size) (l:List α) (k:Nat) (hk:k<l.length) (y:α) :
 setAll (l.flatMap cells) (k*size) (cells y)=(l.set k y).flatMap cells:=by
 have hb:k*size+size≤l.length*size:=by rw [← Nat.succ_mul];exact Nat.mul_le_mul_right _ hk
 obtain ⟨h1,h2⟩:=setAll_get (k*size) (cells y) 0 (l.flatMap cells) (by rw [flat_length hsz,hsz];omega)
 unfold setAll
 apply List.ext_getElem?
 intro i
 rw [h2,hsz]
 by_cases hi:i<l.length*size
 · have hq:i / size<l.length:=Nat.div_lt_of_lt_mul (by rw [Nat.mul_comm];exact hi)
   have hr:i % size<size:=Nat.mod_lt _ h0
   have e:i=i / size*size+i % size:=by rw [Nat.mul_comm];exact (Nat.div_add_mod i size).symm
   have r2:((l.set k y).flatMap cells)[i]? = (cells ((l.set k y)[i / size]'(by simpa using hq)))[i % size]?:=by
    conv=>lhs;rw [e]
    exact flat_get hsz _ _ (by simpa using hq) _ hr
   rw [r2]
   by_cases hik:i / size=k
   · have e3:i - (k*size+0)=i % size:=by rw [← hik];omega
     rw [if_pos (by rw [hik] at e;omega),e3]
     congr 1
     rw [List.getElem_set];simp [hik]
   · have hne : ¬(k*size+0≤i∧i<k*size+0+size):=by
      rintro ⟨a,b⟩
      apply hik
      apply Nat.div_eq_of_lt_le
      · omega
      · rw [Nat.add_mul];omega
     rw [if_neg hne]
     have r1:(l.flatMap cells)[i]? = (cells l[i / size])[i % size]?:=by
      conv=>lhs;rw [e]
      exact flat_get hsz _ _ hq _ hr
     rw [r1]
     congr 2
     rw [List.getElem_set];simp [Ne.symm hik]
 · rw [if_neg (by omega),List.getElem?_eq_none (by rw [flat_length hsz];omega),List.getElem?_eq_none (by rw [flat_length hsz];simp;omega)]
structure SetAt {α:Type} (tSet tE size:Nat) (cells:α→List Value) (w:World) (b:Nat) (sn:Bool) (A:Option Addr) (c:Nat) (l:List α):Prop where
 blk:Blk w b tSet #[.slice A l.length c,.bool sn]
 row:w.ownsRow 0 tE size (.slice A l.length c) l.length (l.flatMap cells)
def SetMod (b:Nat) (sn:Bool) (A:Option Addr):Nat→Prop:=fun k=>k=b∨(sn=false∧∃a,A=some a∧a.block=k)
def Moved (w:World) (sn:Bool) (A:Option Addr) (sn':Bool) (A':Option Addr):Prop:=
 (sn'=sn∧A'=A)∨(sn'=false∧∃g,w.heap.size≤g∧A'=some ⟨g,0,none⟩)
section
variable {α:Type} {tSet tE size:Nat} {cells:α→List Value} {w w':World} {b:Nat} {sn:Bool} {A:Option Addr} {c:Nat} {l:List α}
theorem SetAt.lt (h:SetAt tSet tE size cells w b sn A c l):b<w.heap.size:=h.blk.lt
theorem SetAt.cell0 (h:SetAt tSet tE size cells w b sn A c l):w.cell? ⟨b,0,none⟩=some (.slice A l.length c):=(h.blk.cell 0).trans rfl
theorem SetAt.cell1 (h:SetAt tSet tE size cells w b sn A c l):w.cell? ⟨b,1,none⟩=some (.bool sn):=(h.blk.cell 1).trans rfl
theorem SetAt.rd (hsz : ∀x,(cells x).length=size) (h:SetAt tSet tE size cells w b sn A c l):RowRd w size cells A c l:=ownsRow_rd hsz h.row
theorem SetAt.row_lt (h:SetAt tSet tE size cells w b sn A c l):AIn A (· < w.heap.size):=by
 intro a e
 subst e
 rcases ownsRow_form h.row with ⟨hv,_⟩ | ⟨g,cap,hv,_,_,hr,_⟩
 · cases hv
 · injection hv with hA
   injection hA with hA
   subst hA
   exact hr.lt
theorem SetAt.row_ne (h:SetAt tSet tE size cells w b sn A c l) (hne:tE≠tSet):AIn A (·≠b):=by
 intro a e hb
 have:=own_blk_ne h.row h.blk hne
 subst e
 exact this (by simp [Value.ownBlock,hb])
theorem SetAt.fr {M:Nat→Prop} (h:SetAt tSet tE size cells w b sn A c l) (hf:Fr M w w') (hb : ¬M b) (hA:AIn A (fun k=>¬M k)):SetAt tSet tE size cells w' b sn A c l:=
 ⟨h.blk.fr hf hb,ownsRow_fr h.row hf (fun g e=>by
  rcases A with _ | a
  · cases e
  · simp only [Value.ownBlock,Option.some.injEq] at e
    subst e
    exact hA a rfl)⟩
theorem SetAt.new_ (h:SetAt tSet tE size cells w b sn A c l) (hf:Below w.heap.size w w'):SetAt tSet tE size cells w' b sn A c l:=⟨h.blk.new_ hf,ownsRow_new h.row hf⟩
end
end Go.Proofs.Ytffemfglngikbaa
namespace Go.Proofs.Ytffemfglngikbaa
abbrev Cls:=Nat
section
variable {P:Program} {ops:Array Oper} {Q:Exit→Act→World→Prop} {S:World→Prop}
def waitsT (ops:Array Oper):Nat→Nat→Nat→Bool
 | 0,_,_=>false
 | n+1,j,k=>((ops[j]?).map fun o=>o.after.any fun e=>Region.binds .any e && (e.on == k || waitsT ops n e.on k)).getD false
def needS (ops:Array Oper) (ord:List (Nat×Cls)) (j:Nat):Bool:=ord.any fun (k,c)=>c == 1 && k != j && !waitsT ops ops.size j k
def okE (ops:Array Oper):List (Nat×Cls)→Array Bool→Bool
 | [],listed=>(Region.ready .any ops listed).isEmpty
 | (k,c) :: rest,listed=>(if c == 2 then Region.ready .any ops listed == [k] else (Region.ready .any ops listed).contains k && Region.free .any ops listed k) && okE ops rest (listed.setIfInBounds k true)
def behind (S:World→Prop) (qt ns:Nat→Bool) (i:Nat) (w w':World):Prop:=if qt i=true then w'=w else (ns i=true→S w')
def wpAnyE (P:Program) (ops:Array Oper) (Q:Exit→Act→World→Prop) (S:World→Prop) (qt ns:Nat→Bool):Nat→Array Bool→Act→World→Prop
 | 0,listed,a,w=>Region.ready .any ops listed = []∧Q .normal a w
 | fuel+1,listed,a,w=>
   (Region.ready .any ops listed = []→Q .normal a w)∧
   ∀i∈Region.ready .any ops listed,wpOp P ops Q i (fun a' w'=>behind S qt ns i w w'∧wpAnyE P ops Q S qt ns fuel (listed.setIfInBounds i true) a' w') a w
theorem wpAny_of_E {qt ns:Nat→Bool} : ∀(fuel:Nat) (listed:Array Bool) (a:Act) (w:World),wpAnyE P ops Q S qt ns fuel listed a w→wpAny P .any ops Q fuel listed a w
 | 0,_,_,_,h=>h
 | fuel+1,_,_,_,h=>⟨h.1,fun i hi=>wpOp_mono (fun a' w' h'=>wpAny_of_E fuel _ a' w' h'.2) (h.2 i hi)⟩
def wpE (P:Program) (ops:Array Oper) (Q:Exit→Act→World→Prop) (S:World→Prop) (ns:Nat→Bool):List (Nat×Cls)→Act→World→Prop
 | [],a,w=>Q .normal a w
 | (i,c) :: rest,a,w=>
   if c=2 then wpOp P ops Q i (fun a' w'=>(ns i=true→S w')∧wpE P ops Q S ns rest a' w') a w
   else ∃o v,ops[i]? = some o∧(if c=1 then YieldsIf P ops S o v a∧S w else Yields P ops o v a)∧wpE P ops Q S ns rest (a.put o.dst v) w
def Closed (ops:Array Oper) (listed:Array Bool):Prop:=∀(m:Nat) (o:Oper),listed.getD m false=true→ops[m]? = some o→∀e∈o.after,Region.binds .any e=true→listed.getD e.on false=true
theorem closed_ready {listed:Array Bool} (hc:Closed ops listed) {i:Nat} (hi:i∈Region.ready .any ops listed):Closed ops (listed.setIfInBounds i true):=by
 obtain ⟨hu,o,ho,hall⟩:=mem_ready.1 hi
 have up : ∀m,listed.getD m false=true→(listed.setIfInBounds i true).getD m false=true:=fun m hm=>by
  by_cases e:i=m
  · subst e
    rcases Nat.lt_or_ge i listed.size with h' | h'
    · simp [h']
    · simp [Array.getElem?_eq_none h'] at hm
  · rw [getD_set_ne false e];exact hm
 intro m om hm hom e he hb
 by_cases e':i=m
 · subst e'
   rw [ho] at hom
   cases hom
   exact up _ (hall e he hb)
 · rw [getD_set_ne false e'] at hm
   exact up _ (hc m om hm hom e he hb)
theorem listed_not_waits {listed:Array Bool} (hc:Closed ops listed) {k:Nat} (hk:listed.getD k false=false) : ∀(n m:Nat),listed.getD m false=true→waitsT ops n m k=false
 | 0,_,_=>rfl
 | n+1,m,hm=>by
   unfold waitsT
   cases ho:ops[m]? with
   | none=>rfl
   | some o=>
     simp only [Option.map_some,Option.getD_some]
     rw [Array.any_eq_false]
     intro i hi
     simp only [Bool.and_eq_true,Bool.or_eq_true,beq_iff_eq,not_and,not_or,Bool.not_eq_true]
     intro hb
     have hl:=hc m o hm ho o.after[i] (Array.getElem_mem hi) hb
     refine ⟨fun e=>?_,listed_not_waits hc hk n _ hl⟩
     rw [e,hk] at hl
     cases hl
theorem ready_not_waits {listed:Array Bool} (hc:Closed ops listed) {k j:Nat} (hk:listed.getD k false=false) (hj:j∈Region.ready .any ops listed) (n:Nat):waitsT ops n j k=false:=by
 cases n with
 | zero=>rfl
 | succ n=>
   obtain ⟨_,o,ho,hall⟩:=mem_ready.1 hj
   unfold waitsT
   simp only [ho,Option.map_some,Option.getD_some]
   rw [Array.any_eq_false]
   intro i hi
   simp only [Bool.and_eq_true,Bool.or_eq_true,beq_iff_eq,not_and,not_or,Bool.not_eq_true]
   intro hb
   have hl:=hall o.after[i] (Array.getElem_mem hi) hb
   refine ⟨fun e=>?_,listed_not_waits hc hk n _ hl⟩
   rw [e,hk] at hl
   cases hl
theorem wpAnyE_first {qt ns:Nat→Bool} {i:Nat} {oi:Oper} {v:Value} (hi:ops[i]? = some oi) (hsel : ∀(j:Nat) (o:Oper) cs b,ops[j]? = some o→o.op≠.select cs b)
 (hQ : ∀c a w,Q (.panic c) (a.put oi.dst v) w→Q (.panic c) a w) (L:Bool) (hqt:qt i=true) (hns:L=true→∀(j:Nat),waitsT ops ops.size j i=false→j≠i→j<ops.size→ns j=true) :
 ∀(fuel:Nat) (listed:Array Bool) (a:Act) (w:World),Closed ops listed→
  (∀j oj,ops[j]? = some oj→j≠i→listed.getD j true=false→(∀e∈oj.after,Region.binds .any e=true→e.on≠i)→oi.apart ops oj=true)→
  i∈Region.ready .any ops listed→YieldsIf P ops (fun w=>L=true→S w) oi v a→(L=true→S w)→
  wpAnyE P ops Q S qt ns fuel (listed.setIfInBounds i true) (a.put oi.dst v) w→wpAnyE P ops Q S qt ns (fuel+1) listed a w:=by
 have own : ∀w:World,behind S qt ns i w w:=fun w=>by unfold behind;rw [if_pos hqt]
 intro fuel
 induction fuel with
 | zero=>
   intro listed a w _ _ hr hy hS H
   refine ⟨fun h=>(by rw [h] at hr;cases hr),fun j hj=>?_⟩
   by_cases hji:j=i
   · subst hji;exact hy.wpOp hi hS ⟨own w,H⟩
   · have:=ready_mono hj hji
     rw [H.1] at this
     cases this
 | succ fuel ih=>
   intro listed a w hcl hfree hr hy hS H
   refine ⟨fun h=>(by rw [h] at hr;cases hr),fun j hj=>?_⟩
   by_cases hji:j=i
   · subst hji;exact hy.wpOp hi hS ⟨own w,H⟩
   · have h1:=H.2 j (ready_mono hj hji)
     obtain ⟨hjun,oj,hoj,hall⟩:=mem_ready.1 hj
     have hiun:listed.getD i false=false:=by
      have h0:=(mem_ready.1 hr).1
      rcases Nat.lt_or_ge i listed.size with h' | h'
      · simp [h'] at h0 ⊢;exact h0
      · simp [Array.getElem?_eq_none h'] at h0
     have hnot : ∀e∈oj.after,Region.binds .any e=true→e.on≠i:=fun e he hb heq=>by
      have h1:=hall e he hb
      rw [heq,hiun] at h1
      cases h1
     have hnsj:L=true→ns j=true:=fun hL=>hns hL j (ready_not_waits hcl hiun hj _) hji (Array.getElem?_eq_some_iff.1 hoj).1
     have h2:=wpOp_putIf hoj (hfree j oj hoj hji hjun hnot) (fun cs b=>hsel i oi cs b hi) (fun cs b=>hsel j oj cs b hoj) hQ hy h1
     have hfree' : ∀k ok,ops[k]? = some ok→k≠i→(listed.setIfInBounds j true).getD k true=false→
      (∀e∈ok.after,Region.binds .any e=true→e.on≠i)→oi.apart ops ok=true:=fun k ok hk hki hun hno=>by
      refine hfree k ok hk hki ?_ hno
      by_cases hjk:j=k
      · subst hjk;exact hjun
      · rw [getD_set_ne true hjk] at hun;exact hun
     refine wpOp_mono (fun a' w' h3=>⟨h3.2.1,?_⟩) h2
     have hS':L=true→S w':=fun hL=>by
      have hb:=h3.2.1
      unfold behind at hb
      by_cases hq:qt j=true
      · rw [if_pos hq] at hb;rw [hb];exact hS hL
      · rw [if_neg hq] at hb;exact hb (hnsj hL)
     refine ih (listed.setIfInBounds j true) a' w' (closed_ready hcl hj) hfree' (ready_mono hr (Ne.symm hji)) h3.1 hS' ?_
     rw [Array.setIfInBounds_comm _ _ hji]
     exact h3.2.2
theorem wpAnyE_of {ord:List (Nat×Cls)} {qt ns:Nat→Bool} (hsel:Region.noSelect ops=true) (hQ : ∀c a a' w,Q (.panic c) a w→Q (.panic c) a' w)
 (hqt : ∀k c,(k,c)∈ord→(qt k=true↔c≠2)) (hns : ∀k,(k,1)∈ord→∀j,waitsT ops ops.size j k=false→j≠k→j<ops.size→ns j=true) :
 ∀(rest:List (Nat×Cls)) (listed:Array Bool) (a:Act) (w:World),(∀x∈rest,x∈ord)→Closed ops listed→okE ops rest listed=true→wpE P ops Q S ns rest a w→wpAnyE P ops Q S qt ns rest.length listed a w
 | [],listed,a,w,_,_,hB,h=>⟨by simpa [okE] using hB,h⟩
 | (k,c) :: rest,listed,a,w,hm,hcl,hB,h=>by
   simp only [okE,Bool.and_eq_true] at hB
   obtain ⟨hB1,hB2⟩:=hB
   have hmk:=hm (k,c) (by simp)
   simp only [wpE] at h
   by_cases hc:c=2
   · subst hc
     simp only [beq_self_eq_true,if_true] at hB1
     have hr:Region.ready .any ops listed = [k]:=by simpa using hB1
     simp only [if_true] at h
     refine ⟨fun h0=>(by rw [hr] at h0;cases h0),fun i hi=>?_⟩
     rw [hr] at hi
     obtain rfl:i=k:=by simpa using hi
     refine wpOp_mono (fun a' w' h'=>⟨?_,wpAnyE_of hsel hQ hqt hns rest _ a' w' (fun x hx=>hm x (by simp [hx])) (closed_ready hcl (by rw [hr];simp)) hB2 h'.2⟩) h
     unfold behind
     rw [if_neg (fun hq=>(hqt i 2 hmk).1 hq rfl)]
     exact h'.1
   · rw [if_neg (by simpa using hc)] at hB1
     simp only [Bool.and_eq_true] at hB1
     rw [if_neg hc] at h
     obtain ⟨o,v,ho,hy,hk⟩:=h
     have hrdy:k∈Region.ready .any ops listed:=by simpa using hB1.1
     have hrest:=wpAnyE_of hsel hQ hqt hns rest _ _ w (fun x hx=>hm x (by simp [hx])) (closed_ready hcl hrdy) hB2 hk
     by_cases h1:c=1
     · subst h1
       rw [if_pos rfl] at hy
       exact wpAnyE_first ho (Region.noSelect_spec hsel) (fun c a w=>hQ c _ _ w) true ((hqt k 1 hmk).2 hc) (fun _=>hns k hmk) rest.length listed a w hcl (Region.free_spec ho hB1.2) hrdy
        (hy.1.imp (fun ⟨p,q⟩=>⟨p,fun w' hw'=>q w' (hw' rfl)⟩) id) (fun _=>hy.2) hrest
     · rw [if_neg h1] at hy
       exact wpAnyE_first ho (Region.noSelect_spec hsel) (fun c a w=>hQ c _ _ w) false ((hqt k c hmk).2 hc) (fun h=>by cases h) rest.length listed a w hcl (Region.free_spec ho hB1.2) hrdy
        (hy.imp (fun ⟨p,q⟩=>⟨p,fun w' _=>q w'⟩) id) (fun h=>by cases h) hrest
def okOrd (ops:Array Oper) (ord:List (Nat×Cls)):Bool:=
 Region.noSelect ops && okE ops ord (Array.replicate ops.size false) && ord.length == ops.size && (ord.map (·.1)).Nodup && ord.all fun x=>x.1<ops.size
def OnlyN (K:Act→World→Prop):Exit→Act→World→Prop
 | .normal,a,w=>K a w
 | _,_,_=>False
@[go_sem] theorem OnlyN_normal (K:Act→World→Prop) (a:Act) (w:World):OnlyN K .normal a w=K a w:=rfl
def wpX (P:Program) (ops:Array Oper) (Q:Exit→Act→World→Prop) (S:World→Prop) (ns:Nat→Bool):List (Nat×Cls×Oper)→Act→World→Prop
 | [],a,w=>Q .normal a w
 | (i,c,o) :: rest,a,w=>
   if c=2 then (if Region.wanted o (yielded ops a.tmps)=true then o.wp P a w (fun a' w'=>(ns i=true→S w')∧wpX P ops Q S ns rest a' w') Q else (ns i=true→S w)∧wpX P ops Q S ns rest (a.put o.dst undef) w)
   else ∃v,(if c=1 then YieldsIf P ops S o v a∧S w else Yields P ops o v a)∧wpX P ops Q S ns rest (a.put o.dst v) w
def beside (ops:Array Oper) (ord:List (Nat×Cls)):List (Nat×Cls×Oper):=ord.filterMap fun (i,c)=>(ops[i]?).map fun o=>(i,c,o)
theorem wpE_of_X {ns:Nat→Bool} : ∀(ord:List (Nat×Cls)) (a:Act) (w:World),(∀x∈ord,x.1<ops.size)→wpX P ops Q S ns (beside ops ord) a w→wpE P ops Q S ns ord a w
 | [],_,_,_,h=>h
 | (i,c) :: rest,a,w,hl,h=>by
   have hi:i<ops.size:=hl (i,c) (by simp)
   have ho:ops[i]? = some ops[i]:=Array.getElem?_eq_getElem hi
   have hb:beside ops ((i,c) :: rest)=(i,c,ops[i]) :: beside ops rest:=by simp [beside,ho]
   have ih:=fun a w=>wpE_of_X (ns:=ns) rest a w (fun x hx=>hl x (by simp [hx]))
   rw [hb] at h
   simp only [wpX] at h
   simp only [wpE]
   split
   · rename_i hc
     rw [if_pos hc] at h
     unfold wpOp
     simp only [ho]
     split
     · rename_i hw
       rw [if_pos hw] at h
       exact .inl (Oper.wp_mono (fun a w h=>⟨h.1,ih _ _ h.2⟩) h)
     · rename_i hw
       rw [if_neg hw] at h
       exact ⟨h.1,ih _ _ h.2⟩
   · rename_i hc
     rw [if_neg hc] at h
     obtain ⟨v,h1,h2⟩:=h
     exact ⟨_,v,ho,h1,ih _ _ h2⟩
theorem wpAny_E {l:List Oper} {a:Act} {w:World} (S:World→Prop) (ord:List (Nat×Cls)) (hB:okOrd l.toArray ord=true)
 (h : ∀K:Act→World→Prop,(∀a w,Q .normal a w→K a w)→wpX P l.toArray (OnlyN K) S (needS l.toArray ord) (beside l.toArray ord) a w.drew) :
 wpAny P .any l.toArray (OnlyN fun a w=>Q .normal a w) l.toArray.size (Array.replicate l.toArray.size false) a w.drew:=by
 simp only [okOrd,Bool.and_eq_true,beq_iff_eq,decide_eq_true_eq] at hB
 obtain ⟨⟨⟨⟨hsel,hE⟩,hlen⟩,hnd⟩,hlt0⟩:=hB
 have hlt : ∀x∈ord,x.1<l.toArray.size:=by simpa [List.all_eq_true] using hlt0
 clear hlt0
 have h0:=wpE_of_X ord a w.drew hlt (h (fun a w=>Q .normal a w) (fun _ _ h=>h))
 have hcl:Closed l.toArray (Array.replicate l.toArray.size false):=fun m o hm=>by rw [getD_replicate_false] at hm;cases hm
 have hone : ∀k c c',(k,c)∈ord→(k,c')∈ord→c=c':=fun k c c' h1 h2=>by
  clear h h0 hE hlen hcl hlt
  induction ord with
  | nil=>cases h1
  | cons x r ih=>
    simp only [List.map_cons,List.nodup_cons,List.mem_map,not_exists,not_and] at hnd
    rcases List.mem_cons.1 h1 with e1 | h3
    · rcases List.mem_cons.1 h2 with e2 | h4
      · rw [← e1] at e2;injection e2 with _ e;exact e.symm
      · subst e1;exact absurd rfl (hnd.1 (k,c') h4)
    · rcases List.mem_cons.1 h2 with e2 | h4
      · subst e2;exact absurd rfl (hnd.1 (k,c) h3)
      · exact ih hnd.2 h3 h4
 have H:=wpAnyE_of (P:=P) (Q:=OnlyN fun a w=>Q .normal a w) (S:=S) (ord:=ord) (qt:=fun k=>ord.any fun (j,c)=>j == k && c != 2) (ns:=needS l.toArray ord) hsel (fun c a a' w h=>h)
  (fun k c hk=>by
    simp only [List.any_eq_true,Bool.and_eq_true,beq_iff_eq,bne_iff_ne]
    constructor
    · rintro ⟨⟨j,c'⟩,hj,hjk,hc'⟩
      dsimp only at hjk hc'
      subst hjk
      rw [hone _ _ _ hk hj];exact hc'
    · intro hc;exact ⟨(k,c),hk,rfl,hc⟩)
  (fun k hk j hw hjk _=>by
    unfold needS
    rw [List.any_eq_true]
    exact ⟨(k,1),hk,by dsimp only;rw [hw];simp [Ne.symm hjk]⟩)
  ord (Array.replicate l.toArray.size false) a w.drew (fun _ hx=>hx) hcl hE h0
 rw [hlen] at H
 exact wpAny_of_E _ _ _ _ H
theorem wp_region_E {id:Nat} {l:List Oper} {a:Act} {w:World} (S:World→Prop) (ord:List (Nat×Cls)) (hm:P.follows .mixedOrders=true) (hB:okOrd l.toArray ord=true)
 (h : ∀K:Act→World→Prop,(∀a w,Q .normal a w→K a w)→wpX P l.toArray (OnlyN K) S (needS l.toArray ord) (beside l.toArray ord) a w.drew):(Code.region id l.toArray true).wp P Q a w:=
 Code.wp_mono (Q:=OnlyN fun a w=>Q .normal a w) (fun e a w hq=>by cases e<;>first | exact hq | exact hq.elim) (wp_region_any hm (wpAny_E S ord hB h))
variable {ns:Nat→Bool} {rest:List (Nat×Cls×Oper)} {a:Act} {w:World} {i:Nat} {o:Oper}
theorem wpX_nil (h:Q .normal a w):wpX P ops Q S ns [] a w:=h
theorem wpX_w (v:Value) (hy:Yields P ops o v a) (h:wpX P ops Q S ns rest (a.put o.dst v) w):wpX P ops Q S ns ((i,0,o) :: rest) a w:=by
 simp only [wpX]
 exact ⟨v,by simpa using hy,h⟩
theorem wpX_l (v:Value) (hS:S w) (hy:YieldsIf P ops S o v a) (h:wpX P ops Q S ns rest (a.put o.dst v) w):wpX P ops Q S ns ((i,1,o) :: rest) a w:=by
 simp only [wpX]
 exact ⟨v,by simpa using ⟨hy,hS⟩,h⟩
theorem wpX_e (hn:ns i=false)
 (h : ∀K:Act→World→Prop,(∀a w,wpX P ops Q S ns rest a w→K a w)→if Region.wanted o (yielded ops a.tmps)=true then Oper.wp P o a w K Q else K (a.put o.dst undef) w):wpX P ops Q S ns ((i,2,o) :: rest) a w:=by
 have:=h (fun a' w'=>(ns i=true→S w')∧wpX P ops Q S ns rest a' w') (fun a w h2=>⟨fun h=>absurd h (by rw [hn];simp),h2⟩)
 simpa only [wpX,if_true] using this
theorem wpX_es
 (h : ∀K:Act→World→Prop,(∀a w,S w→wpX P ops Q S ns rest a w→K a w)→if Region.wanted o (yielded ops a.tmps)=true then Oper.wp P o a w K Q else K (a.put o.dst undef) w):wpX P ops Q S ns ((i,2,o) :: rest) a w:=by
 have:=h (fun a' w'=>(ns i=true→S w')∧wpX P ops Q S ns rest a' w') (fun a w h1 h2=>⟨fun _=>h1,h2⟩)
 simpa only [wpX,if_true] using this
end
end Go.Proofs.Ytffemfglngikbaa
namespace Go.Proofs.Ytffemfglngikbaa
open Go.RowKit
def cellsAt (W:World) (k:Nat):Prop:=∃c e f,W.heap[k]? = some (.cells c e f)
structure Priv (B:Nat) (W W':World):Prop where
 os:W'.os=W.os
 tape:W'.tape=W.tape
 output:W'.output=W.output
 size:W.heap.size≤W'.heap.size
 block : ∀k,k<W.heap.size→(k<B∨cellsAt W k)→W'.heap[k]? = W.heap[k]?
section
variable {B B':Nat} {W W' X Y Z:World}
theorem Priv.refl (B:Nat) (W:World):Priv B W W:=⟨rfl,rfl,rfl,Nat.le_refl _,fun _ _ _=>rfl⟩
theorem Priv.trans (h:Priv B X Y) (k:Priv B Y Z):Priv B X Z:=
 ⟨k.os.trans h.os,k.tape.trans h.tape,k.output.trans h.output,Nat.le_trans h.size k.size,fun i hi hc=>by
  have e:=h.block i hi hc
  refine (k.block i (Nat.lt_of_lt_of_le hi h.size) (hc.imp id fun ⟨c,t,f,hh⟩=>⟨c,t,f,e.trans hh⟩)).trans e⟩
theorem Priv.alloc (h:Priv B X Y) (o:Obj):Priv B X (Y.alloc o):=
 ⟨h.os,h.tape,h.output,Nat.le_trans h.size (by simp),fun k hk hc=>(Below.heap_alloc Y o k (Nat.lt_of_lt_of_le hk h.size)).trans (h.block k hk hc)⟩
theorem Priv.drew (h:Priv B X Y):Priv B X Y.drew:=⟨h.os,h.tape,h.output,h.size,h.block⟩
theorem Priv.putObj (h:Priv B X Y) {l:Nat} {o:Obj} (hl:B≤l) (ho:Y.heap[l]? = some o) (hc:o.isCells=false) (o':Obj):Priv B X (Y.putObj l o'):=
 ⟨h.os,h.tape,h.output,by simpa using h.size,fun k hk hk2=>by
  have e:=h.block k hk hk2
  rw [World.putObj_heap_other,e]
  rintro rfl
  rcases hk2 with hk2 | ⟨c,t,f,hh⟩
  · omega
  · rw [e,hh] at ho
    cases ho
    cases hc⟩
theorem Priv.of_below (h:Below X.heap.size X Y) (B:Nat):Priv B X Y:=⟨h.os,h.tape,h.output,h.size,fun k hk _=>h.block k hk⟩
theorem Priv.mono (h:Priv B' X Y) (hB:B≤B'):Priv B X Y:=⟨h.os,h.tape,h.output,h.size,fun k hk hc=>h.block k hk (hc.imp (fun h=>by omega) id)⟩
theorem Blk.at_ {g:Nat} {t:TypeId} {cs:Array Value} (h:Blk W g t cs):cellsAt W g:=⟨_,_,_,h⟩
theorem KeepsFrom.set_ (h:KeepsFrom B X Y) (a:Addr) (v:Value):KeepsFrom B X (Y.setCell a v):=h.trans ((KeepsOthers.setCell Y a v).from B)
end
variable {P:Program}
def Iter {α:Type} (P:Program) (gf:Nat) (lb:Array Value) (encs:α→Array Value) (xs:List α) (W:World) (start Kp:World→World→Prop):Prop:=
 ∀(l:Nat) (J Jx:List α→World→Prop),(∀p X Y,J p X→Priv W.heap.size X Y→J p Y)→(∀p X Y,Jx p X→Priv W.heap.size X Y→Jx p Y)→
  (∀W1,start W W1→J [] W1)→
  (∀pre x post W1,xs=pre++x :: post→J pre W1→YieldAt Fence.wide 0 P l (encs x) W1 fun e W'=>
    (e = .returned (.bool true)∧J (pre ++ [x]) W'∧Kp W1 W')∨(e = .returned (.bool false)∧Jx (pre ++ [x]) W'))→
  CallsIn Fence.wide 0 P gf (#[.func (.yield l) #[] #[]]++lb) W fun e W'=>(∃v,e = .returned v)∧(J xs W'∨∃pre post,xs=pre++post∧Jx pre W')
theorem KeepsFrom.up {B C:Nat} {X Y:World} (h:KeepsFrom B X Y) (hB:B≤C):KeepsFrom C X Y:=⟨h.size,fun k o hC hk hc=>h.same k o (by omega) hk hc⟩
theorem uponIn_of_upon {l:Nat} {o:Oper} {a:Act} {K:Act→World→Prop} {Q:Exit→Act→World→Prop} {r:Result Next} (h:o.upon P a K Q r):o.uponIn (Fence.wide.inRound l) 0 P a K Q r:=by
 cases r with
 | ok n w=>
   cases n<;>simp only [Oper.upon] at h<;>simp only [Oper.uponIn]
   case value=>exact h
   case skip=>exact h
   case defer=>exact h
   case enter f args=>exact ⟨fun h=>by simp [Fence.wide] at h,callsIn_wide.2 h⟩
   case row row args=>
    refine ⟨fun h=>by simp [Fence.wide] at h,fun c cs _=>?_⟩
    obtain ⟨v,w',hr,hs⟩:=h c cs
    exact ⟨v,w',hr,stepsIn_wide.2 hs⟩
 | halt x w=>cases x<;>simp only [Oper.upon] at h<;>simp only [Oper.uponIn]<;>exact h
theorem wpIn_region_E {id l0:Nat} {l:List Oper} {Q:Exit→Act→World→Prop} {a:Act} {w:World} (S:World→Prop) (ord:List (Nat×Cls)) (hm:P.follows .mixedOrders=true) (hB:okOrd l.toArray ord=true)
 (hd:(l.all fun o=>match o.op with | .defer _=>false | _=>true)=true)
 (h : ∀K:Act→World→Prop,(∀a w,Q .normal a w→K a w)→wpX P l.toArray (OnlyN K) S (needS l.toArray ord) (beside l.toArray ord) a w.drew):(Code.region id l.toArray true).wpIn (Fence.wide.inRound l0) 0 P Q a w:=by
 have hnd : ∀(i:Nat) (o:Oper),l.toArray[i]? = some o→∀c,o.op≠.defer c:=fun i o ho c hc=>by
  have hmem:o∈l:=by
   have:=Array.mem_of_getElem? ho
   simpa using this
  have:=List.all_eq_true.1 hd o hmem
  rw [hc] at this
  cases this
 have conv : ∀(fuel:Nat) (listed:Array Bool) (a:Act) (w:World),wpAny P .any l.toArray (OnlyN fun a w=>Q .normal a w) fuel listed a w→wpAnyIn (Fence.wide.inRound l0) 0 P .any l.toArray (OnlyN fun a w=>Q .normal a w) fuel listed a w:=by
  intro fuel
  induction fuel with
  | zero=>exact fun _ _ _ h=>h
  | succ fuel ih=>
    intro listed a w hh
    refine ⟨hh.1,fun i hi=>?_⟩
    have h1:=hh.2 i hi
    unfold wpOp at h1
    unfold wpOpIn
    cases ho:l.toArray[i]? with
    | none=>simp only [ho] at h1 ⊢;exact ih _ _ _ h1
    | some o=>
      simp only [ho] at h1 ⊢
      by_cases hw:Region.wanted o (yielded l.toArray a.tmps)=true
      · rw [if_pos hw] at h1 ⊢
        rcases h1 with h1 | ⟨_,⟨a',w',hlet⟩⟩
        · refine ⟨fun _ _=>trivial,?_⟩
          rw [show (Fence.wide.inRound l0).round=some l0 from rfl,Oper.semAt_some l0 a.eval o (hnd i o ho)]
          refine uponIn_of_upon ?_
          exact Oper.wp_mono (fun a w h=>ih _ _ _ h) h1
        · exact hlet.elim
      · rw [if_neg hw] at h1 ⊢
        exact ⟨fun _ _=>trivial,ih _ _ _ h1⟩
 refine wpIn_mono (Q:=OnlyN fun a w=>Q .normal a w) (wpIn_region_any hm (conv _ _ _ _ ?_)) (fun e a w hq=>by cases e<;>first | exact hq | exact hq.elim)
 exact wpAny_E S ord hB h
end Go.Proofs.Ytffemfglngikbaa
namespace Go.Proofs.Ytffemfglngikbaa
open Go.RowKit
variable {P:Program}
structure Kept (B:Nat) (F X Y:World):Prop where
 from_:KeepsFrom B X Y
 own : ∀k,B≤k→k<F.heap.size→Y.heap[k]? = X.heap[k]?
section
variable {B C:Nat} {F X Y Z:World}
theorem Kept.refl (B:Nat) (F X:World):Kept B F X X:=⟨⟨Nat.le_refl _,fun _ _ _ h _=>h⟩,fun _ _ _=>rfl⟩
theorem Kept.trans (h:Kept B F X Y) (k:Kept B F Y Z):Kept B F X Z:=⟨h.1.trans k.1,fun i h1 h2=>(k.2 i h1 h2).trans (h.2 i h1 h2)⟩
theorem Kept.up (h:Kept B F X Y) (hB:B≤C):Kept C F X Y:=⟨KeepsFrom.up h.1 hB,fun i h1 h2=>h.2 i (by omega) h2⟩
theorem Kept.new_ (h:Below X.heap.size X Y) (hs:F.heap.size≤X.heap.size):Kept B F X Y:=
 ⟨⟨h.size,fun k o _ hk _=>(h.block k (Array.getElem?_eq_some_iff.1 hk).1).trans hk⟩,fun k _ hk=>h.block k (by omega)⟩
end
def IterP {α:Type} (P:Program) (gf:Nat) (lb:Array Value) (encs:α→Array Value) (xs:List α) (W:World) (start Kp:World→World→Prop):Prop:=
 ∀(l:Nat) (J Jx:World→List α→World→Prop),(∀F p X Y,J F p X→Priv W.heap.size X Y→J F p Y)→(∀F p X Y,Jx F p X→Priv W.heap.size X Y→Jx F p Y)→
  (∀F,start W F→J F [] F)→
  (∀F pre x post W1,start W F→xs=pre++x :: post→J F pre W1→YieldAt Fence.wide 0 P l (encs x) W1 fun e W'=>
    (e = .returned (.bool true)∧J F (pre ++ [x]) W'∧Kp W1 W'∧Kept W.heap.size F W1 W')∨(e = .returned (.bool false)∧Jx F (pre ++ [x]) W'∧Kept W.heap.size F W1 W'))→
  CallsIn Fence.wide 0 P gf (#[.func (.yield l) #[] #[]]++lb) W fun e W'=>(∃v,e = .returned v)∧∃F,start W F∧(J F xs W'∨∃pre post,xs=pre++post∧Jx F pre W')
theorem Iter.p {α:Type} {gf:Nat} {lb:Array Value} {encs:α→Array Value} {xs:List α} {W:World} {start Kp:World→World→Prop} (h:Iter P gf lb encs xs W start (fun X Y=>Kp X Y∧KeepsFrom W.heap.size X Y)):IterP P gf lb encs xs W start Kp:=by
 intro l J Jx h1 h2 h3 h4
 refine (h l (fun p X=>∃F,start W F∧J F p X) (fun p X=>∃F,start W F∧Jx F p X) (fun p X Y ⟨F,a,b⟩ hp=>⟨F,a,h1 F p X Y b hp⟩) (fun p X Y ⟨F,a,b⟩ hp=>⟨F,a,h2 F p X Y b hp⟩) (fun F hF=>⟨F,hF,h3 F hF⟩) ?_).mono ?_
 · rintro pre x post W1 hx ⟨F,hF,hJ⟩
   obtain ⟨fn,tmps,assign,body,hy,hR⟩:=h4 F pre x post W1 hF hx hJ
   refine ⟨fn,tmps,assign,body,hy,hR.mono ?_⟩
   rintro e W' (⟨g1,g2,g3,g4⟩ | ⟨g1,g2,_⟩)
   · exact .inl ⟨g1,⟨F,hF,g2⟩,g3,g4.1⟩
   · exact .inr ⟨g1,F,hF,g2⟩
 · rintro e W' ⟨hv,(⟨F,hF,hJ⟩ | ⟨pre,post,hx,F,hF,hJ⟩)⟩
   · exact ⟨hv,F,hF,.inl hJ⟩
   · exact ⟨hv,F,hF,.inr ⟨pre,post,hx,hJ⟩⟩
end Go.Proofs.Ytffemfglngikbaa
namespace Go.Proofs.Ytffemfglngikbaa
open Go.RowKit
variable {P:Program}
def Plus (D:Nat→Prop) (X Y:World):Nat→Prop:=fun k=>D k∨(X.heap.size≤k∧k<Y.heap.size)
def FromB (B:Nat) (D:Nat→Prop):Nat→Prop:=fun k=>D k∧B≤k
theorem Plus.same {D:Nat→Prop} {X Y:World} (h:Y.heap.size=X.heap.size):Plus D X Y=D:=by
 funext k;apply propext;unfold Plus;constructor
 · rintro (h | h)
   · exact h
   · omega
 · exact .inl
def Steady {α:Type} (B:Nat) (J:(Nat→Prop)→List α→World→Prop):Prop:=∀D p X Y,J D p X→Fr (FromB B D) X Y→J (Plus D X Y) p Y
theorem Steady.same {α:Type} {B:Nat} {J:(Nat→Prop)→List α→World→Prop} (h:Steady B J) {D:Nat→Prop} {p:List α} {X Y:World} (hJ:J D p X) (hF:Fr (FromB B D) X Y) (hz:Y.heap.size=X.heap.size):J D p Y:=by
 have:=h D p X Y hJ hF
 rwa [Plus.same hz] at this
def RoundsO {α:Type} (P:Program) (l:Nat) (encs:α→Array Value) (xs:List α) (J Jx:(Nat→Prop)→List α→World→Prop):Prop:=
 ∀D pre x post W1,xs=pre++x :: post→J D pre W1→YieldAt Fence.wide 0 P l (encs x) W1 fun e W'=>
  (e = .returned (.bool true)∧J D (pre ++ [x]) W'∧Fr (fun k=>¬D k) W1 W')∨(e = .returned (.bool false)∧Jx D (pre ++ [x]) W'∧Fr (fun k=>¬D k) W1 W')
def ToldO {α:Type} (xs:List α) (J Jx:(Nat→Prop)→List α→World→Prop) (W':World):Prop:=∃D,J D xs W'∨∃pre post,xs=pre++post∧Jx D pre W'
def IterO {α:Type} (P:Program) (gf:Nat) (lb:Array Value) (encs:α→Array Value) (xs:List α) (W:World) (D:Nat→Prop):Prop:=
 ∀(l:Nat) (J Jx:(Nat→Prop)→List α→World→Prop),Steady W.heap.size J→Steady W.heap.size Jx→J D [] W→RoundsO P l encs xs J Jx→
  CallsIn Fence.wide 0 P gf (#[.func (.yield l) #[] #[]]++lb) W fun e W'=>(∃v,e = .returned v)∧ToldO xs J Jx W'
theorem Fr.putObj {M:Nat→Prop} {X Y:World} (h:Fr M X Y) {l:Nat} (hl:M l∨X.heap.size≤l) (o:Obj):Fr M X (Y.putObj l o):=
 ⟨h.os,h.tape,h.output,by simpa using h.size,fun k hk hn=>(World.putObj_heap_other (by
  rintro rfl
  rcases hl with hl | hl
  · exact hn hl
  · omega)).trans (h.block k hk hn)⟩
def rPostO {α:Type} (D:Nat→Prop) (I:(Nat→Prop)→List α→World→Prop) (Ix:Code→(Nat→Prop)→List α→World→Prop) (p:List α) (W:World):Exit→Act→World→Prop
 | .normal,_,W'=>Fr (fun k=>¬D k) W W'∧I D p W'
 | .ret,_,W'=>Fr (fun k=>¬D k) W W'∧Ix .ret D p W'
 | .exit id,_,W'=>Fr (fun k=>¬D k) W W'∧Ix (.exit id) D p W'
 | .goto t,_,W'=>Fr (fun k=>¬D k) W W'∧Ix (.goto t) D p W'
 | .panic _,_,_=>False
 | .outgrown,_,_=>False
theorem wpIn_rangeO {α:Type} {g:Operand} {ps:Array Tmp} {assign body:Code} {Q:Exit→Act→World→Prop} {a:Act} {w:World} {gf:Nat} {lb:Array Value}
 (hg:a.eval g = .func (.func gf) #[] lb) (eg : ∀args w,(callFunc gf args).run P w = .ok (.enter gf args) w)
 {encs:α→Array Value} {xs:List α} {D:Nat→Prop} (hD : ∀k,D k→k<w.heap.size) (hseq : ∀W,Below w.heap.size w W→IterO P gf lb encs xs W D)
 (hps : ∀x,(encs x).size=ps.size)
 (I:(Nat→Prop)→List α→World→Prop) (Ix:Code→(Nat→Prop)→List α→World→Prop) (hI:Steady w.heap.size I) (hIx : ∀c,Steady w.heap.size (Ix c))
 (h0:I D [] w)
 (hround : ∀(D:Nat→Prop) (l:Nat) (pre:List α) (x:α) (post:List α) (W:World),xs=pre++x :: post→w.heap.size≤l→D l→I D pre W→
   assign.wpIn (Fence.wide.inRound l) 0 P (Exit.then (fun a1 W1=>Fr (fun k=>¬D k) W W1∧∀W2,Fr (· = l) W1 W2→W2.heap.size=W1.heap.size→(∃r,W2.heap[l]? = some (.loop r))→
    body.wpIn (Fence.wide.inRound l) 0 P (rPostO D I Ix (pre ++ [x]) W2) a1 W2) (fun _ _ _=>False))
    { tmps:=(ps.zip (encs x)).foldl (fun t (p,v)=>t.setIfInBounds p v) a.tmps,defers:=[] } W)
 (hdone : ∀(D:Nat→Prop) (d:Nat) (W:World),w.heap.size≤d→D d→I D xs W→W.heap[d]? = some (.deferred (some []))→Q .normal { a with defers:={ target:=.collected d,args:=#[] } :: a.defers } W)
 (hstop : ∀(D:Nat→Prop) (d:Nat) (c:Code) (pre post:List α) (W:World),w.heap.size≤d→D d→xs=pre++post→Ix c D pre W→W.heap[d]? = some (.deferred (some []))→c.wpIn Fence.wide 0 P Q { a with defers:={ target:=.collected d,args:=#[] } :: a.defers } W) :
 (Code.rangeFunc g ps assign body).wpIn Fence.wide 0 P Q a w:=by
 refine wpIn_rangeFunc ?_
 intro fn hfn
 obtain ⟨rec,hrec⟩ : ∃rec:LoopState→Option Code→Loop,rec=fun st pe=>{ state:=st,pending:=pe,fn,tmps:=a.tmps,params:=ps,assign,body,defers:=w.heap.size }:=⟨_,rfl⟩
 obtain ⟨W1,hW1⟩ : ∃W1,(w.alloc (.deferred (some []))).alloc (.loop (rec .ready none))=W1:=⟨_,rfl⟩
 have hL1:W1.heap[w.heap.size+1]? = some (.loop (rec .ready none)):=by
  rw [← hW1];have:=World.alloc_heap_new (w.alloc (.deferred (some []))) (.loop (rec .ready none));rwa [World.size_alloc] at this
 have hK1:W1.heap[w.heap.size]? = some (.deferred (some [])):=by
  rw [← hW1];exact (Below.heap_alloc _ _ _ (by simp)).trans (World.alloc_heap_new w _)
 have hb1:Below w.heap.size w W1:=by
  rw [← hW1];exact ((Below.refl _ w).alloc (Nat.le_refl _) _).alloc (by simp) _
 have hz1:W1.heap.size=w.heap.size+2:=by rw [← hW1];simp
 obtain ⟨U,hU⟩ : ∃U:(Nat→Prop)→Nat→Prop,U=fun D' k=>D' k∨(w.heap.size≤k∧k<w.heap.size+2):=⟨_,rfl⟩
 have u0 : ∀D',U D' w.heap.size:=fun D'=>by rw [hU];exact .inr ⟨by omega,by omega⟩
 have u1 : ∀D',U D' (w.heap.size+1):=fun D'=>by rw [hU];exact .inr ⟨by omega,by omega⟩
 have us : ∀D' k,D' k→U D' k:=fun D' k h=>by rw [hU];exact .inl h
 have up : ∀D' (X Y:World),Plus (U D') X Y=U (Plus D' X Y):=fun D' X Y=>by
  funext k;apply propext;rw [hU];unfold Plus;dsimp only;constructor
  · rintro ((h | h) | h)
    · exact .inl (.inl h)
    · exact .inr h
    · exact .inl (.inr h)
  · rintro ((h | h) | h)
    · exact .inl (.inl h)
    · exact .inr h
    · exact .inl (.inr h)
 have hstart:I (U D) [] W1:=by
  have h9:=hI D [] w W1 h0 (Fr.of_new hb1)
  have e:Plus D w W1=U D:=by funext k;rw [hU];unfold Plus;rw [hz1]
  rwa [e] at h9
 refine ⟨w.heap.size+1,[{ target:=.collected w.heap.size,args:=#[] }],W1,{ target:=.fn (.func gf) lb,args:=#[.func (.yield (w.heap.size+1)) #[] #[]] },W1,gf,
  #[.func (.yield (w.heap.size+1)) #[] #[]]++lb,W1,?_,?_,fun _ _=>trivial,?_,fun h=>by simp [Fence.wide] at h,?_⟩
 · rw [← hW1,hrec];exact run_enterLoop_outer _ _ _ _ _
 · simp only [resolve,hg]
   simp [go_sem]
 · simp [invoke,go_sem,eg]
 · refine (hseq W1 hb1 (w.heap.size+1)
    (fun D' pre W=>I (U D') pre W∧¬D' w.heap.size∧¬D' (w.heap.size+1)∧W.heap[w.heap.size+1]? = some (.loop (rec .ready none))∧W.heap[w.heap.size]? = some (.deferred (some [])))
    (fun D' pre W=>¬D' w.heap.size∧¬D' (w.heap.size+1)∧∃c,Ix c (U D') pre W∧W.heap[w.heap.size+1]? = some (.loop (rec .done (some c)))∧W.heap[w.heap.size]? = some (.deferred (some [])))
    (fun D' p X Y ⟨h1,h2,h3,h4,h5⟩ hF=>?_) (fun D' p X Y ⟨h2,h3,c,h1,h4,h5⟩ hF=>?_)
    ⟨hstart,fun h=>by have:=hD _ h;omega,fun h=>by have:=hD _ h;omega,hL1,hK1⟩ ?_).mono ?_
   · have z4:=(Array.getElem?_eq_some_iff.1 h4).1
     have z5:=(Array.getElem?_eq_some_iff.1 h5).1
     refine ⟨by rw [← up];exact hI _ _ _ _ h1 (hF.mono (fun k _ hk=>⟨us _ _ hk.1,by have:=hk.2;omega⟩)),?_,?_,(hF.block _ z4 (fun hk=>h3 hk.1)).trans h4,(hF.block _ z5 (fun hk=>h2 hk.1)).trans h5⟩
     · rintro (h | h)
       · exact h2 h
       · omega
     · rintro (h | h)
       · exact h3 h
       · omega
   · have z4:=(Array.getElem?_eq_some_iff.1 h4).1
     have z5:=(Array.getElem?_eq_some_iff.1 h5).1
     refine ⟨?_,?_,c,by rw [← up];exact hIx c _ _ _ _ h1 (hF.mono (fun k _ hk=>⟨us _ _ hk.1,by have:=hk.2;omega⟩)),(hF.block _ z4 (fun hk=>h3 hk.1)).trans h4,(hF.block _ z5 (fun hk=>h2 hk.1)).trans h5⟩
     · rintro (h | h)
       · exact h2 h
       · omega
     · rintro (h | h)
       · exact h3 h
       · omega
   · rintro D' pre x post W hx ⟨hi,nd,nl,hl,hk⟩
     have hy:=run_yield (P:=P) (args:=encs x) hl (by rw [hrec];exact hps x)
     rw [hrec] at hy
     refine ⟨fn,_,assign,body,hy,roundIn_of_wpIn hfn ?_⟩
     refine wpIn_mono (hround (U D') (w.heap.size+1) pre x post W hx (by omega) (u1 _) hi) ?_
     rintro e a1 Wa hp
     have lu : ∀{X Y:World},Fr (fun k=>¬U D' k) X Y→Fr (fun k=>¬D' k) X Y:=fun h=>h.mono (fun k _ hk hd=>hk (us _ _ hd))
     cases e with
     | normal=>
       obtain ⟨hfa,hbody⟩:=hp
       have zl:=(Array.getElem?_eq_some_iff.1 hl).1
       have zk:=(Array.getElem?_eq_some_iff.1 hk).1
       have hla:=(hfa.block _ zl (fun hn=>hn (u1 _))).trans hl
       have hkd:=(hfa.block _ zk (fun hn=>hn (u0 _))).trans hk
       have hlt:w.heap.size+1<Wa.heap.size:=(Array.getElem?_eq_some_iff.1 hla).1
       have hbr:=run_beginRound (P:=P) hla (by rw [hrec])
       refine ⟨_,hbr,?_⟩
       have hl2:(Wa.putObj (w.heap.size+1) (.loop { rec .ready none with state:=.busy })).heap[w.heap.size+1]? = some (.loop { rec .ready none with state:=.busy }):=World.putObj_heap_same hlt
       have hk2:(Wa.putObj (w.heap.size+1) (.loop { rec .ready none with state:=.busy })).heap[w.heap.size]? = some (.deferred (some [])):=(World.putObj_heap_other (by omega)).trans hkd
       have hfb:Fr (fun k=>¬D' k) W (Wa.putObj (w.heap.size+1) (.loop { rec .ready none with state:=.busy })):=(lu hfa).trans ((Fr.refl _ Wa).putObj (.inl nl) _)
       refine wpIn_mono (hbody _ ((Fr.refl (· = w.heap.size+1) Wa).putObj (.inl rfl) _) (by simp) ⟨_,hl2⟩) ?_
       have fin : ∀(jump:Option Code) (W3:World),Fr (fun k=>¬U D' k) (Wa.putObj (w.heap.size+1) (.loop { rec .ready none with state:=.busy })) W3→
        (Instr.endRound (w.heap.size+1) jump).run P W3 = .ok (.bool jump.isNone) (W3.putObj (w.heap.size+1) (.loop (rec (if jump.isNone then .ready else .done) jump)))∧
        Fr (FromB w.heap.size (U D')) W3 (W3.putObj (w.heap.size+1) (.loop (rec (if jump.isNone then .ready else .done) jump)))∧
        Fr (fun k=>¬D' k) W (W3.putObj (w.heap.size+1) (.loop (rec (if jump.isNone then .ready else .done) jump)))∧
        (W3.putObj (w.heap.size+1) (.loop (rec (if jump.isNone then .ready else .done) jump))).heap[w.heap.size+1]? = some (.loop (rec (if jump.isNone then .ready else .done) jump))∧
        (W3.putObj (w.heap.size+1) (.loop (rec (if jump.isNone then .ready else .done) jump))).heap[w.heap.size]? = some (.deferred (some [])):=fun jump W3 hk3=>by
        have hl3:=(hk3.block _ (by simpa using hlt) (fun hn=>hn (u1 _))).trans hl2
        have hd3:=(hk3.block _ (by have:=hlt;simp;omega) (fun hn=>hn (u0 _))).trans hk2
        have:=run_endRound (P:=P) jump hl3
        rw [hrec] at this ⊢
        exact ⟨this,(Fr.refl _ W3).putObj (.inl ⟨u1 _,by omega⟩) _,(hfb.trans (lu hk3)).trans ((Fr.refl _ W3).putObj (.inl nl) _),World.putObj_heap_same (Array.getElem?_eq_some_iff.1 hl3).1,(World.putObj_heap_other (by omega)).trans hd3⟩
       rintro e a3 W3 hp
       cases e with
       | normal=>
         obtain ⟨hk3,hi3⟩:=hp
         obtain ⟨hr,hst,hfr,hl4,hk4⟩:=fin none W3 hk3
         exact ⟨_,_,hr,.inl ⟨rfl,⟨hI.same hi3 hst (by simp),nd,nl,hl4,hk4⟩,hfr⟩⟩
       | ret=>
         obtain ⟨hk3,hi3⟩:=hp
         obtain ⟨hr,hst,hfr,hl4,hk4⟩:=fin (some .ret) W3 hk3
         exact ⟨_,_,hr,.inr ⟨rfl,⟨nd,nl,.ret,(hIx .ret).same hi3 hst (by simp),hl4,hk4⟩,hfr⟩⟩
       | exit id=>
         obtain ⟨hk3,hi3⟩:=hp
         obtain ⟨hr,hst,hfr,hl4,hk4⟩:=fin (some (.exit id)) W3 hk3
         exact ⟨_,_,hr,.inr ⟨rfl,⟨nd,nl,.exit id,(hIx (.exit id)).same hi3 hst (by simp),hl4,hk4⟩,hfr⟩⟩
       | goto t=>
         obtain ⟨hk3,hi3⟩:=hp
         obtain ⟨hr,hst,hfr,hl4,hk4⟩:=fin (some (.goto t)) W3 hk3
         exact ⟨_,_,hr,.inr ⟨rfl,⟨nd,nl,.goto t,(hIx (.goto t)).same hi3 hst (by simp),hl4,hk4⟩,hfr⟩⟩
       | panic ch=>exact hp.elim
       | outgrown=>exact hp.elim
     | exit id=>exact hp.elim
     | goto l=>exact hp.elim
     | ret=>exact hp.elim
     | panic ch=>exact hp.elim
     | outgrown=>exact hp.elim
   · have pst : ∀(D':Nat→Prop) (X:World) (o:Obj),Fr (FromB w.heap.size (U D')) X (X.putObj (w.heap.size+1) o):=fun D' X o=>(Fr.refl _ X).putObj (.inl ⟨u1 _,by omega⟩) _
     rintro e W2 ⟨⟨v,rfl⟩,D',(⟨hi,nd,nl,hl,hk⟩ | ⟨pre,post,hS,nd,nl,c,hi,hl,hk⟩)⟩
     · exact ⟨none,_,by have:=run_endLoop (P:=P) hl (by rw [hrec];simp);rw [hrec] at this;exact this,hdone (U D') _ _ (Nat.le_refl _) (u0 _) (hI.same hi (pst _ _ _) (by simp)) ((World.putObj_heap_other (by omega)).trans hk)⟩
     · exact ⟨some c,_,by have:=run_endLoop (P:=P) hl (by rw [hrec];simp);rw [hrec] at this;exact this,hstop (U D') _ c pre post _ (Nat.le_refl _) (u0 _) hS ((hIx c).same hi (pst _ _ _) (by simp)) ((World.putObj_heap_other (by omega)).trans hk)⟩
end Go.Proofs.Ytffemfglngikbaa
namespace Go.Proofs.Ytffemfglngikbaa
open Go.RowKit
theorem Fr.setCells {M:Nat→Prop} {a:World} {g:Nat} : ∀(vs:List Value) (o:Nat) {b:World},Fr M a b→(M g∨a.heap.size≤g)→Fr M a (b.setCells g o vs)
 | [],_,_,h,_=>h
 | v :: vs,o,_,h,hg=>Fr.setCells vs (o+1) (h.setCell (p:=⟨g,o,none⟩) hg v) hg
theorem step_store_el {P:Program} {ops:Array Oper} {o:Oper} {a:Act} {w:World} {K:Act→World→Prop} {Q:Exit→Act→World→Prop} {E:Prop} (hgd:o.guard=none) (ty:TypeId) (x y:Operand) (ho:o.op = .store ty x y)
 (b off:Nat) (cells:Array Value) (hx:a.eval x = .pointer (some ⟨b,off,none⟩)) (hy:a.eval y = .agg cells)
 (ht:w.there b off cells.size) (hi:(P.info? ty).map (·.size)=some cells.size) (h1:cells.all (·.oneCell')=true)
 (h:K (a.put o.dst undef) (w.setCells b off cells.toList)):if Region.wanted o (yielded ops a.tmps)=true then Oper.wp P o a w K Q else E:=by
 rw [if_pos (by simp [Region.wanted,hgd])]
 exact wp_store_mid ty x y ho b off cells hx hy ht hi h1 h
theorem Room.there {w:World} {g:Nat} {e:TypeId} {m:Nat} (h:Room w g e m) {o n:Nat} (hn:o+n≤m):w.there g o n:=fun j hj=>by
 obtain ⟨u,hu⟩:=h.cell (i:=o+j) (by omega)
 exact ⟨by rw [hu];rfl,h.frozen _⟩
theorem Blk.range {w:World} {g:Nat} {t:TypeId} {cs:Array Value} (h:Blk w g t cs):w.rangeAt g 0 cs.toList:=fun j v hv=>by
 rw [Nat.zero_add,h.cell];simpa using hv
theorem Blk.there {w:World} {g:Nat} {t:TypeId} {cs:Array Value} (h:Blk w g t cs):w.there g 0 cs.size:=fun j hj=>by
 rw [Nat.zero_add]
 exact ⟨by rw [h.cell,Array.getElem?_eq_getElem hj];rfl,h.frozen j⟩
theorem Below.setCells' {B:Nat} {a:World} {g:Nat} : ∀(vs:List Value) (o:Nat) {b:World},Below B a b→B≤g→Below B a (b.setCells g o vs)
 | [],_,_,h,_=>h
 | v :: vs,o,_,h,hg=>Below.setCells' vs (o+1) (h.setCell (show B≤(⟨g,o,none⟩:Addr).block from hg) v) hg
theorem results_cell {P:Program} {fn:Func} {t:Tmp} {T:TypeId} (h:fn.results = #[.cell t T]) (tmps:Array Value) (w:World) (g:Nat) (cs:List Value) (d:TypeDesc) (ht:tmps.getD t undef = .pointer (some ⟨g,0,none⟩)) (hc:w.rangeAt g 0 cs)
 (hu:P.underlying T=some d) (hd:d.isRow=true) (hi:(P.info? T).map (·.size)=some cs.length):(results fn tmps).run P w = .ok (.agg cs.toArray) w:=by
 have hl:=run_loadVar_mid (P:=P) w g 0 T cs d hc hu hd hi
 have ht':tmps[t]?.getD undef = .pointer (some ⟨g,0,none⟩):=by simpa using ht
 simp [results,h,ht',asAddr,hl]
theorem RowRd.range {α:Type} {w:World} {size c:Nat} {cells:α→List Value} {A:Option Addr} {l:List α} (h:RowRd w size cells A c l) {k:Nat} (hk:k<l.length) : ∃b off,A=some ⟨b,off,none⟩∧b<w.heap.size∧w.rangeAt b (off+k*size) (cells l[k]):=by
 obtain ⟨b,off,h1,h2,h3⟩:=h.at_ hk
 exact ⟨b,off,h1,h2,fun j v hv=>h3 j v hv⟩
end Go.Proofs.Ytffemfglngikbaa
namespace Go.Proofs.Ytffemfglngikbaa
open Go.RowKit
variable {P:Program} {α:Type}
def ItSt (J:(Nat→Prop)→List α→World→Prop) (D E:Nat→Prop) (W:World) (pre:List α) (X:World):Prop:=
 ∃D',(∀k,D k→D' k)∧(∀k,E k→D' k)∧J D' pre X∧Fr (fun j=>¬D j) W X∧(∀k,E k→W.heap.size≤k)
section
variable {J Jx:(Nat→Prop)→List α→World→Prop} {D E E':Nat→Prop} {W X Y:World} {pre xs:List α}
theorem ItSt.start (h:J D [] W):ItSt J D (fun _=>False) W [] W:=⟨D,fun _ h=>h,fun _ h=>h.elim,h,Fr.refl _ _,fun _ h=>h.elim⟩
theorem ItSt.fr (h:ItSt J D E W pre X):Fr (fun j=>¬D j) W X:=by
 obtain ⟨_,_,_,_,h,_⟩:=h
 exact h
theorem ItSt.step (h:ItSt J D E W pre X) (hJ:Steady W.heap.size J) (hF:Fr E X Y):ItSt J D (Plus E X Y) W pre Y:=by
 obtain ⟨D',h1,h2,h3,h4,h5⟩:=h
 refine ⟨Plus D' X Y,fun k hk=>.inl (h1 k hk),fun k hk=>hk.imp (h2 k) id,hJ _ _ _ _ h3 (hF.mono (fun k _ hk=>⟨h2 k hk,h5 k hk⟩)),h4.into hF (fun k hk=>.inr (h5 k hk)),fun k hk=>?_⟩
 rcases hk with hk | hk
 · exact h5 k hk
 · exact Nat.le_trans h4.size hk.1
theorem ItSt.new_ (h:ItSt J D E W pre X) (hJ:Steady W.heap.size J) (hb:Below X.heap.size X Y):ItSt J D (Plus E X Y) W pre Y:=h.step hJ (Fr.of_new hb)
theorem ItSt.round {l:Nat} {encs:α→Array Value} {x:α} {post:List α} (h:ItSt J D E W pre X) (hY:RoundsO P l encs xs J Jx) (hx:xs=pre++x :: post) :
 YieldAt Fence.wide 0 P l (encs x) X fun e W'=>(e = .returned (.bool true)∧ItSt J D E W (pre ++ [x]) W'∧Fr (fun k=>¬(D k∨E k)) X W')∨(e = .returned (.bool false)∧ToldO xs J Jx W'∧Fr (fun k=>¬(D k∨E k)) X W'):=by
 obtain ⟨D',h1,h2,h3,h4,h5⟩:=h
 obtain ⟨fn,tmps,assign,body,hy,hR⟩:=hY D' pre x post X hx h3
 refine ⟨fn,tmps,assign,body,hy,hR.mono ?_⟩
 rintro e W' (⟨g1,g2,g3⟩ | ⟨g1,g2,g3⟩)
 · exact .inl ⟨g1,⟨D',h1,h2,g2,h4.trans (g3.mono (fun k _ hk hd=>hk (h1 k hd))),h5⟩,g3.mono (fun k _ hk hd=>hk (hd.elim (h1 k) (h2 k)))⟩
 · exact .inr ⟨g1,⟨D',.inr ⟨pre ++ [x],post,by rw [hx];simp,g2⟩⟩,g3.mono (fun k _ hk hd=>hk (hd.elim (h1 k) (h2 k)))⟩
theorem ItSt.told (h:ItSt J D E W xs X):ToldO xs J Jx X:=by
 obtain ⟨D',_,_,h3,_,_⟩:=h
 exact ⟨D',.inl h3⟩
end
theorem wpListIn_load_mid {F:Fence} {n1:Nat} {w:World} {ops:Array Oper} {rest:List Oper} {o:Oper} {a:Go.Act} {Q:Exit→Go.Act→World→Prop} (hgd:o.guard=none) (ty:TypeId) (x:Operand) (ho:o.op = .load ty x)
 (b of:Nat) (hx:a.eval x = .pointer (some ⟨b,of,none⟩)) (cs:List Value) (d:TypeDesc) (hc:w.rangeAt b of cs)
 (hu:P.underlying ty=some d) (hd:d.isRow=true) (hi:(P.info? ty).map (·.size)=some cs.length)
 (h:wpListIn F n1 P ops Q rest (a.put o.dst (.agg cs.toArray)) w):wpListIn F n1 P ops Q (o :: rest) a w:=by
 refine wpListIn_plain hgd fun K hK'=>?_
 unfold Oper.wpIn
 refine ⟨?_,?_⟩
 · simp [Oper.about,ho]
 · rw [Oper.semAt_plain F _ _ (by rw [ho];intro c hc';cases hc')]
   unfold execOp
   simp only [ho,hx,Instr.loadAt,Instr.sureAddr,Sem.run_bind,Sem.run_pure,Result.andThen_ok,run_loadVar_mid w b of ty cs d hc hu hd hi]
   exact hK' _ _ h
theorem wpListIn_store_mid {F:Fence} {n1:Nat} {w:World} {ops:Array Oper} {rest:List Oper} {o:Oper} {a:Go.Act} {Q:Exit→Go.Act→World→Prop} (hgd:o.guard=none) (ty:TypeId) (x y:Operand) (ho:o.op = .store ty x y)
 (b of:Nat) (cells:Array Value) (hx:a.eval x = .pointer (some ⟨b,of,none⟩)) (hy:a.eval y = .agg cells)
 (ht:w.there b of cells.size) (hi:(P.info? ty).map (·.size)=some cells.size) (h1:cells.all (·.oneCell')=true)
 (h:wpListIn F n1 P ops Q rest (a.put o.dst undef) (w.setCells b of cells.toList)):wpListIn F n1 P ops Q (o :: rest) a w:=by
 refine wpListIn_plain hgd fun K hK'=>?_
 unfold Oper.wpIn
 refine ⟨?_,?_⟩
 · simp [Oper.about,ho]
 · rw [Oper.semAt_plain F _ _ (by rw [ho];intro c hc';cases hc')]
   unfold execOp
   simp only [ho,hx,hy,Instr.storeAt,Instr.sureAddr,Sem.run_bind,Sem.run_pure,Result.andThen_ok,run_storeVar_mid w b of ty cells ht hi h1]
   exact hK' _ _ h
theorem size_setCells (b:Nat) : ∀(vs:List Value) (o:Nat) (w:World),(w.setCells b o vs).heap.size=w.heap.size
 | [],_,_=>rfl
 | v :: r,o,w=>by rw [World.setCells,size_setCells b r (o+1)];simp [World.setCell]
theorem kept_new {w:World} {t:TypeId} (zs vs:List Value) (hl:zs.length=vs.length) :
 ∃W,W=(w.alloc (.cells zs.toArray t)).setCells w.heap.size 0 vs∧(w.alloc (.cells zs.toArray t)).there w.heap.size 0 vs.toArray.size∧W.rangeAt w.heap.size 0 vs∧Below w.heap.size w W∧W.heap.size=w.heap.size+1:=by
 have ht:(w.alloc (.cells zs.toArray t)).there w.heap.size 0 vs.length:=by
  have:=(Blk.new w t zs.toArray).there
  rwa [show zs.toArray.size=vs.length by simpa using hl] at this
 refine ⟨_,rfl,by simpa using ht,World.rangeAt_setCells_same _ _ _ _ ht,Below.setCells' _ _ ((Below.refl _ _).alloc (Nat.le_refl _) _) (Nat.le_refl _),?_⟩
 rw [size_setCells,World.size_alloc]
theorem Blk.setCells_ {g:Nat} {t:TypeId} : ∀(vs:List Value) (o:Nat) {w:World} {cs:Array Value},Blk w g t cs→∃cs',Blk (w.setCells g o vs) g t cs'∧cs'.size=cs.size
 | [],_,_,cs,h=>⟨cs,h,rfl⟩
 | v :: vs,o,w,cs,h=>by
   obtain ⟨cs',h1,h2⟩:=Blk.setCells_ vs (o+1) (h.set_ o v)
   exact ⟨cs',h1,by rw [h2];simp⟩
end Go.Proofs.Ytffemfglngikbaa
namespace Go.Proofs.Ytffemfglngikbaa
open Go.RowKit Go.ChangeShapes Go.WideShapes Go.Deep
section
variable {H:Type} {enc:TypeId×Value→H} {P:Program}
theorem post_of_below {f:Func} {s:ChangeSpec} {apart fresh handsOn again:Bool} {W W':World} {args:Array Value} {v:Value} {ds gs:List (DataW H)} {before pa pv:List MemPlace}
 (hW:DataW.Whole enc P f.params.toList s.vars apart W args.toList ds gs before)
 (hres : ∀(b:Nat) (sp:Nat→Bool) (hd:Bool),DataW.TrodAll enc P W' b sp hd f.resultTypes.toList (v.resultList f.resultTypes.size) (s.fn H (ds++gs)).results [])
 (hargs : ∀sp:Nat→Bool,(∀p∈before,sp p.block=true)→DataW.TrodAll enc P W' 0 sp true f.params.toList args.toList (s.fn H (ds++gs)).args pa)
 (hvars : ∀sp:Nat→Bool,(∀p∈before,sp p.block=true)→DataW.TrodVars enc P W' sp s.vars (s.fn H (ds++gs)).vars pv)
 (hps:before=pa++pv) (hb:Below W.heap.size W W')
 (hok : ∀(j:Nat) (t:TypeId) (r:Value),f.resultTypes[j]? = some t→(v.resultList f.resultTypes.size)[j]? = some r→Value.okWide P W' .any 0 t r) :
 s.post enc P f apart fresh handsOn again W args v W':=by
 have hlt : ∀p∈before,p.block<W.heap.size:=fun p hp=>hW.lt p hp
 have hold : ∀p∈before,(fun b=>decide (b<W.heap.size)) p.block=true:=fun p hp=>by simpa using hlt p hp
 refine ⟨ds,gs,before,[],pa,pv,hW,hres _ _ _,hargs _ hold,hvars _ hold,World.keptBut_mono (fun p hp=>⟨hp,?_⟩) (hb.frame (·∈before)),fun _=>?_⟩
 · rw [hps,List.mem_append] at hp
   exact Or.inr hp
 · obtain ⟨_,_,_,_,_,hz,hn⟩:=hW
   refine ⟨hok,_,_,([]++pa)++pv,⟨[]++pa,pv,trodAll_append (hargs _ (fun _ _=>rfl)) (hres _ _ _),hvars _ (fun _ _=>rfl),rfl,?_,?_⟩,?_⟩
   · intro b off hp
     have hin:MemPlace.cell b off∈before:=by rw [hps];simpa using hp
     rw [hb.frozen (hlt _ hin)]
     exact hz b off hin
   · intro ha
     have:=hn ha
     rw [hps] at this
     simpa using this
   · intro p hp _
     rw [hps]
     simpa using hp
theorem trodAll_stays (hl:laidOutB P=true) {W W':World} {sp:Nat→Bool} (hb:Below W.heap.size W W') : ∀(ts:List TypeId) (vs:List Value) (ds:List (DataW H)) (ps:List MemPlace),
 (∀t∈ts,P.readableRec t=true∧t<P.types.size)→DataW.TrodAll enc P W 0 (fun _=>true) true ts vs ds ps→(∀p∈ps,p.block<W.heap.size)→(∀p∈ps,sp p.block=true)→DataW.TrodAll enc P W' 0 sp true ts vs ds ps
 | [],[],[],ps,_,h,_,_=>h
 | t :: ts,v :: vs,d :: ds,ps,ht,⟨p,q,h1,h2,he⟩,hlt,hsp=>by
   subst he
   refine ⟨p,q,WideElems.Trod_stays hl (ht t (by simp)).1 (ht t (by simp)).2 h1 (fun x hx=>hb.same (hlt x (by simp [hx]))) (fun x hx=>hsp x (by simp [hx])),?_,rfl⟩
   exact trodAll_stays hl hb ts vs ds q (fun t' h'=>ht t' (by simp [h'])) h2 (fun x hx=>hlt x (by simp [hx])) (fun x hx=>hsp x (by simp [hx]))
 | [],_ :: _,_,_,_,h,_,_=>h.elim
 | [],[],_ :: _,_,_,h,_,_=>h.elim
 | _ :: _,[],_,_,_,h,_,_=>h.elim
 | _ :: _,_ :: _,[],_,_,h,_,_=>h.elim
theorem post_true {f:Func} {s:ChangeSpec} {apart fresh handsOn again:Bool} {W W':World} {args:Array Value} {ds gs:List (DataW H)} {before:List MemPlace} {tb:TypeId}
 (hl:laidOutB P=true) (hv:s.vars = []) (hW:DataW.Whole enc P f.params.toList s.vars apart W args.toList ds gs before) (hr:f.resultTypes = #[tb]) (htb:P.underlying tb=some .bool)
 (hp : ∀t∈f.params.toList,P.readableRec t=true∧t<P.types.size) (h1:(s.fn H (ds++gs)).results = [.lit (.bool true)]) (h2:(s.fn H (ds++gs)).args=ds) (h3:(s.fn H (ds++gs)).vars = [])
 (hb:Below W.heap.size W W'):s.post enc P f apart fresh handsOn again W args (.bool true) W':=by
 have hlt : ∀p∈before,p.block<W.heap.size:=fun p hp=>hW.lt p hp
 have hW0:=hW
 obtain ⟨p,q,hA,hV,he,_⟩:=hW
 rw [hv] at hV
 have hq:q = []:=by cases gs<;>simp [DataW.TrodVars] at hV;exact hV
 subst hq
 rw [List.append_nil] at he
 subst he
 refine post_of_below (pa:=before) (pv:=[]) hW0 (fun b sp hd=>?_) (fun sp hsp=>?_) (fun sp hsp=>?_) (by simp) hb ?_
 · rw [hr,h1];exact trodAll_mk1 (shut_bool htb true)
 · rw [h2];exact trodAll_stays hl hb _ _ _ _ hp hA hlt hsp
 · rw [hv,h3];rfl
 · exact ok_one hr rfl (okWide_bool_mk htb true)
end
def Reads {α:Type} (P:Program) (e:TypeId) (size:Nat) (cells:α→List Value):Prop:=
 P.cellsOf e=size∧∀(H:Type) (enc:TypeId×Value→H) (w:World) (base:Nat) (spare:Nat→Bool) (held:Bool) (n:Nat) (cs:List Value) (x:DataW H×List MemPlace),
  DataW.trod enc P w base spare held n e cs=some x→∃a:α,cs=cells a
theorem list_of {α:Type} {Q:Nat→α→Prop} : ∀(n:Nat),(∀i,i<n→∃a,Q i a)→∃l:List α,l.length=n∧∀i,(h:i<l.length)→Q i l[i]
 | 0,_=>⟨[],rfl,fun i h=>absurd h (by simp)⟩
 | n+1,h=>by
   obtain ⟨l,hl,hq⟩:=list_of n (fun i hi=>h i (by omega))
   obtain ⟨a,ha⟩:=h n (by omega)
   refine ⟨l ++ [a],by simp [hl],fun i hi=>?_⟩
   by_cases hi':i<l.length
   · rw [List.getElem_append_left hi'];exact hq i hi'
   · have:i=n:=by simp at hi;omega
     subst this
     rw [List.getElem_append_right (by omega)]
     simpa [hl] using ha
end Go.Proofs.Ytffemfglngikbaa
namespace Go.Proofs.Ytffemfglngikbaa
open Go.RowKit Go.ChangeShapes Go.WideShapes Go.Deep
structure RepT (α:Type) where
 size:Nat
 rep:(Nat→Prop)→World→α→List Value→Prop
 len : ∀{D:Nat→Prop} {w:World} {a:α} {cs:List Value},rep D w a cs→cs.length=size
 keep : ∀{D D':Nat→Prop} {w w':World} {a:α} {cs:List Value},w.heap.size≤w'.heap.size→(∀k,D k→k<w.heap.size→D' k∧w'.heap[k]? = w.heap[k]?)→rep D w a cs→rep D' w' a cs
def RowR {α:Type} (r:RepT α) (D:Nat→Prop) (w:World) (A:Option Addr) (c:Nat) (l:List α):Prop:=
 l.length≤c∧c≤maxLen∧
  (0<l.length→∃b off,A=some ⟨b,off,none⟩∧D b∧b<w.heap.size∧∀k,(h:k<l.length)→∃cs,r.rep D w l[k] cs∧∀j u,cs[j]? = some u→w.cell? ⟨b,off+k*r.size+j,none⟩=some u)
section
variable {α:Type} {r:RepT α} {D D':Nat→Prop} {w w':World} {A:Option Addr} {c:Nat} {l:List α}
theorem RowR.keep (h:RowR r D w A c l) (hs:w.heap.size≤w'.heap.size) (hk : ∀k,D k→k<w.heap.size→D' k∧w'.heap[k]? = w.heap[k]?):RowR r D' w' A c l:=by
 refine ⟨h.1,h.2.1,fun h0=>?_⟩
 obtain ⟨b,off,h1,h2,h3,h4⟩:=h.2.2 h0
 refine ⟨b,off,h1,(hk b h2 h3).1,by omega,fun k hk'=>?_⟩
 obtain ⟨cs,h5,h6⟩:=h4 k hk'
 exact ⟨cs,r.keep hs hk h5,fun j u hu=>(World.cell?_of_block (hk b h2 h3).2).trans (h6 j u hu)⟩
theorem RowR.nil (r:RepT α) (D:Nat→Prop) (w:World):RowR r D w none 0 []:=⟨Nat.le_refl _,Nat.zero_le _,fun h=>absurd h (by simp)⟩
theorem RowR.cap (h:RowR r D w A c l):(l.length:Int)≤9223372036854775807:=by have:=h.1;have:=h.2.1;unfold maxLen at this;omega
theorem RowR.at_ (h:RowR r D w A c l) {k:Nat} (hk:k<l.length) : ∃b off cs,A=some ⟨b,off,none⟩∧D b∧b<w.heap.size∧r.rep D w l[k] cs∧∀j u,cs[j]? = some u→w.cell? ⟨b,off+k*r.size+j,none⟩=some u:=by
 obtain ⟨b,off,h1,h2,h3,h4⟩:=h.2.2 (by omega)
 obtain ⟨cs,h5,h6⟩:=h4 k hk
 exact ⟨b,off,cs,h1,h2,h3,h5,h6⟩
theorem RowR.weaken (h:RowR r D w A c l) (hD : ∀k,D k→D' k):RowR r D' w A c l:=h.keep (Nat.le_refl _) (fun k hk _=>⟨hD k hk,rfl⟩)
theorem RowR.new_ (h:RowR r D w A c l) (hb:Below w.heap.size w w'):RowR r D w' A c l:=h.keep hb.size (fun k hk hl=>⟨hk,hb.block k hl⟩)
theorem RowR.fr {M:Nat→Prop} (h:RowR r D w A c l) (hb:Fr M w w') (hm : ∀k,D k→¬M k):RowR r D w' A c l:=h.keep hb.size (fun k hk hl=>⟨hk,hb.block k hl (hm k hk)⟩)
end
def RepT.flat {α:Type} (size:Nat) (cells:α→List Value) (h : ∀a,(cells a).length=size):RepT α:=
 ⟨size,fun _ _ a cs=>cs=cells a,by rintro _ _ _ _ rfl;exact h _,by rintro _ _ _ _ _ _ _ _ h;exact h⟩
theorem RowR.rd {α:Type} {size:Nat} {cells:α→List Value} {hs : ∀a,(cells a).length=size} {D:Nat→Prop} {w:World} {A:Option Addr} {c:Nat} {l:List α} (h:RowR (RepT.flat size cells hs) D w A c l):RowRd w size cells A c l:=by
 refine ⟨h.1,h.2.1,fun h0=>?_⟩
 obtain ⟨b,off,h1,h2,h3,h4⟩:=h.2.2 h0
 refine ⟨b,off,h1,h3,fun k hk j u hu=>?_⟩
 obtain ⟨cs,h5,h6⟩:=h4 k hk
 have h5':cs=cells l[k]:=h5
 exact h6 j u (by rw [h5'];exact hu)
theorem RowR.ain {α:Type} {r:RepT α} {D:Nat→Prop} {w:World} {A:Option Addr} {c:Nat} {l:List α} (h:RowR r D w A c l) (h0:0<l.length):AIn A D:=by
 obtain ⟨b,off,rfl,h2,_⟩:=h.2.2 h0
 intro a ha;cases ha;exact h2
theorem RowR.of_rd {α:Type} {size:Nat} {cells:α→List Value} {hs : ∀a,(cells a).length=size} {D:Nat→Prop} {w:World} {A:Option Addr} {c:Nat} {l:List α} (h:RowRd w size cells A c l) (hA:AIn A D):RowR (RepT.flat size cells hs) D w A c l:=by
 refine ⟨h.1,h.2.1,fun h0=>?_⟩
 obtain ⟨b,off,h1,h2,h3⟩:=h.2.2 h0
 exact ⟨b,off,h1,hA _ h1,h2,fun k hk=>⟨_,rfl,h3 k hk⟩⟩
def RepT.list {α:Type} (r:RepT α):RepT (List α):=
 ⟨1,fun D w l cs=>∃A c,cs = [.slice A l.length c]∧RowR r D w A c l,by rintro _ _ _ _ ⟨_,_,rfl,_⟩;rfl,by
  rintro _ _ _ _ _ _ hs hk ⟨A,c,h1,h2⟩;exact ⟨A,c,h1,h2.keep hs hk⟩⟩
def Opens {α:Type} (P:Program) (t:TypeId) (r:RepT α):Prop:=
 P.cellsOf t=r.size∧∀(H:Type) (enc:TypeId×Value→H) (w:World) (base:Nat) (spare:Nat→Bool) (held:Bool) (n:Nat) (cs:List Value) (x:DataW H×List MemPlace),
  DataW.trod enc P w base spare held n t cs=some x→∃a:α,r.rep (· < w.heap.size) w a cs
theorem opens_of_reads {α:Type} {P:Program} {t:TypeId} {size:Nat} {cells:α→List Value} (hs : ∀a,(cells a).length=size) (h:Reads P t size cells):Opens P t (RepT.flat size cells hs):=
 ⟨h.1,fun H enc w base spare held n cs x hx=>h.2 H enc w base spare held n cs x hx⟩
theorem row_of_trod {H:Type} {enc:TypeId×Value→H} {P:Program} {w:World} {base:Nat} {spare:Nat→Bool} {held:Bool} {α:Type} {r:RepT α} {t e:TypeId} {fuel:Nat} {cs:List Value} {x:DataW H×List MemPlace}
 (ht:P.underlying t=some (.slice e)) (h0:0<r.size) (hr:P.cellsOf e=r.size) (hE : ∀n cs x,DataW.trod enc P w base spare held n e cs=some x→∃a:α,r.rep (· < w.heap.size) w a cs)
 (hf:DataW.trod enc P w base spare held fuel t cs=some x) : ∃A c,∃l:List α,cs = [.slice A l.length c]∧RowR r (· < w.heap.size) w A c l:=by
 rcases open_slice ht hf with ⟨h1,_⟩ | ⟨a,len,cap,m,n,Dd,Pl,h1,_,hl,hm,hmm,_,hx⟩
 · exact ⟨none,0,[],h1,RowR.nil _ _ _⟩
 · have hlm:len≤m:=by rw [hmm];split<;>omega
   obtain ⟨l,hll,hq⟩:=list_of (α:=α) (Q:=fun i x=>∃cs',r.rep (· < w.heap.size) w x cs'∧∀j u,cs'[j]? = some u→w.cell? ((a.add (i*r.size)).add j)=some u) len (fun i hi=>by
    obtain ⟨cs',c1,c2⟩:=hx i (by omega)
    obtain ⟨x,hrep⟩:=hE n cs' _ c2
    obtain ⟨_,hlen,hcell⟩:=World.cells?_some c1
    rw [hr] at hcell hlen
    exact ⟨x,cs',hrep,fun j u hu=>(hcell j (by rw [← hlen];exact (List.getElem?_eq_some_iff.1 hu).1)).trans hu⟩)
   subst hll
   refine ⟨some a,cap,l,h1,hl,hm,fun hpos=>?_⟩
   obtain ⟨cs',c1,c2⟩:=hx 0 (by omega)
   obtain ⟨_,hlen,hcell⟩:=World.cells?_some c1
   rw [hr] at hlen hcell
   have hspot:a.spot=none:=by
    have:=hcell 0 h0
    rw [List.getElem?_eq_getElem (by omega)] at this
    have e2:(a.add (0*r.size)).add 0=a:=by simp [Addr.add]
    rw [e2] at this
    exact World.cell?_spot this
   obtain ⟨b,off,spot⟩:=a
   simp only at hspot
   subst hspot
   have hbl:b<w.heap.size:=by
    have:=hcell 0 h0
    rw [List.getElem?_eq_getElem (by omega)] at this
    have e2:((⟨b,off,none⟩:Addr).add (0*r.size)).add 0=⟨b,off,none⟩:=by simp [Addr.add]
    rw [e2] at this
    exact World.block_lt_of_cell? w _ this
   refine ⟨b,off,rfl,hbl,hbl,fun k hk=>?_⟩
   obtain ⟨cs2,g1,g2⟩:=hq k hk
   refine ⟨cs2,g1,fun j u hu=>?_⟩
   have:=g2 j u hu
   rwa [add_plain,add_plain] at this
theorem opens_slice {α:Type} {P:Program} {r:RepT α} {t e:TypeId} (ht:P.underlying t=some (.slice e)) (hc:P.cellsOf t=1) (h0:0<r.size) (hr:Opens P e r):Opens P t r.list:=
 ⟨hc,fun H enc w base spare held n cs x h=>by
  obtain ⟨A,c,l,h1,h2⟩:=row_of_trod ht h0 hr.1 (fun n cs x h=>hr.2 H enc w base spare held n cs x h) h
  exact ⟨l,A,c,h1,h2⟩⟩
theorem trod_field {H:Type} {enc:TypeId×Value→H} {P:Program} {w:World} {base:Nat} {spare:Nat→Bool} {held:Bool} {t:TypeId} {fs:Array Field} {n:Nat} {cs:List Value} {x:DataW H×List MemPlace}
 (ht:P.underlying t=some (.struct fs)) (h:DataW.trod enc P w base spare held n t cs=some x) (i:Nat) {f:Field} (hf:fs[i]? = some f) (ty off sz:Nat) (e1:f.type=ty) (e2:f.offset=off) (e3:P.cellsOf ty=sz) :
 ∃m y,DataW.trod enc P w base spare held m ty ((cs.drop off).take sz)=some y:=by
 obtain ⟨xs,n2,_,_,_,hlen,hx⟩:=DataW.trod_struct ht h
 have h1:=hx i f hf
 subst e1;subst e2;subst e3
 have hi:i<xs.length:=by
  have:=(Array.getElem?_eq_some_iff.1 hf).1
  omega
 rw [List.getElem?_eq_getElem hi] at h1
 exact ⟨n2,_,h1⟩
theorem trod_len {H:Type} {enc:TypeId×Value→H} {P:Program} {w:World} {base:Nat} {spare:Nat→Bool} {held:Bool} {t:TypeId} {fs:Array Field} {n:Nat} {cs:List Value} {x:DataW H×List MemPlace}
 (ht:P.underlying t=some (.struct fs)) (h:DataW.trod enc P w base spare held n t cs=some x):cs.length=P.cellsOf t:=by
 obtain ⟨_,_,_,_,hl,_⟩:=DataW.trod_struct ht h
 exact hl
end Go.Proofs.Ytffemfglngikbaa
namespace Go.Proofs.Ytffemfglngikbaa
open Go.RowKit Go.ChangeShapes Go.WideShapes Go.Deep
theorem RowR.imp {α:Type} {r r':RepT α} {D:Nat→Prop} {w:World} {A:Option Addr} {c:Nat} {l:List α} (h:RowR r D w A c l) (hs:r.size=r'.size) (hi : ∀a cs,r.rep D w a cs→r'.rep D w a cs):RowR r' D w A c l:=by
 refine ⟨h.1,h.2.1,fun h0=>?_⟩
 obtain ⟨b,off,h1,h2,h3,h4⟩:=h.2.2 h0
 refine ⟨b,off,h1,h2,h3,fun k hk=>?_⟩
 obtain ⟨cs,h5,h6⟩:=h4 k hk
 exact ⟨cs,hi _ _ h5,by rw [← hs];exact h6⟩
theorem row_of_trodN {H:Type} {enc:TypeId×Value→H} {P:Program} {w:World} {base:Nat} {spare:Nat→Bool} {held:Bool} {α:Type} {r:RepT α} {t e:TypeId} {fuel:Nat} {cs:List Value} {x:DataW H×List MemPlace}
 (ht:P.underlying t=some (.slice e)) (h0:0<r.size) (hr:P.cellsOf e=r.size) (hE : ∀n,n<fuel→∀cs x,DataW.trod enc P w base spare held n e cs=some x→∃a:α,r.rep (· < w.heap.size) w a cs)
 (hf:DataW.trod enc P w base spare held fuel t cs=some x) : ∃A c,∃l:List α,cs = [.slice A l.length c]∧RowR r (· < w.heap.size) w A c l:=by
 rcases DataW.trod_slice ht hf with ⟨h1,_⟩ | ⟨a,len,cap,elems,rest,n,hn,h1,_,_,hl,hm,hlen,hel,_,_⟩
 · exact ⟨none,0,[],h1,RowR.nil _ _ _⟩
 · have hx : ∀i,i<len→∃cs',w.cells? base (a.add (i*P.cellsOf e)) (P.cellsOf e)=some cs'∧∃y,DataW.trod enc P w base spare held n e cs'=some y:=fun i hi=>by
    have h2:=hel i hi
    rw [List.getElem?_eq_getElem (by omega)] at h2
    obtain ⟨cs',g1,g2⟩:=Option.bind_eq_some_iff.1 h2
    exact ⟨cs',g1,_,g2⟩
   obtain ⟨l,hll,hq⟩:=list_of (α:=α) (Q:=fun i x=>∃cs',r.rep (· < w.heap.size) w x cs'∧∀j u,cs'[j]? = some u→w.cell? ((a.add (i*r.size)).add j)=some u) len (fun i hi=>by
    obtain ⟨cs',c1,y,c2⟩:=hx i (by omega)
    obtain ⟨x,hrep⟩:=hE n (by omega) cs' _ c2
    obtain ⟨_,hlen,hcell⟩:=World.cells?_some c1
    rw [hr] at hcell hlen
    exact ⟨x,cs',hrep,fun j u hu=>(hcell j (by rw [← hlen];exact (List.getElem?_eq_some_iff.1 hu).1)).trans hu⟩)
   subst hll
   refine ⟨some a,cap,l,h1,hl,hm,fun hpos=>?_⟩
   obtain ⟨cs',c1,_⟩:=hx 0 (by omega)
   obtain ⟨_,hlen,hcell⟩:=World.cells?_some c1
   rw [hr] at hlen hcell
   have hspot:a.spot=none:=by
    have:=hcell 0 h0
    rw [List.getElem?_eq_getElem (by omega)] at this
    have e2:(a.add (0*r.size)).add 0=a:=by simp [Addr.add]
    rw [e2] at this
    exact World.cell?_spot this
   obtain ⟨b,off,spot⟩:=a
   simp only at hspot
   subst hspot
   have hbl:b<w.heap.size:=by
    have:=hcell 0 h0
    rw [List.getElem?_eq_getElem (by omega)] at this
    have e2:((⟨b,off,none⟩:Addr).add (0*r.size)).add 0=⟨b,off,none⟩:=by simp [Addr.add]
    rw [e2] at this
    exact World.block_lt_of_cell? w _ this
   refine ⟨b,off,rfl,hbl,hbl,fun k hk=>?_⟩
   obtain ⟨cs2,g1,g2⟩:=hq k hk
   refine ⟨cs2,g1,fun j u hu=>?_⟩
   have:=g2 j u hu
   rwa [add_plain,add_plain] at this
theorem trod_fieldN {H:Type} {enc:TypeId×Value→H} {P:Program} {w:World} {base:Nat} {spare:Nat→Bool} {held:Bool} {t:TypeId} {fs:Array Field} {n:Nat} {cs:List Value} {x:DataW H×List MemPlace}
 (ht:P.underlying t=some (.struct fs)) (h:DataW.trod enc P w base spare held n t cs=some x) (i:Nat) {f:Field} (hf:fs[i]? = some f) (ty off sz:Nat) (e1:f.type=ty) (e2:f.offset=off) (e3:P.cellsOf ty=sz) :
 ∃y,DataW.trod enc P w base spare held (n - 1) ty ((cs.drop off).take sz)=some y:=by
 obtain ⟨xs,n2,hn,_,_,hlen,hx⟩:=DataW.trod_struct ht h
 have h1:=hx i f hf
 subst e1;subst e2;subst e3
 have hi:i<xs.length:=by
  have:=(Array.getElem?_eq_some_iff.1 hf).1
  omega
 rw [List.getElem?_eq_getElem hi] at h1
 subst hn
 exact ⟨_,h1⟩
theorem trod_pos {H:Type} {enc:TypeId×Value→H} {P:Program} {w:World} {base:Nat} {spare:Nat→Bool} {held:Bool} {t:TypeId} {n:Nat} {cs:List Value} {x:DataW H×List MemPlace} (h:DataW.trod enc P w base spare held n t cs=some x):0<n:=by
 cases n with
 | zero=>simp [DataW.trod] at h
 | succ n=>omega
end Go.Proofs.Ytffemfglngikbaa
