/-
  Texts put together: Mem, Eager, Range, Plain.
-/
import Derived.BigQuiet
import Derived.Deep.AppendLies
import Derived.Deep.CutRange
import Derived.Deep.RegionHeld3
import Derived.Deep.Strs
import Derived.Laws.EntriesVeiled
import Derived.Lib.Hide
import Derived.Lib.SlBytesRow
import Derived.LoopIn
import Derived.LoopNIn
import Derived.OwnWalkIn
import Derived.ProofKit
import Derived.RangeFuncBound
import Derived.RangeFuncNested
import Derived.Shelf.Abstract
import Derived.StillTailTactics
import Derived.TacticsInMore
import Derived.WalkLawsBesides
import Derived.WalkSpells
namespace Go.Proofs.YtfidcfjcmlgkbaaGreat
open Lib (hid)
section
open Go.RowKit Go.Shelf Go
abbrev Znk:=@Below.refl
abbrev Znl:=@Nat.le_refl
abbrev Znm:=@decide_eq_false
abbrev Znn:=@Nat.lt_of_lt_of_le
abbrev Zno:=@decide_eq_true
abbrev Znp:=@List.length_append
abbrev Znq:=@List.getElem?_eq_getElem
abbrev Znr:=@List.getElem?_cons_zero
abbrev Zns:=@List.getElem?_cons_succ
abbrev Znt:=@List.filterMap_nil
abbrev Znu:=@IntWalk.i64_in
abbrev Znv:=@List.getElem?_toArray
abbrev Znw:=@World.rangeAt_setCells_same
abbrev Znx:=@World.block_lt_of_cell?
abbrev Zny:=@List.flatMap_append
abbrev Znz:=@List.filterMap_cons
abbrev Zo0:=@Array.getElem?_eq_some_iff
abbrev Zo1:=@Option.map_some
abbrev Zo2:=@Nat.le_trans
abbrev Zo3:=@List.nil_append
abbrev Zo4:=@List.length_cons
abbrev Zo5:=@List.mem_cons
abbrev Zo6:=@List.take_length
abbrev Zo7:=@World.news_of_block
abbrev Zo8:=@List.getElem_mem
abbrev Zo9:=@List.not_mem_nil
abbrev Zoa:=@Nat.zero_add
abbrev Zob:=@World.putObj_heap_other
abbrev Zoc:=@List.append_assoc
abbrev Zod:=@Bool.and_eq_true
abbrev Zoe:=@Classical.byContradiction
abbrev Zof:=@List.append_nil
abbrev Zog:=@List.cons_append
abbrev Zoh:=@List.getElem?_append_right
abbrev Zoi:=@List.getElem?_append_left
abbrev Zoj:=@World.size_alloc
abbrev Zok:=@List.length_eq_zero_iff
abbrev Zol:=@List.drop_eq_getElem_cons
abbrev Zom:=@List.getElem?_eq_some_iff
abbrev Zon:=@List.length_nil
abbrev Zoo:=@List.flatMap_cons
abbrev Zop:=@List.map_append
abbrev Zoq:=@List.drop_length
abbrev Zor:=@List.take_add_one
abbrev Zos:=@Array.replicate_succ
abbrev Zot:=@Array.replicate_zero
abbrev Zou:=@List.length_take
abbrev Zov:=@List.append_toArray
abbrev Zow:=@List.all_eq_true
abbrev Zox:=@List.push_toArray
abbrev Zoy:=@List.size_toArray
abbrev Zoz:=@List.mem_append
abbrev Zp0:=@decide_eq_true_eq
abbrev Zp1:=@List.length_map
abbrev Zp2:=@List.any_eq_true
abbrev Zp3:=@Bool.or_eq_true
abbrev Zp4:=@Bool.eq_iff_iff
abbrev Zp5:=@Option.some.inj
abbrev Zp6:=@Below.heap_alloc
abbrev Zp7:=@World.alloc_heap_new
end
set_option maxRecDepth 100000
set_option maxHeartbeats 32000000
set_option linter.unusedSimpArgs false
section
open Go.RowKit
theorem Z1e {W w1:World}(hb:Below W.heap.size W w1):(∀b o,b<W.heap.size→w1.cell? ⟨b,o,none⟩=W.cell? ⟨b,o,none⟩)∧(∀b o,b<W.heap.size→w1.frozen? ⟨b,o,none⟩=W.frozen? ⟨b,o,none⟩):=
 ⟨fun b o h=>hb.cell (p:=⟨b,o,none⟩) h,fun b o h=>hb.frozen (p:=⟨b,o,none⟩) h⟩
theorem Below.drewN' {B:Nat}{a w:World}(h:Below B a w) (n:Nat):Below B a (w.drewN n):=⟨h.os,h.tape,h.output,h.size,h.block⟩
theorem Below.al {B:Nat}{a w:World}(h:Below B a w) (o:Obj) (hB:B≤w.heap.size:=by first|omega|(simp;done)|(simp;omega)):Below B a (w.alloc o):=h.alloc hB o
theorem Below.sc {B:Nat}{a w:World}{p:Addr}(h:Below B a w) (u:Value) (hB:B≤p.block:=by first|omega|(simp;done)|(simp;omega)):Below B a (w.setCell p u):=h.setCell hB u
structure Fr (M:Nat→Prop) (w w':World):Prop where
 os:w'.os=w.os
 tape:w'.tape=w.tape
 output:w'.output=w.output
 size:w.heap.size≤w'.heap.size
 block :∀k,k<w.heap.size→¬M k→w'.heap[k]? = w.heap[k]?
section
variable {M M':Nat→Prop}{a b c w w':World}
theorem Fr.refl (M:Nat→Prop) (w:World):Fr M w w:=⟨rfl,rfl,rfl,Znl _,fun _ _ _=>rfl⟩
theorem Fr.trans (h:Fr M a b) (k:Fr M b c):Fr M a c:=
 ⟨k.os.trans h.os,k.tape.trans h.tape,k.output.trans h.output,Zo2 h.size k.size,fun i hi hn=>(k.block i (Znn hi h.size) hn).trans (h.block i hi hn)⟩
theorem Fr.mono (h:Fr M a b) (hm :∀k,k<a.heap.size→M k→M' k):Fr M' a b:=⟨h.os,h.tape,h.output,h.size,fun k hk hn=>h.block k hk (fun h=>hn (hm k hk h))⟩
theorem Fr.of_new (h:Below a.heap.size a b):Fr M a b:=⟨h.os,h.tape,h.output,h.size,fun k hk _=>h.block k hk⟩
theorem Fr.below {B:Nat}(h:Fr M a b) (hB:B≤a.heap.size) (hm :∀k,k<B→¬M k):Below B a b:=⟨h.os,h.tape,h.output,h.size,fun k hk=>h.block k (by omega) (hm k hk)⟩
theorem Fr.alloc (h:Fr M a b) (o:Obj):Fr M a (b.alloc o):=
 ⟨h.os,h.tape,h.output,Zo2 h.size (by simp),fun k hk hn=>(Zp6 b o k (Znn hk h.size)).trans (h.block k hk hn)⟩
theorem Fr.drew (h:Fr M a b):Fr M a b.drew:=⟨h.os,h.tape,h.output,h.size,h.block⟩
theorem Fr.setCell (h:Fr M a b){p:Addr}(hp:M p.block∨a.heap.size≤p.block) (u:Value):Fr M a (b.setCell p u):=
 ⟨h.os,h.tape,h.output,by simpa [World.setCell] using h.size,fun k hk hn=>(Below.heap_setCell b p u k (by
  rintro rfl;rcases hp with hp|hp
  · exact hn hp
  · omega)).trans (h.block k hk hn)⟩
theorem Fr.grown {row:Option Nat}(h:Fr M a b) (hg:b.grownBy c row) (hr :∀k,row=some k→M k∨a.heap.size≤k):Fr M a c:=
 ⟨hg.os.trans h.os,hg.tape.trans h.tape,hg.output.trans h.output,Zo2 h.size hg.size,fun k hk hn=>(hg.block k (Znn hk h.size) (fun e=>by
  rcases hr k e.symm with h'|h'
  · exact hn h'
  · omega)).trans (h.block k hk hn)⟩
theorem Fr.into (h:Fr M a b) (k:Fr M' b c) (hm :∀i,M' i→M i∨a.heap.size≤i):Fr M a c:=
 ⟨k.os.trans h.os,k.tape.trans h.tape,k.output.trans h.output,Zo2 h.size k.size,fun i hi hn=>(k.block i (Znn hi h.size) (fun hM=>by
  rcases hm i hM with h'|h'
  · exact hn h'
  · omega)).trans (h.block i hi hn)⟩
theorem Fr.cell (h:Fr M w w'){p:Addr}(hp:p.block<w.heap.size) (hn :¬M p.block):w'.cell? p=w.cell? p:=World.cell?_of_block (h.block _ hp hn)
end
def Blk (w:World) (g:Nat) (t:TypeId) (cs:Array Value):Prop:=w.heap[g]? = some (.cells cs t (0,0))
section
variable {w w':World}{g:Nat}{t:TypeId}{cs:Array Value}
theorem Blk.lt (h:Blk w g t cs):g<w.heap.size:=by
 rcases Nat.lt_or_ge g w.heap.size with hlt|hge
 · exact hlt
 · unfold Blk at h;rw [Array.getElem?_eq_none hge] at h;cases h
theorem Blk.cell (h:Blk w g t cs) (i:Nat):w.cell? ⟨g,i,none⟩=cs[i]?:=cell_of_row w g i cs t (0,0) h
theorem Blk.c1 {v0:Value}(h:Blk w g t #[v0]):w.cell? ⟨g,0,none⟩=some v0:=(h.cell 0).trans rfl
theorem Blk.c3 {v0 v1 v2:Value}(h:Blk w g t #[v0,v1,v2]):w.cell? ⟨g,0,none⟩=some v0∧w.cell? ⟨g,1,none⟩=some v1∧w.cell? ⟨g,2,none⟩=some v2:=⟨(h.cell 0).trans rfl,(h.cell 1).trans rfl,(h.cell 2).trans rfl⟩
theorem Blk.c4 {v0 v1 v2 v3:Value}(h:Blk w g t #[v0,v1,v2,v3]):w.cell? ⟨g,0,none⟩=some v0∧w.cell? ⟨g,1,none⟩=some v1∧w.cell? ⟨g,2,none⟩=some v2∧w.cell? ⟨g,3,none⟩=some v3:=⟨(h.cell 0).trans rfl,(h.cell 1).trans rfl,(h.cell 2).trans rfl,(h.cell 3).trans rfl⟩
theorem Blk.c6 {v0 v1 v2 v3 v4 v5:Value}(h:Blk w g t #[v0,v1,v2,v3,v4,v5]):w.cell? ⟨g,0,none⟩=some v0∧w.cell? ⟨g,1,none⟩=some v1∧w.cell? ⟨g,2,none⟩=some v2∧w.cell? ⟨g,3,none⟩=some v3∧w.cell? ⟨g,4,none⟩=some v4∧w.cell? ⟨g,5,none⟩=some v5:=⟨(h.cell 0).trans rfl,(h.cell 1).trans rfl,(h.cell 2).trans rfl,(h.cell 3).trans rfl,(h.cell 4).trans rfl,(h.cell 5).trans rfl⟩
theorem Blk.c7 {v0 v1 v2 v3 v4 v5 v6:Value}(h:Blk w g t #[v0,v1,v2,v3,v4,v5,v6]):w.cell? ⟨g,0,none⟩=some v0∧w.cell? ⟨g,1,none⟩=some v1∧w.cell? ⟨g,2,none⟩=some v2∧w.cell? ⟨g,3,none⟩=some v3∧w.cell? ⟨g,4,none⟩=some v4∧w.cell? ⟨g,5,none⟩=some v5∧w.cell? ⟨g,6,none⟩=some v6:=⟨(h.cell 0).trans rfl,(h.cell 1).trans rfl,(h.cell 2).trans rfl,(h.cell 3).trans rfl,(h.cell 4).trans rfl,(h.cell 5).trans rfl,(h.cell 6).trans rfl⟩
theorem Blk.c19 {v0 v1 v2 v3 v4 v5 v6 v7 v8 v9 v10 v11 v12 v13 v14 v15 v16 v17 v18:Value}(h:Blk w g t #[v0,v1,v2,v3,v4,v5,v6,v7,v8,v9,v10,v11,v12,v13,v14,v15,v16,v17,v18]):w.cell? ⟨g,0,none⟩=some v0∧w.cell? ⟨g,1,none⟩=some v1∧w.cell? ⟨g,2,none⟩=some v2∧w.cell? ⟨g,3,none⟩=some v3∧w.cell? ⟨g,4,none⟩=some v4∧w.cell? ⟨g,5,none⟩=some v5∧w.cell? ⟨g,6,none⟩=some v6∧w.cell? ⟨g,7,none⟩=some v7∧w.cell? ⟨g,8,none⟩=some v8∧w.cell? ⟨g,9,none⟩=some v9∧w.cell? ⟨g,10,none⟩=some v10∧w.cell? ⟨g,11,none⟩=some v11∧w.cell? ⟨g,12,none⟩=some v12∧w.cell? ⟨g,13,none⟩=some v13∧w.cell? ⟨g,14,none⟩=some v14∧w.cell? ⟨g,15,none⟩=some v15∧w.cell? ⟨g,16,none⟩=some v16∧w.cell? ⟨g,17,none⟩=some v17∧w.cell? ⟨g,18,none⟩=some v18:=⟨(h.cell 0).trans rfl,(h.cell 1).trans rfl,(h.cell 2).trans rfl,(h.cell 3).trans rfl,(h.cell 4).trans rfl,(h.cell 5).trans rfl,(h.cell 6).trans rfl,(h.cell 7).trans rfl,(h.cell 8).trans rfl,(h.cell 9).trans rfl,(h.cell 10).trans rfl,(h.cell 11).trans rfl,(h.cell 12).trans rfl,(h.cell 13).trans rfl,(h.cell 14).trans rfl,(h.cell 15).trans rfl,(h.cell 16).trans rfl,(h.cell 17).trans rfl,(h.cell 18).trans rfl⟩
theorem Blk.frozen (h:Blk w g t cs) (i:Nat):w.frozen? ⟨g,i,none⟩=false:=by unfold Blk at h;simp [World.frozen?,h]
theorem Blk.new (w:World) (t:TypeId) (cs:Array Value):Blk (w.alloc (.cells cs t)) w.heap.size t cs:=heap_alloc_new w _
theorem Blk.drew (h:Blk w g t cs):Blk w.drew g t cs:=h
theorem Blk.alloc (h:Blk w g t cs) (o:Obj):Blk (w.alloc o) g t cs:=(Zp6 w o g h.lt).trans h
theorem Blk.set_ (h:Blk w g t cs) (i:Nat) (u:Value):Blk (w.setCell ⟨g,i,none⟩ u) g t (cs.setIfInBounds i u):=by
 unfold Blk at h ⊢;simp [World.setCell,Array.getElem?_modify,h]
theorem Blk.far (h:Blk w g t cs){p:Addr}(hp:g≠p.block) (u:Value):Blk (w.setCell p u) g t cs:=(Below.heap_setCell w p u g hp).trans h
theorem Blk.below {B:Nat}(h:Blk w g t cs) (hb:Below B w w') (hg:g<B):Blk w' g t cs:=(hb.block g hg).trans h
theorem Blk.new_ (h:Blk w g t cs) (hb:Below w.heap.size w w'):Blk w' g t cs:=h.below hb h.lt
theorem Blk.fr {M:Nat→Prop}(h:Blk w g t cs) (hb:Fr M w w') (hg :¬M g):Blk w' g t cs:=(hb.block g h.lt hg).trans h
theorem Blk.grown {row:Option Nat}(h:Blk w g t cs) (hb:w.grownBy w' row) (hg:row≠some g):Blk w' g t cs:=(hb.block g h.lt (fun e=>hg e.symm)).trans h
theorem Blk.ne_ {g':Nat}{t':TypeId}{cs':Array Value}(h:Blk w g t cs) (h':Blk w g' t' cs') (hne:t≠t'):g≠g':=by
 rintro rfl;unfold Blk at h h';rw [h] at h';injection h' with h';injection h' with _ ht;exact hne ht
theorem Z02 {base:Nat}{e:TypeId}{size n:Nat}{v:Value}{xs:List Value}(h:w.ownsRow base e size v n xs) (hg:Blk w g t cs) (hne:e≠t):v.ownBlock≠some g:=by
 rcases h.2 with ⟨rfl,_⟩|⟨g',cap,cur,rfl,_,hh,_⟩
 · simp [Value.ownBlock]
 · intro he
   (have:g'=g:=by simpa [Value.ownBlock] using he);subst this;exact Blk.ne_ (t:=e) hh hg hne rfl
end
def Z0z {α:Type}(w:World) (size:Nat) (cells:α→List Value) (A:Option Addr) (c:Nat) (l:List α):Prop:=
 l.length≤c∧c≤maxLen∧
  (0<l.length→∃b off,A=some ⟨b,off,none⟩∧b<w.heap.size∧∀k,(h:k<l.length)→∀j u,(cells l[k])[j]? = some u→w.cell? ⟨b,off+k*size+j,none⟩=some u)
def AIn (A:Option Addr) (S:Nat→Prop):Prop:=∀a,A=some a→S a.block
section
variable {α:Type}{w w':World}{size c:Nat}{cells:α→List Value}{A:Option Addr}{l:List α}
theorem AIn.mono {S S':Nat→Prop}(h:AIn A S) (hs :∀k,S k→S' k):AIn A S':=fun a e=>hs _ (h a e)
theorem AIn.none_ (S:Nat→Prop):AIn none S:=fun _ e=>by cases e
theorem Z0z.nil (w:World) (size:Nat) (cells:α→List Value):Z0z w size cells none 0 ([]:List α):=⟨Znl _,Nat.zero_le _,fun h=>absurd h (by simp)⟩
theorem Z0z.at_ (h:Z0z w size cells A c l){k:Nat}(hk:k<l.length):∃b off,A=some ⟨b,off,none⟩∧b<w.heap.size∧∀j u,(cells l[k])[j]? = some u→w.cell? ⟨b,off+k*size+j,none⟩=some u:=by
 obtain ⟨b,off,h1,h2,h3⟩:=h.2.2 (by omega);exact ⟨b,off,h1,h2,h3 k hk⟩
theorem Z0z.keep (h:Z0z w size cells A c l) (hs:w.heap.size≤w'.heap.size) (hk :∀p:Addr,p.block<w.heap.size→(∃a,A=some a∧a.block=p.block)→w'.cell? p=w.cell? p):Z0z w' size cells A c l:=by
 refine ⟨h.1,h.2.1,fun h0=>?_⟩;obtain ⟨b,off,rfl,hb,hc⟩:=h.2.2 h0;exact ⟨b,off,rfl,by omega,fun k hk' j u hu=>(hk ⟨b,off+k*size+j,none⟩ hb ⟨_,rfl,rfl⟩).trans (hc k hk' j u hu)⟩
theorem Z0z.new_ (h:Z0z w size cells A c l) (hb:Below w.heap.size w w'):Z0z w' size cells A c l:=h.keep hb.size (fun _ hp _=>hb.cell hp)
theorem Z0z.fr {M:Nat→Prop}(h:Z0z w size cells A c l) (hb:Fr M w w') (hm:AIn A (fun k=>¬M k)):Z0z w' size cells A c l:=
 h.keep hb.size (fun _ hp ⟨a,ha,hb'⟩=>hb.cell hp (by rw [←hb'];exact hm a ha))
theorem Z0z.drew (h:Z0z w size cells A c l):Z0z w.drew size cells A c l:=h
theorem Z0z.alloc (h:Z0z w size cells A c l) (o:Obj):Z0z (w.alloc o) size cells A c l:=h.new_ ((Znk _ _).alloc (Znl _) _)
theorem Z0z.cap (h:Z0z w size cells A c l):l.length≤9223372036854775807:=by have:=h.1;have:=h.2.1;unfold maxLen at this;omega
theorem Z0z.of_cells {b off:Nat}(h1:l.length≤c) (h2:c≤maxLen) (hb:b<w.heap.size) (h :∀k,(h:k<l.length)→∀j u,(cells l[k])[j]? = some u→w.cell? ⟨b,off+k*size+j,none⟩=some u):Z0z w size cells (some ⟨b,off,none⟩) c l:=
 ⟨h1,h2,fun _=>⟨b,off,rfl,hb,h⟩⟩
end
theorem Z66 {α:Type}{cells:α→List Value}{size:Nat}(hsz :∀x,(cells x).length=size):∀(l:List α) (k:Nat) (h:k<l.length) (j:Nat),j<size→(l.flatMap cells)[k*size+j]? = (cells l[k])[j]?
 | x :: l,0,_,j,hj=>by
   rw [Zoo,Zoi (by rw [hsz];omega)];simp
 | x :: l,k+1,h,j,hj=>by
   rw [Zoo,Zoh (by rw [hsz,Nat.add_mul];omega),hsz];rw [show (k+1)*size+j - size=k*size+j by rw [Nat.add_mul];omega];exact Z66 hsz l k (by simpa using h) j hj
theorem Z08 {α:Type}{cells:α→List Value}{size:Nat}(hsz :∀x,(cells x).length=size):∀(l:List α),(l.flatMap cells).length=l.length*size
 | []=>by simp
 | x :: l=>by rw [Zoo,Znp,hsz,Z08 hsz l];simp [Nat.add_mul];omega
theorem Zhh {α:Type}{cells:α→List Value}{size:Nat}(hsz :∀x,(cells x).length=size) (l:List α) (i:Nat) (u:Value) (hu:(l.flatMap cells)[i]? = some u) (h0:0<size) :
 ∃k j,∃h:k<l.length,i=k*size+j∧j<size∧(cells l[k])[j]? = some u:=by
 have hi:i<l.length*size:=by
  have:=(Zom.1 hu).1;rwa [Z08 hsz] at this
 have hk:i / size<l.length:=Nat.div_lt_of_lt_mul (by rw [Nat.mul_comm];exact hi);have hj:i % size<size:=Nat.mod_lt _ h0;(have e:i=i / size*size+i % size:=by rw [Nat.mul_comm];exact (Nat.div_add_mod i size).symm);refine ⟨i / size,i % size,hk,e,hj,?_⟩;rw [←Z66 hsz l _ hk _ hj,←e];exact hu
def Room (w:World) (g:Nat) (e:TypeId) (cells:Nat):Prop:=∃cur,w.heap[g]? = some (.cells cur e (0,0))∧cur.size=cells
section
variable {w w':World}{g:Nat}{e:TypeId}{m size n cap:Nat}{v:Value}{xs:List Value}
theorem Room.lt (h:Room w g e m):g<w.heap.size:=by obtain ⟨cur,h,_⟩:=h;exact Blk.lt (t:=e) h
theorem Room.frozen (h:Room w g e m) (i:Nat):w.frozen? ⟨g,i,none⟩=false:=by obtain ⟨cur,h,_⟩:=h;exact Blk.frozen (t:=e) h i
theorem Room.drew (h:Room w g e m):Room w.drew g e m:=h
theorem Room.cell (h:Room w g e m){i:Nat}(hi:i<m):∃u,w.cell? ⟨g,i,none⟩=some u:=by
 obtain ⟨cur,h,hs⟩:=h;exact ⟨cur[i]'(by omega),by rw [Blk.cell (t:=e) h];exact Array.getElem?_eq_getElem (by omega)⟩
theorem Z0h (h:w.ownsRow 0 e size v n xs):(v = .slice none 0 0∧n=0∧xs = [])∨∃g cap,v = .slice (some ⟨g,0,none⟩) n cap∧n≤cap∧cap≤maxLen∧Room w g e (cap*size)∧xs.length=n*size∧∀i u,xs[i]? = some u→w.cell? ⟨g,i,none⟩=some u:=by
 obtain ⟨h1,h2⟩:=h;rcases h2 with ⟨rfl,rfl⟩|⟨g,cap,cur,rfl,_,hg,hn,hc,hs,ht⟩
 · exact .inl ⟨rfl,rfl,List.eq_nil_of_length_eq_zero (by simpa using h1)⟩
 · refine .inr ⟨g,cap,rfl,hn,hc,⟨cur,hg,hs⟩,h1,fun i u hu=>?_⟩
   rw [Blk.cell (t:=e) hg,←hu,←ht];have hi:i<xs.length:=(Zom.1 hu).1;rw [h1] at hi;simp [hi]
theorem Zgl (hr:Room w g e (cap*size)) (hn:n≤cap) (hc:cap≤maxLen) (hx:xs.length=n*size) (h :∀i u,xs[i]? = some u→w.cell? ⟨g,i,none⟩=some u):w.ownsRow 0 e size (.slice (some ⟨g,0,none⟩) n cap) n xs:=by
 obtain ⟨cur,hg,hs⟩:=hr;refine ⟨hx,.inr ⟨g,cap,cur,rfl,Nat.zero_le _,hg,hn,hc,hs,?_⟩⟩;apply List.ext_getElem?;intro i;by_cases hi:i<n*size
 · have hxi:i<xs.length:=by omega
   have h1:=h i xs[i] (Znq hxi);rw [Blk.cell (t:=e) hg] at h1;rw [Znq hxi];simp [hi,h1]
 · rw [List.getElem?_eq_none (by simp;omega),List.getElem?_eq_none (by omega)]
theorem Z0d {α:Type}{cells:α→List Value}(hsz :∀x,(cells x).length=size){l:List α}{A:Option Addr}{c:Nat}(h:w.ownsRow 0 e size (.slice A l.length c) l.length (l.flatMap cells)):Z0z w size cells A c l:=by
 rcases Z0h h with ⟨hv,hn,_⟩|⟨g,cap,hv,hn,hc,hr,hx,hcell⟩
 · injection hv with _ _ hc
   exact ⟨by omega,by omega,fun h0=>by omega⟩
 · injection hv with hA _ hc'
   subst hA;subst hc';refine ⟨hn,hc,fun _=>⟨g,0,rfl,hr.lt,fun k hk j u hu=>?_⟩⟩;(have hj:j<size:=by have:=(Zom.1 hu).1;rwa [hsz] at this);have:=hcell (k*size+j) u (by rw [Z66 hsz l k hk j hj];exact hu);simpa using this
theorem Z15 {M:Nat→Prop}(h:w.ownsRow 0 e size v n xs) (hb:Fr M w w') (hm :∀g,v.ownBlock=some g→¬M g):w'.ownsRow 0 e size v n xs:=by
 refine ⟨h.1,h.2.imp id fun ⟨g,cap,cur,hv,h0,hg,hr⟩=>⟨g,cap,cur,hv,h0,?_,hr⟩⟩;exact Blk.fr (t:=e) hg hb (hm g (by rw [hv];rfl))
theorem Z05 (h:w.ownsRow 0 e size v n xs) (hb:Below w.heap.size w w'):w'.ownsRow 0 e size v n xs:=by
 refine ⟨h.1,h.2.imp id fun ⟨g,cap,cur,hv,h0,hg,hr⟩=>⟨g,cap,cur,hv,h0,?_,hr⟩⟩;exact Blk.new_ (t:=e) hg hb
end
theorem Z9t {α:Type}{cells:α→List Value}{w:World}{g:Nat}{e:TypeId}{size n cap:Nat}(hsz :∀x,(cells x).length=size) (h0:0<size){l:List α}(h:w.ownsRow 0 e size (.slice (some ⟨g,0,none⟩) n cap) n (l.flatMap cells)){m:Nat}(hm:m≤n) (hl:l.length=n) :
 w.ownsRow 0 e size (.slice (some ⟨g,0,none⟩) m cap) m ((l.take m).flatMap cells):=by
 rcases Z0h h with ⟨hv,_⟩|⟨g',cap',hv,hn,hc,hr,hx,hcell⟩
 · cases hv
 · injection hv with hA _ hc'
   injection hA with hA;injection hA with hA;subst hA;subst hc';refine Zgl hr (by omega) hc (by rw [Z08 hsz,Zou,Nat.min_eq_left (by omega)]) (fun i u hu=>?_);obtain ⟨k,j,hk,rfl,hj,hu'⟩:=Zhh hsz _ i u hu h0;(have hk':k<l.length:=by simp at hk;omega);refine hcell _ u ?_;rw [Z66 hsz l k hk' j hj];rw [List.getElem_take] at hu';exact hu'
theorem Z89 {w:World}{g:Nat}{e:TypeId}{size n cap:Nat}{xs:List Value}(h:w.ownsRow 0 e size (.slice (some ⟨g,0,none⟩) n cap) n xs):Room w g e (cap*size)∧n≤cap∧cap≤maxLen:=by
 rcases Z0h h with ⟨hv,_⟩|⟨g',cap',hv,hn,hc,hr,_⟩
 · cases hv
 · injection hv with hA _ hc'
   injection hA with hA;injection hA with hA;subst hA;subst hc';exact ⟨hr,hn,hc⟩
section
variable {P:Program}(w:World)
theorem Z6d (t ty e:TypeId) (i:TypeInfo) (z:Value) (size bytes:Nat) (ht:P.underlying t=some (.slice e)) (hi:P.info? e=some i) (hz:i.zero=some z)
 (hsize:i.size=size) (hby:i.bytes=bytes) (hzs:z.cells.size=size) (hsz:0<size)
 (v:Value) (n:Nat) (xs:List Value) (hown:w.ownsRow 0 e size v n xs) (A:Option Addr) (m c:Nat) (news:List Value) (hl:news.length=m*size)
 (hnews:0<m→∃ad,A=some ad∧∀j u,news[j]? = some u→w.cell? (ad.add j)=some u) (h1 :∀u∈news,u.oneCell'=true)
 (h63:n+m≤maxLen) (hbytes:(n+m)*bytes≤140737488355328) :
 ∃v' w',(Builtin.append_ #[t,t] ty #[v,.slice A m c]).run P w = .ok v' w'∧w'.ownsRow 0 e size v' (n+m) (xs++news)∧w.grownBy w' v.ownBlock∧
  (v' = .slice none 0 0↔v = .slice none 0 0∧m=0)∧(v'.ownBlock=v.ownBlock∨v'.ownBlock=some w.heap.size):=by
 rcases Nat.eq_zero_or_pos m with rfl|hm
 · have hn:news = []:=List.eq_nil_of_length_eq_zero (by simpa using hl)
   subst hn;rcases A with _|ad
   · refine ⟨v,w,?_,by simpa using hown,World.grownBy.refl w _,by simp,.inl rfl⟩
     rcases hown.2 with ⟨rfl,rfl⟩|⟨g,cap,cur,rfl,_,_,hnc,_⟩
     · simp [Builtin.append_,run_underlying ht,sizeOf,typeInfo,hi,Builtin.lenOf,Builtin.firstCells]
     · simp [Builtin.append_,run_underlying ht,sizeOf,typeInfo,hi,Builtin.lenOf,Builtin.firstCells,hnc,storeCells]
   · exact run_append_own_at w 0 t ty e i z size bytes ht hi hz hsize hby hzs hsz v n xs hown ad 0 c [] (by simp) (by simp) (by simp) h63 hbytes (Nat.zero_le _)
 · obtain ⟨ad,rfl,hc⟩:=hnews hm
   exact run_append_own_at w 0 t ty e i z size bytes ht hi hz hsize hby hzs hsz v n xs hown ad m c news hl hc h1 h63 hbytes (Nat.zero_le _)
theorem Z7h {o:Oper}{a:Act}{K:Act→World→Prop}{Q:Exit→Act→World→Prop}(s x:Operand) (t:TypeId)
 (ho:o.op = .call { callee:=.builtin .append,args:=#[s,x],argTypes:=#[t,t] })
 (e:TypeId) (i:TypeInfo) (z:Value) (size bytes:Nat) (ht:P.underlying t=some (.slice e)) (hi:P.info? e=some i) (hz:i.zero=some z)
 (hsize:i.size=size) (hby:i.bytes=bytes) (hzs:z.cells.size=size) (hsz:0<size)
 (v:Value) (n:Nat) (xs:List Value) (hs:a.eval s=v) (hown:w.ownsRow 0 e size v n xs)
 (A:Option Addr) (m c:Nat) (news:List Value) (hx:a.eval x = .slice A m c) (hl:news.length=m*size)
 (hnews:0<m→∃ad,A=some ad∧∀j u,news[j]? = some u→w.cell? (ad.add j)=some u) (h1 :∀u∈news,u.oneCell'=true)
 (h63:n+m≤maxLen) (hbytes:(n+m)*bytes≤140737488355328)
 (h :∀v' w',w'.ownsRow 0 e size v' (n+m) (xs++news)→w.grownBy w' v.ownBlock→(v' = .slice none 0 0↔v = .slice none 0 0∧m=0)→(v'.ownBlock=v.ownBlock∨v'.ownBlock=some w.heap.size)→K (a.put o.dst v') w') :
 Oper.wp P o a w K Q:=by
 obtain ⟨v',w',hr,h2,h3,h4,h5⟩:=Z6d (P:=P) w t o.type e i z size bytes ht hi hz hsize hby hzs hsz v n xs hown A m c news hl hnews h1 h63 hbytes;unfold Oper.wp execOp;simp only [ho,resolve,invoke,builtin,Sem.run_bind,Sem.run_pure,Result.andThen_ok,List.map_toArray,List.map_cons,List.map_nil,hs,hx,hr];exact h v' w' h2 h3 h4 h5
theorem Z0f {ops:Array Oper}{o:Oper}{a:Act}{K:Act→World→Prop}{Q:Exit→Act→World→Prop}{E:Prop}(hgd:o.guard=none) (s x:Operand) (t:TypeId)
 (ho:o.op = .call { callee:=.builtin .append,args:=#[s,x],argTypes:=#[t,t] })
 (e:TypeId) (i:TypeInfo) (z:Value) (size bytes:Nat) (ht:P.underlying t=some (.slice e)) (hi:P.info? e=some i) (hz:i.zero=some z)
 (hsize:i.size=size) (hby:i.bytes=bytes) (hzs:z.cells.size=size) (hsz:0<size)
 (v:Value) (n:Nat) (xs:List Value) (hs:a.eval s=v) (hown:w.ownsRow 0 e size v n xs)
 (A:Option Addr) (m c:Nat) (news:List Value) (hx:a.eval x = .slice A m c) (hl:news.length=m*size)
 (hnews:0<m→∃ad,A=some ad∧∀j u,news[j]? = some u→w.cell? (ad.add j)=some u) (h1 :∀u∈news,u.oneCell'=true)
 (h63:n+m≤maxLen) (hbytes:(n+m)*bytes≤140737488355328)
 (h :∀v' w',w'.ownsRow 0 e size v' (n+m) (xs++news)→w.grownBy w' v.ownBlock→(v' = .slice none 0 0↔v = .slice none 0 0∧m=0)→(v'.ownBlock=v.ownBlock∨v'.ownBlock=some w.heap.size)→K (a.put o.dst v') w') :
 if Region.wanted o (yielded ops a.tmps)=true then Oper.wp P o a w K Q else E:=by
 rw [if_pos (by simp [Region.wanted,hgd])];exact Z7h w s x t ho e i z size bytes ht hi hz hsize hby hzs hsz v n xs hs hown A m c news hx hl hnews h1 h63 hbytes h
theorem Z00 {ops:Array Oper}{rest:List Oper}{o:Oper}{a:Act}{Q:Exit→Act→World→Prop}(hgd:o.guard=none) (s x:Operand) (t:TypeId)
 (ho:o.op = .call { callee:=.builtin .append,args:=#[s,x],argTypes:=#[t,t] })
 (e:TypeId) (i:TypeInfo) (z:Value) (size bytes:Nat) (ht:P.underlying t=some (.slice e)) (hi:P.info? e=some i) (hz:i.zero=some z)
 (hsize:i.size=size) (hby:i.bytes=bytes) (hzs:z.cells.size=size) (hsz:0<size)
 (v:Value) (n:Nat) (xs:List Value) (hs:a.eval s=v) (hown:w.ownsRow 0 e size v n xs)
 (A:Option Addr) (m c:Nat) (news:List Value) (hx:a.eval x = .slice A m c) (hl:news.length=m*size)
 (hnews:0<m→∃ad,A=some ad∧∀j u,news[j]? = some u→w.cell? (ad.add j)=some u) (h1 :∀u∈news,u.oneCell'=true)
 (h63:n+m≤maxLen) (hbytes:(n+m)*bytes≤140737488355328)
 (h :∀v' w',w'.ownsRow 0 e size v' (n+m) (xs++news)→w.grownBy w' v.ownBlock→(v' = .slice none 0 0↔v = .slice none 0 0∧m=0)→(v'.ownBlock=v.ownBlock∨v'.ownBlock=some w.heap.size)→wpList P ops Q rest (a.put o.dst v') w') :
 wpList P ops Q (o :: rest) a w:=
 wpList_plain hgd fun _ hK=>Z7h w s x t ho e i z size bytes ht hi hz hsize hby hzs hsz v n xs hs hown A m c news hx hl hnews h1 h63 hbytes (fun v' w' a b c d=>hK _ _ (h v' w' a b c d))
end
theorem Z0z.news {α:Type}{w:World}{size c:Nat}{cells:α→List Value}(hsz :∀x,(cells x).length=size) (h0:0<size){A:Option Addr}{l:List α}(h:Z0z w size cells A c l) :
 0<l.length→∃ad,A=some ad∧∀j u,(l.flatMap cells)[j]? = some u→w.cell? (ad.add j)=some u:=by
 intro hl;obtain ⟨b,off,rfl,_,hc⟩:=h.2.2 hl;refine ⟨_,rfl,fun j u hu=>?_⟩;obtain ⟨k,i,hk,rfl,hi,hu'⟩:=Zhh hsz l j u hu h0;have:=hc k hk i u hu';unfold Addr.add
 split
 · rename_i hz
   (have e:k*size=0:=by omega);(have e2:i=0:=by omega);rw [e,e2] at this;simpa using this
 · simpa [Nat.add_assoc] using this
theorem Z0v {w:World}{e:TypeId}{size n:Nat}{v:Value}{xs:List Value}(h:w.ownsRow 0 e size v n xs):∃A c,v = .slice A n c∧n≤c∧c≤maxLen∧(∀a,A=some a→∃g,a=⟨g,0,none⟩):=by
 rcases Z0h h with ⟨rfl,rfl,_⟩|⟨g,cap,rfl,hn,hc,_⟩
 · exact ⟨none,0,rfl,Znl _,Nat.zero_le _,fun a e=>by cases e⟩
 · exact ⟨_,cap,rfl,hn,hc,fun a e=>⟨g,by injection e with e;exact e.symm⟩⟩
def setAll (xs:List Value) (o:Nat) (vs:List Value):List Value:=vs.zipIdx.foldl (fun l (v,j)=>l.set (o+j) v) xs
theorem Zae (o:Nat):∀(vs:List Value) (s:Nat) (xs:List Value),o+s+vs.length≤xs.length→
 ((vs.zipIdx s).foldl (fun l (v,j)=>l.set (o+j) v) xs).length=xs.length∧
 ∀i,((vs.zipIdx s).foldl (fun l (v,j)=>l.set (o+j) v) xs)[i]? = if o+s≤i∧i<o+s+vs.length then vs[i - (o+s)]? else xs[i]?
 | [],s,xs,_=>⟨rfl,fun i=>by simp;omega⟩
 | v :: vs,s,xs,h=>by
   simp only [Zo4] at h;rw [List.zipIdx_cons,List.foldl_cons];obtain ⟨h1,h2⟩:=Zae o vs (s+1) (xs.set (o+s) v) (by simp;omega);refine ⟨by rw [h1];simp,fun i=>?_⟩;rw [h2];simp only [Zo4];by_cases hi:i=o+s
   · subst hi
     rw [if_neg (by omega),if_pos (by omega),List.getElem?_set_self (by omega),Nat.sub_self,Znr]
   · by_cases hlt:o+(s+1)≤i∧i<o+(s+1)+vs.length
     · rw [if_pos hlt,if_pos (by omega)]
       rw [show i - (o+s)=(i - (o+(s+1)))+1 by omega];simp
     · rw [if_neg hlt,if_neg (by omega),List.getElem?_set_ne (by omega)]
theorem Z8p {α:Type}{cells:α→List Value}{size:Nat}(hsz :∀x,(cells x).length=size) (h0:0<size) (l:List α) (k:Nat) (hk:k<l.length) (y:α) :
 setAll (l.flatMap cells) (k*size) (cells y)=(l.set k y).flatMap cells:=by
 (have hb:k*size+size≤l.length*size:=by rw [←Nat.succ_mul];exact Nat.mul_le_mul_right _ hk);obtain ⟨h1,h2⟩:=Zae (k*size) (cells y) 0 (l.flatMap cells) (by rw [Z08 hsz,hsz];omega);unfold setAll;apply List.ext_getElem?;intro i;rw [h2,hsz];by_cases hi:i<l.length*size
 · have hq:i / size<l.length:=Nat.div_lt_of_lt_mul (by rw [Nat.mul_comm];exact hi)
   have hr:i % size<size:=Nat.mod_lt _ h0;have e:i=i / size*size+i % size:=by rw [Nat.mul_comm];exact (Nat.div_add_mod i size).symm
   have r2:((l.set k y).flatMap cells)[i]? = (cells ((l.set k y)[i / size]'(by simpa using hq)))[i % size]?:=by
    conv=>lhs;rw [e]
    exact Z66 hsz _ _ (by simpa using hq) _ hr
   rw [r2];by_cases hik:i / size=k
   · have e3:i - (k*size+0)=i % size:=by rw [←hik];omega
     rw [if_pos (by rw [hik] at e;omega),e3];congr 1;rw [List.getElem_set];simp [hik]
   · have hne :¬(k*size+0≤i∧i<k*size+0+size):=by
      rintro ⟨a,b⟩;apply hik;apply Nat.div_eq_of_lt_le
      · omega
      · rw [Nat.add_mul];omega
     rw [if_neg hne]
     have r1:(l.flatMap cells)[i]? = (cells l[i / size])[i % size]?:=by
      conv=>lhs;rw [e]
      exact Z66 hsz _ _ hq _ hr
     rw [r1];congr 2;rw [List.getElem_set];simp [Ne.symm hik]
 · rw [if_neg (by omega),List.getElem?_eq_none (by rw [Z08 hsz];omega),List.getElem?_eq_none (by rw [Z08 hsz];simp;omega)]
structure Z25 {α:Type}(tSet tE size:Nat) (cells:α→List Value) (w:World) (b:Nat) (sn:Bool) (A:Option Addr) (c:Nat) (l:List α):Prop where
 blk:Blk w b tSet #[.slice A l.length c,.bool sn]
 row:w.ownsRow 0 tE size (.slice A l.length c) l.length (l.flatMap cells)
def Z1f (b:Nat) (sn:Bool) (A:Option Addr):Nat→Prop:=fun k=>k=b∨(sn=false∧∃a,A=some a∧a.block=k)
def Z32 (w:World) (sn:Bool) (A:Option Addr) (sn':Bool) (A':Option Addr):Prop:=
 (sn'=sn∧A'=A)∨(sn'=false∧∃g,w.heap.size≤g∧A'=some ⟨g,0,none⟩)
section
variable {α:Type}{tSet tE size:Nat}{cells:α→List Value}{w w':World}{b:Nat}{sn:Bool}{A:Option Addr}{c:Nat}{l:List α}
theorem Z25.lt (h:Z25 tSet tE size cells w b sn A c l):b<w.heap.size:=h.blk.lt
theorem Z25.cell0 (h:Z25 tSet tE size cells w b sn A c l):w.cell? ⟨b,0,none⟩=some (.slice A l.length c):=(h.blk.cell 0).trans rfl
theorem Z25.cell1 (h:Z25 tSet tE size cells w b sn A c l):w.cell? ⟨b,1,none⟩=some (.bool sn):=(h.blk.cell 1).trans rfl
theorem Z25.rd (hsz :∀x,(cells x).length=size) (h:Z25 tSet tE size cells w b sn A c l):Z0z w size cells A c l:=Z0d hsz h.row
theorem Z25.row_lt (h:Z25 tSet tE size cells w b sn A c l):AIn A (· < w.heap.size):=by
 intro a e;subst e;rcases Z0h h.row with ⟨hv,_⟩|⟨g,cap,hv,_,_,hr,_⟩
 · cases hv
 · injection hv with hA
   injection hA with hA;subst hA;exact hr.lt
theorem Z25.row_ne (h:Z25 tSet tE size cells w b sn A c l) (hne:tE≠tSet):AIn A (·≠b):=by
 intro a e hb;have:=Z02 h.row h.blk hne;subst e;exact this (by simp [Value.ownBlock,hb])
theorem Z25.fr {M:Nat→Prop}(h:Z25 tSet tE size cells w b sn A c l) (hf:Fr M w w') (hb :¬M b) (hA:AIn A (fun k=>¬M k)):Z25 tSet tE size cells w' b sn A c l:=
 ⟨h.blk.fr hf hb,Z15 h.row hf (fun g e=>by
  rcases A with _|a
  · cases e
  · simp only [Value.ownBlock,Option.some.injEq] at e
    subst e
    exact hA a rfl)⟩
theorem Z25.new_ (h:Z25 tSet tE size cells w b sn A c l) (hf:Below w.heap.size w w'):Z25 tSet tE size cells w' b sn A c l:=⟨h.blk.new_ hf,Z05 h.row hf⟩
end
end
section
abbrev Cls:=Nat
section
variable {P:Program}{ops:Array Oper}{Q:Exit→Act→World→Prop}{S:World→Prop}
def Z45 (ops:Array Oper):Nat→Nat→Nat→Bool
 | 0,_,_=>false
 | n+1,j,k=>((ops[j]?).map fun o=>o.after.any fun e=>Region.binds .any e && (e.on == k ||Z45 ops n e.on k)).getD false
def Zkh (ops:Array Oper) (ord:List (Nat×Cls)) (j:Nat):Bool:=ord.any fun (k,c)=>c == 1 && k != j && !Z45 ops ops.size j k
def okE (ops:Array Oper):List (Nat×Cls)→Array Bool→Bool
 | [],listed=>(Region.ready .any ops listed).isEmpty
 | (k,c) :: rest,listed=>(if c == 2 then Region.ready .any ops listed == [k] else (Region.ready .any ops listed).contains k && Region.free .any ops listed k) && okE ops rest (listed.setIfInBounds k true)
def Z6y (S:World→Prop) (qt ns:Nat→Bool) (i:Nat) (w w':World):Prop:=if qt i=true then w'=w else (ns i=true→S w')
def Z8e (P:Program) (ops:Array Oper) (Q:Exit→Act→World→Prop) (S:World→Prop) (qt ns:Nat→Bool):Nat→Array Bool→Act→World→Prop
 | 0,listed,a,w=>Region.ready .any ops listed = []∧Q .normal a w
 | fuel+1,listed,a,w=>
   (Region.ready .any ops listed = []→Q .normal a w)∧
   ∀i∈Region.ready .any ops listed,wpOp P ops Q i (fun a' w'=>Z6y S qt ns i w w'∧Z8e P ops Q S qt ns fuel (listed.setIfInBounds i true) a' w') a w
theorem Z7z {qt ns:Nat→Bool} :∀(fuel:Nat) (listed:Array Bool) (a:Act) (w:World),Z8e P ops Q S qt ns fuel listed a w→wpAny P .any ops Q fuel listed a w
 | 0,_,_,_,h=>h
 | fuel+1,_,_,_,h=>⟨h.1,fun i hi=>wpOp_mono (fun a' w' h'=>Z7z fuel _ a' w' h'.2) (h.2 i hi)⟩
def wpE (P:Program) (ops:Array Oper) (Q:Exit→Act→World→Prop) (S:World→Prop) (ns:Nat→Bool):List (Nat×Cls)→Act→World→Prop
 | [],a,w=>Q .normal a w
 | (i,c) :: rest,a,w=>
   if c=2 then wpOp P ops Q i (fun a' w'=>(ns i=true→S w')∧wpE P ops Q S ns rest a' w') a w
   else ∃o v,ops[i]? = some o∧(if c=1 then YieldsIf P ops S o v a∧S w else Yields P ops o v a)∧wpE P ops Q S ns rest (a.put o.dst v) w
def Z5j (ops:Array Oper) (listed:Array Bool):Prop:=∀(m:Nat) (o:Oper),listed.getD m false=true→ops[m]? = some o→∀e∈o.after,Region.binds .any e=true→listed.getD e.on false=true
theorem Z2r {listed:Array Bool}(hc:Z5j ops listed){i:Nat}(hi:i∈Region.ready .any ops listed):Z5j ops (listed.setIfInBounds i true):=by
 obtain ⟨hu,o,ho,hall⟩:=mem_ready.1 hi
 have up :∀m,listed.getD m false=true→(listed.setIfInBounds i true).getD m false=true:=fun m hm=>by
  by_cases e:i=m
  · subst e
    rcases Nat.lt_or_ge i listed.size with h'|h'
    · simp [h']
    · simp [Array.getElem?_eq_none h'] at hm
  · rw [getD_set_ne false e];exact hm
 intro m om hm hom e he hb;by_cases e':i=m
 · subst e'
   rw [ho] at hom;cases hom;exact up _ (hall e he hb)
 · rw [getD_set_ne false e'] at hm
   exact up _ (hc m om hm hom e he hb)
theorem Z5m {listed:Array Bool}(hc:Z5j ops listed){k:Nat}(hk:listed.getD k false=false):∀(n m:Nat),listed.getD m false=true→Z45 ops n m k=false
 | 0,_,_=>rfl
 | n+1,m,hm=>by
   unfold Z45
   cases ho:ops[m]? with
   | none=>rfl
   | some o=>
     simp only [Zo1,Option.getD_some];rw [Array.any_eq_false];intro i hi;simp only [Zod,Zp3,beq_iff_eq,not_and,not_or,Bool.not_eq_true];intro hb;have hl:=hc m o hm ho o.after[i] (Array.getElem_mem hi) hb;refine ⟨fun e=>?_,Z5m hc hk n _ hl⟩;rw [e,hk] at hl;cases hl
theorem Z9e {listed:Array Bool}(hc:Z5j ops listed){k j:Nat}(hk:listed.getD k false=false) (hj:j∈Region.ready .any ops listed) (n:Nat):Z45 ops n j k=false:=by
 cases n with
 | zero=>rfl
 | succ n=>
   obtain ⟨_,o,ho,hall⟩:=mem_ready.1 hj;unfold Z45;simp only [ho,Zo1,Option.getD_some];rw [Array.any_eq_false];intro i hi;simp only [Zod,Zp3,beq_iff_eq,not_and,not_or,Bool.not_eq_true];intro hb;have hl:=hall o.after[i] (Array.getElem_mem hi) hb;refine ⟨fun e=>?_,Z5m hc hk n _ hl⟩;rw [e,hk] at hl;cases hl
theorem Z4w {qt ns:Nat→Bool}{i:Nat}{oi:Oper}{v:Value}(hi:ops[i]? = some oi) (hsel :∀(j:Nat) (o:Oper) cs b,ops[j]? = some o→o.op≠.select cs b)
 (hQ :∀c a w,Q (.panic c) (a.put oi.dst v) w→Q (.panic c) a w) (L:Bool) (hqt:qt i=true) (hns:L=true→∀(j:Nat),Z45 ops ops.size j i=false→j≠i→j<ops.size→ns j=true) :
 ∀(fuel:Nat) (listed:Array Bool) (a:Act) (w:World),Z5j ops listed→
  (∀j oj,ops[j]? = some oj→j≠i→listed.getD j true=false→(∀e∈oj.after,Region.binds .any e=true→e.on≠i)→oi.apart ops oj=true)→
  i∈Region.ready .any ops listed→YieldsIf P ops (fun w=>L=true→S w) oi v a→(L=true→S w)→
  Z8e P ops Q S qt ns fuel (listed.setIfInBounds i true) (a.put oi.dst v) w→Z8e P ops Q S qt ns (fuel+1) listed a w:=by
 (have own :∀w:World,Z6y S qt ns i w w:=fun w=>by unfold Z6y;rw [if_pos hqt]);intro fuel
 induction fuel with
 | zero=>
   intro listed a w _ _ hr hy hS H;refine ⟨fun h=>(by rw [h] at hr;cases hr),fun j hj=>?_⟩;by_cases hji:j=i
   · subst hji;exact hy.wpOp hi hS ⟨own w,H⟩
   · have:=ready_mono hj hji
     rw [H.1] at this;cases this
 | succ fuel ih=>
   intro listed a w hcl hfree hr hy hS H;refine ⟨fun h=>(by rw [h] at hr;cases hr),fun j hj=>?_⟩;by_cases hji:j=i
   · subst hji;exact hy.wpOp hi hS ⟨own w,H⟩
   · have h1:=H.2 j (ready_mono hj hji)
     obtain ⟨hjun,oj,hoj,hall⟩:=mem_ready.1 hj
     have hiun:listed.getD i false=false:=by
      have h0:=(mem_ready.1 hr).1;rcases Nat.lt_or_ge i listed.size with h'|h'
      · simp [h'] at h0 ⊢;exact h0
      · simp [Array.getElem?_eq_none h'] at h0
     have hnot :∀e∈oj.after,Region.binds .any e=true→e.on≠i:=fun e he hb heq=>by
      have h1:=hall e he hb;rw [heq,hiun] at h1;cases h1
     have hnsj:L=true→ns j=true:=fun hL=>hns hL j (Z9e hcl hiun hj _) hji (Zo0.1 hoj).1;have h2:=wpOp_putIf hoj (hfree j oj hoj hji hjun hnot) (fun cs b=>hsel i oi cs b hi) (fun cs b=>hsel j oj cs b hoj) hQ hy h1
     have hfree' :∀k ok,ops[k]? = some ok→k≠i→(listed.setIfInBounds j true).getD k true=false→
      (∀e∈ok.after,Region.binds .any e=true→e.on≠i)→oi.apart ops ok=true:=fun k ok hk hki hun hno=>by
      refine hfree k ok hk hki ?_ hno;by_cases hjk:j=k
      · subst hjk;exact hjun
      · rw [getD_set_ne true hjk] at hun;exact hun
     refine wpOp_mono (fun a' w' h3=>⟨h3.2.1,?_⟩) h2
     have hS':L=true→S w':=fun hL=>by
      have hb:=h3.2.1;unfold Z6y at hb;by_cases hq:qt j=true
      · rw [if_pos hq] at hb;rw [hb];exact hS hL
      · rw [if_neg hq] at hb;exact hb (hnsj hL)
     refine ih (listed.setIfInBounds j true) a' w' (Z2r hcl hj) hfree' (ready_mono hr (Ne.symm hji)) h3.1 hS' ?_;rw [Array.setIfInBounds_comm _ _ hji];exact h3.2.2
theorem Z9n {ord:List (Nat×Cls)}{qt ns:Nat→Bool}(hsel:Region.noSelect ops=true) (hQ :∀c a a' w,Q (.panic c) a w→Q (.panic c) a' w)
 (hqt :∀k c,(k,c)∈ord→(qt k=true↔c≠2)) (hns :∀k,(k,1)∈ord→∀j,Z45 ops ops.size j k=false→j≠k→j<ops.size→ns j=true) :
 ∀(rest:List (Nat×Cls)) (listed:Array Bool) (a:Act) (w:World),(∀x∈rest,x∈ord)→Z5j ops listed→okE ops rest listed=true→wpE P ops Q S ns rest a w→Z8e P ops Q S qt ns rest.length listed a w
 | [],listed,a,w,_,_,hB,h=>⟨by simpa [okE] using hB,h⟩
 | (k,c) :: rest,listed,a,w,hm,hcl,hB,h=>by
   simp only [okE,Zod] at hB;obtain ⟨hB1,hB2⟩:=hB;have hmk:=hm (k,c) (by simp);simp only [wpE] at h;by_cases hc:c=2
   · subst hc
     simp only [beq_self_eq_true,if_true] at hB1;(have hr:Region.ready .any ops listed = [k]:=by simpa using hB1);simp only [if_true] at h;refine ⟨fun h0=>(by rw [hr] at h0;cases h0),fun i hi=>?_⟩;rw [hr] at hi;(obtain rfl:i=k:=by simpa using hi);refine wpOp_mono (fun a' w' h'=>⟨?_,Z9n hsel hQ hqt hns rest _ a' w' (fun x hx=>hm x (by simp [hx])) (Z2r hcl (by rw [hr];simp)) hB2 h'.2⟩) h;unfold Z6y;rw [if_neg (fun hq=>(hqt i 2 hmk).1 hq rfl)];exact h'.1
   · rw [if_neg (by simpa using hc)] at hB1
     simp only [Zod] at hB1;rw [if_neg hc] at h;obtain ⟨o,v,ho,hy,hk⟩:=h;(have hrdy:k∈Region.ready .any ops listed:=by simpa using hB1.1);have hrest:=Z9n hsel hQ hqt hns rest _ _ w (fun x hx=>hm x (by simp [hx])) (Z2r hcl hrdy) hB2 hk;by_cases h1:c=1
     · subst h1
       rw [if_pos rfl] at hy
       exact Z4w ho (Region.noSelect_spec hsel) (fun c a w=>hQ c _ _ w) true ((hqt k 1 hmk).2 hc) (fun _=>hns k hmk) rest.length listed a w hcl (Region.free_spec ho hB1.2) hrdy
        (hy.1.imp (fun ⟨p,q⟩=>⟨p,fun w' hw'=>q w' (hw' rfl)⟩) id) (fun _=>hy.2) hrest
     · rw [if_neg h1] at hy
       exact Z4w ho (Region.noSelect_spec hsel) (fun c a w=>hQ c _ _ w) false ((hqt k c hmk).2 hc) (fun h=>by cases h) rest.length listed a w hcl (Region.free_spec ho hB1.2) hrdy
        (hy.imp (fun ⟨p,q⟩=>⟨p,fun w' _=>q w'⟩) id) (fun h=>by cases h) hrest
def Zma (ops:Array Oper) (ord:List (Nat×Cls)):Bool:=
 Region.noSelect ops && okE ops ord (Array.replicate ops.size false) && ord.length == ops.size && (ord.map (·.1)).Nodup && ord.all fun x=>x.1<ops.size
def Zao (K:Act→World→Prop):Exit→Act→World→Prop
 | .normal,a,w=>K a w
 | _,_,_=>False
@[go_sem] theorem Z04 (K:Act→World→Prop) (a:Act) (w:World):Zao K .normal a w=K a w:=rfl
def wpX (P:Program) (ops:Array Oper) (Q:Exit→Act→World→Prop) (S:World→Prop) (ns:Nat→Bool):List (Nat×Cls×Oper)→Act→World→Prop
 | [],a,w=>Q .normal a w
 | (i,c,o) :: rest,a,w=>
   if c=2 then (if Region.wanted o (yielded ops a.tmps)=true then o.wp P a w (fun a' w'=>(ns i=true→S w')∧wpX P ops Q S ns rest a' w') Q else (ns i=true→S w)∧wpX P ops Q S ns rest (a.put o.dst undef) w)
   else ∃v,(if c=1 then YieldsIf P ops S o v a∧S w else Yields P ops o v a)∧wpX P ops Q S ns rest (a.put o.dst v) w
def Z0w (ops:Array Oper) (ord:List (Nat×Cls)):List (Nat×Cls×Oper):=ord.filterMap fun (i,c)=>(ops[i]?).map fun o=>(i,c,o)
theorem Zfh {ns:Nat→Bool} :∀(ord:List (Nat×Cls)) (a:Act) (w:World),(∀x∈ord,x.1<ops.size)→wpX P ops Q S ns (Z0w ops ord) a w→wpE P ops Q S ns ord a w
 | [],_,_,_,h=>h
 | (i,c) :: rest,a,w,hl,h=>by
   have hi:i<ops.size:=hl (i,c) (by simp);have ho:ops[i]? = some ops[i]:=Array.getElem?_eq_getElem hi;(have hb:Z0w ops ((i,c) :: rest)=(i,c,ops[i]) :: Z0w ops rest:=by simp [Z0w,ho]);have ih:=fun a w=>Zfh (ns:=ns) rest a w (fun x hx=>hl x (by simp [hx]));rw [hb] at h;simp only [wpX] at h;simp only [wpE]
   split
   · rename_i hc
     rw [if_pos hc] at h;unfold wpOp;simp only [ho]
     split
     · rename_i hw
       rw [if_pos hw] at h;exact .inl (Oper.wp_mono (fun a w h=>⟨h.1,ih _ _ h.2⟩) h)
     · rename_i hw
       rw [if_neg hw] at h;exact ⟨h.1,ih _ _ h.2⟩
   · rename_i hc
     rw [if_neg hc] at h;obtain ⟨v,h1,h2⟩:=h;exact ⟨_,v,ho,h1,ih _ _ h2⟩
theorem Zmt {l:List Oper}{a:Act}{w:World}(S:World→Prop) (ord:List (Nat×Cls)) (hB:Zma l.toArray ord=true)
 (h :∀K:Act→World→Prop,(∀a w,Q .normal a w→K a w)→wpX P l.toArray (Zao K) S (Zkh l.toArray ord) (Z0w l.toArray ord) a w.drew) :
 wpAny P .any l.toArray (Zao fun a w=>Q .normal a w) l.toArray.size (Array.replicate l.toArray.size false) a w.drew:=by
 simp only [Zma,Zod,beq_iff_eq,Zp0] at hB;obtain ⟨⟨⟨⟨hsel,hE⟩,hlen⟩,hnd⟩,hlt0⟩:=hB;(have hlt :∀x∈ord,x.1<l.toArray.size:=by simpa [Zow] using hlt0);clear hlt0;have h0:=Zfh ord a w.drew hlt (h (fun a w=>Q .normal a w) (fun _ _ h=>h));have hcl:Z5j l.toArray (Array.replicate l.toArray.size false):=fun m o hm=>by rw [getD_replicate_false] at hm;cases hm
 have hone :∀k c c',(k,c)∈ord→(k,c')∈ord→c=c':=fun k c c' h1 h2=>by
  clear h h0 hE hlen hcl hlt
  induction ord with
  | nil=>cases h1
  | cons x r ih=>
    simp only [List.map_cons,List.nodup_cons,List.mem_map,not_exists,not_and] at hnd;rcases Zo5.1 h1 with e1|h3
    · rcases Zo5.1 h2 with e2|h4
      · rw [←e1] at e2;injection e2 with _ e;exact e.symm
      · subst e1;exact absurd rfl (hnd.1 (k,c') h4)
    · rcases Zo5.1 h2 with e2|h4
      · subst e2;exact absurd rfl (hnd.1 (k,c) h3)
      · exact ih hnd.2 h3 h4
 have H:=Z9n (P:=P) (Q:=Zao fun a w=>Q .normal a w) (S:=S) (ord:=ord) (qt:=fun k=>ord.any fun (j,c)=>j == k && c != 2) (ns:=Zkh l.toArray ord) hsel (fun c a a' w h=>h)
  (fun k c hk=>by
    simp only [Zp2,Zod,beq_iff_eq,bne_iff_ne];constructor
    · rintro ⟨⟨j,c'⟩,hj,hjk,hc'⟩
      dsimp only at hjk hc';subst hjk;rw [hone _ _ _ hk hj];exact hc'
    · intro hc;exact ⟨(k,c),hk,rfl,hc⟩)
  (fun k hk j hw hjk _=>by
    unfold Zkh;rw [Zp2]
    exact ⟨(k,1),hk,by dsimp only;rw [hw];simp [Ne.symm hjk]⟩)
  ord (Array.replicate l.toArray.size false) a w.drew (fun _ hx=>hx) hcl hE h0
 rw [hlen] at H;exact Z7z _ _ _ _ H
theorem Z0c {id:Nat}{l:List Oper}{a:Act}{w:World}(S:World→Prop) (ord:List (Nat×Cls)) (hm:P.follows .mixedOrders=true) (hB:Zma l.toArray ord=true)
 (h :∀K:Act→World→Prop,(∀a w,Q .normal a w→K a w)→wpX P l.toArray (Zao K) S (Zkh l.toArray ord) (Z0w l.toArray ord) a w.drew):(Code.region id l.toArray true).wp P Q a w:=
 Code.wp_mono (Q:=Zao fun a w=>Q .normal a w) (fun e a w hq=>by cases e<;>first|exact hq|exact hq.elim) (wp_region_any hm (Zmt S ord hB h))
variable {ns:Nat→Bool}{rest:List (Nat×Cls×Oper)}{a:Act}{w:World}{i:Nat}{o:Oper}
theorem Z16 (h:Q .normal a w):wpX P ops Q S ns [] a w:=h
theorem Z0m (v:Value) (hy:Yields P ops o v a) (h:wpX P ops Q S ns rest (a.put o.dst v) w):wpX P ops Q S ns ((i,0,o) :: rest) a w:=by
 simp only [wpX];exact ⟨v,by simpa using hy,h⟩
theorem Z0k (v:Value) (hS:S w) (hy:YieldsIf P ops S o v a) (h:wpX P ops Q S ns rest (a.put o.dst v) w):wpX P ops Q S ns ((i,1,o) :: rest) a w:=by
 simp only [wpX];exact ⟨v,by simpa using ⟨hy,hS⟩,h⟩
theorem Z1y (hn:ns i=false)
 (h :∀K:Act→World→Prop,(∀a w,wpX P ops Q S ns rest a w→K a w)→if Region.wanted o (yielded ops a.tmps)=true then Oper.wp P o a w K Q else K (a.put o.dst undef) w):wpX P ops Q S ns ((i,2,o) :: rest) a w:=by
 have:=h (fun a' w'=>(ns i=true→S w')∧wpX P ops Q S ns rest a' w') (fun a w h2=>⟨fun h=>absurd h (by rw [hn];simp),h2⟩);simpa only [wpX,if_true] using this
theorem Z2j
 (h :∀K:Act→World→Prop,(∀a w,S w→wpX P ops Q S ns rest a w→K a w)→if Region.wanted o (yielded ops a.tmps)=true then Oper.wp P o a w K Q else K (a.put o.dst undef) w):wpX P ops Q S ns ((i,2,o) :: rest) a w:=by
 have:=h (fun a' w'=>(ns i=true→S w')∧wpX P ops Q S ns rest a' w') (fun a w h1 h2=>⟨fun _=>h1,h2⟩);simpa only [wpX,if_true] using this
end
end
section
open Go.RowKit
def Z3d (W:World) (k:Nat):Prop:=∃c e f,W.heap[k]? = some (.cells c e f)
structure Priv (B:Nat) (W W':World):Prop where
 os:W'.os=W.os
 tape:W'.tape=W.tape
 output:W'.output=W.output
 size:W.heap.size≤W'.heap.size
 block :∀k,k<W.heap.size→(k<B∨Z3d W k)→W'.heap[k]? = W.heap[k]?
section
variable {B B':Nat}{W W' X Y Z:World}
theorem Priv.refl (B:Nat) (W:World):Priv B W W:=⟨rfl,rfl,rfl,Znl _,fun _ _ _=>rfl⟩
theorem Priv.alloc (h:Priv B X Y) (o:Obj):Priv B X (Y.alloc o):=
 ⟨h.os,h.tape,h.output,Zo2 h.size (by simp),fun k hk hc=>(Zp6 Y o k (Znn hk h.size)).trans (h.block k hk hc)⟩
theorem Priv.putObj (h:Priv B X Y){l:Nat}{o:Obj}(hl:B≤l) (ho:Y.heap[l]? = some o) (hc:o.isCells=false) (o':Obj):Priv B X (Y.putObj l o'):=
 ⟨h.os,h.tape,h.output,by simpa using h.size,fun k hk hk2=>by
  have e:=h.block k hk hk2;rw [Zob,e];rintro rfl;rcases hk2 with hk2|⟨c,t,f,hh⟩
  · omega
  · rw [e,hh] at ho
    cases ho
    cases hc⟩
theorem Priv.mono (h:Priv B' X Y) (hB:B≤B'):Priv B X Y:=⟨h.os,h.tape,h.output,h.size,fun k hk hc=>h.block k hk (hc.imp (fun h=>by omega) id)⟩
theorem Blk.at_ {g:Nat}{t:TypeId}{cs:Array Value}(h:Blk W g t cs):Z3d W g:=⟨_,_,_,h⟩
theorem Blk.priv {g:Nat}{t:TypeId}{cs:Array Value}(h:Blk W g t cs) (hp:Priv B W W'):Blk W' g t cs:=(hp.block g h.lt (.inr h.at_)).trans h
theorem Z2u {base:Nat}{e:TypeId}{size:Nat}{v:Value}{n:Nat}{xs:List Value}(h:W.ownsRow base e size v n xs) (hp:Priv B W W'):W'.ownsRow base e size v n xs:=
 ⟨h.1,h.2.imp id fun ⟨g,cap,cur,hv,h0,hg,hr⟩=>⟨g,cap,cur,hv,h0,Blk.priv (t:=e) hg hp,hr⟩⟩
theorem Zlp {a:Addr}{v:Value}(h:W.cell? a=some v):Z3d W a.block:=by
 unfold World.cell? at h
 cases ho:W.heap[a.block]? with
 | none=>simp [ho] at h
 | some o=>cases o<;>simp_all [Z3d]
theorem Z6z {a:Addr}{v:Value}(h:W.cell? a=some v) (hp:Priv B W W'):W'.cell? a=some v:=
 (World.cell?_of_block (hp.block _ (Znx W a h) (.inr (Zlp h)))).trans h
theorem Z25.priv {α:Type}{tSet tE size:Nat}{cells:α→List Value}{b:Nat}{sn:Bool}{A:Option Addr}{c:Nat}{l:List α}(h:Z25 tSet tE size cells W b sn A c l) (hp:Priv B W W'):Z25 tSet tE size cells W' b sn A c l:=
 ⟨h.blk.priv hp,Z2u h.row hp⟩
theorem Fr.priv {M:Nat→Prop}(h:Fr M X Y) (hp:Priv B Y Z) (hB:X.heap.size≤B):Fr M X Z:=
 ⟨hp.os.trans h.os,hp.tape.trans h.tape,hp.output.trans h.output,Zo2 h.size hp.size,fun k hk hn=>(hp.block k (Znn hk h.size) (.inl (by omega))).trans (h.block k hk hn)⟩
end
variable {P:Program}
def Iter {α:Type}(P:Program) (gf:Nat) (lb:Array Value) (encs:α→Array Value) (xs:List α) (W:World) (start Kp:World→World→Prop):Prop:=
 ∀(l:Nat) (J Jx:List α→World→Prop),(∀p X Y,J p X→Priv W.heap.size X Y→J p Y)→(∀p X Y,Jx p X→Priv W.heap.size X Y→Jx p Y)→
  (∀W1,start W W1→J [] W1)→
  (∀pre x post W1,xs=pre++x :: post→J pre W1→YieldAt Fence.wide 0 P l (encs x) W1 fun e W'=>
    (e = .returned (.bool true)∧J (pre ++ [x]) W'∧Kp W1 W')∨(e = .returned (.bool false)∧Jx (pre ++ [x]) W'))→
  CallsIn Fence.wide 0 P gf (#[.func (.yield l) #[] #[]]++lb) W fun e W'=>(∃v,e = .returned v)∧(J xs W'∨∃pre post,xs=pre++post∧Jx pre W')
theorem Iter.weak {α:Type}{gf:Nat}{lb:Array Value}{encs:α→Array Value}{xs:List α}{W:World}{start Kp Kp':World→World→Prop}(h:Iter P gf lb encs xs W start Kp) (hk :∀X Y,Kp' X Y→Kp X Y):Iter P gf lb encs xs W start Kp':=by
 intro l J Jx h1 h2 h3 h4;refine h l J Jx h1 h2 h3 (fun pre x post W1 hx hJ=>?_);obtain ⟨fn,tmps,assign,body,hy,hR⟩:=h4 pre x post W1 hx hJ;refine ⟨fn,tmps,assign,body,hy,hR.mono ?_⟩;rintro e W' (⟨g1,g2,g3⟩|g)
 · exact .inl ⟨g1,g2,hk _ _ g3⟩
 · exact .inr g
theorem KeepsFrom.put_ {B l:Nat}{X Y:World}(h:KeepsFrom B X Y) (hl:l<B) (o:Obj):KeepsFrom B X (Y.putObj l o):=
 ⟨by simpa using h.size,fun k o' hB hk hc=>(Zob (by omega)).trans (h.same k o' hB hk hc)⟩
theorem KeepsFrom.up {B C:Nat}{X Y:World}(h:KeepsFrom B X Y) (hB:B≤C):KeepsFrom C X Y:=⟨h.size,fun k o hC hk hc=>h.same k o (by omega) hk hc⟩
end
section
structure TC {α:Type}(cmp:α→α→Int):Prop where
 refl :∀x,cmp x x=0
 symm :∀x y,cmp x y<0↔0<cmp y x
 trans :∀x y z,cmp x y≤0→cmp y z≤0→cmp x z≤0
section
variable {α:Type}{cmp:α→α→Int}
theorem TC.eq_symm (h:TC cmp){x y:α}(e:cmp x y=0):cmp y x=0:=by
 have a:=h.symm x y;have b:=h.symm y x;omega
theorem TC.lt_of_lt_of_le (h:TC cmp){x y z:α}(a:cmp x y<0) (b:cmp y z≤0):cmp x z<0:=by
 have c:=h.symm x z;have d:=h.symm z x;have e:=h.symm x y;have g:=h.symm y x;by_cases hz:cmp x z<0
 · exact hz
 · have t:=h.trans y z x b (by omega)
   omega
theorem TC.lt_of_le_of_lt (h:TC cmp){x y z:α}(a:cmp x y≤0) (b:cmp y z<0):cmp x z<0:=by
 have c:=h.symm x z;have d:=h.symm z x;have e:=h.symm y z;have g:=h.symm z y;by_cases hz:cmp x z<0
 · exact hz
 · have t:=h.trans z x y (by omega) a
   omega
theorem TC.lt_trans (h:TC cmp){x y z:α}(a:cmp x y<0) (b:cmp y z<0):cmp x z<0:=h.lt_of_lt_of_le a (by omega)
def Srt (cmp:α→α→Int) (l:List α):Prop:=l.Pairwise (fun a b=>cmp a b<0)
def has (cmp:α→α→Int) (l:List α) (x:α):Bool:=l.any (fun y=>cmp y x == 0)
def below (cmp:α→α→Int) (l:List α) (x:α):List α:=l.filter (fun y=>decide (cmp y x<0))
def Z4f (cmp:α→α→Int) (l:List α) (x:α):List α:=l.filter (fun y=>decide (0<cmp y x))
def rank (cmp:α→α→Int) (l:List α) (x:α):Nat:=(below cmp l x).length
def put (cmp:α→α→Int) (l:List α) (x:α):List α:=if has cmp l x then l else below cmp l x++x :: Z4f cmp l x
def drop (cmp:α→α→Int) (l:List α) (x:α):List α:=l.filter (fun y=>!(cmp y x == 0))
def puts (cmp:α→α→Int) (l xs:List α):List α:=xs.foldl (put cmp) l
theorem Z6n {l:List α}{x:α}:has cmp l x=true↔∃y∈l,cmp y x=0:=by simp [has]
theorem Z4k {l:List α}{x:α}:has cmp l x=false↔∀y∈l,cmp y x≠0:=by simp [has]
theorem Z6m {l:List α}{x:α}{k:Nat}(h1 :∀i,(h:i<l.length)→i<k→cmp l[i] x<0) (h2 :∀i,(h:i<l.length)→k≤i→0<cmp l[i] x) :
 below cmp l x=l.take k∧Z4f cmp l x=l.drop k∧has cmp l x=false:=by
 have e1 :∀y∈l.take k,cmp y x<0:=by
  intro y hy;obtain ⟨i,hi,rfl⟩:=List.getElem_of_mem hy;rw [List.getElem_take];simp at hi;exact h1 i (by omega) (by omega)
 have e2 :∀y∈l.drop k,0<cmp y x:=by
  intro y hy;obtain ⟨i,hi,rfl⟩:=List.getElem_of_mem hy;rw [List.getElem_drop];simp at hi;exact h2 (k+i) (by omega) (by omega)
 refine ⟨?_,?_,?_⟩
 · unfold below
   conv=>lhs;rw [←List.take_append_drop k l]
   rw [List.filter_append,List.filter_eq_self.2 (fun y hy=>by simpa using e1 y hy),List.filter_eq_nil_iff.2 (fun y hy=>by have:=e2 y hy;simp;omega),Zof]
 · unfold Z4f
   conv=>lhs;rw [←List.take_append_drop k l]
   rw [List.filter_append,(List.filter_eq_self (l:=l.drop k)).2 (fun y hy=>by simpa using e2 y hy),List.filter_eq_nil_iff.2 (fun y hy=>by have:=e1 y hy;simp;omega),Zo3]
 · rw [Z4k]
   intro y hy;rw [←List.take_append_drop k l] at hy;rcases Zoz.1 hy with hy|hy
   · have:=e1 y hy;omega
   · have:=e2 y hy;omega
theorem Srt.lt {l:List α}(h:Srt cmp l){i j:Nat}(hij:i<j) (hj:j<l.length):cmp (l[i]'(by omega)) l[j]<0:=
 List.pairwise_iff_getElem.1 h i j (by omega) hj hij
theorem Z5t (t:TC cmp){l:List α}(hs:Srt cmp l){x:α}{k:Nat}(hk:k<l.length) (e:cmp l[k] x=0) :
 below cmp l x=l.take k∧Z4f cmp l x=l.drop (k+1)∧has cmp l x=true∧drop cmp l x=l.take k++l.drop (k+1):=by
 have e1 :∀y∈l.take k,cmp y x<0:=by
  intro y hy;obtain ⟨i,hi,rfl⟩:=List.getElem_of_mem hy;rw [List.getElem_take];simp at hi;exact t.lt_of_lt_of_le (hs.lt (by omega) hk) (by omega)
 have e2 :∀y∈l.drop (k+1),0<cmp y x:=by
  intro y hy;obtain ⟨i,hi,rfl⟩:=List.getElem_of_mem hy;rw [List.getElem_drop];simp at hi;have h1:cmp x (l[k+1+i]'(by omega))<0:=t.lt_of_le_of_lt (y:=l[k]) (by have:=t.eq_symm e;omega) (hs.lt (by omega) (by omega));exact (t.symm _ _).1 h1
 have hl:l=l.take k++l[k] :: l.drop (k+1):=by
  rw [List.getElem_cons_drop,List.take_append_drop]
 refine ⟨?_,?_,?_,?_⟩
 · unfold below
   conv=>lhs;rw [hl]
   rw [List.filter_append,List.filter_cons,List.filter_eq_self.2 (fun y hy=>by simpa using e1 y hy),List.filter_eq_nil_iff.2 (fun y hy=>by have:=e2 y hy;simp;omega)];simp [e]
 · unfold Z4f
   conv=>lhs;rw [hl]
   rw [List.filter_append,List.filter_cons,List.filter_eq_nil_iff.2 (fun y hy=>by have:=e1 y hy;simp;omega),(List.filter_eq_self (l:=l.drop (k+1))).2 (fun y hy=>by simpa using e2 y hy)];simp [e]
 · rw [Z6n];exact ⟨_,Zo8 hk,e⟩
 · unfold drop
   conv=>lhs;rw [hl]
   rw [List.filter_append,List.filter_cons,List.filter_eq_self.2 (fun y hy=>by have:=e1 y hy;simp;omega),(List.filter_eq_self (l:=l.drop (k+1))).2 (fun y hy=>by have:=e2 y hy;simp;omega)];simp [e]
theorem Z5a {l:List α}{x:α}{k:Nat}(hk:k≤l.length) (h1 :∀i,(h:i<l.length)→i<k→cmp l[i] x<0) (h2 :∀i,(h:i<l.length)→k≤i→0<cmp l[i] x):rank cmp l x=k:=by
 unfold rank;rw [(Z6m h1 h2).1];simp;omega
theorem Z5b (t:TC cmp){l:List α}(hs:Srt cmp l){x:α}{k:Nat}(hk:k<l.length) (e:cmp l[k] x=0):rank cmp l x=k:=by
 unfold rank;rw [(Z5t t hs hk e).1];simp;omega
theorem Zmg (t:TC cmp){l:List α}(hs:Srt cmp l) (x:α) :
 (has cmp l x=false∧l=below cmp l x++Z4f cmp l x)∨(∃y,has cmp l x=true∧cmp y x=0∧l=below cmp l x++y :: Z4f cmp l x):=by
 induction l with
 | nil=>exact .inl ⟨rfl,rfl⟩
 | cons a r ih=>
   have hr:Srt cmp r:=(List.pairwise_cons.1 hs).2;have ha :∀y∈r,cmp a y<0:=(List.pairwise_cons.1 hs).1;by_cases h1:cmp a x<0
   · rcases ih hr with ⟨h2,h3⟩|⟨y,h2,h3,h4⟩
     · left
       refine ⟨?_,?_⟩
       · simp only [has,List.any_cons,Bool.or_eq_false_iff];exact ⟨by simp;omega,h2⟩
       · have e1:below cmp (a :: r) x=a :: below cmp r x:=by simp [below,h1]
         (have e2:Z4f cmp (a :: r) x=Z4f cmp r x:=by unfold Z4f;rw [List.filter_cons,if_neg (by simp;omega)]);rw [e1,e2,Zog,←h3]
     · right
       refine ⟨y,?_,h3,?_⟩
       · simp only [has,List.any_cons,Zp3];exact .inr h2
       · have e1:below cmp (a :: r) x=a :: below cmp r x:=by simp [below,h1]
         (have e2:Z4f cmp (a :: r) x=Z4f cmp r x:=by unfold Z4f;rw [List.filter_cons,if_neg (by simp;omega)]);rw [e1,e2,Zog,←h4]
   · have hall :∀y∈r,0<cmp y x:=fun y hy=>(t.symm x y).1 (t.lt_of_le_of_lt (y:=a) (by have:=t.symm a x;have:=t.symm x a;omega) (ha y hy))
     have b0:below cmp r x = []:=List.filter_eq_nil_iff.2 (fun y hy=>by have:=hall y hy;simp;omega);have a0:Z4f cmp r x=r:=List.filter_eq_self.2 (fun y hy=>by simpa using hall y hy);have n0:has cmp r x=false:=Z4k.2 (fun y hy=>by have:=hall y hy;omega);(have e1:below cmp (a :: r) x = []:=by unfold below;rw [List.filter_cons,if_neg (by simpa using h1)];exact b0);by_cases h2:cmp a x=0
     · right
       refine ⟨a,Z6n.2 ⟨a,by simp,h2⟩,h2,?_⟩;(have e2:Z4f cmp (a :: r) x=r:=by unfold Z4f;rw [List.filter_cons,if_neg (by simp;omega)];exact a0);rw [e1,e2];rfl
     · left
       refine ⟨?_,?_⟩
       · simp only [has,List.any_cons,Bool.or_eq_false_iff];exact ⟨by simpa using h2,n0⟩
       · have e2:Z4f cmp (a :: r) x=a :: r:=by unfold Z4f;rw [List.filter_cons,if_pos (by simp;omega)];exact congrArg _ a0
         rw [e1,e2];rfl
theorem Z4m {l:List α}{x y:α}:y∈below cmp l x↔y∈l∧cmp y x<0:=by simp [below]
theorem Z4l {l:List α}{x y:α}:y∈Z4f cmp l x↔y∈l∧0<cmp y x:=by simp [Z4f]
theorem Zke {l:List α}{x y:α}:y∈drop cmp l x↔y∈l∧cmp y x≠0:=by simp [drop]
theorem Srt.put (t:TC cmp){l:List α}(hs:Srt cmp l) (x:α):Srt cmp (put cmp l x):=by
 unfold YtfidcfjcmlgkbaaGreat.put
 split
 · exact hs
 · refine List.pairwise_append.2 ⟨hs.sublist List.filter_sublist,List.pairwise_cons.2 ⟨fun y hy=>?_,hs.sublist List.filter_sublist⟩,fun y hy z hz=>?_⟩
   · exact (t.symm x y).2 (Z4l.1 hy).2
   · rcases Zo5.1 hz with rfl|hz
     · exact (Z4m.1 hy).2
     · exact t.lt_trans (Z4m.1 hy).2 ((t.symm x z).2 (Z4l.1 hz).2)
theorem Srt.drop {l:List α}(hs:Srt cmp l) (x:α):Srt cmp (drop cmp l x):=hs.sublist List.filter_sublist
theorem Srt.nil:Srt cmp ([]:List α):=List.Pairwise.nil
theorem Srt.puts (t:TC cmp):∀(xs:List α){l:List α},Srt cmp l→Srt cmp (puts cmp l xs)
 | [],_,h=>h
 | x :: xs,_,h=>Srt.puts t xs (h.put t x)
theorem Z36 (l xs:List α) (x:α):puts cmp l (xs ++ [x])=put cmp (puts cmp l xs) x:=by simp [puts]
theorem Z74 {l:List α}{x:α}(t:TC cmp) (hs:Srt cmp l) (h:has cmp l x=false):(below cmp l x).length+(Z4f cmp l x).length=l.length:=by
 rcases Zmg t hs x with ⟨_,e⟩|⟨y,h',_⟩
 · conv=>rhs;rw [e]
   simp
 · rw [h] at h';cases h'
theorem Z75 (t:TC cmp){l:List α}(hs:Srt cmp l) (x:α):(put cmp l x).length≤l.length+1:=by
 unfold YtfidcfjcmlgkbaaGreat.put;by_cases h:has cmp l x=true
 · rw [if_pos h];omega
 · rw [if_neg h]
   have:=Z74 t hs (x:=x) (by simpa using h);simp;omega
theorem Z1d (t:TC cmp):∀(xs:List α){l:List α},Srt cmp l→(puts cmp l xs).length≤l.length+xs.length
 | [],_,_=>by simp [puts]
 | x :: xs,l,h=>by
   have h1:=Z1d t xs (h.put t x);have h2:=Z75 t h x;have e:puts cmp l (x :: xs)=puts cmp (put cmp l x) xs:=rfl;rw [e];simp;omega
theorem Z9q (l:List α) (x:α):(drop cmp l x).length≤l.length:=List.length_filter_le _ _
theorem Zc1 {l:List α}{x:α}(h:has cmp l x=false):drop cmp l x=l:=by
 unfold YtfidcfjcmlgkbaaGreat.drop;exact List.filter_eq_self.2 (fun y hy=>by simpa using Z4k.1 h y hy)
theorem Z6p (l:List α) (x:α):rank cmp l x≤l.length:=List.length_filter_le _ _
theorem Zeg {l B A:List α}(e:l=B++A):l.take B.length=B:=by subst e;simp
theorem Zde {l B A:List α}(e:l=B++A):l.drop B.length=A:=by subst e;simp
theorem Za5 {l B A:List α}{y:α}(e:l=B++y :: A):l[B.length]? = some y:=by subst e;simp
theorem Z9b (t:TC cmp){l:List α}(hs:Srt cmp l){x:α}(h:has cmp l x=false):put cmp l x=l.take (rank cmp l x)++x :: l.drop (rank cmp l x):=by
 rcases Zmg t hs x with ⟨_,e⟩|⟨y,h',_⟩
 · have e1:l.take (rank cmp l x)=below cmp l x:=Zeg e
   have e2:l.drop (rank cmp l x)=Z4f cmp l x:=Zde e;rw [e1,e2];unfold YtfidcfjcmlgkbaaGreat.put;rw [if_neg (by rw [h];simp)]
 · rw [h] at h';cases h'
theorem Z4z {l:List α}{x:α}(h:has cmp l x=true):put cmp l x=l:=by unfold YtfidcfjcmlgkbaaGreat.put;rw [if_pos h]
theorem Z3s (t:TC cmp){l:List α}(hs:Srt cmp l){x:α}(h:has cmp l x=false):(put cmp l x).length=l.length+1:=by
 rw [Z9b t hs h];have:=Z6p (cmp:=cmp) l x;simp;omega
theorem Zhe (t:TC cmp){l:List α}(hs:Srt cmp l){x:α}(h:has cmp l x=true):rank cmp l x<l.length∧drop cmp l x=l.take (rank cmp l x)++l.drop (rank cmp l x+1)∧∃hk:rank cmp l x<l.length,cmp l[rank cmp l x] x=0:=by
 rcases Zmg t hs x with ⟨h',_⟩|⟨y,_,ey,e⟩
 · rw [h] at h';cases h'
 · have hk:rank cmp l x<l.length:=by
    have h2:l[rank cmp l x]? = some y:=Za5 e;exact (Zom.1 h2).1
   have hy:l[rank cmp l x]=y:=by
    have h1:l[rank cmp l x]? = some y:=Za5 e;rw [Znq hk] at h1;exact Zp5 h1
   (have e0:cmp l[rank cmp l x] x=0:=by rw [hy];exact ey);exact ⟨hk,(Z5t t hs hk e0).2.2.2,hk,e0⟩
def Z0s (l:List α) (x:α) (i:Nat):List α:=l.take i++(l ++ [x]).getD i x :: l.drop i
theorem Z0g (l:List α) (x:α){i:Nat}(h:i≤l.length):(Z0s l x i).length=l.length+1:=by simp [Z0s];omega
theorem Z2y (l:List α) (x:α):Z0s l x l.length=l ++ [x]:=by simp [Z0s]
theorem Z3a (l:List α) (x:α){j:Nat}(h:j<l.length) (h':j<(Z0s l x (j+1)).length):(Z0s l x (j+1))[j]=l[j]:=by
 apply Zp5;rw [←Znq];unfold Z0s;rw [Zoi (by simp;omega)];simp [h]
theorem Z3b (l:List α) (x:α){j:Nat}(h:j<l.length):(Z0s l x (j+1)).set (j+1) l[j]=Z0s l x j:=by
 unfold Z0s;rw [List.set_append_right _ _ (by simp;omega)];(have e:(j+1 - (l.take (j+1)).length)=0:=by simp;omega);rw [e,List.set_cons_zero,List.take_succ_eq_append_getElem h,Zoc];(have e2:(l ++ [x]).getD j x=l[j]:=by rw [List.getD_eq_getElem?_getD,Zoi h,Znq h];rfl);rw [e2,←List.getElem_cons_drop h];rfl
theorem Z3t (l:List α) (x:α){k:Nat}(h:k≤l.length):(Z0s l x k).set k x=l.take k++x :: l.drop k:=by
 unfold Z0s;rw [List.set_append_right _ _ (by simp;omega)];(have e:(k - (l.take k).length)=0:=by simp;omega);rw [e,List.set_cons_zero]
def Z3m (l:List α) (k i:Nat):List α:=l.take k++(l.drop (k+1)).take (i - k)++l.drop i
theorem Z3e (l:List α){k i:Nat}(h:k≤i) (h':i<l.length):(Z3m l k i).length=l.length:=by simp [Z3m];omega
theorem Zc0 (l:List α) (k:Nat):Z3m l k k=l:=by simp [Z3m]
theorem Zdc (l:List α){k i:Nat}(h:k≤i) (h':i+1<l.length) (h2:i+1<(Z3m l k i).length):(Z3m l k i)[i+1]=l[i+1]:=by
 apply Zp5;rw [←Znq,←Znq];unfold Z3m;rw [Zoh (by simp;omega),List.getElem?_drop];congr 1;simp;omega
theorem Zdd (l:List α){k i:Nat}(h:k≤i) (h':i+1<l.length):(Z3m l k i).set i l[i+1]=Z3m l k (i+1):=by
 apply List.ext_getElem?;intro j;have len:(Z3m l k i).length=l.length:=Z3e l h (by omega);by_cases e:j=i
 · subst e
   rw [List.getElem?_set_self (by omega)];unfold Z3m;rw [Zoi (by simp;omega),Zoh (by simp;omega),List.getElem?_take,List.getElem?_drop];rw [if_pos (by simp;omega)];(have:k+1+(j - (l.take k).length)=j+1:=by simp;omega);rw [this,Znq h']
 · rw [List.getElem?_set_ne (fun h=>e h.symm)]
   unfold Z3m;by_cases h1:j<k
   · rw [Zoc,Zoc,Zoi (by simp;omega),Zoi (by simp;omega)]
   · by_cases h2:j<i
     · rw [Zoi (by simp;omega),Zoh (by simp;omega),Zoi (by simp;omega),Zoh (by simp;omega)]
       rw [List.getElem?_take,List.getElem?_take,if_pos (by simp;omega),if_pos (by simp;omega)]
     · rw [Zoh (by simp;omega),Zoh (by simp;omega),List.getElem?_drop,List.getElem?_drop]
       congr 1;simp;omega
theorem Zfv (l:List α){k:Nat}(h:k<l.length):(Z3m l k (l.length - 1)).take (l.length - 1)=l.take k++l.drop (k+1):=by
 unfold Z3m;(have e:(l.take k++(l.drop (k+1)).take (l.length - 1 - k)).length=l.length - 1:=by simp;omega);have e2:(l.drop (k+1)).take (l.length - 1 - k)=l.drop (k+1):=List.take_of_length_le (by simp;omega);rw [List.take_append_of_le_length (by omega),List.take_of_length_le (by omega),e2]
end
def Z30 (a b:Int):Int:=if a<b then -1 else if b<a then 1 else 0
theorem Z5o:TC Z30:=by
 constructor
 · intro x;simp [Z30]
 · intro x y;simp only [Z30];split<;>split<;>simp<;>(try split)<;>omega
 · intro x y z;simp only [Z30];intro h1 h2;split at h1<;>split at h2<;>(try split at h1)<;>(try split at h2)<;>split<;>(try split)<;>omega
theorem Z5v {a b:Int}:Z30 a b=0↔a=b:=by simp only [Z30];split<;>(try split)<;>omega
theorem Z1w :∀x:List UInt8,Op.bytesLess x x=false
 | []=>rfl
 | a :: x=>by simp [Op.bytesLess,Z1w x]
theorem Z4g :∀{x y z:List UInt8},Op.bytesLess x y=true→Op.bytesLess y z=true→Op.bytesLess x z=true
 | _,[],_,h,_=>by simp [Op.bytesLess] at h
 | _,_ :: _,[],_,h=>by simp [Op.bytesLess] at h
 | [],_ :: _,_ :: _,_,_=>by simp [Op.bytesLess]
 | a :: x,b :: y,c :: z,h1,h2=>by
   simp only [Op.bytesLess,Zp3,Zod,Zp0,beq_iff_eq] at h1 h2 ⊢;rcases h1 with h1|⟨rfl,h1⟩
   · rcases h2 with h2|⟨rfl,h2⟩
     · exact .inl (UInt8.lt_trans h1 h2)
     · exact .inl h1
   · rcases h2 with h2|⟨rfl,h2⟩
     · exact .inl h2
     · exact .inr ⟨rfl,Z4g h1 h2⟩
theorem Z5u :∀(x y:List UInt8),Op.bytesLess x y=false→Op.bytesLess y x=false→x=y
 | [],[],_,_=>rfl
 | [],_ :: _,h,_=>by simp [Op.bytesLess] at h
 | _ :: _,[],_,h=>by simp [Op.bytesLess] at h
 | a :: x,b :: y,h1,h2=>by
   simp only [Op.bytesLess,Bool.or_eq_false_iff,decide_eq_false_iff_not,Bool.and_eq_false_iff,beq_eq_false_iff_ne] at h1 h2;obtain ⟨h1,h3⟩:=h1;obtain ⟨h2,h4⟩:=h2
   have e:a=b:=by
    apply UInt8.toNat_inj.1;simp only [UInt8.lt_iff_toNat_lt] at h1 h2;omega
   subst e;rw [Z5u x y (h3.resolve_left (fun h=>h rfl)) (h4.resolve_left (fun h=>h rfl))]
theorem Z8y {x y:List UInt8}(h:Op.bytesLess x y=true):Op.bytesLess y x=false:=by
 cases e:Op.bytesLess y x
 · rfl
 · have:=Z4g h e;rw [Z1w] at this;cases this
def Z2h (a b:ByteArray):Int:=if Op.bytesLess a.toList b.toList=true then -1 else if a.toList=b.toList then 0 else 1
theorem Zj3:TC Z2h:=by
 have key :∀a b:ByteArray,(Z2h a b = -1∧Op.bytesLess a.toList b.toList=true∧Op.bytesLess b.toList a.toList=false∧a.toList≠b.toList)∨
  (Z2h a b=0∧Op.bytesLess a.toList b.toList=false∧Op.bytesLess b.toList a.toList=false∧a.toList=b.toList)∨
  (Z2h a b=1∧Op.bytesLess a.toList b.toList=false∧Op.bytesLess b.toList a.toList=true∧a.toList≠b.toList):=by
  intro a b;unfold Z2h;cases h1:Op.bytesLess a.toList b.toList
  · cases h2:Op.bytesLess b.toList a.toList
    · have e:=Z5u _ _ h1 h2
      simp [e]
    · have hne:a.toList≠b.toList:=fun e=>by rw [e,Z1w] at h2;cases h2
      simp [hne]
  · have h2:=Z8y h1
    (have hne:a.toList≠b.toList:=fun e=>by rw [e,Z1w] at h1;cases h1);simp [h2,hne]
 constructor
 · intro x;simp [Z2h,Z1w]
 · intro x y
   rcases key x y with ⟨e,a,b,c⟩|⟨e,a,b,c⟩|⟨e,a,b,c⟩<;>rcases key y x with ⟨e',a',b',c'⟩|⟨e',a',b',c'⟩|⟨e',a',b',c'⟩<;>rw [e,e']<;>simp_all
 · intro x y z h1 h2
   rcases key x y with ⟨e,a,b,c⟩|⟨e,a,b,c⟩|⟨e,a,b,c⟩<;>rcases key y z with ⟨e',a',b',c'⟩|⟨e',a',b',c'⟩|⟨e',a',b',c'⟩<;>rw [e] at h1<;>rw [e'] at h2<;>(try omega)
   · have:=Z4g a a';unfold Z2h;rw [if_pos this];omega
   · rw [c'] at a;unfold Z2h;rw [if_pos a];omega
   · rw [←c] at a';unfold Z2h;rw [if_pos a'];omega
   · unfold Z2h;rw [c,c',if_neg (by rw [Z1w];simp),if_pos rfl];omega
theorem toList_inj {a b:ByteArray}(h:a.toList=b.toList):a=b:=by
 have e :∀x:ByteArray,x.toList=x.data.toList:=Lib.toList_data;rw [e,e] at h;cases a;cases b;simp only [ByteArray.mk.injEq];exact Array.toList_inj.1 h
theorem Zbx {a b:ByteArray}:Z2h a b=0↔a=b:=by
 constructor
 · intro h
   unfold Z2h at h
   split at h
   · omega
   · split at h
     · exact toList_inj ‹_›
     · omega
 · rintro rfl;simp [Z2h,Z1w]
def andThen (a b:Int):Int:=if a=0 then b else a
theorem Zai {α β γ:Type}{f:α→β}{g:α→γ}{c1:β→β→Int}{c2:γ→γ→Int}(h1:TC c1) (h2:TC c2):TC (fun x y=>andThen (c1 (f x) (f y)) (c2 (g x) (g y))):=by
 constructor
 · intro x;simp [andThen,h1.refl,h2.refl]
 · intro x y
   have a:=h1.symm (f x) (f y);have b:=h1.symm (f y) (f x);have c:=h2.symm (g x) (g y);simp only [andThen]
   split<;>split<;>omega
 · intro x y z e1 e2
   simp only [andThen] at e1 e2 ⊢;by_cases p:c1 (f x) (f y)=0
   · rw [if_pos p] at e1
     by_cases q:c1 (f y) (f z)=0
     · rw [if_pos q] at e2
       have r:c1 (f x) (f z)=0:=by
        have r1:=h1.trans (f x) (f y) (f z) (by omega) (by omega);have r2:=h1.trans (f z) (f y) (f x) (by have:=h1.eq_symm q;omega) (by have:=h1.eq_symm p;omega);have a:=h1.symm (f x) (f z);have b:=h1.symm (f z) (f x);omega
       rw [if_pos r];exact h2.trans _ _ _ e1 e2
     · rw [if_neg q] at e2
       have:=h1.lt_of_le_of_lt (x:=f x) (y:=f y) (z:=f z) (by omega) (by omega);rw [if_neg (by omega)];omega
   · rw [if_neg p] at e1
     have hq:c1 (f y) (f z)≤0:=by
      by_cases q:c1 (f y) (f z)=0
      · omega
      · rw [if_neg q] at e2;exact e2
     have:=h1.lt_of_lt_of_le (x:=f x) (y:=f y) (z:=f z) (by omega) hq;rw [if_neg (by omega)];omega
structure Sym where
 kind:Int
 text:ByteArray
 n:Int
theorem Sym.ext' {a b:Sym}(h1:a.kind=b.kind) (h2:a.text=b.text) (h3:a.n=b.n):a=b:=by cases a;cases b;simp_all
instance:DecidableEq Sym:=fun a b=>decidable_of_iff (a.kind=b.kind∧a.text=b.text∧a.n=b.n) ⟨fun ⟨h1,h2,h3⟩=>Sym.ext' h1 h2 h3,fun h=>by subst h;exact ⟨rfl,rfl,rfl⟩⟩
instance:Inhabited Sym:=⟨⟨0,⟨#[]⟩,0⟩⟩
def Z1h (a b:Sym):Int:=andThen (Z30 a.kind b.kind) (andThen (Z2h a.text b.text) (Z30 a.n b.n))
theorem Z6e:TC Z1h:=Zai (f:=Sym.kind) (g:=fun s:Sym=>(s.text,s.n)) (c2:=fun x y=>andThen (Z2h x.1 y.1) (Z30 x.2 y.2)) Z5o
 (Zai (f:=fun x:ByteArray×Int=>x.1) (g:=fun x:ByteArray×Int=>x.2) Zj3 Z5o)
end
end Go.Proofs.YtfidcfjcmlgkbaaGreat
