/-
  Texts put together: Mem, Open, Eager, Range.
-/
import Derived.Test.YtcnnofgaifcgaaaGreatPTL
namespace Go.Proofs.YtcnnofgaifcgaaaGreat
section
open Go.RowKit Go.Shelf Go
abbrev Zst:=@Below.refl
abbrev Zsu:=@Nat.le_refl
abbrev Zsv:=@List.filterMap_nil
abbrev Zsw:=@Nat.lt_of_lt_of_le
abbrev Zsx:=@decide_eq_false
abbrev Zsy:=@World.rangeAt_setCells_same
abbrev Zsz:=@List.getElem?_cons_succ
abbrev Zt0:=@List.getElem?_cons_zero
abbrev Zt1:=@List.getElem?_toArray
abbrev Zt2:=@List.filterMap_cons
abbrev Zt3:=@List.getElem?_eq_getElem
abbrev Zt4:=@Option.map_some
abbrev Zt5:=@World.block_lt_of_cell?
abbrev Zt6:=@Nat.le_trans
abbrev Zt7:=@Array.getElem?_eq_some_iff
abbrev Zt8:=@IntWalk.i64_in
abbrev Zt9:=@decide_eq_true
abbrev Zta:=@List.flatMap_append
abbrev Ztb:=@List.mem_cons
abbrev Ztc:=@List.take_length
abbrev Ztd:=@List.length_append
abbrev Zte:=@World.news_of_block
abbrev Ztf:=@List.getElem_mem
abbrev Ztg:=@List.length_cons
abbrev Zth:=@List.not_mem_nil
abbrev Zti:=@World.size_alloc
abbrev Ztj:=@World.putObj_heap_other
abbrev Ztk:=@List.nil_append
abbrev Ztl:=@List.length_map
abbrev Ztm:=@List.map_append
abbrev Ztn:=@List.getElem?_append_right
abbrev Zto:=@List.getElem?_append_left
abbrev Ztp:=@List.getElem?_eq_some_iff
abbrev Ztq:=@List.take_add_one
abbrev Ztr:=@Bool.and_eq_true
abbrev Zts:=@Nat.zero_add
abbrev Ztt:=@List.drop_eq_getElem_cons
abbrev Ztu:=@List.mem_append
abbrev Ztv:=@List.cons_append
abbrev Ztw:=@Array.replicate_succ
abbrev Ztx:=@Array.replicate_zero
abbrev Zty:=@List.length_eq_zero_iff
abbrev Ztz:=@Classical.byContradiction
abbrev Zu0:=@List.append_toArray
abbrev Zu1:=@List.length_nil
abbrev Zu2:=@List.all_eq_true
abbrev Zu3:=@List.length_take
abbrev Zu4:=@List.push_toArray
abbrev Zu5:=@List.size_toArray
abbrev Zu6:=@List.flatMap_cons
abbrev Zu7:=@List.any_eq_true
abbrev Zu8:=@List.append_assoc
abbrev Zu9:=@List.append_nil
abbrev Zua:=@List.mem_singleton
abbrev Zub:=@Nat.add_assoc
abbrev Zuc:=@List.drop_length
abbrev Zud:=@Option.some.inj
abbrev Zue:=@World.alloc_heap_new
abbrev Zuf:=@decide_eq_true_eq
abbrev Zug:=@List.mem_cons_of_mem
abbrev Zuh:=@Below.heap_alloc
abbrev Zui:=@Bool.or_eq_true
abbrev Zuj:=@List.mem_cons_self
end
set_option maxRecDepth 100000
set_option maxHeartbeats 32000000
set_option linter.unusedSimpArgs false
section
open Go.RowKit
theorem Z0i {W w1:World}(hb:Below W.heap.size W w1):(∀b o,b<W.heap.size→w1.cell? ⟨b,o,none⟩=W.cell? ⟨b,o,none⟩)∧(∀b o,b<W.heap.size→w1.frozen? ⟨b,o,none⟩=W.frozen? ⟨b,o,none⟩):=
 ⟨fun b o h=>hb.cell (p:=⟨b,o,none⟩) h,fun b o h=>hb.frozen (p:=⟨b,o,none⟩) h⟩
theorem Below.drewN' {B:Nat}{a w:World}(h:Below B a w) (n:Nat):Below B a (w.drewN n):=⟨h.os,h.tape,h.output,h.size,h.block⟩
theorem Below.al {B:Nat}{a w:World}(h:Below B a w) (o:Obj) (hB:B≤w.heap.size:=by first|omega|(simp;done)|(simp;omega)):Below B a (w.alloc o):=h.alloc hB o
theorem Below.sc {B:Nat}{a w:World}{p:Addr}(h:Below B a w) (u:Value) (hB:B≤p.block:=by first|omega|(simp;done)|(simp;omega)):Below B a (w.setCell p u):=h.setCell hB u
structure Fr (M:Nat→Prop) (w w':World):Prop where
 os:w'.os=w.os
 tape:w'.tape=w.tape
 output:w'.output=w.output
 size:w.heap.size≤w'.heap.size
 block :∀k,k<w.heap.size→¬M k→w'.heap[k]? = w.heap[k]?
section
variable {M M':Nat→Prop}{a b c w w':World}
theorem Fr.refl (M:Nat→Prop) (w:World):Fr M w w:=⟨rfl,rfl,rfl,Zsu _,fun _ _ _=>rfl⟩
theorem Fr.trans (h:Fr M a b) (k:Fr M b c):Fr M a c:=
 ⟨k.os.trans h.os,k.tape.trans h.tape,k.output.trans h.output,Zt6 h.size k.size,fun i hi hn=>(k.block i (Zsw hi h.size) hn).trans (h.block i hi hn)⟩
theorem Fr.mono (h:Fr M a b) (hm :∀k,k<a.heap.size→M k→M' k):Fr M' a b:=⟨h.os,h.tape,h.output,h.size,fun k hk hn=>h.block k hk (fun h=>hn (hm k hk h))⟩
theorem Fr.of_below {B:Nat}(h:Below B a b):Fr (fun k=>B≤k) a b:=⟨h.os,h.tape,h.output,h.size,fun k _ hn=>h.block k Ya⟩
theorem Fr.of_new (h:Below a.heap.size a b):Fr M a b:=⟨h.os,h.tape,h.output,h.size,fun k hk _=>h.block k hk⟩
theorem Fr.below {B:Nat}(h:Fr M a b) (hB:B≤a.heap.size) (hm :∀k,k<B→¬M k):Below B a b:=⟨h.os,h.tape,h.output,h.size,fun k hk=>h.block k Ya (hm k hk)⟩
theorem Fr.alloc (h:Fr M a b) (o:Obj):Fr M a (b.alloc o):=
 ⟨h.os,h.tape,h.output,Zt6 h.size Ye,fun k hk hn=>(Zuh b o k (Zsw hk h.size)).trans (h.block k hk hn)⟩
theorem Fr.drew (h:Fr M a b):Fr M a b.drew:=⟨h.os,h.tape,h.output,h.size,h.block⟩
theorem Fr.setCell (h:Fr M a b){p:Addr}(hp:M p.block∨a.heap.size≤p.block) (u:Value):Fr M a (b.setCell p u):=
 ⟨h.os,h.tape,h.output,by simpa [World.setCell] using h.size,fun k hk hn=>(Below.heap_setCell b p u k (by
  rintro rfl;rcases hp with hp|hp
  · exact hn hp
  · omega)).trans (h.block k hk hn)⟩
theorem Fr.grown {row:Option Nat}(h:Fr M a b) (hg:b.grownBy c row) (hr :∀k,row=some k→M k∨a.heap.size≤k):Fr M a c:=
 ⟨hg.os.trans h.os,hg.tape.trans h.tape,hg.output.trans h.output,Zt6 h.size hg.size,fun k hk hn=>(hg.block k (Zsw hk h.size) (fun e=>by
  rcases hr k e.symm with h'|h'
  · exact hn h'
  · omega)).trans (h.block k hk hn)⟩
theorem Fr.into (h:Fr M a b) (k:Fr M' b c) (hm :∀i,M' i→M i∨a.heap.size≤i):Fr M a c:=
 ⟨k.os.trans h.os,k.tape.trans h.tape,k.output.trans h.output,Zt6 h.size k.size,fun i hi hn=>(k.block i (Zsw hi h.size) (fun hM=>by
  rcases hm i hM with h'|h'
  · exact hn h'
  · omega)).trans (h.block i hi hn)⟩
theorem Fr.cell (h:Fr M w w'){p:Addr}(hp:p.block<w.heap.size) (hn :¬M p.block):w'.cell? p=w.cell? p:=World.cell?_of_block (h.block _ hp hn)
end
def Blk (w:World) (g:Nat) (t:TypeId) (cs:Array Value):Prop:=w.heap[g]? = some (.cells cs t (0,0))
section
variable {w w':World}{g:Nat}{t:TypeId}{cs:Array Value}
theorem Blk.lt (h:Blk w g t cs):g<w.heap.size:=by
 rcases Nat.lt_or_ge g w.heap.size with hlt|hge
 · exact hlt
 · unfold Blk at h;rw [Array.getElem?_eq_none hge] at h;cases h
theorem Blk.cell (h:Blk w g t cs) (i:Nat):w.cell? ⟨g,i,none⟩=cs[i]?:=cell_of_row w g i cs t (0,0) h
theorem Blk.c1 {v0:Value}(h:Blk w g t #[v0]):w.cell? ⟨g,0,none⟩=some v0:=(h.cell 0).trans rfl
theorem Blk.c3 {v0 v1 v2:Value}(h:Blk w g t #[v0,v1,v2]):w.cell? ⟨g,0,none⟩=some v0∧w.cell? ⟨g,1,none⟩=some v1∧w.cell? ⟨g,2,none⟩=some v2:=⟨(h.cell 0).trans rfl,(h.cell 1).trans rfl,(h.cell 2).trans rfl⟩
theorem Blk.c4 {v0 v1 v2 v3:Value}(h:Blk w g t #[v0,v1,v2,v3]):w.cell? ⟨g,0,none⟩=some v0∧w.cell? ⟨g,1,none⟩=some v1∧w.cell? ⟨g,2,none⟩=some v2∧w.cell? ⟨g,3,none⟩=some v3:=⟨(h.cell 0).trans rfl,(h.cell 1).trans rfl,(h.cell 2).trans rfl,(h.cell 3).trans rfl⟩
theorem Blk.c6 {v0 v1 v2 v3 v4 v5:Value}(h:Blk w g t #[v0,v1,v2,v3,v4,v5]):w.cell? ⟨g,0,none⟩=some v0∧w.cell? ⟨g,1,none⟩=some v1∧w.cell? ⟨g,2,none⟩=some v2∧w.cell? ⟨g,3,none⟩=some v3∧w.cell? ⟨g,4,none⟩=some v4∧w.cell? ⟨g,5,none⟩=some v5:=⟨(h.cell 0).trans rfl,(h.cell 1).trans rfl,(h.cell 2).trans rfl,(h.cell 3).trans rfl,(h.cell 4).trans rfl,(h.cell 5).trans rfl⟩
theorem Blk.c7 {v0 v1 v2 v3 v4 v5 v6:Value}(h:Blk w g t #[v0,v1,v2,v3,v4,v5,v6]):w.cell? ⟨g,0,none⟩=some v0∧w.cell? ⟨g,1,none⟩=some v1∧w.cell? ⟨g,2,none⟩=some v2∧w.cell? ⟨g,3,none⟩=some v3∧w.cell? ⟨g,4,none⟩=some v4∧w.cell? ⟨g,5,none⟩=some v5∧w.cell? ⟨g,6,none⟩=some v6:=⟨(h.cell 0).trans rfl,(h.cell 1).trans rfl,(h.cell 2).trans rfl,(h.cell 3).trans rfl,(h.cell 4).trans rfl,(h.cell 5).trans rfl,(h.cell 6).trans rfl⟩
theorem Blk.c12 {v0 v1 v2 v3 v4 v5 v6 v7 v8 v9 v10 v11:Value}(h:Blk w g t #[v0,v1,v2,v3,v4,v5,v6,v7,v8,v9,v10,v11]):w.cell? ⟨g,0,none⟩=some v0∧w.cell? ⟨g,1,none⟩=some v1∧w.cell? ⟨g,2,none⟩=some v2∧w.cell? ⟨g,3,none⟩=some v3∧w.cell? ⟨g,4,none⟩=some v4∧w.cell? ⟨g,5,none⟩=some v5∧w.cell? ⟨g,6,none⟩=some v6∧w.cell? ⟨g,7,none⟩=some v7∧w.cell? ⟨g,8,none⟩=some v8∧w.cell? ⟨g,9,none⟩=some v9∧w.cell? ⟨g,10,none⟩=some v10∧w.cell? ⟨g,11,none⟩=some v11:=⟨(h.cell 0).trans rfl,(h.cell 1).trans rfl,(h.cell 2).trans rfl,(h.cell 3).trans rfl,(h.cell 4).trans rfl,(h.cell 5).trans rfl,(h.cell 6).trans rfl,(h.cell 7).trans rfl,(h.cell 8).trans rfl,(h.cell 9).trans rfl,(h.cell 10).trans rfl,(h.cell 11).trans rfl⟩
theorem Blk.c16 {v0 v1 v2 v3 v4 v5 v6 v7 v8 v9 v10 v11 v12 v13 v14 v15:Value}(h:Blk w g t #[v0,v1,v2,v3,v4,v5,v6,v7,v8,v9,v10,v11,v12,v13,v14,v15]):w.cell? ⟨g,0,none⟩=some v0∧w.cell? ⟨g,1,none⟩=some v1∧w.cell? ⟨g,2,none⟩=some v2∧w.cell? ⟨g,3,none⟩=some v3∧w.cell? ⟨g,4,none⟩=some v4∧w.cell? ⟨g,5,none⟩=some v5∧w.cell? ⟨g,6,none⟩=some v6∧w.cell? ⟨g,7,none⟩=some v7∧w.cell? ⟨g,8,none⟩=some v8∧w.cell? ⟨g,9,none⟩=some v9∧w.cell? ⟨g,10,none⟩=some v10∧w.cell? ⟨g,11,none⟩=some v11∧w.cell? ⟨g,12,none⟩=some v12∧w.cell? ⟨g,13,none⟩=some v13∧w.cell? ⟨g,14,none⟩=some v14∧w.cell? ⟨g,15,none⟩=some v15:=⟨(h.cell 0).trans rfl,(h.cell 1).trans rfl,(h.cell 2).trans rfl,(h.cell 3).trans rfl,(h.cell 4).trans rfl,(h.cell 5).trans rfl,(h.cell 6).trans rfl,(h.cell 7).trans rfl,(h.cell 8).trans rfl,(h.cell 9).trans rfl,(h.cell 10).trans rfl,(h.cell 11).trans rfl,(h.cell 12).trans rfl,(h.cell 13).trans rfl,(h.cell 14).trans rfl,(h.cell 15).trans rfl⟩
theorem Blk.c19 {v0 v1 v2 v3 v4 v5 v6 v7 v8 v9 v10 v11 v12 v13 v14 v15 v16 v17 v18:Value}(h:Blk w g t #[v0,v1,v2,v3,v4,v5,v6,v7,v8,v9,v10,v11,v12,v13,v14,v15,v16,v17,v18]):w.cell? ⟨g,0,none⟩=some v0∧w.cell? ⟨g,1,none⟩=some v1∧w.cell? ⟨g,2,none⟩=some v2∧w.cell? ⟨g,3,none⟩=some v3∧w.cell? ⟨g,4,none⟩=some v4∧w.cell? ⟨g,5,none⟩=some v5∧w.cell? ⟨g,6,none⟩=some v6∧w.cell? ⟨g,7,none⟩=some v7∧w.cell? ⟨g,8,none⟩=some v8∧w.cell? ⟨g,9,none⟩=some v9∧w.cell? ⟨g,10,none⟩=some v10∧w.cell? ⟨g,11,none⟩=some v11∧w.cell? ⟨g,12,none⟩=some v12∧w.cell? ⟨g,13,none⟩=some v13∧w.cell? ⟨g,14,none⟩=some v14∧w.cell? ⟨g,15,none⟩=some v15∧w.cell? ⟨g,16,none⟩=some v16∧w.cell? ⟨g,17,none⟩=some v17∧w.cell? ⟨g,18,none⟩=some v18:=⟨(h.cell 0).trans rfl,(h.cell 1).trans rfl,(h.cell 2).trans rfl,(h.cell 3).trans rfl,(h.cell 4).trans rfl,(h.cell 5).trans rfl,(h.cell 6).trans rfl,(h.cell 7).trans rfl,(h.cell 8).trans rfl,(h.cell 9).trans rfl,(h.cell 10).trans rfl,(h.cell 11).trans rfl,(h.cell 12).trans rfl,(h.cell 13).trans rfl,(h.cell 14).trans rfl,(h.cell 15).trans rfl,(h.cell 16).trans rfl,(h.cell 17).trans rfl,(h.cell 18).trans rfl⟩
theorem Blk.frozen (h:Blk w g t cs) (i:Nat):w.frozen? ⟨g,i,none⟩=false:=by unfold Blk at h;simp [World.frozen?,h]
theorem Blk.new (w:World) (t:TypeId) (cs:Array Value):Blk (w.alloc (.cells cs t)) w.heap.size t cs:=heap_alloc_new w _
theorem Blk.drew (h:Blk w g t cs):Blk w.drew g t cs:=h
theorem Blk.alloc (h:Blk w g t cs) (o:Obj):Blk (w.alloc o) g t cs:=(Zuh w o g h.lt).trans h
theorem Blk.set_ (h:Blk w g t cs) (i:Nat) (u:Value):Blk (w.setCell ⟨g,i,none⟩ u) g t (cs.setIfInBounds i u):=by
 unfold Blk at h ⊢;simp [World.setCell,Array.getElem?_modify,h]
theorem Blk.far (h:Blk w g t cs){p:Addr}(hp:g≠p.block) (u:Value):Blk (w.setCell p u) g t cs:=(Below.heap_setCell w p u g hp).trans h
theorem Blk.below {B:Nat}(h:Blk w g t cs) (hb:Below B w w') (hg:g<B):Blk w' g t cs:=(hb.block g hg).trans h
theorem Blk.new_ (h:Blk w g t cs) (hb:Below w.heap.size w w'):Blk w' g t cs:=h.below hb h.lt
theorem Blk.fr {M:Nat→Prop}(h:Blk w g t cs) (hb:Fr M w w') (hg :¬M g):Blk w' g t cs:=(hb.block g h.lt hg).trans h
theorem Blk.grown {row:Option Nat}(h:Blk w g t cs) (hb:w.grownBy w' row) (hg:row≠some g):Blk w' g t cs:=(hb.block g h.lt (fun e=>hg e.symm)).trans h
theorem Blk.ne_ {g':Nat}{t':TypeId}{cs':Array Value}(h:Blk w g t cs) (h':Blk w g' t' cs') (hne:t≠t'):g≠g':=by
 rintro rfl;unfold Blk at h h';rw [h] at h';injection h' with h';injection h' with _ ht;exact hne ht
theorem Z01 {base:Nat}{e:TypeId}{size n:Nat}{v:Value}{xs:List Value}(h:w.ownsRow base e size v n xs) (hg:Blk w g t cs) (hne:e≠t):v.ownBlock≠some g:=by
 rcases h.2 with ⟨rfl,_⟩|⟨g',cap,cur,rfl,_,hh,_⟩
 · simp [Value.ownBlock]
 · intro he
   (have:g'=g:=by simpa [Value.ownBlock] using he);subst this;exact Blk.ne_ (t:=e) hh hg hne rfl
end
def Z0y {α:Type}(w:World) (size:Nat) (cells:α→List Value) (A:Option Addr) (c:Nat) (l:List α):Prop:=
 l.length≤c∧c≤maxLen∧
  (0<l.length→∃b off,A=some ⟨b,off,none⟩∧b<w.heap.size∧∀k,(h:k<l.length)→∀j u,(cells l[k])[j]? = some u→w.cell? ⟨b,off+k*size+j,none⟩=some u)
def AIn (A:Option Addr) (S:Nat→Prop):Prop:=∀a,A=some a→S a.block
section
variable {α:Type}{w w':World}{size c:Nat}{cells:α→List Value}{A:Option Addr}{l:List α}
theorem AIn.mono {S S':Nat→Prop}(h:AIn A S) (hs :∀k,S k→S' k):AIn A S':=fun a e=>hs _ (h a e)
theorem AIn.none_ (S:Nat→Prop):AIn none S:=fun _ e=>by cases e
theorem Z0y.nil (w:World) (size:Nat) (cells:α→List Value):Z0y w size cells none 0 ([]:List α):=⟨Zsu _,Nat.zero_le _,fun h=>absurd h Ye⟩
theorem Z0y.at_ (h:Z0y w size cells A c l){k:Nat}(hk:k<l.length):∃b off,A=some ⟨b,off,none⟩∧b<w.heap.size∧∀j u,(cells l[k])[j]? = some u→w.cell? ⟨b,off+k*size+j,none⟩=some u:=by
 obtain ⟨b,off,h1,h2,h3⟩:=h.2.2 Ya;exact ⟨b,off,h1,h2,h3 k hk⟩
theorem Z0y.keep (h:Z0y w size cells A c l) (hs:w.heap.size≤w'.heap.size) (hk :∀p:Addr,p.block<w.heap.size→(∃a,A=some a∧a.block=p.block)→w'.cell? p=w.cell? p):Z0y w' size cells A c l:=by
 refine ⟨h.1,h.2.1,fun h0=>?_⟩;obtain ⟨b,off,rfl,hb,hc⟩:=h.2.2 h0;exact ⟨b,off,rfl,Ya,fun k hk' j u hu=>(hk ⟨b,off+k*size+j,none⟩ hb ⟨_,rfl,rfl⟩).trans (hc k hk' j u hu)⟩
theorem Z0y.new_ (h:Z0y w size cells A c l) (hb:Below w.heap.size w w'):Z0y w' size cells A c l:=h.keep hb.size (fun _ hp _=>hb.cell hp)
theorem Z0y.fr {M:Nat→Prop}(h:Z0y w size cells A c l) (hb:Fr M w w') (hm:AIn A (fun k=>¬M k)):Z0y w' size cells A c l:=
 h.keep hb.size (fun _ hp ⟨a,ha,hb'⟩=>hb.cell hp (by rw [←hb'];exact hm a ha))
theorem Z0y.drew (h:Z0y w size cells A c l):Z0y w.drew size cells A c l:=h
theorem Z0y.alloc (h:Z0y w size cells A c l) (o:Obj):Z0y (w.alloc o) size cells A c l:=h.new_ ((Zst _ _).alloc (Zsu _) _)
theorem Z0y.cap (h:Z0y w size cells A c l):l.length≤9223372036854775807:=by have:=h.1;have:=h.2.1;unfold maxLen at this;omega
theorem Z0y.of_cells {b off:Nat}(h1:l.length≤c) (h2:c≤maxLen) (hb:b<w.heap.size) (h :∀k,(h:k<l.length)→∀j u,(cells l[k])[j]? = some u→w.cell? ⟨b,off+k*size+j,none⟩=some u):Z0y w size cells (some ⟨b,off,none⟩) c l:=
 ⟨h1,h2,fun _=>⟨b,off,rfl,hb,h⟩⟩
end
theorem Z5z {α:Type}{cells:α→List Value}{size:Nat}(hsz :∀x,(cells x).length=size):∀(l:List α) (k:Nat) (h:k<l.length) (j:Nat),j<size→(l.flatMap cells)[k*size+j]? = (cells l[k])[j]?
 | x :: l,0,_,j,hj=>by
   rw [Zu6,Zto (by rw [hsz];omega)];simp
 | x :: l,k+1,h,j,hj=>by
   rw [Zu6,Ztn (by rw [hsz,Nat.add_mul];omega),hsz];rw [show (k+1)*size+j - size=k*size+j by rw [Nat.add_mul];omega];exact Z5z hsz l k YIz j hj
theorem Z0u {α:Type}{cells:α→List Value}{size:Nat}(hsz :∀x,(cells x).length=size):∀(l:List α),(l.flatMap cells).length=l.length*size
 | []=>Ye
 | x :: l=>by rw [Zu6,Ztd,hsz,Z0u hsz l];simp [Nat.add_mul];omega
theorem Zl3 {α:Type}{cells:α→List Value}{size:Nat}(hsz :∀x,(cells x).length=size) (l:List α) (i:Nat) (u:Value) (hu:(l.flatMap cells)[i]? = some u) (h0:0<size) :
 ∃k j,∃h:k<l.length,i=k*size+j∧j<size∧(cells l[k])[j]? = some u:=by
 have hi:i<l.length*size:=by
  have:=(Ztp.1 hu).1;rwa [Z0u hsz] at this
 have hk:i / size<l.length:=Nat.div_lt_of_lt_mul (by rw [Nat.mul_comm];exact hi);have hj:i % size<size:=Nat.mod_lt _ h0;(have e:i=i / size*size+i % size:=by rw [Nat.mul_comm];exact (Nat.div_add_mod i size).symm);refine ⟨i / size,i % size,hk,e,hj,?_⟩;rw [←Z5z hsz l _ hk _ hj,←e];exact hu
def Room (w:World) (g:Nat) (e:TypeId) (cells:Nat):Prop:=∃cur,w.heap[g]? = some (.cells cur e (0,0))∧cur.size=cells
section
variable {w w':World}{g:Nat}{e:TypeId}{m size n cap:Nat}{v:Value}{xs:List Value}
theorem Room.lt (h:Room w g e m):g<w.heap.size:=by obtain ⟨cur,h,_⟩:=h;exact Blk.lt (t:=e) h
theorem Room.frozen (h:Room w g e m) (i:Nat):w.frozen? ⟨g,i,none⟩=false:=by obtain ⟨cur,h,_⟩:=h;exact Blk.frozen (t:=e) h i
theorem Room.drew (h:Room w g e m):Room w.drew g e m:=h
theorem Room.cell (h:Room w g e m){i:Nat}(hi:i<m):∃u,w.cell? ⟨g,i,none⟩=some u:=by
 obtain ⟨cur,h,hs⟩:=h;exact ⟨cur[i]' Ya,by rw [Blk.cell (t:=e) h];exact Array.getElem?_eq_getElem Ya⟩
theorem Z0f (h:w.ownsRow 0 e size v n xs):(v = .slice none 0 0∧n=0∧xs = [])∨∃g cap,v = .slice (some ⟨g,0,none⟩) n cap∧n≤cap∧cap≤maxLen∧Room w g e (cap*size)∧xs.length=n*size∧∀i u,xs[i]? = some u→w.cell? ⟨g,i,none⟩=some u:=by
 obtain ⟨h1,h2⟩:=h;rcases h2 with ⟨rfl,rfl⟩|⟨g,cap,cur,rfl,_,hg,hn,hc,hs,ht⟩
 · exact .inl ⟨rfl,rfl,List.eq_nil_of_length_eq_zero (by simpa using h1)⟩
 · refine .inr ⟨g,cap,rfl,hn,hc,⟨cur,hg,hs⟩,h1,fun i u hu=>?_⟩
   rw [Blk.cell (t:=e) hg,←hu,←ht];have hi:i<xs.length:=(Ztp.1 hu).1;rw [h1] at hi;simp [hi]
theorem Zjh (hr:Room w g e (cap*size)) (hn:n≤cap) (hc:cap≤maxLen) (hx:xs.length=n*size) (h :∀i u,xs[i]? = some u→w.cell? ⟨g,i,none⟩=some u):w.ownsRow 0 e size (.slice (some ⟨g,0,none⟩) n cap) n xs:=by
 obtain ⟨cur,hg,hs⟩:=hr;refine ⟨hx,.inr ⟨g,cap,cur,rfl,Nat.zero_le _,hg,hn,hc,hs,?_⟩⟩;apply List.ext_getElem?;intro i;by_cases hi:i<n*size
 · have hxi:i<xs.length:=by omega
   have h1:=h i xs[i] (Zt3 hxi);rw [Blk.cell (t:=e) hg] at h1;rw [Zt3 hxi];simp [hi,h1]
 · rw [List.getElem?_eq_none Yk,List.getElem?_eq_none Ya]
theorem Z0e {α:Type}{cells:α→List Value}(hsz :∀x,(cells x).length=size){l:List α}{A:Option Addr}{c:Nat}(h:w.ownsRow 0 e size (.slice A l.length c) l.length (l.flatMap cells)):Z0y w size cells A c l:=by
 rcases Z0f h with ⟨hv,hn,_⟩|⟨g,cap,hv,hn,hc,hr,hx,hcell⟩
 · injection hv with _ _ hc
   exact ⟨Ya,Ya,fun h0=>Ya⟩
 · injection hv with hA _ hc'
   subst hA;subst hc';refine ⟨hn,hc,fun _=>⟨g,0,rfl,hr.lt,fun k hk j u hu=>?_⟩⟩;(have hj:j<size:=by have:=(Ztp.1 hu).1;rwa [hsz] at this);have:=hcell (k*size+j) u (by rw [Z5z hsz l k hk j hj];exact hu);exact Yuu
theorem Z0s {M:Nat→Prop}(h:w.ownsRow 0 e size v n xs) (hb:Fr M w w') (hm :∀g,v.ownBlock=some g→¬M g):w'.ownsRow 0 e size v n xs:=by
 refine ⟨h.1,h.2.imp id fun ⟨g,cap,cur,hv,h0,hg,hr⟩=>⟨g,cap,cur,hv,h0,?_,hr⟩⟩;exact Blk.fr (t:=e) hg hb (hm g (by rw [hv];rfl))
theorem Z02 (h:w.ownsRow 0 e size v n xs) (hb:Below w.heap.size w w'):w'.ownsRow 0 e size v n xs:=by
 refine ⟨h.1,h.2.imp id fun ⟨g,cap,cur,hv,h0,hg,hr⟩=>⟨g,cap,cur,hv,h0,?_,hr⟩⟩;exact Blk.new_ (t:=e) hg hb
end
theorem Z7e {α:Type}{cells:α→List Value}{w:World}{g:Nat}{e:TypeId}{size n cap:Nat}(hsz :∀x,(cells x).length=size) (h0:0<size){l:List α}(h:w.ownsRow 0 e size (.slice (some ⟨g,0,none⟩) n cap) n (l.flatMap cells)){m:Nat}(hm:m≤n) (hl:l.length=n) :
 w.ownsRow 0 e size (.slice (some ⟨g,0,none⟩) m cap) m ((l.take m).flatMap cells):=by
 rcases Z0f h with ⟨hv,_⟩|⟨g',cap',hv,hn,hc,hr,hx,hcell⟩
 · cases hv
 · injection hv with hA _ hc'
   injection hA with hA;injection hA with hA;subst hA;subst hc';refine Zjh hr Ya hc (by rw [Z0u hsz,Zu3,Nat.min_eq_left Ya]) (fun i u hu=>?_);obtain ⟨k,j,hk,rfl,hj,hu'⟩:=Zl3 hsz _ i u hu h0;(have hk':k<l.length:=by simp at hk;omega);refine hcell _ u ?_;rw [Z5z hsz l k hk' j hj];rw [List.getElem_take] at hu';exact hu'
theorem Z2m {w:World}{g:Nat}{e:TypeId}{size n cap:Nat}{xs:List Value}(h:w.ownsRow 0 e size (.slice (some ⟨g,0,none⟩) n cap) n xs):Room w g e (cap*size)∧n≤cap∧cap≤maxLen:=by
 rcases Z0f h with ⟨hv,_⟩|⟨g',cap',hv,hn,hc,hr,_⟩
 · cases hv
 · injection hv with hA _ hc'
   injection hA with hA;injection hA with hA;subst hA;subst hc';exact ⟨hr,hn,hc⟩
section
variable {P:Program}(w:World)
theorem Z7f (t ty e:TypeId) (i:TypeInfo) (z:Value) (size bytes:Nat) (ht:P.underlying t=some (.slice e)) (hi:P.info? e=some i) (hz:i.zero=some z)
 (hsize:i.size=size) (hby:i.bytes=bytes) (hzs:z.cells.size=size) (hsz:0<size)
 (v:Value) (n:Nat) (xs:List Value) (hown:w.ownsRow 0 e size v n xs) (A:Option Addr) (m c:Nat) (news:List Value) (hl:news.length=m*size)
 (hnews:0<m→∃ad,A=some ad∧∀j u,news[j]? = some u→w.cell? (ad.add j)=some u) (h1 :∀u∈news,u.oneCell'=true)
 (h63:n+m≤maxLen) (hbytes:(n+m)*bytes≤140737488355328) :
 ∃v' w',(Builtin.append_ #[t,t] ty #[v,.slice A m c]).run P w = .ok v' w'∧w'.ownsRow 0 e size v' (n+m) (xs++news)∧w.grownBy w' v.ownBlock∧
  (v' = .slice none 0 0↔v = .slice none 0 0∧m=0)∧(v'.ownBlock=v.ownBlock∨v'.ownBlock=some w.heap.size):=by
 rcases Nat.eq_zero_or_pos m with rfl|hm
 · have hn:news = []:=List.eq_nil_of_length_eq_zero YPw
   subst hn;rcases A with _|ad
   · exact Yfw
   · exact run_append_own_at w 0 t ty e i z size bytes ht hi hz hsize hby hzs hsz v n xs hown ad 0 c [] Ye Ye Ye h63 hbytes (Nat.zero_le _)
 · obtain ⟨ad,rfl,hc⟩:=hnews hm
   exact run_append_own_at w 0 t ty e i z size bytes ht hi hz hsize hby hzs hsz v n xs hown ad m c news hl hc h1 h63 hbytes (Nat.zero_le _)
theorem Z8c {o:Oper}{a:Act}{K:Act→World→Prop}{Q:Exit→Act→World→Prop}(s x:Operand) (t:TypeId)
 (ho:o.op = .call { callee:=.builtin .append,args:=#[s,x],argTypes:=#[t,t] })
 (e:TypeId) (i:TypeInfo) (z:Value) (size bytes:Nat) (ht:P.underlying t=some (.slice e)) (hi:P.info? e=some i) (hz:i.zero=some z)
 (hsize:i.size=size) (hby:i.bytes=bytes) (hzs:z.cells.size=size) (hsz:0<size)
 (v:Value) (n:Nat) (xs:List Value) (hs:a.eval s=v) (hown:w.ownsRow 0 e size v n xs)
 (A:Option Addr) (m c:Nat) (news:List Value) (hx:a.eval x = .slice A m c) (hl:news.length=m*size)
 (hnews:0<m→∃ad,A=some ad∧∀j u,news[j]? = some u→w.cell? (ad.add j)=some u) (h1 :∀u∈news,u.oneCell'=true)
 (h63:n+m≤maxLen) (hbytes:(n+m)*bytes≤140737488355328)
 (h :∀v' w',w'.ownsRow 0 e size v' (n+m) (xs++news)→w.grownBy w' v.ownBlock→(v' = .slice none 0 0↔v = .slice none 0 0∧m=0)→(v'.ownBlock=v.ownBlock∨v'.ownBlock=some w.heap.size)→K (a.put o.dst v') w') :
 Oper.wp P o a w K Q:=by
 obtain ⟨v',w',hr,h2,h3,h4,h5⟩:=Z7f (P:=P) w t o.type e i z size bytes ht hi hz hsize hby hzs hsz v n xs hown A m c news hl hnews h1 h63 hbytes;exact Ypq
theorem Z0l {ops:Array Oper}{o:Oper}{a:Act}{K:Act→World→Prop}{Q:Exit→Act→World→Prop}{E:Prop}(hgd:o.guard=none) (s x:Operand) (t:TypeId)
 (ho:o.op = .call { callee:=.builtin .append,args:=#[s,x],argTypes:=#[t,t] })
 (e:TypeId) (i:TypeInfo) (z:Value) (size bytes:Nat) (ht:P.underlying t=some (.slice e)) (hi:P.info? e=some i) (hz:i.zero=some z)
 (hsize:i.size=size) (hby:i.bytes=bytes) (hzs:z.cells.size=size) (hsz:0<size)
 (v:Value) (n:Nat) (xs:List Value) (hs:a.eval s=v) (hown:w.ownsRow 0 e size v n xs)
 (A:Option Addr) (m c:Nat) (news:List Value) (hx:a.eval x = .slice A m c) (hl:news.length=m*size)
 (hnews:0<m→∃ad,A=some ad∧∀j u,news[j]? = some u→w.cell? (ad.add j)=some u) (h1 :∀u∈news,u.oneCell'=true)
 (h63:n+m≤maxLen) (hbytes:(n+m)*bytes≤140737488355328)
 (h :∀v' w',w'.ownsRow 0 e size v' (n+m) (xs++news)→w.grownBy w' v.ownBlock→(v' = .slice none 0 0↔v = .slice none 0 0∧m=0)→(v'.ownBlock=v.ownBlock∨v'.ownBlock=some w.heap.size)→K (a.put o.dst v') w') :
 if Region.wanted o (yielded ops a.tmps)=true then Oper.wp P o a w K Q else E:=by
 rw [if_pos (by simp [Region.wanted,hgd])];exact Z8c w s x t ho e i z size bytes ht hi hz hsize hby hzs hsz v n xs hs hown A m c news hx hl hnews h1 h63 hbytes h
theorem Z0g {ops:Array Oper}{rest:List Oper}{o:Oper}{a:Act}{Q:Exit→Act→World→Prop}(hgd:o.guard=none) (s x:Operand) (t:TypeId)
 (ho:o.op = .call { callee:=.builtin .append,args:=#[s,x],argTypes:=#[t,t] })
 (e:TypeId) (i:TypeInfo) (z:Value) (size bytes:Nat) (ht:P.underlying t=some (.slice e)) (hi:P.info? e=some i) (hz:i.zero=some z)
 (hsize:i.size=size) (hby:i.bytes=bytes) (hzs:z.cells.size=size) (hsz:0<size)
 (v:Value) (n:Nat) (xs:List Value) (hs:a.eval s=v) (hown:w.ownsRow 0 e size v n xs)
 (A:Option Addr) (m c:Nat) (news:List Value) (hx:a.eval x = .slice A m c) (hl:news.length=m*size)
 (hnews:0<m→∃ad,A=some ad∧∀j u,news[j]? = some u→w.cell? (ad.add j)=some u) (h1 :∀u∈news,u.oneCell'=true)
 (h63:n+m≤maxLen) (hbytes:(n+m)*bytes≤140737488355328)
 (h :∀v' w',w'.ownsRow 0 e size v' (n+m) (xs++news)→w.grownBy w' v.ownBlock→(v' = .slice none 0 0↔v = .slice none 0 0∧m=0)→(v'.ownBlock=v.ownBlock∨v'.ownBlock=some w.heap.size)→wpList P ops Q rest (a.put o.dst v') w') :
 wpList P ops Q (o :: rest) a w:=
 wpList_plain hgd fun _ hK=>Z8c w s x t ho e i z size bytes ht hi hz hsize hby hzs hsz v n xs hs hown A m c news hx hl hnews h1 h63 hbytes (fun v' w' a b c d=>hK _ _ (h v' w' a b c d))
end
theorem Z0y.news {α:Type}{w:World}{size c:Nat}{cells:α→List Value}(hsz :∀x,(cells x).length=size) (h0:0<size){A:Option Addr}{l:List α}(h:Z0y w size cells A c l) :
 0<l.length→∃ad,A=some ad∧∀j u,(l.flatMap cells)[j]? = some u→w.cell? (ad.add j)=some u:=by
 intro hl;obtain ⟨b,off,rfl,_,hc⟩:=h.2.2 hl;refine ⟨_,rfl,fun j u hu=>?_⟩;obtain ⟨k,i,hk,rfl,hi,hu'⟩:=Zl3 hsz l j u hu h0;have:=hc k hk i u hu';unfold Addr.add
 split
 · rename_i hz
   have e:k*size=0:=Ya;have e2:i=0:=Ya;rw [e,e2] at this;exact Yuu
 · simpa [Zub] using this
theorem Z14 {w:World}{e:TypeId}{size n:Nat}{v:Value}{xs:List Value}(h:w.ownsRow 0 e size v n xs):∃A c,v = .slice A n c∧n≤c∧c≤maxLen∧(∀a,A=some a→∃g,a=⟨g,0,none⟩):=by
 rcases Z0f h with ⟨rfl,rfl,_⟩|⟨g,cap,rfl,hn,hc,_⟩
 · exact ⟨none,0,rfl,Zsu _,Nat.zero_le _,fun a e=>by cases e⟩
 · exact ⟨_,cap,rfl,hn,hc,fun a e=>⟨g,by injection e with e;exact e.symm⟩⟩
def setAll (xs:List Value) (o:Nat) (vs:List Value):List Value:=vs.zipIdx.foldl (fun l (v,j)=>l.set (o+j) v) xs
theorem Zbd (o:Nat):∀(vs:List Value) (s:Nat) (xs:List Value),o+s+vs.length≤xs.length→
 ((vs.zipIdx s).foldl (fun l (v,j)=>l.set (o+j) v) xs).length=xs.length∧
 ∀i,((vs.zipIdx s).foldl (fun l (v,j)=>l.set (o+j) v) xs)[i]? = if o+s≤i∧i<o+s+vs.length then vs[i - (o+s)]? else xs[i]?
 | [],s,xs,_=>⟨rfl,fun i=>Yk⟩
 | v :: vs,s,xs,h=>by
   simp only [Ztg] at h;rw [List.zipIdx_cons,List.foldl_cons];obtain ⟨h1,h2⟩:=Zbd o vs (s+1) (xs.set (o+s) v) Yk;refine ⟨by rw [h1];simp,fun i=>?_⟩;rw [h2];simp only [Ztg];by_cases hi:i=o+s
   · subst hi
     rw [if_neg Ya,if_pos Ya,List.getElem?_set_self Ya,Nat.sub_self,Zt0]
   · by_cases hlt:o+(s+1)≤i∧i<o+(s+1)+vs.length
     · rw [if_pos hlt,if_pos Ya]
       rw [show i - (o+s)=(i - (o+(s+1)))+1 from Ya];simp
     · rw [if_neg hlt,if_neg Ya,List.getElem?_set_ne Ya]
theorem Z4r {α:Type}{cells:α→List Value}{size:Nat}(hsz :∀x,(cells x).length=size) (h0:0<size) (l:List α) (k:Nat) (hk:k<l.length) (y:α) :
 setAll (l.flatMap cells) (k*size) (cells y)=(l.set k y).flatMap cells:=by
 (have hb:k*size+size≤l.length*size:=by rw [←Nat.succ_mul];exact Nat.mul_le_mul_right _ hk);obtain ⟨h1,h2⟩:=Zbd (k*size) (cells y) 0 (l.flatMap cells) (by rw [Z0u hsz,hsz];omega);unfold setAll;apply List.ext_getElem?;intro i;rw [h2,hsz];by_cases hi:i<l.length*size
 · have hq:i / size<l.length:=Nat.div_lt_of_lt_mul (by rw [Nat.mul_comm];exact hi)
   have hr:i % size<size:=Nat.mod_lt _ h0;have e:i=i / size*size+i % size:=by rw [Nat.mul_comm];exact (Nat.div_add_mod i size).symm
   have r2:((l.set k y).flatMap cells)[i]? = (cells ((l.set k y)[i / size]'(by simpa using hq)))[i % size]?:=by
    conv=>lhs;rw [e]
    exact Z5z hsz _ _ (by simpa using hq) _ hr
   rw [r2];by_cases hik:i / size=k
   · have e3:i - (k*size+0)=i % size:=by rw [←hik];omega
     rw [if_pos (by rw [hik] at e;omega),e3];congr 1;rw [List.getElem_set];simp [hik]
   · have Xf :¬(k*size+0≤i∧i<k*size+0+size):=by
      rintro ⟨a,b⟩;apply hik;apply Nat.div_eq_of_lt_le
      · omega
      · rw [Nat.add_mul];omega
     rw [if_neg Xf]
     have r1:(l.flatMap cells)[i]? = (cells l[i / size])[i % size]?:=by
      conv=>lhs;rw [e]
      exact Z5z hsz _ _ hq _ hr
     rw [r1];congr 2;rw [List.getElem_set];simp [Ne.symm hik]
 · rw [if_neg Ya,List.getElem?_eq_none (by rw [Z0u hsz];omega),List.getElem?_eq_none (by rw [Z0u hsz];simp;omega)]
structure Z29 {α:Type}(tSet tE size:Nat) (cells:α→List Value) (w:World) (b:Nat) (sn:Bool) (A:Option Addr) (c:Nat) (l:List α):Prop where
 blk:Blk w b tSet #[.slice A l.length c,.bool sn]
 row:w.ownsRow 0 tE size (.slice A l.length c) l.length (l.flatMap cells)
def Z0w (b:Nat) (sn:Bool) (A:Option Addr):Nat→Prop:=fun k=>k=b∨(sn=false∧∃a,A=some a∧a.block=k)
def Z1w (w:World) (sn:Bool) (A:Option Addr) (sn':Bool) (A':Option Addr):Prop:=
 (sn'=sn∧A'=A)∨(sn'=false∧∃g,w.heap.size≤g∧A'=some ⟨g,0,none⟩)
section
variable {α:Type}{tSet tE size:Nat}{cells:α→List Value}{w w':World}{b:Nat}{sn:Bool}{A:Option Addr}{c:Nat}{l:List α}
theorem Z29.lt (h:Z29 tSet tE size cells w b sn A c l):b<w.heap.size:=h.blk.lt
theorem Z29.cell0 (h:Z29 tSet tE size cells w b sn A c l):w.cell? ⟨b,0,none⟩=some (.slice A l.length c):=(h.blk.cell 0).trans rfl
theorem Z29.cell1 (h:Z29 tSet tE size cells w b sn A c l):w.cell? ⟨b,1,none⟩=some (.bool sn):=(h.blk.cell 1).trans rfl
theorem Z29.rd (hsz :∀x,(cells x).length=size) (h:Z29 tSet tE size cells w b sn A c l):Z0y w size cells A c l:=Z0e hsz h.row
theorem Z29.row_lt (h:Z29 tSet tE size cells w b sn A c l):AIn A (· < w.heap.size):=by
 intro a e;subst e;rcases Z0f h.row with ⟨hv,_⟩|⟨g,cap,hv,_,_,hr,_⟩
 · cases hv
 · injection hv with hA
   injection hA with hA;subst hA;exact hr.lt
theorem Z29.row_ne (h:Z29 tSet tE size cells w b sn A c l) (hne:tE≠tSet):AIn A (·≠b):=by
 intro a e hb;have:=Z01 h.row h.blk hne;subst e;exact this (by simp [Value.ownBlock,hb])
theorem Z29.fr {M:Nat→Prop}(h:Z29 tSet tE size cells w b sn A c l) (hf:Fr M w w') (hb :¬M b) (hA:AIn A (fun k=>¬M k)):Z29 tSet tE size cells w' b sn A c l:=
 ⟨h.blk.fr hf hb,Z0s h.row hf (fun g e=>by
  rcases A with _|a
  · cases e
  · simp only [Value.ownBlock,Option.some.injEq] at e
    subst e
    exact hA a rfl)⟩
theorem Z29.new_ (h:Z29 tSet tE size cells w b sn A c l) (hf:Below w.heap.size w w'):Z29 tSet tE size cells w' b sn A c l:=⟨h.blk.new_ hf,Z02 h.row hf⟩
end
abbrev Q3g:Array Value:=#[.int .i64 0,.string ⟨#[]⟩,.int .i64 0,.int .i64 0,.string ⟨#[]⟩,.int .i64 0,.int .i64 0,.string ⟨#[]⟩,.int .i64 0,.int .i64 0,.string ⟨#[]⟩,.int .i64 0,.int .i64 0,.bool false,.int .i64 0,.int .i64 0]
abbrev Q3d:List Value:=[.string ⟨#[]⟩,.slice none 0 0,.slice none 0 0]
abbrev Q3a:Array Value:=#[.string ⟨#[]⟩,.int .i64 2,.string ⟨#[]⟩,.int .i64 1]
abbrev Q2z:List Value:=[.int .i64 0,.string ⟨#[]⟩,.int .i64 0]
abbrev Q2y:Array Value:=#[.int .i64 0,.string ⟨#[]⟩,.slice none 0 0,.slice none 0 0,.slice none 0 0,.slice none 0 0,.slice none 0 0,.slice none 0 0,.slice none 0 0,.int .i64 0,.int .i64 0]
abbrev Q2x:List Value:=[.int .i64 0,.string ⟨#[]⟩,.int .i64 0,.int .i64 0,.string ⟨#[]⟩,.int .i64 0,.int .i64 0,.string ⟨#[]⟩,.int .i64 0,.bool false,.bool false,.int .i64 0]
abbrev Q2w:Array Value:=#[.slice none 0 0,.slice none 0 0,.slice none 0 0,.slice none 0 0,.int .i64 0,.int .i64 0]
abbrev Q2v:List Value:=[.int .i64 0,.string ⟨#[]⟩,.int .i64 0,.int .i64 0,.string ⟨#[]⟩,.int .i64 0,.int .i64 0,.string ⟨#[]⟩,.int .i64 0,.bool false,.bool false,.int .i64 0,.int .i64 0,.int .i64 0]
abbrev Q2u:List Value:=[.int .i64 0,.int .i64 0,.string ⟨#[]⟩,.int .i64 0,.int .i64 0,.string ⟨#[]⟩,.int .i64 0,.int .i64 0,.string ⟨#[]⟩,.int .i64 0,.bool false,.bool false,.int .i64 0,.int .i64 0,.int .i64 0]
abbrev Q2t:Array Value:=#[.int .i64 0,.int .i64 0,.string ⟨#[]⟩,.int .i64 0,.int .i64 0,.string ⟨#[]⟩,.int .i64 0,.int .i64 0,.string ⟨#[]⟩,.int .i64 0,.bool false,.bool false,.int .i64 0,.int .i64 0,.int .i64 0]
abbrev Q2s:List Value:=[.int .i64 0,.int .i64 0,.int .i64 0,.slice none 0 0,.slice none 0 0,.slice none 0 0,.slice none 0 0]
abbrev Q2r:Array Value:=#[.int .i64 0,.int .i64 0,.int .i64 0,.slice none 0 0,.slice none 0 0,.slice none 0 0,.slice none 0 0]
abbrev Q2p:Array Value:=#[.string ⟨#[]⟩,.slice none 0 0,.slice none 0 0]
abbrev Q2o:List Value:=[.string ⟨#[]⟩,.string ⟨#[]⟩,.int .i64 0,.string ⟨#[]⟩,.int .i64 0,.int .i64 0,.string ⟨#[]⟩,.int .i64 0,.string ⟨#[]⟩,.int .i64 0,.string ⟨#[]⟩,.int .i64 0,.string ⟨#[]⟩,.int .i64 0,.int .i64 0,.string ⟨#[]⟩,.int .i64 0,.string ⟨#[]⟩,.int .i64 0]
abbrev Q2m:Array Value:=#[.int .i64 0,.string ⟨#[]⟩,.int .i64 0,.int .i64 0,.string ⟨#[]⟩,.int .i64 0,.int .i64 0,.string ⟨#[]⟩,.int .i64 0,.bool false,.bool false,.int .i64 0]
abbrev Q2k:Array Value:=#[.int .i64 0,.string ⟨#[]⟩,.int .i64 0,.int .i64 0]
abbrev Q2j:Array Value:=#[.int .i64 0,.int .i64 0,.slice none 0 0,.slice none 0 0,.slice none 0 0,.slice none 0 0]
abbrev Q2i:List Value:=[.int .i64 0,.string ⟨#[]⟩,.int .i64 0,.int .i64 0,.string ⟨#[]⟩,.int .i64 0,.int .i64 0,.string ⟨#[]⟩,.int .i64 0,.int .i64 0,.string ⟨#[]⟩,.int .i64 0,.int .i64 0,.bool false,.int .i64 0,.int .i64 0]
abbrev Q2g:Array Value:=#[.int .i64 0,.bool false,.string ⟨#[]⟩,.slice none 0 0,.slice none 0 0,.bool false,.slice none 0 0]
abbrev Q2f:Array Value:=#[.int .i64 0,.string ⟨#[]⟩,.int .i64 0,.string ⟨#[]⟩,.int .i64 0,.slice none 0 0]
abbrev Q2e:Array Value:=#[.string ⟨#[]⟩,.string ⟨#[]⟩,.int .i64 0,.string ⟨#[]⟩,.int .i64 0,.int .i64 0,.string ⟨#[]⟩,.int .i64 0,.string ⟨#[]⟩,.int .i64 0,.string ⟨#[]⟩,.int .i64 0,.string ⟨#[]⟩,.int .i64 0,.int .i64 0,.string ⟨#[]⟩,.int .i64 0,.string ⟨#[]⟩,.int .i64 0]
abbrev Q2c:Array Value:=#[.int .i64 0,.string ⟨#[]⟩,.int .i64 0,.int .i64 0,.string ⟨#[]⟩,.int .i64 0,.int .i64 0,.string ⟨#[]⟩,.int .i64 0,.bool false,.bool false,.int .i64 0,.int .i64 0,.int .i64 0]
abbrev Q2b:Array Value:=#[.string ⟨#[]⟩,.int .i64 0,.string ⟨#[]⟩,.int .i64 0]
abbrev Q2a:Array Value:=#[.int .i64 0,.string ⟨#[]⟩,.int .i64 0]
end
section
open Go.RowKit Go.ChangeShapes Go.WideShapes Go.Deep
section
variable {H:Type}{enc:TypeId×Value→H}{P:Program}
theorem Zcf {f:Func}{s:ChangeSpec}{apart fresh handsOn again:Bool}{W W':World}{args:Array Value}{v:Value}{ds gs:List (DataW H)}{before pa pv:List MemPlace}
 (hW:DataW.Whole enc P f.params.toList s.vars apart W args.toList ds gs before)
 (hres :∀(b:Nat) (sp:Nat→Bool) (hd:Bool),DataW.TrodAll enc P W' b sp hd f.resultTypes.toList (v.resultList f.resultTypes.size) (s.fn H (ds++gs)).results [])
 (hargs :∀sp:Nat→Bool,(∀p∈before,sp p.block=true)→DataW.TrodAll enc P W' 0 sp true f.params.toList args.toList (s.fn H (ds++gs)).args pa)
 (hvars :∀sp:Nat→Bool,(∀p∈before,sp p.block=true)→DataW.TrodVars enc P W' sp s.vars (s.fn H (ds++gs)).vars pv)
 (hps:before=pa++pv) (hb:Below W.heap.size W W')
 (hok :∀(j:Nat) (t:TypeId) (r:Value),f.resultTypes[j]? = some t→(v.resultList f.resultTypes.size)[j]? = some r→Value.okWide P W' .any 0 t r) :
 s.post enc P f apart fresh handsOn again W args v W':=by
 have sd :∀p∈before,p.block<W.heap.size:=fun p hp=>hW.lt p hp;(have Nx :∀p∈before,(fun b=>decide (b<W.heap.size)) p.block=true:=fun p hp=>by simpa using sd p hp);refine ⟨ds,gs,before,[],pa,pv,hW,hres _ _ _,hargs _ Nx,hvars _ Nx,World.keptBut_mono (fun p hp=>⟨hp,?_⟩) (hb.frame (·∈before)),fun _=>?_⟩
 · rw [hps,Ztu] at hp
   exact Or.inr hp
 · obtain ⟨_,_,_,_,_,hz,hn⟩:=hW
   refine ⟨hok,_,_,([]++pa)++pv,⟨[]++pa,pv,trodAll_append (hargs _ (fun _ _=>rfl)) (hres _ _ _),hvars _ (fun _ _=>rfl),rfl,?_,?_⟩,?_⟩
   · intro b off hp
     (have Rh:MemPlace.cell b off∈before:=by rw [hps];simpa using hp);rw [hb.frozen (sd _ Rh)];exact hz b off Rh
   · intro ha
     have:=hn ha;rw [hps] at this;exact Yuu
   · intro p hp _
     rw [hps];simpa using hp
theorem Z88 (hl:laidOutB P=true){W W':World}{sp:Nat→Bool}(hb:Below W.heap.size W W'):∀(ts:List TypeId) (vs:List Value) (ds:List (DataW H)) (ps:List MemPlace),
 (∀t∈ts,P.readableRec t=true∧t<P.types.size)→DataW.TrodAll enc P W 0 (fun _=>true) true ts vs ds ps→(∀p∈ps,p.block<W.heap.size)→(∀p∈ps,sp p.block=true)→DataW.TrodAll enc P W' 0 sp true ts vs ds ps
 | [],[],[],ps,_,h,_,_=>h
 | t :: ts,v :: vs,d :: ds,ps,ht,⟨p,q,h1,h2,he⟩,hlt,hsp=>by
   subst he;refine ⟨p,q,WideElems.Trod_stays hl (ht t Ye).1 (ht t Ye).2 h1 (fun x hx=>hb.same (hlt x YXl)) (fun x hx=>hsp x YXl),?_,rfl⟩;exact Z88 hl hb ts vs ds q (fun t' h'=>ht t' (by simp [h'])) h2 (fun x hx=>hlt x YXl) (fun x hx=>hsp x YXl)
 | [],_ :: _,_,_,_,h,_,_=>h.elim
 | [],[],_ :: _,_,_,h,_,_=>h.elim
 | _ :: _,[],_,_,_,h,_,_=>h.elim
 | _ :: _,_ :: _,[],_,_,h,_,_=>h.elim
theorem Zmg {f:Func}{s:ChangeSpec}{apart fresh handsOn again:Bool}{W W':World}{args:Array Value}{ds gs:List (DataW H)}{before:List MemPlace}{tb:TypeId}
 (hl:laidOutB P=true) (hv:s.vars = []) (hW:DataW.Whole enc P f.params.toList s.vars apart W args.toList ds gs before) (hr:f.resultTypes = #[tb]) (htb:P.underlying tb=some .bool)
 (hp :∀t∈f.params.toList,P.readableRec t=true∧t<P.types.size) (h1:(s.fn H (ds++gs)).results = [.lit (.bool true)]) (h2:(s.fn H (ds++gs)).args=ds) (h3:(s.fn H (ds++gs)).vars = [])
 (hb:Below W.heap.size W W'):s.post enc P f apart fresh handsOn again W args (.bool true) W':=by
 have sd :∀p∈before,p.block<W.heap.size:=fun p hp=>hW.lt p hp;have rp:=hW;obtain ⟨p,q,hA,hV,he,_⟩:=hW;rw [hv] at hV;(have hq:q = []:=by cases gs<;>simp [DataW.TrodVars] at hV;exact hV);subst hq;rw [Zu9] at he;subst he;refine Zcf (pa:=before) (pv:=[]) rp (fun b sp hd=>?_) (fun sp hsp=>?_) (fun sp hsp=>?_) Ye hb ?_
 · rw [hr,h1];exact trodAll_mk1 (shut_bool htb true)
 · rw [h2];exact Z88 hl hb _ _ _ _ hp hA sd hsp
 · rw [hv,h3];rfl
 · exact ok_one hr rfl (okWide_bool_mk htb true)
end
def Zrz {α:Type}(P:Program) (e:TypeId) (size:Nat) (cells:α→List Value):Prop:=
 P.cellsOf e=size∧∀(H:Type) (enc:TypeId×Value→H) (w:World) (base:Nat) (spare:Nat→Bool) (held:Bool) (n:Nat) (cs:List Value) (x:DataW H×List MemPlace),
  DataW.trod enc P w base spare held n e cs=some x→∃a:α,cs=cells a
theorem Zfk {α:Type}{Q:Nat→α→Prop} :∀(n:Nat),(∀i,i<n→∃a,Q i a)→∃l:List α,l.length=n∧∀i,(h:i<l.length)→Q i l[i]
 | 0,_=>⟨[],rfl,fun i h=>absurd h Ye⟩
 | n+1,h=>by
   obtain ⟨l,hl,hq⟩:=Zfk n (fun i hi=>h i Ya);obtain ⟨a,ha⟩:=h n Ya;refine ⟨l ++ [a],by simp [hl],fun i hi=>?_⟩;by_cases hi':i<l.length
   · rw [List.getElem_append_left hi'];exact hq i hi'
   · have:i=n:=by simp at hi;omega
     subst this;rw [List.getElem_append_right Ya];simpa [hl] using ha
end
section
abbrev Cls:=Nat
section
variable {P:Program}{ops:Array Oper}{Q:Exit→Act→World→Prop}{S:World→Prop}
def Z2p (ops:Array Oper):Nat→Nat→Nat→Bool
 | 0,_,_=>false
 | n+1,j,k=>((ops[j]?).map fun o=>o.after.any fun e=>Region.binds .any e && (e.on == k ||Z2p ops n e.on k)).getD false
def Zm1 (ops:Array Oper) (ord:List (Nat×Cls)) (j:Nat):Bool:=ord.any fun (k,c)=>c == 1 && k != j && !Z2p ops ops.size j k
def okE (ops:Array Oper):List (Nat×Cls)→Array Bool→Bool
 | [],listed=>(Region.ready .any ops listed).isEmpty
 | (k,c) :: rest,listed=>(if c == 2 then Region.ready .any ops listed == [k] else (Region.ready .any ops listed).contains k && Region.free .any ops listed k) && okE ops rest (listed.setIfInBounds k true)
def Z6j (S:World→Prop) (qt ns:Nat→Bool) (i:Nat) (w w':World):Prop:=if qt i=true then w'=w else (ns i=true→S w')
def Z8a (P:Program) (ops:Array Oper) (Q:Exit→Act→World→Prop) (S:World→Prop) (qt ns:Nat→Bool):Nat→Array Bool→Act→World→Prop
 | 0,listed,a,w=>Region.ready .any ops listed = []∧Q .normal a w
 | fuel+1,listed,a,w=>
   (Region.ready .any ops listed = []→Q .normal a w)∧
   ∀i∈Region.ready .any ops listed,wpOp P ops Q i (fun a' w'=>Z6j S qt ns i w w'∧Z8a P ops Q S qt ns fuel (listed.setIfInBounds i true) a' w') a w
theorem Z76 {qt ns:Nat→Bool} :∀(fuel:Nat) (listed:Array Bool) (a:Act) (w:World),Z8a P ops Q S qt ns fuel listed a w→wpAny P .any ops Q fuel listed a w
 | 0,_,_,_,h=>h
 | fuel+1,_,_,_,h=>⟨h.1,fun i hi=>wpOp_mono (fun a' w' h'=>Z76 fuel _ a' w' h'.2) (h.2 i hi)⟩
def wpE (P:Program) (ops:Array Oper) (Q:Exit→Act→World→Prop) (S:World→Prop) (ns:Nat→Bool):List (Nat×Cls)→Act→World→Prop
 | [],a,w=>Q .normal a w
 | (i,c) :: rest,a,w=>
   if c=2 then wpOp P ops Q i (fun a' w'=>(ns i=true→S w')∧wpE P ops Q S ns rest a' w') a w
   else ∃o v,ops[i]? = some o∧(if c=1 then YieldsIf P ops S o v a∧S w else Yields P ops o v a)∧wpE P ops Q S ns rest (a.put o.dst v) w
def Z58 (ops:Array Oper) (listed:Array Bool):Prop:=∀(m:Nat) (o:Oper),listed.getD m false=true→ops[m]? = some o→∀e∈o.after,Region.binds .any e=true→listed.getD e.on false=true
theorem Z2b {listed:Array Bool}(hc:Z58 ops listed){i:Nat}(hi:i∈Region.ready .any ops listed):Z58 ops (listed.setIfInBounds i true):=by
 obtain ⟨hu,o,ho,Lt⟩:=mem_ready.1 hi
 have up :∀m,listed.getD m false=true→(listed.setIfInBounds i true).getD m false=true:=fun m hm=>by
  by_cases e:i=m
  · subst e
    rcases Nat.lt_or_ge i listed.size with h'|h'
    · simp [h']
    · simp [Array.getElem?_eq_none h'] at hm
  · rw [getD_set_ne false e];exact hm
 intro m om hm hom e he hb;by_cases e':i=m
 · subst e'
   rw [ho] at hom;cases hom;exact up _ (Lt e he hb)
 · rw [getD_set_ne false e'] at hm
   exact up _ (hc m om hm hom e he hb)
theorem Z69 {listed:Array Bool}(hc:Z58 ops listed){k:Nat}(hk:listed.getD k false=false):∀(n m:Nat),listed.getD m false=true→Z2p ops n m k=false
 | 0,_,_=>rfl
 | n+1,m,hm=>by
   unfold Z2p
   cases ho:ops[m]? with
   | none=>rfl
   | some o=>
     simp only [Zt4,Option.getD_some];rw [Array.any_eq_false];intro i hi;simp only [Ztr,Zui,beq_iff_eq,not_and,not_or,Bool.not_eq_true];intro hb;have hl:=hc m o hm ho o.after[i] (Array.getElem_mem hi) hb;refine ⟨fun e=>?_,Z69 hc hk n _ hl⟩;rw [e,hk] at hl;cases hl
theorem Zab {listed:Array Bool}(hc:Z58 ops listed){k j:Nat}(hk:listed.getD k false=false) (hj:j∈Region.ready .any ops listed) (n:Nat):Z2p ops n j k=false:=by
 cases n with
 | zero=>rfl
 | succ n=>
   obtain ⟨_,o,ho,Lt⟩:=mem_ready.1 hj;unfold Z2p;simp only [ho,Zt4,Option.getD_some];rw [Array.any_eq_false];intro i hi;simp only [Ztr,Zui,beq_iff_eq,not_and,not_or,Bool.not_eq_true];intro hb;have hl:=Lt o.after[i] (Array.getElem_mem hi) hb;refine ⟨fun e=>?_,Z69 hc hk n _ hl⟩;rw [e,hk] at hl;cases hl
theorem Z5g {qt ns:Nat→Bool}{i:Nat}{oi:Oper}{v:Value}(hi:ops[i]? = some oi) (hsel :∀(j:Nat) (o:Oper) cs b,ops[j]? = some o→o.op≠.select cs b)
 (hQ :∀c a w,Q (.panic c) (a.put oi.dst v) w→Q (.panic c) a w) (L:Bool) (hqt:qt i=true) (hns:L=true→∀(j:Nat),Z2p ops ops.size j i=false→j≠i→j<ops.size→ns j=true) :
 ∀(fuel:Nat) (listed:Array Bool) (a:Act) (w:World),Z58 ops listed→
  (∀j oj,ops[j]? = some oj→j≠i→listed.getD j true=false→(∀e∈oj.after,Region.binds .any e=true→e.on≠i)→oi.apart ops oj=true)→
  i∈Region.ready .any ops listed→YieldsIf P ops (fun w=>L=true→S w) oi v a→(L=true→S w)→
  Z8a P ops Q S qt ns fuel (listed.setIfInBounds i true) (a.put oi.dst v) w→Z8a P ops Q S qt ns (fuel+1) listed a w:=by
 (have own :∀w:World,Z6j S qt ns i w w:=fun w=>by unfold Z6j;rw [if_pos hqt]);intro fuel
 induction fuel with
 | zero=>
   intro listed a w _ _ hr hy hS H;refine ⟨fun h=>(by rw [h] at hr;cases hr),fun j hj=>?_⟩;by_cases hji:j=i
   · subst hji;exact hy.wpOp hi hS ⟨own w,H⟩
   · have:=ready_mono hj hji
     rw [H.1] at this;cases this
 | succ fuel ih=>
   intro listed a w O0 Pg hr hy hS H;refine ⟨fun h=>(by rw [h] at hr;cases hr),fun j hj=>?_⟩;by_cases hji:j=i
   · subst hji;exact hy.wpOp hi hS ⟨own w,H⟩
   · have h1:=H.2 j (ready_mono hj hji)
     obtain ⟨Bs,oj,hoj,Lt⟩:=mem_ready.1 hj
     have J7:listed.getD i false=false:=by
      have h0:=(mem_ready.1 hr).1;rcases Nat.lt_or_ge i listed.size with h'|h'
      · simp [h'] at h0 ⊢;exact h0
      · simp [Array.getElem?_eq_none h'] at h0
     have vk :∀e∈oj.after,Region.binds .any e=true→e.on≠i:=fun e he hb heq=>by
      have h1:=Lt e he hb;rw [heq,J7] at h1;cases h1
     have hnsj:L=true→ns j=true:=fun hL=>hns hL j (Zab O0 J7 hj _) hji (Zt7.1 hoj).1;have h2:=wpOp_putIf hoj (Pg j oj hoj hji Bs vk) (fun cs b=>hsel i oi cs b hi) (fun cs b=>hsel j oj cs b hoj) hQ hy h1
     have Sb :∀k ok,ops[k]? = some ok→k≠i→(listed.setIfInBounds j true).getD k true=false→
      (∀e∈ok.after,Region.binds .any e=true→e.on≠i)→oi.apart ops ok=true:=fun k ok hk hki hun hno=>by
      refine Pg k ok hk hki ?_ hno;by_cases hjk:j=k
      · subst hjk;exact Bs
      · rw [getD_set_ne true hjk] at hun;exact hun
     refine wpOp_mono (fun a' w' h3=>⟨h3.2.1,?_⟩) h2
     have hS':L=true→S w':=fun hL=>by
      have hb:=h3.2.1;unfold Z6j at hb;by_cases hq:qt j=true
      · rw [if_pos hq] at hb;rw [hb];exact hS hL
      · rw [if_neg hq] at hb;exact hb (hnsj hL)
     refine ih (listed.setIfInBounds j true) a' w' (Z2b O0 hj) Sb (ready_mono hr (Ne.symm hji)) h3.1 hS' ?_;rw [Array.setIfInBounds_comm _ _ hji];exact h3.2.2
theorem Zaj {ord:List (Nat×Cls)}{qt ns:Nat→Bool}(hsel:Region.noSelect ops=true) (hQ :∀c a a' w,Q (.panic c) a w→Q (.panic c) a' w)
 (hqt :∀k c,(k,c)∈ord→(qt k=true↔c≠2)) (hns :∀k,(k,1)∈ord→∀j,Z2p ops ops.size j k=false→j≠k→j<ops.size→ns j=true) :
 ∀(rest:List (Nat×Cls)) (listed:Array Bool) (a:Act) (w:World),(∀x∈rest,x∈ord)→Z58 ops listed→okE ops rest listed=true→wpE P ops Q S ns rest a w→Z8a P ops Q S qt ns rest.length listed a w
 | [],listed,a,w,_,_,hB,h=>⟨by simpa [okE] using hB,h⟩
 | (k,c) :: rest,listed,a,w,hm,hcl,hB,h=>by
   simp only [okE,Ztr] at hB;obtain ⟨hB1,hB2⟩:=hB;have ze:=hm (k,c) Ye;simp only [wpE] at h;by_cases hc:c=2
   · subst hc
     simp only [beq_self_eq_true,if_true] at hB1;(have hr:Region.ready .any ops listed = [k]:=by simpa using hB1);simp only [if_true] at h;refine ⟨fun h0=>(by rw [hr] at h0;cases h0),fun i hi=>?_⟩;rw [hr] at hi;(obtain rfl:i=k:=by simpa using hi);refine wpOp_mono (fun a' w' h'=>⟨?_,Zaj hsel hQ hqt hns rest _ a' w' (fun x hx=>hm x YXl) (Z2b hcl (by rw [hr];simp)) hB2 h'.2⟩) h;unfold Z6j;rw [if_neg (fun hq=>(hqt i 2 ze).1 hq rfl)];exact h'.1
   · rw [if_neg YRq] at hB1
     simp only [Ztr] at hB1;rw [if_neg hc] at h;obtain ⟨o,v,ho,hy,hk⟩:=h;(have qx:k∈Region.ready .any ops listed:=by simpa using hB1.1);have Ru:=Zaj hsel hQ hqt hns rest _ _ w (fun x hx=>hm x YXl) (Z2b hcl qx) hB2 hk;by_cases h1:c=1
     · subst h1
       rw [if_pos rfl] at hy
       exact Z5g ho (Region.noSelect_spec hsel) (fun c a w=>hQ c _ _ w) true ((hqt k 1 ze).2 hc) (fun _=>hns k ze) rest.length listed a w hcl (Region.free_spec ho hB1.2) qx
        (hy.1.imp (fun ⟨p,q⟩=>⟨p,fun w' hw'=>q w' (hw' rfl)⟩) id) (fun _=>hy.2) Ru
     · rw [if_neg h1] at hy
       exact Z5g ho (Region.noSelect_spec hsel) (fun c a w=>hQ c _ _ w) false ((hqt k c ze).2 hc) (fun h=>YZt) rest.length listed a w hcl (Region.free_spec ho hB1.2) qx
        (hy.imp (fun ⟨p,q⟩=>⟨p,fun w' _=>q w'⟩) id) (fun h=>YZt) Ru
def Zpa (ops:Array Oper) (ord:List (Nat×Cls)):Bool:=
 Region.noSelect ops && okE ops ord (Array.replicate ops.size false) && ord.length == ops.size && (ord.map (·.1)).Nodup && ord.all fun x=>x.1<ops.size
def Z78 (K:Act→World→Prop):Exit→Act→World→Prop
 | .normal,a,w=>K a w
 | _,_,_=>False
@[go_sem] theorem Z00 (K:Act→World→Prop) (a:Act) (w:World):Z78 K .normal a w=K a w:=rfl
def wpX (P:Program) (ops:Array Oper) (Q:Exit→Act→World→Prop) (S:World→Prop) (ns:Nat→Bool):List (Nat×Cls×Oper)→Act→World→Prop
 | [],a,w=>Q .normal a w
 | (i,c,o) :: rest,a,w=>
   if c=2 then (if Region.wanted o (yielded ops a.tmps)=true then o.wp P a w (fun a' w'=>(ns i=true→S w')∧wpX P ops Q S ns rest a' w') Q else (ns i=true→S w)∧wpX P ops Q S ns rest (a.put o.dst undef) w)
   else ∃v,(if c=1 then YieldsIf P ops S o v a∧S w else Yields P ops o v a)∧wpX P ops Q S ns rest (a.put o.dst v) w
def Z08 (ops:Array Oper) (ord:List (Nat×Cls)):List (Nat×Cls×Oper):=ord.filterMap fun (i,c)=>(ops[i]?).map fun o=>(i,c,o)
theorem Zhy {ns:Nat→Bool} :∀(ord:List (Nat×Cls)) (a:Act) (w:World),(∀x∈ord,x.1<ops.size)→wpX P ops Q S ns (Z08 ops ord) a w→wpE P ops Q S ns ord a w
 | [],_,_,_,h=>h
 | (i,c) :: rest,a,w,hl,h=>by
   have hi:i<ops.size:=hl (i,c) Ye;have ho:ops[i]? = some ops[i]:=Array.getElem?_eq_getElem hi;(have hb:Z08 ops ((i,c) :: rest)=(i,c,ops[i]) :: Z08 ops rest:=by simp [Z08,ho]);have ih:=fun a w=>Zhy (ns:=ns) rest a w (fun x hx=>hl x YXl);rw [hb] at h;simp only [wpX] at h;simp only [wpE]
   split
   · rename_i hc
     rw [if_pos hc] at h;unfold wpOp;simp only [ho]
     split
     · rename_i hw
       rw [if_pos hw] at h;exact .inl (Oper.wp_mono (fun a w h=>⟨h.1,ih _ _ h.2⟩) h)
     · rename_i hw
       rw [if_neg hw] at h;exact ⟨h.1,ih _ _ h.2⟩
   · rename_i hc
     rw [if_neg hc] at h;obtain ⟨v,h1,h2⟩:=h;exact ⟨_,v,ho,h1,ih _ _ h2⟩
theorem Znf {l:List Oper}{a:Act}{w:World}(S:World→Prop) (ord:List (Nat×Cls)) (hB:Zpa l.toArray ord=true)
 (h :∀K:Act→World→Prop,(∀a w,Q .normal a w→K a w)→wpX P l.toArray (Z78 K) S (Zm1 l.toArray ord) (Z08 l.toArray ord) a w.drew) :
 wpAny P .any l.toArray (Z78 fun a w=>Q .normal a w) l.toArray.size (Array.replicate l.toArray.size false) a w.drew:=by
 simp only [Zpa,Ztr,beq_iff_eq,Zuf] at hB;obtain ⟨⟨⟨⟨hsel,hE⟩,Vx⟩,Rv⟩,By⟩:=hB;(have sd :∀x∈ord,x.1<l.toArray.size:=by simpa [Zu2] using By);clear By;have h0:=Zhy ord a w.drew sd (h (fun a w=>Q .normal a w) (fun _ _ h=>h));have O0:Z58 l.toArray (Array.replicate l.toArray.size false):=fun m o hm=>YDn
 have yy :∀k c c',(k,c)∈ord→(k,c')∈ord→c=c':=fun k c c' h1 h2=>by
  clear h h0 hE Vx O0 sd
  induction ord with
  | nil=>cases h1
  | cons x r ih=>
    simp only [List.map_cons,List.nodup_cons,List.mem_map,not_exists,not_and] at Rv;rcases Ztb.1 h1 with e1|h3
    · rcases Ztb.1 h2 with e2|h4
      · rw [←e1] at e2;injection e2 with _ e;exact e.symm
      · subst e1;exact absurd rfl (Rv.1 (k,c') h4)
    · rcases Ztb.1 h2 with e2|h4
      · subst e2;exact absurd rfl (Rv.1 (k,c) h3)
      · exact ih Rv.2 h3 h4
 have H:=Zaj (P:=P) (Q:=Z78 fun a w=>Q .normal a w) (S:=S) (ord:=ord) (qt:=fun k=>ord.any fun (j,c)=>j == k && c != 2) (ns:=Zm1 l.toArray ord) hsel (fun c a a' w h=>h)
  (fun k c hk=>by
    simp only [Zu7,Ztr,beq_iff_eq,bne_iff_ne];constructor
    · rintro ⟨⟨j,c'⟩,hj,hjk,hc'⟩
      dsimp only at hjk hc';subst hjk;rw [yy _ _ _ hk hj];exact hc'
    · intro hc;exact ⟨(k,c),hk,rfl,hc⟩)
  (fun k hk j hw hjk _=>by
    unfold Zm1;rw [Zu7]
    exact ⟨(k,1),hk,by dsimp only;rw [hw];simp [Ne.symm hjk]⟩)
  ord (Array.replicate l.toArray.size false) a w.drew (fun _ hx=>hx) O0 hE h0
 rw [Vx] at H;exact Z76 _ _ _ _ H
theorem Z03 {id:Nat}{l:List Oper}{a:Act}{w:World}(S:World→Prop) (ord:List (Nat×Cls)) (hm:P.follows .mixedOrders=true) (hB:Zpa l.toArray ord=true)
 (h :∀K:Act→World→Prop,(∀a w,Q .normal a w→K a w)→wpX P l.toArray (Z78 K) S (Zm1 l.toArray ord) (Z08 l.toArray ord) a w.drew):(Code.region id l.toArray true).wp P Q a w:=
 Code.wp_mono (Q:=Z78 fun a w=>Q .normal a w) (fun e a w hq=>by cases e<;>first|exact hq|exact hq.elim) (wp_region_any hm (Znf S ord hB h))
variable {ns:Nat→Bool}{rest:List (Nat×Cls×Oper)}{a:Act}{w:World}{i:Nat}{o:Oper}
theorem Z0m (h:Q .normal a w):wpX P ops Q S ns [] a w:=h
theorem Z05 (v:Value) (hy:Yields P ops o v a) (h:wpX P ops Q S ns rest (a.put o.dst v) w):wpX P ops Q S ns ((i,0,o) :: rest) a w:=by
 simp only [wpX];exact ⟨v,by simpa using hy,h⟩
theorem Z04 (v:Value) (hS:S w) (hy:YieldsIf P ops S o v a) (h:wpX P ops Q S ns rest (a.put o.dst v) w):wpX P ops Q S ns ((i,1,o) :: rest) a w:=by
 simp only [wpX];exact ⟨v,by simpa using ⟨hy,hS⟩,h⟩
theorem Z1m (hn:ns i=false)
 (h :∀K:Act→World→Prop,(∀a w,wpX P ops Q S ns rest a w→K a w)→if Region.wanted o (yielded ops a.tmps)=true then Oper.wp P o a w K Q else K (a.put o.dst undef) w):wpX P ops Q S ns ((i,2,o) :: rest) a w:=by
 have:=h (fun a' w'=>(ns i=true→S w')∧wpX P ops Q S ns rest a' w') (fun a w h2=>⟨fun h=>absurd h (by rw [hn];simp),h2⟩);simpa only [wpX,if_true] using this
theorem Z1h
 (h :∀K:Act→World→Prop,(∀a w,S w→wpX P ops Q S ns rest a w→K a w)→if Region.wanted o (yielded ops a.tmps)=true then Oper.wp P o a w K Q else K (a.put o.dst undef) w):wpX P ops Q S ns ((i,2,o) :: rest) a w:=by
 have:=h (fun a' w'=>(ns i=true→S w')∧wpX P ops Q S ns rest a' w') (fun a w h1 h2=>⟨fun _=>h1,h2⟩);simpa only [wpX,if_true] using this
end
end
section
open Go.RowKit
def Z26 (W:World) (k:Nat):Prop:=∃c e f,W.heap[k]? = some (.cells c e f)
structure Priv (B:Nat) (W W':World):Prop where
 os:W'.os=W.os
 tape:W'.tape=W.tape
 output:W'.output=W.output
 size:W.heap.size≤W'.heap.size
 block :∀k,k<W.heap.size→(k<B∨Z26 W k)→W'.heap[k]? = W.heap[k]?
section
variable {B B':Nat}{W W' X Y Z:World}
theorem Priv.refl (B:Nat) (W:World):Priv B W W:=⟨rfl,rfl,rfl,Zsu _,fun _ _ _=>rfl⟩
theorem Priv.alloc (h:Priv B X Y) (o:Obj):Priv B X (Y.alloc o):=
 ⟨h.os,h.tape,h.output,Zt6 h.size Ye,fun k hk hc=>(Zuh Y o k (Zsw hk h.size)).trans (h.block k hk hc)⟩
theorem Priv.putObj (h:Priv B X Y){l:Nat}{o:Obj}(hl:B≤l) (ho:Y.heap[l]? = some o) (hc:o.isCells=false) (o':Obj):Priv B X (Y.putObj l o'):=
 ⟨h.os,h.tape,h.output,by simpa using h.size,fun k hk hk2=>by
  have e:=h.block k hk hk2;rw [Ztj,e];rintro rfl;rcases hk2 with hk2|⟨c,t,f,hh⟩
  · omega
  · rw [e,hh] at ho
    cases ho
    cases hc⟩
theorem Priv.mono (h:Priv B' X Y) (hB:B≤B'):Priv B X Y:=⟨h.os,h.tape,h.output,h.size,fun k hk hc=>h.block k hk (hc.imp (fun h=>Ya) id)⟩
theorem Blk.at_ {g:Nat}{t:TypeId}{cs:Array Value}(h:Blk W g t cs):Z26 W g:=⟨_,_,_,h⟩
theorem Blk.priv {g:Nat}{t:TypeId}{cs:Array Value}(h:Blk W g t cs) (hp:Priv B W W'):Blk W' g t cs:=(hp.block g h.lt (.inr h.at_)).trans h
theorem Z38 {base:Nat}{e:TypeId}{size:Nat}{v:Value}{n:Nat}{xs:List Value}(h:W.ownsRow base e size v n xs) (hp:Priv B W W'):W'.ownsRow base e size v n xs:=
 ⟨h.1,h.2.imp id fun ⟨g,cap,cur,hv,h0,hg,hr⟩=>⟨g,cap,cur,hv,h0,Blk.priv (t:=e) hg hp,hr⟩⟩
theorem Zks {a:Addr}{v:Value}(h:W.cell? a=some v):Z26 W a.block:=by
 unfold World.cell? at h
 cases ho:W.heap[a.block]? with
 | none=>simp [ho] at h
 | some o=>cases o<;>simp_all [Z26]
theorem Z7s {a:Addr}{v:Value}(h:W.cell? a=some v) (hp:Priv B W W'):W'.cell? a=some v:=
 (World.cell?_of_block (hp.block _ (Zt5 W a h) (.inr (Zks h)))).trans h
theorem Z29.priv {α:Type}{tSet tE size:Nat}{cells:α→List Value}{b:Nat}{sn:Bool}{A:Option Addr}{c:Nat}{l:List α}(h:Z29 tSet tE size cells W b sn A c l) (hp:Priv B W W'):Z29 tSet tE size cells W' b sn A c l:=
 ⟨h.blk.priv hp,Z38 h.row hp⟩
theorem Fr.priv {M:Nat→Prop}(h:Fr M X Y) (hp:Priv B Y Z) (hB:X.heap.size≤B):Fr M X Z:=
 ⟨hp.os.trans h.os,hp.tape.trans h.tape,hp.output.trans h.output,Zt6 h.size hp.size,fun k hk hn=>(hp.block k (Zsw hk h.size) (.inl Ya)).trans (h.block k hk hn)⟩
theorem Below.priv' {A:Nat}(h:Below A X Y) (hp:Priv B Y Z) (hB:A≤B) (hA:A≤Y.heap.size):Below A X Z:=
 ⟨hp.os.trans h.os,hp.tape.trans h.tape,hp.output.trans h.output,Zt6 h.size hp.size,fun k hk=>(hp.block k Ya (.inl Ya)).trans (h.block k hk)⟩
end
variable {P:Program}
def Iter {α:Type}(P:Program) (gf:Nat) (lb:Array Value) (encs:α→Array Value) (xs:List α) (W:World) (start Kp:World→World→Prop):Prop:=
 ∀(l:Nat) (J Jx:List α→World→Prop),(∀p X Y,J p X→Priv W.heap.size X Y→J p Y)→(∀p X Y,Jx p X→Priv W.heap.size X Y→Jx p Y)→
  (∀W1,start W W1→J [] W1)→
  (∀pre x post W1,xs=pre++x :: post→J pre W1→YieldAt Fence.wide 0 P l (encs x) W1 fun e W'=>
    (e = .returned (.bool true)∧J (pre ++ [x]) W'∧Kp W1 W')∨(e = .returned (.bool false)∧Jx (pre ++ [x]) W'))→
  CallsIn Fence.wide 0 P gf (#[.func (.yield l) #[] #[]]++lb) W fun e W'=>(∃v,e = .returned v)∧(J xs W'∨∃pre post,xs=pre++post∧Jx pre W')
theorem Iter.weak {α:Type}{gf:Nat}{lb:Array Value}{encs:α→Array Value}{xs:List α}{W:World}{start Kp Kp':World→World→Prop}(h:Iter P gf lb encs xs W start Kp) (hk :∀X Y,Kp' X Y→Kp X Y):Iter P gf lb encs xs W start Kp':=by
 intro l J Jx h1 h2 h3 h4;refine h l J Jx h1 h2 h3 (fun pre x post W1 hx hJ=>?_);obtain ⟨fn,tmps,assign,body,hy,hR⟩:=h4 pre x post W1 hx hJ;refine ⟨fn,tmps,assign,body,hy,hR.mono ?_⟩;rintro e W' (⟨g1,g2,g3⟩|g)
 · exact .inl ⟨g1,g2,hk _ _ g3⟩
 · exact .inr g
theorem KeepsFrom.put_ {B l:Nat}{X Y:World}(h:KeepsFrom B X Y) (hl:l<B) (o:Obj):KeepsFrom B X (Y.putObj l o):=
 ⟨by simpa using h.size,fun k o' hB hk hc=>(Ztj Ya).trans (h.same k o' hB hk hc)⟩
theorem KeepsFrom.up {B C:Nat}{X Y:World}(h:KeepsFrom B X Y) (hB:B≤C):KeepsFrom C X Y:=⟨h.size,fun k o hC hk hc=>h.same k o Ya hk hc⟩
def Zsq {α:Type}(KpW:World→Prop) (B:Nat) (I:List α→World→Prop) (Ix:Code→List α→World→Prop) (p:List α) (W:World):Exit→Act→World→Prop
 | .normal,_,W'=>KeepsFrom B W W'∧KpW W'∧I p W'
 | .ret,_,W'=>KeepsFrom B W W'∧Ix .ret p W'
 | .exit id,_,W'=>KeepsFrom B W W'∧Ix (.exit id) p W'
 | .goto t,_,W'=>KeepsFrom B W W'∧Ix (.goto t) p W'
 | .panic _,_,_=>False
 | .outgrown,_,_=>False
theorem Zjz {α:Type}{g:Operand}{ps:Array Tmp}{assign body:Code}{Q:Exit→Act→World→Prop}{a:Act}{w:World}{gf:Nat}{lb:Array Value}
 (hg:a.eval g = .func (.func gf) #[] lb) (eg :∀args w,(callFunc gf args).run P w = .ok (.enter gf args) w)
 {encs:α→Array Value}{xs:List α}{start Kp:World→World→Prop}(hseq :∀W,Below w.heap.size w W→Iter P gf lb encs xs W start (fun X Y=>Kp X Y∧KeepsFrom W.heap.size X Y))
 (hps :∀x,(encs x).size=ps.size) (hKt :∀A B C,Kp A B→Kp B C→Kp A C) (hKp :∀A B,Priv w.heap.size A B→Kp A B) (hst :∀W W1,start W W1→KeepsFrom w.heap.size W W1)
 (I:List α→World→Prop) (Ix:Code→List α→World→Prop) (hI :∀p X Y,I p X→Priv w.heap.size X Y→I p Y) (hIx :∀c p X Y,Ix c p X→Priv w.heap.size X Y→Ix c p Y)
 (h0 :∀W W1,Below w.heap.size w W→start W W1→I [] W1)
 (hround :∀(l:Nat) (pre:List α) (x:α) (post:List α) (W:World),xs=pre++x :: post→w.heap.size≤l→I pre W→
   assign.wpIn (Fence.wide.inRound l) 0 P (Exit.then (fun a1 W1=>KeepsFrom w.heap.size W W1∧∀W2,Priv w.heap.size W1 W2→W2.heap.size=W1.heap.size→(∃r,W2.heap[l]? = some (.loop r))→
    body.wpIn (Fence.wide.inRound l) 0 P (Zsq (Kp W) w.heap.size I Ix (pre ++ [x]) W2) a1 W2) (fun _ _ _=>False))
    { tmps:=(ps.zip (encs x)).foldl (fun t (p,v)=>t.setIfInBounds p v) a.tmps,defers:=[] } W)
 (hdone :∀(D:Nat) (W:World),w.heap.size≤D→I xs W→W.heap[D]? = some (.deferred (some []))→Q .normal { a with defers:={ target:=.collected D,args:=#[] } :: a.defers } W)
 (hstop :∀(D:Nat) (c:Code) (pre post:List α) (W:World),w.heap.size≤D→xs=pre++post→Ix c pre W→W.heap[D]? = some (.deferred (some []))→c.wpIn Fence.wide 0 P Q { a with defers:={ target:=.collected D,args:=#[] } :: a.defers } W) :
 (Code.rangeFunc g ps assign body).wpIn Fence.wide 0 P Q a w:=by
 refine Y38 ?_;intro fn I0 rec Fv W1 Wo kp N5 Pk
 have hz1:W1.heap.size=w.heap.size+2:=by rw [←Wo];simp
 refine ⟨w.heap.size+1,[{ target:=.collected w.heap.size,args:=#[] }],W1,{ target:=.fn (.func gf) lb,args:=#[.func (.yield (w.heap.size+1)) #[] #[]] },W1,gf,
  #[.func (.yield (w.heap.size+1)) #[] #[]]++lb,W1,?_,?_,fun _ _=>trivial,?_,fun h=>YL7,?_⟩
 · exact Y89
 · simp only [resolve,hg]
   simp [go_sem]
 · simp [invoke,go_sem,eg]
 · refine Ykn ?_;intro keep
   refine (hseq W1 Pk (w.heap.size+1)
    (fun pre W=>I pre W∧W.heap[w.heap.size+1]? = some (.loop (rec .ready none))∧W.heap[w.heap.size]? = some (.deferred (some [])))
    (fun pre W=>∃c,Ix c pre W∧W.heap[w.heap.size+1]? = some (.loop (rec .done (some c)))∧W.heap[w.heap.size]? = some (.deferred (some [])))
    (fun p X Y ⟨h1,h2,h3⟩ hp=>⟨hI p X Y h1 (hp.mono Ya),keep hp h2 Ya,keep hp h3 Ya⟩)
    (fun p X Y ⟨c,h1,h2,h3⟩ hp=>⟨c,hIx c p X Y h1 (hp.mono Ya),keep hp h2 Ya,keep hp h3 Ya⟩)
    (fun W2 hs=>⟨h0 W1 W2 Pk hs,(hst _ _ hs).same _ _ Ya kp rfl,(hst _ _ hs).same _ _ Ya N5 rfl⟩) ?_).mono ?_
   · rintro pre x post W hx ⟨hi,hl,hk⟩
     have hy:=run_yield (P:=P) (args:=encs x) hl (by rw [Fv];exact hps x);rw [Fv] at hy;refine ⟨fn,_,assign,body,hy,roundIn_of_wpIn I0 ?_⟩;refine wpIn_mono (hround (w.heap.size+1) pre x post W hx Ya hi) ?_;rintro e a1 Wa hp
     cases e with
     | normal=>
       obtain ⟨nl,Ug⟩:=hp;have zj:=nl.same _ _ Ya hl rfl;have Tc:=nl.same _ _ Ya hk rfl;refine Ypy ?_;intro sd yo Ds L5;refine wpIn_mono (Ug _ ((Priv.refl _ Wa).putObj Ya zj rfl _) Ye ⟨_,Ds⟩) ?_
       have fin :∀(jump:Option Code) (W3:World),KeepsFrom w.heap.size (Wa.putObj (w.heap.size+1) (.loop { rec .ready none with state:=.busy })) W3→
        (Instr.endRound (w.heap.size+1) jump).run P W3 = .ok (.bool jump.isNone) (W3.putObj (w.heap.size+1) (.loop (rec (if jump.isNone then .ready else .done) jump)))∧
        Priv w.heap.size W3 (W3.putObj (w.heap.size+1) (.loop (rec (if jump.isNone then .ready else .done) jump)))∧
        (W3.putObj (w.heap.size+1) (.loop (rec (if jump.isNone then .ready else .done) jump))).heap[w.heap.size+1]? = some (.loop (rec (if jump.isNone then .ready else .done) jump))∧
        (W3.putObj (w.heap.size+1) (.loop (rec (if jump.isNone then .ready else .done) jump))).heap[w.heap.size]? = some (.deferred (some [])):=fun jump W3 um=>by
        have wm:=um.same _ _ Ya Ds rfl;have:=run_endRound (P:=P) jump wm;rw [Fv] at this ⊢;exact ⟨this,(Priv.refl _ _).putObj Ya wm rfl _,World.putObj_heap_same (Zt7.1 wm).1,(Ztj Ya).trans (um.same _ _ (Zsu _) L5 rfl)⟩
       rintro e a3 W3 hp
       cases e with
       | normal=>
         obtain ⟨um,kw,xu⟩:=hp;obtain ⟨hr,lj,ti,Ku⟩:=fin none W3 um;refine ⟨_,_,hr,.inl ⟨rfl,⟨hI _ _ _ xu lj,ti,Ku⟩,hKt _ _ _ kw (hKp _ _ lj),?_⟩⟩;exact KeepsFrom.put_ ((KeepsFrom.put_ (KeepsFrom.up nl Ya) Ya _).trans (KeepsFrom.up um Ya)) Ya _
       | ret=>
         obtain ⟨um,xu⟩:=hp;obtain ⟨hr,lj,ti,Ku⟩:=fin (some .ret) W3 um;exact ⟨_,_,hr,.inr ⟨rfl,.ret,hIx _ _ _ _ xu lj,ti,Ku⟩⟩
       | exit id=>
         obtain ⟨um,xu⟩:=hp;obtain ⟨hr,lj,ti,Ku⟩:=fin (some (.exit id)) W3 um;exact ⟨_,_,hr,.inr ⟨rfl,.exit id,hIx _ _ _ _ xu lj,ti,Ku⟩⟩
       | goto t=>
         obtain ⟨um,xu⟩:=hp;obtain ⟨hr,lj,ti,Ku⟩:=fin (some (.goto t)) W3 um;exact ⟨_,_,hr,.inr ⟨rfl,.goto t,hIx _ _ _ _ xu lj,ti,Ku⟩⟩
       | panic ch=>exact hp.elim
       | outgrown=>exact hp.elim
     | exit id=>exact hp.elim
     | goto l=>exact hp.elim
     | ret=>exact hp.elim
     | panic ch=>exact hp.elim
     | outgrown=>exact hp.elim
   · rintro e W2 ⟨⟨v,rfl⟩,(⟨hi,hl,hk⟩|⟨pre,post,hS,c,hi,hl,hk⟩)⟩
     · exact ⟨none,_,Yx,hdone _ _ (Zsu _) (hI _ _ _ hi ((Priv.refl _ _).putObj Ya hl rfl _)) ((Ztj Ya).trans hk)⟩
     · exact ⟨some c,_,Yx,hstop _ c pre post _ (Zsu _) hS (hIx c _ _ _ hi ((Priv.refl _ _).putObj Ya hl rfl _)) ((Ztj Ya).trans hk)⟩
theorem Zas {l:Nat}{o:Oper}{a:Act}{K:Act→World→Prop}{Q:Exit→Act→World→Prop}{r:Result Next}(h:o.upon P a K Q r):o.uponIn (Fence.wide.inRound l) 0 P a K Q r:=by
 cases r with
 | ok n w=>
   cases n<;>simp only [Oper.upon] at h<;>simp only [Oper.uponIn]
   case value=>exact h
   case skip=>exact h
   case defer=>exact h
   case enter f args=>exact ⟨fun h=>YL7,callsIn_wide.2 h⟩
   case row row args=>
    refine ⟨fun h=>YL7,fun c cs _=>?_⟩;obtain ⟨v,w',hr,hs⟩:=h c cs;exact ⟨v,w',hr,stepsIn_wide.2 hs⟩
 | halt x w=>cases x<;>simp only [Oper.upon] at h<;>simp only [Oper.uponIn]<;>exact h
theorem Zct {id l0:Nat}{l:List Oper}{Q:Exit→Act→World→Prop}{a:Act}{w:World}(S:World→Prop) (ord:List (Nat×Cls)) (hm:P.follows .mixedOrders=true) (hB:Zpa l.toArray ord=true)
 (hd:(l.all fun o=>match o.op with| .defer _=>false| _=>true)=true)
 (h :∀K:Act→World→Prop,(∀a w,Q .normal a w→K a w)→wpX P l.toArray (Z78 K) S (Zm1 l.toArray ord) (Z08 l.toArray ord) a w.drew):(Code.region id l.toArray true).wpIn (Fence.wide.inRound l0) 0 P Q a w:=by
 have Rv :∀(i:Nat) (o:Oper),l.toArray[i]? = some o→∀c,o.op≠.defer c:=fun i o ho c hc=>by
  have dc:o∈l:=by
   have:=Array.mem_of_getElem? ho;exact Yuu
  have:=Zu2.1 hd o dc;rw [hc] at this;cases this
 have conv :∀(fuel:Nat) (listed:Array Bool) (a:Act) (w:World),wpAny P .any l.toArray (Z78 fun a w=>Q .normal a w) fuel listed a w→wpAnyIn (Fence.wide.inRound l0) 0 P .any l.toArray (Z78 fun a w=>Q .normal a w) fuel listed a w:=by
  intro fuel
  induction fuel with
  | zero=>exact fun _ _ _ h=>h
  | succ fuel ih=>
    intro listed a w hh;refine ⟨hh.1,fun i hi=>?_⟩;have h1:=hh.2 i hi;unfold wpOp at h1;unfold wpOpIn
    cases ho:l.toArray[i]? with
    | none=>simp only [ho] at h1 ⊢;exact ih _ _ _ h1
    | some o=>
      simp only [ho] at h1 ⊢;by_cases hw:Region.wanted o (yielded l.toArray a.tmps)=true
      · rw [if_pos hw] at h1 ⊢
        rcases h1 with h1|⟨_,⟨a',w',hlet⟩⟩
        · refine ⟨fun _ _=>trivial,?_⟩
          rw [show (Fence.wide.inRound l0).round=some l0 from rfl,Oper.semAt_some l0 a.eval o (Rv i o ho)];refine Zas ?_;exact Oper.wp_mono (fun a w h=>ih _ _ _ h) h1
        · exact hlet.elim
      · rw [if_neg hw] at h1 ⊢
        exact ⟨fun _ _=>trivial,ih _ _ _ h1⟩
 refine wpIn_mono (Q:=Z78 fun a w=>Q .normal a w) (wpIn_region_any hm (conv _ _ _ _ ?_)) (fun e a w hq=>by cases e<;>first|exact hq|exact hq.elim);exact Znf S ord hB h
end
end Go.Proofs.YtcnnofgaifcgaaaGreat
