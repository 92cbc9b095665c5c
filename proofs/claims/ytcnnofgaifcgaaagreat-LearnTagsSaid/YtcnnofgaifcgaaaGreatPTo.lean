/-
  Texts put together: BkState3.
-/
import Derived.Test.YtcnnofgaifcgaaaGreatPTn
namespace Go.Proofs.YtcnnofgaifcgaaaGreat
set_option maxRecDepth 100000
set_option maxHeartbeats 32000000
set_option linter.unusedSimpArgs false
section
open Go.RowKit
section
variable {K:Nat→Prop}{w w':World}
theorem Zip {e:TypeId}{size n:Nat}{v:Value}{xs:List Value}(h:w.ownsRow 0 e size v n xs) (hg:w.grownBy w' v.ownBlock):Only [e] w w':=fun g t cs hn hb=>hb.grown hg (Z01 h hb (fun e=>hn (by simp [e])))
theorem Z72 {e:TypeId}{size n:Nat}{v:Value}{xs:List Value}(h:w.ownsRow 0 e size v n xs) (hg:w.grownBy w' v.ownBlock) (hK :∀k,v.ownBlock=some k→¬K k):Mine [e] K w w':=
 ⟨Zip h hg,(Fr.refl _ w).grown hg (fun k hk=>.inl (hK k hk))⟩
theorem Zg0 {v v':Value}(hl :∀k,K k→k<w.heap.size) (hK :∀k,v.ownBlock=some k→¬K k) (hat:v'.ownBlock=v.ownBlock∨v'.ownBlock=some w.heap.size):∀k,v'.ownBlock=some k→¬K k:=fun k hk=>by
 rcases hat with h|h
 · exact hK k (h ▸ hk)
 · rw [h] at hk
   injection hk with hk;intro hq;have:=hl k hq;omega
end
section
variable {n B:Nat}{K C:Nat→Prop}{w:World}{gt gm gp ns:Nat}{vis lost:Int}{es:List Z0j}{gs:List PgT}{hs:List Z43}{ap:List Z1a}{nw:List Sym}{v0 v1 v2 v3:Value}
theorem SR.theirs {M K':Nat→Prop}{w':World}(h:SR n B K C w gt gm gp ns vis lost es gs hs ap nw v0 v1 v2 v3) (hF:Fr M w w') (hM :∀k,M k→K k∧¬C k) (hK :∀k,K' k→K k∨w.heap.size≤k) (hC :∀k,C k→K' k) (hl :∀k,K' k→k<w'.heap.size):SR n B K' C w' gt gm gp ns vis lost es gs hs ap nw v0 v1 v2 v3:=by
 have h2:=h.frB hF hM;have up :∀k,k<w.heap.size→K' k→K k:=fun k hk hq=>(hK k hq).elim id (fun hq=>Ya);obtain ⟨sn,A,c,g1,g2,g3⟩:=h.set_;obtain ⟨m1,m2,sn2,A2,c2,p1,p2,p3⟩:=h.map_
 have gw:OSym (fun k=>K' k∨v3.ownBlock=some k) w' ns (puts Z0o [] nw):=
  ⟨sn,A,c,g1.fr hF (fun hm=>g2 (.inl (hM _ hm).1)) (fun a ha hm=>g3 a ha (.inl (hM _ hm).1)),fun hq=>g2 (hq.imp (up _ g1.lt) id),fun a ha hq=>g3 a ha (hq.imp (up _ (g1.row_lt a ha)) id)⟩
 have eh:Z96 K' w' gm gp gs:=h.map_.theirs hF (fun k hm=>(hM k hm).1) hK;exact ⟨h2.blk,h2.o0,fun k e hq=>h.n0 k e (up k (Z3i h.o0 k e) hq),h2.o1,fun k e hq=>h.n1 k e (up k (h.o1.lt k e) hq),h2.o2,fun k e hq=>h.n2 k e (up k (Z3i h.o2 k e) hq),h2.o3,fun k e hq=>h.n3 k e (up k (Z3i h.o3 k e) hq),gw,eh,h.srt,fun hq=>h.nog (up _ h.blk.lt hq),hC,hl,h2.cel⟩
theorem SR.elem {es':List Z0j}{v0':Value}{W W8:World}(h:SR n B K C w gt gm gp ns vis lost es gs hs ap nw v0 v1 v2 v3) (hb:Below w.heap.size w W) (hown:W8.ownsRow 0 52 14 v0' es'.length (es'.flatMap Z0j.cells)) (hg:W.grownBy W8 v0.ownBlock) (hat:v0'.ownBlock=v0.ownBlock∨v0'.ownBlock=some W.heap.size) :
 SR n B K C (W8.setCell ⟨gt,0,none⟩ v0') gt gm gp ns vis lost es' gs hs ap nw v0' v1 v2 v3∧Fr (fun k=>¬K k) w (W8.setCell ⟨gt,0,none⟩ v0'):=by
 obtain ⟨W9,Gh⟩:∃W9,W9=W8.setCell ⟨gt,0,none⟩ v0':=⟨_,rfl⟩;have jm:Mine [52] K w W8:=(Mine.new_ hb).trans (Z72 (h.new_ hb).o0 hg h.n0);have gl:=jm.only _ _ _ Yc h.blk;(have hm:Mine [52,36] K w W9:=by rw [Gh];exact (jm.up Ye).trans (Mine.cell (p:=⟨gt,0,none⟩) gl Ye h.nog v0'));(have Ct:Blk W9 gt 36 #[v0',v1,v2,v3,.int .i64 vis,.int .i64 lost]:=by rw [Gh];exact gl.set_ 0 _);(have Ui:W9.ownsRow 0 52 14 v0' es'.length (es'.flatMap Z0j.cells):=by rw [Gh];exact ownsRow_setCell_other (a:=⟨gt,0,none⟩) hown (Z01 hown gl Yc) _);have cf:=Zg0 (h.new_ hb).lt h.n0 hat;refine Ymm ?_;intro css q1 q2 q3 sn A c g1 g2 g3 hc
 exact ⟨⟨Ct,
  Ui,
  cf,
  ⟨css,Z0q q1 hm.only Yc,q2.imp fun a cs hr=>(Z0v n).keep hm.fr.size (fun k hk hl=>⟨hk,hc k hk hl⟩) hr,q3⟩,
  h.n1,
  Z0q h.o2 hm.only Yc,
  h.n2,
  Z0q h.o3 hm.only Yc,
  h.n3,
  ⟨sn,A,c,g1.only hm.only Yc Yc,g2,g3⟩,
  h.map_.mine hm Yc Yc Yc,
  h.srt,
  h.nog,
  h.sub,
  fun k hk=>Zsw (h.lt k hk) hm.fr.size,
  fun k hk=>(h.cel k hk).imp id (fun ⟨c,t,f,hh⟩=>⟨c,t,f,(hc k hk (Zt7.1 hh).1).trans hh⟩)⟩,hm.fr⟩
theorem SR.apart {ap':List Z1a}{v2':Value}{W W8:World}(h:SR n B K C w gt gm gp ns vis lost es gs hs ap nw v0 v1 v2 v3) (hb:Below w.heap.size w W) (hown:W8.ownsRow 0 122 7 v2' ap'.length (ap'.flatMap Z1a.cells)) (hg:W.grownBy W8 v2.ownBlock) (hat:v2'.ownBlock=v2.ownBlock∨v2'.ownBlock=some W.heap.size) :
 SR n B K C (W8.setCell ⟨gt,2,none⟩ v2') gt gm gp ns vis lost es gs hs ap' nw v0 v1 v2' v3∧Fr (fun k=>¬K k) w (W8.setCell ⟨gt,2,none⟩ v2'):=by
 obtain ⟨W9,Gh⟩:∃W9,W9=W8.setCell ⟨gt,2,none⟩ v2':=⟨_,rfl⟩;have jm:Mine [122] K w W8:=(Mine.new_ hb).trans (Z72 (h.new_ hb).o2 hg h.n2);have gl:=jm.only _ _ _ Yc h.blk;(have hm:Mine [122,36] K w W9:=by rw [Gh];exact (jm.up Ye).trans (Mine.cell (p:=⟨gt,2,none⟩) gl Ye h.nog v2'));(have Ct:Blk W9 gt 36 #[v0,v1,v2',v3,.int .i64 vis,.int .i64 lost]:=by rw [Gh];exact gl.set_ 2 _);(have Ui:W9.ownsRow 0 122 7 v2' ap'.length (ap'.flatMap Z1a.cells):=by rw [Gh];exact ownsRow_setCell_other (a:=⟨gt,2,none⟩) hown (Z01 hown gl Yc) _);have cf:=Zg0 (h.new_ hb).lt h.n2 hat;refine Ymm ?_;intro css q1 q2 q3 sn A c g1 g2 g3 hc
 exact ⟨⟨Ct,
  Z0q h.o0 hm.only Yc,
  h.n0,
  ⟨css,Z0q q1 hm.only Yc,q2.imp fun a cs hr=>(Z0v n).keep hm.fr.size (fun k hk hl=>⟨hk,hc k hk hl⟩) hr,q3⟩,
  h.n1,
  Ui,
  cf,
  Z0q h.o3 hm.only Yc,
  h.n3,
  ⟨sn,A,c,g1.only hm.only Yc Yc,g2,g3⟩,
  h.map_.mine hm Yc Yc Yc,
  h.srt,
  h.nog,
  h.sub,
  fun k hk=>Zsw (h.lt k hk) hm.fr.size,
  fun k hk=>(h.cel k hk).imp id (fun ⟨c,t,f,hh⟩=>⟨c,t,f,(hc k hk (Zt7.1 hh).1).trans hh⟩)⟩,hm.fr⟩
theorem SR.putN (h:SR n B K C w gt gm gp ns vis lost es gs hs ap nw v0 v1 v2 v3) (s:Sym) (hn:nw.length≤1000000) :
 Calls Tryz.prog 44 #[.pointer (some ⟨ns,0,none⟩),.agg (Q1d s)] w fun e w'=>e = .returned (.bool (!has Z0o (puts Z0o [] nw) s))∧OSym (fun k=>K k∨v3.ownBlock=some k) w' ns (put Z0o (puts Z0o [] nw) s)∧Mine [154,41] (fun k=>K k∨v3.ownBlock=some k) w w':=by
 have hl :∀k,(K k∨v3.ownBlock=some k)→k<w.heap.size:=fun k hk=>hk.elim (h.lt k) (Z3i h.o3 k);have:=Z1e Z40 nw (l:=[]) Srt.nil;exact Zpb s h.set_ (Srt.puts Z40 nw Srt.nil) hl (by simp at this;omega)
theorem SR.old {w':World}{s:Sym}(h:SR n B K C w gt gm gp ns vis lost es gs hs ap nw v0 v1 v2 v3) (hs':s∈nw) (h1:OSym (fun k=>K k∨v3.ownBlock=some k) w' ns (put Z0o (puts Z0o [] nw) s)) (hm:Mine [154,41] (fun k=>K k∨v3.ownBlock=some k) w w'):SR n B K C w' gt gm gp ns vis lost es gs hs ap nw v0 v1 v2 v3∧Fr (fun k=>¬K k) w w':=by
 obtain ⟨W9,Gh⟩:∃W9,W9=w':=⟨_,rfl⟩;rw [←Gh] at h1 hm ⊢;have i6:Mine [154,41] K w W9:=⟨hm.only,hm.fr.mono (fun k _ hk hq=>hk (.inl hq))⟩;have ho:W9.ownsRow 0 41 3 v3 nw.length (nw.flatMap Sym.cells):=Z0s h.o3 hm.fr (fun k e hk=>hk (.inr e));rw [Z47 (by rw [Z9z];simpa using hs')] at h1;obtain ⟨css,q1,q2,q3⟩:=h.o1;obtain ⟨sn,A,c,g1,g2,g3⟩:=h.set_;have hc :∀k,C k→k<w.heap.size→W9.heap[k]? = w.heap[k]?:=fun k hk hl=>i6.fr.block k hl (fun hn=>hn (h.sub k hk))
 exact ⟨⟨i6.only _ _ _ Yc h.blk,
  Z0q h.o0 i6.only Yc,
  h.n0,
  ⟨css,Z0q q1 i6.only Yc,q2.imp fun a cs hr=>(Z0v n).keep i6.fr.size (fun k hk hl=>⟨hk,hc k hk hl⟩) hr,q3⟩,
  h.n1,
  Z0q h.o2 i6.only Yc,
  h.n2,
  ho,
  h.n3,
  h1,
  h.map_.mine i6 Yc Yc Yc,
  h.srt,
  h.nog,
  h.sub,
  fun k hk=>Zsw (h.lt k hk) i6.fr.size,
  fun k hk=>(h.cel k hk).imp id (fun ⟨c,t,f,hh⟩=>⟨c,t,f,(hc k hk (Zt7.1 hh).1).trans hh⟩)⟩,i6.fr⟩
theorem SR.news {s:Sym}{v3':Value}{w5 W W8:World}(h:SR n B K C w gt gm gp ns vis lost es gs hs ap nw v0 v1 v2 v3) (h1:OSym (fun k=>K k∨v3.ownBlock=some k) w5 ns (put Z0o (puts Z0o [] nw) s)) (hm5:Mine [154,41] (fun k=>K k∨v3.ownBlock=some k) w w5) (hb:Below w5.heap.size w5 W)
 (hown:W8.ownsRow 0 41 3 v3' (nw ++ [s]).length ((nw ++ [s]).flatMap Sym.cells)) (hg:W.grownBy W8 v3.ownBlock) (hat:v3'.ownBlock=v3.ownBlock∨v3'.ownBlock=some W.heap.size) :
 SR n B K C (W8.setCell ⟨gt,3,none⟩ v3') gt gm gp ns vis lost es gs hs ap (nw ++ [s]) v0 v1 v2 v3'∧Fr (fun k=>¬K k) w (W8.setCell ⟨gt,3,none⟩ v3'):=by
 obtain ⟨W9,Gh⟩:∃W9,W9=W8.setCell ⟨gt,3,none⟩ v3':=⟨_,rfl⟩;have hm5K:Mine [154,41] K w w5:=⟨hm5.only,hm5.fr.mono (fun k _ hk hq=>hk (.inl hq))⟩;have Bl:w5.ownsRow 0 41 3 v3 nw.length (nw.flatMap Sym.cells):=Z0s h.o3 hm5.fr (fun k e hk=>hk (.inr e));have Na :∀k,K k→k<W.heap.size:=fun k hk=>Zsw (Zsw (h.lt k hk) hm5.fr.size) hb.size;have hmW:Mine [154,41] K w W8:=(hm5K.trans (Mine.new_ hb)).trans ((Z72 (Z02 Bl hb) hg h.n3).up Ye);have gl:=hmW.only _ _ _ Yc h.blk;(have hm:Mine [154,41,36] K w W9:=by rw [Gh];exact (hmW.up (by simp only [Ztb,Zth,or_false];intro t ht;rcases ht with ht|ht<;>simp [ht])).trans (Mine.cell (p:=⟨gt,3,none⟩) gl Ye h.nog v3'));(have Ct:Blk W9 gt 36 #[v0,v1,v2,v3',.int .i64 vis,.int .i64 lost]:=by rw [Gh];exact gl.set_ 3 _);(have Ui:W9.ownsRow 0 41 3 v3' (nw ++ [s]).length ((nw ++ [s]).flatMap Sym.cells):=by rw [Gh];exact ownsRow_setCell_other (a:=⟨gt,3,none⟩) hown (Z01 hown gl Yc) _);have cf:=Zg0 Na h.n3 hat
 have O9:OSym (fun k=>K k∨v3'.ownBlock=some k) W9 ns (puts Z0o [] (nw ++ [s])):=by
  rw [Z2u];obtain ⟨sn',A',c',e1,e2,e3⟩:=h1;have e1W:=e1.new_ hb;have Cf:Fr (fun k=>v3.ownBlock=some k) W W8:=(Fr.refl _ W).grown hg (fun k hk=>.inl hk);have Ty:=e1W.fr Cf (fun hk=>e2 (.inr hk)) (fun a ha hk=>e3 a ha (.inr hk));have hgt :∀k,k=gt→Z26 W8 k:=fun k e=>e ▸ gl.at_;refine ⟨sn',A',c',?_,fun hk=>?_,fun a ha hk=>?_⟩
  · rw [Gh]
    exact Ty.fr (M:=(· = gt)) ((Fr.refl (· = gt) W8).setCell (p:=⟨gt,3,none⟩) (.inl rfl) _) (fun e=>by have:=Ty.blk;rw [e] at this;exact this.ne_ gl Yc rfl) (fun a ha e=>by
     subst ha
     exact Z01 Ty.row gl Yc (by simp [Value.ownBlock,e]))
  · rcases hk with hk|hk
    · exact e2 (.inl hk)
    · rcases hat with h9|h9
      · exact e2 (.inr (h9 ▸ hk))
      · rw [h9] at hk;injection hk with hk;have:=e1W.lt;omega
  · rcases hk with hk|hk
    · exact e3 a ha (.inl hk)
    · rcases hat with h9|h9
      · exact e3 a ha (.inr (h9 ▸ hk))
      · rw [h9] at hk;injection hk with hk;have:=e1W.row_lt a ha;omega
 refine Ymm ?_;intro css q1 q2 q3 sn A c g1 g2 g3 hc
 exact ⟨⟨Ct,
  Z0q h.o0 hm.only Yc,
  h.n0,
  ⟨css,Z0q q1 hm.only Yc,q2.imp fun a cs hr=>(Z0v n).keep hm.fr.size (fun k hk hl=>⟨hk,hc k hk hl⟩) hr,q3⟩,
  h.n1,
  Z0q h.o2 hm.only Yc,
  h.n2,
  Ui,
  cf,
  O9,
  h.map_.mine hm Yc Yc Yc,
  h.srt,
  h.nog,
  h.sub,
  fun k hk=>Zsw (h.lt k hk) hm.fr.size,
  fun k hk=>(h.cel k hk).imp id (fun ⟨c,t,f,hh⟩=>⟨c,t,f,(hc k hk (Zt7.1 hh).1).trans hh⟩)⟩,hm.fr⟩
theorem SR.hole {hh:Z43}{v1':Value}{W W8:World}(h:SR n B K C w gt gm gp ns vis lost es gs hs ap nw v0 v1 v2 v3) (hb:Below w.heap.size w W) (ha:Z5u (Z0v n) 80 (fun j=>C j∨(NewD w.heap.size W j∧Z26 W j)) W v1 (hs ++ [hh]) v1' W8) :
 SR n B (fun j=>K j∨NewD w.heap.size W j) (fun j=>C j∨(NewD w.heap.size W j∧Z26 W j)) (W8.setCell ⟨gt,1,none⟩ v1') gt gm gp ns vis lost es gs (hs ++ [hh]) ap nw v0 v1' v2 v3∧Fr (fun k=>¬K k) w (W8.setCell ⟨gt,1,none⟩ v1'):=by
 obtain ⟨W9,Gh⟩:∃W9,W9=W8.setCell ⟨gt,1,none⟩ v1':=⟨_,rfl⟩;obtain ⟨a1,a2,a3⟩:=ha;have hzW:=hb.size;have o1W:=h.o1.new_ hb;have jm:Mine [80] K w W8:=(Mine.new_ hb).trans (Z72 (Classical.choose_spec o1W).1 a2 h.n1);have gl:=jm.only _ _ _ Yc h.blk;(have hm:Mine [80,36] K w W9:=by rw [Gh];exact (jm.up Ye).trans (Mine.cell (p:=⟨gt,1,none⟩) gl Ye h.nog v1'));(have Ct:Blk W9 gt 36 #[v0,v1',v2,v3,.int .i64 vis,.int .i64 lost]:=by rw [Gh];exact gl.set_ 1 _);have Sj:=hm.fr.size;have Io :∀k,(v1.ownBlock=some k)→k<w.heap.size:=fun k hk=>h.o1.lt k hk
 have cW :∀j,NewD w.heap.size W j→W9.heap[j]? = W.heap[j]?:=fun j hj=>by
  rw [Gh,Below.heap_setCell _ _ _ _ (by dsimp only;have:=h.blk.lt;have:=hj.1;omega)];exact a2.block j hj.2 (fun e=>by have:=Io j e.symm;have:=hj.1;omega)
 have hz98:W.heap.size≤W9.heap.size:=by rw [Gh];simpa using a2.size
 have Ui:OwnC (Z0v n) 80 (fun j=>C j∨(NewD w.heap.size W j∧Z26 W j)) W9 v1' (hs ++ [hh]):=by
  rw [Gh];refine a1.fr (M:=(· = gt)) ((Fr.refl (· = gt) W8).setCell (p:=⟨gt,1,none⟩) (.inl rfl) _) (fun j hj e=>?_) (fun j hj e=>?_)
  · subst e
    rcases hj with hj|hj
    · exact h.nog (h.sub _ hj)
    · have:=h.blk.lt;have:=hj.1.1;omega
  · subst e
    exact Z01 (Classical.choose_spec a1).1 gl Yc hj
 have cf :∀k,v1'.ownBlock=some k→¬(K k∨NewD w.heap.size W k):=fun k hk hq=>by
  rcases a3 with a3|a3
  · rw [a3] at hk
    rcases hq with hq|hq
    · exact h.n1 k hk hq
    · have:=Io k hk;have:=hq.1;omega
  · rw [a3] at hk;injection hk with hk
    rcases hq with hq|hq
    · have:=h.lt k hq;omega
    · have:=hq.2;omega
 have old :∀k,k<w.heap.size→(K k∨NewD w.heap.size W k)→K k:=fun k hk hq=>hq.elim id (fun hq=>by have:=hq.1;omega);refine Ymm ?_;intro css q1 q2 q3 sn A c g1 g2 g3 hc
 exact ⟨⟨Ct,
  Z0q h.o0 hm.only Yc,
  fun k e hq=>h.n0 k e (old k (Z3i h.o0 k e) hq),
  Ui,
  cf,
  Z0q h.o2 hm.only Yc,
  fun k e hq=>h.n2 k e (old k (Z3i h.o2 k e) hq),
  Z0q h.o3 hm.only Yc,
  fun k e hq=>h.n3 k e (old k (Z3i h.o3 k e) hq),
  ⟨sn,A,c,g1.only hm.only Yc Yc,fun hq=>g2 (hq.imp (old _ g1.lt) id),fun a ha hq=>g3 a ha (hq.imp (old _ (g1.row_lt a ha)) id)⟩,
  ⟨hm.only _ _ _ Yc h.map_.1,fun hq=>h.map_.2.1 (old _ h.map_.1.lt hq),by
   obtain ⟨Nf,A2,c2,p1,p2,p3⟩:=h.map_.2.2
   exact ⟨Nf,A2,c2,p1.only hm.only Yc Yc,fun hq=>p2 (old _ p1.lt hq),fun a ha hq=>p3 a ha (old _ (p1.row_lt a ha) hq)⟩⟩,
  h.srt,
  fun hq=>h.nog (old _ h.blk.lt hq),
  fun k hk=>hk.imp (h.sub k) (fun hk=>hk.1),
  fun k hk=>hk.elim (fun hk=>Zsw (h.lt k hk) Sj) (fun hk=>Zsw hk.2 hz98),
  fun k hk=>hk.elim (fun hk=>(h.cel k hk).imp id (fun ⟨c,t,f,hh⟩=>⟨c,t,f,(hc k hk (Zt7.1 hh).1).trans hh⟩)) (fun hk=>.inr (by obtain ⟨c,t,f,hh⟩:=hk.2;exact ⟨c,t,f,(cW k hk.1).trans hh⟩))⟩,hm.fr⟩
end
end
end Go.Proofs.YtcnnofgaifcgaaaGreat
