/-
  Texts put together: BkState2, BkState3.
-/
import Derived.Test.YtfidcfjcmlgkbaaGreatPHu
namespace Go.Proofs.YtfidcfjcmlgkbaaGreat
open Lib (hid)
set_option maxRecDepth 100000
set_option maxHeartbeats 32000000
set_option linter.unusedSimpArgs false
section
open Go.RowKit
section
variable {B:Nat} {K K' C:Nat→Prop} {w w':World}
theorem OSet.priv {α:Type} {tSet tE size:Nat} {cells:α→List Value} {b:Nat} {l:List α} (h:OSet tSet tE size cells K w b l) (hp:Priv B w w'):OSet tSet tE size cells K w' b l:=by
 obtain ⟨sn,A,c,g1,g2,g3⟩:=h;exact ⟨sn,A,c,g1.priv hp,g2,g3⟩
theorem OSet.cls {α:Type} {tSet tE size:Nat} {cells:α→List Value} {b:Nat} {l:List α} (h:OSet tSet tE size cells K w b l) (hk : ∀k,Z1v w k→K' k→K k):OSet tSet tE size cells K' w b l:=by
 obtain ⟨sn,A,c,g1,g2,g3⟩:=h;refine ⟨sn,A,c,g1,fun h=>g2 (hk _ g1.blk.at_ h),fun a ha h=>g3 a ha (hk _ ?_ h)⟩;subst ha;rcases Z0b g1.row with ⟨hv,_⟩ | ⟨g,cap,hv,_,_,⟨cur,hc,_⟩,_⟩
 · cases hv
 · injection hv with hv
   injection hv with hv;subst hv;exact ⟨cur,tE,(0,0),hc⟩
theorem OwnC.priv {α:Type} {r:RepT α} {e:TypeId} {v:Value} {l:List α} (h:OwnC r e C w v l) (hp:Priv B w w') (hC : ∀k,C k→k<B∨Z1v w k):OwnC r e C w' v l:=by
 obtain ⟨css,h1,h2,h3⟩:=h;exact ⟨css,Z2o h1 hp,h2.imp fun a cs hr=>r.keep hp.size (fun k hk hl=>⟨hk,hp.block k hl (hC k hk)⟩) hr,h3⟩
theorem Z4a {e:TypeId} {size n:Nat} {v:Value} {xs:List Value} (h:w.ownsRow 0 e size v n xs) : ∀k,v.ownBlock=some k→Z1v w k:=by
 intro k hk;rcases h.2 with ⟨rfl,_⟩ | ⟨g,cap,cur,rfl,_,hg,_⟩
 · cases hk
 · simp only [Value.ownBlock,Option.some.injEq] at hk
   subst hk;exact ⟨cur,e,(0,0),hg⟩
end
structure SR (n B:Nat) (K C:Nat→Prop) (w:World) (gt gm gp ns:Nat) (vis lost:Int) (es:List Z09) (gs:List PgT) (hs:List Z5b) (ap:List Z0n) (nw:List Sym) (v0 v1 v2 v3:Value):Prop where
 blk:Blk w gt 123 #[v0,v1,v2,v3,.int .i64 vis,.int .i64 lost]
 o0:w.ownsRow 0 64 14 v0 es.length (es.flatMap Z09.cells)
 n0 : ∀k,v0.ownBlock=some k→¬K k
 o1:OwnC (Z0t n) 78 C w v1 hs
 n1 : ∀k,v1.ownBlock=some k→¬K k
 o2:w.ownsRow 0 195 7 v2 ap.length (ap.flatMap Z0n.cells)
 n2 : ∀k,v2.ownBlock=some k→¬K k
 o3:w.ownsRow 0 38 3 v3 nw.length (nw.flatMap Sym.cells)
 n3 : ∀k,v3.ownBlock=some k→¬K k
 set_:OSym (fun k=>K k∨v3.ownBlock=some k) w ns (puts Z0r [] nw)
 map_:Z7t K w gm gp gs
 srt:Srt Z0q gs
 nog : ¬K gt
 sub : ∀k,C k→K k
 lt : ∀k,K k→k<w.heap.size
 cel : ∀k,C k→k<B∨Z1v w k
section
variable {n B:Nat} {K K' C:Nat→Prop} {w w':World} {gt gm gp ns:Nat} {vis lost:Int} {es:List Z09} {gs:List PgT} {hs:List Z5b} {ap:List Z0n} {nw:List Sym} {v0 v1 v2 v3:Value}
theorem SR.mine {ts:List Nat} (h:SR n B K C w gt gm gp ns vis lost es gs hs ap nw v0 v1 v2 v3) (hm:Mine ts K w w') (h3:123 ∉ ts) (h4:64 ∉ ts) (h5:78 ∉ ts) (h6:195 ∉ ts) (h7:38 ∉ ts) (h8:203 ∉ ts) (h9:242 ∉ ts) (h10:281 ∉ ts) (h11:240 ∉ ts) :
 SR n B K C w' gt gm gp ns vis lost es gs hs ap nw v0 v1 v2 v3:=by
 obtain ⟨css,q1,q2,q3⟩:=h.o1;have hc : ∀k,C k→k<w.heap.size→w'.heap[k]? = w.heap[k]?:=fun k hk hl=>hm.fr.block k hl (fun hn=>hn (h.sub k hk));refine ⟨hm.only _ _ _ h3 h.blk,Z0j h.o0 hm.only h4,h.n0,⟨css,Z0j q1 hm.only h5,q2.imp fun a cs hr=>(Z0t n).keep hm.fr.size (fun k hk hl=>⟨hk,hc k hk hl⟩) hr,q3⟩,h.n1,Z0j h.o2 hm.only h6,h.n2,Z0j h.o3 hm.only h7,h.n3,?_,h.map_.mine hm h9 h10 h11,h.srt,h.nog,h.sub,fun k hk=>Zma (h.lt k hk) hm.fr.size,fun k hk=>(h.cel k hk).imp id (fun ⟨c,t,f,hh⟩=>⟨c,t,f,(hc k hk (Zmi.1 hh).1).trans hh⟩)⟩;obtain ⟨sn,A,c,g1,g2,g3⟩:=h.set_;exact ⟨sn,A,c,g1.only hm.only h8 h7,g2,g3⟩
theorem SR.new_ (h:SR n B K C w gt gm gp ns vis lost es gs hs ap nw v0 v1 v2 v3) (hb:Below w.heap.size w w'):SR n B K C w' gt gm gp ns vis lost es gs hs ap nw v0 v1 v2 v3:=
 h.mine (ts:=[]) (Mine.new_ hb) (by simp) (by simp) (by simp) (by simp) (by simp) (by simp) (by simp) (by simp) (by simp)
theorem SR.priv (h:SR n B K C w gt gm gp ns vis lost es gs hs ap nw v0 v1 v2 v3) (hp:Priv B w w'):SR n B K C w' gt gm gp ns vis lost es gs hs ap nw v0 v1 v2 v3:=
 ⟨h.blk.priv hp,Z2o h.o0 hp,h.n0,h.o1.priv hp h.cel,h.n1,Z2o h.o2 hp,h.n2,Z2o h.o3 hp,h.n3,h.set_.priv hp,⟨h.map_.1.priv hp,h.map_.2.1,h.map_.2.2.priv hp⟩,h.srt,h.nog,h.sub,fun k hk=>Zma (h.lt k hk) hp.size,fun k hk=>(h.cel k hk).imp id (fun ⟨c,t,f,hh⟩=>⟨c,t,f,(hp.block k (Zmi.1 hh).1 (.inr ⟨c,t,f,hh⟩)).trans hh⟩)⟩
theorem SR.cls (h:SR n B K C w gt gm gp ns vis lost es gs hs ap nw v0 v1 v2 v3) (hk : ∀k,Z1v w k→K' k→K k) (hC : ∀k,C k→K' k) (hl : ∀k,K' k→k<w.heap.size):SR n B K' C w gt gm gp ns vis lost es gs hs ap nw v0 v1 v2 v3:=by
 obtain ⟨css,q1,q2,q3⟩:=h.o1
 exact ⟨h.blk,h.o0,fun k e hK=>h.n0 k e (hk k (Z4a h.o0 k e) hK),h.o1,fun k e hK=>h.n1 k e (hk k (Z4a q1 k e) hK),h.o2,fun k e hK=>h.n2 k e (hk k (Z4a h.o2 k e) hK),h.o3,fun k e hK=>h.n3 k e (hk k (Z4a h.o3 k e) hK),
  h.set_.cls (fun k hc hK=>hK.imp (hk k hc) id),⟨h.map_.1,fun hK=>h.map_.2.1 (hk _ h.map_.1.at_ hK),h.map_.2.2.cls hk⟩,h.srt,fun hK=>h.nog (hk _ h.blk.at_ hK),hC,hl,h.cel⟩
theorem SR.frB {M:Nat→Prop} (h:SR n B K C w gt gm gp ns vis lost es gs hs ap nw v0 v1 v2 v3) (hF:Fr M w w') (hM : ∀k,M k→K k∧¬C k):SR n B K C w' gt gm gp ns vis lost es gs hs ap nw v0 v1 v2 v3:=by
 have hc : ∀k,C k→¬M k:=fun k hk hm=>(hM k hm).2 hk;obtain ⟨sn,A,c,g1,g2,g3⟩:=h.set_
 refine ⟨h.blk.fr hF (fun hm=>h.nog (hM _ hm).1),Z1f h.o0 hF (fun k e hm=>h.n0 k e (hM k hm).1),h.n0,h.o1.fr hF hc (fun k e hm=>h.n1 k e (hM k hm).1),h.n1,Z1f h.o2 hF (fun k e hm=>h.n2 k e (hM k hm).1),h.n2,Z1f h.o3 hF (fun k e hm=>h.n3 k e (hM k hm).1),h.n3,
  ⟨sn,A,c,g1.fr hF (fun hm=>g2 (.inl (hM _ hm).1)) (fun a ha hm=>g3 a ha (.inl (hM _ hm).1)),g2,g3⟩,h.map_.theirs hF (fun k hm=>(hM k hm).1) (fun k hk=>.inl hk),h.srt,h.nog,h.sub,fun k hk=>Zma (h.lt k hk) hF.size,fun k hk=>(h.cel k hk).imp id (fun ⟨c,t,f,hh⟩=>⟨c,t,f,(hF.block k (Zmi.1 hh).1 (hc k hk)).trans hh⟩)⟩
theorem SR.ground {gs':List PgT} (h:SR n B K C w gt gm gp ns vis lost es gs hs ap nw v0 v1 v2 v3) (hm:Mine [281,240] K w w') (h1:Z7t K w' gm gp gs') (h2:Srt Z0q gs'):SR n B K C w' gt gm gp ns vis lost es gs' hs ap nw v0 v1 v2 v3:=by
 obtain ⟨css,q1,q2,q3⟩:=h.o1;have hc : ∀k,C k→k<w.heap.size→w'.heap[k]? = w.heap[k]?:=fun k hk hl=>hm.fr.block k hl (fun hn=>hn (h.sub k hk));refine ⟨hm.only _ _ _ (by decide) h.blk,Z0j h.o0 hm.only (by decide),h.n0,⟨css,Z0j q1 hm.only (by decide),q2.imp fun a cs hr=>(Z0t n).keep hm.fr.size (fun k hk hl=>⟨hk,hc k hk hl⟩) hr,q3⟩,h.n1,Z0j h.o2 hm.only (by decide),h.n2,Z0j h.o3 hm.only (by decide),h.n3,?_,h1,h2,h.nog,h.sub,fun k hk=>Zma (h.lt k hk) hm.fr.size,fun k hk=>(h.cel k hk).imp id (fun ⟨c,t,f,hh⟩=>⟨c,t,f,(hc k hk (Zmi.1 hh).1).trans hh⟩)⟩;obtain ⟨sn,A,c,g1,g2,g3⟩:=h.set_;exact ⟨sn,A,c,g1.only hm.only (by decide) (by decide),g2,g3⟩
end
end
section
open Go.RowKit
section
variable {K:Nat→Prop} {w w':World}
theorem Zfp {e:TypeId} {size n:Nat} {v:Value} {xs:List Value} (h:w.ownsRow 0 e size v n xs) (hg:w.grownBy w' v.ownBlock):Only [e] w w':=fun g t cs hn hb=>hb.grown hg (Z02 h hb (fun e=>hn (by simp [e])))
theorem Z5s {e:TypeId} {size n:Nat} {v:Value} {xs:List Value} (h:w.ownsRow 0 e size v n xs) (hg:w.grownBy w' v.ownBlock) (hK : ∀k,v.ownBlock=some k→¬K k):Mine [e] K w w':=
 ⟨Zfp h hg,(Fr.refl _ w).grown hg (fun k hk=>.inl (hK k hk))⟩
theorem Zdf {v v':Value} (hl : ∀k,K k→k<w.heap.size) (hK : ∀k,v.ownBlock=some k→¬K k) (hat:v'.ownBlock=v.ownBlock∨v'.ownBlock=some w.heap.size) : ∀k,v'.ownBlock=some k→¬K k:=fun k hk=>by
 rcases hat with h | h
 · exact hK k (h ▸ hk)
 · rw [h] at hk
   injection hk with hk;intro hq;have:=hl k hq;omega
end
section
variable {n B:Nat} {K C:Nat→Prop} {w:World} {gt gm gp ns:Nat} {vis lost:Int} {es:List Z09} {gs:List PgT} {hs:List Z5b} {ap:List Z0n} {nw:List Sym} {v0 v1 v2 v3:Value}
theorem SR.theirs {M K':Nat→Prop} {w':World} (h:SR n B K C w gt gm gp ns vis lost es gs hs ap nw v0 v1 v2 v3) (hF:Fr M w w') (hM : ∀k,M k→K k∧¬C k) (hK : ∀k,K' k→K k∨w.heap.size≤k) (hC : ∀k,C k→K' k) (hl : ∀k,K' k→k<w'.heap.size):SR n B K' C w' gt gm gp ns vis lost es gs hs ap nw v0 v1 v2 v3:=by
 have h2:=h.frB hF hM;have up : ∀k,k<w.heap.size→K' k→K k:=fun k hk hq=>(hK k hq).elim id (fun hq=>by omega);obtain ⟨sn,A,c,g1,g2,g3⟩:=h.set_;obtain ⟨m1,m2,sn2,A2,c2,p1,p2,p3⟩:=h.map_
 have hs2:OSym (fun k=>K' k∨v3.ownBlock=some k) w' ns (puts Z0r [] nw):=
  ⟨sn,A,c,g1.fr hF (fun hm=>g2 (.inl (hM _ hm).1)) (fun a ha hm=>g3 a ha (.inl (hM _ hm).1)),fun hq=>g2 (hq.imp (up _ g1.lt) id),fun a ha hq=>g3 a ha (hq.imp (up _ (g1.row_lt a ha)) id)⟩
 have hm2:Z7t K' w' gm gp gs:=h.map_.theirs hF (fun k hm=>(hM k hm).1) hK;exact ⟨h2.blk,h2.o0,fun k e hq=>h.n0 k e (up k (Z4p h.o0 k e) hq),h2.o1,fun k e hq=>h.n1 k e (up k (h.o1.lt k e) hq),h2.o2,fun k e hq=>h.n2 k e (up k (Z4p h.o2 k e) hq),h2.o3,fun k e hq=>h.n3 k e (up k (Z4p h.o3 k e) hq),hs2,hm2,h.srt,fun hq=>h.nog (up _ h.blk.lt hq),hC,hl,h2.cel⟩
theorem SR.elem {es':List Z09} {v0':Value} {W W8:World} (h:SR n B K C w gt gm gp ns vis lost es gs hs ap nw v0 v1 v2 v3) (hb:Below w.heap.size w W) (hown:W8.ownsRow 0 64 14 v0' es'.length (es'.flatMap Z09.cells)) (hg:W.grownBy W8 v0.ownBlock) (hat:v0'.ownBlock=v0.ownBlock∨v0'.ownBlock=some W.heap.size) :
 SR n B K C (W8.setCell ⟨gt,0,none⟩ v0') gt gm gp ns vis lost es' gs hs ap nw v0' v1 v2 v3∧Fr (fun k=>¬K k) w (W8.setCell ⟨gt,0,none⟩ v0'):=by
 obtain ⟨W9,hW9⟩ : ∃W9,W9=W8.setCell ⟨gt,0,none⟩ v0':=⟨_,rfl⟩;have hm8:Mine [64] K w W8:=(Mine.new_ hb).trans (Z5s (h.new_ hb).o0 hg h.n0);have hb8:=hm8.only _ _ _ (by decide) h.blk;(have hm:Mine [64,123] K w W9:=by rw [hW9];exact (hm8.up (by simp)).trans (Mine.cell (p:=⟨gt,0,none⟩) hb8 (by simp) h.nog v0'));(have hb9:Blk W9 gt 123 #[v0',v1,v2,v3,.int .i64 vis,.int .i64 lost]:=by rw [hW9];exact hb8.set_ 0 _);(have ho9:W9.ownsRow 0 64 14 v0' es'.length (es'.flatMap Z09.cells):=by rw [hW9];exact ownsRow_setCell_other (a:=⟨gt,0,none⟩) hown (Z02 hown hb8 (by decide)) _);have hn9:=Zdf (h.new_ hb).lt h.n0 hat;rw [← hW9];obtain ⟨css,q1,q2,q3⟩:=h.o1;obtain ⟨sn,A,c,g1,g2,g3⟩:=h.set_;have hc : ∀k,C k→k<w.heap.size→W9.heap[k]? = w.heap[k]?:=fun k hk hl=>hm.fr.block k hl (fun hn=>hn (h.sub k hk))
 exact ⟨⟨hb9,
  ho9,
  hn9,
  ⟨css,Z0j q1 hm.only (by decide),q2.imp fun a cs hr=>(Z0t n).keep hm.fr.size (fun k hk hl=>⟨hk,hc k hk hl⟩) hr,q3⟩,
  h.n1,
  Z0j h.o2 hm.only (by decide),
  h.n2,
  Z0j h.o3 hm.only (by decide),
  h.n3,
  ⟨sn,A,c,g1.only hm.only (by decide) (by decide),g2,g3⟩,
  h.map_.mine hm (by decide) (by decide) (by decide),
  h.srt,
  h.nog,
  h.sub,
  fun k hk=>Zma (h.lt k hk) hm.fr.size,
  fun k hk=>(h.cel k hk).imp id (fun ⟨c,t,f,hh⟩=>⟨c,t,f,(hc k hk (Zmi.1 hh).1).trans hh⟩)⟩,hm.fr⟩
theorem SR.apart {ap':List Z0n} {v2':Value} {W W8:World} (h:SR n B K C w gt gm gp ns vis lost es gs hs ap nw v0 v1 v2 v3) (hb:Below w.heap.size w W) (hown:W8.ownsRow 0 195 7 v2' ap'.length (ap'.flatMap Z0n.cells)) (hg:W.grownBy W8 v2.ownBlock) (hat:v2'.ownBlock=v2.ownBlock∨v2'.ownBlock=some W.heap.size) :
 SR n B K C (W8.setCell ⟨gt,2,none⟩ v2') gt gm gp ns vis lost es gs hs ap' nw v0 v1 v2' v3∧Fr (fun k=>¬K k) w (W8.setCell ⟨gt,2,none⟩ v2'):=by
 obtain ⟨W9,hW9⟩ : ∃W9,W9=W8.setCell ⟨gt,2,none⟩ v2':=⟨_,rfl⟩;have hm8:Mine [195] K w W8:=(Mine.new_ hb).trans (Z5s (h.new_ hb).o2 hg h.n2);have hb8:=hm8.only _ _ _ (by decide) h.blk;(have hm:Mine [195,123] K w W9:=by rw [hW9];exact (hm8.up (by simp)).trans (Mine.cell (p:=⟨gt,2,none⟩) hb8 (by simp) h.nog v2'));(have hb9:Blk W9 gt 123 #[v0,v1,v2',v3,.int .i64 vis,.int .i64 lost]:=by rw [hW9];exact hb8.set_ 2 _);(have ho9:W9.ownsRow 0 195 7 v2' ap'.length (ap'.flatMap Z0n.cells):=by rw [hW9];exact ownsRow_setCell_other (a:=⟨gt,2,none⟩) hown (Z02 hown hb8 (by decide)) _);have hn9:=Zdf (h.new_ hb).lt h.n2 hat;rw [← hW9];obtain ⟨css,q1,q2,q3⟩:=h.o1;obtain ⟨sn,A,c,g1,g2,g3⟩:=h.set_;have hc : ∀k,C k→k<w.heap.size→W9.heap[k]? = w.heap[k]?:=fun k hk hl=>hm.fr.block k hl (fun hn=>hn (h.sub k hk))
 exact ⟨⟨hb9,
  Z0j h.o0 hm.only (by decide),
  h.n0,
  ⟨css,Z0j q1 hm.only (by decide),q2.imp fun a cs hr=>(Z0t n).keep hm.fr.size (fun k hk hl=>⟨hk,hc k hk hl⟩) hr,q3⟩,
  h.n1,
  ho9,
  hn9,
  Z0j h.o3 hm.only (by decide),
  h.n3,
  ⟨sn,A,c,g1.only hm.only (by decide) (by decide),g2,g3⟩,
  h.map_.mine hm (by decide) (by decide) (by decide),
  h.srt,
  h.nog,
  h.sub,
  fun k hk=>Zma (h.lt k hk) hm.fr.size,
  fun k hk=>(h.cel k hk).imp id (fun ⟨c,t,f,hh⟩=>⟨c,t,f,(hc k hk (Zmi.1 hh).1).trans hh⟩)⟩,hm.fr⟩
theorem SR.putN (h:SR n B K C w gt gm gp ns vis lost es gs hs ap nw v0 v1 v2 v3) (s:Sym) (hn:nw.length≤1000000) :
 Calls Tryz.prog 88 #[.pointer (some ⟨ns,0,none⟩),.agg #[.int .i64 s.kind,.string s.text,.int .i64 s.n]] w fun e w'=>e = .returned (.bool (!has Z0r (puts Z0r [] nw) s))∧OSym (fun k=>K k∨v3.ownBlock=some k) w' ns (put Z0r (puts Z0r [] nw) s)∧Mine [203,38] (fun k=>K k∨v3.ownBlock=some k) w w':=by
 have hl : ∀k,(K k∨v3.ownBlock=some k)→k<w.heap.size:=fun k hk=>hk.elim (h.lt k) (Z4p h.o3 k);have:=Z12 Z4s nw (l:=[]) Srt.nil;exact Zjq s h.set_ (Srt.puts Z4s nw Srt.nil) hl (by simp at this;omega)
theorem SR.old {w':World} {s:Sym} (h:SR n B K C w gt gm gp ns vis lost es gs hs ap nw v0 v1 v2 v3) (hs':s∈nw) (h1:OSym (fun k=>K k∨v3.ownBlock=some k) w' ns (put Z0r (puts Z0r [] nw) s)) (hm:Mine [203,38] (fun k=>K k∨v3.ownBlock=some k) w w'):SR n B K C w' gt gm gp ns vis lost es gs hs ap nw v0 v1 v2 v3∧Fr (fun k=>¬K k) w w':=by
 obtain ⟨W9,hW9⟩ : ∃W9,W9=w':=⟨_,rfl⟩;rw [← hW9] at h1 hm ⊢;have hmK:Mine [203,38] K w W9:=⟨hm.only,hm.fr.mono (fun k _ hk hq=>hk (.inl hq))⟩;have ho:W9.ownsRow 0 38 3 v3 nw.length (nw.flatMap Sym.cells):=Z1f h.o3 hm.fr (fun k e hk=>hk (.inr e));rw [Z4b (by rw [Z8i];simpa using hs')] at h1;obtain ⟨css,q1,q2,q3⟩:=h.o1;obtain ⟨sn,A,c,g1,g2,g3⟩:=h.set_;have hc : ∀k,C k→k<w.heap.size→W9.heap[k]? = w.heap[k]?:=fun k hk hl=>hmK.fr.block k hl (fun hn=>hn (h.sub k hk))
 exact ⟨⟨hmK.only _ _ _ (by decide) h.blk,
  Z0j h.o0 hmK.only (by decide),
  h.n0,
  ⟨css,Z0j q1 hmK.only (by decide),q2.imp fun a cs hr=>(Z0t n).keep hmK.fr.size (fun k hk hl=>⟨hk,hc k hk hl⟩) hr,q3⟩,
  h.n1,
  Z0j h.o2 hmK.only (by decide),
  h.n2,
  ho,
  h.n3,
  h1,
  h.map_.mine hmK (by decide) (by decide) (by decide),
  h.srt,
  h.nog,
  h.sub,
  fun k hk=>Zma (h.lt k hk) hmK.fr.size,
  fun k hk=>(h.cel k hk).imp id (fun ⟨c,t,f,hh⟩=>⟨c,t,f,(hc k hk (Zmi.1 hh).1).trans hh⟩)⟩,hmK.fr⟩
theorem SR.news {s:Sym} {v3':Value} {w5 W W8:World} (h:SR n B K C w gt gm gp ns vis lost es gs hs ap nw v0 v1 v2 v3) (h1:OSym (fun k=>K k∨v3.ownBlock=some k) w5 ns (put Z0r (puts Z0r [] nw) s)) (hm5:Mine [203,38] (fun k=>K k∨v3.ownBlock=some k) w w5) (hb:Below w5.heap.size w5 W)
 (hown:W8.ownsRow 0 38 3 v3' (nw ++ [s]).length ((nw ++ [s]).flatMap Sym.cells)) (hg:W.grownBy W8 v3.ownBlock) (hat:v3'.ownBlock=v3.ownBlock∨v3'.ownBlock=some W.heap.size) :
 SR n B K C (W8.setCell ⟨gt,3,none⟩ v3') gt gm gp ns vis lost es gs hs ap (nw ++ [s]) v0 v1 v2 v3'∧Fr (fun k=>¬K k) w (W8.setCell ⟨gt,3,none⟩ v3'):=by
 obtain ⟨W9,hW9⟩ : ∃W9,W9=W8.setCell ⟨gt,3,none⟩ v3':=⟨_,rfl⟩;have hm5K:Mine [203,38] K w w5:=⟨hm5.only,hm5.fr.mono (fun k _ hk hq=>hk (.inl hq))⟩;have ho5:w5.ownsRow 0 38 3 v3 nw.length (nw.flatMap Sym.cells):=Z1f h.o3 hm5.fr (fun k e hk=>hk (.inr e));have hl5 : ∀k,K k→k<W.heap.size:=fun k hk=>Zma (Zma (h.lt k hk) hm5.fr.size) hb.size;have hmW:Mine [203,38] K w W8:=(hm5K.trans (Mine.new_ hb)).trans ((Z5s (Z04 ho5 hb) hg h.n3).up (by simp));have hb8:=hmW.only _ _ _ (by decide) h.blk;(have hm:Mine [203,38,123] K w W9:=by rw [hW9];exact (hmW.up (by simp only [Zms,Zmw,or_false];intro t ht;rcases ht with ht | ht<;>simp [ht])).trans (Mine.cell (p:=⟨gt,3,none⟩) hb8 (by simp) h.nog v3'));(have hb9:Blk W9 gt 123 #[v0,v1,v2,v3',.int .i64 vis,.int .i64 lost]:=by rw [hW9];exact hb8.set_ 3 _);(have ho9:W9.ownsRow 0 38 3 v3' (nw ++ [s]).length ((nw ++ [s]).flatMap Sym.cells):=by rw [hW9];exact ownsRow_setCell_other (a:=⟨gt,3,none⟩) hown (Z02 hown hb8 (by decide)) _);have hn9:=Zdf hl5 h.n3 hat
 have hset:OSym (fun k=>K k∨v3'.ownBlock=some k) W9 ns (puts Z0r [] (nw ++ [s])):=by
  rw [Z2q];obtain ⟨sn',A',c',e1,e2,e3⟩:=h1;have e1W:=e1.new_ hb;have hgr:Fr (fun k=>v3.ownBlock=some k) W W8:=(Fr.refl _ W).grown hg (fun k hk=>.inl hk);have e18:=e1W.fr hgr (fun hk=>e2 (.inr hk)) (fun a ha hk=>e3 a ha (.inr hk));have hgt : ∀k,k=gt→Z1v W8 k:=fun k e=>e ▸ hb8.at_;refine ⟨sn',A',c',?_,fun hk=>?_,fun a ha hk=>?_⟩
  · rw [hW9]
    exact e18.fr (M:=(· = gt)) ((Fr.refl (· = gt) W8).setCell (p:=⟨gt,3,none⟩) (.inl rfl) _) (fun e=>by have:=e18.blk;rw [e] at this;exact this.ne_ hb8 (by decide) rfl) (fun a ha e=>by
     subst ha
     exact Z02 e18.row hb8 (by decide) (by simp [Value.ownBlock,e]))
  · rcases hk with hk | hk
    · exact e2 (.inl hk)
    · rcases hat with h9 | h9
      · exact e2 (.inr (h9 ▸ hk))
      · rw [h9] at hk;injection hk with hk;have:=e1W.lt;omega
  · rcases hk with hk | hk
    · exact e3 a ha (.inl hk)
    · rcases hat with h9 | h9
      · exact e3 a ha (.inr (h9 ▸ hk))
      · rw [h9] at hk;injection hk with hk;have:=e1W.row_lt a ha;omega
 rw [← hW9];obtain ⟨css,q1,q2,q3⟩:=h.o1;obtain ⟨sn,A,c,g1,g2,g3⟩:=h.set_;have hc : ∀k,C k→k<w.heap.size→W9.heap[k]? = w.heap[k]?:=fun k hk hl=>hm.fr.block k hl (fun hn=>hn (h.sub k hk))
 exact ⟨⟨hb9,
  Z0j h.o0 hm.only (by decide),
  h.n0,
  ⟨css,Z0j q1 hm.only (by decide),q2.imp fun a cs hr=>(Z0t n).keep hm.fr.size (fun k hk hl=>⟨hk,hc k hk hl⟩) hr,q3⟩,
  h.n1,
  Z0j h.o2 hm.only (by decide),
  h.n2,
  ho9,
  hn9,
  hset,
  h.map_.mine hm (by decide) (by decide) (by decide),
  h.srt,
  h.nog,
  h.sub,
  fun k hk=>Zma (h.lt k hk) hm.fr.size,
  fun k hk=>(h.cel k hk).imp id (fun ⟨c,t,f,hh⟩=>⟨c,t,f,(hc k hk (Zmi.1 hh).1).trans hh⟩)⟩,hm.fr⟩
theorem SR.hole {hh:Z5b} {v1':Value} {W W8:World} (h:SR n B K C w gt gm gp ns vis lost es gs hs ap nw v0 v1 v2 v3) (hb:Below w.heap.size w W) (ha:Z4t (Z0t n) 78 (fun j=>C j∨(NewD w.heap.size W j∧Z1v W j)) W v1 (hs ++ [hh]) v1' W8) :
 SR n B (fun j=>K j∨NewD w.heap.size W j) (fun j=>C j∨(NewD w.heap.size W j∧Z1v W j)) (W8.setCell ⟨gt,1,none⟩ v1') gt gm gp ns vis lost es gs (hs ++ [hh]) ap nw v0 v1' v2 v3∧Fr (fun k=>¬K k) w (W8.setCell ⟨gt,1,none⟩ v1'):=by
 obtain ⟨W9,hW9⟩ : ∃W9,W9=W8.setCell ⟨gt,1,none⟩ v1':=⟨_,rfl⟩;obtain ⟨a1,a2,a3⟩:=ha;have hzW:=hb.size;have o1W:=h.o1.new_ hb;have hm8:Mine [78] K w W8:=(Mine.new_ hb).trans (Z5s (Classical.choose_spec o1W).1 a2 h.n1);have hb8:=hm8.only _ _ _ (by decide) h.blk;(have hm:Mine [78,123] K w W9:=by rw [hW9];exact (hm8.up (by simp)).trans (Mine.cell (p:=⟨gt,1,none⟩) hb8 (by simp) h.nog v1'));(have hb9:Blk W9 gt 123 #[v0,v1',v2,v3,.int .i64 vis,.int .i64 lost]:=by rw [hW9];exact hb8.set_ 1 _);have hz9:=hm.fr.size;have hltW : ∀k,(v1.ownBlock=some k)→k<w.heap.size:=fun k hk=>h.o1.lt k hk
 have cW : ∀j,NewD w.heap.size W j→W9.heap[j]? = W.heap[j]?:=fun j hj=>by
  rw [hW9,Below.heap_setCell _ _ _ _ (by dsimp only;have:=h.blk.lt;have:=hj.1;omega)];exact a2.block j hj.2 (fun e=>by have:=hltW j e.symm;have:=hj.1;omega)
 have hz98:W.heap.size≤W9.heap.size:=by rw [hW9];simpa using a2.size
 have ho9:OwnC (Z0t n) 78 (fun j=>C j∨(NewD w.heap.size W j∧Z1v W j)) W9 v1' (hs ++ [hh]):=by
  rw [hW9];refine a1.fr (M:=(· = gt)) ((Fr.refl (· = gt) W8).setCell (p:=⟨gt,1,none⟩) (.inl rfl) _) (fun j hj e=>?_) (fun j hj e=>?_)
  · subst e
    rcases hj with hj | hj
    · exact h.nog (h.sub _ hj)
    · have:=h.blk.lt;have:=hj.1.1;omega
  · subst e
    exact Z02 (Classical.choose_spec a1).1 hb8 (by decide) hj
 have hn9 : ∀k,v1'.ownBlock=some k→¬(K k∨NewD w.heap.size W k):=fun k hk hq=>by
  rcases a3 with a3 | a3
  · rw [a3] at hk
    rcases hq with hq | hq
    · exact h.n1 k hk hq
    · have:=hltW k hk;have:=hq.1;omega
  · rw [a3] at hk;injection hk with hk
    rcases hq with hq | hq
    · have:=h.lt k hq;omega
    · have:=hq.2;omega
 have old : ∀k,k<w.heap.size→(K k∨NewD w.heap.size W k)→K k:=fun k hk hq=>hq.elim id (fun hq=>by have:=hq.1;omega);rw [← hW9];obtain ⟨css,q1,q2,q3⟩:=h.o1;obtain ⟨sn,A,c,g1,g2,g3⟩:=h.set_;have hc : ∀k,C k→k<w.heap.size→W9.heap[k]? = w.heap[k]?:=fun k hk hl=>hm.fr.block k hl (fun hn=>hn (h.sub k hk))
 exact ⟨⟨hb9,
  Z0j h.o0 hm.only (by decide),
  fun k e hq=>h.n0 k e (old k (Z4p h.o0 k e) hq),
  ho9,
  hn9,
  Z0j h.o2 hm.only (by decide),
  fun k e hq=>h.n2 k e (old k (Z4p h.o2 k e) hq),
  Z0j h.o3 hm.only (by decide),
  fun k e hq=>h.n3 k e (old k (Z4p h.o3 k e) hq),
  ⟨sn,A,c,g1.only hm.only (by decide) (by decide),fun hq=>g2 (hq.imp (old _ g1.lt) id),fun a ha hq=>g3 a ha (hq.imp (old _ (g1.row_lt a ha)) id)⟩,
  ⟨hm.only _ _ _ (by decide) h.map_.1,fun hq=>h.map_.2.1 (old _ h.map_.1.lt hq),by
   obtain ⟨sn2,A2,c2,p1,p2,p3⟩:=h.map_.2.2
   exact ⟨sn2,A2,c2,p1.only hm.only (by decide) (by decide),fun hq=>p2 (old _ p1.lt hq),fun a ha hq=>p3 a ha (old _ (p1.row_lt a ha) hq)⟩⟩,
  h.srt,
  fun hq=>h.nog (old _ h.blk.lt hq),
  fun k hk=>hk.imp (h.sub k) (fun hk=>hk.1),
  fun k hk=>hk.elim (fun hk=>Zma (h.lt k hk) hz9) (fun hk=>Zma hk.2 hz98),
  fun k hk=>hk.elim (fun hk=>(h.cel k hk).imp id (fun ⟨c,t,f,hh⟩=>⟨c,t,f,(hc k hk (Zmi.1 hh).1).trans hh⟩)) (fun hk=>.inr (by obtain ⟨c,t,f,hh⟩:=hk.2;exact ⟨c,t,f,(cW k hk.1).trans hh⟩))⟩,hm.fr⟩
end
end
end Go.Proofs.YtfidcfjcmlgkbaaGreat
