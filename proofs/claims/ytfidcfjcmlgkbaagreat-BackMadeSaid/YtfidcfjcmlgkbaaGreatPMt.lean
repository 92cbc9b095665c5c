/-
  Texts put together: RecSame, BkFind, Queue, LeafBnum, LeafPgR, LeafPgT, BkPlain, BkReach, BkWk, FindBnum, OpsBnum, PutBnum.
-/
import Derived.Test.YtfidcfjcmlgkbaaGreatPMs
namespace Go.Proofs.YtfidcfjcmlgkbaaGreat
open Lib (hid)
set_option maxRecDepth 100000
set_option maxHeartbeats 32000000
set_option linter.unusedSimpArgs false
section
open Go.RowKit Go.Shelf
theorem Zea {D D':Nat→Prop}(n:Nat) (r:Z0e) (A1 A2 A3 A4 B1 B2 B3 B4:Option Addr) (c1 c2 c3 c4 d1 d2 d3 d4:Nat) (w:World) (hl:Z5q n D w r A1 c1 A2 c2 A3 c3 A4 c4) (hm:Z5q n D' w r B1 d1 B2 d2 B3 d3 B4 d4) :
 Calls Tryz.prog 27 #[.agg #[.int .i64 r.num,.int .i64 r.level,.slice A1 r.elems.length c1,.slice A2 r.holes.length c2,.slice A3 r.aparts.length c3,.slice A4 r.news.length c4],.agg #[.int .i64 r.num,.int .i64 r.level,.slice B1 r.elems.length d1,.slice B2 r.holes.length d2,.slice B3 r.aparts.length d3,.slice B4 r.news.length d4]] w fun e w'=>e = .returned (.bool true)∧Below w.heap.size w w':=by
 obtain ⟨g1,g2,g3,g4⟩:=hl;obtain ⟨k1,k2,k3,k4⟩:=hm;have G1:=hid g1;have K1:=hid k1;have G2:=hid g2;have K2:=hid k2;have G3:=hid g3;have K3:=hid k3;have G4:=hid g4;have K4:=hid k4;clear g1 g2 g3 g4 k1 k2 k3 k4;go_enter Tryz.func27,Tryz.ntmps27;(go_upto_region 1 with fail);obtain ⟨w1,hw1⟩:∃w1,w1=((w.alloc (.cells #[.int .i64 r.num,.int .i64 r.level,.slice A1 r.elems.length c1,.slice A2 r.holes.length c2,.slice A3 r.aparts.length c3,.slice A4 r.news.length c4] 72)).alloc (.cells #[.int .i64 r.num,.int .i64 r.level,.slice B1 r.elems.length d1,.slice B2 r.holes.length d2,.slice B3 r.aparts.length d3,.slice B4 r.news.length d4] 72)):=⟨_,rfl⟩;rw [←hw1];have HB:=hid (show Below w.heap.size w w1 by rw [hw1];exact (by repeat (first|exact Znk _ _|refine Below.drew ?_|refine Below.al ?_ _|refine Below.sc ?_ _)));have Ka:=hid (show Blk w1 (w.heap.size) 72 #[.int .i64 r.num,.int .i64 r.level,.slice A1 r.elems.length c1,.slice A2 r.holes.length c2,.slice A3 r.aparts.length c3,.slice A4 r.news.length c4] by rw [hw1];exact ((Blk.new w 72 #[.int .i64 r.num,.int .i64 r.level,.slice A1 r.elems.length c1,.slice A2 r.holes.length c2,.slice A3 r.aparts.length c3,.slice A4 r.news.length c4]).alloc (.cells #[.int .i64 r.num,.int .i64 r.level,.slice B1 r.elems.length d1,.slice B2 r.holes.length d2,.slice B3 r.aparts.length d3,.slice B4 r.news.length d4] 72)));have Kb:=hid (show Blk w1 (w.heap.size+1) 72 #[.int .i64 r.num,.int .i64 r.level,.slice B1 r.elems.length d1,.slice B2 r.holes.length d2,.slice B3 r.aparts.length d3,.slice B4 r.news.length d4] by rw [hw1];have hh:=(Blk.new (w.alloc (.cells #[.int .i64 r.num,.int .i64 r.level,.slice A1 r.elems.length c1,.slice A2 r.holes.length c2,.slice A3 r.aparts.length c3,.slice A4 r.news.length c4] 72)) 72 #[.int .i64 r.num,.int .i64 r.level,.slice B1 r.elems.length d1,.slice B2 r.holes.length d2,.slice B3 r.aparts.length d3,.slice B4 r.news.length d4]);simp only [Zoj] at hh;exact hh);clear hw1;obtain ⟨a0,a1,a2,a3,a4,a5⟩:=Ka.out.c6;have az:=Ka.out.lt;obtain ⟨b0,b1,b2,b3,b4,b5⟩:=Kb.out.c6;have bz:=Kb.out.lt;(go_wp2_with fail);(with_reducible refine (Z6s r.elems _ (G1.out.new_ (by (repeat (first|exact Znk _ _|exact HB.out|refine Below.drew ?_|refine Below.al ?_ _|refine Below.sc ?_ _)))) (K1.out.new_ (by (repeat (first|exact Znk _ _|exact HB.out|refine Below.drew ?_|refine Below.al ?_ _|refine Below.sc ?_ _))))).mono ?_);rintro e w2 ⟨rfl,hb⟩;have hbs:=Below.trans (show Below w1.heap.size w1 _ from (by (repeat (first|exact Znk _ _|refine Below.drew ?_|refine Below.al ?_ _|refine Below.sc ?_ _)))) (hb.mono (by simp<;>omega));have Ka:=hid (Ka.out.new_ hbs);have Kb:=hid (Kb.out.new_ hbs);have HB:=hid (HB.out.trans (hbs.mono HB.out.size));have hsz2:=hbs.size;clear a0 a1 a2 a3 a4 a5 az b0 b1 b2 b3 b4 b5 bz hb hbs;obtain ⟨a0,a1,a2,a3,a4,a5⟩:=Ka.out.c6;have az:=Ka.out.lt;obtain ⟨b0,b1,b2,b3,b4,b5⟩:=Kb.out.c6;have bz:=Kb.out.lt;(go_wp2_with fail);(with_reducible refine (Zg1 n r.holes _ (G2.out.new_ (by (repeat (first|exact Znk _ _|exact HB.out|refine Below.drew ?_|refine Below.al ?_ _|refine Below.sc ?_ _)))) (K2.out.new_ (by (repeat (first|exact Znk _ _|exact HB.out|refine Below.drew ?_|refine Below.al ?_ _|refine Below.sc ?_ _))))).mono ?_);rintro e w3 ⟨rfl,hb⟩;have hbs:=Below.trans (show Below w2.heap.size w2 _ from (by (repeat (first|exact Znk _ _|refine Below.drew ?_|refine Below.al ?_ _|refine Below.sc ?_ _)))) (hb.mono (by simp<;>omega));have Ka:=hid (Ka.out.new_ hbs)
 have Kb:=hid (Kb.out.new_ hbs);have HB:=hid (HB.out.trans (hbs.mono HB.out.size));have hsz3:=hbs.size;clear a0 a1 a2 a3 a4 a5 az b0 b1 b2 b3 b4 b5 bz hb hbs;obtain ⟨a0,a1,a2,a3,a4,a5⟩:=Ka.out.c6;have az:=Ka.out.lt;obtain ⟨b0,b1,b2,b3,b4,b5⟩:=Kb.out.c6;have bz:=Kb.out.lt;(go_wp2_with fail);(with_reducible refine (Zd8 r.aparts _ (G3.out.new_ (by (repeat (first|exact Znk _ _|exact HB.out|refine Below.drew ?_|refine Below.al ?_ _|refine Below.sc ?_ _)))) (K3.out.new_ (by (repeat (first|exact Znk _ _|exact HB.out|refine Below.drew ?_|refine Below.al ?_ _|refine Below.sc ?_ _))))).mono ?_);rintro e w4 ⟨rfl,hb⟩;have hbs:=Below.trans (show Below w3.heap.size w3 _ from (by (repeat (first|exact Znk _ _|refine Below.drew ?_|refine Below.al ?_ _|refine Below.sc ?_ _)))) (hb.mono (by simp<;>omega));have Ka:=hid (Ka.out.new_ hbs);have Kb:=hid (Kb.out.new_ hbs);have HB:=hid (HB.out.trans (hbs.mono HB.out.size));have hsz4:=hbs.size;clear a0 a1 a2 a3 a4 a5 az b0 b1 b2 b3 b4 b5 bz hb hbs;obtain ⟨a0,a1,a2,a3,a4,a5⟩:=Ka.out.c6;have az:=Ka.out.lt;obtain ⟨b0,b1,b2,b3,b4,b5⟩:=Kb.out.c6;have bz:=Kb.out.lt;(go_wp2_with fail);(with_reducible refine (Z9l r.news _ (G4.out.new_ (by (repeat (first|exact Znk _ _|exact HB.out|refine Below.drew ?_|refine Below.al ?_ _|refine Below.sc ?_ _)))) (K4.out.new_ (by (repeat (first|exact Znk _ _|exact HB.out|refine Below.drew ?_|refine Below.al ?_ _|refine Below.sc ?_ _))))).mono ?_);rintro e w5 ⟨rfl,hb⟩;have hbs:=Below.trans (show Below w4.heap.size w4 _ from (by (repeat (first|exact Znk _ _|refine Below.drew ?_|refine Below.al ?_ _|refine Below.sc ?_ _)))) (hb.mono (by simp<;>omega));have Ka:=hid (Ka.out.new_ hbs);have Kb:=hid (Kb.out.new_ hbs);have HB:=hid (HB.out.trans (hbs.mono HB.out.size));have hsz5:=hbs.size;clear a0 a1 a2 a3 a4 a5 az b0 b1 b2 b3 b4 b5 bz hb hbs;obtain ⟨a0,a1,a2,a3,a4,a5⟩:=Ka.out.c6;have az:=Ka.out.lt;obtain ⟨b0,b1,b2,b3,b4,b5⟩:=Kb.out.c6;have bz:=Kb.out.lt;(go_wp2_with fail);go_ret;exact ⟨rfl,by (repeat (first|exact Znk _ _|exact HB.out|refine Below.drew ?_|refine Below.al ?_ _|refine Below.sc ?_ _))⟩
end
section
open Go.RowKit
def zRec:Z0e:=⟨0,0,[],[],[],[]⟩
def Z46 (l:List Z0e) (k:Int):Z0e×Bool:=match l.find? (fun r=>r.num == k) with|some r=>(r,true)|none=>(zRec,false)
theorem Zk2 {l:List Z0e}{k:Int}{i:Nat}(hi:i<l.length) (hk:l[i].num=k) (hj :∀j,(h:j<l.length)→j<i→l[j].num≠k):Z46 l k=(l[i],true):=by
 have:l.find? (fun r=>r.num == k)=some l[i]:=by
  rw [List.find?_eq_some_iff_getElem];exact ⟨by simpa using hk,i,hi,rfl,fun j h=>by simpa using hj j (by omega) h⟩
 unfold Z46;rw [this]
theorem Zk3 {l:List Z0e}{k:Int}(hj :∀j,(h:j<l.length)→l[j].num≠k):Z46 l k=(zRec,false):=by
 have:l.find? (fun r=>r.num == k)=none:=by
  rw [List.find?_eq_none];intro x hx;obtain ⟨j,h,rfl⟩:=List.getElem_of_mem hx;simpa using hj j h
 unfold Z46;rw [this]
theorem Zcc {l:List Z0e}{k:Int}(h:(Z46 l k).2=true):(Z46 l k).1∈l∧(Z46 l k).1.num=k:=by
 unfold Z46 at h ⊢
 cases hf:l.find? (fun r=>r.num == k) with
 | none=>rw [hf] at h;cases h
 | some r=>exact ⟨List.mem_of_find?_eq_some hf,by simpa using List.find?_some hf⟩
theorem Zg4 {l:List Z0e}{k:Int}(h:(Z46 l k).2=false):(Z46 l k).1=zRec:=by
 unfold Z46 at h ⊢
 cases hf:l.find? (fun r=>r.num == k) with
 | none=>rfl
 | some r=>rw [hf] at h;cases h
def Ans (n:Nat) (x:Z0e×Bool) (D:Nat→Prop) (e:Ending) (w':World):Prop:=
 ∃A1 c1 A2 c2 A3 c3 A4 c4,e = .returned (.tuple #[.agg #[.int .i64 x.1.num,.int .i64 x.1.level,.slice A1 x.1.elems.length c1,.slice A2 x.1.holes.length c2,.slice A3 x.1.aparts.length c3,.slice A4 x.1.news.length c4],.bool x.2])∧Z5q n D w' x.1 A1 c1 A2 c2 A3 c3 A4 c4
structure Z4r (n B:Nat) (gf:Nat) (lb:Array Value) (look:Int→Z0e×Bool) (G:(Nat→Prop)→List Int→World→Prop):Prop where
 enter :∀args w,(callFunc gf args).run Tryz.prog w = .ok (.enter gf args) w
 lt :∀{E ks w},G E ks w→∀k,E k→k<w.heap.size
 steady :∀{E:Nat→Prop}{ks:List Int}{w w':World}{M:Nat→Prop},G E ks w→Fr M w w'→(∀k,M k→¬E k∧B≤k)→G E ks w'
 call :∀{E ks w}(k:Int),ks.length≤100000→k ∉ ks→G E ks w→Calls Tryz.prog gf (#[.int .i64 k]++lb) w fun e w'=>∃E',G E' (ks ++ [k]) w'∧(∀j,E' j→Plus E w w' j)∧Fr E w w'∧Ans n (look k) (fun j=>NewD w.heap.size w' j∧¬E' j) e w'
theorem Z4r.up {n B B' gf:Nat}{lb:Array Value}{look:Int→Z0e×Bool}{G:(Nat→Prop)→List Int→World→Prop}(h:Z4r n B gf lb look G) (hB:B≤B'):Z4r n B' gf lb look G:=
 ⟨h.enter,h.lt,fun hG hF hM=>h.steady hG hF (fun k hk=>⟨(hM k hk).1,Zo2 hB (hM k hk).2⟩),h.call⟩
theorem Znc {n:Nat}(D:Nat→Prop) (w:World):Z5q n D w zRec none 0 none 0 none 0 none 0:=⟨RowR.nil _ _ _,RowR.nil _ _ _,RowR.nil _ _ _,RowR.nil _ _ _⟩
theorem Zi6 (l:List Z0e) (A:Option Addr) (c:Nat) (w:World) :
 Calls Tryz.prog 61 #[.slice A l.length c] w fun e w'=>e = .returned (.func (.func 117) #[] #[.pointer (some ⟨w.heap.size,0,none⟩)])∧Below w.heap.size w w'∧Blk w' w.heap.size 121 #[.slice A l.length c]:=by
 go_enter Tryz.func61,Tryz.ntmps61;go_wp2;go_ret;exact ⟨rfl,(Znk _ _).alloc (Znl _) _,Blk.new _ _ _⟩
def QRow (w:World) (e:TypeId) (size:Nat) (v:Value) (n:Nat) (xs:List Value):Prop:=
 ∃A cap,v = .slice A n cap∧n≤cap∧cap≤maxLen∧xs.length=n*size∧(A=none→cap=0)∧
  ∀b,A=some b→b.spot=none∧(cap=0∨∃cur,Blk w b.block e cur∧b.off+cap*size≤cur.size)∧∀j u,xs[j]? = some u→w.cell? ⟨b.block,b.off+j,none⟩=some u
section
variable {w w':World}{e:TypeId}{size n:Nat}{v:Value}{xs:List Value}
theorem QRow.form (h:QRow w e size v n xs):∃A cap,v = .slice A n cap∧n≤cap∧cap≤maxLen:=by
 obtain ⟨A,cap,rfl,h1,h2,_⟩:=h;exact ⟨A,cap,rfl,h1,h2⟩
theorem QRow.of_own (h:w.ownsRow 0 e size v n xs):QRow w e size v n xs:=by
 rcases Z0h h with ⟨rfl,rfl,rfl⟩|⟨g,cap,rfl,h1,h2,⟨cur,hb,hs⟩,h3,h4⟩
 · exact ⟨none,0,rfl,Znl _,Nat.zero_le _,by simp,fun _=>rfl,fun b hb=>by cases hb⟩
 · exact ⟨_,cap,rfl,h1,h2,h3,fun h=>by (cases h),fun b hb'=>by cases hb';exact ⟨rfl,.inr ⟨cur,hb,by simp [hs]⟩,fun j u hu=>by simpa using h4 j u hu⟩⟩
theorem QRow.keep {M:Nat→Prop}(h:QRow w e size v n xs) (hF:Fr M w w') (hm :∀k,v.ownBlock=some k→¬M k) (hlt :∀k,v.ownBlock=some k→k<w.heap.size):QRow w' e size v n xs:=by
 obtain ⟨A,cap,rfl,h1,h2,h3,h4,h5⟩:=h;refine ⟨A,cap,rfl,h1,h2,h3,h4,fun b hb=>?_⟩;subst hb;obtain ⟨g1,g2,g3⟩:=h5 b rfl;have hk:=hm b.block rfl;have hl:=hlt b.block rfl;exact ⟨g1,g2.imp id (fun ⟨cur,hc,hs⟩=>⟨cur,hc.fr hF hk,hs⟩),fun j u hu=>(hF.cell (p:=⟨b.block,b.off+j,none⟩) hl hk).trans (g3 j u hu)⟩
theorem QRow.new_ (h:QRow w e size v n xs) (hb:Below w.heap.size w w') (hlt :∀k,v.ownBlock=some k→k<w.heap.size):QRow w' e size v n xs:=
 h.keep (M:=fun _=>False) (Fr.of_new hb) (fun _ _ h=>h) hlt
theorem QRow.head {A:Option Addr}{m cap:Nat}(h:QRow w e 1 (.slice A (m+1) cap) (m+1) xs):∃b off x,A=some ⟨b,off,none⟩∧m+1≤cap∧xs[0]? = some x∧w.cell? ⟨b,off,none⟩=some x:=by
 obtain ⟨A',cap',hv,h1,h2,h3,h4,h5⟩:=h;injection hv with e1 e2 e3;subst e1;subst e3
 cases A with
 | none=>have:=h4 rfl;omega
 | some b=>
   obtain ⟨g1,g2,g3⟩:=h5 b rfl;obtain ⟨bb,off,sp⟩:=b;dsimp only at g1;subst g1
   cases xs with
   | nil=>simp at h3
   | cons x xs=>exact ⟨bb,off,x,rfl,h1,rfl,by simpa using g3 0 x rfl⟩
theorem QRow.tail {b off m cap:Nat}{x:Value}(h:QRow w e 1 (.slice (some ⟨b,off,none⟩) (m+1) cap) (m+1) (x :: xs)):QRow w e 1 (.slice (if cap=1 then some ⟨b,off,none⟩ else some ⟨b,off+1,none⟩) m (cap - 1)) m xs:=by
 obtain ⟨A',cap',hv,h1,h2,h3,h4,h5⟩:=h;injection hv with e1 e2 e3;subst e1;subst e3;obtain ⟨_,g2,g3⟩:=h5 _ rfl;(have hx:xs.length=m*1:=by simp at h3 ⊢;omega);by_cases hc:cap=1
 · rw [if_pos hc]
   (have hm:m=0:=by omega);have:xs = []:=List.eq_nil_of_length_eq_zero (by omega);subst this;exact ⟨_,cap - 1,rfl,by omega,by omega,hx,fun h=>(by cases h),fun b' hb'=>by cases hb';exact ⟨rfl,.inl (by omega),fun j u hu=>by simp at hu⟩⟩
 · rw [if_neg hc]
   refine ⟨_,cap - 1,rfl,by omega,by omega,hx,fun h=>(by cases h),fun b' hb'=>?_⟩;injection hb' with hb';subst hb';refine ⟨rfl,.inr ?_,fun j u hu=>?_⟩
   · rcases g2 with g2|⟨cur,hc,hs⟩
     · omega
     · exact ⟨cur,hc,by dsimp only at hs ⊢;omega⟩
   · have:=g3 (j+1) u (by simpa using hu)
     dsimp only at this ⊢;rwa [show off+1+j=off+(j+1) by omega]
end
section
variable {P:Program}(w:World)
theorem Z9o {ops:Array Oper}{rest:List Oper}{o:Oper}{a:Act}{Q:Exit→Act→World→Prop}(hgd:o.guard=none) (s x:Operand) (t:TypeId)
 (ho:o.op = .call { callee:=.builtin .append,args:=#[s,x],argTypes:=#[t,t] })
 (e:TypeId) (i:TypeInfo) (z:Value) (size bytes:Nat) (ht:P.underlying t=some (.slice e)) (hi:P.info? e=some i) (hz:i.zero=some z)
 (hsize:i.size=size) (hby:i.bytes=bytes) (hzs:z.cells.size=size) (hsz:0<size)
 (v:Value) (n:Nat) (xs:List Value) (hs:a.eval s=v) (hown:QRow w e size v n xs)
 (ad:Addr) (c:Nat) (news:List Value) (hx:a.eval x = .slice (some ad) 1 c) (hn:news.length=size)
 (hnews :∀j u,news[j]? = some u→w.cell? (ad.add j)=some u) (h1 :∀u∈news,u.oneCell'=true)
 (h63:n+1≤maxLen) (hbytes:(n+1)*bytes≤140737488355328)
 (h :∀v' w',QRow w' e size v' (n+1) (xs++news)→Fr (fun k=>v.ownBlock=some k) w w'→(∀g t cs,t≠e→Blk w g t cs→Blk w' g t cs)→(v'.ownBlock=v.ownBlock∨∀k,v'.ownBlock=some k→w.heap.size≤k∧k<w'.heap.size)→wpList P ops Q rest (a.put o.dst v') w') :
 wpList P ops Q (o :: rest) a w:=by
 have fin :∀v' w',w'.ownsRow w.heap.size e size v' (n+1) (xs++news)→w.grownBy w' none→wpList P ops Q rest (a.put o.dst v') w':=fun v' w' g1 g2=>by
  have g0:w'.ownsRow 0 e size v' (n+1) (xs++news):=⟨g1.1,g1.2.imp id fun ⟨g,cap,cur,hv,h0,hr⟩=>⟨g,cap,cur,hv,Nat.zero_le _,hr⟩⟩;have hF:Fr (fun k=>v.ownBlock=some k) w w':=(Fr.refl _ w).grown g2 (fun k hk=>by cases hk);refine h v' w' (.of_own g0) hF (fun g t cs _ hb=>hb.grown g2 (by simp)) (.inr fun k hk=>⟨?_,Z77 g0 k hk⟩);rcases g1.2 with ⟨rfl,hn0⟩|⟨g,cap,cur,rfl,hb,_⟩
  · omega
  · simp only [Value.ownBlock,Option.some.injEq] at hk
    omega
 obtain ⟨A,cap,rfl,q1,q2,q3,q4,q5⟩:=hown;by_cases hr:n+1≤cap
 · cases A with
   | none=>have:=q4 rfl;omega
   | some b=>
     obtain ⟨b,off,sp⟩:=b;obtain ⟨g1,g2,g3⟩:=q5 _ rfl;dsimp only at g1;subst g1
     obtain ⟨cur,hcur,hcs⟩:∃cur,Blk w b e cur∧off+cap*size≤cur.size:=by
      rcases g2 with g2|g2
      · omega
      · exact g2
     have hmul:(n+1)*size≤cap*size:=Nat.mul_le_mul_right _ hr;rw [Nat.add_mul] at hmul;refine wpList_append_arg w hgd s x t ho e i z size bytes ht hi hz hsize hby hzs hsz b off n cap xs hs q3 (fun j u hu=>by simpa using g3 j u hu) ad 1 c news hx (by omega) hnews h1 (fun _ j hj=>?_) h63 hbytes (fun _=>?_) (fun hc=>by omega)
     · rw [hcur.cell]
       exact ⟨by rw [Array.getElem?_eq_getElem (by omega)];rfl,hcur.frozen _⟩
     · have hF:Fr (fun k=>(Value.slice (some ⟨b,off,none⟩) n cap).ownBlock=some k) w (w.setCells b (off+n*size) news):=Fr.setCells news _ (Fr.refl _ w) (.inl rfl)
       obtain ⟨cur',hb',hz'⟩:=Blk.setCells_ news (off+n*size) hcur;refine h _ _ ⟨some ⟨b,off,none⟩,cap,rfl,hr,q2,by rw [Znp,q3,hn,Nat.add_mul];omega,fun h=>(by cases h),fun b2 hb2=>?_⟩ hF (fun g t cs hne hb=>?_) (.inl rfl)
       · injection hb2 with hb2
         subst hb2;refine ⟨rfl,.inr ⟨cur',hb',by rw [hz'];exact hcs⟩,fun j u hu=>?_⟩;dsimp only;rcases Nat.lt_or_ge j xs.length with hj|hj
         · rw [Zoi hj] at hu
           have hra:w.rangeAt b off xs:=fun j v hv=>g3 j v hv;exact World.rangeAt_setCells_apart hra b (off+n*size) news (.inr (.inl (by rw [q3];omega))) j u hu
         · rw [Zoh hj] at hu
           have hth:w.there b (off+n*size) news.length:=fun k hk=>by
            rw [hcur.cell];exact ⟨by rw [Array.getElem?_eq_getElem (by omega)];rfl,hcur.frozen _⟩
           have:=Znw w b (off+n*size) news hth (j - xs.length) u hu;rwa [show off+n*size+(j - xs.length)=off+j by omega] at this
       · exact Blk.farCells news _ hb (fun e2=>by subst e2;exact hb.ne_ hcur hne rfl)
 · have hA :∀b,A=some b→b=⟨b.block,b.off,none⟩:=fun b hb=>by
    have:=(q5 b hb).1;obtain ⟨_,_,_⟩:=b;dsimp only at this;subst this;rfl
   refine wpList_append_grows w hgd s x t ho e i z size bytes ht hi hz hsize hby hzs hsz A n cap xs hs (fun hn=>by have:=q4 hn;exact ⟨by omega,this⟩) q3 (fun b hb j u hu=>?_) ad 1 c news hx (by omega) hnews h1 (by omega) h63 hbytes fin;rw [hA b hb];have:=(q5 b hb).2.2 j u hu;rwa [Go.WideShapes.add_plain]
end
end
section
open Go.RowKit
abbrev Bnum:=Int
def Bnum.cells (n:Bnum):List Value:=[.int .i64 n]
theorem Bnum.cells_length (n:Bnum):(Bnum.cells n).length=1:=rfl
def Z0q (a b:Bnum):Int:=Z30 a b
theorem Z42:TC Z0q:=Z5o
theorem Zas (a b:Bnum) (w:World):Calls Tryz.prog 245 #[.int .i64 a,.int .i64 b] w fun e w'=>e = .returned (.int .i64 (Z0q a b))∧Below w.heap.size w w':=by
 go_enter Tryz.func245,Tryz.ntmps245;go_wp2
 all_goals (go_ret;refine ⟨?_,Znk _ _⟩;unfold Z0q Z30;(repeat' split)<;>first|rfl|(exfalso;omega))
structure Sl where
 A:Option Addr
 n:Nat
 c:Nat
structure PgR where
 kk:Int
 num:Int
 level:Int
 elems:Sl
 holes:Sl
 aparts:Sl
 news:Sl
def PgR.cells (x:PgR):List Value:=[.int .i64 x.kk,.int .i64 x.num,.int .i64 x.level,.slice x.elems.A x.elems.n x.elems.c,.slice x.holes.A x.holes.n x.holes.c,.slice x.aparts.A x.aparts.n x.aparts.c,.slice x.news.A x.news.n x.news.c]
theorem PgR.cells_length (x:PgR):x.cells.length=7:=rfl
def Z19 (a b:PgR):Int:=Z30 a.kk b.kk
theorem Z63:TC Z19:=⟨fun _=>Z5o.refl _,fun _ _=>Z5o.symm _ _,fun _ _ _=>Z5o.trans _ _ _⟩
theorem Zb9 (k : Int) (w : World) : (nilAhead 442 170 (.int .i64 k) "Compare").run Tryz.prog w = .ok (some false) w := by kernel_rfl
theorem Zdp (k : Int) (w : World) : (method 442 170 (.int .i64 k) "Compare").run Tryz.prog w = .ok (245, .int .i64 k) w := by kernel_rfl
theorem Zlq (a b:PgR) (w:World):Calls Tryz.prog 268 #[.agg #[.int .i64 a.kk,.int .i64 a.num,.int .i64 a.level,.slice a.elems.A a.elems.n a.elems.c,.slice a.holes.A a.holes.n a.holes.c,.slice a.aparts.A a.aparts.n a.aparts.c,.slice a.news.A a.news.n a.news.c],.agg #[.int .i64 b.kk,.int .i64 b.num,.int .i64 b.level,.slice b.elems.A b.elems.n b.elems.c,.slice b.holes.A b.holes.n b.holes.c,.slice b.aparts.A b.aparts.n b.aparts.c,.slice b.news.A b.news.n b.news.c]] w fun e w'=>e = .returned (.int .i64 (Z19 a b))∧Below w.heap.size w w':=by
 have N:=Zb9;have M:=Zdp;go_enter Tryz.func268,Tryz.ntmps268;(go_wp2_with fail);refine (Zas a.kk b.kk _).mono ?_;rintro e w1 ⟨rfl,hb1⟩;have HB1:=hid ((((Znk w.heap.size w).alloc (Znl _) _).alloc (by simp) _).trans (hb1.mono (by simp;omega)));clear hb1;(go_wp2_with fail);go_ret;exact ⟨rfl,HB1.out⟩
structure PgT where
 kk:Int
 tr:Z07
def PgT.cells (x:PgT):List Value:=[.int .i64 x.kk,.int .i64 x.tr.elem.id.kind,.string x.tr.elem.id.text,.int .i64 x.tr.elem.id.n,.int .i64 x.tr.elem.attr.kind,.string x.tr.elem.attr.text,.int .i64 x.tr.elem.attr.n,.int .i64 x.tr.elem.value.kind,.string x.tr.elem.value.text,.int .i64 x.tr.elem.value.n,.bool x.tr.elem.acc,.bool x.tr.elem.goal,.int .i64 x.tr.elem.tag,.int .i64 x.tr.level,.int .i64 x.tr.cause]
theorem PgT.cells_length (x:PgT):x.cells.length=15:=rfl
def Z0t (a b:PgT):Int:=Z30 a.kk b.kk
theorem Z4q:TC Z0t:=⟨fun _=>Z5o.refl _,fun _ _=>Z5o.symm _ _,fun _ _ _=>Z5o.trans _ _ _⟩
theorem Zba (k : Int) (w : World) : (nilAhead 442 170 (.int .i64 k) "Compare").run Tryz.prog w = .ok (some false) w := by kernel_rfl
theorem Zdq (k : Int) (w : World) : (method 442 170 (.int .i64 k) "Compare").run Tryz.prog w = .ok (245, .int .i64 k) w := by kernel_rfl
theorem Zlr (a b:PgT) (w:World):Calls Tryz.prog 272 #[.agg #[.int .i64 a.kk,.int .i64 a.tr.elem.id.kind,.string a.tr.elem.id.text,.int .i64 a.tr.elem.id.n,.int .i64 a.tr.elem.attr.kind,.string a.tr.elem.attr.text,.int .i64 a.tr.elem.attr.n,.int .i64 a.tr.elem.value.kind,.string a.tr.elem.value.text,.int .i64 a.tr.elem.value.n,.bool a.tr.elem.acc,.bool a.tr.elem.goal,.int .i64 a.tr.elem.tag,.int .i64 a.tr.level,.int .i64 a.tr.cause],.agg #[.int .i64 b.kk,.int .i64 b.tr.elem.id.kind,.string b.tr.elem.id.text,.int .i64 b.tr.elem.id.n,.int .i64 b.tr.elem.attr.kind,.string b.tr.elem.attr.text,.int .i64 b.tr.elem.attr.n,.int .i64 b.tr.elem.value.kind,.string b.tr.elem.value.text,.int .i64 b.tr.elem.value.n,.bool b.tr.elem.acc,.bool b.tr.elem.goal,.int .i64 b.tr.elem.tag,.int .i64 b.tr.level,.int .i64 b.tr.cause]] w fun e w'=>e = .returned (.int .i64 (Z0t a b))∧Below w.heap.size w w':=by
 have N:=Zba;have M:=Zdq;go_enter Tryz.func272,Tryz.ntmps272;(go_wp2_with fail);refine (Zas a.kk b.kk _).mono ?_;rintro e w1 ⟨rfl,hb1⟩;have HB1:=hid ((((Znk w.heap.size w).alloc (Znl _) _).alloc (by simp) _).trans (hb1.mono (by simp;omega)));clear hb1;(go_wp2_with fail);go_ret;exact ⟨rfl,HB1.out⟩
def Z60 (lv:Int) (r:Z0e):List Int:=(r.elems.filter fun e=>decide (lv≤e.level) && decide (0<e.cause)).map Z07.cause
section
variable (look:Int→Z0e×Bool) (lv:Int) (keys:List Int)
def bfs:Nat→List Int→List Int→List Int
 | 0,_,done=>done
 | _+1,[],done=>done
 | f+1,k :: todo,done=>if k∈done then bfs f todo done else if (look k).2=true then bfs f (todo++Z60 lv (look k).1) (done ++ [k]) else bfs f todo (done ++ [k])
def left (done:List Int):Nat:=((keys.filter fun k=>decide (k ∉ done)).map fun k=>(Z60 lv (look k).1).length).sum
def cost (todo done:List Int):Nat:=todo.length+left look lv keys done
theorem Z96 (done:List Int) (k:Int):left look lv keys (done ++ [k])≤left look lv keys done:=by
 unfold left
 induction keys with
 | nil=>simp
 | cons x keys ih=>
   by_cases h:x∈done
   · have h2:x∈done ++ [k]:=by simp [h]
     simp only [List.filter_cons,h,h2,not_true_eq_false,decide_false,Bool.false_eq_true,if_false];exact ih
   · by_cases h2:x∈done ++ [k]
     · simp only [List.filter_cons,h,h2,not_true_eq_false,not_false_eq_true,decide_false,decide_true,Bool.false_eq_true,if_false,if_true,List.map_cons,List.sum_cons]
       omega
     · simp only [List.filter_cons,h,h2,not_false_eq_true,decide_true,if_true,List.map_cons,List.sum_cons]
       omega
theorem Zm1 {done:List Int}{k:Int}(hk:k∈keys) (hd:k ∉ done):left look lv keys (done ++ [k])+(Z60 lv (look k).1).length≤left look lv keys done:=by
 induction keys with
 | nil=>cases hk
 | cons x keys ih=>
   have hle:=Z96 look lv keys done k;unfold left at ih hle ⊢;by_cases hxk:x=k
   · subst hxk
     (have h2:x∈done ++ [x]:=by simp);simp only [List.filter_cons,hd,h2,not_true_eq_false,not_false_eq_true,decide_false,decide_true,Bool.false_eq_true,if_false,if_true,List.map_cons,List.sum_cons];omega
   · have hk':k∈keys:=by
      rcases Zo5.1 hk with h|h
      · exact absurd h.symm hxk
      · exact h
     have:=ih hk';by_cases h:x∈done
     · have h2:x∈done ++ [k]:=by simp [h]
       simp only [List.filter_cons,h,h2,not_true_eq_false,decide_false,Bool.false_eq_true,if_false];exact this
     · have h2:x ∉ done ++ [k]:=by simp [h,hxk]
       simp only [List.filter_cons,h,h2,not_false_eq_true,decide_true,if_true,List.map_cons,List.sum_cons];omega
variable (hkeys :∀k,(look k).2=true→k∈keys)
include hkeys
theorem Z8m {todo done:List Int}{k:Int}(hd:k ∉ done) (hl:(look k).2=true):cost look lv keys (todo++Z60 lv (look k).1) (done ++ [k])+1≤cost look lv keys (k :: todo) done:=by
 have:=Zm1 look lv keys (hkeys k hl) hd;unfold cost;simp only [Znp,Zo4];omega
theorem Zem :∀(f f':Nat) (todo done:List Int),cost look lv keys todo done≤f→cost look lv keys todo done≤f'→bfs look lv f todo done=bfs look lv f' todo done:=by
 intro f
 induction f with
 | zero=>
   intro f' todo done h _;have:todo = []:=List.eq_nil_of_length_eq_zero (by unfold cost at h;omega);subst this;cases f'<;>rfl
 | succ f ih=>
   intro f' todo done h h'
   cases todo with
   | nil=>cases f'<;>rfl
   | cons k todo=>
     cases f' with
     | zero=>unfold cost at h';simp at h'
     | succ f'=>
       (have hsk:cost look lv keys todo done+1≤cost look lv keys (k :: todo) done:=by unfold cost;simp;omega);unfold bfs;by_cases hd:k∈done
       · rw [if_pos hd,if_pos hd];exact ih f' todo done (by omega) (by omega)
       · rw [if_neg hd,if_neg hd]
         by_cases hl:(look k).2=true
         · rw [if_pos hl,if_pos hl]
           have:=Z8m look lv keys hkeys (todo:=todo) hd hl;exact ih f' _ _ (by omega) (by omega)
         · rw [if_neg hl,if_neg hl]
           have h9:cost look lv keys todo (done ++ [k])+1≤cost look lv keys (k :: todo) done:=by
            have:=Z96 look lv keys done k;unfold cost;simp;omega
           exact ih f' _ _ (by omega) (by omega)
omit hkeys in
def Z50 (todo done:List Int):List Int:=bfs look lv (cost look lv keys todo done) todo done
omit hkeys in
theorem Ziq (done:List Int):Z50 look lv keys [] done=done:=by unfold Z50;cases cost look lv keys [] done<;>rfl
omit hkeys in
theorem Zgo {k:Int}{todo done:List Int}(h:k∈done):Z50 look lv keys (k :: todo) done=Z50 look lv keys todo done:=by
 (have hc:cost look lv keys (k :: todo) done=cost look lv keys todo done+1:=by unfold cost;simp;omega);(have e:Z50 look lv keys (k :: todo) done=bfs look lv (cost look lv keys todo done+1) (k :: todo) done:=by unfold Z50;rw [hc]);rw [e,bfs,if_pos h];rfl
theorem Zgn {k:Int}{todo done:List Int}(h:k ∉ done) (hl:(look k).2=false):Z50 look lv keys (k :: todo) done=Z50 look lv keys todo (done ++ [k]):=by
 (have hc:cost look lv keys (k :: todo) done=cost look lv keys todo done+1:=by unfold cost;simp;omega);(have e:Z50 look lv keys (k :: todo) done=bfs look lv (cost look lv keys todo done+1) (k :: todo) done:=by unfold Z50;rw [hc]);rw [e,bfs,if_neg h,if_neg (by rw [hl];simp)];have:=Z96 look lv keys done k;exact Zem look lv keys hkeys _ _ _ _ (by unfold cost;omega) (Znl _)
theorem Zip {k:Int}{todo done:List Int}(h:k ∉ done) (hl:(look k).2=true):Z50 look lv keys (k :: todo) done=Z50 look lv keys (todo++Z60 lv (look k).1) (done ++ [k]):=by
 (have hc:cost look lv keys (k :: todo) done=cost look lv keys todo done+1:=by unfold cost;simp;omega);(have e:Z50 look lv keys (k :: todo) done=bfs look lv (cost look lv keys todo done+1) (k :: todo) done:=by unfold Z50;rw [hc]);rw [e,bfs,if_neg h,if_pos hl];have:=Z8m look lv keys hkeys (todo:=todo) h hl;exact Zem look lv keys hkeys _ _ _ _ (by omega) (Znl _)
end
abbrev KR:=Int×Z0e
def Z5w (a b:KR):Int:=Z30 a.1 b.1
theorem Zmq:TC Z5w:=⟨fun _=>Z5o.refl _,fun _ _=>Z5o.symm _ _,fun _ _ _=>Z5o.trans _ _ _⟩
def addR (look:Int→Z0e×Bool) (R:List KR) (k:Int):List KR:=if (look k).2=true then put Z5w R (k,(look k).1) else R
def Z37 (look:Int→Z0e×Bool) (done:List Int):List KR:=done.foldl (addR look) []
def Z2d (look:Int→Z0e×Bool) (done:List Int):Nat:=(done.filter fun k=>!(look k).2).length
theorem Z9f (look:Int→Z0e×Bool) (done:List Int) (k:Int):Z37 look (done ++ [k])=addR look (Z37 look done) k:=by unfold Z37;rw [List.foldl_append];rfl
theorem Z98 (look:Int→Z0e×Bool) (done:List Int) (k:Int):Z2d look (done ++ [k])=Z2d look done+(if (look k).2=true then 0 else 1):=by
 unfold Z2d;rw [List.filter_append,Znp];cases h:(look k).2<;>simp [h]
theorem Zi3 {α:Type}{cmp:α→α→Int}{l:List α}{x y:α}(h:y∈put cmp l x):y∈l∨y=x:=by
 unfold put at h
 split at h
 · exact .inl h
 · simp only [Zoz,Zo5] at h
   rcases h with h|h|h
   · exact .inl (Z4m.1 h).1
   · exact .inr h
   · exact .inl (Z4l.1 h).1
theorem Z8t {look:Int→Z0e×Bool}{done:List Int}{p:KR}(h:p∈Z37 look done):p.1∈done∧(look p.1).2=true∧p.2=(look p.1).1:=by
 have :∀(done:List Int) (R:List KR) (D:List Int),(∀p∈R,p.1∈D∧(look p.1).2=true∧p.2=(look p.1).1)→(∀k∈done,k∈D)→∀p∈done.foldl (addR look) R,p.1∈D∧(look p.1).2=true∧p.2=(look p.1).1:=by
  intro done
  induction done with
  | nil=>intro R D h _ p hp;exact h p hp
  | cons k done ih=>
    intro R D h hd p hp;refine ih (addR look R k) D (fun q hq=>?_) (fun j hj=>hd j (by simp [hj])) p hp;unfold addR at hq
    split at hq
    · rename_i hl
      rcases Zi3 hq with hq|rfl
      · exact h q hq
      · exact ⟨hd k (by simp),hl,rfl⟩
    · exact h q hq
 exact this done [] done (fun p hp=>by cases hp) (fun k hk=>hk) p h
theorem Zjt {look:Int→Z0e×Bool}{done:List Int}{k:Int}(h:k ∉ done) (r:Z0e):has Z5w (Z37 look done) (k,r)=false:=by
 rw [Z4k];intro y hy e;have:=(Z8t hy).1;rw [Z5v.1 e] at this;exact h this
theorem Zl4 (look:Int→Z0e×Bool) (done:List Int):Srt Z5w (Z37 look done):=by
 have :∀(done:List Int) (R:List KR),Srt Z5w R→Srt Z5w (done.foldl (addR look) R):=by
  intro done
  induction done with
  | nil=>intro R h;exact h
  | cons k done ih=>
    intro R h;refine ih _ ?_;unfold addR
    split
    · exact h.put Zmq _
    · exact h
 exact this done [] Srt.nil
theorem Zk1 (look:Int→Z0e×Bool) (done:List Int):(Z37 look done).length≤done.length:=by
 have :∀(done:List Int) (R:List KR),Srt Z5w R→(done.foldl (addR look) R).length≤R.length+done.length:=by
  intro done
  induction done with
  | nil=>intro R _;simp
  | cons k done ih=>
    intro R h
    have h1:Srt Z5w (addR look R k):=by
     unfold addR
     split
     · exact h.put Zmq _
     · exact h
    have h2:(addR look R k).length≤R.length+1:=by
     unfold addR
     split
     · exact Z75 Zmq h _
     · omega
    have:=ih _ h1;simp only [List.foldl_cons,Zo4];omega
 have:=this done [] Srt.nil;simpa [Z37] using this
def Zen (a b:Z07):Int:=Z30 a.elem.tag b.elem.tag
def bare (e:Z07):Z07:={ e with cause:=0 }
def lows (lv:Int) (r:Z0e):List Z07:=(r.elems.filter fun e=>decide (e.level<lv)).map bare
def Z5y (lv:Int) (R:List KR):List Z07:=puts Zen [] (R.flatMap fun p=>lows lv p.2)
def once (l:List Sym) (s:Sym):List Sym:=if s∈l then l else l ++ [s]
def Z35 (R:List KR):List Sym:=(R.flatMap fun p=>p.2.news).foldl once []
structure Zn0 where
 elems:List Z07
 holes:List Z4y
 aparts:List Z09
 news:List Sym
 visited:Nat
 lost:Nat
def Z5p (look:Int→Z0e×Bool) (lv:Int) (done:List Int):Zn0:=
 ⟨Z5y lv (Z37 look done),(Z37 look done).flatMap fun p=>p.2.holes,(Z37 look done).flatMap fun p=>p.2.aparts,Z35 (Z37 look done),(Z37 look done).length,Z2d look done⟩
def Zgv (n:Nat) (D:Nat→Prop) (w:World) (p:KR) (x:PgR):Prop:=
 x.kk=p.1∧x.num=p.2.num∧x.level=p.2.level∧x.elems.n=p.2.elems.length∧x.holes.n=p.2.holes.length∧x.aparts.n=p.2.aparts.length∧x.news.n=p.2.news.length∧Z5q n D w p.2 x.elems.A x.elems.c x.holes.A x.holes.c x.aparts.A x.aparts.c x.news.A x.news.c
theorem Zgv.keep {n:Nat}{D D':Nat→Prop}{w w':World}{p:KR}{x:PgR}(h:Zgv n D w p x) (hs:w.heap.size≤w'.heap.size) (hk :∀k,D k→k<w.heap.size→D' k∧w'.heap[k]? = w.heap[k]?):Zgv n D' w' p x:=by
 obtain ⟨h1,h2,h3,h4,h5,h6,h7,h8⟩:=h;exact ⟨h1,h2,h3,h4,h5,h6,h7,h8.keep hs hk⟩
theorem Z3c.filter {α β:Type}{R:α→β→Prop}{f:α→Bool}{g:β→Bool}(hr :∀a b,R a b→f a=g b):∀{l:List α}{m:List β},Z3c R l m→Z3c R (l.filter f) (m.filter g)
 | _,_,.nil=>.nil
 | _,_,.cons (a:=a) (b:=b) h t=>by
   rw [List.filter_cons,List.filter_cons,hr a b h]
   split
   · exact .cons h (t.filter hr)
   · exact t.filter hr
theorem Z3c.any {α β:Type}{R:α→β→Prop}{f:α→Bool}{g:β→Bool}(hr :∀a b,R a b→f a=g b):∀{l:List α}{m:List β},Z3c R l m→l.any f=m.any g
 | _,_,.nil=>rfl
 | _,_,.cons (a:=a) (b:=b) h t=>by rw [List.any_cons,List.any_cons,hr a b h,t.any hr]
theorem Z3c.put {R:KR→PgR→Prop}(hr :∀a b,R a b→b.kk=a.1){l:List KR}{m:List PgR}(h:Z3c R l m){a:KR}{b:PgR}(hab:R a b):has Z5w l a=has Z19 m b∧Z3c R (put Z5w l a) (put Z19 m b):=by
 (have hc :∀x y,R x y→Z5w x a=Z19 y b:=fun x y hxy=>by unfold Z5w Z19;rw [hr _ _ hxy,hr _ _ hab]);have hh:has Z5w l a=has Z19 m b:=h.any (fun x y hxy=>by rw [hc x y hxy]);refine ⟨hh,?_⟩;unfold YtfidcfjcmlgkbaaGreat.put;rw [hh]
 split
 · exact h
 · exact (h.filter (fun x y hxy=>by rw [hc x y hxy])).append (.cons hab (h.filter (fun x y hxy=>by rw [hc x y hxy])))
theorem Zf2 {done:List Int}{l:List Int}{k:Int}:k∈puts Z0q l done↔k∈l∨k∈done:=by
 induction done generalizing l with
 | nil=>simp [puts]
 | cons x done ih=>
   have e:puts Z0q l (x :: done)=puts Z0q (put Z0q l x) done:=rfl;rw [e,ih,Zo5]
   have hp:k∈put Z0q l x↔k∈l∨k=x:=by
    constructor
    · exact Zi3
    · intro h
      unfold put
      split
      · rename_i hh
        rcases h with h|h
        · exact h
        · obtain ⟨y,hy,e⟩:=Z6n.1 hh
          rw [h,←Z5v.1 e];exact hy
      · rename_i hh
        simp only [Zoz,Zo5];rcases h with h|h
        · have:=Z4k.1 (by simpa using hh) k h
          rcases Int.lt_trichotomy (Z0q k x) 0 with h2|h2|h2
          · exact .inl (Z4m.2 ⟨h,h2⟩)
          · exact absurd h2 this
          · exact .inr (.inr (Z4l.2 ⟨h,h2⟩))
        · exact .inr (.inl h)
   rw [hp];constructor
   · rintro ((h|h)|h)
     · exact .inl h
     · exact .inr (.inl h)
     · exact .inr (.inr h)
   · rintro (h|h|h)
     · exact .inl (.inl h)
     · exact .inl (.inr h)
     · exact .inr h
theorem Zeu (done:List Int) (k:Int):has Z0q (puts Z0q [] done) k=decide (k∈done):=by
 by_cases h:k∈done
 · rw [Zno h]
   exact Z6n.2 ⟨k,Zf2.2 (.inr h),Z5v.2 rfl⟩
 · rw [Znm h,Z4k]
   intro y hy e;rcases Zf2.1 hy with h2|h2
   · cases h2
   · exact h (by rw [←Z5v.1 e];exact h2)
end
section
theorem Zci {α:Type} [DecidableEq α] :∀{l m:List α},l.Nodup→(∀x∈l,x∈m)→l.length≤m.length
 | [],_,_,_=>by simp
 | x :: l,m,hn,hs=>by
   have hx:x∈m:=hs x (by simp)
   have:=Zci (l:=l) (m:=m.erase x) (List.nodup_cons.1 hn).2 (fun y hy=>by
    have:y≠x:=fun e=>(List.nodup_cons.1 hn).1 (e ▸ hy)
    exact (List.mem_erase_of_ne this).2 (hs y (by simp [hy])))
   rw [List.length_erase_of_mem hx] at this;have:=List.length_pos_of_mem hx;simp only [Zo4];omega
section
variable {look:Int→Z0e×Bool}{lv:Int}{keys:List Int}(hkeys :∀k,(look k).2=true→k∈keys)
include hkeys
omit hkeys in
theorem Zg2 {m:Nat}(hm :∀k,(look k).1.elems.length≤m) (done:List Int):left look lv keys done≤keys.length*m:=by
 unfold left
 induction keys with
 | nil=>simp
 | cons x keys ih=>
   (have h1:(Z60 lv (look x).1).length≤m:=by unfold Z60;rw [Zp1];exact Zo2 (List.length_filter_le _ _) (hm x));(have h2:(keys.length+1)*m=keys.length*m+m:=by rw [Nat.add_mul];simp);rw [List.filter_cons]
   split
   · simp only [List.map_cons,List.sum_cons,Zo4];omega
   · simp only [Zo4];omega
omit hkeys in
theorem Zfu {m:Nat}(hm :∀k,(look k).1.elems.length≤m) (nums:List Int):cost look lv keys nums []≤nums.length+keys.length*m:=by
 have:=Zg2 (lv:=lv) (keys:=keys) hm [];unfold cost;omega
omit hkeys in
omit hkeys in
omit hkeys in
omit hkeys in
theorem Zcy :∀{l:List KR},Srt Z5w l→(l.map (·.1)).Nodup
 | [],_=>by simp
 | p :: l,h=>by
   obtain ⟨h1,h2⟩:=List.pairwise_cons.1 h;rw [List.map_cons,List.nodup_cons];refine ⟨fun hm=>?_,Zcy h2⟩;obtain ⟨q,hq,e⟩:=List.mem_map.1 hm;have:=h1 q hq;have:=Z5v.2 e.symm;unfold Z5w at *;omega
theorem Zmj (done:List Int):(Z37 look done).length≤keys.length:=by
 have:=Zci (Zcy (Zl4 look done)) (m:=keys) (fun k hk=>by
  obtain ⟨p,hp,rfl⟩:=List.mem_map.1 hk
  exact hkeys _ (Z8t hp).2.1)
 simpa using this
omit hkeys in
end
theorem Za8 (l:List Z0e):∀k,(Z46 l k).2=true→k∈l.map Z0e.num:=fun k h=>by
 obtain ⟨h1,h2⟩:=Zcc h;exact List.mem_map.2 ⟨_,h1,h2⟩
theorem Z97 {l:List Z0e}{Q:Z0e→Prop}(h0:Q zRec) (h :∀r∈l,Q r) (k:Int):Q (Z46 l k).1:=by
 cases hb:(Z46 l k).2 with
 | true=>exact h _ (Zcc hb).1
 | false=>rw [Zg4 hb];exact h0
theorem Zl3 (n:Nat):SmR n zRec:=⟨by simp [zRec],by simp [zRec],by simp [zRec],by simp [zRec],fun h hh=>by simp [zRec] at hh⟩
theorem Zg3 {l:List Z0e}(h0:l.length≤20) (h :∀r∈l,r.elems.length≤20) (lv:Int) (nums:List Int) (hn:nums.length≤100):cost (Z46 l) lv (l.map Z0e.num) nums []≤100000∧(Z37 (Z46 l) (Z50 (Z46 l) lv (l.map Z0e.num) nums [])).length≤500:=by
 have h1:=Zfu (look:=Z46 l) (lv:=lv) (keys:=l.map Z0e.num) (m:=20) (Z97 (Q:=fun r=>r.elems.length≤20) (by simp [zRec]) h) nums;have h2:=Zmj (Za8 l) (Z50 (Z46 l) lv (l.map Z0e.num) nums []);rw [Zp1] at h1 h2;have:l.length*20≤20*20:=Nat.mul_le_mul_right 20 h0;exact ⟨by omega,by omega⟩
end
section
open Go.RowKit Go.Shelf
theorem Zmn {α:Type}{r:RepT α}{D:Nat→Prop}{w:World}{g:Nat}{t:TypeId}{cs:List Value}{a:α}(hb:Blk w g t cs.toArray) (hD:D g) (hr:r.rep D w a cs):RowR r D w (some ⟨g,0,none⟩) 1 [a]:=by
 refine ⟨Znl _,by unfold maxLen;omega,fun _=>⟨g,0,rfl,hD,hb.lt,fun k hk=>?_⟩⟩;(obtain rfl:k=0:=by simp at hk;omega);exact ⟨cs,hr,fun j u hu=>by rw [show 0+0*r.size+j=j by omega,hb.cell];simpa using hu⟩
theorem Ziw {α:Type}{r:RepT α}{D:Nat→Prop}{w:World}{g:Nat}{t:TypeId}{cs ds:List Value}{a b:α}(hb:Blk w g t (cs++ds).toArray) (hD:D g) (hr:r.rep D w a cs) (hr2:r.rep D w b ds):RowR r D w (some ⟨g,0,none⟩) 2 [a,b]:=by
 refine ⟨Znl _,by unfold maxLen;omega,fun _=>⟨g,0,rfl,hD,hb.lt,fun k hk=>?_⟩⟩;have hl:=r.len hr;rcases k with _| _|k
 · exact ⟨cs,hr,fun j u hu=>by
    have hj:j<cs.length:=(Zom.1 hu).1
    rw [show 0+0*r.size+j=j by omega,hb.cell];simpa [Zoi hj] using hu⟩
 · exact ⟨ds,hr2,fun j u hu=>by
    rw [show 0+(0+1)*r.size+j=r.size+j by omega,hb.cell]
    simp [Zoh (show cs.length≤r.size+j by omega),hl,hu]⟩
 · simp at hk;omega
theorem Zlg (t:ByteArray)(w:World):Calls Tryz.prog 22 #[.string t] w fun e w'=>e = .returned (.agg #[.int .i64 3,.string t,.int .i64 0])∧Below w.heap.size w w':=by
 go_enter Tryz.func22,Tryz.ntmps22;(go_wp2_with fail);exact bodyPost_ret (v:=.agg #[.int .i64 3,.string t,.int .i64 0]) (by simp [results,Tryz.results22,go_sem]) rfl ⟨rfl,by (repeat (first|exact Znk _ _|refine Below.drew ?_|refine Below.al ?_ _|refine Below.sc ?_ _))⟩
theorem Znf (n:Int)(w:World):Calls Tryz.prog 32 #[.int .i64 n] w fun e w'=>e = .returned (.agg #[.int .i64 2,.string ⟨#[]⟩,.int .i64 n])∧Below w.heap.size w w':=by
 go_enter Tryz.func32,Tryz.ntmps32;(go_wp2_with fail);exact bodyPost_ret (v:=.agg #[.int .i64 2,.string ⟨#[]⟩,.int .i64 n]) (by simp [results,Tryz.results32,go_sem]) rfl ⟨rfl,by (repeat (first|exact Znk _ _|refine Below.drew ?_|refine Below.al ?_ _|refine Below.sc ?_ _))⟩
theorem Zj5 (t:ByteArray) (n:Int)(w:World):Calls Tryz.prog 21 #[.string t,.int .i64 n] w fun e w'=>e = .returned (.agg #[.int .i64 1,.string t,.int .i64 n])∧Below w.heap.size w w':=by
 go_enter Tryz.func21,Tryz.ntmps21;(go_wp2_with fail);exact bodyPost_ret (v:=.agg #[.int .i64 1,.string t,.int .i64 n]) (by simp [results,Tryz.results21,go_sem]) rfl ⟨rfl,by (repeat (first|exact Znk _ _|refine Below.drew ?_|refine Below.al ?_ _|refine Below.sc ?_ _))⟩
theorem Zj7 (n:Int) (w:World):Calls Tryz.prog 59 #[.int .i64 n] w fun e w'=>e = .returned (.agg #[.int .i64 1,.string ⟨#[65]⟩,.int .i64 n,.int .i64 3,.string ⟨#[120]⟩,.int .i64 0,.int .i64 2,.string ⟨#[]⟩,.int .i64 1,.bool false,.bool false,.int .i64 n])∧Below w.heap.size w w':=by
 go_enter Tryz.func59,Tryz.ntmps59;(go_upto_region 1 with fail);obtain ⟨w1,hw1⟩:∃w1,w1=(w.alloc (.cells #[.int .i64 0,.string ⟨#[]⟩,.int .i64 0,.int .i64 0,.string ⟨#[]⟩,.int .i64 0,.int .i64 0,.string ⟨#[]⟩,.int .i64 0,.bool false,.bool false,.int .i64 0] 62)):=⟨_,rfl⟩;rw [←hw1];have HB:=hid (show Below w.heap.size w w1 by rw [hw1];exact (by repeat (first|exact Znk _ _|refine Below.drew ?_|refine Below.al ?_ _|refine Below.sc ?_ _)));have Kr:=hid (show Blk w1 (w.heap.size) 62 #[.int .i64 0,.string ⟨#[]⟩,.int .i64 0,.int .i64 0,.string ⟨#[]⟩,.int .i64 0,.int .i64 0,.string ⟨#[]⟩,.int .i64 0,.bool false,.bool false,.int .i64 0] by rw [hw1];exact (Blk.new w 62 #[.int .i64 0,.string ⟨#[]⟩,.int .i64 0,.int .i64 0,.string ⟨#[]⟩,.int .i64 0,.int .i64 0,.string ⟨#[]⟩,.int .i64 0,.bool false,.bool false,.int .i64 0]));clear hw1;have rz:=Kr.out.lt;(go_wp2_with fail);(with_reducible refine (Zj5 ⟨#[65]⟩ n _).mono ?_);rintro e w2 ⟨rfl,hb⟩;have hbs:=Below.trans (show Below w1.heap.size w1 _ from (by (repeat (first|exact Znk _ _|refine Below.drew ?_|refine Below.al ?_ _|refine Below.sc ?_ _)))) (hb.mono (by simp<;>omega));have Kr:=hid (Kr.out.new_ hbs);have HB:=hid (HB.out.trans (hbs.mono HB.out.size));have hsz2:=hbs.size;clear rz hb hbs;have rz:=Kr.out.lt;(go_wp2_with fail);(with_reducible refine (Zlg ⟨#[120]⟩ _).mono ?_);rintro e w3 ⟨rfl,hb⟩;have hbs:=Below.trans (show Below w2.heap.size w2 _ from (by (repeat (first|exact Znk _ _|refine Below.drew ?_|refine Below.al ?_ _|refine Below.sc ?_ _)))) (hb.mono (by simp<;>omega));have Kr:=hid (Kr.out.new_ hbs);have HB:=hid (HB.out.trans (hbs.mono HB.out.size));have hsz3:=hbs.size;clear rz hb hbs;have rz:=Kr.out.lt;(go_wp2_with fail);(with_reducible refine (Znf 1 _).mono ?_);rintro e w4 ⟨rfl,hb⟩;have hbs:=Below.trans (show Below w3.heap.size w3 _ from (by (repeat (first|exact Znk _ _|refine Below.drew ?_|refine Below.al ?_ _|refine Below.sc ?_ _)))) (hb.mono (by simp<;>omega));have Kr:=hid (Kr.out.new_ hbs);have HB:=hid (HB.out.trans (hbs.mono HB.out.size));have hsz4:=hbs.size;clear rz hb hbs;have rz:=Kr.out.lt;have HT:=hid (show w4.there w.heap.size 0 (#[.int .i64 1,.string ⟨#[65]⟩,.int .i64 n,.int .i64 3,.string ⟨#[120]⟩,.int .i64 0,.int .i64 2,.string ⟨#[]⟩,.int .i64 1,.bool false,.bool false,.int .i64 n]:Array Value).size from Kr.out.there);(go_wp2_with (with_reducible refine wpList_store_mid rfl 62 _ _ rfl w.heap.size 0 #[.int .i64 1,.string ⟨#[65]⟩,.int .i64 n,.int .i64 3,.string ⟨#[120]⟩,.int .i64 0,.int .i64 2,.string ⟨#[]⟩,.int .i64 1,.bool false,.bool false,.int .i64 n] rfl rfl HT.out (by kernel_rfl) (by kernel_rfl) ?_));(try simp only [Exit.inBlock,Exit.then]);have hs9:=HB.out.size;refine bodyPost_ret (v:=.agg #[.int .i64 1,.string ⟨#[65]⟩,.int .i64 n,.int .i64 3,.string ⟨#[120]⟩,.int .i64 0,.int .i64 2,.string ⟨#[]⟩,.int .i64 1,.bool false,.bool false,.int .i64 n]) ?_ rfl ⟨rfl,Below.setCells' _ _ HB.out (Znl _)⟩;exact Z1c (t:=2) (T:=62) rfl _ _ w.heap.size [.int .i64 1,.string ⟨#[65]⟩,.int .i64 n,.int .i64 3,.string ⟨#[120]⟩,.int .i64 0,.int .i64 2,.string ⟨#[]⟩,.int .i64 1,.bool false,.bool false,.int .i64 n] _ rfl (Znw _ w.heap.size 0 [.int .i64 1,.string ⟨#[65]⟩,.int .i64 n,.int .i64 3,.string ⟨#[120]⟩,.int .i64 0,.int .i64 2,.string ⟨#[]⟩,.int .i64 1,.bool false,.bool false,.int .i64 n] HT.out) Tryz.underlying62 rfl (by kernel_rfl)
def Z9m (n:Int):Elem:=⟨⟨1,⟨#[65]⟩,n⟩,⟨3,⟨#[120]⟩,0⟩,⟨2,⟨#[]⟩,1⟩,false,false,n⟩
def wkR1:Z0e:=⟨5,2,[⟨Z9m 3,1,0⟩,⟨Z9m 7,2,4⟩],[],[],[]⟩
def wkR2:Z0e:=⟨4,2,[⟨Z9m 1,1,0⟩],[],[],[]⟩
def wkL:List Z0e:=[wkR1,wkR2]
theorem Zl6:Z50 (Z46 wkL) 2 [5,4] [5] [] = [5,4]:=by kernel_rfl
theorem Zl7:Z5p (Z46 wkL) 2 [5,4]=⟨[⟨Z9m 1,1,0⟩,⟨Z9m 3,1,0⟩],[],[],[],2,0⟩:=by kernel_rfl
theorem Zbm :∀r∈wkL,SmR 1 r∧r.elems.length≤20:=by
 intro r hr;simp only [wkL,Zo5,Zo9,or_false] at hr;rcases hr with rfl|rfl<;>exact ⟨⟨by decide,by decide,by decide,by decide,fun h hh=>by cases hh⟩,by decide⟩
end
section
open Go.RowKit
abbrev Z41:=Z25 (α:=Bnum) 231 170 1 Bnum.cells
theorem Zb7 (k0 : Int) (w : World) : (nilAhead 442 170 (.int .i64 k0) "Compare").run Tryz.prog w = .ok (some false) w := by kernel_rfl
theorem Zdn (k0 : Int) (w : World) : (method 442 170 (.int .i64 k0) "Compare").run Tryz.prog w = .ok (245, .int .i64 k0) w := by kernel_rfl
def Zgr (l:List Bnum) (x:Bnum) (w:World) (e:Ending) (w':World):Prop:=
 e = .returned (.tuple #[.int .i64 (rank Z0q l x),.bool (has Z0q l x)])∧Below w.heap.size w w'
theorem Zc4 (b c:Nat) (sn:Bool) (A:Option Addr) (l:List Bnum) (x:Bnum) (w:World) (hS:Z41 w b sn A c l) (hs:Srt Z0q l) (hl:(l.length:Int)≤4611686018427387904) :
 Calls Tryz.prog 146 #[.pointer (some ⟨b,0,none⟩),.int .i64 x] w (Zgr l x w):=by
 have hrd:=hS.rd Bnum.cells_length;have h0:=hS.cell0;have hb:=hS.lt;clear hS;have HS:=hid hs;have HRD:=hid hrd;clear hs hrd;go_enter Tryz.func146,Tryz.ntmps146;(go_wp2_with fail);go_quiet (fail);(go_wp2_with fail);obtain ⟨W0,hW0⟩:∃W0,W0=(w.drewN nq):=⟨_,rfl⟩;(have hB0:Below w.heap.size w W0:=by rw [hW0];exact Below.drewN' (Znk _ _) _);rw [←hW0];clear hW0;have HB0:=hid hB0;clear hB0
 go_loopw [6,7] (fun lo hi wr=>∃i j:Nat,lo = .int .i64 i∧hi = .int .i64 j∧i≤j∧j≤l.length∧(∀k,(h:k<l.length)→k<i→Z0q l[k] x<0)∧(∀k,(h:k<l.length)→j≤k→0<Z0q l[k] x)∧Below W0.heap.size W0 wr) (fun lo hi wr=>(intOf hi).toNat - (intOf lo).toNat)
 case atStart=>exact ⟨0,l.length,rfl,rfl,Nat.zero_le _,Znl _,fun k _ h=>absurd h (by omega),fun k h h'=>absurd h (by omega),Znk _ _⟩
 case round=>
  obtain ⟨i,j,rfl,rfl,hij,hj,hlo,hhi,hB⟩:=hrel;have HLO:=hid hlo;have HHI:=hid hhi;clear hlo hhi;have hsz:w.heap.size≤W0.heap.size:=HB0.out.size;by_cases hlt:i<j
  · obtain ⟨m,hm⟩:∃m,m=i+(j - i) / 2:=⟨_,rfl⟩
    (have hml:m<l.length:=by omega);(have hmj:m<j:=by omega);(have hmi:i≤m:=by omega);(have e1:((i:Int)+((j:Int) - (i:Int)) / 2)=(m:Int):=by omega);have E1:=hid e1;clear e1 hm;obtain ⟨g,off,rfl,hgs,hcell⟩:=HRD.out.at_ hml;have low :∀(p:Addr),p.block<w.heap.size→wr.cell? p=w.cell? p:=fun p hp=>(hB.cell (p:=p) (by omega)).trans (HB0.out.cell (p:=p) hp);have r0:=(low ⟨b,0,none⟩ hb).trans h0;have q0:wr.cell? ⟨g,off+m,none⟩=some (.int .i64 l[m]):=(low ⟨g,off+m,none⟩ hgs).trans (by simpa using hcell 0 _ rfl);(have b1:(0:Int)≤(m:Int):=by omega);(have b2:(m:Int)<(l.length:Int):=by omega);have hsw:W0.heap.size≤wr.heap.size:=hB.size;have N:=Zb7;have M:=Zdn;clear low hcell h0;have HB:=hid hB;clear hB;obtain ⟨y,hy⟩:∃y,y=l[m]:=⟨_,rfl⟩;rw [←hy] at q0;have HY:=hid hy;clear hy;(have hbw:b<wr.heap.size:=by omega);(have hgw:g<wr.heap.size:=by omega);(go_upto_region 4 with (fail));rw [E1.out];(go_wp2_with fail);refine (Zas y x _).mono ?_;rintro e w1 ⟨rfl,hb1⟩;have HB1:Below W0.heap.size W0 w1:=HB.out.trans (hb1.mono hsw);clear r0 q0 N M;have HB1':=hid HB1;clear HB1;by_cases hc:Z0q y x=0
    · have HC:=hid hc
      (have t1:(Z0q y x == 0)=true:=by simp [hc]);clear hc;(go_wp2_with fail);go_ret2;have e:=HC.out;rw [HY.out] at e;refine ⟨?_,HB0.out.trans (HB1'.out.mono (by omega))⟩;rw [Z5b Z42 HS.out hml e,(Z5t Z42 HS.out hml e).2.2.1];rfl
    · have t1:(Z0q y x == 0)=false:=by simp [hc]
      by_cases hc2:Z0q y x<0
      · have HC:=hid hc2
        (have t2:decide (Z0q y x<0)=true:=by simpa using hc2);clear hc hc2;(go_wp2_with fail);go_roundw
        case rel=>
         refine ⟨m+1,j,by go_num,rfl,by omega,hj,fun k h1 h2=>?_,HHI.out,HB1'.out⟩;have e:=HC.out;rw [HY.out] at e;rcases Nat.lt_or_ge k m with h3|h3
         · exact Z42.lt_of_lt_of_le (HS.out.lt h3 hml) (by omega)
         · obtain rfl:k=m:=by omega
           exact e
        case measure=>simp [intOf];omega
      · have t2:decide (Z0q y x<0)=false:=by simpa using hc2
        (have hc3:0<Z0q y x:=by omega);have HC:=hid hc3;clear hc hc2 hc3;(go_wp2_with fail);go_roundw
        case rel=>
         refine ⟨i,m,rfl,rfl,by omega,by omega,HLO.out,fun k h1 h2=>?_,HB1'.out⟩;have e:=HC.out;rw [HY.out] at e;rcases Nat.lt_or_ge m k with h3|h3
         · exact (Z42.symm _ _).1 (Z42.lt_trans ((Z42.symm _ _).2 e) (HS.out.lt h3 h1))
         · obtain rfl:k=m:=by omega
           exact e
        case measure=>simp [intOf];omega
  · obtain rfl:i=j:=by omega
    have HB:=hid hB;clear hB;(go_wp2_with fail);go_ret2;refine ⟨?_,HB0.out.trans (HB.out.mono (by omega))⟩;rw [Z5a hj HLO.out HHI.out,(Z6m HLO.out HHI.out).2.2];rfl
theorem Zc8:(Tryz.prog.info? 170).map (fun i=>(i.zero,i.size,i.bytes))=some (some (.int .i64 0),1,8):=by kernel_rfl
theorem Bnum.one (x:Bnum):∀u∈Bnum.cells x,u.oneCell'=true:=by intro u hu;simp [Bnum.cells] at hu;rcases hu with rfl<;>rfl
theorem Bnum.oneAll (l:List Bnum):∀u∈l.flatMap Bnum.cells,u.oneCell'=true:=by intro u hu;obtain ⟨x,_,hx⟩:=List.mem_flatMap.1 hu;exact Bnum.one x u hx
def Z6i (w:World) (b:Nat) (sn:Bool) (A:Option Addr) (l:List Bnum) (e:Ending) (w':World):Prop:=
 e = .returned (.tuple #[])∧∃A' c',Z41 w' b false A' c' l∧Fr (· = b) w w'∧Z32 w sn A false A'
theorem Zdz (b c:Nat) (A:Option Addr) (l:List Bnum) (w:World) (hS:Z41 w b false A c l) :
 Calls Tryz.prog 147 #[.pointer (some ⟨b,0,none⟩)] w (Z6i w b false A l):=by
 have h1:=hS.cell1;have HS:=hid hS;clear hS;go_enter Tryz.func147,Tryz.ntmps147;go_wp2;go_end0;exact ⟨rfl,A,c,HS.out,Fr.refl _ _,.inl ⟨rfl,rfl⟩⟩
theorem Zco (b c:Nat) (A:Option Addr) (l:List Bnum) (w:World) (hS:Z41 w b true A c l) (hl:(l.length:Int)≤1000000000) :
 Calls Tryz.prog 147 #[.pointer (some ⟨b,0,none⟩)] w (Z6i w b true A l):=by
 obtain ⟨i0,hi,hz0,hz1,hz2⟩:=info_parts Zc8;have h0:=hS.cell0;have h1:=hS.cell1;have hb:=hS.lt;have f0:=hS.blk.frozen 0;have f1:=hS.blk.frozen 1;have hrd:=hS.rd Bnum.cells_length;have HB:=hid hS.blk;have HRD:=hid hrd;clear hS hrd;have e1:IntKind.i64.wrap ((l.length:Int)+1)=(l.length:Int)+1:=Znu _ (by omega)
 have hmk :∀W:World,(Instr.makeSlice 229 (.int .i64 0) (.int .i64 ((l.length:Int)+1))).run Tryz.prog W = .ok (.slice (some ⟨W.heap.size,0,none⟩) 0 (l.length+1)) (W.alloc (.cells (madeCells (Value.cells (.int .i64 0)) ((l.length+1))) 170)):=fun W=>by
  have h:=run_make (P:=Tryz.prog) W 229 170 i0 _ Tryz.underlying229 hi hz0 .i64 .i64 0 ((l.length:Int)+1) (by omega) (by omega) (by rw [hz2];omega) (by omega);rw [hz1] at h;simpa [show ((l.length:Int)+1).toNat=l.length+1 by omega] using h
 go_enter Tryz.func147,Tryz.ntmps147;(go_wp2_with fail);refine Z0c (fun w9=>Below w.heap.size w w9) [(0,0),(1,0),(2,0),(3,0),(4,1),(5,0),(6,0),(8,0),(9,0),(10,0),(11,1),(7,2),(12,2),(13,0),(14,0),(15,2)] (by kernel_rfl) (by kernel_rfl) (fun KK hKK=>?_);simp only [Z0w,Znz,Znt,Znv,Znr,Zns,Zo1];(repeat ((first|(refine Z0m ?_ (Or.inl ⟨by rfl,fun w9=>?_⟩) ?_;rotate_left 1;go_simp;with_reducible rfl)|(refine Z0k ?_ (((Znk _ _).drew)) (Or.inl ⟨by rfl,fun w9 hw9=>?_⟩) ?_;rotate_left 1;obtain ⟨hc9,hf9⟩:=Z1e hw9;go_simp;with_reducible rfl)|refine Z0m undef (Or.inr ⟨by rfl,rfl⟩) ?_|refine Z0k undef (((Znk _ _).drew)) (Or.inr ⟨by rfl,rfl⟩) ?_);go_frame));refine Z2j (fun K9 hK9=>?_);go_simp;refine hK9 _ _ (((Znk _ _).drew).alloc (Znl _) _) ?_;clear hK9 K9;refine Z1y (by kernel_rfl) (fun K9 hK9=>?_)
 refine Z0f _ (by rfl) _ _ _ (by rfl) 170 i0 _ 1 8 Tryz.underlying229 hi hz0 hz1 hz2 rfl (by omega) _ 0 [] (by rfl) (World.ownsRow_made _ _ _ (Nat.zero_le _) (by unfold maxLen;omega) (by simp [madeCells])) A l.length c (l.flatMap Bnum.cells) (by rfl) (Z08 Bnum.cells_length l)
  ((HRD.out.drew.alloc _).news Bnum.cells_length (by omega)) (Bnum.oneAll l) (by unfold maxLen;omega) (by omega) ?_
 intro v2 w2 hown hgr hnil hat;refine hK9 _ _ ?_;clear hK9 K9;rw [Zoa,Zo3] at hown;obtain ⟨A',c',rfl,_,_,hz⟩:=Z0v hown;have HB1:=(HB.out.drew.alloc (.cells (madeCells (Value.cells (.int .i64 0)) ((l.length+1))) 170)).grown hgr (by simp [Value.ownBlock];omega);have c0:=(HB1.cell 0).trans rfl;have c1:=(HB1.cell 1).trans rfl;have z0:=HB1.frozen 0;have z1:=HB1.frozen 1;have HB2:=hid HB1;clear HB1;(repeat ((first|(refine Z0m ?_ (Or.inl ⟨by rfl,fun w9=>?_⟩) ?_;rotate_left 1;go_simp;with_reducible rfl)|(refine Z0k ?_ (((Znk _ _).drew).alloc (Znl _) _) (Or.inl ⟨by rfl,fun w9 hw9=>?_⟩) ?_;rotate_left 1;obtain ⟨hc9,hf9⟩:=Z1e hw9;go_simp;with_reducible rfl)|refine Z0m undef (Or.inr ⟨by rfl,rfl⟩) ?_|refine Z0k undef (((Znk _ _).drew).alloc (Znl _) _) (Or.inr ⟨by rfl,rfl⟩) ?_);go_frame));refine Z1y (by kernel_rfl) (fun K9 hK9=>?_);go_simp;refine hK9 _ _ ?_;clear hK9 K9;refine Z16 ?_;simp only [Z04];refine hKK _ _ ?_;clear hKK KK;go_wp2;go_end0
 have hb2:(Value.slice A' l.length c').ownBlock=some w.heap.size∨(Value.slice A' l.length c').ownBlock=some (w.heap.size+1):=by
  rcases hat with h|h
  · left;rw [h];rfl
  · right;rw [h];simp
 have hA :∃g,w.heap.size≤g∧A'=some ⟨g,0,none⟩:=by
  rcases A' with _|a
  · exfalso;simp [Value.ownBlock] at hb2
  · obtain ⟨g,rfl⟩:=hz a rfl
    refine ⟨g,?_,rfl⟩;simp [Value.ownBlock] at hb2;omega
 obtain ⟨g,hg,rfl⟩:=hA;have HB1:=HB2.out;have HF:Fr (· = b) w w2:=((Fr.refl (· = b) w).drew.alloc _).grown hgr (fun k e=>by simp [Value.ownBlock] at e;right;omega);refine ⟨rfl,some ⟨g,0,none⟩,c',⟨(HB1.set_ 0 _).set_ 1 _,?_⟩,(HF.setCell (p:=⟨b,0,none⟩) (.inl rfl) _).setCell (p:=⟨b,1,none⟩) (.inl rfl) _,.inr ⟨rfl,g,hg,rfl⟩⟩;(have hne:(Value.slice (some ⟨g,0,none⟩) l.length c').ownBlock≠some b:=by simp [Value.ownBlock];omega);exact ownsRow_setCell_other (a:=⟨b,1,none⟩) (ownsRow_setCell_other (a:=⟨b,0,none⟩) hown hne _) hne _
theorem Zkq (b c:Nat) (sn:Bool) (A:Option Addr) (l:List Bnum) (w:World) (hS:Z41 w b sn A c l) (hl:(l.length:Int)≤1000000000) :
 Calls Tryz.prog 147 #[.pointer (some ⟨b,0,none⟩)] w (Z6i w b sn A l):=by
 cases sn
 · exact Zdz b c A l w hS
 · exact Zco b c A l w hS hl
def Z6k (w:World) (b:Nat) (sn:Bool) (A:Option Addr) (l:List Bnum) (x:Bnum) (e:Ending) (w':World):Prop:=
 e = .returned (.bool (!has Z0q l x))∧∃sn' A' c',Z41 w' b sn' A' c' (put Z0q l x)∧Fr (Z1f b sn A) w w'∧Z32 w sn A sn' A'
theorem Z9v (b c:Nat) (sn:Bool) (A:Option Addr) (l:List Bnum) (x:Bnum) (w:World) (hS:Z41 w b sn A c l) (hs:Srt Z0q l) (hl:(l.length:Int)≤100000000) (hh:has Z0q l x=true) :
 Calls Tryz.prog 108 #[.pointer (some ⟨b,0,none⟩),.int .i64 x] w (Z6k w b sn A l x):=by
 have HS:=hid hS;have HO:=hid hs;clear hS hs;go_enter Tryz.func108,Tryz.ntmps108;(go_wp2_with fail);refine (Zc4 b c sn A l x _ (HS.out.new_ (Znk _ _)) HO.out (by omega)).mono ?_;rintro e w1 ⟨rfl,hb1⟩;(go_wp2_with fail);go_ret;refine ⟨by rw [hh];rfl,sn,A,c,?_,Fr.of_new ((Znk _ _).trans (hb1.mono (by simp))),.inl ⟨rfl,rfl⟩⟩;rw [Z4z hh];exact HS.out.new_ ((Znk _ _).trans (hb1.mono (by simp)))
theorem Zcs (b c:Nat) (sn:Bool) (A:Option Addr) (l:List Bnum) (x:Bnum) (w:World) (hS:Z41 w b sn A c l) (hs:Srt Z0q l) (hl:(l.length:Int)≤100000000) (hh:has Z0q l x=false) :
 Calls Tryz.prog 108 #[.pointer (some ⟨b,0,none⟩),.int .i64 x] w (Z6k w b sn A l x):=by
 obtain ⟨i0,hi,hz0,hz1,hz2⟩:=info_parts Zc8;have HS:=hid hS;have HO:=hid hs;have hb:=hS.lt;clear hS hs;have hrk:=Z6p (cmp:=Z0q) l x;go_enter Tryz.func108,Tryz.ntmps108;(go_wp2_with fail);have hSa:=HS.out.new_ (Znk w.heap.size w);have HSa:=hid hSa;clear hSa;refine (Zc4 b c sn A l x _ HSa.out HO.out (by omega)).mono ?_;rintro e w1 ⟨rfl,hb1⟩;have HS1:=hid (HSa.out.new_ hb1);(have hsz1:w.heap.size≤w1.heap.size:=by have:=hb1.size;(try simp at this);omega);have HB1:=hid hb1;clear hb1;(go_wp2_with fail);refine (Zkq b c sn A l _ HS1.out (by omega)).mono ?_;rintro e w2 ⟨rfl,A1,c1,hS2,hF2,hM2⟩;have hsz2:w1.heap.size≤w2.heap.size:=hF2.size;have s0:=hS2.cell0;have f0:=hS2.blk.frozen 0;(have hb2:b<w2.heap.size:=by omega);have HS2:=hid hS2;have HF2:=hid hF2;have HM2:=hid hM2;clear hS2 hF2 hM2
 go_upto_region 8 with
  (at_builtin;refine Z00 (w2.alloc (.cells #[.int .i64 x] 170)) rfl (.tmp 23) (.tmp 25) 229 rfl 170 i0 _ 1 8 Tryz.underlying229 hi hz0 hz1 hz2 rfl (by omega) (.slice A1 l.length c1) l.length (l.flatMap Bnum.cells) rfl (Z05 HS2.out.row ((Znk _ _).alloc (Znl _) _)) (some ⟨w2.heap.size,0,none⟩) 1 1 (Bnum.cells x) rfl rfl (fun _=>⟨_,rfl,Zo7 (heap_alloc_new _ _)⟩) (Bnum.one x) (by unfold maxLen;omega) (by omega) ?_;
   intro v2 w3 hown hgr hnil hat;
   obtain ⟨g,c2,rfl⟩:∃g c2,v2 = .slice (some ⟨g,0,none⟩) (l.length+1) c2:=(by
    rcases Z0h hown with ⟨_,h0,_⟩|⟨g,c2,h,_⟩
    · omega
    · exact ⟨g,c2,h⟩);
   have HB3':=(HS2.out.blk.alloc (.cells #[.int .i64 x] 170)).grown hgr (Z02 HS2.out.row HS2.out.blk (by decide));
   have c0:=(HB3'.cell 0).trans rfl;
   have z0:=HB3'.frozen 0;
   have HB3:=hid HB3';
   have HOWN:=hid hown;
   have HGR:=hid hgr;
   clear HB3' hown hgr)
 have hlg:((l.length+1:Nat):Int)=(l.length:Int)+1:=by omega
 have hG:(Z1f b sn A g∨w.heap.size≤g)∧Z32 w sn A false (some ⟨g,0,none⟩)∧True∧g≠b:=by
  rcases hat with h|h
  · rcases A1 with _|a1
    · simp [Value.ownBlock] at h
    · obtain ⟨A',c',hv,_,_,hz⟩:=Z0v HS2.out.row
      injection hv with hv _ _;obtain ⟨g',rfl⟩:=hz a1 hv.symm;(have hgg:g'=g:=by simpa [Value.ownBlock] using h.symm);subst hgg;have hne:g'≠b:=HS2.out.row_ne (by decide) _ rfl;rcases HM2.out with ⟨hsn,hA⟩|⟨_,g2,hg2,hA⟩
      · have h1:=HS.out.row_lt _ hA.symm
        exact ⟨.inl (.inr ⟨hsn.symm,_,hA.symm,rfl⟩),.inl ⟨hsn,hA⟩,True.intro,hne⟩
      · injection hA with hA
        injection hA with hA;subst hA;exact ⟨.inr (by omega),.inr ⟨rfl,_,by omega,rfl⟩,True.intro,hne⟩
  · have hgg:g=w2.heap.size+1:=by simpa [Value.ownBlock] using h
    subst hgg;exact ⟨.inr (by omega),.inr ⟨rfl,_,by omega,rfl⟩,True.intro,by omega⟩
 obtain ⟨hgM,hgMv,hgk1,hgb⟩:=hG;obtain ⟨w4,hw4⟩:∃w4,w4=w3.setCell ⟨b,0,none⟩ (.slice (some ⟨g,0,none⟩) (l.length+1) c2):=⟨_,rfl⟩;have hB4:Blk w4 b 231 #[.slice (some ⟨g,0,none⟩) (l.length+1) c2,.bool false]:=by rw [hw4];exact HB3.out.set_ 0 _
 have hR4:w4.ownsRow 0 170 1 (.slice (some ⟨g,0,none⟩) (l.length+1) c2) (l.length+1) ((Z0s l x l.length).flatMap Bnum.cells):=by
  rw [hw4,Z2y];refine ownsRow_setCell_other (a:=⟨b,0,none⟩) ?_ (by simpa [Value.ownBlock] using hgb) _;rw [Zny,List.flatMap_singleton];exact HOWN.out
 have hF4:Fr (Z1f b sn A) w w4:=by
  rw [hw4];have h1:Fr (Z1f b sn A) w w1:=Fr.of_new ((Znk _ _).trans (HB1.out.mono (by simp)));have h2:Fr (Z1f b sn A) w w2:=h1.trans (HF2.out.mono (fun k _ h=>.inl h));refine ((h2.alloc _).grown HGR.out (fun k hk=>?_)).setCell (p:=⟨b,0,none⟩) (.inl (.inl rfl)) _;rcases A1 with _|a1
  · cases hk
  · simp only [Value.ownBlock,Option.some.injEq] at hk
    subst hk;rcases HM2.out with ⟨hsn,hA⟩|⟨_,g',hg',hA⟩
    · left;right;exact ⟨hsn.symm,a1,hA.symm,rfl⟩
    · injection hA with hA
      subst hA;right;dsimp only;omega
 rw [←hw4];have HgM:=hid hgM;have HgMv:=hid hgMv;have HB4:=hid hB4;have HR4:=hid hR4;have HF4:=hid hF4;have s4:=hB4.cell 0;have s4':w4.cell? ⟨b,0,none⟩=some (.slice (some ⟨g,0,none⟩) (l.length+1) c2):=s4;clear s4 hw4 hB4 hR4 hF4 hat hgM hgMv hnil  s0 f0;go_wp2_with fail
 go_loopw [7] (fun s wr=>∃i:Nat,s = .int .i64 i∧rank Z0q l x≤i∧i≤l.length∧wr.ownsRow 0 170 1 (.slice (some ⟨g,0,none⟩) (l.length+1) c2) (l.length+1) ((Z0s l x i).flatMap Bnum.cells)∧Fr (· = g) w4 wr) (fun s wr=>(intOf s).toNat)
 case atStart=>exact ⟨l.length,by go_num,hrk,Znl _,HR4.out,Fr.refl _ _⟩
 case round=>
  obtain ⟨i,rfl,hi1,hi2,hown,hfr⟩:=hrel;have hgw:g<wr.heap.size:=(hown.lt g rfl).2;have r0:wr.cell? ⟨b,0,none⟩=some (.slice (some ⟨g,0,none⟩) (l.length+1) c2):=(hfr.cell (p:=⟨b,0,none⟩) HB4.out.lt (fun h=>hgb h.symm)).trans s4';have fz :∀o,wr.frozen? ⟨g,o,none⟩=false:=fun o=>hown.frozenAt o;have HOW:=hid hown;have HFR:=hid hfr;clear hown hfr;by_cases hlt:rank Z0q l x<i
  · obtain ⟨j,rfl⟩:∃j,i=j+1:=⟨i - 1,by omega⟩
    (have hj:j<l.length:=by omega);have hrd:=Z0d (A:=some ⟨g,0,none⟩) (c:=c2) (l:=Z0s l x (j+1)) Bnum.cells_length (by rw [Z0g l x hi2];exact HOW.out);obtain ⟨g',o',hgo,_,hcell⟩:=hrd.at_ (k:=j) (by rw [Z0g l x hi2];omega);injection hgo with hgo;injection hgo with hg1 hg2;subst hg1;subst hg2;rw [Z3a l x hj] at hcell;have q0:wr.cell? ⟨g,j,none⟩=some (.int .i64 l[j]):=by simpa using hcell 0 _ rfl
    have rmj:Room wr g 170 (c2*1)∧l.length+1≤c2:=by
     rcases Z0h HOW.out with ⟨hv,_⟩|⟨g',cap,hv,hn,_,hr,_⟩
     · cases hv
     · injection hv with hA _ hc
       injection hA with hA;injection hA with hA;subst hA;subst hc;exact ⟨hr,hn⟩
    obtain ⟨hrm,hcap⟩:=rmj;obtain ⟨u0,t0⟩:=hrm.cell (i:=(j+1)) (by omega);(have b0:(0:Int)≤(j:Int)+1:=by omega);(have b1:(0:Int)≤(j:Int):=by omega);(have b4:(j:Int)<(l.length:Int):=by omega);(have b2:(j:Int)<(l.length:Int)+1:=by omega);(have b3:(j:Int)+1<(l.length:Int)+1:=by omega);have w1:IntKind.i64.wrap ((j:Int))=(j:Int):=Znu _ (by omega);(have w2:IntKind.i64.wrap ((j:Int)+1 - 1)=(j:Int):=by rw [Znu _ (by omega)];omega);clear hcell hrd hrm;obtain ⟨y,hy⟩:∃y,y=l[j]:=⟨_,rfl⟩;rw [←hy] at q0;have HY:=hid hy;have hbw:b<wr.heap.size:=Znx wr _ r0;clear hy;(go_wp2_with fail);refine Z0c (fun w9=>Below wr.heap.size wr w9) [(0,0),(1,0),(2,0),(3,1),(4,0),(5,0),(6,0),(7,0),(8,1),(9,0),(10,0),(11,0),(12,1),(13,0),(14,2)] (by kernel_rfl) (by kernel_rfl) (fun KK hKK=>?_);simp only [Z0w,Znz,Znt,Znv,Znr,Zns,Zo1];(repeat ((first|(refine Z0m ?_ (Or.inl ⟨by rfl,fun w9=>?_⟩) ?_;rotate_left 1;go_simp;with_reducible rfl)|(refine Z0k ?_ (((Znk _ _).drew)) (Or.inl ⟨by rfl,fun w9 hw9=>?_⟩) ?_;rotate_left 1;obtain ⟨hc9,hf9⟩:=Z1e hw9;go_simp;with_reducible rfl)|refine Z0m undef (Or.inr ⟨by rfl,rfl⟩) ?_|refine Z0k undef (((Znk _ _).drew)) (Or.inr ⟨by rfl,rfl⟩) ?_);go_frame));refine Z1y (by kernel_rfl) (fun K9 hK9=>?_);go_simp;refine hK9 _ _ ?_;clear hK9 K9;refine Z16 ?_;simp only [Z04];refine hKK _ _ ?_;clear hKK KK;(go_wp2_with fail);go_roundw
    case rel=>
     refine ⟨j,by go_num,by omega,by omega,?_,Fr.drew ((HFR.out).setCell (p:=⟨g,(j+1),none⟩) (.inl rfl) (_))⟩;have hst:=((HOW.out).stored ((j+1)) (.int .i64 y)).1
     have he:setAll ((Z0s l x (j+1)).flatMap Bnum.cells) ((j+1)) (Bnum.cells y)=(Z0s l x j).flatMap Bnum.cells:=by
      rw [Z4h Bnum.cells_length (by omega) _ (j+1) (by rw [Z0g l x hi2];omega),HY.out,Z3b l x hj]
     rw [←he];exact hst
    case measure=>simp [intOf]<;>omega
  · obtain rfl:i=rank Z0q l x:=by omega
    have rmj:Room wr g 170 (c2*1)∧l.length+1≤c2:=by
     rcases Z0h HOW.out with ⟨hv,_⟩|⟨g',cap,hv,hn,_,hr,_⟩
     · cases hv
     · injection hv with hA _ hc
       injection hA with hA;injection hA with hA;subst hA;subst hc;exact ⟨hr,hn⟩
    obtain ⟨hrm,hcap⟩:=rmj;obtain ⟨k,hk⟩:∃k,k=rank Z0q l x:=⟨_,rfl⟩;rw [←hk] at hi2 hlt ⊢;obtain ⟨u0,t0⟩:=hrm.cell (i:=k) (by omega);(have b1:(0:Int)≤(k:Int):=by omega);(have b2:(k:Int)<(l.length:Int)+1:=by omega);have HK:=hid hk;have hbw:b<wr.heap.size:=Znx wr _ r0;clear hrm hk;(go_wp2_with fail);go_ret;have HOWk:=HOW.out;rw [←HK.out] at HOWk;have hst:=((HOWk).stored (k) (.int .i64 x)).1
    have he:setAll ((Z0s l x k).flatMap Bnum.cells) (k) (Bnum.cells x)=(put Z0q l x).flatMap Bnum.cells:=by
     rw [Z4h Bnum.cells_length (by omega) _ k (by rw [Z0g l x hi2];omega),Z3t l x hi2,Z9b Z42 HO.out hh,HK.out]
    have hln:=Z3s Z42 HO.out hh;refine ⟨by rw [hh];rfl,false,some ⟨g,0,none⟩,c2,⟨?_,?_⟩,?_,?_⟩
    · rw [hln]
      exact (HB4.out.fr HFR.out (fun h=>hgb h.symm)).far (p:=⟨g,k,none⟩) (fun h=>hgb h.symm) _
    · rw [hln,←he]
      exact hst
    · exact HF4.out.into (((HFR.out).setCell (p:=⟨g,k,none⟩) (.inl rfl) (_))) (fun k hk=>by subst hk;exact HgM.out)
    · exact HgMv.out
theorem Zf6 (b c:Nat) (sn:Bool) (A:Option Addr) (l:List Bnum) (x:Bnum) (w:World) (hS:Z41 w b sn A c l) (hs:Srt Z0q l) (hl:(l.length:Int)≤100000000) :
 Calls Tryz.prog 108 #[.pointer (some ⟨b,0,none⟩),.int .i64 x] w (Z6k w b sn A l x):=by
 cases hh:has Z0q l x
 · exact Zcs b c sn A l x w hS hs hl hh
 · exact Z9v b c sn A l x w hS hs hl hh
end
end Go.Proofs.YtfidcfjcmlgkbaaGreat
