/-
  Texts put together: BkFind, Queue, LeafBnum, LeafPgR, LeafPgT, BkPlain, BkReach, FindBnum, OpsBnum, PutBnum, NewBnum, SeenFrom, FindPgR, IterPgR, OpsPgR, ListPgR, SeqP.
-/
import Derived.Test.YtcnnofgaifcgaaaGreatPTk
namespace Go.Proofs.YtcnnofgaifcgaaaGreat
set_option maxRecDepth 100000
set_option maxHeartbeats 32000000
set_option linter.unusedSimpArgs false
section
open Go.RowKit
def zRec:Z0c:=⟨0,0,[],[],[],[]⟩
def Z3g (l:List Z0c) (k:Int):Z0c×Bool:=match l.find? (fun r=>r.num == k) with|some r=>(r,true)|none=>(zRec,false)
theorem Zoy {l:List Z0c}{k:Int}{i:Nat}(hi:i<l.length) (hk:l[i].num=k) (hj :∀j,(h:j<l.length)→j<i→l[j].num≠k):Z3g l k=(l[i],true):=by
 have:l.find? (fun r=>r.num == k)=some l[i]:=by
  rw [List.find?_eq_some_iff_getElem];exact ⟨YUq,i,hi,rfl,fun j h=>by simpa using hj j Ya h⟩
 unfold Z3g;rw [this]
theorem Zoz {l:List Z0c}{k:Int}(hj :∀j,(h:j<l.length)→l[j].num≠k):Z3g l k=(zRec,false):=by
 have:l.find? (fun r=>r.num == k)=none:=by
  rw [List.find?_eq_none];intro x hx;obtain ⟨j,h,rfl⟩:=List.getElem_of_mem hx;simpa using hj j h
 unfold Z3g;rw [this]
theorem Za1 {l:List Z0c}{k:Int}(h:(Z3g l k).2=true):(Z3g l k).1∈l∧(Z3g l k).1.num=k:=by
 unfold Z3g at h ⊢
 cases hf:l.find? (fun r=>r.num == k) with
 | none=>rw [hf] at h;cases h
 | some r=>exact ⟨List.mem_of_find?_eq_some hf,by simpa using List.find?_some hf⟩
theorem Ziy {l:List Z0c}{k:Int}(h:(Z3g l k).2=false):(Z3g l k).1=zRec:=by
 unfold Z3g at h ⊢
 cases hf:l.find? (fun r=>r.num == k) with
 | none=>rfl
 | some r=>rw [hf] at h;cases h
def Ans (n:Nat) (x:Z0c×Bool) (D:Nat→Prop) (e:Ending) (w':World):Prop:=
 ∃A1 c1 A2 c2 A3 c3 A4 c4,e = .returned (.tuple #[.agg (Q0t x.1 A1 c1 A2 c2 A3 c3 A4 c4),.bool x.2])∧Z8n n D w' x.1 A1 c1 A2 c2 A3 c3 A4 c4
structure Z59 (n B:Nat) (gf:Nat) (lb:Array Value) (look:Int→Z0c×Bool) (G:(Nat→Prop)→List Int→World→Prop):Prop where
 enter :∀args w,(callFunc gf args).run Tryz.prog w = .ok (.enter gf args) w
 lt :∀{E ks w},G E ks w→∀k,E k→k<w.heap.size
 steady :∀{E:Nat→Prop}{ks:List Int}{w w':World}{M:Nat→Prop},G E ks w→Fr M w w'→(∀k,M k→¬E k∧B≤k)→G E ks w'
 call :∀{E ks w}(k:Int),ks.length≤100000→k ∉ ks→G E ks w→Calls Tryz.prog gf (#[.int .i64 k]++lb) w fun e w'=>∃E',G E' (ks ++ [k]) w'∧(∀j,E' j→Plus E w w' j)∧Fr E w w'∧Ans n (look k) (fun j=>NewD w.heap.size w' j∧¬E' j) e w'
theorem Z59.up {n B B' gf:Nat}{lb:Array Value}{look:Int→Z0c×Bool}{G:(Nat→Prop)→List Int→World→Prop}(h:Z59 n B gf lb look G) (hB:B≤B'):Z59 n B' gf lb look G:=
 ⟨h.enter,h.lt,fun hG hF hM=>h.steady hG hF (fun k hk=>⟨(hM k hk).1,Zt6 hB (hM k hk).2⟩),h.call⟩
theorem Zsd {n:Nat}(D:Nat→Prop) (w:World):Z8n n D w zRec none 0 none 0 none 0 none 0:=⟨RowR.nil _ _ _,RowR.nil _ _ _,RowR.nil _ _ _,RowR.nil _ _ _⟩
theorem Zod (n kb:Nat) (l:List Z0c) (A:Option Addr) (c:Nat){D:Nat→Prop}(k:Int) (w:World) (hkb:Blk w kb 22 #[.slice A l.length c]) (hrd:RowR (Z18 n) D w A c l) (hs :∀r∈l,SmR n r) :
 Calls Tryz.prog 21 #[.int .i64 k,.pointer (some ⟨kb,0,none⟩)] w fun e w'=>Below w.heap.size w w'∧Ans n (Z3g l k) (NewD w.heap.size w') e w':=by
 have hlc:=hrd.cap;have HR:=hU hrd;have HS:=hU hs;have zz:=hU hkb;have hkl:=hkb.lt;clear hrd hs hkb;go_enter Tryz.func21,Tryz.ntmps21;go_upto_region 1 with fail;obtain ⟨W1,Wo⟩:∃W1,W1=w.alloc (.cells Q2j 61):=⟨_,rfl⟩;have Ky:Below w.heap.size w W1:=Yo;have Ia:Blk W1 w.heap.size 61 Q2j:=YBf;(have rm:W1.heap.size=w.heap.size+1:=by rw [Wo];simp);rw [←Wo];clear Wo;have Nk:=hU Ky;have Ld:=hU Ia;have ja:=hU rm;clear Ky Ia rm;go_wp2_with fail
 go_loopw [5] (fun i wr=>∃m:Nat,i = .int .i64 m∧m≤l.length∧(∀j,(h:j<l.length)→j<m→l[j].num≠k)∧Below W1.heap.size W1 wr) (fun i wr=>l.length - (intOf i).toNat)
 case atStart=>exact ⟨0,rfl,Nat.zero_le _,fun j _ h=>absurd h Ya,Zst _ _⟩
 case round=>
  obtain ⟨m,rfl,hm,vh,hB⟩:=hrel;have hzr:=hB.size;have Ua:Below w.heap.size w wr:=Nk.o.trans (hB.mono YFx);have x0:=(zz.o.new_ Ua).c1;have hkl2:=(zz.o.new_ Ua).lt;have hX:=Ld.o.new_ hB;have hxl:=hX.lt;have V7:=hU vh;by_cases hlt:m<l.length
  · obtain ⟨g,off,so,Bv,Xj,qw,qy,Mg,Sm,f7,sf,hDg,hg,q0,q1,q2,q3,q4,q5,r1,r2,r3,r4⟩:=Zav (HR.o.new_ Ua) hlt
    subst sf;have lh:SmR n l[m]:=HS.o _ (Ztf hlt);refine Y9x ?_;intro y hy;rw [←hy] at q0 q1 q2 q3 q4 q5 r1 r2 r3 r4 lh;refine Y6d ?_;intro b1 b2;have HY:=hU hy;have xm:=hU (show Z8n n D wr y so Bv Xj qw qy Mg Sm f7 from ⟨r1,r2,r3,r4⟩);have Mk:=hU lh;have HB:=hU hB;have n8:=hU Ua;have HX:=hU hX;clear hy lh r1 r2 r3 r4 hB Ua hX vh;by_cases hk:y.num=k
    · have t1:(y.num == k)=true:=by simpa using hk
      have HK:=hU hk;clear hk;go_wp2_with fail;refine (Zo9 n y so Bv Xj qw qy Mg Sm f7 wr xm.o Mk.o).mono ?_;rintro e w5 ⟨vx,j7,lu,lr,Be,Ot,Uu,l7,rfl,O4,Wz⟩;have Tg:=HX.o.new_ Wz;have HT:=hU (show w5.there w.heap.size 0 ((Q0t y vx j7 lu lr Be Ot Uu l7):Array Value).size from Tg.there);have hxl5:=Tg.lt;have Xp:=hU Wz;have hzb:=Wz.size;have HRA5:=hU O4;clear Wz O4 Tg x0 q0 q1 q2 q3 q4 q5;(go_wp2_with (with_reducible refine wpList_store_mid rfl 61 _ _ rfl w.heap.size 0 (Q0t y vx j7 lu lr Be Ot Uu l7) rfl rfl HT.o Yb Yb ?_));refine Ykv ?_;refine bodyPost_ret (v:=.tuple #[.agg (Q0t y vx j7 lu lr Be Ot Uu l7),.bool true]) ?_ rfl ⟨Below.setCells' _ _ (n8.o.trans (Xp.o.mono (by have:=n8.o.size;omega))) (Zsu _),?_⟩
      · exact Z0n (t:=3) (s:=4) (T:=61) rfl _ _ w.heap.size (Q0s y vx j7 lu lr Be Ot Uu l7) _ rfl (Zsy w5 w.heap.size 0 (Q0s y vx j7 lu lr Be Ot Uu l7) HT.o) Tryz.underlying61 rfl Yb
      · have e:=HY.o
        rw [Zoy hlt (by rw [←e];exact HK.o) V7.o,←e];exact ⟨vx,j7,lu,lr,Be,Ot,Uu,l7,rfl,HRA5.o.keep YOz (fun j hj hl=>⟨⟨by have:=hj.1;omega,YOz⟩,Z1d _ _ _ _ _ Y7⟩)⟩
    · have t1:(y.num == k)=false:=by simpa using hk
      have HK:=hU hk;clear hk;go_wp2_with fail;go_roundw
      case rel=>
       refine ⟨m+1,Yn,Ya,fun j h hj=>?_,HB.o⟩;rcases Nat.lt_or_ge j m with h2|h2
       · exact V7.o j h h2
       · obtain rfl:j=m:=by omega
         rw [←HY.o];exact HK.o
      case measure=>simp [intOf];omega
  · obtain rfl:m=l.length:=by omega
    have HT:=hU (show wr.there w.heap.size 0 (Q2j:Array Value).size from hX.there);have n8:=hU Ua;clear hB Ua hX vh;(go_wp2_with (with_reducible refine wpList_store_mid rfl 61 _ _ rfl w.heap.size 0 Q2j rfl rfl HT.o Yb Yb ?_));refine Ykv ?_;refine bodyPost_ret (v:=.tuple #[.agg Q2j,.bool false]) ?_ rfl ⟨Below.setCells' _ _ n8.o (Zsu _),?_⟩
    · exact Z0n (t:=3) (s:=4) (T:=61) rfl _ _ w.heap.size [.int .i64 0,.int .i64 0,.slice none 0 0,.slice none 0 0,.slice none 0 0,.slice none 0 0] _ rfl (Zsy wr w.heap.size 0 [.int .i64 0,.int .i64 0,.slice none 0 0,.slice none 0 0,.slice none 0 0,.slice none 0 0] HT.o) Tryz.underlying61 rfl Yb
    · rw [Zoz (fun j h=>V7.o j h h)]
      exact ⟨none,0,none,0,none,0,none,0,rfl,Zsd _ _⟩
theorem Ze0 (l:List Z0c) (A:Option Addr) (c:Nat) (w:World) :
 Calls Tryz.prog 8 #[.slice A l.length c] w fun e w'=>e = .returned (.func (.func 21) #[] #[.pointer (some ⟨w.heap.size,0,none⟩)])∧Below w.heap.size w w'∧Blk w' w.heap.size 22 #[.slice A l.length c]:=by
 go_enter Tryz.func8,Tryz.ntmps8;exact Yyg
theorem Zl1 (n kb B:Nat) (l:List Z0c) (A:Option Addr) (c:Nat) (W0:World) (hkb:Blk W0 kb 22 #[.slice A l.length c]) (hrd:RowR (Z18 n) (· < B) W0 A c l) (hs :∀r∈l,SmR n r) (_:B≤W0.heap.size) (hkB:kb<B) :
 Z59 n B 21 #[.pointer (some ⟨kb,0,none⟩)] (Z3g l) (fun E _ w=>(∀k,¬E k)∧Below B W0 w∧B≤w.heap.size) where
 enter:=YX8
 lt:=fun h k hk=>absurd hk (h.1 k)
 steady:=fun h hF hM=>⟨h.1,h.2.1.trans ⟨hF.os,hF.tape,hF.output,hF.size,fun k hk=>hF.block k (Zsw hk h.2.2) (fun hm=>by have:=(hM k hm).2;omega)⟩,Zt6 h.2.2 hF.size⟩
 call:=fun {E ks w} k _ _ h=>by
  refine (Zod n kb l A c k w (hkb.below h.2.1 hkB) (hrd.keep h.2.1.size (fun j hj _=>⟨hj,h.2.1.block j hj⟩)) hs).mono ?_;rintro e w' ⟨hb,A1,c1,A2,c2,A3,c3,A4,c4,he,hr⟩;exact ⟨fun _=>False,⟨fun _ h=>h,h.2.1.trans (hb.mono h.2.2),Zt6 h.2.2 hb.size⟩,fun _ h=>h.elim,Fr.of_new hb,A1,c1,A2,c2,A3,c3,A4,c4,he,hr.keep (Zsu _) (fun j hj _=>⟨⟨hj,fun h=>h⟩,rfl⟩)⟩
def QRow (w:World) (e:TypeId) (size:Nat) (v:Value) (n:Nat) (xs:List Value):Prop:=
 ∃A cap,v = .slice A n cap∧n≤cap∧cap≤maxLen∧xs.length=n*size∧(A=none→cap=0)∧
  ∀b,A=some b→b.spot=none∧(cap=0∨∃cur,Blk w b.block e cur∧b.off+cap*size≤cur.size)∧∀j u,xs[j]? = some u→w.cell? ⟨b.block,b.off+j,none⟩=some u
section
variable {w w':World}{e:TypeId}{size n:Nat}{v:Value}{xs:List Value}
theorem QRow.form (h:QRow w e size v n xs):∃A cap,v = .slice A n cap∧n≤cap∧cap≤maxLen:=by
 obtain ⟨A,cap,rfl,h1,h2,_⟩:=h;exact ⟨A,cap,rfl,h1,h2⟩
theorem QRow.of_own (h:w.ownsRow 0 e size v n xs):QRow w e size v n xs:=by
 rcases Z0f h with ⟨rfl,rfl,rfl⟩|⟨g,cap,rfl,h1,h2,⟨cur,hb,hs⟩,h3,h4⟩
 · exact ⟨none,0,rfl,Zsu _,Nat.zero_le _,Ye,fun _=>rfl,fun b hb=>by cases hb⟩
 · exact ⟨_,cap,rfl,h1,h2,h3,fun h=>by (cases h),fun b hb'=>by cases hb';exact ⟨rfl,.inr ⟨cur,hb,by simp [hs]⟩,fun j u hu=>by simpa using h4 j u hu⟩⟩
theorem QRow.keep {M:Nat→Prop}(h:QRow w e size v n xs) (hF:Fr M w w') (hm :∀k,v.ownBlock=some k→¬M k) (hlt :∀k,v.ownBlock=some k→k<w.heap.size):QRow w' e size v n xs:=by
 obtain ⟨A,cap,rfl,h1,h2,h3,h4,h5⟩:=h;refine ⟨A,cap,rfl,h1,h2,h3,h4,fun b hb=>?_⟩;subst hb;obtain ⟨g1,g2,g3⟩:=h5 b rfl;have hk:=hm b.block rfl;have hl:=hlt b.block rfl;exact ⟨g1,g2.imp id (fun ⟨cur,hc,hs⟩=>⟨cur,hc.fr hF hk,hs⟩),fun j u hu=>(hF.cell (p:=⟨b.block,b.off+j,none⟩) hl hk).trans (g3 j u hu)⟩
theorem QRow.new_ (h:QRow w e size v n xs) (hb:Below w.heap.size w w') (hlt :∀k,v.ownBlock=some k→k<w.heap.size):QRow w' e size v n xs:=
 h.keep (M:=fun _=>False) (Fr.of_new hb) (fun _ _ h=>h) hlt
theorem QRow.head {A:Option Addr}{m cap:Nat}(h:QRow w e 1 (.slice A (m+1) cap) (m+1) xs):∃b off x,A=some ⟨b,off,none⟩∧m+1≤cap∧xs[0]? = some x∧w.cell? ⟨b,off,none⟩=some x:=by
 obtain ⟨A',cap',hv,h1,h2,h3,h4,h5⟩:=h;injection hv with e1 e2 e3;subst e1;subst e3
 cases A with
 | none=>have:=h4 rfl;omega
 | some b=>
   obtain ⟨g1,g2,g3⟩:=h5 b rfl;obtain ⟨bb,off,sp⟩:=b;dsimp only at g1;subst g1
   cases xs with
   | nil=>simp at h3
   | cons x xs=>exact ⟨bb,off,x,rfl,h1,rfl,by simpa using g3 0 x rfl⟩
theorem QRow.tail {b off m cap:Nat}{x:Value}(h:QRow w e 1 (.slice (some ⟨b,off,none⟩) (m+1) cap) (m+1) (x :: xs)):QRow w e 1 (.slice (if cap=1 then some ⟨b,off,none⟩ else some ⟨b,off+1,none⟩) m (cap - 1)) m xs:=by
 obtain ⟨A',cap',hv,h1,h2,h3,h4,h5⟩:=h;injection hv with e1 e2 e3;subst e1;subst e3;obtain ⟨_,g2,g3⟩:=h5 _ rfl;(have hx:xs.length=m*1:=by simp at h3 ⊢;omega);by_cases hc:cap=1
 · rw [if_pos hc]
   have hm:m=0:=Ya;have:xs = []:=List.eq_nil_of_length_eq_zero Ya;subst this;exact ⟨_,cap - 1,rfl,Ya,Ya,hx,fun h=>YZt,fun b' hb'=>by cases hb';exact ⟨rfl,.inl Ya,fun j u hu=>by simp at hu⟩⟩
 · rw [if_neg hc]
   refine ⟨_,cap - 1,rfl,Ya,Ya,hx,fun h=>YZt,fun b' hb'=>?_⟩;injection hb' with hb';subst hb';refine ⟨rfl,.inr ?_,fun j u hu=>?_⟩
   · rcases g2 with g2|⟨cur,hc,hs⟩
     · omega
     · exact ⟨cur,hc,by dsimp only at hs ⊢;omega⟩
   · have:=g3 (j+1) u (by simpa using hu)
     dsimp only at this ⊢;rwa [show off+1+j=off+(j+1) from Ya]
end
section
variable {P:Program}(w:World)
theorem Zak {ops:Array Oper}{rest:List Oper}{o:Oper}{a:Act}{Q:Exit→Act→World→Prop}(hgd:o.guard=none) (s x:Operand) (t:TypeId)
 (ho:o.op = .call { callee:=.builtin .append,args:=#[s,x],argTypes:=#[t,t] })
 (e:TypeId) (i:TypeInfo) (z:Value) (size bytes:Nat) (ht:P.underlying t=some (.slice e)) (hi:P.info? e=some i) (hz:i.zero=some z)
 (hsize:i.size=size) (hby:i.bytes=bytes) (hzs:z.cells.size=size) (hsz:0<size)
 (v:Value) (n:Nat) (xs:List Value) (hs:a.eval s=v) (hown:QRow w e size v n xs)
 (ad:Addr) (c:Nat) (news:List Value) (hx:a.eval x = .slice (some ad) 1 c) (hn:news.length=size)
 (hnews :∀j u,news[j]? = some u→w.cell? (ad.add j)=some u) (h1 :∀u∈news,u.oneCell'=true)
 (h63:n+1≤maxLen) (hbytes:(n+1)*bytes≤140737488355328)
 (h :∀v' w',QRow w' e size v' (n+1) (xs++news)→Fr (fun k=>v.ownBlock=some k) w w'→(∀g t cs,t≠e→Blk w g t cs→Blk w' g t cs)→(v'.ownBlock=v.ownBlock∨∀k,v'.ownBlock=some k→w.heap.size≤k∧k<w'.heap.size)→wpList P ops Q rest (a.put o.dst v') w') :
 wpList P ops Q (o :: rest) a w:=by
 have fin :∀v' w',w'.ownsRow w.heap.size e size v' (n+1) (xs++news)→w.grownBy w' none→wpList P ops Q rest (a.put o.dst v') w':=fun v' w' g1 g2=>by
  have g0:w'.ownsRow 0 e size v' (n+1) (xs++news):=⟨g1.1,g1.2.imp id fun ⟨g,cap,cur,hv,h0,hr⟩=>⟨g,cap,cur,hv,Nat.zero_le _,hr⟩⟩;have hF:Fr (fun k=>v.ownBlock=some k) w w':=(Fr.refl _ w).grown g2 (fun k hk=>by cases hk);refine h v' w' (.of_own g0) hF (fun g t cs _ hb=>hb.grown g2 Ye) (.inr fun k hk=>⟨?_,Z3i g0 k hk⟩);rcases g1.2 with ⟨rfl,hn0⟩|⟨g,cap,cur,rfl,hb,_⟩
  · omega
  · simp only [Value.ownBlock,Option.some.injEq] at hk
    omega
 obtain ⟨A,cap,rfl,q1,q2,q3,q4,q5⟩:=hown;by_cases hr:n+1≤cap
 · cases A with
   | none=>have:=q4 rfl;omega
   | some b=>
     obtain ⟨b,off,sp⟩:=b;obtain ⟨g1,g2,g3⟩:=q5 _ rfl;dsimp only at g1;subst g1
     obtain ⟨cur,Pr,Ta⟩:∃cur,Blk w b e cur∧off+cap*size≤cur.size:=by
      rcases g2 with g2|g2
      · omega
      · exact g2
     have hmul:(n+1)*size≤cap*size:=Nat.mul_le_mul_right _ hr;rw [Nat.add_mul] at hmul;refine wpList_append_arg w hgd s x t ho e i z size bytes ht hi hz hsize hby hzs hsz b off n cap xs hs q3 (fun j u hu=>by simpa using g3 j u hu) ad 1 c news hx Ya hnews h1 (fun _ j hj=>?_) h63 hbytes (fun _=>?_) (fun hc=>Ya)
     · exact Ydv
     · have hF:Fr (fun k=>(Value.slice (some ⟨b,off,none⟩) n cap).ownBlock=some k) w (w.setCells b (off+n*size) news):=Fr.setCells news _ (Fr.refl _ w) (.inl rfl)
       obtain ⟨cur',hb',hz'⟩:=Blk.setCells_ news (off+n*size) Pr;refine h _ _ ⟨some ⟨b,off,none⟩,cap,rfl,hr,q2,by rw [Ztd,q3,hn,Nat.add_mul];omega,fun h=>YZt,fun b2 hb2=>?_⟩ hF (fun g t cs hne hb=>?_) (.inl rfl)
       · injection hb2 with hb2
         subst hb2;refine ⟨rfl,.inr ⟨cur',hb',by rw [hz'];exact Ta⟩,fun j u hu=>?_⟩;dsimp only;rcases Nat.lt_or_ge j xs.length with hj|hj
         · rw [Zto hj] at hu
           have O4:w.rangeAt b off xs:=fun j v hv=>g3 j v hv;exact World.rangeAt_setCells_apart O4 b (off+n*size) news (.inr (.inl (by rw [q3];omega))) j u hu
         · rw [Ztn hj] at hu
           have Tq:w.there b (off+n*size) news.length:=fun k hk=>by
            exact Ydv
           have:=Zsy w b (off+n*size) news Tq (j - xs.length) u hu;rwa [show off+n*size+(j - xs.length)=off+j from Ya] at this
       · exact Blk.farCells news _ hb (fun e2=>by subst e2;exact hb.ne_ Pr hne rfl)
 · have hA :∀b,A=some b→b=⟨b.block,b.off,none⟩:=fun b hb=>by
    have:=(q5 b hb).1;obtain ⟨_,_,_⟩:=b;dsimp only at this;subst this;rfl
   refine wpList_append_grows w hgd s x t ho e i z size bytes ht hi hz hsize hby hzs hsz A n cap xs hs (fun hn=>by have:=q4 hn;exact ⟨Ya,this⟩) q3 (fun b hb j u hu=>?_) ad 1 c news hx Ya hnews h1 Ya h63 hbytes fin;rw [hA b hb];have:=(q5 b hb).2.2 j u hu;rwa [Go.WideShapes.add_plain]
end
end
section
open Go.RowKit
abbrev Bnum:=Int
def Bnum.cells (n:Bnum):List Value:=[.int .i64 n]
theorem Bnum.cells_length (n:Bnum):(Bnum.cells n).length=1:=rfl
def Z0r (a b:Bnum):Int:=Z1b a b
theorem Z4n:TC Z0r:=Z3c
theorem Zbq (a b:Bnum) (w:World):Calls Tryz.prog 245 #[.int .i64 a,.int .i64 b] w fun e w'=>e = .returned (.int .i64 (Z0r a b))∧Below w.heap.size w w':=by
 go_enter Tryz.func245,Tryz.ntmps245;go_wp2
 all_goals (go_ret;refine ⟨?_,Zst _ _⟩;unfold Z0r Z1b;(repeat' split)<;>first|rfl|(exfalso;omega))
structure Sl where
 A:Option Addr
 n:Nat
 c:Nat
structure PgR where
 kk:Int
 num:Int
 level:Int
 elems:Sl
 holes:Sl
 aparts:Sl
 news:Sl
def PgR.cells (x:PgR):List Value:=[.int .i64 x.kk,.int .i64 x.num,.int .i64 x.level,.slice x.elems.A x.elems.n x.elems.c,.slice x.holes.A x.holes.n x.holes.c,.slice x.aparts.A x.aparts.n x.aparts.c,.slice x.news.A x.news.n x.news.c]
theorem PgR.cells_length (x:PgR):x.cells.length=7:=rfl
def Z1k (a b:PgR):Int:=Z1b a.kk b.kk
theorem Z6w:TC Z1k:=⟨fun _=>Z3c.refl _,fun _ _=>Z3c.symm _ _,fun _ _ _=>Z3c.trans _ _ _⟩
theorem Zc6 (k : Int) (w : World) : (nilAhead 504 95 (.int .i64 k) "Compare").run Tryz.prog w = .ok (some false) w := Yb
theorem Zfq (k : Int) (w : World) : (method 504 95 (.int .i64 k) "Compare").run Tryz.prog w = .ok (245, .int .i64 k) w := Yb
theorem Zqq (a b:PgR) (w:World):Calls Tryz.prog 263 #[.agg #[.int .i64 a.kk,.int .i64 a.num,.int .i64 a.level,.slice a.elems.A a.elems.n a.elems.c,.slice a.holes.A a.holes.n a.holes.c,.slice a.aparts.A a.aparts.n a.aparts.c,.slice a.news.A a.news.n a.news.c],.agg #[.int .i64 b.kk,.int .i64 b.num,.int .i64 b.level,.slice b.elems.A b.elems.n b.elems.c,.slice b.holes.A b.holes.n b.holes.c,.slice b.aparts.A b.aparts.n b.aparts.c,.slice b.news.A b.news.n b.news.c]] w fun e w'=>e = .returned (.int .i64 (Z1k a b))∧Below w.heap.size w w':=by
 have N:=Zc6;have M:=Zfq;go_enter Tryz.func263,Tryz.ntmps263;go_wp2_with fail;refine (Zbq a.kk b.kk _).mono ?_;exact Yo9
abbrev Q0d (x:PgR)  : Array Value:=#[.int .i64 x.kk,.int .i64 x.num,.int .i64 x.level,.slice x.elems.A x.elems.n x.elems.c,.slice x.holes.A x.holes.n x.holes.c,.slice x.aparts.A x.aparts.n x.aparts.c,.slice x.news.A x.news.n x.news.c]
structure PgT where
 kk:Int
 tr:Z0j
def PgT.cells (x:PgT):List Value:=[.int .i64 x.kk,.int .i64 x.tr.elem.id.kind,.string x.tr.elem.id.text,.int .i64 x.tr.elem.id.n,.int .i64 x.tr.elem.attr.kind,.string x.tr.elem.attr.text,.int .i64 x.tr.elem.attr.n,.int .i64 x.tr.elem.value.kind,.string x.tr.elem.value.text,.int .i64 x.tr.elem.value.n,.bool x.tr.elem.acc,.bool x.tr.elem.goal,.int .i64 x.tr.elem.tag,.int .i64 x.tr.level,.int .i64 x.tr.cause]
theorem PgT.cells_length (x:PgT):x.cells.length=15:=rfl
def Z0x (a b:PgT):Int:=Z1b a.kk b.kk
theorem Z56:TC Z0x:=⟨fun _=>Z3c.refl _,fun _ _=>Z3c.symm _ _,fun _ _ _=>Z3c.trans _ _ _⟩
theorem Zc7 (k : Int) (w : World) : (nilAhead 504 95 (.int .i64 k) "Compare").run Tryz.prog w = .ok (some false) w := Yb
theorem Zfr (k : Int) (w : World) : (method 504 95 (.int .i64 k) "Compare").run Tryz.prog w = .ok (245, .int .i64 k) w := Yb
theorem Zqs (a b:PgT) (w:World):Calls Tryz.prog 267 #[.agg #[.int .i64 a.kk,.int .i64 a.tr.elem.id.kind,.string a.tr.elem.id.text,.int .i64 a.tr.elem.id.n,.int .i64 a.tr.elem.attr.kind,.string a.tr.elem.attr.text,.int .i64 a.tr.elem.attr.n,.int .i64 a.tr.elem.value.kind,.string a.tr.elem.value.text,.int .i64 a.tr.elem.value.n,.bool a.tr.elem.acc,.bool a.tr.elem.goal,.int .i64 a.tr.elem.tag,.int .i64 a.tr.level,.int .i64 a.tr.cause],.agg #[.int .i64 b.kk,.int .i64 b.tr.elem.id.kind,.string b.tr.elem.id.text,.int .i64 b.tr.elem.id.n,.int .i64 b.tr.elem.attr.kind,.string b.tr.elem.attr.text,.int .i64 b.tr.elem.attr.n,.int .i64 b.tr.elem.value.kind,.string b.tr.elem.value.text,.int .i64 b.tr.elem.value.n,.bool b.tr.elem.acc,.bool b.tr.elem.goal,.int .i64 b.tr.elem.tag,.int .i64 b.tr.level,.int .i64 b.tr.cause]] w fun e w'=>e = .returned (.int .i64 (Z0x a b))∧Below w.heap.size w w':=by
 have N:=Zc7;have M:=Zfr;go_enter Tryz.func267,Tryz.ntmps267;go_wp2_with fail;refine (Zbq a.kk b.kk _).mono ?_;exact Yo9
abbrev Q0a (x:PgT)  : List Value:=[.int .i64 x.kk,.int .i64 x.tr.elem.id.kind,.string x.tr.elem.id.text,.int .i64 x.tr.elem.id.n,.int .i64 x.tr.elem.attr.kind,.string x.tr.elem.attr.text,.int .i64 x.tr.elem.attr.n,.int .i64 x.tr.elem.value.kind,.string x.tr.elem.value.text,.int .i64 x.tr.elem.value.n,.bool x.tr.elem.acc,.bool x.tr.elem.goal,.int .i64 x.tr.elem.tag,.int .i64 x.tr.level,.int .i64 x.tr.cause]
abbrev Q0b (x:PgT)  : Array Value:=#[.int .i64 x.kk,.int .i64 x.tr.elem.id.kind,.string x.tr.elem.id.text,.int .i64 x.tr.elem.id.n,.int .i64 x.tr.elem.attr.kind,.string x.tr.elem.attr.text,.int .i64 x.tr.elem.attr.n,.int .i64 x.tr.elem.value.kind,.string x.tr.elem.value.text,.int .i64 x.tr.elem.value.n,.bool x.tr.elem.acc,.bool x.tr.elem.goal,.int .i64 x.tr.elem.tag,.int .i64 x.tr.level,.int .i64 x.tr.cause]
def Z6t (lv:Int) (r:Z0c):List Int:=(r.elems.filter fun e=>decide (lv≤e.level) && decide (0<e.cause)).map Z0j.cause
section
variable (look:Int→Z0c×Bool) (lv:Int) (keys:List Int)
def bfs:Nat→List Int→List Int→List Int
 | 0,_,done=>done
 | _+1,[],done=>done
 | f+1,k :: todo,done=>if k∈done then bfs f todo done else if (look k).2=true then bfs f (todo++Z6t lv (look k).1) (done ++ [k]) else bfs f todo (done ++ [k])
def left (done:List Int):Nat:=((keys.filter fun k=>decide (k ∉ done)).map fun k=>(Z6t lv (look k).1).length).sum
def cost (todo done:List Int):Nat:=todo.length+left look lv keys done
theorem Za0 (done:List Int) (k:Int):left look lv keys (done ++ [k])≤left look lv keys done:=by
 unfold left
 induction keys with
 | nil=>simp
 | cons x keys ih=>
   by_cases h:x∈done
   · refine Ydn ?_;intro h2;exact ih
   · by_cases h2:x∈done ++ [k]
     · simp only [List.filter_cons,h,h2,not_true_eq_false,not_false_eq_true,decide_false,decide_true,Bool.false_eq_true,if_false,if_true,List.map_cons,List.sum_cons]
       omega
     · exact Yzk
theorem Zr1 {done:List Int}{k:Int}(hk:k∈keys) (hd:k ∉ done):left look lv keys (done ++ [k])+(Z6t lv (look k).1).length≤left look lv keys done:=by
 induction keys with
 | nil=>cases hk
 | cons x keys ih=>
   have hle:=Za0 look lv keys done k;unfold left at ih hle ⊢;by_cases hxk:x=k
   · subst hxk
     have h2:x∈done ++ [x]:=Ye;simp only [List.filter_cons,hd,h2,not_true_eq_false,not_false_eq_true,decide_false,decide_true,Bool.false_eq_true,if_false,if_true,List.map_cons,List.sum_cons];omega
   · have hk':k∈keys:=by
      rcases Ztb.1 hk with h|h
      · exact absurd h.symm hxk
      · exact h
     have:=ih hk';by_cases h:x∈done
     · refine Ydn ?_;intro h2;exact this
     · have h2:x ∉ done ++ [k]:=by simp [h,hxk]
       exact Yzk
variable (hkeys :∀k,(look k).2=true→k∈keys)
include hkeys
theorem Z9c {todo done:List Int}{k:Int}(hd:k ∉ done) (hl:(look k).2=true):cost look lv keys (todo++Z6t lv (look k).1) (done ++ [k])+1≤cost look lv keys (k :: todo) done:=by
 have:=Zr1 look lv keys (hkeys k hl) hd;unfold cost;simp only [Ztd,Ztg];omega
theorem Zgx :∀(f f':Nat) (todo done:List Int),cost look lv keys todo done≤f→cost look lv keys todo done≤f'→bfs look lv f todo done=bfs look lv f' todo done:=by
 intro f
 induction f with
 | zero=>
   intro f' todo done h _;have:todo = []:=List.eq_nil_of_length_eq_zero (by unfold cost at h;omega);subst this;cases f'<;>rfl
 | succ f ih=>
   intro f' todo done h h'
   cases todo with
   | nil=>cases f'<;>rfl
   | cons k todo=>
     cases f' with
     | zero=>unfold cost at h';simp at h'
     | succ f'=>
       have hsk:cost look lv keys todo done+1≤cost look lv keys (k :: todo) done:=YCd;unfold bfs;by_cases hd:k∈done
       · rw [if_pos hd,if_pos hd];exact ih f' todo done Ya Ya
       · rw [if_neg hd,if_neg hd]
         by_cases hl:(look k).2=true
         · rw [if_pos hl,if_pos hl]
           have:=Z9c look lv keys hkeys (todo:=todo) hd hl;exact ih f' _ _ Ya Ya
         · rw [if_neg hl,if_neg hl]
           have h9:cost look lv keys todo (done ++ [k])+1≤cost look lv keys (k :: todo) done:=by
            have:=Za0 look lv keys done k;unfold cost;simp;omega
           exact ih f' _ _ Ya Ya
omit hkeys in
def Z4l (todo done:List Int):List Int:=bfs look lv (cost look lv keys todo done) todo done
omit hkeys in
theorem Zmo (done:List Int):Z4l look lv keys [] done=done:=by unfold Z4l;cases cost look lv keys [] done<;>rfl
omit hkeys in
theorem Zjo {k:Int}{todo done:List Int}(h:k∈done):Z4l look lv keys (k :: todo) done=Z4l look lv keys todo done:=by
 refine Yfp ?_;intro hc e;rw [e,bfs,if_pos h];rfl
theorem Zjn {k:Int}{todo done:List Int}(h:k ∉ done) (hl:(look k).2=false):Z4l look lv keys (k :: todo) done=Z4l look lv keys todo (done ++ [k]):=by
 refine Yfp ?_;intro hc e;rw [e,bfs,if_neg h,if_neg (by rw [hl];simp)];have:=Za0 look lv keys done k;exact Zgx look lv keys hkeys _ _ _ _ (by unfold cost;omega) (Zsu _)
theorem Zmn {k:Int}{todo done:List Int}(h:k ∉ done) (hl:(look k).2=true):Z4l look lv keys (k :: todo) done=Z4l look lv keys (todo++Z6t lv (look k).1) (done ++ [k]):=by
 refine Yfp ?_;intro hc e;rw [e,bfs,if_neg h,if_pos hl];have:=Z9c look lv keys hkeys (todo:=todo) h hl;exact Zgx look lv keys hkeys _ _ _ _ Ya (Zsu _)
end
abbrev KR:=Int×Z0c
def Z6m (a b:KR):Int:=Z1b a.1 b.1
theorem Zrl:TC Z6m:=⟨fun _=>Z3c.refl _,fun _ _=>Z3c.symm _ _,fun _ _ _=>Z3c.trans _ _ _⟩
def addR (look:Int→Z0c×Bool) (R:List KR) (k:Int):List KR:=if (look k).2=true then put Z6m R (k,(look k).1) else R
def Z2v (look:Int→Z0c×Bool) (done:List Int):List KR:=done.foldl (addR look) []
def Z2l (look:Int→Z0c×Bool) (done:List Int):Nat:=(done.filter fun k=>!(look k).2).length
theorem Zac (look:Int→Z0c×Bool) (done:List Int) (k:Int):Z2v look (done ++ [k])=addR look (Z2v look done) k:=by unfold Z2v;rw [List.foldl_append];rfl
theorem Za2 (look:Int→Z0c×Bool) (done:List Int) (k:Int):Z2l look (done ++ [k])=Z2l look done+(if (look k).2=true then 0 else 1):=by
 unfold Z2l;rw [List.filter_append,Ztd];cases h:(look k).2<;>simp [h]
theorem Zfn {α:Type}{cmp:α→α→Int}{l:List α}{x y:α}(h:y∈put cmp l x):y∈l∨y=x:=by
 unfold put at h
 split at h
 · exact .inl h
 · simp only [Ztu,Ztb] at h
   rcases h with h|h|h
   · exact .inl (Z6r.1 h).1
   · exact .inr h
   · exact .inl (Z6q.1 h).1
theorem Z9g {look:Int→Z0c×Bool}{done:List Int}{p:KR}(h:p∈Z2v look done):p.1∈done∧(look p.1).2=true∧p.2=(look p.1).1:=by
 have :∀(done:List Int) (R:List KR) (D:List Int),(∀p∈R,p.1∈D∧(look p.1).2=true∧p.2=(look p.1).1)→(∀k∈done,k∈D)→∀p∈done.foldl (addR look) R,p.1∈D∧(look p.1).2=true∧p.2=(look p.1).1:=by
  intro done
  induction done with
  | nil=>intro R D h _ p hp;exact h p hp
  | cons k done ih=>
    intro R D h hd p hp;refine ih (addR look R k) D (fun q hq=>?_) (fun j hj=>hd j (by simp [hj])) p hp;unfold addR at hq
    split at hq
    · rename_i hl
      rcases Zfn hq with hq|rfl
      · exact h q hq
      · exact ⟨hd k Ye,hl,rfl⟩
    · exact h q hq
 exact this done [] done (fun p hp=>by cases hp) (fun k hk=>hk) p h
theorem Zon {look:Int→Z0c×Bool}{done:List Int}{k:Int}(h:k ∉ done) (r:Z0c):has Z6m (Z2v look done) (k,r)=false:=by
 rw [Z3w];intro y hy e;have:=(Z9g hy).1;rw [Z3u.1 e] at this;exact h this
theorem Zpo (look:Int→Z0c×Bool) (done:List Int):Srt Z6m (Z2v look done):=by
 have :∀(done:List Int) (R:List KR),Srt Z6m R→Srt Z6m (done.foldl (addR look) R):=by
  intro done
  induction done with
  | nil=>intro R h;exact h
  | cons k done ih=>
    intro R h;refine ih _ ?_;unfold addR
    split
    · exact h.put Zrl _
    · exact h
 exact this done [] Srt.nil
theorem Zov (look:Int→Z0c×Bool) (done:List Int):(Z2v look done).length≤done.length:=by
 have :∀(done:List Int) (R:List KR),Srt Z6m R→(done.foldl (addR look) R).length≤R.length+done.length:=by
  intro done
  induction done with
  | nil=>intro R _;simp
  | cons k done ih=>
    intro R h
    have h1:Srt Z6m (addR look R k):=by
     unfold addR
     split
     · exact h.put Zrl _
     · exact h
    have h2:(addR look R k).length≤R.length+1:=by
     unfold addR
     split
     · exact Z4s Zrl h _
     · omega
    have:=ih _ h1;simp only [List.foldl_cons,Ztg];omega
 have:=this done [] Srt.nil;simpa [Z2v] using this
def Z7u (a b:Z0j):Int:=Z1b a.elem.tag b.elem.tag
theorem Zq8:TC Z7u:=⟨fun _=>Z3c.refl _,fun _ _=>Z3c.symm _ _,fun _ _ _=>Z3c.trans _ _ _⟩
def bare (e:Z0j):Z0j:={ e with cause:=0 }
def lows (lv:Int) (r:Z0c):List Z0j:=(r.elems.filter fun e=>decide (e.level<lv)).map bare
def Z5r (lv:Int) (R:List KR):List Z0j:=puts Z7u [] (R.flatMap fun p=>lows lv p.2)
def once (l:List Sym) (s:Sym):List Sym:=if s∈l then l else l ++ [s]
def Z3h (R:List KR):List Sym:=(R.flatMap fun p=>p.2.news).foldl once []
structure Z8y where
 elems:List Z0j
 holes:List Z43
 aparts:List Z1a
 news:List Sym
 visited:Nat
 lost:Nat
def Z4q (look:Int→Z0c×Bool) (lv:Int) (done:List Int):Z8y:=
 ⟨Z5r lv (Z2v look done),(Z2v look done).flatMap fun p=>p.2.holes,(Z2v look done).flatMap fun p=>p.2.aparts,Z3h (Z2v look done),(Z2v look done).length,Z2l look done⟩
def Zk3 (n:Nat) (D:Nat→Prop) (w:World) (p:KR) (x:PgR):Prop:=
 x.kk=p.1∧x.num=p.2.num∧x.level=p.2.level∧x.elems.n=p.2.elems.length∧x.holes.n=p.2.holes.length∧x.aparts.n=p.2.aparts.length∧x.news.n=p.2.news.length∧Z8n n D w p.2 x.elems.A x.elems.c x.holes.A x.holes.c x.aparts.A x.aparts.c x.news.A x.news.c
theorem Zk3.keep {n:Nat}{D D':Nat→Prop}{w w':World}{p:KR}{x:PgR}(h:Zk3 n D w p x) (hs:w.heap.size≤w'.heap.size) (hk :∀k,D k→k<w.heap.size→D' k∧w'.heap[k]? = w.heap[k]?):Zk3 n D' w' p x:=by
 obtain ⟨h1,h2,h3,h4,h5,h6,h7,h8⟩:=h;exact ⟨h1,h2,h3,h4,h5,h6,h7,h8.keep hs hk⟩
theorem Z32.filter {α β:Type}{R:α→β→Prop}{f:α→Bool}{g:β→Bool}(hr :∀a b,R a b→f a=g b):∀{l:List α}{m:List β},Z32 R l m→Z32 R (l.filter f) (m.filter g)
 | _,_,.nil=>.nil
 | _,_,.cons (a:=a) (b:=b) h t=>by
   rw [List.filter_cons,List.filter_cons,hr a b h]
   split
   · exact .cons h (t.filter hr)
   · exact t.filter hr
theorem Z32.any {α β:Type}{R:α→β→Prop}{f:α→Bool}{g:β→Bool}(hr :∀a b,R a b→f a=g b):∀{l:List α}{m:List β},Z32 R l m→l.any f=m.any g
 | _,_,.nil=>rfl
 | _,_,.cons (a:=a) (b:=b) h t=>by rw [List.any_cons,List.any_cons,hr a b h,t.any hr]
theorem Z32.put {R:KR→PgR→Prop}(hr :∀a b,R a b→b.kk=a.1){l:List KR}{m:List PgR}(h:Z32 R l m){a:KR}{b:PgR}(hab:R a b):has Z6m l a=has Z1k m b∧Z32 R (put Z6m l a) (put Z1k m b):=by
 (have hc :∀x y,R x y→Z6m x a=Z1k y b:=fun x y hxy=>by unfold Z6m Z1k;rw [hr _ _ hxy,hr _ _ hab]);have hh:has Z6m l a=has Z1k m b:=h.any (fun x y hxy=>by rw [hc x y hxy]);refine ⟨hh,?_⟩;unfold YtcnnofgaifcgaaaGreat.put;rw [hh]
 split
 · exact h
 · exact (h.filter (fun x y hxy=>by rw [hc x y hxy])).append (.cons hab (h.filter (fun x y hxy=>by rw [hc x y hxy])))
theorem Zhn {done:List Int}{l:List Int}{k:Int}:k∈puts Z0r l done↔k∈l∨k∈done:=by
 induction done generalizing l with
 | nil=>simp [puts]
 | cons x done ih=>
   have e:puts Z0r l (x :: done)=puts Z0r (put Z0r l x) done:=rfl;rw [e,ih,Ztb]
   have hp:k∈put Z0r l x↔k∈l∨k=x:=by
    constructor
    · exact Zfn
    · intro h
      unfold put
      split
      · rename_i hh
        rcases h with h|h
        · exact h
        · obtain ⟨y,hy,e⟩:=Z46.1 hh
          rw [h,←Z3u.1 e];exact hy
      · rename_i hh
        simp only [Ztu,Ztb];rcases h with h|h
        · have:=Z3w.1 (by simpa using hh) k h
          rcases Int.lt_trichotomy (Z0r k x) 0 with h2|h2|h2
          · exact .inl (Z6r.2 ⟨h,h2⟩)
          · exact absurd h2 this
          · exact .inr (.inr (Z6q.2 ⟨h,h2⟩))
        · exact .inr (.inl h)
   exact Yoj
theorem Zha (done:List Int) (k:Int):has Z0r (puts Z0r [] done) k=decide (k∈done):=by
 by_cases h:k∈done
 · rw [Zt9 h]
   exact Z46.2 ⟨k,Zhn.2 (.inr h),Z3u.2 rfl⟩
 · rw [Zsx h,Z3w]
   intro y hy e;rcases Zhn.1 hy with h2|h2
   · cases h2
   · exact h (by rw [←Z3u.1 e];exact h2)
end
section
theorem Ze7 {α:Type} [DecidableEq α] :∀{l m:List α},l.Nodup→(∀x∈l,x∈m)→l.length≤m.length
 | [],_,_,_=>Ye
 | x :: l,m,hn,hs=>by
   have hx:x∈m:=hs x Ye
   have:=Ze7 (l:=l) (m:=m.erase x) (List.nodup_cons.1 hn).2 (fun y hy=>by
    have:y≠x:=fun e=>(List.nodup_cons.1 hn).1 (e ▸ hy)
    exact (List.mem_erase_of_ne this).2 (hs y (by simp [hy])))
   rw [List.length_erase_of_mem hx] at this;have:=List.length_pos_of_mem hx;simp only [Ztg];omega
section
variable {look:Int→Z0c×Bool}{lv:Int}{keys:List Int}(hkeys :∀k,(look k).2=true→k∈keys)
include hkeys
omit hkeys in
theorem Ziv {m:Nat}(hm :∀k,(look k).1.elems.length≤m) (done:List Int):left look lv keys done≤keys.length*m:=by
 unfold left
 induction keys with
 | nil=>simp
 | cons x keys ih=>
   (have h1:(Z6t lv (look x).1).length≤m:=by unfold Z6t;rw [Ztl];exact Zt6 (List.length_filter_le _ _) (hm x));(have h2:(keys.length+1)*m=keys.length*m+m:=by rw [Nat.add_mul];simp);rw [List.filter_cons]
   split
   · simp only [List.map_cons,List.sum_cons,Ztg];omega
   · simp only [Ztg];omega
omit hkeys in
theorem Zii {m:Nat}(hm :∀k,(look k).1.elems.length≤m) (nums:List Int):cost look lv keys nums []≤nums.length+keys.length*m:=by
 have:=Ziv (lv:=lv) (keys:=keys) hm [];unfold cost;omega
omit hkeys in
omit hkeys in
omit hkeys in
omit hkeys in
theorem Zep :∀{l:List KR},Srt Z6m l→(l.map (·.1)).Nodup
 | [],_=>Ye
 | p :: l,h=>by
   obtain ⟨h1,h2⟩:=List.pairwise_cons.1 h;rw [List.map_cons,List.nodup_cons];refine ⟨fun hm=>?_,Zep h2⟩;obtain ⟨q,hq,e⟩:=List.mem_map.1 hm;have:=h1 q hq;have:=Z3u.2 e.symm;unfold Z6m at *;omega
theorem Zmq (done:List Int):(Z2v look done).length≤keys.length:=by
 have:=Ze7 (Zep (Zpo look done)) (m:=keys) (fun k hk=>by
  obtain ⟨p,hp,rfl⟩:=List.mem_map.1 hk
  exact hkeys _ (Z9g hp).2.1)
 exact Yuu
omit hkeys in
end
theorem Zgo (lv:Int) (R:List KR):Srt Z7u (Z5r lv R):=Srt.puts Zq8 _ Srt.nil
theorem Z8t (l:List Z0c):∀k,(Z3g l k).2=true→k∈l.map Z0c.num:=fun k h=>by
 obtain ⟨h1,h2⟩:=Za1 h;exact List.mem_map.2 ⟨_,h1,h2⟩
theorem Zdt {l:List Z0c}{Q:Z0c→Prop}(h0:Q zRec) (h :∀r∈l,Q r) (k:Int):Q (Z3g l k).1:=by
 cases hb:(Z3g l k).2 with
 | true=>exact h _ (Za1 hb).1
 | false=>rw [Ziy hb];exact h0
theorem Zpn (n:Nat):SmR n zRec:=⟨by simp [zRec],by simp [zRec],by simp [zRec],by simp [zRec],fun h hh=>by simp [zRec] at hh⟩
theorem Zix {l:List Z0c}(h0:l.length≤20) (h :∀r∈l,r.elems.length≤20) (lv:Int) (nums:List Int) (hn:nums.length≤100):cost (Z3g l) lv (l.map Z0c.num) nums []≤100000∧(Z2v (Z3g l) (Z4l (Z3g l) lv (l.map Z0c.num) nums [])).length≤500:=by
 have h1:=Zii (look:=Z3g l) (lv:=lv) (keys:=l.map Z0c.num) (m:=20) (Zdt (Q:=fun r=>r.elems.length≤20) (by simp [zRec]) h) nums;have h2:=Zmq (Z8t l) (Z4l (Z3g l) lv (l.map Z0c.num) nums []);rw [Ztl] at h1 h2;have:l.length*20≤20*20:=Nat.mul_le_mul_right 20 h0;exact ⟨Ya,Ya⟩
end
section
open Go.RowKit
abbrev Z4j:=Z29 (α:=Bnum) 141 95 1 Bnum.cells
theorem Zc4 (k0 : Int) (w : World) : (nilAhead 504 95 (.int .i64 k0) "Compare").run Tryz.prog w = .ok (some false) w := Yb
theorem Zfo (k0 : Int) (w : World) : (method 504 95 (.int .i64 k0) "Compare").run Tryz.prog w = .ok (245, .int .i64 k0) w := Yb
def Zk0 (l:List Bnum) (x:Bnum) (w:World) (e:Ending) (w':World):Prop:=
 e = .returned (.tuple #[.int .i64 (rank Z0r l x),.bool (has Z0r l x)])∧Below w.heap.size w w'
theorem Zde (b c:Nat) (sn:Bool) (A:Option Addr) (l:List Bnum) (x:Bnum) (w:World) (hS:Z4j w b sn A c l) (hs:Srt Z0r l) (hl:(l.length:Int)≤4611686018427387904) :
 Calls Tryz.prog 59 #[.pointer (some ⟨b,0,none⟩),.int .i64 x] w (Zk0 l x w):=by
 have Xm:=hS.rd Bnum.cells_length;have h0:=hS.cell0;have hb:=hS.lt;clear hS;have HS:=hU hs;have Ww:=hU Xm;clear hs Xm;go_enter Tryz.func59,Tryz.ntmps59;go_wp2_with fail;go_quiet (fail);go_wp2_with fail;refine Yk9 ?_;intro W0 jv
 go_loopw [6,7] (fun lo hi wr=>∃i j:Nat,lo = .int .i64 i∧hi = .int .i64 j∧i≤j∧j≤l.length∧(∀k,(h:k<l.length)→k<i→Z0r l[k] x<0)∧(∀k,(h:k<l.length)→j≤k→0<Z0r l[k] x)∧Below W0.heap.size W0 wr) (fun lo hi wr=>(intOf hi).toNat - (intOf lo).toNat)
 case atStart=>exact ⟨0,l.length,rfl,rfl,Nat.zero_le _,Zsu _,fun k _ h=>absurd h Ya,fun k h h'=>absurd h Ya,Zst _ _⟩
 case round=>
  obtain ⟨i,j,rfl,rfl,hij,hj,qv,qm,hB⟩:=hrel;have sy:=hU qv;have xq:=hU qm;clear qv qm;have hsz:w.heap.size≤W0.heap.size:=jv.o.size;by_cases hlt:i<j
  · refine Ygb ?_;intro m Le hmj hmi E1;obtain ⟨g,off,rfl,Fu,R9⟩:=Ww.o.at_ Le;refine Yu7 ?_;intro low r0;have q0:wr.cell? ⟨g,off+m,none⟩=some (.int .i64 l[m]):=(low ⟨g,off+m,none⟩ Fu).trans Yq;refine Yy3 ?_;intro b1 b2 Sq;have N:=Zc4;have M:=Zfo;clear low R9 h0;have HB:=hU hB;clear hB;refine Y9x ?_;intro y hy;rw [←hy] at q0;have HY:=hU hy;clear hy;have hbw:b<wr.heap.size:=Ya;have hgw:g<wr.heap.size:=Ya;go_upto_region 4 with (fail);rw [E1.o];go_wp2_with fail;refine (Zbq y x _).mono ?_;rintro e w1 ⟨rfl,Pk⟩;have Nk:Below W0.heap.size W0 w1:=HB.o.trans (Pk.mono Sq);clear r0 q0 N M;have uk:=hU Nk;clear Nk;by_cases hc:Z0r y x=0
    · have HC:=hU hc
      have t1:(Z0r y x == 0)=true:=YMk;clear hc;go_wp2_with fail;go_ret2;have e:=HC.o;rw [HY.o] at e;refine ⟨?_,jv.o.trans (uk.o.mono Ya)⟩;rw [Z4i Z4n HS.o Le e,(Z5j Z4n HS.o Le e).2.2.1];rfl
    · have t1:(Z0r y x == 0)=false:=by simp [hc]
      by_cases hc2:Z0r y x<0
      · have HC:=hU hc2
        have t2:decide (Z0r y x<0)=true:=YQw;clear hc hc2;go_wp2_with fail;go_roundw
        case rel=>
         refine ⟨m+1,j,Yn,rfl,Ya,hj,fun k h1 h2=>?_,xq.o,uk.o⟩;have e:=HC.o;rw [HY.o] at e;rcases Nat.lt_or_ge k m with h3|h3
         · exact Z4n.lt_of_lt_of_le (HS.o.lt h3 Le) Ya
         · exact Yzs
        case measure=>simp [intOf];omega
      · have t2:decide (Z0r y x<0)=false:=by simpa using hc2
        have Nn:0<Z0r y x:=Ya;have HC:=hU Nn;clear hc hc2 Nn;go_wp2_with fail;go_roundw
        case rel=>
         refine ⟨i,m,rfl,rfl,Ya,Ya,sy.o,fun k h1 h2=>?_,uk.o⟩;have e:=HC.o;rw [HY.o] at e;rcases Nat.lt_or_ge m k with h3|h3
         · exact (Z4n.symm _ _).1 (Z4n.lt_trans ((Z4n.symm _ _).2 e) (HS.o.lt h3 h1))
         · exact Yzs
        case measure=>simp [intOf];omega
  · exact Y53
theorem Zdm:(Tryz.prog.info? 95).map (fun i=>(i.zero,i.size,i.bytes))=some (some (.int .i64 0),1,8):=Yb
theorem Bnum.one (x:Bnum):∀u∈Bnum.cells x,u.oneCell'=true:=by intro u hu;simp [Bnum.cells] at hu;rcases hu with rfl<;>rfl
theorem Bnum.oneAll (l:List Bnum):∀u∈l.flatMap Bnum.cells,u.oneCell'=true:=by intro u hu;obtain ⟨x,_,hx⟩:=List.mem_flatMap.1 hu;exact Bnum.one x u hx
def Z7i (w:World) (b:Nat) (sn:Bool) (A:Option Addr) (l:List Bnum) (e:Ending) (w':World):Prop:=
 e = .returned (.tuple #[])∧∃A' c',Z4j w' b false A' c' l∧Fr (· = b) w w'∧Z1w w sn A false A'
theorem Zg1 (b c:Nat) (A:Option Addr) (l:List Bnum) (w:World) (hS:Z4j w b false A c l) :
 Calls Tryz.prog 60 #[.pointer (some ⟨b,0,none⟩)] w (Z7i w b false A l):=by
 have h1:=hS.cell1;have HS:=hU hS;clear hS;go_enter Tryz.func60,Tryz.ntmps60;exact Y3p
theorem Zed (b c:Nat) (A:Option Addr) (l:List Bnum) (w:World) (hS:Z4j w b true A c l) (hl:(l.length:Int)≤1000000000) :
 Calls Tryz.prog 60 #[.pointer (some ⟨b,0,none⟩)] w (Z7i w b true A l):=by
 obtain ⟨i0,hi,Nc,rm,Aj⟩:=info_parts Zdm;refine Y8h ?_;intro h0 h1 hb f0 f1;have Xm:=hS.rd Bnum.cells_length;have HB:=hU hS.blk;have Ww:=hU Xm;clear hS Xm;refine Yn9 ?_;intro e1
 have hmk :∀W:World,(Instr.makeSlice 139 (.int .i64 0) (.int .i64 ((l.length:Int)+1))).run Tryz.prog W = .ok (.slice (some ⟨W.heap.size,0,none⟩) 0 (l.length+1)) (W.alloc (.cells (madeCells (Value.cells (.int .i64 0)) ((l.length+1))) 95)):=fun W=>by
  have h:=run_make (P:=Tryz.prog) W 139 95 i0 _ Tryz.underlying139 hi Nc .i64 .i64 0 ((l.length:Int)+1) Ya Ya YV8 Ya;exact Y2k
 go_enter Tryz.func60,Tryz.ntmps60;go_wp2_with fail;refine Z03 (fun w9=>Below w.heap.size w w9) [(0,0),(1,0),(2,0),(3,0),(4,1),(5,0),(6,0),(8,0),(9,0),(10,0),(11,1),(7,2),(12,2),(13,0),(14,0),(15,2)] Yb Yb (fun KK hKK=>?_);refine Yg8 ?_;intro K9 hK9
 refine Z0l _ Yd _ _ _ Yd 95 i0 _ 1 8 Tryz.underlying139 hi Nc rm Aj rfl Ya _ 0 [] Yd (World.ownsRow_made _ _ _ (Nat.zero_le _) Yj YFi) A l.length c (l.flatMap Bnum.cells) Yd (Z0u Bnum.cells_length l)
  ((Ww.o.drew.alloc _).news Bnum.cells_length Ya) (Bnum.oneAll l) Yj Ya ?_
 intro v2 w2 Od Cf hnil Xd;refine Y8n ?_;clear hK9 K9;rw [Zts,Ztk] at Od;obtain ⟨A',c',rfl,_,_,hz⟩:=Z14 Od;have Nk:=(HB.o.drew.alloc (.cells (madeCells (Value.cells (.int .i64 0)) ((l.length+1))) 95)).grown Cf Yy;exact Yzw
theorem Zpe (b c:Nat) (sn:Bool) (A:Option Addr) (l:List Bnum) (w:World) (hS:Z4j w b sn A c l) (hl:(l.length:Int)≤1000000000) :
 Calls Tryz.prog 60 #[.pointer (some ⟨b,0,none⟩)] w (Z7i w b sn A l):=by
 cases sn
 · exact Zg1 b c A l w hS
 · exact Zed b c A l w hS hl
def Z7k (w:World) (b:Nat) (sn:Bool) (A:Option Addr) (l:List Bnum) (x:Bnum) (e:Ending) (w':World):Prop:=
 e = .returned (.bool (!has Z0r l x))∧∃sn' A' c',Z4j w' b sn' A' c' (put Z0r l x)∧Fr (Z0w b sn A) w w'∧Z1w w sn A sn' A'
theorem Zaq (b c:Nat) (sn:Bool) (A:Option Addr) (l:List Bnum) (x:Bnum) (w:World) (hS:Z4j w b sn A c l) (hs:Srt Z0r l) (hl:(l.length:Int)≤100000000) (hh:has Z0r l x=true) :
 Calls Tryz.prog 35 #[.pointer (some ⟨b,0,none⟩),.int .i64 x] w (Z7k w b sn A l x):=by
 have HS:=hU hS;have HO:=hU hs;clear hS hs;go_enter Tryz.func35,Tryz.ntmps35;go_wp2_with fail;refine (Zde b c sn A l x _ (HS.o.new_ (Zst _ _)) HO.o Ya).mono ?_;exact Y2r
theorem Zei (b c:Nat) (sn:Bool) (A:Option Addr) (l:List Bnum) (x:Bnum) (w:World) (hS:Z4j w b sn A c l) (hs:Srt Z0r l) (hl:(l.length:Int)≤100000000) (hh:has Z0r l x=false) :
 Calls Tryz.prog 35 #[.pointer (some ⟨b,0,none⟩),.int .i64 x] w (Z7k w b sn A l x):=by
 obtain ⟨i0,hi,Nc,rm,Aj⟩:=info_parts Zdm;refine Yc5 ?_;intro HS HO hb;clear hS hs;have iu:=Z62 (cmp:=Z0r) l x;go_enter Tryz.func35,Tryz.ntmps35;go_wp2_with fail;have Gd:=HS.o.new_ (Zst w.heap.size w);have fm:=hU Gd;clear Gd;refine (Zde b c sn A l x _ fm.o HO.o Ya).mono ?_;refine Yes ?_;intro w1 M2 hsz1 Nk;go_wp2_with fail;refine (Zpe b c sn A l _ M2.o Ya).mono ?_;refine Yet ?_;intro w2 A1 c1 F7 Td Uz hsz2;refine Y87 ?_;intro s0 f0 hb2 fk qq Vy;clear F7 Td Uz
 go_upto_region 8 with
  (at_builtin;refine Z0g (w2.alloc (.cells #[.int .i64 x] 95)) rfl (.tmp 23) (.tmp 25) 139 rfl 95 i0 _ 1 8 Tryz.underlying139 hi Nc rm Aj rfl Ya (.slice A1 l.length c1) l.length (l.flatMap Bnum.cells) rfl (Z02 fk.o.row ((Zst _ _).alloc (Zsu _) _)) (some ⟨w2.heap.size,0,none⟩) 1 1 (Bnum.cells x) rfl rfl (fun _=>⟨_,rfl,Zte (heap_alloc_new _ _)⟩) (Bnum.one x) Yj Ya ?_;
   intro v2 w3 Od Cf Si Xd;
   obtain ⟨g,c2,rfl⟩:∃g c2,v2 = .slice (some ⟨g,0,none⟩) (l.length+1) c2:=(by
    rcases Z0f Od with ⟨_,h0,_⟩|⟨g,c2,h,_⟩
    · omega
    · exact ⟨g,c2,h⟩);
   have pm:=(fk.o.blk.alloc (.cells #[.int .i64 x] 95)).grown Cf (Z01 fk.o.row fk.o.blk Yc);
   have c0:=(pm.cell 0).trans rfl;
   have z0:=pm.frozen 0;
   have Ue:=hU pm;
   have ss:=hU Od;
   have yr:=hU Cf;
   clear pm Od Cf)
 refine Y4c ?_;intro hlg
 have hG:(Z0w b sn A g∨w.heap.size≤g)∧Z1w w sn A false (some ⟨g,0,none⟩)∧True∧g≠b:=by
  exact Yte
 obtain ⟨Cr,C5,hgk1,Dg⟩:=hG;refine Yp0 ?_;intro w4 N8;have Ll:Blk w4 b 141 #[.slice (some ⟨g,0,none⟩) (l.length+1) c2,.bool false]:=YDu
 have jy:w4.ownsRow 0 95 1 (.slice (some ⟨g,0,none⟩) (l.length+1) c2) (l.length+1) ((Z0k l x l.length).flatMap Bnum.cells):=by
  exact Yei
 have uc:Fr (Z0w b sn A) w w4:=by
  exact Yev
 refine Yvv ?_;intro sk Kw Ni pq ae s4 E7;clear s4 N8 Ll jy uc Xd Cr C5 Si  s0 f0;go_wp2_with fail
 go_loopw [7] (fun s wr=>∃i:Nat,s = .int .i64 i∧rank Z0r l x≤i∧i≤l.length∧wr.ownsRow 0 95 1 (.slice (some ⟨g,0,none⟩) (l.length+1) c2) (l.length+1) ((Z0k l x i).flatMap Bnum.cells)∧Fr (· = g) w4 wr) (fun s wr=>(intOf s).toNat)
 case atStart=>exact ⟨l.length,Yn,iu,Zsu _,pq.o,Fr.refl _ _⟩
 case round=>
  obtain ⟨i,rfl,hi1,ul,Od,zp⟩:=hrel;refine Yul ?_;intro hgw r0 fz Cj Is;clear Od zp;by_cases hlt:rank Z0r l x<i
  · obtain ⟨j,rfl⟩:∃j,i=j+1:=⟨i - 1,Ya⟩
    have hj:j<l.length:=Ya;have Xm:=Z0e (A:=some ⟨g,0,none⟩) (c:=c2) (l:=Z0k l x (j+1)) Bnum.cells_length YCh;obtain ⟨g',o',Pm,_,R9⟩:=Xm.at_ (k:=j) Yu;injection Pm with Pm;injection Pm with hg1 hg2;subst hg1;subst hg2;rw [Z2n l x hj] at R9;have q0:wr.cell? ⟨g,j,none⟩=some (.int .i64 l[j]):=Yq
    have rmj:Room wr g 95 (c2*1)∧l.length+1≤c2:=by
     exact Yty
    obtain ⟨zm,re⟩:=rmj;obtain ⟨u0,t0⟩:=zm.cell (i:=(j+1)) Ya;refine Yqp ?_;intro b0 b1 b4 b2 b3 w1 w2;clear R9 Xm zm;refine Yay ?_;intro y hy;rw [←hy] at q0;refine Ybq ?_;intro HY U9;clear hy;go_wp2_with fail;refine Z03 (fun w9=>Below wr.heap.size wr w9) [(0,0),(1,0),(2,0),(3,1),(4,0),(5,0),(6,0),(7,0),(8,1),(9,0),(10,0),(11,0),(12,1),(13,0),(14,2)] Yb Yb (fun KK hKK=>?_);refine Y9j ?_;refine Y2t ?_;refine Y1l ?_;clear hKK KK;go_wp2_with fail;go_roundw
    case rel=>
     refine Y0x ?_;have Ss:=((Cj.o).stored ((j+1)) (.int .i64 y)).1
     have he:setAll ((Z0k l x (j+1)).flatMap Bnum.cells) ((j+1)) (Bnum.cells y)=(Z0k l x j).flatMap Bnum.cells:=by
      rw [Z5q Bnum.cells_length Ya _ (j+1) Yu,HY.o,Z2o l x hj]
     rw [←he];exact Ss
    case measure=>simp [intOf]<;>omega
  · obtain rfl:i=rank Z0r l x:=by omega
    have rmj:Room wr g 95 (c2*1)∧l.length+1≤c2:=by
     exact Yty
    obtain ⟨zm,re⟩:=rmj;obtain ⟨k,hk⟩:∃k,k=rank Z0r l x:=⟨_,rfl⟩;rw [←hk] at ul hlt ⊢;refine Y2m ?_;intro u0 t0 b1 b2 HK U9;clear zm hk;go_wp2_with fail;go_ret;have uy:=Cj.o;rw [←HK.o] at uy;have Ss:=((uy).stored (k) (.int .i64 x)).1
    have he:setAll ((Z0k l x k).flatMap Bnum.cells) (k) (Bnum.cells x)=(put Z0r l x).flatMap Bnum.cells:=by
     rw [Z5q Bnum.cells_length Ya _ k Yu,Z3b l x ul,Z6b Z4n HO.o hh,HK.o]
    have ju:=Z2y Z4n HO.o hh;exact Y61
theorem Zhq (b c:Nat) (sn:Bool) (A:Option Addr) (l:List Bnum) (x:Bnum) (w:World) (hS:Z4j w b sn A c l) (hs:Srt Z0r l) (hl:(l.length:Int)≤100000000) :
 Calls Tryz.prog 35 #[.pointer (some ⟨b,0,none⟩),.int .i64 x] w (Z7k w b sn A l x):=by
 cases hh:has Z0r l x
 · exact Zei b c sn A l x w hS hs hl hh
 · exact Zaq b c sn A l x w hS hs hl hh
def Zf1 (w:World) (xs:List Bnum) (e:Ending) (w':World):Prop:=
 ∃k,e = .returned (.pointer (some ⟨k,0,none⟩))∧w.heap.size≤k∧∃sn A c,Z4j w' k sn A c (puts Z0r [] xs)∧AIn A (w.heap.size≤·)∧Below w.heap.size w w'
theorem Zp6 (A:Option Addr) (c:Nat) (xs:List Bnum) (w:World) (hrd:Z0y w 1 Bnum.cells A c xs) (hl:(xs.length:Int)≤10000000) :
 Calls Tryz.prog 34 #[.slice A xs.length c] w (Zf1 w xs):=by
 have Ww:=hU hrd;clear hrd;go_enter Tryz.func34,Tryz.ntmps34;go_wp2_with fail;obtain ⟨W0,rp⟩:∃W0,W0=w.alloc (.cells #[.slice none 0 0,.bool false] 141):=⟨_,rfl⟩;have yj:Below w.heap.size w W0:=Yp;have Ud:Z4j W0 w.heap.size false none 0 []:=⟨Yw,⟨Ye,.inl ⟨rfl,rfl⟩⟩⟩;rw [←rp];clear rp;have jv:=hU yj;have Vf:=hU Ud;clear yj Ud
 go_loopw [10] (fun s wr=>∃i:Nat,s = .int .i64 i∧i≤xs.length∧∃sn A' c',Z4j wr w.heap.size sn A' c' (puts Z0r [] (xs.take i))∧AIn A' (w.heap.size≤·)∧Below w.heap.size w wr) (fun s wr=>xs.length - (intOf s).toNat)
 case atStart=>exact ⟨0,rfl,Nat.zero_le _,false,none,0,Vf.o,AIn.none_ _,jv.o⟩
 case round=>
  obtain ⟨i,rfl,hi,sn,A',c',hS,Ml,hB⟩:=hrel;have HS:=hU hS;have HA:=hU Ml;have HB:=hU hB;clear hS Ml hB;by_cases hlt:i<xs.length
  · refine Ycc ?_;intro x hx
    obtain ⟨g,off,rfl,hgs,R9⟩:=(Ww.o.fr (Fr.of_new (M:=fun _=>False) HB.o) (fun _ _ h=>h)).at_ hlt;rw [←hx] at R9;have q0:wr.cell? ⟨g,off+i,none⟩=some (.int .i64 x):=Yq;refine Yhh ?_;intro b1 b2 HX;clear R9 hx;go_wp2_with fail;have Nl:=Srt.puts Z4n (xs.take i) (Srt.nil (cmp:=Z0r))
    have Vx:(((puts Z0r [] (xs.take i)).length:Nat):Int)≤100000000:=by
     have:=Z1e Z4n (xs.take i) (Srt.nil (cmp:=Z0r));exact Yt5
    refine (Zhq w.heap.size c' sn A' _ x _ (HS.o.new_ (Zst _ _)) Nl Vx).mono ?_;exact Yc0
  · exact Yro
theorem Z1s.from_ {b:Nat}{W W1 F:World}(h:Z1s b W1 F) (hb:Below W.heap.size W W1):Z1s b W F:=by
 obtain ⟨X,hX,rfl⟩:=h;exact ⟨X,hb.trans (hX.mono hb.size),rfl⟩
theorem Z1s.size {b:Nat}{W F:World}(h:Z1s b W F):W.heap.size≤F.heap.size:=by
 obtain ⟨X,hX,rfl⟩:=h;simpa using hX.size
abbrev Z34:=Z29 (α:=PgR) 200 136 7 PgR.cells
theorem Ze3 (k0 : Int) (k1 : Int) (k2 : Int) (k3 : Value) (k4 : Value) (k5 : Value) (k6 : Value) (w : World) : (nilAhead 504 136 (.agg #[.int .i64 k0, .int .i64 k1, .int .i64 k2,  k3,  k4,  k5,  k6]) "Compare").run Tryz.prog w = .ok (some false) w := Yb
theorem Zj6 (k0 : Int) (k1 : Int) (k2 : Int) (k3 : Value) (k4 : Value) (k5 : Value) (k6 : Value) (w : World) : (method 504 136 (.agg #[.int .i64 k0, .int .i64 k1, .int .i64 k2,  k3,  k4,  k5,  k6]) "Compare").run Tryz.prog w = .ok (263, .agg #[.int .i64 k0, .int .i64 k1, .int .i64 k2,  k3,  k4,  k5,  k6]) w := Yb
def Zni (l:List PgR) (x:PgR) (w:World) (e:Ending) (w':World):Prop:=
 e = .returned (.tuple #[.int .i64 (rank Z1k l x),.bool (has Z1k l x)])∧Below w.heap.size w w'
theorem Zbv (b c:Nat) (sn:Bool) (A:Option Addr) (l:List PgR) (x:PgR) (w:World) (hS:Z34 w b sn A c l) (hs:Srt Z1k l) (hl:(l.length:Int)≤4611686018427387904) :
 Calls Tryz.prog 92 #[.pointer (some ⟨b,0,none⟩),.agg (Q0d x)] w (Zni l x w):=by
 have Xm:=hS.rd PgR.cells_length;have h0:=hS.cell0;have hb:=hS.lt;clear hS;have HS:=hU hs;have Ww:=hU Xm;clear hs Xm;go_enter Tryz.func92,Tryz.ntmps92;go_wp2_with fail;go_quiet (fail);go_wp2_with fail;obtain ⟨W0,rp⟩:∃W0,W0=((w.alloc (Obj.cells (Q0d x) 136)).drewN nq):=⟨_,rfl⟩;refine Yoq ?_;intro Lg mj;have Sg:W0.cell? ⟨w.heap.size,1,none⟩=some (.int .i64 x.num):=Yv;have pi:W0.cell? ⟨w.heap.size,2,none⟩=some (.int .i64 x.level):=Yv;have Iv:W0.cell? ⟨w.heap.size,3,none⟩=some (.slice x.elems.A x.elems.n x.elems.c):=Yv;have Jd:W0.cell? ⟨w.heap.size,4,none⟩=some (.slice x.holes.A x.holes.n x.holes.c):=Yv;have Jj:W0.cell? ⟨w.heap.size,5,none⟩=some (.slice x.aparts.A x.aparts.n x.aparts.c):=Yv;have Lj:W0.cell? ⟨w.heap.size,6,none⟩=some (.slice x.news.A x.news.n x.news.c):=Yv;rw [←rp];clear rp;have jv:=hU Lg;clear Lg
 go_loopw [6,7] (fun lo hi wr=>∃i j:Nat,lo = .int .i64 i∧hi = .int .i64 j∧i≤j∧j≤l.length∧(∀k,(h:k<l.length)→k<i→Z1k l[k] x<0)∧(∀k,(h:k<l.length)→j≤k→0<Z1k l[k] x)∧Below W0.heap.size W0 wr) (fun lo hi wr=>(intOf hi).toNat - (intOf lo).toNat)
 case atStart=>exact ⟨0,l.length,rfl,rfl,Nat.zero_le _,Zsu _,fun k _ h=>absurd h Ya,fun k h h'=>absurd h Ya,Zst _ _⟩
 case round=>
  obtain ⟨i,j,rfl,rfl,hij,hj,qv,qm,hB⟩:=hrel;have sy:=hU qv;have xq:=hU qm;clear qv qm;have Sd:w.heap.size<W0.heap.size:=Zt5 W0 _ mj;by_cases hlt:i<j
  · refine Ygb ?_;intro m Le hmj hmi E1;obtain ⟨g,off,rfl,Fu,R9⟩:=Ww.o.at_ Le;refine Yu7 ?_;intro low r0;have q0:=(low ⟨g,off+m*7,none⟩ Fu).trans (R9 0 _ rfl);have q1:=(low ⟨g,off+m*7+1,none⟩ Fu).trans (R9 1 _ rfl);have q2:=(low ⟨g,off+m*7+2,none⟩ Fu).trans (R9 2 _ rfl);have q3:=(low ⟨g,off+m*7+3,none⟩ Fu).trans (R9 3 _ rfl);have q4:=(low ⟨g,off+m*7+4,none⟩ Fu).trans (R9 4 _ rfl);have q5:=(low ⟨g,off+m*7+5,none⟩ Fu).trans (R9 5 _ rfl);have q6:=(low ⟨g,off+m*7+6,none⟩ Fu).trans (R9 6 _ rfl);refine Yia ?_;intro y0 y1 y2;refine Yj5 ?_;intro y3 y4 y5 y6;refine Yy3 ?_;intro b1 b2 Sq;have N:=Ze3;have M:=Zj6;clear low R9 mj Sg pi Iv Jd Jj Lj h0;have HB:=hU hB;clear hB;refine Y9x ?_;intro y hy;rw [←hy] at q0 q1 q2 q3 q4 q5 q6;have HY:=hU hy;clear hy;refine Y5p ?_;intro hbw hgw hww;go_wp2_with fail;rw [E1.o]
    go_region_held3 (fun w'=>w'.cell? ⟨b,0,none⟩=some (.slice (some ⟨g,off,none⟩) l.length c)∧w'.cell? ⟨g,off+m*7,none⟩=some (.int .i64 y.kk)∧w'.cell? ⟨g,off+m*7+1,none⟩=some (.int .i64 y.num)∧w'.cell? ⟨g,off+m*7+2,none⟩=some (.int .i64 y.level)∧w'.cell? ⟨g,off+m*7+3,none⟩=some (.slice y.elems.A y.elems.n y.elems.c)∧w'.cell? ⟨g,off+m*7+4,none⟩=some (.slice y.holes.A y.holes.n y.holes.c)∧w'.cell? ⟨g,off+m*7+5,none⟩=some (.slice y.aparts.A y.aparts.n y.aparts.c)∧w'.cell? ⟨g,off+m*7+6,none⟩=some (.slice y.news.A y.news.n y.news.c)∧w'.cell? ⟨w.heap.size,0,none⟩=some (.int .i64 x.kk)∧w'.cell? ⟨w.heap.size,1,none⟩=some (.int .i64 x.num)∧w'.cell? ⟨w.heap.size,2,none⟩=some (.int .i64 x.level)∧w'.cell? ⟨w.heap.size,3,none⟩=some (.slice x.elems.A x.elems.n x.elems.c)∧w'.cell? ⟨w.heap.size,4,none⟩=some (.slice x.holes.A x.holes.n x.holes.c)∧w'.cell? ⟨w.heap.size,5,none⟩=some (.slice x.aparts.A x.aparts.n x.aparts.c)∧w'.cell? ⟨w.heap.size,6,none⟩=some (.slice x.news.A x.news.n x.news.c))
     (first|go_keep|(refine ⟨?_,?_,?_,?_,?_,?_,?_,?_,?_,?_,?_,?_,?_,?_,?_⟩<;>exact (Pk.cell YCg).trans Yl))
     ((go_at_call 263;refine (Zqq y x _).mono ?_;rintro e w1 ⟨rfl,Pk⟩))
    refine Ym2 ?_;intro Nk;clear r0 q0 q1 q2 q3 q4 q5 q6 y0 y1 y2 y3 y4 y5 y6 N M;by_cases hc:Z1k y x=0
    · have HC:=hU hc
      have t1:(Z1k y x == 0)=true:=YMk;clear hc;go_wp2_with fail;go_ret2;have e:=HC.o;rw [HY.o] at e;refine Y45 ?_;rw [Z4i Z6w HS.o Le e,(Z5j Z6w HS.o Le e).2.2.1];rfl
    · have t1:(Z1k y x == 0)=false:=by simp [hc]
      by_cases hc2:Z1k y x<0
      · have HC:=hU hc2
        have t2:decide (Z1k y x<0)=true:=YQw;clear hc hc2;go_wp2_with fail;go_roundw
        case rel=>
         refine Yzl ?_;intro k h1 h2 e;rw [HY.o] at e;rcases Nat.lt_or_ge k m with h3|h3
         · exact Z6w.lt_of_lt_of_le (HS.o.lt h3 Le) Ya
         · exact Yzs
        case measure=>simp [intOf];omega
      · have t2:decide (Z1k y x<0)=false:=by simpa using hc2
        have Nn:0<Z1k y x:=Ya;have HC:=hU Nn;clear hc hc2 Nn;go_wp2_with fail;go_roundw
        case rel=>
         refine Yl0 ?_;intro k h1 h2 e;rw [HY.o] at e;rcases Nat.lt_or_ge m k with h3|h3
         · exact (Z6w.symm _ _).1 (Z6w.lt_trans ((Z6w.symm _ _).2 e) (HS.o.lt h3 h1))
         · exact Yzs
        case measure=>simp [intOf];omega
  · exact Y53
end
section
open Go.RowKit Go.Shelf
attribute [local go_sem] Oper.semAt_some
def Zdb (x:PgR):Array Value:=#[.agg (Q0d x)]
theorem Zoh (lo b c k:Nat) (sn:Bool) (A:Option Addr) (l:List PgR) (W:World) (hS:Z34 W b sn A c l) (hk:k≤l.length) (J Jx:List PgR→World→Prop)
 (h0:J [] (W.setCell ⟨b,1,none⟩ (.bool true))) (hY:Zpv lo Zdb (l.drop k) (Z10 A) J Jx) :
 CallsIn Fence.wide 0 Tryz.prog 95 #[.pointer (some ⟨b,0,none⟩),.int .i64 k,.func (.yield lo) #[] #[]] W (Told (l.drop k) J Jx):=by
 have s0:=hS.cell0;have s1:=hS.cell1;have f1:=hS.blk.frozen 1;have Xf:=Z01 hS.row hS.blk Yc;have Xm:Z0y (W.setCell ⟨b,1,none⟩ (.bool true)) 7 PgR.cells A c l:=Z0e PgR.cells_length (ownsRow_setCell_other hS.row Xf _);(have hlm:(l.length:Int)≤9223372036854775807:=by have:=Xm.cap;omega);have Ww:=hU Xm;have H0:=hU h0;have HY:=hU hY;clear hS Xm h0 hY Xf;refine callsIn_of_wp Tryz.func95 rfl trivial ?_;simp only [Tryz.ntmps95,Zu5,Ztg,Zu1,Nat.reduceAdd,Nat.reduceSub,Ztw,Ztx,Zu4,Zu0,Ztk,Ztv];gi_wp2
 gi_loopw [7] (fun s wr=>∃pre post,s = .int .i64 ((k+pre.length:Nat):Int)∧l.drop k=pre++post∧J pre wr∧Z0y wr 7 PgR.cells A c l) (fun s wr=>l.length - (intOf s).toNat)
 case atStart=>exact ⟨[],l.drop k,Ye,Ye,H0.o,Ww.o⟩
 case round=>
  obtain ⟨pre,post,rfl,hx,hJ,Xm⟩:=hrel;have Vx:k+pre.length+post.length=l.length:=YOy;have HX:=hU hx;have HJ:=hU hJ;have HR:=hU Xm;clear hx hJ Xm
  cases post with
  | nil=>
    have e1:((k+pre.length:Nat):Int)=(l.length:Int):=YHt;exact Ye1
  | cons x post=>
    obtain ⟨m,hm⟩:∃m,m=k+pre.length:=⟨_,rfl⟩;have Le:m<l.length:=YHt
    have Ox:l[m]=x:=by
     apply Zud;rw [←Zt3,hm,←List.getElem?_drop,HX.o];simp
    obtain ⟨g,off,rfl,hgs,R9⟩:=HR.o.at_ Le;rw [Ox] at R9;have q0:wr.cell? ⟨g,off+m*7,none⟩=some (.int .i64 x.kk):=Yq;have q1:wr.cell? ⟨g,off+m*7+1,none⟩=some (.int .i64 x.num):=YO5;have q2:wr.cell? ⟨g,off+m*7+2,none⟩=some (.int .i64 x.level):=YFu;have q3:wr.cell? ⟨g,off+m*7+3,none⟩=some (.slice x.elems.A x.elems.n x.elems.c):=YKg;have q4:wr.cell? ⟨g,off+m*7+4,none⟩=some (.slice x.holes.A x.holes.n x.holes.c):=YI7;have q5:wr.cell? ⟨g,off+m*7+5,none⟩=some (.slice x.aparts.A x.aparts.n x.aparts.c):=YU1;have q6:wr.cell? ⟨g,off+m*7+6,none⟩=some (.slice x.news.A x.news.n x.news.c):=YTq;refine Y6d ?_;intro b1 b2;rw [←hm];have HM:=hU hm;clear R9 Ox Vx hm;obtain ⟨fn,tmps,assign,body,hy,hR⟩:=HY.o pre x post wr HX.o HJ.o;dsimp only [Zdb] at hy;have Sn:=hU hR;clear hR;gi_wp2_with fail;refine ⟨rfl,Sn.o.mono ?_⟩;rintro e W3 (⟨rfl,qp,um⟩|⟨rfl,xt⟩)
    · have M9:=hU qp
      have kl:=hU um;clear qp um hy q0 q1 q2 q3 q4 q5 q6;exact Yij
    · have M9:=hU xt
      clear xt hy q0 q1 q2 q3 q4 q5 q6;exact Y92
theorem Zqk (kb b c:Nat) (sn:Bool) (A:Option Addr) (l:List PgR) (W:World) (hbox:W.cell? ⟨kb,0,none⟩=some (.pointer (some ⟨b,0,none⟩))) (hS:Z34 W b sn A c l) :
 Iter Tryz.prog 94 #[.pointer (some ⟨kb,0,none⟩)] Zdb l W (Z1s b) (Z10 A):=by
 intro lo J Jx _ _ h0 hY;have H0:=hU (h0 (W.setCell ⟨b,1,none⟩ (.bool true)) ⟨W,Zst _ _,rfl⟩);have HY:=hU hY;have HS:=hU hS;clear h0 hY hS;refine callsIn_of_wp Tryz.func94 rfl trivial ?_;simp only [Tryz.ntmps94,Zu5,Ztg,Zu1,Nat.reduceAdd,Nat.reduceSub,Ztw,Ztx,Zu4,Zu0,Ztk,Ztv];gi_wp2_with fail;have hz:((0:Nat):Int)=0:=rfl;refine Yi8 ?_;refine (Zoh lo b c 0 sn A l W HS.o (Nat.zero_le _) J Jx H0.o (by rw [List.drop_zero];exact HY.o)).mono ?_;exact Yud
end
section
open Go.RowKit
theorem Zhf:(Tryz.prog.info? 136).map (fun i=>(i.zero,i.size,i.bytes))=some (some (.agg Q2r),7,120):=Yb
theorem PgR.one (x:PgR):∀u∈PgR.cells x,u.oneCell'=true:=by intro u hu;simp [PgR.cells] at hu;rcases hu with rfl|rfl|rfl|rfl|rfl|rfl|rfl<;>rfl
theorem PgR.oneAll (l:List PgR):∀u∈l.flatMap PgR.cells,u.oneCell'=true:=by intro u hu;obtain ⟨x,_,hx⟩:=List.mem_flatMap.1 hu;exact PgR.one x u hx
def Z8e (w:World) (b:Nat) (sn:Bool) (A:Option Addr) (l:List PgR) (e:Ending) (w':World):Prop:=
 e = .returned (.tuple #[])∧∃A' c',Z34 w' b false A' c' l∧Fr (· = b) w w'∧Z1w w sn A false A'
theorem Zjd (b c:Nat) (A:Option Addr) (l:List PgR) (w:World) (hS:Z34 w b false A c l) :
 Calls Tryz.prog 93 #[.pointer (some ⟨b,0,none⟩)] w (Z8e w b false A l):=by
 have h1:=hS.cell1;have HS:=hU hS;clear hS;go_enter Tryz.func93,Tryz.ntmps93;exact Y3p
theorem Zg5 (b c:Nat) (A:Option Addr) (l:List PgR) (w:World) (hS:Z34 w b true A c l) (hl:(l.length:Int)≤1000000000) :
 Calls Tryz.prog 93 #[.pointer (some ⟨b,0,none⟩)] w (Z8e w b true A l):=by
 obtain ⟨i0,hi,Nc,rm,Aj⟩:=info_parts Zhf;refine Y8h ?_;intro h0 h1 hb f0 f1;have Xm:=hS.rd PgR.cells_length;have HB:=hU hS.blk;have Ww:=hU Xm;clear hS Xm;refine Yn9 ?_;intro e1
 have hmk :∀W:World,(Instr.makeSlice 198 (.int .i64 0) (.int .i64 ((l.length:Int)+1))).run Tryz.prog W = .ok (.slice (some ⟨W.heap.size,0,none⟩) 0 (l.length+1)) (W.alloc (.cells (madeCells (Value.cells (.agg Q2r)) ((l.length+1)*7)) 136)):=fun W=>by
  have h:=run_make (P:=Tryz.prog) W 198 136 i0 _ Tryz.underlying198 hi Nc .i64 .i64 0 ((l.length:Int)+1) Ya Ya YV8 Ya;exact Y2k
 go_enter Tryz.func93,Tryz.ntmps93;go_wp2_with fail;refine Z03 (fun w9=>Below w.heap.size w w9) [(0,0),(1,0),(2,0),(3,0),(4,1),(5,0),(6,0),(8,0),(9,0),(10,0),(11,1),(7,2),(12,2),(13,0),(14,0),(15,2)] Yb Yb (fun KK hKK=>?_);refine Yg8 ?_;intro K9 hK9
 refine Z0l _ Yd _ _ _ Yd 136 i0 _ 7 120 Tryz.underlying198 hi Nc rm Aj rfl Ya _ 0 [] Yd (World.ownsRow_made _ _ _ (Nat.zero_le _) Yj YFi) A l.length c (l.flatMap PgR.cells) Yd (Z0u PgR.cells_length l)
  ((Ww.o.drew.alloc _).news PgR.cells_length Ya) (PgR.oneAll l) Yj Ya ?_
 intro v2 w2 Od Cf hnil Xd;refine Y8n ?_;clear hK9 K9;rw [Zts,Ztk] at Od;obtain ⟨A',c',rfl,_,_,hz⟩:=Z14 Od;have Nk:=(HB.o.drew.alloc (.cells (madeCells (Value.cells (.agg Q2r)) ((l.length+1)*7)) 136)).grown Cf Yy;exact Yzw
theorem Zrc (b c:Nat) (sn:Bool) (A:Option Addr) (l:List PgR) (w:World) (hS:Z34 w b sn A c l) (hl:(l.length:Int)≤1000000000) :
 Calls Tryz.prog 93 #[.pointer (some ⟨b,0,none⟩)] w (Z8e w b sn A l):=by
 cases sn
 · exact Zjd b c A l w hS
 · exact Zg5 b c A l w hS hl
end
section
open Go.RowKit Go.Shelf
attribute [local go_sem] Oper.semAt_some
theorem Zlw (b:Nat) (w:World) :
 Calls Tryz.prog 68 #[.pointer (some ⟨b,0,none⟩)] w fun e w'=>e = .returned (.func (.func 94) #[] #[.pointer (some ⟨w.heap.size,0,none⟩)])∧Below w.heap.size w w'∧w'.cell? ⟨w.heap.size,0,none⟩=some (.pointer (some ⟨b,0,none⟩)):=by
 go_enter Tryz.func68,Tryz.ntmps68;go_wp2;go_ret;exact ⟨rfl,(Zst _ _).alloc (Zsu _) _,by go_simp⟩
theorem Zgl (kb b c:Nat) (sn:Bool) (A:Option Addr) (l:List PgR) (w:World) (hbox:w.cell? ⟨kb,0,none⟩=some (.pointer (some ⟨b,0,none⟩))) (hS:Z34 w b sn A c l) :
 Seq 94 #[.pointer (some ⟨kb,0,none⟩)] Zdb l w (Z1s b) (Z10 A):=
 ⟨YX8,fun W hW=>(Zqk kb b c sn A l W ((hW.cell (Zt5 _ _ hbox)).trans hbox) (hS.new_ hW)).weak (fun _ _ h=>h.1),fun _ _ _=>Z10.trans,fun _ _=>Z10.of_priv hS.row_lt,fun _ _=>Z10.of_below hS.row_lt,fun _ _ h=>h.fr.mono (fun k _ hk=>YLd)⟩
end
section
open Go.RowKit Go.Shelf
structure SeqP {α:Type}(gf:Nat) (lb:Array Value) (encs:α→Array Value) (xs:List α) (w:World) (start Kp:World→World→Prop):Prop where
 enter :∀args w,(callFunc gf args).run Tryz.prog w = .ok (.enter gf args) w
 iter :∀W,Below w.heap.size w W→Zk1 Tryz.prog gf lb encs xs W start Kp
 trans :∀A B C,Kp A B→Kp B C→Kp A C
 keep :∀A B,Priv w.heap.size A B→Kp A B
 below :∀A B,Below w.heap.size A B→Kp A B
 mods :∀W W1,start W W1→Fr (· < w.heap.size) W W1
theorem Seq.p {α:Type}{gf:Nat}{lb:Array Value}{encs:α→Array Value}{xs:List α}{w:World}{start Kp:World→World→Prop}(h:Seq gf lb encs xs w start Kp):SeqP gf lb encs xs w start Kp:=
 ⟨h.enter,fun W hW=>(h.iter W hW).p,h.trans,h.keep,h.below,h.mods⟩
end
end Go.Proofs.YtcnnofgaifcgaaaGreat
