/-
  Texts put together: RefPut, RTabPut, RTabFresh, SymLists, TabPlain.
-/
import Derived.Test.YtfidcfjcmlgkbaaGreatPTj
namespace Go.Proofs.YtfidcfjcmlgkbaaGreat
open Lib (hid)
set_option maxRecDepth 100000
set_option maxHeartbeats 32000000
section
open Go.RowKit
attribute [local go_sem] Z74 Z89
theorem Z0k.suffix {α:Type} {w:World} {size c:Nat} {cells:α→List Value} {A:Option Addr} {l:List α} (h:Z0k w size cells A c l) (i:Nat) (hi:i≤l.length) :
 Z0k w size cells (if c=i then A else A.map (·.add (i*size))) (c - i) (l.drop i):=by
 refine ⟨by simp;have:=h.1;omega,by have:=h.2.1;omega,fun h0=>?_⟩;rw [Zme] at h0;obtain ⟨b,off,rfl,hb,hc⟩:=h.2.2 (by omega);have h1:=h.1;rw [if_neg (by omega)];refine ⟨b,off+i*size,by simp [Go.WideShapes.add_plain],hb,fun k hk j u hu=>?_⟩;rw [Zme] at hk;have:=hc (i+k) (by omega) j u (by rw [← hu];simp);rw [Nat.add_mul] at this;rw [← this];congr 2;omega
theorem Z4j {B n:Nat} {v v':Value} (h:v'.ownBlock=v.ownBlock∨v'.ownBlock=some n) (hv : ∀k,v.ownBlock=some k→B≤k) (hn:B≤n) : ∀k,v'.ownBlock=some k→B≤k:=by
 intro k hk;rcases h with h | h
 · rw [h] at hk;exact hv k hk
 · rw [h] at hk;injection hk with hk;omega
theorem Z8p {w:World} {A A':Option Addr} {c i:Nat} {l:List Sym} (h:Z0k w 3 Sym.cells A c l) (hi:i≤l.length) (hA:i<l.length→A'=(if c=i then A else A.map (·.add (i*3)))) :
 0<l.length - i→∃ad,A'=some ad∧∀j u,((l.drop i).flatMap Sym.cells)[j]? = some u→w.cell? (ad.add j)=some u:=by
 intro h0;rw [hA (by omega)];exact (h.suffix i hi).news Sym.cells_length (by omega) (by simp;omega)
theorem Zdp {w w4:World} {l:List Sym} {x:Sym} {i:Nat} {v:Value} (hp:put Z01 l x=l.take i++x :: l.drop i) (hi:i≤l.length)
 (ho:w4.ownsRow 0 38 3 v (i+1+(l.length - i)) ((l.take i).flatMap Sym.cells++Sym.cells x++(l.drop i).flatMap Sym.cells)) (hv : ∀k,v.ownBlock=some k→w.heap.size≤k) :
 ∃A' c',v = .slice A' (put Z01 l x).length c'∧Z0k w4 3 Sym.cells A' c' (put Z01 l x)∧AIn A' (fun k=>w.heap.size≤k∧k<w4.heap.size):=by
 (have e1:i+1+(l.length - i)=(put Z01 l x).length:=by rw [hp];simp;omega);(have e2:(l.take i).flatMap Sym.cells++Sym.cells x++(l.drop i).flatMap Sym.cells=(put Z01 l x).flatMap Sym.cells:=by rw [hp];simp);rw [e1,e2] at ho;obtain ⟨A',c',rfl,_⟩:=Z1y ho;refine ⟨A',c',rfl,Z0j Sym.cells_length ho,fun a ha=>?_⟩;subst ha;refine ⟨hv a.block rfl,?_⟩;rcases Z0i ho with ⟨hv,_⟩ | ⟨g,cap,hv,_,_,hr,_⟩
 · cases hv
 · injection hv with hv;injection hv with hv;subst hv;exact hr.lt
theorem Zd8 {l:List Sym} {x:Sym} {i:Nat} (hs:Srt Z01 l) (hi:i≤l.length) (h1 : ∀k,(h:k<l.length)→k<i→Z01 l[k] x<0) (h2 : ∀(h:i<l.length),¬Z01 l[i] x<0) (h3 : ∀(h:i<l.length),l[i]≠x) :
 has Z01 l x=false∧put Z01 l x=l.take i++x :: l.drop i:=by
 have h4 : ∀k,(h:k<l.length)→i≤k→0<Z01 l[k] x:=by
  intro k h hk
  have e0:0<Z01 (l[i]'(by omega)) x:=by
   have e1:=h2 (by omega);have e2:Z01 (l[i]'(by omega)) x≠0:=fun e=>h3 (by omega) (Z3y.1 e);omega
  rcases Nat.lt_or_ge i k with hlt | hge
  · exact (Z1d.symm _ _).1 (Z1d.lt_trans ((Z1d.symm _ _).2 e0) (hs.lt hlt h))
  · obtain rfl:k=i:=by omega
    exact e0
 have h5:=(Z7w h1 h4).2.2;have h6:=Z6r hi h1 h4;refine ⟨h5,?_⟩;rw [Zbh Z1d hs h5,h6]
theorem Zgm (A:Option Addr) (c:Nat) (l:List Sym) (x:Sym) (w:World) (hrd:Z0k w 3 Sym.cells A c l) (hs:Srt Z01 l) (hl:(l.length:Int)≤100000000) :
 Calls Tryz.prog 91 #[.slice A l.length c,.agg #[.int .i64 x.kind,.string x.text,.int .i64 x.n]] w fun e w'=>∃A' c',e = .returned (.slice A' (put Z01 l x).length c')∧Z0k w' 3 Sym.cells A' c' (put Z01 l x)∧(A'=A∨AIn A' (fun k=>w.heap.size≤k∧k<w'.heap.size))∧Below w.heap.size w w':=by
 obtain ⟨i0,hi0,hz0,hz1,hz2⟩:=info_parts Z6f;have HRD:=hid hrd;have HSO:=hid hs;have hlc:=hrd.cap;have hlcc:=hrd.1;clear hrd hs;go_enter Tryz.func91,Tryz.ntmps91;(go_wp2_with fail);obtain ⟨W0,hW0⟩ : ∃W0,W0=w.alloc (Obj.cells #[.int .i64 x.kind,.string x.text,.int .i64 x.n] 38):=⟨_,rfl⟩;(have hB0:Below w.heap.size w W0:=by rw [hW0];exact (Zks _ _).alloc (Zkt _) _);(have hX0:Blk W0 w.heap.size 38 #[.int .i64 x.kind,.string x.text,.int .i64 x.n]:=by rw [hW0];exact Blk.new _ _ _);rw [← hW0];clear hW0;have HB0:=hid hB0;have HX0:=hid hX0;clear hB0 hX0
 go_loopw [5] (fun s wr=>∃i:Nat,s = .int .i64 i∧i≤l.length∧(∀k,(h:k<l.length)→k<i→Z01 l[k] x<0)∧Below W0.heap.size W0 wr) (fun s wr=>l.length - (intOf s).toNat)
 case atStart=>exact ⟨0,rfl,Nat.zero_le _,fun k _ h=>absurd h (by omega),Zks _ _⟩
 case round=>
  obtain ⟨i,rfl,hi,hall,hB⟩:=hrel;have HALL:=hid hall;clear hall;have tail : ∀(wr:World),Below W0.heap.size W0 wr→True:=fun _ _=>trivial;by_cases hlt:i<l.length
  · have g1:decide ((i:Int)<(l.length:Int))=true:=by simpa using hlt
    have hBw:Below w.heap.size w wr:=HB0.out.trans (hB.mono HB0.out.size);obtain ⟨y,hy⟩ : ∃y,y=l[i]:=⟨_,rfl⟩;obtain ⟨g,off,rfl,hg,q0,q1,q2⟩:=Z7i (HRD.out.new_ hBw) hlt;rw [← hy] at q0 q1 q2;have hxr:=HX0.out.new_ hB;have hxl:=hxr.lt;have y0:=hxr.cell 0;have y1:=hxr.cell 1;have y2:=hxr.cell 2;simp only [Zkz,Zkv,Zky] at y0 y1 y2;have HXR:=hid hxr;have HB:=hid hB;have HBw:=hid hBw;have HY:=hid hy;clear hB hBw hy hxr;(have b1:(0:Int)≤(i:Int):=by omega);(have b2:(i:Int)<(l.length:Int):=by omega);go_wp2_with fail
    go_region_held3 (fun w'=>w'.cell? ⟨g,off+i*3,none⟩=some (.int .i64 y.kind)∧w'.cell? ⟨g,off+i*3+1,none⟩=some (.string y.text)∧w'.cell? ⟨g,off+i*3+2,none⟩=some (.int .i64 y.n)∧w'.cell? ⟨w.heap.size,0,none⟩=some (.int .i64 x.kind)∧w'.cell? ⟨w.heap.size,1,none⟩=some (.string x.text)∧w'.cell? ⟨w.heap.size,2,none⟩=some (.int .i64 x.n))
     (first | go_keep | (refine ⟨?_,?_,?_,?_,?_,?_⟩<;>exact (hb1.cell (by simpa using by assumption)).trans (by simp [*])))
     ((go_at_call 135;refine (Zf2 y x _).mono ?_;rintro e w1 ⟨rfl,hb1⟩))
    rename_i hHeld;have HB1:=hid (Below.trans (HB.out.drew) (hb1.mono HB.out.size));have HBw1:=hid (Below.trans (HBw.out.drew) (hb1.mono HBw.out.size));clear hb1 q0 q1 q2 y0 y1 y2;by_cases hc:Z01 y x<0
    · go_wp2_with fail
      go_roundw
      case rel=>
       refine ⟨i+1,by go_num,by omega,fun k h hk=>?_,HB1.out⟩;rcases Nat.lt_or_ge k i with h3 | h3
       · exact HALL.out k h h3
       · obtain rfl:k=i:=by omega
         rw [← HY.out];exact hc
      case measure=>simp [intOf]<;>omega
    · have hXR1:=HX0.out.new_ HB1.out
      have y0:=hXR1.cell 0;have y1:=hXR1.cell 1;have y2:=hXR1.cell 2;simp only [Zkz,Zkv,Zky] at y0 y1 y2;obtain ⟨q0,q1,q2,_⟩:=hHeld;have hbe:=Z74 y x;have HXR1:=hid hXR1;clear hXR1;by_cases he:y=x
      · have t2:decide (y=x)=true:=by simpa using he
        rw [t2] at hbe;have HE:=hid he;clear he;(go_wp2_with fail);go_quiet (fail);clear q0 q1 q2 y0 y1 y2;(go_wp2_with fail);go_ret;have e:has Z01 l x=true:=Z5z.2 ⟨y,by rw [HY.out];exact Zlj _,Z3y.2 HE.out⟩;rw [Z59 e];exact ⟨_,c,rfl,HRD.out.new_ (Below.drewN' HBw1.out nq),.inl rfl,Below.drewN' HBw1.out nq⟩
      · have t2:decide (y=x)=false:=by simpa using he
        rw [t2] at hbe;have hput:=(Zd8 (x:=x) HSO.out hi HALL.out (fun _=>by rw [← HY.out];exact hc) (fun _=>by rw [← HY.out];exact he)).2;have HPUT:=hid hput;clear he hput;(go_wp2_with fail);go_quiet (fail);clear q0 q1 q2;have hxl1:w.heap.size<w1.heap.size:=Zkx (HX0.out.lt) HB1.out.size;obtain ⟨W1,hW1⟩ : ∃W1,W1=w1.drewN nq:=⟨_,rfl⟩;(have hBW:Below w.heap.size w W1:=by rw [hW1];exact Below.drewN' HBw1.out nq);(have x0:W1.cell? ⟨w.heap.size,0,none⟩=some (.int .i64 x.kind):=by rw [hW1];exact y0);(have x1:W1.cell? ⟨w.heap.size,1,none⟩=some (.string x.text):=by rw [hW1];exact y1);(have x2:W1.cell? ⟨w.heap.size,2,none⟩=some (.int .i64 x.n):=by rw [hW1];exact y2);(have hxl:w.heap.size<W1.heap.size:=by rw [hW1];exact hxl1);(have hA:i<l.length→some (⟨g,off+i*3,none⟩:Addr)=(if c=i then some (⟨g,off,none⟩:Addr) else (some (⟨g,off,none⟩:Addr)).map (·.add (i*3))):=fun _=>by rw [if_neg (by omega)];simp [Go.WideShapes.add_plain]);rw [← hW1];clear hW1 y0 y1 y2;have hn1:0<i→∃ad,(some (⟨g,off,none⟩:Addr))=some ad∧∀j u,((l.take i).flatMap Sym.cells)[j]? = some u→W1.cell? (ad.add j)=some u:=fun h=>((HRD.out.new_ hBW).prefix_ i).news Sym.cells_length (by omega) (by simp;omega);(have hl1:((l.take i).flatMap Sym.cells).length=i*3:=by rw [Z0m Sym.cells_length,Zmf,Nat.min_eq_left hi]);(have hl3:((l.drop i).flatMap Sym.cells).length=(l.length - i)*3:=by rw [Z0m Sym.cells_length,Zme]);have HBW:=hid hBW;have HN1:=hid hn1;have HL1:=hid hl1;have HL3:=hid hl3;have HA45:=hid hA;clear hBW hn1 hl1 hl3 hA
        go_wp2_with (first
         | (at_builtin;refine Z04 W1 rfl (.const (.slice none 0 0)) (.tmp 36) 27 rfl 38 i0 _ 3 32 Tryz.underlying27 hi0 hz0 hz1 hz2 rfl (by omega) (.slice none 0 0) 0 [] rfl (Z28 W1 0 _ _) (some (⟨g,off,none⟩:Addr)) i c ((l.take i).flatMap Sym.cells) rfl HL1.out HN1.out (Sym.oneAll _) (by unfold maxLen;omega) (by omega) ?_;intro v1 w2 hown1 hg1 hnil1 hat1;
             rw [Zlm,Zl8] at hown1;
             have z0:=hg1.cell x0 (by simp [Value.ownBlock]);
             have z1:=hg1.cell x1 (by simp [Value.ownBlock]);
             have z2:=hg1.cell x2 (by simp [Value.ownBlock]);
             have HB2:=hid (HBW.out.grown hg1 (by have:=HBW.out.size;omega) (fun k hk=>by simp [Value.ownBlock] at hk));
             have HG1:=hid hg1;
             have HO1:=hid hown1;
             have HAT1:=hid hat1;
             clear hg1 hown1 hat1 hnil1 x0 x1 x2)
         | (at_builtin;refine Z04 (w2.alloc (.cells #[.int .i64 x.kind,.string x.text,.int .i64 x.n] 38)) rfl (.tmp 38) (.tmp 40) 27 rfl 38 i0 _ 3 32 Tryz.underlying27 hi0 hz0 hz1 hz2 rfl (by omega) v1 i ((l.take i).flatMap Sym.cells) rfl (Z00 HO1.out ((Zks _ _).alloc (Zkt _) _)) (some ⟨w2.heap.size,0,none⟩) 1 1 (Sym.cells x) rfl rfl (fun _=>⟨_,rfl,Zlt (heap_alloc_new _ _)⟩) (Sym.one x) (by unfold maxLen;omega) (by omega) ?_;intro v2 w3 hown2 hg2 hnil2 hat2;
             have hv1:=Z4j (B:=w.heap.size) HAT1.out (fun k hk=>by simp [Value.ownBlock] at hk) HBW.out.size;
             have HB3:=hid ((HB2.out.alloc HB2.out.size (.cells #[.int .i64 x.kind,.string x.text,.int .i64 x.n] 38)).grown hg2 (by have:=HB2.out.size;simp;omega) hv1);
             have hv2:=Z4j (B:=w.heap.size) hat2 hv1 (by have:=HB2.out.size;simp;omega);
             have HV2:=hid hv2;
             have HO2:=hid hown2;
             clear hg2 hown2 hat2 hnil2 hv1 hv2 z0 z1 z2)
         | (at_builtin;refine Z04 w3 rfl (.tmp 42) (.tmp 45) 27 rfl 38 i0 _ 3 32 Tryz.underlying27 hi0 hz0 hz1 hz2 rfl (by omega) v2 (i+1) ((l.take i).flatMap Sym.cells++Sym.cells x) rfl HO2.out (some (⟨g,off+i*3,none⟩:Addr)) (l.length - i) (c - i) ((l.drop i).flatMap Sym.cells) rfl HL3.out (Z8p (HRD.out.new_ HB3.out) hi HA45.out) (Sym.oneAll _) (by unfold maxLen;omega) (by omega) ?_;intro v3 w4 hown3 hg3 hnil3 hat3;
             have HB4:=hid (HB3.out.grown hg3 (by have:=HB3.out.size;omega) HV2.out);
             have HV3:=hid (Z4j (B:=w.heap.size) hat3 HV2.out HB3.out.size);
             have HO3:=hid hown3;
             clear hg3 hown3 hat3 hnil3))
        all_goals
         go_ret;obtain ⟨A',c',hv,hr,ha⟩:=Zdp (w:=w) HPUT.out hi HO3.out HV3.out;exact ⟨A',c',by rw [← hv];rfl,hr,.inr ha,HB4.out⟩
  · have g1:decide ((i:Int)<(l.length:Int))=false:=by simpa using hlt
    have hput:=(Zd8 (x:=x) HSO.out hi HALL.out (fun h=>absurd h hlt) (fun h=>absurd h hlt)).2;have HPUT:=hid hput;clear hput;have hBw:Below w.heap.size w wr:=HB0.out.trans (hB.mono HB0.out.size);have hxr:=HX0.out.new_ hB;have hxl1:=hxr.lt;have y0:=hxr.cell 0;have y1:=hxr.cell 1;have y2:=hxr.cell 2;simp only [Zkz,Zkv,Zky] at y0 y1 y2;have HBw1:=hid hBw;clear hB hBw hxr;(go_wp2_with fail);go_quiet (fail);obtain ⟨w1,hw1⟩ : ∃w1,w1=wr.drewN nq:=⟨_,rfl⟩;(have HBw2:Hid (Below w.heap.size w w1):=by rw [hw1];exact Below.drewN' HBw1.out nq);(have z0:w1.cell? ⟨w.heap.size,0,none⟩=some (.int .i64 x.kind):=by rw [hw1];exact y0);(have z1:w1.cell? ⟨w.heap.size,1,none⟩=some (.string x.text):=by rw [hw1];exact y1);(have z2:w1.cell? ⟨w.heap.size,2,none⟩=some (.int .i64 x.n):=by rw [hw1];exact y2);(have hxl2:w.heap.size<w1.heap.size:=by rw [hw1];exact hxl1);rw [← hw1];clear hw1 y0 y1 y2 HBw1 hxl1;(go_wp2_with fail);go_quiet (fail);obtain ⟨W1,hW1⟩ : ∃W1,W1=w1.drewN nq:=⟨_,rfl⟩;(have hBW:Below w.heap.size w W1:=by rw [hW1];exact Below.drewN' HBw2.out nq);(have x0:W1.cell? ⟨w.heap.size,0,none⟩=some (.int .i64 x.kind):=by rw [hW1];exact z0);(have x1:W1.cell? ⟨w.heap.size,1,none⟩=some (.string x.text):=by rw [hW1];exact z1);(have x2:W1.cell? ⟨w.heap.size,2,none⟩=some (.int .i64 x.n):=by rw [hW1];exact z2);(have hxl:w.heap.size<W1.heap.size:=by rw [hW1];exact hxl2);have hA:i<l.length→(if c=i then A else A.map (·.add (i*3)))=(if c=i then A else A.map (·.add (i*3))):=fun _=>rfl;rw [← hW1];clear hW1 z0 z1 z2 g1;have hlti : ¬i<l.length:=hlt;have hn1:0<i→∃ad,A=some ad∧∀j u,((l.take i).flatMap Sym.cells)[j]? = some u→W1.cell? (ad.add j)=some u:=fun h=>((HRD.out.new_ hBW).prefix_ i).news Sym.cells_length (by omega) (by simp;omega);(have hl1:((l.take i).flatMap Sym.cells).length=i*3:=by rw [Z0m Sym.cells_length,Zmf,Nat.min_eq_left hi]);(have hl3:((l.drop i).flatMap Sym.cells).length=(l.length - i)*3:=by rw [Z0m Sym.cells_length,Zme]);have HBW:=hid hBW;have HN1:=hid hn1;have HL1:=hid hl1;have HL3:=hid hl3
    have HA45:=hid hA;clear hBW hn1 hl1 hl3 hA
    go_wp2_with (first
     | (at_builtin;refine Z04 W1 rfl (.const (.slice none 0 0)) (.tmp 36) 27 rfl 38 i0 _ 3 32 Tryz.underlying27 hi0 hz0 hz1 hz2 rfl (by omega) (.slice none 0 0) 0 [] rfl (Z28 W1 0 _ _) A i c ((l.take i).flatMap Sym.cells) rfl HL1.out HN1.out (Sym.oneAll _) (by unfold maxLen;omega) (by omega) ?_;intro v1 w2 hown1 hg1 hnil1 hat1;
         rw [Zlm,Zl8] at hown1;
         have z0:=hg1.cell x0 (by simp [Value.ownBlock]);
         have z1:=hg1.cell x1 (by simp [Value.ownBlock]);
         have z2:=hg1.cell x2 (by simp [Value.ownBlock]);
         have HB2:=hid (HBW.out.grown hg1 (by have:=HBW.out.size;omega) (fun k hk=>by simp [Value.ownBlock] at hk));
         have HG1:=hid hg1;
         have HO1:=hid hown1;
         have HAT1:=hid hat1;
         clear hg1 hown1 hat1 hnil1 x0 x1 x2)
     | (at_builtin;refine Z04 (w2.alloc (.cells #[.int .i64 x.kind,.string x.text,.int .i64 x.n] 38)) rfl (.tmp 38) (.tmp 40) 27 rfl 38 i0 _ 3 32 Tryz.underlying27 hi0 hz0 hz1 hz2 rfl (by omega) v1 i ((l.take i).flatMap Sym.cells) rfl (Z00 HO1.out ((Zks _ _).alloc (Zkt _) _)) (some ⟨w2.heap.size,0,none⟩) 1 1 (Sym.cells x) rfl rfl (fun _=>⟨_,rfl,Zlt (heap_alloc_new _ _)⟩) (Sym.one x) (by unfold maxLen;omega) (by omega) ?_;intro v2 w3 hown2 hg2 hnil2 hat2;
         have hv1:=Z4j (B:=w.heap.size) HAT1.out (fun k hk=>by simp [Value.ownBlock] at hk) HBW.out.size;
         have HB3:=hid ((HB2.out.alloc HB2.out.size (.cells #[.int .i64 x.kind,.string x.text,.int .i64 x.n] 38)).grown hg2 (by have:=HB2.out.size;simp;omega) hv1);
         have hv2:=Z4j (B:=w.heap.size) hat2 hv1 (by have:=HB2.out.size;simp;omega);
         have HV2:=hid hv2;
         have HO2:=hid hown2;
         clear hg2 hown2 hat2 hnil2 hv1 hv2 z0 z1 z2)
     | (at_builtin;refine Z04 w3 rfl (.tmp 42) (.tmp 45) 27 rfl 38 i0 _ 3 32 Tryz.underlying27 hi0 hz0 hz1 hz2 rfl (by omega) v2 (i+1) ((l.take i).flatMap Sym.cells++Sym.cells x) rfl HO2.out (if c=i then A else A.map (·.add (i*3))) (l.length - i) (c - i) ((l.drop i).flatMap Sym.cells) rfl HL3.out (Z8p (HRD.out.new_ HB3.out) hi HA45.out) (Sym.oneAll _) (by unfold maxLen;omega) (by omega) ?_;intro v3 w4 hown3 hg3 hnil3 hat3;
         have HB4:=hid (HB3.out.grown hg3 (by have:=HB3.out.size;omega) HV2.out);
         have HV3:=hid (Z4j (B:=w.heap.size) hat3 HV2.out HB3.out.size);
         have HO3:=hid hown3;
         clear hg3 hown3 hat3 hnil3))
    all_goals
     go_ret;obtain ⟨A',c',hv,hr,ha⟩:=Zdp (w:=w) HPUT.out hi HO3.out HV3.out;exact ⟨A',c',by rw [← hv];rfl,hr,.inr ha,HB4.out⟩
end
section
open Go.RowKit
theorem Z7h {L:List Sym} {i:Nat} (hi:i<L.length) (h:Z07 L[i]=false):L.all Z07=false:=by
 rw [List.all_eq_false];exact ⟨L[i],Zlj hi,by rw [h];simp⟩
def RPut (w:World) (k:Nat) (room:Int) (l L:List Sym) (A:Option Addr) (e:Ending) (w':World):Prop:=
 if L.all Z07=true then
  if room<((puts Z01 l L).length:Int) then e = .returned (.int .i64 20)∧Below w.heap.size w w'
  else e = .returned (.int .i64 0)∧(∃A' cap',Z38 w' k room (puts Z01 l L) A' cap'∧From A w.heap.size A')∧Fr (· = k) w w'
 else e = .returned (.int .i64 9)∧Below w.heap.size w w'
theorem Zie (k:Nat) (room:Int) (l L:List Sym) (A2:Option Addr) (c2:Nat) (A:Option Addr) (cap:Nat) (w:World) (hR:Z38 w k room l A cap) (hL:Z0k w 3 Sym.cells A2 c2 L) (hs:Srt Z01 l) (hll:(l.length:Int)≤1000000) (hLL:(L.length:Int)≤1000000) :
 Calls Tryz.prog 40 #[.pointer (some ⟨k,0,none⟩),.slice A2 L.length c2] w (RPut w k room l L A):=by
 obtain ⟨hB,hrd,hAk⟩:=hR;have HB:=hid hB;have HAK:=hid hAk;have HRD:=hid hrd;have HL:=hid hL;have HSO:=hid hs;clear hB hrd hL hs hAk;go_enter Tryz.func40,Tryz.ntmps40;go_wp2_with fail
 go_loopw [5] (fun s wr=>∃i:Nat,s = .int .i64 i∧i≤L.length∧(∀j,(h:j<L.length)→j<i→Z07 L[j]=true)∧Below w.heap.size w wr) (fun s wr=>L.length - (intOf s).toNat)
 case atStart=>exact ⟨0,rfl,Nat.zero_le _,fun j _ h=>absurd h (by omega),Zks _ _⟩
 case round=>
  obtain ⟨i,rfl,hi,hall,hBl⟩:=hrel;have HALL:=hid hall;have HBl:=hid hBl;clear hall hBl;by_cases hlt:i<L.length
  · obtain ⟨y,hy⟩ : ∃y,y=L[i]:=⟨_,rfl⟩
    obtain ⟨g,off,rfl,hg,q0,q1,q2⟩:=Z7i (HL.out.new_ HBl.out) hlt;rw [← hy] at q0 q1 q2;have HY:=hid hy;(have b1:(0:Int)≤(i:Int):=by omega);(have b2:(i:Int)<(L.length:Int):=by omega);clear hy;(go_wp2_with fail);refine (Z2l y _).mono ?_;rintro e w1 ⟨rfl,hb1⟩;have HB1:=hid (HBl.out.trans (hb1.mono HBl.out.size));clear hb1 q0 q1 q2;cases hv:Z07 y
    · have HE:=hid (Z7h hlt (by rw [← HY.out];exact hv))
      (go_wp2_with fail);go_ret;unfold RPut;rw [HE.out];exact ⟨rfl,HB1.out⟩
    · have HV:=hid hv
      (go_wp2_with fail);go_roundw
      case rel=>exact ⟨i+1,by go_num,by omega,fun j h hj=>by
       rcases Nat.lt_or_ge j i with h3 | h3
       · exact HALL.out j h h3
       · obtain rfl:j=i:=by omega
         rw [← HY.out];exact HV.out,HB1.out⟩
      case measure=>simp [intOf]<;>omega
  · have hie:i=L.length:=by omega
    subst hie
    have HE:=hid (show L.all Z07=true from Zlg.2 (fun x hx=>by
     obtain ⟨j,hj,rfl⟩:=List.getElem_of_mem hx
     exact HALL.out j hj hj))
    obtain ⟨w3,hw3⟩ : ∃w3,w3=wr:=⟨_,rfl⟩;rw [← hw3] at HBl ⊢;have hBk:=HB.out.new_ HBl.out;have s1:w3.cell? ⟨k,1,none⟩=some (.slice A l.length cap):=(hBk.cell 1).trans rfl;have hkl:=hBk.lt;have HBk:=hid hBk;have hz3:=HBl.out.size;clear hw3 hBk;(go_wp2_with fail);clear s1
    go_loopw [6,7] (fun v s W=>∃(i:Nat) (A':Option Addr) (c':Nat),s = .int .i64 i∧i≤L.length∧v = .slice A' (puts Z01 l (L.take i)).length c'∧Z0k W 3 Sym.cells A' c' (puts Z01 l (L.take i))∧(AIn A' (fun j=>j≠k∧j<W.heap.size)∧From A w.heap.size A')∧Below w3.heap.size w3 W) (fun v s W=>L.length - (intOf s).toNat)
    case atStart=>exact ⟨0,A,cap,rfl,Nat.zero_le _,rfl,HRD.out.new_ HBl.out,⟨HAK.out.mono (fun j hj=>⟨hj.1,by have:=hj.2;have:=HBl.out.size;omega⟩),From.refl _ _⟩,Zks _ _⟩
    case round=>
     obtain ⟨i,A',c',rfl,hi,rfl,hr,⟨hA4,hfr4⟩,hB4⟩:=hrel;have HFR4:=hid hfr4;clear hfr4;have HR4:=hid hr;have HA4:=hid hA4;have HB4:=hid hB4;have HB34:=hid (HBl.out.trans (hB4.mono hz3));have hz4:=hB4.size;clear hr hB4 hA4;by_cases hlt:i<L.length
     · obtain ⟨y,hy⟩ : ∃y,y=L[i]:=⟨_,rfl⟩
       obtain ⟨g,off,rfl,hg,q0,q1,q2⟩:=Z7i (HL.out.new_ HB34.out) hlt;rw [← hy] at q0 q1 q2;have HY:=hid hy;(have b1:(0:Int)≤(i:Int):=by omega);have b2:(i:Int)<(L.length:Int):=by omega
       have hlen:(((puts Z01 l (L.take i)).length:Nat):Int)≤100000000:=by
        have:=Z2p Z1d (L.take i) HSO.out;simp at this;omega
       obtain ⟨X,hX⟩ : ∃X,X=puts Z01 l (L.take i):=⟨_,rfl⟩;have HXS:=hid (show Srt Z01 X by rw [hX];exact Srt.puts Z1d _ HSO.out);have HXN:=hid (show puts Z01 l (L.take (i+1))=put Z01 X y by rw [Zm1,Zl1 hlt,← hy,hX];simp only [Option.toList_some,Z3k]);rw [← hX] at hlen HR4 ⊢;clear hy hX;(go_wp2_with fail);refine (Zgm A' c' X y _ HR4.out HXS.out hlen).mono ?_;rintro e w5 ⟨A5,c5,rfl,hr5,hA5,hb5⟩;have HR5:=hid hr5;have HB5:=hid (HB4.out.trans (hb5.mono hz4));have HFR5:=hid (HFR4.out.step (by have:=HBl.out.size;omega) hA5)
       have HA5:=hid (show AIn A5 (fun j=>j≠k∧j<w5.heap.size) by
        rcases hA5 with rfl | h
        · exact HA4.out.mono (fun j hj=>⟨hj.1,by have:=hj.2;have:=hb5.size;omega⟩)
        · exact h.mono (fun j hj=>by have:=hb5.size;omega))
       clear hr5 hb5 hA5 q0 q1 q2 hlen;(go_wp2_with fail);go_roundw
       case rel=>exact ⟨i+1,A5,c5,by go_num,by omega,by rw [HXN.out],by rw [HXN.out];exact HR5.out,⟨HA5.out,HFR5.out⟩,HB5.out⟩
       case measure=>simp [intOf]<;>omega
     · have hie:i=L.length:=by omega
       subst hie;have hR5:=HR4.out;rw [Zll] at hR5 ⊢;obtain ⟨X,hX⟩ : ∃X,X=puts Z01 l L:=⟨_,rfl⟩;rw [← hX] at hR5 ⊢;have HX:=hid hX;have HR5:=hid hR5;have hBk4:=HBk.out.new_ HB4.out;have s0:wr.cell? ⟨k,0,none⟩=some (.int .i64 room):=(hBk4.cell 0).trans rfl;have s1:wr.cell? ⟨k,1,none⟩=some (.slice A l.length cap):=(hBk4.cell 1).trans rfl;have f1:=hBk4.frozen 1;have hkl4:=hBk4.lt;have HBk4:=hid hBk4;clear hX hR5 hBk4;by_cases hfull:room<(X.length:Int)
       · have t1:decide (room<(X.length:Int))=true:=by simpa using hfull
         have HFu:=hid hfull;clear hfull;(go_wp2_with fail);go_ret;unfold RPut;rw [HE.out,← HX.out,if_pos rfl,if_pos HFu.out];exact ⟨rfl,HB34.out⟩
       · have t1:decide (room<(X.length:Int))=false:=by simpa using hfull
         have HFu:=hid hfull;clear hfull;(go_wp2_with fail);go_ret;unfold RPut;rw [HE.out,← HX.out,if_pos rfl,if_neg (by have:=HFu.out;omega)];have hFs:Fr (· = k) wr (wr.setCell ⟨k,1,none⟩ (.slice A' X.length c')):=(Fr.refl (· = k) wr).setCell (p:=⟨k,1,none⟩) (.inl rfl) _;exact ⟨rfl,⟨A',c',⟨HBk4.out.set_ 1 _,HR5.out.fr hFs (HA4.out.mono (fun j hj=>hj.1)),HA4.out.mono (fun j hj=>⟨hj.1,by simpa using hj.2⟩)⟩,HFR4.out⟩,(Fr.of_new HB34.out).trans hFs⟩
theorem Z38.below_ {w w':World} {k:Nat} {room:Int} {l:List Sym} {A:Option Addr} {cap:Nat} (h:Z38 w k room l A cap) (hb:Below w.heap.size w w'):Z38 w' k room l A cap:=by
 obtain ⟨h1,h2,h3⟩:=h;exact ⟨h1.new_ hb,h2.new_ hb,h3.mono (fun j hj=>⟨hj.1,by have:=hj.2;have:=hb.size;omega⟩)⟩
theorem Zek (k:Nat) (room:Int) (l:List Sym) (c:UInt8) (A0:Option Addr) (cap0:Nat) (w:World) (hR:Z38 w k room l A0 cap0) (hbd : ∀s∈l,s.kind=1→s.n≤1048576) (hll:(l.length:Int)≤1000000) (hn:Z1p l c=0) :
 Calls Tryz.prog 51 #[.pointer (some ⟨k,0,none⟩),.int .u8 (c.toNat:Int)] w fun e w'=>e = .returned (.tuple #[.agg #[.int .i64 0,.string ⟨#[]⟩,.int .i64 0],.int .i64 1])∧Below w.heap.size w w':=by
 (have t1:(Z1p l c == 0)=true:=by simp [hn]);clear hn;have HR:=hid hR;have HBD:=hid hbd;clear hR hbd;go_enter Tryz.func51,Tryz.ntmps51;(go_wp2_with fail);have hR0:=HR.out.below_ ((Zks w.heap.size w).alloc (Zkt _) (Obj.cells #[.int .i64 0,.string ⟨#[]⟩,.int .i64 0] 38));refine (Z7r k room l c _ ⟨_,_,hR0⟩ HBD.out hll).mono ?_;rintro e w1 ⟨rfl,hb1⟩;clear hR0;have hZ:Blk w1 w.heap.size 38 #[.int .i64 0,.string ⟨#[]⟩,.int .i64 0]:=(Blk.new _ _ _).new_ hb1;have hB1:Below w.heap.size w w1:=((Zks w.heap.size w).alloc (Zkt _) _).trans (hb1.mono (by simp));have HB1:=hid hB1;have HZ:=hid hZ;have z0:w1.cell? ⟨w.heap.size,0,none⟩=some (.int .i64 0):=(hZ.cell 0).trans rfl;have z1:w1.cell? ⟨w.heap.size,1,none⟩=some (.string ⟨#[]⟩):=(hZ.cell 1).trans rfl;have z2:w1.cell? ⟨w.heap.size,2,none⟩=some (.int .i64 0):=(hZ.cell 2).trans rfl;have f0:=hZ.frozen 0;have f1:=hZ.frozen 1;have f2:=hZ.frozen 2;have hzl:=hZ.lt;clear hb1 hZ hB1;(go_wp2_with fail);exact bodyPost_ret (v:=.tuple #[.agg #[.int .i64 0,.string ⟨#[]⟩,.int .i64 0],.int .i64 1]) (by simp [results,Tryz.results51,go_sem,z0,z1,z2]) rfl ⟨rfl,by (repeat (first | exact Zks _ _ | exact HB1.out | exact Below.drewN' HB1.out _ | refine Below.drew ?_ | refine Below.al ?_ _ | refine Below.sc ?_ _))⟩
theorem Zcu (k:Nat) (room:Int) (l:List Sym) (c:UInt8) (A0:Option Addr) (cap0:Nat) (w:World) (hR:Z38 w k room l A0 cap0) (hbd : ∀s∈l,s.kind=1→s.n≤1048576) (hll:(l.length:Int)≤1000000) (hn:Z1p l c≠0) (hf:room≤l.length) :
 Calls Tryz.prog 51 #[.pointer (some ⟨k,0,none⟩),.int .u8 (c.toNat:Int)] w fun e w'=>e = .returned (.tuple #[.agg #[.int .i64 0,.string ⟨#[]⟩,.int .i64 0],.int .i64 20])∧Below w.heap.size w w':=by
 (have t1:(Z1p l c == 0)=false:=by simp [hn]);(have t2:decide (room≤(l.length:Int))=true:=by simpa using hf);clear hn hf;have HR:=hid hR;have HBD:=hid hbd;clear hR hbd;go_enter Tryz.func51,Tryz.ntmps51;(go_wp2_with fail);have hR0:=HR.out.below_ ((Zks w.heap.size w).alloc (Zkt _) (Obj.cells #[.int .i64 0,.string ⟨#[]⟩,.int .i64 0] 38));refine (Z7r k room l c _ ⟨_,_,hR0⟩ HBD.out hll).mono ?_;rintro e w1 ⟨rfl,hb1⟩;clear hR0;have hZ:Blk w1 w.heap.size 38 #[.int .i64 0,.string ⟨#[]⟩,.int .i64 0]:=(Blk.new _ _ _).new_ hb1;have hB1:Below w.heap.size w w1:=((Zks w.heap.size w).alloc (Zkt _) _).trans (hb1.mono (by simp));have HB1:=hid hB1;have HZ:=hid hZ;have z0:w1.cell? ⟨w.heap.size,0,none⟩=some (.int .i64 0):=(hZ.cell 0).trans rfl;have z1:w1.cell? ⟨w.heap.size,1,none⟩=some (.string ⟨#[]⟩):=(hZ.cell 1).trans rfl;have z2:w1.cell? ⟨w.heap.size,2,none⟩=some (.int .i64 0):=(hZ.cell 2).trans rfl;have f0:=hZ.frozen 0;have f1:=hZ.frozen 1;have f2:=hZ.frozen 2;have hzl:=hZ.lt;clear hb1 hZ hB1;obtain ⟨hBk,_,_⟩:=HR.out.below_ HB1.out;have s0:w1.cell? ⟨k,0,none⟩=some (.int .i64 room):=(hBk.cell 0).trans rfl;have s1:w1.cell? ⟨k,1,none⟩=some (.slice A0 l.length cap0):=(hBk.cell 1).trans rfl;have hkl:=hBk.lt;clear hBk;(go_wp2_with fail);go_quiet (fail);(go_wp2_with fail);exact bodyPost_ret (v:=.tuple #[.agg #[.int .i64 0,.string ⟨#[]⟩,.int .i64 0],.int .i64 20]) (by simp [results,Tryz.results51,go_sem,z0,z1,z2]) rfl ⟨rfl,by (repeat (first | exact Zks _ _ | exact HB1.out | exact Below.drewN' HB1.out _ | refine Below.drew ?_ | refine Below.al ?_ _ | refine Below.sc ?_ _))⟩
theorem Zel (k:Nat) (room:Int) (l:List Sym) (c:UInt8) (A0:Option Addr) (cap0:Nat) (w:World) (hR:Z38 w k room l A0 cap0) (hbd : ∀s∈l,s.kind=1→s.n≤1048576) (hll:(l.length:Int)≤1000000) (hn:Z1p l c≠0) (hf : ¬room≤l.length) (hg:1048576<Z1p l c) :
 Calls Tryz.prog 51 #[.pointer (some ⟨k,0,none⟩),.int .u8 (c.toNat:Int)] w fun e w'=>e = .returned (.tuple #[.agg #[.int .i64 0,.string ⟨#[]⟩,.int .i64 0],.int .i64 20])∧Below w.heap.size w w':=by
 (have t1:(Z1p l c == 0)=false:=by simp [hn]);(have t2:decide (room≤(l.length:Int))=false:=by simpa using hf);(have t3:decide ((1048576:Int)<Z1p l c)=true:=by simpa using hg);clear hn hf;have HR:=hid hR;have HBD:=hid hbd;clear hR hbd;go_enter Tryz.func51,Tryz.ntmps51;(go_wp2_with fail);have hR0:=HR.out.below_ ((Zks w.heap.size w).alloc (Zkt _) (Obj.cells #[.int .i64 0,.string ⟨#[]⟩,.int .i64 0] 38));refine (Z7r k room l c _ ⟨_,_,hR0⟩ HBD.out hll).mono ?_;rintro e w1 ⟨rfl,hb1⟩;clear hR0;have hZ:Blk w1 w.heap.size 38 #[.int .i64 0,.string ⟨#[]⟩,.int .i64 0]:=(Blk.new _ _ _).new_ hb1;have hB1:Below w.heap.size w w1:=((Zks w.heap.size w).alloc (Zkt _) _).trans (hb1.mono (by simp));have HB1:=hid hB1;have HZ:=hid hZ;have z0:w1.cell? ⟨w.heap.size,0,none⟩=some (.int .i64 0):=(hZ.cell 0).trans rfl;have z1:w1.cell? ⟨w.heap.size,1,none⟩=some (.string ⟨#[]⟩):=(hZ.cell 1).trans rfl;have z2:w1.cell? ⟨w.heap.size,2,none⟩=some (.int .i64 0):=(hZ.cell 2).trans rfl;have f0:=hZ.frozen 0;have f1:=hZ.frozen 1;have f2:=hZ.frozen 2;have hzl:=hZ.lt;clear hb1 hZ hB1;obtain ⟨hBk,_,_⟩:=HR.out.below_ HB1.out;have s0:w1.cell? ⟨k,0,none⟩=some (.int .i64 room):=(hBk.cell 0).trans rfl;have s1:w1.cell? ⟨k,1,none⟩=some (.slice A0 l.length cap0):=(hBk.cell 1).trans rfl;have hkl:=hBk.lt;clear hBk;(go_wp2_with fail);go_quiet (fail);(go_wp2_with fail);exact bodyPost_ret (v:=.tuple #[.agg #[.int .i64 0,.string ⟨#[]⟩,.int .i64 0],.int .i64 20]) (by simp [results,Tryz.results51,go_sem,z0,z1,z2]) rfl ⟨rfl,by (repeat (first | exact Zks _ _ | exact HB1.out | exact Below.drewN' HB1.out _ | refine Below.drew ?_ | refine Below.al ?_ _ | refine Below.sc ?_ _))⟩
theorem Zem (k:Nat) (room:Int) (l:List Sym) (c:UInt8) (A0:Option Addr) (cap0:Nat) (w:World) (hR:Z38 w k room l A0 cap0) (hbd : ∀s∈l,s.kind=1→s.n≤1048576) (hll:(l.length:Int)≤1000000) (hs:Srt Z01 l) (hn:Z1p l c≠0) (hf : ¬room≤l.length) (hg:Z1p l c≤1048576) :
 Calls Tryz.prog 51 #[.pointer (some ⟨k,0,none⟩),.int .u8 (c.toNat:Int)] w fun e w'=>e = .returned (.tuple #[.agg #[.int .i64 1,.string (letB c),.int .i64 (Z1p l c)],.int .i64 0])∧(∃A' cap',Z38 w' k room (put Z01 l ⟨1,letB c,Z1p l c⟩) A' cap'∧From A0 w.heap.size A')∧Fr (· = k) w w':=by
 (have t1:(Z1p l c == 0)=false:=by simp [hn]);(have t2:decide (room≤(l.length:Int))=false:=by simpa using hf);(have t3:decide ((1048576:Int)<Z1p l c)=false:=by simpa using hg);have HSO:=hid hs;clear hn hf hg hs;have HR:=hid hR;have HBD:=hid hbd;clear hR hbd;go_enter Tryz.func51,Tryz.ntmps51;(go_wp2_with fail);have hR0:=HR.out.below_ ((Zks w.heap.size w).alloc (Zkt _) (Obj.cells #[.int .i64 0,.string ⟨#[]⟩,.int .i64 0] 38));refine (Z7r k room l c _ ⟨_,_,hR0⟩ HBD.out hll).mono ?_;rintro e w1 ⟨rfl,hb1⟩;clear hR0;have hZ:Blk w1 w.heap.size 38 #[.int .i64 0,.string ⟨#[]⟩,.int .i64 0]:=(Blk.new _ _ _).new_ hb1;have hB1:Below w.heap.size w w1:=((Zks w.heap.size w).alloc (Zkt _) _).trans (hb1.mono (by simp));have HB1:=hid hB1;have HZ:=hid hZ;have z0:w1.cell? ⟨w.heap.size,0,none⟩=some (.int .i64 0):=(hZ.cell 0).trans rfl;have z1:w1.cell? ⟨w.heap.size,1,none⟩=some (.string ⟨#[]⟩):=(hZ.cell 1).trans rfl;have z2:w1.cell? ⟨w.heap.size,2,none⟩=some (.int .i64 0):=(hZ.cell 2).trans rfl;have f0:=hZ.frozen 0;have f1:=hZ.frozen 1;have f2:=hZ.frozen 2;have hzl:=hZ.lt;clear hb1 hZ hB1;obtain ⟨hBk,_,_⟩:=HR.out.below_ HB1.out;have s0:w1.cell? ⟨k,0,none⟩=some (.int .i64 room):=(hBk.cell 0).trans rfl;have s1:w1.cell? ⟨k,1,none⟩=some (.slice A0 l.length cap0):=(hBk.cell 1).trans rfl;have hkl:=hBk.lt;clear hBk;(go_wp2_with fail);go_quiet (fail);have hcv:=Zj8 c ((w1.drewN nq).alloc (Obj.cells #[Value.int IntKind.u8 (c.toNat:Int)] 5)) w1.heap.size (((Blk.new (w1.drewN nq) 5 #[.int .u8 (c.toNat:Int)]).cell 0).trans rfl);(go_wp2_with fail);clear hcv s0 s1;obtain ⟨X,hX⟩ : ∃X,X=(((w1.drewN nq).alloc (Obj.cells #[Value.int IntKind.u8 (c.toNat:Int)] 5)).alloc (Obj.cells #[.int .i64 1,.string (letB c),.int .i64 (Z1p l c)] 38)):=⟨_,rfl⟩;have hBX:Below w1.heap.size w1 X:=by rw [hX];exact ((Below.drewN' (Zks _ _) nq).alloc (by simp) _).alloc (by simp) _
 have hC:Blk X (w1.heap.size+1) 38 #[.int .i64 1,.string (letB c),.int .i64 (Z1p l c)]:=by
  rw [hX];have:=Blk.new ((w1.drewN nq).alloc (Obj.cells #[Value.int IntKind.u8 (c.toNat:Int)] 5)) 38 #[.int .i64 1,.string (letB c),.int .i64 (Z1p l c)];simpa using this
 rw [← hX];clear hX;have hBX2:=HB1.out.trans (hBX.mono HB1.out.size);obtain ⟨A,hAA⟩ : ∃A,A=A0:=⟨_,rfl⟩;obtain ⟨cap,hcc⟩ : ∃cap,cap=cap0:=⟨_,rfl⟩;obtain ⟨hBk0,hrd0,hAk⟩:=HR.out;rw [← hAA,← hcc] at hBk0 hrd0;rw [← hAA] at hAk;have HAA:=hid hAA;clear hAA hcc;have HBk0:=hid hBk0.lt;have HAKW:=hid (show AIn A (·≠w.heap.size) from hAk.mono (fun j hj=>by have:=hj.2;omega));have hBk:=hBk0.new_ hBX2;have hrd:=hrd0.new_ hBX2;clear hBk0 hrd0;have s1:X.cell? ⟨k,1,none⟩=some (.slice A l.length cap):=(hBk.cell 1).trans rfl;have hkl:=hBk.lt;have y0:X.cell? ⟨w1.heap.size+1,0,none⟩=some (.int .i64 1):=(hC.cell 0).trans rfl;have y1:X.cell? ⟨w1.heap.size+1,1,none⟩=some (.string (letB c)):=(hC.cell 1).trans rfl;have y2:X.cell? ⟨w1.heap.size+1,2,none⟩=some (.int .i64 (Z1p l c)):=(hC.cell 2).trans rfl;have hcl:=hC.lt;have HBk:=hid hBk;have HRD:=hid hrd;have HAK:=hid hAk;have HBX2:=hid hBX2;have HC:=hid hC;have hzx:=hBX.size;have HBX:=hid hBX;clear hBk hrd hAk hBX2 hC hBX;refine Z08 (fun w9=>Below X.heap.size X w9) [(0,0),(1,0),(2,0),(3,0),(4,1),(5,1),(6,2),(7,0),(8,0),(9,2)] (by kernel_rfl) (by kernel_rfl) (fun KK hKK=>?_);simp only [Z0h,Zl2,Zl0,Zkz,Zkv,Zky,Zl4];(repeat ((first | (refine Z0b ?_ (Or.inl ⟨by rfl,fun w9=>?_⟩) ?_;rotate_left 1;go_simp;with_reducible rfl) | (refine Z0a ?_ (((Zks _ _).drew)) (Or.inl ⟨by rfl,fun w9 hw9=>?_⟩) ?_;rotate_left 1;obtain ⟨hc9,hf9⟩:=Z0p hw9;go_simp;with_reducible rfl) | refine Z0b undef (Or.inr ⟨by rfl,rfl⟩) ?_ | refine Z0a undef (((Zks _ _).drew)) (Or.inr ⟨by rfl,rfl⟩) ?_);go_frame));refine Z2m (by kernel_rfl) (fun K9 hK9=>?_);go_simp;refine (Zgm A cap l ⟨1,letB c,Z1p l c⟩ _ (HRD.out.new_ ((Zks _ _).drew)) HSO.out (by omega)).mono ?_;rintro e w8 ⟨A8,c8,rfl,hr8,hA8,hb8⟩;have hb8':Below X.heap.size X w8:=(Zks X.heap.size X).drew.trans (hb8.mono (by simp));have hBk8:=HBk.out.new_ hb8';have HFR8:=hid ((From.refl A w.heap.size).step (by have:=HBX2.out.size;simp;omega) hA8)
 have HA8:=hid (show AIn A8 (fun j=>j≠k∧j<w8.heap.size) by
  rcases hA8 with rfl | h
  · exact HAK.out.mono (fun j hj=>⟨hj.1,by have:=hj.2;have:=HBX2.out.size;have:=hb8.size;simp at *;omega⟩)
  · exact h.mono (fun j hj=>by have:=hj.1;have:=hj.2;simp at *;omega))
 have HA82:=hid (show AIn A8 (·≠w.heap.size) by
  rcases hA8 with rfl | h
  · exact HAKW.out
  · exact h.mono (fun j hj=>by have:=hj.1;have:=HB1.out.size;simp at *;omega))
 have HR8:=hid hr8;have HBk8:=hid hBk8;have hZ8:=(HZ.out.new_ HBX.out).new_ hb8';have hC8:=HC.out.new_ hb8';have u0:w8.cell? ⟨w.heap.size,0,none⟩=some (.int .i64 0):=(hZ8.cell 0).trans rfl;have u1:w8.cell? ⟨w.heap.size,1,none⟩=some (.string ⟨#[]⟩):=(hZ8.cell 1).trans rfl;have u2:w8.cell? ⟨w.heap.size,2,none⟩=some (.int .i64 0):=(hZ8.cell 2).trans rfl;have g0:=hZ8.frozen 0;have g1:=hZ8.frozen 1;have g2:=hZ8.frozen 2;have v0:w8.cell? ⟨w1.heap.size+1,0,none⟩=some (.int .i64 1):=(hC8.cell 0).trans rfl;have v1:w8.cell? ⟨w1.heap.size+1,1,none⟩=some (.string (letB c)):=(hC8.cell 1).trans rfl;have v2:w8.cell? ⟨w1.heap.size+1,2,none⟩=some (.int .i64 (Z1p l c)):=(hC8.cell 2).trans rfl;have q1:w8.cell? ⟨k,1,none⟩=some (.slice A l.length cap):=(hBk8.cell 1).trans rfl;have g3:=hBk8.frozen 1;have hzl8:=hZ8.lt;have hcl8:=hC8.lt;have hkl8:=hBk8.lt;have hnk:w.heap.size≠k:=(by have:=HBk0.out;omega);have hnk2:w1.heap.size+1≠k:=(by have:=HBk0.out;have:=HB1.out.size;omega);have hnk3:w1.heap.size+1≠w.heap.size:=(by have:=HB1.out.size;omega);have HB8:=hid (HBX2.out.trans (hb8'.mono (by have:=HBX2.out.size;omega)));clear hb8 hb8' hA8 hr8 hBk8 hZ8 hC8 s1 y0 y1 y2;refine hK9 _ _ ?_;clear hK9 K9;(repeat ((first | (refine Z0b ?_ (Or.inl ⟨by rfl,fun w9=>?_⟩) ?_;rotate_left 1;go_simp;with_reducible rfl) | (refine Z0a ?_ (((Zks _ _).drew)) (Or.inl ⟨by rfl,fun w9 hw9=>?_⟩) ?_;rotate_left 1;obtain ⟨hc9,hf9⟩:=Z0p hw9;go_simp;with_reducible rfl) | refine Z0b undef (Or.inr ⟨by rfl,rfl⟩) ?_ | refine Z0a undef (((Zks _ _).drew)) (Or.inr ⟨by rfl,rfl⟩) ?_);go_frame));refine Z2m (by kernel_rfl) (fun K9 hK9=>?_);go_simp;refine hK9 _ _ ?_;clear hK9 K9;refine Z0u ?_;simp only [Z02];refine hKK _ _ ?_;clear hKK KK;(go_wp2_with fail);refine bodyPost_ret (v:=.tuple #[.agg #[.int .i64 1,.string (letB c),.int .i64 (Z1p l c)],.int .i64 0]) (by simp [results,Tryz.results51,go_sem,u0,u1,u2]) rfl ⟨rfl,⟨A8,c8,⟨?_,?_,?_⟩,?_⟩,?_⟩
 · exact (((HBk8.out.set_ 1 _).far (p:=⟨w.heap.size,0,none⟩) (by dsimp only;omega) _).far (p:=⟨w.heap.size,1,none⟩) (by dsimp only;omega) _).far (p:=⟨w.heap.size,2,none⟩) (by dsimp only;omega) _
 · refine HR8.out.fr (M:=fun j=>j=k∨j=w.heap.size) ((((Fr.refl _ w8).setCell (p:=⟨k,1,none⟩) (.inl (.inl rfl)) _).setCell (p:=⟨w.heap.size,0,none⟩) (.inl (.inr rfl)) _).setCell (p:=⟨w.heap.size,1,none⟩) (.inl (.inr rfl)) _ |>.setCell (p:=⟨w.heap.size,2,none⟩) (.inl (.inr rfl)) _) ?_
   intro a ha hm;rcases hm with hm | hm
   · exact (HA8.out a ha).1 hm
   · exact HA82.out a ha hm
 · exact HA8.out.mono (fun j hj=>⟨hj.1,by simpa using hj.2⟩)
 · rw [← HAA.out];exact HFR8.out
 · exact (((((Fr.of_new (M:=(· = k)) HB8.out)).setCell (p:=⟨k,1,none⟩) (.inl rfl) _).setCell (p:=⟨w.heap.size,0,none⟩) (.inr (Zkt _)) _).setCell (p:=⟨w.heap.size,1,none⟩) (.inr (Zkt _)) _).setCell (p:=⟨w.heap.size,2,none⟩) (.inr (Zkt _)) _
theorem Zcx {α:Type} {cmp:α→α→Int} (t:TC cmp) (h0 : ∀x,¬cmp x x<0) : ∀{l m:List α},Srt cmp l→Srt cmp m→(∀x,x∈l↔x∈m)→l=m
 | [],[],_,_,_=>rfl
 | [],b :: m,_,_,h=>absurd ((h b).2 (by simp)) (by simp)
 | a :: l,[],_,_,h=>absurd ((h a).1 (by simp)) (by simp)
 | a :: l,b :: m,hl,hm,h=>by
   unfold Srt at hl hm;rw [List.pairwise_cons] at hl hm
   have e:a=b:=by
    rcases Zl7.1 ((h a).1 (by simp)) with e | e
    · exact e
    · rcases Zl7.1 ((h b).2 (by simp)) with e2 | e2
      · exact e2.symm
      · have h1:=hm.1 a e
        have h2:=hl.1 b e2;have h3:=(t.symm _ _).1 h1;omega
   subst e;rw [Zcx t h0 hl.2 hm.2 (fun x=>?_)];constructor
   · intro hx
     rcases Zl7.1 ((h x).1 (by simp [hx])) with e | e
     · subst e;exact absurd (hl.1 x hx) (h0 x)
     · exact e
   · intro hx
     rcases Zl7.1 ((h x).2 (by simp [hx])) with e | e
     · subst e;exact absurd (hm.1 x hx) (h0 x)
     · exact e
theorem Zju {l m:List Sym} (hl:Srt Z01 l) (hm:Srt Z01 m) (h : ∀x,x∈l↔x∈m):l=m:=
 Zcx Z1d (fun x=>by have:=(Z3y (a:=x) (b:=x)).2 rfl;omega) hl hm h
theorem Z35 {l:List Sym} {x y:Sym}:y∈put Z01 l x↔y∈l∨y=x:=by
 unfold put
 split
 · rename_i h
   obtain ⟨z,hz,e⟩:=Z5z.1 h;have:=Z3y.1 e;subst this;constructor
   · exact .inl
   · rintro (h | rfl)
     · exact h
     · exact hz
 · rename_i h
   have hn:=Z32.1 (by simpa using h);simp only [Zlv,Zl7,Z4l,Z4k];constructor
   · rintro (h | h | h)
     · exact .inl h.1
     · exact .inr h
     · exact .inl h.1
   · rintro (h | h)
     · have:=hn y h
       rcases Int.lt_trichotomy (Z01 y x) 0 with h1 | h1 | h1
       · exact .inl ⟨h,h1⟩
       · exact absurd h1 this
       · exact .inr (.inr ⟨h,h1⟩)
     · exact .inr (.inl h)
theorem Z22 : ∀(xs:List Sym) {l:List Sym} {y:Sym},y∈puts Z01 l xs↔y∈l∨y∈xs
 | [],_,_=>by simp [puts]
 | x :: xs,l,y=>by
   rw [show puts Z01 l (x :: xs)=puts Z01 (put Z01 l x) xs from rfl,Z22 xs,Z35];simp [or_assoc]
theorem Z87 {l:List Sym} {x:Sym}:has Z01 l x=true↔x∈l:=by
 rw [Z5z];constructor
 · rintro ⟨z,hz,e⟩
   rw [← Z3y.1 e];exact hz
 · exact fun h=>⟨x,h,Z3y.2 rfl⟩
end
section
theorem Z9a (c:UInt8) (k:Int) : ∀(l:List Sym) (a:Int),l.foldl (fun n s=>if s.kind=1∧s.text=letB c then max n s.n else n) a≤k↔a≤k∧∀s∈l,s.kind=1∧s.text=letB c→s.n≤k
 | [],a=>by simp
 | s :: l,a=>by
   rw [List.foldl_cons,Z9a c k l];by_cases h:s.kind=1∧s.text=letB c
   · rw [if_pos h]
     constructor
     · rintro ⟨h1,h2⟩
       refine ⟨by omega,fun x hx hc=>?_⟩;rcases Zl7.1 hx with rfl | hx
       · omega
       · exact h2 x hx hc
     · rintro ⟨h1,h2⟩
       exact ⟨by have:=h2 s (by simp) h;omega,fun x hx hc=>h2 x (by simp [hx]) hc⟩
   · rw [if_neg h]
     constructor
     · rintro ⟨h1,h2⟩
       refine ⟨h1,fun x hx hc=>?_⟩;rcases Zl7.1 hx with rfl | hx
       · exact absurd hc h
       · exact h2 x hx hc
     · rintro ⟨h1,h2⟩
       exact ⟨h1,fun x hx hc=>h2 x (by simp [hx]) hc⟩
theorem Z76 {l:List Sym} {c:UInt8} {k:Int}:maxL l c≤k↔0≤k∧∀s∈l,s.kind=1∧s.text=letB c→s.n≤k:=Z9a c k l 0
theorem Ze8 {l l':List Sym} (c:UInt8) (h : ∀x,x∈l↔x∈l'):maxL l c=maxL l' c:=by
 have h1:maxL l c≤maxL l' c:=Z76.2 (by have:=Z76.1 (Int.le_refl (maxL l' c));exact ⟨this.1,fun s hs=>this.2 s ((h s).1 hs)⟩);have h2:maxL l' c≤maxL l c:=Z76.2 (by have:=Z76.1 (Int.le_refl (maxL l c));exact ⟨this.1,fun s hs=>this.2 s ((h s).2 hs)⟩);omega
theorem Z9z (l:List Sym) (s:Sym) (c:UInt8):maxL (put Z01 l s) c=if s.kind=1∧s.text=letB c then max (maxL l c) s.n else maxL l c:=by
 rw [← Zb5];exact Ze8 c (fun x=>by rw [Z35];simp)
theorem Zce (l:List Sym) (c:UInt8):0≤maxL l c:=(Z76.1 (Int.le_refl _)).1
theorem Za1 {m:List Page} {p y:Page}:y∈mput m p↔(y∈m∧y.key≠p.key)∨y=p:=by
 have hn:has Z03 (drop Z03 m p) p=false:=by
  rw [Z32];intro y hy;exact (Za0.1 hy).2
 unfold mput put;rw [if_neg (by rw [hn];simp)];simp only [Zlv,Zl7,Z4l,Z4k,Za0];(have e : ∀y:Page,Z03 y p≠0↔y.key≠p.key:=fun y=>by rw [ne_eq,Z2n]);constructor
 · rintro (⟨⟨h1,h2⟩,_⟩ | h | ⟨⟨h1,h2⟩,_⟩)
   · exact .inl ⟨h1,(e y).1 h2⟩
   · exact .inr h
   · exact .inl ⟨h1,(e y).1 h2⟩
 · rintro (⟨h1,h2⟩ | h)
   · have h3:=(e y).2 h2
     by_cases hlt:Z03 y p<0
     · exact .inl ⟨⟨h1,h3⟩,hlt⟩
     · exact .inr (.inr ⟨⟨h1,h3⟩,by omega⟩)
   · exact .inr (.inl h)
theorem Zah {m:List Page} (hs:Srt Z03 m) (p:Page):Srt Z03 (mput m p):=(hs.drop p).put Z36 p
theorem Zch {m:List Page} {c:UInt8} (h : ∀y∈m,y.key≠c):mget m c=none:=by
 refine Zb6 ?_;rw [Z32];intro y hy e;exact h y hy (Z2n.1 e)
theorem Zdg {m:List Page} (hs:Srt Z03 m) {c:UInt8} {v:Int}:mget m c=some v↔⟨c,v⟩∈m:=by
 constructor
 · intro h
   unfold mget at h
   cases hf:m.find? fun p=>p.key == c with
   | none=>rw [hf] at h;simp at h
   | some y=>
     rw [hf] at h;simp only [Zl4,Option.some.injEq] at h;have h1:=List.mem_of_find?_eq_some hf;have h2:=List.find?_some hf;simp only [beq_iff_eq] at h2;(have:(⟨c,v⟩:Page)=y:=by cases y;simp_all);rw [this];exact h1
 · intro h;exact Z6l hs h rfl
theorem Zg3 {m:List Page} (hs:Srt Z03 m) (p:Page) (c:UInt8):mget (mput m p) c=if p.key=c then some p.v else mget m c:=by
 by_cases h:p.key=c
 · rw [if_pos h]
   exact Z6l (Zah hs p) (Za1.2 (.inr rfl)) h
 · rw [if_neg h]
   cases hm:mget m c with
   | some v=>exact (Zdg (Zah hs p)).2 (Za1.2 (.inl ⟨(Zdg hs).1 hm,fun e=>h e.symm⟩))
   | none=>
     refine Zch (fun y hy e=>?_);rcases Za1.1 hy with ⟨h1,_⟩ | rfl
     · have:mget m c=some y.v:=Z6l hs h1 e
       rw [hm] at this;cases this
     · exact h e
theorem Zdj {m:List Page} (hs:Srt Z03 m):(m.length:Int)≤256:=by
 have h : ∀i,(hi:i<m.length)→(i:Int)≤m[i].kk:=by
  intro i
  induction i with
  | zero=>intro hi;exact (Page.kk_bd _).1
  | succ i ih=>
    intro hi;have h1:=ih (by omega);have h2:Z03 (m[i]'(by omega)) m[i+1]<0:=hs.lt (Nat.lt_succ_self i) hi;unfold Z03 at h2;omega
 rcases Nat.eq_zero_or_pos m.length with h0 | h0
 · omega
 · have h1:=h (m.length - 1) (by omega)
   have h2:=(Page.kk_bd (m[m.length - 1]'(by omega))).2;omega
def TI (l:List Sym) (m:List Page):Prop:=Srt Z03 m∧∀c,Z0z c=true→Z2x m c=maxL l c+1
theorem TI.nil:TI [] []:=⟨Srt.nil,fun c hc=>by unfold Z2x mget maxL;rw [if_pos hc];rfl⟩
theorem TI.next {l:List Sym} {m:List Page} (h:TI l m) (c:UInt8):Z2x m c=Z1p l c:=by
 unfold Z1p;cases hg:Z0z c
 · unfold Z2x;simp [hg]
 · rw [if_pos rfl];exact h.2 c hg
theorem Zdf {c d:UInt8} (h:letB c=letB d):c=d:=by
 (have:idc (letB c)=idc (letB d):=by rw [h]);exact this
theorem Zji {t:ByteArray} (h:t.size=1):t=letB (idc t):=by
 rw [Zfo (by omega)];obtain ⟨a⟩:=t;have hs:a.size=1:=h;unfold letB;congr 1;apply Array.ext
 · simpa using hs
 · intro i h1 h2
   (have hi:i=0:=by omega);subst hi;rfl
theorem Z98 {l:List Sym} {x:Sym}:has Z01 l x=false↔x ∉ l:=by
 rw [← Z87];simp
theorem TI.put {l:List Sym} {m:List Page} (h:TI l m) {s:Sym} (hv:Z07 s=true):TI (put Z01 l s) (Z4f m s):=by
 by_cases hk:s.kind=1
 · obtain ⟨k,t,n⟩:=s
   dsimp only at hk;subst hk;obtain ⟨h1,h2,h3,h4⟩:=Z8q hv;have ht:=Zji h1
   have hg:Z0z (idc t)=true:=by
    rw [Zfo (by omega)];have:=h2;rwa [Z7n (by omega)] at this
   have hnx:=h.2 (idc t) hg;unfold Z4f;dsimp only;by_cases hc:Z2x m (idc t)≤n
   · rw [if_pos ⟨rfl,hc⟩]
     refine ⟨Zah h.1 _,fun c hcg=>?_⟩;have hc2:=h.2 c hcg;rw [Z9z];unfold Z2x at hc2 ⊢;rw [if_pos hcg] at hc2 ⊢;rw [Zg3 h.1];dsimp only;by_cases e:idc t=c
     · subst e
       rw [if_pos rfl,if_pos ⟨rfl,ht⟩];simp only [Option.getD_some];omega
     · rw [if_neg e,if_neg (fun hh=>e (Zdf (ht.symm.trans hh.2)))]
       exact hc2
   · rw [if_neg (fun hh=>hc hh.2)]
     refine ⟨h.1,fun c hcg=>?_⟩;rw [Z9z,h.2 c hcg];by_cases e:idc t=c
     · subst e
       rw [if_pos ⟨rfl,ht⟩];dsimp only;omega
     · rw [if_neg (fun hh=>e (Zdf (ht.symm.trans hh.2)))]
 · unfold Z4f
   rw [if_neg (fun hh=>hk hh.1)];refine ⟨h.1,fun c hcg=>?_⟩;rw [Z9z,if_neg (fun hh=>hk hh.1)];exact h.2 c hcg
theorem TI.puts {m:List Page} : ∀(xs:List Sym) {l:List Sym} {m:List Page},TI l m→(∀s∈xs,Z07 s=true)→TI (puts Z01 l xs) (xs.foldl Z4f m)
 | [],_,_,h,_=>h
 | x :: xs,_,_,h,hv=>TI.puts (m:=m) xs (h.put (hv x (by simp))) (fun s hs=>hv s (by simp [hs]))
def frsh (l L:List Sym):List Sym:=puts Z01 [] (L.filter fun s=>!has Z01 l s)
theorem Zhm (l:List Sym):frsh l [] = []:=rfl
theorem Z6k {l L:List Sym} {x:Sym}:x∈frsh l L↔x∈L∧x ∉ l:=by
 unfold frsh;rw [Z22];simp [Z98]
theorem Z9t (l L:List Sym):Srt Z01 (frsh l L):=Srt.puts Z1d _ Srt.nil
theorem Z85 (l L:List Sym) (x:Sym):frsh l (L ++ [x])=if has Z01 l x=true then frsh l L else put Z01 (frsh l L) x:=by
 unfold frsh;rw [List.filter_append];by_cases h:has Z01 l x=true
 · rw [if_pos h];simp [h]
 · rw [if_neg h]
   (have:has Z01 l x=false:=by simpa using h);simp only [List.filter_cons,this,Bool.not_false,if_true,List.filter_nil];exact Z3k _ _ _
theorem Zbk {l:List Sym} (hs:Srt Z01 l) (L:List Sym):puts Z01 l (frsh l L)=puts Z01 l L:=by
 refine Zju (Srt.puts Z1d _ hs) (Srt.puts Z1d _ hs) (fun x=>?_);rw [Z22,Z22,Z6k];by_cases h:x∈l<;>simp [h]
theorem Z60 {l:List Sym} (hs:Srt Z01 l) (L:List Sym):(puts Z01 l L).length=l.length+(frsh l L).length:=by
 suffices h : ∀R:List Sym,(puts Z01 l R.reverse).length=l.length+(frsh l R.reverse).length by simpa using h L.reverse
 intro R
 induction R with
 | nil=>simp [puts,frsh]
 | cons x R ih=>
   rw [List.reverse_cons,Z3k,Z85];have hs2:=Srt.puts Z1d R.reverse hs;cases h1:has Z01 (puts Z01 l R.reverse) x
   · rw [Z2o Z1d hs2 h1]
     have h2:x ∉ puts Z01 l R.reverse:=Z98.1 h1;rw [Z22] at h2;have h3:has Z01 l x=false:=Z98.2 (fun h=>h2 (.inl h));rw [if_neg (by rw [h3];simp),Z2o Z1d (Z9t _ _) (Z98.2 (fun h=>h2 (.inr (Z6k.1 h).1)))];omega
   · rw [Z59 h1]
     have h2:x∈puts Z01 l R.reverse:=Z87.1 h1;rw [Z22] at h2;by_cases h3:x∈l
     · rw [if_pos (Z87.2 h3)];exact ih
     · rw [if_neg (by rw [Z87];exact h3),Z59 (Z87.2 (Z6k.2 ⟨h2.resolve_left h3,h3⟩))];exact ih
theorem Z9w (l:List Sym) (hs:Srt Z01 l) (x:Sym):l.length≤(put Z01 l x).length:=by
 cases h:has Z01 l x
 · rw [Z2o Z1d hs h];omega
 · rw [Z59 h];exact Zkt _
theorem Z4e : ∀(xs:List Sym) (l:List Sym),Srt Z01 l→l.length≤(puts Z01 l xs).length
 | [],_,_=>Zkt _
 | x :: xs,l,hs=>Zlf (Z9w l hs x) (Z4e xs _ (hs.put Z1d x))
theorem Z4z (l L:List Sym) (i:Nat):(frsh l (L.take i)).length≤(frsh l L).length:=by
 have e:frsh l L=puts Z01 (frsh l (L.take i)) ((L.drop i).filter fun s=>!has Z01 l s):=by
  unfold frsh puts;rw [← List.foldl_append,← List.filter_append,List.take_append_drop]
 rw [e];exact Z4e _ _ (Z9t _ _)
end
end Go.Proofs.YtfidcfjcmlgkbaaGreat
