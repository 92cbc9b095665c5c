/-
  The document's Text: a production's plain text.
-/
import Derived.Test.YtffemfglngikbaaGreatDm
import Derived.Test.YtffemfglngikbaaGreatDn
import Derived.IntWalk
import Derived.Test.YtffemfglngikbaaGreatDj
import Derived.Test.YtffemfglngikbaaGreatDk
import Derived.Test.YtffemfglngikbaaGreatDb
import Derived.Maps.RangeWalk
namespace Go.Proofs.YtffemfglngikbaaGreat
open Go.RowKit Go.Shelf
def namesW (k:Nat):List ByteArray:=(List.range k).map fun i=>nameW (i+1)
theorem namesW_len (k:Nat):(namesW k).length=k:=by simp [namesW]
theorem namesW_succ (k:Nat):namesW (k+1)=namesW k ++ [nameW (k+1)]:=by simp [namesW,List.range_succ]
theorem namesW_at {k i:Nat} (h:i<k):(namesW k)[i]? = some (nameW (i+1)):=by simp [namesW,h]
theorem otherT_ix {v:ByteArray} : ∀(l m:List ByteArray) (i:Nat) (x:ByteArray),v∈l→ixOf v l=i→m[i]? = some x→otherT l m v=x
 | a :: l,b :: m,i,x,hv,hi,hx=>by
   rw [otherT]
   by_cases e:a=v
   · rw [if_pos e]
     rw [ixOf,if_pos e] at hi
     subst hi
     simpa using hx
   · rw [if_neg e]
     rw [ixOf,if_neg e] at hi
     subst hi
     exact otherT_ix l m _ x (by rcases List.mem_cons.1 hv with h | h;exact absurd h.symm e;exact h) rfl (by simpa using hx)
 | a :: l,[],i,x,hv,hi,hx=>by simp at hx
theorem otherT_num {us:List ByteArray} {v:ByteArray} (hv:v∈us):otherT us (namesW us.length) v=numT us v:=by
 rw [numT,if_pos hv]
 exact otherT_ix us _ _ _ hv rfl (namesW_at (ixOf_lt hv).1)
section
variable {t t':ByteArray→ByteArray}
theorem one_congr {v:ByteArray} (h : ∀x∈oneN v,t x=t' x):oneR t v=oneR t' v:=by
 by_cases hv:v.toList = []
 · rw [oneR,oneR,if_pos hv,if_pos hv]
 · rw [oneN_yes hv] at h
   rw [oneR,oneR,if_neg hv,if_neg hv,h v (by simp)]
theorem tests_congr {l:List TestT} (h : ∀x∈varsT l,t x=t' x):l.map (testR t)=l.map (testR t'):=by
 refine List.map_congr_left fun x hx=>?_
 show TestT.mk x.rel (oneR t x.var) x.sym x.list=_
 rw [one_congr (fun y hy=>h y (List.mem_flatMap.2 ⟨x,hx,hy⟩))]
 rfl
theorem cond_congr : ∀(n:Nat) (c:CondT),(∀x∈namesN n c,t x=t' x)→condR t n c=condR t' n c
 | 0,_,_=>rfl
 | n+1,c,h=>by
   have e:namesN (n+1) c=oneN c.id++(varsT c.attr++(varsT c.value++c.conds.flatMap (namesN n))):=rfl
   rw [e] at h
   have h3:c.conds.map (condR t n)=c.conds.map (condR t' n):=
    List.map_congr_left fun x hx=>cond_congr n x (fun y hy=>h y (by simp only [List.mem_append,List.mem_flatMap];exact .inr (.inr (.inr ⟨x,hx,hy⟩))))
   show CondT.mk c.kind c.goal (oneR t c.id) (c.attr.map (testR t)) (c.value.map (testR t)) c.acc (c.conds.map (condR t n))=_
   rw [one_congr (fun y hy=>h y (by simp [hy])),tests_congr (fun y hy=>h y (by simp [hy])),tests_congr (fun y hy=>h y (by simp [hy])),h3]
   rfl
theorem act_congr (a:ActT) (h : ∀x∈varsA a,t x=t' x):actR t a=actR t' a:=by
 rw [vars5] at h
 show ActT.mk (oneR t a.id) ⟨oneR t a.attr.var,a.attr.sym⟩ ⟨a.value.op,⟨oneR t a.value.a.var,a.value.a.sym⟩,⟨oneR t a.value.b.var,a.value.b.sym⟩⟩ a.pref ⟨oneR t a.other.var,a.other.sym⟩=_
 rw [one_congr (fun y hy=>h y (by simp [hy])),one_congr (fun y hy=>h y (by simp [hy])),one_congr (fun y hy=>h y (by simp [hy])),one_congr (fun y hy=>h y (by simp [hy])),one_congr (fun y hy=>h y (by simp [hy]))]
 rfl
theorem prod_congr {n:Nat} {p:ProdT} (h : ∀x∈varsP n p,t x=t' x):prodR t n p=prodR t' n p:=by
 unfold prodR
 congr 1
 · exact List.map_congr_left fun c hc=>cond_congr n c (fun y hy=>h y (mem_varsC hc hy))
 · exact List.map_congr_left fun a ha=>act_congr a (fun y hy=>h y (mem_varsA ha hy))
end
theorem rplain_eq (n:Nat) (p:ProdT):plainP n p=⟨⟨#[120]⟩,(prodR (otherT (uq (varsP n p)) (namesW (uq (varsP n p)).length)) n p).conds,(prodR (otherT (uq (varsP n p)) (namesW (uq (varsP n p)).length)) n p).acts⟩:=by
 rw [prod_congr (t':=numT (uq (varsP n p))) (fun x hx=>otherT_num (uq_mem.2 hx))]
 rfl
structure RQ (W0:World) (out:List ByteArray) (A:Option Addr) (cp:Nat) (w:World):Prop where
 own:w.ownsRow 0 9 1 (.slice A out.length cp) out.length (out.flatMap strC)
 ain:AIn A (W0.heap.size≤·)
 bel:Below W0.heap.size W0 w
section
variable {W0 w w':World} {A:Option Addr} {cp:Nat} {out ys:List ByteArray}
theorem RQ.new_ (h:RQ W0 out A cp w) (hb:Below w.heap.size w w'):RQ W0 out A cp w':=⟨ownsRow_new h.own hb,h.ain,h.bel.trans (hb.mono h.bel.size)⟩
theorem RQ.app {v:Value} (h:RQ W0 out A cp w) (hown:w'.ownsRow 0 9 1 v (out.length+ys.length) (out.flatMap strC++ys.flatMap strC)) (hg:w.grownBy w' (Value.slice A out.length cp).ownBlock) (hat:v.ownBlock=(Value.slice A out.length cp).ownBlock∨v.ownBlock=some w.heap.size) :
 ∃A' c',v = .slice A' (out++ys).length c'∧RQ W0 (out++ys) A' c' w':=by
 obtain ⟨A',c',rfl,h1,h2,h3,h4⟩:=grown_str hown hg hat h.ain h.bel.size
 exact ⟨A',c',rfl,⟨h1,h2,h.bel.trans h3⟩⟩
end
theorem RQ.appN {W0 w w':World} {A:Option Addr} {cp j:Nat} {out ys:List ByteArray} {v:Value} (h:RQ W0 out A cp w) (hl:out.length=j) (hown:w'.ownsRow 0 9 1 v (j+ys.length) (out.flatMap strC++ys.flatMap strC)) (hg:w.grownBy w' (Value.slice A j cp).ownBlock) (hat:v.ownBlock=(Value.slice A j cp).ownBlock∨v.ownBlock=some w.heap.size) :
 ∃A' c',v = .slice A' (out++ys).length c'∧RQ W0 (out++ys) A' c' w':=by
 subst hl
 exact h.app hown hg hat
theorem inB_dec (l:List ByteArray) (v:ByteArray):inB l v=decide (v∈l):=by
 unfold inB
 by_cases h:v∈l
 · rw [decide_eq_true h,List.any_eq_true]
   exact ⟨v,h,by simp⟩
 · rw [decide_eq_false h,List.any_eq_false]
   intro x hx e
   have e2:x=v:=by
    by_cases e3:x=v
    · exact e3
    · exact absurd (of_decide_eq_true e) (toList_ne e3)
   exact h (e2 ▸ hx)
set_option maxRecDepth 100000 in
set_option maxHeartbeats 16000000 in
theorem rplain_is {D:Nat→Prop} (n:Nat) (p:ProdT) (A1:Option Addr) (c1:Nat) (A2:Option Addr) (c2:Nat) (w:World)
 (h1:RowR (repCondT n) D w A1 c1 p.conds) (h2:RowR repActT D w A2 c2 p.acts) (hl1:p.conds.length≤1000) (hl2:p.acts.length≤1000) (hs : ∀x∈p.conds,SmC n x) (hlen:(varsP n p).length≤100000) :
 Calls Tryz.prog 39 #[.agg #[.string p.name,.slice A1 p.conds.length c1,.slice A2 p.acts.length c2]] w (FreshP n (plainP n p) w):=by
 obtain ⟨i0,hi0,hz0,hz1,hz2⟩:=info_parts info_Str
 have HPE:=Lib.hid (rplain_eq n p)
 obtain ⟨vs,hvs⟩ : ∃vs,vs=varsP n p:=⟨_,rfl⟩
 rw [← hvs] at hlen HPE
 have HRV:=Lib.hid (show ∀Y,Below w.heap.size w Y→Calls Tryz.prog 99 #[.agg #[.string p.name,.slice A1 p.conds.length c1,.slice A2 p.acts.length c2]] Y (StrsTo Y vs) from fun Y hY=>by rw [hvs];exact rvars_is n p A1 c1 A2 c2 D Y (h1.new_ hY) (h2.new_ hY) hs hl2 (by rw [← hvs];exact hlen))
 have H1:=Lib.hid h1
 have H2:=Lib.hid h2
 have HS:=Lib.hid hs
 clear hvs h1 h2 hs
 go_enter Tryz.func39,Tryz.ntmps39
 go_upto_region 1 with fail
 obtain ⟨w1,hw1⟩ : ∃w1,w1=((w.alloc (.cells #[.string p.name,.slice A1 p.conds.length c1,.slice A2 p.acts.length c2] 25)).alloc (.cells #[.string ⟨#[]⟩,.slice none 0 0,.slice none 0 0] 25)):=⟨_,rfl⟩
 rw [← hw1]
 have HB:=Lib.hid (show Below w.heap.size w w1 by rw [hw1];exact (by repeat (first | exact Below.refl _ _ | refine Below.drew ?_ | refine Below.al ?_ _ | refine Below.sc ?_ _)))
 have Kp:=Lib.hid (show Blk w1 (w.heap.size) 25 #[.string p.name,.slice A1 p.conds.length c1,.slice A2 p.acts.length c2] by rw [hw1];exact ((Blk.new w 25 #[.string p.name,.slice A1 p.conds.length c1,.slice A2 p.acts.length c2]).alloc (.cells #[.string ⟨#[]⟩,.slice none 0 0,.slice none 0 0] 25)))
 have Kr:=Lib.hid (show Blk w1 (w.heap.size+1) 25 #[.string ⟨#[]⟩,.slice none 0 0,.slice none 0 0] by rw [hw1];have hh:=(Blk.new (w.alloc (.cells #[.string p.name,.slice A1 p.conds.length c1,.slice A2 p.acts.length c2] 25)) 25 #[.string ⟨#[]⟩,.slice none 0 0,.slice none 0 0]);simp only [World.size_alloc] at hh;exact hh)
 clear hw1
 obtain ⟨p0,p1,p2⟩:=Kp.out.c3
 have pz:=Kp.out.lt
 obtain ⟨r0,r1,r2⟩:=Kr.out.c3
 have rz:=Kr.out.lt
 go_wp2_with fail
 with_reducible refine (HRV.out _ (by (repeat (first | exact Below.refl _ _ | exact HB.out | refine Below.drew ?_ | refine Below.al ?_ _ | refine Below.sc ?_ _)))).mono ?_
 rintro e w2 ⟨Ar,cr,rfl,hor,_,hb⟩
 have hbs:=Below.trans (show Below w1.heap.size w1 _ from (by (repeat (first | exact Below.refl _ _ | refine Below.drew ?_ | refine Below.al ?_ _ | refine Below.sc ?_ _)))) (hb.mono (by simp<;>omega))
 have Kp:=Lib.hid (Kp.out.new_ hbs)
 have Kr:=Lib.hid (Kr.out.new_ hbs)
 have HB:=Lib.hid (HB.out.trans (hbs.mono HB.out.size))
 have hsz2:=hbs.size
 clear p0 p1 p2 pz r0 r1 r2 rz hb hbs
 obtain ⟨p0,p1,p2⟩:=Kp.out.c3
 have pz:=Kp.out.lt
 obtain ⟨r0,r1,r2⟩:=Kr.out.c3
 have rz:=Kr.out.lt
 have HRR:=Lib.hid (strs_row rfl hor)
 have hcr:=(strs_row rfl hor).1
 have hcm:=(strs_row rfl hor).2.1
 clear hor
 have HQ0:=Lib.hid (show RQ w2 [] none 0 w2 from ⟨owns_nilC _ _ _,AIn.none_ _,Below.refl _ _⟩)
 clear p0 p1 p2 pz r0 r1 r2 rz 
 go_wp2_with fail
 go_loopw [3,5] (fun v s wr=>∃(i:Nat) (out:List ByteArray) (A:Option Addr) (cp:Nat),s = .int .i64 i∧v = .slice A out.length cp∧i≤vs.length∧out=uq (vs.take i)∧RQ w2 out A cp wr) (fun v s wr=>vs.length - (intOf s).toNat)
 case atStart=>exact ⟨0,[],none,0,rfl,rfl,Nat.zero_le _,rfl,HQ0.out⟩
 case round=>
  clear HQ0
  obtain ⟨i,out,A,cp,rfl,rfl,hi,hout,hn⟩:=hrel
  have HNR:=Lib.hid hn
  have HOUT:=Lib.hid hout
  have hol:out.length≤100000:=by have h1:=uq_len (vs.take i);rw [← hout] at h1;have h2:(vs.take i).length≤i:=by rw [List.length_take];omega
                                 omega
  clear hn hout
  by_cases hlt:i<vs.length
  · obtain ⟨x,hx⟩ : ∃x,x=vs[i]:=⟨_,rfl⟩
    obtain ⟨g,off,rfl,hg,q0⟩:=str_at (HRR.out.new_ HNR.out.bel) hlt
    rw [← hx] at q0
    have HUQ:=Lib.hid (show uq (vs.take (i+1))=uqStep (uq (vs.take i)) x by rw [← take_snoc hlt,uq_snoc,hx])
    obtain ⟨b,hb⟩ : ∃b,b=decide (x∈out):=⟨_,rfl⟩
    have HIN:=Lib.hid (show ∀Y,Below wr.heap.size wr Y→Calls Tryz.prog 82 #[.slice A out.length cp,.string x] Y fun e w'=>e = .returned (.bool b)∧Y=w' from fun Y hY=>by rw [hb,← inB_dec];exact inB_is out x Y (strs_row rfl (ownsRow_new HNR.out.own hY)))
    have HBB:=Lib.hid hb
    have j1:(0:Int)≤(i:Int):=by omega
    have j2:(i:Int)<(vs.length:Int):=by omega
    clear hx hb
    go_wp2_with fail
    refine (HIN.out wr (Below.refl _ _)).mono ?_
    rintro e w0 ⟨rfl,rfl⟩
    cases b with
    | true=>
      have HON:=Lib.hid (show out=uq (vs.take (i+1)) by rw [HUQ.out,uqStep,← HOUT.out,if_pos (of_decide_eq_true HBB.out.symm)])
      go_wp2_with fail
      go_roundw
      case rel=>exact ⟨i+1,out,A,cp,by go_num,rfl,by omega,HON.out,HNR.out⟩
      case measure=>simp [intOf]<;>omega
    | false=>
      have HON:=Lib.hid (show out ++ [x]=uq (vs.take (i+1)) by rw [HUQ.out,uqStep,← HOUT.out,if_neg (of_decide_eq_false HBB.out.symm)])
      obtain ⟨Y9,hY9⟩ : ∃Y9,Y9=wr.alloc (.cells #[.string x] 9):=⟨_,rfl⟩
      have hb9:Below wr.heap.size wr Y9:=by rw [hY9];exact (Below.refl _ _).alloc (Nat.le_refl _) _
      have HY9:=Lib.hid hY9
      have HN9:=Lib.hid (HNR.out.new_ hb9)
      have HW9:=Lib.hid (show 0<1→∃ad,(some (⟨wr.heap.size,0,none⟩:Addr))=some ad∧∀j u,([x].flatMap strC)[j]? = some u→Y9.cell? (ad.add j)=some u from fun _=>⟨_,rfl,by rw [hY9];exact World.news_of_block (heap_alloc_new _ _)⟩)
      clear hY9 hb9
      go_wp2_with (at_builtin;rw [← HY9.out];refine wpList_append_src Y9 rfl (.tmp 24) (.tmp 29) 117 rfl 9 i0 _ 1 16 Tryz.underlying117 hi0 hz0 hz1 hz2 rfl (by decide) (.slice A out.length cp) out.length (out.flatMap strC) rfl HN9.out.own (some ⟨wr.heap.size,0,none⟩) 1 1 ([x].flatMap strC) rfl rfl HW9.out (str_one _) (by unfold maxLen;omega) (by omega) ?_;intro v1 w9 hown1 hg1 hnil1 hat1;obtain ⟨A9,c9,rfl,hn9⟩:=HN9.out.app (ys:=[x]) hown1 hg1 hat1;have HN10:=Lib.hid hn9;clear hown1 hg1 hnil1 hat1 hn9)
      go_roundw
      case rel=>exact ⟨i+1,out ++ [x],A9,c9,by go_num,by simp,by omega,HON.out,HN10.out⟩
      case measure=>simp [intOf]<;>omega
  · obtain rfl:i=vs.length:=by omega
    obtain ⟨us,hus⟩ : ∃us,us=uq vs:=⟨_,rfl⟩
    have hou:out=us:=by rw [HOUT.out,List.take_length,hus]
    subst hou
    rw [← hus] at HPE
    obtain ⟨wm,hwm⟩ : ∃wm,wm=wr:=⟨_,rfl⟩
    rw [← hwm] at HNR ⊢
    have HBM:=Lib.hid (HB.out.trans (HNR.out.bel.mono HB.out.size))
    have HUR:=Lib.hid (strs_row rfl HNR.out.own)
    have hcu:=(strs_row rfl HNR.out.own).1
    have hcv:=(strs_row rfl HNR.out.own).2.1
    have HQ0:=Lib.hid (show RQ wm (namesW 0) none 0 wm from ⟨owns_nilC _ _ _,AIn.none_ _,Below.refl _ _⟩)
    clear hus hwm HOUT
    go_wp2_with fail
    go_loopw [6,7] (fun v s wr=>∃(j:Nat) (A:Option Addr) (cp:Nat),s = .int .i64 j∧v = .slice A j cp∧j≤out.length∧RQ wm (namesW j) A cp wr) (fun v s wr=>out.length - (intOf s).toNat)
    case atStart=>exact ⟨0,none,0,rfl,rfl,Nat.zero_le _,HQ0.out⟩
    case round=>
     clear HQ0
     obtain ⟨j,B,bp,rfl,rfl,hj,hn⟩:=hrel
     have HNJ:=Lib.hid hn
     clear hn
     by_cases hlt:j<out.length
     · have j1:(0:Int)≤(j:Int):=by omega
       have j2:(j:Int)<(out.length:Int):=by omega
       have vw:IntKind.i64.wrap ((j:Int)+1)=(j:Int)+1:=IntWalk.i64_in _ (by omega)
       obtain ⟨x,hx⟩ : ∃x,x=decB (j+1):=⟨_,rfl⟩
       have hxs:x.size≤100010:=by rw [hx];have:=decB_size (j+1);omega
       have hcz : ¬9223372036854775807<1+x.size:=by omega
       have HNUM:=Lib.hid (show ∀Y,Calls Tryz.prog 100 #[.int .i64 ((j:Int)+1)] Y fun e w'=>e = .returned (.string x)∧Below Y.heap.size Y w' from fun Y=>by
        have:=rnumber_is ((j:Int)+1) (by omega) (by omega) Y
        rw [show numB ((j:Int)+1)=x by rw [hx,show ((j:Int)+1)=((j+1:Nat):Int) by omega,numB_nat]] at this
        exact this)
       have HNW:=Lib.hid (show namesW j ++ [(⟨#[118]⟩:ByteArray)++x]=namesW (j+1) by rw [namesW_succ,nameW,hx])
       have HNL:=Lib.hid (show (namesW j).length=j from namesW_len j)
       clear hx
       go_wp2_with fail
       refine (HNUM.out _).mono ?_
       rintro e w5 ⟨rfl,hb5⟩
       have HN5:=Lib.hid (HNJ.out.new_ hb5)
       obtain ⟨Y9,hY9⟩ : ∃Y9,Y9=w5.alloc (.cells #[.string ((⟨#[118]⟩:ByteArray)++x)] 9):=⟨_,rfl⟩
       have hb9:Below w5.heap.size w5 Y9:=by rw [hY9];exact (Below.refl _ _).alloc (Nat.le_refl _) _
       have HY9:=Lib.hid hY9
       have HN9:=Lib.hid (HN5.out.new_ hb9)
       have HW9:=Lib.hid (show 0<1→∃ad,(some (⟨w5.heap.size,0,none⟩:Addr))=some ad∧∀j u,([(⟨#[118]⟩:ByteArray)++x].flatMap strC)[j]? = some u→Y9.cell? (ad.add j)=some u from fun _=>⟨_,rfl,by rw [hY9];exact World.news_of_block (heap_alloc_new _ _)⟩)
       have HOW9:=Lib.hid (show Y9.ownsRow 0 9 1 (.slice B j bp) j ((namesW j).flatMap strC) by have:=HN9.out.own;rwa [HNL.out] at this)
       clear hY9 hb9 hb5
       go_wp2_with (at_builtin;rw [← HY9.out];refine wpList_append_src Y9 rfl (.tmp 37) (.tmp 42) 117 rfl 9 i0 _ 1 16 Tryz.underlying117 hi0 hz0 hz1 hz2 rfl (by decide) (.slice B j bp) j ((namesW j).flatMap strC) rfl HOW9.out (some ⟨w5.heap.size,0,none⟩) 1 1 ([(⟨#[118]⟩:ByteArray)++x].flatMap strC) rfl rfl HW9.out (str_one _) (by unfold maxLen;omega) (by omega) ?_;intro v1 w9 hown1 hg1 hnil1 hat1;obtain ⟨A9,c9,rfl,hn9⟩:=HN9.out.appN HNL.out (ys:=[(⟨#[118]⟩:ByteArray)++x]) hown1 hg1 hat1;rw [HNW.out,namesW_len];rw [HNW.out] at hn9;have HN10:=Lib.hid hn9;clear hown1 hg1 hnil1 hat1 hn9)
       go_roundw
       case rel=>exact ⟨j+1,A9,c9,by go_num,rfl,by omega,HN10.out⟩
       case measure=>simp [intOf]<;>omega
     · obtain rfl:j=out.length:=by omega
       have HZM:=Lib.hid (show Below w.heap.size w wr from HBM.out.trans (HNJ.out.bel.mono HBM.out.size))
       have HRW:=Lib.hid (strs_row rfl HNJ.out.own)
       have HUW:=Lib.hid (HUR.out.new_ HNJ.out.bel)
       have hkp:=(Kp.out.new_ HNR.out.bel).new_ HNJ.out.bel
       have HRB:=Lib.hid ((Kr.out.new_ HNR.out.bel).new_ HNJ.out.bel)
       have hok:OtherOk (.slice A out.length cp) (.slice B out.length bp) wr (otherT out (namesW out.length)):=fun v W hW=>by
        have:=otherR_is v out (namesW out.length) A B cp bp W (HUW.out.new_ hW) (HRW.out.new_ hW)
        rwa [namesW_len] at this
       have HREN:=Lib.hid (rrename_is hok n p A1 c1 A2 c2 wr (Below.refl _ _) (H1.out.new_ HZM.out) (H2.out.new_ HZM.out) hl1 hl2 HS.out)
       obtain ⟨r,hr⟩ : ∃r,r=prodR (otherT out (namesW out.length)) n p:=⟨_,rfl⟩
       rw [← hr] at HREN
       have HR:=Lib.hid (show plainP n p=⟨⟨#[120]⟩,r.conds,r.acts⟩∧r.name=p.name by rw [HPE.out,hr];exact ⟨rfl,rfl⟩)
       obtain ⟨b0,b1,b2⟩:=hkp.c3
       have bz:=hkp.lt
       clear hok hr hkp
       go_wp2_with fail
       refine HREN.out.mono ?_
       rintro e w5 ⟨E1,d1,E2,d2,rfl,r1,r2,hb5⟩
       rw [HR.out.2]
       have hRr:=HRB.out.new_ hb5
       obtain ⟨w6,hw6⟩ : ∃W,W=w5.alloc (.cells #[.string p.name,.slice E1 r.conds.length d1,.slice E2 r.acts.length d2] 25):=⟨_,rfl⟩
       have hb6:Below w5.heap.size w5 w6:=by rw [hw6];exact (Below.refl _ _).alloc (Nat.le_refl _) _
       have hg6:Blk w6 w5.heap.size 25 #[.string p.name,.slice E1 r.conds.length d1,.slice E2 r.acts.length d2]:=by rw [hw6];exact Blk.new _ _ _
       obtain ⟨w7,hw7⟩ : ∃W,W=w6.setCell ⟨w5.heap.size,0,none⟩ (.string ⟨#[120]⟩):=⟨_,rfl⟩
       have hg7:Blk w7 w5.heap.size 25 #[.string ⟨#[120]⟩,.slice E1 r.conds.length d1,.slice E2 r.acts.length d2]:=by rw [hw7];exact hg6.set_ 0 _
       have hb7:Below w5.heap.size w5 w7:=by rw [hw7];exact hb6.setCell (Nat.le_refl _) _
       have g0:w6.cell? ⟨w5.heap.size,0,none⟩=some (.string p.name):=(hg6.cell 0).trans rfl
       have gf:=hg6.frozen 0
       have gl:=hg6.lt
       have HW6:=Lib.hid hw6
       have HW7:=Lib.hid hw7
       have HG7:=Lib.hid hg7
       have HR7:=Lib.hid (hRr.new_ hb7)
       have hz5:=hb5.size
       have hzx:=HZM.out.size
       have HRZ:=Lib.hid HRB.out.lt
       have HB7:=Lib.hid (HZM.out.trans ((hb5.trans (hb7.mono hz5)).mono hzx))
       have HR1:=Lib.hid (r1.newD (B':=wr.heap.size) hb7 (Nat.le_refl _))
       have HR2:=Lib.hid (r2.newD (B':=wr.heap.size) hb7 (Nat.le_refl _))
       clear hb5 hb6 hb7 hg6 hg7 hw6 hw7 hRr r1 r2 b0 b1 b2 bz
       go_upto_region 14 with fail
       rw [← HW6.out]
       go_upto_region 15 with fail
       rw [← HW7.out]
       clear g0 gf gl HW6 HW7
       have HT9:=Lib.hid (show w7.there (w.heap.size+1) 0 (#[Value.string ⟨#[120]⟩,Value.slice E1 r.conds.length d1,Value.slice E2 r.acts.length d2]:Array Value).size from HR7.out.there)
       have HRG:=Lib.hid (show w7.rangeAt w5.heap.size 0 [Value.string ⟨#[120]⟩,Value.slice E1 r.conds.length d1,Value.slice E2 r.acts.length d2] from HG7.out.range)
       have hrl:=HR7.out.lt
       have hgl:=HG7.out.lt
       go_wp2_with (first | (with_reducible refine wpList_load_mid rfl 25 _ rfl w5.heap.size 0 rfl [Value.string ⟨#[120]⟩,Value.slice E1 r.conds.length d1,Value.slice E2 r.acts.length d2] _ HRG.out Tryz.underlying25 rfl (by kernel_rfl) ?_) | (with_reducible refine wpList_store_mid rfl 25 _ _ rfl (w.heap.size+1) 0 #[Value.string ⟨#[120]⟩,Value.slice E1 r.conds.length d1,Value.slice E2 r.acts.length d2] rfl rfl HT9.out (by kernel_rfl) (by kernel_rfl) ?_))
       try simp only [Exit.inBlock,Exit.then]
       have hB8:Below w.heap.size w (w7.setCells (w.heap.size+1) 0 [Value.string ⟨#[120]⟩,Value.slice E1 r.conds.length d1,Value.slice E2 r.acts.length d2]):=Below.setCells' _ _ HB7.out (by omega)
       have hup : ∀j,NewD wr.heap.size w7 j→j<w7.heap.size→NewD w.heap.size (w7.setCells (w.heap.size+1) 0 [Value.string ⟨#[120]⟩,Value.slice E1 r.conds.length d1,Value.slice E2 r.acts.length d2]) j∧(w7.setCells (w.heap.size+1) 0 [Value.string ⟨#[120]⟩,Value.slice E1 r.conds.length d1,Value.slice E2 r.acts.length d2]).heap[j]? = w7.heap[j]?:=fun j hj hl=>⟨⟨by have:=hj.1;omega,by rw [size_setCells];omega⟩,blk_setCells _ _ _ _ _ (by have:=hj.1;have:=HRZ.out;omega)⟩
       refine bodyPost_ret (v:=.agg #[.string ⟨#[120]⟩,.slice E1 r.conds.length d1,.slice E2 r.acts.length d2]) ?_ rfl (by rw [HR.out.1];exact ⟨E1,d1,E2,d2,rfl,HR1.out.keep (by rw [size_setCells];omega) hup,HR2.out.keep (by rw [size_setCells];omega) hup,hB8⟩)
       exact results_cell (t:=2) (T:=25) rfl _ _ (w.heap.size+1) [Value.string ⟨#[120]⟩,Value.slice E1 r.conds.length d1,Value.slice E2 r.acts.length d2] _ rfl (World.rangeAt_setCells_same w7 (w.heap.size+1) 0 [Value.string ⟨#[120]⟩,Value.slice E1 r.conds.length d1,Value.slice E2 r.acts.length d2] HT9.out) Tryz.underlying25 rfl (by kernel_rfl)
end Go.Proofs.YtffemfglngikbaaGreat
namespace Go.Proofs.YtffemfglngikbaaGreat
open Go.RowKit Go.Shelf
attribute [local go_sem] Oper.semAt_some
set_option linter.unusedSimpArgs false
set_option maxRecDepth 100000 in
set_option maxHeartbeats 4000000 in
theorem rtext21_is {D:Nat→Prop} (n:Nat) (p:ProdT) (A1:Option Addr) (c1:Nat) (A2:Option Addr) (c2:Nat) (w:World) (h1:RowR (repCondT n) D w A1 c1 p.conds) (h2:RowR repActT D w A2 c2 p.acts) (hf:Fit n p) (hf2:(flatC n 0 p.conds).length≤1000000) (hn2:n≤1000000) :
 Calls Tryz.prog 41 #[.agg #[.string p.name,.slice A1 p.conds.length c1,.slice A2 p.acts.length c2]] w fun e w'=>e = .returned (.string (textC n p))∧Below w.heap.size w w':=by
 have HPL:=Lib.hid (show ∀W,Below w.heap.size w W→Calls Tryz.prog 39 #[.agg #[.string p.name,.slice A1 p.conds.length c1,.slice A2 p.acts.length c2]] W (FreshP n (plainP n p) W) from fun W hW=>rplain_is n p A1 c1 A2 c2 W (h1.new_ hW) (h2.new_ hW) hf.c hf.a hf.s hf.v)
 obtain ⟨q,hq⟩ : ∃q,q=plainP n p:=⟨_,rfl⟩
 have HSZ:=Lib.hid (show (shapeP n q).2=0→(prodX n q).size≤MAXS from fun h=>by
  have:=prodX_le (n:=n) (p:=q) (by rw [hq];intro x hx;obtain ⟨z,hz,rfl⟩:=List.mem_map.1 (show x∈p.conds.map _ from hx);exact dp_condR _ n z (hf.d z hz)) h
  unfold MAXS
  omega)
 have HFL:=Lib.hid (show (flatC n 0 q.conds).length≤1000000 by rw [hq];show (flatC n 0 (p.conds.map _)).length≤_;rw [flat_condR];exact hf2)
 have HNN:=Lib.hid hn2
 have HTX:=Lib.hid (show textC n p=showX n q by rw [hq];rfl)
 rw [← hq] at HPL
 have hc1:=h1.cap
 have hc2:=h2.cap
 clear h1 h2 hf hf2 hn2 hq
 go_enter Tryz.func41,Tryz.ntmps41
 go_upto_region 1 with fail
 obtain ⟨w1,hw1⟩ : ∃w1,w1=(w.alloc (.cells #[.string p.name,.slice A1 p.conds.length c1,.slice A2 p.acts.length c2] 25)):=⟨_,rfl⟩
 rw [← hw1]
 have HB:=Lib.hid (show Below w.heap.size w w1 by rw [hw1];exact (by repeat (first | exact Below.refl _ _ | refine Below.drew ?_ | refine Below.al ?_ _ | refine Below.sc ?_ _)))
 have Kb:=Lib.hid (show Blk w1 (w.heap.size) 25 #[.string p.name,.slice A1 p.conds.length c1,.slice A2 p.acts.length c2] by rw [hw1];exact (Blk.new w 25 #[.string p.name,.slice A1 p.conds.length c1,.slice A2 p.acts.length c2]))
 clear hw1
 obtain ⟨b0,b1,b2⟩:=Kb.out.c3
 have bz:=Kb.out.lt
 go_wp2_with fail
 with_reducible refine (HPL.out _ (by (repeat (first | exact Below.refl _ _ | exact HB.out | refine Below.drew ?_ | refine Below.al ?_ _ | refine Below.sc ?_ _)))).mono ?_
 rintro e w2 ⟨E1,d1,E2,d2,rfl,r1,r2,hb⟩
 have hbs:=Below.trans (show Below w1.heap.size w1 _ from (by (repeat (first | exact Below.refl _ _ | refine Below.drew ?_ | refine Below.al ?_ _ | refine Below.sc ?_ _)))) (hb.mono (by simp<;>omega))
 have Kb:=Lib.hid (Kb.out.new_ hbs)
 have HB:=Lib.hid (HB.out.trans (hbs.mono HB.out.size))
 have hsz2:=hbs.size
 clear b0 b1 b2 bz hb hbs
 obtain ⟨b0,b1,b2⟩:=Kb.out.c3
 have bz:=Kb.out.lt
 have HR1:=Lib.hid r1
 have HR2:=Lib.hid r2
 clear r1 r2
 go_wp2_with fail
 with_reducible refine (r7prod_is n q E1 E2 d1 d2 _ HR1.out HR2.out HFL.out HNN.out HSZ.out).mono ?_
 rintro e w3 ⟨rfl,hb⟩
 have hbs:=Below.trans (show Below w2.heap.size w2 _ from (by (repeat (first | exact Below.refl _ _ | refine Below.drew ?_ | refine Below.al ?_ _ | refine Below.sc ?_ _)))) (hb.mono (by simp<;>omega))
 have Kb:=Lib.hid (Kb.out.new_ hbs)
 have HB:=Lib.hid (HB.out.trans (hbs.mono HB.out.size))
 have hsz3:=hbs.size
 clear b0 b1 b2 bz hb hbs
 obtain ⟨b0,b1,b2⟩:=Kb.out.c3
 have bz:=Kb.out.lt
 go_wp2_with fail
 go_ret
 exact ⟨by rw [HTX.out]<;>rfl,HB.out⟩
end Go.Proofs.YtffemfglngikbaaGreat
namespace Go.Proofs.YtffemfglngikbaaGreat
open Go.RowKit Go.Shelf
set_option maxRecDepth 100000 in
set_option maxHeartbeats 16000000 in
theorem textsc_walk (n:Nat) (p:ProdT) (A1:Option Addr) (c1:Nat) (A2:Option Addr) (c2:Nat) (w:World) (h1:RowR (repCondT n) (· < w.heap.size) w A1 c1 p.conds) (h2:RowR repActT (· < w.heap.size) w A2 c2 p.acts) :
 Calls Tryz.prog 6 #[.agg #[.string p.name,.slice A1 p.conds.length c1,.slice A2 p.acts.length c2]] w fun e w'=>e = .returned (.bool true)∧Below w.heap.size w w':=by
 have H1:=Lib.hid h1
 have H2:=Lib.hid h2
 clear h1 h2
 go_enter Tryz.func6,Tryz.ntmps6
 go_upto_region 1 with fail
 obtain ⟨w1,hw1⟩ : ∃w1,w1=(w.alloc (.cells #[.string p.name,.slice A1 p.conds.length c1,.slice A2 p.acts.length c2] 25)):=⟨_,rfl⟩
 rw [← hw1]
 have HB:=Lib.hid (show Below w.heap.size w w1 by rw [hw1];exact (by repeat (first | exact Below.refl _ _ | refine Below.drew ?_ | refine Below.al ?_ _ | refine Below.sc ?_ _)))
 have Ka:=Lib.hid (show Blk w1 (w.heap.size) 25 #[.string p.name,.slice A1 p.conds.length c1,.slice A2 p.acts.length c2] by rw [hw1];exact (Blk.new w 25 #[.string p.name,.slice A1 p.conds.length c1,.slice A2 p.acts.length c2]))
 clear hw1
 obtain ⟨a0,a1,a2⟩:=Ka.out.c3
 have az:=Ka.out.lt
 go_wp2_with fail
 with_reducible refine (heavy_is n p A1 A2 c1 c2 _ (H1.out.new_ (by (repeat (first | exact Below.refl _ _ | exact HB.out | refine Below.drew ?_ | refine Below.al ?_ _ | refine Below.sc ?_ _)))) (H2.out.new_ (by (repeat (first | exact Below.refl _ _ | exact HB.out | refine Below.drew ?_ | refine Below.al ?_ _ | refine Below.sc ?_ _))))).mono ?_
 rintro e w2 ⟨rfl,hb⟩
 have hbs:=Below.trans (show Below w1.heap.size w1 _ from (by (repeat (first | exact Below.refl _ _ | refine Below.drew ?_ | refine Below.al ?_ _ | refine Below.sc ?_ _)))) (hb.mono (by simp<;>omega))
 have Ka:=Lib.hid (Ka.out.new_ hbs)
 have HB:=Lib.hid (HB.out.trans (hbs.mono HB.out.size))
 have hsz2:=hbs.size
 clear a0 a1 a2 az hb hbs
 obtain ⟨a0,a1,a2⟩:=Ka.out.c3
 have az:=Ka.out.lt
 obtain ⟨bh,hbh⟩ : ∃b,b=heavyP n p:=⟨_,rfl⟩
 rw [← hbh]
 have HBH:=Lib.hid hbh
 clear hbh
 cases bh
 · skip
   have HNH:=Lib.hid HBH.out.symm
   have HR1:=Lib.hid (fit_of HNH.out H1.out).1
   have HF:=Lib.hid (fit_of HNH.out H1.out).2
   obtain ⟨q,hq⟩ : ∃q,q=plainP 20 p:=⟨_,rfl⟩
   obtain ⟨s,hs⟩ : ∃s,s=textC 20 p:=⟨_,rfl⟩
   have HFL:=Lib.hid (show (flatC 20 0 p.conds).length≤1000000 from Nat.le_trans ((heavyP_light HNH.out).2.1 20 0) (by decide))
   have HPC:=Lib.hid (show ∀W,Below w.heap.size w W→Calls Tryz.prog 38 #[.agg #[.string p.name,.slice A1 p.conds.length c1,.slice A2 p.acts.length c2]] W (FreshP 20 q W) from fun W hW=>by rw [hq];exact cplain_is 20 p A1 c1 A2 c2 W (fun k hk=>Nat.lt_of_lt_of_le hk hW.size) (HR1.out.new_ hW) (H2.out.new_ hW) HF.out.c HF.out.a HF.out.s HF.out.v)
   have HPR:=Lib.hid (show ∀W,Below w.heap.size w W→Calls Tryz.prog 39 #[.agg #[.string p.name,.slice A1 p.conds.length c1,.slice A2 p.acts.length c2]] W (FreshP 20 q W) from fun W hW=>by rw [hq];exact rplain_is 20 p A1 c1 A2 c2 W (HR1.out.new_ hW) (H2.out.new_ hW) HF.out.c HF.out.a HF.out.s HF.out.v)
   have HTC:=Lib.hid (show ∀W,Below w.heap.size w W→Calls Tryz.prog 40 #[.agg #[.string p.name,.slice A1 p.conds.length c1,.slice A2 p.acts.length c2]] W fun e w'=>e = .returned (.string s)∧Below W.heap.size W w' from fun W hW=>by rw [hs];exact ctext_is (D:=(· < w.heap.size)) 20 p A1 c1 A2 c2 W (fun k hk=>Nat.lt_of_lt_of_le hk hW.size) (HR1.out.new_ hW) (H2.out.new_ hW) HF.out)
   have HTR:=Lib.hid (show ∀W,Below w.heap.size w W→Calls Tryz.prog 41 #[.agg #[.string p.name,.slice A1 p.conds.length c1,.slice A2 p.acts.length c2]] W fun e w'=>e = .returned (.string s)∧Below W.heap.size W w' from fun W hW=>by rw [hs];exact rtext21_is (D:=(· < w.heap.size)) 20 p A1 c1 A2 c2 W (HR1.out.new_ hW) (H2.out.new_ hW) HF.out HFL.out (by decide))
   clear hq hs HBH
   go_upto_region 3 with fail
   have HBL:=Lib.hid HB.out.size
   refine wp_region_E (fun w9=>Below w2.heap.size w2 w9) [(0,1),(2,1),(1,2),(3,2),(4,2),(5,0),(6,1),(8,1),(7,2),(9,2),(10,0),(11,0),(12,0),(13,2),(14,0),(15,0)] (by kernel_rfl) (by kernel_rfl) (fun KK hKK=>?_)
   simp only [beside,List.filterMap_cons,List.filterMap_nil,List.getElem?_toArray,List.getElem?_cons_zero,List.getElem?_cons_succ,Option.map_some]
   repeat ((first | (refine wpX_w ?_ (Or.inl ⟨by rfl,fun w9=>?_⟩) ?_;rotate_left 1;go_simp;with_reducible rfl) | (refine wpX_l ?_ (((Below.refl _ _).drew)) (Or.inl ⟨by rfl,fun w9 hw9=>?_⟩) ?_;rotate_left 1;obtain ⟨hc9,hf9⟩:=bcell hw9;go_simp;with_reducible rfl) | refine wpX_w undef (Or.inr ⟨by rfl,rfl⟩) ?_ | refine wpX_l undef (((Below.refl _ _).drew)) (Or.inr ⟨by rfl,rfl⟩) ?_);go_frame)
   refine wpX_es (fun K9 hK9=>?_)
   go_simp
   refine (HPC.out _ (HB.out.trans (((Below.refl w2.heap.size w2).drew).mono HBL.out))).mono ?_
   rintro e w31 ⟨G1,m1,G2,m2,rfl,k1,k2,hb31⟩
   have HB31:=Lib.hid ((Below.refl w2.heap.size w2).drew.trans (hb31.mono (by simp)))
   have HK1:=Lib.hid k1
   have HK2:=Lib.hid k2
   clear k1 k2
   clear hb31
   refine hK9 _ _ HB31.out ?_
   clear hK9 K9
   refine wpX_es (fun K9 hK9=>?_)
   go_simp
   refine (HPR.out _ (HB.out.trans ((HB31.out).mono HBL.out))).mono ?_
   rintro e w32 ⟨L1,n1,L2,n2,rfl,k1,k2,hb32⟩
   have HB32:=Lib.hid (HB31.out.trans (hb32.mono HB31.out.size))
   have HL1:=Lib.hid k1
   have HL2:=Lib.hid k2
   have HK1:=Lib.hid (HK1.out.new_ hb32)
   have HK2:=Lib.hid (HK2.out.new_ hb32)
   clear k1 k2
   clear hb32
   refine hK9 _ _ HB32.out ?_
   clear hK9 K9
   refine wpX_es (fun K9 hK9=>?_)
   go_simp
   refine (prod_same 20 q G1 m1 G2 m2 L1 n1 L2 n2 _ HK1.out HK2.out HL1.out HL2.out).mono ?_
   rintro e w33 ⟨rfl,hb33⟩
   have HB33:=Lib.hid (HB32.out.trans (hb33.mono HB32.out.size))
   clear hb33
   refine hK9 _ _ HB33.out ?_
   clear hK9 K9
   repeat ((first | (refine wpX_w ?_ (Or.inl ⟨by rfl,fun w9=>?_⟩) ?_;rotate_left 1;go_simp;with_reducible rfl) | (refine wpX_l ?_ (HB33.out) (Or.inl ⟨by rfl,fun w9 hw9=>?_⟩) ?_;rotate_left 1;obtain ⟨hc9,hf9⟩:=bcell hw9;go_simp;with_reducible rfl) | refine wpX_w undef (Or.inr ⟨by rfl,rfl⟩) ?_ | refine wpX_l undef (HB33.out) (Or.inr ⟨by rfl,rfl⟩) ?_);go_frame)
   refine wpX_es (fun K9 hK9=>?_)
   go_simp
   refine (HTC.out _ (HB.out.trans ((HB33.out).mono HBL.out))).mono ?_
   rintro e w34 ⟨rfl,hb34⟩
   have HB34:=Lib.hid (HB33.out.trans (hb34.mono HB33.out.size))
   clear hb34
   refine hK9 _ _ HB34.out ?_
   clear hK9 K9
   refine wpX_es (fun K9 hK9=>?_)
   go_simp
   refine (HTR.out _ (HB.out.trans ((HB34.out).mono HBL.out))).mono ?_
   rintro e w35 ⟨rfl,hb35⟩
   have HB35:=Lib.hid (HB34.out.trans (hb35.mono HB34.out.size))
   clear hb35
   refine hK9 _ _ HB35.out ?_
   clear hK9 K9
   repeat ((first | (refine wpX_w ?_ (Or.inl ⟨by rfl,fun w9=>?_⟩) ?_;rotate_left 1;go_simp;with_reducible rfl) | (refine wpX_l ?_ (HB35.out) (Or.inl ⟨by rfl,fun w9 hw9=>?_⟩) ?_;rotate_left 1;obtain ⟨hc9,hf9⟩:=bcell hw9;go_simp;with_reducible rfl) | refine wpX_w undef (Or.inr ⟨by rfl,rfl⟩) ?_ | refine wpX_l undef (HB35.out) (Or.inr ⟨by rfl,rfl⟩) ?_);go_frame)
   refine wpX_es (fun K9 hK9=>?_)
   go_simp
   refine (wakes23_is _).mono ?_
   rintro e w36 ⟨rfl,hb36⟩
   have HB36:=Lib.hid (HB35.out.trans (hb36.mono HB35.out.size))
   clear hb36
   refine hK9 _ _ HB36.out ?_
   clear hK9 K9
   repeat ((first | (refine wpX_w ?_ (Or.inl ⟨by rfl,fun w9=>?_⟩) ?_;rotate_left 1;go_simp;with_reducible rfl) | (refine wpX_l ?_ (HB36.out) (Or.inl ⟨by rfl,fun w9 hw9=>?_⟩) ?_;rotate_left 1;obtain ⟨hc9,hf9⟩:=bcell hw9;go_simp;with_reducible rfl) | refine wpX_w undef (Or.inr ⟨by rfl,rfl⟩) ?_ | refine wpX_l undef (HB36.out) (Or.inr ⟨by rfl,rfl⟩) ?_);go_frame)
   refine wpX_nil ?_
   simp only [OnlyN_normal]
   refine hKK _ _ ?_
   clear hKK KK
   go_wp2_with fail
   go_ret
   exact ⟨rfl,HB.out.trans (HB36.out.mono HB.out.size)⟩
 · skip
   go_wp2_with fail
   with_reducible refine (wakes23_is _).mono ?_
   rintro e w3 ⟨rfl,hb⟩
   have hbs:=Below.trans (show Below w2.heap.size w2 _ from (by (repeat (first | exact Below.refl _ _ | refine Below.drew ?_ | refine Below.al ?_ _ | refine Below.sc ?_ _)))) (hb.mono (by simp<;>omega))
   have Ka:=Lib.hid (Ka.out.new_ hbs)
   have HB:=Lib.hid (HB.out.trans (hbs.mono HB.out.size))
   have hsz3:=hbs.size
   clear a0 a1 a2 az hb hbs
   obtain ⟨a0,a1,a2⟩:=Ka.out.c3
   have az:=Ka.out.lt
   go_wp2_with fail
   go_ret
   exact ⟨rfl,by (repeat (first | exact Below.refl _ _ | exact HB.out | refine Below.drew ?_ | refine Below.al ?_ _ | refine Below.sc ?_ _))⟩
end Go.Proofs.YtffemfglngikbaaGreat
namespace Go.Proofs.YtffemfglngikbaaGreat
open Go.RowKit Go.ChangeShapes Go.WideShapes Go.Deep
set_option maxRecDepth 100000 in
theorem open_ProdT {H:Type} {enc:TypeId×Value→H} {w:World} {r:Reach} {b0 base:Nat} {spare:Nat→Bool} {held:Bool} {v:Value} {d:DataW H} {ps:List MemPlace}
 (hval:Value.okWide Tryz.prog w r b0 25 v) (h:DataW.Trod enc Tryz.prog w base spare held 25 v d ps) : ∃(n:Nat) (x:ProdT) (A1:Option Addr) (c1:Nat) (A2:Option Addr) (c2:Nat),v = .agg #[.string x.name,.slice A1 x.conds.length c1,.slice A2 x.acts.length c2]∧
   RowR (repCondT n) (· < w.heap.size) w A1 c1 x.conds∧RowR repActT (· < w.heap.size) w A2 c2 x.acts:=by
 obtain ⟨cs,rfl,_⟩:=okWide_struct Tryz.underlying25 hval
 obtain ⟨fuel,hf⟩:=h
 obtain ⟨x,A1,c1,A2,c2,hx,h1,h2⟩:=openN_ProdT enc w base spare held fuel _ _ hf
 refine ⟨fuel,x,A1,c1,A2,c2,?_,h1,h2⟩
 simp only [Value.cells] at hx
 have:cs = #[.string x.name,.slice A1 x.conds.length c1,.slice A2 x.acts.length c2]:=by rw [← Array.toList_inj];simpa using hx
 rw [this]
end Go.Proofs.YtffemfglngikbaaGreat
namespace Go.Proofs.YtffemfglngikbaaGreat
open Go.RowKit Go.Shelf
set_option linter.unusedSimpArgs false
set_option maxRecDepth 100000 in
set_option maxHeartbeats 16000000 in
theorem samesc_walk (n m:Nat) (p q:ProdT) (A1:Option Addr) (c1:Nat) (A2:Option Addr) (c2:Nat) (B1:Option Addr) (d1:Nat) (B2:Option Addr) (d2:Nat) (w:World) (h1:RowR (repCondT n) (· < w.heap.size) w A1 c1 p.conds) (h2:RowR repActT (· < w.heap.size) w A2 c2 p.acts) (k1:RowR (repCondT m) (· < w.heap.size) w B1 d1 q.conds) (k2:RowR repActT (· < w.heap.size) w B2 d2 q.acts) :
 Calls Tryz.prog 7 #[.agg #[.string p.name,.slice A1 p.conds.length c1,.slice A2 p.acts.length c2],.agg #[.string q.name,.slice B1 q.conds.length d1,.slice B2 q.acts.length d2]] w fun e w'=>e = .returned (.bool true)∧Below w.heap.size w w':=by
 have H1:=Lib.hid h1
 have H2:=Lib.hid h2
 have G1:=Lib.hid k1
 have G2:=Lib.hid k2
 clear h1 h2 k1 k2
 go_enter Tryz.func7,Tryz.ntmps7
 go_upto_region 1 with fail
 obtain ⟨w1,hw1⟩ : ∃w1,w1=((w.alloc (.cells #[.string p.name,.slice A1 p.conds.length c1,.slice A2 p.acts.length c2] 25)).alloc (.cells #[.string q.name,.slice B1 q.conds.length d1,.slice B2 q.acts.length d2] 25)):=⟨_,rfl⟩
 rw [← hw1]
 have HB:=Lib.hid (show Below w.heap.size w w1 by rw [hw1];exact (by repeat (first | exact Below.refl _ _ | refine Below.drew ?_ | refine Below.al ?_ _ | refine Below.sc ?_ _)))
 have Ka:=Lib.hid (show Blk w1 (w.heap.size) 25 #[.string p.name,.slice A1 p.conds.length c1,.slice A2 p.acts.length c2] by rw [hw1];exact ((Blk.new w 25 #[.string p.name,.slice A1 p.conds.length c1,.slice A2 p.acts.length c2]).alloc (.cells #[.string q.name,.slice B1 q.conds.length d1,.slice B2 q.acts.length d2] 25)))
 have Kb:=Lib.hid (show Blk w1 (w.heap.size+1) 25 #[.string q.name,.slice B1 q.conds.length d1,.slice B2 q.acts.length d2] by rw [hw1];have hh:=(Blk.new (w.alloc (.cells #[.string p.name,.slice A1 p.conds.length c1,.slice A2 p.acts.length c2] 25)) 25 #[.string q.name,.slice B1 q.conds.length d1,.slice B2 q.acts.length d2]);simp only [World.size_alloc] at hh;exact hh)
 clear hw1
 obtain ⟨a0,a1,a2⟩:=Ka.out.c3
 have az:=Ka.out.lt
 obtain ⟨b0,b1,b2⟩:=Kb.out.c3
 have bz:=Kb.out.lt
 go_wp2_with fail
 with_reducible refine (heavy_is n p A1 A2 c1 c2 _ (H1.out.new_ (by (repeat (first | exact Below.refl _ _ | exact HB.out | refine Below.drew ?_ | refine Below.al ?_ _ | refine Below.sc ?_ _)))) (H2.out.new_ (by (repeat (first | exact Below.refl _ _ | exact HB.out | refine Below.drew ?_ | refine Below.al ?_ _ | refine Below.sc ?_ _))))).mono ?_
 rintro e w2 ⟨rfl,hb⟩
 have hbs:=Below.trans (show Below w1.heap.size w1 _ from (by (repeat (first | exact Below.refl _ _ | refine Below.drew ?_ | refine Below.al ?_ _ | refine Below.sc ?_ _)))) (hb.mono (by simp<;>omega))
 have Ka:=Lib.hid (Ka.out.new_ hbs)
 have Kb:=Lib.hid (Kb.out.new_ hbs)
 have HB:=Lib.hid (HB.out.trans (hbs.mono HB.out.size))
 have hsz2:=hbs.size
 clear a0 a1 a2 az b0 b1 b2 bz hb hbs
 obtain ⟨a0,a1,a2⟩:=Ka.out.c3
 have az:=Ka.out.lt
 obtain ⟨b0,b1,b2⟩:=Kb.out.c3
 have bz:=Kb.out.lt
 obtain ⟨bh,hbh⟩ : ∃b,b=heavyP n p:=⟨_,rfl⟩
 rw [← hbh]
 have HBH:=Lib.hid hbh
 clear hbh
 cases bh
 · skip
   have HNH:=Lib.hid HBH.out.symm
   have HR1:=Lib.hid (fit_of HNH.out H1.out).1
   have HF:=Lib.hid (fit_of HNH.out H1.out).2
   go_wp2_with fail
   with_reducible refine (heavy_is m q B1 B2 d1 d2 _ (G1.out.new_ (by (repeat (first | exact Below.refl _ _ | exact HB.out | refine Below.drew ?_ | refine Below.al ?_ _ | refine Below.sc ?_ _)))) (G2.out.new_ (by (repeat (first | exact Below.refl _ _ | exact HB.out | refine Below.drew ?_ | refine Below.al ?_ _ | refine Below.sc ?_ _))))).mono ?_
   rintro e w3 ⟨rfl,hb⟩
   have hbs:=Below.trans (show Below w2.heap.size w2 _ from (by (repeat (first | exact Below.refl _ _ | refine Below.drew ?_ | refine Below.al ?_ _ | refine Below.sc ?_ _)))) (hb.mono (by simp<;>omega))
   have Ka:=Lib.hid (Ka.out.new_ hbs)
   have Kb:=Lib.hid (Kb.out.new_ hbs)
   have HB:=Lib.hid (HB.out.trans (hbs.mono HB.out.size))
   have hsz3:=hbs.size
   clear a0 a1 a2 az b0 b1 b2 bz hb hbs
   obtain ⟨a0,a1,a2⟩:=Ka.out.c3
   have az:=Ka.out.lt
   obtain ⟨b0,b1,b2⟩:=Kb.out.c3
   have bz:=Kb.out.lt
   obtain ⟨ch,hch⟩ : ∃b,b=heavyP m q:=⟨_,rfl⟩
   rw [← hch]
   have HCH:=Lib.hid hch
   clear hch
   cases ch
   · skip
     have HNQ:=Lib.hid HCH.out.symm
     have GR1:=Lib.hid (fit_of HNQ.out G1.out).1
     have GF:=Lib.hid (fit_of HNQ.out G1.out).2
     obtain ⟨s,hs⟩ : ∃s,s=textC 20 p:=⟨_,rfl⟩
     obtain ⟨t,ht⟩ : ∃t,t=textC 20 q:=⟨_,rfl⟩
     have HTP:=Lib.hid (show ∀W,Below w.heap.size w W→Calls Tryz.prog 41 #[.agg #[.string p.name,.slice A1 p.conds.length c1,.slice A2 p.acts.length c2]] W fun e w'=>e = .returned (.string s)∧Below W.heap.size W w' from fun W hW=>by rw [hs];exact rtext21_is (D:=(· < w.heap.size)) 20 p A1 c1 A2 c2 W (HR1.out.new_ hW) (H2.out.new_ hW) HF.out (Nat.le_trans ((heavyP_light HNH.out).2.1 20 0) (by decide)) (by decide))
     have HTQ:=Lib.hid (show ∀W,Below w.heap.size w W→Calls Tryz.prog 41 #[.agg #[.string q.name,.slice B1 q.conds.length d1,.slice B2 q.acts.length d2]] W fun e w'=>e = .returned (.string t)∧Below W.heap.size W w' from fun W hW=>by rw [ht];exact rtext21_is (D:=(· < w.heap.size)) 20 q B1 d1 B2 d2 W (GR1.out.new_ hW) (G2.out.new_ hW) GF.out (Nat.le_trans ((heavyP_light HNQ.out).2.1 20 0) (by decide)) (by decide))
     have HS:=Lib.hid hs
     have HT:=Lib.hid ht
     clear hs ht HBH HCH
     go_upto_region 3 with fail
     have HBL:=Lib.hid HB.out.size
     refine wp_region_E (fun w9=>Below w3.heap.size w3 w9) [(0,1),(2,1),(1,2),(3,2),(4,0),(5,0)] (by kernel_rfl) (by kernel_rfl) (fun KK hKK=>?_)
     simp only [beside,List.filterMap_cons,List.filterMap_nil,List.getElem?_toArray,List.getElem?_cons_zero,List.getElem?_cons_succ,Option.map_some]
     repeat ((first | (refine wpX_w ?_ (Or.inl ⟨by rfl,fun w9=>?_⟩) ?_;rotate_left 1;go_simp;with_reducible rfl) | (refine wpX_l ?_ (((Below.refl _ _).drew)) (Or.inl ⟨by rfl,fun w9 hw9=>?_⟩) ?_;rotate_left 1;obtain ⟨hc9,hf9⟩:=bcell hw9;go_simp;with_reducible rfl) | refine wpX_w undef (Or.inr ⟨by rfl,rfl⟩) ?_ | refine wpX_l undef (((Below.refl _ _).drew)) (Or.inr ⟨by rfl,rfl⟩) ?_);go_frame)
     refine wpX_es (fun K9 hK9=>?_)
     go_simp
     refine (HTP.out _ (HB.out.trans (((Below.refl w3.heap.size w3).drew).mono HBL.out))).mono ?_
     rintro e w31 ⟨rfl,hb31⟩
     have HB31:=Lib.hid ((Below.refl w3.heap.size w3).drew.trans (hb31.mono (by simp)))
     clear hb31
     refine hK9 _ _ HB31.out ?_
     clear hK9 K9
     refine wpX_es (fun K9 hK9=>?_)
     go_simp
     refine (HTQ.out _ (HB.out.trans ((HB31.out).mono HBL.out))).mono ?_
     rintro e w32 ⟨rfl,hb32⟩
     have HB32:=Lib.hid (HB31.out.trans (hb32.mono HB31.out.size))
     clear hb32
     refine hK9 _ _ HB32.out ?_
     clear hK9 K9
     repeat ((first | (refine wpX_w ?_ (Or.inl ⟨by rfl,fun w9=>?_⟩) ?_;rotate_left 1;go_simp;with_reducible rfl) | (refine wpX_l ?_ (HB32.out) (Or.inl ⟨by rfl,fun w9 hw9=>?_⟩) ?_;rotate_left 1;obtain ⟨hc9,hf9⟩:=bcell hw9;go_simp;with_reducible rfl) | refine wpX_w undef (Or.inr ⟨by rfl,rfl⟩) ?_ | refine wpX_l undef (HB32.out) (Or.inr ⟨by rfl,rfl⟩) ?_);go_frame)
     refine wpX_nil ?_
     simp only [OnlyN_normal]
     refine hKK _ _ ?_
     clear hKK KK
     have Ka:=Lib.hid (Ka.out.new_ HB32.out)
     have Kb:=Lib.hid (Kb.out.new_ HB32.out)
     have HB:=Lib.hid (HB.out.trans (HB32.out.mono HB.out.size))
     clear HBL HTP HTQ
     clear a0 a1 a2 az b0 b1 b2 bz 
     have HBL:=Lib.hid HB.out.size
     by_cases hs:s.toList = []
     · skip
       have sa:(s.toList == [])=true:=by simp [hs]
       have sb:s.toList.isEmpty=true:=by simp [hs]
       have sc:decide (s.toList = [])=true:=by simp [hs]
       have sd:(s.toList != [])=false:=by simp [hs]
       have HC1:=Lib.hid (show ∀W,Below w.heap.size w W→Calls Tryz.prog 42 #[.agg #[.string p.name,.slice A1 p.conds.length c1,.slice A2 p.acts.length c2],.agg #[.string q.name,.slice B1 q.conds.length d1,.slice B2 q.acts.length d2]] W fun e w'=>e = .returned (.bool false)∧Below W.heap.size W w' from fun W hW=>by
        rw [show false=sameC 20 p q by rw [sameC,← HS.out,← HT.out];(by_cases ht:t.toList = []<;>simp [hs,ht])]
        exact csame_is (D:=(· < w.heap.size)) 20 p q A1 c1 A2 c2 B1 d1 B2 d2 W (fun k hk=>Nat.lt_of_lt_of_le hk hW.size) (HR1.out.new_ hW) (H2.out.new_ hW) HF.out (GR1.out.new_ hW) (G2.out.new_ hW) GF.out)
       have HC2:=Lib.hid (show ∀W,Below w.heap.size w W→Calls Tryz.prog 42 #[.agg #[.string q.name,.slice B1 q.conds.length d1,.slice B2 q.acts.length d2],.agg #[.string p.name,.slice A1 p.conds.length c1,.slice A2 p.acts.length c2]] W fun e w'=>e = .returned (.bool false)∧Below W.heap.size W w' from fun W hW=>by
        rw [show false=sameC 20 q p by rw [sameC,← HS.out,← HT.out];(by_cases ht:t.toList = []<;>simp [hs,ht])]
        exact csame_is (D:=(· < w.heap.size)) 20 q p B1 d1 B2 d2 A1 c1 A2 c2 W (fun k hk=>Nat.lt_of_lt_of_le hk hW.size) (GR1.out.new_ hW) (G2.out.new_ hW) GF.out (HR1.out.new_ hW) (H2.out.new_ hW) HF.out)
       have HC3:=Lib.hid (show ∀W,Below w.heap.size w W→Calls Tryz.prog 42 #[.agg #[.string p.name,.slice A1 p.conds.length c1,.slice A2 p.acts.length c2],.agg #[.string p.name,.slice A1 p.conds.length c1,.slice A2 p.acts.length c2]] W fun e w'=>e = .returned (.bool false)∧Below W.heap.size W w' from fun W hW=>by
        rw [show false=sameC 20 p p by rw [sameC,← HS.out];(by_cases ht:t.toList = []<;>simp [hs,ht])]
        exact csame_is (D:=(· < w.heap.size)) 20 p p A1 c1 A2 c2 A1 c1 A2 c2 W (fun k hk=>Nat.lt_of_lt_of_le hk hW.size) (HR1.out.new_ hW) (H2.out.new_ hW) HF.out (HR1.out.new_ hW) (H2.out.new_ hW) HF.out)
       clear HS HT hs
       obtain ⟨a0,a1,a2⟩:=Ka.out.c3
       have az:=Ka.out.lt
       obtain ⟨b0,b1,b2⟩:=Kb.out.c3
       have bz:=Kb.out.lt
       go_upto_region 4 with fail
       refine wp_region_E (fun w9=>Below w32.heap.size w32 w9) [(0,1),(1,1),(3,0),(4,0),(2,2),(5,0),(6,0),(7,0),(8,0),(9,0),(10,0),(11,0),(12,1),(13,1),(15,1),(16,1),(14,2),(17,2),(18,0),(19,0),(20,0),(21,1),(22,1),(24,0),(25,0),(23,2),(26,0),(27,0),(28,0),(29,2),(30,0),(31,0)] (by kernel_rfl) (by kernel_rfl) (fun KK hKK=>?_)
       simp only [beside,List.filterMap_cons,List.filterMap_nil,List.getElem?_toArray,List.getElem?_cons_zero,List.getElem?_cons_succ,Option.map_some]
       repeat ((first | (refine wpX_w ?_ (Or.inl ⟨by rfl,fun w9=>?_⟩) ?_;rotate_left 1;go_simp;with_reducible rfl) | (refine wpX_l ?_ (((Below.refl _ _).drew)) (Or.inl ⟨by rfl,fun w9 hw9=>?_⟩) ?_;rotate_left 1;obtain ⟨hc9,hf9⟩:=bcell hw9;go_simp;with_reducible rfl) | refine wpX_w undef (Or.inr ⟨by rfl,rfl⟩) ?_ | refine wpX_l undef (((Below.refl _ _).drew)) (Or.inr ⟨by rfl,rfl⟩) ?_);go_frame)
       refine wpX_es (fun K9 hK9=>?_)
       go_simp
       refine (HC1.out _ (HB.out.trans (((Below.refl w32.heap.size w32).drew).mono HBL.out))).mono ?_
       rintro e w41 ⟨rfl,hb41⟩
       have HB41:=Lib.hid ((Below.refl w32.heap.size w32).drew.trans (hb41.mono (by simp)))
       clear hb41
       refine hK9 _ _ HB41.out ?_
       clear hK9 K9
       repeat ((first | (refine wpX_w ?_ (Or.inl ⟨by rfl,fun w9=>?_⟩) ?_;rotate_left 1;go_simp;with_reducible rfl) | (refine wpX_l ?_ (HB41.out) (Or.inl ⟨by rfl,fun w9 hw9=>?_⟩) ?_;rotate_left 1;obtain ⟨hc9,hf9⟩:=bcell hw9;go_simp;with_reducible rfl) | refine wpX_w undef (Or.inr ⟨by rfl,rfl⟩) ?_ | refine wpX_l undef (HB41.out) (Or.inr ⟨by rfl,rfl⟩) ?_);go_frame)
       refine wpX_es (fun K9 hK9=>?_)
       go_simp
       refine (HC2.out _ (HB.out.trans ((HB41.out).mono HBL.out))).mono ?_
       rintro e w42 ⟨rfl,hb42⟩
       have HB42:=Lib.hid (HB41.out.trans (hb42.mono HB41.out.size))
       clear hb42
       refine hK9 _ _ HB42.out ?_
       clear hK9 K9
       refine wpX_es (fun K9 hK9=>?_)
       go_simp
       refine (HC1.out _ (HB.out.trans ((HB42.out).mono HBL.out))).mono ?_
       rintro e w43 ⟨rfl,hb43⟩
       have HB43:=Lib.hid (HB42.out.trans (hb43.mono HB42.out.size))
       clear hb43
       refine hK9 _ _ HB43.out ?_
       clear hK9 K9
       repeat ((first | (refine wpX_w ?_ (Or.inl ⟨by rfl,fun w9=>?_⟩) ?_;rotate_left 1;go_simp;with_reducible rfl) | (refine wpX_l ?_ (HB43.out) (Or.inl ⟨by rfl,fun w9 hw9=>?_⟩) ?_;rotate_left 1;obtain ⟨hc9,hf9⟩:=bcell hw9;go_simp;with_reducible rfl) | refine wpX_w undef (Or.inr ⟨by rfl,rfl⟩) ?_ | refine wpX_l undef (HB43.out) (Or.inr ⟨by rfl,rfl⟩) ?_);go_frame)
       refine wpX_es (fun K9 hK9=>?_)
       go_simp
       refine (HC3.out _ (HB.out.trans ((HB43.out).mono HBL.out))).mono ?_
       rintro e w44 ⟨rfl,hb44⟩
       have HB44:=Lib.hid (HB43.out.trans (hb44.mono HB43.out.size))
       clear hb44
       refine hK9 _ _ HB44.out ?_
       clear hK9 K9
       repeat ((first | (refine wpX_w ?_ (Or.inl ⟨by rfl,fun w9=>?_⟩) ?_;rotate_left 1;go_simp;with_reducible rfl) | (refine wpX_l ?_ (HB44.out) (Or.inl ⟨by rfl,fun w9 hw9=>?_⟩) ?_;rotate_left 1;obtain ⟨hc9,hf9⟩:=bcell hw9;go_simp;with_reducible rfl) | refine wpX_w undef (Or.inr ⟨by rfl,rfl⟩) ?_ | refine wpX_l undef (HB44.out) (Or.inr ⟨by rfl,rfl⟩) ?_);go_frame)
       refine wpX_es (fun K9 hK9=>?_)
       go_simp
       refine (wakes23_is _).mono ?_
       rintro e w45 ⟨rfl,hb45⟩
       have HB45:=Lib.hid (HB44.out.trans (hb45.mono HB44.out.size))
       clear hb45
       refine hK9 _ _ HB45.out ?_
       clear hK9 K9
       repeat ((first | (refine wpX_w ?_ (Or.inl ⟨by rfl,fun w9=>?_⟩) ?_;rotate_left 1;go_simp;with_reducible rfl) | (refine wpX_l ?_ (HB45.out) (Or.inl ⟨by rfl,fun w9 hw9=>?_⟩) ?_;rotate_left 1;obtain ⟨hc9,hf9⟩:=bcell hw9;go_simp;with_reducible rfl) | refine wpX_w undef (Or.inr ⟨by rfl,rfl⟩) ?_ | refine wpX_l undef (HB45.out) (Or.inr ⟨by rfl,rfl⟩) ?_);go_frame)
       refine wpX_nil ?_
       simp only [OnlyN_normal]
       refine hKK _ _ ?_
       clear hKK KK
       go_wp2_with fail
       go_ret
       exact ⟨rfl,HB.out.trans (HB45.out.mono HB.out.size)⟩
     · skip
       have sa:(s.toList == [])=false:=by simp [hs]
       have sb:s.toList.isEmpty=false:=by simp [hs]
       have sc:decide (s.toList = [])=false:=by simp [hs]
       have sd:(s.toList != [])=true:=by simp [hs]
       by_cases hq:s.toList=t.toList
       · skip
         have qa:(s.toList == t.toList)=true:=by simp [hq]
         have qb:decide (s.toList=t.toList)=true:=by simp [hq]
         have HC1:=Lib.hid (show ∀W,Below w.heap.size w W→Calls Tryz.prog 42 #[.agg #[.string p.name,.slice A1 p.conds.length c1,.slice A2 p.acts.length c2],.agg #[.string q.name,.slice B1 q.conds.length d1,.slice B2 q.acts.length d2]] W fun e w'=>e = .returned (.bool true)∧Below W.heap.size W w' from fun W hW=>by
          rw [show true=sameC 20 p q by rw [sameC,← HS.out,← HT.out];simp [hs,← hq]]
          exact csame_is (D:=(· < w.heap.size)) 20 p q A1 c1 A2 c2 B1 d1 B2 d2 W (fun k hk=>Nat.lt_of_lt_of_le hk hW.size) (HR1.out.new_ hW) (H2.out.new_ hW) HF.out (GR1.out.new_ hW) (G2.out.new_ hW) GF.out)
         have HC2:=Lib.hid (show ∀W,Below w.heap.size w W→Calls Tryz.prog 42 #[.agg #[.string q.name,.slice B1 q.conds.length d1,.slice B2 q.acts.length d2],.agg #[.string p.name,.slice A1 p.conds.length c1,.slice A2 p.acts.length c2]] W fun e w'=>e = .returned (.bool true)∧Below W.heap.size W w' from fun W hW=>by
          rw [show true=sameC 20 q p by rw [sameC,← HS.out,← HT.out];simp [hs,← hq]]
          exact csame_is (D:=(· < w.heap.size)) 20 q p B1 d1 B2 d2 A1 c1 A2 c2 W (fun k hk=>Nat.lt_of_lt_of_le hk hW.size) (GR1.out.new_ hW) (G2.out.new_ hW) GF.out (HR1.out.new_ hW) (H2.out.new_ hW) HF.out)
         have HC3:=Lib.hid (show ∀W,Below w.heap.size w W→Calls Tryz.prog 42 #[.agg #[.string p.name,.slice A1 p.conds.length c1,.slice A2 p.acts.length c2],.agg #[.string p.name,.slice A1 p.conds.length c1,.slice A2 p.acts.length c2]] W fun e w'=>e = .returned (.bool true)∧Below W.heap.size W w' from fun W hW=>by
          rw [show true=sameC 20 p p by rw [sameC,← HS.out];simp [hs,← hq]]
          exact csame_is (D:=(· < w.heap.size)) 20 p p A1 c1 A2 c2 A1 c1 A2 c2 W (fun k hk=>Nat.lt_of_lt_of_le hk hW.size) (HR1.out.new_ hW) (H2.out.new_ hW) HF.out (HR1.out.new_ hW) (H2.out.new_ hW) HF.out)
         clear HS HT hs hq
         obtain ⟨a0,a1,a2⟩:=Ka.out.c3
         have az:=Ka.out.lt
         obtain ⟨b0,b1,b2⟩:=Kb.out.c3
         have bz:=Kb.out.lt
         go_upto_region 4 with fail
         refine wp_region_E (fun w9=>Below w32.heap.size w32 w9) [(0,1),(1,1),(3,0),(4,0),(2,2),(5,0),(6,0),(7,0),(8,0),(9,0),(10,0),(11,0),(12,1),(13,1),(15,1),(16,1),(14,2),(17,2),(18,0),(19,0),(20,0),(21,1),(22,1),(24,0),(25,0),(23,2),(26,0),(27,0),(28,0),(29,2),(30,0),(31,0)] (by kernel_rfl) (by kernel_rfl) (fun KK hKK=>?_)
         simp only [beside,List.filterMap_cons,List.filterMap_nil,List.getElem?_toArray,List.getElem?_cons_zero,List.getElem?_cons_succ,Option.map_some]
         repeat ((first | (refine wpX_w ?_ (Or.inl ⟨by rfl,fun w9=>?_⟩) ?_;rotate_left 1;go_simp;with_reducible rfl) | (refine wpX_l ?_ (((Below.refl _ _).drew)) (Or.inl ⟨by rfl,fun w9 hw9=>?_⟩) ?_;rotate_left 1;obtain ⟨hc9,hf9⟩:=bcell hw9;go_simp;with_reducible rfl) | refine wpX_w undef (Or.inr ⟨by rfl,rfl⟩) ?_ | refine wpX_l undef (((Below.refl _ _).drew)) (Or.inr ⟨by rfl,rfl⟩) ?_);go_frame)
         refine wpX_es (fun K9 hK9=>?_)
         go_simp
         refine (HC1.out _ (HB.out.trans (((Below.refl w32.heap.size w32).drew).mono HBL.out))).mono ?_
         rintro e w41 ⟨rfl,hb41⟩
         have HB41:=Lib.hid ((Below.refl w32.heap.size w32).drew.trans (hb41.mono (by simp)))
         clear hb41
         refine hK9 _ _ HB41.out ?_
         clear hK9 K9
         repeat ((first | (refine wpX_w ?_ (Or.inl ⟨by rfl,fun w9=>?_⟩) ?_;rotate_left 1;go_simp;with_reducible rfl) | (refine wpX_l ?_ (HB41.out) (Or.inl ⟨by rfl,fun w9 hw9=>?_⟩) ?_;rotate_left 1;obtain ⟨hc9,hf9⟩:=bcell hw9;go_simp;with_reducible rfl) | refine wpX_w undef (Or.inr ⟨by rfl,rfl⟩) ?_ | refine wpX_l undef (HB41.out) (Or.inr ⟨by rfl,rfl⟩) ?_);go_frame)
         refine wpX_es (fun K9 hK9=>?_)
         go_simp
         refine (HC2.out _ (HB.out.trans ((HB41.out).mono HBL.out))).mono ?_
         rintro e w42 ⟨rfl,hb42⟩
         have HB42:=Lib.hid (HB41.out.trans (hb42.mono HB41.out.size))
         clear hb42
         refine hK9 _ _ HB42.out ?_
         clear hK9 K9
         refine wpX_es (fun K9 hK9=>?_)
         go_simp
         refine (HC1.out _ (HB.out.trans ((HB42.out).mono HBL.out))).mono ?_
         rintro e w43 ⟨rfl,hb43⟩
         have HB43:=Lib.hid (HB42.out.trans (hb43.mono HB42.out.size))
         clear hb43
         refine hK9 _ _ HB43.out ?_
         clear hK9 K9
         repeat ((first | (refine wpX_w ?_ (Or.inl ⟨by rfl,fun w9=>?_⟩) ?_;rotate_left 1;go_simp;with_reducible rfl) | (refine wpX_l ?_ (HB43.out) (Or.inl ⟨by rfl,fun w9 hw9=>?_⟩) ?_;rotate_left 1;obtain ⟨hc9,hf9⟩:=bcell hw9;go_simp;with_reducible rfl) | refine wpX_w undef (Or.inr ⟨by rfl,rfl⟩) ?_ | refine wpX_l undef (HB43.out) (Or.inr ⟨by rfl,rfl⟩) ?_);go_frame)
         refine wpX_es (fun K9 hK9=>?_)
         go_simp
         refine (HC3.out _ (HB.out.trans ((HB43.out).mono HBL.out))).mono ?_
         rintro e w44 ⟨rfl,hb44⟩
         have HB44:=Lib.hid (HB43.out.trans (hb44.mono HB43.out.size))
         clear hb44
         refine hK9 _ _ HB44.out ?_
         clear hK9 K9
         repeat ((first | (refine wpX_w ?_ (Or.inl ⟨by rfl,fun w9=>?_⟩) ?_;rotate_left 1;go_simp;with_reducible rfl) | (refine wpX_l ?_ (HB44.out) (Or.inl ⟨by rfl,fun w9 hw9=>?_⟩) ?_;rotate_left 1;obtain ⟨hc9,hf9⟩:=bcell hw9;go_simp;with_reducible rfl) | refine wpX_w undef (Or.inr ⟨by rfl,rfl⟩) ?_ | refine wpX_l undef (HB44.out) (Or.inr ⟨by rfl,rfl⟩) ?_);go_frame)
         refine wpX_es (fun K9 hK9=>?_)
         go_simp
         refine (wakes23_is _).mono ?_
         rintro e w45 ⟨rfl,hb45⟩
         have HB45:=Lib.hid (HB44.out.trans (hb45.mono HB44.out.size))
         clear hb45
         refine hK9 _ _ HB45.out ?_
         clear hK9 K9
         repeat ((first | (refine wpX_w ?_ (Or.inl ⟨by rfl,fun w9=>?_⟩) ?_;rotate_left 1;go_simp;with_reducible rfl) | (refine wpX_l ?_ (HB45.out) (Or.inl ⟨by rfl,fun w9 hw9=>?_⟩) ?_;rotate_left 1;obtain ⟨hc9,hf9⟩:=bcell hw9;go_simp;with_reducible rfl) | refine wpX_w undef (Or.inr ⟨by rfl,rfl⟩) ?_ | refine wpX_l undef (HB45.out) (Or.inr ⟨by rfl,rfl⟩) ?_);go_frame)
         refine wpX_nil ?_
         simp only [OnlyN_normal]
         refine hKK _ _ ?_
         clear hKK KK
         go_wp2_with fail
         go_ret
         exact ⟨rfl,HB.out.trans (HB45.out.mono HB.out.size)⟩
       · skip
         have qa:(s.toList == t.toList)=false:=by simp [hq]
         have qb:decide (s.toList=t.toList)=false:=by simp [hq]
         have HC1:=Lib.hid (show ∀W,Below w.heap.size w W→Calls Tryz.prog 42 #[.agg #[.string p.name,.slice A1 p.conds.length c1,.slice A2 p.acts.length c2],.agg #[.string q.name,.slice B1 q.conds.length d1,.slice B2 q.acts.length d2]] W fun e w'=>e = .returned (.bool false)∧Below W.heap.size W w' from fun W hW=>by
          rw [show false=sameC 20 p q by rw [sameC,← HS.out,← HT.out];simp [hs,hq,Ne.symm hq]]
          exact csame_is (D:=(· < w.heap.size)) 20 p q A1 c1 A2 c2 B1 d1 B2 d2 W (fun k hk=>Nat.lt_of_lt_of_le hk hW.size) (HR1.out.new_ hW) (H2.out.new_ hW) HF.out (GR1.out.new_ hW) (G2.out.new_ hW) GF.out)
         have HC2:=Lib.hid (show ∀W,Below w.heap.size w W→Calls Tryz.prog 42 #[.agg #[.string q.name,.slice B1 q.conds.length d1,.slice B2 q.acts.length d2],.agg #[.string p.name,.slice A1 p.conds.length c1,.slice A2 p.acts.length c2]] W fun e w'=>e = .returned (.bool false)∧Below W.heap.size W w' from fun W hW=>by
          rw [show false=sameC 20 q p by rw [sameC,← HS.out,← HT.out];simp [hs,hq,Ne.symm hq]]
          exact csame_is (D:=(· < w.heap.size)) 20 q p B1 d1 B2 d2 A1 c1 A2 c2 W (fun k hk=>Nat.lt_of_lt_of_le hk hW.size) (GR1.out.new_ hW) (G2.out.new_ hW) GF.out (HR1.out.new_ hW) (H2.out.new_ hW) HF.out)
         have HC3:=Lib.hid (show ∀W,Below w.heap.size w W→Calls Tryz.prog 42 #[.agg #[.string p.name,.slice A1 p.conds.length c1,.slice A2 p.acts.length c2],.agg #[.string p.name,.slice A1 p.conds.length c1,.slice A2 p.acts.length c2]] W fun e w'=>e = .returned (.bool true)∧Below W.heap.size W w' from fun W hW=>by
          rw [show true=sameC 20 p p by rw [sameC,← HS.out];simp [hs,hq,Ne.symm hq]]
          exact csame_is (D:=(· < w.heap.size)) 20 p p A1 c1 A2 c2 A1 c1 A2 c2 W (fun k hk=>Nat.lt_of_lt_of_le hk hW.size) (HR1.out.new_ hW) (H2.out.new_ hW) HF.out (HR1.out.new_ hW) (H2.out.new_ hW) HF.out)
         clear HS HT hs hq
         obtain ⟨a0,a1,a2⟩:=Ka.out.c3
         have az:=Ka.out.lt
         obtain ⟨b0,b1,b2⟩:=Kb.out.c3
         have bz:=Kb.out.lt
         go_upto_region 4 with fail
         refine wp_region_E (fun w9=>Below w32.heap.size w32 w9) [(0,1),(1,1),(3,0),(4,0),(2,2),(5,0),(6,0),(7,0),(8,0),(9,0),(10,0),(11,0),(12,1),(13,1),(15,1),(16,1),(14,2),(17,2),(18,0),(19,0),(20,0),(21,1),(22,1),(24,0),(25,0),(23,2),(26,0),(27,0),(28,0),(29,2),(30,0),(31,0)] (by kernel_rfl) (by kernel_rfl) (fun KK hKK=>?_)
         simp only [beside,List.filterMap_cons,List.filterMap_nil,List.getElem?_toArray,List.getElem?_cons_zero,List.getElem?_cons_succ,Option.map_some]
         repeat ((first | (refine wpX_w ?_ (Or.inl ⟨by rfl,fun w9=>?_⟩) ?_;rotate_left 1;go_simp;with_reducible rfl) | (refine wpX_l ?_ (((Below.refl _ _).drew)) (Or.inl ⟨by rfl,fun w9 hw9=>?_⟩) ?_;rotate_left 1;obtain ⟨hc9,hf9⟩:=bcell hw9;go_simp;with_reducible rfl) | refine wpX_w undef (Or.inr ⟨by rfl,rfl⟩) ?_ | refine wpX_l undef (((Below.refl _ _).drew)) (Or.inr ⟨by rfl,rfl⟩) ?_);go_frame)
         refine wpX_es (fun K9 hK9=>?_)
         go_simp
         refine (HC1.out _ (HB.out.trans (((Below.refl w32.heap.size w32).drew).mono HBL.out))).mono ?_
         rintro e w41 ⟨rfl,hb41⟩
         have HB41:=Lib.hid ((Below.refl w32.heap.size w32).drew.trans (hb41.mono (by simp)))
         clear hb41
         refine hK9 _ _ HB41.out ?_
         clear hK9 K9
         repeat ((first | (refine wpX_w ?_ (Or.inl ⟨by rfl,fun w9=>?_⟩) ?_;rotate_left 1;go_simp;with_reducible rfl) | (refine wpX_l ?_ (HB41.out) (Or.inl ⟨by rfl,fun w9 hw9=>?_⟩) ?_;rotate_left 1;obtain ⟨hc9,hf9⟩:=bcell hw9;go_simp;with_reducible rfl) | refine wpX_w undef (Or.inr ⟨by rfl,rfl⟩) ?_ | refine wpX_l undef (HB41.out) (Or.inr ⟨by rfl,rfl⟩) ?_);go_frame)
         refine wpX_es (fun K9 hK9=>?_)
         go_simp
         refine (HC2.out _ (HB.out.trans ((HB41.out).mono HBL.out))).mono ?_
         rintro e w42 ⟨rfl,hb42⟩
         have HB42:=Lib.hid (HB41.out.trans (hb42.mono HB41.out.size))
         clear hb42
         refine hK9 _ _ HB42.out ?_
         clear hK9 K9
         refine wpX_es (fun K9 hK9=>?_)
         go_simp
         refine (HC1.out _ (HB.out.trans ((HB42.out).mono HBL.out))).mono ?_
         rintro e w43 ⟨rfl,hb43⟩
         have HB43:=Lib.hid (HB42.out.trans (hb43.mono HB42.out.size))
         clear hb43
         refine hK9 _ _ HB43.out ?_
         clear hK9 K9
         repeat ((first | (refine wpX_w ?_ (Or.inl ⟨by rfl,fun w9=>?_⟩) ?_;rotate_left 1;go_simp;with_reducible rfl) | (refine wpX_l ?_ (HB43.out) (Or.inl ⟨by rfl,fun w9 hw9=>?_⟩) ?_;rotate_left 1;obtain ⟨hc9,hf9⟩:=bcell hw9;go_simp;with_reducible rfl) | refine wpX_w undef (Or.inr ⟨by rfl,rfl⟩) ?_ | refine wpX_l undef (HB43.out) (Or.inr ⟨by rfl,rfl⟩) ?_);go_frame)
         refine wpX_es (fun K9 hK9=>?_)
         go_simp
         refine (HC3.out _ (HB.out.trans ((HB43.out).mono HBL.out))).mono ?_
         rintro e w44 ⟨rfl,hb44⟩
         have HB44:=Lib.hid (HB43.out.trans (hb44.mono HB43.out.size))
         clear hb44
         refine hK9 _ _ HB44.out ?_
         clear hK9 K9
         repeat ((first | (refine wpX_w ?_ (Or.inl ⟨by rfl,fun w9=>?_⟩) ?_;rotate_left 1;go_simp;with_reducible rfl) | (refine wpX_l ?_ (HB44.out) (Or.inl ⟨by rfl,fun w9 hw9=>?_⟩) ?_;rotate_left 1;obtain ⟨hc9,hf9⟩:=bcell hw9;go_simp;with_reducible rfl) | refine wpX_w undef (Or.inr ⟨by rfl,rfl⟩) ?_ | refine wpX_l undef (HB44.out) (Or.inr ⟨by rfl,rfl⟩) ?_);go_frame)
         refine wpX_es (fun K9 hK9=>?_)
         go_simp
         refine (wakes23_is _).mono ?_
         rintro e w45 ⟨rfl,hb45⟩
         have HB45:=Lib.hid (HB44.out.trans (hb45.mono HB44.out.size))
         clear hb45
         refine hK9 _ _ HB45.out ?_
         clear hK9 K9
         repeat ((first | (refine wpX_w ?_ (Or.inl ⟨by rfl,fun w9=>?_⟩) ?_;rotate_left 1;go_simp;with_reducible rfl) | (refine wpX_l ?_ (HB45.out) (Or.inl ⟨by rfl,fun w9 hw9=>?_⟩) ?_;rotate_left 1;obtain ⟨hc9,hf9⟩:=bcell hw9;go_simp;with_reducible rfl) | refine wpX_w undef (Or.inr ⟨by rfl,rfl⟩) ?_ | refine wpX_l undef (HB45.out) (Or.inr ⟨by rfl,rfl⟩) ?_);go_frame)
         refine wpX_nil ?_
         simp only [OnlyN_normal]
         refine hKK _ _ ?_
         clear hKK KK
         go_wp2_with fail
         go_ret
         exact ⟨rfl,HB.out.trans (HB45.out.mono HB.out.size)⟩
   · skip
     go_wp2_with fail
     with_reducible refine (wakes23_is _).mono ?_
     rintro e w4 ⟨rfl,hb⟩
     have hbs:=Below.trans (show Below w3.heap.size w3 _ from (by (repeat (first | exact Below.refl _ _ | refine Below.drew ?_ | refine Below.al ?_ _ | refine Below.sc ?_ _)))) (hb.mono (by simp<;>omega))
     have Ka:=Lib.hid (Ka.out.new_ hbs)
     have Kb:=Lib.hid (Kb.out.new_ hbs)
     have HB:=Lib.hid (HB.out.trans (hbs.mono HB.out.size))
     have hsz4:=hbs.size
     clear a0 a1 a2 az b0 b1 b2 bz hb hbs
     obtain ⟨a0,a1,a2⟩:=Ka.out.c3
     have az:=Ka.out.lt
     obtain ⟨b0,b1,b2⟩:=Kb.out.c3
     have bz:=Kb.out.lt
     go_wp2_with fail
     go_ret
     exact ⟨rfl,by (repeat (first | exact Below.refl _ _ | exact HB.out | refine Below.drew ?_ | refine Below.al ?_ _ | refine Below.sc ?_ _))⟩
 · skip
   go_wp2_with fail
   with_reducible refine (wakes23_is _).mono ?_
   rintro e w3 ⟨rfl,hb⟩
   have hbs:=Below.trans (show Below w2.heap.size w2 _ from (by (repeat (first | exact Below.refl _ _ | refine Below.drew ?_ | refine Below.al ?_ _ | refine Below.sc ?_ _)))) (hb.mono (by simp<;>omega))
   have Ka:=Lib.hid (Ka.out.new_ hbs)
   have Kb:=Lib.hid (Kb.out.new_ hbs)
   have HB:=Lib.hid (HB.out.trans (hbs.mono HB.out.size))
   have hsz3:=hbs.size
   clear a0 a1 a2 az b0 b1 b2 bz hb hbs
   obtain ⟨a0,a1,a2⟩:=Ka.out.c3
   have az:=Ka.out.lt
   obtain ⟨b0,b1,b2⟩:=Kb.out.c3
   have bz:=Kb.out.lt
   go_wp2_with fail
   go_ret
   exact ⟨rfl,by (repeat (first | exact Below.refl _ _ | exact HB.out | refine Below.drew ?_ | refine Below.al ?_ _ | refine Below.sc ?_ _))⟩
end Go.Proofs.YtffemfglngikbaaGreat
