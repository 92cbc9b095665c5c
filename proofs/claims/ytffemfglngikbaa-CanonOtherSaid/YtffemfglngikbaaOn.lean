/-
  Texts put together: LawOtherC.
-/
import Derived.Test.YtffemfglngikbaaOl
import Derived.Test.YtffemfglngikbaaOj
import Derived.Test.YtffemfglngikbaaOm
import Derived.IntWalk
import Derived.Maps.RangeWalk
namespace Go.Proofs.Ytffemfglngikbaa
open Go.RowKit Go.Shelf
set_option linter.unusedSimpArgs false
theorem dec_step {x:ByteArray} {l:List ByteArray} {k:Nat} (h:k<l.length):decide (x∈l.take (k+1))=(decide (x∈l.take k) || decide (l[k]=x)):=by
 rw [List.take_add_one,List.getElem?_eq_getElem h]
 simp only [Option.toList_some,List.mem_append,List.mem_singleton,Bool.decide_or]
 congr 1
 exact decide_eq_decide.2 ⟨fun e=>e.symm,fun e=>e.symm⟩
theorem merge_fit {n:Nat} {p:ProdT} {x y:ByteArray} (h:Fit n p) (hy:y∈varsP n p):Fit n (prodR (mergeT x y) n p):=by
 refine ⟨?_,?_,fun z hz=>?_,?_,?_,h.nn,fun z hz=>?_⟩
 · show (p.conds.map _).length≤1000;rw [List.length_map];exact h.c
 · show (p.acts.map _).length≤1000;rw [List.length_map];exact h.a
 · obtain ⟨u,hu,rfl⟩:=List.mem_map.1 (show z∈p.conds.map _ from hz)
   exact smc_R _ n u (h.s u hu)
 · rw [show varsP n (prodR (mergeT x y) n p)=(varsP n p).map (mergeT x y) from ren_vars n p p.name (fun v hv=>by
    unfold mergeT
    split
    · exact vars_no hy
    · exact vars_no hv),List.length_map];exact h.v
 · show (flatC n 0 (p.conds.map _)).length≤1000000000;rw [flat_condR];exact h.f
 · obtain ⟨u,hu,rfl⟩:=List.mem_map.1 (show z∈p.conds.map _ from hz)
   exact dp_condR _ n u (h.d u hu)
theorem conds_some {n:Nat} {p:ProdT} (h:(shapeP n p).2=0) : ∃c cs,p.conds=c :: cs:=by
 obtain ⟨_,_,h1,_⟩:=shapeP_ok h
 cases hp:p.conds with
 | nil=>rw [hp] at h1;cases n<;>simp [flatC] at h1
 | cons c cs=>exact ⟨c,cs,rfl⟩
theorem acts_some {n:Nat} {p:ProdT} (h:(shapeP n p).2=0) : ∃a az,p.acts=a :: az∧1≤a.pref∧a.pref≤10∧¬a.id.toList = []:=by
 obtain ⟨_,_,_,_,h1,_,h2⟩:=shapeP_ok h
 cases hp:p.acts with
 | nil=>rw [hp] at h1;simp at h1
 | cons a az=>
   have ha:=h2 a (by rw [hp];simp)
   obtain ⟨_,g1,g2,_⟩:=actB_parts ha
   refine ⟨a,az,rfl,g1,g2,fun e=>?_⟩
   unfold actB at ha
   split at ha
   · cases ha
   · rename_i hh
     simp only [not_or] at hh
     have hw:isWord a.id=true:=by simpa using hh.1
     obtain ⟨h0,_⟩:=isWord_iff.1 hw
     rw [ByteArray.toList_eq] at e
     have h3:a.id.data.toList.length=a.id.size:=Array.length_toList
     rw [e,List.length_nil] at h3
     omega
theorem pref_vars {n:Nat} {p:ProdT} {a:ActT} {az:List ActT} (h:p.acts=a :: az) (k:Int):varsP n ⟨p.name,p.conds,{ a with pref:=k } :: az⟩=varsP n p:=by
 show _++({ a with pref:=k } :: az).flatMap varsA=_++p.acts.flatMap varsA
 rw [h]
 rfl
theorem prod_eta {p:ProdT} {c:CondT} {cs:List CondT} {a:ActT} {az:List ActT} (h1:p.conds=c :: cs) (h2:p.acts=a :: az):p=⟨p.name,c :: cs,a :: az⟩:=by cases p;simp_all
set_option maxRecDepth 100000 in
set_option maxHeartbeats 16000000 in
theorem otherc_walk (n:Nat) (p:ProdT) (A1:Option Addr) (c1:Nat) (A2:Option Addr) (c2:Nat) (va vb vw:Int) (w:World) (h1:RowR (repCondT n) (· < w.heap.size) w A1 c1 p.conds) (h2:RowR repActT (· < w.heap.size) w A2 c2 p.acts) :
 Calls Try.prog 6 #[.agg #[.string p.name,.slice A1 p.conds.length c1,.slice A2 p.acts.length c2],.int .i64 va,.int .i64 vb,.int .i64 vw] w fun e w'=>e = .returned (.bool true)∧Below w.heap.size w w':=by
 obtain ⟨i0,hi0,hz0,hz1,hz2⟩:=info_parts info_Str
 obtain ⟨j0,hj0,hy0,hy1,hy2⟩:=infp inf_Act
 have H1:=Lib.hid h1
 have H2:=Lib.hid h2
 clear h1 h2
 go_enter Try.func6,Try.ntmps6
 go_upto_region 1 with fail
 obtain ⟨w1,hw1⟩ : ∃w1,w1=(w.alloc (.cells #[.string p.name,.slice A1 p.conds.length c1,.slice A2 p.acts.length c2] 25)):=⟨_,rfl⟩
 rw [← hw1]
 have HB:=Lib.hid (show Below w.heap.size w w1 by rw [hw1];exact (by repeat (first | exact Below.refl _ _ | refine Below.drew ?_ | refine Below.al ?_ _ | refine Below.sc ?_ _)))
 have Ko:=Lib.hid (show Blk w1 (w.heap.size) 25 #[.string p.name,.slice A1 p.conds.length c1,.slice A2 p.acts.length c2] by rw [hw1];exact (Blk.new w 25 #[.string p.name,.slice A1 p.conds.length c1,.slice A2 p.acts.length c2]))
 clear hw1
 obtain ⟨o0,o1,o2⟩:=Ko.out.c3
 have oz:=Ko.out.lt
 go_wp2_with fail
 with_reducible refine (heavy_is n p A1 A2 c1 c2 _ (H1.out.new_ (by (repeat (first | exact Below.refl _ _ | exact HB.out | refine Below.drew ?_ | refine Below.al ?_ _ | refine Below.sc ?_ _)))) (H2.out.new_ (by (repeat (first | exact Below.refl _ _ | exact HB.out | refine Below.drew ?_ | refine Below.al ?_ _ | refine Below.sc ?_ _))))).mono ?_
 rintro e w2 ⟨rfl,hb⟩
 have hbs:=Below.trans (show Below w1.heap.size w1 _ from (by (repeat (first | exact Below.refl _ _ | refine Below.drew ?_ | refine Below.al ?_ _ | refine Below.sc ?_ _)))) (hb.mono (by simp<;>omega))
 have Ko:=Lib.hid (Ko.out.new_ hbs)
 have HB:=Lib.hid (HB.out.trans (hbs.mono HB.out.size))
 have hsz2:=hbs.size
 clear o0 o1 o2 oz hb hbs
 obtain ⟨o0,o1,o2⟩:=Ko.out.c3
 have oz:=Ko.out.lt
 obtain ⟨bh,hbh⟩ : ∃b,b=heavyP n p:=⟨_,rfl⟩
 rw [← hbh]
 have HBH:=Lib.hid hbh
 clear hbh
 cases bh
 · skip
   have HNH:=Lib.hid HBH.out.symm
   have HR1:=Lib.hid (fit_of HNH.out H1.out).1
   have HF:=Lib.hid (fit_of HNH.out H1.out).2
   have hfp:(flatC 20 0 p.conds).length≤40:=(heavyP_light HNH.out).2.1 20 0
   obtain ⟨y1,hy1⟩ : ∃z,z=(shapeP 20 p).1:=⟨_,rfl⟩
   obtain ⟨y,hyy0⟩ : ∃z,z=(shapeP 20 p).2:=⟨_,rfl⟩
   have HSP:=Lib.hid (show ∀(W:World),Below w.heap.size w W→Calls Try.prog 22 #[.agg #[.string p.name,.slice A1 p.conds.length c1,.slice A2 p.acts.length c2]] W fun e w'=>e = .returned (.tuple #[.int .i64 y1,.int .i64 y])∧Below W.heap.size W w' from fun W hW=>by
    rw [hy1,hyy0]
    exact rshape_is p 20 A1 A2 c1 c2 W (HR1.out.new_ hW) (H2.out.new_ hW) (by omega) (by decide))
   have HY:=Lib.hid hyy0
   clear hfp hy1 hyy0 HBH
   go_wp2_with fail
   with_reducible refine (HSP.out _ (by (repeat (first | exact Below.refl _ _ | exact HB.out | refine Below.drew ?_ | refine Below.al ?_ _ | refine Below.sc ?_ _)))).mono ?_
   rintro e w3 ⟨rfl,hb⟩
   have hbs:=Below.trans (show Below w2.heap.size w2 _ from (by (repeat (first | exact Below.refl _ _ | refine Below.drew ?_ | refine Below.al ?_ _ | refine Below.sc ?_ _)))) (hb.mono (by simp<;>omega))
   have Ko:=Lib.hid (Ko.out.new_ hbs)
   have HB:=Lib.hid (HB.out.trans (hbs.mono HB.out.size))
   have hsz3:=hbs.size
   clear o0 o1 o2 oz hb hbs
   obtain ⟨o0,o1,o2⟩:=Ko.out.c3
   have oz:=Ko.out.lt
   by_cases hyy:y=0
   · skip
     have HY0:=Lib.hid (show (shapeP 20 p).2=0 by rw [← HY.out];exact hyy)
     subst hyy
     obtain ⟨c0,cs,hpc⟩:=conds_some HY0.out
     obtain ⟨a0,az,hpa,hpf1,hpf2,hid0⟩:=acts_some HY0.out
     have HPC:=Lib.hid hpc
     have HPA:=Lib.hid hpa
     have HPF:=Lib.hid (And.intro hpf1 hpf2)
     obtain ⟨vs,hvs⟩ : ∃vs,vs=varsP 20 p:=⟨_,rfl⟩
     have HVS:=Lib.hid hvs
     have HVI:=Lib.hid (show a0.id∈vs by rw [hvs];exact mem_varsA (a:=a0) (by rw [hpa];simp) (by rw [vars5,oneN_yes hid0];simp))
     have HVL:=Lib.hid (show vs.length≤100000 by rw [hvs];exact HF.out.v)
     have HRV:=Lib.hid (show ∀Y,Below w.heap.size w Y→Calls Try.prog 9 #[.agg #[.string p.name,.slice A1 p.conds.length c1,.slice A2 p.acts.length c2]] Y (StrsTo Y vs) from fun Y hY=>by rw [hvs];exact rvars_is 20 p A1 c1 A2 c2 (· < w.heap.size) Y (HR1.out.new_ hY) (H2.out.new_ hY) HF.out.s HF.out.a HF.out.v)
     clear hpc hpa hpf1 hpf2 hid0 hvs
     go_wp2_with fail
     with_reducible refine (HRV.out _ (by (repeat (first | exact Below.refl _ _ | exact HB.out | refine Below.drew ?_ | refine Below.al ?_ _ | refine Below.sc ?_ _)))).mono ?_
     rintro e w4 ⟨Ar,cr,rfl,hor,_,hb⟩
     have hbs:=Below.trans (show Below w3.heap.size w3 _ from (by (repeat (first | exact Below.refl _ _ | refine Below.drew ?_ | refine Below.al ?_ _ | refine Below.sc ?_ _)))) (hb.mono (by simp<;>omega))
     have Ko:=Lib.hid (Ko.out.new_ hbs)
     have HB:=Lib.hid (HB.out.trans (hbs.mono HB.out.size))
     have hsz4:=hbs.size
     clear o0 o1 o2 oz hb hbs
     obtain ⟨o0,o1,o2⟩:=Ko.out.c3
     have oz:=Ko.out.lt
     have HRR:=Lib.hid (strs_row rfl hor)
     have hcr:=(strs_row rfl hor).1
     have hcm:=(strs_row rfl hor).2.1
     clear hor
     have HQ0:=Lib.hid (show RQ w4 [] none 0 w4 from ⟨owns_nilC _ _ _,AIn.none_ _,Below.refl _ _⟩)
     clear o0 o1 o2 oz 
     go_wp2_with fail
     go_loopw [11,13] (fun v s wr=>∃(i:Nat) (out:List ByteArray) (A:Option Addr) (cp:Nat),s = .int .i64 i∧v = .slice A out.length cp∧i≤vs.length∧out=uq (vs.take i)∧RQ w4 out A cp wr) (fun v s wr=>vs.length - (intOf s).toNat)
     case atStart=>exact ⟨0,[],none,0,rfl,rfl,Nat.zero_le _,rfl,HQ0.out⟩
     case round=>
      clear HQ0
      obtain ⟨i,out,A,cp,rfl,rfl,hi,hout,hn⟩:=hrel
      have HNR:=Lib.hid hn
      have HOUT:=Lib.hid hout
      have hol:out.length≤100000:=by have h1:=uq_len (vs.take i);rw [← hout] at h1;have h2:(vs.take i).length≤i:=by rw [List.length_take];omega
                                     have h3:=HVL.out;omega
      clear hn hout
      have hvl:=HVL.out
      by_cases hlt:i<vs.length
      · obtain ⟨x,hx⟩ : ∃x,x=vs[i]:=⟨_,rfl⟩
        obtain ⟨wo,hwo⟩ : ∃wo,wo=wr:=⟨_,rfl⟩
        rw [← hwo] at HNR ⊢
        obtain ⟨g,off,rfl,hg,q0⟩:=str_at (HRR.out.new_ HNR.out.bel) hlt
        rw [← hx] at q0
        have HUQ:=Lib.hid (show uq (vs.take (i+1))=uqStep (uq (vs.take i)) x by rw [← take_snoc hlt,uq_snoc,hx])
        have Q0:=Lib.hid q0
        have HG:=Lib.hid hg
        have j1:(0:Int)≤(i:Int):=by omega
        have j2:(i:Int)<(vs.length:Int):=by omega
        clear hx hwo q0 hg
        go_wp2_with fail
        go_loopw [14,15] (fun sb sk W=>∃(k:Nat) (bb:Bool),sk = .int .i64 k∧sb = .bool bb∧k≤out.length∧bb=decide (x∈out.take k)∧Below wo.heap.size wo W) (fun sb sk W=>out.length - (intOf sk).toNat)
        case atStart=>exact ⟨0,false,rfl,rfl,Nat.zero_le _,by simp,Below.refl _ _⟩
        case round=>
         obtain ⟨k,bb,rfl,rfl,hk,hbb,hbi⟩:=hrel
         have HBI:=Lib.hid hbi
         have HBB:=Lib.hid hbb
         have q0:wr.cell? ⟨g,off+i,none⟩=some (.string x):=(hbi.cell (p:=⟨g,off+i,none⟩) HG.out).trans Q0.out
         have hgr:g<wr.heap.size:=Nat.lt_of_lt_of_le HG.out hbi.size
         clear hbi hbb
         by_cases hlk:k<out.length
         · obtain ⟨u,hu⟩ : ∃u,u=out[k]:=⟨_,rfl⟩
           obtain ⟨gn,on,hAn,hgn,u0⟩:=str_at (strs_row rfl (ownsRow_new HNR.out.own HBI.out)) hlk
           subst hAn
           rw [← hu] at u0
           have hds:=dec_step (x:=x) hlk
           rw [← HBB.out,← hu] at hds
           have k1:(0:Int)≤(k:Int):=by omega
           have k2:(k:Int)<(out.length:Int):=by omega
           clear hu
           cases bb with
           | true=>
             have HST:=Lib.hid (show true=decide (x∈out.take (k+1)) by rw [hds];rfl)
             clear hds
             skip
             go_upto_region 15 with fail
             refine wp_region_E (fun w9=>Below wr.heap.size wr w9) [(0,0),(1,0),(2,0),(3,0),(4,0),(5,1),(6,0),(7,0),(8,0),(9,1),(10,0),(11,0),(12,0)] (by kernel_rfl) (by kernel_rfl) (fun KK hKK=>?_)
             simp only [beside,List.filterMap_cons,List.filterMap_nil,List.getElem?_toArray,List.getElem?_cons_zero,List.getElem?_cons_succ,Option.map_some]
             repeat ((first | (refine wpX_w ?_ (Or.inl ⟨by rfl,fun w9=>?_⟩) ?_;rotate_left 1;go_simp;with_reducible rfl) | (refine wpX_l ?_ (((Below.refl _ _).drew)) (Or.inl ⟨by rfl,fun w9 hw9=>?_⟩) ?_;rotate_left 1;have u0:=(hw9.cell (p:=⟨gn,on+k,none⟩) hgn).trans u0;have q0:=(hw9.cell (p:=⟨g,off+i,none⟩) hgr).trans q0;go_simp;with_reducible rfl) | refine wpX_w undef (Or.inr ⟨by rfl,rfl⟩) ?_ | refine wpX_l undef (((Below.refl _ _).drew)) (Or.inr ⟨by rfl,rfl⟩) ?_);go_frame)
             refine wpX_nil ?_
             simp only [OnlyN_normal]
             refine hKK _ _ ?_
             clear hKK KK
             have HBE:=Lib.hid (show Below wo.heap.size wo wr.drew from HBI.out.drew)
             clear u0 q0
             go_wp2_with fail
             go_roundw
             case rel=>exact ⟨k+1,true,by go_num,rfl,by omega,HST.out,HBE.out⟩
             case measure=>simp [intOf]<;>omega
           | false=>
             by_cases hux:u=x
             · have HST:=Lib.hid (show true=decide (x∈out.take (k+1)) by rw [hds,decide_eq_true hux];rfl)
               have t1:(u.toList == x.toList)=true:=by rw [hux];exact beq_self_eq_true _
               have t2:decide (u.toList=x.toList)=true:=by rw [hux];simp
               clear hds hux
               skip
               go_upto_region 15 with fail
               refine wp_region_E (fun w9=>Below wr.heap.size wr w9) [(0,0),(1,0),(2,0),(3,0),(4,0),(5,1),(6,0),(7,0),(8,0),(9,1),(10,0),(11,0),(12,0)] (by kernel_rfl) (by kernel_rfl) (fun KK hKK=>?_)
               simp only [beside,List.filterMap_cons,List.filterMap_nil,List.getElem?_toArray,List.getElem?_cons_zero,List.getElem?_cons_succ,Option.map_some]
               repeat ((first | (refine wpX_w ?_ (Or.inl ⟨by rfl,fun w9=>?_⟩) ?_;rotate_left 1;go_simp;with_reducible rfl) | (refine wpX_l ?_ (((Below.refl _ _).drew)) (Or.inl ⟨by rfl,fun w9 hw9=>?_⟩) ?_;rotate_left 1;have u0:=(hw9.cell (p:=⟨gn,on+k,none⟩) hgn).trans u0;have q0:=(hw9.cell (p:=⟨g,off+i,none⟩) hgr).trans q0;go_simp;with_reducible rfl) | refine wpX_w undef (Or.inr ⟨by rfl,rfl⟩) ?_ | refine wpX_l undef (((Below.refl _ _).drew)) (Or.inr ⟨by rfl,rfl⟩) ?_);go_frame)
               refine wpX_nil ?_
               simp only [OnlyN_normal]
               refine hKK _ _ ?_
               clear hKK KK
               have HBE:=Lib.hid (show Below wo.heap.size wo wr.drew from HBI.out.drew)
               clear u0 q0
               go_wp2_with fail
               go_roundw
               case rel=>exact ⟨k+1,true,by go_num,rfl,by omega,HST.out,HBE.out⟩
               case measure=>simp [intOf]<;>omega
             · have HST:=Lib.hid (show false=decide (x∈out.take (k+1)) by rw [hds,decide_eq_false hux];rfl)
               have t3 : ¬u.toList=x.toList:=strO_ne hux
               have t1:(u.toList == x.toList)=false:=by simpa using t3
               have t2:decide (u.toList=x.toList)=false:=by simp [t3]
               clear hds hux t3
               skip
               go_upto_region 15 with fail
               refine wp_region_E (fun w9=>Below wr.heap.size wr w9) [(0,0),(1,0),(2,0),(3,0),(4,0),(5,1),(6,0),(7,0),(8,0),(9,1),(10,0),(11,0),(12,0)] (by kernel_rfl) (by kernel_rfl) (fun KK hKK=>?_)
               simp only [beside,List.filterMap_cons,List.filterMap_nil,List.getElem?_toArray,List.getElem?_cons_zero,List.getElem?_cons_succ,Option.map_some]
               repeat ((first | (refine wpX_w ?_ (Or.inl ⟨by rfl,fun w9=>?_⟩) ?_;rotate_left 1;go_simp;with_reducible rfl) | (refine wpX_l ?_ (((Below.refl _ _).drew)) (Or.inl ⟨by rfl,fun w9 hw9=>?_⟩) ?_;rotate_left 1;have u0:=(hw9.cell (p:=⟨gn,on+k,none⟩) hgn).trans u0;have q0:=(hw9.cell (p:=⟨g,off+i,none⟩) hgr).trans q0;go_simp;with_reducible rfl) | refine wpX_w undef (Or.inr ⟨by rfl,rfl⟩) ?_ | refine wpX_l undef (((Below.refl _ _).drew)) (Or.inr ⟨by rfl,rfl⟩) ?_);go_frame)
               refine wpX_nil ?_
               simp only [OnlyN_normal]
               refine hKK _ _ ?_
               clear hKK KK
               have HBE:=Lib.hid (show Below wo.heap.size wo wr.drew from HBI.out.drew)
               clear u0 q0
               go_wp2_with fail
               go_roundw
               case rel=>exact ⟨k+1,false,by go_num,rfl,by omega,HST.out,HBE.out⟩
               case measure=>simp [intOf]<;>omega
         · obtain rfl:k=out.length:=by omega
           have hb2:=HBB.out
           rw [List.take_length] at hb2
           have HB2:=Lib.hid hb2
           have HNI:=Lib.hid (HNR.out.new_ HBI.out)
           clear hb2
           cases bb with
           | true=>
             have HON:=Lib.hid (show out=uq (vs.take (i+1)) by rw [HUQ.out,uqStep,← HOUT.out,if_pos (of_decide_eq_true HB2.out.symm)])
             go_wp2_with fail
             go_roundw
             case rel=>exact ⟨i+1,out,A,cp,by go_num,rfl,by omega,HON.out,HNI.out⟩
             case measure=>simp [intOf]<;>omega
           | false=>
             have HON:=Lib.hid (show out ++ [x]=uq (vs.take (i+1)) by rw [HUQ.out,uqStep,← HOUT.out,if_neg (of_decide_eq_false HB2.out.symm)])
             obtain ⟨Y9,hY9⟩ : ∃Y9,Y9=wr.alloc (.cells #[.string x] 9):=⟨_,rfl⟩
             have hb9:Below wr.heap.size wr Y9:=by rw [hY9];exact (Below.refl _ _).alloc (Nat.le_refl _) _
             have HY9:=Lib.hid hY9
             have HN9:=Lib.hid (HNI.out.new_ hb9)
             have HW9:=Lib.hid (show 0<1→∃ad,(some (⟨wr.heap.size,0,none⟩:Addr))=some ad∧∀j u,([x].flatMap strC)[j]? = some u→Y9.cell? (ad.add j)=some u from fun _=>⟨_,rfl,by rw [hY9];exact World.news_of_block (heap_alloc_new _ _)⟩)
             clear hY9 hb9
             go_wp2_with (at_builtin;rw [← HY9.out];refine wpList_append_src Y9 rfl (.tmp 59) (.tmp 64) 28 rfl 9 i0 _ 1 16 Try.underlying28 hi0 hz0 hz1 hz2 rfl (by decide) (.slice A out.length cp) out.length (out.flatMap strC) rfl HN9.out.own (some ⟨wr.heap.size,0,none⟩) 1 1 ([x].flatMap strC) rfl rfl HW9.out (str_one _) (by unfold maxLen;omega) (by omega) ?_;intro v1 w9 hown1 hg1 hnil1 hat1;obtain ⟨A9,c9,rfl,hn9⟩:=HN9.out.app (ys:=[x]) hown1 hg1 hat1;have HN10:=Lib.hid hn9;clear hown1 hg1 hnil1 hat1 hn9)
             go_roundw
             case rel=>exact ⟨i+1,out ++ [x],A9,c9,by go_num,by simp,by omega,HON.out,HN10.out⟩
             case measure=>simp [intOf]<;>omega
      · obtain rfl:i=vs.length:=by omega
        obtain ⟨us,hus⟩ : ∃us,us=uq vs:=⟨_,rfl⟩
        have hou:out=us:=by rw [HOUT.out,List.take_length,hus]
        subst hou
        obtain ⟨wm,hwm⟩ : ∃wm,wm=wr:=⟨_,rfl⟩
        rw [← hwm] at HNR ⊢
        have HB:=Lib.hid (HB.out.trans (HNR.out.bel.mono HB.out.size))
        have Ko:=Lib.hid (Ko.out.new_ HNR.out.bel)
        have HUR:=Lib.hid (strs_row rfl HNR.out.own)
        have hcu:=(strs_row rfl HNR.out.own).1
        have hcv:=(strs_row rfl HNR.out.own).2.1
        have hou0:0<out.length:=List.length_pos_of_mem (by rw [hus];exact uq_mem.2 HVI.out)
        have HUS:=Lib.hid (show ∀v∈out,v∈varsP 20 p from fun v hv=>by rw [hus] at hv;rw [← HVS.out];exact uq_mem.1 hv)
        obtain ⟨m1,hm1,hm1l⟩:=within_nat va hou0
        obtain ⟨m2,hm2,hm2l⟩:=within_nat vb hou0
        have HW1:=Lib.hid (show ∀W,Calls Try.prog 10 #[.int .i64 va,.int .i64 (out.length:Int)] W fun e w0=>e = .returned (.int .i64 (m1:Int))∧W=w0 from fun W=>by
         have:=within_is va (out.length:Int) W (by omega)
         rwa [show within va (out.length:Int)=(m1:Int) from hm1] at this)
        have HW2:=Lib.hid (show ∀W,Calls Try.prog 10 #[.int .i64 vb,.int .i64 (out.length:Int)] W fun e w0=>e = .returned (.int .i64 (m2:Int))∧W=w0 from fun W=>by
         have:=within_is vb (out.length:Int) W (by omega)
         rwa [show within vb (out.length:Int)=(m2:Int) from hm2] at this)
        obtain ⟨x,hx⟩ : ∃x,x=out[m1]:=⟨_,rfl⟩
        obtain ⟨y,hy⟩ : ∃y,y=out[m2]:=⟨_,rfl⟩
        obtain ⟨gx,ox,hAx,hgx,x0⟩:=str_at HUR.out hm1l
        obtain ⟨gy,oy,hAy,hgy,y0⟩:=str_at HUR.out hm2l
        rw [hAx] at hAy
        obtain ⟨rfl,rfl⟩:gx=gy∧ox=oy:=by injection hAy with h;injection h with h1 h2;exact ⟨h1,h2⟩
        subst hAx
        rw [← hx] at x0
        rw [← hy] at y0
        have HX:=Lib.hid (show x∈varsP 20 p from HUS.out x (by rw [hx];exact List.getElem_mem hm1l))
        have HYM:=Lib.hid (show y∈varsP 20 p from HUS.out y (by rw [hy];exact List.getElem_mem hm2l))
        have b1:(0:Int)≤(m1:Int):=by omega
        have b2:(m1:Int)<(out.length:Int):=by omega
        have b3:(0:Int)≤(m2:Int):=by omega
        have b4:(m2:Int)<(out.length:Int):=by omega
        have HBL:=Lib.hid HB.out.size
        clear hus hwm HOUT hm1 hm2 hx hy hAy hou0 hol
        go_upto_region 18 with fail
        go_cut [16,17] from 66 (fun s t wc=>∃kx ky,s = .pointer (some ⟨kx,0,none⟩)∧t = .pointer (some ⟨ky,0,none⟩)∧Blk wc kx 9 #[.string x]∧Blk wc ky 9 #[.string y]∧Below wm.heap.size wm wc)
        case first=>
         refine wp_region_P3 (fun w9=>Below wm.heap.size wm w9) [0,1,2,3,5,6,7,8,9,10,12,13] [6,13] (.fork3 [(0,0),(1,0),(2,0),(3,0),(7,0),(8,0),(9,0),(10,0)] 4 (.fork3 [(5,0),(6,1)] 11 (.fork [(12,0),(13,1)] 14 (.fin [(15,2),(16,2),(17,2)]) 15 (.fin [(14,2),(16,2),(17,2)])) 14 (.fork [] 11 (.fin [(12,0),(13,1),(15,2),(16,2),(17,2)]) 15 (.fin [(11,2),(12,0),(13,1),(16,2),(17,2)])) 15 (.fork [] 11 (.fin [(12,0),(13,1),(14,2),(16,2),(17,2)]) 14 (.fin [(11,2),(12,0),(13,1),(16,2),(17,2)]))) 14 (.fork [] 4 (.fork [(5,0),(6,1)] 11 (.fin [(12,0),(13,1),(15,2),(16,2),(17,2)]) 15 (.fin [(11,2),(12,0),(13,1),(16,2),(17,2)])) 15 (.fin [(4,2),(5,0),(6,1),(11,2),(12,0),(13,1),(16,2),(17,2)])) 15 (.fork [] 4 (.fork [(5,0),(6,1)] 11 (.fin [(12,0),(13,1),(14,2),(16,2),(17,2)]) 14 (.fin [(11,2),(12,0),(13,1),(16,2),(17,2)])) 14 (.fin [(4,2),(5,0),(6,1),(11,2),(12,0),(13,1),(16,2),(17,2)]))) (by kernel_rfl) (by kernel_rfl) (by kernel_rfl) (fun KK hKK=>?_)
         simp only [wpP3,beside,List.filterMap_cons,List.filterMap_nil,List.getElem?_toArray,List.getElem?_cons_zero,List.getElem?_cons_succ,Option.map_some]
         repeat ((first | (refine wpY_w ?_ (Or.inl ⟨by rfl,fun w9=>?_⟩) ?_;rotate_left 1;go_simp;with_reducible rfl) | (refine wpY_l ?_ ((Below.refl wm.heap.size wm).drew) (Or.inl ⟨by rfl,fun w9 hw9=>?_⟩) ?_;rotate_left 1;first | (have x0:=(hw9.cell (p:=⟨gx,ox+m1,none⟩) hgx).trans x0;have y0:=(hw9.cell (p:=⟨gx,ox+m2,none⟩) hgy).trans y0);go_simp;with_reducible rfl) | refine wpY_w undef (Or.inr ⟨by rfl,rfl⟩) ?_ | refine wpY_l undef ((Below.refl wm.heap.size wm).drew) (Or.inr ⟨by rfl,rfl⟩) ?_);go_frame)
         refine wpY_nil ⟨?_,?_,?_⟩
         · refine wpOp_cs rfl (fun K9 hK9=>?_)
           go_simp
           refine (HW1.out _).mono ?_
           rintro e w0 ⟨rfl,rfl⟩
           refine hK9 _ _ (fun _=>(Below.refl wm.heap.size wm).drew) ?_
           clear hK9 K9
           try go_frame
           try simp only [beside,List.filterMap_nil]
           repeat ((first | (refine wpY_w ?_ (Or.inl ⟨by rfl,fun w9=>?_⟩) ?_;rotate_left 1;go_simp;with_reducible rfl) | (refine wpY_l ?_ ((Below.refl wm.heap.size wm).drew) (Or.inl ⟨by rfl,fun w9 hw9=>?_⟩) ?_;rotate_left 1;first | (have x0:=(hw9.cell (p:=⟨gx,ox+m1,none⟩) hgx).trans x0;have y0:=(hw9.cell (p:=⟨gx,ox+m2,none⟩) hgy).trans y0);go_simp;with_reducible rfl) | refine wpY_w undef (Or.inr ⟨by rfl,rfl⟩) ?_ | refine wpY_l undef ((Below.refl wm.heap.size wm).drew) (Or.inr ⟨by rfl,rfl⟩) ?_);go_frame)
           refine wpY_nil ⟨?_,?_,?_⟩
           · refine wpOp_cs rfl (fun K9 hK9=>?_)
             go_simp
             refine (HW2.out _).mono ?_
             rintro e w0 ⟨rfl,rfl⟩
             refine hK9 _ _ (fun _=>(Below.refl wm.heap.size wm).drew) ?_
             clear hK9 K9
             try go_frame
             try simp only [beside,List.filterMap_nil]
             repeat ((first | (refine wpY_w ?_ (Or.inl ⟨by rfl,fun w9=>?_⟩) ?_;rotate_left 1;go_simp;with_reducible rfl) | (refine wpY_l ?_ ((Below.refl wm.heap.size wm).drew) (Or.inl ⟨by rfl,fun w9 hw9=>?_⟩) ?_;rotate_left 1;first | (have x0:=(hw9.cell (p:=⟨gx,ox+m1,none⟩) hgx).trans x0;have y0:=(hw9.cell (p:=⟨gx,ox+m2,none⟩) hgy).trans y0);go_simp;with_reducible rfl) | refine wpY_w undef (Or.inr ⟨by rfl,rfl⟩) ?_ | refine wpY_l undef ((Below.refl wm.heap.size wm).drew) (Or.inr ⟨by rfl,rfl⟩) ?_);go_frame)
             refine wpY_nil ⟨?_,?_⟩
             · refine wpOp_cs rfl (fun K9 hK9=>?_)
               go_simp
               obtain ⟨VKX,hV⟩ : ∃V,V=(wm.alloc (.cells #[.string ⟨#[]⟩] 9)).drew:=⟨_,rfl⟩
               have hb:Below wm.heap.size wm VKX:=by rw [hV];exact ((Below.refl _ _).alloc (Nat.le_refl _) _).drew
               have HKX:=Lib.hid (show Blk VKX (wm.heap.size) 9 #[.string ⟨#[]⟩] by rw [hV];exact (Blk.new _ _ _).drew)
               have HKXL:=Lib.hid HKX.out.lt
               have HBKX:=Lib.hid hb
               have HGEKX:=Lib.hid (show wm.heap.size≤wm.heap.size from ((Below.refl wm.heap.size wm).drew).size)
               rw [← hV]
               clear hb hV
               refine hK9 _ _ (fun _=>HBKX.out) ?_
               clear hK9 K9
               try go_frame
               try simp only [beside,List.filterMap_nil]
               refine wpY_es (fun K9 hK9=>?_)
               go_simp
               obtain ⟨VKY,hV⟩ : ∃V,V=(VKX.alloc (.cells #[.string ⟨#[]⟩] 9)):=⟨_,rfl⟩
               have hb:Below VKX.heap.size VKX VKY:=by rw [hV];exact ((Below.refl _ _).alloc (Nat.le_refl _) _)
               have HKX:=Lib.hid (HKX.out.new_ hb)
               have NE:=Lib.hid (show wm.heap.size≠VKX.heap.size from fun e=>by have:=HKXL.out;omega)
               have HKY:=Lib.hid (show Blk VKY (VKX.heap.size) 9 #[.string ⟨#[]⟩] by rw [hV];exact (Blk.new _ _ _))
               have HKYL:=Lib.hid HKY.out.lt
               have HBKY:=Lib.hid ((HBKX.out).trans (hb.mono (HBKX.out).size))
               have HGEKY:=Lib.hid (show wm.heap.size≤VKX.heap.size from (HBKX.out).size)
               rw [← hV]
               clear hb hV
               refine hK9 _ _ (HBKY.out) ?_
               clear hK9 K9
               try go_frame
               refine wpY_es (fun K9 hK9=>?_)
               have s0:VKY.cell? ⟨wm.heap.size,0,none⟩=some (.string ⟨#[]⟩):=(HKX.out.cell 0).trans rfl
               have sf:=HKX.out.frozen 0
               have sl:=HKX.out.lt
               go_simp
               obtain ⟨UKX,hV⟩ : ∃V,V=VKY.setCell ⟨wm.heap.size,0,none⟩ (.string x):=⟨_,rfl⟩
               have HBKXS:=Lib.hid (show Below wm.heap.size wm UKX by rw [hV];exact (HBKY.out).setCell HGEKX.out _)
               have HKX:=Lib.hid (show Blk UKX (wm.heap.size) 9 #[.string x] by rw [hV];exact HKX.out.set_ 0 _)
               have HKY:=Lib.hid (show Blk UKX (VKX.heap.size) 9 _ by rw [hV];exact HKY.out.far (Ne.symm NE.out) _)
               rw [← hV]
               clear hV s0 sf sl
               refine hK9 _ _ (HBKXS.out) ?_
               clear hK9 K9
               try go_frame
               refine wpY_es (fun K9 hK9=>?_)
               have s0:UKX.cell? ⟨VKX.heap.size,0,none⟩=some (.string ⟨#[]⟩):=(HKY.out.cell 0).trans rfl
               have sf:=HKY.out.frozen 0
               have sl:=HKY.out.lt
               go_simp
               obtain ⟨UKY,hV⟩ : ∃V,V=UKX.setCell ⟨VKX.heap.size,0,none⟩ (.string y):=⟨_,rfl⟩
               have HBKYS:=Lib.hid (show Below wm.heap.size wm UKY by rw [hV];exact (HBKXS.out).setCell HGEKY.out _)
               have HKY:=Lib.hid (show Blk UKY (VKX.heap.size) 9 #[.string y] by rw [hV];exact HKY.out.set_ 0 _)
               have HKX:=Lib.hid (show Blk UKY (wm.heap.size) 9 _ by rw [hV];exact HKX.out.far (NE.out) _)
               rw [← hV]
               clear hV s0 sf sl
               refine hK9 _ _ (HBKYS.out) ?_
               clear hK9 K9
               try go_frame
               refine wpY_nil ?_
               simp only [OnlyN_normal]
               refine hKK _ _ ?_
               clear hKK KK
               go_wp2_with fail
               go_meet
               case rel=>exact ⟨wm.heap.size,VKX.heap.size,rfl,rfl,HKX.out,HKY.out,HBKYS.out⟩
             · refine wpOp_cs rfl (fun K9 hK9=>?_)
               go_simp
               obtain ⟨VKY,hV⟩ : ∃V,V=(wm.alloc (.cells #[.string ⟨#[]⟩] 9)).drew:=⟨_,rfl⟩
               have hb:Below wm.heap.size wm VKY:=by rw [hV];exact ((Below.refl _ _).alloc (Nat.le_refl _) _).drew
               have HKY:=Lib.hid (show Blk VKY (wm.heap.size) 9 #[.string ⟨#[]⟩] by rw [hV];exact (Blk.new _ _ _).drew)
               have HKYL:=Lib.hid HKY.out.lt
               have HBKY:=Lib.hid hb
               have HGEKY:=Lib.hid (show wm.heap.size≤wm.heap.size from ((Below.refl wm.heap.size wm).drew).size)
               rw [← hV]
               clear hb hV
               refine hK9 _ _ (fun _=>HBKY.out) ?_
               clear hK9 K9
               try go_frame
               try simp only [beside,List.filterMap_nil]
               refine wpY_es (fun K9 hK9=>?_)
               go_simp
               obtain ⟨VKX,hV⟩ : ∃V,V=(VKY.alloc (.cells #[.string ⟨#[]⟩] 9)):=⟨_,rfl⟩
               have hb:Below VKY.heap.size VKY VKX:=by rw [hV];exact ((Below.refl _ _).alloc (Nat.le_refl _) _)
               have HKY:=Lib.hid (HKY.out.new_ hb)
               have NE:=Lib.hid (show wm.heap.size≠VKY.heap.size from fun e=>by have:=HKYL.out;omega)
               have HKX:=Lib.hid (show Blk VKX (VKY.heap.size) 9 #[.string ⟨#[]⟩] by rw [hV];exact (Blk.new _ _ _))
               have HKXL:=Lib.hid HKX.out.lt
               have HBKX:=Lib.hid ((HBKY.out).trans (hb.mono (HBKY.out).size))
               have HGEKX:=Lib.hid (show wm.heap.size≤VKY.heap.size from (HBKY.out).size)
               rw [← hV]
               clear hb hV
               refine hK9 _ _ (HBKX.out) ?_
               clear hK9 K9
               try go_frame
               refine wpY_es (fun K9 hK9=>?_)
               have s0:VKX.cell? ⟨VKY.heap.size,0,none⟩=some (.string ⟨#[]⟩):=(HKX.out.cell 0).trans rfl
               have sf:=HKX.out.frozen 0
               have sl:=HKX.out.lt
               go_simp
               obtain ⟨UKX,hV⟩ : ∃V,V=VKX.setCell ⟨VKY.heap.size,0,none⟩ (.string x):=⟨_,rfl⟩
               have HBKXS:=Lib.hid (show Below wm.heap.size wm UKX by rw [hV];exact (HBKX.out).setCell HGEKX.out _)
               have HKX:=Lib.hid (show Blk UKX (VKY.heap.size) 9 #[.string x] by rw [hV];exact HKX.out.set_ 0 _)
               have HKY:=Lib.hid (show Blk UKX (wm.heap.size) 9 _ by rw [hV];exact HKY.out.far (NE.out) _)
               rw [← hV]
               clear hV s0 sf sl
               refine hK9 _ _ (HBKXS.out) ?_
               clear hK9 K9
               try go_frame
               refine wpY_es (fun K9 hK9=>?_)
               have s0:UKX.cell? ⟨wm.heap.size,0,none⟩=some (.string ⟨#[]⟩):=(HKY.out.cell 0).trans rfl
               have sf:=HKY.out.frozen 0
               have sl:=HKY.out.lt
               go_simp
               obtain ⟨UKY,hV⟩ : ∃V,V=UKX.setCell ⟨wm.heap.size,0,none⟩ (.string y):=⟨_,rfl⟩
               have HBKYS:=Lib.hid (show Below wm.heap.size wm UKY by rw [hV];exact (HBKXS.out).setCell HGEKY.out _)
               have HKY:=Lib.hid (show Blk UKY (wm.heap.size) 9 #[.string y] by rw [hV];exact HKY.out.set_ 0 _)
               have HKX:=Lib.hid (show Blk UKY (VKY.heap.size) 9 _ by rw [hV];exact HKX.out.far (Ne.symm NE.out) _)
               rw [← hV]
               clear hV s0 sf sl
               refine hK9 _ _ (HBKYS.out) ?_
               clear hK9 K9
               try go_frame
               refine wpY_nil ?_
               simp only [OnlyN_normal]
               refine hKK _ _ ?_
               clear hKK KK
               go_wp2_with fail
               go_meet
               case rel=>exact ⟨VKY.heap.size,wm.heap.size,rfl,rfl,HKX.out,HKY.out,HBKYS.out⟩
           · refine wpOp_cs rfl (fun K9 hK9=>?_)
             go_simp
             obtain ⟨VKX,hV⟩ : ∃V,V=(wm.alloc (.cells #[.string ⟨#[]⟩] 9)).drew:=⟨_,rfl⟩
             have hb:Below wm.heap.size wm VKX:=by rw [hV];exact ((Below.refl _ _).alloc (Nat.le_refl _) _).drew
             have HKX:=Lib.hid (show Blk VKX (wm.heap.size) 9 #[.string ⟨#[]⟩] by rw [hV];exact (Blk.new _ _ _).drew)
             have HKXL:=Lib.hid HKX.out.lt
             have HBKX:=Lib.hid hb
             have HGEKX:=Lib.hid (show wm.heap.size≤wm.heap.size from ((Below.refl wm.heap.size wm).drew).size)
             rw [← hV]
             clear hb hV
             refine hK9 _ _ (fun _=>HBKX.out) ?_
             clear hK9 K9
             try go_frame
             try simp only [beside,List.filterMap_nil]
             refine wpY_nil ⟨?_,?_⟩
             · refine wpOp_cs rfl (fun K9 hK9=>?_)
               go_simp
               refine (HW2.out _).mono ?_
               rintro e w0 ⟨rfl,rfl⟩
               refine hK9 _ _ (fun _=>HBKX.out) ?_
               clear hK9 K9
               try go_frame
               try simp only [beside,List.filterMap_nil]
               repeat ((first | (refine wpY_w ?_ (Or.inl ⟨by rfl,fun w9=>?_⟩) ?_;rotate_left 1;go_simp;with_reducible rfl) | (refine wpY_l ?_ (HBKX.out) (Or.inl ⟨by rfl,fun w9 hw9=>?_⟩) ?_;rotate_left 1;first | (have x0:=(hw9.cell (p:=⟨gx,ox+m1,none⟩) hgx).trans x0;have y0:=(hw9.cell (p:=⟨gx,ox+m2,none⟩) hgy).trans y0);go_simp;with_reducible rfl) | refine wpY_w undef (Or.inr ⟨by rfl,rfl⟩) ?_ | refine wpY_l undef (HBKX.out) (Or.inr ⟨by rfl,rfl⟩) ?_);go_frame)
               refine wpY_es (fun K9 hK9=>?_)
               go_simp
               obtain ⟨VKY,hV⟩ : ∃V,V=(VKX.alloc (.cells #[.string ⟨#[]⟩] 9)):=⟨_,rfl⟩
               have hb:Below VKX.heap.size VKX VKY:=by rw [hV];exact ((Below.refl _ _).alloc (Nat.le_refl _) _)
               have HKX:=Lib.hid (HKX.out.new_ hb)
               have NE:=Lib.hid (show wm.heap.size≠VKX.heap.size from fun e=>by have:=HKXL.out;omega)
               have HKY:=Lib.hid (show Blk VKY (VKX.heap.size) 9 #[.string ⟨#[]⟩] by rw [hV];exact (Blk.new _ _ _))
               have HKYL:=Lib.hid HKY.out.lt
               have HBKY:=Lib.hid ((HBKX.out).trans (hb.mono (HBKX.out).size))
               have HGEKY:=Lib.hid (show wm.heap.size≤VKX.heap.size from (HBKX.out).size)
               rw [← hV]
               clear hb hV
               refine hK9 _ _ (HBKY.out) ?_
               clear hK9 K9
               try go_frame
               refine wpY_es (fun K9 hK9=>?_)
               have s0:VKY.cell? ⟨wm.heap.size,0,none⟩=some (.string ⟨#[]⟩):=(HKX.out.cell 0).trans rfl
               have sf:=HKX.out.frozen 0
               have sl:=HKX.out.lt
               go_simp
               obtain ⟨UKX,hV⟩ : ∃V,V=VKY.setCell ⟨wm.heap.size,0,none⟩ (.string x):=⟨_,rfl⟩
               have HBKXS:=Lib.hid (show Below wm.heap.size wm UKX by rw [hV];exact (HBKY.out).setCell HGEKX.out _)
               have HKX:=Lib.hid (show Blk UKX (wm.heap.size) 9 #[.string x] by rw [hV];exact HKX.out.set_ 0 _)
               have HKY:=Lib.hid (show Blk UKX (VKX.heap.size) 9 _ by rw [hV];exact HKY.out.far (Ne.symm NE.out) _)
               rw [← hV]
               clear hV s0 sf sl
               refine hK9 _ _ (HBKXS.out) ?_
               clear hK9 K9
               try go_frame
               refine wpY_es (fun K9 hK9=>?_)
               have s0:UKX.cell? ⟨VKX.heap.size,0,none⟩=some (.string ⟨#[]⟩):=(HKY.out.cell 0).trans rfl
               have sf:=HKY.out.frozen 0
               have sl:=HKY.out.lt
               go_simp
               obtain ⟨UKY,hV⟩ : ∃V,V=UKX.setCell ⟨VKX.heap.size,0,none⟩ (.string y):=⟨_,rfl⟩
               have HBKYS:=Lib.hid (show Below wm.heap.size wm UKY by rw [hV];exact (HBKXS.out).setCell HGEKY.out _)
               have HKY:=Lib.hid (show Blk UKY (VKX.heap.size) 9 #[.string y] by rw [hV];exact HKY.out.set_ 0 _)
               have HKX:=Lib.hid (show Blk UKY (wm.heap.size) 9 _ by rw [hV];exact HKX.out.far (NE.out) _)
               rw [← hV]
               clear hV s0 sf sl
               refine hK9 _ _ (HBKYS.out) ?_
               clear hK9 K9
               try go_frame
               refine wpY_nil ?_
               simp only [OnlyN_normal]
               refine hKK _ _ ?_
               clear hKK KK
               go_wp2_with fail
               go_meet
               case rel=>exact ⟨wm.heap.size,VKX.heap.size,rfl,rfl,HKX.out,HKY.out,HBKYS.out⟩
             · refine wpOp_cs rfl (fun K9 hK9=>?_)
               go_simp
               obtain ⟨VKY,hV⟩ : ∃V,V=(VKX.alloc (.cells #[.string ⟨#[]⟩] 9)):=⟨_,rfl⟩
               have hb:Below VKX.heap.size VKX VKY:=by rw [hV];exact ((Below.refl _ _).alloc (Nat.le_refl _) _)
               have HKX:=Lib.hid (HKX.out.new_ hb)
               have NE:=Lib.hid (show wm.heap.size≠VKX.heap.size from fun e=>by have:=HKXL.out;omega)
               have HKY:=Lib.hid (show Blk VKY (VKX.heap.size) 9 #[.string ⟨#[]⟩] by rw [hV];exact (Blk.new _ _ _))
               have HKYL:=Lib.hid HKY.out.lt
               have HBKY:=Lib.hid ((HBKX.out).trans (hb.mono (HBKX.out).size))
               have HGEKY:=Lib.hid (show wm.heap.size≤VKX.heap.size from (HBKX.out).size)
               rw [← hV]
               clear hb hV
               refine hK9 _ _ (fun _=>HBKY.out) ?_
               clear hK9 K9
               try go_frame
               try simp only [beside,List.filterMap_nil]
               refine wpY_es (fun K9 hK9=>?_)
               go_simp
               refine (HW2.out _).mono ?_
               rintro e w0 ⟨rfl,rfl⟩
               refine hK9 _ _ (HBKY.out) ?_
               clear hK9 K9
               try go_frame
               repeat ((first | (refine wpY_w ?_ (Or.inl ⟨by rfl,fun w9=>?_⟩) ?_;rotate_left 1;go_simp;with_reducible rfl) | (refine wpY_l ?_ (HBKY.out) (Or.inl ⟨by rfl,fun w9 hw9=>?_⟩) ?_;rotate_left 1;first | (have x0:=(hw9.cell (p:=⟨gx,ox+m1,none⟩) hgx).trans x0;have y0:=(hw9.cell (p:=⟨gx,ox+m2,none⟩) hgy).trans y0);go_simp;with_reducible rfl) | refine wpY_w undef (Or.inr ⟨by rfl,rfl⟩) ?_ | refine wpY_l undef (HBKY.out) (Or.inr ⟨by rfl,rfl⟩) ?_);go_frame)
               refine wpY_es (fun K9 hK9=>?_)
               have s0:VKY.cell? ⟨wm.heap.size,0,none⟩=some (.string ⟨#[]⟩):=(HKX.out.cell 0).trans rfl
               have sf:=HKX.out.frozen 0
               have sl:=HKX.out.lt
               go_simp
               obtain ⟨UKX,hV⟩ : ∃V,V=VKY.setCell ⟨wm.heap.size,0,none⟩ (.string x):=⟨_,rfl⟩
               have HBKXS:=Lib.hid (show Below wm.heap.size wm UKX by rw [hV];exact (HBKY.out).setCell HGEKX.out _)
               have HKX:=Lib.hid (show Blk UKX (wm.heap.size) 9 #[.string x] by rw [hV];exact HKX.out.set_ 0 _)
               have HKY:=Lib.hid (show Blk UKX (VKX.heap.size) 9 _ by rw [hV];exact HKY.out.far (Ne.symm NE.out) _)
               rw [← hV]
               clear hV s0 sf sl
               refine hK9 _ _ (HBKXS.out) ?_
               clear hK9 K9
               try go_frame
               refine wpY_es (fun K9 hK9=>?_)
               have s0:UKX.cell? ⟨VKX.heap.size,0,none⟩=some (.string ⟨#[]⟩):=(HKY.out.cell 0).trans rfl
               have sf:=HKY.out.frozen 0
               have sl:=HKY.out.lt
               go_simp
               obtain ⟨UKY,hV⟩ : ∃V,V=UKX.setCell ⟨VKX.heap.size,0,none⟩ (.string y):=⟨_,rfl⟩
               have HBKYS:=Lib.hid (show Below wm.heap.size wm UKY by rw [hV];exact (HBKXS.out).setCell HGEKY.out _)
               have HKY:=Lib.hid (show Blk UKY (VKX.heap.size) 9 #[.string y] by rw [hV];exact HKY.out.set_ 0 _)
               have HKX:=Lib.hid (show Blk UKY (wm.heap.size) 9 _ by rw [hV];exact HKX.out.far (NE.out) _)
               rw [← hV]
               clear hV s0 sf sl
               refine hK9 _ _ (HBKYS.out) ?_
               clear hK9 K9
               try go_frame
               refine wpY_nil ?_
               simp only [OnlyN_normal]
               refine hKK _ _ ?_
               clear hKK KK
               go_wp2_with fail
               go_meet
               case rel=>exact ⟨wm.heap.size,VKX.heap.size,rfl,rfl,HKX.out,HKY.out,HBKYS.out⟩
           · refine wpOp_cs rfl (fun K9 hK9=>?_)
             go_simp
             obtain ⟨VKY,hV⟩ : ∃V,V=(wm.alloc (.cells #[.string ⟨#[]⟩] 9)).drew:=⟨_,rfl⟩
             have hb:Below wm.heap.size wm VKY:=by rw [hV];exact ((Below.refl _ _).alloc (Nat.le_refl _) _).drew
             have HKY:=Lib.hid (show Blk VKY (wm.heap.size) 9 #[.string ⟨#[]⟩] by rw [hV];exact (Blk.new _ _ _).drew)
             have HKYL:=Lib.hid HKY.out.lt
             have HBKY:=Lib.hid hb
             have HGEKY:=Lib.hid (show wm.heap.size≤wm.heap.size from ((Below.refl wm.heap.size wm).drew).size)
             rw [← hV]
             clear hb hV
             refine hK9 _ _ (fun _=>HBKY.out) ?_
             clear hK9 K9
             try go_frame
             try simp only [beside,List.filterMap_nil]
             refine wpY_nil ⟨?_,?_⟩
             · refine wpOp_cs rfl (fun K9 hK9=>?_)
               go_simp
               refine (HW2.out _).mono ?_
               rintro e w0 ⟨rfl,rfl⟩
               refine hK9 _ _ (fun _=>HBKY.out) ?_
               clear hK9 K9
               try go_frame
               try simp only [beside,List.filterMap_nil]
               repeat ((first | (refine wpY_w ?_ (Or.inl ⟨by rfl,fun w9=>?_⟩) ?_;rotate_left 1;go_simp;with_reducible rfl) | (refine wpY_l ?_ (HBKY.out) (Or.inl ⟨by rfl,fun w9 hw9=>?_⟩) ?_;rotate_left 1;first | (have x0:=(hw9.cell (p:=⟨gx,ox+m1,none⟩) hgx).trans x0;have y0:=(hw9.cell (p:=⟨gx,ox+m2,none⟩) hgy).trans y0);go_simp;with_reducible rfl) | refine wpY_w undef (Or.inr ⟨by rfl,rfl⟩) ?_ | refine wpY_l undef (HBKY.out) (Or.inr ⟨by rfl,rfl⟩) ?_);go_frame)
               refine wpY_es (fun K9 hK9=>?_)
               go_simp
               obtain ⟨VKX,hV⟩ : ∃V,V=(VKY.alloc (.cells #[.string ⟨#[]⟩] 9)):=⟨_,rfl⟩
               have hb:Below VKY.heap.size VKY VKX:=by rw [hV];exact ((Below.refl _ _).alloc (Nat.le_refl _) _)
               have HKY:=Lib.hid (HKY.out.new_ hb)
               have NE:=Lib.hid (show wm.heap.size≠VKY.heap.size from fun e=>by have:=HKYL.out;omega)
               have HKX:=Lib.hid (show Blk VKX (VKY.heap.size) 9 #[.string ⟨#[]⟩] by rw [hV];exact (Blk.new _ _ _))
               have HKXL:=Lib.hid HKX.out.lt
               have HBKX:=Lib.hid ((HBKY.out).trans (hb.mono (HBKY.out).size))
               have HGEKX:=Lib.hid (show wm.heap.size≤VKY.heap.size from (HBKY.out).size)
               rw [← hV]
               clear hb hV
               refine hK9 _ _ (HBKX.out) ?_
               clear hK9 K9
               try go_frame
               refine wpY_es (fun K9 hK9=>?_)
               have s0:VKX.cell? ⟨VKY.heap.size,0,none⟩=some (.string ⟨#[]⟩):=(HKX.out.cell 0).trans rfl
               have sf:=HKX.out.frozen 0
               have sl:=HKX.out.lt
               go_simp
               obtain ⟨UKX,hV⟩ : ∃V,V=VKX.setCell ⟨VKY.heap.size,0,none⟩ (.string x):=⟨_,rfl⟩
               have HBKXS:=Lib.hid (show Below wm.heap.size wm UKX by rw [hV];exact (HBKX.out).setCell HGEKX.out _)
               have HKX:=Lib.hid (show Blk UKX (VKY.heap.size) 9 #[.string x] by rw [hV];exact HKX.out.set_ 0 _)
               have HKY:=Lib.hid (show Blk UKX (wm.heap.size) 9 _ by rw [hV];exact HKY.out.far (NE.out) _)
               rw [← hV]
               clear hV s0 sf sl
               refine hK9 _ _ (HBKXS.out) ?_
               clear hK9 K9
               try go_frame
               refine wpY_es (fun K9 hK9=>?_)
               have s0:UKX.cell? ⟨wm.heap.size,0,none⟩=some (.string ⟨#[]⟩):=(HKY.out.cell 0).trans rfl
               have sf:=HKY.out.frozen 0
               have sl:=HKY.out.lt
               go_simp
               obtain ⟨UKY,hV⟩ : ∃V,V=UKX.setCell ⟨wm.heap.size,0,none⟩ (.string y):=⟨_,rfl⟩
               have HBKYS:=Lib.hid (show Below wm.heap.size wm UKY by rw [hV];exact (HBKXS.out).setCell HGEKY.out _)
               have HKY:=Lib.hid (show Blk UKY (wm.heap.size) 9 #[.string y] by rw [hV];exact HKY.out.set_ 0 _)
               have HKX:=Lib.hid (show Blk UKY (VKY.heap.size) 9 _ by rw [hV];exact HKX.out.far (Ne.symm NE.out) _)
               rw [← hV]
               clear hV s0 sf sl
               refine hK9 _ _ (HBKYS.out) ?_
               clear hK9 K9
               try go_frame
               refine wpY_nil ?_
               simp only [OnlyN_normal]
               refine hKK _ _ ?_
               clear hKK KK
               go_wp2_with fail
               go_meet
               case rel=>exact ⟨VKY.heap.size,wm.heap.size,rfl,rfl,HKX.out,HKY.out,HBKYS.out⟩
             · refine wpOp_cs rfl (fun K9 hK9=>?_)
               go_simp
               obtain ⟨VKX,hV⟩ : ∃V,V=(VKY.alloc (.cells #[.string ⟨#[]⟩] 9)):=⟨_,rfl⟩
               have hb:Below VKY.heap.size VKY VKX:=by rw [hV];exact ((Below.refl _ _).alloc (Nat.le_refl _) _)
               have HKY:=Lib.hid (HKY.out.new_ hb)
               have NE:=Lib.hid (show wm.heap.size≠VKY.heap.size from fun e=>by have:=HKYL.out;omega)
               have HKX:=Lib.hid (show Blk VKX (VKY.heap.size) 9 #[.string ⟨#[]⟩] by rw [hV];exact (Blk.new _ _ _))
               have HKXL:=Lib.hid HKX.out.lt
               have HBKX:=Lib.hid ((HBKY.out).trans (hb.mono (HBKY.out).size))
               have HGEKX:=Lib.hid (show wm.heap.size≤VKY.heap.size from (HBKY.out).size)
               rw [← hV]
               clear hb hV
               refine hK9 _ _ (fun _=>HBKX.out) ?_
               clear hK9 K9
               try go_frame
               try simp only [beside,List.filterMap_nil]
               refine wpY_es (fun K9 hK9=>?_)
               go_simp
               refine (HW2.out _).mono ?_
               rintro e w0 ⟨rfl,rfl⟩
               refine hK9 _ _ (HBKX.out) ?_
               clear hK9 K9
               try go_frame
               repeat ((first | (refine wpY_w ?_ (Or.inl ⟨by rfl,fun w9=>?_⟩) ?_;rotate_left 1;go_simp;with_reducible rfl) | (refine wpY_l ?_ (HBKX.out) (Or.inl ⟨by rfl,fun w9 hw9=>?_⟩) ?_;rotate_left 1;first | (have x0:=(hw9.cell (p:=⟨gx,ox+m1,none⟩) hgx).trans x0;have y0:=(hw9.cell (p:=⟨gx,ox+m2,none⟩) hgy).trans y0);go_simp;with_reducible rfl) | refine wpY_w undef (Or.inr ⟨by rfl,rfl⟩) ?_ | refine wpY_l undef (HBKX.out) (Or.inr ⟨by rfl,rfl⟩) ?_);go_frame)
               refine wpY_es (fun K9 hK9=>?_)
               have s0:VKX.cell? ⟨VKY.heap.size,0,none⟩=some (.string ⟨#[]⟩):=(HKX.out.cell 0).trans rfl
               have sf:=HKX.out.frozen 0
               have sl:=HKX.out.lt
               go_simp
               obtain ⟨UKX,hV⟩ : ∃V,V=VKX.setCell ⟨VKY.heap.size,0,none⟩ (.string x):=⟨_,rfl⟩
               have HBKXS:=Lib.hid (show Below wm.heap.size wm UKX by rw [hV];exact (HBKX.out).setCell HGEKX.out _)
               have HKX:=Lib.hid (show Blk UKX (VKY.heap.size) 9 #[.string x] by rw [hV];exact HKX.out.set_ 0 _)
               have HKY:=Lib.hid (show Blk UKX (wm.heap.size) 9 _ by rw [hV];exact HKY.out.far (NE.out) _)
               rw [← hV]
               clear hV s0 sf sl
               refine hK9 _ _ (HBKXS.out) ?_
               clear hK9 K9
               try go_frame
               refine wpY_es (fun K9 hK9=>?_)
               have s0:UKX.cell? ⟨wm.heap.size,0,none⟩=some (.string ⟨#[]⟩):=(HKY.out.cell 0).trans rfl
               have sf:=HKY.out.frozen 0
               have sl:=HKY.out.lt
               go_simp
               obtain ⟨UKY,hV⟩ : ∃V,V=UKX.setCell ⟨wm.heap.size,0,none⟩ (.string y):=⟨_,rfl⟩
               have HBKYS:=Lib.hid (show Below wm.heap.size wm UKY by rw [hV];exact (HBKXS.out).setCell HGEKY.out _)
               have HKY:=Lib.hid (show Blk UKY (wm.heap.size) 9 #[.string y] by rw [hV];exact HKY.out.set_ 0 _)
               have HKX:=Lib.hid (show Blk UKY (VKY.heap.size) 9 _ by rw [hV];exact HKX.out.far (Ne.symm NE.out) _)
               rw [← hV]
               clear hV s0 sf sl
               refine hK9 _ _ (HBKYS.out) ?_
               clear hK9 K9
               try go_frame
               refine wpY_nil ?_
               simp only [OnlyN_normal]
               refine hKK _ _ ?_
               clear hKK KK
               go_wp2_with fail
               go_meet
               case rel=>exact ⟨VKY.heap.size,wm.heap.size,rfl,rfl,HKX.out,HKY.out,HBKYS.out⟩
         · refine wpOp_cs rfl (fun K9 hK9=>?_)
           go_simp
           obtain ⟨VKX,hV⟩ : ∃V,V=(wm.alloc (.cells #[.string ⟨#[]⟩] 9)).drew:=⟨_,rfl⟩
           have hb:Below wm.heap.size wm VKX:=by rw [hV];exact ((Below.refl _ _).alloc (Nat.le_refl _) _).drew
           have HKX:=Lib.hid (show Blk VKX (wm.heap.size) 9 #[.string ⟨#[]⟩] by rw [hV];exact (Blk.new _ _ _).drew)
           have HKXL:=Lib.hid HKX.out.lt
           have HBKX:=Lib.hid hb
           have HGEKX:=Lib.hid (show wm.heap.size≤wm.heap.size from ((Below.refl wm.heap.size wm).drew).size)
           rw [← hV]
           clear hb hV
           refine hK9 _ _ (fun _=>HBKX.out) ?_
           clear hK9 K9
           try go_frame
           try simp only [beside,List.filterMap_nil]
           refine wpY_nil ⟨?_,?_⟩
           · refine wpOp_cs rfl (fun K9 hK9=>?_)
             go_simp
             refine (HW1.out _).mono ?_
             rintro e w0 ⟨rfl,rfl⟩
             refine hK9 _ _ (fun _=>HBKX.out) ?_
             clear hK9 K9
             try go_frame
             try simp only [beside,List.filterMap_nil]
             repeat ((first | (refine wpY_w ?_ (Or.inl ⟨by rfl,fun w9=>?_⟩) ?_;rotate_left 1;go_simp;with_reducible rfl) | (refine wpY_l ?_ (HBKX.out) (Or.inl ⟨by rfl,fun w9 hw9=>?_⟩) ?_;rotate_left 1;first | (have x0:=(hw9.cell (p:=⟨gx,ox+m1,none⟩) hgx).trans x0;have y0:=(hw9.cell (p:=⟨gx,ox+m2,none⟩) hgy).trans y0);go_simp;with_reducible rfl) | refine wpY_w undef (Or.inr ⟨by rfl,rfl⟩) ?_ | refine wpY_l undef (HBKX.out) (Or.inr ⟨by rfl,rfl⟩) ?_);go_frame)
             refine wpY_nil ⟨?_,?_⟩
             · refine wpOp_cs rfl (fun K9 hK9=>?_)
               go_simp
               refine (HW2.out _).mono ?_
               rintro e w0 ⟨rfl,rfl⟩
               refine hK9 _ _ (fun _=>HBKX.out) ?_
               clear hK9 K9
               try go_frame
               try simp only [beside,List.filterMap_nil]
               repeat ((first | (refine wpY_w ?_ (Or.inl ⟨by rfl,fun w9=>?_⟩) ?_;rotate_left 1;go_simp;with_reducible rfl) | (refine wpY_l ?_ (HBKX.out) (Or.inl ⟨by rfl,fun w9 hw9=>?_⟩) ?_;rotate_left 1;first | (have x0:=(hw9.cell (p:=⟨gx,ox+m1,none⟩) hgx).trans x0;have y0:=(hw9.cell (p:=⟨gx,ox+m2,none⟩) hgy).trans y0);go_simp;with_reducible rfl) | refine wpY_w undef (Or.inr ⟨by rfl,rfl⟩) ?_ | refine wpY_l undef (HBKX.out) (Or.inr ⟨by rfl,rfl⟩) ?_);go_frame)
               refine wpY_es (fun K9 hK9=>?_)
               go_simp
               obtain ⟨VKY,hV⟩ : ∃V,V=(VKX.alloc (.cells #[.string ⟨#[]⟩] 9)):=⟨_,rfl⟩
               have hb:Below VKX.heap.size VKX VKY:=by rw [hV];exact ((Below.refl _ _).alloc (Nat.le_refl _) _)
               have HKX:=Lib.hid (HKX.out.new_ hb)
               have NE:=Lib.hid (show wm.heap.size≠VKX.heap.size from fun e=>by have:=HKXL.out;omega)
               have HKY:=Lib.hid (show Blk VKY (VKX.heap.size) 9 #[.string ⟨#[]⟩] by rw [hV];exact (Blk.new _ _ _))
               have HKYL:=Lib.hid HKY.out.lt
               have HBKY:=Lib.hid ((HBKX.out).trans (hb.mono (HBKX.out).size))
               have HGEKY:=Lib.hid (show wm.heap.size≤VKX.heap.size from (HBKX.out).size)
               rw [← hV]
               clear hb hV
               refine hK9 _ _ (HBKY.out) ?_
               clear hK9 K9
               try go_frame
               refine wpY_es (fun K9 hK9=>?_)
               have s0:VKY.cell? ⟨wm.heap.size,0,none⟩=some (.string ⟨#[]⟩):=(HKX.out.cell 0).trans rfl
               have sf:=HKX.out.frozen 0
               have sl:=HKX.out.lt
               go_simp
               obtain ⟨UKX,hV⟩ : ∃V,V=VKY.setCell ⟨wm.heap.size,0,none⟩ (.string x):=⟨_,rfl⟩
               have HBKXS:=Lib.hid (show Below wm.heap.size wm UKX by rw [hV];exact (HBKY.out).setCell HGEKX.out _)
               have HKX:=Lib.hid (show Blk UKX (wm.heap.size) 9 #[.string x] by rw [hV];exact HKX.out.set_ 0 _)
               have HKY:=Lib.hid (show Blk UKX (VKX.heap.size) 9 _ by rw [hV];exact HKY.out.far (Ne.symm NE.out) _)
               rw [← hV]
               clear hV s0 sf sl
               refine hK9 _ _ (HBKXS.out) ?_
               clear hK9 K9
               try go_frame
               refine wpY_es (fun K9 hK9=>?_)
               have s0:UKX.cell? ⟨VKX.heap.size,0,none⟩=some (.string ⟨#[]⟩):=(HKY.out.cell 0).trans rfl
               have sf:=HKY.out.frozen 0
               have sl:=HKY.out.lt
               go_simp
               obtain ⟨UKY,hV⟩ : ∃V,V=UKX.setCell ⟨VKX.heap.size,0,none⟩ (.string y):=⟨_,rfl⟩
               have HBKYS:=Lib.hid (show Below wm.heap.size wm UKY by rw [hV];exact (HBKXS.out).setCell HGEKY.out _)
               have HKY:=Lib.hid (show Blk UKY (VKX.heap.size) 9 #[.string y] by rw [hV];exact HKY.out.set_ 0 _)
               have HKX:=Lib.hid (show Blk UKY (wm.heap.size) 9 _ by rw [hV];exact HKX.out.far (NE.out) _)
               rw [← hV]
               clear hV s0 sf sl
               refine hK9 _ _ (HBKYS.out) ?_
               clear hK9 K9
               try go_frame
               refine wpY_nil ?_
               simp only [OnlyN_normal]
               refine hKK _ _ ?_
               clear hKK KK
               go_wp2_with fail
               go_meet
               case rel=>exact ⟨wm.heap.size,VKX.heap.size,rfl,rfl,HKX.out,HKY.out,HBKYS.out⟩
             · refine wpOp_cs rfl (fun K9 hK9=>?_)
               go_simp
               obtain ⟨VKY,hV⟩ : ∃V,V=(VKX.alloc (.cells #[.string ⟨#[]⟩] 9)):=⟨_,rfl⟩
               have hb:Below VKX.heap.size VKX VKY:=by rw [hV];exact ((Below.refl _ _).alloc (Nat.le_refl _) _)
               have HKX:=Lib.hid (HKX.out.new_ hb)
               have NE:=Lib.hid (show wm.heap.size≠VKX.heap.size from fun e=>by have:=HKXL.out;omega)
               have HKY:=Lib.hid (show Blk VKY (VKX.heap.size) 9 #[.string ⟨#[]⟩] by rw [hV];exact (Blk.new _ _ _))
               have HKYL:=Lib.hid HKY.out.lt
               have HBKY:=Lib.hid ((HBKX.out).trans (hb.mono (HBKX.out).size))
               have HGEKY:=Lib.hid (show wm.heap.size≤VKX.heap.size from (HBKX.out).size)
               rw [← hV]
               clear hb hV
               refine hK9 _ _ (fun _=>HBKY.out) ?_
               clear hK9 K9
               try go_frame
               try simp only [beside,List.filterMap_nil]
               refine wpY_es (fun K9 hK9=>?_)
               go_simp
               refine (HW2.out _).mono ?_
               rintro e w0 ⟨rfl,rfl⟩
               refine hK9 _ _ (HBKY.out) ?_
               clear hK9 K9
               try go_frame
               repeat ((first | (refine wpY_w ?_ (Or.inl ⟨by rfl,fun w9=>?_⟩) ?_;rotate_left 1;go_simp;with_reducible rfl) | (refine wpY_l ?_ (HBKY.out) (Or.inl ⟨by rfl,fun w9 hw9=>?_⟩) ?_;rotate_left 1;first | (have x0:=(hw9.cell (p:=⟨gx,ox+m1,none⟩) hgx).trans x0;have y0:=(hw9.cell (p:=⟨gx,ox+m2,none⟩) hgy).trans y0);go_simp;with_reducible rfl) | refine wpY_w undef (Or.inr ⟨by rfl,rfl⟩) ?_ | refine wpY_l undef (HBKY.out) (Or.inr ⟨by rfl,rfl⟩) ?_);go_frame)
               refine wpY_es (fun K9 hK9=>?_)
               have s0:VKY.cell? ⟨wm.heap.size,0,none⟩=some (.string ⟨#[]⟩):=(HKX.out.cell 0).trans rfl
               have sf:=HKX.out.frozen 0
               have sl:=HKX.out.lt
               go_simp
               obtain ⟨UKX,hV⟩ : ∃V,V=VKY.setCell ⟨wm.heap.size,0,none⟩ (.string x):=⟨_,rfl⟩
               have HBKXS:=Lib.hid (show Below wm.heap.size wm UKX by rw [hV];exact (HBKY.out).setCell HGEKX.out _)
               have HKX:=Lib.hid (show Blk UKX (wm.heap.size) 9 #[.string x] by rw [hV];exact HKX.out.set_ 0 _)
               have HKY:=Lib.hid (show Blk UKX (VKX.heap.size) 9 _ by rw [hV];exact HKY.out.far (Ne.symm NE.out) _)
               rw [← hV]
               clear hV s0 sf sl
               refine hK9 _ _ (HBKXS.out) ?_
               clear hK9 K9
               try go_frame
               refine wpY_es (fun K9 hK9=>?_)
               have s0:UKX.cell? ⟨VKX.heap.size,0,none⟩=some (.string ⟨#[]⟩):=(HKY.out.cell 0).trans rfl
               have sf:=HKY.out.frozen 0
               have sl:=HKY.out.lt
               go_simp
               obtain ⟨UKY,hV⟩ : ∃V,V=UKX.setCell ⟨VKX.heap.size,0,none⟩ (.string y):=⟨_,rfl⟩
               have HBKYS:=Lib.hid (show Below wm.heap.size wm UKY by rw [hV];exact (HBKXS.out).setCell HGEKY.out _)
               have HKY:=Lib.hid (show Blk UKY (VKX.heap.size) 9 #[.string y] by rw [hV];exact HKY.out.set_ 0 _)
               have HKX:=Lib.hid (show Blk UKY (wm.heap.size) 9 _ by rw [hV];exact HKX.out.far (NE.out) _)
               rw [← hV]
               clear hV s0 sf sl
               refine hK9 _ _ (HBKYS.out) ?_
               clear hK9 K9
               try go_frame
               refine wpY_nil ?_
               simp only [OnlyN_normal]
               refine hKK _ _ ?_
               clear hKK KK
               go_wp2_with fail
               go_meet
               case rel=>exact ⟨wm.heap.size,VKX.heap.size,rfl,rfl,HKX.out,HKY.out,HBKYS.out⟩
           · refine wpOp_cs rfl (fun K9 hK9=>?_)
             go_simp
             obtain ⟨VKY,hV⟩ : ∃V,V=(VKX.alloc (.cells #[.string ⟨#[]⟩] 9)):=⟨_,rfl⟩
             have hb:Below VKX.heap.size VKX VKY:=by rw [hV];exact ((Below.refl _ _).alloc (Nat.le_refl _) _)
             have HKX:=Lib.hid (HKX.out.new_ hb)
             have NE:=Lib.hid (show wm.heap.size≠VKX.heap.size from fun e=>by have:=HKXL.out;omega)
             have HKY:=Lib.hid (show Blk VKY (VKX.heap.size) 9 #[.string ⟨#[]⟩] by rw [hV];exact (Blk.new _ _ _))
             have HKYL:=Lib.hid HKY.out.lt
             have HBKY:=Lib.hid ((HBKX.out).trans (hb.mono (HBKX.out).size))
             have HGEKY:=Lib.hid (show wm.heap.size≤VKX.heap.size from (HBKX.out).size)
             rw [← hV]
             clear hb hV
             refine hK9 _ _ (fun _=>HBKY.out) ?_
             clear hK9 K9
             try go_frame
             try simp only [beside,List.filterMap_nil]
             refine wpY_es (fun K9 hK9=>?_)
             go_simp
             refine (HW1.out _).mono ?_
             rintro e w0 ⟨rfl,rfl⟩
             refine hK9 _ _ (HBKY.out) ?_
             clear hK9 K9
             try go_frame
             repeat ((first | (refine wpY_w ?_ (Or.inl ⟨by rfl,fun w9=>?_⟩) ?_;rotate_left 1;go_simp;with_reducible rfl) | (refine wpY_l ?_ (HBKY.out) (Or.inl ⟨by rfl,fun w9 hw9=>?_⟩) ?_;rotate_left 1;first | (have x0:=(hw9.cell (p:=⟨gx,ox+m1,none⟩) hgx).trans x0;have y0:=(hw9.cell (p:=⟨gx,ox+m2,none⟩) hgy).trans y0);go_simp;with_reducible rfl) | refine wpY_w undef (Or.inr ⟨by rfl,rfl⟩) ?_ | refine wpY_l undef (HBKY.out) (Or.inr ⟨by rfl,rfl⟩) ?_);go_frame)
             refine wpY_es (fun K9 hK9=>?_)
             go_simp
             refine (HW2.out _).mono ?_
             rintro e w0 ⟨rfl,rfl⟩
             refine hK9 _ _ (HBKY.out) ?_
             clear hK9 K9
             try go_frame
             repeat ((first | (refine wpY_w ?_ (Or.inl ⟨by rfl,fun w9=>?_⟩) ?_;rotate_left 1;go_simp;with_reducible rfl) | (refine wpY_l ?_ (HBKY.out) (Or.inl ⟨by rfl,fun w9 hw9=>?_⟩) ?_;rotate_left 1;first | (have x0:=(hw9.cell (p:=⟨gx,ox+m1,none⟩) hgx).trans x0;have y0:=(hw9.cell (p:=⟨gx,ox+m2,none⟩) hgy).trans y0);go_simp;with_reducible rfl) | refine wpY_w undef (Or.inr ⟨by rfl,rfl⟩) ?_ | refine wpY_l undef (HBKY.out) (Or.inr ⟨by rfl,rfl⟩) ?_);go_frame)
             refine wpY_es (fun K9 hK9=>?_)
             have s0:VKY.cell? ⟨wm.heap.size,0,none⟩=some (.string ⟨#[]⟩):=(HKX.out.cell 0).trans rfl
             have sf:=HKX.out.frozen 0
             have sl:=HKX.out.lt
             go_simp
             obtain ⟨UKX,hV⟩ : ∃V,V=VKY.setCell ⟨wm.heap.size,0,none⟩ (.string x):=⟨_,rfl⟩
             have HBKXS:=Lib.hid (show Below wm.heap.size wm UKX by rw [hV];exact (HBKY.out).setCell HGEKX.out _)
             have HKX:=Lib.hid (show Blk UKX (wm.heap.size) 9 #[.string x] by rw [hV];exact HKX.out.set_ 0 _)
             have HKY:=Lib.hid (show Blk UKX (VKX.heap.size) 9 _ by rw [hV];exact HKY.out.far (Ne.symm NE.out) _)
             rw [← hV]
             clear hV s0 sf sl
             refine hK9 _ _ (HBKXS.out) ?_
             clear hK9 K9
             try go_frame
             refine wpY_es (fun K9 hK9=>?_)
             have s0:UKX.cell? ⟨VKX.heap.size,0,none⟩=some (.string ⟨#[]⟩):=(HKY.out.cell 0).trans rfl
             have sf:=HKY.out.frozen 0
             have sl:=HKY.out.lt
             go_simp
             obtain ⟨UKY,hV⟩ : ∃V,V=UKX.setCell ⟨VKX.heap.size,0,none⟩ (.string y):=⟨_,rfl⟩
             have HBKYS:=Lib.hid (show Below wm.heap.size wm UKY by rw [hV];exact (HBKXS.out).setCell HGEKY.out _)
             have HKY:=Lib.hid (show Blk UKY (VKX.heap.size) 9 #[.string y] by rw [hV];exact HKY.out.set_ 0 _)
             have HKX:=Lib.hid (show Blk UKY (wm.heap.size) 9 _ by rw [hV];exact HKX.out.far (NE.out) _)
             rw [← hV]
             clear hV s0 sf sl
             refine hK9 _ _ (HBKYS.out) ?_
             clear hK9 K9
             try go_frame
             refine wpY_nil ?_
             simp only [OnlyN_normal]
             refine hKK _ _ ?_
             clear hKK KK
             go_wp2_with fail
             go_meet
             case rel=>exact ⟨wm.heap.size,VKX.heap.size,rfl,rfl,HKX.out,HKY.out,HBKYS.out⟩
         · refine wpOp_cs rfl (fun K9 hK9=>?_)
           go_simp
           obtain ⟨VKY,hV⟩ : ∃V,V=(wm.alloc (.cells #[.string ⟨#[]⟩] 9)).drew:=⟨_,rfl⟩
           have hb:Below wm.heap.size wm VKY:=by rw [hV];exact ((Below.refl _ _).alloc (Nat.le_refl _) _).drew
           have HKY:=Lib.hid (show Blk VKY (wm.heap.size) 9 #[.string ⟨#[]⟩] by rw [hV];exact (Blk.new _ _ _).drew)
           have HKYL:=Lib.hid HKY.out.lt
           have HBKY:=Lib.hid hb
           have HGEKY:=Lib.hid (show wm.heap.size≤wm.heap.size from ((Below.refl wm.heap.size wm).drew).size)
           rw [← hV]
           clear hb hV
           refine hK9 _ _ (fun _=>HBKY.out) ?_
           clear hK9 K9
           try go_frame
           try simp only [beside,List.filterMap_nil]
           refine wpY_nil ⟨?_,?_⟩
           · refine wpOp_cs rfl (fun K9 hK9=>?_)
             go_simp
             refine (HW1.out _).mono ?_
             rintro e w0 ⟨rfl,rfl⟩
             refine hK9 _ _ (fun _=>HBKY.out) ?_
             clear hK9 K9
             try go_frame
             try simp only [beside,List.filterMap_nil]
             repeat ((first | (refine wpY_w ?_ (Or.inl ⟨by rfl,fun w9=>?_⟩) ?_;rotate_left 1;go_simp;with_reducible rfl) | (refine wpY_l ?_ (HBKY.out) (Or.inl ⟨by rfl,fun w9 hw9=>?_⟩) ?_;rotate_left 1;first | (have x0:=(hw9.cell (p:=⟨gx,ox+m1,none⟩) hgx).trans x0;have y0:=(hw9.cell (p:=⟨gx,ox+m2,none⟩) hgy).trans y0);go_simp;with_reducible rfl) | refine wpY_w undef (Or.inr ⟨by rfl,rfl⟩) ?_ | refine wpY_l undef (HBKY.out) (Or.inr ⟨by rfl,rfl⟩) ?_);go_frame)
             refine wpY_nil ⟨?_,?_⟩
             · refine wpOp_cs rfl (fun K9 hK9=>?_)
               go_simp
               refine (HW2.out _).mono ?_
               rintro e w0 ⟨rfl,rfl⟩
               refine hK9 _ _ (fun _=>HBKY.out) ?_
               clear hK9 K9
               try go_frame
               try simp only [beside,List.filterMap_nil]
               repeat ((first | (refine wpY_w ?_ (Or.inl ⟨by rfl,fun w9=>?_⟩) ?_;rotate_left 1;go_simp;with_reducible rfl) | (refine wpY_l ?_ (HBKY.out) (Or.inl ⟨by rfl,fun w9 hw9=>?_⟩) ?_;rotate_left 1;first | (have x0:=(hw9.cell (p:=⟨gx,ox+m1,none⟩) hgx).trans x0;have y0:=(hw9.cell (p:=⟨gx,ox+m2,none⟩) hgy).trans y0);go_simp;with_reducible rfl) | refine wpY_w undef (Or.inr ⟨by rfl,rfl⟩) ?_ | refine wpY_l undef (HBKY.out) (Or.inr ⟨by rfl,rfl⟩) ?_);go_frame)
               refine wpY_es (fun K9 hK9=>?_)
               go_simp
               obtain ⟨VKX,hV⟩ : ∃V,V=(VKY.alloc (.cells #[.string ⟨#[]⟩] 9)):=⟨_,rfl⟩
               have hb:Below VKY.heap.size VKY VKX:=by rw [hV];exact ((Below.refl _ _).alloc (Nat.le_refl _) _)
               have HKY:=Lib.hid (HKY.out.new_ hb)
               have NE:=Lib.hid (show wm.heap.size≠VKY.heap.size from fun e=>by have:=HKYL.out;omega)
               have HKX:=Lib.hid (show Blk VKX (VKY.heap.size) 9 #[.string ⟨#[]⟩] by rw [hV];exact (Blk.new _ _ _))
               have HKXL:=Lib.hid HKX.out.lt
               have HBKX:=Lib.hid ((HBKY.out).trans (hb.mono (HBKY.out).size))
               have HGEKX:=Lib.hid (show wm.heap.size≤VKY.heap.size from (HBKY.out).size)
               rw [← hV]
               clear hb hV
               refine hK9 _ _ (HBKX.out) ?_
               clear hK9 K9
               try go_frame
               refine wpY_es (fun K9 hK9=>?_)
               have s0:VKX.cell? ⟨VKY.heap.size,0,none⟩=some (.string ⟨#[]⟩):=(HKX.out.cell 0).trans rfl
               have sf:=HKX.out.frozen 0
               have sl:=HKX.out.lt
               go_simp
               obtain ⟨UKX,hV⟩ : ∃V,V=VKX.setCell ⟨VKY.heap.size,0,none⟩ (.string x):=⟨_,rfl⟩
               have HBKXS:=Lib.hid (show Below wm.heap.size wm UKX by rw [hV];exact (HBKX.out).setCell HGEKX.out _)
               have HKX:=Lib.hid (show Blk UKX (VKY.heap.size) 9 #[.string x] by rw [hV];exact HKX.out.set_ 0 _)
               have HKY:=Lib.hid (show Blk UKX (wm.heap.size) 9 _ by rw [hV];exact HKY.out.far (NE.out) _)
               rw [← hV]
               clear hV s0 sf sl
               refine hK9 _ _ (HBKXS.out) ?_
               clear hK9 K9
               try go_frame
               refine wpY_es (fun K9 hK9=>?_)
               have s0:UKX.cell? ⟨wm.heap.size,0,none⟩=some (.string ⟨#[]⟩):=(HKY.out.cell 0).trans rfl
               have sf:=HKY.out.frozen 0
               have sl:=HKY.out.lt
               go_simp
               obtain ⟨UKY,hV⟩ : ∃V,V=UKX.setCell ⟨wm.heap.size,0,none⟩ (.string y):=⟨_,rfl⟩
               have HBKYS:=Lib.hid (show Below wm.heap.size wm UKY by rw [hV];exact (HBKXS.out).setCell HGEKY.out _)
               have HKY:=Lib.hid (show Blk UKY (wm.heap.size) 9 #[.string y] by rw [hV];exact HKY.out.set_ 0 _)
               have HKX:=Lib.hid (show Blk UKY (VKY.heap.size) 9 _ by rw [hV];exact HKX.out.far (Ne.symm NE.out) _)
               rw [← hV]
               clear hV s0 sf sl
               refine hK9 _ _ (HBKYS.out) ?_
               clear hK9 K9
               try go_frame
               refine wpY_nil ?_
               simp only [OnlyN_normal]
               refine hKK _ _ ?_
               clear hKK KK
               go_wp2_with fail
               go_meet
               case rel=>exact ⟨VKY.heap.size,wm.heap.size,rfl,rfl,HKX.out,HKY.out,HBKYS.out⟩
             · refine wpOp_cs rfl (fun K9 hK9=>?_)
               go_simp
               obtain ⟨VKX,hV⟩ : ∃V,V=(VKY.alloc (.cells #[.string ⟨#[]⟩] 9)):=⟨_,rfl⟩
               have hb:Below VKY.heap.size VKY VKX:=by rw [hV];exact ((Below.refl _ _).alloc (Nat.le_refl _) _)
               have HKY:=Lib.hid (HKY.out.new_ hb)
               have NE:=Lib.hid (show wm.heap.size≠VKY.heap.size from fun e=>by have:=HKYL.out;omega)
               have HKX:=Lib.hid (show Blk VKX (VKY.heap.size) 9 #[.string ⟨#[]⟩] by rw [hV];exact (Blk.new _ _ _))
               have HKXL:=Lib.hid HKX.out.lt
               have HBKX:=Lib.hid ((HBKY.out).trans (hb.mono (HBKY.out).size))
               have HGEKX:=Lib.hid (show wm.heap.size≤VKY.heap.size from (HBKY.out).size)
               rw [← hV]
               clear hb hV
               refine hK9 _ _ (fun _=>HBKX.out) ?_
               clear hK9 K9
               try go_frame
               try simp only [beside,List.filterMap_nil]
               refine wpY_es (fun K9 hK9=>?_)
               go_simp
               refine (HW2.out _).mono ?_
               rintro e w0 ⟨rfl,rfl⟩
               refine hK9 _ _ (HBKX.out) ?_
               clear hK9 K9
               try go_frame
               repeat ((first | (refine wpY_w ?_ (Or.inl ⟨by rfl,fun w9=>?_⟩) ?_;rotate_left 1;go_simp;with_reducible rfl) | (refine wpY_l ?_ (HBKX.out) (Or.inl ⟨by rfl,fun w9 hw9=>?_⟩) ?_;rotate_left 1;first | (have x0:=(hw9.cell (p:=⟨gx,ox+m1,none⟩) hgx).trans x0;have y0:=(hw9.cell (p:=⟨gx,ox+m2,none⟩) hgy).trans y0);go_simp;with_reducible rfl) | refine wpY_w undef (Or.inr ⟨by rfl,rfl⟩) ?_ | refine wpY_l undef (HBKX.out) (Or.inr ⟨by rfl,rfl⟩) ?_);go_frame)
               refine wpY_es (fun K9 hK9=>?_)
               have s0:VKX.cell? ⟨VKY.heap.size,0,none⟩=some (.string ⟨#[]⟩):=(HKX.out.cell 0).trans rfl
               have sf:=HKX.out.frozen 0
               have sl:=HKX.out.lt
               go_simp
               obtain ⟨UKX,hV⟩ : ∃V,V=VKX.setCell ⟨VKY.heap.size,0,none⟩ (.string x):=⟨_,rfl⟩
               have HBKXS:=Lib.hid (show Below wm.heap.size wm UKX by rw [hV];exact (HBKX.out).setCell HGEKX.out _)
               have HKX:=Lib.hid (show Blk UKX (VKY.heap.size) 9 #[.string x] by rw [hV];exact HKX.out.set_ 0 _)
               have HKY:=Lib.hid (show Blk UKX (wm.heap.size) 9 _ by rw [hV];exact HKY.out.far (NE.out) _)
               rw [← hV]
               clear hV s0 sf sl
               refine hK9 _ _ (HBKXS.out) ?_
               clear hK9 K9
               try go_frame
               refine wpY_es (fun K9 hK9=>?_)
               have s0:UKX.cell? ⟨wm.heap.size,0,none⟩=some (.string ⟨#[]⟩):=(HKY.out.cell 0).trans rfl
               have sf:=HKY.out.frozen 0
               have sl:=HKY.out.lt
               go_simp
               obtain ⟨UKY,hV⟩ : ∃V,V=UKX.setCell ⟨wm.heap.size,0,none⟩ (.string y):=⟨_,rfl⟩
               have HBKYS:=Lib.hid (show Below wm.heap.size wm UKY by rw [hV];exact (HBKXS.out).setCell HGEKY.out _)
               have HKY:=Lib.hid (show Blk UKY (wm.heap.size) 9 #[.string y] by rw [hV];exact HKY.out.set_ 0 _)
               have HKX:=Lib.hid (show Blk UKY (VKY.heap.size) 9 _ by rw [hV];exact HKX.out.far (Ne.symm NE.out) _)
               rw [← hV]
               clear hV s0 sf sl
               refine hK9 _ _ (HBKYS.out) ?_
               clear hK9 K9
               try go_frame
               refine wpY_nil ?_
               simp only [OnlyN_normal]
               refine hKK _ _ ?_
               clear hKK KK
               go_wp2_with fail
               go_meet
               case rel=>exact ⟨VKY.heap.size,wm.heap.size,rfl,rfl,HKX.out,HKY.out,HBKYS.out⟩
           · refine wpOp_cs rfl (fun K9 hK9=>?_)
             go_simp
             obtain ⟨VKX,hV⟩ : ∃V,V=(VKY.alloc (.cells #[.string ⟨#[]⟩] 9)):=⟨_,rfl⟩
             have hb:Below VKY.heap.size VKY VKX:=by rw [hV];exact ((Below.refl _ _).alloc (Nat.le_refl _) _)
             have HKY:=Lib.hid (HKY.out.new_ hb)
             have NE:=Lib.hid (show wm.heap.size≠VKY.heap.size from fun e=>by have:=HKYL.out;omega)
             have HKX:=Lib.hid (show Blk VKX (VKY.heap.size) 9 #[.string ⟨#[]⟩] by rw [hV];exact (Blk.new _ _ _))
             have HKXL:=Lib.hid HKX.out.lt
             have HBKX:=Lib.hid ((HBKY.out).trans (hb.mono (HBKY.out).size))
             have HGEKX:=Lib.hid (show wm.heap.size≤VKY.heap.size from (HBKY.out).size)
             rw [← hV]
             clear hb hV
             refine hK9 _ _ (fun _=>HBKX.out) ?_
             clear hK9 K9
             try go_frame
             try simp only [beside,List.filterMap_nil]
             refine wpY_es (fun K9 hK9=>?_)
             go_simp
             refine (HW1.out _).mono ?_
             rintro e w0 ⟨rfl,rfl⟩
             refine hK9 _ _ (HBKX.out) ?_
             clear hK9 K9
             try go_frame
             repeat ((first | (refine wpY_w ?_ (Or.inl ⟨by rfl,fun w9=>?_⟩) ?_;rotate_left 1;go_simp;with_reducible rfl) | (refine wpY_l ?_ (HBKX.out) (Or.inl ⟨by rfl,fun w9 hw9=>?_⟩) ?_;rotate_left 1;first | (have x0:=(hw9.cell (p:=⟨gx,ox+m1,none⟩) hgx).trans x0;have y0:=(hw9.cell (p:=⟨gx,ox+m2,none⟩) hgy).trans y0);go_simp;with_reducible rfl) | refine wpY_w undef (Or.inr ⟨by rfl,rfl⟩) ?_ | refine wpY_l undef (HBKX.out) (Or.inr ⟨by rfl,rfl⟩) ?_);go_frame)
             refine wpY_es (fun K9 hK9=>?_)
             go_simp
             refine (HW2.out _).mono ?_
             rintro e w0 ⟨rfl,rfl⟩
             refine hK9 _ _ (HBKX.out) ?_
             clear hK9 K9
             try go_frame
             repeat ((first | (refine wpY_w ?_ (Or.inl ⟨by rfl,fun w9=>?_⟩) ?_;rotate_left 1;go_simp;with_reducible rfl) | (refine wpY_l ?_ (HBKX.out) (Or.inl ⟨by rfl,fun w9 hw9=>?_⟩) ?_;rotate_left 1;first | (have x0:=(hw9.cell (p:=⟨gx,ox+m1,none⟩) hgx).trans x0;have y0:=(hw9.cell (p:=⟨gx,ox+m2,none⟩) hgy).trans y0);go_simp;with_reducible rfl) | refine wpY_w undef (Or.inr ⟨by rfl,rfl⟩) ?_ | refine wpY_l undef (HBKX.out) (Or.inr ⟨by rfl,rfl⟩) ?_);go_frame)
             refine wpY_es (fun K9 hK9=>?_)
             have s0:VKX.cell? ⟨VKY.heap.size,0,none⟩=some (.string ⟨#[]⟩):=(HKX.out.cell 0).trans rfl
             have sf:=HKX.out.frozen 0
             have sl:=HKX.out.lt
             go_simp
             obtain ⟨UKX,hV⟩ : ∃V,V=VKX.setCell ⟨VKY.heap.size,0,none⟩ (.string x):=⟨_,rfl⟩
             have HBKXS:=Lib.hid (show Below wm.heap.size wm UKX by rw [hV];exact (HBKX.out).setCell HGEKX.out _)
             have HKX:=Lib.hid (show Blk UKX (VKY.heap.size) 9 #[.string x] by rw [hV];exact HKX.out.set_ 0 _)
             have HKY:=Lib.hid (show Blk UKX (wm.heap.size) 9 _ by rw [hV];exact HKY.out.far (NE.out) _)
             rw [← hV]
             clear hV s0 sf sl
             refine hK9 _ _ (HBKXS.out) ?_
             clear hK9 K9
             try go_frame
             refine wpY_es (fun K9 hK9=>?_)
             have s0:UKX.cell? ⟨wm.heap.size,0,none⟩=some (.string ⟨#[]⟩):=(HKY.out.cell 0).trans rfl
             have sf:=HKY.out.frozen 0
             have sl:=HKY.out.lt
             go_simp
             obtain ⟨UKY,hV⟩ : ∃V,V=UKX.setCell ⟨wm.heap.size,0,none⟩ (.string y):=⟨_,rfl⟩
             have HBKYS:=Lib.hid (show Below wm.heap.size wm UKY by rw [hV];exact (HBKXS.out).setCell HGEKY.out _)
             have HKY:=Lib.hid (show Blk UKY (wm.heap.size) 9 #[.string y] by rw [hV];exact HKY.out.set_ 0 _)
             have HKX:=Lib.hid (show Blk UKY (VKY.heap.size) 9 _ by rw [hV];exact HKX.out.far (Ne.symm NE.out) _)
             rw [← hV]
             clear hV s0 sf sl
             refine hK9 _ _ (HBKYS.out) ?_
             clear hK9 K9
             try go_frame
             refine wpY_nil ?_
             simp only [OnlyN_normal]
             refine hKK _ _ ?_
             clear hKK KK
             go_wp2_with fail
             go_meet
             case rel=>exact ⟨VKY.heap.size,wm.heap.size,rfl,rfl,HKX.out,HKY.out,HBKYS.out⟩
        case rest=>
         obtain ⟨kx,ky,rfl,rfl,hKx,hKy,hbq⟩:=hcut
         have HB:=Lib.hid (HB.out.trans (hbq.mono HBL.out))
         have Ko:=Lib.hid (Ko.out.new_ hbq)
         obtain ⟨wq,hwq⟩ : ∃wq,wq=wc:=⟨_,rfl⟩
         rw [← hwq] at HB Ko hKx hKy ⊢
         have HKX:=Lib.hid hKx
         have HKY:=Lib.hid hKy
         have hz5:=HB.out.size
         clear hwq hbq hKx hKy x0 y0 b1 b2 b3 b4
         have x0:wq.cell? ⟨kx,0,none⟩=some (.string x):=(HKX.out.cell 0).trans rfl
         have y0:wq.cell? ⟨ky,0,none⟩=some (.string y):=(HKY.out.cell 0).trans rfl
         have xz:=HKX.out.lt
         have yz:=HKY.out.lt
         go_upto_if 82 with fail
         go_cut [18] from 80 (fun s wc=>Below wq.heap.size wq wc)
         case first=>
          by_cases hxy:x=y
          · have e1:(x.toList != y.toList)=false:=by rw [hxy];simp
            have e4:(!x.toList == y.toList)=false:=by rw [hxy];simp
            have e2:decide (x.toList=y.toList)=true:=by rw [hxy];simp
            have e3:(x.toList == y.toList)=true:=by rw [hxy];simp
            rw [e4]
            clear hxy
            go_wp2_with fail
            go_meet
            case rel=>exact Below.refl _ _
          · have e0 : ¬x.toList=y.toList:=strO_ne hxy
            have e1:(x.toList != y.toList)=true:=by simp [e0]
            have e4:(!x.toList == y.toList)=true:=by simp [e0]
            rw [e4]
            have e2:decide (x.toList=y.toList)=false:=by simp [e0]
            have e3:(x.toList == y.toList)=false:=by simp [e0]
            obtain ⟨r,hr⟩ : ∃r,r=prodR (mergeT x y) 20 p:=⟨_,rfl⟩
            have HNO:=Lib.hid (show sameC 20 p r=false by rw [hr];exact merge_no 20 p HY0.out HX.out HYM.out hxy)
            have HFR:=Lib.hid (show Fit 20 r by rw [hr];exact merge_fit HF.out HYM.out)
            have HRN:=Lib.hid (show r.name=p.name by rw [hr];rfl)
            have HREN:=Lib.hid (show Calls Try.prog 17 #[.agg #[.string p.name,.slice A1 p.conds.length c1,.slice A2 p.acts.length c2],.func (.func 23) #[] #[.pointer (some ⟨kx,0,none⟩),.pointer (some ⟨ky,0,none⟩)]] wq (FreshP 20 r wq) by
             rw [hr]
             exact crename_is (merger_is x y kx ky wq HKX.out HKY.out) 20 p A1 c1 A2 c2 wq (Below.refl _ _) (HR1.out.new_ HB.out) (H2.out.new_ HB.out) HF.out.c HF.out.a HF.out.s (fun c _=>qc_true 20 c) (fun a _=>qa_true a))
            have HSAME:=Lib.hid (show ∀(W:World) (E1:Option Addr) (d1:Nat) (E2:Option Addr) (d2:Nat),Below w.heap.size w W→RowR (repCondT 20) (· < W.heap.size) W E1 d1 r.conds→RowR repActT (· < W.heap.size) W E2 d2 r.acts→Calls Try.prog 24 #[.agg #[.string p.name,.slice A1 p.conds.length c1,.slice A2 p.acts.length c2],.agg #[.string p.name,.slice E1 r.conds.length d1,.slice E2 r.acts.length d2]] W fun e w'=>e = .returned (.bool false)∧Below W.heap.size W w' from fun W E1 d1 E2 d2 hW k1 k2=>by
             have:=csame_is (D:=(· < W.heap.size)) 20 p r A1 c1 A2 c2 E1 d1 E2 d2 W (fun k hk=>hk) ((HR1.out.new_ hW).weaken (fun k hk=>Nat.lt_of_lt_of_le hk hW.size)) ((H2.out.new_ hW).weaken (fun k hk=>Nat.lt_of_lt_of_le hk hW.size)) HF.out k1 k2 HFR.out
             rw [HNO.out,HRN.out] at this
             exact this)
            obtain ⟨a0_,a1_,a2_⟩:=Ko.out.c3
            have az_:=Ko.out.lt
            clear hr hxy
            go_wp2_with fail
            refine HREN.out.mono ?_
            rintro e w5 ⟨E1,d1,E2,d2,rfl,r1,r2,hb5⟩
            rw [HRN.out]
            obtain ⟨w6,hw6⟩ : ∃W,W=w5.alloc (.cells #[.string p.name,.slice E1 r.conds.length d1,.slice E2 r.acts.length d2] 25):=⟨_,rfl⟩
            have hb6:Below w5.heap.size w5 w6:=by rw [hw6];exact (Below.refl _ _).alloc (Nat.le_refl _) _
            have hg6:Blk w6 w5.heap.size 25 #[.string p.name,.slice E1 r.conds.length d1,.slice E2 r.acts.length d2]:=by rw [hw6];exact Blk.new _ _ _
            have HW6:=Lib.hid hw6
            have HB6:=Lib.hid (hb5.trans (hb6.mono hb5.size))
            have HR6:=Lib.hid (HSAME.out w6 E1 d1 E2 d2 (HB.out.trans (HB6.out.mono HB.out.size)) ((r1.new_ hb6).weaken (fun k hk=>Nat.lt_of_lt_of_le hk.2 hb6.size)) ((r2.new_ hb6).weaken (fun k hk=>Nat.lt_of_lt_of_le hk.2 hb6.size)))
            have Ko6:=Lib.hid (Ko.out.new_ HB6.out)
            have HG6:=Lib.hid hg6
            clear a0_ a1_ a2_ az_ x0 y0 xz yz hb5 hb6 hg6 hw6 r1 r2
            go_upto_region 21 with fail
            rw [← HW6.out]
            obtain ⟨a0_,a1_,a2_⟩:=Ko6.out.c3
            have az_:=Ko6.out.lt
            obtain ⟨g0,g1,g2⟩:=HG6.out.c3
            have gz:=HG6.out.lt
            go_wp2_with fail
            refine HR6.out.mono ?_
            rintro e w7 ⟨rfl,hb7⟩
            have HB7:=Lib.hid (HB6.out.trans (hb7.mono HB6.out.size))
            clear hb7 a0_ a1_ a2_ az_ g0 g1 g2 gz
            go_wp2_with fail
            go_meet
            case rel=>exact HB7.out
         case rest=>
          have hbq:=hcut
          have HB:=Lib.hid (HB.out.trans (hbq.mono hz5))
          have Ko:=Lib.hid (Ko.out.new_ hbq)
          obtain ⟨wt,hwt⟩ : ∃wt,wt=wc:=⟨_,rfl⟩
          rw [← hwt] at HB Ko ⊢
          obtain ⟨a0_,a1_,a2_⟩:=Ko.out.c3
          have az_:=Ko.out.lt
          have hz6:=HB.out.size
          have HCP:=Lib.hid (copyprodC_is 20 p A1 c1 A2 c2 wt (HR1.out.new_ HB.out) (H2.out.new_ HB.out) HF.out.c HF.out.a HF.out.s)
          clear hwt hbq hcut x0 y0 xz yz
          go_wp2_with fail
          refine HCP.out.mono ?_
          rintro e w5 ⟨C,B1,d1,B2,d2,rfl,k1,k2,k3,k4,k5,hb5⟩
          obtain ⟨w6,hw6⟩ : ∃W,W=w5.alloc (.cells #[.string p.name,.slice B1 p.conds.length d1,.slice B2 p.acts.length d2] 25):=⟨_,rfl⟩
          have hb6:Below w5.heap.size w5 w6:=by rw [hw6];exact (Below.refl _ _).alloc (Nat.le_refl _) _
          have hg6:Blk w6 w5.heap.size 25 #[.string p.name,.slice B1 p.conds.length d1,.slice B2 p.acts.length d2]:=by rw [hw6];exact Blk.new _ _ _
          have HW6:=Lib.hid hw6
          have HB6:=Lib.hid (HB.out.trans ((hb5.trans (hb6.mono hb5.size)).mono hz6))
          have Ko6:=Lib.hid (Ko.out.new_ (hb5.trans (hb6.mono hb5.size)))
          have HG6:=Lib.hid hg6
          have HO1:=Lib.hid (k1.new_ hb6)
          have HC1:=Lib.hid (show ∀j,C j→wt.heap.size≤j∧j<w5.heap.size from k2)
          have HA1:=Lib.hid (show AIn B1 (fun j=>wt.heap.size≤j∧j<w5.heap.size) from k3)
          have HO2:=Lib.hid (ownsRow_new k4 hb6)
          have HA2:=Lib.hid (show AIn B2 (fun j=>(wt.heap.size≤j∧j<w5.heap.size)∧¬C j) from k5)
          have HZ6:=Lib.hid (show w6.heap.size=w5.heap.size+1 by rw [hw6];simp)
          have HZ5:=Lib.hid (show wt.heap.size≤w5.heap.size from hb5.size)
          have hcd:=k1.form
          have hd1:p.conds.length≤d1∧d1≤maxLen:=by obtain ⟨_,_,e,h1,h2,_⟩:=hcd;injection e with _ _ e;subst e;exact ⟨h1,h2⟩
          have hd2:p.acts.length≤d2∧d2≤maxLen:=by obtain ⟨_,_,e,h1,h2,_⟩:=own_form2 k4;injection e with _ _ e;subst e;exact ⟨h1,h2⟩
          obtain ⟨m4,hm4,hm4l⟩:=within_nat vw (n:=4) (by decide)
          have HW4:=Lib.hid (show ∀W,Calls Try.prog 10 #[.int .i64 vw,.int .i64 4] W fun e w0=>e = .returned (.int .i64 (m4:Int))∧W=w0 from fun W=>by
           have:=within_is vw 4 W (by decide)
           rwa [show within vw 4=(m4:Int) from hm4] at this)
          clear a0_ a1_ a2_ az_ hb5 hb6 hg6 hw6 k1 k2 k3 k4 k5 hcd hm4
          go_upto_region 24 with fail
          rw [← HW6.out]
          go_wp2_with fail
          refine (HW4.out _).mono ?_
          rintro e w0 ⟨rfl,rfl⟩
          have HPE:=Lib.hid (prod_eta HPC.out HPA.out)
          have hl1:(0:Int)<(p.conds.length:Int):=by rw [HPC.out,List.length_cons];omega
          have hl2:(0:Int)<(p.acts.length:Int):=by rw [HPA.out,List.length_cons];omega
          have hl1n:0<p.conds.length:=by omega
          have hl2n:0<p.acts.length:=by omega
          obtain ⟨g0,g1,g2⟩:=HG6.out.c3
          have gz:=HG6.out.lt
          rcases (show m4=0∨m4=1∨m4=2∨m4=3 by omega) with rfl | rfl | rfl | rfl
          · skip
            have ho1:=HO1.out
            rw [HPC.out] at ho1
            obtain ⟨gc,cur,hBc,hblk,q1_,q5_,hgo,hac⟩:=ownC_cond ho1
            have HBK:=Lib.hid hblk
            have HGO:=Lib.hid hgo
            have q1:=q1_
            have qf:=hblk.frozen 1
            have qz:=hblk.lt
            have hng:=(HA1.out ⟨gc,0,none⟩ hBc)
            have HNG:=Lib.hid hng
            have HOFF:=Lib.hid (HO1.out.off gc (by rw [hBc];rfl))
            have HBC:=Lib.hid hBc
            subst hBc
            clear ho1 hblk hgo hac q1_ q5_ hng
            go_upto_region 27 with fail
            refine wp_region_E (fun w9=>Below w6.heap.size w6 w9) [(0,0),(1,1),(2,0),(3,1),(4,0),(5,0),(6,1),(7,0),(8,0),(9,0),(10,2)] (by kernel_rfl) (by kernel_rfl) (fun KK hKK=>?_)
            simp only [beside,List.filterMap_cons,List.filterMap_nil,List.getElem?_toArray,List.getElem?_cons_zero,List.getElem?_cons_succ,Option.map_some]
            repeat ((first | (refine wpX_w ?_ (Or.inl ⟨by rfl,fun w9=>?_⟩) ?_;rotate_left 1;go_simp;with_reducible rfl) | (refine wpX_l ?_ (((Below.refl _ _).drew)) (Or.inl ⟨by rfl,fun w9 hw9=>?_⟩) ?_;rotate_left 1;have g1:=(hw9.cell (p:=⟨w5.heap.size,1,none⟩) gz).trans g1;have q1:=(hw9.cell (p:=⟨gc,1,none⟩) qz).trans q1;go_simp;with_reducible rfl) | refine wpX_w undef (Or.inr ⟨by rfl,rfl⟩) ?_ | refine wpX_l undef (((Below.refl _ _).drew)) (Or.inr ⟨by rfl,rfl⟩) ?_);go_frame)
            refine wpX_e (by kernel_rfl) (fun K9 hK9=>?_)
            go_simp
            refine hK9 _ _ ?_
            clear hK9 K9
            refine wpX_nil ?_
            simp only [OnlyN_normal]
            refine hKK _ _ ?_
            clear hKK KK
            obtain ⟨V,hV⟩ : ∃V,V=(w6.setCell ⟨gc,1,none⟩ (.bool (!c0.goal))).drew:=⟨_,rfl⟩
            rw [← hV]
            have HBV:=Lib.hid (show Below w.heap.size w V by rw [hV];exact (HB6.out.setCell (by have:=HNG.out.1;dsimp only;omega) _).drew)
            have HVS:=Lib.hid (show V.heap.size=w6.heap.size by rw [hV];simp)
            have KoV:=Lib.hid (show Blk V w.heap.size 25 #[.string p.name,.slice A1 p.conds.length c1,.slice A2 p.acts.length c2] by rw [hV];exact (Blk.far Ko6.out (by have:=HNG.out.1;have:=Ko.out.lt;dsimp only;omega) _).drew)
            have HGV:=Lib.hid (show Blk V w5.heap.size 25 #[.string p.name,.slice (some ⟨gc,0,none⟩) p.conds.length d1,.slice B2 p.acts.length d2] by rw [hV];exact (Blk.far HG6.out (by have:=HNG.out.2;dsimp only;omega) _).drew)
            have HROW:=Lib.hid (show RowR (repCondT 20) (· < V.heap.size) V (some ⟨gc,0,none⟩) d1 (goalC c0 (!c0.goal) :: cs) by
             have h9:OwnC (repCondT 20) 50 C V (.slice (some ⟨gc,0,none⟩) (c0 :: cs).length d1) (goalC c0 (!c0.goal) :: cs):=by rw [hV];exact HGO.out (!c0.goal)
             exact h9.row (fun k hk=>by have:=(HC1.out k hk).2;have:=HVS.out;have:=HZ6.out;omega) (fun a ha=>by cases ha;have:=HNG.out.2;have:=HVS.out;have:=HZ6.out;show gc<V.heap.size;omega))
            have HRA:=Lib.hid (show RowR repActT (· < V.heap.size) V B2 d2 p.acts by
             have h9:V.ownsRow 0 58 19 (.slice B2 p.acts.length d2) p.acts.length (p.acts.flatMap ActT.cells):=by rw [hV];exact ownsRow_setCell_other (a:=⟨gc,1,none⟩) HO2.out (own_blk_ne HO2.out HBK.out (by decide)) _
             exact RowR.of_rd (hs:=ActT.cells_length) (ownsRow_rd ActT.cells_length h9) (HA2.out.mono (fun j hj=>by have:=hj.1.2;have:=HVS.out;have:=HZ6.out;omega)))
            obtain ⟨E2,hE2⟩ : ∃E,E=B2:=⟨_,rfl⟩
            obtain ⟨x2,hx2⟩ : ∃x,x=d2:=⟨_,rfl⟩
            rw [← hE2,← hx2] at HGV HRA
            clear hV hE2 hx2 g0 g1 g2 gz q1 qf qz
            obtain ⟨B1,hB1⟩ : ∃B,B=(some ⟨gc,0,none⟩:Option Addr):=⟨_,rfl⟩
            rw [← hB1] at HGV HROW
            clear hB1
            obtain ⟨q,hq⟩ : ∃q:ProdT,q=⟨p.name,goalC c0 (!c0.goal) :: cs,p.acts⟩:=⟨_,rfl⟩
            have HNO:=Lib.hid (show sameC 20 p q=false by rw [hq];exact by rw [HPE.out];exact goal_no 20 _ c0 cs _)
            have HFQ:=Lib.hid (show Fit 20 q by rw [hq];exact fit_cond HPC.out HF.out rfl rfl rfl rfl)
            have HSAME:=Lib.hid (show Calls Try.prog 24 #[.agg #[.string p.name,.slice A1 p.conds.length c1,.slice A2 p.acts.length c2],.agg #[.string p.name,.slice B1 p.conds.length d1,.slice E2 p.acts.length x2]] V fun e w'=>e = .returned (.bool false)∧Below V.heap.size V w' by
             have k1:RowR (repCondT 20) (· < V.heap.size) V B1 d1 q.conds:=by rw [hq];exact HROW.out
             have k2:RowR repActT (· < V.heap.size) V E2 x2 q.acts:=by rw [hq];exact HRA.out
             have:=csame_is (D:=(· < V.heap.size)) 20 p q A1 c1 A2 c2 B1 d1 E2 x2 V (fun k hk=>hk) ((HR1.out.new_ HBV.out).weaken (fun k hk=>Nat.lt_of_lt_of_le hk HBV.out.size)) ((H2.out.new_ HBV.out).weaken (fun k hk=>Nat.lt_of_lt_of_le hk HBV.out.size)) HF.out k1 k2 HFQ.out
             rw [HNO.out] at this
             have e1:q.name=p.name:=by rw [hq]
             have e2:q.conds.length=p.conds.length:=by rw [hq]<;>first | rfl | (rw [HPC.out];rfl)
             have e3:q.acts.length=p.acts.length:=by rw [hq]<;>first | rfl | (rw [HPA.out];rfl) | (rw [HPA.out];simp)
             rw [e1,e2,e3] at this
             exact this)
            obtain ⟨a0_,a1_,a2_⟩:=KoV.out.c3
            have az_:=KoV.out.lt
            obtain ⟨g0,g1,g2⟩:=HGV.out.c3
            have gz:=HGV.out.lt
            clear hq
            go_wp2_with fail
            refine HSAME.out.mono ?_
            rintro e w8 ⟨rfl,hb8⟩
            have HB8:=Lib.hid (HBV.out.trans (hb8.mono HBV.out.size))
            clear hb8 a0_ a1_ a2_ az_ g0 g1 g2 gz
            go_wp2_with fail
            refine (wakes23_is _).mono ?_
            rintro e w9 ⟨rfl,hb9⟩
            go_wp2_with fail
            go_ret
            exact ⟨rfl,HB8.out.trans (hb9.mono HB8.out.size)⟩
          · skip
            have ho2:=HO2.out
            rw [HPA.out] at ho2
            obtain ⟨gc,cur,hBc,hblk,hrg,hpr⟩:=own_act ho2
            have HBK:=Lib.hid hblk
            have HPR:=Lib.hid hpr
            have q14:w6.cell? ⟨gc,14,none⟩=some (.int .i64 a0.pref):=by have:=hrg 14 _ rfl;simpa using this
            have qf:=hblk.frozen 14
            have qz:=hblk.lt
            have HNG:=Lib.hid (HA2.out ⟨gc,0,none⟩ hBc)
            obtain ⟨rr,hrr⟩ : ∃r,r=a0.pref.tmod 10:=⟨_,rfl⟩
            have hr1:0≤rr∧rr<10:=by rw [hrr];exact ⟨Int.tmod_nonneg _ (by have:=HPF.out.1;omega),Int.tmod_lt_of_pos _ (by decide)⟩
            have HRR2:=Lib.hid hrr
            have v0:a0.pref.tmod 10=rr:=hrr.symm
            have v1:IntKind.i64.wrap rr=rr:=IntWalk.i64_in _ (by omega)
            have v2:IntKind.i64.wrap (1+rr)=1+rr:=IntWalk.i64_in _ (by omega)
            subst hBc
            clear ho2 hblk hrg hpr hrr hr1
            go_upto_region 29 with fail
            refine wp_region_E (fun w9=>Below w6.heap.size w6 w9) [(0,0),(1,1),(2,0),(3,1),(4,0),(5,0),(6,1),(7,0),(8,0),(9,0),(10,0),(11,2)] (by kernel_rfl) (by kernel_rfl) (fun KK hKK=>?_)
            simp only [beside,List.filterMap_cons,List.filterMap_nil,List.getElem?_toArray,List.getElem?_cons_zero,List.getElem?_cons_succ,Option.map_some]
            repeat ((first | (refine wpX_w ?_ (Or.inl ⟨by rfl,fun w9=>?_⟩) ?_;rotate_left 1;go_simp;with_reducible rfl) | (refine wpX_l ?_ (((Below.refl _ _).drew)) (Or.inl ⟨by rfl,fun w9 hw9=>?_⟩) ?_;rotate_left 1;have g2:=(hw9.cell (p:=⟨w5.heap.size,2,none⟩) gz).trans g2;have q14:=(hw9.cell (p:=⟨gc,14,none⟩) qz).trans q14;go_simp;with_reducible rfl) | refine wpX_w undef (Or.inr ⟨by rfl,rfl⟩) ?_ | refine wpX_l undef (((Below.refl _ _).drew)) (Or.inr ⟨by rfl,rfl⟩) ?_);go_frame)
            refine wpX_e (by kernel_rfl) (fun K9 hK9=>?_)
            go_simp
            refine hK9 _ _ ?_
            clear hK9 K9
            refine wpX_nil ?_
            simp only [OnlyN_normal]
            refine hKK _ _ ?_
            clear hKK KK
            obtain ⟨V,hV⟩ : ∃V,V=(w6.setCell ⟨gc,14,none⟩ (.int .i64 (1+rr))).drew:=⟨_,rfl⟩
            rw [← hV]
            have HBV:=Lib.hid (show Below w.heap.size w V by rw [hV];exact (HB6.out.setCell (by have:=HNG.out.1.1;dsimp only;omega) _).drew)
            have HVS:=Lib.hid (show V.heap.size=w6.heap.size by rw [hV];simp)
            have KoV:=Lib.hid (show Blk V w.heap.size 25 #[.string p.name,.slice A1 p.conds.length c1,.slice A2 p.acts.length c2] by rw [hV];exact (Blk.far Ko6.out (by have:=HNG.out.1.1;have:=Ko.out.lt;dsimp only;omega) _).drew)
            have HGV:=Lib.hid (show Blk V w5.heap.size 25 #[.string p.name,.slice B1 p.conds.length d1,.slice (some ⟨gc,0,none⟩) p.acts.length d2] by rw [hV];exact (Blk.far HG6.out (by have:=HNG.out.1.2;dsimp only;omega) _).drew)
            have HROW:=Lib.hid (show RowR (repCondT 20) (· < V.heap.size) V B1 d1 p.conds by
             have h9:OwnC (repCondT 20) 50 C V (.slice B1 p.conds.length d1) p.conds:=by
              rw [hV]
              exact HO1.out.fr (M:=(· = gc)) (((Fr.refl (· = gc) w6).setCell (p:=⟨gc,14,none⟩) (.inl rfl) _).drew) (fun j hj e=>HNG.out.2 (e ▸ hj)) (fun j hj e=>by
               obtain ⟨_,hw,_⟩:=HO1.out
               subst e
               exact own_blk_ne hw HBK.out (by decide) hj)
             exact h9.row (fun k hk=>by have:=(HC1.out k hk).2;have:=HVS.out;have:=HZ6.out;omega) (HA1.out.mono (fun j hj=>by have:=hj.2;have:=HVS.out;have:=HZ6.out;omega)))
            have HRA:=Lib.hid (show RowR repActT (· < V.heap.size) V (some ⟨gc,0,none⟩) d2 ({ a0 with pref:=1+a0.pref.tmod 10 } :: az) by
             have h9:=HPR.out (1+rr)
             rw [HRR2.out] at h9
             have h10:V.ownsRow 0 58 19 (.slice (some ⟨gc,0,none⟩) (a0 :: az).length d2) (a0 :: az).length (({ a0 with pref:=1+a0.pref.tmod 10 } :: az).flatMap ActT.cells):=by rw [hV,HRR2.out];exact h9
             exact RowR.of_rd (hs:=ActT.cells_length) (ownsRow_rd ActT.cells_length (l:={ a0 with pref:=1+a0.pref.tmod 10 } :: az) h10) (fun a ha=>by cases ha;have:=HNG.out.1.2;have:=HVS.out;have:=HZ6.out;show gc<V.heap.size;omega))
            obtain ⟨E2,hE2⟩ : ∃E,E=(some ⟨gc,0,none⟩:Option Addr):=⟨_,rfl⟩
            obtain ⟨x2,hx2⟩ : ∃x,x=d2:=⟨_,rfl⟩
            rw [← hE2,← hx2] at HGV HRA
            clear hV hE2 hx2 g0 g1 g2 gz q14 qf qz v0 v1 v2
            obtain ⟨q,hq⟩ : ∃q:ProdT,q=⟨p.name,p.conds,{ a0 with pref:=1+a0.pref.tmod 10 } :: az⟩:=⟨_,rfl⟩
            have HNO:=Lib.hid (show sameC 20 p q=false by rw [hq];exact by rw [HPE.out];exact pref_no 20 _ _ a0 az)
            have HFQ:=Lib.hid (show Fit 20 q by rw [hq];exact fit_acts HF.out (by have:=HF.out.a;rw [HPA.out] at this;exact this) (by rw [pref_vars HPA.out];exact HF.out.v))
            have HSAME:=Lib.hid (show Calls Try.prog 24 #[.agg #[.string p.name,.slice A1 p.conds.length c1,.slice A2 p.acts.length c2],.agg #[.string p.name,.slice B1 p.conds.length d1,.slice E2 p.acts.length x2]] V fun e w'=>e = .returned (.bool false)∧Below V.heap.size V w' by
             have k1:RowR (repCondT 20) (· < V.heap.size) V B1 d1 q.conds:=by rw [hq];exact HROW.out
             have k2:RowR repActT (· < V.heap.size) V E2 x2 q.acts:=by rw [hq];exact HRA.out
             have:=csame_is (D:=(· < V.heap.size)) 20 p q A1 c1 A2 c2 B1 d1 E2 x2 V (fun k hk=>hk) ((HR1.out.new_ HBV.out).weaken (fun k hk=>Nat.lt_of_lt_of_le hk HBV.out.size)) ((H2.out.new_ HBV.out).weaken (fun k hk=>Nat.lt_of_lt_of_le hk HBV.out.size)) HF.out k1 k2 HFQ.out
             rw [HNO.out] at this
             have e1:q.name=p.name:=by rw [hq]
             have e2:q.conds.length=p.conds.length:=by rw [hq]<;>first | rfl | (rw [HPC.out];rfl)
             have e3:q.acts.length=p.acts.length:=by rw [hq]<;>first | rfl | (rw [HPA.out];rfl) | (rw [HPA.out];simp)
             rw [e1,e2,e3] at this
             exact this)
            obtain ⟨a0_,a1_,a2_⟩:=KoV.out.c3
            have az_:=KoV.out.lt
            obtain ⟨g0,g1,g2⟩:=HGV.out.c3
            have gz:=HGV.out.lt
            clear hq
            go_wp2_with fail
            refine HSAME.out.mono ?_
            rintro e w8 ⟨rfl,hb8⟩
            have HB8:=Lib.hid (HBV.out.trans (hb8.mono HBV.out.size))
            clear hb8 a0_ a1_ a2_ az_ g0 g1 g2 gz
            go_wp2_with fail
            refine (wakes23_is _).mono ?_
            rintro e w9 ⟨rfl,hb9⟩
            go_wp2_with fail
            go_ret
            exact ⟨rfl,HB8.out.trans (hb9.mono HB8.out.size)⟩
          · skip
            have ho1:=HO1.out
            rw [HPC.out] at ho1
            obtain ⟨gc,cur,hBc,hblk,q1_,q5_,hgo,hac⟩:=ownC_cond ho1
            have HBK:=Lib.hid hblk
            have HGO:=Lib.hid hac
            have q5:=q5_
            have qf:=hblk.frozen 5
            have qz:=hblk.lt
            have hng:=(HA1.out ⟨gc,0,none⟩ hBc)
            have HNG:=Lib.hid hng
            have HOFF:=Lib.hid (HO1.out.off gc (by rw [hBc];rfl))
            have HBC:=Lib.hid hBc
            subst hBc
            clear ho1 hblk hgo hac q1_ q5_ hng
            go_upto_region 31 with fail
            refine wp_region_E (fun w9=>Below w6.heap.size w6 w9) [(0,0),(1,1),(2,0),(3,1),(4,0),(5,0),(6,1),(7,0),(8,0),(9,0),(10,2)] (by kernel_rfl) (by kernel_rfl) (fun KK hKK=>?_)
            simp only [beside,List.filterMap_cons,List.filterMap_nil,List.getElem?_toArray,List.getElem?_cons_zero,List.getElem?_cons_succ,Option.map_some]
            repeat ((first | (refine wpX_w ?_ (Or.inl ⟨by rfl,fun w9=>?_⟩) ?_;rotate_left 1;go_simp;with_reducible rfl) | (refine wpX_l ?_ (((Below.refl _ _).drew)) (Or.inl ⟨by rfl,fun w9 hw9=>?_⟩) ?_;rotate_left 1;have g1:=(hw9.cell (p:=⟨w5.heap.size,1,none⟩) gz).trans g1;have q5:=(hw9.cell (p:=⟨gc,5,none⟩) qz).trans q5;go_simp;with_reducible rfl) | refine wpX_w undef (Or.inr ⟨by rfl,rfl⟩) ?_ | refine wpX_l undef (((Below.refl _ _).drew)) (Or.inr ⟨by rfl,rfl⟩) ?_);go_frame)
            refine wpX_e (by kernel_rfl) (fun K9 hK9=>?_)
            go_simp
            refine hK9 _ _ ?_
            clear hK9 K9
            refine wpX_nil ?_
            simp only [OnlyN_normal]
            refine hKK _ _ ?_
            clear hKK KK
            obtain ⟨V,hV⟩ : ∃V,V=(w6.setCell ⟨gc,5,none⟩ (.bool (!c0.acc))).drew:=⟨_,rfl⟩
            rw [← hV]
            have HBV:=Lib.hid (show Below w.heap.size w V by rw [hV];exact (HB6.out.setCell (by have:=HNG.out.1;dsimp only;omega) _).drew)
            have HVS:=Lib.hid (show V.heap.size=w6.heap.size by rw [hV];simp)
            have KoV:=Lib.hid (show Blk V w.heap.size 25 #[.string p.name,.slice A1 p.conds.length c1,.slice A2 p.acts.length c2] by rw [hV];exact (Blk.far Ko6.out (by have:=HNG.out.1;have:=Ko.out.lt;dsimp only;omega) _).drew)
            have HGV:=Lib.hid (show Blk V w5.heap.size 25 #[.string p.name,.slice (some ⟨gc,0,none⟩) p.conds.length d1,.slice B2 p.acts.length d2] by rw [hV];exact (Blk.far HG6.out (by have:=HNG.out.2;dsimp only;omega) _).drew)
            have HROW:=Lib.hid (show RowR (repCondT 20) (· < V.heap.size) V (some ⟨gc,0,none⟩) d1 (accC c0 (!c0.acc) :: cs) by
             have h9:OwnC (repCondT 20) 50 C V (.slice (some ⟨gc,0,none⟩) (c0 :: cs).length d1) (accC c0 (!c0.acc) :: cs):=by rw [hV];exact HGO.out (!c0.acc)
             exact h9.row (fun k hk=>by have:=(HC1.out k hk).2;have:=HVS.out;have:=HZ6.out;omega) (fun a ha=>by cases ha;have:=HNG.out.2;have:=HVS.out;have:=HZ6.out;show gc<V.heap.size;omega))
            have HRA:=Lib.hid (show RowR repActT (· < V.heap.size) V B2 d2 p.acts by
             have h9:V.ownsRow 0 58 19 (.slice B2 p.acts.length d2) p.acts.length (p.acts.flatMap ActT.cells):=by rw [hV];exact ownsRow_setCell_other (a:=⟨gc,5,none⟩) HO2.out (own_blk_ne HO2.out HBK.out (by decide)) _
             exact RowR.of_rd (hs:=ActT.cells_length) (ownsRow_rd ActT.cells_length h9) (HA2.out.mono (fun j hj=>by have:=hj.1.2;have:=HVS.out;have:=HZ6.out;omega)))
            obtain ⟨E2,hE2⟩ : ∃E,E=B2:=⟨_,rfl⟩
            obtain ⟨x2,hx2⟩ : ∃x,x=d2:=⟨_,rfl⟩
            rw [← hE2,← hx2] at HGV HRA
            clear hV hE2 hx2 g0 g1 g2 gz q5 qf qz
            obtain ⟨B1,hB1⟩ : ∃B,B=(some ⟨gc,0,none⟩:Option Addr):=⟨_,rfl⟩
            rw [← hB1] at HGV HROW
            clear hB1
            obtain ⟨q,hq⟩ : ∃q:ProdT,q=⟨p.name,accC c0 (!c0.acc) :: cs,p.acts⟩:=⟨_,rfl⟩
            have HNO:=Lib.hid (show sameC 20 p q=false by rw [hq];exact by rw [HPE.out];exact acc_no 20 _ c0 cs _)
            have HFQ:=Lib.hid (show Fit 20 q by rw [hq];exact fit_cond HPC.out HF.out rfl rfl rfl rfl)
            have HSAME:=Lib.hid (show Calls Try.prog 24 #[.agg #[.string p.name,.slice A1 p.conds.length c1,.slice A2 p.acts.length c2],.agg #[.string p.name,.slice B1 p.conds.length d1,.slice E2 p.acts.length x2]] V fun e w'=>e = .returned (.bool false)∧Below V.heap.size V w' by
             have k1:RowR (repCondT 20) (· < V.heap.size) V B1 d1 q.conds:=by rw [hq];exact HROW.out
             have k2:RowR repActT (· < V.heap.size) V E2 x2 q.acts:=by rw [hq];exact HRA.out
             have:=csame_is (D:=(· < V.heap.size)) 20 p q A1 c1 A2 c2 B1 d1 E2 x2 V (fun k hk=>hk) ((HR1.out.new_ HBV.out).weaken (fun k hk=>Nat.lt_of_lt_of_le hk HBV.out.size)) ((H2.out.new_ HBV.out).weaken (fun k hk=>Nat.lt_of_lt_of_le hk HBV.out.size)) HF.out k1 k2 HFQ.out
             rw [HNO.out] at this
             have e1:q.name=p.name:=by rw [hq]
             have e2:q.conds.length=p.conds.length:=by rw [hq]<;>first | rfl | (rw [HPC.out];rfl)
             have e3:q.acts.length=p.acts.length:=by rw [hq]<;>first | rfl | (rw [HPA.out];rfl) | (rw [HPA.out];simp)
             rw [e1,e2,e3] at this
             exact this)
            obtain ⟨a0_,a1_,a2_⟩:=KoV.out.c3
            have az_:=KoV.out.lt
            obtain ⟨g0,g1,g2⟩:=HGV.out.c3
            have gz:=HGV.out.lt
            clear hq
            go_wp2_with fail
            refine HSAME.out.mono ?_
            rintro e w8 ⟨rfl,hb8⟩
            have HB8:=Lib.hid (HBV.out.trans (hb8.mono HBV.out.size))
            clear hb8 a0_ a1_ a2_ az_ g0 g1 g2 gz
            go_wp2_with fail
            refine (wakes23_is _).mono ?_
            rintro e w9 ⟨rfl,hb9⟩
            go_wp2_with fail
            go_ret
            exact ⟨rfl,HB8.out.trans (hb9.mono HB8.out.size)⟩
          · skip
            have ho2:=HO2.out
            rw [HPA.out] at ho2
            obtain ⟨gc,cur,hBc,hblk,hrg,-⟩:=own_act ho2
            have HNG:=Lib.hid (HA2.out ⟨gc,0,none⟩ hBc)
            have HRG:=Lib.hid (show ∀w9,Below w6.heap.size w6 w9→w9.rangeAt gc 0 [.string a0.id,.string a0.attr.var,.int .i64 a0.attr.sym.kind,.string a0.attr.sym.text,.int .i64 a0.attr.sym.n,.int .i64 a0.value.op,.string a0.value.a.var,.int .i64 a0.value.a.sym.kind,.string a0.value.a.sym.text,.int .i64 a0.value.a.sym.n,.string a0.value.b.var,.int .i64 a0.value.b.sym.kind,.string a0.value.b.sym.text,.int .i64 a0.value.b.sym.n,.int .i64 a0.pref,.string a0.other.var,.int .i64 a0.other.sym.kind,.string a0.other.sym.text,.int .i64 a0.other.sym.n] from fun w9 hw j v hv=>((hw.cell (p:=⟨gc,0+j,none⟩) hblk.lt).trans (hrg j v hv)))
            have HGX:=Lib.hid hblk.lt
            have hal:p.acts.length≤1000:=HF.out.a
            subst hBc
            clear ho2 hblk hrg
            go_upto_region 25 with fail
            refine wp_region_E (fun w9=>Below w6.heap.size w6 w9) [(0,0),(1,1),(2,0),(3,1),(4,0),(5,1),(6,2),(7,2),(8,0),(9,2)] (by kernel_rfl) (by kernel_rfl) (fun KK hKK=>?_)
            simp only [beside,List.filterMap_cons,List.filterMap_nil,List.getElem?_toArray,List.getElem?_cons_zero,List.getElem?_cons_succ,Option.map_some]
            repeat ((first | (refine wpX_l _ ((Below.refl _ _).drew) (yieldsIf_load_mid (by rfl) 58 _ rfl gc 0 rfl [.string a0.id,.string a0.attr.var,.int .i64 a0.attr.sym.kind,.string a0.attr.sym.text,.int .i64 a0.attr.sym.n,.int .i64 a0.value.op,.string a0.value.a.var,.int .i64 a0.value.a.sym.kind,.string a0.value.a.sym.text,.int .i64 a0.value.a.sym.n,.string a0.value.b.var,.int .i64 a0.value.b.sym.kind,.string a0.value.b.sym.text,.int .i64 a0.value.b.sym.n,.int .i64 a0.pref,.string a0.other.var,.int .i64 a0.other.sym.kind,.string a0.other.sym.text,.int .i64 a0.other.sym.n] _ HRG.out Try.underlying58 rfl (by kernel_rfl)) ?_) | (refine wpX_w ?_ (Or.inl ⟨by rfl,fun w9=>?_⟩) ?_;rotate_left 1;go_simp;with_reducible rfl) | (refine wpX_l ?_ (((Below.refl _ _).drew)) (Or.inl ⟨by rfl,fun w9 hw9=>?_⟩) ?_;rotate_left 1;have g2:=(hw9.cell (p:=⟨w5.heap.size,2,none⟩) gz).trans g2;have hrg:=HRG.out w9 hw9;go_simp;with_reducible rfl) | refine wpX_w undef (Or.inr ⟨by rfl,rfl⟩) ?_ | refine wpX_l undef (((Below.refl _ _).drew)) (Or.inr ⟨by rfl,rfl⟩) ?_);go_frame)
            refine wpX_es (fun K9 hK9=>?_)
            go_simp
            obtain ⟨Y9,hY9⟩ : ∃Y9,Y9=(w6.alloc (.cells #[.string a0.id,.string a0.attr.var,.int .i64 a0.attr.sym.kind,.string a0.attr.sym.text,.int .i64 a0.attr.sym.n,.int .i64 a0.value.op,.string a0.value.a.var,.int .i64 a0.value.a.sym.kind,.string a0.value.a.sym.text,.int .i64 a0.value.a.sym.n,.string a0.value.b.var,.int .i64 a0.value.b.sym.kind,.string a0.value.b.sym.text,.int .i64 a0.value.b.sym.n,.int .i64 a0.pref,.string a0.other.var,.int .i64 a0.other.sym.kind,.string a0.other.sym.text,.int .i64 a0.other.sym.n] 58)).drew:=⟨_,rfl⟩
            have hb9:Below w6.heap.size w6 Y9:=by rw [hY9];exact ((Below.refl _ _).alloc (Nat.le_refl _) _).drew
            have HB23:=Lib.hid hb9
            have HN9:=Lib.hid (show ∀(j:Nat) (u:Value),([.string a0.id,.string a0.attr.var,.int .i64 a0.attr.sym.kind,.string a0.attr.sym.text,.int .i64 a0.attr.sym.n,.int .i64 a0.value.op,.string a0.value.a.var,.int .i64 a0.value.a.sym.kind,.string a0.value.a.sym.text,.int .i64 a0.value.a.sym.n,.string a0.value.b.var,.int .i64 a0.value.b.sym.kind,.string a0.value.b.sym.text,.int .i64 a0.value.b.sym.n,.int .i64 a0.pref,.string a0.other.var,.int .i64 a0.other.sym.kind,.string a0.other.sym.text,.int .i64 a0.other.sym.n]:List Value)[j]? = some u→Y9.cell? ((⟨w6.heap.size,0,none⟩:Addr).add j)=some u by rw [hY9];exact World.news_of_block (heap_alloc_new _ _))
            have HYZ:=Lib.hid (show Y9.heap.size=w6.heap.size+1 by rw [hY9];simp)
            rw [← hY9]
            clear hY9 hb9
            refine hK9 _ _ HB23.out ?_
            clear hK9 K9
            refine wpX_e (by kernel_rfl) (fun K9 hK9=>?_)
            refine step_append_src _ (by rfl) _ _ _ (by rfl) 58 j0 _ 19 224 Try.underlying23 hj0 hy0 hy1 hy2 rfl (by omega) (.slice (some ⟨gc,0,none⟩) p.acts.length d2) p.acts.length (p.acts.flatMap ActT.cells) (by rfl) (ownsRow_new HO2.out HB23.out) _ 1 1 [.string a0.id,.string a0.attr.var,.int .i64 a0.attr.sym.kind,.string a0.attr.sym.text,.int .i64 a0.attr.sym.n,.int .i64 a0.value.op,.string a0.value.a.var,.int .i64 a0.value.a.sym.kind,.string a0.value.a.sym.text,.int .i64 a0.value.a.sym.n,.string a0.value.b.var,.int .i64 a0.value.b.sym.kind,.string a0.value.b.sym.text,.int .i64 a0.value.b.sym.n,.int .i64 a0.pref,.string a0.other.var,.int .i64 a0.other.sym.kind,.string a0.other.sym.text,.int .i64 a0.other.sym.n] (by rfl) (by rfl) (fun _=>⟨_,rfl,HN9.out⟩) (by intro u hu;simp only [List.mem_cons,List.not_mem_nil,or_false] at hu;rcases hu with rfl | rfl | rfl | rfl | rfl | rfl | rfl | rfl | rfl | rfl | rfl | rfl | rfl | rfl | rfl | rfl | rfl | rfl | rfl<;>rfl) (by unfold maxLen;omega) (by omega) ?_
            intro v2 w23 hown hgr hnil hat
            obtain ⟨E2,x2,rfl,hF3,hA3,hO3⟩:=grown_own (E:=(· = gc)) (fun a ha=>by cases ha;rfl) hown hgr hat
            have HF3:=Lib.hid hF3
            have HA3:=Lib.hid hA3
            have HO3:=Lib.hid hO3
            have hp3:=(HG6.out.new_ HB23.out).fr hF3 (by have:=HNG.out.1.2;intro e;omega)
            have HP3:=Lib.hid hp3
            have g2:=(hp3.cell 2).trans rfl
            have pf:=hp3.frozen 2
            have gz:=hp3.lt
            clear hown hgr hnil hat hp3 hF3 hA3 hO3
            refine hK9 _ _ ?_
            clear hK9 K9
            repeat ((first | (refine wpX_l _ ((Below.refl _ _).drew) (yieldsIf_load_mid (by rfl) 58 _ rfl gc 0 rfl [.string a0.id,.string a0.attr.var,.int .i64 a0.attr.sym.kind,.string a0.attr.sym.text,.int .i64 a0.attr.sym.n,.int .i64 a0.value.op,.string a0.value.a.var,.int .i64 a0.value.a.sym.kind,.string a0.value.a.sym.text,.int .i64 a0.value.a.sym.n,.string a0.value.b.var,.int .i64 a0.value.b.sym.kind,.string a0.value.b.sym.text,.int .i64 a0.value.b.sym.n,.int .i64 a0.pref,.string a0.other.var,.int .i64 a0.other.sym.kind,.string a0.other.sym.text,.int .i64 a0.other.sym.n] _ HRG.out Try.underlying58 rfl (by kernel_rfl)) ?_) | (refine wpX_w ?_ (Or.inl ⟨by rfl,fun w9=>?_⟩) ?_;rotate_left 1;go_simp;with_reducible rfl) | (refine wpX_l ?_ (HB23.out) (Or.inl ⟨by rfl,fun w9 hw9=>?_⟩) ?_;rotate_left 1;have g2:=(hw9.cell (p:=⟨w5.heap.size,2,none⟩) gz).trans g2;have hrg:=HRG.out w9 hw9;go_simp;with_reducible rfl) | refine wpX_w undef (Or.inr ⟨by rfl,rfl⟩) ?_ | refine wpX_l undef (HB23.out) (Or.inr ⟨by rfl,rfl⟩) ?_);go_frame)
            refine wpX_e (by kernel_rfl) (fun K9 hK9=>?_)
            go_simp
            refine hK9 _ _ ?_
            clear hK9 K9
            refine wpX_nil ?_
            simp only [OnlyN_normal]
            refine hKK _ _ ?_
            clear hKK KK
            obtain ⟨V,hV⟩ : ∃V,V=w23.setCell ⟨w5.heap.size,2,none⟩ (.slice E2 (p.acts.length+1) x2):=⟨_,rfl⟩
            rw [← hV]
            have hFV:Fr (fun j=>j=gc∨j=w5.heap.size) Y9 V:=by rw [hV];exact (HF3.out.mono (fun k _ hk=>.inl hk)).setCell (p:=⟨w5.heap.size,2,none⟩) (.inl (.inr rfl)) _
            have HFV:=Lib.hid hFV
            have HBV:=Lib.hid (show Below w.heap.size w V from (HB6.out.trans (HB23.out.mono HB6.out.size)).trans (hFV.below (by have:=HB23.out.size;have:=HB6.out.size;omega) (fun k hk e=>by have:=HNG.out.1.1;have:=HZ5.out;rcases e with e | e<;>omega)))
            have KoV:=Lib.hid (show Blk V w.heap.size 25 #[.string p.name,.slice A1 p.conds.length c1,.slice A2 p.acts.length c2] from (Ko6.out.new_ HB23.out).fr hFV (fun e=>by have:=HNG.out.1.1;have:=Ko.out.lt;have:=HZ5.out;rcases e with e | e<;>omega))
            have HGV:=Lib.hid (show Blk V w5.heap.size 25 #[.string p.name,.slice B1 p.conds.length d1,.slice E2 (p.acts.length+1) x2] by rw [hV];exact HP3.out.set_ 2 _)
            have HVS:=Lib.hid (show w6.heap.size≤V.heap.size from Nat.le_trans HB23.out.size hFV.size)
            have HROW:=Lib.hid (show RowR (repCondT 20) (· < V.heap.size) V B1 d1 p.conds by
             have h9:OwnC (repCondT 20) 50 C V (.slice B1 p.conds.length d1) p.conds:=(HO1.out.new_ HB23.out).fr hFV (fun j hj e=>by
              rcases e with e | e
              · exact HNG.out.2 (e ▸ hj)
              · have:=(HC1.out j hj).2;omega) (fun j hj e=>by
              rcases e with e | e
              · obtain ⟨_,hw,_⟩:=HO1.out
                obtain ⟨_,cur2,_,hblk2,_⟩:=own_act (show w6.ownsRow 0 58 19 (.slice (some ⟨gc,0,none⟩) (a0 :: az).length d2) (a0 :: az).length ((a0 :: az).flatMap ActT.cells) by rw [← HPA.out];exact HO2.out)
                rename_i g9 h9 _
                cases h9
                subst e
                exact own_blk_ne hw hblk2 (by decide) hj
              · have:=ain_own HA1.out hj;omega)
             exact h9.row (fun k hk=>by have:=(HC1.out k hk).2;have:=HVS.out;have:=HZ6.out;omega) (HA1.out.mono (fun j hj=>by have:=hj.2;have:=HVS.out;have:=HZ6.out;omega)))
            have HRA:=Lib.hid (show RowR repActT (· < V.heap.size) V E2 x2 (p.acts ++ [a0]) by
             have h9:V.ownsRow 0 58 19 (.slice E2 (p.acts ++ [a0]).length x2) (p.acts ++ [a0]).length ((p.acts ++ [a0]).flatMap ActT.cells):=by
              rw [List.length_append,List.flatMap_append,hV]
              exact ownsRow_setCell_other (a:=⟨w5.heap.size,2,none⟩) HO3.out (own_blk_ne HO3.out HP3.out (by decide)) _
             exact RowR.of_rd (hs:=ActT.cells_length) (ownsRow_rd ActT.cells_length h9) (fun a ha=>by subst ha;exact own_lt h9 _ rfl))
            clear hV hFV g0 g1 g2 gz pf
            obtain ⟨q,hq⟩ : ∃q:ProdT,q=⟨p.name,p.conds,p.acts ++ [a0]⟩:=⟨_,rfl⟩
            have HNO:=Lib.hid (show sameC 20 p q=false by rw [hq];exact by rw [HPE.out];exact more_no 20 _ _ a0 az)
            have HFQ:=Lib.hid (show Fit 20 q by rw [hq];exact fit_acts HF.out (by have:=(heavyP_no HNH.out).2.1;simp;omega) (by
             have h9:=vars_len40 HNH.out 20
             have h8:=varsA_len a0
             have e:varsP 20 ⟨p.name,p.conds,p.acts ++ [a0]⟩=varsP 20 p++varsA a0:=by
              show _++(p.acts ++ [a0]).flatMap varsA=(_++p.acts.flatMap varsA)++varsA a0
              rw [List.flatMap_append,List.append_assoc]
              simp
             rw [e,List.length_append];omega))
            have HSAME:=Lib.hid (show Calls Try.prog 24 #[.agg #[.string p.name,.slice A1 p.conds.length c1,.slice A2 p.acts.length c2],.agg #[.string p.name,.slice B1 p.conds.length d1,.slice E2 (p.acts.length+1) x2]] V fun e w'=>e = .returned (.bool false)∧Below V.heap.size V w' by
             have k1:RowR (repCondT 20) (· < V.heap.size) V B1 d1 q.conds:=by rw [hq];exact HROW.out
             have k2:RowR repActT (· < V.heap.size) V E2 x2 q.acts:=by rw [hq];exact HRA.out
             have:=csame_is (D:=(· < V.heap.size)) 20 p q A1 c1 A2 c2 B1 d1 E2 x2 V (fun k hk=>hk) ((HR1.out.new_ HBV.out).weaken (fun k hk=>Nat.lt_of_lt_of_le hk HBV.out.size)) ((H2.out.new_ HBV.out).weaken (fun k hk=>Nat.lt_of_lt_of_le hk HBV.out.size)) HF.out k1 k2 HFQ.out
             rw [HNO.out] at this
             have e1:q.name=p.name:=by rw [hq]
             have e2:q.conds.length=p.conds.length:=by rw [hq]<;>first | rfl | (rw [HPC.out];rfl)
             have e3:q.acts.length=p.acts.length+1:=by rw [hq]<;>first | rfl | (rw [HPA.out];rfl) | (rw [HPA.out];simp)
             rw [e1,e2,e3] at this
             exact this)
            obtain ⟨a0_,a1_,a2_⟩:=KoV.out.c3
            have az_:=KoV.out.lt
            obtain ⟨g0,g1,g2⟩:=HGV.out.c3
            have gz:=HGV.out.lt
            clear hq
            go_wp2_with fail
            refine HSAME.out.mono ?_
            rintro e w8 ⟨rfl,hb8⟩
            have HB8:=Lib.hid (HBV.out.trans (hb8.mono HBV.out.size))
            clear hb8 a0_ a1_ a2_ az_ g0 g1 g2 gz
            go_wp2_with fail
            refine (wakes23_is _).mono ?_
            rintro e w9 ⟨rfl,hb9⟩
            go_wp2_with fail
            go_ret
            exact ⟨rfl,HB8.out.trans (hb9.mono HB8.out.size)⟩
   · skip
     have ya:(y == 0)=false:=by simp [hyy]
     have yb:decide (y=0)=false:=by simp [hyy]
     have yc:(y != 0)=true:=by simp [hyy]
     clear hyy
     go_wp2_with fail
     with_reducible refine (wakes23_is _).mono ?_
     rintro e w4 ⟨rfl,hb⟩
     have hbs:=Below.trans (show Below w3.heap.size w3 _ from (by (repeat (first | exact Below.refl _ _ | refine Below.drew ?_ | refine Below.al ?_ _ | refine Below.sc ?_ _)))) (hb.mono (by simp<;>omega))
     have Ko:=Lib.hid (Ko.out.new_ hbs)
     have HB:=Lib.hid (HB.out.trans (hbs.mono HB.out.size))
     have hsz4:=hbs.size
     clear o0 o1 o2 oz hb hbs
     obtain ⟨o0,o1,o2⟩:=Ko.out.c3
     have oz:=Ko.out.lt
     go_wp2_with fail
     go_ret
     exact ⟨rfl,by (repeat (first | exact Below.refl _ _ | exact HB.out | refine Below.drew ?_ | refine Below.al ?_ _ | refine Below.sc ?_ _))⟩
 · skip
   go_wp2_with fail
   with_reducible refine (wakes23_is _).mono ?_
   rintro e w3 ⟨rfl,hb⟩
   have hbs:=Below.trans (show Below w2.heap.size w2 _ from (by (repeat (first | exact Below.refl _ _ | refine Below.drew ?_ | refine Below.al ?_ _ | refine Below.sc ?_ _)))) (hb.mono (by simp<;>omega))
   have Ko:=Lib.hid (Ko.out.new_ hbs)
   have HB:=Lib.hid (HB.out.trans (hbs.mono HB.out.size))
   have hsz3:=hbs.size
   clear o0 o1 o2 oz hb hbs
   obtain ⟨o0,o1,o2⟩:=Ko.out.c3
   have oz:=Ko.out.lt
   go_wp2_with fail
   go_ret
   exact ⟨rfl,by (repeat (first | exact Below.refl _ _ | exact HB.out | refine Below.drew ?_ | refine Below.al ?_ _ | refine Below.sc ?_ _))⟩
end Go.Proofs.Ytffemfglngikbaa
