/-
  Texts put together: VaryN3, VaryN4, OpsSym, KitSyms, RefBefore, KeepNeq, KeepElems, VaryEl, VaryRef, VaryRo.
-/
import Derived.Test.YtldndkngpdfpfaaGreatPTc
import Derived.Deep.MidRow
import Derived.Test.YtldndkngpdfpfaaGreatPTa
import Derived.Test.YtldndkngpdfpfaaGreatPTb
import Derived.Maps.RangeWalk
namespace Go.Proofs.YtldndkngpdfpfaaGreat
open Go.RowKit Go.Shelf
attribute [local go_sem] Oper.semAt_some
set_option linter.unusedSimpArgs false
def PutTo (D:Nat→Prop) (w:World) (nb:Nat) (ns:List Sym) (w':World):Prop:=∃D':Nat→Prop,Nm D' w' nb ns∧(∀k,D k→D' k)∧(∀k,D' k→D k∨w.heap.size≤k)∧Fr D w w'
theorem PutTo.same {D:Nat→Prop} {w w':World} {nb:Nat} {ns:List Sym} (h:Nm D w nb ns) (hb:Below w.heap.size w w'):PutTo D w nb ns w':=⟨D,h.new_ hb,fun _ h=>h,fun _ h=>.inl h,Fr.of_new hb⟩
theorem NM.more {D:Nat→Prop} {w X Y V Z:World} {nb:Nat} {ns:List Sym} {bm bp:Nat} {sn sn':Bool} {A A':Option Addr} {cc cc':Nat} {mm:List PgS} {L L':Option Addr} {cl cl':Nat} {s:Sym} (h:NM D w nb ns bm bp sn A cc mm L cl) (hs:s ∉ ns)
 (hX:Below w.heap.size w X) (hY:Fr (fun j=>∃a,L=some a∧a.block=j) X Y) (hL:AIn L' (Plus (fun j=>∃a,L=some a∧a.block=j) X Y)) (hO:Y.ownsRow 0 23 3 (.slice L' (ns.length+1) cl') (ns.length+1) (ns.flatMap Sym.cells ++ [.int .i64 s.kind,.string s.text,.int .i64 s.n]))
 (hV:V=Y.setCell ⟨nb,1,none⟩ (.slice L' (ns.length+1) cl')) (hS:PgSSet Z bp sn' A' cc' (put cmpPgS mm ⟨s,(ns.length:Int)+1⟩)) (hZ:Fr (SetMod bp sn A) V Z) (hM:Moved V sn A sn' A'):PutTo D w nb (ns ++ [s]) Z:=by
 have hnb:=h.blk.new_ hX
 have hmb:=h.map.new_ hX
 have hst:=h.set.new_ hX
 have hrw:=ownsRow_new h.row hX
 have nL : ∀{t:TypeId} {cs:Array Value} {g:Nat},Blk X g t cs→23≠t→¬(∃a,L=some a∧a.block=g):=fun hg hne ⟨a,ha,e⟩=>own_blk_ne hrw hg hne (by subst ha;subst e;rfl)
 have n1:=nL hnb (by decide)
 have n2:=nL hmb (by decide)
 have n3:=nL hst.blk (by decide)
 have n4 : ∀a,A=some a→¬(∃b,L=some b∧b.block=a.block):=fun a ha ⟨b,hb,e⟩=>own_own_ne hrw hst.row (by decide) (k:=a.block) (by subst hb;rw [← e];rfl) (by subst ha;rfl)
 have dnm:=hnb.ne_ hmb (by decide)
 have dnp:=hnb.ne_ hst.blk (by decide)
 have dmp:=hmb.ne_ hst.blk (by decide)
 have dna : ∀a,A=some a→a.block≠nb:=fun a ha e=>own_blk_ne hst.row hnb (by decide) (by subst ha;subst e;rfl)
 have dma : ∀a,A=some a→a.block≠bm:=fun a ha e=>own_blk_ne hst.row hmb (by decide) (by subst ha;subst e;rfl)
 have la:=hst.row_lt
 have mz : ∀k,k<X.heap.size→k≠bp→(∀a,A=some a→a.block≠k)→¬SetMod bp sn A k:=fun k _ h1 h2 hm=>hm.elim h1 (fun ⟨_,a,ha,e⟩=>h2 a ha e)
 have hsz:=hX.size
 have hyz:=hY.size
 have hb1:Blk V nb 148 #[.pointer (some ⟨bm,0,none⟩),.slice L' (ns.length+1) cl']:=by rw [hV];exact (hnb.fr hY n1).set_ 1 _
 have hm1:Blk V bm 226 #[.pointer (some ⟨bp,0,none⟩)]:=by rw [hV];exact (hmb.fr hY n2).far (p:=⟨nb,1,none⟩) (Ne.symm dnm) _
 have ho1:V.ownsRow 0 23 3 (.slice L' (ns.length+1) cl') (ns.length+1) (ns.flatMap Sym.cells ++ [.int .i64 s.kind,.string s.text,.int .i64 s.n]):=by rw [hV];exact ownsRow_setCell_other (a:=⟨nb,1,none⟩) hO (own_blk_ne hO (hnb.fr hY n1) (by decide)) _
 have hvs:V.heap.size=Y.heap.size:=by rw [hV];simp
 have hzz:=hZ.size
 have ha':AIn A' (fun k=>D k∨(w.heap.size≤k∧k<Z.heap.size)):=fun a ha=>by
  rcases hM with ⟨_,e⟩ | ⟨_,g,hg,e⟩
  · exact .inl (h.da a (e ▸ ha))
  · have hlt:=hS.row_lt a ha
    rw [e] at ha
    injection ha with ha
    subst ha
    exact .inr ⟨by dsimp only;omega,hlt⟩
 have hl' : ∀a,L'=some a→¬SetMod bp sn A a.block:=fun a ha hm=>by
  rcases hL a ha with hE | ⟨h1,_⟩
  · rcases hm with e | ⟨_,b,hb,e⟩
    · exact n3 (e ▸ hE)
    · exact n4 b hb (e ▸ hE)
  · rcases hm with e | ⟨_,b,hb,e⟩
    · have:=hst.lt;omega
    · have:=la b hb;omega
 refine ⟨fun k=>D k∨(w.heap.size≤k∧k<Z.heap.size),⟨bm,bp,sn',A',cc',_,L',cl',?_,hm1.fr hZ (mz _ hmb.lt dmp dma),hS,h.ok.put hs,?_,.inl h.dn,.inl h.dm,.inl h.dp,ha',fun a ha=>?_,fun k hk=>?_⟩,fun k hk=>.inl hk,fun k hk=>hk.imp id (·.1),?_⟩
 · have:=hb1.fr hZ (mz _ hnb.lt dnp dna)
   rwa [show (ns ++ [s]).length=ns.length+1 by simp]
 · have e1:(ns ++ [s]).flatMap Sym.cells=ns.flatMap Sym.cells ++ [.int .i64 s.kind,.string s.text,.int .i64 s.n]:=by rw [List.flatMap_append];rfl
   rw [show (ns ++ [s]).length=ns.length+1 by simp,e1]
   refine ⟨ho1.1,ho1.2.imp id fun ⟨g,cap,cur,hv,h0,hg,hr⟩=>⟨g,cap,cur,hv,h0,?_,hr⟩⟩
   injection hv with hv
   exact Blk.fr (t:=23) hg hZ (hl' ⟨g,0,none⟩ hv)
 · rcases hL a ha with ⟨b,hb,e⟩ | ⟨h1,h2⟩
   · exact .inl (e ▸ h.dl b hb)
   · exact .inr ⟨by omega,by omega⟩
 · rcases hk with hk | hk
   · have:=h.lt k hk;omega
   · exact hk.2
 · have f1:Fr D w Y:=(Fr.of_new hX).into hY (fun k ⟨a,ha,e⟩=>.inl (e ▸ h.dl a ha))
   have f2:Fr D w V:=by rw [hV];exact f1.setCell (p:=⟨nb,1,none⟩) (.inl h.dn) _
   exact f2.into hZ (fun k hm=>by
    rcases hm with e | ⟨_,a,ha,e⟩
    · exact .inl (e ▸ h.dp)
    · exact .inl (e ▸ h.da a ha))
set_option maxRecDepth 100000 in
set_option maxHeartbeats 8000000 in
theorem nput_is {D:Nat→Prop} {nb:Nat} {ns:List Sym} (s:Sym) (w:World) (h:Nm D w nb ns) (hl:ns.length≤1000):Calls Tryz.prog 102 #[.pointer (some ⟨nb,0,none⟩),.agg #[.int .i64 s.kind,.string s.text,.int .i64 s.n]] w fun e w'=>e = .returned (.tuple #[])∧PutTo D w nb (putN ns s) w':=by
 have HP:=Lib.hid (fun W (hW:Below w.heap.size w W)=>place_is s W (h.new_ hW) (by omega))
 have HA:=Lib.hid ((Below.refl w.heap.size w).alloc (Nat.le_refl _) (.cells #[.int .i64 s.kind,.string s.text,.int .i64 s.n] 23))
 have HN:=Lib.hid h
 by_cases hp:plV ns s=0
 · have HR:=Lib.hid (show putN ns s=ns ++ [s] by rw [putN,if_pos hp])
   have HNI:=Lib.hid (plV_zero.1 hp)
   rw [hp] at HP
   clear hp h
   obtain ⟨j0,hj0,hy0,hy1,hy2⟩:=infp inf_Sym
   obtain ⟨bm,bp,sn,A,cc,mm,L,cl,hnm⟩:=HN.out
   have HM:=Lib.hid hnm
   clear HN hnm
   go_enter Tryz.func102,Tryz.ntmps102
   go_wp2_with fail
   refine (HP.out _ HA.out).mono ?_
   rintro e w2 ⟨rfl,hb⟩
   have HB:=Lib.hid (HA.out.trans (hb.mono (by simp)))
   have hk:Blk w2 w.heap.size 23 #[.int .i64 s.kind,.string s.text,.int .i64 s.n]:=(Blk.new _ _ _).new_ hb
   have HK:=Lib.hid hk
   obtain ⟨k0,k1,k2⟩:=hk.c3
   have kz:=hk.lt
   have hn2:=HM.out.blk.new_ HB.out
   have m0:=(hn2.cell 0).trans rfl
   have m1:=(hn2.cell 1).trans rfl
   have mf:=hn2.frozen 1
   have mz:=hn2.lt
   have hnl:0≤ns.length:=Nat.zero_le _
   clear hb hk hn2
   go_upto_region 2 with fail
   refine wp_region_E (fun w9=>Below w2.heap.size w2 w9) [(0,0),(1,0),(2,0),(3,0),(4,1),(5,1),(6,2),(7,2),(8,0),(9,0),(10,2)] (by kernel_rfl) (by kernel_rfl) (fun KK hKK=>?_)
   simp only [beside,List.filterMap_cons,List.filterMap_nil,List.getElem?_toArray,List.getElem?_cons_zero,List.getElem?_cons_succ,Option.map_some]
   repeat ((first | (refine wpX_w ?_ (Or.inl ⟨by rfl,fun w9=>?_⟩) ?_;rotate_left 1;go_simp;with_reducible rfl) | (refine wpX_l ?_ (((Below.refl _ _).drew)) (Or.inl ⟨by rfl,fun w9 hw9=>?_⟩) ?_;rotate_left 1;obtain ⟨hc9,hf9⟩:=bcell hw9;go_simp;with_reducible rfl) | refine wpX_w undef (Or.inr ⟨by rfl,rfl⟩) ?_ | refine wpX_l undef (((Below.refl _ _).drew)) (Or.inr ⟨by rfl,rfl⟩) ?_);go_frame)
   refine wpX_es (fun K9 hK9=>?_)
   go_simp
   obtain ⟨Y9,hY9⟩ : ∃Y9,Y9=(w2.alloc (.cells #[.int .i64 s.kind,.string s.text,.int .i64 s.n] 23)).drew:=⟨_,rfl⟩
   have hb9:Below w2.heap.size w2 Y9:=by rw [hY9];exact ((Below.refl _ _).alloc (Nat.le_refl _) _).drew
   have HB23:=Lib.hid hb9
   have HN9:=Lib.hid (show ∀(j:Nat) (u:Value),([.int .i64 s.kind,.string s.text,.int .i64 s.n]:List Value)[j]? = some u→Y9.cell? ((⟨w2.heap.size,0,none⟩:Addr).add j)=some u by rw [hY9];exact World.news_of_block (heap_alloc_new _ _))
   rw [← hY9]
   clear hY9 hb9
   refine hK9 _ _ HB23.out ?_
   clear hK9 K9
   refine wpX_e (by kernel_rfl) (fun K9 hK9=>?_)
   refine step_append_src _ (by rfl) _ _ _ (by rfl) 23 j0 _ 3 32 Tryz.underlying36 hj0 hy0 hy1 hy2 rfl (by omega) (.slice L ns.length cl) ns.length (ns.flatMap Sym.cells) (by rfl) (ownsRow_new HM.out.row (HB.out.trans (HB23.out.mono HB.out.size))) _ 1 1 [.int .i64 s.kind,.string s.text,.int .i64 s.n] (by rfl) (by rfl) (fun _=>⟨_,rfl,HN9.out⟩) (by intro u hu;simp only [List.mem_cons,List.not_mem_nil,or_false] at hu;rcases hu with rfl | rfl | rfl<;>rfl) (by unfold maxLen;omega) (by omega) ?_
   intro v2 w23 hown hgr hnil hat
   obtain ⟨E2,x2,rfl,hF3,hA3,hO3⟩:=grown_own (E:=fun j=>∃a,L=some a∧a.block=j) (fun a ha=>⟨a,ha,rfl⟩) hown hgr hat
   have HF3:=Lib.hid hF3
   have HA3:=Lib.hid hA3
   have HO3:=Lib.hid hO3
   have hp3:=(HM.out.blk.new_ (HB.out.trans (HB23.out.mono HB.out.size))).fr hF3 (fun ⟨a,ha,e⟩=>own_blk_ne (ownsRow_new HM.out.row (HB.out.trans (HB23.out.mono HB.out.size))) (HM.out.blk.new_ (HB.out.trans (HB23.out.mono HB.out.size))) (by decide) (by subst ha;subst e;rfl))
   have HP3:=Lib.hid hp3
   have g1:=(hp3.cell 1).trans rfl
   have pf:=hp3.frozen 1
   have gz:=hp3.lt
   clear hown hgr hnil hat hp3 hF3 hA3 hO3
   refine hK9 _ _ ?_
   clear hK9 K9
   repeat ((first | (refine wpX_w ?_ (Or.inl ⟨by rfl,fun w9=>?_⟩) ?_;rotate_left 1;go_simp;with_reducible rfl) | (refine wpX_l ?_ (HB23.out) (Or.inl ⟨by rfl,fun w9 hw9=>?_⟩) ?_;rotate_left 1;obtain ⟨hc9,hf9⟩:=bcell hw9;go_simp;with_reducible rfl) | refine wpX_w undef (Or.inr ⟨by rfl,rfl⟩) ?_ | refine wpX_l undef (HB23.out) (Or.inr ⟨by rfl,rfl⟩) ?_);go_frame)
   refine wpX_e (by kernel_rfl) (fun K9 hK9=>?_)
   go_simp
   refine hK9 _ _ ?_
   clear hK9 K9
   refine wpX_nil ?_
   simp only [OnlyN_normal]
   refine hKK _ _ ?_
   clear hKK KK
   obtain ⟨V,hV⟩ : ∃V,V=w23.setCell ⟨nb,1,none⟩ (.slice E2 (ns.length+1) x2):=⟨_,rfl⟩
   rw [← hV]
   have HV:=Lib.hid hV
   have hX:=HB.out.trans (HB23.out.mono HB.out.size)
   have hkV:Blk V w.heap.size 23 #[.int .i64 s.kind,.string s.text,.int .i64 s.n]:=by rw [hV];exact ((HK.out.new_ HB23.out).fr HF3.out (fun ⟨a,ha,e⟩=>by have h1:=HM.out.lt _ (HM.out.dl a ha);omega)).far (p:=⟨nb,1,none⟩) (by have h1:=HM.out.lt _ HM.out.dn;dsimp only;omega) _
   have hnV:Blk V nb 148 #[.pointer (some ⟨bm,0,none⟩),.slice E2 (ns.length+1) x2]:=by rw [hV];exact HP3.out.set_ 1 _
   have hxm:=HM.out.map.new_ hX
   have hxs:=HM.out.set.new_ hX
   have hxr:=ownsRow_new HM.out.row hX
   have q2 : ¬(∃a,L=some a∧a.block=bm):=fun ⟨a,ha,e⟩=>own_blk_ne hxr hxm (by decide) (by subst ha;subst e;rfl)
   have q3 : ¬(∃a,L=some a∧a.block=bp):=fun ⟨a,ha,e⟩=>own_blk_ne hxr hxs.blk (by decide) (by subst ha;subst e;rfl)
   have q4 : ∀a,A=some a→¬(∃b,L=some b∧b.block=a.block):=fun a ha ⟨b,hb,e⟩=>own_own_ne hxr hxs.row (by decide) (k:=a.block) (by subst hb;rw [← e];rfl) (by subst ha;rfl)
   have hmV:Blk V bm 226 #[.pointer (some ⟨bp,0,none⟩)]:=by rw [hV];exact (hxm.fr HF3.out q2).far (p:=⟨nb,1,none⟩) (Ne.symm ((HM.out.blk.new_ hX).ne_ hxm (by decide))) _
   have hsV:PgSSet V bp sn A cc mm:=by
    have f9:Fr (fun j=>(∃a,L=some a∧a.block=j)∨j=nb) Y9 V:=by rw [hV];exact (HF3.out.mono (fun k _ hk=>.inl hk)).setCell (p:=⟨nb,1,none⟩) (.inl (.inr rfl)) _
    exact hxs.fr f9 (fun e=>e.elim q3 (fun e=>((HM.out.blk.new_ hX).ne_ hxs.blk (by decide)) e.symm)) (fun a ha e=>e.elim (q4 a ha) (fun e=>own_blk_ne hxs.row (HM.out.blk.new_ hX) (by decide) (by subst ha;rw [← e];rfl)))
   have HPUT:=Lib.hid (show ∀W,Below V.heap.size V W→Calls Tryz.prog 145 #[.pointer (some ⟨bm,0,none⟩),.agg #[.int .i64 s.kind,.string s.text,.int .i64 s.n],.int .i64 ((ns.length:Int)+1)] W _ from fun W hW=>bkput_PgS bm bp cc sn A mm s ((ns.length:Int)+1) W (hmV.new_ hW) (hsV.new_ hW) HM.out.ok.srt (by rw [HM.out.ok.len];omega) (by rw [HM.out.ok.has];exact decide_eq_false HNI.out))
   obtain ⟨k0,k1,k2⟩:=hkV.c3
   have kz:=hkV.lt
   have m0:=(hnV.cell 0).trans rfl
   have m1:=(hnV.cell 1).trans rfl
   have mz:=hnV.lt
   clear hV hX hkV hnV hxm hxs hxr q2 q3 q4 hmV hsV g1 pf gz mf
   go_upto_region 3 with fail
   refine wp_region_E (fun w9=>Below V.heap.size V w9) [(0,0),(1,0),(2,0),(3,1),(4,1),(5,0),(6,0),(7,0),(8,1),(9,0),(10,2)] (by kernel_rfl) (by kernel_rfl) (fun KK hKK=>?_)
   simp only [beside,List.filterMap_cons,List.filterMap_nil,List.getElem?_toArray,List.getElem?_cons_zero,List.getElem?_cons_succ,Option.map_some]
   repeat ((first | (refine wpX_w ?_ (Or.inl ⟨by rfl,fun w9=>?_⟩) ?_;rotate_left 1;go_simp;with_reducible rfl) | (refine wpX_l ?_ (((Below.refl _ _).drew)) (Or.inl ⟨by rfl,fun w9 hw9=>?_⟩) ?_;rotate_left 1;obtain ⟨hc9,hf9⟩:=bcell hw9;go_simp;with_reducible rfl) | refine wpX_w undef (Or.inr ⟨by rfl,rfl⟩) ?_ | refine wpX_l undef (((Below.refl _ _).drew)) (Or.inr ⟨by rfl,rfl⟩) ?_);go_frame)
   refine wpX_e (by kernel_rfl) (fun K9 hK9=>?_)
   go_simp
   refine (HPUT.out _ ((Below.refl V.heap.size V).drew)).mono ?_
   rintro e w5 ⟨rfl,sn',A',cc',g1,g2,g3⟩
   have HG:=Lib.hid (And.intro g1 (And.intro g2 g3))
   clear g1 g2 g3
   refine hK9 _ _ ?_
   clear hK9 K9
   refine wpX_nil ?_
   simp only [OnlyN_normal]
   refine hKK _ _ ?_
   clear hKK KK
   go_wp2_with fail
   go_end0
   rw [HR.out]
   obtain ⟨g1,g2,g3⟩:=HG.out
   exact ⟨rfl,HM.out.more HNI.out (HB.out.trans (HB23.out.mono HB.out.size)) HF3.out HA3.out HO3.out HV.out g1 ((Fr.refl _ V).drew.trans g2) g3⟩
 · have HR:=Lib.hid (show putN ns s=ns by rw [putN,if_neg hp])
   obtain ⟨r,hr⟩ : ∃r,r=plV ns s:=⟨_,rfl⟩
   rw [← hr] at HP
   have r1:((r:Int) == 0)=false:=by simp;omega
   have r2 : ¬(r:Int)=0:=by omega
   have r3 : ¬r=0:=by omega
   clear hp hr h
   go_enter Tryz.func102,Tryz.ntmps102
   go_wp2_with fail
   refine (HP.out _ HA.out).mono ?_
   rintro e w2 ⟨rfl,hb⟩
   have HB:=Lib.hid (HA.out.trans (hb.mono (by simp)))
   clear hb
   go_wp2_with fail
   go_end0
   exact ⟨rfl,by rw [HR.out];exact PutTo.same HN.out HB.out⟩
end Go.Proofs.YtldndkngpdfpfaaGreat
namespace Go.Proofs.YtldndkngpdfpfaaGreat
open Go.RowKit Go.Shelf
attribute [local go_sem] Oper.semAt_some
set_option linter.unusedSimpArgs false
theorem inf_Elem:(Tryz.prog.info? 55).map (fun i=>(i.zero,i.size,i.bytes))=some (some (.agg #[.int .i64 0,.string ⟨#[]⟩,.int .i64 0,.int .i64 0,.string ⟨#[]⟩,.int .i64 0,.int .i64 0,.string ⟨#[]⟩,.int .i64 0,.bool false,.bool false,.int .i64 0]),12,112):=by kernel_rfl
theorem one_Elem (l:List Elem) : ∀u∈l.flatMap Elem.cells,u.oneCell'=true:=by
 intro u hu
 obtain ⟨b,_,hb⟩:=List.mem_flatMap.1 hu
 simp only [Elem.cells,List.mem_cons,List.not_mem_nil,or_false] at hb
 rcases hb with rfl | rfl | rfl | rfl | rfl | rfl | rfl | rfl | rfl | rfl | rfl | rfl<;>rfl
theorem run_slE_from {n c j:Nat} (A:Option Addr) (hj:j≤n) (Y:World):(Instr.slice 84 (.slice A n c) (some (.int .i64 (j:Int))) none none).run Tryz.prog Y = .ok (.slice (if c=j then A else A.map (·.add (j*12))) (n - j) (c - j)) Y:=by
 have hl0:(0:Int)≤(j:Int):=by omega
 have hl1:(j:Int)≤(n:Int):=by omega
 go_simp
theorem run_slE_to {n c j:Nat} (A:Option Addr) (hj:j≤c) (Y:World):(Instr.slice 84 (.slice A n c) none (some (.int .i64 (j:Int))) none).run Tryz.prog Y = .ok (.slice A j c) Y:=by
 have hl0:(0:Int)≤(j:Int):=by omega
 have hl1:(j:Int)≤(c:Int):=by omega
 go_simp
theorem owns_drew {w:World} {b e s n:Nat} {v:Value} {xs:List Value} (h:w.ownsRow b e s v n xs):w.drew.ownsRow b e s v n xs:=h
theorem own_takeE {w:World} {n c k:Nat} {A:Option Addr} {l:List Elem} (h:w.ownsRow 0 55 12 (.slice A n c) n (l.flatMap Elem.cells)) (hl:l.length=n) (hk:k<n):w.ownsRow 0 55 12 (.slice A k c) k ((l.take k).flatMap Elem.cells):=by
 rcases ownsRow_form h with ⟨hv,hn,_⟩ | ⟨g,cap,hv,_⟩
 · omega
 · injection hv with hA _ hc
   subst hA;subst hc
   exact ownsRow_prefix Elem.cells_length (by decide) h (by omega) hl
theorem RowRd.suffixE {α:Type} {w:World} {size c:Nat} {cells:α→List Value} {A:Option Addr} {l:List α} (h:RowRd w size cells A c l) (i:Nat) (hi:i≤l.length) :
 RowRd w size cells (if c=i then A else A.map (·.add (i*size))) (c - i) (l.drop i):=by
 refine ⟨by simp;have:=h.1;omega,by have:=h.2.1;omega,fun h0=>?_⟩
 rw [List.length_drop] at h0
 obtain ⟨b,off,rfl,hb,hc⟩:=h.2.2 (by omega)
 have h1:=h.1
 rw [if_neg (by omega)]
 refine ⟨b,off+i*size,by simp [Go.WideShapes.add_plain],hb,fun k hk j u hu=>?_⟩
 rw [List.length_drop] at hk
 have:=hc (i+k) (by omega) j u (by rw [← hu];simp)
 rw [Nat.add_mul] at this
 rw [← this]
 congr 2
 omega
def bestZ:Option Nat→Int
 | none=>-1
 | some k=>(k:Int)
theorem bestS_skip {ns:List Sym} {left:List Elem} {i:Nat} {y:Elem} (hy:left[i]? = some y) (h:canN ns y=false):bestS ns left (i+1)=bestS ns left i:=by
 rw [bestS,hy];simp only;rw [if_neg (by rw [h];decide)]
theorem bestS_first {ns:List Sym} {left:List Elem} {i:Nat} {y:Elem} (hy:left[i]? = some y) (h:canN ns y=true) (hb:bestS ns left i=none):bestS ns left (i+1)=some i:=by
 rw [bestS,hy];simp only;rw [if_pos h,hb]
theorem bestS_more {ns:List Sym} {left:List Elem} {i k:Nat} {y b:Elem} (hy:left[i]? = some y) (h:canN ns y=true) (hb:bestS ns left i=some k) (hk:left[k]? = some b) (v:Bool) (hv:aheadV ns y b=v):bestS ns left (i+1)=some (if v=true then i else k):=by
 rw [bestS,hy];simp only;rw [if_pos h,hb];simp only;rw [hk];simp only;rw [hv];cases v<;>rfl
def lenV:Value→Nat
 | .slice _ n _=>n
 | _=>0
structure LS (X:World) (nb:Nat) (ns:List Sym) (left out:List Elem) (AL:Option Addr) (cL:Nat) (AO:Option Addr) (cO:Nat) (D:Nat→Prop) (w:World):Prop where
 nm:Nm D w nb ns
 dn : ∀k,D k→X.heap.size≤k
 lo:w.ownsRow 0 55 12 (.slice AL left.length cL) left.length (left.flatMap Elem.cells)
 la:AIn AL (fun k=>X.heap.size≤k∧¬D k)
 oo:w.ownsRow 0 55 12 (.slice AO out.length cO) out.length (out.flatMap Elem.cells)
 oa:AIn AO (fun k=>X.heap.size≤k∧¬D k)
 ne : ∀a b,AL=some a→AO=some b→a.block≠b.block
 bel:Below X.heap.size X w
section
variable {X w w':World} {nb:Nat} {ns ns':List Sym} {left out:List Elem} {AL:Option Addr} {cL:Nat} {AO:Option Addr} {cO:Nat} {D:Nat→Prop}
theorem ain_lt {e:TypeId} {size n c:Nat} {A:Option Addr} {xs:List Value} (h:w.ownsRow 0 e size (.slice A n c) n xs) : ∀a,A=some a→a.block<w.heap.size:=fun a ha=>own_lt h a.block (by subst ha;rfl)
theorem LS.new_ (h:LS X nb ns left out AL cL AO cO D w) (hb:Below w.heap.size w w'):LS X nb ns left out AL cL AO cO D w':=
 ⟨h.nm.new_ hb,h.dn,ownsRow_new h.lo hb,h.la,ownsRow_new h.oo hb,h.oa,h.ne,h.bel.trans (hb.mono h.bel.size)⟩
theorem LS.put (h:LS X nb ns left out AL cL AO cO D w) (hp:PutTo D w nb ns' w') : ∃D',LS X nb ns' left out AL cL AO cO D' w':=by
 obtain ⟨D',h1,h2,h3,h4⟩:=hp
 have hsz:=h.bel.size
 have far : ∀{A:Option Addr} {n c:Nat} {xs:List Value},w.ownsRow 0 55 12 (.slice A n c) n xs→AIn A (fun k=>X.heap.size≤k∧¬D k)→AIn A (fun k=>X.heap.size≤k∧¬D' k):=fun ho hA a ha=>⟨(hA a ha).1,fun hd=>(h3 _ hd).elim (hA a ha).2 (fun h5=>by have:=ain_lt ho a ha;omega)⟩
 have hown : ∀{A:Option Addr} {n c:Nat} {xs:List Value},w.ownsRow 0 55 12 (.slice A n c) n xs→AIn A (fun k=>X.heap.size≤k∧¬D k)→w'.ownsRow 0 55 12 (.slice A n c) n xs:=fun {A} {n c xs} ho hA=>ownsRow_fr ho h4 (fun g hg hd=>by
  cases A with
  | none=>cases hg
  | some a=>injection hg with hg;exact (hA a rfl).2 (hg ▸ hd))
 exact ⟨D',h1,fun k hk=>(h3 k hk).elim (h.dn k) (fun h5=>by omega),hown h.lo h.la,far h.lo h.la,hown h.oo h.oa,far h.oo h.oa,h.ne,h.bel.trans (h4.below hsz (fun k hk hd=>by have:=h.dn k hd;omega))⟩
theorem LS.cut (h:LS X nb ns left out AL cL AO cO D w) {k:Nat} (hk:k<left.length) {v:Value} (hown:w'.ownsRow 0 55 12 v (k+(left.drop (k+1)).length) ((left.take k).flatMap Elem.cells++(left.drop (k+1)).flatMap Elem.cells))
 (hg:w.grownBy w' (Value.slice AL k cL).ownBlock) (hat:v.ownBlock=(Value.slice AL k cL).ownBlock∨v.ownBlock=some w.heap.size) : ∃A' c',v = .slice A' (left.eraseIdx k).length c'∧LS X nb ns (left.eraseIdx k) out A' c' AO cO D w'∧Fr (fun j=>∃a,AL=some a∧a.block=j) w w':=by
 obtain ⟨A',c',rfl,hF,hA,hO⟩:=grown_own (E:=fun j=>∃a,AL=some a∧a.block=j) (fun a ha=>⟨a,ha,rfl⟩) hown hg hat
 have e1:left.eraseIdx k=left.take k++left.drop (k+1):=List.eraseIdx_eq_take_drop_succ left k
 have e2:(left.eraseIdx k).length=k+(left.drop (k+1)).length:=by rw [e1,List.length_append,List.length_take,Nat.min_eq_left (by omega)]
 have hsz:=h.bel.size
 refine ⟨A',c',by rw [e2],⟨h.nm.fr hF (fun j hj ⟨a,ha,e⟩=>(h.la a ha).2 (e ▸ hj)),h.dn,by rw [e2,e1,List.flatMap_append];exact hO,fun a ha=>?_,ownsRow_fr h.oo hF (fun g hg ⟨a,ha,e⟩=>?_),h.oa,fun a b ha hb=>?_,h.bel.trans (hF.below hsz (fun j hj ⟨a,ha,e⟩=>by have:=(h.la a ha).1;omega))⟩,hF⟩
 · rcases hA a ha with ⟨b,hb,e⟩ | ⟨h1,_⟩
   · rw [← e];exact h.la b hb
   · exact ⟨by omega,fun hd=>by have:=h.nm.lt _ hd;omega⟩
 · cases AO with
   | none=>cases hg
   | some b=>injection hg with hg;exact h.ne a b ha rfl (e.trans hg.symm)
 · rcases hA a ha with ⟨b',hb',e⟩ | ⟨h1,_⟩
   · rw [← e];exact h.ne b' b hb' hb
   · have:=ain_lt h.oo b hb;omega
theorem LS.more (h:LS X nb ns left out AL cL AO cO D w) {e:Elem} {v:Value} (hown:w'.ownsRow 0 55 12 v (out.length+1) (out.flatMap Elem.cells ++ [e].flatMap Elem.cells))
 (hg:w.grownBy w' (Value.slice AO out.length cO).ownBlock) (hat:v.ownBlock=(Value.slice AO out.length cO).ownBlock∨v.ownBlock=some w.heap.size) : ∃A' c',v = .slice A' (out ++ [e]).length c'∧LS X nb ns left (out ++ [e]) AL cL A' c' D w'∧Fr (fun j=>∃a,AO=some a∧a.block=j) w w':=by
 obtain ⟨A',c',rfl,hF,hA,hO⟩:=grown_own (E:=fun j=>∃a,AO=some a∧a.block=j) (fun a ha=>⟨a,ha,rfl⟩) hown hg hat
 have e2:(out ++ [e]).length=out.length+1:=by simp
 have hsz:=h.bel.size
 refine ⟨A',c',by rw [e2],⟨h.nm.fr hF (fun j hj ⟨a,ha,e⟩=>(h.oa a ha).2 (e ▸ hj)),h.dn,ownsRow_fr h.lo hF (fun g hg ⟨a,ha,e⟩=>?_),h.la,by rw [e2,List.flatMap_append];exact hO,fun a ha=>?_,fun a b ha hb=>?_,h.bel.trans (hF.below hsz (fun j hj ⟨a,ha,e⟩=>by have:=(h.oa a ha).1;omega))⟩,hF⟩
 · cases AL with
   | none=>cases hg
   | some b=>injection hg with hg;exact h.ne b a rfl ha (hg.trans e.symm)
 · rcases hA a ha with ⟨b,hb,e⟩ | ⟨h1,_⟩
   · rw [← e];exact h.oa b hb
   · exact ⟨by omega,fun hd=>by have:=h.nm.lt _ hd;omega⟩
 · rcases hA b hb with ⟨b',hb',e⟩ | ⟨h1,_⟩
   · rw [← e];exact h.ne a b' ha hb'
   · have:=ain_lt h.lo a ha;omega
theorem LS.at_ (h:LS X nb ns left out AL cL AO cO D w) {i:Nat} (hi:i<left.length) : ∃g off,AL=some ⟨g,off,none⟩∧g<w.heap.size∧w.rangeAt g (off+i*12) (Elem.cells left[i]):=by
 obtain ⟨b,off,h1,h2,h3⟩:=(ownsRow_rd Elem.cells_length h.lo).at_ hi
 exact ⟨b,off,h1,h2,fun j u hu=>h3 j u hu⟩
end
def LaidTo (l:List Elem) (w:World) (e:Ending) (w':World):Prop:=Below w.heap.size w w'∧
 match orderV l with
 | none=>e = .returned (.tuple #[.slice none 0 0,.pointer none,.bool false])
 | some (o,ns)=>∃A c nb D,e = .returned (.tuple #[.slice A o.length c,.pointer (some ⟨nb,0,none⟩),.bool true])∧w'.ownsRow 0 55 12 (.slice A o.length c) o.length (o.flatMap Elem.cells)∧AIn A (fun k=>w.heap.size≤k∧¬D k)∧Nm D w' nb ns∧∀k,D k→w.heap.size≤k
theorem LaidTo.no {l:List Elem} {w w':World} (h:orderV l=none) (hb:Below w.heap.size w w'):LaidTo l w (.returned (.tuple #[.slice none 0 0,.pointer none,.bool false])) w':=by
 refine ⟨hb,?_⟩
 rw [h]
theorem LaidTo.yes {l o left:List Elem} {X w:World} {nb:Nat} {ns:List Sym} {AL:Option Addr} {cL:Nat} {AO:Option Addr} {cO:Nat} {D:Nat→Prop} (h:orderV l=some (o,ns)) (hs:LS X nb ns left o AL cL AO cO D w):LaidTo l X (.returned (.tuple #[.slice AO o.length cO,.pointer (some ⟨nb,0,none⟩),.bool true])) w:=by
 refine ⟨hs.bel,?_⟩
 rw [h]
 exact ⟨AO,cO,nb,D,rfl,hs.oo,hs.oa,hs.nm,hs.dn⟩
set_option maxRecDepth 100000 in
set_option maxHeartbeats 16000000 in
theorem laid_is (l:List Elem) (A:Option Addr) (c:Nat) (X:World) (h:RowRd X 12 Elem.cells A c l) (hl:l.length≤300):Calls Tryz.prog 61 #[.slice A l.length c] X (LaidTo l X):=by
 obtain ⟨i0,hi0,hz0,hz1,hz2⟩:=infp inf_Elem
 have HR:=Lib.hid h
 have hc1:=h.cap
 clear h
 go_enter Tryz.func61,Tryz.ntmps61
 go_wp2_with fail
 refine (bknew_PgS _).mono ?_
 rintro e w1 ⟨bm,bp,sn,AM,cM,rfl,hbm,hbp,hAM,hM,hS,hb1⟩
 have HK:=Lib.hid (And.intro hbm (And.intro hbp (And.intro hAM (And.intro hM (And.intro hS hb1)))))
 clear hbm hbp hAM hM hS hb1
 go_upto_region 2 with fail
 obtain ⟨w2,hw2⟩ : ∃w2,w2=w1.alloc (.cells #[.pointer (some ⟨bm,0,none⟩),.slice none 0 0] 148):=⟨_,rfl⟩
 obtain ⟨nb,hnb⟩ : ∃nb,nb=w1.heap.size:=⟨_,rfl⟩
 have hb2:Below w1.heap.size w1 w2:=by rw [hw2];exact (Below.refl _ _).alloc (Nat.le_refl _) _
 have hs2:w2.heap.size=w1.heap.size+1:=by rw [hw2];simp
 have HN2:=Lib.hid (show Nm (fun k=>X.heap.size≤k∧k<w2.heap.size) w2 nb [] by
  obtain ⟨hbm,hbp,hAM,hM,hS,hb1⟩:=HK.out
  have hz:=hb1.size
  refine ⟨bm,bp,sn,AM,cM,[],none,0,by rw [hw2,hnb];exact Blk.new _ _ _,hM.new_ hb2,hS.new_ hb2,MapN.nil,⟨by simp,.inl ⟨rfl,rfl⟩⟩,⟨by omega,by omega⟩,⟨hbm,by have:=hM.lt;omega⟩,⟨hbp,by have:=hS.lt;omega⟩,fun a ha=>⟨hAM a ha,by have:=hS.row_lt a ha;omega⟩,AIn.none_ _,fun k hk=>hk.2⟩)
 have HB2:=Lib.hid (HK.out.2.2.2.2.2.trans (hb2.mono HK.out.2.2.2.2.2.size))
 rw [← hnb,← hw2]
 clear hnb hw2 hb2 hs2
 go_upto_region 3 with (at_builtin;refine wpList_append_src w2 rfl (.const (.slice none 0 0)) (.tmp 15) 84 rfl 55 i0 _ 12 112 Tryz.underlying84 hi0 hz0 hz1 hz2 rfl (by omega) (.slice none 0 0) 0 [] rfl ⟨by simp,.inl ⟨rfl,rfl⟩⟩ A l.length c (l.flatMap Elem.cells) rfl (flat_length Elem.cells_length _) ((HR.out.new_ HB2.out).news Elem.cells_length (by omega)) (one_Elem _) (by unfold maxLen;omega) (by omega) ?_;intro v1 w3 hown1 hg1 hnil1 hat1;obtain ⟨AL0,cL0,rfl,hF1,hA1,hO1⟩:=grown_own (E:=fun _=>False) (A:=none) (c:=0) (n:=0) (fun a ha=>by cases ha) hown1 hg1 hat1;rw [Nat.zero_add,List.nil_append] at hO1;rw [Nat.zero_add];have HO1:=Lib.hid (And.intro hF1 (And.intro hA1 hO1));clear hown1 hg1 hnil1 hat1 hF1 hA1 hO1)
 have HLS:=Lib.hid (show LS X nb [] l [] AL0 cL0 none 0 (fun k=>X.heap.size≤k∧k<w2.heap.size) w3 by
  obtain ⟨hF,hA,hO⟩:=HO1.out
  have hb3:Below w2.heap.size w2 w3:=hF.below (Nat.le_refl _) (fun _ _ h=>h)
  have hz2:=HB2.out.size
  refine ⟨HN2.out.new_ hb3,fun k hk=>hk.1,hO,fun a ha=>?_,⟨by simp,.inl ⟨rfl,rfl⟩⟩,AIn.none_ _,fun _ _ _ hb=>(by cases hb),HB2.out.trans (hb3.mono hz2)⟩
  rcases hA a ha with h | ⟨h1,_⟩
  · exact h.elim
  · exact ⟨by omega,fun h=>by omega⟩)
 clear HN2 HB2 HO1 HK HR
 go_wp2_with fail
 go_loopw [6,7] (fun vl vo wr=>∃(left out:List Elem) (ns:List Sym) (AL:Option Addr) (cL:Nat) (AO:Option Addr) (cO:Nat) (D:Nat→Prop),vl = .slice AL left.length cL∧vo = .slice AO out.length cO∧LS X nb ns left out AL cL AO cO D wr∧left.length+out.length≤300∧ns.length≤2*out.length∧laidV left.length ns left out=orderV l) (fun vl vo wr=>lenV vl)
 case atStart=>exact ⟨l,[],[],AL0,cL0,none,0,_,rfl,rfl,HLS.out,by simpa using hl,by simp,rfl⟩
 case round=>
  clear HLS
  obtain ⟨left,out,ns,AL,cL,AO,cO,D,rfl,rfl,hls,hlen,hns,hlv⟩:=hrel
  have HS0:=Lib.hid hls
  have HLV:=Lib.hid hlv
  have hcl:=(ownsRow_rd Elem.cells_length hls.lo).cap
  have hcm:left.length≤cL:=(ownsRow_rd Elem.cells_length hls.lo).1
  clear hls hlv
  by_cases he:left.length=0
  · have hl0:left = []:=List.length_eq_zero_iff.1 he
    have HOV:=Lib.hid (show orderV l=some (out,ns) by rw [← HLV.out,hl0];exact laidV_nil)
    clear HLV
    go_wp2_with fail
    exact bodyPost_ret (v:=.tuple #[.slice AO out.length cO,.pointer (some ⟨nb,0,none⟩),.bool true]) (by simp [results,Tryz.results61,go_sem, *]) rfl (LaidTo.yes HOV.out HS0.out)
  · have hl1:(0:Int)<(left.length:Int):=by omega
    have hl2:0<left.length:=by omega
    go_upto_region 7 with fail
    go_loopw [8,22] (fun vb vi W=>∃i:Nat,vi = .int .i64 (i:Int)∧i≤left.length∧vb = .int .i64 (bestZ (bestS ns left i))∧LS X nb ns left out AL cL AO cO D W) (fun vb vi W=>left.length - (intOf vi).toNat)
    case atStart=>exact ⟨0,rfl,Nat.zero_le _,rfl,HS0.out⟩
    case round=>
     obtain ⟨i,rfl,hi,rfl,hls⟩:=hrel
     have HS:=Lib.hid hls
     clear hls
     by_cases hlt:i<left.length
     · skip
       obtain ⟨y,hy⟩ : ∃y,y=left[i]:=⟨_,rfl⟩
       have HY:=Lib.hid hy
       obtain ⟨g,off,hAA,hgl,hrg⟩:=HS.out.at_ hlt
       rw [← hy] at hrg
       subst hAA
       have HRG:=Lib.hid (show wr.rangeAt g (off+i*12) [.int .i64 y.id.kind,.string y.id.text,.int .i64 y.id.n,.int .i64 y.attr.kind,.string y.attr.text,.int .i64 y.attr.n,.int .i64 y.value.kind,.string y.value.text,.int .i64 y.value.n,.bool y.acc,.bool y.goal,.int .i64 y.tag] from hrg)
       have HTH:=Lib.hid (show (wr.alloc (.cells #[.int .i64 0,.string ⟨#[]⟩,.int .i64 0,.int .i64 0,.string ⟨#[]⟩,.int .i64 0,.int .i64 0,.string ⟨#[]⟩,.int .i64 0,.bool false,.bool false,.int .i64 0] 55)).there wr.heap.size 0 (#[.int .i64 y.id.kind,.string y.id.text,.int .i64 y.id.n,.int .i64 y.attr.kind,.string y.attr.text,.int .i64 y.attr.n,.int .i64 y.value.kind,.string y.value.text,.int .i64 y.value.n,.bool y.acc,.bool y.goal,.int .i64 y.tag]:Array Value).size from (Blk.new wr 55 #[.int .i64 0,.string ⟨#[]⟩,.int .i64 0,.int .i64 0,.string ⟨#[]⟩,.int .i64 0,.int .i64 0,.string ⟨#[]⟩,.int .i64 0,.bool false,.bool false,.int .i64 0]).there)
       obtain ⟨W5,hW5⟩ : ∃W5,W5=(wr.alloc (.cells #[.int .i64 0,.string ⟨#[]⟩,.int .i64 0,.int .i64 0,.string ⟨#[]⟩,.int .i64 0,.int .i64 0,.string ⟨#[]⟩,.int .i64 0,.bool false,.bool false,.int .i64 0] 55)).setCells wr.heap.size 0 [.int .i64 y.id.kind,.string y.id.text,.int .i64 y.id.n,.int .i64 y.attr.kind,.string y.attr.text,.int .i64 y.attr.n,.int .i64 y.value.kind,.string y.value.text,.int .i64 y.value.n,.bool y.acc,.bool y.goal,.int .i64 y.tag]:=⟨_,rfl⟩
       have HW5:=Lib.hid hW5
       have HRG5:=Lib.hid (show W5.rangeAt wr.heap.size 0 [.int .i64 y.id.kind,.string y.id.text,.int .i64 y.id.n,.int .i64 y.attr.kind,.string y.attr.text,.int .i64 y.attr.n,.int .i64 y.value.kind,.string y.value.text,.int .i64 y.value.n,.bool y.acc,.bool y.goal,.int .i64 y.tag] by rw [hW5];exact World.rangeAt_setCells_same _ _ _ _ HTH.out)
       have HK5:=Lib.hid (show Blk W5 wr.heap.size 55 #[.int .i64 y.id.kind,.string y.id.text,.int .i64 y.id.n,.int .i64 y.attr.kind,.string y.attr.text,.int .i64 y.attr.n,.int .i64 y.value.kind,.string y.value.text,.int .i64 y.value.n,.bool y.acc,.bool y.goal,.int .i64 y.tag] from kept_blk (zs:=[.int .i64 0,.string ⟨#[]⟩,.int .i64 0,.int .i64 0,.string ⟨#[]⟩,.int .i64 0,.int .i64 0,.string ⟨#[]⟩,.int .i64 0,.bool false,.bool false,.int .i64 0]) (vs:=[.int .i64 y.id.kind,.string y.id.text,.int .i64 y.id.n,.int .i64 y.attr.kind,.string y.attr.text,.int .i64 y.attr.n,.int .i64 y.value.kind,.string y.value.text,.int .i64 y.value.n,.bool y.acc,.bool y.goal,.int .i64 y.tag]) rfl hW5 HRG5.out)
       have HB5:=Lib.hid (show Below wr.heap.size wr W5 by rw [hW5];exact Below.setCells' _ _ ((Below.refl _ _).alloc (Nat.le_refl _) _) (Nat.le_refl _))
       clear hW5 hrg hy
       have HYI:=Lib.hid (show left[i]? = some y by rw [HY.out];exact List.getElem?_eq_getElem hlt)
       have j1:(0:Int)≤(i:Int):=by omega
       have j2:(i:Int)<(left.length:Int):=by omega
       obtain ⟨bs,hbs⟩ : ∃bs,bs=bestS ns left i:=⟨_,rfl⟩
       have HBS:=Lib.hid hbs.symm
       rw [← hbs]
       clear hbs
       go_upto_region 9 with (first
       | (with_reducible refine wpList_load_mid rfl 55 _ rfl g (off+i*12) rfl [.int .i64 y.id.kind,.string y.id.text,.int .i64 y.id.n,.int .i64 y.attr.kind,.string y.attr.text,.int .i64 y.attr.n,.int .i64 y.value.kind,.string y.value.text,.int .i64 y.value.n,.bool y.acc,.bool y.goal,.int .i64 y.tag] _ HRG.out Tryz.underlying55 rfl (by kernel_rfl) ?_)
       | ((with_reducible refine wpList_store_mid rfl 55 _ _ rfl wr.heap.size 0 #[.int .i64 y.id.kind,.string y.id.text,.int .i64 y.id.n,.int .i64 y.attr.kind,.string y.attr.text,.int .i64 y.attr.n,.int .i64 y.value.kind,.string y.value.text,.int .i64 y.value.n,.bool y.acc,.bool y.goal,.int .i64 y.tag] rfl rfl HTH.out (by kernel_rfl) (by kernel_rfl) ?_);rw [← HW5.out]))
       have HS5:=Lib.hid (HS.out.new_ HB5.out)
       have HP5:=Lib.hid (show ∀W,Below W5.heap.size W5 W→Calls Tryz.prog 62 #[.pointer (some ⟨nb,0,none⟩),.agg #[.int .i64 y.id.kind,.string y.id.text,.int .i64 y.id.n]] W fun e w'=>e = .returned (.int .i64 (plV ns y.id:Int))∧Below W.heap.size W w' from fun W hW=>place_is y.id W (HS5.out.nm.new_ hW) (by omega))
       have HGO:=Lib.hid (show canN ns y=(y.goal || !decide (plV ns y.id=0)) from rfl)
       have k10:W5.cell? ⟨wr.heap.size,10,none⟩=some (.bool y.goal):=(HK5.out.cell 10).trans rfl
       have k0:W5.cell? ⟨wr.heap.size,0,none⟩=some (.int .i64 y.id.kind):=(HK5.out.cell 0).trans rfl
       have k1:W5.cell? ⟨wr.heap.size,1,none⟩=some (.string y.id.text):=(HK5.out.cell 1).trans rfl
       have k2:W5.cell? ⟨wr.heap.size,2,none⟩=some (.int .i64 y.id.n):=(HK5.out.cell 2).trans rfl
       have kz:=HK5.out.lt
       obtain ⟨p,hp⟩ : ∃p,p=plV ns y.id:=⟨_,rfl⟩
       obtain ⟨gb,hgb⟩ : ∃gb,gb=y.goal:=⟨_,rfl⟩
       rw [← hp] at HP5 HGO
       rw [← hgb] at k10 HGO
       clear hp hgb
       have HSZ:=Lib.hid HB5.out.size
       cases gb
       · skip
         by_cases hp0:p=0
         · skip
           subst hp0
           have HBK:=Lib.hid (bestS_skip HYI.out (show canN ns y=false by rw [HGO.out];rfl))
           go_wp2_with fail
           refine (HP5.out _ (Below.refl _ _)).mono ?_
           rintro e w6 ⟨rfl,hb6⟩
           have HS6:=Lib.hid (HS5.out.new_ hb6)
           clear hb6
           go_wp2_with fail
           go_roundw
           case rel=>exact ⟨i+1,by go_num,by omega,by rw [HBK.out,HBS.out],HS6.out⟩
           case measure=>simp [intOf]<;>omega
         · skip
           have r1:((p:Int) == 0)=false:=by simp;omega
           have r2 : ¬(p:Int)=0:=by omega
           have r3:decide ((p:Int)=0)=false:=by simp;omega
           have HCAN:=Lib.hid (show canN ns y=true by rw [HGO.out];simp [hp0])
           clear hp0
           go_upto_region 10 with fail
           refine (HP5.out _ (Below.refl _ _)).mono ?_
           rintro e WK ⟨rfl,hb6⟩
           have HSK:=Lib.hid (HS5.out.new_ hb6)
           have HKK:=Lib.hid (HK5.out.new_ hb6)
           clear hb6 k0 k1 k2 k10 kz
           go_upto_region 10 with fail
           cases bs with
           | none=>
             have HBN:=Lib.hid (bestS_first HYI.out HCAN.out HBS.out)
             dsimp only [bestZ]
             go_upto_region 10 with fail
             refine wp_region_E (fun w9=>Below WK.heap.size WK w9) [(0,0),(1,0),(2,0),(3,0),(4,1),(5,0),(6,0),(7,0),(8,1),(9,2),(10,0)] (by kernel_rfl) (by kernel_rfl) (fun KK hKK=>?_)
             simp only [beside,List.filterMap_cons,List.filterMap_nil,List.getElem?_toArray,List.getElem?_cons_zero,List.getElem?_cons_succ,Option.map_some]
             repeat ((first | (refine wpX_w ?_ (Or.inl ⟨by rfl,fun w9=>?_⟩) ?_;rotate_left 1;go_simp;with_reducible rfl) | (refine wpX_l ?_ (((Below.refl _ _).drew)) (Or.inl ⟨by rfl,fun w9 hw9=>?_⟩) ?_;rotate_left 1;obtain ⟨hc9,hf9⟩:=bcell hw9;go_simp;with_reducible rfl) | refine wpX_w undef (Or.inr ⟨by rfl,rfl⟩) ?_ | refine wpX_l undef (((Below.refl _ _).drew)) (Or.inr ⟨by rfl,rfl⟩) ?_);go_frame)
             refine wpX_es (fun K9 hK9=>?_)
             go_simp
             refine hK9 _ _ ((Below.refl _ _).drew) ?_
             clear hK9 K9
             repeat ((first | (refine wpX_w ?_ (Or.inl ⟨by rfl,fun w9=>?_⟩) ?_;rotate_left 1;go_simp;with_reducible rfl) | (refine wpX_l ?_ (((Below.refl _ _).drew)) (Or.inl ⟨by rfl,fun w9 hw9=>?_⟩) ?_;rotate_left 1;obtain ⟨hc9,hf9⟩:=bcell hw9;go_simp;with_reducible rfl) | refine wpX_w undef (Or.inr ⟨by rfl,rfl⟩) ?_ | refine wpX_l undef (((Below.refl _ _).drew)) (Or.inr ⟨by rfl,rfl⟩) ?_);go_frame)
             refine wpX_nil ?_
             simp only [OnlyN_normal]
             refine hKK _ _ ?_
             clear hKK KK
             have HSL:=Lib.hid (HSK.out.new_ ((Below.refl WK.heap.size WK).drew))
             go_wp2_with fail
             go_roundw
             case rel=>exact ⟨i+1,by go_num,by omega,by rw [HBN.out];rfl,HSL.out⟩
             case measure=>simp [intOf]<;>omega
           | some k=>
             have hkl:=bestS_lt HBS.out
             obtain ⟨b,hb⟩ : ∃b,b=left[k]'hkl.2:=⟨_,rfl⟩
             have HBI:=Lib.hid (show left[k]? = some b by rw [hb];exact List.getElem?_eq_getElem hkl.2)
             obtain ⟨g2,off2,hA2,hgl2,hrg2⟩:=HSK.out.at_ hkl.2
             rw [← hb] at hrg2
             injection hA2 with hA2
             injection hA2 with hA2 hA3
             subst hA2;subst hA3
             have HRB:=Lib.hid (show WK.rangeAt g (off+k*12) [.int .i64 b.id.kind,.string b.id.text,.int .i64 b.id.n,.int .i64 b.attr.kind,.string b.attr.text,.int .i64 b.attr.n,.int .i64 b.value.kind,.string b.value.text,.int .i64 b.value.n,.bool b.acc,.bool b.goal,.int .i64 b.tag] from hrg2)
             have HRY:=Lib.hid (show WK.rangeAt wr.heap.size 0 [.int .i64 y.id.kind,.string y.id.text,.int .i64 y.id.n,.int .i64 y.attr.kind,.string y.attr.text,.int .i64 y.attr.n,.int .i64 y.value.kind,.string y.value.text,.int .i64 y.value.n,.bool y.acc,.bool y.goal,.int .i64 y.tag] from (HKK.out.range))
             obtain ⟨va,hva⟩ : ∃va,va=aheadV ns y b:=⟨_,rfl⟩
             have HBM:=Lib.hid (bestS_more HYI.out HCAN.out HBS.out HBI.out va hva.symm)
             have HAH:=Lib.hid (show ∀W,Below WK.heap.size WK W→Calls Tryz.prog 101 #[.pointer (some ⟨nb,0,none⟩),.agg #[.int .i64 y.id.kind,.string y.id.text,.int .i64 y.id.n,.int .i64 y.attr.kind,.string y.attr.text,.int .i64 y.attr.n,.int .i64 y.value.kind,.string y.value.text,.int .i64 y.value.n,.bool y.acc,.bool y.goal,.int .i64 y.tag],.agg #[.int .i64 b.id.kind,.string b.id.text,.int .i64 b.id.n,.int .i64 b.attr.kind,.string b.attr.text,.int .i64 b.attr.n,.int .i64 b.value.kind,.string b.value.text,.int .i64 b.value.n,.bool b.acc,.bool b.goal,.int .i64 b.tag]] W fun e w'=>e = .returned (.bool va)∧Below W.heap.size W w' from fun W hW=>by rw [hva];exact ahead_is y b W (HSK.out.nm.new_ hW) (by omega))
             have hk1:(0:Int)≤(k:Int):=by omega
             have hk2:(k:Int)<(left.length:Int):=by omega
             have hk3 : ¬(k:Int)<0:=by omega
             have hk4:decide ((k:Int)<0)=false:=by simp
             have hgz:g<WK.heap.size:=hgl2
             have hwz:=HKK.out.lt
             clear hva hb hrg2 hgl2 hkl
             dsimp only [bestZ]
             go_upto_region 10 with fail
             refine wp_region_E (fun w9=>Below WK.heap.size WK w9) [(0,0),(1,0),(2,0),(3,0),(4,1),(5,0),(6,0),(7,0),(8,1),(9,2),(10,0)] (by kernel_rfl) (by kernel_rfl) (fun KK hKK=>?_)
             simp only [beside,List.filterMap_cons,List.filterMap_nil,List.getElem?_toArray,List.getElem?_cons_zero,List.getElem?_cons_succ,Option.map_some]
             repeat ((first | (refine wpX_l _ ((Below.refl _ _).drew) (yieldsIf_load_mid (by rfl) 55 _ rfl wr.heap.size (0) rfl [.int .i64 y.id.kind,.string y.id.text,.int .i64 y.id.n,.int .i64 y.attr.kind,.string y.attr.text,.int .i64 y.attr.n,.int .i64 y.value.kind,.string y.value.text,.int .i64 y.value.n,.bool y.acc,.bool y.goal,.int .i64 y.tag] _ (fun w9 hw9=>rangeAt_below HRY.out hw9 hwz) Tryz.underlying55 rfl (by kernel_rfl)) ?_) | (refine wpX_l _ ((Below.refl _ _).drew) (yieldsIf_load_mid (by rfl) 55 _ rfl g (off+k*12) rfl [.int .i64 b.id.kind,.string b.id.text,.int .i64 b.id.n,.int .i64 b.attr.kind,.string b.attr.text,.int .i64 b.attr.n,.int .i64 b.value.kind,.string b.value.text,.int .i64 b.value.n,.bool b.acc,.bool b.goal,.int .i64 b.tag] _ (fun w9 hw9=>rangeAt_below HRB.out hw9 hgz) Tryz.underlying55 rfl (by kernel_rfl)) ?_) | (refine wpX_w ?_ (Or.inl ⟨by rfl,fun w9=>?_⟩) ?_;rotate_left 1;go_simp;with_reducible rfl) | (refine wpX_l ?_ (((Below.refl _ _).drew)) (Or.inl ⟨by rfl,fun w9 hw9=>?_⟩) ?_;rotate_left 1;obtain ⟨hc9,hf9⟩:=bcell hw9;go_simp;with_reducible rfl) | refine wpX_w undef (Or.inr ⟨by rfl,rfl⟩) ?_ | refine wpX_l undef (((Below.refl _ _).drew)) (Or.inr ⟨by rfl,rfl⟩) ?_);go_frame)
             refine wpX_e (by kernel_rfl) (fun K9 hK9=>?_)
             go_simp
             refine (HAH.out _ ((Below.refl _ _).drew)).mono ?_
             rintro e w9 ⟨rfl,hb9⟩
             have HB9:=Lib.hid (((Below.refl WK.heap.size WK).drew).trans (hb9.mono (by simp)))
             clear hb9
             refine hK9 _ _ ?_
             clear hK9 K9
             repeat ((first | (refine wpX_l _ ((Below.refl _ _).drew) (yieldsIf_load_mid (by rfl) 55 _ rfl wr.heap.size (0) rfl [.int .i64 y.id.kind,.string y.id.text,.int .i64 y.id.n,.int .i64 y.attr.kind,.string y.attr.text,.int .i64 y.attr.n,.int .i64 y.value.kind,.string y.value.text,.int .i64 y.value.n,.bool y.acc,.bool y.goal,.int .i64 y.tag] _ (fun w9 hw9=>rangeAt_below HRY.out hw9 hwz) Tryz.underlying55 rfl (by kernel_rfl)) ?_) | (refine wpX_l _ ((Below.refl _ _).drew) (yieldsIf_load_mid (by rfl) 55 _ rfl g (off+k*12) rfl [.int .i64 b.id.kind,.string b.id.text,.int .i64 b.id.n,.int .i64 b.attr.kind,.string b.attr.text,.int .i64 b.attr.n,.int .i64 b.value.kind,.string b.value.text,.int .i64 b.value.n,.bool b.acc,.bool b.goal,.int .i64 b.tag] _ (fun w9 hw9=>rangeAt_below HRB.out hw9 hgz) Tryz.underlying55 rfl (by kernel_rfl)) ?_) | (refine wpX_w ?_ (Or.inl ⟨by rfl,fun w9=>?_⟩) ?_;rotate_left 1;go_simp;with_reducible rfl) | (refine wpX_l ?_ (((Below.refl _ _).drew)) (Or.inl ⟨by rfl,fun w9 hw9=>?_⟩) ?_;rotate_left 1;obtain ⟨hc9,hf9⟩:=bcell hw9;go_simp;with_reducible rfl) | refine wpX_w undef (Or.inr ⟨by rfl,rfl⟩) ?_ | refine wpX_l undef (((Below.refl _ _).drew)) (Or.inr ⟨by rfl,rfl⟩) ?_);go_frame)
             refine wpX_nil ?_
             simp only [OnlyN_normal]
             refine hKK _ _ ?_
             clear hKK KK
             have HSL:=Lib.hid (HSK.out.new_ HB9.out)
             cases va
             · go_wp2_with fail
               go_roundw
               case rel=>exact ⟨i+1,by go_num,by omega,by rw [HBM.out];rfl,HSL.out⟩
               case measure=>simp [intOf]<;>omega
             · go_wp2_with fail
               go_roundw
               case rel=>exact ⟨i+1,by go_num,by omega,by rw [HBM.out];rfl,HSL.out⟩
               case measure=>simp [intOf]<;>omega
       · skip
         have HCAN:=Lib.hid (show canN ns y=true by rw [HGO.out];rfl)
         go_upto_region 10 with fail
         obtain ⟨WK,hWK⟩ : ∃WK,WK=W5:=⟨_,rfl⟩
         rw [← hWK] at HS5 HK5 ⊢
         have HSK:=Lib.hid HS5.out
         have HKK:=Lib.hid HK5.out
         clear hWK k0 k1 k2 k10 kz
         cases bs with
         | none=>
           have HBN:=Lib.hid (bestS_first HYI.out HCAN.out HBS.out)
           dsimp only [bestZ]
           go_upto_region 10 with fail
           refine wp_region_E (fun w9=>Below WK.heap.size WK w9) [(0,0),(1,0),(2,0),(3,0),(4,1),(5,0),(6,0),(7,0),(8,1),(9,2),(10,0)] (by kernel_rfl) (by kernel_rfl) (fun KK hKK=>?_)
           simp only [beside,List.filterMap_cons,List.filterMap_nil,List.getElem?_toArray,List.getElem?_cons_zero,List.getElem?_cons_succ,Option.map_some]
           repeat ((first | (refine wpX_w ?_ (Or.inl ⟨by rfl,fun w9=>?_⟩) ?_;rotate_left 1;go_simp;with_reducible rfl) | (refine wpX_l ?_ (((Below.refl _ _).drew)) (Or.inl ⟨by rfl,fun w9 hw9=>?_⟩) ?_;rotate_left 1;obtain ⟨hc9,hf9⟩:=bcell hw9;go_simp;with_reducible rfl) | refine wpX_w undef (Or.inr ⟨by rfl,rfl⟩) ?_ | refine wpX_l undef (((Below.refl _ _).drew)) (Or.inr ⟨by rfl,rfl⟩) ?_);go_frame)
           refine wpX_es (fun K9 hK9=>?_)
           go_simp
           refine hK9 _ _ ((Below.refl _ _).drew) ?_
           clear hK9 K9
           repeat ((first | (refine wpX_w ?_ (Or.inl ⟨by rfl,fun w9=>?_⟩) ?_;rotate_left 1;go_simp;with_reducible rfl) | (refine wpX_l ?_ (((Below.refl _ _).drew)) (Or.inl ⟨by rfl,fun w9 hw9=>?_⟩) ?_;rotate_left 1;obtain ⟨hc9,hf9⟩:=bcell hw9;go_simp;with_reducible rfl) | refine wpX_w undef (Or.inr ⟨by rfl,rfl⟩) ?_ | refine wpX_l undef (((Below.refl _ _).drew)) (Or.inr ⟨by rfl,rfl⟩) ?_);go_frame)
           refine wpX_nil ?_
           simp only [OnlyN_normal]
           refine hKK _ _ ?_
           clear hKK KK
           have HSL:=Lib.hid (HSK.out.new_ ((Below.refl WK.heap.size WK).drew))
           go_wp2_with fail
           go_roundw
           case rel=>exact ⟨i+1,by go_num,by omega,by rw [HBN.out];rfl,HSL.out⟩
           case measure=>simp [intOf]<;>omega
         | some k=>
           have hkl:=bestS_lt HBS.out
           obtain ⟨b,hb⟩ : ∃b,b=left[k]'hkl.2:=⟨_,rfl⟩
           have HBI:=Lib.hid (show left[k]? = some b by rw [hb];exact List.getElem?_eq_getElem hkl.2)
           obtain ⟨g2,off2,hA2,hgl2,hrg2⟩:=HSK.out.at_ hkl.2
           rw [← hb] at hrg2
           injection hA2 with hA2
           injection hA2 with hA2 hA3
           subst hA2;subst hA3
           have HRB:=Lib.hid (show WK.rangeAt g (off+k*12) [.int .i64 b.id.kind,.string b.id.text,.int .i64 b.id.n,.int .i64 b.attr.kind,.string b.attr.text,.int .i64 b.attr.n,.int .i64 b.value.kind,.string b.value.text,.int .i64 b.value.n,.bool b.acc,.bool b.goal,.int .i64 b.tag] from hrg2)
           have HRY:=Lib.hid (show WK.rangeAt wr.heap.size 0 [.int .i64 y.id.kind,.string y.id.text,.int .i64 y.id.n,.int .i64 y.attr.kind,.string y.attr.text,.int .i64 y.attr.n,.int .i64 y.value.kind,.string y.value.text,.int .i64 y.value.n,.bool y.acc,.bool y.goal,.int .i64 y.tag] from (HKK.out.range))
           obtain ⟨va,hva⟩ : ∃va,va=aheadV ns y b:=⟨_,rfl⟩
           have HBM:=Lib.hid (bestS_more HYI.out HCAN.out HBS.out HBI.out va hva.symm)
           have HAH:=Lib.hid (show ∀W,Below WK.heap.size WK W→Calls Tryz.prog 101 #[.pointer (some ⟨nb,0,none⟩),.agg #[.int .i64 y.id.kind,.string y.id.text,.int .i64 y.id.n,.int .i64 y.attr.kind,.string y.attr.text,.int .i64 y.attr.n,.int .i64 y.value.kind,.string y.value.text,.int .i64 y.value.n,.bool y.acc,.bool y.goal,.int .i64 y.tag],.agg #[.int .i64 b.id.kind,.string b.id.text,.int .i64 b.id.n,.int .i64 b.attr.kind,.string b.attr.text,.int .i64 b.attr.n,.int .i64 b.value.kind,.string b.value.text,.int .i64 b.value.n,.bool b.acc,.bool b.goal,.int .i64 b.tag]] W fun e w'=>e = .returned (.bool va)∧Below W.heap.size W w' from fun W hW=>by rw [hva];exact ahead_is y b W (HSK.out.nm.new_ hW) (by omega))
           have hk1:(0:Int)≤(k:Int):=by omega
           have hk2:(k:Int)<(left.length:Int):=by omega
           have hk3 : ¬(k:Int)<0:=by omega
           have hk4:decide ((k:Int)<0)=false:=by simp
           have hgz:g<WK.heap.size:=hgl2
           have hwz:=HKK.out.lt
           clear hva hb hrg2 hgl2 hkl
           dsimp only [bestZ]
           go_upto_region 10 with fail
           refine wp_region_E (fun w9=>Below WK.heap.size WK w9) [(0,0),(1,0),(2,0),(3,0),(4,1),(5,0),(6,0),(7,0),(8,1),(9,2),(10,0)] (by kernel_rfl) (by kernel_rfl) (fun KK hKK=>?_)
           simp only [beside,List.filterMap_cons,List.filterMap_nil,List.getElem?_toArray,List.getElem?_cons_zero,List.getElem?_cons_succ,Option.map_some]
           repeat ((first | (refine wpX_l _ ((Below.refl _ _).drew) (yieldsIf_load_mid (by rfl) 55 _ rfl wr.heap.size (0) rfl [.int .i64 y.id.kind,.string y.id.text,.int .i64 y.id.n,.int .i64 y.attr.kind,.string y.attr.text,.int .i64 y.attr.n,.int .i64 y.value.kind,.string y.value.text,.int .i64 y.value.n,.bool y.acc,.bool y.goal,.int .i64 y.tag] _ (fun w9 hw9=>rangeAt_below HRY.out hw9 hwz) Tryz.underlying55 rfl (by kernel_rfl)) ?_) | (refine wpX_l _ ((Below.refl _ _).drew) (yieldsIf_load_mid (by rfl) 55 _ rfl g (off+k*12) rfl [.int .i64 b.id.kind,.string b.id.text,.int .i64 b.id.n,.int .i64 b.attr.kind,.string b.attr.text,.int .i64 b.attr.n,.int .i64 b.value.kind,.string b.value.text,.int .i64 b.value.n,.bool b.acc,.bool b.goal,.int .i64 b.tag] _ (fun w9 hw9=>rangeAt_below HRB.out hw9 hgz) Tryz.underlying55 rfl (by kernel_rfl)) ?_) | (refine wpX_w ?_ (Or.inl ⟨by rfl,fun w9=>?_⟩) ?_;rotate_left 1;go_simp;with_reducible rfl) | (refine wpX_l ?_ (((Below.refl _ _).drew)) (Or.inl ⟨by rfl,fun w9 hw9=>?_⟩) ?_;rotate_left 1;obtain ⟨hc9,hf9⟩:=bcell hw9;go_simp;with_reducible rfl) | refine wpX_w undef (Or.inr ⟨by rfl,rfl⟩) ?_ | refine wpX_l undef (((Below.refl _ _).drew)) (Or.inr ⟨by rfl,rfl⟩) ?_);go_frame)
           refine wpX_e (by kernel_rfl) (fun K9 hK9=>?_)
           go_simp
           refine (HAH.out _ ((Below.refl _ _).drew)).mono ?_
           rintro e w9 ⟨rfl,hb9⟩
           have HB9:=Lib.hid (((Below.refl WK.heap.size WK).drew).trans (hb9.mono (by simp)))
           clear hb9
           refine hK9 _ _ ?_
           clear hK9 K9
           repeat ((first | (refine wpX_l _ ((Below.refl _ _).drew) (yieldsIf_load_mid (by rfl) 55 _ rfl wr.heap.size (0) rfl [.int .i64 y.id.kind,.string y.id.text,.int .i64 y.id.n,.int .i64 y.attr.kind,.string y.attr.text,.int .i64 y.attr.n,.int .i64 y.value.kind,.string y.value.text,.int .i64 y.value.n,.bool y.acc,.bool y.goal,.int .i64 y.tag] _ (fun w9 hw9=>rangeAt_below HRY.out hw9 hwz) Tryz.underlying55 rfl (by kernel_rfl)) ?_) | (refine wpX_l _ ((Below.refl _ _).drew) (yieldsIf_load_mid (by rfl) 55 _ rfl g (off+k*12) rfl [.int .i64 b.id.kind,.string b.id.text,.int .i64 b.id.n,.int .i64 b.attr.kind,.string b.attr.text,.int .i64 b.attr.n,.int .i64 b.value.kind,.string b.value.text,.int .i64 b.value.n,.bool b.acc,.bool b.goal,.int .i64 b.tag] _ (fun w9 hw9=>rangeAt_below HRB.out hw9 hgz) Tryz.underlying55 rfl (by kernel_rfl)) ?_) | (refine wpX_w ?_ (Or.inl ⟨by rfl,fun w9=>?_⟩) ?_;rotate_left 1;go_simp;with_reducible rfl) | (refine wpX_l ?_ (((Below.refl _ _).drew)) (Or.inl ⟨by rfl,fun w9 hw9=>?_⟩) ?_;rotate_left 1;obtain ⟨hc9,hf9⟩:=bcell hw9;go_simp;with_reducible rfl) | refine wpX_w undef (Or.inr ⟨by rfl,rfl⟩) ?_ | refine wpX_l undef (((Below.refl _ _).drew)) (Or.inr ⟨by rfl,rfl⟩) ?_);go_frame)
           refine wpX_nil ?_
           simp only [OnlyN_normal]
           refine hKK _ _ ?_
           clear hKK KK
           have HSL:=Lib.hid (HSK.out.new_ HB9.out)
           cases va
           · go_wp2_with fail
             go_roundw
             case rel=>exact ⟨i+1,by go_num,by omega,by rw [HBM.out];rfl,HSL.out⟩
             case measure=>simp [intOf]<;>omega
           · go_wp2_with fail
             go_roundw
             case rel=>exact ⟨i+1,by go_num,by omega,by rw [HBM.out];rfl,HSL.out⟩
             case measure=>simp [intOf]<;>omega
     · skip
       obtain rfl:i=left.length:=by omega
       obtain ⟨bs,hbs⟩ : ∃bs,bs=bestS ns left left.length:=⟨_,rfl⟩
       have HBS:=Lib.hid (show bestV ns left=bs from hbs.symm)
       rw [← hbs]
       clear hbs
       have jz : ¬(left.length:Int)<(left.length:Int):=by omega
       cases bs with
       | none=>
         have HOV:=Lib.hid (show orderV l=none by
          rw [← HLV.out]
          obtain ⟨q,hq⟩ : ∃q,left.length=q+1:=⟨left.length - 1,by omega⟩
          rw [hq]
          exact laidV_none (by intro e;rw [e] at he;exact he rfl) HBS.out)
         dsimp only [bestZ]
         go_wp2_with fail
         exact bodyPost_ret (v:=.tuple #[.slice none 0 0,.pointer none,.bool false]) (by simp [results,Tryz.results61,go_sem, *]) rfl (LaidTo.no HOV.out HS.out.bel)
       | some k=>
         have hkl:=bestS_lt HBS.out
         dsimp only [bestZ]
         have hlt:=hkl.2
         obtain ⟨y,hy⟩ : ∃y,y=left[k]:=⟨_,rfl⟩
         have HY:=Lib.hid hy
         obtain ⟨g,off,hAA,hgl,hrg⟩:=HS.out.at_ hlt
         rw [← hy] at hrg
         subst hAA
         have HRG:=Lib.hid (show wr.rangeAt g (off+k*12) [.int .i64 y.id.kind,.string y.id.text,.int .i64 y.id.n,.int .i64 y.attr.kind,.string y.attr.text,.int .i64 y.attr.n,.int .i64 y.value.kind,.string y.value.text,.int .i64 y.value.n,.bool y.acc,.bool y.goal,.int .i64 y.tag] from hrg)
         have HTH:=Lib.hid (show (wr.alloc (.cells #[.int .i64 0,.string ⟨#[]⟩,.int .i64 0,.int .i64 0,.string ⟨#[]⟩,.int .i64 0,.int .i64 0,.string ⟨#[]⟩,.int .i64 0,.bool false,.bool false,.int .i64 0] 55)).there wr.heap.size 0 (#[.int .i64 y.id.kind,.string y.id.text,.int .i64 y.id.n,.int .i64 y.attr.kind,.string y.attr.text,.int .i64 y.attr.n,.int .i64 y.value.kind,.string y.value.text,.int .i64 y.value.n,.bool y.acc,.bool y.goal,.int .i64 y.tag]:Array Value).size from (Blk.new wr 55 #[.int .i64 0,.string ⟨#[]⟩,.int .i64 0,.int .i64 0,.string ⟨#[]⟩,.int .i64 0,.int .i64 0,.string ⟨#[]⟩,.int .i64 0,.bool false,.bool false,.int .i64 0]).there)
         obtain ⟨W5,hW5⟩ : ∃W5,W5=(wr.alloc (.cells #[.int .i64 0,.string ⟨#[]⟩,.int .i64 0,.int .i64 0,.string ⟨#[]⟩,.int .i64 0,.int .i64 0,.string ⟨#[]⟩,.int .i64 0,.bool false,.bool false,.int .i64 0] 55)).setCells wr.heap.size 0 [.int .i64 y.id.kind,.string y.id.text,.int .i64 y.id.n,.int .i64 y.attr.kind,.string y.attr.text,.int .i64 y.attr.n,.int .i64 y.value.kind,.string y.value.text,.int .i64 y.value.n,.bool y.acc,.bool y.goal,.int .i64 y.tag]:=⟨_,rfl⟩
         have HW5:=Lib.hid hW5
         have HRG5:=Lib.hid (show W5.rangeAt wr.heap.size 0 [.int .i64 y.id.kind,.string y.id.text,.int .i64 y.id.n,.int .i64 y.attr.kind,.string y.attr.text,.int .i64 y.attr.n,.int .i64 y.value.kind,.string y.value.text,.int .i64 y.value.n,.bool y.acc,.bool y.goal,.int .i64 y.tag] by rw [hW5];exact World.rangeAt_setCells_same _ _ _ _ HTH.out)
         have HK5:=Lib.hid (show Blk W5 wr.heap.size 55 #[.int .i64 y.id.kind,.string y.id.text,.int .i64 y.id.n,.int .i64 y.attr.kind,.string y.attr.text,.int .i64 y.attr.n,.int .i64 y.value.kind,.string y.value.text,.int .i64 y.value.n,.bool y.acc,.bool y.goal,.int .i64 y.tag] from kept_blk (zs:=[.int .i64 0,.string ⟨#[]⟩,.int .i64 0,.int .i64 0,.string ⟨#[]⟩,.int .i64 0,.int .i64 0,.string ⟨#[]⟩,.int .i64 0,.bool false,.bool false,.int .i64 0]) (vs:=[.int .i64 y.id.kind,.string y.id.text,.int .i64 y.id.n,.int .i64 y.attr.kind,.string y.attr.text,.int .i64 y.attr.n,.int .i64 y.value.kind,.string y.value.text,.int .i64 y.value.n,.bool y.acc,.bool y.goal,.int .i64 y.tag]) rfl hW5 HRG5.out)
         have HB5:=Lib.hid (show Below wr.heap.size wr W5 by rw [hW5];exact Below.setCells' _ _ ((Below.refl _ _).alloc (Nat.le_refl _) _) (Nat.le_refl _))
         clear hW5 hrg hy
         have HYI:=Lib.hid (show left[k]? = some y by rw [HY.out];exact List.getElem?_eq_getElem hlt)
         have hk1:(0:Int)≤(k:Int):=by omega
         have hk2:(k:Int)<(left.length:Int):=by omega
         have hk3 : ¬(k:Int)<0:=by omega
         go_upto_region 16 with (first
         | (with_reducible refine wpList_load_mid rfl 55 _ rfl g (off+k*12) rfl [.int .i64 y.id.kind,.string y.id.text,.int .i64 y.id.n,.int .i64 y.attr.kind,.string y.attr.text,.int .i64 y.attr.n,.int .i64 y.value.kind,.string y.value.text,.int .i64 y.value.n,.bool y.acc,.bool y.goal,.int .i64 y.tag] _ HRG.out Tryz.underlying55 rfl (by kernel_rfl) ?_)
         | ((with_reducible refine wpList_store_mid rfl 55 _ _ rfl wr.heap.size 0 #[.int .i64 y.id.kind,.string y.id.text,.int .i64 y.id.n,.int .i64 y.attr.kind,.string y.attr.text,.int .i64 y.attr.n,.int .i64 y.value.kind,.string y.value.text,.int .i64 y.value.n,.bool y.acc,.bool y.goal,.int .i64 y.tag] rfl rfl HTH.out (by kernel_rfl) (by kernel_rfl) ?_);rw [← HW5.out]))
         have HSE:=Lib.hid hlt
         obtain ⟨dk,hdk⟩ : ∃x,x=left.drop (k+1):=⟨_,rfl⟩
         obtain ⟨As,hAs⟩ : ∃As:Option Addr,As=(if cL=k+1 then some ⟨g,off,none⟩ else (some (⟨g,off,none⟩:Addr)).map (·.add ((k+1)*12))):=⟨_,rfl⟩
         have hdl:left.length - (k+1)=dk.length:=by rw [hdk,List.length_drop]
         have hcl2:k<cL:=by omega
         have hsl1 : ∀Y,(Instr.slice 84 (.slice (some ⟨g,off,none⟩) left.length cL) none (some (.int .i64 (k:Int))) none).run Tryz.prog Y = .ok (.slice (some ⟨g,off,none⟩) k cL) Y:=fun Y=>run_slE_to _ (by omega) Y
         have hsl2 : ∀Y,(Instr.slice 84 (.slice (some ⟨g,off,none⟩) left.length cL) (some (.int .i64 ((k:Int)+1))) none none).run Tryz.prog Y = .ok (.slice As dk.length (cL - (k+1))) Y:=fun Y=>by rw [← hdl,hAs];exact run_slE_from (j:=k+1) _ (by omega) Y
         have v1:IntKind.i64.wrap ((k:Int)+1)=(k:Int)+1:=IntWalk.i64_in _ (by omega)
         have HS5:=Lib.hid (HS.out.new_ HB5.out)
         have HDK:=Lib.hid (show RowRd W5 12 Elem.cells As (cL - (k+1)) dk by rw [hdk,hAs];exact (ownsRow_rd Elem.cells_length HS5.out.lo).suffixE (k+1) (by omega))
         have HTK:=Lib.hid (show W5.ownsRow 0 55 12 (.slice (some ⟨g,off,none⟩) k cL) k ((left.take k).flatMap Elem.cells) from own_takeE HS5.out.lo rfl hlt)
         have HDE:=Lib.hid hdk
         have hdl1:dk.length≤300:=by omega
         have hkl1:k≤300:=by omega
         clear hdk hAs hdl hkl
         have HS5D:=Lib.hid (HS5.out.new_ ((Below.refl W5.heap.size W5).drew))
         refine wp_region_E (fun w9=>Below W5.heap.size W5 w9) [(0,0),(1,0),(2,0),(3,0),(4,0),(5,0),(6,0),(7,2),(8,0)] (by kernel_rfl) (by kernel_rfl) (fun KK hKK=>?_)
         simp only [beside,List.filterMap_cons,List.filterMap_nil,List.getElem?_toArray,List.getElem?_cons_zero,List.getElem?_cons_succ,Option.map_some]
         repeat ((first | (refine wpX_w ?_ (Or.inl ⟨by rfl,fun w9=>?_⟩) ?_;rotate_left 1;go_simp;with_reducible rfl) | (refine wpX_l ?_ (((Below.refl _ _).drew)) (Or.inl ⟨by rfl,fun w9 hw9=>?_⟩) ?_;rotate_left 1;obtain ⟨hc9,hf9⟩:=bcell hw9;go_simp;with_reducible rfl) | refine wpX_w undef (Or.inr ⟨by rfl,rfl⟩) ?_ | refine wpX_l undef (((Below.refl _ _).drew)) (Or.inr ⟨by rfl,rfl⟩) ?_);go_frame)
         refine wpX_e (by kernel_rfl) (fun K9 hK9=>?_)
         refine step_append_src _ (by rfl) _ _ _ (by rfl) 55 i0 _ 12 112 Tryz.underlying84 hi0 hz0 hz1 hz2 rfl (by omega) (.slice (some ⟨g,off,none⟩) k cL) k ((left.take k).flatMap Elem.cells) (by rfl) (owns_drew HTK.out) As dk.length (cL - (k+1)) (dk.flatMap Elem.cells) (by rfl) (flat_length Elem.cells_length _) ((HDK.out.drew).news Elem.cells_length (by omega)) (one_Elem _) (by unfold maxLen;omega) (by omega) ?_
         intro v2 w7 hown hgr hnil hat
         rw [HDE.out] at hown
         obtain ⟨A7,c7,rfl,hs7,hf7⟩:=HS5D.out.cut hlt hown hgr hat
         obtain ⟨lk,hlk⟩ : ∃lk,lk=left.eraseIdx k:=⟨_,rfl⟩
         rw [← hlk] at hs7 ⊢
         have HLK:=Lib.hid hlk
         have HS7:=Lib.hid hs7
         have HF7:=Lib.hid hf7
         clear hown hgr hnil hat hs7 hf7 hlk
         refine hK9 _ _ ?_
         clear hK9 K9
         repeat ((first | (refine wpX_w ?_ (Or.inl ⟨by rfl,fun w9=>?_⟩) ?_;rotate_left 1;go_simp;with_reducible rfl) | (refine wpX_l ?_ (((Below.refl _ _).drew)) (Or.inl ⟨by rfl,fun w9 hw9=>?_⟩) ?_;rotate_left 1;obtain ⟨hc9,hf9⟩:=bcell hw9;go_simp;with_reducible rfl) | refine wpX_w undef (Or.inr ⟨by rfl,rfl⟩) ?_ | refine wpX_l undef (((Below.refl _ _).drew)) (Or.inr ⟨by rfl,rfl⟩) ?_);go_frame)
         refine wpX_nil ?_
         simp only [OnlyN_normal]
         refine hKK _ _ ?_
         clear hKK KK
         have HKX:=Lib.hid (show w7.heap.size≥W5.heap.size∧Blk w7 wr.heap.size 55 #[.int .i64 y.id.kind,.string y.id.text,.int .i64 y.id.n,.int .i64 y.attr.kind,.string y.attr.text,.int .i64 y.attr.n,.int .i64 y.value.kind,.string y.value.text,.int .i64 y.value.n,.bool y.acc,.bool y.goal,.int .i64 y.tag] from ⟨HF7.out.size,(HK5.out.drew).fr HF7.out (fun ⟨a,ha,e⟩=>by cases ha;dsimp only at e;omega)⟩)
         have HDX:=Lib.hid (show ¬D wr.heap.size from fun hd=>by have:=HS.out.nm.lt _ hd;omega)
         have HRX:=Lib.hid (show w7.rangeAt wr.heap.size 0 [.int .i64 y.id.kind,.string y.id.text,.int .i64 y.id.n,.int .i64 y.attr.kind,.string y.attr.text,.int .i64 y.attr.n,.int .i64 y.value.kind,.string y.value.text,.int .i64 y.value.n,.bool y.acc,.bool y.goal,.int .i64 y.tag] from HKX.out.2.range)
         obtain ⟨W8,hW8⟩ : ∃W8,W8=w7.alloc (.cells #[.int .i64 y.id.kind,.string y.id.text,.int .i64 y.id.n,.int .i64 y.attr.kind,.string y.attr.text,.int .i64 y.attr.n,.int .i64 y.value.kind,.string y.value.text,.int .i64 y.value.n,.bool y.acc,.bool y.goal,.int .i64 y.tag] 55):=⟨_,rfl⟩
         have HW8:=Lib.hid hW8
         have hb8:Below w7.heap.size w7 W8:=by rw [hW8];exact (Below.refl _ _).alloc (Nat.le_refl _) _
         have HS8:=Lib.hid (HS7.out.new_ hb8)
         have HK8:=Lib.hid (HKX.out.2.new_ hb8)
         have HN8:=Lib.hid (show 0<1→∃ad,(some (⟨w7.heap.size,0,none⟩:Addr))=some ad∧∀j u,([y].flatMap Elem.cells)[j]? = some u→W8.cell? (ad.add j)=some u from fun _=>⟨_,rfl,by rw [hW8];exact World.news_of_block (heap_alloc_new _ _)⟩)
         have ho8:out.length≤300:=by omega
         clear hW8 hb8 v1 hsl1 hsl2
         go_upto_region 18 with (first
         | (with_reducible refine wpList_load_mid rfl 55 _ rfl wr.heap.size 0 rfl [.int .i64 y.id.kind,.string y.id.text,.int .i64 y.id.n,.int .i64 y.attr.kind,.string y.attr.text,.int .i64 y.attr.n,.int .i64 y.value.kind,.string y.value.text,.int .i64 y.value.n,.bool y.acc,.bool y.goal,.int .i64 y.tag] _ HRX.out Tryz.underlying55 rfl (by kernel_rfl) ?_)
         | (at_builtin;rw [← HW8.out];refine wpList_append_src W8 rfl (.tmp 64) (.tmp 66) 84 rfl 55 i0 _ 12 112 Tryz.underlying84 hi0 hz0 hz1 hz2 rfl (by omega) (.slice AO out.length cO) out.length (out.flatMap Elem.cells) rfl HS8.out.oo (some ⟨w7.heap.size,0,none⟩) 1 1 ([y].flatMap Elem.cells) rfl rfl HN8.out (one_Elem _) (by unfold maxLen;omega) (by omega) ?_;intro v1 w9 hown1 hg1 hnil1 hat1;obtain ⟨A9,c9,rfl,hs9,hf9⟩:=HS8.out.more hown1 hg1 hat1;obtain ⟨ol,hol⟩ : ∃ol,ol=out ++ [y]:=⟨_,rfl⟩;rw [← hol] at hs9 ⊢;have HOL:=Lib.hid hol;have HS9:=Lib.hid hs9;have HF9:=Lib.hid hf9;clear hown1 hg1 hnil1 hat1 hs9 hf9 hol))
         have HK9:=Lib.hid (show Blk w9 wr.heap.size 55 #[.int .i64 y.id.kind,.string y.id.text,.int .i64 y.id.n,.int .i64 y.attr.kind,.string y.attr.text,.int .i64 y.attr.n,.int .i64 y.value.kind,.string y.value.text,.int .i64 y.value.n,.bool y.acc,.bool y.goal,.int .i64 y.tag] from HK8.out.fr HF9.out (fun ⟨a,ha,e⟩=>by have h1:=ain_lt HS.out.oo a ha;omega))
         have HP1:=Lib.hid (nput_is y.id w9 HS9.out.nm (by omega))
         have k0:w9.cell? ⟨wr.heap.size,0,none⟩=some (.int .i64 y.id.kind):=(HK9.out.cell 0).trans rfl
         have k1:w9.cell? ⟨wr.heap.size,1,none⟩=some (.string y.id.text):=(HK9.out.cell 1).trans rfl
         have k2:w9.cell? ⟨wr.heap.size,2,none⟩=some (.int .i64 y.id.n):=(HK9.out.cell 2).trans rfl
         have kz:=HK9.out.lt
         go_wp2_with fail
         refine HP1.out.mono ?_
         rintro e w10 ⟨rfl,hp10⟩
         have HK10:=Lib.hid (show Blk w10 wr.heap.size 55 #[.int .i64 y.id.kind,.string y.id.text,.int .i64 y.id.n,.int .i64 y.attr.kind,.string y.attr.text,.int .i64 y.attr.n,.int .i64 y.value.kind,.string y.value.text,.int .i64 y.value.n,.bool y.acc,.bool y.goal,.int .i64 y.tag] by
          obtain ⟨_,_,_,_,hf⟩:=hp10
          exact HK9.out.fr hf HDX.out)
         obtain ⟨D2,hs10⟩:=HS9.out.put hp10
         have HS10:=Lib.hid hs10
         clear hp10 hs10 k0 k1 k2 kz
         have k6:w10.cell? ⟨wr.heap.size,6,none⟩=some (.int .i64 y.value.kind):=(HK10.out.cell 6).trans rfl
         have k7:w10.cell? ⟨wr.heap.size,7,none⟩=some (.string y.value.text):=(HK10.out.cell 7).trans rfl
         have k8:w10.cell? ⟨wr.heap.size,8,none⟩=some (.int .i64 y.value.n):=(HK10.out.cell 8).trans rfl
         have kz:=HK10.out.lt
         have HLL:=Lib.hid (show lk.length+1=left.length by rw [HLK.out];exact erase_len HYI.out)
         have HOO:=Lib.hid (show ol.length=out.length+1 by rw [HOL.out];simp)
         have HNX:=Lib.hid (show ∀nn,nn=namesE ns y→lk.length+ol.length≤300∧nn.length≤2*ol.length∧laidV lk.length nn lk ol=orderV l from fun nn hnn=>by
          have h1:=HLL.out
          have h2:=HOO.out
          have h3:=namesE_len ns y
          refine ⟨by omega,by rw [hnn];omega,?_⟩
          rw [← HLV.out,show left.length=lk.length+1 from h1.symm,laidV_step HBS.out HYI.out,hnn,HLK.out,HOL.out])
         have hpl:=putN_len ns y.id
         by_cases hv1:y.value.kind=1
         · have HP2:=Lib.hid (nput_is y.value w10 HS10.out.nm (by omega))
           have HNE:=Lib.hid (HNX.out (putN (putN ns y.id) y.value) (by rw [namesE,if_pos hv1]))
           have e1:(y.value.kind == 1)=true:=by simp [hv1]
           have e2:decide (y.value.kind=1)=true:=by simp [hv1]
           clear hv1
           go_wp2_with fail
           refine HP2.out.mono ?_
           rintro e w11 ⟨rfl,hp11⟩
           obtain ⟨D3,hs11⟩:=HS10.out.put hp11
           have HS11:=Lib.hid hs11
           clear hp11 hs11 k6 k7 k8 kz
           go_wp2_with fail
           go_roundw
           case rel=>exact ⟨lk,ol,_,A7,c7,A9,c9,D3,rfl,rfl,HS11.out,HNE.out⟩
           case measure=>have:=HLL.out;show lk.length<left.length;omega
         · have HNE:=Lib.hid (HNX.out (putN ns y.id) (by rw [namesE,if_neg hv1]))
           have e1:(y.value.kind == 1)=false:=by simp [hv1]
           have e2:decide (y.value.kind=1)=false:=by simp [hv1]
           go_wp2_with fail
           go_roundw
           case rel=>exact ⟨lk,ol,_,A7,c7,A9,c9,D2,rfl,rfl,HS10.out,HNE.out⟩
           case measure=>have:=HLL.out;show lk.length<left.length;omega
end Go.Proofs.YtldndkngpdfpfaaGreat
namespace Go.Proofs.YtldndkngpdfpfaaGreat
open Go.RowKit
theorem Sym.one (x:Sym) : ∀u∈Sym.cells x,u.oneCell'=true:=by intro u hu;simp [Sym.cells] at hu;rcases hu with rfl | rfl | rfl<;>rfl
theorem Sym.oneAll (l:List Sym) : ∀u∈l.flatMap Sym.cells,u.oneCell'=true:=by intro u hu;obtain ⟨x,_,hx⟩:=List.mem_flatMap.1 hu;exact Sym.one x u hx
end Go.Proofs.YtldndkngpdfpfaaGreat
namespace Go.Proofs.YtldndkngpdfpfaaGreat
open Go.RowKit
theorem eql_sym (x y:Sym) (W:World):(binOp .eql 23 (.agg #[.int .i64 x.kind,.string x.text,.int .i64 x.n]) (.agg #[.int .i64 y.kind,.string y.text,.int .i64 y.n])).run Tryz.prog W = .ok (.bool (decide (x=y))) W:=by
 rw [run_eql_struct]
 go_simp
 by_cases h:x=y
 · subst h;simp
 · have h2 : ¬(x.kind=y.kind∧x.text.toList=y.text.toList∧x.n=y.n):=fun ⟨h1,h2,h3⟩=>h (Sym.ext' h1 (toList_inj h2) h3)
   rw [decide_eq_false h]
   split
   · split
     · split
       · exact absurd ⟨by assumption,by assumption,by assumption⟩ h2
       · rfl
     · rfl
   · rfl
theorem neq_sym (x y:Sym) (W:World):(binOp .neq 23 (.agg #[.int .i64 x.kind,.string x.text,.int .i64 x.n]) (.agg #[.int .i64 y.kind,.string y.text,.int .i64 y.n])).run Tryz.prog W = .ok (.bool (!decide (x=y))) W:=by
 rw [run_neq_struct]
 go_simp
 by_cases h:x=y
 · subst h;simp
 · have h2 : ¬(x.kind=y.kind∧x.text.toList=y.text.toList∧x.n=y.n):=fun ⟨h1,h2,h3⟩=>h (Sym.ext' h1 (toList_inj h2) h3)
   rw [decide_eq_false h]
   split
   · split
     · split
       · exact absurd ⟨by assumption,by assumption,by assumption⟩ h2
       · rfl
     · rfl
   · rfl
attribute [local go_sem] eql_sym neq_sym
def within (v n:Int):Int:=if n<1 then 0 else v % n
theorem sym_at {w:World} {A:Option Addr} {c k:Nat} {l:List Sym} (h:RowRd w 3 Sym.cells A c l) (hk:k<l.length) : ∃g off,A=some ⟨g,off,none⟩∧g<w.heap.size∧
 w.cell? ⟨g,off+k*3,none⟩=some (.int .i64 l[k].kind)∧w.cell? ⟨g,off+k*3+1,none⟩=some (.string l[k].text)∧w.cell? ⟨g,off+k*3+2,none⟩=some (.int .i64 l[k].n):=by
 obtain ⟨g,off,hA,hg,hc⟩:=h.at_ hk
 exact ⟨g,off,hA,hg,by simpa using hc 0 _ rfl,by simpa using hc 1 _ rfl,by simpa using hc 2 _ rfl⟩
theorem within_nat (v:Int) {n:Nat} (h:0<n) : ∃j:Nat,within v n=j∧j<n:=by
 have h1 : ¬(n:Int)<1:=by omega
 have h2:=Int.emod_nonneg v (show (n:Int)≠0 by omega)
 have h3:=Int.emod_lt_of_pos v (show (0:Int)<n by omega)
 refine ⟨(v % (n:Int)).toNat,?_,by omega⟩
 simp only [within,if_neg h1]
 omega
set_option maxRecDepth 100000 in
set_option maxHeartbeats 2000000 in
theorem syms_is (A B:Option Addr) (c d:Nat) (l m:List Sym) (w:World) (hl:RowRd w 3 Sym.cells A c l) (hm:RowRd w 3 Sym.cells B d m) :
 Calls Tryz.prog 42 #[.slice A l.length c,.slice B m.length d] w fun e w'=>e = .returned (.bool (decide (l=m)))∧Below w.heap.size w w':=by
 have HL:=Lib.hid hl
 have HM:=Lib.hid hm
 have hlc:=hl.cap
 clear hl hm
 by_cases hlm:l.length=m.length
 · have t1:((l.length:Int) != (m.length:Int))=false:=by simp;omega
   have HLM:=Lib.hid hlm
   clear hlm
   go_enter Tryz.func42,Tryz.ntmps42
   go_wp2_with fail
   go_loopw [5] (fun s wr=>∃i:Nat,s = .int .i64 i∧i≤l.length∧(∀k,(h:k<l.length)→(h':k<m.length)→k<i→l[k]=m[k])∧Below w.heap.size w wr) (fun s wr=>l.length - (intOf s).toNat)
   case atStart=>exact ⟨0,rfl,Nat.zero_le _,fun k _ _ h=>absurd h (by omega),Below.refl _ _⟩
   case round=>
    obtain ⟨i,rfl,hi,hall,hB⟩:=hrel
    have HALL:=Lib.hid hall
    have HB:=Lib.hid hB
    clear hall hB
    by_cases hlt:i<l.length
    · have hlt2:i<m.length:=by have:=HLM.out;omega
      obtain ⟨x,hx⟩ : ∃x,x=l[i]:=⟨_,rfl⟩
      obtain ⟨y,hy⟩ : ∃y,y=m[i]:=⟨_,rfl⟩
      obtain ⟨g,off,rfl,hgs,hcell⟩:=(HL.out.new_ HB.out).at_ hlt
      obtain ⟨g2,off2,rfl,hgs2,hcell2⟩:=(HM.out.new_ HB.out).at_ hlt2
      rw [← hx] at hcell
      rw [← hy] at hcell2
      have q0:wr.cell? ⟨g,off+i*3,none⟩=some (.int .i64 x.kind):=by simpa using hcell 0 _ rfl
      have q1:wr.cell? ⟨g,off+i*3+1,none⟩=some (.string x.text):=by simpa using hcell 1 _ rfl
      have q2:wr.cell? ⟨g,off+i*3+2,none⟩=some (.int .i64 x.n):=by simpa using hcell 2 _ rfl
      have p0:wr.cell? ⟨g2,off2+i*3,none⟩=some (.int .i64 y.kind):=by simpa using hcell2 0 _ rfl
      have p1:wr.cell? ⟨g2,off2+i*3+1,none⟩=some (.string y.text):=by simpa using hcell2 1 _ rfl
      have p2:wr.cell? ⟨g2,off2+i*3+2,none⟩=some (.int .i64 y.n):=by simpa using hcell2 2 _ rfl
      have b1:(0:Int)≤(i:Int):=by omega
      have b2:(i:Int)<(l.length:Int):=by omega
      have b3:(i:Int)<(m.length:Int):=by omega
      have HX:=Lib.hid hx
      have HY:=Lib.hid hy
      clear hcell hcell2 hx hy
      have hbe:=neq_sym x y
      by_cases he:x=y
      · have HE:=Lib.hid he
        have t2:decide (x=y)=true:=by simpa using he
        rw [t2] at hbe
        clear he
        go_wp2_with fail
        go_quiet (fail)
        have HB2:=Lib.hid (Below.drewN' HB.out nq)
        clear q0 q1 q2 p0 p1 p2
        go_wp2_with fail
        go_roundw
        case rel=>
         refine ⟨i+1,by go_num,by omega,fun k h h' hk=>?_,HB2.out⟩
         rcases Nat.lt_or_ge k i with h3 | h3
         · exact HALL.out k h h' h3
         · obtain rfl:k=i:=by omega
           rw [← HX.out,← HY.out]
           exact HE.out
        case measure=>simp [intOf]<;>omega
      · have HE:=Lib.hid he
        have t2:decide (x=y)=false:=by simpa using he
        rw [t2] at hbe
        clear he
        go_wp2_with fail
        go_quiet (fail)
        have HB2:=Lib.hid (Below.drewN' HB.out nq)
        clear q0 q1 q2 p0 p1 p2
        go_wp2_with fail
        go_ret
        refine ⟨?_,HB2.out⟩
        have:l≠m:=by
         rintro rfl
         exact HE.out (HX.out.trans HY.out.symm)
        rw [decide_eq_false this];rfl
    · have hie:i=l.length:=by omega
      subst hie
      go_wp2_with fail
      go_ret
      refine ⟨?_,HB.out⟩
      have:l=m:=List.ext_getElem HLM.out (fun k h h'=>HALL.out k h h' h)
      rw [decide_eq_true this];rfl
 · have t1:((l.length:Int) != (m.length:Int))=true:=by simp;omega
   have HLM:=Lib.hid hlm
   clear hlm
   go_enter Tryz.func42,Tryz.ntmps42
   go_wp2_with fail
   go_ret
   refine ⟨?_,Below.refl _ _⟩
   have:l≠m:=fun e=>HLM.out (by rw [e])
   rw [decide_eq_false this];rfl
set_option maxHeartbeats 1000000 in
theorem within_is (v n:Int) (w:World) (hn:n≤9223372036854775807) :
 Calls Tryz.prog 25 #[.int .i64 v,.int .i64 n] w fun e w'=>e = .returned (.int .i64 (within v n))∧w=w':=by
 by_cases h:n<1
 · have hw:within v n=0:=by simp [within,h]
   rw [hw]
   go_enter Tryz.func25,Tryz.ntmps25
   go_wp2_with fail
   go_ret
   exact ⟨rfl,rfl⟩
 · have hw:within v n=v % n:=by simp [within,h]
   rw [hw]
   have e0:n≠0:=by omega
   have h1:v.tmod n<n:=Int.tmod_lt_of_pos v (by omega)
   have h2 : -n<v.tmod n:=by
    have:=Int.lt_tmod_of_pos v (show 0<n by omega)
    omega
   have e1:IntKind.i64.wrap (v.tmod n)=v.tmod n:=IntWalk.i64_in _ (by omega)
   have e2:v.tmod n<0→v % n=v.tmod n+n:=fun h3=>by
    have h4:=Int.emod_emod_of_dvd v (Int.dvd_refl n)
    have h5:(v.tmod n) % n=v % n:=by
     have:=Int.mul_tdiv_add_tmod v n
     have h6:v % n=(v.tmod n+n*v.tdiv n) % n:=by congr 1;omega
     rw [h6,Int.add_mul_emod_self_left]
    have h7:(v.tmod n+n) % n=v.tmod n % n:=by simp
    rw [← h5,← h7,Int.emod_eq_of_lt (by omega) (by omega)]
   have e3 : ¬v.tmod n<0→v % n=v.tmod n:=fun h3=>by
    have h5:(v.tmod n) % n=v % n:=by
     have:=Int.mul_tdiv_add_tmod v n
     have h6:v % n=(v.tmod n+n*v.tdiv n) % n:=by congr 1;omega
     rw [h6,Int.add_mul_emod_self_left]
    rw [← h5,Int.emod_eq_of_lt (by omega) (by omega)]
   have E2:=Lib.hid e2
   have E3:=Lib.hid e3
   clear e2 e3
   go_enter Tryz.func25,Tryz.ntmps25
   by_cases h3:v.tmod n<0
   · have E:=Lib.hid (E2.out h3)
     have e4:IntKind.i64.wrap (v.tmod n+n)=v.tmod n+n:=IntWalk.i64_in _ (by omega)
     clear E2 E3
     go_wp2_with fail
     go_ret
     exact ⟨by rw [E.out];rfl,rfl⟩
   · have E:=Lib.hid (E3.out h3)
     clear E2 E3
     go_wp2_with fail
     go_ret
     exact ⟨by rw [E.out];rfl,rfl⟩
end Go.Proofs.YtldndkngpdfpfaaGreat
namespace Go.Proofs.YtldndkngpdfpfaaGreat
open Go.RowKit
attribute [local go_sem] eql_sym neq_sym
end Go.Proofs.YtldndkngpdfpfaaGreat
namespace Go.Proofs.YtldndkngpdfpfaaGreat
open Go.RowKit
theorem Elem.ext' : ∀{x y:Elem},x.id=y.id→x.attr=y.attr→x.value=y.value→x.acc=y.acc→x.goal=y.goal→x.tag=y.tag→x=y
 | ⟨_,_,_,_,_,_⟩,⟨_,_,_,_,_,_⟩,rfl,rfl,rfl,rfl,rfl,rfl=>rfl
instance decElem22:DecidableEq Elem:=fun a b=>decidable_of_iff (a.id=b.id∧a.attr=b.attr∧a.value=b.value∧a.acc=b.acc∧a.goal=b.goal∧a.tag=b.tag) ⟨fun ⟨h1,h2,h3,h4,h5,h6⟩=>Elem.ext' h1 h2 h3 h4 h5 h6,fun h=>by subst h;exact ⟨rfl,rfl,rfl,rfl,rfl,rfl⟩⟩
set_option maxRecDepth 100000 in
set_option maxHeartbeats 4000000 in
theorem neq_elem (x y:Elem) (W:World):(binOp .neq 55 (.agg #[.int .i64 x.id.kind,.string x.id.text,.int .i64 x.id.n,.int .i64 x.attr.kind,.string x.attr.text,.int .i64 x.attr.n,.int .i64 x.value.kind,.string x.value.text,.int .i64 x.value.n,.bool x.acc,.bool x.goal,.int .i64 x.tag]) (.agg #[.int .i64 y.id.kind,.string y.id.text,.int .i64 y.id.n,.int .i64 y.attr.kind,.string y.attr.text,.int .i64 y.attr.n,.int .i64 y.value.kind,.string y.value.text,.int .i64 y.value.n,.bool y.acc,.bool y.goal,.int .i64 y.tag])).run Tryz.prog W = .ok (.bool (!decide (x=y))) W:=by
 rw [run_neq_struct]
 go_simp
 by_cases h:x=y
 · subst h;simp
 · rw [decide_eq_false h]
   have hs : ∀a b:Sym,a.kind=b.kind→a.text.toList=b.text.toList→a.n=b.n→a=b:=fun a b h1 h2 h3=>Sym.ext' h1 (toList_inj h2) h3
   by_cases e0:x.id.kind=y.id.kind
   case neg=>rw [if_neg e0];rfl
   rw [if_pos e0]
   by_cases e1:x.id.text.toList=y.id.text.toList
   case neg=>rw [if_neg e1];rfl
   rw [if_pos e1]
   by_cases e2:x.id.n=y.id.n
   case neg=>rw [if_neg e2];rfl
   rw [if_pos e2]
   by_cases e3:x.attr.kind=y.attr.kind
   case neg=>rw [if_neg e3];rfl
   rw [if_pos e3]
   by_cases e4:x.attr.text.toList=y.attr.text.toList
   case neg=>rw [if_neg e4];rfl
   rw [if_pos e4]
   by_cases e5:x.attr.n=y.attr.n
   case neg=>rw [if_neg e5];rfl
   rw [if_pos e5]
   by_cases e6:x.value.kind=y.value.kind
   case neg=>rw [if_neg e6];rfl
   rw [if_pos e6]
   by_cases e7:x.value.text.toList=y.value.text.toList
   case neg=>rw [if_neg e7];rfl
   rw [if_pos e7]
   by_cases e8:x.value.n=y.value.n
   case neg=>rw [if_neg e8];rfl
   rw [if_pos e8]
   by_cases e9:x.acc=y.acc
   case neg=>rw [if_neg e9];rfl
   rw [if_pos e9]
   by_cases e10:x.goal=y.goal
   case neg=>rw [if_neg e10];rfl
   rw [if_pos e10]
   by_cases e11:x.tag=y.tag
   case neg=>rw [if_neg e11];rfl
   rw [if_pos e11]
   exact absurd (Elem.ext' (hs _ _ e0 e1 e2) (hs _ _ e3 e4 e5) (hs _ _ e6 e7 e8) e9 e10 e11) h
theorem elem_rd {w:World} {A:Option Addr} {c k:Nat} {l:List Elem} (h:RowRd w 12 Elem.cells A c l) (hk:k<l.length) : ∃g off,A=some ⟨g,off,none⟩∧g<w.heap.size∧w.cell? ⟨g,off+k*12,none⟩=some (.int .i64 l[k].id.kind)∧w.cell? ⟨g,off+k*12+1,none⟩=some (.string l[k].id.text)∧w.cell? ⟨g,off+k*12+2,none⟩=some (.int .i64 l[k].id.n)∧w.cell? ⟨g,off+k*12+3,none⟩=some (.int .i64 l[k].attr.kind)∧w.cell? ⟨g,off+k*12+4,none⟩=some (.string l[k].attr.text)∧w.cell? ⟨g,off+k*12+5,none⟩=some (.int .i64 l[k].attr.n)∧w.cell? ⟨g,off+k*12+6,none⟩=some (.int .i64 l[k].value.kind)∧w.cell? ⟨g,off+k*12+7,none⟩=some (.string l[k].value.text)∧w.cell? ⟨g,off+k*12+8,none⟩=some (.int .i64 l[k].value.n)∧w.cell? ⟨g,off+k*12+9,none⟩=some (.bool l[k].acc)∧w.cell? ⟨g,off+k*12+10,none⟩=some (.bool l[k].goal)∧w.cell? ⟨g,off+k*12+11,none⟩=some (.int .i64 l[k].tag):=by
 obtain ⟨g,off,hA,hg,hc⟩:=h.at_ hk
 exact ⟨g,off,hA,hg,by simpa using hc 0 _ rfl,by simpa using hc 1 _ rfl,by simpa using hc 2 _ rfl,by simpa using hc 3 _ rfl,by simpa using hc 4 _ rfl,by simpa using hc 5 _ rfl,by simpa using hc 6 _ rfl,by simpa using hc 7 _ rfl,by simpa using hc 8 _ rfl,by simpa using hc 9 _ rfl,by simpa using hc 10 _ rfl,by simpa using hc 11 _ rfl⟩
end Go.Proofs.YtldndkngpdfpfaaGreat
namespace Go.Proofs.YtldndkngpdfpfaaGreat
open Go.RowKit
set_option maxRecDepth 100000 in
set_option maxHeartbeats 4000000 in
theorem elems_is (A B:Option Addr) (c d:Nat) (l m:List Elem) (w:World) (hl:RowRd w 12 Elem.cells A c l) (hm:RowRd w 12 Elem.cells B d m) :
 Calls Tryz.prog 41 #[.slice A l.length c,.slice B m.length d] w fun e w'=>e = .returned (.bool (decide (l=m)))∧Below w.heap.size w w':=by
 have HL:=Lib.hid hl
 have HM:=Lib.hid hm
 have hlc:=hl.cap
 clear hl hm
 by_cases hlm:l.length=m.length
 · have t1:((l.length:Int) != (m.length:Int))=false:=by simp;omega
   have HLM:=Lib.hid hlm
   clear hlm
   go_enter Tryz.func41,Tryz.ntmps41
   go_wp2_with fail
   go_loopw [5] (fun s wr=>∃i:Nat,s = .int .i64 i∧i≤l.length∧(∀k,(h:k<l.length)→(h':k<m.length)→k<i→l[k]=m[k])∧Below w.heap.size w wr) (fun s wr=>l.length - (intOf s).toNat)
   case atStart=>exact ⟨0,rfl,Nat.zero_le _,fun k _ _ h=>absurd h (by omega),Below.refl _ _⟩
   case round=>
    obtain ⟨i,rfl,hi,hall,hB⟩:=hrel
    have HALL:=Lib.hid hall
    have HB:=Lib.hid hB
    clear hall hB
    by_cases hlt:i<l.length
    · have hlt2:i<m.length:=by have:=HLM.out;omega
      obtain ⟨x,hx⟩ : ∃x,x=l[i]:=⟨_,rfl⟩
      obtain ⟨y,hy⟩ : ∃y,y=m[i]:=⟨_,rfl⟩
      obtain ⟨g,off,rfl,hgs,q0,q1,q2,q3,q4,q5,q6,q7,q8,q9,q10,q11⟩:=elem_rd (HL.out.new_ HB.out) hlt
      obtain ⟨g2,off2,rfl,hgs2,p0,p1,p2,p3,p4,p5,p6,p7,p8,p9,p10,p11⟩:=elem_rd (HM.out.new_ HB.out) hlt2
      rw [← hx] at q0 q1 q2 q3 q4 q5 q6 q7 q8 q9 q10 q11
      rw [← hy] at p0 p1 p2 p3 p4 p5 p6 p7 p8 p9 p10 p11
      have b1:(0:Int)≤(i:Int):=by omega
      have b2:(i:Int)<(l.length:Int):=by omega
      have b3:(i:Int)<(m.length:Int):=by omega
      have HX:=Lib.hid hx
      have HY:=Lib.hid hy
      clear hx hy
      have hbe:=fun W=>neq_elem x y W
      by_cases he:x=y
      · have HE:=Lib.hid he
        have t2:decide (x=y)=true:=by simpa using he
        simp only [t2,Bool.not_true] at hbe
        clear he
        go_wp2_with fail
        go_quiet (fail)
        have HB2:=Lib.hid (Below.drewN' HB.out nq)
        clear q0 q1 q2 q3 q4 q5 q6 q7 q8 q9 q10 q11 p0 p1 p2 p3 p4 p5 p6 p7 p8 p9 p10 p11
        go_wp2_with fail
        go_roundw
        case rel=>
         refine ⟨i+1,by go_num,by omega,fun k h h' hk=>?_,HB2.out⟩
         rcases Nat.lt_or_ge k i with h3 | h3
         · exact HALL.out k h h' h3
         · obtain rfl:k=i:=by omega
           rw [← HX.out,← HY.out]
           exact HE.out
        case measure=>simp [intOf]<;>omega
      · have HE:=Lib.hid he
        have t2:decide (x=y)=false:=by simpa using he
        simp only [t2,Bool.not_false] at hbe
        clear he
        go_wp2_with fail
        go_quiet (fail)
        have HB2:=Lib.hid (Below.drewN' HB.out nq)
        clear q0 q1 q2 q3 q4 q5 q6 q7 q8 q9 q10 q11 p0 p1 p2 p3 p4 p5 p6 p7 p8 p9 p10 p11
        go_wp2_with fail
        go_ret
        refine ⟨?_,HB2.out⟩
        have:l≠m:=by
         rintro rfl
         exact HE.out (HX.out.trans HY.out.symm)
        rw [decide_eq_false this];rfl
    · have hie:i=l.length:=by omega
      subst hie
      go_wp2_with fail
      go_ret
      refine ⟨?_,HB.out⟩
      have:l=m:=List.ext_getElem HLM.out (fun k h h'=>HALL.out k h h' h)
      rw [decide_eq_true this];rfl
 · have t1:((l.length:Int) != (m.length:Int))=true:=by simp;omega
   have HLM:=Lib.hid hlm
   clear hlm
   go_enter Tryz.func41,Tryz.ntmps41
   go_wp2_with fail
   go_ret
   refine ⟨?_,Below.refl _ _⟩
   have:l≠m:=fun e=>HLM.out (by rw [e])
   rw [decide_eq_false this];rfl
end Go.Proofs.YtldndkngpdfpfaaGreat
namespace Go.Proofs.YtldndkngpdfpfaaGreat
open Go.RowKit Go.Shelf
attribute [local go_sem] Oper.semAt_some
set_option linter.unusedSimpArgs false
def LightTo (l:List Elem) (k:Nat) (w:World) (e:Ending) (w':World):Prop:=∃b,e = .returned (.bool b)∧(b=true→l.length≤k)∧Below w.heap.size w w'
theorem elem_lens {w:World} {A:Option Addr} {c k:Nat} {l:List Elem} (h:RowRd w 12 Elem.cells A c l) (hk:k<l.length) : ∃g off,(A=some ⟨g,off,none⟩∧w.cell? ⟨g,off+k*12+1,none⟩=some (.string l[k].id.text)∧w.cell? ⟨g,off+k*12+4,none⟩=some (.string l[k].attr.text)∧w.cell? ⟨g,off+k*12+7,none⟩=some (.string l[k].value.text))∧g<w.heap.size:=by
 obtain ⟨g,off,hA,hg,hc⟩:=h.at_ hk
 exact ⟨g,off,⟨hA,hc 1 _ rfl,hc 4 _ rfl,hc 7 _ rfl⟩,hg⟩
set_option maxRecDepth 100000 in
set_option maxHeartbeats 8000000 in
theorem light10_is (A:Option Addr) (c:Nat) (l:List Elem) (k:Nat) (w:World) (h:RowRd w 12 Elem.cells A c l):Calls Tryz.prog 73 #[.slice A l.length c,.int .i64 k] w (LightTo l k w):=by
 have H:=Lib.hid h
 have hc:=h.cap
 clear h
 by_cases hk:l.length≤k
 · have HK:=Lib.hid hk
   have t1 : ¬(k:Int)<(l.length:Int):=by omega
   have t2:decide ((k:Int)<(l.length:Int))=false:=by simp;omega
   clear hk
   go_enter Tryz.func73,Tryz.ntmps73
   go_upto_region 4 with fail
   clear t1 t2
   go_loopw [5] (fun s wr=>∃i:Nat,s = .int .i64 (i:Int)∧i≤l.length∧Below w.heap.size w wr) (fun s wr=>l.length - (intOf s).toNat)
   case atStart=>exact ⟨0,rfl,Nat.zero_le _,Below.refl _ _⟩
   case round=>
    obtain ⟨i,rfl,hi,hB⟩:=hrel
    have HB:=Lib.hid hB
    clear hB
    by_cases hlt:i<l.length
    · obtain ⟨g,off,QS,hgs⟩:=elem_lens (H.out.new_ HB.out) hlt
      obtain ⟨rfl,q1,q4,q7⟩:=QS
      have b1:(0:Int)≤(i:Int):=by omega
      have b2:(i:Int)<(l.length:Int):=by omega
      obtain ⟨y,hy⟩ : ∃y,y=l[i]:=⟨_,rfl⟩
      rw [← hy] at q1 q4 q7
      clear hy
      by_cases z1:100<y.id.text.size
      · have u1:(100:Int)<(y.id.text.size:Int):=by omega
        have u2:decide ((100:Int)<(y.id.text.size:Int))=true:=by simp;omega
        go_wp2_with fail
        go_ret
        exact ⟨false,rfl,(fun h=>by cases h),HB.out⟩
      have u1 : ¬(100:Int)<(y.id.text.size:Int):=by omega
      have u2:decide ((100:Int)<(y.id.text.size:Int))=false:=by simp;omega
      by_cases z2:100<y.attr.text.size
      · have u3:(100:Int)<(y.attr.text.size:Int):=by omega
        have u4:decide ((100:Int)<(y.attr.text.size:Int))=true:=by simp;omega
        go_wp2_with fail
        go_ret
        exact ⟨false,rfl,(fun h=>by cases h),HB.out⟩
      have u3 : ¬(100:Int)<(y.attr.text.size:Int):=by omega
      have u4:decide ((100:Int)<(y.attr.text.size:Int))=false:=by simp;omega
      by_cases z3:100<y.value.text.size
      · have u5:(100:Int)<(y.value.text.size:Int):=by omega
        have u6:decide ((100:Int)<(y.value.text.size:Int))=true:=by simp;omega
        go_wp2_with fail
        go_ret
        exact ⟨false,rfl,(fun h=>by cases h),HB.out⟩
      have u5 : ¬(100:Int)<(y.value.text.size:Int):=by omega
      have u6:decide ((100:Int)<(y.value.text.size:Int))=false:=by simp;omega
      go_wp2_with fail
      go_roundw
      case rel=>exact ⟨i+1,by go_num,by omega,HB.out⟩
      case measure=>simp [intOf]<;>omega
    · obtain rfl:i=l.length:=by omega
      have jz : ¬(l.length:Int)<(l.length:Int):=by omega
      go_wp2_with fail
      go_ret
      exact ⟨true,rfl,fun _=>HK.out,HB.out⟩
 · have HK:=Lib.hid hk
   have t1:(k:Int)<(l.length:Int):=by omega
   have t2:decide ((k:Int)<(l.length:Int))=true:=by simp;omega
   clear hk
   go_enter Tryz.func73,Tryz.ntmps73
   go_wp2_with fail
   go_ret
   exact ⟨false,rfl,fun h=>(by cases h),Below.refl _ _⟩
set_option maxHeartbeats 1000000 in
theorem light22_is (A:Option Addr) (c:Nat) (l:List Elem) (k:Nat) (w:World) (h:RowRd w 12 Elem.cells A c l):Calls Tryz.prog 37 #[.slice A l.length c,.int .i64 k] w (LightTo l k w):=by
 have H:=Lib.hid (light10_is A c l k w h)
 clear h
 go_enter Tryz.func37,Tryz.ntmps37
 go_wp2_with fail
 refine H.out.mono ?_
 rintro e w1 ⟨b,rfl,hb,hb1⟩
 have HB:=Lib.hid (And.intro hb hb1)
 clear hb hb1
 go_wp2_with fail
 go_ret
 exact ⟨b,rfl,HB.out⟩
def OrderTo (l:List Elem) (w:World) (e:Ending) (w':World):Prop:=Below w.heap.size w w'∧
 match orderV l with
 | none=>e = .returned (.tuple #[.slice none 0 0,.slice none 0 0,.bool false])
 | some (o,ns)=>∃A c B d,e = .returned (.tuple #[.slice A o.length c,.slice B ns.length d,.bool true])∧RowRd w' 12 Elem.cells A c o∧RowRd w' 3 Sym.cells B d ns
set_option maxRecDepth 100000 in
set_option maxHeartbeats 4000000 in
theorem order22_is (l:List Elem) (A:Option Addr) (c:Nat) (w:World) (h:RowRd w 12 Elem.cells A c l) (hl:l.length≤300):Calls Tryz.prog 39 #[.slice A l.length c] w (OrderTo l w):=by
 have HLD:=Lib.hid (laid_is l A c w h hl)
 clear h hl
 cases hOV:orderV l with
 | none=>
   replace HLD:=Lib.hid (show Calls Tryz.prog 61 #[.slice A l.length c] w fun e w'=>Below w.heap.size w w'∧e = .returned (.tuple #[.slice none 0 0,.pointer none,.bool false]) from by
    have h:=HLD.out
    unfold LaidTo at h
    rw [hOV] at h
    exact h)
   have HOV:=Lib.hid hOV
   clear hOV
   go_enter Tryz.func39,Tryz.ntmps39
   go_wp2_with fail
   refine HLD.out.mono ?_
   rintro e w3 ⟨hb3,rfl⟩
   have HB:=Lib.hid hb3
   clear hb3
   go_wp2_with fail
   exact bodyPost_ret (v:=.tuple #[.slice none 0 0,.slice none 0 0,.bool false]) (by simp [results,Tryz.results39,go_sem, *]) rfl ⟨HB.out,by rw [HOV.out]⟩
 | some z=>
   obtain ⟨o,ns⟩:=z
   replace HLD:=Lib.hid (show Calls Tryz.prog 61 #[.slice A l.length c] w fun e w'=>Below w.heap.size w w'∧∃A c nb D,e = .returned (.tuple #[.slice A o.length c,.pointer (some ⟨nb,0,none⟩),.bool true])∧w'.ownsRow 0 55 12 (.slice A o.length c) o.length (o.flatMap Elem.cells)∧AIn A (fun k=>w.heap.size≤k∧¬D k)∧Nm D w' nb ns∧∀k,D k→w.heap.size≤k from by
    have h:=HLD.out
    unfold LaidTo at h
    rw [hOV] at h
    exact h)
   have HOV:=Lib.hid hOV
   clear hOV
   go_enter Tryz.func39,Tryz.ntmps39
   go_wp2_with fail
   refine HLD.out.mono ?_
   rintro e w3 ⟨hb3,AO,cO,nb,D,rfl,hO3,hA3,⟨bm,bp,sn,AM,cM,mm,Ln,cn,hnm⟩,hD3⟩
   have HB:=Lib.hid hb3
   have HR1:=Lib.hid (ownsRow_rd Elem.cells_length hO3)
   have HR2:=Lib.hid (ownsRow_rd Sym.cells_length hnm.row)
   have n1:=(hnm.blk.cell 1).trans rfl
   have nz:=hnm.blk.lt
   clear hb3 hO3 hA3 hnm hD3
   go_upto_region 4 with fail
   refine wp_region_E (fun w9=>Below w3.heap.size w3 w9) [(0,0),(1,0),(2,0),(3,0),(4,1),(5,0),(6,0),(7,0)] (by kernel_rfl) (by kernel_rfl) (fun KK hKK=>?_)
   simp only [beside,List.filterMap_cons,List.filterMap_nil,List.getElem?_toArray,List.getElem?_cons_zero,List.getElem?_cons_succ,Option.map_some]
   repeat ((first | (refine wpX_w ?_ (Or.inl ⟨by rfl,fun w9=>?_⟩) ?_;rotate_left 1;go_simp;with_reducible rfl) | (refine wpX_l ?_ (((Below.refl _ _).drew)) (Or.inl ⟨by rfl,fun w9 hw9=>?_⟩) ?_;rotate_left 1;obtain ⟨hc9,hf9⟩:=bcell hw9;go_simp;with_reducible rfl) | refine wpX_w undef (Or.inr ⟨by rfl,rfl⟩) ?_ | refine wpX_l undef (((Below.refl _ _).drew)) (Or.inr ⟨by rfl,rfl⟩) ?_);go_frame)
   refine wpX_nil ?_
   simp only [OnlyN_normal]
   refine hKK _ _ ?_
   clear hKK KK
   have HB:=Lib.hid (HB.out.drew)
   go_wp2_with fail
   exact bodyPost_ret (v:=.tuple #[.slice AO o.length cO,.slice Ln ns.length cn,.bool true]) (by simp [results,Tryz.results39,go_sem, *]) rfl ⟨HB.out,by rw [HOV.out];exact ⟨AO,cO,Ln,cn,rfl,HR1.out,HR2.out⟩⟩
end Go.Proofs.YtldndkngpdfpfaaGreat
namespace Go.Proofs.YtldndkngpdfpfaaGreat
open Go.RowKit Go.Shelf
attribute [local go_sem] Oper.semAt_some
set_option linter.unusedSimpArgs false
end Go.Proofs.YtldndkngpdfpfaaGreat
namespace Go.Proofs.YtldndkngpdfpfaaGreat
open Go.RowKit Go.Shelf
attribute [local go_sem] Oper.semAt_some
set_option linter.unusedSimpArgs false
structure RS (X:World) (ns:List Sym) (left out:List Elem) (AL:Option Addr) (cL:Nat) (AO:Option Addr) (cO:Nat) (AN:Option Addr) (cN:Nat) (w:World):Prop where
 lo:w.ownsRow 0 55 12 (.slice AL left.length cL) left.length (left.flatMap Elem.cells)
 la:AIn AL (X.heap.size≤·)
 oo:w.ownsRow 0 55 12 (.slice AO out.length cO) out.length (out.flatMap Elem.cells)
 oa:AIn AO (X.heap.size≤·)
 no:w.ownsRow 0 23 3 (.slice AN ns.length cN) ns.length (ns.flatMap Sym.cells)
 na:AIn AN (X.heap.size≤·)
 ne : ∀a b,AL=some a→AO=some b→a.block≠b.block
 bel:Below X.heap.size X w
section
variable {X w w':World} {ns:List Sym} {left out:List Elem} {AL:Option Addr} {cL:Nat} {AO:Option Addr} {cO:Nat} {AN:Option Addr} {cN:Nat}
theorem RS.new_ (h:RS X ns left out AL cL AO cO AN cN w) (hb:Below w.heap.size w w'):RS X ns left out AL cL AO cO AN cN w':=
 ⟨ownsRow_new h.lo hb,h.la,ownsRow_new h.oo hb,h.oa,ownsRow_new h.no hb,h.na,h.ne,h.bel.trans (hb.mono h.bel.size)⟩
theorem RS.more (h:RS X ns left out AL cL AO cO AN cN w) {e:Elem} {v:Value} (hown:w'.ownsRow 0 55 12 v (out.length+1) (out.flatMap Elem.cells ++ [e].flatMap Elem.cells))
 (hg:w.grownBy w' (Value.slice AO out.length cO).ownBlock) (hat:v.ownBlock=(Value.slice AO out.length cO).ownBlock∨v.ownBlock=some w.heap.size) : ∃A' c',v = .slice A' (out ++ [e]).length c'∧RS X ns left (out ++ [e]) AL cL A' c' AN cN w'∧Fr (fun j=>∃a,AO=some a∧a.block=j) w w':=by
 obtain ⟨A',c',rfl,hF,hA,hO⟩:=grown_own (E:=fun j=>∃a,AO=some a∧a.block=j) (fun a ha=>⟨a,ha,rfl⟩) hown hg hat
 have e2:(out ++ [e]).length=out.length+1:=by simp
 have hsz:=h.bel.size
 refine ⟨A',c',by rw [e2],⟨ownsRow_fr h.lo hF (fun g hg ⟨a,ha,e⟩=>?_),h.la,by rw [e2,List.flatMap_append];exact hO,fun a ha=>?_,ownsRow_fr h.no hF (fun g hg ⟨a,ha,e⟩=>own_own_ne h.no h.oo (by decide) hg (by subst ha;subst e;rfl)),h.na,fun a b ha hb=>?_,h.bel.trans (hF.below hsz (fun j hj ⟨a,ha,e⟩=>by have:X.heap.size≤a.block:=h.oa a ha;omega))⟩,hF⟩
 · cases AL with
   | none=>cases hg
   | some b=>injection hg with hg;exact h.ne b a rfl ha (hg.trans e.symm)
 · rcases hA a ha with ⟨b,hb,e⟩ | ⟨h1,_⟩
   · rw [← e];exact h.oa b hb
   · exact Nat.le_trans hsz h1
 · rcases hA b hb with ⟨b',hb',e⟩ | ⟨h1,_⟩
   · rw [← e];exact h.ne a b' ha hb'
   · have:=ain_lt h.lo a ha;omega
theorem RS.name (h:RS X ns left out AL cL AO cO AN cN w) {s:Sym} {v:Value} (hown:w'.ownsRow 0 23 3 v (ns.length+1) (ns.flatMap Sym.cells ++ [s].flatMap Sym.cells))
 (hg:w.grownBy w' (Value.slice AN ns.length cN).ownBlock) (hat:v.ownBlock=(Value.slice AN ns.length cN).ownBlock∨v.ownBlock=some w.heap.size) : ∃A' c',v = .slice A' (ns ++ [s]).length c'∧RS X (ns ++ [s]) left out AL cL AO cO A' c' w'∧(∀g t cs,t≠23→Blk w g t cs→Blk w' g t cs):=by
 obtain ⟨A',c',rfl,hF,hA,hO⟩:=grown_own (E:=fun j=>∃a,AN=some a∧a.block=j) (fun a ha=>⟨a,ha,rfl⟩) hown hg hat
 have e2:(ns ++ [s]).length=ns.length+1:=by simp
 have hsz:=h.bel.size
 have nR : ∀{n c:Nat} {A:Option Addr} {xs:List Value},w.ownsRow 0 55 12 (.slice A n c) n xs→w'.ownsRow 0 55 12 (.slice A n c) n xs:=fun ho=>ownsRow_fr ho hF (fun g hg ⟨a,ha,e⟩=>own_own_ne ho h.no (by decide) hg (by subst ha;subst e;rfl))
 refine ⟨A',c',by rw [e2],⟨nR h.lo,h.la,nR h.oo,h.oa,by rw [e2,List.flatMap_append];exact hO,fun a ha=>?_,h.ne,h.bel.trans (hF.below hsz (fun j hj ⟨a,ha,e⟩=>by have:X.heap.size≤a.block:=h.na a ha;omega))⟩,fun g t cs ht hb=>hb.fr hF (fun ⟨a,ha,e⟩=>own_blk_ne h.no hb (Ne.symm ht) (by subst ha;subst e;rfl))⟩
 rcases hA a ha with ⟨b,hb,e⟩ | ⟨h1,_⟩
 · rw [← e];exact h.na b hb
 · exact Nat.le_trans hsz h1
theorem RS.at_ (h:RS X ns left out AL cL AO cO AN cN w) {i:Nat} (hi:i<left.length) : ∃g off,AL=some ⟨g,off,none⟩∧g<w.heap.size∧w.rangeAt g (off+i*12) (Elem.cells left[i]):=by
 obtain ⟨b,off,h1,h2,h3⟩:=(ownsRow_rd Elem.cells_length h.lo).at_ hi
 exact ⟨b,off,h1,h2,fun j u hu=>h3 j u hu⟩
end
theorem OrderTo.no {l:List Elem} {w w':World} (h:orderV l=none) (hb:Below w.heap.size w w'):OrderTo l w (.returned (.tuple #[.slice none 0 0,.slice none 0 0,.bool false])) w':=by
 refine ⟨hb,?_⟩
 rw [h]
theorem OrderTo.yes {X w:World} {l:List Elem} {ns:List Sym} {left out:List Elem} {AL:Option Addr} {cL:Nat} {AO:Option Addr} {cO:Nat} {AN:Option Addr} {cN:Nat} (h:orderV l=some (out,ns)) (hs:RS X ns left out AL cL AO cO AN cN w):OrderTo l X (.returned (.tuple #[.slice AO out.length cO,.slice AN ns.length cN,.bool true])) w:=by
 refine ⟨hs.bel,?_⟩
 rw [h]
 exact ⟨AO,cO,AN,cN,rfl,ownsRow_rd Elem.cells_length hs.oo,ownsRow_rd Sym.cells_length hs.no⟩
end Go.Proofs.YtldndkngpdfpfaaGreat
