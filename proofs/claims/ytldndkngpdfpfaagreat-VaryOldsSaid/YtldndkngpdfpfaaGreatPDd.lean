/-
  Texts put together: VaryN3, VaryN4, SymWord, SymDigits, SymValid, Scal, LeafName, ShapePlain, VaryP3.
-/
import Derived.Test.YtldndkngpdfpfaaGreatPDc
import Derived.Deep.MidRow
import Derived.Test.YtldndkngpdfpfaaGreatPDa
import Derived.Deep.Cut
import Derived.Test.YtldndkngpdfpfaaGreatPDb
import Derived.Lib.SlBytesRow
import Derived.Maps.RangeWalk
namespace Go.Proofs.YtldndkngpdfpfaaGreat
open Go.RowKit Go.Shelf
attribute [local go_sem] Oper.semAt_some
set_option linter.unusedSimpArgs false
def PutTo (D:Nat→Prop) (w:World) (nb:Nat) (ns:List Sym) (w':World):Prop:=∃D':Nat→Prop,Nm D' w' nb ns∧(∀k,D k→D' k)∧(∀k,D' k→D k∨w.heap.size≤k)∧Fr D w w'
theorem PutTo.same {D:Nat→Prop} {w w':World} {nb:Nat} {ns:List Sym} (h:Nm D w nb ns) (hb:Below w.heap.size w w'):PutTo D w nb ns w':=⟨D,h.new_ hb,fun _ h=>h,fun _ h=>.inl h,Fr.of_new hb⟩
theorem NM.more {D:Nat→Prop} {w X Y V Z:World} {nb:Nat} {ns:List Sym} {bm bp:Nat} {sn sn':Bool} {A A':Option Addr} {cc cc':Nat} {mm:List PgS} {L L':Option Addr} {cl cl':Nat} {s:Sym} (h:NM D w nb ns bm bp sn A cc mm L cl) (hs:s ∉ ns)
 (hX:Below w.heap.size w X) (hY:Fr (fun j=>∃a,L=some a∧a.block=j) X Y) (hL:AIn L' (Plus (fun j=>∃a,L=some a∧a.block=j) X Y)) (hO:Y.ownsRow 0 23 3 (.slice L' (ns.length+1) cl') (ns.length+1) (ns.flatMap Sym.cells ++ [.int .i64 s.kind,.string s.text,.int .i64 s.n]))
 (hV:V=Y.setCell ⟨nb,1,none⟩ (.slice L' (ns.length+1) cl')) (hS:PgSSet Z bp sn' A' cc' (put cmpPgS mm ⟨s,(ns.length:Int)+1⟩)) (hZ:Fr (SetMod bp sn A) V Z) (hM:Moved V sn A sn' A'):PutTo D w nb (ns ++ [s]) Z:=by
 have hnb:=h.blk.new_ hX
 have hmb:=h.map.new_ hX
 have hst:=h.set.new_ hX
 have hrw:=ownsRow_new h.row hX
 have nL : ∀{t:TypeId} {cs:Array Value} {g:Nat},Blk X g t cs→23≠t→¬(∃a,L=some a∧a.block=g):=fun hg hne ⟨a,ha,e⟩=>own_blk_ne hrw hg hne (by subst ha;subst e;rfl)
 have n1:=nL hnb (by decide)
 have n2:=nL hmb (by decide)
 have n3:=nL hst.blk (by decide)
 have n4 : ∀a,A=some a→¬(∃b,L=some b∧b.block=a.block):=fun a ha ⟨b,hb,e⟩=>own_own_ne hrw hst.row (by decide) (k:=a.block) (by subst hb;rw [← e];rfl) (by subst ha;rfl)
 have dnm:=hnb.ne_ hmb (by decide)
 have dnp:=hnb.ne_ hst.blk (by decide)
 have dmp:=hmb.ne_ hst.blk (by decide)
 have dna : ∀a,A=some a→a.block≠nb:=fun a ha e=>own_blk_ne hst.row hnb (by decide) (by subst ha;subst e;rfl)
 have dma : ∀a,A=some a→a.block≠bm:=fun a ha e=>own_blk_ne hst.row hmb (by decide) (by subst ha;subst e;rfl)
 have la:=hst.row_lt
 have mz : ∀k,k<X.heap.size→k≠bp→(∀a,A=some a→a.block≠k)→¬SetMod bp sn A k:=fun k _ h1 h2 hm=>hm.elim h1 (fun ⟨_,a,ha,e⟩=>h2 a ha e)
 have hsz:=hX.size
 have hyz:=hY.size
 have hb1:Blk V nb 148 #[.pointer (some ⟨bm,0,none⟩),.slice L' (ns.length+1) cl']:=by rw [hV];exact (hnb.fr hY n1).set_ 1 _
 have hm1:Blk V bm 226 #[.pointer (some ⟨bp,0,none⟩)]:=by rw [hV];exact (hmb.fr hY n2).far (p:=⟨nb,1,none⟩) (Ne.symm dnm) _
 have ho1:V.ownsRow 0 23 3 (.slice L' (ns.length+1) cl') (ns.length+1) (ns.flatMap Sym.cells ++ [.int .i64 s.kind,.string s.text,.int .i64 s.n]):=by rw [hV];exact ownsRow_setCell_other (a:=⟨nb,1,none⟩) hO (own_blk_ne hO (hnb.fr hY n1) (by decide)) _
 have hvs:V.heap.size=Y.heap.size:=by rw [hV];simp
 have hzz:=hZ.size
 have ha':AIn A' (fun k=>D k∨(w.heap.size≤k∧k<Z.heap.size)):=fun a ha=>by
  rcases hM with ⟨_,e⟩ | ⟨_,g,hg,e⟩
  · exact .inl (h.da a (e ▸ ha))
  · have hlt:=hS.row_lt a ha
    rw [e] at ha
    injection ha with ha
    subst ha
    exact .inr ⟨by dsimp only;omega,hlt⟩
 have hl' : ∀a,L'=some a→¬SetMod bp sn A a.block:=fun a ha hm=>by
  rcases hL a ha with hE | ⟨h1,_⟩
  · rcases hm with e | ⟨_,b,hb,e⟩
    · exact n3 (e ▸ hE)
    · exact n4 b hb (e ▸ hE)
  · rcases hm with e | ⟨_,b,hb,e⟩
    · have:=hst.lt;omega
    · have:=la b hb;omega
 refine ⟨fun k=>D k∨(w.heap.size≤k∧k<Z.heap.size),⟨bm,bp,sn',A',cc',_,L',cl',?_,hm1.fr hZ (mz _ hmb.lt dmp dma),hS,h.ok.put hs,?_,.inl h.dn,.inl h.dm,.inl h.dp,ha',fun a ha=>?_,fun k hk=>?_⟩,fun k hk=>.inl hk,fun k hk=>hk.imp id (·.1),?_⟩
 · have:=hb1.fr hZ (mz _ hnb.lt dnp dna)
   rwa [show (ns ++ [s]).length=ns.length+1 by simp]
 · have e1:(ns ++ [s]).flatMap Sym.cells=ns.flatMap Sym.cells ++ [.int .i64 s.kind,.string s.text,.int .i64 s.n]:=by rw [List.flatMap_append];rfl
   rw [show (ns ++ [s]).length=ns.length+1 by simp,e1]
   refine ⟨ho1.1,ho1.2.imp id fun ⟨g,cap,cur,hv,h0,hg,hr⟩=>⟨g,cap,cur,hv,h0,?_,hr⟩⟩
   injection hv with hv
   exact Blk.fr (t:=23) hg hZ (hl' ⟨g,0,none⟩ hv)
 · rcases hL a ha with ⟨b,hb,e⟩ | ⟨h1,h2⟩
   · exact .inl (e ▸ h.dl b hb)
   · exact .inr ⟨by omega,by omega⟩
 · rcases hk with hk | hk
   · have:=h.lt k hk;omega
   · exact hk.2
 · have f1:Fr D w Y:=(Fr.of_new hX).into hY (fun k ⟨a,ha,e⟩=>.inl (e ▸ h.dl a ha))
   have f2:Fr D w V:=by rw [hV];exact f1.setCell (p:=⟨nb,1,none⟩) (.inl h.dn) _
   exact f2.into hZ (fun k hm=>by
    rcases hm with e | ⟨_,a,ha,e⟩
    · exact .inl (e ▸ h.dp)
    · exact .inl (e ▸ h.da a ha))
set_option maxRecDepth 100000 in
set_option maxHeartbeats 8000000 in
theorem nput_is {D:Nat→Prop} {nb:Nat} {ns:List Sym} (s:Sym) (w:World) (h:Nm D w nb ns) (hl:ns.length≤1000):Calls Tryz.prog 102 #[.pointer (some ⟨nb,0,none⟩),.agg #[.int .i64 s.kind,.string s.text,.int .i64 s.n]] w fun e w'=>e = .returned (.tuple #[])∧PutTo D w nb (putN ns s) w':=by
 have HP:=Lib.hid (fun W (hW:Below w.heap.size w W)=>place_is s W (h.new_ hW) (by omega))
 have HA:=Lib.hid ((Below.refl w.heap.size w).alloc (Nat.le_refl _) (.cells #[.int .i64 s.kind,.string s.text,.int .i64 s.n] 23))
 have HN:=Lib.hid h
 by_cases hp:plV ns s=0
 · have HR:=Lib.hid (show putN ns s=ns ++ [s] by rw [putN,if_pos hp])
   have HNI:=Lib.hid (plV_zero.1 hp)
   rw [hp] at HP
   clear hp h
   obtain ⟨j0,hj0,hy0,hy1,hy2⟩:=infp inf_Sym
   obtain ⟨bm,bp,sn,A,cc,mm,L,cl,hnm⟩:=HN.out
   have HM:=Lib.hid hnm
   clear HN hnm
   go_enter Tryz.func102,Tryz.ntmps102
   go_wp2_with fail
   refine (HP.out _ HA.out).mono ?_
   rintro e w2 ⟨rfl,hb⟩
   have HB:=Lib.hid (HA.out.trans (hb.mono (by simp)))
   have hk:Blk w2 w.heap.size 23 #[.int .i64 s.kind,.string s.text,.int .i64 s.n]:=(Blk.new _ _ _).new_ hb
   have HK:=Lib.hid hk
   obtain ⟨k0,k1,k2⟩:=hk.c3
   have kz:=hk.lt
   have hn2:=HM.out.blk.new_ HB.out
   have m0:=(hn2.cell 0).trans rfl
   have m1:=(hn2.cell 1).trans rfl
   have mf:=hn2.frozen 1
   have mz:=hn2.lt
   have hnl:0≤ns.length:=Nat.zero_le _
   clear hb hk hn2
   go_upto_region 2 with fail
   refine wp_region_E (fun w9=>Below w2.heap.size w2 w9) [(0,0),(1,0),(2,0),(3,0),(4,1),(5,1),(6,2),(7,2),(8,0),(9,0),(10,2)] (by kernel_rfl) (by kernel_rfl) (fun KK hKK=>?_)
   simp only [beside,List.filterMap_cons,List.filterMap_nil,List.getElem?_toArray,List.getElem?_cons_zero,List.getElem?_cons_succ,Option.map_some]
   repeat ((first | (refine wpX_w ?_ (Or.inl ⟨by rfl,fun w9=>?_⟩) ?_;rotate_left 1;go_simp;with_reducible rfl) | (refine wpX_l ?_ (((Below.refl _ _).drew)) (Or.inl ⟨by rfl,fun w9 hw9=>?_⟩) ?_;rotate_left 1;obtain ⟨hc9,hf9⟩:=bcell hw9;go_simp;with_reducible rfl) | refine wpX_w undef (Or.inr ⟨by rfl,rfl⟩) ?_ | refine wpX_l undef (((Below.refl _ _).drew)) (Or.inr ⟨by rfl,rfl⟩) ?_);go_frame)
   refine wpX_es (fun K9 hK9=>?_)
   go_simp
   obtain ⟨Y9,hY9⟩ : ∃Y9,Y9=(w2.alloc (.cells #[.int .i64 s.kind,.string s.text,.int .i64 s.n] 23)).drew:=⟨_,rfl⟩
   have hb9:Below w2.heap.size w2 Y9:=by rw [hY9];exact ((Below.refl _ _).alloc (Nat.le_refl _) _).drew
   have HB23:=Lib.hid hb9
   have HN9:=Lib.hid (show ∀(j:Nat) (u:Value),([.int .i64 s.kind,.string s.text,.int .i64 s.n]:List Value)[j]? = some u→Y9.cell? ((⟨w2.heap.size,0,none⟩:Addr).add j)=some u by rw [hY9];exact World.news_of_block (heap_alloc_new _ _))
   rw [← hY9]
   clear hY9 hb9
   refine hK9 _ _ HB23.out ?_
   clear hK9 K9
   refine wpX_e (by kernel_rfl) (fun K9 hK9=>?_)
   refine step_append_src _ (by rfl) _ _ _ (by rfl) 23 j0 _ 3 32 Tryz.underlying36 hj0 hy0 hy1 hy2 rfl (by omega) (.slice L ns.length cl) ns.length (ns.flatMap Sym.cells) (by rfl) (ownsRow_new HM.out.row (HB.out.trans (HB23.out.mono HB.out.size))) _ 1 1 [.int .i64 s.kind,.string s.text,.int .i64 s.n] (by rfl) (by rfl) (fun _=>⟨_,rfl,HN9.out⟩) (by intro u hu;simp only [List.mem_cons,List.not_mem_nil,or_false] at hu;rcases hu with rfl | rfl | rfl<;>rfl) (by unfold maxLen;omega) (by omega) ?_
   intro v2 w23 hown hgr hnil hat
   obtain ⟨E2,x2,rfl,hF3,hA3,hO3⟩:=grown_own (E:=fun j=>∃a,L=some a∧a.block=j) (fun a ha=>⟨a,ha,rfl⟩) hown hgr hat
   have HF3:=Lib.hid hF3
   have HA3:=Lib.hid hA3
   have HO3:=Lib.hid hO3
   have hp3:=(HM.out.blk.new_ (HB.out.trans (HB23.out.mono HB.out.size))).fr hF3 (fun ⟨a,ha,e⟩=>own_blk_ne (ownsRow_new HM.out.row (HB.out.trans (HB23.out.mono HB.out.size))) (HM.out.blk.new_ (HB.out.trans (HB23.out.mono HB.out.size))) (by decide) (by subst ha;subst e;rfl))
   have HP3:=Lib.hid hp3
   have g1:=(hp3.cell 1).trans rfl
   have pf:=hp3.frozen 1
   have gz:=hp3.lt
   clear hown hgr hnil hat hp3 hF3 hA3 hO3
   refine hK9 _ _ ?_
   clear hK9 K9
   repeat ((first | (refine wpX_w ?_ (Or.inl ⟨by rfl,fun w9=>?_⟩) ?_;rotate_left 1;go_simp;with_reducible rfl) | (refine wpX_l ?_ (HB23.out) (Or.inl ⟨by rfl,fun w9 hw9=>?_⟩) ?_;rotate_left 1;obtain ⟨hc9,hf9⟩:=bcell hw9;go_simp;with_reducible rfl) | refine wpX_w undef (Or.inr ⟨by rfl,rfl⟩) ?_ | refine wpX_l undef (HB23.out) (Or.inr ⟨by rfl,rfl⟩) ?_);go_frame)
   refine wpX_e (by kernel_rfl) (fun K9 hK9=>?_)
   go_simp
   refine hK9 _ _ ?_
   clear hK9 K9
   refine wpX_nil ?_
   simp only [OnlyN_normal]
   refine hKK _ _ ?_
   clear hKK KK
   obtain ⟨V,hV⟩ : ∃V,V=w23.setCell ⟨nb,1,none⟩ (.slice E2 (ns.length+1) x2):=⟨_,rfl⟩
   rw [← hV]
   have HV:=Lib.hid hV
   have hX:=HB.out.trans (HB23.out.mono HB.out.size)
   have hkV:Blk V w.heap.size 23 #[.int .i64 s.kind,.string s.text,.int .i64 s.n]:=by rw [hV];exact ((HK.out.new_ HB23.out).fr HF3.out (fun ⟨a,ha,e⟩=>by have h1:=HM.out.lt _ (HM.out.dl a ha);omega)).far (p:=⟨nb,1,none⟩) (by have h1:=HM.out.lt _ HM.out.dn;dsimp only;omega) _
   have hnV:Blk V nb 148 #[.pointer (some ⟨bm,0,none⟩),.slice E2 (ns.length+1) x2]:=by rw [hV];exact HP3.out.set_ 1 _
   have hxm:=HM.out.map.new_ hX
   have hxs:=HM.out.set.new_ hX
   have hxr:=ownsRow_new HM.out.row hX
   have q2 : ¬(∃a,L=some a∧a.block=bm):=fun ⟨a,ha,e⟩=>own_blk_ne hxr hxm (by decide) (by subst ha;subst e;rfl)
   have q3 : ¬(∃a,L=some a∧a.block=bp):=fun ⟨a,ha,e⟩=>own_blk_ne hxr hxs.blk (by decide) (by subst ha;subst e;rfl)
   have q4 : ∀a,A=some a→¬(∃b,L=some b∧b.block=a.block):=fun a ha ⟨b,hb,e⟩=>own_own_ne hxr hxs.row (by decide) (k:=a.block) (by subst hb;rw [← e];rfl) (by subst ha;rfl)
   have hmV:Blk V bm 226 #[.pointer (some ⟨bp,0,none⟩)]:=by rw [hV];exact (hxm.fr HF3.out q2).far (p:=⟨nb,1,none⟩) (Ne.symm ((HM.out.blk.new_ hX).ne_ hxm (by decide))) _
   have hsV:PgSSet V bp sn A cc mm:=by
    have f9:Fr (fun j=>(∃a,L=some a∧a.block=j)∨j=nb) Y9 V:=by rw [hV];exact (HF3.out.mono (fun k _ hk=>.inl hk)).setCell (p:=⟨nb,1,none⟩) (.inl (.inr rfl)) _
    exact hxs.fr f9 (fun e=>e.elim q3 (fun e=>((HM.out.blk.new_ hX).ne_ hxs.blk (by decide)) e.symm)) (fun a ha e=>e.elim (q4 a ha) (fun e=>own_blk_ne hxs.row (HM.out.blk.new_ hX) (by decide) (by subst ha;rw [← e];rfl)))
   have HPUT:=Lib.hid (show ∀W,Below V.heap.size V W→Calls Tryz.prog 145 #[.pointer (some ⟨bm,0,none⟩),.agg #[.int .i64 s.kind,.string s.text,.int .i64 s.n],.int .i64 ((ns.length:Int)+1)] W _ from fun W hW=>bkput_PgS bm bp cc sn A mm s ((ns.length:Int)+1) W (hmV.new_ hW) (hsV.new_ hW) HM.out.ok.srt (by rw [HM.out.ok.len];omega) (by rw [HM.out.ok.has];exact decide_eq_false HNI.out))
   obtain ⟨k0,k1,k2⟩:=hkV.c3
   have kz:=hkV.lt
   have m0:=(hnV.cell 0).trans rfl
   have m1:=(hnV.cell 1).trans rfl
   have mz:=hnV.lt
   clear hV hX hkV hnV hxm hxs hxr q2 q3 q4 hmV hsV g1 pf gz mf
   go_upto_region 3 with fail
   refine wp_region_E (fun w9=>Below V.heap.size V w9) [(0,0),(1,0),(2,0),(3,1),(4,1),(5,0),(6,0),(7,0),(8,1),(9,0),(10,2)] (by kernel_rfl) (by kernel_rfl) (fun KK hKK=>?_)
   simp only [beside,List.filterMap_cons,List.filterMap_nil,List.getElem?_toArray,List.getElem?_cons_zero,List.getElem?_cons_succ,Option.map_some]
   repeat ((first | (refine wpX_w ?_ (Or.inl ⟨by rfl,fun w9=>?_⟩) ?_;rotate_left 1;go_simp;with_reducible rfl) | (refine wpX_l ?_ (((Below.refl _ _).drew)) (Or.inl ⟨by rfl,fun w9 hw9=>?_⟩) ?_;rotate_left 1;obtain ⟨hc9,hf9⟩:=bcell hw9;go_simp;with_reducible rfl) | refine wpX_w undef (Or.inr ⟨by rfl,rfl⟩) ?_ | refine wpX_l undef (((Below.refl _ _).drew)) (Or.inr ⟨by rfl,rfl⟩) ?_);go_frame)
   refine wpX_e (by kernel_rfl) (fun K9 hK9=>?_)
   go_simp
   refine (HPUT.out _ ((Below.refl V.heap.size V).drew)).mono ?_
   rintro e w5 ⟨rfl,sn',A',cc',g1,g2,g3⟩
   have HG:=Lib.hid (And.intro g1 (And.intro g2 g3))
   clear g1 g2 g3
   refine hK9 _ _ ?_
   clear hK9 K9
   refine wpX_nil ?_
   simp only [OnlyN_normal]
   refine hKK _ _ ?_
   clear hKK KK
   go_wp2_with fail
   go_end0
   rw [HR.out]
   obtain ⟨g1,g2,g3⟩:=HG.out
   exact ⟨rfl,HM.out.more HNI.out (HB.out.trans (HB23.out.mono HB.out.size)) HF3.out HA3.out HO3.out HV.out g1 ((Fr.refl _ V).drew.trans g2) g3⟩
 · have HR:=Lib.hid (show putN ns s=ns by rw [putN,if_neg hp])
   obtain ⟨r,hr⟩ : ∃r,r=plV ns s:=⟨_,rfl⟩
   rw [← hr] at HP
   have r1:((r:Int) == 0)=false:=by simp;omega
   have r2 : ¬(r:Int)=0:=by omega
   have r3 : ¬r=0:=by omega
   clear hp hr h
   go_enter Tryz.func102,Tryz.ntmps102
   go_wp2_with fail
   refine (HP.out _ HA.out).mono ?_
   rintro e w2 ⟨rfl,hb⟩
   have HB:=Lib.hid (HA.out.trans (hb.mono (by simp)))
   clear hb
   go_wp2_with fail
   go_end0
   exact ⟨rfl,by rw [HR.out];exact PutTo.same HN.out HB.out⟩
end Go.Proofs.YtldndkngpdfpfaaGreat
namespace Go.Proofs.YtldndkngpdfpfaaGreat
open Go.RowKit Go.Shelf
attribute [local go_sem] Oper.semAt_some
set_option linter.unusedSimpArgs false
theorem inf_Elem:(Tryz.prog.info? 55).map (fun i=>(i.zero,i.size,i.bytes))=some (some (.agg #[.int .i64 0,.string ⟨#[]⟩,.int .i64 0,.int .i64 0,.string ⟨#[]⟩,.int .i64 0,.int .i64 0,.string ⟨#[]⟩,.int .i64 0,.bool false,.bool false,.int .i64 0]),12,112):=by kernel_rfl
theorem one_Elem (l:List Elem) : ∀u∈l.flatMap Elem.cells,u.oneCell'=true:=by
 intro u hu
 obtain ⟨b,_,hb⟩:=List.mem_flatMap.1 hu
 simp only [Elem.cells,List.mem_cons,List.not_mem_nil,or_false] at hb
 rcases hb with rfl | rfl | rfl | rfl | rfl | rfl | rfl | rfl | rfl | rfl | rfl | rfl<;>rfl
theorem run_slE_from {n c j:Nat} (A:Option Addr) (hj:j≤n) (Y:World):(Instr.slice 84 (.slice A n c) (some (.int .i64 (j:Int))) none none).run Tryz.prog Y = .ok (.slice (if c=j then A else A.map (·.add (j*12))) (n - j) (c - j)) Y:=by
 have hl0:(0:Int)≤(j:Int):=by omega
 have hl1:(j:Int)≤(n:Int):=by omega
 go_simp
theorem run_slE_to {n c j:Nat} (A:Option Addr) (hj:j≤c) (Y:World):(Instr.slice 84 (.slice A n c) none (some (.int .i64 (j:Int))) none).run Tryz.prog Y = .ok (.slice A j c) Y:=by
 have hl0:(0:Int)≤(j:Int):=by omega
 have hl1:(j:Int)≤(c:Int):=by omega
 go_simp
theorem owns_drew {w:World} {b e s n:Nat} {v:Value} {xs:List Value} (h:w.ownsRow b e s v n xs):w.drew.ownsRow b e s v n xs:=h
theorem own_takeE {w:World} {n c k:Nat} {A:Option Addr} {l:List Elem} (h:w.ownsRow 0 55 12 (.slice A n c) n (l.flatMap Elem.cells)) (hl:l.length=n) (hk:k<n):w.ownsRow 0 55 12 (.slice A k c) k ((l.take k).flatMap Elem.cells):=by
 rcases ownsRow_form h with ⟨hv,hn,_⟩ | ⟨g,cap,hv,_⟩
 · omega
 · injection hv with hA _ hc
   subst hA;subst hc
   exact ownsRow_prefix Elem.cells_length (by decide) h (by omega) hl
theorem RowRd.suffixE {α:Type} {w:World} {size c:Nat} {cells:α→List Value} {A:Option Addr} {l:List α} (h:RowRd w size cells A c l) (i:Nat) (hi:i≤l.length) :
 RowRd w size cells (if c=i then A else A.map (·.add (i*size))) (c - i) (l.drop i):=by
 refine ⟨by simp;have:=h.1;omega,by have:=h.2.1;omega,fun h0=>?_⟩
 rw [List.length_drop] at h0
 obtain ⟨b,off,rfl,hb,hc⟩:=h.2.2 (by omega)
 have h1:=h.1
 rw [if_neg (by omega)]
 refine ⟨b,off+i*size,by simp [Go.WideShapes.add_plain],hb,fun k hk j u hu=>?_⟩
 rw [List.length_drop] at hk
 have:=hc (i+k) (by omega) j u (by rw [← hu];simp)
 rw [Nat.add_mul] at this
 rw [← this]
 congr 2
 omega
def bestZ:Option Nat→Int
 | none=>-1
 | some k=>(k:Int)
theorem bestS_skip {ns:List Sym} {left:List Elem} {i:Nat} {y:Elem} (hy:left[i]? = some y) (h:canN ns y=false):bestS ns left (i+1)=bestS ns left i:=by
 rw [bestS,hy];simp only;rw [if_neg (by rw [h];decide)]
theorem bestS_first {ns:List Sym} {left:List Elem} {i:Nat} {y:Elem} (hy:left[i]? = some y) (h:canN ns y=true) (hb:bestS ns left i=none):bestS ns left (i+1)=some i:=by
 rw [bestS,hy];simp only;rw [if_pos h,hb]
theorem bestS_more {ns:List Sym} {left:List Elem} {i k:Nat} {y b:Elem} (hy:left[i]? = some y) (h:canN ns y=true) (hb:bestS ns left i=some k) (hk:left[k]? = some b) (v:Bool) (hv:aheadV ns y b=v):bestS ns left (i+1)=some (if v=true then i else k):=by
 rw [bestS,hy];simp only;rw [if_pos h,hb];simp only;rw [hk];simp only;rw [hv];cases v<;>rfl
def lenV:Value→Nat
 | .slice _ n _=>n
 | _=>0
structure LS (X:World) (nb:Nat) (ns:List Sym) (left out:List Elem) (AL:Option Addr) (cL:Nat) (AO:Option Addr) (cO:Nat) (D:Nat→Prop) (w:World):Prop where
 nm:Nm D w nb ns
 dn : ∀k,D k→X.heap.size≤k
 lo:w.ownsRow 0 55 12 (.slice AL left.length cL) left.length (left.flatMap Elem.cells)
 la:AIn AL (fun k=>X.heap.size≤k∧¬D k)
 oo:w.ownsRow 0 55 12 (.slice AO out.length cO) out.length (out.flatMap Elem.cells)
 oa:AIn AO (fun k=>X.heap.size≤k∧¬D k)
 ne : ∀a b,AL=some a→AO=some b→a.block≠b.block
 bel:Below X.heap.size X w
section
variable {X w w':World} {nb:Nat} {ns ns':List Sym} {left out:List Elem} {AL:Option Addr} {cL:Nat} {AO:Option Addr} {cO:Nat} {D:Nat→Prop}
theorem ain_lt {e:TypeId} {size n c:Nat} {A:Option Addr} {xs:List Value} (h:w.ownsRow 0 e size (.slice A n c) n xs) : ∀a,A=some a→a.block<w.heap.size:=fun a ha=>own_lt h a.block (by subst ha;rfl)
theorem LS.new_ (h:LS X nb ns left out AL cL AO cO D w) (hb:Below w.heap.size w w'):LS X nb ns left out AL cL AO cO D w':=
 ⟨h.nm.new_ hb,h.dn,ownsRow_new h.lo hb,h.la,ownsRow_new h.oo hb,h.oa,h.ne,h.bel.trans (hb.mono h.bel.size)⟩
theorem LS.put (h:LS X nb ns left out AL cL AO cO D w) (hp:PutTo D w nb ns' w') : ∃D',LS X nb ns' left out AL cL AO cO D' w':=by
 obtain ⟨D',h1,h2,h3,h4⟩:=hp
 have hsz:=h.bel.size
 have far : ∀{A:Option Addr} {n c:Nat} {xs:List Value},w.ownsRow 0 55 12 (.slice A n c) n xs→AIn A (fun k=>X.heap.size≤k∧¬D k)→AIn A (fun k=>X.heap.size≤k∧¬D' k):=fun ho hA a ha=>⟨(hA a ha).1,fun hd=>(h3 _ hd).elim (hA a ha).2 (fun h5=>by have:=ain_lt ho a ha;omega)⟩
 have hown : ∀{A:Option Addr} {n c:Nat} {xs:List Value},w.ownsRow 0 55 12 (.slice A n c) n xs→AIn A (fun k=>X.heap.size≤k∧¬D k)→w'.ownsRow 0 55 12 (.slice A n c) n xs:=fun {A} {n c xs} ho hA=>ownsRow_fr ho h4 (fun g hg hd=>by
  cases A with
  | none=>cases hg
  | some a=>injection hg with hg;exact (hA a rfl).2 (hg ▸ hd))
 exact ⟨D',h1,fun k hk=>(h3 k hk).elim (h.dn k) (fun h5=>by omega),hown h.lo h.la,far h.lo h.la,hown h.oo h.oa,far h.oo h.oa,h.ne,h.bel.trans (h4.below hsz (fun k hk hd=>by have:=h.dn k hd;omega))⟩
theorem LS.cut (h:LS X nb ns left out AL cL AO cO D w) {k:Nat} (hk:k<left.length) {v:Value} (hown:w'.ownsRow 0 55 12 v (k+(left.drop (k+1)).length) ((left.take k).flatMap Elem.cells++(left.drop (k+1)).flatMap Elem.cells))
 (hg:w.grownBy w' (Value.slice AL k cL).ownBlock) (hat:v.ownBlock=(Value.slice AL k cL).ownBlock∨v.ownBlock=some w.heap.size) : ∃A' c',v = .slice A' (left.eraseIdx k).length c'∧LS X nb ns (left.eraseIdx k) out A' c' AO cO D w'∧Fr (fun j=>∃a,AL=some a∧a.block=j) w w':=by
 obtain ⟨A',c',rfl,hF,hA,hO⟩:=grown_own (E:=fun j=>∃a,AL=some a∧a.block=j) (fun a ha=>⟨a,ha,rfl⟩) hown hg hat
 have e1:left.eraseIdx k=left.take k++left.drop (k+1):=List.eraseIdx_eq_take_drop_succ left k
 have e2:(left.eraseIdx k).length=k+(left.drop (k+1)).length:=by rw [e1,List.length_append,List.length_take,Nat.min_eq_left (by omega)]
 have hsz:=h.bel.size
 refine ⟨A',c',by rw [e2],⟨h.nm.fr hF (fun j hj ⟨a,ha,e⟩=>(h.la a ha).2 (e ▸ hj)),h.dn,by rw [e2,e1,List.flatMap_append];exact hO,fun a ha=>?_,ownsRow_fr h.oo hF (fun g hg ⟨a,ha,e⟩=>?_),h.oa,fun a b ha hb=>?_,h.bel.trans (hF.below hsz (fun j hj ⟨a,ha,e⟩=>by have:=(h.la a ha).1;omega))⟩,hF⟩
 · rcases hA a ha with ⟨b,hb,e⟩ | ⟨h1,_⟩
   · rw [← e];exact h.la b hb
   · exact ⟨by omega,fun hd=>by have:=h.nm.lt _ hd;omega⟩
 · cases AO with
   | none=>cases hg
   | some b=>injection hg with hg;exact h.ne a b ha rfl (e.trans hg.symm)
 · rcases hA a ha with ⟨b',hb',e⟩ | ⟨h1,_⟩
   · rw [← e];exact h.ne b' b hb' hb
   · have:=ain_lt h.oo b hb;omega
theorem LS.more (h:LS X nb ns left out AL cL AO cO D w) {e:Elem} {v:Value} (hown:w'.ownsRow 0 55 12 v (out.length+1) (out.flatMap Elem.cells ++ [e].flatMap Elem.cells))
 (hg:w.grownBy w' (Value.slice AO out.length cO).ownBlock) (hat:v.ownBlock=(Value.slice AO out.length cO).ownBlock∨v.ownBlock=some w.heap.size) : ∃A' c',v = .slice A' (out ++ [e]).length c'∧LS X nb ns left (out ++ [e]) AL cL A' c' D w'∧Fr (fun j=>∃a,AO=some a∧a.block=j) w w':=by
 obtain ⟨A',c',rfl,hF,hA,hO⟩:=grown_own (E:=fun j=>∃a,AO=some a∧a.block=j) (fun a ha=>⟨a,ha,rfl⟩) hown hg hat
 have e2:(out ++ [e]).length=out.length+1:=by simp
 have hsz:=h.bel.size
 refine ⟨A',c',by rw [e2],⟨h.nm.fr hF (fun j hj ⟨a,ha,e⟩=>(h.oa a ha).2 (e ▸ hj)),h.dn,ownsRow_fr h.lo hF (fun g hg ⟨a,ha,e⟩=>?_),h.la,by rw [e2,List.flatMap_append];exact hO,fun a ha=>?_,fun a b ha hb=>?_,h.bel.trans (hF.below hsz (fun j hj ⟨a,ha,e⟩=>by have:=(h.oa a ha).1;omega))⟩,hF⟩
 · cases AL with
   | none=>cases hg
   | some b=>injection hg with hg;exact h.ne b a rfl ha (hg.trans e.symm)
 · rcases hA a ha with ⟨b,hb,e⟩ | ⟨h1,_⟩
   · rw [← e];exact h.oa b hb
   · exact ⟨by omega,fun hd=>by have:=h.nm.lt _ hd;omega⟩
 · rcases hA b hb with ⟨b',hb',e⟩ | ⟨h1,_⟩
   · rw [← e];exact h.ne a b' ha hb'
   · have:=ain_lt h.lo a ha;omega
theorem LS.at_ (h:LS X nb ns left out AL cL AO cO D w) {i:Nat} (hi:i<left.length) : ∃g off,AL=some ⟨g,off,none⟩∧g<w.heap.size∧w.rangeAt g (off+i*12) (Elem.cells left[i]):=by
 obtain ⟨b,off,h1,h2,h3⟩:=(ownsRow_rd Elem.cells_length h.lo).at_ hi
 exact ⟨b,off,h1,h2,fun j u hu=>h3 j u hu⟩
end
def LaidTo (l:List Elem) (w:World) (e:Ending) (w':World):Prop:=Below w.heap.size w w'∧
 match orderV l with
 | none=>e = .returned (.tuple #[.slice none 0 0,.pointer none,.bool false])
 | some (o,ns)=>∃A c nb D,e = .returned (.tuple #[.slice A o.length c,.pointer (some ⟨nb,0,none⟩),.bool true])∧w'.ownsRow 0 55 12 (.slice A o.length c) o.length (o.flatMap Elem.cells)∧AIn A (fun k=>w.heap.size≤k∧¬D k)∧Nm D w' nb ns∧∀k,D k→w.heap.size≤k
theorem LaidTo.no {l:List Elem} {w w':World} (h:orderV l=none) (hb:Below w.heap.size w w'):LaidTo l w (.returned (.tuple #[.slice none 0 0,.pointer none,.bool false])) w':=by
 refine ⟨hb,?_⟩
 rw [h]
theorem LaidTo.yes {l o left:List Elem} {X w:World} {nb:Nat} {ns:List Sym} {AL:Option Addr} {cL:Nat} {AO:Option Addr} {cO:Nat} {D:Nat→Prop} (h:orderV l=some (o,ns)) (hs:LS X nb ns left o AL cL AO cO D w):LaidTo l X (.returned (.tuple #[.slice AO o.length cO,.pointer (some ⟨nb,0,none⟩),.bool true])) w:=by
 refine ⟨hs.bel,?_⟩
 rw [h]
 exact ⟨AO,cO,nb,D,rfl,hs.oo,hs.oa,hs.nm,hs.dn⟩
set_option maxRecDepth 100000 in
set_option maxHeartbeats 16000000 in
theorem laid_is (l:List Elem) (A:Option Addr) (c:Nat) (X:World) (h:RowRd X 12 Elem.cells A c l) (hl:l.length≤300):Calls Tryz.prog 61 #[.slice A l.length c] X (LaidTo l X):=by
 obtain ⟨i0,hi0,hz0,hz1,hz2⟩:=infp inf_Elem
 have HR:=Lib.hid h
 have hc1:=h.cap
 clear h
 go_enter Tryz.func61,Tryz.ntmps61
 go_wp2_with fail
 refine (bknew_PgS _).mono ?_
 rintro e w1 ⟨bm,bp,sn,AM,cM,rfl,hbm,hbp,hAM,hM,hS,hb1⟩
 have HK:=Lib.hid (And.intro hbm (And.intro hbp (And.intro hAM (And.intro hM (And.intro hS hb1)))))
 clear hbm hbp hAM hM hS hb1
 go_upto_region 2 with fail
 obtain ⟨w2,hw2⟩ : ∃w2,w2=w1.alloc (.cells #[.pointer (some ⟨bm,0,none⟩),.slice none 0 0] 148):=⟨_,rfl⟩
 obtain ⟨nb,hnb⟩ : ∃nb,nb=w1.heap.size:=⟨_,rfl⟩
 have hb2:Below w1.heap.size w1 w2:=by rw [hw2];exact (Below.refl _ _).alloc (Nat.le_refl _) _
 have hs2:w2.heap.size=w1.heap.size+1:=by rw [hw2];simp
 have HN2:=Lib.hid (show Nm (fun k=>X.heap.size≤k∧k<w2.heap.size) w2 nb [] by
  obtain ⟨hbm,hbp,hAM,hM,hS,hb1⟩:=HK.out
  have hz:=hb1.size
  refine ⟨bm,bp,sn,AM,cM,[],none,0,by rw [hw2,hnb];exact Blk.new _ _ _,hM.new_ hb2,hS.new_ hb2,MapN.nil,⟨by simp,.inl ⟨rfl,rfl⟩⟩,⟨by omega,by omega⟩,⟨hbm,by have:=hM.lt;omega⟩,⟨hbp,by have:=hS.lt;omega⟩,fun a ha=>⟨hAM a ha,by have:=hS.row_lt a ha;omega⟩,AIn.none_ _,fun k hk=>hk.2⟩)
 have HB2:=Lib.hid (HK.out.2.2.2.2.2.trans (hb2.mono HK.out.2.2.2.2.2.size))
 rw [← hnb,← hw2]
 clear hnb hw2 hb2 hs2
 go_upto_region 3 with (at_builtin;refine wpList_append_src w2 rfl (.const (.slice none 0 0)) (.tmp 15) 84 rfl 55 i0 _ 12 112 Tryz.underlying84 hi0 hz0 hz1 hz2 rfl (by omega) (.slice none 0 0) 0 [] rfl ⟨by simp,.inl ⟨rfl,rfl⟩⟩ A l.length c (l.flatMap Elem.cells) rfl (flat_length Elem.cells_length _) ((HR.out.new_ HB2.out).news Elem.cells_length (by omega)) (one_Elem _) (by unfold maxLen;omega) (by omega) ?_;intro v1 w3 hown1 hg1 hnil1 hat1;obtain ⟨AL0,cL0,rfl,hF1,hA1,hO1⟩:=grown_own (E:=fun _=>False) (A:=none) (c:=0) (n:=0) (fun a ha=>by cases ha) hown1 hg1 hat1;rw [Nat.zero_add,List.nil_append] at hO1;rw [Nat.zero_add];have HO1:=Lib.hid (And.intro hF1 (And.intro hA1 hO1));clear hown1 hg1 hnil1 hat1 hF1 hA1 hO1)
 have HLS:=Lib.hid (show LS X nb [] l [] AL0 cL0 none 0 (fun k=>X.heap.size≤k∧k<w2.heap.size) w3 by
  obtain ⟨hF,hA,hO⟩:=HO1.out
  have hb3:Below w2.heap.size w2 w3:=hF.below (Nat.le_refl _) (fun _ _ h=>h)
  have hz2:=HB2.out.size
  refine ⟨HN2.out.new_ hb3,fun k hk=>hk.1,hO,fun a ha=>?_,⟨by simp,.inl ⟨rfl,rfl⟩⟩,AIn.none_ _,fun _ _ _ hb=>(by cases hb),HB2.out.trans (hb3.mono hz2)⟩
  rcases hA a ha with h | ⟨h1,_⟩
  · exact h.elim
  · exact ⟨by omega,fun h=>by omega⟩)
 clear HN2 HB2 HO1 HK HR
 go_wp2_with fail
 go_loopw [6,7] (fun vl vo wr=>∃(left out:List Elem) (ns:List Sym) (AL:Option Addr) (cL:Nat) (AO:Option Addr) (cO:Nat) (D:Nat→Prop),vl = .slice AL left.length cL∧vo = .slice AO out.length cO∧LS X nb ns left out AL cL AO cO D wr∧left.length+out.length≤300∧ns.length≤2*out.length∧laidV left.length ns left out=orderV l) (fun vl vo wr=>lenV vl)
 case atStart=>exact ⟨l,[],[],AL0,cL0,none,0,_,rfl,rfl,HLS.out,by simpa using hl,by simp,rfl⟩
 case round=>
  clear HLS
  obtain ⟨left,out,ns,AL,cL,AO,cO,D,rfl,rfl,hls,hlen,hns,hlv⟩:=hrel
  have HS0:=Lib.hid hls
  have HLV:=Lib.hid hlv
  have hcl:=(ownsRow_rd Elem.cells_length hls.lo).cap
  have hcm:left.length≤cL:=(ownsRow_rd Elem.cells_length hls.lo).1
  clear hls hlv
  by_cases he:left.length=0
  · have hl0:left = []:=List.length_eq_zero_iff.1 he
    have HOV:=Lib.hid (show orderV l=some (out,ns) by rw [← HLV.out,hl0];exact laidV_nil)
    clear HLV
    go_wp2_with fail
    exact bodyPost_ret (v:=.tuple #[.slice AO out.length cO,.pointer (some ⟨nb,0,none⟩),.bool true]) (by simp [results,Tryz.results61,go_sem, *]) rfl (LaidTo.yes HOV.out HS0.out)
  · have hl1:(0:Int)<(left.length:Int):=by omega
    have hl2:0<left.length:=by omega
    go_upto_region 7 with fail
    go_loopw [8,22] (fun vb vi W=>∃i:Nat,vi = .int .i64 (i:Int)∧i≤left.length∧vb = .int .i64 (bestZ (bestS ns left i))∧LS X nb ns left out AL cL AO cO D W) (fun vb vi W=>left.length - (intOf vi).toNat)
    case atStart=>exact ⟨0,rfl,Nat.zero_le _,rfl,HS0.out⟩
    case round=>
     obtain ⟨i,rfl,hi,rfl,hls⟩:=hrel
     have HS:=Lib.hid hls
     clear hls
     by_cases hlt:i<left.length
     · skip
       obtain ⟨y,hy⟩ : ∃y,y=left[i]:=⟨_,rfl⟩
       have HY:=Lib.hid hy
       obtain ⟨g,off,hAA,hgl,hrg⟩:=HS.out.at_ hlt
       rw [← hy] at hrg
       subst hAA
       have HRG:=Lib.hid (show wr.rangeAt g (off+i*12) [.int .i64 y.id.kind,.string y.id.text,.int .i64 y.id.n,.int .i64 y.attr.kind,.string y.attr.text,.int .i64 y.attr.n,.int .i64 y.value.kind,.string y.value.text,.int .i64 y.value.n,.bool y.acc,.bool y.goal,.int .i64 y.tag] from hrg)
       have HTH:=Lib.hid (show (wr.alloc (.cells #[.int .i64 0,.string ⟨#[]⟩,.int .i64 0,.int .i64 0,.string ⟨#[]⟩,.int .i64 0,.int .i64 0,.string ⟨#[]⟩,.int .i64 0,.bool false,.bool false,.int .i64 0] 55)).there wr.heap.size 0 (#[.int .i64 y.id.kind,.string y.id.text,.int .i64 y.id.n,.int .i64 y.attr.kind,.string y.attr.text,.int .i64 y.attr.n,.int .i64 y.value.kind,.string y.value.text,.int .i64 y.value.n,.bool y.acc,.bool y.goal,.int .i64 y.tag]:Array Value).size from (Blk.new wr 55 #[.int .i64 0,.string ⟨#[]⟩,.int .i64 0,.int .i64 0,.string ⟨#[]⟩,.int .i64 0,.int .i64 0,.string ⟨#[]⟩,.int .i64 0,.bool false,.bool false,.int .i64 0]).there)
       obtain ⟨W5,hW5⟩ : ∃W5,W5=(wr.alloc (.cells #[.int .i64 0,.string ⟨#[]⟩,.int .i64 0,.int .i64 0,.string ⟨#[]⟩,.int .i64 0,.int .i64 0,.string ⟨#[]⟩,.int .i64 0,.bool false,.bool false,.int .i64 0] 55)).setCells wr.heap.size 0 [.int .i64 y.id.kind,.string y.id.text,.int .i64 y.id.n,.int .i64 y.attr.kind,.string y.attr.text,.int .i64 y.attr.n,.int .i64 y.value.kind,.string y.value.text,.int .i64 y.value.n,.bool y.acc,.bool y.goal,.int .i64 y.tag]:=⟨_,rfl⟩
       have HW5:=Lib.hid hW5
       have HRG5:=Lib.hid (show W5.rangeAt wr.heap.size 0 [.int .i64 y.id.kind,.string y.id.text,.int .i64 y.id.n,.int .i64 y.attr.kind,.string y.attr.text,.int .i64 y.attr.n,.int .i64 y.value.kind,.string y.value.text,.int .i64 y.value.n,.bool y.acc,.bool y.goal,.int .i64 y.tag] by rw [hW5];exact World.rangeAt_setCells_same _ _ _ _ HTH.out)
       have HK5:=Lib.hid (show Blk W5 wr.heap.size 55 #[.int .i64 y.id.kind,.string y.id.text,.int .i64 y.id.n,.int .i64 y.attr.kind,.string y.attr.text,.int .i64 y.attr.n,.int .i64 y.value.kind,.string y.value.text,.int .i64 y.value.n,.bool y.acc,.bool y.goal,.int .i64 y.tag] from kept_blk (zs:=[.int .i64 0,.string ⟨#[]⟩,.int .i64 0,.int .i64 0,.string ⟨#[]⟩,.int .i64 0,.int .i64 0,.string ⟨#[]⟩,.int .i64 0,.bool false,.bool false,.int .i64 0]) (vs:=[.int .i64 y.id.kind,.string y.id.text,.int .i64 y.id.n,.int .i64 y.attr.kind,.string y.attr.text,.int .i64 y.attr.n,.int .i64 y.value.kind,.string y.value.text,.int .i64 y.value.n,.bool y.acc,.bool y.goal,.int .i64 y.tag]) rfl hW5 HRG5.out)
       have HB5:=Lib.hid (show Below wr.heap.size wr W5 by rw [hW5];exact Below.setCells' _ _ ((Below.refl _ _).alloc (Nat.le_refl _) _) (Nat.le_refl _))
       clear hW5 hrg hy
       have HYI:=Lib.hid (show left[i]? = some y by rw [HY.out];exact List.getElem?_eq_getElem hlt)
       have j1:(0:Int)≤(i:Int):=by omega
       have j2:(i:Int)<(left.length:Int):=by omega
       obtain ⟨bs,hbs⟩ : ∃bs,bs=bestS ns left i:=⟨_,rfl⟩
       have HBS:=Lib.hid hbs.symm
       rw [← hbs]
       clear hbs
       go_upto_region 9 with (first
       | (with_reducible refine wpList_load_mid rfl 55 _ rfl g (off+i*12) rfl [.int .i64 y.id.kind,.string y.id.text,.int .i64 y.id.n,.int .i64 y.attr.kind,.string y.attr.text,.int .i64 y.attr.n,.int .i64 y.value.kind,.string y.value.text,.int .i64 y.value.n,.bool y.acc,.bool y.goal,.int .i64 y.tag] _ HRG.out Tryz.underlying55 rfl (by kernel_rfl) ?_)
       | ((with_reducible refine wpList_store_mid rfl 55 _ _ rfl wr.heap.size 0 #[.int .i64 y.id.kind,.string y.id.text,.int .i64 y.id.n,.int .i64 y.attr.kind,.string y.attr.text,.int .i64 y.attr.n,.int .i64 y.value.kind,.string y.value.text,.int .i64 y.value.n,.bool y.acc,.bool y.goal,.int .i64 y.tag] rfl rfl HTH.out (by kernel_rfl) (by kernel_rfl) ?_);rw [← HW5.out]))
       have HS5:=Lib.hid (HS.out.new_ HB5.out)
       have HP5:=Lib.hid (show ∀W,Below W5.heap.size W5 W→Calls Tryz.prog 62 #[.pointer (some ⟨nb,0,none⟩),.agg #[.int .i64 y.id.kind,.string y.id.text,.int .i64 y.id.n]] W fun e w'=>e = .returned (.int .i64 (plV ns y.id:Int))∧Below W.heap.size W w' from fun W hW=>place_is y.id W (HS5.out.nm.new_ hW) (by omega))
       have HGO:=Lib.hid (show canN ns y=(y.goal || !decide (plV ns y.id=0)) from rfl)
       have k10:W5.cell? ⟨wr.heap.size,10,none⟩=some (.bool y.goal):=(HK5.out.cell 10).trans rfl
       have k0:W5.cell? ⟨wr.heap.size,0,none⟩=some (.int .i64 y.id.kind):=(HK5.out.cell 0).trans rfl
       have k1:W5.cell? ⟨wr.heap.size,1,none⟩=some (.string y.id.text):=(HK5.out.cell 1).trans rfl
       have k2:W5.cell? ⟨wr.heap.size,2,none⟩=some (.int .i64 y.id.n):=(HK5.out.cell 2).trans rfl
       have kz:=HK5.out.lt
       obtain ⟨p,hp⟩ : ∃p,p=plV ns y.id:=⟨_,rfl⟩
       obtain ⟨gb,hgb⟩ : ∃gb,gb=y.goal:=⟨_,rfl⟩
       rw [← hp] at HP5 HGO
       rw [← hgb] at k10 HGO
       clear hp hgb
       have HSZ:=Lib.hid HB5.out.size
       cases gb
       · skip
         by_cases hp0:p=0
         · skip
           subst hp0
           have HBK:=Lib.hid (bestS_skip HYI.out (show canN ns y=false by rw [HGO.out];rfl))
           go_wp2_with fail
           refine (HP5.out _ (Below.refl _ _)).mono ?_
           rintro e w6 ⟨rfl,hb6⟩
           have HS6:=Lib.hid (HS5.out.new_ hb6)
           clear hb6
           go_wp2_with fail
           go_roundw
           case rel=>exact ⟨i+1,by go_num,by omega,by rw [HBK.out,HBS.out],HS6.out⟩
           case measure=>simp [intOf]<;>omega
         · skip
           have r1:((p:Int) == 0)=false:=by simp;omega
           have r2 : ¬(p:Int)=0:=by omega
           have r3:decide ((p:Int)=0)=false:=by simp;omega
           have HCAN:=Lib.hid (show canN ns y=true by rw [HGO.out];simp [hp0])
           clear hp0
           go_upto_region 10 with fail
           refine (HP5.out _ (Below.refl _ _)).mono ?_
           rintro e WK ⟨rfl,hb6⟩
           have HSK:=Lib.hid (HS5.out.new_ hb6)
           have HKK:=Lib.hid (HK5.out.new_ hb6)
           clear hb6 k0 k1 k2 k10 kz
           go_upto_region 10 with fail
           cases bs with
           | none=>
             have HBN:=Lib.hid (bestS_first HYI.out HCAN.out HBS.out)
             dsimp only [bestZ]
             go_upto_region 10 with fail
             refine wp_region_E (fun w9=>Below WK.heap.size WK w9) [(0,0),(1,0),(2,0),(3,0),(4,1),(5,0),(6,0),(7,0),(8,1),(9,2),(10,0)] (by kernel_rfl) (by kernel_rfl) (fun KK hKK=>?_)
             simp only [beside,List.filterMap_cons,List.filterMap_nil,List.getElem?_toArray,List.getElem?_cons_zero,List.getElem?_cons_succ,Option.map_some]
             repeat ((first | (refine wpX_w ?_ (Or.inl ⟨by rfl,fun w9=>?_⟩) ?_;rotate_left 1;go_simp;with_reducible rfl) | (refine wpX_l ?_ (((Below.refl _ _).drew)) (Or.inl ⟨by rfl,fun w9 hw9=>?_⟩) ?_;rotate_left 1;obtain ⟨hc9,hf9⟩:=bcell hw9;go_simp;with_reducible rfl) | refine wpX_w undef (Or.inr ⟨by rfl,rfl⟩) ?_ | refine wpX_l undef (((Below.refl _ _).drew)) (Or.inr ⟨by rfl,rfl⟩) ?_);go_frame)
             refine wpX_es (fun K9 hK9=>?_)
             go_simp
             refine hK9 _ _ ((Below.refl _ _).drew) ?_
             clear hK9 K9
             repeat ((first | (refine wpX_w ?_ (Or.inl ⟨by rfl,fun w9=>?_⟩) ?_;rotate_left 1;go_simp;with_reducible rfl) | (refine wpX_l ?_ (((Below.refl _ _).drew)) (Or.inl ⟨by rfl,fun w9 hw9=>?_⟩) ?_;rotate_left 1;obtain ⟨hc9,hf9⟩:=bcell hw9;go_simp;with_reducible rfl) | refine wpX_w undef (Or.inr ⟨by rfl,rfl⟩) ?_ | refine wpX_l undef (((Below.refl _ _).drew)) (Or.inr ⟨by rfl,rfl⟩) ?_);go_frame)
             refine wpX_nil ?_
             simp only [OnlyN_normal]
             refine hKK _ _ ?_
             clear hKK KK
             have HSL:=Lib.hid (HSK.out.new_ ((Below.refl WK.heap.size WK).drew))
             go_wp2_with fail
             go_roundw
             case rel=>exact ⟨i+1,by go_num,by omega,by rw [HBN.out];rfl,HSL.out⟩
             case measure=>simp [intOf]<;>omega
           | some k=>
             have hkl:=bestS_lt HBS.out
             obtain ⟨b,hb⟩ : ∃b,b=left[k]'hkl.2:=⟨_,rfl⟩
             have HBI:=Lib.hid (show left[k]? = some b by rw [hb];exact List.getElem?_eq_getElem hkl.2)
             obtain ⟨g2,off2,hA2,hgl2,hrg2⟩:=HSK.out.at_ hkl.2
             rw [← hb] at hrg2
             injection hA2 with hA2
             injection hA2 with hA2 hA3
             subst hA2;subst hA3
             have HRB:=Lib.hid (show WK.rangeAt g (off+k*12) [.int .i64 b.id.kind,.string b.id.text,.int .i64 b.id.n,.int .i64 b.attr.kind,.string b.attr.text,.int .i64 b.attr.n,.int .i64 b.value.kind,.string b.value.text,.int .i64 b.value.n,.bool b.acc,.bool b.goal,.int .i64 b.tag] from hrg2)
             have HRY:=Lib.hid (show WK.rangeAt wr.heap.size 0 [.int .i64 y.id.kind,.string y.id.text,.int .i64 y.id.n,.int .i64 y.attr.kind,.string y.attr.text,.int .i64 y.attr.n,.int .i64 y.value.kind,.string y.value.text,.int .i64 y.value.n,.bool y.acc,.bool y.goal,.int .i64 y.tag] from (HKK.out.range))
             obtain ⟨va,hva⟩ : ∃va,va=aheadV ns y b:=⟨_,rfl⟩
             have HBM:=Lib.hid (bestS_more HYI.out HCAN.out HBS.out HBI.out va hva.symm)
             have HAH:=Lib.hid (show ∀W,Below WK.heap.size WK W→Calls Tryz.prog 101 #[.pointer (some ⟨nb,0,none⟩),.agg #[.int .i64 y.id.kind,.string y.id.text,.int .i64 y.id.n,.int .i64 y.attr.kind,.string y.attr.text,.int .i64 y.attr.n,.int .i64 y.value.kind,.string y.value.text,.int .i64 y.value.n,.bool y.acc,.bool y.goal,.int .i64 y.tag],.agg #[.int .i64 b.id.kind,.string b.id.text,.int .i64 b.id.n,.int .i64 b.attr.kind,.string b.attr.text,.int .i64 b.attr.n,.int .i64 b.value.kind,.string b.value.text,.int .i64 b.value.n,.bool b.acc,.bool b.goal,.int .i64 b.tag]] W fun e w'=>e = .returned (.bool va)∧Below W.heap.size W w' from fun W hW=>by rw [hva];exact ahead_is y b W (HSK.out.nm.new_ hW) (by omega))
             have hk1:(0:Int)≤(k:Int):=by omega
             have hk2:(k:Int)<(left.length:Int):=by omega
             have hk3 : ¬(k:Int)<0:=by omega
             have hk4:decide ((k:Int)<0)=false:=by simp
             have hgz:g<WK.heap.size:=hgl2
             have hwz:=HKK.out.lt
             clear hva hb hrg2 hgl2 hkl
             dsimp only [bestZ]
             go_upto_region 10 with fail
             refine wp_region_E (fun w9=>Below WK.heap.size WK w9) [(0,0),(1,0),(2,0),(3,0),(4,1),(5,0),(6,0),(7,0),(8,1),(9,2),(10,0)] (by kernel_rfl) (by kernel_rfl) (fun KK hKK=>?_)
             simp only [beside,List.filterMap_cons,List.filterMap_nil,List.getElem?_toArray,List.getElem?_cons_zero,List.getElem?_cons_succ,Option.map_some]
             repeat ((first | (refine wpX_l _ ((Below.refl _ _).drew) (yieldsIf_load_mid (by rfl) 55 _ rfl wr.heap.size (0) rfl [.int .i64 y.id.kind,.string y.id.text,.int .i64 y.id.n,.int .i64 y.attr.kind,.string y.attr.text,.int .i64 y.attr.n,.int .i64 y.value.kind,.string y.value.text,.int .i64 y.value.n,.bool y.acc,.bool y.goal,.int .i64 y.tag] _ (fun w9 hw9=>rangeAt_below HRY.out hw9 hwz) Tryz.underlying55 rfl (by kernel_rfl)) ?_) | (refine wpX_l _ ((Below.refl _ _).drew) (yieldsIf_load_mid (by rfl) 55 _ rfl g (off+k*12) rfl [.int .i64 b.id.kind,.string b.id.text,.int .i64 b.id.n,.int .i64 b.attr.kind,.string b.attr.text,.int .i64 b.attr.n,.int .i64 b.value.kind,.string b.value.text,.int .i64 b.value.n,.bool b.acc,.bool b.goal,.int .i64 b.tag] _ (fun w9 hw9=>rangeAt_below HRB.out hw9 hgz) Tryz.underlying55 rfl (by kernel_rfl)) ?_) | (refine wpX_w ?_ (Or.inl ⟨by rfl,fun w9=>?_⟩) ?_;rotate_left 1;go_simp;with_reducible rfl) | (refine wpX_l ?_ (((Below.refl _ _).drew)) (Or.inl ⟨by rfl,fun w9 hw9=>?_⟩) ?_;rotate_left 1;obtain ⟨hc9,hf9⟩:=bcell hw9;go_simp;with_reducible rfl) | refine wpX_w undef (Or.inr ⟨by rfl,rfl⟩) ?_ | refine wpX_l undef (((Below.refl _ _).drew)) (Or.inr ⟨by rfl,rfl⟩) ?_);go_frame)
             refine wpX_e (by kernel_rfl) (fun K9 hK9=>?_)
             go_simp
             refine (HAH.out _ ((Below.refl _ _).drew)).mono ?_
             rintro e w9 ⟨rfl,hb9⟩
             have HB9:=Lib.hid (((Below.refl WK.heap.size WK).drew).trans (hb9.mono (by simp)))
             clear hb9
             refine hK9 _ _ ?_
             clear hK9 K9
             repeat ((first | (refine wpX_l _ ((Below.refl _ _).drew) (yieldsIf_load_mid (by rfl) 55 _ rfl wr.heap.size (0) rfl [.int .i64 y.id.kind,.string y.id.text,.int .i64 y.id.n,.int .i64 y.attr.kind,.string y.attr.text,.int .i64 y.attr.n,.int .i64 y.value.kind,.string y.value.text,.int .i64 y.value.n,.bool y.acc,.bool y.goal,.int .i64 y.tag] _ (fun w9 hw9=>rangeAt_below HRY.out hw9 hwz) Tryz.underlying55 rfl (by kernel_rfl)) ?_) | (refine wpX_l _ ((Below.refl _ _).drew) (yieldsIf_load_mid (by rfl) 55 _ rfl g (off+k*12) rfl [.int .i64 b.id.kind,.string b.id.text,.int .i64 b.id.n,.int .i64 b.attr.kind,.string b.attr.text,.int .i64 b.attr.n,.int .i64 b.value.kind,.string b.value.text,.int .i64 b.value.n,.bool b.acc,.bool b.goal,.int .i64 b.tag] _ (fun w9 hw9=>rangeAt_below HRB.out hw9 hgz) Tryz.underlying55 rfl (by kernel_rfl)) ?_) | (refine wpX_w ?_ (Or.inl ⟨by rfl,fun w9=>?_⟩) ?_;rotate_left 1;go_simp;with_reducible rfl) | (refine wpX_l ?_ (((Below.refl _ _).drew)) (Or.inl ⟨by rfl,fun w9 hw9=>?_⟩) ?_;rotate_left 1;obtain ⟨hc9,hf9⟩:=bcell hw9;go_simp;with_reducible rfl) | refine wpX_w undef (Or.inr ⟨by rfl,rfl⟩) ?_ | refine wpX_l undef (((Below.refl _ _).drew)) (Or.inr ⟨by rfl,rfl⟩) ?_);go_frame)
             refine wpX_nil ?_
             simp only [OnlyN_normal]
             refine hKK _ _ ?_
             clear hKK KK
             have HSL:=Lib.hid (HSK.out.new_ HB9.out)
             cases va
             · go_wp2_with fail
               go_roundw
               case rel=>exact ⟨i+1,by go_num,by omega,by rw [HBM.out];rfl,HSL.out⟩
               case measure=>simp [intOf]<;>omega
             · go_wp2_with fail
               go_roundw
               case rel=>exact ⟨i+1,by go_num,by omega,by rw [HBM.out];rfl,HSL.out⟩
               case measure=>simp [intOf]<;>omega
       · skip
         have HCAN:=Lib.hid (show canN ns y=true by rw [HGO.out];rfl)
         go_upto_region 10 with fail
         obtain ⟨WK,hWK⟩ : ∃WK,WK=W5:=⟨_,rfl⟩
         rw [← hWK] at HS5 HK5 ⊢
         have HSK:=Lib.hid HS5.out
         have HKK:=Lib.hid HK5.out
         clear hWK k0 k1 k2 k10 kz
         cases bs with
         | none=>
           have HBN:=Lib.hid (bestS_first HYI.out HCAN.out HBS.out)
           dsimp only [bestZ]
           go_upto_region 10 with fail
           refine wp_region_E (fun w9=>Below WK.heap.size WK w9) [(0,0),(1,0),(2,0),(3,0),(4,1),(5,0),(6,0),(7,0),(8,1),(9,2),(10,0)] (by kernel_rfl) (by kernel_rfl) (fun KK hKK=>?_)
           simp only [beside,List.filterMap_cons,List.filterMap_nil,List.getElem?_toArray,List.getElem?_cons_zero,List.getElem?_cons_succ,Option.map_some]
           repeat ((first | (refine wpX_w ?_ (Or.inl ⟨by rfl,fun w9=>?_⟩) ?_;rotate_left 1;go_simp;with_reducible rfl) | (refine wpX_l ?_ (((Below.refl _ _).drew)) (Or.inl ⟨by rfl,fun w9 hw9=>?_⟩) ?_;rotate_left 1;obtain ⟨hc9,hf9⟩:=bcell hw9;go_simp;with_reducible rfl) | refine wpX_w undef (Or.inr ⟨by rfl,rfl⟩) ?_ | refine wpX_l undef (((Below.refl _ _).drew)) (Or.inr ⟨by rfl,rfl⟩) ?_);go_frame)
           refine wpX_es (fun K9 hK9=>?_)
           go_simp
           refine hK9 _ _ ((Below.refl _ _).drew) ?_
           clear hK9 K9
           repeat ((first | (refine wpX_w ?_ (Or.inl ⟨by rfl,fun w9=>?_⟩) ?_;rotate_left 1;go_simp;with_reducible rfl) | (refine wpX_l ?_ (((Below.refl _ _).drew)) (Or.inl ⟨by rfl,fun w9 hw9=>?_⟩) ?_;rotate_left 1;obtain ⟨hc9,hf9⟩:=bcell hw9;go_simp;with_reducible rfl) | refine wpX_w undef (Or.inr ⟨by rfl,rfl⟩) ?_ | refine wpX_l undef (((Below.refl _ _).drew)) (Or.inr ⟨by rfl,rfl⟩) ?_);go_frame)
           refine wpX_nil ?_
           simp only [OnlyN_normal]
           refine hKK _ _ ?_
           clear hKK KK
           have HSL:=Lib.hid (HSK.out.new_ ((Below.refl WK.heap.size WK).drew))
           go_wp2_with fail
           go_roundw
           case rel=>exact ⟨i+1,by go_num,by omega,by rw [HBN.out];rfl,HSL.out⟩
           case measure=>simp [intOf]<;>omega
         | some k=>
           have hkl:=bestS_lt HBS.out
           obtain ⟨b,hb⟩ : ∃b,b=left[k]'hkl.2:=⟨_,rfl⟩
           have HBI:=Lib.hid (show left[k]? = some b by rw [hb];exact List.getElem?_eq_getElem hkl.2)
           obtain ⟨g2,off2,hA2,hgl2,hrg2⟩:=HSK.out.at_ hkl.2
           rw [← hb] at hrg2
           injection hA2 with hA2
           injection hA2 with hA2 hA3
           subst hA2;subst hA3
           have HRB:=Lib.hid (show WK.rangeAt g (off+k*12) [.int .i64 b.id.kind,.string b.id.text,.int .i64 b.id.n,.int .i64 b.attr.kind,.string b.attr.text,.int .i64 b.attr.n,.int .i64 b.value.kind,.string b.value.text,.int .i64 b.value.n,.bool b.acc,.bool b.goal,.int .i64 b.tag] from hrg2)
           have HRY:=Lib.hid (show WK.rangeAt wr.heap.size 0 [.int .i64 y.id.kind,.string y.id.text,.int .i64 y.id.n,.int .i64 y.attr.kind,.string y.attr.text,.int .i64 y.attr.n,.int .i64 y.value.kind,.string y.value.text,.int .i64 y.value.n,.bool y.acc,.bool y.goal,.int .i64 y.tag] from (HKK.out.range))
           obtain ⟨va,hva⟩ : ∃va,va=aheadV ns y b:=⟨_,rfl⟩
           have HBM:=Lib.hid (bestS_more HYI.out HCAN.out HBS.out HBI.out va hva.symm)
           have HAH:=Lib.hid (show ∀W,Below WK.heap.size WK W→Calls Tryz.prog 101 #[.pointer (some ⟨nb,0,none⟩),.agg #[.int .i64 y.id.kind,.string y.id.text,.int .i64 y.id.n,.int .i64 y.attr.kind,.string y.attr.text,.int .i64 y.attr.n,.int .i64 y.value.kind,.string y.value.text,.int .i64 y.value.n,.bool y.acc,.bool y.goal,.int .i64 y.tag],.agg #[.int .i64 b.id.kind,.string b.id.text,.int .i64 b.id.n,.int .i64 b.attr.kind,.string b.attr.text,.int .i64 b.attr.n,.int .i64 b.value.kind,.string b.value.text,.int .i64 b.value.n,.bool b.acc,.bool b.goal,.int .i64 b.tag]] W fun e w'=>e = .returned (.bool va)∧Below W.heap.size W w' from fun W hW=>by rw [hva];exact ahead_is y b W (HSK.out.nm.new_ hW) (by omega))
           have hk1:(0:Int)≤(k:Int):=by omega
           have hk2:(k:Int)<(left.length:Int):=by omega
           have hk3 : ¬(k:Int)<0:=by omega
           have hk4:decide ((k:Int)<0)=false:=by simp
           have hgz:g<WK.heap.size:=hgl2
           have hwz:=HKK.out.lt
           clear hva hb hrg2 hgl2 hkl
           dsimp only [bestZ]
           go_upto_region 10 with fail
           refine wp_region_E (fun w9=>Below WK.heap.size WK w9) [(0,0),(1,0),(2,0),(3,0),(4,1),(5,0),(6,0),(7,0),(8,1),(9,2),(10,0)] (by kernel_rfl) (by kernel_rfl) (fun KK hKK=>?_)
           simp only [beside,List.filterMap_cons,List.filterMap_nil,List.getElem?_toArray,List.getElem?_cons_zero,List.getElem?_cons_succ,Option.map_some]
           repeat ((first | (refine wpX_l _ ((Below.refl _ _).drew) (yieldsIf_load_mid (by rfl) 55 _ rfl wr.heap.size (0) rfl [.int .i64 y.id.kind,.string y.id.text,.int .i64 y.id.n,.int .i64 y.attr.kind,.string y.attr.text,.int .i64 y.attr.n,.int .i64 y.value.kind,.string y.value.text,.int .i64 y.value.n,.bool y.acc,.bool y.goal,.int .i64 y.tag] _ (fun w9 hw9=>rangeAt_below HRY.out hw9 hwz) Tryz.underlying55 rfl (by kernel_rfl)) ?_) | (refine wpX_l _ ((Below.refl _ _).drew) (yieldsIf_load_mid (by rfl) 55 _ rfl g (off+k*12) rfl [.int .i64 b.id.kind,.string b.id.text,.int .i64 b.id.n,.int .i64 b.attr.kind,.string b.attr.text,.int .i64 b.attr.n,.int .i64 b.value.kind,.string b.value.text,.int .i64 b.value.n,.bool b.acc,.bool b.goal,.int .i64 b.tag] _ (fun w9 hw9=>rangeAt_below HRB.out hw9 hgz) Tryz.underlying55 rfl (by kernel_rfl)) ?_) | (refine wpX_w ?_ (Or.inl ⟨by rfl,fun w9=>?_⟩) ?_;rotate_left 1;go_simp;with_reducible rfl) | (refine wpX_l ?_ (((Below.refl _ _).drew)) (Or.inl ⟨by rfl,fun w9 hw9=>?_⟩) ?_;rotate_left 1;obtain ⟨hc9,hf9⟩:=bcell hw9;go_simp;with_reducible rfl) | refine wpX_w undef (Or.inr ⟨by rfl,rfl⟩) ?_ | refine wpX_l undef (((Below.refl _ _).drew)) (Or.inr ⟨by rfl,rfl⟩) ?_);go_frame)
           refine wpX_e (by kernel_rfl) (fun K9 hK9=>?_)
           go_simp
           refine (HAH.out _ ((Below.refl _ _).drew)).mono ?_
           rintro e w9 ⟨rfl,hb9⟩
           have HB9:=Lib.hid (((Below.refl WK.heap.size WK).drew).trans (hb9.mono (by simp)))
           clear hb9
           refine hK9 _ _ ?_
           clear hK9 K9
           repeat ((first | (refine wpX_l _ ((Below.refl _ _).drew) (yieldsIf_load_mid (by rfl) 55 _ rfl wr.heap.size (0) rfl [.int .i64 y.id.kind,.string y.id.text,.int .i64 y.id.n,.int .i64 y.attr.kind,.string y.attr.text,.int .i64 y.attr.n,.int .i64 y.value.kind,.string y.value.text,.int .i64 y.value.n,.bool y.acc,.bool y.goal,.int .i64 y.tag] _ (fun w9 hw9=>rangeAt_below HRY.out hw9 hwz) Tryz.underlying55 rfl (by kernel_rfl)) ?_) | (refine wpX_l _ ((Below.refl _ _).drew) (yieldsIf_load_mid (by rfl) 55 _ rfl g (off+k*12) rfl [.int .i64 b.id.kind,.string b.id.text,.int .i64 b.id.n,.int .i64 b.attr.kind,.string b.attr.text,.int .i64 b.attr.n,.int .i64 b.value.kind,.string b.value.text,.int .i64 b.value.n,.bool b.acc,.bool b.goal,.int .i64 b.tag] _ (fun w9 hw9=>rangeAt_below HRB.out hw9 hgz) Tryz.underlying55 rfl (by kernel_rfl)) ?_) | (refine wpX_w ?_ (Or.inl ⟨by rfl,fun w9=>?_⟩) ?_;rotate_left 1;go_simp;with_reducible rfl) | (refine wpX_l ?_ (((Below.refl _ _).drew)) (Or.inl ⟨by rfl,fun w9 hw9=>?_⟩) ?_;rotate_left 1;obtain ⟨hc9,hf9⟩:=bcell hw9;go_simp;with_reducible rfl) | refine wpX_w undef (Or.inr ⟨by rfl,rfl⟩) ?_ | refine wpX_l undef (((Below.refl _ _).drew)) (Or.inr ⟨by rfl,rfl⟩) ?_);go_frame)
           refine wpX_nil ?_
           simp only [OnlyN_normal]
           refine hKK _ _ ?_
           clear hKK KK
           have HSL:=Lib.hid (HSK.out.new_ HB9.out)
           cases va
           · go_wp2_with fail
             go_roundw
             case rel=>exact ⟨i+1,by go_num,by omega,by rw [HBM.out];rfl,HSL.out⟩
             case measure=>simp [intOf]<;>omega
           · go_wp2_with fail
             go_roundw
             case rel=>exact ⟨i+1,by go_num,by omega,by rw [HBM.out];rfl,HSL.out⟩
             case measure=>simp [intOf]<;>omega
     · skip
       obtain rfl:i=left.length:=by omega
       obtain ⟨bs,hbs⟩ : ∃bs,bs=bestS ns left left.length:=⟨_,rfl⟩
       have HBS:=Lib.hid (show bestV ns left=bs from hbs.symm)
       rw [← hbs]
       clear hbs
       have jz : ¬(left.length:Int)<(left.length:Int):=by omega
       cases bs with
       | none=>
         have HOV:=Lib.hid (show orderV l=none by
          rw [← HLV.out]
          obtain ⟨q,hq⟩ : ∃q,left.length=q+1:=⟨left.length - 1,by omega⟩
          rw [hq]
          exact laidV_none (by intro e;rw [e] at he;exact he rfl) HBS.out)
         dsimp only [bestZ]
         go_wp2_with fail
         exact bodyPost_ret (v:=.tuple #[.slice none 0 0,.pointer none,.bool false]) (by simp [results,Tryz.results61,go_sem, *]) rfl (LaidTo.no HOV.out HS.out.bel)
       | some k=>
         have hkl:=bestS_lt HBS.out
         dsimp only [bestZ]
         have hlt:=hkl.2
         obtain ⟨y,hy⟩ : ∃y,y=left[k]:=⟨_,rfl⟩
         have HY:=Lib.hid hy
         obtain ⟨g,off,hAA,hgl,hrg⟩:=HS.out.at_ hlt
         rw [← hy] at hrg
         subst hAA
         have HRG:=Lib.hid (show wr.rangeAt g (off+k*12) [.int .i64 y.id.kind,.string y.id.text,.int .i64 y.id.n,.int .i64 y.attr.kind,.string y.attr.text,.int .i64 y.attr.n,.int .i64 y.value.kind,.string y.value.text,.int .i64 y.value.n,.bool y.acc,.bool y.goal,.int .i64 y.tag] from hrg)
         have HTH:=Lib.hid (show (wr.alloc (.cells #[.int .i64 0,.string ⟨#[]⟩,.int .i64 0,.int .i64 0,.string ⟨#[]⟩,.int .i64 0,.int .i64 0,.string ⟨#[]⟩,.int .i64 0,.bool false,.bool false,.int .i64 0] 55)).there wr.heap.size 0 (#[.int .i64 y.id.kind,.string y.id.text,.int .i64 y.id.n,.int .i64 y.attr.kind,.string y.attr.text,.int .i64 y.attr.n,.int .i64 y.value.kind,.string y.value.text,.int .i64 y.value.n,.bool y.acc,.bool y.goal,.int .i64 y.tag]:Array Value).size from (Blk.new wr 55 #[.int .i64 0,.string ⟨#[]⟩,.int .i64 0,.int .i64 0,.string ⟨#[]⟩,.int .i64 0,.int .i64 0,.string ⟨#[]⟩,.int .i64 0,.bool false,.bool false,.int .i64 0]).there)
         obtain ⟨W5,hW5⟩ : ∃W5,W5=(wr.alloc (.cells #[.int .i64 0,.string ⟨#[]⟩,.int .i64 0,.int .i64 0,.string ⟨#[]⟩,.int .i64 0,.int .i64 0,.string ⟨#[]⟩,.int .i64 0,.bool false,.bool false,.int .i64 0] 55)).setCells wr.heap.size 0 [.int .i64 y.id.kind,.string y.id.text,.int .i64 y.id.n,.int .i64 y.attr.kind,.string y.attr.text,.int .i64 y.attr.n,.int .i64 y.value.kind,.string y.value.text,.int .i64 y.value.n,.bool y.acc,.bool y.goal,.int .i64 y.tag]:=⟨_,rfl⟩
         have HW5:=Lib.hid hW5
         have HRG5:=Lib.hid (show W5.rangeAt wr.heap.size 0 [.int .i64 y.id.kind,.string y.id.text,.int .i64 y.id.n,.int .i64 y.attr.kind,.string y.attr.text,.int .i64 y.attr.n,.int .i64 y.value.kind,.string y.value.text,.int .i64 y.value.n,.bool y.acc,.bool y.goal,.int .i64 y.tag] by rw [hW5];exact World.rangeAt_setCells_same _ _ _ _ HTH.out)
         have HK5:=Lib.hid (show Blk W5 wr.heap.size 55 #[.int .i64 y.id.kind,.string y.id.text,.int .i64 y.id.n,.int .i64 y.attr.kind,.string y.attr.text,.int .i64 y.attr.n,.int .i64 y.value.kind,.string y.value.text,.int .i64 y.value.n,.bool y.acc,.bool y.goal,.int .i64 y.tag] from kept_blk (zs:=[.int .i64 0,.string ⟨#[]⟩,.int .i64 0,.int .i64 0,.string ⟨#[]⟩,.int .i64 0,.int .i64 0,.string ⟨#[]⟩,.int .i64 0,.bool false,.bool false,.int .i64 0]) (vs:=[.int .i64 y.id.kind,.string y.id.text,.int .i64 y.id.n,.int .i64 y.attr.kind,.string y.attr.text,.int .i64 y.attr.n,.int .i64 y.value.kind,.string y.value.text,.int .i64 y.value.n,.bool y.acc,.bool y.goal,.int .i64 y.tag]) rfl hW5 HRG5.out)
         have HB5:=Lib.hid (show Below wr.heap.size wr W5 by rw [hW5];exact Below.setCells' _ _ ((Below.refl _ _).alloc (Nat.le_refl _) _) (Nat.le_refl _))
         clear hW5 hrg hy
         have HYI:=Lib.hid (show left[k]? = some y by rw [HY.out];exact List.getElem?_eq_getElem hlt)
         have hk1:(0:Int)≤(k:Int):=by omega
         have hk2:(k:Int)<(left.length:Int):=by omega
         have hk3 : ¬(k:Int)<0:=by omega
         go_upto_region 16 with (first
         | (with_reducible refine wpList_load_mid rfl 55 _ rfl g (off+k*12) rfl [.int .i64 y.id.kind,.string y.id.text,.int .i64 y.id.n,.int .i64 y.attr.kind,.string y.attr.text,.int .i64 y.attr.n,.int .i64 y.value.kind,.string y.value.text,.int .i64 y.value.n,.bool y.acc,.bool y.goal,.int .i64 y.tag] _ HRG.out Tryz.underlying55 rfl (by kernel_rfl) ?_)
         | ((with_reducible refine wpList_store_mid rfl 55 _ _ rfl wr.heap.size 0 #[.int .i64 y.id.kind,.string y.id.text,.int .i64 y.id.n,.int .i64 y.attr.kind,.string y.attr.text,.int .i64 y.attr.n,.int .i64 y.value.kind,.string y.value.text,.int .i64 y.value.n,.bool y.acc,.bool y.goal,.int .i64 y.tag] rfl rfl HTH.out (by kernel_rfl) (by kernel_rfl) ?_);rw [← HW5.out]))
         have HSE:=Lib.hid hlt
         obtain ⟨dk,hdk⟩ : ∃x,x=left.drop (k+1):=⟨_,rfl⟩
         obtain ⟨As,hAs⟩ : ∃As:Option Addr,As=(if cL=k+1 then some ⟨g,off,none⟩ else (some (⟨g,off,none⟩:Addr)).map (·.add ((k+1)*12))):=⟨_,rfl⟩
         have hdl:left.length - (k+1)=dk.length:=by rw [hdk,List.length_drop]
         have hcl2:k<cL:=by omega
         have hsl1 : ∀Y,(Instr.slice 84 (.slice (some ⟨g,off,none⟩) left.length cL) none (some (.int .i64 (k:Int))) none).run Tryz.prog Y = .ok (.slice (some ⟨g,off,none⟩) k cL) Y:=fun Y=>run_slE_to _ (by omega) Y
         have hsl2 : ∀Y,(Instr.slice 84 (.slice (some ⟨g,off,none⟩) left.length cL) (some (.int .i64 ((k:Int)+1))) none none).run Tryz.prog Y = .ok (.slice As dk.length (cL - (k+1))) Y:=fun Y=>by rw [← hdl,hAs];exact run_slE_from (j:=k+1) _ (by omega) Y
         have v1:IntKind.i64.wrap ((k:Int)+1)=(k:Int)+1:=IntWalk.i64_in _ (by omega)
         have HS5:=Lib.hid (HS.out.new_ HB5.out)
         have HDK:=Lib.hid (show RowRd W5 12 Elem.cells As (cL - (k+1)) dk by rw [hdk,hAs];exact (ownsRow_rd Elem.cells_length HS5.out.lo).suffixE (k+1) (by omega))
         have HTK:=Lib.hid (show W5.ownsRow 0 55 12 (.slice (some ⟨g,off,none⟩) k cL) k ((left.take k).flatMap Elem.cells) from own_takeE HS5.out.lo rfl hlt)
         have HDE:=Lib.hid hdk
         have hdl1:dk.length≤300:=by omega
         have hkl1:k≤300:=by omega
         clear hdk hAs hdl hkl
         have HS5D:=Lib.hid (HS5.out.new_ ((Below.refl W5.heap.size W5).drew))
         refine wp_region_E (fun w9=>Below W5.heap.size W5 w9) [(0,0),(1,0),(2,0),(3,0),(4,0),(5,0),(6,0),(7,2),(8,0)] (by kernel_rfl) (by kernel_rfl) (fun KK hKK=>?_)
         simp only [beside,List.filterMap_cons,List.filterMap_nil,List.getElem?_toArray,List.getElem?_cons_zero,List.getElem?_cons_succ,Option.map_some]
         repeat ((first | (refine wpX_w ?_ (Or.inl ⟨by rfl,fun w9=>?_⟩) ?_;rotate_left 1;go_simp;with_reducible rfl) | (refine wpX_l ?_ (((Below.refl _ _).drew)) (Or.inl ⟨by rfl,fun w9 hw9=>?_⟩) ?_;rotate_left 1;obtain ⟨hc9,hf9⟩:=bcell hw9;go_simp;with_reducible rfl) | refine wpX_w undef (Or.inr ⟨by rfl,rfl⟩) ?_ | refine wpX_l undef (((Below.refl _ _).drew)) (Or.inr ⟨by rfl,rfl⟩) ?_);go_frame)
         refine wpX_e (by kernel_rfl) (fun K9 hK9=>?_)
         refine step_append_src _ (by rfl) _ _ _ (by rfl) 55 i0 _ 12 112 Tryz.underlying84 hi0 hz0 hz1 hz2 rfl (by omega) (.slice (some ⟨g,off,none⟩) k cL) k ((left.take k).flatMap Elem.cells) (by rfl) (owns_drew HTK.out) As dk.length (cL - (k+1)) (dk.flatMap Elem.cells) (by rfl) (flat_length Elem.cells_length _) ((HDK.out.drew).news Elem.cells_length (by omega)) (one_Elem _) (by unfold maxLen;omega) (by omega) ?_
         intro v2 w7 hown hgr hnil hat
         rw [HDE.out] at hown
         obtain ⟨A7,c7,rfl,hs7,hf7⟩:=HS5D.out.cut hlt hown hgr hat
         obtain ⟨lk,hlk⟩ : ∃lk,lk=left.eraseIdx k:=⟨_,rfl⟩
         rw [← hlk] at hs7 ⊢
         have HLK:=Lib.hid hlk
         have HS7:=Lib.hid hs7
         have HF7:=Lib.hid hf7
         clear hown hgr hnil hat hs7 hf7 hlk
         refine hK9 _ _ ?_
         clear hK9 K9
         repeat ((first | (refine wpX_w ?_ (Or.inl ⟨by rfl,fun w9=>?_⟩) ?_;rotate_left 1;go_simp;with_reducible rfl) | (refine wpX_l ?_ (((Below.refl _ _).drew)) (Or.inl ⟨by rfl,fun w9 hw9=>?_⟩) ?_;rotate_left 1;obtain ⟨hc9,hf9⟩:=bcell hw9;go_simp;with_reducible rfl) | refine wpX_w undef (Or.inr ⟨by rfl,rfl⟩) ?_ | refine wpX_l undef (((Below.refl _ _).drew)) (Or.inr ⟨by rfl,rfl⟩) ?_);go_frame)
         refine wpX_nil ?_
         simp only [OnlyN_normal]
         refine hKK _ _ ?_
         clear hKK KK
         have HKX:=Lib.hid (show w7.heap.size≥W5.heap.size∧Blk w7 wr.heap.size 55 #[.int .i64 y.id.kind,.string y.id.text,.int .i64 y.id.n,.int .i64 y.attr.kind,.string y.attr.text,.int .i64 y.attr.n,.int .i64 y.value.kind,.string y.value.text,.int .i64 y.value.n,.bool y.acc,.bool y.goal,.int .i64 y.tag] from ⟨HF7.out.size,(HK5.out.drew).fr HF7.out (fun ⟨a,ha,e⟩=>by cases ha;dsimp only at e;omega)⟩)
         have HDX:=Lib.hid (show ¬D wr.heap.size from fun hd=>by have:=HS.out.nm.lt _ hd;omega)
         have HRX:=Lib.hid (show w7.rangeAt wr.heap.size 0 [.int .i64 y.id.kind,.string y.id.text,.int .i64 y.id.n,.int .i64 y.attr.kind,.string y.attr.text,.int .i64 y.attr.n,.int .i64 y.value.kind,.string y.value.text,.int .i64 y.value.n,.bool y.acc,.bool y.goal,.int .i64 y.tag] from HKX.out.2.range)
         obtain ⟨W8,hW8⟩ : ∃W8,W8=w7.alloc (.cells #[.int .i64 y.id.kind,.string y.id.text,.int .i64 y.id.n,.int .i64 y.attr.kind,.string y.attr.text,.int .i64 y.attr.n,.int .i64 y.value.kind,.string y.value.text,.int .i64 y.value.n,.bool y.acc,.bool y.goal,.int .i64 y.tag] 55):=⟨_,rfl⟩
         have HW8:=Lib.hid hW8
         have hb8:Below w7.heap.size w7 W8:=by rw [hW8];exact (Below.refl _ _).alloc (Nat.le_refl _) _
         have HS8:=Lib.hid (HS7.out.new_ hb8)
         have HK8:=Lib.hid (HKX.out.2.new_ hb8)
         have HN8:=Lib.hid (show 0<1→∃ad,(some (⟨w7.heap.size,0,none⟩:Addr))=some ad∧∀j u,([y].flatMap Elem.cells)[j]? = some u→W8.cell? (ad.add j)=some u from fun _=>⟨_,rfl,by rw [hW8];exact World.news_of_block (heap_alloc_new _ _)⟩)
         have ho8:out.length≤300:=by omega
         clear hW8 hb8 v1 hsl1 hsl2
         go_upto_region 18 with (first
         | (with_reducible refine wpList_load_mid rfl 55 _ rfl wr.heap.size 0 rfl [.int .i64 y.id.kind,.string y.id.text,.int .i64 y.id.n,.int .i64 y.attr.kind,.string y.attr.text,.int .i64 y.attr.n,.int .i64 y.value.kind,.string y.value.text,.int .i64 y.value.n,.bool y.acc,.bool y.goal,.int .i64 y.tag] _ HRX.out Tryz.underlying55 rfl (by kernel_rfl) ?_)
         | (at_builtin;rw [← HW8.out];refine wpList_append_src W8 rfl (.tmp 64) (.tmp 66) 84 rfl 55 i0 _ 12 112 Tryz.underlying84 hi0 hz0 hz1 hz2 rfl (by omega) (.slice AO out.length cO) out.length (out.flatMap Elem.cells) rfl HS8.out.oo (some ⟨w7.heap.size,0,none⟩) 1 1 ([y].flatMap Elem.cells) rfl rfl HN8.out (one_Elem _) (by unfold maxLen;omega) (by omega) ?_;intro v1 w9 hown1 hg1 hnil1 hat1;obtain ⟨A9,c9,rfl,hs9,hf9⟩:=HS8.out.more hown1 hg1 hat1;obtain ⟨ol,hol⟩ : ∃ol,ol=out ++ [y]:=⟨_,rfl⟩;rw [← hol] at hs9 ⊢;have HOL:=Lib.hid hol;have HS9:=Lib.hid hs9;have HF9:=Lib.hid hf9;clear hown1 hg1 hnil1 hat1 hs9 hf9 hol))
         have HK9:=Lib.hid (show Blk w9 wr.heap.size 55 #[.int .i64 y.id.kind,.string y.id.text,.int .i64 y.id.n,.int .i64 y.attr.kind,.string y.attr.text,.int .i64 y.attr.n,.int .i64 y.value.kind,.string y.value.text,.int .i64 y.value.n,.bool y.acc,.bool y.goal,.int .i64 y.tag] from HK8.out.fr HF9.out (fun ⟨a,ha,e⟩=>by have h1:=ain_lt HS.out.oo a ha;omega))
         have HP1:=Lib.hid (nput_is y.id w9 HS9.out.nm (by omega))
         have k0:w9.cell? ⟨wr.heap.size,0,none⟩=some (.int .i64 y.id.kind):=(HK9.out.cell 0).trans rfl
         have k1:w9.cell? ⟨wr.heap.size,1,none⟩=some (.string y.id.text):=(HK9.out.cell 1).trans rfl
         have k2:w9.cell? ⟨wr.heap.size,2,none⟩=some (.int .i64 y.id.n):=(HK9.out.cell 2).trans rfl
         have kz:=HK9.out.lt
         go_wp2_with fail
         refine HP1.out.mono ?_
         rintro e w10 ⟨rfl,hp10⟩
         have HK10:=Lib.hid (show Blk w10 wr.heap.size 55 #[.int .i64 y.id.kind,.string y.id.text,.int .i64 y.id.n,.int .i64 y.attr.kind,.string y.attr.text,.int .i64 y.attr.n,.int .i64 y.value.kind,.string y.value.text,.int .i64 y.value.n,.bool y.acc,.bool y.goal,.int .i64 y.tag] by
          obtain ⟨_,_,_,_,hf⟩:=hp10
          exact HK9.out.fr hf HDX.out)
         obtain ⟨D2,hs10⟩:=HS9.out.put hp10
         have HS10:=Lib.hid hs10
         clear hp10 hs10 k0 k1 k2 kz
         have k6:w10.cell? ⟨wr.heap.size,6,none⟩=some (.int .i64 y.value.kind):=(HK10.out.cell 6).trans rfl
         have k7:w10.cell? ⟨wr.heap.size,7,none⟩=some (.string y.value.text):=(HK10.out.cell 7).trans rfl
         have k8:w10.cell? ⟨wr.heap.size,8,none⟩=some (.int .i64 y.value.n):=(HK10.out.cell 8).trans rfl
         have kz:=HK10.out.lt
         have HLL:=Lib.hid (show lk.length+1=left.length by rw [HLK.out];exact erase_len HYI.out)
         have HOO:=Lib.hid (show ol.length=out.length+1 by rw [HOL.out];simp)
         have HNX:=Lib.hid (show ∀nn,nn=namesE ns y→lk.length+ol.length≤300∧nn.length≤2*ol.length∧laidV lk.length nn lk ol=orderV l from fun nn hnn=>by
          have h1:=HLL.out
          have h2:=HOO.out
          have h3:=namesE_len ns y
          refine ⟨by omega,by rw [hnn];omega,?_⟩
          rw [← HLV.out,show left.length=lk.length+1 from h1.symm,laidV_step HBS.out HYI.out,hnn,HLK.out,HOL.out])
         have hpl:=putN_len ns y.id
         by_cases hv1:y.value.kind=1
         · have HP2:=Lib.hid (nput_is y.value w10 HS10.out.nm (by omega))
           have HNE:=Lib.hid (HNX.out (putN (putN ns y.id) y.value) (by rw [namesE,if_pos hv1]))
           have e1:(y.value.kind == 1)=true:=by simp [hv1]
           have e2:decide (y.value.kind=1)=true:=by simp [hv1]
           clear hv1
           go_wp2_with fail
           refine HP2.out.mono ?_
           rintro e w11 ⟨rfl,hp11⟩
           obtain ⟨D3,hs11⟩:=HS10.out.put hp11
           have HS11:=Lib.hid hs11
           clear hp11 hs11 k6 k7 k8 kz
           go_wp2_with fail
           go_roundw
           case rel=>exact ⟨lk,ol,_,A7,c7,A9,c9,D3,rfl,rfl,HS11.out,HNE.out⟩
           case measure=>have:=HLL.out;show lk.length<left.length;omega
         · have HNE:=Lib.hid (HNX.out (putN ns y.id) (by rw [namesE,if_neg hv1]))
           have e1:(y.value.kind == 1)=false:=by simp [hv1]
           have e2:decide (y.value.kind=1)=false:=by simp [hv1]
           go_wp2_with fail
           go_roundw
           case rel=>exact ⟨lk,ol,_,A7,c7,A9,c9,D2,rfl,rfl,HS10.out,HNE.out⟩
           case measure=>have:=HLL.out;show lk.length<left.length;omega
end Go.Proofs.YtldndkngpdfpfaaGreat
namespace Go.Proofs.YtldndkngpdfpfaaGreat
open Go.RowKit
def smallB (c:UInt8):Bool:=decide (97≤c.toNat) && decide (c.toNat≤122)
def greatB (c:UInt8):Bool:=decide (65≤c.toNat) && decide (c.toNat≤90)
def digitB (c:UInt8):Bool:=decide (48≤c.toNat) && decide (c.toNat≤57)
def partB (c:UInt8):Bool:=smallB c || digitB c || c.toNat == 45 || c.toNat == 95
def isWord (t:ByteArray):Bool:=decide (1≤t.size) && decide (t.size≤32) && t.data.toList.head?.any smallB && t.data.toList.all partB
theorem isWord_iff {t:ByteArray}:isWord t=true↔∃h:0<t.size,t.size≤32∧smallB t[0]=true∧∀k,(h:k<t.size)→partB t[k]=true:=by
 unfold isWord
 rw [Bool.and_eq_true,Bool.and_eq_true,Bool.and_eq_true,decide_eq_true_iff,decide_eq_true_iff,List.all_eq_true]
 have hs:t.data.toList.length=t.size:=Array.length_toList
 constructor
 · rintro ⟨⟨⟨h1,h2⟩,h3⟩,h4⟩
   refine ⟨h1,h2,?_,fun k h=>h4 _ ?_⟩
   · rw [List.head?_eq_getElem?,List.getElem?_eq_getElem (by omega)] at h3
     exact (by simpa only [Option.any_some,Array.getElem_toList] using h3:smallB t.data[0]=true)
   · have:t[k]=t.data.toList[k]'(by omega):=by rw [Array.getElem_toList];rfl
     rw [this];exact List.getElem_mem _
 · rintro ⟨h1,h2,h3,h4⟩
   refine ⟨⟨⟨h1,h2⟩,?_⟩,fun x hx=>?_⟩
   · rw [List.head?_eq_getElem?,List.getElem?_eq_getElem (by omega)]
     rw [Option.any_some,Array.getElem_toList]
     exact h3
   · obtain ⟨k,hk,rfl⟩:=List.getElem_of_mem hx
     have:=h4 k (by omega)
     rw [Array.getElem_toList]
     exact this
theorem isWord_no {t:ByteArray} (h : ¬∃h:0<t.size,t.size≤32∧smallB t[0]=true∧∀k,(h:k<t.size)→partB t[k]=true):isWord t=false:=by
 cases e:isWord t
 · rfl
 · exact absurd (isWord_iff.1 e) h
set_option maxHeartbeats 400000 in
theorem small_is (c:UInt8) (w:World):Calls Tryz.prog 191 #[.int .u8 (c.toNat:Int)] w fun e w'=>e = .returned (.bool (smallB c))∧w=w':=by
 by_cases h1:97≤c.toNat
 · have t1:decide ((97:Int)≤(c.toNat:Int))=true:=by simp;omega
   by_cases h2:c.toNat≤122
   · have t2:decide ((c.toNat:Int)≤122)=true:=by simp;omega
     have HF:Hid (smallB c=true):=by simp [Hid,smallB,h1,h2]
     clear h1 h2
     go_enter Tryz.func191,Tryz.ntmps191
     go_wp2
     go_ret
     exact ⟨by rw [HF.out];rfl,rfl⟩
   · have t2:decide ((c.toNat:Int)≤122)=false:=by simp;omega
     have HF:Hid (smallB c=false):=by simp [Hid,smallB,h2]
     clear h1 h2
     go_enter Tryz.func191,Tryz.ntmps191
     go_wp2
     go_ret
     exact ⟨by rw [HF.out];rfl,rfl⟩
 · have t1:decide ((97:Int)≤(c.toNat:Int))=false:=by simp;omega
   have HF:Hid (smallB c=false):=by simp [Hid,smallB,h1]
   clear h1
   go_enter Tryz.func191,Tryz.ntmps191
   go_wp2
   go_ret
   exact ⟨by rw [HF.out];rfl,rfl⟩
set_option maxHeartbeats 400000 in
theorem great_is (c:UInt8) (w:World):Calls Tryz.prog 253 #[.int .u8 (c.toNat:Int)] w fun e w'=>e = .returned (.bool (greatB c))∧w=w':=by
 by_cases h1:65≤c.toNat
 · have t1:decide ((65:Int)≤(c.toNat:Int))=true:=by simp;omega
   by_cases h2:c.toNat≤90
   · have t2:decide ((c.toNat:Int)≤90)=true:=by simp;omega
     have HF:Hid (greatB c=true):=by simp [Hid,greatB,h1,h2]
     clear h1 h2
     go_enter Tryz.func253,Tryz.ntmps253
     go_wp2
     go_ret
     exact ⟨by rw [HF.out];rfl,rfl⟩
   · have t2:decide ((c.toNat:Int)≤90)=false:=by simp;omega
     have HF:Hid (greatB c=false):=by simp [Hid,greatB,h2]
     clear h1 h2
     go_enter Tryz.func253,Tryz.ntmps253
     go_wp2
     go_ret
     exact ⟨by rw [HF.out];rfl,rfl⟩
 · have t1:decide ((65:Int)≤(c.toNat:Int))=false:=by simp;omega
   have HF:Hid (greatB c=false):=by simp [Hid,greatB,h1]
   clear h1
   go_enter Tryz.func253,Tryz.ntmps253
   go_wp2
   go_ret
   exact ⟨by rw [HF.out];rfl,rfl⟩
set_option maxHeartbeats 400000 in
theorem digit_is (c:UInt8) (w:World):Calls Tryz.prog 192 #[.int .u8 (c.toNat:Int)] w fun e w'=>e = .returned (.bool (digitB c))∧w=w':=by
 by_cases h1:48≤c.toNat
 · have t1:decide ((48:Int)≤(c.toNat:Int))=true:=by simp;omega
   by_cases h2:c.toNat≤57
   · have t2:decide ((c.toNat:Int)≤57)=true:=by simp;omega
     have HF:Hid (digitB c=true):=by simp [Hid,digitB,h1,h2]
     clear h1 h2
     go_enter Tryz.func192,Tryz.ntmps192
     go_wp2
     go_ret
     exact ⟨by rw [HF.out];rfl,rfl⟩
   · have t2:decide ((c.toNat:Int)≤57)=false:=by simp;omega
     have HF:Hid (digitB c=false):=by simp [Hid,digitB,h2]
     clear h1 h2
     go_enter Tryz.func192,Tryz.ntmps192
     go_wp2
     go_ret
     exact ⟨by rw [HF.out];rfl,rfl⟩
 · have t1:decide ((48:Int)≤(c.toNat:Int))=false:=by simp;omega
   have HF:Hid (digitB c=false):=by simp [Hid,digitB,h1]
   clear h1
   go_enter Tryz.func192,Tryz.ntmps192
   go_wp2
   go_ret
   exact ⟨by rw [HF.out];rfl,rfl⟩
set_option maxRecDepth 100000 in
set_option maxHeartbeats 2000000 in
theorem word_is (t:ByteArray) (w:World):Calls Tryz.prog 154 #[.string t] w fun e w'=>e = .returned (.bool (isWord t))∧w=w':=by
 by_cases h1:t.size<1
 · have t1:decide ((t.size:Int)<1)=true:=by simp;omega
   have HF:=Lib.hid (isWord_no (t:=t) (fun ⟨h,_⟩=>by omega))
   clear h1
   go_enter Tryz.func154,Tryz.ntmps154
   go_wp2
   go_ret
   exact ⟨by rw [HF.out];rfl,rfl⟩
 have t1:decide ((t.size:Int)<1)=false:=by simp;omega
 by_cases h2:32<t.size
 · have t2:decide ((32:Int)<(t.size:Int))=true:=by simp;omega
   have HF:=Lib.hid (isWord_no (t:=t) (fun ⟨h,h3,_⟩=>by omega))
   clear h1 h2
   go_enter Tryz.func154,Tryz.ntmps154
   go_wp2
   go_ret
   exact ⟨by rw [HF.out];rfl,rfl⟩
 have t2:decide ((32:Int)<(t.size:Int))=false:=by simp;omega
 have h0:0<t.size:=by omega
 have h32:t.size≤32:=by omega
 clear h1 h2
 cases h3:smallB t[0]
 · have HF:=Lib.hid (isWord_no (t:=t) (fun ⟨h,_,h4,_⟩=>by rw [h3] at h4;cases h4))
   go_enter Tryz.func154,Tryz.ntmps154
   go_wp2_with (go_at_call 191;refine (small_is _ _).mono ?_;rintro e w' ⟨rfl,rfl⟩)
   go_ret
   exact ⟨by rw [HF.out];rfl,rfl⟩
 go_enter Tryz.func154,Tryz.ntmps154
 go_wp2_with (go_at_call 191;refine (small_is _ _).mono ?_;rintro e w' ⟨rfl,rfl⟩)
 have H3:=Lib.hid h3
 clear h3 t1 t2
 go_loop [3] (fun s=>∃i:Nat,s = .int .i64 i∧1≤i∧i≤t.size∧∀k,(h:k<t.size)→k<i→partB t[k]=true) (fun s=>t.size - (intOf s).toNat)
 case atStart=>exact ⟨1,rfl,Nat.le_refl _,h0,fun k h hk=>by obtain rfl:k=0:=by omega
                                                            simp [partB,H3.out]⟩
 case round=>
  obtain ⟨i,rfl,hi1,hi,hall⟩:=hrel
  have HALL:=Lib.hid hall
  clear hall
  by_cases hlt:i<t.size
  · have HP:Hid (partB t[i]=(smallB t[i] || digitB t[i] || decide (t[i].toNat=45) || decide (t[i].toNat=95))):=rfl
    have t5:((t[i].toNat:Int) != 45) = !decide (t[i].toNat=45):=by rw [Bool.eq_iff_iff];simp;omega
    have t6:((t[i].toNat:Int) != 95) = !decide (t[i].toNat=95):=by rw [Bool.eq_iff_iff];simp;omega
    cases hs:smallB t[i]<;>cases hd:digitB t[i]<;>cases h5:decide (t[i].toNat=45)<;>cases h6:decide (t[i].toNat=95)
    all_goals
     rw [h5] at t5;rw [h6] at t6
     simp only [Bool.not_true,Bool.not_false] at t5 t6
     have HF1:=HP.out
     rw [hs,hd,h5,h6] at HF1
     have HF2:=Lib.hid HF1
     clear h5 h6 HP HF1
     go_wp2_with (first | (go_at_call 191;refine (small_is _ _).mono ?_;rintro e w' ⟨rfl,rfl⟩) | (go_at_call 192;refine (digit_is _ _).mono ?_;rintro e w' ⟨rfl,rfl⟩))
     first
      | (go_ret
         refine ⟨?_,rfl⟩
         rw [isWord_no (t:=t) (fun ⟨_,_,_,h⟩=>by have h2:=h i hlt;rw [HF2.out] at h2;exact absurd h2 (by decide))];rfl)
      | (go_round
         case rel=>exact ⟨i+1,by go_num,by omega,by omega,fun k h hk=>by
          rcases Nat.lt_or_ge k i with h3 | h3
          · exact HALL.out k h h3
          · obtain rfl:k=i:=by omega
            rw [HF2.out];rfl⟩
         case measure=>simp [intOf]<;>omega)
  · have hie:i=t.size:=by omega
    subst hie
    go_wp2
    go_ret
    exact ⟨by rw [isWord_iff.2 ⟨h0,h32,H3.out,fun k h=>HALL.out k h h⟩];rfl,rfl⟩
end Go.Proofs.YtldndkngpdfpfaaGreat
namespace Go.Proofs.YtldndkngpdfpfaaGreat
open Go.RowKit
def byte1 (n:Nat):ByteArray:=⟨#[UInt8.ofNat (48+n)]⟩
theorem conv1 (n:Nat) (h:n<10) (W:World) (g:Nat) (hc:W.cell? ⟨g,0,none⟩=some (.int .u8 (48+(n:Int)))):(convert 118 9 (.slice (some ⟨g,0,none⟩) 1 1)).run Tryz.prog W = .ok (.string (byte1 n)) W:=
 Lib.run_convert_whole (P:=Tryz.prog) W 118 5 9 Tryz.underlying118 Tryz.underlying5 Tryz.underlying9 g 0 (byte1 n) (fun i hi=>by
  have:i=0:=by have:(byte1 n).size=1:=rfl;omega
  subst this
  rw [Nat.add_zero,hc]
  have e:(byte1 n)[0].toNat=48+n:=by show (UInt8.ofNat (48+n)).toNat=48+n;simp;omega
  rw [e]
  simp) 1
def decB (n:Nat):ByteArray:=if n<10 then byte1 n else decB (n / 10)++byte1 (n % 10)
theorem byte1_size (n:Nat):(byte1 n).size=1:=rfl
end Go.Proofs.YtldndkngpdfpfaaGreat
namespace Go.Proofs.YtldndkngpdfpfaaGreat
open Go.RowKit
def headB (f:UInt8→Bool) (t:ByteArray):Bool:=t.data.toList.head?.any f
theorem headB_eq {f:UInt8→Bool} {t:ByteArray} (h:0<t.size):headB f t=f t[0]:=by
 have hs:t.data.toList.length=t.size:=Array.length_toList
 unfold headB
 rw [List.head?_eq_getElem?,List.getElem?_eq_getElem (by omega),Option.any_some,Array.getElem_toList]
 rfl
def validB (s:Sym):Bool:=
 if s.kind=1 then decide (s.text.size=1) && headB greatB s.text && decide (1≤s.n) && decide (s.n≤1048576)
 else if s.kind=2 then decide (s.text.toList = []) && decide (-2147483647≤s.n) && decide (s.n≤2147483647)
 else if s.kind=3 then decide (s.n=0) && isWord s.text else false
theorem ret_bool {a b:Bool} (h:a=b):Ending.returned (.bool a) = .returned (.bool b):=by rw [h]
set_option maxRecDepth 100000 in
set_option maxHeartbeats 4000000 in
theorem valid_is (s:Sym) (w:World):Calls Tryz.prog 242 #[.agg #[.int .i64 s.kind,.string s.text,.int .i64 s.n]] w fun e w'=>e = .returned (.bool (validB s))∧Below w.heap.size w w':=by
 obtain ⟨k,t,n⟩:=s
 dsimp only
 by_cases k1:k=1
 · subst k1
   by_cases a1:t.size=1
   · have h0:0<t.size:=by omega
     have t1:((t.size:Int) == 1)=true:=by simp;omega
     have HV:=Lib.hid (show validB ⟨1,t,n⟩=(greatB t[0] && decide (1≤n) && decide (n≤1048576)) by simp [validB,a1,headB_eq h0])
     go_enter Tryz.func242,Tryz.ntmps242
     go_wp2_with (go_at_call 253;refine (great_is _ _).mono ?_;rintro e w' ⟨rfl,rfl⟩)
     all_goals
      go_ret
      refine ⟨?_,(Below.refl _ _).alloc (Nat.le_refl _) _⟩
      rw [HV.out]
      first | rfl | (refine ret_bool ?_;simp_all;done) | (refine ret_bool ?_;simp_all;omega) | (refine ret_bool ?_;simp_all [greatB];done) | (refine ret_bool ?_;simp_all [greatB];omega)
   · have t1:((t.size:Int) == 1)=false:=by simp;omega
     have HV:=Lib.hid (show validB ⟨1,t,n⟩=false by simp [validB,a1])
     go_enter Tryz.func242,Tryz.ntmps242
     go_wp2_with fail
     all_goals
      go_ret
      refine ⟨?_,(Below.refl _ _).alloc (Nat.le_refl _) _⟩
      rw [HV.out]
      rfl
 · by_cases k2:k=2
   · subst k2
     have HV:=Lib.hid (show validB ⟨2,t,n⟩=(decide (t.toList = []) && decide (-2147483647≤n) && decide (n≤2147483647)) by simp [validB])
     clear k1
     go_enter Tryz.func242,Tryz.ntmps242
     go_wp2_with fail
     all_goals
      go_ret
      refine ⟨?_,(Below.refl _ _).alloc (Nat.le_refl _) _⟩
      rw [HV.out]
      first | rfl | (refine ret_bool ?_;simp_all;done) | (refine ret_bool ?_;simp_all;omega) | (refine ret_bool ?_;simp_all [greatB];done) | (refine ret_bool ?_;simp_all [greatB];omega)
   · by_cases k3:k=3
     · subst k3
       have HV:=Lib.hid (show validB ⟨3,t,n⟩=(decide (n=0) && isWord t) by simp [validB])
       clear k1 k2
       go_enter Tryz.func242,Tryz.ntmps242
       go_wp2_with (go_at_call 154;refine (word_is _ _).mono ?_;rintro e w' ⟨rfl,rfl⟩)
       all_goals
        go_ret
        refine ⟨?_,(Below.refl _ _).alloc (Nat.le_refl _) _⟩
        rw [HV.out]
        first | rfl | (refine ret_bool ?_;simp_all;done) | (refine ret_bool ?_;simp_all;omega) | (refine ret_bool ?_;simp_all [greatB];done) | (refine ret_bool ?_;simp_all [greatB];omega)
     · have HV:=Lib.hid (show validB ⟨k,t,n⟩=false by simp [validB,k1,k2,k3])
       have t1:(k == 1)=false:=by simp [k1]
       have t2:(k == 2)=false:=by simp [k2]
       have t3:(k == 3)=false:=by simp [k3]
       clear k1 k2 k3
       go_enter Tryz.func242,Tryz.ntmps242
       go_wp2_with fail
       all_goals
        go_ret
        refine ⟨?_,(Below.refl _ _).alloc (Nat.le_refl _) _⟩
        rw [HV.out]
        rfl
end Go.Proofs.YtldndkngpdfpfaaGreat
namespace Go.Proofs.YtldndkngpdfpfaaGreat
open Go.RowKit
theorem flat_set1 {α:Type} {cells:α→List Value} (hsz : ∀x,(cells x).length=1) (_h0:0<1) (l:List α) (k:Nat) (hk:k<l.length) (y:α) :
 setAll (l.flatMap cells) k (cells y)=(l.set k y).flatMap cells:=by
 have h:=flat_set hsz (by omega) l k hk y
 rwa [Nat.mul_one] at h
end Go.Proofs.YtldndkngpdfpfaaGreat
namespace Go.Proofs.YtldndkngpdfpfaaGreat
open Go.RowKit
abbrev Name:=ByteArray
def Name.cells (n:Name):List Value:=[.string n]
theorem Name.cells_length (n:Name):(Name.cells n).length=1:=rfl
def cmpName (a b:Name):Int:=cmpStr a b
theorem tc_name:TC cmpName:=tc_str
set_option maxHeartbeats 400000 in
theorem cmp_name (a b:Name) (w:World):Calls Tryz.prog 316 #[.string a,.string b] w fun e w'=>e = .returned (.int .i64 (cmpName a b))∧Below w.heap.size w w':=by
 go_enter Tryz.func316,Tryz.ntmps316
 go_wp2
 all_goals (go_ret;refine ⟨?_,Below.refl _ _⟩;unfold cmpName cmpStr;simp_all)
end Go.Proofs.YtldndkngpdfpfaaGreat
namespace Go.Proofs.YtldndkngpdfpfaaGreat
def zS:Sym:=⟨0,⟨#[]⟩,0⟩
def noneB (s:Sym):Bool:=decide (s=zS)
def emptyB (a:AtomT):Bool:=decide (a.var.toList = []) && noneB a.sym
def constB (s:Sym):Bool:=decide (s.kind≠1) && validB s
def testB (t:TestT):Bool:=
 if t.rel=8 then decide (t.var.toList = []) && noneB t.sym && decide (1≤t.list.length) && decide (t.list.length≤8) && t.list.all constB
 else if t.rel<1∨7<t.rel∨0<t.list.length then false
 else if t.var.toList = [] then constB t.sym else isWord t.var && noneB t.sym
def atomB (a:AtomT):Bool:=if a.var.toList = [] then constB a.sym else isWord a.var && noneB a.sym
def condE (c:CondT) (deep:Nat):Int:=
 if c.kind=3 then (if c.goal=true∨c.id.toList≠[]∨0<c.attr.length∨0<c.value.length∨c.acc=true∨c.conds.length=0 then 9 else if 3≤deep then 8 else 0)
 else if c.kind=1∨c.kind=2 then
  (if 0<c.conds.length∨isWord c.id=false∨c.attr.length=0 then 9 else if 4<c.attr.length∨4<c.value.length then 7 else if (c.attr.all testB && c.value.all testB)=false then 9 else 0)
 else 9
def wordAB (a:AtomT):Bool:=decide (a.var.toList = []) && decide (a.sym.kind=3)
def termB (t:TermT):Bool:=
 if t.op<0∨3<t.op∨atomB t.a=false then false
 else if t.op=0 then emptyB t.b else atomB t.b && !wordAB t.a && !wordAB t.b
def otherB (k:Int):Bool:=decide (k=8) || decide (k=9) || decide (k=10)
def actB (a:ActT):Bool:=
 if isWord a.id=false∨atomB a.attr=false∨termB a.value=false∨a.pref<1∨10<a.pref then false
 else if otherB a.pref=true then atomB a.other else emptyB a.other
def flatC:Nat→Nat→List CondT→List (Nat×CondT)
 | 0,_,_=>[]
 | n+1,d,l=>l.flatMap fun c=>(d,c) :: flatC n (d+1) c.conds
def shapeP (n:Nat) (p:ProdT):Int×Int:=
 if isWord p.name=false then (-1,2)
 else if (flatC n 0 p.conds).length<1∨16<(flatC n 0 p.conds).length∨p.acts.length<1∨16<p.acts.length then (-1,7)
 else match (flatC n 0 p.conds).findIdx? (fun c=>decide (condE c.2 c.1≠0)) with
  | some k=>(k,(((flatC n 0 p.conds)[k]?).map fun c=>condE c.2 c.1).getD 0)
  | none=>match p.acts.findIdx? (fun a=>!actB a) with
    | some i=>((flatC n 0 p.conds).length+i,9)
    | none=>(-1,0)
abbrev Kn:=List ByteArray×List ByteArray
def metK (k:Kn) (v:ByteArray):Kn:=(put cmpName k.1 v,if has cmpName k.1 v=true then k.2 else k.2 ++ [v])
def hasK (k:Kn) (v:ByteArray):Bool:=has cmpName k.1 v
def fieldK:Kn→List TestT→Bool×Kn
 | k,[]=>(true,k)
 | k,t :: l=>if t.rel=8∨t.var.toList = [] then fieldK k l else if t.rel=1 then fieldK (metK k t.var) l else if hasK k t.var=true then fieldK k l else (false,k)
def oneK (k:Kn) (c:CondT):Bool×Kn:=
 let k1:=if c.goal=true then metK k c.id else k
 if hasK k1 c.id=true then (match fieldK k1 c.attr with | (true,k2)=>fieldK k2 c.value | (false,k2)=>(false,k2)) else (false,k1)
def condsK:Nat→Kn→List CondT→Int→Bool×Int×Kn
 | 0,k,_,at_=>(true,at_,k)
 | _+1,k,[],at_=>(true,at_,k)
 | n+1,k,c :: l,at_=>
   if c.kind=3 then
    (match condsK n (k.1,[]) c.conds (at_+1) with
      | (true,a2,_)=>condsK (n+1) k l a2
      | (false,a2,_)=>(false,a2,k))
   else
    (match oneK (if c.kind=1 then k else (k.1,[])) c with
      | (true,k2)=>condsK (n+1) (if c.kind=1 then k2 else k) l (at_+1)
      | (false,_)=>(false,at_,k))
termination_by n _ l _=>(n,l.length)
def lacksB (k:Kn) (a:AtomT):Bool:=decide (a.var.toList≠[]) && !hasK k a.var
def actV (k:Kn) (a:ActT):Bool:=lacksB k a.attr || (decide (a.value.op≠0) && (lacksB k a.value.a || lacksB k a.value.b))
def checkP (n:Nat) (p:ProdT):Int×Int×List ByteArray:=
 if (shapeP n p).2≠0 then ((shapeP n p).1,(shapeP n p).2,[])
 else if (p.conds.head?.map CondT.kind).getD 0≠1 then (0,9,[])
 else match condsK n ([],[]) p.conds 0 with
  | (false,a,_)=>(a,6,[])
  | (true,a,k)=>match p.acts.findIdx? (actV k) with
    | some i=>(a+i,6,[])
    | none=>(-1,0,k.2)
end Go.Proofs.YtldndkngpdfpfaaGreat
namespace Go.Proofs.YtldndkngpdfpfaaGreat
def decF:Nat→Nat→ByteArray
 | 0,n=>byte1 n
 | f+1,n=>if n<10 then byte1 n else decF f (n / 10)++byte1 (n % 10)
theorem decF_is : ∀(f n:Nat),n<10 ^ (f+1)→decF f n=decB n
 | 0,n,h=>by rw [decB,if_pos (by simpa using h)];rfl
 | f+1,n,h=>by
   rw [decF,decB]
   split
   · rfl
   · rw [decF_is f (n / 10)]
     rw [Nat.div_lt_iff_lt_mul (by decide)]
     rw [Nat.pow_succ] at h
     exact h
theorem decB_pow : ∀(k n:Nat),n<10 ^ (k+1)→(decB n).size≤k+1
 | 0,n,h=>by rw [decB,if_pos (by simpa using h)];exact Nat.le_refl _
 | k+1,n,h=>by
   rw [decB]
   split
   · rw [byte1_size];omega
   · have h2:n / 10<10 ^ (k+1):=by
      rw [Nat.div_lt_iff_lt_mul (by decide)]
      rw [Nat.pow_succ] at h
      exact h
     have:=decB_pow k (n / 10) h2
     rw [ByteArray.size_append,byte1_size]
     omega
theorem decB_long {n:Nat} (h:n<9223372036854775808):(decB n).size≤19:=decB_pow 18 n (Nat.lt_of_lt_of_le h (by decide))
theorem decF_long {n:Nat} (h:n<9223372036854775808):decF 18 n=decB n:=decF_is 18 n (Nat.lt_of_lt_of_le h (by decide))
def letV (s:Sym):Option UInt8:=if s.kind=1∧s.text.size=1∧65≤(s.text.toList[0]!).toNat∧(s.text.toList[0]!).toNat≤90 then some s.text.toList[0]! else none
def nameV (s:Sym) (n:Int):ByteArray:=if n<1 then ⟨#[]⟩ else match letV s with
 | none=>⟨#[]⟩
 | some c=>⟨#[c - 65+97]⟩++decF 18 n.toNat
def symZ:Sym:=⟨0,⟨#[]⟩,0⟩
def atomZ:AtomT:=⟨⟨#[]⟩,symZ⟩
def testV (ns:List Sym) (rel:Int) (s:Sym):TestT:=if s.kind=1 then ⟨rel,nameV s (plV ns s),symZ,[]⟩ else ⟨rel,⟨#[]⟩,s,[]⟩
def posV (ns:List Sym) (e:Elem):CondT:=.mk 1 e.goal (nameV e.id (plV ns e.id)) [⟨1,⟨#[]⟩,e.attr,[]⟩] [testV ns 1 e.value] e.acc []
def atomV (old:Sym→Bool) (ns:List Sym) (s:Sym):Option (AtomT×List Sym):=
 if s.kind≠1 then some (⟨⟨#[]⟩,s⟩,ns)
 else if plV ns s=0∧old s=true then none
 else some (⟨nameV s (plV (putN ns s) s),symZ⟩,putN ns s)
def actV3 (old:Sym→Bool) (ns:List Sym) (p:PrefT):Option (ActT×List Sym):=
 match atomV old ns p.id with
 | none=>none
 | some (i,n1)=>match atomV old n1 p.value with
   | none=>none
   | some (v,n2)=>match atomV old n2 p.other with
     | none=>none
     | some (o,n3)=>some (⟨i.var,⟨⟨#[]⟩,p.attr⟩,⟨0,v,atomZ⟩,p.kind,o⟩,n3)
instance:DecidableEq AtomT:=fun a b=>decidable_of_iff (a.var=b.var∧a.sym=b.sym) ⟨fun ⟨h1,h2⟩=>by cases a;cases b;simp_all,fun h=>by subst h;exact ⟨rfl,rfl⟩⟩
instance:DecidableEq TermT:=fun a b=>decidable_of_iff (a.op=b.op∧a.a=b.a∧a.b=b.b) ⟨fun ⟨h1,h2,h3⟩=>by cases a;cases b;simp_all,fun h=>by subst h;exact ⟨rfl,rfl,rfl⟩⟩
instance:DecidableEq ActT:=fun a b=>decidable_of_iff (a.id=b.id∧a.attr=b.attr∧a.value=b.value∧a.pref=b.pref∧a.other=b.other) ⟨fun ⟨h1,h2,h3,h4,h5⟩=>by cases a;cases b;simp_all,fun h=>by subst h;exact ⟨rfl,rfl,rfl,rfl,rfl⟩⟩
def addA (acts:List ActT) (a:ActT):List ActT:=if a∈acts then acts else acts ++ [a]
def actsV3 (old:Sym→Bool):List PrefT→List Sym→List ActT→Option (List ActT×List Sym)
 | [],ns,acts=>some (acts,ns)
 | p :: l,ns,acts=>match actV3 old ns p with
   | none=>none
   | some (a,n)=>actsV3 old l n (addA acts a)
def prodW (m:Nat) (name:ByteArray) (cs:List CondT) (tags:List Int) (old:Sym→Bool) (ns:List Sym) (l:List PrefT):Option (ProdT×List Int):=
 match actsV3 old l ns [] with
 | none=>none
 | some (acts,_)=>if (checkP m ⟨name,cs,acts⟩).2.1=0 then some (⟨name,cs,acts⟩,tags) else none
def prodV (m:Nat) (name:ByteArray) (es:List Elem) (old:Sym→Bool) (news:List Sym) (l:List PrefT):Option (ProdT×List Int):=
 match orderV es with
 | none=>none
 | some (o,ns)=>if o = [] then none else if (news.any fun s=>!decide (plV ns s=0))=true then none
   else prodW m name (o.map (posV ns)) (o.map Elem.tag) old ns l
theorem condsK_oneV (n:Nat) (k k2:Kn) (c:CondT) (l:List CondT) (at_:Int) (h:c.kind=1) (h2:oneK k c=(true,k2)):condsK (n+1) k (c :: l) at_=condsK (n+1) k2 l (at_+1):=by
 rw [condsK,if_neg (by omega),if_pos h,h2]
 simp only [if_pos h]
theorem checkP_V {n:Nat} {p:ProdT} {c:CondT} {l:List CondT} {k1 k2:Kn} {at_:Int} (h0:(shapeP (n+1) p).2=0) (hc:p.conds=c :: l) (hk:c.kind=1) (h1:oneK ([],[]) c=(true,k1)) (h2:condsK (n+1) k1 l 1=(true,at_,k2)) (h3:p.acts.findIdx? (actV k2)=none):(checkP (n+1) p).2.1=0:=by
 unfold checkP
 rw [if_neg (by rw [h0];simp),hc,if_neg (by simp [hk]),condsK_oneV n _ k1 c l 0 hk h1,show (0:Int)+1=1 from rfl,h2]
 simp only [h3]
theorem condsK_nilV (n:Nat) (k:Kn) (at_:Int):condsK (n+1) k [] at_=(true,at_,k):=by rw [condsK]
def sSym:Sym:=⟨1,⟨#[83]⟩,1⟩
def aSym:Sym:=⟨1,⟨#[65]⟩,1⟩
def wSym (c:UInt8):Sym:=⟨3,⟨#[c]⟩,0⟩
def e22a:Elem:=⟨sSym,wSym 120,aSym,false,true,1⟩
def e22b:Elem:=⟨aSym,wSym 121,⟨2,⟨#[]⟩,3⟩,false,false,2⟩
def p22:PrefT:=⟨aSym,wSym 122,sSym,symZ,1,false,2,1⟩
def c22a:CondT:=.mk 1 true ⟨#[115,49]⟩ [⟨1,⟨#[]⟩,wSym 120,[]⟩] [⟨1,⟨#[97,50]⟩,symZ,[]⟩] false []
def c22b:CondT:=.mk 1 false ⟨#[97,50]⟩ [⟨1,⟨#[]⟩,wSym 121,[]⟩] [⟨1,⟨#[]⟩,⟨2,⟨#[]⟩,3⟩,[]⟩] false []
def a22:ActT:=⟨⟨#[97,50]⟩,⟨⟨#[]⟩,wSym 122⟩,⟨0,⟨⟨#[115,49]⟩,symZ⟩,atomZ⟩,1,atomZ⟩
theorem wk22_order:orderV [e22a,e22b]=some ([e22a,e22b],[sSym,aSym]):=by kernel_rfl
theorem wk22_conds : [e22a,e22b].map (posV [sSym,aSym]) = [c22a,c22b]:=by kernel_rfl
theorem wk22_acts:actsV3 (fun _=>false) [p22] [sSym,aSym] []=some ([a22],[sSym,aSym]):=by kernel_rfl
theorem wk22_check:(checkP 1 ⟨⟨#[99]⟩,[c22a,c22b],[a22]⟩).2.1=0:=
 checkP_V (n:=0) (c:=c22a) (l:=[c22b]) (k1:=(oneK ([],[]) c22a).2) (k2:=(oneK (oneK ([],[]) c22a).2 c22b).2) (at_:=2) (by kernel_rfl) rfl rfl (by kernel_rfl)
  (by rw [condsK_oneV 0 _ (oneK (oneK ([],[]) c22a).2 c22b).2 c22b [] 1 rfl (by kernel_rfl),condsK_nilV];rfl) (by kernel_rfl)
theorem wk22_prod:prodV 1 ⟨#[99]⟩ [e22a,e22b] (fun _=>false) [] [p22]=some (⟨⟨#[99]⟩,[c22a,c22b],[a22]⟩,[1,2]):=by
 unfold prodV
 rw [wk22_order]
 simp only
 rw [if_neg (by simp),if_neg (by simp),wk22_conds]
 unfold prodW
 rw [wk22_acts]
 simp only
 rw [if_pos wk22_check]
 rfl
end Go.Proofs.YtldndkngpdfpfaaGreat
