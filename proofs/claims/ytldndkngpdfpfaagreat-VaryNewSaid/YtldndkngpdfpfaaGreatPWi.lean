/-
  Texts put together: VaryN6, VaryC.
-/
import Derived.Test.YtldndkngpdfpfaaGreatPWg
import Derived.Test.YtldndkngpdfpfaaGreatPWh
import Derived.Test.YtldndkngpdfpfaaGreatPWd
import Derived.Maps.RangeWalk
namespace Go.Proofs.YtldndkngpdfpfaaGreat
open Go.RowKit Go.Shelf
attribute [local go_sem] Oper.semAt_some
set_option linter.unusedSimpArgs false
theorem bcellB {B:Nat} {W w1:World} (hb:Below B W w1):(∀b o,b<B→w1.cell? ⟨b,o,none⟩=W.cell? ⟨b,o,none⟩)∧(∀b o,b<B→w1.frozen? ⟨b,o,none⟩=W.frozen? ⟨b,o,none⟩):=
 ⟨fun b o h=>hb.cell (p:=⟨b,o,none⟩) h,fun b o h=>hb.frozen (p:=⟨b,o,none⟩) h⟩
def MK (w:World) (mb nb:Nat):Prop:=w.cell? ⟨mb,0,none⟩=some (.pointer (some ⟨nb,0,none⟩))∧mb<w.heap.size
theorem MK.new_ {w w':World} {mb nb:Nat} (h:MK w mb nb) (hb:Below w.heap.size w w'):MK w' mb nb:=⟨(hb.cell (p:=⟨mb,0,none⟩) h.2).trans h.1,Nat.lt_of_lt_of_le h.2 hb.size⟩
theorem MK.fr {M:Nat→Prop} {w w':World} {mb nb:Nat} (h:MK w mb nb) (hb:Fr M w w') (hm : ¬M mb):MK w' mb nb:=⟨(hb.cell (p:=⟨mb,0,none⟩) h.2 hm).trans h.1,Nat.lt_of_lt_of_le h.2 hb.size⟩
set_option maxRecDepth 100000 in
set_option maxHeartbeats 8000000 in
theorem mname_is {D:Nat→Prop} {nb mb:Nat} {ns:List Sym} (s:Sym) (w:World) (h:Nm D w nb ns) (hm:MK w mb nb) (hl:ns.length≤1000):Calls Tryz.prog 104 #[.pointer (some ⟨mb,0,none⟩),.agg #[.int .i64 s.kind,.string s.text,.int .i64 s.n]] w fun e w'=>e = .returned (.string (nameV s (plV ns s:Int)))∧Below w.heap.size w w':=by
 have HP:=Lib.hid (fun W (hW:Below w.heap.size w W)=>place_is s W (h.new_ hW) (by omega))
 have HV:=Lib.hid (show ∀W,Calls Tryz.prog 14 #[.agg #[.int .i64 s.kind,.string s.text,.int .i64 s.n],.int .i64 (plV ns s:Int)] W fun e w'=>e = .returned (.string (nameV s (plV ns s:Int)))∧Below W.heap.size W w' from fun W=>vname_is s _ (by have:=plV_le s ns;omega) W)
 obtain ⟨r,hr⟩ : ∃r,r=(plV ns s:Int):=⟨_,rfl⟩
 rw [← hr] at HP HV ⊢
 have HM:=Lib.hid hm
 obtain ⟨m0,mz⟩:=hm
 clear h hl hr
 go_enter Tryz.func104,Tryz.ntmps104
 go_upto_region 1 with fail
 obtain ⟨w1,hw1⟩ : ∃w1,w1=(w.alloc (.cells #[.int .i64 s.kind,.string s.text,.int .i64 s.n] 23)):=⟨_,rfl⟩
 rw [← hw1]
 have HB:=Lib.hid (show Below w.heap.size w w1 by rw [hw1];exact (by repeat (first | exact Below.refl _ _ | refine Below.drew ?_ | refine Below.al ?_ _ | refine Below.sc ?_ _)))
 have Kk:=Lib.hid (show Blk w1 (w.heap.size) 23 #[.int .i64 s.kind,.string s.text,.int .i64 s.n] by rw [hw1];exact (Blk.new w 23 #[.int .i64 s.kind,.string s.text,.int .i64 s.n]))
 clear hw1
 obtain ⟨k0,k1,k2⟩:=Kk.out.c3
 have kz:=Kk.out.lt
 have m1:=(HM.out.new_ HB.out).1
 have mz1:=(HM.out.new_ HB.out).2
 clear m0 mz
 refine wp_region_E (fun w9=>Below w1.heap.size w1 w9) [(0,1),(1,0),(2,0),(3,0),(4,1),(5,1),(6,2),(7,2),(8,0)] (by kernel_rfl) (by kernel_rfl) (fun KK hKK=>?_)
 simp only [beside,List.filterMap_cons,List.filterMap_nil,List.getElem?_toArray,List.getElem?_cons_zero,List.getElem?_cons_succ,Option.map_some]
 repeat ((first | (refine wpX_w ?_ (Or.inl ⟨by rfl,fun w9=>?_⟩) ?_;rotate_left 1;go_simp;with_reducible rfl) | (refine wpX_l ?_ (((Below.refl _ _).drew)) (Or.inl ⟨by rfl,fun w9 hw9=>?_⟩) ?_;rotate_left 1;obtain ⟨hc9,hf9⟩:=bcell hw9;go_simp;with_reducible rfl) | refine wpX_w undef (Or.inr ⟨by rfl,rfl⟩) ?_ | refine wpX_l undef (((Below.refl _ _).drew)) (Or.inr ⟨by rfl,rfl⟩) ?_);go_frame)
 refine wpX_es (fun K9 hK9=>?_)
 go_simp
 refine (HP.out _ (HB.out.trans (((Below.refl w1.heap.size w1).drew).mono HB.out.size))).mono ?_
 rintro e w5 ⟨rfl,hb5⟩
 have HB5:=Lib.hid (((Below.refl w1.heap.size w1).drew).trans (hb5.mono (by simp)))
 clear hb5
 refine hK9 _ _ HB5.out ?_
 clear hK9 K9
 refine wpX_e (by kernel_rfl) (fun K9 hK9=>?_)
 go_simp
 refine (HV.out _).mono ?_
 rintro e w6 ⟨rfl,hb6⟩
 have HB6:=Lib.hid (HB5.out.trans (hb6.mono HB5.out.size))
 clear hb6
 refine hK9 _ _ ?_
 clear hK9 K9
 repeat ((first | (refine wpX_w ?_ (Or.inl ⟨by rfl,fun w9=>?_⟩) ?_;rotate_left 1;go_simp;with_reducible rfl) | (refine wpX_l ?_ (HB5.out) (Or.inl ⟨by rfl,fun w9 hw9=>?_⟩) ?_;rotate_left 1;obtain ⟨hc9,hf9⟩:=bcell hw9;go_simp;with_reducible rfl) | refine wpX_w undef (Or.inr ⟨by rfl,rfl⟩) ?_ | refine wpX_l undef (HB5.out) (Or.inr ⟨by rfl,rfl⟩) ?_);go_frame)
 refine wpX_nil ?_
 simp only [OnlyN_normal]
 refine hKK _ _ ?_
 clear hKK KK
 clear k0 k1 k2 m1
 go_wp2_with fail
 go_ret
 exact ⟨rfl,HB.out.trans (HB6.out.mono HB.out.size)⟩
set_option maxRecDepth 100000 in
set_option maxHeartbeats 8000000 in
theorem mtest_is {D:Nat→Prop} {nb mb:Nat} {ns:List Sym} (rel:Int) (s:Sym) (w:World) (h:Nm D w nb ns) (hm:MK w mb nb) (hl:ns.length≤1000):Calls Tryz.prog 105 #[.pointer (some ⟨mb,0,none⟩),.int .i64 rel,.agg #[.int .i64 s.kind,.string s.text,.int .i64 s.n]] w fun e w'=>e = .returned (.agg #[.int .i64 (testV ns rel s).rel,.string (testV ns rel s).var,.int .i64 (testV ns rel s).sym.kind,.string (testV ns rel s).sym.text,.int .i64 (testV ns rel s).sym.n,.slice none 0 0])∧Below w.heap.size w w':=by
 obtain ⟨t,ht⟩ : ∃t,t=testV ns rel s:=⟨_,rfl⟩
 rw [← ht]
 have HV:=Lib.hid (show ∀W,Below w.heap.size w W→Calls Tryz.prog 104 #[.pointer (some ⟨mb,0,none⟩),.agg #[.int .i64 s.kind,.string s.text,.int .i64 s.n]] W fun e w'=>e = .returned (.string (nameV s (plV ns s:Int)))∧Below W.heap.size W w' from fun W hW=>mname_is s W (h.new_ hW) (hm.new_ hW) hl)
 obtain ⟨W1,hW1⟩ : ∃W,W=(w.alloc (.cells #[.int .i64 s.kind,.string s.text,.int .i64 s.n] 23)).alloc (.cells #[.int .i64 0,.string ⟨#[]⟩,.int .i64 0,.string ⟨#[]⟩,.int .i64 0,.slice none 0 0] 142):=⟨_,rfl⟩
 have hK:Blk W1 w.heap.size 23 #[.int .i64 s.kind,.string s.text,.int .i64 s.n]:=by rw [hW1];exact (Blk.new _ _ _).alloc _
 have hR:Blk W1 (w.heap.size+1) 142 #[.int .i64 0,.string ⟨#[]⟩,.int .i64 0,.string ⟨#[]⟩,.int .i64 0,.slice none 0 0]:=by rw [hW1];have hh:=Blk.new (w.alloc (.cells #[.int .i64 s.kind,.string s.text,.int .i64 s.n] 23)) 142 #[.int .i64 0,.string ⟨#[]⟩,.int .i64 0,.string ⟨#[]⟩,.int .i64 0,.slice none 0 0];simp only [World.size_alloc] at hh;exact hh
 have hB:Below w.heap.size w W1:=by rw [hW1];exact ((Below.refl _ _).alloc (Nat.le_refl _) _).alloc (by simp) _
 have HB:=Lib.hid hB
 have HK:=Lib.hid hK
 have HR:=Lib.hid hR
 obtain ⟨k0,k1,k2⟩:=hK.c3
 have kz:=hK.lt
 clear hR hB hK h hm hl
 by_cases h1:s.kind=1
 · skip
   obtain ⟨nv,hnv⟩ : ∃nv,nv=nameV s (plV ns s:Int):=⟨_,rfl⟩
   have HTV:=Lib.hid (show t=⟨rel,nv,symZ,[]⟩ by rw [ht,testV,if_pos h1,hnv])
   rw [← hnv] at HV
   have e1:(s.kind == 1)=true:=by simp [h1]
   have e2:decide (s.kind=1)=true:=by simp [h1]
   clear h1 ht hnv
   go_enter Tryz.func105,Tryz.ntmps105
   go_upto_region 1 with fail
   rw [← hW1]
   clear hW1
   go_wp2_with fail
   refine (HV.out _ HB.out).mono ?_
   rintro e w5 ⟨rfl,hb5⟩
   have HT:=Lib.hid (show w5.there (w.heap.size+1) 0 (#[Value.int IntKind.i64 rel,Value.string nv,Value.int IntKind.i64 0,Value.string ⟨#[]⟩,Value.int IntKind.i64 0,Value.slice none 0 0]:Array Value).size from (HR.out.new_ hb5).there)
   have HB5:=Lib.hid (HB.out.trans (hb5.mono HB.out.size))
   clear hb5 k0 k1 k2 kz
   go_wp2_with (with_reducible refine wpList_store_mid rfl 142 _ _ rfl (w.heap.size+1) 0 #[Value.int IntKind.i64 rel,Value.string nv,Value.int IntKind.i64 0,Value.string ⟨#[]⟩,Value.int IntKind.i64 0,Value.slice none 0 0] rfl rfl HT.out (by kernel_rfl) (by kernel_rfl) ?_)
   try simp only [Exit.inBlock,Exit.then]
   refine bodyPost_ret (v:=.agg #[Value.int IntKind.i64 rel,Value.string nv,Value.int IntKind.i64 0,Value.string ⟨#[]⟩,Value.int IntKind.i64 0,Value.slice none 0 0]) ?_ rfl ⟨by rw [HTV.out]<;>rfl,Below.setCells' _ _ (HB5.out) (by omega)⟩
   exact results_cell (t:=6) (T:=142) rfl _ _ (w.heap.size+1) [Value.int IntKind.i64 rel,Value.string nv,Value.int IntKind.i64 0,Value.string ⟨#[]⟩,Value.int IntKind.i64 0,Value.slice none 0 0] _ rfl (World.rangeAt_setCells_same w5 (w.heap.size+1) 0 [Value.int IntKind.i64 rel,Value.string nv,Value.int IntKind.i64 0,Value.string ⟨#[]⟩,Value.int IntKind.i64 0,Value.slice none 0 0] HT.out) Tryz.underlying142 rfl (by kernel_rfl)
 · skip
   have HTV:=Lib.hid (show t=⟨rel,⟨#[]⟩,s,[]⟩ by rw [ht,testV,if_neg h1])
   have e1:(s.kind == 1)=false:=by simp [h1]
   have e2:decide (s.kind=1)=false:=by simp [h1]
   have HT:=Lib.hid (show W1.there (w.heap.size+1) 0 (#[Value.int IntKind.i64 rel,Value.string ⟨#[]⟩,Value.int IntKind.i64 s.kind,Value.string s.text,Value.int IntKind.i64 s.n,Value.slice none 0 0]:Array Value).size from HR.out.there)
   clear h1 ht
   go_enter Tryz.func105,Tryz.ntmps105
   go_upto_region 1 with fail
   rw [← hW1]
   clear hW1
   go_wp2_with (with_reducible refine wpList_store_mid rfl 142 _ _ rfl (w.heap.size+1) 0 #[Value.int IntKind.i64 rel,Value.string ⟨#[]⟩,Value.int IntKind.i64 s.kind,Value.string s.text,Value.int IntKind.i64 s.n,Value.slice none 0 0] rfl rfl HT.out (by kernel_rfl) (by kernel_rfl) ?_)
   try simp only [Exit.inBlock,Exit.then]
   refine bodyPost_ret (v:=.agg #[Value.int IntKind.i64 rel,Value.string ⟨#[]⟩,Value.int IntKind.i64 s.kind,Value.string s.text,Value.int IntKind.i64 s.n,Value.slice none 0 0]) ?_ rfl ⟨by rw [HTV.out]<;>rfl,Below.setCells' _ _ (HB.out) (by omega)⟩
   exact results_cell (t:=6) (T:=142) rfl _ _ (w.heap.size+1) [Value.int IntKind.i64 rel,Value.string ⟨#[]⟩,Value.int IntKind.i64 s.kind,Value.string s.text,Value.int IntKind.i64 s.n,Value.slice none 0 0] _ rfl (World.rangeAt_setCells_same W1 (w.heap.size+1) 0 [Value.int IntKind.i64 rel,Value.string ⟨#[]⟩,Value.int IntKind.i64 s.kind,Value.string s.text,Value.int IntKind.i64 s.n,Value.slice none 0 0] HT.out) Tryz.underlying142 rfl (by kernel_rfl)
def PosTo (ns:List Sym) (x:Elem) (w:World) (e:Ending) (w':World):Prop:=
 ∃ga gv,e = .returned (.agg #[.int .i64 1,.bool x.goal,.string (nameV x.id (plV ns x.id:Int)),.slice (some ⟨ga,0,none⟩) 1 1,.slice (some ⟨gv,0,none⟩) 1 1,.bool x.acc,.slice none 0 0])∧Blk w' ga 142 #[.int .i64 1,.string ⟨#[]⟩,.int .i64 x.attr.kind,.string x.attr.text,.int .i64 x.attr.n,.slice none 0 0]∧Blk w' gv 142 #[.int .i64 (testV ns 1 x.value).rel,.string (testV ns 1 x.value).var,.int .i64 (testV ns 1 x.value).sym.kind,.string (testV ns 1 x.value).sym.text,.int .i64 (testV ns 1 x.value).sym.n,.slice none 0 0]∧w.heap.size≤ga∧w.heap.size≤gv∧ga≠gv∧Below w.heap.size w w'
set_option maxRecDepth 100000 in
set_option maxHeartbeats 8000000 in
theorem mpos_is {D:Nat→Prop} {nb mb:Nat} {ns:List Sym} (x:Elem) (w:World) (h:Nm D w nb ns) (hm:MK w mb nb) (hl:ns.length≤1000):Calls Tryz.prog 63 #[.pointer (some ⟨mb,0,none⟩),.agg #[.int .i64 x.id.kind,.string x.id.text,.int .i64 x.id.n,.int .i64 x.attr.kind,.string x.attr.text,.int .i64 x.attr.n,.int .i64 x.value.kind,.string x.value.text,.int .i64 x.value.n,.bool x.acc,.bool x.goal,.int .i64 x.tag]] w (PosTo ns x w):=by
 have HN:=Lib.hid (show ∀W,Below w.heap.size w W→Calls Tryz.prog 104 #[.pointer (some ⟨mb,0,none⟩),.agg #[.int .i64 x.id.kind,.string x.id.text,.int .i64 x.id.n]] W fun e w'=>e = .returned (.string (nameV x.id (plV ns x.id:Int)))∧Below W.heap.size W w' from fun W hW=>mname_is x.id W (h.new_ hW) (hm.new_ hW) hl)
 have HV:=Lib.hid (show ∀W,Below w.heap.size w W→Calls Tryz.prog 105 #[.pointer (some ⟨mb,0,none⟩),.int .i64 1,.agg #[.int .i64 x.value.kind,.string x.value.text,.int .i64 x.value.n]] W fun e w'=>e = .returned (.agg #[.int .i64 (testV ns 1 x.value).rel,.string (testV ns 1 x.value).var,.int .i64 (testV ns 1 x.value).sym.kind,.string (testV ns 1 x.value).sym.text,.int .i64 (testV ns 1 x.value).sym.n,.slice none 0 0])∧Below W.heap.size W w' from fun W hW=>mtest_is 1 x.value W (h.new_ hW) (hm.new_ hW) hl)
 unfold PosTo
 obtain ⟨t,ht⟩ : ∃t,t=testV ns 1 x.value:=⟨_,rfl⟩
 obtain ⟨nv,hnv⟩ : ∃nv,nv=nameV x.id (plV ns x.id:Int):=⟨_,rfl⟩
 rw [← ht] at HV ⊢
 rw [← hnv] at HN ⊢
 clear h hm hl ht hnv
 go_enter Tryz.func63,Tryz.ntmps63
 go_upto_region 1 with fail
 obtain ⟨w1,hw1⟩ : ∃w1,w1=((w.alloc (.cells #[.int .i64 x.id.kind,.string x.id.text,.int .i64 x.id.n,.int .i64 x.attr.kind,.string x.attr.text,.int .i64 x.attr.n,.int .i64 x.value.kind,.string x.value.text,.int .i64 x.value.n,.bool x.acc,.bool x.goal,.int .i64 x.tag] 55)).alloc (.cells #[.int .i64 0,.bool false,.string ⟨#[]⟩,.slice none 0 0,.slice none 0 0,.bool false,.slice none 0 0] 62)):=⟨_,rfl⟩
 rw [← hw1]
 have HB:=Lib.hid (show Below w.heap.size w w1 by rw [hw1];exact (by repeat (first | exact Below.refl _ _ | refine Below.drew ?_ | refine Below.al ?_ _ | refine Below.sc ?_ _)))
 have Kk:=Lib.hid (show Blk w1 (w.heap.size) 55 #[.int .i64 x.id.kind,.string x.id.text,.int .i64 x.id.n,.int .i64 x.attr.kind,.string x.attr.text,.int .i64 x.attr.n,.int .i64 x.value.kind,.string x.value.text,.int .i64 x.value.n,.bool x.acc,.bool x.goal,.int .i64 x.tag] by rw [hw1];exact ((Blk.new w 55 #[.int .i64 x.id.kind,.string x.id.text,.int .i64 x.id.n,.int .i64 x.attr.kind,.string x.attr.text,.int .i64 x.attr.n,.int .i64 x.value.kind,.string x.value.text,.int .i64 x.value.n,.bool x.acc,.bool x.goal,.int .i64 x.tag]).alloc (.cells #[.int .i64 0,.bool false,.string ⟨#[]⟩,.slice none 0 0,.slice none 0 0,.bool false,.slice none 0 0] 62)))
 have Kr:=Lib.hid (show Blk w1 (w.heap.size+1) 62 #[.int .i64 0,.bool false,.string ⟨#[]⟩,.slice none 0 0,.slice none 0 0,.bool false,.slice none 0 0] by rw [hw1];have hh:=(Blk.new (w.alloc (.cells #[.int .i64 x.id.kind,.string x.id.text,.int .i64 x.id.n,.int .i64 x.attr.kind,.string x.attr.text,.int .i64 x.attr.n,.int .i64 x.value.kind,.string x.value.text,.int .i64 x.value.n,.bool x.acc,.bool x.goal,.int .i64 x.tag] 55)) 62 #[.int .i64 0,.bool false,.string ⟨#[]⟩,.slice none 0 0,.slice none 0 0,.bool false,.slice none 0 0]);simp only [World.size_alloc] at hh;exact hh)
 clear hw1
 obtain ⟨k0,k1,k2,k3,k4,k5,k6,k7,k8,k9,k10,k11⟩:=Kk.out.c12
 have kz:=Kk.out.lt
 obtain ⟨r0,r1,r2,r3,r4,r5,r6⟩:=Kr.out.c7
 have rz:=Kr.out.lt
 clear k0 k1 k2 k3 k4 k5 k6 k7 k8 k9 k10 k11 kz r0 r1 r2 r3 r4 r5 r6 rz 
 obtain ⟨k0,k1,k2,k3,k4,k5,k6,k7,k8,k9,k10,k11⟩:=Kk.out.c12
 have kz:=Kk.out.lt
 have HR1:=Lib.hid Kr.out.lt
 have HX1:=Lib.hid (show w.heap.size+1≤w1.heap.size from Nat.le_of_lt HR1.out)
 have kz9:w.heap.size<w.heap.size+1:=Nat.lt_succ_self _
 refine wp_region_Pl (fun w9=>Below (w.heap.size+1) w1 w9) [0,1,2,3,4,5,6,8,9,10,12,13,14,17] [1,3,6,9,14] (.fork [(0,0),(1,1),(2,0),(3,1),(4,0),(5,0),(6,1),(8,0),(9,1),(10,0),(12,0),(13,0),(14,1)] 7 (.fork [] 11 (.fin [(15,2),(16,2),(17,0),(18,2)]) 15 (.fork [] 11 (.fin [(16,2),(17,0),(18,2)]) 16 (.fin [(11,2),(17,0),(18,2)]))) 11 (.fin [(7,2),(15,2),(16,2),(17,0),(18,2)])) (by kernel_rfl) (by kernel_rfl) (by kernel_rfl) (fun KK hKK=>?_)
 simp only [wpPl,beside,List.filterMap_cons,List.filterMap_nil,List.getElem?_toArray,List.getElem?_cons_zero,List.getElem?_cons_succ,Option.map_some]
 repeat ((first | (refine wpY_w ?_ (Or.inl ⟨by rfl,fun w9=>?_⟩) ?_;rotate_left 1;go_simp;with_reducible rfl) | (refine wpY_l ?_ (((Below.refl w1.heap.size w1).drew).mono HX1.out) (Or.inl ⟨by rfl,fun w9 hw9=>?_⟩) ?_;rotate_left 1;obtain ⟨hc9,hf9⟩:=bcellB hw9;go_simp;with_reducible rfl) | refine wpY_w undef (Or.inr ⟨by rfl,rfl⟩) ?_ | refine wpY_l undef (((Below.refl w1.heap.size w1).drew).mono HX1.out) (Or.inr ⟨by rfl,rfl⟩) ?_);go_frame)
 refine wpY_nil ⟨?_,?_⟩
 · refine wpOp_cs rfl (fun K9 hK9=>?_)
   go_simp
   refine (HN.out _ (HB.out.trans (((Below.refl w1.heap.size w1).drew).mono HB.out.size))).mono ?_
   rintro e V2 ⟨rfl,hb⟩
   have hb2:Below w1.heap.size w1 V2:=((Below.refl w1.heap.size w1).drew).trans (hb.mono ((Below.refl w1.heap.size w1).drew).size)
   have Kr:=Lib.hid (Kr.out.drew.new_ hb)
   clear hb
   refine hK9 _ _ (fun _=>hb2.mono HX1.out) ?_
   clear hK9 K9
   try go_frame
   try simp only [beside,List.filterMap_nil]
   refine wpY_nil ⟨?_,?_⟩
   · refine wpOp_cs rfl (fun K9 hK9=>?_)
     go_simp
     obtain ⟨V3,hV⟩ : ∃V,V=(V2.alloc (.cells #[.int .i64 1,.string ⟨#[]⟩,.int .i64 x.attr.kind,.string x.attr.text,.int .i64 x.attr.n,.slice none 0 0] 142)):=⟨_,rfl⟩
     have hb:Below V2.heap.size V2 V3:=by rw [hV];exact (Below.refl _ _).alloc (Nat.le_refl _) _
     have hb3:Below w1.heap.size w1 V3:=(hb2).trans (hb.mono (hb2).size)
     obtain ⟨ga,hga⟩ : ∃g,g=V2.heap.size:=⟨_,rfl⟩
     have Kga:=Lib.hid (show Blk V3 ga 142 #[.int .i64 1,.string ⟨#[]⟩,.int .i64 x.attr.kind,.string x.attr.text,.int .i64 x.attr.n,.slice none 0 0] by rw [hV,hga];exact Blk.new _ _ _)
     have Kr:=Lib.hid (Kr.out.new_ hb)
     have Nga:=Lib.hid (show w1.heap.size≤ga from by rw [hga];exact (hb2).size)
     rw [← hV,← hga]
     have LT:=Lib.hid (show ga<V3.heap.size from Kga.out.lt)
     clear hV hb hga
     refine hK9 _ _ (fun _=>hb3.mono HX1.out) ?_
     clear hK9 K9
     try go_frame
     try simp only [beside,List.filterMap_nil]
     refine wpY_es (fun K9 hK9=>?_)
     go_simp
     refine (HV.out _ (HB.out.trans ((hb3).mono HB.out.size))).mono ?_
     rintro e V4 ⟨rfl,hb⟩
     have hb4:Below w1.heap.size w1 V4:=(hb3).trans (hb.mono (hb3).size)
     have Kr:=Lib.hid (Kr.out.new_ hb)
     have Kga:=Lib.hid (Kga.out.new_ hb)
     have LT:=Lib.hid (Nat.lt_of_lt_of_le LT.out hb.size)
     clear hb
     refine hK9 _ _ (hb4.mono HX1.out) ?_
     clear hK9 K9
     try go_frame
     refine wpY_es (fun K9 hK9=>?_)
     go_simp
     obtain ⟨V5,hV⟩ : ∃V,V=(V4.alloc (.cells #[.int .i64 t.rel,.string t.var,.int .i64 t.sym.kind,.string t.sym.text,.int .i64 t.sym.n,.slice none 0 0] 142)):=⟨_,rfl⟩
     have hb:Below V4.heap.size V4 V5:=by rw [hV];exact (Below.refl _ _).alloc (Nat.le_refl _) _
     have hb5:Below w1.heap.size w1 V5:=(hb4).trans (hb.mono (hb4).size)
     obtain ⟨gv,hgv⟩ : ∃g,g=V4.heap.size:=⟨_,rfl⟩
     have Kgv:=Lib.hid (show Blk V5 gv 142 #[.int .i64 t.rel,.string t.var,.int .i64 t.sym.kind,.string t.sym.text,.int .i64 t.sym.n,.slice none 0 0] by rw [hV,hgv];exact Blk.new _ _ _)
     have Kr:=Lib.hid (Kr.out.new_ hb)
     have Kga:=Lib.hid (Kga.out.new_ hb)
     have Ngv:=Lib.hid (show w1.heap.size≤gv from by rw [hgv];exact (hb4).size)
     have NE:=Lib.hid (show ga≠gv from by rw [hgv];exact Nat.ne_of_lt LT.out)
     rw [← hV,← hgv]
     have LT:=Lib.hid (show gv<V5.heap.size from Kgv.out.lt)
     clear hV hb hgv
     refine hK9 _ _ (hb5.mono HX1.out) ?_
     clear hK9 K9
     try go_frame
     repeat ((first | (refine wpY_w ?_ (Or.inl ⟨by rfl,fun w9=>?_⟩) ?_;rotate_left 1;go_simp;with_reducible rfl) | (refine wpY_l ?_ (((Below.refl w1.heap.size w1).drew).mono HX1.out) (Or.inl ⟨by rfl,fun w9 hw9=>?_⟩) ?_;rotate_left 1;obtain ⟨hc9,hf9⟩:=bcellB hw9;go_simp;with_reducible rfl) | refine wpY_w undef (Or.inr ⟨by rfl,rfl⟩) ?_ | refine wpY_l undef (((Below.refl w1.heap.size w1).drew).mono HX1.out) (Or.inr ⟨by rfl,rfl⟩) ?_);go_frame)
     refine wpY_es (fun K9 hK9=>?_)
     refine step_store_el rfl 62 _ _ rfl (w.heap.size+1) 0 #[Value.int IntKind.i64 1,Value.bool x.goal,Value.string nv,Value.slice (some ⟨ga,0,none⟩) 1 1,Value.slice (some ⟨gv,0,none⟩) 1 1,Value.bool x.acc,Value.slice none 0 0] rfl rfl (show _ from Kr.out.there) (by kernel_rfl) (by kernel_rfl) ?_
     refine hK9 _ _ (Below.setCells' _ _ ((hb5).mono HX1.out) (Nat.le_refl _)) ?_
     clear hK9 K9
     try go_frame
     refine wpY_nil ?_
     simp only [OnlyN_normal]
     refine hKK _ _ ?_
     clear hKK KK
     have HT:=Lib.hid (show V5.there (w.heap.size+1) 0 (#[Value.int IntKind.i64 1,Value.bool x.goal,Value.string nv,Value.slice (some ⟨ga,0,none⟩) 1 1,Value.slice (some ⟨gv,0,none⟩) 1 1,Value.bool x.acc,Value.slice none 0 0]:Array Value).size from Kr.out.there)
     have HF:=Lib.hid (show Below w.heap.size w V5 from HB.out.trans ((hb5).mono HB.out.size))
     have HZ:=Lib.hid (show w.heap.size+1<w1.heap.size from HR1.out)
     clear k0 k1 k2 k3 k4 k5 k6 k7 k8 k9 k10 k11
     go_wp2_with fail
     try simp only [Exit.inBlock,Exit.then]
     refine bodyPost_ret (v:=.agg #[Value.int IntKind.i64 1,Value.bool x.goal,Value.string nv,Value.slice (some ⟨ga,0,none⟩) 1 1,Value.slice (some ⟨gv,0,none⟩) 1 1,Value.bool x.acc,Value.slice none 0 0]) ?_ rfl ⟨ga,gv,rfl,Blk.farCells _ _ Kga.out (by have:=Nga.out;have:=HZ.out;omega),Blk.farCells _ _ Kgv.out (by have:=Ngv.out;have:=HZ.out;omega),by have:=Nga.out;have:=HB.out.size;omega,by have:=Ngv.out;have:=HB.out.size;omega,NE.out,Below.setCells' _ _ HF.out (by omega)⟩
     exact results_cell (t:=4) (T:=62) rfl _ _ (w.heap.size+1) [Value.int IntKind.i64 1,Value.bool x.goal,Value.string nv,Value.slice (some ⟨ga,0,none⟩) 1 1,Value.slice (some ⟨gv,0,none⟩) 1 1,Value.bool x.acc,Value.slice none 0 0] _ rfl (World.rangeAt_setCells_same V5 (w.heap.size+1) 0 [Value.int IntKind.i64 1,Value.bool x.goal,Value.string nv,Value.slice (some ⟨ga,0,none⟩) 1 1,Value.slice (some ⟨gv,0,none⟩) 1 1,Value.bool x.acc,Value.slice none 0 0] HT.out) Tryz.underlying62 rfl (by kernel_rfl)
   · refine wpOp_cs rfl (fun K9 hK9=>?_)
     go_simp
     refine (HV.out _ (HB.out.trans ((hb2).mono HB.out.size))).mono ?_
     rintro e V3 ⟨rfl,hb⟩
     have hb3:Below w1.heap.size w1 V3:=(hb2).trans (hb.mono (hb2).size)
     have Kr:=Lib.hid (Kr.out.new_ hb)
     clear hb
     refine hK9 _ _ (fun _=>hb3.mono HX1.out) ?_
     clear hK9 K9
     try go_frame
     try simp only [beside,List.filterMap_nil]
     refine wpY_nil ⟨?_,?_⟩
     · refine wpOp_cs rfl (fun K9 hK9=>?_)
       go_simp
       obtain ⟨V4,hV⟩ : ∃V,V=(V3.alloc (.cells #[.int .i64 1,.string ⟨#[]⟩,.int .i64 x.attr.kind,.string x.attr.text,.int .i64 x.attr.n,.slice none 0 0] 142)):=⟨_,rfl⟩
       have hb:Below V3.heap.size V3 V4:=by rw [hV];exact (Below.refl _ _).alloc (Nat.le_refl _) _
       have hb4:Below w1.heap.size w1 V4:=(hb3).trans (hb.mono (hb3).size)
       obtain ⟨ga,hga⟩ : ∃g,g=V3.heap.size:=⟨_,rfl⟩
       have Kga:=Lib.hid (show Blk V4 ga 142 #[.int .i64 1,.string ⟨#[]⟩,.int .i64 x.attr.kind,.string x.attr.text,.int .i64 x.attr.n,.slice none 0 0] by rw [hV,hga];exact Blk.new _ _ _)
       have Kr:=Lib.hid (Kr.out.new_ hb)
       have Nga:=Lib.hid (show w1.heap.size≤ga from by rw [hga];exact (hb3).size)
       rw [← hV,← hga]
       have LT:=Lib.hid (show ga<V4.heap.size from Kga.out.lt)
       clear hV hb hga
       refine hK9 _ _ (fun _=>hb4.mono HX1.out) ?_
       clear hK9 K9
       try go_frame
       try simp only [beside,List.filterMap_nil]
       refine wpY_es (fun K9 hK9=>?_)
       go_simp
       obtain ⟨V5,hV⟩ : ∃V,V=(V4.alloc (.cells #[.int .i64 t.rel,.string t.var,.int .i64 t.sym.kind,.string t.sym.text,.int .i64 t.sym.n,.slice none 0 0] 142)):=⟨_,rfl⟩
       have hb:Below V4.heap.size V4 V5:=by rw [hV];exact (Below.refl _ _).alloc (Nat.le_refl _) _
       have hb5:Below w1.heap.size w1 V5:=(hb4).trans (hb.mono (hb4).size)
       obtain ⟨gv,hgv⟩ : ∃g,g=V4.heap.size:=⟨_,rfl⟩
       have Kgv:=Lib.hid (show Blk V5 gv 142 #[.int .i64 t.rel,.string t.var,.int .i64 t.sym.kind,.string t.sym.text,.int .i64 t.sym.n,.slice none 0 0] by rw [hV,hgv];exact Blk.new _ _ _)
       have Kr:=Lib.hid (Kr.out.new_ hb)
       have Kga:=Lib.hid (Kga.out.new_ hb)
       have Ngv:=Lib.hid (show w1.heap.size≤gv from by rw [hgv];exact (hb4).size)
       have NE:=Lib.hid (show ga≠gv from by rw [hgv];exact Nat.ne_of_lt LT.out)
       rw [← hV,← hgv]
       have LT:=Lib.hid (show gv<V5.heap.size from Kgv.out.lt)
       clear hV hb hgv
       refine hK9 _ _ (hb5.mono HX1.out) ?_
       clear hK9 K9
       try go_frame
       repeat ((first | (refine wpY_w ?_ (Or.inl ⟨by rfl,fun w9=>?_⟩) ?_;rotate_left 1;go_simp;with_reducible rfl) | (refine wpY_l ?_ (((Below.refl w1.heap.size w1).drew).mono HX1.out) (Or.inl ⟨by rfl,fun w9 hw9=>?_⟩) ?_;rotate_left 1;obtain ⟨hc9,hf9⟩:=bcellB hw9;go_simp;with_reducible rfl) | refine wpY_w undef (Or.inr ⟨by rfl,rfl⟩) ?_ | refine wpY_l undef (((Below.refl w1.heap.size w1).drew).mono HX1.out) (Or.inr ⟨by rfl,rfl⟩) ?_);go_frame)
       refine wpY_es (fun K9 hK9=>?_)
       refine step_store_el rfl 62 _ _ rfl (w.heap.size+1) 0 #[Value.int IntKind.i64 1,Value.bool x.goal,Value.string nv,Value.slice (some ⟨ga,0,none⟩) 1 1,Value.slice (some ⟨gv,0,none⟩) 1 1,Value.bool x.acc,Value.slice none 0 0] rfl rfl (show _ from Kr.out.there) (by kernel_rfl) (by kernel_rfl) ?_
       refine hK9 _ _ (Below.setCells' _ _ ((hb5).mono HX1.out) (Nat.le_refl _)) ?_
       clear hK9 K9
       try go_frame
       refine wpY_nil ?_
       simp only [OnlyN_normal]
       refine hKK _ _ ?_
       clear hKK KK
       have HT:=Lib.hid (show V5.there (w.heap.size+1) 0 (#[Value.int IntKind.i64 1,Value.bool x.goal,Value.string nv,Value.slice (some ⟨ga,0,none⟩) 1 1,Value.slice (some ⟨gv,0,none⟩) 1 1,Value.bool x.acc,Value.slice none 0 0]:Array Value).size from Kr.out.there)
       have HF:=Lib.hid (show Below w.heap.size w V5 from HB.out.trans ((hb5).mono HB.out.size))
       have HZ:=Lib.hid (show w.heap.size+1<w1.heap.size from HR1.out)
       clear k0 k1 k2 k3 k4 k5 k6 k7 k8 k9 k10 k11
       go_wp2_with fail
       try simp only [Exit.inBlock,Exit.then]
       refine bodyPost_ret (v:=.agg #[Value.int IntKind.i64 1,Value.bool x.goal,Value.string nv,Value.slice (some ⟨ga,0,none⟩) 1 1,Value.slice (some ⟨gv,0,none⟩) 1 1,Value.bool x.acc,Value.slice none 0 0]) ?_ rfl ⟨ga,gv,rfl,Blk.farCells _ _ Kga.out (by have:=Nga.out;have:=HZ.out;omega),Blk.farCells _ _ Kgv.out (by have:=Ngv.out;have:=HZ.out;omega),by have:=Nga.out;have:=HB.out.size;omega,by have:=Ngv.out;have:=HB.out.size;omega,NE.out,Below.setCells' _ _ HF.out (by omega)⟩
       exact results_cell (t:=4) (T:=62) rfl _ _ (w.heap.size+1) [Value.int IntKind.i64 1,Value.bool x.goal,Value.string nv,Value.slice (some ⟨ga,0,none⟩) 1 1,Value.slice (some ⟨gv,0,none⟩) 1 1,Value.bool x.acc,Value.slice none 0 0] _ rfl (World.rangeAt_setCells_same V5 (w.heap.size+1) 0 [Value.int IntKind.i64 1,Value.bool x.goal,Value.string nv,Value.slice (some ⟨ga,0,none⟩) 1 1,Value.slice (some ⟨gv,0,none⟩) 1 1,Value.bool x.acc,Value.slice none 0 0] HT.out) Tryz.underlying62 rfl (by kernel_rfl)
     · refine wpOp_cs rfl (fun K9 hK9=>?_)
       go_simp
       obtain ⟨V4,hV⟩ : ∃V,V=(V3.alloc (.cells #[.int .i64 t.rel,.string t.var,.int .i64 t.sym.kind,.string t.sym.text,.int .i64 t.sym.n,.slice none 0 0] 142)):=⟨_,rfl⟩
       have hb:Below V3.heap.size V3 V4:=by rw [hV];exact (Below.refl _ _).alloc (Nat.le_refl _) _
       have hb4:Below w1.heap.size w1 V4:=(hb3).trans (hb.mono (hb3).size)
       obtain ⟨gv,hgv⟩ : ∃g,g=V3.heap.size:=⟨_,rfl⟩
       have Kgv:=Lib.hid (show Blk V4 gv 142 #[.int .i64 t.rel,.string t.var,.int .i64 t.sym.kind,.string t.sym.text,.int .i64 t.sym.n,.slice none 0 0] by rw [hV,hgv];exact Blk.new _ _ _)
       have Kr:=Lib.hid (Kr.out.new_ hb)
       have Ngv:=Lib.hid (show w1.heap.size≤gv from by rw [hgv];exact (hb3).size)
       rw [← hV,← hgv]
       have LT:=Lib.hid (show gv<V4.heap.size from Kgv.out.lt)
       clear hV hb hgv
       refine hK9 _ _ (fun _=>hb4.mono HX1.out) ?_
       clear hK9 K9
       try go_frame
       try simp only [beside,List.filterMap_nil]
       refine wpY_es (fun K9 hK9=>?_)
       go_simp
       obtain ⟨V5,hV⟩ : ∃V,V=(V4.alloc (.cells #[.int .i64 1,.string ⟨#[]⟩,.int .i64 x.attr.kind,.string x.attr.text,.int .i64 x.attr.n,.slice none 0 0] 142)):=⟨_,rfl⟩
       have hb:Below V4.heap.size V4 V5:=by rw [hV];exact (Below.refl _ _).alloc (Nat.le_refl _) _
       have hb5:Below w1.heap.size w1 V5:=(hb4).trans (hb.mono (hb4).size)
       obtain ⟨ga,hga⟩ : ∃g,g=V4.heap.size:=⟨_,rfl⟩
       have Kga:=Lib.hid (show Blk V5 ga 142 #[.int .i64 1,.string ⟨#[]⟩,.int .i64 x.attr.kind,.string x.attr.text,.int .i64 x.attr.n,.slice none 0 0] by rw [hV,hga];exact Blk.new _ _ _)
       have Kr:=Lib.hid (Kr.out.new_ hb)
       have Kgv:=Lib.hid (Kgv.out.new_ hb)
       have Nga:=Lib.hid (show w1.heap.size≤ga from by rw [hga];exact (hb4).size)
       have NE:=Lib.hid (show gv≠ga from by rw [hga];exact Nat.ne_of_lt LT.out)
       rw [← hV,← hga]
       have LT:=Lib.hid (show ga<V5.heap.size from Kga.out.lt)
       clear hV hb hga
       refine hK9 _ _ (hb5.mono HX1.out) ?_
       clear hK9 K9
       try go_frame
       repeat ((first | (refine wpY_w ?_ (Or.inl ⟨by rfl,fun w9=>?_⟩) ?_;rotate_left 1;go_simp;with_reducible rfl) | (refine wpY_l ?_ (((Below.refl w1.heap.size w1).drew).mono HX1.out) (Or.inl ⟨by rfl,fun w9 hw9=>?_⟩) ?_;rotate_left 1;obtain ⟨hc9,hf9⟩:=bcellB hw9;go_simp;with_reducible rfl) | refine wpY_w undef (Or.inr ⟨by rfl,rfl⟩) ?_ | refine wpY_l undef (((Below.refl w1.heap.size w1).drew).mono HX1.out) (Or.inr ⟨by rfl,rfl⟩) ?_);go_frame)
       refine wpY_es (fun K9 hK9=>?_)
       refine step_store_el rfl 62 _ _ rfl (w.heap.size+1) 0 #[Value.int IntKind.i64 1,Value.bool x.goal,Value.string nv,Value.slice (some ⟨ga,0,none⟩) 1 1,Value.slice (some ⟨gv,0,none⟩) 1 1,Value.bool x.acc,Value.slice none 0 0] rfl rfl (show _ from Kr.out.there) (by kernel_rfl) (by kernel_rfl) ?_
       refine hK9 _ _ (Below.setCells' _ _ ((hb5).mono HX1.out) (Nat.le_refl _)) ?_
       clear hK9 K9
       try go_frame
       refine wpY_nil ?_
       simp only [OnlyN_normal]
       refine hKK _ _ ?_
       clear hKK KK
       have HT:=Lib.hid (show V5.there (w.heap.size+1) 0 (#[Value.int IntKind.i64 1,Value.bool x.goal,Value.string nv,Value.slice (some ⟨ga,0,none⟩) 1 1,Value.slice (some ⟨gv,0,none⟩) 1 1,Value.bool x.acc,Value.slice none 0 0]:Array Value).size from Kr.out.there)
       have HF:=Lib.hid (show Below w.heap.size w V5 from HB.out.trans ((hb5).mono HB.out.size))
       have HZ:=Lib.hid (show w.heap.size+1<w1.heap.size from HR1.out)
       clear k0 k1 k2 k3 k4 k5 k6 k7 k8 k9 k10 k11
       go_wp2_with fail
       try simp only [Exit.inBlock,Exit.then]
       refine bodyPost_ret (v:=.agg #[Value.int IntKind.i64 1,Value.bool x.goal,Value.string nv,Value.slice (some ⟨ga,0,none⟩) 1 1,Value.slice (some ⟨gv,0,none⟩) 1 1,Value.bool x.acc,Value.slice none 0 0]) ?_ rfl ⟨ga,gv,rfl,Blk.farCells _ _ Kga.out (by have:=Nga.out;have:=HZ.out;omega),Blk.farCells _ _ Kgv.out (by have:=Ngv.out;have:=HZ.out;omega),by have:=Nga.out;have:=HB.out.size;omega,by have:=Ngv.out;have:=HB.out.size;omega,Ne.symm NE.out,Below.setCells' _ _ HF.out (by omega)⟩
       exact results_cell (t:=4) (T:=62) rfl _ _ (w.heap.size+1) [Value.int IntKind.i64 1,Value.bool x.goal,Value.string nv,Value.slice (some ⟨ga,0,none⟩) 1 1,Value.slice (some ⟨gv,0,none⟩) 1 1,Value.bool x.acc,Value.slice none 0 0] _ rfl (World.rangeAt_setCells_same V5 (w.heap.size+1) 0 [Value.int IntKind.i64 1,Value.bool x.goal,Value.string nv,Value.slice (some ⟨ga,0,none⟩) 1 1,Value.slice (some ⟨gv,0,none⟩) 1 1,Value.bool x.acc,Value.slice none 0 0] HT.out) Tryz.underlying62 rfl (by kernel_rfl)
 · refine wpOp_cs rfl (fun K9 hK9=>?_)
   go_simp
   obtain ⟨V2,hV⟩ : ∃V,V=(w1.alloc (.cells #[.int .i64 1,.string ⟨#[]⟩,.int .i64 x.attr.kind,.string x.attr.text,.int .i64 x.attr.n,.slice none 0 0] 142)).drew:=⟨_,rfl⟩
   have hb:Below w1.heap.size w1 V2:=by rw [hV];exact ((Below.refl _ _).alloc (Nat.le_refl _) _).drew
   have hb2:Below w1.heap.size w1 V2:=hb
   obtain ⟨ga,hga⟩ : ∃g,g=w1.heap.size:=⟨_,rfl⟩
   have Kga:=Lib.hid (show Blk V2 ga 142 #[.int .i64 1,.string ⟨#[]⟩,.int .i64 x.attr.kind,.string x.attr.text,.int .i64 x.attr.n,.slice none 0 0] by rw [hV,hga];exact Blk.new _ _ _)
   have Kr:=Lib.hid (Kr.out.new_ hb)
   have Nga:=Lib.hid (show w1.heap.size≤ga from by rw [hga];exact Nat.le_refl _)
   rw [← hV,← hga]
   have LT:=Lib.hid (show ga<V2.heap.size from Kga.out.lt)
   clear hV hb hga
   refine hK9 _ _ (fun _=>hb2.mono HX1.out) ?_
   clear hK9 K9
   try go_frame
   try simp only [beside,List.filterMap_nil]
   refine wpY_es (fun K9 hK9=>?_)
   go_simp
   refine (HN.out _ (HB.out.trans ((hb2).mono HB.out.size))).mono ?_
   rintro e V3 ⟨rfl,hb⟩
   have hb3:Below w1.heap.size w1 V3:=(hb2).trans (hb.mono (hb2).size)
   have Kr:=Lib.hid (Kr.out.new_ hb)
   have Kga:=Lib.hid (Kga.out.new_ hb)
   have LT:=Lib.hid (Nat.lt_of_lt_of_le LT.out hb.size)
   clear hb
   refine hK9 _ _ (hb3.mono HX1.out) ?_
   clear hK9 K9
   try go_frame
   refine wpY_es (fun K9 hK9=>?_)
   go_simp
   refine (HV.out _ (HB.out.trans ((hb3).mono HB.out.size))).mono ?_
   rintro e V4 ⟨rfl,hb⟩
   have hb4:Below w1.heap.size w1 V4:=(hb3).trans (hb.mono (hb3).size)
   have Kr:=Lib.hid (Kr.out.new_ hb)
   have Kga:=Lib.hid (Kga.out.new_ hb)
   have LT:=Lib.hid (Nat.lt_of_lt_of_le LT.out hb.size)
   clear hb
   refine hK9 _ _ (hb4.mono HX1.out) ?_
   clear hK9 K9
   try go_frame
   refine wpY_es (fun K9 hK9=>?_)
   go_simp
   obtain ⟨V5,hV⟩ : ∃V,V=(V4.alloc (.cells #[.int .i64 t.rel,.string t.var,.int .i64 t.sym.kind,.string t.sym.text,.int .i64 t.sym.n,.slice none 0 0] 142)):=⟨_,rfl⟩
   have hb:Below V4.heap.size V4 V5:=by rw [hV];exact (Below.refl _ _).alloc (Nat.le_refl _) _
   have hb5:Below w1.heap.size w1 V5:=(hb4).trans (hb.mono (hb4).size)
   obtain ⟨gv,hgv⟩ : ∃g,g=V4.heap.size:=⟨_,rfl⟩
   have Kgv:=Lib.hid (show Blk V5 gv 142 #[.int .i64 t.rel,.string t.var,.int .i64 t.sym.kind,.string t.sym.text,.int .i64 t.sym.n,.slice none 0 0] by rw [hV,hgv];exact Blk.new _ _ _)
   have Kr:=Lib.hid (Kr.out.new_ hb)
   have Kga:=Lib.hid (Kga.out.new_ hb)
   have Ngv:=Lib.hid (show w1.heap.size≤gv from by rw [hgv];exact (hb4).size)
   have NE:=Lib.hid (show ga≠gv from by rw [hgv];exact Nat.ne_of_lt LT.out)
   rw [← hV,← hgv]
   have LT:=Lib.hid (show gv<V5.heap.size from Kgv.out.lt)
   clear hV hb hgv
   refine hK9 _ _ (hb5.mono HX1.out) ?_
   clear hK9 K9
   try go_frame
   repeat ((first | (refine wpY_w ?_ (Or.inl ⟨by rfl,fun w9=>?_⟩) ?_;rotate_left 1;go_simp;with_reducible rfl) | (refine wpY_l ?_ (((Below.refl w1.heap.size w1).drew).mono HX1.out) (Or.inl ⟨by rfl,fun w9 hw9=>?_⟩) ?_;rotate_left 1;obtain ⟨hc9,hf9⟩:=bcellB hw9;go_simp;with_reducible rfl) | refine wpY_w undef (Or.inr ⟨by rfl,rfl⟩) ?_ | refine wpY_l undef (((Below.refl w1.heap.size w1).drew).mono HX1.out) (Or.inr ⟨by rfl,rfl⟩) ?_);go_frame)
   refine wpY_es (fun K9 hK9=>?_)
   refine step_store_el rfl 62 _ _ rfl (w.heap.size+1) 0 #[Value.int IntKind.i64 1,Value.bool x.goal,Value.string nv,Value.slice (some ⟨ga,0,none⟩) 1 1,Value.slice (some ⟨gv,0,none⟩) 1 1,Value.bool x.acc,Value.slice none 0 0] rfl rfl (show _ from Kr.out.there) (by kernel_rfl) (by kernel_rfl) ?_
   refine hK9 _ _ (Below.setCells' _ _ ((hb5).mono HX1.out) (Nat.le_refl _)) ?_
   clear hK9 K9
   try go_frame
   refine wpY_nil ?_
   simp only [OnlyN_normal]
   refine hKK _ _ ?_
   clear hKK KK
   have HT:=Lib.hid (show V5.there (w.heap.size+1) 0 (#[Value.int IntKind.i64 1,Value.bool x.goal,Value.string nv,Value.slice (some ⟨ga,0,none⟩) 1 1,Value.slice (some ⟨gv,0,none⟩) 1 1,Value.bool x.acc,Value.slice none 0 0]:Array Value).size from Kr.out.there)
   have HF:=Lib.hid (show Below w.heap.size w V5 from HB.out.trans ((hb5).mono HB.out.size))
   have HZ:=Lib.hid (show w.heap.size+1<w1.heap.size from HR1.out)
   clear k0 k1 k2 k3 k4 k5 k6 k7 k8 k9 k10 k11
   go_wp2_with fail
   try simp only [Exit.inBlock,Exit.then]
   refine bodyPost_ret (v:=.agg #[Value.int IntKind.i64 1,Value.bool x.goal,Value.string nv,Value.slice (some ⟨ga,0,none⟩) 1 1,Value.slice (some ⟨gv,0,none⟩) 1 1,Value.bool x.acc,Value.slice none 0 0]) ?_ rfl ⟨ga,gv,rfl,Blk.farCells _ _ Kga.out (by have:=Nga.out;have:=HZ.out;omega),Blk.farCells _ _ Kgv.out (by have:=Ngv.out;have:=HZ.out;omega),by have:=Nga.out;have:=HB.out.size;omega,by have:=Ngv.out;have:=HB.out.size;omega,NE.out,Below.setCells' _ _ HF.out (by omega)⟩
   exact results_cell (t:=4) (T:=62) rfl _ _ (w.heap.size+1) [Value.int IntKind.i64 1,Value.bool x.goal,Value.string nv,Value.slice (some ⟨ga,0,none⟩) 1 1,Value.slice (some ⟨gv,0,none⟩) 1 1,Value.bool x.acc,Value.slice none 0 0] _ rfl (World.rangeAt_setCells_same V5 (w.heap.size+1) 0 [Value.int IntKind.i64 1,Value.bool x.goal,Value.string nv,Value.slice (some ⟨ga,0,none⟩) 1 1,Value.slice (some ⟨gv,0,none⟩) 1 1,Value.bool x.acc,Value.slice none 0 0] HT.out) Tryz.underlying62 rfl (by kernel_rfl)
end Go.Proofs.YtldndkngpdfpfaaGreat
namespace Go.Proofs.YtldndkngpdfpfaaGreat
open Go.RowKit Go.Shelf
theorem inf_CondV:(Tryz.prog.info? 62).map (fun i=>(i.zero,i.size,i.bytes))=some (some (.agg #[.int .i64 0,.bool false,.string ⟨#[]⟩,.slice none 0 0,.slice none 0 0,.bool false,.slice none 0 0]),7,112):=by kernel_rfl
def TestT.cell0 (t:TestT):List Value:=[.int .i64 t.rel,.string t.var,.int .i64 t.sym.kind,.string t.sym.text,.int .i64 t.sym.n,.slice none 0 0]
theorem TestT.cell0_length (t:TestT):t.cell0.length=6:=rfl
structure CondC where
 kind:Int
 goal:Bool
 id:ByteArray
 A1:Option Addr
 n1:Nat
 c1:Nat
 A2:Option Addr
 n2:Nat
 c2:Nat
 acc:Bool
 A3:Option Addr
 n3:Nat
 c3:Nat
def CondC.cells (c:CondC):List Value:=[.int .i64 c.kind,.bool c.goal,.string c.id,.slice c.A1 c.n1 c.c1,.slice c.A2 c.n2 c.c2,.bool c.acc,.slice c.A3 c.n3 c.c3]
theorem CondC.cells_length (c:CondC):c.cells.length=7:=rfl
def condC0:CondC:=⟨0,false,⟨#[]⟩,none,0,0,none,0,0,false,none,0,0⟩
theorem one_CondC (l:List CondC) : ∀u∈l.flatMap CondC.cells,u.oneCell'=true:=by
 intro u hu
 obtain ⟨b,_,hb⟩:=List.mem_flatMap.1 hu
 simp only [CondC.cells,List.mem_cons,List.not_mem_nil,or_false] at hb
 rcases hb with rfl | rfl | rfl | rfl | rfl | rfl | rfl<;>rfl
structure VCo where
 goal:Bool
 id:ByteArray
 at_:TestT
 vs:List TestT
 acc:Bool
 ga:Nat
 gv:Nat
 cap:Nat
def VCo.raw (v:VCo):CondC:=⟨1,v.goal,v.id,some ⟨v.ga,0,none⟩,1,1,some ⟨v.gv,0,none⟩,v.vs.length,v.cap,v.acc,none,0,0⟩
def VCo.cells (v:VCo):List Value:=v.raw.cells
theorem VCo.cells_length (v:VCo):v.cells.length=7:=rfl
def VCo.cond (v:VCo):CondT:=.mk 1 v.goal v.id [v.at_] v.vs v.acc []
structure VCo.Ok (w:World) (v:VCo):Prop where
 at_:Blk w v.ga 142 #[.int .i64 v.at_.rel,.string v.at_.var,.int .i64 v.at_.sym.kind,.string v.at_.sym.text,.int .i64 v.at_.sym.n,.slice none 0 0]
 vr:w.ownsRow 0 142 6 (.slice (some ⟨v.gv,0,none⟩) v.vs.length v.cap) v.vs.length (v.vs.flatMap TestT.cell0)
 la:v.at_.list = []
 lv : ∀t∈v.vs,t.list = []
theorem VCo.Ok.fr {M:Nat→Prop} {w w':World} {v:VCo} (h:v.Ok w) (hF:Fr M w w') (h1 : ¬M v.ga) (h2 : ¬M v.gv):v.Ok w':=
 ⟨h.at_.fr hF h1,ownsRow_fr h.vr hF (fun g hg=>by injection hg with hg;exact hg ▸ h2),h.la,h.lv⟩
theorem raw_cells (l:List VCo):l.flatMap VCo.cells=(l.map VCo.raw).flatMap CondC.cells:=by rw [List.flatMap_map];rfl
structure CS (X:World) (nb mb:Nat) (ns:List Sym) (es:List Elem) (AO:Option Addr) (cO:Nat) (vcs:List VCo) (AC:Option Addr) (cC:Nat) (D:Nat→Prop) (w:World):Prop where
 nm:Nm D w nb ns
 dn : ∀k,D k→X.heap.size≤k
 mkb:Blk w mb 130 #[.pointer (some ⟨nb,0,none⟩),.slice AO es.length cO,.slice AC vcs.length cC]
 mge:X.heap.size≤mb
 mnd : ¬D mb
 eo:w.ownsRow 0 55 12 (.slice AO es.length cO) es.length (es.flatMap Elem.cells)
 ea:AIn AO (fun k=>X.heap.size≤k∧¬D k)
 co:w.ownsRow 0 62 7 (.slice AC vcs.length cC) vcs.length (vcs.flatMap VCo.cells)
 ca:AIn AC (fun k=>X.heap.size≤k∧¬D k)
 ok : ∀v∈vcs,v.Ok w
 bl : ∀v∈vcs,(X.heap.size≤v.ga∧¬D v.ga)∧X.heap.size≤v.gv∧¬D v.gv
 nd:(vcs.flatMap fun v=>[v.ga,v.gv]).Nodup
 bel:Below X.heap.size X w
theorem VCo.Ok.ltv {w:World} {v:VCo} (h:v.Ok w):v.gv<w.heap.size:=own_lt h.vr v.gv rfl
section
variable {X w w':World} {nb mb:Nat} {ns:List Sym} {es:List Elem} {AO:Option Addr} {cO:Nat} {vcs:List VCo} {AC:Option Addr} {cC:Nat} {D:Nat→Prop}
theorem CS.mk_ (h:CS X nb mb ns es AO cO vcs AC cC D w):MK w mb nb:=⟨(h.mkb.cell 0).trans rfl,h.mkb.lt⟩
theorem CS.new_ (h:CS X nb mb ns es AO cO vcs AC cC D w) (hb:Below w.heap.size w w'):CS X nb mb ns es AO cO vcs AC cC D w':=
 ⟨h.nm.new_ hb,h.dn,h.mkb.new_ hb,h.mge,h.mnd,ownsRow_new h.eo hb,h.ea,ownsRow_new h.co hb,h.ca,fun v hv=>⟨(h.ok v hv).at_.new_ hb,ownsRow_new (h.ok v hv).vr hb,(h.ok v hv).la,(h.ok v hv).lv⟩,h.bl,h.nd,h.bel.trans (hb.mono h.bel.size)⟩
theorem CS.row (h:CS X nb mb ns es AO cO vcs AC cC D w) (n:Nat):RowR (repCondT (n+1)) (fun k=>(X.heap.size≤k∧¬D k)∧∃t cur,Blk w k t cur∧(t=62∨t=142)) w AC cC (vcs.map VCo.cond):=by
 have own_b : ∀{e:TypeId} {size n c g:Nat} {xs:List Value},w.ownsRow 0 e size (.slice (some ⟨g,0,none⟩) n c) n xs→∃cur,Blk w g e cur:=fun h=>by
  obtain ⟨⟨cur,hb,_⟩,_⟩:=ownsRow_room h
  exact ⟨cur,hb⟩
 have hr:=ownsRow_rd VCo.cells_length h.co
 refine ⟨by simpa using hr.1,hr.2.1,fun h0=>?_⟩
 rw [List.length_map] at h0
 obtain ⟨b,off,rfl,hb,hc⟩:=hr.2.2 h0
 have hcb : ∃cur,Blk w b 62 cur:=by
  rcases ownsRow_form h.co with ⟨_,h0',_⟩ | ⟨g,cap,hv,_,_,⟨cur,hbk,_⟩,_⟩
  · omega
  · injection hv with hv;injection hv with hv;injection hv with hv;subst hv;exact ⟨cur,hbk⟩
 refine ⟨b,off,rfl,⟨h.ca _ rfl,62,hcb.elim fun cur hb=>⟨cur,hb,.inl rfl⟩⟩,hb,fun k hk=>?_⟩
 rw [List.length_map] at hk
 have hm:vcs[k]∈vcs:=List.getElem_mem hk
 have hok:=h.ok _ hm
 have hbl:=h.bl _ hm
 refine ⟨vcs[k].cells,?_,fun j u hu=>by rw [repCondT_size];exact hc k hk j u hu⟩
 rw [List.getElem_map]
 refine ⟨some ⟨vcs[k].ga,0,none⟩,1,some ⟨vcs[k].gv,0,none⟩,vcs[k].cap,none,0,rfl,?_,?_,RowR.nil _ _ _⟩
 · refine ⟨Nat.le_refl _,by unfold maxLen;decide,fun _=>⟨vcs[k].ga,0,rfl,⟨hbl.1,142,_,hok.at_,.inr rfl⟩,hok.at_.lt,fun i hi=>?_⟩⟩
   obtain rfl:i=0:=by simp [VCo.cond,CondT.attr] at hi;exact hi
   refine ⟨_,⟨none,0,rfl,?_⟩,fun j u hu=>?_⟩
   · show RowR repSym _ w none 0 vcs[k].at_.list
     rw [hok.la];exact RowR.nil _ _ _
   · rw [show (0:Nat)+0*repTestT.size+j=j by omega,hok.at_.cell]
     have e:((vcs[k].cond).attr[0]'hi).list.length=0:=by show vcs[k].at_.list.length=0;rw [hok.la];rfl
     rw [e] at hu
     have hu2:vcs[k].at_.cell0[j]? = some u:=hu
     simpa [TestT.cell0] using hu2
 · have hv:=ownsRow_rd TestT.cell0_length hok.vr
   refine ⟨hv.1,hv.2.1,fun h1=>?_⟩
   obtain ⟨b2,off2,hb2,hlt2,hc2⟩:=hv.2.2 h1
   injection hb2 with hb2
   injection hb2 with e1 e2
   subst e1;subst e2
   refine ⟨_,_,rfl,⟨hbl.2,142,(own_b hok.vr).elim fun cur hb=>⟨cur,hb,.inr rfl⟩⟩,hlt2,fun i hi=>⟨_,⟨none,0,rfl,?_⟩,fun j u hu=>?_⟩⟩
   · have e:=hok.lv _ (List.getElem_mem hi)
     show RowR repSym _ w none 0 ((vcs[k].cond).value[i]'hi).list
     rw [e];exact RowR.nil _ _ _
   · refine hc2 i hi j u ?_
     have e:=hok.lv _ (List.getElem_mem hi)
     have e2:((vcs[k].cond).value[i]'hi).list.length=0:=by rw [e];rfl
     rw [e2] at hu
     exact hu
theorem CS.push {v:VCo} {V W1:World} {AC':Option Addr} {cC':Nat} (h:CS X nb mb ns es AO cO vcs AC cC D w) (hb:Below w.heap.size w W1)
 (hva:w.heap.size≤v.ga) (hvv:w.heap.size≤v.gv) (hne:v.ga≠v.gv) (hok:v.Ok W1)
 (hF:Fr (fun k=>k=mb∨∃a,AC=some a∧a.block=k) W1 V) (hM:Blk V mb 130 #[.pointer (some ⟨nb,0,none⟩),.slice AO es.length cO,.slice AC' (vcs ++ [v]).length cC'])
 (hO:V.ownsRow 0 62 7 (.slice AC' (vcs ++ [v]).length cC') (vcs ++ [v]).length ((vcs ++ [v]).flatMap VCo.cells)) (hA:AIn AC' (fun k=>(∃a,AC=some a∧a.block=k)∨W1.heap.size≤k)) :
 CS X nb mb ns es AO cO (vcs ++ [v]) AC' cC' D V:=by
 have h1:=h.new_ hb
 have hz:=hb.size
 have hx:=h.bel.size
 have hlt:=h.nm.lt
 have hmb:=h1.mkb
 have nT : ∀{g:Nat} {cs:Array Value},Blk W1 g 142 cs→¬(g=mb∨∃a,AC=some a∧a.block=g):=by
  rintro g cs hg (e | ⟨a,ha,e⟩)
  · subst e;exact hg.ne_ hmb (by decide) rfl
  · exact own_blk_ne h1.co hg (by decide) (by subst ha;subst e;rfl)
 have nR : ∀{g n c:Nat} {xs:List Value},W1.ownsRow 0 142 6 (.slice (some ⟨g,0,none⟩) n c) n xs→¬(g=mb∨∃a,AC=some a∧a.block=g):=by
  rintro g n c xs hg (e | ⟨a,ha,e⟩)
  · subst e;exact own_blk_ne hg hmb (by decide) rfl
  · exact own_own_ne hg h1.co (by decide) (k:=g) rfl (by subst ha;subst e;rfl)
 have hall : ∀u∈vcs ++ [v],u.Ok W1:=fun u hu=>by
  rcases List.mem_append.1 hu with hu | hu
  · exact h1.ok u hu
  · rw [List.mem_singleton.1 hu];exact hok
 refine ⟨h1.nm.fr hF (fun k hk hm=>?_),h.dn,hM,h.mge,h.mnd,ownsRow_fr h1.eo hF (fun g hg hm=>?_),h.ea,hO,fun a ha=>?_,fun u hu=>(hall u hu).fr hF (nT (hall u hu).at_) (nR (hall u hu).vr),fun u hu=>?_,?_,h1.bel.trans (hF.below h1.bel.size (fun k hk hm=>?_))⟩
 · rcases hm with e | ⟨a,ha,e⟩
   · exact h.mnd (e ▸ hk)
   · exact (h.ca a ha).2 (e ▸ hk)
 · rcases hm with e | ⟨a,ha,e⟩
   · subst e;exact own_blk_ne h1.eo hmb (by decide) hg
   · exact own_own_ne h1.eo h1.co (by decide) hg (by subst ha;subst e;rfl)
 · rcases hA a ha with ⟨b,hb2,e⟩ | h2
   · rw [← e];exact h.ca b hb2
   · exact ⟨by omega,fun hd=>by have:=hlt _ hd;omega⟩
 · rcases List.mem_append.1 hu with hu | hu
   · exact h.bl u hu
   · rw [List.mem_singleton.1 hu]
     exact ⟨⟨by omega,fun hd=>by have:=hlt _ hd;omega⟩,by omega,fun hd=>by have:=hlt _ hd;omega⟩
 · rw [List.flatMap_append,List.nodup_append]
   refine ⟨h.nd,by simp [hne],fun a ha b hb2 e=>?_⟩
   obtain ⟨u,hu,hau⟩:=List.mem_flatMap.1 ha
   have l1:=(h.ok u hu).at_.lt
   have l2:=(h.ok u hu).ltv
   simp only [List.mem_cons,List.not_mem_nil,or_false] at hau
   simp only [List.flatMap_cons,List.flatMap_nil,List.append_nil,List.mem_cons,List.not_mem_nil,or_false] at hb2
   rcases hau with rfl | rfl<;>rcases hb2 with rfl | rfl<;>omega
 · rcases hm with e | ⟨a,ha,e⟩
   · subst e;have:=h.mge;omega
   · have:=(h.ca a ha).1;omega
theorem push_a {v:VCo} {W1 Y:World} {g c':Nat} (h:CS X nb mb ns es AO cO vcs AC cC D W1) (hY:Fr (fun k=>∃a,AC=some a∧a.block=k) W1 Y) (hO:Y.ownsRow 0 62 7 (.slice (some ⟨g,0,none⟩) (vcs.length+1) c') (vcs.length+1) (vcs.flatMap VCo.cells++condC0.cells)) (hA:AIn (some ⟨g,0,none⟩) (Plus (fun k=>∃a,AC=some a∧a.block=k) W1 Y)) :
 Fr (fun k=>k=mb∨∃a,AC=some a∧a.block=k) W1 ((Y.setCells g (vcs.length*7) v.cells).setCell ⟨mb,2,none⟩ (.slice (some ⟨g,0,none⟩) (vcs ++ [v]).length c'))∧
 Blk ((Y.setCells g (vcs.length*7) v.cells).setCell ⟨mb,2,none⟩ (.slice (some ⟨g,0,none⟩) (vcs ++ [v]).length c')) mb 130 #[.pointer (some ⟨nb,0,none⟩),.slice AO es.length cO,.slice (some ⟨g,0,none⟩) (vcs ++ [v]).length c']∧
 ((Y.setCells g (vcs.length*7) v.cells).setCell ⟨mb,2,none⟩ (.slice (some ⟨g,0,none⟩) (vcs ++ [v]).length c')).ownsRow 0 62 7 (.slice (some ⟨g,0,none⟩) (vcs ++ [v]).length c') (vcs ++ [v]).length ((vcs ++ [v]).flatMap VCo.cells)∧
 AIn (some ⟨g,0,none⟩) (fun k=>(∃a,AC=some a∧a.block=k)∨W1.heap.size≤k)∧
 Y.there g (vcs.length*7) 7∧Y.cell? ⟨mb,2,none⟩=some (.slice AC vcs.length cC)∧Y.frozen? ⟨mb,2,none⟩=false∧mb<Y.heap.size∧mb≠g:=by
 have hmY:Blk Y mb 130 _:=h.mkb.fr hY (fun ⟨a,ha,e⟩=>own_blk_ne h.co h.mkb (by decide) (by subst ha;subst e;rfl))
 have hne:mb≠g:=fun e=>own_blk_ne hO hmY (by decide) (by rw [e];rfl)
 have hl:(vcs ++ [v]).length=vcs.length+1:=by simp
 have e0:vcs.flatMap VCo.cells++condC0.cells=(vcs.map VCo.raw ++ [condC0]).flatMap CondC.cells:=by rw [List.flatMap_append,raw_cells];simp
 have hO2:Y.ownsRow 0 62 7 (.slice (some ⟨g,0,none⟩) (vcs.length+1) c') (vcs.length+1) ((vcs.map VCo.raw ++ [condC0]).flatMap CondC.cells):=e0 ▸ hO
 have h3:=ownsRow_element CondC.cells_length (by decide) hO2 vcs.length (by simp) v.raw
 have e1:((vcs.map VCo.raw ++ [condC0]).set vcs.length v.raw).flatMap CondC.cells=(vcs ++ [v]).flatMap VCo.cells:=by
  rw [raw_cells,List.set_append_right _ _ (by simp)];simp
 rw [e1] at h3
 have hr:=ownsRow_room hO
 have hgf:(∃a,AC=some a∧a.block=g)∨W1.heap.size≤g:=by
  rcases hA _ rfl with h4 | h4
  · exact .inl h4
  · exact .inr h4.1
 have hY2:Fr (fun k=>k=mb∨∃a,AC=some a∧a.block=k) W1 Y:=hY.mono (fun k _ hk=>.inr hk)
 refine ⟨(Fr.setCells v.cells _ hY2 (hgf.imp (fun h4=>.inr h4) id)).setCell (p:=⟨mb,2,none⟩) (.inl (.inl rfl)) _,?_,?_,fun a ha=>?_,hr.1.there (by have:=hr.2.1;omega),(hmY.cell 2).trans rfl,hmY.frozen 2,hmY.lt,hne⟩
 · exact (Blk.farCells _ _ hmY hne).set_ 2 _
 · rw [hl]
   exact ownsRow_setCell_other h3 (by simp [Value.ownBlock];exact fun e=>hne e.symm) _
 · injection ha with ha;subst ha;exact hgf
theorem setCell_comm {w:World} {a b:Nat} (hne:a≠b) (o k:Nat) (u v:Value):(w.setCell ⟨a,o,none⟩ u).setCell ⟨b,k,none⟩ v=(w.setCell ⟨b,k,none⟩ v).setCell ⟨a,o,none⟩ u:=by
 simp only [World.setCell]
 congr 1
 apply Array.ext_getElem?
 intro i
 simp only [Array.getElem?_modify]
 by_cases h1:a=i
 · by_cases h2:b=i
   · exact absurd (h1.trans h2.symm) hne
   · simp [h1,h2]
 · by_cases h2:b=i<;>simp [h1,h2]
theorem set_swap {w:World} {a b:Nat} (hne:a≠b) (o:Nat) (u:Value) : ∀(vs:List Value) (k:Nat),(w.setCell ⟨a,o,none⟩ u).setCells b k vs=(w.setCells b k vs).setCell ⟨a,o,none⟩ u:=by
 intro vs
 induction vs generalizing w with
 | nil=>intro k;rfl
 | cons v l ih=>
   intro k
   show ((w.setCell ⟨a,o,none⟩ u).setCell ⟨b,k,none⟩ v).setCells b (k+1) l=((w.setCell ⟨b,k,none⟩ v).setCells b (k+1) l).setCell ⟨a,o,none⟩ u
   rw [← ih]
   congr 1
   exact setCell_comm hne _ _ _ _
end
end Go.Proofs.YtldndkngpdfpfaaGreat
