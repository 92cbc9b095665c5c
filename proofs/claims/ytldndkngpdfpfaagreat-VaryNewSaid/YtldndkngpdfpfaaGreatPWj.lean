/-
  Texts put together: VaryN7.
-/
import Derived.Test.YtldndkngpdfpfaaGreatPWi
import Derived.Laws.EntriesVeiled
import Derived.Maps.RangeWalk
namespace Go.Proofs.YtldndkngpdfpfaaGreat
open Go.RowKit Go.Shelf
attribute [local go_sem] Oper.semAt_some
set_option linter.unusedSimpArgs false
structure OldOk (gf:Nat) (lb:Array Value) (w0:World) (old:Sym→Bool):Prop where
 ent : ∀args w,(callFunc gf args).run Tryz.prog w = .ok (.enter gf args) w
 call : ∀(s:Sym) W,Below w0.heap.size w0 W→Calls Tryz.prog gf (#[.agg #[.int .i64 s.kind,.string s.text,.int .i64 s.n]]++lb) W fun e W'=>e = .returned (.bool (old s))∧Below W.heap.size W W'
theorem PutTo.wrap {D M:Nat→Prop} {w a b c:World} {nb:Nat} {ns:List Sym} (h1:Below w.heap.size w a) (hlt : ∀k,D k→k<w.heap.size) (h2:PutTo D a nb ns b) (h3:Fr M b c) (hM : ∀k,M k→w.heap.size≤k∧k<a.heap.size):PutTo D w nb ns c:=by
 obtain ⟨D',g1,g2,g3,g4⟩:=h2
 have hz:=h1.size
 refine ⟨D',g1.fr h3 (fun k hk hm=>?_),g2,fun k hk=>(g3 k hk).imp id (fun h=>by omega),((Fr.of_new h1).into g4 (fun k hk=>.inl hk)).into h3 (fun k hk=>.inr (hM k hk).1)⟩
 have hm2:=hM k hm
 rcases g3 k hk with h | h
 · have:=hlt k h;omega
 · omega
theorem PutTo.off {D:Nat→Prop} {w w':World} {nb:Nat} {ns:List Sym} (h:PutTo D w nb ns w') : ∃D',Nm D' w' nb ns∧∀g,g<w.heap.size→¬D g→¬D' g:=by
 obtain ⟨D',g1,_,g3,_⟩:=h
 exact ⟨D',g1,fun g hg hd hk=>(g3 g hk).elim hd (fun h=>by omega)⟩
def AtomTo (D:Nat→Prop) (w:World) (nb:Nat) (ns:List Sym) (r:Option (AtomT×List Sym)) (e:Ending) (w':World):Prop:=
 match r with
 | none=>e = .returned (.tuple #[.agg #[.string ⟨#[]⟩,.int .i64 0,.string ⟨#[]⟩,.int .i64 0],.bool false])∧PutTo D w nb ns w'
 | some (a,ns')=>e = .returned (.tuple #[.agg #[.string a.var,.int .i64 a.sym.kind,.string a.sym.text,.int .i64 a.sym.n],.bool true])∧PutTo D w nb ns' w'
theorem atomV_con {old:Sym→Bool} {ns:List Sym} {s:Sym} (h:s.kind≠1):atomV old ns s=some (⟨⟨#[]⟩,s⟩,ns):=by rw [atomV,if_pos h]
theorem atomV_no {old:Sym→Bool} {ns:List Sym} {s:Sym} (h:s.kind=1) (h2:plV ns s=0) (h3:old s=true):atomV old ns s=none:=by rw [atomV,if_neg (by omega),if_pos ⟨h2,h3⟩]
theorem atomV_new {old:Sym→Bool} {ns:List Sym} {s:Sym} (h:s.kind=1) (h3:old s=false):atomV old ns s=some (⟨nameV s (plV (putN ns s) s),symZ⟩,putN ns s):=by rw [atomV,if_neg (by omega),if_neg (by simp [h3])]
theorem atomV_is {old:Sym→Bool} {ns:List Sym} {s:Sym} (h:s.kind=1) (h2:plV ns s≠0):atomV old ns s=some (⟨nameV s (plV ns s),symZ⟩,ns):=by rw [atomV,if_neg (by omega),if_neg (by simp [h2]),putN,if_neg h2]
set_option maxRecDepth 100000 in
set_option maxHeartbeats 8000000 in
theorem matom_is {D:Nat→Prop} {nb mb gf:Nat} {lb:Array Value} {w0:World} {old:Sym→Bool} {ns:List Sym} (hO:OldOk gf lb w0 old) (s:Sym) (w:World) (hw0:Below w0.heap.size w0 w) (h:Nm D w nb ns) (hm:MK w mb nb) (hd : ¬D mb) (hD : ∀k,D k→w0.heap.size≤k) (hl:ns.length≤900) :
 Calls Tryz.prog 117 #[.pointer (some ⟨mb,0,none⟩),.agg #[.int .i64 s.kind,.string s.text,.int .i64 s.n],.func (.func gf) #[] lb] w (AtomTo D w nb ns (atomV old ns s)):=by
 have HN:=Lib.hid h
 have HM:=Lib.hid hm
 have HW0:=Lib.hid (And.intro hw0 (And.intro hd hD))
 have HLT:=Lib.hid h.lt
 have HOC:=Lib.hid (fun W (hW:Below w.heap.size w W)=>hO.call s W (hw0.trans (hW.mono hw0.size)))
 have hent:=hO.ent
 have HPL:=Lib.hid (fun W (hW:Below w.heap.size w W)=>place_is s W (h.new_ hW) (by omega))
 have HNA:=Lib.hid (fun W (hW:Below w.heap.size w W)=>mname_is s W (h.new_ hW) (hm.new_ hW) (by omega))
 have HLL:=Lib.hid hl
 obtain ⟨m0,mz⟩:=hm
 clear h hO hw0 hd hD hl
 by_cases h1:s.kind=1
 case neg=>
  have HAV:=Lib.hid (atomV_con (old:=old) (ns:=ns) h1)
  have e1:(s.kind != 1)=true:=by simp [h1]
  clear h1
  go_enter Tryz.func117,Tryz.ntmps117
  go_upto_region 1 with fail
  obtain ⟨w1,hw1⟩ : ∃w1,w1=((w.alloc (.cells #[.int .i64 s.kind,.string s.text,.int .i64 s.n] 23)).alloc (.cells #[.string ⟨#[]⟩,.int .i64 0,.string ⟨#[]⟩,.int .i64 0] 76)):=⟨_,rfl⟩
  rw [← hw1]
  have HB:=Lib.hid (show Below w.heap.size w w1 by rw [hw1];exact (by repeat (first | exact Below.refl _ _ | refine Below.drew ?_ | refine Below.al ?_ _ | refine Below.sc ?_ _)))
  have Kk:=Lib.hid (show Blk w1 (w.heap.size) 23 #[.int .i64 s.kind,.string s.text,.int .i64 s.n] by rw [hw1];exact ((Blk.new w 23 #[.int .i64 s.kind,.string s.text,.int .i64 s.n]).alloc (.cells #[.string ⟨#[]⟩,.int .i64 0,.string ⟨#[]⟩,.int .i64 0] 76)))
  have Kr:=Lib.hid (show Blk w1 (w.heap.size+1) 76 #[.string ⟨#[]⟩,.int .i64 0,.string ⟨#[]⟩,.int .i64 0] by rw [hw1];have hh:=(Blk.new (w.alloc (.cells #[.int .i64 s.kind,.string s.text,.int .i64 s.n] 23)) 76 #[.string ⟨#[]⟩,.int .i64 0,.string ⟨#[]⟩,.int .i64 0]);simp only [World.size_alloc] at hh;exact hh)
  clear hw1
  obtain ⟨k0,k1,k2⟩:=Kk.out.c3
  have kz:=Kk.out.lt
  obtain ⟨r0,r1,r2,r3⟩:=Kr.out.c4
  have rz:=Kr.out.lt
  have HZ1:=Lib.hid (show w.heap.size+1<w1.heap.size from Kr.out.lt)
  have HT:=Lib.hid (show w1.there (w.heap.size+1) 0 (#[Value.string ⟨#[]⟩,Value.int IntKind.i64 s.kind,Value.string s.text,Value.int IntKind.i64 s.n]:Array Value).size from Kr.out.there)
  go_wp2_with (with_reducible refine wpList_store_mid rfl 76 _ _ rfl (w.heap.size+1) 0 #[Value.string ⟨#[]⟩,Value.int IntKind.i64 s.kind,Value.string s.text,Value.int IntKind.i64 s.n] rfl rfl HT.out (by kernel_rfl) (by kernel_rfl) ?_)
  try simp only [Exit.inBlock,Exit.then]
  refine bodyPost_ret (v:=.tuple #[.agg #[Value.string ⟨#[]⟩,Value.int IntKind.i64 s.kind,Value.string s.text,Value.int IntKind.i64 s.n],.bool true]) ?_ rfl ?_
  · exact results_cell_tmp (t:=6) (s:=7) (T:=76) rfl _ _ (w.heap.size+1) [Value.string ⟨#[]⟩,Value.int IntKind.i64 s.kind,Value.string s.text,Value.int IntKind.i64 s.n] _ rfl (World.rangeAt_setCells_same w1 (w.heap.size+1) 0 [Value.string ⟨#[]⟩,Value.int IntKind.i64 s.kind,Value.string s.text,Value.int IntKind.i64 s.n] HT.out) Tryz.underlying76 rfl (by kernel_rfl)
  · rw [HAV.out]
    exact ⟨rfl,PutTo.wrap (a:=w1) (b:=w1) HB.out HLT.out (PutTo.same (HN.out.new_ HB.out) (Below.refl _ _)) (Fr.setCells _ _ (Fr.refl (fun k=>k=w.heap.size+1) _) (.inl rfl)) (fun k hk=>by have h1:=HZ1.out;subst hk;omega)⟩
 by_cases h2:plV ns s=0
 case neg=>
  have HAV:=Lib.hid (atomV_is (old:=old) (ns:=ns) h1 h2)
  obtain ⟨nv,hnv⟩ : ∃nv,nv=nameV s (plV ns s:Int):=⟨_,rfl⟩
  rw [← hnv] at HAV HNA
  obtain ⟨p,hp⟩ : ∃p,p=plV ns s:=⟨_,rfl⟩
  rw [← hp] at HPL h2
  have pr1:((p:Int) == 0)=false:=by simp;omega
  have pr2 : ¬(p:Int)=0:=by omega
  clear hp hnv
  have e1:(s.kind != 1)=false:=by simp [h1]
  clear h1
  go_enter Tryz.func117,Tryz.ntmps117
  go_upto_region 1 with fail
  obtain ⟨w1,hw1⟩ : ∃w1,w1=((w.alloc (.cells #[.int .i64 s.kind,.string s.text,.int .i64 s.n] 23)).alloc (.cells #[.string ⟨#[]⟩,.int .i64 0,.string ⟨#[]⟩,.int .i64 0] 76)):=⟨_,rfl⟩
  rw [← hw1]
  have HB:=Lib.hid (show Below w.heap.size w w1 by rw [hw1];exact (by repeat (first | exact Below.refl _ _ | refine Below.drew ?_ | refine Below.al ?_ _ | refine Below.sc ?_ _)))
  have Kk:=Lib.hid (show Blk w1 (w.heap.size) 23 #[.int .i64 s.kind,.string s.text,.int .i64 s.n] by rw [hw1];exact ((Blk.new w 23 #[.int .i64 s.kind,.string s.text,.int .i64 s.n]).alloc (.cells #[.string ⟨#[]⟩,.int .i64 0,.string ⟨#[]⟩,.int .i64 0] 76)))
  have Kr:=Lib.hid (show Blk w1 (w.heap.size+1) 76 #[.string ⟨#[]⟩,.int .i64 0,.string ⟨#[]⟩,.int .i64 0] by rw [hw1];have hh:=(Blk.new (w.alloc (.cells #[.int .i64 s.kind,.string s.text,.int .i64 s.n] 23)) 76 #[.string ⟨#[]⟩,.int .i64 0,.string ⟨#[]⟩,.int .i64 0]);simp only [World.size_alloc] at hh;exact hh)
  clear hw1
  obtain ⟨k0,k1,k2⟩:=Kk.out.c3
  have kz:=Kk.out.lt
  obtain ⟨r0,r1,r2,r3⟩:=Kr.out.c4
  have rz:=Kr.out.lt
  have HZ1:=Lib.hid (show w.heap.size+1<w1.heap.size from Kr.out.lt)
  have m1:=(HM.out.new_ HB.out).1
  have mz1:=(HM.out.new_ HB.out).2
  clear m0 mz
  go_upto_region 3 with fail
  refine wp_region_E (fun w9=>Below w1.heap.size w1 w9) [(0,0),(1,0),(2,0),(3,1),(4,1),(5,2),(6,0)] (by kernel_rfl) (by kernel_rfl) (fun KK hKK=>?_)
  simp only [beside,List.filterMap_cons,List.filterMap_nil,List.getElem?_toArray,List.getElem?_cons_zero,List.getElem?_cons_succ,Option.map_some]
  repeat ((first | (refine wpX_w ?_ (Or.inl ⟨by rfl,fun w9=>?_⟩) ?_;rotate_left 1;go_simp;with_reducible rfl) | (refine wpX_l ?_ (((Below.refl _ _).drew)) (Or.inl ⟨by rfl,fun w9 hw9=>?_⟩) ?_;rotate_left 1;obtain ⟨hc9,hf9⟩:=bcell hw9;go_simp;with_reducible rfl) | refine wpX_w undef (Or.inr ⟨by rfl,rfl⟩) ?_ | refine wpX_l undef (((Below.refl _ _).drew)) (Or.inr ⟨by rfl,rfl⟩) ?_);go_frame)
  refine wpX_es (fun K9 hK9=>?_)
  go_simp
  refine (HPL.out _ (HB.out.trans (((Below.refl w1.heap.size w1).drew).mono HB.out.size))).mono ?_
  rintro e w2 ⟨rfl,hb2⟩
  have HB2:=Lib.hid (((Below.refl w1.heap.size w1).drew).trans (hb2.mono (by simp)))
  clear hb2
  refine hK9 _ _ HB2.out ?_
  clear hK9 K9
  repeat ((first | (refine wpX_w ?_ (Or.inl ⟨by rfl,fun w9=>?_⟩) ?_;rotate_left 1;go_simp;with_reducible rfl) | (refine wpX_l ?_ (HB2.out) (Or.inl ⟨by rfl,fun w9 hw9=>?_⟩) ?_;rotate_left 1;obtain ⟨hc9,hf9⟩:=bcell hw9;go_simp;with_reducible rfl) | refine wpX_w undef (Or.inr ⟨by rfl,rfl⟩) ?_ | refine wpX_l undef (HB2.out) (Or.inr ⟨by rfl,rfl⟩) ?_);go_frame)
  refine wpX_nil ?_
  simp only [OnlyN_normal]
  refine hKK _ _ ?_
  clear hKK KK
  clear m1 mz1
  have Kk:=Lib.hid (Kk.out.new_ HB2.out)
  have Kr:=Lib.hid (Kr.out.new_ HB2.out)
  have HB1:=Lib.hid HB.out
  have HB:=Lib.hid (HB.out.trans (HB2.out.mono HB.out.size))
  clear k0 k1 k2 kz r0 r1 r2 r3 rz 
  obtain ⟨k0,k1,k2⟩:=Kk.out.c3
  have kz:=Kk.out.lt
  obtain ⟨r0,r1,r2,r3⟩:=Kr.out.c4
  have rz:=Kr.out.lt
  clear h2
  go_wp2_with fail
  refine (HNA.out _ HB.out).mono ?_
  rintro e w3 ⟨rfl,hb⟩
  have HX3:=Lib.hid hb
  have Kr:=Lib.hid (Kr.out.new_ hb)
  clear hb
  clear k0 k1 k2 kz r0 r1 r2 r3 rz 
  have HB13:=Lib.hid (show Below w1.heap.size w1 w3 from HB2.out.trans (HX3.out.mono HB2.out.size))
  have HT:=Lib.hid (show w3.there (w.heap.size+1) 0 (#[Value.string nv,Value.int IntKind.i64 0,Value.string ⟨#[]⟩,Value.int IntKind.i64 0]:Array Value).size from Kr.out.there)
  go_wp2_with (with_reducible refine wpList_store_mid rfl 76 _ _ rfl (w.heap.size+1) 0 #[Value.string nv,Value.int IntKind.i64 0,Value.string ⟨#[]⟩,Value.int IntKind.i64 0] rfl rfl HT.out (by kernel_rfl) (by kernel_rfl) ?_)
  try simp only [Exit.inBlock,Exit.then]
  refine bodyPost_ret (v:=.tuple #[.agg #[Value.string nv,Value.int IntKind.i64 0,Value.string ⟨#[]⟩,Value.int IntKind.i64 0],.bool true]) ?_ rfl ?_
  · exact results_cell_tmp (t:=6) (s:=7) (T:=76) rfl _ _ (w.heap.size+1) [Value.string nv,Value.int IntKind.i64 0,Value.string ⟨#[]⟩,Value.int IntKind.i64 0] _ rfl (World.rangeAt_setCells_same w3 (w.heap.size+1) 0 [Value.string nv,Value.int IntKind.i64 0,Value.string ⟨#[]⟩,Value.int IntKind.i64 0] HT.out) Tryz.underlying76 rfl (by kernel_rfl)
  · rw [HAV.out]
    exact ⟨rfl,PutTo.wrap (a:=w1) (b:=w3) HB1.out HLT.out (PutTo.same (HN.out.new_ HB1.out) HB13.out) (Fr.setCells _ _ (Fr.refl (fun k=>k=w.heap.size+1) _) (.inl rfl)) (fun k hk=>by have h1:=HZ1.out;subst hk;omega)⟩
 have q1:plV ns s=0:=h2
 rw [h2] at HPL
 clear h2
 by_cases h3:old s=true
 case pos=>
  have HAV:=Lib.hid (atomV_no (old:=old) h1 q1 h3)
  rw [h3] at HOC
  clear q1 h3
  have e1:(s.kind != 1)=false:=by simp [h1]
  clear h1
  go_enter Tryz.func117,Tryz.ntmps117
  go_upto_region 1 with fail
  obtain ⟨w1,hw1⟩ : ∃w1,w1=((w.alloc (.cells #[.int .i64 s.kind,.string s.text,.int .i64 s.n] 23)).alloc (.cells #[.string ⟨#[]⟩,.int .i64 0,.string ⟨#[]⟩,.int .i64 0] 76)):=⟨_,rfl⟩
  rw [← hw1]
  have HB:=Lib.hid (show Below w.heap.size w w1 by rw [hw1];exact (by repeat (first | exact Below.refl _ _ | refine Below.drew ?_ | refine Below.al ?_ _ | refine Below.sc ?_ _)))
  have Kk:=Lib.hid (show Blk w1 (w.heap.size) 23 #[.int .i64 s.kind,.string s.text,.int .i64 s.n] by rw [hw1];exact ((Blk.new w 23 #[.int .i64 s.kind,.string s.text,.int .i64 s.n]).alloc (.cells #[.string ⟨#[]⟩,.int .i64 0,.string ⟨#[]⟩,.int .i64 0] 76)))
  have Kr:=Lib.hid (show Blk w1 (w.heap.size+1) 76 #[.string ⟨#[]⟩,.int .i64 0,.string ⟨#[]⟩,.int .i64 0] by rw [hw1];have hh:=(Blk.new (w.alloc (.cells #[.int .i64 s.kind,.string s.text,.int .i64 s.n] 23)) 76 #[.string ⟨#[]⟩,.int .i64 0,.string ⟨#[]⟩,.int .i64 0]);simp only [World.size_alloc] at hh;exact hh)
  clear hw1
  obtain ⟨k0,k1,k2⟩:=Kk.out.c3
  have kz:=Kk.out.lt
  obtain ⟨r0,r1,r2,r3⟩:=Kr.out.c4
  have rz:=Kr.out.lt
  have HZ1:=Lib.hid (show w.heap.size+1<w1.heap.size from Kr.out.lt)
  have m1:=(HM.out.new_ HB.out).1
  have mz1:=(HM.out.new_ HB.out).2
  clear m0 mz
  go_upto_region 3 with fail
  refine wp_region_E (fun w9=>Below w1.heap.size w1 w9) [(0,0),(1,0),(2,0),(3,1),(4,1),(5,2),(6,0)] (by kernel_rfl) (by kernel_rfl) (fun KK hKK=>?_)
  simp only [beside,List.filterMap_cons,List.filterMap_nil,List.getElem?_toArray,List.getElem?_cons_zero,List.getElem?_cons_succ,Option.map_some]
  repeat ((first | (refine wpX_w ?_ (Or.inl ⟨by rfl,fun w9=>?_⟩) ?_;rotate_left 1;go_simp;with_reducible rfl) | (refine wpX_l ?_ (((Below.refl _ _).drew)) (Or.inl ⟨by rfl,fun w9 hw9=>?_⟩) ?_;rotate_left 1;obtain ⟨hc9,hf9⟩:=bcell hw9;go_simp;with_reducible rfl) | refine wpX_w undef (Or.inr ⟨by rfl,rfl⟩) ?_ | refine wpX_l undef (((Below.refl _ _).drew)) (Or.inr ⟨by rfl,rfl⟩) ?_);go_frame)
  refine wpX_es (fun K9 hK9=>?_)
  go_simp
  refine (HPL.out _ (HB.out.trans (((Below.refl w1.heap.size w1).drew).mono HB.out.size))).mono ?_
  rintro e w2 ⟨rfl,hb2⟩
  have HB2:=Lib.hid (((Below.refl w1.heap.size w1).drew).trans (hb2.mono (by simp)))
  clear hb2
  refine hK9 _ _ HB2.out ?_
  clear hK9 K9
  repeat ((first | (refine wpX_w ?_ (Or.inl ⟨by rfl,fun w9=>?_⟩) ?_;rotate_left 1;go_simp;with_reducible rfl) | (refine wpX_l ?_ (HB2.out) (Or.inl ⟨by rfl,fun w9 hw9=>?_⟩) ?_;rotate_left 1;obtain ⟨hc9,hf9⟩:=bcell hw9;go_simp;with_reducible rfl) | refine wpX_w undef (Or.inr ⟨by rfl,rfl⟩) ?_ | refine wpX_l undef (HB2.out) (Or.inr ⟨by rfl,rfl⟩) ?_);go_frame)
  refine wpX_nil ?_
  simp only [OnlyN_normal]
  refine hKK _ _ ?_
  clear hKK KK
  clear m1 mz1
  have Kk:=Lib.hid (Kk.out.new_ HB2.out)
  have Kr:=Lib.hid (Kr.out.new_ HB2.out)
  have HB1:=Lib.hid HB.out
  have HB:=Lib.hid (HB.out.trans (HB2.out.mono HB.out.size))
  clear k0 k1 k2 kz r0 r1 r2 r3 rz 
  obtain ⟨k0,k1,k2⟩:=Kk.out.c3
  have kz:=Kk.out.lt
  obtain ⟨r0,r1,r2,r3⟩:=Kr.out.c4
  have rz:=Kr.out.lt
  go_wp2_with fail
  refine (HOC.out _ HB.out).mono ?_
  rintro e w3 ⟨rfl,hb⟩
  have HX3:=Lib.hid hb
  have Kr:=Lib.hid (Kr.out.new_ hb)
  clear hb
  clear k0 k1 k2 kz r0 r1 r2 r3 rz 
  have HT:=Lib.hid (show w3.there (w.heap.size+1) 0 (#[Value.string ⟨#[]⟩,Value.int IntKind.i64 0,Value.string ⟨#[]⟩,Value.int IntKind.i64 0]:Array Value).size from Kr.out.there)
  go_wp2_with (with_reducible refine wpList_store_mid rfl 76 _ _ rfl (w.heap.size+1) 0 #[Value.string ⟨#[]⟩,Value.int IntKind.i64 0,Value.string ⟨#[]⟩,Value.int IntKind.i64 0] rfl rfl HT.out (by kernel_rfl) (by kernel_rfl) ?_)
  try simp only [Exit.inBlock,Exit.then]
  refine bodyPost_ret (v:=.tuple #[.agg #[Value.string ⟨#[]⟩,Value.int IntKind.i64 0,Value.string ⟨#[]⟩,Value.int IntKind.i64 0],.bool false]) ?_ rfl ?_
  · exact results_cell_tmp (t:=6) (s:=7) (T:=76) rfl _ _ (w.heap.size+1) [Value.string ⟨#[]⟩,Value.int IntKind.i64 0,Value.string ⟨#[]⟩,Value.int IntKind.i64 0] _ rfl (World.rangeAt_setCells_same w3 (w.heap.size+1) 0 [Value.string ⟨#[]⟩,Value.int IntKind.i64 0,Value.string ⟨#[]⟩,Value.int IntKind.i64 0] HT.out) Tryz.underlying76 rfl (by kernel_rfl)
  · rw [HAV.out]
    exact ⟨rfl,PutTo.wrap (a:=w1) (b:=w3) HB1.out HLT.out (PutTo.same (HN.out.new_ HB1.out) (HB2.out.trans (HX3.out.mono HB2.out.size))) (Fr.setCells _ _ (Fr.refl (fun k=>k=w.heap.size+1) _) (.inl rfl)) (fun k hk=>by have h1:=HZ1.out;subst hk;omega)⟩
 have h3':old s=false:=by simpa using h3
 obtain ⟨np,hnp⟩ : ∃np,np=putN ns s:=⟨_,rfl⟩
 have HNP:=Lib.hid (show np.length≤1000 from by have h5:=HLL.out;have h6:=putN_len ns s;rw [← hnp] at h6;omega)
 have HAV:=Lib.hid (atomV_new (ns:=ns) h1 h3')
 rw [← hnp] at HAV
 obtain ⟨nv,hnv⟩ : ∃nv,nv=nameV s (plV np s:Int):=⟨_,rfl⟩
 rw [← hnv] at HAV
 have HNV:=Lib.hid hnv
 have HPUT:=Lib.hid (show ∀W,Below w.heap.size w W→Calls Tryz.prog 102 #[.pointer (some ⟨nb,0,none⟩),.agg #[.int .i64 s.kind,.string s.text,.int .i64 s.n]] W fun e w'=>e = .returned (.tuple #[])∧PutTo D W nb np w' from fun W hW=>by rw [hnp];exact nput_is s W (HN.out.new_ hW) (by have:=HLL.out;omega))
 rw [h3'] at HOC
 clear q1 h3 h3' hnp hnv
 have e1:(s.kind != 1)=false:=by simp [h1]
 clear h1
 go_enter Tryz.func117,Tryz.ntmps117
 go_upto_region 1 with fail
 obtain ⟨w1,hw1⟩ : ∃w1,w1=((w.alloc (.cells #[.int .i64 s.kind,.string s.text,.int .i64 s.n] 23)).alloc (.cells #[.string ⟨#[]⟩,.int .i64 0,.string ⟨#[]⟩,.int .i64 0] 76)):=⟨_,rfl⟩
 rw [← hw1]
 have HB:=Lib.hid (show Below w.heap.size w w1 by rw [hw1];exact (by repeat (first | exact Below.refl _ _ | refine Below.drew ?_ | refine Below.al ?_ _ | refine Below.sc ?_ _)))
 have Kk:=Lib.hid (show Blk w1 (w.heap.size) 23 #[.int .i64 s.kind,.string s.text,.int .i64 s.n] by rw [hw1];exact ((Blk.new w 23 #[.int .i64 s.kind,.string s.text,.int .i64 s.n]).alloc (.cells #[.string ⟨#[]⟩,.int .i64 0,.string ⟨#[]⟩,.int .i64 0] 76)))
 have Kr:=Lib.hid (show Blk w1 (w.heap.size+1) 76 #[.string ⟨#[]⟩,.int .i64 0,.string ⟨#[]⟩,.int .i64 0] by rw [hw1];have hh:=(Blk.new (w.alloc (.cells #[.int .i64 s.kind,.string s.text,.int .i64 s.n] 23)) 76 #[.string ⟨#[]⟩,.int .i64 0,.string ⟨#[]⟩,.int .i64 0]);simp only [World.size_alloc] at hh;exact hh)
 clear hw1
 obtain ⟨k0,k1,k2⟩:=Kk.out.c3
 have kz:=Kk.out.lt
 obtain ⟨r0,r1,r2,r3⟩:=Kr.out.c4
 have rz:=Kr.out.lt
 have HZ1:=Lib.hid (show w.heap.size+1<w1.heap.size from Kr.out.lt)
 have m1:=(HM.out.new_ HB.out).1
 have mz1:=(HM.out.new_ HB.out).2
 clear m0 mz
 go_upto_region 3 with fail
 refine wp_region_E (fun w9=>Below w1.heap.size w1 w9) [(0,0),(1,0),(2,0),(3,1),(4,1),(5,2),(6,0)] (by kernel_rfl) (by kernel_rfl) (fun KK hKK=>?_)
 simp only [beside,List.filterMap_cons,List.filterMap_nil,List.getElem?_toArray,List.getElem?_cons_zero,List.getElem?_cons_succ,Option.map_some]
 repeat ((first | (refine wpX_w ?_ (Or.inl ⟨by rfl,fun w9=>?_⟩) ?_;rotate_left 1;go_simp;with_reducible rfl) | (refine wpX_l ?_ (((Below.refl _ _).drew)) (Or.inl ⟨by rfl,fun w9 hw9=>?_⟩) ?_;rotate_left 1;obtain ⟨hc9,hf9⟩:=bcell hw9;go_simp;with_reducible rfl) | refine wpX_w undef (Or.inr ⟨by rfl,rfl⟩) ?_ | refine wpX_l undef (((Below.refl _ _).drew)) (Or.inr ⟨by rfl,rfl⟩) ?_);go_frame)
 refine wpX_es (fun K9 hK9=>?_)
 go_simp
 refine (HPL.out _ (HB.out.trans (((Below.refl w1.heap.size w1).drew).mono HB.out.size))).mono ?_
 rintro e w2 ⟨rfl,hb2⟩
 have HB2:=Lib.hid (((Below.refl w1.heap.size w1).drew).trans (hb2.mono (by simp)))
 clear hb2
 refine hK9 _ _ HB2.out ?_
 clear hK9 K9
 repeat ((first | (refine wpX_w ?_ (Or.inl ⟨by rfl,fun w9=>?_⟩) ?_;rotate_left 1;go_simp;with_reducible rfl) | (refine wpX_l ?_ (HB2.out) (Or.inl ⟨by rfl,fun w9 hw9=>?_⟩) ?_;rotate_left 1;obtain ⟨hc9,hf9⟩:=bcell hw9;go_simp;with_reducible rfl) | refine wpX_w undef (Or.inr ⟨by rfl,rfl⟩) ?_ | refine wpX_l undef (HB2.out) (Or.inr ⟨by rfl,rfl⟩) ?_);go_frame)
 refine wpX_nil ?_
 simp only [OnlyN_normal]
 refine hKK _ _ ?_
 clear hKK KK
 clear m1 mz1
 have Kk:=Lib.hid (Kk.out.new_ HB2.out)
 have Kr:=Lib.hid (Kr.out.new_ HB2.out)
 have HB1:=Lib.hid HB.out
 have HB:=Lib.hid (HB.out.trans (HB2.out.mono HB.out.size))
 clear k0 k1 k2 kz r0 r1 r2 r3 rz 
 obtain ⟨k0,k1,k2⟩:=Kk.out.c3
 have kz:=Kk.out.lt
 obtain ⟨r0,r1,r2,r3⟩:=Kr.out.c4
 have rz:=Kr.out.lt
 go_wp2_with fail
 refine (HOC.out _ HB.out).mono ?_
 rintro e w3 ⟨rfl,hb⟩
 have HX3:=Lib.hid hb
 have Kr:=Lib.hid (Kr.out.new_ hb)
 have Kk:=Lib.hid (Kk.out.new_ hb)
 have HB:=Lib.hid (HB.out.trans (hb.mono HB.out.size))
 have HB13:=Lib.hid (show Below w1.heap.size w1 w3 from HB2.out.trans (hb.mono HB2.out.size))
 clear hb
 clear k0 k1 k2 kz r0 r1 r2 r3 rz 
 obtain ⟨k0,k1,k2⟩:=Kk.out.c3
 have kz:=Kk.out.lt
 obtain ⟨r0,r1,r2,r3⟩:=Kr.out.c4
 have rz:=Kr.out.lt
 have m1:=(HM.out.new_ HB.out).1
 have mz1:=(HM.out.new_ HB.out).2
 go_upto_region 6 with fail
 refine wp_region_E (fun w9=>Below w3.heap.size w3 w9) [(0,0),(1,0),(2,0),(3,1),(4,1),(5,2)] (by kernel_rfl) (by kernel_rfl) (fun KK hKK=>?_)
 simp only [beside,List.filterMap_cons,List.filterMap_nil,List.getElem?_toArray,List.getElem?_cons_zero,List.getElem?_cons_succ,Option.map_some]
 repeat ((first | (refine wpX_w ?_ (Or.inl ⟨by rfl,fun w9=>?_⟩) ?_;rotate_left 1;go_simp;with_reducible rfl) | (refine wpX_l ?_ (((Below.refl _ _).drew)) (Or.inl ⟨by rfl,fun w9 hw9=>?_⟩) ?_;rotate_left 1;obtain ⟨hc9,hf9⟩:=bcell hw9;go_simp;with_reducible rfl) | refine wpX_w undef (Or.inr ⟨by rfl,rfl⟩) ?_ | refine wpX_l undef (((Below.refl _ _).drew)) (Or.inr ⟨by rfl,rfl⟩) ?_);go_frame)
 refine wpX_e (by kernel_rfl) (fun K9 hK9=>?_)
 go_simp
 refine (HPUT.out _ (HB.out.trans (((Below.refl w3.heap.size w3).drew).mono HB.out.size))).mono ?_
 rintro e w4 ⟨rfl,hp4⟩
 have HP4:=Lib.hid (show PutTo D w3 nb np w4 from by obtain ⟨Dx,x1,x2,x3,x4⟩:=hp4;exact ⟨Dx,x1,x2,x3,(Fr.refl D w3).drew.trans x4⟩)
 clear hp4
 refine hK9 _ _ ?_
 clear hK9 K9
 refine wpX_nil ?_
 simp only [OnlyN_normal]
 refine hKK _ _ ?_
 clear hKK KK
 obtain ⟨D4,hn4,hd4⟩:=HP4.out.off
 have HF4:=Lib.hid (show Fr D w3 w4 from by obtain ⟨_,_,_,_,hf⟩:=HP4.out;exact hf)
 have HND:=Lib.hid (show ∀g,w.heap.size≤g→¬D g from fun g hg hk=>by have:=HLT.out g hk;omega)
 have Kk:=Lib.hid (Kk.out.fr HF4.out (HND.out _ (Nat.le_refl _)))
 have Kr:=Lib.hid (Kr.out.fr HF4.out (HND.out _ (Nat.le_succ _)))
 have HMK4:=Lib.hid (show MK w4 mb nb from (HM.out.new_ HB.out).fr HF4.out HW0.out.2.1)
 have HNA4:=Lib.hid (show ∀W,Below w4.heap.size w4 W→Calls Tryz.prog 104 #[.pointer (some ⟨mb,0,none⟩),.agg #[.int .i64 s.kind,.string s.text,.int .i64 s.n]] W fun e w'=>e = .returned (.string nv)∧Below W.heap.size W w' from fun W hW=>by rw [HNV.out];exact mname_is s W (hn4.new_ hW) (HMK4.out.new_ hW) HNP.out)
 clear m1 mz1 hn4
 clear k0 k1 k2 kz r0 r1 r2 r3 rz 
 obtain ⟨k0,k1,k2⟩:=Kk.out.c3
 have kz:=Kk.out.lt
 obtain ⟨r0,r1,r2,r3⟩:=Kr.out.c4
 have rz:=Kr.out.lt
 go_wp2_with fail
 refine (HNA4.out _ (Below.refl _ _)).mono ?_
 rintro e w5 ⟨rfl,hb⟩
 have HX5:=Lib.hid hb
 have Kr:=Lib.hid (Kr.out.new_ hb)
 clear hb
 clear k0 k1 k2 kz r0 r1 r2 r3 rz 
 have HT:=Lib.hid (show w5.there (w.heap.size+1) 0 (#[Value.string nv,Value.int IntKind.i64 0,Value.string ⟨#[]⟩,Value.int IntKind.i64 0]:Array Value).size from Kr.out.there)
 go_wp2_with (with_reducible refine wpList_store_mid rfl 76 _ _ rfl (w.heap.size+1) 0 #[Value.string nv,Value.int IntKind.i64 0,Value.string ⟨#[]⟩,Value.int IntKind.i64 0] rfl rfl HT.out (by kernel_rfl) (by kernel_rfl) ?_)
 try simp only [Exit.inBlock,Exit.then]
 refine bodyPost_ret (v:=.tuple #[.agg #[Value.string nv,Value.int IntKind.i64 0,Value.string ⟨#[]⟩,Value.int IntKind.i64 0],.bool true]) ?_ rfl ?_
 · exact results_cell_tmp (t:=6) (s:=7) (T:=76) rfl _ _ (w.heap.size+1) [Value.string nv,Value.int IntKind.i64 0,Value.string ⟨#[]⟩,Value.int IntKind.i64 0] _ rfl (World.rangeAt_setCells_same w5 (w.heap.size+1) 0 [Value.string nv,Value.int IntKind.i64 0,Value.string ⟨#[]⟩,Value.int IntKind.i64 0] HT.out) Tryz.underlying76 rfl (by kernel_rfl)
 · rw [HAV.out]
   exact ⟨rfl,PutTo.wrap (a:=w3) (b:=w4) HB.out HLT.out HP4.out ((Fr.of_new HX5.out).into (Fr.setCells _ _ (Fr.refl (fun k=>k=w.heap.size+1) _) (.inl rfl)) (fun k hk=>.inl hk)) (fun k hk=>by have h1:=HZ1.out;have h2:=HB13.out.size;subst hk;omega)⟩
end Go.Proofs.YtldndkngpdfpfaaGreat
