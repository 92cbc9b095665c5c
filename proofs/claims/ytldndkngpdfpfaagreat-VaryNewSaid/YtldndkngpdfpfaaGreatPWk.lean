/-
  Texts put together: VaryN8, FindName.
-/
import Derived.Test.YtldndkngpdfpfaaGreatPWj
import Derived.Test.YtldndkngpdfpfaaGreatPWh
namespace Go.Proofs.YtldndkngpdfpfaaGreat
open Go.RowKit Go.Shelf
attribute [local go_sem] Oper.semAt_some
set_option linter.unusedSimpArgs false
structure VS (D:Nat→Prop) (w:World) (nb:Nat) (ns:List Sym) (D':Nat→Prop) (x:World):Prop where
 nm:Nm D' x nb ns
 up : ∀k,D k→D' k
 dn : ∀k,D' k→D k∨w.heap.size≤k
 fr:Fr D w x
section
variable {D D':Nat→Prop} {w x y w0:World} {nb mb gf:Nat} {lb:Array Value} {old:Sym→Bool} {ns ns':List Sym}
theorem VS.start (h:Nm D w nb ns):VS D w nb ns D w:=⟨h,fun _ h=>h,fun _ h=>.inl h,Fr.refl _ _⟩
theorem VS.new_ (h:VS D w nb ns D' x) (hb:Below x.heap.size x y):VS D w nb ns D' y:=⟨h.nm.new_ hb,h.up,h.dn,h.fr.trans (Fr.of_new hb)⟩
theorem VS.put (h:VS D w nb ns D' x) (hp:PutTo D' x nb ns' y) : ∃D'',VS D w nb ns' D'' y∧(∀g,g<x.heap.size→¬D' g→¬D'' g)∧Fr D' x y:=by
 obtain ⟨D2,g1,g2,g3,g4⟩:=hp
 have hz:=h.fr.size
 exact ⟨D2,⟨g1,fun k hk=>g2 k (h.up k hk),fun k hk=>(g3 k hk).elim (h.dn k) (fun h=>.inr (by omega)),h.fr.into g4 h.dn⟩,fun g hg hd hk=>(g3 g hk).elim hd (fun h=>by omega),g4⟩
theorem VS.fin {M:Nat→Prop} (h:VS D w nb ns D' x) (hF:Fr M x y) (hM : ∀k,M k→w.heap.size≤k∧¬D' k):PutTo D w nb ns y:=
 ⟨D',h.nm.fr hF (fun k hk hm=>(hM k hm).2 hk),h.up,h.dn,h.fr.into hF (fun k hk=>.inr (hM k hk).1)⟩
theorem VS.atom (h:VS D w nb ns D' x) (hO:OldOk gf lb w0 old) (hw0:Below w0.heap.size w0 w) (hD : ∀k,D k→w0.heap.size≤k) (hm:MK x mb nb) (hd : ¬D' mb) (hl:ns.length≤900) (s:Sym) :
 Calls Tryz.prog 117 #[.pointer (some ⟨mb,0,none⟩),.agg #[.int .i64 s.kind,.string s.text,.int .i64 s.n],.func (.func gf) #[] lb] x (AtomTo D' x nb ns (atomV old ns s)):=
 matom_is hO s x (hw0.trans (h.fr.below hw0.size (fun k hk hd=>by have:=hD k hd;omega))) h.nm hm hd (fun k hk=>(h.dn k hk).elim (hD k) (fun h=>Nat.le_trans hw0.size h)) hl
end
theorem atomV_len {old:Sym→Bool} {ns:List Sym} {s:Sym} {a:AtomT} {n:List Sym} (h:atomV old ns s=some (a,n)):n.length≤ns.length+1:=by
 unfold atomV at h
 split at h
 · injection h with h;injection h with _ h;subst h;omega
 · split at h
   · cases h
   · injection h with h;injection h with _ h;subst h;exact putN_len _ _
theorem actV3_len {old:Sym→Bool} {ns:List Sym} {p:PrefT} {a:ActT} {n:List Sym} (h:actV3 old ns p=some (a,n)):n.length≤ns.length+3:=by
 unfold actV3 at h
 split at h
 · cases h
 · rename_i i n1 h1
   split at h
   · cases h
   · rename_i v n2 h2
     split at h
     · cases h
     · rename_i q n3 h3
       injection h with h
       injection h with _ h
       subst h
       have:=atomV_len h1
       have:=atomV_len h2
       have:=atomV_len h3
       omega
def ActTo (D:Nat→Prop) (w:World) (nb:Nat) (r:Option (ActT×List Sym)) (e:Ending) (w':World):Prop:=
 match r with
 | none=>(∃a:ActT,e = .returned (.tuple #[.agg #[.string a.id,.string a.attr.var,.int .i64 a.attr.sym.kind,.string a.attr.sym.text,.int .i64 a.attr.sym.n,.int .i64 a.value.op,.string a.value.a.var,.int .i64 a.value.a.sym.kind,.string a.value.a.sym.text,.int .i64 a.value.a.sym.n,.string a.value.b.var,.int .i64 a.value.b.sym.kind,.string a.value.b.sym.text,.int .i64 a.value.b.sym.n,.int .i64 a.pref,.string a.other.var,.int .i64 a.other.sym.kind,.string a.other.sym.text,.int .i64 a.other.sym.n],.bool false]))∧∃n,PutTo D w nb n w'
 | some (a,n)=>e = .returned (.tuple #[.agg #[.string a.id,.string a.attr.var,.int .i64 a.attr.sym.kind,.string a.attr.sym.text,.int .i64 a.attr.sym.n,.int .i64 a.value.op,.string a.value.a.var,.int .i64 a.value.a.sym.kind,.string a.value.a.sym.text,.int .i64 a.value.a.sym.n,.string a.value.b.var,.int .i64 a.value.b.sym.kind,.string a.value.b.sym.text,.int .i64 a.value.b.sym.n,.int .i64 a.pref,.string a.other.var,.int .i64 a.other.sym.kind,.string a.other.sym.text,.int .i64 a.other.sym.n],.bool true])∧PutTo D w nb n w'
set_option maxRecDepth 100000 in
set_option maxHeartbeats 8000000 in
theorem mact_is {D:Nat→Prop} {nb mb gf:Nat} {lb:Array Value} {w0:World} {old:Sym→Bool} {ns:List Sym} (hO:OldOk gf lb w0 old) (p:PrefT) (w:World) (hw0:Below w0.heap.size w0 w) (h:Nm D w nb ns) (hm:MK w mb nb) (hd : ¬D mb) (hD : ∀k,D k→w0.heap.size≤k) (hl:ns.length≤800) :
 Calls Tryz.prog 66 #[.pointer (some ⟨mb,0,none⟩),.agg #[.int .i64 p.id.kind,.string p.id.text,.int .i64 p.id.n,.int .i64 p.attr.kind,.string p.attr.text,.int .i64 p.attr.n,.int .i64 p.value.kind,.string p.value.text,.int .i64 p.value.n,.int .i64 p.other.kind,.string p.other.text,.int .i64 p.other.n,.int .i64 p.kind,.bool p.o,.int .i64 p.level,.int .i64 p.by_],.func (.func gf) #[] lb] w (ActTo D w nb (actV3 old ns p)):=by
 have HO:=Lib.hid (And.intro hO (And.intro hw0 hD))
 have HLT:=Lib.hid h.lt
 have HN:=Lib.hid h
 have HM:=Lib.hid hm
 have HDM:=Lib.hid hd
 clear h hO hw0 hD hm hd
 cases hA:atomV old ns p.id with
 | none=>
   have HA1:=Lib.hid hA
   clear hA
   have HAV:=Lib.hid (show actV3 old ns p=none by unfold actV3;rw [HA1.out])
   go_enter Tryz.func66,Tryz.ntmps66
   go_upto_region 1 with fail
   obtain ⟨w1,hw1⟩ : ∃w1,w1=((w.alloc (.cells #[.int .i64 p.id.kind,.string p.id.text,.int .i64 p.id.n,.int .i64 p.attr.kind,.string p.attr.text,.int .i64 p.attr.n,.int .i64 p.value.kind,.string p.value.text,.int .i64 p.value.n,.int .i64 p.other.kind,.string p.other.text,.int .i64 p.other.n,.int .i64 p.kind,.bool p.o,.int .i64 p.level,.int .i64 p.by_] 68)).alloc (.cells #[.string ⟨#[]⟩,.string ⟨#[]⟩,.int .i64 0,.string ⟨#[]⟩,.int .i64 0,.int .i64 0,.string ⟨#[]⟩,.int .i64 0,.string ⟨#[]⟩,.int .i64 0,.string ⟨#[]⟩,.int .i64 0,.string ⟨#[]⟩,.int .i64 0,.int .i64 0,.string ⟨#[]⟩,.int .i64 0,.string ⟨#[]⟩,.int .i64 0] 80)):=⟨_,rfl⟩
   rw [← hw1]
   have HB:=Lib.hid (show Below w.heap.size w w1 by rw [hw1];exact (by repeat (first | exact Below.refl _ _ | refine Below.drew ?_ | refine Below.al ?_ _ | refine Below.sc ?_ _)))
   have Kp:=Lib.hid (show Blk w1 (w.heap.size) 68 #[.int .i64 p.id.kind,.string p.id.text,.int .i64 p.id.n,.int .i64 p.attr.kind,.string p.attr.text,.int .i64 p.attr.n,.int .i64 p.value.kind,.string p.value.text,.int .i64 p.value.n,.int .i64 p.other.kind,.string p.other.text,.int .i64 p.other.n,.int .i64 p.kind,.bool p.o,.int .i64 p.level,.int .i64 p.by_] by rw [hw1];exact ((Blk.new w 68 #[.int .i64 p.id.kind,.string p.id.text,.int .i64 p.id.n,.int .i64 p.attr.kind,.string p.attr.text,.int .i64 p.attr.n,.int .i64 p.value.kind,.string p.value.text,.int .i64 p.value.n,.int .i64 p.other.kind,.string p.other.text,.int .i64 p.other.n,.int .i64 p.kind,.bool p.o,.int .i64 p.level,.int .i64 p.by_]).alloc (.cells #[.string ⟨#[]⟩,.string ⟨#[]⟩,.int .i64 0,.string ⟨#[]⟩,.int .i64 0,.int .i64 0,.string ⟨#[]⟩,.int .i64 0,.string ⟨#[]⟩,.int .i64 0,.string ⟨#[]⟩,.int .i64 0,.string ⟨#[]⟩,.int .i64 0,.int .i64 0,.string ⟨#[]⟩,.int .i64 0,.string ⟨#[]⟩,.int .i64 0] 80)))
   have Kr:=Lib.hid (show Blk w1 (w.heap.size+1) 80 #[.string ⟨#[]⟩,.string ⟨#[]⟩,.int .i64 0,.string ⟨#[]⟩,.int .i64 0,.int .i64 0,.string ⟨#[]⟩,.int .i64 0,.string ⟨#[]⟩,.int .i64 0,.string ⟨#[]⟩,.int .i64 0,.string ⟨#[]⟩,.int .i64 0,.int .i64 0,.string ⟨#[]⟩,.int .i64 0,.string ⟨#[]⟩,.int .i64 0] by rw [hw1];have hh:=(Blk.new (w.alloc (.cells #[.int .i64 p.id.kind,.string p.id.text,.int .i64 p.id.n,.int .i64 p.attr.kind,.string p.attr.text,.int .i64 p.attr.n,.int .i64 p.value.kind,.string p.value.text,.int .i64 p.value.n,.int .i64 p.other.kind,.string p.other.text,.int .i64 p.other.n,.int .i64 p.kind,.bool p.o,.int .i64 p.level,.int .i64 p.by_] 68)) 80 #[.string ⟨#[]⟩,.string ⟨#[]⟩,.int .i64 0,.string ⟨#[]⟩,.int .i64 0,.int .i64 0,.string ⟨#[]⟩,.int .i64 0,.string ⟨#[]⟩,.int .i64 0,.string ⟨#[]⟩,.int .i64 0,.string ⟨#[]⟩,.int .i64 0,.int .i64 0,.string ⟨#[]⟩,.int .i64 0,.string ⟨#[]⟩,.int .i64 0]);simp only [World.size_alloc] at hh;exact hh)
   clear hw1
   obtain ⟨p0,p1,p2,p3,p4,p5,p6,p7,p8,p9,p10,p11,p12,p13,p14,p15⟩:=Kp.out.c16
   have pz:=Kp.out.lt
   obtain ⟨r0,r1,r2,r3,r4,r5,r6,r7,r8,r9,r10,r11,r12,r13,r14,r15,r16,r17,r18⟩:=Kr.out.c19
   have rz:=Kr.out.lt
   clear p0 p1 p2 p3 p4 p5 p6 p7 p8 p9 p10 p11 p12 p13 p14 p15 pz r0 r1 r2 r3 r4 r5 r6 r7 r8 r9 r10 r11 r12 r13 r14 r15 r16 r17 r18 rz 
   have HZ1:=Lib.hid (show w.heap.size+1<w1.heap.size from Kr.out.lt)
   have HVS:=Lib.hid ((VS.start HN.out).new_ HB.out)
   have HMX:=Lib.hid (HM.out.new_ HB.out)
   have HDX:=Lib.hid HDM.out
   have Op:=Lib.hid (show ¬D w.heap.size from fun hk=>by have:=HLT.out _ hk;omega)
   have Or:=Lib.hid (show ¬D (w.heap.size+1) from fun hk=>by have:=HLT.out _ hk;omega)
   have Lp:=Lib.hid Kp.out.lt
   have Lr:=Lib.hid Kr.out.lt
   obtain ⟨p0,p1,p2,p3,p4,p5,p6,p7,p8,p9,p10,p11,p12,p13,p14,p15⟩:=Kp.out.c16
   have pz:=Kp.out.lt
   have HAT:=Lib.hid (HVS.out.atom HO.out.1 HO.out.2.1 HO.out.2.2 HMX.out HDX.out (by omega) p.id)
   rw [HA1.out] at HAT
   go_wp2_with fail
   refine HAT.out.mono ?_
   rintro e wa1 ⟨rfl,hp⟩
   obtain ⟨D1,hvs,hoff,hfr⟩:=HVS.out.put hp
   have Kp:=Lib.hid (Kp.out.fr hfr Op.out)
   have Kr:=Lib.hid (Kr.out.fr hfr Or.out)
   have HMX:=Lib.hid (HMX.out.fr hfr HDX.out)
   have HDX:=Lib.hid (hoff _ (by have:=HM.out.2;have:=HVS.out.fr.size;omega) HDX.out)
   have Op:=Lib.hid (hoff _ Lp.out Op.out)
   have Or:=Lib.hid (hoff _ Lr.out Or.out)
   have HVA:=Lib.hid hvs
   clear hp hvs hoff hfr
   clear p0 p1 p2 p3 p4 p5 p6 p7 p8 p9 p10 p11 p12 p13 p14 p15 pz
   go_upto_region 2 with fail
   obtain ⟨wb1,hw3⟩ : ∃W,W=wa1.alloc (.cells #[.string ⟨#[]⟩,.int .i64 0,.string ⟨#[]⟩,.int .i64 0] 76):=⟨_,rfl⟩
   have hb3:Below wa1.heap.size wa1 wb1:=by rw [hw3];exact (Below.refl _ _).alloc (Nat.le_refl _) _
   obtain ⟨g1,hg1⟩ : ∃g,g=wa1.heap.size:=⟨_,rfl⟩
   have Kq1:=Lib.hid (show Blk wb1 g1 76 #[.string ⟨#[]⟩,.int .i64 0,.string ⟨#[]⟩,.int .i64 0] by rw [hw3,hg1];exact Blk.new _ _ _)
   have Oq1:=Lib.hid (show ¬D1 g1 from fun hk=>by have:=HVA.out.nm.lt _ hk;omega)
   have Lq1:=Lib.hid Kq1.out.lt
   rw [← hw3,← hg1]
   have HVS:=Lib.hid (HVA.out.new_ hb3)
   have HMX:=Lib.hid (HMX.out.new_ hb3)
   have Kp:=Lib.hid (Kp.out.new_ hb3)
   have Lp:=Lib.hid Kp.out.lt
   have Kr:=Lib.hid (Kr.out.new_ hb3)
   have Lr:=Lib.hid Kr.out.lt
   clear hw3 hb3 hg1
   have HT:=Lib.hid (show wb1.there (w.heap.size+1) 0 (#[Value.string ⟨#[]⟩,Value.string ⟨#[]⟩,Value.int IntKind.i64 0,Value.string ⟨#[]⟩,Value.int IntKind.i64 0,Value.int IntKind.i64 0,Value.string ⟨#[]⟩,Value.int IntKind.i64 0,Value.string ⟨#[]⟩,Value.int IntKind.i64 0,Value.string ⟨#[]⟩,Value.int IntKind.i64 0,Value.string ⟨#[]⟩,Value.int IntKind.i64 0,Value.int IntKind.i64 0,Value.string ⟨#[]⟩,Value.int IntKind.i64 0,Value.string ⟨#[]⟩,Value.int IntKind.i64 0]:Array Value).size from Kr.out.there)
   go_wp2_with (with_reducible refine wpList_store_mid rfl 80 _ _ rfl (w.heap.size+1) 0 #[Value.string ⟨#[]⟩,Value.string ⟨#[]⟩,Value.int IntKind.i64 0,Value.string ⟨#[]⟩,Value.int IntKind.i64 0,Value.int IntKind.i64 0,Value.string ⟨#[]⟩,Value.int IntKind.i64 0,Value.string ⟨#[]⟩,Value.int IntKind.i64 0,Value.string ⟨#[]⟩,Value.int IntKind.i64 0,Value.string ⟨#[]⟩,Value.int IntKind.i64 0,Value.int IntKind.i64 0,Value.string ⟨#[]⟩,Value.int IntKind.i64 0,Value.string ⟨#[]⟩,Value.int IntKind.i64 0] rfl rfl HT.out (by kernel_rfl) (by kernel_rfl) ?_)
   try simp only [Exit.inBlock,Exit.then]
   refine bodyPost_ret (v:=.tuple #[.agg #[Value.string ⟨#[]⟩,Value.string ⟨#[]⟩,Value.int IntKind.i64 0,Value.string ⟨#[]⟩,Value.int IntKind.i64 0,Value.int IntKind.i64 0,Value.string ⟨#[]⟩,Value.int IntKind.i64 0,Value.string ⟨#[]⟩,Value.int IntKind.i64 0,Value.string ⟨#[]⟩,Value.int IntKind.i64 0,Value.string ⟨#[]⟩,Value.int IntKind.i64 0,Value.int IntKind.i64 0,Value.string ⟨#[]⟩,Value.int IntKind.i64 0,Value.string ⟨#[]⟩,Value.int IntKind.i64 0],.bool false]) ?_ rfl ?_
   · exact results_cell_tmp (t:=6) (s:=7) (T:=80) rfl _ _ (w.heap.size+1) [Value.string ⟨#[]⟩,Value.string ⟨#[]⟩,Value.int IntKind.i64 0,Value.string ⟨#[]⟩,Value.int IntKind.i64 0,Value.int IntKind.i64 0,Value.string ⟨#[]⟩,Value.int IntKind.i64 0,Value.string ⟨#[]⟩,Value.int IntKind.i64 0,Value.string ⟨#[]⟩,Value.int IntKind.i64 0,Value.string ⟨#[]⟩,Value.int IntKind.i64 0,Value.int IntKind.i64 0,Value.string ⟨#[]⟩,Value.int IntKind.i64 0,Value.string ⟨#[]⟩,Value.int IntKind.i64 0] _ rfl (World.rangeAt_setCells_same wb1 (w.heap.size+1) 0 [Value.string ⟨#[]⟩,Value.string ⟨#[]⟩,Value.int IntKind.i64 0,Value.string ⟨#[]⟩,Value.int IntKind.i64 0,Value.int IntKind.i64 0,Value.string ⟨#[]⟩,Value.int IntKind.i64 0,Value.string ⟨#[]⟩,Value.int IntKind.i64 0,Value.string ⟨#[]⟩,Value.int IntKind.i64 0,Value.string ⟨#[]⟩,Value.int IntKind.i64 0,Value.int IntKind.i64 0,Value.string ⟨#[]⟩,Value.int IntKind.i64 0,Value.string ⟨#[]⟩,Value.int IntKind.i64 0] HT.out) Tryz.underlying80 rfl (by kernel_rfl)
   · have HPT:=HVS.out.fin (Fr.setCells (g:=w.heap.size+1) [Value.string ⟨#[]⟩,Value.string ⟨#[]⟩,Value.int IntKind.i64 0,Value.string ⟨#[]⟩,Value.int IntKind.i64 0,Value.int IntKind.i64 0,Value.string ⟨#[]⟩,Value.int IntKind.i64 0,Value.string ⟨#[]⟩,Value.int IntKind.i64 0,Value.string ⟨#[]⟩,Value.int IntKind.i64 0,Value.string ⟨#[]⟩,Value.int IntKind.i64 0,Value.int IntKind.i64 0,Value.string ⟨#[]⟩,Value.int IntKind.i64 0,Value.string ⟨#[]⟩,Value.int IntKind.i64 0] 0 (Fr.refl (fun k=>k=w.heap.size+1) wb1) (.inl rfl)) (fun k hk=>by subst hk;exact ⟨by omega,Or.out⟩)
     rw [HAV.out]
     exact ⟨⟨⟨⟨#[]⟩,⟨⟨#[]⟩,symZ⟩,⟨0,atomZ,atomZ⟩,0,atomZ⟩,rfl⟩,_,HPT⟩
 | some z=>
   obtain ⟨a1,n1⟩:=z
   have HA1:=Lib.hid hA
   have hln1:=atomV_len hA
   clear hA
   cases hA:atomV old n1 p.value with
   | none=>
     have HA2:=Lib.hid hA
     clear hA
     have HAV:=Lib.hid (show actV3 old ns p=none by unfold actV3;rw [HA1.out];simp only;rw [HA2.out])
     go_enter Tryz.func66,Tryz.ntmps66
     go_upto_region 1 with fail
     obtain ⟨w1,hw1⟩ : ∃w1,w1=((w.alloc (.cells #[.int .i64 p.id.kind,.string p.id.text,.int .i64 p.id.n,.int .i64 p.attr.kind,.string p.attr.text,.int .i64 p.attr.n,.int .i64 p.value.kind,.string p.value.text,.int .i64 p.value.n,.int .i64 p.other.kind,.string p.other.text,.int .i64 p.other.n,.int .i64 p.kind,.bool p.o,.int .i64 p.level,.int .i64 p.by_] 68)).alloc (.cells #[.string ⟨#[]⟩,.string ⟨#[]⟩,.int .i64 0,.string ⟨#[]⟩,.int .i64 0,.int .i64 0,.string ⟨#[]⟩,.int .i64 0,.string ⟨#[]⟩,.int .i64 0,.string ⟨#[]⟩,.int .i64 0,.string ⟨#[]⟩,.int .i64 0,.int .i64 0,.string ⟨#[]⟩,.int .i64 0,.string ⟨#[]⟩,.int .i64 0] 80)):=⟨_,rfl⟩
     rw [← hw1]
     have HB:=Lib.hid (show Below w.heap.size w w1 by rw [hw1];exact (by repeat (first | exact Below.refl _ _ | refine Below.drew ?_ | refine Below.al ?_ _ | refine Below.sc ?_ _)))
     have Kp:=Lib.hid (show Blk w1 (w.heap.size) 68 #[.int .i64 p.id.kind,.string p.id.text,.int .i64 p.id.n,.int .i64 p.attr.kind,.string p.attr.text,.int .i64 p.attr.n,.int .i64 p.value.kind,.string p.value.text,.int .i64 p.value.n,.int .i64 p.other.kind,.string p.other.text,.int .i64 p.other.n,.int .i64 p.kind,.bool p.o,.int .i64 p.level,.int .i64 p.by_] by rw [hw1];exact ((Blk.new w 68 #[.int .i64 p.id.kind,.string p.id.text,.int .i64 p.id.n,.int .i64 p.attr.kind,.string p.attr.text,.int .i64 p.attr.n,.int .i64 p.value.kind,.string p.value.text,.int .i64 p.value.n,.int .i64 p.other.kind,.string p.other.text,.int .i64 p.other.n,.int .i64 p.kind,.bool p.o,.int .i64 p.level,.int .i64 p.by_]).alloc (.cells #[.string ⟨#[]⟩,.string ⟨#[]⟩,.int .i64 0,.string ⟨#[]⟩,.int .i64 0,.int .i64 0,.string ⟨#[]⟩,.int .i64 0,.string ⟨#[]⟩,.int .i64 0,.string ⟨#[]⟩,.int .i64 0,.string ⟨#[]⟩,.int .i64 0,.int .i64 0,.string ⟨#[]⟩,.int .i64 0,.string ⟨#[]⟩,.int .i64 0] 80)))
     have Kr:=Lib.hid (show Blk w1 (w.heap.size+1) 80 #[.string ⟨#[]⟩,.string ⟨#[]⟩,.int .i64 0,.string ⟨#[]⟩,.int .i64 0,.int .i64 0,.string ⟨#[]⟩,.int .i64 0,.string ⟨#[]⟩,.int .i64 0,.string ⟨#[]⟩,.int .i64 0,.string ⟨#[]⟩,.int .i64 0,.int .i64 0,.string ⟨#[]⟩,.int .i64 0,.string ⟨#[]⟩,.int .i64 0] by rw [hw1];have hh:=(Blk.new (w.alloc (.cells #[.int .i64 p.id.kind,.string p.id.text,.int .i64 p.id.n,.int .i64 p.attr.kind,.string p.attr.text,.int .i64 p.attr.n,.int .i64 p.value.kind,.string p.value.text,.int .i64 p.value.n,.int .i64 p.other.kind,.string p.other.text,.int .i64 p.other.n,.int .i64 p.kind,.bool p.o,.int .i64 p.level,.int .i64 p.by_] 68)) 80 #[.string ⟨#[]⟩,.string ⟨#[]⟩,.int .i64 0,.string ⟨#[]⟩,.int .i64 0,.int .i64 0,.string ⟨#[]⟩,.int .i64 0,.string ⟨#[]⟩,.int .i64 0,.string ⟨#[]⟩,.int .i64 0,.string ⟨#[]⟩,.int .i64 0,.int .i64 0,.string ⟨#[]⟩,.int .i64 0,.string ⟨#[]⟩,.int .i64 0]);simp only [World.size_alloc] at hh;exact hh)
     clear hw1
     obtain ⟨p0,p1,p2,p3,p4,p5,p6,p7,p8,p9,p10,p11,p12,p13,p14,p15⟩:=Kp.out.c16
     have pz:=Kp.out.lt
     obtain ⟨r0,r1,r2,r3,r4,r5,r6,r7,r8,r9,r10,r11,r12,r13,r14,r15,r16,r17,r18⟩:=Kr.out.c19
     have rz:=Kr.out.lt
     clear p0 p1 p2 p3 p4 p5 p6 p7 p8 p9 p10 p11 p12 p13 p14 p15 pz r0 r1 r2 r3 r4 r5 r6 r7 r8 r9 r10 r11 r12 r13 r14 r15 r16 r17 r18 rz 
     have HZ1:=Lib.hid (show w.heap.size+1<w1.heap.size from Kr.out.lt)
     have HVS:=Lib.hid ((VS.start HN.out).new_ HB.out)
     have HMX:=Lib.hid (HM.out.new_ HB.out)
     have HDX:=Lib.hid HDM.out
     have Op:=Lib.hid (show ¬D w.heap.size from fun hk=>by have:=HLT.out _ hk;omega)
     have Or:=Lib.hid (show ¬D (w.heap.size+1) from fun hk=>by have:=HLT.out _ hk;omega)
     have Lp:=Lib.hid Kp.out.lt
     have Lr:=Lib.hid Kr.out.lt
     obtain ⟨p0,p1,p2,p3,p4,p5,p6,p7,p8,p9,p10,p11,p12,p13,p14,p15⟩:=Kp.out.c16
     have pz:=Kp.out.lt
     have HAT:=Lib.hid (HVS.out.atom HO.out.1 HO.out.2.1 HO.out.2.2 HMX.out HDX.out (by omega) p.id)
     rw [HA1.out] at HAT
     go_wp2_with fail
     refine HAT.out.mono ?_
     rintro e wa1 ⟨rfl,hp⟩
     obtain ⟨D1,hvs,hoff,hfr⟩:=HVS.out.put hp
     have Kp:=Lib.hid (Kp.out.fr hfr Op.out)
     have Kr:=Lib.hid (Kr.out.fr hfr Or.out)
     have HMX:=Lib.hid (HMX.out.fr hfr HDX.out)
     have HDX:=Lib.hid (hoff _ (by have:=HM.out.2;have:=HVS.out.fr.size;omega) HDX.out)
     have Op:=Lib.hid (hoff _ Lp.out Op.out)
     have Or:=Lib.hid (hoff _ Lr.out Or.out)
     have HVA:=Lib.hid hvs
     clear hp hvs hoff hfr
     clear p0 p1 p2 p3 p4 p5 p6 p7 p8 p9 p10 p11 p12 p13 p14 p15 pz
     go_upto_region 2 with fail
     obtain ⟨wb1,hw3⟩ : ∃W,W=wa1.alloc (.cells #[.string a1.var,.int .i64 a1.sym.kind,.string a1.sym.text,.int .i64 a1.sym.n] 76):=⟨_,rfl⟩
     have hb3:Below wa1.heap.size wa1 wb1:=by rw [hw3];exact (Below.refl _ _).alloc (Nat.le_refl _) _
     obtain ⟨g1,hg1⟩ : ∃g,g=wa1.heap.size:=⟨_,rfl⟩
     have Kq1:=Lib.hid (show Blk wb1 g1 76 #[.string a1.var,.int .i64 a1.sym.kind,.string a1.sym.text,.int .i64 a1.sym.n] by rw [hw3,hg1];exact Blk.new _ _ _)
     have Oq1:=Lib.hid (show ¬D1 g1 from fun hk=>by have:=HVA.out.nm.lt _ hk;omega)
     have Lq1:=Lib.hid Kq1.out.lt
     rw [← hw3,← hg1]
     have HVS:=Lib.hid (HVA.out.new_ hb3)
     have HMX:=Lib.hid (HMX.out.new_ hb3)
     have Kp:=Lib.hid (Kp.out.new_ hb3)
     have Lp:=Lib.hid Kp.out.lt
     have Kr:=Lib.hid (Kr.out.new_ hb3)
     have Lr:=Lib.hid Kr.out.lt
     clear hw3 hb3 hg1
     obtain ⟨p0,p1,p2,p3,p4,p5,p6,p7,p8,p9,p10,p11,p12,p13,p14,p15⟩:=Kp.out.c16
     have pz:=Kp.out.lt
     have HAT:=Lib.hid (HVS.out.atom HO.out.1 HO.out.2.1 HO.out.2.2 HMX.out HDX.out (by omega) p.value)
     rw [HA2.out] at HAT
     go_wp2_with fail
     refine HAT.out.mono ?_
     rintro e wa2 ⟨rfl,hp⟩
     obtain ⟨D2,hvs,hoff,hfr⟩:=HVS.out.put hp
     have Kp:=Lib.hid (Kp.out.fr hfr Op.out)
     have Kr:=Lib.hid (Kr.out.fr hfr Or.out)
     have Kq1:=Lib.hid (Kq1.out.fr hfr Oq1.out)
     have HMX:=Lib.hid (HMX.out.fr hfr HDX.out)
     have HDX:=Lib.hid (hoff _ (by have:=HM.out.2;have:=HVS.out.fr.size;omega) HDX.out)
     have Op:=Lib.hid (hoff _ Lp.out Op.out)
     have Or:=Lib.hid (hoff _ Lr.out Or.out)
     have Oq1:=Lib.hid (hoff _ Lq1.out Oq1.out)
     have HVA:=Lib.hid hvs
     clear hp hvs hoff hfr
     clear p0 p1 p2 p3 p4 p5 p6 p7 p8 p9 p10 p11 p12 p13 p14 p15 pz
     go_upto_region 5 with fail
     obtain ⟨wb2,hw3⟩ : ∃W,W=wa2.alloc (.cells #[.string ⟨#[]⟩,.int .i64 0,.string ⟨#[]⟩,.int .i64 0] 76):=⟨_,rfl⟩
     have hb3:Below wa2.heap.size wa2 wb2:=by rw [hw3];exact (Below.refl _ _).alloc (Nat.le_refl _) _
     obtain ⟨g2,hg2⟩ : ∃g,g=wa2.heap.size:=⟨_,rfl⟩
     have Kq2:=Lib.hid (show Blk wb2 g2 76 #[.string ⟨#[]⟩,.int .i64 0,.string ⟨#[]⟩,.int .i64 0] by rw [hw3,hg2];exact Blk.new _ _ _)
     have Oq2:=Lib.hid (show ¬D2 g2 from fun hk=>by have:=HVA.out.nm.lt _ hk;omega)
     have Lq2:=Lib.hid Kq2.out.lt
     rw [← hw3,← hg2]
     have HVS:=Lib.hid (HVA.out.new_ hb3)
     have HMX:=Lib.hid (HMX.out.new_ hb3)
     have Kp:=Lib.hid (Kp.out.new_ hb3)
     have Lp:=Lib.hid Kp.out.lt
     have Kr:=Lib.hid (Kr.out.new_ hb3)
     have Lr:=Lib.hid Kr.out.lt
     have Kq1:=Lib.hid (Kq1.out.new_ hb3)
     have Lq1:=Lib.hid Kq1.out.lt
     clear hw3 hb3 hg2
     have HT:=Lib.hid (show wb2.there (w.heap.size+1) 0 (#[Value.string ⟨#[]⟩,Value.string ⟨#[]⟩,Value.int IntKind.i64 0,Value.string ⟨#[]⟩,Value.int IntKind.i64 0,Value.int IntKind.i64 0,Value.string ⟨#[]⟩,Value.int IntKind.i64 0,Value.string ⟨#[]⟩,Value.int IntKind.i64 0,Value.string ⟨#[]⟩,Value.int IntKind.i64 0,Value.string ⟨#[]⟩,Value.int IntKind.i64 0,Value.int IntKind.i64 0,Value.string ⟨#[]⟩,Value.int IntKind.i64 0,Value.string ⟨#[]⟩,Value.int IntKind.i64 0]:Array Value).size from Kr.out.there)
     go_wp2_with (with_reducible refine wpList_store_mid rfl 80 _ _ rfl (w.heap.size+1) 0 #[Value.string ⟨#[]⟩,Value.string ⟨#[]⟩,Value.int IntKind.i64 0,Value.string ⟨#[]⟩,Value.int IntKind.i64 0,Value.int IntKind.i64 0,Value.string ⟨#[]⟩,Value.int IntKind.i64 0,Value.string ⟨#[]⟩,Value.int IntKind.i64 0,Value.string ⟨#[]⟩,Value.int IntKind.i64 0,Value.string ⟨#[]⟩,Value.int IntKind.i64 0,Value.int IntKind.i64 0,Value.string ⟨#[]⟩,Value.int IntKind.i64 0,Value.string ⟨#[]⟩,Value.int IntKind.i64 0] rfl rfl HT.out (by kernel_rfl) (by kernel_rfl) ?_)
     try simp only [Exit.inBlock,Exit.then]
     refine bodyPost_ret (v:=.tuple #[.agg #[Value.string ⟨#[]⟩,Value.string ⟨#[]⟩,Value.int IntKind.i64 0,Value.string ⟨#[]⟩,Value.int IntKind.i64 0,Value.int IntKind.i64 0,Value.string ⟨#[]⟩,Value.int IntKind.i64 0,Value.string ⟨#[]⟩,Value.int IntKind.i64 0,Value.string ⟨#[]⟩,Value.int IntKind.i64 0,Value.string ⟨#[]⟩,Value.int IntKind.i64 0,Value.int IntKind.i64 0,Value.string ⟨#[]⟩,Value.int IntKind.i64 0,Value.string ⟨#[]⟩,Value.int IntKind.i64 0],.bool false]) ?_ rfl ?_
     · exact results_cell_tmp (t:=6) (s:=7) (T:=80) rfl _ _ (w.heap.size+1) [Value.string ⟨#[]⟩,Value.string ⟨#[]⟩,Value.int IntKind.i64 0,Value.string ⟨#[]⟩,Value.int IntKind.i64 0,Value.int IntKind.i64 0,Value.string ⟨#[]⟩,Value.int IntKind.i64 0,Value.string ⟨#[]⟩,Value.int IntKind.i64 0,Value.string ⟨#[]⟩,Value.int IntKind.i64 0,Value.string ⟨#[]⟩,Value.int IntKind.i64 0,Value.int IntKind.i64 0,Value.string ⟨#[]⟩,Value.int IntKind.i64 0,Value.string ⟨#[]⟩,Value.int IntKind.i64 0] _ rfl (World.rangeAt_setCells_same wb2 (w.heap.size+1) 0 [Value.string ⟨#[]⟩,Value.string ⟨#[]⟩,Value.int IntKind.i64 0,Value.string ⟨#[]⟩,Value.int IntKind.i64 0,Value.int IntKind.i64 0,Value.string ⟨#[]⟩,Value.int IntKind.i64 0,Value.string ⟨#[]⟩,Value.int IntKind.i64 0,Value.string ⟨#[]⟩,Value.int IntKind.i64 0,Value.string ⟨#[]⟩,Value.int IntKind.i64 0,Value.int IntKind.i64 0,Value.string ⟨#[]⟩,Value.int IntKind.i64 0,Value.string ⟨#[]⟩,Value.int IntKind.i64 0] HT.out) Tryz.underlying80 rfl (by kernel_rfl)
     · have HPT:=HVS.out.fin (Fr.setCells (g:=w.heap.size+1) [Value.string ⟨#[]⟩,Value.string ⟨#[]⟩,Value.int IntKind.i64 0,Value.string ⟨#[]⟩,Value.int IntKind.i64 0,Value.int IntKind.i64 0,Value.string ⟨#[]⟩,Value.int IntKind.i64 0,Value.string ⟨#[]⟩,Value.int IntKind.i64 0,Value.string ⟨#[]⟩,Value.int IntKind.i64 0,Value.string ⟨#[]⟩,Value.int IntKind.i64 0,Value.int IntKind.i64 0,Value.string ⟨#[]⟩,Value.int IntKind.i64 0,Value.string ⟨#[]⟩,Value.int IntKind.i64 0] 0 (Fr.refl (fun k=>k=w.heap.size+1) wb2) (.inl rfl)) (fun k hk=>by subst hk;exact ⟨by omega,Or.out⟩)
       rw [HAV.out]
       exact ⟨⟨⟨⟨#[]⟩,⟨⟨#[]⟩,symZ⟩,⟨0,atomZ,atomZ⟩,0,atomZ⟩,rfl⟩,_,HPT⟩
   | some z=>
     obtain ⟨a2,n2⟩:=z
     have HA2:=Lib.hid hA
     have hln2:=atomV_len hA
     clear hA
     cases hA:atomV old n2 p.other with
     | none=>
       have HA3:=Lib.hid hA
       clear hA
       have HAV:=Lib.hid (show actV3 old ns p=none by unfold actV3;rw [HA1.out];simp only;rw [HA2.out];simp only;rw [HA3.out])
       go_enter Tryz.func66,Tryz.ntmps66
       go_upto_region 1 with fail
       obtain ⟨w1,hw1⟩ : ∃w1,w1=((w.alloc (.cells #[.int .i64 p.id.kind,.string p.id.text,.int .i64 p.id.n,.int .i64 p.attr.kind,.string p.attr.text,.int .i64 p.attr.n,.int .i64 p.value.kind,.string p.value.text,.int .i64 p.value.n,.int .i64 p.other.kind,.string p.other.text,.int .i64 p.other.n,.int .i64 p.kind,.bool p.o,.int .i64 p.level,.int .i64 p.by_] 68)).alloc (.cells #[.string ⟨#[]⟩,.string ⟨#[]⟩,.int .i64 0,.string ⟨#[]⟩,.int .i64 0,.int .i64 0,.string ⟨#[]⟩,.int .i64 0,.string ⟨#[]⟩,.int .i64 0,.string ⟨#[]⟩,.int .i64 0,.string ⟨#[]⟩,.int .i64 0,.int .i64 0,.string ⟨#[]⟩,.int .i64 0,.string ⟨#[]⟩,.int .i64 0] 80)):=⟨_,rfl⟩
       rw [← hw1]
       have HB:=Lib.hid (show Below w.heap.size w w1 by rw [hw1];exact (by repeat (first | exact Below.refl _ _ | refine Below.drew ?_ | refine Below.al ?_ _ | refine Below.sc ?_ _)))
       have Kp:=Lib.hid (show Blk w1 (w.heap.size) 68 #[.int .i64 p.id.kind,.string p.id.text,.int .i64 p.id.n,.int .i64 p.attr.kind,.string p.attr.text,.int .i64 p.attr.n,.int .i64 p.value.kind,.string p.value.text,.int .i64 p.value.n,.int .i64 p.other.kind,.string p.other.text,.int .i64 p.other.n,.int .i64 p.kind,.bool p.o,.int .i64 p.level,.int .i64 p.by_] by rw [hw1];exact ((Blk.new w 68 #[.int .i64 p.id.kind,.string p.id.text,.int .i64 p.id.n,.int .i64 p.attr.kind,.string p.attr.text,.int .i64 p.attr.n,.int .i64 p.value.kind,.string p.value.text,.int .i64 p.value.n,.int .i64 p.other.kind,.string p.other.text,.int .i64 p.other.n,.int .i64 p.kind,.bool p.o,.int .i64 p.level,.int .i64 p.by_]).alloc (.cells #[.string ⟨#[]⟩,.string ⟨#[]⟩,.int .i64 0,.string ⟨#[]⟩,.int .i64 0,.int .i64 0,.string ⟨#[]⟩,.int .i64 0,.string ⟨#[]⟩,.int .i64 0,.string ⟨#[]⟩,.int .i64 0,.string ⟨#[]⟩,.int .i64 0,.int .i64 0,.string ⟨#[]⟩,.int .i64 0,.string ⟨#[]⟩,.int .i64 0] 80)))
       have Kr:=Lib.hid (show Blk w1 (w.heap.size+1) 80 #[.string ⟨#[]⟩,.string ⟨#[]⟩,.int .i64 0,.string ⟨#[]⟩,.int .i64 0,.int .i64 0,.string ⟨#[]⟩,.int .i64 0,.string ⟨#[]⟩,.int .i64 0,.string ⟨#[]⟩,.int .i64 0,.string ⟨#[]⟩,.int .i64 0,.int .i64 0,.string ⟨#[]⟩,.int .i64 0,.string ⟨#[]⟩,.int .i64 0] by rw [hw1];have hh:=(Blk.new (w.alloc (.cells #[.int .i64 p.id.kind,.string p.id.text,.int .i64 p.id.n,.int .i64 p.attr.kind,.string p.attr.text,.int .i64 p.attr.n,.int .i64 p.value.kind,.string p.value.text,.int .i64 p.value.n,.int .i64 p.other.kind,.string p.other.text,.int .i64 p.other.n,.int .i64 p.kind,.bool p.o,.int .i64 p.level,.int .i64 p.by_] 68)) 80 #[.string ⟨#[]⟩,.string ⟨#[]⟩,.int .i64 0,.string ⟨#[]⟩,.int .i64 0,.int .i64 0,.string ⟨#[]⟩,.int .i64 0,.string ⟨#[]⟩,.int .i64 0,.string ⟨#[]⟩,.int .i64 0,.string ⟨#[]⟩,.int .i64 0,.int .i64 0,.string ⟨#[]⟩,.int .i64 0,.string ⟨#[]⟩,.int .i64 0]);simp only [World.size_alloc] at hh;exact hh)
       clear hw1
       obtain ⟨p0,p1,p2,p3,p4,p5,p6,p7,p8,p9,p10,p11,p12,p13,p14,p15⟩:=Kp.out.c16
       have pz:=Kp.out.lt
       obtain ⟨r0,r1,r2,r3,r4,r5,r6,r7,r8,r9,r10,r11,r12,r13,r14,r15,r16,r17,r18⟩:=Kr.out.c19
       have rz:=Kr.out.lt
       clear p0 p1 p2 p3 p4 p5 p6 p7 p8 p9 p10 p11 p12 p13 p14 p15 pz r0 r1 r2 r3 r4 r5 r6 r7 r8 r9 r10 r11 r12 r13 r14 r15 r16 r17 r18 rz 
       have HZ1:=Lib.hid (show w.heap.size+1<w1.heap.size from Kr.out.lt)
       have HVS:=Lib.hid ((VS.start HN.out).new_ HB.out)
       have HMX:=Lib.hid (HM.out.new_ HB.out)
       have HDX:=Lib.hid HDM.out
       have Op:=Lib.hid (show ¬D w.heap.size from fun hk=>by have:=HLT.out _ hk;omega)
       have Or:=Lib.hid (show ¬D (w.heap.size+1) from fun hk=>by have:=HLT.out _ hk;omega)
       have Lp:=Lib.hid Kp.out.lt
       have Lr:=Lib.hid Kr.out.lt
       obtain ⟨p0,p1,p2,p3,p4,p5,p6,p7,p8,p9,p10,p11,p12,p13,p14,p15⟩:=Kp.out.c16
       have pz:=Kp.out.lt
       have HAT:=Lib.hid (HVS.out.atom HO.out.1 HO.out.2.1 HO.out.2.2 HMX.out HDX.out (by omega) p.id)
       rw [HA1.out] at HAT
       go_wp2_with fail
       refine HAT.out.mono ?_
       rintro e wa1 ⟨rfl,hp⟩
       obtain ⟨D1,hvs,hoff,hfr⟩:=HVS.out.put hp
       have Kp:=Lib.hid (Kp.out.fr hfr Op.out)
       have Kr:=Lib.hid (Kr.out.fr hfr Or.out)
       have HMX:=Lib.hid (HMX.out.fr hfr HDX.out)
       have HDX:=Lib.hid (hoff _ (by have:=HM.out.2;have:=HVS.out.fr.size;omega) HDX.out)
       have Op:=Lib.hid (hoff _ Lp.out Op.out)
       have Or:=Lib.hid (hoff _ Lr.out Or.out)
       have HVA:=Lib.hid hvs
       clear hp hvs hoff hfr
       clear p0 p1 p2 p3 p4 p5 p6 p7 p8 p9 p10 p11 p12 p13 p14 p15 pz
       go_upto_region 2 with fail
       obtain ⟨wb1,hw3⟩ : ∃W,W=wa1.alloc (.cells #[.string a1.var,.int .i64 a1.sym.kind,.string a1.sym.text,.int .i64 a1.sym.n] 76):=⟨_,rfl⟩
       have hb3:Below wa1.heap.size wa1 wb1:=by rw [hw3];exact (Below.refl _ _).alloc (Nat.le_refl _) _
       obtain ⟨g1,hg1⟩ : ∃g,g=wa1.heap.size:=⟨_,rfl⟩
       have Kq1:=Lib.hid (show Blk wb1 g1 76 #[.string a1.var,.int .i64 a1.sym.kind,.string a1.sym.text,.int .i64 a1.sym.n] by rw [hw3,hg1];exact Blk.new _ _ _)
       have Oq1:=Lib.hid (show ¬D1 g1 from fun hk=>by have:=HVA.out.nm.lt _ hk;omega)
       have Lq1:=Lib.hid Kq1.out.lt
       rw [← hw3,← hg1]
       have HVS:=Lib.hid (HVA.out.new_ hb3)
       have HMX:=Lib.hid (HMX.out.new_ hb3)
       have Kp:=Lib.hid (Kp.out.new_ hb3)
       have Lp:=Lib.hid Kp.out.lt
       have Kr:=Lib.hid (Kr.out.new_ hb3)
       have Lr:=Lib.hid Kr.out.lt
       clear hw3 hb3 hg1
       obtain ⟨p0,p1,p2,p3,p4,p5,p6,p7,p8,p9,p10,p11,p12,p13,p14,p15⟩:=Kp.out.c16
       have pz:=Kp.out.lt
       have HAT:=Lib.hid (HVS.out.atom HO.out.1 HO.out.2.1 HO.out.2.2 HMX.out HDX.out (by omega) p.value)
       rw [HA2.out] at HAT
       go_wp2_with fail
       refine HAT.out.mono ?_
       rintro e wa2 ⟨rfl,hp⟩
       obtain ⟨D2,hvs,hoff,hfr⟩:=HVS.out.put hp
       have Kp:=Lib.hid (Kp.out.fr hfr Op.out)
       have Kr:=Lib.hid (Kr.out.fr hfr Or.out)
       have Kq1:=Lib.hid (Kq1.out.fr hfr Oq1.out)
       have HMX:=Lib.hid (HMX.out.fr hfr HDX.out)
       have HDX:=Lib.hid (hoff _ (by have:=HM.out.2;have:=HVS.out.fr.size;omega) HDX.out)
       have Op:=Lib.hid (hoff _ Lp.out Op.out)
       have Or:=Lib.hid (hoff _ Lr.out Or.out)
       have Oq1:=Lib.hid (hoff _ Lq1.out Oq1.out)
       have HVA:=Lib.hid hvs
       clear hp hvs hoff hfr
       clear p0 p1 p2 p3 p4 p5 p6 p7 p8 p9 p10 p11 p12 p13 p14 p15 pz
       go_upto_region 5 with fail
       obtain ⟨wb2,hw3⟩ : ∃W,W=wa2.alloc (.cells #[.string a2.var,.int .i64 a2.sym.kind,.string a2.sym.text,.int .i64 a2.sym.n] 76):=⟨_,rfl⟩
       have hb3:Below wa2.heap.size wa2 wb2:=by rw [hw3];exact (Below.refl _ _).alloc (Nat.le_refl _) _
       obtain ⟨g2,hg2⟩ : ∃g,g=wa2.heap.size:=⟨_,rfl⟩
       have Kq2:=Lib.hid (show Blk wb2 g2 76 #[.string a2.var,.int .i64 a2.sym.kind,.string a2.sym.text,.int .i64 a2.sym.n] by rw [hw3,hg2];exact Blk.new _ _ _)
       have Oq2:=Lib.hid (show ¬D2 g2 from fun hk=>by have:=HVA.out.nm.lt _ hk;omega)
       have Lq2:=Lib.hid Kq2.out.lt
       rw [← hw3,← hg2]
       have HVS:=Lib.hid (HVA.out.new_ hb3)
       have HMX:=Lib.hid (HMX.out.new_ hb3)
       have Kp:=Lib.hid (Kp.out.new_ hb3)
       have Lp:=Lib.hid Kp.out.lt
       have Kr:=Lib.hid (Kr.out.new_ hb3)
       have Lr:=Lib.hid Kr.out.lt
       have Kq1:=Lib.hid (Kq1.out.new_ hb3)
       have Lq1:=Lib.hid Kq1.out.lt
       clear hw3 hb3 hg2
       obtain ⟨p0,p1,p2,p3,p4,p5,p6,p7,p8,p9,p10,p11,p12,p13,p14,p15⟩:=Kp.out.c16
       have pz:=Kp.out.lt
       have HAT:=Lib.hid (HVS.out.atom HO.out.1 HO.out.2.1 HO.out.2.2 HMX.out HDX.out (by omega) p.other)
       rw [HA3.out] at HAT
       go_wp2_with fail
       refine HAT.out.mono ?_
       rintro e wa3 ⟨rfl,hp⟩
       obtain ⟨D3,hvs,hoff,hfr⟩:=HVS.out.put hp
       have Kp:=Lib.hid (Kp.out.fr hfr Op.out)
       have Kr:=Lib.hid (Kr.out.fr hfr Or.out)
       have Kq1:=Lib.hid (Kq1.out.fr hfr Oq1.out)
       have Kq2:=Lib.hid (Kq2.out.fr hfr Oq2.out)
       have HMX:=Lib.hid (HMX.out.fr hfr HDX.out)
       have HDX:=Lib.hid (hoff _ (by have:=HM.out.2;have:=HVS.out.fr.size;omega) HDX.out)
       have Op:=Lib.hid (hoff _ Lp.out Op.out)
       have Or:=Lib.hid (hoff _ Lr.out Or.out)
       have Oq1:=Lib.hid (hoff _ Lq1.out Oq1.out)
       have Oq2:=Lib.hid (hoff _ Lq2.out Oq2.out)
       have HVA:=Lib.hid hvs
       clear hp hvs hoff hfr
       clear p0 p1 p2 p3 p4 p5 p6 p7 p8 p9 p10 p11 p12 p13 p14 p15 pz
       go_upto_region 8 with fail
       obtain ⟨wb3,hw3⟩ : ∃W,W=wa3.alloc (.cells #[.string ⟨#[]⟩,.int .i64 0,.string ⟨#[]⟩,.int .i64 0] 76):=⟨_,rfl⟩
       have hb3:Below wa3.heap.size wa3 wb3:=by rw [hw3];exact (Below.refl _ _).alloc (Nat.le_refl _) _
       obtain ⟨g3,hg3⟩ : ∃g,g=wa3.heap.size:=⟨_,rfl⟩
       have Kq3:=Lib.hid (show Blk wb3 g3 76 #[.string ⟨#[]⟩,.int .i64 0,.string ⟨#[]⟩,.int .i64 0] by rw [hw3,hg3];exact Blk.new _ _ _)
       have Oq3:=Lib.hid (show ¬D3 g3 from fun hk=>by have:=HVA.out.nm.lt _ hk;omega)
       have Lq3:=Lib.hid Kq3.out.lt
       rw [← hw3,← hg3]
       have HVS:=Lib.hid (HVA.out.new_ hb3)
       have HMX:=Lib.hid (HMX.out.new_ hb3)
       have Kp:=Lib.hid (Kp.out.new_ hb3)
       have Lp:=Lib.hid Kp.out.lt
       have Kr:=Lib.hid (Kr.out.new_ hb3)
       have Lr:=Lib.hid Kr.out.lt
       have Kq1:=Lib.hid (Kq1.out.new_ hb3)
       have Lq1:=Lib.hid Kq1.out.lt
       have Kq2:=Lib.hid (Kq2.out.new_ hb3)
       have Lq2:=Lib.hid Kq2.out.lt
       clear hw3 hb3 hg3
       obtain ⟨p0,p1,p2,p3,p4,p5,p6,p7,p8,p9,p10,p11,p12,p13,p14,p15⟩:=Kp.out.c16
       have pz:=Kp.out.lt
       obtain ⟨q10,q11,q12,q13⟩:=Kq1.out.c4
       have q1z:=Kq1.out.lt
       obtain ⟨q20,q21,q22,q23⟩:=Kq2.out.c4
       have q2z:=Kq2.out.lt
       obtain ⟨q30,q31,q32,q33⟩:=Kq3.out.c4
       have q3z:=Kq3.out.lt
       have HT:=Lib.hid (show wb3.there (w.heap.size+1) 0 (#[Value.string a1.var,Value.string ⟨#[]⟩,Value.int IntKind.i64 p.attr.kind,Value.string p.attr.text,Value.int IntKind.i64 p.attr.n,Value.int IntKind.i64 0,Value.string a2.var,Value.int IntKind.i64 a2.sym.kind,Value.string a2.sym.text,Value.int IntKind.i64 a2.sym.n,Value.string ⟨#[]⟩,Value.int IntKind.i64 0,Value.string ⟨#[]⟩,Value.int IntKind.i64 0,Value.int IntKind.i64 p.kind,Value.string ⟨#[]⟩,Value.int IntKind.i64 0,Value.string ⟨#[]⟩,Value.int IntKind.i64 0]:Array Value).size from Kr.out.there)
       go_wp2_with (with_reducible refine wpList_store_mid rfl 80 _ _ rfl (w.heap.size+1) 0 #[Value.string a1.var,Value.string ⟨#[]⟩,Value.int IntKind.i64 p.attr.kind,Value.string p.attr.text,Value.int IntKind.i64 p.attr.n,Value.int IntKind.i64 0,Value.string a2.var,Value.int IntKind.i64 a2.sym.kind,Value.string a2.sym.text,Value.int IntKind.i64 a2.sym.n,Value.string ⟨#[]⟩,Value.int IntKind.i64 0,Value.string ⟨#[]⟩,Value.int IntKind.i64 0,Value.int IntKind.i64 p.kind,Value.string ⟨#[]⟩,Value.int IntKind.i64 0,Value.string ⟨#[]⟩,Value.int IntKind.i64 0] rfl rfl HT.out (by kernel_rfl) (by kernel_rfl) ?_)
       try simp only [Exit.inBlock,Exit.then]
       refine bodyPost_ret (v:=.tuple #[.agg #[Value.string a1.var,Value.string ⟨#[]⟩,Value.int IntKind.i64 p.attr.kind,Value.string p.attr.text,Value.int IntKind.i64 p.attr.n,Value.int IntKind.i64 0,Value.string a2.var,Value.int IntKind.i64 a2.sym.kind,Value.string a2.sym.text,Value.int IntKind.i64 a2.sym.n,Value.string ⟨#[]⟩,Value.int IntKind.i64 0,Value.string ⟨#[]⟩,Value.int IntKind.i64 0,Value.int IntKind.i64 p.kind,Value.string ⟨#[]⟩,Value.int IntKind.i64 0,Value.string ⟨#[]⟩,Value.int IntKind.i64 0],.bool false]) ?_ rfl ?_
       · exact results_cell_tmp (t:=6) (s:=7) (T:=80) rfl _ _ (w.heap.size+1) [Value.string a1.var,Value.string ⟨#[]⟩,Value.int IntKind.i64 p.attr.kind,Value.string p.attr.text,Value.int IntKind.i64 p.attr.n,Value.int IntKind.i64 0,Value.string a2.var,Value.int IntKind.i64 a2.sym.kind,Value.string a2.sym.text,Value.int IntKind.i64 a2.sym.n,Value.string ⟨#[]⟩,Value.int IntKind.i64 0,Value.string ⟨#[]⟩,Value.int IntKind.i64 0,Value.int IntKind.i64 p.kind,Value.string ⟨#[]⟩,Value.int IntKind.i64 0,Value.string ⟨#[]⟩,Value.int IntKind.i64 0] _ rfl (World.rangeAt_setCells_same wb3 (w.heap.size+1) 0 [Value.string a1.var,Value.string ⟨#[]⟩,Value.int IntKind.i64 p.attr.kind,Value.string p.attr.text,Value.int IntKind.i64 p.attr.n,Value.int IntKind.i64 0,Value.string a2.var,Value.int IntKind.i64 a2.sym.kind,Value.string a2.sym.text,Value.int IntKind.i64 a2.sym.n,Value.string ⟨#[]⟩,Value.int IntKind.i64 0,Value.string ⟨#[]⟩,Value.int IntKind.i64 0,Value.int IntKind.i64 p.kind,Value.string ⟨#[]⟩,Value.int IntKind.i64 0,Value.string ⟨#[]⟩,Value.int IntKind.i64 0] HT.out) Tryz.underlying80 rfl (by kernel_rfl)
       · have HPT:=HVS.out.fin (Fr.setCells (g:=w.heap.size+1) [Value.string a1.var,Value.string ⟨#[]⟩,Value.int IntKind.i64 p.attr.kind,Value.string p.attr.text,Value.int IntKind.i64 p.attr.n,Value.int IntKind.i64 0,Value.string a2.var,Value.int IntKind.i64 a2.sym.kind,Value.string a2.sym.text,Value.int IntKind.i64 a2.sym.n,Value.string ⟨#[]⟩,Value.int IntKind.i64 0,Value.string ⟨#[]⟩,Value.int IntKind.i64 0,Value.int IntKind.i64 p.kind,Value.string ⟨#[]⟩,Value.int IntKind.i64 0,Value.string ⟨#[]⟩,Value.int IntKind.i64 0] 0 (Fr.refl (fun k=>k=w.heap.size+1) wb3) (.inl rfl)) (fun k hk=>by subst hk;exact ⟨by omega,Or.out⟩)
         rw [HAV.out]
         exact ⟨⟨⟨a1.var,⟨⟨#[]⟩,p.attr⟩,⟨0,a2,atomZ⟩,p.kind,atomZ⟩,rfl⟩,_,HPT⟩
     | some z=>
       obtain ⟨a3,n3⟩:=z
       have HA3:=Lib.hid hA
       have hln3:=atomV_len hA
       clear hA
       have HAV:=Lib.hid (show actV3 old ns p=some (⟨a1.var,⟨⟨#[]⟩,p.attr⟩,⟨0,a2,atomZ⟩,p.kind,a3⟩,n3) by unfold actV3;rw [HA1.out];simp only;rw [HA2.out];simp only;rw [HA3.out])
       go_enter Tryz.func66,Tryz.ntmps66
       go_upto_region 1 with fail
       obtain ⟨w1,hw1⟩ : ∃w1,w1=((w.alloc (.cells #[.int .i64 p.id.kind,.string p.id.text,.int .i64 p.id.n,.int .i64 p.attr.kind,.string p.attr.text,.int .i64 p.attr.n,.int .i64 p.value.kind,.string p.value.text,.int .i64 p.value.n,.int .i64 p.other.kind,.string p.other.text,.int .i64 p.other.n,.int .i64 p.kind,.bool p.o,.int .i64 p.level,.int .i64 p.by_] 68)).alloc (.cells #[.string ⟨#[]⟩,.string ⟨#[]⟩,.int .i64 0,.string ⟨#[]⟩,.int .i64 0,.int .i64 0,.string ⟨#[]⟩,.int .i64 0,.string ⟨#[]⟩,.int .i64 0,.string ⟨#[]⟩,.int .i64 0,.string ⟨#[]⟩,.int .i64 0,.int .i64 0,.string ⟨#[]⟩,.int .i64 0,.string ⟨#[]⟩,.int .i64 0] 80)):=⟨_,rfl⟩
       rw [← hw1]
       have HB:=Lib.hid (show Below w.heap.size w w1 by rw [hw1];exact (by repeat (first | exact Below.refl _ _ | refine Below.drew ?_ | refine Below.al ?_ _ | refine Below.sc ?_ _)))
       have Kp:=Lib.hid (show Blk w1 (w.heap.size) 68 #[.int .i64 p.id.kind,.string p.id.text,.int .i64 p.id.n,.int .i64 p.attr.kind,.string p.attr.text,.int .i64 p.attr.n,.int .i64 p.value.kind,.string p.value.text,.int .i64 p.value.n,.int .i64 p.other.kind,.string p.other.text,.int .i64 p.other.n,.int .i64 p.kind,.bool p.o,.int .i64 p.level,.int .i64 p.by_] by rw [hw1];exact ((Blk.new w 68 #[.int .i64 p.id.kind,.string p.id.text,.int .i64 p.id.n,.int .i64 p.attr.kind,.string p.attr.text,.int .i64 p.attr.n,.int .i64 p.value.kind,.string p.value.text,.int .i64 p.value.n,.int .i64 p.other.kind,.string p.other.text,.int .i64 p.other.n,.int .i64 p.kind,.bool p.o,.int .i64 p.level,.int .i64 p.by_]).alloc (.cells #[.string ⟨#[]⟩,.string ⟨#[]⟩,.int .i64 0,.string ⟨#[]⟩,.int .i64 0,.int .i64 0,.string ⟨#[]⟩,.int .i64 0,.string ⟨#[]⟩,.int .i64 0,.string ⟨#[]⟩,.int .i64 0,.string ⟨#[]⟩,.int .i64 0,.int .i64 0,.string ⟨#[]⟩,.int .i64 0,.string ⟨#[]⟩,.int .i64 0] 80)))
       have Kr:=Lib.hid (show Blk w1 (w.heap.size+1) 80 #[.string ⟨#[]⟩,.string ⟨#[]⟩,.int .i64 0,.string ⟨#[]⟩,.int .i64 0,.int .i64 0,.string ⟨#[]⟩,.int .i64 0,.string ⟨#[]⟩,.int .i64 0,.string ⟨#[]⟩,.int .i64 0,.string ⟨#[]⟩,.int .i64 0,.int .i64 0,.string ⟨#[]⟩,.int .i64 0,.string ⟨#[]⟩,.int .i64 0] by rw [hw1];have hh:=(Blk.new (w.alloc (.cells #[.int .i64 p.id.kind,.string p.id.text,.int .i64 p.id.n,.int .i64 p.attr.kind,.string p.attr.text,.int .i64 p.attr.n,.int .i64 p.value.kind,.string p.value.text,.int .i64 p.value.n,.int .i64 p.other.kind,.string p.other.text,.int .i64 p.other.n,.int .i64 p.kind,.bool p.o,.int .i64 p.level,.int .i64 p.by_] 68)) 80 #[.string ⟨#[]⟩,.string ⟨#[]⟩,.int .i64 0,.string ⟨#[]⟩,.int .i64 0,.int .i64 0,.string ⟨#[]⟩,.int .i64 0,.string ⟨#[]⟩,.int .i64 0,.string ⟨#[]⟩,.int .i64 0,.string ⟨#[]⟩,.int .i64 0,.int .i64 0,.string ⟨#[]⟩,.int .i64 0,.string ⟨#[]⟩,.int .i64 0]);simp only [World.size_alloc] at hh;exact hh)
       clear hw1
       obtain ⟨p0,p1,p2,p3,p4,p5,p6,p7,p8,p9,p10,p11,p12,p13,p14,p15⟩:=Kp.out.c16
       have pz:=Kp.out.lt
       obtain ⟨r0,r1,r2,r3,r4,r5,r6,r7,r8,r9,r10,r11,r12,r13,r14,r15,r16,r17,r18⟩:=Kr.out.c19
       have rz:=Kr.out.lt
       clear p0 p1 p2 p3 p4 p5 p6 p7 p8 p9 p10 p11 p12 p13 p14 p15 pz r0 r1 r2 r3 r4 r5 r6 r7 r8 r9 r10 r11 r12 r13 r14 r15 r16 r17 r18 rz 
       have HZ1:=Lib.hid (show w.heap.size+1<w1.heap.size from Kr.out.lt)
       have HVS:=Lib.hid ((VS.start HN.out).new_ HB.out)
       have HMX:=Lib.hid (HM.out.new_ HB.out)
       have HDX:=Lib.hid HDM.out
       have Op:=Lib.hid (show ¬D w.heap.size from fun hk=>by have:=HLT.out _ hk;omega)
       have Or:=Lib.hid (show ¬D (w.heap.size+1) from fun hk=>by have:=HLT.out _ hk;omega)
       have Lp:=Lib.hid Kp.out.lt
       have Lr:=Lib.hid Kr.out.lt
       obtain ⟨p0,p1,p2,p3,p4,p5,p6,p7,p8,p9,p10,p11,p12,p13,p14,p15⟩:=Kp.out.c16
       have pz:=Kp.out.lt
       have HAT:=Lib.hid (HVS.out.atom HO.out.1 HO.out.2.1 HO.out.2.2 HMX.out HDX.out (by omega) p.id)
       rw [HA1.out] at HAT
       go_wp2_with fail
       refine HAT.out.mono ?_
       rintro e wa1 ⟨rfl,hp⟩
       obtain ⟨D1,hvs,hoff,hfr⟩:=HVS.out.put hp
       have Kp:=Lib.hid (Kp.out.fr hfr Op.out)
       have Kr:=Lib.hid (Kr.out.fr hfr Or.out)
       have HMX:=Lib.hid (HMX.out.fr hfr HDX.out)
       have HDX:=Lib.hid (hoff _ (by have:=HM.out.2;have:=HVS.out.fr.size;omega) HDX.out)
       have Op:=Lib.hid (hoff _ Lp.out Op.out)
       have Or:=Lib.hid (hoff _ Lr.out Or.out)
       have HVA:=Lib.hid hvs
       clear hp hvs hoff hfr
       clear p0 p1 p2 p3 p4 p5 p6 p7 p8 p9 p10 p11 p12 p13 p14 p15 pz
       go_upto_region 2 with fail
       obtain ⟨wb1,hw3⟩ : ∃W,W=wa1.alloc (.cells #[.string a1.var,.int .i64 a1.sym.kind,.string a1.sym.text,.int .i64 a1.sym.n] 76):=⟨_,rfl⟩
       have hb3:Below wa1.heap.size wa1 wb1:=by rw [hw3];exact (Below.refl _ _).alloc (Nat.le_refl _) _
       obtain ⟨g1,hg1⟩ : ∃g,g=wa1.heap.size:=⟨_,rfl⟩
       have Kq1:=Lib.hid (show Blk wb1 g1 76 #[.string a1.var,.int .i64 a1.sym.kind,.string a1.sym.text,.int .i64 a1.sym.n] by rw [hw3,hg1];exact Blk.new _ _ _)
       have Oq1:=Lib.hid (show ¬D1 g1 from fun hk=>by have:=HVA.out.nm.lt _ hk;omega)
       have Lq1:=Lib.hid Kq1.out.lt
       rw [← hw3,← hg1]
       have HVS:=Lib.hid (HVA.out.new_ hb3)
       have HMX:=Lib.hid (HMX.out.new_ hb3)
       have Kp:=Lib.hid (Kp.out.new_ hb3)
       have Lp:=Lib.hid Kp.out.lt
       have Kr:=Lib.hid (Kr.out.new_ hb3)
       have Lr:=Lib.hid Kr.out.lt
       clear hw3 hb3 hg1
       obtain ⟨p0,p1,p2,p3,p4,p5,p6,p7,p8,p9,p10,p11,p12,p13,p14,p15⟩:=Kp.out.c16
       have pz:=Kp.out.lt
       have HAT:=Lib.hid (HVS.out.atom HO.out.1 HO.out.2.1 HO.out.2.2 HMX.out HDX.out (by omega) p.value)
       rw [HA2.out] at HAT
       go_wp2_with fail
       refine HAT.out.mono ?_
       rintro e wa2 ⟨rfl,hp⟩
       obtain ⟨D2,hvs,hoff,hfr⟩:=HVS.out.put hp
       have Kp:=Lib.hid (Kp.out.fr hfr Op.out)
       have Kr:=Lib.hid (Kr.out.fr hfr Or.out)
       have Kq1:=Lib.hid (Kq1.out.fr hfr Oq1.out)
       have HMX:=Lib.hid (HMX.out.fr hfr HDX.out)
       have HDX:=Lib.hid (hoff _ (by have:=HM.out.2;have:=HVS.out.fr.size;omega) HDX.out)
       have Op:=Lib.hid (hoff _ Lp.out Op.out)
       have Or:=Lib.hid (hoff _ Lr.out Or.out)
       have Oq1:=Lib.hid (hoff _ Lq1.out Oq1.out)
       have HVA:=Lib.hid hvs
       clear hp hvs hoff hfr
       clear p0 p1 p2 p3 p4 p5 p6 p7 p8 p9 p10 p11 p12 p13 p14 p15 pz
       go_upto_region 5 with fail
       obtain ⟨wb2,hw3⟩ : ∃W,W=wa2.alloc (.cells #[.string a2.var,.int .i64 a2.sym.kind,.string a2.sym.text,.int .i64 a2.sym.n] 76):=⟨_,rfl⟩
       have hb3:Below wa2.heap.size wa2 wb2:=by rw [hw3];exact (Below.refl _ _).alloc (Nat.le_refl _) _
       obtain ⟨g2,hg2⟩ : ∃g,g=wa2.heap.size:=⟨_,rfl⟩
       have Kq2:=Lib.hid (show Blk wb2 g2 76 #[.string a2.var,.int .i64 a2.sym.kind,.string a2.sym.text,.int .i64 a2.sym.n] by rw [hw3,hg2];exact Blk.new _ _ _)
       have Oq2:=Lib.hid (show ¬D2 g2 from fun hk=>by have:=HVA.out.nm.lt _ hk;omega)
       have Lq2:=Lib.hid Kq2.out.lt
       rw [← hw3,← hg2]
       have HVS:=Lib.hid (HVA.out.new_ hb3)
       have HMX:=Lib.hid (HMX.out.new_ hb3)
       have Kp:=Lib.hid (Kp.out.new_ hb3)
       have Lp:=Lib.hid Kp.out.lt
       have Kr:=Lib.hid (Kr.out.new_ hb3)
       have Lr:=Lib.hid Kr.out.lt
       have Kq1:=Lib.hid (Kq1.out.new_ hb3)
       have Lq1:=Lib.hid Kq1.out.lt
       clear hw3 hb3 hg2
       obtain ⟨p0,p1,p2,p3,p4,p5,p6,p7,p8,p9,p10,p11,p12,p13,p14,p15⟩:=Kp.out.c16
       have pz:=Kp.out.lt
       have HAT:=Lib.hid (HVS.out.atom HO.out.1 HO.out.2.1 HO.out.2.2 HMX.out HDX.out (by omega) p.other)
       rw [HA3.out] at HAT
       go_wp2_with fail
       refine HAT.out.mono ?_
       rintro e wa3 ⟨rfl,hp⟩
       obtain ⟨D3,hvs,hoff,hfr⟩:=HVS.out.put hp
       have Kp:=Lib.hid (Kp.out.fr hfr Op.out)
       have Kr:=Lib.hid (Kr.out.fr hfr Or.out)
       have Kq1:=Lib.hid (Kq1.out.fr hfr Oq1.out)
       have Kq2:=Lib.hid (Kq2.out.fr hfr Oq2.out)
       have HMX:=Lib.hid (HMX.out.fr hfr HDX.out)
       have HDX:=Lib.hid (hoff _ (by have:=HM.out.2;have:=HVS.out.fr.size;omega) HDX.out)
       have Op:=Lib.hid (hoff _ Lp.out Op.out)
       have Or:=Lib.hid (hoff _ Lr.out Or.out)
       have Oq1:=Lib.hid (hoff _ Lq1.out Oq1.out)
       have Oq2:=Lib.hid (hoff _ Lq2.out Oq2.out)
       have HVA:=Lib.hid hvs
       clear hp hvs hoff hfr
       clear p0 p1 p2 p3 p4 p5 p6 p7 p8 p9 p10 p11 p12 p13 p14 p15 pz
       go_upto_region 8 with fail
       obtain ⟨wb3,hw3⟩ : ∃W,W=wa3.alloc (.cells #[.string a3.var,.int .i64 a3.sym.kind,.string a3.sym.text,.int .i64 a3.sym.n] 76):=⟨_,rfl⟩
       have hb3:Below wa3.heap.size wa3 wb3:=by rw [hw3];exact (Below.refl _ _).alloc (Nat.le_refl _) _
       obtain ⟨g3,hg3⟩ : ∃g,g=wa3.heap.size:=⟨_,rfl⟩
       have Kq3:=Lib.hid (show Blk wb3 g3 76 #[.string a3.var,.int .i64 a3.sym.kind,.string a3.sym.text,.int .i64 a3.sym.n] by rw [hw3,hg3];exact Blk.new _ _ _)
       have Oq3:=Lib.hid (show ¬D3 g3 from fun hk=>by have:=HVA.out.nm.lt _ hk;omega)
       have Lq3:=Lib.hid Kq3.out.lt
       rw [← hw3,← hg3]
       have HVS:=Lib.hid (HVA.out.new_ hb3)
       have HMX:=Lib.hid (HMX.out.new_ hb3)
       have Kp:=Lib.hid (Kp.out.new_ hb3)
       have Lp:=Lib.hid Kp.out.lt
       have Kr:=Lib.hid (Kr.out.new_ hb3)
       have Lr:=Lib.hid Kr.out.lt
       have Kq1:=Lib.hid (Kq1.out.new_ hb3)
       have Lq1:=Lib.hid Kq1.out.lt
       have Kq2:=Lib.hid (Kq2.out.new_ hb3)
       have Lq2:=Lib.hid Kq2.out.lt
       clear hw3 hb3 hg3
       obtain ⟨p0,p1,p2,p3,p4,p5,p6,p7,p8,p9,p10,p11,p12,p13,p14,p15⟩:=Kp.out.c16
       have pz:=Kp.out.lt
       obtain ⟨q10,q11,q12,q13⟩:=Kq1.out.c4
       have q1z:=Kq1.out.lt
       obtain ⟨q20,q21,q22,q23⟩:=Kq2.out.c4
       have q2z:=Kq2.out.lt
       obtain ⟨q30,q31,q32,q33⟩:=Kq3.out.c4
       have q3z:=Kq3.out.lt
       have HT:=Lib.hid (show wb3.there (w.heap.size+1) 0 (#[Value.string a1.var,Value.string ⟨#[]⟩,Value.int IntKind.i64 p.attr.kind,Value.string p.attr.text,Value.int IntKind.i64 p.attr.n,Value.int IntKind.i64 0,Value.string a2.var,Value.int IntKind.i64 a2.sym.kind,Value.string a2.sym.text,Value.int IntKind.i64 a2.sym.n,Value.string ⟨#[]⟩,Value.int IntKind.i64 0,Value.string ⟨#[]⟩,Value.int IntKind.i64 0,Value.int IntKind.i64 p.kind,Value.string a3.var,Value.int IntKind.i64 a3.sym.kind,Value.string a3.sym.text,Value.int IntKind.i64 a3.sym.n]:Array Value).size from Kr.out.there)
       go_wp2_with (with_reducible refine wpList_store_mid rfl 80 _ _ rfl (w.heap.size+1) 0 #[Value.string a1.var,Value.string ⟨#[]⟩,Value.int IntKind.i64 p.attr.kind,Value.string p.attr.text,Value.int IntKind.i64 p.attr.n,Value.int IntKind.i64 0,Value.string a2.var,Value.int IntKind.i64 a2.sym.kind,Value.string a2.sym.text,Value.int IntKind.i64 a2.sym.n,Value.string ⟨#[]⟩,Value.int IntKind.i64 0,Value.string ⟨#[]⟩,Value.int IntKind.i64 0,Value.int IntKind.i64 p.kind,Value.string a3.var,Value.int IntKind.i64 a3.sym.kind,Value.string a3.sym.text,Value.int IntKind.i64 a3.sym.n] rfl rfl HT.out (by kernel_rfl) (by kernel_rfl) ?_)
       try simp only [Exit.inBlock,Exit.then]
       refine bodyPost_ret (v:=.tuple #[.agg #[Value.string a1.var,Value.string ⟨#[]⟩,Value.int IntKind.i64 p.attr.kind,Value.string p.attr.text,Value.int IntKind.i64 p.attr.n,Value.int IntKind.i64 0,Value.string a2.var,Value.int IntKind.i64 a2.sym.kind,Value.string a2.sym.text,Value.int IntKind.i64 a2.sym.n,Value.string ⟨#[]⟩,Value.int IntKind.i64 0,Value.string ⟨#[]⟩,Value.int IntKind.i64 0,Value.int IntKind.i64 p.kind,Value.string a3.var,Value.int IntKind.i64 a3.sym.kind,Value.string a3.sym.text,Value.int IntKind.i64 a3.sym.n],.bool true]) ?_ rfl ?_
       · exact results_cell_tmp (t:=6) (s:=7) (T:=80) rfl _ _ (w.heap.size+1) [Value.string a1.var,Value.string ⟨#[]⟩,Value.int IntKind.i64 p.attr.kind,Value.string p.attr.text,Value.int IntKind.i64 p.attr.n,Value.int IntKind.i64 0,Value.string a2.var,Value.int IntKind.i64 a2.sym.kind,Value.string a2.sym.text,Value.int IntKind.i64 a2.sym.n,Value.string ⟨#[]⟩,Value.int IntKind.i64 0,Value.string ⟨#[]⟩,Value.int IntKind.i64 0,Value.int IntKind.i64 p.kind,Value.string a3.var,Value.int IntKind.i64 a3.sym.kind,Value.string a3.sym.text,Value.int IntKind.i64 a3.sym.n] _ rfl (World.rangeAt_setCells_same wb3 (w.heap.size+1) 0 [Value.string a1.var,Value.string ⟨#[]⟩,Value.int IntKind.i64 p.attr.kind,Value.string p.attr.text,Value.int IntKind.i64 p.attr.n,Value.int IntKind.i64 0,Value.string a2.var,Value.int IntKind.i64 a2.sym.kind,Value.string a2.sym.text,Value.int IntKind.i64 a2.sym.n,Value.string ⟨#[]⟩,Value.int IntKind.i64 0,Value.string ⟨#[]⟩,Value.int IntKind.i64 0,Value.int IntKind.i64 p.kind,Value.string a3.var,Value.int IntKind.i64 a3.sym.kind,Value.string a3.sym.text,Value.int IntKind.i64 a3.sym.n] HT.out) Tryz.underlying80 rfl (by kernel_rfl)
       · have HPT:=HVS.out.fin (Fr.setCells (g:=w.heap.size+1) [Value.string a1.var,Value.string ⟨#[]⟩,Value.int IntKind.i64 p.attr.kind,Value.string p.attr.text,Value.int IntKind.i64 p.attr.n,Value.int IntKind.i64 0,Value.string a2.var,Value.int IntKind.i64 a2.sym.kind,Value.string a2.sym.text,Value.int IntKind.i64 a2.sym.n,Value.string ⟨#[]⟩,Value.int IntKind.i64 0,Value.string ⟨#[]⟩,Value.int IntKind.i64 0,Value.int IntKind.i64 p.kind,Value.string a3.var,Value.int IntKind.i64 a3.sym.kind,Value.string a3.sym.text,Value.int IntKind.i64 a3.sym.n] 0 (Fr.refl (fun k=>k=w.heap.size+1) wb3) (.inl rfl)) (fun k hk=>by subst hk;exact ⟨by omega,Or.out⟩)
         rw [HAV.out]
         exact ⟨rfl,HPT⟩
end Go.Proofs.YtldndkngpdfpfaaGreat
namespace Go.Proofs.YtldndkngpdfpfaaGreat
open Go.RowKit
abbrev NameSet:=SetAt (α:=Name) 244 197 1 Name.cells
theorem nilAhead_Name (k0 : ByteArray) (w : World) : (nilAhead 555 197 (.string k0) "Compare").run Tryz.prog w = .ok (some false) w := by kernel_rfl
theorem method_Name (k0 : ByteArray) (w : World) : (method 555 197 (.string k0) "Compare").run Tryz.prog w = .ok (316, .string k0) w := by kernel_rfl
def FoundName (l:List Name) (x:Name) (w:World) (e:Ending) (w':World):Prop:=
 e = .returned (.tuple #[.int .i64 (rank cmpName l x),.bool (has cmpName l x)])∧Below w.heap.size w w'
set_option maxRecDepth 100000 in
set_option maxHeartbeats 4000000 in
theorem find_Name (b c:Nat) (sn:Bool) (A:Option Addr) (l:List Name) (x:Name) (w:World) (hS:NameSet w b sn A c l) (hs:Srt cmpName l) (hl:(l.length:Int)≤4611686018427387904) :
 Calls Tryz.prog 198 #[.pointer (some ⟨b,0,none⟩),.string x] w (FoundName l x w):=by
 have hrd:=hS.rd Name.cells_length
 have h0:=hS.cell0
 have hb:=hS.lt
 clear hS
 have HS:=Lib.hid hs
 have HRD:=Lib.hid hrd
 clear hs hrd
 go_enter Tryz.func198,Tryz.ntmps198
 go_wp2_with fail
 go_quiet (fail)
 go_wp2_with fail
 obtain ⟨W0,hW0⟩ : ∃W0,W0=(w.drewN nq):=⟨_,rfl⟩
 have hB0:Below w.heap.size w W0:=by rw [hW0];exact Below.drewN' (Below.refl _ _) _
 rw [← hW0]
 clear hW0
 have HB0:=Lib.hid hB0
 clear hB0
 go_loopw [6,7] (fun lo hi wr=>∃i j:Nat,lo = .int .i64 i∧hi = .int .i64 j∧i≤j∧j≤l.length∧(∀k,(h:k<l.length)→k<i→cmpName l[k] x<0)∧(∀k,(h:k<l.length)→j≤k→0<cmpName l[k] x)∧Below W0.heap.size W0 wr) (fun lo hi wr=>(intOf hi).toNat - (intOf lo).toNat)
 case atStart=>exact ⟨0,l.length,rfl,rfl,Nat.zero_le _,Nat.le_refl _,fun k _ h=>absurd h (by omega),fun k h h'=>absurd h (by omega),Below.refl _ _⟩
 case round=>
  obtain ⟨i,j,rfl,rfl,hij,hj,hlo,hhi,hB⟩:=hrel
  have HLO:=Lib.hid hlo
  have HHI:=Lib.hid hhi
  clear hlo hhi
  have hsz:w.heap.size≤W0.heap.size:=HB0.out.size
  by_cases hlt:i<j
  · obtain ⟨m,hm⟩ : ∃m,m=i+(j - i) / 2:=⟨_,rfl⟩
    have hml:m<l.length:=by omega
    have hmj:m<j:=by omega
    have hmi:i≤m:=by omega
    have e1:((i:Int)+((j:Int) - (i:Int)) / 2)=(m:Int):=by omega
    have E1:=Lib.hid e1
    clear e1 hm
    obtain ⟨g,off,rfl,hgs,hcell⟩:=HRD.out.at_ hml
    have low : ∀(p:Addr),p.block<w.heap.size→wr.cell? p=w.cell? p:=fun p hp=>(hB.cell (p:=p) (by omega)).trans (HB0.out.cell (p:=p) hp)
    have r0:=(low ⟨b,0,none⟩ hb).trans h0
    have q0:wr.cell? ⟨g,off+m,none⟩=some (.string l[m]):=(low ⟨g,off+m,none⟩ hgs).trans (by simpa using hcell 0 _ rfl)
    have b1:(0:Int)≤(m:Int):=by omega
    have b2:(m:Int)<(l.length:Int):=by omega
    have hsw:W0.heap.size≤wr.heap.size:=hB.size
    have N:=nilAhead_Name
    have M:=method_Name
    clear low hcell h0
    have HB:=Lib.hid hB
    clear hB
    obtain ⟨y,hy⟩ : ∃y,y=l[m]:=⟨_,rfl⟩
    rw [← hy] at q0
    have HY:=Lib.hid hy
    clear hy
    have hbw:b<wr.heap.size:=by omega
    have hgw:g<wr.heap.size:=by omega
    go_upto_region 4 with (fail)
    rw [E1.out]
    go_wp2_with fail
    refine (cmp_name y x _).mono ?_
    rintro e w1 ⟨rfl,hb1⟩
    have HB1:Below W0.heap.size W0 w1:=HB.out.trans (hb1.mono hsw)
    clear r0 q0 N M
    have HB1':=Lib.hid HB1
    clear HB1
    by_cases hc:cmpName y x=0
    · have HC:=Lib.hid hc
      have t1:(cmpName y x == 0)=true:=by simp [hc]
      clear hc
      go_wp2_with fail
      go_ret2
      have e:=HC.out
      rw [HY.out] at e
      refine ⟨?_,HB0.out.trans (HB1'.out.mono (by omega))⟩
      rw [rank_some tc_name HS.out hml e,(at_some tc_name HS.out hml e).2.2.1]
      rfl
    · have t1:(cmpName y x == 0)=false:=by simp [hc]
      by_cases hc2:cmpName y x<0
      · have HC:=Lib.hid hc2
        have t2:decide (cmpName y x<0)=true:=by simpa using hc2
        clear hc hc2
        go_wp2_with fail
        go_roundw
        case rel=>
         refine ⟨m+1,j,by go_num,rfl,by omega,hj,fun k h1 h2=>?_,HHI.out,HB1'.out⟩
         have e:=HC.out
         rw [HY.out] at e
         rcases Nat.lt_or_ge k m with h3 | h3
         · exact tc_name.lt_of_lt_of_le (HS.out.lt h3 hml) (by omega)
         · obtain rfl:k=m:=by omega
           exact e
        case measure=>simp [intOf];omega
      · have t2:decide (cmpName y x<0)=false:=by simpa using hc2
        have hc3:0<cmpName y x:=by omega
        have HC:=Lib.hid hc3
        clear hc hc2 hc3
        go_wp2_with fail
        go_roundw
        case rel=>
         refine ⟨i,m,rfl,rfl,by omega,by omega,HLO.out,fun k h1 h2=>?_,HB1'.out⟩
         have e:=HC.out
         rw [HY.out] at e
         rcases Nat.lt_or_ge m k with h3 | h3
         · exact (tc_name.symm _ _).1 (tc_name.lt_trans ((tc_name.symm _ _).2 e) (HS.out.lt h3 h1))
         · obtain rfl:k=m:=by omega
           exact e
        case measure=>simp [intOf];omega
  · obtain rfl:i=j:=by omega
    have HB:=Lib.hid hB
    clear hB
    go_wp2_with fail
    go_ret2
    refine ⟨?_,HB0.out.trans (HB.out.mono (by omega))⟩
    rw [rank_none hj HLO.out HHI.out,(at_none HLO.out HHI.out).2.2]
    rfl
end Go.Proofs.YtldndkngpdfpfaaGreat
