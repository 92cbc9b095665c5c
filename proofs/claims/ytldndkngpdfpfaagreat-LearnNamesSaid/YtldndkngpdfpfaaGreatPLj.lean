/-
  Texts put together: VaryN8, FindName, OpsName, PutName, MiscName, NewName, WorkName, Known1.
-/
import Derived.Test.YtldndkngpdfpfaaGreatPLi
import Derived.Test.YtldndkngpdfpfaaGreatPLc
import Derived.Test.YtldndkngpdfpfaaGreatPLa
import Derived.Test.YtldndkngpdfpfaaGreatPLb
import Derived.Maps.RangeWalk
namespace Go.Proofs.YtldndkngpdfpfaaGreat
set_option maxRecDepth 100000
set_option maxHeartbeats 32000000
section
open Go.RowKit Go.Shelf
attribute [local go_sem] Oper.semAt_some
set_option linter.unusedSimpArgs false
structure VS (D:Nat→Prop) (w:World) (nb:Nat) (ns:List Sym) (D':Nat→Prop) (x:World):Prop where
 nm:Nm D' x nb ns
 up : ∀k,D k→D' k
 dn : ∀k,D' k→D k∨w.heap.size≤k
 fr:Fr D w x
section
variable {D D':Nat→Prop} {w x y w0:World} {nb mb gf:Nat} {lb:Array Value} {old:Sym→Bool} {ns ns':List Sym}
theorem VS.start (h:Nm D w nb ns):VS D w nb ns D w:=⟨h,fun _ h=>h,fun _ h=>.inl h,Fr.refl _ _⟩
theorem VS.new_ (h:VS D w nb ns D' x) (hb:Below x.heap.size x y):VS D w nb ns D' y:=⟨h.nm.new_ hb,h.up,h.dn,h.fr.trans (Fr.of_new hb)⟩
theorem VS.put (h:VS D w nb ns D' x) (hp:PutTo D' x nb ns' y) : ∃D'',VS D w nb ns' D'' y∧(∀g,g<x.heap.size→¬D' g→¬D'' g)∧Fr D' x y:=by
 obtain ⟨D2,g1,g2,g3,g4⟩:=hp;have hz:=h.fr.size;exact ⟨D2,⟨g1,fun k hk=>g2 k (h.up k hk),fun k hk=>(g3 k hk).elim (h.dn k) (fun h=>.inr (by omega)),h.fr.into g4 h.dn⟩,fun g hg hd hk=>(g3 g hk).elim hd (fun h=>by omega),g4⟩
theorem VS.fin {M:Nat→Prop} (h:VS D w nb ns D' x) (hF:Fr M x y) (hM : ∀k,M k→w.heap.size≤k∧¬D' k):PutTo D w nb ns y:=
 ⟨D',h.nm.fr hF (fun k hk hm=>(hM k hm).2 hk),h.up,h.dn,h.fr.into hF (fun k hk=>.inr (hM k hk).1)⟩
theorem VS.atom (h:VS D w nb ns D' x) (hO:OldOk gf lb w0 old) (hw0:Below w0.heap.size w0 w) (hD : ∀k,D k→w0.heap.size≤k) (hm:MK x mb nb) (hd : ¬D' mb) (hl:ns.length≤900) (s:Sym) :
 Calls Tryz.prog 117 #[.pointer (some ⟨mb,0,none⟩),.agg #[.int .i64 s.kind,.string s.text,.int .i64 s.n],.func (.func gf) #[] lb] x (AtomTo D' x nb ns (atomV old ns s)):=
 matom_is hO s x (hw0.trans (h.fr.below hw0.size (fun k hk hd=>by have:=hD k hd;omega))) h.nm hm hd (fun k hk=>(h.dn k hk).elim (hD k) (fun h=>Nat.le_trans hw0.size h)) hl
end
theorem atomV_len {old:Sym→Bool} {ns:List Sym} {s:Sym} {a:AtomT} {n:List Sym} (h:atomV old ns s=some (a,n)):n.length≤ns.length+1:=by
 unfold atomV at h
 split at h
 · injection h with h;injection h with _ h;subst h;omega
 · split at h
   · cases h
   · injection h with h;injection h with _ h;subst h;exact putN_len _ _
theorem actV3_len {old:Sym→Bool} {ns:List Sym} {p:PrefT} {a:ActT} {n:List Sym} (h:actV3 old ns p=some (a,n)):n.length≤ns.length+3:=by
 unfold actV3 at h
 split at h
 · cases h
 · rename_i i n1 h1
   split at h
   · cases h
   · rename_i v n2 h2
     split at h
     · cases h
     · rename_i q n3 h3
       injection h with h;injection h with _ h;subst h;have:=atomV_len h1;have:=atomV_len h2;have:=atomV_len h3;omega
def ActTo (D:Nat→Prop) (w:World) (nb:Nat) (r:Option (ActT×List Sym)) (e:Ending) (w':World):Prop:=
 match r with
 | none=>(∃a:ActT,e = .returned (.tuple #[.agg #[.string a.id,.string a.attr.var,.int .i64 a.attr.sym.kind,.string a.attr.sym.text,.int .i64 a.attr.sym.n,.int .i64 a.value.op,.string a.value.a.var,.int .i64 a.value.a.sym.kind,.string a.value.a.sym.text,.int .i64 a.value.a.sym.n,.string a.value.b.var,.int .i64 a.value.b.sym.kind,.string a.value.b.sym.text,.int .i64 a.value.b.sym.n,.int .i64 a.pref,.string a.other.var,.int .i64 a.other.sym.kind,.string a.other.sym.text,.int .i64 a.other.sym.n],.bool false]))∧∃n,PutTo D w nb n w'
 | some (a,n)=>e = .returned (.tuple #[.agg #[.string a.id,.string a.attr.var,.int .i64 a.attr.sym.kind,.string a.attr.sym.text,.int .i64 a.attr.sym.n,.int .i64 a.value.op,.string a.value.a.var,.int .i64 a.value.a.sym.kind,.string a.value.a.sym.text,.int .i64 a.value.a.sym.n,.string a.value.b.var,.int .i64 a.value.b.sym.kind,.string a.value.b.sym.text,.int .i64 a.value.b.sym.n,.int .i64 a.pref,.string a.other.var,.int .i64 a.other.sym.kind,.string a.other.sym.text,.int .i64 a.other.sym.n],.bool true])∧PutTo D w nb n w'
theorem mact_is {D:Nat→Prop} {nb mb gf:Nat} {lb:Array Value} {w0:World} {old:Sym→Bool} {ns:List Sym} (hO:OldOk gf lb w0 old) (p:PrefT) (w:World) (hw0:Below w0.heap.size w0 w) (h:Nm D w nb ns) (hm:MK w mb nb) (hd : ¬D mb) (hD : ∀k,D k→w0.heap.size≤k) (hl:ns.length≤800) :
 Calls Tryz.prog 66 #[.pointer (some ⟨mb,0,none⟩),.agg #[.int .i64 p.id.kind,.string p.id.text,.int .i64 p.id.n,.int .i64 p.attr.kind,.string p.attr.text,.int .i64 p.attr.n,.int .i64 p.value.kind,.string p.value.text,.int .i64 p.value.n,.int .i64 p.other.kind,.string p.other.text,.int .i64 p.other.n,.int .i64 p.kind,.bool p.o,.int .i64 p.level,.int .i64 p.by_],.func (.func gf) #[] lb] w (ActTo D w nb (actV3 old ns p)):=by
 have HO:=Lib.hid (And.intro hO (And.intro hw0 hD));have HLT:=Lib.hid h.lt;have HN:=Lib.hid h;have HM:=Lib.hid hm;have HDM:=Lib.hid hd;clear h hO hw0 hD hm hd;go_enter Tryz.func66,Tryz.ntmps66;(go_upto_region 1 with fail);obtain ⟨w1,hw1⟩ : ∃w1,w1=((w.alloc (.cells #[.int .i64 p.id.kind,.string p.id.text,.int .i64 p.id.n,.int .i64 p.attr.kind,.string p.attr.text,.int .i64 p.attr.n,.int .i64 p.value.kind,.string p.value.text,.int .i64 p.value.n,.int .i64 p.other.kind,.string p.other.text,.int .i64 p.other.n,.int .i64 p.kind,.bool p.o,.int .i64 p.level,.int .i64 p.by_] 68)).alloc (.cells #[.string ⟨#[]⟩,.string ⟨#[]⟩,.int .i64 0,.string ⟨#[]⟩,.int .i64 0,.int .i64 0,.string ⟨#[]⟩,.int .i64 0,.string ⟨#[]⟩,.int .i64 0,.string ⟨#[]⟩,.int .i64 0,.string ⟨#[]⟩,.int .i64 0,.int .i64 0,.string ⟨#[]⟩,.int .i64 0,.string ⟨#[]⟩,.int .i64 0] 80)):=⟨_,rfl⟩;rw [← hw1];have HB:=Lib.hid (show Below w.heap.size w w1 by rw [hw1];exact (by repeat (first | exact Below.refl _ _ | refine Below.drew ?_ | refine Below.al ?_ _ | refine Below.sc ?_ _)));have Kp:=Lib.hid (show Blk w1 (w.heap.size) 68 #[.int .i64 p.id.kind,.string p.id.text,.int .i64 p.id.n,.int .i64 p.attr.kind,.string p.attr.text,.int .i64 p.attr.n,.int .i64 p.value.kind,.string p.value.text,.int .i64 p.value.n,.int .i64 p.other.kind,.string p.other.text,.int .i64 p.other.n,.int .i64 p.kind,.bool p.o,.int .i64 p.level,.int .i64 p.by_] by rw [hw1];exact ((Blk.new w 68 #[.int .i64 p.id.kind,.string p.id.text,.int .i64 p.id.n,.int .i64 p.attr.kind,.string p.attr.text,.int .i64 p.attr.n,.int .i64 p.value.kind,.string p.value.text,.int .i64 p.value.n,.int .i64 p.other.kind,.string p.other.text,.int .i64 p.other.n,.int .i64 p.kind,.bool p.o,.int .i64 p.level,.int .i64 p.by_]).alloc (.cells #[.string ⟨#[]⟩,.string ⟨#[]⟩,.int .i64 0,.string ⟨#[]⟩,.int .i64 0,.int .i64 0,.string ⟨#[]⟩,.int .i64 0,.string ⟨#[]⟩,.int .i64 0,.string ⟨#[]⟩,.int .i64 0,.string ⟨#[]⟩,.int .i64 0,.int .i64 0,.string ⟨#[]⟩,.int .i64 0,.string ⟨#[]⟩,.int .i64 0] 80)));have Kr:=Lib.hid (show Blk w1 (w.heap.size+1) 80 #[.string ⟨#[]⟩,.string ⟨#[]⟩,.int .i64 0,.string ⟨#[]⟩,.int .i64 0,.int .i64 0,.string ⟨#[]⟩,.int .i64 0,.string ⟨#[]⟩,.int .i64 0,.string ⟨#[]⟩,.int .i64 0,.string ⟨#[]⟩,.int .i64 0,.int .i64 0,.string ⟨#[]⟩,.int .i64 0,.string ⟨#[]⟩,.int .i64 0] by rw [hw1];have hh:=(Blk.new (w.alloc (.cells #[.int .i64 p.id.kind,.string p.id.text,.int .i64 p.id.n,.int .i64 p.attr.kind,.string p.attr.text,.int .i64 p.attr.n,.int .i64 p.value.kind,.string p.value.text,.int .i64 p.value.n,.int .i64 p.other.kind,.string p.other.text,.int .i64 p.other.n,.int .i64 p.kind,.bool p.o,.int .i64 p.level,.int .i64 p.by_] 68)) 80 #[.string ⟨#[]⟩,.string ⟨#[]⟩,.int .i64 0,.string ⟨#[]⟩,.int .i64 0,.int .i64 0,.string ⟨#[]⟩,.int .i64 0,.string ⟨#[]⟩,.int .i64 0,.string ⟨#[]⟩,.int .i64 0,.string ⟨#[]⟩,.int .i64 0,.int .i64 0,.string ⟨#[]⟩,.int .i64 0,.string ⟨#[]⟩,.int .i64 0]);simp only [World.size_alloc] at hh;exact hh);clear hw1;obtain ⟨p0,p1,p2,p3,p4,p5,p6,p7,p8,p9,p10,p11,p12,p13,p14,p15⟩:=Kp.out.c16;have pz:=Kp.out.lt;obtain ⟨r0,r1,r2,r3,r4,r5,r6,r7,r8,r9,r10,r11,r12,r13,r14,r15,r16,r17,r18⟩:=Kr.out.c19;have rz:=Kr.out.lt;clear p0 p1 p2 p3 p4 p5 p6 p7 p8 p9 p10 p11 p12 p13 p14 p15 pz r0 r1 r2 r3 r4 r5 r6 r7 r8 r9 r10 r11 r12 r13 r14 r15 r16 r17 r18 rz;have HZ1:=Lib.hid (show w.heap.size+1<w1.heap.size from Kr.out.lt);have HVS:=Lib.hid ((VS.start HN.out).new_ HB.out);have HMX:=Lib.hid (HM.out.new_ HB.out);have HDX:=Lib.hid HDM.out;have Op:=Lib.hid (show ¬D w.heap.size from fun hk=>by have:=HLT.out _ hk;omega);have Or:=Lib.hid (show ¬D (w.heap.size+1) from fun hk=>by have:=HLT.out _ hk;omega);have Lp:=Lib.hid Kp.out.lt;have Lr:=Lib.hid Kr.out.lt
 cases hA:atomV old ns p.id with
 | none=>
   have HA1:=Lib.hid hA;clear hA;have HAV:=Lib.hid (show actV3 old ns p=none by unfold actV3;rw [HA1.out]);obtain ⟨p0,p1,p2,p3,p4,p5,p6,p7,p8,p9,p10,p11,p12,p13,p14,p15⟩:=Kp.out.c16;have pz:=Kp.out.lt;have HAT:=Lib.hid (HVS.out.atom HO.out.1 HO.out.2.1 HO.out.2.2 HMX.out HDX.out (by omega) p.id);rw [HA1.out] at HAT;(go_wp2_with fail);refine HAT.out.mono ?_;rintro e wa1 ⟨rfl,hp⟩;obtain ⟨D1,hvs,hoff,hfr⟩:=HVS.out.put hp;have Kp:=Lib.hid (Kp.out.fr hfr Op.out);have Kr:=Lib.hid (Kr.out.fr hfr Or.out);have HMX:=Lib.hid (HMX.out.fr hfr HDX.out);have HDX:=Lib.hid (hoff _ (by have:=HM.out.2;have:=HVS.out.fr.size;omega) HDX.out);have Op:=Lib.hid (hoff _ Lp.out Op.out);have Or:=Lib.hid (hoff _ Lr.out Or.out);have HVA:=Lib.hid hvs;clear hp hvs hoff hfr;clear p0 p1 p2 p3 p4 p5 p6 p7 p8 p9 p10 p11 p12 p13 p14 p15 pz;(go_upto_region 2 with fail);obtain ⟨wb1,hw3⟩ : ∃W,W=wa1.alloc (.cells #[.string ⟨#[]⟩,.int .i64 0,.string ⟨#[]⟩,.int .i64 0] 76):=⟨_,rfl⟩;(have hb3:Below wa1.heap.size wa1 wb1:=by rw [hw3];exact (Below.refl _ _).alloc (Nat.le_refl _) _);obtain ⟨g1,hg1⟩ : ∃g,g=wa1.heap.size:=⟨_,rfl⟩;have Kq1:=Lib.hid (show Blk wb1 g1 76 #[.string ⟨#[]⟩,.int .i64 0,.string ⟨#[]⟩,.int .i64 0] by rw [hw3,hg1];exact Blk.new _ _ _);have Oq1:=Lib.hid (show ¬D1 g1 from fun hk=>by have:=HVA.out.nm.lt _ hk;omega);have Lq1:=Lib.hid Kq1.out.lt;rw [← hw3,← hg1];have HVS:=Lib.hid (HVA.out.new_ hb3);have HMX:=Lib.hid (HMX.out.new_ hb3);have Kp:=Lib.hid (Kp.out.new_ hb3);have Lp:=Lib.hid Kp.out.lt;have Kr:=Lib.hid (Kr.out.new_ hb3);have Lr:=Lib.hid Kr.out.lt;clear hw3 hb3 hg1;have HT:=Lib.hid (show wb1.there (w.heap.size+1) 0 (#[.string ⟨#[]⟩,.string ⟨#[]⟩,.int .i64 0,.string ⟨#[]⟩,.int .i64 0,.int .i64 0,.string ⟨#[]⟩,.int .i64 0,.string ⟨#[]⟩,.int .i64 0,.string ⟨#[]⟩,.int .i64 0,.string ⟨#[]⟩,.int .i64 0,.int .i64 0,.string ⟨#[]⟩,.int .i64 0,.string ⟨#[]⟩,.int .i64 0]:Array Value).size from Kr.out.there);(go_wp2_with (with_reducible refine wpList_store_mid rfl 80 _ _ rfl (w.heap.size+1) 0 #[.string ⟨#[]⟩,.string ⟨#[]⟩,.int .i64 0,.string ⟨#[]⟩,.int .i64 0,.int .i64 0,.string ⟨#[]⟩,.int .i64 0,.string ⟨#[]⟩,.int .i64 0,.string ⟨#[]⟩,.int .i64 0,.string ⟨#[]⟩,.int .i64 0,.int .i64 0,.string ⟨#[]⟩,.int .i64 0,.string ⟨#[]⟩,.int .i64 0] rfl rfl HT.out (by kernel_rfl) (by kernel_rfl) ?_));(try simp only [Exit.inBlock,Exit.then]);refine bodyPost_ret (v:=.tuple #[.agg #[.string ⟨#[]⟩,.string ⟨#[]⟩,.int .i64 0,.string ⟨#[]⟩,.int .i64 0,.int .i64 0,.string ⟨#[]⟩,.int .i64 0,.string ⟨#[]⟩,.int .i64 0,.string ⟨#[]⟩,.int .i64 0,.string ⟨#[]⟩,.int .i64 0,.int .i64 0,.string ⟨#[]⟩,.int .i64 0,.string ⟨#[]⟩,.int .i64 0],.bool false]) ?_ rfl ?_
   · exact results_cell_tmp (t:=6) (s:=7) (T:=80) rfl _ _ (w.heap.size+1) [.string ⟨#[]⟩,.string ⟨#[]⟩,.int .i64 0,.string ⟨#[]⟩,.int .i64 0,.int .i64 0,.string ⟨#[]⟩,.int .i64 0,.string ⟨#[]⟩,.int .i64 0,.string ⟨#[]⟩,.int .i64 0,.string ⟨#[]⟩,.int .i64 0,.int .i64 0,.string ⟨#[]⟩,.int .i64 0,.string ⟨#[]⟩,.int .i64 0] _ rfl (World.rangeAt_setCells_same wb1 (w.heap.size+1) 0 [.string ⟨#[]⟩,.string ⟨#[]⟩,.int .i64 0,.string ⟨#[]⟩,.int .i64 0,.int .i64 0,.string ⟨#[]⟩,.int .i64 0,.string ⟨#[]⟩,.int .i64 0,.string ⟨#[]⟩,.int .i64 0,.string ⟨#[]⟩,.int .i64 0,.int .i64 0,.string ⟨#[]⟩,.int .i64 0,.string ⟨#[]⟩,.int .i64 0] HT.out) Tryz.underlying80 rfl (by kernel_rfl)
   · have HPT:=HVS.out.fin (Fr.setCells (g:=w.heap.size+1) [.string ⟨#[]⟩,.string ⟨#[]⟩,.int .i64 0,.string ⟨#[]⟩,.int .i64 0,.int .i64 0,.string ⟨#[]⟩,.int .i64 0,.string ⟨#[]⟩,.int .i64 0,.string ⟨#[]⟩,.int .i64 0,.string ⟨#[]⟩,.int .i64 0,.int .i64 0,.string ⟨#[]⟩,.int .i64 0,.string ⟨#[]⟩,.int .i64 0] 0 (Fr.refl (fun k=>k=w.heap.size+1) wb1) (.inl rfl)) (fun k hk=>by subst hk;exact ⟨by omega,Or.out⟩)
     rw [HAV.out];exact ⟨⟨⟨⟨#[]⟩,⟨⟨#[]⟩,symZ⟩,⟨0,atomZ,atomZ⟩,0,atomZ⟩,rfl⟩,_,HPT⟩
 | some z=>
   obtain ⟨a1,n1⟩:=z;have HA1:=Lib.hid hA;have hln1:=atomV_len hA;clear hA;obtain ⟨p0,p1,p2,p3,p4,p5,p6,p7,p8,p9,p10,p11,p12,p13,p14,p15⟩:=Kp.out.c16;have pz:=Kp.out.lt;have HAT:=Lib.hid (HVS.out.atom HO.out.1 HO.out.2.1 HO.out.2.2 HMX.out HDX.out (by omega) p.id);rw [HA1.out] at HAT;(go_wp2_with fail);refine HAT.out.mono ?_;rintro e wa1 ⟨rfl,hp⟩;obtain ⟨D1,hvs,hoff,hfr⟩:=HVS.out.put hp;have Kp:=Lib.hid (Kp.out.fr hfr Op.out);have Kr:=Lib.hid (Kr.out.fr hfr Or.out);have HMX:=Lib.hid (HMX.out.fr hfr HDX.out);have HDX:=Lib.hid (hoff _ (by have:=HM.out.2;have:=HVS.out.fr.size;omega) HDX.out);have Op:=Lib.hid (hoff _ Lp.out Op.out);have Or:=Lib.hid (hoff _ Lr.out Or.out);have HVA:=Lib.hid hvs;clear hp hvs hoff hfr;clear p0 p1 p2 p3 p4 p5 p6 p7 p8 p9 p10 p11 p12 p13 p14 p15 pz;(go_upto_region 2 with fail);obtain ⟨wb1,hw3⟩ : ∃W,W=wa1.alloc (.cells #[.string a1.var,.int .i64 a1.sym.kind,.string a1.sym.text,.int .i64 a1.sym.n] 76):=⟨_,rfl⟩;(have hb3:Below wa1.heap.size wa1 wb1:=by rw [hw3];exact (Below.refl _ _).alloc (Nat.le_refl _) _);obtain ⟨g1,hg1⟩ : ∃g,g=wa1.heap.size:=⟨_,rfl⟩;have Kq1:=Lib.hid (show Blk wb1 g1 76 #[.string a1.var,.int .i64 a1.sym.kind,.string a1.sym.text,.int .i64 a1.sym.n] by rw [hw3,hg1];exact Blk.new _ _ _);have Oq1:=Lib.hid (show ¬D1 g1 from fun hk=>by have:=HVA.out.nm.lt _ hk;omega);have Lq1:=Lib.hid Kq1.out.lt;rw [← hw3,← hg1];have HVS:=Lib.hid (HVA.out.new_ hb3);have HMX:=Lib.hid (HMX.out.new_ hb3);have Kp:=Lib.hid (Kp.out.new_ hb3);have Lp:=Lib.hid Kp.out.lt;have Kr:=Lib.hid (Kr.out.new_ hb3);have Lr:=Lib.hid Kr.out.lt;clear hw3 hb3 hg1
   cases hA:atomV old n1 p.value with
   | none=>
     have HA2:=Lib.hid hA;clear hA;have HAV:=Lib.hid (show actV3 old ns p=none by unfold actV3;rw [HA1.out];simp only;rw [HA2.out]);obtain ⟨p0,p1,p2,p3,p4,p5,p6,p7,p8,p9,p10,p11,p12,p13,p14,p15⟩:=Kp.out.c16;have pz:=Kp.out.lt;have HAT:=Lib.hid (HVS.out.atom HO.out.1 HO.out.2.1 HO.out.2.2 HMX.out HDX.out (by omega) p.value);rw [HA2.out] at HAT;(go_wp2_with fail);refine HAT.out.mono ?_;rintro e wa2 ⟨rfl,hp⟩;obtain ⟨D2,hvs,hoff,hfr⟩:=HVS.out.put hp;have Kp:=Lib.hid (Kp.out.fr hfr Op.out);have Kr:=Lib.hid (Kr.out.fr hfr Or.out);have Kq1:=Lib.hid (Kq1.out.fr hfr Oq1.out);have HMX:=Lib.hid (HMX.out.fr hfr HDX.out);have HDX:=Lib.hid (hoff _ (by have:=HM.out.2;have:=HVS.out.fr.size;omega) HDX.out);have Op:=Lib.hid (hoff _ Lp.out Op.out);have Or:=Lib.hid (hoff _ Lr.out Or.out);have Oq1:=Lib.hid (hoff _ Lq1.out Oq1.out);have HVA:=Lib.hid hvs;clear hp hvs hoff hfr;clear p0 p1 p2 p3 p4 p5 p6 p7 p8 p9 p10 p11 p12 p13 p14 p15 pz;(go_upto_region 5 with fail);obtain ⟨wb2,hw3⟩ : ∃W,W=wa2.alloc (.cells #[.string ⟨#[]⟩,.int .i64 0,.string ⟨#[]⟩,.int .i64 0] 76):=⟨_,rfl⟩;(have hb3:Below wa2.heap.size wa2 wb2:=by rw [hw3];exact (Below.refl _ _).alloc (Nat.le_refl _) _);obtain ⟨g2,hg2⟩ : ∃g,g=wa2.heap.size:=⟨_,rfl⟩;have Kq2:=Lib.hid (show Blk wb2 g2 76 #[.string ⟨#[]⟩,.int .i64 0,.string ⟨#[]⟩,.int .i64 0] by rw [hw3,hg2];exact Blk.new _ _ _);have Oq2:=Lib.hid (show ¬D2 g2 from fun hk=>by have:=HVA.out.nm.lt _ hk;omega);have Lq2:=Lib.hid Kq2.out.lt;rw [← hw3,← hg2];have HVS:=Lib.hid (HVA.out.new_ hb3);have HMX:=Lib.hid (HMX.out.new_ hb3);have Kp:=Lib.hid (Kp.out.new_ hb3);have Lp:=Lib.hid Kp.out.lt;have Kr:=Lib.hid (Kr.out.new_ hb3);have Lr:=Lib.hid Kr.out.lt;have Kq1:=Lib.hid (Kq1.out.new_ hb3);have Lq1:=Lib.hid Kq1.out.lt;clear hw3 hb3 hg2;have HT:=Lib.hid (show wb2.there (w.heap.size+1) 0 (#[.string ⟨#[]⟩,.string ⟨#[]⟩,.int .i64 0,.string ⟨#[]⟩,.int .i64 0,.int .i64 0,.string ⟨#[]⟩,.int .i64 0,.string ⟨#[]⟩,.int .i64 0,.string ⟨#[]⟩,.int .i64 0,.string ⟨#[]⟩,.int .i64 0,.int .i64 0,.string ⟨#[]⟩,.int .i64 0,.string ⟨#[]⟩,.int .i64 0]:Array Value).size from Kr.out.there);go_wp2_with (with_reducible refine wpList_store_mid rfl 80 _ _ rfl (w.heap.size+1) 0 #[.string ⟨#[]⟩,.string ⟨#[]⟩,.int .i64 0,.string ⟨#[]⟩,.int .i64 0,.int .i64 0,.string ⟨#[]⟩,.int .i64 0,.string ⟨#[]⟩,.int .i64 0,.string ⟨#[]⟩,.int .i64 0,.string ⟨#[]⟩,.int .i64 0,.int .i64 0,.string ⟨#[]⟩,.int .i64 0,.string ⟨#[]⟩,.int .i64 0] rfl rfl HT.out (by kernel_rfl) (by kernel_rfl) ?_)
     (try simp only [Exit.inBlock,Exit.then]);refine bodyPost_ret (v:=.tuple #[.agg #[.string ⟨#[]⟩,.string ⟨#[]⟩,.int .i64 0,.string ⟨#[]⟩,.int .i64 0,.int .i64 0,.string ⟨#[]⟩,.int .i64 0,.string ⟨#[]⟩,.int .i64 0,.string ⟨#[]⟩,.int .i64 0,.string ⟨#[]⟩,.int .i64 0,.int .i64 0,.string ⟨#[]⟩,.int .i64 0,.string ⟨#[]⟩,.int .i64 0],.bool false]) ?_ rfl ?_
     · exact results_cell_tmp (t:=6) (s:=7) (T:=80) rfl _ _ (w.heap.size+1) [.string ⟨#[]⟩,.string ⟨#[]⟩,.int .i64 0,.string ⟨#[]⟩,.int .i64 0,.int .i64 0,.string ⟨#[]⟩,.int .i64 0,.string ⟨#[]⟩,.int .i64 0,.string ⟨#[]⟩,.int .i64 0,.string ⟨#[]⟩,.int .i64 0,.int .i64 0,.string ⟨#[]⟩,.int .i64 0,.string ⟨#[]⟩,.int .i64 0] _ rfl (World.rangeAt_setCells_same wb2 (w.heap.size+1) 0 [.string ⟨#[]⟩,.string ⟨#[]⟩,.int .i64 0,.string ⟨#[]⟩,.int .i64 0,.int .i64 0,.string ⟨#[]⟩,.int .i64 0,.string ⟨#[]⟩,.int .i64 0,.string ⟨#[]⟩,.int .i64 0,.string ⟨#[]⟩,.int .i64 0,.int .i64 0,.string ⟨#[]⟩,.int .i64 0,.string ⟨#[]⟩,.int .i64 0] HT.out) Tryz.underlying80 rfl (by kernel_rfl)
     · have HPT:=HVS.out.fin (Fr.setCells (g:=w.heap.size+1) [.string ⟨#[]⟩,.string ⟨#[]⟩,.int .i64 0,.string ⟨#[]⟩,.int .i64 0,.int .i64 0,.string ⟨#[]⟩,.int .i64 0,.string ⟨#[]⟩,.int .i64 0,.string ⟨#[]⟩,.int .i64 0,.string ⟨#[]⟩,.int .i64 0,.int .i64 0,.string ⟨#[]⟩,.int .i64 0,.string ⟨#[]⟩,.int .i64 0] 0 (Fr.refl (fun k=>k=w.heap.size+1) wb2) (.inl rfl)) (fun k hk=>by subst hk;exact ⟨by omega,Or.out⟩)
       rw [HAV.out];exact ⟨⟨⟨⟨#[]⟩,⟨⟨#[]⟩,symZ⟩,⟨0,atomZ,atomZ⟩,0,atomZ⟩,rfl⟩,_,HPT⟩
   | some z=>
     obtain ⟨a2,n2⟩:=z;have HA2:=Lib.hid hA;have hln2:=atomV_len hA;clear hA;obtain ⟨p0,p1,p2,p3,p4,p5,p6,p7,p8,p9,p10,p11,p12,p13,p14,p15⟩:=Kp.out.c16;have pz:=Kp.out.lt;have HAT:=Lib.hid (HVS.out.atom HO.out.1 HO.out.2.1 HO.out.2.2 HMX.out HDX.out (by omega) p.value);rw [HA2.out] at HAT;(go_wp2_with fail);refine HAT.out.mono ?_;rintro e wa2 ⟨rfl,hp⟩;obtain ⟨D2,hvs,hoff,hfr⟩:=HVS.out.put hp;have Kp:=Lib.hid (Kp.out.fr hfr Op.out);have Kr:=Lib.hid (Kr.out.fr hfr Or.out);have Kq1:=Lib.hid (Kq1.out.fr hfr Oq1.out);have HMX:=Lib.hid (HMX.out.fr hfr HDX.out);have HDX:=Lib.hid (hoff _ (by have:=HM.out.2;have:=HVS.out.fr.size;omega) HDX.out);have Op:=Lib.hid (hoff _ Lp.out Op.out);have Or:=Lib.hid (hoff _ Lr.out Or.out);have Oq1:=Lib.hid (hoff _ Lq1.out Oq1.out);have HVA:=Lib.hid hvs;clear hp hvs hoff hfr;clear p0 p1 p2 p3 p4 p5 p6 p7 p8 p9 p10 p11 p12 p13 p14 p15 pz;(go_upto_region 5 with fail);obtain ⟨wb2,hw3⟩ : ∃W,W=wa2.alloc (.cells #[.string a2.var,.int .i64 a2.sym.kind,.string a2.sym.text,.int .i64 a2.sym.n] 76):=⟨_,rfl⟩;(have hb3:Below wa2.heap.size wa2 wb2:=by rw [hw3];exact (Below.refl _ _).alloc (Nat.le_refl _) _);obtain ⟨g2,hg2⟩ : ∃g,g=wa2.heap.size:=⟨_,rfl⟩;have Kq2:=Lib.hid (show Blk wb2 g2 76 #[.string a2.var,.int .i64 a2.sym.kind,.string a2.sym.text,.int .i64 a2.sym.n] by rw [hw3,hg2];exact Blk.new _ _ _);have Oq2:=Lib.hid (show ¬D2 g2 from fun hk=>by have:=HVA.out.nm.lt _ hk;omega);have Lq2:=Lib.hid Kq2.out.lt;rw [← hw3,← hg2];have HVS:=Lib.hid (HVA.out.new_ hb3);have HMX:=Lib.hid (HMX.out.new_ hb3);have Kp:=Lib.hid (Kp.out.new_ hb3);have Lp:=Lib.hid Kp.out.lt;have Kr:=Lib.hid (Kr.out.new_ hb3);have Lr:=Lib.hid Kr.out.lt;have Kq1:=Lib.hid (Kq1.out.new_ hb3);have Lq1:=Lib.hid Kq1.out.lt;clear hw3 hb3 hg2
     cases hA:atomV old n2 p.other with
     | none=>
       have HA3:=Lib.hid hA;clear hA;have HAV:=Lib.hid (show actV3 old ns p=none by unfold actV3;rw [HA1.out];simp only;rw [HA2.out];simp only;rw [HA3.out]);obtain ⟨p0,p1,p2,p3,p4,p5,p6,p7,p8,p9,p10,p11,p12,p13,p14,p15⟩:=Kp.out.c16;have pz:=Kp.out.lt;have HAT:=Lib.hid (HVS.out.atom HO.out.1 HO.out.2.1 HO.out.2.2 HMX.out HDX.out (by omega) p.other);rw [HA3.out] at HAT;(go_wp2_with fail);refine HAT.out.mono ?_;rintro e wa3 ⟨rfl,hp⟩;obtain ⟨D3,hvs,hoff,hfr⟩:=HVS.out.put hp;have Kp:=Lib.hid (Kp.out.fr hfr Op.out);have Kr:=Lib.hid (Kr.out.fr hfr Or.out);have Kq1:=Lib.hid (Kq1.out.fr hfr Oq1.out);have Kq2:=Lib.hid (Kq2.out.fr hfr Oq2.out);have HMX:=Lib.hid (HMX.out.fr hfr HDX.out);have HDX:=Lib.hid (hoff _ (by have:=HM.out.2;have:=HVS.out.fr.size;omega) HDX.out);have Op:=Lib.hid (hoff _ Lp.out Op.out);have Or:=Lib.hid (hoff _ Lr.out Or.out);have Oq1:=Lib.hid (hoff _ Lq1.out Oq1.out);have Oq2:=Lib.hid (hoff _ Lq2.out Oq2.out);have HVA:=Lib.hid hvs;clear hp hvs hoff hfr;clear p0 p1 p2 p3 p4 p5 p6 p7 p8 p9 p10 p11 p12 p13 p14 p15 pz;(go_upto_region 8 with fail);obtain ⟨wb3,hw3⟩ : ∃W,W=wa3.alloc (.cells #[.string ⟨#[]⟩,.int .i64 0,.string ⟨#[]⟩,.int .i64 0] 76):=⟨_,rfl⟩;(have hb3:Below wa3.heap.size wa3 wb3:=by rw [hw3];exact (Below.refl _ _).alloc (Nat.le_refl _) _);obtain ⟨g3,hg3⟩ : ∃g,g=wa3.heap.size:=⟨_,rfl⟩;have Kq3:=Lib.hid (show Blk wb3 g3 76 #[.string ⟨#[]⟩,.int .i64 0,.string ⟨#[]⟩,.int .i64 0] by rw [hw3,hg3];exact Blk.new _ _ _);have Oq3:=Lib.hid (show ¬D3 g3 from fun hk=>by have:=HVA.out.nm.lt _ hk;omega);have Lq3:=Lib.hid Kq3.out.lt;rw [← hw3,← hg3];have HVS:=Lib.hid (HVA.out.new_ hb3);have HMX:=Lib.hid (HMX.out.new_ hb3);have Kp:=Lib.hid (Kp.out.new_ hb3);have Lp:=Lib.hid Kp.out.lt;have Kr:=Lib.hid (Kr.out.new_ hb3);have Lr:=Lib.hid Kr.out.lt;have Kq1:=Lib.hid (Kq1.out.new_ hb3);have Lq1:=Lib.hid Kq1.out.lt;have Kq2:=Lib.hid (Kq2.out.new_ hb3)
       have Lq2:=Lib.hid Kq2.out.lt;clear hw3 hb3 hg3;obtain ⟨p0,p1,p2,p3,p4,p5,p6,p7,p8,p9,p10,p11,p12,p13,p14,p15⟩:=Kp.out.c16;have pz:=Kp.out.lt;obtain ⟨q10,q11,q12,q13⟩:=Kq1.out.c4;have q1z:=Kq1.out.lt;obtain ⟨q20,q21,q22,q23⟩:=Kq2.out.c4;have q2z:=Kq2.out.lt;obtain ⟨q30,q31,q32,q33⟩:=Kq3.out.c4;have q3z:=Kq3.out.lt;have HT:=Lib.hid (show wb3.there (w.heap.size+1) 0 (#[.string a1.var,.string ⟨#[]⟩,.int .i64 p.attr.kind,.string p.attr.text,.int .i64 p.attr.n,.int .i64 0,.string a2.var,.int .i64 a2.sym.kind,.string a2.sym.text,.int .i64 a2.sym.n,.string ⟨#[]⟩,.int .i64 0,.string ⟨#[]⟩,.int .i64 0,.int .i64 p.kind,.string ⟨#[]⟩,.int .i64 0,.string ⟨#[]⟩,.int .i64 0]:Array Value).size from Kr.out.there);(go_wp2_with (with_reducible refine wpList_store_mid rfl 80 _ _ rfl (w.heap.size+1) 0 #[.string a1.var,.string ⟨#[]⟩,.int .i64 p.attr.kind,.string p.attr.text,.int .i64 p.attr.n,.int .i64 0,.string a2.var,.int .i64 a2.sym.kind,.string a2.sym.text,.int .i64 a2.sym.n,.string ⟨#[]⟩,.int .i64 0,.string ⟨#[]⟩,.int .i64 0,.int .i64 p.kind,.string ⟨#[]⟩,.int .i64 0,.string ⟨#[]⟩,.int .i64 0] rfl rfl HT.out (by kernel_rfl) (by kernel_rfl) ?_));(try simp only [Exit.inBlock,Exit.then]);refine bodyPost_ret (v:=.tuple #[.agg #[.string a1.var,.string ⟨#[]⟩,.int .i64 p.attr.kind,.string p.attr.text,.int .i64 p.attr.n,.int .i64 0,.string a2.var,.int .i64 a2.sym.kind,.string a2.sym.text,.int .i64 a2.sym.n,.string ⟨#[]⟩,.int .i64 0,.string ⟨#[]⟩,.int .i64 0,.int .i64 p.kind,.string ⟨#[]⟩,.int .i64 0,.string ⟨#[]⟩,.int .i64 0],.bool false]) ?_ rfl ?_
       · exact results_cell_tmp (t:=6) (s:=7) (T:=80) rfl _ _ (w.heap.size+1) [.string a1.var,.string ⟨#[]⟩,.int .i64 p.attr.kind,.string p.attr.text,.int .i64 p.attr.n,.int .i64 0,.string a2.var,.int .i64 a2.sym.kind,.string a2.sym.text,.int .i64 a2.sym.n,.string ⟨#[]⟩,.int .i64 0,.string ⟨#[]⟩,.int .i64 0,.int .i64 p.kind,.string ⟨#[]⟩,.int .i64 0,.string ⟨#[]⟩,.int .i64 0] _ rfl (World.rangeAt_setCells_same wb3 (w.heap.size+1) 0 [.string a1.var,.string ⟨#[]⟩,.int .i64 p.attr.kind,.string p.attr.text,.int .i64 p.attr.n,.int .i64 0,.string a2.var,.int .i64 a2.sym.kind,.string a2.sym.text,.int .i64 a2.sym.n,.string ⟨#[]⟩,.int .i64 0,.string ⟨#[]⟩,.int .i64 0,.int .i64 p.kind,.string ⟨#[]⟩,.int .i64 0,.string ⟨#[]⟩,.int .i64 0] HT.out) Tryz.underlying80 rfl (by kernel_rfl)
       · have HPT:=HVS.out.fin (Fr.setCells (g:=w.heap.size+1) [.string a1.var,.string ⟨#[]⟩,.int .i64 p.attr.kind,.string p.attr.text,.int .i64 p.attr.n,.int .i64 0,.string a2.var,.int .i64 a2.sym.kind,.string a2.sym.text,.int .i64 a2.sym.n,.string ⟨#[]⟩,.int .i64 0,.string ⟨#[]⟩,.int .i64 0,.int .i64 p.kind,.string ⟨#[]⟩,.int .i64 0,.string ⟨#[]⟩,.int .i64 0] 0 (Fr.refl (fun k=>k=w.heap.size+1) wb3) (.inl rfl)) (fun k hk=>by subst hk;exact ⟨by omega,Or.out⟩)
         rw [HAV.out];exact ⟨⟨⟨a1.var,⟨⟨#[]⟩,p.attr⟩,⟨0,a2,atomZ⟩,p.kind,atomZ⟩,rfl⟩,_,HPT⟩
     | some z=>
       obtain ⟨a3,n3⟩:=z;have HA3:=Lib.hid hA;have hln3:=atomV_len hA;clear hA;obtain ⟨p0,p1,p2,p3,p4,p5,p6,p7,p8,p9,p10,p11,p12,p13,p14,p15⟩:=Kp.out.c16;have pz:=Kp.out.lt;have HAT:=Lib.hid (HVS.out.atom HO.out.1 HO.out.2.1 HO.out.2.2 HMX.out HDX.out (by omega) p.other);rw [HA3.out] at HAT;(go_wp2_with fail);refine HAT.out.mono ?_;rintro e wa3 ⟨rfl,hp⟩;obtain ⟨D3,hvs,hoff,hfr⟩:=HVS.out.put hp;have Kp:=Lib.hid (Kp.out.fr hfr Op.out);have Kr:=Lib.hid (Kr.out.fr hfr Or.out);have Kq1:=Lib.hid (Kq1.out.fr hfr Oq1.out);have Kq2:=Lib.hid (Kq2.out.fr hfr Oq2.out);have HMX:=Lib.hid (HMX.out.fr hfr HDX.out);have HDX:=Lib.hid (hoff _ (by have:=HM.out.2;have:=HVS.out.fr.size;omega) HDX.out);have Op:=Lib.hid (hoff _ Lp.out Op.out);have Or:=Lib.hid (hoff _ Lr.out Or.out);have Oq1:=Lib.hid (hoff _ Lq1.out Oq1.out);have Oq2:=Lib.hid (hoff _ Lq2.out Oq2.out);have HVA:=Lib.hid hvs;clear hp hvs hoff hfr;clear p0 p1 p2 p3 p4 p5 p6 p7 p8 p9 p10 p11 p12 p13 p14 p15 pz;(go_upto_region 8 with fail);obtain ⟨wb3,hw3⟩ : ∃W,W=wa3.alloc (.cells #[.string a3.var,.int .i64 a3.sym.kind,.string a3.sym.text,.int .i64 a3.sym.n] 76):=⟨_,rfl⟩;(have hb3:Below wa3.heap.size wa3 wb3:=by rw [hw3];exact (Below.refl _ _).alloc (Nat.le_refl _) _);obtain ⟨g3,hg3⟩ : ∃g,g=wa3.heap.size:=⟨_,rfl⟩;have Kq3:=Lib.hid (show Blk wb3 g3 76 #[.string a3.var,.int .i64 a3.sym.kind,.string a3.sym.text,.int .i64 a3.sym.n] by rw [hw3,hg3];exact Blk.new _ _ _);have Oq3:=Lib.hid (show ¬D3 g3 from fun hk=>by have:=HVA.out.nm.lt _ hk;omega);have Lq3:=Lib.hid Kq3.out.lt;rw [← hw3,← hg3];have HVS:=Lib.hid (HVA.out.new_ hb3);have HMX:=Lib.hid (HMX.out.new_ hb3);have Kp:=Lib.hid (Kp.out.new_ hb3);have Lp:=Lib.hid Kp.out.lt;have Kr:=Lib.hid (Kr.out.new_ hb3);have Lr:=Lib.hid Kr.out.lt;have Kq1:=Lib.hid (Kq1.out.new_ hb3);have Lq1:=Lib.hid Kq1.out.lt
       have Kq2:=Lib.hid (Kq2.out.new_ hb3);have Lq2:=Lib.hid Kq2.out.lt;clear hw3 hb3 hg3;have HAV:=Lib.hid (show actV3 old ns p=some (⟨a1.var,⟨⟨#[]⟩,p.attr⟩,⟨0,a2,atomZ⟩,p.kind,a3⟩,n3) by unfold actV3;rw [HA1.out];simp only;rw [HA2.out];simp only;rw [HA3.out]);obtain ⟨p0,p1,p2,p3,p4,p5,p6,p7,p8,p9,p10,p11,p12,p13,p14,p15⟩:=Kp.out.c16;have pz:=Kp.out.lt;obtain ⟨q10,q11,q12,q13⟩:=Kq1.out.c4;have q1z:=Kq1.out.lt;obtain ⟨q20,q21,q22,q23⟩:=Kq2.out.c4;have q2z:=Kq2.out.lt;obtain ⟨q30,q31,q32,q33⟩:=Kq3.out.c4;have q3z:=Kq3.out.lt;have HT:=Lib.hid (show wb3.there (w.heap.size+1) 0 (#[.string a1.var,.string ⟨#[]⟩,.int .i64 p.attr.kind,.string p.attr.text,.int .i64 p.attr.n,.int .i64 0,.string a2.var,.int .i64 a2.sym.kind,.string a2.sym.text,.int .i64 a2.sym.n,.string ⟨#[]⟩,.int .i64 0,.string ⟨#[]⟩,.int .i64 0,.int .i64 p.kind,.string a3.var,.int .i64 a3.sym.kind,.string a3.sym.text,.int .i64 a3.sym.n]:Array Value).size from Kr.out.there);(go_wp2_with (with_reducible refine wpList_store_mid rfl 80 _ _ rfl (w.heap.size+1) 0 #[.string a1.var,.string ⟨#[]⟩,.int .i64 p.attr.kind,.string p.attr.text,.int .i64 p.attr.n,.int .i64 0,.string a2.var,.int .i64 a2.sym.kind,.string a2.sym.text,.int .i64 a2.sym.n,.string ⟨#[]⟩,.int .i64 0,.string ⟨#[]⟩,.int .i64 0,.int .i64 p.kind,.string a3.var,.int .i64 a3.sym.kind,.string a3.sym.text,.int .i64 a3.sym.n] rfl rfl HT.out (by kernel_rfl) (by kernel_rfl) ?_));(try simp only [Exit.inBlock,Exit.then]);refine bodyPost_ret (v:=.tuple #[.agg #[.string a1.var,.string ⟨#[]⟩,.int .i64 p.attr.kind,.string p.attr.text,.int .i64 p.attr.n,.int .i64 0,.string a2.var,.int .i64 a2.sym.kind,.string a2.sym.text,.int .i64 a2.sym.n,.string ⟨#[]⟩,.int .i64 0,.string ⟨#[]⟩,.int .i64 0,.int .i64 p.kind,.string a3.var,.int .i64 a3.sym.kind,.string a3.sym.text,.int .i64 a3.sym.n],.bool true]) ?_ rfl ?_
       · exact results_cell_tmp (t:=6) (s:=7) (T:=80) rfl _ _ (w.heap.size+1) [.string a1.var,.string ⟨#[]⟩,.int .i64 p.attr.kind,.string p.attr.text,.int .i64 p.attr.n,.int .i64 0,.string a2.var,.int .i64 a2.sym.kind,.string a2.sym.text,.int .i64 a2.sym.n,.string ⟨#[]⟩,.int .i64 0,.string ⟨#[]⟩,.int .i64 0,.int .i64 p.kind,.string a3.var,.int .i64 a3.sym.kind,.string a3.sym.text,.int .i64 a3.sym.n] _ rfl (World.rangeAt_setCells_same wb3 (w.heap.size+1) 0 [.string a1.var,.string ⟨#[]⟩,.int .i64 p.attr.kind,.string p.attr.text,.int .i64 p.attr.n,.int .i64 0,.string a2.var,.int .i64 a2.sym.kind,.string a2.sym.text,.int .i64 a2.sym.n,.string ⟨#[]⟩,.int .i64 0,.string ⟨#[]⟩,.int .i64 0,.int .i64 p.kind,.string a3.var,.int .i64 a3.sym.kind,.string a3.sym.text,.int .i64 a3.sym.n] HT.out) Tryz.underlying80 rfl (by kernel_rfl)
       · have HPT:=HVS.out.fin (Fr.setCells (g:=w.heap.size+1) [.string a1.var,.string ⟨#[]⟩,.int .i64 p.attr.kind,.string p.attr.text,.int .i64 p.attr.n,.int .i64 0,.string a2.var,.int .i64 a2.sym.kind,.string a2.sym.text,.int .i64 a2.sym.n,.string ⟨#[]⟩,.int .i64 0,.string ⟨#[]⟩,.int .i64 0,.int .i64 p.kind,.string a3.var,.int .i64 a3.sym.kind,.string a3.sym.text,.int .i64 a3.sym.n] 0 (Fr.refl (fun k=>k=w.heap.size+1) wb3) (.inl rfl)) (fun k hk=>by subst hk;exact ⟨by omega,Or.out⟩)
         rw [HAV.out];exact ⟨rfl,HPT⟩
end
section
open Go.RowKit
abbrev NameSet:=SetAt (α:=Name) 244 197 1 Name.cells
theorem nilAhead_Name (k0 : ByteArray) (w : World) : (nilAhead 555 197 (.string k0) "Compare").run Tryz.prog w = .ok (some false) w := by kernel_rfl
theorem method_Name (k0 : ByteArray) (w : World) : (method 555 197 (.string k0) "Compare").run Tryz.prog w = .ok (316, .string k0) w := by kernel_rfl
def FoundName (l:List Name) (x:Name) (w:World) (e:Ending) (w':World):Prop:=
 e = .returned (.tuple #[.int .i64 (rank cmpName l x),.bool (has cmpName l x)])∧Below w.heap.size w w'
theorem find_Name (b c:Nat) (sn:Bool) (A:Option Addr) (l:List Name) (x:Name) (w:World) (hS:NameSet w b sn A c l) (hs:Srt cmpName l) (hl:(l.length:Int)≤4611686018427387904) :
 Calls Tryz.prog 198 #[.pointer (some ⟨b,0,none⟩),.string x] w (FoundName l x w):=by
 have hrd:=hS.rd Name.cells_length;have h0:=hS.cell0;have hb:=hS.lt;clear hS;have HS:=Lib.hid hs;have HRD:=Lib.hid hrd;clear hs hrd;go_enter Tryz.func198,Tryz.ntmps198;(go_wp2_with fail);go_quiet (fail);(go_wp2_with fail);obtain ⟨W0,hW0⟩ : ∃W0,W0=(w.drewN nq):=⟨_,rfl⟩;(have hB0:Below w.heap.size w W0:=by rw [hW0];exact Below.drewN' (Below.refl _ _) _);rw [← hW0];clear hW0;have HB0:=Lib.hid hB0;clear hB0
 go_loopw [6,7] (fun lo hi wr=>∃i j:Nat,lo = .int .i64 i∧hi = .int .i64 j∧i≤j∧j≤l.length∧(∀k,(h:k<l.length)→k<i→cmpName l[k] x<0)∧(∀k,(h:k<l.length)→j≤k→0<cmpName l[k] x)∧Below W0.heap.size W0 wr) (fun lo hi wr=>(intOf hi).toNat - (intOf lo).toNat)
 case atStart=>exact ⟨0,l.length,rfl,rfl,Nat.zero_le _,Nat.le_refl _,fun k _ h=>absurd h (by omega),fun k h h'=>absurd h (by omega),Below.refl _ _⟩
 case round=>
  obtain ⟨i,j,rfl,rfl,hij,hj,hlo,hhi,hB⟩:=hrel;have HLO:=Lib.hid hlo;have HHI:=Lib.hid hhi;clear hlo hhi;have hsz:w.heap.size≤W0.heap.size:=HB0.out.size;by_cases hlt:i<j
  · obtain ⟨m,hm⟩ : ∃m,m=i+(j - i) / 2:=⟨_,rfl⟩
    (have hml:m<l.length:=by omega);(have hmj:m<j:=by omega);(have hmi:i≤m:=by omega);(have e1:((i:Int)+((j:Int) - (i:Int)) / 2)=(m:Int):=by omega);have E1:=Lib.hid e1;clear e1 hm;obtain ⟨g,off,rfl,hgs,hcell⟩:=HRD.out.at_ hml;have low : ∀(p:Addr),p.block<w.heap.size→wr.cell? p=w.cell? p:=fun p hp=>(hB.cell (p:=p) (by omega)).trans (HB0.out.cell (p:=p) hp);have r0:=(low ⟨b,0,none⟩ hb).trans h0;have q0:wr.cell? ⟨g,off+m,none⟩=some (.string l[m]):=(low ⟨g,off+m,none⟩ hgs).trans (by simpa using hcell 0 _ rfl);(have b1:(0:Int)≤(m:Int):=by omega);(have b2:(m:Int)<(l.length:Int):=by omega);have hsw:W0.heap.size≤wr.heap.size:=hB.size;have N:=nilAhead_Name;have M:=method_Name;clear low hcell h0;have HB:=Lib.hid hB;clear hB;obtain ⟨y,hy⟩ : ∃y,y=l[m]:=⟨_,rfl⟩;rw [← hy] at q0;have HY:=Lib.hid hy;clear hy;(have hbw:b<wr.heap.size:=by omega);(have hgw:g<wr.heap.size:=by omega);(go_upto_region 4 with (fail));rw [E1.out];(go_wp2_with fail);refine (cmp_name y x _).mono ?_;rintro e w1 ⟨rfl,hb1⟩;have HB1:Below W0.heap.size W0 w1:=HB.out.trans (hb1.mono hsw);clear r0 q0 N M;have HB1':=Lib.hid HB1;clear HB1;by_cases hc:cmpName y x=0
    · have HC:=Lib.hid hc
      (have t1:(cmpName y x == 0)=true:=by simp [hc]);clear hc;(go_wp2_with fail);go_ret2;have e:=HC.out;rw [HY.out] at e;refine ⟨?_,HB0.out.trans (HB1'.out.mono (by omega))⟩;rw [rank_some tc_name HS.out hml e,(at_some tc_name HS.out hml e).2.2.1];rfl
    · have t1:(cmpName y x == 0)=false:=by simp [hc]
      by_cases hc2:cmpName y x<0
      · have HC:=Lib.hid hc2
        (have t2:decide (cmpName y x<0)=true:=by simpa using hc2);clear hc hc2;(go_wp2_with fail);go_roundw
        case rel=>
         refine ⟨m+1,j,by go_num,rfl,by omega,hj,fun k h1 h2=>?_,HHI.out,HB1'.out⟩;have e:=HC.out;rw [HY.out] at e;rcases Nat.lt_or_ge k m with h3 | h3
         · exact tc_name.lt_of_lt_of_le (HS.out.lt h3 hml) (by omega)
         · obtain rfl:k=m:=by omega
           exact e
        case measure=>simp [intOf];omega
      · have t2:decide (cmpName y x<0)=false:=by simpa using hc2
        (have hc3:0<cmpName y x:=by omega);have HC:=Lib.hid hc3;clear hc hc2 hc3;(go_wp2_with fail);go_roundw
        case rel=>
         refine ⟨i,m,rfl,rfl,by omega,by omega,HLO.out,fun k h1 h2=>?_,HB1'.out⟩;have e:=HC.out;rw [HY.out] at e;rcases Nat.lt_or_ge m k with h3 | h3
         · exact (tc_name.symm _ _).1 (tc_name.lt_trans ((tc_name.symm _ _).2 e) (HS.out.lt h3 h1))
         · obtain rfl:k=m:=by omega
           exact e
        case measure=>simp [intOf];omega
  · obtain rfl:i=j:=by omega
    have HB:=Lib.hid hB;clear hB;(go_wp2_with fail);go_ret2;refine ⟨?_,HB0.out.trans (HB.out.mono (by omega))⟩;rw [rank_none hj HLO.out HHI.out,(at_none HLO.out HHI.out).2.2];rfl
end
section
open Go.RowKit
theorem info_Name:(Tryz.prog.info? 197).map (fun i=>(i.zero,i.size,i.bytes))=some (some (.string ⟨#[]⟩),1,16):=by kernel_rfl
theorem Name.one (x:Name) : ∀u∈Name.cells x,u.oneCell'=true:=by intro u hu;simp [Name.cells] at hu;rcases hu with rfl<;>rfl
theorem Name.oneAll (l:List Name) : ∀u∈l.flatMap Name.cells,u.oneCell'=true:=by intro u hu;obtain ⟨x,_,hx⟩:=List.mem_flatMap.1 hu;exact Name.one x u hx
def OwnPostName (w:World) (b:Nat) (sn:Bool) (A:Option Addr) (l:List Name) (e:Ending) (w':World):Prop:=
 e = .returned (.tuple #[])∧∃A' c',NameSet w' b false A' c' l∧Fr (· = b) w w'∧Moved w sn A false A'
theorem own_no_Name (b c:Nat) (A:Option Addr) (l:List Name) (w:World) (hS:NameSet w b false A c l) :
 Calls Tryz.prog 199 #[.pointer (some ⟨b,0,none⟩)] w (OwnPostName w b false A l):=by
 have h1:=hS.cell1;have HS:=Lib.hid hS;clear hS;go_enter Tryz.func199,Tryz.ntmps199;go_wp2;go_end0;exact ⟨rfl,A,c,HS.out,Fr.refl _ _,.inl ⟨rfl,rfl⟩⟩
theorem own_yes_Name (b c:Nat) (A:Option Addr) (l:List Name) (w:World) (hS:NameSet w b true A c l) (hl:(l.length:Int)≤1000000000) :
 Calls Tryz.prog 199 #[.pointer (some ⟨b,0,none⟩)] w (OwnPostName w b true A l):=by
 obtain ⟨i0,hi,hz0,hz1,hz2⟩:=info_parts info_Name;have h0:=hS.cell0;have h1:=hS.cell1;have hb:=hS.lt;have f0:=hS.blk.frozen 0;have f1:=hS.blk.frozen 1;have hrd:=hS.rd Name.cells_length;have HB:=Lib.hid hS.blk;have HRD:=Lib.hid hrd;clear hS hrd;have e1:IntKind.i64.wrap ((l.length:Int)+1)=(l.length:Int)+1:=IntWalk.i64_in _ (by omega)
 have hmk : ∀W:World,(Instr.makeSlice 242 (.int .i64 0) (.int .i64 ((l.length:Int)+1))).run Tryz.prog W = .ok (.slice (some ⟨W.heap.size,0,none⟩) 0 (l.length+1)) (W.alloc (.cells (madeCells (Value.cells (.string ⟨#[]⟩)) ((l.length+1))) 197)):=fun W=>by
  have h:=run_make (P:=Tryz.prog) W 242 197 i0 _ Tryz.underlying242 hi hz0 .i64 .i64 0 ((l.length:Int)+1) (by omega) (by omega) (by rw [hz2];omega) (by omega);rw [hz1] at h;simpa [show ((l.length:Int)+1).toNat=l.length+1 by omega] using h
 go_enter Tryz.func199,Tryz.ntmps199;(go_wp2_with fail);refine wp_region_E (fun w9=>Below w.heap.size w w9) [(0,0),(1,0),(2,0),(3,0),(4,1),(5,0),(6,0),(8,0),(9,0),(10,0),(11,1),(7,2),(12,2),(13,0),(14,0),(15,2)] (by kernel_rfl) (by kernel_rfl) (fun KK hKK=>?_);simp only [beside,List.filterMap_cons,List.filterMap_nil,List.getElem?_toArray,List.getElem?_cons_zero,List.getElem?_cons_succ,Option.map_some];(repeat ((first | (refine wpX_w ?_ (Or.inl ⟨by rfl,fun w9=>?_⟩) ?_;rotate_left 1;go_simp;with_reducible rfl) | (refine wpX_l ?_ (((Below.refl _ _).drew)) (Or.inl ⟨by rfl,fun w9 hw9=>?_⟩) ?_;rotate_left 1;obtain ⟨hc9,hf9⟩:=bcell hw9;go_simp;with_reducible rfl) | refine wpX_w undef (Or.inr ⟨by rfl,rfl⟩) ?_ | refine wpX_l undef (((Below.refl _ _).drew)) (Or.inr ⟨by rfl,rfl⟩) ?_);go_frame));refine wpX_es (fun K9 hK9=>?_);go_simp;refine hK9 _ _ (((Below.refl _ _).drew).alloc (Nat.le_refl _) _) ?_;clear hK9 K9;refine wpX_e (by kernel_rfl) (fun K9 hK9=>?_)
 refine step_append_src _ (by rfl) _ _ _ (by rfl) 197 i0 _ 1 16 Tryz.underlying242 hi hz0 hz1 hz2 rfl (by omega) _ 0 [] (by rfl) (World.ownsRow_made _ _ _ (Nat.zero_le _) (by unfold maxLen;omega) (by simp [madeCells])) A l.length c (l.flatMap Name.cells) (by rfl) (flat_length Name.cells_length l)
  ((HRD.out.drew.alloc _).news Name.cells_length (by omega)) (Name.oneAll l) (by unfold maxLen;omega) (by omega) ?_
 intro v2 w2 hown hgr hnil hat;refine hK9 _ _ ?_;clear hK9 K9;rw [Nat.zero_add,List.nil_append] at hown;obtain ⟨A',c',rfl,_,_,hz⟩:=own_form2 hown;have HB1:=(HB.out.drew.alloc (.cells (madeCells (Value.cells (.string ⟨#[]⟩)) ((l.length+1))) 197)).grown hgr (by simp [Value.ownBlock];omega);have c0:=(HB1.cell 0).trans rfl;have c1:=(HB1.cell 1).trans rfl;have z0:=HB1.frozen 0;have z1:=HB1.frozen 1;have HB2:=Lib.hid HB1;clear HB1;(repeat ((first | (refine wpX_w ?_ (Or.inl ⟨by rfl,fun w9=>?_⟩) ?_;rotate_left 1;go_simp;with_reducible rfl) | (refine wpX_l ?_ (((Below.refl _ _).drew).alloc (Nat.le_refl _) _) (Or.inl ⟨by rfl,fun w9 hw9=>?_⟩) ?_;rotate_left 1;obtain ⟨hc9,hf9⟩:=bcell hw9;go_simp;with_reducible rfl) | refine wpX_w undef (Or.inr ⟨by rfl,rfl⟩) ?_ | refine wpX_l undef (((Below.refl _ _).drew).alloc (Nat.le_refl _) _) (Or.inr ⟨by rfl,rfl⟩) ?_);go_frame));refine wpX_e (by kernel_rfl) (fun K9 hK9=>?_);go_simp;refine hK9 _ _ ?_;clear hK9 K9;refine wpX_nil ?_;simp only [OnlyN_normal];refine hKK _ _ ?_;clear hKK KK;go_wp2;go_end0
 have hb2:(Value.slice A' l.length c').ownBlock=some w.heap.size∨(Value.slice A' l.length c').ownBlock=some (w.heap.size+1):=by
  rcases hat with h | h
  · left;rw [h];rfl
  · right;rw [h];simp
 have hA : ∃g,w.heap.size≤g∧A'=some ⟨g,0,none⟩:=by
  rcases A' with _ | a
  · exfalso;simp [Value.ownBlock] at hb2
  · obtain ⟨g,rfl⟩:=hz a rfl
    refine ⟨g,?_,rfl⟩;simp [Value.ownBlock] at hb2;omega
 obtain ⟨g,hg,rfl⟩:=hA;have HB1:=HB2.out;have HF:Fr (· = b) w w2:=((Fr.refl (· = b) w).drew.alloc _).grown hgr (fun k e=>by simp [Value.ownBlock] at e;right;omega);refine ⟨rfl,some ⟨g,0,none⟩,c',⟨(HB1.set_ 0 _).set_ 1 _,?_⟩,(HF.setCell (p:=⟨b,0,none⟩) (.inl rfl) _).setCell (p:=⟨b,1,none⟩) (.inl rfl) _,.inr ⟨rfl,g,hg,rfl⟩⟩;(have hne:(Value.slice (some ⟨g,0,none⟩) l.length c').ownBlock≠some b:=by simp [Value.ownBlock];omega);exact ownsRow_setCell_other (a:=⟨b,1,none⟩) (ownsRow_setCell_other (a:=⟨b,0,none⟩) hown hne _) hne _
theorem own_Name (b c:Nat) (sn:Bool) (A:Option Addr) (l:List Name) (w:World) (hS:NameSet w b sn A c l) (hl:(l.length:Int)≤1000000000) :
 Calls Tryz.prog 199 #[.pointer (some ⟨b,0,none⟩)] w (OwnPostName w b sn A l):=by
 cases sn
 · exact own_no_Name b c A l w hS
 · exact own_yes_Name b c A l w hS hl
end
section
open Go.RowKit
def PutPostName (w:World) (b:Nat) (sn:Bool) (A:Option Addr) (l:List Name) (x:Name) (e:Ending) (w':World):Prop:=
 e = .returned (.bool (!has cmpName l x))∧∃sn' A' c',NameSet w' b sn' A' c' (put cmpName l x)∧Fr (SetMod b sn A) w w'∧Moved w sn A sn' A'
theorem put_there_Name (b c:Nat) (sn:Bool) (A:Option Addr) (l:List Name) (x:Name) (w:World) (hS:NameSet w b sn A c l) (hs:Srt cmpName l) (hl:(l.length:Int)≤100000000) (hh:has cmpName l x=true) :
 Calls Tryz.prog 160 #[.pointer (some ⟨b,0,none⟩),.string x] w (PutPostName w b sn A l x):=by
 have HS:=Lib.hid hS;have HO:=Lib.hid hs;clear hS hs;go_enter Tryz.func160,Tryz.ntmps160;(go_wp2_with fail);refine (find_Name b c sn A l x _ (HS.out.new_ (Below.refl _ _)) HO.out (by omega)).mono ?_;rintro e w1 ⟨rfl,hb1⟩;(go_wp2_with fail);go_ret;refine ⟨by rw [hh];rfl,sn,A,c,?_,Fr.of_new ((Below.refl _ _).trans (hb1.mono (by simp))),.inl ⟨rfl,rfl⟩⟩;rw [put_has hh];exact HS.out.new_ ((Below.refl _ _).trans (hb1.mono (by simp)))
theorem put_new_Name (b c:Nat) (sn:Bool) (A:Option Addr) (l:List Name) (x:Name) (w:World) (hS:NameSet w b sn A c l) (hs:Srt cmpName l) (hl:(l.length:Int)≤100000000) (hh:has cmpName l x=false) :
 Calls Tryz.prog 160 #[.pointer (some ⟨b,0,none⟩),.string x] w (PutPostName w b sn A l x):=by
 obtain ⟨i0,hi,hz0,hz1,hz2⟩:=info_parts info_Name;have HS:=Lib.hid hS;have HO:=Lib.hid hs;have hb:=hS.lt;clear hS hs;have hrk:=rank_le (cmp:=cmpName) l x;go_enter Tryz.func160,Tryz.ntmps160;(go_wp2_with fail);have hSa:=HS.out.new_ (Below.refl w.heap.size w);have HSa:=Lib.hid hSa;clear hSa;refine (find_Name b c sn A l x _ HSa.out HO.out (by omega)).mono ?_;rintro e w1 ⟨rfl,hb1⟩;have HS1:=Lib.hid (HSa.out.new_ hb1);(have hsz1:w.heap.size≤w1.heap.size:=by have:=hb1.size;(try simp at this);omega);have HB1:=Lib.hid hb1;clear hb1;(go_wp2_with fail);refine (own_Name b c sn A l _ HS1.out (by omega)).mono ?_;rintro e w2 ⟨rfl,A1,c1,hS2,hF2,hM2⟩;have hsz2:w1.heap.size≤w2.heap.size:=hF2.size;have s0:=hS2.cell0;have f0:=hS2.blk.frozen 0;(have hb2:b<w2.heap.size:=by omega);have HS2:=Lib.hid hS2;have HF2:=Lib.hid hF2;have HM2:=Lib.hid hM2;clear hS2 hF2 hM2
 go_upto_region 8 with
  (at_builtin;refine wpList_append_src (w2.alloc (.cells #[.string x] 197)) rfl (.tmp 23) (.tmp 25) 242 rfl 197 i0 _ 1 16 Tryz.underlying242 hi hz0 hz1 hz2 rfl (by omega) (.slice A1 l.length c1) l.length (l.flatMap Name.cells) rfl (ownsRow_new HS2.out.row ((Below.refl _ _).alloc (Nat.le_refl _) _)) (some ⟨w2.heap.size,0,none⟩) 1 1 (Name.cells x) rfl rfl (fun _=>⟨_,rfl,World.news_of_block (heap_alloc_new _ _)⟩) (Name.one x) (by unfold maxLen;omega) (by omega) ?_;
   intro v2 w3 hown hgr hnil hat;
   obtain ⟨g,c2,rfl⟩ : ∃g c2,v2 = .slice (some ⟨g,0,none⟩) (l.length+1) c2:=(by
    rcases ownsRow_form hown with ⟨_,h0,_⟩ | ⟨g,c2,h,_⟩
    · omega
    · exact ⟨g,c2,h⟩);
   have HB3':=(HS2.out.blk.alloc (.cells #[.string x] 197)).grown hgr (own_blk_ne HS2.out.row HS2.out.blk (by decide));
   have c0:=(HB3'.cell 0).trans rfl;
   have z0:=HB3'.frozen 0;
   have HB3:=Lib.hid HB3';
   have HOWN:=Lib.hid hown;
   have HGR:=Lib.hid hgr;
   clear HB3' hown hgr)
 have hlg:((l.length+1:Nat):Int)=(l.length:Int)+1:=by omega
 have hG:(SetMod b sn A g∨w.heap.size≤g)∧Moved w sn A false (some ⟨g,0,none⟩)∧True∧g≠b:=by
  rcases hat with h | h
  · rcases A1 with _ | a1
    · simp [Value.ownBlock] at h
    · obtain ⟨A',c',hv,_,_,hz⟩:=own_form2 HS2.out.row
      injection hv with hv _ _;obtain ⟨g',rfl⟩:=hz a1 hv.symm;(have hgg:g'=g:=by simpa [Value.ownBlock] using h.symm);subst hgg;have hne:g'≠b:=HS2.out.row_ne (by decide) _ rfl;rcases HM2.out with ⟨hsn,hA⟩ | ⟨_,g2,hg2,hA⟩
      · have h1:=HS.out.row_lt _ hA.symm
        exact ⟨.inl (.inr ⟨hsn.symm,_,hA.symm,rfl⟩),.inl ⟨hsn,hA⟩,True.intro,hne⟩
      · injection hA with hA
        injection hA with hA;subst hA;exact ⟨.inr (by omega),.inr ⟨rfl,_,by omega,rfl⟩,True.intro,hne⟩
  · have hgg:g=w2.heap.size+1:=by simpa [Value.ownBlock] using h
    subst hgg;exact ⟨.inr (by omega),.inr ⟨rfl,_,by omega,rfl⟩,True.intro,by omega⟩
 obtain ⟨hgM,hgMv,hgk1,hgb⟩:=hG;obtain ⟨w4,hw4⟩ : ∃w4,w4=w3.setCell ⟨b,0,none⟩ (.slice (some ⟨g,0,none⟩) (l.length+1) c2):=⟨_,rfl⟩;have hB4:Blk w4 b 244 #[.slice (some ⟨g,0,none⟩) (l.length+1) c2,.bool false]:=by rw [hw4];exact HB3.out.set_ 0 _
 have hR4:w4.ownsRow 0 197 1 (.slice (some ⟨g,0,none⟩) (l.length+1) c2) (l.length+1) ((shiftAt l x l.length).flatMap Name.cells):=by
  rw [hw4,shiftAt_start];refine ownsRow_setCell_other (a:=⟨b,0,none⟩) ?_ (by simpa [Value.ownBlock] using hgb) _;rw [List.flatMap_append,List.flatMap_singleton];exact HOWN.out
 have hF4:Fr (SetMod b sn A) w w4:=by
  rw [hw4];have h1:Fr (SetMod b sn A) w w1:=Fr.of_new ((Below.refl _ _).trans (HB1.out.mono (by simp)));have h2:Fr (SetMod b sn A) w w2:=h1.trans (HF2.out.mono (fun k _ h=>.inl h));refine ((h2.alloc _).grown HGR.out (fun k hk=>?_)).setCell (p:=⟨b,0,none⟩) (.inl (.inl rfl)) _;rcases A1 with _ | a1
  · cases hk
  · simp only [Value.ownBlock,Option.some.injEq] at hk
    subst hk;rcases HM2.out with ⟨hsn,hA⟩ | ⟨_,g',hg',hA⟩
    · left;right;exact ⟨hsn.symm,a1,hA.symm,rfl⟩
    · injection hA with hA
      subst hA;right;dsimp only;omega
 rw [← hw4];have HgM:=Lib.hid hgM;have HgMv:=Lib.hid hgMv;have HB4:=Lib.hid hB4;have HR4:=Lib.hid hR4;have HF4:=Lib.hid hF4;have s4:=hB4.cell 0;have s4':w4.cell? ⟨b,0,none⟩=some (.slice (some ⟨g,0,none⟩) (l.length+1) c2):=s4;clear s4 hw4 hB4 hR4 hF4 hat hgM hgMv hnil  s0 f0;go_wp2_with fail
 go_loopw [7] (fun s wr=>∃i:Nat,s = .int .i64 i∧rank cmpName l x≤i∧i≤l.length∧wr.ownsRow 0 197 1 (.slice (some ⟨g,0,none⟩) (l.length+1) c2) (l.length+1) ((shiftAt l x i).flatMap Name.cells)∧Fr (· = g) w4 wr) (fun s wr=>(intOf s).toNat)
 case atStart=>exact ⟨l.length,by go_num,hrk,Nat.le_refl _,HR4.out,Fr.refl _ _⟩
 case round=>
  obtain ⟨i,rfl,hi1,hi2,hown,hfr⟩:=hrel;have hgw:g<wr.heap.size:=(hown.lt g rfl).2;have r0:wr.cell? ⟨b,0,none⟩=some (.slice (some ⟨g,0,none⟩) (l.length+1) c2):=(hfr.cell (p:=⟨b,0,none⟩) HB4.out.lt (fun h=>hgb h.symm)).trans s4';have fz : ∀o,wr.frozen? ⟨g,o,none⟩=false:=fun o=>hown.frozenAt o;have HOW:=Lib.hid hown;have HFR:=Lib.hid hfr;clear hown hfr;by_cases hlt:rank cmpName l x<i
  · obtain ⟨j,rfl⟩ : ∃j,i=j+1:=⟨i - 1,by omega⟩
    (have hj:j<l.length:=by omega);have hrd:=ownsRow_rd (A:=some ⟨g,0,none⟩) (c:=c2) (l:=shiftAt l x (j+1)) Name.cells_length (by rw [shiftAt_length l x hi2];exact HOW.out);obtain ⟨g',o',hgo,_,hcell⟩:=hrd.at_ (k:=j) (by rw [shiftAt_length l x hi2];omega);injection hgo with hgo;injection hgo with hg1 hg2;subst hg1;subst hg2;rw [shiftAt_read l x hj] at hcell;have q0:wr.cell? ⟨g,j,none⟩=some (.string l[j]):=by simpa using hcell 0 _ rfl
    have rmj:Room wr g 197 (c2*1)∧l.length+1≤c2:=by
     rcases ownsRow_form HOW.out with ⟨hv,_⟩ | ⟨g',cap,hv,hn,_,hr,_⟩
     · cases hv
     · injection hv with hA _ hc
       injection hA with hA;injection hA with hA;subst hA;subst hc;exact ⟨hr,hn⟩
    obtain ⟨hrm,hcap⟩:=rmj;obtain ⟨u0,t0⟩:=hrm.cell (i:=(j+1)) (by omega);(have b0:(0:Int)≤(j:Int)+1:=by omega);(have b1:(0:Int)≤(j:Int):=by omega);(have b4:(j:Int)<(l.length:Int):=by omega);(have b2:(j:Int)<(l.length:Int)+1:=by omega);(have b3:(j:Int)+1<(l.length:Int)+1:=by omega);have w1:IntKind.i64.wrap ((j:Int))=(j:Int):=IntWalk.i64_in _ (by omega);(have w2:IntKind.i64.wrap ((j:Int)+1 - 1)=(j:Int):=by rw [IntWalk.i64_in _ (by omega)];omega);clear hcell hrd hrm;obtain ⟨y,hy⟩ : ∃y,y=l[j]:=⟨_,rfl⟩;rw [← hy] at q0;have HY:=Lib.hid hy;have hbw:b<wr.heap.size:=World.block_lt_of_cell? wr _ r0;clear hy;(go_wp2_with fail);refine wp_region_E (fun w9=>Below wr.heap.size wr w9) [(0,0),(1,0),(2,0),(3,1),(4,0),(5,0),(6,0),(7,0),(8,1),(9,0),(10,0),(11,0),(12,1),(13,0),(14,2)] (by kernel_rfl) (by kernel_rfl) (fun KK hKK=>?_);simp only [beside,List.filterMap_cons,List.filterMap_nil,List.getElem?_toArray,List.getElem?_cons_zero,List.getElem?_cons_succ,Option.map_some];(repeat ((first | (refine wpX_w ?_ (Or.inl ⟨by rfl,fun w9=>?_⟩) ?_;rotate_left 1;go_simp;with_reducible rfl) | (refine wpX_l ?_ (((Below.refl _ _).drew)) (Or.inl ⟨by rfl,fun w9 hw9=>?_⟩) ?_;rotate_left 1;obtain ⟨hc9,hf9⟩:=bcell hw9;go_simp;with_reducible rfl) | refine wpX_w undef (Or.inr ⟨by rfl,rfl⟩) ?_ | refine wpX_l undef (((Below.refl _ _).drew)) (Or.inr ⟨by rfl,rfl⟩) ?_);go_frame));refine wpX_e (by kernel_rfl) (fun K9 hK9=>?_);go_simp;refine hK9 _ _ ?_;clear hK9 K9;refine wpX_nil ?_;simp only [OnlyN_normal];refine hKK _ _ ?_;clear hKK KK;(go_wp2_with fail);go_roundw
    case rel=>
     refine ⟨j,by go_num,by omega,by omega,?_,Fr.drew ((HFR.out).setCell (p:=⟨g,(j+1),none⟩) (.inl rfl) (_))⟩;have hst:=((HOW.out).stored ((j+1)) (.string y)).1
     have he:setAll ((shiftAt l x (j+1)).flatMap Name.cells) ((j+1)) (Name.cells y)=(shiftAt l x j).flatMap Name.cells:=by
      rw [flat_set1 Name.cells_length (by omega) _ (j+1) (by rw [shiftAt_length l x hi2];omega),HY.out,shiftAt_step l x hj]
     rw [← he];exact hst
    case measure=>simp [intOf]<;>omega
  · obtain rfl:i=rank cmpName l x:=by omega
    have rmj:Room wr g 197 (c2*1)∧l.length+1≤c2:=by
     rcases ownsRow_form HOW.out with ⟨hv,_⟩ | ⟨g',cap,hv,hn,_,hr,_⟩
     · cases hv
     · injection hv with hA _ hc
       injection hA with hA;injection hA with hA;subst hA;subst hc;exact ⟨hr,hn⟩
    obtain ⟨hrm,hcap⟩:=rmj;obtain ⟨k,hk⟩ : ∃k,k=rank cmpName l x:=⟨_,rfl⟩;rw [← hk] at hi2 hlt ⊢;obtain ⟨u0,t0⟩:=hrm.cell (i:=k) (by omega);(have b1:(0:Int)≤(k:Int):=by omega);(have b2:(k:Int)<(l.length:Int)+1:=by omega);have HK:=Lib.hid hk;have hbw:b<wr.heap.size:=World.block_lt_of_cell? wr _ r0;clear hrm hk;(go_wp2_with fail);go_ret;have HOWk:=HOW.out;rw [← HK.out] at HOWk;have hst:=((HOWk).stored (k) (.string x)).1
    have he:setAll ((shiftAt l x k).flatMap Name.cells) (k) (Name.cells x)=(put cmpName l x).flatMap Name.cells:=by
     rw [flat_set1 Name.cells_length (by omega) _ k (by rw [shiftAt_length l x hi2];omega),shiftAt_end l x hi2,put_eq tc_name HO.out hh,HK.out]
    have hln:=length_put tc_name HO.out hh;refine ⟨by rw [hh];rfl,false,some ⟨g,0,none⟩,c2,⟨?_,?_⟩,?_,?_⟩
    · rw [hln]
      exact (HB4.out.fr HFR.out (fun h=>hgb h.symm)).far (p:=⟨g,k,none⟩) (fun h=>hgb h.symm) _
    · rw [hln,← he]
      exact hst
    · exact HF4.out.into (((HFR.out).setCell (p:=⟨g,k,none⟩) (.inl rfl) (_))) (fun k hk=>by subst hk;exact HgM.out)
    · exact HgMv.out
theorem put_Name (b c:Nat) (sn:Bool) (A:Option Addr) (l:List Name) (x:Name) (w:World) (hS:NameSet w b sn A c l) (hs:Srt cmpName l) (hl:(l.length:Int)≤100000000) :
 Calls Tryz.prog 160 #[.pointer (some ⟨b,0,none⟩),.string x] w (PutPostName w b sn A l x):=by
 cases hh:has cmpName l x
 · exact put_new_Name b c sn A l x w hS hs hl hh
 · exact put_there_Name b c sn A l x w hS hs hl hh
end
section
open Go.RowKit
theorem place_Name (b c:Nat) (sn:Bool) (A:Option Addr) (l:List Name) (x:Name) (w:World) (hS:NameSet w b sn A c l) (hs:Srt cmpName l) (hl:(l.length:Int)≤1000000000) :
 Calls Tryz.prog 203 #[.pointer (some ⟨b,0,none⟩),.string x] w (FoundName l x w):=by
 have HS:=Lib.hid hS;have HO:=Lib.hid hs;clear hS hs;go_enter Tryz.func203,Tryz.ntmps203;(go_wp2_with fail);refine (find_Name b c sn A l x _ (HS.out.new_ (Below.refl _ _)) HO.out (by omega)).mono ?_;rintro e w1 ⟨rfl,hb1⟩;(go_wp2_with fail);go_ret2;exact ⟨rfl,(Below.refl _ _).trans (hb1.mono (by simp))⟩
def ClonePostName (w:World) (b:Nat) (A:Option Addr) (c:Nat) (l:List Name) (e:Ending) (w':World):Prop:=
 ∃k,e = .returned (.pointer (some ⟨k,0,none⟩))∧w.heap.size≤k∧NameSet w' b true A c l∧NameSet w' k true A c l∧Fr (· = b) w w'
theorem clone_Name (b c:Nat) (sn:Bool) (A:Option Addr) (l:List Name) (w:World) (hS:NameSet w b sn A c l) :
 Calls Tryz.prog 200 #[.pointer (some ⟨b,0,none⟩)] w (ClonePostName w b A c l):=by
 have s0:=hS.cell0;have s1:=hS.cell1;have f1:=hS.blk.frozen 1;have hb:=hS.lt;have HS:=Lib.hid hS;clear hS;go_enter Tryz.func200,Tryz.ntmps200;go_wp2;go_ret;have h1:NameSet (w.setCell ⟨b,1,none⟩ (.bool true)) b true A c l:=⟨HS.out.blk.set_ 1 _,ownsRow_setCell_other HS.out.row (own_blk_ne HS.out.row HS.out.blk (by decide)) _⟩;refine ⟨w.heap.size,by simp,Nat.le_refl _,h1.new_ ((Below.refl _ _).alloc (Nat.le_refl _) _),⟨?_,ownsRow_new h1.row ((Below.refl _ _).alloc (Nat.le_refl _) _)⟩,((Fr.refl (· = b) w).setCell (p:=⟨b,1,none⟩) (.inl rfl) _).alloc _⟩;have h2:=Blk.new (w.setCell ⟨b,1,none⟩ (.bool true)) 244 #[.slice A l.length c,.bool true];simpa using h2
end
section
open Go.RowKit
def NewPostName (w:World) (xs:List Name) (e:Ending) (w':World):Prop:=
 ∃k,e = .returned (.pointer (some ⟨k,0,none⟩))∧w.heap.size≤k∧∃sn A c,NameSet w' k sn A c (puts cmpName [] xs)∧AIn A (w.heap.size≤·)∧Below w.heap.size w w'
theorem new_Name (A:Option Addr) (c:Nat) (xs:List Name) (w:World) (hrd:RowRd w 1 Name.cells A c xs) (hl:(xs.length:Int)≤10000000) :
 Calls Tryz.prog 119 #[.slice A xs.length c] w (NewPostName w xs):=by
 have HRD:=Lib.hid hrd;clear hrd;go_enter Tryz.func119,Tryz.ntmps119;(go_wp2_with fail);obtain ⟨W0,hW0⟩ : ∃W0,W0=w.alloc (.cells #[.slice none 0 0,.bool false] 244):=⟨_,rfl⟩;(have hb0:Below w.heap.size w W0:=by rw [hW0];exact (Below.refl _ _).alloc (Nat.le_refl _) _);have hS0:NameSet W0 w.heap.size false none 0 []:=⟨by rw [hW0];exact Blk.new _ _ _,⟨by simp,.inl ⟨rfl,rfl⟩⟩⟩;rw [← hW0];clear hW0;have HB0:=Lib.hid hb0;have HS0:=Lib.hid hS0;clear hb0 hS0
 go_loopw [10] (fun s wr=>∃i:Nat,s = .int .i64 i∧i≤xs.length∧∃sn A' c',NameSet wr w.heap.size sn A' c' (puts cmpName [] (xs.take i))∧AIn A' (w.heap.size≤·)∧Below w.heap.size w wr) (fun s wr=>xs.length - (intOf s).toNat)
 case atStart=>exact ⟨0,rfl,Nat.zero_le _,false,none,0,HS0.out,AIn.none_ _,HB0.out⟩
 case round=>
  obtain ⟨i,rfl,hi,sn,A',c',hS,hA',hB⟩:=hrel;have HS:=Lib.hid hS;have HA:=Lib.hid hA';have HB:=Lib.hid hB;clear hS hA' hB;by_cases hlt:i<xs.length
  · obtain ⟨x,hx⟩ : ∃x,x=xs[i]:=⟨_,rfl⟩
    obtain ⟨g,off,rfl,hgs,hcell⟩:=(HRD.out.fr (Fr.of_new (M:=fun _=>False) HB.out) (fun _ _ h=>h)).at_ hlt;rw [← hx] at hcell;(have q0:wr.cell? ⟨g,off+i,none⟩=some (.string x):=by simpa using hcell 0 _ rfl);(have b1:(0:Int)≤(i:Int):=by omega);(have b2:(i:Int)<(xs.length:Int):=by omega);have HX:=Lib.hid hx;clear hcell hx;(go_wp2_with fail);have hsr:=Srt.puts tc_name (xs.take i) (Srt.nil (cmp:=cmpName))
    have hlen:(((puts cmpName [] (xs.take i)).length:Nat):Int)≤100000000:=by
     have:=length_puts_le tc_name (xs.take i) (Srt.nil (cmp:=cmpName));simp at this;omega
    refine (put_Name w.heap.size c' sn A' _ x _ (HS.out.new_ (Below.refl _ _)) hsr hlen).mono ?_;rintro e w1 ⟨rfl,sn2,A2,c2,hS2,hF2,hM2⟩
    have hB1:Below w.heap.size w w1:=(HB.out).trans (hF2.below (by have:=HB.out.size;(try simp);omega) (fun k hk hm=>by
     rcases hm with hm | ⟨_,a,ha,hm⟩
     · omega
     · have:=HA.out a ha;omega))
    have hA2:AIn A2 (w.heap.size≤·):=by
     rcases hM2 with ⟨_,rfl⟩ | ⟨_,g2,hg2,rfl⟩
     · exact HA.out
     · intro a ha;cases ha;have:=HB.out.size;(try simp at hg2 ⊢);omega
    have HS2:=Lib.hid hS2;have HB1:=Lib.hid hB1;have HA2:=Lib.hid hA2;clear hS2 hB1 hA2 hF2 hM2 hsr hlen q0;(go_wp2_with fail);go_roundw
    case rel=>
     refine ⟨i+1,by go_num,by omega,sn2,A2,c2,?_,HA2.out,HB1.out⟩;rw [List.take_add_one,List.getElem?_eq_getElem hlt,← HX.out];simp only [Option.toList_some,puts_snoc];exact HS2.out
    case measure=>simp [intOf]<;>omega
  · have hie:i=xs.length:=by omega
    subst hie;(go_wp2_with fail);go_ret;refine ⟨w.heap.size,rfl,Nat.le_refl _,sn,A',c',?_,HA.out,HB.out⟩;have:=HS.out;rwa [List.take_length] at this
end
section
open Go.RowKit
abbrev NameSets:=Sets (α:=Name) 244 197 1 Name.cells cmpName
section
variable {D:Nat→Prop} {w:World} {S:Nat→Option (List Name)} {σ:Nat→St} {b:Nat} {l:List Name}
def ChangedName (D:Nat→Prop) (w:World) (S:Nat→Option (List Name)) (σ:Nat→St) (b:Nat) (l:List Name) (w':World):Prop:=
 ∃σ',NameSets D w' (upd S b (some l)) σ'∧(∀k,k≠b→σ' k=σ k)∧Fr (fun k=>¬D k) w w'∧Fr (SetMod b (σ b).sn (σ b).A) w w'
theorem sPut_Name (x:Name) (h:NameSets D w S σ) (hb:S b=some l) (hl:(l.length:Int)≤100000000) :
 Calls Tryz.prog 160 #[.pointer (some ⟨b,0,none⟩),.string x] w fun e w'=>e = .returned (.bool (!has cmpName l x))∧ChangedName D w S σ b (put cmpName l x) w':=by
 refine (put_Name b _ _ _ l x w (h.at_ b l hb) (h.srt b l hb) hl).mono ?_;rintro e w' ⟨he,sn',A',c',h1,hF,hM⟩;exact ⟨he,_,h.moved (by decide) hb h1 ((h.srt b l hb).put tc_name x) hF hM,fun k hk=>upd_ne _ _ hk,h.mod hb hF,hF⟩
def MadeName (D:Nat→Prop) (w:World) (S:Nat→Option (List Name)) (_:Nat→St) (l:List Name) (e:Ending) (w':World):Prop:=
 ∃k,e = .returned (.pointer (some ⟨k,0,none⟩))∧w.heap.size≤k∧(∀b l,S b=some l→b≠k)∧∃σ',NameSets D w' (upd S k (some l)) σ'∧Fr (fun k=>¬D k) w w'
theorem sNew_Name (A:Option Addr) (c:Nat) (xs:List Name) (h:NameSets D w S σ) (hrd:RowRd w 1 Name.cells A c xs) (hl:(xs.length:Int)≤10000000) :
 Calls Tryz.prog 119 #[.slice A xs.length c] w fun e w'=>MadeName D w S σ (puts cmpName [] xs) e w'∧Below w.heap.size w w':=by
 refine (new_Name A c xs w hrd hl).mono ?_;rintro e w' ⟨k,he,hk,sn,A',c',h1,hA,hB⟩;exact ⟨⟨k,he,hk,fun b l hb e=>by have:=h.lt hb;omega,_,h.add hk h1 (Srt.puts tc_name xs Srt.nil) (.inl hA) hB,Fr.of_new hB⟩,hB⟩
theorem sClone_Name (h:NameSets D w S σ) (hb:S b=some l) :
 Calls Tryz.prog 200 #[.pointer (some ⟨b,0,none⟩)] w fun e w'=>∃k,e = .returned (.pointer (some ⟨k,0,none⟩))∧w.heap.size≤k∧(∀b l,S b=some l→b≠k)∧
  ∃σ',NameSets D w' (upd S k (some l)) σ'∧(∀j,j≠k→j≠b→σ' j=σ j)∧(σ' b).sn=true∧(σ' b).A=(σ b).A∧(σ' k).sn=true∧(σ' k).A=(σ b).A∧Fr (fun k=>¬D k) w w'∧Fr (· = b) w w':=by
 refine (clone_Name b _ _ _ l w (h.at_ b l hb)).mono ?_;rintro e w' ⟨k,he,hk,h1,h2,hF⟩;(have hnb:b≠k:=fun e=>by have:=h.lt hb;omega);have hD:Fr (fun k=>¬D k) w w':=hF.mono (fun k _ hk=>by rw [hk];exact (h.out b l hb).1);have hs:=h.seen (by decide) hb h1 hF;have hrow:=(h.at_ b l hb).row_lt;refine ⟨k,he,hk,fun b l hb e=>by have:=h.lt hb;omega,upd (upd σ b ⟨true,(σ b).A,(σ b).c⟩) k ⟨true,(σ b).A,(σ b).c⟩,⟨fun j m hj=>?_,fun j m hj=>?_,fun j m hj=>?_,fun j m j' m' hj hj' hjj hsj a a' ha ha'=>?_,hs.low⟩,fun j h1 h2=>by rw [upd_ne _ _ h1,upd_ne _ _ h2],by rw [upd_ne _ _ hnb,upd_same],by rw [upd_ne _ _ hnb,upd_same],by rw [upd_same],by rw [upd_same],hD,hF⟩
 · by_cases e:j=k
   · subst e;rw [upd_same] at hj ⊢;cases hj;exact h2
   · rw [upd_ne _ _ e] at hj ⊢;exact hs.at_ j m hj
 · by_cases e:j=k
   · subst e;rw [upd_same] at hj;cases hj;exact h.srt b l hb
   · rw [upd_ne _ _ e] at hj;exact h.srt j m hj
 · by_cases e:j=k
   · subst e;rw [upd_same] at hj ⊢;cases hj
     exact ⟨fun hd=>by have:=h.low _ hd;omega,fun hs2=>by cases hs2⟩
   · rw [upd_ne _ _ e] at hj ⊢;exact hs.out j m hj
 · by_cases e:j=k
   · subst e;rw [upd_same] at hsj;cases hsj
   · rw [upd_ne _ _ e] at hj hsj ha
     by_cases e2:j'=k
     · subst e2
       rw [upd_same] at ha';by_cases e3:j=b
       · subst e3;rw [upd_same] at hsj;cases hsj
       · exact hs.apart j m b l hj hb e3 hsj a a' ha (by rw [upd_same];exact ha')
     · rw [upd_ne _ _ e2] at hj' ha'
       exact hs.apart j m j' m' hj hj' hjj hsj a a' ha ha'
end
end
section
open Go.RowKit Go.Shelf
structure KnS (W:World) (S:Nat→Option (List Name)) (kb sb:Nat) (K:Kn) (A:Option Addr) (c:Nat):Prop where
 blk:Blk W kb 199 #[.pointer (some ⟨sb,0,none⟩),.slice A K.2.length c]
 row:W.ownsRow 0 9 1 (.slice A K.2.length c) K.2.length (K.2.map Value.string)
 set:S sb=some K.1
theorem khas_is {D:Nat→Prop} {W:World} {S:Nat→Option (List Name)} {σ:Nat→St} {kb sb:Nat} {K:Kn} {A:Option Addr} {c:Nat} (v:ByteArray) (hN:NameSets D W S σ) (hK:KnS W S kb sb K A c) (hl:(K.1.length:Int)≤1000000) :
 Calls Tryz.prog 163 #[.pointer (some ⟨kb,0,none⟩),.string v] W fun e W'=>e = .returned (.bool (hasK K v))∧Below W.heap.size W W':=by
 have s0:W.cell? ⟨kb,0,none⟩=some (.pointer (some ⟨sb,0,none⟩)):=(hK.blk.cell 0).trans rfl;have hkl:=hK.blk.lt;have HS:=Lib.hid (hN.at_ sb K.1 hK.set);have HO:=Lib.hid (hN.srt sb K.1 hK.set);clear hN hK;go_enter Tryz.func163,Tryz.ntmps163;(go_wp2_with fail);refine (place_Name sb _ _ _ K.1 v _ HS.out HO.out (by omega)).mono ?_;rintro e w1 ⟨rfl,hb1⟩;(go_wp2_with fail);go_ret;exact ⟨rfl,hb1⟩
theorem kinner_is {D:Nat→Prop} {W:World} {S:Nat→Option (List Name)} {σ:Nat→St} {kb sb:Nat} {K:Kn} {A:Option Addr} {c:Nat} (hN:NameSets D W S σ) (hK:KnS W S kb sb K A c) :
 Calls Tryz.prog 161 #[.pointer (some ⟨kb,0,none⟩)] W fun e W'=>∃kb' sb',e = .returned (.pointer (some ⟨kb',0,none⟩))∧W.heap.size≤kb'∧W.heap.size≤sb'∧(∃σ',NameSets D W' (upd S sb' (some K.1)) σ')∧KnS W' (upd S sb' (some K.1)) kb' sb' (K.1,[]) none 0∧Fr (fun j=>¬D j) W W'∧Fr (· = sb) W W':=by
 have s0:W.cell? ⟨kb,0,none⟩=some (.pointer (some ⟨sb,0,none⟩)):=(hK.blk.cell 0).trans rfl;have hkl:=hK.blk.lt;have HN:=Lib.hid hN;have HS:=Lib.hid hK.set;clear hN hK;go_enter Tryz.func161,Tryz.ntmps161;(go_wp2_with fail);refine (sClone_Name HN.out HS.out).mono ?_;rintro e w1 ⟨k,rfl,hk,_,σ',h1,_,_,_,_,_,hF,hFb⟩;have H1:=Lib.hid h1;have HF:=Lib.hid hF;have HFb:=Lib.hid hFb;clear h1 hF hFb;(go_wp2_with fail);go_ret;have hn:Below w1.heap.size w1 (w1.alloc (.cells #[.pointer (some ⟨k,0,none⟩),.slice none 0 0] 199)):=(Below.refl _ _).alloc (Nat.le_refl _) _;exact ⟨w1.heap.size,k,rfl,HF.out.size,hk,⟨σ',H1.out.below hn⟩,⟨Blk.new _ _ _,owns_nil _ _ _ _,upd_same _ _ _⟩,HF.out.trans (Fr.of_new hn),HFb.out.trans (Fr.of_new hn)⟩
end
end Go.Proofs.YtldndkngpdfpfaaGreat
