/-
  Texts put together: VaryA6, VaryA7.
-/
import Derived.Test.YtldndkngpdfpfaaGreatPGt
namespace Go.Proofs.YtldndkngpdfpfaaGreat
open Lib (hid)
set_option maxRecDepth 100000
set_option maxHeartbeats 32000000
section
open Go.RowKit Go.Shelf
attribute [local go_sem] Oper.semAt_some
set_option linter.unusedSimpArgs false
section
variable {X:World} {bx:Array Value} {nb mb:Nat} {ns:List Sym} {es:List Elem} {AO:Option Addr} {cO:Nat} {vcs:List VCo} {AC:Option Addr} {cC:Nat} {tags:List Int} {At:Option Addr} {ct:Nat} {D:Nat→Prop}
theorem Blk.setAllE {w:World} {g:Nat} {t:TypeId} {cs:Array Value} {vs:List Value} (h:Blk w g t cs) (hl:cs.size=vs.length):Blk (w.setCells g 0 vs) g t vs.toArray:=by
 have hr:=Zi6 w g 0 vs (by have:=h.there;rwa [hl] at this);obtain ⟨cs',h1,h2⟩:=Blk.setCells_ vs 0 h
 have e:cs'=vs.toArray:=by
  apply Array.ext
  · rw [h2];simpa using hl
  · intro i hi hj
    (have hj':i<vs.length:=by simpa using hj);have h3:=hr i vs[i] (Zic hj');rw [show (0+i)=i by omega,h1.cell i,Array.getElem?_eq_getElem hi] at h3;simpa using h3
 rw [← e];exact h1
def Zhj (X:World) (bx:Array Value) (nb mb:Nat) (ns:List Sym) (es:List Elem) (AO:Option Addr) (cO:Nat) (vcs:List VCo) (AC:Option Addr) (cC:Nat) (tags:List Int) (At:Option Addr) (ct:Nat) (D:Nat→Prop) (r:Option (List (List Z0i))) (e:Ending) (w':World):Prop:=
 match r with
 | none=>e = .returned (.bool false)∧P3 X bx nb mb ns es AO cO vcs AC cC tags At ct D w'
 | some vss=>e = .returned (.bool true)∧Z9q X bx nb mb ns es AO cO vcs AC cC tags At ct D vss w'
theorem Zhw (x:Z0j) (w:World) (h:P3 X bx nb mb ns es AO cO vcs AC cC tags At ct D w) (hl:vcs.length=es.length) (hvl : ∀v∈vcs,v.vs.length≤1000) (hn:ns.length≤1000) (hel:es.length≤1000) :
 Calls Tryz.prog 109 #[.pointer (some ⟨mb,0,none⟩),.agg #[.int .i64 x.a.kind,.string x.a.text,.int .i64 x.a.n,.int .i64 x.b.kind,.string x.b.text,.int .i64 x.b.n,.int .i64 x.rel]] w (Zhj X bx nb mb ns es AO cO vcs AC cC tags At ct D (twoV ns es x (vcs.map VCo.vs))):=by
 have H:=hid h;have HVL:=hid hvl;have HNL:=hid hn;have hlc:=(Z08 Elem.cells_length h.cs.eo).cap;obtain ⟨m0,m1,m2⟩:=h.cs.mkb.c3;have mz:=h.cs.mkb.lt;clear h hvl hn;go_enter Tryz.func109,Tryz.ntmps109;(go_upto_region 2 with fail);clear m0 m1 m2 mz;obtain ⟨W1,hW1⟩ : ∃W,W=w.alloc (.cells #[.int .i64 x.a.kind,.string x.a.text,.int .i64 x.a.n,.int .i64 x.b.kind,.string x.b.text,.int .i64 x.b.n,.int .i64 x.rel] 34):=⟨_,rfl⟩;obtain ⟨b3,hb3⟩ : ∃b,b=w.heap.size:=⟨_,rfl⟩;have K3:=hid (show Blk W1 b3 34 #[.int .i64 x.a.kind,.string x.a.text,.int .i64 x.a.n,.int .i64 x.b.kind,.string x.b.text,.int .i64 x.b.n,.int .i64 x.rel] by rw [hW1,hb3];exact Blk.new _ _ _);have HB:=hid (show Below w.heap.size w W1 by rw [hW1];exact (Zi2 _ _).alloc (Zi3 _) _);rw [← hW1,← hb3];clear hW1 hb3
 go_loopw [13] (fun v wr=>∃i:Nat,v = .int .i64 (i:Int)∧i≤es.length∧twoF es x.a x.b 0 es=twoF es x.a x.b i (es.drop i)∧Below W1.heap.size W1 wr) (fun v wr=>es.length - (intOf v).toNat)
 case atStart=>exact ⟨0,rfl,Nat.zero_le _,rfl,Zi2 _ _⟩
 case round=>
  obtain ⟨i,rfl,hi,hno,hbw⟩:=hrel;have HNO:=hid hno;have HBW:=hid hbw;have HBA:=hid (HB.out.trans (hbw.mono HB.out.size));clear hno hbw;by_cases hlt:i<es.length
  · skip
    obtain ⟨y,hy⟩ : ∃y,y=es[i]:=⟨_,rfl⟩;obtain ⟨g,off,hAA,hgl,hrg⟩:=(Z08 Elem.cells_length (H.out.new_ HBA.out).cs.eo).range hlt;rw [← hy] at hrg;subst hAA;have HDR:=hid (show es.drop i=y :: es.drop (i+1) by rw [hy];exact Ziw hlt);have HRG:=hid (show wr.rangeAt g (off+i*12) [.int .i64 y.id.kind,.string y.id.text,.int .i64 y.id.n,.int .i64 y.attr.kind,.string y.attr.text,.int .i64 y.attr.n,.int .i64 y.value.kind,.string y.value.text,.int .i64 y.value.n,.bool y.acc,.bool y.goal,.int .i64 y.tag] from hrg);obtain ⟨W5,hW5,hth,hrg5,hb5,hz5⟩:=Z4g (w:=wr) (t:=55) [.int .i64 0,.string ⟨#[]⟩,.int .i64 0,.int .i64 0,.string ⟨#[]⟩,.int .i64 0,.int .i64 0,.string ⟨#[]⟩,.int .i64 0,.bool false,.bool false,.int .i64 0] [.int .i64 y.id.kind,.string y.id.text,.int .i64 y.id.n,.int .i64 y.attr.kind,.string y.attr.text,.int .i64 y.attr.n,.int .i64 y.value.kind,.string y.value.text,.int .i64 y.value.n,.bool y.acc,.bool y.goal,.int .i64 y.tag] rfl;have HW5:=hid hW5;have HTH:=hid hth;have HBW5:=hid (HBW.out.trans (hb5.mono HBW.out.size));have HBA5:=hid (HBA.out.trans (hb5.mono HBA.out.size));have HP5:=hid (H.out.new_ HBA5.out);have q6:W5.cell? ⟨wr.heap.size,6,none⟩=some (.int .i64 y.value.kind):=hrg5 6 _ rfl;have q7:W5.cell? ⟨wr.heap.size,7,none⟩=some (.string y.value.text):=hrg5 7 _ rfl;have q8:W5.cell? ⟨wr.heap.size,8,none⟩=some (.int .i64 y.value.n):=hrg5 8 _ rfl;(have qz:wr.heap.size<W5.heap.size:=by omega);(have j1:(0:Int)≤(i:Int):=by omega);(have j2:(i:Int)<(es.length:Int):=by omega);have v1:IntKind.i64.wrap ((i:Int)+1)=(i:Int)+1:=Zih _ (by omega);clear hW5 hth hrg hy hgl;clear hrg5;obtain ⟨W6,hW6,hth6,hrg6,hb6,hz6⟩:=Z4g (w:=W5) (t:=23) [.int .i64 0,.string ⟨#[]⟩,.int .i64 0] [.int .i64 x.b.kind,.string x.b.text,.int .i64 x.b.n] rfl;have HW6:=hid hW6;have HTH6:=hid hth6;have HB56:=hid (hb5.trans (hb6.mono hb5.size));have HKE:=hid (show Blk W5 wr.heap.size 55 #[.int .i64 y.id.kind,.string y.id.text,.int .i64 y.id.n,.int .i64 y.attr.kind,.string y.attr.text,.int .i64 y.attr.n,.int .i64 y.value.kind,.string y.value.text,.int .i64 y.value.n,.bool y.acc,.bool y.goal,.int .i64 y.tag] from Z1n (zs:=[.int .i64 0,.string ⟨#[]⟩,.int .i64 0,.int .i64 0,.string ⟨#[]⟩,.int .i64 0,.int .i64 0,.string ⟨#[]⟩,.int .i64 0,.bool false,.bool false,.int .i64 0]) (vs:=[.int .i64 y.id.kind,.string y.id.text,.int .i64 y.id.n,.int .i64 y.attr.kind,.string y.attr.text,.int .i64 y.attr.n,.int .i64 y.value.kind,.string y.value.text,.int .i64 y.value.n,.bool y.acc,.bool y.goal,.int .i64 y.tag]) rfl HW5.out (by rw [HW5.out];exact Zi6 _ _ _ _ HTH.out));have HKO:=hid (show Blk W6 W5.heap.size 23 #[.int .i64 x.b.kind,.string x.b.text,.int .i64 x.b.n] from Z1n (zs:=[.int .i64 0,.string ⟨#[]⟩,.int .i64 0]) (vs:=[.int .i64 x.b.kind,.string x.b.text,.int .i64 x.b.n]) rfl hW6 hrg6);have HKE6:=hid (HKE.out.new_ hb6);have HBW6:=hid (HBW5.out.trans (hb6.mono HBW5.out.size));have HBA6:=hid (HBA5.out.trans (hb6.mono HBA5.out.size));have HK36:=hid (K3.out.new_ HBW6.out);clear q6 q7 q8 qz hW6 hth6 hrg6 hb6 hz6 hb5 hz5;have q6:=(HKE6.out.cell 6).trans rfl;have q7:=(HKE6.out.cell 7).trans rfl;have q8:=(HKE6.out.cell 8).trans rfl;have qz:=HKE6.out.lt;obtain ⟨x0,x1,x2,x3,x4,x5,x6⟩:=HK36.out.c7;have xz:=HK36.out.lt;have K35:=hid (K3.out.new_ HBW5.out);obtain ⟨p0,p1,p2,p3,p4,p5,p6⟩:=K35.out.c7;have pz:=K35.out.lt
    have heq1:=Z2y y.value x.b;have heq2:=Z6j y.value x.a;by_cases he1:y.value=x.b
    case pos=>
     rw [Zie he1] at heq1;have HO:=hid (show Z4b x.a x.b y.value=some x.a by rw [Z4b,if_pos he1]);obtain ⟨W7,hW7⟩ : ∃W,W=W6.setCells W5.heap.size 0 [.int .i64 x.a.kind,.string x.a.text,.int .i64 x.a.n]:=⟨_,rfl⟩;have HW7:=hid hW7;have HKO7:=hid (show Blk W7 W5.heap.size 23 #[.int .i64 x.a.kind,.string x.a.text,.int .i64 x.a.n] by rw [hW7];exact Blk.setAllE HKO.out rfl);have HBW7:=hid (show Below W1.heap.size W1 W7 by rw [hW7];exact Below.setCells' _ _ HBW6.out HBW5.out.size);have HBA7:=hid (show Below w.heap.size w W7 by rw [hW7];exact Below.setCells' _ _ HBA6.out HBA5.out.size);have HTO:=hid (show W6.there W5.heap.size 0 (#[.int .i64 x.a.kind,.string x.a.text,.int .i64 x.a.n]:Array Value).size from HKO.out.there);obtain ⟨o0,o1,o2⟩:=HKO7.out.c3;have oz:=HKO7.out.lt;clear hW7 he1 heq2;have HMT:=hid (Zgk i (x.a) W7 (H.out.new_ HBA7.out).cs hlt hel)
     go_wp2_with (first
      | (with_reducible refine wpList_load_mid rfl 55 _ rfl g (off+i*12) rfl _ _ HRG.out Tryz.underlying55 rfl (by kernel_rfl) ?_)
      | ((with_reducible refine wpList_store_mid rfl 55 _ _ rfl wr.heap.size 0 #[.int .i64 y.id.kind,.string y.id.text,.int .i64 y.id.n,.int .i64 y.attr.kind,.string y.attr.text,.int .i64 y.attr.n,.int .i64 y.value.kind,.string y.value.text,.int .i64 y.value.n,.bool y.acc,.bool y.goal,.int .i64 y.tag] rfl rfl HTH.out (by kernel_rfl) (by kernel_rfl) ?_);rw [← HW5.out])
      | ((with_reducible refine wpList_store_mid rfl 23 _ _ rfl W5.heap.size 0 #[.int .i64 x.b.kind,.string x.b.text,.int .i64 x.b.n] rfl rfl HTH6.out (by kernel_rfl) (by kernel_rfl) ?_);rw [← HW6.out])
      | ((with_reducible refine wpList_store_mid rfl 23 _ _ rfl W5.heap.size 0 #[.int .i64 x.a.kind,.string x.a.text,.int .i64 x.a.n] rfl rfl HTO.out (by kernel_rfl) (by kernel_rfl) ?_);rw [← HW7.out]))
     refine HMT.out.mono ?_;rintro e w8 ⟨rfl,hb8⟩;clear o0 o1 o2 oz q6 q7 q8 qz x0 x1 x2 x3 x4 x5 x6 xz p0 p1 p2 p3 p4 p5 p6 pz heq1;have HB8:=hid hb8;have HBW8:=hid (HBW7.out.trans (hb8.mono HBW7.out.size));have HBA8:=hid (HBA7.out.trans (hb8.mono HBA7.out.size));clear hb8;obtain ⟨m,hm⟩ : ∃m,m=metV es i (x.a):=⟨_,rfl⟩;rw [← hm];cases m
     case false=>
      have HN:=hid (show twoF es x.a x.b 0 es=twoF es x.a x.b (i+1) (es.drop (i+1)) by rw [HNO.out,HDR.out,twoF,HO.out];exact if_neg (by rw [← hm];decide));clear hm;(go_wp2_with fail);go_roundw
      case rel=>exact ⟨i+1,by go_num,by omega,HN.out,HBW8.out⟩
      case measure=>simp [intOf]<;>omega
     have HE:=hid (show twoV ns es x (vcs.map VCo.vs)=some (putT (vcs.map VCo.vs) i (Z1c ns x.rel (x.a))) by
      have e:twoF es x.a x.b 0 es=some (i,x.a):=by rw [HNO.out,HDR.out,twoF,HO.out];exact if_pos hm.symm
      unfold twoV;rw [e])
     clear hm;obtain ⟨o0,o1,o2⟩:=(HKO7.out.new_ HB8.out).c3;have oz:=(HKO7.out.new_ HB8.out).lt;obtain ⟨x0,x1,x2,x3,x4,x5,x6⟩:=(K3.out.new_ HBW8.out).c7;have xz:=(K3.out.new_ HBW8.out).lt;have HP8:=hid (H.out.new_ HBA8.out);have HTE:=hid (Z7y x.rel (x.a) w8 HP8.out.cs.nm HP8.out.cs.mk_ HNL.out);(go_wp2_with fail);refine HTE.out.mono ?_;rintro e w9 ⟨rfl,hb9⟩;have HP9:=hid (HP8.out.new_ hb9);have HAD:=hid (Zci i (Z1c ns x.rel (x.a)) w9 HP9.out (by omega) (by unfold Z1c;split<;>rfl) (HVL.out _ (Zin (by omega))));clear o0 o1 o2 oz x0 x1 x2 x3 x4 x5 x6 xz hb9;(go_wp2_with fail);refine HAD.out.mono ?_;rintro e w10 ⟨vcs',rfl,hp,hvs,hhd⟩;have HR:=hid (show Z9q X bx nb mb ns es _ cO vcs AC cC tags At ct D (putT (vcs.map VCo.vs) i (Z1c ns x.rel (x.a))) w10 from ⟨vcs',hp,hvs,hhd⟩);clear hp hvs hhd;(go_wp2_with fail);go_ret;rw [HE.out];exact And.intro rfl HR.out
    rw [Zi4 he1] at heq1;by_cases he2:y.value=x.a
    case pos=>
     rw [Zie he2] at heq2;simp only [Bool.not_true] at heq2;have HO:=hid (show Z4b x.a x.b y.value=some x.b by rw [Z4b,if_neg he1,if_pos he2]);obtain ⟨o0,o1,o2⟩:=HKO.out.c3;have oz:=HKO.out.lt;clear he1 he2;have HMT:=hid (Zgk i (x.b) W6 (H.out.new_ HBA6.out).cs hlt hel)
     go_wp2_with (first
      | (with_reducible refine wpList_load_mid rfl 55 _ rfl g (off+i*12) rfl _ _ HRG.out Tryz.underlying55 rfl (by kernel_rfl) ?_)
      | ((with_reducible refine wpList_store_mid rfl 55 _ _ rfl wr.heap.size 0 #[.int .i64 y.id.kind,.string y.id.text,.int .i64 y.id.n,.int .i64 y.attr.kind,.string y.attr.text,.int .i64 y.attr.n,.int .i64 y.value.kind,.string y.value.text,.int .i64 y.value.n,.bool y.acc,.bool y.goal,.int .i64 y.tag] rfl rfl HTH.out (by kernel_rfl) (by kernel_rfl) ?_);rw [← HW5.out])
      | ((with_reducible refine wpList_store_mid rfl 23 _ _ rfl W5.heap.size 0 #[.int .i64 x.b.kind,.string x.b.text,.int .i64 x.b.n] rfl rfl HTH6.out (by kernel_rfl) (by kernel_rfl) ?_);rw [← HW6.out]))
     refine HMT.out.mono ?_;rintro e w8 ⟨rfl,hb8⟩;clear o0 o1 o2 oz q6 q7 q8 qz x0 x1 x2 x3 x4 x5 x6 xz p0 p1 p2 p3 p4 p5 p6 pz heq1 heq2;have HB8:=hid hb8;have HBW8:=hid (HBW6.out.trans (hb8.mono HBW6.out.size));have HBA8:=hid (HBA6.out.trans (hb8.mono HBA6.out.size));clear hb8;obtain ⟨m,hm⟩ : ∃m,m=metV es i (x.b):=⟨_,rfl⟩;rw [← hm];cases m
     case false=>
      have HN:=hid (show twoF es x.a x.b 0 es=twoF es x.a x.b (i+1) (es.drop (i+1)) by rw [HNO.out,HDR.out,twoF,HO.out];exact if_neg (by rw [← hm];decide));clear hm;(go_wp2_with fail);go_roundw
      case rel=>exact ⟨i+1,by go_num,by omega,HN.out,HBW8.out⟩
      case measure=>simp [intOf]<;>omega
     have HE:=hid (show twoV ns es x (vcs.map VCo.vs)=some (putT (vcs.map VCo.vs) i (Z1c ns x.rel (x.b))) by
      have e:twoF es x.a x.b 0 es=some (i,x.b):=by rw [HNO.out,HDR.out,twoF,HO.out];exact if_pos hm.symm
      unfold twoV;rw [e])
     clear hm;obtain ⟨o0,o1,o2⟩:=(HKO.out.new_ HB8.out).c3;have oz:=(HKO.out.new_ HB8.out).lt;obtain ⟨x0,x1,x2,x3,x4,x5,x6⟩:=(K3.out.new_ HBW8.out).c7;have xz:=(K3.out.new_ HBW8.out).lt;have HP8:=hid (H.out.new_ HBA8.out);have HTE:=hid (Z7y x.rel (x.b) w8 HP8.out.cs.nm HP8.out.cs.mk_ HNL.out);(go_wp2_with fail);refine HTE.out.mono ?_;rintro e w9 ⟨rfl,hb9⟩;have HP9:=hid (HP8.out.new_ hb9);have HAD:=hid (Zci i (Z1c ns x.rel (x.b)) w9 HP9.out (by omega) (by unfold Z1c;split<;>rfl) (HVL.out _ (Zin (by omega))));clear o0 o1 o2 oz x0 x1 x2 x3 x4 x5 x6 xz hb9;(go_wp2_with fail);refine HAD.out.mono ?_;rintro e w10 ⟨vcs',rfl,hp,hvs,hhd⟩;have HR:=hid (show Z9q X bx nb mb ns es _ cO vcs AC cC tags At ct D (putT (vcs.map VCo.vs) i (Z1c ns x.rel (x.b))) w10 from ⟨vcs',hp,hvs,hhd⟩);clear hp hvs hhd;(go_wp2_with fail);go_ret;rw [HE.out];exact And.intro rfl HR.out
    rw [Zi4 he2] at heq2;simp only [Bool.not_false] at heq2;have HN:=hid (show twoF es x.a x.b 0 es=twoF es x.a x.b (i+1) (es.drop (i+1)) by rw [HNO.out,HDR.out,twoF,show Z4b x.a x.b y.value=none by rw [Z4b,if_neg he1,if_neg he2]]);clear he1 he2
    go_wp2_with (first
     | (with_reducible refine wpList_load_mid rfl 55 _ rfl g (off+i*12) rfl _ _ HRG.out Tryz.underlying55 rfl (by kernel_rfl) ?_)
     | ((with_reducible refine wpList_store_mid rfl 55 _ _ rfl wr.heap.size 0 #[.int .i64 y.id.kind,.string y.id.text,.int .i64 y.id.n,.int .i64 y.attr.kind,.string y.attr.text,.int .i64 y.attr.n,.int .i64 y.value.kind,.string y.value.text,.int .i64 y.value.n,.bool y.acc,.bool y.goal,.int .i64 y.tag] rfl rfl HTH.out (by kernel_rfl) (by kernel_rfl) ?_);rw [← HW5.out])
     | ((with_reducible refine wpList_store_mid rfl 23 _ _ rfl W5.heap.size 0 #[.int .i64 x.b.kind,.string x.b.text,.int .i64 x.b.n] rfl rfl HTH6.out (by kernel_rfl) (by kernel_rfl) ?_);rw [← HW6.out]))
    go_roundw
    case rel=>exact ⟨i+1,by go_num,by omega,HN.out,HBW6.out⟩
    case measure=>simp [intOf]<;>omega
  · obtain rfl:i=es.length:=by omega
    (have jz : ¬(es.length:Int)<(es.length:Int):=by omega);have HF:=hid (show twoV ns es x (vcs.map VCo.vs)=none by unfold twoV;rw [HNO.out,Zj8,twoF]);(go_wp2_with fail);go_ret;rw [HF.out];exact ⟨rfl,H.out.new_ HBA.out⟩
end
end
section
open Go.RowKit Go.Shelf
attribute [local go_sem] Oper.semAt_some
set_option linter.unusedSimpArgs false
section
variable {X:World} {bx:Array Value} {nb mb:Nat} {ns:List Sym} {es:List Elem} {AO:Option Addr} {cO:Nat} {vcs:List VCo} {AC:Option Addr} {cC:Nat} {tags:List Int} {At:Option Addr} {ct:Nat} {D:Nat→Prop}
theorem Zf1 (x:Z0j) (w:World) (h:P3 X bx nb mb ns es AO cO vcs AC cC tags At ct D w) (hl:vcs.length=es.length) (hvl : ∀v∈vcs,v.vs.length≤1000) (hn:ns.length≤1000) (hel:es.length≤1000) :
 Calls Tryz.prog 64 #[.pointer (some ⟨mb,0,none⟩),.agg #[.int .i64 x.a.kind,.string x.a.text,.int .i64 x.a.n,.int .i64 x.b.kind,.string x.b.text,.int .i64 x.b.n,.int .i64 x.rel]] w (Zhj X bx nb mb ns es AO cO vcs AC cC tags At ct D (Z2b ns es x (vcs.map VCo.vs))):=by
 have H:=hid h;have HVL:=hid hvl;have HNL:=hid hn;have HEL:=hid hel;have HLN:=hid hl;clear h hvl hn hel hl;go_enter Tryz.func64,Tryz.ntmps64;(go_upto_region 1 with fail);obtain ⟨W1,hW1⟩ : ∃W,W=w.alloc (.cells #[.int .i64 x.a.kind,.string x.a.text,.int .i64 x.a.n,.int .i64 x.b.kind,.string x.b.text,.int .i64 x.b.n,.int .i64 x.rel] 34):=⟨_,rfl⟩;obtain ⟨b3,hb3⟩ : ∃b,b=w.heap.size:=⟨_,rfl⟩;have K3:=hid (show Blk W1 b3 34 #[.int .i64 x.a.kind,.string x.a.text,.int .i64 x.a.n,.int .i64 x.b.kind,.string x.b.text,.int .i64 x.b.n,.int .i64 x.rel] by rw [hW1,hb3];exact Blk.new _ _ _);have HB0:=hid (show Below w.heap.size w W1 by rw [hW1];exact (Zi2 _ _).alloc (Zi3 _) _);rw [← hW1,← hb3];clear hW1 hb3;have HP:=hid (show ∀W,Below W1.heap.size W1 W→P3 X bx nb mb ns es AO cO vcs AC cC tags At ct D W from fun W hW=>H.out.new_ (HB0.out.trans (hW.mono HB0.out.size)));clear H HB0;obtain ⟨la,hla⟩ : ∃b,b=Z42 ns es x.a:=⟨_,rfl⟩;have Ela:=hid hla;clear hla;obtain ⟨lb,hlb⟩ : ∃b,b=Z42 ns es x.b:=⟨_,rfl⟩;have Elb:=hid hlb;clear hlb;obtain ⟨oa,hoa⟩ : ∃b,b=Z45 ns x.a:=⟨_,rfl⟩;have Eoa:=hid hoa;clear hoa;obtain ⟨ob,hob⟩ : ∃b,b=Z45 ns x.b:=⟨_,rfl⟩;have Eob:=hid hob;clear hob;obtain ⟨sa,hsa⟩ : ∃b,b=Z3s es x.a:=⟨_,rfl⟩;have Esa:=hid hsa;clear hsa;obtain ⟨sb,hsb⟩ : ∃b,b=Z3s es x.b:=⟨_,rfl⟩;have Esb:=hid hsb;clear hsb;have HLA:=hid (show ∀W,Below W1.heap.size W1 W→Calls Tryz.prog 106 #[.pointer (some ⟨mb,0,none⟩),.agg #[.int .i64 x.a.kind,.string x.a.text,.int .i64 x.a.n]] W fun e w'=>e = .returned (.bool la)∧Below W1.heap.size W1 w' from fun W hW=>(Zb4 x.a W (HP.out W hW).cs HNL.out).mono fun e w' hh=>⟨by rw [Ela.out];exact hh.1,hW.trans (hh.2.mono hW.size)⟩);have HLB:=hid (show ∀W,Below W1.heap.size W1 W→Calls Tryz.prog 106 #[.pointer (some ⟨mb,0,none⟩),.agg #[.int .i64 x.b.kind,.string x.b.text,.int .i64 x.b.n]] W fun e w'=>e = .returned (.bool lb)∧Below W1.heap.size W1 w' from fun W hW=>(Zb4 x.b W (HP.out W hW).cs HNL.out).mono fun e w' hh=>⟨by rw [Elb.out];exact hh.1,hW.trans (hh.2.mono hW.size)⟩);have HOA:=hid (show ∀W,Below W1.heap.size W1 W→Calls Tryz.prog 107 #[.pointer (some ⟨mb,0,none⟩),.agg #[.int .i64 x.a.kind,.string x.a.text,.int .i64 x.a.n]] W fun e w'=>e = .returned (.bool oa)∧Below W1.heap.size W1 w' from fun W hW=>(Zdl x.a W (HP.out W hW).cs HNL.out).mono fun e w' hh=>⟨by rw [Eoa.out];exact hh.1,hW.trans (hh.2.mono hW.size)⟩);have HOB:=hid (show ∀W,Below W1.heap.size W1 W→Calls Tryz.prog 107 #[.pointer (some ⟨mb,0,none⟩),.agg #[.int .i64 x.b.kind,.string x.b.text,.int .i64 x.b.n]] W fun e w'=>e = .returned (.bool ob)∧Below W1.heap.size W1 w' from fun W hW=>(Zdl x.b W (HP.out W hW).cs HNL.out).mono fun e w' hh=>⟨by rw [Eob.out];exact hh.1,hW.trans (hh.2.mono hW.size)⟩);have HSA:=hid (show ∀W,Below W1.heap.size W1 W→Calls Tryz.prog 108 #[.pointer (some ⟨mb,0,none⟩),.agg #[.int .i64 x.a.kind,.string x.a.text,.int .i64 x.a.n]] W fun e w'=>e = .returned (.bool sa)∧Below W1.heap.size W1 w' from fun W hW=>(Zaj x.a W (HP.out W hW).cs).mono fun e w' hh=>⟨by rw [Esa.out];exact hh.1,hW.trans (hh.2.mono hW.size)⟩);have HSB:=hid (show ∀W,Below W1.heap.size W1 W→Calls Tryz.prog 108 #[.pointer (some ⟨mb,0,none⟩),.agg #[.int .i64 x.b.kind,.string x.b.text,.int .i64 x.b.n]] W fun e w'=>e = .returned (.bool sb)∧Below W1.heap.size W1 w' from fun W hW=>(Zaj x.b W (HP.out W hW).cs).mono fun e w' hh=>⟨by rw [Esb.out];exact hh.1,hW.trans (hh.2.mono hW.size)⟩);have HB:=hid (Zi2 W1.heap.size W1)
 have HLP:=HB.out;clear HLP;obtain ⟨x0,x1,x2,x3,x4,x5,x6⟩:=(K3.out.new_ HB.out).c7;have xz:=(K3.out.new_ HB.out).lt;obtain ⟨c1,hc1⟩ : ∃c,c=(decide (x.rel=7) && (la && ob || lb && oa)):=⟨_,rfl⟩;have C1:=hid hc1;clear hc1;obtain ⟨v1,hv1⟩ : ∃v,v=Value.agg #[.int .i64 x.a.kind,.string x.a.text,.int .i64 x.a.n,.int .i64 x.b.kind,.string x.b.text,.int .i64 x.b.n,.int .i64 x.rel]:=⟨_,rfl⟩;rw [← hv1];clear hv1
 go_cut [5] from 6 to 110 (fun v W=>v = .bool c1∧Below W1.heap.size W1 W)
 case first=>
  by_cases h7:x.rel=7
  case neg=>
   (have t7:(x.rel == 7)=false:=by simpa using h7);(go_wp2_with fail);go_meet
   case rel=>exact ⟨by rw [C1.out,Zi4 h7];rfl,HB.out⟩
  (have t7:(x.rel == 7)=true:=by simp [h7]);cases la<;>cases ob<;>cases lb<;>cases oa
  all_goals
   (go_wp2_with (first | ((with_reducible refine (HLA.out _ HB.out).mono ?_);rintro e V ⟨rfl,hb⟩;clear x0 x1 x2 x3 x4 x5 x6 xz HB;have HB:=hid hb;clear hb;obtain ⟨x0,x1,x2,x3,x4,x5,x6⟩:=(K3.out.new_ HB.out).c7;have xz:=(K3.out.new_ HB.out).lt) | ((with_reducible refine (HLB.out _ HB.out).mono ?_);rintro e V ⟨rfl,hb⟩;clear x0 x1 x2 x3 x4 x5 x6 xz HB;have HB:=hid hb;clear hb;obtain ⟨x0,x1,x2,x3,x4,x5,x6⟩:=(K3.out.new_ HB.out).c7;have xz:=(K3.out.new_ HB.out).lt) | ((with_reducible refine (HOA.out _ HB.out).mono ?_);rintro e V ⟨rfl,hb⟩;clear x0 x1 x2 x3 x4 x5 x6 xz HB;have HB:=hid hb;clear hb;obtain ⟨x0,x1,x2,x3,x4,x5,x6⟩:=(K3.out.new_ HB.out).c7;have xz:=(K3.out.new_ HB.out).lt) | ((with_reducible refine (HOB.out _ HB.out).mono ?_);rintro e V ⟨rfl,hb⟩;clear x0 x1 x2 x3 x4 x5 x6 xz HB;have HB:=hid hb;clear hb;obtain ⟨x0,x1,x2,x3,x4,x5,x6⟩:=(K3.out.new_ HB.out).c7;have xz:=(K3.out.new_ HB.out).lt)));go_meet
   case rel=>exact ⟨by rw [C1.out,Zie h7];rfl,HB.out⟩
 case rest=>
  obtain ⟨rfl,hbc⟩:=hcut;clear x0 x1 x2 x3 x4 x5 x6 xz HB;have HB:=hid hbc;obtain ⟨V,hV⟩ : ∃V,V=wc:=⟨_,rfl⟩;rw [← hV] at HB ⊢;clear hV hbc wc;obtain ⟨x0,x1,x2,x3,x4,x5,x6⟩:=(K3.out.new_ HB.out).c7;have xz:=(K3.out.new_ HB.out).lt;cases c1
  case true=>
   have HE:=hid (show Z2b ns es x (vcs.map VCo.vs)=none by
    have h1:=C1.out;rw [Ela.out,Elb.out,Eoa.out,Eob.out] at h1;unfold Z2b
    rw [if_pos (by simpa using h1.symm)])
   (go_wp2_with fail);go_ret;rw [HE.out];exact And.intro rfl (HP.out _ HB.out)
  have N1:=hid (show ¬(x.rel=7∧(Z42 ns es x.a=true∧Z45 ns x.b=true∨Z42 ns es x.b=true∧Z45 ns x.a=true)) by
   have h1:=C1.out;rw [Ela.out,Elb.out,Eoa.out,Eob.out] at h1;intro hc;(have h2:(decide (x.rel=7) && (Z42 ns es x.a && Z45 ns x.b || Z42 ns es x.b && Z45 ns x.a))=true:=by simpa using hc);rw [h2] at h1
   cases h1)
  clear C1;obtain ⟨c2,hc2⟩ : ∃c,c=(oa || ob):=⟨_,rfl⟩;have C2:=hid hc2;clear hc2;go_upto_region 3 with fail
  go_cut [33] from 34 to 110 (fun v W=>v = .bool c2∧Below W1.heap.size W1 W)
  case first=>
   cases oa<;>cases ob
   all_goals
    (go_wp2_with (first | ((with_reducible refine (HOA.out _ HB.out).mono ?_);rintro e V ⟨rfl,hb⟩;clear x0 x1 x2 x3 x4 x5 x6 xz HB;have HB:=hid hb;clear hb;obtain ⟨x0,x1,x2,x3,x4,x5,x6⟩:=(K3.out.new_ HB.out).c7;have xz:=(K3.out.new_ HB.out).lt) | ((with_reducible refine (HOB.out _ HB.out).mono ?_);rintro e V ⟨rfl,hb⟩;clear x0 x1 x2 x3 x4 x5 x6 xz HB;have HB:=hid hb;clear hb;obtain ⟨x0,x1,x2,x3,x4,x5,x6⟩:=(K3.out.new_ HB.out).c7;have xz:=(K3.out.new_ HB.out).lt)));go_meet
    case rel=>exact ⟨by rw [C2.out];rfl,HB.out⟩
  case rest=>
   obtain ⟨rfl,hbc⟩:=hcut;clear x0 x1 x2 x3 x4 x5 x6 xz HB;have HB:=hid hbc;obtain ⟨V,hV⟩ : ∃V,V=wc:=⟨_,rfl⟩;rw [← hV] at HB ⊢;clear hV hbc wc;obtain ⟨x0,x1,x2,x3,x4,x5,x6⟩:=(K3.out.new_ HB.out).c7;have xz:=(K3.out.new_ HB.out).lt;cases c2
   case true=>
    have HQ:=hid (show Z45 ns x.a=true∨Z45 ns x.b=true by
     have h1:=C2.out;rw [Eoa.out,Eob.out] at h1
     simpa using h1.symm)
    have HE:=hid (show Z2b ns es x (vcs.map VCo.vs)=some (vcs.map VCo.vs) by rw [Z2b,if_neg N1.out,if_pos HQ.out]);(go_wp2_with fail);go_ret;rw [HE.out];exact And.intro rfl ⟨vcs,HP.out _ HB.out,rfl,rfl⟩
   have N2:=hid (show ¬(Z45 ns x.a=true∨Z45 ns x.b=true) by
    have h1:=C2.out;rw [Eoa.out,Eob.out] at h1
    simpa using h1.symm)
   clear C2;obtain ⟨c3,hc3⟩ : ∃c,c=(decide (x.a.kind=1) && decide (x.b.kind=1)):=⟨_,rfl⟩;have C3:=hid hc3;clear hc3;go_upto_region 5 with fail
   go_cut [44] from 45 to 110 (fun v W=>v = .bool c3∧Below W1.heap.size W1 W)
   case first=>
    by_cases ha:x.a.kind=1
    case neg=>
     (have ta:(x.a.kind == 1)=false:=by simpa using ha);(go_wp2_with fail);go_meet
     case rel=>exact ⟨by rw [C3.out,Zi4 ha];rfl,HB.out⟩
    by_cases hb:x.b.kind=1
    case neg=>
     (have tb:(x.b.kind == 1)=false:=by simpa using hb);(go_wp2_with fail);go_meet
     case rel=>exact ⟨by rw [C3.out,Zie ha,Zi4 hb];rfl,HB.out⟩
    have C3:=hid (show c3=true by rw [C3.out,Zie ha,Zie hb];rfl);(go_wp2_with fail);go_meet
    case rel=>exact ⟨by rw [C3.out],HB.out⟩
   case rest=>
    obtain ⟨rfl,hbc⟩:=hcut;clear x0 x1 x2 x3 x4 x5 x6 xz HB;have HB:=hid hbc;obtain ⟨V,hV⟩ : ∃V,V=wc:=⟨_,rfl⟩;rw [← hV] at HB ⊢;clear hV hbc wc;obtain ⟨x0,x1,x2,x3,x4,x5,x6⟩:=(K3.out.new_ HB.out).c7;have xz:=(K3.out.new_ HB.out).lt;cases c3
    case true=>
     have Q3:=hid (show x.a.kind=1∧x.b.kind=1 by simpa using C3.out.symm);clear C3;obtain ⟨c4,hc4⟩ : ∃c,c=(decide (x.a=x.b) || (!decide (x.rel=2) && (!decide (x.rel=7) || (sa && sb)))):=⟨_,rfl⟩;have C4:=hid hc4;clear hc4;have heq:=Z2y x.a x.b;go_upto_region 6 with fail
     go_cut [81] from 55 to 110 (fun v W=>v = .bool c4∧Below W1.heap.size W1 W)
     case first=>
      obtain ⟨d,hd⟩ : ∃d,d=decide (x.a=x.b):=⟨_,rfl⟩;rw [← hd] at heq;have C4':=hid (show c4=(d || (!decide (x.rel=2) && (!decide (x.rel=7) || (sa && sb)))) by rw [hd];exact C4.out);clear hd C4;cases d
      case true=>
       (go_wp2_with fail);go_meet
       case rel=>exact ⟨by rw [C4'.out];rfl,HB.out⟩
      by_cases h2:x.rel=2
      case pos=>
       (have t2:(x.rel == 2)=true:=by simp [h2]);(go_wp2_with fail);go_meet
       case rel=>exact ⟨by rw [C4'.out,Zie h2];rfl,HB.out⟩
      (have t2:(x.rel == 2)=false:=by simpa using h2);(have t2n:(x.rel != 2)=true:=by simpa using h2);by_cases h7:x.rel=7
      case neg=>
       (have t7:(x.rel == 7)=false:=by simpa using h7);(have t7n:(x.rel != 7)=true:=by simpa using h7);(go_wp2_with fail);go_meet
       case rel=>exact ⟨by rw [C4'.out,Zi4 h2,Zi4 h7];rfl,HB.out⟩
      (have t7:(x.rel == 7)=true:=by simp [h7]);cases sa<;>cases sb
      all_goals
       (go_wp2_with (first | ((with_reducible refine (HSA.out _ HB.out).mono ?_);rintro e V ⟨rfl,hb⟩;clear x0 x1 x2 x3 x4 x5 x6 xz HB;have HB:=hid hb;clear hb;obtain ⟨x0,x1,x2,x3,x4,x5,x6⟩:=(K3.out.new_ HB.out).c7;have xz:=(K3.out.new_ HB.out).lt) | ((with_reducible refine (HSB.out _ HB.out).mono ?_);rintro e V ⟨rfl,hb⟩;clear x0 x1 x2 x3 x4 x5 x6 xz HB;have HB:=hid hb;clear hb;obtain ⟨x0,x1,x2,x3,x4,x5,x6⟩:=(K3.out.new_ HB.out).c7;have xz:=(K3.out.new_ HB.out).lt)));go_meet
       case rel=>exact ⟨by rw [C4'.out,Zi4 h2,Zie h7];rfl,HB.out⟩
     case rest=>
      obtain ⟨rfl,hbc⟩:=hcut;clear x0 x1 x2 x3 x4 x5 x6 xz HB;have HB:=hid hbc;obtain ⟨V,hV⟩ : ∃V,V=wc:=⟨_,rfl⟩;rw [← hV] at HB ⊢;clear hV hbc wc;obtain ⟨x0,x1,x2,x3,x4,x5,x6⟩:=(K3.out.new_ HB.out).c7;have xz:=(K3.out.new_ HB.out).lt;clear heq;have h4:=C4.out;rw [Esa.out,Esb.out] at h4;cases c4
      case true=>
       have HQ:=hid (show x.a=x.b∨x.rel≠2∧(x.rel≠7∨Z3s es x.a=true∧Z3s es x.b=true) by simpa using h4.symm);clear h4;have HE:=hid (show Z2b ns es x (vcs.map VCo.vs)=some (vcs.map VCo.vs) by rw [Z2b,if_neg N1.out,if_neg N2.out,if_pos Q3.out,if_pos HQ.out]);(go_wp2_with fail);go_ret;rw [HE.out];exact And.intro rfl ⟨vcs,HP.out _ HB.out,rfl,rfl⟩
      have HQ:=hid (show ¬(x.a=x.b∨x.rel≠2∧(x.rel≠7∨Z3s es x.a=true∧Z3s es x.b=true)) by
       intro hc;(have h2:(decide (x.a=x.b) || (!decide (x.rel=2) && (!decide (x.rel=7) || (Z3s es x.a && Z3s es x.b))))=true:=by simpa using hc);rw [h2] at h4
       cases h4)
      clear h4;have HTW:=Zhw x V (HP.out _ HB.out) HLN.out HVL.out HNL.out HEL.out;obtain ⟨r,hr⟩ : ∃r,r=twoV ns es x (vcs.map VCo.vs):=⟨_,rfl⟩;rw [← hr] at HTW;have HE:=hid (show Z2b ns es x (vcs.map VCo.vs)=r by rw [Z2b,if_neg N1.out,if_neg N2.out,if_pos Q3.out,if_neg HQ.out,hr]);have HTW:=hid HTW;clear hr;(go_wp2_with fail);refine HTW.out.mono ?_;intro e w2 hh
      cases r with
      | none=>
        obtain ⟨rfl,hp⟩:=(show e = .returned (.bool false)∧P3 X bx nb mb ns es AO cO vcs AC cC tags At ct D w2 from hh);have HP2:=hid hp;clear x0 x1 x2 x3 x4 x5 x6 xz hh hp;(go_wp2_with fail);go_ret;rw [HE.out];exact And.intro rfl HP2.out
      | some vss=>
        obtain ⟨rfl,hp⟩:=(show e = .returned (.bool true)∧Z9q X bx nb mb ns es AO cO vcs AC cC tags At ct D vss w2 from hh);have HP2:=hid hp;clear x0 x1 x2 x3 x4 x5 x6 xz hh hp;(go_wp2_with fail);go_ret;rw [HE.out];exact And.intro rfl HP2.out
    have N3:=hid (show ¬(x.a.kind=1∧x.b.kind=1) by
     intro hc;have h1:=C3.out;rw [Zie hc.1,Zie hc.2] at h1
     cases h1)
    clear C3;by_cases h2:x.rel=2
    case neg=>
     (have t2:(x.rel == 2)=false:=by simpa using h2);(have t2n:(x.rel != 2)=true:=by simpa using h2);have HE:=hid (show Z2b ns es x (vcs.map VCo.vs)=some (vcs.map VCo.vs) by rw [Z2b,if_neg N1.out,if_neg N2.out,if_neg N3.out,if_pos h2]);(go_wp2_with fail);go_ret;rw [HE.out];exact And.intro rfl ⟨vcs,HP.out _ HB.out,rfl,rfl⟩
    have HE0:=hid (show Z2b ns es x (vcs.map VCo.vs)=if la=true then some (oneV es x.a x.b (vcs.map VCo.vs)) else if lb=true then some (oneV es x.b x.a (vcs.map VCo.vs)) else some (vcs.map VCo.vs) by rw [Z2b,if_neg N1.out,if_neg N2.out,if_neg N3.out,if_neg (fun hc=>hc h2),Ela.out,Elb.out]);have HO1:=hid (show ∀W,Below W1.heap.size W1 W→_ from fun W hW=>Zgl x.a x.b W (HP.out W hW) HLN.out HVL.out);have HO2:=hid (show ∀W,Below W1.heap.size W1 W→_ from fun W hW=>Zgl x.b x.a W (HP.out W hW) HLN.out HVL.out);(have t2:(x.rel == 2)=true:=by simp [h2]);cases la
    case true=>
     (go_wp2_with (first | ((with_reducible refine (HLA.out _ HB.out).mono ?_);rintro e V ⟨rfl,hb⟩;clear x0 x1 x2 x3 x4 x5 x6 xz HB;have HB:=hid hb;clear hb;obtain ⟨x0,x1,x2,x3,x4,x5,x6⟩:=(K3.out.new_ HB.out).c7;have xz:=(K3.out.new_ HB.out).lt)));refine (HO1.out _ HB.out).mono ?_;rintro e w2 ⟨rfl,hp⟩;have HP2:=hid hp;clear x0 x1 x2 x3 x4 x5 x6 xz hp;(go_wp2_with fail);go_ret;rw [HE0.out];exact And.intro rfl HP2.out
    cases lb
    case true=>
     (go_wp2_with (first | ((with_reducible refine (HLA.out _ HB.out).mono ?_);rintro e V ⟨rfl,hb⟩;clear x0 x1 x2 x3 x4 x5 x6 xz HB;have HB:=hid hb;clear hb;obtain ⟨x0,x1,x2,x3,x4,x5,x6⟩:=(K3.out.new_ HB.out).c7;have xz:=(K3.out.new_ HB.out).lt) | ((with_reducible refine (HLB.out _ HB.out).mono ?_);rintro e V ⟨rfl,hb⟩;clear x0 x1 x2 x3 x4 x5 x6 xz HB;have HB:=hid hb;clear hb;obtain ⟨x0,x1,x2,x3,x4,x5,x6⟩:=(K3.out.new_ HB.out).c7;have xz:=(K3.out.new_ HB.out).lt)));refine (HO2.out _ HB.out).mono ?_;rintro e w2 ⟨rfl,hp⟩;have HP2:=hid hp;clear x0 x1 x2 x3 x4 x5 x6 xz hp;(go_wp2_with fail);go_ret;rw [HE0.out];exact And.intro rfl HP2.out
    (go_wp2_with (first | ((with_reducible refine (HLA.out _ HB.out).mono ?_);rintro e V ⟨rfl,hb⟩;clear x0 x1 x2 x3 x4 x5 x6 xz HB;have HB:=hid hb;clear hb;obtain ⟨x0,x1,x2,x3,x4,x5,x6⟩:=(K3.out.new_ HB.out).c7;have xz:=(K3.out.new_ HB.out).lt) | ((with_reducible refine (HLB.out _ HB.out).mono ?_);rintro e V ⟨rfl,hb⟩;clear x0 x1 x2 x3 x4 x5 x6 xz HB;have HB:=hid hb;clear hb;obtain ⟨x0,x1,x2,x3,x4,x5,x6⟩:=(K3.out.new_ HB.out).c7;have xz:=(K3.out.new_ HB.out).lt)));go_ret;rw [HE0.out];exact And.intro rfl ⟨vcs,HP.out _ HB.out,rfl,rfl⟩
end
end
end Go.Proofs.YtldndkngpdfpfaaGreat
