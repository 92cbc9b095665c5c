/-
  Texts put together: VaryG2, VaryG3, VaryA1, VaryA2, VaryA3, VaryA8.
-/
import Derived.Test.YtldndkngpdfpfaaGreatPGr
namespace Go.Proofs.YtldndkngpdfpfaaGreat
open Lib (hid)
set_option maxRecDepth 100000
set_option maxHeartbeats 32000000
section
open Go.RowKit Go.Shelf
attribute [local go_sem] Oper.semAt_some
set_option linter.unusedSimpArgs false
theorem Blk.setAllG {w:World} {g:Nat} {t:TypeId} {cs:Array Value} {vs:List Value} (h:Blk w g t cs) (hl:cs.size=vs.length):Blk (w.setCells g 0 vs) g t vs.toArray:=by
 have:=Blk.setAllD h hl;exact this
theorem Ze8 (t:Z0i) (Al:Option Addr) (nl cl:Nat) (s:Sym) (A:Option Addr) (c:Nat) (l:List Z0w) (w:World) (h:Z0h w 4 Z0w.cells A c l) (hl:l.length≤5000) (hr:1≤t.rel∧t.rel≤7) :
 Calls Tryz.prog 68 #[.agg #[.int .i64 t.rel,.string t.var,.int .i64 t.sym.kind,.string t.sym.text,.int .i64 t.sym.n,.slice Al nl cl],.agg #[.int .i64 s.kind,.string s.text,.int .i64 s.n],.slice A l.length c] w (Z76 (oneR t s l) w):=by
 have H0:=hid h
 have HRO:=hid (show oneR t s l=if t.var=⟨#[]⟩ then (if Z0v t.rel s t.sym=true then some l else none) else if (getB l t.var).2=true then (if Z0v t.rel s (getB l t.var).1=true then some l else none) else (if t.rel=1 then some (l ++ [⟨t.var,s⟩]) else none) by
  unfold oneR;rw [if_neg (by omega),if_neg (by omega),Zgi]
  cases (getB l t.var).2<;>rfl)
 (have k8a:(t.rel == 8)=false:=by simp;omega);(have k8b:decide (t.rel=8)=false:=by simp;omega);(have l1:decide (t.rel<1)=false:=by simp;omega);(have l7:decide ((7:Int)<t.rel)=false:=by simp;omega);have HL:=hid hl;clear h hr hl;go_enter Tryz.func68,Tryz.ntmps68;(go_upto_region 1 with fail);obtain ⟨w1,hw1⟩ : ∃w1,w1=((w.alloc (.cells #[.int .i64 t.rel,.string t.var,.int .i64 t.sym.kind,.string t.sym.text,.int .i64 t.sym.n,.slice Al nl cl] 142)).alloc (.cells #[.int .i64 s.kind,.string s.text,.int .i64 s.n] 23)):=⟨_,rfl⟩;rw [← hw1];have HB:=hid (show Below w.heap.size w w1 by rw [hw1];exact (by repeat (first | exact Zi2 _ _ | refine Below.drew ?_ | refine Below.al ?_ _ | refine Below.sc ?_ _)));have Kt:=hid (show Blk w1 (w.heap.size) 142 #[.int .i64 t.rel,.string t.var,.int .i64 t.sym.kind,.string t.sym.text,.int .i64 t.sym.n,.slice Al nl cl] by rw [hw1];exact ((Blk.new w 142 #[.int .i64 t.rel,.string t.var,.int .i64 t.sym.kind,.string t.sym.text,.int .i64 t.sym.n,.slice Al nl cl]).alloc (.cells #[.int .i64 s.kind,.string s.text,.int .i64 s.n] 23)));have Ks:=hid (show Blk w1 (w.heap.size+1) 23 #[.int .i64 s.kind,.string s.text,.int .i64 s.n] by rw [hw1];have hh:=(Blk.new (w.alloc (.cells #[.int .i64 t.rel,.string t.var,.int .i64 t.sym.kind,.string t.sym.text,.int .i64 t.sym.n,.slice Al nl cl] 142)) 23 #[.int .i64 s.kind,.string s.text,.int .i64 s.n]);simp only [Zid] at hh;exact hh);clear hw1;obtain ⟨t0,t1,t2,t3,t4,t5⟩:=Kt.out.c6;have tz:=Kt.out.lt;obtain ⟨s0,s1,s2⟩:=Ks.out.c3;have sz:=Ks.out.lt;(go_upto_region 11 with fail);obtain ⟨W2,hW2⟩ : ∃W,W=w1.alloc (.cells #[.int .i64 t.sym.kind,.string t.sym.text,.int .i64 t.sym.n] 23):=⟨_,rfl⟩;obtain ⟨bo,hbo⟩ : ∃b,b=w1.heap.size:=⟨_,rfl⟩;have Ko:=hid (show Blk W2 bo 23 #[.int .i64 t.sym.kind,.string t.sym.text,.int .i64 t.sym.n] by rw [hW2,hbo];exact Blk.new _ _ _);(have hbn:Below w1.heap.size w1 W2:=by rw [hW2];exact (Zi2 _ _).alloc (Zi3 _) _);have HBO:=hid (show w.heap.size≤bo by rw [hbo];exact HB.out.size);have HSO:=hid (show w.heap.size+1<bo by rw [hbo];exact Ks.out.lt);rw [← hW2,← hbo];clear hW2 hbo;clear t0 t1 t2 t3 t4 t5 tz s0 s1 s2 sz;have Kt:=hid (Kt.out.new_ hbn);have Ks:=hid (Ks.out.new_ hbn);have HB:=hid (HB.out.trans (hbn.mono HB.out.size));clear hbn;by_cases hv:t.var=⟨#[]⟩
 case pos=>
  (have va:(t.var.toList == [])=true:=by rw [hv];kernel_rfl);(have vb:t.var.toList.isEmpty=true:=by rw [hv];kernel_rfl);(have vc:decide (t.var.toList = [])=true:=by rw [hv];kernel_rfl);rw [if_pos hv] at HRO;clear hv;obtain ⟨r,hr⟩ : ∃r,r=Z0v t.rel s t.sym:=⟨_,rfl⟩;have hHO:=Z6r t.rel s t.sym;simp only [← hr] at hHO HRO;have HHO:=hid hHO;clear hHO hr;obtain ⟨t0,t1,t2,t3,t4,t5⟩:=Kt.out.c6;have tz:=Kt.out.lt;obtain ⟨s0,s1,s2⟩:=Ks.out.c3;have sz:=Ks.out.lt;obtain ⟨o0,o1,o2⟩:=Ko.out.c3;have oz:=Ko.out.lt;(go_wp2_with fail);refine (HHO.out _).mono ?_;rintro e w3 ⟨rfl,hb⟩;have HB:=hid (HB.out.trans (hb.mono HB.out.size));clear hb t0 t1 t2 t3 t4 t5 tz s0 s1 s2 sz o0 o1 o2 oz;cases r
  · go_wp2_with fail
    exact bodyPost_ret (v:=.tuple #[.slice none 0 0,.bool false]) (by simp [results,Tryz.results68,go_sem, *]) rfl (by rw [HRO.out];exact ⟨HB.out,rfl⟩)
  · go_wp2_with fail
    exact bodyPost_ret (v:=.tuple #[.slice A l.length c,.bool true]) (by simp [results,Tryz.results68,go_sem, *]) rfl (by rw [HRO.out];exact ⟨HB.out,A,c,rfl,H0.out.new_ HB.out⟩)
 rw [if_neg hv] at HRO;have hv2 : ¬t.var.toList = []:=fun e=>hv (toList_inj (e.trans (show ([]:List UInt8)=(⟨#[]⟩:ByteArray).toList by kernel_rfl)));(have va:(t.var.toList == [])=false:=by simp [hv2]);(have vb:t.var.toList.isEmpty=false:=by simp [hv2]);(have vc:decide (t.var.toList = [])=false:=by simp [hv2]);clear hv2;obtain ⟨gs,gb,hgs⟩ : ∃gs gb,getB l t.var=(gs,gb):=⟨_,_,rfl⟩;have hGE:=Zh8 (D:=fun _=>True) (A:=A) (c:=c) l t.var W2 (RowR.of_rd (hs:=Z0w.cells_length) (H0.out.new_ HB.out) (fun _ _=>trivial));simp only [hgs] at hGE HRO;have HGE:=hid hGE;clear hGE hgs hv;obtain ⟨t0,t1,t2,t3,t4,t5⟩:=Kt.out.c6;have tz:=Kt.out.lt;(go_wp2_with fail);refine HGE.out.mono ?_;rintro e w3 ⟨rfl,hb⟩;clear t0 t1 t2 t3 t4 t5 tz HGE;have Kt:=hid (Kt.out.new_ hb);have Ks:=hid (Ks.out.new_ hb);have Ko:=hid (Ko.out.new_ hb);have HB:=hid (HB.out.trans (hb.mono HB.out.size));clear hb;(go_upto_region 13 with fail);obtain ⟨W4,hW4⟩ : ∃W,W=w3.alloc (.cells #[.int .i64 gs.kind,.string gs.text,.int .i64 gs.n] 23):=⟨_,rfl⟩;obtain ⟨bg,hbg⟩ : ∃b,b=w3.heap.size:=⟨_,rfl⟩;have Kg:=hid (show Blk W4 bg 23 #[.int .i64 gs.kind,.string gs.text,.int .i64 gs.n] by rw [hW4,hbg];exact Blk.new _ _ _);(have hbn:Below w3.heap.size w3 W4:=by rw [hW4];exact (Zi2 _ _).alloc (Zi3 _) _);have HGO:=hid (show bo<bg by rw [hbg];exact Ko.out.lt);rw [← hW4,← hbg];clear hW4 hbg;have Kt:=hid (Kt.out.new_ hbn);have Ks:=hid (Ks.out.new_ hbn);have Ko:=hid (Ko.out.new_ hbn);have HB:=hid (HB.out.trans (hbn.mono HB.out.size));clear hbn;cases gb
 case false=>
  rw [if_neg (show ¬false=true by decide)] at HRO;by_cases h1:t.rel=1
  · skip
    rw [if_pos h1] at HRO;(have k1a:(t.rel == 1)=true:=by simp [h1]);(have k1b:decide (t.rel=1)=true:=by simp [h1]);clear h1;obtain ⟨t0,t1,t2,t3,t4,t5⟩:=Kt.out.c6;have tz:=Kt.out.lt;obtain ⟨s0,s1,s2⟩:=Ks.out.c3;have sz:=Ks.out.lt;(go_wp2_with fail);refine (Zg7 A c l t.var s _ (H0.out.new_ HB.out) HL.out).mono ?_;rintro e w5 ⟨A',c',rfl,hrd,hb⟩;have HRD:=hid hrd;have HB:=hid (HB.out.trans (hb.mono HB.out.size));clear hb hrd t0 t1 t2 t3 t4 t5 tz s0 s1 s2 sz;(go_wp2_with fail);exact bodyPost_ret (v:=.tuple #[.slice A' (l ++ [(⟨t.var,s⟩:Z0w)]).length c',.bool true]) (by simp [results,Tryz.results68,go_sem, *]) rfl (by rw [HRO.out];exact ⟨HB.out,A',c',rfl,HRD.out⟩)
  · skip
    rw [if_neg h1] at HRO;(have k1a:(t.rel == 1)=false:=by simp [h1]);(have k1b:decide (t.rel=1)=false:=by simp [h1]);clear h1;obtain ⟨t0,t1,t2,t3,t4,t5⟩:=Kt.out.c6;have tz:=Kt.out.lt;(go_wp2_with fail);exact bodyPost_ret (v:=.tuple #[.slice none 0 0,.bool false]) (by simp [results,Tryz.results68,go_sem, *]) rfl (by rw [HRO.out];exact ⟨HB.out,rfl⟩)
 rw [if_pos rfl] at HRO;obtain ⟨g0,g1,g2⟩:=Kg.out.c3;have gz:=Kg.out.lt;have HT:=hid (show W4.there bo 0 (#[.int .i64 gs.kind,.string gs.text,.int .i64 gs.n]:Array Value).size from Ko.out.there);(go_upto_region 18 with (with_reducible refine wpList_store_mid rfl 23 _ _ rfl bo 0 #[.int .i64 gs.kind,.string gs.text,.int .i64 gs.n] rfl rfl HT.out (by kernel_rfl) (by kernel_rfl) ?_));obtain ⟨W5,hW5⟩ : ∃W,W=W4.setCells bo 0 [.int .i64 gs.kind,.string gs.text,.int .i64 gs.n]:=⟨_,rfl⟩;have Kt5:=hid (show Blk W5 w.heap.size 142 #[.int .i64 t.rel,.string t.var,.int .i64 t.sym.kind,.string t.sym.text,.int .i64 t.sym.n,.slice Al nl cl] by rw [hW5];exact Blk.farCells _ _ Kt.out (Kt.out.ne_ Ko.out (by decide)));have Ks5:=hid (show Blk W5 (w.heap.size+1) 23 #[.int .i64 s.kind,.string s.text,.int .i64 s.n] by rw [hW5];exact Blk.farCells _ _ Ks.out (by have:=HSO.out;omega));have Ko5:=hid (show Blk W5 bo 23 #[.int .i64 gs.kind,.string gs.text,.int .i64 gs.n] by rw [hW5];exact Ko.out.setAllG rfl);have HB5:=hid (show Below w.heap.size w W5 by rw [hW5];exact Below.setCells' _ _ HB.out HBO.out);rw [← hW5];clear hW5 g0 g1 g2 gz HT Kt Ks Ko HB;have Kt:=Kt5;have Ks:=Ks5;have Ko:=Ko5;have HB:=HB5;clear Kt5 Ks5 Ko5 HB5;obtain ⟨r,hr⟩ : ∃r,r=Z0v t.rel s gs:=⟨_,rfl⟩;have hHO:=Z6r t.rel s gs;simp only [← hr] at hHO HRO;have HHO:=hid hHO;clear hHO hr;obtain ⟨t0,t1,t2,t3,t4,t5⟩:=Kt.out.c6;have tz:=Kt.out.lt;obtain ⟨s0,s1,s2⟩:=Ks.out.c3;have sz:=Ks.out.lt;obtain ⟨o0,o1,o2⟩:=Ko.out.c3;have oz:=Ko.out.lt;(go_wp2_with fail);refine (HHO.out _).mono ?_;rintro e w6 ⟨rfl,hb⟩;have HB:=hid (HB.out.trans (hb.mono HB.out.size));clear hb t0 t1 t2 t3 t4 t5 tz s0 s1 s2 sz o0 o1 o2 oz;cases r
 · go_wp2_with fail
   exact bodyPost_ret (v:=.tuple #[.slice none 0 0,.bool false]) (by simp [results,Tryz.results68,go_sem, *]) rfl (by rw [HRO.out];exact ⟨HB.out,rfl⟩)
 · go_wp2_with fail
   exact bodyPost_ret (v:=.tuple #[.slice A l.length c,.bool true]) (by simp [results,Tryz.results68,go_sem, *]) rfl (by rw [HRO.out];exact ⟨HB.out,A,c,rfl,H0.out.new_ HB.out⟩)
def TOk (t:Z0i):Prop:=1≤t.rel∧t.rel≤7
theorem Z82 {t:Z0i} {s:Sym} {l m:List Z0w} (h:oneR t s l=some m):m.length≤l.length+1:=by
 unfold oneR at h
 repeat' split at h
 all_goals first
  | (cases h;done)
  | (injection h with h;rw [← h];simp)
theorem Z6y (t:Z0i) (ts:List Z0i) (s:Sym) (l:List Z0w):Z28 (t :: ts) s l=match oneR t s l with
 | none=>none
 | some m=>Z28 ts s m:=rfl
theorem Z7m : ∀{ts:List Z0i} {s:Sym} {l m:List Z0w},Z28 ts s l=some m→m.length≤l.length+ts.length
 | [],_,_,_,h=>by injection h with h;rw [← h];simp
 | t :: ts,s,l,m,h=>by
   rw [Z6y] at h
   cases h1:oneR t s l with
   | none=>rw [h1] at h;cases h
   | some k=>
     rw [h1] at h;have:=Z7m (ts:=ts) h;have:=Z82 h1;simp only [Zj1];omega
theorem Z9d {D:Nat→Prop} (ts:List Z0i) (At:Option Addr) (ct:Nat) (s:Sym) (A:Option Addr) (c:Nat) (l:List Z0w) (w:World) (ht:RowR Z0d D w At ct ts) (h:Z0h w 4 Z0w.cells A c l) (hl:l.length+ts.length≤5000) (hr : ∀t∈ts,TOk t) :
 Calls Tryz.prog 69 #[.slice At ts.length ct,.agg #[.int .i64 s.kind,.string s.text,.int .i64 s.n],.slice A l.length c] w (Z76 (Z28 ts s l) w):=by
 have H0:=hid h;have HT:=hid ht;have HL:=hid hl;have HR:=hid hr;have hlc:=ht.cap;clear h ht hl hr;obtain ⟨r,hr⟩ : ∃r,r=Z28 ts s l:=⟨_,rfl⟩;rw [← hr];go_enter Tryz.func69,Tryz.ntmps69;(go_upto_region 1 with fail);obtain ⟨w1,hw1⟩ : ∃w1,w1=(w.alloc (.cells #[.int .i64 s.kind,.string s.text,.int .i64 s.n] 23)):=⟨_,rfl⟩;rw [← hw1];have HB:=hid (show Below w.heap.size w w1 by rw [hw1];exact (by repeat (first | exact Zi2 _ _ | refine Below.drew ?_ | refine Below.al ?_ _ | refine Below.sc ?_ _)));have Ks:=hid (show Blk w1 (w.heap.size) 23 #[.int .i64 s.kind,.string s.text,.int .i64 s.n] by rw [hw1];exact (Blk.new w 23 #[.int .i64 s.kind,.string s.text,.int .i64 s.n]));clear hw1;obtain ⟨s0,s1,s2⟩:=Ks.out.c3;have sz:=Ks.out.lt;clear s0 s1 s2 sz;go_upto_region 2 with fail
 go_loopw [2,8] (fun vb vi wr=>∃(i:Nat) (b:List Z0w) (Ab:Option Addr) (cb:Nat),vi = .int .i64 (i:Int)∧i≤ts.length∧vb = .slice Ab b.length cb∧r=Z28 (ts.drop i) s b∧Z0h wr 4 Z0w.cells Ab cb b∧b.length≤l.length+i∧Below w1.heap.size w1 wr) (fun vb vi wr=>ts.length - (intOf vi).toNat)
 case atStart=>exact ⟨0,l,A,c,rfl,Nat.zero_le _,rfl,hr,H0.out.new_ HB.out,by omega,Zi2 _ _⟩
 case round=>
  clear hr;obtain ⟨i,b,Ab,cb,rfl,hi,rfl,hr,hrd,hbl,hbw⟩:=hrel;have HRD:=hid hrd;have HRR:=hid hr;have HBL:=hid hbl;have HBA:=hid (HB.out.trans (hbw.mono HB.out.size));have HBW:=hid hbw;clear hrd hr hbl hbw;by_cases hlt:i<ts.length
  · skip
    obtain ⟨t,ht⟩ : ∃t,t=ts[i]:=⟨_,rfl⟩;obtain ⟨g,off,Al,cl,rfl,_,hg,q0,q1,q2,q3,q4,q5,-⟩:=Z4y (HT.out.new_ HBA.out) hlt;rw [← ht] at q0 q1 q2 q3 q4 q5;(have hdr:ts.drop i=t :: ts.drop (i+1):=by rw [ht];exact Ziw hlt);have hok:TOk t:=HR.out t (ht ▸ Zin hlt);rw [hdr,Z6y] at HRR;(have j1:(0:Int)≤(i:Int):=by omega);(have j2:(i:Int)<(ts.length:Int):=by omega);have v1:IntKind.i64.wrap ((i:Int)+1)=(i:Int)+1:=Zih _ (by have:=HL.out;omega);obtain ⟨m,hm⟩ : ∃m,m=oneR t s b:=⟨_,rfl⟩;(have hON : ∀W,Below wr.heap.size wr W→Calls Tryz.prog 68 #[.agg #[.int .i64 t.rel,.string t.var,.int .i64 t.sym.kind,.string t.sym.text,.int .i64 t.sym.n,.slice Al t.list.length cl],.agg #[.int .i64 s.kind,.string s.text,.int .i64 s.n],.slice Ab b.length cb] W (Z76 m W):=fun W hW=>by rw [hm];exact Ze8 t Al t.list.length cl s Ab cb b W (HRD.out.new_ hW) (by have:=HBL.out;have:=HL.out;omega) hok);have HML:=hid (show ∀k,m=some k→k.length≤l.length+(i+1) from fun k hk=>by have:=Z82 (hm.symm.trans hk);have:=HBL.out;omega);rw [← hm] at HRR;have HON:=hid hON;obtain ⟨s0,s1,s2⟩:=(Ks.out.new_ HBW.out).c3;have sz:=(Ks.out.new_ HBW.out).lt;clear hON hm ht hdr hok
    cases m with
    | none=>
      (go_upto_region 4 with fail);refine Z05 (fun w9=>Below wr.heap.size wr w9) [(0,0),(1,0),(2,0),(3,1),(4,1),(5,0),(6,2),(7,0),(8,0),(9,0),(10,0),(11,0)] (by kernel_rfl) (by kernel_rfl) (fun KK hKK=>?_);simp only [Z02,Zib,Zi5,Zi9,Zi8,Zi7,Zif];(repeat ((first | (refine Z0a ?_ (Or.inl ⟨by rfl,fun w9=>?_⟩) ?_;rotate_left 1;go_simp;with_reducible rfl) | (refine Z06 ?_ (((Zi2 _ _).drew)) (Or.inl ⟨by rfl,fun w9 hw9=>?_⟩) ?_;rotate_left 1;obtain ⟨hc9,hf9⟩:=Z0e hw9;go_simp;with_reducible rfl) | refine Z0a undef (Or.inr ⟨by rfl,rfl⟩) ?_ | refine Z06 undef (((Zi2 _ _).drew)) (Or.inr ⟨by rfl,rfl⟩) ?_);go_frame));refine Z2p (by kernel_rfl) (fun K9 hK9=>?_);go_simp;refine (HON.out _ ((Zi2 _ _).drew)).mono ?_;rintro e w6 ⟨hb,rfl⟩;have HB6:=hid (show Below wr.heap.size wr w6 from ((Zi2 wr.heap.size wr).drew).trans hb);clear hb;refine hK9 _ _ ?_;clear hK9 K9;(repeat ((first | (refine Z0a ?_ (Or.inl ⟨by rfl,fun w9=>?_⟩) ?_;rotate_left 1;go_simp;with_reducible rfl) | (refine Z06 ?_ (((Zi2 _ _).drew)) (Or.inl ⟨by rfl,fun w9 hw9=>?_⟩) ?_;rotate_left 1;obtain ⟨hc9,hf9⟩:=Z0e hw9;go_simp;with_reducible rfl) | refine Z0a undef (Or.inr ⟨by rfl,rfl⟩) ?_ | refine Z06 undef (((Zi2 _ _).drew)) (Or.inr ⟨by rfl,rfl⟩) ?_);go_frame));refine Z0z ?_;simp only [Z00];refine hKK _ _ ?_;clear hKK KK;clear q0 q1 q2 q3 q4 q5 s0 s1 s2 sz;(go_wp2_with fail);exact bodyPost_ret (v:=.tuple #[.slice none 0 0,.bool false]) (by simp [results,Tryz.results69,go_sem, *]) rfl (by rw [HRR.out];exact ⟨HBA.out.trans (HB6.out.mono HBA.out.size),rfl⟩)
    | some m=>
      (go_upto_region 4 with fail);refine Z05 (fun w9=>Below wr.heap.size wr w9) [(0,0),(1,0),(2,0),(3,1),(4,1),(5,0),(6,2),(7,0),(8,0),(9,0),(10,0),(11,0)] (by kernel_rfl) (by kernel_rfl) (fun KK hKK=>?_);simp only [Z02,Zib,Zi5,Zi9,Zi8,Zi7,Zif];(repeat ((first | (refine Z0a ?_ (Or.inl ⟨by rfl,fun w9=>?_⟩) ?_;rotate_left 1;go_simp;with_reducible rfl) | (refine Z06 ?_ (((Zi2 _ _).drew)) (Or.inl ⟨by rfl,fun w9 hw9=>?_⟩) ?_;rotate_left 1;obtain ⟨hc9,hf9⟩:=Z0e hw9;go_simp;with_reducible rfl) | refine Z0a undef (Or.inr ⟨by rfl,rfl⟩) ?_ | refine Z06 undef (((Zi2 _ _).drew)) (Or.inr ⟨by rfl,rfl⟩) ?_);go_frame));refine Z2p (by kernel_rfl) (fun K9 hK9=>?_);go_simp;refine (HON.out _ ((Zi2 _ _).drew)).mono ?_;rintro e w6 ⟨hb,Am,cm,rfl,hrm⟩;have HRM:=hid hrm;clear hrm;have HB6:=hid (show Below wr.heap.size wr w6 from ((Zi2 wr.heap.size wr).drew).trans hb);clear hb;refine hK9 _ _ ?_;clear hK9 K9;(repeat ((first | (refine Z0a ?_ (Or.inl ⟨by rfl,fun w9=>?_⟩) ?_;rotate_left 1;go_simp;with_reducible rfl) | (refine Z06 ?_ (((Zi2 _ _).drew)) (Or.inl ⟨by rfl,fun w9 hw9=>?_⟩) ?_;rotate_left 1;obtain ⟨hc9,hf9⟩:=Z0e hw9;go_simp;with_reducible rfl) | refine Z0a undef (Or.inr ⟨by rfl,rfl⟩) ?_ | refine Z06 undef (((Zi2 _ _).drew)) (Or.inr ⟨by rfl,rfl⟩) ?_);go_frame));refine Z0z ?_;simp only [Z00];refine hKK _ _ ?_;clear hKK KK;clear q0 q1 q2 q3 q4 q5 s0 s1 s2 sz;(go_wp2_with fail);go_roundw
      case rel=>exact ⟨i+1,m,Am,cm,by go_num,by omega,rfl,HRR.out,HRM.out,HML.out _ rfl,HBW.out.trans (HB6.out.mono HBW.out.size)⟩
      case measure=>simp [intOf]<;>omega
  · skip
    (obtain rfl:i=ts.length:=by omega);rw [Zj8] at HRR;(have jz : ¬(ts.length:Int)<(ts.length:Int):=by omega);(go_wp2_with fail);exact bodyPost_ret (v:=.tuple #[.slice Ab b.length cb,.bool true]) (by simp [results,Tryz.results69,go_sem, *]) rfl (by rw [HRR.out];exact ⟨HBA.out,Ab,cb,rfl,HRD.out⟩)
theorem Ze4 {D:Nat→Prop} (nm:ByteArray) (at_ vs:List Z0i) (A1 A2 A3:Option Addr) (c1 c2 n3 c3:Nat) (e:Elem) (A:Option Addr) (c:Nat) (l:List Z0w) (w:World) (h1:RowR Z0d D w A1 c1 at_) (h2:RowR Z0d D w A2 c2 vs) (h:Z0h w 4 Z0w.cells A c l) (hl:l.length+at_.length+vs.length≤4900) (hr1 : ∀t∈at_,TOk t) (hr2 : ∀t∈vs,TOk t) :
 Calls Tryz.prog 23 #[.agg #[.int .i64 1,.bool e.goal,.string nm,.slice A1 at_.length c1,.slice A2 vs.length c2,.bool e.acc,.slice A3 n3 c3],.agg #[.int .i64 e.id.kind,.string e.id.text,.int .i64 e.id.n,.int .i64 e.attr.kind,.string e.attr.text,.int .i64 e.attr.n,.int .i64 e.value.kind,.string e.value.text,.int .i64 e.value.n,.bool e.acc,.bool e.goal,.int .i64 e.tag],.slice A l.length c] w (Z76 (Z9x (.mk 1 e.goal nm at_ vs e.acc []) e l) w):=by
 have H0:=hid h;have H1:=hid h1;have H2:=hid h2;have HL:=hid hl;have HR1:=hid hr1;have HR2:=hid hr2;have k1:=h1.cap;have k2:=h2.cap
 have HC:=hid (show Z9x (.mk 1 e.goal nm at_ vs e.acc []) e l=(match oneR ⟨1,nm,symZ,[]⟩ e.id l with | none=>none | some m=>match Z28 at_ e.attr m with | none=>none | some m2=>Z28 vs e.value m2) by
  unfold Z9x;rw [if_neg]
  · rfl
  · show ¬(((1:Int)≠1∧(1:Int)≠2)∨(e.goal=true∧e.goal=false)∨e.acc≠e.acc)
    simp)
 obtain ⟨r,hr⟩ : ∃r,r=Z9x (.mk 1 e.goal nm at_ vs e.acc []) e l:=⟨_,rfl⟩;rw [← hr] at HC ⊢;obtain ⟨r1,hq1⟩ : ∃r,r=oneR ⟨1,nm,symZ,[]⟩ e.id l:=⟨_,rfl⟩;have HON:=hid (show ∀W,Below w.heap.size w W→Calls Tryz.prog 68 #[.agg #[.int .i64 1,.string nm,.int .i64 0,.string ⟨#[]⟩,.int .i64 0,.slice none 0 0],.agg #[.int .i64 e.id.kind,.string e.id.text,.int .i64 e.id.n],.slice A l.length c] W (Z76 r1 W) from fun W hW=>by rw [hq1];exact Ze8 ⟨1,nm,symZ,[]⟩ none 0 0 e.id A c l W (h.new_ hW) (by omega) ⟨by show (1:Int)≤1;omega,by show (1:Int)≤7;omega⟩);have HM1:=hid (show ∀k,r1=some k→k.length≤l.length+1 from fun k hk=>Z82 (hq1.symm.trans hk));rw [← hq1] at HC;(have b1:(e.acc != e.acc)=false:=by simp);(have b2:(e.acc == e.acc)=true:=by simp);(have b3:decide (e.acc=e.acc)=true:=by simp);clear h h1 h2 hl hr1 hr2 hr hq1;go_enter Tryz.func23,Tryz.ntmps23;(go_upto_region 1 with fail);obtain ⟨w1,hw1⟩ : ∃w1,w1=((w.alloc (.cells #[.int .i64 1,.bool e.goal,.string nm,.slice A1 at_.length c1,.slice A2 vs.length c2,.bool e.acc,.slice A3 n3 c3] 62)).alloc (.cells #[.int .i64 e.id.kind,.string e.id.text,.int .i64 e.id.n,.int .i64 e.attr.kind,.string e.attr.text,.int .i64 e.attr.n,.int .i64 e.value.kind,.string e.value.text,.int .i64 e.value.n,.bool e.acc,.bool e.goal,.int .i64 e.tag] 55)):=⟨_,rfl⟩;rw [← hw1];have HB:=hid (show Below w.heap.size w w1 by rw [hw1];exact (by repeat (first | exact Zi2 _ _ | refine Below.drew ?_ | refine Below.al ?_ _ | refine Below.sc ?_ _)));have Kc:=hid (show Blk w1 (w.heap.size) 62 #[.int .i64 1,.bool e.goal,.string nm,.slice A1 at_.length c1,.slice A2 vs.length c2,.bool e.acc,.slice A3 n3 c3] by rw [hw1];exact ((Blk.new w 62 #[.int .i64 1,.bool e.goal,.string nm,.slice A1 at_.length c1,.slice A2 vs.length c2,.bool e.acc,.slice A3 n3 c3]).alloc (.cells #[.int .i64 e.id.kind,.string e.id.text,.int .i64 e.id.n,.int .i64 e.attr.kind,.string e.attr.text,.int .i64 e.attr.n,.int .i64 e.value.kind,.string e.value.text,.int .i64 e.value.n,.bool e.acc,.bool e.goal,.int .i64 e.tag] 55)));have Ke:=hid (show Blk w1 (w.heap.size+1) 55 #[.int .i64 e.id.kind,.string e.id.text,.int .i64 e.id.n,.int .i64 e.attr.kind,.string e.attr.text,.int .i64 e.attr.n,.int .i64 e.value.kind,.string e.value.text,.int .i64 e.value.n,.bool e.acc,.bool e.goal,.int .i64 e.tag] by rw [hw1];have hh:=(Blk.new (w.alloc (.cells #[.int .i64 1,.bool e.goal,.string nm,.slice A1 at_.length c1,.slice A2 vs.length c2,.bool e.acc,.slice A3 n3 c3] 62)) 55 #[.int .i64 e.id.kind,.string e.id.text,.int .i64 e.id.n,.int .i64 e.attr.kind,.string e.attr.text,.int .i64 e.attr.n,.int .i64 e.value.kind,.string e.value.text,.int .i64 e.value.n,.bool e.acc,.bool e.goal,.int .i64 e.tag]);simp only [Zid] at hh;exact hh);clear hw1;obtain ⟨c0,c1,c2,c3,c4,c5,c6⟩:=Kc.out.c7;have cz:=Kc.out.lt;obtain ⟨e0,e1,e2,e3,e4,e5,e6,e7,e8,e9,e10,e11⟩:=Ke.out.c12;have ez:=Ke.out.lt;clear c0 c1 c2 c3 c4 c5 c6 cz e0 e1 e2 e3 e4 e5 e6 e7 e8 e9 e10 e11 ez;obtain ⟨eg,heg⟩ : ∃b,b=e.goal:=⟨_,rfl⟩;rw [← heg] at Kc Ke ⊢;clear heg;cases eg
 all_goals
  skip
  obtain ⟨x0,x1,x2,x3,x4,x5,x6⟩:=Kc.out.c7;obtain ⟨y0,y1,y2,y3,y4,y5,y6,y7,y8,y9,y10,y11⟩:=Ke.out.c12;have xz:=Kc.out.lt;have yz:=Ke.out.lt
  cases r1 with
  | none=>
    (go_wp2_with fail);refine (HON.out _ HB.out).mono ?_;rintro e w6 ⟨hb,rfl⟩;clear x0 x1 x2 x3 x4 x5 x6 y0 y1 y2 y3 y4 y5 y6 y7 y8 y9 y10 y11 xz yz;have Kc:=hid (Kc.out.new_ hb);have Ke:=hid (Ke.out.new_ hb);have HB:=hid (HB.out.trans (hb.mono HB.out.size));clear hb;(go_wp2_with fail);exact bodyPost_ret (v:=.tuple #[.slice none 0 0,.bool false]) (by simp [results,Tryz.results23,go_sem, *]) rfl (by rw [HC.out];exact ⟨HB.out,rfl⟩)
  | some m_r1=>
    (go_wp2_with fail);refine (HON.out _ HB.out).mono ?_;rintro e w7 ⟨hb,Am_r1,cm_r1,rfl,hrm⟩;have HRM:=hid hrm;clear x0 x1 x2 x3 x4 x5 x6 y0 y1 y2 y3 y4 y5 y6 y7 y8 y9 y10 y11 xz yz hrm;have Kc:=hid (Kc.out.new_ hb);have Ke:=hid (Ke.out.new_ hb);have HB:=hid (HB.out.trans (hb.mono HB.out.size));clear hb;have hml:m_r1.length≤l.length+1:=HM1.out _ rfl;obtain ⟨r2,hq2⟩ : ∃r,r=Z28 at_ e.attr m_r1:=⟨_,rfl⟩;have HC:=hid (show r=(match Z28 at_ e.attr m_r1 with | none=>none | some m2=>Z28 vs e.value m2) from HC.out);rw [← hq2] at HC;have HM2:=hid (show ∀k,r2=some k→k.length≤m_r1.length+at_.length from fun k hk=>Z7m (hq2.symm.trans hk));have HTS:=hid (Z9d at_ A1 c1 e.attr Am_r1 cm_r1 m_r1 _ (H1.out.new_ HB.out) HRM.out (by have:=HL.out;omega) HR1.out);rw [← hq2] at HTS;clear hq2;obtain ⟨x0,x1,x2,x3,x4,x5,x6⟩:=Kc.out.c7;obtain ⟨y0,y1,y2,y3,y4,y5,y6,y7,y8,y9,y10,y11⟩:=Ke.out.c12;have xz:=Kc.out.lt;have yz:=Ke.out.lt
    cases r2 with
    | none=>
      (go_wp2_with fail);refine (HTS.out).mono ?_;rintro e w6 ⟨hb,rfl⟩;clear x0 x1 x2 x3 x4 x5 x6 y0 y1 y2 y3 y4 y5 y6 y7 y8 y9 y10 y11 xz yz;have Kc:=hid (Kc.out.new_ hb);have Ke:=hid (Ke.out.new_ hb);have HB:=hid (HB.out.trans (hb.mono HB.out.size));clear hb;(go_wp2_with fail);exact bodyPost_ret (v:=.tuple #[.slice none 0 0,.bool false]) (by simp [results,Tryz.results23,go_sem, *]) rfl (by rw [HC.out];exact ⟨HB.out,rfl⟩)
    | some m_r2=>
      (go_wp2_with fail);refine (HTS.out).mono ?_;rintro e w7 ⟨hb,Am_r2,cm_r2,rfl,hrm⟩;have HRM:=hid hrm;clear x0 x1 x2 x3 x4 x5 x6 y0 y1 y2 y3 y4 y5 y6 y7 y8 y9 y10 y11 xz yz hrm;have Kc:=hid (Kc.out.new_ hb);have Ke:=hid (Ke.out.new_ hb);have HB:=hid (HB.out.trans (hb.mono HB.out.size));clear hb;have hml2:m_r2.length≤m_r1.length+at_.length:=HM2.out _ rfl;have HC:=hid (show r=Z28 vs e.value m_r2 from HC.out);have HTS:=hid (Z9d vs A2 c2 e.value Am_r2 cm_r2 m_r2 _ (H2.out.new_ HB.out) HRM.out (by have:=HL.out;omega) HR2.out);rw [← HC.out] at HTS;obtain ⟨x0,x1,x2,x3,x4,x5,x6⟩:=Kc.out.c7;obtain ⟨y0,y1,y2,y3,y4,y5,y6,y7,y8,y9,y10,y11⟩:=Ke.out.c12;have xz:=Kc.out.lt;have yz:=Ke.out.lt;(go_wp2_with fail);refine HTS.out.mono ?_;rintro e w8 ⟨hb,hp⟩;clear x0 x1 x2 x3 x4 x5 x6 y0 y1 y2 y3 y4 y5 y6 y7 y8 y9 y10 y11 xz yz;have HB:=hid (HB.out.trans (hb.mono HB.out.size))
      cases r with
      | none=>
        obtain rfl:=hp;clear hb;(go_wp2_with fail);exact bodyPost_ret (v:=.tuple #[.slice none 0 0,.bool false]) (by simp [results,Tryz.results23,go_sem, *]) rfl ⟨HB.out,rfl⟩
      | some m3=>
        obtain ⟨A9,c9,rfl,hrm⟩:=hp;have HRM:=hid hrm;clear hb hrm;(go_wp2_with fail);exact bodyPost_ret (v:=.tuple #[.slice A9 m3.length c9,.bool true]) (by simp [results,Tryz.results23,go_sem, *]) rfl ⟨HB.out,A9,c9,rfl,HRM.out⟩
theorem Z5o {α:Type} {l:List α} {i:Nat} (h:i<l.length):l.take (i+1)=l.take i ++ [l[i]]:=by rw [Zj9,Zic h];rfl
theorem Zaj {X:World} {nb mb:Nat} {ns:List Sym} {es:List Elem} {AO:Option Addr} {cO:Nat} {vcs:List VCo} {AC:Option Addr} {cC:Nat} {D:Nat→Prop} (s:Sym) (w:World) (h:CS X nb mb ns es AO cO vcs AC cC D w):Calls Tryz.prog 108 #[.pointer (some ⟨mb,0,none⟩),.agg #[.int .i64 s.kind,.string s.text,.int .i64 s.n]] w fun e w'=>e = .returned (.bool (Z3s es s))∧Below w.heap.size w w':=by
 have H:=hid h;have hlc:=(Z08 Elem.cells_length h.eo).cap;obtain ⟨m0,m1,m2⟩:=h.mkb.c3;have mz:=h.mkb.lt;clear h;go_enter Tryz.func108,Tryz.ntmps108;(go_upto_region 2 with fail);clear m0 m1 m2 mz;obtain ⟨W1,hW1⟩ : ∃W,W=w.alloc (.cells #[.int .i64 s.kind,.string s.text,.int .i64 s.n] 23):=⟨_,rfl⟩;obtain ⟨b3,hb3⟩ : ∃b,b=w.heap.size:=⟨_,rfl⟩;have K3:=hid (show Blk W1 b3 23 #[.int .i64 s.kind,.string s.text,.int .i64 s.n] by rw [hW1,hb3];exact Blk.new _ _ _);have HB:=hid (show Below w.heap.size w W1 by rw [hW1];exact (Zi2 _ _).alloc (Zi3 _) _);rw [← hW1,← hb3];clear hW1 hb3
 go_loopw [12] (fun v wr=>∃i:Nat,v = .int .i64 (i:Int)∧i≤es.length∧Z3s (es.take i) s=false∧Below W1.heap.size W1 wr) (fun v wr=>es.length - (intOf v).toNat)
 case atStart=>exact ⟨0,rfl,Nat.zero_le _,by simp [Z3s],Zi2 _ _⟩
 case round=>
  obtain ⟨i,rfl,hi,hno,hbw⟩:=hrel;have HNO:=hid hno;have HBW:=hid hbw;have HBA:=hid (HB.out.trans (hbw.mono HB.out.size));clear hno hbw;by_cases hlt:i<es.length
  · obtain ⟨y,hy⟩ : ∃y,y=es[i]:=⟨_,rfl⟩
    obtain ⟨g,off,hAA,hgl,hrg⟩:=(Z08 Elem.cells_length (H.out.new_ HBA.out).eo).range hlt;rw [← hy] at hrg;subst hAA;have HTK:=hid (show Z3s (es.take (i+1)) s=decide (y.id=s) by rw [Z5o hlt,← hy,Z3s,List.any_append,show ((es.take i).any fun e=>decide (e.id=s))=false from HNO.out];simp);have HIN:=hid (show y∈es by rw [hy];exact Zin hlt);have HRG:=hid (show wr.rangeAt g (off+i*12) [.int .i64 y.id.kind,.string y.id.text,.int .i64 y.id.n,.int .i64 y.attr.kind,.string y.attr.text,.int .i64 y.attr.n,.int .i64 y.value.kind,.string y.value.text,.int .i64 y.value.n,.bool y.acc,.bool y.goal,.int .i64 y.tag] from hrg);obtain ⟨W5,hW5,hth,hrg5,hb5,hz5⟩:=Z4g (w:=wr) (t:=55) [.int .i64 0,.string ⟨#[]⟩,.int .i64 0,.int .i64 0,.string ⟨#[]⟩,.int .i64 0,.int .i64 0,.string ⟨#[]⟩,.int .i64 0,.bool false,.bool false,.int .i64 0] [.int .i64 y.id.kind,.string y.id.text,.int .i64 y.id.n,.int .i64 y.attr.kind,.string y.attr.text,.int .i64 y.attr.n,.int .i64 y.value.kind,.string y.value.text,.int .i64 y.value.n,.bool y.acc,.bool y.goal,.int .i64 y.tag] rfl;have HW5:=hid hW5;have HTH:=hid hth;have HBW5:=hid (HBW.out.trans (hb5.mono HBW.out.size));have HBA5:=hid (HBA.out.trans (hb5.mono HBA.out.size));have q0:W5.cell? ⟨wr.heap.size,0,none⟩=some (.int .i64 y.id.kind):=hrg5 0 _ rfl;have q1:W5.cell? ⟨wr.heap.size,1,none⟩=some (.string y.id.text):=hrg5 1 _ rfl;have q2:W5.cell? ⟨wr.heap.size,2,none⟩=some (.int .i64 y.id.n):=hrg5 2 _ rfl;(have qz:wr.heap.size<W5.heap.size:=by omega);obtain ⟨s0,s1,s2⟩:=(K3.out.new_ HBW5.out).c3;have sz:=(K3.out.new_ HBW5.out).lt;(have j1:(0:Int)≤(i:Int):=by omega);(have j2:(i:Int)<(es.length:Int):=by omega);have v1:IntKind.i64.wrap ((i:Int)+1)=(i:Int)+1:=Zih _ (by omega);have heq:=Z2y y.id s;clear hW5 hth hrg5 hb5 hz5 hrg hy;by_cases he:y.id=s
    · have t1:decide (y.id=s)=true:=by simpa using he
      rw [t1] at heq HTK;have HE:=hid (show Z3s es s=true from Zj2.2 ⟨y,HIN.out,by simpa using he⟩);clear he t1
      go_wp2_with (first
       | (with_reducible refine wpList_load_mid rfl 55 _ rfl g (off+i*12) rfl _ _ HRG.out Tryz.underlying55 rfl (by kernel_rfl) ?_)
       | ((with_reducible refine wpList_store_mid rfl 55 _ _ rfl wr.heap.size 0 #[.int .i64 y.id.kind,.string y.id.text,.int .i64 y.id.n,.int .i64 y.attr.kind,.string y.attr.text,.int .i64 y.attr.n,.int .i64 y.value.kind,.string y.value.text,.int .i64 y.value.n,.bool y.acc,.bool y.goal,.int .i64 y.tag] rfl rfl HTH.out (by kernel_rfl) (by kernel_rfl) ?_);rw [← HW5.out]))
      go_ret;exact ⟨by rw [HE.out];rfl,HBA5.out⟩
    · have t1:decide (y.id=s)=false:=by simpa using he
      rw [t1] at heq HTK;clear he t1
      go_wp2_with (first
       | (with_reducible refine wpList_load_mid rfl 55 _ rfl g (off+i*12) rfl _ _ HRG.out Tryz.underlying55 rfl (by kernel_rfl) ?_)
       | ((with_reducible refine wpList_store_mid rfl 55 _ _ rfl wr.heap.size 0 #[.int .i64 y.id.kind,.string y.id.text,.int .i64 y.id.n,.int .i64 y.attr.kind,.string y.attr.text,.int .i64 y.attr.n,.int .i64 y.value.kind,.string y.value.text,.int .i64 y.value.n,.bool y.acc,.bool y.goal,.int .i64 y.tag] rfl rfl HTH.out (by kernel_rfl) (by kernel_rfl) ?_);rw [← HW5.out]))
      go_roundw
      case rel=>exact ⟨i+1,by go_num,by omega,HTK.out,HBW5.out⟩
      case measure=>simp [intOf]<;>omega
  · obtain rfl:i=es.length:=by omega
    (have jz : ¬(es.length:Int)<(es.length:Int):=by omega);have HNO:=hid (show Z3s es s=false by have:=HNO.out;rwa [Zis] at this);(go_wp2_with fail);go_ret;exact ⟨by rw [HNO.out];rfl,HBA.out⟩
theorem Zgk {X:World} {nb mb:Nat} {ns:List Sym} {es:List Elem} {AO:Option Addr} {cO:Nat} {vcs:List VCo} {AC:Option Addr} {cC:Nat} {D:Nat→Prop} (k:Nat) (s:Sym) (w:World) (h:CS X nb mb ns es AO cO vcs AC cC D w) (hk:k<es.length) (hel:es.length≤1000):Calls Tryz.prog 148 #[.pointer (some ⟨mb,0,none⟩),.int .i64 (k:Int),.agg #[.int .i64 s.kind,.string s.text,.int .i64 s.n]] w fun e w'=>e = .returned (.bool (metV es k s))∧Below w.heap.size w w':=by
 have H:=hid h;have HK:=hid hk;clear h;go_enter Tryz.func148,Tryz.ntmps148;(go_upto_region 2 with fail);obtain ⟨W1,hW1⟩ : ∃W,W=w.alloc (.cells #[.int .i64 s.kind,.string s.text,.int .i64 s.n] 23):=⟨_,rfl⟩;obtain ⟨b3,hb3⟩ : ∃b,b=w.heap.size:=⟨_,rfl⟩;have K3:=hid (show Blk W1 b3 23 #[.int .i64 s.kind,.string s.text,.int .i64 s.n] by rw [hW1,hb3];exact Blk.new _ _ _);have HB:=hid (show Below w.heap.size w W1 by rw [hW1];exact (Zi2 _ _).alloc (Zi3 _) _);rw [← hW1,← hb3];clear hW1 hb3
 go_loopw [7] (fun v wr=>∃i:Nat,v = .int .i64 (i:Int)∧i≤k+1∧((es.take i).any fun e=>decide (e.id=s) || decide (e.value=s))=false∧Below W1.heap.size W1 wr) (fun v wr=>k+1 - (intOf v).toNat)
 case atStart=>exact ⟨0,rfl,Nat.zero_le _,by simp,Zi2 _ _⟩
 case round=>
  obtain ⟨i,rfl,hi,hno,hbw⟩:=hrel;have HNO:=hid hno;have HBW:=hid hbw;have HBA:=hid (HB.out.trans (hbw.mono HB.out.size));clear hno hbw;by_cases hlt:i≤k
  · have hlt2:i<es.length:=by omega
    obtain ⟨y,hy⟩ : ∃y,y=es[i]:=⟨_,rfl⟩;have HC:=hid (H.out.new_ HBA.out);obtain ⟨m0,m1,m2⟩:=HC.out.mkb.c3;have mz:=HC.out.mkb.lt;obtain ⟨g,off,hAA,hgl,hcell⟩:=(Z08 Elem.cells_length HC.out.eo).at_ hlt2;rw [← hy] at hcell;subst hAA;have HTK:=hid (show ((es.take (i+1)).any fun e=>decide (e.id=s) || decide (e.value=s))=(decide (y.id=s) || decide (y.value=s)) by rw [Z5o hlt2,← hy,List.any_append,HNO.out];simp);have HIK:=hid (show (decide (y.id=s) || decide (y.value=s))=true→metV es k s=true from fun h=>Zj2.2 ⟨y,by rw [hy];exact List.mem_iff_getElem.2 ⟨i,by rw [Zj4];omega,by rw [List.getElem_take]⟩,h⟩);(have q0:wr.cell? ⟨g,off+i*12,none⟩=some (.int .i64 y.id.kind):=by simpa using hcell 0 _ rfl);(have q1:wr.cell? ⟨g,off+i*12+1,none⟩=some (.string y.id.text):=by simpa using hcell 1 _ rfl);(have q2:wr.cell? ⟨g,off+i*12+2,none⟩=some (.int .i64 y.id.n):=by simpa using hcell 2 _ rfl);(have q6:wr.cell? ⟨g,off+i*12+6,none⟩=some (.int .i64 y.value.kind):=by simpa using hcell 6 _ rfl);(have q7:wr.cell? ⟨g,off+i*12+7,none⟩=some (.string y.value.text):=by simpa using hcell 7 _ rfl);(have q8:wr.cell? ⟨g,off+i*12+8,none⟩=some (.int .i64 y.value.n):=by simpa using hcell 8 _ rfl);obtain ⟨s0,s1,s2⟩:=(K3.out.new_ HBW.out).c3;have sz:=(K3.out.new_ HBW.out).lt;(have j0:(i:Int)≤(k:Int):=by omega);(have j1:(0:Int)≤(i:Int):=by omega);(have j2:(i:Int)<(es.length:Int):=by omega);have v1:IntKind.i64.wrap ((i:Int)+1)=(i:Int)+1:=Zih _ (by omega);have heq1:=Z2y y.id s;have heq2:=Z2y y.value s;clear hcell hy;cases d1:decide (y.id=s)<;>cases d2:decide (y.value=s)
    all_goals
     rw [d1] at heq1 HTK HIK;rw [d2] at heq2 HTK HIK;clear d1 d2;(go_wp2_with fail);go_quiet (fail);have HB2:=hid (Below.drewN' HBA.out nq);have HB3:=hid (Below.drewN' HBW.out nq);clear q0 q1 q2 q6 q7 q8 m0 m1 m2 mz s0 s1 s2 sz;go_wp2_with fail
     first
      | (go_ret;exact ⟨by rw [HIK.out rfl];rfl,HB2.out⟩)
      | (go_roundw
         case rel=>exact ⟨i+1,by go_num,by omega,HTK.out,HB3.out⟩
         case measure=>simp [intOf]<;>omega)
  · obtain rfl:i=k+1:=by omega
    (have jz : ¬((k+1:Nat):Int)≤(k:Int):=by omega);(have jz2 : ¬(k:Int)+1≤(k:Int):=by omega);(go_wp2_with fail);go_ret;exact ⟨by rw [metV,HNO.out];rfl,HBA.out⟩
theorem Zdl {X:World} {nb mb:Nat} {ns:List Sym} {es:List Elem} {AO:Option Addr} {cO:Nat} {vcs:List VCo} {AC:Option Addr} {cC:Nat} {D:Nat→Prop} (s:Sym) (w:World) (h:CS X nb mb ns es AO cO vcs AC cC D w) (hl:ns.length≤1000):Calls Tryz.prog 107 #[.pointer (some ⟨mb,0,none⟩),.agg #[.int .i64 s.kind,.string s.text,.int .i64 s.n]] w fun e w'=>e = .returned (.bool (Z45 ns s))∧Below w.heap.size w w':=by
 have HP:=hid (fun W (hW:Below w.heap.size w W)=>Z2m s W (h.nm.new_ hW) (by omega));have H:=hid h;have HLV:=hid (show Z45 ns s=(decide (s.kind=1) && decide (plV ns s=0)) from rfl);obtain ⟨r,hr⟩ : ∃r,r=plV ns s:=⟨_,rfl⟩;rw [← hr] at HP HLV;clear h hl hr;go_enter Tryz.func107,Tryz.ntmps107;(go_upto_region 1 with fail);obtain ⟨w1,hw1⟩ : ∃w1,w1=(w.alloc (.cells #[.int .i64 s.kind,.string s.text,.int .i64 s.n] 23)):=⟨_,rfl⟩;rw [← hw1];have HB:=hid (show Below w.heap.size w w1 by rw [hw1];exact (by repeat (first | exact Zi2 _ _ | refine Below.drew ?_ | refine Below.al ?_ _ | refine Below.sc ?_ _)));have Kk:=hid (show Blk w1 (w.heap.size) 23 #[.int .i64 s.kind,.string s.text,.int .i64 s.n] by rw [hw1];exact (Blk.new w 23 #[.int .i64 s.kind,.string s.text,.int .i64 s.n]));clear hw1;obtain ⟨k0,k1,k2⟩:=Kk.out.c3;have kz:=Kk.out.lt;obtain ⟨m0,m1,m2⟩:=(H.out.new_ HB.out).mkb.c3;have mz:=(H.out.new_ HB.out).mkb.lt;by_cases h1:s.kind=1
 case neg=>
  (have e1:(s.kind == 1)=false:=by simp [h1]);(have e2:decide (s.kind=1)=false:=by simp [h1]);rw [e2] at HLV;refine Z05 (fun w9=>Below w1.heap.size w1 w9) [(0,0),(1,1),(2,0),(3,0),(4,0),(5,0),(6,0),(7,1),(8,1),(9,2),(10,0),(11,0),(12,0)] (by kernel_rfl) (by kernel_rfl) (fun KK hKK=>?_);simp only [Z02,Zib,Zi5,Zi9,Zi8,Zi7,Zif];(repeat ((first | (refine Z0a ?_ (Or.inl ⟨by rfl,fun w9=>?_⟩) ?_;rotate_left 1;go_simp;with_reducible rfl) | (refine Z06 ?_ (((Zi2 _ _).drew)) (Or.inl ⟨by rfl,fun w9 hw9=>?_⟩) ?_;rotate_left 1;obtain ⟨hc9,hf9⟩:=Z0e hw9;go_simp;with_reducible rfl) | refine Z0a undef (Or.inr ⟨by rfl,rfl⟩) ?_ | refine Z06 undef (((Zi2 _ _).drew)) (Or.inr ⟨by rfl,rfl⟩) ?_);go_frame));refine Z1f (fun K9 hK9=>?_);go_simp;refine hK9 _ _ (((Zi2 _ _).drew)) ?_;clear hK9 K9;(repeat ((first | (refine Z0a ?_ (Or.inl ⟨by rfl,fun w9=>?_⟩) ?_;rotate_left 1;go_simp;with_reducible rfl) | (refine Z06 ?_ (((Zi2 _ _).drew)) (Or.inl ⟨by rfl,fun w9 hw9=>?_⟩) ?_;rotate_left 1;obtain ⟨hc9,hf9⟩:=Z0e hw9;go_simp;with_reducible rfl) | refine Z0a undef (Or.inr ⟨by rfl,rfl⟩) ?_ | refine Z06 undef (((Zi2 _ _).drew)) (Or.inr ⟨by rfl,rfl⟩) ?_);go_frame));refine Z0z ?_;simp only [Z00];refine hKK _ _ ?_;clear hKK KK;(go_wp2_with fail);go_ret;exact ⟨by rw [HLV.out];rfl,HB.out.drew⟩
 (have e1:(s.kind == 1)=true:=by simp [h1]);(have e2:decide (s.kind=1)=true:=by simp [h1]);rw [e2] at HLV;have HS1:=hid h1;clear h1;refine Z05 (fun w9=>Below w1.heap.size w1 w9) [(0,0),(1,1),(2,0),(3,0),(4,0),(5,0),(6,0),(7,1),(8,1),(9,2),(10,0),(11,0),(12,0)] (by kernel_rfl) (by kernel_rfl) (fun KK hKK=>?_);simp only [Z02,Zib,Zi5,Zi9,Zi8,Zi7,Zif];(repeat ((first | (refine Z0a ?_ (Or.inl ⟨by rfl,fun w9=>?_⟩) ?_;rotate_left 1;go_simp;with_reducible rfl) | (refine Z06 ?_ (((Zi2 _ _).drew)) (Or.inl ⟨by rfl,fun w9 hw9=>?_⟩) ?_;rotate_left 1;obtain ⟨hc9,hf9⟩:=Z0e hw9;go_simp;with_reducible rfl) | refine Z0a undef (Or.inr ⟨by rfl,rfl⟩) ?_ | refine Z06 undef (((Zi2 _ _).drew)) (Or.inr ⟨by rfl,rfl⟩) ?_);go_frame));refine Z1f (fun K9 hK9=>?_);go_simp;refine (HP.out _ (HB.out.trans (((Zi2 w1.heap.size w1).drew).mono HB.out.size))).mono ?_;rintro e w5 ⟨rfl,hb5⟩;have HB5:=hid (((Zi2 w1.heap.size w1).drew).trans (hb5.mono (by simp)));clear hb5;refine hK9 _ _ HB5.out ?_;clear hK9 K9;(repeat ((first | (refine Z0a ?_ (Or.inl ⟨by rfl,fun w9=>?_⟩) ?_;rotate_left 1;go_simp;with_reducible rfl) | (refine Z06 ?_ (HB5.out) (Or.inl ⟨by rfl,fun w9 hw9=>?_⟩) ?_;rotate_left 1;obtain ⟨hc9,hf9⟩:=Z0e hw9;go_simp;with_reducible rfl) | refine Z0a undef (Or.inr ⟨by rfl,rfl⟩) ?_ | refine Z06 undef (HB5.out) (Or.inr ⟨by rfl,rfl⟩) ?_);go_frame));refine Z0z ?_;simp only [Z00];refine hKK _ _ ?_;clear hKK KK;have HBE:=hid (HB.out.trans (HB5.out.mono HB.out.size));clear k0 k1 k2 kz m0 m1 m2 mz;(go_wp2_with fail);go_ret;refine ⟨?_,HBE.out⟩;rw [HLV.out];by_cases hr:r=0
 · subst hr;rfl
 · have e5:((r:Int) == 0)=false:=by simp;omega
   (have e6:decide ((r:Int)=0)=false:=by simp;omega);simp [hr,e5,e6]
theorem Zb4 {X:World} {nb mb:Nat} {ns:List Sym} {es:List Elem} {AO:Option Addr} {cO:Nat} {vcs:List VCo} {AC:Option Addr} {cC:Nat} {D:Nat→Prop} (s:Sym) (w:World) (h:CS X nb mb ns es AO cO vcs AC cC D w) (hl:ns.length≤1000):Calls Tryz.prog 106 #[.pointer (some ⟨mb,0,none⟩),.agg #[.int .i64 s.kind,.string s.text,.int .i64 s.n]] w fun e w'=>e = .returned (.bool (Z42 ns es s))∧Below w.heap.size w w':=by
 have HP:=hid (fun W (hW:Below w.heap.size w W)=>Z2m s W (h.nm.new_ hW) (by omega));have HS:=hid (fun W (hW:Below w.heap.size w W)=>Zaj s W (h.new_ hW));have H:=hid h;have HLV:=hid (show Z42 ns es s=(decide (s.kind=1) && (!decide (plV ns s=0) && !Z3s es s)) from rfl);obtain ⟨r,hr⟩ : ∃r,r=plV ns s:=⟨_,rfl⟩;obtain ⟨u,hu⟩ : ∃u,u=Z3s es s:=⟨_,rfl⟩;rw [← hr] at HP HLV;rw [← hu] at HS HLV;clear h hl hr hu;go_enter Tryz.func106,Tryz.ntmps106;(go_upto_region 1 with fail);obtain ⟨w1,hw1⟩ : ∃w1,w1=(w.alloc (.cells #[.int .i64 s.kind,.string s.text,.int .i64 s.n] 23)):=⟨_,rfl⟩;rw [← hw1];have HB:=hid (show Below w.heap.size w w1 by rw [hw1];exact (by repeat (first | exact Zi2 _ _ | refine Below.drew ?_ | refine Below.al ?_ _ | refine Below.sc ?_ _)));have Kk:=hid (show Blk w1 (w.heap.size) 23 #[.int .i64 s.kind,.string s.text,.int .i64 s.n] by rw [hw1];exact (Blk.new w 23 #[.int .i64 s.kind,.string s.text,.int .i64 s.n]));clear hw1;obtain ⟨k0,k1,k2⟩:=Kk.out.c3;have kz:=Kk.out.lt;obtain ⟨m0,m1,m2⟩:=(H.out.new_ HB.out).mkb.c3;have mz:=(H.out.new_ HB.out).mkb.lt;by_cases h1:s.kind=1
 case neg=>
  (have e1:(s.kind == 1)=false:=by simp [h1]);(have e2:decide (s.kind=1)=false:=by simp [h1]);rw [e2] at HLV;refine Z05 (fun w9=>Below w1.heap.size w1 w9) [(0,0),(1,1),(2,0),(3,0),(4,0),(5,0),(6,0),(7,1),(8,1),(9,2),(10,0),(11,0),(12,0),(13,0),(14,1),(15,2),(16,0),(17,0),(18,0)] (by kernel_rfl) (by kernel_rfl) (fun KK hKK=>?_);simp only [Z02,Zib,Zi5,Zi9,Zi8,Zi7,Zif];(repeat ((first | (refine Z0a ?_ (Or.inl ⟨by rfl,fun w9=>?_⟩) ?_;rotate_left 1;go_simp;with_reducible rfl) | (refine Z06 ?_ (((Zi2 _ _).drew)) (Or.inl ⟨by rfl,fun w9 hw9=>?_⟩) ?_;rotate_left 1;obtain ⟨hc9,hf9⟩:=Z0e hw9;go_simp;with_reducible rfl) | refine Z0a undef (Or.inr ⟨by rfl,rfl⟩) ?_ | refine Z06 undef (((Zi2 _ _).drew)) (Or.inr ⟨by rfl,rfl⟩) ?_);go_frame));refine Z1f (fun K9 hK9=>?_);go_simp;refine hK9 _ _ (((Zi2 _ _).drew)) ?_;clear hK9 K9;(repeat ((first | (refine Z0a ?_ (Or.inl ⟨by rfl,fun w9=>?_⟩) ?_;rotate_left 1;go_simp;with_reducible rfl) | (refine Z06 ?_ (((Zi2 _ _).drew)) (Or.inl ⟨by rfl,fun w9 hw9=>?_⟩) ?_;rotate_left 1;obtain ⟨hc9,hf9⟩:=Z0e hw9;go_simp;with_reducible rfl) | refine Z0a undef (Or.inr ⟨by rfl,rfl⟩) ?_ | refine Z06 undef (((Zi2 _ _).drew)) (Or.inr ⟨by rfl,rfl⟩) ?_);go_frame));refine Z1f (fun K9 hK9=>?_);go_simp;refine hK9 _ _ (((Zi2 _ _).drew)) ?_;clear hK9 K9;(repeat ((first | (refine Z0a ?_ (Or.inl ⟨by rfl,fun w9=>?_⟩) ?_;rotate_left 1;go_simp;with_reducible rfl) | (refine Z06 ?_ (((Zi2 _ _).drew)) (Or.inl ⟨by rfl,fun w9 hw9=>?_⟩) ?_;rotate_left 1;obtain ⟨hc9,hf9⟩:=Z0e hw9;go_simp;with_reducible rfl) | refine Z0a undef (Or.inr ⟨by rfl,rfl⟩) ?_ | refine Z06 undef (((Zi2 _ _).drew)) (Or.inr ⟨by rfl,rfl⟩) ?_);go_frame));refine Z0z ?_;simp only [Z00];refine hKK _ _ ?_;clear hKK KK;(go_wp2_with fail);go_ret;exact ⟨by rw [HLV.out];rfl,HB.out.drew⟩
 (have e1:(s.kind == 1)=true:=by simp [h1]);(have e2:decide (s.kind=1)=true:=by simp [h1]);rw [e2] at HLV;have HS1:=hid h1;clear h1;by_cases hr:r=0
 case pos=>
  subst hr;refine Z05 (fun w9=>Below w1.heap.size w1 w9) [(0,0),(1,1),(2,0),(3,0),(4,0),(5,0),(6,0),(7,1),(8,1),(9,2),(10,0),(11,0),(12,0),(13,0),(14,1),(15,2),(16,0),(17,0),(18,0)] (by kernel_rfl) (by kernel_rfl) (fun KK hKK=>?_);simp only [Z02,Zib,Zi5,Zi9,Zi8,Zi7,Zif];(repeat ((first | (refine Z0a ?_ (Or.inl ⟨by rfl,fun w9=>?_⟩) ?_;rotate_left 1;go_simp;with_reducible rfl) | (refine Z06 ?_ (((Zi2 _ _).drew)) (Or.inl ⟨by rfl,fun w9 hw9=>?_⟩) ?_;rotate_left 1;obtain ⟨hc9,hf9⟩:=Z0e hw9;go_simp;with_reducible rfl) | refine Z0a undef (Or.inr ⟨by rfl,rfl⟩) ?_ | refine Z06 undef (((Zi2 _ _).drew)) (Or.inr ⟨by rfl,rfl⟩) ?_);go_frame));refine Z1f (fun K9 hK9=>?_);go_simp;refine (HP.out _ (HB.out.trans (((Zi2 w1.heap.size w1).drew).mono HB.out.size))).mono ?_;rintro e w5 ⟨rfl,hb5⟩;have HB5:=hid (((Zi2 w1.heap.size w1).drew).trans (hb5.mono (by simp)));clear hb5;refine hK9 _ _ HB5.out ?_;clear hK9 K9;(repeat ((first | (refine Z0a ?_ (Or.inl ⟨by rfl,fun w9=>?_⟩) ?_;rotate_left 1;go_simp;with_reducible rfl) | (refine Z06 ?_ (HB5.out) (Or.inl ⟨by rfl,fun w9 hw9=>?_⟩) ?_;rotate_left 1;obtain ⟨hc9,hf9⟩:=Z0e hw9;go_simp;with_reducible rfl) | refine Z0a undef (Or.inr ⟨by rfl,rfl⟩) ?_ | refine Z06 undef (HB5.out) (Or.inr ⟨by rfl,rfl⟩) ?_);go_frame));refine Z1f (fun K9 hK9=>?_);go_simp;refine hK9 _ _ (HB5.out) ?_;clear hK9 K9;(repeat ((first | (refine Z0a ?_ (Or.inl ⟨by rfl,fun w9=>?_⟩) ?_;rotate_left 1;go_simp;with_reducible rfl) | (refine Z06 ?_ (HB5.out) (Or.inl ⟨by rfl,fun w9 hw9=>?_⟩) ?_;rotate_left 1;obtain ⟨hc9,hf9⟩:=Z0e hw9;go_simp;with_reducible rfl) | refine Z0a undef (Or.inr ⟨by rfl,rfl⟩) ?_ | refine Z06 undef (HB5.out) (Or.inr ⟨by rfl,rfl⟩) ?_);go_frame));refine Z0z ?_;simp only [Z00];refine hKK _ _ ?_;clear hKK KK;have HBE:=hid (HB.out.trans (HB5.out.mono HB.out.size));clear k0 k1 k2 kz m0 m1 m2 mz;(go_wp2_with fail);go_ret;exact ⟨by rw [HLV.out];rfl,HBE.out⟩
 (have r1:(0:Int)<(r:Int):=by omega);have r2:decide ((0:Int)<(r:Int))=true:=Zie (by omega);have r3:decide (0<r)=true:=Zie (by omega);refine Z05 (fun w9=>Below w1.heap.size w1 w9) [(0,0),(1,1),(2,0),(3,0),(4,0),(5,0),(6,0),(7,1),(8,1),(9,2),(10,0),(11,0),(12,0),(13,0),(14,1),(15,2),(16,0),(17,0),(18,0)] (by kernel_rfl) (by kernel_rfl) (fun KK hKK=>?_);simp only [Z02,Zib,Zi5,Zi9,Zi8,Zi7,Zif];(repeat ((first | (refine Z0a ?_ (Or.inl ⟨by rfl,fun w9=>?_⟩) ?_;rotate_left 1;go_simp;with_reducible rfl) | (refine Z06 ?_ (((Zi2 _ _).drew)) (Or.inl ⟨by rfl,fun w9 hw9=>?_⟩) ?_;rotate_left 1;obtain ⟨hc9,hf9⟩:=Z0e hw9;go_simp;with_reducible rfl) | refine Z0a undef (Or.inr ⟨by rfl,rfl⟩) ?_ | refine Z06 undef (((Zi2 _ _).drew)) (Or.inr ⟨by rfl,rfl⟩) ?_);go_frame));refine Z1f (fun K9 hK9=>?_);go_simp;refine (HP.out _ (HB.out.trans (((Zi2 w1.heap.size w1).drew).mono HB.out.size))).mono ?_;rintro e w5 ⟨rfl,hb5⟩;have HB5:=hid (((Zi2 w1.heap.size w1).drew).trans (hb5.mono (by simp)));clear hb5;refine hK9 _ _ HB5.out ?_;clear hK9 K9;(repeat ((first | (refine Z0a ?_ (Or.inl ⟨by rfl,fun w9=>?_⟩) ?_;rotate_left 1;go_simp;with_reducible rfl) | (refine Z06 ?_ (HB5.out) (Or.inl ⟨by rfl,fun w9 hw9=>?_⟩) ?_;rotate_left 1;obtain ⟨hc9,hf9⟩:=Z0e hw9;go_simp;with_reducible rfl) | refine Z0a undef (Or.inr ⟨by rfl,rfl⟩) ?_ | refine Z06 undef (HB5.out) (Or.inr ⟨by rfl,rfl⟩) ?_);go_frame));refine Z1f (fun K9 hK9=>?_);go_simp;refine (HS.out _ (HB.out.trans (HB5.out.mono HB.out.size))).mono ?_;rintro e w6 ⟨rfl,hb6⟩;have HB6:=hid (HB5.out.trans (hb6.mono HB5.out.size));clear hb6;refine hK9 _ _ HB6.out ?_;clear hK9 K9;(repeat ((first | (refine Z0a ?_ (Or.inl ⟨by rfl,fun w9=>?_⟩) ?_;rotate_left 1;go_simp;with_reducible rfl) | (refine Z06 ?_ (HB6.out) (Or.inl ⟨by rfl,fun w9 hw9=>?_⟩) ?_;rotate_left 1;obtain ⟨hc9,hf9⟩:=Z0e hw9;go_simp;with_reducible rfl) | refine Z0a undef (Or.inr ⟨by rfl,rfl⟩) ?_ | refine Z06 undef (HB6.out) (Or.inr ⟨by rfl,rfl⟩) ?_);go_frame));refine Z0z ?_;simp only [Z00];refine hKK _ _ ?_;clear hKK KK;have HBE:=hid (HB.out.trans (HB6.out.mono HB.out.size));clear k0 k1 k2 kz m0 m1 m2 mz;(go_wp2_with fail);go_ret;refine ⟨?_,HBE.out⟩;rw [HLV.out];cases u<;>simp [hr]
def VCo.more (v:VCo) (t:Z0i) (g c:Nat):VCo:={ v with vs:=v.vs ++ [t],gv:=g,cap:=c }
structure HdV where
 goal:Bool
 id:ByteArray
 at_:Z0i
 acc:Bool
def VCo.hd (v:VCo):HdV:=⟨v.goal,v.id,v.at_,v.acc⟩
theorem Zfz {w:World} {e:TypeId} {size n c g:Nat} {xs:List Value} (h:w.ownsRow 0 e size (.slice (some ⟨g,0,none⟩) n c) n xs) : ∃cur,Blk w g e cur:=by
 obtain ⟨⟨cur,hb,_⟩,_⟩:=Z2x h;exact ⟨cur,hb⟩
section
variable {X:World} {bx:Array Value} {nb mb:Nat} {ns:List Sym} {es:List Elem} {AO:Option Addr} {cO:Nat} {vcs:List VCo} {AC:Option Addr} {cC:Nat} {tags:List Int} {At:Option Addr} {ct:Nat} {D:Nat→Prop}
theorem P3.addT {pre post:List VCo} {v:VCo} {t:Z0i} {val:Value} {W Y:World} (h:P3 X bx nb mb ns es AO cO vcs AC cC tags At ct D W) (hv:vcs=pre++v :: post) (ht:t.list = [])
 (hown:Y.ownsRow 0 142 6 val (v.vs.length+1) (v.vs.flatMap Z0i.cell0 ++ [t].flatMap Z0i.cell0)) (hg:W.grownBy Y (Value.slice (some ⟨v.gv,0,none⟩) v.vs.length v.cap).ownBlock) (hat:val.ownBlock=(Value.slice (some ⟨v.gv,0,none⟩) v.vs.length v.cap).ownBlock∨val.ownBlock=some W.heap.size) :
 ∃gc g' c',AC=some ⟨gc,0,none⟩∧val = .slice (some ⟨g',0,none⟩) (v.vs.length+1) c'∧Y.cell? ⟨gc,pre.length*7+4,none⟩=some (.slice (some ⟨v.gv,0,none⟩) v.vs.length v.cap)∧Y.frozen? ⟨gc,pre.length*7+4,none⟩=false∧gc<Y.heap.size∧(∀b ty cs,Blk W b ty cs→b≠v.gv→Blk Y b ty cs)∧
  ∀V,V=Y.setCell ⟨gc,pre.length*7+4,none⟩ (.slice (some ⟨g',0,none⟩) (v.vs.length+1) c')→P3 X bx nb mb ns es AO cO (pre++v.more t g' c' :: post) AC cC tags At ct D V:=by
 (have hm:v∈vcs:=by rw [hv];simp);have hok:=h.cs.ok v hm;have hbl:=h.cs.bl v hm;(have hln:vcs.length=pre.length+(post.length+1):=by rw [hv];simp);obtain ⟨gc,hgc⟩:=Z3v h.cs.co (by omega);obtain ⟨A',c',rfl,hF,hA,hO⟩:=Z1r (E:=(· = v.gv)) (fun a ha=>by injection ha with ha;rw [← ha]) hown hg hat;obtain ⟨g',rfl⟩:=Z3v hO (by omega);have hco:=h.cs.co;rw [hgc] at hco;have ngc:v.gv≠gc:=fun e=>Z1m hok.vr hco (by decide) (k:=gc) (by rw [e];rfl) rfl;have hcoY:=Z16 hco hF (fun g hg e=>by injection hg with hg;exact ngc (e.symm.trans hg.symm));have ng':g'≠gc:=fun e=>Z1m hO hcoY (by decide) (k:=gc) (by rw [e];rfl) rfl;have hroom:=Z2x hcoY;(have hflat:vcs.flatMap VCo.cells=pre.flatMap VCo.cells++(v.cells++post.flatMap VCo.cells):=by rw [hv,Zik,Zj5]);have hpl:(pre.flatMap VCo.cells).length=pre.length*7:=Z13 VCo.cells_length pre;obtain ⟨cur,hbY⟩:=Zfz hcoY
 have hc4:Y.cell? ⟨gc,pre.length*7+4,none⟩=some (.slice (some ⟨v.gv,0,none⟩) v.vs.length v.cap):=by
  have hrd:=Z08 VCo.cells_length hcoY;obtain ⟨b,off,e1,_,hcl⟩:=hrd.at_ (k:=pre.length) (by omega);injection e1 with e1;injection e1 with e1 e2;subst e1;subst e2;have:=hcl 4 (.slice (some ⟨v.gv,0,none⟩) v.vs.length v.cap) (by simp only [hv];rw [List.getElem_append_right (Zi3 _)];simp [VCo.cells,VCo.raw,Z4j.cells]);simpa using this
 refine ⟨gc,g',c',hgc,rfl,hc4,hbY.frozen _,hbY.lt,fun b ty cs hb hne=>hb.fr hF hne,fun V hV=>?_⟩;subst hV;have hst:=(hcoY.stored (pre.length*7+4) (.slice (some ⟨g',0,none⟩) (v.vs.length+1) c')).1;have hF2:Fr (fun j=>j=v.gv∨j=gc) W (Y.setCell ⟨gc,pre.length*7+4,none⟩ (.slice (some ⟨g',0,none⟩) (v.vs.length+1) c')):=(hF.mono (fun k _ hk=>.inl hk)).setCell (p:=⟨gc,pre.length*7+4,none⟩) (.inl (.inr rfl)) _;have hzW:=h.cs.bel.size;have hDl:=h.cs.nm.lt
 have nB : ∀{b:Nat} {ty:TypeId} {cs:Array Value},Blk W b ty cs→ty≠142→ty≠62→¬(b=v.gv∨b=gc):=by
  rintro b ty cs hb n1 n2 (e | e)
  · exact Z04 hok.vr hb n1.symm (by rw [e];rfl)
  · exact Z04 hco hb n2.symm (by rw [e];rfl)
 have nO : ∀{e:TypeId} {size n c:Nat} {A:Option Addr} {xs:List Value},W.ownsRow 0 e size (.slice A n c) n xs→e≠142→e≠62→∀g,(Value.slice A n c).ownBlock=some g→¬(g=v.gv∨g=gc):=by
  rintro e size n c A xs ho n1 n2 g hg (e2 | e2)
  · exact Z1m ho hok.vr n1 hg (by rw [e2];rfl)
  · exact Z1m ho hco n2 hg (by rw [e2];rfl)
 have hnd:=h.cs.nd;rw [hv,Zik,Zj5] at hnd;obtain ⟨n1,n2,n3⟩:=List.nodup_append.1 hnd;obtain ⟨n4,n5,n6⟩:=List.nodup_append.1 n2
 have hgf:g'=v.gv∨W.heap.size≤g':=by
  rcases hA _ rfl with e | ⟨e,_⟩
  · exact .inl e
  · exact .inr e
 have hother : ∀u,u∈pre∨u∈post→u.ga≠v.gv∧u.gv≠v.gv:=by
  rintro u (hu | hu)
  · exact ⟨fun e=>n3 u.ga (List.mem_flatMap.2 ⟨u,hu,by simp⟩) v.gv (by simp) e,fun e=>n3 u.gv (List.mem_flatMap.2 ⟨u,hu,by simp⟩) v.gv (by simp) e⟩
  · exact ⟨fun e=>n6 v.gv (by simp) u.ga (List.mem_flatMap.2 ⟨u,hu,by simp⟩) e.symm,fun e=>n6 v.gv (by simp) u.gv (List.mem_flatMap.2 ⟨u,hu,by simp⟩) e.symm⟩
 have hin : ∀u,u∈pre∨u∈post→u∈vcs:=fun u hu=>by rw [hv];exact hu.elim (fun h=>List.mem_append_left _ h) (fun h=>List.mem_append_right _ (Zjb _ h))
 have hsp : ∀{u:VCo},u∈pre++v.more t g' c' :: post→u=v.more t g' c'∨(u∈pre∨u∈post):=fun {u} hu=>by
  rcases Zj0.1 hu with h1 | h1
  · exact .inr (.inl h1)
  · rcases Zij.1 h1 with h2 | h2
    · exact .inl h2
    · exact .inr (.inr h2)
 (have hgav:v.ga≠v.gv:=by simpa using n4);have hgaC : ∀{g:Nat} {cs:Array Value},Blk W g 142 cs→g≠gc:=fun hb e=>Z04 hco hb (by decide) (by rw [e];rfl);have hln2:(pre++v.more t g' c' :: post).length=vcs.length:=by rw [hln];simp
 refine ⟨⟨h.cs.nm.fr hF2 (fun k hk hm=>?_),h.cs.dn,?_,h.cs.mge,h.cs.mnd,Z16 h.cs.eo hF2 (nO h.cs.eo (by decide) (by decide)),h.cs.ea,?_,h.cs.ca,fun u hu=>?_,fun u hu=>?_,?_,h.cs.bel.trans (hF2.below hzW (fun k hk hm=>?_))⟩,
  h.pb.frT hF2 (nB h.pb.t (by decide) (by decide)) (nB h.pb.r (by decide) (by decide)) (fun k hk=>?_),Z16 h.tg hF2 (nO h.tg (by decide) (by decide)),h.ta,h.dn2⟩
 · rcases hm with e | e
   · exact hbl.2.2 (e ▸ hk)
   · exact (h.cs.ca _ hgc).2 (by rw [e] at hk;exact hk)
 · rw [hln2];exact h.cs.mkb.fr hF2 (nB h.cs.mkb (by decide) (by decide))
 · rw [hln2,hgc]
   have e1:(vcs.flatMap VCo.cells).set (pre.length*7+4) (.slice (some ⟨g',0,none⟩) (v.vs.length+1) c')=(pre++v.more t g' c' :: post).flatMap VCo.cells:=by
    rw [hflat,List.set_append_right _ _ (by omega),hpl,List.set_append_left _ _ (by rw [VCo.cells_length];omega),Zik,Zj5];congr 2;rw [show pre.length*7+4 - pre.length*7=4 by omega];simp [VCo.cells,VCo.raw,Z4j.cells,VCo.more]
   rw [← e1];exact hst
 · rcases hsp hu with rfl | hu
   · refine ⟨hok.at_.fr hF2 (fun hm=>?_),?_,hok.la,fun x hx=>?_⟩
     · exact hm.elim hgav (hgaC hok.at_)
     · have e2:(v.more t g' c').vs.length=v.vs.length+1:=by simp [VCo.more]
       rw [e2];refine ownsRow_setCell_other (a:=⟨gc,pre.length*7+4,none⟩) ?_ (by simp [Value.ownBlock];exact ng') _;show Y.ownsRow 0 142 6 _ _ ((v.vs ++ [t]).flatMap Z0i.cell0);rw [Zik];exact hO
     · rcases Zj0.1 hx with hx | hx
       · exact hok.lv x hx
       · rw [Zit.1 hx];exact ht
   · have ho2:=h.cs.ok u (hin u hu)
     have hne:=hother u hu;refine ho2.fr hF2 (fun hm=>hm.elim hne.1 (hgaC ho2.at_)) (fun hm=>hm.elim hne.2 (fun e=>?_));exact Z1m ho2.vr hco (by decide) (k:=gc) (by rw [e];rfl) rfl
 · rcases hsp hu with rfl | hu
   · refine ⟨hbl.1,?_⟩
     show X.heap.size≤g'∧¬D g';rcases hgf with e | e
     · rw [e];exact hbl.2
     · exact ⟨by omega,fun hd=>by have:=hDl _ hd;omega⟩
   · exact h.cs.bl u (hin u hu)
 · rw [Zik,Zj5]
   show (pre.flatMap _++([v.ga,g']++post.flatMap _)).Nodup;rcases hgf with e | e
   · rw [e];exact hnd
   · have hlt : ∀u,u∈pre∨u∈post→u.ga<W.heap.size∧u.gv<W.heap.size:=fun u hu=>⟨(h.cs.ok u (hin u hu)).at_.lt,(h.cs.ok u (hin u hu)).ltv⟩
     have hlv:=hok.at_.lt;refine List.nodup_append.2 ⟨n1,List.nodup_append.2 ⟨by simp;omega,n5,fun a ha b hb e2=>?_⟩,fun a ha b hb e2=>?_⟩
     · simp only [Zij,Zio,or_false] at ha
       rcases ha with rfl | rfl
       · exact n6 v.ga (by simp) b hb e2
       · obtain ⟨u,hu,hbu⟩:=List.mem_flatMap.1 hb
         have:=hlt u (.inr hu);simp only [Zij,Zio,or_false] at hbu;rcases hbu with rfl | rfl<;>omega
     · rcases Zj0.1 hb with hb | hb
       · simp only [Zij,Zio,or_false] at hb
         rcases hb with rfl | rfl
         · exact n3 a ha v.ga (by simp) e2
         · obtain ⟨u,hu,hau⟩:=List.mem_flatMap.1 ha
           have:=hlt u (.inl hu);simp only [Zij,Zio,or_false] at hau;rcases hau with rfl | rfl<;>omega
       · exact n3 a ha b (List.mem_append_right _ hb) e2
 · rcases hm with e | e
   · have:=hbl.2.1;omega
   · have:X.heap.size≤gc:=(h.cs.ca _ hgc).1;omega
 · rcases hk with e | e
   · rw [e];exact hbl.2.1
   · rw [e];exact (h.cs.ca _ hgc).1
end
end
section
open Go.RowKit Go.Shelf
def hdP (ns:List Sym) (e:Elem):HdV:=⟨e.goal,Z2c e.id (plV ns e.id),⟨1,⟨#[]⟩,e.attr,[]⟩,e.acc⟩
theorem Z97 (ns:List Sym) : ∀(vcs:List VCo) (o:List Elem),vcs.map VCo.cond=o.map (posV ns)→vcs.map VCo.vs=o.map (vs0 ns)∧vcs.map VCo.hd=o.map (hdP ns)
 | [],[],_=>⟨rfl,rfl⟩
 | [],_ :: _,h=>by simp at h
 | _ :: _,[],h=>by simp at h
 | v :: vs,e :: o,h=>by
   rw [List.map_cons,List.map_cons] at h;injection h with h1 h2;obtain ⟨a,b⟩:=Z97 ns vs o h2;unfold VCo.cond posV at h1;injection h1 with _ g1 g2 g3 g4 g5 _;injection g3 with g3 _;rw [List.map_cons,List.map_cons,List.map_cons,List.map_cons,a,b];refine ⟨?_,?_⟩
   · congr 1
   · congr 1
     unfold VCo.hd hdP;rw [g1,g2,g3,g5]
theorem Zbg (ns:List Sym) : ∀(vcs:List VCo) (o:List Elem),vcs.map VCo.hd=o.map (hdP ns)→vcs.map VCo.cond=List.zipWith (Z2o ns) o (vcs.map VCo.vs)
 | [],[],_=>rfl
 | [],_ :: _,h=>by simp at h
 | _ :: _,[],h=>by simp at h
 | v :: vs,e :: o,h=>by
   rw [List.map_cons,List.map_cons] at h;injection h with h1 h2;rw [List.map_cons,List.map_cons,List.zipWith_cons_cons,Zbg ns vs o h2];congr 1;unfold VCo.hd hdP at h1;injection h1 with g1 g2 g3 g4;unfold VCo.cond Z2o;rw [g1,g2,g3,g4]
theorem Zch (t:Z0i) (l:List Z0i) (n:Nat) (h:l.length≤n):(addT t l).length≤n+1:=by
 unfold addT
 split
 · omega
 · simp;omega
theorem Z6p (t:Z0i) (n:Nat) : ∀(vss:List (List Z0i)) (k:Nat),(∀v∈vss,v.length≤n)→∀v∈putT vss k t,v.length≤n+1
 | [],k,_,v,hv=>by unfold putT at hv;cases k<;>simp at hv
 | a :: l,0,h,v,hv=>by
   unfold putT at hv;rw [List.modify_zero_cons] at hv;rcases Zij.1 hv with rfl | hv
   · exact Zch t a n (h a Zja)
   · have:=h v (Zjb _ hv);omega
 | a :: l,k+1,h,v,hv=>by
   unfold putT at hv;rw [List.modify_succ_cons] at hv;rcases Zij.1 hv with rfl | hv
   · have:=h _ Zja;omega
   · exact Z6p t n l k (fun u hu=>h u (Zjb _ hu)) v hv
theorem Zdr {es:List Elem} {a c:Sym} {vss:List (List Z0i)} {n:Nat} (h : ∀v∈vss,v.length≤n) : ∀v∈oneV es a c vss,v.length≤n+1:=by
 unfold oneV
 split
 · exact fun v hv=>by have:=h v hv;omega
 · exact Z6p _ n _ _ h
theorem Zeg {ns:List Sym} {es:List Elem} {x:Z0j} {vss r:List (List Z0i)} {n:Nat} (h : ∀v∈vss,v.length≤n) (hr:twoV ns es x vss=some r) : ∀v∈r,v.length≤n+1:=by
 unfold twoV at hr
 split at hr
 · cases hr
 · cases hr
   exact Z6p _ n _ _ h
theorem Z67 {ns:List Sym} {es:List Elem} {x:Z0j} {vss r:List (List Z0i)} {n:Nat} (h : ∀v∈vss,v.length≤n) (hr:Z2b ns es x vss=some r) : ∀v∈r,v.length≤n+1:=by
 (have h1 : ∀v∈vss,v.length≤n+1:=fun v hv=>by have:=h v hv;omega);unfold Z2b at hr
 repeat' split at hr
 all_goals first
  | (cases hr;done)
  | (cases hr;exact h1)
  | exact Zeg h hr
  | (cases hr;exact Zdr h)
theorem Zaw (m:Nat) (ns:List Sym) : ∀(l:List Elem) (vss:List (List Z0i)),vss.length=l.length→(Z0y (m+1) 0 (List.zipWith (Z2o ns) l vss)).length=l.length:=by
 (have h0 : ∀d,(Z0y m d []).length=0:=fun d=>by cases m<;>rfl);intro l
 induction l with
 | nil=>intro vss _;cases vss<;>rfl
 | cons x l ih=>
   intro vss hl
   match vss,hl with
   | v :: vss,hl=>
     have:=ih vss (by simpa using hl);rw [List.zipWith_cons_cons];show (((Z2o ns x v) :: List.zipWith (Z2o ns) l vss).flatMap fun c=>(0,c) :: Z0y m 1 c.conds).length=_;rw [Zj5,Zim,Zj1,Zj1,show (Z2o ns x v).conds = [] from rfl,h0];have e:((List.zipWith (Z2o ns) l vss).flatMap fun c=>(0,c) :: Z0y m 1 c.conds).length=l.length:=this;omega
def Zgh (m:Nat) (name:ByteArray) (o:List Elem) (old:Sym→Bool) (ns:List Sym) (l:List Z1x):Option (List (List Z0i))→Option (Z35×List Int)
 | none=>none
 | some vss=>Z5m m name (List.zipWith (Z2o ns) o vss) (o.map Elem.tag) old ns l
theorem Zc3 {m:Nat} {name:ByteArray} {es:List Elem} {as_:List Z0j} {old:Sym→Bool} {news:List Sym} {l:List Z1x} {o:List Elem} {ns:List Sym} (h:Z2v es=some (o,ns)) (h1 : ¬o = []) (h2 : ¬(news.any fun s=>!decide (plV ns s=0))=true) :
 Z3w m name es as_ old news l=Zgh m name o old ns l (Z1q ns o as_ (o.map (vs0 ns))):=by
 unfold Z3w;rw [h];simp only;rw [if_neg h1,if_neg h2];rfl
theorem Zhc {ns:List Sym} {vcs:List VCo} {o:List Elem} (h:vcs.map VCo.vs=o.map (vs0 ns)) : ∀v∈vcs.map VCo.vs,v.length≤1:=by
 rw [h];intro v hv;obtain ⟨e,_,rfl⟩:=List.mem_map.1 hv;exact Zi3 _
end
end Go.Proofs.YtldndkngpdfpfaaGreat
