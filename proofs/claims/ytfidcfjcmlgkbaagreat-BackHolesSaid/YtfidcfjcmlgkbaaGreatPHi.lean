/-
  Texts put together: BkApt1, BkMX, FindName, OpsName, PutName, MiscName, NewName, WorkName, Known1, Known3, Known2.
-/
import Derived.Test.YtfidcfjcmlgkbaaGreatPHh
namespace Go.Proofs.YtfidcfjcmlgkbaaGreat
open Lib (hid)
set_option maxRecDepth 100000
set_option maxHeartbeats 32000000
set_option linter.unusedSimpArgs false
section
open Go.RowKit Go.Shelf
attribute [local go_sem] Oper.semAt_some
theorem Z7e (l:List Z0n) : ∀u∈l.flatMap Z0n.cells,u.oneCell'=true:=by
 intro u hu;obtain ⟨b,_,hb⟩:=List.mem_flatMap.1 hu;simp only [Z0n.cells,Zms,Zmw,or_false] at hb;rcases hb with rfl | rfl | rfl | rfl | rfl | rfl | rfl<;>rfl
theorem Zb4 {D:Nat→Prop} (ts:List Z1t) (a:Sym) (l:List Z17) (A Al:Option Addr) (c cl:Nat) (w:World) (h:RowR Z01 D w A c ts) (hl:RowR Z29 D w Al cl l) (hts:ts.length≤1000000) :
 Calls Tryz.prog 66 #[.slice A ts.length c,.agg #[.int .i64 a.kind,.string a.text,.int .i64 a.n],.slice Al l.length cl] w (Z6f 195 7 Z0n.cells (Z2x ts a l) w):=by
 obtain ⟨j0,hj0,hy0,hy1,hy2⟩:=infp Z6n;have HT:=hid h;have HL:=hid hl;have htc:=h.cap;clear h hl;go_enter Tryz.func66,Tryz.ntmps66;(go_upto_region 1 with fail);obtain ⟨w1,hw1⟩ : ∃w1,w1=(w.alloc (.cells #[.int .i64 a.kind,.string a.text,.int .i64 a.n] 38)):=⟨_,rfl⟩;rw [← hw1];have HB:=hid (show Below w.heap.size w w1 by rw [hw1];exact (by repeat (first | exact Zm7 _ _ | refine Below.drew ?_ | refine Below.al ?_ _ | refine Below.sc ?_ _)));have Ka:=hid (show Blk w1 (w.heap.size) 38 #[.int .i64 a.kind,.string a.text,.int .i64 a.n] by rw [hw1];exact (Blk.new w 38 #[.int .i64 a.kind,.string a.text,.int .i64 a.n]));clear hw1;obtain ⟨a0,a1,a2⟩:=Ka.out.c3;have az:=Ka.out.lt;clear a0 a1 a2 az;obtain ⟨ab,hab⟩ : ∃b,b=w.heap.size:=⟨_,rfl⟩;rw [← hab] at Ka ⊢;clear hab;obtain ⟨va,hva⟩ : ∃v,v=Value.agg #[.int .i64 a.kind,.string a.text,.int .i64 a.n]:=⟨_,rfl⟩;rw [← hva];clear hva;have HO:=hid (OwnG.start (T:=195) (size:=7) (cells:=Z0n.cells) HB.out);go_wp2_with fail
 go_loopw [7,15] (fun vo vi wr=>∃(i:Nat) (os:List Z0n) (Ao:Option Addr) (co:Nat),vi = .int .i64 (i:Int)∧i≤ts.length∧vo = .slice Ao os.length co∧os=Z2x (ts.take i) a l∧OwnG 195 7 Z0n.cells w os Ao co wr∧Blk wr ab 38 #[.int .i64 a.kind,.string a.text,.int .i64 a.n]) (fun vo vi wr=>ts.length - (intOf vi).toNat)
 case atStart=>exact ⟨0,[],none,0,rfl,Nat.zero_le _,rfl,rfl,HO.out,Ka.out⟩
 case round=>
  clear HO Ka;obtain ⟨i,os,Ao,co,rfl,hi,rfl,hos,ho,hka⟩:=hrel;have HO:=hid ho;have Ka:=hid hka;have HOS:=hid hos;(have hol:os.length≤i:=by rw [hos];refine Zmk (Z67 _ _ _) ?_;rw [Znn];omega);clear ho hka hos;by_cases hlt:i<ts.length
  · skip
    obtain ⟨y,hy⟩ : ∃y,y=ts[i]:=⟨_,rfl⟩;have HTK:=hid (show Z2x (ts.take (i+1)) a l=os++Z4l a l y by rw [hy,HOS.out];exact Zb3 hlt a l);obtain ⟨g,off,A1,c1,rfl,_,hg,q0,q1,q2,q3,q4,q5,-⟩:=Z32 (HT.out.new_ HO.out.bel) hlt;rw [← hy] at q0 q1 q2 q3 q4 q5;(have j1:(0:Int)≤(i:Int):=by omega);(have j2:(i:Int)<(ts.length:Int):=by omega);have v3:IntKind.i64.wrap ((i:Int)+1)=(i:Int)+1:=Zmh _ (by omega);clear hy;(go_upto_region 5 with fail);obtain ⟨W1,hW1⟩ : ∃W,W=wr.alloc (.cells #[.int .i64 y.rel,.string y.var,.int .i64 y.sym.kind,.string y.sym.text,.int .i64 y.sym.n,.slice A1 y.list.length c1] 138):=⟨_,rfl⟩;obtain ⟨tb,htb⟩ : ∃b,b=wr.heap.size:=⟨_,rfl⟩;have Kt:=hid (show Blk W1 tb 138 #[.int .i64 y.rel,.string y.var,.int .i64 y.sym.kind,.string y.sym.text,.int .i64 y.sym.n,.slice A1 y.list.length c1] by rw [hW1,htb];exact Blk.new _ _ _);(have hbn:Below wr.heap.size wr W1:=by rw [hW1];exact (Zm7 _ _).alloc (Zm8 _) _);rw [← hW1,← htb];have HO:=hid (HO.out.new_ hbn);have Ka:=hid (Ka.out.new_ hbn);clear hW1 htb hbn q0 q1 q2 q3 q4 q5;have t0:=(Kt.out.cell 0).trans rfl;have tz:=Kt.out.lt;by_cases hno:y.rel≠2∧y.rel≠7
    · have n1:(y.rel != 2)=true:=by simp [hno.1]
      (have n2:(y.rel != 7)=true:=by simp [hno.2]);have HPN:=hid (show Z4l a l y = [] by unfold Z4l;rw [if_pos hno]);clear hno;(go_wp2_with fail);go_roundw
      case rel=>exact ⟨i+1,os,Ao,co,by go_num,by omega,rfl,by rw [HTK.out,HPN.out,Zn9],HO.out,Ka.out⟩
      case measure=>simp [intOf]<;>omega
    have HNO:=hid hno;rcases (by omega:y.rel=2∨¬y.rel=2∧y.rel=7) with h2 | ⟨h2,h7⟩
    case' inl=>
     (have n1:(y.rel != 2)=false:=by simp [h2]);clear h2
    case' inr=>
     (have n1:(y.rel != 2)=true:=by simp [h2]);(have n2:(y.rel != 7)=false:=by simp [h7]);clear h2 h7
    all_goals
     clear hno;(go_upto_region 6 with fail);clear t0 n1;(try clear n2);have t0:=(Kt.out.cell 0).trans rfl;have t1:=(Kt.out.cell 1).trans rfl;have t2:=(Kt.out.cell 2).trans rfl;have t3:=(Kt.out.cell 3).trans rfl;have t4:=(Kt.out.cell 4).trans rfl;(go_upto_region 7 with fail);clear t0 t1 t2 t3 t4 tz;have HKA1:=hid Ka.out.lt;have HKT1:=hid Kt.out.lt;have HWB:=hid HO.out.bel.size;obtain ⟨W2,hW2⟩ : ∃W,W=W1.alloc (.cells #[.int .i64 y.sym.kind,.string y.sym.text,.int .i64 y.sym.n] 38):=⟨_,rfl⟩;obtain ⟨bb,hbb⟩ : ∃b,b=W1.heap.size:=⟨_,rfl⟩;have Kb:=hid (show Blk W2 bb 38 #[.int .i64 y.sym.kind,.string y.sym.text,.int .i64 y.sym.n] by rw [hW2,hbb];exact Blk.new _ _ _);(have hbn:Below W1.heap.size W1 W2:=by rw [hW2];exact (Zm7 _ _).alloc (Zm8 _) _);rw [← hW2,← hbb];have HO:=hid (HO.out.new_ hbn);have Ka:=hid (Ka.out.new_ hbn);have Kt:=hid (Kt.out.new_ hbn);have HXB:=hid (show w.heap.size≤bb by rw [hbb];exact HWB.out);have HAB:=hid (show ab≠bb by rw [hbb];have:=HKA1.out;omega);have HTB:=hid (show tb≠bb by rw [hbb];have:=HKT1.out;omega);clear hW2 hbb hbn;have t1:=(Kt.out.cell 1).trans rfl;have tz:=Kt.out.lt;by_cases hv:y.var.toList = []
     case' pos=>
      (have fa:(y.var.toList == [])=true:=by simp [hv]);(have fb:y.var.toList.isEmpty=true:=by simp [hv]);(have fc:decide (y.var.toList = [])=true:=by simp [hv]);have HSV:=hid (show symT l y=(y.sym,true) by unfold symT;rw [if_pos hv]);clear hv;(go_upto_region 11 with fail);clear fa fb fc t1 tz;obtain ⟨bs,hbs⟩ : ∃s,s=y.sym:=⟨_,rfl⟩;rw [← hbs] at HSV Kb;obtain ⟨V,hV⟩ : ∃W,W=W2:=⟨_,rfl⟩;rw [← hV] at HO Ka Kt Kb ⊢;clear hbs hV
     case' neg=>
      (have fa:(y.var.toList == [])=false:=by simp [hv]);(have fb:y.var.toList.isEmpty=false:=by simp [hv]);(have fc:decide (y.var.toList = [])=false:=by simp [hv]);obtain ⟨gs,gb,hgs⟩ : ∃x1 x2,(x1,x2)=getB l y.var:=⟨_,_,rfl⟩;have HSV:=hid (show symT l y=(gs,gb) by unfold symT;rw [if_neg hv,hgs]);have hC:=Zls l y.var W2 (HL.out.new_ HO.out.bel);rw [← hgs] at hC;have HC:=hid hC;clear hC hgs hv;(go_wp2_with fail);refine HC.out.mono ?_;rintro e W3 ⟨rfl,hb⟩;clear HC fa fb fc t1 tz;have HO:=hid (HO.out.new_ hb);have Ka:=hid (Ka.out.new_ hb);have Kt:=hid (Kt.out.new_ hb);have Kb:=hid (Kb.out.new_ hb);clear hb;(go_upto_region 9 with fail);obtain ⟨W4,hW4⟩ : ∃W,W=W3.alloc (.cells #[.int .i64 gs.kind,.string gs.text,.int .i64 gs.n] 38):=⟨_,rfl⟩;obtain ⟨xb,hxb⟩ : ∃b,b=W3.heap.size:=⟨_,rfl⟩;have Kx:=hid (show Blk W4 xb 38 #[.int .i64 gs.kind,.string gs.text,.int .i64 gs.n] by rw [hW4,hxb];exact Blk.new _ _ _);(have hbn:Below W3.heap.size W3 W4:=by rw [hW4];exact (Zm7 _ _).alloc (Zm8 _) _);rw [← hW4,← hxb];have HO:=hid (HO.out.new_ hbn);have Ka:=hid (Ka.out.new_ hbn);have Kt:=hid (Kt.out.new_ hbn);have Kb:=hid (Kb.out.new_ hbn);clear hW4 hxb hbn;cases gb
      · have HPN:=hid (show Z4l a l y = [] by unfold Z4l;rw [if_neg HNO.out,HSV.out,if_neg (by simp)])
        (go_wp2_with fail);go_roundw
        case rel=>exact ⟨i+1,os,Ao,co,by go_num,by omega,rfl,by rw [HTK.out,HPN.out,Zn9],HO.out,Ka.out⟩
        case measure=>simp [intOf]<;>omega
      have x0:=(Kx.out.cell 0).trans rfl;have x1:=(Kx.out.cell 1).trans rfl;have x2:=(Kx.out.cell 2).trans rfl;have xz:=Kx.out.lt;have HTo:=hid (show W4.there bb 0 (#[.int .i64 gs.kind,.string gs.text,.int .i64 gs.n]:Array Value).size from Kb.out.there);have HKB:=Kb;(go_upto_region 11 with (with_reducible refine wpList_store_mid rfl 38 _ _ rfl bb 0 #[.int .i64 gs.kind,.string gs.text,.int .i64 gs.n] rfl rfl HTo.out (by kernel_rfl) (by kernel_rfl) ?_));clear HTo x0 x1 x2 xz Kx;obtain ⟨V,hV⟩ : ∃W,W=W4.setCells bb 0 [.int .i64 gs.kind,.string gs.text,.int .i64 gs.n]:=⟨_,rfl⟩;(have hbn:Below w.heap.size W4 V:=by rw [hV];exact Below.setCells' _ _ (Zm7 _ _) HXB.out);have Ka:=hid (show Blk V ab 38 #[.int .i64 a.kind,.string a.text,.int .i64 a.n] by rw [hV];exact Blk.farCells _ _ Ka.out HAB.out);have Kt:=hid (show Blk V tb 138 #[.int .i64 y.rel,.string y.var,.int .i64 y.sym.kind,.string y.sym.text,.int .i64 y.sym.n,.slice A1 y.list.length c1] by rw [hV];exact Blk.farCells _ _ Kt.out HTB.out);have Kb:=hid (show Blk V bb 38 #[.int .i64 gs.kind,.string gs.text,.int .i64 gs.n] by rw [hV];exact Blk.setAllG Kb.out rfl);have HO:=hid (show OwnG 195 7 Z0n.cells w os Ao co V by rw [hV];exact ⟨Z1e HO.out.own HKB.out (by decide) _ _,HO.out.ain,HO.out.bel.trans (hV ▸ hbn)⟩);rw [← hV];clear hV hbn;obtain ⟨bs,hbs⟩ : ∃s,s=gs:=⟨_,rfl⟩;rw [← hbs] at HSV Kb;clear hbs HKB
     all_goals
      have a0:=(Ka.out.cell 0).trans rfl;have az:=Ka.out.lt;have b0:=(Kb.out.cell 0).trans rfl;have bz:=Kb.out.lt;by_cases hk:a.kind=1∨bs.kind=1
      case neg=>
       (have k1:(a.kind == 1)=false:=by simp;exact fun h=>hk (.inl h));(have k2:(bs.kind == 1)=false:=by simp;exact fun h=>hk (.inr h));have k3:decide (a.kind=1)=false:=Zm9 fun h=>hk (.inl h);have k4:decide (bs.kind=1)=false:=Zm9 fun h=>hk (.inr h);have HPN:=hid (show Z4l a l y = [] by unfold Z4l;rw [if_neg HNO.out,HSV.out,if_neg (fun h=>hk h.2)]);clear hk;(go_wp2_with fail);go_roundw
       case rel=>exact ⟨i+1,os,Ao,co,by go_num,by omega,rfl,by rw [HTK.out,HPN.out,Zn9],HO.out,Ka.out⟩
       case measure=>simp [intOf]<;>omega
      have HPN:=hid (show Z4l a l y = [⟨a,bs,y.rel⟩] by unfold Z4l;rw [if_neg HNO.out,HSV.out,if_pos ⟨rfl,hk⟩]);rcases (by omega:a.kind=1∨¬a.kind=1∧bs.kind=1) with h2 | ⟨h2,h7⟩
      case' inl=>
       (have k1:(a.kind == 1)=true:=by simp [h2]);have k3:decide (a.kind=1)=true:=Zmb h2;clear h2
      case' inr=>
       (have k1:(a.kind == 1)=false:=by simp [h2]);have k3:decide (a.kind=1)=false:=Zm9 h2;(have k2:(bs.kind == 1)=true:=by simp [h7]);have k4:decide (bs.kind=1)=true:=Zmb h7;clear h2 h7
      all_goals
       clear hk;(go_upto_region 12 with fail);clear k1 k3 a0 az b0 bz;(try clear k2 k4);have a0:=(Ka.out.cell 0).trans rfl;have a1:=(Ka.out.cell 1).trans rfl;have a2:=(Ka.out.cell 2).trans rfl;have az:=Ka.out.lt;have b0:=(Kb.out.cell 0).trans rfl;have b1:=(Kb.out.cell 1).trans rfl;have b2:=(Kb.out.cell 2).trans rfl;have bz:=Kb.out.lt;have t0:=(Kt.out.cell 0).trans rfl;have tz:=Kt.out.lt;obtain ⟨y2,hy2⟩ : ∃y2:Z0n,y2=⟨a,bs,y.rel⟩:=⟨_,rfl⟩;have HC2:=hid (show [y2].flatMap Z0n.cells = [.int .i64 a.kind,.string a.text,.int .i64 a.n,.int .i64 bs.kind,.string bs.text,.int .i64 bs.n,.int .i64 y.rel] by rw [hy2];rfl);rw [← hy2] at HPN;obtain ⟨W8,hW8⟩ : ∃W,W=V.alloc (.cells #[.int .i64 a.kind,.string a.text,.int .i64 a.n,.int .i64 bs.kind,.string bs.text,.int .i64 bs.n,.int .i64 y.rel] 195):=⟨_,rfl⟩;have HW8:=hid hW8;(have hb8:Below V.heap.size V W8:=by rw [hW8];exact (Zm7 _ _).alloc (Zm8 _) _);have HO8:=hid (HO.out.new_ hb8);have Ka8:=hid (Ka.out.new_ hb8);have HN8:=hid (show 0<1→∃ad,(some (⟨V.heap.size,0,none⟩:Addr))=some ad∧∀j u,([y2].flatMap Z0n.cells)[j]? = some u→W8.cell? (ad.add j)=some u from fun _=>⟨_,rfl,by rw [HC2.out,hW8];exact Zmu (heap_alloc_new _ _)⟩);clear hy2 hW8 hb8;(go_wp2_with (at_builtin;rw [← HW8.out];refine Z07 W8 rfl (.tmp 50) (.tmp 56) 70 rfl 195 j0 _ 7 72 Tryz.underlying70 hj0 hy0 hy1 hy2 rfl (by omega) (.slice Ao os.length co) os.length (os.flatMap Z0n.cells) rfl HO8.out.own (some ⟨V.heap.size,0,none⟩) 1 1 ([y2].flatMap Z0n.cells) rfl rfl HN8.out (Z7e _) (by unfold maxLen;omega) (by omega) ?_;intro v4 w9 hown hgr hnil hat;obtain ⟨mn,A9,c9,hmn,rfl,hO9⟩:=HO8.out.put hown hgr hat;have HMN:=hid hmn;have Ka9:=hid (Ka8.out.grown hgr (Z02 HO8.out.own Ka8.out (by decide)));have HO9:=hid hO9;clear hown hgr hnil hat hmn hO9));go_roundw
       case rel=>exact ⟨i+1,mn,A9,c9,by go_num,by omega,rfl,by rw [HMN.out,HTK.out,HPN.out],HO9.out,Ka9.out⟩
       case measure=>simp [intOf]<;>omega
  · skip
    (obtain rfl:i=ts.length:=by omega);rw [Zmt] at HOS;(go_wp2_with fail);go_ret;rw [← HOS.out];exact HO.out.fresh
theorem Zeu {W:World} {e1 e2:TypeId} {z1 z2 n1 n2 b1 b2:Nat} {v1 v2:Value} {x1 x2:List Value} (h1:W.ownsRow b1 e1 z1 v1 n1 x1) (h2:W.ownsRow b2 e2 z2 v2 n2 x2) (hne:e1≠e2) {g:Nat} (hg:v1.ownBlock=some g):v2.ownBlock≠some g:=by
 rcases h1.2 with ⟨rfl,_⟩ | ⟨k,cap,cur,rfl,_,hk,_⟩
 · simp [Value.ownBlock] at hg
 · have e:k=g:=by simpa [Value.ownBlock] using hg
   subst e;exact Z02 h2 (t:=e1) (cs:=cur) hk (Ne.symm hne)
structure MX (n:Nat) (num level:Int) (Ae:Option Addr) (ne ce:Nat) (An:Option Addr) (nn cn gb nb:Nat) (Wb:World) (E:Nat→Prop) (S:Nat→Option (List Z0i)) (L:List Z0i) (C:Nat→Prop) (hs:List Z5b) (as_:List Z0n) (Ah:Option Addr) (ch:Nat) (Aa:Option Addr) (ca:Nat) (X:World):Prop where
 nm:NM E X S
 kn:S nb=some L
 ho:OwnC (Z0t n) 78 C X (.slice Ah hs.length ch) hs
 ha:AIn Ah (fun j=>E j∧Wb.heap.size≤j)
 ao:X.ownsRow 0 195 7 (.slice Aa as_.length ca) as_.length (as_.flatMap Z0n.cells)
 aa:AIn Aa (fun j=>(E j∧Wb.heap.size≤j)∧¬C j)
 cc : ∀j,C j→E j∧Wb.heap.size≤j
 bx:Blk X gb 72 #[.int .i64 num,.int .i64 level,.slice Ae ne ce,.slice Ah hs.length ch,.slice Aa as_.length ca,.slice An nn cn]
 ew : ∀j,j<Wb.heap.size→E j
 fr:Fr (fun k=>¬(k<Wb.heap.size∧k≠gb)) Wb X
 gl:gb<Wb.heap.size
section
variable {n:Nat} {num level:Int} {Ae:Option Addr} {ne ce:Nat} {An:Option Addr} {nn cn gb nb:Nat} {Wb:World} {E E':Nat→Prop} {S S':Nat→Option (List Z0i)} {L L':List Z0i} {C:Nat→Prop} {hs:List Z5b} {as_:List Z0n} {Ah:Option Addr} {ch:Nat} {Aa:Option Addr} {ca:Nat} {X Y:World}
theorem Zdy {A:Option Addr} {D M:Nat→Prop} {m c:Nat} (h:AIn A D) (hd : ∀j,D j→¬M j) : ∀g,(Value.slice A m c).ownBlock=some g→¬M g:=fun g hg=>by
 rcases A with _ | a
 · simp [Value.ownBlock] at hg
 · have e:a.block=g:=by simpa [Value.ownBlock] using hg
   exact e ▸ hd _ (h a rfl)
theorem MX.step (h:MX n num level Ae ne ce An nn cn gb nb Wb E S L C hs as_ Ah ch Aa ca X) (hn:NM E' Y S') (hk:S' nb=some L') (hE : ∀k,E k→E' k) (hF:Fr (fun k=>¬E k) X Y):MX n num level Ae ne ce An nn cn gb nb Wb E' S' L' C hs as_ Ah ch Aa ca Y:=
 ⟨hn,hk,h.ho.fr hF (fun k hk hn=>hn (h.cc k hk).1) (Zdy h.ha (fun _ hj hn=>hn hj.1)),h.ha.mono (fun j hj=>⟨hE j hj.1,hj.2⟩),Z1f h.ao hF (Zdy h.aa (fun _ hj hn=>hn hj.1.1)),h.aa.mono (fun j hj=>⟨⟨hE j hj.1.1,hj.1.2⟩,hj.2⟩),fun j hj=>⟨hE j (h.cc j hj).1,(h.cc j hj).2⟩,h.bx.fr hF (fun hn=>hn (h.ew gb h.gl)),fun j hj=>hE j (h.ew j hj),h.fr.trans (hF.mono (fun k _ hk hn=>hk (h.ew k hn.1))),h.gl⟩
theorem MX.new_ (h:MX n num level Ae ne ce An nn cn gb nb Wb E S L C hs as_ Ah ch Aa ca X) (hb:Below X.heap.size X Y):MX n num level Ae ne ce An nn cn gb nb Wb (Plus E X Y) S L C hs as_ Ah ch Aa ca Y:=
 h.step (h.nm.new_ hb) h.kn (fun _ hk=>.inl hk) (Fr.of_new hb)
theorem MX.set_ (h:MX n num level Ae ne ce An nn cn gb nb Wb E S L C hs as_ Ah ch Aa ca X) (hn:NM E Y S') (hk:S' nb=some L') (hF:Fr (fun k=>¬E k) X Y):MX n num level Ae ne ce An nn cn gb nb Wb E S' L' C hs as_ Ah ch Aa ca Y:=
 h.step hn hk (fun _ hk=>hk) hF
theorem MX.more (h:MX n num level Ae ne ce An nn cn gb nb Wb E S L C hs as_ Ah ch Aa ca X) (B:Nat) (hB:Wb.heap.size≤B) (hh:AIn Ah (· < B)) (ha:AIn Aa (· < B)):MX n num level Ae ne ce An nn cn gb nb Wb E S L (fun j=>C j∨(E j∧B≤j)) hs as_ Ah ch Aa ca X:=by
 refine ⟨h.nm,h.kn,h.ho.keep (Zm8 _) (fun k hk _=>⟨.inl hk,rfl⟩) (fun k hk=>⟨rfl,fun hc=>?_⟩),h.ha,h.ao,fun a e=>⟨(h.aa a e).1,fun hc=>?_⟩,fun j hj=>?_,h.bx,h.ew,h.fr,h.gl⟩
 · rcases hc with hc | hc
   · exact h.ho.off k hk hc
   · have:=Zdy (m:=hs.length) (c:=ch) (D:=(· < B)) (M:=fun j=>B≤j) hh (fun j hj h2=>by have hj:j<B:=hj;omega) k hk
     exact this hc.2
 · rcases hc with hc | hc
   · exact (h.aa a e).2 hc
   · have h2:a.block<B:=ha a e
     have:=hc.2;omega
 · rcases hj with hj | hj
   · exact h.cc j hj
   · exact ⟨hj.1,by have:=hj.2;omega⟩
theorem MX.low (h:MX n num level Ae ne ce An nn cn gb nb Wb E S L C hs as_ Ah ch Aa ca X) : ∀k,C k→k<X.heap.size:=fun k hk=>h.nm.low k (h.cc k hk).1
theorem MX.lows (h:MX n num level Ae ne ce An nn cn gb nb Wb E S L C hs as_ Ah ch Aa ca X):AIn Ah (· < X.heap.size)∧AIn Aa (· < X.heap.size):=⟨h.ha.mono (fun j hj=>h.nm.low j hj.1),h.aa.mono (fun j hj=>h.nm.low j hj.1.1)⟩
theorem MX.pushH (h:MX n num level Ae ne ce An nn cn gb nb Wb E S L C hs as_ Ah ch Aa ca X) {y:Z5b} {v:Value} {X1:World} (ha:Z4t (Z0t n) 78 C X (.slice Ah hs.length ch) (hs ++ [y]) v X1) :
 ∃hn A9 c9,hn=hs ++ [y]∧v = .slice A9 hn.length c9∧Blk X1 gb 72 #[.int .i64 num,.int .i64 level,.slice Ae ne ce,.slice Ah hs.length ch,.slice Aa as_.length ca,.slice An nn cn]∧MX n num level Ae ne ce An nn cn gb nb Wb (Plus E X (X1.setCell ⟨gb,3,none⟩ v)) S L C hn as_ A9 c9 Aa ca (X1.setCell ⟨gb,3,none⟩ v):=by
 obtain ⟨h1,h2,h3⟩:=ha;obtain ⟨css,hx,_,_⟩:=h.ho;have hB1:Blk X1 gb 72 #[.int .i64 num,.int .i64 level,.slice Ae ne ce,.slice Ah hs.length ch,.slice Aa as_.length ca,.slice An nn cn]:=h.bx.grown h2 (Z02 hx h.bx (by decide))
 have hne : ∀k,(Value.slice Ah hs.length ch).ownBlock=some k→E k∧Wb.heap.size≤k:=fun k hk=>by
  rcases Ah with _ | a
  · simp [Value.ownBlock] at hk
  · have e:a.block=k:=by simpa [Value.ownBlock] using hk
    exact e ▸ h.ha a rfl
 have hF1:Fr (fun j=>E j∧(Value.slice Ah hs.length ch).ownBlock=some j) X X1:=(Fr.refl _ X).grown h2 (fun k hk=>.inl ⟨(hne k hk).1,hk⟩);obtain ⟨A9,c9,rfl,_,_,hA⟩:=h1.form;have hF2:Fr (fun j=>j=gb∨(E j∧(Value.slice Ah hs.length ch).ownBlock=some j)) X (X1.setCell ⟨gb,3,none⟩ (.slice A9 (hs ++ [y]).length c9)):=(hF1.mono (fun k _ hk=>.inr hk)).setCell (p:=⟨gb,3,none⟩) (.inl (.inl rfl)) _;have hgE:=h.ew gb h.gl;have hFE:Fr E X (X1.setCell ⟨gb,3,none⟩ (.slice A9 (hs ++ [y]).length c9)):=hF2.mono (fun k _ hk=>hk.elim (fun e=>e ▸ hgE) (fun e=>e.1));have hCg : ¬C gb:=fun hc=>by have:=(h.cc gb hc).2;have:=h.gl;omega
 have hown : ∀k,(Value.slice A9 (hs ++ [y]).length c9).ownBlock=some k→k≠gb:=fun k hk e=>by
  obtain ⟨css2,hx2,_,_⟩:=h1;exact Z02 hx2 hB1 (by decide) (e ▸ hk)
 have hlt:=h1.lt;refine ⟨_,A9,c9,rfl,rfl,hB1,h.nm.own hFE,h.kn,?_,fun a e=>?_,?_,h.aa.mono (fun j hj=>⟨⟨.inl hj.1.1,hj.1.2⟩,hj.2⟩),fun j hj=>⟨.inl (h.cc j hj).1,(h.cc j hj).2⟩,by simpa using hB1.set_ 3 (.slice A9 (hs ++ [y]).length c9),fun j hj=>.inl (h.ew j hj),h.fr.trans (hF2.mono (fun k _ hk hn=>?_)),h.gl⟩
 · exact h1.fr ((Fr.refl (fun j=>j=gb) X1).setCell (p:=⟨gb,3,none⟩) (.inl rfl) _) (fun k hk e=>hCg (e ▸ hk)) hown
 · subst e
   have hl:a.block<X1.heap.size:=hlt _ rfl;rcases h3 with h3 | h3
   · have:=hne a.block (by rw [← h3];rfl)
     exact ⟨.inl this.1,this.2⟩
   · have e2:a.block=X.heap.size:=by simpa [Value.ownBlock] using h3
     exact ⟨.inr ⟨by omega,by simpa using hl⟩,by have:=h.fr.size;omega⟩
 · refine Z1f (Z1f h.ao hF1 (fun g hg hh=>?_)) ((Fr.refl (fun j=>j=gb) X1).setCell (p:=⟨gb,3,none⟩) (.inl rfl) _) (Zdy h.aa (fun j hj e=>by have:=hj.1.2;have:=h.gl;omega))
   exact Zeu hx h.ao (by decide) hh.2 hg
 · rcases hk with hk | hk
   · exact hn.2 hk
   · have:=(hne k hk.2).2
     have:=hn.1;omega
theorem MX.pushA (h:MX n num level Ae ne ce An nn cn gb nb Wb E S L C hs as_ Ah ch Aa ca X) {ys:List Z0n} {v:Value} {X1:World} (hown:X1.ownsRow 0 195 7 v (as_.length+ys.length) (as_.flatMap Z0n.cells++ys.flatMap Z0n.cells)) (hg:X.grownBy X1 (Value.slice Aa as_.length ca).ownBlock) (hat:v.ownBlock=(Value.slice Aa as_.length ca).ownBlock∨v.ownBlock=some X.heap.size) :
 ∃an A9 c9,an=as_++ys∧v = .slice A9 an.length c9∧Blk X1 gb 72 #[.int .i64 num,.int .i64 level,.slice Ae ne ce,.slice Ah hs.length ch,.slice Aa as_.length ca,.slice An nn cn]∧MX n num level Ae ne ce An nn cn gb nb Wb (Plus E X (X1.setCell ⟨gb,4,none⟩ v)) S L C hs an Ah ch A9 c9 (X1.setCell ⟨gb,4,none⟩ v):=by
 have hB1:Blk X1 gb 72 #[.int .i64 num,.int .i64 level,.slice Ae ne ce,.slice Ah hs.length ch,.slice Aa as_.length ca,.slice An nn cn]:=h.bx.grown hg (Z02 h.ao h.bx (by decide));obtain ⟨A9,c9,rfl,hF9,hA9,hO9⟩:=Z49 (E:=fun j=>∃a,Aa=some a∧a.block=j) (fun a ha=>⟨a,ha,rfl⟩) hown hg hat;rw [← Zmq] at hO9;(have hl:(as_++ys).length=as_.length+ys.length:=by simp);rw [← hl] at hO9 ⊢;have hF2:Fr (fun j=>j=gb∨∃a,Aa=some a∧a.block=j) X (X1.setCell ⟨gb,4,none⟩ (.slice A9 (as_++ys).length c9)):=(hF9.mono (fun k _ hk=>.inr hk)).setCell (p:=⟨gb,4,none⟩) (.inl (.inl rfl)) _;have hgE:=h.ew gb h.gl;have hFE:Fr E X (X1.setCell ⟨gb,4,none⟩ (.slice A9 (as_++ys).length c9)):=hF2.mono (fun k _ hk=>hk.elim (fun e=>e ▸ hgE) (fun ⟨a,ha,e⟩=>e ▸ (h.aa a ha).1.1));have hng : ∀k,(∃a,Aa=some a∧a.block=k)→¬C k:=fun k ⟨a,ha,e⟩=>e ▸ (h.aa a ha).2;(have hCg : ¬C gb:=fun hc=>by have:=(h.cc gb hc).2;have:=h.gl;omega);obtain ⟨css,hx,_,_⟩:=h.ho;have hlo:=Z7g hO9;refine ⟨_,A9,c9,rfl,rfl,hB1,h.nm.own hFE,h.kn,?_,h.ha.mono (fun j hj=>⟨.inl hj.1,hj.2⟩),?_,fun a e=>?_,fun j hj=>⟨.inl (h.cc j hj).1,(h.cc j hj).2⟩,by simpa using hB1.set_ 4 (.slice A9 (as_++ys).length c9),fun j hj=>.inl (h.ew j hj),h.fr.trans (hF2.mono (fun k _ hk hn=>?_)),h.gl⟩
 · refine h.ho.fr hF2 (fun k hk e=>e.elim (fun e=>hCg (e ▸ hk)) (fun e=>hng k e hk)) (fun k hk e=>?_)
   rcases e with e | ⟨a,ha,e⟩
   · exact Z02 hx h.bx (by decide) (e ▸ hk)
   · exact Zeu hx h.ao (by decide) hk (by rw [ha];simp [Value.ownBlock,e])
 · exact ownsRow_setCell_other (a:=⟨gb,4,none⟩) hO9 (Z02 hO9 hB1 (by decide)) _
 · have hl2:a.block<X1.heap.size:=hlo a e
   rcases hA9 a e with ⟨b,hb,e2⟩ | ⟨h2,_⟩
   · rw [← e2]
     exact ⟨⟨.inl (h.aa b hb).1.1,(h.aa b hb).1.2⟩,(h.aa b hb).2⟩
   · exact ⟨⟨.inr ⟨h2,by simpa using hl2⟩,by have:=h.fr.size;omega⟩,fun hc=>by have:=h.low a.block hc;omega⟩
 · rcases hk with hk | ⟨a,ha,e⟩
   · exact hn.2 hk
   · have:=(h.aa a ha).1.2
     have:=hn.1;omega
end
end
section
open Go.RowKit
abbrev Z2k:=Z1z (α:=Name) 270 216 1 Name.cells
theorem Zai (k0 : ByteArray) (w : World) : (nilAhead 442 216 (.string k0) "Compare").run Tryz.prog w = .ok (some false) w := by kernel_rfl
theorem Zd4 (k0 : ByteArray) (w : World) : (method 442 216 (.string k0) "Compare").run Tryz.prog w = .ok (265, .string k0) w := by kernel_rfl
def Zb0 (l:List Name) (x:Name) (w:World) (e:Ending) (w':World):Prop:=
 e = .returned (.tuple #[.int .i64 (rank Z0g l x),.bool (has Z0g l x)])∧Below w.heap.size w w'
theorem Z8d (b c:Nat) (sn:Bool) (A:Option Addr) (l:List Name) (x:Name) (w:World) (hS:Z2k w b sn A c l) (hs:Srt Z0g l) (hl:(l.length:Int)≤4611686018427387904) :
 Calls Tryz.prog 199 #[.pointer (some ⟨b,0,none⟩),.string x] w (Zb0 l x w):=by
 have hrd:=hS.rd Name.cells_length;have h0:=hS.cell0;have hb:=hS.lt;clear hS;have HS:=hid hs;have HRD:=hid hrd;clear hs hrd;go_enter Tryz.func199,Tryz.ntmps199;(go_wp2_with fail);go_quiet (fail);(go_wp2_with fail);obtain ⟨W0,hW0⟩ : ∃W0,W0=(w.drewN nq):=⟨_,rfl⟩;(have hB0:Below w.heap.size w W0:=by rw [hW0];exact Below.drewN' (Zm7 _ _) _);rw [← hW0];clear hW0;have HB0:=hid hB0;clear hB0
 go_loopw [6,7] (fun lo hi wr=>∃i j:Nat,lo = .int .i64 i∧hi = .int .i64 j∧i≤j∧j≤l.length∧(∀k,(h:k<l.length)→k<i→Z0g l[k] x<0)∧(∀k,(h:k<l.length)→j≤k→0<Z0g l[k] x)∧Below W0.heap.size W0 wr) (fun lo hi wr=>(intOf hi).toNat - (intOf lo).toNat)
 case atStart=>exact ⟨0,l.length,rfl,rfl,Nat.zero_le _,Zm8 _,fun k _ h=>absurd h (by omega),fun k h h'=>absurd h (by omega),Zm7 _ _⟩
 case round=>
  obtain ⟨i,j,rfl,rfl,hij,hj,hlo,hhi,hB⟩:=hrel;have HLO:=hid hlo;have HHI:=hid hhi;clear hlo hhi;have hsz:w.heap.size≤W0.heap.size:=HB0.out.size;by_cases hlt:i<j
  · obtain ⟨m,hm⟩ : ∃m,m=i+(j - i) / 2:=⟨_,rfl⟩
    (have hml:m<l.length:=by omega);(have hmj:m<j:=by omega);(have hmi:i≤m:=by omega);(have e1:((i:Int)+((j:Int) - (i:Int)) / 2)=(m:Int):=by omega);have E1:=hid e1;clear e1 hm;obtain ⟨g,off,rfl,hgs,hcell⟩:=HRD.out.at_ hml;have low : ∀(p:Addr),p.block<w.heap.size→wr.cell? p=w.cell? p:=fun p hp=>(hB.cell (p:=p) (by omega)).trans (HB0.out.cell (p:=p) hp);have r0:=(low ⟨b,0,none⟩ hb).trans h0;have q0:wr.cell? ⟨g,off+m,none⟩=some (.string l[m]):=(low ⟨g,off+m,none⟩ hgs).trans (by simpa using hcell 0 _ rfl);(have b1:(0:Int)≤(m:Int):=by omega);(have b2:(m:Int)<(l.length:Int):=by omega);have hsw:W0.heap.size≤wr.heap.size:=hB.size;have N:=Zai;have M:=Zd4;clear low hcell h0;have HB:=hid hB;clear hB;obtain ⟨y,hy⟩ : ∃y,y=l[m]:=⟨_,rfl⟩;rw [← hy] at q0;have HY:=hid hy;clear hy;(have hbw:b<wr.heap.size:=by omega);(have hgw:g<wr.heap.size:=by omega);(go_upto_region 4 with (fail));rw [E1.out];(go_wp2_with fail);refine (Ziu y x _).mono ?_;rintro e w1 ⟨rfl,hb1⟩;have HB1:Below W0.heap.size W0 w1:=HB.out.trans (hb1.mono hsw);clear r0 q0 N M;have HB1':=hid HB1;clear HB1;by_cases hc:Z0g y x=0
    · have HC:=hid hc
      (have t1:(Z0g y x == 0)=true:=by simp [hc]);clear hc;(go_wp2_with fail);go_ret2;have e:=HC.out;rw [HY.out] at e;refine ⟨?_,HB0.out.trans (HB1'.out.mono (by omega))⟩;rw [Z4r Z3o HS.out hml e,(Z5h Z3o HS.out hml e).2.2.1];rfl
    · have t1:(Z0g y x == 0)=false:=by simp [hc]
      by_cases hc2:Z0g y x<0
      · have HC:=hid hc2
        (have t2:decide (Z0g y x<0)=true:=by simpa using hc2);clear hc hc2;(go_wp2_with fail);go_roundw
        case rel=>
         refine ⟨m+1,j,by go_num,rfl,by omega,hj,fun k h1 h2=>?_,HHI.out,HB1'.out⟩;have e:=HC.out;rw [HY.out] at e;rcases Nat.lt_or_ge k m with h3 | h3
         · exact Z3o.lt_of_lt_of_le (HS.out.lt h3 hml) (by omega)
         · obtain rfl:k=m:=by omega
           exact e
        case measure=>simp [intOf];omega
      · have t2:decide (Z0g y x<0)=false:=by simpa using hc2
        (have hc3:0<Z0g y x:=by omega);have HC:=hid hc3;clear hc hc2 hc3;(go_wp2_with fail);go_roundw
        case rel=>
         refine ⟨i,m,rfl,rfl,by omega,by omega,HLO.out,fun k h1 h2=>?_,HB1'.out⟩;have e:=HC.out;rw [HY.out] at e;rcases Nat.lt_or_ge m k with h3 | h3
         · exact (Z3o.symm _ _).1 (Z3o.lt_trans ((Z3o.symm _ _).2 e) (HS.out.lt h3 h1))
         · obtain rfl:k=m:=by omega
           exact e
        case measure=>simp [intOf];omega
  · obtain rfl:i=j:=by omega
    have HB:=hid hB;clear hB;(go_wp2_with fail);go_ret2;refine ⟨?_,HB0.out.trans (HB.out.mono (by omega))⟩;rw [Z4q hj HLO.out HHI.out,(Z68 HLO.out HHI.out).2.2];rfl
theorem Zbo:(Tryz.prog.info? 216).map (fun i=>(i.zero,i.size,i.bytes))=some (some (.string ⟨#[]⟩),1,16):=by kernel_rfl
theorem Name.one (x:Name) : ∀u∈Name.cells x,u.oneCell'=true:=by intro u hu;simp [Name.cells] at hu;rcases hu with rfl<;>rfl
theorem Name.oneAll (l:List Name) : ∀u∈l.flatMap Name.cells,u.oneCell'=true:=by intro u hu;obtain ⟨x,_,hx⟩:=List.mem_flatMap.1 hu;exact Name.one x u hx
def Z64 (w:World) (b:Nat) (sn:Bool) (A:Option Addr) (l:List Name) (e:Ending) (w':World):Prop:=
 e = .returned (.tuple #[])∧∃A' c',Z2k w' b false A' c' l∧Fr (· = b) w w'∧Z2w w sn A false A'
theorem Zdh (b c:Nat) (A:Option Addr) (l:List Name) (w:World) (hS:Z2k w b false A c l) :
 Calls Tryz.prog 200 #[.pointer (some ⟨b,0,none⟩)] w (Z64 w b false A l):=by
 have h1:=hS.cell1;have HS:=hid hS;clear hS;go_enter Tryz.func200,Tryz.ntmps200;go_wp2;go_end0;exact ⟨rfl,A,c,HS.out,Fr.refl _ _,.inl ⟨rfl,rfl⟩⟩
theorem Zc4 (b c:Nat) (A:Option Addr) (l:List Name) (w:World) (hS:Z2k w b true A c l) (hl:(l.length:Int)≤1000000000) :
 Calls Tryz.prog 200 #[.pointer (some ⟨b,0,none⟩)] w (Z64 w b true A l):=by
 obtain ⟨i0,hi,hz0,hz1,hz2⟩:=info_parts Zbo;have h0:=hS.cell0;have h1:=hS.cell1;have hb:=hS.lt;have f0:=hS.blk.frozen 0;have f1:=hS.blk.frozen 1;have hrd:=hS.rd Name.cells_length;have HB:=hid hS.blk;have HRD:=hid hrd;clear hS hrd;have e1:IntKind.i64.wrap ((l.length:Int)+1)=(l.length:Int)+1:=Zmh _ (by omega)
 have hmk : ∀W:World,(Instr.makeSlice 268 (.int .i64 0) (.int .i64 ((l.length:Int)+1))).run Tryz.prog W = .ok (.slice (some ⟨W.heap.size,0,none⟩) 0 (l.length+1)) (W.alloc (.cells (madeCells (Value.cells (.string ⟨#[]⟩)) ((l.length+1))) 216)):=fun W=>by
  have h:=run_make (P:=Tryz.prog) W 268 216 i0 _ Tryz.underlying268 hi hz0 .i64 .i64 0 ((l.length:Int)+1) (by omega) (by omega) (by rw [hz2];omega) (by omega);rw [hz1] at h;simpa [show ((l.length:Int)+1).toNat=l.length+1 by omega] using h
 go_enter Tryz.func200,Tryz.ntmps200;(go_wp2_with fail);refine Z0c (fun w9=>Below w.heap.size w w9) [(0,0),(1,0),(2,0),(3,0),(4,1),(5,0),(6,0),(8,0),(9,0),(10,0),(11,1),(7,2),(12,2),(13,0),(14,0),(15,2)] (by kernel_rfl) (by kernel_rfl) (fun KK hKK=>?_);simp only [Z0v,Zmn,Zme,Zml,Zmg,Zmf,Zmo];(repeat ((first | (refine Z0m ?_ (Or.inl ⟨by rfl,fun w9=>?_⟩) ?_;rotate_left 1;go_simp;with_reducible rfl) | (refine Z0l ?_ (((Zm7 _ _).drew)) (Or.inl ⟨by rfl,fun w9 hw9=>?_⟩) ?_;rotate_left 1;obtain ⟨hc9,hf9⟩:=Z1a hw9;go_simp;with_reducible rfl) | refine Z0m undef (Or.inr ⟨by rfl,rfl⟩) ?_ | refine Z0l undef (((Zm7 _ _).drew)) (Or.inr ⟨by rfl,rfl⟩) ?_);go_frame));refine Z2v (fun K9 hK9=>?_);go_simp;refine hK9 _ _ (((Zm7 _ _).drew).alloc (Zm8 _) _) ?_;clear hK9 K9;refine Z1w (by kernel_rfl) (fun K9 hK9=>?_)
 refine Z0s _ (by rfl) _ _ _ (by rfl) 216 i0 _ 1 16 Tryz.underlying268 hi hz0 hz1 hz2 rfl (by omega) _ 0 [] (by rfl) (World.ownsRow_made _ _ _ (Nat.zero_le _) (by unfold maxLen;omega) (by simp [madeCells])) A l.length c (l.flatMap Name.cells) (by rfl) (Z0f Name.cells_length l)
  ((HRD.out.drew.alloc _).news Name.cells_length (by omega)) (Name.oneAll l) (by unfold maxLen;omega) (by omega) ?_
 intro v2 w2 hown hgr hnil hat;refine hK9 _ _ ?_;clear hK9 K9;rw [Zmz,Zmr] at hown;obtain ⟨A',c',rfl,_,_,hz⟩:=Z0y hown;have HB1:=(HB.out.drew.alloc (.cells (madeCells (Value.cells (.string ⟨#[]⟩)) ((l.length+1))) 216)).grown hgr (by simp [Value.ownBlock];omega);have c0:=(HB1.cell 0).trans rfl;have c1:=(HB1.cell 1).trans rfl;have z0:=HB1.frozen 0;have z1:=HB1.frozen 1;have HB2:=hid HB1;clear HB1;(repeat ((first | (refine Z0m ?_ (Or.inl ⟨by rfl,fun w9=>?_⟩) ?_;rotate_left 1;go_simp;with_reducible rfl) | (refine Z0l ?_ (((Zm7 _ _).drew).alloc (Zm8 _) _) (Or.inl ⟨by rfl,fun w9 hw9=>?_⟩) ?_;rotate_left 1;obtain ⟨hc9,hf9⟩:=Z1a hw9;go_simp;with_reducible rfl) | refine Z0m undef (Or.inr ⟨by rfl,rfl⟩) ?_ | refine Z0l undef (((Zm7 _ _).drew).alloc (Zm8 _) _) (Or.inr ⟨by rfl,rfl⟩) ?_);go_frame));refine Z1w (by kernel_rfl) (fun K9 hK9=>?_);go_simp;refine hK9 _ _ ?_;clear hK9 K9;refine Z1b ?_;simp only [Z03];refine hKK _ _ ?_;clear hKK KK;go_wp2;go_end0
 have hb2:(Value.slice A' l.length c').ownBlock=some w.heap.size∨(Value.slice A' l.length c').ownBlock=some (w.heap.size+1):=by
  rcases hat with h | h
  · left;rw [h];rfl
  · right;rw [h];simp
 have hA : ∃g,w.heap.size≤g∧A'=some ⟨g,0,none⟩:=by
  rcases A' with _ | a
  · exfalso;simp [Value.ownBlock] at hb2
  · obtain ⟨g,rfl⟩:=hz a rfl
    refine ⟨g,?_,rfl⟩;simp [Value.ownBlock] at hb2;omega
 obtain ⟨g,hg,rfl⟩:=hA;have HB1:=HB2.out;have HF:Fr (· = b) w w2:=((Fr.refl (· = b) w).drew.alloc _).grown hgr (fun k e=>by simp [Value.ownBlock] at e;right;omega);refine ⟨rfl,some ⟨g,0,none⟩,c',⟨(HB1.set_ 0 _).set_ 1 _,?_⟩,(HF.setCell (p:=⟨b,0,none⟩) (.inl rfl) _).setCell (p:=⟨b,1,none⟩) (.inl rfl) _,.inr ⟨rfl,g,hg,rfl⟩⟩;(have hne:(Value.slice (some ⟨g,0,none⟩) l.length c').ownBlock≠some b:=by simp [Value.ownBlock];omega);exact ownsRow_setCell_other (a:=⟨b,1,none⟩) (ownsRow_setCell_other (a:=⟨b,0,none⟩) hown hne _) hne _
theorem Zjt (b c:Nat) (sn:Bool) (A:Option Addr) (l:List Name) (w:World) (hS:Z2k w b sn A c l) (hl:(l.length:Int)≤1000000000) :
 Calls Tryz.prog 200 #[.pointer (some ⟨b,0,none⟩)] w (Z64 w b sn A l):=by
 cases sn
 · exact Zdh b c A l w hS
 · exact Zc4 b c A l w hS hl
def Z66 (w:World) (b:Nat) (sn:Bool) (A:Option Addr) (l:List Name) (x:Name) (e:Ending) (w':World):Prop:=
 e = .returned (.bool (!has Z0g l x))∧∃sn' A' c',Z2k w' b sn' A' c' (put Z0g l x)∧Fr (Z1d b sn A) w w'∧Z2w w sn A sn' A'
theorem Z9b (b c:Nat) (sn:Bool) (A:Option Addr) (l:List Name) (x:Name) (w:World) (hS:Z2k w b sn A c l) (hs:Srt Z0g l) (hl:(l.length:Int)≤100000000) (hh:has Z0g l x=true) :
 Calls Tryz.prog 179 #[.pointer (some ⟨b,0,none⟩),.string x] w (Z66 w b sn A l x):=by
 have HS:=hid hS;have HO:=hid hs;clear hS hs;go_enter Tryz.func179,Tryz.ntmps179;(go_wp2_with fail);refine (Z8d b c sn A l x _ (HS.out.new_ (Zm7 _ _)) HO.out (by omega)).mono ?_;rintro e w1 ⟨rfl,hb1⟩;(go_wp2_with fail);go_ret;refine ⟨by rw [hh];rfl,sn,A,c,?_,Fr.of_new ((Zm7 _ _).trans (hb1.mono (by simp))),.inl ⟨rfl,rfl⟩⟩;rw [Z4b hh];exact HS.out.new_ ((Zm7 _ _).trans (hb1.mono (by simp)))
theorem Zc8 (b c:Nat) (sn:Bool) (A:Option Addr) (l:List Name) (x:Name) (w:World) (hS:Z2k w b sn A c l) (hs:Srt Z0g l) (hl:(l.length:Int)≤100000000) (hh:has Z0g l x=false) :
 Calls Tryz.prog 179 #[.pointer (some ⟨b,0,none⟩),.string x] w (Z66 w b sn A l x):=by
 obtain ⟨i0,hi,hz0,hz1,hz2⟩:=info_parts Zbo;have HS:=hid hS;have HO:=hid hs;have hb:=hS.lt;clear hS hs;have hrk:=Z6b (cmp:=Z0g) l x;go_enter Tryz.func179,Tryz.ntmps179;(go_wp2_with fail);have hSa:=HS.out.new_ (Zm7 w.heap.size w);have HSa:=hid hSa;clear hSa;refine (Z8d b c sn A l x _ HSa.out HO.out (by omega)).mono ?_;rintro e w1 ⟨rfl,hb1⟩;have HS1:=hid (HSa.out.new_ hb1);(have hsz1:w.heap.size≤w1.heap.size:=by have:=hb1.size;(try simp at this);omega);have HB1:=hid hb1;clear hb1;(go_wp2_with fail);refine (Zjt b c sn A l _ HS1.out (by omega)).mono ?_;rintro e w2 ⟨rfl,A1,c1,hS2,hF2,hM2⟩;have hsz2:w1.heap.size≤w2.heap.size:=hF2.size;have s0:=hS2.cell0;have f0:=hS2.blk.frozen 0;(have hb2:b<w2.heap.size:=by omega);have HS2:=hid hS2;have HF2:=hid hF2;have HM2:=hid hM2;clear hS2 hF2 hM2
 go_upto_region 8 with
  (at_builtin;refine Z07 (w2.alloc (.cells #[.string x] 216)) rfl (.tmp 23) (.tmp 25) 268 rfl 216 i0 _ 1 16 Tryz.underlying268 hi hz0 hz1 hz2 rfl (by omega) (.slice A1 l.length c1) l.length (l.flatMap Name.cells) rfl (Z04 HS2.out.row ((Zm7 _ _).alloc (Zm8 _) _)) (some ⟨w2.heap.size,0,none⟩) 1 1 (Name.cells x) rfl rfl (fun _=>⟨_,rfl,Zmu (heap_alloc_new _ _)⟩) (Name.one x) (by unfold maxLen;omega) (by omega) ?_;
   intro v2 w3 hown hgr hnil hat;
   obtain ⟨g,c2,rfl⟩ : ∃g c2,v2 = .slice (some ⟨g,0,none⟩) (l.length+1) c2:=(by
    rcases Z0b hown with ⟨_,h0,_⟩ | ⟨g,c2,h,_⟩
    · omega
    · exact ⟨g,c2,h⟩);
   have HB3':=(HS2.out.blk.alloc (.cells #[.string x] 216)).grown hgr (Z02 HS2.out.row HS2.out.blk (by decide));
   have c0:=(HB3'.cell 0).trans rfl;
   have z0:=HB3'.frozen 0;
   have HB3:=hid HB3';
   have HOWN:=hid hown;
   have HGR:=hid hgr;
   clear HB3' hown hgr)
 have hlg:((l.length+1:Nat):Int)=(l.length:Int)+1:=by omega
 have hG:(Z1d b sn A g∨w.heap.size≤g)∧Z2w w sn A false (some ⟨g,0,none⟩)∧True∧g≠b:=by
  rcases hat with h | h
  · rcases A1 with _ | a1
    · simp [Value.ownBlock] at h
    · obtain ⟨A',c',hv,_,_,hz⟩:=Z0y HS2.out.row
      injection hv with hv _ _;obtain ⟨g',rfl⟩:=hz a1 hv.symm;(have hgg:g'=g:=by simpa [Value.ownBlock] using h.symm);subst hgg;have hne:g'≠b:=HS2.out.row_ne (by decide) _ rfl;rcases HM2.out with ⟨hsn,hA⟩ | ⟨_,g2,hg2,hA⟩
      · have h1:=HS.out.row_lt _ hA.symm
        exact ⟨.inl (.inr ⟨hsn.symm,_,hA.symm,rfl⟩),.inl ⟨hsn,hA⟩,True.intro,hne⟩
      · injection hA with hA
        injection hA with hA;subst hA;exact ⟨.inr (by omega),.inr ⟨rfl,_,by omega,rfl⟩,True.intro,hne⟩
  · have hgg:g=w2.heap.size+1:=by simpa [Value.ownBlock] using h
    subst hgg;exact ⟨.inr (by omega),.inr ⟨rfl,_,by omega,rfl⟩,True.intro,by omega⟩
 obtain ⟨hgM,hgMv,hgk1,hgb⟩:=hG;obtain ⟨w4,hw4⟩ : ∃w4,w4=w3.setCell ⟨b,0,none⟩ (.slice (some ⟨g,0,none⟩) (l.length+1) c2):=⟨_,rfl⟩;have hB4:Blk w4 b 270 #[.slice (some ⟨g,0,none⟩) (l.length+1) c2,.bool false]:=by rw [hw4];exact HB3.out.set_ 0 _
 have hR4:w4.ownsRow 0 216 1 (.slice (some ⟨g,0,none⟩) (l.length+1) c2) (l.length+1) ((Z0p l x l.length).flatMap Name.cells):=by
  rw [hw4,Z2r];refine ownsRow_setCell_other (a:=⟨b,0,none⟩) ?_ (by simpa [Value.ownBlock] using hgb) _;rw [Zmq,List.flatMap_singleton];exact HOWN.out
 have hF4:Fr (Z1d b sn A) w w4:=by
  rw [hw4];have h1:Fr (Z1d b sn A) w w1:=Fr.of_new ((Zm7 _ _).trans (HB1.out.mono (by simp)));have h2:Fr (Z1d b sn A) w w2:=h1.trans (HF2.out.mono (fun k _ h=>.inl h));refine ((h2.alloc _).grown HGR.out (fun k hk=>?_)).setCell (p:=⟨b,0,none⟩) (.inl (.inl rfl)) _;rcases A1 with _ | a1
  · cases hk
  · simp only [Value.ownBlock,Option.some.injEq] at hk
    subst hk;rcases HM2.out with ⟨hsn,hA⟩ | ⟨_,g',hg',hA⟩
    · left;right;exact ⟨hsn.symm,a1,hA.symm,rfl⟩
    · injection hA with hA
      subst hA;right;dsimp only;omega
 rw [← hw4];have HgM:=hid hgM;have HgMv:=hid hgMv;have HB4:=hid hB4;have HR4:=hid hR4;have HF4:=hid hF4;have s4:=hB4.cell 0;have s4':w4.cell? ⟨b,0,none⟩=some (.slice (some ⟨g,0,none⟩) (l.length+1) c2):=s4;clear s4 hw4 hB4 hR4 hF4 hat hgM hgMv hnil  s0 f0;go_wp2_with fail
 go_loopw [7] (fun s wr=>∃i:Nat,s = .int .i64 i∧rank Z0g l x≤i∧i≤l.length∧wr.ownsRow 0 216 1 (.slice (some ⟨g,0,none⟩) (l.length+1) c2) (l.length+1) ((Z0p l x i).flatMap Name.cells)∧Fr (· = g) w4 wr) (fun s wr=>(intOf s).toNat)
 case atStart=>exact ⟨l.length,by go_num,hrk,Zm8 _,HR4.out,Fr.refl _ _⟩
 case round=>
  obtain ⟨i,rfl,hi1,hi2,hown,hfr⟩:=hrel;have hgw:g<wr.heap.size:=(hown.lt g rfl).2;have r0:wr.cell? ⟨b,0,none⟩=some (.slice (some ⟨g,0,none⟩) (l.length+1) c2):=(hfr.cell (p:=⟨b,0,none⟩) HB4.out.lt (fun h=>hgb h.symm)).trans s4';have fz : ∀o,wr.frozen? ⟨g,o,none⟩=false:=fun o=>hown.frozenAt o;have HOW:=hid hown;have HFR:=hid hfr;clear hown hfr;by_cases hlt:rank Z0g l x<i
  · obtain ⟨j,rfl⟩ : ∃j,i=j+1:=⟨i - 1,by omega⟩
    (have hj:j<l.length:=by omega);have hrd:=Z0x (A:=some ⟨g,0,none⟩) (c:=c2) (l:=Z0p l x (j+1)) Name.cells_length (by rw [Z0a l x hi2];exact HOW.out);obtain ⟨g',o',hgo,_,hcell⟩:=hrd.at_ (k:=j) (by rw [Z0a l x hi2];omega);injection hgo with hgo;injection hgo with hg1 hg2;subst hg1;subst hg2;rw [Z34 l x hj] at hcell;have q0:wr.cell? ⟨g,j,none⟩=some (.string l[j]):=by simpa using hcell 0 _ rfl
    have rmj:Room wr g 216 (c2*1)∧l.length+1≤c2:=by
     rcases Z0b HOW.out with ⟨hv,_⟩ | ⟨g',cap,hv,hn,_,hr,_⟩
     · cases hv
     · injection hv with hA _ hc
       injection hA with hA;injection hA with hA;subst hA;subst hc;exact ⟨hr,hn⟩
    obtain ⟨hrm,hcap⟩:=rmj;obtain ⟨u0,t0⟩:=hrm.cell (i:=(j+1)) (by omega);(have b0:(0:Int)≤(j:Int)+1:=by omega);(have b1:(0:Int)≤(j:Int):=by omega);(have b4:(j:Int)<(l.length:Int):=by omega);(have b2:(j:Int)<(l.length:Int)+1:=by omega);(have b3:(j:Int)+1<(l.length:Int)+1:=by omega);have w1:IntKind.i64.wrap ((j:Int))=(j:Int):=Zmh _ (by omega);(have w2:IntKind.i64.wrap ((j:Int)+1 - 1)=(j:Int):=by rw [Zmh _ (by omega)];omega);clear hcell hrd hrm;obtain ⟨y,hy⟩ : ∃y,y=l[j]:=⟨_,rfl⟩;rw [← hy] at q0;have HY:=hid hy;have hbw:b<wr.heap.size:=Zmj wr _ r0;clear hy;(go_wp2_with fail);refine Z0c (fun w9=>Below wr.heap.size wr w9) [(0,0),(1,0),(2,0),(3,1),(4,0),(5,0),(6,0),(7,0),(8,1),(9,0),(10,0),(11,0),(12,1),(13,0),(14,2)] (by kernel_rfl) (by kernel_rfl) (fun KK hKK=>?_);simp only [Z0v,Zmn,Zme,Zml,Zmg,Zmf,Zmo];(repeat ((first | (refine Z0m ?_ (Or.inl ⟨by rfl,fun w9=>?_⟩) ?_;rotate_left 1;go_simp;with_reducible rfl) | (refine Z0l ?_ (((Zm7 _ _).drew)) (Or.inl ⟨by rfl,fun w9 hw9=>?_⟩) ?_;rotate_left 1;obtain ⟨hc9,hf9⟩:=Z1a hw9;go_simp;with_reducible rfl) | refine Z0m undef (Or.inr ⟨by rfl,rfl⟩) ?_ | refine Z0l undef (((Zm7 _ _).drew)) (Or.inr ⟨by rfl,rfl⟩) ?_);go_frame));refine Z1w (by kernel_rfl) (fun K9 hK9=>?_);go_simp;refine hK9 _ _ ?_;clear hK9 K9;refine Z1b ?_;simp only [Z03];refine hKK _ _ ?_;clear hKK KK;(go_wp2_with fail);go_roundw
    case rel=>
     refine ⟨j,by go_num,by omega,by omega,?_,Fr.drew ((HFR.out).setCell (p:=⟨g,(j+1),none⟩) (.inl rfl) (_))⟩;have hst:=((HOW.out).stored ((j+1)) (.string y)).1
     have he:setAll ((Z0p l x (j+1)).flatMap Name.cells) ((j+1)) (Name.cells y)=(Z0p l x j).flatMap Name.cells:=by
      rw [Z47 Name.cells_length (by omega) _ (j+1) (by rw [Z0a l x hi2];omega),HY.out,Z35 l x hj]
     rw [← he];exact hst
    case measure=>simp [intOf]<;>omega
  · obtain rfl:i=rank Z0g l x:=by omega
    have rmj:Room wr g 216 (c2*1)∧l.length+1≤c2:=by
     rcases Z0b HOW.out with ⟨hv,_⟩ | ⟨g',cap,hv,hn,_,hr,_⟩
     · cases hv
     · injection hv with hA _ hc
       injection hA with hA;injection hA with hA;subst hA;subst hc;exact ⟨hr,hn⟩
    obtain ⟨hrm,hcap⟩:=rmj;obtain ⟨k,hk⟩ : ∃k,k=rank Z0g l x:=⟨_,rfl⟩;rw [← hk] at hi2 hlt ⊢;obtain ⟨u0,t0⟩:=hrm.cell (i:=k) (by omega);(have b1:(0:Int)≤(k:Int):=by omega);(have b2:(k:Int)<(l.length:Int)+1:=by omega);have HK:=hid hk;have hbw:b<wr.heap.size:=Zmj wr _ r0;clear hrm hk;(go_wp2_with fail);go_ret;have HOWk:=HOW.out;rw [← HK.out] at HOWk;have hst:=((HOWk).stored (k) (.string x)).1
    have he:setAll ((Z0p l x k).flatMap Name.cells) (k) (Name.cells x)=(put Z0g l x).flatMap Name.cells:=by
     rw [Z47 Name.cells_length (by omega) _ k (by rw [Z0a l x hi2];omega),Z3n l x hi2,Z8s Z3o HO.out hh,HK.out]
    have hln:=Z3m Z3o HO.out hh;refine ⟨by rw [hh];rfl,false,some ⟨g,0,none⟩,c2,⟨?_,?_⟩,?_,?_⟩
    · rw [hln]
      exact (HB4.out.fr HFR.out (fun h=>hgb h.symm)).far (p:=⟨g,k,none⟩) (fun h=>hgb h.symm) _
    · rw [hln,← he]
      exact hst
    · exact HF4.out.into (((HFR.out).setCell (p:=⟨g,k,none⟩) (.inl rfl) (_))) (fun k hk=>by subst hk;exact HgM.out)
    · exact HgMv.out
theorem Zen (b c:Nat) (sn:Bool) (A:Option Addr) (l:List Name) (x:Name) (w:World) (hS:Z2k w b sn A c l) (hs:Srt Z0g l) (hl:(l.length:Int)≤100000000) :
 Calls Tryz.prog 179 #[.pointer (some ⟨b,0,none⟩),.string x] w (Z66 w b sn A l x):=by
 cases hh:has Z0g l x
 · exact Zc8 b c sn A l x w hS hs hl hh
 · exact Z9b b c sn A l x w hS hs hl hh
theorem Zg8 (b c:Nat) (sn:Bool) (A:Option Addr) (l:List Name) (x:Name) (w:World) (hS:Z2k w b sn A c l) (hs:Srt Z0g l) (hl:(l.length:Int)≤1000000000) :
 Calls Tryz.prog 204 #[.pointer (some ⟨b,0,none⟩),.string x] w (Zb0 l x w):=by
 have HS:=hid hS;have HO:=hid hs;clear hS hs;go_enter Tryz.func204,Tryz.ntmps204;(go_wp2_with fail);refine (Z8d b c sn A l x _ (HS.out.new_ (Zm7 _ _)) HO.out (by omega)).mono ?_;rintro e w1 ⟨rfl,hb1⟩;(go_wp2_with fail);go_ret2;exact ⟨rfl,(Zm7 _ _).trans (hb1.mono (by simp))⟩
def Z9v (w:World) (b:Nat) (A:Option Addr) (c:Nat) (l:List Name) (e:Ending) (w':World):Prop:=
 ∃k,e = .returned (.pointer (some ⟨k,0,none⟩))∧w.heap.size≤k∧Z2k w' b true A c l∧Z2k w' k true A c l∧Fr (· = b) w w'
theorem Zfj (b c:Nat) (sn:Bool) (A:Option Addr) (l:List Name) (w:World) (hS:Z2k w b sn A c l) :
 Calls Tryz.prog 201 #[.pointer (some ⟨b,0,none⟩)] w (Z9v w b A c l):=by
 have s0:=hS.cell0;have s1:=hS.cell1;have f1:=hS.blk.frozen 1;have hb:=hS.lt;have HS:=hid hS;clear hS;go_enter Tryz.func201,Tryz.ntmps201;go_wp2;go_ret;have h1:Z2k (w.setCell ⟨b,1,none⟩ (.bool true)) b true A c l:=⟨HS.out.blk.set_ 1 _,ownsRow_setCell_other HS.out.row (Z02 HS.out.row HS.out.blk (by decide)) _⟩;refine ⟨w.heap.size,by simp,Zm8 _,h1.new_ ((Zm7 _ _).alloc (Zm8 _) _),⟨?_,Z04 h1.row ((Zm7 _ _).alloc (Zm8 _) _)⟩,((Fr.refl (· = b) w).setCell (p:=⟨b,1,none⟩) (.inl rfl) _).alloc _⟩;have h2:=Blk.new (w.setCell ⟨b,1,none⟩ (.bool true)) 270 #[.slice A l.length c,.bool true];simpa using h2
def Zcl (w:World) (xs:List Name) (e:Ending) (w':World):Prop:=
 ∃k,e = .returned (.pointer (some ⟨k,0,none⟩))∧w.heap.size≤k∧∃sn A c,Z2k w' k sn A c (puts Z0g [] xs)∧AIn A (w.heap.size≤·)∧Below w.heap.size w w'
theorem Zjl (A:Option Addr) (c:Nat) (xs:List Name) (w:World) (hrd:Z18 w 1 Name.cells A c xs) (hl:(xs.length:Int)≤10000000) :
 Calls Tryz.prog 137 #[.slice A xs.length c] w (Zcl w xs):=by
 have HRD:=hid hrd;clear hrd;go_enter Tryz.func137,Tryz.ntmps137;(go_wp2_with fail);obtain ⟨W0,hW0⟩ : ∃W0,W0=w.alloc (.cells #[.slice none 0 0,.bool false] 270):=⟨_,rfl⟩;(have hb0:Below w.heap.size w W0:=by rw [hW0];exact (Zm7 _ _).alloc (Zm8 _) _);have hS0:Z2k W0 w.heap.size false none 0 []:=⟨by rw [hW0];exact Blk.new _ _ _,⟨by simp,.inl ⟨rfl,rfl⟩⟩⟩;rw [← hW0];clear hW0;have HB0:=hid hb0;have HS0:=hid hS0;clear hb0 hS0
 go_loopw [10] (fun s wr=>∃i:Nat,s = .int .i64 i∧i≤xs.length∧∃sn A' c',Z2k wr w.heap.size sn A' c' (puts Z0g [] (xs.take i))∧AIn A' (w.heap.size≤·)∧Below w.heap.size w wr) (fun s wr=>xs.length - (intOf s).toNat)
 case atStart=>exact ⟨0,rfl,Nat.zero_le _,false,none,0,HS0.out,AIn.none_ _,HB0.out⟩
 case round=>
  obtain ⟨i,rfl,hi,sn,A',c',hS,hA',hB⟩:=hrel;have HS:=hid hS;have HA:=hid hA';have HB:=hid hB;clear hS hA' hB;by_cases hlt:i<xs.length
  · obtain ⟨x,hx⟩ : ∃x,x=xs[i]:=⟨_,rfl⟩
    obtain ⟨g,off,rfl,hgs,hcell⟩:=(HRD.out.fr (Fr.of_new (M:=fun _=>False) HB.out) (fun _ _ h=>h)).at_ hlt;rw [← hx] at hcell;(have q0:wr.cell? ⟨g,off+i,none⟩=some (.string x):=by simpa using hcell 0 _ rfl);(have b1:(0:Int)≤(i:Int):=by omega);(have b2:(i:Int)<(xs.length:Int):=by omega);have HX:=hid hx;clear hcell hx;(go_wp2_with fail);have hsr:=Srt.puts Z3o (xs.take i) (Srt.nil (cmp:=Z0g))
    have hlen:(((puts Z0g [] (xs.take i)).length:Nat):Int)≤100000000:=by
     have:=Z12 Z3o (xs.take i) (Srt.nil (cmp:=Z0g));simp at this;omega
    refine (Zen w.heap.size c' sn A' _ x _ (HS.out.new_ (Zm7 _ _)) hsr hlen).mono ?_;rintro e w1 ⟨rfl,sn2,A2,c2,hS2,hF2,hM2⟩
    have hB1:Below w.heap.size w w1:=(HB.out).trans (hF2.below (by have:=HB.out.size;(try simp);omega) (fun k hk hm=>by
     rcases hm with hm | ⟨_,a,ha,hm⟩
     · omega
     · have:=HA.out a ha;omega))
    have hA2:AIn A2 (w.heap.size≤·):=by
     rcases hM2 with ⟨_,rfl⟩ | ⟨_,g2,hg2,rfl⟩
     · exact HA.out
     · intro a ha;cases ha;have:=HB.out.size;(try simp at hg2 ⊢);omega
    have HS2:=hid hS2;have HB1:=hid hB1;have HA2:=hid hA2;clear hS2 hB1 hA2 hF2 hM2 hsr hlen q0;(go_wp2_with fail);go_roundw
    case rel=>
     refine ⟨i+1,by go_num,by omega,sn2,A2,c2,?_,HA2.out,HB1.out⟩;rw [Zn8,Zmc hlt,← HX.out];simp only [Option.toList_some,Z2q];exact HS2.out
    case measure=>simp [intOf]<;>omega
  · have hie:i=xs.length:=by omega
    subst hie;(go_wp2_with fail);go_ret;refine ⟨w.heap.size,rfl,Zm8 _,sn,A',c',?_,HA.out,HB.out⟩;have:=HS.out;rwa [Zmt] at this
abbrev Z2f:=Sets (α:=Name) 270 216 1 Name.cells Z0g
section
variable {D:Nat→Prop} {w:World} {S:Nat→Option (List Name)} {σ:Nat→St} {b:Nat} {l:List Name}
def Zci (D:Nat→Prop) (w:World) (S:Nat→Option (List Name)) (σ:Nat→St) (b:Nat) (l:List Name) (w':World):Prop:=
 ∃σ',Z2f D w' (upd S b (some l)) σ'∧(∀k,k≠b→σ' k=σ k)∧Fr (fun k=>¬D k) w w'∧Fr (Z1d b (σ b).sn (σ b).A) w w'
theorem Zi8 (x:Name) (h:Z2f D w S σ) (hb:S b=some l) (hl:(l.length:Int)≤100000000) :
 Calls Tryz.prog 179 #[.pointer (some ⟨b,0,none⟩),.string x] w fun e w'=>e = .returned (.bool (!has Z0g l x))∧Zci D w S σ b (put Z0g l x) w':=by
 refine (Zen b _ _ _ l x w (h.at_ b l hb) (h.srt b l hb) hl).mono ?_;rintro e w' ⟨he,sn',A',c',h1,hF,hM⟩;exact ⟨he,_,h.moved (by decide) hb h1 ((h.srt b l hb).put Z3o x) hF hM,fun k hk=>Z1p _ _ hk,h.mod hb hF,hF⟩
def Zin (D:Nat→Prop) (w:World) (S:Nat→Option (List Name)) (_:Nat→St) (l:List Name) (e:Ending) (w':World):Prop:=
 ∃k,e = .returned (.pointer (some ⟨k,0,none⟩))∧w.heap.size≤k∧(∀b l,S b=some l→b≠k)∧∃σ',Z2f D w' (upd S k (some l)) σ'∧Fr (fun k=>¬D k) w w'
theorem Zi7 (A:Option Addr) (c:Nat) (xs:List Name) (h:Z2f D w S σ) (hrd:Z18 w 1 Name.cells A c xs) (hl:(xs.length:Int)≤10000000) :
 Calls Tryz.prog 137 #[.slice A xs.length c] w fun e w'=>Zin D w S σ (puts Z0g [] xs) e w'∧Below w.heap.size w w':=by
 refine (Zjl A c xs w hrd hl).mono ?_;rintro e w' ⟨k,he,hk,sn,A',c',h1,hA,hB⟩;exact ⟨⟨k,he,hk,fun b l hb e=>by have:=h.lt hb;omega,_,h.add hk h1 (Srt.puts Z3o xs Srt.nil) (.inl hA) hB,Fr.of_new hB⟩,hB⟩
theorem Zdr (h:Z2f D w S σ) (hb:S b=some l) :
 Calls Tryz.prog 201 #[.pointer (some ⟨b,0,none⟩)] w fun e w'=>∃k,e = .returned (.pointer (some ⟨k,0,none⟩))∧w.heap.size≤k∧(∀b l,S b=some l→b≠k)∧
  ∃σ',Z2f D w' (upd S k (some l)) σ'∧(∀j,j≠k→j≠b→σ' j=σ j)∧(σ' b).sn=true∧(σ' b).A=(σ b).A∧(σ' k).sn=true∧(σ' k).A=(σ b).A∧Fr (fun k=>¬D k) w w'∧Fr (· = b) w w':=by
 refine (Zfj b _ _ _ l w (h.at_ b l hb)).mono ?_;rintro e w' ⟨k,he,hk,h1,h2,hF⟩;(have hnb:b≠k:=fun e=>by have:=h.lt hb;omega);have hD:Fr (fun k=>¬D k) w w':=hF.mono (fun k _ hk=>by rw [hk];exact (h.out b l hb).1);have hs:=h.seen (by decide) hb h1 hF;have hrow:=(h.at_ b l hb).row_lt;refine ⟨k,he,hk,fun b l hb e=>by have:=h.lt hb;omega,upd (upd σ b ⟨true,(σ b).A,(σ b).c⟩) k ⟨true,(σ b).A,(σ b).c⟩,⟨fun j m hj=>?_,fun j m hj=>?_,fun j m hj=>?_,fun j m j' m' hj hj' hjj hsj a a' ha ha'=>?_,hs.low⟩,fun j h1 h2=>by rw [Z1p _ _ h1,Z1p _ _ h2],by rw [Z1p _ _ hnb,Z0o],by rw [Z1p _ _ hnb,Z0o],by rw [Z0o],by rw [Z0o],hD,hF⟩
 · by_cases e:j=k
   · subst e;rw [Z0o] at hj ⊢;cases hj;exact h2
   · rw [Z1p _ _ e] at hj ⊢;exact hs.at_ j m hj
 · by_cases e:j=k
   · subst e;rw [Z0o] at hj;cases hj;exact h.srt b l hb
   · rw [Z1p _ _ e] at hj;exact h.srt j m hj
 · by_cases e:j=k
   · subst e;rw [Z0o] at hj ⊢;cases hj
     exact ⟨fun hd=>by have:=h.low _ hd;omega,fun hs2=>by cases hs2⟩
   · rw [Z1p _ _ e] at hj ⊢;exact hs.out j m hj
 · by_cases e:j=k
   · subst e;rw [Z0o] at hsj;cases hsj
   · rw [Z1p _ _ e] at hj hsj ha
     by_cases e2:j'=k
     · subst e2
       rw [Z0o] at ha';by_cases e3:j=b
       · subst e3;rw [Z0o] at hsj;cases hsj
       · exact hs.apart j m b l hj hb e3 hsj a a' ha (by rw [Z0o];exact ha')
     · rw [Z1p _ _ e2] at hj' ha'
       exact hs.apart j m j' m' hj hj' hjj hsj a a' ha ha'
end
end
section
open Go.RowKit Go.Shelf
structure KnS (W:World) (S:Nat→Option (List Name)) (kb sb:Nat) (K:Kn) (A:Option Addr) (c:Nat):Prop where
 blk:Blk W kb 218 #[.pointer (some ⟨sb,0,none⟩),.slice A K.2.length c]
 row:W.ownsRow 0 9 1 (.slice A K.2.length c) K.2.length (K.2.map Value.string)
 set:S sb=some K.1
theorem Zh9 {D:Nat→Prop} {W:World} {S:Nat→Option (List Name)} {σ:Nat→St} {kb sb:Nat} {K:Kn} {A:Option Addr} {c:Nat} (v:ByteArray) (hN:Z2f D W S σ) (hK:KnS W S kb sb K A c) (hl:(K.1.length:Int)≤1000000) :
 Calls Tryz.prog 182 #[.pointer (some ⟨kb,0,none⟩),.string v] W fun e W'=>e = .returned (.bool (hasK K v))∧Below W.heap.size W W':=by
 have s0:W.cell? ⟨kb,0,none⟩=some (.pointer (some ⟨sb,0,none⟩)):=(hK.blk.cell 0).trans rfl;have hkl:=hK.blk.lt;have HS:=hid (hN.at_ sb K.1 hK.set);have HO:=hid (hN.srt sb K.1 hK.set);clear hN hK;go_enter Tryz.func182,Tryz.ntmps182;(go_wp2_with fail);refine (Zg8 sb _ _ _ K.1 v _ HS.out HO.out (by omega)).mono ?_;rintro e w1 ⟨rfl,hb1⟩;(go_wp2_with fail);go_ret;exact ⟨rfl,hb1⟩
theorem Zha {D:Nat→Prop} {W:World} {S:Nat→Option (List Name)} {σ:Nat→St} {kb sb:Nat} {K:Kn} {A:Option Addr} {c:Nat} (hN:Z2f D W S σ) (hK:KnS W S kb sb K A c) :
 Calls Tryz.prog 180 #[.pointer (some ⟨kb,0,none⟩)] W fun e W'=>∃kb' sb',e = .returned (.pointer (some ⟨kb',0,none⟩))∧W.heap.size≤kb'∧W.heap.size≤sb'∧(∃σ',Z2f D W' (upd S sb' (some K.1)) σ')∧KnS W' (upd S sb' (some K.1)) kb' sb' (K.1,[]) none 0∧Fr (fun j=>¬D j) W W'∧Fr (· = sb) W W':=by
 have s0:W.cell? ⟨kb,0,none⟩=some (.pointer (some ⟨sb,0,none⟩)):=(hK.blk.cell 0).trans rfl;have hkl:=hK.blk.lt;have HN:=hid hN;have HS:=hid hK.set;clear hN hK;go_enter Tryz.func180,Tryz.ntmps180;(go_wp2_with fail);refine (Zdr HN.out HS.out).mono ?_;rintro e w1 ⟨k,rfl,hk,_,σ',h1,_,_,_,_,_,hF,hFb⟩;have H1:=hid h1;have HF:=hid hF;have HFb:=hid hFb;clear h1 hF hFb;(go_wp2_with fail);go_ret;have hn:Below w1.heap.size w1 (w1.alloc (.cells #[.pointer (some ⟨k,0,none⟩),.slice none 0 0] 218)):=(Zm7 _ _).alloc (Zm8 _) _;exact ⟨w1.heap.size,k,rfl,HF.out.size,hk,⟨σ',H1.out.below hn⟩,⟨Blk.new _ _ _,Z5t _ _ _ _,Z0o _ _ _⟩,HF.out.trans (Fr.of_new hn),HFb.out.trans (Fr.of_new hn)⟩
theorem Zhb {D:Nat→Prop} {W:World} {S:Nat→Option (List Name)} {σ:Nat→St} {kb sb:Nat} {K:Kn} {A:Option Addr} {c:Nat} (a:Z2j) (hN:Z2f D W S σ) (hK:KnS W S kb sb K A c) (hl:(K.1.length:Int)≤1000000) :
 Calls Tryz.prog 139 #[.pointer (some ⟨kb,0,none⟩),.agg #[.string a.var,.int .i64 a.sym.kind,.string a.sym.text,.int .i64 a.sym.n]] W fun e W'=>e = .returned (.bool (Z2y K a))∧Below W.heap.size W W':=by
 have HN:=hid hN;have HK:=hid hK;clear hN hK;by_cases hv:a.var.toList = []
 · have v1:(a.var.toList == [])=true:=by simp [hv]
   (have v2:a.var.toList.isEmpty=true:=by simp [hv]);(have v3:decide (a.var.toList = [])=true:=by simp [hv]);have HR:=hid (show Z2y K a=false by simp [Z2y,hv]);clear hv;go_enter Tryz.func139,Tryz.ntmps139;(go_wp2_with fail);go_ret;exact ⟨by rw [HR.out]<;>rfl,(Zm7 _ _).alloc (Zm8 _) _⟩
 · have v1:(a.var.toList == [])=false:=by simp [hv]
   (have v2:a.var.toList.isEmpty=false:=by simp [hv]);(have v3:decide (a.var.toList = [])=false:=by simp [hv]);have HR:=hid (show Z2y K a = !hasK K a.var by simp [Z2y,hv]);clear hv;go_enter Tryz.func139,Tryz.ntmps139;(go_wp2_with fail);have hb:=(Zm7 W.heap.size W).alloc (Zm8 _) (.cells #[.string a.var,.int .i64 a.sym.kind,.string a.sym.text,.int .i64 a.sym.n] 91);refine (Zh9 a.var (HN.out.below hb) ⟨HK.out.blk.new_ hb,Z04 HK.out.row hb,HK.out.set⟩ hl).mono ?_;rintro e w1 ⟨rfl,hb1⟩;have HB:=hid (hb.trans (hb1.mono (by simp)));clear hb hb1;(go_wp2_with fail);go_ret;exact ⟨by rw [HR.out]<;>rfl,HB.out⟩
theorem Sets.off_of {α:Type} {tSet tE size:Nat} {cells:α→List Value} {cmp:α→α→Int} {D:Nat→Prop} {w:World} {S:Nat→Option (List α)} {σ:Nat→St} {k:Nat} {t:TypeId} {cs:Array Value} (h:Sets tSet tE size cells cmp D w S σ) (hB:Blk w k t cs) (n1:t≠tSet) (n2:t≠tE):Off k S σ:=
 fun b l hb=>⟨fun e=>hB.ne_ (h.at_ b l hb).blk n1 e.symm,fun a ha e=>by
  have:=Z02 (h.at_ b l hb).row hB (Ne.symm n2);rw [ha] at this
  exact this (by simp [Value.ownBlock,e])⟩
theorem Sets.offM {α:Type} {tSet tE size:Nat} {cells:α→List Value} {cmp:α→α→Int} {D M:Nat→Prop} {w w':World} {S:Nat→Option (List α)} {σ:Nat→St} (h:Sets tSet tE size cells cmp D w S σ) (ho : ∀q,M q→Off q S σ) (hF:Fr M w w'):Sets tSet tE size cells cmp D w' S σ:=
 ⟨fun b l hb=>(h.at_ b l hb).fr hF (fun hd=>(ho b hd b l hb).1 rfl) (fun a ha hd=>(ho _ hd b l hb).2 a ha rfl),h.srt,h.out,h.apart,fun k hk=>Zma (h.low k hk) hF.size⟩
theorem Zju {α:Type} {tSet tE size:Nat} {cells:α→List Value} {w w':World} {b:Nat} {sn:Bool} {A:Option Addr} {c:Nat} {l:List α} {e sz n:Nat} {v:Value} {xs:List Value} (hS:Z1z tSet tE size cells w b sn A c l) (h:w.ownsRow 0 e sz v n xs) (n1:e≠tSet) (n2:e≠tE) (hF:Fr (Z1d b sn A) w w'):w'.ownsRow 0 e sz v n xs:=
 ⟨h.1,h.2.imp id fun ⟨g,cap,cur,hv,h0,hg,hr⟩=>⟨g,cap,cur,hv,h0,Blk.fr (t:=e) hg hF (Zgt hS hg n1 n2),hr⟩⟩
theorem Zjn {Y:World} {t:TypeId} {cs:List Value} {k:Nat} (hk:Y.heap.size=k) : ∀(j:Nat) (u:Value),cs[j]? = some u→(Y.alloc (.cells cs.toArray t)).cell? ((⟨k,0,none⟩:Addr).add j)=some u:=by
 subst hk;exact Zmu (heap_alloc_new _ _)
def Zkg (D:Nat→Prop) (W:World) (S:Nat→Option (List Name)) (kb sb:Nat) (K:Kn) (v:ByteArray) (W':World):Prop:=
 ∃σ' A' c',Z2f D W' (upd S sb (some (metK K v).1)) σ'∧KnS W' (upd S sb (some (metK K v).1)) kb sb (metK K v) A' c'∧AIn A' (fun j=>¬D j)∧Fr (fun j=>¬D j) W W'
theorem Zj9:(Tryz.prog.info? 9).map (fun i=>(i.zero,i.size,i.bytes))=some (some (.string ⟨#[]⟩),1,16):=by kernel_rfl
theorem Zkv {D:Nat→Prop} {W:World} {S:Nat→Option (List Name)} {σ:Nat→St} {kb sb:Nat} {K:Kn} {A:Option Addr} {c:Nat} (v:ByteArray) (hN:Z2f D W S σ) (hK:KnS W S kb sb K A c) (hkD : ¬D kb) (hAD:AIn A (fun j=>¬D j)) (hl:(K.1.length:Int)≤1000000) (hl2:(K.2.length:Int)≤1000000) :
 Calls Tryz.prog 202 #[.pointer (some ⟨kb,0,none⟩),.string v] W fun e W'=>e = .returned (.tuple #[])∧Zkg D W S kb sb K v W':=by
 obtain ⟨i0,hi0,hz0,hz1,hz2⟩:=info_parts Zj9;have s0:W.cell? ⟨kb,0,none⟩=some (.pointer (some ⟨sb,0,none⟩)):=(hK.blk.cell 0).trans rfl;have hkl:=hK.blk.lt;have HN:=hid hN;have HK:=hid hK;have HAD:=hid hAD;have HKD:=hid hkD;have HSA:=hid (hN.at_ sb K.1 hK.set);clear hN hK hAD hkD;go_enter Tryz.func202,Tryz.ntmps202;(go_wp2_with fail);refine (Zi8 v HN.out HK.out.set (by omega)).mono ?_;rintro e w1 ⟨rfl,σ',h1,_,hF,hFb⟩;have hkb1:=HK.out.blk.fr hFb (Zgt HSA.out HK.out.blk (by decide) (by decide));have hrw1:=Zju HSA.out HK.out.row (by decide) (by decide) hFb;have H1:=hid h1;have HF:=hid hF;have HKB:=hid hkb1;have HRW:=hid hrw1;clear h1 hF hFb;cases hh:has Z0g K.1 v
 · have hm:metK K v=(put Z0g K.1 v,K.2 ++ [v]):=by unfold metK;rw [hh];rfl
   have HM:=hid hm;have s1:w1.cell? ⟨kb,1,none⟩=some (.slice A K.2.length c):=(hkb1.cell 1).trans rfl;have f1:=hkb1.frozen 1;have hkl1:=hkb1.lt;have hlt1:=HF.out.size;clear hm hh hkb1 hrw1 s0;(go_wp2_with (at_builtin;refine Z07 _ rfl (.tmp 14) (.tmp 16) 114 rfl 9 i0 _ 1 16 Tryz.underlying114 hi0 hz0 hz1 hz2 rfl (by omega) (.slice A K.2.length c) K.2.length (K.2.map Value.string) rfl (Z04 HRW.out ((Zm7 _ _).alloc (Zm8 _) _)) _ 1 1 [.string v] rfl rfl (fun _=>⟨_,rfl,Zjn (by simp)⟩) (by intro u hu;simp at hu;subst hu;rfl) (by unfold maxLen;omega) (by omega) ?_;intro v' w4 hown hg hnil hat;obtain ⟨A',c',rfl,_,_,_⟩:=Z0y hown;have hkb4:=(HKB.out.alloc (.cells #[.string v] 9)).grown hg (Z02 HRW.out HKB.out (by decide));have s1:=(hkb4.cell 1).trans rfl;have f1:=hkb4.frozen 1;have hkl1:=hkb4.lt;have HKB4:=hid hkb4;have HO4:=hid hown;have HG4:=hid hg;have HAT:=hid hat;clear hkb4 hown hg hnil hat));go_end0;refine ⟨rfl,?_⟩;unfold Zkg;rw [HM.out];have hfr:Fr (fun j=>(Value.slice A K.2.length c).ownBlock=some j∨j=kb) w1 (w4.setCell ⟨kb,1,none⟩ (.slice A' (K.2.length+1) c')):=(((Fr.refl _ w1).alloc _).grown HG4.out (fun k hk=>.inl (.inl hk))).setCell (p:=⟨kb,1,none⟩) (.inl (.inr rfl)) _
   have hoff : ∀k,((Value.slice A K.2.length c).ownBlock=some k∨k=kb)→Off k (upd S sb (some (put Z0g K.1 v))) σ':=by
    intro k hk;rcases hk with hk | rfl
    · rcases HRW.out.2 with ⟨hv,_⟩ | ⟨g,cap,cur,hv,_,hg,_⟩
      · rw [hv] at hk;simp [Value.ownBlock] at hk
      · rw [hv] at hk
        (have e:g=k:=by simpa [Value.ownBlock] using hk);subst e;exact H1.out.off_of (t:=9) hg (by decide) (by decide)
    · exact H1.out.off_of HKB.out (by decide) (by decide)
   refine ⟨σ',A',c',H1.out.offM hoff hfr,⟨?_,?_,Z0o _ _ _⟩,?_,HF.out.trans (hfr.mono (fun j _ hj=>?_))⟩
   · have:=HKB4.out.set_ 1 (.slice A' (K.2.length+1) c')
     rw [Zmd];exact this
   · have h9:=ownsRow_setCell_other (a:=⟨kb,1,none⟩) HO4.out (Z02 HO4.out HKB4.out (by decide)) (.slice A' (K.2.length+1) c')
     rw [Zmd,Znd];exact h9
   · intro a ha hd
     subst ha;have hlow:=H1.out.low _ hd;rcases HAT.out with h | h
     · rcases A with _ | b
       · simp [Value.ownBlock] at h
       · have e:a.block=b.block:=by simpa [Value.ownBlock] using h
         exact HAD.out b rfl (e ▸ hd)
     · have e:a.block=w1.heap.size+1:=by simpa [Value.ownBlock] using h
       omega
   · rcases hj with hj | rfl
     · rcases A with _ | b
       · simp [Value.ownBlock] at hj
       · have e:b.block=j:=by simpa [Value.ownBlock] using hj
         exact fun hd=>HAD.out b rfl (e ▸ hd)
     · exact HKD.out
 · have hm:metK K v=(put Z0g K.1 v,K.2):=by unfold metK;rw [hh];rfl
   have HM:=hid hm;clear hm hh;(go_wp2_with fail);go_end0;refine ⟨rfl,?_⟩;unfold Zkg;rw [HM.out];exact ⟨σ',A,c,H1.out,⟨HKB.out,HRW.out,Z0o _ _ _⟩,HAD.out,HF.out⟩
end
end Go.Proofs.YtfidcfjcmlgkbaaGreat
