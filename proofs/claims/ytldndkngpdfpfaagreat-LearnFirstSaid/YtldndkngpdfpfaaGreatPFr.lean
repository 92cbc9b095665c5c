/-
  Texts put together: BkFind0, FindBnum, OpsBnum, PutBnum, NewBnum, SeenFrom, FindPgR, IterPgR, OpsPgR, ListPgR, SeqP.
-/
import Derived.Test.YtldndkngpdfpfaaGreatPFq
namespace Go.Proofs.YtldndkngpdfpfaaGreat
open Lib (hid)
set_option maxRecDepth 100000
set_option maxHeartbeats 32000000
section
open Go.RowKit
theorem Zha (n:Nat) (r:Z0f) (A1:Option Addr) (c1:Nat) (A2:Option Addr) (c2:Nat) (A3:Option Addr) (c3:Nat) (A4:Option Addr) (c4:Nat) {D:Nat→Prop} (w:World) (hr:Z7f n D w r A1 c1 A2 c2 A3 c3 A4 c4) (hs:SmR n r) (hzh:r.holes = []) :
 Calls Tryz.prog 60 #[.agg #[.int .i64 r.num,.int .i64 r.level,.slice A1 r.elems.length c1,.slice A2 r.holes.length c2,.slice A3 r.aparts.length c3,.slice A4 r.news.length c4]] w (Zja n r w):=by
 obtain ⟨j0,hj0,hy0,hyy1,hyy2⟩:=infp Ze7;obtain ⟨s1,s2,s3,s4,s5⟩:=hs;obtain ⟨r1,r2,r3,r4⟩:=hr;have hcap2:=r2.cap;have HS:=hid s5;have HZH:=hid hzh;clear hzh;have R1:=hid (RowR.rd (hs:=Z0e.cells_length) r1);have R2:=hid r2;have R3:=hid (RowR.rd (hs:=Z1i.cells_length) r3);have R4:=hid (RowR.rd (hs:=Sym.cells_length) r4);clear s5 r1 r2 r3 r4;go_enter Tryz.func60,Tryz.ntmps60;(go_upto_region 1 with fail);obtain ⟨W1,hW1⟩ : ∃W1,W1=(w.alloc (.cells #[.int .i64 r.num,.int .i64 r.level,.slice A1 r.elems.length c1,.slice A2 r.holes.length c2,.slice A3 r.aparts.length c3,.slice A4 r.news.length c4] 121)).alloc (.cells #[.int .i64 0,.int .i64 0,.slice none 0 0,.slice none 0 0,.slice none 0 0,.slice none 0 0] 121):=⟨_,rfl⟩;(have hB1:Below w.heap.size w W1:=by rw [hW1];exact ((Znz _ _).alloc (Zo0 _) _).alloc (by simp) _);(have hX1:Blk W1 w.heap.size 121 #[.int .i64 r.num,.int .i64 r.level,.slice A1 r.elems.length c1,.slice A2 r.holes.length c2,.slice A3 r.aparts.length c3,.slice A4 r.news.length c4]:=by rw [hW1];exact (Blk.new _ _ _).alloc _);(have hR1:Blk W1 (w.heap.size+1) 121 #[.int .i64 0,.int .i64 0,.slice none 0 0,.slice none 0 0,.slice none 0 0,.slice none 0 0]:=by rw [hW1];have:=Blk.new (w.alloc (.cells #[.int .i64 r.num,.int .i64 r.level,.slice A1 r.elems.length c1,.slice A2 r.holes.length c2,.slice A3 r.aparts.length c3,.slice A4 r.news.length c4] 121)) 121 #[.int .i64 0,.int .i64 0,.slice none 0 0,.slice none 0 0,.slice none 0 0,.slice none 0 0];simpa using this);(have hz1:W1.heap.size=w.heap.size+2:=by rw [hW1];simp);rw [← hW1];clear hW1;obtain ⟨p0,p1,p2,p3,p4,p5⟩:=hX1.c6;have HB1:=hid hB1;have HX1:=hid hX1;have HR1:=hid hR1;have HZ1:=hid hz1;have hxl1:=hX1.lt;clear hB1 hX1 hR1 hz1
 go_cut [3] from 5 (fun p wc=>∃g E1 d1 E3 d3 E4 d4,p = .pointer (some ⟨g,0,none⟩)∧W1.heap.size≤g∧Blk wc g 121 #[.int .i64 r.num,.int .i64 r.level,.slice E1 r.elems.length d1,.slice none 0 0,.slice E3 r.aparts.length d3,.slice E4 r.news.length d4]∧Below W1.heap.size W1 wc∧
  (wc.ownsRow 0 57 14 (.slice E1 r.elems.length d1) r.elems.length (r.elems.flatMap Z0e.cells)∧AIn E1 (NewD W1.heap.size wc))∧
  (wc.ownsRow 0 34 7 (.slice E3 r.aparts.length d3) r.aparts.length (r.aparts.flatMap Z1i.cells)∧AIn E3 (NewD W1.heap.size wc))∧
  (wc.ownsRow 0 23 3 (.slice E4 r.news.length d4) r.news.length (r.news.flatMap Sym.cells)∧AIn E4 (NewD W1.heap.size wc)))
 case first=>
  refine Z17 (fun w9=>Below W1.heap.size W1 w9) [0,1,2,3,4,5,7,8,10,11,13] [1,3,5,8,11] (.fork [(0,0),(1,1),(2,0),(3,1),(4,0),(5,1),(7,0),(8,1),(10,0),(11,1)] 6 (.fork [] 9 (.fork [] 12 (.fin [(13,0),(14,2),(15,2)]) 14 (.fin [(12,2),(13,0),(15,2)])) 14 (.fin [(9,2),(12,2),(13,0),(15,2)])) 14 (.fin [(6,2),(9,2),(12,2),(13,0),(15,2)])) (by kernel_rfl) (by kernel_rfl) (by kernel_rfl) (fun KK hKK=>?_);simp only [wpPl,Z05,Zo9,Zo2,Zo7,Zo5,Zo6,Zoc];have HB:=hid (Znz W1.heap.size W1).drew;obtain ⟨V,hV⟩ : ∃V,V=W1.drew:=⟨_,rfl⟩;rw [← hV] at HB ⊢;clear hV
  repeat' (first
   | ((first | (refine Z1s ?_ (Or.inl ⟨by rfl,fun w9=>?_⟩) ?_;rotate_left 1;go_simp;with_reducible rfl) | (refine Z2c ?_ (HB.out) (Or.inl ⟨by rfl,fun w9 hw9=>?_⟩) ?_;rotate_left 1;obtain ⟨hc9,hf9⟩:=Z0q hw9;go_simp;with_reducible rfl) | refine Z1s undef (Or.inr ⟨by rfl,rfl⟩) ?_ | refine Z2c undef (HB.out) (Or.inr ⟨by rfl,rfl⟩) ?_);go_frame)
   | ((first | refine Z1v (fun K9 hK9=>?_) | refine Z1a rfl (fun K9 hK9=>?_));refine Z0n rfl 121 _ _ rfl g 0 #[.int .i64 r.num,.int .i64 r.level,.slice E1 r.elems.length d1,.slice none 0 0,.slice E3 r.aparts.length d3,.slice E4 r.news.length d4] rfl rfl (show _ from HK.out.there) (by kernel_rfl) (by kernel_rfl) ?_;(first | refine hK9 _ _ (Below.setCells' _ _ HB.out HGE.out) ?_ | refine hK9 _ _ (fun _=>Below.setCells' _ _ HB.out HGE.out) ?_);clear hK9 K9;(try go_frame);try simp only [Z05,Zo2])
   | ((first | refine Z1v (fun K9 hK9=>?_) | refine Z1a rfl (fun K9 hK9=>?_));go_simp;(first
     | (have hsz:=HB.out.size;refine (Zjw A1 c1 r.elems _ (R1.out.new_ (HB1.out.trans (HB.out.mono (by have:=HZ1.out;omega)))) (by omega)).mono ?_;rintro e V ⟨E1,d1,rfl,ho,hA,hb⟩;(try have HO1:=hid (Z02 HO1.out hb));(try have HA1:=hid (HA1.out.mono (fun j hj=>NewD.up (Zo0 _) hb.size j hj)));(try have HO3:=hid (Z02 HO3.out hb));(try have HA3:=hid (HA3.out.mono (fun j hj=>NewD.up (Zo0 _) hb.size j hj)));(try have HO4:=hid (Z02 HO4.out hb));(try have HA4:=hid (HA4.out.mono (fun j hj=>NewD.up (Zo0 _) hb.size j hj)));(try have HK:=hid (HK.out.new_ hb));have HB:=hid (HB.out.trans (hb.mono HB.out.size));have HO1:=hid ho;have HA1:=hid (hA.mono (fun j hj=>(⟨Zod hsz hj.1,hj.2⟩:NewD W1.heap.size V j)));clear ho hA hb hsz)
     | (have hsz:=HB.out.size;refine (Zjv A3 c3 r.aparts _ (R3.out.new_ (HB1.out.trans (HB.out.mono (by have:=HZ1.out;omega)))) (by omega)).mono ?_;rintro e V ⟨E3,d3,rfl,ho,hA,hb⟩;(try have HO1:=hid (Z02 HO1.out hb));(try have HA1:=hid (HA1.out.mono (fun j hj=>NewD.up (Zo0 _) hb.size j hj)));(try have HO3:=hid (Z02 HO3.out hb));(try have HA3:=hid (HA3.out.mono (fun j hj=>NewD.up (Zo0 _) hb.size j hj)));(try have HO4:=hid (Z02 HO4.out hb));(try have HA4:=hid (HA4.out.mono (fun j hj=>NewD.up (Zo0 _) hb.size j hj)));(try have HK:=hid (HK.out.new_ hb));have HB:=hid (HB.out.trans (hb.mono HB.out.size));have HO3:=hid ho;have HA3:=hid (hA.mono (fun j hj=>(⟨Zod hsz hj.1,hj.2⟩:NewD W1.heap.size V j)));clear ho hA hb hsz)
     | (have hsz:=HB.out.size;refine (Znc A4 c4 r.news _ (R4.out.new_ (HB1.out.trans (HB.out.mono (by have:=HZ1.out;omega)))) (by omega)).mono ?_;rintro e V ⟨E4,d4,rfl,ho,hA,hb⟩;(try have HO1:=hid (Z02 HO1.out hb));(try have HA1:=hid (HA1.out.mono (fun j hj=>NewD.up (Zo0 _) hb.size j hj)));(try have HO3:=hid (Z02 HO3.out hb));(try have HA3:=hid (HA3.out.mono (fun j hj=>NewD.up (Zo0 _) hb.size j hj)));(try have HO4:=hid (Z02 HO4.out hb));(try have HA4:=hid (HA4.out.mono (fun j hj=>NewD.up (Zo0 _) hb.size j hj)));(try have HK:=hid (HK.out.new_ hb));have HB:=hid (HB.out.trans (hb.mono HB.out.size));have HO4:=hid ho;have HA4:=hid (hA.mono (fun j hj=>(⟨Zod hsz hj.1,hj.2⟩:NewD W1.heap.size V j)));clear ho hA hb hsz)
     | (obtain ⟨g,hg⟩ : ∃g,g=V.heap.size:=⟨_,rfl⟩;have hk:=Blk.new V 121 #[.int .i64 0,.int .i64 0,.slice none 0 0,.slice none 0 0,.slice none 0 0,.slice none 0 0];have HGE:=hid (show W1.heap.size≤g by rw [hg];exact HB.out.size);have hb:Below V.heap.size V (V.alloc (.cells #[.int .i64 0,.int .i64 0,.slice none 0 0,.slice none 0 0,.slice none 0 0,.slice none 0 0] 121)):=(Znz _ _).alloc (Zo0 _) _;obtain ⟨V,hV⟩ : ∃V9,V9=V.alloc (.cells #[.int .i64 0,.int .i64 0,.slice none 0 0,.slice none 0 0,.slice none 0 0,.slice none 0 0] 121):=⟨_,rfl⟩;rw [← hV] at hb;rw [← hV,← hg] at hk;(try have HO1:=hid (Z02 HO1.out hb));(try have HA1:=hid (HA1.out.mono (fun j hj=>NewD.up (Zo0 _) hb.size j hj)));(try have HO3:=hid (Z02 HO3.out hb));(try have HA3:=hid (HA3.out.mono (fun j hj=>NewD.up (Zo0 _) hb.size j hj)));(try have HO4:=hid (Z02 HO4.out hb));(try have HA4:=hid (HA4.out.mono (fun j hj=>NewD.up (Zo0 _) hb.size j hj)));(try have HK:=hid (HK.out.new_ hb));have HB:=hid (HB.out.trans (hb.mono HB.out.size));have HK:=hid hk;rw [← hV,← hg];clear hV hg hb hk) | fail);(first | refine hK9 _ _ (HB.out) ?_ | refine hK9 _ _ (fun _=>HB.out) ?_);clear hK9 K9;(try go_frame);try simp only [Z05,Zo2])
   | (refine Z0u ⟨?_,?_⟩) | fail)
  all_goals
   refine Z0u ?_;simp only [Z00];refine hKK _ _ ?_;clear hKK KK;(go_wp2_with fail);go_meet
   case rel=>exact ⟨g,E1,d1,E3,d3,E4,d4,rfl,HGE.out,HK.out.setAll rfl,Below.setCells' _ _ HB.out HGE.out,⟨Z5n HO1.out HK.out (by decide) _ _,HA1.out.mono (fun j hj=>⟨hj.1,by rw [Z0m];exact hj.2⟩)⟩,⟨Z5n HO3.out HK.out (by decide) _ _,HA3.out.mono (fun j hj=>⟨hj.1,by rw [Z0m];exact hj.2⟩)⟩,⟨Z5n HO4.out HK.out (by decide) _ _,HA4.out.mono (fun j hj=>⟨hj.1,by rw [Z0m];exact hj.2⟩)⟩⟩
 case rest=>
  obtain ⟨g,E1,d1,E3,d3,E4,d4,rfl,hg,hG,hB,⟨o1,a1⟩,⟨o3,a3⟩,⟨o4,a4⟩⟩:=hcut;have t1:=RowR.of_rd (hs:=Z0e.cells_length) (Z0d Z0e.cells_length o1) (Zgp o1 hG (by decide) a1);have t3:=RowR.of_rd (hs:=Z1i.cells_length) (Z0d Z1i.cells_length o3) (Zgp o3 hG (by decide) a3);have t4:=RowR.of_rd (hs:=Sym.cells_length) (Z0d Sym.cells_length o4) (Zgp o4 hG (by decide) a4);have h0:RH n g r W1 E1 d1 E3 d3 E4 d4 0 none 0 wc:=⟨hG,_,fun h=>h.2 rfl,fun j hj=>hj.1,hg,t1,t3,t4,OwnC.nil _ _ _ _,AIn.none_ _,hB⟩;have H0:=hid h0;clear t1 t3 t4 o1 o3 o4 a1 a3 a4 p0 p1 p2 p3 p4 p5 hG hB h0;go_wp2_with fail
  go_loopw [4] (fun i wr=>∃(k:Nat) (A:Option Addr) (c:Nat),i = .int .i64 k∧k≤r.holes.length∧RH n g r W1 E1 d1 E3 d3 E4 d4 k A c wr) (fun i wr=>r.holes.length - (intOf i).toNat)
  case atStart=>exact ⟨0,none,0,rfl,Nat.zero_le _,H0.out⟩
  case round=>
   obtain ⟨k,A,c,rfl,hk,hRH⟩:=hrel;obtain ⟨hG,C,hCg,hC,_,t1,t3,t4,hO,hA,hB⟩:=hRH;have hzr:=hB.size;have hX:=HX1.out.below hB (by have:=HZ1.out;omega);obtain ⟨m0,m1,m2,m3,m4,m5⟩:=hX.c6;obtain ⟨n0,n1,n2,n3,n4,n5⟩:=hG.c6;have hgl:=hG.lt;have hxl:=hX.lt;by_cases hlt:k<r.holes.length
   · exact absurd hlt (by rw [HZH.out];simp)
   · obtain rfl:k=r.holes.length:=by omega
     have hTe:=RH.fin rfl hC t1 t3 t4 hO hA;have hR:=HR1.out.below hB (by have:=HZ1.out;omega);(have hxn:w.heap.size+1≠g:=by have:=HZ1.out;omega);have HB9:=hid (HB1.out.trans (hB.mono (by have:=HZ1.out;omega)));have HT9:=hid (show wr.there (w.heap.size+1) 0 (#[.int .i64 r.num,.int .i64 r.level,.slice E1 r.elems.length d1,.slice A r.holes.length c,.slice E3 r.aparts.length d3,.slice E4 r.news.length d4]:Array Value).size from hR.there);have HRG:=hid (show wr.rangeAt g 0 [.int .i64 r.num,.int .i64 r.level,.slice E1 r.elems.length d1,.slice A r.holes.length c,.slice E3 r.aparts.length d3,.slice E4 r.news.length d4] from by have:=hG.range;exact this);have hrl:=hR.lt;have l9:=hTe.keep (w':=wr.setCells (w.heap.size+1) 0 [.int .i64 r.num,.int .i64 r.level,.slice E1 r.elems.length d1,.slice A r.holes.length c,.slice E3 r.aparts.length d3,.slice E4 r.news.length d4]) (D':=NewD w.heap.size (wr.setCells (w.heap.size+1) 0 [.int .i64 r.num,.int .i64 r.level,.slice E1 r.elems.length d1,.slice A r.holes.length c,.slice E3 r.aparts.length d3,.slice E4 r.news.length d4])) (by rw [Z0m];omega) (fun j hj hl=>⟨⟨by have:=hj.1;have:=HZ1.out;omega,by rw [Z0m];omega⟩,Z1k _ _ _ _ _ (by have:=hj.1;have:=HZ1.out;omega)⟩);have L9:=hid l9;clear hTe hR l9 hG hCg hC t1 t3 t4 hO hA hB hX;(go_upto_region 6 with fail);(go_wp2_with (first | (with_reducible refine wpList_load_mid rfl 121 _ rfl g 0 rfl _ _ HRG.out Tryz.underlying121 rfl (by kernel_rfl) ?_) | (with_reducible refine wpList_store_mid rfl 121 _ _ rfl (w.heap.size+1) 0 #[.int .i64 r.num,.int .i64 r.level,.slice E1 r.elems.length d1,.slice A r.holes.length c,.slice E3 r.aparts.length d3,.slice E4 r.news.length d4] rfl rfl HT9.out (by kernel_rfl) (by kernel_rfl) ?_)));(try simp only [Exit.inBlock,Exit.then]);have hBe:Below w.heap.size w (wr.setCells (w.heap.size+1) 0 [.int .i64 r.num,.int .i64 r.level,.slice E1 r.elems.length d1,.slice A r.holes.length c,.slice E3 r.aparts.length d3,.slice E4 r.news.length d4]):=Below.setCells' _ _ HB9.out (by omega);refine bodyPost_ret (v:=.agg #[.int .i64 r.num,.int .i64 r.level,.slice E1 r.elems.length d1,.slice A r.holes.length c,.slice E3 r.aparts.length d3,.slice E4 r.news.length d4]) ?_ rfl ⟨E1,d1,A,c,E3,d3,E4,d4,rfl,L9.out,hBe⟩;exact Z1l (t:=2) (T:=121) rfl _ _ (w.heap.size+1) [.int .i64 r.num,.int .i64 r.level,.slice E1 r.elems.length d1,.slice A r.holes.length c,.slice E3 r.aparts.length d3,.slice E4 r.news.length d4] _ rfl (Zo4 wr (w.heap.size+1) 0 [.int .i64 r.num,.int .i64 r.level,.slice E1 r.elems.length d1,.slice A r.holes.length c,.slice E3 r.aparts.length d3,.slice E4 r.news.length d4] HT9.out) Tryz.underlying121 rfl (by kernel_rfl)
theorem Zhf (n kb:Nat) (l:List Z0f) (A:Option Addr) (c:Nat) {D:Nat→Prop} (k:Int) (w:World) (hkb:Blk w kb 122 #[.slice A l.length c]) (hrd:RowR (Z1x n) D w A c l) (hs : ∀r∈l,SmR n r∧r.holes = []) :
 Calls Tryz.prog 131 #[.int .i64 k,.pointer (some ⟨kb,0,none⟩)] w fun e w'=>Below w.heap.size w w'∧Ans n (Z3r l k) (NewD w.heap.size w') e w':=by
 have hlc:=hrd.cap;have HR:=hid hrd;have HS:=hid hs;have HKB:=hid hkb;have hkl:=hkb.lt;clear hrd hs hkb;go_enter Tryz.func131,Tryz.ntmps131;(go_upto_region 1 with fail);obtain ⟨W1,hW1⟩ : ∃W1,W1=w.alloc (.cells #[.int .i64 0,.int .i64 0,.slice none 0 0,.slice none 0 0,.slice none 0 0,.slice none 0 0] 121):=⟨_,rfl⟩;(have hB1:Below w.heap.size w W1:=by rw [hW1];exact (Znz _ _).alloc (Zo0 _) _);(have hX1:Blk W1 w.heap.size 121 #[.int .i64 0,.int .i64 0,.slice none 0 0,.slice none 0 0,.slice none 0 0,.slice none 0 0]:=by rw [hW1];exact Blk.new _ _ _);(have hz1:W1.heap.size=w.heap.size+1:=by rw [hW1];simp);rw [← hW1];clear hW1;have HB1:=hid hB1;have HX1:=hid hX1;have HZ1:=hid hz1;clear hB1 hX1 hz1;go_wp2_with fail
 go_loopw [5] (fun i wr=>∃m:Nat,i = .int .i64 m∧m≤l.length∧(∀j,(h:j<l.length)→j<m→l[j].num≠k)∧Below W1.heap.size W1 wr) (fun i wr=>l.length - (intOf i).toNat)
 case atStart=>exact ⟨0,rfl,Nat.zero_le _,fun j _ h=>absurd h (by omega),Znz _ _⟩
 case round=>
  obtain ⟨m,rfl,hm,hno,hB⟩:=hrel;have hzr:=hB.size;have hBB:Below w.heap.size w wr:=HB1.out.trans (hB.mono (by have:=HZ1.out;omega));have x0:=(HKB.out.new_ hBB).c1;have hkl2:=(HKB.out.new_ hBB).lt;have hX:=HX1.out.new_ hB;have hxl:=hX.lt;have HNO:=hid hno;by_cases hlt:m<l.length
  · obtain ⟨g,off,Ay1,cy1,Ay2,cy2,Ay3,cy3,Ay4,cy4,hA0,hDg,hg,q0,q1,q2,q3,q4,q5,r1,r2,r3,r4⟩:=Zev (HR.out.new_ hBB) hlt
    subst hA0;have hys:SmR n l[m]∧l[m].holes = []:=HS.out _ (Zoy hlt);obtain ⟨y,hy⟩ : ∃y,y=l[m]:=⟨_,rfl⟩;rw [← hy] at q0 q1 q2 q3 q4 q5 r1 r2 r3 r4 hys;(have b1:(0:Int)≤(m:Int):=by omega);(have b2:(m:Int)<(l.length:Int):=by omega);have HY:=hid hy;have HRA:=hid (show Z7f n D wr y Ay1 cy1 Ay2 cy2 Ay3 cy3 Ay4 cy4 from ⟨r1,r2,r3,r4⟩);have HYS:=hid hys;have HB:=hid hB;have HBB:=hid hBB;have HX:=hid hX;clear hy hys r1 r2 r3 r4 hB hBB hX hno;by_cases hk:y.num=k
    · have t1:(y.num == k)=true:=by simpa using hk
      have HK:=hid hk;clear hk;(go_wp2_with fail);refine (Zha n y Ay1 cy1 Ay2 cy2 Ay3 cy3 Ay4 cy4 wr HRA.out HYS.out.1 HYS.out.2).mono ?_;rintro e w5 ⟨Az1,cz1,Az2,cz2,Az3,cz3,Az4,cz4,rfl,hra,hB5⟩;have hX5:=HX.out.new_ hB5;have HT:=hid (show w5.there w.heap.size 0 (#[.int .i64 y.num,.int .i64 y.level,.slice Az1 y.elems.length cz1,.slice Az2 y.holes.length cz2,.slice Az3 y.aparts.length cz3,.slice Az4 y.news.length cz4]:Array Value).size from hX5.there);have hxl5:=hX5.lt;have HB5:=hid hB5;have hzb:=hB5.size;have HRA5:=hid hra;clear hB5 hra hX5 x0 q0 q1 q2 q3 q4 q5;(go_wp2_with (with_reducible refine wpList_store_mid rfl 121 _ _ rfl w.heap.size 0 #[.int .i64 y.num,.int .i64 y.level,.slice Az1 y.elems.length cz1,.slice Az2 y.holes.length cz2,.slice Az3 y.aparts.length cz3,.slice Az4 y.news.length cz4] rfl rfl HT.out (by kernel_rfl) (by kernel_rfl) ?_));(try simp only [Exit.inBlock,Exit.then]);refine bodyPost_ret (v:=.tuple #[.agg #[.int .i64 y.num,.int .i64 y.level,.slice Az1 y.elems.length cz1,.slice Az2 y.holes.length cz2,.slice Az3 y.aparts.length cz3,.slice Az4 y.news.length cz4],.bool true]) ?_ rfl ⟨Below.setCells' _ _ (HBB.out.trans (HB5.out.mono (by have:=HBB.out.size;omega))) (Zo0 _),?_⟩
      · exact Z0o (t:=3) (s:=4) (T:=121) rfl _ _ w.heap.size [.int .i64 y.num,.int .i64 y.level,.slice Az1 y.elems.length cz1,.slice Az2 y.holes.length cz2,.slice Az3 y.aparts.length cz3,.slice Az4 y.news.length cz4] _ rfl (Zo4 w5 w.heap.size 0 [.int .i64 y.num,.int .i64 y.level,.slice Az1 y.elems.length cz1,.slice Az2 y.holes.length cz2,.slice Az3 y.aparts.length cz3,.slice Az4 y.news.length cz4] HT.out) Tryz.underlying121 rfl (by kernel_rfl)
      · have e:=HY.out
        rw [Zkj hlt (by rw [← e];exact HK.out) HNO.out,← e];exact ⟨Az1,cz1,Az2,cz2,Az3,cz3,Az4,cz4,rfl,HRA5.out.keep (by rw [Z0m];omega) (fun j hj hl=>⟨⟨by have:=hj.1;omega,by rw [Z0m];omega⟩,Z1k _ _ _ _ _ (by have:=hj.1;have:=HZ1.out;omega)⟩)⟩
    · have t1:(y.num == k)=false:=by simpa using hk
      have HK:=hid hk;clear hk;(go_wp2_with fail);go_roundw
      case rel=>
       refine ⟨m+1,by go_num,by omega,fun j h hj=>?_,HB.out⟩;rcases Nat.lt_or_ge j m with h2 | h2
       · exact HNO.out j h h2
       · obtain rfl:j=m:=by omega
         rw [← HY.out];exact HK.out
      case measure=>simp [intOf];omega
  · obtain rfl:m=l.length:=by omega
    have HT:=hid (show wr.there w.heap.size 0 (#[.int .i64 0,.int .i64 0,.slice none 0 0,.slice none 0 0,.slice none 0 0,.slice none 0 0]:Array Value).size from hX.there);have HBB:=hid hBB;clear hB hBB hX hno;(go_wp2_with (with_reducible refine wpList_store_mid rfl 121 _ _ rfl w.heap.size 0 #[.int .i64 0,.int .i64 0,.slice none 0 0,.slice none 0 0,.slice none 0 0,.slice none 0 0] rfl rfl HT.out (by kernel_rfl) (by kernel_rfl) ?_));(try simp only [Exit.inBlock,Exit.then]);refine bodyPost_ret (v:=.tuple #[.agg #[.int .i64 0,.int .i64 0,.slice none 0 0,.slice none 0 0,.slice none 0 0,.slice none 0 0],.bool false]) ?_ rfl ⟨Below.setCells' _ _ HBB.out (Zo0 _),?_⟩
    · exact Z0o (t:=3) (s:=4) (T:=121) rfl _ _ w.heap.size [.int .i64 0,.int .i64 0,.slice none 0 0,.slice none 0 0,.slice none 0 0,.slice none 0 0] _ rfl (Zo4 wr w.heap.size 0 [.int .i64 0,.int .i64 0,.slice none 0 0,.slice none 0 0,.slice none 0 0,.slice none 0 0] HT.out) Tryz.underlying121 rfl (by kernel_rfl)
    · rw [Zkk (fun j h=>HNO.out j h h)]
      exact ⟨none,0,none,0,none,0,none,0,rfl,Znl _ _⟩
theorem Zf4 (n kb B:Nat) (l:List Z0f) (A:Option Addr) (c:Nat) (W0:World) (hkb:Blk W0 kb 122 #[.slice A l.length c]) (hrd:RowR (Z1x n) (· < B) W0 A c l) (hs : ∀r∈l,SmR n r∧r.holes = []) (_:B≤W0.heap.size) (hkB:kb<B) :
 Z47 n B 131 #[.pointer (some ⟨kb,0,none⟩)] (Z3r l) (fun E _ w=>(∀k,¬E k)∧Below B W0 w∧B≤w.heap.size) where
 enter:=by intro args w;kernel_rfl
 lt:=fun h k hk=>absurd hk (h.1 k)
 steady:=fun h hF hM=>⟨h.1,h.2.1.trans ⟨hF.os,hF.tape,hF.output,hF.size,fun k hk=>hF.block k (Zo3 hk h.2.2) (fun hm=>by have:=(hM k hm).2;omega)⟩,Zod h.2.2 hF.size⟩
 call:=fun {E ks w} k _ _ h=>by
  refine (Zhf n kb l A c k w (hkb.below h.2.1 hkB) (hrd.keep h.2.1.size (fun j hj _=>⟨hj,h.2.1.block j hj⟩)) hs).mono ?_;rintro e w' ⟨hb,A1,c1,A2,c2,A3,c3,A4,c4,he,hr⟩;exact ⟨fun _=>False,⟨fun _ h=>h,h.2.1.trans (hb.mono h.2.2),Zod h.2.2 hb.size⟩,fun _ h=>h.elim,Fr.of_new hb,A1,c1,A2,c2,A3,c3,A4,c4,he,hr.keep (Zo0 _) (fun j hj _=>⟨⟨hj,fun h=>h⟩,rfl⟩)⟩
abbrev Z3l:=Z1w (α:=Bnum) 304 259 1 Bnum.cells
theorem Za7 (k0 : Int) (w : World) : (nilAhead 555 259 (.int .i64 k0) "Compare").run Tryz.prog w = .ok (some false) w := by kernel_rfl
theorem Zcw (k0 : Int) (w : World) : (method 555 259 (.int .i64 k0) "Compare").run Tryz.prog w = .ok (334, .int .i64 k0) w := by kernel_rfl
def Zgh (l:List Bnum) (x:Bnum) (w:World) (e:Ending) (w':World):Prop:=
 e = .returned (.tuple #[.int .i64 (rank Z0k l x),.bool (has Z0k l x)])∧Below w.heap.size w w'
theorem Zbd (b c:Nat) (sn:Bool) (A:Option Addr) (l:List Bnum) (x:Bnum) (w:World) (hS:Z3l w b sn A c l) (hs:Srt Z0k l) (hl:(l.length:Int)≤4611686018427387904) :
 Calls Tryz.prog 207 #[.pointer (some ⟨b,0,none⟩),.int .i64 x] w (Zgh l x w):=by
 have hrd:=hS.rd Bnum.cells_length;have h0:=hS.cell0;have hb:=hS.lt;clear hS;have HS:=hid hs;have HRD:=hid hrd;clear hs hrd;go_enter Tryz.func207,Tryz.ntmps207;(go_wp2_with fail);go_quiet (fail);(go_wp2_with fail);obtain ⟨W0,hW0⟩ : ∃W0,W0=(w.drewN nq):=⟨_,rfl⟩;(have hB0:Below w.heap.size w W0:=by rw [hW0];exact Below.drewN' (Znz _ _) _);rw [← hW0];clear hW0;have HB0:=hid hB0;clear hB0
 go_loopw [6,7] (fun lo hi wr=>∃i j:Nat,lo = .int .i64 i∧hi = .int .i64 j∧i≤j∧j≤l.length∧(∀k,(h:k<l.length)→k<i→Z0k l[k] x<0)∧(∀k,(h:k<l.length)→j≤k→0<Z0k l[k] x)∧Below W0.heap.size W0 wr) (fun lo hi wr=>(intOf hi).toNat - (intOf lo).toNat)
 case atStart=>exact ⟨0,l.length,rfl,rfl,Nat.zero_le _,Zo0 _,fun k _ h=>absurd h (by omega),fun k h h'=>absurd h (by omega),Znz _ _⟩
 case round=>
  obtain ⟨i,j,rfl,rfl,hij,hj,hlo,hhi,hB⟩:=hrel;have HLO:=hid hlo;have HHI:=hid hhi;clear hlo hhi;have hsz:w.heap.size≤W0.heap.size:=HB0.out.size;by_cases hlt:i<j
  · obtain ⟨m,hm⟩ : ∃m,m=i+(j - i) / 2:=⟨_,rfl⟩
    (have hml:m<l.length:=by omega);(have hmj:m<j:=by omega);(have hmi:i≤m:=by omega);(have e1:((i:Int)+((j:Int) - (i:Int)) / 2)=(m:Int):=by omega);have E1:=hid e1;clear e1 hm;obtain ⟨g,off,rfl,hgs,hcell⟩:=HRD.out.at_ hml;have low : ∀(p:Addr),p.block<w.heap.size→wr.cell? p=w.cell? p:=fun p hp=>(hB.cell (p:=p) (by omega)).trans (HB0.out.cell (p:=p) hp);have r0:=(low ⟨b,0,none⟩ hb).trans h0;have q0:wr.cell? ⟨g,off+m,none⟩=some (.int .i64 l[m]):=(low ⟨g,off+m,none⟩ hgs).trans (by simpa using hcell 0 _ rfl);(have b1:(0:Int)≤(m:Int):=by omega);(have b2:(m:Int)<(l.length:Int):=by omega);have hsw:W0.heap.size≤wr.heap.size:=hB.size;have N:=Za7;have M:=Zcw;clear low hcell h0;have HB:=hid hB;clear hB;obtain ⟨y,hy⟩ : ∃y,y=l[m]:=⟨_,rfl⟩;rw [← hy] at q0;have HY:=hid hy;clear hy;(have hbw:b<wr.heap.size:=by omega);(have hgw:g<wr.heap.size:=by omega);(go_upto_region 4 with (fail));rw [E1.out];(go_wp2_with fail);refine (Z9y y x _).mono ?_;rintro e w1 ⟨rfl,hb1⟩;have HB1:Below W0.heap.size W0 w1:=HB.out.trans (hb1.mono hsw);clear r0 q0 N M;have HB1':=hid HB1;clear HB1;by_cases hc:Z0k y x=0
    · have HC:=hid hc
      (have t1:(Z0k y x == 0)=true:=by simp [hc]);clear hc;(go_wp2_with fail);go_ret2;have e:=HC.out;rw [HY.out] at e;refine ⟨?_,HB0.out.trans (HB1'.out.mono (by omega))⟩;rw [Z3j Z3n HS.out hml e,(Z4g Z3n HS.out hml e).2.2.1];rfl
    · have t1:(Z0k y x == 0)=false:=by simp [hc]
      by_cases hc2:Z0k y x<0
      · have HC:=hid hc2
        (have t2:decide (Z0k y x<0)=true:=by simpa using hc2);clear hc hc2;(go_wp2_with fail);go_roundw
        case rel=>
         refine ⟨m+1,j,by go_num,rfl,by omega,hj,fun k h1 h2=>?_,HHI.out,HB1'.out⟩;have e:=HC.out;rw [HY.out] at e;rcases Nat.lt_or_ge k m with h3 | h3
         · exact Z3n.lt_of_lt_of_le (HS.out.lt h3 hml) (by omega)
         · obtain rfl:k=m:=by omega
           exact e
        case measure=>simp [intOf];omega
      · have t2:decide (Z0k y x<0)=false:=by simpa using hc2
        (have hc3:0<Z0k y x:=by omega);have HC:=hid hc3;clear hc hc2 hc3;(go_wp2_with fail);go_roundw
        case rel=>
         refine ⟨i,m,rfl,rfl,by omega,by omega,HLO.out,fun k h1 h2=>?_,HB1'.out⟩;have e:=HC.out;rw [HY.out] at e;rcases Nat.lt_or_ge m k with h3 | h3
         · exact (Z3n.symm _ _).1 (Z3n.lt_trans ((Z3n.symm _ _).2 e) (HS.out.lt h3 h1))
         · obtain rfl:k=m:=by omega
           exact e
        case measure=>simp [intOf];omega
  · obtain rfl:i=j:=by omega
    have HB:=hid hB;clear hB;(go_wp2_with fail);go_ret2;refine ⟨?_,HB0.out.trans (HB.out.mono (by omega))⟩;rw [Z3i hj HLO.out HHI.out,(Z4v HLO.out HHI.out).2.2];rfl
theorem Zbh:(Tryz.prog.info? 259).map (fun i=>(i.zero,i.size,i.bytes))=some (some (.int .i64 0),1,8):=by kernel_rfl
theorem Bnum.one (x:Bnum) : ∀u∈Bnum.cells x,u.oneCell'=true:=by intro u hu;simp [Bnum.cells] at hu;rcases hu with rfl<;>rfl
theorem Bnum.oneAll (l:List Bnum) : ∀u∈l.flatMap Bnum.cells,u.oneCell'=true:=by intro u hu;obtain ⟨x,_,hx⟩:=List.mem_flatMap.1 hu;exact Bnum.one x u hx
def Z6b (w:World) (b:Nat) (sn:Bool) (A:Option Addr) (l:List Bnum) (e:Ending) (w':World):Prop:=
 e = .returned (.tuple #[])∧∃A' c',Z3l w' b false A' c' l∧Fr (· = b) w w'∧Z1p w sn A false A'
theorem Zd8 (b c:Nat) (A:Option Addr) (l:List Bnum) (w:World) (hS:Z3l w b false A c l) :
 Calls Tryz.prog 208 #[.pointer (some ⟨b,0,none⟩)] w (Z6b w b false A l):=by
 have h1:=hS.cell1;have HS:=hid hS;clear hS;go_enter Tryz.func208,Tryz.ntmps208;go_wp2;go_end0;exact ⟨rfl,A,c,HS.out,Fr.refl _ _,.inl ⟨rfl,rfl⟩⟩
theorem Zc2 (b c:Nat) (A:Option Addr) (l:List Bnum) (w:World) (hS:Z3l w b true A c l) (hl:(l.length:Int)≤1000000000) :
 Calls Tryz.prog 208 #[.pointer (some ⟨b,0,none⟩)] w (Z6b w b true A l):=by
 obtain ⟨i0,hi,hz0,hz1,hz2⟩:=info_parts Zbh;have h0:=hS.cell0;have h1:=hS.cell1;have hb:=hS.lt;have f0:=hS.blk.frozen 0;have f1:=hS.blk.frozen 1;have hrd:=hS.rd Bnum.cells_length;have HB:=hid hS.blk;have HRD:=hid hrd;clear hS hrd;have e1:IntKind.i64.wrap ((l.length:Int)+1)=(l.length:Int)+1:=Zof _ (by omega)
 have hmk : ∀W:World,(Instr.makeSlice 302 (.int .i64 0) (.int .i64 ((l.length:Int)+1))).run Tryz.prog W = .ok (.slice (some ⟨W.heap.size,0,none⟩) 0 (l.length+1)) (W.alloc (.cells (madeCells (Value.cells (.int .i64 0)) ((l.length+1))) 259)):=fun W=>by
  have h:=run_make (P:=Tryz.prog) W 302 259 i0 _ Tryz.underlying302 hi hz0 .i64 .i64 0 ((l.length:Int)+1) (by omega) (by omega) (by rw [hz2];omega) (by omega);rw [hz1] at h;simpa [show ((l.length:Int)+1).toNat=l.length+1 by omega] using h
 go_enter Tryz.func208,Tryz.ntmps208;(go_wp2_with fail);refine Z06 (fun w9=>Below w.heap.size w w9) [(0,0),(1,0),(2,0),(3,0),(4,1),(5,0),(6,0),(8,0),(9,0),(10,0),(11,1),(7,2),(12,2),(13,0),(14,0),(15,2)] (by kernel_rfl) (by kernel_rfl) (fun KK hKK=>?_);simp only [Z05,Zo9,Zo2,Zo7,Zo5,Zo6,Zoc];(repeat ((first | (refine Z0a ?_ (Or.inl ⟨by rfl,fun w9=>?_⟩) ?_;rotate_left 1;go_simp;with_reducible rfl) | (refine Z09 ?_ (((Znz _ _).drew)) (Or.inl ⟨by rfl,fun w9 hw9=>?_⟩) ?_;rotate_left 1;obtain ⟨hc9,hf9⟩:=Z0q hw9;go_simp;with_reducible rfl) | refine Z0a undef (Or.inr ⟨by rfl,rfl⟩) ?_ | refine Z09 undef (((Znz _ _).drew)) (Or.inr ⟨by rfl,rfl⟩) ?_);go_frame));refine Z29 (fun K9 hK9=>?_);go_simp;refine hK9 _ _ (((Znz _ _).drew).alloc (Zo0 _) _) ?_;clear hK9 K9;refine Z1n (by kernel_rfl) (fun K9 hK9=>?_)
 refine Z0i _ (by rfl) _ _ _ (by rfl) 259 i0 _ 1 8 Tryz.underlying302 hi hz0 hz1 hz2 rfl (by omega) _ 0 [] (by rfl) (World.ownsRow_made _ _ _ (Nat.zero_le _) (by unfold maxLen;omega) (by simp [madeCells])) A l.length c (l.flatMap Bnum.cells) (by rfl) (Z0t Bnum.cells_length l)
  ((HRD.out.drew.alloc _).news Bnum.cells_length (by omega)) (Bnum.oneAll l) (by unfold maxLen;omega) (by omega) ?_
 intro v2 w2 hown hgr hnil hat;refine hK9 _ _ ?_;clear hK9 K9;rw [Zov,Zom] at hown;obtain ⟨A',c',rfl,_,_,hz⟩:=Z0z hown;have HB1:=(HB.out.drew.alloc (.cells (madeCells (Value.cells (.int .i64 0)) ((l.length+1))) 259)).grown hgr (by simp [Value.ownBlock];omega);have c0:=(HB1.cell 0).trans rfl;have c1:=(HB1.cell 1).trans rfl;have z0:=HB1.frozen 0;have z1:=HB1.frozen 1;have HB2:=hid HB1;clear HB1;(repeat ((first | (refine Z0a ?_ (Or.inl ⟨by rfl,fun w9=>?_⟩) ?_;rotate_left 1;go_simp;with_reducible rfl) | (refine Z09 ?_ (((Znz _ _).drew).alloc (Zo0 _) _) (Or.inl ⟨by rfl,fun w9 hw9=>?_⟩) ?_;rotate_left 1;obtain ⟨hc9,hf9⟩:=Z0q hw9;go_simp;with_reducible rfl) | refine Z0a undef (Or.inr ⟨by rfl,rfl⟩) ?_ | refine Z09 undef (((Znz _ _).drew).alloc (Zo0 _) _) (Or.inr ⟨by rfl,rfl⟩) ?_);go_frame));refine Z1n (by kernel_rfl) (fun K9 hK9=>?_);go_simp;refine hK9 _ _ ?_;clear hK9 K9;refine Z12 ?_;simp only [Z00];refine hKK _ _ ?_;clear hKK KK;go_wp2;go_end0
 have hb2:(Value.slice A' l.length c').ownBlock=some w.heap.size∨(Value.slice A' l.length c').ownBlock=some (w.heap.size+1):=by
  rcases hat with h | h
  · left;rw [h];rfl
  · right;rw [h];simp
 have hA : ∃g,w.heap.size≤g∧A'=some ⟨g,0,none⟩:=by
  rcases A' with _ | a
  · exfalso;simp [Value.ownBlock] at hb2
  · obtain ⟨g,rfl⟩:=hz a rfl
    refine ⟨g,?_,rfl⟩;simp [Value.ownBlock] at hb2;omega
 obtain ⟨g,hg,rfl⟩:=hA;have HB1:=HB2.out;have HF:Fr (· = b) w w2:=((Fr.refl (· = b) w).drew.alloc _).grown hgr (fun k e=>by simp [Value.ownBlock] at e;right;omega);refine ⟨rfl,some ⟨g,0,none⟩,c',⟨(HB1.set_ 0 _).set_ 1 _,?_⟩,(HF.setCell (p:=⟨b,0,none⟩) (.inl rfl) _).setCell (p:=⟨b,1,none⟩) (.inl rfl) _,.inr ⟨rfl,g,hg,rfl⟩⟩;(have hne:(Value.slice (some ⟨g,0,none⟩) l.length c').ownBlock≠some b:=by simp [Value.ownBlock];omega);exact ownsRow_setCell_other (a:=⟨b,1,none⟩) (ownsRow_setCell_other (a:=⟨b,0,none⟩) hown hne _) hne _
theorem Zky (b c:Nat) (sn:Bool) (A:Option Addr) (l:List Bnum) (w:World) (hS:Z3l w b sn A c l) (hl:(l.length:Int)≤1000000000) :
 Calls Tryz.prog 208 #[.pointer (some ⟨b,0,none⟩)] w (Z6b w b sn A l):=by
 cases sn
 · exact Zd8 b c A l w hS
 · exact Zc2 b c A l w hS hl
def Z6d (w:World) (b:Nat) (sn:Bool) (A:Option Addr) (l:List Bnum) (x:Bnum) (e:Ending) (w':World):Prop:=
 e = .returned (.bool (!has Z0k l x))∧∃sn' A' c',Z3l w' b sn' A' c' (put Z0k l x)∧Fr (Z0y b sn A) w w'∧Z1p w sn A sn' A'
theorem Z94 (b c:Nat) (sn:Bool) (A:Option Addr) (l:List Bnum) (x:Bnum) (w:World) (hS:Z3l w b sn A c l) (hs:Srt Z0k l) (hl:(l.length:Int)≤100000000) (hh:has Z0k l x=true) :
 Calls Tryz.prog 172 #[.pointer (some ⟨b,0,none⟩),.int .i64 x] w (Z6d w b sn A l x):=by
 have HS:=hid hS;have HO:=hid hs;clear hS hs;go_enter Tryz.func172,Tryz.ntmps172;(go_wp2_with fail);refine (Zbd b c sn A l x _ (HS.out.new_ (Znz _ _)) HO.out (by omega)).mono ?_;rintro e w1 ⟨rfl,hb1⟩;(go_wp2_with fail);go_ret;refine ⟨by rw [hh];rfl,sn,A,c,?_,Fr.of_new ((Znz _ _).trans (hb1.mono (by simp))),.inl ⟨rfl,rfl⟩⟩;rw [Z3m hh];exact HS.out.new_ ((Znz _ _).trans (hb1.mono (by simp)))
theorem Zc6 (b c:Nat) (sn:Bool) (A:Option Addr) (l:List Bnum) (x:Bnum) (w:World) (hS:Z3l w b sn A c l) (hs:Srt Z0k l) (hl:(l.length:Int)≤100000000) (hh:has Z0k l x=false) :
 Calls Tryz.prog 172 #[.pointer (some ⟨b,0,none⟩),.int .i64 x] w (Z6d w b sn A l x):=by
 obtain ⟨i0,hi,hz0,hz1,hz2⟩:=info_parts Zbh;have HS:=hid hS;have HO:=hid hs;have hb:=hS.lt;clear hS hs;have hrk:=Z4z (cmp:=Z0k) l x;go_enter Tryz.func172,Tryz.ntmps172;(go_wp2_with fail);have hSa:=HS.out.new_ (Znz w.heap.size w);have HSa:=hid hSa;clear hSa;refine (Zbd b c sn A l x _ HSa.out HO.out (by omega)).mono ?_;rintro e w1 ⟨rfl,hb1⟩;have HS1:=hid (HSa.out.new_ hb1);(have hsz1:w.heap.size≤w1.heap.size:=by have:=hb1.size;(try simp at this);omega);have HB1:=hid hb1;clear hb1;(go_wp2_with fail);refine (Zky b c sn A l _ HS1.out (by omega)).mono ?_;rintro e w2 ⟨rfl,A1,c1,hS2,hF2,hM2⟩;have hsz2:w1.heap.size≤w2.heap.size:=hF2.size;have s0:=hS2.cell0;have f0:=hS2.blk.frozen 0;(have hb2:b<w2.heap.size:=by omega);have HS2:=hid hS2;have HF2:=hid hF2;have HM2:=hid hM2;clear hS2 hF2 hM2
 go_upto_region 8 with
  (at_builtin;refine Z0b (w2.alloc (.cells #[.int .i64 x] 259)) rfl (.tmp 23) (.tmp 25) 302 rfl 259 i0 _ 1 8 Tryz.underlying302 hi hz0 hz1 hz2 rfl (by omega) (.slice A1 l.length c1) l.length (l.flatMap Bnum.cells) rfl (Z02 HS2.out.row ((Znz _ _).alloc (Zo0 _) _)) (some ⟨w2.heap.size,0,none⟩) 1 1 (Bnum.cells x) rfl rfl (fun _=>⟨_,rfl,Zok (heap_alloc_new _ _)⟩) (Bnum.one x) (by unfold maxLen;omega) (by omega) ?_;
   intro v2 w3 hown hgr hnil hat;
   obtain ⟨g,c2,rfl⟩ : ∃g c2,v2 = .slice (some ⟨g,0,none⟩) (l.length+1) c2:=(by
    rcases Z07 hown with ⟨_,h0,_⟩ | ⟨g,c2,h,_⟩
    · omega
    · exact ⟨g,c2,h⟩);
   have HB3':=(HS2.out.blk.alloc (.cells #[.int .i64 x] 259)).grown hgr (Z01 HS2.out.row HS2.out.blk (by decide));
   have c0:=(HB3'.cell 0).trans rfl;
   have z0:=HB3'.frozen 0;
   have HB3:=hid HB3';
   have HOWN:=hid hown;
   have HGR:=hid hgr;
   clear HB3' hown hgr)
 have hlg:((l.length+1:Nat):Int)=(l.length:Int)+1:=by omega
 have hG:(Z0y b sn A g∨w.heap.size≤g)∧Z1p w sn A false (some ⟨g,0,none⟩)∧True∧g≠b:=by
  rcases hat with h | h
  · rcases A1 with _ | a1
    · simp [Value.ownBlock] at h
    · obtain ⟨A',c',hv,_,_,hz⟩:=Z0z HS2.out.row
      injection hv with hv _ _;obtain ⟨g',rfl⟩:=hz a1 hv.symm;(have hgg:g'=g:=by simpa [Value.ownBlock] using h.symm);subst hgg;have hne:g'≠b:=HS2.out.row_ne (by decide) _ rfl;rcases HM2.out with ⟨hsn,hA⟩ | ⟨_,g2,hg2,hA⟩
      · have h1:=HS.out.row_lt _ hA.symm
        exact ⟨.inl (.inr ⟨hsn.symm,_,hA.symm,rfl⟩),.inl ⟨hsn,hA⟩,True.intro,hne⟩
      · injection hA with hA
        injection hA with hA;subst hA;exact ⟨.inr (by omega),.inr ⟨rfl,_,by omega,rfl⟩,True.intro,hne⟩
  · have hgg:g=w2.heap.size+1:=by simpa [Value.ownBlock] using h
    subst hgg;exact ⟨.inr (by omega),.inr ⟨rfl,_,by omega,rfl⟩,True.intro,by omega⟩
 obtain ⟨hgM,hgMv,hgk1,hgb⟩:=hG;obtain ⟨w4,hw4⟩ : ∃w4,w4=w3.setCell ⟨b,0,none⟩ (.slice (some ⟨g,0,none⟩) (l.length+1) c2):=⟨_,rfl⟩;have hB4:Blk w4 b 304 #[.slice (some ⟨g,0,none⟩) (l.length+1) c2,.bool false]:=by rw [hw4];exact HB3.out.set_ 0 _
 have hR4:w4.ownsRow 0 259 1 (.slice (some ⟨g,0,none⟩) (l.length+1) c2) (l.length+1) ((Z0c l x l.length).flatMap Bnum.cells):=by
  rw [hw4,Z21];refine ownsRow_setCell_other (a:=⟨b,0,none⟩) ?_ (by simpa [Value.ownBlock] using hgb) _;rw [Zog,List.flatMap_singleton];exact HOWN.out
 have hF4:Fr (Z0y b sn A) w w4:=by
  rw [hw4];have h1:Fr (Z0y b sn A) w w1:=Fr.of_new ((Znz _ _).trans (HB1.out.mono (by simp)));have h2:Fr (Z0y b sn A) w w2:=h1.trans (HF2.out.mono (fun k _ h=>.inl h));refine ((h2.alloc _).grown HGR.out (fun k hk=>?_)).setCell (p:=⟨b,0,none⟩) (.inl (.inl rfl)) _;rcases A1 with _ | a1
  · cases hk
  · simp only [Value.ownBlock,Option.some.injEq] at hk
    subst hk;rcases HM2.out with ⟨hsn,hA⟩ | ⟨_,g',hg',hA⟩
    · left;right;exact ⟨hsn.symm,a1,hA.symm,rfl⟩
    · injection hA with hA
      subst hA;right;dsimp only;omega
 rw [← hw4];have HgM:=hid hgM;have HgMv:=hid hgMv;have HB4:=hid hB4;have HR4:=hid hR4;have HF4:=hid hF4;have s4:=hB4.cell 0;have s4':w4.cell? ⟨b,0,none⟩=some (.slice (some ⟨g,0,none⟩) (l.length+1) c2):=s4;clear s4 hw4 hB4 hR4 hF4 hat hgM hgMv hnil  s0 f0;go_wp2_with fail
 go_loopw [7] (fun s wr=>∃i:Nat,s = .int .i64 i∧rank Z0k l x≤i∧i≤l.length∧wr.ownsRow 0 259 1 (.slice (some ⟨g,0,none⟩) (l.length+1) c2) (l.length+1) ((Z0c l x i).flatMap Bnum.cells)∧Fr (· = g) w4 wr) (fun s wr=>(intOf s).toNat)
 case atStart=>exact ⟨l.length,by go_num,hrk,Zo0 _,HR4.out,Fr.refl _ _⟩
 case round=>
  obtain ⟨i,rfl,hi1,hi2,hown,hfr⟩:=hrel;have hgw:g<wr.heap.size:=(hown.lt g rfl).2;have r0:wr.cell? ⟨b,0,none⟩=some (.slice (some ⟨g,0,none⟩) (l.length+1) c2):=(hfr.cell (p:=⟨b,0,none⟩) HB4.out.lt (fun h=>hgb h.symm)).trans s4';have fz : ∀o,wr.frozen? ⟨g,o,none⟩=false:=fun o=>hown.frozenAt o;have HOW:=hid hown;have HFR:=hid hfr;clear hown hfr;by_cases hlt:rank Z0k l x<i
  · obtain ⟨j,rfl⟩ : ∃j,i=j+1:=⟨i - 1,by omega⟩
    (have hj:j<l.length:=by omega);have hrd:=Z0d (A:=some ⟨g,0,none⟩) (c:=c2) (l:=Z0c l x (j+1)) Bnum.cells_length (by rw [Z03 l x hi2];exact HOW.out);obtain ⟨g',o',hgo,_,hcell⟩:=hrd.at_ (k:=j) (by rw [Z03 l x hi2];omega);injection hgo with hgo;injection hgo with hg1 hg2;subst hg1;subst hg2;rw [Z26 l x hj] at hcell;have q0:wr.cell? ⟨g,j,none⟩=some (.int .i64 l[j]):=by simpa using hcell 0 _ rfl
    have rmj:Room wr g 259 (c2*1)∧l.length+1≤c2:=by
     rcases Z07 HOW.out with ⟨hv,_⟩ | ⟨g',cap,hv,hn,_,hr,_⟩
     · cases hv
     · injection hv with hA _ hc
       injection hA with hA;injection hA with hA;subst hA;subst hc;exact ⟨hr,hn⟩
    obtain ⟨hrm,hcap⟩:=rmj;obtain ⟨u0,t0⟩:=hrm.cell (i:=(j+1)) (by omega);(have b0:(0:Int)≤(j:Int)+1:=by omega);(have b1:(0:Int)≤(j:Int):=by omega);(have b4:(j:Int)<(l.length:Int):=by omega);(have b2:(j:Int)<(l.length:Int)+1:=by omega);(have b3:(j:Int)+1<(l.length:Int)+1:=by omega);have w1:IntKind.i64.wrap ((j:Int))=(j:Int):=Zof _ (by omega);(have w2:IntKind.i64.wrap ((j:Int)+1 - 1)=(j:Int):=by rw [Zof _ (by omega)];omega);clear hcell hrd hrm;obtain ⟨y,hy⟩ : ∃y,y=l[j]:=⟨_,rfl⟩;rw [← hy] at q0;have HY:=hid hy;have hbw:b<wr.heap.size:=Zoa wr _ r0;clear hy;(go_wp2_with fail);refine Z06 (fun w9=>Below wr.heap.size wr w9) [(0,0),(1,0),(2,0),(3,1),(4,0),(5,0),(6,0),(7,0),(8,1),(9,0),(10,0),(11,0),(12,1),(13,0),(14,2)] (by kernel_rfl) (by kernel_rfl) (fun KK hKK=>?_);simp only [Z05,Zo9,Zo2,Zo7,Zo5,Zo6,Zoc];(repeat ((first | (refine Z0a ?_ (Or.inl ⟨by rfl,fun w9=>?_⟩) ?_;rotate_left 1;go_simp;with_reducible rfl) | (refine Z09 ?_ (((Znz _ _).drew)) (Or.inl ⟨by rfl,fun w9 hw9=>?_⟩) ?_;rotate_left 1;obtain ⟨hc9,hf9⟩:=Z0q hw9;go_simp;with_reducible rfl) | refine Z0a undef (Or.inr ⟨by rfl,rfl⟩) ?_ | refine Z09 undef (((Znz _ _).drew)) (Or.inr ⟨by rfl,rfl⟩) ?_);go_frame));refine Z1n (by kernel_rfl) (fun K9 hK9=>?_);go_simp;refine hK9 _ _ ?_;clear hK9 K9;refine Z12 ?_;simp only [Z00];refine hKK _ _ ?_;clear hKK KK;(go_wp2_with fail);go_roundw
    case rel=>
     refine ⟨j,by go_num,by omega,by omega,?_,Fr.drew ((HFR.out).setCell (p:=⟨g,(j+1),none⟩) (.inl rfl) (_))⟩;have hst:=((HOW.out).stored ((j+1)) (.int .i64 y)).1
     have he:setAll ((Z0c l x (j+1)).flatMap Bnum.cells) ((j+1)) (Bnum.cells y)=(Z0c l x j).flatMap Bnum.cells:=by
      rw [Z4m Bnum.cells_length (by omega) _ (j+1) (by rw [Z03 l x hi2];omega),HY.out,Z27 l x hj]
     rw [← he];exact hst
    case measure=>simp [intOf]<;>omega
  · obtain rfl:i=rank Z0k l x:=by omega
    have rmj:Room wr g 259 (c2*1)∧l.length+1≤c2:=by
     rcases Z07 HOW.out with ⟨hv,_⟩ | ⟨g',cap,hv,hn,_,hr,_⟩
     · cases hv
     · injection hv with hA _ hc
       injection hA with hA;injection hA with hA;subst hA;subst hc;exact ⟨hr,hn⟩
    obtain ⟨hrm,hcap⟩:=rmj;obtain ⟨k,hk⟩ : ∃k,k=rank Z0k l x:=⟨_,rfl⟩;rw [← hk] at hi2 hlt ⊢;obtain ⟨u0,t0⟩:=hrm.cell (i:=k) (by omega);(have b1:(0:Int)≤(k:Int):=by omega);(have b2:(k:Int)<(l.length:Int)+1:=by omega);have HK:=hid hk;have hbw:b<wr.heap.size:=Zoa wr _ r0;clear hrm hk;(go_wp2_with fail);go_ret;have HOWk:=HOW.out;rw [← HK.out] at HOWk;have hst:=((HOWk).stored (k) (.int .i64 x)).1
    have he:setAll ((Z0c l x k).flatMap Bnum.cells) (k) (Bnum.cells x)=(put Z0k l x).flatMap Bnum.cells:=by
     rw [Z4m Bnum.cells_length (by omega) _ k (by rw [Z03 l x hi2];omega),Z2q l x hi2,Z66 Z3n HO.out hh,HK.out]
    have hln:=Z2e Z3n HO.out hh;refine ⟨by rw [hh];rfl,false,some ⟨g,0,none⟩,c2,⟨?_,?_⟩,?_,?_⟩
    · rw [hln]
      exact (HB4.out.fr HFR.out (fun h=>hgb h.symm)).far (p:=⟨g,k,none⟩) (fun h=>hgb h.symm) _
    · rw [hln,← he]
      exact hst
    · exact HF4.out.into (((HFR.out).setCell (p:=⟨g,k,none⟩) (.inl rfl) (_))) (fun k hk=>by subst hk;exact HgM.out)
    · exact HgMv.out
theorem Zei (b c:Nat) (sn:Bool) (A:Option Addr) (l:List Bnum) (x:Bnum) (w:World) (hS:Z3l w b sn A c l) (hs:Srt Z0k l) (hl:(l.length:Int)≤100000000) :
 Calls Tryz.prog 172 #[.pointer (some ⟨b,0,none⟩),.int .i64 x] w (Z6d w b sn A l x):=by
 cases hh:has Z0k l x
 · exact Zc6 b c sn A l x w hS hs hl hh
 · exact Z94 b c sn A l x w hS hs hl hh
def Zck (w:World) (xs:List Bnum) (e:Ending) (w':World):Prop:=
 ∃k,e = .returned (.pointer (some ⟨k,0,none⟩))∧w.heap.size≤k∧∃sn A c,Z3l w' k sn A c (puts Z0k [] xs)∧AIn A (w.heap.size≤·)∧Below w.heap.size w w'
theorem Zkp (A:Option Addr) (c:Nat) (xs:List Bnum) (w:World) (hrd:Z0p w 1 Bnum.cells A c xs) (hl:(xs.length:Int)≤10000000) :
 Calls Tryz.prog 171 #[.slice A xs.length c] w (Zck w xs):=by
 have HRD:=hid hrd;clear hrd;go_enter Tryz.func171,Tryz.ntmps171;(go_wp2_with fail);obtain ⟨W0,hW0⟩ : ∃W0,W0=w.alloc (.cells #[.slice none 0 0,.bool false] 304):=⟨_,rfl⟩;(have hb0:Below w.heap.size w W0:=by rw [hW0];exact (Znz _ _).alloc (Zo0 _) _);have hS0:Z3l W0 w.heap.size false none 0 []:=⟨by rw [hW0];exact Blk.new _ _ _,⟨by simp,.inl ⟨rfl,rfl⟩⟩⟩;rw [← hW0];clear hW0;have HB0:=hid hb0;have HS0:=hid hS0;clear hb0 hS0
 go_loopw [10] (fun s wr=>∃i:Nat,s = .int .i64 i∧i≤xs.length∧∃sn A' c',Z3l wr w.heap.size sn A' c' (puts Z0k [] (xs.take i))∧AIn A' (w.heap.size≤·)∧Below w.heap.size w wr) (fun s wr=>xs.length - (intOf s).toNat)
 case atStart=>exact ⟨0,rfl,Nat.zero_le _,false,none,0,HS0.out,AIn.none_ _,HB0.out⟩
 case round=>
  obtain ⟨i,rfl,hi,sn,A',c',hS,hA',hB⟩:=hrel;have HS:=hid hS;have HA:=hid hA';have HB:=hid hB;clear hS hA' hB;by_cases hlt:i<xs.length
  · obtain ⟨x,hx⟩ : ∃x,x=xs[i]:=⟨_,rfl⟩
    obtain ⟨g,off,rfl,hgs,hcell⟩:=(HRD.out.fr (Fr.of_new (M:=fun _=>False) HB.out) (fun _ _ h=>h)).at_ hlt;rw [← hx] at hcell;(have q0:wr.cell? ⟨g,off+i,none⟩=some (.int .i64 x):=by simpa using hcell 0 _ rfl);(have b1:(0:Int)≤(i:Int):=by omega);(have b2:(i:Int)<(xs.length:Int):=by omega);have HX:=hid hx;clear hcell hx;(go_wp2_with fail);have hsr:=Srt.puts Z3n (xs.take i) (Srt.nil (cmp:=Z0k))
    have hlen:(((puts Z0k [] (xs.take i)).length:Nat):Int)≤100000000:=by
     have:=Z13 Z3n (xs.take i) (Srt.nil (cmp:=Z0k));simp at this;omega
    refine (Zei w.heap.size c' sn A' _ x _ (HS.out.new_ (Znz _ _)) hsr hlen).mono ?_;rintro e w1 ⟨rfl,sn2,A2,c2,hS2,hF2,hM2⟩
    have hB1:Below w.heap.size w w1:=(HB.out).trans (hF2.below (by have:=HB.out.size;(try simp);omega) (fun k hk hm=>by
     rcases hm with hm | ⟨_,a,ha,hm⟩
     · omega
     · have:=HA.out a ha;omega))
    have hA2:AIn A2 (w.heap.size≤·):=by
     rcases hM2 with ⟨_,rfl⟩ | ⟨_,g2,hg2,rfl⟩
     · exact HA.out
     · intro a ha;cases ha;have:=HB.out.size;(try simp at hg2 ⊢);omega
    have HS2:=hid hS2;have HB1:=hid hB1;have HA2:=hid hA2;clear hS2 hB1 hA2 hF2 hM2 hsr hlen q0;(go_wp2_with fail);go_roundw
    case rel=>
     refine ⟨i+1,by go_num,by omega,sn2,A2,c2,?_,HA2.out,HB1.out⟩;rw [Zou,Zo8 hlt,← HX.out];simp only [Option.toList_some,Z23];exact HS2.out
    case measure=>simp [intOf]<;>omega
  · have hie:i=xs.length:=by omega
    subst hie;(go_wp2_with fail);go_ret;refine ⟨w.heap.size,rfl,Zo0 _,sn,A',c',?_,HA.out,HB.out⟩;have:=HS.out;rwa [Zop] at this
theorem Z1d.from_ {b:Nat} {W W1 F:World} (h:Z1d b W1 F) (hb:Below W.heap.size W W1):Z1d b W F:=by
 obtain ⟨X,hX,rfl⟩:=h;exact ⟨X,hb.trans (hX.mono hb.size),rfl⟩
theorem Z1d.size {b:Nat} {W F:World} (h:Z1d b W F):W.heap.size≤F.heap.size:=by
 obtain ⟨X,hX,rfl⟩:=h;simpa using hX.size
abbrev Z2m:=Z1w (α:=PgR) 333 299 7 PgR.cells
theorem Zbs (k0 : Int) (k1 : Int) (k2 : Int) (k3 : Value) (k4 : Value) (k5 : Value) (k6 : Value) (w : World) : (nilAhead 555 299 (.agg #[.int .i64 k0, .int .i64 k1, .int .i64 k2,  k3,  k4,  k5,  k6]) "Compare").run Tryz.prog w = .ok (some false) w := by kernel_rfl
theorem Zfm (k0 : Int) (k1 : Int) (k2 : Int) (k3 : Value) (k4 : Value) (k5 : Value) (k6 : Value) (w : World) : (method 555 299 (.agg #[.int .i64 k0, .int .i64 k1, .int .i64 k2,  k3,  k4,  k5,  k6]) "Compare").run Tryz.prog w = .ok (345, .agg #[.int .i64 k0, .int .i64 k1, .int .i64 k2,  k3,  k4,  k5,  k6]) w := by kernel_rfl
def Zj6 (l:List PgR) (x:PgR) (w:World) (e:Ending) (w':World):Prop:=
 e = .returned (.tuple #[.int .i64 (rank Z16 l x),.bool (has Z16 l x)])∧Below w.heap.size w w'
theorem Za2 (b c:Nat) (sn:Bool) (A:Option Addr) (l:List PgR) (x:PgR) (w:World) (hS:Z2m w b sn A c l) (hs:Srt Z16 l) (hl:(l.length:Int)≤4611686018427387904) :
 Calls Tryz.prog 232 #[.pointer (some ⟨b,0,none⟩),.agg #[.int .i64 x.kk,.int .i64 x.num,.int .i64 x.level,.slice x.elems.A x.elems.n x.elems.c,.slice x.holes.A x.holes.n x.holes.c,.slice x.aparts.A x.aparts.n x.aparts.c,.slice x.news.A x.news.n x.news.c]] w (Zj6 l x w):=by
 have hrd:=hS.rd PgR.cells_length;have h0:=hS.cell0;have hb:=hS.lt;clear hS;have HS:=hid hs;have HRD:=hid hrd;clear hs hrd;go_enter Tryz.func232,Tryz.ntmps232;(go_wp2_with fail);go_quiet (fail);(go_wp2_with fail);obtain ⟨W0,hW0⟩ : ∃W0,W0=((w.alloc (Obj.cells #[.int .i64 x.kk,.int .i64 x.num,.int .i64 x.level,.slice x.elems.A x.elems.n x.elems.c,.slice x.holes.A x.holes.n x.holes.c,.slice x.aparts.A x.aparts.n x.aparts.c,.slice x.news.A x.news.n x.news.c] 299)).drewN nq):=⟨_,rfl⟩;(have hB0:Below w.heap.size w W0:=by rw [hW0];exact Below.drewN' ((Znz _ _).alloc (Zo0 _) _) _);(have hx0:W0.cell? ⟨w.heap.size,0,none⟩=some (.int .i64 x.kk):=by rw [hW0];go_simp);(have hx1:W0.cell? ⟨w.heap.size,1,none⟩=some (.int .i64 x.num):=by rw [hW0];go_simp);(have hx2:W0.cell? ⟨w.heap.size,2,none⟩=some (.int .i64 x.level):=by rw [hW0];go_simp);(have hx3:W0.cell? ⟨w.heap.size,3,none⟩=some (.slice x.elems.A x.elems.n x.elems.c):=by rw [hW0];go_simp);(have hx4:W0.cell? ⟨w.heap.size,4,none⟩=some (.slice x.holes.A x.holes.n x.holes.c):=by rw [hW0];go_simp);(have hx5:W0.cell? ⟨w.heap.size,5,none⟩=some (.slice x.aparts.A x.aparts.n x.aparts.c):=by rw [hW0];go_simp);(have hx6:W0.cell? ⟨w.heap.size,6,none⟩=some (.slice x.news.A x.news.n x.news.c):=by rw [hW0];go_simp);rw [← hW0];clear hW0;have HB0:=hid hB0;clear hB0
 go_loopw [6,7] (fun lo hi wr=>∃i j:Nat,lo = .int .i64 i∧hi = .int .i64 j∧i≤j∧j≤l.length∧(∀k,(h:k<l.length)→k<i→Z16 l[k] x<0)∧(∀k,(h:k<l.length)→j≤k→0<Z16 l[k] x)∧Below W0.heap.size W0 wr) (fun lo hi wr=>(intOf hi).toNat - (intOf lo).toNat)
 case atStart=>exact ⟨0,l.length,rfl,rfl,Nat.zero_le _,Zo0 _,fun k _ h=>absurd h (by omega),fun k h h'=>absurd h (by omega),Znz _ _⟩
 case round=>
  obtain ⟨i,j,rfl,rfl,hij,hj,hlo,hhi,hB⟩:=hrel;have HLO:=hid hlo;have HHI:=hid hhi;clear hlo hhi;have hsz:w.heap.size<W0.heap.size:=Zoa W0 _ hx0;by_cases hlt:i<j
  · obtain ⟨m,hm⟩ : ∃m,m=i+(j - i) / 2:=⟨_,rfl⟩
    (have hml:m<l.length:=by omega);(have hmj:m<j:=by omega);(have hmi:i≤m:=by omega);(have e1:((i:Int)+((j:Int) - (i:Int)) / 2)=(m:Int):=by omega);have E1:=hid e1;clear e1 hm;obtain ⟨g,off,rfl,hgs,hcell⟩:=HRD.out.at_ hml;have low : ∀(p:Addr),p.block<w.heap.size→wr.cell? p=w.cell? p:=fun p hp=>(hB.cell (p:=p) (by omega)).trans (HB0.out.cell (p:=p) hp);have r0:=(low ⟨b,0,none⟩ hb).trans h0;have q0:=(low ⟨g,off+m*7,none⟩ hgs).trans (hcell 0 _ rfl);have q1:=(low ⟨g,off+m*7+1,none⟩ hgs).trans (hcell 1 _ rfl);have q2:=(low ⟨g,off+m*7+2,none⟩ hgs).trans (hcell 2 _ rfl);have q3:=(low ⟨g,off+m*7+3,none⟩ hgs).trans (hcell 3 _ rfl);have q4:=(low ⟨g,off+m*7+4,none⟩ hgs).trans (hcell 4 _ rfl);have q5:=(low ⟨g,off+m*7+5,none⟩ hgs).trans (hcell 5 _ rfl);have q6:=(low ⟨g,off+m*7+6,none⟩ hgs).trans (hcell 6 _ rfl);have y0:=(hB.cell (p:=⟨w.heap.size,0,none⟩) hsz).trans hx0;have y1:=(hB.cell (p:=⟨w.heap.size,1,none⟩) hsz).trans hx1;have y2:=(hB.cell (p:=⟨w.heap.size,2,none⟩) hsz).trans hx2;have y3:=(hB.cell (p:=⟨w.heap.size,3,none⟩) hsz).trans hx3;have y4:=(hB.cell (p:=⟨w.heap.size,4,none⟩) hsz).trans hx4;have y5:=(hB.cell (p:=⟨w.heap.size,5,none⟩) hsz).trans hx5;have y6:=(hB.cell (p:=⟨w.heap.size,6,none⟩) hsz).trans hx6;(have b1:(0:Int)≤(m:Int):=by omega);(have b2:(m:Int)<(l.length:Int):=by omega);have hsw:W0.heap.size≤wr.heap.size:=hB.size;have N:=Zbs;have M:=Zfm;clear low hcell hx0 hx1 hx2 hx3 hx4 hx5 hx6 h0;have HB:=hid hB;clear hB;obtain ⟨y,hy⟩ : ∃y,y=l[m]:=⟨_,rfl⟩;rw [← hy] at q0 q1 q2 q3 q4 q5 q6;have HY:=hid hy;clear hy;(have hbw:b<wr.heap.size:=by omega);(have hgw:g<wr.heap.size:=by omega);(have hww:w.heap.size<wr.heap.size:=by omega);(go_wp2_with fail);rw [E1.out]
    go_region_held3 (fun w'=>w'.cell? ⟨b,0,none⟩=some (.slice (some ⟨g,off,none⟩) l.length c)∧w'.cell? ⟨g,off+m*7,none⟩=some (.int .i64 y.kk)∧w'.cell? ⟨g,off+m*7+1,none⟩=some (.int .i64 y.num)∧w'.cell? ⟨g,off+m*7+2,none⟩=some (.int .i64 y.level)∧w'.cell? ⟨g,off+m*7+3,none⟩=some (.slice y.elems.A y.elems.n y.elems.c)∧w'.cell? ⟨g,off+m*7+4,none⟩=some (.slice y.holes.A y.holes.n y.holes.c)∧w'.cell? ⟨g,off+m*7+5,none⟩=some (.slice y.aparts.A y.aparts.n y.aparts.c)∧w'.cell? ⟨g,off+m*7+6,none⟩=some (.slice y.news.A y.news.n y.news.c)∧w'.cell? ⟨w.heap.size,0,none⟩=some (.int .i64 x.kk)∧w'.cell? ⟨w.heap.size,1,none⟩=some (.int .i64 x.num)∧w'.cell? ⟨w.heap.size,2,none⟩=some (.int .i64 x.level)∧w'.cell? ⟨w.heap.size,3,none⟩=some (.slice x.elems.A x.elems.n x.elems.c)∧w'.cell? ⟨w.heap.size,4,none⟩=some (.slice x.holes.A x.holes.n x.holes.c)∧w'.cell? ⟨w.heap.size,5,none⟩=some (.slice x.aparts.A x.aparts.n x.aparts.c)∧w'.cell? ⟨w.heap.size,6,none⟩=some (.slice x.news.A x.news.n x.news.c))
     (first | go_keep | (refine ⟨?_,?_,?_,?_,?_,?_,?_,?_,?_,?_,?_,?_,?_,?_,?_⟩<;>exact (hb1.cell (by simpa using by assumption)).trans (by simp [*])))
     ((go_at_call 345;refine (Zly y x _).mono ?_;rintro e w1 ⟨rfl,hb1⟩))
    have HB1:Below W0.heap.size W0 w1:=HB.out.drew.trans (hb1.mono hsw);clear r0 q0 q1 q2 q3 q4 q5 q6 y0 y1 y2 y3 y4 y5 y6 N M;by_cases hc:Z16 y x=0
    · have HC:=hid hc
      (have t1:(Z16 y x == 0)=true:=by simp [hc]);clear hc;(go_wp2_with fail);go_ret2;have e:=HC.out;rw [HY.out] at e;refine ⟨?_,HB0.out.trans (HB1.mono (by omega))⟩;rw [Z3j Z5q HS.out hml e,(Z4g Z5q HS.out hml e).2.2.1];rfl
    · have t1:(Z16 y x == 0)=false:=by simp [hc]
      by_cases hc2:Z16 y x<0
      · have HC:=hid hc2
        (have t2:decide (Z16 y x<0)=true:=by simpa using hc2);clear hc hc2;(go_wp2_with fail);go_roundw
        case rel=>
         refine ⟨m+1,j,by go_num,rfl,by omega,hj,fun k h1 h2=>?_,HHI.out,HB1⟩;have e:=HC.out;rw [HY.out] at e;rcases Nat.lt_or_ge k m with h3 | h3
         · exact Z5q.lt_of_lt_of_le (HS.out.lt h3 hml) (by omega)
         · obtain rfl:k=m:=by omega
           exact e
        case measure=>simp [intOf];omega
      · have t2:decide (Z16 y x<0)=false:=by simpa using hc2
        (have hc3:0<Z16 y x:=by omega);have HC:=hid hc3;clear hc hc2 hc3;(go_wp2_with fail);go_roundw
        case rel=>
         refine ⟨i,m,rfl,rfl,by omega,by omega,HLO.out,fun k h1 h2=>?_,HB1⟩;have e:=HC.out;rw [HY.out] at e;rcases Nat.lt_or_ge m k with h3 | h3
         · exact (Z5q.symm _ _).1 (Z5q.lt_trans ((Z5q.symm _ _).2 e) (HS.out.lt h3 h1))
         · obtain rfl:k=m:=by omega
           exact e
        case measure=>simp [intOf];omega
  · obtain rfl:i=j:=by omega
    have HB:=hid hB;clear hB;(go_wp2_with fail);go_ret2;refine ⟨?_,HB0.out.trans (HB.out.mono (by omega))⟩;rw [Z3i hj HLO.out HHI.out,(Z4v HLO.out HHI.out).2.2];rfl
end
section
open Go.RowKit Go.Shelf
attribute [local go_sem] Oper.semAt_some
def Zb8 (x:PgR):Array Value:=#[.agg #[.int .i64 x.kk,.int .i64 x.num,.int .i64 x.level,.slice x.elems.A x.elems.n x.elems.c,.slice x.holes.A x.holes.n x.holes.c,.slice x.aparts.A x.aparts.n x.aparts.c,.slice x.news.A x.news.n x.news.c]]
theorem Zk2 (lo b c k:Nat) (sn:Bool) (A:Option Addr) (l:List PgR) (W:World) (hS:Z2m W b sn A c l) (hk:k≤l.length) (J Jx:List PgR→World→Prop)
 (h0:J [] (W.setCell ⟨b,1,none⟩ (.bool true))) (hY:Zli lo Zb8 (l.drop k) (Z0h A) J Jx) :
 CallsIn Fence.wide 0 Tryz.prog 235 #[.pointer (some ⟨b,0,none⟩),.int .i64 k,.func (.yield lo) #[] #[]] W (Told (l.drop k) J Jx):=by
 have s0:=hS.cell0;have s1:=hS.cell1;have f1:=hS.blk.frozen 1;have hne:=Z01 hS.row hS.blk (by decide);have hrd:Z0p (W.setCell ⟨b,1,none⟩ (.bool true)) 7 PgR.cells A c l:=Z0d PgR.cells_length (ownsRow_setCell_other hS.row hne _);(have hlm:(l.length:Int)≤9223372036854775807:=by have:=hrd.cap;omega);have HRD:=hid hrd;have H0:=hid h0;have HY:=hid hY;clear hS hrd h0 hY hne;refine callsIn_of_wp Tryz.func235 rfl trivial ?_;simp only [Tryz.ntmps235,Zp6,Zol,Zp3,Nat.reduceAdd,Nat.reduceSub,Zow,Zox,Zp5,Zp0,Zom,Zp1];gi_wp2
 gi_loopw [7] (fun s wr=>∃pre post,s = .int .i64 ((k+pre.length:Nat):Int)∧l.drop k=pre++post∧J pre wr∧Z0p wr 7 PgR.cells A c l) (fun s wr=>l.length - (intOf s).toNat)
 case atStart=>exact ⟨[],l.drop k,by simp,by simp,H0.out,HRD.out⟩
 case round=>
  obtain ⟨pre,post,rfl,hx,hJ,hrd⟩:=hrel;(have hlen:k+pre.length+post.length=l.length:=by have:=congrArg List.length hx;simp at this;omega);have HX:=hid hx;have HJ:=hid hJ;have HR:=hid hrd;clear hx hJ hrd
  cases post with
  | nil=>
    (have e1:((k+pre.length:Nat):Int)=(l.length:Int):=by simp at hlen;omega);rw [e1];clear hlen e1;gi_wp2;go_end0;exact ⟨⟨_,rfl⟩,.inl (by have:=HX.out;rw [Zpa] at this;rw [this];exact HJ.out)⟩
  | cons x post=>
    obtain ⟨m,hm⟩ : ∃m,m=k+pre.length:=⟨_,rfl⟩;have hml:m<l.length:=by simp at hlen;omega
    have hget:l[m]=x:=by
     apply Zpd;rw [← Zo8,hm,← List.getElem?_drop,HX.out];simp
    obtain ⟨g,off,rfl,hgs,hcell⟩:=HR.out.at_ hml;rw [hget] at hcell;(have q0:wr.cell? ⟨g,off+m*7,none⟩=some (.int .i64 x.kk):=by simpa using hcell 0 _ rfl);(have q1:wr.cell? ⟨g,off+m*7+1,none⟩=some (.int .i64 x.num):=by simpa using hcell 1 _ rfl);(have q2:wr.cell? ⟨g,off+m*7+2,none⟩=some (.int .i64 x.level):=by simpa using hcell 2 _ rfl);(have q3:wr.cell? ⟨g,off+m*7+3,none⟩=some (.slice x.elems.A x.elems.n x.elems.c):=by simpa using hcell 3 _ rfl);(have q4:wr.cell? ⟨g,off+m*7+4,none⟩=some (.slice x.holes.A x.holes.n x.holes.c):=by simpa using hcell 4 _ rfl);(have q5:wr.cell? ⟨g,off+m*7+5,none⟩=some (.slice x.aparts.A x.aparts.n x.aparts.c):=by simpa using hcell 5 _ rfl);(have q6:wr.cell? ⟨g,off+m*7+6,none⟩=some (.slice x.news.A x.news.n x.news.c):=by simpa using hcell 6 _ rfl);(have b1:(0:Int)≤(m:Int):=by omega);(have b2:(m:Int)<(l.length:Int):=by omega);rw [← hm];have HM:=hid hm;clear hcell hget hlen hm;obtain ⟨fn,tmps,assign,body,hy,hR⟩:=HY.out pre x post wr HX.out HJ.out;dsimp only [Zb8] at hy;have HRR:=hid hR;clear hR;(gi_wp2_with fail);refine ⟨rfl,HRR.out.mono ?_⟩;rintro e W3 (⟨rfl,hJ3,hk3⟩ | ⟨rfl,hJx3⟩)
    · have HJ3:=hid hJ3
      have HK3:=hid hk3;clear hJ3 hk3 hy q0 q1 q2 q3 q4 q5 q6;gi_wp2;go_roundw
      case rel=>exact ⟨pre ++ [x],post,by rw [HM.out,Zoi,List.length_singleton];go_num,by rw [HX.out];simp,HJ3.out,HK3.out.rd HR.out⟩
      case measure=>simp [intOf]<;>omega
    · have HJ3:=hid hJx3
      clear hJx3 hy q0 q1 q2 q3 q4 q5 q6;gi_wp2;refine bodyPost_ret (results_none rfl _ _ _) rfl ?_;exact ⟨⟨_,rfl⟩,.inr ⟨pre ++ [x],post,by rw [HX.out];simp,HJ3.out⟩⟩
theorem Zlt (kb b c:Nat) (sn:Bool) (A:Option Addr) (l:List PgR) (W:World) (hbox:W.cell? ⟨kb,0,none⟩=some (.pointer (some ⟨b,0,none⟩))) (hS:Z2m W b sn A c l) :
 Iter Tryz.prog 234 #[.pointer (some ⟨kb,0,none⟩)] Zb8 l W (Z1d b) (Z0h A):=by
 intro lo J Jx _ _ h0 hY;have H0:=hid (h0 (W.setCell ⟨b,1,none⟩ (.bool true)) ⟨W,Znz _ _,rfl⟩);have HY:=hid hY;have HS:=hid hS;clear h0 hY hS;refine callsIn_of_wp Tryz.func234 rfl trivial ?_;simp only [Tryz.ntmps234,Zp6,Zol,Zp3,Nat.reduceAdd,Nat.reduceSub,Zow,Zox,Zp5,Zp0,Zom,Zp1];(gi_wp2_with fail);have hz:((0:Nat):Int)=0:=rfl;refine ⟨trivial,rfl,?_⟩;refine (Zk2 lo b c 0 sn A l W HS.out (Nat.zero_le _) J Jx H0.out (by rw [List.drop_zero];exact HY.out)).mono ?_;rintro e W3 ⟨⟨v,rfl⟩,h⟩;rw [List.drop_zero] at h;have H:=hid h;clear h;gi_wp2;go_end0;exact ⟨⟨_,rfl⟩,H.out⟩
end
section
open Go.RowKit
theorem Ze9:(Tryz.prog.info? 299).map (fun i=>(i.zero,i.size,i.bytes))=some (some (.agg #[.int .i64 0,.int .i64 0,.int .i64 0,.slice none 0 0,.slice none 0 0,.slice none 0 0,.slice none 0 0]),7,120):=by kernel_rfl
theorem PgR.one (x:PgR) : ∀u∈PgR.cells x,u.oneCell'=true:=by intro u hu;simp [PgR.cells] at hu;rcases hu with rfl | rfl | rfl | rfl | rfl | rfl | rfl<;>rfl
theorem PgR.oneAll (l:List PgR) : ∀u∈l.flatMap PgR.cells,u.oneCell'=true:=by intro u hu;obtain ⟨x,_,hx⟩:=List.mem_flatMap.1 hu;exact PgR.one x u hx
def Z76 (w:World) (b:Nat) (sn:Bool) (A:Option Addr) (l:List PgR) (e:Ending) (w':World):Prop:=
 e = .returned (.tuple #[])∧∃A' c',Z2m w' b false A' c' l∧Fr (· = b) w w'∧Z1p w sn A false A'
theorem Zfv (b c:Nat) (A:Option Addr) (l:List PgR) (w:World) (hS:Z2m w b false A c l) :
 Calls Tryz.prog 233 #[.pointer (some ⟨b,0,none⟩)] w (Z76 w b false A l):=by
 have h1:=hS.cell1;have HS:=hid hS;clear hS;go_enter Tryz.func233,Tryz.ntmps233;go_wp2;go_end0;exact ⟨rfl,A,c,HS.out,Fr.refl _ _,.inl ⟨rfl,rfl⟩⟩
theorem Zdc (b c:Nat) (A:Option Addr) (l:List PgR) (w:World) (hS:Z2m w b true A c l) (hl:(l.length:Int)≤1000000000) :
 Calls Tryz.prog 233 #[.pointer (some ⟨b,0,none⟩)] w (Z76 w b true A l):=by
 obtain ⟨i0,hi,hz0,hz1,hz2⟩:=info_parts Ze9;have h0:=hS.cell0;have h1:=hS.cell1;have hb:=hS.lt;have f0:=hS.blk.frozen 0;have f1:=hS.blk.frozen 1;have hrd:=hS.rd PgR.cells_length;have HB:=hid hS.blk;have HRD:=hid hrd;clear hS hrd;have e1:IntKind.i64.wrap ((l.length:Int)+1)=(l.length:Int)+1:=Zof _ (by omega)
 have hmk : ∀W:World,(Instr.makeSlice 331 (.int .i64 0) (.int .i64 ((l.length:Int)+1))).run Tryz.prog W = .ok (.slice (some ⟨W.heap.size,0,none⟩) 0 (l.length+1)) (W.alloc (.cells (madeCells (Value.cells (.agg #[.int .i64 0,.int .i64 0,.int .i64 0,.slice none 0 0,.slice none 0 0,.slice none 0 0,.slice none 0 0])) ((l.length+1)*7)) 299)):=fun W=>by
  have h:=run_make (P:=Tryz.prog) W 331 299 i0 _ Tryz.underlying331 hi hz0 .i64 .i64 0 ((l.length:Int)+1) (by omega) (by omega) (by rw [hz2];omega) (by omega);rw [hz1] at h;simpa [show ((l.length:Int)+1).toNat=l.length+1 by omega] using h
 go_enter Tryz.func233,Tryz.ntmps233;(go_wp2_with fail);refine Z06 (fun w9=>Below w.heap.size w w9) [(0,0),(1,0),(2,0),(3,0),(4,1),(5,0),(6,0),(8,0),(9,0),(10,0),(11,1),(7,2),(12,2),(13,0),(14,0),(15,2)] (by kernel_rfl) (by kernel_rfl) (fun KK hKK=>?_);simp only [Z05,Zo9,Zo2,Zo7,Zo5,Zo6,Zoc];(repeat ((first | (refine Z0a ?_ (Or.inl ⟨by rfl,fun w9=>?_⟩) ?_;rotate_left 1;go_simp;with_reducible rfl) | (refine Z09 ?_ (((Znz _ _).drew)) (Or.inl ⟨by rfl,fun w9 hw9=>?_⟩) ?_;rotate_left 1;obtain ⟨hc9,hf9⟩:=Z0q hw9;go_simp;with_reducible rfl) | refine Z0a undef (Or.inr ⟨by rfl,rfl⟩) ?_ | refine Z09 undef (((Znz _ _).drew)) (Or.inr ⟨by rfl,rfl⟩) ?_);go_frame));refine Z29 (fun K9 hK9=>?_);go_simp;refine hK9 _ _ (((Znz _ _).drew).alloc (Zo0 _) _) ?_;clear hK9 K9;refine Z1n (by kernel_rfl) (fun K9 hK9=>?_)
 refine Z0i _ (by rfl) _ _ _ (by rfl) 299 i0 _ 7 120 Tryz.underlying331 hi hz0 hz1 hz2 rfl (by omega) _ 0 [] (by rfl) (World.ownsRow_made _ _ _ (Nat.zero_le _) (by unfold maxLen;omega) (by simp [madeCells])) A l.length c (l.flatMap PgR.cells) (by rfl) (Z0t PgR.cells_length l)
  ((HRD.out.drew.alloc _).news PgR.cells_length (by omega)) (PgR.oneAll l) (by unfold maxLen;omega) (by omega) ?_
 intro v2 w2 hown hgr hnil hat;refine hK9 _ _ ?_;clear hK9 K9;rw [Zov,Zom] at hown;obtain ⟨A',c',rfl,_,_,hz⟩:=Z0z hown;have HB1:=(HB.out.drew.alloc (.cells (madeCells (Value.cells (.agg #[.int .i64 0,.int .i64 0,.int .i64 0,.slice none 0 0,.slice none 0 0,.slice none 0 0,.slice none 0 0])) ((l.length+1)*7)) 299)).grown hgr (by simp [Value.ownBlock];omega);have c0:=(HB1.cell 0).trans rfl;have c1:=(HB1.cell 1).trans rfl;have z0:=HB1.frozen 0;have z1:=HB1.frozen 1;have HB2:=hid HB1;clear HB1;(repeat ((first | (refine Z0a ?_ (Or.inl ⟨by rfl,fun w9=>?_⟩) ?_;rotate_left 1;go_simp;with_reducible rfl) | (refine Z09 ?_ (((Znz _ _).drew).alloc (Zo0 _) _) (Or.inl ⟨by rfl,fun w9 hw9=>?_⟩) ?_;rotate_left 1;obtain ⟨hc9,hf9⟩:=Z0q hw9;go_simp;with_reducible rfl) | refine Z0a undef (Or.inr ⟨by rfl,rfl⟩) ?_ | refine Z09 undef (((Znz _ _).drew).alloc (Zo0 _) _) (Or.inr ⟨by rfl,rfl⟩) ?_);go_frame));refine Z1n (by kernel_rfl) (fun K9 hK9=>?_);go_simp;refine hK9 _ _ ?_;clear hK9 K9;refine Z12 ?_;simp only [Z00];refine hKK _ _ ?_;clear hKK KK;go_wp2;go_end0
 have hb2:(Value.slice A' l.length c').ownBlock=some w.heap.size∨(Value.slice A' l.length c').ownBlock=some (w.heap.size+1):=by
  rcases hat with h | h
  · left;rw [h];rfl
  · right;rw [h];simp
 have hA : ∃g,w.heap.size≤g∧A'=some ⟨g,0,none⟩:=by
  rcases A' with _ | a
  · exfalso;simp [Value.ownBlock] at hb2
  · obtain ⟨g,rfl⟩:=hz a rfl
    refine ⟨g,?_,rfl⟩;simp [Value.ownBlock] at hb2;omega
 obtain ⟨g,hg,rfl⟩:=hA;have HB1:=HB2.out;have HF:Fr (· = b) w w2:=((Fr.refl (· = b) w).drew.alloc _).grown hgr (fun k e=>by simp [Value.ownBlock] at e;right;omega);refine ⟨rfl,some ⟨g,0,none⟩,c',⟨(HB1.set_ 0 _).set_ 1 _,?_⟩,(HF.setCell (p:=⟨b,0,none⟩) (.inl rfl) _).setCell (p:=⟨b,1,none⟩) (.inl rfl) _,.inr ⟨rfl,g,hg,rfl⟩⟩;(have hne:(Value.slice (some ⟨g,0,none⟩) l.length c').ownBlock≠some b:=by simp [Value.ownBlock];omega);exact ownsRow_setCell_other (a:=⟨b,1,none⟩) (ownsRow_setCell_other (a:=⟨b,0,none⟩) hown hne _) hne _
theorem Zmr (b c:Nat) (sn:Bool) (A:Option Addr) (l:List PgR) (w:World) (hS:Z2m w b sn A c l) (hl:(l.length:Int)≤1000000000) :
 Calls Tryz.prog 233 #[.pointer (some ⟨b,0,none⟩)] w (Z76 w b sn A l):=by
 cases sn
 · exact Zfv b c A l w hS
 · exact Zdc b c A l w hS hl
end
section
open Go.RowKit Go.Shelf
attribute [local go_sem] Oper.semAt_some
theorem Zhz (b:Nat) (w:World) :
 Calls Tryz.prog 216 #[.pointer (some ⟨b,0,none⟩)] w fun e w'=>e = .returned (.func (.func 234) #[] #[.pointer (some ⟨w.heap.size,0,none⟩)])∧Below w.heap.size w w'∧w'.cell? ⟨w.heap.size,0,none⟩=some (.pointer (some ⟨b,0,none⟩)):=by
 go_enter Tryz.func216,Tryz.ntmps216;go_wp2;go_ret;exact ⟨rfl,(Znz _ _).alloc (Zo0 _) _,by go_simp⟩
theorem Zds (kb b c:Nat) (sn:Bool) (A:Option Addr) (l:List PgR) (w:World) (hbox:w.cell? ⟨kb,0,none⟩=some (.pointer (some ⟨b,0,none⟩))) (hS:Z2m w b sn A c l) :
 Seq 234 #[.pointer (some ⟨kb,0,none⟩)] Zb8 l w (Z1d b) (Z0h A):=
 ⟨by intro args w;kernel_rfl,fun W hW=>(Zlt kb b c sn A l W ((hW.cell (Zoa _ _ hbox)).trans hbox) (hS.new_ hW)).weak (fun _ _ h=>h.1),fun _ _ _=>Z0h.trans,fun _ _=>Z0h.of_priv hS.row_lt,fun _ _=>Z0h.of_below hS.row_lt,fun _ _ h=>h.fr.mono (fun k _ hk=>by subst hk;exact hS.lt)⟩
end
section
open Go.RowKit Go.Shelf
structure SeqP {α:Type} (gf:Nat) (lb:Array Value) (encs:α→Array Value) (xs:List α) (w:World) (start Kp:World→World→Prop):Prop where
 enter : ∀args w,(callFunc gf args).run Tryz.prog w = .ok (.enter gf args) w
 iter : ∀W,Below w.heap.size w W→Zgi Tryz.prog gf lb encs xs W start Kp
 trans : ∀A B C,Kp A B→Kp B C→Kp A C
 keep : ∀A B,Priv w.heap.size A B→Kp A B
 below : ∀A B,Below w.heap.size A B→Kp A B
 mods : ∀W W1,start W W1→Fr (· < w.heap.size) W W1
theorem Seq.p {α:Type} {gf:Nat} {lb:Array Value} {encs:α→Array Value} {xs:List α} {w:World} {start Kp:World→World→Prop} (h:Seq gf lb encs xs w start Kp):SeqP gf lb encs xs w start Kp:=
 ⟨h.enter,fun W hW=>(h.iter W hW).p,h.trans,h.keep,h.below,h.mods⟩
end
end Go.Proofs.YtldndkngpdfpfaaGreat
