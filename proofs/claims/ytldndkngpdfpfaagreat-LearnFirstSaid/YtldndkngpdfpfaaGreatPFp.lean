/-
  Texts put together: VaryN4s, VaryN2, VaryN4, VaryWk, BkCopy1, BkTests, BkCopyP, RefBefore, KeepNeq, VaryEl, VaryRef, VaryRo, LawVOrders, RefHas, RefRise.
-/
import Derived.Test.YtldndkngpdfpfaaGreatPFo
namespace Go.Proofs.YtldndkngpdfpfaaGreat
open Lib (hid)
set_option maxRecDepth 100000
set_option maxHeartbeats 32000000
section
open Go.RowKit Go.Shelf
attribute [local go_sem] Oper.semAt_some
set_option linter.unusedSimpArgs false
theorem Zkc (l:List Elem) (A:Option Addr) (c:Nat) (X:World) (h:Z0p X 12 Elem.cells A c l) (hl:l.length≤1):Calls Tryz.prog 61 #[.slice A l.length c] X (Z63 l X):=by
 obtain ⟨i0,hi0,hz0,hz1,hz2⟩:=infp Ze6;have HR:=hid h;have hc1:=h.cap;clear h;go_enter Tryz.func61,Tryz.ntmps61;(go_wp2_with fail);refine (Zgy _).mono ?_;rintro e w1 ⟨bm,bp,sn,AM,cM,rfl,hbm,hbp,hAM,hM,hS,hb1⟩;have HK:=hid (And.intro hbm (And.intro hbp (And.intro hAM (And.intro hM (And.intro hS hb1)))));clear hbm hbp hAM hM hS hb1;(go_upto_region 2 with fail);obtain ⟨w2,hw2⟩ : ∃w2,w2=w1.alloc (.cells #[.pointer (some ⟨bm,0,none⟩),.slice none 0 0] 148):=⟨_,rfl⟩;obtain ⟨nb,hnb⟩ : ∃nb,nb=w1.heap.size:=⟨_,rfl⟩;(have hb2:Below w1.heap.size w1 w2:=by rw [hw2];exact (Znz _ _).alloc (Zo0 _) _);have hs2:w2.heap.size=w1.heap.size+1:=by rw [hw2];simp
 have HN2:=hid (show Nm (fun k=>X.heap.size≤k∧k<w2.heap.size) w2 nb [] by
  obtain ⟨hbm,hbp,hAM,hM,hS,hb1⟩:=HK.out;have hz:=hb1.size
  refine ⟨bm,bp,sn,AM,cM,[],none,0,by rw [hw2,hnb];exact Blk.new _ _ _,hM.new_ hb2,hS.new_ hb2,MapN.nil,⟨by simp,.inl ⟨rfl,rfl⟩⟩,⟨by omega,by omega⟩,⟨hbm,by have:=hM.lt;omega⟩,⟨hbp,by have:=hS.lt;omega⟩,fun a ha=>⟨hAM a ha,by have:=hS.row_lt a ha;omega⟩,AIn.none_ _,fun k hk=>hk.2⟩)
 have HB2:=hid (HK.out.2.2.2.2.2.trans (hb2.mono HK.out.2.2.2.2.2.size));rw [← hnb,← hw2];clear hnb hw2 hb2 hs2;go_upto_region 3 with (at_builtin;refine Z0b w2 rfl (.const (.slice none 0 0)) (.tmp 15) 84 rfl 55 i0 _ 12 112 Tryz.underlying84 hi0 hz0 hz1 hz2 rfl (by omega) (.slice none 0 0) 0 [] rfl ⟨by simp,.inl ⟨rfl,rfl⟩⟩ A l.length c (l.flatMap Elem.cells) rfl (Z0t Elem.cells_length _) ((HR.out.new_ HB2.out).news Elem.cells_length (by omega)) (Z8a _) (by unfold maxLen;omega) (by omega) ?_;intro v1 w3 hown1 hg1 hnil1 hat1;obtain ⟨AL0,cL0,rfl,hF1,hA1,hO1⟩:=Z2o (E:=fun _=>False) (A:=none) (c:=0) (n:=0) (fun a ha=>by cases ha) hown1 hg1 hat1;rw [Zov,Zom] at hO1;rw [Zov];have HO1:=hid (And.intro hF1 (And.intro hA1 hO1));clear hown1 hg1 hnil1 hat1 hF1 hA1 hO1)
 have HLS:=hid (show LS X nb [] l [] AL0 cL0 none 0 (fun k=>X.heap.size≤k∧k<w2.heap.size) w3 by
  obtain ⟨hF,hA,hO⟩:=HO1.out;have hb3:Below w2.heap.size w2 w3:=hF.below (Zo0 _) (fun _ _ h=>h);have hz2:=HB2.out.size;refine ⟨HN2.out.new_ hb3,fun k hk=>hk.1,hO,fun a ha=>?_,⟨by simp,.inl ⟨rfl,rfl⟩⟩,AIn.none_ _,fun _ _ _ hb=>(by cases hb),HB2.out.trans (hb3.mono hz2)⟩;rcases hA a ha with h | ⟨h1,_⟩
  · exact h.elim
  · exact ⟨by omega,fun h=>by omega⟩)
 clear HN2 HB2 HO1 HK HR;go_wp2_with fail
 go_loopw [6,7] (fun vl vo wr=>∃(left out:List Elem) (ns:List Sym) (AL:Option Addr) (cL:Nat) (AO:Option Addr) (cO:Nat) (D:Nat→Prop),vl = .slice AL left.length cL∧vo = .slice AO out.length cO∧LS X nb ns left out AL cL AO cO D wr∧left.length+out.length≤1∧ns.length≤2*out.length∧Z7z left.length ns left out=Z5m l) (fun vl vo wr=>lenV vl)
 case atStart=>exact ⟨l,[],[],AL0,cL0,none,0,_,rfl,rfl,HLS.out,by simpa using hl,by simp,rfl⟩
 case round=>
  clear HLS;obtain ⟨left,out,ns,AL,cL,AO,cO,D,rfl,rfl,hls,hlen,hns,hlv⟩:=hrel;have HS0:=hid hls;have HLV:=hid hlv;have hcl:=(Z0d Elem.cells_length hls.lo).cap;have hcm:left.length≤cL:=(Z0d Elem.cells_length hls.lo).1;clear hls hlv;by_cases he:left.length=0
  · have hl0:left = []:=Zp2.1 he
    have HOV:=hid (show Z5m l=some (out,ns) by rw [← HLV.out,hl0];exact Zbj);clear HLV;(go_wp2_with fail);exact bodyPost_ret (v:=.tuple #[.slice AO out.length cO,.pointer (some ⟨nb,0,none⟩),.bool true]) (by simp [results,Tryz.results61,go_sem, *]) rfl (Z63.yes HOV.out HS0.out)
  · have hl1:(0:Int)<(left.length:Int):=by omega
    (have hl2:0<left.length:=by omega);go_upto_region 7 with fail
    go_loopw [8,22] (fun vb vi W=>∃i:Nat,vi = .int .i64 (i:Int)∧i≤left.length∧vb = .int .i64 (Zjh (Z4h ns left i))∧LS X nb ns left out AL cL AO cO D W) (fun vb vi W=>left.length - (intOf vi).toNat)
    case atStart=>exact ⟨0,rfl,Nat.zero_le _,rfl,HS0.out⟩
    case round=>
     obtain ⟨i,rfl,hi,rfl,hls⟩:=hrel;have HS:=hid hls;clear hls;by_cases hlt:i<left.length
     · skip
       obtain ⟨y,hy⟩ : ∃y,y=left[i]:=⟨_,rfl⟩;have HY:=hid hy;obtain ⟨g,off,hAA,hgl,hrg⟩:=HS.out.at_ hlt;rw [← hy] at hrg;subst hAA;have HRG:=hid (show wr.rangeAt g (off+i*12) [.int .i64 y.id.kind,.string y.id.text,.int .i64 y.id.n,.int .i64 y.attr.kind,.string y.attr.text,.int .i64 y.attr.n,.int .i64 y.value.kind,.string y.value.text,.int .i64 y.value.n,.bool y.acc,.bool y.goal,.int .i64 y.tag] from hrg);have HTH:=hid (show (wr.alloc (.cells #[.int .i64 0,.string ⟨#[]⟩,.int .i64 0,.int .i64 0,.string ⟨#[]⟩,.int .i64 0,.int .i64 0,.string ⟨#[]⟩,.int .i64 0,.bool false,.bool false,.int .i64 0] 55)).there wr.heap.size 0 (#[.int .i64 y.id.kind,.string y.id.text,.int .i64 y.id.n,.int .i64 y.attr.kind,.string y.attr.text,.int .i64 y.attr.n,.int .i64 y.value.kind,.string y.value.text,.int .i64 y.value.n,.bool y.acc,.bool y.goal,.int .i64 y.tag]:Array Value).size from (Blk.new wr 55 #[.int .i64 0,.string ⟨#[]⟩,.int .i64 0,.int .i64 0,.string ⟨#[]⟩,.int .i64 0,.int .i64 0,.string ⟨#[]⟩,.int .i64 0,.bool false,.bool false,.int .i64 0]).there);obtain ⟨W5,hW5⟩ : ∃W5,W5=(wr.alloc (.cells #[.int .i64 0,.string ⟨#[]⟩,.int .i64 0,.int .i64 0,.string ⟨#[]⟩,.int .i64 0,.int .i64 0,.string ⟨#[]⟩,.int .i64 0,.bool false,.bool false,.int .i64 0] 55)).setCells wr.heap.size 0 [.int .i64 y.id.kind,.string y.id.text,.int .i64 y.id.n,.int .i64 y.attr.kind,.string y.attr.text,.int .i64 y.attr.n,.int .i64 y.value.kind,.string y.value.text,.int .i64 y.value.n,.bool y.acc,.bool y.goal,.int .i64 y.tag]:=⟨_,rfl⟩;have HW5:=hid hW5;have HRG5:=hid (show W5.rangeAt wr.heap.size 0 [.int .i64 y.id.kind,.string y.id.text,.int .i64 y.id.n,.int .i64 y.attr.kind,.string y.attr.text,.int .i64 y.attr.n,.int .i64 y.value.kind,.string y.value.text,.int .i64 y.value.n,.bool y.acc,.bool y.goal,.int .i64 y.tag] by rw [hW5];exact Zo4 _ _ _ _ HTH.out);have HK5:=hid (show Blk W5 wr.heap.size 55 #[.int .i64 y.id.kind,.string y.id.text,.int .i64 y.id.n,.int .i64 y.attr.kind,.string y.attr.text,.int .i64 y.attr.n,.int .i64 y.value.kind,.string y.value.text,.int .i64 y.value.n,.bool y.acc,.bool y.goal,.int .i64 y.tag] from Z2y (zs:=[.int .i64 0,.string ⟨#[]⟩,.int .i64 0,.int .i64 0,.string ⟨#[]⟩,.int .i64 0,.int .i64 0,.string ⟨#[]⟩,.int .i64 0,.bool false,.bool false,.int .i64 0]) (vs:=[.int .i64 y.id.kind,.string y.id.text,.int .i64 y.id.n,.int .i64 y.attr.kind,.string y.attr.text,.int .i64 y.attr.n,.int .i64 y.value.kind,.string y.value.text,.int .i64 y.value.n,.bool y.acc,.bool y.goal,.int .i64 y.tag]) rfl hW5 HRG5.out);have HB5:=hid (show Below wr.heap.size wr W5 by rw [hW5];exact Below.setCells' _ _ ((Znz _ _).alloc (Zo0 _) _) (Zo0 _));clear hW5 hrg hy;have HYI:=hid (show left[i]? = some y by rw [HY.out];exact Zo8 hlt);(have j1:(0:Int)≤(i:Int):=by omega);(have j2:(i:Int)<(left.length:Int):=by omega);obtain ⟨bs,hbs⟩ : ∃bs,bs=Z4h ns left i:=⟨_,rfl⟩;have HBS:=hid hbs.symm;rw [← hbs];clear hbs
       go_upto_region 9 with (first
       | (with_reducible refine wpList_load_mid rfl 55 _ rfl g (off+i*12) rfl _ _ HRG.out Tryz.underlying55 rfl (by kernel_rfl) ?_)
       | ((with_reducible refine wpList_store_mid rfl 55 _ _ rfl wr.heap.size 0 #[.int .i64 y.id.kind,.string y.id.text,.int .i64 y.id.n,.int .i64 y.attr.kind,.string y.attr.text,.int .i64 y.attr.n,.int .i64 y.value.kind,.string y.value.text,.int .i64 y.value.n,.bool y.acc,.bool y.goal,.int .i64 y.tag] rfl rfl HTH.out (by kernel_rfl) (by kernel_rfl) ?_);rw [← HW5.out]))
       have HS5:=hid (HS.out.new_ HB5.out);have HP5:=hid (show ∀W,Below W5.heap.size W5 W→Calls Tryz.prog 62 #[.pointer (some ⟨nb,0,none⟩),.agg #[.int .i64 y.id.kind,.string y.id.text,.int .i64 y.id.n]] W fun e w'=>e = .returned (.int .i64 (plV ns y.id:Int))∧Below W.heap.size W w' from fun W hW=>Z6w y.id W (HS5.out.nm.new_ hW) (by omega));have HGO:=hid (show canN ns y=(y.goal || !decide (plV ns y.id=0)) from rfl);have k10:W5.cell? ⟨wr.heap.size,10,none⟩=some (.bool y.goal):=(HK5.out.cell 10).trans rfl;have k0:W5.cell? ⟨wr.heap.size,0,none⟩=some (.int .i64 y.id.kind):=(HK5.out.cell 0).trans rfl;have k1:W5.cell? ⟨wr.heap.size,1,none⟩=some (.string y.id.text):=(HK5.out.cell 1).trans rfl;have k2:W5.cell? ⟨wr.heap.size,2,none⟩=some (.int .i64 y.id.n):=(HK5.out.cell 2).trans rfl;have kz:=HK5.out.lt;obtain ⟨p,hp⟩ : ∃p,p=plV ns y.id:=⟨_,rfl⟩;obtain ⟨gb,hgb⟩ : ∃gb,gb=y.goal:=⟨_,rfl⟩;have HPZ:=hid (show plV ns y.id=0 by rw [Zp2.1 (show ns.length=0 by omega)];rfl);rw [← hp] at HP5 HGO HPZ;rw [← hgb] at k10 HGO;clear hp hgb;have HSZ:=hid HB5.out.size;cases gb
       · skip
         by_cases hp0:p=0
         · skip
           subst hp0;have HBK:=hid (Zew HYI.out (show canN ns y=false by rw [HGO.out];rfl));(go_wp2_with fail);refine (HP5.out _ (Znz _ _)).mono ?_;rintro e w6 ⟨rfl,hb6⟩;have HS6:=hid (HS5.out.new_ hb6);clear hb6;(go_wp2_with fail);go_roundw
           case rel=>exact ⟨i+1,by go_num,by omega,by rw [HBK.out,HBS.out],HS6.out⟩
           case measure=>simp [intOf]<;>omega
         · skip
           exact absurd HPZ.out hp0
       · skip
         have HCAN:=hid (show canN ns y=true by rw [HGO.out];rfl);(go_upto_region 10 with fail);obtain ⟨WK,hWK⟩ : ∃WK,WK=W5:=⟨_,rfl⟩;rw [← hWK] at HS5 HK5 ⊢;have HSK:=hid HS5.out;have HKK:=hid HK5.out;clear hWK k0 k1 k2 k10 kz
         cases bs with
         | none=>
           have HBN:=hid (Zcn HYI.out HCAN.out HBS.out);dsimp only [Zjh];(go_upto_region 10 with fail);refine Z06 (fun w9=>Below WK.heap.size WK w9) [(0,0),(1,0),(2,0),(3,0),(4,1),(5,0),(6,0),(7,0),(8,1),(9,2),(10,0)] (by kernel_rfl) (by kernel_rfl) (fun KK hKK=>?_);simp only [Z05,Zo9,Zo2,Zo7,Zo5,Zo6,Zoc];(repeat ((first | (refine Z0a ?_ (Or.inl ⟨by rfl,fun w9=>?_⟩) ?_;rotate_left 1;go_simp;with_reducible rfl) | (refine Z09 ?_ (((Znz _ _).drew)) (Or.inl ⟨by rfl,fun w9 hw9=>?_⟩) ?_;rotate_left 1;obtain ⟨hc9,hf9⟩:=Z0q hw9;go_simp;with_reducible rfl) | refine Z0a undef (Or.inr ⟨by rfl,rfl⟩) ?_ | refine Z09 undef (((Znz _ _).drew)) (Or.inr ⟨by rfl,rfl⟩) ?_);go_frame));refine Z29 (fun K9 hK9=>?_);go_simp;refine hK9 _ _ ((Znz _ _).drew) ?_;clear hK9 K9;(repeat ((first | (refine Z0a ?_ (Or.inl ⟨by rfl,fun w9=>?_⟩) ?_;rotate_left 1;go_simp;with_reducible rfl) | (refine Z09 ?_ (((Znz _ _).drew)) (Or.inl ⟨by rfl,fun w9 hw9=>?_⟩) ?_;rotate_left 1;obtain ⟨hc9,hf9⟩:=Z0q hw9;go_simp;with_reducible rfl) | refine Z0a undef (Or.inr ⟨by rfl,rfl⟩) ?_ | refine Z09 undef (((Znz _ _).drew)) (Or.inr ⟨by rfl,rfl⟩) ?_);go_frame));refine Z12 ?_;simp only [Z00];refine hKK _ _ ?_;clear hKK KK;have HSL:=hid (HSK.out.new_ ((Znz WK.heap.size WK).drew));(go_wp2_with fail);go_roundw
           case rel=>exact ⟨i+1,by go_num,by omega,by rw [HBN.out];rfl,HSL.out⟩
           case measure=>simp [intOf]<;>omega
         | some k=>exact absurd HBS.out (by rw [show i=0 by omega];simp [Z4h])
     · skip
       (obtain rfl:i=left.length:=by omega);obtain ⟨bs,hbs⟩ : ∃bs,bs=Z4h ns left left.length:=⟨_,rfl⟩;have HBS:=hid (show Zex ns left=bs from hbs.symm);rw [← hbs];clear hbs;have jz : ¬(left.length:Int)<(left.length:Int):=by omega
       cases bs with
       | none=>
         have HOV:=hid (show Z5m l=none by
          rw [← HLV.out];obtain ⟨q,hq⟩ : ∃q,left.length=q+1:=⟨left.length - 1,by omega⟩;rw [hq]
          exact Z9g (by intro e;rw [e] at he;exact he rfl) HBS.out)
         dsimp only [Zjh];(go_wp2_with fail);exact bodyPost_ret (v:=.tuple #[.slice none 0 0,.pointer none,.bool false]) (by simp [results,Tryz.results61,go_sem, *]) rfl (Z63.no HOV.out HS.out.bel)
       | some k=>
         have hkl:=Z84 HBS.out;dsimp only [Zjh];have hlt:=hkl.2;obtain ⟨y,hy⟩ : ∃y,y=left[k]:=⟨_,rfl⟩;have HY:=hid hy;obtain ⟨g,off,hAA,hgl,hrg⟩:=HS.out.at_ hlt;rw [← hy] at hrg;subst hAA;have HRG:=hid (show wr.rangeAt g (off+k*12) [.int .i64 y.id.kind,.string y.id.text,.int .i64 y.id.n,.int .i64 y.attr.kind,.string y.attr.text,.int .i64 y.attr.n,.int .i64 y.value.kind,.string y.value.text,.int .i64 y.value.n,.bool y.acc,.bool y.goal,.int .i64 y.tag] from hrg);have HTH:=hid (show (wr.alloc (.cells #[.int .i64 0,.string ⟨#[]⟩,.int .i64 0,.int .i64 0,.string ⟨#[]⟩,.int .i64 0,.int .i64 0,.string ⟨#[]⟩,.int .i64 0,.bool false,.bool false,.int .i64 0] 55)).there wr.heap.size 0 (#[.int .i64 y.id.kind,.string y.id.text,.int .i64 y.id.n,.int .i64 y.attr.kind,.string y.attr.text,.int .i64 y.attr.n,.int .i64 y.value.kind,.string y.value.text,.int .i64 y.value.n,.bool y.acc,.bool y.goal,.int .i64 y.tag]:Array Value).size from (Blk.new wr 55 #[.int .i64 0,.string ⟨#[]⟩,.int .i64 0,.int .i64 0,.string ⟨#[]⟩,.int .i64 0,.int .i64 0,.string ⟨#[]⟩,.int .i64 0,.bool false,.bool false,.int .i64 0]).there);obtain ⟨W5,hW5⟩ : ∃W5,W5=(wr.alloc (.cells #[.int .i64 0,.string ⟨#[]⟩,.int .i64 0,.int .i64 0,.string ⟨#[]⟩,.int .i64 0,.int .i64 0,.string ⟨#[]⟩,.int .i64 0,.bool false,.bool false,.int .i64 0] 55)).setCells wr.heap.size 0 [.int .i64 y.id.kind,.string y.id.text,.int .i64 y.id.n,.int .i64 y.attr.kind,.string y.attr.text,.int .i64 y.attr.n,.int .i64 y.value.kind,.string y.value.text,.int .i64 y.value.n,.bool y.acc,.bool y.goal,.int .i64 y.tag]:=⟨_,rfl⟩;have HW5:=hid hW5;have HRG5:=hid (show W5.rangeAt wr.heap.size 0 [.int .i64 y.id.kind,.string y.id.text,.int .i64 y.id.n,.int .i64 y.attr.kind,.string y.attr.text,.int .i64 y.attr.n,.int .i64 y.value.kind,.string y.value.text,.int .i64 y.value.n,.bool y.acc,.bool y.goal,.int .i64 y.tag] by rw [hW5];exact Zo4 _ _ _ _ HTH.out);have HK5:=hid (show Blk W5 wr.heap.size 55 #[.int .i64 y.id.kind,.string y.id.text,.int .i64 y.id.n,.int .i64 y.attr.kind,.string y.attr.text,.int .i64 y.attr.n,.int .i64 y.value.kind,.string y.value.text,.int .i64 y.value.n,.bool y.acc,.bool y.goal,.int .i64 y.tag] from Z2y (zs:=[.int .i64 0,.string ⟨#[]⟩,.int .i64 0,.int .i64 0,.string ⟨#[]⟩,.int .i64 0,.int .i64 0,.string ⟨#[]⟩,.int .i64 0,.bool false,.bool false,.int .i64 0]) (vs:=[.int .i64 y.id.kind,.string y.id.text,.int .i64 y.id.n,.int .i64 y.attr.kind,.string y.attr.text,.int .i64 y.attr.n,.int .i64 y.value.kind,.string y.value.text,.int .i64 y.value.n,.bool y.acc,.bool y.goal,.int .i64 y.tag]) rfl hW5 HRG5.out);have HB5:=hid (show Below wr.heap.size wr W5 by rw [hW5];exact Below.setCells' _ _ ((Znz _ _).alloc (Zo0 _) _) (Zo0 _));clear hW5 hrg hy;have HYI:=hid (show left[k]? = some y by rw [HY.out];exact Zo8 hlt);(have hk1:(0:Int)≤(k:Int):=by omega);(have hk2:(k:Int)<(left.length:Int):=by omega);have hk3 : ¬(k:Int)<0:=by omega
         go_upto_region 16 with (first
         | (with_reducible refine wpList_load_mid rfl 55 _ rfl g (off+k*12) rfl _ _ HRG.out Tryz.underlying55 rfl (by kernel_rfl) ?_)
         | ((with_reducible refine wpList_store_mid rfl 55 _ _ rfl wr.heap.size 0 #[.int .i64 y.id.kind,.string y.id.text,.int .i64 y.id.n,.int .i64 y.attr.kind,.string y.attr.text,.int .i64 y.attr.n,.int .i64 y.value.kind,.string y.value.text,.int .i64 y.value.n,.bool y.acc,.bool y.goal,.int .i64 y.tag] rfl rfl HTH.out (by kernel_rfl) (by kernel_rfl) ?_);rw [← HW5.out]))
         have HSE:=hid hlt;obtain ⟨dk,hdk⟩ : ∃x,x=left.drop (k+1):=⟨_,rfl⟩;obtain ⟨As,hAs⟩ : ∃As:Option Addr,As=(if cL=k+1 then some ⟨g,off,none⟩ else (some (⟨g,off,none⟩:Addr)).map (·.add ((k+1)*12))):=⟨_,rfl⟩;(have hdl:left.length - (k+1)=dk.length:=by rw [hdk,List.length_drop]);(have hcl2:k<cL:=by omega);have hsl1 : ∀Y,(Instr.slice 84 (.slice (some ⟨g,off,none⟩) left.length cL) none (some (.int .i64 (k:Int))) none).run Tryz.prog Y = .ok (.slice (some ⟨g,off,none⟩) k cL) Y:=fun Y=>Zg6 _ (by omega) Y;(have hsl2 : ∀Y,(Instr.slice 84 (.slice (some ⟨g,off,none⟩) left.length cL) (some (.int .i64 ((k:Int)+1))) none none).run Tryz.prog Y = .ok (.slice As dk.length (cL - (k+1))) Y:=fun Y=>by rw [← hdl,hAs];exact Zca (j:=k+1) _ (by omega) Y);have v1:IntKind.i64.wrap ((k:Int)+1)=(k:Int)+1:=Zof _ (by omega);have HS5:=hid (HS.out.new_ HB5.out);have HDK:=hid (show Z0p W5 12 Elem.cells As (cL - (k+1)) dk by rw [hdk,hAs];exact (Z0d Elem.cells_length HS5.out.lo).suffixE (k+1) (by omega));have HTK:=hid (show W5.ownsRow 0 55 12 (.slice (some ⟨g,off,none⟩) k cL) k ((left.take k).flatMap Elem.cells) from Zib HS5.out.lo rfl hlt);have HDE:=hid hdk;(have hdl1:dk.length≤1:=by omega);(have hkl1:k≤1:=by omega);clear hdk hAs hdl hkl;have HS5D:=hid (HS5.out.new_ ((Znz W5.heap.size W5).drew));refine Z06 (fun w9=>Below W5.heap.size W5 w9) [(0,0),(1,0),(2,0),(3,0),(4,0),(5,0),(6,0),(7,2),(8,0)] (by kernel_rfl) (by kernel_rfl) (fun KK hKK=>?_);simp only [Z05,Zo9,Zo2,Zo7,Zo5,Zo6,Zoc];(repeat ((first | (refine Z0a ?_ (Or.inl ⟨by rfl,fun w9=>?_⟩) ?_;rotate_left 1;go_simp;with_reducible rfl) | (refine Z09 ?_ (((Znz _ _).drew)) (Or.inl ⟨by rfl,fun w9 hw9=>?_⟩) ?_;rotate_left 1;obtain ⟨hc9,hf9⟩:=Z0q hw9;go_simp;with_reducible rfl) | refine Z0a undef (Or.inr ⟨by rfl,rfl⟩) ?_ | refine Z09 undef (((Znz _ _).drew)) (Or.inr ⟨by rfl,rfl⟩) ?_);go_frame));refine Z1n (by kernel_rfl) (fun K9 hK9=>?_);refine Z0i _ (by rfl) _ _ _ (by rfl) 55 i0 _ 12 112 Tryz.underlying84 hi0 hz0 hz1 hz2 rfl (by omega) (.slice (some ⟨g,off,none⟩) k cL) k ((left.take k).flatMap Elem.cells) (by rfl) (Zic HTK.out) As dk.length (cL - (k+1)) (dk.flatMap Elem.cells) (by rfl) (Z0t Elem.cells_length _) ((HDK.out.drew).news Elem.cells_length (by omega)) (Z8a _) (by unfold maxLen;omega) (by omega) ?_;intro v2 w7 hown hgr hnil hat;rw [HDE.out] at hown;obtain ⟨A7,c7,rfl,hs7,hf7⟩:=HS5D.out.cut hlt hown hgr hat;obtain ⟨lk,hlk⟩ : ∃lk,lk=left.eraseIdx k:=⟨_,rfl⟩;rw [← hlk] at hs7 ⊢;have HLK:=hid hlk;have HS7:=hid hs7;have HF7:=hid hf7;clear hown hgr hnil hat hs7 hf7 hlk;refine hK9 _ _ ?_;clear hK9 K9;(repeat ((first | (refine Z0a ?_ (Or.inl ⟨by rfl,fun w9=>?_⟩) ?_;rotate_left 1;go_simp;with_reducible rfl) | (refine Z09 ?_ (((Znz _ _).drew)) (Or.inl ⟨by rfl,fun w9 hw9=>?_⟩) ?_;rotate_left 1;obtain ⟨hc9,hf9⟩:=Z0q hw9;go_simp;with_reducible rfl) | refine Z0a undef (Or.inr ⟨by rfl,rfl⟩) ?_ | refine Z09 undef (((Znz _ _).drew)) (Or.inr ⟨by rfl,rfl⟩) ?_);go_frame));refine Z12 ?_;simp only [Z00];refine hKK _ _ ?_;clear hKK KK;have HKX:=hid (show w7.heap.size≥W5.heap.size∧Blk w7 wr.heap.size 55 #[.int .i64 y.id.kind,.string y.id.text,.int .i64 y.id.n,.int .i64 y.attr.kind,.string y.attr.text,.int .i64 y.attr.n,.int .i64 y.value.kind,.string y.value.text,.int .i64 y.value.n,.bool y.acc,.bool y.goal,.int .i64 y.tag] from ⟨HF7.out.size,(HK5.out.drew).fr HF7.out (fun ⟨a,ha,e⟩=>by cases ha;dsimp only at e;omega)⟩);have HDX:=hid (show ¬D wr.heap.size from fun hd=>by have:=HS.out.nm.lt _ hd;omega);have HRX:=hid (show w7.rangeAt wr.heap.size 0 [.int .i64 y.id.kind,.string y.id.text,.int .i64 y.id.n,.int .i64 y.attr.kind,.string y.attr.text,.int .i64 y.attr.n,.int .i64 y.value.kind,.string y.value.text,.int .i64 y.value.n,.bool y.acc,.bool y.goal,.int .i64 y.tag] from HKX.out.2.range);obtain ⟨W8,hW8⟩ : ∃W8,W8=w7.alloc (.cells #[.int .i64 y.id.kind,.string y.id.text,.int .i64 y.id.n,.int .i64 y.attr.kind,.string y.attr.text,.int .i64 y.attr.n,.int .i64 y.value.kind,.string y.value.text,.int .i64 y.value.n,.bool y.acc,.bool y.goal,.int .i64 y.tag] 55):=⟨_,rfl⟩
         have HW8:=hid hW8;(have hb8:Below w7.heap.size w7 W8:=by rw [hW8];exact (Znz _ _).alloc (Zo0 _) _);have HS8:=hid (HS7.out.new_ hb8);have HK8:=hid (HKX.out.2.new_ hb8);have HN8:=hid (show 0<1→∃ad,(some (⟨w7.heap.size,0,none⟩:Addr))=some ad∧∀j u,([y].flatMap Elem.cells)[j]? = some u→W8.cell? (ad.add j)=some u from fun _=>⟨_,rfl,by rw [hW8];exact Zok (heap_alloc_new _ _)⟩);(have ho8:out.length≤1:=by omega);clear hW8 hb8 v1 hsl1 hsl2
         go_upto_region 18 with (first
         | (with_reducible refine wpList_load_mid rfl 55 _ rfl wr.heap.size 0 rfl _ _ HRX.out Tryz.underlying55 rfl (by kernel_rfl) ?_)
         | (at_builtin;rw [← HW8.out];refine Z0b W8 rfl (.tmp 64) (.tmp 66) 84 rfl 55 i0 _ 12 112 Tryz.underlying84 hi0 hz0 hz1 hz2 rfl (by omega) (.slice AO out.length cO) out.length (out.flatMap Elem.cells) rfl HS8.out.oo (some ⟨w7.heap.size,0,none⟩) 1 1 ([y].flatMap Elem.cells) rfl rfl HN8.out (Z8a _) (by unfold maxLen;omega) (by omega) ?_;intro v1 w9 hown1 hg1 hnil1 hat1;obtain ⟨A9,c9,rfl,hs9,hf9⟩:=HS8.out.more hown1 hg1 hat1;obtain ⟨ol,hol⟩ : ∃ol,ol=out ++ [y]:=⟨_,rfl⟩;rw [← hol] at hs9 ⊢;have HOL:=hid hol;have HS9:=hid hs9;have HF9:=hid hf9;clear hown1 hg1 hnil1 hat1 hs9 hf9 hol))
         have HK9:=hid (show Blk w9 wr.heap.size 55 #[.int .i64 y.id.kind,.string y.id.text,.int .i64 y.id.n,.int .i64 y.attr.kind,.string y.attr.text,.int .i64 y.attr.n,.int .i64 y.value.kind,.string y.value.text,.int .i64 y.value.n,.bool y.acc,.bool y.goal,.int .i64 y.tag] from HK8.out.fr HF9.out (fun ⟨a,ha,e⟩=>by have h1:=Z7q HS.out.oo a ha;omega));have HP1:=hid (Zd4 y.id w9 HS9.out.nm (by omega));have k0:w9.cell? ⟨wr.heap.size,0,none⟩=some (.int .i64 y.id.kind):=(HK9.out.cell 0).trans rfl;have k1:w9.cell? ⟨wr.heap.size,1,none⟩=some (.string y.id.text):=(HK9.out.cell 1).trans rfl;have k2:w9.cell? ⟨wr.heap.size,2,none⟩=some (.int .i64 y.id.n):=(HK9.out.cell 2).trans rfl;have kz:=HK9.out.lt;(go_wp2_with fail);refine HP1.out.mono ?_;rintro e w10 ⟨rfl,hp10⟩
         have HK10:=hid (show Blk w10 wr.heap.size 55 #[.int .i64 y.id.kind,.string y.id.text,.int .i64 y.id.n,.int .i64 y.attr.kind,.string y.attr.text,.int .i64 y.attr.n,.int .i64 y.value.kind,.string y.value.text,.int .i64 y.value.n,.bool y.acc,.bool y.goal,.int .i64 y.tag] by
          obtain ⟨_,_,_,_,hf⟩:=hp10
          exact HK9.out.fr hf HDX.out)
         obtain ⟨D2,hs10⟩:=HS9.out.put hp10;have HS10:=hid hs10;clear hp10 hs10 k0 k1 k2 kz;have k6:w10.cell? ⟨wr.heap.size,6,none⟩=some (.int .i64 y.value.kind):=(HK10.out.cell 6).trans rfl;have k7:w10.cell? ⟨wr.heap.size,7,none⟩=some (.string y.value.text):=(HK10.out.cell 7).trans rfl;have k8:w10.cell? ⟨wr.heap.size,8,none⟩=some (.int .i64 y.value.n):=(HK10.out.cell 8).trans rfl;have kz:=HK10.out.lt;have HLL:=hid (show lk.length+1=left.length by rw [HLK.out];exact Zbb HYI.out);have HOO:=hid (show ol.length=out.length+1 by rw [HOL.out];simp)
         have HNX:=hid (show ∀nn,nn=Z5k ns y→lk.length+ol.length≤1∧nn.length≤2*ol.length∧Z7z lk.length nn lk ol=Z5m l from fun nn hnn=>by
          have h1:=HLL.out;have h2:=HOO.out;have h3:=Z9k ns y;refine ⟨by omega,by rw [hnn];omega,?_⟩
          rw [← HLV.out,show left.length=lk.length+1 from h1.symm,Z9h HBS.out HYI.out,hnn,HLK.out,HOL.out])
         have hpl:=Z6y ns y.id;by_cases hv1:y.value.kind=1
         · have HP2:=hid (Zd4 y.value w10 HS10.out.nm (by omega))
           have HNE:=hid (HNX.out (putN (putN ns y.id) y.value) (by rw [Z5k,if_pos hv1]));(have e1:(y.value.kind == 1)=true:=by simp [hv1]);(have e2:decide (y.value.kind=1)=true:=by simp [hv1]);clear hv1;(go_wp2_with fail);refine HP2.out.mono ?_;rintro e w11 ⟨rfl,hp11⟩;obtain ⟨D3,hs11⟩:=HS10.out.put hp11;have HS11:=hid hs11;clear hp11 hs11 k6 k7 k8 kz;(go_wp2_with fail);go_roundw
           case rel=>exact ⟨lk,ol,_,A7,c7,A9,c9,D3,rfl,rfl,HS11.out,HNE.out⟩
           case measure=>have:=HLL.out;show lk.length<left.length;omega
         · have HNE:=hid (HNX.out (putN ns y.id) (by rw [Z5k,if_neg hv1]))
           (have e1:(y.value.kind == 1)=false:=by simp [hv1]);(have e2:decide (y.value.kind=1)=false:=by simp [hv1]);(go_wp2_with fail);go_roundw
           case rel=>exact ⟨lk,ol,_,A7,c7,A9,c9,D2,rfl,rfl,HS10.out,HNE.out⟩
           case measure=>have:=HLL.out;show lk.length<left.length;omega
end
section
open Go.RowKit Go.Shelf
set_option linter.unusedSimpArgs false
theorem Blk.setAllD {w:World} {g:Nat} {t:TypeId} {cs:Array Value} {vs:List Value} (h:Blk w g t cs) (hl:cs.size=vs.length):Blk (w.setCells g 0 vs) g t vs.toArray:=by
 have hr:=Zo4 w g 0 vs (by have:=h.there;rwa [hl] at this);obtain ⟨cs',h1,h2⟩:=Blk.setCells_ vs 0 h
 have e:cs'=vs.toArray:=by
  apply Array.ext
  · rw [h2];simpa using hl
  · intro i hi hj
    (have hj':i<vs.length:=by simpa using hj);have h3:=hr i vs[i] (Zo8 hj');rw [show (0+i)=i by omega,h1.cell i,Array.getElem?_eq_getElem hi] at h3;simpa using h3
 rw [← e];exact h1
theorem Zc9 {α:Type} {w:World} {cells:α→List Value} {size g:Nat} {t:TypeId} {l:List α} {cs:Array Value} (hb:Blk w g t cs) (hc:cs=(l.flatMap cells).toArray) (hsz : ∀x,(cells x).length=size) (hm:l.length≤maxLen) {n:Nat} (hn:n=l.length):Z0p w size cells (some ⟨g,0,none⟩) n l:=by
 subst hn;refine Z0p.of_cells (Zo0 _) hm hb.lt (fun k hk j u hu=>?_);(have hj:j<size:=by have:=(Zoh.1 hu).1;rwa [hsz] at this);rw [hb.cell,Zov,hc,← hu,← Z4x hsz l k hk j hj];simp
theorem Zlq (t:ByteArray)(w:World):Calls Tryz.prog 32 #[.string t] w fun e w'=>e = .returned (.agg #[.int .i64 3,.string t,.int .i64 0])∧Below w.heap.size w w':=by
 go_enter Tryz.func32,Tryz.ntmps32;(go_wp2_with fail);exact bodyPost_ret (v:=.agg #[.int .i64 3,.string t,.int .i64 0]) (by simp [results,Tryz.results32,go_sem]) rfl ⟨rfl,by (repeat (first | exact Znz _ _ | refine Below.drew ?_ | refine Below.al ?_ _ | refine Below.sc ?_ _))⟩
theorem Zlp (n:Int)(w:World):Calls Tryz.prog 33 #[.int .i64 n] w fun e w'=>e = .returned (.agg #[.int .i64 2,.string ⟨#[]⟩,.int .i64 n])∧Below w.heap.size w w':=by
 go_enter Tryz.func33,Tryz.ntmps33;(go_wp2_with fail);exact bodyPost_ret (v:=.agg #[.int .i64 2,.string ⟨#[]⟩,.int .i64 n]) (by simp [results,Tryz.results33,go_sem]) rfl ⟨rfl,by (repeat (first | exact Znz _ _ | refine Below.drew ?_ | refine Below.al ?_ _ | refine Below.sc ?_ _))⟩
theorem Zno (t:ByteArray) (n:Int)(w:World):Calls Tryz.prog 31 #[.string t,.int .i64 n] w fun e w'=>e = .returned (.agg #[.int .i64 1,.string t,.int .i64 n])∧Below w.heap.size w w':=by
 go_enter Tryz.func31,Tryz.ntmps31;(go_wp2_with fail);exact bodyPost_ret (v:=.agg #[.int .i64 1,.string t,.int .i64 n]) (by simp [results,Tryz.results31,go_sem]) rfl ⟨rfl,by (repeat (first | exact Znz _ _ | refine Below.drew ?_ | refine Below.al ?_ _ | refine Below.sc ?_ _))⟩
end
section
open Go.RowKit
def Zau {α:Type} (e size:Nat) (cells:α→List Value) (l:List α) (w:World) (en:Ending) (w':World):Prop:=
 ∃A c,en = .returned (.slice A l.length c)∧w'.ownsRow 0 e size (.slice A l.length c) l.length (l.flatMap cells)∧AIn A (NewD w.heap.size w')∧Below w.heap.size w w'
theorem Z4n {α:Type} {e size:Nat} {cells:α→List Value} {l:List α} {w w':World} {v v0:Value} (hown:w'.ownsRow 0 e size v l.length (l.flatMap cells)) (hat:v.ownBlock=v0.ownBlock∨v.ownBlock=some w.heap.size) (h0:v0.ownBlock=none) (hg:w.grownBy w' v0.ownBlock) :
 ∃A c,v = .slice A l.length c∧w'.ownsRow 0 e size (.slice A l.length c) l.length (l.flatMap cells)∧AIn A (NewD w.heap.size w')∧Below w.heap.size w w':=by
 have hlt:=Z3q hown;obtain ⟨A,c,rfl,_,_,_⟩:=Z0z hown;refine ⟨A,c,rfl,hown,fun a ha=>?_,(Znz w.heap.size w).grown hg (Zo0 _) (fun k hk=>by rw [h0] at hk;cases hk)⟩;subst ha;rcases hat with h | h
 · rw [h0] at h;cases h
 · have:=hlt a.block rfl
   simp only [Value.ownBlock,Option.some.injEq] at h;exact ⟨by omega,this⟩
theorem Z2v (W:World) (e size:Nat):W.ownsRow 0 e size (.slice none 0 0) 0 []:=⟨by simp,.inl ⟨rfl,rfl⟩⟩
theorem Zau.row {α:Type} {e size:Nat} {cells:α→List Value} (hs : ∀a,(cells a).length=size) {l:List α} {A:Option Addr} {c B:Nat} {w':World} (h:w'.ownsRow 0 e size (.slice A l.length c) l.length (l.flatMap cells)) (hA:AIn A (NewD B w')):RowR (RepT.flat size cells hs) (NewD B w') w' A c l:=RowR.of_rd (Z0d hs h) hA
theorem Znc (A:Option Addr) (c:Nat) (l:List Sym) (w:World) (hrd:Z0p w 3 Sym.cells A c l) (hl:(l.length:Int)≤100000) :
 Calls Tryz.prog 97 #[.slice A l.length c] w (Zau 23 3 Sym.cells l w):=by
 obtain ⟨i0,hi0,hz0,hz1,hz2⟩:=infp Za3;have HRD:=hid hrd;have hlc:=hrd.cap;have hlcc:=hrd.1;clear hrd;go_enter Tryz.func97,Tryz.ntmps97;(go_wp2_with (at_builtin;refine Z0b w rfl (.const (.slice none 0 0)) (.tmp 3) 36 rfl 23 i0 _ 3 32 Tryz.underlying36 hi0 hz0 hz1 hz2 rfl (by omega) (.slice none 0 0) 0 [] rfl (Z2v w _ _) A l.length c (l.flatMap Sym.cells) rfl (Z0t Sym.cells_length _) (HRD.out.news Sym.cells_length (by omega)) (Zd5 _) (by unfold maxLen;omega) (by omega) ?_;intro v1 w2 hown1 hg1 hnil1 hat1));go_ret;rw [Zov,Zom] at hown1;obtain ⟨A',c',rfl,h1,h2,h3⟩:=Z4n hown1 hat1 rfl hg1;exact ⟨A',c',rfl,h1,h2,h3⟩
theorem Zjw (A:Option Addr) (c:Nat) (l:List Z0e) (w:World) (hrd:Z0p w 14 Z0e.cells A c l) (hl:(l.length:Int)≤100000) :
 Calls Tryz.prog 95 #[.slice A l.length c] w (Zau 57 14 Z0e.cells l w):=by
 obtain ⟨i0,hi0,hz0,hz1,hz2⟩:=infp Zbg;have HRD:=hid hrd;have hlc:=hrd.cap;have hlcc:=hrd.1;clear hrd;go_enter Tryz.func95,Tryz.ntmps95;(go_wp2_with (at_builtin;refine Z0b w rfl (.const (.slice none 0 0)) (.tmp 3) 27 rfl 57 i0 _ 14 128 Tryz.underlying27 hi0 hz0 hz1 hz2 rfl (by omega) (.slice none 0 0) 0 [] rfl (Z2v w _ _) A l.length c (l.flatMap Z0e.cells) rfl (Z0t Z0e.cells_length _) (HRD.out.news Z0e.cells_length (by omega)) (Zbz _) (by unfold maxLen;omega) (by omega) ?_;intro v1 w2 hown1 hg1 hnil1 hat1));go_ret;rw [Zov,Zom] at hown1;obtain ⟨A',c',rfl,h1,h2,h3⟩:=Z4n hown1 hat1 rfl hg1;exact ⟨A',c',rfl,h1,h2,h3⟩
theorem Zjv (A:Option Addr) (c:Nat) (l:List Z1i) (w:World) (hrd:Z0p w 7 Z1i.cells A c l) (hl:(l.length:Int)≤100000) :
 Calls Tryz.prog 96 #[.slice A l.length c] w (Zau 34 7 Z1i.cells l w):=by
 obtain ⟨i0,hi0,hz0,hz1,hz2⟩:=infp Zbf;have HRD:=hid hrd;have hlc:=hrd.cap;have hlcc:=hrd.1;clear hrd;go_enter Tryz.func96,Tryz.ntmps96;(go_wp2_with (at_builtin;refine Z0b w rfl (.const (.slice none 0 0)) (.tmp 3) 28 rfl 34 i0 _ 7 72 Tryz.underlying28 hi0 hz0 hz1 hz2 rfl (by omega) (.slice none 0 0) 0 [] rfl (Z2v w _ _) A l.length c (l.flatMap Z1i.cells) rfl (Z0t Z1i.cells_length _) (HRD.out.news Z1i.cells_length (by omega)) (Zbx _) (by unfold maxLen;omega) (by omega) ?_;intro v1 w2 hown1 hg1 hnil1 hat1));go_ret;rw [Zov,Zom] at hown1;obtain ⟨A',c',rfl,h1,h2,h3⟩:=Z4n hown1 hat1 rfl hg1;exact ⟨A',c',rfl,h1,h2,h3⟩
def SmT (l:List Z3a):Prop:=l.length≤1000∧∀t∈l,t.list.length≤1000
def Zlh {α:Type} (r:RepT α) (l:List α) (w:World) (en:Ending) (w':World):Prop:=
 ∃A c,en = .returned (.slice A l.length c)∧RowR r (NewD w.heap.size w') w' A c l∧AIn A (NewD w.heap.size w')∧Below w.heap.size w w'
theorem NewD.up {B B':Nat} {w w':World} (hB:B'≤B) (hw:w.heap.size≤w'.heap.size) : ∀k,NewD B w k→NewD B' w' k:=fun k hk=>⟨by have:=hk.1;omega,by have:=hk.2;omega⟩
theorem Zl6 {D:Nat→Prop} {w:World} {y:Z3a} {A:Option Addr} {c:Nat} (h:RowR Z4r D w A c y.list):Z0g.rep D w y [.int .i64 y.rel,.string y.var,.int .i64 y.sym.kind,.string y.sym.text,.int .i64 y.sym.n,.slice A y.list.length c]:=⟨A,c,rfl,h⟩
def Z3o {α:Type} (r:RepT α) (e:TypeId) (w:World) (l:List α) (v:Value) (wr:World):Prop:=
 ∃C A c,v = .slice A l.length c∧OwnC r e C wr v l∧(∀j,C j→NewD w.heap.size wr j)∧AIn A (NewD w.heap.size wr)∧Below w.heap.size w wr
theorem Z3o.nil {α:Type} (r:RepT α) (e:TypeId) (w:World) {wr:World} (hb:Below w.heap.size w wr):Z3o r e w [] (.slice none 0 0) wr:=
 ⟨fun _=>False,none,0,rfl,OwnC.nil _ _ _ _,fun _ h=>h.elim,AIn.none_ _,hb⟩
theorem Z3o.done {α:Type} {r:RepT α} {e:TypeId} {w wr:World} {l:List α} {v:Value} (h:Z3o r e w l v wr):Zlh r l w (.returned v) wr:=by
 obtain ⟨C,A,c,rfl,h1,h2,h3,h4⟩:=h;exact ⟨A,c,rfl,h1.row h2 h3,h3,h4⟩
theorem Z3o.snoc {α:Type} {r:RepT α} {e:TypeId} {w wr W W':World} {C:Nat→Prop} {l:List α} {y:α} {A:Option Addr} {c:Nat} {v':Value} (h2 : ∀j,C j→NewD w.heap.size wr j) (h3:AIn A (NewD w.heap.size wr)) (h4:Below w.heap.size w wr)
 (hb:Below wr.heap.size wr W) (ha:Z81 r e (Plus C wr W) W (.slice A l.length c) (l ++ [y]) v' W'):Z3o r e w (l ++ [y]) v' W':=by
 obtain ⟨g1,g2,g3⟩:=ha;have hz:=hb.size;have hz2:=g2.size;have hz4:=h4.size;obtain ⟨A',c',rfl,_,_,hA'⟩:=g1.form;refine ⟨Plus C wr W,A',c',rfl,g1,fun j hj=>?_,fun a ha=>⟨?_,(hA' a ha).1⟩,(h4.trans (hb.mono hz4)).grown g2 (by omega) (fun k hk=>?_)⟩
 · rcases hj with hj | hj
   · have:=h2 j hj;exact ⟨this.1,by have:=this.2;omega⟩
   · exact ⟨by omega,by omega⟩
 · subst ha
   rcases g3 with g3 | g3
   · rcases A with _ | b
     · simp [Value.ownBlock] at g3
     · simp only [Value.ownBlock,Option.some.injEq] at g3
       have:=(h3 b rfl).1;omega
   · simp only [Value.ownBlock,Option.some.injEq] at g3
     omega
 · rcases A with _ | b
   · simp [Value.ownBlock] at hk
   · simp only [Value.ownBlock,Option.some.injEq] at hk
     have:=(h3 b rfl).1;omega
theorem Z37 {α:Type} {l:List α} {k:Nat} (hk:k<l.length):l.take k ++ [l[k]]=l.take (k+1):=by rw [Zou,Zo8 hk];rfl
theorem Z3s {α:Type} {l:List α} {k:Nat} (hk:k≤l.length):(l.take k).length=k:=by simp;omega
theorem Zb3 (A:Option Addr) (c:Nat) (l:List Z3a) {D:Nat→Prop} (w:World) (hrd:RowR Z0g D w A c l) (hs:SmT l) :
 Calls Tryz.prog 221 #[.slice A l.length c] w (Zlh Z0g l w):=by
 obtain ⟨i0,hi0,hz0,hz1,hz2⟩:=infp Za3;obtain ⟨j0,hj0,hy0,hy1,hy2⟩:=infp Zka;have hlc:=hrd.cap;have hl1:=hs.1;have HRD:=hid hrd;have HS:=hid hs;clear hrd hs;go_enter Tryz.func221,Tryz.ntmps221;go_wp2_with fail
 go_loopw [3,8] (fun v i wr=>∃k:Nat,i = .int .i64 k∧k≤l.length∧Z3o Z0g 142 w (l.take k) v wr) (fun v i wr=>l.length - (intOf i).toNat)
 case atStart=>exact ⟨0,rfl,Nat.zero_le _,Z3o.nil _ _ _ (Znz _ _)⟩
 case round=>
  obtain ⟨k,rfl,hk,hC⟩:=hrel;obtain ⟨C,A1,c1,rfl,h1,h2,h3,h4⟩:=hC;rw [Z3s hk];by_cases hlt:k<l.length
  · have hrw:=HRD.out.keep (D':=D) h4.size (fun j hj hl=>⟨hj,h4.block j hl⟩)
    obtain ⟨g,off,A3,c3,rfl,hDg,hg,q0,q1,q2,q3,q4,q5,hr3⟩:=Z9v hrw hlt;obtain ⟨y,hy⟩ : ∃y,y=l[k]:=⟨_,rfl⟩;(have hy3:y.list.length≤1000:=by rw [hy];exact HS.out.2 _ (Zoy hlt));rw [← hy] at q0 q1 q2 q3 q4 q5 hr3;have hr4:=RowR.rd (hs:=Sym.cells_length) hr3;have hl3:=hr3.cap;(have b1:(0:Int)≤(k:Int):=by omega);(have b2:(k:Int)<(l.length:Int):=by omega);have HY:=hid hy;have H1:=hid h1;have H2:=hid h2;have H3:=hid h3;have H4:=hid h4;have HR4:=hid hr4;clear hy hrw h1 h2 h3 h4 hr3 hr4;(go_upto_region 5 with fail);obtain ⟨W4,hW4⟩ : ∃W4,W4=wr.alloc (.cells #[.int .i64 y.rel,.string y.var,.int .i64 y.sym.kind,.string y.sym.text,.int .i64 y.sym.n,.slice A3 y.list.length c3] 142):=⟨_,rfl⟩;(have hB4:Below wr.heap.size wr W4:=by rw [hW4];exact (Znz _ _).alloc (Zo0 _) _);(have hX4:Blk W4 wr.heap.size 142 #[.int .i64 y.rel,.string y.var,.int .i64 y.sym.kind,.string y.sym.text,.int .i64 y.sym.n,.slice A3 y.list.length c3]:=by rw [hW4];exact Blk.new _ _ _);rw [← hW4];clear hW4 q0 q1 q2 q3 q4 q5;have HB4:=hid hB4;have HX4:=hid hX4;have hxl4:=hX4.lt;clear hX4 hB4;have x5:=(HX4.out.cell 5).trans rfl;(go_upto_region 6 with (at_builtin;refine Z0b W4 rfl (.const (.slice none 0 0)) (.tmp 13) 36 rfl 23 i0 _ 3 32 Tryz.underlying36 hi0 hz0 hz1 hz2 rfl (by omega) (.slice none 0 0) 0 [] rfl (Z2v _ _ _) A3 y.list.length c3 (y.list.flatMap Sym.cells) rfl (Z0t Sym.cells_length _) ((HR4.out.new_ HB4.out).news Sym.cells_length (by omega)) (Zd5 _) (by unfold maxLen;omega) (by omega) ?_;intro v1 w5 hown1 hg1 hnil1 hat1;rw [Zov,Zom] at hown1;obtain ⟨A5,c5,rfl,ho5,hA5,hB5⟩:=Z4n hown1 hat1 rfl hg1;have hX5:=HX4.out.new_ hB5;have u5:=(hX5.cell 5).trans rfl;have g5:=hX5.frozen 5;have hxl5:=hX5.lt;have HB5:=hid hB5;have HO5:=hid ho5;have HA5:=hid hA5;have HX5:=hid hX5;clear hX5 hB5 ho5 hA5 hown1 hat1 hg1 hnil1 x5));obtain ⟨W6,hW6⟩ : ∃W6,W6=w5.setCell ⟨wr.heap.size,5,none⟩ (.slice A5 y.list.length c5):=⟨_,rfl⟩;have hX5:=HX5.out;(have hB6:Below wr.heap.size wr W6:=by rw [hW6];exact (HB4.out.trans (HB5.out.mono (by omega))).setCell (Zo0 _) _);(have hX6:Blk W6 wr.heap.size 142 #[.int .i64 y.rel,.string y.var,.int .i64 y.sym.kind,.string y.sym.text,.int .i64 y.sym.n,.slice A5 y.list.length c5]:=by rw [hW6];exact hX5.set_ 5 _);(have hO6:W6.ownsRow 0 23 3 (.slice A5 y.list.length c5) y.list.length (y.list.flatMap Sym.cells):=by rw [hW6];exact ownsRow_setCell_other (a:=⟨wr.heap.size,5,none⟩) HO5.out (Z01 HO5.out hX5 (by decide)) _);have hA6:AIn A5 (NewD wr.heap.size W6):=HA5.out.mono (fun j hj=>⟨by have:=hj.1;omega,by rw [hW6];simpa using hj.2⟩);rw [← hW6];clear hW6 hX5;have hB7:Below wr.heap.size wr (W6.alloc (.cells #[.int .i64 y.rel,.string y.var,.int .i64 y.sym.kind,.string y.sym.text,.int .i64 y.sym.n,.slice A5 y.list.length c5] 142)):=hB6.alloc hB6.size _;have hrow:RowR Z4r (Plus C wr (W6.alloc (.cells #[.int .i64 y.rel,.string y.var,.int .i64 y.sym.kind,.string y.sym.text,.int .i64 y.sym.n,.slice A5 y.list.length c5] 142))) (W6.alloc (.cells #[.int .i64 y.rel,.string y.var,.int .i64 y.sym.kind,.string y.sym.text,.int .i64 y.sym.n,.slice A5 y.list.length c5] 142)) A5 c5 y.list:=(Zau.row Sym.cells_length hO6 hA6).keep (by simp) (fun j hj hl=>⟨.inr ⟨hj.1,by simp;have:=hj.2;omega⟩,((Znz W6.heap.size W6).alloc (Zo0 _) _).block j hl⟩);have hown7:=H1.out.plus hB7;have hrep7:=Zl6 hrow
    have hcl : ∀j,Plus C wr (W6.alloc (.cells #[.int .i64 y.rel,.string y.var,.int .i64 y.sym.kind,.string y.sym.text,.int .i64 y.sym.n,.slice A5 y.list.length c5] 142)) j→j<(W6.alloc (.cells #[.int .i64 y.rel,.string y.var,.int .i64 y.sym.kind,.string y.sym.text,.int .i64 y.sym.n,.slice A5 y.list.length c5] 142)).heap.size:=fun j hj=>by
     rcases hj with hj | hj
     · have:=(H2.out j hj).2;have:=hB7.size;omega
     · exact hj.2
    obtain ⟨u0,u1,u2,u3,u4,u5⟩:=hX6.c6;have hxl6:=hX6.lt;have HB7:=hid hB7;have HOW:=hid hown7;have HRE:=hid hrep7;have HCL:=hid hcl;(have h63:(l.take k).length+1≤maxLen:=by rw [Z3s hk];unfold maxLen;omega);(have hby:((l.take k).length+1)*80≤140737488355328:=by rw [Z3s hk];omega);have H63:=hid h63;have HBY:=hid hby;have HTL:=hid (Z3s hk);clear hB6 hB7 hX6 hO6 hA6 hrow hown7 hrep7 hcl h63 hby;have HV:=hid (show Value.slice A1 k c1 = .slice A1 (l.take k).length c1 by rw [Z3s hk]);(go_wp2_with (at_builtin;refine Z5r _ rfl _ _ 60 rfl 142 j0 _ 6 80 Tryz.underlying60 hj0 hy0 hy1 hy2 rfl rfl (by omega) (Plus C wr (W6.alloc (.cells #[.int .i64 y.rel,.string y.var,.int .i64 y.sym.kind,.string y.sym.text,.int .i64 y.sym.n,.slice A5 y.list.length c5] 142))) HCL.out (.slice A1 (l.take k).length c1) (l.take k) HV.out HOW.out ⟨W6.heap.size,0,none⟩ 1 y [.int .i64 y.rel,.string y.var,.int .i64 y.sym.kind,.string y.sym.text,.int .i64 y.sym.n,.slice A5 y.list.length c5] rfl (Zok (heap_alloc_new _ _)) (by intro u hu;simp only [Zoj,Zoq,or_false] at hu;rcases hu with rfl | rfl | rfl | rfl | rfl | rfl<;>rfl) HRE.out H63.out HBY.out ?_;intro v' w7 hap));have hfin:Z3o Z0g 142 w (l.take k ++ [y]) v' w7:=Z3o.snoc H2.out H3.out H4.out HB7.out (by have e:Value.slice A1 (l.take k).length c1 = .slice A1 (l.take k).length c1:=rfl;exact hap);rw [HY.out,Z37 hlt] at hfin;go_roundw
    case rel=>exact ⟨k+1,by go_num,by omega,hfin⟩
    case measure=>simp [intOf];omega
  · obtain rfl:k=l.length:=by omega
    have hfin:=Z3o.done ⟨C,A1,c1,rfl,h1,h2,h3,h4⟩;rw [Zop] at hfin;have HF:=hid hfin;clear h1 h2 h3 h4 hfin;(go_wp2_with fail);go_ret;exact HF.out
def SmC:Nat→Z1c→Prop
 | 0,_=>True
 | n+1,c=>SmT c.attr∧SmT c.value∧c.conds.length≤1000∧∀x∈c.conds,SmC n x
def Zn4 (n:Nat) (c:Z1c) (w:World) (en:Ending) (w':World):Prop:=
 ∃A1 c1 A2 c2 A3 c3,en = .returned (.agg #[.int .i64 c.kind,.bool c.goal,.string c.id,.slice A1 c.attr.length c1,.slice A2 c.value.length c2,.bool c.acc,.slice A3 c.conds.length c3])∧RowR Z0g (NewD w.heap.size w') w' A1 c1 c.attr∧RowR Z0g (NewD w.heap.size w') w' A2 c2 c.value∧RowR (Z0x n) (NewD w.heap.size w') w' A3 c3 c.conds∧Below w.heap.size w w'
def Zgg (f n:Nat):Prop:=∀(c:Z1c) (A1:Option Addr) (c1:Nat) (A2:Option Addr) (c2:Nat) (A3:Option Addr) (c3:Nat) (D:Nat→Prop) (w:World),
 RowR Z0g D w A1 c1 c.attr→RowR Z0g D w A2 c2 c.value→RowR (Z0x n) D w A3 c3 c.conds→SmC (n+1) c→Calls Tryz.prog f #[.agg #[.int .i64 c.kind,.bool c.goal,.string c.id,.slice A1 c.attr.length c1,.slice A2 c.value.length c2,.bool c.acc,.slice A3 c.conds.length c3]] w (Zn4 n c w)
theorem Zl4 {n:Nat} {D:Nat→Prop} {w:World} {y:Z1c} {Ay1 Ay2 Ay3:Option Addr} {cy1 cy2 cy3:Nat} (h1:RowR Z0g D w Ay1 cy1 y.attr) (h2:RowR Z0g D w Ay2 cy2 y.value) (h3:RowR (Z0x n) D w Ay3 cy3 y.conds) :
 (Z0x (n+1)).rep D w y [.int .i64 y.kind,.bool y.goal,.string y.id,.slice Ay1 y.attr.length cy1,.slice Ay2 y.value.length cy2,.bool y.acc,.slice Ay3 y.conds.length cy3]:=⟨Ay1,cy1,Ay2,cy2,Ay3,cy3,rfl,h1,h2,h3⟩
theorem row0 {D:Nat→Prop} {w:World} {A:Option Addr} {c:Nat} {l:List Z1c} (h:RowR (Z0x 0) D w A c l):l = []:=by
 cases l with
 | nil=>rfl
 | cons x l=>
   obtain ⟨_,_,_,_,_,_,hr,_⟩:=h.at_ (k:=0) (by simp);exact hr.elim
theorem RowR.newD {α:Type} {r:RepT α} {B B':Nat} {w w':World} {A:Option Addr} {c:Nat} {l:List α} (h:RowR r (NewD B w) w A c l) (hb:Below w.heap.size w w') (hB:B'≤B):RowR r (NewD B' w') w' A c l:=
 h.keep hb.size (fun j hj hl=>⟨NewD.up hB hb.size j hj,hb.block j hl⟩)
theorem Z1k (b:Nat) : ∀(vs:List Value) (o:Nat) (w:World) (j:Nat),j≠b→(w.setCells b o vs).heap[j]? = w.heap[j]?
 | [],_,_,_,_=>rfl
 | v :: r,o,w,j,h=>by
   rw [World.setCells,Z1k b r (o+1) _ j h];exact Below.heap_setCell _ _ _ _ h
end
section
open Go.RowKit
attribute [local go_sem] Z5g Zd2
end
section
open Go.RowKit
theorem Elem.ext' : ∀{x y:Elem},x.id=y.id→x.attr=y.attr→x.value=y.value→x.acc=y.acc→x.goal=y.goal→x.tag=y.tag→x=y
 | ⟨_,_,_,_,_,_⟩,⟨_,_,_,_,_,_⟩,rfl,rfl,rfl,rfl,rfl,rfl=>rfl
instance decElem22:DecidableEq Elem:=fun a b=>decidable_of_iff (a.id=b.id∧a.attr=b.attr∧a.value=b.value∧a.acc=b.acc∧a.goal=b.goal∧a.tag=b.tag) ⟨fun ⟨h1,h2,h3,h4,h5,h6⟩=>Elem.ext' h1 h2 h3 h4 h5 h6,fun h=>by subst h;exact ⟨rfl,rfl,rfl,rfl,rfl,rfl⟩⟩
end
section
open Go.RowKit Go.Shelf
attribute [local go_sem] Oper.semAt_some
set_option linter.unusedSimpArgs false
structure RS (X:World) (ns:List Sym) (left out:List Elem) (AL:Option Addr) (cL:Nat) (AO:Option Addr) (cO:Nat) (AN:Option Addr) (cN:Nat) (w:World):Prop where
 lo:w.ownsRow 0 55 12 (.slice AL left.length cL) left.length (left.flatMap Elem.cells)
 la:AIn AL (X.heap.size≤·)
 oo:w.ownsRow 0 55 12 (.slice AO out.length cO) out.length (out.flatMap Elem.cells)
 oa:AIn AO (X.heap.size≤·)
 no:w.ownsRow 0 23 3 (.slice AN ns.length cN) ns.length (ns.flatMap Sym.cells)
 na:AIn AN (X.heap.size≤·)
 ne : ∀a b,AL=some a→AO=some b→a.block≠b.block
 bel:Below X.heap.size X w
section
variable {X w w':World} {ns:List Sym} {left out:List Elem} {AL:Option Addr} {cL:Nat} {AO:Option Addr} {cO:Nat} {AN:Option Addr} {cN:Nat}
end
end
section
open Go.RowKit Go.Shelf
attribute [local go_sem] Oper.semAt_some
set_option linter.unusedSimpArgs false
end
section
open Go.RowKit
attribute [local go_sem] Z5g Zd2
end
section
open Go.RowKit Go.Shelf
attribute [local go_sem] Oper.semAt_some
set_option linter.unusedSimpArgs false
theorem Zhh {e:TypeId} {size n m B:Nat} {w w':World} {A:Option Addr} {c:Nat} {v:Value} {xs news:List Value} (hown:w'.ownsRow 0 e size v (n+m) (xs++news)) (hg:w.grownBy w' (Value.slice A n c).ownBlock) (hat:v.ownBlock=(Value.slice A n c).ownBlock∨v.ownBlock=some w.heap.size) (hA:AIn A (B≤·)) (hB:B≤w.heap.size) :
 ∃A' c',v = .slice A' (n+m) c'∧w'.ownsRow 0 e size (.slice A' (n+m) c') (n+m) (xs++news)∧AIn A' (B≤·)∧Below B w w':=by
 obtain ⟨A',c',rfl,hF,hA',hO⟩:=Z2o (E:=fun j=>∃a,A=some a∧a.block=j) (fun a ha=>⟨a,ha,rfl⟩) hown hg hat;refine ⟨A',c',rfl,hO,fun a ha=>?_,hF.below hB (fun k hk ⟨a,ha,e⟩=>by have:B≤a.block:=hA a ha;omega)⟩;rcases hA' a ha with ⟨b,hb,e⟩ | ⟨h1,_⟩
 · rw [← e];exact hA b hb
 · exact Zod hB h1
end
end Go.Proofs.YtldndkngpdfpfaaGreat
