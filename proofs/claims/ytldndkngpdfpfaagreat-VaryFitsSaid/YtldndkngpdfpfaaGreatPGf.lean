/-
  Texts put together: VaryN4, KitSyms, RefBefore, KeepNeq, VaryEl, VaryRef, VaryRo, SymWord, SymDigits, SymValid, Scal, LeafName, ShapePlain.
-/
import Derived.Test.YtldndkngpdfpfaaGreatPGe
namespace Go.Proofs.YtldndkngpdfpfaaGreat
open Lib (hid)
set_option maxRecDepth 100000
set_option maxHeartbeats 32000000
section
open Go.RowKit Go.Shelf
attribute [local go_sem] Oper.semAt_some
set_option linter.unusedSimpArgs false
theorem Zdg (l:List Elem) (A:Option Addr) (c:Nat) (X:World) (h:Z0h X 12 Elem.cells A c l) (hl:l.length≤300):Calls Tryz.prog 61 #[.slice A l.length c] X (Z3m l X):=by
 obtain ⟨i0,hi0,hz0,hz1,hz2⟩:=infp Z7v;have HR:=hid h;have hc1:=h.cap;clear h;go_enter Tryz.func61,Tryz.ntmps61;(go_wp2_with fail);refine (Zco _).mono ?_;rintro e w1 ⟨bm,bp,sn,AM,cM,rfl,hbm,hbp,hAM,hM,hS,hb1⟩;have HK:=hid (And.intro hbm (And.intro hbp (And.intro hAM (And.intro hM (And.intro hS hb1)))));clear hbm hbp hAM hM hS hb1;(go_upto_region 2 with fail);obtain ⟨w2,hw2⟩ : ∃w2,w2=w1.alloc (.cells #[.pointer (some ⟨bm,0,none⟩),.slice none 0 0] 148):=⟨_,rfl⟩;obtain ⟨nb,hnb⟩ : ∃nb,nb=w1.heap.size:=⟨_,rfl⟩;(have hb2:Below w1.heap.size w1 w2:=by rw [hw2];exact (Zi2 _ _).alloc (Zi3 _) _);have hs2:w2.heap.size=w1.heap.size+1:=by rw [hw2];simp
 have HN2:=hid (show Nm (fun k=>X.heap.size≤k∧k<w2.heap.size) w2 nb [] by
  obtain ⟨hbm,hbp,hAM,hM,hS,hb1⟩:=HK.out;have hz:=hb1.size
  refine ⟨bm,bp,sn,AM,cM,[],none,0,by rw [hw2,hnb];exact Blk.new _ _ _,hM.new_ hb2,hS.new_ hb2,MapN.nil,⟨by simp,.inl ⟨rfl,rfl⟩⟩,⟨by omega,by omega⟩,⟨hbm,by have:=hM.lt;omega⟩,⟨hbp,by have:=hS.lt;omega⟩,fun a ha=>⟨hAM a ha,by have:=hS.row_lt a ha;omega⟩,AIn.none_ _,fun k hk=>hk.2⟩)
 have HB2:=hid (HK.out.2.2.2.2.2.trans (hb2.mono HK.out.2.2.2.2.2.size));rw [← hnb,← hw2];clear hnb hw2 hb2 hs2;go_upto_region 3 with (at_builtin;refine Z03 w2 rfl (.const (.slice none 0 0)) (.tmp 15) 84 rfl 55 i0 _ 12 112 Tryz.underlying84 hi0 hz0 hz1 hz2 rfl (by omega) (.slice none 0 0) 0 [] rfl ⟨by simp,.inl ⟨rfl,rfl⟩⟩ A l.length c (l.flatMap Elem.cells) rfl (Z13 Elem.cells_length _) ((HR.out.new_ HB2.out).news Elem.cells_length (by omega)) (Z54 _) (by unfold maxLen;omega) (by omega) ?_;intro v1 w3 hown1 hg1 hnil1 hat1;obtain ⟨AL0,cL0,rfl,hF1,hA1,hO1⟩:=Z1r (E:=fun _=>False) (A:=none) (c:=0) (n:=0) (fun a ha=>by cases ha) hown1 hg1 hat1;rw [Ziu,Zj6] at hO1;rw [Ziu];have HO1:=hid (And.intro hF1 (And.intro hA1 hO1));clear hown1 hg1 hnil1 hat1 hF1 hA1 hO1)
 have HLS:=hid (show LS X nb [] l [] AL0 cL0 none 0 (fun k=>X.heap.size≤k∧k<w2.heap.size) w3 by
  obtain ⟨hF,hA,hO⟩:=HO1.out;have hb3:Below w2.heap.size w2 w3:=hF.below (Zi3 _) (fun _ _ h=>h);have hz2:=HB2.out.size;refine ⟨HN2.out.new_ hb3,fun k hk=>hk.1,hO,fun a ha=>?_,⟨by simp,.inl ⟨rfl,rfl⟩⟩,AIn.none_ _,fun _ _ _ hb=>(by cases hb),HB2.out.trans (hb3.mono hz2)⟩;rcases hA a ha with h | ⟨h1,_⟩
  · exact h.elim
  · exact ⟨by omega,fun h=>by omega⟩)
 clear HN2 HB2 HO1 HK HR;go_wp2_with fail
 go_loopw [6,7] (fun vl vo wr=>∃(left out:List Elem) (ns:List Sym) (AL:Option Addr) (cL:Nat) (AO:Option Addr) (cO:Nat) (D:Nat→Prop),vl = .slice AL left.length cL∧vo = .slice AO out.length cO∧LS X nb ns left out AL cL AO cO D wr∧left.length+out.length≤300∧ns.length≤2*out.length∧Z5x left.length ns left out=Z2v l) (fun vl vo wr=>lenV vl)
 case atStart=>exact ⟨l,[],[],AL0,cL0,none,0,_,rfl,rfl,HLS.out,by simpa using hl,by simp,rfl⟩
 case round=>
  clear HLS;obtain ⟨left,out,ns,AL,cL,AO,cO,D,rfl,rfl,hls,hlen,hns,hlv⟩:=hrel;have HS0:=hid hls;have HLV:=hid hlv;have hcl:=(Z08 Elem.cells_length hls.lo).cap;have hcm:left.length≤cL:=(Z08 Elem.cells_length hls.lo).1;clear hls hlv;by_cases he:left.length=0
  · have hl0:left = []:=Zix.1 he
    have HOV:=hid (show Z2v l=some (out,ns) by rw [← HLV.out,hl0];exact Z8w);clear HLV;(go_wp2_with fail);exact bodyPost_ret (v:=.tuple #[.slice AO out.length cO,.pointer (some ⟨nb,0,none⟩),.bool true]) (by simp [results,Tryz.results61,go_sem, *]) rfl (Z3m.yes HOV.out HS0.out)
  · have hl1:(0:Int)<(left.length:Int):=by omega
    (have hl2:0<left.length:=by omega);go_upto_region 7 with fail
    go_loopw [8,22] (fun vb vi W=>∃i:Nat,vi = .int .i64 (i:Int)∧i≤left.length∧vb = .int .i64 (Z9t (Z38 ns left i))∧LS X nb ns left out AL cL AO cO D W) (fun vb vi W=>left.length - (intOf vi).toNat)
    case atStart=>exact ⟨0,rfl,Nat.zero_le _,rfl,HS0.out⟩
    case round=>
     obtain ⟨i,rfl,hi,rfl,hls⟩:=hrel;have HS:=hid hls;clear hls;by_cases hlt:i<left.length
     · skip
       obtain ⟨y,hy⟩ : ∃y,y=left[i]:=⟨_,rfl⟩;have HY:=hid hy;obtain ⟨g,off,hAA,hgl,hrg⟩:=HS.out.at_ hlt;rw [← hy] at hrg;subst hAA;have HRG:=hid (show wr.rangeAt g (off+i*12) [.int .i64 y.id.kind,.string y.id.text,.int .i64 y.id.n,.int .i64 y.attr.kind,.string y.attr.text,.int .i64 y.attr.n,.int .i64 y.value.kind,.string y.value.text,.int .i64 y.value.n,.bool y.acc,.bool y.goal,.int .i64 y.tag] from hrg);have HTH:=hid (show (wr.alloc (.cells #[.int .i64 0,.string ⟨#[]⟩,.int .i64 0,.int .i64 0,.string ⟨#[]⟩,.int .i64 0,.int .i64 0,.string ⟨#[]⟩,.int .i64 0,.bool false,.bool false,.int .i64 0] 55)).there wr.heap.size 0 (#[.int .i64 y.id.kind,.string y.id.text,.int .i64 y.id.n,.int .i64 y.attr.kind,.string y.attr.text,.int .i64 y.attr.n,.int .i64 y.value.kind,.string y.value.text,.int .i64 y.value.n,.bool y.acc,.bool y.goal,.int .i64 y.tag]:Array Value).size from (Blk.new wr 55 #[.int .i64 0,.string ⟨#[]⟩,.int .i64 0,.int .i64 0,.string ⟨#[]⟩,.int .i64 0,.int .i64 0,.string ⟨#[]⟩,.int .i64 0,.bool false,.bool false,.int .i64 0]).there);obtain ⟨W5,hW5⟩ : ∃W5,W5=(wr.alloc (.cells #[.int .i64 0,.string ⟨#[]⟩,.int .i64 0,.int .i64 0,.string ⟨#[]⟩,.int .i64 0,.int .i64 0,.string ⟨#[]⟩,.int .i64 0,.bool false,.bool false,.int .i64 0] 55)).setCells wr.heap.size 0 [.int .i64 y.id.kind,.string y.id.text,.int .i64 y.id.n,.int .i64 y.attr.kind,.string y.attr.text,.int .i64 y.attr.n,.int .i64 y.value.kind,.string y.value.text,.int .i64 y.value.n,.bool y.acc,.bool y.goal,.int .i64 y.tag]:=⟨_,rfl⟩;have HW5:=hid hW5;have HRG5:=hid (show W5.rangeAt wr.heap.size 0 [.int .i64 y.id.kind,.string y.id.text,.int .i64 y.id.n,.int .i64 y.attr.kind,.string y.attr.text,.int .i64 y.attr.n,.int .i64 y.value.kind,.string y.value.text,.int .i64 y.value.n,.bool y.acc,.bool y.goal,.int .i64 y.tag] by rw [hW5];exact Zi6 _ _ _ _ HTH.out);have HK5:=hid (show Blk W5 wr.heap.size 55 #[.int .i64 y.id.kind,.string y.id.text,.int .i64 y.id.n,.int .i64 y.attr.kind,.string y.attr.text,.int .i64 y.attr.n,.int .i64 y.value.kind,.string y.value.text,.int .i64 y.value.n,.bool y.acc,.bool y.goal,.int .i64 y.tag] from Z1n (zs:=[.int .i64 0,.string ⟨#[]⟩,.int .i64 0,.int .i64 0,.string ⟨#[]⟩,.int .i64 0,.int .i64 0,.string ⟨#[]⟩,.int .i64 0,.bool false,.bool false,.int .i64 0]) (vs:=[.int .i64 y.id.kind,.string y.id.text,.int .i64 y.id.n,.int .i64 y.attr.kind,.string y.attr.text,.int .i64 y.attr.n,.int .i64 y.value.kind,.string y.value.text,.int .i64 y.value.n,.bool y.acc,.bool y.goal,.int .i64 y.tag]) rfl hW5 HRG5.out);have HB5:=hid (show Below wr.heap.size wr W5 by rw [hW5];exact Below.setCells' _ _ ((Zi2 _ _).alloc (Zi3 _) _) (Zi3 _));clear hW5 hrg hy;have HYI:=hid (show left[i]? = some y by rw [HY.out];exact Zic hlt);(have j1:(0:Int)≤(i:Int):=by omega);(have j2:(i:Int)<(left.length:Int):=by omega);obtain ⟨bs,hbs⟩ : ∃bs,bs=Z38 ns left i:=⟨_,rfl⟩;have HBS:=hid hbs.symm;rw [← hbs];clear hbs
       go_upto_region 9 with (first
       | (with_reducible refine wpList_load_mid rfl 55 _ rfl g (off+i*12) rfl _ _ HRG.out Tryz.underlying55 rfl (by kernel_rfl) ?_)
       | ((with_reducible refine wpList_store_mid rfl 55 _ _ rfl wr.heap.size 0 #[.int .i64 y.id.kind,.string y.id.text,.int .i64 y.id.n,.int .i64 y.attr.kind,.string y.attr.text,.int .i64 y.attr.n,.int .i64 y.value.kind,.string y.value.text,.int .i64 y.value.n,.bool y.acc,.bool y.goal,.int .i64 y.tag] rfl rfl HTH.out (by kernel_rfl) (by kernel_rfl) ?_);rw [← HW5.out]))
       have HS5:=hid (HS.out.new_ HB5.out);have HP5:=hid (show ∀W,Below W5.heap.size W5 W→Calls Tryz.prog 62 #[.pointer (some ⟨nb,0,none⟩),.agg #[.int .i64 y.id.kind,.string y.id.text,.int .i64 y.id.n]] W fun e w'=>e = .returned (.int .i64 (plV ns y.id:Int))∧Below W.heap.size W w' from fun W hW=>Z2m y.id W (HS5.out.nm.new_ hW) (by omega));have HGO:=hid (show canN ns y=(y.goal || !decide (plV ns y.id=0)) from rfl);have k10:W5.cell? ⟨wr.heap.size,10,none⟩=some (.bool y.goal):=(HK5.out.cell 10).trans rfl;have k0:W5.cell? ⟨wr.heap.size,0,none⟩=some (.int .i64 y.id.kind):=(HK5.out.cell 0).trans rfl;have k1:W5.cell? ⟨wr.heap.size,1,none⟩=some (.string y.id.text):=(HK5.out.cell 1).trans rfl;have k2:W5.cell? ⟨wr.heap.size,2,none⟩=some (.int .i64 y.id.n):=(HK5.out.cell 2).trans rfl;have kz:=HK5.out.lt;obtain ⟨p,hp⟩ : ∃p,p=plV ns y.id:=⟨_,rfl⟩;obtain ⟨gb,hgb⟩ : ∃gb,gb=y.goal:=⟨_,rfl⟩;rw [← hp] at HP5 HGO;rw [← hgb] at k10 HGO;clear hp hgb;have HSZ:=hid HB5.out.size;cases gb
       · skip
         by_cases hp0:p=0
         · skip
           subst hp0;have HBK:=hid (Zbo HYI.out (show canN ns y=false by rw [HGO.out];rfl));(go_wp2_with fail);refine (HP5.out _ (Zi2 _ _)).mono ?_;rintro e w6 ⟨rfl,hb6⟩;have HS6:=hid (HS5.out.new_ hb6);clear hb6;(go_wp2_with fail);go_roundw
           case rel=>exact ⟨i+1,by go_num,by omega,by rw [HBK.out,HBS.out],HS6.out⟩
           case measure=>simp [intOf]<;>omega
         · skip
           (have r1:((p:Int) == 0)=false:=by simp;omega);(have r2 : ¬(p:Int)=0:=by omega);(have r3:decide ((p:Int)=0)=false:=by simp;omega);have HCAN:=hid (show canN ns y=true by rw [HGO.out];simp [hp0]);clear hp0;(go_upto_region 10 with fail);refine (HP5.out _ (Zi2 _ _)).mono ?_;rintro e WK ⟨rfl,hb6⟩;have HSK:=hid (HS5.out.new_ hb6);have HKK:=hid (HK5.out.new_ hb6);clear hb6 k0 k1 k2 k10 kz;go_upto_region 10 with fail
           cases bs with
           | none=>
             have HBN:=hid (Z68 HYI.out HCAN.out HBS.out);dsimp only [Z9t];(go_upto_region 10 with fail);refine Z05 (fun w9=>Below WK.heap.size WK w9) [(0,0),(1,0),(2,0),(3,0),(4,1),(5,0),(6,0),(7,0),(8,1),(9,2),(10,0)] (by kernel_rfl) (by kernel_rfl) (fun KK hKK=>?_);simp only [Z02,Zib,Zi5,Zi9,Zi8,Zi7,Zif];(repeat ((first | (refine Z0a ?_ (Or.inl ⟨by rfl,fun w9=>?_⟩) ?_;rotate_left 1;go_simp;with_reducible rfl) | (refine Z06 ?_ (((Zi2 _ _).drew)) (Or.inl ⟨by rfl,fun w9 hw9=>?_⟩) ?_;rotate_left 1;obtain ⟨hc9,hf9⟩:=Z0e hw9;go_simp;with_reducible rfl) | refine Z0a undef (Or.inr ⟨by rfl,rfl⟩) ?_ | refine Z06 undef (((Zi2 _ _).drew)) (Or.inr ⟨by rfl,rfl⟩) ?_);go_frame));refine Z1f (fun K9 hK9=>?_);go_simp;refine hK9 _ _ ((Zi2 _ _).drew) ?_;clear hK9 K9;(repeat ((first | (refine Z0a ?_ (Or.inl ⟨by rfl,fun w9=>?_⟩) ?_;rotate_left 1;go_simp;with_reducible rfl) | (refine Z06 ?_ (((Zi2 _ _).drew)) (Or.inl ⟨by rfl,fun w9 hw9=>?_⟩) ?_;rotate_left 1;obtain ⟨hc9,hf9⟩:=Z0e hw9;go_simp;with_reducible rfl) | refine Z0a undef (Or.inr ⟨by rfl,rfl⟩) ?_ | refine Z06 undef (((Zi2 _ _).drew)) (Or.inr ⟨by rfl,rfl⟩) ?_);go_frame));refine Z0z ?_;simp only [Z00];refine hKK _ _ ?_;clear hKK KK;have HSL:=hid (HSK.out.new_ ((Zi2 WK.heap.size WK).drew));(go_wp2_with fail);go_roundw
             case rel=>exact ⟨i+1,by go_num,by omega,by rw [HBN.out];rfl,HSL.out⟩
             case measure=>simp [intOf]<;>omega
           | some k=>
             have hkl:=Z4f HBS.out;obtain ⟨b,hb⟩ : ∃b,b=left[k]'hkl.2:=⟨_,rfl⟩;have HBI:=hid (show left[k]? = some b by rw [hb];exact Zic hkl.2);obtain ⟨g2,off2,hA2,hgl2,hrg2⟩:=HSK.out.at_ hkl.2;rw [← hb] at hrg2;injection hA2 with hA2;injection hA2 with hA2 hA3;subst hA2;subst hA3;have HRB:=hid (show WK.rangeAt g (off+k*12) [.int .i64 b.id.kind,.string b.id.text,.int .i64 b.id.n,.int .i64 b.attr.kind,.string b.attr.text,.int .i64 b.attr.n,.int .i64 b.value.kind,.string b.value.text,.int .i64 b.value.n,.bool b.acc,.bool b.goal,.int .i64 b.tag] from hrg2);have HRY:=hid (show WK.rangeAt wr.heap.size 0 [.int .i64 y.id.kind,.string y.id.text,.int .i64 y.id.n,.int .i64 y.attr.kind,.string y.attr.text,.int .i64 y.attr.n,.int .i64 y.value.kind,.string y.value.text,.int .i64 y.value.n,.bool y.acc,.bool y.goal,.int .i64 y.tag] from (HKK.out.range));obtain ⟨va,hva⟩ : ∃va,va=Z66 ns y b:=⟨_,rfl⟩;have HBM:=hid (Z7a HYI.out HCAN.out HBS.out HBI.out va hva.symm);have HAH:=hid (show ∀W,Below WK.heap.size WK W→Calls Tryz.prog 101 #[.pointer (some ⟨nb,0,none⟩),.agg #[.int .i64 y.id.kind,.string y.id.text,.int .i64 y.id.n,.int .i64 y.attr.kind,.string y.attr.text,.int .i64 y.attr.n,.int .i64 y.value.kind,.string y.value.text,.int .i64 y.value.n,.bool y.acc,.bool y.goal,.int .i64 y.tag],.agg #[.int .i64 b.id.kind,.string b.id.text,.int .i64 b.id.n,.int .i64 b.attr.kind,.string b.attr.text,.int .i64 b.attr.n,.int .i64 b.value.kind,.string b.value.text,.int .i64 b.value.n,.bool b.acc,.bool b.goal,.int .i64 b.tag]] W fun e w'=>e = .returned (.bool va)∧Below W.heap.size W w' from fun W hW=>by rw [hva];exact Zao y b W (HSK.out.nm.new_ hW) (by omega));(have hk1:(0:Int)≤(k:Int):=by omega);(have hk2:(k:Int)<(left.length:Int):=by omega);(have hk3 : ¬(k:Int)<0:=by omega);(have hk4:decide ((k:Int)<0)=false:=by simp);have hgz:g<WK.heap.size:=hgl2;have hwz:=HKK.out.lt;clear hva hb hrg2 hgl2 hkl;dsimp only [Z9t];(go_upto_region 10 with fail);refine Z05 (fun w9=>Below WK.heap.size WK w9) [(0,0),(1,0),(2,0),(3,0),(4,1),(5,0),(6,0),(7,0),(8,1),(9,2),(10,0)] (by kernel_rfl) (by kernel_rfl) (fun KK hKK=>?_);simp only [Z02,Zib,Zi5,Zi9,Zi8,Zi7,Zif];(repeat ((first | (refine Z06 _ ((Zi2 _ _).drew) (yieldsIf_load_mid (by rfl) 55 _ rfl wr.heap.size (0) rfl [.int .i64 y.id.kind,.string y.id.text,.int .i64 y.id.n,.int .i64 y.attr.kind,.string y.attr.text,.int .i64 y.attr.n,.int .i64 y.value.kind,.string y.value.text,.int .i64 y.value.n,.bool y.acc,.bool y.goal,.int .i64 y.tag] _ (fun w9 hw9=>Z1o HRY.out hw9 hwz) Tryz.underlying55 rfl (by kernel_rfl)) ?_) | (refine Z06 _ ((Zi2 _ _).drew) (yieldsIf_load_mid (by rfl) 55 _ rfl g (off+k*12) rfl [.int .i64 b.id.kind,.string b.id.text,.int .i64 b.id.n,.int .i64 b.attr.kind,.string b.attr.text,.int .i64 b.attr.n,.int .i64 b.value.kind,.string b.value.text,.int .i64 b.value.n,.bool b.acc,.bool b.goal,.int .i64 b.tag] _ (fun w9 hw9=>Z1o HRB.out hw9 hgz) Tryz.underlying55 rfl (by kernel_rfl)) ?_) | (refine Z0a ?_ (Or.inl ⟨by rfl,fun w9=>?_⟩) ?_;rotate_left 1;go_simp;with_reducible rfl) | (refine Z06 ?_ (((Zi2 _ _).drew)) (Or.inl ⟨by rfl,fun w9 hw9=>?_⟩) ?_;rotate_left 1;obtain ⟨hc9,hf9⟩:=Z0e hw9;go_simp;with_reducible rfl) | refine Z0a undef (Or.inr ⟨by rfl,rfl⟩) ?_ | refine Z06 undef (((Zi2 _ _).drew)) (Or.inr ⟨by rfl,rfl⟩) ?_);go_frame));refine Z2p (by kernel_rfl) (fun K9 hK9=>?_);go_simp;refine (HAH.out _ ((Zi2 _ _).drew)).mono ?_;rintro e w9 ⟨rfl,hb9⟩;have HB9:=hid (((Zi2 WK.heap.size WK).drew).trans (hb9.mono (by simp)));clear hb9;refine hK9 _ _ ?_;clear hK9 K9;(repeat ((first | (refine Z06 _ ((Zi2 _ _).drew) (yieldsIf_load_mid (by rfl) 55 _ rfl wr.heap.size (0) rfl [.int .i64 y.id.kind,.string y.id.text,.int .i64 y.id.n,.int .i64 y.attr.kind,.string y.attr.text,.int .i64 y.attr.n,.int .i64 y.value.kind,.string y.value.text,.int .i64 y.value.n,.bool y.acc,.bool y.goal,.int .i64 y.tag] _ (fun w9 hw9=>Z1o HRY.out hw9 hwz) Tryz.underlying55 rfl (by kernel_rfl)) ?_) | (refine Z06 _ ((Zi2 _ _).drew) (yieldsIf_load_mid (by rfl) 55 _ rfl g (off+k*12) rfl [.int .i64 b.id.kind,.string b.id.text,.int .i64 b.id.n,.int .i64 b.attr.kind,.string b.attr.text,.int .i64 b.attr.n,.int .i64 b.value.kind,.string b.value.text,.int .i64 b.value.n,.bool b.acc,.bool b.goal,.int .i64 b.tag] _ (fun w9 hw9=>Z1o HRB.out hw9 hgz) Tryz.underlying55 rfl (by kernel_rfl)) ?_) | (refine Z0a ?_ (Or.inl ⟨by rfl,fun w9=>?_⟩) ?_;rotate_left 1;go_simp;with_reducible rfl) | (refine Z06 ?_ (((Zi2 _ _).drew)) (Or.inl ⟨by rfl,fun w9 hw9=>?_⟩) ?_;rotate_left 1;obtain ⟨hc9,hf9⟩:=Z0e hw9;go_simp;with_reducible rfl) | refine Z0a undef (Or.inr ⟨by rfl,rfl⟩) ?_ | refine Z06 undef (((Zi2 _ _).drew)) (Or.inr ⟨by rfl,rfl⟩) ?_);go_frame));refine Z0z ?_;simp only [Z00];refine hKK _ _ ?_;clear hKK KK;have HSL:=hid (HSK.out.new_ HB9.out);cases va
             · go_wp2_with fail
               go_roundw
               case rel=>exact ⟨i+1,by go_num,by omega,by rw [HBM.out];rfl,HSL.out⟩
               case measure=>simp [intOf]<;>omega
             · go_wp2_with fail
               go_roundw
               case rel=>exact ⟨i+1,by go_num,by omega,by rw [HBM.out];rfl,HSL.out⟩
               case measure=>simp [intOf]<;>omega
       · skip
         have HCAN:=hid (show canN ns y=true by rw [HGO.out];rfl);(go_upto_region 10 with fail);obtain ⟨WK,hWK⟩ : ∃WK,WK=W5:=⟨_,rfl⟩;rw [← hWK] at HS5 HK5 ⊢;have HSK:=hid HS5.out;have HKK:=hid HK5.out;clear hWK k0 k1 k2 k10 kz
         cases bs with
         | none=>
           have HBN:=hid (Z68 HYI.out HCAN.out HBS.out);dsimp only [Z9t];(go_upto_region 10 with fail);refine Z05 (fun w9=>Below WK.heap.size WK w9) [(0,0),(1,0),(2,0),(3,0),(4,1),(5,0),(6,0),(7,0),(8,1),(9,2),(10,0)] (by kernel_rfl) (by kernel_rfl) (fun KK hKK=>?_);simp only [Z02,Zib,Zi5,Zi9,Zi8,Zi7,Zif];(repeat ((first | (refine Z0a ?_ (Or.inl ⟨by rfl,fun w9=>?_⟩) ?_;rotate_left 1;go_simp;with_reducible rfl) | (refine Z06 ?_ (((Zi2 _ _).drew)) (Or.inl ⟨by rfl,fun w9 hw9=>?_⟩) ?_;rotate_left 1;obtain ⟨hc9,hf9⟩:=Z0e hw9;go_simp;with_reducible rfl) | refine Z0a undef (Or.inr ⟨by rfl,rfl⟩) ?_ | refine Z06 undef (((Zi2 _ _).drew)) (Or.inr ⟨by rfl,rfl⟩) ?_);go_frame));refine Z1f (fun K9 hK9=>?_);go_simp;refine hK9 _ _ ((Zi2 _ _).drew) ?_;clear hK9 K9;(repeat ((first | (refine Z0a ?_ (Or.inl ⟨by rfl,fun w9=>?_⟩) ?_;rotate_left 1;go_simp;with_reducible rfl) | (refine Z06 ?_ (((Zi2 _ _).drew)) (Or.inl ⟨by rfl,fun w9 hw9=>?_⟩) ?_;rotate_left 1;obtain ⟨hc9,hf9⟩:=Z0e hw9;go_simp;with_reducible rfl) | refine Z0a undef (Or.inr ⟨by rfl,rfl⟩) ?_ | refine Z06 undef (((Zi2 _ _).drew)) (Or.inr ⟨by rfl,rfl⟩) ?_);go_frame));refine Z0z ?_;simp only [Z00];refine hKK _ _ ?_;clear hKK KK;have HSL:=hid (HSK.out.new_ ((Zi2 WK.heap.size WK).drew));(go_wp2_with fail);go_roundw
           case rel=>exact ⟨i+1,by go_num,by omega,by rw [HBN.out];rfl,HSL.out⟩
           case measure=>simp [intOf]<;>omega
         | some k=>
           have hkl:=Z4f HBS.out;obtain ⟨b,hb⟩ : ∃b,b=left[k]'hkl.2:=⟨_,rfl⟩;have HBI:=hid (show left[k]? = some b by rw [hb];exact Zic hkl.2);obtain ⟨g2,off2,hA2,hgl2,hrg2⟩:=HSK.out.at_ hkl.2;rw [← hb] at hrg2;injection hA2 with hA2;injection hA2 with hA2 hA3;subst hA2;subst hA3;have HRB:=hid (show WK.rangeAt g (off+k*12) [.int .i64 b.id.kind,.string b.id.text,.int .i64 b.id.n,.int .i64 b.attr.kind,.string b.attr.text,.int .i64 b.attr.n,.int .i64 b.value.kind,.string b.value.text,.int .i64 b.value.n,.bool b.acc,.bool b.goal,.int .i64 b.tag] from hrg2);have HRY:=hid (show WK.rangeAt wr.heap.size 0 [.int .i64 y.id.kind,.string y.id.text,.int .i64 y.id.n,.int .i64 y.attr.kind,.string y.attr.text,.int .i64 y.attr.n,.int .i64 y.value.kind,.string y.value.text,.int .i64 y.value.n,.bool y.acc,.bool y.goal,.int .i64 y.tag] from (HKK.out.range));obtain ⟨va,hva⟩ : ∃va,va=Z66 ns y b:=⟨_,rfl⟩;have HBM:=hid (Z7a HYI.out HCAN.out HBS.out HBI.out va hva.symm);have HAH:=hid (show ∀W,Below WK.heap.size WK W→Calls Tryz.prog 101 #[.pointer (some ⟨nb,0,none⟩),.agg #[.int .i64 y.id.kind,.string y.id.text,.int .i64 y.id.n,.int .i64 y.attr.kind,.string y.attr.text,.int .i64 y.attr.n,.int .i64 y.value.kind,.string y.value.text,.int .i64 y.value.n,.bool y.acc,.bool y.goal,.int .i64 y.tag],.agg #[.int .i64 b.id.kind,.string b.id.text,.int .i64 b.id.n,.int .i64 b.attr.kind,.string b.attr.text,.int .i64 b.attr.n,.int .i64 b.value.kind,.string b.value.text,.int .i64 b.value.n,.bool b.acc,.bool b.goal,.int .i64 b.tag]] W fun e w'=>e = .returned (.bool va)∧Below W.heap.size W w' from fun W hW=>by rw [hva];exact Zao y b W (HSK.out.nm.new_ hW) (by omega));(have hk1:(0:Int)≤(k:Int):=by omega);(have hk2:(k:Int)<(left.length:Int):=by omega);(have hk3 : ¬(k:Int)<0:=by omega);(have hk4:decide ((k:Int)<0)=false:=by simp);have hgz:g<WK.heap.size:=hgl2;have hwz:=HKK.out.lt;clear hva hb hrg2 hgl2 hkl;dsimp only [Z9t];(go_upto_region 10 with fail);refine Z05 (fun w9=>Below WK.heap.size WK w9) [(0,0),(1,0),(2,0),(3,0),(4,1),(5,0),(6,0),(7,0),(8,1),(9,2),(10,0)] (by kernel_rfl) (by kernel_rfl) (fun KK hKK=>?_);simp only [Z02,Zib,Zi5,Zi9,Zi8,Zi7,Zif];(repeat ((first | (refine Z06 _ ((Zi2 _ _).drew) (yieldsIf_load_mid (by rfl) 55 _ rfl wr.heap.size (0) rfl [.int .i64 y.id.kind,.string y.id.text,.int .i64 y.id.n,.int .i64 y.attr.kind,.string y.attr.text,.int .i64 y.attr.n,.int .i64 y.value.kind,.string y.value.text,.int .i64 y.value.n,.bool y.acc,.bool y.goal,.int .i64 y.tag] _ (fun w9 hw9=>Z1o HRY.out hw9 hwz) Tryz.underlying55 rfl (by kernel_rfl)) ?_) | (refine Z06 _ ((Zi2 _ _).drew) (yieldsIf_load_mid (by rfl) 55 _ rfl g (off+k*12) rfl [.int .i64 b.id.kind,.string b.id.text,.int .i64 b.id.n,.int .i64 b.attr.kind,.string b.attr.text,.int .i64 b.attr.n,.int .i64 b.value.kind,.string b.value.text,.int .i64 b.value.n,.bool b.acc,.bool b.goal,.int .i64 b.tag] _ (fun w9 hw9=>Z1o HRB.out hw9 hgz) Tryz.underlying55 rfl (by kernel_rfl)) ?_) | (refine Z0a ?_ (Or.inl ⟨by rfl,fun w9=>?_⟩) ?_;rotate_left 1;go_simp;with_reducible rfl) | (refine Z06 ?_ (((Zi2 _ _).drew)) (Or.inl ⟨by rfl,fun w9 hw9=>?_⟩) ?_;rotate_left 1;obtain ⟨hc9,hf9⟩:=Z0e hw9;go_simp;with_reducible rfl) | refine Z0a undef (Or.inr ⟨by rfl,rfl⟩) ?_ | refine Z06 undef (((Zi2 _ _).drew)) (Or.inr ⟨by rfl,rfl⟩) ?_);go_frame));refine Z2p (by kernel_rfl) (fun K9 hK9=>?_);go_simp;refine (HAH.out _ ((Zi2 _ _).drew)).mono ?_;rintro e w9 ⟨rfl,hb9⟩;have HB9:=hid (((Zi2 WK.heap.size WK).drew).trans (hb9.mono (by simp)));clear hb9;refine hK9 _ _ ?_;clear hK9 K9;(repeat ((first | (refine Z06 _ ((Zi2 _ _).drew) (yieldsIf_load_mid (by rfl) 55 _ rfl wr.heap.size (0) rfl [.int .i64 y.id.kind,.string y.id.text,.int .i64 y.id.n,.int .i64 y.attr.kind,.string y.attr.text,.int .i64 y.attr.n,.int .i64 y.value.kind,.string y.value.text,.int .i64 y.value.n,.bool y.acc,.bool y.goal,.int .i64 y.tag] _ (fun w9 hw9=>Z1o HRY.out hw9 hwz) Tryz.underlying55 rfl (by kernel_rfl)) ?_) | (refine Z06 _ ((Zi2 _ _).drew) (yieldsIf_load_mid (by rfl) 55 _ rfl g (off+k*12) rfl [.int .i64 b.id.kind,.string b.id.text,.int .i64 b.id.n,.int .i64 b.attr.kind,.string b.attr.text,.int .i64 b.attr.n,.int .i64 b.value.kind,.string b.value.text,.int .i64 b.value.n,.bool b.acc,.bool b.goal,.int .i64 b.tag] _ (fun w9 hw9=>Z1o HRB.out hw9 hgz) Tryz.underlying55 rfl (by kernel_rfl)) ?_) | (refine Z0a ?_ (Or.inl ⟨by rfl,fun w9=>?_⟩) ?_;rotate_left 1;go_simp;with_reducible rfl) | (refine Z06 ?_ (((Zi2 _ _).drew)) (Or.inl ⟨by rfl,fun w9 hw9=>?_⟩) ?_;rotate_left 1;obtain ⟨hc9,hf9⟩:=Z0e hw9;go_simp;with_reducible rfl) | refine Z0a undef (Or.inr ⟨by rfl,rfl⟩) ?_ | refine Z06 undef (((Zi2 _ _).drew)) (Or.inr ⟨by rfl,rfl⟩) ?_);go_frame));refine Z0z ?_;simp only [Z00];refine hKK _ _ ?_;clear hKK KK;have HSL:=hid (HSK.out.new_ HB9.out);cases va
           · go_wp2_with fail
             go_roundw
             case rel=>exact ⟨i+1,by go_num,by omega,by rw [HBM.out];rfl,HSL.out⟩
             case measure=>simp [intOf]<;>omega
           · go_wp2_with fail
             go_roundw
             case rel=>exact ⟨i+1,by go_num,by omega,by rw [HBM.out];rfl,HSL.out⟩
             case measure=>simp [intOf]<;>omega
     · skip
       (obtain rfl:i=left.length:=by omega);obtain ⟨bs,hbs⟩ : ∃bs,bs=Z38 ns left left.length:=⟨_,rfl⟩;have HBS:=hid (show Zbp ns left=bs from hbs.symm);rw [← hbs];clear hbs;have jz : ¬(left.length:Int)<(left.length:Int):=by omega
       cases bs with
       | none=>
         have HOV:=hid (show Z2v l=none by
          rw [← HLV.out];obtain ⟨q,hq⟩ : ∃q,left.length=q+1:=⟨left.length - 1,by omega⟩;rw [hq]
          exact Z7g (by intro e;rw [e] at he;exact he rfl) HBS.out)
         dsimp only [Z9t];(go_wp2_with fail);exact bodyPost_ret (v:=.tuple #[.slice none 0 0,.pointer none,.bool false]) (by simp [results,Tryz.results61,go_sem, *]) rfl (Z3m.no HOV.out HS.out.bel)
       | some k=>
         have hkl:=Z4f HBS.out;dsimp only [Z9t];have hlt:=hkl.2;obtain ⟨y,hy⟩ : ∃y,y=left[k]:=⟨_,rfl⟩;have HY:=hid hy;obtain ⟨g,off,hAA,hgl,hrg⟩:=HS.out.at_ hlt;rw [← hy] at hrg;subst hAA;have HRG:=hid (show wr.rangeAt g (off+k*12) [.int .i64 y.id.kind,.string y.id.text,.int .i64 y.id.n,.int .i64 y.attr.kind,.string y.attr.text,.int .i64 y.attr.n,.int .i64 y.value.kind,.string y.value.text,.int .i64 y.value.n,.bool y.acc,.bool y.goal,.int .i64 y.tag] from hrg);have HTH:=hid (show (wr.alloc (.cells #[.int .i64 0,.string ⟨#[]⟩,.int .i64 0,.int .i64 0,.string ⟨#[]⟩,.int .i64 0,.int .i64 0,.string ⟨#[]⟩,.int .i64 0,.bool false,.bool false,.int .i64 0] 55)).there wr.heap.size 0 (#[.int .i64 y.id.kind,.string y.id.text,.int .i64 y.id.n,.int .i64 y.attr.kind,.string y.attr.text,.int .i64 y.attr.n,.int .i64 y.value.kind,.string y.value.text,.int .i64 y.value.n,.bool y.acc,.bool y.goal,.int .i64 y.tag]:Array Value).size from (Blk.new wr 55 #[.int .i64 0,.string ⟨#[]⟩,.int .i64 0,.int .i64 0,.string ⟨#[]⟩,.int .i64 0,.int .i64 0,.string ⟨#[]⟩,.int .i64 0,.bool false,.bool false,.int .i64 0]).there);obtain ⟨W5,hW5⟩ : ∃W5,W5=(wr.alloc (.cells #[.int .i64 0,.string ⟨#[]⟩,.int .i64 0,.int .i64 0,.string ⟨#[]⟩,.int .i64 0,.int .i64 0,.string ⟨#[]⟩,.int .i64 0,.bool false,.bool false,.int .i64 0] 55)).setCells wr.heap.size 0 [.int .i64 y.id.kind,.string y.id.text,.int .i64 y.id.n,.int .i64 y.attr.kind,.string y.attr.text,.int .i64 y.attr.n,.int .i64 y.value.kind,.string y.value.text,.int .i64 y.value.n,.bool y.acc,.bool y.goal,.int .i64 y.tag]:=⟨_,rfl⟩;have HW5:=hid hW5;have HRG5:=hid (show W5.rangeAt wr.heap.size 0 [.int .i64 y.id.kind,.string y.id.text,.int .i64 y.id.n,.int .i64 y.attr.kind,.string y.attr.text,.int .i64 y.attr.n,.int .i64 y.value.kind,.string y.value.text,.int .i64 y.value.n,.bool y.acc,.bool y.goal,.int .i64 y.tag] by rw [hW5];exact Zi6 _ _ _ _ HTH.out);have HK5:=hid (show Blk W5 wr.heap.size 55 #[.int .i64 y.id.kind,.string y.id.text,.int .i64 y.id.n,.int .i64 y.attr.kind,.string y.attr.text,.int .i64 y.attr.n,.int .i64 y.value.kind,.string y.value.text,.int .i64 y.value.n,.bool y.acc,.bool y.goal,.int .i64 y.tag] from Z1n (zs:=[.int .i64 0,.string ⟨#[]⟩,.int .i64 0,.int .i64 0,.string ⟨#[]⟩,.int .i64 0,.int .i64 0,.string ⟨#[]⟩,.int .i64 0,.bool false,.bool false,.int .i64 0]) (vs:=[.int .i64 y.id.kind,.string y.id.text,.int .i64 y.id.n,.int .i64 y.attr.kind,.string y.attr.text,.int .i64 y.attr.n,.int .i64 y.value.kind,.string y.value.text,.int .i64 y.value.n,.bool y.acc,.bool y.goal,.int .i64 y.tag]) rfl hW5 HRG5.out);have HB5:=hid (show Below wr.heap.size wr W5 by rw [hW5];exact Below.setCells' _ _ ((Zi2 _ _).alloc (Zi3 _) _) (Zi3 _));clear hW5 hrg hy;have HYI:=hid (show left[k]? = some y by rw [HY.out];exact Zic hlt);(have hk1:(0:Int)≤(k:Int):=by omega);(have hk2:(k:Int)<(left.length:Int):=by omega);have hk3 : ¬(k:Int)<0:=by omega
         go_upto_region 16 with (first
         | (with_reducible refine wpList_load_mid rfl 55 _ rfl g (off+k*12) rfl _ _ HRG.out Tryz.underlying55 rfl (by kernel_rfl) ?_)
         | ((with_reducible refine wpList_store_mid rfl 55 _ _ rfl wr.heap.size 0 #[.int .i64 y.id.kind,.string y.id.text,.int .i64 y.id.n,.int .i64 y.attr.kind,.string y.attr.text,.int .i64 y.attr.n,.int .i64 y.value.kind,.string y.value.text,.int .i64 y.value.n,.bool y.acc,.bool y.goal,.int .i64 y.tag] rfl rfl HTH.out (by kernel_rfl) (by kernel_rfl) ?_);rw [← HW5.out]))
         have HSE:=hid hlt;obtain ⟨dk,hdk⟩ : ∃x,x=left.drop (k+1):=⟨_,rfl⟩;obtain ⟨As,hAs⟩ : ∃As:Option Addr,As=(if cL=k+1 then some ⟨g,off,none⟩ else (some (⟨g,off,none⟩:Addr)).map (·.add ((k+1)*12))):=⟨_,rfl⟩;(have hdl:left.length - (k+1)=dk.length:=by rw [hdk,List.length_drop]);(have hcl2:k<cL:=by omega);have hsl1 : ∀Y,(Instr.slice 84 (.slice (some ⟨g,off,none⟩) left.length cL) none (some (.int .i64 (k:Int))) none).run Tryz.prog Y = .ok (.slice (some ⟨g,off,none⟩) k cL) Y:=fun Y=>Zc4 _ (by omega) Y;(have hsl2 : ∀Y,(Instr.slice 84 (.slice (some ⟨g,off,none⟩) left.length cL) (some (.int .i64 ((k:Int)+1))) none none).run Tryz.prog Y = .ok (.slice As dk.length (cL - (k+1))) Y:=fun Y=>by rw [← hdl,hAs];exact Z9e (j:=k+1) _ (by omega) Y);have v1:IntKind.i64.wrap ((k:Int)+1)=(k:Int)+1:=Zih _ (by omega);have HS5:=hid (HS.out.new_ HB5.out);have HDK:=hid (show Z0h W5 12 Elem.cells As (cL - (k+1)) dk by rw [hdk,hAs];exact (Z08 Elem.cells_length HS5.out.lo).suffixE (k+1) (by omega));have HTK:=hid (show W5.ownsRow 0 55 12 (.slice (some ⟨g,off,none⟩) k cL) k ((left.take k).flatMap Elem.cells) from Zdw HS5.out.lo rfl hlt);have HDE:=hid hdk;(have hdl1:dk.length≤300:=by omega);(have hkl1:k≤300:=by omega);clear hdk hAs hdl hkl;have HS5D:=hid (HS5.out.new_ ((Zi2 W5.heap.size W5).drew));refine Z05 (fun w9=>Below W5.heap.size W5 w9) [(0,0),(1,0),(2,0),(3,0),(4,0),(5,0),(6,0),(7,2),(8,0)] (by kernel_rfl) (by kernel_rfl) (fun KK hKK=>?_);simp only [Z02,Zib,Zi5,Zi9,Zi8,Zi7,Zif];(repeat ((first | (refine Z0a ?_ (Or.inl ⟨by rfl,fun w9=>?_⟩) ?_;rotate_left 1;go_simp;with_reducible rfl) | (refine Z06 ?_ (((Zi2 _ _).drew)) (Or.inl ⟨by rfl,fun w9 hw9=>?_⟩) ?_;rotate_left 1;obtain ⟨hc9,hf9⟩:=Z0e hw9;go_simp;with_reducible rfl) | refine Z0a undef (Or.inr ⟨by rfl,rfl⟩) ?_ | refine Z06 undef (((Zi2 _ _).drew)) (Or.inr ⟨by rfl,rfl⟩) ?_);go_frame));refine Z2p (by kernel_rfl) (fun K9 hK9=>?_);refine Z0q _ (by rfl) _ _ _ (by rfl) 55 i0 _ 12 112 Tryz.underlying84 hi0 hz0 hz1 hz2 rfl (by omega) (.slice (some ⟨g,off,none⟩) k cL) k ((left.take k).flatMap Elem.cells) (by rfl) (Zdy HTK.out) As dk.length (cL - (k+1)) (dk.flatMap Elem.cells) (by rfl) (Z13 Elem.cells_length _) ((HDK.out.drew).news Elem.cells_length (by omega)) (Z54 _) (by unfold maxLen;omega) (by omega) ?_;intro v2 w7 hown hgr hnil hat;rw [HDE.out] at hown;obtain ⟨A7,c7,rfl,hs7,hf7⟩:=HS5D.out.cut hlt hown hgr hat;obtain ⟨lk,hlk⟩ : ∃lk,lk=left.eraseIdx k:=⟨_,rfl⟩;rw [← hlk] at hs7 ⊢;have HLK:=hid hlk;have HS7:=hid hs7;have HF7:=hid hf7;clear hown hgr hnil hat hs7 hf7 hlk;refine hK9 _ _ ?_;clear hK9 K9;(repeat ((first | (refine Z0a ?_ (Or.inl ⟨by rfl,fun w9=>?_⟩) ?_;rotate_left 1;go_simp;with_reducible rfl) | (refine Z06 ?_ (((Zi2 _ _).drew)) (Or.inl ⟨by rfl,fun w9 hw9=>?_⟩) ?_;rotate_left 1;obtain ⟨hc9,hf9⟩:=Z0e hw9;go_simp;with_reducible rfl) | refine Z0a undef (Or.inr ⟨by rfl,rfl⟩) ?_ | refine Z06 undef (((Zi2 _ _).drew)) (Or.inr ⟨by rfl,rfl⟩) ?_);go_frame));refine Z0z ?_;simp only [Z00];refine hKK _ _ ?_;clear hKK KK;have HKX:=hid (show w7.heap.size≥W5.heap.size∧Blk w7 wr.heap.size 55 #[.int .i64 y.id.kind,.string y.id.text,.int .i64 y.id.n,.int .i64 y.attr.kind,.string y.attr.text,.int .i64 y.attr.n,.int .i64 y.value.kind,.string y.value.text,.int .i64 y.value.n,.bool y.acc,.bool y.goal,.int .i64 y.tag] from ⟨HF7.out.size,(HK5.out.drew).fr HF7.out (fun ⟨a,ha,e⟩=>by cases ha;dsimp only at e;omega)⟩);have HDX:=hid (show ¬D wr.heap.size from fun hd=>by have:=HS.out.nm.lt _ hd;omega);have HRX:=hid (show w7.rangeAt wr.heap.size 0 [.int .i64 y.id.kind,.string y.id.text,.int .i64 y.id.n,.int .i64 y.attr.kind,.string y.attr.text,.int .i64 y.attr.n,.int .i64 y.value.kind,.string y.value.text,.int .i64 y.value.n,.bool y.acc,.bool y.goal,.int .i64 y.tag] from HKX.out.2.range);obtain ⟨W8,hW8⟩ : ∃W8,W8=w7.alloc (.cells #[.int .i64 y.id.kind,.string y.id.text,.int .i64 y.id.n,.int .i64 y.attr.kind,.string y.attr.text,.int .i64 y.attr.n,.int .i64 y.value.kind,.string y.value.text,.int .i64 y.value.n,.bool y.acc,.bool y.goal,.int .i64 y.tag] 55):=⟨_,rfl⟩
         have HW8:=hid hW8;(have hb8:Below w7.heap.size w7 W8:=by rw [hW8];exact (Zi2 _ _).alloc (Zi3 _) _);have HS8:=hid (HS7.out.new_ hb8);have HK8:=hid (HKX.out.2.new_ hb8);have HN8:=hid (show 0<1→∃ad,(some (⟨w7.heap.size,0,none⟩:Addr))=some ad∧∀j u,([y].flatMap Elem.cells)[j]? = some u→W8.cell? (ad.add j)=some u from fun _=>⟨_,rfl,by rw [hW8];exact Zii (heap_alloc_new _ _)⟩);(have ho8:out.length≤300:=by omega);clear hW8 hb8 v1 hsl1 hsl2
         go_upto_region 18 with (first
         | (with_reducible refine wpList_load_mid rfl 55 _ rfl wr.heap.size 0 rfl _ _ HRX.out Tryz.underlying55 rfl (by kernel_rfl) ?_)
         | (at_builtin;rw [← HW8.out];refine Z03 W8 rfl (.tmp 64) (.tmp 66) 84 rfl 55 i0 _ 12 112 Tryz.underlying84 hi0 hz0 hz1 hz2 rfl (by omega) (.slice AO out.length cO) out.length (out.flatMap Elem.cells) rfl HS8.out.oo (some ⟨w7.heap.size,0,none⟩) 1 1 ([y].flatMap Elem.cells) rfl rfl HN8.out (Z54 _) (by unfold maxLen;omega) (by omega) ?_;intro v1 w9 hown1 hg1 hnil1 hat1;obtain ⟨A9,c9,rfl,hs9,hf9⟩:=HS8.out.more hown1 hg1 hat1;obtain ⟨ol,hol⟩ : ∃ol,ol=out ++ [y]:=⟨_,rfl⟩;rw [← hol] at hs9 ⊢;have HOL:=hid hol;have HS9:=hid hs9;have HF9:=hid hf9;clear hown1 hg1 hnil1 hat1 hs9 hf9 hol))
         have HK9:=hid (show Blk w9 wr.heap.size 55 #[.int .i64 y.id.kind,.string y.id.text,.int .i64 y.id.n,.int .i64 y.attr.kind,.string y.attr.text,.int .i64 y.attr.n,.int .i64 y.value.kind,.string y.value.text,.int .i64 y.value.n,.bool y.acc,.bool y.goal,.int .i64 y.tag] from HK8.out.fr HF9.out (fun ⟨a,ha,e⟩=>by have h1:=Z4x HS.out.oo a ha;omega));have HP1:=hid (Za8 y.id w9 HS9.out.nm (by omega));have k0:w9.cell? ⟨wr.heap.size,0,none⟩=some (.int .i64 y.id.kind):=(HK9.out.cell 0).trans rfl;have k1:w9.cell? ⟨wr.heap.size,1,none⟩=some (.string y.id.text):=(HK9.out.cell 1).trans rfl;have k2:w9.cell? ⟨wr.heap.size,2,none⟩=some (.int .i64 y.id.n):=(HK9.out.cell 2).trans rfl;have kz:=HK9.out.lt;(go_wp2_with fail);refine HP1.out.mono ?_;rintro e w10 ⟨rfl,hp10⟩
         have HK10:=hid (show Blk w10 wr.heap.size 55 #[.int .i64 y.id.kind,.string y.id.text,.int .i64 y.id.n,.int .i64 y.attr.kind,.string y.attr.text,.int .i64 y.attr.n,.int .i64 y.value.kind,.string y.value.text,.int .i64 y.value.n,.bool y.acc,.bool y.goal,.int .i64 y.tag] by
          obtain ⟨_,_,_,_,hf⟩:=hp10
          exact HK9.out.fr hf HDX.out)
         obtain ⟨D2,hs10⟩:=HS9.out.put hp10;have HS10:=hid hs10;clear hp10 hs10 k0 k1 k2 kz;have k6:w10.cell? ⟨wr.heap.size,6,none⟩=some (.int .i64 y.value.kind):=(HK10.out.cell 6).trans rfl;have k7:w10.cell? ⟨wr.heap.size,7,none⟩=some (.string y.value.text):=(HK10.out.cell 7).trans rfl;have k8:w10.cell? ⟨wr.heap.size,8,none⟩=some (.int .i64 y.value.n):=(HK10.out.cell 8).trans rfl;have kz:=HK10.out.lt;have HLL:=hid (show lk.length+1=left.length by rw [HLK.out];exact Z8n HYI.out);have HOO:=hid (show ol.length=out.length+1 by rw [HOL.out];simp)
         have HNX:=hid (show ∀nn,nn=Z49 ns y→lk.length+ol.length≤300∧nn.length≤2*ol.length∧Z5x lk.length nn lk ol=Z2v l from fun nn hnn=>by
          have h1:=HLL.out;have h2:=HOO.out;have h3:=Z7k ns y;refine ⟨by omega,by rw [hnn];omega,?_⟩
          rw [← HLV.out,show left.length=lk.length+1 from h1.symm,Z7h HBS.out HYI.out,hnn,HLK.out,HOL.out])
         have hpl:=Z57 ns y.id;by_cases hv1:y.value.kind=1
         · have HP2:=hid (Za8 y.value w10 HS10.out.nm (by omega))
           have HNE:=hid (HNX.out (putN (putN ns y.id) y.value) (by rw [Z49,if_pos hv1]));(have e1:(y.value.kind == 1)=true:=by simp [hv1]);(have e2:decide (y.value.kind=1)=true:=by simp [hv1]);clear hv1;(go_wp2_with fail);refine HP2.out.mono ?_;rintro e w11 ⟨rfl,hp11⟩;obtain ⟨D3,hs11⟩:=HS10.out.put hp11;have HS11:=hid hs11;clear hp11 hs11 k6 k7 k8 kz;(go_wp2_with fail);go_roundw
           case rel=>exact ⟨lk,ol,_,A7,c7,A9,c9,D3,rfl,rfl,HS11.out,HNE.out⟩
           case measure=>have:=HLL.out;show lk.length<left.length;omega
         · have HNE:=hid (HNX.out (putN ns y.id) (by rw [Z49,if_neg hv1]))
           (have e1:(y.value.kind == 1)=false:=by simp [hv1]);(have e2:decide (y.value.kind=1)=false:=by simp [hv1]);(go_wp2_with fail);go_roundw
           case rel=>exact ⟨lk,ol,_,A7,c7,A9,c9,D2,rfl,rfl,HS10.out,HNE.out⟩
           case measure=>have:=HLL.out;show lk.length<left.length;omega
end
section
open Go.RowKit
theorem Z2y (x y:Sym) (W:World):(binOp .eql 23 (.agg #[.int .i64 x.kind,.string x.text,.int .i64 x.n]) (.agg #[.int .i64 y.kind,.string y.text,.int .i64 y.n])).run Tryz.prog W = .ok (.bool (decide (x=y))) W:=by
 rw [run_eql_struct];go_simp;by_cases h:x=y
 · subst h;simp
 · have h2 : ¬(x.kind=y.kind∧x.text.toList=y.text.toList∧x.n=y.n):=fun ⟨h1,h2,h3⟩=>h (Sym.ext' h1 (toList_inj h2) h3)
   rw [Zi4 h]
   split
   · split
     · split
       · exact absurd ⟨by assumption,by assumption,by assumption⟩ h2
       · rfl
     · rfl
   · rfl
theorem Z6j (x y:Sym) (W:World):(binOp .neq 23 (.agg #[.int .i64 x.kind,.string x.text,.int .i64 x.n]) (.agg #[.int .i64 y.kind,.string y.text,.int .i64 y.n])).run Tryz.prog W = .ok (.bool (!decide (x=y))) W:=by
 rw [run_neq_struct];go_simp;by_cases h:x=y
 · subst h;simp
 · have h2 : ¬(x.kind=y.kind∧x.text.toList=y.text.toList∧x.n=y.n):=fun ⟨h1,h2,h3⟩=>h (Sym.ext' h1 (toList_inj h2) h3)
   rw [Zi4 h]
   split
   · split
     · split
       · exact absurd ⟨by assumption,by assumption,by assumption⟩ h2
       · rfl
     · rfl
   · rfl
attribute [local go_sem] Z2y Z6j
theorem Zhv {w:World} {A:Option Addr} {c k:Nat} {l:List Sym} (h:Z0h w 3 Sym.cells A c l) (hk:k<l.length) : ∃g off,A=some ⟨g,off,none⟩∧g<w.heap.size∧
 w.cell? ⟨g,off+k*3,none⟩=some (.int .i64 l[k].kind)∧w.cell? ⟨g,off+k*3+1,none⟩=some (.string l[k].text)∧w.cell? ⟨g,off+k*3+2,none⟩=some (.int .i64 l[k].n):=by
 obtain ⟨g,off,hA,hg,hc⟩:=h.at_ hk;exact ⟨g,off,hA,hg,by simpa using hc 0 _ rfl,by simpa using hc 1 _ rfl,by simpa using hc 2 _ rfl⟩
end
section
open Go.RowKit
attribute [local go_sem] Z2y Z6j
end
section
open Go.RowKit
theorem Elem.ext' : ∀{x y:Elem},x.id=y.id→x.attr=y.attr→x.value=y.value→x.acc=y.acc→x.goal=y.goal→x.tag=y.tag→x=y
 | ⟨_,_,_,_,_,_⟩,⟨_,_,_,_,_,_⟩,rfl,rfl,rfl,rfl,rfl,rfl=>rfl
instance decElem22:DecidableEq Elem:=fun a b=>decidable_of_iff (a.id=b.id∧a.attr=b.attr∧a.value=b.value∧a.acc=b.acc∧a.goal=b.goal∧a.tag=b.tag) ⟨fun ⟨h1,h2,h3,h4,h5,h6⟩=>Elem.ext' h1 h2 h3 h4 h5 h6,fun h=>by subst h;exact ⟨rfl,rfl,rfl,rfl,rfl,rfl⟩⟩
end
section
open Go.RowKit Go.Shelf
attribute [local go_sem] Oper.semAt_some
set_option linter.unusedSimpArgs false
section
variable {X w w':World} {ns:List Sym} {left out:List Elem} {AL:Option Addr} {cL:Nat} {AO:Option Addr} {cO:Nat} {AN:Option Addr} {cN:Nat}
end
end
section
open Go.RowKit
def Z2n (c:UInt8):Bool:=decide (97≤c.toNat) && decide (c.toNat≤122)
def Z20 (c:UInt8):Bool:=decide (65≤c.toNat) && decide (c.toNat≤90)
def Z4l (c:UInt8):Bool:=decide (48≤c.toNat) && decide (c.toNat≤57)
def Z73 (c:UInt8):Bool:=Z2n c || Z4l c || c.toNat == 45 || c.toNat == 95
def Z18 (t:ByteArray):Bool:=decide (1≤t.size) && decide (t.size≤32) && t.data.toList.head?.any Z2n && t.data.toList.all Z73
theorem Z5k {t:ByteArray}:Z18 t=true↔∃h:0<t.size,t.size≤32∧Z2n t[0]=true∧∀k,(h:k<t.size)→Z73 t[k]=true:=by
 unfold Z18;rw [Zir,Zir,Zir,decide_eq_true_iff,decide_eq_true_iff,Zj7];have hs:t.data.toList.length=t.size:=Array.length_toList;constructor
 · rintro ⟨⟨⟨h1,h2⟩,h3⟩,h4⟩
   refine ⟨h1,h2,?_,fun k h=>h4 _ ?_⟩
   · rw [List.head?_eq_getElem?,Zic (by omega)] at h3
     exact (by simpa only [Option.any_some,Array.getElem_toList] using h3:Z2n t.data[0]=true)
   · have:t[k]=t.data.toList[k]'(by omega):=by rw [Array.getElem_toList];rfl
     rw [this];exact Zin _
 · rintro ⟨h1,h2,h3,h4⟩
   refine ⟨⟨⟨h1,h2⟩,?_⟩,fun x hx=>?_⟩
   · rw [List.head?_eq_getElem?,Zic (by omega)]
     rw [Option.any_some,Array.getElem_toList];exact h3
   · obtain ⟨k,hk,rfl⟩:=List.getElem_of_mem hx
     have:=h4 k (by omega);rw [Array.getElem_toList];exact this
theorem Z2k {t:ByteArray} (h : ¬∃h:0<t.size,t.size≤32∧Z2n t[0]=true∧∀k,(h:k<t.size)→Z73 t[k]=true):Z18 t=false:=by
 cases e:Z18 t
 · rfl
 · exact absurd (Z5k.1 e) h
theorem Z8a (c:UInt8) (w:World):Calls Tryz.prog 191 #[.int .u8 (c.toNat:Int)] w fun e w'=>e = .returned (.bool (Z2n c))∧w=w':=by
 by_cases h1:97≤c.toNat
 · have t1:decide ((97:Int)≤(c.toNat:Int))=true:=by simp;omega
   by_cases h2:c.toNat≤122
   · have t2:decide ((c.toNat:Int)≤122)=true:=by simp;omega
     (have HF:Hid (Z2n c=true):=by simp [Hid,Z2n,h1,h2]);clear h1 h2;go_enter Tryz.func191,Tryz.ntmps191;go_wp2;go_ret;exact ⟨by rw [HF.out];rfl,rfl⟩
   · have t2:decide ((c.toNat:Int)≤122)=false:=by simp;omega
     (have HF:Hid (Z2n c=false):=by simp [Hid,Z2n,h2]);clear h1 h2;go_enter Tryz.func191,Tryz.ntmps191;go_wp2;go_ret;exact ⟨by rw [HF.out];rfl,rfl⟩
 · have t1:decide ((97:Int)≤(c.toNat:Int))=false:=by simp;omega
   (have HF:Hid (Z2n c=false):=by simp [Hid,Z2n,h1]);clear h1;go_enter Tryz.func191,Tryz.ntmps191;go_wp2;go_ret;exact ⟨by rw [HF.out];rfl,rfl⟩
theorem Zfe (c:UInt8) (w:World):Calls Tryz.prog 253 #[.int .u8 (c.toNat:Int)] w fun e w'=>e = .returned (.bool (Z20 c))∧w=w':=by
 by_cases h1:65≤c.toNat
 · have t1:decide ((65:Int)≤(c.toNat:Int))=true:=by simp;omega
   by_cases h2:c.toNat≤90
   · have t2:decide ((c.toNat:Int)≤90)=true:=by simp;omega
     (have HF:Hid (Z20 c=true):=by simp [Hid,Z20,h1,h2]);clear h1 h2;go_enter Tryz.func253,Tryz.ntmps253;go_wp2;go_ret;exact ⟨by rw [HF.out];rfl,rfl⟩
   · have t2:decide ((c.toNat:Int)≤90)=false:=by simp;omega
     (have HF:Hid (Z20 c=false):=by simp [Hid,Z20,h2]);clear h1 h2;go_enter Tryz.func253,Tryz.ntmps253;go_wp2;go_ret;exact ⟨by rw [HF.out];rfl,rfl⟩
 · have t1:decide ((65:Int)≤(c.toNat:Int))=false:=by simp;omega
   (have HF:Hid (Z20 c=false):=by simp [Hid,Z20,h1]);clear h1;go_enter Tryz.func253,Tryz.ntmps253;go_wp2;go_ret;exact ⟨by rw [HF.out];rfl,rfl⟩
theorem Zfb (c:UInt8) (w:World):Calls Tryz.prog 192 #[.int .u8 (c.toNat:Int)] w fun e w'=>e = .returned (.bool (Z4l c))∧w=w':=by
 by_cases h1:48≤c.toNat
 · have t1:decide ((48:Int)≤(c.toNat:Int))=true:=by simp;omega
   by_cases h2:c.toNat≤57
   · have t2:decide ((c.toNat:Int)≤57)=true:=by simp;omega
     (have HF:Hid (Z4l c=true):=by simp [Hid,Z4l,h1,h2]);clear h1 h2;go_enter Tryz.func192,Tryz.ntmps192;go_wp2;go_ret;exact ⟨by rw [HF.out];rfl,rfl⟩
   · have t2:decide ((c.toNat:Int)≤57)=false:=by simp;omega
     (have HF:Hid (Z4l c=false):=by simp [Hid,Z4l,h2]);clear h1 h2;go_enter Tryz.func192,Tryz.ntmps192;go_wp2;go_ret;exact ⟨by rw [HF.out];rfl,rfl⟩
 · have t1:decide ((48:Int)≤(c.toNat:Int))=false:=by simp;omega
   (have HF:Hid (Z4l c=false):=by simp [Hid,Z4l,h1]);clear h1;go_enter Tryz.func192,Tryz.ntmps192;go_wp2;go_ret;exact ⟨by rw [HF.out];rfl,rfl⟩
theorem Zdz (c:UInt8) (w:World):Calls Tryz.prog 182 #[.int .u8 (c.toNat:Int)] w fun e w'=>e = .returned (.bool (Z73 c))∧w=w':=by
 have HF:Hid (Z73 c=(((decide (97≤c.toNat) && decide (c.toNat≤122)) || (decide (48≤c.toNat) && decide (c.toNat≤57))) || decide (c.toNat=45) || decide (c.toNat=95))):=rfl;(have t1:decide ((97:Int)≤(c.toNat:Int))=decide (97≤c.toNat):=by apply decide_eq_decide.2;omega);(have t2:decide ((c.toNat:Int)≤122)=decide (c.toNat≤122):=by apply decide_eq_decide.2;omega);(have t3:decide ((48:Int)≤(c.toNat:Int))=decide (48≤c.toNat):=by apply decide_eq_decide.2;omega);(have t4:decide ((c.toNat:Int)≤57)=decide (c.toNat≤57):=by apply decide_eq_decide.2;omega);(have t5:((c.toNat:Int) == 45)=decide (c.toNat=45):=by rw [Zjf];simp;omega);(have t6:((c.toNat:Int) == 95)=decide (c.toNat=95):=by rw [Zjf];simp;omega);cases h1:decide (97≤c.toNat)<;>cases h2:decide (c.toNat≤122)<;>cases h3:decide (48≤c.toNat)<;>cases h4:decide (c.toNat≤57)<;>cases h5:decide (c.toNat=45)<;>cases h6:decide (c.toNat=95)
 all_goals
  rw [h1] at t1;rw [h2] at t2;rw [h3] at t3;rw [h4] at t4;rw [h5] at t5;rw [h6] at t6;have HF2:=HF.out;rw [h1,h2,h3,h4,h5,h6] at HF2;have HF3:=hid HF2;clear h1 h2 h3 h4 h5 h6 HF HF2;go_enter Tryz.func182,Tryz.ntmps182;go_wp2;go_ret;exact ⟨by rw [HF3.out];rfl,rfl⟩
theorem Z2s (t:ByteArray) (w:World):Calls Tryz.prog 154 #[.string t] w fun e w'=>e = .returned (.bool (Z18 t))∧w=w':=by
 by_cases h1:t.size<1
 · have t1:decide ((t.size:Int)<1)=true:=by simp;omega
   have HF:=hid (Z2k (t:=t) (fun ⟨h,_⟩=>by omega));clear h1;go_enter Tryz.func154,Tryz.ntmps154;go_wp2;go_ret;exact ⟨by rw [HF.out];rfl,rfl⟩
 (have t1:decide ((t.size:Int)<1)=false:=by simp;omega);by_cases h2:32<t.size
 · have t2:decide ((32:Int)<(t.size:Int))=true:=by simp;omega
   have HF:=hid (Z2k (t:=t) (fun ⟨h,h3,_⟩=>by omega));clear h1 h2;go_enter Tryz.func154,Tryz.ntmps154;go_wp2;go_ret;exact ⟨by rw [HF.out];rfl,rfl⟩
 (have t2:decide ((32:Int)<(t.size:Int))=false:=by simp;omega);(have h0:0<t.size:=by omega);(have h32:t.size≤32:=by omega);clear h1 h2;cases h3:Z2n t[0]
 · have HF:=hid (Z2k (t:=t) (fun ⟨h,_,h4,_⟩=>by rw [h3] at h4;cases h4))
   go_enter Tryz.func154,Tryz.ntmps154;(go_wp2_with (go_at_call 191;refine (Z8a _ _).mono ?_;rintro e w' ⟨rfl,rfl⟩));go_ret;exact ⟨by rw [HF.out];rfl,rfl⟩
 go_enter Tryz.func154,Tryz.ntmps154;(go_wp2_with (go_at_call 191;refine (Z8a _ _).mono ?_;rintro e w' ⟨rfl,rfl⟩));have H3:=hid h3;clear h3 t1 t2
 go_loop [3] (fun s=>∃i:Nat,s = .int .i64 i∧1≤i∧i≤t.size∧∀k,(h:k<t.size)→k<i→Z73 t[k]=true) (fun s=>t.size - (intOf s).toNat)
 case atStart=>exact ⟨1,rfl,Zi3 _,h0,fun k h hk=>by obtain rfl:k=0:=by omega
                                                    simp [Z73,H3.out]⟩
 case round=>
  obtain ⟨i,rfl,hi1,hi,hall⟩:=hrel;have HALL:=hid hall;clear hall;by_cases hlt:i<t.size
  · have HP:Hid (Z73 t[i]=(Z2n t[i] || Z4l t[i] || decide (t[i].toNat=45) || decide (t[i].toNat=95))):=rfl
    (have t5:((t[i].toNat:Int) != 45) = !decide (t[i].toNat=45):=by rw [Zjf];simp;omega);(have t6:((t[i].toNat:Int) != 95) = !decide (t[i].toNat=95):=by rw [Zjf];simp;omega);cases hs:Z2n t[i]<;>cases hd:Z4l t[i]<;>cases h5:decide (t[i].toNat=45)<;>cases h6:decide (t[i].toNat=95)
    all_goals
     rw [h5] at t5;rw [h6] at t6;simp only [Bool.not_true,Bool.not_false] at t5 t6;have HF1:=HP.out;rw [hs,hd,h5,h6] at HF1;have HF2:=hid HF1;clear h5 h6 HP HF1;go_wp2_with (first | (go_at_call 191;refine (Z8a _ _).mono ?_;rintro e w' ⟨rfl,rfl⟩) | (go_at_call 192;refine (Zfb _ _).mono ?_;rintro e w' ⟨rfl,rfl⟩))
     first
      | (go_ret
         refine ⟨?_,rfl⟩
         rw [Z2k (t:=t) (fun ⟨_,_,_,h⟩=>by have h2:=h i hlt;rw [HF2.out] at h2;exact absurd h2 (by decide))];rfl)
      | (go_round
         case rel=>exact ⟨i+1,by go_num,by omega,by omega,fun k h hk=>by
          rcases Nat.lt_or_ge k i with h3 | h3
          · exact HALL.out k h h3
          · obtain rfl:k=i:=by omega
            rw [HF2.out];rfl⟩
         case measure=>simp [intOf]<;>omega)
  · have hie:i=t.size:=by omega
    subst hie;go_wp2;go_ret;exact ⟨by rw [Z5k.2 ⟨h0,h32,H3.out,fun k h=>HALL.out k h h⟩];rfl,rfl⟩
theorem Zg9 (t:ByteArray) (w:World):Calls Tryz.prog 137 #[.string t] w fun e w'=>e = .returned (.bool (Z18 t))∧w=w':=by
 by_cases h1:t.size<1
 · have t1:decide ((t.size:Int)<1)=true:=by simp;omega
   have HF:=hid (Z2k (t:=t) (fun ⟨h,_⟩=>by omega));clear h1;go_enter Tryz.func137,Tryz.ntmps137;go_wp2;go_ret;exact ⟨by rw [HF.out];rfl,rfl⟩
 (have t1:decide ((t.size:Int)<1)=false:=by simp;omega);by_cases h2:32<t.size
 · have t2:decide ((32:Int)<(t.size:Int))=true:=by simp;omega
   have HF:=hid (Z2k (t:=t) (fun ⟨h,h3,_⟩=>by omega));clear h1 h2;go_enter Tryz.func137,Tryz.ntmps137;go_wp2;go_ret;exact ⟨by rw [HF.out];rfl,rfl⟩
 (have t2:decide ((32:Int)<(t.size:Int))=false:=by simp;omega);(have h0:0<t.size:=by omega);(have h32:t.size≤32:=by omega);clear h1 h2;by_cases h3:t[0].toNat<97
 · have t3:decide ((t[0].toNat:Int)<97)=true:=by simp;omega
   have HF:=hid (Z2k (t:=t) (fun ⟨h,_,h4,_⟩=>by simp [Z2n] at h4;omega));clear h3;go_enter Tryz.func137,Tryz.ntmps137;go_wp2;go_ret;exact ⟨by rw [HF.out];rfl,rfl⟩
 (have t3:decide ((t[0].toNat:Int)<97)=false:=by simp;omega);by_cases h4:122<t[0].toNat
 · have t4:decide ((122:Int)<(t[0].toNat:Int))=true:=by simp;omega
   have HF:=hid (Z2k (t:=t) (fun ⟨h,_,h4,_⟩=>by simp [Z2n] at h4;omega));clear h3 h4;go_enter Tryz.func137,Tryz.ntmps137;go_wp2;go_ret;exact ⟨by rw [HF.out];rfl,rfl⟩
 (have t4:decide ((122:Int)<(t[0].toNat:Int))=false:=by simp;omega);(have h5:Z2n t[0]=true:=by simp [Z2n];omega);have H5:=hid h5;clear h3 h4 h5;go_enter Tryz.func137,Tryz.ntmps137;go_wp2;clear t1 t2 t3 t4
 go_loop [3] (fun s=>∃i:Nat,s = .int .i64 i∧i≤t.size∧∀k,(h:k<t.size)→k<i→Z73 t[k]=true) (fun s=>t.size - (intOf s).toNat)
 case atStart=>exact ⟨0,rfl,Nat.zero_le _,fun k h hk=>by omega⟩
 case round=>
  obtain ⟨i,rfl,hi,hall⟩:=hrel;have HALL:=hid hall;clear hall;by_cases hlt:i<t.size
  · cases hp:Z73 t[i]
    · go_wp2_with (go_at_call 182;refine (Zdz _ _).mono ?_;rintro e w' ⟨rfl,rfl⟩)
      go_ret;refine ⟨?_,rfl⟩;rw [Z2k (t:=t) (fun ⟨_,_,_,h⟩=>by have h2:=h i hlt;rw [hp] at h2;cases h2)];rfl
    · have HP:=hid hp
      go_wp2_with (go_at_call 182;refine (Zdz _ _).mono ?_;rintro e w' ⟨rfl,rfl⟩)
      go_round
      case rel=>exact ⟨i+1,by go_num,by omega,fun k h hk=>by
              rcases Nat.lt_or_ge k i with h3 | h3
              · exact HALL.out k h h3
              · obtain rfl:k=i:=by omega
                exact HP.out⟩
      case measure=>simp [intOf]<;>omega
  · have hie:i=t.size:=by omega
    subst hie;go_wp2;go_ret;exact ⟨by rw [Z5k.2 ⟨h0,h32,H5.out,fun k h=>HALL.out k h h⟩];rfl,rfl⟩
def Z5h (n:Nat):ByteArray:=⟨#[UInt8.ofNat (48+n)]⟩
theorem Zho (n:Nat) (h:n<10) (W:World) (g:Nat) (hc:W.cell? ⟨g,0,none⟩=some (.int .u8 (48+(n:Int)))):(convert 118 9 (.slice (some ⟨g,0,none⟩) 1 1)).run Tryz.prog W = .ok (.string (Z5h n)) W:=
 Lib.run_convert_whole (P:=Tryz.prog) W 118 5 9 Tryz.underlying118 Tryz.underlying5 Tryz.underlying9 g 0 (Z5h n) (fun i hi=>by
  (have:i=0:=by have:(Z5h n).size=1:=rfl;omega);subst this;rw [Nat.add_zero,hc];(have e:(Z5h n)[0].toNat=48+n:=by show (UInt8.ofNat (48+n)).toNat=48+n;simp;omega);rw [e]
  simp) 1
def decB (n:Nat):ByteArray:=if n<10 then Z5h n else decB (n / 10)++Z5h (n % 10)
theorem Z5i (n:Nat):(Z5h n).size=1:=rfl
def Zfg (f:UInt8→Bool) (t:ByteArray):Bool:=t.data.toList.head?.any f
theorem Zaz {f:UInt8→Bool} {t:ByteArray} (h:0<t.size):Zfg f t=f t[0]:=by
 have hs:t.data.toList.length=t.size:=Array.length_toList;unfold Zfg;rw [List.head?_eq_getElem?,Zic (by omega),Option.any_some,Array.getElem_toList];rfl
def Z1p (s:Sym):Bool:=
 if s.kind=1 then decide (s.text.size=1) && Zfg Z20 s.text && decide (1≤s.n) && decide (s.n≤1048576)
 else if s.kind=2 then decide (s.text.toList = []) && decide (-2147483647≤s.n) && decide (s.n≤2147483647)
 else if s.kind=3 then decide (s.n=0) && Z18 s.text else false
theorem Z0x {a b:Bool} (h:a=b):Ending.returned (.bool a) = .returned (.bool b):=by rw [h]
theorem Zgc (s:Sym) (w:World):Calls Tryz.prog 242 #[.agg #[.int .i64 s.kind,.string s.text,.int .i64 s.n]] w fun e w'=>e = .returned (.bool (Z1p s))∧Below w.heap.size w w':=by
 obtain ⟨k,t,n⟩:=s;dsimp only;by_cases k1:k=1
 · subst k1
   by_cases a1:t.size=1
   · have h0:0<t.size:=by omega
     (have t1:((t.size:Int) == 1)=true:=by simp;omega);have HV:=hid (show Z1p ⟨1,t,n⟩=(Z20 t[0] && decide (1≤n) && decide (n≤1048576)) by simp [Z1p,a1,Zaz h0]);go_enter Tryz.func242,Tryz.ntmps242;go_wp2_with (go_at_call 253;refine (Zfe _ _).mono ?_;rintro e w' ⟨rfl,rfl⟩)
     all_goals
      go_ret;refine ⟨?_,(Zi2 _ _).alloc (Zi3 _) _⟩;rw [HV.out]
      first | rfl | (refine Z0x ?_;simp_all;done) | (refine Z0x ?_;simp_all;omega) | (refine Z0x ?_;simp_all [Z20];done) | (refine Z0x ?_;simp_all [Z20];omega)
   · have t1:((t.size:Int) == 1)=false:=by simp;omega
     have HV:=hid (show Z1p ⟨1,t,n⟩=false by simp [Z1p,a1]);go_enter Tryz.func242,Tryz.ntmps242;go_wp2_with fail
     all_goals
      go_ret;refine ⟨?_,(Zi2 _ _).alloc (Zi3 _) _⟩;rw [HV.out];rfl
 · by_cases k2:k=2
   · subst k2
     have HV:=hid (show Z1p ⟨2,t,n⟩=(decide (t.toList = []) && decide (-2147483647≤n) && decide (n≤2147483647)) by simp [Z1p]);clear k1;go_enter Tryz.func242,Tryz.ntmps242;go_wp2_with fail
     all_goals
      go_ret;refine ⟨?_,(Zi2 _ _).alloc (Zi3 _) _⟩;rw [HV.out]
      first | rfl | (refine Z0x ?_;simp_all;done) | (refine Z0x ?_;simp_all;omega) | (refine Z0x ?_;simp_all [Z20];done) | (refine Z0x ?_;simp_all [Z20];omega)
   · by_cases k3:k=3
     · subst k3
       have HV:=hid (show Z1p ⟨3,t,n⟩=(decide (n=0) && Z18 t) by simp [Z1p]);clear k1 k2;go_enter Tryz.func242,Tryz.ntmps242;go_wp2_with (go_at_call 154;refine (Z2s _ _).mono ?_;rintro e w' ⟨rfl,rfl⟩)
       all_goals
        go_ret;refine ⟨?_,(Zi2 _ _).alloc (Zi3 _) _⟩;rw [HV.out]
        first | rfl | (refine Z0x ?_;simp_all;done) | (refine Z0x ?_;simp_all;omega) | (refine Z0x ?_;simp_all [Z20];done) | (refine Z0x ?_;simp_all [Z20];omega)
     · have HV:=hid (show Z1p ⟨k,t,n⟩=false by simp [Z1p,k1,k2,k3])
       (have t1:(k == 1)=false:=by simp [k1]);(have t2:(k == 2)=false:=by simp [k2]);(have t3:(k == 3)=false:=by simp [k3]);clear k1 k2 k3;go_enter Tryz.func242,Tryz.ntmps242;go_wp2_with fail
       all_goals
        go_ret;refine ⟨?_,(Zi2 _ _).alloc (Zi3 _) _⟩;rw [HV.out];rfl
theorem Z6t (s:Sym) (w:World):Calls Tryz.prog 93 #[.agg #[.int .i64 s.kind,.string s.text,.int .i64 s.n]] w fun e w'=>e = .returned (.bool (Z1p s))∧Below w.heap.size w w':=by
 obtain ⟨k,t,n⟩:=s;dsimp only;by_cases k1:k=1
 · subst k1
   by_cases a1:t.size=1
   · have h0:0<t.size:=by omega
     (have t1:((t.size:Int) == 1)=true:=by simp;omega);have HV:=hid (show Z1p ⟨1,t,n⟩=(Z20 t[0] && decide (1≤n) && decide (n≤1048576)) by simp [Z1p,a1,Zaz h0]);go_enter Tryz.func93,Tryz.ntmps93;go_wp2_with (fail)
     all_goals
      go_ret;refine ⟨?_,(Zi2 _ _).alloc (Zi3 _) _⟩;rw [HV.out]
      first | rfl | (refine Z0x ?_;simp_all;done) | (refine Z0x ?_;simp_all;omega) | (refine Z0x ?_;simp_all [Z20];done) | (refine Z0x ?_;simp_all [Z20];omega)
   · have t1:((t.size:Int) == 1)=false:=by simp;omega
     have HV:=hid (show Z1p ⟨1,t,n⟩=false by simp [Z1p,a1]);go_enter Tryz.func93,Tryz.ntmps93;go_wp2_with fail
     all_goals
      go_ret;refine ⟨?_,(Zi2 _ _).alloc (Zi3 _) _⟩;rw [HV.out];rfl
 · by_cases k2:k=2
   · subst k2
     have HV:=hid (show Z1p ⟨2,t,n⟩=(decide (t.toList = []) && decide (-2147483647≤n) && decide (n≤2147483647)) by simp [Z1p]);clear k1;go_enter Tryz.func93,Tryz.ntmps93;go_wp2_with fail
     all_goals
      go_ret;refine ⟨?_,(Zi2 _ _).alloc (Zi3 _) _⟩;rw [HV.out]
      first | rfl | (refine Z0x ?_;simp_all;done) | (refine Z0x ?_;simp_all;omega) | (refine Z0x ?_;simp_all [Z20];done) | (refine Z0x ?_;simp_all [Z20];omega)
   · by_cases k3:k=3
     · subst k3
       have HV:=hid (show Z1p ⟨3,t,n⟩=(decide (n=0) && Z18 t) by simp [Z1p]);clear k1 k2;go_enter Tryz.func93,Tryz.ntmps93;go_wp2_with (go_at_call 137;refine (Zg9 _ _).mono ?_;rintro e w' ⟨rfl,rfl⟩)
       all_goals
        go_ret;refine ⟨?_,(Zi2 _ _).alloc (Zi3 _) _⟩;rw [HV.out]
        first | rfl | (refine Z0x ?_;simp_all;done) | (refine Z0x ?_;simp_all;omega) | (refine Z0x ?_;simp_all [Z20];done) | (refine Z0x ?_;simp_all [Z20];omega)
     · have HV:=hid (show Z1p ⟨k,t,n⟩=false by simp [Z1p,k1,k2,k3])
       (have t1:(k == 1)=false:=by simp [k1]);(have t2:(k == 2)=false:=by simp [k2]);(have t3:(k == 3)=false:=by simp [k3]);clear k1 k2 k3;go_enter Tryz.func93,Tryz.ntmps93;go_wp2_with fail
       all_goals
        go_ret;refine ⟨?_,(Zi2 _ _).alloc (Zi3 _) _⟩;rw [HV.out];rfl
theorem Z8p {α:Type} {cells:α→List Value} (hsz : ∀x,(cells x).length=1) (_h0:0<1) (l:List α) (k:Nat) (hk:k<l.length) (y:α) :
 setAll (l.flatMap cells) k (cells y)=(l.set k y).flatMap cells:=by
 have h:=Z62 hsz (by omega) l k hk y;rwa [Nat.mul_one] at h
abbrev Name:=ByteArray
def Name.cells (n:Name):List Value:=[.string n]
theorem Name.cells_length (n:Name):(Name.cells n).length=1:=rfl
def Z0k (a b:Name):Int:=Z26 a b
theorem Z2r:TC Z0k:=Zgo
theorem Zf8 (a b:Name) (w:World):Calls Tryz.prog 316 #[.string a,.string b] w fun e w'=>e = .returned (.int .i64 (Z0k a b))∧Below w.heap.size w w':=by
 go_enter Tryz.func316,Tryz.ntmps316;go_wp2
 all_goals (go_ret;refine ⟨?_,Zi2 _ _⟩;unfold Z0k Z26;simp_all)
end
section
def zS:Sym:=⟨0,⟨#[]⟩,0⟩
def Z6l (s:Sym):Bool:=decide (s=zS)
def Z5r (a:Z3t):Bool:=decide (a.var.toList = []) && Z6l a.sym
def Z3p (s:Sym):Bool:=decide (s.kind≠1) && Z1p s
def Z1t (t:Z0i):Bool:=
 if t.rel=8 then decide (t.var.toList = []) && Z6l t.sym && decide (1≤t.list.length) && decide (t.list.length≤8) && t.list.all Z3p
 else if t.rel<1∨7<t.rel∨0<t.list.length then false
 else if t.var.toList = [] then Z3p t.sym else Z18 t.var && Z6l t.sym
def Z37 (a:Z3t):Bool:=if a.var.toList = [] then Z3p a.sym else Z18 a.var && Z6l a.sym
def Z15 (c:Z0m) (deep:Nat):Int:=
 if c.kind=3 then (if c.goal=true∨c.id.toList≠[]∨0<c.attr.length∨0<c.value.length∨c.acc=true∨c.conds.length=0 then 9 else if 3≤deep then 8 else 0)
 else if c.kind=1∨c.kind=2 then
  (if 0<c.conds.length∨Z18 c.id=false∨c.attr.length=0 then 9 else if 4<c.attr.length∨4<c.value.length then 7 else if (c.attr.all Z1t && c.value.all Z1t)=false then 9 else 0)
 else 9
def Z5b (a:Z3t):Bool:=decide (a.var.toList = []) && decide (a.sym.kind=3)
def Z3k (t:Zcg):Bool:=
 if t.op<0∨3<t.op∨Z37 t.a=false then false
 else if t.op=0 then Z5r t.b else Z37 t.b && !Z5b t.a && !Z5b t.b
def Z94 (k:Int):Bool:=decide (k=8) || decide (k=9) || decide (k=10)
def actB (a:ActT):Bool:=
 if Z18 a.id=false∨Z37 a.attr=false∨Z3k a.value=false∨a.pref<1∨10<a.pref then false
 else if Z94 a.pref=true then Z37 a.other else Z5r a.other
def Z0y:Nat→Nat→List Z0m→List (Nat×Z0m)
 | 0,_,_=>[]
 | n+1,d,l=>l.flatMap fun c=>(d,c) :: Z0y n (d+1) c.conds
def Z1v (n:Nat) (p:Z35):Int×Int:=
 if Z18 p.name=false then (-1,2)
 else if (Z0y n 0 p.conds).length<1∨16<(Z0y n 0 p.conds).length∨p.acts.length<1∨16<p.acts.length then (-1,7)
 else match (Z0y n 0 p.conds).findIdx? (fun c=>decide (Z15 c.2 c.1≠0)) with
  | some k=>(k,(((Z0y n 0 p.conds)[k]?).map fun c=>Z15 c.2 c.1).getD 0)
  | none=>match p.acts.findIdx? (fun a=>!actB a) with
    | some i=>((Z0y n 0 p.conds).length+i,9)
    | none=>(-1,0)
abbrev Kn:=List ByteArray×List ByteArray
def metK (k:Kn) (v:ByteArray):Kn:=(put Z0k k.1 v,if has Z0k k.1 v=true then k.2 else k.2 ++ [v])
def hasK (k:Kn) (v:ByteArray):Bool:=has Z0k k.1 v
def Z1k:Kn→List Z0i→Bool×Kn
 | k,[]=>(true,k)
 | k,t :: l=>if t.rel=8∨t.var.toList = [] then Z1k k l else if t.rel=1 then Z1k (metK k t.var) l else if hasK k t.var=true then Z1k k l else (false,k)
def oneK (k:Kn) (c:Z0m):Bool×Kn:=
 let k1:=if c.goal=true then metK k c.id else k
 if hasK k1 c.id=true then (match Z1k k1 c.attr with | (true,k2)=>Z1k k2 c.value | (false,k2)=>(false,k2)) else (false,k1)
def Z1e:Nat→Kn→List Z0m→Int→Bool×Int×Kn
 | 0,k,_,at_=>(true,at_,k)
 | _+1,k,[],at_=>(true,at_,k)
 | n+1,k,c :: l,at_=>
   if c.kind=3 then
    (match Z1e n (k.1,[]) c.conds (at_+1) with
      | (true,a2,_)=>Z1e (n+1) k l a2
      | (false,a2,_)=>(false,a2,k))
   else
    (match oneK (if c.kind=1 then k else (k.1,[])) c with
      | (true,k2)=>Z1e (n+1) (if c.kind=1 then k2 else k) l (at_+1)
      | (false,_)=>(false,at_,k))
termination_by n _ l _=>(n,l.length)
def Z40 (k:Kn) (a:Z3t):Bool:=decide (a.var.toList≠[]) && !hasK k a.var
def actV (k:Kn) (a:ActT):Bool:=Z40 k a.attr || (decide (a.value.op≠0) && (Z40 k a.value.a || Z40 k a.value.b))
def Z24 (n:Nat) (p:Z35):Int×Int×List ByteArray:=
 if (Z1v n p).2≠0 then ((Z1v n p).1,(Z1v n p).2,[])
 else if (p.conds.head?.map Z0m.kind).getD 0≠1 then (0,9,[])
 else match Z1e n ([],[]) p.conds 0 with
  | (false,a,_)=>(a,6,[])
  | (true,a,k)=>match p.acts.findIdx? (actV k) with
    | some i=>(a+i,6,[])
    | none=>(-1,0,k.2)
end
end Go.Proofs.YtldndkngpdfpfaaGreat
