/-
  Texts put together: VaryA2, VaryA3, VaryA4, VaryA5, VaryA6.
-/
import Derived.Test.YtldndkngpdfpfaaGreatPEq
namespace Go.Proofs.YtldndkngpdfpfaaGreat
open Lib (hid)
set_option maxRecDepth 100000
set_option maxHeartbeats 32000000
section
open Go.RowKit Go.Shelf
attribute [local go_sem] Oper.semAt_some
set_option linter.unusedSimpArgs false
theorem Zdg {X:World} {nb mb:Nat} {ns:List Sym} {es:List Elem} {AO:Option Addr} {cO:Nat} {vcs:List VCo} {AC:Option Addr} {cC:Nat} {D:Nat→Prop} (s:Sym) (w:World) (h:CS X nb mb ns es AO cO vcs AC cC D w) (hl:ns.length≤1000):Calls Tryz.prog 107 #[.pointer (some ⟨mb,0,none⟩),.agg #[.int .i64 s.kind,.string s.text,.int .i64 s.n]] w fun e w'=>e = .returned (.bool (Z3w ns s))∧Below w.heap.size w w':=by
 have HP:=hid (fun W (hW:Below w.heap.size w W)=>Z2m s W (h.nm.new_ hW) (by omega));have H:=hid h;have HLV:=hid (show Z3w ns s=(decide (s.kind=1) && decide (plV ns s=0)) from rfl);obtain ⟨r,hr⟩ : ∃r,r=plV ns s:=⟨_,rfl⟩;rw [← hr] at HP HLV;clear h hl hr;go_enter Tryz.func107,Tryz.ntmps107;(go_upto_region 1 with fail);obtain ⟨w1,hw1⟩ : ∃w1,w1=(w.alloc (.cells #[.int .i64 s.kind,.string s.text,.int .i64 s.n] 23)):=⟨_,rfl⟩;rw [← hw1];have HB:=hid (show Below w.heap.size w w1 by rw [hw1];exact (by repeat (first | exact Zi5 _ _ | refine Below.drew ?_ | refine Below.al ?_ _ | refine Below.sc ?_ _)));have Kk:=hid (show Blk w1 (w.heap.size) 23 #[.int .i64 s.kind,.string s.text,.int .i64 s.n] by rw [hw1];exact (Blk.new w 23 #[.int .i64 s.kind,.string s.text,.int .i64 s.n]));clear hw1;obtain ⟨k0,k1,k2⟩:=Kk.out.c3;have kz:=Kk.out.lt;obtain ⟨m0,m1,m2⟩:=(H.out.new_ HB.out).mkb.c3;have mz:=(H.out.new_ HB.out).mkb.lt;by_cases h1:s.kind=1
 case neg=>
  (have e1:(s.kind == 1)=false:=by simp [h1]);(have e2:decide (s.kind=1)=false:=by simp [h1]);rw [e2] at HLV;refine Z08 (fun w9=>Below w1.heap.size w1 w9) [(0,0),(1,1),(2,0),(3,0),(4,0),(5,0),(6,0),(7,1),(8,1),(9,2),(10,0),(11,0),(12,0)] (by kernel_rfl) (by kernel_rfl) (fun KK hKK=>?_);simp only [Z05,Zie,Zi8,Zic,Zib,Zia,Zif];(repeat ((first | (refine Z09 ?_ (Or.inl ⟨by rfl,fun w9=>?_⟩) ?_;rotate_left 1;go_simp;with_reducible rfl) | (refine Z04 ?_ (((Zi5 _ _).drew)) (Or.inl ⟨by rfl,fun w9 hw9=>?_⟩) ?_;rotate_left 1;obtain ⟨hc9,hf9⟩:=Z0f hw9;go_simp;with_reducible rfl) | refine Z09 undef (Or.inr ⟨by rfl,rfl⟩) ?_ | refine Z04 undef (((Zi5 _ _).drew)) (Or.inr ⟨by rfl,rfl⟩) ?_);go_frame));refine Z19 (fun K9 hK9=>?_);go_simp;refine hK9 _ _ (((Zi5 _ _).drew)) ?_;clear hK9 K9;(repeat ((first | (refine Z09 ?_ (Or.inl ⟨by rfl,fun w9=>?_⟩) ?_;rotate_left 1;go_simp;with_reducible rfl) | (refine Z04 ?_ (((Zi5 _ _).drew)) (Or.inl ⟨by rfl,fun w9 hw9=>?_⟩) ?_;rotate_left 1;obtain ⟨hc9,hf9⟩:=Z0f hw9;go_simp;with_reducible rfl) | refine Z09 undef (Or.inr ⟨by rfl,rfl⟩) ?_ | refine Z04 undef (((Zi5 _ _).drew)) (Or.inr ⟨by rfl,rfl⟩) ?_);go_frame));refine Z0v ?_;simp only [Z00];refine hKK _ _ ?_;clear hKK KK;(go_wp2_with fail);go_ret;exact ⟨by rw [HLV.out];rfl,HB.out.drew⟩
 (have e1:(s.kind == 1)=true:=by simp [h1]);(have e2:decide (s.kind=1)=true:=by simp [h1]);rw [e2] at HLV;have HS1:=hid h1;clear h1;refine Z08 (fun w9=>Below w1.heap.size w1 w9) [(0,0),(1,1),(2,0),(3,0),(4,0),(5,0),(6,0),(7,1),(8,1),(9,2),(10,0),(11,0),(12,0)] (by kernel_rfl) (by kernel_rfl) (fun KK hKK=>?_);simp only [Z05,Zie,Zi8,Zic,Zib,Zia,Zif];(repeat ((first | (refine Z09 ?_ (Or.inl ⟨by rfl,fun w9=>?_⟩) ?_;rotate_left 1;go_simp;with_reducible rfl) | (refine Z04 ?_ (((Zi5 _ _).drew)) (Or.inl ⟨by rfl,fun w9 hw9=>?_⟩) ?_;rotate_left 1;obtain ⟨hc9,hf9⟩:=Z0f hw9;go_simp;with_reducible rfl) | refine Z09 undef (Or.inr ⟨by rfl,rfl⟩) ?_ | refine Z04 undef (((Zi5 _ _).drew)) (Or.inr ⟨by rfl,rfl⟩) ?_);go_frame));refine Z19 (fun K9 hK9=>?_);go_simp;refine (HP.out _ (HB.out.trans (((Zi5 w1.heap.size w1).drew).mono HB.out.size))).mono ?_;rintro e w5 ⟨rfl,hb5⟩;have HB5:=hid (((Zi5 w1.heap.size w1).drew).trans (hb5.mono (by simp)));clear hb5;refine hK9 _ _ HB5.out ?_;clear hK9 K9;(repeat ((first | (refine Z09 ?_ (Or.inl ⟨by rfl,fun w9=>?_⟩) ?_;rotate_left 1;go_simp;with_reducible rfl) | (refine Z04 ?_ (HB5.out) (Or.inl ⟨by rfl,fun w9 hw9=>?_⟩) ?_;rotate_left 1;obtain ⟨hc9,hf9⟩:=Z0f hw9;go_simp;with_reducible rfl) | refine Z09 undef (Or.inr ⟨by rfl,rfl⟩) ?_ | refine Z04 undef (HB5.out) (Or.inr ⟨by rfl,rfl⟩) ?_);go_frame));refine Z0v ?_;simp only [Z00];refine hKK _ _ ?_;clear hKK KK;have HBE:=hid (HB.out.trans (HB5.out.mono HB.out.size));clear k0 k1 k2 kz m0 m1 m2 mz;(go_wp2_with fail);go_ret;refine ⟨?_,HBE.out⟩;rw [HLV.out];by_cases hr:r=0
 · subst hr;rfl
 · have e5:((r:Int) == 0)=false:=by simp;omega
   (have e6:decide ((r:Int)=0)=false:=by simp;omega);simp [hr,e5,e6]
theorem Zb5 {X:World} {nb mb:Nat} {ns:List Sym} {es:List Elem} {AO:Option Addr} {cO:Nat} {vcs:List VCo} {AC:Option Addr} {cC:Nat} {D:Nat→Prop} (s:Sym) (w:World) (h:CS X nb mb ns es AO cO vcs AC cC D w) (hl:ns.length≤1000):Calls Tryz.prog 106 #[.pointer (some ⟨mb,0,none⟩),.agg #[.int .i64 s.kind,.string s.text,.int .i64 s.n]] w fun e w'=>e = .returned (.bool (Z2w ns es s))∧Below w.heap.size w w':=by
 have HP:=hid (fun W (hW:Below w.heap.size w W)=>Z2m s W (h.nm.new_ hW) (by omega));have HS:=hid (fun W (hW:Below w.heap.size w W)=>Zae s W (h.new_ hW));have H:=hid h;have HLV:=hid (show Z2w ns es s=(decide (s.kind=1) && (!decide (plV ns s=0) && !Z3a es s)) from rfl);obtain ⟨r,hr⟩ : ∃r,r=plV ns s:=⟨_,rfl⟩;obtain ⟨u,hu⟩ : ∃u,u=Z3a es s:=⟨_,rfl⟩;rw [← hr] at HP HLV;rw [← hu] at HS HLV;clear h hl hr hu;go_enter Tryz.func106,Tryz.ntmps106;(go_upto_region 1 with fail);obtain ⟨w1,hw1⟩ : ∃w1,w1=(w.alloc (.cells #[.int .i64 s.kind,.string s.text,.int .i64 s.n] 23)):=⟨_,rfl⟩;rw [← hw1];have HB:=hid (show Below w.heap.size w w1 by rw [hw1];exact (by repeat (first | exact Zi5 _ _ | refine Below.drew ?_ | refine Below.al ?_ _ | refine Below.sc ?_ _)));have Kk:=hid (show Blk w1 (w.heap.size) 23 #[.int .i64 s.kind,.string s.text,.int .i64 s.n] by rw [hw1];exact (Blk.new w 23 #[.int .i64 s.kind,.string s.text,.int .i64 s.n]));clear hw1;obtain ⟨k0,k1,k2⟩:=Kk.out.c3;have kz:=Kk.out.lt;obtain ⟨m0,m1,m2⟩:=(H.out.new_ HB.out).mkb.c3;have mz:=(H.out.new_ HB.out).mkb.lt;by_cases h1:s.kind=1
 case neg=>
  (have e1:(s.kind == 1)=false:=by simp [h1]);(have e2:decide (s.kind=1)=false:=by simp [h1]);rw [e2] at HLV;refine Z08 (fun w9=>Below w1.heap.size w1 w9) [(0,0),(1,1),(2,0),(3,0),(4,0),(5,0),(6,0),(7,1),(8,1),(9,2),(10,0),(11,0),(12,0),(13,0),(14,1),(15,2),(16,0),(17,0),(18,0)] (by kernel_rfl) (by kernel_rfl) (fun KK hKK=>?_);simp only [Z05,Zie,Zi8,Zic,Zib,Zia,Zif];(repeat ((first | (refine Z09 ?_ (Or.inl ⟨by rfl,fun w9=>?_⟩) ?_;rotate_left 1;go_simp;with_reducible rfl) | (refine Z04 ?_ (((Zi5 _ _).drew)) (Or.inl ⟨by rfl,fun w9 hw9=>?_⟩) ?_;rotate_left 1;obtain ⟨hc9,hf9⟩:=Z0f hw9;go_simp;with_reducible rfl) | refine Z09 undef (Or.inr ⟨by rfl,rfl⟩) ?_ | refine Z04 undef (((Zi5 _ _).drew)) (Or.inr ⟨by rfl,rfl⟩) ?_);go_frame));refine Z19 (fun K9 hK9=>?_);go_simp;refine hK9 _ _ (((Zi5 _ _).drew)) ?_;clear hK9 K9;(repeat ((first | (refine Z09 ?_ (Or.inl ⟨by rfl,fun w9=>?_⟩) ?_;rotate_left 1;go_simp;with_reducible rfl) | (refine Z04 ?_ (((Zi5 _ _).drew)) (Or.inl ⟨by rfl,fun w9 hw9=>?_⟩) ?_;rotate_left 1;obtain ⟨hc9,hf9⟩:=Z0f hw9;go_simp;with_reducible rfl) | refine Z09 undef (Or.inr ⟨by rfl,rfl⟩) ?_ | refine Z04 undef (((Zi5 _ _).drew)) (Or.inr ⟨by rfl,rfl⟩) ?_);go_frame));refine Z19 (fun K9 hK9=>?_);go_simp;refine hK9 _ _ (((Zi5 _ _).drew)) ?_;clear hK9 K9;(repeat ((first | (refine Z09 ?_ (Or.inl ⟨by rfl,fun w9=>?_⟩) ?_;rotate_left 1;go_simp;with_reducible rfl) | (refine Z04 ?_ (((Zi5 _ _).drew)) (Or.inl ⟨by rfl,fun w9 hw9=>?_⟩) ?_;rotate_left 1;obtain ⟨hc9,hf9⟩:=Z0f hw9;go_simp;with_reducible rfl) | refine Z09 undef (Or.inr ⟨by rfl,rfl⟩) ?_ | refine Z04 undef (((Zi5 _ _).drew)) (Or.inr ⟨by rfl,rfl⟩) ?_);go_frame));refine Z0v ?_;simp only [Z00];refine hKK _ _ ?_;clear hKK KK;(go_wp2_with fail);go_ret;exact ⟨by rw [HLV.out];rfl,HB.out.drew⟩
 (have e1:(s.kind == 1)=true:=by simp [h1]);(have e2:decide (s.kind=1)=true:=by simp [h1]);rw [e2] at HLV;have HS1:=hid h1;clear h1;by_cases hr:r=0
 case pos=>
  subst hr;refine Z08 (fun w9=>Below w1.heap.size w1 w9) [(0,0),(1,1),(2,0),(3,0),(4,0),(5,0),(6,0),(7,1),(8,1),(9,2),(10,0),(11,0),(12,0),(13,0),(14,1),(15,2),(16,0),(17,0),(18,0)] (by kernel_rfl) (by kernel_rfl) (fun KK hKK=>?_);simp only [Z05,Zie,Zi8,Zic,Zib,Zia,Zif];(repeat ((first | (refine Z09 ?_ (Or.inl ⟨by rfl,fun w9=>?_⟩) ?_;rotate_left 1;go_simp;with_reducible rfl) | (refine Z04 ?_ (((Zi5 _ _).drew)) (Or.inl ⟨by rfl,fun w9 hw9=>?_⟩) ?_;rotate_left 1;obtain ⟨hc9,hf9⟩:=Z0f hw9;go_simp;with_reducible rfl) | refine Z09 undef (Or.inr ⟨by rfl,rfl⟩) ?_ | refine Z04 undef (((Zi5 _ _).drew)) (Or.inr ⟨by rfl,rfl⟩) ?_);go_frame));refine Z19 (fun K9 hK9=>?_);go_simp;refine (HP.out _ (HB.out.trans (((Zi5 w1.heap.size w1).drew).mono HB.out.size))).mono ?_;rintro e w5 ⟨rfl,hb5⟩;have HB5:=hid (((Zi5 w1.heap.size w1).drew).trans (hb5.mono (by simp)));clear hb5;refine hK9 _ _ HB5.out ?_;clear hK9 K9;(repeat ((first | (refine Z09 ?_ (Or.inl ⟨by rfl,fun w9=>?_⟩) ?_;rotate_left 1;go_simp;with_reducible rfl) | (refine Z04 ?_ (HB5.out) (Or.inl ⟨by rfl,fun w9 hw9=>?_⟩) ?_;rotate_left 1;obtain ⟨hc9,hf9⟩:=Z0f hw9;go_simp;with_reducible rfl) | refine Z09 undef (Or.inr ⟨by rfl,rfl⟩) ?_ | refine Z04 undef (HB5.out) (Or.inr ⟨by rfl,rfl⟩) ?_);go_frame));refine Z19 (fun K9 hK9=>?_);go_simp;refine hK9 _ _ (HB5.out) ?_;clear hK9 K9;(repeat ((first | (refine Z09 ?_ (Or.inl ⟨by rfl,fun w9=>?_⟩) ?_;rotate_left 1;go_simp;with_reducible rfl) | (refine Z04 ?_ (HB5.out) (Or.inl ⟨by rfl,fun w9 hw9=>?_⟩) ?_;rotate_left 1;obtain ⟨hc9,hf9⟩:=Z0f hw9;go_simp;with_reducible rfl) | refine Z09 undef (Or.inr ⟨by rfl,rfl⟩) ?_ | refine Z04 undef (HB5.out) (Or.inr ⟨by rfl,rfl⟩) ?_);go_frame));refine Z0v ?_;simp only [Z00];refine hKK _ _ ?_;clear hKK KK;have HBE:=hid (HB.out.trans (HB5.out.mono HB.out.size));clear k0 k1 k2 kz m0 m1 m2 mz;(go_wp2_with fail);go_ret;exact ⟨by rw [HLV.out];rfl,HBE.out⟩
 (have r1:(0:Int)<(r:Int):=by omega);have r2:decide ((0:Int)<(r:Int))=true:=Zih (by omega);have r3:decide (0<r)=true:=Zih (by omega);refine Z08 (fun w9=>Below w1.heap.size w1 w9) [(0,0),(1,1),(2,0),(3,0),(4,0),(5,0),(6,0),(7,1),(8,1),(9,2),(10,0),(11,0),(12,0),(13,0),(14,1),(15,2),(16,0),(17,0),(18,0)] (by kernel_rfl) (by kernel_rfl) (fun KK hKK=>?_);simp only [Z05,Zie,Zi8,Zic,Zib,Zia,Zif];(repeat ((first | (refine Z09 ?_ (Or.inl ⟨by rfl,fun w9=>?_⟩) ?_;rotate_left 1;go_simp;with_reducible rfl) | (refine Z04 ?_ (((Zi5 _ _).drew)) (Or.inl ⟨by rfl,fun w9 hw9=>?_⟩) ?_;rotate_left 1;obtain ⟨hc9,hf9⟩:=Z0f hw9;go_simp;with_reducible rfl) | refine Z09 undef (Or.inr ⟨by rfl,rfl⟩) ?_ | refine Z04 undef (((Zi5 _ _).drew)) (Or.inr ⟨by rfl,rfl⟩) ?_);go_frame));refine Z19 (fun K9 hK9=>?_);go_simp;refine (HP.out _ (HB.out.trans (((Zi5 w1.heap.size w1).drew).mono HB.out.size))).mono ?_;rintro e w5 ⟨rfl,hb5⟩;have HB5:=hid (((Zi5 w1.heap.size w1).drew).trans (hb5.mono (by simp)));clear hb5;refine hK9 _ _ HB5.out ?_;clear hK9 K9;(repeat ((first | (refine Z09 ?_ (Or.inl ⟨by rfl,fun w9=>?_⟩) ?_;rotate_left 1;go_simp;with_reducible rfl) | (refine Z04 ?_ (HB5.out) (Or.inl ⟨by rfl,fun w9 hw9=>?_⟩) ?_;rotate_left 1;obtain ⟨hc9,hf9⟩:=Z0f hw9;go_simp;with_reducible rfl) | refine Z09 undef (Or.inr ⟨by rfl,rfl⟩) ?_ | refine Z04 undef (HB5.out) (Or.inr ⟨by rfl,rfl⟩) ?_);go_frame));refine Z19 (fun K9 hK9=>?_);go_simp;refine (HS.out _ (HB.out.trans (HB5.out.mono HB.out.size))).mono ?_;rintro e w6 ⟨rfl,hb6⟩;have HB6:=hid (HB5.out.trans (hb6.mono HB5.out.size));clear hb6;refine hK9 _ _ HB6.out ?_;clear hK9 K9;(repeat ((first | (refine Z09 ?_ (Or.inl ⟨by rfl,fun w9=>?_⟩) ?_;rotate_left 1;go_simp;with_reducible rfl) | (refine Z04 ?_ (HB6.out) (Or.inl ⟨by rfl,fun w9 hw9=>?_⟩) ?_;rotate_left 1;obtain ⟨hc9,hf9⟩:=Z0f hw9;go_simp;with_reducible rfl) | refine Z09 undef (Or.inr ⟨by rfl,rfl⟩) ?_ | refine Z04 undef (HB6.out) (Or.inr ⟨by rfl,rfl⟩) ?_);go_frame));refine Z0v ?_;simp only [Z00];refine hKK _ _ ?_;clear hKK KK;have HBE:=hid (HB.out.trans (HB6.out.mono HB.out.size));clear k0 k1 k2 kz m0 m1 m2 mz;(go_wp2_with fail);go_ret;refine ⟨?_,HBE.out⟩;rw [HLV.out];cases u<;>simp [hr]
def VCo.more (v:VCo) (t:Z0t) (g c:Nat):VCo:={ v with vs:=v.vs ++ [t],gv:=g,cap:=c }
structure HdV where
 goal:Bool
 id:ByteArray
 at_:Z0t
 acc:Bool
def VCo.hd (v:VCo):HdV:=⟨v.goal,v.id,v.at_,v.acc⟩
theorem Zfn {w:World} {e:TypeId} {size n c g:Nat} {xs:List Value} (h:w.ownsRow 0 e size (.slice (some ⟨g,0,none⟩) n c) n xs) : ∃cur,Blk w g e cur:=by
 obtain ⟨⟨cur,hb,_⟩,_⟩:=Z2y h;exact ⟨cur,hb⟩
section
variable {X:World} {bx:Array Value} {nb mb:Nat} {ns:List Sym} {es:List Elem} {AO:Option Addr} {cO:Nat} {vcs:List VCo} {AC:Option Addr} {cC:Nat} {tags:List Int} {At:Option Addr} {ct:Nat} {D:Nat→Prop}
theorem P3.addT {pre post:List VCo} {v:VCo} {t:Z0t} {val:Value} {W Y:World} (h:P3 X bx nb mb ns es AO cO vcs AC cC tags At ct D W) (hv:vcs=pre++v :: post) (ht:t.list = [])
 (hown:Y.ownsRow 0 142 6 val (v.vs.length+1) (v.vs.flatMap Z0t.cell0 ++ [t].flatMap Z0t.cell0)) (hg:W.grownBy Y (Value.slice (some ⟨v.gv,0,none⟩) v.vs.length v.cap).ownBlock) (hat:val.ownBlock=(Value.slice (some ⟨v.gv,0,none⟩) v.vs.length v.cap).ownBlock∨val.ownBlock=some W.heap.size) :
 ∃gc g' c',AC=some ⟨gc,0,none⟩∧val = .slice (some ⟨g',0,none⟩) (v.vs.length+1) c'∧Y.cell? ⟨gc,pre.length*7+4,none⟩=some (.slice (some ⟨v.gv,0,none⟩) v.vs.length v.cap)∧Y.frozen? ⟨gc,pre.length*7+4,none⟩=false∧gc<Y.heap.size∧(∀b ty cs,Blk W b ty cs→b≠v.gv→Blk Y b ty cs)∧
  ∀V,V=Y.setCell ⟨gc,pre.length*7+4,none⟩ (.slice (some ⟨g',0,none⟩) (v.vs.length+1) c')→P3 X bx nb mb ns es AO cO (pre++v.more t g' c' :: post) AC cC tags At ct D V:=by
 (have hm:v∈vcs:=by rw [hv];simp);have hok:=h.cs.ok v hm;have hbl:=h.cs.bl v hm;(have hln:vcs.length=pre.length+(post.length+1):=by rw [hv];simp);obtain ⟨gc,hgc⟩:=Z3x h.cs.co (by omega);obtain ⟨A',c',rfl,hF,hA,hO⟩:=Z1o (E:=(· = v.gv)) (fun a ha=>by injection ha with ha;rw [← ha]) hown hg hat;obtain ⟨g',rfl⟩:=Z3x hO (by omega);have hco:=h.cs.co;rw [hgc] at hco;have ngc:v.gv≠gc:=fun e=>Z1m hok.vr hco (by decide) (k:=gc) (by rw [e];rfl) rfl;have hcoY:=Z14 hco hF (fun g hg e=>by injection hg with hg;exact ngc (e.symm.trans hg.symm));have ng':g'≠gc:=fun e=>Z1m hO hcoY (by decide) (k:=gc) (by rw [e];rfl) rfl;have hroom:=Z2y hcoY;(have hflat:vcs.flatMap VCo.cells=pre.flatMap VCo.cells++(v.cells++post.flatMap VCo.cells):=by rw [hv,Zin,Zj5]);have hpl:(pre.flatMap VCo.cells).length=pre.length*7:=Z15 VCo.cells_length pre;obtain ⟨cur,hbY⟩:=Zfn hcoY
 have hc4:Y.cell? ⟨gc,pre.length*7+4,none⟩=some (.slice (some ⟨v.gv,0,none⟩) v.vs.length v.cap):=by
  have hrd:=Z0a VCo.cells_length hcoY;obtain ⟨b,off,e1,_,hcl⟩:=hrd.at_ (k:=pre.length) (by omega);injection e1 with e1;injection e1 with e1 e2;subst e1;subst e2;have:=hcl 4 (.slice (some ⟨v.gv,0,none⟩) v.vs.length v.cap) (by simp only [hv];rw [List.getElem_append_right (Zi6 _)];simp [VCo.cells,VCo.raw,Z4h.cells]);simpa using this
 refine ⟨gc,g',c',hgc,rfl,hc4,hbY.frozen _,hbY.lt,fun b ty cs hb hne=>hb.fr hF hne,fun V hV=>?_⟩;subst hV;have hst:=(hcoY.stored (pre.length*7+4) (.slice (some ⟨g',0,none⟩) (v.vs.length+1) c')).1;have hF2:Fr (fun j=>j=v.gv∨j=gc) W (Y.setCell ⟨gc,pre.length*7+4,none⟩ (.slice (some ⟨g',0,none⟩) (v.vs.length+1) c')):=(hF.mono (fun k _ hk=>.inl hk)).setCell (p:=⟨gc,pre.length*7+4,none⟩) (.inl (.inr rfl)) _;have hzW:=h.cs.bel.size;have hDl:=h.cs.nm.lt
 have nB : ∀{b:Nat} {ty:TypeId} {cs:Array Value},Blk W b ty cs→ty≠142→ty≠62→¬(b=v.gv∨b=gc):=by
  rintro b ty cs hb n1 n2 (e | e)
  · exact Z06 hok.vr hb n1.symm (by rw [e];rfl)
  · exact Z06 hco hb n2.symm (by rw [e];rfl)
 have nO : ∀{e:TypeId} {size n c:Nat} {A:Option Addr} {xs:List Value},W.ownsRow 0 e size (.slice A n c) n xs→e≠142→e≠62→∀g,(Value.slice A n c).ownBlock=some g→¬(g=v.gv∨g=gc):=by
  rintro e size n c A xs ho n1 n2 g hg (e2 | e2)
  · exact Z1m ho hok.vr n1 hg (by rw [e2];rfl)
  · exact Z1m ho hco n2 hg (by rw [e2];rfl)
 have hnd:=h.cs.nd;rw [hv,Zin,Zj5] at hnd;obtain ⟨n1,n2,n3⟩:=List.nodup_append.1 hnd;obtain ⟨n4,n5,n6⟩:=List.nodup_append.1 n2
 have hgf:g'=v.gv∨W.heap.size≤g':=by
  rcases hA _ rfl with e | ⟨e,_⟩
  · exact .inl e
  · exact .inr e
 have hother : ∀u,u∈pre∨u∈post→u.ga≠v.gv∧u.gv≠v.gv:=by
  rintro u (hu | hu)
  · exact ⟨fun e=>n3 u.ga (List.mem_flatMap.2 ⟨u,hu,by simp⟩) v.gv (by simp) e,fun e=>n3 u.gv (List.mem_flatMap.2 ⟨u,hu,by simp⟩) v.gv (by simp) e⟩
  · exact ⟨fun e=>n6 v.gv (by simp) u.ga (List.mem_flatMap.2 ⟨u,hu,by simp⟩) e.symm,fun e=>n6 v.gv (by simp) u.gv (List.mem_flatMap.2 ⟨u,hu,by simp⟩) e.symm⟩
 have hin : ∀u,u∈pre∨u∈post→u∈vcs:=fun u hu=>by rw [hv];exact hu.elim (fun h=>List.mem_append_left _ h) (fun h=>List.mem_append_right _ (Zjg _ h))
 have hsp : ∀{u:VCo},u∈pre++v.more t g' c' :: post→u=v.more t g' c'∨(u∈pre∨u∈post):=fun {u} hu=>by
  rcases Zj6.1 hu with h1 | h1
  · exact .inr (.inl h1)
  · rcases Zil.1 h1 with h2 | h2
    · exact .inl h2
    · exact .inr (.inr h2)
 (have hgav:v.ga≠v.gv:=by simpa using n4);have hgaC : ∀{g:Nat} {cs:Array Value},Blk W g 142 cs→g≠gc:=fun hb e=>Z06 hco hb (by decide) (by rw [e];rfl);have hln2:(pre++v.more t g' c' :: post).length=vcs.length:=by rw [hln];simp
 refine ⟨⟨h.cs.nm.fr hF2 (fun k hk hm=>?_),h.cs.dn,?_,h.cs.mge,h.cs.mnd,Z14 h.cs.eo hF2 (nO h.cs.eo (by decide) (by decide)),h.cs.ea,?_,h.cs.ca,fun u hu=>?_,fun u hu=>?_,?_,h.cs.bel.trans (hF2.below hzW (fun k hk hm=>?_))⟩,
  h.pb.frT hF2 (nB h.pb.t (by decide) (by decide)) (nB h.pb.r (by decide) (by decide)) (fun k hk=>?_),Z14 h.tg hF2 (nO h.tg (by decide) (by decide)),h.ta,h.dn2⟩
 · rcases hm with e | e
   · exact hbl.2.2 (e ▸ hk)
   · exact (h.cs.ca _ hgc).2 (by rw [e] at hk;exact hk)
 · rw [hln2];exact h.cs.mkb.fr hF2 (nB h.cs.mkb (by decide) (by decide))
 · rw [hln2,hgc]
   have e1:(vcs.flatMap VCo.cells).set (pre.length*7+4) (.slice (some ⟨g',0,none⟩) (v.vs.length+1) c')=(pre++v.more t g' c' :: post).flatMap VCo.cells:=by
    rw [hflat,List.set_append_right _ _ (by omega),hpl,List.set_append_left _ _ (by rw [VCo.cells_length];omega),Zin,Zj5];congr 2;rw [show pre.length*7+4 - pre.length*7=4 by omega];simp [VCo.cells,VCo.raw,Z4h.cells,VCo.more]
   rw [← e1];exact hst
 · rcases hsp hu with rfl | hu
   · refine ⟨hok.at_.fr hF2 (fun hm=>?_),?_,hok.la,fun x hx=>?_⟩
     · exact hm.elim hgav (hgaC hok.at_)
     · have e2:(v.more t g' c').vs.length=v.vs.length+1:=by simp [VCo.more]
       rw [e2];refine ownsRow_setCell_other (a:=⟨gc,pre.length*7+4,none⟩) ?_ (by simp [Value.ownBlock];exact ng') _;show Y.ownsRow 0 142 6 _ _ ((v.vs ++ [t]).flatMap Z0t.cell0);rw [Zin];exact hO
     · rcases Zj6.1 hx with hx | hx
       · exact hok.lv x hx
       · rw [Zj8.1 hx];exact ht
   · have ho2:=h.cs.ok u (hin u hu)
     have hne:=hother u hu;refine ho2.fr hF2 (fun hm=>hm.elim hne.1 (hgaC ho2.at_)) (fun hm=>hm.elim hne.2 (fun e=>?_));exact Z1m ho2.vr hco (by decide) (k:=gc) (by rw [e];rfl) rfl
 · rcases hsp hu with rfl | hu
   · refine ⟨hbl.1,?_⟩
     show X.heap.size≤g'∧¬D g';rcases hgf with e | e
     · rw [e];exact hbl.2
     · exact ⟨by omega,fun hd=>by have:=hDl _ hd;omega⟩
   · exact h.cs.bl u (hin u hu)
 · rw [Zin,Zj5]
   show (pre.flatMap _++([v.ga,g']++post.flatMap _)).Nodup;rcases hgf with e | e
   · rw [e];exact hnd
   · have hlt : ∀u,u∈pre∨u∈post→u.ga<W.heap.size∧u.gv<W.heap.size:=fun u hu=>⟨(h.cs.ok u (hin u hu)).at_.lt,(h.cs.ok u (hin u hu)).ltv⟩
     have hlv:=hok.at_.lt;refine List.nodup_append.2 ⟨n1,List.nodup_append.2 ⟨by simp;omega,n5,fun a ha b hb e2=>?_⟩,fun a ha b hb e2=>?_⟩
     · simp only [Zil,Zio,or_false] at ha
       rcases ha with rfl | rfl
       · exact n6 v.ga (by simp) b hb e2
       · obtain ⟨u,hu,hbu⟩:=List.mem_flatMap.1 hb
         have:=hlt u (.inr hu);simp only [Zil,Zio,or_false] at hbu;rcases hbu with rfl | rfl<;>omega
     · rcases Zj6.1 hb with hb | hb
       · simp only [Zil,Zio,or_false] at hb
         rcases hb with rfl | rfl
         · exact n3 a ha v.ga (by simp) e2
         · obtain ⟨u,hu,hau⟩:=List.mem_flatMap.1 ha
           have:=hlt u (.inl hu);simp only [Zil,Zio,or_false] at hau;rcases hau with rfl | rfl<;>omega
       · exact n3 a ha b (List.mem_append_right _ hb) e2
 · rcases hm with e | e
   · have:=hbl.2.1;omega
   · have:X.heap.size≤gc:=(h.cs.ca _ hgc).1;omega
 · rcases hk with e | e
   · rw [e];exact hbl.2.1
   · rw [e];exact (h.cs.ca _ hgc).1
end
end
section
open Go.RowKit Go.Shelf
attribute [local go_sem] Oper.semAt_some
set_option linter.unusedSimpArgs false
theorem Zag {a b:ByteArray}:a.toList=b.toList↔a=b:=⟨toList_inj,fun h=>by rw [h]⟩
section
variable {X:World} {bx:Array Value} {nb mb:Nat} {ns:List Sym} {es:List Elem} {AO:Option Addr} {cO:Nat} {vcs:List VCo} {AC:Option Addr} {cC:Nat} {tags:List Int} {At:Option Addr} {ct:Nat} {D:Nat→Prop}
def Zgv (X:World) (bx:Array Value) (nb mb:Nat) (ns:List Sym) (es:List Elem) (AO:Option Addr) (cO:Nat) (vcs:List VCo) (AC:Option Addr) (cC:Nat) (tags:List Int) (At:Option Addr) (ct:Nat) (D:Nat→Prop) (k:Nat) (t:Z0t) (e:Ending) (w':World):Prop:=
 ∃vcs':List VCo,e = .returned (.tuple #[])∧P3 X bx nb mb ns es AO cO vcs' AC cC tags At ct D w'∧vcs'.map VCo.vs=putT (vcs.map VCo.vs) k t∧vcs'.map VCo.hd=vcs.map VCo.hd
theorem Zbo {k:Nat} {t:Z0t} {w:World} (h:P3 X bx nb mb ns es AO cO vcs AC cC tags At ct D w) (hk:k<vcs.length) (hs:((vcs[k]).vs.any fun u=>simT u t)=true):Zgv X bx nb mb ns es AO cO vcs AC cC tags At ct D k t (.returned (.tuple #[])) w:=by
 refine ⟨vcs,rfl,h,?_,rfl⟩;unfold putT;apply List.ext_getElem?;intro j;rw [List.getElem?_modify];by_cases hj:k=j
 · subst hj
   rw [List.getElem?_map,Zig hk];simp only [Zif,Option.map_eq_map,if_true];rw [addT,if_pos hs]
 · cases (List.map VCo.vs vcs)[j]?<;>simp [hj]
theorem Zbn {pre post:List VCo} {v:VCo} {t:Z0t} {g c:Nat} {w:World} (h:P3 X bx nb mb ns es AO cO (pre++v.more t g c :: post) AC cC tags At ct D w) (hv:vcs=pre++v :: post) (hs:(v.vs.any fun u=>simT u t)=false):Zgv X bx nb mb ns es AO cO vcs AC cC tags At ct D pre.length t (.returned (.tuple #[])) w:=by
 refine ⟨_,rfl,h,?_,?_⟩
 · rw [hv]
   unfold putT;simp only [Zik,List.map_cons];rw [show pre.length=(pre.map VCo.vs).length by simp];apply List.ext_getElem?;intro j;rw [List.getElem?_modify];rcases Nat.lt_trichotomy j (pre.map VCo.vs).length with hj | hj | hj
   · rw [Ziy hj,Ziy hj]
     rw [Zig hj];simp [show ¬(pre.map VCo.vs).length=j by omega,-List.length_map]
   · subst hj
     rw [Zj0 (Zi6 _),Zj0 (Zi6 _)];(have e:addT t v.vs=v.vs ++ [t]:=by rw [addT,if_neg (by rw [hs];decide)]);simp [e,VCo.more]
   · rw [Zj0 (by omega),Zj0 (by omega)]
     obtain ⟨q,hq⟩ : ∃q,j - (pre.map VCo.vs).length=q+1:=⟨j - (pre.map VCo.vs).length - 1,by omega⟩;rw [hq,Zia,Zia];cases (List.map VCo.vs post)[q]?<;>simp [show ¬(pre.map VCo.vs).length=j by omega,-List.length_map]
 · rw [hv];simp [VCo.hd,VCo.more]
theorem Zcf (k:Nat) (t:Z0t) (w:World) (h:P3 X bx nb mb ns es AO cO vcs AC cC tags At ct D w) (hk:k<vcs.length) (ht:t.list = []) (hvl:(vcs[k]).vs.length≤1000) :
 Calls Tryz.prog 149 #[.pointer (some ⟨mb,0,none⟩),.int .i64 (k:Int),.agg #[.int .i64 t.rel,.string t.var,.int .i64 t.sym.kind,.string t.sym.text,.int .i64 t.sym.n,.slice none 0 0]] w (Zgv X bx nb mb ns es AO cO vcs AC cC tags At ct D k t):=by
 obtain ⟨i1,hi1,hy0,hy1,hy2⟩:=infp Zd2;have H:=hid h;obtain ⟨v,hv⟩ : ∃v,v=vcs[k]:=⟨_,rfl⟩;obtain ⟨pre,hpre⟩ : ∃p,p=vcs.take k:=⟨_,rfl⟩;obtain ⟨post,hpost⟩ : ∃p,p=vcs.drop (k+1):=⟨_,rfl⟩;(have hspl:vcs=pre++v :: post:=by rw [hv,hpre,hpost,← Zj2 hk,List.take_append_drop]);(have hpl:pre.length=k:=by rw [hpre,Ziz];omega);(have hm:v∈vcs:=by rw [hspl];simp);have hok:=h.cs.ok v hm;obtain ⟨gc,hgc⟩:=Z3x h.cs.co (by omega);subst hgc
 have hq4 : ∀W,Below w.heap.size w W→W.cell? ⟨gc,k*7+4,none⟩=some (.slice (some ⟨v.gv,0,none⟩) v.vs.length v.cap):=fun W hW=>by
  obtain ⟨b,off,e1,_,hcl⟩:=(Z0a VCo.cells_length (h.new_ hW).cs.co).at_ hk;injection e1 with e1;injection e1 with e1 e2;subst e1;subst e2;have:=hcl 4 (.slice (some ⟨v.gv,0,none⟩) v.vs.length v.cap) (by rw [← hv];rfl);simpa using this
 have HQ4:=hid hq4;have HSPL:=hid hspl;have HPL:=hid hpl;have HVK:=hid hv;have HOK:=hid hok;have HLV:=hid (show ∀u∈v.vs,u.list = [] from hok.lv);(have hvl2:v.vs.length≤1000:=by rw [hv];exact hvl);have q4:=hq4 w (Zi5 _ _);have m2:=(h.cs.mkb.cell 2).trans rfl;have mz:=h.cs.mkb.lt;(have k1:(0:Int)≤(k:Int):=by omega);(have k2:(k:Int)<(vcs.length:Int):=by omega);have gz:gc<w.heap.size:=Z6m h.cs.co gc rfl;have HAN:=hid (show ∀vv,vv=v→(vv.vs.any fun u=>simT u t)=true→((vcs[k]).vs.any fun u=>simT u t)=true from fun vv e h=>by rw [← hv,← e];exact h);clear h hvl hok hq4 hspl hpl hpre hpost hm hv;go_enter Tryz.func149,Tryz.ntmps149;(go_upto_region 2 with fail);obtain ⟨W1,hW1⟩ : ∃W,W=w.alloc (.cells #[.int .i64 t.rel,.string t.var,.int .i64 t.sym.kind,.string t.sym.text,.int .i64 t.sym.n,.slice none 0 0] 142):=⟨_,rfl⟩;obtain ⟨b5,hb5⟩ : ∃b,b=w.heap.size:=⟨_,rfl⟩;have K5:=hid (show Blk W1 b5 142 #[.int .i64 t.rel,.string t.var,.int .i64 t.sym.kind,.string t.sym.text,.int .i64 t.sym.n,.slice none 0 0] by rw [hW1,hb5];exact Blk.new _ _ _);have HB:=hid (show Below w.heap.size w W1 by rw [hW1];exact (Zi5 _ _).alloc (Zi6 _) _);have HNE5:=hid (show v.gv≠b5 from fun e=>by have:=HOK.out.ltv;omega);rw [← hW1,← hb5];clear hW1 hb5 q4 m2 mz gz
 go_loopw [17] (fun s wr=>∃i:Nat,s = .int .i64 (i:Int)∧i≤v.vs.length∧((v.vs.take i).any fun u=>simT u t)=false∧Below W1.heap.size W1 wr) (fun s wr=>v.vs.length - (intOf s).toNat)
 case atStart=>exact ⟨0,rfl,Nat.zero_le _,by simp,Zi5 _ _⟩
 case round=>
  obtain ⟨i,rfl,hi,hno,hbw⟩:=hrel;have HNO:=hid hno;have HBW:=hid hbw;have HBA:=hid (HB.out.trans (hbw.mono HB.out.size));clear hno hbw;have HP:=hid (H.out.new_ HBA.out);have HVR:=hid (Z01 HOK.out.vr HBA.out);have K5r:=hid (K5.out.new_ HBW.out);obtain ⟨t0,t1,t2,t3,t4,t5⟩:=K5r.out.c6;have tz:=K5r.out.lt;by_cases hlt:i<v.vs.length
  · obtain ⟨u,hu⟩ : ∃u,u=v.vs[i]:=⟨_,rfl⟩
    obtain ⟨g,off,e0,hgl,hrg⟩:=(Z0a Z0t.cell0_length HVR.out).range hlt;injection e0 with e0;injection e0 with e0 e1;subst e0;subst e1;rw [← hu] at hrg;have HTK:=hid (show ((v.vs.take (i+1)).any fun x=>simT x t)=simT u t by rw [Z5p hlt,← hu,List.any_append,HNO.out];simp);have HUM:=hid (show simT u t=true→(v.vs.any fun x=>simT x t)=true from fun h=>Zj3.2 ⟨u,by rw [hu];exact Zip hlt,h⟩);have HRG:=hid (show wr.rangeAt v.gv (i*6) [.int .i64 u.rel,.string u.var,.int .i64 u.sym.kind,.string u.sym.text,.int .i64 u.sym.n,.slice none 0 0] by rw [Zj1] at hrg;exact hrg);obtain ⟨W5,hW5,hth,hrg5,hb5,hz5⟩:=Z4e (w:=wr) (t:=142) [.int .i64 0,.string ⟨#[]⟩,.int .i64 0,.string ⟨#[]⟩,.int .i64 0,.slice none 0 0] [.int .i64 u.rel,.string u.var,.int .i64 u.sym.kind,.string u.sym.text,.int .i64 u.sym.n,.slice none 0 0] rfl;have HW5:=hid hW5;have HTH:=hid hth;have HBW5:=hid (HBW.out.trans (hb5.mono HBW.out.size));have HP5:=hid (HP.out.new_ hb5);have u0:W5.cell? ⟨wr.heap.size,0,none⟩=some (.int .i64 u.rel):=hrg5 0 _ rfl;have u1:W5.cell? ⟨wr.heap.size,1,none⟩=some (.string u.var):=hrg5 1 _ rfl;have u2:W5.cell? ⟨wr.heap.size,2,none⟩=some (.int .i64 u.sym.kind):=hrg5 2 _ rfl;have u3:W5.cell? ⟨wr.heap.size,3,none⟩=some (.string u.sym.text):=hrg5 3 _ rfl;have u4:W5.cell? ⟨wr.heap.size,4,none⟩=some (.int .i64 u.sym.n):=hrg5 4 _ rfl;(have uz:wr.heap.size<W5.heap.size:=by omega);clear t0 t1 t2 t3 t4 t5 tz;obtain ⟨t0,t1,t2,t3,t4,t5⟩:=(K5r.out.new_ hb5).c6;have tz:=(K5r.out.new_ hb5).lt;(have j1:(0:Int)≤(i:Int):=by omega);(have j2:(i:Int)<(v.vs.length:Int):=by omega);have v1:IntKind.i64.wrap ((i:Int)+1)=(i:Int)+1:=Zii _ (by omega);have heq:=Z38 u.sym t.sym
    have HS1:=hid (show simT u t=((u.rel == t.rel) && ((u.var.toList == t.var.toList) && decide (u.sym=t.sym))) by
     unfold simT
     rw [show decide (u.rel=t.rel)=(u.rel == t.rel) from rfl,show decide (u.var=t.var)=(u.var.toList == t.var.toList) by rw [Zjh,Zjc,beq_iff_eq];exact Zag.symm])
    clear hW5 hth hrg5 hb5 hz5 hrg hu hgl;cases d1:(u.rel == t.rel)<;>cases d2:(u.var.toList == t.var.toList)<;>cases d3:decide (u.sym=t.sym)
    all_goals
     rw [d1,d2,d3] at HS1;rw [d3] at heq
     go_wp2_with (first
      | (with_reducible refine wpList_load_mid rfl 142 _ rfl v.gv (i*6) rfl _ _ HRG.out Tryz.underlying142 rfl (by kernel_rfl) ?_)
      | ((with_reducible refine wpList_store_mid rfl 142 _ _ rfl wr.heap.size 0 #[.int .i64 u.rel,.string u.var,.int .i64 u.sym.kind,.string u.sym.text,.int .i64 u.sym.n,.slice none 0 0] rfl rfl HTH.out (by kernel_rfl) (by kernel_rfl) ?_);rw [← HW5.out]))
     first
      | (go_end0;exact Zbo HP5.out hk (HAN.out v rfl (HUM.out HS1.out)))
      | (go_roundw
         case rel=>exact ⟨i+1,by go_num,by omega,HTK.out.trans HS1.out,HBW5.out⟩
         case measure=>simp [intOf]<;>omega)
  · obtain rfl:i=v.vs.length:=by omega
    (have jz : ¬(v.vs.length:Int)<(v.vs.length:Int):=by omega);have HNO:=hid (show (v.vs.any fun u=>simT u t)=false by have:=HNO.out;rwa [Ziq] at this);have q4:=HQ4.out wr HBA.out;have m2:=(HP.out.cs.mkb.cell 2).trans rfl;have mz:=HP.out.cs.mkb.lt;have gz:gc<wr.heap.size:=Z6m HP.out.cs.co gc rfl;(go_wp2_with fail);have SMK : ∀Z:World,Z.cell? ⟨mb,2,none⟩=some (.slice (some ⟨gc,0,none⟩) vcs.length cC)→Z.cell? ⟨gc,k*7+4,none⟩=some (.slice (some ⟨v.gv,0,none⟩) v.vs.length v.cap)→Blk Z b5 142 #[.int .i64 t.rel,.string t.var,.int .i64 t.sym.kind,.string t.sym.text,.int .i64 t.sym.n,.slice none 0 0]→(fun w9=>w9.cell? ⟨mb,2,none⟩=some (.slice (some ⟨gc,0,none⟩) vcs.length cC)∧w9.cell? ⟨gc,k*7+4,none⟩=some (.slice (some ⟨v.gv,0,none⟩) v.vs.length v.cap)∧w9.cell? ⟨b5,0,none⟩=some (.int .i64 t.rel)∧w9.cell? ⟨b5,1,none⟩=some (.string t.var)∧w9.cell? ⟨b5,2,none⟩=some (.int .i64 t.sym.kind)∧w9.cell? ⟨b5,3,none⟩=some (.string t.sym.text)∧w9.cell? ⟨b5,4,none⟩=some (.int .i64 t.sym.n)∧w9.cell? ⟨b5,5,none⟩=some (.slice none 0 0)) Z:=fun Z h1 h2 h3=>⟨h1,h2,h3.c6⟩;have HS0:=hid (SMK wr m2 q4 K5r.out);refine Z08 (fun w9=>w9.cell? ⟨mb,2,none⟩=some (.slice (some ⟨gc,0,none⟩) vcs.length cC)∧w9.cell? ⟨gc,k*7+4,none⟩=some (.slice (some ⟨v.gv,0,none⟩) v.vs.length v.cap)∧w9.cell? ⟨b5,0,none⟩=some (.int .i64 t.rel)∧w9.cell? ⟨b5,1,none⟩=some (.string t.var)∧w9.cell? ⟨b5,2,none⟩=some (.int .i64 t.sym.kind)∧w9.cell? ⟨b5,3,none⟩=some (.string t.sym.text)∧w9.cell? ⟨b5,4,none⟩=some (.int .i64 t.sym.n)∧w9.cell? ⟨b5,5,none⟩=some (.slice none 0 0)) [(0,0),(1,0),(2,0),(3,1),(4,0),(5,0),(6,0),(7,0),(8,1),(9,0),(10,0),(11,0),(12,1),(13,1),(14,2),(15,2),(16,0),(17,0),(18,2)] (by kernel_rfl) (by kernel_rfl) (fun KK hKK=>?_);simp only [Z05,Zie,Zi8,Zic,Zib,Zia,Zif];(repeat ((first | (refine Z09 ?_ (Or.inl ⟨by rfl,fun w9=>?_⟩) ?_;rotate_left 1;go_simp;with_reducible rfl) | (refine Z04 ?_ (HS0.out) (Or.inl ⟨by rfl,fun w9 hw9=>?_⟩) ?_;rotate_left 1;obtain ⟨s0_,s1_,s2_,s3_,s4_,s5_,s6_,s7_⟩:=hw9;go_simp;with_reducible rfl) | refine Z09 undef (Or.inr ⟨by rfl,rfl⟩) ?_ | refine Z04 undef (HS0.out) (Or.inr ⟨by rfl,rfl⟩) ?_);go_frame));refine Z19 (fun K9 hK9=>?_);go_simp;have HB7:=hid (show Below wr.heap.size wr _ from ((Zi5 wr.heap.size wr).drew.alloc (Zi6 _) (.cells #[.int .i64 t.rel,.string t.var,.int .i64 t.sym.kind,.string t.sym.text,.int .i64 t.sym.n,.slice none 0 0] 142)));have HS7:=hid (SMK _ ((HP.out.new_ HB7.out).cs.mkb.cell 2) (HQ4.out _ (HBA.out.trans (HB7.out.mono HBA.out.size))) (K5r.out.new_ HB7.out));refine hK9 _ _ HS7.out ?_;clear hK9 K9;refine Z19 (fun K9 hK9=>?_);obtain ⟨W7,hW7⟩ : ∃W,W=(wr.alloc (.cells #[.int .i64 t.rel,.string t.var,.int .i64 t.sym.kind,.string t.sym.text,.int .i64 t.sym.n,.slice none 0 0] 142)).drew:=⟨_,rfl⟩;rw [← hW7];(have hb7:Below wr.heap.size wr W7:=by rw [hW7];exact ((Zi5 _ _).alloc (Zi6 _) _).drew);have HP7:=hid (HP.out.new_ hb7);have HN7:=hid (show 0<1→∃ad,(some (⟨wr.heap.size,0,none⟩:Addr))=some ad∧∀j u,([t].flatMap Z0t.cell0)[j]? = some u→W7.cell? (ad.add j)=some u from fun _=>⟨_,rfl,by rw [hW7];exact Zij (heap_alloc_new wr _)⟩);have HV7:=hid (Z01 HVR.out hb7);clear hW7;refine Z12 W7 rfl _ _ 60 rfl 142 i1 _ 6 80 Tryz.underlying60 hi1 hy0 hy1 hy2 rfl (by omega) (.slice (some ⟨v.gv,0,none⟩) v.vs.length v.cap) v.vs.length (v.vs.flatMap Z0t.cell0) rfl HV7.out (some ⟨wr.heap.size,0,none⟩) 1 1 ([t].flatMap Z0t.cell0) rfl rfl HN7.out (Zdq _) (by unfold maxLen;omega) (by omega) ?_;intro v3 Y hown1 hg1 hnil1 hat1;obtain ⟨gc2,g',c',e0,rfl,yc,yf,yz,hkb,hall⟩:=HP7.out.addT HSPL.out ht hown1 hg1 hat1;injection e0 with e0;injection e0 with e0 e1;subst e0;rw [HPL.out] at yc yf hall;have HALL:=hid hall;have HSY:=hid (SMK (Y) ((hkb _ _ _ HP7.out.cs.mkb (fun e=>Z06 HOK.out.vr (H.out.cs.mkb) (by decide) (by rw [e];rfl))).cell 2) yc (hkb _ _ _ (K5r.out.new_ hb7) HNE5.out.symm));clear hown1 hg1 hnil1 hat1 hall hkb HP7 HN7 HV7 q4 m2 mz gz hb7;refine hK9 _ _ HSY.out ?_;clear hK9 K9;(repeat ((first | (refine Z09 ?_ (Or.inl ⟨by rfl,fun w9=>?_⟩) ?_;rotate_left 1;go_simp;with_reducible rfl) | (refine Z04 ?_ (HSY.out) (Or.inl ⟨by rfl,fun w9 hw9=>?_⟩) ?_;rotate_left 1;obtain ⟨s0_,s1_,s2_,s3_,s4_,s5_,s6_,s7_⟩:=hw9;go_simp;with_reducible rfl) | refine Z09 undef (Or.inr ⟨by rfl,rfl⟩) ?_ | refine Z04 undef (HSY.out) (Or.inr ⟨by rfl,rfl⟩) ?_);go_frame));refine Z28 (by kernel_rfl) (fun K9 hK9=>?_);go_simp;have HF:=hid (HALL.out _ rfl);refine hK9 _ _ ?_
    clear hK9 K9;refine Z0v ?_;simp only [Z00];refine hKK _ _ ?_;clear hKK KK;(go_wp2_with fail);go_end0;have h9:=Zbn HF.out HSPL.out HNO.out;rw [HPL.out] at h9;exact h9
end
end
section
open Go.RowKit Go.Shelf
attribute [local go_sem] Oper.semAt_some
set_option linter.unusedSimpArgs false
section
variable {X:World} {bx:Array Value} {nb mb:Nat} {ns:List Sym} {es:List Elem} {AO:Option Addr} {cO:Nat} {vcs:List VCo} {AC:Option Addr} {cC:Nat} {tags:List Int} {At:Option Addr} {ct:Nat} {D:Nat→Prop}
def Z9o (X:World) (bx:Array Value) (nb mb:Nat) (ns:List Sym) (es:List Elem) (AO:Option Addr) (cO:Nat) (vcs:List VCo) (AC:Option Addr) (cC:Nat) (tags:List Int) (At:Option Addr) (ct:Nat) (D:Nat→Prop) (vss:List (List Z0t)) (w':World):Prop:=
 ∃vcs':List VCo,P3 X bx nb mb ns es AO cO vcs' AC cC tags At ct D w'∧vcs'.map VCo.vs=vss∧vcs'.map VCo.hd=vcs.map VCo.hd
theorem Zgn (id c:Sym) (w:World) (h:P3 X bx nb mb ns es AO cO vcs AC cC tags At ct D w) (hl:vcs.length=es.length) (hvl : ∀v∈vcs,v.vs.length≤1000) :
 Calls Tryz.prog 110 #[.pointer (some ⟨mb,0,none⟩),.agg #[.int .i64 id.kind,.string id.text,.int .i64 id.n],.agg #[.int .i64 c.kind,.string c.text,.int .i64 c.n]] w fun e w'=>e = .returned (.tuple #[])∧Z9o X bx nb mb ns es AO cO vcs AC cC tags At ct D (oneV es id c (vcs.map VCo.vs)) w':=by
 have H:=hid h;have HVL:=hid hvl;have hlc:=(Z0a Elem.cells_length h.cs.eo).cap;obtain ⟨m0,m1,m2⟩:=h.cs.mkb.c3;have mz:=h.cs.mkb.lt;clear h hvl;go_enter Tryz.func110,Tryz.ntmps110;(go_upto_region 2 with fail);clear m0 m1 m2 mz;obtain ⟨W1,hW1⟩ : ∃W,W=(w.alloc (.cells #[.int .i64 id.kind,.string id.text,.int .i64 id.n] 23)).alloc (.cells #[.int .i64 c.kind,.string c.text,.int .i64 c.n] 23):=⟨_,rfl⟩;obtain ⟨b4,hb4⟩ : ∃b,b=w.heap.size:=⟨_,rfl⟩;obtain ⟨b5,hb5⟩ : ∃b,b=w.heap.size+1:=⟨_,rfl⟩;have K4:=hid (show Blk W1 b4 23 #[.int .i64 id.kind,.string id.text,.int .i64 id.n] by rw [hW1,hb4];exact (Blk.new _ _ _).alloc _);have K5:=hid (show Blk W1 b5 23 #[.int .i64 c.kind,.string c.text,.int .i64 c.n] by rw [hW1,hb5];have hh:=Blk.new (w.alloc (.cells #[.int .i64 id.kind,.string id.text,.int .i64 id.n] 23)) 23 #[.int .i64 c.kind,.string c.text,.int .i64 c.n];simp only [Zir] at hh;exact hh);have HB:=hid (show Below w.heap.size w W1 by rw [hW1];exact ((Zi5 _ _).alloc (Zi6 _) _).alloc (by simp) _);(try simp only [Zir]);rw [← hW1];(try rw [← hb5]);(try rw [← hb4]);clear hW1 hb4 hb5
 go_loopw [13] (fun v wr=>∃i:Nat,v = .int .i64 (i:Int)∧i≤es.length∧oneF id 0 es=oneF id i (es.drop i)∧Below W1.heap.size W1 wr) (fun v wr=>es.length - (intOf v).toNat)
 case atStart=>exact ⟨0,rfl,Nat.zero_le _,rfl,Zi5 _ _⟩
 case round=>
  obtain ⟨i,rfl,hi,hno,hbw⟩:=hrel;have HNO:=hid hno;have HBW:=hid hbw;have HBA:=hid (HB.out.trans (hbw.mono HB.out.size));clear hno hbw;by_cases hlt:i<es.length
  · skip
    obtain ⟨y,hy⟩ : ∃y,y=es[i]:=⟨_,rfl⟩;obtain ⟨g,off,hAA,hgl,hrg⟩:=(Z0a Elem.cells_length (H.out.new_ HBA.out).cs.eo).range hlt;rw [← hy] at hrg;subst hAA;have HDR:=hid (show es.drop i=y :: es.drop (i+1) by rw [hy];exact Zj2 hlt);have HRG:=hid (show wr.rangeAt g (off+i*12) [.int .i64 y.id.kind,.string y.id.text,.int .i64 y.id.n,.int .i64 y.attr.kind,.string y.attr.text,.int .i64 y.attr.n,.int .i64 y.value.kind,.string y.value.text,.int .i64 y.value.n,.bool y.acc,.bool y.goal,.int .i64 y.tag] from hrg);obtain ⟨W5,hW5,hth,hrg5,hb5,hz5⟩:=Z4e (w:=wr) (t:=55) [.int .i64 0,.string ⟨#[]⟩,.int .i64 0,.int .i64 0,.string ⟨#[]⟩,.int .i64 0,.int .i64 0,.string ⟨#[]⟩,.int .i64 0,.bool false,.bool false,.int .i64 0] [.int .i64 y.id.kind,.string y.id.text,.int .i64 y.id.n,.int .i64 y.attr.kind,.string y.attr.text,.int .i64 y.attr.n,.int .i64 y.value.kind,.string y.value.text,.int .i64 y.value.n,.bool y.acc,.bool y.goal,.int .i64 y.tag] rfl;have HW5:=hid hW5;have HTH:=hid hth;have HBW5:=hid (HBW.out.trans (hb5.mono HBW.out.size));have HBA5:=hid (HBA.out.trans (hb5.mono HBA.out.size));have HP5:=hid (H.out.new_ HBA5.out);have q6:W5.cell? ⟨wr.heap.size,6,none⟩=some (.int .i64 y.value.kind):=hrg5 6 _ rfl;have q7:W5.cell? ⟨wr.heap.size,7,none⟩=some (.string y.value.text):=hrg5 7 _ rfl;have q8:W5.cell? ⟨wr.heap.size,8,none⟩=some (.int .i64 y.value.n):=hrg5 8 _ rfl;(have qz:wr.heap.size<W5.heap.size:=by omega);(have j1:(0:Int)≤(i:Int):=by omega);(have j2:(i:Int)<(es.length:Int):=by omega);have v1:IntKind.i64.wrap ((i:Int)+1)=(i:Int)+1:=Zii _ (by omega);clear hW5 hth hrg hy hgl;obtain ⟨s0,s1,s2⟩:=(K4.out.new_ HBW5.out).c3;have sz:=(K4.out.new_ HBW5.out).lt;obtain ⟨r0,r1,r2⟩:=(K5.out.new_ HBW5.out).c3;have rz:=(K5.out.new_ HBW5.out).lt;clear hrg5 hb5 hz5;have heq:=Z38 y.value id;by_cases he:y.value=id
    case pos=>
     rw [Zih he] at heq;have HF:=hid (show oneV es id c (vcs.map VCo.vs)=putT (vcs.map VCo.vs) i ⟨2,⟨#[]⟩,c,[]⟩ by unfold oneV;rw [HNO.out,HDR.out,oneF,if_pos he]);clear he;have HAD:=hid (Zcf i ⟨2,⟨#[]⟩,c,[]⟩ W5 HP5.out (by omega) rfl (HVL.out _ (Zip (by omega))))
     go_wp2_with (first
      | (with_reducible refine wpList_load_mid rfl 55 _ rfl g (off+i*12) rfl _ _ HRG.out Tryz.underlying55 rfl (by kernel_rfl) ?_)
      | ((with_reducible refine wpList_store_mid rfl 55 _ _ rfl wr.heap.size 0 #[.int .i64 y.id.kind,.string y.id.text,.int .i64 y.id.n,.int .i64 y.attr.kind,.string y.attr.text,.int .i64 y.attr.n,.int .i64 y.value.kind,.string y.value.text,.int .i64 y.value.n,.bool y.acc,.bool y.goal,.int .i64 y.tag] rfl rfl HTH.out (by kernel_rfl) (by kernel_rfl) ?_);rw [← HW5.out]))
     refine HAD.out.mono ?_;rintro e w9 ⟨vcs',rfl,hp,hvs,hhd⟩;have HR:=hid (show Z9o X bx nb mb ns es _ cO vcs AC cC tags At ct D (oneV es id c (vcs.map VCo.vs)) w9 from ⟨vcs',hp,by rw [HF.out];exact hvs,hhd⟩);clear hp hvs hhd q6 q7 q8 qz s0 s1 s2 sz r0 r1 r2 rz;go_wp2_with fail
     (try simp only [Exit.inBlock,Exit.then])
     refine bodyPost_ret (results_none rfl _ _ _) rfl ?_;exact ⟨rfl,HR.out⟩
    rw [Zi7 he] at heq;have HN:=hid (show oneF id 0 es=oneF id (i+1) (es.drop (i+1)) by rw [HNO.out,HDR.out,oneF,if_neg he]);clear he
    go_wp2_with (first
     | (with_reducible refine wpList_load_mid rfl 55 _ rfl g (off+i*12) rfl _ _ HRG.out Tryz.underlying55 rfl (by kernel_rfl) ?_)
     | ((with_reducible refine wpList_store_mid rfl 55 _ _ rfl wr.heap.size 0 #[.int .i64 y.id.kind,.string y.id.text,.int .i64 y.id.n,.int .i64 y.attr.kind,.string y.attr.text,.int .i64 y.attr.n,.int .i64 y.value.kind,.string y.value.text,.int .i64 y.value.n,.bool y.acc,.bool y.goal,.int .i64 y.tag] rfl rfl HTH.out (by kernel_rfl) (by kernel_rfl) ?_);rw [← HW5.out]))
    go_roundw
    case rel=>exact ⟨i+1,by go_num,by omega,HN.out,HBW5.out⟩
    case measure=>simp [intOf]<;>omega
  · obtain rfl:i=es.length:=by omega
    (have jz : ¬(es.length:Int)<(es.length:Int):=by omega);have HF:=hid (show oneV es id c (vcs.map VCo.vs)=vcs.map VCo.vs by unfold oneV;rw [HNO.out,Zjd,oneF]);(go_wp2_with fail);go_end0;exact ⟨rfl,vcs,H.out.new_ HBA.out,HF.out.symm,rfl⟩
end
end
section
open Go.RowKit Go.Shelf
attribute [local go_sem] Oper.semAt_some
set_option linter.unusedSimpArgs false
section
variable {X:World} {bx:Array Value} {nb mb:Nat} {ns:List Sym} {es:List Elem} {AO:Option Addr} {cO:Nat} {vcs:List VCo} {AC:Option Addr} {cC:Nat} {tags:List Int} {At:Option Addr} {ct:Nat} {D:Nat→Prop}
theorem Blk.setAllE {w:World} {g:Nat} {t:TypeId} {cs:Array Value} {vs:List Value} (h:Blk w g t cs) (hl:cs.size=vs.length):Blk (w.setCells g 0 vs) g t vs.toArray:=by
 have hr:=Zi9 w g 0 vs (by have:=h.there;rwa [hl] at this);obtain ⟨cs',h1,h2⟩:=Blk.setCells_ vs 0 h
 have e:cs'=vs.toArray:=by
  apply Array.ext
  · rw [h2];simpa using hl
  · intro i hi hj
    (have hj':i<vs.length:=by simpa using hj);have h3:=hr i vs[i] (Zig hj');rw [show (0+i)=i by omega,h1.cell i,Array.getElem?_eq_getElem hi] at h3;simpa using h3
 rw [← e];exact h1
def Zhp (X:World) (bx:Array Value) (nb mb:Nat) (ns:List Sym) (es:List Elem) (AO:Option Addr) (cO:Nat) (vcs:List VCo) (AC:Option Addr) (cC:Nat) (tags:List Int) (At:Option Addr) (ct:Nat) (D:Nat→Prop) (r:Option (List (List Z0t))) (e:Ending) (w':World):Prop:=
 match r with
 | none=>e = .returned (.bool false)∧P3 X bx nb mb ns es AO cO vcs AC cC tags At ct D w'
 | some vss=>e = .returned (.bool true)∧Z9o X bx nb mb ns es AO cO vcs AC cC tags At ct D vss w'
theorem Zhx (x:Z0l) (w:World) (h:P3 X bx nb mb ns es AO cO vcs AC cC tags At ct D w) (hl:vcs.length=es.length) (hvl : ∀v∈vcs,v.vs.length≤1000) (hn:ns.length≤1000) (hel:es.length≤1000) :
 Calls Tryz.prog 109 #[.pointer (some ⟨mb,0,none⟩),.agg #[.int .i64 x.a.kind,.string x.a.text,.int .i64 x.a.n,.int .i64 x.b.kind,.string x.b.text,.int .i64 x.b.n,.int .i64 x.rel]] w (Zhp X bx nb mb ns es AO cO vcs AC cC tags At ct D (twoV ns es x (vcs.map VCo.vs))):=by
 have H:=hid h;have HVL:=hid hvl;have HNL:=hid hn;have hlc:=(Z0a Elem.cells_length h.cs.eo).cap;obtain ⟨m0,m1,m2⟩:=h.cs.mkb.c3;have mz:=h.cs.mkb.lt;clear h hvl hn;go_enter Tryz.func109,Tryz.ntmps109;(go_upto_region 2 with fail);clear m0 m1 m2 mz;obtain ⟨W1,hW1⟩ : ∃W,W=w.alloc (.cells #[.int .i64 x.a.kind,.string x.a.text,.int .i64 x.a.n,.int .i64 x.b.kind,.string x.b.text,.int .i64 x.b.n,.int .i64 x.rel] 34):=⟨_,rfl⟩;obtain ⟨b3,hb3⟩ : ∃b,b=w.heap.size:=⟨_,rfl⟩;have K3:=hid (show Blk W1 b3 34 #[.int .i64 x.a.kind,.string x.a.text,.int .i64 x.a.n,.int .i64 x.b.kind,.string x.b.text,.int .i64 x.b.n,.int .i64 x.rel] by rw [hW1,hb3];exact Blk.new _ _ _);have HB:=hid (show Below w.heap.size w W1 by rw [hW1];exact (Zi5 _ _).alloc (Zi6 _) _);rw [← hW1,← hb3];clear hW1 hb3
 go_loopw [13] (fun v wr=>∃i:Nat,v = .int .i64 (i:Int)∧i≤es.length∧twoF es x.a x.b 0 es=twoF es x.a x.b i (es.drop i)∧Below W1.heap.size W1 wr) (fun v wr=>es.length - (intOf v).toNat)
 case atStart=>exact ⟨0,rfl,Nat.zero_le _,rfl,Zi5 _ _⟩
 case round=>
  obtain ⟨i,rfl,hi,hno,hbw⟩:=hrel;have HNO:=hid hno;have HBW:=hid hbw;have HBA:=hid (HB.out.trans (hbw.mono HB.out.size));clear hno hbw;by_cases hlt:i<es.length
  · skip
    obtain ⟨y,hy⟩ : ∃y,y=es[i]:=⟨_,rfl⟩;obtain ⟨g,off,hAA,hgl,hrg⟩:=(Z0a Elem.cells_length (H.out.new_ HBA.out).cs.eo).range hlt;rw [← hy] at hrg;subst hAA;have HDR:=hid (show es.drop i=y :: es.drop (i+1) by rw [hy];exact Zj2 hlt);have HRG:=hid (show wr.rangeAt g (off+i*12) [.int .i64 y.id.kind,.string y.id.text,.int .i64 y.id.n,.int .i64 y.attr.kind,.string y.attr.text,.int .i64 y.attr.n,.int .i64 y.value.kind,.string y.value.text,.int .i64 y.value.n,.bool y.acc,.bool y.goal,.int .i64 y.tag] from hrg);obtain ⟨W5,hW5,hth,hrg5,hb5,hz5⟩:=Z4e (w:=wr) (t:=55) [.int .i64 0,.string ⟨#[]⟩,.int .i64 0,.int .i64 0,.string ⟨#[]⟩,.int .i64 0,.int .i64 0,.string ⟨#[]⟩,.int .i64 0,.bool false,.bool false,.int .i64 0] [.int .i64 y.id.kind,.string y.id.text,.int .i64 y.id.n,.int .i64 y.attr.kind,.string y.attr.text,.int .i64 y.attr.n,.int .i64 y.value.kind,.string y.value.text,.int .i64 y.value.n,.bool y.acc,.bool y.goal,.int .i64 y.tag] rfl;have HW5:=hid hW5;have HTH:=hid hth;have HBW5:=hid (HBW.out.trans (hb5.mono HBW.out.size));have HBA5:=hid (HBA.out.trans (hb5.mono HBA.out.size));have HP5:=hid (H.out.new_ HBA5.out);have q6:W5.cell? ⟨wr.heap.size,6,none⟩=some (.int .i64 y.value.kind):=hrg5 6 _ rfl;have q7:W5.cell? ⟨wr.heap.size,7,none⟩=some (.string y.value.text):=hrg5 7 _ rfl;have q8:W5.cell? ⟨wr.heap.size,8,none⟩=some (.int .i64 y.value.n):=hrg5 8 _ rfl;(have qz:wr.heap.size<W5.heap.size:=by omega);(have j1:(0:Int)≤(i:Int):=by omega);(have j2:(i:Int)<(es.length:Int):=by omega);have v1:IntKind.i64.wrap ((i:Int)+1)=(i:Int)+1:=Zii _ (by omega);clear hW5 hth hrg hy hgl;clear hrg5;obtain ⟨W6,hW6,hth6,hrg6,hb6,hz6⟩:=Z4e (w:=W5) (t:=23) [.int .i64 0,.string ⟨#[]⟩,.int .i64 0] [.int .i64 x.b.kind,.string x.b.text,.int .i64 x.b.n] rfl;have HW6:=hid hW6;have HTH6:=hid hth6;have HB56:=hid (hb5.trans (hb6.mono hb5.size));have HKE:=hid (show Blk W5 wr.heap.size 55 #[.int .i64 y.id.kind,.string y.id.text,.int .i64 y.id.n,.int .i64 y.attr.kind,.string y.attr.text,.int .i64 y.attr.n,.int .i64 y.value.kind,.string y.value.text,.int .i64 y.value.n,.bool y.acc,.bool y.goal,.int .i64 y.tag] from Z1e (zs:=[.int .i64 0,.string ⟨#[]⟩,.int .i64 0,.int .i64 0,.string ⟨#[]⟩,.int .i64 0,.int .i64 0,.string ⟨#[]⟩,.int .i64 0,.bool false,.bool false,.int .i64 0]) (vs:=[.int .i64 y.id.kind,.string y.id.text,.int .i64 y.id.n,.int .i64 y.attr.kind,.string y.attr.text,.int .i64 y.attr.n,.int .i64 y.value.kind,.string y.value.text,.int .i64 y.value.n,.bool y.acc,.bool y.goal,.int .i64 y.tag]) rfl HW5.out (by rw [HW5.out];exact Zi9 _ _ _ _ HTH.out));have HKO:=hid (show Blk W6 W5.heap.size 23 #[.int .i64 x.b.kind,.string x.b.text,.int .i64 x.b.n] from Z1e (zs:=[.int .i64 0,.string ⟨#[]⟩,.int .i64 0]) (vs:=[.int .i64 x.b.kind,.string x.b.text,.int .i64 x.b.n]) rfl hW6 hrg6);have HKE6:=hid (HKE.out.new_ hb6);have HBW6:=hid (HBW5.out.trans (hb6.mono HBW5.out.size));have HBA6:=hid (HBA5.out.trans (hb6.mono HBA5.out.size));have HK36:=hid (K3.out.new_ HBW6.out);clear q6 q7 q8 qz hW6 hth6 hrg6 hb6 hz6 hb5 hz5;have q6:=(HKE6.out.cell 6).trans rfl;have q7:=(HKE6.out.cell 7).trans rfl;have q8:=(HKE6.out.cell 8).trans rfl;have qz:=HKE6.out.lt;obtain ⟨x0,x1,x2,x3,x4,x5,x6⟩:=HK36.out.c7;have xz:=HK36.out.lt;have K35:=hid (K3.out.new_ HBW5.out);obtain ⟨p0,p1,p2,p3,p4,p5,p6⟩:=K35.out.c7;have pz:=K35.out.lt
    have heq1:=Z38 y.value x.b;have heq2:=Z7x y.value x.a;by_cases he1:y.value=x.b
    case pos=>
     rw [Zih he1] at heq1;have HO:=hid (show Z48 x.a x.b y.value=some x.a by rw [Z48,if_pos he1]);obtain ⟨W7,hW7⟩ : ∃W,W=W6.setCells W5.heap.size 0 [.int .i64 x.a.kind,.string x.a.text,.int .i64 x.a.n]:=⟨_,rfl⟩;have HW7:=hid hW7;have HKO7:=hid (show Blk W7 W5.heap.size 23 #[.int .i64 x.a.kind,.string x.a.text,.int .i64 x.a.n] by rw [hW7];exact Blk.setAllE HKO.out rfl);have HBW7:=hid (show Below W1.heap.size W1 W7 by rw [hW7];exact Below.setCells' _ _ HBW6.out HBW5.out.size);have HBA7:=hid (show Below w.heap.size w W7 by rw [hW7];exact Below.setCells' _ _ HBA6.out HBA5.out.size);have HTO:=hid (show W6.there W5.heap.size 0 (#[.int .i64 x.a.kind,.string x.a.text,.int .i64 x.a.n]:Array Value).size from HKO.out.there);obtain ⟨o0,o1,o2⟩:=HKO7.out.c3;have oz:=HKO7.out.lt;clear hW7 he1 heq2;have HMT:=hid (Zgl i (x.a) W7 (H.out.new_ HBA7.out).cs hlt hel)
     go_wp2_with (first
      | (with_reducible refine wpList_load_mid rfl 55 _ rfl g (off+i*12) rfl _ _ HRG.out Tryz.underlying55 rfl (by kernel_rfl) ?_)
      | ((with_reducible refine wpList_store_mid rfl 55 _ _ rfl wr.heap.size 0 #[.int .i64 y.id.kind,.string y.id.text,.int .i64 y.id.n,.int .i64 y.attr.kind,.string y.attr.text,.int .i64 y.attr.n,.int .i64 y.value.kind,.string y.value.text,.int .i64 y.value.n,.bool y.acc,.bool y.goal,.int .i64 y.tag] rfl rfl HTH.out (by kernel_rfl) (by kernel_rfl) ?_);rw [← HW5.out])
      | ((with_reducible refine wpList_store_mid rfl 23 _ _ rfl W5.heap.size 0 #[.int .i64 x.b.kind,.string x.b.text,.int .i64 x.b.n] rfl rfl HTH6.out (by kernel_rfl) (by kernel_rfl) ?_);rw [← HW6.out])
      | ((with_reducible refine wpList_store_mid rfl 23 _ _ rfl W5.heap.size 0 #[.int .i64 x.a.kind,.string x.a.text,.int .i64 x.a.n] rfl rfl HTO.out (by kernel_rfl) (by kernel_rfl) ?_);rw [← HW7.out]))
     refine HMT.out.mono ?_;rintro e w8 ⟨rfl,hb8⟩;clear o0 o1 o2 oz q6 q7 q8 qz x0 x1 x2 x3 x4 x5 x6 xz p0 p1 p2 p3 p4 p5 p6 pz heq1;have HB8:=hid hb8;have HBW8:=hid (HBW7.out.trans (hb8.mono HBW7.out.size));have HBA8:=hid (HBA7.out.trans (hb8.mono HBA7.out.size));clear hb8;obtain ⟨m,hm⟩ : ∃m,m=metV es i (x.a):=⟨_,rfl⟩;rw [← hm];cases m
     case false=>
      have HN:=hid (show twoF es x.a x.b 0 es=twoF es x.a x.b (i+1) (es.drop (i+1)) by rw [HNO.out,HDR.out,twoF,HO.out];exact if_neg (by rw [← hm];decide));clear hm;(go_wp2_with fail);go_roundw
      case rel=>exact ⟨i+1,by go_num,by omega,HN.out,HBW8.out⟩
      case measure=>simp [intOf]<;>omega
     have HE:=hid (show twoV ns es x (vcs.map VCo.vs)=some (putT (vcs.map VCo.vs) i (Z1h ns x.rel (x.a))) by
      have e:twoF es x.a x.b 0 es=some (i,x.a):=by rw [HNO.out,HDR.out,twoF,HO.out];exact if_pos hm.symm
      unfold twoV;rw [e])
     clear hm;obtain ⟨o0,o1,o2⟩:=(HKO7.out.new_ HB8.out).c3;have oz:=(HKO7.out.new_ HB8.out).lt;obtain ⟨x0,x1,x2,x3,x4,x5,x6⟩:=(K3.out.new_ HBW8.out).c7;have xz:=(K3.out.new_ HBW8.out).lt;have HP8:=hid (H.out.new_ HBA8.out);have HTE:=hid (Z7w x.rel (x.a) w8 HP8.out.cs.nm HP8.out.cs.mk_ HNL.out);(go_wp2_with fail);refine HTE.out.mono ?_;rintro e w9 ⟨rfl,hb9⟩;have HP9:=hid (HP8.out.new_ hb9);have HAD:=hid (Zcf i (Z1h ns x.rel (x.a)) w9 HP9.out (by omega) (by unfold Z1h;split<;>rfl) (HVL.out _ (Zip (by omega))));clear o0 o1 o2 oz x0 x1 x2 x3 x4 x5 x6 xz hb9;(go_wp2_with fail);refine HAD.out.mono ?_;rintro e w10 ⟨vcs',rfl,hp,hvs,hhd⟩;have HR:=hid (show Z9o X bx nb mb ns es _ cO vcs AC cC tags At ct D (putT (vcs.map VCo.vs) i (Z1h ns x.rel (x.a))) w10 from ⟨vcs',hp,hvs,hhd⟩);clear hp hvs hhd;(go_wp2_with fail);go_ret;rw [HE.out];exact And.intro rfl HR.out
    rw [Zi7 he1] at heq1;by_cases he2:y.value=x.a
    case pos=>
     rw [Zih he2] at heq2;simp only [Bool.not_true] at heq2;have HO:=hid (show Z48 x.a x.b y.value=some x.b by rw [Z48,if_neg he1,if_pos he2]);obtain ⟨o0,o1,o2⟩:=HKO.out.c3;have oz:=HKO.out.lt;clear he1 he2;have HMT:=hid (Zgl i (x.b) W6 (H.out.new_ HBA6.out).cs hlt hel)
     go_wp2_with (first
      | (with_reducible refine wpList_load_mid rfl 55 _ rfl g (off+i*12) rfl _ _ HRG.out Tryz.underlying55 rfl (by kernel_rfl) ?_)
      | ((with_reducible refine wpList_store_mid rfl 55 _ _ rfl wr.heap.size 0 #[.int .i64 y.id.kind,.string y.id.text,.int .i64 y.id.n,.int .i64 y.attr.kind,.string y.attr.text,.int .i64 y.attr.n,.int .i64 y.value.kind,.string y.value.text,.int .i64 y.value.n,.bool y.acc,.bool y.goal,.int .i64 y.tag] rfl rfl HTH.out (by kernel_rfl) (by kernel_rfl) ?_);rw [← HW5.out])
      | ((with_reducible refine wpList_store_mid rfl 23 _ _ rfl W5.heap.size 0 #[.int .i64 x.b.kind,.string x.b.text,.int .i64 x.b.n] rfl rfl HTH6.out (by kernel_rfl) (by kernel_rfl) ?_);rw [← HW6.out]))
     refine HMT.out.mono ?_;rintro e w8 ⟨rfl,hb8⟩;clear o0 o1 o2 oz q6 q7 q8 qz x0 x1 x2 x3 x4 x5 x6 xz p0 p1 p2 p3 p4 p5 p6 pz heq1 heq2;have HB8:=hid hb8;have HBW8:=hid (HBW6.out.trans (hb8.mono HBW6.out.size));have HBA8:=hid (HBA6.out.trans (hb8.mono HBA6.out.size));clear hb8;obtain ⟨m,hm⟩ : ∃m,m=metV es i (x.b):=⟨_,rfl⟩;rw [← hm];cases m
     case false=>
      have HN:=hid (show twoF es x.a x.b 0 es=twoF es x.a x.b (i+1) (es.drop (i+1)) by rw [HNO.out,HDR.out,twoF,HO.out];exact if_neg (by rw [← hm];decide));clear hm;(go_wp2_with fail);go_roundw
      case rel=>exact ⟨i+1,by go_num,by omega,HN.out,HBW8.out⟩
      case measure=>simp [intOf]<;>omega
     have HE:=hid (show twoV ns es x (vcs.map VCo.vs)=some (putT (vcs.map VCo.vs) i (Z1h ns x.rel (x.b))) by
      have e:twoF es x.a x.b 0 es=some (i,x.b):=by rw [HNO.out,HDR.out,twoF,HO.out];exact if_pos hm.symm
      unfold twoV;rw [e])
     clear hm;obtain ⟨o0,o1,o2⟩:=(HKO.out.new_ HB8.out).c3;have oz:=(HKO.out.new_ HB8.out).lt;obtain ⟨x0,x1,x2,x3,x4,x5,x6⟩:=(K3.out.new_ HBW8.out).c7;have xz:=(K3.out.new_ HBW8.out).lt;have HP8:=hid (H.out.new_ HBA8.out);have HTE:=hid (Z7w x.rel (x.b) w8 HP8.out.cs.nm HP8.out.cs.mk_ HNL.out);(go_wp2_with fail);refine HTE.out.mono ?_;rintro e w9 ⟨rfl,hb9⟩;have HP9:=hid (HP8.out.new_ hb9);have HAD:=hid (Zcf i (Z1h ns x.rel (x.b)) w9 HP9.out (by omega) (by unfold Z1h;split<;>rfl) (HVL.out _ (Zip (by omega))));clear o0 o1 o2 oz x0 x1 x2 x3 x4 x5 x6 xz hb9;(go_wp2_with fail);refine HAD.out.mono ?_;rintro e w10 ⟨vcs',rfl,hp,hvs,hhd⟩;have HR:=hid (show Z9o X bx nb mb ns es _ cO vcs AC cC tags At ct D (putT (vcs.map VCo.vs) i (Z1h ns x.rel (x.b))) w10 from ⟨vcs',hp,hvs,hhd⟩);clear hp hvs hhd;(go_wp2_with fail);go_ret;rw [HE.out];exact And.intro rfl HR.out
    rw [Zi7 he2] at heq2;simp only [Bool.not_false] at heq2;have HN:=hid (show twoF es x.a x.b 0 es=twoF es x.a x.b (i+1) (es.drop (i+1)) by rw [HNO.out,HDR.out,twoF,show Z48 x.a x.b y.value=none by rw [Z48,if_neg he1,if_neg he2]]);clear he1 he2
    go_wp2_with (first
     | (with_reducible refine wpList_load_mid rfl 55 _ rfl g (off+i*12) rfl _ _ HRG.out Tryz.underlying55 rfl (by kernel_rfl) ?_)
     | ((with_reducible refine wpList_store_mid rfl 55 _ _ rfl wr.heap.size 0 #[.int .i64 y.id.kind,.string y.id.text,.int .i64 y.id.n,.int .i64 y.attr.kind,.string y.attr.text,.int .i64 y.attr.n,.int .i64 y.value.kind,.string y.value.text,.int .i64 y.value.n,.bool y.acc,.bool y.goal,.int .i64 y.tag] rfl rfl HTH.out (by kernel_rfl) (by kernel_rfl) ?_);rw [← HW5.out])
     | ((with_reducible refine wpList_store_mid rfl 23 _ _ rfl W5.heap.size 0 #[.int .i64 x.b.kind,.string x.b.text,.int .i64 x.b.n] rfl rfl HTH6.out (by kernel_rfl) (by kernel_rfl) ?_);rw [← HW6.out]))
    go_roundw
    case rel=>exact ⟨i+1,by go_num,by omega,HN.out,HBW6.out⟩
    case measure=>simp [intOf]<;>omega
  · obtain rfl:i=es.length:=by omega
    (have jz : ¬(es.length:Int)<(es.length:Int):=by omega);have HF:=hid (show twoV ns es x (vcs.map VCo.vs)=none by unfold twoV;rw [HNO.out,Zjd,twoF]);(go_wp2_with fail);go_ret;rw [HF.out];exact ⟨rfl,H.out.new_ HBA.out⟩
end
end
end Go.Proofs.YtldndkngpdfpfaaGreat
