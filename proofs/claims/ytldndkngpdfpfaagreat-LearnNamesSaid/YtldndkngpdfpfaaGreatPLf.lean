/-
  Texts put together: VaryN2, Own, OwnC, BkInfo, VaryN3.
-/
import Derived.Test.YtldndkngpdfpfaaGreatPLe
import Derived.Test.YtldndkngpdfpfaaGreatPLb
import Derived.Deep.Cut
import Derived.Maps.RangeWalk
namespace Go.Proofs.YtldndkngpdfpfaaGreat
set_option maxRecDepth 100000
set_option maxHeartbeats 32000000
section
open Go.RowKit Go.Shelf
attribute [local go_sem] Oper.semAt_some
set_option linter.unusedSimpArgs false
theorem ahead_is {D:Nat→Prop} {nb:Nat} {ns:List Sym} (a b:Elem) (w:World) (h:Nm D w nb ns) (hl:ns.length≤100000):Calls Tryz.prog 101 #[.pointer (some ⟨nb,0,none⟩),.agg #[.int .i64 a.id.kind,.string a.id.text,.int .i64 a.id.n,.int .i64 a.attr.kind,.string a.attr.text,.int .i64 a.attr.n,.int .i64 a.value.kind,.string a.value.text,.int .i64 a.value.n,.bool a.acc,.bool a.goal,.int .i64 a.tag],.agg #[.int .i64 b.id.kind,.string b.id.text,.int .i64 b.id.n,.int .i64 b.attr.kind,.string b.attr.text,.int .i64 b.attr.n,.int .i64 b.value.kind,.string b.value.text,.int .i64 b.value.n,.bool b.acc,.bool b.goal,.int .i64 b.tag]] w fun e w'=>e = .returned (.bool (aheadV ns a b))∧Below w.heap.size w w':=by
 have HID:=Lib.hid (fun (s:Sym) W (hW:Below w.heap.size w W)=>nid_is s W (h.new_ hW) hl);have HRK:=Lib.hid (fun (s:Sym) W (hW:Below w.heap.size w W)=>nrank_is s W (h.new_ hW) hl);have HPL:=Lib.hid (fun (s:Sym) W (hW:Below w.heap.size w W)=>place_is s W (h.new_ hW) hl);have HC:=Lib.hid (show aheadC ns a b=_ from rfl);unfold aheadC at HC;clear h hl;obtain ⟨v,hv⟩ : ∃v,v=aheadV ns a b:=⟨_,rfl⟩;rw [← hv];have HV:=Lib.hid hv;clear hv;obtain ⟨i,hi⟩ : ∃x,x=idN ns a.id:=⟨_,rfl⟩;obtain ⟨j,hj⟩ : ∃x,x=idN ns b.id:=⟨_,rfl⟩;obtain ⟨c1,hc1⟩ : ∃x,x=cmpInt (idN ns a.id) (idN ns b.id):=⟨_,rfl⟩;obtain ⟨c2,hc2⟩ : ∃x,x=cmpSym a.attr b.attr:=⟨_,rfl⟩;obtain ⟨ra,hra⟩ : ∃x,x=rkN ns a.value:=⟨_,rfl⟩;obtain ⟨rb,hrb⟩ : ∃x,x=rkN ns b.value:=⟨_,rfl⟩;obtain ⟨c4,hc4⟩ : ∃x,x=cmpInt (rkN ns a.value) (rkN ns b.value):=⟨_,rfl⟩;obtain ⟨c5,hc5⟩ : ∃x,x=cmpSym a.value b.value:=⟨_,rfl⟩;obtain ⟨c6,hc6⟩ : ∃x,x=cmpInt (plV ns a.value:Int) (plV ns b.value:Int):=⟨_,rfl⟩;obtain ⟨c7,hc7⟩ : ∃x,x=cmpInt a.tag b.tag:=⟨_,rfl⟩;have HIA:=Lib.hid (show ∀W,Below w.heap.size w W→Calls Tryz.prog 142 #[.pointer (some ⟨nb,0,none⟩),.agg #[.int .i64 a.id.kind,.string a.id.text,.int .i64 a.id.n]] W fun e w'=>e = .returned (.int .i64 i)∧Below W.heap.size W w' from fun W hW=>by rw [hi];exact HID.out a.id W hW);have HIB:=Lib.hid (show ∀W,Below w.heap.size w W→Calls Tryz.prog 142 #[.pointer (some ⟨nb,0,none⟩),.agg #[.int .i64 b.id.kind,.string b.id.text,.int .i64 b.id.n]] W fun e w'=>e = .returned (.int .i64 j)∧Below W.heap.size W w' from fun W hW=>by rw [hj];exact HID.out b.id W hW);have HS1:=Lib.hid (show ∀W,Calls Tryz.prog 141 #[.int .i64 i,.int .i64 j] W fun e w'=>e = .returned (.int .i64 c1)∧W=w' from fun W=>by rw [hc1,hi,hj];exact sign_is _ _ W);have HRA:=Lib.hid (show ∀W,Below w.heap.size w W→Calls Tryz.prog 144 #[.pointer (some ⟨nb,0,none⟩),.agg #[.int .i64 a.value.kind,.string a.value.text,.int .i64 a.value.n]] W fun e w'=>e = .returned (.int .i64 ra)∧Below W.heap.size W w' from fun W hW=>by rw [hra];exact HRK.out a.value W hW);have HRB:=Lib.hid (show ∀W,Below w.heap.size w W→Calls Tryz.prog 144 #[.pointer (some ⟨nb,0,none⟩),.agg #[.int .i64 b.value.kind,.string b.value.text,.int .i64 b.value.n]] W fun e w'=>e = .returned (.int .i64 rb)∧Below W.heap.size W w' from fun W hW=>by rw [hrb];exact HRK.out b.value W hW);have HS4:=Lib.hid (show ∀W,Calls Tryz.prog 141 #[.int .i64 ra,.int .i64 rb] W fun e w'=>e = .returned (.int .i64 c4)∧W=w' from fun W=>by rw [hc4,hra,hrb];exact sign_is _ _ W);have HA2:=Lib.hid (show ∀W,Calls Tryz.prog 143 #[.agg #[.int .i64 a.attr.kind,.string a.attr.text,.int .i64 a.attr.n],.agg #[.int .i64 b.attr.kind,.string b.attr.text,.int .i64 b.attr.n]] W fun e w'=>e = .returned (.int .i64 c2)∧Below W.heap.size W w' from fun W=>by rw [hc2];exact cmp_sym a.attr b.attr W);have HA5:=Lib.hid (show ∀W,Calls Tryz.prog 143 #[.agg #[.int .i64 a.value.kind,.string a.value.text,.int .i64 a.value.n],.agg #[.int .i64 b.value.kind,.string b.value.text,.int .i64 b.value.n]] W fun e w'=>e = .returned (.int .i64 c5)∧Below W.heap.size W w' from fun W=>by rw [hc5];exact cmp_sym a.value b.value W);have HS7:=Lib.hid (show ∀W,Calls Tryz.prog 141 #[.int .i64 a.tag,.int .i64 b.tag] W fun e w'=>e = .returned (.int .i64 c7)∧W=w' from fun W=>by rw [hc7];exact sign_is _ _ W);obtain ⟨pa,hpa⟩ : ∃x,x=(plV ns a.value:Int):=⟨_,rfl⟩;obtain ⟨pb,hpb⟩ : ∃x,x=(plV ns b.value:Int):=⟨_,rfl⟩;have HPA:=Lib.hid (show ∀W,Below w.heap.size w W→Calls Tryz.prog 62 #[.pointer (some ⟨nb,0,none⟩),.agg #[.int .i64 a.value.kind,.string a.value.text,.int .i64 a.value.n]] W fun e w'=>e = .returned (.int .i64 pa)∧Below W.heap.size W w' from fun W hW=>by rw [hpa];exact HPL.out a.value W hW);have HPB:=Lib.hid (show ∀W,Below w.heap.size w W→Calls Tryz.prog 62 #[.pointer (some ⟨nb,0,none⟩),.agg #[.int .i64 b.value.kind,.string b.value.text,.int .i64 b.value.n]] W fun e w'=>e = .returned (.int .i64 pb)∧Below W.heap.size W w' from fun W hW=>by rw [hpb];exact HPL.out b.value W hW);have HS6:=Lib.hid (show ∀W,Calls Tryz.prog 141 #[.int .i64 pa,.int .i64 pb] W fun e w'=>e = .returned (.int .i64 c6)∧W=w' from fun W=>by rw [hc6,hpa,hpb];exact sign_is _ _ W);have HV:=Lib.hid (show v=decide (andThen c1 (andThen c2 (andThen (cmpAcc a.acc b.acc) (andThen c4 (andThen (if ra=0 then c5 else if ra=1 then c6 else 0) c7))))<0) by rw [HV.out,hc1,hc2,hc4,hc5,hc6,hc7,hra];rfl);have HR3:=Lib.hid (show ra=0∨ra=1∨ra=2 by rw [hra];unfold rkN;split;exact .inl rfl;split;exact .inr (.inr rfl);exact .inr (.inl rfl));clear HID HRK HPL HC hi hj hc1 hc2 hra hrb hc4 hc5 hc6 hc7 hpa hpb;go_enter Tryz.func101,Tryz.ntmps101;(go_upto_region 1 with fail);obtain ⟨w1,hw1⟩ : ∃w1,w1=((w.alloc (.cells #[.int .i64 a.id.kind,.string a.id.text,.int .i64 a.id.n,.int .i64 a.attr.kind,.string a.attr.text,.int .i64 a.attr.n,.int .i64 a.value.kind,.string a.value.text,.int .i64 a.value.n,.bool a.acc,.bool a.goal,.int .i64 a.tag] 55)).alloc (.cells #[.int .i64 b.id.kind,.string b.id.text,.int .i64 b.id.n,.int .i64 b.attr.kind,.string b.attr.text,.int .i64 b.attr.n,.int .i64 b.value.kind,.string b.value.text,.int .i64 b.value.n,.bool b.acc,.bool b.goal,.int .i64 b.tag] 55)):=⟨_,rfl⟩;rw [← hw1]
 have HB:=Lib.hid (show Below w.heap.size w w1 by rw [hw1];exact (by repeat (first | exact Below.refl _ _ | refine Below.drew ?_ | refine Below.al ?_ _ | refine Below.sc ?_ _)));have Ka:=Lib.hid (show Blk w1 (w.heap.size) 55 #[.int .i64 a.id.kind,.string a.id.text,.int .i64 a.id.n,.int .i64 a.attr.kind,.string a.attr.text,.int .i64 a.attr.n,.int .i64 a.value.kind,.string a.value.text,.int .i64 a.value.n,.bool a.acc,.bool a.goal,.int .i64 a.tag] by rw [hw1];exact ((Blk.new w 55 #[.int .i64 a.id.kind,.string a.id.text,.int .i64 a.id.n,.int .i64 a.attr.kind,.string a.attr.text,.int .i64 a.attr.n,.int .i64 a.value.kind,.string a.value.text,.int .i64 a.value.n,.bool a.acc,.bool a.goal,.int .i64 a.tag]).alloc (.cells #[.int .i64 b.id.kind,.string b.id.text,.int .i64 b.id.n,.int .i64 b.attr.kind,.string b.attr.text,.int .i64 b.attr.n,.int .i64 b.value.kind,.string b.value.text,.int .i64 b.value.n,.bool b.acc,.bool b.goal,.int .i64 b.tag] 55)));have Kb:=Lib.hid (show Blk w1 (w.heap.size+1) 55 #[.int .i64 b.id.kind,.string b.id.text,.int .i64 b.id.n,.int .i64 b.attr.kind,.string b.attr.text,.int .i64 b.attr.n,.int .i64 b.value.kind,.string b.value.text,.int .i64 b.value.n,.bool b.acc,.bool b.goal,.int .i64 b.tag] by rw [hw1];have hh:=(Blk.new (w.alloc (.cells #[.int .i64 a.id.kind,.string a.id.text,.int .i64 a.id.n,.int .i64 a.attr.kind,.string a.attr.text,.int .i64 a.attr.n,.int .i64 a.value.kind,.string a.value.text,.int .i64 a.value.n,.bool a.acc,.bool a.goal,.int .i64 a.tag] 55)) 55 #[.int .i64 b.id.kind,.string b.id.text,.int .i64 b.id.n,.int .i64 b.attr.kind,.string b.attr.text,.int .i64 b.attr.n,.int .i64 b.value.kind,.string b.value.text,.int .i64 b.value.n,.bool b.acc,.bool b.goal,.int .i64 b.tag]);simp only [World.size_alloc] at hh;exact hh);clear hw1;obtain ⟨a0,a1,a2,a3,a4,a5,a6,a7,a8,a9,a10,a11⟩:=Ka.out.c12;have az:=Ka.out.lt;obtain ⟨b0,b1,b2,b3,b4,b5,b6,b7,b8,b9,b10,b11⟩:=Kb.out.c12;have bz:=Kb.out.lt;(go_upto_region 1 with fail);refine wp_region_E (fun w9=>Below w1.heap.size w1 w9) [(0,0),(1,0),(2,1),(4,0),(5,0),(6,1),(3,2),(7,2),(8,2),(9,0)] (by kernel_rfl) (by kernel_rfl) (fun KK hKK=>?_);simp only [beside,List.filterMap_cons,List.filterMap_nil,List.getElem?_toArray,List.getElem?_cons_zero,List.getElem?_cons_succ,Option.map_some];(repeat ((first | (refine wpX_w ?_ (Or.inl ⟨by rfl,fun w9=>?_⟩) ?_;rotate_left 1;go_simp;with_reducible rfl) | (refine wpX_l ?_ (((Below.refl _ _).drew)) (Or.inl ⟨by rfl,fun w9 hw9=>?_⟩) ?_;rotate_left 1;obtain ⟨hc9,hf9⟩:=bcell hw9;go_simp;with_reducible rfl) | refine wpX_w undef (Or.inr ⟨by rfl,rfl⟩) ?_ | refine wpX_l undef (((Below.refl _ _).drew)) (Or.inr ⟨by rfl,rfl⟩) ?_);go_frame));refine wpX_es (fun K9 hK9=>?_);go_simp;refine (HIA.out _ (HB.out.trans (((Below.refl w1.heap.size w1).drew).mono HB.out.size))).mono ?_;rintro e w31 ⟨rfl,hb31⟩;have HB31:=Lib.hid ((Below.refl w1.heap.size w1).drew.trans (hb31.mono (by simp)));clear hb31;refine hK9 _ _ HB31.out ?_;clear hK9 K9;refine wpX_es (fun K9 hK9=>?_);go_simp;refine (HIB.out _ (HB.out.trans ((HB31.out).mono HB.out.size))).mono ?_;rintro e w32 ⟨rfl,hb32⟩;have HB32:=Lib.hid (HB31.out.trans (hb32.mono HB31.out.size));clear hb32;refine hK9 _ _ HB32.out ?_;clear hK9 K9;refine wpX_es (fun K9 hK9=>?_);go_simp;refine (HS1.out _).mono ?_;rintro e w0 ⟨rfl,rfl⟩;refine hK9 _ _ HB32.out ?_;clear hK9 K9;(repeat ((first | (refine wpX_w ?_ (Or.inl ⟨by rfl,fun w9=>?_⟩) ?_;rotate_left 1;go_simp;with_reducible rfl) | (refine wpX_l ?_ (HB32.out) (Or.inl ⟨by rfl,fun w9 hw9=>?_⟩) ?_;rotate_left 1;obtain ⟨hc9,hf9⟩:=bcell hw9;go_simp;with_reducible rfl) | refine wpX_w undef (Or.inr ⟨by rfl,rfl⟩) ?_ | refine wpX_l undef (HB32.out) (Or.inr ⟨by rfl,rfl⟩) ?_);go_frame));refine wpX_nil ?_;simp only [OnlyN_normal];refine hKK _ _ ?_;clear hKK KK;have Ka:=Lib.hid (Ka.out.new_ HB32.out);have Kb:=Lib.hid (Kb.out.new_ HB32.out)
 have HB:=Lib.hid (HB.out.trans (HB32.out.mono HB.out.size));have hsz_w32:=HB.out.size;clear a0 a1 a2 a3 a4 a5 a6 a7 a8 a9 a10 a11 az b0 b1 b2 b3 b4 b5 b6 b7 b8 b9 b10 b11 bz;obtain ⟨a0,a1,a2,a3,a4,a5,a6,a7,a8,a9,a10,a11⟩:=Ka.out.c12;have az:=Ka.out.lt;obtain ⟨b0,b1,b2,b3,b4,b5,b6,b7,b8,b9,b10,b11⟩:=Kb.out.c12;have bz:=Kb.out.lt;by_cases hc10:c1=0
 · skip
   replace HV:=Lib.hid (show v=decide (andThen c2 (andThen (cmpAcc a.acc b.acc) (andThen c4 (andThen (if ra=0 then c5 else if ra=1 then c6 else 0) c7)))<0) from HV.out.trans (by rw [andThen_eq _ hc10]));subst hc10;(go_wp2_with fail);(with_reducible refine (HA2.out _).mono ?_);rintro e w2 ⟨rfl,hb⟩;have hbs:=Below.trans (show Below w32.heap.size w32 _ from (by (repeat (first | exact Below.refl _ _ | refine Below.drew ?_ | refine Below.al ?_ _ | refine Below.sc ?_ _)))) (hb.mono (by simp<;>omega));have Ka:=Lib.hid (Ka.out.new_ hbs);have Kb:=Lib.hid (Kb.out.new_ hbs);have HB:=Lib.hid (HB.out.trans (hbs.mono HB.out.size));have hsz2:=hbs.size;clear a0 a1 a2 a3 a4 a5 a6 a7 a8 a9 a10 a11 az b0 b1 b2 b3 b4 b5 b6 b7 b8 b9 b10 b11 bz hb hbs;obtain ⟨a0,a1,a2,a3,a4,a5,a6,a7,a8,a9,a10,a11⟩:=Ka.out.c12;have az:=Ka.out.lt;obtain ⟨b0,b1,b2,b3,b4,b5,b6,b7,b8,b9,b10,b11⟩:=Kb.out.c12;have bz:=Kb.out.lt;by_cases hc20:c2=0
   · skip
     replace HV:=Lib.hid (show v=decide (andThen (cmpAcc a.acc b.acc) (andThen c4 (andThen (if ra=0 then c5 else if ra=1 then c6 else 0) c7))<0) from HV.out.trans (by rw [andThen_eq _ hc20]));subst hc20;obtain ⟨xa,hxa⟩ : ∃x,x=a.acc:=⟨_,rfl⟩;obtain ⟨xb,hxb⟩ : ∃x,x=b.acc:=⟨_,rfl⟩;rw [← hxa] at a9 HV;rw [← hxb] at b9 HV;clear hxa hxb;by_cases hac:xa=xb
     · skip
       subst hac;replace HV:=Lib.hid (show v=decide (andThen c4 (andThen (if ra=0 then c5 else if ra=1 then c6 else 0) c7)<0) from HV.out.trans (by rw [andThen_eq _ (tc_acc.refl _)]));(have ea:(xa != xa)=false:=by simp);(go_upto_region 7 with fail);refine wp_region_E (fun w9=>Below w2.heap.size w2 w9) [(0,0),(1,0),(2,1),(4,0),(5,0),(6,1),(3,2),(7,2),(8,2),(9,0)] (by kernel_rfl) (by kernel_rfl) (fun KK hKK=>?_);simp only [beside,List.filterMap_cons,List.filterMap_nil,List.getElem?_toArray,List.getElem?_cons_zero,List.getElem?_cons_succ,Option.map_some];(repeat ((first | (refine wpX_w ?_ (Or.inl ⟨by rfl,fun w9=>?_⟩) ?_;rotate_left 1;go_simp;with_reducible rfl) | (refine wpX_l ?_ (((Below.refl _ _).drew)) (Or.inl ⟨by rfl,fun w9 hw9=>?_⟩) ?_;rotate_left 1;obtain ⟨hc9,hf9⟩:=bcell hw9;go_simp;with_reducible rfl) | refine wpX_w undef (Or.inr ⟨by rfl,rfl⟩) ?_ | refine wpX_l undef (((Below.refl _ _).drew)) (Or.inr ⟨by rfl,rfl⟩) ?_);go_frame));refine wpX_es (fun K9 hK9=>?_);go_simp;refine (HRA.out _ (HB.out.trans (((Below.refl w2.heap.size w2).drew).mono HB.out.size))).mono ?_;rintro e w41 ⟨rfl,hb41⟩;have HB41:=Lib.hid ((Below.refl w2.heap.size w2).drew.trans (hb41.mono (by simp)));clear hb41;refine hK9 _ _ HB41.out ?_;clear hK9 K9;refine wpX_es (fun K9 hK9=>?_);go_simp;refine (HRB.out _ (HB.out.trans ((HB41.out).mono HB.out.size))).mono ?_;rintro e w42 ⟨rfl,hb42⟩;have HB42:=Lib.hid (HB41.out.trans (hb42.mono HB41.out.size));clear hb42;refine hK9 _ _ HB42.out ?_;clear hK9 K9;refine wpX_es (fun K9 hK9=>?_);go_simp;refine (HS4.out _).mono ?_;rintro e w0 ⟨rfl,rfl⟩;refine hK9 _ _ HB42.out ?_;clear hK9 K9;(repeat ((first | (refine wpX_w ?_ (Or.inl ⟨by rfl,fun w9=>?_⟩) ?_;rotate_left 1;go_simp;with_reducible rfl) | (refine wpX_l ?_ (HB42.out) (Or.inl ⟨by rfl,fun w9 hw9=>?_⟩) ?_;rotate_left 1;obtain ⟨hc9,hf9⟩:=bcell hw9;go_simp;with_reducible rfl) | refine wpX_w undef (Or.inr ⟨by rfl,rfl⟩) ?_ | refine wpX_l undef (HB42.out) (Or.inr ⟨by rfl,rfl⟩) ?_);go_frame));refine wpX_nil ?_;simp only [OnlyN_normal];refine hKK _ _ ?_;clear hKK KK;have Ka:=Lib.hid (Ka.out.new_ HB42.out);have Kb:=Lib.hid (Kb.out.new_ HB42.out);have HB:=Lib.hid (HB.out.trans (HB42.out.mono HB.out.size));have hsz_w42:=HB.out.size;clear a0 a1 a2 a3 a4 a5 a6 a7 a8 a9 a10 a11 az b0 b1 b2 b3 b4 b5 b6 b7 b8 b9 b10 b11 bz;obtain ⟨a0,a1,a2,a3,a4,a5,a6,a7,a8,a9,a10,a11⟩:=Ka.out.c12;have az:=Ka.out.lt
       obtain ⟨b0,b1,b2,b3,b4,b5,b6,b7,b8,b9,b10,b11⟩:=Kb.out.c12;have bz:=Kb.out.lt;by_cases hc40:c4=0
       · skip
         replace HV:=Lib.hid (show v=decide (andThen (if ra=0 then c5 else if ra=1 then c6 else 0) c7<0) from HV.out.trans (by rw [andThen_eq _ hc40]));subst hc40;(go_wp2_with fail);(with_reducible refine (HRA.out _ (by (repeat (first | exact Below.refl _ _ | exact HB.out | refine Below.drew ?_ | refine Below.al ?_ _ | refine Below.sc ?_ _)))).mono ?_);rintro e w3 ⟨rfl,hb⟩;have hbs:=Below.trans (show Below w42.heap.size w42 _ from (by (repeat (first | exact Below.refl _ _ | refine Below.drew ?_ | refine Below.al ?_ _ | refine Below.sc ?_ _)))) (hb.mono (by simp<;>omega));have Ka:=Lib.hid (Ka.out.new_ hbs);have Kb:=Lib.hid (Kb.out.new_ hbs);have HB:=Lib.hid (HB.out.trans (hbs.mono HB.out.size));have hsz3:=hbs.size;clear a0 a1 a2 a3 a4 a5 a6 a7 a8 a9 a10 a11 az b0 b1 b2 b3 b4 b5 b6 b7 b8 b9 b10 b11 bz hb hbs;obtain ⟨a0,a1,a2,a3,a4,a5,a6,a7,a8,a9,a10,a11⟩:=Ka.out.c12;have az:=Ka.out.lt;obtain ⟨b0,b1,b2,b3,b4,b5,b6,b7,b8,b9,b10,b11⟩:=Kb.out.c12;have bz:=Kb.out.lt;have hr3:=HR3.out;clear HR3 HRA HRB;rcases hr3 with hr3 | hr3 | hr3
         · skip
           replace HV:=Lib.hid (show v=decide (andThen c5 c7<0) by rw [HV.out,hr3];rfl);subst hr3;(go_wp2_with fail);(with_reducible refine (HA5.out _).mono ?_);rintro e w4 ⟨rfl,hb⟩;have hbs:=Below.trans (show Below w3.heap.size w3 _ from (by (repeat (first | exact Below.refl _ _ | refine Below.drew ?_ | refine Below.al ?_ _ | refine Below.sc ?_ _)))) (hb.mono (by simp<;>omega));have Ka:=Lib.hid (Ka.out.new_ hbs);have Kb:=Lib.hid (Kb.out.new_ hbs);have HB:=Lib.hid (HB.out.trans (hbs.mono HB.out.size));have hsz4:=hbs.size;clear a0 a1 a2 a3 a4 a5 a6 a7 a8 a9 a10 a11 az b0 b1 b2 b3 b4 b5 b6 b7 b8 b9 b10 b11 bz hb hbs;obtain ⟨a0,a1,a2,a3,a4,a5,a6,a7,a8,a9,a10,a11⟩:=Ka.out.c12;have az:=Ka.out.lt;obtain ⟨b0,b1,b2,b3,b4,b5,b6,b7,b8,b9,b10,b11⟩:=Kb.out.c12;have bz:=Kb.out.lt;by_cases hc50:c5=0
           · skip
             replace HV:=Lib.hid (show v=decide (c7<0) from HV.out.trans (by rw [andThen_eq _ hc50]));subst hc50;replace HV:=Lib.hid (show v=decide (c7<0) from HV.out);(go_wp2_with fail);refine (HS7.out _).mono ?_;rintro e w0 ⟨rfl,rfl⟩;(go_wp2_with fail);go_ret;exact ⟨by rw [HV.out]<;>rfl,HB.out⟩
           · skip
             replace HV:=Lib.hid (show v=decide (c5<0) by rw [HV.out,andThen_ne _ hc50]);(have c5a:(c5 == 0)=false:=by simp [hc50]);(have c5b:decide (c5=0)=false:=by simp [hc50]);clear hc50;(go_wp2_with fail);go_ret;exact ⟨by rw [HV.out]<;>rfl,HB.out⟩
         · skip
           replace HV:=Lib.hid (show v=decide (andThen c6 c7<0) by rw [HV.out,hr3];rfl);subst hr3;(go_upto_region 13 with fail);refine wp_region_E (fun w9=>Below w3.heap.size w3 w9) [(0,0),(1,0),(2,1),(4,0),(5,0),(6,1),(3,2),(7,2),(8,2),(9,0)] (by kernel_rfl) (by kernel_rfl) (fun KK hKK=>?_);simp only [beside,List.filterMap_cons,List.filterMap_nil,List.getElem?_toArray,List.getElem?_cons_zero,List.getElem?_cons_succ,Option.map_some];(repeat ((first | (refine wpX_w ?_ (Or.inl ⟨by rfl,fun w9=>?_⟩) ?_;rotate_left 1;go_simp;with_reducible rfl) | (refine wpX_l ?_ (((Below.refl _ _).drew)) (Or.inl ⟨by rfl,fun w9 hw9=>?_⟩) ?_;rotate_left 1;obtain ⟨hc9,hf9⟩:=bcell hw9;go_simp;with_reducible rfl) | refine wpX_w undef (Or.inr ⟨by rfl,rfl⟩) ?_ | refine wpX_l undef (((Below.refl _ _).drew)) (Or.inr ⟨by rfl,rfl⟩) ?_);go_frame));refine wpX_es (fun K9 hK9=>?_);go_simp;refine (HPA.out _ (HB.out.trans (((Below.refl w3.heap.size w3).drew).mono HB.out.size))).mono ?_;rintro e w51 ⟨rfl,hb51⟩;have HB51:=Lib.hid ((Below.refl w3.heap.size w3).drew.trans (hb51.mono (by simp)));clear hb51;refine hK9 _ _ HB51.out ?_;clear hK9 K9;refine wpX_es (fun K9 hK9=>?_);go_simp;refine (HPB.out _ (HB.out.trans ((HB51.out).mono HB.out.size))).mono ?_;rintro e w52 ⟨rfl,hb52⟩;have HB52:=Lib.hid (HB51.out.trans (hb52.mono HB51.out.size));clear hb52;refine hK9 _ _ HB52.out ?_;clear hK9 K9;refine wpX_es (fun K9 hK9=>?_);go_simp;refine (HS6.out _).mono ?_;rintro e w0 ⟨rfl,rfl⟩;refine hK9 _ _ HB52.out ?_;clear hK9 K9;(repeat ((first | (refine wpX_w ?_ (Or.inl ⟨by rfl,fun w9=>?_⟩) ?_;rotate_left 1;go_simp;with_reducible rfl) | (refine wpX_l ?_ (HB52.out) (Or.inl ⟨by rfl,fun w9 hw9=>?_⟩) ?_;rotate_left 1;obtain ⟨hc9,hf9⟩:=bcell hw9;go_simp;with_reducible rfl) | refine wpX_w undef (Or.inr ⟨by rfl,rfl⟩) ?_ | refine wpX_l undef (HB52.out) (Or.inr ⟨by rfl,rfl⟩) ?_);go_frame));refine wpX_nil ?_;simp only [OnlyN_normal];refine hKK _ _ ?_;clear hKK KK;have Ka:=Lib.hid (Ka.out.new_ HB52.out);have Kb:=Lib.hid (Kb.out.new_ HB52.out);have HB:=Lib.hid (HB.out.trans (HB52.out.mono HB.out.size));have hsz_w52:=HB.out.size;clear a0 a1 a2 a3 a4 a5 a6 a7 a8 a9 a10 a11 az b0 b1 b2 b3 b4 b5 b6 b7 b8 b9 b10 b11 bz;obtain ⟨a0,a1,a2,a3,a4,a5,a6,a7,a8,a9,a10,a11⟩:=Ka.out.c12;have az:=Ka.out.lt;obtain ⟨b0,b1,b2,b3,b4,b5,b6,b7,b8,b9,b10,b11⟩:=Kb.out.c12
           have bz:=Kb.out.lt;by_cases hc60:c6=0
           · skip
             replace HV:=Lib.hid (show v=decide (c7<0) from HV.out.trans (by rw [andThen_eq _ hc60]));subst hc60;replace HV:=Lib.hid (show v=decide (c7<0) from HV.out);(go_wp2_with fail);refine (HS7.out _).mono ?_;rintro e w0 ⟨rfl,rfl⟩;(go_wp2_with fail);go_ret;exact ⟨by rw [HV.out]<;>rfl,HB.out⟩
           · skip
             replace HV:=Lib.hid (show v=decide (c6<0) by rw [HV.out,andThen_ne _ hc60]);(have c6a:(c6 == 0)=false:=by simp [hc60]);(have c6b:decide (c6=0)=false:=by simp [hc60]);clear hc60;(go_wp2_with fail);go_ret;exact ⟨by rw [HV.out]<;>rfl,HB.out⟩
         · skip
           replace HV:=Lib.hid (show v=decide (c7<0) by rw [HV.out,hr3];rfl);subst hr3;replace HV:=Lib.hid (show v=decide (c7<0) from HV.out);(go_wp2_with fail);refine (HS7.out _).mono ?_;rintro e w0 ⟨rfl,rfl⟩;(go_wp2_with fail);go_ret;exact ⟨by rw [HV.out]<;>rfl,HB.out⟩
       · skip
         replace HV:=Lib.hid (show v=decide (c4<0) by rw [HV.out,andThen_ne _ hc40]);(have c4a:(c4 == 0)=false:=by simp [hc40]);(have c4b:decide (c4=0)=false:=by simp [hc40]);clear hc40;(go_wp2_with fail);go_ret;exact ⟨by rw [HV.out]<;>rfl,HB.out⟩
     · skip
       replace HV:=Lib.hid (show v=xb from HV.out.trans (by rw [andThen_ne _ (by rw [cmpAcc,if_neg hac];split<;>decide),cmpAcc,if_neg hac];cases xb<;>rfl));cases xa<;>cases xb<;>first | exact absurd rfl hac | skip
       · skip
         clear hac;(go_wp2_with fail);go_ret;exact ⟨by rw [HV.out]<;>rfl,HB.out⟩
       · skip
         clear hac;(go_wp2_with fail);go_ret;exact ⟨by rw [HV.out]<;>rfl,HB.out⟩
   · skip
     replace HV:=Lib.hid (show v=decide (c2<0) by rw [HV.out,andThen_ne _ hc20]);(have c2a:(c2 == 0)=false:=by simp [hc20]);(have c2b:decide (c2=0)=false:=by simp [hc20]);clear hc20;(go_wp2_with fail);go_ret;exact ⟨by rw [HV.out]<;>rfl,HB.out⟩
 · skip
   replace HV:=Lib.hid (show v=decide (c1<0) by rw [HV.out,andThen_ne _ hc10]);(have c1a:(c1 == 0)=false:=by simp [hc10]);(have c1b:decide (c1=0)=false:=by simp [hc10]);clear hc10;(go_wp2_with fail);go_ret;exact ⟨by rw [HV.out]<;>rfl,HB.out⟩
end
section
open Go.RowKit
inductive Each2 {α β:Type} (R:α→β→Prop):List α→List β→Prop
 | nil:Each2 R [] []
 | cons {a:α} {b:β} {l:List α} {m:List β}:R a b→Each2 R l m→Each2 R (a :: l) (b :: m)
section
variable {α β:Type} {R R':α→β→Prop}
theorem Each2.length : ∀{l:List α} {m:List β},Each2 R l m→l.length=m.length
 | _,_,.nil=>rfl
 | _,_,.cons _ h=>by simp [h.length]
theorem Each2.imp (hr : ∀a b,R a b→R' a b) : ∀{l:List α} {m:List β},Each2 R l m→Each2 R' l m
 | _,_,.nil=>.nil
 | _,_,.cons h t=>.cons (hr _ _ h) (t.imp hr)
theorem Each2.append : ∀{l l':List α} {m m':List β},Each2 R l m→Each2 R l' m'→Each2 R (l++l') (m++m')
 | _,_,_,_,.nil,h=>h
 | _,_,_,_,.cons h t,k=>.cons h (t.append k)
theorem Each2.get : ∀{l:List α} {m:List β},Each2 R l m→∀k,(h:k<l.length)→∃h':k<m.length,R l[k] m[k]
 | _,_,.nil,_,h=>absurd h (by simp)
 | _,_,.cons h _,0,_=>⟨by simp,h⟩
 | _,_,.cons _ t,k+1,h=>by
   obtain ⟨h1,h2⟩:=t.get k (by simpa using h);exact ⟨by simpa using h1,by simpa using h2⟩
end
theorem flatten_get {size:Nat} : ∀(css:List (List Value)),(∀cs∈css,cs.length=size)→∀k,(h:k<css.length)→∀j,j<size→css.flatten[k*size+j]? = css[k][j]?
 | [],_,_,h,_,_=>absurd h (by simp)
 | c :: css,hs,0,_,j,hj=>by
   rw [List.flatten_cons,List.getElem?_append_left (by rw [hs c (by simp)];omega)];simp
 | c :: css,hs,k+1,h,j,hj=>by
   have hc:=hs c (by simp);rw [List.flatten_cons,List.getElem?_append_right (by rw [hc,Nat.add_mul];omega),hc];rw [show (k+1)*size+j - size=k*size+j by rw [Nat.add_mul];omega];exact flatten_get css (fun cs h=>hs cs (by simp [h])) k (by simpa using h) j hj
theorem sum_const {α:Type} (n:Nat) : ∀l:List α,(l.map fun _=>n).sum=l.length*n
 | []=>by simp
 | _ :: l=>by simp only [List.map_cons,List.sum_cons,List.length_cons,sum_const n l,Nat.add_mul];omega
section
variable {α:Type} {r:RepT α} {e:TypeId} {base:Nat} {w w':World} {v:Value} {l:List α}
end
section
variable {P:Program} (w:World)
theorem run_append_srcB (t ty e:TypeId) (i:TypeInfo) (z:Value) (size bytes:Nat) (ht:P.underlying t=some (.slice e)) (hi:P.info? e=some i) (hz:i.zero=some z)
 (hsize:i.size=size) (hby:i.bytes=bytes) (hzs:z.cells.size=size) (hsz:0<size)
 (base:Nat) (hbase:base≤w.heap.size) (v:Value) (n:Nat) (xs:List Value) (hown:w.ownsRow base e size v n xs) (A:Option Addr) (m c:Nat) (news:List Value) (hl:news.length=m*size)
 (hnews:0<m→∃ad,A=some ad∧∀j u,news[j]? = some u→w.cell? (ad.add j)=some u) (h1 : ∀u∈news,u.oneCell'=true)
 (h63:n+m≤maxLen) (hbytes:(n+m)*bytes≤140737488355328) :
 ∃v' w',(Builtin.append_ #[t,t] ty #[v,.slice A m c]).run P w = .ok v' w'∧w'.ownsRow base e size v' (n+m) (xs++news)∧w.grownBy w' v.ownBlock∧
  (v' = .slice none 0 0↔v = .slice none 0 0∧m=0)∧(v'.ownBlock=v.ownBlock∨v'.ownBlock=some w.heap.size):=by
 rcases Nat.eq_zero_or_pos m with rfl | hm
 · have hn:news = []:=List.eq_nil_of_length_eq_zero (by simpa using hl)
   subst hn;rcases A with _ | ad
   · refine ⟨v,w,?_,by simpa using hown,World.grownBy.refl w _,by simp,.inl rfl⟩
     rcases hown.2 with ⟨rfl,rfl⟩ | ⟨g,cap,cur,rfl,_,_,hnc,_⟩
     · simp [Builtin.append_,run_underlying ht,sizeOf,typeInfo,hi,Builtin.lenOf,Builtin.firstCells]
     · simp [Builtin.append_,run_underlying ht,sizeOf,typeInfo,hi,Builtin.lenOf,Builtin.firstCells,hnc,storeCells]
   · exact run_append_own_at w base t ty e i z size bytes ht hi hz hsize hby hzs hsz v n xs hown ad 0 c [] (by simp) (by simp) (by simp) h63 hbytes hbase
 · obtain ⟨ad,rfl,hc⟩:=hnews hm
   exact run_append_own_at w base t ty e i z size bytes ht hi hz hsize hby hzs hsz v n xs hown ad m c news hl hc h1 h63 hbytes hbase
theorem wp_append_srcB {o:Oper} {a:Act} {K:Act→World→Prop} {Q:Exit→Act→World→Prop} (s x:Operand) (t:TypeId)
 (ho:o.op = .call { callee:=.builtin .append,args:=#[s,x],argTypes:=#[t,t] })
 (e:TypeId) (i:TypeInfo) (z:Value) (size bytes:Nat) (ht:P.underlying t=some (.slice e)) (hi:P.info? e=some i) (hz:i.zero=some z)
 (hsize:i.size=size) (hby:i.bytes=bytes) (hzs:z.cells.size=size) (hsz:0<size)
 (base:Nat) (hbase:base≤w.heap.size) (v:Value) (n:Nat) (xs:List Value) (hs:a.eval s=v) (hown:w.ownsRow base e size v n xs)
 (A:Option Addr) (m c:Nat) (news:List Value) (hx:a.eval x = .slice A m c) (hl:news.length=m*size)
 (hnews:0<m→∃ad,A=some ad∧∀j u,news[j]? = some u→w.cell? (ad.add j)=some u) (h1 : ∀u∈news,u.oneCell'=true)
 (h63:n+m≤maxLen) (hbytes:(n+m)*bytes≤140737488355328)
 (h : ∀v' w',w'.ownsRow base e size v' (n+m) (xs++news)→w.grownBy w' v.ownBlock→(v' = .slice none 0 0↔v = .slice none 0 0∧m=0)→(v'.ownBlock=v.ownBlock∨v'.ownBlock=some w.heap.size)→K (a.put o.dst v') w') :
 Oper.wp P o a w K Q:=by
 obtain ⟨v',w',hr,h2,h3,h4,h5⟩:=run_append_srcB (P:=P) w t o.type e i z size bytes ht hi hz hsize hby hzs hsz base hbase v n xs hown A m c news hl hnews h1 h63 hbytes;unfold Oper.wp execOp;simp only [ho,resolve,invoke,builtin,Sem.run_bind,Sem.run_pure,Result.andThen_ok,List.map_toArray,List.map_cons,List.map_nil,hs,hx,hr];exact h v' w' h2 h3 h4 h5
theorem step_append_srcB {ops:Array Oper} {o:Oper} {a:Act} {K:Act→World→Prop} {Q:Exit→Act→World→Prop} {E:Prop} (hgd:o.guard=none) (s x:Operand) (t:TypeId)
 (ho:o.op = .call { callee:=.builtin .append,args:=#[s,x],argTypes:=#[t,t] })
 (e:TypeId) (i:TypeInfo) (z:Value) (size bytes:Nat) (ht:P.underlying t=some (.slice e)) (hi:P.info? e=some i) (hz:i.zero=some z)
 (hsize:i.size=size) (hby:i.bytes=bytes) (hzs:z.cells.size=size) (hsz:0<size)
 (base:Nat) (hbase:base≤w.heap.size) (v:Value) (n:Nat) (xs:List Value) (hs:a.eval s=v) (hown:w.ownsRow base e size v n xs)
 (A:Option Addr) (m c:Nat) (news:List Value) (hx:a.eval x = .slice A m c) (hl:news.length=m*size)
 (hnews:0<m→∃ad,A=some ad∧∀j u,news[j]? = some u→w.cell? (ad.add j)=some u) (h1 : ∀u∈news,u.oneCell'=true)
 (h63:n+m≤maxLen) (hbytes:(n+m)*bytes≤140737488355328)
 (h : ∀v' w',w'.ownsRow base e size v' (n+m) (xs++news)→w.grownBy w' v.ownBlock→(v' = .slice none 0 0↔v = .slice none 0 0∧m=0)→(v'.ownBlock=v.ownBlock∨v'.ownBlock=some w.heap.size)→K (a.put o.dst v') w') :
 if Region.wanted o (yielded ops a.tmps)=true then Oper.wp P o a w K Q else E:=by
 rw [if_pos (by simp [Region.wanted,hgd])];exact wp_append_srcB w s x t ho e i z size bytes ht hi hz hsize hby hzs hsz base hbase v n xs hs hown A m c news hx hl hnews h1 h63 hbytes h
theorem wpList_append_srcB {ops:Array Oper} {rest:List Oper} {o:Oper} {a:Act} {Q:Exit→Act→World→Prop} (hgd:o.guard=none) (s x:Operand) (t:TypeId)
 (ho:o.op = .call { callee:=.builtin .append,args:=#[s,x],argTypes:=#[t,t] })
 (e:TypeId) (i:TypeInfo) (z:Value) (size bytes:Nat) (ht:P.underlying t=some (.slice e)) (hi:P.info? e=some i) (hz:i.zero=some z)
 (hsize:i.size=size) (hby:i.bytes=bytes) (hzs:z.cells.size=size) (hsz:0<size)
 (base:Nat) (hbase:base≤w.heap.size) (v:Value) (n:Nat) (xs:List Value) (hs:a.eval s=v) (hown:w.ownsRow base e size v n xs)
 (A:Option Addr) (m c:Nat) (news:List Value) (hx:a.eval x = .slice A m c) (hl:news.length=m*size)
 (hnews:0<m→∃ad,A=some ad∧∀j u,news[j]? = some u→w.cell? (ad.add j)=some u) (h1 : ∀u∈news,u.oneCell'=true)
 (h63:n+m≤maxLen) (hbytes:(n+m)*bytes≤140737488355328)
 (h : ∀v' w',w'.ownsRow base e size v' (n+m) (xs++news)→w.grownBy w' v.ownBlock→(v' = .slice none 0 0↔v = .slice none 0 0∧m=0)→(v'.ownBlock=v.ownBlock∨v'.ownBlock=some w.heap.size)→wpList P ops Q rest (a.put o.dst v') w') :
 wpList P ops Q (o :: rest) a w:=
 wpList_plain hgd fun _ hK=>wp_append_srcB w s x t ho e i z size bytes ht hi hz hsize hby hzs hsz base hbase v n xs hs hown A m c news hx hl hnews h1 h63 hbytes (fun v' w' a b c d=>hK _ _ (h v' w' a b c d))
end
section
variable {P:Program} {α:Type} {r:RepT α} (w:World)
end
end
section
open Go.RowKit
def NewD (B:Nat) (w:World):Nat→Prop:=fun k=>B≤k∧k<w.heap.size
def OwnC {α:Type} (r:RepT α) (e:TypeId) (C:Nat→Prop) (w:World) (v:Value) (l:List α):Prop:=
 ∃css,w.ownsRow 0 e r.size v l.length css.flatten∧Each2 (fun a cs=>r.rep C w a cs) l css∧∀k,v.ownBlock=some k→¬C k
theorem own_lt {w:World} {e:TypeId} {size n:Nat} {v:Value} {xs:List Value} (h:w.ownsRow 0 e size v n xs) : ∀k,v.ownBlock=some k→k<w.heap.size:=by
 intro k hk;rcases h.2 with ⟨rfl,_⟩ | ⟨g,cap,cur,rfl,_,hg,_⟩
 · cases hk
 · simp only [Value.ownBlock,Option.some.injEq] at hk
   subst hk;exact Blk.lt (t:=e) hg
section
variable {α:Type} {r:RepT α} {e:TypeId} {C C':Nat→Prop} {w w':World} {v:Value} {l:List α}
theorem OwnC.nil (r:RepT α) (e:TypeId) (C:Nat→Prop) (w:World):OwnC r e C w (.slice none 0 0) []:=⟨[],⟨by simp,.inl ⟨rfl,rfl⟩⟩,.nil,fun _ h=>by cases h⟩
theorem OwnC.form (h:OwnC r e C w v l) : ∃A c,v = .slice A l.length c∧l.length≤c∧c≤maxLen∧AIn A (fun j=>j<w.heap.size∧¬C j):=by
 obtain ⟨css,hown,_,hC⟩:=h;have hlt:=own_lt hown;obtain ⟨A,c,rfl,h1,h2,_⟩:=own_form2 hown;exact ⟨A,c,rfl,h1,h2,fun a ha=>by subst ha;exact ⟨hlt _ rfl,hC _ rfl⟩⟩
theorem OwnC.lt (h:OwnC r e C w v l) : ∀k,v.ownBlock=some k→k<w.heap.size:=by
 obtain ⟨css,hown,_⟩:=h;exact own_lt hown
theorem OwnC.off (h:OwnC r e C w v l) : ∀k,v.ownBlock=some k→¬C k:=by
 obtain ⟨_,_,_,h⟩:=h;exact h
theorem OwnC.keep (h:OwnC r e C w v l) (hs:w.heap.size≤w'.heap.size) (hk : ∀k,C k→k<w.heap.size→C' k∧w'.heap[k]? = w.heap[k]?) (hv : ∀k,v.ownBlock=some k→w'.heap[k]? = w.heap[k]?∧¬C' k):OwnC r e C' w' v l:=by
 obtain ⟨css,hown,he,hC⟩:=h;refine ⟨css,⟨hown.1,hown.2.imp id fun ⟨g,cap,cur,hv',h0,hg,hr⟩=>⟨g,cap,cur,hv',h0,(hv g (by rw [hv'];rfl)).1.trans hg,hr⟩⟩,he.imp fun a cs hr=>r.keep hs hk hr,fun k hk=>(hv k hk).2⟩
theorem OwnC.new_ (h:OwnC r e C w v l) (hb:Below w.heap.size w w'):OwnC r e C w' v l:=
 h.keep hb.size (fun k hk hl=>⟨hk,hb.block k hl⟩) (fun k hk=>⟨hb.block k (h.lt k hk),h.off k hk⟩)
theorem OwnC.plus (h:OwnC r e C w v l) (hb:Below w.heap.size w w'):OwnC r e (Plus C w w') w' v l:=
 h.keep hb.size (fun k hk hl=>⟨.inl hk,hb.block k hl⟩) (fun k hk=>⟨hb.block k (h.lt k hk),fun hp=>hp.elim (h.off k hk) (fun hp=>by have:=h.lt k hk;omega)⟩)
theorem OwnC.fr {M:Nat→Prop} (h:OwnC r e C w v l) (hF:Fr M w w') (hC : ∀k,C k→¬M k) (hv : ∀k,v.ownBlock=some k→¬M k):OwnC r e C w' v l:=
 h.keep hF.size (fun k hk hl=>⟨hk,hF.block k hl (hC k hk)⟩) (fun k hk=>⟨hF.block k (h.lt k hk) (hv k hk),h.off k hk⟩)
theorem OwnC.row {A:Option Addr} {n c:Nat} (h:OwnC r e C w (.slice A n c) l) (hC : ∀k,C k→C' k) (hA:AIn A C'):RowR r C' w A c l:=by
 obtain ⟨A',c',hv,h1,h2,_⟩:=h.form;injection hv with hA' hn hc;subst hA';subst hc;obtain ⟨css,hown,he,_⟩:=h;refine ⟨h1,h2,fun h0=>?_⟩
 have hsz : ∀cs∈css,cs.length=r.size:=fun cs hcs=>by
  obtain ⟨k,hk,rfl⟩:=List.getElem_of_mem hcs;obtain ⟨_,h3⟩:=he.get k (by rw [he.length];exact hk);exact r.len h3
 rcases hown.2 with ⟨hv,hn0⟩ | ⟨g,cap,cur,hv,_,hg,hn2,hc2,hs2,ht⟩
 · omega
 · injection hv with hA' _ hc
   subst hA';have hgl:g<w.heap.size:=Blk.lt (t:=e) hg;refine ⟨g,0,rfl,hA _ rfl,hgl,fun k hk=>?_⟩;obtain ⟨hk2,hrep⟩:=he.get k hk;refine ⟨css[k],r.keep (Nat.le_refl _) (fun j hj _=>⟨hC j hj,rfl⟩) hrep,fun j u hu=>?_⟩;(have hj:j<r.size:=by rw [← r.len hrep];exact (List.getElem?_eq_some_iff.1 hu).1);have hf:=flatten_get css hsz k hk2 j hj;rw [hu,← ht] at hf;rw [Nat.zero_add,Blk.cell (t:=e) hg]
   have hlt:k*r.size+j<l.length*r.size:=by
    have:(k+1)*r.size≤l.length*r.size:=Nat.mul_le_mul_right _ hk;rw [Nat.add_mul] at this;omega
   rw [List.getElem?_take_of_lt hlt] at hf;rw [← hf];simp
theorem OwnC.grown {v':Value} {l2:List α} {css css2:List (List Value)} (he:Each2 (fun a cs=>r.rep C w a cs) l css) (hC : ∀k,v.ownBlock=some k→¬C k) (hCl : ∀k,C k→k<w.heap.size)
 (hown:w'.ownsRow 0 e r.size v' (l++l2).length (css.flatten++css2.flatten)) (hg:w.grownBy w' v.ownBlock)
 (hv:v'.ownBlock=v.ownBlock∨v'.ownBlock=some w.heap.size) (he2:Each2 (fun a cs=>r.rep C w a cs) l2 css2):OwnC r e C w' v' (l++l2):=by
 have up : ∀a cs,r.rep C w a cs→r.rep C w' a cs:=fun a cs hr=>r.keep hg.size (fun k hd hl=>⟨hd,hg.block k hl (fun hk=>hC k hk.symm hd)⟩) hr;refine ⟨css++css2,by rw [List.flatten_append];exact hown,(he.imp up).append (he2.imp up),fun k hk=>?_⟩;rcases hv with hv | hv
 · exact hC k (hv ▸ hk)
 · rw [hv] at hk;injection hk with hk;intro h;have:=hCl k h;omega
theorem css_len {l2:List α} {css2:List (List Value)} {D:Nat→Prop} {m:Nat} (hm:m=l2.length) (he2:Each2 (fun a cs=>r.rep D w a cs) l2 css2):css2.flatten.length=m*r.size:=by
 have hall : ∀cs∈css2,cs.length=r.size:=fun cs hcs=>by
  obtain ⟨k,hk,rfl⟩:=List.getElem_of_mem hcs;obtain ⟨_,h3⟩:=he2.get k (by rw [he2.length];exact hk);exact r.len h3
 rw [hm,he2.length,List.length_flatten,List.map_congr_left hall];exact sum_const _ _
theorem flat1 (cs:List Value) : [cs].flatten=cs:=by simp
end
def Appended {α:Type} (r:RepT α) (e:TypeId) (C:Nat→Prop) (w:World) (v:Value) (l:List α) (v':Value) (w':World):Prop:=
 OwnC r e C w' v' l∧w.grownBy w' v.ownBlock∧(v'.ownBlock=v.ownBlock∨v'.ownBlock=some w.heap.size)
section
variable {P:Program} {α:Type} {r:RepT α} (w:World)
theorem wpList_append_C {ops:Array Oper} {rest:List Oper} {o:Oper} {a:Act} {Q:Exit→Act→World→Prop} (hgd:o.guard=none) (s x:Operand) (t:TypeId)
 (ho:o.op = .call { callee:=.builtin .append,args:=#[s,x],argTypes:=#[t,t] })
 (e:TypeId) (i:TypeInfo) (z:Value) (size bytes:Nat) (ht:P.underlying t=some (.slice e)) (hi:P.info? e=some i) (hz:i.zero=some z)
 (hsize:i.size=size) (hby:i.bytes=bytes) (hzs:z.cells.size=size) (hrs:r.size=size) (hsz:0<size)
 (C:Nat→Prop) (hCl : ∀k,C k→k<w.heap.size) (v:Value) (l:List α) (hs:a.eval s=v) (hown:OwnC r e C w v l)
 (ad:Addr) (c:Nat) (y:α) (cs:List Value) (hx:a.eval x = .slice (some ad) 1 c)
 (hnews : ∀j u,cs[j]? = some u→w.cell? (ad.add j)=some u) (h1 : ∀u∈cs,u.oneCell'=true)
 (he2:r.rep C w y cs)
 (h63:l.length+1≤maxLen) (hbytes:(l.length+1)*bytes≤140737488355328)
 (h : ∀v' w',Appended r e C w v (l ++ [y]) v' w'→wpList P ops Q rest (a.put o.dst v') w') :
 wpList P ops Q (o :: rest) a w:=by
 obtain ⟨css,h2,h3,h4⟩:=hown;subst hrs;have he3:Each2 (fun a cs=>r.rep C w a cs) [y] [cs]:=.cons he2 .nil;refine wpList_append_srcB w hgd s x t ho e i z r.size bytes ht hi hz hsize hby hzs hsz 0 (Nat.zero_le _) v l.length _ hs h2 (some ad) 1 c [cs].flatten hx (css_len (l2:=[y]) rfl he3) (fun _=>⟨ad,rfl,by rw [flat1];exact hnews⟩) (by rw [flat1];exact h1) h63 hbytes (fun v' w' g1 g2 g3 g4=>h v' w' ⟨?_,g2,g4⟩);exact OwnC.grown h3 h4 hCl (by rw [List.length_append];exact g1) g2 g4 he3
theorem step_append_C {ops:Array Oper} {o:Oper} {a:Act} {K:Act→World→Prop} {Q:Exit→Act→World→Prop} {E:Prop} (hgd:o.guard=none) (s x:Operand) (t:TypeId)
 (ho:o.op = .call { callee:=.builtin .append,args:=#[s,x],argTypes:=#[t,t] })
 (e:TypeId) (i:TypeInfo) (z:Value) (size bytes:Nat) (ht:P.underlying t=some (.slice e)) (hi:P.info? e=some i) (hz:i.zero=some z)
 (hsize:i.size=size) (hby:i.bytes=bytes) (hzs:z.cells.size=size) (hrs:r.size=size) (hsz:0<size)
 (C:Nat→Prop) (hCl : ∀k,C k→k<w.heap.size) (v:Value) (l:List α) (hs:a.eval s=v) (hown:OwnC r e C w v l)
 (ad:Addr) (c:Nat) (y:α) (cs:List Value) (hx:a.eval x = .slice (some ad) 1 c)
 (hnews : ∀j u,cs[j]? = some u→w.cell? (ad.add j)=some u) (h1 : ∀u∈cs,u.oneCell'=true)
 (he2:r.rep C w y cs)
 (h63:l.length+1≤maxLen) (hbytes:(l.length+1)*bytes≤140737488355328)
 (h : ∀v' w',Appended r e C w v (l ++ [y]) v' w'→K (a.put o.dst v') w') :
 if Region.wanted o (yielded ops a.tmps)=true then Oper.wp P o a w K Q else E:=by
 obtain ⟨css,h2,h3,h4⟩:=hown;subst hrs;have he3:Each2 (fun a cs=>r.rep C w a cs) [y] [cs]:=.cons he2 .nil;refine step_append_srcB w hgd s x t ho e i z r.size bytes ht hi hz hsize hby hzs hsz 0 (Nat.zero_le _) v l.length _ hs h2 (some ad) 1 c [cs].flatten hx (css_len (l2:=[y]) rfl he3) (fun _=>⟨ad,rfl,by rw [flat1];exact hnews⟩) (by rw [flat1];exact h1) h63 hbytes (fun v' w' g1 g2 g3 g4=>h v' w' ⟨?_,g2,g4⟩);exact OwnC.grown h3 h4 hCl (by rw [List.length_append];exact g1) g2 g4 he3
end
end
section
open Go.RowKit
def Int.cells1 (n:Int):List Value:=[.int .i64 n]
theorem Int.cells1_length (n:Int):(Int.cells1 n).length=1:=rfl
theorem inf_Sym:(Tryz.prog.info? 23).map (fun i=>(i.zero,i.size,i.bytes))=some (some (.agg #[.int .i64 0,.string ⟨#[]⟩,.int .i64 0]),3,32):=by kernel_rfl
theorem one_Sym (l:List Sym) : ∀u∈l.flatMap Sym.cells,u.oneCell'=true:=by
 intro u hu;obtain ⟨b,_,hb⟩:=List.mem_flatMap.1 hu;simp only [Sym.cells,List.mem_cons,List.not_mem_nil,or_false] at hb;rcases hb with rfl | rfl | rfl<;>rfl
theorem inf_Bind:(Tryz.prog.info? 176).map (fun i=>(i.zero,i.size,i.bytes))=some (some (.agg #[.string ⟨#[]⟩,.int .i64 0,.string ⟨#[]⟩,.int .i64 0]),4,48):=by kernel_rfl
theorem one_Bind (l:List BindT) : ∀u∈l.flatMap BindT.cells,u.oneCell'=true:=by
 intro u hu;obtain ⟨b,_,hb⟩:=List.mem_flatMap.1 hu;simp only [BindT.cells,List.mem_cons,List.not_mem_nil,or_false] at hb;rcases hb with rfl | rfl | rfl | rfl<;>rfl
theorem inf_Trace:(Tryz.prog.info? 57).map (fun i=>(i.zero,i.size,i.bytes))=some (some (.agg #[.int .i64 0,.string ⟨#[]⟩,.int .i64 0,.int .i64 0,.string ⟨#[]⟩,.int .i64 0,.int .i64 0,.string ⟨#[]⟩,.int .i64 0,.bool false,.bool false,.int .i64 0,.int .i64 0,.int .i64 0]),14,128):=by kernel_rfl
theorem one_Trace (l:List TraceT) : ∀u∈l.flatMap TraceT.cells,u.oneCell'=true:=by
 intro u hu;obtain ⟨b,_,hb⟩:=List.mem_flatMap.1 hu;simp only [TraceT.cells,List.mem_cons,List.not_mem_nil,or_false] at hb;rcases hb with rfl | rfl | rfl | rfl | rfl | rfl | rfl | rfl | rfl | rfl | rfl | rfl | rfl | rfl<;>rfl
theorem inf_Apart:(Tryz.prog.info? 34).map (fun i=>(i.zero,i.size,i.bytes))=some (some (.agg #[.int .i64 0,.string ⟨#[]⟩,.int .i64 0,.int .i64 0,.string ⟨#[]⟩,.int .i64 0,.int .i64 0]),7,72):=by kernel_rfl
theorem one_Apart (l:List ApartT) : ∀u∈l.flatMap ApartT.cells,u.oneCell'=true:=by
 intro u hu;obtain ⟨b,_,hb⟩:=List.mem_flatMap.1 hu;simp only [ApartT.cells,List.mem_cons,List.not_mem_nil,or_false] at hb;rcases hb with rfl | rfl | rfl | rfl | rfl | rfl | rfl<;>rfl
theorem inf_Act:(Tryz.prog.info? 80).map (fun i=>(i.zero,i.size,i.bytes))=some (some (.agg #[.string ⟨#[]⟩,.string ⟨#[]⟩,.int .i64 0,.string ⟨#[]⟩,.int .i64 0,.int .i64 0,.string ⟨#[]⟩,.int .i64 0,.string ⟨#[]⟩,.int .i64 0,.string ⟨#[]⟩,.int .i64 0,.string ⟨#[]⟩,.int .i64 0,.int .i64 0,.string ⟨#[]⟩,.int .i64 0,.string ⟨#[]⟩,.int .i64 0]),19,224):=by kernel_rfl
theorem one_Act (l:List ActT) : ∀u∈l.flatMap ActT.cells,u.oneCell'=true:=by
 intro u hu;obtain ⟨b,_,hb⟩:=List.mem_flatMap.1 hu;simp only [ActT.cells,List.mem_cons,List.not_mem_nil,or_false] at hb;rcases hb with rfl | rfl | rfl | rfl | rfl | rfl | rfl | rfl | rfl | rfl | rfl | rfl | rfl | rfl | rfl | rfl | rfl | rfl | rfl<;>rfl
theorem inf_Int:(Tryz.prog.info? 3).map (fun i=>(i.zero,i.size,i.bytes))=some (some (.int .i64 0),1,8):=by kernel_rfl
theorem one_Int (l:List Int) : ∀u∈l.flatMap Int.cells1,u.oneCell'=true:=by
 intro u hu;obtain ⟨b,_,hb⟩:=List.mem_flatMap.1 hu;simp only [Int.cells1,List.mem_cons,List.not_mem_nil,or_false] at hb;subst hb;rfl
theorem inf_Test:(Tryz.prog.info? 142).map (fun i=>(i.zero,i.size,i.bytes))=some (some (.agg #[.int .i64 0,.string ⟨#[]⟩,.int .i64 0,.string ⟨#[]⟩,.int .i64 0,.slice none 0 0]),6,80):=by kernel_rfl
theorem inf_Cond:(Tryz.prog.info? 62).map (fun i=>(i.zero,i.size,i.bytes))=some (some (.agg #[.int .i64 0,.bool false,.string ⟨#[]⟩,.slice none 0 0,.slice none 0 0,.bool false,.slice none 0 0]),7,112):=by kernel_rfl
theorem inf_Hole:(Tryz.prog.info? 134).map (fun i=>(i.zero,i.size,i.bytes))=some (some (.agg #[.int .i64 0,.bool false,.string ⟨#[]⟩,.slice none 0 0,.slice none 0 0,.bool false,.slice none 0 0,.slice none 0 0]),8,136):=by kernel_rfl
theorem infp {P:Program} {t:TypeId} {z:Value} {s b:Nat} (h:(P.info? t).map (fun i=>(i.zero,i.size,i.bytes))=some (some z,s,b)) : ∃i,P.info? t=some i∧i.zero=some z∧i.size=s∧i.bytes=b:=by
 cases hq:P.info? t with
 | none=>rw [hq] at h;cases h
 | some i=>
   rw [hq] at h;simp only [Option.map_some,Option.some.injEq,Prod.mk.injEq] at h;exact ⟨i,rfl,h.1,h.2.1,h.2.2⟩
end
section
open Go.RowKit Go.Shelf
attribute [local go_sem] Oper.semAt_some
set_option linter.unusedSimpArgs false
def PutTo (D:Nat→Prop) (w:World) (nb:Nat) (ns:List Sym) (w':World):Prop:=∃D':Nat→Prop,Nm D' w' nb ns∧(∀k,D k→D' k)∧(∀k,D' k→D k∨w.heap.size≤k)∧Fr D w w'
theorem PutTo.same {D:Nat→Prop} {w w':World} {nb:Nat} {ns:List Sym} (h:Nm D w nb ns) (hb:Below w.heap.size w w'):PutTo D w nb ns w':=⟨D,h.new_ hb,fun _ h=>h,fun _ h=>.inl h,Fr.of_new hb⟩
theorem NM.more {D:Nat→Prop} {w X Y V Z:World} {nb:Nat} {ns:List Sym} {bm bp:Nat} {sn sn':Bool} {A A':Option Addr} {cc cc':Nat} {mm:List PgS} {L L':Option Addr} {cl cl':Nat} {s:Sym} (h:NM D w nb ns bm bp sn A cc mm L cl) (hs:s ∉ ns)
 (hX:Below w.heap.size w X) (hY:Fr (fun j=>∃a,L=some a∧a.block=j) X Y) (hL:AIn L' (Plus (fun j=>∃a,L=some a∧a.block=j) X Y)) (hO:Y.ownsRow 0 23 3 (.slice L' (ns.length+1) cl') (ns.length+1) (ns.flatMap Sym.cells ++ [.int .i64 s.kind,.string s.text,.int .i64 s.n]))
 (hV:V=Y.setCell ⟨nb,1,none⟩ (.slice L' (ns.length+1) cl')) (hS:PgSSet Z bp sn' A' cc' (put cmpPgS mm ⟨s,(ns.length:Int)+1⟩)) (hZ:Fr (SetMod bp sn A) V Z) (hM:Moved V sn A sn' A'):PutTo D w nb (ns ++ [s]) Z:=by
 have hnb:=h.blk.new_ hX;have hmb:=h.map.new_ hX;have hst:=h.set.new_ hX;have hrw:=ownsRow_new h.row hX;have nL : ∀{t:TypeId} {cs:Array Value} {g:Nat},Blk X g t cs→23≠t→¬(∃a,L=some a∧a.block=g):=fun hg hne ⟨a,ha,e⟩=>own_blk_ne hrw hg hne (by subst ha;subst e;rfl);have n1:=nL hnb (by decide);have n2:=nL hmb (by decide);have n3:=nL hst.blk (by decide);have n4 : ∀a,A=some a→¬(∃b,L=some b∧b.block=a.block):=fun a ha ⟨b,hb,e⟩=>own_own_ne hrw hst.row (by decide) (k:=a.block) (by subst hb;rw [← e];rfl) (by subst ha;rfl);have dnm:=hnb.ne_ hmb (by decide);have dnp:=hnb.ne_ hst.blk (by decide);have dmp:=hmb.ne_ hst.blk (by decide);have dna : ∀a,A=some a→a.block≠nb:=fun a ha e=>own_blk_ne hst.row hnb (by decide) (by subst ha;subst e;rfl);have dma : ∀a,A=some a→a.block≠bm:=fun a ha e=>own_blk_ne hst.row hmb (by decide) (by subst ha;subst e;rfl);have la:=hst.row_lt;have mz : ∀k,k<X.heap.size→k≠bp→(∀a,A=some a→a.block≠k)→¬SetMod bp sn A k:=fun k _ h1 h2 hm=>hm.elim h1 (fun ⟨_,a,ha,e⟩=>h2 a ha e);have hsz:=hX.size;have hyz:=hY.size;(have hb1:Blk V nb 148 #[.pointer (some ⟨bm,0,none⟩),.slice L' (ns.length+1) cl']:=by rw [hV];exact (hnb.fr hY n1).set_ 1 _);(have hm1:Blk V bm 226 #[.pointer (some ⟨bp,0,none⟩)]:=by rw [hV];exact (hmb.fr hY n2).far (p:=⟨nb,1,none⟩) (Ne.symm dnm) _);(have ho1:V.ownsRow 0 23 3 (.slice L' (ns.length+1) cl') (ns.length+1) (ns.flatMap Sym.cells ++ [.int .i64 s.kind,.string s.text,.int .i64 s.n]):=by rw [hV];exact ownsRow_setCell_other (a:=⟨nb,1,none⟩) hO (own_blk_ne hO (hnb.fr hY n1) (by decide)) _);(have hvs:V.heap.size=Y.heap.size:=by rw [hV];simp);have hzz:=hZ.size
 have ha':AIn A' (fun k=>D k∨(w.heap.size≤k∧k<Z.heap.size)):=fun a ha=>by
  rcases hM with ⟨_,e⟩ | ⟨_,g,hg,e⟩
  · exact .inl (h.da a (e ▸ ha))
  · have hlt:=hS.row_lt a ha
    rw [e] at ha;injection ha with ha;subst ha;exact .inr ⟨by dsimp only;omega,hlt⟩
 have hl' : ∀a,L'=some a→¬SetMod bp sn A a.block:=fun a ha hm=>by
  rcases hL a ha with hE | ⟨h1,_⟩
  · rcases hm with e | ⟨_,b,hb,e⟩
    · exact n3 (e ▸ hE)
    · exact n4 b hb (e ▸ hE)
  · rcases hm with e | ⟨_,b,hb,e⟩
    · have:=hst.lt;omega
    · have:=la b hb;omega
 refine ⟨fun k=>D k∨(w.heap.size≤k∧k<Z.heap.size),⟨bm,bp,sn',A',cc',_,L',cl',?_,hm1.fr hZ (mz _ hmb.lt dmp dma),hS,h.ok.put hs,?_,.inl h.dn,.inl h.dm,.inl h.dp,ha',fun a ha=>?_,fun k hk=>?_⟩,fun k hk=>.inl hk,fun k hk=>hk.imp id (·.1),?_⟩
 · have:=hb1.fr hZ (mz _ hnb.lt dnp dna)
   rwa [show (ns ++ [s]).length=ns.length+1 by simp]
 · have e1:(ns ++ [s]).flatMap Sym.cells=ns.flatMap Sym.cells ++ [.int .i64 s.kind,.string s.text,.int .i64 s.n]:=by rw [List.flatMap_append];rfl
   rw [show (ns ++ [s]).length=ns.length+1 by simp,e1];refine ⟨ho1.1,ho1.2.imp id fun ⟨g,cap,cur,hv,h0,hg,hr⟩=>⟨g,cap,cur,hv,h0,?_,hr⟩⟩;injection hv with hv;exact Blk.fr (t:=23) hg hZ (hl' ⟨g,0,none⟩ hv)
 · rcases hL a ha with ⟨b,hb,e⟩ | ⟨h1,h2⟩
   · exact .inl (e ▸ h.dl b hb)
   · exact .inr ⟨by omega,by omega⟩
 · rcases hk with hk | hk
   · have:=h.lt k hk;omega
   · exact hk.2
 · have f1:Fr D w Y:=(Fr.of_new hX).into hY (fun k ⟨a,ha,e⟩=>.inl (e ▸ h.dl a ha))
   have f2:Fr D w V:=by rw [hV];exact f1.setCell (p:=⟨nb,1,none⟩) (.inl h.dn) _
   exact f2.into hZ (fun k hm=>by
    rcases hm with e | ⟨_,a,ha,e⟩
    · exact .inl (e ▸ h.dp)
    · exact .inl (e ▸ h.da a ha))
theorem nput_is {D:Nat→Prop} {nb:Nat} {ns:List Sym} (s:Sym) (w:World) (h:Nm D w nb ns) (hl:ns.length≤1000):Calls Tryz.prog 102 #[.pointer (some ⟨nb,0,none⟩),.agg #[.int .i64 s.kind,.string s.text,.int .i64 s.n]] w fun e w'=>e = .returned (.tuple #[])∧PutTo D w nb (putN ns s) w':=by
 have HP:=Lib.hid (fun W (hW:Below w.heap.size w W)=>place_is s W (h.new_ hW) (by omega));have HA:=Lib.hid ((Below.refl w.heap.size w).alloc (Nat.le_refl _) (.cells #[.int .i64 s.kind,.string s.text,.int .i64 s.n] 23));have HN:=Lib.hid h;by_cases hp:plV ns s=0
 · have HR:=Lib.hid (show putN ns s=ns ++ [s] by rw [putN,if_pos hp])
   have HNI:=Lib.hid (plV_zero.1 hp);rw [hp] at HP;clear hp h;obtain ⟨j0,hj0,hy0,hy1,hy2⟩:=infp inf_Sym;obtain ⟨bm,bp,sn,A,cc,mm,L,cl,hnm⟩:=HN.out;have HM:=Lib.hid hnm;clear HN hnm;go_enter Tryz.func102,Tryz.ntmps102;(go_wp2_with fail);refine (HP.out _ HA.out).mono ?_;rintro e w2 ⟨rfl,hb⟩;have HB:=Lib.hid (HA.out.trans (hb.mono (by simp)));have hk:Blk w2 w.heap.size 23 #[.int .i64 s.kind,.string s.text,.int .i64 s.n]:=(Blk.new _ _ _).new_ hb;have HK:=Lib.hid hk;obtain ⟨k0,k1,k2⟩:=hk.c3;have kz:=hk.lt;have hn2:=HM.out.blk.new_ HB.out;have m0:=(hn2.cell 0).trans rfl;have m1:=(hn2.cell 1).trans rfl;have mf:=hn2.frozen 1;have mz:=hn2.lt;have hnl:0≤ns.length:=Nat.zero_le _;clear hb hk hn2;(go_upto_region 2 with fail);refine wp_region_E (fun w9=>Below w2.heap.size w2 w9) [(0,0),(1,0),(2,0),(3,0),(4,1),(5,1),(6,2),(7,2),(8,0),(9,0),(10,2)] (by kernel_rfl) (by kernel_rfl) (fun KK hKK=>?_);simp only [beside,List.filterMap_cons,List.filterMap_nil,List.getElem?_toArray,List.getElem?_cons_zero,List.getElem?_cons_succ,Option.map_some];(repeat ((first | (refine wpX_w ?_ (Or.inl ⟨by rfl,fun w9=>?_⟩) ?_;rotate_left 1;go_simp;with_reducible rfl) | (refine wpX_l ?_ (((Below.refl _ _).drew)) (Or.inl ⟨by rfl,fun w9 hw9=>?_⟩) ?_;rotate_left 1;obtain ⟨hc9,hf9⟩:=bcell hw9;go_simp;with_reducible rfl) | refine wpX_w undef (Or.inr ⟨by rfl,rfl⟩) ?_ | refine wpX_l undef (((Below.refl _ _).drew)) (Or.inr ⟨by rfl,rfl⟩) ?_);go_frame));refine wpX_es (fun K9 hK9=>?_);go_simp;obtain ⟨Y9,hY9⟩ : ∃Y9,Y9=(w2.alloc (.cells #[.int .i64 s.kind,.string s.text,.int .i64 s.n] 23)).drew:=⟨_,rfl⟩;(have hb9:Below w2.heap.size w2 Y9:=by rw [hY9];exact ((Below.refl _ _).alloc (Nat.le_refl _) _).drew);have HB23:=Lib.hid hb9;have HN9:=Lib.hid (show ∀(j:Nat) (u:Value),([.int .i64 s.kind,.string s.text,.int .i64 s.n]:List Value)[j]? = some u→Y9.cell? ((⟨w2.heap.size,0,none⟩:Addr).add j)=some u by rw [hY9];exact World.news_of_block (heap_alloc_new _ _));rw [← hY9];clear hY9 hb9;refine hK9 _ _ HB23.out ?_;clear hK9 K9;refine wpX_e (by kernel_rfl) (fun K9 hK9=>?_);refine step_append_src _ (by rfl) _ _ _ (by rfl) 23 j0 _ 3 32 Tryz.underlying36 hj0 hy0 hy1 hy2 rfl (by omega) (.slice L ns.length cl) ns.length (ns.flatMap Sym.cells) (by rfl) (ownsRow_new HM.out.row (HB.out.trans (HB23.out.mono HB.out.size))) _ 1 1 [.int .i64 s.kind,.string s.text,.int .i64 s.n] (by rfl) (by rfl) (fun _=>⟨_,rfl,HN9.out⟩) (by intro u hu;simp only [List.mem_cons,List.not_mem_nil,or_false] at hu;rcases hu with rfl | rfl | rfl<;>rfl) (by unfold maxLen;omega) (by omega) ?_;intro v2 w23 hown hgr hnil hat;obtain ⟨E2,x2,rfl,hF3,hA3,hO3⟩:=grown_own (E:=fun j=>∃a,L=some a∧a.block=j) (fun a ha=>⟨a,ha,rfl⟩) hown hgr hat
   have HF3:=Lib.hid hF3;have HA3:=Lib.hid hA3;have HO3:=Lib.hid hO3;have hp3:=(HM.out.blk.new_ (HB.out.trans (HB23.out.mono HB.out.size))).fr hF3 (fun ⟨a,ha,e⟩=>own_blk_ne (ownsRow_new HM.out.row (HB.out.trans (HB23.out.mono HB.out.size))) (HM.out.blk.new_ (HB.out.trans (HB23.out.mono HB.out.size))) (by decide) (by subst ha;subst e;rfl));have HP3:=Lib.hid hp3;have g1:=(hp3.cell 1).trans rfl;have pf:=hp3.frozen 1;have gz:=hp3.lt;clear hown hgr hnil hat hp3 hF3 hA3 hO3;refine hK9 _ _ ?_;clear hK9 K9;(repeat ((first | (refine wpX_w ?_ (Or.inl ⟨by rfl,fun w9=>?_⟩) ?_;rotate_left 1;go_simp;with_reducible rfl) | (refine wpX_l ?_ (HB23.out) (Or.inl ⟨by rfl,fun w9 hw9=>?_⟩) ?_;rotate_left 1;obtain ⟨hc9,hf9⟩:=bcell hw9;go_simp;with_reducible rfl) | refine wpX_w undef (Or.inr ⟨by rfl,rfl⟩) ?_ | refine wpX_l undef (HB23.out) (Or.inr ⟨by rfl,rfl⟩) ?_);go_frame));refine wpX_e (by kernel_rfl) (fun K9 hK9=>?_);go_simp;refine hK9 _ _ ?_;clear hK9 K9;refine wpX_nil ?_;simp only [OnlyN_normal];refine hKK _ _ ?_;clear hKK KK;obtain ⟨V,hV⟩ : ∃V,V=w23.setCell ⟨nb,1,none⟩ (.slice E2 (ns.length+1) x2):=⟨_,rfl⟩;rw [← hV];have HV:=Lib.hid hV;have hX:=HB.out.trans (HB23.out.mono HB.out.size);(have hkV:Blk V w.heap.size 23 #[.int .i64 s.kind,.string s.text,.int .i64 s.n]:=by rw [hV];exact ((HK.out.new_ HB23.out).fr HF3.out (fun ⟨a,ha,e⟩=>by have h1:=HM.out.lt _ (HM.out.dl a ha);omega)).far (p:=⟨nb,1,none⟩) (by have h1:=HM.out.lt _ HM.out.dn;dsimp only;omega) _);(have hnV:Blk V nb 148 #[.pointer (some ⟨bm,0,none⟩),.slice E2 (ns.length+1) x2]:=by rw [hV];exact HP3.out.set_ 1 _);have hxm:=HM.out.map.new_ hX;have hxs:=HM.out.set.new_ hX;have hxr:=ownsRow_new HM.out.row hX;have q2 : ¬(∃a,L=some a∧a.block=bm):=fun ⟨a,ha,e⟩=>own_blk_ne hxr hxm (by decide) (by subst ha;subst e;rfl);have q3 : ¬(∃a,L=some a∧a.block=bp):=fun ⟨a,ha,e⟩=>own_blk_ne hxr hxs.blk (by decide) (by subst ha;subst e;rfl);have q4 : ∀a,A=some a→¬(∃b,L=some b∧b.block=a.block):=fun a ha ⟨b,hb,e⟩=>own_own_ne hxr hxs.row (by decide) (k:=a.block) (by subst hb;rw [← e];rfl) (by subst ha;rfl);have hmV:Blk V bm 226 #[.pointer (some ⟨bp,0,none⟩)]:=by rw [hV];exact (hxm.fr HF3.out q2).far (p:=⟨nb,1,none⟩) (Ne.symm ((HM.out.blk.new_ hX).ne_ hxm (by decide))) _
   have hsV:PgSSet V bp sn A cc mm:=by
    (have f9:Fr (fun j=>(∃a,L=some a∧a.block=j)∨j=nb) Y9 V:=by rw [hV];exact (HF3.out.mono (fun k _ hk=>.inl hk)).setCell (p:=⟨nb,1,none⟩) (.inl (.inr rfl)) _);exact hxs.fr f9 (fun e=>e.elim q3 (fun e=>((HM.out.blk.new_ hX).ne_ hxs.blk (by decide)) e.symm)) (fun a ha e=>e.elim (q4 a ha) (fun e=>own_blk_ne hxs.row (HM.out.blk.new_ hX) (by decide) (by subst ha;rw [← e];rfl)))
   have HPUT:=Lib.hid (show ∀W,Below V.heap.size V W→Calls Tryz.prog 145 #[.pointer (some ⟨bm,0,none⟩),.agg #[.int .i64 s.kind,.string s.text,.int .i64 s.n],.int .i64 ((ns.length:Int)+1)] W _ from fun W hW=>bkput_PgS bm bp cc sn A mm s ((ns.length:Int)+1) W (hmV.new_ hW) (hsV.new_ hW) HM.out.ok.srt (by rw [HM.out.ok.len];omega) (by rw [HM.out.ok.has];exact decide_eq_false HNI.out));obtain ⟨k0,k1,k2⟩:=hkV.c3;have kz:=hkV.lt;have m0:=(hnV.cell 0).trans rfl;have m1:=(hnV.cell 1).trans rfl;have mz:=hnV.lt;clear hV hX hkV hnV hxm hxs hxr q2 q3 q4 hmV hsV g1 pf gz mf;(go_upto_region 3 with fail);refine wp_region_E (fun w9=>Below V.heap.size V w9) [(0,0),(1,0),(2,0),(3,1),(4,1),(5,0),(6,0),(7,0),(8,1),(9,0),(10,2)] (by kernel_rfl) (by kernel_rfl) (fun KK hKK=>?_);simp only [beside,List.filterMap_cons,List.filterMap_nil,List.getElem?_toArray,List.getElem?_cons_zero,List.getElem?_cons_succ,Option.map_some];(repeat ((first | (refine wpX_w ?_ (Or.inl ⟨by rfl,fun w9=>?_⟩) ?_;rotate_left 1;go_simp;with_reducible rfl) | (refine wpX_l ?_ (((Below.refl _ _).drew)) (Or.inl ⟨by rfl,fun w9 hw9=>?_⟩) ?_;rotate_left 1;obtain ⟨hc9,hf9⟩:=bcell hw9;go_simp;with_reducible rfl) | refine wpX_w undef (Or.inr ⟨by rfl,rfl⟩) ?_ | refine wpX_l undef (((Below.refl _ _).drew)) (Or.inr ⟨by rfl,rfl⟩) ?_);go_frame));refine wpX_e (by kernel_rfl) (fun K9 hK9=>?_);go_simp;refine (HPUT.out _ ((Below.refl V.heap.size V).drew)).mono ?_;rintro e w5 ⟨rfl,sn',A',cc',g1,g2,g3⟩;have HG:=Lib.hid (And.intro g1 (And.intro g2 g3));clear g1 g2 g3;refine hK9 _ _ ?_;clear hK9 K9;refine wpX_nil ?_;simp only [OnlyN_normal];refine hKK _ _ ?_;clear hKK KK;(go_wp2_with fail);go_end0;rw [HR.out];obtain ⟨g1,g2,g3⟩:=HG.out;exact ⟨rfl,HM.out.more HNI.out (HB.out.trans (HB23.out.mono HB.out.size)) HF3.out HA3.out HO3.out HV.out g1 ((Fr.refl _ V).drew.trans g2) g3⟩
 · have HR:=Lib.hid (show putN ns s=ns by rw [putN,if_neg hp])
   obtain ⟨r,hr⟩ : ∃r,r=plV ns s:=⟨_,rfl⟩;rw [← hr] at HP;(have r1:((r:Int) == 0)=false:=by simp;omega);(have r2 : ¬(r:Int)=0:=by omega);(have r3 : ¬r=0:=by omega);clear hp hr h;go_enter Tryz.func102,Tryz.ntmps102;(go_wp2_with fail);refine (HP.out _ HA.out).mono ?_;rintro e w2 ⟨rfl,hb⟩;have HB:=Lib.hid (HA.out.trans (hb.mono (by simp)));clear hb;(go_wp2_with fail);go_end0;exact ⟨rfl,by rw [HR.out];exact PutTo.same HN.out HB.out⟩
end
end Go.Proofs.YtldndkngpdfpfaaGreat
