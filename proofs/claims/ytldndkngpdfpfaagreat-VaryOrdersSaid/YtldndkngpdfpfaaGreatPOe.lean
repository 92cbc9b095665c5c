/-
  Texts put together: VaryRef.
-/
import Derived.Test.YtldndkngpdfpfaaGreatPOd
import Derived.Maps.RangeWalk
namespace Go.Proofs.YtldndkngpdfpfaaGreat
open Go.RowKit Go.Shelf
attribute [local go_sem] Oper.semAt_some
set_option linter.unusedSimpArgs false
theorem plV_app (s:Sym) (b:List Sym) : ∀a:List Sym,plV (a++b) s=if plV a s=0 then (if plV b s=0 then 0 else a.length+plV b s) else plV a s
 | []=>by simp [plV]
 | x :: a=>by
   have ih:=plV_app s b a
   rw [List.cons_append,plV,plV,ih,List.length_cons]
   by_cases h:x=s
   · simp [h]
   · rw [if_neg h,if_neg h]
     by_cases h1:plV a s=0
     · by_cases h2:plV b s=0
       · simp [h1,h2]
       · rw [if_pos h1,if_neg h2,if_pos h1,if_pos rfl,if_neg h2,if_neg (by omega)];omega
     · simp [h1]
theorem plV_take {l:List Sym} {s:Sym} {i:Nat} (hi:i<l.length) (h:plV (l.take i) s=0) (e:l[i]=s):plV l s=i+1:=by
 have e1:l=l.take i++(l[i] :: l.drop (i+1)):=by rw [← List.drop_eq_getElem_cons hi,List.take_append_drop]
 rw [e1,plV_app,if_pos h,plV,if_pos e,if_neg (by omega),List.length_take]
 omega
theorem plV_take_no {l:List Sym} {s:Sym} {i:Nat} (hi:i<l.length) (h:plV (l.take i) s=0) (e:l[i]≠s):plV (l.take (i+1)) s=0:=by
 rw [List.take_add_one,List.getElem?_eq_getElem hi,plV_app,if_pos h,if_pos (by simp [plV,e])]
set_option maxRecDepth 100000 in
set_option maxHeartbeats 4000000 in
theorem rplace_is (A:Option Addr) (c:Nat) (l:List Sym) (x:Sym) (w:World) (hrd:RowRd w 3 Sym.cells A c l) :
 Calls Tryz.prog 74 #[.slice A l.length c,.agg #[.int .i64 x.kind,.string x.text,.int .i64 x.n]] w fun e w'=>e = .returned (.int .i64 ((plV l x:Int) - 1))∧Below w.heap.size w w':=by
 have HRD:=Lib.hid hrd
 have hlc:=hrd.cap
 obtain ⟨z,hz⟩ : ∃z,z=(plV l x:Int) - 1:=⟨_,rfl⟩
 rw [← hz]
 have HZ:=Lib.hid hz
 clear hrd hz
 go_enter Tryz.func74,Tryz.ntmps74
 go_wp2_with fail
 obtain ⟨W0,hW0⟩ : ∃W0,W0=w.alloc (Obj.cells #[.int .i64 x.kind,.string x.text,.int .i64 x.n] 23):=⟨_,rfl⟩
 have hB0:Below w.heap.size w W0:=by rw [hW0];exact (Below.refl _ _).alloc (Nat.le_refl _) _
 have hX0:Blk W0 w.heap.size 23 #[.int .i64 x.kind,.string x.text,.int .i64 x.n]:=by rw [hW0];exact Blk.new _ _ _
 rw [← hW0]
 clear hW0
 have HB0:=Lib.hid hB0
 have HX0:=Lib.hid hX0
 clear hB0 hX0
 go_loopw [5] (fun s wr=>∃i:Nat,s = .int .i64 i∧plV (l.take i) x=0∧i≤l.length∧Below W0.heap.size W0 wr) (fun s wr=>l.length - (intOf s).toNat)
 case atStart=>exact ⟨0,rfl,rfl,Nat.zero_le _,Below.refl _ _⟩
 case round=>
  obtain ⟨i,rfl,hk,hi,hB⟩:=hrel
  have HK:=Lib.hid hk
  clear hk
  by_cases hlt:i<l.length
  · have hBw:Below w.heap.size w wr:=HB0.out.trans (hB.mono HB0.out.size)
    obtain ⟨y,hy⟩ : ∃y,y=l[i]:=⟨_,rfl⟩
    obtain ⟨g,off,rfl,hg,q0,q1,q2⟩:=sym_at (HRD.out.new_ hBw) hlt
    rw [← hy] at q0 q1 q2
    have hxr:=HX0.out.new_ hB
    have hxl:=hxr.lt
    obtain ⟨y0,y1,y2⟩:=hxr.c3
    have HXR:=Lib.hid hxr
    have HB:=Lib.hid hB
    have HBw:=Lib.hid hBw
    have HY:=Lib.hid hy
    clear hB hBw hy hxr
    have b1:(0:Int)≤(i:Int):=by omega
    have b2:(i:Int)<(l.length:Int):=by omega
    have hbe:=eql_sym y x
    by_cases he:y=x
    · have t2:decide (y=x)=true:=by simpa using he
      rw [t2] at hbe
      have HE:=Lib.hid (show z=(i:Int) by rw [HZ.out,plV_take hlt HK.out (by rw [← HY.out];exact he)];omega)
      clear he t2
      go_wp2_with fail
      go_quiet (fail)
      clear q0 q1 q2 y0 y1 y2
      go_wp2_with fail
      go_ret
      exact ⟨by rw [HE.out]<;>rfl,Below.drewN' HBw.out nq⟩
    · have t2:decide (y=x)=false:=by simpa using he
      rw [t2] at hbe
      have HE:=Lib.hid (plV_take_no hlt HK.out (by rw [← HY.out];exact he))
      clear he t2
      go_wp2_with fail
      go_quiet (fail)
      have HB1:=Lib.hid (Below.drewN' HB.out nq)
      clear q0 q1 q2 y0 y1 y2
      go_wp2_with fail
      go_roundw
      case rel=>exact ⟨i+1,by go_num,HE.out,by omega,HB1.out⟩
      case measure=>simp [intOf]<;>omega
  · have hie:i=l.length:=by omega
    subst hie
    have HB:=Lib.hid hB
    have HE:=Lib.hid (show z = -1 by rw [HZ.out];have:=HK.out;rw [List.take_length] at this;rw [this];rfl)
    clear hB
    go_wp2_with fail
    go_ret
    exact ⟨by rw [HE.out]<;>rfl,HB0.out.trans (HB.out.mono HB0.out.size)⟩
set_option maxRecDepth 100000 in
set_option maxHeartbeats 4000000 in
theorem rrank_is (A:Option Addr) (c:Nat) (ns:List Sym) (s:Sym) (w:World) (h:RowRd w 3 Sym.cells A c ns):Calls Tryz.prog 126 #[.slice A ns.length c,.agg #[.int .i64 s.kind,.string s.text,.int .i64 s.n]] w fun e w'=>e = .returned (.int .i64 (rkN ns s))∧Below w.heap.size w w':=by
 have HP:=Lib.hid (fun W (hW:Below w.heap.size w W)=>rplace_is A c ns s W (h.new_ hW))
 have HA:=Lib.hid ((Below.refl w.heap.size w).alloc (Nat.le_refl _) (.cells #[.int .i64 s.kind,.string s.text,.int .i64 s.n] 23))
 clear h
 obtain ⟨z,hz⟩ : ∃z,z=(plV ns s:Int) - 1:=⟨_,rfl⟩
 rw [← hz] at HP
 by_cases hk:s.kind=1
 · have e1:(s.kind != 1)=false:=by simp [hk]
   by_cases hp:plV ns s=0
   · have HR:=Lib.hid (show rkN ns s=2 by rw [rkN,if_neg (by omega),if_pos hp])
     have r1 : ¬(0:Int)≤z:=by omega
     clear hk hp hz
     go_enter Tryz.func126,Tryz.ntmps126
     go_wp2_with fail
     refine (HP.out _ HA.out).mono ?_
     rintro e w2 ⟨rfl,hb⟩
     have HB:=Lib.hid (HA.out.trans (hb.mono (by simp)))
     clear hb
     go_wp2_with fail
     go_ret
     exact ⟨by rw [HR.out]<;>rfl,HB.out⟩
   · have HR:=Lib.hid (show rkN ns s=1 by rw [rkN,if_neg (by omega),if_neg hp])
     have r1:(0:Int)≤z:=by omega
     clear hk hp hz
     go_enter Tryz.func126,Tryz.ntmps126
     go_wp2_with fail
     refine (HP.out _ HA.out).mono ?_
     rintro e w2 ⟨rfl,hb⟩
     have HB:=Lib.hid (HA.out.trans (hb.mono (by simp)))
     clear hb
     go_wp2_with fail
     go_ret
     exact ⟨by rw [HR.out]<;>rfl,HB.out⟩
 · have HR:=Lib.hid (show rkN ns s=0 by rw [rkN,if_pos hk])
   have e1:(s.kind != 1)=true:=by simp [hk]
   clear hk hz
   go_enter Tryz.func126,Tryz.ntmps126
   go_wp2_with fail
   go_ret
   exact ⟨by rw [HR.out]<;>rfl,HA.out⟩
set_option maxRecDepth 100000 in
set_option maxHeartbeats 8000000 in
theorem rahead_is (A:Option Addr) (c:Nat) (ns:List Sym) (a b:Elem) (w:World) (h:RowRd w 3 Sym.cells A c ns):Calls Tryz.prog 75 #[.slice A ns.length c,.agg #[.int .i64 a.id.kind,.string a.id.text,.int .i64 a.id.n,.int .i64 a.attr.kind,.string a.attr.text,.int .i64 a.attr.n,.int .i64 a.value.kind,.string a.value.text,.int .i64 a.value.n,.bool a.acc,.bool a.goal,.int .i64 a.tag],.agg #[.int .i64 b.id.kind,.string b.id.text,.int .i64 b.id.n,.int .i64 b.attr.kind,.string b.attr.text,.int .i64 b.attr.n,.int .i64 b.value.kind,.string b.value.text,.int .i64 b.value.n,.bool b.acc,.bool b.goal,.int .i64 b.tag]] w fun e w'=>e = .returned (.bool (aheadV ns a b))∧Below w.heap.size w w':=by
 rw [← refA_is]
 have HPL:=Lib.hid (fun (s:Sym) W (hW:Below w.heap.size w W)=>rplace_is A c ns s W (h.new_ hW))
 have HRK:=Lib.hid (fun (s:Sym) W (hW:Below w.heap.size w W)=>rrank_is A c ns s W (h.new_ hW))
 obtain ⟨v,hv⟩ : ∃v,v=refA ns a b:=⟨_,rfl⟩
 rw [← hv]
 unfold refA at hv
 have HV:=Lib.hid hv
 clear hv h
 obtain ⟨i,hi⟩ : ∃i,i=plV ns a.id:=⟨_,rfl⟩
 obtain ⟨j,hj⟩ : ∃j,j=plV ns b.id:=⟨_,rfl⟩
 obtain ⟨p,hp⟩ : ∃p,p=(i:Int) - 1:=⟨_,rfl⟩
 obtain ⟨q,hq⟩ : ∃q,q=(j:Int) - 1:=⟨_,rfl⟩
 obtain ⟨ra,hra⟩ : ∃x,x=rkN ns a.value:=⟨_,rfl⟩
 obtain ⟨rb,hrb⟩ : ∃x,x=rkN ns b.value:=⟨_,rfl⟩
 obtain ⟨k,hk⟩ : ∃x,x=plV ns a.value:=⟨_,rfl⟩
 obtain ⟨m,hm⟩ : ∃x,x=plV ns b.value:=⟨_,rfl⟩
 obtain ⟨pk,hpk⟩ : ∃x,x=(k:Int) - 1:=⟨_,rfl⟩
 obtain ⟨pm,hpm⟩ : ∃x,x=(m:Int) - 1:=⟨_,rfl⟩
 rw [← hi,← hj,← hra,← hrb,← hk,← hm] at HV
 have C1:=Lib.hid (show ∀W,Below w.heap.size w W→Calls Tryz.prog 74 #[.slice A ns.length c,.agg #[.int .i64 a.id.kind,.string a.id.text,.int .i64 a.id.n]] W fun e w'=>e = .returned (.int .i64 p)∧Below W.heap.size W w' from fun W hW=>by rw [hp,hi];exact HPL.out a.id W hW)
 have C2:=Lib.hid (show ∀W,Below w.heap.size w W→Calls Tryz.prog 74 #[.slice A ns.length c,.agg #[.int .i64 b.id.kind,.string b.id.text,.int .i64 b.id.n]] W fun e w'=>e = .returned (.int .i64 q)∧Below W.heap.size W w' from fun W hW=>by rw [hq,hj];exact HPL.out b.id W hW)
 have C3:=Lib.hid (show ∀W,Below w.heap.size w W→Calls Tryz.prog 126 #[.slice A ns.length c,.agg #[.int .i64 a.value.kind,.string a.value.text,.int .i64 a.value.n]] W fun e w'=>e = .returned (.int .i64 ra)∧Below W.heap.size W w' from fun W hW=>by rw [hra];exact HRK.out a.value W hW)
 have C4:=Lib.hid (show ∀W,Below w.heap.size w W→Calls Tryz.prog 126 #[.slice A ns.length c,.agg #[.int .i64 b.value.kind,.string b.value.text,.int .i64 b.value.n]] W fun e w'=>e = .returned (.int .i64 rb)∧Below W.heap.size W w' from fun W hW=>by rw [hrb];exact HRK.out b.value W hW)
 have C5:=Lib.hid (show ∀W,Below w.heap.size w W→Calls Tryz.prog 74 #[.slice A ns.length c,.agg #[.int .i64 a.value.kind,.string a.value.text,.int .i64 a.value.n]] W fun e w'=>e = .returned (.int .i64 pk)∧Below W.heap.size W w' from fun W hW=>by rw [hpk,hk];exact HPL.out a.value W hW)
 have C6:=Lib.hid (show ∀W,Below w.heap.size w W→Calls Tryz.prog 74 #[.slice A ns.length c,.agg #[.int .i64 b.value.kind,.string b.value.text,.int .i64 b.value.n]] W fun e w'=>e = .returned (.int .i64 pm)∧Below W.heap.size W w' from fun W hW=>by rw [hpm,hm];exact HPL.out b.value W hW)
 have hb1:=fun W=>neq_sym a.attr b.attr W
 have hb2:=fun W=>neq_sym a.value b.value W
 have HBA:=Lib.hid (before_is a.attr b.attr)
 have HBV:=Lib.hid (before_is a.value b.value)
 have HPQ:=Lib.hid (And.intro hp (And.intro hq (And.intro hpk hpm)))
 clear HPL HRK hi hj hra hrb hk hm hp hq hpk hpm
 go_enter Tryz.func75,Tryz.ntmps75
 go_upto_region 1 with fail
 obtain ⟨w1,hw1⟩ : ∃w1,w1=((w.alloc (.cells #[.int .i64 a.id.kind,.string a.id.text,.int .i64 a.id.n,.int .i64 a.attr.kind,.string a.attr.text,.int .i64 a.attr.n,.int .i64 a.value.kind,.string a.value.text,.int .i64 a.value.n,.bool a.acc,.bool a.goal,.int .i64 a.tag] 55)).alloc (.cells #[.int .i64 b.id.kind,.string b.id.text,.int .i64 b.id.n,.int .i64 b.attr.kind,.string b.attr.text,.int .i64 b.attr.n,.int .i64 b.value.kind,.string b.value.text,.int .i64 b.value.n,.bool b.acc,.bool b.goal,.int .i64 b.tag] 55)):=⟨_,rfl⟩
 rw [← hw1]
 have HB:=Lib.hid (show Below w.heap.size w w1 by rw [hw1];exact (by repeat (first | exact Below.refl _ _ | refine Below.drew ?_ | refine Below.al ?_ _ | refine Below.sc ?_ _)))
 have Ka:=Lib.hid (show Blk w1 (w.heap.size) 55 #[.int .i64 a.id.kind,.string a.id.text,.int .i64 a.id.n,.int .i64 a.attr.kind,.string a.attr.text,.int .i64 a.attr.n,.int .i64 a.value.kind,.string a.value.text,.int .i64 a.value.n,.bool a.acc,.bool a.goal,.int .i64 a.tag] by rw [hw1];exact ((Blk.new w 55 #[.int .i64 a.id.kind,.string a.id.text,.int .i64 a.id.n,.int .i64 a.attr.kind,.string a.attr.text,.int .i64 a.attr.n,.int .i64 a.value.kind,.string a.value.text,.int .i64 a.value.n,.bool a.acc,.bool a.goal,.int .i64 a.tag]).alloc (.cells #[.int .i64 b.id.kind,.string b.id.text,.int .i64 b.id.n,.int .i64 b.attr.kind,.string b.attr.text,.int .i64 b.attr.n,.int .i64 b.value.kind,.string b.value.text,.int .i64 b.value.n,.bool b.acc,.bool b.goal,.int .i64 b.tag] 55)))
 have Kb:=Lib.hid (show Blk w1 (w.heap.size+1) 55 #[.int .i64 b.id.kind,.string b.id.text,.int .i64 b.id.n,.int .i64 b.attr.kind,.string b.attr.text,.int .i64 b.attr.n,.int .i64 b.value.kind,.string b.value.text,.int .i64 b.value.n,.bool b.acc,.bool b.goal,.int .i64 b.tag] by rw [hw1];have hh:=(Blk.new (w.alloc (.cells #[.int .i64 a.id.kind,.string a.id.text,.int .i64 a.id.n,.int .i64 a.attr.kind,.string a.attr.text,.int .i64 a.attr.n,.int .i64 a.value.kind,.string a.value.text,.int .i64 a.value.n,.bool a.acc,.bool a.goal,.int .i64 a.tag] 55)) 55 #[.int .i64 b.id.kind,.string b.id.text,.int .i64 b.id.n,.int .i64 b.attr.kind,.string b.attr.text,.int .i64 b.attr.n,.int .i64 b.value.kind,.string b.value.text,.int .i64 b.value.n,.bool b.acc,.bool b.goal,.int .i64 b.tag]);simp only [World.size_alloc] at hh;exact hh)
 clear hw1
 obtain ⟨a0,a1,a2,a3,a4,a5,a6,a7,a8,a9,a10,a11⟩:=Ka.out.c12
 have az:=Ka.out.lt
 obtain ⟨b0,b1,b2,b3,b4,b5,b6,b7,b8,b9,b10,b11⟩:=Kb.out.c12
 have bz:=Kb.out.lt
 go_upto_region 1 with fail
 refine wp_region_E (fun w9=>Below w1.heap.size w1 w9) [(0,0),(1,0),(2,1),(4,0),(5,0),(6,1),(3,2),(7,2),(8,0),(9,0)] (by kernel_rfl) (by kernel_rfl) (fun KK hKK=>?_)
 simp only [beside,List.filterMap_cons,List.filterMap_nil,List.getElem?_toArray,List.getElem?_cons_zero,List.getElem?_cons_succ,Option.map_some]
 repeat ((first | (refine wpX_w ?_ (Or.inl ⟨by rfl,fun w9=>?_⟩) ?_;rotate_left 1;go_simp;with_reducible rfl) | (refine wpX_l ?_ (((Below.refl _ _).drew)) (Or.inl ⟨by rfl,fun w9 hw9=>?_⟩) ?_;rotate_left 1;obtain ⟨hc9,hf9⟩:=bcell hw9;go_simp;with_reducible rfl) | refine wpX_w undef (Or.inr ⟨by rfl,rfl⟩) ?_ | refine wpX_l undef (((Below.refl _ _).drew)) (Or.inr ⟨by rfl,rfl⟩) ?_);go_frame)
 refine wpX_es (fun K9 hK9=>?_)
 go_simp
 refine (C1.out _ (HB.out.trans (((Below.refl w1.heap.size w1).drew).mono HB.out.size))).mono ?_
 rintro e w31 ⟨rfl,hb31⟩
 have HB31:=Lib.hid ((Below.refl w1.heap.size w1).drew.trans (hb31.mono (by simp)))
 clear hb31
 refine hK9 _ _ HB31.out ?_
 clear hK9 K9
 refine wpX_es (fun K9 hK9=>?_)
 go_simp
 refine (C2.out _ (HB.out.trans ((HB31.out).mono HB.out.size))).mono ?_
 rintro e w32 ⟨rfl,hb32⟩
 have HB32:=Lib.hid (HB31.out.trans (hb32.mono HB31.out.size))
 clear hb32
 refine hK9 _ _ HB32.out ?_
 clear hK9 K9
 repeat ((first | (refine wpX_w ?_ (Or.inl ⟨by rfl,fun w9=>?_⟩) ?_;rotate_left 1;go_simp;with_reducible rfl) | (refine wpX_l ?_ (HB32.out) (Or.inl ⟨by rfl,fun w9 hw9=>?_⟩) ?_;rotate_left 1;obtain ⟨hc9,hf9⟩:=bcell hw9;go_simp;with_reducible rfl) | refine wpX_w undef (Or.inr ⟨by rfl,rfl⟩) ?_ | refine wpX_l undef (HB32.out) (Or.inr ⟨by rfl,rfl⟩) ?_);go_frame)
 refine wpX_nil ?_
 simp only [OnlyN_normal]
 refine hKK _ _ ?_
 clear hKK KK
 have Ka:=Lib.hid (Ka.out.new_ HB32.out)
 have Kb:=Lib.hid (Kb.out.new_ HB32.out)
 have HB:=Lib.hid (HB.out.trans (HB32.out.mono HB.out.size))
 have hsz_3:=HB.out.size
 clear a0 a1 a2 a3 a4 a5 a6 a7 a8 a9 a10 a11 az b0 b1 b2 b3 b4 b5 b6 b7 b8 b9 b10 b11 bz 
 obtain ⟨a0,a1,a2,a3,a4,a5,a6,a7,a8,a9,a10,a11⟩:=Ka.out.c12
 have az:=Ka.out.lt
 obtain ⟨b0,b1,b2,b3,b4,b5,b6,b7,b8,b9,b10,b11⟩:=Kb.out.c12
 have bz:=Kb.out.lt
 by_cases hi0:i=0
 · by_cases hj0:j=0
   · skip
     have ep:p = -1:=by rw [HPQ.out.1,hi0];rfl
     have eq:q = -1:=by rw [HPQ.out.2.1,hj0];rfl
     replace HV:=Lib.hid (HV.out.trans ((if_neg (by rw [hi0,hj0];simp)).trans (if_neg (by rw [hi0,hj0];simp))))
     have HPQ:=Lib.hid HPQ.out.2.2
     subst ep eq
     clear hi0 hj0 C1 C2
     by_cases ha:a.attr=b.attr
     case neg=>
      have t2:decide (a.attr=b.attr)=false:=by simpa using ha
      simp only [t2,Bool.not_false] at hb1
      replace HV:=Lib.hid (show v=decide (cmpSym a.attr b.attr<0) from HV.out.trans (by rw [if_pos ha]))
      clear ha t2
      go_wp2_with fail
      refine (HBA.out _).mono ?_
      rintro e w9 ⟨rfl,hb9⟩
      have HB:=Lib.hid (HB.out.trans (hb9.mono HB.out.size))
      clear hb9
      go_wp2_with fail
      go_ret
      exact ⟨by rw [HV.out]<;>rfl,HB.out⟩
     have t2:decide (a.attr=b.attr)=true:=by simpa using ha
     simp only [t2,Bool.not_true] at hb1
     replace HV:=Lib.hid (HV.out.trans (if_neg (fun h=>h ha)))
     clear ha t2
     obtain ⟨xa,hxa⟩ : ∃x,x=a.acc:=⟨_,rfl⟩
     obtain ⟨xb,hxb⟩ : ∃x,x=b.acc:=⟨_,rfl⟩
     rw [← hxa,← hxb] at HV
     rw [← hxa] at a9
     rw [← hxb] at b9
     have HXA:=Lib.hid (And.intro hxa hxb)
     clear hxa hxb
     by_cases hac:xa=xb
     case neg=>
      replace HV:=Lib.hid (show v=xb from HV.out.trans (by rw [if_pos hac]))
      cases xa<;>cases xb<;>first | exact absurd rfl hac | skip
      · skip
        clear hac
        go_wp2_with fail
        go_ret
        exact ⟨by rw [HV.out]<;>rfl,HB.out⟩
      · skip
        clear hac
        go_wp2_with fail
        go_ret
        exact ⟨by rw [HV.out]<;>rfl,HB.out⟩
     subst hac
     replace HV:=Lib.hid (HV.out.trans (if_neg (fun h=>h rfl)))
     have ea:(xa != xa)=false:=by simp
     have Ka:=Lib.hid (show Blk w32 _ _ #[.int .i64 a.id.kind,.string a.id.text,.int .i64 a.id.n,.int .i64 a.attr.kind,.string a.attr.text,.int .i64 a.attr.n,.int .i64 a.value.kind,.string a.value.text,.int .i64 a.value.n,.bool xa,.bool a.goal,.int .i64 a.tag] by have:=Ka.out;rw [← HXA.out.1] at this;exact this)
     have Kb:=Lib.hid (show Blk w32 _ _ #[.int .i64 b.id.kind,.string b.id.text,.int .i64 b.id.n,.int .i64 b.attr.kind,.string b.attr.text,.int .i64 b.attr.n,.int .i64 b.value.kind,.string b.value.text,.int .i64 b.value.n,.bool xa,.bool b.goal,.int .i64 b.tag] by have:=Kb.out;rw [← HXA.out.2] at this;exact this)
     go_upto_region 10 with fail
     refine wp_region_E (fun w9=>Below w32.heap.size w32 w9) [(0,0),(1,0),(2,1),(4,0),(5,0),(6,1),(3,2),(7,2),(8,0),(9,0)] (by kernel_rfl) (by kernel_rfl) (fun KK hKK=>?_)
     simp only [beside,List.filterMap_cons,List.filterMap_nil,List.getElem?_toArray,List.getElem?_cons_zero,List.getElem?_cons_succ,Option.map_some]
     repeat ((first | (refine wpX_w ?_ (Or.inl ⟨by rfl,fun w9=>?_⟩) ?_;rotate_left 1;go_simp;with_reducible rfl) | (refine wpX_l ?_ (((Below.refl _ _).drew)) (Or.inl ⟨by rfl,fun w9 hw9=>?_⟩) ?_;rotate_left 1;obtain ⟨hc9,hf9⟩:=bcell hw9;go_simp;with_reducible rfl) | refine wpX_w undef (Or.inr ⟨by rfl,rfl⟩) ?_ | refine wpX_l undef (((Below.refl _ _).drew)) (Or.inr ⟨by rfl,rfl⟩) ?_);go_frame)
     refine wpX_es (fun K9 hK9=>?_)
     go_simp
     refine (C3.out _ (HB.out.trans (((Below.refl w32.heap.size w32).drew).mono HB.out.size))).mono ?_
     rintro e w41 ⟨rfl,hb41⟩
     have HB41:=Lib.hid ((Below.refl w32.heap.size w32).drew.trans (hb41.mono (by simp)))
     clear hb41
     refine hK9 _ _ HB41.out ?_
     clear hK9 K9
     refine wpX_es (fun K9 hK9=>?_)
     go_simp
     refine (C4.out _ (HB.out.trans ((HB41.out).mono HB.out.size))).mono ?_
     rintro e w42 ⟨rfl,hb42⟩
     have HB42:=Lib.hid (HB41.out.trans (hb42.mono HB41.out.size))
     clear hb42
     refine hK9 _ _ HB42.out ?_
     clear hK9 K9
     repeat ((first | (refine wpX_w ?_ (Or.inl ⟨by rfl,fun w9=>?_⟩) ?_;rotate_left 1;go_simp;with_reducible rfl) | (refine wpX_l ?_ (HB42.out) (Or.inl ⟨by rfl,fun w9 hw9=>?_⟩) ?_;rotate_left 1;obtain ⟨hc9,hf9⟩:=bcell hw9;go_simp;with_reducible rfl) | refine wpX_w undef (Or.inr ⟨by rfl,rfl⟩) ?_ | refine wpX_l undef (HB42.out) (Or.inr ⟨by rfl,rfl⟩) ?_);go_frame)
     refine wpX_nil ?_
     simp only [OnlyN_normal]
     refine hKK _ _ ?_
     clear hKK KK
     have Ka:=Lib.hid (Ka.out.new_ HB42.out)
     have Kb:=Lib.hid (Kb.out.new_ HB42.out)
     have HB:=Lib.hid (HB.out.trans (HB42.out.mono HB.out.size))
     have hsz_4:=HB.out.size
     clear a0 a1 a2 a3 a4 a5 a6 a7 a8 a9 a10 a11 az b0 b1 b2 b3 b4 b5 b6 b7 b8 b9 b10 b11 bz 
     obtain ⟨a0,a1,a2,a3,a4,a5,a6,a7,a8,a9,a10,a11⟩:=Ka.out.c12
     have az:=Ka.out.lt
     obtain ⟨b0,b1,b2,b3,b4,b5,b6,b7,b8,b9,b10,b11⟩:=Kb.out.c12
     have bz:=Kb.out.lt
     by_cases hr:ra=rb
     case neg=>
      replace HV:=Lib.hid (show v=decide (ra<rb) from HV.out.trans (by rw [if_pos hr]))
      have u1:(ra != rb)=true:=by simp [hr]
      clear hr
      by_cases hlt:ra<rb
      · have u2:decide (ra<rb)=true:=by simpa using hlt
        rw [u2] at HV
        go_wp2_with fail
        go_ret
        exact ⟨by rw [HV.out]<;>rfl,HB.out⟩
      · have u2:decide (ra<rb)=false:=by simpa using hlt
        rw [u2] at HV
        go_wp2_with fail
        go_ret
        exact ⟨by rw [HV.out]<;>rfl,HB.out⟩
     subst hr
     replace HV:=Lib.hid (HV.out.trans (if_neg (fun h=>h rfl)))
     have u1:(ra != ra)=false:=by simp
     by_cases hvv:a.value=b.value
     · skip
       have t2:decide (a.value=b.value)=true:=by simpa using hvv
       simp only [t2,Bool.not_true] at hb2
       replace HV:=Lib.hid (show v=decide (a.tag<b.tag) from HV.out.trans (by rw [if_neg (fun h=>h.2 hvv),if_neg (fun h=>h.2 hvv)]))
       clear hvv t2
       by_cases z0:ra=0
       · subst z0
         go_wp2_with fail
         go_ret
         exact ⟨by rw [HV.out]<;>rfl,HB.out⟩
       have z1:(ra == 0)=false:=by simp [z0]
       by_cases z2:ra=1
       · subst z2
         go_wp2_with fail
         go_ret
         exact ⟨by rw [HV.out]<;>rfl,HB.out⟩
       have z3:(ra == 1)=false:=by simp [z2]
       go_wp2_with fail
       go_ret
       exact ⟨by rw [HV.out]<;>rfl,HB.out⟩
     · skip
       have t2:decide (a.value=b.value)=false:=by simpa using hvv
       simp only [t2,Bool.not_false] at hb2
       by_cases z0:ra=0
       · subst z0
         replace HV:=Lib.hid (show v=decide (cmpSym a.value b.value<0) from HV.out.trans (by rw [if_pos ⟨rfl,hvv⟩]))
         clear hvv t2
         go_wp2_with fail
         refine (HBV.out _).mono ?_
         rintro e w9 ⟨rfl,hb9⟩
         have HB:=Lib.hid (HB.out.trans (hb9.mono HB.out.size))
         clear hb9
         go_wp2_with fail
         go_ret
         exact ⟨by rw [HV.out]<;>rfl,HB.out⟩
       have z1:(ra == 0)=false:=by simp [z0]
       by_cases z2:ra=1
       · skip
         subst z2
         replace HV:=Lib.hid (show v=decide (pk<pm) from HV.out.trans (by
          rw [if_neg (fun h=>absurd h.1 (by decide)),if_pos ⟨rfl,hvv⟩]
          obtain ⟨e1,e2⟩:=HPQ.out
          exact decide_eq_decide.2 (by omega)))
         clear hvv t2 z0 z1
         go_upto_region 16 with fail
         refine wp_region_E (fun w9=>Below w42.heap.size w42 w9) [(0,0),(1,0),(2,1),(4,0),(5,0),(6,1),(3,2),(7,2),(8,0),(9,0)] (by kernel_rfl) (by kernel_rfl) (fun KK hKK=>?_)
         simp only [beside,List.filterMap_cons,List.filterMap_nil,List.getElem?_toArray,List.getElem?_cons_zero,List.getElem?_cons_succ,Option.map_some]
         repeat ((first | (refine wpX_w ?_ (Or.inl ⟨by rfl,fun w9=>?_⟩) ?_;rotate_left 1;go_simp;with_reducible rfl) | (refine wpX_l ?_ (((Below.refl _ _).drew)) (Or.inl ⟨by rfl,fun w9 hw9=>?_⟩) ?_;rotate_left 1;obtain ⟨hc9,hf9⟩:=bcell hw9;go_simp;with_reducible rfl) | refine wpX_w undef (Or.inr ⟨by rfl,rfl⟩) ?_ | refine wpX_l undef (((Below.refl _ _).drew)) (Or.inr ⟨by rfl,rfl⟩) ?_);go_frame)
         refine wpX_es (fun K9 hK9=>?_)
         go_simp
         refine (C5.out _ (HB.out.trans (((Below.refl w42.heap.size w42).drew).mono HB.out.size))).mono ?_
         rintro e w51 ⟨rfl,hb51⟩
         have HB51:=Lib.hid ((Below.refl w42.heap.size w42).drew.trans (hb51.mono (by simp)))
         clear hb51
         refine hK9 _ _ HB51.out ?_
         clear hK9 K9
         refine wpX_es (fun K9 hK9=>?_)
         go_simp
         refine (C6.out _ (HB.out.trans ((HB51.out).mono HB.out.size))).mono ?_
         rintro e w52 ⟨rfl,hb52⟩
         have HB52:=Lib.hid (HB51.out.trans (hb52.mono HB51.out.size))
         clear hb52
         refine hK9 _ _ HB52.out ?_
         clear hK9 K9
         repeat ((first | (refine wpX_w ?_ (Or.inl ⟨by rfl,fun w9=>?_⟩) ?_;rotate_left 1;go_simp;with_reducible rfl) | (refine wpX_l ?_ (HB52.out) (Or.inl ⟨by rfl,fun w9 hw9=>?_⟩) ?_;rotate_left 1;obtain ⟨hc9,hf9⟩:=bcell hw9;go_simp;with_reducible rfl) | refine wpX_w undef (Or.inr ⟨by rfl,rfl⟩) ?_ | refine wpX_l undef (HB52.out) (Or.inr ⟨by rfl,rfl⟩) ?_);go_frame)
         refine wpX_nil ?_
         simp only [OnlyN_normal]
         refine hKK _ _ ?_
         clear hKK KK
         have HB:=Lib.hid (HB.out.trans (HB52.out.mono HB.out.size))
         clear a0 a1 a2 a3 a4 a5 a6 a7 a8 a9 a10 a11 az b0 b1 b2 b3 b4 b5 b6 b7 b8 b9 b10 b11 bz 
         go_wp2_with fail
         go_ret
         exact ⟨by rw [HV.out]<;>rfl,HB.out⟩
       have z3:(ra == 1)=false:=by simp [z2]
       replace HV:=Lib.hid (show v=decide (a.tag<b.tag) from HV.out.trans (by rw [if_neg (fun h=>z0 h.1),if_neg (fun h=>z2 h.1)]))
       clear hvv t2
       go_wp2_with fail
       go_ret
       exact ⟨by rw [HV.out]<;>rfl,HB.out⟩
   · skip
     have ep:p = -1:=by rw [HPQ.out.1,hi0];rfl
     have h1 : ¬q<0:=by have:=HPQ.out.2.1;omega
     replace HV:=Lib.hid (show v=false from HV.out.trans ((if_pos (by simp [hi0,hj0])).trans (by simp [hi0])))
     clear HPQ
     subst ep
     clear hi0 hj0 C1 C2
     go_wp2_with fail
     go_ret
     exact ⟨by rw [HV.out]<;>rfl,HB.out⟩
 · by_cases hj0:j=0
   · skip
     have h1 : ¬p<0:=by have:=HPQ.out.1;omega
     have h2:0≤p:=by have:=HPQ.out.1;omega
     have eq:q = -1:=by rw [HPQ.out.2.1,hj0];rfl
     replace HV:=Lib.hid (show v=true from HV.out.trans ((if_pos (by simp [hi0,hj0])).trans (by simp [hi0])))
     clear HPQ
     subst eq
     clear hi0 hj0 C1 C2
     go_wp2_with fail
     go_ret
     exact ⟨by rw [HV.out]<;>rfl,HB.out⟩
   · skip
     have h1 : ¬p<0:=by have:=HPQ.out.1;omega
     have h2 : ¬q<0:=by have:=HPQ.out.2.1;omega
     replace HV:=Lib.hid (HV.out.trans (if_neg (by simp [hi0,hj0])))
     by_cases hij:i=j
     case neg=>
      have e1:(p != q)=true:=by have h3:=HPQ.out.1;have h4:=HPQ.out.2.1;simp;omega
      replace HV:=Lib.hid (show v=decide (p<q) from HV.out.trans ((if_pos hij).trans (decide_eq_decide.2 (by have h3:=HPQ.out.1;have h4:=HPQ.out.2.1;omega))))
      clear hij hi0 hj0 HPQ C1 C2
      go_wp2_with fail
      go_ret
      exact ⟨by rw [HV.out]<;>rfl,HB.out⟩
     have epq:q=p:=by have h3:=HPQ.out.1;have h4:=HPQ.out.2.1;omega
     replace HV:=Lib.hid (HV.out.trans (if_neg (fun h=>h hij)))
     have HPQ:=Lib.hid HPQ.out.2.2
     subst epq
     have e1:(q != q)=false:=by simp
     clear hij hi0 hj0 C1 C2
     by_cases ha:a.attr=b.attr
     case neg=>
      have t2:decide (a.attr=b.attr)=false:=by simpa using ha
      simp only [t2,Bool.not_false] at hb1
      replace HV:=Lib.hid (show v=decide (cmpSym a.attr b.attr<0) from HV.out.trans (by rw [if_pos ha]))
      clear ha t2
      go_wp2_with fail
      refine (HBA.out _).mono ?_
      rintro e w9 ⟨rfl,hb9⟩
      have HB:=Lib.hid (HB.out.trans (hb9.mono HB.out.size))
      clear hb9
      go_wp2_with fail
      go_ret
      exact ⟨by rw [HV.out]<;>rfl,HB.out⟩
     have t2:decide (a.attr=b.attr)=true:=by simpa using ha
     simp only [t2,Bool.not_true] at hb1
     replace HV:=Lib.hid (HV.out.trans (if_neg (fun h=>h ha)))
     clear ha t2
     obtain ⟨xa,hxa⟩ : ∃x,x=a.acc:=⟨_,rfl⟩
     obtain ⟨xb,hxb⟩ : ∃x,x=b.acc:=⟨_,rfl⟩
     rw [← hxa,← hxb] at HV
     rw [← hxa] at a9
     rw [← hxb] at b9
     have HXA:=Lib.hid (And.intro hxa hxb)
     clear hxa hxb
     by_cases hac:xa=xb
     case neg=>
      replace HV:=Lib.hid (show v=xb from HV.out.trans (by rw [if_pos hac]))
      cases xa<;>cases xb<;>first | exact absurd rfl hac | skip
      · skip
        clear hac
        go_wp2_with fail
        go_ret
        exact ⟨by rw [HV.out]<;>rfl,HB.out⟩
      · skip
        clear hac
        go_wp2_with fail
        go_ret
        exact ⟨by rw [HV.out]<;>rfl,HB.out⟩
     subst hac
     replace HV:=Lib.hid (HV.out.trans (if_neg (fun h=>h rfl)))
     have ea:(xa != xa)=false:=by simp
     have Ka:=Lib.hid (show Blk w32 _ _ #[.int .i64 a.id.kind,.string a.id.text,.int .i64 a.id.n,.int .i64 a.attr.kind,.string a.attr.text,.int .i64 a.attr.n,.int .i64 a.value.kind,.string a.value.text,.int .i64 a.value.n,.bool xa,.bool a.goal,.int .i64 a.tag] by have:=Ka.out;rw [← HXA.out.1] at this;exact this)
     have Kb:=Lib.hid (show Blk w32 _ _ #[.int .i64 b.id.kind,.string b.id.text,.int .i64 b.id.n,.int .i64 b.attr.kind,.string b.attr.text,.int .i64 b.attr.n,.int .i64 b.value.kind,.string b.value.text,.int .i64 b.value.n,.bool xa,.bool b.goal,.int .i64 b.tag] by have:=Kb.out;rw [← HXA.out.2] at this;exact this)
     go_upto_region 10 with fail
     refine wp_region_E (fun w9=>Below w32.heap.size w32 w9) [(0,0),(1,0),(2,1),(4,0),(5,0),(6,1),(3,2),(7,2),(8,0),(9,0)] (by kernel_rfl) (by kernel_rfl) (fun KK hKK=>?_)
     simp only [beside,List.filterMap_cons,List.filterMap_nil,List.getElem?_toArray,List.getElem?_cons_zero,List.getElem?_cons_succ,Option.map_some]
     repeat ((first | (refine wpX_w ?_ (Or.inl ⟨by rfl,fun w9=>?_⟩) ?_;rotate_left 1;go_simp;with_reducible rfl) | (refine wpX_l ?_ (((Below.refl _ _).drew)) (Or.inl ⟨by rfl,fun w9 hw9=>?_⟩) ?_;rotate_left 1;obtain ⟨hc9,hf9⟩:=bcell hw9;go_simp;with_reducible rfl) | refine wpX_w undef (Or.inr ⟨by rfl,rfl⟩) ?_ | refine wpX_l undef (((Below.refl _ _).drew)) (Or.inr ⟨by rfl,rfl⟩) ?_);go_frame)
     refine wpX_es (fun K9 hK9=>?_)
     go_simp
     refine (C3.out _ (HB.out.trans (((Below.refl w32.heap.size w32).drew).mono HB.out.size))).mono ?_
     rintro e w41 ⟨rfl,hb41⟩
     have HB41:=Lib.hid ((Below.refl w32.heap.size w32).drew.trans (hb41.mono (by simp)))
     clear hb41
     refine hK9 _ _ HB41.out ?_
     clear hK9 K9
     refine wpX_es (fun K9 hK9=>?_)
     go_simp
     refine (C4.out _ (HB.out.trans ((HB41.out).mono HB.out.size))).mono ?_
     rintro e w42 ⟨rfl,hb42⟩
     have HB42:=Lib.hid (HB41.out.trans (hb42.mono HB41.out.size))
     clear hb42
     refine hK9 _ _ HB42.out ?_
     clear hK9 K9
     repeat ((first | (refine wpX_w ?_ (Or.inl ⟨by rfl,fun w9=>?_⟩) ?_;rotate_left 1;go_simp;with_reducible rfl) | (refine wpX_l ?_ (HB42.out) (Or.inl ⟨by rfl,fun w9 hw9=>?_⟩) ?_;rotate_left 1;obtain ⟨hc9,hf9⟩:=bcell hw9;go_simp;with_reducible rfl) | refine wpX_w undef (Or.inr ⟨by rfl,rfl⟩) ?_ | refine wpX_l undef (HB42.out) (Or.inr ⟨by rfl,rfl⟩) ?_);go_frame)
     refine wpX_nil ?_
     simp only [OnlyN_normal]
     refine hKK _ _ ?_
     clear hKK KK
     have Ka:=Lib.hid (Ka.out.new_ HB42.out)
     have Kb:=Lib.hid (Kb.out.new_ HB42.out)
     have HB:=Lib.hid (HB.out.trans (HB42.out.mono HB.out.size))
     have hsz_4:=HB.out.size
     clear a0 a1 a2 a3 a4 a5 a6 a7 a8 a9 a10 a11 az b0 b1 b2 b3 b4 b5 b6 b7 b8 b9 b10 b11 bz 
     obtain ⟨a0,a1,a2,a3,a4,a5,a6,a7,a8,a9,a10,a11⟩:=Ka.out.c12
     have az:=Ka.out.lt
     obtain ⟨b0,b1,b2,b3,b4,b5,b6,b7,b8,b9,b10,b11⟩:=Kb.out.c12
     have bz:=Kb.out.lt
     by_cases hr:ra=rb
     case neg=>
      replace HV:=Lib.hid (show v=decide (ra<rb) from HV.out.trans (by rw [if_pos hr]))
      have u1:(ra != rb)=true:=by simp [hr]
      clear hr
      by_cases hlt:ra<rb
      · have u2:decide (ra<rb)=true:=by simpa using hlt
        rw [u2] at HV
        go_wp2_with fail
        go_ret
        exact ⟨by rw [HV.out]<;>rfl,HB.out⟩
      · have u2:decide (ra<rb)=false:=by simpa using hlt
        rw [u2] at HV
        go_wp2_with fail
        go_ret
        exact ⟨by rw [HV.out]<;>rfl,HB.out⟩
     subst hr
     replace HV:=Lib.hid (HV.out.trans (if_neg (fun h=>h rfl)))
     have u1:(ra != ra)=false:=by simp
     by_cases hvv:a.value=b.value
     · skip
       have t2:decide (a.value=b.value)=true:=by simpa using hvv
       simp only [t2,Bool.not_true] at hb2
       replace HV:=Lib.hid (show v=decide (a.tag<b.tag) from HV.out.trans (by rw [if_neg (fun h=>h.2 hvv),if_neg (fun h=>h.2 hvv)]))
       clear hvv t2
       by_cases z0:ra=0
       · subst z0
         go_wp2_with fail
         go_ret
         exact ⟨by rw [HV.out]<;>rfl,HB.out⟩
       have z1:(ra == 0)=false:=by simp [z0]
       by_cases z2:ra=1
       · subst z2
         go_wp2_with fail
         go_ret
         exact ⟨by rw [HV.out]<;>rfl,HB.out⟩
       have z3:(ra == 1)=false:=by simp [z2]
       go_wp2_with fail
       go_ret
       exact ⟨by rw [HV.out]<;>rfl,HB.out⟩
     · skip
       have t2:decide (a.value=b.value)=false:=by simpa using hvv
       simp only [t2,Bool.not_false] at hb2
       by_cases z0:ra=0
       · subst z0
         replace HV:=Lib.hid (show v=decide (cmpSym a.value b.value<0) from HV.out.trans (by rw [if_pos ⟨rfl,hvv⟩]))
         clear hvv t2
         go_wp2_with fail
         refine (HBV.out _).mono ?_
         rintro e w9 ⟨rfl,hb9⟩
         have HB:=Lib.hid (HB.out.trans (hb9.mono HB.out.size))
         clear hb9
         go_wp2_with fail
         go_ret
         exact ⟨by rw [HV.out]<;>rfl,HB.out⟩
       have z1:(ra == 0)=false:=by simp [z0]
       by_cases z2:ra=1
       · skip
         subst z2
         replace HV:=Lib.hid (show v=decide (pk<pm) from HV.out.trans (by
          rw [if_neg (fun h=>absurd h.1 (by decide)),if_pos ⟨rfl,hvv⟩]
          obtain ⟨e1,e2⟩:=HPQ.out
          exact decide_eq_decide.2 (by omega)))
         clear hvv t2 z0 z1
         go_upto_region 16 with fail
         refine wp_region_E (fun w9=>Below w42.heap.size w42 w9) [(0,0),(1,0),(2,1),(4,0),(5,0),(6,1),(3,2),(7,2),(8,0),(9,0)] (by kernel_rfl) (by kernel_rfl) (fun KK hKK=>?_)
         simp only [beside,List.filterMap_cons,List.filterMap_nil,List.getElem?_toArray,List.getElem?_cons_zero,List.getElem?_cons_succ,Option.map_some]
         repeat ((first | (refine wpX_w ?_ (Or.inl ⟨by rfl,fun w9=>?_⟩) ?_;rotate_left 1;go_simp;with_reducible rfl) | (refine wpX_l ?_ (((Below.refl _ _).drew)) (Or.inl ⟨by rfl,fun w9 hw9=>?_⟩) ?_;rotate_left 1;obtain ⟨hc9,hf9⟩:=bcell hw9;go_simp;with_reducible rfl) | refine wpX_w undef (Or.inr ⟨by rfl,rfl⟩) ?_ | refine wpX_l undef (((Below.refl _ _).drew)) (Or.inr ⟨by rfl,rfl⟩) ?_);go_frame)
         refine wpX_es (fun K9 hK9=>?_)
         go_simp
         refine (C5.out _ (HB.out.trans (((Below.refl w42.heap.size w42).drew).mono HB.out.size))).mono ?_
         rintro e w51 ⟨rfl,hb51⟩
         have HB51:=Lib.hid ((Below.refl w42.heap.size w42).drew.trans (hb51.mono (by simp)))
         clear hb51
         refine hK9 _ _ HB51.out ?_
         clear hK9 K9
         refine wpX_es (fun K9 hK9=>?_)
         go_simp
         refine (C6.out _ (HB.out.trans ((HB51.out).mono HB.out.size))).mono ?_
         rintro e w52 ⟨rfl,hb52⟩
         have HB52:=Lib.hid (HB51.out.trans (hb52.mono HB51.out.size))
         clear hb52
         refine hK9 _ _ HB52.out ?_
         clear hK9 K9
         repeat ((first | (refine wpX_w ?_ (Or.inl ⟨by rfl,fun w9=>?_⟩) ?_;rotate_left 1;go_simp;with_reducible rfl) | (refine wpX_l ?_ (HB52.out) (Or.inl ⟨by rfl,fun w9 hw9=>?_⟩) ?_;rotate_left 1;obtain ⟨hc9,hf9⟩:=bcell hw9;go_simp;with_reducible rfl) | refine wpX_w undef (Or.inr ⟨by rfl,rfl⟩) ?_ | refine wpX_l undef (HB52.out) (Or.inr ⟨by rfl,rfl⟩) ?_);go_frame)
         refine wpX_nil ?_
         simp only [OnlyN_normal]
         refine hKK _ _ ?_
         clear hKK KK
         have HB:=Lib.hid (HB.out.trans (HB52.out.mono HB.out.size))
         clear a0 a1 a2 a3 a4 a5 a6 a7 a8 a9 a10 a11 az b0 b1 b2 b3 b4 b5 b6 b7 b8 b9 b10 b11 bz 
         go_wp2_with fail
         go_ret
         exact ⟨by rw [HV.out]<;>rfl,HB.out⟩
       have z3:(ra == 1)=false:=by simp [z2]
       replace HV:=Lib.hid (show v=decide (a.tag<b.tag) from HV.out.trans (by rw [if_neg (fun h=>z0 h.1),if_neg (fun h=>z2 h.1)]))
       clear hvv t2
       go_wp2_with fail
       go_ret
       exact ⟨by rw [HV.out]<;>rfl,HB.out⟩
end Go.Proofs.YtldndkngpdfpfaaGreat
