/-
  For every input VaryOlds answers true, and leaves its arguments and all that was there as they were. No conditions.
-/
import Derived.Test.YtldndkngpdfpfaaGreatPDl
import Derived.Deep.CutRange
import Derived.Maps.RangeWalk
namespace Go.Proofs.YtldndkngpdfpfaaGreat
open Go.RowKit Go.Shelf
attribute [local go_sem] Oper.semAt_some
set_option linter.unusedSimpArgs false
set_option maxRecDepth 100000 in
set_option maxHeartbeats 2000000 in
theorem olds_fun (j:Nat) (old:Bool) (X:World) (b3 b4:Nat) (h3:Blk X b3 3 #[.int .i64 ((j:Int)+1)]) (h4:Blk X b4 4 #[.bool old]):OldOk 34 #[.pointer (some ⟨b4,0,none⟩),.pointer (some ⟨b3,0,none⟩)] X (fun x=>old && decide (x=bSym (j+1))):=by
 refine ⟨fun args w=>by kernel_rfl,fun s W hW=>?_⟩
 show Calls Tryz.prog 34 #[.agg #[.int .i64 s.kind,.string s.text,.int .i64 s.n],.pointer (some ⟨b4,0,none⟩),.pointer (some ⟨b3,0,none⟩)] W _
 have n0:=(h3.new_ hW).c1
 have o0:=(h4.new_ hW).c1
 have nz:=(h3.new_ hW).lt
 have oz:=(h4.new_ hW).lt
 have K3:=Lib.hid (h3.new_ hW)
 have K4:=Lib.hid (h4.new_ hW)
 clear h3 h4 hW
 cases old
 · go_enter Tryz.func34,Tryz.ntmps34
   go_upto_region 1 with fail
   obtain ⟨W2,hW2⟩ : ∃W2,W2=W.alloc (.cells #[.int .i64 s.kind,.string s.text,.int .i64 s.n] 23):=⟨_,rfl⟩
   have HB2:=Lib.hid (show Below W.heap.size W W2 by rw [hW2];exact (Below.refl _ _).alloc (Nat.le_refl _) _)
   have KS:=Lib.hid (show Blk W2 W.heap.size 23 #[.int .i64 s.kind,.string s.text,.int .i64 s.n] by rw [hW2];exact Blk.new _ _ _)
   have K3:=Lib.hid (K3.out.new_ HB2.out)
   have K4:=Lib.hid (K4.out.new_ HB2.out)
   obtain ⟨bs,hbs⟩ : ∃b,b=W.heap.size:=⟨_,rfl⟩
   rw [← hW2,← hbs]
   rw [← hbs] at KS
   have HBS:=Lib.hid hbs
   clear hW2 hbs n0 o0 nz oz
   have n0:=K3.out.c1
   have o0:=K4.out.c1
   obtain ⟨s0,s1,s2⟩:=KS.out.c3
   have nz:=K3.out.lt
   have oz:=K4.out.lt
   have sz:=KS.out.lt
   have heq : ∀Y,(binOp .eql 23 (.agg #[.int .i64 s.kind,.string s.text,.int .i64 s.n]) (.agg #[.int .i64 1,.string ⟨#[66]⟩,.int .i64 ((j:Int)+1)])).run Tryz.prog Y = .ok (.bool (decide (s=bSym (j+1)))) Y:=fun Y=>eql_sym s (bSym (j+1)) Y
   refine wp_region_E (fun w9=>Below W2.heap.size W2 w9) [(0,1),(1,0),(2,1),(3,1),(4,2),(5,0),(6,0),(7,0)] (by kernel_rfl) (by kernel_rfl) (fun KK hKK=>?_)
   simp only [beside,List.filterMap_cons,List.filterMap_nil,List.getElem?_toArray,List.getElem?_cons_zero,List.getElem?_cons_succ,Option.map_some]
   repeat ((first | (refine wpX_w ?_ (Or.inl ⟨by rfl,fun w9=>?_⟩) ?_;rotate_left 1;go_simp;with_reducible rfl) | (refine wpX_l ?_ (((Below.refl _ _).drew)) (Or.inl ⟨by rfl,fun w9 hw9=>?_⟩) ?_;rotate_left 1;obtain ⟨hc9,hf9⟩:=bcell hw9;go_simp;with_reducible rfl) | refine wpX_w undef (Or.inr ⟨by rfl,rfl⟩) ?_ | refine wpX_l undef (((Below.refl _ _).drew)) (Or.inr ⟨by rfl,rfl⟩) ?_);go_frame)
   refine wpX_es (fun K9 hK9=>?_)
   go_simp
   refine hK9 _ _ ((Below.refl _ _).drew) ?_
   clear hK9 K9
   repeat ((first | (refine wpX_w ?_ (Or.inl ⟨by rfl,fun w9=>?_⟩) ?_;rotate_left 1;go_simp;with_reducible rfl) | (refine wpX_l ?_ (((Below.refl _ _).drew)) (Or.inl ⟨by rfl,fun w9 hw9=>?_⟩) ?_;rotate_left 1;obtain ⟨hc9,hf9⟩:=bcell hw9;go_simp;with_reducible rfl) | refine wpX_w undef (Or.inr ⟨by rfl,rfl⟩) ?_ | refine wpX_l undef (((Below.refl _ _).drew)) (Or.inr ⟨by rfl,rfl⟩) ?_);go_frame)
   refine wpX_nil ?_
   simp only [OnlyN_normal]
   refine hKK _ _ ?_
   clear hKK KK
   go_wp2_with fail
   go_ret
   exact ⟨by simp,HB2.out.trans ((Below.refl W2.heap.size W2).drew.mono HB2.out.size)⟩
 · go_enter Tryz.func34,Tryz.ntmps34
   go_upto_region 1 with fail
   obtain ⟨W2,hW2⟩ : ∃W2,W2=W.alloc (.cells #[.int .i64 s.kind,.string s.text,.int .i64 s.n] 23):=⟨_,rfl⟩
   have HB2:=Lib.hid (show Below W.heap.size W W2 by rw [hW2];exact (Below.refl _ _).alloc (Nat.le_refl _) _)
   have KS:=Lib.hid (show Blk W2 W.heap.size 23 #[.int .i64 s.kind,.string s.text,.int .i64 s.n] by rw [hW2];exact Blk.new _ _ _)
   have K3:=Lib.hid (K3.out.new_ HB2.out)
   have K4:=Lib.hid (K4.out.new_ HB2.out)
   obtain ⟨bs,hbs⟩ : ∃b,b=W.heap.size:=⟨_,rfl⟩
   rw [← hW2,← hbs]
   rw [← hbs] at KS
   have HBS:=Lib.hid hbs
   clear hW2 hbs n0 o0 nz oz
   have n0:=K3.out.c1
   have o0:=K4.out.c1
   obtain ⟨s0,s1,s2⟩:=KS.out.c3
   have nz:=K3.out.lt
   have oz:=K4.out.lt
   have sz:=KS.out.lt
   have heq : ∀Y,(binOp .eql 23 (.agg #[.int .i64 s.kind,.string s.text,.int .i64 s.n]) (.agg #[.int .i64 1,.string ⟨#[66]⟩,.int .i64 ((j:Int)+1)])).run Tryz.prog Y = .ok (.bool (decide (s=bSym (j+1)))) Y:=fun Y=>eql_sym s (bSym (j+1)) Y
   refine wp_region_E (fun w9=>Below W2.heap.size W2 w9) [(0,1),(1,0),(2,1),(3,1),(4,2),(5,0),(6,0),(7,0)] (by kernel_rfl) (by kernel_rfl) (fun KK hKK=>?_)
   simp only [beside,List.filterMap_cons,List.filterMap_nil,List.getElem?_toArray,List.getElem?_cons_zero,List.getElem?_cons_succ,Option.map_some]
   repeat ((first | (refine wpX_w ?_ (Or.inl ⟨by rfl,fun w9=>?_⟩) ?_;rotate_left 1;go_simp;with_reducible rfl) | (refine wpX_l ?_ (((Below.refl _ _).drew)) (Or.inl ⟨by rfl,fun w9 hw9=>?_⟩) ?_;rotate_left 1;obtain ⟨hc9,hf9⟩:=bcell hw9;go_simp;with_reducible rfl) | refine wpX_w undef (Or.inr ⟨by rfl,rfl⟩) ?_ | refine wpX_l undef (((Below.refl _ _).drew)) (Or.inr ⟨by rfl,rfl⟩) ?_);go_frame)
   refine wpX_es (fun K9 hK9=>?_)
   go_simp
   refine (wI9_is ⟨#[66]⟩ _ _).mono ?_
   rintro e w9 ⟨rfl,hb9⟩
   have HB3:=Lib.hid (((Below.refl W2.heap.size W2).drew).trans (hb9.mono (by simp)))
   clear hb9
   refine hK9 _ _ HB3.out ?_
   clear hK9 K9
   repeat ((first | (refine wpX_w ?_ (Or.inl ⟨by rfl,fun w9=>?_⟩) ?_;rotate_left 1;go_simp;with_reducible rfl) | (refine wpX_l ?_ (HB3.out) (Or.inl ⟨by rfl,fun w9 hw9=>?_⟩) ?_;rotate_left 1;obtain ⟨hc9,hf9⟩:=bcell hw9;go_simp;with_reducible rfl) | refine wpX_w undef (Or.inr ⟨by rfl,rfl⟩) ?_ | refine wpX_l undef (HB3.out) (Or.inr ⟨by rfl,rfl⟩) ?_);go_frame)
   refine wpX_nil ?_
   simp only [OnlyN_normal]
   refine hKK _ _ ?_
   clear hKK KK
   go_wp2_with fail
   go_ret
   exact ⟨by simp,HB2.out.trans (HB3.out.mono HB2.out.size)⟩
theorem inf_PrefV:(Tryz.prog.info? 68).map (fun i=>(i.zero,i.size,i.bytes))=some (some (.agg #[.int .i64 0,.string ⟨#[]⟩,.int .i64 0,.int .i64 0,.string ⟨#[]⟩,.int .i64 0,.int .i64 0,.string ⟨#[]⟩,.int .i64 0,.int .i64 0,.string ⟨#[]⟩,.int .i64 0,.int .i64 0,.bool false,.int .i64 0,.int .i64 0]),16,160):=by kernel_rfl
theorem one_PrefV (l:List PrefT) : ∀u∈l.flatMap PrefT.cells,u.oneCell'=true:=by
 intro u hu
 obtain ⟨b,_,hb⟩:=List.mem_flatMap.1 hu
 simp only [PrefT.cells,List.mem_cons,List.not_mem_nil,or_false] at hb
 rcases hb with rfl | rfl | rfl | rfl | rfl | rfl | rfl | rfl | rfl | rfl | rfl | rfl | rfl | rfl | rfl | rfl<;>rfl
theorem prefsO_len (k:Bool) (n:Nat):(prefsO k n).length=n:=by simp [prefsO]
theorem prefsO_snoc (k:Bool) (n:Nat):prefsO k (n+1)=prefsO k n ++ [prefO k n]:=by simp [prefsO,List.range_succ]
structure TV (X:World) (m:List PrefT) (A:Option Addr) (c:Nat) (w:World):Prop where
 own:w.ownsRow 0 68 16 (.slice A m.length c) m.length (m.flatMap PrefT.cells)
 ain:AIn A (X.heap.size≤·)
 bel:Below X.heap.size X w
theorem TV.new_ {X w w':World} {m:List PrefT} {A:Option Addr} {c:Nat} (h:TV X m A c w) (hb:Below w.heap.size w w'):TV X m A c w':=⟨ownsRow_new h.own hb,h.ain,h.bel.trans (hb.mono h.bel.size)⟩
set_option maxRecDepth 100000 in
set_option maxHeartbeats 16000000 in
theorem volds_walk (n:Int) (old:Bool) (kind:Int) (w:World):Calls Tryz.prog 6 #[.int .i64 n,.bool old,.int .i64 kind] w fun e w'=>e = .returned (.bool true)∧Below w.heap.size w w':=by
 obtain ⟨i0,hi0,hz0,hz1,hz2⟩:=infp inf_PrefV
 obtain ⟨j,hj,hj8⟩:=within_nat n (n:=8) (by decide)
 obtain ⟨kk,hkk,hk2⟩:=within_nat kind (n:=2) (by decide)
 have HW1:=Lib.hid (show ∀W,Calls Tryz.prog 25 #[.int .i64 n,.int .i64 8] W fun e w'=>e = .returned (.int .i64 (j:Int))∧W=w' from fun W=>by have:=within_is n 8 W (by omega);rw [← hj];exact this)
 have HW2:=Lib.hid (show ∀W,Calls Tryz.prog 25 #[.int .i64 kind,.int .i64 2] W fun e w'=>e = .returned (.int .i64 (kk:Int))∧W=w' from fun W=>by have:=within_is kind 2 W (by omega);rw [← hkk];exact this)
 have v1:IntKind.i64.wrap (1+(j:Int))=(j:Int)+1:=by rw [IntWalk.i64_in _ (by omega)];omega
 clear hj hkk
 go_enter Tryz.func6,Tryz.ntmps6
 go_upto_region 1 with fail
 obtain ⟨W1,hW1⟩ : ∃W,W=(w.alloc (.cells #[.int .i64 n] 3)).alloc (.cells #[.bool old] 4):=⟨_,rfl⟩
 have HB:=Lib.hid (show Below w.heap.size w W1 by rw [hW1];exact ((Below.refl _ _).alloc (Nat.le_refl _) _).alloc (by simp) _)
 obtain ⟨b3,hb3⟩ : ∃b,b=w.heap.size:=⟨_,rfl⟩
 have K3:=Lib.hid (show Blk W1 b3 3 #[.int .i64 n] by rw [hW1,hb3];exact (Blk.new _ _ _).alloc _)
 have K4:=Lib.hid (show Blk W1 (b3+1) 4 #[.bool old] by rw [hW1,hb3];have hh:=Blk.new (w.alloc (.cells #[.int .i64 n] 3)) 4 #[.bool old];simp only [World.size_alloc] at hh;exact hh)
 have HG3:=Lib.hid (show w.heap.size≤b3 by omega)
 rw [← hW1,← hb3]
 clear hW1 hb3
 have n0:=K3.out.c1
 have nf:=K3.out.frozen 0
 have nz:=K3.out.lt
 go_wp2_with fail
 refine (HW1.out _).mono ?_
 rintro e w0 ⟨rfl,rfl⟩
 go_upto_region 2 with fail
 obtain ⟨W2,hW2⟩ : ∃W,W=W1.setCell ⟨b3,0,none⟩ (.int .i64 ((j:Int)+1)):=⟨_,rfl⟩
 have HB:=Lib.hid (show Below w.heap.size w W2 by rw [hW2];exact HB.out.setCell HG3.out _)
 have K4:=Lib.hid (show Blk W2 (b3+1) 4 #[.bool old] by rw [hW2];exact K4.out.far (by simp) _)
 have K3:=Lib.hid (show Blk W2 b3 3 #[.int .i64 ((j:Int)+1)] by rw [hW2];have:=K3.out.set_ 0 (.int .i64 ((j:Int)+1));simpa using this)
 rw [← hW2]
 clear hW2 n0 nf nz HG3 v1
 go_wp2_with fail
 refine (wI9_is ⟨#[83]⟩ 1 _).mono ?_
 rintro e w3 ⟨rfl,hb⟩
 go_upto_region 3 with fail
 obtain ⟨W3,hW3⟩ : ∃W,W=w3.alloc (.cells #[.int .i64 1,.string ⟨#[83]⟩,.int .i64 1] 23):=⟨_,rfl⟩
 have hb2:Below W2.heap.size W2 W3:=by rw [hW3];exact hb.alloc hb.size _
 obtain ⟨bs,hbs⟩ : ∃b,b=w3.heap.size:=⟨_,rfl⟩
 have K7:=Lib.hid (show Blk W3 bs 23 #[.int .i64 1,.string ⟨#[83]⟩,.int .i64 1] by rw [hW3,hbs];exact Blk.new _ _ _)
 have K3:=Lib.hid (K3.out.new_ hb2)
 have K4:=Lib.hid (K4.out.new_ hb2)
 have HB:=Lib.hid (HB.out.trans (hb2.mono HB.out.size))
 rw [← hW3,← hbs]
 clear hW3 hbs hb2 hb
 obtain ⟨s0,s1,s2⟩:=K7.out.c3
 have sz:=K7.out.lt
 go_cut [8] from 22 (fun p wc=>∃bt g,p = .pointer (some ⟨bt,0,none⟩)∧Blk wc bt 38 #[.slice (some ⟨g,0,none⟩) 1 1,.slice none 0 0,.slice none 0 0,.slice none 0 0,.int .i64 0,.int .i64 0]∧Blk wc g 57 #[.int .i64 1,.string ⟨#[83]⟩,.int .i64 1,.int .i64 3,.string ⟨#[120]⟩,.int .i64 0,.int .i64 2,.string ⟨#[]⟩,.int .i64 1,.bool false,.bool true,.int .i64 1,.int .i64 1,.int .i64 0]∧Below W3.heap.size W3 wc)
 case first=>
  refine wp_region_Pl (fun w9=>Below W3.heap.size W3 w9) [0,3,4,6] [0] (.fork [(0,1)] 1 (.fork [] 2 (.fork [(3,0),(4,0)] 5 (.fin [(6,0),(7,2),(8,2)]) 7 (.fin [(5,2),(6,0),(8,2)])) 7 (.fin [(2,2),(3,0),(4,0),(5,2),(6,0),(8,2)])) 7 (.fin [(1,2),(2,2),(3,0),(4,0),(5,2),(6,0),(8,2)])) (by kernel_rfl) (by kernel_rfl) (by kernel_rfl) (fun KK hKK=>?_)
  simp only [wpPl,beside,List.filterMap_cons,List.filterMap_nil,List.getElem?_toArray,List.getElem?_cons_zero,List.getElem?_cons_succ,Option.map_some]
  repeat ((first | (refine wpY_w ?_ (Or.inl ⟨by rfl,fun w9=>?_⟩) ?_;rotate_left 1;go_simp;with_reducible rfl) | (refine wpY_l ?_ ((Below.refl _ _).drew) (Or.inl ⟨by rfl,fun w9 hw9=>?_⟩) ?_;rotate_left 1;obtain ⟨hc9,hf9⟩:=bcell hw9;go_simp;with_reducible rfl) | refine wpY_w undef (Or.inr ⟨by rfl,rfl⟩) ?_ | refine wpY_l undef ((Below.refl _ _).drew) (Or.inr ⟨by rfl,rfl⟩) ?_);go_frame)
  refine wpY_nil ⟨?_,?_⟩
  · refine wpOp_cs rfl (fun K9 hK9=>?_)
    go_simp
    refine (wW9_is ⟨#[120]⟩ _).mono ?_
    rintro e V4 ⟨rfl,hb⟩
    have hb4:Below W3.heap.size W3 V4:=((Below.refl W3.heap.size W3).drew).trans (hb.mono ((Below.refl W3.heap.size W3).drew).size)
    clear hb
    refine hK9 _ _ (fun _=>hb4) ?_
    clear hK9 K9
    try go_frame
    try simp only [beside,List.filterMap_nil]
    refine wpY_nil ⟨?_,?_⟩
    · refine wpOp_cs rfl (fun K9 hK9=>?_)
      go_simp
      refine (wN9_is 1 _).mono ?_
      rintro e V5 ⟨rfl,hb⟩
      have hb5:Below W3.heap.size W3 V5:=(hb4).trans (hb.mono (hb4).size)
      clear hb
      refine hK9 _ _ (fun _=>hb5) ?_
      clear hK9 K9
      try go_frame
      try simp only [beside,List.filterMap_nil]
      repeat ((first | (refine wpY_w ?_ (Or.inl ⟨by rfl,fun w9=>?_⟩) ?_;rotate_left 1;go_simp;with_reducible rfl) | (refine wpY_l ?_ ((Below.refl _ _).drew) (Or.inl ⟨by rfl,fun w9 hw9=>?_⟩) ?_;rotate_left 1;obtain ⟨hc9,hf9⟩:=bcell hw9;go_simp;with_reducible rfl) | refine wpY_w undef (Or.inr ⟨by rfl,rfl⟩) ?_ | refine wpY_l undef ((Below.refl _ _).drew) (Or.inr ⟨by rfl,rfl⟩) ?_);go_frame)
      refine wpY_nil ⟨?_,?_⟩
      · refine wpOp_cs rfl (fun K9 hK9=>?_)
        go_simp
        obtain ⟨V6,hV⟩ : ∃V,V=(V5.alloc (.cells #[.int .i64 1,.string ⟨#[83]⟩,.int .i64 1,.int .i64 3,.string ⟨#[120]⟩,.int .i64 0,.int .i64 2,.string ⟨#[]⟩,.int .i64 1,.bool false,.bool true,.int .i64 1,.int .i64 1,.int .i64 0] 57)):=⟨_,rfl⟩
        obtain ⟨gr,hg⟩ : ∃g,g=V5.heap.size:=⟨_,rfl⟩
        have hb:Below V5.heap.size V5 V6:=by rw [hV];exact (Below.refl _ _).alloc (Nat.le_refl _) _
        have hb6:Below W3.heap.size W3 V6:=(hb5).trans (hb.mono (hb5).size)
        have Kr:=Lib.hid (show Blk V6 gr 57 #[.int .i64 1,.string ⟨#[83]⟩,.int .i64 1,.int .i64 3,.string ⟨#[120]⟩,.int .i64 0,.int .i64 2,.string ⟨#[]⟩,.int .i64 1,.bool false,.bool true,.int .i64 1,.int .i64 1,.int .i64 0] by rw [hV,hg];exact Blk.new _ _ _)
        have Gr:=Lib.hid (show W3.heap.size≤gr by rw [hg];exact (hb5).size)
        rw [← hV,← hg]
        clear hV hg hb
        refine hK9 _ _ (fun _=>hb6) ?_
        clear hK9 K9
        try go_frame
        try simp only [beside,List.filterMap_nil]
        repeat ((first | (refine wpY_w ?_ (Or.inl ⟨by rfl,fun w9=>?_⟩) ?_;rotate_left 1;go_simp;with_reducible rfl) | (refine wpY_l ?_ ((Below.refl _ _).drew) (Or.inl ⟨by rfl,fun w9 hw9=>?_⟩) ?_;rotate_left 1;obtain ⟨hc9,hf9⟩:=bcell hw9;go_simp;with_reducible rfl) | refine wpY_w undef (Or.inr ⟨by rfl,rfl⟩) ?_ | refine wpY_l undef ((Below.refl _ _).drew) (Or.inr ⟨by rfl,rfl⟩) ?_);go_frame)
        refine wpY_es (fun K9 hK9=>?_)
        go_simp
        obtain ⟨V7,hV⟩ : ∃V,V=(V6.alloc (.cells #[.slice none 0 0,.slice none 0 0,.slice none 0 0,.slice none 0 0,.int .i64 0,.int .i64 0] 38)):=⟨_,rfl⟩
        obtain ⟨gt,hg⟩ : ∃g,g=V6.heap.size:=⟨_,rfl⟩
        have hb:Below V6.heap.size V6 V7:=by rw [hV];exact (Below.refl _ _).alloc (Nat.le_refl _) _
        have hb7:Below W3.heap.size W3 V7:=(hb6).trans (hb.mono (hb6).size)
        have Kt:=Lib.hid (show Blk V7 gt 38 #[.slice none 0 0,.slice none 0 0,.slice none 0 0,.slice none 0 0,.int .i64 0,.int .i64 0] by rw [hV,hg];exact Blk.new _ _ _)
        have Gt:=Lib.hid (show W3.heap.size≤gt by rw [hg];exact (hb6).size)
        have Kr:=Lib.hid (Kr.out.new_ hb)
        rw [← hV,← hg]
        clear hV hg hb
        refine hK9 _ _ (hb7) ?_
        clear hK9 K9
        try go_frame
        refine wpY_es (fun K9 hK9=>?_)
        have hTH:=Kt.out.there
        refine step_store_el rfl 38 _ _ rfl gt 0 #[Value.slice (some ⟨gr,0,none⟩) 1 1,Value.slice none 0 0,Value.slice none 0 0,Value.slice none 0 0,Value.int IntKind.i64 0,Value.int IntKind.i64 0] rfl rfl (show _ from hTH) (by kernel_rfl) (by kernel_rfl) ?_
        refine hK9 _ _ (Below.setCells' _ _ (hb7) Gt.out) ?_
        clear hK9 K9
        try go_frame
        refine wpY_nil ?_
        simp only [OnlyN_normal]
        refine hKK _ _ ?_
        clear hKK KK
        go_wp2_with fail
        go_meet
        case rel=>exact ⟨gt,gr,rfl,Kt.out.setAllD rfl,Blk.farCells _ _ Kr.out (Kr.out.ne_ Kt.out (by decide)),Below.setCells' _ _ (hb7) Gt.out⟩
      · refine wpOp_cs rfl (fun K9 hK9=>?_)
        go_simp
        obtain ⟨V6,hV⟩ : ∃V,V=(V5.alloc (.cells #[.slice none 0 0,.slice none 0 0,.slice none 0 0,.slice none 0 0,.int .i64 0,.int .i64 0] 38)):=⟨_,rfl⟩
        obtain ⟨gt,hg⟩ : ∃g,g=V5.heap.size:=⟨_,rfl⟩
        have hb:Below V5.heap.size V5 V6:=by rw [hV];exact (Below.refl _ _).alloc (Nat.le_refl _) _
        have hb6:Below W3.heap.size W3 V6:=(hb5).trans (hb.mono (hb5).size)
        have Kt:=Lib.hid (show Blk V6 gt 38 #[.slice none 0 0,.slice none 0 0,.slice none 0 0,.slice none 0 0,.int .i64 0,.int .i64 0] by rw [hV,hg];exact Blk.new _ _ _)
        have Gt:=Lib.hid (show W3.heap.size≤gt by rw [hg];exact (hb5).size)
        rw [← hV,← hg]
        clear hV hg hb
        refine hK9 _ _ (fun _=>hb6) ?_
        clear hK9 K9
        try go_frame
        try simp only [beside,List.filterMap_nil]
        refine wpY_es (fun K9 hK9=>?_)
        go_simp
        obtain ⟨V7,hV⟩ : ∃V,V=(V6.alloc (.cells #[.int .i64 1,.string ⟨#[83]⟩,.int .i64 1,.int .i64 3,.string ⟨#[120]⟩,.int .i64 0,.int .i64 2,.string ⟨#[]⟩,.int .i64 1,.bool false,.bool true,.int .i64 1,.int .i64 1,.int .i64 0] 57)):=⟨_,rfl⟩
        obtain ⟨gr,hg⟩ : ∃g,g=V6.heap.size:=⟨_,rfl⟩
        have hb:Below V6.heap.size V6 V7:=by rw [hV];exact (Below.refl _ _).alloc (Nat.le_refl _) _
        have hb7:Below W3.heap.size W3 V7:=(hb6).trans (hb.mono (hb6).size)
        have Kr:=Lib.hid (show Blk V7 gr 57 #[.int .i64 1,.string ⟨#[83]⟩,.int .i64 1,.int .i64 3,.string ⟨#[120]⟩,.int .i64 0,.int .i64 2,.string ⟨#[]⟩,.int .i64 1,.bool false,.bool true,.int .i64 1,.int .i64 1,.int .i64 0] by rw [hV,hg];exact Blk.new _ _ _)
        have Gr:=Lib.hid (show W3.heap.size≤gr by rw [hg];exact (hb6).size)
        have Kt:=Lib.hid (Kt.out.new_ hb)
        rw [← hV,← hg]
        clear hV hg hb
        refine hK9 _ _ (hb7) ?_
        clear hK9 K9
        try go_frame
        repeat ((first | (refine wpY_w ?_ (Or.inl ⟨by rfl,fun w9=>?_⟩) ?_;rotate_left 1;go_simp;with_reducible rfl) | (refine wpY_l ?_ ((Below.refl _ _).drew) (Or.inl ⟨by rfl,fun w9 hw9=>?_⟩) ?_;rotate_left 1;obtain ⟨hc9,hf9⟩:=bcell hw9;go_simp;with_reducible rfl) | refine wpY_w undef (Or.inr ⟨by rfl,rfl⟩) ?_ | refine wpY_l undef ((Below.refl _ _).drew) (Or.inr ⟨by rfl,rfl⟩) ?_);go_frame)
        refine wpY_es (fun K9 hK9=>?_)
        have hTH:=Kt.out.there
        refine step_store_el rfl 38 _ _ rfl gt 0 #[Value.slice (some ⟨gr,0,none⟩) 1 1,Value.slice none 0 0,Value.slice none 0 0,Value.slice none 0 0,Value.int IntKind.i64 0,Value.int IntKind.i64 0] rfl rfl (show _ from hTH) (by kernel_rfl) (by kernel_rfl) ?_
        refine hK9 _ _ (Below.setCells' _ _ (hb7) Gt.out) ?_
        clear hK9 K9
        try go_frame
        refine wpY_nil ?_
        simp only [OnlyN_normal]
        refine hKK _ _ ?_
        clear hKK KK
        go_wp2_with fail
        go_meet
        case rel=>exact ⟨gt,gr,rfl,Kt.out.setAllD rfl,Blk.farCells _ _ Kr.out (Kr.out.ne_ Kt.out (by decide)),Below.setCells' _ _ (hb7) Gt.out⟩
    · refine wpOp_cs rfl (fun K9 hK9=>?_)
      go_simp
      obtain ⟨V5,hV⟩ : ∃V,V=(V4.alloc (.cells #[.slice none 0 0,.slice none 0 0,.slice none 0 0,.slice none 0 0,.int .i64 0,.int .i64 0] 38)):=⟨_,rfl⟩
      obtain ⟨gt,hg⟩ : ∃g,g=V4.heap.size:=⟨_,rfl⟩
      have hb:Below V4.heap.size V4 V5:=by rw [hV];exact (Below.refl _ _).alloc (Nat.le_refl _) _
      have hb5:Below W3.heap.size W3 V5:=(hb4).trans (hb.mono (hb4).size)
      have Kt:=Lib.hid (show Blk V5 gt 38 #[.slice none 0 0,.slice none 0 0,.slice none 0 0,.slice none 0 0,.int .i64 0,.int .i64 0] by rw [hV,hg];exact Blk.new _ _ _)
      have Gt:=Lib.hid (show W3.heap.size≤gt by rw [hg];exact (hb4).size)
      rw [← hV,← hg]
      clear hV hg hb
      refine hK9 _ _ (fun _=>hb5) ?_
      clear hK9 K9
      try go_frame
      try simp only [beside,List.filterMap_nil]
      refine wpY_es (fun K9 hK9=>?_)
      go_simp
      refine (wN9_is 1 _).mono ?_
      rintro e V6 ⟨rfl,hb⟩
      have hb6:Below W3.heap.size W3 V6:=(hb5).trans (hb.mono (hb5).size)
      have Kt:=Lib.hid (Kt.out.new_ hb)
      clear hb
      refine hK9 _ _ (hb6) ?_
      clear hK9 K9
      try go_frame
      repeat ((first | (refine wpY_w ?_ (Or.inl ⟨by rfl,fun w9=>?_⟩) ?_;rotate_left 1;go_simp;with_reducible rfl) | (refine wpY_l ?_ ((Below.refl _ _).drew) (Or.inl ⟨by rfl,fun w9 hw9=>?_⟩) ?_;rotate_left 1;obtain ⟨hc9,hf9⟩:=bcell hw9;go_simp;with_reducible rfl) | refine wpY_w undef (Or.inr ⟨by rfl,rfl⟩) ?_ | refine wpY_l undef ((Below.refl _ _).drew) (Or.inr ⟨by rfl,rfl⟩) ?_);go_frame)
      refine wpY_es (fun K9 hK9=>?_)
      go_simp
      obtain ⟨V7,hV⟩ : ∃V,V=(V6.alloc (.cells #[.int .i64 1,.string ⟨#[83]⟩,.int .i64 1,.int .i64 3,.string ⟨#[120]⟩,.int .i64 0,.int .i64 2,.string ⟨#[]⟩,.int .i64 1,.bool false,.bool true,.int .i64 1,.int .i64 1,.int .i64 0] 57)):=⟨_,rfl⟩
      obtain ⟨gr,hg⟩ : ∃g,g=V6.heap.size:=⟨_,rfl⟩
      have hb:Below V6.heap.size V6 V7:=by rw [hV];exact (Below.refl _ _).alloc (Nat.le_refl _) _
      have hb7:Below W3.heap.size W3 V7:=(hb6).trans (hb.mono (hb6).size)
      have Kr:=Lib.hid (show Blk V7 gr 57 #[.int .i64 1,.string ⟨#[83]⟩,.int .i64 1,.int .i64 3,.string ⟨#[120]⟩,.int .i64 0,.int .i64 2,.string ⟨#[]⟩,.int .i64 1,.bool false,.bool true,.int .i64 1,.int .i64 1,.int .i64 0] by rw [hV,hg];exact Blk.new _ _ _)
      have Gr:=Lib.hid (show W3.heap.size≤gr by rw [hg];exact (hb6).size)
      have Kt:=Lib.hid (Kt.out.new_ hb)
      rw [← hV,← hg]
      clear hV hg hb
      refine hK9 _ _ (hb7) ?_
      clear hK9 K9
      try go_frame
      repeat ((first | (refine wpY_w ?_ (Or.inl ⟨by rfl,fun w9=>?_⟩) ?_;rotate_left 1;go_simp;with_reducible rfl) | (refine wpY_l ?_ ((Below.refl _ _).drew) (Or.inl ⟨by rfl,fun w9 hw9=>?_⟩) ?_;rotate_left 1;obtain ⟨hc9,hf9⟩:=bcell hw9;go_simp;with_reducible rfl) | refine wpY_w undef (Or.inr ⟨by rfl,rfl⟩) ?_ | refine wpY_l undef ((Below.refl _ _).drew) (Or.inr ⟨by rfl,rfl⟩) ?_);go_frame)
      refine wpY_es (fun K9 hK9=>?_)
      have hTH:=Kt.out.there
      refine step_store_el rfl 38 _ _ rfl gt 0 #[Value.slice (some ⟨gr,0,none⟩) 1 1,Value.slice none 0 0,Value.slice none 0 0,Value.slice none 0 0,Value.int IntKind.i64 0,Value.int IntKind.i64 0] rfl rfl (show _ from hTH) (by kernel_rfl) (by kernel_rfl) ?_
      refine hK9 _ _ (Below.setCells' _ _ (hb7) Gt.out) ?_
      clear hK9 K9
      try go_frame
      refine wpY_nil ?_
      simp only [OnlyN_normal]
      refine hKK _ _ ?_
      clear hKK KK
      go_wp2_with fail
      go_meet
      case rel=>exact ⟨gt,gr,rfl,Kt.out.setAllD rfl,Blk.farCells _ _ Kr.out (Kr.out.ne_ Kt.out (by decide)),Below.setCells' _ _ (hb7) Gt.out⟩
  · refine wpOp_cs rfl (fun K9 hK9=>?_)
    go_simp
    obtain ⟨V4,hV⟩ : ∃V,V=(W3.alloc (.cells #[.slice none 0 0,.slice none 0 0,.slice none 0 0,.slice none 0 0,.int .i64 0,.int .i64 0] 38)).drew:=⟨_,rfl⟩
    obtain ⟨gt,hg⟩ : ∃g,g=W3.heap.size:=⟨_,rfl⟩
    have hb:Below W3.heap.size W3 V4:=by rw [hV];exact ((Below.refl _ _).alloc (Nat.le_refl _) _).drew
    have hb4:Below W3.heap.size W3 V4:=hb
    have Kt:=Lib.hid (show Blk V4 gt 38 #[.slice none 0 0,.slice none 0 0,.slice none 0 0,.slice none 0 0,.int .i64 0,.int .i64 0] by rw [hV,hg];exact Blk.new _ _ _)
    have Gt:=Lib.hid (show W3.heap.size≤gt by rw [hg];exact Nat.le_refl _)
    rw [← hV,← hg]
    clear hV hg hb
    refine hK9 _ _ (fun _=>hb4) ?_
    clear hK9 K9
    try go_frame
    try simp only [beside,List.filterMap_nil]
    refine wpY_es (fun K9 hK9=>?_)
    go_simp
    refine (wW9_is ⟨#[120]⟩ _).mono ?_
    rintro e V5 ⟨rfl,hb⟩
    have hb5:Below W3.heap.size W3 V5:=(hb4).trans (hb.mono (hb4).size)
    have Kt:=Lib.hid (Kt.out.new_ hb)
    clear hb
    refine hK9 _ _ (hb5) ?_
    clear hK9 K9
    try go_frame
    refine wpY_es (fun K9 hK9=>?_)
    go_simp
    refine (wN9_is 1 _).mono ?_
    rintro e V6 ⟨rfl,hb⟩
    have hb6:Below W3.heap.size W3 V6:=(hb5).trans (hb.mono (hb5).size)
    have Kt:=Lib.hid (Kt.out.new_ hb)
    clear hb
    refine hK9 _ _ (hb6) ?_
    clear hK9 K9
    try go_frame
    repeat ((first | (refine wpY_w ?_ (Or.inl ⟨by rfl,fun w9=>?_⟩) ?_;rotate_left 1;go_simp;with_reducible rfl) | (refine wpY_l ?_ ((Below.refl _ _).drew) (Or.inl ⟨by rfl,fun w9 hw9=>?_⟩) ?_;rotate_left 1;obtain ⟨hc9,hf9⟩:=bcell hw9;go_simp;with_reducible rfl) | refine wpY_w undef (Or.inr ⟨by rfl,rfl⟩) ?_ | refine wpY_l undef ((Below.refl _ _).drew) (Or.inr ⟨by rfl,rfl⟩) ?_);go_frame)
    refine wpY_es (fun K9 hK9=>?_)
    go_simp
    obtain ⟨V7,hV⟩ : ∃V,V=(V6.alloc (.cells #[.int .i64 1,.string ⟨#[83]⟩,.int .i64 1,.int .i64 3,.string ⟨#[120]⟩,.int .i64 0,.int .i64 2,.string ⟨#[]⟩,.int .i64 1,.bool false,.bool true,.int .i64 1,.int .i64 1,.int .i64 0] 57)):=⟨_,rfl⟩
    obtain ⟨gr,hg⟩ : ∃g,g=V6.heap.size:=⟨_,rfl⟩
    have hb:Below V6.heap.size V6 V7:=by rw [hV];exact (Below.refl _ _).alloc (Nat.le_refl _) _
    have hb7:Below W3.heap.size W3 V7:=(hb6).trans (hb.mono (hb6).size)
    have Kr:=Lib.hid (show Blk V7 gr 57 #[.int .i64 1,.string ⟨#[83]⟩,.int .i64 1,.int .i64 3,.string ⟨#[120]⟩,.int .i64 0,.int .i64 2,.string ⟨#[]⟩,.int .i64 1,.bool false,.bool true,.int .i64 1,.int .i64 1,.int .i64 0] by rw [hV,hg];exact Blk.new _ _ _)
    have Gr:=Lib.hid (show W3.heap.size≤gr by rw [hg];exact (hb6).size)
    have Kt:=Lib.hid (Kt.out.new_ hb)
    rw [← hV,← hg]
    clear hV hg hb
    refine hK9 _ _ (hb7) ?_
    clear hK9 K9
    try go_frame
    repeat ((first | (refine wpY_w ?_ (Or.inl ⟨by rfl,fun w9=>?_⟩) ?_;rotate_left 1;go_simp;with_reducible rfl) | (refine wpY_l ?_ ((Below.refl _ _).drew) (Or.inl ⟨by rfl,fun w9 hw9=>?_⟩) ?_;rotate_left 1;obtain ⟨hc9,hf9⟩:=bcell hw9;go_simp;with_reducible rfl) | refine wpY_w undef (Or.inr ⟨by rfl,rfl⟩) ?_ | refine wpY_l undef ((Below.refl _ _).drew) (Or.inr ⟨by rfl,rfl⟩) ?_);go_frame)
    refine wpY_es (fun K9 hK9=>?_)
    have hTH:=Kt.out.there
    refine step_store_el rfl 38 _ _ rfl gt 0 #[Value.slice (some ⟨gr,0,none⟩) 1 1,Value.slice none 0 0,Value.slice none 0 0,Value.slice none 0 0,Value.int IntKind.i64 0,Value.int IntKind.i64 0] rfl rfl (show _ from hTH) (by kernel_rfl) (by kernel_rfl) ?_
    refine hK9 _ _ (Below.setCells' _ _ (hb7) Gt.out) ?_
    clear hK9 K9
    try go_frame
    refine wpY_nil ?_
    simp only [OnlyN_normal]
    refine hKK _ _ ?_
    clear hKK KK
    go_wp2_with fail
    go_meet
    case rel=>exact ⟨gt,gr,rfl,Kt.out.setAllD rfl,Blk.farCells _ _ Kr.out (Kr.out.ne_ Kt.out (by decide)),Below.setCells' _ _ (hb7) Gt.out⟩
 case rest=>
  obtain ⟨bt,g,rfl,Kt,Kr,hbc⟩:=hcut
  have HR:=Lib.hid (rowRd_blk (cells:=TraceT.cells) (l:=[⟨oldE,1,0⟩]) (n:=1) Kr rfl TraceT.cells_length (by unfold maxLen;decide) rfl)
  have K8:=Lib.hid Kt
  have K7:=Lib.hid (K7.out.new_ hbc)
  have K3:=Lib.hid (K3.out.new_ hbc)
  have K4:=Lib.hid (K4.out.new_ hbc)
  have HB:=Lib.hid (HB.out.trans (hbc.mono HB.out.size))
  clear Kt Kr hbc s0 s1 s2 sz
  obtain ⟨X,hX⟩ : ∃X,X=wc:=⟨_,rfl⟩
  rw [← hX] at K3 K4 K7 K8 HR HB ⊢
  clear hX
  obtain ⟨k,hk⟩ : ∃k:Bool,k=decide (kk=1):=⟨_,rfl⟩
  have HK:=Lib.hid hk
  clear hk
  go_upto_region 6 with fail
  go_loopw [9,10] (fun vl vi wr=>∃(i:Nat) (Al:Option Addr) (cl:Nat),vi = .int .i64 (i:Int)∧i≤j+1∧vl = .slice Al i cl∧TV X (prefsO k i) Al cl wr) (fun vl vi wr=>j+1 - (intOf vi).toNat)
  case atStart=>exact ⟨0,none,0,rfl,Nat.zero_le _,rfl,⟨by simp [prefsO],.inl ⟨rfl,rfl⟩⟩,AIn.none_ _,Below.refl _ _⟩
  case round=>
   obtain ⟨i,Al,cl,rfl,hi,rfl,ht⟩:=hrel
   have HT:=Lib.hid ht
   have n0:=(K3.out.new_ ht.bel).c1
   have nz:=(K3.out.new_ ht.bel).lt
   clear ht
   by_cases hlt:i<j+1
   · skip
     have j1:(i:Int)<(j:Int)+1:=by omega
     have v1:IntKind.i64.wrap ((i:Int)+1)=(i:Int)+1:=IntWalk.i64_in _ (by omega)
     go_wp2_with fail
     refine (wI9_is ⟨#[66]⟩ ((i:Int)+1) _).mono ?_
     rintro e w3 ⟨rfl,hb⟩
     go_upto_region 9 with fail
     obtain ⟨W3,hW3⟩ : ∃W,W=w3.alloc (.cells #[.int .i64 1,.string ⟨#[66]⟩,.int .i64 ((i:Int)+1)] 23):=⟨_,rfl⟩
     have hb2:Below wr.heap.size wr W3:=by rw [hW3];exact hb.alloc hb.size _
     obtain ⟨b11,hbs⟩ : ∃b,b=w3.heap.size:=⟨_,rfl⟩
     have K11:=Lib.hid (show Blk W3 b11 23 #[.int .i64 1,.string ⟨#[66]⟩,.int .i64 ((i:Int)+1)] by rw [hW3,hbs];exact Blk.new _ _ _)
     have HT:=Lib.hid (HT.out.new_ hb2)
     have HBW:=Lib.hid hb2
     rw [← hW3,← hbs]
     clear hW3 hbs hb2 hb n0 nz
     have K7':=Lib.hid (K7.out.new_ HT.out.bel)
     obtain ⟨s0,s1,s2⟩:=K7'.out.c3
     have sz:=K7'.out.lt
     obtain ⟨q0,q1,q2⟩:=K11.out.c3
     have qz:=K11.out.lt
     go_cut [12] from 37 to 53 (fun p wc=>∃bt,p = .pointer (some ⟨bt,0,none⟩)∧Blk wc bt 68 #[.int .i64 1,.string ⟨#[83]⟩,.int .i64 1,.int .i64 3,.string ⟨#[121]⟩,.int .i64 0,.int .i64 1,.string ⟨#[66]⟩,.int .i64 ((i:Int)+1),.int .i64 0,.string ⟨#[]⟩,.int .i64 0,.int .i64 1,.bool false,.int .i64 2,.int .i64 1]∧W3.heap.size≤bt∧Below W3.heap.size W3 wc)
     case first=>
      refine wp_region_Pl (fun w9=>Below W3.heap.size W3 w9) [0,2,3] [0,2] (.fork [(0,1),(2,1)] 1 (.fin [(3,0),(4,2),(5,2)]) 4 (.fin [(1,2),(3,0),(5,2)])) (by kernel_rfl) (by kernel_rfl) (by kernel_rfl) (fun KK hKK=>?_)
      simp only [wpPl,beside,List.filterMap_cons,List.filterMap_nil,List.getElem?_toArray,List.getElem?_cons_zero,List.getElem?_cons_succ,Option.map_some]
      repeat ((first | (refine wpY_w ?_ (Or.inl ⟨by rfl,fun w9=>?_⟩) ?_;rotate_left 1;go_simp;with_reducible rfl) | (refine wpY_l ?_ ((Below.refl _ _).drew) (Or.inl ⟨by rfl,fun w9 hw9=>?_⟩) ?_;rotate_left 1;obtain ⟨hc9,hf9⟩:=bcell hw9;go_simp;with_reducible rfl) | refine wpY_w undef (Or.inr ⟨by rfl,rfl⟩) ?_ | refine wpY_l undef ((Below.refl _ _).drew) (Or.inr ⟨by rfl,rfl⟩) ?_);go_frame)
      refine wpY_nil ⟨?_,?_⟩
      · refine wpOp_cs rfl (fun K9 hK9=>?_)
        go_simp
        refine (wW9_is ⟨#[121]⟩ _).mono ?_
        rintro e V4 ⟨rfl,hb⟩
        have hb4:Below W3.heap.size W3 V4:=((Below.refl W3.heap.size W3).drew).trans (hb.mono ((Below.refl W3.heap.size W3).drew).size)
        clear hb
        refine hK9 _ _ (fun _=>hb4) ?_
        clear hK9 K9
        try go_frame
        try simp only [beside,List.filterMap_nil]
        repeat ((first | (refine wpY_w ?_ (Or.inl ⟨by rfl,fun w9=>?_⟩) ?_;rotate_left 1;go_simp;with_reducible rfl) | (refine wpY_l ?_ ((Below.refl _ _).drew) (Or.inl ⟨by rfl,fun w9 hw9=>?_⟩) ?_;rotate_left 1;obtain ⟨hc9,hf9⟩:=bcell hw9;go_simp;with_reducible rfl) | refine wpY_w undef (Or.inr ⟨by rfl,rfl⟩) ?_ | refine wpY_l undef ((Below.refl _ _).drew) (Or.inr ⟨by rfl,rfl⟩) ?_);go_frame)
        refine wpY_es (fun K9 hK9=>?_)
        go_simp
        obtain ⟨V5,hV⟩ : ∃V,V=(V4.alloc (.cells #[.int .i64 0,.string ⟨#[]⟩,.int .i64 0,.int .i64 0,.string ⟨#[]⟩,.int .i64 0,.int .i64 0,.string ⟨#[]⟩,.int .i64 0,.int .i64 0,.string ⟨#[]⟩,.int .i64 0,.int .i64 0,.bool false,.int .i64 0,.int .i64 0] 68)):=⟨_,rfl⟩
        obtain ⟨gt,hg⟩ : ∃g,g=V4.heap.size:=⟨_,rfl⟩
        have hb:Below V4.heap.size V4 V5:=by rw [hV];exact (Below.refl _ _).alloc (Nat.le_refl _) _
        have hb5:Below W3.heap.size W3 V5:=(hb4).trans (hb.mono (hb4).size)
        have Kt:=Lib.hid (show Blk V5 gt 68 #[.int .i64 0,.string ⟨#[]⟩,.int .i64 0,.int .i64 0,.string ⟨#[]⟩,.int .i64 0,.int .i64 0,.string ⟨#[]⟩,.int .i64 0,.int .i64 0,.string ⟨#[]⟩,.int .i64 0,.int .i64 0,.bool false,.int .i64 0,.int .i64 0] by rw [hV,hg];exact Blk.new _ _ _)
        have Gt:=Lib.hid (show W3.heap.size≤gt by rw [hg];exact (hb4).size)
        rw [← hV,← hg]
        clear hV hg hb
        refine hK9 _ _ (hb5) ?_
        clear hK9 K9
        try go_frame
        refine wpY_es (fun K9 hK9=>?_)
        have hTH:=Kt.out.there
        refine step_store_el rfl 68 _ _ rfl gt 0 #[Value.int IntKind.i64 1,Value.string ⟨#[83]⟩,Value.int IntKind.i64 1,Value.int IntKind.i64 3,Value.string ⟨#[121]⟩,Value.int IntKind.i64 0,Value.int IntKind.i64 1,Value.string ⟨#[66]⟩,Value.int IntKind.i64 ((i:Int)+1),Value.int IntKind.i64 0,Value.string ⟨#[]⟩,Value.int IntKind.i64 0,Value.int IntKind.i64 1,Value.bool false,Value.int IntKind.i64 2,Value.int IntKind.i64 1] rfl rfl (show _ from hTH) (by kernel_rfl) (by kernel_rfl) ?_
        refine hK9 _ _ (Below.setCells' _ _ (hb5) Gt.out) ?_
        clear hK9 K9
        try go_frame
        refine wpY_nil ?_
        simp only [OnlyN_normal]
        refine hKK _ _ ?_
        clear hKK KK
        go_wp2_with fail
        go_meet
        case rel=>exact ⟨gt,rfl,Kt.out.setAllD rfl,Gt.out,Below.setCells' _ _ (hb5) Gt.out⟩
      · refine wpOp_cs rfl (fun K9 hK9=>?_)
        go_simp
        obtain ⟨V4,hV⟩ : ∃V,V=(W3.alloc (.cells #[.int .i64 0,.string ⟨#[]⟩,.int .i64 0,.int .i64 0,.string ⟨#[]⟩,.int .i64 0,.int .i64 0,.string ⟨#[]⟩,.int .i64 0,.int .i64 0,.string ⟨#[]⟩,.int .i64 0,.int .i64 0,.bool false,.int .i64 0,.int .i64 0] 68)).drew:=⟨_,rfl⟩
        obtain ⟨gt,hg⟩ : ∃g,g=W3.heap.size:=⟨_,rfl⟩
        have hb:Below W3.heap.size W3 V4:=by rw [hV];exact ((Below.refl _ _).alloc (Nat.le_refl _) _).drew
        have hb4:Below W3.heap.size W3 V4:=hb
        have Kt:=Lib.hid (show Blk V4 gt 68 #[.int .i64 0,.string ⟨#[]⟩,.int .i64 0,.int .i64 0,.string ⟨#[]⟩,.int .i64 0,.int .i64 0,.string ⟨#[]⟩,.int .i64 0,.int .i64 0,.string ⟨#[]⟩,.int .i64 0,.int .i64 0,.bool false,.int .i64 0,.int .i64 0] by rw [hV,hg];exact Blk.new _ _ _)
        have Gt:=Lib.hid (show W3.heap.size≤gt by rw [hg];exact Nat.le_refl _)
        rw [← hV,← hg]
        clear hV hg hb
        refine hK9 _ _ (fun _=>hb4) ?_
        clear hK9 K9
        try go_frame
        try simp only [beside,List.filterMap_nil]
        refine wpY_es (fun K9 hK9=>?_)
        go_simp
        refine (wW9_is ⟨#[121]⟩ _).mono ?_
        rintro e V5 ⟨rfl,hb⟩
        have hb5:Below W3.heap.size W3 V5:=(hb4).trans (hb.mono (hb4).size)
        have Kt:=Lib.hid (Kt.out.new_ hb)
        clear hb
        refine hK9 _ _ (hb5) ?_
        clear hK9 K9
        try go_frame
        repeat ((first | (refine wpY_w ?_ (Or.inl ⟨by rfl,fun w9=>?_⟩) ?_;rotate_left 1;go_simp;with_reducible rfl) | (refine wpY_l ?_ ((Below.refl _ _).drew) (Or.inl ⟨by rfl,fun w9 hw9=>?_⟩) ?_;rotate_left 1;obtain ⟨hc9,hf9⟩:=bcell hw9;go_simp;with_reducible rfl) | refine wpY_w undef (Or.inr ⟨by rfl,rfl⟩) ?_ | refine wpY_l undef ((Below.refl _ _).drew) (Or.inr ⟨by rfl,rfl⟩) ?_);go_frame)
        refine wpY_es (fun K9 hK9=>?_)
        have hTH:=Kt.out.there
        refine step_store_el rfl 68 _ _ rfl gt 0 #[Value.int IntKind.i64 1,Value.string ⟨#[83]⟩,Value.int IntKind.i64 1,Value.int IntKind.i64 3,Value.string ⟨#[121]⟩,Value.int IntKind.i64 0,Value.int IntKind.i64 1,Value.string ⟨#[66]⟩,Value.int IntKind.i64 ((i:Int)+1),Value.int IntKind.i64 0,Value.string ⟨#[]⟩,Value.int IntKind.i64 0,Value.int IntKind.i64 1,Value.bool false,Value.int IntKind.i64 2,Value.int IntKind.i64 1] rfl rfl (show _ from hTH) (by kernel_rfl) (by kernel_rfl) ?_
        refine hK9 _ _ (Below.setCells' _ _ (hb5) Gt.out) ?_
        clear hK9 K9
        try go_frame
        refine wpY_nil ?_
        simp only [OnlyN_normal]
        refine hKK _ _ ?_
        clear hKK KK
        go_wp2_with fail
        go_meet
        case rel=>exact ⟨gt,rfl,Kt.out.setAllD rfl,Gt.out,Below.setCells' _ _ (hb5) Gt.out⟩
     case rest=>
      obtain ⟨bp,rfl,K12,HG12,hbc⟩:=hcut
      have K12:=Lib.hid K12
      have HG12:=Lib.hid HG12
      have HBC:=Lib.hid hbc
      clear hbc s0 s1 s2 sz q0 q1 q2 qz
      go_wp2_with fail
      refine (HW2.out _).mono ?_
      rintro e w0 ⟨rfl,rfl⟩
      have HPL:=Lib.hid (prefsO_len k i)
      by_cases hk1:kk=1
      · skip
        have t1:((kk:Int) == 1)=true:=by rw [hk1];rfl
        have HKT:=Lib.hid (show k=true from HK.out.trans (by simp [hk1]))
        obtain ⟨q0,q1,q2⟩:=K11.out.c3
        have qz:=K11.out.lt
        go_upto_region 11 with fail
        refine wp_region_E (fun w9=>Below W3.heap.size W3 w9) [(0,1),(1,0),(3,0),(2,2),(4,2),(5,0),(6,2),(7,0),(8,2)] (by kernel_rfl) (by kernel_rfl) (fun KK hKK=>?_)
        simp only [beside,List.filterMap_cons,List.filterMap_nil,List.getElem?_toArray,List.getElem?_cons_zero,List.getElem?_cons_succ,Option.map_some]
        repeat ((first | (refine wpX_w ?_ (Or.inl ⟨by rfl,fun w9=>?_⟩) ?_;rotate_left 1;go_simp;with_reducible rfl) | (refine wpX_l ?_ ((HBC.out.drew)) (Or.inl ⟨by rfl,fun w9 hw9=>?_⟩) ?_;rotate_left 1;obtain ⟨hc9,hf9⟩:=bcell hw9;go_simp;with_reducible rfl) | refine wpX_w undef (Or.inr ⟨by rfl,rfl⟩) ?_ | refine wpX_l undef ((HBC.out.drew)) (Or.inr ⟨by rfl,rfl⟩) ?_);go_frame)
        refine wpX_es (fun K9 hK9=>?_)
        go_simp
        refine (wN9_is (i:Int) _).mono ?_
        rintro e V4 ⟨rfl,hb⟩
        have hb4:Below wc.heap.size wc V4:=((Below.refl wc.heap.size wc).drew).trans (hb.mono ((Below.refl wc.heap.size wc).drew).size)
        have K12:=Lib.hid (K12.out.new_ hb4)
        have HBC:=Lib.hid (HBC.out.trans (hb4.mono HBC.out.size))
        clear hb hb4
        refine hK9 _ _ HBC.out ?_
        clear hK9 K9
        refine wpX_es (fun K9 hK9=>?_)
        have c12:=(K12.out.cell 12).trans rfl
        have f12:=K12.out.frozen 12
        have z12:=K12.out.lt
        go_simp
        obtain ⟨V5,hV⟩ : ∃V,V=V4.setCell ⟨bp,12,none⟩ (.int .i64 8):=⟨_,rfl⟩
        have K12:=Lib.hid (show Blk V5 bp 68 #[.int .i64 1,.string ⟨#[83]⟩,.int .i64 1,.int .i64 3,.string ⟨#[121]⟩,.int .i64 0,.int .i64 1,.string ⟨#[66]⟩,.int .i64 ((i:Int)+1),.int .i64 0,.string ⟨#[]⟩,.int .i64 0,.int .i64 8,.bool false,.int .i64 2,.int .i64 1] by rw [hV];have:=K12.out.set_ 12 (.int .i64 8);simpa using this)
        have HBC:=Lib.hid (show Below W3.heap.size W3 V5 by rw [hV];exact HBC.out.setCell HG12.out _)
        rw [← hV]
        clear hV c12 f12 z12
        refine hK9 _ _ HBC.out ?_
        clear hK9 K9
        repeat ((first | (refine wpX_w ?_ (Or.inl ⟨by rfl,fun w9=>?_⟩) ?_;rotate_left 1;go_simp;with_reducible rfl) | (refine wpX_l ?_ (HBC.out) (Or.inl ⟨by rfl,fun w9 hw9=>?_⟩) ?_;rotate_left 1;obtain ⟨hc9,hf9⟩:=bcell hw9;go_simp;with_reducible rfl) | refine wpX_w undef (Or.inr ⟨by rfl,rfl⟩) ?_ | refine wpX_l undef (HBC.out) (Or.inr ⟨by rfl,rfl⟩) ?_);go_frame)
        refine wpX_e (by kernel_rfl) (fun K9 hK9=>?_)
        have hTH:V5.there bp 9 3:=fun x hx=>by have:=K12.out.there (9+x) (show 9+x<16 by omega);simpa using this
        refine step_store_el rfl 23 _ _ rfl bp 9 #[Value.int IntKind.i64 1,Value.string ⟨#[66]⟩,Value.int IntKind.i64 ((i:Int)+1)] rfl rfl hTH (by kernel_rfl) (by kernel_rfl) ?_
        obtain ⟨V6,hV⟩ : ∃V,V=V5.setCells bp 9 [Value.int IntKind.i64 1,Value.string ⟨#[66]⟩,Value.int IntKind.i64 ((i:Int)+1)]:=⟨_,rfl⟩
        have K12:=Lib.hid (show Blk V6 bp 68 #[.int .i64 1,.string ⟨#[83]⟩,.int .i64 1,.int .i64 3,.string ⟨#[121]⟩,.int .i64 0,.int .i64 1,.string ⟨#[66]⟩,.int .i64 ((i:Int)+1),.int .i64 1,.string ⟨#[66]⟩,.int .i64 ((i:Int)+1),.int .i64 8,.bool false,.int .i64 2,.int .i64 1] by rw [hV];have:=((K12.out.set_ 9 (Value.int IntKind.i64 1)).set_ 10 (Value.string ⟨#[66]⟩)).set_ 11 (Value.int IntKind.i64 ((i:Int)+1));simpa [World.setCells] using this)
        have HBC:=Lib.hid (show Below W3.heap.size W3 V6 by rw [hV];exact Below.setCells' _ _ HBC.out HG12.out)
        show K9 _ (V5.setCells bp 9 [Value.int IntKind.i64 1,Value.string ⟨#[66]⟩,Value.int IntKind.i64 ((i:Int)+1)])
        rw [← hV]
        clear hV hTH
        refine hK9 _ _ ?_
        clear hK9 K9
        repeat ((first | (refine wpX_w ?_ (Or.inl ⟨by rfl,fun w9=>?_⟩) ?_;rotate_left 1;go_simp;with_reducible rfl) | (refine wpX_l ?_ (HBC.out) (Or.inl ⟨by rfl,fun w9 hw9=>?_⟩) ?_;rotate_left 1;obtain ⟨hc9,hf9⟩:=bcell hw9;go_simp;with_reducible rfl) | refine wpX_w undef (Or.inr ⟨by rfl,rfl⟩) ?_ | refine wpX_l undef (HBC.out) (Or.inr ⟨by rfl,rfl⟩) ?_);go_frame)
        refine wpX_e (by kernel_rfl) (fun K9 hK9=>?_)
        have hTH:V6.there bp 6 3:=fun x hx=>by have:=K12.out.there (6+x) (show 6+x<16 by omega);simpa using this
        refine step_store_el rfl 23 _ _ rfl bp 6 #[Value.int IntKind.i64 2,Value.string ⟨#[]⟩,Value.int IntKind.i64 (i:Int)] rfl rfl hTH (by kernel_rfl) (by kernel_rfl) ?_
        obtain ⟨V7,hV⟩ : ∃V,V=V6.setCells bp 6 [Value.int IntKind.i64 2,Value.string ⟨#[]⟩,Value.int IntKind.i64 (i:Int)]:=⟨_,rfl⟩
        have K12:=Lib.hid (show Blk V7 bp 68 #[.int .i64 1,.string ⟨#[83]⟩,.int .i64 1,.int .i64 3,.string ⟨#[121]⟩,.int .i64 0,.int .i64 2,.string ⟨#[]⟩,.int .i64 (i:Int),.int .i64 1,.string ⟨#[66]⟩,.int .i64 ((i:Int)+1),.int .i64 8,.bool false,.int .i64 2,.int .i64 1] by rw [hV];have:=((K12.out.set_ 6 (Value.int IntKind.i64 2)).set_ 7 (Value.string ⟨#[]⟩)).set_ 8 (Value.int IntKind.i64 (i:Int));simpa [World.setCells] using this)
        have HBC:=Lib.hid (show Below W3.heap.size W3 V7 by rw [hV];exact Below.setCells' _ _ HBC.out HG12.out)
        show K9 _ (V6.setCells bp 6 [Value.int IntKind.i64 2,Value.string ⟨#[]⟩,Value.int IntKind.i64 (i:Int)])
        rw [← hV]
        clear hV hTH
        refine hK9 _ _ ?_
        clear hK9 K9
        refine wpX_nil ?_
        simp only [OnlyN_normal]
        refine hKK _ _ ?_
        clear hKK KK
        have HRX:=Lib.hid (show V7.rangeAt bp 0 [.int .i64 1,.string ⟨#[83]⟩,.int .i64 1,.int .i64 3,.string ⟨#[121]⟩,.int .i64 0,.int .i64 2,.string ⟨#[]⟩,.int .i64 (i:Int),.int .i64 1,.string ⟨#[66]⟩,.int .i64 ((i:Int)+1),.int .i64 8,.bool false,.int .i64 2,.int .i64 1] from K12.out.range)
        obtain ⟨y2,hy2⟩ : ∃y2:PrefT,y2=prefO k i:=⟨_,rfl⟩
        have HY2:=Lib.hid hy2
        have HC2:=Lib.hid (show [y2].flatMap PrefT.cells = [.int .i64 1,.string ⟨#[83]⟩,.int .i64 1,.int .i64 3,.string ⟨#[121]⟩,.int .i64 0,.int .i64 2,.string ⟨#[]⟩,.int .i64 (i:Int),.int .i64 1,.string ⟨#[66]⟩,.int .i64 ((i:Int)+1),.int .i64 8,.bool false,.int .i64 2,.int .i64 1] by rw [hy2,HKT.out];rfl)
        obtain ⟨W7,hW7⟩ : ∃W,W=V7.alloc (.cells #[.int .i64 1,.string ⟨#[83]⟩,.int .i64 1,.int .i64 3,.string ⟨#[121]⟩,.int .i64 0,.int .i64 2,.string ⟨#[]⟩,.int .i64 (i:Int),.int .i64 1,.string ⟨#[66]⟩,.int .i64 ((i:Int)+1),.int .i64 8,.bool false,.int .i64 2,.int .i64 1] 68):=⟨_,rfl⟩
        have HW7:=Lib.hid hW7
        have hb7:Below V7.heap.size V7 W7:=by rw [hW7];exact (Below.refl _ _).alloc (Nat.le_refl _) _
        have HT7:=Lib.hid (HT.out.new_ (HBC.out.trans (hb7.mono HBC.out.size)))
        have HO7:=Lib.hid (show W7.ownsRow 0 68 16 (.slice Al i cl) i ((prefsO k i).flatMap PrefT.cells) by have:=HT7.out.own;rw [HPL.out] at this;exact this)
        have HN7:=Lib.hid (show 0<1→∃ad,(some (⟨V7.heap.size,0,none⟩:Addr))=some ad∧∀j u,([y2].flatMap PrefT.cells)[j]? = some u→W7.cell? (ad.add j)=some u from fun _=>⟨_,rfl,by rw [HC2.out,hW7];exact World.news_of_block (heap_alloc_new _ _)⟩)
        clear hW7 hy2 hb7
        go_wp2_with (first
        | (with_reducible refine wpList_load_mid rfl 68 _ rfl bp 0 rfl [.int .i64 1,.string ⟨#[83]⟩,.int .i64 1,.int .i64 3,.string ⟨#[121]⟩,.int .i64 0,.int .i64 2,.string ⟨#[]⟩,.int .i64 (i:Int),.int .i64 1,.string ⟨#[66]⟩,.int .i64 ((i:Int)+1),.int .i64 8,.bool false,.int .i64 2,.int .i64 1] _ HRX.out Tryz.underlying68 rfl (by kernel_rfl) ?_)
        | (at_builtin;rw [← HW7.out];refine wpList_append_src W7 rfl (.tmp 50) (.tmp 52) 29 rfl 68 i0 _ 16 160 Tryz.underlying29 hi0 hz0 hz1 hz2 rfl (by omega) (.slice Al i cl) i ((prefsO k i).flatMap PrefT.cells) rfl HO7.out (some ⟨V7.heap.size,0,none⟩) 1 1 ([y2].flatMap PrefT.cells) rfl rfl HN7.out (one_PrefV _) (by unfold maxLen;omega) (by omega) ?_;intro v3 w9 hown1 hg1 hnil1 hat1;obtain ⟨A9,c9,rfl,hO9,hA9,hb9⟩:=fresh_any (B:=X.heap.size) hown1 hg1 hat1 HT7.out.ain HT7.out.bel.size;rw [← List.flatMap_append,HY2.out,← prefsO_snoc] at hO9;have HT9:=Lib.hid (show TV X (prefsO k (i+1)) A9 c9 w9 from ⟨by rw [prefsO_len];exact hO9,hA9,HT7.out.bel.trans hb9⟩);clear hown1 hg1 hnil1 hat1 hO9 hA9 hb9))
        go_roundw
        case rel=>exact ⟨i+1,A9,c9,by go_num,by omega,rfl,HT9.out⟩
        case measure=>simp [intOf]<;>omega
      · skip
        have t1:((kk:Int) == 1)=false:=by simp;omega
        have HKT:=Lib.hid (show k=false from HK.out.trans (by simp [hk1]))
        have HRX:=Lib.hid (show wc.rangeAt bp 0 [.int .i64 1,.string ⟨#[83]⟩,.int .i64 1,.int .i64 3,.string ⟨#[121]⟩,.int .i64 0,.int .i64 1,.string ⟨#[66]⟩,.int .i64 ((i:Int)+1),.int .i64 0,.string ⟨#[]⟩,.int .i64 0,.int .i64 1,.bool false,.int .i64 2,.int .i64 1] from K12.out.range)
        obtain ⟨y2,hy2⟩ : ∃y2:PrefT,y2=prefO k i:=⟨_,rfl⟩
        have HY2:=Lib.hid hy2
        have HC2:=Lib.hid (show [y2].flatMap PrefT.cells = [.int .i64 1,.string ⟨#[83]⟩,.int .i64 1,.int .i64 3,.string ⟨#[121]⟩,.int .i64 0,.int .i64 1,.string ⟨#[66]⟩,.int .i64 ((i:Int)+1),.int .i64 0,.string ⟨#[]⟩,.int .i64 0,.int .i64 1,.bool false,.int .i64 2,.int .i64 1] by rw [hy2,HKT.out];rfl)
        obtain ⟨W7,hW7⟩ : ∃W,W=wc.alloc (.cells #[.int .i64 1,.string ⟨#[83]⟩,.int .i64 1,.int .i64 3,.string ⟨#[121]⟩,.int .i64 0,.int .i64 1,.string ⟨#[66]⟩,.int .i64 ((i:Int)+1),.int .i64 0,.string ⟨#[]⟩,.int .i64 0,.int .i64 1,.bool false,.int .i64 2,.int .i64 1] 68):=⟨_,rfl⟩
        have HW7:=Lib.hid hW7
        have hb7:Below wc.heap.size wc W7:=by rw [hW7];exact (Below.refl _ _).alloc (Nat.le_refl _) _
        have HT7:=Lib.hid (HT.out.new_ (HBC.out.trans (hb7.mono HBC.out.size)))
        have HO7:=Lib.hid (show W7.ownsRow 0 68 16 (.slice Al i cl) i ((prefsO k i).flatMap PrefT.cells) by have:=HT7.out.own;rw [HPL.out] at this;exact this)
        have HN7:=Lib.hid (show 0<1→∃ad,(some (⟨wc.heap.size,0,none⟩:Addr))=some ad∧∀j u,([y2].flatMap PrefT.cells)[j]? = some u→W7.cell? (ad.add j)=some u from fun _=>⟨_,rfl,by rw [HC2.out,hW7];exact World.news_of_block (heap_alloc_new _ _)⟩)
        clear hW7 hy2 hb7
        go_wp2_with (first
        | (with_reducible refine wpList_load_mid rfl 68 _ rfl bp 0 rfl [.int .i64 1,.string ⟨#[83]⟩,.int .i64 1,.int .i64 3,.string ⟨#[121]⟩,.int .i64 0,.int .i64 1,.string ⟨#[66]⟩,.int .i64 ((i:Int)+1),.int .i64 0,.string ⟨#[]⟩,.int .i64 0,.int .i64 1,.bool false,.int .i64 2,.int .i64 1] _ HRX.out Tryz.underlying68 rfl (by kernel_rfl) ?_)
        | (at_builtin;rw [← HW7.out];refine wpList_append_src W7 rfl (.tmp 50) (.tmp 52) 29 rfl 68 i0 _ 16 160 Tryz.underlying29 hi0 hz0 hz1 hz2 rfl (by omega) (.slice Al i cl) i ((prefsO k i).flatMap PrefT.cells) rfl HO7.out (some ⟨wc.heap.size,0,none⟩) 1 1 ([y2].flatMap PrefT.cells) rfl rfl HN7.out (one_PrefV _) (by unfold maxLen;omega) (by omega) ?_;intro v3 w9 hown1 hg1 hnil1 hat1;obtain ⟨A9,c9,rfl,hO9,hA9,hb9⟩:=fresh_any (B:=X.heap.size) hown1 hg1 hat1 HT7.out.ain HT7.out.bel.size;rw [← List.flatMap_append,HY2.out,← prefsO_snoc] at hO9;have HT9:=Lib.hid (show TV X (prefsO k (i+1)) A9 c9 w9 from ⟨by rw [prefsO_len];exact hO9,hA9,HT7.out.bel.trans hb9⟩);clear hown1 hg1 hnil1 hat1 hO9 hA9 hb9))
        go_roundw
        case rel=>exact ⟨i+1,A9,c9,by go_num,by omega,rfl,HT9.out⟩
        case measure=>simp [intOf]<;>omega
   · skip
     obtain rfl:i=j+1:=by omega
     have jz : ¬(((j+1:Nat):Int)<(j:Int)+1):=by omega
     have jz2 : ¬((j:Int)+1<(j:Int)+1):=by omega
     have HPR:=Lib.hid (ownsRow_rd PrefT.cells_length HT.out.own)
     have HBX:=Lib.hid (HB.out.trans (HT.out.bel.mono HB.out.size))
     have K3:=Lib.hid (K3.out.new_ HT.out.bel)
     have K4:=Lib.hid (K4.out.new_ HT.out.bel)
     have K8:=Lib.hid (K8.out.new_ HT.out.bel)
     have HR:=Lib.hid (HR.out.new_ HT.out.bel)
     have HPC:=Lib.hid (prod_is 0 ⟨#[99]⟩ [⟨oldE,1,0⟩] (some ⟨g,0,none⟩) 1 none 0 none 0 [] none 0 0 0 (prefsO k (j+1)) Al cl wr (olds_fun j old wr b3 (b3+1) K3.out K4.out) HR.out (RowRd.nil _ _ _) HPR.out (by decide) (by rw [prefsO_len];omega) (by decide))
     rw [prefsO_len,show ([⟨oldE,1,0⟩]:List TraceT).map TraceT.elem = [oldE] from rfl] at HPC
     unfold ProdTo at HPC
     obtain ⟨t0_,t1_,t2_,t3_,t4_,t5_⟩:=K8.out.c6
     have tz:=K8.out.lt
     clear hi hlt
     go_upto_region 13 with fail
     clear n0 nz jz jz2
     go_wp2_with fail
     cases old
     · rw [show prodV 1 ⟨#[99]⟩ [oldE] (fun x=>false && decide (x=bSym (j+1))) [] (prefsO k (j+1))=prodV 1 ⟨#[99]⟩ [oldE] (fun _=>false) [] (prefsO k (j+1)) from rfl] at HPC
       obtain ⟨acts,hpv,hal,hnames⟩:=olds_some hj8 k
       rw [hpv] at HPC
       have HNM:=Lib.hid hnames
       clear hpv hnames
       refine HPC.out.mono ?_
       rintro e w5 ⟨hb,A1,c1,A2,c2,A3,c3,rfl,hr1,hr2,hr3,hr4⟩
       have HBX:=Lib.hid (HBX.out.trans (hb.mono HBX.out.size))
       have K3:=Lib.hid (K3.out.new_ hb)
       have K4:=Lib.hid (K4.out.new_ hb)
       have HA:=Lib.hid (show RowR repActT (fun k=>wr.heap.size≤k∧k<w5.heap.size) w5 A2 c2 acts from hr2)
       have hc2:acts.length≤c2:=hr2.1
       clear hb hr1 hr2 hr3 hr4 t0_ t1_ t2_ t3_ t4_ t5_ tz
       have o0:=K4.out.c1
       have oz:=K4.out.lt
       have n0:=K3.out.c1
       have nz:=K3.out.lt
       go_upto_region 14 with fail
       obtain ⟨Y,hY⟩ : ∃Y,Y=w5.alloc (.cells #[.string ⟨#[99]⟩,.slice A1 1 c1,.slice A2 (j+1) c2] 45):=⟨_,rfl⟩
       obtain ⟨b13,hb13⟩ : ∃b,b=w5.heap.size:=⟨_,rfl⟩
       have K13:=Lib.hid (show Blk Y b13 45 #[.string ⟨#[99]⟩,.slice A1 1 c1,.slice A2 (j+1) c2] by rw [hY,hb13];exact Blk.new _ _ _)
       have hbY:Below w5.heap.size w5 Y:=by rw [hY];exact (Below.refl _ _).alloc (Nat.le_refl _) _
       have K3:=Lib.hid (K3.out.new_ hbY)
       have K4:=Lib.hid (K4.out.new_ hbY)
       have HA:=Lib.hid (HA.out.new_ hbY)
       have HBX:=Lib.hid (HBX.out.trans (hbY.mono HBX.out.size))
       rw [← hY,← hb13]
       clear hY hb13 hbY o0 oz n0 nz
       have o0:=K4.out.c1
       have oz:=K4.out.lt
       have n0:=K3.out.c1
       have nz:=K3.out.lt
       obtain ⟨p0,p1,p2⟩:=K13.out.c3
       have pz:=K13.out.lt
       go_upto_region 19 with fail
       clear o0 oz n0 nz p0 p1 p2 pz
       go_loopw [16] (fun vi W=>∃i:Nat,vi = .int .i64 (i:Int)∧i≤j+1∧Below Y.heap.size Y W) (fun vi W=>j+1 - (intOf vi).toNat)
       case atStart=>exact ⟨0,rfl,Nat.zero_le _,Below.refl _ _⟩
       case round=>
       obtain ⟨i,rfl,hi,hbw⟩:=hrel
       have HBW:=Lib.hid hbw
       have n0:=(K3.out.new_ hbw).c1
       have nz:=(K3.out.new_ hbw).lt
       obtain ⟨p0,p1,p2⟩:=(K13.out.new_ hbw).c3
       have pz:=(K13.out.new_ hbw).lt
       have HAW:=Lib.hid (HA.out.new_ hbw)
       clear hbw
       by_cases hlt:i<j+1
       · have hia:i<acts.length:=by rw [hal];exact hlt
         obtain ⟨g2,o2,hA2,_,hg2,x0,x1,x2,x3,x4,x5,x6,x7,x8,x9,x10,x11,x12,x13,x14,x15,x16,x17,x18⟩:=at_ActT HAW.out (k:=i) hia
         subst hA2
         have hnm:=HNM.out i acts[i] (List.getElem?_eq_getElem hia)
         obtain ⟨dg,hdg⟩ : ∃d,d=decB (i+2):=⟨_,rfl⟩
         have HN:=Lib.hid (show ∀W,Calls Tryz.prog 35 #[.int .i64 ((i:Int)+2)] W fun e w'=>e = .returned (.string dg)∧Below W.heap.size W w' from fun W=>by rw [hdg];exact rnumberL_is (i+2) (by omega) W)
         have hds : ¬9223372036854775807<1+dg.size:=by
          have h1:=congrArg ByteArray.size (olds_name (i:=i) (by omega))
          rw [← hdg,ByteArray.size_append] at h1
          have h2:(⟨#[98]⟩:ByteArray).size=1:=rfl
          have h3:(⟨#[98,50+UInt8.ofNat i]⟩:ByteArray).size=2:=rfl
          omega
         rw [← olds_name (i:=i) (by omega),← hdg] at hnm
         have v2:IntKind.i64.wrap ((i:Int)+2)=(i:Int)+2:=IntWalk.i64_in _ (by omega)
         have v1:IntKind.i64.wrap ((i:Int)+1)=(i:Int)+1:=IntWalk.i64_in _ (by omega)
         have j1:(i:Int)<(j:Int)+1:=by omega
         have j0:(0:Int)≤(i:Int):=by omega
         clear hdg x0 x1 x2 x3 x4 x5 x7 x8 x9 x10 x11 x12 x13 x14 x16 x17 x18
         by_cases hk1:kk=1
         · have t1:((kk:Int) == 1)=true:=by rw [hk1];rfl
           have hkt:k=true:=HK.out.trans (by simp [hk1])
           rw [hkt] at hnm
           have xn:acts[i].other.var=⟨#[98]⟩++dg:=by simpa using hnm
           rw [xn] at x15
           clear hkt hnm xn
           go_wp2_with fail
           refine (HW2.out _).mono ?_
           rintro e w0 ⟨rfl,rfl⟩
           go_wp2_with fail
           refine (HN.out _).mono ?_
           rintro e w9 ⟨rfl,hb9⟩
           have HBW:=Lib.hid (HBW.out.trans (hb9.mono HBW.out.size))
           clear hb9
           go_wp2_with fail
           go_roundw
           case rel=>exact ⟨i+1,by go_num,by omega,HBW.out⟩
           case measure=>simp [intOf]<;>omega
         · have t1:((kk:Int) == 1)=false:=by simp;omega
           have hkt:k=false:=HK.out.trans (by simp [hk1])
           rw [hkt] at hnm
           have xn:acts[i].value.a.var=⟨#[98]⟩++dg:=by simpa using hnm
           rw [xn] at x6
           clear hkt hnm xn
           go_wp2_with fail
           refine (HW2.out _).mono ?_
           rintro e w0 ⟨rfl,rfl⟩
           go_wp2_with fail
           refine (HN.out _).mono ?_
           rintro e w9 ⟨rfl,hb9⟩
           have HBW:=Lib.hid (HBW.out.trans (hb9.mono HBW.out.size))
           clear hb9
           go_wp2_with fail
           go_roundw
           case rel=>exact ⟨i+1,by go_num,by omega,HBW.out⟩
           case measure=>simp [intOf]<;>omega
       · obtain rfl:i=j+1:=by omega
         have jz : ¬((j:Int)+1<(j:Int)+1):=by omega
         clear HAW p0 p1 p2 pz
         go_wp2_with fail
         refine (wakes22_is _).mono ?_
         rintro e w9 ⟨rfl,hb9⟩
         have HBF:=Lib.hid (HBX.out.trans ((HBW.out.trans (hb9.mono HBW.out.size)).mono HBX.out.size))
         clear hb9
         go_wp2_with fail
         go_ret
         exact ⟨rfl,HBF.out⟩
     · rw [show prodV 1 ⟨#[99]⟩ [oldE] (fun x=>true && decide (x=bSym (j+1))) [] (prefsO k (j+1))=none from olds_none hj8 k] at HPC
       refine HPC.out.mono ?_
       rintro e w5 ⟨hb,rfl⟩
       have HBX:=Lib.hid (HBX.out.trans (hb.mono HBX.out.size))
       have K4:=Lib.hid (K4.out.new_ hb)
       have o0:=K4.out.c1
       have oz:=K4.out.lt
       clear hb t0_ t1_ t2_ t3_ t4_ t5_ tz
       go_wp2_with fail
       refine (wakes22_is _).mono ?_
       rintro e w6 ⟨rfl,hb6⟩
       have HBF:=Lib.hid (hb6)
       clear hb6
       go_wp2_with fail
       go_ret
       exact ⟨rfl,(HBX.out.alloc HBX.out.size _).trans (HBF.out.mono (by have:=HBX.out.size;simp;omega))⟩
end Go.Proofs.YtldndkngpdfpfaaGreat
namespace Go.Proofs.YtldndkngpdfpfaaGreat
open Go.ChangeShapes Go.WideShapes Go.ChangeAt Go.RowKit Go.Deep
theorem own_volds:ownKnob Tryz.prog.godebug=none:=by kernel_rfl
theorem laid_volds:laidOutB Tryz.prog=true:=by kernel_rfl
set_option maxRecDepth 100000 in
theorem volds_lifted (os:Os) (started:os.Started) (H:Type) (enc:TypeId×Value→H) :
 ReturnsInHanded {} Tryz.checked os 6 .any (Rows.varyOldsSpec.pre6 enc Tryz.prog Tryz.f6 Rows.varyOldsRow.domain false) (Rows.varyOldsSpec.post enc Tryz.prog Tryz.f6 false true false false):=by
 refine returnsInHanded_of_change (C:=Tryz.checked) own_volds started (by kernel_rfl) Tryz.func6
  (ChangeSpec.witness6 (enc:=enc) (C:=Tryz.checked) false ⟨#[],#[.int .i64 0,.bool false,.int .i64 0],[]⟩ 8 (by kernel_rfl) (by kernel_rfl) (by kernel_rfl) (by kernel_rfl)) ?_
 intro W base args ds gs before hval0 hW hcnd _
 have hval : ∀(j:Nat) t v,Tryz.f6.params[j]? = some t→args[j]? = some v→Value.okWide Tryz.prog W .any base t v:=hval0
 have hW':=hW
 obtain ⟨p,q,hA0,hV,rfl,hfz,hnd⟩:=hW
 have hA:DataW.TrodAll enc Tryz.prog W 0 (fun _=>true) true Tryz.f6.params.toList args.toList ds p:=hA0
 rw [Tryz.params6] at hA hval
 obtain ⟨v0,v1,v2,d0,d1,d2,p0,p1,p2,rfl,rfl,rfl,h0,h1,h2⟩:=trodAll_three hA
 obtain ⟨rfl,rfl⟩:=trodVars_none hV
 obtain ⟨n0,rfl,_,_,_⟩:=open_int Tryz.underlying3 (hval 0 3 v0 rfl rfl) h0
 obtain ⟨b1,rfl,_,_⟩:=open_bool Tryz.underlying4 (hval 1 4 v1 rfl rfl) h1
 obtain ⟨n2,rfl,_,_,_⟩:=open_int Tryz.underlying3 (hval 2 3 v2 rfl rfl) h2
 clear hA0 hval0
 refine (volds_walk n0 b1 n2 W).mono fun e W' ⟨he,hb⟩=>?_
 subst he
 exact ⟨_,rfl,post_true (tb:=4) laid_volds rfl hW' (by kernel_rfl) Tryz.underlying4 (fun t ht=>by
  have ht':t∈[3,4,3]:=by
   have e:Tryz.f6.params.toList = [3,4,3]:=by rw [Tryz.params6]
   rwa [e] at ht
  simp only [List.mem_cons,List.not_mem_nil,or_false] at ht'
  rcases ht' with rfl | rfl | rfl<;>exact ⟨by kernel_rfl,of_decide_eq_true (by kernel_rfl)⟩) rfl rfl rfl hb⟩
theorem volds_named:Tryz.pinned.checked.prog.funcNamed Rows.varyOldsRow.func=some 6:=by kernel_rfl
theorem volds_closed:joinedFacts Tryz.pinned.checked.prog 6 Tryz.f6 Rows.varyOldsSpec Rows.varyOldsRow=true:=by kernel_rfl
theorem volds_holds:Rows.VaryOldsSaid:=
 OpenClaim.holds_of_wide 6 Tryz.f6 rfl rfl rfl rfl rfl rfl rfl ⟨rfl,rfl,rfl,rfl,rfl⟩ rfl rfl rfl rfl rfl volds_named Tryz.func6 volds_closed
  (of_decide_eq_true (by kernel_rfl)) (by unfold Func.isWrapper;first | (rw [if_pos (by decide +kernel)];kernel_rfl) | (rw [if_neg (by decide +kernel)];exact ⟨rfl,rfl⟩))
  (fun os started H enc _=>volds_lifted os started H enc)
end Go.Proofs.YtldndkngpdfpfaaGreat
