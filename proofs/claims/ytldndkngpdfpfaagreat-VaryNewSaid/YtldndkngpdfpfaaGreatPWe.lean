/-
  Texts put together: BkSymG, BkSym, VaryN.
-/
import Derived.Test.YtldndkngpdfpfaaGreatPWc
import Derived.Test.YtldndkngpdfpfaaGreatPWd
import Derived.Deep.Cut
import Derived.Test.YtldndkngpdfpfaaGreatPWb
import Derived.IntWalk
import Derived.Maps.RangeWalk
namespace Go.Proofs.YtldndkngpdfpfaaGreat
open Go.RowKit
abbrev zPgS (k:Sym):PgS:=⟨k,0⟩
set_option maxRecDepth 100000 in
set_option maxHeartbeats 4000000 in
theorem bkat_PgS (k:Sym) (w:World):Calls Tryz.prog 147 #[.agg #[.int .i64 k.kind,.string k.text,.int .i64 k.n]] w fun e w'=>e = .returned (.agg #[.int .i64 k.kind,.string k.text,.int .i64 k.n,.int .i64 0])∧Below w.heap.size w w':=by
 obtain ⟨W,hW⟩ : ∃W,W=(w.alloc (.cells #[.int .i64 k.kind,.string k.text,.int .i64 k.n] 23)).alloc (.cells #[Value.int IntKind.i64 0,Value.string ⟨#[]⟩,Value.int IntKind.i64 0,Value.int IntKind.i64 0] 224):=⟨_,rfl⟩
 have hK:Blk W w.heap.size 23 #[.int .i64 k.kind,.string k.text,.int .i64 k.n]:=by rw [hW];exact (Blk.new _ _ _).alloc _
 have hR:Blk W (w.heap.size+1) 224 #[Value.int IntKind.i64 0,Value.string ⟨#[]⟩,Value.int IntKind.i64 0,Value.int IntKind.i64 0]:=by rw [hW];have hh:=Blk.new (w.alloc (.cells #[.int .i64 k.kind,.string k.text,.int .i64 k.n] 23)) 224 #[Value.int IntKind.i64 0,Value.string ⟨#[]⟩,Value.int IntKind.i64 0,Value.int IntKind.i64 0];simp only [World.size_alloc] at hh;exact hh
 have hB:Below w.heap.size w W:=by rw [hW];exact ((Below.refl _ _).alloc (Nat.le_refl _) _).alloc (by simp) _
 have ht:W.there (w.heap.size+1) 0 (#[Value.int IntKind.i64 k.kind,Value.string k.text,Value.int IntKind.i64 k.n,Value.int IntKind.i64 0]:Array Value).size:=hR.there
 have HT:=Lib.hid ht
 have HB:=Lib.hid hB
 obtain ⟨k0,k1,k2⟩:=hK.c3
 have kz:=hK.lt
 clear ht hR hB hK
 go_enter Tryz.func147,Tryz.ntmps147
 go_upto_region 1 with (fail)
 rw [← hW]
 clear hW
 go_wp2_with (with_reducible refine wpList_store_mid rfl 224 _ _ rfl (w.heap.size+1) 0 #[Value.int IntKind.i64 k.kind,Value.string k.text,Value.int IntKind.i64 k.n,Value.int IntKind.i64 0] rfl rfl HT.out (by kernel_rfl) (by kernel_rfl) ?_)
 try simp only [Exit.inBlock,Exit.then]
 refine bodyPost_ret (v:=.agg #[.int .i64 k.kind,.string k.text,.int .i64 k.n,.int .i64 0]) ?_ rfl ⟨rfl,Below.setCells' _ _ HB.out (by omega)⟩
 exact results_cell (t:=2) (T:=224) rfl _ _ (w.heap.size+1) [Value.int IntKind.i64 k.kind,Value.string k.text,Value.int IntKind.i64 k.n,Value.int IntKind.i64 0] _ rfl (World.rangeAt_setCells_same W (w.heap.size+1) 0 [Value.int IntKind.i64 k.kind,Value.string k.text,Value.int IntKind.i64 k.n,Value.int IntKind.i64 0] HT.out) Tryz.underlying224 rfl (by kernel_rfl)
set_option maxRecDepth 100000 in
set_option maxHeartbeats 4000000 in
theorem bknew_PgS (w:World):Calls Tryz.prog 100 #[] w fun e w'=>∃bm bp sn A c,e = .returned (.pointer (some ⟨bm,0,none⟩))∧w.heap.size≤bm∧w.heap.size≤bp∧AIn A (w.heap.size≤·)∧Blk w' bm 226 #[.pointer (some ⟨bp,0,none⟩)]∧PgSSet w' bp sn A c []∧Below w.heap.size w w':=by
 go_enter Tryz.func100,Tryz.ntmps100
 go_wp2_with fail
 refine (new_PgS none 0 [] _ (RowRd.nil _ _ _) (by simp)).mono ?_
 rintro e w1 ⟨bp,rfl,hbp,sn,A,c,hS,hA,hB⟩
 have HS:=Lib.hid hS
 have HB:=Lib.hid hB
 clear hS hB
 go_wp2_with fail
 go_ret
 have hb9:Below w1.heap.size w1 (w1.alloc (.cells #[.pointer (some ⟨bp,0,none⟩)] 226)):=(Below.refl _ _).alloc (Nat.le_refl _) _
 exact ⟨w1.heap.size,bp,sn,A,c,rfl,HB.out.size,hbp,hA,Blk.new _ _ _,HS.out.new_ hb9,HB.out.trans (hb9.mono HB.out.size)⟩
set_option maxRecDepth 100000 in
set_option maxHeartbeats 4000000 in
theorem bkget_no_PgS (bm bp cc:Nat) (sn:Bool) (A:Option Addr) (m:List PgS) (k:Sym) (w:World) (hM:Blk w bm 226 #[.pointer (some ⟨bp,0,none⟩)]) (hS:PgSSet w bp sn A cc m) (hs:Srt cmpPgS m) (hl:(m.length:Int)≤1000000) (hh:has cmpPgS m (zPgS k)=false) :
 Calls Tryz.prog 103 #[.pointer (some ⟨bm,0,none⟩),.agg #[.int .i64 k.kind,.string k.text,.int .i64 k.n]] w fun e w'=>e = .returned (.tuple #[.int .i64 0,.bool false])∧Below w.heap.size w w':=by
 have s0:=hM.c1
 have hml:=hM.lt
 have HS:=Lib.hid hS
 have HO:=Lib.hid hs
 have HM:=Lib.hid hM
 have HH:=Lib.hid hh
 clear hS hs hM hh
 go_enter Tryz.func103,Tryz.ntmps103
 go_upto_region 4 with (fail)
 obtain ⟨W0,hW0⟩ : ∃W0,W0=w.alloc (.cells #[.int .i64 k.kind,.string k.text,.int .i64 k.n] 23):=⟨_,rfl⟩
 have hB0:Below w.heap.size w W0:=by rw [hW0];exact (Below.refl _ _).alloc (Nat.le_refl _) _
 have hbx:Blk W0 w.heap.size 23 #[.int .i64 k.kind,.string k.text,.int .i64 k.n]:=by rw [hW0];exact Blk.new _ _ _
 have hz0:w.heap.size<W0.heap.size:=hbx.lt
 rw [← hW0]
 clear hW0
 have s1:=(hB0.cell (p:=⟨bm,0,none⟩) hml).trans s0
 clear s0
 obtain ⟨k0,k1,k2⟩:=hbx.c3
 have HS0:=Lib.hid (HS.out.new_ hB0)
 have HM0:=Lib.hid (HM.out.new_ hB0)
 have HX0:=Lib.hid hbx
 have HB0:=Lib.hid hB0
 have hml0:bm<W0.heap.size:=by omega
 clear hB0 hbx HS HM
 go_cut [7,8] from 12 (fun p b wc=>b = .bool false∧Below W0.heap.size W0 wc∧∃g,p = .pointer (some ⟨g,0,none⟩)∧W0.heap.size≤g∧g<wc.heap.size∧wc.rangeAt g 0 [Value.int IntKind.i64 0,Value.string ⟨#[]⟩,Value.int IntKind.i64 0,Value.int IntKind.i64 0])
 case first=>
  refine wp_region_Pl (fun w9=>Below W0.heap.size W0 w9) [0,1,2,3,4,7,8,9,12] [3,4] (.fork [(0,0),(1,0),(2,0),(3,1),(4,1)] 5 (.fork [] 6 (.fin [(7,0),(8,0),(9,0),(10,2),(11,2),(12,0)]) 10 (.fin [(6,2),(7,0),(8,0),(9,0),(11,2),(12,0)])) 10 (.fin [(5,2),(6,2),(7,0),(8,0),(9,0),(11,2),(12,0)])) (by kernel_rfl) (by kernel_rfl) (by kernel_rfl) (fun KK hKK=>?_)
  simp only [wpPl,beside,List.filterMap_cons,List.filterMap_nil,List.getElem?_toArray,List.getElem?_cons_zero,List.getElem?_cons_succ,Option.map_some]
  repeat ((first | (refine wpY_w ?_ (Or.inl ⟨by rfl,fun w9=>?_⟩) ?_;rotate_left 1;go_simp;with_reducible rfl) | (refine wpY_l ?_ ((Below.refl _ _).drew) (Or.inl ⟨by rfl,fun w9 hw9=>?_⟩) ?_;rotate_left 1;obtain ⟨hc9,hf9⟩:=bcell hw9;go_simp;with_reducible rfl) | refine wpY_w undef (Or.inr ⟨by rfl,rfl⟩) ?_ | refine wpY_l undef ((Below.refl _ _).drew) (Or.inr ⟨by rfl,rfl⟩) ?_);go_frame)
  refine wpY_nil ⟨?_,?_⟩
  · refine wpOp_cs rfl (fun K9 hK9=>?_)
    go_simp
    refine (bkat_PgS k _).mono ?_
    rintro e wa ⟨rfl,hba⟩
    have HBa:=Lib.hid (((Below.refl W0.heap.size W0).drew).trans (hba.mono (by first | omega | simp)))
    clear hba
    have hza:=HBa.out.size
    refine hK9 _ _ (fun _=>HBa.out) ?_
    clear hK9 K9
    try go_frame
    try simp only [beside,List.filterMap_nil]
    refine wpY_nil ⟨?_,?_⟩
    · refine wpOp_cs rfl (fun K9 hK9=>?_)
      go_simp
      refine (get_no_PgS bp cc sn A m (zPgS k) _ (HS0.out.new_ (HBa.out)) HO.out (by omega) HH.out).mono ?_
      rintro e wg ⟨rfl,hbg⟩
      have HBg:=Lib.hid ((HBa.out).trans (hbg.mono (by have:=HBa.out.size;first | omega | (simp;done) | (simp;omega))))
      clear hbg
      have hzg:=HBg.out.size
      refine hK9 _ _ (fun _=>HBg.out) ?_
      clear hK9 K9
      try go_frame
      try simp only [beside,List.filterMap_nil]
      repeat ((first | (refine wpY_w ?_ (Or.inl ⟨by rfl,fun w9=>?_⟩) ?_;rotate_left 1;go_simp;with_reducible rfl) | (refine wpY_l ?_ (HBg.out) (Or.inl ⟨by rfl,fun w9 hw9=>?_⟩) ?_;rotate_left 1;obtain ⟨hc9,hf9⟩:=bcell hw9;go_simp;with_reducible rfl) | refine wpY_w undef (Or.inr ⟨by rfl,rfl⟩) ?_ | refine wpY_l undef (HBg.out) (Or.inr ⟨by rfl,rfl⟩) ?_);go_frame)
      refine wpY_es (fun K9 hK9=>?_)
      go_simp
      have hB9:=(HBg.out).alloc (by have:=HBg.out.size;first | omega | (simp;done) | (simp;omega)) (.cells #[Value.int IntKind.i64 0,Value.string ⟨#[]⟩,Value.int IntKind.i64 0,Value.int IntKind.i64 0] 224)
      have HB9:=Lib.hid hB9
      have hk9:Blk (wg.alloc (.cells #[Value.int IntKind.i64 0,Value.string ⟨#[]⟩,Value.int IntKind.i64 0,Value.int IntKind.i64 0] 224)) wg.heap.size 224 #[Value.int IntKind.i64 0,Value.string ⟨#[]⟩,Value.int IntKind.i64 0,Value.int IntKind.i64 0]:=Blk.new wg 224 #[Value.int IntKind.i64 0,Value.string ⟨#[]⟩,Value.int IntKind.i64 0,Value.int IntKind.i64 0]
      have HK9:=Lib.hid hk9
      clear hB9 hk9
      have hz9:=HB9.out.size
      refine hK9 _ _ (HB9.out) ?_
      clear hK9 K9
      try go_frame
      refine wpY_es (fun K9 hK9=>?_)
      refine step_store_el rfl 224 _ _ rfl wg.heap.size 0 #[Value.int IntKind.i64 0,Value.string ⟨#[]⟩,Value.int IntKind.i64 0,Value.int IntKind.i64 0] rfl rfl (show _ from (HK9.out).there) (by kernel_rfl) (by kernel_rfl) ?_
      refine hK9 _ _ (Below.setCells' _ _ (HB9.out) (by have:=(HB9.out).size;first | omega | (simp;done) | (simp;omega))) ?_
      clear hK9 K9
      try go_frame
      repeat ((first | (refine wpY_w ?_ (Or.inl ⟨by rfl,fun w9=>?_⟩) ?_;rotate_left 1;go_simp;with_reducible rfl) | (refine wpY_l ?_ (Below.setCells' _ _ (HB9.out) (by have:=(HB9.out).size;first | omega | (simp;done) | (simp;omega))) (Or.inl ⟨by rfl,fun w9 hw9=>?_⟩) ?_;rotate_left 1;obtain ⟨hc9,hf9⟩:=bcell hw9;go_simp;with_reducible rfl) | refine wpY_w undef (Or.inr ⟨by rfl,rfl⟩) ?_ | refine wpY_l undef (Below.setCells' _ _ (HB9.out) (by have:=(HB9.out).size;first | omega | (simp;done) | (simp;omega))) (Or.inr ⟨by rfl,rfl⟩) ?_);go_frame)
      refine wpY_nil ?_
      simp only [OnlyN_normal]
      refine hKK _ _ ?_
      clear hKK KK
      go_wp2_with fail
      go_meet
      case rel=>exact ⟨rfl,Below.setCells' _ _ (HB9.out) (by have:=(HB9.out).size;first | omega | (simp;done) | (simp;omega)),_,rfl,by first | exact hzg | exact hza | omega | simp,by first | (rw [size_setCells];exact (HK9.out).lt) | exact (HK9.out).lt,World.rangeAt_setCells_same _ _ 0 [Value.int IntKind.i64 0,Value.string ⟨#[]⟩,Value.int IntKind.i64 0,Value.int IntKind.i64 0] (show _ from (HK9.out).there)⟩
    · refine wpOp_cs rfl (fun K9 hK9=>?_)
      go_simp
      have hB9:=(HBa.out).alloc (by have:=HBa.out.size;first | omega | (simp;done) | (simp;omega)) (.cells #[Value.int IntKind.i64 0,Value.string ⟨#[]⟩,Value.int IntKind.i64 0,Value.int IntKind.i64 0] 224)
      have HB9:=Lib.hid hB9
      have hk9:Blk (wa.alloc (.cells #[Value.int IntKind.i64 0,Value.string ⟨#[]⟩,Value.int IntKind.i64 0,Value.int IntKind.i64 0] 224)) wa.heap.size 224 #[Value.int IntKind.i64 0,Value.string ⟨#[]⟩,Value.int IntKind.i64 0,Value.int IntKind.i64 0]:=Blk.new wa 224 #[Value.int IntKind.i64 0,Value.string ⟨#[]⟩,Value.int IntKind.i64 0,Value.int IntKind.i64 0]
      have HK9:=Lib.hid hk9
      clear hB9 hk9
      have hz9:=HB9.out.size
      refine hK9 _ _ (fun _=>HB9.out) ?_
      clear hK9 K9
      try go_frame
      try simp only [beside,List.filterMap_nil]
      refine wpY_es (fun K9 hK9=>?_)
      go_simp
      refine (get_no_PgS bp cc sn A m (zPgS k) _ (HS0.out.new_ (HB9.out)) HO.out (by omega) HH.out).mono ?_
      rintro e wg ⟨rfl,hbg⟩
      have HBg:=Lib.hid ((HB9.out).trans (hbg.mono (by have:=HB9.out.size;first | omega | (simp at this ⊢;done) | (simp at this ⊢;omega))))
      have HKg:=Lib.hid ((HK9.out).new_ hbg)
      clear hbg
      have hzg:=HBg.out.size
      refine hK9 _ _ (HBg.out) ?_
      clear hK9 K9
      try go_frame
      repeat ((first | (refine wpY_w ?_ (Or.inl ⟨by rfl,fun w9=>?_⟩) ?_;rotate_left 1;go_simp;with_reducible rfl) | (refine wpY_l ?_ (HBg.out) (Or.inl ⟨by rfl,fun w9 hw9=>?_⟩) ?_;rotate_left 1;obtain ⟨hc9,hf9⟩:=bcell hw9;go_simp;with_reducible rfl) | refine wpY_w undef (Or.inr ⟨by rfl,rfl⟩) ?_ | refine wpY_l undef (HBg.out) (Or.inr ⟨by rfl,rfl⟩) ?_);go_frame)
      refine wpY_es (fun K9 hK9=>?_)
      refine step_store_el rfl 224 _ _ rfl wa.heap.size 0 #[Value.int IntKind.i64 0,Value.string ⟨#[]⟩,Value.int IntKind.i64 0,Value.int IntKind.i64 0] rfl rfl (show _ from (HKg.out).there) (by kernel_rfl) (by kernel_rfl) ?_
      refine hK9 _ _ (Below.setCells' _ _ (HBg.out) (by have:=(HBg.out).size;first | omega | (simp;done) | (simp;omega))) ?_
      clear hK9 K9
      try go_frame
      repeat ((first | (refine wpY_w ?_ (Or.inl ⟨by rfl,fun w9=>?_⟩) ?_;rotate_left 1;go_simp;with_reducible rfl) | (refine wpY_l ?_ (Below.setCells' _ _ (HBg.out) (by have:=(HBg.out).size;first | omega | (simp;done) | (simp;omega))) (Or.inl ⟨by rfl,fun w9 hw9=>?_⟩) ?_;rotate_left 1;obtain ⟨hc9,hf9⟩:=bcell hw9;go_simp;with_reducible rfl) | refine wpY_w undef (Or.inr ⟨by rfl,rfl⟩) ?_ | refine wpY_l undef (Below.setCells' _ _ (HBg.out) (by have:=(HBg.out).size;first | omega | (simp;done) | (simp;omega))) (Or.inr ⟨by rfl,rfl⟩) ?_);go_frame)
      refine wpY_nil ?_
      simp only [OnlyN_normal]
      refine hKK _ _ ?_
      clear hKK KK
      go_wp2_with fail
      go_meet
      case rel=>exact ⟨rfl,Below.setCells' _ _ (HBg.out) (by have:=(HBg.out).size;first | omega | (simp;done) | (simp;omega)),_,rfl,by first | exact hzg | exact hza | omega | simp,by first | (rw [size_setCells];exact (HKg.out).lt) | exact (HKg.out).lt,World.rangeAt_setCells_same _ _ 0 [Value.int IntKind.i64 0,Value.string ⟨#[]⟩,Value.int IntKind.i64 0,Value.int IntKind.i64 0] (show _ from (HKg.out).there)⟩
  · refine wpOp_cs rfl (fun K9 hK9=>?_)
    go_simp
    have hB9:=((Below.refl W0.heap.size W0).drew).alloc (by first | omega | simp) (.cells #[Value.int IntKind.i64 0,Value.string ⟨#[]⟩,Value.int IntKind.i64 0,Value.int IntKind.i64 0] 224)
    have HB9:=Lib.hid hB9
    have hk9:Blk (W0.drew.alloc (.cells #[Value.int IntKind.i64 0,Value.string ⟨#[]⟩,Value.int IntKind.i64 0,Value.int IntKind.i64 0] 224)) W0.heap.size 224 #[Value.int IntKind.i64 0,Value.string ⟨#[]⟩,Value.int IntKind.i64 0,Value.int IntKind.i64 0]:=Blk.new W0.drew 224 #[Value.int IntKind.i64 0,Value.string ⟨#[]⟩,Value.int IntKind.i64 0,Value.int IntKind.i64 0]
    have HK9:=Lib.hid hk9
    clear hB9 hk9
    have hz9:=HB9.out.size
    refine hK9 _ _ (fun _=>HB9.out) ?_
    clear hK9 K9
    try go_frame
    try simp only [beside,List.filterMap_nil]
    refine wpY_es (fun K9 hK9=>?_)
    go_simp
    refine (bkat_PgS k _).mono ?_
    rintro e wa ⟨rfl,hba⟩
    have HBa:=Lib.hid ((HB9.out).trans (hba.mono (by have:=HB9.out.size;first | omega | (simp at this ⊢;done) | (simp at this ⊢;omega))))
    have HKa:=Lib.hid ((HK9.out).new_ hba)
    clear hba
    have hza:=HBa.out.size
    refine hK9 _ _ (HBa.out) ?_
    clear hK9 K9
    try go_frame
    refine wpY_es (fun K9 hK9=>?_)
    go_simp
    refine (get_no_PgS bp cc sn A m (zPgS k) _ (HS0.out.new_ (HBa.out)) HO.out (by omega) HH.out).mono ?_
    rintro e wg ⟨rfl,hbg⟩
    have HBg:=Lib.hid ((HBa.out).trans (hbg.mono (by have:=HBa.out.size;first | omega | (simp;done) | (simp;omega))))
    have HKg:=Lib.hid ((HKa.out).new_ hbg)
    clear hbg
    have hzg:=HBg.out.size
    refine hK9 _ _ (HBg.out) ?_
    clear hK9 K9
    try go_frame
    repeat ((first | (refine wpY_w ?_ (Or.inl ⟨by rfl,fun w9=>?_⟩) ?_;rotate_left 1;go_simp;with_reducible rfl) | (refine wpY_l ?_ (HBg.out) (Or.inl ⟨by rfl,fun w9 hw9=>?_⟩) ?_;rotate_left 1;obtain ⟨hc9,hf9⟩:=bcell hw9;go_simp;with_reducible rfl) | refine wpY_w undef (Or.inr ⟨by rfl,rfl⟩) ?_ | refine wpY_l undef (HBg.out) (Or.inr ⟨by rfl,rfl⟩) ?_);go_frame)
    refine wpY_es (fun K9 hK9=>?_)
    refine step_store_el rfl 224 _ _ rfl W0.heap.size 0 #[Value.int IntKind.i64 0,Value.string ⟨#[]⟩,Value.int IntKind.i64 0,Value.int IntKind.i64 0] rfl rfl (show _ from (HKg.out).there) (by kernel_rfl) (by kernel_rfl) ?_
    refine hK9 _ _ (Below.setCells' _ _ (HBg.out) (by have:=(HBg.out).size;first | omega | (simp;done) | (simp;omega))) ?_
    clear hK9 K9
    try go_frame
    repeat ((first | (refine wpY_w ?_ (Or.inl ⟨by rfl,fun w9=>?_⟩) ?_;rotate_left 1;go_simp;with_reducible rfl) | (refine wpY_l ?_ (Below.setCells' _ _ (HBg.out) (by have:=(HBg.out).size;first | omega | (simp;done) | (simp;omega))) (Or.inl ⟨by rfl,fun w9 hw9=>?_⟩) ?_;rotate_left 1;obtain ⟨hc9,hf9⟩:=bcell hw9;go_simp;with_reducible rfl) | refine wpY_w undef (Or.inr ⟨by rfl,rfl⟩) ?_ | refine wpY_l undef (Below.setCells' _ _ (HBg.out) (by have:=(HBg.out).size;first | omega | (simp;done) | (simp;omega))) (Or.inr ⟨by rfl,rfl⟩) ?_);go_frame)
    refine wpY_nil ?_
    simp only [OnlyN_normal]
    refine hKK _ _ ?_
    clear hKK KK
    go_wp2_with fail
    go_meet
    case rel=>exact ⟨rfl,Below.setCells' _ _ (HBg.out) (by have:=(HBg.out).size;first | omega | (simp;done) | (simp;omega)),_,rfl,by first | exact hzg | exact hza | omega | simp,by first | (rw [size_setCells];exact (HKg.out).lt) | exact (HKg.out).lt,World.rangeAt_setCells_same _ _ 0 [Value.int IntKind.i64 0,Value.string ⟨#[]⟩,Value.int IntKind.i64 0,Value.int IntKind.i64 0] (show _ from (HKg.out).there)⟩
 case rest=>
  obtain ⟨rfl,hB,g,rfl,hg,hgl,hr⟩:=hcut
  have HB:=Lib.hid hB
  have g1:wc.cell? ⟨g,3,none⟩=some (.int .i64 0):=hr 3 _ rfl
  clear hB hr s1 k0 k1 k2
  go_wp2_with fail
  go_ret2
  exact ⟨rfl,HB0.out.trans (HB.out.mono (by omega))⟩
set_option maxRecDepth 100000 in
set_option maxHeartbeats 4000000 in
theorem bkget_is_PgS (bm bp cc:Nat) (sn:Bool) (A:Option Addr) (m:List PgS) (k:Sym) (y:PgS) (w:World) (hM:Blk w bm 226 #[.pointer (some ⟨bp,0,none⟩)]) (hS:PgSSet w bp sn A cc m) (hs:Srt cmpPgS m) (hl:(m.length:Int)≤1000000) (hh:has cmpPgS m (zPgS k)=true) (hy:m[rank cmpPgS m (zPgS k)]? = some y) :
 Calls Tryz.prog 103 #[.pointer (some ⟨bm,0,none⟩),.agg #[.int .i64 k.kind,.string k.text,.int .i64 k.n]] w fun e w'=>e = .returned (.tuple #[.int .i64 y.v,.bool true])∧Below w.heap.size w w':=by
 have s0:=hM.c1
 have hml:=hM.lt
 have HS:=Lib.hid hS
 have HO:=Lib.hid hs
 have HM:=Lib.hid hM
 have HH:=Lib.hid hh
 have HY:=Lib.hid hy
 clear hy
 clear hS hs hM hh
 go_enter Tryz.func103,Tryz.ntmps103
 go_upto_region 4 with (fail)
 obtain ⟨W0,hW0⟩ : ∃W0,W0=w.alloc (.cells #[.int .i64 k.kind,.string k.text,.int .i64 k.n] 23):=⟨_,rfl⟩
 have hB0:Below w.heap.size w W0:=by rw [hW0];exact (Below.refl _ _).alloc (Nat.le_refl _) _
 have hbx:Blk W0 w.heap.size 23 #[.int .i64 k.kind,.string k.text,.int .i64 k.n]:=by rw [hW0];exact Blk.new _ _ _
 have hz0:w.heap.size<W0.heap.size:=hbx.lt
 rw [← hW0]
 clear hW0
 have s1:=(hB0.cell (p:=⟨bm,0,none⟩) hml).trans s0
 clear s0
 obtain ⟨k0,k1,k2⟩:=hbx.c3
 have HS0:=Lib.hid (HS.out.new_ hB0)
 have HM0:=Lib.hid (HM.out.new_ hB0)
 have HX0:=Lib.hid hbx
 have HB0:=Lib.hid hB0
 have hml0:bm<W0.heap.size:=by omega
 clear hB0 hbx HS HM
 go_cut [7,8] from 12 (fun p b wc=>b = .bool true∧Below W0.heap.size W0 wc∧∃g,p = .pointer (some ⟨g,0,none⟩)∧W0.heap.size≤g∧g<wc.heap.size∧wc.rangeAt g 0 [Value.int IntKind.i64 y.kk.kind,Value.string y.kk.text,Value.int IntKind.i64 y.kk.n,Value.int IntKind.i64 y.v])
 case first=>
  refine wp_region_Pl (fun w9=>Below W0.heap.size W0 w9) [0,1,2,3,4,7,8,9,12] [3,4] (.fork [(0,0),(1,0),(2,0),(3,1),(4,1)] 5 (.fork [] 6 (.fin [(7,0),(8,0),(9,0),(10,2),(11,2),(12,0)]) 10 (.fin [(6,2),(7,0),(8,0),(9,0),(11,2),(12,0)])) 10 (.fin [(5,2),(6,2),(7,0),(8,0),(9,0),(11,2),(12,0)])) (by kernel_rfl) (by kernel_rfl) (by kernel_rfl) (fun KK hKK=>?_)
  simp only [wpPl,beside,List.filterMap_cons,List.filterMap_nil,List.getElem?_toArray,List.getElem?_cons_zero,List.getElem?_cons_succ,Option.map_some]
  repeat ((first | (refine wpY_w ?_ (Or.inl ⟨by rfl,fun w9=>?_⟩) ?_;rotate_left 1;go_simp;with_reducible rfl) | (refine wpY_l ?_ ((Below.refl _ _).drew) (Or.inl ⟨by rfl,fun w9 hw9=>?_⟩) ?_;rotate_left 1;obtain ⟨hc9,hf9⟩:=bcell hw9;go_simp;with_reducible rfl) | refine wpY_w undef (Or.inr ⟨by rfl,rfl⟩) ?_ | refine wpY_l undef ((Below.refl _ _).drew) (Or.inr ⟨by rfl,rfl⟩) ?_);go_frame)
  refine wpY_nil ⟨?_,?_⟩
  · refine wpOp_cs rfl (fun K9 hK9=>?_)
    go_simp
    refine (bkat_PgS k _).mono ?_
    rintro e wa ⟨rfl,hba⟩
    have HBa:=Lib.hid (((Below.refl W0.heap.size W0).drew).trans (hba.mono (by first | omega | simp)))
    clear hba
    have hza:=HBa.out.size
    refine hK9 _ _ (fun _=>HBa.out) ?_
    clear hK9 K9
    try go_frame
    try simp only [beside,List.filterMap_nil]
    refine wpY_nil ⟨?_,?_⟩
    · refine wpOp_cs rfl (fun K9 hK9=>?_)
      go_simp
      refine (get_is_PgS bp cc sn A m (zPgS k) y _ (HS0.out.new_ (HBa.out)) HO.out (by omega) HH.out HY.out).mono ?_
      rintro e wg ⟨rfl,hbg⟩
      have HBg:=Lib.hid ((HBa.out).trans (hbg.mono (by have:=HBa.out.size;first | omega | (simp;done) | (simp;omega))))
      clear hbg
      have hzg:=HBg.out.size
      refine hK9 _ _ (fun _=>HBg.out) ?_
      clear hK9 K9
      try go_frame
      try simp only [beside,List.filterMap_nil]
      repeat ((first | (refine wpY_w ?_ (Or.inl ⟨by rfl,fun w9=>?_⟩) ?_;rotate_left 1;go_simp;with_reducible rfl) | (refine wpY_l ?_ (HBg.out) (Or.inl ⟨by rfl,fun w9 hw9=>?_⟩) ?_;rotate_left 1;obtain ⟨hc9,hf9⟩:=bcell hw9;go_simp;with_reducible rfl) | refine wpY_w undef (Or.inr ⟨by rfl,rfl⟩) ?_ | refine wpY_l undef (HBg.out) (Or.inr ⟨by rfl,rfl⟩) ?_);go_frame)
      refine wpY_es (fun K9 hK9=>?_)
      go_simp
      have hB9:=(HBg.out).alloc (by have:=HBg.out.size;first | omega | (simp;done) | (simp;omega)) (.cells #[Value.int IntKind.i64 0,Value.string ⟨#[]⟩,Value.int IntKind.i64 0,Value.int IntKind.i64 0] 224)
      have HB9:=Lib.hid hB9
      have hk9:Blk (wg.alloc (.cells #[Value.int IntKind.i64 0,Value.string ⟨#[]⟩,Value.int IntKind.i64 0,Value.int IntKind.i64 0] 224)) wg.heap.size 224 #[Value.int IntKind.i64 0,Value.string ⟨#[]⟩,Value.int IntKind.i64 0,Value.int IntKind.i64 0]:=Blk.new wg 224 #[Value.int IntKind.i64 0,Value.string ⟨#[]⟩,Value.int IntKind.i64 0,Value.int IntKind.i64 0]
      have HK9:=Lib.hid hk9
      clear hB9 hk9
      have hz9:=HB9.out.size
      refine hK9 _ _ (HB9.out) ?_
      clear hK9 K9
      try go_frame
      refine wpY_es (fun K9 hK9=>?_)
      refine step_store_el rfl 224 _ _ rfl wg.heap.size 0 #[Value.int IntKind.i64 y.kk.kind,Value.string y.kk.text,Value.int IntKind.i64 y.kk.n,Value.int IntKind.i64 y.v] rfl rfl (show _ from (HK9.out).there) (by kernel_rfl) (by kernel_rfl) ?_
      refine hK9 _ _ (Below.setCells' _ _ (HB9.out) (by have:=(HB9.out).size;first | omega | (simp;done) | (simp;omega))) ?_
      clear hK9 K9
      try go_frame
      repeat ((first | (refine wpY_w ?_ (Or.inl ⟨by rfl,fun w9=>?_⟩) ?_;rotate_left 1;go_simp;with_reducible rfl) | (refine wpY_l ?_ (Below.setCells' _ _ (HB9.out) (by have:=(HB9.out).size;first | omega | (simp;done) | (simp;omega))) (Or.inl ⟨by rfl,fun w9 hw9=>?_⟩) ?_;rotate_left 1;obtain ⟨hc9,hf9⟩:=bcell hw9;go_simp;with_reducible rfl) | refine wpY_w undef (Or.inr ⟨by rfl,rfl⟩) ?_ | refine wpY_l undef (Below.setCells' _ _ (HB9.out) (by have:=(HB9.out).size;first | omega | (simp;done) | (simp;omega))) (Or.inr ⟨by rfl,rfl⟩) ?_);go_frame)
      refine wpY_nil ?_
      simp only [OnlyN_normal]
      refine hKK _ _ ?_
      clear hKK KK
      go_wp2_with fail
      go_meet
      case rel=>exact ⟨rfl,Below.setCells' _ _ (HB9.out) (by have:=(HB9.out).size;first | omega | (simp;done) | (simp;omega)),_,rfl,by first | exact hzg | exact hza | omega | simp,by first | (rw [size_setCells];exact (HK9.out).lt) | exact (HK9.out).lt,World.rangeAt_setCells_same _ _ 0 [Value.int IntKind.i64 y.kk.kind,Value.string y.kk.text,Value.int IntKind.i64 y.kk.n,Value.int IntKind.i64 y.v] (show _ from (HK9.out).there)⟩
    · refine wpOp_cs rfl (fun K9 hK9=>?_)
      go_simp
      have hB9:=(HBa.out).alloc (by have:=HBa.out.size;first | omega | (simp;done) | (simp;omega)) (.cells #[Value.int IntKind.i64 0,Value.string ⟨#[]⟩,Value.int IntKind.i64 0,Value.int IntKind.i64 0] 224)
      have HB9:=Lib.hid hB9
      have hk9:Blk (wa.alloc (.cells #[Value.int IntKind.i64 0,Value.string ⟨#[]⟩,Value.int IntKind.i64 0,Value.int IntKind.i64 0] 224)) wa.heap.size 224 #[Value.int IntKind.i64 0,Value.string ⟨#[]⟩,Value.int IntKind.i64 0,Value.int IntKind.i64 0]:=Blk.new wa 224 #[Value.int IntKind.i64 0,Value.string ⟨#[]⟩,Value.int IntKind.i64 0,Value.int IntKind.i64 0]
      have HK9:=Lib.hid hk9
      clear hB9 hk9
      have hz9:=HB9.out.size
      refine hK9 _ _ (fun _=>HB9.out) ?_
      clear hK9 K9
      try go_frame
      try simp only [beside,List.filterMap_nil]
      refine wpY_es (fun K9 hK9=>?_)
      go_simp
      refine (get_is_PgS bp cc sn A m (zPgS k) y _ (HS0.out.new_ (HB9.out)) HO.out (by omega) HH.out HY.out).mono ?_
      rintro e wg ⟨rfl,hbg⟩
      have HBg:=Lib.hid ((HB9.out).trans (hbg.mono (by have:=HB9.out.size;first | omega | (simp at this ⊢;done) | (simp at this ⊢;omega))))
      have HKg:=Lib.hid ((HK9.out).new_ hbg)
      clear hbg
      have hzg:=HBg.out.size
      refine hK9 _ _ (HBg.out) ?_
      clear hK9 K9
      try go_frame
      repeat ((first | (refine wpY_w ?_ (Or.inl ⟨by rfl,fun w9=>?_⟩) ?_;rotate_left 1;go_simp;with_reducible rfl) | (refine wpY_l ?_ (HBg.out) (Or.inl ⟨by rfl,fun w9 hw9=>?_⟩) ?_;rotate_left 1;obtain ⟨hc9,hf9⟩:=bcell hw9;go_simp;with_reducible rfl) | refine wpY_w undef (Or.inr ⟨by rfl,rfl⟩) ?_ | refine wpY_l undef (HBg.out) (Or.inr ⟨by rfl,rfl⟩) ?_);go_frame)
      refine wpY_es (fun K9 hK9=>?_)
      refine step_store_el rfl 224 _ _ rfl wa.heap.size 0 #[Value.int IntKind.i64 y.kk.kind,Value.string y.kk.text,Value.int IntKind.i64 y.kk.n,Value.int IntKind.i64 y.v] rfl rfl (show _ from (HKg.out).there) (by kernel_rfl) (by kernel_rfl) ?_
      refine hK9 _ _ (Below.setCells' _ _ (HBg.out) (by have:=(HBg.out).size;first | omega | (simp;done) | (simp;omega))) ?_
      clear hK9 K9
      try go_frame
      repeat ((first | (refine wpY_w ?_ (Or.inl ⟨by rfl,fun w9=>?_⟩) ?_;rotate_left 1;go_simp;with_reducible rfl) | (refine wpY_l ?_ (Below.setCells' _ _ (HBg.out) (by have:=(HBg.out).size;first | omega | (simp;done) | (simp;omega))) (Or.inl ⟨by rfl,fun w9 hw9=>?_⟩) ?_;rotate_left 1;obtain ⟨hc9,hf9⟩:=bcell hw9;go_simp;with_reducible rfl) | refine wpY_w undef (Or.inr ⟨by rfl,rfl⟩) ?_ | refine wpY_l undef (Below.setCells' _ _ (HBg.out) (by have:=(HBg.out).size;first | omega | (simp;done) | (simp;omega))) (Or.inr ⟨by rfl,rfl⟩) ?_);go_frame)
      refine wpY_nil ?_
      simp only [OnlyN_normal]
      refine hKK _ _ ?_
      clear hKK KK
      go_wp2_with fail
      go_meet
      case rel=>exact ⟨rfl,Below.setCells' _ _ (HBg.out) (by have:=(HBg.out).size;first | omega | (simp;done) | (simp;omega)),_,rfl,by first | exact hzg | exact hza | omega | simp,by first | (rw [size_setCells];exact (HKg.out).lt) | exact (HKg.out).lt,World.rangeAt_setCells_same _ _ 0 [Value.int IntKind.i64 y.kk.kind,Value.string y.kk.text,Value.int IntKind.i64 y.kk.n,Value.int IntKind.i64 y.v] (show _ from (HKg.out).there)⟩
  · refine wpOp_cs rfl (fun K9 hK9=>?_)
    go_simp
    have hB9:=((Below.refl W0.heap.size W0).drew).alloc (by first | omega | simp) (.cells #[Value.int IntKind.i64 0,Value.string ⟨#[]⟩,Value.int IntKind.i64 0,Value.int IntKind.i64 0] 224)
    have HB9:=Lib.hid hB9
    have hk9:Blk (W0.drew.alloc (.cells #[Value.int IntKind.i64 0,Value.string ⟨#[]⟩,Value.int IntKind.i64 0,Value.int IntKind.i64 0] 224)) W0.heap.size 224 #[Value.int IntKind.i64 0,Value.string ⟨#[]⟩,Value.int IntKind.i64 0,Value.int IntKind.i64 0]:=Blk.new W0.drew 224 #[Value.int IntKind.i64 0,Value.string ⟨#[]⟩,Value.int IntKind.i64 0,Value.int IntKind.i64 0]
    have HK9:=Lib.hid hk9
    clear hB9 hk9
    have hz9:=HB9.out.size
    refine hK9 _ _ (fun _=>HB9.out) ?_
    clear hK9 K9
    try go_frame
    try simp only [beside,List.filterMap_nil]
    refine wpY_es (fun K9 hK9=>?_)
    go_simp
    refine (bkat_PgS k _).mono ?_
    rintro e wa ⟨rfl,hba⟩
    have HBa:=Lib.hid ((HB9.out).trans (hba.mono (by have:=HB9.out.size;first | omega | (simp at this ⊢;done) | (simp at this ⊢;omega))))
    have HKa:=Lib.hid ((HK9.out).new_ hba)
    clear hba
    have hza:=HBa.out.size
    refine hK9 _ _ (HBa.out) ?_
    clear hK9 K9
    try go_frame
    refine wpY_es (fun K9 hK9=>?_)
    go_simp
    refine (get_is_PgS bp cc sn A m (zPgS k) y _ (HS0.out.new_ (HBa.out)) HO.out (by omega) HH.out HY.out).mono ?_
    rintro e wg ⟨rfl,hbg⟩
    have HBg:=Lib.hid ((HBa.out).trans (hbg.mono (by have:=HBa.out.size;first | omega | (simp;done) | (simp;omega))))
    have HKg:=Lib.hid ((HKa.out).new_ hbg)
    clear hbg
    have hzg:=HBg.out.size
    refine hK9 _ _ (HBg.out) ?_
    clear hK9 K9
    try go_frame
    repeat ((first | (refine wpY_w ?_ (Or.inl ⟨by rfl,fun w9=>?_⟩) ?_;rotate_left 1;go_simp;with_reducible rfl) | (refine wpY_l ?_ (HBg.out) (Or.inl ⟨by rfl,fun w9 hw9=>?_⟩) ?_;rotate_left 1;obtain ⟨hc9,hf9⟩:=bcell hw9;go_simp;with_reducible rfl) | refine wpY_w undef (Or.inr ⟨by rfl,rfl⟩) ?_ | refine wpY_l undef (HBg.out) (Or.inr ⟨by rfl,rfl⟩) ?_);go_frame)
    refine wpY_es (fun K9 hK9=>?_)
    refine step_store_el rfl 224 _ _ rfl W0.heap.size 0 #[Value.int IntKind.i64 y.kk.kind,Value.string y.kk.text,Value.int IntKind.i64 y.kk.n,Value.int IntKind.i64 y.v] rfl rfl (show _ from (HKg.out).there) (by kernel_rfl) (by kernel_rfl) ?_
    refine hK9 _ _ (Below.setCells' _ _ (HBg.out) (by have:=(HBg.out).size;first | omega | (simp;done) | (simp;omega))) ?_
    clear hK9 K9
    try go_frame
    repeat ((first | (refine wpY_w ?_ (Or.inl ⟨by rfl,fun w9=>?_⟩) ?_;rotate_left 1;go_simp;with_reducible rfl) | (refine wpY_l ?_ (Below.setCells' _ _ (HBg.out) (by have:=(HBg.out).size;first | omega | (simp;done) | (simp;omega))) (Or.inl ⟨by rfl,fun w9 hw9=>?_⟩) ?_;rotate_left 1;obtain ⟨hc9,hf9⟩:=bcell hw9;go_simp;with_reducible rfl) | refine wpY_w undef (Or.inr ⟨by rfl,rfl⟩) ?_ | refine wpY_l undef (Below.setCells' _ _ (HBg.out) (by have:=(HBg.out).size;first | omega | (simp;done) | (simp;omega))) (Or.inr ⟨by rfl,rfl⟩) ?_);go_frame)
    refine wpY_nil ?_
    simp only [OnlyN_normal]
    refine hKK _ _ ?_
    clear hKK KK
    go_wp2_with fail
    go_meet
    case rel=>exact ⟨rfl,Below.setCells' _ _ (HBg.out) (by have:=(HBg.out).size;first | omega | (simp;done) | (simp;omega)),_,rfl,by first | exact hzg | exact hza | omega | simp,by first | (rw [size_setCells];exact (HKg.out).lt) | exact (HKg.out).lt,World.rangeAt_setCells_same _ _ 0 [Value.int IntKind.i64 y.kk.kind,Value.string y.kk.text,Value.int IntKind.i64 y.kk.n,Value.int IntKind.i64 y.v] (show _ from (HKg.out).there)⟩
 case rest=>
  obtain ⟨rfl,hB,g,rfl,hg,hgl,hr⟩:=hcut
  have HB:=Lib.hid hB
  have g1:wc.cell? ⟨g,3,none⟩=some (.int .i64 y.v):=hr 3 _ rfl
  clear hB hr s1 k0 k1 k2
  go_wp2_with fail
  go_ret2
  exact ⟨rfl,HB0.out.trans (HB.out.mono (by omega))⟩
end Go.Proofs.YtldndkngpdfpfaaGreat
namespace Go.Proofs.YtldndkngpdfpfaaGreat
open Go.RowKit
theorem Moved.of_PgS {a b:World} (h:Below a.heap.size a b) {sn sn':Bool} {A A':Option Addr} (hm:Moved b sn A sn' A'):Moved a sn A sn' A':=
 hm.imp id (fun ⟨h1,g,h2,h3⟩=>⟨h1,g,by have:=h.size;omega,h3⟩)
set_option maxRecDepth 100000 in
set_option maxHeartbeats 16000000 in
theorem bkput_PgS (bm bp cc:Nat) (sn:Bool) (A:Option Addr) (m:List PgS) (k:Sym) (xv:Int) (w:World) (hM:Blk w bm 226 #[.pointer (some ⟨bp,0,none⟩)]) (hS:PgSSet w bp sn A cc m) (hs:Srt cmpPgS m) (hl:(m.length:Int)≤1000000) (hh:has cmpPgS m (zPgS k)=false) :
 Calls Tryz.prog 145 #[.pointer (some ⟨bm,0,none⟩),.agg #[.int .i64 k.kind,.string k.text,.int .i64 k.n],.int .i64 xv] w fun e w'=>e = .returned (.bool true)∧∃sn' A' c',PgSSet w' bp sn' A' c' (put cmpPgS m ⟨k,xv⟩)∧Fr (SetMod bp sn A) w w'∧Moved w sn A sn' A':=by
 have hh0:has cmpPgS m ⟨k,xv⟩=false:=hh
 have s0:=hM.c1
 have hml:=hM.lt
 have HS:=Lib.hid hS
 have HO:=Lib.hid hs
 have HM:=Lib.hid hM
 have HH:=Lib.hid hh
 have HH0:=Lib.hid hh0
 clear hS hs hM hh hh0
 go_enter Tryz.func145,Tryz.ntmps145
 go_upto_region 3 with (fail)
 obtain ⟨W0,hW0⟩ : ∃W0,W0=w.alloc (.cells #[.int .i64 k.kind,.string k.text,.int .i64 k.n] 23):=⟨_,rfl⟩
 have hB0:Below w.heap.size w W0:=by rw [hW0];exact (Below.refl _ _).alloc (Nat.le_refl _) _
 have hbx:Blk W0 w.heap.size 23 #[.int .i64 k.kind,.string k.text,.int .i64 k.n]:=by rw [hW0];exact Blk.new _ _ _
 have hz0:w.heap.size<W0.heap.size:=hbx.lt
 rw [← hW0]
 clear hW0
 have s1:=(hB0.cell (p:=⟨bm,0,none⟩) hml).trans s0
 clear s0
 obtain ⟨k0,k1,k2⟩:=hbx.c3
 have HS0:=Lib.hid (HS.out.new_ hB0)
 have HM0:=Lib.hid (HM.out.new_ hB0)
 have HX0:=Lib.hid hbx
 have HB0:=Lib.hid hB0
 have hml0:bm<W0.heap.size:=by omega
 clear hB0 hbx HS HM
 go_cut [8] from 11 (fun b wc=>b = .bool false∧Below W0.heap.size W0 wc)
 case first=>
  refine wp_region_Pl (fun w9=>Below W0.heap.size W0 w9) [0,1,2,3,4,7,8,9,12] [3,4] (.fork [(0,0),(1,0),(2,0),(3,1),(4,1)] 5 (.fork [] 6 (.fin [(7,0),(8,0),(9,0),(10,2),(11,2),(12,0)]) 10 (.fin [(6,2),(7,0),(8,0),(9,0),(11,2),(12,0)])) 10 (.fin [(5,2),(6,2),(7,0),(8,0),(9,0),(11,2),(12,0)])) (by kernel_rfl) (by kernel_rfl) (by kernel_rfl) (fun KK hKK=>?_)
  simp only [wpPl,beside,List.filterMap_cons,List.filterMap_nil,List.getElem?_toArray,List.getElem?_cons_zero,List.getElem?_cons_succ,Option.map_some]
  repeat ((first | (refine wpY_w ?_ (Or.inl ⟨by rfl,fun w9=>?_⟩) ?_;rotate_left 1;go_simp;with_reducible rfl) | (refine wpY_l ?_ ((Below.refl _ _).drew) (Or.inl ⟨by rfl,fun w9 hw9=>?_⟩) ?_;rotate_left 1;obtain ⟨hc9,hf9⟩:=bcell hw9;go_simp;with_reducible rfl) | refine wpY_w undef (Or.inr ⟨by rfl,rfl⟩) ?_ | refine wpY_l undef ((Below.refl _ _).drew) (Or.inr ⟨by rfl,rfl⟩) ?_);go_frame)
  refine wpY_nil ⟨?_,?_⟩
  · refine wpOp_cs rfl (fun K9 hK9=>?_)
    go_simp
    refine (bkat_PgS k _).mono ?_
    rintro e wa ⟨rfl,hba⟩
    have HBa:=Lib.hid (((Below.refl W0.heap.size W0).drew).trans (hba.mono (by first | omega | simp)))
    clear hba
    have hza:=HBa.out.size
    refine hK9 _ _ (fun _=>HBa.out) ?_
    clear hK9 K9
    try go_frame
    try simp only [beside,List.filterMap_nil]
    refine wpY_nil ⟨?_,?_⟩
    · refine wpOp_cs rfl (fun K9 hK9=>?_)
      go_simp
      refine (get_no_PgS bp cc sn A m (zPgS k) _ (HS0.out.new_ (HBa.out)) HO.out (by omega) HH.out).mono ?_
      rintro e wg ⟨rfl,hbg⟩
      have HBg:=Lib.hid ((HBa.out).trans (hbg.mono (by have:=HBa.out.size;first | omega | (simp;done) | (simp;omega))))
      clear hbg
      have hzg:=HBg.out.size
      refine hK9 _ _ (fun _=>HBg.out) ?_
      clear hK9 K9
      try go_frame
      try simp only [beside,List.filterMap_nil]
      repeat ((first | (refine wpY_w ?_ (Or.inl ⟨by rfl,fun w9=>?_⟩) ?_;rotate_left 1;go_simp;with_reducible rfl) | (refine wpY_l ?_ (HBg.out) (Or.inl ⟨by rfl,fun w9 hw9=>?_⟩) ?_;rotate_left 1;obtain ⟨hc9,hf9⟩:=bcell hw9;go_simp;with_reducible rfl) | refine wpY_w undef (Or.inr ⟨by rfl,rfl⟩) ?_ | refine wpY_l undef (HBg.out) (Or.inr ⟨by rfl,rfl⟩) ?_);go_frame)
      refine wpY_es (fun K9 hK9=>?_)
      go_simp
      have hB9:=(HBg.out).alloc (by have:=HBg.out.size;first | omega | (simp;done) | (simp;omega)) (.cells #[Value.int IntKind.i64 0,Value.string ⟨#[]⟩,Value.int IntKind.i64 0,Value.int IntKind.i64 0] 224)
      have HB9:=Lib.hid hB9
      have hk9:Blk (wg.alloc (.cells #[Value.int IntKind.i64 0,Value.string ⟨#[]⟩,Value.int IntKind.i64 0,Value.int IntKind.i64 0] 224)) wg.heap.size 224 #[Value.int IntKind.i64 0,Value.string ⟨#[]⟩,Value.int IntKind.i64 0,Value.int IntKind.i64 0]:=Blk.new wg 224 #[Value.int IntKind.i64 0,Value.string ⟨#[]⟩,Value.int IntKind.i64 0,Value.int IntKind.i64 0]
      have HK9:=Lib.hid hk9
      clear hB9 hk9
      have hz9:=HB9.out.size
      refine hK9 _ _ (HB9.out) ?_
      clear hK9 K9
      try go_frame
      refine wpY_es (fun K9 hK9=>?_)
      refine step_store_el rfl 224 _ _ rfl wg.heap.size 0 #[Value.int IntKind.i64 0,Value.string ⟨#[]⟩,Value.int IntKind.i64 0,Value.int IntKind.i64 0] rfl rfl (show _ from (HK9.out).there) (by kernel_rfl) (by kernel_rfl) ?_
      refine hK9 _ _ (Below.setCells' _ _ (HB9.out) (by have:=(HB9.out).size;first | omega | (simp;done) | (simp;omega))) ?_
      clear hK9 K9
      try go_frame
      repeat ((first | (refine wpY_w ?_ (Or.inl ⟨by rfl,fun w9=>?_⟩) ?_;rotate_left 1;go_simp;with_reducible rfl) | (refine wpY_l ?_ (Below.setCells' _ _ (HB9.out) (by have:=(HB9.out).size;first | omega | (simp;done) | (simp;omega))) (Or.inl ⟨by rfl,fun w9 hw9=>?_⟩) ?_;rotate_left 1;obtain ⟨hc9,hf9⟩:=bcell hw9;go_simp;with_reducible rfl) | refine wpY_w undef (Or.inr ⟨by rfl,rfl⟩) ?_ | refine wpY_l undef (Below.setCells' _ _ (HB9.out) (by have:=(HB9.out).size;first | omega | (simp;done) | (simp;omega))) (Or.inr ⟨by rfl,rfl⟩) ?_);go_frame)
      refine wpY_nil ?_
      simp only [OnlyN_normal]
      refine hKK _ _ ?_
      clear hKK KK
      go_wp2_with fail
      go_meet
      case rel=>exact ⟨rfl,Below.setCells' _ _ (HB9.out) (by have:=(HB9.out).size;first | omega | (simp;done) | (simp;omega))⟩
    · refine wpOp_cs rfl (fun K9 hK9=>?_)
      go_simp
      have hB9:=(HBa.out).alloc (by have:=HBa.out.size;first | omega | (simp;done) | (simp;omega)) (.cells #[Value.int IntKind.i64 0,Value.string ⟨#[]⟩,Value.int IntKind.i64 0,Value.int IntKind.i64 0] 224)
      have HB9:=Lib.hid hB9
      have hk9:Blk (wa.alloc (.cells #[Value.int IntKind.i64 0,Value.string ⟨#[]⟩,Value.int IntKind.i64 0,Value.int IntKind.i64 0] 224)) wa.heap.size 224 #[Value.int IntKind.i64 0,Value.string ⟨#[]⟩,Value.int IntKind.i64 0,Value.int IntKind.i64 0]:=Blk.new wa 224 #[Value.int IntKind.i64 0,Value.string ⟨#[]⟩,Value.int IntKind.i64 0,Value.int IntKind.i64 0]
      have HK9:=Lib.hid hk9
      clear hB9 hk9
      have hz9:=HB9.out.size
      refine hK9 _ _ (fun _=>HB9.out) ?_
      clear hK9 K9
      try go_frame
      try simp only [beside,List.filterMap_nil]
      refine wpY_es (fun K9 hK9=>?_)
      go_simp
      refine (get_no_PgS bp cc sn A m (zPgS k) _ (HS0.out.new_ (HB9.out)) HO.out (by omega) HH.out).mono ?_
      rintro e wg ⟨rfl,hbg⟩
      have HBg:=Lib.hid ((HB9.out).trans (hbg.mono (by have:=HB9.out.size;first | omega | (simp at this ⊢;done) | (simp at this ⊢;omega))))
      have HKg:=Lib.hid ((HK9.out).new_ hbg)
      clear hbg
      have hzg:=HBg.out.size
      refine hK9 _ _ (HBg.out) ?_
      clear hK9 K9
      try go_frame
      repeat ((first | (refine wpY_w ?_ (Or.inl ⟨by rfl,fun w9=>?_⟩) ?_;rotate_left 1;go_simp;with_reducible rfl) | (refine wpY_l ?_ (HBg.out) (Or.inl ⟨by rfl,fun w9 hw9=>?_⟩) ?_;rotate_left 1;obtain ⟨hc9,hf9⟩:=bcell hw9;go_simp;with_reducible rfl) | refine wpY_w undef (Or.inr ⟨by rfl,rfl⟩) ?_ | refine wpY_l undef (HBg.out) (Or.inr ⟨by rfl,rfl⟩) ?_);go_frame)
      refine wpY_es (fun K9 hK9=>?_)
      refine step_store_el rfl 224 _ _ rfl wa.heap.size 0 #[Value.int IntKind.i64 0,Value.string ⟨#[]⟩,Value.int IntKind.i64 0,Value.int IntKind.i64 0] rfl rfl (show _ from (HKg.out).there) (by kernel_rfl) (by kernel_rfl) ?_
      refine hK9 _ _ (Below.setCells' _ _ (HBg.out) (by have:=(HBg.out).size;first | omega | (simp;done) | (simp;omega))) ?_
      clear hK9 K9
      try go_frame
      repeat ((first | (refine wpY_w ?_ (Or.inl ⟨by rfl,fun w9=>?_⟩) ?_;rotate_left 1;go_simp;with_reducible rfl) | (refine wpY_l ?_ (Below.setCells' _ _ (HBg.out) (by have:=(HBg.out).size;first | omega | (simp;done) | (simp;omega))) (Or.inl ⟨by rfl,fun w9 hw9=>?_⟩) ?_;rotate_left 1;obtain ⟨hc9,hf9⟩:=bcell hw9;go_simp;with_reducible rfl) | refine wpY_w undef (Or.inr ⟨by rfl,rfl⟩) ?_ | refine wpY_l undef (Below.setCells' _ _ (HBg.out) (by have:=(HBg.out).size;first | omega | (simp;done) | (simp;omega))) (Or.inr ⟨by rfl,rfl⟩) ?_);go_frame)
      refine wpY_nil ?_
      simp only [OnlyN_normal]
      refine hKK _ _ ?_
      clear hKK KK
      go_wp2_with fail
      go_meet
      case rel=>exact ⟨rfl,Below.setCells' _ _ (HBg.out) (by have:=(HBg.out).size;first | omega | (simp;done) | (simp;omega))⟩
  · refine wpOp_cs rfl (fun K9 hK9=>?_)
    go_simp
    have hB9:=((Below.refl W0.heap.size W0).drew).alloc (by first | omega | simp) (.cells #[Value.int IntKind.i64 0,Value.string ⟨#[]⟩,Value.int IntKind.i64 0,Value.int IntKind.i64 0] 224)
    have HB9:=Lib.hid hB9
    have hk9:Blk (W0.drew.alloc (.cells #[Value.int IntKind.i64 0,Value.string ⟨#[]⟩,Value.int IntKind.i64 0,Value.int IntKind.i64 0] 224)) W0.heap.size 224 #[Value.int IntKind.i64 0,Value.string ⟨#[]⟩,Value.int IntKind.i64 0,Value.int IntKind.i64 0]:=Blk.new W0.drew 224 #[Value.int IntKind.i64 0,Value.string ⟨#[]⟩,Value.int IntKind.i64 0,Value.int IntKind.i64 0]
    have HK9:=Lib.hid hk9
    clear hB9 hk9
    have hz9:=HB9.out.size
    refine hK9 _ _ (fun _=>HB9.out) ?_
    clear hK9 K9
    try go_frame
    try simp only [beside,List.filterMap_nil]
    refine wpY_es (fun K9 hK9=>?_)
    go_simp
    refine (bkat_PgS k _).mono ?_
    rintro e wa ⟨rfl,hba⟩
    have HBa:=Lib.hid ((HB9.out).trans (hba.mono (by have:=HB9.out.size;first | omega | (simp at this ⊢;done) | (simp at this ⊢;omega))))
    have HKa:=Lib.hid ((HK9.out).new_ hba)
    clear hba
    have hza:=HBa.out.size
    refine hK9 _ _ (HBa.out) ?_
    clear hK9 K9
    try go_frame
    refine wpY_es (fun K9 hK9=>?_)
    go_simp
    refine (get_no_PgS bp cc sn A m (zPgS k) _ (HS0.out.new_ (HBa.out)) HO.out (by omega) HH.out).mono ?_
    rintro e wg ⟨rfl,hbg⟩
    have HBg:=Lib.hid ((HBa.out).trans (hbg.mono (by have:=HBa.out.size;first | omega | (simp;done) | (simp;omega))))
    have HKg:=Lib.hid ((HKa.out).new_ hbg)
    clear hbg
    have hzg:=HBg.out.size
    refine hK9 _ _ (HBg.out) ?_
    clear hK9 K9
    try go_frame
    repeat ((first | (refine wpY_w ?_ (Or.inl ⟨by rfl,fun w9=>?_⟩) ?_;rotate_left 1;go_simp;with_reducible rfl) | (refine wpY_l ?_ (HBg.out) (Or.inl ⟨by rfl,fun w9 hw9=>?_⟩) ?_;rotate_left 1;obtain ⟨hc9,hf9⟩:=bcell hw9;go_simp;with_reducible rfl) | refine wpY_w undef (Or.inr ⟨by rfl,rfl⟩) ?_ | refine wpY_l undef (HBg.out) (Or.inr ⟨by rfl,rfl⟩) ?_);go_frame)
    refine wpY_es (fun K9 hK9=>?_)
    refine step_store_el rfl 224 _ _ rfl W0.heap.size 0 #[Value.int IntKind.i64 0,Value.string ⟨#[]⟩,Value.int IntKind.i64 0,Value.int IntKind.i64 0] rfl rfl (show _ from (HKg.out).there) (by kernel_rfl) (by kernel_rfl) ?_
    refine hK9 _ _ (Below.setCells' _ _ (HBg.out) (by have:=(HBg.out).size;first | omega | (simp;done) | (simp;omega))) ?_
    clear hK9 K9
    try go_frame
    repeat ((first | (refine wpY_w ?_ (Or.inl ⟨by rfl,fun w9=>?_⟩) ?_;rotate_left 1;go_simp;with_reducible rfl) | (refine wpY_l ?_ (Below.setCells' _ _ (HBg.out) (by have:=(HBg.out).size;first | omega | (simp;done) | (simp;omega))) (Or.inl ⟨by rfl,fun w9 hw9=>?_⟩) ?_;rotate_left 1;obtain ⟨hc9,hf9⟩:=bcell hw9;go_simp;with_reducible rfl) | refine wpY_w undef (Or.inr ⟨by rfl,rfl⟩) ?_ | refine wpY_l undef (Below.setCells' _ _ (HBg.out) (by have:=(HBg.out).size;first | omega | (simp;done) | (simp;omega))) (Or.inr ⟨by rfl,rfl⟩) ?_);go_frame)
    refine wpY_nil ?_
    simp only [OnlyN_normal]
    refine hKK _ _ ?_
    clear hKK KK
    go_wp2_with fail
    go_meet
    case rel=>exact ⟨rfl,Below.setCells' _ _ (HBg.out) (by have:=(HBg.out).size;first | omega | (simp;done) | (simp;omega))⟩
 case rest=>
  obtain ⟨rfl,hB⟩:=hcut
  have r0:=(HM0.out.new_ hB).c1
  have hX:=HX0.out.new_ hB
  have hml2:=(HM0.out.new_ hB).lt
  have hxl2:=hX.lt
  have HB:=Lib.hid hB
  have HS2:=Lib.hid (HS0.out.new_ hB)
  clear s1 k0 k1 k2
  obtain ⟨k0,k1,k2⟩:=hX.c3
  clear hB hX
  go_wp2_with fail
  refine wp_region_E (fun w9=>Below wc.heap.size wc w9) [(0,0),(1,0),(2,0),(3,1),(4,1),(5,0),(6,0),(7,2),(8,0)] (by kernel_rfl) (by kernel_rfl) (fun KK hKK=>?_)
  simp only [beside,List.filterMap_cons,List.filterMap_nil,List.getElem?_toArray,List.getElem?_cons_zero,List.getElem?_cons_succ,Option.map_some]
  repeat ((first | (refine wpX_w ?_ (Or.inl ⟨by rfl,fun w9=>?_⟩) ?_;rotate_left 1;go_simp;with_reducible rfl) | (refine wpX_l ?_ (((Below.refl _ _).drew)) (Or.inl ⟨by rfl,fun w9 hw9=>?_⟩) ?_;rotate_left 1;obtain ⟨hc9,hf9⟩:=bcell hw9;go_simp;with_reducible rfl) | refine wpX_w undef (Or.inr ⟨by rfl,rfl⟩) ?_ | refine wpX_l undef (((Below.refl _ _).drew)) (Or.inr ⟨by rfl,rfl⟩) ?_);go_frame)
  refine wpX_e (by kernel_rfl) (fun K9 hK9=>?_)
  go_simp
  refine (put_PgS bp cc sn A m ⟨k,xv⟩ _ (HS2.out.new_ ((Below.refl _ _).drew)) HO.out (by omega)).mono ?_
  rintro e w5 ⟨rfl,hch⟩
  have HP:=Lib.hid hch
  clear hch
  refine hK9 _ _ ?_
  clear hK9 K9
  repeat ((first | (refine wpX_w ?_ (Or.inl ⟨by rfl,fun w9=>?_⟩) ?_;rotate_left 1;go_simp;with_reducible rfl) | (refine wpX_l ?_ (((Below.refl _ _).drew)) (Or.inl ⟨by rfl,fun w9 hw9=>?_⟩) ?_;rotate_left 1;obtain ⟨hc9,hf9⟩:=bcell hw9;go_simp;with_reducible rfl) | refine wpX_w undef (Or.inr ⟨by rfl,rfl⟩) ?_ | refine wpX_l undef (((Below.refl _ _).drew)) (Or.inr ⟨by rfl,rfl⟩) ?_);go_frame)
  refine wpX_nil ?_
  simp only [OnlyN_normal]
  refine hKK _ _ ?_
  clear hKK KK
  go_wp2_with fail
  go_ret
  have hBB:Below w.heap.size w wc:=HB0.out.trans (HB.out.mono (by omega))
  obtain ⟨sn',A',c',g1,g2,g3⟩:=HP.out
  refine ⟨by rw [HH0.out]<;>rfl,sn',A',c',g1,(Fr.of_new hBB).trans ((Fr.refl _ wc).drew.trans g2),Moved.of_PgS hBB g3⟩
end Go.Proofs.YtldndkngpdfpfaaGreat
namespace Go.Proofs.YtldndkngpdfpfaaGreat
open Go.RowKit Go.Shelf
attribute [local go_sem] Oper.semAt_some
theorem plV_nodup : ∀{ns:List Sym},ns.Nodup→∀{i:Nat} {s:Sym},ns[i]? = some s→plV ns s=i+1
 | [],_,i,s,h=>by simp at h
 | x :: l,hn,0,s,h=>by rw [plV,if_pos (by simpa using h)]
 | x :: l,hn,i+1,s,h=>by
   obtain ⟨h1,h2⟩:=List.nodup_cons.1 hn
   have e2:l[i]? = some s:=by simpa using h
   have hne:x≠s:=fun e=>h1 (by rw [e];exact List.mem_of_getElem? e2)
   have ih:=plV_nodup h2 e2
   rw [plV,if_neg hne,ih,if_neg (by omega)]
structure MapN (mm:List PgS) (ns:List Sym):Prop where
 srt:Srt cmpPgS mm
 len:mm.length=ns.length
 nodup:ns.Nodup
 mem : ∀y,y∈mm↔∃i:Nat,ns[i]? = some y.kk∧y.v=(i:Int)+1
theorem MapN.nil:MapN [] []:=⟨Srt.nil,rfl,.nil,fun y=>by simp⟩
theorem MapN.has {mm:List PgS} {ns:List Sym} (h:MapN mm ns) (s:Sym) (z:Int):has cmpPgS mm ⟨s,z⟩=decide (s∈ns):=by
 by_cases hv:s∈ns
 · rw [decide_eq_true hv,has_iff]
   obtain ⟨i,hi,e⟩:=List.getElem_of_mem hv
   exact ⟨⟨s,(i:Int)+1⟩,(h.mem _).2 ⟨i,by rw [List.getElem?_eq_getElem hi,e],rfl⟩,cmpPgS_eq.2 rfl⟩
 · rw [decide_eq_false hv,has_false]
   intro y hy e
   obtain ⟨i,hi,_⟩:=(h.mem y).1 hy
   have e3:y.kk=s:=cmpPgS_eq.1 e
   exact hv (by rw [← e3];exact List.mem_of_getElem? hi)
theorem MapN.get {mm:List PgS} {ns:List Sym} (h:MapN mm ns) {s:Sym} {z:Int} (hv:s∈ns) : ∃y,mm[rank cmpPgS mm ⟨s,z⟩]? = some y∧y.v=(plV ns s:Int):=by
 have hh:Go.Proofs.YtldndkngpdfpfaaGreat.has cmpPgS mm ⟨s,z⟩=true:=by rw [h.has,decide_eq_true hv]
 obtain ⟨_,_,hk,e⟩:=drop_eq tc_pgs h.srt hh
 refine ⟨_,List.getElem?_eq_getElem hk,?_⟩
 obtain ⟨i,hi,e2⟩:=(h.mem _).1 (List.getElem_mem hk)
 have e3:_=s:=cmpPgS_eq.1 e
 rw [e3] at hi
 rw [e2,plV_nodup h.nodup hi]
 omega
theorem MapN.put {mm:List PgS} {ns:List Sym} (h:MapN mm ns) {s:Sym} (hv : ¬s∈ns):MapN (put cmpPgS mm ⟨s,(ns.length:Int)+1⟩) (ns ++ [s]):=by
 have hh:Go.Proofs.YtldndkngpdfpfaaGreat.has cmpPgS mm ⟨s,(ns.length:Int)+1⟩=false:=by rw [h.has,decide_eq_false hv]
 refine ⟨h.srt.put tc_pgs _,by rw [length_put tc_pgs h.srt hh,h.len];simp,List.nodup_append.2 ⟨h.nodup,by simp,fun a ha b hb=>by rw [List.mem_singleton.1 hb];exact fun e=>hv (e ▸ ha)⟩,fun y=>?_⟩
 have hm:y∈Go.Proofs.YtldndkngpdfpfaaGreat.put cmpPgS mm ⟨s,(ns.length:Int)+1⟩↔y=⟨s,(ns.length:Int)+1⟩∨y∈mm:=by
  rw [put_eq tc_pgs h.srt hh,List.mem_append,List.mem_cons]
  constructor
  · rintro (g | g | g)
    · exact .inr (List.mem_of_mem_take g)
    · exact .inl g
    · exact .inr (List.mem_of_mem_drop g)
  · rintro (g | g)
    · exact .inr (.inl g)
    · rw [← List.take_append_drop (rank cmpPgS mm ⟨s,(ns.length:Int)+1⟩) mm,List.mem_append] at g
      exact g.elim .inl (fun g=>.inr (.inr g))
 rw [hm,h.mem y]
 constructor
 · rintro (e | ⟨i,hi,e⟩)
   · subst e
     exact ⟨ns.length,by simp,rfl⟩
   · have hl:i<ns.length:=(List.getElem?_eq_some_iff.1 hi).1
     exact ⟨i,by rw [List.getElem?_append_left hl];exact hi,e⟩
 · rintro ⟨i,hi,e⟩
   by_cases hl:i<ns.length
   · exact .inr ⟨i,by rwa [List.getElem?_append_left hl] at hi,e⟩
   · have hi2:i=ns.length:=by
      have:=(List.getElem?_eq_some_iff.1 hi).1
      simp at this;omega
     subst hi2
     rw [List.getElem?_append_right (Nat.le_refl _)] at hi
     simp at hi
     obtain ⟨yk,yv⟩:=y
     simp only at hi e
     subst hi;subst e
     exact .inl rfl
theorem own_own_ne {w:World} {b1 b2:Nat} {e1 e2:TypeId} {s1 s2 n m k:Nat} {v u:Value} {xs ys:List Value} (h1:w.ownsRow b1 e1 s1 v n xs) (h2:w.ownsRow b2 e2 s2 u m ys) (hne:e1≠e2) (hk:v.ownBlock=some k):u.ownBlock≠some k:=by
 rcases h2.2 with ⟨rfl,_⟩ | ⟨g,cap,cur,rfl,_,hg,_⟩
 · simp [Value.ownBlock]
 · intro e
   have:g=k:=by simpa [Value.ownBlock] using e
   subst this
   exact own_blk_ne h1 (show Blk w g e2 cur from hg) hne hk
structure NM (D:Nat→Prop) (w:World) (nb:Nat) (ns:List Sym) (bm bp:Nat) (sn:Bool) (A:Option Addr) (cc:Nat) (mm:List PgS) (L:Option Addr) (cl:Nat):Prop where
 blk:Blk w nb 148 #[.pointer (some ⟨bm,0,none⟩),.slice L ns.length cl]
 map:Blk w bm 226 #[.pointer (some ⟨bp,0,none⟩)]
 set:PgSSet w bp sn A cc mm
 ok:MapN mm ns
 row:w.ownsRow 0 23 3 (.slice L ns.length cl) ns.length (ns.flatMap Sym.cells)
 dn:D nb
 dm:D bm
 dp:D bp
 da:AIn A D
 dl:AIn L D
 lt : ∀k,D k→k<w.heap.size
def Nm (D:Nat→Prop) (w:World) (nb:Nat) (ns:List Sym):Prop:=∃bm bp sn A cc mm L cl,NM D w nb ns bm bp sn A cc mm L cl
section
variable {D:Nat→Prop} {w w':World} {nb:Nat} {ns:List Sym} {bm bp:Nat} {sn:Bool} {A:Option Addr} {cc:Nat} {mm:List PgS} {L:Option Addr} {cl:Nat}
theorem NM.new_ (h:NM D w nb ns bm bp sn A cc mm L cl) (hb:Below w.heap.size w w'):NM D w' nb ns bm bp sn A cc mm L cl:=
 ⟨h.blk.new_ hb,h.map.new_ hb,h.set.new_ hb,h.ok,ownsRow_new h.row hb,h.dn,h.dm,h.dp,h.da,h.dl,fun k hk=>Nat.lt_of_lt_of_le (h.lt k hk) hb.size⟩
theorem Nm.new_ (h:Nm D w nb ns) (hb:Below w.heap.size w w'):Nm D w' nb ns:=by
 obtain ⟨bm,bp,sn,A,cc,mm,L,cl,h⟩:=h
 exact ⟨bm,bp,sn,A,cc,mm,L,cl,h.new_ hb⟩
theorem NM.fr {M:Nat→Prop} (h:NM D w nb ns bm bp sn A cc mm L cl) (hF:Fr M w w') (hM : ∀k,D k→¬M k):NM D w' nb ns bm bp sn A cc mm L cl:=by
 refine ⟨h.blk.fr hF (hM _ h.dn),h.map.fr hF (hM _ h.dm),h.set.fr hF (hM _ h.dp) (h.da.mono hM),h.ok,⟨h.row.1,h.row.2.imp id fun ⟨g,cap,cur,hv,h0,hg,hr⟩=>⟨g,cap,cur,hv,h0,?_,hr⟩⟩,h.dn,h.dm,h.dp,h.da,h.dl,fun k hk=>Nat.lt_of_lt_of_le (h.lt k hk) hF.size⟩
 injection hv with hv
 exact Blk.fr (t:=23) hg hF (hM _ (h.dl ⟨g,0,none⟩ hv))
theorem Nm.fr {M:Nat→Prop} (h:Nm D w nb ns) (hF:Fr M w w') (hM : ∀k,D k→¬M k):Nm D w' nb ns:=by
 obtain ⟨bm,bp,sn,A,cc,mm,L,cl,h⟩:=h
 exact ⟨bm,bp,sn,A,cc,mm,L,cl,h.fr hF hM⟩
theorem Nm.lt (h:Nm D w nb ns) : ∀k,D k→k<w.heap.size:=by
 obtain ⟨bm,bp,sn,A,cc,mm,L,cl,h⟩:=h
 exact h.lt
theorem Nm.nodup (h:Nm D w nb ns):ns.Nodup:=by
 obtain ⟨bm,bp,sn,A,cc,mm,L,cl,h⟩:=h
 exact h.ok.nodup
theorem Nm.dn (h:Nm D w nb ns):D nb:=by
 obtain ⟨bm,bp,sn,A,cc,mm,L,cl,h⟩:=h
 exact h.dn
end
theorem mapn_get {mm:List PgS} {ns:List Sym} {bm bp cc:Nat} {sn:Bool} {A:Option Addr} (s:Sym) (w:World) (h1:Blk w bm 226 #[.pointer (some ⟨bp,0,none⟩)]) (h2:PgSSet w bp sn A cc mm) (h3:MapN mm ns) (hl:ns.length≤1000000) :
 Calls Tryz.prog 103 #[.pointer (some ⟨bm,0,none⟩),.agg #[.int .i64 s.kind,.string s.text,.int .i64 s.n]] w fun e w'=>e = .returned (.tuple #[.int .i64 (plV ns s:Int),.bool (decide (s∈ns))])∧Below w.heap.size w w':=by
 have hlm:(mm.length:Int)≤1000000:=by rw [h3.len];omega
 by_cases hv:s∈ns
 · obtain ⟨y,g1,g2⟩:=h3.get (z:=0) hv
   have:=bkget_is_PgS bm bp cc sn A mm s y w h1 h2 h3.srt hlm (by rw [h3.has,decide_eq_true hv]) g1
   rw [g2] at this
   rw [decide_eq_true hv]
   exact this
 · have:=bkget_no_PgS bm bp cc sn A mm s w h1 h2 h3.srt hlm (by rw [h3.has,decide_eq_false hv])
   rw [decide_eq_false hv,plV_zero.2 hv]
   exact this
set_option maxRecDepth 100000 in
set_option maxHeartbeats 4000000 in
theorem place_is {D:Nat→Prop} {nb:Nat} {ns:List Sym} (s:Sym) (w:World) (h:Nm D w nb ns) (hl:ns.length≤100000):Calls Tryz.prog 62 #[.pointer (some ⟨nb,0,none⟩),.agg #[.int .i64 s.kind,.string s.text,.int .i64 s.n]] w fun e w'=>e = .returned (.int .i64 (plV ns s:Int))∧Below w.heap.size w w':=by
 obtain ⟨bm,bp,sn,A,cc,mm,L,cl,h⟩:=h
 have HG:=Lib.hid (show ∀W,Below w.heap.size w W→_ from fun W hW=>mapn_get s W (h.map.new_ hW) (h.set.new_ hW) h.ok (by omega))
 have m0:=(h.blk.cell 0).trans rfl
 have mz:=h.blk.lt
 obtain ⟨r,hr⟩ : ∃r,r=(plV ns s:Int):=⟨_,rfl⟩
 obtain ⟨b,hb0⟩ : ∃b,b=decide (s∈ns):=⟨_,rfl⟩
 rw [← hr,← hb0] at HG
 rw [← hr]
 clear h hr hb0 hl
 go_enter Tryz.func62,Tryz.ntmps62
 go_upto_region 1 with fail
 obtain ⟨w1,hw1⟩ : ∃w1,w1=w.alloc (.cells #[.int .i64 s.kind,.string s.text,.int .i64 s.n] 23):=⟨_,rfl⟩
 have HB:=Lib.hid (show Below w.heap.size w w1 by rw [hw1];exact (Below.refl _ _).alloc (Nat.le_refl _) _)
 have hk:=show Blk w1 w.heap.size 23 #[.int .i64 s.kind,.string s.text,.int .i64 s.n] by rw [hw1];exact Blk.new _ _ _
 rw [← hw1]
 clear hw1
 obtain ⟨k0,k1,k2⟩:=hk.c3
 have kz:=hk.lt
 have m1:=(HB.out.cell (p:=⟨nb,0,none⟩) mz).trans m0
 have mz1:=Nat.lt_of_lt_of_le mz HB.out.size
 clear hk m0
 refine wp_region_E (fun w9=>Below w1.heap.size w1 w9) [(0,0),(1,0),(2,0),(3,1),(4,1),(5,2),(6,0),(7,0),(8,0),(9,0),(10,0)] (by kernel_rfl) (by kernel_rfl) (fun KK hKK=>?_)
 simp only [beside,List.filterMap_cons,List.filterMap_nil,List.getElem?_toArray,List.getElem?_cons_zero,List.getElem?_cons_succ,Option.map_some]
 repeat ((first | (refine wpX_w ?_ (Or.inl ⟨by rfl,fun w9=>?_⟩) ?_;rotate_left 1;go_simp;with_reducible rfl) | (refine wpX_l ?_ (((Below.refl _ _).drew)) (Or.inl ⟨by rfl,fun w9 hw9=>?_⟩) ?_;rotate_left 1;obtain ⟨hc9,hf9⟩:=bcell hw9;go_simp;with_reducible rfl) | refine wpX_w undef (Or.inr ⟨by rfl,rfl⟩) ?_ | refine wpX_l undef (((Below.refl _ _).drew)) (Or.inr ⟨by rfl,rfl⟩) ?_);go_frame)
 refine wpX_e (by kernel_rfl) (fun K9 hK9=>?_)
 go_simp
 refine (HG.out _ (HB.out.trans (((Below.refl w1.heap.size w1).drew).mono HB.out.size))).mono ?_
 rintro e w31 ⟨rfl,hb31⟩
 have HB31:=Lib.hid (((Below.refl w1.heap.size w1).drew).trans (hb31.mono (by simp)))
 clear hb31
 refine hK9 _ _ ?_
 clear hK9 K9
 repeat ((first | (refine wpX_w ?_ (Or.inl ⟨by rfl,fun w9=>?_⟩) ?_;rotate_left 1;go_simp;with_reducible rfl) | (refine wpX_l ?_ (((Below.refl _ _).drew)) (Or.inl ⟨by rfl,fun w9 hw9=>?_⟩) ?_;rotate_left 1;obtain ⟨hc9,hf9⟩:=bcell hw9;go_simp;with_reducible rfl) | refine wpX_w undef (Or.inr ⟨by rfl,rfl⟩) ?_ | refine wpX_l undef (((Below.refl _ _).drew)) (Or.inr ⟨by rfl,rfl⟩) ?_);go_frame)
 refine wpX_nil ?_
 simp only [OnlyN_normal]
 refine hKK _ _ ?_
 clear hKK KK
 clear k0 k1 k2 m1
 go_wp2_with fail
 go_ret
 exact ⟨rfl,HB.out.trans (HB31.out.mono HB.out.size)⟩
set_option maxHeartbeats 400000 in
theorem sign_is (a b:Int) (w:World):Calls Tryz.prog 141 #[.int .i64 a,.int .i64 b] w fun e w'=>e = .returned (.int .i64 (cmpInt a b))∧w=w':=by
 go_enter Tryz.func141,Tryz.ntmps141
 go_wp2
 all_goals (go_ret;refine ⟨?_,rfl⟩;unfold cmpInt;(repeat' split)<;>first | rfl | (exfalso;omega))
set_option maxRecDepth 100000 in
set_option maxHeartbeats 4000000 in
theorem nrank_is {D:Nat→Prop} {nb:Nat} {ns:List Sym} (s:Sym) (w:World) (h:Nm D w nb ns) (hl:ns.length≤100000):Calls Tryz.prog 144 #[.pointer (some ⟨nb,0,none⟩),.agg #[.int .i64 s.kind,.string s.text,.int .i64 s.n]] w fun e w'=>e = .returned (.int .i64 (rkN ns s))∧Below w.heap.size w w':=by
 have HP:=Lib.hid (fun W (hW:Below w.heap.size w W)=>place_is s W (h.new_ hW) hl)
 have HA:=Lib.hid ((Below.refl w.heap.size w).alloc (Nat.le_refl _) (.cells #[.int .i64 s.kind,.string s.text,.int .i64 s.n] 23))
 clear h hl
 by_cases hk:s.kind=1
 · have HR:=Lib.hid (show rkN ns s=if plV ns s=0 then 2 else 1 by rw [rkN,if_neg (by omega)])
   have e1:(s.kind != 1)=false:=by simp [hk]
   by_cases hp:plV ns s=0
   · have HR:=Lib.hid (show rkN ns s=2 by rw [HR.out,if_pos hp])
     rw [hp] at HP
     clear hk hp
     go_enter Tryz.func144,Tryz.ntmps144
     go_wp2_with fail
     refine (HP.out _ HA.out).mono ?_
     rintro e w2 ⟨rfl,hb⟩
     have HB:=Lib.hid (HA.out.trans (hb.mono (by simp)))
     clear hb
     go_wp2_with fail
     go_ret
     exact ⟨by rw [HR.out]<;>rfl,HB.out⟩
   · have HR:=Lib.hid (show rkN ns s=1 by rw [HR.out,if_neg hp])
     obtain ⟨r,hr⟩ : ∃r,r=plV ns s:=⟨_,rfl⟩
     rw [← hr] at HP
     have r1:(0:Int)<(r:Int):=by omega
     have r2:0<r:=by omega
     clear hk hp hr
     go_enter Tryz.func144,Tryz.ntmps144
     go_wp2_with fail
     refine (HP.out _ HA.out).mono ?_
     rintro e w2 ⟨rfl,hb⟩
     have HB:=Lib.hid (HA.out.trans (hb.mono (by simp)))
     clear hb
     go_wp2_with fail
     go_ret
     exact ⟨by rw [HR.out]<;>rfl,HB.out⟩
 · have HR:=Lib.hid (show rkN ns s=0 by rw [rkN,if_pos hk])
   have e1:(s.kind != 1)=true:=by simp [hk]
   clear hk
   go_enter Tryz.func144,Tryz.ntmps144
   go_wp2_with fail
   go_ret
   exact ⟨by rw [HR.out]<;>rfl,HA.out⟩
set_option maxRecDepth 100000 in
set_option maxHeartbeats 4000000 in
theorem nid_is {D:Nat→Prop} {nb:Nat} {ns:List Sym} (s:Sym) (w:World) (h:Nm D w nb ns) (hl:ns.length≤100000):Calls Tryz.prog 142 #[.pointer (some ⟨nb,0,none⟩),.agg #[.int .i64 s.kind,.string s.text,.int .i64 s.n]] w fun e w'=>e = .returned (.int .i64 (idN ns s))∧Below w.heap.size w w':=by
 have HP:=Lib.hid (fun W (hW:Below w.heap.size w W)=>place_is s W (h.new_ hW) hl)
 have HA:=Lib.hid ((Below.refl w.heap.size w).alloc (Nat.le_refl _) (.cells #[.int .i64 s.kind,.string s.text,.int .i64 s.n] 23))
 by_cases hp:plV ns s=0
 · have HR:=Lib.hid (show idN ns s=(ns.length:Int)+1 by rw [idN,if_pos hp])
   obtain ⟨bm,bp,sn,A,cc,mm,L,cl,h⟩:=h
   have HN:=Lib.hid h.blk
   have v1:IntKind.i64.wrap ((ns.length:Int)+1)=(ns.length:Int)+1:=IntWalk.i64_in _ (by omega)
   rw [hp] at HP
   clear hp h
   go_enter Tryz.func142,Tryz.ntmps142
   go_wp2_with fail
   refine (HP.out _ HA.out).mono ?_
   rintro e w2 ⟨rfl,hb⟩
   have HB:=Lib.hid (HA.out.trans (hb.mono (by simp)))
   have hn:=HN.out.new_ HB.out
   have n1:=(hn.cell 1).trans rfl
   have nz:=hn.lt
   clear hb hn
   go_wp2_with fail
   go_ret
   exact ⟨by rw [HR.out]<;>rfl,HB.out⟩
 · have HR:=Lib.hid (show idN ns s=(plV ns s:Int) by rw [idN,if_neg hp])
   obtain ⟨r,hr⟩ : ∃r,r=plV ns s:=⟨_,rfl⟩
   rw [← hr] at HP HR
   have r1:(0:Int)<(r:Int):=by omega
   have r2:0<r:=by omega
   clear hp hr h
   go_enter Tryz.func142,Tryz.ntmps142
   go_wp2_with fail
   refine (HP.out _ HA.out).mono ?_
   rintro e w2 ⟨rfl,hb⟩
   have HB:=Lib.hid (HA.out.trans (hb.mono (by simp)))
   clear hb
   go_wp2_with fail
   go_ret
   exact ⟨by rw [HR.out]<;>rfl,HB.out⟩
end Go.Proofs.YtldndkngpdfpfaaGreat
