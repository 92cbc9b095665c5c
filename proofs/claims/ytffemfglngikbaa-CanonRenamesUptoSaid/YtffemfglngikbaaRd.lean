/-
  Texts put together: BkStrG, BkStr, SymWord, SymDigits, Canon6P, BkNames, BkNames2.
-/
import Derived.Test.YtffemfglngikbaaRc
import Derived.Test.YtffemfglngikbaaRa
import Derived.Test.YtffemfglngikbaaRb
import Derived.Deep.Cut
import Derived.Lib.SlBytesRow
import Derived.Laws.EntriesVeiled
import Derived.Maps.RangeWalk
namespace Go.Proofs.Ytffemfglngikbaa
open Go.RowKit
abbrev zPgW (k:ByteArray):PgW:=⟨k,⟨#[]⟩⟩
set_option maxRecDepth 100000 in
set_option maxHeartbeats 4000000 in
theorem bkat_PgW (k:ByteArray) (w:World):Calls Try.prog 63 #[.string k] w fun e w'=>e = .returned (.agg #[.string k,.string ⟨#[]⟩])∧Below w.heap.size w w':=by
 obtain ⟨W,hW⟩ : ∃W,W=w.alloc (.cells #[Value.string ⟨#[]⟩,Value.string ⟨#[]⟩] 104):=⟨_,rfl⟩
 have hR:Blk W w.heap.size 104 #[Value.string ⟨#[]⟩,Value.string ⟨#[]⟩]:=by rw [hW];exact Blk.new _ _ _
 have hB:Below w.heap.size w W:=by rw [hW];exact (Below.refl _ _).alloc (Nat.le_refl _) _
 have ht:W.there w.heap.size 0 (#[Value.string k,Value.string ⟨#[]⟩]:Array Value).size:=hR.there
 have HT:=Lib.hid ht
 have HB:=Lib.hid hB
 clear ht hR hB
 go_enter Try.func63,Try.ntmps63
 go_upto_region 1 with (fail)
 rw [← hW]
 clear hW
 go_wp2_with (with_reducible refine wpList_store_mid rfl 104 _ _ rfl w.heap.size 0 #[Value.string k,Value.string ⟨#[]⟩] rfl rfl HT.out (by kernel_rfl) (by kernel_rfl) ?_)
 try simp only [Exit.inBlock,Exit.then]
 refine bodyPost_ret (v:=.agg #[.string k,.string ⟨#[]⟩]) ?_ rfl ⟨rfl,Below.setCells' _ _ HB.out (by omega)⟩
 exact results_cell (t:=2) (T:=104) rfl _ _ w.heap.size [Value.string k,Value.string ⟨#[]⟩] _ rfl (World.rangeAt_setCells_same W w.heap.size 0 [Value.string k,Value.string ⟨#[]⟩] HT.out) Try.underlying104 rfl (by kernel_rfl)
set_option maxRecDepth 100000 in
set_option maxHeartbeats 4000000 in
theorem wmapget_no (bm bp cc:Nat) (sn:Bool) (A:Option Addr) (m:List PgW) (k:ByteArray) (w:World) (hM:Blk w bm 106 #[.pointer (some ⟨bp,0,none⟩)]) (hS:PgWSet w bp sn A cc m) (hs:Srt cmpPgW m) (hl:(m.length:Int)≤1000000) (hh:has cmpPgW m ⟨k,⟨#[]⟩⟩=false) :
 Calls Try.prog 43 #[.pointer (some ⟨bm,0,none⟩),.string k] w fun e w'=>e = .returned (.tuple #[.string ⟨#[]⟩,.bool false])∧Below w.heap.size w w':=by
 have s0:=hM.c1
 have hml:=hM.lt
 have HS:=Lib.hid hS
 have HO:=Lib.hid hs
 have HM:=Lib.hid hM
 have HH:=Lib.hid hh
 clear hS hs hM hh
 go_enter Try.func43,Try.ntmps43
 go_upto_region 4 with (fail)
 go_cut [7,8] from 11 (fun p b wc=>b = .bool false∧Below w.heap.size w wc∧∃g,p = .pointer (some ⟨g,0,none⟩)∧w.heap.size≤g∧g<wc.heap.size∧wc.rangeAt g 0 [Value.string ⟨#[]⟩,Value.string ⟨#[]⟩])
 case first=>
  refine wp_region_Pl (fun w9=>Below w.heap.size w w9) [0,1,2,3,4,7,8,9,12] [3] (.fork [(0,0),(1,0),(2,0),(3,1),(4,0)] 5 (.fork [] 6 (.fin [(7,0),(8,0),(9,0),(10,2),(11,2),(12,0)]) 10 (.fin [(6,2),(7,0),(8,0),(9,0),(11,2),(12,0)])) 10 (.fin [(5,2),(6,2),(7,0),(8,0),(9,0),(11,2),(12,0)])) (by kernel_rfl) (by kernel_rfl) (by kernel_rfl) (fun KK hKK=>?_)
  simp only [wpPl,beside,List.filterMap_cons,List.filterMap_nil,List.getElem?_toArray,List.getElem?_cons_zero,List.getElem?_cons_succ,Option.map_some]
  repeat ((first | (refine wpY_w ?_ (Or.inl ⟨by rfl,fun w9=>?_⟩) ?_;rotate_left 1;go_simp;with_reducible rfl) | (refine wpY_l ?_ ((Below.refl _ _).drew) (Or.inl ⟨by rfl,fun w9 hw9=>?_⟩) ?_;rotate_left 1;obtain ⟨hc9,hf9⟩:=bcell hw9;go_simp;with_reducible rfl) | refine wpY_w undef (Or.inr ⟨by rfl,rfl⟩) ?_ | refine wpY_l undef ((Below.refl _ _).drew) (Or.inr ⟨by rfl,rfl⟩) ?_);go_frame)
  refine wpY_nil ⟨?_,?_⟩
  · refine wpOp_cs rfl (fun K9 hK9=>?_)
    go_simp
    refine (bkat_PgW k _).mono ?_
    rintro e wa ⟨rfl,hba⟩
    have HBa:=Lib.hid (((Below.refl w.heap.size w).drew).trans (hba.mono (by first | omega | simp)))
    clear hba
    have hza:=HBa.out.size
    refine hK9 _ _ (fun _=>HBa.out) ?_
    clear hK9 K9
    try go_frame
    try simp only [beside,List.filterMap_nil]
    refine wpY_nil ⟨?_,?_⟩
    · refine wpOp_cs rfl (fun K9 hK9=>?_)
      go_simp
      refine (get_no_PgW bp cc sn A m (zPgW k) _ (HS.out.new_ (HBa.out)) HO.out (by omega) HH.out).mono ?_
      rintro e wg ⟨rfl,hbg⟩
      have HBg:=Lib.hid ((HBa.out).trans (hbg.mono (by have:=HBa.out.size;first | omega | (simp;done) | (simp;omega))))
      clear hbg
      have hzg:=HBg.out.size
      refine hK9 _ _ (fun _=>HBg.out) ?_
      clear hK9 K9
      try go_frame
      try simp only [beside,List.filterMap_nil]
      repeat ((first | (refine wpY_w ?_ (Or.inl ⟨by rfl,fun w9=>?_⟩) ?_;rotate_left 1;go_simp;with_reducible rfl) | (refine wpY_l ?_ (HBg.out) (Or.inl ⟨by rfl,fun w9 hw9=>?_⟩) ?_;rotate_left 1;obtain ⟨hc9,hf9⟩:=bcell hw9;go_simp;with_reducible rfl) | refine wpY_w undef (Or.inr ⟨by rfl,rfl⟩) ?_ | refine wpY_l undef (HBg.out) (Or.inr ⟨by rfl,rfl⟩) ?_);go_frame)
      refine wpY_es (fun K9 hK9=>?_)
      go_simp
      have hB9:=(HBg.out).alloc (by have:=HBg.out.size;first | omega | (simp;done) | (simp;omega)) (.cells #[Value.string ⟨#[]⟩,Value.string ⟨#[]⟩] 104)
      have HB9:=Lib.hid hB9
      have hk9:Blk (wg.alloc (.cells #[Value.string ⟨#[]⟩,Value.string ⟨#[]⟩] 104)) wg.heap.size 104 #[Value.string ⟨#[]⟩,Value.string ⟨#[]⟩]:=Blk.new wg 104 #[Value.string ⟨#[]⟩,Value.string ⟨#[]⟩]
      have HK9:=Lib.hid hk9
      clear hB9 hk9
      have hz9:=HB9.out.size
      refine hK9 _ _ (HB9.out) ?_
      clear hK9 K9
      try go_frame
      refine wpY_es (fun K9 hK9=>?_)
      refine step_store_el rfl 104 _ _ rfl wg.heap.size 0 #[Value.string ⟨#[]⟩,Value.string ⟨#[]⟩] rfl rfl (show _ from (HK9.out).there) (by kernel_rfl) (by kernel_rfl) ?_
      refine hK9 _ _ (Below.setCells' _ _ (HB9.out) (by have:=(HB9.out).size;first | omega | (simp;done) | (simp;omega))) ?_
      clear hK9 K9
      try go_frame
      repeat ((first | (refine wpY_w ?_ (Or.inl ⟨by rfl,fun w9=>?_⟩) ?_;rotate_left 1;go_simp;with_reducible rfl) | (refine wpY_l ?_ (Below.setCells' _ _ (HB9.out) (by have:=(HB9.out).size;first | omega | (simp;done) | (simp;omega))) (Or.inl ⟨by rfl,fun w9 hw9=>?_⟩) ?_;rotate_left 1;obtain ⟨hc9,hf9⟩:=bcell hw9;go_simp;with_reducible rfl) | refine wpY_w undef (Or.inr ⟨by rfl,rfl⟩) ?_ | refine wpY_l undef (Below.setCells' _ _ (HB9.out) (by have:=(HB9.out).size;first | omega | (simp;done) | (simp;omega))) (Or.inr ⟨by rfl,rfl⟩) ?_);go_frame)
      refine wpY_nil ?_
      simp only [OnlyN_normal]
      refine hKK _ _ ?_
      clear hKK KK
      go_wp2_with fail
      go_meet
      case rel=>exact ⟨rfl,Below.setCells' _ _ (HB9.out) (by have:=(HB9.out).size;first | omega | (simp;done) | (simp;omega)),_,rfl,by first | exact hzg | exact hza | omega | simp,by first | (rw [size_setCells];exact (HK9.out).lt) | exact (HK9.out).lt,World.rangeAt_setCells_same _ _ 0 [Value.string ⟨#[]⟩,Value.string ⟨#[]⟩] (show _ from (HK9.out).there)⟩
    · refine wpOp_cs rfl (fun K9 hK9=>?_)
      go_simp
      have hB9:=(HBa.out).alloc (by have:=HBa.out.size;first | omega | (simp;done) | (simp;omega)) (.cells #[Value.string ⟨#[]⟩,Value.string ⟨#[]⟩] 104)
      have HB9:=Lib.hid hB9
      have hk9:Blk (wa.alloc (.cells #[Value.string ⟨#[]⟩,Value.string ⟨#[]⟩] 104)) wa.heap.size 104 #[Value.string ⟨#[]⟩,Value.string ⟨#[]⟩]:=Blk.new wa 104 #[Value.string ⟨#[]⟩,Value.string ⟨#[]⟩]
      have HK9:=Lib.hid hk9
      clear hB9 hk9
      have hz9:=HB9.out.size
      refine hK9 _ _ (fun _=>HB9.out) ?_
      clear hK9 K9
      try go_frame
      try simp only [beside,List.filterMap_nil]
      refine wpY_es (fun K9 hK9=>?_)
      go_simp
      refine (get_no_PgW bp cc sn A m (zPgW k) _ (HS.out.new_ (HB9.out)) HO.out (by omega) HH.out).mono ?_
      rintro e wg ⟨rfl,hbg⟩
      have HBg:=Lib.hid ((HB9.out).trans (hbg.mono (by have:=HB9.out.size;first | omega | (simp at this ⊢;done) | (simp at this ⊢;omega))))
      have HKg:=Lib.hid ((HK9.out).new_ hbg)
      clear hbg
      have hzg:=HBg.out.size
      refine hK9 _ _ (HBg.out) ?_
      clear hK9 K9
      try go_frame
      repeat ((first | (refine wpY_w ?_ (Or.inl ⟨by rfl,fun w9=>?_⟩) ?_;rotate_left 1;go_simp;with_reducible rfl) | (refine wpY_l ?_ (HBg.out) (Or.inl ⟨by rfl,fun w9 hw9=>?_⟩) ?_;rotate_left 1;obtain ⟨hc9,hf9⟩:=bcell hw9;go_simp;with_reducible rfl) | refine wpY_w undef (Or.inr ⟨by rfl,rfl⟩) ?_ | refine wpY_l undef (HBg.out) (Or.inr ⟨by rfl,rfl⟩) ?_);go_frame)
      refine wpY_es (fun K9 hK9=>?_)
      refine step_store_el rfl 104 _ _ rfl wa.heap.size 0 #[Value.string ⟨#[]⟩,Value.string ⟨#[]⟩] rfl rfl (show _ from (HKg.out).there) (by kernel_rfl) (by kernel_rfl) ?_
      refine hK9 _ _ (Below.setCells' _ _ (HBg.out) (by have:=(HBg.out).size;first | omega | (simp;done) | (simp;omega))) ?_
      clear hK9 K9
      try go_frame
      repeat ((first | (refine wpY_w ?_ (Or.inl ⟨by rfl,fun w9=>?_⟩) ?_;rotate_left 1;go_simp;with_reducible rfl) | (refine wpY_l ?_ (Below.setCells' _ _ (HBg.out) (by have:=(HBg.out).size;first | omega | (simp;done) | (simp;omega))) (Or.inl ⟨by rfl,fun w9 hw9=>?_⟩) ?_;rotate_left 1;obtain ⟨hc9,hf9⟩:=bcell hw9;go_simp;with_reducible rfl) | refine wpY_w undef (Or.inr ⟨by rfl,rfl⟩) ?_ | refine wpY_l undef (Below.setCells' _ _ (HBg.out) (by have:=(HBg.out).size;first | omega | (simp;done) | (simp;omega))) (Or.inr ⟨by rfl,rfl⟩) ?_);go_frame)
      refine wpY_nil ?_
      simp only [OnlyN_normal]
      refine hKK _ _ ?_
      clear hKK KK
      go_wp2_with fail
      go_meet
      case rel=>exact ⟨rfl,Below.setCells' _ _ (HBg.out) (by have:=(HBg.out).size;first | omega | (simp;done) | (simp;omega)),_,rfl,by first | exact hzg | exact hza | omega | simp,by first | (rw [size_setCells];exact (HKg.out).lt) | exact (HKg.out).lt,World.rangeAt_setCells_same _ _ 0 [Value.string ⟨#[]⟩,Value.string ⟨#[]⟩] (show _ from (HKg.out).there)⟩
  · refine wpOp_cs rfl (fun K9 hK9=>?_)
    go_simp
    have hB9:=((Below.refl w.heap.size w).drew).alloc (by first | omega | simp) (.cells #[Value.string ⟨#[]⟩,Value.string ⟨#[]⟩] 104)
    have HB9:=Lib.hid hB9
    have hk9:Blk (w.drew.alloc (.cells #[Value.string ⟨#[]⟩,Value.string ⟨#[]⟩] 104)) w.heap.size 104 #[Value.string ⟨#[]⟩,Value.string ⟨#[]⟩]:=Blk.new w.drew 104 #[Value.string ⟨#[]⟩,Value.string ⟨#[]⟩]
    have HK9:=Lib.hid hk9
    clear hB9 hk9
    have hz9:=HB9.out.size
    refine hK9 _ _ (fun _=>HB9.out) ?_
    clear hK9 K9
    try go_frame
    try simp only [beside,List.filterMap_nil]
    refine wpY_es (fun K9 hK9=>?_)
    go_simp
    refine (bkat_PgW k _).mono ?_
    rintro e wa ⟨rfl,hba⟩
    have HBa:=Lib.hid ((HB9.out).trans (hba.mono (by have:=HB9.out.size;first | omega | (simp at this ⊢;done) | (simp at this ⊢;omega))))
    have HKa:=Lib.hid ((HK9.out).new_ hba)
    clear hba
    have hza:=HBa.out.size
    refine hK9 _ _ (HBa.out) ?_
    clear hK9 K9
    try go_frame
    refine wpY_es (fun K9 hK9=>?_)
    go_simp
    refine (get_no_PgW bp cc sn A m (zPgW k) _ (HS.out.new_ (HBa.out)) HO.out (by omega) HH.out).mono ?_
    rintro e wg ⟨rfl,hbg⟩
    have HBg:=Lib.hid ((HBa.out).trans (hbg.mono (by have:=HBa.out.size;first | omega | (simp;done) | (simp;omega))))
    have HKg:=Lib.hid ((HKa.out).new_ hbg)
    clear hbg
    have hzg:=HBg.out.size
    refine hK9 _ _ (HBg.out) ?_
    clear hK9 K9
    try go_frame
    repeat ((first | (refine wpY_w ?_ (Or.inl ⟨by rfl,fun w9=>?_⟩) ?_;rotate_left 1;go_simp;with_reducible rfl) | (refine wpY_l ?_ (HBg.out) (Or.inl ⟨by rfl,fun w9 hw9=>?_⟩) ?_;rotate_left 1;obtain ⟨hc9,hf9⟩:=bcell hw9;go_simp;with_reducible rfl) | refine wpY_w undef (Or.inr ⟨by rfl,rfl⟩) ?_ | refine wpY_l undef (HBg.out) (Or.inr ⟨by rfl,rfl⟩) ?_);go_frame)
    refine wpY_es (fun K9 hK9=>?_)
    refine step_store_el rfl 104 _ _ rfl w.heap.size 0 #[Value.string ⟨#[]⟩,Value.string ⟨#[]⟩] rfl rfl (show _ from (HKg.out).there) (by kernel_rfl) (by kernel_rfl) ?_
    refine hK9 _ _ (Below.setCells' _ _ (HBg.out) (by have:=(HBg.out).size;first | omega | (simp;done) | (simp;omega))) ?_
    clear hK9 K9
    try go_frame
    repeat ((first | (refine wpY_w ?_ (Or.inl ⟨by rfl,fun w9=>?_⟩) ?_;rotate_left 1;go_simp;with_reducible rfl) | (refine wpY_l ?_ (Below.setCells' _ _ (HBg.out) (by have:=(HBg.out).size;first | omega | (simp;done) | (simp;omega))) (Or.inl ⟨by rfl,fun w9 hw9=>?_⟩) ?_;rotate_left 1;obtain ⟨hc9,hf9⟩:=bcell hw9;go_simp;with_reducible rfl) | refine wpY_w undef (Or.inr ⟨by rfl,rfl⟩) ?_ | refine wpY_l undef (Below.setCells' _ _ (HBg.out) (by have:=(HBg.out).size;first | omega | (simp;done) | (simp;omega))) (Or.inr ⟨by rfl,rfl⟩) ?_);go_frame)
    refine wpY_nil ?_
    simp only [OnlyN_normal]
    refine hKK _ _ ?_
    clear hKK KK
    go_wp2_with fail
    go_meet
    case rel=>exact ⟨rfl,Below.setCells' _ _ (HBg.out) (by have:=(HBg.out).size;first | omega | (simp;done) | (simp;omega)),_,rfl,by first | exact hzg | exact hza | omega | simp,by first | (rw [size_setCells];exact (HKg.out).lt) | exact (HKg.out).lt,World.rangeAt_setCells_same _ _ 0 [Value.string ⟨#[]⟩,Value.string ⟨#[]⟩] (show _ from (HKg.out).there)⟩
 case rest=>
  obtain ⟨rfl,hB,g,rfl,hg,hgl,hr⟩:=hcut
  have HB:=Lib.hid hB
  have g1:wc.cell? ⟨g,1,none⟩=some (.string ⟨#[]⟩):=hr 1 _ rfl
  clear hB hr s0
  go_wp2_with fail
  go_ret2
  exact ⟨rfl,HB.out⟩
set_option maxRecDepth 100000 in
set_option maxHeartbeats 4000000 in
theorem wmapget_is (bm bp cc:Nat) (sn:Bool) (A:Option Addr) (m:List PgW) (k:ByteArray) (y:PgW) (w:World) (hM:Blk w bm 106 #[.pointer (some ⟨bp,0,none⟩)]) (hS:PgWSet w bp sn A cc m) (hs:Srt cmpPgW m) (hl:(m.length:Int)≤1000000) (hh:has cmpPgW m ⟨k,⟨#[]⟩⟩=true) (hy:m[rank cmpPgW m ⟨k,⟨#[]⟩⟩]? = some y) :
 Calls Try.prog 43 #[.pointer (some ⟨bm,0,none⟩),.string k] w fun e w'=>e = .returned (.tuple #[.string y.v,.bool true])∧Below w.heap.size w w':=by
 have s0:=hM.c1
 have hml:=hM.lt
 have HS:=Lib.hid hS
 have HO:=Lib.hid hs
 have HM:=Lib.hid hM
 have HH:=Lib.hid hh
 have HY:=Lib.hid hy
 clear hy
 clear hS hs hM hh
 go_enter Try.func43,Try.ntmps43
 go_upto_region 4 with (fail)
 go_cut [7,8] from 11 (fun p b wc=>b = .bool true∧Below w.heap.size w wc∧∃g,p = .pointer (some ⟨g,0,none⟩)∧w.heap.size≤g∧g<wc.heap.size∧wc.rangeAt g 0 [Value.string y.kk,Value.string y.v])
 case first=>
  refine wp_region_Pl (fun w9=>Below w.heap.size w w9) [0,1,2,3,4,7,8,9,12] [3] (.fork [(0,0),(1,0),(2,0),(3,1),(4,0)] 5 (.fork [] 6 (.fin [(7,0),(8,0),(9,0),(10,2),(11,2),(12,0)]) 10 (.fin [(6,2),(7,0),(8,0),(9,0),(11,2),(12,0)])) 10 (.fin [(5,2),(6,2),(7,0),(8,0),(9,0),(11,2),(12,0)])) (by kernel_rfl) (by kernel_rfl) (by kernel_rfl) (fun KK hKK=>?_)
  simp only [wpPl,beside,List.filterMap_cons,List.filterMap_nil,List.getElem?_toArray,List.getElem?_cons_zero,List.getElem?_cons_succ,Option.map_some]
  repeat ((first | (refine wpY_w ?_ (Or.inl ⟨by rfl,fun w9=>?_⟩) ?_;rotate_left 1;go_simp;with_reducible rfl) | (refine wpY_l ?_ ((Below.refl _ _).drew) (Or.inl ⟨by rfl,fun w9 hw9=>?_⟩) ?_;rotate_left 1;obtain ⟨hc9,hf9⟩:=bcell hw9;go_simp;with_reducible rfl) | refine wpY_w undef (Or.inr ⟨by rfl,rfl⟩) ?_ | refine wpY_l undef ((Below.refl _ _).drew) (Or.inr ⟨by rfl,rfl⟩) ?_);go_frame)
  refine wpY_nil ⟨?_,?_⟩
  · refine wpOp_cs rfl (fun K9 hK9=>?_)
    go_simp
    refine (bkat_PgW k _).mono ?_
    rintro e wa ⟨rfl,hba⟩
    have HBa:=Lib.hid (((Below.refl w.heap.size w).drew).trans (hba.mono (by first | omega | simp)))
    clear hba
    have hza:=HBa.out.size
    refine hK9 _ _ (fun _=>HBa.out) ?_
    clear hK9 K9
    try go_frame
    try simp only [beside,List.filterMap_nil]
    refine wpY_nil ⟨?_,?_⟩
    · refine wpOp_cs rfl (fun K9 hK9=>?_)
      go_simp
      refine (get_is_PgW bp cc sn A m (zPgW k) y _ (HS.out.new_ (HBa.out)) HO.out (by omega) HH.out HY.out).mono ?_
      rintro e wg ⟨rfl,hbg⟩
      have HBg:=Lib.hid ((HBa.out).trans (hbg.mono (by have:=HBa.out.size;first | omega | (simp;done) | (simp;omega))))
      clear hbg
      have hzg:=HBg.out.size
      refine hK9 _ _ (fun _=>HBg.out) ?_
      clear hK9 K9
      try go_frame
      try simp only [beside,List.filterMap_nil]
      repeat ((first | (refine wpY_w ?_ (Or.inl ⟨by rfl,fun w9=>?_⟩) ?_;rotate_left 1;go_simp;with_reducible rfl) | (refine wpY_l ?_ (HBg.out) (Or.inl ⟨by rfl,fun w9 hw9=>?_⟩) ?_;rotate_left 1;obtain ⟨hc9,hf9⟩:=bcell hw9;go_simp;with_reducible rfl) | refine wpY_w undef (Or.inr ⟨by rfl,rfl⟩) ?_ | refine wpY_l undef (HBg.out) (Or.inr ⟨by rfl,rfl⟩) ?_);go_frame)
      refine wpY_es (fun K9 hK9=>?_)
      go_simp
      have hB9:=(HBg.out).alloc (by have:=HBg.out.size;first | omega | (simp;done) | (simp;omega)) (.cells #[Value.string ⟨#[]⟩,Value.string ⟨#[]⟩] 104)
      have HB9:=Lib.hid hB9
      have hk9:Blk (wg.alloc (.cells #[Value.string ⟨#[]⟩,Value.string ⟨#[]⟩] 104)) wg.heap.size 104 #[Value.string ⟨#[]⟩,Value.string ⟨#[]⟩]:=Blk.new wg 104 #[Value.string ⟨#[]⟩,Value.string ⟨#[]⟩]
      have HK9:=Lib.hid hk9
      clear hB9 hk9
      have hz9:=HB9.out.size
      refine hK9 _ _ (HB9.out) ?_
      clear hK9 K9
      try go_frame
      refine wpY_es (fun K9 hK9=>?_)
      refine step_store_el rfl 104 _ _ rfl wg.heap.size 0 #[Value.string y.kk,Value.string y.v] rfl rfl (show _ from (HK9.out).there) (by kernel_rfl) (by kernel_rfl) ?_
      refine hK9 _ _ (Below.setCells' _ _ (HB9.out) (by have:=(HB9.out).size;first | omega | (simp;done) | (simp;omega))) ?_
      clear hK9 K9
      try go_frame
      repeat ((first | (refine wpY_w ?_ (Or.inl ⟨by rfl,fun w9=>?_⟩) ?_;rotate_left 1;go_simp;with_reducible rfl) | (refine wpY_l ?_ (Below.setCells' _ _ (HB9.out) (by have:=(HB9.out).size;first | omega | (simp;done) | (simp;omega))) (Or.inl ⟨by rfl,fun w9 hw9=>?_⟩) ?_;rotate_left 1;obtain ⟨hc9,hf9⟩:=bcell hw9;go_simp;with_reducible rfl) | refine wpY_w undef (Or.inr ⟨by rfl,rfl⟩) ?_ | refine wpY_l undef (Below.setCells' _ _ (HB9.out) (by have:=(HB9.out).size;first | omega | (simp;done) | (simp;omega))) (Or.inr ⟨by rfl,rfl⟩) ?_);go_frame)
      refine wpY_nil ?_
      simp only [OnlyN_normal]
      refine hKK _ _ ?_
      clear hKK KK
      go_wp2_with fail
      go_meet
      case rel=>exact ⟨rfl,Below.setCells' _ _ (HB9.out) (by have:=(HB9.out).size;first | omega | (simp;done) | (simp;omega)),_,rfl,by first | exact hzg | exact hza | omega | simp,by first | (rw [size_setCells];exact (HK9.out).lt) | exact (HK9.out).lt,World.rangeAt_setCells_same _ _ 0 [Value.string y.kk,Value.string y.v] (show _ from (HK9.out).there)⟩
    · refine wpOp_cs rfl (fun K9 hK9=>?_)
      go_simp
      have hB9:=(HBa.out).alloc (by have:=HBa.out.size;first | omega | (simp;done) | (simp;omega)) (.cells #[Value.string ⟨#[]⟩,Value.string ⟨#[]⟩] 104)
      have HB9:=Lib.hid hB9
      have hk9:Blk (wa.alloc (.cells #[Value.string ⟨#[]⟩,Value.string ⟨#[]⟩] 104)) wa.heap.size 104 #[Value.string ⟨#[]⟩,Value.string ⟨#[]⟩]:=Blk.new wa 104 #[Value.string ⟨#[]⟩,Value.string ⟨#[]⟩]
      have HK9:=Lib.hid hk9
      clear hB9 hk9
      have hz9:=HB9.out.size
      refine hK9 _ _ (fun _=>HB9.out) ?_
      clear hK9 K9
      try go_frame
      try simp only [beside,List.filterMap_nil]
      refine wpY_es (fun K9 hK9=>?_)
      go_simp
      refine (get_is_PgW bp cc sn A m (zPgW k) y _ (HS.out.new_ (HB9.out)) HO.out (by omega) HH.out HY.out).mono ?_
      rintro e wg ⟨rfl,hbg⟩
      have HBg:=Lib.hid ((HB9.out).trans (hbg.mono (by have:=HB9.out.size;first | omega | (simp at this ⊢;done) | (simp at this ⊢;omega))))
      have HKg:=Lib.hid ((HK9.out).new_ hbg)
      clear hbg
      have hzg:=HBg.out.size
      refine hK9 _ _ (HBg.out) ?_
      clear hK9 K9
      try go_frame
      repeat ((first | (refine wpY_w ?_ (Or.inl ⟨by rfl,fun w9=>?_⟩) ?_;rotate_left 1;go_simp;with_reducible rfl) | (refine wpY_l ?_ (HBg.out) (Or.inl ⟨by rfl,fun w9 hw9=>?_⟩) ?_;rotate_left 1;obtain ⟨hc9,hf9⟩:=bcell hw9;go_simp;with_reducible rfl) | refine wpY_w undef (Or.inr ⟨by rfl,rfl⟩) ?_ | refine wpY_l undef (HBg.out) (Or.inr ⟨by rfl,rfl⟩) ?_);go_frame)
      refine wpY_es (fun K9 hK9=>?_)
      refine step_store_el rfl 104 _ _ rfl wa.heap.size 0 #[Value.string y.kk,Value.string y.v] rfl rfl (show _ from (HKg.out).there) (by kernel_rfl) (by kernel_rfl) ?_
      refine hK9 _ _ (Below.setCells' _ _ (HBg.out) (by have:=(HBg.out).size;first | omega | (simp;done) | (simp;omega))) ?_
      clear hK9 K9
      try go_frame
      repeat ((first | (refine wpY_w ?_ (Or.inl ⟨by rfl,fun w9=>?_⟩) ?_;rotate_left 1;go_simp;with_reducible rfl) | (refine wpY_l ?_ (Below.setCells' _ _ (HBg.out) (by have:=(HBg.out).size;first | omega | (simp;done) | (simp;omega))) (Or.inl ⟨by rfl,fun w9 hw9=>?_⟩) ?_;rotate_left 1;obtain ⟨hc9,hf9⟩:=bcell hw9;go_simp;with_reducible rfl) | refine wpY_w undef (Or.inr ⟨by rfl,rfl⟩) ?_ | refine wpY_l undef (Below.setCells' _ _ (HBg.out) (by have:=(HBg.out).size;first | omega | (simp;done) | (simp;omega))) (Or.inr ⟨by rfl,rfl⟩) ?_);go_frame)
      refine wpY_nil ?_
      simp only [OnlyN_normal]
      refine hKK _ _ ?_
      clear hKK KK
      go_wp2_with fail
      go_meet
      case rel=>exact ⟨rfl,Below.setCells' _ _ (HBg.out) (by have:=(HBg.out).size;first | omega | (simp;done) | (simp;omega)),_,rfl,by first | exact hzg | exact hza | omega | simp,by first | (rw [size_setCells];exact (HKg.out).lt) | exact (HKg.out).lt,World.rangeAt_setCells_same _ _ 0 [Value.string y.kk,Value.string y.v] (show _ from (HKg.out).there)⟩
  · refine wpOp_cs rfl (fun K9 hK9=>?_)
    go_simp
    have hB9:=((Below.refl w.heap.size w).drew).alloc (by first | omega | simp) (.cells #[Value.string ⟨#[]⟩,Value.string ⟨#[]⟩] 104)
    have HB9:=Lib.hid hB9
    have hk9:Blk (w.drew.alloc (.cells #[Value.string ⟨#[]⟩,Value.string ⟨#[]⟩] 104)) w.heap.size 104 #[Value.string ⟨#[]⟩,Value.string ⟨#[]⟩]:=Blk.new w.drew 104 #[Value.string ⟨#[]⟩,Value.string ⟨#[]⟩]
    have HK9:=Lib.hid hk9
    clear hB9 hk9
    have hz9:=HB9.out.size
    refine hK9 _ _ (fun _=>HB9.out) ?_
    clear hK9 K9
    try go_frame
    try simp only [beside,List.filterMap_nil]
    refine wpY_es (fun K9 hK9=>?_)
    go_simp
    refine (bkat_PgW k _).mono ?_
    rintro e wa ⟨rfl,hba⟩
    have HBa:=Lib.hid ((HB9.out).trans (hba.mono (by have:=HB9.out.size;first | omega | (simp at this ⊢;done) | (simp at this ⊢;omega))))
    have HKa:=Lib.hid ((HK9.out).new_ hba)
    clear hba
    have hza:=HBa.out.size
    refine hK9 _ _ (HBa.out) ?_
    clear hK9 K9
    try go_frame
    refine wpY_es (fun K9 hK9=>?_)
    go_simp
    refine (get_is_PgW bp cc sn A m (zPgW k) y _ (HS.out.new_ (HBa.out)) HO.out (by omega) HH.out HY.out).mono ?_
    rintro e wg ⟨rfl,hbg⟩
    have HBg:=Lib.hid ((HBa.out).trans (hbg.mono (by have:=HBa.out.size;first | omega | (simp;done) | (simp;omega))))
    have HKg:=Lib.hid ((HKa.out).new_ hbg)
    clear hbg
    have hzg:=HBg.out.size
    refine hK9 _ _ (HBg.out) ?_
    clear hK9 K9
    try go_frame
    repeat ((first | (refine wpY_w ?_ (Or.inl ⟨by rfl,fun w9=>?_⟩) ?_;rotate_left 1;go_simp;with_reducible rfl) | (refine wpY_l ?_ (HBg.out) (Or.inl ⟨by rfl,fun w9 hw9=>?_⟩) ?_;rotate_left 1;obtain ⟨hc9,hf9⟩:=bcell hw9;go_simp;with_reducible rfl) | refine wpY_w undef (Or.inr ⟨by rfl,rfl⟩) ?_ | refine wpY_l undef (HBg.out) (Or.inr ⟨by rfl,rfl⟩) ?_);go_frame)
    refine wpY_es (fun K9 hK9=>?_)
    refine step_store_el rfl 104 _ _ rfl w.heap.size 0 #[Value.string y.kk,Value.string y.v] rfl rfl (show _ from (HKg.out).there) (by kernel_rfl) (by kernel_rfl) ?_
    refine hK9 _ _ (Below.setCells' _ _ (HBg.out) (by have:=(HBg.out).size;first | omega | (simp;done) | (simp;omega))) ?_
    clear hK9 K9
    try go_frame
    repeat ((first | (refine wpY_w ?_ (Or.inl ⟨by rfl,fun w9=>?_⟩) ?_;rotate_left 1;go_simp;with_reducible rfl) | (refine wpY_l ?_ (Below.setCells' _ _ (HBg.out) (by have:=(HBg.out).size;first | omega | (simp;done) | (simp;omega))) (Or.inl ⟨by rfl,fun w9 hw9=>?_⟩) ?_;rotate_left 1;obtain ⟨hc9,hf9⟩:=bcell hw9;go_simp;with_reducible rfl) | refine wpY_w undef (Or.inr ⟨by rfl,rfl⟩) ?_ | refine wpY_l undef (Below.setCells' _ _ (HBg.out) (by have:=(HBg.out).size;first | omega | (simp;done) | (simp;omega))) (Or.inr ⟨by rfl,rfl⟩) ?_);go_frame)
    refine wpY_nil ?_
    simp only [OnlyN_normal]
    refine hKK _ _ ?_
    clear hKK KK
    go_wp2_with fail
    go_meet
    case rel=>exact ⟨rfl,Below.setCells' _ _ (HBg.out) (by have:=(HBg.out).size;first | omega | (simp;done) | (simp;omega)),_,rfl,by first | exact hzg | exact hza | omega | simp,by first | (rw [size_setCells];exact (HKg.out).lt) | exact (HKg.out).lt,World.rangeAt_setCells_same _ _ 0 [Value.string y.kk,Value.string y.v] (show _ from (HKg.out).there)⟩
 case rest=>
  obtain ⟨rfl,hB,g,rfl,hg,hgl,hr⟩:=hcut
  have HB:=Lib.hid hB
  have g1:wc.cell? ⟨g,1,none⟩=some (.string y.v):=hr 1 _ rfl
  clear hB hr s0
  go_wp2_with fail
  go_ret2
  exact ⟨rfl,HB.out⟩
end Go.Proofs.Ytffemfglngikbaa
namespace Go.Proofs.Ytffemfglngikbaa
open Go.RowKit
theorem Moved.of_PgW {a b:World} (h:Below a.heap.size a b) {sn sn':Bool} {A A':Option Addr} (hm:Moved b sn A sn' A'):Moved a sn A sn' A':=
 hm.imp id (fun ⟨h1,g,h2,h3⟩=>⟨h1,g,by have:=h.size;omega,h3⟩)
set_option maxRecDepth 100000 in
set_option maxHeartbeats 4000000 in
theorem bknew_PgW (w:World):Calls Try.prog 42 #[] w fun e w'=>∃bm bp sn A c,e = .returned (.pointer (some ⟨bm,0,none⟩))∧w.heap.size≤bm∧w.heap.size≤bp∧AIn A (w.heap.size≤·)∧Blk w' bm 106 #[.pointer (some ⟨bp,0,none⟩)]∧PgWSet w' bp sn A c []∧Below w.heap.size w w':=by
 go_enter Try.func42,Try.ntmps42
 go_wp2_with fail
 refine (new_PgW none 0 [] _ (RowRd.nil _ _ _) (by simp)).mono ?_
 rintro e w1 ⟨bp,rfl,hbp,sn,A,c,hS,hA,hB⟩
 have HS:=Lib.hid hS
 have HB:=Lib.hid hB
 clear hS hB
 go_wp2_with fail
 go_ret
 have hb9:Below w1.heap.size w1 (w1.alloc (.cells #[.pointer (some ⟨bp,0,none⟩)] 106)):=(Below.refl _ _).alloc (Nat.le_refl _) _
 exact ⟨w1.heap.size,bp,sn,A,c,rfl,HB.out.size,hbp,hA,Blk.new _ _ _,HS.out.new_ hb9,HB.out.trans (hb9.mono HB.out.size)⟩
set_option maxHeartbeats 1000000 in
theorem bklen_PgW (bm bp c:Nat) (sn:Bool) (A:Option Addr) (m:List PgW) (w:World) (hM:Blk w bm 106 #[.pointer (some ⟨bp,0,none⟩)]) (hS:PgWSet w bp sn A c m) :
 Calls Try.prog 46 #[.pointer (some ⟨bm,0,none⟩)] w fun e w'=>e = .returned (.int .i64 m.length)∧w=w':=by
 have s0:=hM.c1
 have hbl:=hM.lt
 have HS:=Lib.hid hS
 clear hM hS
 go_enter Try.func46,Try.ntmps46
 go_wp2_with fail
 refine (len_PgW bp c sn A m w HS.out).mono ?_
 rintro e w' ⟨rfl,rfl⟩
 go_wp2_with fail
 go_ret
 exact ⟨rfl,rfl⟩
set_option maxRecDepth 100000 in
set_option maxHeartbeats 16000000 in
theorem bkput_PgW (bm bp cc:Nat) (sn:Bool) (A:Option Addr) (m:List PgW) (x:PgW) (w:World) (hM:Blk w bm 106 #[.pointer (some ⟨bp,0,none⟩)]) (hS:PgWSet w bp sn A cc m) (hs:Srt cmpPgW m) (hl:(m.length:Int)≤1000000) (hh:has cmpPgW m x=false) :
 Calls Try.prog 44 #[.pointer (some ⟨bm,0,none⟩),.string x.kk,.string x.v] w fun e w'=>e = .returned (.bool true)∧∃sn' A' c',PgWSet w' bp sn' A' c' (put cmpPgW m x)∧Fr (SetMod bp sn A) w w'∧Moved w sn A sn' A':=by
 obtain ⟨c,hc⟩ : ∃c,c=x.kk:=⟨_,rfl⟩
 obtain ⟨xv,hv⟩ : ∃v,v=x.v:=⟨_,rfl⟩
 have hx:x=⟨c,xv⟩:=by rw [hc,hv]
 rw [← hc,← hv]
 subst hx
 clear hc hv
 have hh0:has cmpPgW m ⟨c,⟨#[]⟩⟩=false:=hh
 have s0:=hM.c1
 have hml:=hM.lt
 have HS:=Lib.hid hS
 have HO:=Lib.hid hs
 have HM:=Lib.hid hM
 have HH0:=Lib.hid hh
 have HH:=Lib.hid hh0
 clear hS hs hM hh hh0
 go_enter Try.func44,Try.ntmps44
 go_upto_region 3 with (fail)
 go_cut [8] from 11 (fun b wc=>b = .bool false∧Below w.heap.size w wc)
 case first=>
  refine wp_region_Pl (fun w9=>Below w.heap.size w w9) [0,1,2,3,4,7,8,9,12] [3] (.fork [(0,0),(1,0),(2,0),(3,1),(4,0)] 5 (.fork [] 6 (.fin [(7,0),(8,0),(9,0),(10,2),(11,2),(12,0)]) 10 (.fin [(6,2),(7,0),(8,0),(9,0),(11,2),(12,0)])) 10 (.fin [(5,2),(6,2),(7,0),(8,0),(9,0),(11,2),(12,0)])) (by kernel_rfl) (by kernel_rfl) (by kernel_rfl) (fun KK hKK=>?_)
  simp only [wpPl,beside,List.filterMap_cons,List.filterMap_nil,List.getElem?_toArray,List.getElem?_cons_zero,List.getElem?_cons_succ,Option.map_some]
  repeat ((first | (refine wpY_w ?_ (Or.inl ⟨by rfl,fun w9=>?_⟩) ?_;rotate_left 1;go_simp;with_reducible rfl) | (refine wpY_l ?_ ((Below.refl _ _).drew) (Or.inl ⟨by rfl,fun w9 hw9=>?_⟩) ?_;rotate_left 1;obtain ⟨hc9,hf9⟩:=bcell hw9;go_simp;with_reducible rfl) | refine wpY_w undef (Or.inr ⟨by rfl,rfl⟩) ?_ | refine wpY_l undef ((Below.refl _ _).drew) (Or.inr ⟨by rfl,rfl⟩) ?_);go_frame)
  refine wpY_nil ⟨?_,?_⟩
  · refine wpOp_cs rfl (fun K9 hK9=>?_)
    go_simp
    refine (bkat_PgW c _).mono ?_
    rintro e wa ⟨rfl,hba⟩
    have HBa:=Lib.hid (((Below.refl w.heap.size w).drew).trans (hba.mono (by first | omega | simp)))
    clear hba
    have hza:=HBa.out.size
    refine hK9 _ _ (fun _=>HBa.out) ?_
    clear hK9 K9
    try go_frame
    try simp only [beside,List.filterMap_nil]
    refine wpY_nil ⟨?_,?_⟩
    · refine wpOp_cs rfl (fun K9 hK9=>?_)
      go_simp
      refine (get_no_PgW bp cc sn A m (zPgW c) _ (HS.out.new_ (HBa.out)) HO.out (by omega) HH.out).mono ?_
      rintro e wg ⟨rfl,hbg⟩
      have HBg:=Lib.hid ((HBa.out).trans (hbg.mono (by have:=HBa.out.size;first | omega | (simp;done) | (simp;omega))))
      clear hbg
      have hzg:=HBg.out.size
      refine hK9 _ _ (fun _=>HBg.out) ?_
      clear hK9 K9
      try go_frame
      try simp only [beside,List.filterMap_nil]
      repeat ((first | (refine wpY_w ?_ (Or.inl ⟨by rfl,fun w9=>?_⟩) ?_;rotate_left 1;go_simp;with_reducible rfl) | (refine wpY_l ?_ (HBg.out) (Or.inl ⟨by rfl,fun w9 hw9=>?_⟩) ?_;rotate_left 1;obtain ⟨hc9,hf9⟩:=bcell hw9;go_simp;with_reducible rfl) | refine wpY_w undef (Or.inr ⟨by rfl,rfl⟩) ?_ | refine wpY_l undef (HBg.out) (Or.inr ⟨by rfl,rfl⟩) ?_);go_frame)
      refine wpY_es (fun K9 hK9=>?_)
      go_simp
      have hB9:=(HBg.out).alloc (by have:=HBg.out.size;first | omega | (simp;done) | (simp;omega)) (.cells #[Value.string ⟨#[]⟩,Value.string ⟨#[]⟩] 104)
      have HB9:=Lib.hid hB9
      have hk9:Blk (wg.alloc (.cells #[Value.string ⟨#[]⟩,Value.string ⟨#[]⟩] 104)) wg.heap.size 104 #[Value.string ⟨#[]⟩,Value.string ⟨#[]⟩]:=Blk.new wg 104 #[Value.string ⟨#[]⟩,Value.string ⟨#[]⟩]
      have HK9:=Lib.hid hk9
      clear hB9 hk9
      have hz9:=HB9.out.size
      refine hK9 _ _ (HB9.out) ?_
      clear hK9 K9
      try go_frame
      refine wpY_es (fun K9 hK9=>?_)
      refine step_store_el rfl 104 _ _ rfl wg.heap.size 0 #[Value.string ⟨#[]⟩,Value.string ⟨#[]⟩] rfl rfl (show _ from (HK9.out).there) (by kernel_rfl) (by kernel_rfl) ?_
      refine hK9 _ _ (Below.setCells' _ _ (HB9.out) (by have:=(HB9.out).size;first | omega | (simp;done) | (simp;omega))) ?_
      clear hK9 K9
      try go_frame
      repeat ((first | (refine wpY_w ?_ (Or.inl ⟨by rfl,fun w9=>?_⟩) ?_;rotate_left 1;go_simp;with_reducible rfl) | (refine wpY_l ?_ (Below.setCells' _ _ (HB9.out) (by have:=(HB9.out).size;first | omega | (simp;done) | (simp;omega))) (Or.inl ⟨by rfl,fun w9 hw9=>?_⟩) ?_;rotate_left 1;obtain ⟨hc9,hf9⟩:=bcell hw9;go_simp;with_reducible rfl) | refine wpY_w undef (Or.inr ⟨by rfl,rfl⟩) ?_ | refine wpY_l undef (Below.setCells' _ _ (HB9.out) (by have:=(HB9.out).size;first | omega | (simp;done) | (simp;omega))) (Or.inr ⟨by rfl,rfl⟩) ?_);go_frame)
      refine wpY_nil ?_
      simp only [OnlyN_normal]
      refine hKK _ _ ?_
      clear hKK KK
      go_wp2_with fail
      go_meet
      case rel=>exact ⟨rfl,Below.setCells' _ _ (HB9.out) (by have:=(HB9.out).size;first | omega | (simp;done) | (simp;omega))⟩
    · refine wpOp_cs rfl (fun K9 hK9=>?_)
      go_simp
      have hB9:=(HBa.out).alloc (by have:=HBa.out.size;first | omega | (simp;done) | (simp;omega)) (.cells #[Value.string ⟨#[]⟩,Value.string ⟨#[]⟩] 104)
      have HB9:=Lib.hid hB9
      have hk9:Blk (wa.alloc (.cells #[Value.string ⟨#[]⟩,Value.string ⟨#[]⟩] 104)) wa.heap.size 104 #[Value.string ⟨#[]⟩,Value.string ⟨#[]⟩]:=Blk.new wa 104 #[Value.string ⟨#[]⟩,Value.string ⟨#[]⟩]
      have HK9:=Lib.hid hk9
      clear hB9 hk9
      have hz9:=HB9.out.size
      refine hK9 _ _ (fun _=>HB9.out) ?_
      clear hK9 K9
      try go_frame
      try simp only [beside,List.filterMap_nil]
      refine wpY_es (fun K9 hK9=>?_)
      go_simp
      refine (get_no_PgW bp cc sn A m (zPgW c) _ (HS.out.new_ (HB9.out)) HO.out (by omega) HH.out).mono ?_
      rintro e wg ⟨rfl,hbg⟩
      have HBg:=Lib.hid ((HB9.out).trans (hbg.mono (by have:=HB9.out.size;first | omega | (simp at this ⊢;done) | (simp at this ⊢;omega))))
      have HKg:=Lib.hid ((HK9.out).new_ hbg)
      clear hbg
      have hzg:=HBg.out.size
      refine hK9 _ _ (HBg.out) ?_
      clear hK9 K9
      try go_frame
      repeat ((first | (refine wpY_w ?_ (Or.inl ⟨by rfl,fun w9=>?_⟩) ?_;rotate_left 1;go_simp;with_reducible rfl) | (refine wpY_l ?_ (HBg.out) (Or.inl ⟨by rfl,fun w9 hw9=>?_⟩) ?_;rotate_left 1;obtain ⟨hc9,hf9⟩:=bcell hw9;go_simp;with_reducible rfl) | refine wpY_w undef (Or.inr ⟨by rfl,rfl⟩) ?_ | refine wpY_l undef (HBg.out) (Or.inr ⟨by rfl,rfl⟩) ?_);go_frame)
      refine wpY_es (fun K9 hK9=>?_)
      refine step_store_el rfl 104 _ _ rfl wa.heap.size 0 #[Value.string ⟨#[]⟩,Value.string ⟨#[]⟩] rfl rfl (show _ from (HKg.out).there) (by kernel_rfl) (by kernel_rfl) ?_
      refine hK9 _ _ (Below.setCells' _ _ (HBg.out) (by have:=(HBg.out).size;first | omega | (simp;done) | (simp;omega))) ?_
      clear hK9 K9
      try go_frame
      repeat ((first | (refine wpY_w ?_ (Or.inl ⟨by rfl,fun w9=>?_⟩) ?_;rotate_left 1;go_simp;with_reducible rfl) | (refine wpY_l ?_ (Below.setCells' _ _ (HBg.out) (by have:=(HBg.out).size;first | omega | (simp;done) | (simp;omega))) (Or.inl ⟨by rfl,fun w9 hw9=>?_⟩) ?_;rotate_left 1;obtain ⟨hc9,hf9⟩:=bcell hw9;go_simp;with_reducible rfl) | refine wpY_w undef (Or.inr ⟨by rfl,rfl⟩) ?_ | refine wpY_l undef (Below.setCells' _ _ (HBg.out) (by have:=(HBg.out).size;first | omega | (simp;done) | (simp;omega))) (Or.inr ⟨by rfl,rfl⟩) ?_);go_frame)
      refine wpY_nil ?_
      simp only [OnlyN_normal]
      refine hKK _ _ ?_
      clear hKK KK
      go_wp2_with fail
      go_meet
      case rel=>exact ⟨rfl,Below.setCells' _ _ (HBg.out) (by have:=(HBg.out).size;first | omega | (simp;done) | (simp;omega))⟩
  · refine wpOp_cs rfl (fun K9 hK9=>?_)
    go_simp
    have hB9:=((Below.refl w.heap.size w).drew).alloc (by first | omega | simp) (.cells #[Value.string ⟨#[]⟩,Value.string ⟨#[]⟩] 104)
    have HB9:=Lib.hid hB9
    have hk9:Blk (w.drew.alloc (.cells #[Value.string ⟨#[]⟩,Value.string ⟨#[]⟩] 104)) w.heap.size 104 #[Value.string ⟨#[]⟩,Value.string ⟨#[]⟩]:=Blk.new w.drew 104 #[Value.string ⟨#[]⟩,Value.string ⟨#[]⟩]
    have HK9:=Lib.hid hk9
    clear hB9 hk9
    have hz9:=HB9.out.size
    refine hK9 _ _ (fun _=>HB9.out) ?_
    clear hK9 K9
    try go_frame
    try simp only [beside,List.filterMap_nil]
    refine wpY_es (fun K9 hK9=>?_)
    go_simp
    refine (bkat_PgW c _).mono ?_
    rintro e wa ⟨rfl,hba⟩
    have HBa:=Lib.hid ((HB9.out).trans (hba.mono (by have:=HB9.out.size;first | omega | (simp at this ⊢;done) | (simp at this ⊢;omega))))
    have HKa:=Lib.hid ((HK9.out).new_ hba)
    clear hba
    have hza:=HBa.out.size
    refine hK9 _ _ (HBa.out) ?_
    clear hK9 K9
    try go_frame
    refine wpY_es (fun K9 hK9=>?_)
    go_simp
    refine (get_no_PgW bp cc sn A m (zPgW c) _ (HS.out.new_ (HBa.out)) HO.out (by omega) HH.out).mono ?_
    rintro e wg ⟨rfl,hbg⟩
    have HBg:=Lib.hid ((HBa.out).trans (hbg.mono (by have:=HBa.out.size;first | omega | (simp;done) | (simp;omega))))
    have HKg:=Lib.hid ((HKa.out).new_ hbg)
    clear hbg
    have hzg:=HBg.out.size
    refine hK9 _ _ (HBg.out) ?_
    clear hK9 K9
    try go_frame
    repeat ((first | (refine wpY_w ?_ (Or.inl ⟨by rfl,fun w9=>?_⟩) ?_;rotate_left 1;go_simp;with_reducible rfl) | (refine wpY_l ?_ (HBg.out) (Or.inl ⟨by rfl,fun w9 hw9=>?_⟩) ?_;rotate_left 1;obtain ⟨hc9,hf9⟩:=bcell hw9;go_simp;with_reducible rfl) | refine wpY_w undef (Or.inr ⟨by rfl,rfl⟩) ?_ | refine wpY_l undef (HBg.out) (Or.inr ⟨by rfl,rfl⟩) ?_);go_frame)
    refine wpY_es (fun K9 hK9=>?_)
    refine step_store_el rfl 104 _ _ rfl w.heap.size 0 #[Value.string ⟨#[]⟩,Value.string ⟨#[]⟩] rfl rfl (show _ from (HKg.out).there) (by kernel_rfl) (by kernel_rfl) ?_
    refine hK9 _ _ (Below.setCells' _ _ (HBg.out) (by have:=(HBg.out).size;first | omega | (simp;done) | (simp;omega))) ?_
    clear hK9 K9
    try go_frame
    repeat ((first | (refine wpY_w ?_ (Or.inl ⟨by rfl,fun w9=>?_⟩) ?_;rotate_left 1;go_simp;with_reducible rfl) | (refine wpY_l ?_ (Below.setCells' _ _ (HBg.out) (by have:=(HBg.out).size;first | omega | (simp;done) | (simp;omega))) (Or.inl ⟨by rfl,fun w9 hw9=>?_⟩) ?_;rotate_left 1;obtain ⟨hc9,hf9⟩:=bcell hw9;go_simp;with_reducible rfl) | refine wpY_w undef (Or.inr ⟨by rfl,rfl⟩) ?_ | refine wpY_l undef (Below.setCells' _ _ (HBg.out) (by have:=(HBg.out).size;first | omega | (simp;done) | (simp;omega))) (Or.inr ⟨by rfl,rfl⟩) ?_);go_frame)
    refine wpY_nil ?_
    simp only [OnlyN_normal]
    refine hKK _ _ ?_
    clear hKK KK
    go_wp2_with fail
    go_meet
    case rel=>exact ⟨rfl,Below.setCells' _ _ (HBg.out) (by have:=(HBg.out).size;first | omega | (simp;done) | (simp;omega))⟩
 case rest=>
  obtain ⟨rfl,hB⟩:=hcut
  have r0:=(HM.out.new_ hB).c1
  have hml2:=(HM.out.new_ hB).lt
  have HB:=Lib.hid hB
  have HS2:=Lib.hid (HS.out.new_ hB)
  clear hB s0
  go_wp2_with fail
  refine (put_PgW bp cc sn A m ⟨c,xv⟩ _ HS2.out HO.out (by omega)).mono ?_
  rintro e w5 ⟨rfl,hch⟩
  have HP:=Lib.hid hch
  clear hch
  go_wp2_with fail
  go_ret
  obtain ⟨sn',A',c',g1,g2,g3⟩:=HP.out
  refine ⟨by rw [HH0.out]<;>rfl,sn',A',c',g1,(Fr.of_new HB.out).trans g2,Moved.of_PgW HB.out g3⟩
end Go.Proofs.Ytffemfglngikbaa
namespace Go.Proofs.Ytffemfglngikbaa
open Go.RowKit
def smallB (c:UInt8):Bool:=decide (97≤c.toNat) && decide (c.toNat≤122)
def greatB (c:UInt8):Bool:=decide (65≤c.toNat) && decide (c.toNat≤90)
def digitB (c:UInt8):Bool:=decide (48≤c.toNat) && decide (c.toNat≤57)
def partB (c:UInt8):Bool:=smallB c || digitB c || c.toNat == 45 || c.toNat == 95
def isWord (t:ByteArray):Bool:=decide (1≤t.size) && decide (t.size≤32) && t.data.toList.head?.any smallB && t.data.toList.all partB
theorem isWord_iff {t:ByteArray}:isWord t=true↔∃h:0<t.size,t.size≤32∧smallB t[0]=true∧∀k,(h:k<t.size)→partB t[k]=true:=by
 unfold isWord
 rw [Bool.and_eq_true,Bool.and_eq_true,Bool.and_eq_true,decide_eq_true_iff,decide_eq_true_iff,List.all_eq_true]
 have hs:t.data.toList.length=t.size:=Array.length_toList
 constructor
 · rintro ⟨⟨⟨h1,h2⟩,h3⟩,h4⟩
   refine ⟨h1,h2,?_,fun k h=>h4 _ ?_⟩
   · rw [List.head?_eq_getElem?,List.getElem?_eq_getElem (by omega)] at h3
     exact (by simpa only [Option.any_some,Array.getElem_toList] using h3:smallB t.data[0]=true)
   · have:t[k]=t.data.toList[k]'(by omega):=by rw [Array.getElem_toList];rfl
     rw [this];exact List.getElem_mem _
 · rintro ⟨h1,h2,h3,h4⟩
   refine ⟨⟨⟨h1,h2⟩,?_⟩,fun x hx=>?_⟩
   · rw [List.head?_eq_getElem?,List.getElem?_eq_getElem (by omega)]
     rw [Option.any_some,Array.getElem_toList]
     exact h3
   · obtain ⟨k,hk,rfl⟩:=List.getElem_of_mem hx
     have:=h4 k (by omega)
     rw [Array.getElem_toList]
     exact this
theorem isWord_no {t:ByteArray} (h : ¬∃h:0<t.size,t.size≤32∧smallB t[0]=true∧∀k,(h:k<t.size)→partB t[k]=true):isWord t=false:=by
 cases e:isWord t
 · rfl
 · exact absurd (isWord_iff.1 e) h
set_option maxHeartbeats 400000 in
theorem small_is (c:UInt8) (w:World):Calls Try.prog 96 #[.int .u8 (c.toNat:Int)] w fun e w'=>e = .returned (.bool (smallB c))∧w=w':=by
 by_cases h1:97≤c.toNat
 · have t1:decide ((97:Int)≤(c.toNat:Int))=true:=by simp;omega
   by_cases h2:c.toNat≤122
   · have t2:decide ((c.toNat:Int)≤122)=true:=by simp;omega
     have HF:Hid (smallB c=true):=by simp [Hid,smallB,h1,h2]
     clear h1 h2
     go_enter Try.func96,Try.ntmps96
     go_wp2
     go_ret
     exact ⟨by rw [HF.out];rfl,rfl⟩
   · have t2:decide ((c.toNat:Int)≤122)=false:=by simp;omega
     have HF:Hid (smallB c=false):=by simp [Hid,smallB,h2]
     clear h1 h2
     go_enter Try.func96,Try.ntmps96
     go_wp2
     go_ret
     exact ⟨by rw [HF.out];rfl,rfl⟩
 · have t1:decide ((97:Int)≤(c.toNat:Int))=false:=by simp;omega
   have HF:Hid (smallB c=false):=by simp [Hid,smallB,h1]
   clear h1
   go_enter Try.func96,Try.ntmps96
   go_wp2
   go_ret
   exact ⟨by rw [HF.out];rfl,rfl⟩
set_option maxHeartbeats 400000 in
theorem great_is (c:UInt8) (w:World):Calls Try.prog 112 #[.int .u8 (c.toNat:Int)] w fun e w'=>e = .returned (.bool (greatB c))∧w=w':=by
 by_cases h1:65≤c.toNat
 · have t1:decide ((65:Int)≤(c.toNat:Int))=true:=by simp;omega
   by_cases h2:c.toNat≤90
   · have t2:decide ((c.toNat:Int)≤90)=true:=by simp;omega
     have HF:Hid (greatB c=true):=by simp [Hid,greatB,h1,h2]
     clear h1 h2
     go_enter Try.func112,Try.ntmps112
     go_wp2
     go_ret
     exact ⟨by rw [HF.out];rfl,rfl⟩
   · have t2:decide ((c.toNat:Int)≤90)=false:=by simp;omega
     have HF:Hid (greatB c=false):=by simp [Hid,greatB,h2]
     clear h1 h2
     go_enter Try.func112,Try.ntmps112
     go_wp2
     go_ret
     exact ⟨by rw [HF.out];rfl,rfl⟩
 · have t1:decide ((65:Int)≤(c.toNat:Int))=false:=by simp;omega
   have HF:Hid (greatB c=false):=by simp [Hid,greatB,h1]
   clear h1
   go_enter Try.func112,Try.ntmps112
   go_wp2
   go_ret
   exact ⟨by rw [HF.out];rfl,rfl⟩
set_option maxHeartbeats 400000 in
theorem digit_is (c:UInt8) (w:World):Calls Try.prog 97 #[.int .u8 (c.toNat:Int)] w fun e w'=>e = .returned (.bool (digitB c))∧w=w':=by
 by_cases h1:48≤c.toNat
 · have t1:decide ((48:Int)≤(c.toNat:Int))=true:=by simp;omega
   by_cases h2:c.toNat≤57
   · have t2:decide ((c.toNat:Int)≤57)=true:=by simp;omega
     have HF:Hid (digitB c=true):=by simp [Hid,digitB,h1,h2]
     clear h1 h2
     go_enter Try.func97,Try.ntmps97
     go_wp2
     go_ret
     exact ⟨by rw [HF.out];rfl,rfl⟩
   · have t2:decide ((c.toNat:Int)≤57)=false:=by simp;omega
     have HF:Hid (digitB c=false):=by simp [Hid,digitB,h2]
     clear h1 h2
     go_enter Try.func97,Try.ntmps97
     go_wp2
     go_ret
     exact ⟨by rw [HF.out];rfl,rfl⟩
 · have t1:decide ((48:Int)≤(c.toNat:Int))=false:=by simp;omega
   have HF:Hid (digitB c=false):=by simp [Hid,digitB,h1]
   clear h1
   go_enter Try.func97,Try.ntmps97
   go_wp2
   go_ret
   exact ⟨by rw [HF.out];rfl,rfl⟩
set_option maxRecDepth 100000 in
set_option maxHeartbeats 2000000 in
theorem word_is (t:ByteArray) (w:World):Calls Try.prog 86 #[.string t] w fun e w'=>e = .returned (.bool (isWord t))∧w=w':=by
 by_cases h1:t.size<1
 · have t1:decide ((t.size:Int)<1)=true:=by simp;omega
   have HF:=Lib.hid (isWord_no (t:=t) (fun ⟨h,_⟩=>by omega))
   clear h1
   go_enter Try.func86,Try.ntmps86
   go_wp2
   go_ret
   exact ⟨by rw [HF.out];rfl,rfl⟩
 have t1:decide ((t.size:Int)<1)=false:=by simp;omega
 by_cases h2:32<t.size
 · have t2:decide ((32:Int)<(t.size:Int))=true:=by simp;omega
   have HF:=Lib.hid (isWord_no (t:=t) (fun ⟨h,h3,_⟩=>by omega))
   clear h1 h2
   go_enter Try.func86,Try.ntmps86
   go_wp2
   go_ret
   exact ⟨by rw [HF.out];rfl,rfl⟩
 have t2:decide ((32:Int)<(t.size:Int))=false:=by simp;omega
 have h0:0<t.size:=by omega
 have h32:t.size≤32:=by omega
 clear h1 h2
 cases h3:smallB t[0]
 · have HF:=Lib.hid (isWord_no (t:=t) (fun ⟨h,_,h4,_⟩=>by rw [h3] at h4;cases h4))
   go_enter Try.func86,Try.ntmps86
   go_wp2_with (go_at_call 96;refine (small_is _ _).mono ?_;rintro e w' ⟨rfl,rfl⟩)
   go_ret
   exact ⟨by rw [HF.out];rfl,rfl⟩
 go_enter Try.func86,Try.ntmps86
 go_wp2_with (go_at_call 96;refine (small_is _ _).mono ?_;rintro e w' ⟨rfl,rfl⟩)
 have H3:=Lib.hid h3
 clear h3 t1 t2
 go_loop [3] (fun s=>∃i:Nat,s = .int .i64 i∧1≤i∧i≤t.size∧∀k,(h:k<t.size)→k<i→partB t[k]=true) (fun s=>t.size - (intOf s).toNat)
 case atStart=>exact ⟨1,rfl,Nat.le_refl _,h0,fun k h hk=>by obtain rfl:k=0:=by omega
                                                            simp [partB,H3.out]⟩
 case round=>
  obtain ⟨i,rfl,hi1,hi,hall⟩:=hrel
  have HALL:=Lib.hid hall
  clear hall
  by_cases hlt:i<t.size
  · have HP:Hid (partB t[i]=(smallB t[i] || digitB t[i] || decide (t[i].toNat=45) || decide (t[i].toNat=95))):=rfl
    have t5:((t[i].toNat:Int) != 45) = !decide (t[i].toNat=45):=by rw [Bool.eq_iff_iff];simp;omega
    have t6:((t[i].toNat:Int) != 95) = !decide (t[i].toNat=95):=by rw [Bool.eq_iff_iff];simp;omega
    cases hs:smallB t[i]<;>cases hd:digitB t[i]<;>cases h5:decide (t[i].toNat=45)<;>cases h6:decide (t[i].toNat=95)
    all_goals
     rw [h5] at t5;rw [h6] at t6
     simp only [Bool.not_true,Bool.not_false] at t5 t6
     have HF1:=HP.out
     rw [hs,hd,h5,h6] at HF1
     have HF2:=Lib.hid HF1
     clear h5 h6 HP HF1
     go_wp2_with (first | (go_at_call 96;refine (small_is _ _).mono ?_;rintro e w' ⟨rfl,rfl⟩) | (go_at_call 97;refine (digit_is _ _).mono ?_;rintro e w' ⟨rfl,rfl⟩))
     first
      | (go_ret
         refine ⟨?_,rfl⟩
         rw [isWord_no (t:=t) (fun ⟨_,_,_,h⟩=>by have h2:=h i hlt;rw [HF2.out] at h2;exact absurd h2 (by decide))];rfl)
      | (go_round
         case rel=>exact ⟨i+1,by go_num,by omega,by omega,fun k h hk=>by
          rcases Nat.lt_or_ge k i with h3 | h3
          · exact HALL.out k h h3
          · obtain rfl:k=i:=by omega
            rw [HF2.out];rfl⟩
         case measure=>simp [intOf]<;>omega)
  · have hie:i=t.size:=by omega
    subst hie
    go_wp2
    go_ret
    exact ⟨by rw [isWord_iff.2 ⟨h0,h32,H3.out,fun k h=>HALL.out k h h⟩];rfl,rfl⟩
end Go.Proofs.Ytffemfglngikbaa
namespace Go.Proofs.Ytffemfglngikbaa
open Go.RowKit
def byte1 (n:Nat):ByteArray:=⟨#[UInt8.ofNat (48+n)]⟩
theorem conv1 (n:Nat) (h:n<10) (W:World) (g:Nat) (hc:W.cell? ⟨g,0,none⟩=some (.int .u8 (48+(n:Int)))):(convert 111 9 (.slice (some ⟨g,0,none⟩) 1 1)).run Try.prog W = .ok (.string (byte1 n)) W:=
 Lib.run_convert_whole (P:=Try.prog) W 111 5 9 Try.underlying111 Try.underlying5 Try.underlying9 g 0 (byte1 n) (fun i hi=>by
  have:i=0:=by have:(byte1 n).size=1:=rfl;omega
  subst this
  rw [Nat.add_zero,hc]
  have e:(byte1 n)[0].toNat=48+n:=by show (UInt8.ofNat (48+n)).toNat=48+n;simp;omega
  rw [e]
  simp) 1
def decB (n:Nat):ByteArray:=if n<10 then byte1 n else decB (n / 10)++byte1 (n % 10)
theorem byte1_size (n:Nat):(byte1 n).size=1:=rfl
theorem decB_size (n:Nat):(decB n).size≤n+1:=by
 induction n using Nat.strongRecOn with
 | _ n ih=>
   rw [decB]
   split
   · rw [byte1_size];omega
   · have h1:=ih (n / 10) (by omega)
     rw [ByteArray.size_append,byte1_size];omega
set_option maxRecDepth 100000 in
set_option maxHeartbeats 4000000 in
theorem digits_step (n:Nat) (h : ¬n<10) (hn:n≤4000000000) (ih : ∀w,Calls Try.prog 111 #[.int .i64 ((n / 10:Nat):Int)] w fun e w'=>e = .returned (.string (decB (n / 10)))∧Below w.heap.size w w') (w:World):Calls Try.prog 111 #[.int .i64 n] w fun e w'=>e = .returned (.string (decB n))∧Below w.heap.size w w':=by
 have t1:decide ((n:Int)<10)=false:=by simp;omega
 have b0:(0:Int)≤(n:Int):=by omega
 have b1:(n:Int)≤4000000000:=by omega
 have hc:=conv1 (n % 10) (by omega)
 have e1:((n:Int) / 10)=((n / 10:Nat):Int):=by omega
 have e2:((n:Int) % 10)=((n % 10:Nat):Int):=by omega
 have m0:(0:Int)≤((n % 10:Nat):Int):=by omega
 have m1:((n % 10:Nat):Int)≤9:=by omega
 obtain ⟨m,hm⟩ : ∃m,m=n % 10:=⟨_,rfl⟩
 obtain ⟨q,hq⟩ : ∃q,q=n / 10:=⟨_,rfl⟩
 rw [← hm] at hc e2 m0 m1
 rw [← hq] at e1 ih
 have HD:Hid (decB n=decB q++byte1 m):=by rw [decB,if_neg h,hm,hq];rfl
 have v1:IntKind.i64.wrap (q:Int)=(q:Int):=IntWalk.i64_in _ (by omega)
 have v2:((n:Int)).tmod 10=(m:Int):=by rw [Int.tmod_eq_emod_of_nonneg b0,e2]
 have v3:IntKind.i64.wrap (48+(m:Int))=48+(m:Int):=IntWalk.i64_in _ (by omega)
 have v4:IntKind.u8.wrap (48+(m:Int))=48+(m:Int):=by simp [IntKind.wrap,IntKind.signed,IntKind.bits];omega
 have hz : ¬9223372036854775807<(decB q).size+(byte1 m).size:=by have:=decB_size q;rw [byte1_size];omega
 clear e2
 have IH:=Lib.hid ih
 have HC:=Lib.hid hc
 clear ih h hm hq hc
 go_enter Try.func111,Try.ntmps111
 go_wp2_with fail
 refine wp_region_Pl (fun _=>True) [0,1,3,4,5,6,9,10] [] (.fork [(0,0),(1,0),(3,0),(4,0),(5,0),(6,0)] 2 (.fin [(7,2),(8,2),(9,0),(10,0)]) 7 (.fork [] 2 (.fin [(8,2),(9,0),(10,0)]) 8 (.fin [(2,2),(9,0),(10,0)]))) (by kernel_rfl) (by kernel_rfl) (by kernel_rfl) (fun KK hKK=>?_)
 simp only [wpPl,beside,List.filterMap_cons,List.filterMap_nil,List.getElem?_toArray,List.getElem?_cons_zero,List.getElem?_cons_succ,Option.map_some,List.any_nil]
 repeat (refine wpY_w ?_ (Or.inl ⟨by rfl,fun w9=>?_⟩) ?_;rotate_left 1;go_simp;with_reducible rfl;go_frame)
 refine wpY_nil ⟨?_,?_⟩
 · refine wpOp_c (fun _=>by simp) rfl (fun K9 hK9=>?_)
   go_simp
   refine (IH.out _).mono ?_
   rintro e w1 ⟨rfl,hb1⟩
   refine hK9 _ _ ?_
   clear hK9 K9
   try go_frame
   refine wpY_e (by rfl) (fun K9 hK9=>?_)
   go_simp
   refine hK9 _ _ ?_
   clear hK9 K9
   try go_frame
   refine wpY_e (by rfl) (fun K9 hK9=>?_)
   have hc:=HC.out (w1.alloc (.cells #[.int .u8 (48+(m:Int))] 5)) w1.heap.size ((Blk.new _ _ _).cell 0)
   go_simp
   refine hK9 _ _ ?_
   clear hK9 K9 hc
   try go_frame
   repeat (refine wpY_w ?_ (Or.inl ⟨by rfl,fun w9=>?_⟩) ?_;rotate_left 1;go_simp;with_reducible rfl;go_frame)
   refine wpY_nil ?_
   simp only [OnlyN_normal]
   refine hKK _ _ ?_
   clear hKK KK
   go_wp2_with fail
   go_ret
   exact ⟨by rw [HD.out];rfl,((Below.refl _ _).drew.trans (hb1.mono (by simp))).alloc (by have:=hb1.size;simpa using this) _⟩
 · refine wpOp_c (fun _=>by simp) rfl (fun K9 hK9=>?_)
   go_simp
   refine hK9 _ _ ?_
   clear hK9 K9
   try go_frame
   try simp only [beside]
   refine wpY_nil ⟨?_,?_⟩
   · refine wpOp_c (fun _=>by simp) rfl (fun K9 hK9=>?_)
     go_simp
     refine (IH.out _).mono ?_
     rintro e w1 ⟨rfl,hb1⟩
     refine hK9 _ _ ?_
     clear hK9 K9
     try go_frame
     refine wpY_e (by rfl) (fun K9 hK9=>?_)
     have hc:=HC.out w1 w.heap.size ((hb1.cell (by simp)).trans ((Blk.new w.drew 5 #[.int .u8 (48+(m:Int))]).cell 0))
     go_simp
     refine hK9 _ _ ?_
     clear hK9 K9 hc
     try go_frame
     repeat (refine wpY_w ?_ (Or.inl ⟨by rfl,fun w9=>?_⟩) ?_;rotate_left 1;go_simp;with_reducible rfl;go_frame)
     refine wpY_nil ?_
     simp only [OnlyN_normal]
     refine hKK _ _ ?_
     clear hKK KK
     go_wp2_with fail
     go_ret
     exact ⟨by rw [HD.out];rfl,((Below.refl _ _).drew.alloc (by simp) _).trans (hb1.mono (by simp))⟩
   · refine wpOp_c (fun _=>by simp) rfl (fun K9 hK9=>?_)
     have hc:=HC.out (w.alloc (.cells #[.int .u8 (48+(m:Int))] 5)).drew w.heap.size (((Blk.new w 5 #[.int .u8 (48+(m:Int))]).drew.cell 0).trans rfl)
     go_simp
     refine hK9 _ _ ?_
     clear hK9 K9 hc
     try go_frame
     refine wpY_e (by rfl) (fun K9 hK9=>?_)
     go_simp
     refine (IH.out _).mono ?_
     rintro e w1 ⟨rfl,hb1⟩
     refine hK9 _ _ ?_
     clear hK9 K9
     try go_frame
     repeat (refine wpY_w ?_ (Or.inl ⟨by rfl,fun w9=>?_⟩) ?_;rotate_left 1;go_simp;with_reducible rfl;go_frame)
     refine wpY_nil ?_
     simp only [OnlyN_normal]
     refine hKK _ _ ?_
     clear hKK KK
     go_wp2_with fail
     go_ret
     exact ⟨by rw [HD.out];rfl,((Below.refl _ _).drew.alloc (by simp) _).trans (hb1.mono (by simp))⟩
set_option maxRecDepth 100000 in
set_option maxHeartbeats 1000000 in
theorem digits_base (n:Nat) (h:n<10) (w:World):Calls Try.prog 111 #[.int .i64 n] w fun e w'=>e = .returned (.string (decB n))∧Below w.heap.size w w':=by
 have t1:decide ((n:Int)<10)=true:=by simp;omega
 have b0:(0:Int)≤(n:Int):=by omega
 have b1:(n:Int)≤9:=by omega
 have hc:=conv1 n h (w.alloc (.cells #[.int .u8 (48+(n:Int))] 5)) w.heap.size ((Blk.new _ _ _).cell 0)
 have HD:Hid (decB n=byte1 n):=by rw [decB,if_pos h];rfl
 clear h
 go_enter Try.func111,Try.ntmps111
 go_wp2_with fail
 go_ret
 exact ⟨by rw [HD.out];rfl,(Below.refl _ _).alloc (Nat.le_refl _) _⟩
theorem digits_is (n:Nat) (hn:n≤4000000000) (w:World):Calls Try.prog 111 #[.int .i64 n] w fun e w'=>e = .returned (.string (decB n))∧Below w.heap.size w w':=by
 induction n using Nat.strongRecOn generalizing w with
 | _ n ih=>
   by_cases h:n<10
   · exact digits_base n h w
   · exact digits_step n h hn (fun w=>ih (n / 10) (by omega) (by omega) w) w
set_option maxRecDepth 100000 in
set_option maxHeartbeats 4000000 in
theorem cdigits_step (n:Nat) (h : ¬n<10) (hn:n≤4000000000) (ih : ∀w,Calls Try.prog 45 #[.int .i64 ((n / 10:Nat):Int)] w fun e w'=>e = .returned (.string (decB (n / 10)))∧Below w.heap.size w w') (w:World):Calls Try.prog 45 #[.int .i64 n] w fun e w'=>e = .returned (.string (decB n))∧Below w.heap.size w w':=by
 have t1:decide ((n:Int)<10)=false:=by simp;omega
 have b0:(0:Int)≤(n:Int):=by omega
 have b1:(n:Int)≤4000000000:=by omega
 have hc:=conv1 (n % 10) (by omega)
 have e1:((n:Int) / 10)=((n / 10:Nat):Int):=by omega
 have e2:((n:Int) % 10)=((n % 10:Nat):Int):=by omega
 have m0:(0:Int)≤((n % 10:Nat):Int):=by omega
 have m1:((n % 10:Nat):Int)≤9:=by omega
 obtain ⟨m,hm⟩ : ∃m,m=n % 10:=⟨_,rfl⟩
 obtain ⟨q,hq⟩ : ∃q,q=n / 10:=⟨_,rfl⟩
 rw [← hm] at hc e2 m0 m1
 rw [← hq] at e1 ih
 have HD:Hid (decB n=decB q++byte1 m):=by rw [decB,if_neg h,hm,hq];rfl
 have v1:IntKind.i64.wrap (q:Int)=(q:Int):=IntWalk.i64_in _ (by omega)
 have v2:((n:Int)).tmod 10=(m:Int):=by rw [Int.tmod_eq_emod_of_nonneg b0,e2]
 have v3:IntKind.i64.wrap (48+(m:Int))=48+(m:Int):=IntWalk.i64_in _ (by omega)
 have v4:IntKind.u8.wrap (48+(m:Int))=48+(m:Int):=by simp [IntKind.wrap,IntKind.signed,IntKind.bits];omega
 have hz : ¬9223372036854775807<(decB q).size+(byte1 m).size:=by have:=decB_size q;rw [byte1_size];omega
 clear e2
 have IH:=Lib.hid ih
 have HC:=Lib.hid hc
 clear ih h hm hq hc
 go_enter Try.func45,Try.ntmps45
 go_wp2_with fail
 refine wp_region_Pl (fun _=>True) [0,1,3,4,5,6,9,10] [] (.fork [(0,0),(1,0),(3,0),(4,0),(5,0),(6,0)] 2 (.fin [(7,2),(8,2),(9,0),(10,0)]) 7 (.fork [] 2 (.fin [(8,2),(9,0),(10,0)]) 8 (.fin [(2,2),(9,0),(10,0)]))) (by kernel_rfl) (by kernel_rfl) (by kernel_rfl) (fun KK hKK=>?_)
 simp only [wpPl,beside,List.filterMap_cons,List.filterMap_nil,List.getElem?_toArray,List.getElem?_cons_zero,List.getElem?_cons_succ,Option.map_some,List.any_nil]
 repeat (refine wpY_w ?_ (Or.inl ⟨by rfl,fun w9=>?_⟩) ?_;rotate_left 1;go_simp;with_reducible rfl;go_frame)
 refine wpY_nil ⟨?_,?_⟩
 · refine wpOp_c (fun _=>by simp) rfl (fun K9 hK9=>?_)
   go_simp
   refine (IH.out _).mono ?_
   rintro e w1 ⟨rfl,hb1⟩
   refine hK9 _ _ ?_
   clear hK9 K9
   try go_frame
   refine wpY_e (by rfl) (fun K9 hK9=>?_)
   go_simp
   refine hK9 _ _ ?_
   clear hK9 K9
   try go_frame
   refine wpY_e (by rfl) (fun K9 hK9=>?_)
   have hc:=HC.out (w1.alloc (.cells #[.int .u8 (48+(m:Int))] 5)) w1.heap.size ((Blk.new _ _ _).cell 0)
   go_simp
   refine hK9 _ _ ?_
   clear hK9 K9 hc
   try go_frame
   repeat (refine wpY_w ?_ (Or.inl ⟨by rfl,fun w9=>?_⟩) ?_;rotate_left 1;go_simp;with_reducible rfl;go_frame)
   refine wpY_nil ?_
   simp only [OnlyN_normal]
   refine hKK _ _ ?_
   clear hKK KK
   go_wp2_with fail
   go_ret
   exact ⟨by rw [HD.out];rfl,((Below.refl _ _).drew.trans (hb1.mono (by simp))).alloc (by have:=hb1.size;simpa using this) _⟩
 · refine wpOp_c (fun _=>by simp) rfl (fun K9 hK9=>?_)
   go_simp
   refine hK9 _ _ ?_
   clear hK9 K9
   try go_frame
   try simp only [beside]
   refine wpY_nil ⟨?_,?_⟩
   · refine wpOp_c (fun _=>by simp) rfl (fun K9 hK9=>?_)
     go_simp
     refine (IH.out _).mono ?_
     rintro e w1 ⟨rfl,hb1⟩
     refine hK9 _ _ ?_
     clear hK9 K9
     try go_frame
     refine wpY_e (by rfl) (fun K9 hK9=>?_)
     have hc:=HC.out w1 w.heap.size ((hb1.cell (by simp)).trans ((Blk.new w.drew 5 #[.int .u8 (48+(m:Int))]).cell 0))
     go_simp
     refine hK9 _ _ ?_
     clear hK9 K9 hc
     try go_frame
     repeat (refine wpY_w ?_ (Or.inl ⟨by rfl,fun w9=>?_⟩) ?_;rotate_left 1;go_simp;with_reducible rfl;go_frame)
     refine wpY_nil ?_
     simp only [OnlyN_normal]
     refine hKK _ _ ?_
     clear hKK KK
     go_wp2_with fail
     go_ret
     exact ⟨by rw [HD.out];rfl,((Below.refl _ _).drew.alloc (by simp) _).trans (hb1.mono (by simp))⟩
   · refine wpOp_c (fun _=>by simp) rfl (fun K9 hK9=>?_)
     have hc:=HC.out (w.alloc (.cells #[.int .u8 (48+(m:Int))] 5)).drew w.heap.size (((Blk.new w 5 #[.int .u8 (48+(m:Int))]).drew.cell 0).trans rfl)
     go_simp
     refine hK9 _ _ ?_
     clear hK9 K9 hc
     try go_frame
     refine wpY_e (by rfl) (fun K9 hK9=>?_)
     go_simp
     refine (IH.out _).mono ?_
     rintro e w1 ⟨rfl,hb1⟩
     refine hK9 _ _ ?_
     clear hK9 K9
     try go_frame
     repeat (refine wpY_w ?_ (Or.inl ⟨by rfl,fun w9=>?_⟩) ?_;rotate_left 1;go_simp;with_reducible rfl;go_frame)
     refine wpY_nil ?_
     simp only [OnlyN_normal]
     refine hKK _ _ ?_
     clear hKK KK
     go_wp2_with fail
     go_ret
     exact ⟨by rw [HD.out];rfl,((Below.refl _ _).drew.alloc (by simp) _).trans (hb1.mono (by simp))⟩
set_option maxRecDepth 100000 in
set_option maxHeartbeats 1000000 in
theorem cdigits_base (n:Nat) (h:n<10) (w:World):Calls Try.prog 45 #[.int .i64 n] w fun e w'=>e = .returned (.string (decB n))∧Below w.heap.size w w':=by
 have t1:decide ((n:Int)<10)=true:=by simp;omega
 have b0:(0:Int)≤(n:Int):=by omega
 have b1:(n:Int)≤9:=by omega
 have hc:=conv1 n h (w.alloc (.cells #[.int .u8 (48+(n:Int))] 5)) w.heap.size ((Blk.new _ _ _).cell 0)
 have HD:Hid (decB n=byte1 n):=by rw [decB,if_pos h];rfl
 clear h
 go_enter Try.func45,Try.ntmps45
 go_wp2_with fail
 go_ret
 exact ⟨by rw [HD.out];rfl,(Below.refl _ _).alloc (Nat.le_refl _) _⟩
theorem cdigits_is (n:Nat) (hn:n≤4000000000) (w:World):Calls Try.prog 45 #[.int .i64 n] w fun e w'=>e = .returned (.string (decB n))∧Below w.heap.size w w':=by
 induction n using Nat.strongRecOn generalizing w with
 | _ n ih=>
   by_cases h:n<10
   · exact cdigits_base n h w
   · exact cdigits_step n h hn (fun w=>ih (n / 10) (by omega) (by omega) w) w
def numB (n:Int):ByteArray:=if n<0 then ⟨#[45]⟩++decB (-n).toNat else decB n.toNat
end Go.Proofs.Ytffemfglngikbaa
namespace Go.Proofs.Ytffemfglngikbaa
instance memTxt (v:ByteArray) (l:List ByteArray):Decidable (v∈l):=decidable_of_iff (l.any (fun u=>decide (u=v))=true) (by simp)
def uqStep (u:List ByteArray) (v:ByteArray):List ByteArray:=if v∈u then u else u ++ [v]
def uq (q:List ByteArray):List ByteArray:=q.foldl uqStep []
theorem uq_snoc (q:List ByteArray) (v:ByteArray):uq (q ++ [v])=uqStep (uq q) v:=by unfold uq;rw [List.foldl_append];rfl
theorem uqStep_len (u:List ByteArray) (v:ByteArray):(uqStep u v).length≤u.length+1:=by unfold uqStep;split<;>simp
theorem uq_fold_len : ∀(q u:List ByteArray),(q.foldl uqStep u).length≤u.length+q.length
 | [],_=>by simp
 | v :: q,u=>by have h1:=uq_fold_len q (uqStep u v);have h2:=uqStep_len u v;rw [List.foldl_cons,List.length_cons];omega
theorem uq_len (q:List ByteArray):(uq q).length≤q.length:=by have:=uq_fold_len q [];simpa [uq] using this
def nameW (k:Nat):ByteArray:=⟨#[118]⟩++decB k
def ixOf (v:ByteArray):List ByteArray→Nat
 | []=>0
 | u :: l=>if u=v then 0 else ixOf v l+1
theorem ixOf_lt {v:ByteArray} : ∀{l:List ByteArray},v∈l→ixOf v l<l.length∧l[ixOf v l]? = some v
 | u :: l,h=>by
   rw [ixOf]
   by_cases e:u=v
   · rw [if_pos e];exact ⟨by simp,by simp [e]⟩
   · rw [if_neg e]
     have h2:v∈l:=by rcases List.mem_cons.1 h with h | h;exact absurd h.symm e;exact h
     obtain ⟨g1,g2⟩:=ixOf_lt h2
     exact ⟨by simpa using g1,by simpa using g2⟩
theorem ixOf_nodup {v:ByteArray} : ∀{l:List ByteArray},l.Nodup→∀i,l[i]? = some v→ixOf v l=i
 | u :: l,h,0,e=>by
   rw [ixOf,if_pos (by simpa using e)]
 | u :: l,h,i+1,e=>by
   obtain ⟨h1,h2⟩:=List.nodup_cons.1 h
   have e2:l[i]? = some v:=by simpa using e
   have hne:u≠v:=fun hh=>h1 (by rw [hh];exact List.mem_of_getElem? e2)
   rw [ixOf,if_neg hne,ixOf_nodup h2 i e2]
 | [],_,i,e=>by simp at e
def numT (us:List ByteArray) (v:ByteArray):ByteArray:=if v∈us then nameW (ixOf v us+1) else ⟨#[]⟩
def plainP (n:Nat) (p:ProdT):ProdT:=⟨⟨#[120]⟩,p.conds.map (condR (numT (uq (varsP n p))) n),p.acts.map (actR (numT (uq (varsP n p))))⟩
structure MapOk (mm:List PgW) (us:List ByteArray):Prop where
 srt:Srt cmpPgW mm
 len:mm.length=us.length
 nodup:us.Nodup
 mem : ∀y,y∈mm↔∃i:Nat,us[i]? = some y.kk∧y.v=nameW (i+1)
theorem MapOk.nil:MapOk [] []:=⟨Srt.nil,rfl,.nil,fun y=>by simp⟩
theorem MapOk.has {mm:List PgW} {us:List ByteArray} (h:MapOk mm us) (v z:ByteArray):has cmpPgW mm ⟨v,z⟩=decide (v∈us):=by
 by_cases hv:v∈us
 · rw [decide_eq_true hv,has_iff]
   obtain ⟨i,hi,e⟩:=List.getElem_of_mem hv
   exact ⟨⟨v,nameW (i+1)⟩,(h.mem _).2 ⟨i,by rw [List.getElem?_eq_getElem hi,e],rfl⟩,cmpPgW_eq.2 rfl⟩
 · rw [decide_eq_false hv,has_false]
   intro y hy e
   obtain ⟨i,hi,_⟩:=(h.mem y).1 hy
   have e3:y.kk=v:=cmpPgW_eq.1 e
   exact hv (by rw [← e3];exact List.mem_of_getElem? hi)
theorem MapOk.get {mm:List PgW} {us:List ByteArray} (h:MapOk mm us) {v z:ByteArray} (hv:v∈us) : ∃y,mm[rank cmpPgW mm ⟨v,z⟩]? = some y∧y.v=numT us v:=by
 have hh:Go.Proofs.Ytffemfglngikbaa.has cmpPgW mm ⟨v,z⟩=true:=by rw [h.has,decide_eq_true hv]
 obtain ⟨_,_,hk,e⟩:=drop_eq tc_pgw h.srt hh
 refine ⟨_,List.getElem?_eq_getElem hk,?_⟩
 obtain ⟨i,hi,e2⟩:=(h.mem _).1 (List.getElem_mem hk)
 have e3:_=v:=cmpPgW_eq.1 e
 rw [e3] at hi
 rw [e2,numT,if_pos hv,ixOf_nodup h.nodup i hi]
theorem MapOk.put {mm:List PgW} {us:List ByteArray} (h:MapOk mm us) {v:ByteArray} (hv : ¬v∈us):MapOk (put cmpPgW mm ⟨v,nameW (mm.length+1)⟩) (us ++ [v]):=by
 have hh:Go.Proofs.Ytffemfglngikbaa.has cmpPgW mm ⟨v,nameW (mm.length+1)⟩=false:=by rw [h.has,decide_eq_false hv]
 refine ⟨h.srt.put tc_pgw _,by rw [length_put tc_pgw h.srt hh,h.len];simp,List.nodup_append.2 ⟨h.nodup,by simp,fun a ha b hb=>by rw [List.mem_singleton.1 hb];exact fun e=>hv (e ▸ ha)⟩,fun y=>?_⟩
 have hm:y∈Go.Proofs.Ytffemfglngikbaa.put cmpPgW mm ⟨v,nameW (mm.length+1)⟩↔y=⟨v,nameW (mm.length+1)⟩∨y∈mm:=by
  rw [put_eq tc_pgw h.srt hh,List.mem_append,List.mem_cons]
  constructor
  · rintro (g | g | g)
    · exact .inr (List.mem_of_mem_take g)
    · exact .inl g
    · exact .inr (List.mem_of_mem_drop g)
  · rintro (g | g)
    · exact .inr (.inl g)
    · rw [← List.take_append_drop (rank cmpPgW mm ⟨v,nameW (mm.length+1)⟩) mm,List.mem_append] at g
      exact g.elim .inl (fun g=>.inr (.inr g))
 rw [hm,h.mem y]
 constructor
 · rintro (e | ⟨i,hi,e⟩)
   · subst e
     exact ⟨us.length,by simp,by rw [h.len]⟩
   · have hl:i<us.length:=(List.getElem?_eq_some_iff.1 hi).1
     exact ⟨i,by rw [List.getElem?_append_left hl];exact hi,e⟩
 · rintro ⟨i,hi,e⟩
   by_cases hl:i<us.length
   · exact .inr ⟨i,by rwa [List.getElem?_append_left hl] at hi,e⟩
   · have hi2:i=us.length:=by
      have:=(List.getElem?_eq_some_iff.1 hi).1
      simp at this;omega
     subst hi2
     rw [List.getElem?_append_right (Nat.le_refl _)] at hi
     simp at hi
     obtain ⟨yk,yv⟩:=y
     simp only at hi e
     subst hi;subst e
     exact .inl (by rw [h.len])
end Go.Proofs.Ytffemfglngikbaa
namespace Go.Proofs.Ytffemfglngikbaa
open Go.RowKit Go.Shelf
attribute [local go_sem] Oper.semAt_some
def restN (c:CondT):Nat→List ByteArray
 | 0=>varsT c.attr++varsT c.value
 | 1=>varsT c.value
 | _=>[]
def NamesPost (xs:List ByteArray) (J Jx:(Nat→Prop)→List ByteArray→World→Prop) (D E:Nat→Prop) (W X:World) (pre:List ByteArray) (e:Ending) (X':World):Prop:=
 (e = .returned (.bool true)∧(∃E',(∀k,E k→E' k)∧ItSt J D E' W pre X')∧Fr (fun k=>¬(D k∨E k)) X X')∨(e = .returned (.bool false)∧ToldO xs J Jx X')
def NamesSpec (n lo:Nat) (xs:List ByteArray) (J Jx:(Nat→Prop)→List ByteArray→World→Prop) (D:Nat→Prop) (W:World):Prop:=
 ∀(c:CondT) (A1:Option Addr) (a1:Nat) (A2:Option Addr) (a2:Nat) (A3:Option Addr) (a3:Nat) (E:Nat→Prop) (pre post:List ByteArray) (X:World),xs=pre++(namesN (n+1) c++post)→RowR repTestT D X A1 a1 c.attr→RowR repTestT D X A2 a2 c.value→RowR (repCondT n) D X A3 a3 c.conds→ItSt J D E W pre X→
  CallsIn Fence.wide 0 Try.prog 72 #[.agg #[.int .i64 c.kind,.bool c.goal,.string c.id,.slice A1 c.attr.length a1,.slice A2 c.value.length a2,.bool c.acc,.slice A3 c.conds.length a3],.func (.yield lo) #[] #[]] X (NamesPost xs J Jx D E W X (pre++namesN (n+1) c))
set_option maxRecDepth 100000 in
set_option maxHeartbeats 16000000 in
theorem names_step (n lo:Nat) (xs:List ByteArray) (J Jx:(Nat→Prop)→List ByteArray→World→Prop) (D:Nat→Prop) (W:World) (hJ:Steady W.heap.size J) (hY:RoundsO Try.prog lo encStr xs J Jx)
 (ih : ∀m,n=m+1→NamesSpec m lo xs J Jx D W):NamesSpec n lo xs J Jx D W:=by
 intro c A1 a1 A2 a2 A3 a3 E pre post X hx h1 h2 h3 hit
 have HJ:=Lib.hid hJ
 have HY:=Lib.hid hY
 have IH:=Lib.hid ih
 have H1:=Lib.hid h1
 have H2:=Lib.hid h2
 have H3:=Lib.hid h3
 have hac:=h3.cap
 have HX:=Lib.hid hx
 have HXX:=Lib.hid hx
 have HI:=Lib.hid hit
 obtain ⟨rc,hrc⟩ : ∃rc,rc=c.conds.flatMap (namesN n)++post:=⟨_,rfl⟩
 have HRC:=Lib.hid hrc
 have hbX:Below X.heap.size X (X.alloc (.cells #[.int .i64 c.kind,.bool c.goal,.string c.id,.slice A1 c.attr.length a1,.slice A2 c.value.length a2,.bool c.acc,.slice A3 c.conds.length a3] 50)):=(Below.refl _ _).alloc (Nat.le_refl _) _
 have HIX:=Lib.hid (HI.out.new_ HJ.out hbX)
 have KCX:=Lib.hid (show Blk (X.alloc (.cells #[.int .i64 c.kind,.bool c.goal,.string c.id,.slice A1 c.attr.length a1,.slice A2 c.value.length a2,.bool c.acc,.slice A3 c.conds.length a3] 50)) X.heap.size 50 #[.int .i64 c.kind,.bool c.goal,.string c.id,.slice A1 c.attr.length a1,.slice A2 c.value.length a2,.bool c.acc,.slice A3 c.conds.length a3] from Blk.new _ _ _)
 have HFX:=Lib.hid (show Fr (fun k=>¬(D k∨E k)) X (X.alloc (.cells #[.int .i64 c.kind,.bool c.goal,.string c.id,.slice A1 c.attr.length a1,.slice A2 c.value.length a2,.bool c.acc,.slice A3 c.conds.length a3] 50)) from Fr.of_new hbX)
 clear hJ hY ih h1 h2 h3 hx hit hrc hbX
 refine callsIn_of_wp Try.func72 rfl trivial ?_
 simp only [Try.ntmps72,List.size_toArray,List.length_cons,List.length_nil,Nat.reduceAdd,Nat.reduceSub,Array.replicate_succ,Array.replicate_zero,List.push_toArray,List.append_toArray,List.nil_append,List.cons_append]
 by_cases hid:c.id.toList = []
 · have ia:(c.id.toList == [])=true:=by simp [hid]
   have ib:c.id.toList.isEmpty=true:=by simp [hid]
   have ic:decide (c.id.toList = [])=true:=by simp [hid]
   have HX0:=Lib.hid (show xs=pre++(restN c 0++rc) by rw [HX.out,namesN,oneN_no hid,HRC.out];simp [restN])
   have HI0:=HIX
   have HC0:=Lib.hid (show Plus E X (X.alloc (.cells #[.int .i64 c.kind,.bool c.goal,.string c.id,.slice A1 c.attr.length a1,.slice A2 c.value.length a2,.bool c.acc,.slice A3 c.conds.length a3] 50)) X.heap.size from .inr ⟨Nat.le_refl _,by simp⟩)
   have KC0:=KCX
   have HE0:=Lib.hid (show ∀k,E k→Plus E X (X.alloc (.cells #[.int .i64 c.kind,.bool c.goal,.string c.id,.slice A1 c.attr.length a1,.slice A2 c.value.length a2,.bool c.acc,.slice A3 c.conds.length a3] 50)) k from fun k hk=>.inl hk)
   have HF0:=HFX
   clear hid HX
   gi_wp2_with fail
   refine ⟨(fun f h=>by cases h),?_⟩
   gi_wp2_with fail
   gi_loopw [26] (fun s wr=>∃(j:Nat) (E1:Nat→Prop) (p1:List ByteArray),s = .int .i64 j∧j≤2∧xs=p1++(restN c j++rc)∧ItSt J D E1 W p1 wr∧E1 X.heap.size∧Blk wr X.heap.size 50 #[.int .i64 c.kind,.bool c.goal,.string c.id,.slice A1 c.attr.length a1,.slice A2 c.value.length a2,.bool c.acc,.slice A3 c.conds.length a3]∧(∀k,E k→E1 k)∧Fr (fun k=>¬(D k∨E k)) X wr) (fun s wr=>2 - (intOf s).toNat)
   case atStart=>exact ⟨0,_,_,rfl,by omega,HX0.out,HI0.out,HC0.out,KC0.out,HE0.out,HF0.out⟩
   case round=>
    obtain ⟨j,E1,p1,rfl,hj,hx1,hit1,hc1,hk1,he1,hf1⟩:=hrel
    have HX1:=Lib.hid hx1
    have HI1:=Lib.hid hit1
    have HC1:=Lib.hid hc1
    have KC1:=Lib.hid hk1
    have HE1:=Lib.hid he1
    have HF1:=Lib.hid hf1
    clear hx1 hit1 hc1 hk1 he1 hf1
    by_cases hlt:j<2
    · obtain ⟨lj,Al,al,hix,hlj,hrj⟩ : ∃(lj:List TestT) (Al:Option Addr) (al:Nat),(∀V,(Instr.index 127 (.agg #[.slice A1 c.attr.length a1,.slice A2 c.value.length a2]) (.int .i64 (j:Int))).run Try.prog V = .ok (.slice Al lj.length al) V)∧RowR repTestT D X Al al lj∧restN c j=varsT lj++restN c (j+1):=by
       match j,hlt with
       | 0,_=>exact ⟨c.attr,A1,a1,fun V=>by rfl,H1.out,rfl⟩
       | 1,_=>exact ⟨c.value,A2,a2,fun V=>by rfl,H2.out,by simp [restN]⟩
      have HLJ:=Lib.hid hlj
      have hljc:=hlj.cap
      have jj1:(0:Int)≤(j:Int):=by omega
      have jj2:(j:Int)<2:=by omega
      obtain ⟨rj,hrjd⟩ : ∃rj,rj=restN c (j+1)++rc:=⟨_,rfl⟩
      have HX2:=Lib.hid (show xs=p1++(varsT (lj.drop 0)++rj) by rw [HX1.out,hrj,hrjd,List.drop_zero];simp)
      have HRJ:=Lib.hid hrjd
      clear hlj hrj hrjd HX1
      gi_wp2_with fail
      gi_loopw [31] (fun s wr=>∃(i:Nat) (E1:Nat→Prop) (p1:List ByteArray),s = .int .i64 i∧i≤lj.length∧xs=p1++(varsT (lj.drop i)++rj)∧ItSt J D E1 W p1 wr∧E1 X.heap.size∧Blk wr X.heap.size 50 #[.int .i64 c.kind,.bool c.goal,.string c.id,.slice A1 c.attr.length a1,.slice A2 c.value.length a2,.bool c.acc,.slice A3 c.conds.length a3]∧(∀k,E k→E1 k)∧Fr (fun k=>¬(D k∨E k)) X wr) (fun s wr=>lj.length - (intOf s).toNat)
      case atStart=>exact ⟨0,_,_,rfl,Nat.zero_le _,HX2.out,HI1.out,HC1.out,KC1.out,HE1.out,HF1.out⟩
      case round=>
       clear HX2 HI1 HC1 KC1 HE1 HF1
       obtain ⟨i,E1,p1,rfl,hi,hx1,hit1,hc1,hk1,he1,hf1⟩:=hrel
       have HX1:=Lib.hid hx1
       have HI1:=Lib.hid hit1
       have HC1:=Lib.hid hc1
       have KC1:=Lib.hid hk1
       have HE1:=Lib.hid he1
       have HF1:=Lib.hid hf1
       clear hx1 hit1 hc1 hk1 he1 hf1
       by_cases hlt2:i<lj.length
       · skip
         obtain ⟨y,hy0⟩ : ∃y,y=lj[i]:=⟨_,rfl⟩
         have htr:=HLJ.out.fr HF1.out (fun k hk hn=>hn (.inl hk))
         obtain ⟨gt,ot,At,at_,hA,_,hgt,q0,q1,q2,q3,q4,q5,_⟩:=at_TestT htr hlt2
         subst hA
         rw [← hy0] at q0 q1 q2 q3 q4 q5
         have HVD:=Lib.hid (show varsT (lj.drop i)=oneN y.var++varsT (lj.drop (i+1)) by rw [hy0];exact varsT_drop hlt2)
         have j1:(0:Int)≤(i:Int):=by omega
         have j2:(i:Int)<(lj.length:Int):=by omega
         clear hy0 htr
         have hbY:Below wr.heap.size wr (wr.alloc (.cells #[.int .i64 y.rel,.string y.var,.int .i64 y.sym.kind,.string y.sym.text,.int .i64 y.sym.n,.slice At y.list.length at_] 65)):=(Below.refl _ _).alloc (Nat.le_refl _) _
         have HIY:=Lib.hid (HI1.out.new_ HJ.out hbY)
         have HBY:=Lib.hid hbY
         have KCY:=Lib.hid (KC1.out.new_ hbY)
         have HFY:=Lib.hid (HF1.out.trans (Fr.of_new hbY))
         clear hbY
         by_cases hve:y.var.toList = []
         · have va:(y.var.toList == [])=true:=by simp [hve]
           have vb:y.var.toList.isEmpty=true:=by simp [hve]
           have vc:decide (y.var.toList = [])=true:=by simp [hve]
           have HXN:=Lib.hid (show xs=p1++(varsT (lj.drop (i+1))++rj) by rw [HX1.out,HVD.out,oneN_no hve,List.nil_append])
           have HIN:=HIY
           have HCN:=Lib.hid (show Plus E1 wr (wr.alloc (.cells #[.int .i64 y.rel,.string y.var,.int .i64 y.sym.kind,.string y.sym.text,.int .i64 y.sym.n,.slice At y.list.length at_] 65)) X.heap.size from .inl HC1.out)
           have KCN:=KCY
           have HEN:=Lib.hid (show ∀k,E k→Plus E1 wr (wr.alloc (.cells #[.int .i64 y.rel,.string y.var,.int .i64 y.sym.kind,.string y.sym.text,.int .i64 y.sym.n,.slice At y.list.length at_] 65)) k from fun k hk=>.inl (HE1.out k hk))
           have HFN:=HFY
           clear hve
           gi_wp2_with fail
           refine ⟨(fun f h=>by cases h),?_⟩
           gi_wp2_with fail
           go_roundw
           case rel=>exact ⟨i+1,_,_,by go_num,by omega,HXN.out,HIN.out,HCN.out,KCN.out,HEN.out,HFN.out⟩
           case measure=>simp [intOf]<;>omega
         · have va:(y.var.toList == [])=false:=by simp [hve]
           have vb:y.var.toList.isEmpty=false:=by simp [hve]
           have vc:decide (y.var.toList = [])=false:=by simp [hve]
           have HXV:=Lib.hid (show xs=p1++y.var :: (varsT (lj.drop (i+1))++rj) by rw [HX1.out,HVD.out,oneN_yes hve];simp)
           clear hve
           obtain ⟨fy,ty,ay,by_,hy,hR⟩:=(HIY.out).round HY.out (HXV.out)
           dsimp only [encStr] at hy
           have HRR:=Lib.hid hR
           clear hR
           gi_wp2_with fail
           refine ⟨rfl,HRR.out.mono ?_⟩
           rintro e W3 (⟨rfl,hi3,hk3⟩ | ⟨rfl,hT,-⟩)
           · have HI3:=Lib.hid hi3
             have HK3:=Lib.hid hk3
             clear hi3 hk3 hy
             have HXN:=Lib.hid (show xs=(p1 ++ [y.var])++(varsT (lj.drop (i+1))++rj) by rw [HXV.out];simp)
             have HIN:=HI3
             have HCN:=Lib.hid (show Plus E1 wr (wr.alloc (.cells #[.int .i64 y.rel,.string y.var,.int .i64 y.sym.kind,.string y.sym.text,.int .i64 y.sym.n,.slice At y.list.length at_] 65)) X.heap.size from .inl HC1.out)
             have KCN:=Lib.hid (KCY.out.fr HK3.out (fun hn=>hn (.inr (.inl HC1.out))))
             have HEN:=Lib.hid (show ∀k,E k→Plus E1 wr (wr.alloc (.cells #[.int .i64 y.rel,.string y.var,.int .i64 y.sym.kind,.string y.sym.text,.int .i64 y.sym.n,.slice At y.list.length at_] 65)) k from fun k hk=>.inl (HE1.out k hk))
             have HFN:=Lib.hid (HFY.out.trans (HK3.out.mono (fun k _ hk hd=>hk (hd.imp id (HEN.out k)))))
             gi_wp2_with fail
             go_roundw
             case rel=>exact ⟨i+1,_,_,by go_num,by omega,HXN.out,HIN.out,HCN.out,KCN.out,HEN.out,HFN.out⟩
             case measure=>simp [intOf]<;>omega
           · have HT:=Lib.hid hT
             clear hT hy
             gi_wp2_with fail
             go_ret
             exact .inr ⟨rfl,HT.out⟩
       · obtain rfl:i=lj.length:=by omega
         have HX3:=Lib.hid (show xs=p1++(restN c (j+1)++rc) by rw [HX1.out,List.drop_length,HRJ.out];simp [varsT])
         gi_wp2_with fail
         go_roundw
         case rel=>exact ⟨j+1,_,_,by go_num,by omega,HX3.out,HI1.out,HC1.out,KC1.out,HE1.out,HF1.out⟩
         case measure=>simp [intOf]<;>omega
    · have HJ2:=Lib.hid (show j=2 by omega)
      have HX2:=Lib.hid (show xs=p1++((c.conds.drop 0).flatMap (namesN n)++post) by rw [HX1.out,HRC.out,HJ2.out,List.drop_zero];rfl)
      have jn:decide ((j:Int)<2)=false:=by simp;omega
      have k6:=(KC1.out.cell 6).trans rfl
      have kz:=KC1.out.lt
      clear HX1
      gi_wp2_with fail
      clear k6 kz
      gi_loopw [50] (fun s wr=>∃(i:Nat) (E1:Nat→Prop) (p1:List ByteArray),s = .int .i64 i∧i≤c.conds.length∧xs=p1++((c.conds.drop i).flatMap (namesN n)++post)∧ItSt J D E1 W p1 wr∧E1 X.heap.size∧Blk wr X.heap.size 50 #[.int .i64 c.kind,.bool c.goal,.string c.id,.slice A1 c.attr.length a1,.slice A2 c.value.length a2,.bool c.acc,.slice A3 c.conds.length a3]∧(∀k,E k→E1 k)∧Fr (fun k=>¬(D k∨E k)) X wr) (fun s wr=>c.conds.length - (intOf s).toNat)
      case atStart=>exact ⟨0,_,_,rfl,Nat.zero_le _,HX2.out,HI1.out,HC1.out,KC1.out,HE1.out,HF1.out⟩
      case round=>
       clear HX2 HI1 HC1 KC1 HE1 HF1
       obtain ⟨i,E1,p1,rfl,hi,hx1,hit1,hc1,hk1,he1,hf1⟩:=hrel
       have HX1:=Lib.hid hx1
       have HI1:=Lib.hid hit1
       have HC1:=Lib.hid hc1
       have KC1:=Lib.hid hk1
       have HE1:=Lib.hid he1
       have HF1:=Lib.hid hf1
       clear hx1 hit1 hc1 hk1 he1 hf1
       by_cases hlt2:i<c.conds.length
       · obtain ⟨m,hnm⟩ : ∃m,n=m+1:=by
          cases n with
          | zero=>have:=row_zero H3.out;rw [this] at hlt2;simp at hlt2
          | succ m=>exact ⟨m,rfl⟩
         subst hnm
         obtain ⟨y,hy0⟩ : ∃y,y=c.conds[i]:=⟨_,rfl⟩
         have hcr:=H3.out.fr HF1.out (fun k hk hn=>hn (.inl hk))
         obtain ⟨gt,ot,B1,b1_,B2,b2_,B3,b3_,hA,_,hgt,q0,q1,q2,q3,q4,q5,q6,-,-,-⟩:=at_CondT hcr hlt2
         have HDC:=Lib.hid (show (c.conds.drop i).flatMap (namesN (m+1))=namesN (m+1) y++(c.conds.drop (i+1)).flatMap (namesN (m+1)) by rw [hy0,List.drop_eq_getElem_cons hlt2,List.flatMap_cons])
         subst hA
         rw [← hy0] at q0 q1 q2 q3 q4 q5 q6
         obtain ⟨_,_,_,_,_,_,_,_,hA9,_,_,_,_,_,q3',q4',_,q6',r1,r2,r3⟩:=at_CondT hcr hlt2
         injection hA9 with hA9
         injection hA9 with e1 e2
         subst e1
         subst e2
         rw [← hy0] at q3' q4' q6' r1 r2 r3
         rw [q3] at q3'
         rw [q4] at q4'
         rw [q6] at q6'
         injection q3' with q3';injection q3' with s1 s2 s3;subst s1;subst s3
         injection q4' with q4';injection q4' with s4 s5 s6;subst s4;subst s6
         injection q6' with q6';injection q6' with s7 s8 s9;subst s7;subst s9
         have j1:(0:Int)≤(i:Int):=by omega
         have j2:(i:Int)<(c.conds.length:Int):=by omega
         have hbY:Below wr.heap.size wr (wr.alloc (.cells #[.int .i64 y.kind,.bool y.goal,.string y.id,.slice B1 y.attr.length b1_,.slice B2 y.value.length b2_,.bool y.acc,.slice B3 y.conds.length b3_] 50)):=(Below.refl _ _).alloc (Nat.le_refl _) _
         have HXY:=Lib.hid (show xs=p1++(namesN (m+1) y++((c.conds.drop (i+1)).flatMap (namesN (m+1))++post)) by rw [HX1.out,HDC.out,List.append_assoc])
         have HIH:=Lib.hid (IH.out m rfl y B1 b1_ B2 b2_ B3 b3_ (Plus E1 wr (wr.alloc (.cells #[.int .i64 y.kind,.bool y.goal,.string y.id,.slice B1 y.attr.length b1_,.slice B2 y.value.length b2_,.bool y.acc,.slice B3 y.conds.length b3_] 50))) p1 _ (wr.alloc (.cells #[.int .i64 y.kind,.bool y.goal,.string y.id,.slice B1 y.attr.length b1_,.slice B2 y.value.length b2_,.bool y.acc,.slice B3 y.conds.length b3_] 50)) HXY.out (r1.new_ hbY) (r2.new_ hbY) (r3.new_ hbY) (HI1.out.new_ HJ.out hbY))
         have KCY:=Lib.hid (KC1.out.new_ hbY)
         have HFY:=Lib.hid (HF1.out.trans (Fr.of_new hbY))
         clear hy0 hcr r1 r2 r3 hbY s2 s5 s8
         gi_wp2_with fail
         refine ⟨trivial,rfl,?_⟩
         refine HIH.out.mono ?_
         rintro e w5 (⟨rfl,⟨E5,he5,hi5⟩,hf5⟩ | ⟨rfl,hT⟩)
         · have HXN:=Lib.hid (show xs=(p1++namesN (m+1) y)++((c.conds.drop (i+1)).flatMap (namesN (m+1))++post) by rw [HXY.out];simp)
           have HI5:=Lib.hid hi5
           have HC5:=Lib.hid (he5 _ (.inl HC1.out))
           have KC5:=Lib.hid (KCY.out.fr hf5 (fun hn=>hn (.inr (.inl HC1.out))))
           have HE5:=Lib.hid (show ∀k,E k→E5 k from fun k hk=>he5 k (.inl (HE1.out k hk)))
           have HF5:=Lib.hid (HFY.out.trans (hf5.mono (fun k _ hk hd=>hk (hd.imp id (fun h=>.inl (HE1.out k h))))))
           clear he5 hi5 hf5 q0 q1 q2 q3 q4 q5 q6
           gi_wp2_with fail
           go_roundw
           case rel=>exact ⟨i+1,_,_,by go_num,by omega,HXN.out,HI5.out,HC5.out,KC5.out,HE5.out,HF5.out⟩
           case measure=>simp [intOf]<;>omega
         · have HT:=Lib.hid hT
           clear hT q0 q1 q2 q3 q4 q5 q6
           gi_wp2_with fail
           go_ret
           exact .inr ⟨rfl,HT.out⟩
       · obtain rfl:i=c.conds.length:=by omega
         have HXE:=Lib.hid (show p1=pre++namesN (n+1) c by
          have h:=HX1.out
          rw [List.drop_length,List.flatMap_nil,List.nil_append,HXX.out,← List.append_assoc] at h
          exact (List.append_cancel_right h).symm)
         gi_wp2_with fail
         go_ret
         exact .inl ⟨rfl,⟨E1,HE1.out,by have:=HI1.out;rw [HXE.out] at this;exact this⟩,HF1.out⟩
 · have ia:(c.id.toList == [])=false:=by simp [hid]
   have ib:c.id.toList.isEmpty=false:=by simp [hid]
   have ic:decide (c.id.toList = [])=false:=by simp [hid]
   have HXV:=Lib.hid (show xs=pre++c.id :: (restN c 0++rc) by rw [HX.out,namesN,oneN_yes hid,HRC.out];simp [restN])
   clear hid HX
   obtain ⟨fy,ty,ay,by_,hy,hR⟩:=(HIX.out).round HY.out (HXV.out)
   dsimp only [encStr] at hy
   have HRR:=Lib.hid hR
   clear hR
   gi_wp2_with fail
   refine ⟨rfl,HRR.out.mono ?_⟩
   rintro e W3 (⟨rfl,hi3,hk3⟩ | ⟨rfl,hT,-⟩)
   · have HI3:=Lib.hid hi3
     have HK3:=Lib.hid hk3
     clear hi3 hk3 hy
     have HX0:=Lib.hid (show xs=(pre ++ [c.id])++(restN c 0++rc) by rw [HXV.out];simp)
     have HI0:=HI3
     have HC0:=Lib.hid (show Plus E X (X.alloc (.cells #[.int .i64 c.kind,.bool c.goal,.string c.id,.slice A1 c.attr.length a1,.slice A2 c.value.length a2,.bool c.acc,.slice A3 c.conds.length a3] 50)) X.heap.size from .inr ⟨Nat.le_refl _,by simp⟩)
     have KC0:=Lib.hid (KCX.out.fr HK3.out (fun hn=>hn (.inr HC0.out)))
     have HE0:=Lib.hid (show ∀k,E k→Plus E X (X.alloc (.cells #[.int .i64 c.kind,.bool c.goal,.string c.id,.slice A1 c.attr.length a1,.slice A2 c.value.length a2,.bool c.acc,.slice A3 c.conds.length a3] 50)) k from fun k hk=>.inl hk)
     have HF0:=Lib.hid (HFX.out.trans (HK3.out.mono (fun k _ hk hd=>hk (hd.imp id (HE0.out k)))))
     have x3:=(KC0.out.cell 3).trans rfl
     have x4:=(KC0.out.cell 4).trans rfl
     have xz:=KC0.out.lt
     gi_wp2_with fail
     clear x3 x4 xz
     gi_loopw [26] (fun s wr=>∃(j:Nat) (E1:Nat→Prop) (p1:List ByteArray),s = .int .i64 j∧j≤2∧xs=p1++(restN c j++rc)∧ItSt J D E1 W p1 wr∧E1 X.heap.size∧Blk wr X.heap.size 50 #[.int .i64 c.kind,.bool c.goal,.string c.id,.slice A1 c.attr.length a1,.slice A2 c.value.length a2,.bool c.acc,.slice A3 c.conds.length a3]∧(∀k,E k→E1 k)∧Fr (fun k=>¬(D k∨E k)) X wr) (fun s wr=>2 - (intOf s).toNat)
     case atStart=>exact ⟨0,_,_,rfl,by omega,HX0.out,HI0.out,HC0.out,KC0.out,HE0.out,HF0.out⟩
     case round=>
      obtain ⟨j,E1,p1,rfl,hj,hx1,hit1,hc1,hk1,he1,hf1⟩:=hrel
      have HX1:=Lib.hid hx1
      have HI1:=Lib.hid hit1
      have HC1:=Lib.hid hc1
      have KC1:=Lib.hid hk1
      have HE1:=Lib.hid he1
      have HF1:=Lib.hid hf1
      clear hx1 hit1 hc1 hk1 he1 hf1
      by_cases hlt:j<2
      · obtain ⟨lj,Al,al,hix,hlj,hrj⟩ : ∃(lj:List TestT) (Al:Option Addr) (al:Nat),(∀V,(Instr.index 127 (.agg #[.slice A1 c.attr.length a1,.slice A2 c.value.length a2]) (.int .i64 (j:Int))).run Try.prog V = .ok (.slice Al lj.length al) V)∧RowR repTestT D X Al al lj∧restN c j=varsT lj++restN c (j+1):=by
         match j,hlt with
         | 0,_=>exact ⟨c.attr,A1,a1,fun V=>by rfl,H1.out,rfl⟩
         | 1,_=>exact ⟨c.value,A2,a2,fun V=>by rfl,H2.out,by simp [restN]⟩
        have HLJ:=Lib.hid hlj
        have hljc:=hlj.cap
        have jj1:(0:Int)≤(j:Int):=by omega
        have jj2:(j:Int)<2:=by omega
        obtain ⟨rj,hrjd⟩ : ∃rj,rj=restN c (j+1)++rc:=⟨_,rfl⟩
        have HX2:=Lib.hid (show xs=p1++(varsT (lj.drop 0)++rj) by rw [HX1.out,hrj,hrjd,List.drop_zero];simp)
        have HRJ:=Lib.hid hrjd
        clear hlj hrj hrjd HX1
        gi_wp2_with fail
        gi_loopw [31] (fun s wr=>∃(i:Nat) (E1:Nat→Prop) (p1:List ByteArray),s = .int .i64 i∧i≤lj.length∧xs=p1++(varsT (lj.drop i)++rj)∧ItSt J D E1 W p1 wr∧E1 X.heap.size∧Blk wr X.heap.size 50 #[.int .i64 c.kind,.bool c.goal,.string c.id,.slice A1 c.attr.length a1,.slice A2 c.value.length a2,.bool c.acc,.slice A3 c.conds.length a3]∧(∀k,E k→E1 k)∧Fr (fun k=>¬(D k∨E k)) X wr) (fun s wr=>lj.length - (intOf s).toNat)
        case atStart=>exact ⟨0,_,_,rfl,Nat.zero_le _,HX2.out,HI1.out,HC1.out,KC1.out,HE1.out,HF1.out⟩
        case round=>
         clear HX2 HI1 HC1 KC1 HE1 HF1
         obtain ⟨i,E1,p1,rfl,hi,hx1,hit1,hc1,hk1,he1,hf1⟩:=hrel
         have HX1:=Lib.hid hx1
         have HI1:=Lib.hid hit1
         have HC1:=Lib.hid hc1
         have KC1:=Lib.hid hk1
         have HE1:=Lib.hid he1
         have HF1:=Lib.hid hf1
         clear hx1 hit1 hc1 hk1 he1 hf1
         by_cases hlt2:i<lj.length
         · skip
           obtain ⟨y,hy0⟩ : ∃y,y=lj[i]:=⟨_,rfl⟩
           have htr:=HLJ.out.fr HF1.out (fun k hk hn=>hn (.inl hk))
           obtain ⟨gt,ot,At,at_,hA,_,hgt,q0,q1,q2,q3,q4,q5,_⟩:=at_TestT htr hlt2
           subst hA
           rw [← hy0] at q0 q1 q2 q3 q4 q5
           have HVD:=Lib.hid (show varsT (lj.drop i)=oneN y.var++varsT (lj.drop (i+1)) by rw [hy0];exact varsT_drop hlt2)
           have j1:(0:Int)≤(i:Int):=by omega
           have j2:(i:Int)<(lj.length:Int):=by omega
           clear hy0 htr
           have hbY:Below wr.heap.size wr (wr.alloc (.cells #[.int .i64 y.rel,.string y.var,.int .i64 y.sym.kind,.string y.sym.text,.int .i64 y.sym.n,.slice At y.list.length at_] 65)):=(Below.refl _ _).alloc (Nat.le_refl _) _
           have HIY:=Lib.hid (HI1.out.new_ HJ.out hbY)
           have HBY:=Lib.hid hbY
           have KCY:=Lib.hid (KC1.out.new_ hbY)
           have HFY:=Lib.hid (HF1.out.trans (Fr.of_new hbY))
           clear hbY
           by_cases hve:y.var.toList = []
           · have va:(y.var.toList == [])=true:=by simp [hve]
             have vb:y.var.toList.isEmpty=true:=by simp [hve]
             have vc:decide (y.var.toList = [])=true:=by simp [hve]
             have HXN:=Lib.hid (show xs=p1++(varsT (lj.drop (i+1))++rj) by rw [HX1.out,HVD.out,oneN_no hve,List.nil_append])
             have HIN:=HIY
             have HCN:=Lib.hid (show Plus E1 wr (wr.alloc (.cells #[.int .i64 y.rel,.string y.var,.int .i64 y.sym.kind,.string y.sym.text,.int .i64 y.sym.n,.slice At y.list.length at_] 65)) X.heap.size from .inl HC1.out)
             have KCN:=KCY
             have HEN:=Lib.hid (show ∀k,E k→Plus E1 wr (wr.alloc (.cells #[.int .i64 y.rel,.string y.var,.int .i64 y.sym.kind,.string y.sym.text,.int .i64 y.sym.n,.slice At y.list.length at_] 65)) k from fun k hk=>.inl (HE1.out k hk))
             have HFN:=HFY
             clear hve
             gi_wp2_with fail
             refine ⟨(fun f h=>by cases h),?_⟩
             gi_wp2_with fail
             go_roundw
             case rel=>exact ⟨i+1,_,_,by go_num,by omega,HXN.out,HIN.out,HCN.out,KCN.out,HEN.out,HFN.out⟩
             case measure=>simp [intOf]<;>omega
           · have va:(y.var.toList == [])=false:=by simp [hve]
             have vb:y.var.toList.isEmpty=false:=by simp [hve]
             have vc:decide (y.var.toList = [])=false:=by simp [hve]
             have HXV:=Lib.hid (show xs=p1++y.var :: (varsT (lj.drop (i+1))++rj) by rw [HX1.out,HVD.out,oneN_yes hve];simp)
             clear hve
             obtain ⟨fy,ty,ay,by_,hy,hR⟩:=(HIY.out).round HY.out (HXV.out)
             dsimp only [encStr] at hy
             have HRR:=Lib.hid hR
             clear hR
             gi_wp2_with fail
             refine ⟨rfl,HRR.out.mono ?_⟩
             rintro e W3 (⟨rfl,hi3,hk3⟩ | ⟨rfl,hT,-⟩)
             · have HI3:=Lib.hid hi3
               have HK3:=Lib.hid hk3
               clear hi3 hk3 hy
               have HXN:=Lib.hid (show xs=(p1 ++ [y.var])++(varsT (lj.drop (i+1))++rj) by rw [HXV.out];simp)
               have HIN:=HI3
               have HCN:=Lib.hid (show Plus E1 wr (wr.alloc (.cells #[.int .i64 y.rel,.string y.var,.int .i64 y.sym.kind,.string y.sym.text,.int .i64 y.sym.n,.slice At y.list.length at_] 65)) X.heap.size from .inl HC1.out)
               have KCN:=Lib.hid (KCY.out.fr HK3.out (fun hn=>hn (.inr (.inl HC1.out))))
               have HEN:=Lib.hid (show ∀k,E k→Plus E1 wr (wr.alloc (.cells #[.int .i64 y.rel,.string y.var,.int .i64 y.sym.kind,.string y.sym.text,.int .i64 y.sym.n,.slice At y.list.length at_] 65)) k from fun k hk=>.inl (HE1.out k hk))
               have HFN:=Lib.hid (HFY.out.trans (HK3.out.mono (fun k _ hk hd=>hk (hd.imp id (HEN.out k)))))
               gi_wp2_with fail
               go_roundw
               case rel=>exact ⟨i+1,_,_,by go_num,by omega,HXN.out,HIN.out,HCN.out,KCN.out,HEN.out,HFN.out⟩
               case measure=>simp [intOf]<;>omega
             · have HT:=Lib.hid hT
               clear hT hy
               gi_wp2_with fail
               go_ret
               exact .inr ⟨rfl,HT.out⟩
         · obtain rfl:i=lj.length:=by omega
           have HX3:=Lib.hid (show xs=p1++(restN c (j+1)++rc) by rw [HX1.out,List.drop_length,HRJ.out];simp [varsT])
           gi_wp2_with fail
           go_roundw
           case rel=>exact ⟨j+1,_,_,by go_num,by omega,HX3.out,HI1.out,HC1.out,KC1.out,HE1.out,HF1.out⟩
           case measure=>simp [intOf]<;>omega
      · have HJ2:=Lib.hid (show j=2 by omega)
        have HX2:=Lib.hid (show xs=p1++((c.conds.drop 0).flatMap (namesN n)++post) by rw [HX1.out,HRC.out,HJ2.out,List.drop_zero];rfl)
        have jn:decide ((j:Int)<2)=false:=by simp;omega
        have k6:=(KC1.out.cell 6).trans rfl
        have kz:=KC1.out.lt
        clear HX1
        gi_wp2_with fail
        clear k6 kz
        gi_loopw [50] (fun s wr=>∃(i:Nat) (E1:Nat→Prop) (p1:List ByteArray),s = .int .i64 i∧i≤c.conds.length∧xs=p1++((c.conds.drop i).flatMap (namesN n)++post)∧ItSt J D E1 W p1 wr∧E1 X.heap.size∧Blk wr X.heap.size 50 #[.int .i64 c.kind,.bool c.goal,.string c.id,.slice A1 c.attr.length a1,.slice A2 c.value.length a2,.bool c.acc,.slice A3 c.conds.length a3]∧(∀k,E k→E1 k)∧Fr (fun k=>¬(D k∨E k)) X wr) (fun s wr=>c.conds.length - (intOf s).toNat)
        case atStart=>exact ⟨0,_,_,rfl,Nat.zero_le _,HX2.out,HI1.out,HC1.out,KC1.out,HE1.out,HF1.out⟩
        case round=>
         clear HX2 HI1 HC1 KC1 HE1 HF1
         obtain ⟨i,E1,p1,rfl,hi,hx1,hit1,hc1,hk1,he1,hf1⟩:=hrel
         have HX1:=Lib.hid hx1
         have HI1:=Lib.hid hit1
         have HC1:=Lib.hid hc1
         have KC1:=Lib.hid hk1
         have HE1:=Lib.hid he1
         have HF1:=Lib.hid hf1
         clear hx1 hit1 hc1 hk1 he1 hf1
         by_cases hlt2:i<c.conds.length
         · obtain ⟨m,hnm⟩ : ∃m,n=m+1:=by
            cases n with
            | zero=>have:=row_zero H3.out;rw [this] at hlt2;simp at hlt2
            | succ m=>exact ⟨m,rfl⟩
           subst hnm
           obtain ⟨y,hy0⟩ : ∃y,y=c.conds[i]:=⟨_,rfl⟩
           have hcr:=H3.out.fr HF1.out (fun k hk hn=>hn (.inl hk))
           obtain ⟨gt,ot,B1,b1_,B2,b2_,B3,b3_,hA,_,hgt,q0,q1,q2,q3,q4,q5,q6,-,-,-⟩:=at_CondT hcr hlt2
           have HDC:=Lib.hid (show (c.conds.drop i).flatMap (namesN (m+1))=namesN (m+1) y++(c.conds.drop (i+1)).flatMap (namesN (m+1)) by rw [hy0,List.drop_eq_getElem_cons hlt2,List.flatMap_cons])
           subst hA
           rw [← hy0] at q0 q1 q2 q3 q4 q5 q6
           obtain ⟨_,_,_,_,_,_,_,_,hA9,_,_,_,_,_,q3',q4',_,q6',r1,r2,r3⟩:=at_CondT hcr hlt2
           injection hA9 with hA9
           injection hA9 with e1 e2
           subst e1
           subst e2
           rw [← hy0] at q3' q4' q6' r1 r2 r3
           rw [q3] at q3'
           rw [q4] at q4'
           rw [q6] at q6'
           injection q3' with q3';injection q3' with s1 s2 s3;subst s1;subst s3
           injection q4' with q4';injection q4' with s4 s5 s6;subst s4;subst s6
           injection q6' with q6';injection q6' with s7 s8 s9;subst s7;subst s9
           have j1:(0:Int)≤(i:Int):=by omega
           have j2:(i:Int)<(c.conds.length:Int):=by omega
           have hbY:Below wr.heap.size wr (wr.alloc (.cells #[.int .i64 y.kind,.bool y.goal,.string y.id,.slice B1 y.attr.length b1_,.slice B2 y.value.length b2_,.bool y.acc,.slice B3 y.conds.length b3_] 50)):=(Below.refl _ _).alloc (Nat.le_refl _) _
           have HXY:=Lib.hid (show xs=p1++(namesN (m+1) y++((c.conds.drop (i+1)).flatMap (namesN (m+1))++post)) by rw [HX1.out,HDC.out,List.append_assoc])
           have HIH:=Lib.hid (IH.out m rfl y B1 b1_ B2 b2_ B3 b3_ (Plus E1 wr (wr.alloc (.cells #[.int .i64 y.kind,.bool y.goal,.string y.id,.slice B1 y.attr.length b1_,.slice B2 y.value.length b2_,.bool y.acc,.slice B3 y.conds.length b3_] 50))) p1 _ (wr.alloc (.cells #[.int .i64 y.kind,.bool y.goal,.string y.id,.slice B1 y.attr.length b1_,.slice B2 y.value.length b2_,.bool y.acc,.slice B3 y.conds.length b3_] 50)) HXY.out (r1.new_ hbY) (r2.new_ hbY) (r3.new_ hbY) (HI1.out.new_ HJ.out hbY))
           have KCY:=Lib.hid (KC1.out.new_ hbY)
           have HFY:=Lib.hid (HF1.out.trans (Fr.of_new hbY))
           clear hy0 hcr r1 r2 r3 hbY s2 s5 s8
           gi_wp2_with fail
           refine ⟨trivial,rfl,?_⟩
           refine HIH.out.mono ?_
           rintro e w5 (⟨rfl,⟨E5,he5,hi5⟩,hf5⟩ | ⟨rfl,hT⟩)
           · have HXN:=Lib.hid (show xs=(p1++namesN (m+1) y)++((c.conds.drop (i+1)).flatMap (namesN (m+1))++post) by rw [HXY.out];simp)
             have HI5:=Lib.hid hi5
             have HC5:=Lib.hid (he5 _ (.inl HC1.out))
             have KC5:=Lib.hid (KCY.out.fr hf5 (fun hn=>hn (.inr (.inl HC1.out))))
             have HE5:=Lib.hid (show ∀k,E k→E5 k from fun k hk=>he5 k (.inl (HE1.out k hk)))
             have HF5:=Lib.hid (HFY.out.trans (hf5.mono (fun k _ hk hd=>hk (hd.imp id (fun h=>.inl (HE1.out k h))))))
             clear he5 hi5 hf5 q0 q1 q2 q3 q4 q5 q6
             gi_wp2_with fail
             go_roundw
             case rel=>exact ⟨i+1,_,_,by go_num,by omega,HXN.out,HI5.out,HC5.out,KC5.out,HE5.out,HF5.out⟩
             case measure=>simp [intOf]<;>omega
           · have HT:=Lib.hid hT
             clear hT q0 q1 q2 q3 q4 q5 q6
             gi_wp2_with fail
             go_ret
             exact .inr ⟨rfl,HT.out⟩
         · obtain rfl:i=c.conds.length:=by omega
           have HXE:=Lib.hid (show p1=pre++namesN (n+1) c by
            have h:=HX1.out
            rw [List.drop_length,List.flatMap_nil,List.nil_append,HXX.out,← List.append_assoc] at h
            exact (List.append_cancel_right h).symm)
           gi_wp2_with fail
           go_ret
           exact .inl ⟨rfl,⟨E1,HE1.out,by have:=HI1.out;rw [HXE.out] at this;exact this⟩,HF1.out⟩
   · have HT:=Lib.hid hT
     clear hT hy
     gi_wp2_with fail
     go_ret
     exact .inr ⟨rfl,HT.out⟩
end Go.Proofs.Ytffemfglngikbaa
namespace Go.Proofs.Ytffemfglngikbaa
open Go.RowKit Go.Shelf
attribute [local go_sem] Oper.semAt_some
theorem names_is (n lo:Nat) (xs:List ByteArray) (J Jx:(Nat→Prop)→List ByteArray→World→Prop) (D:Nat→Prop) (W:World) (hJ:Steady W.heap.size J) (hY:RoundsO Try.prog lo encStr xs J Jx):NamesSpec n lo xs J Jx D W:=by
 induction n with
 | zero=>exact names_step 0 lo xs J Jx D W hJ hY (fun m h=>by omega)
 | succ n ih=>exact names_step (n+1) lo xs J Jx D W hJ hY (fun m h=>by obtain rfl:n=m:=by omega
                                                                       exact ih)
set_option maxRecDepth 100000 in
set_option maxHeartbeats 4000000 in
theorem namesI_is {D:Nat→Prop} (n:Nat) (c:CondT) (kb:Nat) (A1 A2 A3:Option Addr) (a1 a2 a3:Nat) (W:World) (hkb:Blk W kb 50 #[.int .i64 c.kind,.bool c.goal,.string c.id,.slice A1 c.attr.length a1,.slice A2 c.value.length a2,.bool c.acc,.slice A3 c.conds.length a3]) (_:D kb)
 (h1:RowR repTestT D W A1 a1 c.attr) (h2:RowR repTestT D W A2 a2 c.value) (h3:RowR (repCondT n) D W A3 a3 c.conds) :
 IterO Try.prog 71 #[.pointer (some ⟨kb,0,none⟩)] encStr (namesN (n+1) c) W D:=by
 intro lo J Jx hJ hJx h0 hY
 have hc:=names_is n lo (namesN (n+1) c) J Jx D W hJ hY c A1 a1 A2 a2 A3 a3 (fun _=>False) [] [] W (by simp) h1 h2 h3 (ItSt.start h0)
 obtain ⟨ns,hns⟩ : ∃ns,ns=namesN (n+1) c:=⟨_,rfl⟩
 rw [← hns] at hc ⊢
 have HC:=Lib.hid hc
 obtain ⟨q0,q1,q2,q3,q4,q5,q6⟩:=hkb.c7
 have hkl:=hkb.lt
 clear hc hns h0 hJ hJx hY h1 h2 h3 hkb
 refine callsIn_of_wp Try.func71 rfl trivial ?_
 simp only [Try.ntmps71,List.size_toArray,List.length_cons,List.length_nil,Nat.reduceAdd,Nat.reduceSub,Array.replicate_succ,Array.replicate_zero,List.push_toArray,List.append_toArray,List.nil_append,List.cons_append]
 gi_wp2_with fail
 refine ⟨trivial,rfl,?_⟩
 refine HC.out.mono ?_
 rintro e w5 (⟨rfl,⟨E5,_,hi5⟩,_⟩ | ⟨rfl,hT⟩)
 · have HI5:=Lib.hid hi5
   clear hi5 q0 q1 q2 q3 q4 q5 q6
   gi_wp2_with fail
   go_end0
   refine ⟨⟨_,rfl⟩,?_⟩
   have:=HI5.out
   rw [List.nil_append] at this
   exact this.told
 · have HT:=Lib.hid hT
   clear hT q0 q1 q2 q3 q4 q5 q6
   gi_wp2_with fail
   go_end0
   exact ⟨⟨_,rfl⟩,HT.out⟩
set_option maxHeartbeats 400000 in
theorem mknames_is (c:CondT) (A1 A2 A3:Option Addr) (a1 a2 a3:Nat) (w:World) :
 Calls Try.prog 56 #[.agg #[.int .i64 c.kind,.bool c.goal,.string c.id,.slice A1 c.attr.length a1,.slice A2 c.value.length a2,.bool c.acc,.slice A3 c.conds.length a3]] w fun e w'=>e = .returned (.func (.func 71) #[] #[.pointer (some ⟨w.heap.size,0,none⟩)])∧Blk w' w.heap.size 50 #[.int .i64 c.kind,.bool c.goal,.string c.id,.slice A1 c.attr.length a1,.slice A2 c.value.length a2,.bool c.acc,.slice A3 c.conds.length a3]∧Below w.heap.size w w':=by
 go_enter Try.func56,Try.ntmps56
 go_wp2_with fail
 go_ret
 exact ⟨rfl,Blk.new _ _ _,(Below.refl _ _).alloc (Nat.le_refl _) _⟩
end Go.Proofs.Ytffemfglngikbaa
