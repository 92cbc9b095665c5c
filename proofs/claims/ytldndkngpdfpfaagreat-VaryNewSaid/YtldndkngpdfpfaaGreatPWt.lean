/-
  Texts put together: VaryWk, LawVOrders, VaryQ, RefHas, RefRise.
-/
import Derived.Test.YtldndkngpdfpfaaGreatPWs
import Derived.Test.YtldndkngpdfpfaaGreatPWg
import Derived.Test.YtldndkngpdfpfaaGreatPWh
import Derived.Test.YtldndkngpdfpfaaGreatPWf
import Derived.IntWalk
import Derived.Maps.RangeWalk
namespace Go.Proofs.YtldndkngpdfpfaaGreat
open Go.RowKit Go.Shelf
set_option linter.unusedSimpArgs false
theorem Blk.setAllD {w:World} {g:Nat} {t:TypeId} {cs:Array Value} {vs:List Value} (h:Blk w g t cs) (hl:cs.size=vs.length):Blk (w.setCells g 0 vs) g t vs.toArray:=by
 have hr:=World.rangeAt_setCells_same w g 0 vs (by have:=h.there;rwa [hl] at this)
 obtain ⟨cs',h1,h2⟩:=Blk.setCells_ vs 0 h
 have e:cs'=vs.toArray:=by
  apply Array.ext
  · rw [h2];simpa using hl
  · intro i hi hj
    have hj':i<vs.length:=by simpa using hj
    have h3:=hr i vs[i] (List.getElem?_eq_getElem hj')
    rw [show (0+i)=i by omega,h1.cell i,Array.getElem?_eq_getElem hi] at h3
    simpa using h3
 rw [← e];exact h1
theorem rowRd_blk {α:Type} {w:World} {cells:α→List Value} {size g:Nat} {t:TypeId} {l:List α} {cs:Array Value} (hb:Blk w g t cs) (hc:cs=(l.flatMap cells).toArray) (hsz : ∀x,(cells x).length=size) (hm:l.length≤maxLen) {n:Nat} (hn:n=l.length):RowRd w size cells (some ⟨g,0,none⟩) n l:=by
 subst hn
 refine RowRd.of_cells (Nat.le_refl _) hm hb.lt (fun k hk j u hu=>?_)
 have hj:j<size:=by have:=(List.getElem?_eq_some_iff.1 hu).1;rwa [hsz] at this
 rw [hb.cell,Nat.zero_add,hc,← hu,← flat_get hsz l k hk j hj]
 simp
set_option maxHeartbeats 1000000 in
theorem wW9_is (t:ByteArray)(w:World):Calls Tryz.prog 32 #[.string t] w fun e w'=>e = .returned (.agg #[.int .i64 3,.string t,.int .i64 0])∧Below w.heap.size w w':=by
 go_enter Tryz.func32,Tryz.ntmps32
 go_wp2_with fail
 exact bodyPost_ret (v:=.agg #[.int .i64 3,.string t,.int .i64 0]) (by simp [results,Tryz.results32,go_sem]) rfl ⟨rfl,by (repeat (first | exact Below.refl _ _ | refine Below.drew ?_ | refine Below.al ?_ _ | refine Below.sc ?_ _))⟩
set_option maxHeartbeats 1000000 in
theorem wN9_is (n:Int)(w:World):Calls Tryz.prog 33 #[.int .i64 n] w fun e w'=>e = .returned (.agg #[.int .i64 2,.string ⟨#[]⟩,.int .i64 n])∧Below w.heap.size w w':=by
 go_enter Tryz.func33,Tryz.ntmps33
 go_wp2_with fail
 exact bodyPost_ret (v:=.agg #[.int .i64 2,.string ⟨#[]⟩,.int .i64 n]) (by simp [results,Tryz.results33,go_sem]) rfl ⟨rfl,by (repeat (first | exact Below.refl _ _ | refine Below.drew ?_ | refine Below.al ?_ _ | refine Below.sc ?_ _))⟩
set_option maxHeartbeats 1000000 in
theorem wI9_is (t:ByteArray) (n:Int)(w:World):Calls Tryz.prog 31 #[.string t,.int .i64 n] w fun e w'=>e = .returned (.agg #[.int .i64 1,.string t,.int .i64 n])∧Below w.heap.size w w':=by
 go_enter Tryz.func31,Tryz.ntmps31
 go_wp2_with fail
 exact bodyPost_ret (v:=.agg #[.int .i64 1,.string t,.int .i64 n]) (by simp [results,Tryz.results31,go_sem]) rfl ⟨rfl,by (repeat (first | exact Below.refl _ _ | refine Below.drew ?_ | refine Below.al ?_ _ | refine Below.sc ?_ _))⟩
theorem no22_is (w0:World):OldOk 56 #[] w0 (fun _=>false):=by
 refine ⟨fun args w=>by kernel_rfl,fun s W hW=>?_⟩
 show Calls Tryz.prog 56 #[.agg #[.int .i64 s.kind,.string s.text,.int .i64 s.n]] W _
 go_enter Tryz.func56,Tryz.ntmps56
 go_wp2_with fail
 go_ret
 exact ⟨rfl,(Below.refl _ _).alloc (Nat.le_refl _) _⟩
set_option maxRecDepth 100000 in
set_option maxHeartbeats 8000000 in
theorem wakes22_is (w:World):Calls Tryz.prog 13 #[] w fun e w'=>e = .returned (.bool true)∧Below w.heap.size w w':=by
 go_enter Tryz.func13,Tryz.ntmps13
 go_wp2_with fail
 refine (wI9_is ⟨#[83]⟩ 1 _).mono ?_
 rintro e w1 ⟨rfl,hb1⟩
 have HB1:=Lib.hid hb1
 clear hb1
 go_wp2_with fail
 refine (wI9_is ⟨#[65]⟩ 1 _).mono ?_
 rintro e w2 ⟨rfl,hb2⟩
 have HB2:=Lib.hid (HB1.out.trans (hb2.mono HB1.out.size))
 clear hb2
 go_upto_region 2 with fail
 obtain ⟨W3,hW3⟩ : ∃W,W=(w2.alloc (.cells #[.int .i64 1,.string ⟨#[83]⟩,.int .i64 1] 23)).alloc (.cells #[.int .i64 1,.string ⟨#[65]⟩,.int .i64 1] 23):=⟨_,rfl⟩
 have HB:=Lib.hid (show Below w.heap.size w W3 by rw [hW3];exact (HB2.out.alloc HB2.out.size _).alloc (by have:=HB2.out.size;simp;omega) _)
 obtain ⟨bs,hbs⟩ : ∃b,b=w2.heap.size:=⟨_,rfl⟩
 have Ks:=Lib.hid (show Blk W3 bs 23 #[.int .i64 1,.string ⟨#[83]⟩,.int .i64 1] by rw [hW3,hbs];exact (Blk.new _ _ _).alloc _)
 have Ka:=Lib.hid (show Blk W3 (bs+1) 23 #[.int .i64 1,.string ⟨#[65]⟩,.int .i64 1] by rw [hW3,hbs];have hh:=Blk.new (w2.alloc (.cells #[.int .i64 1,.string ⟨#[83]⟩,.int .i64 1] 23)) 23 #[.int .i64 1,.string ⟨#[65]⟩,.int .i64 1];simp only [World.size_alloc] at hh;exact hh)
 have HGB:=Lib.hid (show w.heap.size≤bs by rw [hbs];exact HB2.out.size)
 rw [← hW3,← hbs]
 clear hW3 hbs
 obtain ⟨s0,s1,s2⟩:=Ks.out.c3
 obtain ⟨a0,a1,a2⟩:=Ka.out.c3
 have sz:=Ks.out.lt
 have az:=Ka.out.lt
 go_cut [3] from 9 (fun p wc=>∃bt g,p = .pointer (some ⟨bt,0,none⟩)∧Blk wc bt 38 #[.slice (some ⟨g,0,none⟩) 2 2,.slice none 0 0,.slice none 0 0,.slice none 0 0,.int .i64 0,.int .i64 0]∧Blk wc g 57 #[.int .i64 1,.string ⟨#[83]⟩,.int .i64 1,.int .i64 3,.string ⟨#[120]⟩,.int .i64 0,.int .i64 1,.string ⟨#[65]⟩,.int .i64 1,.bool false,.bool true,.int .i64 1,.int .i64 1,.int .i64 0,.int .i64 1,.string ⟨#[65]⟩,.int .i64 1,.int .i64 3,.string ⟨#[121]⟩,.int .i64 0,.int .i64 2,.string ⟨#[]⟩,.int .i64 3,.bool false,.bool false,.int .i64 2,.int .i64 1,.int .i64 0]∧Below W3.heap.size W3 wc)
 case first=>
  refine wp_region_Pl (fun w9=>Below W3.heap.size W3 w9) [0,2,3,4,5,8,9,11] [0,2,5] (.fork [(0,1),(2,1),(5,1)] 1 (.fork [(3,0),(4,0)] 6 (.fork [] 7 (.fork [(8,0),(9,0)] 10 (.fin [(11,0),(12,2),(13,2)]) 12 (.fin [(10,2),(11,0),(13,2)])) 12 (.fin [(7,2),(8,0),(9,0),(10,2),(11,0),(13,2)])) 12 (.fin [(6,2),(7,2),(8,0),(9,0),(10,2),(11,0),(13,2)])) 12 (.fin [(1,2),(3,0),(4,0),(6,2),(7,2),(8,0),(9,0),(10,2),(11,0),(13,2)])) (by kernel_rfl) (by kernel_rfl) (by kernel_rfl) (fun KK hKK=>?_)
  simp only [wpPl,beside,List.filterMap_cons,List.filterMap_nil,List.getElem?_toArray,List.getElem?_cons_zero,List.getElem?_cons_succ,Option.map_some]
  repeat ((first | (refine wpY_w ?_ (Or.inl ⟨by rfl,fun w9=>?_⟩) ?_;rotate_left 1;go_simp;with_reducible rfl) | (refine wpY_l ?_ ((Below.refl _ _).drew) (Or.inl ⟨by rfl,fun w9 hw9=>?_⟩) ?_;rotate_left 1;obtain ⟨hc9,hf9⟩:=bcell hw9;go_simp;with_reducible rfl) | refine wpY_w undef (Or.inr ⟨by rfl,rfl⟩) ?_ | refine wpY_l undef ((Below.refl _ _).drew) (Or.inr ⟨by rfl,rfl⟩) ?_);go_frame)
  refine wpY_nil ⟨?_,?_⟩
  · refine wpOp_cs rfl (fun K9 hK9=>?_)
    go_simp
    refine (wW9_is ⟨#[120]⟩ _).mono ?_
    rintro e V4 ⟨rfl,hb⟩
    have hb4:Below W3.heap.size W3 V4:=((Below.refl W3.heap.size W3).drew).trans (hb.mono ((Below.refl W3.heap.size W3).drew).size)
    clear hb
    refine hK9 _ _ (fun _=>hb4) ?_
    clear hK9 K9
    try go_frame
    try simp only [beside,List.filterMap_nil]
    repeat ((first | (refine wpY_w ?_ (Or.inl ⟨by rfl,fun w9=>?_⟩) ?_;rotate_left 1;go_simp;with_reducible rfl) | (refine wpY_l ?_ ((Below.refl _ _).drew) (Or.inl ⟨by rfl,fun w9 hw9=>?_⟩) ?_;rotate_left 1;obtain ⟨hc9,hf9⟩:=bcell hw9;go_simp;with_reducible rfl) | refine wpY_w undef (Or.inr ⟨by rfl,rfl⟩) ?_ | refine wpY_l undef ((Below.refl _ _).drew) (Or.inr ⟨by rfl,rfl⟩) ?_);go_frame)
    refine wpY_nil ⟨?_,?_⟩
    · refine wpOp_cs rfl (fun K9 hK9=>?_)
      go_simp
      refine (wW9_is ⟨#[121]⟩ _).mono ?_
      rintro e V5 ⟨rfl,hb⟩
      have hb5:Below W3.heap.size W3 V5:=(hb4).trans (hb.mono (hb4).size)
      clear hb
      refine hK9 _ _ (fun _=>hb5) ?_
      clear hK9 K9
      try go_frame
      try simp only [beside,List.filterMap_nil]
      refine wpY_nil ⟨?_,?_⟩
      · refine wpOp_cs rfl (fun K9 hK9=>?_)
        go_simp
        refine (wN9_is 3 _).mono ?_
        rintro e V6 ⟨rfl,hb⟩
        have hb6:Below W3.heap.size W3 V6:=(hb5).trans (hb.mono (hb5).size)
        clear hb
        refine hK9 _ _ (fun _=>hb6) ?_
        clear hK9 K9
        try go_frame
        try simp only [beside,List.filterMap_nil]
        repeat ((first | (refine wpY_w ?_ (Or.inl ⟨by rfl,fun w9=>?_⟩) ?_;rotate_left 1;go_simp;with_reducible rfl) | (refine wpY_l ?_ ((Below.refl _ _).drew) (Or.inl ⟨by rfl,fun w9 hw9=>?_⟩) ?_;rotate_left 1;obtain ⟨hc9,hf9⟩:=bcell hw9;go_simp;with_reducible rfl) | refine wpY_w undef (Or.inr ⟨by rfl,rfl⟩) ?_ | refine wpY_l undef ((Below.refl _ _).drew) (Or.inr ⟨by rfl,rfl⟩) ?_);go_frame)
        refine wpY_nil ⟨?_,?_⟩
        · refine wpOp_cs rfl (fun K9 hK9=>?_)
          go_simp
          obtain ⟨V7,hV⟩ : ∃V,V=(V6.alloc (.cells #[.int .i64 1,.string ⟨#[83]⟩,.int .i64 1,.int .i64 3,.string ⟨#[120]⟩,.int .i64 0,.int .i64 1,.string ⟨#[65]⟩,.int .i64 1,.bool false,.bool true,.int .i64 1,.int .i64 1,.int .i64 0,.int .i64 1,.string ⟨#[65]⟩,.int .i64 1,.int .i64 3,.string ⟨#[121]⟩,.int .i64 0,.int .i64 2,.string ⟨#[]⟩,.int .i64 3,.bool false,.bool false,.int .i64 2,.int .i64 1,.int .i64 0] 57)):=⟨_,rfl⟩
          obtain ⟨gr,hg⟩ : ∃g,g=V6.heap.size:=⟨_,rfl⟩
          have hb:Below V6.heap.size V6 V7:=by rw [hV];exact (Below.refl _ _).alloc (Nat.le_refl _) _
          have hb7:Below W3.heap.size W3 V7:=(hb6).trans (hb.mono (hb6).size)
          have Kr:=Lib.hid (show Blk V7 gr 57 #[.int .i64 1,.string ⟨#[83]⟩,.int .i64 1,.int .i64 3,.string ⟨#[120]⟩,.int .i64 0,.int .i64 1,.string ⟨#[65]⟩,.int .i64 1,.bool false,.bool true,.int .i64 1,.int .i64 1,.int .i64 0,.int .i64 1,.string ⟨#[65]⟩,.int .i64 1,.int .i64 3,.string ⟨#[121]⟩,.int .i64 0,.int .i64 2,.string ⟨#[]⟩,.int .i64 3,.bool false,.bool false,.int .i64 2,.int .i64 1,.int .i64 0] by rw [hV,hg];exact Blk.new _ _ _)
          have Gr:=Lib.hid (show W3.heap.size≤gr by rw [hg];exact (hb6).size)
          rw [← hV,← hg]
          clear hV hg hb
          refine hK9 _ _ (fun _=>hb7) ?_
          clear hK9 K9
          try go_frame
          try simp only [beside,List.filterMap_nil]
          repeat ((first | (refine wpY_w ?_ (Or.inl ⟨by rfl,fun w9=>?_⟩) ?_;rotate_left 1;go_simp;with_reducible rfl) | (refine wpY_l ?_ ((Below.refl _ _).drew) (Or.inl ⟨by rfl,fun w9 hw9=>?_⟩) ?_;rotate_left 1;obtain ⟨hc9,hf9⟩:=bcell hw9;go_simp;with_reducible rfl) | refine wpY_w undef (Or.inr ⟨by rfl,rfl⟩) ?_ | refine wpY_l undef ((Below.refl _ _).drew) (Or.inr ⟨by rfl,rfl⟩) ?_);go_frame)
          refine wpY_es (fun K9 hK9=>?_)
          go_simp
          obtain ⟨V8,hV⟩ : ∃V,V=(V7.alloc (.cells #[.slice none 0 0,.slice none 0 0,.slice none 0 0,.slice none 0 0,.int .i64 0,.int .i64 0] 38)):=⟨_,rfl⟩
          obtain ⟨gt,hg⟩ : ∃g,g=V7.heap.size:=⟨_,rfl⟩
          have hb:Below V7.heap.size V7 V8:=by rw [hV];exact (Below.refl _ _).alloc (Nat.le_refl _) _
          have hb8:Below W3.heap.size W3 V8:=(hb7).trans (hb.mono (hb7).size)
          have Kt:=Lib.hid (show Blk V8 gt 38 #[.slice none 0 0,.slice none 0 0,.slice none 0 0,.slice none 0 0,.int .i64 0,.int .i64 0] by rw [hV,hg];exact Blk.new _ _ _)
          have Gt:=Lib.hid (show W3.heap.size≤gt by rw [hg];exact (hb7).size)
          have Kr:=Lib.hid (Kr.out.new_ hb)
          rw [← hV,← hg]
          clear hV hg hb
          refine hK9 _ _ (hb8) ?_
          clear hK9 K9
          try go_frame
          refine wpY_es (fun K9 hK9=>?_)
          have hTH:=Kt.out.there
          refine step_store_el rfl 38 _ _ rfl gt 0 #[Value.slice (some ⟨gr,0,none⟩) 2 2,Value.slice none 0 0,Value.slice none 0 0,Value.slice none 0 0,Value.int IntKind.i64 0,Value.int IntKind.i64 0] rfl rfl (show _ from hTH) (by kernel_rfl) (by kernel_rfl) ?_
          refine hK9 _ _ (Below.setCells' _ _ (hb8) Gt.out) ?_
          clear hK9 K9
          try go_frame
          refine wpY_nil ?_
          simp only [OnlyN_normal]
          refine hKK _ _ ?_
          clear hKK KK
          go_wp2_with fail
          go_meet
          case rel=>exact ⟨gt,gr,rfl,Kt.out.setAllD rfl,Blk.farCells _ _ Kr.out (Kr.out.ne_ Kt.out (by decide)),Below.setCells' _ _ (hb8) Gt.out⟩
        · refine wpOp_cs rfl (fun K9 hK9=>?_)
          go_simp
          obtain ⟨V7,hV⟩ : ∃V,V=(V6.alloc (.cells #[.slice none 0 0,.slice none 0 0,.slice none 0 0,.slice none 0 0,.int .i64 0,.int .i64 0] 38)):=⟨_,rfl⟩
          obtain ⟨gt,hg⟩ : ∃g,g=V6.heap.size:=⟨_,rfl⟩
          have hb:Below V6.heap.size V6 V7:=by rw [hV];exact (Below.refl _ _).alloc (Nat.le_refl _) _
          have hb7:Below W3.heap.size W3 V7:=(hb6).trans (hb.mono (hb6).size)
          have Kt:=Lib.hid (show Blk V7 gt 38 #[.slice none 0 0,.slice none 0 0,.slice none 0 0,.slice none 0 0,.int .i64 0,.int .i64 0] by rw [hV,hg];exact Blk.new _ _ _)
          have Gt:=Lib.hid (show W3.heap.size≤gt by rw [hg];exact (hb6).size)
          rw [← hV,← hg]
          clear hV hg hb
          refine hK9 _ _ (fun _=>hb7) ?_
          clear hK9 K9
          try go_frame
          try simp only [beside,List.filterMap_nil]
          refine wpY_es (fun K9 hK9=>?_)
          go_simp
          obtain ⟨V8,hV⟩ : ∃V,V=(V7.alloc (.cells #[.int .i64 1,.string ⟨#[83]⟩,.int .i64 1,.int .i64 3,.string ⟨#[120]⟩,.int .i64 0,.int .i64 1,.string ⟨#[65]⟩,.int .i64 1,.bool false,.bool true,.int .i64 1,.int .i64 1,.int .i64 0,.int .i64 1,.string ⟨#[65]⟩,.int .i64 1,.int .i64 3,.string ⟨#[121]⟩,.int .i64 0,.int .i64 2,.string ⟨#[]⟩,.int .i64 3,.bool false,.bool false,.int .i64 2,.int .i64 1,.int .i64 0] 57)):=⟨_,rfl⟩
          obtain ⟨gr,hg⟩ : ∃g,g=V7.heap.size:=⟨_,rfl⟩
          have hb:Below V7.heap.size V7 V8:=by rw [hV];exact (Below.refl _ _).alloc (Nat.le_refl _) _
          have hb8:Below W3.heap.size W3 V8:=(hb7).trans (hb.mono (hb7).size)
          have Kr:=Lib.hid (show Blk V8 gr 57 #[.int .i64 1,.string ⟨#[83]⟩,.int .i64 1,.int .i64 3,.string ⟨#[120]⟩,.int .i64 0,.int .i64 1,.string ⟨#[65]⟩,.int .i64 1,.bool false,.bool true,.int .i64 1,.int .i64 1,.int .i64 0,.int .i64 1,.string ⟨#[65]⟩,.int .i64 1,.int .i64 3,.string ⟨#[121]⟩,.int .i64 0,.int .i64 2,.string ⟨#[]⟩,.int .i64 3,.bool false,.bool false,.int .i64 2,.int .i64 1,.int .i64 0] by rw [hV,hg];exact Blk.new _ _ _)
          have Gr:=Lib.hid (show W3.heap.size≤gr by rw [hg];exact (hb7).size)
          have Kt:=Lib.hid (Kt.out.new_ hb)
          rw [← hV,← hg]
          clear hV hg hb
          refine hK9 _ _ (hb8) ?_
          clear hK9 K9
          try go_frame
          repeat ((first | (refine wpY_w ?_ (Or.inl ⟨by rfl,fun w9=>?_⟩) ?_;rotate_left 1;go_simp;with_reducible rfl) | (refine wpY_l ?_ ((Below.refl _ _).drew) (Or.inl ⟨by rfl,fun w9 hw9=>?_⟩) ?_;rotate_left 1;obtain ⟨hc9,hf9⟩:=bcell hw9;go_simp;with_reducible rfl) | refine wpY_w undef (Or.inr ⟨by rfl,rfl⟩) ?_ | refine wpY_l undef ((Below.refl _ _).drew) (Or.inr ⟨by rfl,rfl⟩) ?_);go_frame)
          refine wpY_es (fun K9 hK9=>?_)
          have hTH:=Kt.out.there
          refine step_store_el rfl 38 _ _ rfl gt 0 #[Value.slice (some ⟨gr,0,none⟩) 2 2,Value.slice none 0 0,Value.slice none 0 0,Value.slice none 0 0,Value.int IntKind.i64 0,Value.int IntKind.i64 0] rfl rfl (show _ from hTH) (by kernel_rfl) (by kernel_rfl) ?_
          refine hK9 _ _ (Below.setCells' _ _ (hb8) Gt.out) ?_
          clear hK9 K9
          try go_frame
          refine wpY_nil ?_
          simp only [OnlyN_normal]
          refine hKK _ _ ?_
          clear hKK KK
          go_wp2_with fail
          go_meet
          case rel=>exact ⟨gt,gr,rfl,Kt.out.setAllD rfl,Blk.farCells _ _ Kr.out (Kr.out.ne_ Kt.out (by decide)),Below.setCells' _ _ (hb8) Gt.out⟩
      · refine wpOp_cs rfl (fun K9 hK9=>?_)
        go_simp
        obtain ⟨V6,hV⟩ : ∃V,V=(V5.alloc (.cells #[.slice none 0 0,.slice none 0 0,.slice none 0 0,.slice none 0 0,.int .i64 0,.int .i64 0] 38)):=⟨_,rfl⟩
        obtain ⟨gt,hg⟩ : ∃g,g=V5.heap.size:=⟨_,rfl⟩
        have hb:Below V5.heap.size V5 V6:=by rw [hV];exact (Below.refl _ _).alloc (Nat.le_refl _) _
        have hb6:Below W3.heap.size W3 V6:=(hb5).trans (hb.mono (hb5).size)
        have Kt:=Lib.hid (show Blk V6 gt 38 #[.slice none 0 0,.slice none 0 0,.slice none 0 0,.slice none 0 0,.int .i64 0,.int .i64 0] by rw [hV,hg];exact Blk.new _ _ _)
        have Gt:=Lib.hid (show W3.heap.size≤gt by rw [hg];exact (hb5).size)
        rw [← hV,← hg]
        clear hV hg hb
        refine hK9 _ _ (fun _=>hb6) ?_
        clear hK9 K9
        try go_frame
        try simp only [beside,List.filterMap_nil]
        refine wpY_es (fun K9 hK9=>?_)
        go_simp
        refine (wN9_is 3 _).mono ?_
        rintro e V7 ⟨rfl,hb⟩
        have hb7:Below W3.heap.size W3 V7:=(hb6).trans (hb.mono (hb6).size)
        have Kt:=Lib.hid (Kt.out.new_ hb)
        clear hb
        refine hK9 _ _ (hb7) ?_
        clear hK9 K9
        try go_frame
        repeat ((first | (refine wpY_w ?_ (Or.inl ⟨by rfl,fun w9=>?_⟩) ?_;rotate_left 1;go_simp;with_reducible rfl) | (refine wpY_l ?_ ((Below.refl _ _).drew) (Or.inl ⟨by rfl,fun w9 hw9=>?_⟩) ?_;rotate_left 1;obtain ⟨hc9,hf9⟩:=bcell hw9;go_simp;with_reducible rfl) | refine wpY_w undef (Or.inr ⟨by rfl,rfl⟩) ?_ | refine wpY_l undef ((Below.refl _ _).drew) (Or.inr ⟨by rfl,rfl⟩) ?_);go_frame)
        refine wpY_es (fun K9 hK9=>?_)
        go_simp
        obtain ⟨V8,hV⟩ : ∃V,V=(V7.alloc (.cells #[.int .i64 1,.string ⟨#[83]⟩,.int .i64 1,.int .i64 3,.string ⟨#[120]⟩,.int .i64 0,.int .i64 1,.string ⟨#[65]⟩,.int .i64 1,.bool false,.bool true,.int .i64 1,.int .i64 1,.int .i64 0,.int .i64 1,.string ⟨#[65]⟩,.int .i64 1,.int .i64 3,.string ⟨#[121]⟩,.int .i64 0,.int .i64 2,.string ⟨#[]⟩,.int .i64 3,.bool false,.bool false,.int .i64 2,.int .i64 1,.int .i64 0] 57)):=⟨_,rfl⟩
        obtain ⟨gr,hg⟩ : ∃g,g=V7.heap.size:=⟨_,rfl⟩
        have hb:Below V7.heap.size V7 V8:=by rw [hV];exact (Below.refl _ _).alloc (Nat.le_refl _) _
        have hb8:Below W3.heap.size W3 V8:=(hb7).trans (hb.mono (hb7).size)
        have Kr:=Lib.hid (show Blk V8 gr 57 #[.int .i64 1,.string ⟨#[83]⟩,.int .i64 1,.int .i64 3,.string ⟨#[120]⟩,.int .i64 0,.int .i64 1,.string ⟨#[65]⟩,.int .i64 1,.bool false,.bool true,.int .i64 1,.int .i64 1,.int .i64 0,.int .i64 1,.string ⟨#[65]⟩,.int .i64 1,.int .i64 3,.string ⟨#[121]⟩,.int .i64 0,.int .i64 2,.string ⟨#[]⟩,.int .i64 3,.bool false,.bool false,.int .i64 2,.int .i64 1,.int .i64 0] by rw [hV,hg];exact Blk.new _ _ _)
        have Gr:=Lib.hid (show W3.heap.size≤gr by rw [hg];exact (hb7).size)
        have Kt:=Lib.hid (Kt.out.new_ hb)
        rw [← hV,← hg]
        clear hV hg hb
        refine hK9 _ _ (hb8) ?_
        clear hK9 K9
        try go_frame
        repeat ((first | (refine wpY_w ?_ (Or.inl ⟨by rfl,fun w9=>?_⟩) ?_;rotate_left 1;go_simp;with_reducible rfl) | (refine wpY_l ?_ ((Below.refl _ _).drew) (Or.inl ⟨by rfl,fun w9 hw9=>?_⟩) ?_;rotate_left 1;obtain ⟨hc9,hf9⟩:=bcell hw9;go_simp;with_reducible rfl) | refine wpY_w undef (Or.inr ⟨by rfl,rfl⟩) ?_ | refine wpY_l undef ((Below.refl _ _).drew) (Or.inr ⟨by rfl,rfl⟩) ?_);go_frame)
        refine wpY_es (fun K9 hK9=>?_)
        have hTH:=Kt.out.there
        refine step_store_el rfl 38 _ _ rfl gt 0 #[Value.slice (some ⟨gr,0,none⟩) 2 2,Value.slice none 0 0,Value.slice none 0 0,Value.slice none 0 0,Value.int IntKind.i64 0,Value.int IntKind.i64 0] rfl rfl (show _ from hTH) (by kernel_rfl) (by kernel_rfl) ?_
        refine hK9 _ _ (Below.setCells' _ _ (hb8) Gt.out) ?_
        clear hK9 K9
        try go_frame
        refine wpY_nil ?_
        simp only [OnlyN_normal]
        refine hKK _ _ ?_
        clear hKK KK
        go_wp2_with fail
        go_meet
        case rel=>exact ⟨gt,gr,rfl,Kt.out.setAllD rfl,Blk.farCells _ _ Kr.out (Kr.out.ne_ Kt.out (by decide)),Below.setCells' _ _ (hb8) Gt.out⟩
    · refine wpOp_cs rfl (fun K9 hK9=>?_)
      go_simp
      obtain ⟨V5,hV⟩ : ∃V,V=(V4.alloc (.cells #[.slice none 0 0,.slice none 0 0,.slice none 0 0,.slice none 0 0,.int .i64 0,.int .i64 0] 38)):=⟨_,rfl⟩
      obtain ⟨gt,hg⟩ : ∃g,g=V4.heap.size:=⟨_,rfl⟩
      have hb:Below V4.heap.size V4 V5:=by rw [hV];exact (Below.refl _ _).alloc (Nat.le_refl _) _
      have hb5:Below W3.heap.size W3 V5:=(hb4).trans (hb.mono (hb4).size)
      have Kt:=Lib.hid (show Blk V5 gt 38 #[.slice none 0 0,.slice none 0 0,.slice none 0 0,.slice none 0 0,.int .i64 0,.int .i64 0] by rw [hV,hg];exact Blk.new _ _ _)
      have Gt:=Lib.hid (show W3.heap.size≤gt by rw [hg];exact (hb4).size)
      rw [← hV,← hg]
      clear hV hg hb
      refine hK9 _ _ (fun _=>hb5) ?_
      clear hK9 K9
      try go_frame
      try simp only [beside,List.filterMap_nil]
      refine wpY_es (fun K9 hK9=>?_)
      go_simp
      refine (wW9_is ⟨#[121]⟩ _).mono ?_
      rintro e V6 ⟨rfl,hb⟩
      have hb6:Below W3.heap.size W3 V6:=(hb5).trans (hb.mono (hb5).size)
      have Kt:=Lib.hid (Kt.out.new_ hb)
      clear hb
      refine hK9 _ _ (hb6) ?_
      clear hK9 K9
      try go_frame
      refine wpY_es (fun K9 hK9=>?_)
      go_simp
      refine (wN9_is 3 _).mono ?_
      rintro e V7 ⟨rfl,hb⟩
      have hb7:Below W3.heap.size W3 V7:=(hb6).trans (hb.mono (hb6).size)
      have Kt:=Lib.hid (Kt.out.new_ hb)
      clear hb
      refine hK9 _ _ (hb7) ?_
      clear hK9 K9
      try go_frame
      repeat ((first | (refine wpY_w ?_ (Or.inl ⟨by rfl,fun w9=>?_⟩) ?_;rotate_left 1;go_simp;with_reducible rfl) | (refine wpY_l ?_ ((Below.refl _ _).drew) (Or.inl ⟨by rfl,fun w9 hw9=>?_⟩) ?_;rotate_left 1;obtain ⟨hc9,hf9⟩:=bcell hw9;go_simp;with_reducible rfl) | refine wpY_w undef (Or.inr ⟨by rfl,rfl⟩) ?_ | refine wpY_l undef ((Below.refl _ _).drew) (Or.inr ⟨by rfl,rfl⟩) ?_);go_frame)
      refine wpY_es (fun K9 hK9=>?_)
      go_simp
      obtain ⟨V8,hV⟩ : ∃V,V=(V7.alloc (.cells #[.int .i64 1,.string ⟨#[83]⟩,.int .i64 1,.int .i64 3,.string ⟨#[120]⟩,.int .i64 0,.int .i64 1,.string ⟨#[65]⟩,.int .i64 1,.bool false,.bool true,.int .i64 1,.int .i64 1,.int .i64 0,.int .i64 1,.string ⟨#[65]⟩,.int .i64 1,.int .i64 3,.string ⟨#[121]⟩,.int .i64 0,.int .i64 2,.string ⟨#[]⟩,.int .i64 3,.bool false,.bool false,.int .i64 2,.int .i64 1,.int .i64 0] 57)):=⟨_,rfl⟩
      obtain ⟨gr,hg⟩ : ∃g,g=V7.heap.size:=⟨_,rfl⟩
      have hb:Below V7.heap.size V7 V8:=by rw [hV];exact (Below.refl _ _).alloc (Nat.le_refl _) _
      have hb8:Below W3.heap.size W3 V8:=(hb7).trans (hb.mono (hb7).size)
      have Kr:=Lib.hid (show Blk V8 gr 57 #[.int .i64 1,.string ⟨#[83]⟩,.int .i64 1,.int .i64 3,.string ⟨#[120]⟩,.int .i64 0,.int .i64 1,.string ⟨#[65]⟩,.int .i64 1,.bool false,.bool true,.int .i64 1,.int .i64 1,.int .i64 0,.int .i64 1,.string ⟨#[65]⟩,.int .i64 1,.int .i64 3,.string ⟨#[121]⟩,.int .i64 0,.int .i64 2,.string ⟨#[]⟩,.int .i64 3,.bool false,.bool false,.int .i64 2,.int .i64 1,.int .i64 0] by rw [hV,hg];exact Blk.new _ _ _)
      have Gr:=Lib.hid (show W3.heap.size≤gr by rw [hg];exact (hb7).size)
      have Kt:=Lib.hid (Kt.out.new_ hb)
      rw [← hV,← hg]
      clear hV hg hb
      refine hK9 _ _ (hb8) ?_
      clear hK9 K9
      try go_frame
      repeat ((first | (refine wpY_w ?_ (Or.inl ⟨by rfl,fun w9=>?_⟩) ?_;rotate_left 1;go_simp;with_reducible rfl) | (refine wpY_l ?_ ((Below.refl _ _).drew) (Or.inl ⟨by rfl,fun w9 hw9=>?_⟩) ?_;rotate_left 1;obtain ⟨hc9,hf9⟩:=bcell hw9;go_simp;with_reducible rfl) | refine wpY_w undef (Or.inr ⟨by rfl,rfl⟩) ?_ | refine wpY_l undef ((Below.refl _ _).drew) (Or.inr ⟨by rfl,rfl⟩) ?_);go_frame)
      refine wpY_es (fun K9 hK9=>?_)
      have hTH:=Kt.out.there
      refine step_store_el rfl 38 _ _ rfl gt 0 #[Value.slice (some ⟨gr,0,none⟩) 2 2,Value.slice none 0 0,Value.slice none 0 0,Value.slice none 0 0,Value.int IntKind.i64 0,Value.int IntKind.i64 0] rfl rfl (show _ from hTH) (by kernel_rfl) (by kernel_rfl) ?_
      refine hK9 _ _ (Below.setCells' _ _ (hb8) Gt.out) ?_
      clear hK9 K9
      try go_frame
      refine wpY_nil ?_
      simp only [OnlyN_normal]
      refine hKK _ _ ?_
      clear hKK KK
      go_wp2_with fail
      go_meet
      case rel=>exact ⟨gt,gr,rfl,Kt.out.setAllD rfl,Blk.farCells _ _ Kr.out (Kr.out.ne_ Kt.out (by decide)),Below.setCells' _ _ (hb8) Gt.out⟩
  · refine wpOp_cs rfl (fun K9 hK9=>?_)
    go_simp
    obtain ⟨V4,hV⟩ : ∃V,V=(W3.alloc (.cells #[.slice none 0 0,.slice none 0 0,.slice none 0 0,.slice none 0 0,.int .i64 0,.int .i64 0] 38)).drew:=⟨_,rfl⟩
    obtain ⟨gt,hg⟩ : ∃g,g=W3.heap.size:=⟨_,rfl⟩
    have hb:Below W3.heap.size W3 V4:=by rw [hV];exact ((Below.refl _ _).alloc (Nat.le_refl _) _).drew
    have hb4:Below W3.heap.size W3 V4:=hb
    have Kt:=Lib.hid (show Blk V4 gt 38 #[.slice none 0 0,.slice none 0 0,.slice none 0 0,.slice none 0 0,.int .i64 0,.int .i64 0] by rw [hV,hg];exact Blk.new _ _ _)
    have Gt:=Lib.hid (show W3.heap.size≤gt by rw [hg];exact Nat.le_refl _)
    rw [← hV,← hg]
    clear hV hg hb
    refine hK9 _ _ (fun _=>hb4) ?_
    clear hK9 K9
    try go_frame
    try simp only [beside,List.filterMap_nil]
    refine wpY_es (fun K9 hK9=>?_)
    go_simp
    refine (wW9_is ⟨#[120]⟩ _).mono ?_
    rintro e V5 ⟨rfl,hb⟩
    have hb5:Below W3.heap.size W3 V5:=(hb4).trans (hb.mono (hb4).size)
    have Kt:=Lib.hid (Kt.out.new_ hb)
    clear hb
    refine hK9 _ _ (hb5) ?_
    clear hK9 K9
    try go_frame
    repeat ((first | (refine wpY_w ?_ (Or.inl ⟨by rfl,fun w9=>?_⟩) ?_;rotate_left 1;go_simp;with_reducible rfl) | (refine wpY_l ?_ ((Below.refl _ _).drew) (Or.inl ⟨by rfl,fun w9 hw9=>?_⟩) ?_;rotate_left 1;obtain ⟨hc9,hf9⟩:=bcell hw9;go_simp;with_reducible rfl) | refine wpY_w undef (Or.inr ⟨by rfl,rfl⟩) ?_ | refine wpY_l undef ((Below.refl _ _).drew) (Or.inr ⟨by rfl,rfl⟩) ?_);go_frame)
    refine wpY_es (fun K9 hK9=>?_)
    go_simp
    refine (wW9_is ⟨#[121]⟩ _).mono ?_
    rintro e V6 ⟨rfl,hb⟩
    have hb6:Below W3.heap.size W3 V6:=(hb5).trans (hb.mono (hb5).size)
    have Kt:=Lib.hid (Kt.out.new_ hb)
    clear hb
    refine hK9 _ _ (hb6) ?_
    clear hK9 K9
    try go_frame
    refine wpY_es (fun K9 hK9=>?_)
    go_simp
    refine (wN9_is 3 _).mono ?_
    rintro e V7 ⟨rfl,hb⟩
    have hb7:Below W3.heap.size W3 V7:=(hb6).trans (hb.mono (hb6).size)
    have Kt:=Lib.hid (Kt.out.new_ hb)
    clear hb
    refine hK9 _ _ (hb7) ?_
    clear hK9 K9
    try go_frame
    repeat ((first | (refine wpY_w ?_ (Or.inl ⟨by rfl,fun w9=>?_⟩) ?_;rotate_left 1;go_simp;with_reducible rfl) | (refine wpY_l ?_ ((Below.refl _ _).drew) (Or.inl ⟨by rfl,fun w9 hw9=>?_⟩) ?_;rotate_left 1;obtain ⟨hc9,hf9⟩:=bcell hw9;go_simp;with_reducible rfl) | refine wpY_w undef (Or.inr ⟨by rfl,rfl⟩) ?_ | refine wpY_l undef ((Below.refl _ _).drew) (Or.inr ⟨by rfl,rfl⟩) ?_);go_frame)
    refine wpY_es (fun K9 hK9=>?_)
    go_simp
    obtain ⟨V8,hV⟩ : ∃V,V=(V7.alloc (.cells #[.int .i64 1,.string ⟨#[83]⟩,.int .i64 1,.int .i64 3,.string ⟨#[120]⟩,.int .i64 0,.int .i64 1,.string ⟨#[65]⟩,.int .i64 1,.bool false,.bool true,.int .i64 1,.int .i64 1,.int .i64 0,.int .i64 1,.string ⟨#[65]⟩,.int .i64 1,.int .i64 3,.string ⟨#[121]⟩,.int .i64 0,.int .i64 2,.string ⟨#[]⟩,.int .i64 3,.bool false,.bool false,.int .i64 2,.int .i64 1,.int .i64 0] 57)):=⟨_,rfl⟩
    obtain ⟨gr,hg⟩ : ∃g,g=V7.heap.size:=⟨_,rfl⟩
    have hb:Below V7.heap.size V7 V8:=by rw [hV];exact (Below.refl _ _).alloc (Nat.le_refl _) _
    have hb8:Below W3.heap.size W3 V8:=(hb7).trans (hb.mono (hb7).size)
    have Kr:=Lib.hid (show Blk V8 gr 57 #[.int .i64 1,.string ⟨#[83]⟩,.int .i64 1,.int .i64 3,.string ⟨#[120]⟩,.int .i64 0,.int .i64 1,.string ⟨#[65]⟩,.int .i64 1,.bool false,.bool true,.int .i64 1,.int .i64 1,.int .i64 0,.int .i64 1,.string ⟨#[65]⟩,.int .i64 1,.int .i64 3,.string ⟨#[121]⟩,.int .i64 0,.int .i64 2,.string ⟨#[]⟩,.int .i64 3,.bool false,.bool false,.int .i64 2,.int .i64 1,.int .i64 0] by rw [hV,hg];exact Blk.new _ _ _)
    have Gr:=Lib.hid (show W3.heap.size≤gr by rw [hg];exact (hb7).size)
    have Kt:=Lib.hid (Kt.out.new_ hb)
    rw [← hV,← hg]
    clear hV hg hb
    refine hK9 _ _ (hb8) ?_
    clear hK9 K9
    try go_frame
    repeat ((first | (refine wpY_w ?_ (Or.inl ⟨by rfl,fun w9=>?_⟩) ?_;rotate_left 1;go_simp;with_reducible rfl) | (refine wpY_l ?_ ((Below.refl _ _).drew) (Or.inl ⟨by rfl,fun w9 hw9=>?_⟩) ?_;rotate_left 1;obtain ⟨hc9,hf9⟩:=bcell hw9;go_simp;with_reducible rfl) | refine wpY_w undef (Or.inr ⟨by rfl,rfl⟩) ?_ | refine wpY_l undef ((Below.refl _ _).drew) (Or.inr ⟨by rfl,rfl⟩) ?_);go_frame)
    refine wpY_es (fun K9 hK9=>?_)
    have hTH:=Kt.out.there
    refine step_store_el rfl 38 _ _ rfl gt 0 #[Value.slice (some ⟨gr,0,none⟩) 2 2,Value.slice none 0 0,Value.slice none 0 0,Value.slice none 0 0,Value.int IntKind.i64 0,Value.int IntKind.i64 0] rfl rfl (show _ from hTH) (by kernel_rfl) (by kernel_rfl) ?_
    refine hK9 _ _ (Below.setCells' _ _ (hb8) Gt.out) ?_
    clear hK9 K9
    try go_frame
    refine wpY_nil ?_
    simp only [OnlyN_normal]
    refine hKK _ _ ?_
    clear hKK KK
    go_wp2_with fail
    go_meet
    case rel=>exact ⟨gt,gr,rfl,Kt.out.setAllD rfl,Blk.farCells _ _ Kr.out (Kr.out.ne_ Kt.out (by decide)),Below.setCells' _ _ (hb8) Gt.out⟩
 case rest=>
  obtain ⟨bt,g,rfl,Kt,Kr,hbc⟩:=hcut
  have HR:=Lib.hid (rowRd_blk (cells:=TraceT.cells) (l:=[⟨e22a,1,0⟩,⟨e22b,1,0⟩]) (n:=2) Kr rfl TraceT.cells_length (by unfold maxLen;decide) rfl)
  have Ks:=Lib.hid (Ks.out.new_ hbc)
  have Ka:=Lib.hid (Ka.out.new_ hbc)
  have HB:=Lib.hid (HB.out.trans (hbc.mono HB.out.size))
  have KT:=Lib.hid Kt
  clear Kt Kr hbc s0 s1 s2 a0 a1 a2 sz az
  obtain ⟨s0,s1,s2⟩:=Ks.out.c3
  obtain ⟨a0,a1,a2⟩:=Ka.out.c3
  obtain ⟨t0,t1,t2,t3,t4,t5⟩:=KT.out.c6
  have sz:=Ks.out.lt
  have az:=Ka.out.lt
  have tz:=KT.out.lt
  obtain ⟨W3,hW3⟩ : ∃W,W=wc:=⟨_,rfl⟩
  rw [← hW3] at HR HB s0 s1 s2 a0 a1 a2 sz az tz t0 t1 t2 t3 t4 t5 ⊢
  clear Ks Ka KT HGB HB1 HB2 hW3
  go_upto_region 3 with fail
  go_cut [4,5,6] from 22 (fun p t k wc=>∃bp A1 c1 A2 c2 A3 c3,p = .pointer (some ⟨bp,0,none⟩)∧t = .slice A3 2 c3∧k = .bool true∧Blk wc bp 45 #[.string ⟨#[99]⟩,.slice A1 2 c1,.slice A2 1 c2]∧RowR (repCondT 1) (fun k=>k≠bp) wc A1 c1 [c22a,c22b]∧RowR repActT (fun k=>k≠bp) wc A2 c2 [a22]∧Below W3.heap.size W3 wc)
  case first=>
   refine wp_region_Pl (fun w9=>Below W3.heap.size W3 w9) [0,1,3,4,7,8,9,10,13,14] [0,1,3] (.fork [(0,1),(1,1),(3,1)] 2 (.fork [(4,0)] 5 (.fork [] 6 (.fin [(7,0),(8,0),(9,0),(10,0),(11,2),(12,2),(13,0),(14,0)]) 11 (.fin [(6,2),(7,0),(8,0),(9,0),(10,0),(12,2),(13,0),(14,0)])) 11 (.fin [(5,2),(6,2),(7,0),(8,0),(9,0),(10,0),(12,2),(13,0),(14,0)])) 11 (.fin [(2,2),(4,0),(5,2),(6,2),(7,0),(8,0),(9,0),(10,0),(12,2),(13,0),(14,0)])) (by kernel_rfl) (by kernel_rfl) (by kernel_rfl) (fun KK hKK=>?_)
   simp only [wpPl,beside,List.filterMap_cons,List.filterMap_nil,List.getElem?_toArray,List.getElem?_cons_zero,List.getElem?_cons_succ,Option.map_some]
   repeat ((first | (refine wpY_w ?_ (Or.inl ⟨by rfl,fun w9=>?_⟩) ?_;rotate_left 1;go_simp;with_reducible rfl) | (refine wpY_l ?_ ((Below.refl _ _).drew) (Or.inl ⟨by rfl,fun w9 hw9=>?_⟩) ?_;rotate_left 1;obtain ⟨hc9,hf9⟩:=bcell hw9;go_simp;with_reducible rfl) | refine wpY_w undef (Or.inr ⟨by rfl,rfl⟩) ?_ | refine wpY_l undef ((Below.refl _ _).drew) (Or.inr ⟨by rfl,rfl⟩) ?_);go_frame)
   refine wpY_nil ⟨?_,?_⟩
   · refine wpOp_cs rfl (fun K9 hK9=>?_)
     go_simp
     refine (wW9_is ⟨#[122]⟩ _).mono ?_
     rintro e V4 ⟨rfl,hb⟩
     have hb4:Below W3.heap.size W3 V4:=((Below.refl W3.heap.size W3).drew).trans (hb.mono ((Below.refl W3.heap.size W3).drew).size)
     clear hb
     refine hK9 _ _ (fun _=>hb4) ?_
     clear hK9 K9
     try go_frame
     try simp only [beside,List.filterMap_nil]
     repeat ((first | (refine wpY_w ?_ (Or.inl ⟨by rfl,fun w9=>?_⟩) ?_;rotate_left 1;go_simp;with_reducible rfl) | (refine wpY_l ?_ ((Below.refl _ _).drew) (Or.inl ⟨by rfl,fun w9 hw9=>?_⟩) ?_;rotate_left 1;obtain ⟨hc9,hf9⟩:=bcell hw9;go_simp;with_reducible rfl) | refine wpY_w undef (Or.inr ⟨by rfl,rfl⟩) ?_ | refine wpY_l undef ((Below.refl _ _).drew) (Or.inr ⟨by rfl,rfl⟩) ?_);go_frame)
     refine wpY_nil ⟨?_,?_⟩
     · refine wpOp_cs rfl (fun K9 hK9=>?_)
       go_simp
       obtain ⟨V5,hV⟩ : ∃V,V=(V4.alloc (.cells #[.int .i64 1,.string ⟨#[65]⟩,.int .i64 1,.int .i64 3,.string ⟨#[122]⟩,.int .i64 0,.int .i64 1,.string ⟨#[83]⟩,.int .i64 1,.int .i64 0,.string ⟨#[]⟩,.int .i64 0,.int .i64 1,.bool false,.int .i64 2,.int .i64 1] 68)):=⟨_,rfl⟩
       obtain ⟨gp,hg⟩ : ∃g,g=V4.heap.size:=⟨_,rfl⟩
       have hb:Below V4.heap.size V4 V5:=by rw [hV];exact (Below.refl _ _).alloc (Nat.le_refl _) _
       have hb5:Below W3.heap.size W3 V5:=(hb4).trans (hb.mono (hb4).size)
       have Kp:=Lib.hid (show Blk V5 gp 68 #[.int .i64 1,.string ⟨#[65]⟩,.int .i64 1,.int .i64 3,.string ⟨#[122]⟩,.int .i64 0,.int .i64 1,.string ⟨#[83]⟩,.int .i64 1,.int .i64 0,.string ⟨#[]⟩,.int .i64 0,.int .i64 1,.bool false,.int .i64 2,.int .i64 1] by rw [hV,hg];exact Blk.new _ _ _)
       have Gp:=Lib.hid (show W3.heap.size≤gp by rw [hg];exact (hb4).size)
       rw [← hV,← hg]
       clear hV hg hb
       refine hK9 _ _ (fun _=>hb5) ?_
       clear hK9 K9
       try go_frame
       try simp only [beside,List.filterMap_nil]
       refine wpY_nil ⟨?_,?_⟩
       · refine wpOp_cs rfl (fun K9 hK9=>?_)
         go_simp
         have HC:=Lib.hid (prod_is 0 ⟨#[99]⟩ [⟨e22a,1,0⟩,⟨e22b,1,0⟩] (some ⟨g,0,none⟩) 2 none 0 none 0 [] none 0 0 0 [p22] (some ⟨gp,0,none⟩) 1 V5 (no22_is _) (HR.out.new_ (hb5)) (RowRd.nil _ _ _) (rowRd_blk (cells:=PrefT.cells) (l:=[p22]) (n:=1) Kp.out rfl PrefT.cells_length (by unfold maxLen;decide) rfl) (by decide) (by decide) (by decide))
         unfold ProdTo at HC
         rw [show ([⟨e22a,1,0⟩,⟨e22b,1,0⟩]:List TraceT).map TraceT.elem = [e22a,e22b] from rfl,wk22_prod] at HC
         refine HC.out.mono ?_
         rintro e V6 ⟨hb,A1,c1,A2,c2,A3,c3,rfl,hr1,hr2,hr3,hr4⟩
         have HR1:=Lib.hid (show RowR (repCondT 1) (fun k=>V5.heap.size≤k∧k<V6.heap.size) V6 A1 c1 [c22a,c22b] from hr1)
         have HR2:=Lib.hid (show RowR repActT (fun k=>V5.heap.size≤k∧k<V6.heap.size) V6 A2 c2 [a22] from hr2)
         have hb6:Below W3.heap.size W3 V6:=(hb5).trans (hb.mono (hb5).size)
         have Kp:=Lib.hid (Kp.out.new_ hb)
         clear HC hb hr1 hr2 hr3 hr4
         refine hK9 _ _ (fun _=>hb6) ?_
         clear hK9 K9
         try go_frame
         try simp only [beside,List.filterMap_nil]
         repeat ((first | (refine wpY_w ?_ (Or.inl ⟨by rfl,fun w9=>?_⟩) ?_;rotate_left 1;go_simp;with_reducible rfl) | (refine wpY_l ?_ ((Below.refl _ _).drew) (Or.inl ⟨by rfl,fun w9 hw9=>?_⟩) ?_;rotate_left 1;obtain ⟨hc9,hf9⟩:=bcell hw9;go_simp;with_reducible rfl) | refine wpY_w undef (Or.inr ⟨by rfl,rfl⟩) ?_ | refine wpY_l undef ((Below.refl _ _).drew) (Or.inr ⟨by rfl,rfl⟩) ?_);go_frame)
         refine wpY_es (fun K9 hK9=>?_)
         go_simp
         obtain ⟨V7,hV⟩ : ∃V,V=(V6.alloc (.cells #[.string ⟨#[]⟩,.slice none 0 0,.slice none 0 0] 45)):=⟨_,rfl⟩
         obtain ⟨gt,hg⟩ : ∃g,g=V6.heap.size:=⟨_,rfl⟩
         have hb:Below V6.heap.size V6 V7:=by rw [hV];exact (Below.refl _ _).alloc (Nat.le_refl _) _
         have hb7:Below W3.heap.size W3 V7:=(hb6).trans (hb.mono (hb6).size)
         have Kt:=Lib.hid (show Blk V7 gt 45 #[.string ⟨#[]⟩,.slice none 0 0,.slice none 0 0] by rw [hV,hg];exact Blk.new _ _ _)
         have Gt:=Lib.hid (show W3.heap.size≤gt by rw [hg];exact (hb6).size)
         have Kp:=Lib.hid (Kp.out.new_ hb)
         have Lt:=Lib.hid (show gt<V7.heap.size from Kt.out.lt)
         have HQ1:=Lib.hid ((HR1.out.new_ hb).weaken (D':=fun k=>k≠gt) (fun k hk=>by have:=hk.2;omega))
         have HQ2:=Lib.hid ((HR2.out.new_ hb).weaken (D':=fun k=>k≠gt) (fun k hk=>by have:=hk.2;omega))
         rw [← hV,← hg]
         clear hV hg hb
         refine hK9 _ _ (hb7) ?_
         clear hK9 K9
         try go_frame
         refine wpY_es (fun K9 hK9=>?_)
         have hTH:=Kt.out.there
         refine step_store_el rfl 45 _ _ rfl gt 0 #[Value.string ⟨#[99]⟩,Value.slice A1 2 c1,Value.slice A2 1 c2] rfl rfl (show _ from hTH) (by kernel_rfl) (by kernel_rfl) ?_
         refine hK9 _ _ (Below.setCells' _ _ (hb7) Gt.out) ?_
         clear hK9 K9
         try go_frame
         repeat ((first | (refine wpY_w ?_ (Or.inl ⟨by rfl,fun w9=>?_⟩) ?_;rotate_left 1;go_simp;with_reducible rfl) | (refine wpY_l ?_ ((Below.refl _ _).drew) (Or.inl ⟨by rfl,fun w9 hw9=>?_⟩) ?_;rotate_left 1;obtain ⟨hc9,hf9⟩:=bcell hw9;go_simp;with_reducible rfl) | refine wpY_w undef (Or.inr ⟨by rfl,rfl⟩) ?_ | refine wpY_l undef ((Below.refl _ _).drew) (Or.inr ⟨by rfl,rfl⟩) ?_);go_frame)
         refine wpY_nil ?_
         simp only [OnlyN_normal]
         refine hKK _ _ ?_
         clear hKK KK
         go_wp2_with fail
         go_meet
         case rel=>exact ⟨gt,A1,c1,A2,c2,A3,c3,rfl,rfl,rfl,Kt.out.setAllD rfl,HQ1.out.fr (M:=fun k=>k=gt) (Fr.setCells _ _ (Fr.refl _ _) (.inl rfl)) (fun _ h=>h),HQ2.out.fr (M:=fun k=>k=gt) (Fr.setCells _ _ (Fr.refl _ _) (.inl rfl)) (fun _ h=>h),Below.setCells' _ _ (hb7) Gt.out⟩
       · refine wpOp_cs rfl (fun K9 hK9=>?_)
         go_simp
         obtain ⟨V6,hV⟩ : ∃V,V=(V5.alloc (.cells #[.string ⟨#[]⟩,.slice none 0 0,.slice none 0 0] 45)):=⟨_,rfl⟩
         obtain ⟨gt,hg⟩ : ∃g,g=V5.heap.size:=⟨_,rfl⟩
         have hb:Below V5.heap.size V5 V6:=by rw [hV];exact (Below.refl _ _).alloc (Nat.le_refl _) _
         have hb6:Below W3.heap.size W3 V6:=(hb5).trans (hb.mono (hb5).size)
         have Kt:=Lib.hid (show Blk V6 gt 45 #[.string ⟨#[]⟩,.slice none 0 0,.slice none 0 0] by rw [hV,hg];exact Blk.new _ _ _)
         have Gt:=Lib.hid (show W3.heap.size≤gt by rw [hg];exact (hb5).size)
         have Kp:=Lib.hid (Kp.out.new_ hb)
         have Lt:=Lib.hid (show gt<V6.heap.size from Kt.out.lt)
         rw [← hV,← hg]
         clear hV hg hb
         refine hK9 _ _ (fun _=>hb6) ?_
         clear hK9 K9
         try go_frame
         try simp only [beside,List.filterMap_nil]
         refine wpY_es (fun K9 hK9=>?_)
         go_simp
         have HC:=Lib.hid (prod_is 0 ⟨#[99]⟩ [⟨e22a,1,0⟩,⟨e22b,1,0⟩] (some ⟨g,0,none⟩) 2 none 0 none 0 [] none 0 0 0 [p22] (some ⟨gp,0,none⟩) 1 V6 (no22_is _) (HR.out.new_ (hb6)) (RowRd.nil _ _ _) (rowRd_blk (cells:=PrefT.cells) (l:=[p22]) (n:=1) Kp.out rfl PrefT.cells_length (by unfold maxLen;decide) rfl) (by decide) (by decide) (by decide))
         unfold ProdTo at HC
         rw [show ([⟨e22a,1,0⟩,⟨e22b,1,0⟩]:List TraceT).map TraceT.elem = [e22a,e22b] from rfl,wk22_prod] at HC
         refine HC.out.mono ?_
         rintro e V7 ⟨hb,A1,c1,A2,c2,A3,c3,rfl,hr1,hr2,hr3,hr4⟩
         have HR1:=Lib.hid (show RowR (repCondT 1) (fun k=>V6.heap.size≤k∧k<V7.heap.size) V7 A1 c1 [c22a,c22b] from hr1)
         have HR2:=Lib.hid (show RowR repActT (fun k=>V6.heap.size≤k∧k<V7.heap.size) V7 A2 c2 [a22] from hr2)
         have hb7:Below W3.heap.size W3 V7:=(hb6).trans (hb.mono (hb6).size)
         have Kp:=Lib.hid (Kp.out.new_ hb)
         have Kt:=Lib.hid (Kt.out.new_ hb)
         have hg1:=Lt.out
         have HQ1:=Lib.hid (HR1.out.weaken (D':=fun k=>k≠gt) (fun k hk=>by have:=hk.1;omega))
         have HQ2:=Lib.hid (HR2.out.weaken (D':=fun k=>k≠gt) (fun k hk=>by have:=hk.1;omega))
         clear hg1
         clear HC hb hr1 hr2 hr3 hr4
         refine hK9 _ _ (hb7) ?_
         clear hK9 K9
         try go_frame
         repeat ((first | (refine wpY_w ?_ (Or.inl ⟨by rfl,fun w9=>?_⟩) ?_;rotate_left 1;go_simp;with_reducible rfl) | (refine wpY_l ?_ ((Below.refl _ _).drew) (Or.inl ⟨by rfl,fun w9 hw9=>?_⟩) ?_;rotate_left 1;obtain ⟨hc9,hf9⟩:=bcell hw9;go_simp;with_reducible rfl) | refine wpY_w undef (Or.inr ⟨by rfl,rfl⟩) ?_ | refine wpY_l undef ((Below.refl _ _).drew) (Or.inr ⟨by rfl,rfl⟩) ?_);go_frame)
         refine wpY_es (fun K9 hK9=>?_)
         have hTH:=Kt.out.there
         refine step_store_el rfl 45 _ _ rfl gt 0 #[Value.string ⟨#[99]⟩,Value.slice A1 2 c1,Value.slice A2 1 c2] rfl rfl (show _ from hTH) (by kernel_rfl) (by kernel_rfl) ?_
         refine hK9 _ _ (Below.setCells' _ _ (hb7) Gt.out) ?_
         clear hK9 K9
         try go_frame
         repeat ((first | (refine wpY_w ?_ (Or.inl ⟨by rfl,fun w9=>?_⟩) ?_;rotate_left 1;go_simp;with_reducible rfl) | (refine wpY_l ?_ ((Below.refl _ _).drew) (Or.inl ⟨by rfl,fun w9 hw9=>?_⟩) ?_;rotate_left 1;obtain ⟨hc9,hf9⟩:=bcell hw9;go_simp;with_reducible rfl) | refine wpY_w undef (Or.inr ⟨by rfl,rfl⟩) ?_ | refine wpY_l undef ((Below.refl _ _).drew) (Or.inr ⟨by rfl,rfl⟩) ?_);go_frame)
         refine wpY_nil ?_
         simp only [OnlyN_normal]
         refine hKK _ _ ?_
         clear hKK KK
         go_wp2_with fail
         go_meet
         case rel=>exact ⟨gt,A1,c1,A2,c2,A3,c3,rfl,rfl,rfl,Kt.out.setAllD rfl,HQ1.out.fr (M:=fun k=>k=gt) (Fr.setCells _ _ (Fr.refl _ _) (.inl rfl)) (fun _ h=>h),HQ2.out.fr (M:=fun k=>k=gt) (Fr.setCells _ _ (Fr.refl _ _) (.inl rfl)) (fun _ h=>h),Below.setCells' _ _ (hb7) Gt.out⟩
     · refine wpOp_cs rfl (fun K9 hK9=>?_)
       go_simp
       obtain ⟨V5,hV⟩ : ∃V,V=(V4.alloc (.cells #[.string ⟨#[]⟩,.slice none 0 0,.slice none 0 0] 45)):=⟨_,rfl⟩
       obtain ⟨gt,hg⟩ : ∃g,g=V4.heap.size:=⟨_,rfl⟩
       have hb:Below V4.heap.size V4 V5:=by rw [hV];exact (Below.refl _ _).alloc (Nat.le_refl _) _
       have hb5:Below W3.heap.size W3 V5:=(hb4).trans (hb.mono (hb4).size)
       have Kt:=Lib.hid (show Blk V5 gt 45 #[.string ⟨#[]⟩,.slice none 0 0,.slice none 0 0] by rw [hV,hg];exact Blk.new _ _ _)
       have Gt:=Lib.hid (show W3.heap.size≤gt by rw [hg];exact (hb4).size)
       have Lt:=Lib.hid (show gt<V5.heap.size from Kt.out.lt)
       rw [← hV,← hg]
       clear hV hg hb
       refine hK9 _ _ (fun _=>hb5) ?_
       clear hK9 K9
       try go_frame
       try simp only [beside,List.filterMap_nil]
       refine wpY_es (fun K9 hK9=>?_)
       go_simp
       obtain ⟨V6,hV⟩ : ∃V,V=(V5.alloc (.cells #[.int .i64 1,.string ⟨#[65]⟩,.int .i64 1,.int .i64 3,.string ⟨#[122]⟩,.int .i64 0,.int .i64 1,.string ⟨#[83]⟩,.int .i64 1,.int .i64 0,.string ⟨#[]⟩,.int .i64 0,.int .i64 1,.bool false,.int .i64 2,.int .i64 1] 68)):=⟨_,rfl⟩
       obtain ⟨gp,hg⟩ : ∃g,g=V5.heap.size:=⟨_,rfl⟩
       have hb:Below V5.heap.size V5 V6:=by rw [hV];exact (Below.refl _ _).alloc (Nat.le_refl _) _
       have hb6:Below W3.heap.size W3 V6:=(hb5).trans (hb.mono (hb5).size)
       have Kp:=Lib.hid (show Blk V6 gp 68 #[.int .i64 1,.string ⟨#[65]⟩,.int .i64 1,.int .i64 3,.string ⟨#[122]⟩,.int .i64 0,.int .i64 1,.string ⟨#[83]⟩,.int .i64 1,.int .i64 0,.string ⟨#[]⟩,.int .i64 0,.int .i64 1,.bool false,.int .i64 2,.int .i64 1] by rw [hV,hg];exact Blk.new _ _ _)
       have Gp:=Lib.hid (show W3.heap.size≤gp by rw [hg];exact (hb5).size)
       have Kt:=Lib.hid (Kt.out.new_ hb)
       have Lt:=Lib.hid (Nat.lt_of_lt_of_le Lt.out hb.size)
       rw [← hV,← hg]
       clear hV hg hb
       refine hK9 _ _ (hb6) ?_
       clear hK9 K9
       try go_frame
       refine wpY_es (fun K9 hK9=>?_)
       go_simp
       have HC:=Lib.hid (prod_is 0 ⟨#[99]⟩ [⟨e22a,1,0⟩,⟨e22b,1,0⟩] (some ⟨g,0,none⟩) 2 none 0 none 0 [] none 0 0 0 [p22] (some ⟨gp,0,none⟩) 1 V6 (no22_is _) (HR.out.new_ (hb6)) (RowRd.nil _ _ _) (rowRd_blk (cells:=PrefT.cells) (l:=[p22]) (n:=1) Kp.out rfl PrefT.cells_length (by unfold maxLen;decide) rfl) (by decide) (by decide) (by decide))
       unfold ProdTo at HC
       rw [show ([⟨e22a,1,0⟩,⟨e22b,1,0⟩]:List TraceT).map TraceT.elem = [e22a,e22b] from rfl,wk22_prod] at HC
       refine HC.out.mono ?_
       rintro e V7 ⟨hb,A1,c1,A2,c2,A3,c3,rfl,hr1,hr2,hr3,hr4⟩
       have HR1:=Lib.hid (show RowR (repCondT 1) (fun k=>V6.heap.size≤k∧k<V7.heap.size) V7 A1 c1 [c22a,c22b] from hr1)
       have HR2:=Lib.hid (show RowR repActT (fun k=>V6.heap.size≤k∧k<V7.heap.size) V7 A2 c2 [a22] from hr2)
       have hb7:Below W3.heap.size W3 V7:=(hb6).trans (hb.mono (hb6).size)
       have Kp:=Lib.hid (Kp.out.new_ hb)
       have Kt:=Lib.hid (Kt.out.new_ hb)
       have hg1:=Lt.out
       have HQ1:=Lib.hid (HR1.out.weaken (D':=fun k=>k≠gt) (fun k hk=>by have:=hk.1;omega))
       have HQ2:=Lib.hid (HR2.out.weaken (D':=fun k=>k≠gt) (fun k hk=>by have:=hk.1;omega))
       clear hg1
       clear HC hb hr1 hr2 hr3 hr4
       refine hK9 _ _ (hb7) ?_
       clear hK9 K9
       try go_frame
       repeat ((first | (refine wpY_w ?_ (Or.inl ⟨by rfl,fun w9=>?_⟩) ?_;rotate_left 1;go_simp;with_reducible rfl) | (refine wpY_l ?_ ((Below.refl _ _).drew) (Or.inl ⟨by rfl,fun w9 hw9=>?_⟩) ?_;rotate_left 1;obtain ⟨hc9,hf9⟩:=bcell hw9;go_simp;with_reducible rfl) | refine wpY_w undef (Or.inr ⟨by rfl,rfl⟩) ?_ | refine wpY_l undef ((Below.refl _ _).drew) (Or.inr ⟨by rfl,rfl⟩) ?_);go_frame)
       refine wpY_es (fun K9 hK9=>?_)
       have hTH:=Kt.out.there
       refine step_store_el rfl 45 _ _ rfl gt 0 #[Value.string ⟨#[99]⟩,Value.slice A1 2 c1,Value.slice A2 1 c2] rfl rfl (show _ from hTH) (by kernel_rfl) (by kernel_rfl) ?_
       refine hK9 _ _ (Below.setCells' _ _ (hb7) Gt.out) ?_
       clear hK9 K9
       try go_frame
       repeat ((first | (refine wpY_w ?_ (Or.inl ⟨by rfl,fun w9=>?_⟩) ?_;rotate_left 1;go_simp;with_reducible rfl) | (refine wpY_l ?_ ((Below.refl _ _).drew) (Or.inl ⟨by rfl,fun w9 hw9=>?_⟩) ?_;rotate_left 1;obtain ⟨hc9,hf9⟩:=bcell hw9;go_simp;with_reducible rfl) | refine wpY_w undef (Or.inr ⟨by rfl,rfl⟩) ?_ | refine wpY_l undef ((Below.refl _ _).drew) (Or.inr ⟨by rfl,rfl⟩) ?_);go_frame)
       refine wpY_nil ?_
       simp only [OnlyN_normal]
       refine hKK _ _ ?_
       clear hKK KK
       go_wp2_with fail
       go_meet
       case rel=>exact ⟨gt,A1,c1,A2,c2,A3,c3,rfl,rfl,rfl,Kt.out.setAllD rfl,HQ1.out.fr (M:=fun k=>k=gt) (Fr.setCells _ _ (Fr.refl _ _) (.inl rfl)) (fun _ h=>h),HQ2.out.fr (M:=fun k=>k=gt) (Fr.setCells _ _ (Fr.refl _ _) (.inl rfl)) (fun _ h=>h),Below.setCells' _ _ (hb7) Gt.out⟩
   · refine wpOp_cs rfl (fun K9 hK9=>?_)
     go_simp
     obtain ⟨V4,hV⟩ : ∃V,V=(W3.alloc (.cells #[.string ⟨#[]⟩,.slice none 0 0,.slice none 0 0] 45)).drew:=⟨_,rfl⟩
     obtain ⟨gt,hg⟩ : ∃g,g=W3.heap.size:=⟨_,rfl⟩
     have hb:Below W3.heap.size W3 V4:=by rw [hV];exact ((Below.refl _ _).alloc (Nat.le_refl _) _).drew
     have hb4:Below W3.heap.size W3 V4:=hb
     have Kt:=Lib.hid (show Blk V4 gt 45 #[.string ⟨#[]⟩,.slice none 0 0,.slice none 0 0] by rw [hV,hg];exact Blk.new _ _ _)
     have Gt:=Lib.hid (show W3.heap.size≤gt by rw [hg];exact Nat.le_refl _)
     have Lt:=Lib.hid (show gt<V4.heap.size from Kt.out.lt)
     rw [← hV,← hg]
     clear hV hg hb
     refine hK9 _ _ (fun _=>hb4) ?_
     clear hK9 K9
     try go_frame
     try simp only [beside,List.filterMap_nil]
     refine wpY_es (fun K9 hK9=>?_)
     go_simp
     refine (wW9_is ⟨#[122]⟩ _).mono ?_
     rintro e V5 ⟨rfl,hb⟩
     have hb5:Below W3.heap.size W3 V5:=(hb4).trans (hb.mono (hb4).size)
     have Kt:=Lib.hid (Kt.out.new_ hb)
     have Lt:=Lib.hid (Nat.lt_of_lt_of_le Lt.out hb.size)
     clear hb
     refine hK9 _ _ (hb5) ?_
     clear hK9 K9
     try go_frame
     repeat ((first | (refine wpY_w ?_ (Or.inl ⟨by rfl,fun w9=>?_⟩) ?_;rotate_left 1;go_simp;with_reducible rfl) | (refine wpY_l ?_ ((Below.refl _ _).drew) (Or.inl ⟨by rfl,fun w9 hw9=>?_⟩) ?_;rotate_left 1;obtain ⟨hc9,hf9⟩:=bcell hw9;go_simp;with_reducible rfl) | refine wpY_w undef (Or.inr ⟨by rfl,rfl⟩) ?_ | refine wpY_l undef ((Below.refl _ _).drew) (Or.inr ⟨by rfl,rfl⟩) ?_);go_frame)
     refine wpY_es (fun K9 hK9=>?_)
     go_simp
     obtain ⟨V6,hV⟩ : ∃V,V=(V5.alloc (.cells #[.int .i64 1,.string ⟨#[65]⟩,.int .i64 1,.int .i64 3,.string ⟨#[122]⟩,.int .i64 0,.int .i64 1,.string ⟨#[83]⟩,.int .i64 1,.int .i64 0,.string ⟨#[]⟩,.int .i64 0,.int .i64 1,.bool false,.int .i64 2,.int .i64 1] 68)):=⟨_,rfl⟩
     obtain ⟨gp,hg⟩ : ∃g,g=V5.heap.size:=⟨_,rfl⟩
     have hb:Below V5.heap.size V5 V6:=by rw [hV];exact (Below.refl _ _).alloc (Nat.le_refl _) _
     have hb6:Below W3.heap.size W3 V6:=(hb5).trans (hb.mono (hb5).size)
     have Kp:=Lib.hid (show Blk V6 gp 68 #[.int .i64 1,.string ⟨#[65]⟩,.int .i64 1,.int .i64 3,.string ⟨#[122]⟩,.int .i64 0,.int .i64 1,.string ⟨#[83]⟩,.int .i64 1,.int .i64 0,.string ⟨#[]⟩,.int .i64 0,.int .i64 1,.bool false,.int .i64 2,.int .i64 1] by rw [hV,hg];exact Blk.new _ _ _)
     have Gp:=Lib.hid (show W3.heap.size≤gp by rw [hg];exact (hb5).size)
     have Kt:=Lib.hid (Kt.out.new_ hb)
     have Lt:=Lib.hid (Nat.lt_of_lt_of_le Lt.out hb.size)
     rw [← hV,← hg]
     clear hV hg hb
     refine hK9 _ _ (hb6) ?_
     clear hK9 K9
     try go_frame
     refine wpY_es (fun K9 hK9=>?_)
     go_simp
     have HC:=Lib.hid (prod_is 0 ⟨#[99]⟩ [⟨e22a,1,0⟩,⟨e22b,1,0⟩] (some ⟨g,0,none⟩) 2 none 0 none 0 [] none 0 0 0 [p22] (some ⟨gp,0,none⟩) 1 V6 (no22_is _) (HR.out.new_ (hb6)) (RowRd.nil _ _ _) (rowRd_blk (cells:=PrefT.cells) (l:=[p22]) (n:=1) Kp.out rfl PrefT.cells_length (by unfold maxLen;decide) rfl) (by decide) (by decide) (by decide))
     unfold ProdTo at HC
     rw [show ([⟨e22a,1,0⟩,⟨e22b,1,0⟩]:List TraceT).map TraceT.elem = [e22a,e22b] from rfl,wk22_prod] at HC
     refine HC.out.mono ?_
     rintro e V7 ⟨hb,A1,c1,A2,c2,A3,c3,rfl,hr1,hr2,hr3,hr4⟩
     have HR1:=Lib.hid (show RowR (repCondT 1) (fun k=>V6.heap.size≤k∧k<V7.heap.size) V7 A1 c1 [c22a,c22b] from hr1)
     have HR2:=Lib.hid (show RowR repActT (fun k=>V6.heap.size≤k∧k<V7.heap.size) V7 A2 c2 [a22] from hr2)
     have hb7:Below W3.heap.size W3 V7:=(hb6).trans (hb.mono (hb6).size)
     have Kp:=Lib.hid (Kp.out.new_ hb)
     have Kt:=Lib.hid (Kt.out.new_ hb)
     have hg1:=Lt.out
     have HQ1:=Lib.hid (HR1.out.weaken (D':=fun k=>k≠gt) (fun k hk=>by have:=hk.1;omega))
     have HQ2:=Lib.hid (HR2.out.weaken (D':=fun k=>k≠gt) (fun k hk=>by have:=hk.1;omega))
     clear hg1
     clear HC hb hr1 hr2 hr3 hr4
     refine hK9 _ _ (hb7) ?_
     clear hK9 K9
     try go_frame
     repeat ((first | (refine wpY_w ?_ (Or.inl ⟨by rfl,fun w9=>?_⟩) ?_;rotate_left 1;go_simp;with_reducible rfl) | (refine wpY_l ?_ ((Below.refl _ _).drew) (Or.inl ⟨by rfl,fun w9 hw9=>?_⟩) ?_;rotate_left 1;obtain ⟨hc9,hf9⟩:=bcell hw9;go_simp;with_reducible rfl) | refine wpY_w undef (Or.inr ⟨by rfl,rfl⟩) ?_ | refine wpY_l undef ((Below.refl _ _).drew) (Or.inr ⟨by rfl,rfl⟩) ?_);go_frame)
     refine wpY_es (fun K9 hK9=>?_)
     have hTH:=Kt.out.there
     refine step_store_el rfl 45 _ _ rfl gt 0 #[Value.string ⟨#[99]⟩,Value.slice A1 2 c1,Value.slice A2 1 c2] rfl rfl (show _ from hTH) (by kernel_rfl) (by kernel_rfl) ?_
     refine hK9 _ _ (Below.setCells' _ _ (hb7) Gt.out) ?_
     clear hK9 K9
     try go_frame
     repeat ((first | (refine wpY_w ?_ (Or.inl ⟨by rfl,fun w9=>?_⟩) ?_;rotate_left 1;go_simp;with_reducible rfl) | (refine wpY_l ?_ ((Below.refl _ _).drew) (Or.inl ⟨by rfl,fun w9 hw9=>?_⟩) ?_;rotate_left 1;obtain ⟨hc9,hf9⟩:=bcell hw9;go_simp;with_reducible rfl) | refine wpY_w undef (Or.inr ⟨by rfl,rfl⟩) ?_ | refine wpY_l undef ((Below.refl _ _).drew) (Or.inr ⟨by rfl,rfl⟩) ?_);go_frame)
     refine wpY_nil ?_
     simp only [OnlyN_normal]
     refine hKK _ _ ?_
     clear hKK KK
     go_wp2_with fail
     go_meet
     case rel=>exact ⟨gt,A1,c1,A2,c2,A3,c3,rfl,rfl,rfl,Kt.out.setAllD rfl,HQ1.out.fr (M:=fun k=>k=gt) (Fr.setCells _ _ (Fr.refl _ _) (.inl rfl)) (fun _ h=>h),HQ2.out.fr (M:=fun k=>k=gt) (Fr.setCells _ _ (Fr.refl _ _) (.inl rfl)) (fun _ h=>h),Below.setCells' _ _ (hb7) Gt.out⟩
  case rest=>
   obtain ⟨bp,A1,c1,A2,c2,A3,c3,rfl,rfl,rfl,Kp,hr1,hr2,hbc⟩:=hcut
   have HF:=Lib.hid (HB.out.trans (hbc.mono HB.out.size))
   clear s0 s1 s2 a0 a1 a2 sz az tz t0 t1 t2 t3 t4 t5 HB
   obtain ⟨p0,p1,p2⟩:=Kp.c3
   have pz:=Kp.lt
   obtain ⟨g1,o1,B1,b1_,B2,b2_,B3,b3_,hA,_,hg,-,-,xx,-,-,-,-,-,-,-⟩:=at_CondT hr1 (k:=0) (by decide)
   obtain ⟨g2,o2,C1,d1_,C2,d2_,C3,d3_,hA2,_,_,-,-,yy,-,-,-,-,-,-,-⟩:=at_CondT hr1 (k:=1) (by decide)
   subst hA
   injection hA2 with hA2
   injection hA2 with e1 e2
   subst e1;subst e2
   obtain ⟨g3,o3,hA3,_,hg3,zz,-⟩:=at_ActT hr2 (k:=0) (by decide)
   subst hA3
   have x2:wc.cell? ⟨g1,o1+2,none⟩=some (.string ⟨#[115,49]⟩):=by simpa [c22a,CondT.id] using xx
   have y2:wc.cell? ⟨g1,o1+9,none⟩=some (.string ⟨#[97,50]⟩):=by simpa [c22b,CondT.id,Nat.add_assoc] using yy
   have z0:wc.cell? ⟨g3,o3,none⟩=some (.string ⟨#[97,50]⟩):=by simpa [a22] using zz
   have q1:2≤c1:=hr1.1
   have q2:1≤c2:=hr2.1
   clear hr1 hr2 hbc Kp xx yy zz
   go_wp2_with fail
   go_ret
   exact ⟨rfl,HF.out⟩
end Go.Proofs.YtldndkngpdfpfaaGreat
namespace Go.Proofs.YtldndkngpdfpfaaGreat
open Go.RowKit Go.Shelf
attribute [local go_sem] Oper.semAt_some
set_option linter.unusedSimpArgs false
end Go.Proofs.YtldndkngpdfpfaaGreat
namespace Go.Proofs.YtldndkngpdfpfaaGreat
def amongV (es:List Elem) (news:List Sym):Bool:=news.any fun s=>es.any fun e=>decide (e.id=s) || (decide (e.value=s) && decide (s.kind=1))
theorem amongV_named {es o:List Elem} {ns:List Sym} (h:orderV es=some (o,ns)) (news:List Sym):(news.any fun s=>!decide (plV ns s=0))=amongV es news:=by
 obtain ⟨_,_,_,hm⟩:=orderV_told h
 unfold amongV
 induction news with
 | nil=>rfl
 | cons s l ih=>
   rw [List.any_cons,List.any_cons,ih]
   congr 1
   rw [Bool.eq_iff_iff]
   simp only [Bool.not_eq_true',decide_eq_false_iff_not,List.any_eq_true,Bool.or_eq_true,Bool.and_eq_true,decide_eq_true_eq]
   rw [plV_zero,Classical.not_not,hm s]
   constructor
   · rintro ⟨e,he,h1 | ⟨h1,h2⟩⟩
     · exact ⟨e,he,.inl h1.symm⟩
     · exact ⟨e,he,.inr ⟨h1.symm,by rw [h1];exact h2⟩⟩
   · rintro ⟨e,he,h1 | ⟨h1,h2⟩⟩
     · exact ⟨e,he,.inl h1.symm⟩
     · exact ⟨e,he,.inr ⟨h1.symm,by rw [h1];exact h2⟩⟩
theorem vnew_none (m:Nat) (nm:ByteArray) (es:List Elem) (old:Sym→Bool) (news:List Sym) (l:List PrefT) (h:prodV m nm es old [] l=none∨amongV es news=true):prodV m nm es old news l=none:=by
 unfold prodV at h ⊢
 cases ho:orderV es with
 | none=>rfl
 | some x=>
   obtain ⟨o,ns⟩:=x
   rw [ho] at h
   simp only at h ⊢
   rw [amongV_named ho news]
   by_cases h0:o = []
   · rw [if_pos h0]
   · rw [if_neg h0] at h ⊢
     by_cases h1:amongV es news=true
     · rw [if_pos h1]
     · rw [if_neg h1]
       rcases h with h | h
       · simpa using h
       · exact absurd h h1
theorem vnew_same (m:Nat) (nm:ByteArray) (es:List Elem) (old:Sym→Bool) (news:List Sym) (l:List PrefT) (h:amongV es news=false):prodV m nm es old news l=prodV m nm es old [] l:=by
 unfold prodV
 cases ho:orderV es with
 | none=>rfl
 | some x=>
   obtain ⟨o,ns⟩:=x
   simp only
   rw [amongV_named ho news,h]
   simp
end Go.Proofs.YtldndkngpdfpfaaGreat
namespace Go.Proofs.YtldndkngpdfpfaaGreat
open Go.RowKit
attribute [local go_sem] eql_sym neq_sym
end Go.Proofs.YtldndkngpdfpfaaGreat
namespace Go.Proofs.YtldndkngpdfpfaaGreat
open Go.RowKit Go.Shelf
attribute [local go_sem] Oper.semAt_some
set_option linter.unusedSimpArgs false
theorem fresh_any {e:TypeId} {size n m B:Nat} {w w':World} {A:Option Addr} {c:Nat} {v:Value} {xs news:List Value} (hown:w'.ownsRow 0 e size v (n+m) (xs++news)) (hg:w.grownBy w' (Value.slice A n c).ownBlock) (hat:v.ownBlock=(Value.slice A n c).ownBlock∨v.ownBlock=some w.heap.size) (hA:AIn A (B≤·)) (hB:B≤w.heap.size) :
 ∃A' c',v = .slice A' (n+m) c'∧w'.ownsRow 0 e size (.slice A' (n+m) c') (n+m) (xs++news)∧AIn A' (B≤·)∧Below B w w':=by
 obtain ⟨A',c',rfl,hF,hA',hO⟩:=grown_own (E:=fun j=>∃a,A=some a∧a.block=j) (fun a ha=>⟨a,ha,rfl⟩) hown hg hat
 refine ⟨A',c',rfl,hO,fun a ha=>?_,hF.below hB (fun k hk ⟨a,ha,e⟩=>by have:B≤a.block:=hA a ha;omega)⟩
 rcases hA' a ha with ⟨b,hb,e⟩ | ⟨h1,_⟩
 · rw [← e];exact hA b hb
 · exact Nat.le_trans hB h1
end Go.Proofs.YtldndkngpdfpfaaGreat
