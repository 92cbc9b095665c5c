/-
  Texts put together: VaryWk, LawVOrders, VaryQ, RefHas10, RefHas, RefRise.
-/
import Derived.Test.YtldndkngpdfpfaaGreatPTk
import Derived.Test.YtldndkngpdfpfaaGreatPTd
import Derived.Test.YtldndkngpdfpfaaGreatPTe
import Derived.Test.YtldndkngpdfpfaaGreatPTc
import Derived.IntWalk
import Derived.Maps.RangeWalk
namespace Go.Proofs.YtldndkngpdfpfaaGreat
open Go.RowKit Go.Shelf
set_option linter.unusedSimpArgs false
theorem Blk.setAllD {w:World} {g:Nat} {t:TypeId} {cs:Array Value} {vs:List Value} (h:Blk w g t cs) (hl:cs.size=vs.length):Blk (w.setCells g 0 vs) g t vs.toArray:=by
 have hr:=World.rangeAt_setCells_same w g 0 vs (by have:=h.there;rwa [hl] at this)
 obtain ⟨cs',h1,h2⟩:=Blk.setCells_ vs 0 h
 have e:cs'=vs.toArray:=by
  apply Array.ext
  · rw [h2];simpa using hl
  · intro i hi hj
    have hj':i<vs.length:=by simpa using hj
    have h3:=hr i vs[i] (List.getElem?_eq_getElem hj')
    rw [show (0+i)=i by omega,h1.cell i,Array.getElem?_eq_getElem hi] at h3
    simpa using h3
 rw [← e];exact h1
theorem rowRd_blk {α:Type} {w:World} {cells:α→List Value} {size g:Nat} {t:TypeId} {l:List α} {cs:Array Value} (hb:Blk w g t cs) (hc:cs=(l.flatMap cells).toArray) (hsz : ∀x,(cells x).length=size) (hm:l.length≤maxLen) {n:Nat} (hn:n=l.length):RowRd w size cells (some ⟨g,0,none⟩) n l:=by
 subst hn
 refine RowRd.of_cells (Nat.le_refl _) hm hb.lt (fun k hk j u hu=>?_)
 have hj:j<size:=by have:=(List.getElem?_eq_some_iff.1 hu).1;rwa [hsz] at this
 rw [hb.cell,Nat.zero_add,hc,← hu,← flat_get hsz l k hk j hj]
 simp
set_option maxHeartbeats 1000000 in
theorem wW9_is (t:ByteArray)(w:World):Calls Tryz.prog 32 #[.string t] w fun e w'=>e = .returned (.agg #[.int .i64 3,.string t,.int .i64 0])∧Below w.heap.size w w':=by
 go_enter Tryz.func32,Tryz.ntmps32
 go_wp2_with fail
 exact bodyPost_ret (v:=.agg #[.int .i64 3,.string t,.int .i64 0]) (by simp [results,Tryz.results32,go_sem]) rfl ⟨rfl,by (repeat (first | exact Below.refl _ _ | refine Below.drew ?_ | refine Below.al ?_ _ | refine Below.sc ?_ _))⟩
set_option maxHeartbeats 1000000 in
theorem wN9_is (n:Int)(w:World):Calls Tryz.prog 33 #[.int .i64 n] w fun e w'=>e = .returned (.agg #[.int .i64 2,.string ⟨#[]⟩,.int .i64 n])∧Below w.heap.size w w':=by
 go_enter Tryz.func33,Tryz.ntmps33
 go_wp2_with fail
 exact bodyPost_ret (v:=.agg #[.int .i64 2,.string ⟨#[]⟩,.int .i64 n]) (by simp [results,Tryz.results33,go_sem]) rfl ⟨rfl,by (repeat (first | exact Below.refl _ _ | refine Below.drew ?_ | refine Below.al ?_ _ | refine Below.sc ?_ _))⟩
set_option maxHeartbeats 1000000 in
theorem wI9_is (t:ByteArray) (n:Int)(w:World):Calls Tryz.prog 31 #[.string t,.int .i64 n] w fun e w'=>e = .returned (.agg #[.int .i64 1,.string t,.int .i64 n])∧Below w.heap.size w w':=by
 go_enter Tryz.func31,Tryz.ntmps31
 go_wp2_with fail
 exact bodyPost_ret (v:=.agg #[.int .i64 1,.string t,.int .i64 n]) (by simp [results,Tryz.results31,go_sem]) rfl ⟨rfl,by (repeat (first | exact Below.refl _ _ | refine Below.drew ?_ | refine Below.al ?_ _ | refine Below.sc ?_ _))⟩
theorem no22_is (w0:World):OldOk 56 #[] w0 (fun _=>false):=by
 refine ⟨fun args w=>by kernel_rfl,fun s W hW=>?_⟩
 show Calls Tryz.prog 56 #[.agg #[.int .i64 s.kind,.string s.text,.int .i64 s.n]] W _
 go_enter Tryz.func56,Tryz.ntmps56
 go_wp2_with fail
 go_ret
 exact ⟨rfl,(Below.refl _ _).alloc (Nat.le_refl _) _⟩
set_option maxRecDepth 100000 in
set_option maxHeartbeats 8000000 in
theorem wakes22_is (w:World):Calls Tryz.prog 13 #[] w fun e w'=>e = .returned (.bool true)∧Below w.heap.size w w':=by
 go_enter Tryz.func13,Tryz.ntmps13
 go_wp2_with fail
 refine (wI9_is ⟨#[83]⟩ 1 _).mono ?_
 rintro e w1 ⟨rfl,hb1⟩
 have HB1:=Lib.hid hb1
 clear hb1
 go_wp2_with fail
 refine (wI9_is ⟨#[65]⟩ 1 _).mono ?_
 rintro e w2 ⟨rfl,hb2⟩
 have HB2:=Lib.hid (HB1.out.trans (hb2.mono HB1.out.size))
 clear hb2
 go_upto_region 2 with fail
 obtain ⟨W3,hW3⟩ : ∃W,W=(w2.alloc (.cells #[.int .i64 1,.string ⟨#[83]⟩,.int .i64 1] 23)).alloc (.cells #[.int .i64 1,.string ⟨#[65]⟩,.int .i64 1] 23):=⟨_,rfl⟩
 have HB:=Lib.hid (show Below w.heap.size w W3 by rw [hW3];exact (HB2.out.alloc HB2.out.size _).alloc (by have:=HB2.out.size;simp;omega) _)
 obtain ⟨bs,hbs⟩ : ∃b,b=w2.heap.size:=⟨_,rfl⟩
 have Ks:=Lib.hid (show Blk W3 bs 23 #[.int .i64 1,.string ⟨#[83]⟩,.int .i64 1] by rw [hW3,hbs];exact (Blk.new _ _ _).alloc _)
 have Ka:=Lib.hid (show Blk W3 (bs+1) 23 #[.int .i64 1,.string ⟨#[65]⟩,.int .i64 1] by rw [hW3,hbs];have hh:=Blk.new (w2.alloc (.cells #[.int .i64 1,.string ⟨#[83]⟩,.int .i64 1] 23)) 23 #[.int .i64 1,.string ⟨#[65]⟩,.int .i64 1];simp only [World.size_alloc] at hh;exact hh)
 have HGB:=Lib.hid (show w.heap.size≤bs by rw [hbs];exact HB2.out.size)
 rw [← hW3,← hbs]
 clear hW3 hbs
 obtain ⟨s0,s1,s2⟩:=Ks.out.c3
 obtain ⟨a0,a1,a2⟩:=Ka.out.c3
 have sz:=Ks.out.lt
 have az:=Ka.out.lt
 go_cut [3] from 9 (fun p wc=>∃bt g,p = .pointer (some ⟨bt,0,none⟩)∧Blk wc bt 38 #[.slice (some ⟨g,0,none⟩) 2 2,.slice none 0 0,.slice none 0 0,.slice none 0 0,.int .i64 0,.int .i64 0]∧Blk wc g 57 #[.int .i64 1,.string ⟨#[83]⟩,.int .i64 1,.int .i64 3,.string ⟨#[120]⟩,.int .i64 0,.int .i64 1,.string ⟨#[65]⟩,.int .i64 1,.bool false,.bool true,.int .i64 1,.int .i64 1,.int .i64 0,.int .i64 1,.string ⟨#[65]⟩,.int .i64 1,.int .i64 3,.string ⟨#[121]⟩,.int .i64 0,.int .i64 2,.string ⟨#[]⟩,.int .i64 3,.bool false,.bool false,.int .i64 2,.int .i64 1,.int .i64 0]∧Below W3.heap.size W3 wc)
 case first=>
  refine wp_region_Pl (fun w9=>Below W3.heap.size W3 w9) [0,2,3,4,5,8,9,11] [0,2,5] (.fork [(0,1),(2,1),(5,1)] 1 (.fork [(3,0),(4,0)] 6 (.fork [] 7 (.fork [(8,0),(9,0)] 10 (.fin [(11,0),(12,2),(13,2)]) 12 (.fin [(10,2),(11,0),(13,2)])) 12 (.fin [(7,2),(8,0),(9,0),(10,2),(11,0),(13,2)])) 12 (.fin [(6,2),(7,2),(8,0),(9,0),(10,2),(11,0),(13,2)])) 12 (.fin [(1,2),(3,0),(4,0),(6,2),(7,2),(8,0),(9,0),(10,2),(11,0),(13,2)])) (by kernel_rfl) (by kernel_rfl) (by kernel_rfl) (fun KK hKK=>?_)
  simp only [wpPl,beside,List.filterMap_cons,List.filterMap_nil,List.getElem?_toArray,List.getElem?_cons_zero,List.getElem?_cons_succ,Option.map_some]
  repeat ((first | (refine wpY_w ?_ (Or.inl ⟨by rfl,fun w9=>?_⟩) ?_;rotate_left 1;go_simp;with_reducible rfl) | (refine wpY_l ?_ ((Below.refl _ _).drew) (Or.inl ⟨by rfl,fun w9 hw9=>?_⟩) ?_;rotate_left 1;obtain ⟨hc9,hf9⟩:=bcell hw9;go_simp;with_reducible rfl) | refine wpY_w undef (Or.inr ⟨by rfl,rfl⟩) ?_ | refine wpY_l undef ((Below.refl _ _).drew) (Or.inr ⟨by rfl,rfl⟩) ?_);go_frame)
  refine wpY_nil ⟨?_,?_⟩
  · refine wpOp_cs rfl (fun K9 hK9=>?_)
    go_simp
    refine (wW9_is ⟨#[120]⟩ _).mono ?_
    rintro e V4 ⟨rfl,hb⟩
    have hb4:Below W3.heap.size W3 V4:=((Below.refl W3.heap.size W3).drew).trans (hb.mono ((Below.refl W3.heap.size W3).drew).size)
    clear hb
    refine hK9 _ _ (fun _=>hb4) ?_
    clear hK9 K9
    try go_frame
    try simp only [beside,List.filterMap_nil]
    repeat ((first | (refine wpY_w ?_ (Or.inl ⟨by rfl,fun w9=>?_⟩) ?_;rotate_left 1;go_simp;with_reducible rfl) | (refine wpY_l ?_ ((Below.refl _ _).drew) (Or.inl ⟨by rfl,fun w9 hw9=>?_⟩) ?_;rotate_left 1;obtain ⟨hc9,hf9⟩:=bcell hw9;go_simp;with_reducible rfl) | refine wpY_w undef (Or.inr ⟨by rfl,rfl⟩) ?_ | refine wpY_l undef ((Below.refl _ _).drew) (Or.inr ⟨by rfl,rfl⟩) ?_);go_frame)
    refine wpY_nil ⟨?_,?_⟩
    · refine wpOp_cs rfl (fun K9 hK9=>?_)
      go_simp
      refine (wW9_is ⟨#[121]⟩ _).mono ?_
      rintro e V5 ⟨rfl,hb⟩
      have hb5:Below W3.heap.size W3 V5:=(hb4).trans (hb.mono (hb4).size)
      clear hb
      refine hK9 _ _ (fun _=>hb5) ?_
      clear hK9 K9
      try go_frame
      try simp only [beside,List.filterMap_nil]
      refine wpY_nil ⟨?_,?_⟩
      · refine wpOp_cs rfl (fun K9 hK9=>?_)
        go_simp
        refine (wN9_is 3 _).mono ?_
        rintro e V6 ⟨rfl,hb⟩
        have hb6:Below W3.heap.size W3 V6:=(hb5).trans (hb.mono (hb5).size)
        clear hb
        refine hK9 _ _ (fun _=>hb6) ?_
        clear hK9 K9
        try go_frame
        try simp only [beside,List.filterMap_nil]
        repeat ((first | (refine wpY_w ?_ (Or.inl ⟨by rfl,fun w9=>?_⟩) ?_;rotate_left 1;go_simp;with_reducible rfl) | (refine wpY_l ?_ ((Below.refl _ _).drew) (Or.inl ⟨by rfl,fun w9 hw9=>?_⟩) ?_;rotate_left 1;obtain ⟨hc9,hf9⟩:=bcell hw9;go_simp;with_reducible rfl) | refine wpY_w undef (Or.inr ⟨by rfl,rfl⟩) ?_ | refine wpY_l undef ((Below.refl _ _).drew) (Or.inr ⟨by rfl,rfl⟩) ?_);go_frame)
        refine wpY_nil ⟨?_,?_⟩
        · refine wpOp_cs rfl (fun K9 hK9=>?_)
          go_simp
          obtain ⟨V7,hV⟩ : ∃V,V=(V6.alloc (.cells #[.int .i64 1,.string ⟨#[83]⟩,.int .i64 1,.int .i64 3,.string ⟨#[120]⟩,.int .i64 0,.int .i64 1,.string ⟨#[65]⟩,.int .i64 1,.bool false,.bool true,.int .i64 1,.int .i64 1,.int .i64 0,.int .i64 1,.string ⟨#[65]⟩,.int .i64 1,.int .i64 3,.string ⟨#[121]⟩,.int .i64 0,.int .i64 2,.string ⟨#[]⟩,.int .i64 3,.bool false,.bool false,.int .i64 2,.int .i64 1,.int .i64 0] 57)):=⟨_,rfl⟩
          obtain ⟨gr,hg⟩ : ∃g,g=V6.heap.size:=⟨_,rfl⟩
          have hb:Below V6.heap.size V6 V7:=by rw [hV];exact (Below.refl _ _).alloc (Nat.le_refl _) _
          have hb7:Below W3.heap.size W3 V7:=(hb6).trans (hb.mono (hb6).size)
          have Kr:=Lib.hid (show Blk V7 gr 57 #[.int .i64 1,.string ⟨#[83]⟩,.int .i64 1,.int .i64 3,.string ⟨#[120]⟩,.int .i64 0,.int .i64 1,.string ⟨#[65]⟩,.int .i64 1,.bool false,.bool true,.int .i64 1,.int .i64 1,.int .i64 0,.int .i64 1,.string ⟨#[65]⟩,.int .i64 1,.int .i64 3,.string ⟨#[121]⟩,.int .i64 0,.int .i64 2,.string ⟨#[]⟩,.int .i64 3,.bool false,.bool false,.int .i64 2,.int .i64 1,.int .i64 0] by rw [hV,hg];exact Blk.new _ _ _)
          have Gr:=Lib.hid (show W3.heap.size≤gr by rw [hg];exact (hb6).size)
          rw [← hV,← hg]
          clear hV hg hb
          refine hK9 _ _ (fun _=>hb7) ?_
          clear hK9 K9
          try go_frame
          try simp only [beside,List.filterMap_nil]
          repeat ((first | (refine wpY_w ?_ (Or.inl ⟨by rfl,fun w9=>?_⟩) ?_;rotate_left 1;go_simp;with_reducible rfl) | (refine wpY_l ?_ ((Below.refl _ _).drew) (Or.inl ⟨by rfl,fun w9 hw9=>?_⟩) ?_;rotate_left 1;obtain ⟨hc9,hf9⟩:=bcell hw9;go_simp;with_reducible rfl) | refine wpY_w undef (Or.inr ⟨by rfl,rfl⟩) ?_ | refine wpY_l undef ((Below.refl _ _).drew) (Or.inr ⟨by rfl,rfl⟩) ?_);go_frame)
          refine wpY_es (fun K9 hK9=>?_)
          go_simp
          obtain ⟨V8,hV⟩ : ∃V,V=(V7.alloc (.cells #[.slice none 0 0,.slice none 0 0,.slice none 0 0,.slice none 0 0,.int .i64 0,.int .i64 0] 38)):=⟨_,rfl⟩
          obtain ⟨gt,hg⟩ : ∃g,g=V7.heap.size:=⟨_,rfl⟩
          have hb:Below V7.heap.size V7 V8:=by rw [hV];exact (Below.refl _ _).alloc (Nat.le_refl _) _
          have hb8:Below W3.heap.size W3 V8:=(hb7).trans (hb.mono (hb7).size)
          have Kt:=Lib.hid (show Blk V8 gt 38 #[.slice none 0 0,.slice none 0 0,.slice none 0 0,.slice none 0 0,.int .i64 0,.int .i64 0] by rw [hV,hg];exact Blk.new _ _ _)
          have Gt:=Lib.hid (show W3.heap.size≤gt by rw [hg];exact (hb7).size)
          have Kr:=Lib.hid (Kr.out.new_ hb)
          rw [← hV,← hg]
          clear hV hg hb
          refine hK9 _ _ (hb8) ?_
          clear hK9 K9
          try go_frame
          refine wpY_es (fun K9 hK9=>?_)
          have hTH:=Kt.out.there
          refine step_store_el rfl 38 _ _ rfl gt 0 #[Value.slice (some ⟨gr,0,none⟩) 2 2,Value.slice none 0 0,Value.slice none 0 0,Value.slice none 0 0,Value.int IntKind.i64 0,Value.int IntKind.i64 0] rfl rfl (show _ from hTH) (by kernel_rfl) (by kernel_rfl) ?_
          refine hK9 _ _ (Below.setCells' _ _ (hb8) Gt.out) ?_
          clear hK9 K9
          try go_frame
          refine wpY_nil ?_
          simp only [OnlyN_normal]
          refine hKK _ _ ?_
          clear hKK KK
          go_wp2_with fail
          go_meet
          case rel=>exact ⟨gt,gr,rfl,Kt.out.setAllD rfl,Blk.farCells _ _ Kr.out (Kr.out.ne_ Kt.out (by decide)),Below.setCells' _ _ (hb8) Gt.out⟩
        · refine wpOp_cs rfl (fun K9 hK9=>?_)
          go_simp
          obtain ⟨V7,hV⟩ : ∃V,V=(V6.alloc (.cells #[.slice none 0 0,.slice none 0 0,.slice none 0 0,.slice none 0 0,.int .i64 0,.int .i64 0] 38)):=⟨_,rfl⟩
          obtain ⟨gt,hg⟩ : ∃g,g=V6.heap.size:=⟨_,rfl⟩
          have hb:Below V6.heap.size V6 V7:=by rw [hV];exact (Below.refl _ _).alloc (Nat.le_refl _) _
          have hb7:Below W3.heap.size W3 V7:=(hb6).trans (hb.mono (hb6).size)
          have Kt:=Lib.hid (show Blk V7 gt 38 #[.slice none 0 0,.slice none 0 0,.slice none 0 0,.slice none 0 0,.int .i64 0,.int .i64 0] by rw [hV,hg];exact Blk.new _ _ _)
          have Gt:=Lib.hid (show W3.heap.size≤gt by rw [hg];exact (hb6).size)
          rw [← hV,← hg]
          clear hV hg hb
          refine hK9 _ _ (fun _=>hb7) ?_
          clear hK9 K9
          try go_frame
          try simp only [beside,List.filterMap_nil]
          refine wpY_es (fun K9 hK9=>?_)
          go_simp
          obtain ⟨V8,hV⟩ : ∃V,V=(V7.alloc (.cells #[.int .i64 1,.string ⟨#[83]⟩,.int .i64 1,.int .i64 3,.string ⟨#[120]⟩,.int .i64 0,.int .i64 1,.string ⟨#[65]⟩,.int .i64 1,.bool false,.bool true,.int .i64 1,.int .i64 1,.int .i64 0,.int .i64 1,.string ⟨#[65]⟩,.int .i64 1,.int .i64 3,.string ⟨#[121]⟩,.int .i64 0,.int .i64 2,.string ⟨#[]⟩,.int .i64 3,.bool false,.bool false,.int .i64 2,.int .i64 1,.int .i64 0] 57)):=⟨_,rfl⟩
          obtain ⟨gr,hg⟩ : ∃g,g=V7.heap.size:=⟨_,rfl⟩
          have hb:Below V7.heap.size V7 V8:=by rw [hV];exact (Below.refl _ _).alloc (Nat.le_refl _) _
          have hb8:Below W3.heap.size W3 V8:=(hb7).trans (hb.mono (hb7).size)
          have Kr:=Lib.hid (show Blk V8 gr 57 #[.int .i64 1,.string ⟨#[83]⟩,.int .i64 1,.int .i64 3,.string ⟨#[120]⟩,.int .i64 0,.int .i64 1,.string ⟨#[65]⟩,.int .i64 1,.bool false,.bool true,.int .i64 1,.int .i64 1,.int .i64 0,.int .i64 1,.string ⟨#[65]⟩,.int .i64 1,.int .i64 3,.string ⟨#[121]⟩,.int .i64 0,.int .i64 2,.string ⟨#[]⟩,.int .i64 3,.bool false,.bool false,.int .i64 2,.int .i64 1,.int .i64 0] by rw [hV,hg];exact Blk.new _ _ _)
          have Gr:=Lib.hid (show W3.heap.size≤gr by rw [hg];exact (hb7).size)
          have Kt:=Lib.hid (Kt.out.new_ hb)
          rw [← hV,← hg]
          clear hV hg hb
          refine hK9 _ _ (hb8) ?_
          clear hK9 K9
          try go_frame
          repeat ((first | (refine wpY_w ?_ (Or.inl ⟨by rfl,fun w9=>?_⟩) ?_;rotate_left 1;go_simp;with_reducible rfl) | (refine wpY_l ?_ ((Below.refl _ _).drew) (Or.inl ⟨by rfl,fun w9 hw9=>?_⟩) ?_;rotate_left 1;obtain ⟨hc9,hf9⟩:=bcell hw9;go_simp;with_reducible rfl) | refine wpY_w undef (Or.inr ⟨by rfl,rfl⟩) ?_ | refine wpY_l undef ((Below.refl _ _).drew) (Or.inr ⟨by rfl,rfl⟩) ?_);go_frame)
          refine wpY_es (fun K9 hK9=>?_)
          have hTH:=Kt.out.there
          refine step_store_el rfl 38 _ _ rfl gt 0 #[Value.slice (some ⟨gr,0,none⟩) 2 2,Value.slice none 0 0,Value.slice none 0 0,Value.slice none 0 0,Value.int IntKind.i64 0,Value.int IntKind.i64 0] rfl rfl (show _ from hTH) (by kernel_rfl) (by kernel_rfl) ?_
          refine hK9 _ _ (Below.setCells' _ _ (hb8) Gt.out) ?_
          clear hK9 K9
          try go_frame
          refine wpY_nil ?_
          simp only [OnlyN_normal]
          refine hKK _ _ ?_
          clear hKK KK
          go_wp2_with fail
          go_meet
          case rel=>exact ⟨gt,gr,rfl,Kt.out.setAllD rfl,Blk.farCells _ _ Kr.out (Kr.out.ne_ Kt.out (by decide)),Below.setCells' _ _ (hb8) Gt.out⟩
      · refine wpOp_cs rfl (fun K9 hK9=>?_)
        go_simp
        obtain ⟨V6,hV⟩ : ∃V,V=(V5.alloc (.cells #[.slice none 0 0,.slice none 0 0,.slice none 0 0,.slice none 0 0,.int .i64 0,.int .i64 0] 38)):=⟨_,rfl⟩
        obtain ⟨gt,hg⟩ : ∃g,g=V5.heap.size:=⟨_,rfl⟩
        have hb:Below V5.heap.size V5 V6:=by rw [hV];exact (Below.refl _ _).alloc (Nat.le_refl _) _
        have hb6:Below W3.heap.size W3 V6:=(hb5).trans (hb.mono (hb5).size)
        have Kt:=Lib.hid (show Blk V6 gt 38 #[.slice none 0 0,.slice none 0 0,.slice none 0 0,.slice none 0 0,.int .i64 0,.int .i64 0] by rw [hV,hg];exact Blk.new _ _ _)
        have Gt:=Lib.hid (show W3.heap.size≤gt by rw [hg];exact (hb5).size)
        rw [← hV,← hg]
        clear hV hg hb
        refine hK9 _ _ (fun _=>hb6) ?_
        clear hK9 K9
        try go_frame
        try simp only [beside,List.filterMap_nil]
        refine wpY_es (fun K9 hK9=>?_)
        go_simp
        refine (wN9_is 3 _).mono ?_
        rintro e V7 ⟨rfl,hb⟩
        have hb7:Below W3.heap.size W3 V7:=(hb6).trans (hb.mono (hb6).size)
        have Kt:=Lib.hid (Kt.out.new_ hb)
        clear hb
        refine hK9 _ _ (hb7) ?_
        clear hK9 K9
        try go_frame
        repeat ((first | (refine wpY_w ?_ (Or.inl ⟨by rfl,fun w9=>?_⟩) ?_;rotate_left 1;go_simp;with_reducible rfl) | (refine wpY_l ?_ ((Below.refl _ _).drew) (Or.inl ⟨by rfl,fun w9 hw9=>?_⟩) ?_;rotate_left 1;obtain ⟨hc9,hf9⟩:=bcell hw9;go_simp;with_reducible rfl) | refine wpY_w undef (Or.inr ⟨by rfl,rfl⟩) ?_ | refine wpY_l undef ((Below.refl _ _).drew) (Or.inr ⟨by rfl,rfl⟩) ?_);go_frame)
        refine wpY_es (fun K9 hK9=>?_)
        go_simp
        obtain ⟨V8,hV⟩ : ∃V,V=(V7.alloc (.cells #[.int .i64 1,.string ⟨#[83]⟩,.int .i64 1,.int .i64 3,.string ⟨#[120]⟩,.int .i64 0,.int .i64 1,.string ⟨#[65]⟩,.int .i64 1,.bool false,.bool true,.int .i64 1,.int .i64 1,.int .i64 0,.int .i64 1,.string ⟨#[65]⟩,.int .i64 1,.int .i64 3,.string ⟨#[121]⟩,.int .i64 0,.int .i64 2,.string ⟨#[]⟩,.int .i64 3,.bool false,.bool false,.int .i64 2,.int .i64 1,.int .i64 0] 57)):=⟨_,rfl⟩
        obtain ⟨gr,hg⟩ : ∃g,g=V7.heap.size:=⟨_,rfl⟩
        have hb:Below V7.heap.size V7 V8:=by rw [hV];exact (Below.refl _ _).alloc (Nat.le_refl _) _
        have hb8:Below W3.heap.size W3 V8:=(hb7).trans (hb.mono (hb7).size)
        have Kr:=Lib.hid (show Blk V8 gr 57 #[.int .i64 1,.string ⟨#[83]⟩,.int .i64 1,.int .i64 3,.string ⟨#[120]⟩,.int .i64 0,.int .i64 1,.string ⟨#[65]⟩,.int .i64 1,.bool false,.bool true,.int .i64 1,.int .i64 1,.int .i64 0,.int .i64 1,.string ⟨#[65]⟩,.int .i64 1,.int .i64 3,.string ⟨#[121]⟩,.int .i64 0,.int .i64 2,.string ⟨#[]⟩,.int .i64 3,.bool false,.bool false,.int .i64 2,.int .i64 1,.int .i64 0] by rw [hV,hg];exact Blk.new _ _ _)
        have Gr:=Lib.hid (show W3.heap.size≤gr by rw [hg];exact (hb7).size)
        have Kt:=Lib.hid (Kt.out.new_ hb)
        rw [← hV,← hg]
        clear hV hg hb
        refine hK9 _ _ (hb8) ?_
        clear hK9 K9
        try go_frame
        repeat ((first | (refine wpY_w ?_ (Or.inl ⟨by rfl,fun w9=>?_⟩) ?_;rotate_left 1;go_simp;with_reducible rfl) | (refine wpY_l ?_ ((Below.refl _ _).drew) (Or.inl ⟨by rfl,fun w9 hw9=>?_⟩) ?_;rotate_left 1;obtain ⟨hc9,hf9⟩:=bcell hw9;go_simp;with_reducible rfl) | refine wpY_w undef (Or.inr ⟨by rfl,rfl⟩) ?_ | refine wpY_l undef ((Below.refl _ _).drew) (Or.inr ⟨by rfl,rfl⟩) ?_);go_frame)
        refine wpY_es (fun K9 hK9=>?_)
        have hTH:=Kt.out.there
        refine step_store_el rfl 38 _ _ rfl gt 0 #[Value.slice (some ⟨gr,0,none⟩) 2 2,Value.slice none 0 0,Value.slice none 0 0,Value.slice none 0 0,Value.int IntKind.i64 0,Value.int IntKind.i64 0] rfl rfl (show _ from hTH) (by kernel_rfl) (by kernel_rfl) ?_
        refine hK9 _ _ (Below.setCells' _ _ (hb8) Gt.out) ?_
        clear hK9 K9
        try go_frame
        refine wpY_nil ?_
        simp only [OnlyN_normal]
        refine hKK _ _ ?_
        clear hKK KK
        go_wp2_with fail
        go_meet
        case rel=>exact ⟨gt,gr,rfl,Kt.out.setAllD rfl,Blk.farCells _ _ Kr.out (Kr.out.ne_ Kt.out (by decide)),Below.setCells' _ _ (hb8) Gt.out⟩
    · refine wpOp_cs rfl (fun K9 hK9=>?_)
      go_simp
      obtain ⟨V5,hV⟩ : ∃V,V=(V4.alloc (.cells #[.slice none 0 0,.slice none 0 0,.slice none 0 0,.slice none 0 0,.int .i64 0,.int .i64 0] 38)):=⟨_,rfl⟩
      obtain ⟨gt,hg⟩ : ∃g,g=V4.heap.size:=⟨_,rfl⟩
      have hb:Below V4.heap.size V4 V5:=by rw [hV];exact (Below.refl _ _).alloc (Nat.le_refl _) _
      have hb5:Below W3.heap.size W3 V5:=(hb4).trans (hb.mono (hb4).size)
      have Kt:=Lib.hid (show Blk V5 gt 38 #[.slice none 0 0,.slice none 0 0,.slice none 0 0,.slice none 0 0,.int .i64 0,.int .i64 0] by rw [hV,hg];exact Blk.new _ _ _)
      have Gt:=Lib.hid (show W3.heap.size≤gt by rw [hg];exact (hb4).size)
      rw [← hV,← hg]
      clear hV hg hb
      refine hK9 _ _ (fun _=>hb5) ?_
      clear hK9 K9
      try go_frame
      try simp only [beside,List.filterMap_nil]
      refine wpY_es (fun K9 hK9=>?_)
      go_simp
      refine (wW9_is ⟨#[121]⟩ _).mono ?_
      rintro e V6 ⟨rfl,hb⟩
      have hb6:Below W3.heap.size W3 V6:=(hb5).trans (hb.mono (hb5).size)
      have Kt:=Lib.hid (Kt.out.new_ hb)
      clear hb
      refine hK9 _ _ (hb6) ?_
      clear hK9 K9
      try go_frame
      refine wpY_es (fun K9 hK9=>?_)
      go_simp
      refine (wN9_is 3 _).mono ?_
      rintro e V7 ⟨rfl,hb⟩
      have hb7:Below W3.heap.size W3 V7:=(hb6).trans (hb.mono (hb6).size)
      have Kt:=Lib.hid (Kt.out.new_ hb)
      clear hb
      refine hK9 _ _ (hb7) ?_
      clear hK9 K9
      try go_frame
      repeat ((first | (refine wpY_w ?_ (Or.inl ⟨by rfl,fun w9=>?_⟩) ?_;rotate_left 1;go_simp;with_reducible rfl) | (refine wpY_l ?_ ((Below.refl _ _).drew) (Or.inl ⟨by rfl,fun w9 hw9=>?_⟩) ?_;rotate_left 1;obtain ⟨hc9,hf9⟩:=bcell hw9;go_simp;with_reducible rfl) | refine wpY_w undef (Or.inr ⟨by rfl,rfl⟩) ?_ | refine wpY_l undef ((Below.refl _ _).drew) (Or.inr ⟨by rfl,rfl⟩) ?_);go_frame)
      refine wpY_es (fun K9 hK9=>?_)
      go_simp
      obtain ⟨V8,hV⟩ : ∃V,V=(V7.alloc (.cells #[.int .i64 1,.string ⟨#[83]⟩,.int .i64 1,.int .i64 3,.string ⟨#[120]⟩,.int .i64 0,.int .i64 1,.string ⟨#[65]⟩,.int .i64 1,.bool false,.bool true,.int .i64 1,.int .i64 1,.int .i64 0,.int .i64 1,.string ⟨#[65]⟩,.int .i64 1,.int .i64 3,.string ⟨#[121]⟩,.int .i64 0,.int .i64 2,.string ⟨#[]⟩,.int .i64 3,.bool false,.bool false,.int .i64 2,.int .i64 1,.int .i64 0] 57)):=⟨_,rfl⟩
      obtain ⟨gr,hg⟩ : ∃g,g=V7.heap.size:=⟨_,rfl⟩
      have hb:Below V7.heap.size V7 V8:=by rw [hV];exact (Below.refl _ _).alloc (Nat.le_refl _) _
      have hb8:Below W3.heap.size W3 V8:=(hb7).trans (hb.mono (hb7).size)
      have Kr:=Lib.hid (show Blk V8 gr 57 #[.int .i64 1,.string ⟨#[83]⟩,.int .i64 1,.int .i64 3,.string ⟨#[120]⟩,.int .i64 0,.int .i64 1,.string ⟨#[65]⟩,.int .i64 1,.bool false,.bool true,.int .i64 1,.int .i64 1,.int .i64 0,.int .i64 1,.string ⟨#[65]⟩,.int .i64 1,.int .i64 3,.string ⟨#[121]⟩,.int .i64 0,.int .i64 2,.string ⟨#[]⟩,.int .i64 3,.bool false,.bool false,.int .i64 2,.int .i64 1,.int .i64 0] by rw [hV,hg];exact Blk.new _ _ _)
      have Gr:=Lib.hid (show W3.heap.size≤gr by rw [hg];exact (hb7).size)
      have Kt:=Lib.hid (Kt.out.new_ hb)
      rw [← hV,← hg]
      clear hV hg hb
      refine hK9 _ _ (hb8) ?_
      clear hK9 K9
      try go_frame
      repeat ((first | (refine wpY_w ?_ (Or.inl ⟨by rfl,fun w9=>?_⟩) ?_;rotate_left 1;go_simp;with_reducible rfl) | (refine wpY_l ?_ ((Below.refl _ _).drew) (Or.inl ⟨by rfl,fun w9 hw9=>?_⟩) ?_;rotate_left 1;obtain ⟨hc9,hf9⟩:=bcell hw9;go_simp;with_reducible rfl) | refine wpY_w undef (Or.inr ⟨by rfl,rfl⟩) ?_ | refine wpY_l undef ((Below.refl _ _).drew) (Or.inr ⟨by rfl,rfl⟩) ?_);go_frame)
      refine wpY_es (fun K9 hK9=>?_)
      have hTH:=Kt.out.there
      refine step_store_el rfl 38 _ _ rfl gt 0 #[Value.slice (some ⟨gr,0,none⟩) 2 2,Value.slice none 0 0,Value.slice none 0 0,Value.slice none 0 0,Value.int IntKind.i64 0,Value.int IntKind.i64 0] rfl rfl (show _ from hTH) (by kernel_rfl) (by kernel_rfl) ?_
      refine hK9 _ _ (Below.setCells' _ _ (hb8) Gt.out) ?_
      clear hK9 K9
      try go_frame
      refine wpY_nil ?_
      simp only [OnlyN_normal]
      refine hKK _ _ ?_
      clear hKK KK
      go_wp2_with fail
      go_meet
      case rel=>exact ⟨gt,gr,rfl,Kt.out.setAllD rfl,Blk.farCells _ _ Kr.out (Kr.out.ne_ Kt.out (by decide)),Below.setCells' _ _ (hb8) Gt.out⟩
  · refine wpOp_cs rfl (fun K9 hK9=>?_)
    go_simp
    obtain ⟨V4,hV⟩ : ∃V,V=(W3.alloc (.cells #[.slice none 0 0,.slice none 0 0,.slice none 0 0,.slice none 0 0,.int .i64 0,.int .i64 0] 38)).drew:=⟨_,rfl⟩
    obtain ⟨gt,hg⟩ : ∃g,g=W3.heap.size:=⟨_,rfl⟩
    have hb:Below W3.heap.size W3 V4:=by rw [hV];exact ((Below.refl _ _).alloc (Nat.le_refl _) _).drew
    have hb4:Below W3.heap.size W3 V4:=hb
    have Kt:=Lib.hid (show Blk V4 gt 38 #[.slice none 0 0,.slice none 0 0,.slice none 0 0,.slice none 0 0,.int .i64 0,.int .i64 0] by rw [hV,hg];exact Blk.new _ _ _)
    have Gt:=Lib.hid (show W3.heap.size≤gt by rw [hg];exact Nat.le_refl _)
    rw [← hV,← hg]
    clear hV hg hb
    refine hK9 _ _ (fun _=>hb4) ?_
    clear hK9 K9
    try go_frame
    try simp only [beside,List.filterMap_nil]
    refine wpY_es (fun K9 hK9=>?_)
    go_simp
    refine (wW9_is ⟨#[120]⟩ _).mono ?_
    rintro e V5 ⟨rfl,hb⟩
    have hb5:Below W3.heap.size W3 V5:=(hb4).trans (hb.mono (hb4).size)
    have Kt:=Lib.hid (Kt.out.new_ hb)
    clear hb
    refine hK9 _ _ (hb5) ?_
    clear hK9 K9
    try go_frame
    repeat ((first | (refine wpY_w ?_ (Or.inl ⟨by rfl,fun w9=>?_⟩) ?_;rotate_left 1;go_simp;with_reducible rfl) | (refine wpY_l ?_ ((Below.refl _ _).drew) (Or.inl ⟨by rfl,fun w9 hw9=>?_⟩) ?_;rotate_left 1;obtain ⟨hc9,hf9⟩:=bcell hw9;go_simp;with_reducible rfl) | refine wpY_w undef (Or.inr ⟨by rfl,rfl⟩) ?_ | refine wpY_l undef ((Below.refl _ _).drew) (Or.inr ⟨by rfl,rfl⟩) ?_);go_frame)
    refine wpY_es (fun K9 hK9=>?_)
    go_simp
    refine (wW9_is ⟨#[121]⟩ _).mono ?_
    rintro e V6 ⟨rfl,hb⟩
    have hb6:Below W3.heap.size W3 V6:=(hb5).trans (hb.mono (hb5).size)
    have Kt:=Lib.hid (Kt.out.new_ hb)
    clear hb
    refine hK9 _ _ (hb6) ?_
    clear hK9 K9
    try go_frame
    refine wpY_es (fun K9 hK9=>?_)
    go_simp
    refine (wN9_is 3 _).mono ?_
    rintro e V7 ⟨rfl,hb⟩
    have hb7:Below W3.heap.size W3 V7:=(hb6).trans (hb.mono (hb6).size)
    have Kt:=Lib.hid (Kt.out.new_ hb)
    clear hb
    refine hK9 _ _ (hb7) ?_
    clear hK9 K9
    try go_frame
    repeat ((first | (refine wpY_w ?_ (Or.inl ⟨by rfl,fun w9=>?_⟩) ?_;rotate_left 1;go_simp;with_reducible rfl) | (refine wpY_l ?_ ((Below.refl _ _).drew) (Or.inl ⟨by rfl,fun w9 hw9=>?_⟩) ?_;rotate_left 1;obtain ⟨hc9,hf9⟩:=bcell hw9;go_simp;with_reducible rfl) | refine wpY_w undef (Or.inr ⟨by rfl,rfl⟩) ?_ | refine wpY_l undef ((Below.refl _ _).drew) (Or.inr ⟨by rfl,rfl⟩) ?_);go_frame)
    refine wpY_es (fun K9 hK9=>?_)
    go_simp
    obtain ⟨V8,hV⟩ : ∃V,V=(V7.alloc (.cells #[.int .i64 1,.string ⟨#[83]⟩,.int .i64 1,.int .i64 3,.string ⟨#[120]⟩,.int .i64 0,.int .i64 1,.string ⟨#[65]⟩,.int .i64 1,.bool false,.bool true,.int .i64 1,.int .i64 1,.int .i64 0,.int .i64 1,.string ⟨#[65]⟩,.int .i64 1,.int .i64 3,.string ⟨#[121]⟩,.int .i64 0,.int .i64 2,.string ⟨#[]⟩,.int .i64 3,.bool false,.bool false,.int .i64 2,.int .i64 1,.int .i64 0] 57)):=⟨_,rfl⟩
    obtain ⟨gr,hg⟩ : ∃g,g=V7.heap.size:=⟨_,rfl⟩
    have hb:Below V7.heap.size V7 V8:=by rw [hV];exact (Below.refl _ _).alloc (Nat.le_refl _) _
    have hb8:Below W3.heap.size W3 V8:=(hb7).trans (hb.mono (hb7).size)
    have Kr:=Lib.hid (show Blk V8 gr 57 #[.int .i64 1,.string ⟨#[83]⟩,.int .i64 1,.int .i64 3,.string ⟨#[120]⟩,.int .i64 0,.int .i64 1,.string ⟨#[65]⟩,.int .i64 1,.bool false,.bool true,.int .i64 1,.int .i64 1,.int .i64 0,.int .i64 1,.string ⟨#[65]⟩,.int .i64 1,.int .i64 3,.string ⟨#[121]⟩,.int .i64 0,.int .i64 2,.string ⟨#[]⟩,.int .i64 3,.bool false,.bool false,.int .i64 2,.int .i64 1,.int .i64 0] by rw [hV,hg];exact Blk.new _ _ _)
    have Gr:=Lib.hid (show W3.heap.size≤gr by rw [hg];exact (hb7).size)
    have Kt:=Lib.hid (Kt.out.new_ hb)
    rw [← hV,← hg]
    clear hV hg hb
    refine hK9 _ _ (hb8) ?_
    clear hK9 K9
    try go_frame
    repeat ((first | (refine wpY_w ?_ (Or.inl ⟨by rfl,fun w9=>?_⟩) ?_;rotate_left 1;go_simp;with_reducible rfl) | (refine wpY_l ?_ ((Below.refl _ _).drew) (Or.inl ⟨by rfl,fun w9 hw9=>?_⟩) ?_;rotate_left 1;obtain ⟨hc9,hf9⟩:=bcell hw9;go_simp;with_reducible rfl) | refine wpY_w undef (Or.inr ⟨by rfl,rfl⟩) ?_ | refine wpY_l undef ((Below.refl _ _).drew) (Or.inr ⟨by rfl,rfl⟩) ?_);go_frame)
    refine wpY_es (fun K9 hK9=>?_)
    have hTH:=Kt.out.there
    refine step_store_el rfl 38 _ _ rfl gt 0 #[Value.slice (some ⟨gr,0,none⟩) 2 2,Value.slice none 0 0,Value.slice none 0 0,Value.slice none 0 0,Value.int IntKind.i64 0,Value.int IntKind.i64 0] rfl rfl (show _ from hTH) (by kernel_rfl) (by kernel_rfl) ?_
    refine hK9 _ _ (Below.setCells' _ _ (hb8) Gt.out) ?_
    clear hK9 K9
    try go_frame
    refine wpY_nil ?_
    simp only [OnlyN_normal]
    refine hKK _ _ ?_
    clear hKK KK
    go_wp2_with fail
    go_meet
    case rel=>exact ⟨gt,gr,rfl,Kt.out.setAllD rfl,Blk.farCells _ _ Kr.out (Kr.out.ne_ Kt.out (by decide)),Below.setCells' _ _ (hb8) Gt.out⟩
 case rest=>
  obtain ⟨bt,g,rfl,Kt,Kr,hbc⟩:=hcut
  have HR:=Lib.hid (rowRd_blk (cells:=TraceT.cells) (l:=[⟨e22a,1,0⟩,⟨e22b,1,0⟩]) (n:=2) Kr rfl TraceT.cells_length (by unfold maxLen;decide) rfl)
  have Ks:=Lib.hid (Ks.out.new_ hbc)
  have Ka:=Lib.hid (Ka.out.new_ hbc)
  have HB:=Lib.hid (HB.out.trans (hbc.mono HB.out.size))
  have KT:=Lib.hid Kt
  clear Kt Kr hbc s0 s1 s2 a0 a1 a2 sz az
  obtain ⟨s0,s1,s2⟩:=Ks.out.c3
  obtain ⟨a0,a1,a2⟩:=Ka.out.c3
  obtain ⟨t0,t1,t2,t3,t4,t5⟩:=KT.out.c6
  have sz:=Ks.out.lt
  have az:=Ka.out.lt
  have tz:=KT.out.lt
  obtain ⟨W3,hW3⟩ : ∃W,W=wc:=⟨_,rfl⟩
  rw [← hW3] at HR HB s0 s1 s2 a0 a1 a2 sz az tz t0 t1 t2 t3 t4 t5 ⊢
  clear Ks Ka KT HGB HB1 HB2 hW3
  go_upto_region 3 with fail
  go_cut [4,5,6] from 22 (fun p t k wc=>∃bp A1 c1 A2 c2 A3 c3,p = .pointer (some ⟨bp,0,none⟩)∧t = .slice A3 2 c3∧k = .bool true∧Blk wc bp 45 #[.string ⟨#[99]⟩,.slice A1 2 c1,.slice A2 1 c2]∧RowR (repCondT 1) (fun k=>k≠bp) wc A1 c1 [c22a,c22b]∧RowR repActT (fun k=>k≠bp) wc A2 c2 [a22]∧Below W3.heap.size W3 wc)
  case first=>
   refine wp_region_Pl (fun w9=>Below W3.heap.size W3 w9) [0,1,3,4,7,8,9,10,13,14] [0,1,3] (.fork [(0,1),(1,1),(3,1)] 2 (.fork [(4,0)] 5 (.fork [] 6 (.fin [(7,0),(8,0),(9,0),(10,0),(11,2),(12,2),(13,0),(14,0)]) 11 (.fin [(6,2),(7,0),(8,0),(9,0),(10,0),(12,2),(13,0),(14,0)])) 11 (.fin [(5,2),(6,2),(7,0),(8,0),(9,0),(10,0),(12,2),(13,0),(14,0)])) 11 (.fin [(2,2),(4,0),(5,2),(6,2),(7,0),(8,0),(9,0),(10,0),(12,2),(13,0),(14,0)])) (by kernel_rfl) (by kernel_rfl) (by kernel_rfl) (fun KK hKK=>?_)
   simp only [wpPl,beside,List.filterMap_cons,List.filterMap_nil,List.getElem?_toArray,List.getElem?_cons_zero,List.getElem?_cons_succ,Option.map_some]
   repeat ((first | (refine wpY_w ?_ (Or.inl ⟨by rfl,fun w9=>?_⟩) ?_;rotate_left 1;go_simp;with_reducible rfl) | (refine wpY_l ?_ ((Below.refl _ _).drew) (Or.inl ⟨by rfl,fun w9 hw9=>?_⟩) ?_;rotate_left 1;obtain ⟨hc9,hf9⟩:=bcell hw9;go_simp;with_reducible rfl) | refine wpY_w undef (Or.inr ⟨by rfl,rfl⟩) ?_ | refine wpY_l undef ((Below.refl _ _).drew) (Or.inr ⟨by rfl,rfl⟩) ?_);go_frame)
   refine wpY_nil ⟨?_,?_⟩
   · refine wpOp_cs rfl (fun K9 hK9=>?_)
     go_simp
     refine (wW9_is ⟨#[122]⟩ _).mono ?_
     rintro e V4 ⟨rfl,hb⟩
     have hb4:Below W3.heap.size W3 V4:=((Below.refl W3.heap.size W3).drew).trans (hb.mono ((Below.refl W3.heap.size W3).drew).size)
     clear hb
     refine hK9 _ _ (fun _=>hb4) ?_
     clear hK9 K9
     try go_frame
     try simp only [beside,List.filterMap_nil]
     repeat ((first | (refine wpY_w ?_ (Or.inl ⟨by rfl,fun w9=>?_⟩) ?_;rotate_left 1;go_simp;with_reducible rfl) | (refine wpY_l ?_ ((Below.refl _ _).drew) (Or.inl ⟨by rfl,fun w9 hw9=>?_⟩) ?_;rotate_left 1;obtain ⟨hc9,hf9⟩:=bcell hw9;go_simp;with_reducible rfl) | refine wpY_w undef (Or.inr ⟨by rfl,rfl⟩) ?_ | refine wpY_l undef ((Below.refl _ _).drew) (Or.inr ⟨by rfl,rfl⟩) ?_);go_frame)
     refine wpY_nil ⟨?_,?_⟩
     · refine wpOp_cs rfl (fun K9 hK9=>?_)
       go_simp
       obtain ⟨V5,hV⟩ : ∃V,V=(V4.alloc (.cells #[.int .i64 1,.string ⟨#[65]⟩,.int .i64 1,.int .i64 3,.string ⟨#[122]⟩,.int .i64 0,.int .i64 1,.string ⟨#[83]⟩,.int .i64 1,.int .i64 0,.string ⟨#[]⟩,.int .i64 0,.int .i64 1,.bool false,.int .i64 2,.int .i64 1] 68)):=⟨_,rfl⟩
       obtain ⟨gp,hg⟩ : ∃g,g=V4.heap.size:=⟨_,rfl⟩
       have hb:Below V4.heap.size V4 V5:=by rw [hV];exact (Below.refl _ _).alloc (Nat.le_refl _) _
       have hb5:Below W3.heap.size W3 V5:=(hb4).trans (hb.mono (hb4).size)
       have Kp:=Lib.hid (show Blk V5 gp 68 #[.int .i64 1,.string ⟨#[65]⟩,.int .i64 1,.int .i64 3,.string ⟨#[122]⟩,.int .i64 0,.int .i64 1,.string ⟨#[83]⟩,.int .i64 1,.int .i64 0,.string ⟨#[]⟩,.int .i64 0,.int .i64 1,.bool false,.int .i64 2,.int .i64 1] by rw [hV,hg];exact Blk.new _ _ _)
       have Gp:=Lib.hid (show W3.heap.size≤gp by rw [hg];exact (hb4).size)
       rw [← hV,← hg]
       clear hV hg hb
       refine hK9 _ _ (fun _=>hb5) ?_
       clear hK9 K9
       try go_frame
       try simp only [beside,List.filterMap_nil]
       refine wpY_nil ⟨?_,?_⟩
       · refine wpOp_cs rfl (fun K9 hK9=>?_)
         go_simp
         have HC:=Lib.hid (prod_is 0 ⟨#[99]⟩ [⟨e22a,1,0⟩,⟨e22b,1,0⟩] (some ⟨g,0,none⟩) 2 none 0 none 0 [] none 0 0 0 [p22] (some ⟨gp,0,none⟩) 1 V5 (no22_is _) (HR.out.new_ (hb5)) (RowRd.nil _ _ _) (rowRd_blk (cells:=PrefT.cells) (l:=[p22]) (n:=1) Kp.out rfl PrefT.cells_length (by unfold maxLen;decide) rfl) (by decide) (by decide) (by decide))
         unfold ProdTo at HC
         rw [show ([⟨e22a,1,0⟩,⟨e22b,1,0⟩]:List TraceT).map TraceT.elem = [e22a,e22b] from rfl,wk22_prod] at HC
         refine HC.out.mono ?_
         rintro e V6 ⟨hb,A1,c1,A2,c2,A3,c3,rfl,hr1,hr2,hr3,hr4⟩
         have HR1:=Lib.hid (show RowR (repCondT 1) (fun k=>V5.heap.size≤k∧k<V6.heap.size) V6 A1 c1 [c22a,c22b] from hr1)
         have HR2:=Lib.hid (show RowR repActT (fun k=>V5.heap.size≤k∧k<V6.heap.size) V6 A2 c2 [a22] from hr2)
         have hb6:Below W3.heap.size W3 V6:=(hb5).trans (hb.mono (hb5).size)
         have Kp:=Lib.hid (Kp.out.new_ hb)
         clear HC hb hr1 hr2 hr3 hr4
         refine hK9 _ _ (fun _=>hb6) ?_
         clear hK9 K9
         try go_frame
         try simp only [beside,List.filterMap_nil]
         repeat ((first | (refine wpY_w ?_ (Or.inl ⟨by rfl,fun w9=>?_⟩) ?_;rotate_left 1;go_simp;with_reducible rfl) | (refine wpY_l ?_ ((Below.refl _ _).drew) (Or.inl ⟨by rfl,fun w9 hw9=>?_⟩) ?_;rotate_left 1;obtain ⟨hc9,hf9⟩:=bcell hw9;go_simp;with_reducible rfl) | refine wpY_w undef (Or.inr ⟨by rfl,rfl⟩) ?_ | refine wpY_l undef ((Below.refl _ _).drew) (Or.inr ⟨by rfl,rfl⟩) ?_);go_frame)
         refine wpY_es (fun K9 hK9=>?_)
         go_simp
         obtain ⟨V7,hV⟩ : ∃V,V=(V6.alloc (.cells #[.string ⟨#[]⟩,.slice none 0 0,.slice none 0 0] 45)):=⟨_,rfl⟩
         obtain ⟨gt,hg⟩ : ∃g,g=V6.heap.size:=⟨_,rfl⟩
         have hb:Below V6.heap.size V6 V7:=by rw [hV];exact (Below.refl _ _).alloc (Nat.le_refl _) _
         have hb7:Below W3.heap.size W3 V7:=(hb6).trans (hb.mono (hb6).size)
         have Kt:=Lib.hid (show Blk V7 gt 45 #[.string ⟨#[]⟩,.slice none 0 0,.slice none 0 0] by rw [hV,hg];exact Blk.new _ _ _)
         have Gt:=Lib.hid (show W3.heap.size≤gt by rw [hg];exact (hb6).size)
         have Kp:=Lib.hid (Kp.out.new_ hb)
         have Lt:=Lib.hid (show gt<V7.heap.size from Kt.out.lt)
         have HQ1:=Lib.hid ((HR1.out.new_ hb).weaken (D':=fun k=>k≠gt) (fun k hk=>by have:=hk.2;omega))
         have HQ2:=Lib.hid ((HR2.out.new_ hb).weaken (D':=fun k=>k≠gt) (fun k hk=>by have:=hk.2;omega))
         rw [← hV,← hg]
         clear hV hg hb
         refine hK9 _ _ (hb7) ?_
         clear hK9 K9
         try go_frame
         refine wpY_es (fun K9 hK9=>?_)
         have hTH:=Kt.out.there
         refine step_store_el rfl 45 _ _ rfl gt 0 #[Value.string ⟨#[99]⟩,Value.slice A1 2 c1,Value.slice A2 1 c2] rfl rfl (show _ from hTH) (by kernel_rfl) (by kernel_rfl) ?_
         refine hK9 _ _ (Below.setCells' _ _ (hb7) Gt.out) ?_
         clear hK9 K9
         try go_frame
         repeat ((first | (refine wpY_w ?_ (Or.inl ⟨by rfl,fun w9=>?_⟩) ?_;rotate_left 1;go_simp;with_reducible rfl) | (refine wpY_l ?_ ((Below.refl _ _).drew) (Or.inl ⟨by rfl,fun w9 hw9=>?_⟩) ?_;rotate_left 1;obtain ⟨hc9,hf9⟩:=bcell hw9;go_simp;with_reducible rfl) | refine wpY_w undef (Or.inr ⟨by rfl,rfl⟩) ?_ | refine wpY_l undef ((Below.refl _ _).drew) (Or.inr ⟨by rfl,rfl⟩) ?_);go_frame)
         refine wpY_nil ?_
         simp only [OnlyN_normal]
         refine hKK _ _ ?_
         clear hKK KK
         go_wp2_with fail
         go_meet
         case rel=>exact ⟨gt,A1,c1,A2,c2,A3,c3,rfl,rfl,rfl,Kt.out.setAllD rfl,HQ1.out.fr (M:=fun k=>k=gt) (Fr.setCells _ _ (Fr.refl _ _) (.inl rfl)) (fun _ h=>h),HQ2.out.fr (M:=fun k=>k=gt) (Fr.setCells _ _ (Fr.refl _ _) (.inl rfl)) (fun _ h=>h),Below.setCells' _ _ (hb7) Gt.out⟩
       · refine wpOp_cs rfl (fun K9 hK9=>?_)
         go_simp
         obtain ⟨V6,hV⟩ : ∃V,V=(V5.alloc (.cells #[.string ⟨#[]⟩,.slice none 0 0,.slice none 0 0] 45)):=⟨_,rfl⟩
         obtain ⟨gt,hg⟩ : ∃g,g=V5.heap.size:=⟨_,rfl⟩
         have hb:Below V5.heap.size V5 V6:=by rw [hV];exact (Below.refl _ _).alloc (Nat.le_refl _) _
         have hb6:Below W3.heap.size W3 V6:=(hb5).trans (hb.mono (hb5).size)
         have Kt:=Lib.hid (show Blk V6 gt 45 #[.string ⟨#[]⟩,.slice none 0 0,.slice none 0 0] by rw [hV,hg];exact Blk.new _ _ _)
         have Gt:=Lib.hid (show W3.heap.size≤gt by rw [hg];exact (hb5).size)
         have Kp:=Lib.hid (Kp.out.new_ hb)
         have Lt:=Lib.hid (show gt<V6.heap.size from Kt.out.lt)
         rw [← hV,← hg]
         clear hV hg hb
         refine hK9 _ _ (fun _=>hb6) ?_
         clear hK9 K9
         try go_frame
         try simp only [beside,List.filterMap_nil]
         refine wpY_es (fun K9 hK9=>?_)
         go_simp
         have HC:=Lib.hid (prod_is 0 ⟨#[99]⟩ [⟨e22a,1,0⟩,⟨e22b,1,0⟩] (some ⟨g,0,none⟩) 2 none 0 none 0 [] none 0 0 0 [p22] (some ⟨gp,0,none⟩) 1 V6 (no22_is _) (HR.out.new_ (hb6)) (RowRd.nil _ _ _) (rowRd_blk (cells:=PrefT.cells) (l:=[p22]) (n:=1) Kp.out rfl PrefT.cells_length (by unfold maxLen;decide) rfl) (by decide) (by decide) (by decide))
         unfold ProdTo at HC
         rw [show ([⟨e22a,1,0⟩,⟨e22b,1,0⟩]:List TraceT).map TraceT.elem = [e22a,e22b] from rfl,wk22_prod] at HC
         refine HC.out.mono ?_
         rintro e V7 ⟨hb,A1,c1,A2,c2,A3,c3,rfl,hr1,hr2,hr3,hr4⟩
         have HR1:=Lib.hid (show RowR (repCondT 1) (fun k=>V6.heap.size≤k∧k<V7.heap.size) V7 A1 c1 [c22a,c22b] from hr1)
         have HR2:=Lib.hid (show RowR repActT (fun k=>V6.heap.size≤k∧k<V7.heap.size) V7 A2 c2 [a22] from hr2)
         have hb7:Below W3.heap.size W3 V7:=(hb6).trans (hb.mono (hb6).size)
         have Kp:=Lib.hid (Kp.out.new_ hb)
         have Kt:=Lib.hid (Kt.out.new_ hb)
         have hg1:=Lt.out
         have HQ1:=Lib.hid (HR1.out.weaken (D':=fun k=>k≠gt) (fun k hk=>by have:=hk.1;omega))
         have HQ2:=Lib.hid (HR2.out.weaken (D':=fun k=>k≠gt) (fun k hk=>by have:=hk.1;omega))
         clear hg1
         clear HC hb hr1 hr2 hr3 hr4
         refine hK9 _ _ (hb7) ?_
         clear hK9 K9
         try go_frame
         repeat ((first | (refine wpY_w ?_ (Or.inl ⟨by rfl,fun w9=>?_⟩) ?_;rotate_left 1;go_simp;with_reducible rfl) | (refine wpY_l ?_ ((Below.refl _ _).drew) (Or.inl ⟨by rfl,fun w9 hw9=>?_⟩) ?_;rotate_left 1;obtain ⟨hc9,hf9⟩:=bcell hw9;go_simp;with_reducible rfl) | refine wpY_w undef (Or.inr ⟨by rfl,rfl⟩) ?_ | refine wpY_l undef ((Below.refl _ _).drew) (Or.inr ⟨by rfl,rfl⟩) ?_);go_frame)
         refine wpY_es (fun K9 hK9=>?_)
         have hTH:=Kt.out.there
         refine step_store_el rfl 45 _ _ rfl gt 0 #[Value.string ⟨#[99]⟩,Value.slice A1 2 c1,Value.slice A2 1 c2] rfl rfl (show _ from hTH) (by kernel_rfl) (by kernel_rfl) ?_
         refine hK9 _ _ (Below.setCells' _ _ (hb7) Gt.out) ?_
         clear hK9 K9
         try go_frame
         repeat ((first | (refine wpY_w ?_ (Or.inl ⟨by rfl,fun w9=>?_⟩) ?_;rotate_left 1;go_simp;with_reducible rfl) | (refine wpY_l ?_ ((Below.refl _ _).drew) (Or.inl ⟨by rfl,fun w9 hw9=>?_⟩) ?_;rotate_left 1;obtain ⟨hc9,hf9⟩:=bcell hw9;go_simp;with_reducible rfl) | refine wpY_w undef (Or.inr ⟨by rfl,rfl⟩) ?_ | refine wpY_l undef ((Below.refl _ _).drew) (Or.inr ⟨by rfl,rfl⟩) ?_);go_frame)
         refine wpY_nil ?_
         simp only [OnlyN_normal]
         refine hKK _ _ ?_
         clear hKK KK
         go_wp2_with fail
         go_meet
         case rel=>exact ⟨gt,A1,c1,A2,c2,A3,c3,rfl,rfl,rfl,Kt.out.setAllD rfl,HQ1.out.fr (M:=fun k=>k=gt) (Fr.setCells _ _ (Fr.refl _ _) (.inl rfl)) (fun _ h=>h),HQ2.out.fr (M:=fun k=>k=gt) (Fr.setCells _ _ (Fr.refl _ _) (.inl rfl)) (fun _ h=>h),Below.setCells' _ _ (hb7) Gt.out⟩
     · refine wpOp_cs rfl (fun K9 hK9=>?_)
       go_simp
       obtain ⟨V5,hV⟩ : ∃V,V=(V4.alloc (.cells #[.string ⟨#[]⟩,.slice none 0 0,.slice none 0 0] 45)):=⟨_,rfl⟩
       obtain ⟨gt,hg⟩ : ∃g,g=V4.heap.size:=⟨_,rfl⟩
       have hb:Below V4.heap.size V4 V5:=by rw [hV];exact (Below.refl _ _).alloc (Nat.le_refl _) _
       have hb5:Below W3.heap.size W3 V5:=(hb4).trans (hb.mono (hb4).size)
       have Kt:=Lib.hid (show Blk V5 gt 45 #[.string ⟨#[]⟩,.slice none 0 0,.slice none 0 0] by rw [hV,hg];exact Blk.new _ _ _)
       have Gt:=Lib.hid (show W3.heap.size≤gt by rw [hg];exact (hb4).size)
       have Lt:=Lib.hid (show gt<V5.heap.size from Kt.out.lt)
       rw [← hV,← hg]
       clear hV hg hb
       refine hK9 _ _ (fun _=>hb5) ?_
       clear hK9 K9
       try go_frame
       try simp only [beside,List.filterMap_nil]
       refine wpY_es (fun K9 hK9=>?_)
       go_simp
       obtain ⟨V6,hV⟩ : ∃V,V=(V5.alloc (.cells #[.int .i64 1,.string ⟨#[65]⟩,.int .i64 1,.int .i64 3,.string ⟨#[122]⟩,.int .i64 0,.int .i64 1,.string ⟨#[83]⟩,.int .i64 1,.int .i64 0,.string ⟨#[]⟩,.int .i64 0,.int .i64 1,.bool false,.int .i64 2,.int .i64 1] 68)):=⟨_,rfl⟩
       obtain ⟨gp,hg⟩ : ∃g,g=V5.heap.size:=⟨_,rfl⟩
       have hb:Below V5.heap.size V5 V6:=by rw [hV];exact (Below.refl _ _).alloc (Nat.le_refl _) _
       have hb6:Below W3.heap.size W3 V6:=(hb5).trans (hb.mono (hb5).size)
       have Kp:=Lib.hid (show Blk V6 gp 68 #[.int .i64 1,.string ⟨#[65]⟩,.int .i64 1,.int .i64 3,.string ⟨#[122]⟩,.int .i64 0,.int .i64 1,.string ⟨#[83]⟩,.int .i64 1,.int .i64 0,.string ⟨#[]⟩,.int .i64 0,.int .i64 1,.bool false,.int .i64 2,.int .i64 1] by rw [hV,hg];exact Blk.new _ _ _)
       have Gp:=Lib.hid (show W3.heap.size≤gp by rw [hg];exact (hb5).size)
       have Kt:=Lib.hid (Kt.out.new_ hb)
       have Lt:=Lib.hid (Nat.lt_of_lt_of_le Lt.out hb.size)
       rw [← hV,← hg]
       clear hV hg hb
       refine hK9 _ _ (hb6) ?_
       clear hK9 K9
       try go_frame
       refine wpY_es (fun K9 hK9=>?_)
       go_simp
       have HC:=Lib.hid (prod_is 0 ⟨#[99]⟩ [⟨e22a,1,0⟩,⟨e22b,1,0⟩] (some ⟨g,0,none⟩) 2 none 0 none 0 [] none 0 0 0 [p22] (some ⟨gp,0,none⟩) 1 V6 (no22_is _) (HR.out.new_ (hb6)) (RowRd.nil _ _ _) (rowRd_blk (cells:=PrefT.cells) (l:=[p22]) (n:=1) Kp.out rfl PrefT.cells_length (by unfold maxLen;decide) rfl) (by decide) (by decide) (by decide))
       unfold ProdTo at HC
       rw [show ([⟨e22a,1,0⟩,⟨e22b,1,0⟩]:List TraceT).map TraceT.elem = [e22a,e22b] from rfl,wk22_prod] at HC
       refine HC.out.mono ?_
       rintro e V7 ⟨hb,A1,c1,A2,c2,A3,c3,rfl,hr1,hr2,hr3,hr4⟩
       have HR1:=Lib.hid (show RowR (repCondT 1) (fun k=>V6.heap.size≤k∧k<V7.heap.size) V7 A1 c1 [c22a,c22b] from hr1)
       have HR2:=Lib.hid (show RowR repActT (fun k=>V6.heap.size≤k∧k<V7.heap.size) V7 A2 c2 [a22] from hr2)
       have hb7:Below W3.heap.size W3 V7:=(hb6).trans (hb.mono (hb6).size)
       have Kp:=Lib.hid (Kp.out.new_ hb)
       have Kt:=Lib.hid (Kt.out.new_ hb)
       have hg1:=Lt.out
       have HQ1:=Lib.hid (HR1.out.weaken (D':=fun k=>k≠gt) (fun k hk=>by have:=hk.1;omega))
       have HQ2:=Lib.hid (HR2.out.weaken (D':=fun k=>k≠gt) (fun k hk=>by have:=hk.1;omega))
       clear hg1
       clear HC hb hr1 hr2 hr3 hr4
       refine hK9 _ _ (hb7) ?_
       clear hK9 K9
       try go_frame
       repeat ((first | (refine wpY_w ?_ (Or.inl ⟨by rfl,fun w9=>?_⟩) ?_;rotate_left 1;go_simp;with_reducible rfl) | (refine wpY_l ?_ ((Below.refl _ _).drew) (Or.inl ⟨by rfl,fun w9 hw9=>?_⟩) ?_;rotate_left 1;obtain ⟨hc9,hf9⟩:=bcell hw9;go_simp;with_reducible rfl) | refine wpY_w undef (Or.inr ⟨by rfl,rfl⟩) ?_ | refine wpY_l undef ((Below.refl _ _).drew) (Or.inr ⟨by rfl,rfl⟩) ?_);go_frame)
       refine wpY_es (fun K9 hK9=>?_)
       have hTH:=Kt.out.there
       refine step_store_el rfl 45 _ _ rfl gt 0 #[Value.string ⟨#[99]⟩,Value.slice A1 2 c1,Value.slice A2 1 c2] rfl rfl (show _ from hTH) (by kernel_rfl) (by kernel_rfl) ?_
       refine hK9 _ _ (Below.setCells' _ _ (hb7) Gt.out) ?_
       clear hK9 K9
       try go_frame
       repeat ((first | (refine wpY_w ?_ (Or.inl ⟨by rfl,fun w9=>?_⟩) ?_;rotate_left 1;go_simp;with_reducible rfl) | (refine wpY_l ?_ ((Below.refl _ _).drew) (Or.inl ⟨by rfl,fun w9 hw9=>?_⟩) ?_;rotate_left 1;obtain ⟨hc9,hf9⟩:=bcell hw9;go_simp;with_reducible rfl) | refine wpY_w undef (Or.inr ⟨by rfl,rfl⟩) ?_ | refine wpY_l undef ((Below.refl _ _).drew) (Or.inr ⟨by rfl,rfl⟩) ?_);go_frame)
       refine wpY_nil ?_
       simp only [OnlyN_normal]
       refine hKK _ _ ?_
       clear hKK KK
       go_wp2_with fail
       go_meet
       case rel=>exact ⟨gt,A1,c1,A2,c2,A3,c3,rfl,rfl,rfl,Kt.out.setAllD rfl,HQ1.out.fr (M:=fun k=>k=gt) (Fr.setCells _ _ (Fr.refl _ _) (.inl rfl)) (fun _ h=>h),HQ2.out.fr (M:=fun k=>k=gt) (Fr.setCells _ _ (Fr.refl _ _) (.inl rfl)) (fun _ h=>h),Below.setCells' _ _ (hb7) Gt.out⟩
   · refine wpOp_cs rfl (fun K9 hK9=>?_)
     go_simp
     obtain ⟨V4,hV⟩ : ∃V,V=(W3.alloc (.cells #[.string ⟨#[]⟩,.slice none 0 0,.slice none 0 0] 45)).drew:=⟨_,rfl⟩
     obtain ⟨gt,hg⟩ : ∃g,g=W3.heap.size:=⟨_,rfl⟩
     have hb:Below W3.heap.size W3 V4:=by rw [hV];exact ((Below.refl _ _).alloc (Nat.le_refl _) _).drew
     have hb4:Below W3.heap.size W3 V4:=hb
     have Kt:=Lib.hid (show Blk V4 gt 45 #[.string ⟨#[]⟩,.slice none 0 0,.slice none 0 0] by rw [hV,hg];exact Blk.new _ _ _)
     have Gt:=Lib.hid (show W3.heap.size≤gt by rw [hg];exact Nat.le_refl _)
     have Lt:=Lib.hid (show gt<V4.heap.size from Kt.out.lt)
     rw [← hV,← hg]
     clear hV hg hb
     refine hK9 _ _ (fun _=>hb4) ?_
     clear hK9 K9
     try go_frame
     try simp only [beside,List.filterMap_nil]
     refine wpY_es (fun K9 hK9=>?_)
     go_simp
     refine (wW9_is ⟨#[122]⟩ _).mono ?_
     rintro e V5 ⟨rfl,hb⟩
     have hb5:Below W3.heap.size W3 V5:=(hb4).trans (hb.mono (hb4).size)
     have Kt:=Lib.hid (Kt.out.new_ hb)
     have Lt:=Lib.hid (Nat.lt_of_lt_of_le Lt.out hb.size)
     clear hb
     refine hK9 _ _ (hb5) ?_
     clear hK9 K9
     try go_frame
     repeat ((first | (refine wpY_w ?_ (Or.inl ⟨by rfl,fun w9=>?_⟩) ?_;rotate_left 1;go_simp;with_reducible rfl) | (refine wpY_l ?_ ((Below.refl _ _).drew) (Or.inl ⟨by rfl,fun w9 hw9=>?_⟩) ?_;rotate_left 1;obtain ⟨hc9,hf9⟩:=bcell hw9;go_simp;with_reducible rfl) | refine wpY_w undef (Or.inr ⟨by rfl,rfl⟩) ?_ | refine wpY_l undef ((Below.refl _ _).drew) (Or.inr ⟨by rfl,rfl⟩) ?_);go_frame)
     refine wpY_es (fun K9 hK9=>?_)
     go_simp
     obtain ⟨V6,hV⟩ : ∃V,V=(V5.alloc (.cells #[.int .i64 1,.string ⟨#[65]⟩,.int .i64 1,.int .i64 3,.string ⟨#[122]⟩,.int .i64 0,.int .i64 1,.string ⟨#[83]⟩,.int .i64 1,.int .i64 0,.string ⟨#[]⟩,.int .i64 0,.int .i64 1,.bool false,.int .i64 2,.int .i64 1] 68)):=⟨_,rfl⟩
     obtain ⟨gp,hg⟩ : ∃g,g=V5.heap.size:=⟨_,rfl⟩
     have hb:Below V5.heap.size V5 V6:=by rw [hV];exact (Below.refl _ _).alloc (Nat.le_refl _) _
     have hb6:Below W3.heap.size W3 V6:=(hb5).trans (hb.mono (hb5).size)
     have Kp:=Lib.hid (show Blk V6 gp 68 #[.int .i64 1,.string ⟨#[65]⟩,.int .i64 1,.int .i64 3,.string ⟨#[122]⟩,.int .i64 0,.int .i64 1,.string ⟨#[83]⟩,.int .i64 1,.int .i64 0,.string ⟨#[]⟩,.int .i64 0,.int .i64 1,.bool false,.int .i64 2,.int .i64 1] by rw [hV,hg];exact Blk.new _ _ _)
     have Gp:=Lib.hid (show W3.heap.size≤gp by rw [hg];exact (hb5).size)
     have Kt:=Lib.hid (Kt.out.new_ hb)
     have Lt:=Lib.hid (Nat.lt_of_lt_of_le Lt.out hb.size)
     rw [← hV,← hg]
     clear hV hg hb
     refine hK9 _ _ (hb6) ?_
     clear hK9 K9
     try go_frame
     refine wpY_es (fun K9 hK9=>?_)
     go_simp
     have HC:=Lib.hid (prod_is 0 ⟨#[99]⟩ [⟨e22a,1,0⟩,⟨e22b,1,0⟩] (some ⟨g,0,none⟩) 2 none 0 none 0 [] none 0 0 0 [p22] (some ⟨gp,0,none⟩) 1 V6 (no22_is _) (HR.out.new_ (hb6)) (RowRd.nil _ _ _) (rowRd_blk (cells:=PrefT.cells) (l:=[p22]) (n:=1) Kp.out rfl PrefT.cells_length (by unfold maxLen;decide) rfl) (by decide) (by decide) (by decide))
     unfold ProdTo at HC
     rw [show ([⟨e22a,1,0⟩,⟨e22b,1,0⟩]:List TraceT).map TraceT.elem = [e22a,e22b] from rfl,wk22_prod] at HC
     refine HC.out.mono ?_
     rintro e V7 ⟨hb,A1,c1,A2,c2,A3,c3,rfl,hr1,hr2,hr3,hr4⟩
     have HR1:=Lib.hid (show RowR (repCondT 1) (fun k=>V6.heap.size≤k∧k<V7.heap.size) V7 A1 c1 [c22a,c22b] from hr1)
     have HR2:=Lib.hid (show RowR repActT (fun k=>V6.heap.size≤k∧k<V7.heap.size) V7 A2 c2 [a22] from hr2)
     have hb7:Below W3.heap.size W3 V7:=(hb6).trans (hb.mono (hb6).size)
     have Kp:=Lib.hid (Kp.out.new_ hb)
     have Kt:=Lib.hid (Kt.out.new_ hb)
     have hg1:=Lt.out
     have HQ1:=Lib.hid (HR1.out.weaken (D':=fun k=>k≠gt) (fun k hk=>by have:=hk.1;omega))
     have HQ2:=Lib.hid (HR2.out.weaken (D':=fun k=>k≠gt) (fun k hk=>by have:=hk.1;omega))
     clear hg1
     clear HC hb hr1 hr2 hr3 hr4
     refine hK9 _ _ (hb7) ?_
     clear hK9 K9
     try go_frame
     repeat ((first | (refine wpY_w ?_ (Or.inl ⟨by rfl,fun w9=>?_⟩) ?_;rotate_left 1;go_simp;with_reducible rfl) | (refine wpY_l ?_ ((Below.refl _ _).drew) (Or.inl ⟨by rfl,fun w9 hw9=>?_⟩) ?_;rotate_left 1;obtain ⟨hc9,hf9⟩:=bcell hw9;go_simp;with_reducible rfl) | refine wpY_w undef (Or.inr ⟨by rfl,rfl⟩) ?_ | refine wpY_l undef ((Below.refl _ _).drew) (Or.inr ⟨by rfl,rfl⟩) ?_);go_frame)
     refine wpY_es (fun K9 hK9=>?_)
     have hTH:=Kt.out.there
     refine step_store_el rfl 45 _ _ rfl gt 0 #[Value.string ⟨#[99]⟩,Value.slice A1 2 c1,Value.slice A2 1 c2] rfl rfl (show _ from hTH) (by kernel_rfl) (by kernel_rfl) ?_
     refine hK9 _ _ (Below.setCells' _ _ (hb7) Gt.out) ?_
     clear hK9 K9
     try go_frame
     repeat ((first | (refine wpY_w ?_ (Or.inl ⟨by rfl,fun w9=>?_⟩) ?_;rotate_left 1;go_simp;with_reducible rfl) | (refine wpY_l ?_ ((Below.refl _ _).drew) (Or.inl ⟨by rfl,fun w9 hw9=>?_⟩) ?_;rotate_left 1;obtain ⟨hc9,hf9⟩:=bcell hw9;go_simp;with_reducible rfl) | refine wpY_w undef (Or.inr ⟨by rfl,rfl⟩) ?_ | refine wpY_l undef ((Below.refl _ _).drew) (Or.inr ⟨by rfl,rfl⟩) ?_);go_frame)
     refine wpY_nil ?_
     simp only [OnlyN_normal]
     refine hKK _ _ ?_
     clear hKK KK
     go_wp2_with fail
     go_meet
     case rel=>exact ⟨gt,A1,c1,A2,c2,A3,c3,rfl,rfl,rfl,Kt.out.setAllD rfl,HQ1.out.fr (M:=fun k=>k=gt) (Fr.setCells _ _ (Fr.refl _ _) (.inl rfl)) (fun _ h=>h),HQ2.out.fr (M:=fun k=>k=gt) (Fr.setCells _ _ (Fr.refl _ _) (.inl rfl)) (fun _ h=>h),Below.setCells' _ _ (hb7) Gt.out⟩
  case rest=>
   obtain ⟨bp,A1,c1,A2,c2,A3,c3,rfl,rfl,rfl,Kp,hr1,hr2,hbc⟩:=hcut
   have HF:=Lib.hid (HB.out.trans (hbc.mono HB.out.size))
   clear s0 s1 s2 a0 a1 a2 sz az tz t0 t1 t2 t3 t4 t5 HB
   obtain ⟨p0,p1,p2⟩:=Kp.c3
   have pz:=Kp.lt
   obtain ⟨g1,o1,B1,b1_,B2,b2_,B3,b3_,hA,_,hg,-,-,xx,-,-,-,-,-,-,-⟩:=at_CondT hr1 (k:=0) (by decide)
   obtain ⟨g2,o2,C1,d1_,C2,d2_,C3,d3_,hA2,_,_,-,-,yy,-,-,-,-,-,-,-⟩:=at_CondT hr1 (k:=1) (by decide)
   subst hA
   injection hA2 with hA2
   injection hA2 with e1 e2
   subst e1;subst e2
   obtain ⟨g3,o3,hA3,_,hg3,zz,-⟩:=at_ActT hr2 (k:=0) (by decide)
   subst hA3
   have x2:wc.cell? ⟨g1,o1+2,none⟩=some (.string ⟨#[115,49]⟩):=by simpa [c22a,CondT.id] using xx
   have y2:wc.cell? ⟨g1,o1+9,none⟩=some (.string ⟨#[97,50]⟩):=by simpa [c22b,CondT.id,Nat.add_assoc] using yy
   have z0:wc.cell? ⟨g3,o3,none⟩=some (.string ⟨#[97,50]⟩):=by simpa [a22] using zz
   have q1:2≤c1:=hr1.1
   have q2:1≤c2:=hr2.1
   clear hr1 hr2 hbc Kp xx yy zz
   go_wp2_with fail
   go_ret
   exact ⟨rfl,HF.out⟩
end Go.Proofs.YtldndkngpdfpfaaGreat
namespace Go.Proofs.YtldndkngpdfpfaaGreat
open Go.RowKit Go.Shelf
attribute [local go_sem] Oper.semAt_some
set_option linter.unusedSimpArgs false
theorem order_no {l:List Elem} (h:orderV l=none) {P:Ending→World→Prop} {f:Nat} {v:Value} {w:World} (hc:Calls Tryz.prog f #[v] w (OrderTo l w)) (hp : ∀w',Below w.heap.size w w'→P (.returned (.tuple #[.slice none 0 0,.slice none 0 0,.bool false])) w'):Calls Tryz.prog f #[v] w P:=
 hc.mono (fun e w' he=>by unfold OrderTo at he;rw [h] at he;obtain ⟨h1,h2⟩:=he;subst h2;exact hp w' h1)
theorem order_yes {l o:List Elem} {ns:List Sym} (h:orderV l=some (o,ns)) {P:Ending→World→Prop} {f:Nat} {v:Value} {w:World} (hc:Calls Tryz.prog f #[v] w (OrderTo l w))
 (hp : ∀w' A c B d,Below w.heap.size w w'→RowRd w' 12 Elem.cells A c o→RowRd w' 3 Sym.cells B d ns→P (.returned (.tuple #[.slice A o.length c,.slice B ns.length d,.bool true])) w'):Calls Tryz.prog f #[v] w P:=
 hc.mono (fun e w' he=>by unfold OrderTo at he;rw [h] at he;obtain ⟨h1,A,c,B,d,h2,h3,h4⟩:=he;subst h2;exact hp w' A c B d h1 h3 h4)
end Go.Proofs.YtldndkngpdfpfaaGreat
namespace Go.Proofs.YtldndkngpdfpfaaGreat
def retagF:Int→List Elem→List Elem
 | _,[]=>[]
 | k,e :: l=>{ e with tag:=k } :: retagF (k+1) l
theorem retagF_len : ∀(k:Int) (l:List Elem),(retagF k l).length=l.length
 | _,[]=>rfl
 | k,e :: l=>by rw [retagF,List.length_cons,List.length_cons,retagF_len]
theorem retagF_snoc (e:Elem) : ∀(k:Int) (l:List Elem),retagF k (l ++ [e])=retagF k l ++ [{ e with tag:=k+l.length }]
 | k,[]=>by simp [retagF]
 | k,x :: l=>by
   rw [List.cons_append,retagF,retagF_snoc e (k+1) l,retagF,List.cons_append,List.length_cons]
   congr 4
   omega
theorem retagF_tag : ∀(k:Int) (l:List Elem),(∀t∈(retagF k l).map Elem.tag,k≤t)∧((retagF k l).map Elem.tag).Nodup
 | _,[]=>⟨fun t h=>(by cases h),List.nodup_nil⟩
 | k,e :: l=>by
   obtain ⟨h1,h2⟩:=retagF_tag (k+1) l
   rw [retagF,List.map_cons]
   refine ⟨fun t h=>?_,List.nodup_cons.2 ⟨fun h=>?_,h2⟩⟩
   · rcases List.mem_cons.1 h with h | h
     · rw [h];exact Int.le_refl _
     · have:=h1 t h;omega
   · have:=h1 _ h
     simp only at this
     omega
def turnB (m:List Elem) (k:Nat):List Elem:=m.drop k++m.take k
theorem turnB_perm (m:List Elem) (k:Nat):m.Perm (turnB m k):=by
 have h:(m.take k++m.drop k).Perm (m.drop k++m.take k):=List.perm_append_comm
 rwa [List.take_append_drop] at h
theorem turned_same (l:List Elem) (k:Nat):orderV (turnB (retagF 1 l) k)=orderV (retagF 1 l):=
 (orderV_perm (turnB_perm _ k) (retagF_tag 1 l).2).symm
theorem turned_tags {l o:List Elem} {ns:List Sym} (h:orderV (retagF 1 l)=some (o,ns)):(o.map Elem.tag).Nodup∧o.length=l.length∧ns.Nodup:=by
 obtain ⟨h1,h2,_,_⟩:=orderV_told h
 exact ⟨(h1.map Elem.tag).nodup_iff.2 (retagF_tag 1 l).2,by rw [h1.length_eq,retagF_len],h2⟩
end Go.Proofs.YtldndkngpdfpfaaGreat
namespace Go.Proofs.YtldndkngpdfpfaaGreat
open Go.RowKit
theorem int_at {w:World} {A:Option Addr} {c k:Nat} {l:List Int} (h:RowRd w 1 Int.cells1 A c l) (hk:k<l.length) : ∃b off,A=some ⟨b,off,none⟩∧b<w.heap.size∧w.cell? ⟨b,off+k,none⟩=some (.int .i64 l[k]):=by
 obtain ⟨b,off,hA,hb,hc⟩:=h.at_ hk
 refine ⟨b,off,hA,hb,?_⟩
 have:=hc 0 (.int .i64 l[k]) rfl
 simpa using this
set_option maxRecDepth 100000 in
set_option maxHeartbeats 1000000 in
theorem has10_is (A:Option Addr) (c:Nat) (l:List Int) (x:Int) (w:World) (h:RowRd w 1 Int.cells1 A c l) :
 Calls Tryz.prog 24 #[.slice A l.length c,.int .i64 x] w fun e w'=>e = .returned (.bool (decide (x∈l)))∧w=w':=by
 have HL:=Lib.hid h
 have hlc:=h.cap
 clear h
 go_enter Tryz.func24,Tryz.ntmps24
 go_wp2_with fail
 go_loopw [5] (fun s wr=>∃i:Nat,s = .int .i64 i∧i≤l.length∧(∀j,(h:j<l.length)→j<i→l[j]≠x)∧wr=w) (fun s wr=>l.length - (intOf s).toNat)
 case atStart=>exact ⟨0,rfl,Nat.zero_le _,fun j _ h=>absurd h (by omega),rfl⟩
 case round=>
  obtain ⟨i,rfl,hi,hno,rfl⟩:=hrel
  have HNO:=Lib.hid hno
  clear hno
  by_cases hlt:i<l.length
  · obtain ⟨b,off,rfl,hb,hc⟩:=int_at HL.out hlt
    obtain ⟨y,hy⟩ : ∃y,y=l[i]:=⟨_,rfl⟩
    rw [← hy] at hc
    have HY:=Lib.hid hy
    have b1:(0:Int)≤(i:Int):=by omega
    have b2:(i:Int)<(l.length:Int):=by omega
    clear hy
    by_cases hk:y=x
    · have t1:(y == x)=true:=by simpa using hk
      have HK:=Lib.hid hk
      clear hk
      go_wp2_with fail
      go_ret
      exact ⟨by rw [decide_eq_true (by rw [← HK.out,HY.out];exact List.getElem_mem _)];rfl,rfl⟩
    · have t1:(y == x)=false:=by simpa using hk
      have HK:=Lib.hid hk
      clear hk
      go_wp2_with fail
      go_roundw
      case rel=>
       refine ⟨i+1,by go_num,by omega,fun j h hj=>?_,trivial⟩
       rcases Nat.lt_or_ge j i with h2 | h2
       · exact HNO.out j h h2
       · obtain rfl:j=i:=by omega
         rw [← HY.out];exact HK.out
      case measure=>simp [intOf]<;>omega
  · obtain rfl:i=l.length:=by omega
    go_wp2_with fail
    go_ret
    exact ⟨by rw [decide_eq_false (fun hm=>by obtain ⟨j,h,e⟩:=List.getElem_of_mem hm;exact HNO.out j h h e)];rfl,rfl⟩
end Go.Proofs.YtldndkngpdfpfaaGreat
namespace Go.Proofs.YtldndkngpdfpfaaGreat
open Go.RowKit
attribute [local go_sem] eql_sym neq_sym
theorem has_take {l:List Sym} {x:Sym} {i:Nat} (h:i<l.length):has cmpSym (l.take (i+1)) x=(has cmpSym (l.take i) x || decide (l[i]=x)):=by
 rw [List.take_add_one,List.getElem?_eq_getElem h]
 simp only [has,Option.toList_some,List.any_append,List.any_cons,List.any_nil,Bool.or_false]
 congr 1
 rw [Bool.eq_iff_iff]
 simp [cmpSym_eq]
set_option maxRecDepth 100000 in
set_option maxHeartbeats 2000000 in
theorem has_is (A:Option Addr) (c:Nat) (l:List Sym) (x:Sym) (w:World) (hrd:RowRd w 3 Sym.cells A c l) :
 Calls Tryz.prog 44 #[.slice A l.length c,.agg #[.int .i64 x.kind,.string x.text,.int .i64 x.n]] w fun e w'=>e = .returned (.bool (has cmpSym l x))∧Below w.heap.size w w':=by
 have HRD:=Lib.hid hrd
 have hlc:=hrd.cap
 clear hrd
 go_enter Tryz.func44,Tryz.ntmps44
 go_wp2_with fail
 obtain ⟨W0,hW0⟩ : ∃W0,W0=w.alloc (Obj.cells #[Value.int IntKind.i64 x.kind,Value.string x.text,Value.int IntKind.i64 x.n] 23):=⟨_,rfl⟩
 have hB0:Below w.heap.size w W0:=by rw [hW0];exact (Below.refl _ _).alloc (Nat.le_refl _) _
 have hX0:Blk W0 w.heap.size 23 #[.int .i64 x.kind,.string x.text,.int .i64 x.n]:=by rw [hW0];exact Blk.new _ _ _
 rw [← hW0]
 clear hW0
 have HB0:=Lib.hid hB0
 have HX0:=Lib.hid hX0
 clear hB0 hX0
 go_loopw [5] (fun s wr=>∃i:Nat,s = .int .i64 i∧has cmpSym (l.take i) x=false∧i≤l.length∧Below W0.heap.size W0 wr) (fun s wr=>l.length - (intOf s).toNat)
 case atStart=>exact ⟨0,rfl,by simp [has],Nat.zero_le _,Below.refl _ _⟩
 case round=>
  obtain ⟨i,rfl,hk,hi,hB⟩:=hrel
  have HK:=Lib.hid hk
  clear hk
  by_cases hlt:i<l.length
  · have hBw:Below w.heap.size w wr:=HB0.out.trans (hB.mono HB0.out.size)
    obtain ⟨y,hy⟩ : ∃y,y=l[i]:=⟨_,rfl⟩
    obtain ⟨g,off,rfl,hg,q0,q1,q2⟩:=sym_at (HRD.out.new_ hBw) hlt
    rw [← hy] at q0 q1 q2
    have hxr:=HX0.out.new_ hB
    have hxl:=hxr.lt
    have y0:=hxr.cell 0
    have y1:=hxr.cell 1
    have y2:=hxr.cell 2
    simp only [List.getElem?_toArray,List.getElem?_cons_zero,List.getElem?_cons_succ] at y0 y1 y2
    have HXR:=Lib.hid hxr
    have HB:=Lib.hid hB
    have HBw:=Lib.hid hBw
    have HY:=Lib.hid hy
    clear hB hBw hy hxr
    have b1:(0:Int)≤(i:Int):=by omega
    have b2:(i:Int)<(l.length:Int):=by omega
    have hbe:=eql_sym y x
    have hstep:=has_take (x:=x) hlt
    rw [← HY.out,HK.out,Bool.false_or] at hstep
    by_cases he:y=x
    · have t2:decide (y=x)=true:=by simpa using he
      rw [t2] at hbe hstep
      have HE:=Lib.hid hstep
      clear he hstep
      go_wp2_with fail
      go_quiet (fail)
      clear q0 q1 q2 y0 y1 y2
      go_wp2_with fail
      go_ret
      have e:has cmpSym l x=true:=by
       rw [has_iff]
       obtain ⟨z,hz,hz2⟩:=has_iff.1 HE.out
       exact ⟨z,List.mem_of_mem_take hz,hz2⟩
      exact ⟨by rw [e];rfl,Below.drewN' HBw.out nq⟩
    · have t2:decide (y=x)=false:=by simpa using he
      rw [t2] at hbe hstep
      have HE:=Lib.hid hstep
      clear he hstep
      go_wp2_with fail
      go_quiet (fail)
      have HB1:=Lib.hid (Below.drewN' HB.out nq)
      clear q0 q1 q2 y0 y1 y2
      go_wp2_with fail
      go_roundw
      case rel=>exact ⟨i+1,by go_num,HE.out,by omega,HB1.out⟩
      case measure=>simp [intOf]<;>omega
  · have hie:i=l.length:=by omega
    subst hie
    have HB:=Lib.hid hB
    clear hB
    go_wp2_with fail
    go_ret
    have e:=HK.out
    rw [List.take_length] at e
    exact ⟨by rw [e];rfl,HB0.out.trans (HB.out.mono HB0.out.size)⟩
end Go.Proofs.YtldndkngpdfpfaaGreat
namespace Go.Proofs.YtldndkngpdfpfaaGreat
open Go.RowKit Go.Shelf
attribute [local go_sem] Oper.semAt_some
set_option linter.unusedSimpArgs false
theorem run_slI_from {n c j:Nat} (A:Option Addr) (hj:j≤n) (Y:World):(Instr.slice 46 (.slice A n c) (some (.int .i64 (j:Int))) none none).run Tryz.prog Y = .ok (.slice (if c=j then A else A.map (·.add (j*1))) (n - j) (c - j)) Y:=by
 have hl0:(0:Int)≤(j:Int):=by omega
 have hl1:(j:Int)≤(n:Int):=by omega
 go_simp
theorem run_slI_to {n c j:Nat} (A:Option Addr) (hj:j≤c) (Y:World):(Instr.slice 46 (.slice A n c) none (some (.int .i64 (j:Int))) none).run Tryz.prog Y = .ok (.slice A j c) Y:=by
 have hl0:(0:Int)≤(j:Int):=by omega
 have hl1:(j:Int)≤(c:Int):=by omega
 go_simp
theorem run_slS_to {n c j:Nat} (A:Option Addr) (hj:j≤c) (Y:World):(Instr.slice 36 (.slice A n c) none (some (.int .i64 (j:Int))) none).run Tryz.prog Y = .ok (.slice A j c) Y:=by
 have hl0:(0:Int)≤(j:Int):=by omega
 have hl1:(j:Int)≤(c:Int):=by omega
 go_simp
theorem fresh_any {e:TypeId} {size n m B:Nat} {w w':World} {A:Option Addr} {c:Nat} {v:Value} {xs news:List Value} (hown:w'.ownsRow 0 e size v (n+m) (xs++news)) (hg:w.grownBy w' (Value.slice A n c).ownBlock) (hat:v.ownBlock=(Value.slice A n c).ownBlock∨v.ownBlock=some w.heap.size) (hA:AIn A (B≤·)) (hB:B≤w.heap.size) :
 ∃A' c',v = .slice A' (n+m) c'∧w'.ownsRow 0 e size (.slice A' (n+m) c') (n+m) (xs++news)∧AIn A' (B≤·)∧Below B w w':=by
 obtain ⟨A',c',rfl,hF,hA',hO⟩:=grown_own (E:=fun j=>∃a,A=some a∧a.block=j) (fun a ha=>⟨a,ha,rfl⟩) hown hg hat
 refine ⟨A',c',rfl,hO,fun a ha=>?_,hF.below hB (fun k hk ⟨a,ha,e⟩=>by have:B≤a.block:=hA a ha;omega)⟩
 rcases hA' a ha with ⟨b,hb,e⟩ | ⟨h1,_⟩
 · rw [← e];exact hA b hb
 · exact Nat.le_trans hB h1
def RiseTo (l:List Int) (n:Int) (w:World) (e:Ending) (w':World):Prop:=∃(l':List Int) (A':Option Addr) (c':Nat),e = .returned (.slice A' l'.length c')∧RowRd w' 1 Int.cells1 A' c' l'∧(n ∉ l→l'.length=l.length+1)∧(∀x,x∈l'↔x∈l∨x=n)∧Below w.heap.size w w'
set_option maxRecDepth 100000 in
set_option maxHeartbeats 8000000 in
theorem rise_is (A:Option Addr) (c:Nat) (l:List Int) (n:Int) (w:World) (h:RowRd w 1 Int.cells1 A c l) (hl:l.length≤1000):Calls Tryz.prog 43 #[.slice A l.length c,.int .i64 n] w (RiseTo l n w):=by
 obtain ⟨i0,hi0,hz0,hz1,hz2⟩:=infp inf_Int
 have H:=Lib.hid h
 have hc:=h.cap
 have hcc:=h.1
 have HH:=Lib.hid (has10_is A c l n w h)
 clear h
 by_cases hm:n∈l
 · have HM:=Lib.hid hm
   rw [decide_eq_true hm] at HH
   clear hm
   go_enter Tryz.func43,Tryz.ntmps43
   go_wp2_with fail
   refine HH.out.mono ?_
   rintro e w1 ⟨rfl,rfl⟩
   go_wp2_with fail
   go_ret
   exact ⟨l,A,c,rfl,H.out,fun h=>absurd HM.out h,fun x=>⟨.inl,fun h=>h.elim id (fun e=>e ▸ HM.out)⟩,Below.refl _ _⟩
 · have HM:=Lib.hid hm
   rw [decide_eq_false hm] at HH
   clear hm
   go_enter Tryz.func43,Tryz.ntmps43
   go_wp2_with fail
   refine HH.out.mono ?_
   rintro e w1 ⟨rfl,rfl⟩
   go_upto_region 4 with fail
   go_loopw [5] (fun s wr=>∃i:Nat,s = .int .i64 (i:Int)∧i≤l.length∧wr=w) (fun s wr=>(intOf s).toNat)
   case atStart=>exact ⟨l.length,rfl,Nat.le_refl _,rfl⟩
   case round=>
    obtain ⟨i,rfl,hi,hwr⟩:=hrel
    have HWR:=Lib.hid hwr
    have HR:=Lib.hid (show RowRd wr 1 Int.cells1 A c l by rw [hwr];exact H.out)
    clear hwr
    have TAIL:True:=trivial
    by_cases hi0':i=0
    · subst hi0'
      have jz : ¬(0:Int)<0:=by omega
      obtain ⟨tk,htk⟩ : ∃x,x=l.take 0:=⟨_,rfl⟩
      obtain ⟨dk,hdk⟩ : ∃x,x=l.drop 0:=⟨_,rfl⟩
      obtain ⟨As,hAs⟩ : ∃As:Option Addr,As=(if c=0 then A else Option.map (fun a:Addr=>a.add (0*1)) A):=⟨_,rfl⟩
      have htl:0=tk.length:=by rw [htk,List.length_take];omega
      have hdl:l.length - 0=dk.length:=by rw [hdk,List.length_drop]
      have hsl1 : ∀Y,(Instr.slice 46 (.slice A l.length c) none (some (.int .i64 0)) none).run Tryz.prog Y = .ok (.slice A tk.length c) Y:=fun Y=>by rw [← htl];exact run_slI_to (j:=0) _ (by omega) Y
      have hsl2 : ∀Y,(Instr.slice 46 (.slice A l.length c) (some (.int .i64 0)) none none).run Tryz.prog Y = .ok (.slice As dk.length (c - 0)) Y:=fun Y=>by rw [← hdl,hAs];exact run_slI_from (j:=0) _ hi Y
      have HTK:=Lib.hid (show RowRd wr 1 Int.cells1 A c tk by rw [htk];exact HR.out.prefix_ 0)
      have HDK:=Lib.hid (show RowRd wr 1 Int.cells1 As (c - 0) dk by rw [hdk,hAs];exact HR.out.suffixE 0 hi)
      have HLE:=Lib.hid (show tk++dk=l by rw [htk,hdk];exact List.take_append_drop _ _)
      have htl1:tk.length≤1000:=by omega
      have hdl1:dk.length≤1000:=by omega
      clear htk hdk hAs htl hdl
      go_upto_region 7 with (at_builtin;refine wpList_append_src wr rfl (.const (.slice none 0 0)) (.tmp 28) 46 rfl 3 i0 _ 1 8 Tryz.underlying46 hi0 hz0 hz1 hz2 rfl (by omega) (.slice none 0 0) 0 [] rfl ⟨by simp,.inl ⟨rfl,rfl⟩⟩ A tk.length c (tk.flatMap Int.cells1) rfl (flat_length Int.cells1_length _) (HTK.out.news Int.cells1_length (by omega)) (one_Int _) (by unfold maxLen;omega) (by omega) ?_;intro v1 w4 hown1 hg1 hnil1 hat1;obtain ⟨A4,c4,rfl,hO4,hA4,hb4⟩:=fresh_any (B:=wr.heap.size) (A:=none) (n:=0) (c:=0) hown1 hg1 hat1 (AIn.none_ _) (Nat.le_refl _);rw [Nat.zero_add,List.nil_append] at hO4;rw [Nat.zero_add];have HO4:=Lib.hid (And.intro hO4 hA4);have HB4:=Lib.hid hb4;clear hown1 hg1 hnil1 hat1 hO4 hA4 hb4)
      obtain ⟨W5,hW5⟩ : ∃W,W=w4.alloc (.cells #[.int .i64 n] 3):=⟨_,rfl⟩
      have HW5:=Lib.hid hW5
      have hb5:Below w4.heap.size w4 W5:=by rw [hW5];exact (Below.refl _ _).alloc (Nat.le_refl _) _
      have HO5:=Lib.hid (ownsRow_new HO4.out.1 hb5)
      have HB5:=Lib.hid (HB4.out.trans (hb5.mono HB4.out.size))
      have HN5:=Lib.hid (show 0<1→∃ad,(some (⟨w4.heap.size,0,none⟩:Addr))=some ad∧∀j u,([n].flatMap Int.cells1)[j]? = some u→W5.cell? (ad.add j)=some u from fun _=>⟨_,rfl,by rw [hW5];exact World.news_of_block (heap_alloc_new _ _)⟩)
      clear hW5 hb5
      go_upto_region 8 with (at_builtin;rw [← HW5.out];refine wpList_append_src W5 rfl (.tmp 30) (.tmp 32) 46 rfl 3 i0 _ 1 8 Tryz.underlying46 hi0 hz0 hz1 hz2 rfl (by omega) (.slice A4 tk.length c4) tk.length (tk.flatMap Int.cells1) rfl HO5.out (some ⟨w4.heap.size,0,none⟩) 1 1 ([n].flatMap Int.cells1) rfl rfl HN5.out (one_Int _) (by unfold maxLen;omega) (by omega) ?_;intro v1 w6 hown1 hg1 hnil1 hat1;obtain ⟨A6,c6,rfl,hO6,hA6,hb6⟩:=fresh_any (B:=wr.heap.size) hown1 hg1 hat1 HO4.out.2 HB5.out.size;obtain ⟨tn,htn⟩ : ∃tn,tn=tk ++ [n]:=⟨_,rfl⟩;have hkk:tk.length+1=tn.length:=(by rw [htn];simp);rw [← List.flatMap_append,← htn,hkk] at hO6;rw [hkk];have htn1:tn.length≤1001:=(by omega);have HTN:=Lib.hid htn;have HO6:=Lib.hid (And.intro hO6 hA6);have HB6:=Lib.hid (HB5.out.trans hb6);clear hown1 hg1 hnil1 hat1 hO6 hA6 hb6 hkk htn)
      have HDK:=Lib.hid (HDK.out.new_ HB6.out)
      go_wp2_with (at_builtin;refine wpList_append_src w6 rfl (.tmp 34) (.tmp 37) 46 rfl 3 i0 _ 1 8 Tryz.underlying46 hi0 hz0 hz1 hz2 rfl (by omega) (.slice A6 tn.length c6) tn.length (tn.flatMap Int.cells1) rfl HO6.out.1 As dk.length (c - 0) (dk.flatMap Int.cells1) rfl (flat_length Int.cells1_length _) (HDK.out.news Int.cells1_length (by omega)) (one_Int _) (by unfold maxLen;omega) (by omega) ?_;intro v1 w7 hown1 hg1 hnil1 hat1;obtain ⟨A7,c7,rfl,hO7,hA7,hb7⟩:=fresh_any (B:=wr.heap.size) hown1 hg1 hat1 HO6.out.2 HB6.out.size;have HO7:=Lib.hid hO7;have HB7:=Lib.hid (HB6.out.trans hb7);clear hown1 hg1 hnil1 hat1 hO7 hA7 hb7)
      go_ret
      refine ⟨tn++dk,A7,c7,by rw [List.length_append]<;>rfl,?_,fun _=>?_,fun x=>?_,?_⟩
      · have:=HO7.out;rw [← List.flatMap_append,← List.length_append] at this;exact ownsRow_rd Int.cells1_length this
      · have h1:=congrArg List.length HLE.out;rw [HTN.out];simp at h1 ⊢;omega
      · rw [HTN.out,← HLE.out];simp only [List.mem_append,List.mem_singleton]
        exact ⟨fun h=>h.elim (fun h=>h.elim (fun h=>.inl (.inl h)) .inr) (fun h=>.inl (.inr h)),fun h=>h.elim (fun h=>h.elim (fun h=>.inl (.inl h)) .inr) (fun h=>.inl (.inr h))⟩
      · rw [← HWR.out];exact HB7.out
    · obtain ⟨g,off,hA,hg,hcell⟩:=HR.out.at_ (k:=i - 1) (by omega)
      have q0:=hcell 0 _ rfl
      subst hA
      obtain ⟨j,rfl⟩ : ∃j,i=j+1:=⟨i - 1,by omega⟩
      have v1:IntKind.i64.wrap ((j:Int)+1 - 1)=(j:Int):=by rw [IntWalk.i64_in _ (by omega)];omega
      have v2:IntKind.i64.wrap (j:Int)=(j:Int):=IntWalk.i64_in _ (by omega)
      obtain ⟨y,hy⟩ : ∃y,y=l[j+1 - 1]'(by omega):=⟨_,rfl⟩
      rw [← hy] at q0
      have q1:wr.cell? ⟨g,off+j,none⟩=some (.int .i64 y):=by simpa using q0
      have j0:(0:Int)<(j:Int)+1:=by omega
      have j1:(0:Int)≤(j:Int):=by omega
      have j2:(j:Int)<(l.length:Int):=by omega
      clear hcell hy q0 hi0'
      by_cases hlt:n<y
      · have t1:decide (n<y)=true:=by simpa using hlt
        go_wp2_with fail
        go_roundw
        case rel=>exact ⟨j,by first | rfl | go_num,by omega,HWR.out⟩
        case measure=>simp [intOf]<;>omega
      · have t1:decide (n<y)=false:=by simpa using hlt
        obtain ⟨tk,htk⟩ : ∃x,x=l.take (j+1):=⟨_,rfl⟩
        obtain ⟨dk,hdk⟩ : ∃x,x=l.drop (j+1):=⟨_,rfl⟩
        obtain ⟨As,hAs⟩ : ∃As:Option Addr,As=(if c=(j+1) then (some ⟨g,off,none⟩) else Option.map (fun a:Addr=>a.add ((j+1)*1)) (some ⟨g,off,none⟩)):=⟨_,rfl⟩
        have htl:j+1=tk.length:=by rw [htk,List.length_take];omega
        have hdl:l.length - (j+1)=dk.length:=by rw [hdk,List.length_drop]
        have hsl1 : ∀Y,(Instr.slice 46 (.slice (some ⟨g,off,none⟩) l.length c) none (some (.int .i64 ((j:Int)+1))) none).run Tryz.prog Y = .ok (.slice (some ⟨g,off,none⟩) tk.length c) Y:=fun Y=>by rw [← htl];exact run_slI_to (j:=(j+1)) _ (by omega) Y
        have hsl2 : ∀Y,(Instr.slice 46 (.slice (some ⟨g,off,none⟩) l.length c) (some (.int .i64 ((j:Int)+1))) none none).run Tryz.prog Y = .ok (.slice As dk.length (c - (j+1))) Y:=fun Y=>by rw [← hdl,hAs];exact run_slI_from (j:=(j+1)) _ hi Y
        have HTK:=Lib.hid (show RowRd wr 1 Int.cells1 (some ⟨g,off,none⟩) c tk by rw [htk];exact HR.out.prefix_ (j+1))
        have HDK:=Lib.hid (show RowRd wr 1 Int.cells1 As (c - (j+1)) dk by rw [hdk,hAs];exact HR.out.suffixE (j+1) hi)
        have HLE:=Lib.hid (show tk++dk=l by rw [htk,hdk];exact List.take_append_drop _ _)
        have htl1:tk.length≤1000:=by omega
        have hdl1:dk.length≤1000:=by omega
        clear htk hdk hAs htl hdl
        go_upto_region 7 with (at_builtin;refine wpList_append_src wr rfl (.const (.slice none 0 0)) (.tmp 28) 46 rfl 3 i0 _ 1 8 Tryz.underlying46 hi0 hz0 hz1 hz2 rfl (by omega) (.slice none 0 0) 0 [] rfl ⟨by simp,.inl ⟨rfl,rfl⟩⟩ (some ⟨g,off,none⟩) tk.length c (tk.flatMap Int.cells1) rfl (flat_length Int.cells1_length _) (HTK.out.news Int.cells1_length (by omega)) (one_Int _) (by unfold maxLen;omega) (by omega) ?_;intro v1 w4 hown1 hg1 hnil1 hat1;obtain ⟨A4,c4,rfl,hO4,hA4,hb4⟩:=fresh_any (B:=wr.heap.size) (A:=none) (n:=0) (c:=0) hown1 hg1 hat1 (AIn.none_ _) (Nat.le_refl _);rw [Nat.zero_add,List.nil_append] at hO4;rw [Nat.zero_add];have HO4:=Lib.hid (And.intro hO4 hA4);have HB4:=Lib.hid hb4;clear hown1 hg1 hnil1 hat1 hO4 hA4 hb4)
        obtain ⟨W5,hW5⟩ : ∃W,W=w4.alloc (.cells #[.int .i64 n] 3):=⟨_,rfl⟩
        have HW5:=Lib.hid hW5
        have hb5:Below w4.heap.size w4 W5:=by rw [hW5];exact (Below.refl _ _).alloc (Nat.le_refl _) _
        have HO5:=Lib.hid (ownsRow_new HO4.out.1 hb5)
        have HB5:=Lib.hid (HB4.out.trans (hb5.mono HB4.out.size))
        have HN5:=Lib.hid (show 0<1→∃ad,(some (⟨w4.heap.size,0,none⟩:Addr))=some ad∧∀j u,([n].flatMap Int.cells1)[j]? = some u→W5.cell? (ad.add j)=some u from fun _=>⟨_,rfl,by rw [hW5];exact World.news_of_block (heap_alloc_new _ _)⟩)
        clear hW5 hb5
        go_upto_region 8 with (at_builtin;rw [← HW5.out];refine wpList_append_src W5 rfl (.tmp 30) (.tmp 32) 46 rfl 3 i0 _ 1 8 Tryz.underlying46 hi0 hz0 hz1 hz2 rfl (by omega) (.slice A4 tk.length c4) tk.length (tk.flatMap Int.cells1) rfl HO5.out (some ⟨w4.heap.size,0,none⟩) 1 1 ([n].flatMap Int.cells1) rfl rfl HN5.out (one_Int _) (by unfold maxLen;omega) (by omega) ?_;intro v1 w6 hown1 hg1 hnil1 hat1;obtain ⟨A6,c6,rfl,hO6,hA6,hb6⟩:=fresh_any (B:=wr.heap.size) hown1 hg1 hat1 HO4.out.2 HB5.out.size;obtain ⟨tn,htn⟩ : ∃tn,tn=tk ++ [n]:=⟨_,rfl⟩;have hkk:tk.length+1=tn.length:=(by rw [htn];simp);rw [← List.flatMap_append,← htn,hkk] at hO6;rw [hkk];have htn1:tn.length≤1001:=(by omega);have HTN:=Lib.hid htn;have HO6:=Lib.hid (And.intro hO6 hA6);have HB6:=Lib.hid (HB5.out.trans hb6);clear hown1 hg1 hnil1 hat1 hO6 hA6 hb6 hkk htn)
        have HDK:=Lib.hid (HDK.out.new_ HB6.out)
        go_wp2_with (at_builtin;refine wpList_append_src w6 rfl (.tmp 34) (.tmp 37) 46 rfl 3 i0 _ 1 8 Tryz.underlying46 hi0 hz0 hz1 hz2 rfl (by omega) (.slice A6 tn.length c6) tn.length (tn.flatMap Int.cells1) rfl HO6.out.1 As dk.length (c - (j+1)) (dk.flatMap Int.cells1) rfl (flat_length Int.cells1_length _) (HDK.out.news Int.cells1_length (by omega)) (one_Int _) (by unfold maxLen;omega) (by omega) ?_;intro v1 w7 hown1 hg1 hnil1 hat1;obtain ⟨A7,c7,rfl,hO7,hA7,hb7⟩:=fresh_any (B:=wr.heap.size) hown1 hg1 hat1 HO6.out.2 HB6.out.size;have HO7:=Lib.hid hO7;have HB7:=Lib.hid (HB6.out.trans hb7);clear hown1 hg1 hnil1 hat1 hO7 hA7 hb7)
        go_ret
        refine ⟨tn++dk,A7,c7,by rw [List.length_append]<;>rfl,?_,fun _=>?_,fun x=>?_,?_⟩
        · have:=HO7.out;rw [← List.flatMap_append,← List.length_append] at this;exact ownsRow_rd Int.cells1_length this
        · have h1:=congrArg List.length HLE.out;rw [HTN.out];simp at h1 ⊢;omega
        · rw [HTN.out,← HLE.out];simp only [List.mem_append,List.mem_singleton]
          exact ⟨fun h=>h.elim (fun h=>h.elim (fun h=>.inl (.inl h)) .inr) (fun h=>.inl (.inr h)),fun h=>h.elim (fun h=>h.elim (fun h=>.inl (.inl h)) .inr) (fun h=>.inl (.inr h))⟩
        · rw [← HWR.out];exact HB7.out
end Go.Proofs.YtldndkngpdfpfaaGreat
