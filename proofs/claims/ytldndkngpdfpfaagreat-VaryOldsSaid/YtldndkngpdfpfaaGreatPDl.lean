/-
  Texts put together: VaryWk, LawVNames, VaryO, RefBefore, KeepNeq, VaryEl, VaryRef, VaryRo, LawVOrders, RefHas, RefRise.
-/
import Derived.Test.YtldndkngpdfpfaaGreatPDk
import Derived.Test.YtldndkngpdfpfaaGreatPDd
import Derived.Test.YtldndkngpdfpfaaGreatPDg
import Derived.Test.YtldndkngpdfpfaaGreatPDa
import Derived.Test.YtldndkngpdfpfaaGreatPDb
import Derived.Test.YtldndkngpdfpfaaGreatPDc
import Derived.IntWalk
import Derived.Maps.RangeWalk
namespace Go.Proofs.YtldndkngpdfpfaaGreat
open Go.RowKit Go.Shelf
set_option linter.unusedSimpArgs false
theorem Blk.setAllD {w:World} {g:Nat} {t:TypeId} {cs:Array Value} {vs:List Value} (h:Blk w g t cs) (hl:cs.size=vs.length):Blk (w.setCells g 0 vs) g t vs.toArray:=by
 have hr:=World.rangeAt_setCells_same w g 0 vs (by have:=h.there;rwa [hl] at this)
 obtain ⟨cs',h1,h2⟩:=Blk.setCells_ vs 0 h
 have e:cs'=vs.toArray:=by
  apply Array.ext
  · rw [h2];simpa using hl
  · intro i hi hj
    have hj':i<vs.length:=by simpa using hj
    have h3:=hr i vs[i] (List.getElem?_eq_getElem hj')
    rw [show (0+i)=i by omega,h1.cell i,Array.getElem?_eq_getElem hi] at h3
    simpa using h3
 rw [← e];exact h1
theorem rowRd_blk {α:Type} {w:World} {cells:α→List Value} {size g:Nat} {t:TypeId} {l:List α} {cs:Array Value} (hb:Blk w g t cs) (hc:cs=(l.flatMap cells).toArray) (hsz : ∀x,(cells x).length=size) (hm:l.length≤maxLen) {n:Nat} (hn:n=l.length):RowRd w size cells (some ⟨g,0,none⟩) n l:=by
 subst hn
 refine RowRd.of_cells (Nat.le_refl _) hm hb.lt (fun k hk j u hu=>?_)
 have hj:j<size:=by have:=(List.getElem?_eq_some_iff.1 hu).1;rwa [hsz] at this
 rw [hb.cell,Nat.zero_add,hc,← hu,← flat_get hsz l k hk j hj]
 simp
set_option maxHeartbeats 1000000 in
theorem wW9_is (t:ByteArray)(w:World):Calls Tryz.prog 32 #[.string t] w fun e w'=>e = .returned (.agg #[.int .i64 3,.string t,.int .i64 0])∧Below w.heap.size w w':=by
 go_enter Tryz.func32,Tryz.ntmps32
 go_wp2_with fail
 exact bodyPost_ret (v:=.agg #[.int .i64 3,.string t,.int .i64 0]) (by simp [results,Tryz.results32,go_sem]) rfl ⟨rfl,by (repeat (first | exact Below.refl _ _ | refine Below.drew ?_ | refine Below.al ?_ _ | refine Below.sc ?_ _))⟩
set_option maxHeartbeats 1000000 in
theorem wN9_is (n:Int)(w:World):Calls Tryz.prog 33 #[.int .i64 n] w fun e w'=>e = .returned (.agg #[.int .i64 2,.string ⟨#[]⟩,.int .i64 n])∧Below w.heap.size w w':=by
 go_enter Tryz.func33,Tryz.ntmps33
 go_wp2_with fail
 exact bodyPost_ret (v:=.agg #[.int .i64 2,.string ⟨#[]⟩,.int .i64 n]) (by simp [results,Tryz.results33,go_sem]) rfl ⟨rfl,by (repeat (first | exact Below.refl _ _ | refine Below.drew ?_ | refine Below.al ?_ _ | refine Below.sc ?_ _))⟩
set_option maxHeartbeats 1000000 in
theorem wI9_is (t:ByteArray) (n:Int)(w:World):Calls Tryz.prog 31 #[.string t,.int .i64 n] w fun e w'=>e = .returned (.agg #[.int .i64 1,.string t,.int .i64 n])∧Below w.heap.size w w':=by
 go_enter Tryz.func31,Tryz.ntmps31
 go_wp2_with fail
 exact bodyPost_ret (v:=.agg #[.int .i64 1,.string t,.int .i64 n]) (by simp [results,Tryz.results31,go_sem]) rfl ⟨rfl,by (repeat (first | exact Below.refl _ _ | refine Below.drew ?_ | refine Below.al ?_ _ | refine Below.sc ?_ _))⟩
theorem no22_is (w0:World):OldOk 56 #[] w0 (fun _=>false):=by
 refine ⟨fun args w=>by kernel_rfl,fun s W hW=>?_⟩
 show Calls Tryz.prog 56 #[.agg #[.int .i64 s.kind,.string s.text,.int .i64 s.n]] W _
 go_enter Tryz.func56,Tryz.ntmps56
 go_wp2_with fail
 go_ret
 exact ⟨rfl,(Below.refl _ _).alloc (Nat.le_refl _) _⟩
set_option maxRecDepth 100000 in
set_option maxHeartbeats 8000000 in
theorem wakes22_is (w:World):Calls Tryz.prog 13 #[] w fun e w'=>e = .returned (.bool true)∧Below w.heap.size w w':=by
 go_enter Tryz.func13,Tryz.ntmps13
 go_wp2_with fail
 refine (wI9_is ⟨#[83]⟩ 1 _).mono ?_
 rintro e w1 ⟨rfl,hb1⟩
 have HB1:=Lib.hid hb1
 clear hb1
 go_wp2_with fail
 refine (wI9_is ⟨#[65]⟩ 1 _).mono ?_
 rintro e w2 ⟨rfl,hb2⟩
 have HB2:=Lib.hid (HB1.out.trans (hb2.mono HB1.out.size))
 clear hb2
 go_upto_region 2 with fail
 obtain ⟨W3,hW3⟩ : ∃W,W=(w2.alloc (.cells #[.int .i64 1,.string ⟨#[83]⟩,.int .i64 1] 23)).alloc (.cells #[.int .i64 1,.string ⟨#[65]⟩,.int .i64 1] 23):=⟨_,rfl⟩
 have HB:=Lib.hid (show Below w.heap.size w W3 by rw [hW3];exact (HB2.out.alloc HB2.out.size _).alloc (by have:=HB2.out.size;simp;omega) _)
 obtain ⟨bs,hbs⟩ : ∃b,b=w2.heap.size:=⟨_,rfl⟩
 have Ks:=Lib.hid (show Blk W3 bs 23 #[.int .i64 1,.string ⟨#[83]⟩,.int .i64 1] by rw [hW3,hbs];exact (Blk.new _ _ _).alloc _)
 have Ka:=Lib.hid (show Blk W3 (bs+1) 23 #[.int .i64 1,.string ⟨#[65]⟩,.int .i64 1] by rw [hW3,hbs];have hh:=Blk.new (w2.alloc (.cells #[.int .i64 1,.string ⟨#[83]⟩,.int .i64 1] 23)) 23 #[.int .i64 1,.string ⟨#[65]⟩,.int .i64 1];simp only [World.size_alloc] at hh;exact hh)
 have HGB:=Lib.hid (show w.heap.size≤bs by rw [hbs];exact HB2.out.size)
 rw [← hW3,← hbs]
 clear hW3 hbs
 obtain ⟨s0,s1,s2⟩:=Ks.out.c3
 obtain ⟨a0,a1,a2⟩:=Ka.out.c3
 have sz:=Ks.out.lt
 have az:=Ka.out.lt
 go_cut [3] from 9 (fun p wc=>∃bt g,p = .pointer (some ⟨bt,0,none⟩)∧Blk wc bt 38 #[.slice (some ⟨g,0,none⟩) 2 2,.slice none 0 0,.slice none 0 0,.slice none 0 0,.int .i64 0,.int .i64 0]∧Blk wc g 57 #[.int .i64 1,.string ⟨#[83]⟩,.int .i64 1,.int .i64 3,.string ⟨#[120]⟩,.int .i64 0,.int .i64 1,.string ⟨#[65]⟩,.int .i64 1,.bool false,.bool true,.int .i64 1,.int .i64 1,.int .i64 0,.int .i64 1,.string ⟨#[65]⟩,.int .i64 1,.int .i64 3,.string ⟨#[121]⟩,.int .i64 0,.int .i64 2,.string ⟨#[]⟩,.int .i64 3,.bool false,.bool false,.int .i64 2,.int .i64 1,.int .i64 0]∧Below W3.heap.size W3 wc)
 case first=>
  refine wp_region_Pl (fun w9=>Below W3.heap.size W3 w9) [0,2,3,4,5,8,9,11] [0,2,5] (.fork [(0,1),(2,1),(5,1)] 1 (.fork [(3,0),(4,0)] 6 (.fork [] 7 (.fork [(8,0),(9,0)] 10 (.fin [(11,0),(12,2),(13,2)]) 12 (.fin [(10,2),(11,0),(13,2)])) 12 (.fin [(7,2),(8,0),(9,0),(10,2),(11,0),(13,2)])) 12 (.fin [(6,2),(7,2),(8,0),(9,0),(10,2),(11,0),(13,2)])) 12 (.fin [(1,2),(3,0),(4,0),(6,2),(7,2),(8,0),(9,0),(10,2),(11,0),(13,2)])) (by kernel_rfl) (by kernel_rfl) (by kernel_rfl) (fun KK hKK=>?_)
  simp only [wpPl,beside,List.filterMap_cons,List.filterMap_nil,List.getElem?_toArray,List.getElem?_cons_zero,List.getElem?_cons_succ,Option.map_some]
  repeat ((first | (refine wpY_w ?_ (Or.inl ⟨by rfl,fun w9=>?_⟩) ?_;rotate_left 1;go_simp;with_reducible rfl) | (refine wpY_l ?_ ((Below.refl _ _).drew) (Or.inl ⟨by rfl,fun w9 hw9=>?_⟩) ?_;rotate_left 1;obtain ⟨hc9,hf9⟩:=bcell hw9;go_simp;with_reducible rfl) | refine wpY_w undef (Or.inr ⟨by rfl,rfl⟩) ?_ | refine wpY_l undef ((Below.refl _ _).drew) (Or.inr ⟨by rfl,rfl⟩) ?_);go_frame)
  refine wpY_nil ⟨?_,?_⟩
  · refine wpOp_cs rfl (fun K9 hK9=>?_)
    go_simp
    refine (wW9_is ⟨#[120]⟩ _).mono ?_
    rintro e V4 ⟨rfl,hb⟩
    have hb4:Below W3.heap.size W3 V4:=((Below.refl W3.heap.size W3).drew).trans (hb.mono ((Below.refl W3.heap.size W3).drew).size)
    clear hb
    refine hK9 _ _ (fun _=>hb4) ?_
    clear hK9 K9
    try go_frame
    try simp only [beside,List.filterMap_nil]
    repeat ((first | (refine wpY_w ?_ (Or.inl ⟨by rfl,fun w9=>?_⟩) ?_;rotate_left 1;go_simp;with_reducible rfl) | (refine wpY_l ?_ ((Below.refl _ _).drew) (Or.inl ⟨by rfl,fun w9 hw9=>?_⟩) ?_;rotate_left 1;obtain ⟨hc9,hf9⟩:=bcell hw9;go_simp;with_reducible rfl) | refine wpY_w undef (Or.inr ⟨by rfl,rfl⟩) ?_ | refine wpY_l undef ((Below.refl _ _).drew) (Or.inr ⟨by rfl,rfl⟩) ?_);go_frame)
    refine wpY_nil ⟨?_,?_⟩
    · refine wpOp_cs rfl (fun K9 hK9=>?_)
      go_simp
      refine (wW9_is ⟨#[121]⟩ _).mono ?_
      rintro e V5 ⟨rfl,hb⟩
      have hb5:Below W3.heap.size W3 V5:=(hb4).trans (hb.mono (hb4).size)
      clear hb
      refine hK9 _ _ (fun _=>hb5) ?_
      clear hK9 K9
      try go_frame
      try simp only [beside,List.filterMap_nil]
      refine wpY_nil ⟨?_,?_⟩
      · refine wpOp_cs rfl (fun K9 hK9=>?_)
        go_simp
        refine (wN9_is 3 _).mono ?_
        rintro e V6 ⟨rfl,hb⟩
        have hb6:Below W3.heap.size W3 V6:=(hb5).trans (hb.mono (hb5).size)
        clear hb
        refine hK9 _ _ (fun _=>hb6) ?_
        clear hK9 K9
        try go_frame
        try simp only [beside,List.filterMap_nil]
        repeat ((first | (refine wpY_w ?_ (Or.inl ⟨by rfl,fun w9=>?_⟩) ?_;rotate_left 1;go_simp;with_reducible rfl) | (refine wpY_l ?_ ((Below.refl _ _).drew) (Or.inl ⟨by rfl,fun w9 hw9=>?_⟩) ?_;rotate_left 1;obtain ⟨hc9,hf9⟩:=bcell hw9;go_simp;with_reducible rfl) | refine wpY_w undef (Or.inr ⟨by rfl,rfl⟩) ?_ | refine wpY_l undef ((Below.refl _ _).drew) (Or.inr ⟨by rfl,rfl⟩) ?_);go_frame)
        refine wpY_nil ⟨?_,?_⟩
        · refine wpOp_cs rfl (fun K9 hK9=>?_)
          go_simp
          obtain ⟨V7,hV⟩ : ∃V,V=(V6.alloc (.cells #[.int .i64 1,.string ⟨#[83]⟩,.int .i64 1,.int .i64 3,.string ⟨#[120]⟩,.int .i64 0,.int .i64 1,.string ⟨#[65]⟩,.int .i64 1,.bool false,.bool true,.int .i64 1,.int .i64 1,.int .i64 0,.int .i64 1,.string ⟨#[65]⟩,.int .i64 1,.int .i64 3,.string ⟨#[121]⟩,.int .i64 0,.int .i64 2,.string ⟨#[]⟩,.int .i64 3,.bool false,.bool false,.int .i64 2,.int .i64 1,.int .i64 0] 57)):=⟨_,rfl⟩
          obtain ⟨gr,hg⟩ : ∃g,g=V6.heap.size:=⟨_,rfl⟩
          have hb:Below V6.heap.size V6 V7:=by rw [hV];exact (Below.refl _ _).alloc (Nat.le_refl _) _
          have hb7:Below W3.heap.size W3 V7:=(hb6).trans (hb.mono (hb6).size)
          have Kr:=Lib.hid (show Blk V7 gr 57 #[.int .i64 1,.string ⟨#[83]⟩,.int .i64 1,.int .i64 3,.string ⟨#[120]⟩,.int .i64 0,.int .i64 1,.string ⟨#[65]⟩,.int .i64 1,.bool false,.bool true,.int .i64 1,.int .i64 1,.int .i64 0,.int .i64 1,.string ⟨#[65]⟩,.int .i64 1,.int .i64 3,.string ⟨#[121]⟩,.int .i64 0,.int .i64 2,.string ⟨#[]⟩,.int .i64 3,.bool false,.bool false,.int .i64 2,.int .i64 1,.int .i64 0] by rw [hV,hg];exact Blk.new _ _ _)
          have Gr:=Lib.hid (show W3.heap.size≤gr by rw [hg];exact (hb6).size)
          rw [← hV,← hg]
          clear hV hg hb
          refine hK9 _ _ (fun _=>hb7) ?_
          clear hK9 K9
          try go_frame
          try simp only [beside,List.filterMap_nil]
          repeat ((first | (refine wpY_w ?_ (Or.inl ⟨by rfl,fun w9=>?_⟩) ?_;rotate_left 1;go_simp;with_reducible rfl) | (refine wpY_l ?_ ((Below.refl _ _).drew) (Or.inl ⟨by rfl,fun w9 hw9=>?_⟩) ?_;rotate_left 1;obtain ⟨hc9,hf9⟩:=bcell hw9;go_simp;with_reducible rfl) | refine wpY_w undef (Or.inr ⟨by rfl,rfl⟩) ?_ | refine wpY_l undef ((Below.refl _ _).drew) (Or.inr ⟨by rfl,rfl⟩) ?_);go_frame)
          refine wpY_es (fun K9 hK9=>?_)
          go_simp
          obtain ⟨V8,hV⟩ : ∃V,V=(V7.alloc (.cells #[.slice none 0 0,.slice none 0 0,.slice none 0 0,.slice none 0 0,.int .i64 0,.int .i64 0] 38)):=⟨_,rfl⟩
          obtain ⟨gt,hg⟩ : ∃g,g=V7.heap.size:=⟨_,rfl⟩
          have hb:Below V7.heap.size V7 V8:=by rw [hV];exact (Below.refl _ _).alloc (Nat.le_refl _) _
          have hb8:Below W3.heap.size W3 V8:=(hb7).trans (hb.mono (hb7).size)
          have Kt:=Lib.hid (show Blk V8 gt 38 #[.slice none 0 0,.slice none 0 0,.slice none 0 0,.slice none 0 0,.int .i64 0,.int .i64 0] by rw [hV,hg];exact Blk.new _ _ _)
          have Gt:=Lib.hid (show W3.heap.size≤gt by rw [hg];exact (hb7).size)
          have Kr:=Lib.hid (Kr.out.new_ hb)
          rw [← hV,← hg]
          clear hV hg hb
          refine hK9 _ _ (hb8) ?_
          clear hK9 K9
          try go_frame
          refine wpY_es (fun K9 hK9=>?_)
          have hTH:=Kt.out.there
          refine step_store_el rfl 38 _ _ rfl gt 0 #[Value.slice (some ⟨gr,0,none⟩) 2 2,Value.slice none 0 0,Value.slice none 0 0,Value.slice none 0 0,Value.int IntKind.i64 0,Value.int IntKind.i64 0] rfl rfl (show _ from hTH) (by kernel_rfl) (by kernel_rfl) ?_
          refine hK9 _ _ (Below.setCells' _ _ (hb8) Gt.out) ?_
          clear hK9 K9
          try go_frame
          refine wpY_nil ?_
          simp only [OnlyN_normal]
          refine hKK _ _ ?_
          clear hKK KK
          go_wp2_with fail
          go_meet
          case rel=>exact ⟨gt,gr,rfl,Kt.out.setAllD rfl,Blk.farCells _ _ Kr.out (Kr.out.ne_ Kt.out (by decide)),Below.setCells' _ _ (hb8) Gt.out⟩
        · refine wpOp_cs rfl (fun K9 hK9=>?_)
          go_simp
          obtain ⟨V7,hV⟩ : ∃V,V=(V6.alloc (.cells #[.slice none 0 0,.slice none 0 0,.slice none 0 0,.slice none 0 0,.int .i64 0,.int .i64 0] 38)):=⟨_,rfl⟩
          obtain ⟨gt,hg⟩ : ∃g,g=V6.heap.size:=⟨_,rfl⟩
          have hb:Below V6.heap.size V6 V7:=by rw [hV];exact (Below.refl _ _).alloc (Nat.le_refl _) _
          have hb7:Below W3.heap.size W3 V7:=(hb6).trans (hb.mono (hb6).size)
          have Kt:=Lib.hid (show Blk V7 gt 38 #[.slice none 0 0,.slice none 0 0,.slice none 0 0,.slice none 0 0,.int .i64 0,.int .i64 0] by rw [hV,hg];exact Blk.new _ _ _)
          have Gt:=Lib.hid (show W3.heap.size≤gt by rw [hg];exact (hb6).size)
          rw [← hV,← hg]
          clear hV hg hb
          refine hK9 _ _ (fun _=>hb7) ?_
          clear hK9 K9
          try go_frame
          try simp only [beside,List.filterMap_nil]
          refine wpY_es (fun K9 hK9=>?_)
          go_simp
          obtain ⟨V8,hV⟩ : ∃V,V=(V7.alloc (.cells #[.int .i64 1,.string ⟨#[83]⟩,.int .i64 1,.int .i64 3,.string ⟨#[120]⟩,.int .i64 0,.int .i64 1,.string ⟨#[65]⟩,.int .i64 1,.bool false,.bool true,.int .i64 1,.int .i64 1,.int .i64 0,.int .i64 1,.string ⟨#[65]⟩,.int .i64 1,.int .i64 3,.string ⟨#[121]⟩,.int .i64 0,.int .i64 2,.string ⟨#[]⟩,.int .i64 3,.bool false,.bool false,.int .i64 2,.int .i64 1,.int .i64 0] 57)):=⟨_,rfl⟩
          obtain ⟨gr,hg⟩ : ∃g,g=V7.heap.size:=⟨_,rfl⟩
          have hb:Below V7.heap.size V7 V8:=by rw [hV];exact (Below.refl _ _).alloc (Nat.le_refl _) _
          have hb8:Below W3.heap.size W3 V8:=(hb7).trans (hb.mono (hb7).size)
          have Kr:=Lib.hid (show Blk V8 gr 57 #[.int .i64 1,.string ⟨#[83]⟩,.int .i64 1,.int .i64 3,.string ⟨#[120]⟩,.int .i64 0,.int .i64 1,.string ⟨#[65]⟩,.int .i64 1,.bool false,.bool true,.int .i64 1,.int .i64 1,.int .i64 0,.int .i64 1,.string ⟨#[65]⟩,.int .i64 1,.int .i64 3,.string ⟨#[121]⟩,.int .i64 0,.int .i64 2,.string ⟨#[]⟩,.int .i64 3,.bool false,.bool false,.int .i64 2,.int .i64 1,.int .i64 0] by rw [hV,hg];exact Blk.new _ _ _)
          have Gr:=Lib.hid (show W3.heap.size≤gr by rw [hg];exact (hb7).size)
          have Kt:=Lib.hid (Kt.out.new_ hb)
          rw [← hV,← hg]
          clear hV hg hb
          refine hK9 _ _ (hb8) ?_
          clear hK9 K9
          try go_frame
          repeat ((first | (refine wpY_w ?_ (Or.inl ⟨by rfl,fun w9=>?_⟩) ?_;rotate_left 1;go_simp;with_reducible rfl) | (refine wpY_l ?_ ((Below.refl _ _).drew) (Or.inl ⟨by rfl,fun w9 hw9=>?_⟩) ?_;rotate_left 1;obtain ⟨hc9,hf9⟩:=bcell hw9;go_simp;with_reducible rfl) | refine wpY_w undef (Or.inr ⟨by rfl,rfl⟩) ?_ | refine wpY_l undef ((Below.refl _ _).drew) (Or.inr ⟨by rfl,rfl⟩) ?_);go_frame)
          refine wpY_es (fun K9 hK9=>?_)
          have hTH:=Kt.out.there
          refine step_store_el rfl 38 _ _ rfl gt 0 #[Value.slice (some ⟨gr,0,none⟩) 2 2,Value.slice none 0 0,Value.slice none 0 0,Value.slice none 0 0,Value.int IntKind.i64 0,Value.int IntKind.i64 0] rfl rfl (show _ from hTH) (by kernel_rfl) (by kernel_rfl) ?_
          refine hK9 _ _ (Below.setCells' _ _ (hb8) Gt.out) ?_
          clear hK9 K9
          try go_frame
          refine wpY_nil ?_
          simp only [OnlyN_normal]
          refine hKK _ _ ?_
          clear hKK KK
          go_wp2_with fail
          go_meet
          case rel=>exact ⟨gt,gr,rfl,Kt.out.setAllD rfl,Blk.farCells _ _ Kr.out (Kr.out.ne_ Kt.out (by decide)),Below.setCells' _ _ (hb8) Gt.out⟩
      · refine wpOp_cs rfl (fun K9 hK9=>?_)
        go_simp
        obtain ⟨V6,hV⟩ : ∃V,V=(V5.alloc (.cells #[.slice none 0 0,.slice none 0 0,.slice none 0 0,.slice none 0 0,.int .i64 0,.int .i64 0] 38)):=⟨_,rfl⟩
        obtain ⟨gt,hg⟩ : ∃g,g=V5.heap.size:=⟨_,rfl⟩
        have hb:Below V5.heap.size V5 V6:=by rw [hV];exact (Below.refl _ _).alloc (Nat.le_refl _) _
        have hb6:Below W3.heap.size W3 V6:=(hb5).trans (hb.mono (hb5).size)
        have Kt:=Lib.hid (show Blk V6 gt 38 #[.slice none 0 0,.slice none 0 0,.slice none 0 0,.slice none 0 0,.int .i64 0,.int .i64 0] by rw [hV,hg];exact Blk.new _ _ _)
        have Gt:=Lib.hid (show W3.heap.size≤gt by rw [hg];exact (hb5).size)
        rw [← hV,← hg]
        clear hV hg hb
        refine hK9 _ _ (fun _=>hb6) ?_
        clear hK9 K9
        try go_frame
        try simp only [beside,List.filterMap_nil]
        refine wpY_es (fun K9 hK9=>?_)
        go_simp
        refine (wN9_is 3 _).mono ?_
        rintro e V7 ⟨rfl,hb⟩
        have hb7:Below W3.heap.size W3 V7:=(hb6).trans (hb.mono (hb6).size)
        have Kt:=Lib.hid (Kt.out.new_ hb)
        clear hb
        refine hK9 _ _ (hb7) ?_
        clear hK9 K9
        try go_frame
        repeat ((first | (refine wpY_w ?_ (Or.inl ⟨by rfl,fun w9=>?_⟩) ?_;rotate_left 1;go_simp;with_reducible rfl) | (refine wpY_l ?_ ((Below.refl _ _).drew) (Or.inl ⟨by rfl,fun w9 hw9=>?_⟩) ?_;rotate_left 1;obtain ⟨hc9,hf9⟩:=bcell hw9;go_simp;with_reducible rfl) | refine wpY_w undef (Or.inr ⟨by rfl,rfl⟩) ?_ | refine wpY_l undef ((Below.refl _ _).drew) (Or.inr ⟨by rfl,rfl⟩) ?_);go_frame)
        refine wpY_es (fun K9 hK9=>?_)
        go_simp
        obtain ⟨V8,hV⟩ : ∃V,V=(V7.alloc (.cells #[.int .i64 1,.string ⟨#[83]⟩,.int .i64 1,.int .i64 3,.string ⟨#[120]⟩,.int .i64 0,.int .i64 1,.string ⟨#[65]⟩,.int .i64 1,.bool false,.bool true,.int .i64 1,.int .i64 1,.int .i64 0,.int .i64 1,.string ⟨#[65]⟩,.int .i64 1,.int .i64 3,.string ⟨#[121]⟩,.int .i64 0,.int .i64 2,.string ⟨#[]⟩,.int .i64 3,.bool false,.bool false,.int .i64 2,.int .i64 1,.int .i64 0] 57)):=⟨_,rfl⟩
        obtain ⟨gr,hg⟩ : ∃g,g=V7.heap.size:=⟨_,rfl⟩
        have hb:Below V7.heap.size V7 V8:=by rw [hV];exact (Below.refl _ _).alloc (Nat.le_refl _) _
        have hb8:Below W3.heap.size W3 V8:=(hb7).trans (hb.mono (hb7).size)
        have Kr:=Lib.hid (show Blk V8 gr 57 #[.int .i64 1,.string ⟨#[83]⟩,.int .i64 1,.int .i64 3,.string ⟨#[120]⟩,.int .i64 0,.int .i64 1,.string ⟨#[65]⟩,.int .i64 1,.bool false,.bool true,.int .i64 1,.int .i64 1,.int .i64 0,.int .i64 1,.string ⟨#[65]⟩,.int .i64 1,.int .i64 3,.string ⟨#[121]⟩,.int .i64 0,.int .i64 2,.string ⟨#[]⟩,.int .i64 3,.bool false,.bool false,.int .i64 2,.int .i64 1,.int .i64 0] by rw [hV,hg];exact Blk.new _ _ _)
        have Gr:=Lib.hid (show W3.heap.size≤gr by rw [hg];exact (hb7).size)
        have Kt:=Lib.hid (Kt.out.new_ hb)
        rw [← hV,← hg]
        clear hV hg hb
        refine hK9 _ _ (hb8) ?_
        clear hK9 K9
        try go_frame
        repeat ((first | (refine wpY_w ?_ (Or.inl ⟨by rfl,fun w9=>?_⟩) ?_;rotate_left 1;go_simp;with_reducible rfl) | (refine wpY_l ?_ ((Below.refl _ _).drew) (Or.inl ⟨by rfl,fun w9 hw9=>?_⟩) ?_;rotate_left 1;obtain ⟨hc9,hf9⟩:=bcell hw9;go_simp;with_reducible rfl) | refine wpY_w undef (Or.inr ⟨by rfl,rfl⟩) ?_ | refine wpY_l undef ((Below.refl _ _).drew) (Or.inr ⟨by rfl,rfl⟩) ?_);go_frame)
        refine wpY_es (fun K9 hK9=>?_)
        have hTH:=Kt.out.there
        refine step_store_el rfl 38 _ _ rfl gt 0 #[Value.slice (some ⟨gr,0,none⟩) 2 2,Value.slice none 0 0,Value.slice none 0 0,Value.slice none 0 0,Value.int IntKind.i64 0,Value.int IntKind.i64 0] rfl rfl (show _ from hTH) (by kernel_rfl) (by kernel_rfl) ?_
        refine hK9 _ _ (Below.setCells' _ _ (hb8) Gt.out) ?_
        clear hK9 K9
        try go_frame
        refine wpY_nil ?_
        simp only [OnlyN_normal]
        refine hKK _ _ ?_
        clear hKK KK
        go_wp2_with fail
        go_meet
        case rel=>exact ⟨gt,gr,rfl,Kt.out.setAllD rfl,Blk.farCells _ _ Kr.out (Kr.out.ne_ Kt.out (by decide)),Below.setCells' _ _ (hb8) Gt.out⟩
    · refine wpOp_cs rfl (fun K9 hK9=>?_)
      go_simp
      obtain ⟨V5,hV⟩ : ∃V,V=(V4.alloc (.cells #[.slice none 0 0,.slice none 0 0,.slice none 0 0,.slice none 0 0,.int .i64 0,.int .i64 0] 38)):=⟨_,rfl⟩
      obtain ⟨gt,hg⟩ : ∃g,g=V4.heap.size:=⟨_,rfl⟩
      have hb:Below V4.heap.size V4 V5:=by rw [hV];exact (Below.refl _ _).alloc (Nat.le_refl _) _
      have hb5:Below W3.heap.size W3 V5:=(hb4).trans (hb.mono (hb4).size)
      have Kt:=Lib.hid (show Blk V5 gt 38 #[.slice none 0 0,.slice none 0 0,.slice none 0 0,.slice none 0 0,.int .i64 0,.int .i64 0] by rw [hV,hg];exact Blk.new _ _ _)
      have Gt:=Lib.hid (show W3.heap.size≤gt by rw [hg];exact (hb4).size)
      rw [← hV,← hg]
      clear hV hg hb
      refine hK9 _ _ (fun _=>hb5) ?_
      clear hK9 K9
      try go_frame
      try simp only [beside,List.filterMap_nil]
      refine wpY_es (fun K9 hK9=>?_)
      go_simp
      refine (wW9_is ⟨#[121]⟩ _).mono ?_
      rintro e V6 ⟨rfl,hb⟩
      have hb6:Below W3.heap.size W3 V6:=(hb5).trans (hb.mono (hb5).size)
      have Kt:=Lib.hid (Kt.out.new_ hb)
      clear hb
      refine hK9 _ _ (hb6) ?_
      clear hK9 K9
      try go_frame
      refine wpY_es (fun K9 hK9=>?_)
      go_simp
      refine (wN9_is 3 _).mono ?_
      rintro e V7 ⟨rfl,hb⟩
      have hb7:Below W3.heap.size W3 V7:=(hb6).trans (hb.mono (hb6).size)
      have Kt:=Lib.hid (Kt.out.new_ hb)
      clear hb
      refine hK9 _ _ (hb7) ?_
      clear hK9 K9
      try go_frame
      repeat ((first | (refine wpY_w ?_ (Or.inl ⟨by rfl,fun w9=>?_⟩) ?_;rotate_left 1;go_simp;with_reducible rfl) | (refine wpY_l ?_ ((Below.refl _ _).drew) (Or.inl ⟨by rfl,fun w9 hw9=>?_⟩) ?_;rotate_left 1;obtain ⟨hc9,hf9⟩:=bcell hw9;go_simp;with_reducible rfl) | refine wpY_w undef (Or.inr ⟨by rfl,rfl⟩) ?_ | refine wpY_l undef ((Below.refl _ _).drew) (Or.inr ⟨by rfl,rfl⟩) ?_);go_frame)
      refine wpY_es (fun K9 hK9=>?_)
      go_simp
      obtain ⟨V8,hV⟩ : ∃V,V=(V7.alloc (.cells #[.int .i64 1,.string ⟨#[83]⟩,.int .i64 1,.int .i64 3,.string ⟨#[120]⟩,.int .i64 0,.int .i64 1,.string ⟨#[65]⟩,.int .i64 1,.bool false,.bool true,.int .i64 1,.int .i64 1,.int .i64 0,.int .i64 1,.string ⟨#[65]⟩,.int .i64 1,.int .i64 3,.string ⟨#[121]⟩,.int .i64 0,.int .i64 2,.string ⟨#[]⟩,.int .i64 3,.bool false,.bool false,.int .i64 2,.int .i64 1,.int .i64 0] 57)):=⟨_,rfl⟩
      obtain ⟨gr,hg⟩ : ∃g,g=V7.heap.size:=⟨_,rfl⟩
      have hb:Below V7.heap.size V7 V8:=by rw [hV];exact (Below.refl _ _).alloc (Nat.le_refl _) _
      have hb8:Below W3.heap.size W3 V8:=(hb7).trans (hb.mono (hb7).size)
      have Kr:=Lib.hid (show Blk V8 gr 57 #[.int .i64 1,.string ⟨#[83]⟩,.int .i64 1,.int .i64 3,.string ⟨#[120]⟩,.int .i64 0,.int .i64 1,.string ⟨#[65]⟩,.int .i64 1,.bool false,.bool true,.int .i64 1,.int .i64 1,.int .i64 0,.int .i64 1,.string ⟨#[65]⟩,.int .i64 1,.int .i64 3,.string ⟨#[121]⟩,.int .i64 0,.int .i64 2,.string ⟨#[]⟩,.int .i64 3,.bool false,.bool false,.int .i64 2,.int .i64 1,.int .i64 0] by rw [hV,hg];exact Blk.new _ _ _)
      have Gr:=Lib.hid (show W3.heap.size≤gr by rw [hg];exact (hb7).size)
      have Kt:=Lib.hid (Kt.out.new_ hb)
      rw [← hV,← hg]
      clear hV hg hb
      refine hK9 _ _ (hb8) ?_
      clear hK9 K9
      try go_frame
      repeat ((first | (refine wpY_w ?_ (Or.inl ⟨by rfl,fun w9=>?_⟩) ?_;rotate_left 1;go_simp;with_reducible rfl) | (refine wpY_l ?_ ((Below.refl _ _).drew) (Or.inl ⟨by rfl,fun w9 hw9=>?_⟩) ?_;rotate_left 1;obtain ⟨hc9,hf9⟩:=bcell hw9;go_simp;with_reducible rfl) | refine wpY_w undef (Or.inr ⟨by rfl,rfl⟩) ?_ | refine wpY_l undef ((Below.refl _ _).drew) (Or.inr ⟨by rfl,rfl⟩) ?_);go_frame)
      refine wpY_es (fun K9 hK9=>?_)
      have hTH:=Kt.out.there
      refine step_store_el rfl 38 _ _ rfl gt 0 #[Value.slice (some ⟨gr,0,none⟩) 2 2,Value.slice none 0 0,Value.slice none 0 0,Value.slice none 0 0,Value.int IntKind.i64 0,Value.int IntKind.i64 0] rfl rfl (show _ from hTH) (by kernel_rfl) (by kernel_rfl) ?_
      refine hK9 _ _ (Below.setCells' _ _ (hb8) Gt.out) ?_
      clear hK9 K9
      try go_frame
      refine wpY_nil ?_
      simp only [OnlyN_normal]
      refine hKK _ _ ?_
      clear hKK KK
      go_wp2_with fail
      go_meet
      case rel=>exact ⟨gt,gr,rfl,Kt.out.setAllD rfl,Blk.farCells _ _ Kr.out (Kr.out.ne_ Kt.out (by decide)),Below.setCells' _ _ (hb8) Gt.out⟩
  · refine wpOp_cs rfl (fun K9 hK9=>?_)
    go_simp
    obtain ⟨V4,hV⟩ : ∃V,V=(W3.alloc (.cells #[.slice none 0 0,.slice none 0 0,.slice none 0 0,.slice none 0 0,.int .i64 0,.int .i64 0] 38)).drew:=⟨_,rfl⟩
    obtain ⟨gt,hg⟩ : ∃g,g=W3.heap.size:=⟨_,rfl⟩
    have hb:Below W3.heap.size W3 V4:=by rw [hV];exact ((Below.refl _ _).alloc (Nat.le_refl _) _).drew
    have hb4:Below W3.heap.size W3 V4:=hb
    have Kt:=Lib.hid (show Blk V4 gt 38 #[.slice none 0 0,.slice none 0 0,.slice none 0 0,.slice none 0 0,.int .i64 0,.int .i64 0] by rw [hV,hg];exact Blk.new _ _ _)
    have Gt:=Lib.hid (show W3.heap.size≤gt by rw [hg];exact Nat.le_refl _)
    rw [← hV,← hg]
    clear hV hg hb
    refine hK9 _ _ (fun _=>hb4) ?_
    clear hK9 K9
    try go_frame
    try simp only [beside,List.filterMap_nil]
    refine wpY_es (fun K9 hK9=>?_)
    go_simp
    refine (wW9_is ⟨#[120]⟩ _).mono ?_
    rintro e V5 ⟨rfl,hb⟩
    have hb5:Below W3.heap.size W3 V5:=(hb4).trans (hb.mono (hb4).size)
    have Kt:=Lib.hid (Kt.out.new_ hb)
    clear hb
    refine hK9 _ _ (hb5) ?_
    clear hK9 K9
    try go_frame
    repeat ((first | (refine wpY_w ?_ (Or.inl ⟨by rfl,fun w9=>?_⟩) ?_;rotate_left 1;go_simp;with_reducible rfl) | (refine wpY_l ?_ ((Below.refl _ _).drew) (Or.inl ⟨by rfl,fun w9 hw9=>?_⟩) ?_;rotate_left 1;obtain ⟨hc9,hf9⟩:=bcell hw9;go_simp;with_reducible rfl) | refine wpY_w undef (Or.inr ⟨by rfl,rfl⟩) ?_ | refine wpY_l undef ((Below.refl _ _).drew) (Or.inr ⟨by rfl,rfl⟩) ?_);go_frame)
    refine wpY_es (fun K9 hK9=>?_)
    go_simp
    refine (wW9_is ⟨#[121]⟩ _).mono ?_
    rintro e V6 ⟨rfl,hb⟩
    have hb6:Below W3.heap.size W3 V6:=(hb5).trans (hb.mono (hb5).size)
    have Kt:=Lib.hid (Kt.out.new_ hb)
    clear hb
    refine hK9 _ _ (hb6) ?_
    clear hK9 K9
    try go_frame
    refine wpY_es (fun K9 hK9=>?_)
    go_simp
    refine (wN9_is 3 _).mono ?_
    rintro e V7 ⟨rfl,hb⟩
    have hb7:Below W3.heap.size W3 V7:=(hb6).trans (hb.mono (hb6).size)
    have Kt:=Lib.hid (Kt.out.new_ hb)
    clear hb
    refine hK9 _ _ (hb7) ?_
    clear hK9 K9
    try go_frame
    repeat ((first | (refine wpY_w ?_ (Or.inl ⟨by rfl,fun w9=>?_⟩) ?_;rotate_left 1;go_simp;with_reducible rfl) | (refine wpY_l ?_ ((Below.refl _ _).drew) (Or.inl ⟨by rfl,fun w9 hw9=>?_⟩) ?_;rotate_left 1;obtain ⟨hc9,hf9⟩:=bcell hw9;go_simp;with_reducible rfl) | refine wpY_w undef (Or.inr ⟨by rfl,rfl⟩) ?_ | refine wpY_l undef ((Below.refl _ _).drew) (Or.inr ⟨by rfl,rfl⟩) ?_);go_frame)
    refine wpY_es (fun K9 hK9=>?_)
    go_simp
    obtain ⟨V8,hV⟩ : ∃V,V=(V7.alloc (.cells #[.int .i64 1,.string ⟨#[83]⟩,.int .i64 1,.int .i64 3,.string ⟨#[120]⟩,.int .i64 0,.int .i64 1,.string ⟨#[65]⟩,.int .i64 1,.bool false,.bool true,.int .i64 1,.int .i64 1,.int .i64 0,.int .i64 1,.string ⟨#[65]⟩,.int .i64 1,.int .i64 3,.string ⟨#[121]⟩,.int .i64 0,.int .i64 2,.string ⟨#[]⟩,.int .i64 3,.bool false,.bool false,.int .i64 2,.int .i64 1,.int .i64 0] 57)):=⟨_,rfl⟩
    obtain ⟨gr,hg⟩ : ∃g,g=V7.heap.size:=⟨_,rfl⟩
    have hb:Below V7.heap.size V7 V8:=by rw [hV];exact (Below.refl _ _).alloc (Nat.le_refl _) _
    have hb8:Below W3.heap.size W3 V8:=(hb7).trans (hb.mono (hb7).size)
    have Kr:=Lib.hid (show Blk V8 gr 57 #[.int .i64 1,.string ⟨#[83]⟩,.int .i64 1,.int .i64 3,.string ⟨#[120]⟩,.int .i64 0,.int .i64 1,.string ⟨#[65]⟩,.int .i64 1,.bool false,.bool true,.int .i64 1,.int .i64 1,.int .i64 0,.int .i64 1,.string ⟨#[65]⟩,.int .i64 1,.int .i64 3,.string ⟨#[121]⟩,.int .i64 0,.int .i64 2,.string ⟨#[]⟩,.int .i64 3,.bool false,.bool false,.int .i64 2,.int .i64 1,.int .i64 0] by rw [hV,hg];exact Blk.new _ _ _)
    have Gr:=Lib.hid (show W3.heap.size≤gr by rw [hg];exact (hb7).size)
    have Kt:=Lib.hid (Kt.out.new_ hb)
    rw [← hV,← hg]
    clear hV hg hb
    refine hK9 _ _ (hb8) ?_
    clear hK9 K9
    try go_frame
    repeat ((first | (refine wpY_w ?_ (Or.inl ⟨by rfl,fun w9=>?_⟩) ?_;rotate_left 1;go_simp;with_reducible rfl) | (refine wpY_l ?_ ((Below.refl _ _).drew) (Or.inl ⟨by rfl,fun w9 hw9=>?_⟩) ?_;rotate_left 1;obtain ⟨hc9,hf9⟩:=bcell hw9;go_simp;with_reducible rfl) | refine wpY_w undef (Or.inr ⟨by rfl,rfl⟩) ?_ | refine wpY_l undef ((Below.refl _ _).drew) (Or.inr ⟨by rfl,rfl⟩) ?_);go_frame)
    refine wpY_es (fun K9 hK9=>?_)
    have hTH:=Kt.out.there
    refine step_store_el rfl 38 _ _ rfl gt 0 #[Value.slice (some ⟨gr,0,none⟩) 2 2,Value.slice none 0 0,Value.slice none 0 0,Value.slice none 0 0,Value.int IntKind.i64 0,Value.int IntKind.i64 0] rfl rfl (show _ from hTH) (by kernel_rfl) (by kernel_rfl) ?_
    refine hK9 _ _ (Below.setCells' _ _ (hb8) Gt.out) ?_
    clear hK9 K9
    try go_frame
    refine wpY_nil ?_
    simp only [OnlyN_normal]
    refine hKK _ _ ?_
    clear hKK KK
    go_wp2_with fail
    go_meet
    case rel=>exact ⟨gt,gr,rfl,Kt.out.setAllD rfl,Blk.farCells _ _ Kr.out (Kr.out.ne_ Kt.out (by decide)),Below.setCells' _ _ (hb8) Gt.out⟩
 case rest=>
  obtain ⟨bt,g,rfl,Kt,Kr,hbc⟩:=hcut
  have HR:=Lib.hid (rowRd_blk (cells:=TraceT.cells) (l:=[⟨e22a,1,0⟩,⟨e22b,1,0⟩]) (n:=2) Kr rfl TraceT.cells_length (by unfold maxLen;decide) rfl)
  have Ks:=Lib.hid (Ks.out.new_ hbc)
  have Ka:=Lib.hid (Ka.out.new_ hbc)
  have HB:=Lib.hid (HB.out.trans (hbc.mono HB.out.size))
  have KT:=Lib.hid Kt
  clear Kt Kr hbc s0 s1 s2 a0 a1 a2 sz az
  obtain ⟨s0,s1,s2⟩:=Ks.out.c3
  obtain ⟨a0,a1,a2⟩:=Ka.out.c3
  obtain ⟨t0,t1,t2,t3,t4,t5⟩:=KT.out.c6
  have sz:=Ks.out.lt
  have az:=Ka.out.lt
  have tz:=KT.out.lt
  obtain ⟨W3,hW3⟩ : ∃W,W=wc:=⟨_,rfl⟩
  rw [← hW3] at HR HB s0 s1 s2 a0 a1 a2 sz az tz t0 t1 t2 t3 t4 t5 ⊢
  clear Ks Ka KT HGB HB1 HB2 hW3
  go_upto_region 3 with fail
  go_cut [4,5,6] from 22 (fun p t k wc=>∃bp A1 c1 A2 c2 A3 c3,p = .pointer (some ⟨bp,0,none⟩)∧t = .slice A3 2 c3∧k = .bool true∧Blk wc bp 45 #[.string ⟨#[99]⟩,.slice A1 2 c1,.slice A2 1 c2]∧RowR (repCondT 1) (fun k=>k≠bp) wc A1 c1 [c22a,c22b]∧RowR repActT (fun k=>k≠bp) wc A2 c2 [a22]∧Below W3.heap.size W3 wc)
  case first=>
   refine wp_region_Pl (fun w9=>Below W3.heap.size W3 w9) [0,1,3,4,7,8,9,10,13,14] [0,1,3] (.fork [(0,1),(1,1),(3,1)] 2 (.fork [(4,0)] 5 (.fork [] 6 (.fin [(7,0),(8,0),(9,0),(10,0),(11,2),(12,2),(13,0),(14,0)]) 11 (.fin [(6,2),(7,0),(8,0),(9,0),(10,0),(12,2),(13,0),(14,0)])) 11 (.fin [(5,2),(6,2),(7,0),(8,0),(9,0),(10,0),(12,2),(13,0),(14,0)])) 11 (.fin [(2,2),(4,0),(5,2),(6,2),(7,0),(8,0),(9,0),(10,0),(12,2),(13,0),(14,0)])) (by kernel_rfl) (by kernel_rfl) (by kernel_rfl) (fun KK hKK=>?_)
   simp only [wpPl,beside,List.filterMap_cons,List.filterMap_nil,List.getElem?_toArray,List.getElem?_cons_zero,List.getElem?_cons_succ,Option.map_some]
   repeat ((first | (refine wpY_w ?_ (Or.inl ⟨by rfl,fun w9=>?_⟩) ?_;rotate_left 1;go_simp;with_reducible rfl) | (refine wpY_l ?_ ((Below.refl _ _).drew) (Or.inl ⟨by rfl,fun w9 hw9=>?_⟩) ?_;rotate_left 1;obtain ⟨hc9,hf9⟩:=bcell hw9;go_simp;with_reducible rfl) | refine wpY_w undef (Or.inr ⟨by rfl,rfl⟩) ?_ | refine wpY_l undef ((Below.refl _ _).drew) (Or.inr ⟨by rfl,rfl⟩) ?_);go_frame)
   refine wpY_nil ⟨?_,?_⟩
   · refine wpOp_cs rfl (fun K9 hK9=>?_)
     go_simp
     refine (wW9_is ⟨#[122]⟩ _).mono ?_
     rintro e V4 ⟨rfl,hb⟩
     have hb4:Below W3.heap.size W3 V4:=((Below.refl W3.heap.size W3).drew).trans (hb.mono ((Below.refl W3.heap.size W3).drew).size)
     clear hb
     refine hK9 _ _ (fun _=>hb4) ?_
     clear hK9 K9
     try go_frame
     try simp only [beside,List.filterMap_nil]
     repeat ((first | (refine wpY_w ?_ (Or.inl ⟨by rfl,fun w9=>?_⟩) ?_;rotate_left 1;go_simp;with_reducible rfl) | (refine wpY_l ?_ ((Below.refl _ _).drew) (Or.inl ⟨by rfl,fun w9 hw9=>?_⟩) ?_;rotate_left 1;obtain ⟨hc9,hf9⟩:=bcell hw9;go_simp;with_reducible rfl) | refine wpY_w undef (Or.inr ⟨by rfl,rfl⟩) ?_ | refine wpY_l undef ((Below.refl _ _).drew) (Or.inr ⟨by rfl,rfl⟩) ?_);go_frame)
     refine wpY_nil ⟨?_,?_⟩
     · refine wpOp_cs rfl (fun K9 hK9=>?_)
       go_simp
       obtain ⟨V5,hV⟩ : ∃V,V=(V4.alloc (.cells #[.int .i64 1,.string ⟨#[65]⟩,.int .i64 1,.int .i64 3,.string ⟨#[122]⟩,.int .i64 0,.int .i64 1,.string ⟨#[83]⟩,.int .i64 1,.int .i64 0,.string ⟨#[]⟩,.int .i64 0,.int .i64 1,.bool false,.int .i64 2,.int .i64 1] 68)):=⟨_,rfl⟩
       obtain ⟨gp,hg⟩ : ∃g,g=V4.heap.size:=⟨_,rfl⟩
       have hb:Below V4.heap.size V4 V5:=by rw [hV];exact (Below.refl _ _).alloc (Nat.le_refl _) _
       have hb5:Below W3.heap.size W3 V5:=(hb4).trans (hb.mono (hb4).size)
       have Kp:=Lib.hid (show Blk V5 gp 68 #[.int .i64 1,.string ⟨#[65]⟩,.int .i64 1,.int .i64 3,.string ⟨#[122]⟩,.int .i64 0,.int .i64 1,.string ⟨#[83]⟩,.int .i64 1,.int .i64 0,.string ⟨#[]⟩,.int .i64 0,.int .i64 1,.bool false,.int .i64 2,.int .i64 1] by rw [hV,hg];exact Blk.new _ _ _)
       have Gp:=Lib.hid (show W3.heap.size≤gp by rw [hg];exact (hb4).size)
       rw [← hV,← hg]
       clear hV hg hb
       refine hK9 _ _ (fun _=>hb5) ?_
       clear hK9 K9
       try go_frame
       try simp only [beside,List.filterMap_nil]
       refine wpY_nil ⟨?_,?_⟩
       · refine wpOp_cs rfl (fun K9 hK9=>?_)
         go_simp
         have HC:=Lib.hid (prod_is 0 ⟨#[99]⟩ [⟨e22a,1,0⟩,⟨e22b,1,0⟩] (some ⟨g,0,none⟩) 2 none 0 none 0 [] none 0 0 0 [p22] (some ⟨gp,0,none⟩) 1 V5 (no22_is _) (HR.out.new_ (hb5)) (RowRd.nil _ _ _) (rowRd_blk (cells:=PrefT.cells) (l:=[p22]) (n:=1) Kp.out rfl PrefT.cells_length (by unfold maxLen;decide) rfl) (by decide) (by decide) (by decide))
         unfold ProdTo at HC
         rw [show ([⟨e22a,1,0⟩,⟨e22b,1,0⟩]:List TraceT).map TraceT.elem = [e22a,e22b] from rfl,wk22_prod] at HC
         refine HC.out.mono ?_
         rintro e V6 ⟨hb,A1,c1,A2,c2,A3,c3,rfl,hr1,hr2,hr3,hr4⟩
         have HR1:=Lib.hid (show RowR (repCondT 1) (fun k=>V5.heap.size≤k∧k<V6.heap.size) V6 A1 c1 [c22a,c22b] from hr1)
         have HR2:=Lib.hid (show RowR repActT (fun k=>V5.heap.size≤k∧k<V6.heap.size) V6 A2 c2 [a22] from hr2)
         have hb6:Below W3.heap.size W3 V6:=(hb5).trans (hb.mono (hb5).size)
         have Kp:=Lib.hid (Kp.out.new_ hb)
         clear HC hb hr1 hr2 hr3 hr4
         refine hK9 _ _ (fun _=>hb6) ?_
         clear hK9 K9
         try go_frame
         try simp only [beside,List.filterMap_nil]
         repeat ((first | (refine wpY_w ?_ (Or.inl ⟨by rfl,fun w9=>?_⟩) ?_;rotate_left 1;go_simp;with_reducible rfl) | (refine wpY_l ?_ ((Below.refl _ _).drew) (Or.inl ⟨by rfl,fun w9 hw9=>?_⟩) ?_;rotate_left 1;obtain ⟨hc9,hf9⟩:=bcell hw9;go_simp;with_reducible rfl) | refine wpY_w undef (Or.inr ⟨by rfl,rfl⟩) ?_ | refine wpY_l undef ((Below.refl _ _).drew) (Or.inr ⟨by rfl,rfl⟩) ?_);go_frame)
         refine wpY_es (fun K9 hK9=>?_)
         go_simp
         obtain ⟨V7,hV⟩ : ∃V,V=(V6.alloc (.cells #[.string ⟨#[]⟩,.slice none 0 0,.slice none 0 0] 45)):=⟨_,rfl⟩
         obtain ⟨gt,hg⟩ : ∃g,g=V6.heap.size:=⟨_,rfl⟩
         have hb:Below V6.heap.size V6 V7:=by rw [hV];exact (Below.refl _ _).alloc (Nat.le_refl _) _
         have hb7:Below W3.heap.size W3 V7:=(hb6).trans (hb.mono (hb6).size)
         have Kt:=Lib.hid (show Blk V7 gt 45 #[.string ⟨#[]⟩,.slice none 0 0,.slice none 0 0] by rw [hV,hg];exact Blk.new _ _ _)
         have Gt:=Lib.hid (show W3.heap.size≤gt by rw [hg];exact (hb6).size)
         have Kp:=Lib.hid (Kp.out.new_ hb)
         have Lt:=Lib.hid (show gt<V7.heap.size from Kt.out.lt)
         have HQ1:=Lib.hid ((HR1.out.new_ hb).weaken (D':=fun k=>k≠gt) (fun k hk=>by have:=hk.2;omega))
         have HQ2:=Lib.hid ((HR2.out.new_ hb).weaken (D':=fun k=>k≠gt) (fun k hk=>by have:=hk.2;omega))
         rw [← hV,← hg]
         clear hV hg hb
         refine hK9 _ _ (hb7) ?_
         clear hK9 K9
         try go_frame
         refine wpY_es (fun K9 hK9=>?_)
         have hTH:=Kt.out.there
         refine step_store_el rfl 45 _ _ rfl gt 0 #[Value.string ⟨#[99]⟩,Value.slice A1 2 c1,Value.slice A2 1 c2] rfl rfl (show _ from hTH) (by kernel_rfl) (by kernel_rfl) ?_
         refine hK9 _ _ (Below.setCells' _ _ (hb7) Gt.out) ?_
         clear hK9 K9
         try go_frame
         repeat ((first | (refine wpY_w ?_ (Or.inl ⟨by rfl,fun w9=>?_⟩) ?_;rotate_left 1;go_simp;with_reducible rfl) | (refine wpY_l ?_ ((Below.refl _ _).drew) (Or.inl ⟨by rfl,fun w9 hw9=>?_⟩) ?_;rotate_left 1;obtain ⟨hc9,hf9⟩:=bcell hw9;go_simp;with_reducible rfl) | refine wpY_w undef (Or.inr ⟨by rfl,rfl⟩) ?_ | refine wpY_l undef ((Below.refl _ _).drew) (Or.inr ⟨by rfl,rfl⟩) ?_);go_frame)
         refine wpY_nil ?_
         simp only [OnlyN_normal]
         refine hKK _ _ ?_
         clear hKK KK
         go_wp2_with fail
         go_meet
         case rel=>exact ⟨gt,A1,c1,A2,c2,A3,c3,rfl,rfl,rfl,Kt.out.setAllD rfl,HQ1.out.fr (M:=fun k=>k=gt) (Fr.setCells _ _ (Fr.refl _ _) (.inl rfl)) (fun _ h=>h),HQ2.out.fr (M:=fun k=>k=gt) (Fr.setCells _ _ (Fr.refl _ _) (.inl rfl)) (fun _ h=>h),Below.setCells' _ _ (hb7) Gt.out⟩
       · refine wpOp_cs rfl (fun K9 hK9=>?_)
         go_simp
         obtain ⟨V6,hV⟩ : ∃V,V=(V5.alloc (.cells #[.string ⟨#[]⟩,.slice none 0 0,.slice none 0 0] 45)):=⟨_,rfl⟩
         obtain ⟨gt,hg⟩ : ∃g,g=V5.heap.size:=⟨_,rfl⟩
         have hb:Below V5.heap.size V5 V6:=by rw [hV];exact (Below.refl _ _).alloc (Nat.le_refl _) _
         have hb6:Below W3.heap.size W3 V6:=(hb5).trans (hb.mono (hb5).size)
         have Kt:=Lib.hid (show Blk V6 gt 45 #[.string ⟨#[]⟩,.slice none 0 0,.slice none 0 0] by rw [hV,hg];exact Blk.new _ _ _)
         have Gt:=Lib.hid (show W3.heap.size≤gt by rw [hg];exact (hb5).size)
         have Kp:=Lib.hid (Kp.out.new_ hb)
         have Lt:=Lib.hid (show gt<V6.heap.size from Kt.out.lt)
         rw [← hV,← hg]
         clear hV hg hb
         refine hK9 _ _ (fun _=>hb6) ?_
         clear hK9 K9
         try go_frame
         try simp only [beside,List.filterMap_nil]
         refine wpY_es (fun K9 hK9=>?_)
         go_simp
         have HC:=Lib.hid (prod_is 0 ⟨#[99]⟩ [⟨e22a,1,0⟩,⟨e22b,1,0⟩] (some ⟨g,0,none⟩) 2 none 0 none 0 [] none 0 0 0 [p22] (some ⟨gp,0,none⟩) 1 V6 (no22_is _) (HR.out.new_ (hb6)) (RowRd.nil _ _ _) (rowRd_blk (cells:=PrefT.cells) (l:=[p22]) (n:=1) Kp.out rfl PrefT.cells_length (by unfold maxLen;decide) rfl) (by decide) (by decide) (by decide))
         unfold ProdTo at HC
         rw [show ([⟨e22a,1,0⟩,⟨e22b,1,0⟩]:List TraceT).map TraceT.elem = [e22a,e22b] from rfl,wk22_prod] at HC
         refine HC.out.mono ?_
         rintro e V7 ⟨hb,A1,c1,A2,c2,A3,c3,rfl,hr1,hr2,hr3,hr4⟩
         have HR1:=Lib.hid (show RowR (repCondT 1) (fun k=>V6.heap.size≤k∧k<V7.heap.size) V7 A1 c1 [c22a,c22b] from hr1)
         have HR2:=Lib.hid (show RowR repActT (fun k=>V6.heap.size≤k∧k<V7.heap.size) V7 A2 c2 [a22] from hr2)
         have hb7:Below W3.heap.size W3 V7:=(hb6).trans (hb.mono (hb6).size)
         have Kp:=Lib.hid (Kp.out.new_ hb)
         have Kt:=Lib.hid (Kt.out.new_ hb)
         have hg1:=Lt.out
         have HQ1:=Lib.hid (HR1.out.weaken (D':=fun k=>k≠gt) (fun k hk=>by have:=hk.1;omega))
         have HQ2:=Lib.hid (HR2.out.weaken (D':=fun k=>k≠gt) (fun k hk=>by have:=hk.1;omega))
         clear hg1
         clear HC hb hr1 hr2 hr3 hr4
         refine hK9 _ _ (hb7) ?_
         clear hK9 K9
         try go_frame
         repeat ((first | (refine wpY_w ?_ (Or.inl ⟨by rfl,fun w9=>?_⟩) ?_;rotate_left 1;go_simp;with_reducible rfl) | (refine wpY_l ?_ ((Below.refl _ _).drew) (Or.inl ⟨by rfl,fun w9 hw9=>?_⟩) ?_;rotate_left 1;obtain ⟨hc9,hf9⟩:=bcell hw9;go_simp;with_reducible rfl) | refine wpY_w undef (Or.inr ⟨by rfl,rfl⟩) ?_ | refine wpY_l undef ((Below.refl _ _).drew) (Or.inr ⟨by rfl,rfl⟩) ?_);go_frame)
         refine wpY_es (fun K9 hK9=>?_)
         have hTH:=Kt.out.there
         refine step_store_el rfl 45 _ _ rfl gt 0 #[Value.string ⟨#[99]⟩,Value.slice A1 2 c1,Value.slice A2 1 c2] rfl rfl (show _ from hTH) (by kernel_rfl) (by kernel_rfl) ?_
         refine hK9 _ _ (Below.setCells' _ _ (hb7) Gt.out) ?_
         clear hK9 K9
         try go_frame
         repeat ((first | (refine wpY_w ?_ (Or.inl ⟨by rfl,fun w9=>?_⟩) ?_;rotate_left 1;go_simp;with_reducible rfl) | (refine wpY_l ?_ ((Below.refl _ _).drew) (Or.inl ⟨by rfl,fun w9 hw9=>?_⟩) ?_;rotate_left 1;obtain ⟨hc9,hf9⟩:=bcell hw9;go_simp;with_reducible rfl) | refine wpY_w undef (Or.inr ⟨by rfl,rfl⟩) ?_ | refine wpY_l undef ((Below.refl _ _).drew) (Or.inr ⟨by rfl,rfl⟩) ?_);go_frame)
         refine wpY_nil ?_
         simp only [OnlyN_normal]
         refine hKK _ _ ?_
         clear hKK KK
         go_wp2_with fail
         go_meet
         case rel=>exact ⟨gt,A1,c1,A2,c2,A3,c3,rfl,rfl,rfl,Kt.out.setAllD rfl,HQ1.out.fr (M:=fun k=>k=gt) (Fr.setCells _ _ (Fr.refl _ _) (.inl rfl)) (fun _ h=>h),HQ2.out.fr (M:=fun k=>k=gt) (Fr.setCells _ _ (Fr.refl _ _) (.inl rfl)) (fun _ h=>h),Below.setCells' _ _ (hb7) Gt.out⟩
     · refine wpOp_cs rfl (fun K9 hK9=>?_)
       go_simp
       obtain ⟨V5,hV⟩ : ∃V,V=(V4.alloc (.cells #[.string ⟨#[]⟩,.slice none 0 0,.slice none 0 0] 45)):=⟨_,rfl⟩
       obtain ⟨gt,hg⟩ : ∃g,g=V4.heap.size:=⟨_,rfl⟩
       have hb:Below V4.heap.size V4 V5:=by rw [hV];exact (Below.refl _ _).alloc (Nat.le_refl _) _
       have hb5:Below W3.heap.size W3 V5:=(hb4).trans (hb.mono (hb4).size)
       have Kt:=Lib.hid (show Blk V5 gt 45 #[.string ⟨#[]⟩,.slice none 0 0,.slice none 0 0] by rw [hV,hg];exact Blk.new _ _ _)
       have Gt:=Lib.hid (show W3.heap.size≤gt by rw [hg];exact (hb4).size)
       have Lt:=Lib.hid (show gt<V5.heap.size from Kt.out.lt)
       rw [← hV,← hg]
       clear hV hg hb
       refine hK9 _ _ (fun _=>hb5) ?_
       clear hK9 K9
       try go_frame
       try simp only [beside,List.filterMap_nil]
       refine wpY_es (fun K9 hK9=>?_)
       go_simp
       obtain ⟨V6,hV⟩ : ∃V,V=(V5.alloc (.cells #[.int .i64 1,.string ⟨#[65]⟩,.int .i64 1,.int .i64 3,.string ⟨#[122]⟩,.int .i64 0,.int .i64 1,.string ⟨#[83]⟩,.int .i64 1,.int .i64 0,.string ⟨#[]⟩,.int .i64 0,.int .i64 1,.bool false,.int .i64 2,.int .i64 1] 68)):=⟨_,rfl⟩
       obtain ⟨gp,hg⟩ : ∃g,g=V5.heap.size:=⟨_,rfl⟩
       have hb:Below V5.heap.size V5 V6:=by rw [hV];exact (Below.refl _ _).alloc (Nat.le_refl _) _
       have hb6:Below W3.heap.size W3 V6:=(hb5).trans (hb.mono (hb5).size)
       have Kp:=Lib.hid (show Blk V6 gp 68 #[.int .i64 1,.string ⟨#[65]⟩,.int .i64 1,.int .i64 3,.string ⟨#[122]⟩,.int .i64 0,.int .i64 1,.string ⟨#[83]⟩,.int .i64 1,.int .i64 0,.string ⟨#[]⟩,.int .i64 0,.int .i64 1,.bool false,.int .i64 2,.int .i64 1] by rw [hV,hg];exact Blk.new _ _ _)
       have Gp:=Lib.hid (show W3.heap.size≤gp by rw [hg];exact (hb5).size)
       have Kt:=Lib.hid (Kt.out.new_ hb)
       have Lt:=Lib.hid (Nat.lt_of_lt_of_le Lt.out hb.size)
       rw [← hV,← hg]
       clear hV hg hb
       refine hK9 _ _ (hb6) ?_
       clear hK9 K9
       try go_frame
       refine wpY_es (fun K9 hK9=>?_)
       go_simp
       have HC:=Lib.hid (prod_is 0 ⟨#[99]⟩ [⟨e22a,1,0⟩,⟨e22b,1,0⟩] (some ⟨g,0,none⟩) 2 none 0 none 0 [] none 0 0 0 [p22] (some ⟨gp,0,none⟩) 1 V6 (no22_is _) (HR.out.new_ (hb6)) (RowRd.nil _ _ _) (rowRd_blk (cells:=PrefT.cells) (l:=[p22]) (n:=1) Kp.out rfl PrefT.cells_length (by unfold maxLen;decide) rfl) (by decide) (by decide) (by decide))
       unfold ProdTo at HC
       rw [show ([⟨e22a,1,0⟩,⟨e22b,1,0⟩]:List TraceT).map TraceT.elem = [e22a,e22b] from rfl,wk22_prod] at HC
       refine HC.out.mono ?_
       rintro e V7 ⟨hb,A1,c1,A2,c2,A3,c3,rfl,hr1,hr2,hr3,hr4⟩
       have HR1:=Lib.hid (show RowR (repCondT 1) (fun k=>V6.heap.size≤k∧k<V7.heap.size) V7 A1 c1 [c22a,c22b] from hr1)
       have HR2:=Lib.hid (show RowR repActT (fun k=>V6.heap.size≤k∧k<V7.heap.size) V7 A2 c2 [a22] from hr2)
       have hb7:Below W3.heap.size W3 V7:=(hb6).trans (hb.mono (hb6).size)
       have Kp:=Lib.hid (Kp.out.new_ hb)
       have Kt:=Lib.hid (Kt.out.new_ hb)
       have hg1:=Lt.out
       have HQ1:=Lib.hid (HR1.out.weaken (D':=fun k=>k≠gt) (fun k hk=>by have:=hk.1;omega))
       have HQ2:=Lib.hid (HR2.out.weaken (D':=fun k=>k≠gt) (fun k hk=>by have:=hk.1;omega))
       clear hg1
       clear HC hb hr1 hr2 hr3 hr4
       refine hK9 _ _ (hb7) ?_
       clear hK9 K9
       try go_frame
       repeat ((first | (refine wpY_w ?_ (Or.inl ⟨by rfl,fun w9=>?_⟩) ?_;rotate_left 1;go_simp;with_reducible rfl) | (refine wpY_l ?_ ((Below.refl _ _).drew) (Or.inl ⟨by rfl,fun w9 hw9=>?_⟩) ?_;rotate_left 1;obtain ⟨hc9,hf9⟩:=bcell hw9;go_simp;with_reducible rfl) | refine wpY_w undef (Or.inr ⟨by rfl,rfl⟩) ?_ | refine wpY_l undef ((Below.refl _ _).drew) (Or.inr ⟨by rfl,rfl⟩) ?_);go_frame)
       refine wpY_es (fun K9 hK9=>?_)
       have hTH:=Kt.out.there
       refine step_store_el rfl 45 _ _ rfl gt 0 #[Value.string ⟨#[99]⟩,Value.slice A1 2 c1,Value.slice A2 1 c2] rfl rfl (show _ from hTH) (by kernel_rfl) (by kernel_rfl) ?_
       refine hK9 _ _ (Below.setCells' _ _ (hb7) Gt.out) ?_
       clear hK9 K9
       try go_frame
       repeat ((first | (refine wpY_w ?_ (Or.inl ⟨by rfl,fun w9=>?_⟩) ?_;rotate_left 1;go_simp;with_reducible rfl) | (refine wpY_l ?_ ((Below.refl _ _).drew) (Or.inl ⟨by rfl,fun w9 hw9=>?_⟩) ?_;rotate_left 1;obtain ⟨hc9,hf9⟩:=bcell hw9;go_simp;with_reducible rfl) | refine wpY_w undef (Or.inr ⟨by rfl,rfl⟩) ?_ | refine wpY_l undef ((Below.refl _ _).drew) (Or.inr ⟨by rfl,rfl⟩) ?_);go_frame)
       refine wpY_nil ?_
       simp only [OnlyN_normal]
       refine hKK _ _ ?_
       clear hKK KK
       go_wp2_with fail
       go_meet
       case rel=>exact ⟨gt,A1,c1,A2,c2,A3,c3,rfl,rfl,rfl,Kt.out.setAllD rfl,HQ1.out.fr (M:=fun k=>k=gt) (Fr.setCells _ _ (Fr.refl _ _) (.inl rfl)) (fun _ h=>h),HQ2.out.fr (M:=fun k=>k=gt) (Fr.setCells _ _ (Fr.refl _ _) (.inl rfl)) (fun _ h=>h),Below.setCells' _ _ (hb7) Gt.out⟩
   · refine wpOp_cs rfl (fun K9 hK9=>?_)
     go_simp
     obtain ⟨V4,hV⟩ : ∃V,V=(W3.alloc (.cells #[.string ⟨#[]⟩,.slice none 0 0,.slice none 0 0] 45)).drew:=⟨_,rfl⟩
     obtain ⟨gt,hg⟩ : ∃g,g=W3.heap.size:=⟨_,rfl⟩
     have hb:Below W3.heap.size W3 V4:=by rw [hV];exact ((Below.refl _ _).alloc (Nat.le_refl _) _).drew
     have hb4:Below W3.heap.size W3 V4:=hb
     have Kt:=Lib.hid (show Blk V4 gt 45 #[.string ⟨#[]⟩,.slice none 0 0,.slice none 0 0] by rw [hV,hg];exact Blk.new _ _ _)
     have Gt:=Lib.hid (show W3.heap.size≤gt by rw [hg];exact Nat.le_refl _)
     have Lt:=Lib.hid (show gt<V4.heap.size from Kt.out.lt)
     rw [← hV,← hg]
     clear hV hg hb
     refine hK9 _ _ (fun _=>hb4) ?_
     clear hK9 K9
     try go_frame
     try simp only [beside,List.filterMap_nil]
     refine wpY_es (fun K9 hK9=>?_)
     go_simp
     refine (wW9_is ⟨#[122]⟩ _).mono ?_
     rintro e V5 ⟨rfl,hb⟩
     have hb5:Below W3.heap.size W3 V5:=(hb4).trans (hb.mono (hb4).size)
     have Kt:=Lib.hid (Kt.out.new_ hb)
     have Lt:=Lib.hid (Nat.lt_of_lt_of_le Lt.out hb.size)
     clear hb
     refine hK9 _ _ (hb5) ?_
     clear hK9 K9
     try go_frame
     repeat ((first | (refine wpY_w ?_ (Or.inl ⟨by rfl,fun w9=>?_⟩) ?_;rotate_left 1;go_simp;with_reducible rfl) | (refine wpY_l ?_ ((Below.refl _ _).drew) (Or.inl ⟨by rfl,fun w9 hw9=>?_⟩) ?_;rotate_left 1;obtain ⟨hc9,hf9⟩:=bcell hw9;go_simp;with_reducible rfl) | refine wpY_w undef (Or.inr ⟨by rfl,rfl⟩) ?_ | refine wpY_l undef ((Below.refl _ _).drew) (Or.inr ⟨by rfl,rfl⟩) ?_);go_frame)
     refine wpY_es (fun K9 hK9=>?_)
     go_simp
     obtain ⟨V6,hV⟩ : ∃V,V=(V5.alloc (.cells #[.int .i64 1,.string ⟨#[65]⟩,.int .i64 1,.int .i64 3,.string ⟨#[122]⟩,.int .i64 0,.int .i64 1,.string ⟨#[83]⟩,.int .i64 1,.int .i64 0,.string ⟨#[]⟩,.int .i64 0,.int .i64 1,.bool false,.int .i64 2,.int .i64 1] 68)):=⟨_,rfl⟩
     obtain ⟨gp,hg⟩ : ∃g,g=V5.heap.size:=⟨_,rfl⟩
     have hb:Below V5.heap.size V5 V6:=by rw [hV];exact (Below.refl _ _).alloc (Nat.le_refl _) _
     have hb6:Below W3.heap.size W3 V6:=(hb5).trans (hb.mono (hb5).size)
     have Kp:=Lib.hid (show Blk V6 gp 68 #[.int .i64 1,.string ⟨#[65]⟩,.int .i64 1,.int .i64 3,.string ⟨#[122]⟩,.int .i64 0,.int .i64 1,.string ⟨#[83]⟩,.int .i64 1,.int .i64 0,.string ⟨#[]⟩,.int .i64 0,.int .i64 1,.bool false,.int .i64 2,.int .i64 1] by rw [hV,hg];exact Blk.new _ _ _)
     have Gp:=Lib.hid (show W3.heap.size≤gp by rw [hg];exact (hb5).size)
     have Kt:=Lib.hid (Kt.out.new_ hb)
     have Lt:=Lib.hid (Nat.lt_of_lt_of_le Lt.out hb.size)
     rw [← hV,← hg]
     clear hV hg hb
     refine hK9 _ _ (hb6) ?_
     clear hK9 K9
     try go_frame
     refine wpY_es (fun K9 hK9=>?_)
     go_simp
     have HC:=Lib.hid (prod_is 0 ⟨#[99]⟩ [⟨e22a,1,0⟩,⟨e22b,1,0⟩] (some ⟨g,0,none⟩) 2 none 0 none 0 [] none 0 0 0 [p22] (some ⟨gp,0,none⟩) 1 V6 (no22_is _) (HR.out.new_ (hb6)) (RowRd.nil _ _ _) (rowRd_blk (cells:=PrefT.cells) (l:=[p22]) (n:=1) Kp.out rfl PrefT.cells_length (by unfold maxLen;decide) rfl) (by decide) (by decide) (by decide))
     unfold ProdTo at HC
     rw [show ([⟨e22a,1,0⟩,⟨e22b,1,0⟩]:List TraceT).map TraceT.elem = [e22a,e22b] from rfl,wk22_prod] at HC
     refine HC.out.mono ?_
     rintro e V7 ⟨hb,A1,c1,A2,c2,A3,c3,rfl,hr1,hr2,hr3,hr4⟩
     have HR1:=Lib.hid (show RowR (repCondT 1) (fun k=>V6.heap.size≤k∧k<V7.heap.size) V7 A1 c1 [c22a,c22b] from hr1)
     have HR2:=Lib.hid (show RowR repActT (fun k=>V6.heap.size≤k∧k<V7.heap.size) V7 A2 c2 [a22] from hr2)
     have hb7:Below W3.heap.size W3 V7:=(hb6).trans (hb.mono (hb6).size)
     have Kp:=Lib.hid (Kp.out.new_ hb)
     have Kt:=Lib.hid (Kt.out.new_ hb)
     have hg1:=Lt.out
     have HQ1:=Lib.hid (HR1.out.weaken (D':=fun k=>k≠gt) (fun k hk=>by have:=hk.1;omega))
     have HQ2:=Lib.hid (HR2.out.weaken (D':=fun k=>k≠gt) (fun k hk=>by have:=hk.1;omega))
     clear hg1
     clear HC hb hr1 hr2 hr3 hr4
     refine hK9 _ _ (hb7) ?_
     clear hK9 K9
     try go_frame
     repeat ((first | (refine wpY_w ?_ (Or.inl ⟨by rfl,fun w9=>?_⟩) ?_;rotate_left 1;go_simp;with_reducible rfl) | (refine wpY_l ?_ ((Below.refl _ _).drew) (Or.inl ⟨by rfl,fun w9 hw9=>?_⟩) ?_;rotate_left 1;obtain ⟨hc9,hf9⟩:=bcell hw9;go_simp;with_reducible rfl) | refine wpY_w undef (Or.inr ⟨by rfl,rfl⟩) ?_ | refine wpY_l undef ((Below.refl _ _).drew) (Or.inr ⟨by rfl,rfl⟩) ?_);go_frame)
     refine wpY_es (fun K9 hK9=>?_)
     have hTH:=Kt.out.there
     refine step_store_el rfl 45 _ _ rfl gt 0 #[Value.string ⟨#[99]⟩,Value.slice A1 2 c1,Value.slice A2 1 c2] rfl rfl (show _ from hTH) (by kernel_rfl) (by kernel_rfl) ?_
     refine hK9 _ _ (Below.setCells' _ _ (hb7) Gt.out) ?_
     clear hK9 K9
     try go_frame
     repeat ((first | (refine wpY_w ?_ (Or.inl ⟨by rfl,fun w9=>?_⟩) ?_;rotate_left 1;go_simp;with_reducible rfl) | (refine wpY_l ?_ ((Below.refl _ _).drew) (Or.inl ⟨by rfl,fun w9 hw9=>?_⟩) ?_;rotate_left 1;obtain ⟨hc9,hf9⟩:=bcell hw9;go_simp;with_reducible rfl) | refine wpY_w undef (Or.inr ⟨by rfl,rfl⟩) ?_ | refine wpY_l undef ((Below.refl _ _).drew) (Or.inr ⟨by rfl,rfl⟩) ?_);go_frame)
     refine wpY_nil ?_
     simp only [OnlyN_normal]
     refine hKK _ _ ?_
     clear hKK KK
     go_wp2_with fail
     go_meet
     case rel=>exact ⟨gt,A1,c1,A2,c2,A3,c3,rfl,rfl,rfl,Kt.out.setAllD rfl,HQ1.out.fr (M:=fun k=>k=gt) (Fr.setCells _ _ (Fr.refl _ _) (.inl rfl)) (fun _ h=>h),HQ2.out.fr (M:=fun k=>k=gt) (Fr.setCells _ _ (Fr.refl _ _) (.inl rfl)) (fun _ h=>h),Below.setCells' _ _ (hb7) Gt.out⟩
  case rest=>
   obtain ⟨bp,A1,c1,A2,c2,A3,c3,rfl,rfl,rfl,Kp,hr1,hr2,hbc⟩:=hcut
   have HF:=Lib.hid (HB.out.trans (hbc.mono HB.out.size))
   clear s0 s1 s2 a0 a1 a2 sz az tz t0 t1 t2 t3 t4 t5 HB
   obtain ⟨p0,p1,p2⟩:=Kp.c3
   have pz:=Kp.lt
   obtain ⟨g1,o1,B1,b1_,B2,b2_,B3,b3_,hA,_,hg,-,-,xx,-,-,-,-,-,-,-⟩:=at_CondT hr1 (k:=0) (by decide)
   obtain ⟨g2,o2,C1,d1_,C2,d2_,C3,d3_,hA2,_,_,-,-,yy,-,-,-,-,-,-,-⟩:=at_CondT hr1 (k:=1) (by decide)
   subst hA
   injection hA2 with hA2
   injection hA2 with e1 e2
   subst e1;subst e2
   obtain ⟨g3,o3,hA3,_,hg3,zz,-⟩:=at_ActT hr2 (k:=0) (by decide)
   subst hA3
   have x2:wc.cell? ⟨g1,o1+2,none⟩=some (.string ⟨#[115,49]⟩):=by simpa [c22a,CondT.id] using xx
   have y2:wc.cell? ⟨g1,o1+9,none⟩=some (.string ⟨#[97,50]⟩):=by simpa [c22b,CondT.id,Nat.add_assoc] using yy
   have z0:wc.cell? ⟨g3,o3,none⟩=some (.string ⟨#[97,50]⟩):=by simpa [a22] using zz
   have q1:2≤c1:=hr1.1
   have q2:1≤c2:=hr2.1
   clear hr1 hr2 hbc Kp xx yy zz
   go_wp2_with fail
   go_ret
   exact ⟨rfl,HF.out⟩
end Go.Proofs.YtldndkngpdfpfaaGreat
namespace Go.Proofs.YtldndkngpdfpfaaGreat
open Go.RowKit Go.Shelf
attribute [local go_sem] Oper.semAt_some
set_option linter.unusedSimpArgs false
set_option maxRecDepth 100000 in
set_option maxHeartbeats 2000000 in
theorem rnumberL_is (k:Nat) (hn:k<9223372036854775808) (w:World):Calls Tryz.prog 35 #[.int .i64 k] w fun e w'=>e = .returned (.string (decB k))∧Below w.heap.size w w':=by
 have t1:decide ((k:Int)<0)=false:=by simp
 go_enter Tryz.func35,Tryz.ntmps35
 go_wp2_with fail
 refine (rdigitsL_is k hn _).mono ?_
 rintro e w1 ⟨rfl,hb1⟩
 have HB:=Lib.hid hb1
 clear hb1
 go_wp2_with fail
 go_ret
 exact ⟨rfl,HB.out⟩
end Go.Proofs.YtldndkngpdfpfaaGreat
namespace Go.Proofs.YtldndkngpdfpfaaGreat
def bSym (k:Nat):Sym:=⟨1,⟨#[66]⟩,k⟩
def oldE:Elem:=⟨sSym,wSym 120,⟨2,⟨#[]⟩,1⟩,false,true,1⟩
def prefO (k:Bool) (i:Nat):PrefT:=if k=true then ⟨sSym,wSym 121,⟨2,⟨#[]⟩,i⟩,bSym (i+1),8,false,2,1⟩ else ⟨sSym,wSym 121,bSym (i+1),symZ,1,false,2,1⟩
def prefsO (k:Bool) (n:Nat):List PrefT:=(List.range n).map (prefO k)
def oldC:CondT:=.mk 1 true ⟨#[115,49]⟩ [⟨1,⟨#[]⟩,wSym 120,[]⟩] [⟨1,⟨#[]⟩,⟨2,⟨#[]⟩,1⟩,[]⟩] false []
theorem olds_order:orderV [oldE]=some ([oldE],[sSym]):=by kernel_rfl
theorem olds_conds : [oldE].map (posV [sSym]) = [oldC]:=by kernel_rfl
theorem olds_no:((List.range 8).all fun j=>[true,false].all fun k=>(actsV3 (fun x=>decide (x=bSym (j+1))) (prefsO k (j+1)) [sSym] []).isNone)=true:=by kernel_rfl
def goodO (j:Nat) (k:Bool):Bool:=match actsV3 (fun _=>false) (prefsO k (j+1)) [sSym] [] with
 | none=>false
 | some (acts,_)=>decide (acts.length=j+1) && (decide ((shapeP 1 ⟨⟨#[99]⟩,[oldC],acts⟩).2=0) && ((acts.findIdx? (actV (oneK ([],[]) oldC).2)).isNone && (List.range (j+1)).all fun i=>match acts[i]? with
  | none=>false
  | some a=>decide ((if k=true then a.other.var else a.value.a.var)=⟨#[98,50+UInt8.ofNat i]⟩)))
theorem olds_yes:((List.range 8).all fun j=>[true,false].all fun k=>goodO j k)=true:=by kernel_rfl
theorem olds_prodW (old:Sym→Bool) (l:List PrefT):prodV 1 ⟨#[99]⟩ [oldE] old [] l=prodW 1 ⟨#[99]⟩ [oldC] [1] old [sSym] l:=by
 unfold prodV
 rw [olds_order]
 simp only
 rw [if_neg (by simp),if_neg (by simp),olds_conds]
 rfl
theorem olds_none {j:Nat} (hj:j<8) (k:Bool):prodV 1 ⟨#[99]⟩ [oldE] (fun x=>decide (x=bSym (j+1))) [] (prefsO k (j+1))=none:=by
 rw [olds_prodW]
 have h:=List.all_eq_true.1 olds_no j (List.mem_range.2 hj)
 have h2:=List.all_eq_true.1 h k (by cases k<;>simp)
 unfold prodW
 rw [Option.isNone_iff_eq_none.1 h2]
theorem olds_some {j:Nat} (hj:j<8) (k:Bool) : ∃acts:List ActT,prodV 1 ⟨#[99]⟩ [oldE] (fun _=>false) [] (prefsO k (j+1))=some (⟨⟨#[99]⟩,[oldC],acts⟩,[1])∧acts.length=j+1∧
 ∀(i:Nat) (a:ActT),acts[i]? = some a→(if k=true then a.other.var else a.value.a.var)=⟨#[98,50+UInt8.ofNat i]⟩:=by
 rw [olds_prodW]
 have h:=List.all_eq_true.1 olds_yes j (List.mem_range.2 hj)
 have h2:=List.all_eq_true.1 h k (by cases k<;>simp)
 unfold goodO at h2
 unfold prodW
 cases hc:actsV3 (fun _=>false) (prefsO k (j+1)) [sSym] [] with
 | none=>rw [hc] at h2;cases h2
 | some x=>
   obtain ⟨acts,ns⟩:=x
   rw [hc] at h2
   simp only [Bool.and_eq_true,decide_eq_true_eq] at h2
   obtain ⟨g1,g2,g3,g4⟩:=h2
   refine ⟨acts,?_,g1,fun i a ha=>?_⟩
   · simp only
     rw [if_pos (checkP_V (n:=0) (c:=oldC) (l:=[]) (k1:=(oneK ([],[]) oldC).2) (k2:=(oneK ([],[]) oldC).2) (at_:=1) g2 rfl rfl (by kernel_rfl) (condsK_nilV _ _ _) (Option.isNone_iff_eq_none.1 g3))]
   · have hi:i<acts.length:=(List.getElem?_eq_some_iff.1 ha).1
     have g5:=List.all_eq_true.1 g4 i (List.mem_range.2 (by omega))
     rw [ha] at g5
     simpa using g5
theorem olds_name {i:Nat} (hi:i<8):(⟨#[98]⟩:ByteArray)++decB (i+2)=⟨#[98,50+UInt8.ofNat i]⟩:=by
 rw [decB,if_pos (by omega)]
 rcases (show i=0∨i=1∨i=2∨i=3∨i=4∨i=5∨i=6∨i=7 by omega) with rfl | rfl | rfl | rfl | rfl | rfl | rfl | rfl<;>rfl
end Go.Proofs.YtldndkngpdfpfaaGreat
namespace Go.Proofs.YtldndkngpdfpfaaGreat
open Go.RowKit
attribute [local go_sem] eql_sym neq_sym
end Go.Proofs.YtldndkngpdfpfaaGreat
namespace Go.Proofs.YtldndkngpdfpfaaGreat
open Go.RowKit
theorem Elem.ext' : ∀{x y:Elem},x.id=y.id→x.attr=y.attr→x.value=y.value→x.acc=y.acc→x.goal=y.goal→x.tag=y.tag→x=y
 | ⟨_,_,_,_,_,_⟩,⟨_,_,_,_,_,_⟩,rfl,rfl,rfl,rfl,rfl,rfl=>rfl
instance decElem22:DecidableEq Elem:=fun a b=>decidable_of_iff (a.id=b.id∧a.attr=b.attr∧a.value=b.value∧a.acc=b.acc∧a.goal=b.goal∧a.tag=b.tag) ⟨fun ⟨h1,h2,h3,h4,h5,h6⟩=>Elem.ext' h1 h2 h3 h4 h5 h6,fun h=>by subst h;exact ⟨rfl,rfl,rfl,rfl,rfl,rfl⟩⟩
end Go.Proofs.YtldndkngpdfpfaaGreat
namespace Go.Proofs.YtldndkngpdfpfaaGreat
open Go.RowKit Go.Shelf
attribute [local go_sem] Oper.semAt_some
set_option linter.unusedSimpArgs false
def OrderTo (l:List Elem) (w:World) (e:Ending) (w':World):Prop:=Below w.heap.size w w'∧
 match orderV l with
 | none=>e = .returned (.tuple #[.slice none 0 0,.slice none 0 0,.bool false])
 | some (o,ns)=>∃A c B d,e = .returned (.tuple #[.slice A o.length c,.slice B ns.length d,.bool true])∧RowRd w' 12 Elem.cells A c o∧RowRd w' 3 Sym.cells B d ns
end Go.Proofs.YtldndkngpdfpfaaGreat
namespace Go.Proofs.YtldndkngpdfpfaaGreat
open Go.RowKit Go.Shelf
attribute [local go_sem] Oper.semAt_some
set_option linter.unusedSimpArgs false
end Go.Proofs.YtldndkngpdfpfaaGreat
namespace Go.Proofs.YtldndkngpdfpfaaGreat
open Go.RowKit Go.Shelf
attribute [local go_sem] Oper.semAt_some
set_option linter.unusedSimpArgs false
structure RS (X:World) (ns:List Sym) (left out:List Elem) (AL:Option Addr) (cL:Nat) (AO:Option Addr) (cO:Nat) (AN:Option Addr) (cN:Nat) (w:World):Prop where
 lo:w.ownsRow 0 55 12 (.slice AL left.length cL) left.length (left.flatMap Elem.cells)
 la:AIn AL (X.heap.size≤·)
 oo:w.ownsRow 0 55 12 (.slice AO out.length cO) out.length (out.flatMap Elem.cells)
 oa:AIn AO (X.heap.size≤·)
 no:w.ownsRow 0 23 3 (.slice AN ns.length cN) ns.length (ns.flatMap Sym.cells)
 na:AIn AN (X.heap.size≤·)
 ne : ∀a b,AL=some a→AO=some b→a.block≠b.block
 bel:Below X.heap.size X w
section
variable {X w w':World} {ns:List Sym} {left out:List Elem} {AL:Option Addr} {cL:Nat} {AO:Option Addr} {cO:Nat} {AN:Option Addr} {cN:Nat}
theorem RS.new_ (h:RS X ns left out AL cL AO cO AN cN w) (hb:Below w.heap.size w w'):RS X ns left out AL cL AO cO AN cN w':=
 ⟨ownsRow_new h.lo hb,h.la,ownsRow_new h.oo hb,h.oa,ownsRow_new h.no hb,h.na,h.ne,h.bel.trans (hb.mono h.bel.size)⟩
theorem RS.more (h:RS X ns left out AL cL AO cO AN cN w) {e:Elem} {v:Value} (hown:w'.ownsRow 0 55 12 v (out.length+1) (out.flatMap Elem.cells ++ [e].flatMap Elem.cells))
 (hg:w.grownBy w' (Value.slice AO out.length cO).ownBlock) (hat:v.ownBlock=(Value.slice AO out.length cO).ownBlock∨v.ownBlock=some w.heap.size) : ∃A' c',v = .slice A' (out ++ [e]).length c'∧RS X ns left (out ++ [e]) AL cL A' c' AN cN w'∧Fr (fun j=>∃a,AO=some a∧a.block=j) w w':=by
 obtain ⟨A',c',rfl,hF,hA,hO⟩:=grown_own (E:=fun j=>∃a,AO=some a∧a.block=j) (fun a ha=>⟨a,ha,rfl⟩) hown hg hat
 have e2:(out ++ [e]).length=out.length+1:=by simp
 have hsz:=h.bel.size
 refine ⟨A',c',by rw [e2],⟨ownsRow_fr h.lo hF (fun g hg ⟨a,ha,e⟩=>?_),h.la,by rw [e2,List.flatMap_append];exact hO,fun a ha=>?_,ownsRow_fr h.no hF (fun g hg ⟨a,ha,e⟩=>own_own_ne h.no h.oo (by decide) hg (by subst ha;subst e;rfl)),h.na,fun a b ha hb=>?_,h.bel.trans (hF.below hsz (fun j hj ⟨a,ha,e⟩=>by have:X.heap.size≤a.block:=h.oa a ha;omega))⟩,hF⟩
 · cases AL with
   | none=>cases hg
   | some b=>injection hg with hg;exact h.ne b a rfl ha (hg.trans e.symm)
 · rcases hA a ha with ⟨b,hb,e⟩ | ⟨h1,_⟩
   · rw [← e];exact h.oa b hb
   · exact Nat.le_trans hsz h1
 · rcases hA b hb with ⟨b',hb',e⟩ | ⟨h1,_⟩
   · rw [← e];exact h.ne a b' ha hb'
   · have:=ain_lt h.lo a ha;omega
theorem RS.name (h:RS X ns left out AL cL AO cO AN cN w) {s:Sym} {v:Value} (hown:w'.ownsRow 0 23 3 v (ns.length+1) (ns.flatMap Sym.cells ++ [s].flatMap Sym.cells))
 (hg:w.grownBy w' (Value.slice AN ns.length cN).ownBlock) (hat:v.ownBlock=(Value.slice AN ns.length cN).ownBlock∨v.ownBlock=some w.heap.size) : ∃A' c',v = .slice A' (ns ++ [s]).length c'∧RS X (ns ++ [s]) left out AL cL AO cO A' c' w'∧(∀g t cs,t≠23→Blk w g t cs→Blk w' g t cs):=by
 obtain ⟨A',c',rfl,hF,hA,hO⟩:=grown_own (E:=fun j=>∃a,AN=some a∧a.block=j) (fun a ha=>⟨a,ha,rfl⟩) hown hg hat
 have e2:(ns ++ [s]).length=ns.length+1:=by simp
 have hsz:=h.bel.size
 have nR : ∀{n c:Nat} {A:Option Addr} {xs:List Value},w.ownsRow 0 55 12 (.slice A n c) n xs→w'.ownsRow 0 55 12 (.slice A n c) n xs:=fun ho=>ownsRow_fr ho hF (fun g hg ⟨a,ha,e⟩=>own_own_ne ho h.no (by decide) hg (by subst ha;subst e;rfl))
 refine ⟨A',c',by rw [e2],⟨nR h.lo,h.la,nR h.oo,h.oa,by rw [e2,List.flatMap_append];exact hO,fun a ha=>?_,h.ne,h.bel.trans (hF.below hsz (fun j hj ⟨a,ha,e⟩=>by have:X.heap.size≤a.block:=h.na a ha;omega))⟩,fun g t cs ht hb=>hb.fr hF (fun ⟨a,ha,e⟩=>own_blk_ne h.no hb (Ne.symm ht) (by subst ha;subst e;rfl))⟩
 rcases hA a ha with ⟨b,hb,e⟩ | ⟨h1,_⟩
 · rw [← e];exact h.na b hb
 · exact Nat.le_trans hsz h1
theorem RS.at_ (h:RS X ns left out AL cL AO cO AN cN w) {i:Nat} (hi:i<left.length) : ∃g off,AL=some ⟨g,off,none⟩∧g<w.heap.size∧w.rangeAt g (off+i*12) (Elem.cells left[i]):=by
 obtain ⟨b,off,h1,h2,h3⟩:=(ownsRow_rd Elem.cells_length h.lo).at_ hi
 exact ⟨b,off,h1,h2,fun j u hu=>h3 j u hu⟩
end
theorem OrderTo.no {l:List Elem} {w w':World} (h:orderV l=none) (hb:Below w.heap.size w w'):OrderTo l w (.returned (.tuple #[.slice none 0 0,.slice none 0 0,.bool false])) w':=by
 refine ⟨hb,?_⟩
 rw [h]
theorem OrderTo.yes {X w:World} {l:List Elem} {ns:List Sym} {left out:List Elem} {AL:Option Addr} {cL:Nat} {AO:Option Addr} {cO:Nat} {AN:Option Addr} {cN:Nat} (h:orderV l=some (out,ns)) (hs:RS X ns left out AL cL AO cO AN cN w):OrderTo l X (.returned (.tuple #[.slice AO out.length cO,.slice AN ns.length cN,.bool true])) w:=by
 refine ⟨hs.bel,?_⟩
 rw [h]
 exact ⟨AO,cO,AN,cN,rfl,ownsRow_rd Elem.cells_length hs.oo,ownsRow_rd Sym.cells_length hs.no⟩
end Go.Proofs.YtldndkngpdfpfaaGreat
namespace Go.Proofs.YtldndkngpdfpfaaGreat
open Go.RowKit Go.Shelf
attribute [local go_sem] Oper.semAt_some
set_option linter.unusedSimpArgs false
end Go.Proofs.YtldndkngpdfpfaaGreat
namespace Go.Proofs.YtldndkngpdfpfaaGreat
open Go.RowKit
attribute [local go_sem] eql_sym neq_sym
end Go.Proofs.YtldndkngpdfpfaaGreat
namespace Go.Proofs.YtldndkngpdfpfaaGreat
open Go.RowKit Go.Shelf
attribute [local go_sem] Oper.semAt_some
set_option linter.unusedSimpArgs false
theorem fresh_any {e:TypeId} {size n m B:Nat} {w w':World} {A:Option Addr} {c:Nat} {v:Value} {xs news:List Value} (hown:w'.ownsRow 0 e size v (n+m) (xs++news)) (hg:w.grownBy w' (Value.slice A n c).ownBlock) (hat:v.ownBlock=(Value.slice A n c).ownBlock∨v.ownBlock=some w.heap.size) (hA:AIn A (B≤·)) (hB:B≤w.heap.size) :
 ∃A' c',v = .slice A' (n+m) c'∧w'.ownsRow 0 e size (.slice A' (n+m) c') (n+m) (xs++news)∧AIn A' (B≤·)∧Below B w w':=by
 obtain ⟨A',c',rfl,hF,hA',hO⟩:=grown_own (E:=fun j=>∃a,A=some a∧a.block=j) (fun a ha=>⟨a,ha,rfl⟩) hown hg hat
 refine ⟨A',c',rfl,hO,fun a ha=>?_,hF.below hB (fun k hk ⟨a,ha,e⟩=>by have:B≤a.block:=hA a ha;omega)⟩
 rcases hA' a ha with ⟨b,hb,e⟩ | ⟨h1,_⟩
 · rw [← e];exact hA b hb
 · exact Nat.le_trans hB h1
end Go.Proofs.YtldndkngpdfpfaaGreat
