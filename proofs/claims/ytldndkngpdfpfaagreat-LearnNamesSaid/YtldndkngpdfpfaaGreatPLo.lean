/-
  Texts put together: VaryWk, LawVOrders, RefHas, RefRise, BkCopy1, BkTests, BkCopyP, BkRec, VaryNw1, LawVNew, LrnCk, BkFind, Queue, LeafBnum, LeafPgR, LeafPgT.
-/
import Derived.Test.YtldndkngpdfpfaaGreatPLn
import Derived.Test.YtldndkngpdfpfaaGreatPLh
import Derived.Test.YtldndkngpdfpfaaGreatPLc
import Derived.Test.YtldndkngpdfpfaaGreatPLf
import Derived.IntWalk
import Derived.Test.YtldndkngpdfpfaaGreatPLe
import Derived.Test.YtldndkngpdfpfaaGreatPLl
import Derived.Test.YtldndkngpdfpfaaGreatPLb
import Derived.Deep.MidRow
import Derived.Test.YtldndkngpdfpfaaGreatPLd
import Derived.ArgAppend
import Derived.Maps.RangeWalk
namespace Go.Proofs.YtldndkngpdfpfaaGreat
set_option maxRecDepth 100000
set_option maxHeartbeats 32000000
section
open Go.RowKit Go.Shelf
set_option linter.unusedSimpArgs false
theorem Blk.setAllD {w:World} {g:Nat} {t:TypeId} {cs:Array Value} {vs:List Value} (h:Blk w g t cs) (hl:cs.size=vs.length):Blk (w.setCells g 0 vs) g t vs.toArray:=by
 have hr:=World.rangeAt_setCells_same w g 0 vs (by have:=h.there;rwa [hl] at this);obtain ⟨cs',h1,h2⟩:=Blk.setCells_ vs 0 h
 have e:cs'=vs.toArray:=by
  apply Array.ext
  · rw [h2];simpa using hl
  · intro i hi hj
    (have hj':i<vs.length:=by simpa using hj);have h3:=hr i vs[i] (List.getElem?_eq_getElem hj');rw [show (0+i)=i by omega,h1.cell i,Array.getElem?_eq_getElem hi] at h3;simpa using h3
 rw [← e];exact h1
theorem rowRd_blk {α:Type} {w:World} {cells:α→List Value} {size g:Nat} {t:TypeId} {l:List α} {cs:Array Value} (hb:Blk w g t cs) (hc:cs=(l.flatMap cells).toArray) (hsz : ∀x,(cells x).length=size) (hm:l.length≤maxLen) {n:Nat} (hn:n=l.length):RowRd w size cells (some ⟨g,0,none⟩) n l:=by
 subst hn;refine RowRd.of_cells (Nat.le_refl _) hm hb.lt (fun k hk j u hu=>?_);(have hj:j<size:=by have:=(List.getElem?_eq_some_iff.1 hu).1;rwa [hsz] at this);rw [hb.cell,Nat.zero_add,hc,← hu,← flat_get hsz l k hk j hj];simp
theorem wW9_is (t:ByteArray)(w:World):Calls Tryz.prog 32 #[.string t] w fun e w'=>e = .returned (.agg #[.int .i64 3,.string t,.int .i64 0])∧Below w.heap.size w w':=by
 go_enter Tryz.func32,Tryz.ntmps32;(go_wp2_with fail);exact bodyPost_ret (v:=.agg #[.int .i64 3,.string t,.int .i64 0]) (by simp [results,Tryz.results32,go_sem]) rfl ⟨rfl,by (repeat (first | exact Below.refl _ _ | refine Below.drew ?_ | refine Below.al ?_ _ | refine Below.sc ?_ _))⟩
theorem wN9_is (n:Int)(w:World):Calls Tryz.prog 33 #[.int .i64 n] w fun e w'=>e = .returned (.agg #[.int .i64 2,.string ⟨#[]⟩,.int .i64 n])∧Below w.heap.size w w':=by
 go_enter Tryz.func33,Tryz.ntmps33;(go_wp2_with fail);exact bodyPost_ret (v:=.agg #[.int .i64 2,.string ⟨#[]⟩,.int .i64 n]) (by simp [results,Tryz.results33,go_sem]) rfl ⟨rfl,by (repeat (first | exact Below.refl _ _ | refine Below.drew ?_ | refine Below.al ?_ _ | refine Below.sc ?_ _))⟩
theorem wI9_is (t:ByteArray) (n:Int)(w:World):Calls Tryz.prog 31 #[.string t,.int .i64 n] w fun e w'=>e = .returned (.agg #[.int .i64 1,.string t,.int .i64 n])∧Below w.heap.size w w':=by
 go_enter Tryz.func31,Tryz.ntmps31;(go_wp2_with fail);exact bodyPost_ret (v:=.agg #[.int .i64 1,.string t,.int .i64 n]) (by simp [results,Tryz.results31,go_sem]) rfl ⟨rfl,by (repeat (first | exact Below.refl _ _ | refine Below.drew ?_ | refine Below.al ?_ _ | refine Below.sc ?_ _))⟩
end
section
open Go.RowKit Go.Shelf
attribute [local go_sem] Oper.semAt_some
set_option linter.unusedSimpArgs false
end
section
open Go.RowKit
attribute [local go_sem] eql_sym neq_sym
end
section
open Go.RowKit Go.Shelf
attribute [local go_sem] Oper.semAt_some
set_option linter.unusedSimpArgs false
theorem fresh_any {e:TypeId} {size n m B:Nat} {w w':World} {A:Option Addr} {c:Nat} {v:Value} {xs news:List Value} (hown:w'.ownsRow 0 e size v (n+m) (xs++news)) (hg:w.grownBy w' (Value.slice A n c).ownBlock) (hat:v.ownBlock=(Value.slice A n c).ownBlock∨v.ownBlock=some w.heap.size) (hA:AIn A (B≤·)) (hB:B≤w.heap.size) :
 ∃A' c',v = .slice A' (n+m) c'∧w'.ownsRow 0 e size (.slice A' (n+m) c') (n+m) (xs++news)∧AIn A' (B≤·)∧Below B w w':=by
 obtain ⟨A',c',rfl,hF,hA',hO⟩:=grown_own (E:=fun j=>∃a,A=some a∧a.block=j) (fun a ha=>⟨a,ha,rfl⟩) hown hg hat;refine ⟨A',c',rfl,hO,fun a ha=>?_,hF.below hB (fun k hk ⟨a,ha,e⟩=>by have:B≤a.block:=hA a ha;omega)⟩;rcases hA' a ha with ⟨b,hb,e⟩ | ⟨h1,_⟩
 · rw [← e];exact hA b hb
 · exact Nat.le_trans hB h1
end
section
open Go.RowKit
def Fresh1 {α:Type} (e size:Nat) (cells:α→List Value) (l:List α) (w:World) (en:Ending) (w':World):Prop:=
 ∃A c,en = .returned (.slice A l.length c)∧w'.ownsRow 0 e size (.slice A l.length c) l.length (l.flatMap cells)∧AIn A (NewD w.heap.size w')∧Below w.heap.size w w'
theorem fresh1_of {α:Type} {e size:Nat} {cells:α→List Value} {l:List α} {w w':World} {v v0:Value} (hown:w'.ownsRow 0 e size v l.length (l.flatMap cells)) (hat:v.ownBlock=v0.ownBlock∨v.ownBlock=some w.heap.size) (h0:v0.ownBlock=none) (hg:w.grownBy w' v0.ownBlock) :
 ∃A c,v = .slice A l.length c∧w'.ownsRow 0 e size (.slice A l.length c) l.length (l.flatMap cells)∧AIn A (NewD w.heap.size w')∧Below w.heap.size w w':=by
 have hlt:=own_lt hown;obtain ⟨A,c,rfl,_,_,_⟩:=own_form2 hown;refine ⟨A,c,rfl,hown,fun a ha=>?_,(Below.refl w.heap.size w).grown hg (Nat.le_refl _) (fun k hk=>by rw [h0] at hk;cases hk)⟩;subst ha;rcases hat with h | h
 · rw [h0] at h;cases h
 · have:=hlt a.block rfl
   simp only [Value.ownBlock,Option.some.injEq] at h;exact ⟨by omega,this⟩
theorem owns_nilC (W:World) (e size:Nat):W.ownsRow 0 e size (.slice none 0 0) 0 []:=⟨by simp,.inl ⟨rfl,rfl⟩⟩
theorem Fresh1.row {α:Type} {e size:Nat} {cells:α→List Value} (hs : ∀a,(cells a).length=size) {l:List α} {A:Option Addr} {c B:Nat} {w':World} (h:w'.ownsRow 0 e size (.slice A l.length c) l.length (l.flatMap cells)) (hA:AIn A (NewD B w')):RowR (RepT.flat size cells hs) (NewD B w') w' A c l:=RowR.of_rd (ownsRow_rd hs h) hA
theorem cp_Sym (A:Option Addr) (c:Nat) (l:List Sym) (w:World) (hrd:RowRd w 3 Sym.cells A c l) (hl:(l.length:Int)≤100000) :
 Calls Tryz.prog 97 #[.slice A l.length c] w (Fresh1 23 3 Sym.cells l w):=by
 obtain ⟨i0,hi0,hz0,hz1,hz2⟩:=infp inf_Sym;have HRD:=Lib.hid hrd;have hlc:=hrd.cap;have hlcc:=hrd.1;clear hrd;go_enter Tryz.func97,Tryz.ntmps97;(go_wp2_with (at_builtin;refine wpList_append_src w rfl (.const (.slice none 0 0)) (.tmp 3) 36 rfl 23 i0 _ 3 32 Tryz.underlying36 hi0 hz0 hz1 hz2 rfl (by omega) (.slice none 0 0) 0 [] rfl (owns_nilC w _ _) A l.length c (l.flatMap Sym.cells) rfl (flat_length Sym.cells_length _) (HRD.out.news Sym.cells_length (by omega)) (one_Sym _) (by unfold maxLen;omega) (by omega) ?_;intro v1 w2 hown1 hg1 hnil1 hat1));go_ret;rw [Nat.zero_add,List.nil_append] at hown1;obtain ⟨A',c',rfl,h1,h2,h3⟩:=fresh1_of hown1 hat1 rfl hg1;exact ⟨A',c',rfl,h1,h2,h3⟩
theorem cp_Trace (A:Option Addr) (c:Nat) (l:List TraceT) (w:World) (hrd:RowRd w 14 TraceT.cells A c l) (hl:(l.length:Int)≤100000) :
 Calls Tryz.prog 95 #[.slice A l.length c] w (Fresh1 57 14 TraceT.cells l w):=by
 obtain ⟨i0,hi0,hz0,hz1,hz2⟩:=infp inf_Trace;have HRD:=Lib.hid hrd;have hlc:=hrd.cap;have hlcc:=hrd.1;clear hrd;go_enter Tryz.func95,Tryz.ntmps95;(go_wp2_with (at_builtin;refine wpList_append_src w rfl (.const (.slice none 0 0)) (.tmp 3) 27 rfl 57 i0 _ 14 128 Tryz.underlying27 hi0 hz0 hz1 hz2 rfl (by omega) (.slice none 0 0) 0 [] rfl (owns_nilC w _ _) A l.length c (l.flatMap TraceT.cells) rfl (flat_length TraceT.cells_length _) (HRD.out.news TraceT.cells_length (by omega)) (one_Trace _) (by unfold maxLen;omega) (by omega) ?_;intro v1 w2 hown1 hg1 hnil1 hat1));go_ret;rw [Nat.zero_add,List.nil_append] at hown1;obtain ⟨A',c',rfl,h1,h2,h3⟩:=fresh1_of hown1 hat1 rfl hg1;exact ⟨A',c',rfl,h1,h2,h3⟩
theorem cp_Apart (A:Option Addr) (c:Nat) (l:List ApartT) (w:World) (hrd:RowRd w 7 ApartT.cells A c l) (hl:(l.length:Int)≤100000) :
 Calls Tryz.prog 96 #[.slice A l.length c] w (Fresh1 34 7 ApartT.cells l w):=by
 obtain ⟨i0,hi0,hz0,hz1,hz2⟩:=infp inf_Apart;have HRD:=Lib.hid hrd;have hlc:=hrd.cap;have hlcc:=hrd.1;clear hrd;go_enter Tryz.func96,Tryz.ntmps96;(go_wp2_with (at_builtin;refine wpList_append_src w rfl (.const (.slice none 0 0)) (.tmp 3) 28 rfl 34 i0 _ 7 72 Tryz.underlying28 hi0 hz0 hz1 hz2 rfl (by omega) (.slice none 0 0) 0 [] rfl (owns_nilC w _ _) A l.length c (l.flatMap ApartT.cells) rfl (flat_length ApartT.cells_length _) (HRD.out.news ApartT.cells_length (by omega)) (one_Apart _) (by unfold maxLen;omega) (by omega) ?_;intro v1 w2 hown1 hg1 hnil1 hat1));go_ret;rw [Nat.zero_add,List.nil_append] at hown1;obtain ⟨A',c',rfl,h1,h2,h3⟩:=fresh1_of hown1 hat1 rfl hg1;exact ⟨A',c',rfl,h1,h2,h3⟩
end
section
open Go.RowKit
def SmT (l:List TestT):Prop:=l.length≤1000∧∀t∈l,t.list.length≤1000
def FreshR {α:Type} (r:RepT α) (l:List α) (w:World) (en:Ending) (w':World):Prop:=
 ∃A c,en = .returned (.slice A l.length c)∧RowR r (NewD w.heap.size w') w' A c l∧AIn A (NewD w.heap.size w')∧Below w.heap.size w w'
theorem NewD.up {B B':Nat} {w w':World} (hB:B'≤B) (hw:w.heap.size≤w'.heap.size) : ∀k,NewD B w k→NewD B' w' k:=fun k hk=>⟨by have:=hk.1;omega,by have:=hk.2;omega⟩
theorem rep_test {D:Nat→Prop} {w:World} {y:TestT} {A:Option Addr} {c:Nat} (h:RowR repSym D w A c y.list):repTestT.rep D w y [.int .i64 y.rel,.string y.var,.int .i64 y.sym.kind,.string y.sym.text,.int .i64 y.sym.n,.slice A y.list.length c]:=⟨A,c,rfl,h⟩
def Copies {α:Type} (r:RepT α) (e:TypeId) (w:World) (l:List α) (v:Value) (wr:World):Prop:=
 ∃C A c,v = .slice A l.length c∧OwnC r e C wr v l∧(∀j,C j→NewD w.heap.size wr j)∧AIn A (NewD w.heap.size wr)∧Below w.heap.size w wr
theorem Copies.nil {α:Type} (r:RepT α) (e:TypeId) (w:World) {wr:World} (hb:Below w.heap.size w wr):Copies r e w [] (.slice none 0 0) wr:=
 ⟨fun _=>False,none,0,rfl,OwnC.nil _ _ _ _,fun _ h=>h.elim,AIn.none_ _,hb⟩
theorem Copies.done {α:Type} {r:RepT α} {e:TypeId} {w wr:World} {l:List α} {v:Value} (h:Copies r e w l v wr):FreshR r l w (.returned v) wr:=by
 obtain ⟨C,A,c,rfl,h1,h2,h3,h4⟩:=h;exact ⟨A,c,rfl,h1.row h2 h3,h3,h4⟩
theorem Copies.snoc {α:Type} {r:RepT α} {e:TypeId} {w wr W W':World} {C:Nat→Prop} {l:List α} {y:α} {A:Option Addr} {c:Nat} {v':Value} (h2 : ∀j,C j→NewD w.heap.size wr j) (h3:AIn A (NewD w.heap.size wr)) (h4:Below w.heap.size w wr)
 (hb:Below wr.heap.size wr W) (ha:Appended r e (Plus C wr W) W (.slice A l.length c) (l ++ [y]) v' W'):Copies r e w (l ++ [y]) v' W':=by
 obtain ⟨g1,g2,g3⟩:=ha;have hz:=hb.size;have hz2:=g2.size;have hz4:=h4.size;obtain ⟨A',c',rfl,_,_,hA'⟩:=g1.form;refine ⟨Plus C wr W,A',c',rfl,g1,fun j hj=>?_,fun a ha=>⟨?_,(hA' a ha).1⟩,(h4.trans (hb.mono hz4)).grown g2 (by omega) (fun k hk=>?_)⟩
 · rcases hj with hj | hj
   · have:=h2 j hj;exact ⟨this.1,by have:=this.2;omega⟩
   · exact ⟨by omega,by omega⟩
 · subst ha
   rcases g3 with g3 | g3
   · rcases A with _ | b
     · simp [Value.ownBlock] at g3
     · simp only [Value.ownBlock,Option.some.injEq] at g3
       have:=(h3 b rfl).1;omega
   · simp only [Value.ownBlock,Option.some.injEq] at g3
     omega
 · rcases A with _ | b
   · simp [Value.ownBlock] at hk
   · simp only [Value.ownBlock,Option.some.injEq] at hk
     have:=(h3 b rfl).1;omega
theorem take_snoc {α:Type} {l:List α} {k:Nat} (hk:k<l.length):l.take k ++ [l[k]]=l.take (k+1):=by rw [List.take_add_one,List.getElem?_eq_getElem hk];rfl
theorem take_len {α:Type} {l:List α} {k:Nat} (hk:k≤l.length):(l.take k).length=k:=by simp;omega
theorem btests_is (A:Option Addr) (c:Nat) (l:List TestT) {D:Nat→Prop} (w:World) (hrd:RowR repTestT D w A c l) (hs:SmT l) :
 Calls Tryz.prog 221 #[.slice A l.length c] w (FreshR repTestT l w):=by
 obtain ⟨i0,hi0,hz0,hz1,hz2⟩:=infp inf_Sym;obtain ⟨j0,hj0,hy0,hy1,hy2⟩:=infp inf_Test;have hlc:=hrd.cap;have hl1:=hs.1;have HRD:=Lib.hid hrd;have HS:=Lib.hid hs;clear hrd hs;go_enter Tryz.func221,Tryz.ntmps221;go_wp2_with fail
 go_loopw [3,8] (fun v i wr=>∃k:Nat,i = .int .i64 k∧k≤l.length∧Copies repTestT 142 w (l.take k) v wr) (fun v i wr=>l.length - (intOf i).toNat)
 case atStart=>exact ⟨0,rfl,Nat.zero_le _,Copies.nil _ _ _ (Below.refl _ _)⟩
 case round=>
  obtain ⟨k,rfl,hk,hC⟩:=hrel;obtain ⟨C,A1,c1,rfl,h1,h2,h3,h4⟩:=hC;rw [take_len hk];by_cases hlt:k<l.length
  · have hrw:=HRD.out.keep (D':=D) h4.size (fun j hj hl=>⟨hj,h4.block j hl⟩)
    obtain ⟨g,off,A3,c3,rfl,hDg,hg,q0,q1,q2,q3,q4,q5,hr3⟩:=at_TestT hrw hlt;obtain ⟨y,hy⟩ : ∃y,y=l[k]:=⟨_,rfl⟩;(have hy3:y.list.length≤1000:=by rw [hy];exact HS.out.2 _ (List.getElem_mem hlt));rw [← hy] at q0 q1 q2 q3 q4 q5 hr3;have hr4:=RowR.rd (hs:=Sym.cells_length) hr3;have hl3:=hr3.cap;(have b1:(0:Int)≤(k:Int):=by omega);(have b2:(k:Int)<(l.length:Int):=by omega);have HY:=Lib.hid hy;have H1:=Lib.hid h1;have H2:=Lib.hid h2;have H3:=Lib.hid h3;have H4:=Lib.hid h4;have HR4:=Lib.hid hr4;clear hy hrw h1 h2 h3 h4 hr3 hr4;(go_upto_region 5 with fail);obtain ⟨W4,hW4⟩ : ∃W4,W4=wr.alloc (.cells #[.int .i64 y.rel,.string y.var,.int .i64 y.sym.kind,.string y.sym.text,.int .i64 y.sym.n,.slice A3 y.list.length c3] 142):=⟨_,rfl⟩;(have hB4:Below wr.heap.size wr W4:=by rw [hW4];exact (Below.refl _ _).alloc (Nat.le_refl _) _);(have hX4:Blk W4 wr.heap.size 142 #[.int .i64 y.rel,.string y.var,.int .i64 y.sym.kind,.string y.sym.text,.int .i64 y.sym.n,.slice A3 y.list.length c3]:=by rw [hW4];exact Blk.new _ _ _);rw [← hW4];clear hW4 q0 q1 q2 q3 q4 q5;have HB4:=Lib.hid hB4;have HX4:=Lib.hid hX4;have hxl4:=hX4.lt;clear hX4 hB4;have x5:=(HX4.out.cell 5).trans rfl;(go_upto_region 6 with (at_builtin;refine wpList_append_src W4 rfl (.const (.slice none 0 0)) (.tmp 13) 36 rfl 23 i0 _ 3 32 Tryz.underlying36 hi0 hz0 hz1 hz2 rfl (by omega) (.slice none 0 0) 0 [] rfl (owns_nilC _ _ _) A3 y.list.length c3 (y.list.flatMap Sym.cells) rfl (flat_length Sym.cells_length _) ((HR4.out.new_ HB4.out).news Sym.cells_length (by omega)) (one_Sym _) (by unfold maxLen;omega) (by omega) ?_;intro v1 w5 hown1 hg1 hnil1 hat1;rw [Nat.zero_add,List.nil_append] at hown1;obtain ⟨A5,c5,rfl,ho5,hA5,hB5⟩:=fresh1_of hown1 hat1 rfl hg1;have hX5:=HX4.out.new_ hB5;have u5:=(hX5.cell 5).trans rfl;have g5:=hX5.frozen 5;have hxl5:=hX5.lt;have HB5:=Lib.hid hB5;have HO5:=Lib.hid ho5;have HA5:=Lib.hid hA5;have HX5:=Lib.hid hX5;clear hX5 hB5 ho5 hA5 hown1 hat1 hg1 hnil1 x5));obtain ⟨W6,hW6⟩ : ∃W6,W6=w5.setCell ⟨wr.heap.size,5,none⟩ (.slice A5 y.list.length c5):=⟨_,rfl⟩;have hX5:=HX5.out;(have hB6:Below wr.heap.size wr W6:=by rw [hW6];exact (HB4.out.trans (HB5.out.mono (by omega))).setCell (Nat.le_refl _) _);(have hX6:Blk W6 wr.heap.size 142 #[.int .i64 y.rel,.string y.var,.int .i64 y.sym.kind,.string y.sym.text,.int .i64 y.sym.n,.slice A5 y.list.length c5]:=by rw [hW6];exact hX5.set_ 5 _);(have hO6:W6.ownsRow 0 23 3 (.slice A5 y.list.length c5) y.list.length (y.list.flatMap Sym.cells):=by rw [hW6];exact ownsRow_setCell_other (a:=⟨wr.heap.size,5,none⟩) HO5.out (own_blk_ne HO5.out hX5 (by decide)) _);have hA6:AIn A5 (NewD wr.heap.size W6):=HA5.out.mono (fun j hj=>⟨by have:=hj.1;omega,by rw [hW6];simpa using hj.2⟩);rw [← hW6];clear hW6 hX5;have hB7:Below wr.heap.size wr (W6.alloc (.cells #[.int .i64 y.rel,.string y.var,.int .i64 y.sym.kind,.string y.sym.text,.int .i64 y.sym.n,.slice A5 y.list.length c5] 142)):=hB6.alloc hB6.size _;have hrow:RowR repSym (Plus C wr (W6.alloc (.cells #[.int .i64 y.rel,.string y.var,.int .i64 y.sym.kind,.string y.sym.text,.int .i64 y.sym.n,.slice A5 y.list.length c5] 142))) (W6.alloc (.cells #[.int .i64 y.rel,.string y.var,.int .i64 y.sym.kind,.string y.sym.text,.int .i64 y.sym.n,.slice A5 y.list.length c5] 142)) A5 c5 y.list:=(Fresh1.row Sym.cells_length hO6 hA6).keep (by simp) (fun j hj hl=>⟨.inr ⟨hj.1,by simp;have:=hj.2;omega⟩,((Below.refl W6.heap.size W6).alloc (Nat.le_refl _) _).block j hl⟩);have hown7:=H1.out.plus hB7;have hrep7:=rep_test hrow
    have hcl : ∀j,Plus C wr (W6.alloc (.cells #[.int .i64 y.rel,.string y.var,.int .i64 y.sym.kind,.string y.sym.text,.int .i64 y.sym.n,.slice A5 y.list.length c5] 142)) j→j<(W6.alloc (.cells #[.int .i64 y.rel,.string y.var,.int .i64 y.sym.kind,.string y.sym.text,.int .i64 y.sym.n,.slice A5 y.list.length c5] 142)).heap.size:=fun j hj=>by
     rcases hj with hj | hj
     · have:=(H2.out j hj).2;have:=hB7.size;omega
     · exact hj.2
    obtain ⟨u0,u1,u2,u3,u4,u5⟩:=hX6.c6;have hxl6:=hX6.lt;have HB7:=Lib.hid hB7;have HOW:=Lib.hid hown7;have HRE:=Lib.hid hrep7;have HCL:=Lib.hid hcl;(have h63:(l.take k).length+1≤maxLen:=by rw [take_len hk];unfold maxLen;omega);(have hby:((l.take k).length+1)*80≤140737488355328:=by rw [take_len hk];omega);have H63:=Lib.hid h63;have HBY:=Lib.hid hby;have HTL:=Lib.hid (take_len hk);clear hB6 hB7 hX6 hO6 hA6 hrow hown7 hrep7 hcl h63 hby;have HV:=Lib.hid (show Value.slice A1 k c1 = .slice A1 (l.take k).length c1 by rw [take_len hk]);(go_wp2_with (at_builtin;refine wpList_append_C _ rfl _ _ 60 rfl 142 j0 _ 6 80 Tryz.underlying60 hj0 hy0 hy1 hy2 rfl rfl (by omega) (Plus C wr (W6.alloc (.cells #[.int .i64 y.rel,.string y.var,.int .i64 y.sym.kind,.string y.sym.text,.int .i64 y.sym.n,.slice A5 y.list.length c5] 142))) HCL.out (.slice A1 (l.take k).length c1) (l.take k) HV.out HOW.out ⟨W6.heap.size,0,none⟩ 1 y [.int .i64 y.rel,.string y.var,.int .i64 y.sym.kind,.string y.sym.text,.int .i64 y.sym.n,.slice A5 y.list.length c5] rfl (World.news_of_block (heap_alloc_new _ _)) (by intro u hu;simp only [List.mem_cons,List.not_mem_nil,or_false] at hu;rcases hu with rfl | rfl | rfl | rfl | rfl | rfl<;>rfl) HRE.out H63.out HBY.out ?_;intro v' w7 hap));have hfin:Copies repTestT 142 w (l.take k ++ [y]) v' w7:=Copies.snoc H2.out H3.out H4.out HB7.out (by have e:Value.slice A1 (l.take k).length c1 = .slice A1 (l.take k).length c1:=rfl;exact hap);rw [HY.out,take_snoc hlt] at hfin;go_roundw
    case rel=>exact ⟨k+1,by go_num,by omega,hfin⟩
    case measure=>simp [intOf];omega
  · obtain rfl:k=l.length:=by omega
    have hfin:=Copies.done ⟨C,A1,c1,rfl,h1,h2,h3,h4⟩;rw [List.take_length] at hfin;have HF:=Lib.hid hfin;clear h1 h2 h3 h4 hfin;(go_wp2_with fail);go_ret;exact HF.out
end
section
open Go.RowKit
def SmC:Nat→CondT→Prop
 | 0,_=>True
 | n+1,c=>SmT c.attr∧SmT c.value∧c.conds.length≤1000∧∀x∈c.conds,SmC n x
def FreshC (n:Nat) (c:CondT) (w:World) (en:Ending) (w':World):Prop:=
 ∃A1 c1 A2 c2 A3 c3,en = .returned (.agg #[.int .i64 c.kind,.bool c.goal,.string c.id,.slice A1 c.attr.length c1,.slice A2 c.value.length c2,.bool c.acc,.slice A3 c.conds.length c3])∧RowR repTestT (NewD w.heap.size w') w' A1 c1 c.attr∧RowR repTestT (NewD w.heap.size w') w' A2 c2 c.value∧RowR (repCondT n) (NewD w.heap.size w') w' A3 c3 c.conds∧Below w.heap.size w w'
def CopyOk (f n:Nat):Prop:=∀(c:CondT) (A1:Option Addr) (c1:Nat) (A2:Option Addr) (c2:Nat) (A3:Option Addr) (c3:Nat) (D:Nat→Prop) (w:World),
 RowR repTestT D w A1 c1 c.attr→RowR repTestT D w A2 c2 c.value→RowR (repCondT n) D w A3 c3 c.conds→SmC (n+1) c→Calls Tryz.prog f #[.agg #[.int .i64 c.kind,.bool c.goal,.string c.id,.slice A1 c.attr.length c1,.slice A2 c.value.length c2,.bool c.acc,.slice A3 c.conds.length c3]] w (FreshC n c w)
theorem rep_cond {n:Nat} {D:Nat→Prop} {w:World} {y:CondT} {Ay1 Ay2 Ay3:Option Addr} {cy1 cy2 cy3:Nat} (h1:RowR repTestT D w Ay1 cy1 y.attr) (h2:RowR repTestT D w Ay2 cy2 y.value) (h3:RowR (repCondT n) D w Ay3 cy3 y.conds) :
 (repCondT (n+1)).rep D w y [.int .i64 y.kind,.bool y.goal,.string y.id,.slice Ay1 y.attr.length cy1,.slice Ay2 y.value.length cy2,.bool y.acc,.slice Ay3 y.conds.length cy3]:=⟨Ay1,cy1,Ay2,cy2,Ay3,cy3,rfl,h1,h2,h3⟩
theorem row0 {D:Nat→Prop} {w:World} {A:Option Addr} {c:Nat} {l:List CondT} (h:RowR (repCondT 0) D w A c l):l = []:=by
 cases l with
 | nil=>rfl
 | cons x l=>
   obtain ⟨_,_,_,_,_,_,hr,_⟩:=h.at_ (k:=0) (by simp);exact hr.elim
theorem RowR.newD {α:Type} {r:RepT α} {B B':Nat} {w w':World} {A:Option Addr} {c:Nat} {l:List α} (h:RowR r (NewD B w) w A c l) (hb:Below w.heap.size w w') (hB:B'≤B):RowR r (NewD B' w') w' A c l:=
 h.keep hb.size (fun j hj hl=>⟨NewD.up hB hb.size j hj,hb.block j hl⟩)
theorem blk_setCells (b:Nat) : ∀(vs:List Value) (o:Nat) (w:World) (j:Nat),j≠b→(w.setCells b o vs).heap[j]? = w.heap[j]?
 | [],_,_,_,_=>rfl
 | v :: r,o,w,j,h=>by
   rw [World.setCells,blk_setCells b r (o+1) _ j h];exact Below.heap_setCell _ _ _ _ h
end
section
open Go.RowKit
def SmH (n:Nat) (h:HoleT):Prop:=SmC (n+1) h.cond∧h.binds.length≤1000
def SmR (n:Nat) (r:RecordT):Prop:=r.elems.length≤1000∧r.holes.length≤1000∧r.aparts.length≤1000∧r.news.length≤1000∧∀h∈r.holes,SmH n h
theorem rep_hole {n:Nat} {D:Nat→Prop} {w:World} {y:HoleT} {Ay1 Ay2 Ay3 Ay4:Option Addr} {cy1 cy2 cy3 cy4:Nat} (h1:RowR repTestT D w Ay1 cy1 y.cond.attr) (h2:RowR repTestT D w Ay2 cy2 y.cond.value) (h3:RowR (repCondT n) D w Ay3 cy3 y.cond.conds) (h4:RowR repBindT D w Ay4 cy4 y.binds) :
 (repHoleT n).rep D w y [.int .i64 y.cond.kind,.bool y.cond.goal,.string y.cond.id,.slice Ay1 y.cond.attr.length cy1,.slice Ay2 y.cond.value.length cy2,.bool y.cond.acc,.slice Ay3 y.cond.conds.length cy3,.slice Ay4 y.binds.length cy4]:=⟨Ay1,cy1,Ay2,cy2,Ay3,cy3,Ay4,cy4,rfl,h1,h2,h3,h4⟩
def RecAt (n:Nat) (D:Nat→Prop) (w:World) (r:RecordT) (A1:Option Addr) (c1:Nat) (A2:Option Addr) (c2:Nat) (A3:Option Addr) (c3:Nat) (A4:Option Addr) (c4:Nat):Prop:=
 RowR repTraceT D w A1 c1 r.elems∧RowR (repHoleT n) D w A2 c2 r.holes∧RowR repApartT D w A3 c3 r.aparts∧RowR repSym D w A4 c4 r.news
theorem RecAt.keep {n:Nat} {D D':Nat→Prop} {w w':World} {r:RecordT} {A1:Option Addr} {c1:Nat} {A2:Option Addr} {c2:Nat} {A3:Option Addr} {c3:Nat} {A4:Option Addr} {c4:Nat} (h:RecAt n D w r A1 c1 A2 c2 A3 c3 A4 c4) (hs:w.heap.size≤w'.heap.size) (hk : ∀k,D k→k<w.heap.size→D' k∧w'.heap[k]? = w.heap[k]?):RecAt n D' w' r A1 c1 A2 c2 A3 c3 A4 c4:=
 ⟨h.1.keep hs hk,h.2.1.keep hs hk,h.2.2.1.keep hs hk,h.2.2.2.keep hs hk⟩
def FreshRec (n:Nat) (r:RecordT) (w:World) (en:Ending) (w':World):Prop:=
 ∃A1 c1 A2 c2 A3 c3 A4 c4,en = .returned (.agg #[.int .i64 r.num,.int .i64 r.level,.slice A1 r.elems.length c1,.slice A2 r.holes.length c2,.slice A3 r.aparts.length c3,.slice A4 r.news.length c4])∧RecAt n (NewD w.heap.size w') w' r A1 c1 A2 c2 A3 c3 A4 c4∧Below w.heap.size w w'
theorem Blk.setAll {w:World} {g:Nat} {t:TypeId} {cs:Array Value} {vs:List Value} (h:Blk w g t cs) (hl:cs.size=vs.length):Blk (w.setCells g 0 vs) g t vs.toArray:=by
 have hr:=World.rangeAt_setCells_same w g 0 vs (by have:=h.there;rwa [hl] at this);obtain ⟨cs',h1,h2⟩:=Blk.setCells_ vs 0 h
 have e:cs'=vs.toArray:=by
  apply Array.ext
  · rw [h2];simpa using hl
  · intro i hi hj
    (have hj':i<vs.length:=by simpa using hj);have h3:=hr i vs[i] (List.getElem?_eq_getElem hj');rw [show (0+i)=i by omega,h1.cell i,Array.getElem?_eq_getElem hi] at h3;simpa using h3
 rw [← e];exact h1
theorem ain_ne {w:World} {e:TypeId} {size n c:Nat} {A:Option Addr} {xs:List Value} {g:Nat} {t:TypeId} {cs:Array Value} {D:Nat→Prop} (h:w.ownsRow 0 e size (.slice A n c) n xs) (hg:Blk w g t cs) (hne:e≠t) (hA:AIn A D):AIn A (fun j=>D j∧j≠g):=by
 intro a ha;refine ⟨hA a ha,fun hb=>?_⟩;subst ha;exact own_blk_ne h hg hne (by simp [Value.ownBlock,hb])
theorem own_setCells {w:World} {e:TypeId} {size n:Nat} {v:Value} {xs:List Value} {g:Nat} {t:TypeId} {cs:Array Value} (h:w.ownsRow 0 e size v n xs) (hg:Blk w g t cs) (hne:e≠t) (o:Nat) (vs:List Value):(w.setCells g o vs).ownsRow 0 e size v n xs:=
 ownsRow_fr h (Fr.setCells vs o (Fr.refl (· = g) w) (.inl rfl)) (fun j hj ej=>own_blk_ne h hg hne (by rw [← ej];exact hj))
def RH (n g:Nat) (r:RecordT) (W1:World) (E1:Option Addr) (d1:Nat) (E3:Option Addr) (d3:Nat) (E4:Option Addr) (d4:Nat) (k:Nat) (A:Option Addr) (c:Nat) (wr:World):Prop:=
 Blk wr g 121 #[.int .i64 r.num,.int .i64 r.level,.slice E1 r.elems.length d1,.slice A k c,.slice E3 r.aparts.length d3,.slice E4 r.news.length d4]∧∃C:Nat→Prop,¬C g∧(∀j,C j→NewD W1.heap.size wr j)∧W1.heap.size≤g∧RowR repTraceT C wr E1 d1 r.elems∧RowR repApartT C wr E3 d3 r.aparts∧RowR repSym C wr E4 d4 r.news∧
  OwnC (repHoleT n) 134 C wr (.slice A (r.holes.take k).length c) (r.holes.take k)∧AIn A (NewD W1.heap.size wr)∧Below W1.heap.size W1 wr
section
variable {n g:Nat} {r:RecordT} {W1 wr:World} {E1:Option Addr} {d1:Nat} {E3:Option Addr} {d3:Nat} {E4:Option Addr} {d4:Nat} {k:Nat} {A:Option Addr} {c:Nat} {C:Nat→Prop}
theorem RH.fin (hk:k=r.holes.length) (hC : ∀j,C j→NewD W1.heap.size wr j) (t1:RowR repTraceT C wr E1 d1 r.elems) (t3:RowR repApartT C wr E3 d3 r.aparts) (t4:RowR repSym C wr E4 d4 r.news)
 (hO:OwnC (repHoleT n) 134 C wr (.slice A (r.holes.take k).length c) (r.holes.take k)) (hA:AIn A (NewD W1.heap.size wr)):RecAt n (NewD W1.heap.size wr) wr r E1 d1 A c E3 d3 E4 d4:=by
 subst hk;rw [List.take_length] at hO;exact ⟨t1.weaken hC,hO.row hC hA,t3.weaken hC,t4.weaken hC⟩
end
end
section
open Go.RowKit Go.Shelf
attribute [local go_sem] Oper.semAt_some
set_option linter.unusedSimpArgs false
structure RV (X:World) (m:List TraceT) (A:Option Addr) (c:Nat) (w:World):Prop where
 own:w.ownsRow 0 57 14 (.slice A m.length c) m.length (m.flatMap TraceT.cells)
 ain:AIn A (X.heap.size≤·)
 bel:Below X.heap.size X w
end
section
open Go.RowKit Go.Shelf
attribute [local go_sem] Oper.semAt_some
set_option linter.unusedSimpArgs false
end
section
open Go.RowKit Go.Shelf
attribute [local go_sem] Oper.semAt_some
set_option linter.unusedSimpArgs false
theorem wpIn_range0 {α:Type} {g:Operand} {ps:Array Tmp} {assign body:Code} {Q:Exit→Act→World→Prop} {a:Act} {w:World} {gf:Nat} {lb:Array Value} {encs:α→Array Value} {Kp:World→World→Prop} (hg:a.eval g = .func (.func gf) #[] lb) (hq:Seq gf lb encs [] w (fun X Y=>Y=X) Kp) (hps : ∀x,(encs x).size=ps.size)
 (hdone : ∀(D:Nat) (W:World),w.heap.size≤D→Below w.heap.size w W→W.heap[D]? = some (.deferred (some []))→Q .normal { a with defers:={ target:=.collected D,args:=#[] } :: a.defers } W) :
 (Code.rangeFunc g ps assign body).wpIn Fence.wide 0 Tryz.prog Q a w:=by
 refine wpIn_range (w:=w) hg hq.enter hq.iter hps hq.trans hq.keep (fun W W1 h=>keepsFrom_of_fr (hq.mods W W1 h)) (fun p W=>Below w.heap.size w W) (fun _ _ _=>False) ?_ (fun _ _ _ _ h=>h.elim) ?_ ?_ ?_ ?_
 · intro p X Y h hp;exact Below.priv' h hp (Nat.le_refl _) h.size
 · intro W W1 hW hs;subst hs;exact hW
 · intro l pre x post W hx;simp at hx
 · exact fun D W h1 h2 h3=>hdone D W h1 h2 h3
 · intro D c pre post W _ _ h;exact h.elim
theorem next_nil:NextN [] 1:=⟨Nat.le_refl _,by simp,fun k h1 h2=>absurd h1 (by omega)⟩
theorem OldOk.new_ {gf:Nat} {lb:Array Value} {w w':World} {old:Sym→Bool} (h:OldOk gf lb w old) (hb:Below w.heap.size w w'):OldOk gf lb w' old:=⟨h.ent,fun s W hW=>h.call s W (hb.trans (hW.mono hb.size))⟩
abbrev repIntF:RepT Int:=RepT.flat 1 Int.cells1 Int.cells1_length
theorem rd_in {w:World} {A:Option Addr} {c B:Nat} {l:List Int} (h:RowRd w 1 Int.cells1 A c l) (hA:AIn A (B≤·)):RowR repIntF (fun k=>B≤k∧k<w.heap.size) w A c l:=by
 refine ⟨h.1,h.2.1,fun h0=>?_⟩;obtain ⟨b,off,hA2,hb,hc⟩:=h.2.2 h0;exact ⟨b,off,hA2,⟨hA _ hA2,hb⟩,hb,fun k hk=>⟨_,rfl,fun j u hu=>hc k hk j u hu⟩⟩
def PU (m:Nat) (r:Option (ProdT×List Int)) (B:Nat) (D:Nat→Prop) (w':World) (nm:ByteArray) (A1:Option Addr) (n1 c1:Nat) (A2:Option Addr) (n2 c2:Nat) (A3:Option Addr) (n3 c3:Nat):Prop:=
 match r with
 | none=>True
 | some (p,tags)=>nm=p.name∧n1=p.conds.length∧n2=p.acts.length∧n3=tags.length∧RowR (repCondT (m+1)) D w' A1 c1 p.conds∧RowR repActT D w' A2 c2 p.acts∧RowR repIntF D w' A3 c3 tags∧AIn A3 (B≤·)
theorem PU.keep {m B:Nat} {r:Option (ProdT×List Int)} {D D':Nat→Prop} {w w':World} {nm:ByteArray} {A1:Option Addr} {n1 c1:Nat} {A2:Option Addr} {n2 c2:Nat} {A3:Option Addr} {n3 c3:Nat} (h:PU m r B D w nm A1 n1 c1 A2 n2 c2 A3 n3 c3) (hs:w.heap.size≤w'.heap.size) (hk : ∀k,D k→k<w.heap.size→D' k∧w'.heap[k]? = w.heap[k]?):PU m r B D' w' nm A1 n1 c1 A2 n2 c2 A3 n3 c3:=by
 cases r with
 | none=>trivial
 | some pt=>exact ⟨h.1,h.2.1,h.2.2.1,h.2.2.2.1,h.2.2.2.2.1.keep hs hk,h.2.2.2.2.2.1.keep hs hk,h.2.2.2.2.2.2.1.keep hs hk,h.2.2.2.2.2.2.2⟩
theorem prod_unU {m:Nat} {r:Option (ProdT×List Int)} {X w':World} {e:Ending} (h:ProdTo m r X e w'):Below X.heap.size X w'∧∃nm A1 n1 c1 A2 n2 c2 A3 n3 c3,e = .returned (.tuple #[.agg #[.string nm,.slice A1 n1 c1,.slice A2 n2 c2],.slice A3 n3 c3,.bool r.isSome])∧PU m r X.heap.size (fun k=>X.heap.size≤k∧k<w'.heap.size) w' nm A1 n1 c1 A2 n2 c2 A3 n3 c3:=by
 obtain ⟨hb,h⟩:=h
 cases r with
 | none=>exact ⟨hb,_,none,0,0,none,0,0,none,0,0,h,trivial⟩
 | some pt=>
   obtain ⟨p,tags⟩:=pt;obtain ⟨A1,c1,A2,c2,A3,c3,he,h1,h2,h3,h4⟩:=h;exact ⟨hb,p.name,A1,_,c1,A2,_,c2,A3,_,c3,he,rfl,rfl,rfl,rfl,h1,h2,rd_in h3 h4,h4⟩
theorem PU.prodTo {m B:Nat} {r:Option (ProdT×List Int)} {D:Nat→Prop} {X w w':World} {nm:ByteArray} {A1:Option Addr} {n1 c1:Nat} {A2:Option Addr} {n2 c2:Nat} {A3:Option Addr} {n3 c3:Nat} (h:PU m r B D w nm A1 n1 c1 A2 n2 c2 A3 n3 c3) (hr:r.isSome=true) (hB:X.heap.size≤B) (hb:Below X.heap.size X w') (hs:w.heap.size≤w'.heap.size) (hk : ∀k,D k→k<w.heap.size→X.heap.size≤k∧w'.heap[k]? = w.heap[k]?) :
 ProdTo m r X (.returned (.tuple #[.agg #[.string nm,.slice A1 n1 c1,.slice A2 n2 c2],.slice A3 n3 c3,.bool true])) w':=by
 cases r with
 | none=>cases hr
 | some pt=>
   obtain ⟨p,tags⟩:=pt;obtain ⟨rfl,rfl,rfl,rfl,h1,h2,h3,h4⟩:=h;have hk2 : ∀k,D k→k<w.heap.size→(X.heap.size≤k∧k<w'.heap.size)∧w'.heap[k]? = w.heap[k]?:=fun k h1 h2=>⟨⟨(hk k h1 h2).1,by omega⟩,(hk k h1 h2).2⟩;exact ⟨hb,A1,c1,A2,c2,A3,c3,rfl,h1.keep hs hk2,h2.keep hs hk2,RowR.rd (hs:=Int.cells1_length) (h3.keep hs hk2),fun a ha=>Nat.le_trans hB (h4 a ha)⟩
theorem lchunk0_is (m:Nat) (room:Int) (hroom:1≤room) (tr:List TraceT) (AE:Option Addr) (cE:Nat) (AH:Option Addr) (cH:Nat) (AA:Option Addr) (cA:Nat) (news:List Sym) (AN:Option Addr) (cN:Nat) (tv tl:Int) {gf:Nat} {lb:Array Value} {old:Sym→Bool} (prefs:List PrefT) (AP:Option Addr) (cP:Nat) {gs:Nat} {ls:Array Value} {Kp:World→World→Prop} (X:World)
 (hO:OldOk gf lb X old) (h1:RowRd X 14 TraceT.cells AE cE tr) (h2:RowRd X 3 Sym.cells AN cN news) (h3:RowRd X 16 PrefT.cells AP cP prefs) (hl1:tr.length≤100) (hl3:prefs.length≤60) (hm:m≤1000) (hq:Seq gs ls encOPV [] X (fun X Y=>Y=X) Kp) :
 Calls Tryz.prog 130 #[.int .i64 room,.agg #[.slice AE tr.length cE,.slice AH 0 cH,.slice AA 0 cA,.slice AN news.length cN,.int .i64 tv,.int .i64 tl],.func (.func gf) #[] lb,.slice AP prefs.length cP,.func (.func gs) #[] ls] X (ProdTo m (prodV (m+1) (chunkB 1) (tr.map TraceT.elem) old news prefs) X):=by
 have HO:=Lib.hid hO;have H1:=Lib.hid h1;have H2:=Lib.hid h2;have H3:=Lib.hid h3;have HQ:=Lib.hid hq;(have d0:decide (room≤0)=false:=by simp;omega);(have d1 : ¬room≤0:=by omega);clear hO h1 h2 h3 hq;refine (callsIn_wide (n:=0)).1 ?_;refine callsIn_of_wp_marks Tryz.func130 rfl trivial ?_;simp only [Tryz.ntmps130,List.size_toArray,List.length_cons,List.length_nil,Nat.reduceAdd,Nat.reduceSub,Array.replicate_succ,Array.replicate_zero,List.push_toArray,List.append_toArray,List.nil_append,List.cons_append];(gi_wp2_with fail);simp only [Nat.add_assoc,Nat.reduceAdd];obtain ⟨W1,hW1⟩ : ∃W,W=(((((X.alloc (.cells #[.slice AE tr.length cE,.slice AH 0 cH,.slice AA 0 cA,.slice AN news.length cN,.int .i64 tv,.int .i64 tl] 38)).alloc (.cells #[.string ⟨#[]⟩,.slice none 0 0,.slice none 0 0] 45)).alloc (.cells #[.slice none 0 0] 46)).alloc (.cells #[.bool false] 4)).alloc (.cells #[.int .i64 0] 3)):=⟨_,rfl⟩;rw [← hW1];obtain ⟨bx,hbx⟩ : ∃b,b=X.heap.size:=⟨_,rfl⟩;have HB1:=Lib.hid (show Below X.heap.size X W1 by rw [hW1];exact (by repeat (first | exact Below.refl _ _ | refine Below.drew ?_ | refine Below.al ?_ _ | refine Below.sc ?_ _)));have K6:=Lib.hid (show Blk W1 (bx) 38 #[.slice AE tr.length cE,.slice AH 0 cH,.slice AA 0 cA,.slice AN news.length cN,.int .i64 tv,.int .i64 tl] by rw [hW1,hbx];have hh:=Blk.new X 38 #[.slice AE tr.length cE,.slice AH 0 cH,.slice AA 0 cA,.slice AN news.length cN,.int .i64 tv,.int .i64 tl];exact ((((hh.alloc _).alloc _).alloc _).alloc _));have K10:=Lib.hid (show Blk W1 (bx+1) 45 #[.string ⟨#[]⟩,.slice none 0 0,.slice none 0 0] by rw [hW1,hbx];have hh:=Blk.new (X.alloc (.cells #[.slice AE tr.length cE,.slice AH 0 cH,.slice AA 0 cA,.slice AN news.length cN,.int .i64 tv,.int .i64 tl] 38)) 45 #[.string ⟨#[]⟩,.slice none 0 0,.slice none 0 0];simp only [World.size_alloc,Nat.add_assoc,Nat.reduceAdd] at hh;exact (((hh.alloc _).alloc _).alloc _));have K11:=Lib.hid (show Blk W1 (bx+2) 46 #[.slice none 0 0] by rw [hW1,hbx];have hh:=Blk.new ((X.alloc (.cells #[.slice AE tr.length cE,.slice AH 0 cH,.slice AA 0 cA,.slice AN news.length cN,.int .i64 tv,.int .i64 tl] 38)).alloc (.cells #[.string ⟨#[]⟩,.slice none 0 0,.slice none 0 0] 45)) 46 #[.slice none 0 0];simp only [World.size_alloc,Nat.add_assoc,Nat.reduceAdd] at hh;exact ((hh.alloc _).alloc _));have K12:=Lib.hid (show Blk W1 (bx+3) 4 #[.bool false] by rw [hW1,hbx];have hh:=Blk.new (((X.alloc (.cells #[.slice AE tr.length cE,.slice AH 0 cH,.slice AA 0 cA,.slice AN news.length cN,.int .i64 tv,.int .i64 tl] 38)).alloc (.cells #[.string ⟨#[]⟩,.slice none 0 0,.slice none 0 0] 45)).alloc (.cells #[.slice none 0 0] 46)) 4 #[.bool false];simp only [World.size_alloc,Nat.add_assoc,Nat.reduceAdd] at hh;exact (hh.alloc _));have K13:=Lib.hid (show Blk W1 (bx+4) 3 #[.int .i64 0] by rw [hW1,hbx];have hh:=Blk.new ((((X.alloc (.cells #[.slice AE tr.length cE,.slice AH 0 cH,.slice AA 0 cA,.slice AN news.length cN,.int .i64 tv,.int .i64 tl] 38)).alloc (.cells #[.string ⟨#[]⟩,.slice none 0 0,.slice none 0 0] 45)).alloc (.cells #[.slice none 0 0] 46)).alloc (.cells #[.bool false] 4)) 3 #[.int .i64 0];simp only [World.size_alloc,Nat.add_assoc,Nat.reduceAdd] at hh;exact hh);have HBX:=Lib.hid hbx;rw [← hbx];clear hW1 hbx;refine wpIn_range0 (by rfl) (HQ.out.new_ HB1.out) (fun x=>by rfl) (fun D1 Wr hD1 hbr hK1=>?_);have HD1:=Lib.hid (show X.heap.size+5≤D1 by have:=K13.out.lt;have:=HBX.out;omega);have HKD:=Lib.hid hK1;have K6:=Lib.hid (K6.out.new_ hbr);have K10:=Lib.hid (K10.out.new_ hbr);have K11:=Lib.hid (K11.out.new_ hbr);have K12:=Lib.hid (K12.out.new_ hbr);have HB1:=Lib.hid (HB1.out.trans (hbr.mono HB1.out.size));have n0:=(K13.out.new_ hbr).c1;have nz:=(K13.out.new_ hbr).lt;clear hD1 hbr hK1 K13;(gi_wp2_with fail);obtain ⟨t0_,t1_,t2_,t3_,t4_,t5_⟩:=K6.out.c6;have tz:=K6.out.lt;obtain ⟨r,hr⟩ : ∃r,r=prodV (m+1) (chunkB 1) (tr.map TraceT.elem) old news prefs:=⟨_,rfl⟩;have HPC:=Lib.hid (show ∀W,Below X.heap.size X W→Calls Tryz.prog 20 #[.string (chunkB 1),.agg #[.slice AE tr.length cE,.slice AH 0 cH,.slice AA 0 cA,.slice AN news.length cN,.int .i64 tv,.int .i64 tl],.func (.func gf) #[] lb,.slice AP prefs.length cP] W (ProdTo m r W) from fun W hW=>by rw [hr];exact prod_is m (chunkB 1) tr AE cE AH cH AA cA news AN cN tv tl prefs AP cP W (HO.out.new_ hW) (H1.out.new_ hW) (H2.out.new_ hW) (H3.out.new_ hW) hl1 hl3 hm)
 rw [← hr];have HRE:=Lib.hid hr;have HBR:=Lib.hid (show bx+5≤Wr.heap.size from nz);clear hr n0 d0 d1;refine wpIn_wide.2 ?_;refine wp_region_Pl (fun w9=>Below Wr.heap.size Wr w9) [0,2,3,4,6,7,8,9,12,13] [2] (.fork [(0,0),(2,1),(3,0),(4,0)] 1 (.fork [] 5 (.fin [(6,0),(7,0),(8,0),(9,0),(10,2),(11,2),(12,0),(13,0)]) 10 (.fin [(5,2),(6,0),(7,0),(8,0),(9,0),(11,2),(12,0),(13,0)])) 10 (.fin [(1,2),(5,2),(6,0),(7,0),(8,0),(9,0),(11,2),(12,0),(13,0)])) (by kernel_rfl) (by kernel_rfl) (by kernel_rfl) (fun KK hKK=>?_);simp only [wpPl,beside,List.filterMap_cons,List.filterMap_nil,List.getElem?_toArray,List.getElem?_cons_zero,List.getElem?_cons_succ,Option.map_some];have HB:=Lib.hid (Below.refl Wr.heap.size Wr).drew;obtain ⟨V,hV⟩ : ∃V,V=Wr.drew:=⟨_,rfl⟩;have K10:=Lib.hid K10.out.drew;have K11:=Lib.hid K11.out.drew;have K12:=Lib.hid K12.out.drew;rw [← hV] at HB K10 K11 K12 ⊢;clear hV
 repeat' (first
  | ((first | (refine wpY_w ?_ (Or.inl ⟨by rfl,fun w9=>?_⟩) ?_;rotate_left 1;go_simp;with_reducible rfl) | (refine wpY_l ?_ (HB.out) (Or.inl ⟨by rfl,fun w9 hw9=>?_⟩) ?_;rotate_left 1;obtain ⟨hc9,hf9⟩:=bcell hw9;go_simp;with_reducible rfl) | refine wpY_w undef (Or.inr ⟨by rfl,rfl⟩) ?_ | refine wpY_l undef (HB.out) (Or.inr ⟨by rfl,rfl⟩) ?_);go_frame)
  | ((first | refine wpY_es (fun K9 hK9=>?_) | refine wpOp_cs rfl (fun K9 hK9=>?_));refine step_store_el rfl 45 _ _ rfl b14 0 #[.string nm,.slice A1 n1 c1,.slice A2 n2 c2] rfl rfl (show _ from K14.out.there) (by kernel_rfl) (by kernel_rfl) ?_;show K9 _ (V.setCells b14 0 [.string nm,.slice A1 n1 c1,.slice A2 n2 c2]);obtain ⟨VS,hVS⟩ : ∃V9,V9=V.setCells b14 0 [.string nm,.slice A1 n1 c1,.slice A2 n2 c2]:=⟨_,rfl⟩;have K14:=Lib.hid (show Blk VS b14 45 #[.string nm,.slice A1 n1 c1,.slice A2 n2 c2] by rw [hVS];exact K14.out.setAllD rfl);have K10:=Lib.hid (show Blk VS (bx+1) 45 #[.string ⟨#[]⟩,.slice none 0 0,.slice none 0 0] by rw [hVS];exact Blk.farCells _ _ K10.out (by have:=G14.out;have:=HBR.out;omega));have K11:=Lib.hid (show Blk VS (bx+2) 46 #[.slice none 0 0] by rw [hVS];exact Blk.farCells _ _ K11.out (by have:=G14.out;have:=HBR.out;omega));have K12:=Lib.hid (show Blk VS (bx+3) 4 #[.bool false] by rw [hVS];exact Blk.farCells _ _ K12.out (by have:=G14.out;have:=HBR.out;omega));have HBS:=Lib.hid (show Below Wr.heap.size Wr VS by rw [hVS];exact Below.setCells' _ _ HB.out G14.out);have HPU:=Lib.hid (show PU m r _ (fun k=>Wr.heap.size≤k∧k≠b14) VS nm A1 n1 c1 A2 n2 c2 A3 n3 c3 by rw [hVS];exact HPU.out.keep (by rw [size_setCells];exact Nat.le_refl _) (fun k hk _=>⟨hk,blk_setCells _ _ _ _ _ hk.2⟩));rw [← hVS];have HB:=HBS;clear hVS;(first | refine hK9 _ _ (HB.out) ?_ | refine hK9 _ _ (fun _=>HB.out) ?_);clear hK9 K9;(try go_frame);try simp only [beside,List.filterMap_nil])
  | ((first | refine wpY_es (fun K9 hK9=>?_) | refine wpOp_cs rfl (fun K9 hK9=>?_));go_simp;(first
    | (refine (lname_is (l:=[]) _ (HQ.out.new_ (HB1.out.trans (Below.mono HB.out HB1.out.size))) (by simp)).mono ?_;rintro e V ⟨n,hn,rfl,hb⟩;obtain rfl:n=1:=hn.one next_nil;(try have K10:=Lib.hid (K10.out.new_ hb));(try have K11:=Lib.hid (K11.out.new_ hb));(try have K12:=Lib.hid (K12.out.new_ hb));(try have K14:=Lib.hid (K14.out.new_ hb));(try have L14:=Lib.hid (Nat.lt_of_lt_of_le L14.out hb.size));have HB:=Lib.hid (HB.out.trans (hb.mono HB.out.size));clear hb hn)
    | (have HBB:=Lib.hid (show X.heap.size≤V.heap.size from Nat.le_trans HB1.out.size HB.out.size);have HBC:=Lib.hid (show Wr.heap.size≤V.heap.size from HB.out.size);refine (HPC.out _ (HB1.out.trans (Below.mono HB.out HB1.out.size))).mono ?_;intro e V hp;obtain ⟨hb,nm,A1,n1,c1,A2,n2,c2,A3,n3,c3,rfl,hpt⟩:=prod_unU hp;have HPT:=Lib.hid hpt;obtain ⟨o1,ho⟩ : ∃o,o=r.isSome:=⟨_,rfl⟩;have HO1:=Lib.hid ho;rw [← ho];(try have HPU:=Lib.hid (HPT.out.keep (D':=fun k=>Wr.heap.size≤k∧k≠b14) (Nat.le_refl _) (fun k hk _=>⟨⟨by have:=hk.1;have h1:=HBC.out;omega,by have:=hk.1;have h3:=L14.out;omega⟩,rfl⟩)));(try have K10:=Lib.hid (K10.out.new_ hb));(try have K11:=Lib.hid (K11.out.new_ hb));(try have K12:=Lib.hid (K12.out.new_ hb));(try have K14:=Lib.hid (K14.out.new_ hb));(try have L14:=Lib.hid (Nat.lt_of_lt_of_le L14.out hb.size));have HB:=Lib.hid (HB.out.trans (hb.mono HB.out.size));clear hb hp hpt ho)
    | (obtain ⟨b14,hg⟩ : ∃g,g=V.heap.size:=⟨_,rfl⟩;have hk:=Blk.new V 45 #[.string ⟨#[]⟩,.slice none 0 0,.slice none 0 0];have hb:Below V.heap.size V (V.alloc (.cells #[.string ⟨#[]⟩,.slice none 0 0,.slice none 0 0] 45)):=(Below.refl _ _).alloc (Nat.le_refl _) _;have G14:=Lib.hid (show Wr.heap.size≤b14 by rw [hg];exact HB.out.size);obtain ⟨V,hV⟩ : ∃V9,V9=V.alloc (.cells #[.string ⟨#[]⟩,.slice none 0 0,.slice none 0 0] 45):=⟨_,rfl⟩;rw [← hV] at hb;rw [← hV,← hg] at hk;(try have K10:=Lib.hid (K10.out.new_ hb));(try have K11:=Lib.hid (K11.out.new_ hb));(try have K12:=Lib.hid (K12.out.new_ hb));(try have K14:=Lib.hid (K14.out.new_ hb));(try have L14:=Lib.hid (Nat.lt_of_lt_of_le L14.out hb.size));have HB:=Lib.hid (HB.out.trans (hb.mono HB.out.size));have K14:=Lib.hid hk;have L14:=Lib.hid (show b14<V.heap.size from K14.out.lt);(try have HPU:=Lib.hid (HPT.out.keep (D':=fun k=>Wr.heap.size≤k∧k≠b14) hb.size (fun k hk hl=>⟨⟨by have:=hk.1;have h1:=HBC.out;omega,by have:=hk.2;omega⟩,hb.block k hl⟩)));rw [← hV,← hg];clear hV hg hb hk) | fail);(first | refine hK9 _ _ (HB.out) ?_ | refine hK9 _ _ (fun _=>HB.out) ?_);clear hK9 K9;(try go_frame);try simp only [beside,List.filterMap_nil])
  | (refine wpY_nil ⟨?_,?_⟩) | fail)
 all_goals
  refine wpY_nil ?_;simp only [OnlyN_normal];refine hKK _ _ ?_;clear hKK KK;cases o1
  · have HBY:=Lib.hid (HB1.out.trans (HBS.out.mono HB1.out.size))
    obtain ⟨u0,u1,u2⟩:=K10.out.c3;have uf0:=K10.out.frozen 0;have uf1:=K10.out.frozen 1;have uf2:=K10.out.frozen 2;have uz:=K10.out.lt;have v0:=K11.out.c1;have vf0:=K11.out.frozen 0;have vz:=K11.out.lt;have y0:=K12.out.c1;have yf0:=K12.out.frozen 0;have yz:=K12.out.lt;(gi_wp2_with fail);clear u0 u1 u2 uf0 uf1 uf2 uz v0 vf0 vz y0 yf0 yz;obtain ⟨VF,hVF⟩ : ∃V,V=(((((VS.setCell ⟨bx+1,0,none⟩ (Value.string ⟨#[]⟩)).setCell ⟨bx+1,1,none⟩ (Value.slice none 0 0)).setCell ⟨bx+1,2,none⟩ (Value.slice none 0 0)).setCell ⟨bx+2,0,none⟩ (Value.slice none 0 0)).setCell ⟨bx+3,0,none⟩ (.bool false)):=⟨_,rfl⟩;have FF:=Lib.hid (show Fr (fun k=>k=bx+1∨k=bx+2∨k=bx+3) VS VF by rw [hVF];exact ((((((Fr.refl _ _).setCell (p:=⟨bx+1,0,none⟩) (.inl (.inl rfl)) _).setCell (p:=⟨bx+1,1,none⟩) (.inl (.inl rfl)) _).setCell (p:=⟨bx+1,2,none⟩) (.inl (.inl rfl)) _).setCell (p:=⟨bx+2,0,none⟩) (.inl (.inr (.inl rfl))) _).setCell (p:=⟨bx+3,0,none⟩) (.inl (.inr (.inr rfl))) _));have F10:=Lib.hid (show Blk VF (bx+1) 45 #[.string ⟨#[]⟩,.slice none 0 0,.slice none 0 0] by rw [hVF];have:=(((((K10.out.set_ 0 (Value.string ⟨#[]⟩)).set_ 1 (Value.slice none 0 0)).set_ 2 (Value.slice none 0 0)).far (p:=⟨bx+2,0,none⟩) (by simp) (Value.slice none 0 0)).far (p:=⟨bx+3,0,none⟩) (by simp) (.bool false));simpa using this);have F11:=Lib.hid (show Blk VF (bx+2) 46 #[.slice none 0 0] by rw [hVF];have:=(((((K11.out.far (p:=⟨bx+1,0,none⟩) (by simp) (Value.string ⟨#[]⟩)).far (p:=⟨bx+1,1,none⟩) (by simp) (Value.slice none 0 0)).far (p:=⟨bx+1,2,none⟩) (by simp) (Value.slice none 0 0)).set_ 0 (Value.slice none 0 0)).far (p:=⟨bx+3,0,none⟩) (by simp) (.bool false));simpa using this);have F12:=Lib.hid (show Blk VF (bx+3) 4 #[.bool false] by rw [hVF];have:=(((((K12.out.far (p:=⟨bx+1,0,none⟩) (by simp) (Value.string ⟨#[]⟩)).far (p:=⟨bx+1,1,none⟩) (by simp) (Value.slice none 0 0)).far (p:=⟨bx+1,2,none⟩) (by simp) (Value.slice none 0 0)).far (p:=⟨bx+2,0,none⟩) (by simp) (Value.slice none 0 0)).set_ 0 (.bool false));simpa using this);have HBF:=Lib.hid (show Below X.heap.size X VF from HBY.out.trans (FF.out.below HBY.out.size (fun k hk hm=>by have:=HBX.out;omega)));rw [← hVF];clear hVF;have hl1:D1<Wr.heap.size:=(Array.getElem?_eq_some_iff.1 HKD.out).1;have HKV:VF.heap[D1]? = some (.deferred (some [])):=(FF.out.block D1 (Nat.lt_of_lt_of_le hl1 HBS.out.size) (fun hm=>by have:=HD1.out;have:=HBX.out;omega)).trans ((HBS.out.block D1 hl1).trans HKD.out);refine ⟨by simp,.inl ⟨_,_,rfl,run_takeDeferred HKV,?_⟩⟩;have hpv:Priv X.heap.size VF (VF.putObj D1 (.deferred none)):=(Priv.refl _ _).putObj (by have:=HD1.out;omega) HKV rfl _;obtain ⟨VP,hVP⟩ : ∃V,V=VF.putObj D1 (.deferred none):=⟨_,rfl⟩;rw [← hVP] at hpv ⊢;obtain ⟨u0,u1,u2⟩:=(F10.out.priv hpv).c3;have v0:=(F11.out.priv hpv).c1;have y0:=(F12.out.priv hpv).c1;have hrn:r=none:=Option.not_isSome_iff_eq_none.1 (by rw [← HO1.out];simp);refine ⟨.tuple #[.agg #[.string ⟨#[]⟩,.slice none 0 0,.slice none 0 0],.slice none 0 0,.bool false],?_,ProdTo.no (HRE.out.symm.trans hrn) (Below.priv' HBF.out hpv (Nat.le_refl _) HBF.out.size)⟩;simp [results,Tryz.results130,go_sem,u0,u1,u2,v0,y0]
  · gi_wp2_with fail
    refine wpIn_range0 (by rfl) (HQ.out.new_ (HB1.out.trans (HBS.out.mono HB1.out.size))) (fun x=>by rfl) (fun D2 Wq hD2 hbq hK2=>?_);have HD2:=Lib.hid (show VS.heap.size≤D2 from hD2);have HKE:=Lib.hid hK2;have K10:=Lib.hid (K10.out.new_ hbq);have K11:=Lib.hid (K11.out.new_ hbq);have K12:=Lib.hid (K12.out.new_ hbq);have K14:=Lib.hid (K14.out.new_ hbq);have HPU:=Lib.hid (HPU.out.keep (D':=fun k=>Wr.heap.size≤k∧k<VS.heap.size) hbq.size (fun k hk hl=>⟨⟨hk.1,hl⟩,hbq.block k hl⟩));have HBY:=Lib.hid (HB1.out.trans ((HBS.out.trans (hbq.mono HBS.out.size)).mono HB1.out.size));have HBQ:=Lib.hid (HBS.out.trans (hbq.mono HBS.out.size));clear hD2 hbq hK2;obtain ⟨p0,p1,p2⟩:=K14.out.c3;have pz:=K14.out.lt;obtain ⟨u0,u1,u2⟩:=K10.out.c3;have uf0:=K10.out.frozen 0;have uf1:=K10.out.frozen 1;have uf2:=K10.out.frozen 2;have uz:=K10.out.lt;have v0:=K11.out.c1;have vf0:=K11.out.frozen 0;have vz:=K11.out.lt;have y0:=K12.out.c1;have yf0:=K12.out.frozen 0;have yz:=K12.out.lt;(gi_wp2_with fail);clear u0 u1 u2 uf0 uf1 uf2 uz v0 vf0 vz y0 yf0 yz;clear p0 p1 p2 pz;obtain ⟨VF,hVF⟩ : ∃V,V=(((((Wq.setCell ⟨bx+1,0,none⟩ (Value.string nm)).setCell ⟨bx+1,1,none⟩ (Value.slice A1 n1 c1)).setCell ⟨bx+1,2,none⟩ (Value.slice A2 n2 c2)).setCell ⟨bx+2,0,none⟩ (Value.slice A3 n3 c3)).setCell ⟨bx+3,0,none⟩ (.bool true)):=⟨_,rfl⟩;have FF:=Lib.hid (show Fr (fun k=>k=bx+1∨k=bx+2∨k=bx+3) Wq VF by rw [hVF];exact ((((((Fr.refl _ _).setCell (p:=⟨bx+1,0,none⟩) (.inl (.inl rfl)) _).setCell (p:=⟨bx+1,1,none⟩) (.inl (.inl rfl)) _).setCell (p:=⟨bx+1,2,none⟩) (.inl (.inl rfl)) _).setCell (p:=⟨bx+2,0,none⟩) (.inl (.inr (.inl rfl))) _).setCell (p:=⟨bx+3,0,none⟩) (.inl (.inr (.inr rfl))) _));have F10:=Lib.hid (show Blk VF (bx+1) 45 #[.string nm,.slice A1 n1 c1,.slice A2 n2 c2] by rw [hVF];have:=(((((K10.out.set_ 0 (Value.string nm)).set_ 1 (Value.slice A1 n1 c1)).set_ 2 (Value.slice A2 n2 c2)).far (p:=⟨bx+2,0,none⟩) (by simp) (Value.slice A3 n3 c3)).far (p:=⟨bx+3,0,none⟩) (by simp) (.bool true));simpa using this);have F11:=Lib.hid (show Blk VF (bx+2) 46 #[.slice A3 n3 c3] by rw [hVF];have:=(((((K11.out.far (p:=⟨bx+1,0,none⟩) (by simp) (Value.string nm)).far (p:=⟨bx+1,1,none⟩) (by simp) (Value.slice A1 n1 c1)).far (p:=⟨bx+1,2,none⟩) (by simp) (Value.slice A2 n2 c2)).set_ 0 (Value.slice A3 n3 c3)).far (p:=⟨bx+3,0,none⟩) (by simp) (.bool true));simpa using this);have F12:=Lib.hid (show Blk VF (bx+3) 4 #[.bool true] by rw [hVF];have:=(((((K12.out.far (p:=⟨bx+1,0,none⟩) (by simp) (Value.string nm)).far (p:=⟨bx+1,1,none⟩) (by simp) (Value.slice A1 n1 c1)).far (p:=⟨bx+1,2,none⟩) (by simp) (Value.slice A2 n2 c2)).far (p:=⟨bx+2,0,none⟩) (by simp) (Value.slice A3 n3 c3)).set_ 0 (.bool true));simpa using this);have HBF:=Lib.hid (show Below X.heap.size X VF from HBY.out.trans (FF.out.below HBY.out.size (fun k hk hm=>by have:=HBX.out;omega)));rw [← hVF];clear hVF;have hl1:D1<Wr.heap.size:=(Array.getElem?_eq_some_iff.1 HKD.out).1;have hz1:=HBS.out.size;have hz2:=HBR.out;have hz3:=HD2.out;have hz4:=HBX.out;have HKV:VF.heap[D2]? = some (.deferred (some [])):=(FF.out.block D2 (Array.getElem?_eq_some_iff.1 HKE.out).1 (fun hm=>by omega)).trans HKE.out
    refine ⟨by simp,.inl ⟨_,_,rfl,run_takeDeferred HKV,?_⟩⟩;have hpv:Priv X.heap.size VF (VF.putObj D2 (.deferred none)):=(Priv.refl _ _).putObj (by omega) HKV rfl _;have HK1:(VF.putObj D2 (.deferred none)).heap[D1]? = some (.deferred (some [])):=(World.putObj_heap_other (by omega)).trans ((FF.out.block D1 (Nat.lt_of_lt_of_le hl1 HBQ.out.size) (fun hm=>by have:=HD1.out;omega)).trans ((HBQ.out.block D1 hl1).trans HKD.out));refine ⟨by simp,.inl ⟨_,_,rfl,run_takeDeferred HK1,?_⟩⟩;have hpv2:=hpv.putObj (l:=D1) (by have:=HD1.out;omega) HK1 rfl (.deferred none);have hsame : ∀k,Wr.heap.size≤k∧k<VS.heap.size→k<Wq.heap.size→X.heap.size≤k∧((VF.putObj D2 (.deferred none)).putObj D1 (.deferred none)).heap[k]? = Wq.heap[k]?:=fun k hk hl=>⟨by omega,(World.putObj_heap_other (by omega)).trans ((World.putObj_heap_other (by omega)).trans (FF.out.block k hl (fun hm=>by omega)))⟩;obtain ⟨VP,hVP⟩ : ∃V,V=(VF.putObj D2 (.deferred none)).putObj D1 (.deferred none):=⟨_,rfl⟩;rw [← hVP] at hpv2 hsame ⊢;obtain ⟨u0,u1,u2⟩:=(F10.out.priv hpv2).c3;have v0:=(F11.out.priv hpv2).c1;have y0:=(F12.out.priv hpv2).c1;rw [← HRE.out];refine ⟨.tuple #[.agg #[.string nm,.slice A1 n1 c1,.slice A2 n2 c2],.slice A3 n3 c3,.bool true],?_,HPU.out.prodTo HO1.out.symm HBB.out (Below.priv' HBF.out hpv2 (Nat.le_refl _) HBF.out.size) (Nat.le_trans FF.out.size hpv2.size) hsame⟩;simp [results,Tryz.results130,go_sem,u0,u1,u2,v0,y0]
end
section
open Go.RowKit
def zRec:RecordT:=⟨0,0,[],[],[],[]⟩
def lookR (l:List RecordT) (k:Int):RecordT×Bool:=match l.find? (fun r=>r.num == k) with | some r=>(r,true) | none=>(zRec,false)
theorem lookR_is {l:List RecordT} {k:Int} {i:Nat} (hi:i<l.length) (hk:l[i].num=k) (hj : ∀j,(h:j<l.length)→j<i→l[j].num≠k):lookR l k=(l[i],true):=by
 have:l.find? (fun r=>r.num == k)=some l[i]:=by
  rw [List.find?_eq_some_iff_getElem];exact ⟨by simpa using hk,i,hi,rfl,fun j h=>by simpa using hj j (by omega) h⟩
 unfold lookR;rw [this]
theorem lookR_no {l:List RecordT} {k:Int} (hj : ∀j,(h:j<l.length)→l[j].num≠k):lookR l k=(zRec,false):=by
 have:l.find? (fun r=>r.num == k)=none:=by
  rw [List.find?_eq_none];intro x hx;obtain ⟨j,h,rfl⟩:=List.getElem_of_mem hx;simpa using hj j h
 unfold lookR;rw [this]
theorem lookR_num {l:List RecordT} {k:Int} (h:(lookR l k).2=true):(lookR l k).1∈l∧(lookR l k).1.num=k:=by
 unfold lookR at h ⊢
 cases hf:l.find? (fun r=>r.num == k) with
 | none=>rw [hf] at h;cases h
 | some r=>exact ⟨List.mem_of_find?_eq_some hf,by simpa using List.find?_some hf⟩
theorem lookR_none {l:List RecordT} {k:Int} (h:(lookR l k).2=false):(lookR l k).1=zRec:=by
 unfold lookR at h ⊢
 cases hf:l.find? (fun r=>r.num == k) with
 | none=>rfl
 | some r=>rw [hf] at h;cases h
def Ans (n:Nat) (x:RecordT×Bool) (D:Nat→Prop) (e:Ending) (w':World):Prop:=
 ∃A1 c1 A2 c2 A3 c3 A4 c4,e = .returned (.tuple #[.agg #[.int .i64 x.1.num,.int .i64 x.1.level,.slice A1 x.1.elems.length c1,.slice A2 x.1.holes.length c2,.slice A3 x.1.aparts.length c3,.slice A4 x.1.news.length c4],.bool x.2])∧RecAt n D w' x.1 A1 c1 A2 c2 A3 c3 A4 c4
structure FindSpec (n B:Nat) (gf:Nat) (lb:Array Value) (look:Int→RecordT×Bool) (G:(Nat→Prop)→List Int→World→Prop):Prop where
 enter : ∀args w,(callFunc gf args).run Tryz.prog w = .ok (.enter gf args) w
 lt : ∀{E ks w},G E ks w→∀k,E k→k<w.heap.size
 steady : ∀{E:Nat→Prop} {ks:List Int} {w w':World} {M:Nat→Prop},G E ks w→Fr M w w'→(∀k,M k→¬E k∧B≤k)→G E ks w'
 call : ∀{E ks w} (k:Int),ks.length≤100000→k ∉ ks→G E ks w→Calls Tryz.prog gf (#[.int .i64 k]++lb) w fun e w'=>∃E',G E' (ks ++ [k]) w'∧(∀j,E' j→Plus E w w' j)∧Fr E w w'∧Ans n (look k) (fun j=>NewD w.heap.size w' j∧¬E' j) e w'
theorem FindSpec.up {n B B' gf:Nat} {lb:Array Value} {look:Int→RecordT×Bool} {G:(Nat→Prop)→List Int→World→Prop} (h:FindSpec n B gf lb look G) (hB:B≤B'):FindSpec n B' gf lb look G:=
 ⟨h.enter,h.lt,fun hG hF hM=>h.steady hG hF (fun k hk=>⟨(hM k hk).1,Nat.le_trans hB (hM k hk).2⟩),h.call⟩
theorem recat0 {n:Nat} (D:Nat→Prop) (w:World):RecAt n D w zRec none 0 none 0 none 0 none 0:=⟨RowR.nil _ _ _,RowR.nil _ _ _,RowR.nil _ _ _,RowR.nil _ _ _⟩
theorem mkfind_is (l:List RecordT) (A:Option Addr) (c:Nat) (w:World) :
 Calls Tryz.prog 78 #[.slice A l.length c] w fun e w'=>e = .returned (.func (.func 131) #[] #[.pointer (some ⟨w.heap.size,0,none⟩)])∧Below w.heap.size w w'∧Blk w' w.heap.size 122 #[.slice A l.length c]:=by
 go_enter Tryz.func78,Tryz.ntmps78;go_wp2;go_ret;exact ⟨rfl,(Below.refl _ _).alloc (Nat.le_refl _) _,Blk.new _ _ _⟩
end
section
open Go.RowKit
def QRow (w:World) (e:TypeId) (size:Nat) (v:Value) (n:Nat) (xs:List Value):Prop:=
 ∃A cap,v = .slice A n cap∧n≤cap∧cap≤maxLen∧xs.length=n*size∧(A=none→cap=0)∧
  ∀b,A=some b→b.spot=none∧(cap=0∨∃cur,Blk w b.block e cur∧b.off+cap*size≤cur.size)∧∀j u,xs[j]? = some u→w.cell? ⟨b.block,b.off+j,none⟩=some u
section
variable {w w':World} {e:TypeId} {size n:Nat} {v:Value} {xs:List Value}
theorem QRow.form (h:QRow w e size v n xs) : ∃A cap,v = .slice A n cap∧n≤cap∧cap≤maxLen:=by
 obtain ⟨A,cap,rfl,h1,h2,_⟩:=h;exact ⟨A,cap,rfl,h1,h2⟩
theorem QRow.of_own (h:w.ownsRow 0 e size v n xs):QRow w e size v n xs:=by
 rcases ownsRow_form h with ⟨rfl,rfl,rfl⟩ | ⟨g,cap,rfl,h1,h2,⟨cur,hb,hs⟩,h3,h4⟩
 · exact ⟨none,0,rfl,Nat.le_refl _,Nat.zero_le _,by simp,fun _=>rfl,fun b hb=>by cases hb⟩
 · exact ⟨_,cap,rfl,h1,h2,h3,fun h=>by (cases h),fun b hb'=>by cases hb';exact ⟨rfl,.inr ⟨cur,hb,by simp [hs]⟩,fun j u hu=>by simpa using h4 j u hu⟩⟩
theorem QRow.keep {M:Nat→Prop} (h:QRow w e size v n xs) (hF:Fr M w w') (hm : ∀k,v.ownBlock=some k→¬M k) (hlt : ∀k,v.ownBlock=some k→k<w.heap.size):QRow w' e size v n xs:=by
 obtain ⟨A,cap,rfl,h1,h2,h3,h4,h5⟩:=h;refine ⟨A,cap,rfl,h1,h2,h3,h4,fun b hb=>?_⟩;subst hb;obtain ⟨g1,g2,g3⟩:=h5 b rfl;have hk:=hm b.block rfl;have hl:=hlt b.block rfl;exact ⟨g1,g2.imp id (fun ⟨cur,hc,hs⟩=>⟨cur,hc.fr hF hk,hs⟩),fun j u hu=>(hF.cell (p:=⟨b.block,b.off+j,none⟩) hl hk).trans (g3 j u hu)⟩
theorem QRow.new_ (h:QRow w e size v n xs) (hb:Below w.heap.size w w') (hlt : ∀k,v.ownBlock=some k→k<w.heap.size):QRow w' e size v n xs:=
 h.keep (M:=fun _=>False) (Fr.of_new hb) (fun _ _ h=>h) hlt
theorem QRow.head {A:Option Addr} {m cap:Nat} (h:QRow w e 1 (.slice A (m+1) cap) (m+1) xs) : ∃b off x,A=some ⟨b,off,none⟩∧m+1≤cap∧xs[0]? = some x∧w.cell? ⟨b,off,none⟩=some x:=by
 obtain ⟨A',cap',hv,h1,h2,h3,h4,h5⟩:=h;injection hv with e1 e2 e3;subst e1;subst e3
 cases A with
 | none=>have:=h4 rfl;omega
 | some b=>
   obtain ⟨g1,g2,g3⟩:=h5 b rfl;obtain ⟨bb,off,sp⟩:=b;dsimp only at g1;subst g1
   cases xs with
   | nil=>simp at h3
   | cons x xs=>exact ⟨bb,off,x,rfl,h1,rfl,by simpa using g3 0 x rfl⟩
theorem QRow.tail {b off m cap:Nat} {x:Value} (h:QRow w e 1 (.slice (some ⟨b,off,none⟩) (m+1) cap) (m+1) (x :: xs)):QRow w e 1 (.slice (if cap=1 then some ⟨b,off,none⟩ else some ⟨b,off+1,none⟩) m (cap - 1)) m xs:=by
 obtain ⟨A',cap',hv,h1,h2,h3,h4,h5⟩:=h;injection hv with e1 e2 e3;subst e1;subst e3;obtain ⟨_,g2,g3⟩:=h5 _ rfl;(have hx:xs.length=m*1:=by simp at h3 ⊢;omega);by_cases hc:cap=1
 · rw [if_pos hc]
   (have hm:m=0:=by omega);have:xs = []:=List.eq_nil_of_length_eq_zero (by omega);subst this;exact ⟨_,cap - 1,rfl,by omega,by omega,hx,fun h=>(by cases h),fun b' hb'=>by cases hb';exact ⟨rfl,.inl (by omega),fun j u hu=>by simp at hu⟩⟩
 · rw [if_neg hc]
   refine ⟨_,cap - 1,rfl,by omega,by omega,hx,fun h=>(by cases h),fun b' hb'=>?_⟩;injection hb' with hb';subst hb';refine ⟨rfl,.inr ?_,fun j u hu=>?_⟩
   · rcases g2 with g2 | ⟨cur,hc,hs⟩
     · omega
     · exact ⟨cur,hc,by dsimp only at hs ⊢;omega⟩
   · have:=g3 (j+1) u (by simpa using hu)
     dsimp only at this ⊢;rwa [show off+1+j=off+(j+1) by omega]
end
section
variable {P:Program} (w:World)
theorem wpList_append_Q {ops:Array Oper} {rest:List Oper} {o:Oper} {a:Act} {Q:Exit→Act→World→Prop} (hgd:o.guard=none) (s x:Operand) (t:TypeId)
 (ho:o.op = .call { callee:=.builtin .append,args:=#[s,x],argTypes:=#[t,t] })
 (e:TypeId) (i:TypeInfo) (z:Value) (size bytes:Nat) (ht:P.underlying t=some (.slice e)) (hi:P.info? e=some i) (hz:i.zero=some z)
 (hsize:i.size=size) (hby:i.bytes=bytes) (hzs:z.cells.size=size) (hsz:0<size)
 (v:Value) (n:Nat) (xs:List Value) (hs:a.eval s=v) (hown:QRow w e size v n xs)
 (ad:Addr) (c:Nat) (news:List Value) (hx:a.eval x = .slice (some ad) 1 c) (hn:news.length=size)
 (hnews : ∀j u,news[j]? = some u→w.cell? (ad.add j)=some u) (h1 : ∀u∈news,u.oneCell'=true)
 (h63:n+1≤maxLen) (hbytes:(n+1)*bytes≤140737488355328)
 (h : ∀v' w',QRow w' e size v' (n+1) (xs++news)→Fr (fun k=>v.ownBlock=some k) w w'→(∀g t cs,t≠e→Blk w g t cs→Blk w' g t cs)→(v'.ownBlock=v.ownBlock∨∀k,v'.ownBlock=some k→w.heap.size≤k∧k<w'.heap.size)→wpList P ops Q rest (a.put o.dst v') w') :
 wpList P ops Q (o :: rest) a w:=by
 have fin : ∀v' w',w'.ownsRow w.heap.size e size v' (n+1) (xs++news)→w.grownBy w' none→wpList P ops Q rest (a.put o.dst v') w':=fun v' w' g1 g2=>by
  have g0:w'.ownsRow 0 e size v' (n+1) (xs++news):=⟨g1.1,g1.2.imp id fun ⟨g,cap,cur,hv,h0,hr⟩=>⟨g,cap,cur,hv,Nat.zero_le _,hr⟩⟩;have hF:Fr (fun k=>v.ownBlock=some k) w w':=(Fr.refl _ w).grown g2 (fun k hk=>by cases hk);refine h v' w' (.of_own g0) hF (fun g t cs _ hb=>hb.grown g2 (by simp)) (.inr fun k hk=>⟨?_,own_lt g0 k hk⟩);rcases g1.2 with ⟨rfl,hn0⟩ | ⟨g,cap,cur,rfl,hb,_⟩
  · omega
  · simp only [Value.ownBlock,Option.some.injEq] at hk
    omega
 obtain ⟨A,cap,rfl,q1,q2,q3,q4,q5⟩:=hown;by_cases hr:n+1≤cap
 · cases A with
   | none=>have:=q4 rfl;omega
   | some b=>
     obtain ⟨b,off,sp⟩:=b;obtain ⟨g1,g2,g3⟩:=q5 _ rfl;dsimp only at g1;subst g1
     obtain ⟨cur,hcur,hcs⟩ : ∃cur,Blk w b e cur∧off+cap*size≤cur.size:=by
      rcases g2 with g2 | g2
      · omega
      · exact g2
     have hmul:(n+1)*size≤cap*size:=Nat.mul_le_mul_right _ hr;rw [Nat.add_mul] at hmul;refine wpList_append_arg w hgd s x t ho e i z size bytes ht hi hz hsize hby hzs hsz b off n cap xs hs q3 (fun j u hu=>by simpa using g3 j u hu) ad 1 c news hx (by omega) hnews h1 (fun _ j hj=>?_) h63 hbytes (fun _=>?_) (fun hc=>by omega)
     · rw [hcur.cell]
       exact ⟨by rw [Array.getElem?_eq_getElem (by omega)];rfl,hcur.frozen _⟩
     · have hF:Fr (fun k=>(Value.slice (some ⟨b,off,none⟩) n cap).ownBlock=some k) w (w.setCells b (off+n*size) news):=Fr.setCells news _ (Fr.refl _ w) (.inl rfl)
       obtain ⟨cur',hb',hz'⟩:=Blk.setCells_ news (off+n*size) hcur;refine h _ _ ⟨some ⟨b,off,none⟩,cap,rfl,hr,q2,by rw [List.length_append,q3,hn,Nat.add_mul];omega,fun h=>(by cases h),fun b2 hb2=>?_⟩ hF (fun g t cs hne hb=>?_) (.inl rfl)
       · injection hb2 with hb2
         subst hb2;refine ⟨rfl,.inr ⟨cur',hb',by rw [hz'];exact hcs⟩,fun j u hu=>?_⟩;dsimp only;rcases Nat.lt_or_ge j xs.length with hj | hj
         · rw [List.getElem?_append_left hj] at hu
           have hra:w.rangeAt b off xs:=fun j v hv=>g3 j v hv;exact World.rangeAt_setCells_apart hra b (off+n*size) news (.inr (.inl (by rw [q3];omega))) j u hu
         · rw [List.getElem?_append_right hj] at hu
           have hth:w.there b (off+n*size) news.length:=fun k hk=>by
            rw [hcur.cell];exact ⟨by rw [Array.getElem?_eq_getElem (by omega)];rfl,hcur.frozen _⟩
           have:=World.rangeAt_setCells_same w b (off+n*size) news hth (j - xs.length) u hu;rwa [show off+n*size+(j - xs.length)=off+j by omega] at this
       · exact Blk.farCells news _ hb (fun e2=>by subst e2;exact hb.ne_ hcur hne rfl)
 · have hA : ∀b,A=some b→b=⟨b.block,b.off,none⟩:=fun b hb=>by
    have:=(q5 b hb).1;obtain ⟨_,_,_⟩:=b;dsimp only at this;subst this;rfl
   refine wpList_append_grows w hgd s x t ho e i z size bytes ht hi hz hsize hby hzs hsz A n cap xs hs (fun hn=>by have:=q4 hn;exact ⟨by omega,this⟩) q3 (fun b hb j u hu=>?_) ad 1 c news hx (by omega) hnews h1 (by omega) h63 hbytes fin;rw [hA b hb];have:=(q5 b hb).2.2 j u hu;rwa [Go.WideShapes.add_plain]
end
end
section
open Go.RowKit
abbrev Bnum:=Int
def Bnum.cells (n:Bnum):List Value:=[.int .i64 n]
theorem Bnum.cells_length (n:Bnum):(Bnum.cells n).length=1:=rfl
def cmpBnum (a b:Bnum):Int:=cmpInt a b
theorem tc_bnum:TC cmpBnum:=tc_int
theorem cmp_bnum (a b:Bnum) (w:World):Calls Tryz.prog 334 #[.int .i64 a,.int .i64 b] w fun e w'=>e = .returned (.int .i64 (cmpBnum a b))∧Below w.heap.size w w':=by
 go_enter Tryz.func334,Tryz.ntmps334;go_wp2
 all_goals (go_ret;refine ⟨?_,Below.refl _ _⟩;unfold cmpBnum cmpInt;(repeat' split)<;>first | rfl | (exfalso;omega))
end
section
open Go.RowKit
structure Sl where
 A:Option Addr
 n:Nat
 c:Nat
structure PgR where
 kk:Int
 num:Int
 level:Int
 elems:Sl
 holes:Sl
 aparts:Sl
 news:Sl
def PgR.cells (x:PgR):List Value:=[.int .i64 x.kk,.int .i64 x.num,.int .i64 x.level,.slice x.elems.A x.elems.n x.elems.c,.slice x.holes.A x.holes.n x.holes.c,.slice x.aparts.A x.aparts.n x.aparts.c,.slice x.news.A x.news.n x.news.c]
theorem PgR.cells_length (x:PgR):x.cells.length=7:=rfl
def cmpPgR (a b:PgR):Int:=cmpInt a.kk b.kk
theorem tc_pgr:TC cmpPgR:=⟨fun _=>tc_int.refl _,fun _ _=>tc_int.symm _ _,fun _ _ _=>tc_int.trans _ _ _⟩
theorem nilAhead_kPgR (k : Int) (w : World) : (nilAhead 555 259 (.int .i64 k) "Compare").run Tryz.prog w = .ok (some false) w := by kernel_rfl
theorem method_kPgR (k : Int) (w : World) : (method 555 259 (.int .i64 k) "Compare").run Tryz.prog w = .ok (334, .int .i64 k) w := by kernel_rfl
theorem cmp_pgr (a b:PgR) (w:World):Calls Tryz.prog 345 #[.agg #[.int .i64 a.kk,.int .i64 a.num,.int .i64 a.level,.slice a.elems.A a.elems.n a.elems.c,.slice a.holes.A a.holes.n a.holes.c,.slice a.aparts.A a.aparts.n a.aparts.c,.slice a.news.A a.news.n a.news.c],.agg #[.int .i64 b.kk,.int .i64 b.num,.int .i64 b.level,.slice b.elems.A b.elems.n b.elems.c,.slice b.holes.A b.holes.n b.holes.c,.slice b.aparts.A b.aparts.n b.aparts.c,.slice b.news.A b.news.n b.news.c]] w fun e w'=>e = .returned (.int .i64 (cmpPgR a b))∧Below w.heap.size w w':=by
 have N:=nilAhead_kPgR;have M:=method_kPgR;go_enter Tryz.func345,Tryz.ntmps345;(go_wp2_with fail);refine (cmp_bnum a.kk b.kk _).mono ?_;rintro e w1 ⟨rfl,hb1⟩;have HB1:=Lib.hid ((((Below.refl w.heap.size w).alloc (Nat.le_refl _) _).alloc (by simp) _).trans (hb1.mono (by simp;omega)));clear hb1;(go_wp2_with fail);go_ret;exact ⟨rfl,HB1.out⟩
end
section
open Go.RowKit
structure PgT where
 kk:Int
 tr:TraceT
def PgT.cells (x:PgT):List Value:=[.int .i64 x.kk,.int .i64 x.tr.elem.id.kind,.string x.tr.elem.id.text,.int .i64 x.tr.elem.id.n,.int .i64 x.tr.elem.attr.kind,.string x.tr.elem.attr.text,.int .i64 x.tr.elem.attr.n,.int .i64 x.tr.elem.value.kind,.string x.tr.elem.value.text,.int .i64 x.tr.elem.value.n,.bool x.tr.elem.acc,.bool x.tr.elem.goal,.int .i64 x.tr.elem.tag,.int .i64 x.tr.level,.int .i64 x.tr.cause]
theorem PgT.cells_length (x:PgT):x.cells.length=15:=rfl
def cmpPgT (a b:PgT):Int:=cmpInt a.kk b.kk
theorem tc_pgt:TC cmpPgT:=⟨fun _=>tc_int.refl _,fun _ _=>tc_int.symm _ _,fun _ _ _=>tc_int.trans _ _ _⟩
theorem nilAhead_kPgT (k : Int) (w : World) : (nilAhead 555 259 (.int .i64 k) "Compare").run Tryz.prog w = .ok (some false) w := by kernel_rfl
theorem method_kPgT (k : Int) (w : World) : (method 555 259 (.int .i64 k) "Compare").run Tryz.prog w = .ok (334, .int .i64 k) w := by kernel_rfl
theorem cmp_pgt (a b:PgT) (w:World):Calls Tryz.prog 349 #[.agg #[.int .i64 a.kk,.int .i64 a.tr.elem.id.kind,.string a.tr.elem.id.text,.int .i64 a.tr.elem.id.n,.int .i64 a.tr.elem.attr.kind,.string a.tr.elem.attr.text,.int .i64 a.tr.elem.attr.n,.int .i64 a.tr.elem.value.kind,.string a.tr.elem.value.text,.int .i64 a.tr.elem.value.n,.bool a.tr.elem.acc,.bool a.tr.elem.goal,.int .i64 a.tr.elem.tag,.int .i64 a.tr.level,.int .i64 a.tr.cause],.agg #[.int .i64 b.kk,.int .i64 b.tr.elem.id.kind,.string b.tr.elem.id.text,.int .i64 b.tr.elem.id.n,.int .i64 b.tr.elem.attr.kind,.string b.tr.elem.attr.text,.int .i64 b.tr.elem.attr.n,.int .i64 b.tr.elem.value.kind,.string b.tr.elem.value.text,.int .i64 b.tr.elem.value.n,.bool b.tr.elem.acc,.bool b.tr.elem.goal,.int .i64 b.tr.elem.tag,.int .i64 b.tr.level,.int .i64 b.tr.cause]] w fun e w'=>e = .returned (.int .i64 (cmpPgT a b))∧Below w.heap.size w w':=by
 have N:=nilAhead_kPgT;have M:=method_kPgT;go_enter Tryz.func349,Tryz.ntmps349;(go_wp2_with fail);refine (cmp_bnum a.kk b.kk _).mono ?_;rintro e w1 ⟨rfl,hb1⟩;have HB1:=Lib.hid ((((Below.refl w.heap.size w).alloc (Nat.le_refl _) _).alloc (by simp) _).trans (hb1.mono (by simp;omega)));clear hb1;(go_wp2_with fail);go_ret;exact ⟨rfl,HB1.out⟩
end
end Go.Proofs.YtldndkngpdfpfaaGreat
