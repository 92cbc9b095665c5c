/-
  Where what it reads is of bulk at most the given one, CanonRenames answers true, and leaves its arguments and all that was there as they were.
-/
import Derived.Test.YtffemfglngikbaaRk
import Derived.Test.YtffemfglngikbaaRl
import Derived.Test.YtffemfglngikbaaRg
import Derived.Test.YtffemfglngikbaaRm
import Derived.Test.YtffemfglngikbaaRa
import Derived.Test.YtffemfglngikbaaRn
import Derived.IntWalk
import Derived.Test.YtffemfglngikbaaRows
import Derived.Test.YtffemfglngikbaaRb
import Derived.ChangeMaps5
import Derived.JoinedCond
import Derived.Maps.RangeWalk
namespace Go.Proofs.Ytffemfglngikbaa
open Go.RowKit Go.Shelf
attribute [local go_sem] Oper.semAt_some
theorem row_oneC {α:Type} {r:RepT α} {D:Nat→Prop} {w:World} {g:Nat} {t:TypeId} {cs:List Value} {a:α} (hb:Blk w g t cs.toArray) (hD:D g) (hr:r.rep D w a cs):RowR r D w (some ⟨g,0,none⟩) 1 [a]:=by
 refine ⟨Nat.le_refl _,by unfold maxLen;omega,fun _=>⟨g,0,rfl,hD,hb.lt,fun k hk=>?_⟩⟩
 obtain rfl:k=0:=by simp at hk;omega
 exact ⟨cs,hr,fun j u hu=>by rw [show 0+0*r.size+j=j by omega,hb.cell];simpa using hu⟩
def wkC (i v:ByteArray):CondT:=.mk 1 true i [⟨1,⟨#[]⟩,⟨3,⟨#[120]⟩,0⟩,[]⟩] [⟨1,v,⟨0,⟨#[]⟩,0⟩,[]⟩] false []
def wkA (i:ByteArray):ActT:=⟨i,⟨⟨#[]⟩,⟨3,⟨#[121]⟩,0⟩⟩,⟨0,⟨⟨#[]⟩,⟨2,⟨#[]⟩,2⟩⟩,⟨⟨#[]⟩,⟨0,⟨#[]⟩,0⟩⟩⟩,1,⟨⟨#[]⟩,⟨0,⟨#[]⟩,0⟩⟩⟩
def wkP (i v:ByteArray):ProdT:=⟨⟨#[97]⟩,[wkC i v],[wkA i]⟩
theorem wk_yes:sameC 1 (wkP ⟨#[115]⟩ ⟨#[121]⟩) (wkP ⟨#[97]⟩ ⟨#[98]⟩)=true:=by kernel_rfl
theorem wk_no:sameC 1 (wkP ⟨#[115]⟩ ⟨#[121]⟩) (wkP ⟨#[115]⟩ ⟨#[115]⟩)=false:=by kernel_rfl
theorem wk_vars (i v:ByteArray):(varsP 1 (wkP i v)).length≤100000:=by
 have h1:=oneN_len i
 have h2:=oneN_len v
 have h0:=oneN_len ⟨#[]⟩
 simp only [varsP,wkP,wkC,wkA,namesN,varsT,varsA,fives,CondT.id,CondT.attr,CondT.value,CondT.conds,List.flatMap_cons,List.flatMap_nil,List.length_append,List.length_nil]
 omega
theorem wk_fit (i v:ByteArray):Fit 1 (wkP i v):=
 ⟨by simp [wkP],by simp [wkP],fun x hx=>by
  rw [List.mem_singleton.1 (show x∈[wkC i v] from hx)]
  exact ⟨⟨by simp [wkC,CondT.attr],fun t ht=>by rw [List.mem_singleton.1 (show t∈_ from ht)];simp⟩,⟨by simp [wkC,CondT.value],fun t ht=>by rw [List.mem_singleton.1 (show t∈_ from ht)];simp⟩,by simp [wkC,CondT.conds],fun y hy=>by cases (show y∈([]:List CondT) from hy)⟩,wk_vars i v,by show ([(0,wkC i v)] ++ []:List (Nat×CondT)).length≤_;simp,by omega,fun x hx=>by
  rw [List.mem_singleton.1 (show x∈[wkC i v] from hx)]
  intro y hy
  cases (show y∈([]:List CondT) from hy)⟩
set_option maxHeartbeats 1000000 in
theorem wW6_is (t:ByteArray)(w:World):Calls Try.prog 54 #[.string t] w fun e w'=>e = .returned (.agg #[.int .i64 3,.string t,.int .i64 0])∧Below w.heap.size w w':=by
 go_enter Try.func54,Try.ntmps54
 go_wp2_with fail
 exact bodyPost_ret (v:=.agg #[.int .i64 3,.string t,.int .i64 0]) (by simp [results,Try.results54,go_sem]) rfl ⟨rfl,by (repeat (first | exact Below.refl _ _ | refine Below.drew ?_ | refine Below.al ?_ _ | refine Below.sc ?_ _))⟩
set_option maxHeartbeats 1000000 in
theorem wN6_is (n:Int)(w:World):Calls Try.prog 55 #[.int .i64 n] w fun e w'=>e = .returned (.agg #[.int .i64 2,.string ⟨#[]⟩,.int .i64 n])∧Below w.heap.size w w':=by
 go_enter Try.func55,Try.ntmps55
 go_wp2_with fail
 exact bodyPost_ret (v:=.agg #[.int .i64 2,.string ⟨#[]⟩,.int .i64 n]) (by simp [results,Try.results55,go_sem]) rfl ⟨rfl,by (repeat (first | exact Below.refl _ _ | refine Below.drew ?_ | refine Below.al ?_ _ | refine Below.sc ?_ _))⟩
set_option maxRecDepth 100000 in
set_option maxHeartbeats 4000000 in
theorem one_blk (w:World):Calls Try.prog 27 #[] w fun e w'=>∃gc gt gu ga,e = .returned (.agg #[.string ⟨#[97]⟩,.slice (some ⟨gc,0,none⟩) 1 1,.slice (some ⟨ga,0,none⟩) 1 1])∧Blk w' gc 50 #[.int .i64 1,.bool true,.string ⟨#[115]⟩,.slice (some ⟨gt,0,none⟩) 1 1,.slice (some ⟨gu,0,none⟩) 1 1,.bool false,.slice none 0 0]∧Blk w' gt 65 #[.int .i64 1,.string ⟨#[]⟩,.int .i64 3,.string ⟨#[120]⟩,.int .i64 0,.slice none 0 0]∧Blk w' gu 65 #[.int .i64 1,.string ⟨#[]⟩,.int .i64 2,.string ⟨#[]⟩,.int .i64 1,.slice none 0 0]∧Blk w' ga 58 #[.string ⟨#[115]⟩,.string ⟨#[]⟩,.int .i64 3,.string ⟨#[121]⟩,.int .i64 0,.int .i64 0,.string ⟨#[]⟩,.int .i64 2,.string ⟨#[]⟩,.int .i64 2,.string ⟨#[]⟩,.int .i64 0,.string ⟨#[]⟩,.int .i64 0,.int .i64 1,.string ⟨#[]⟩,.int .i64 0,.string ⟨#[]⟩,.int .i64 0]∧(w.heap.size≤gc∧w.heap.size≤gt∧w.heap.size≤gu∧w.heap.size≤ga)∧Below w.heap.size w w':=by
 go_enter Try.func27,Try.ntmps27
 go_upto_region 1 with fail
 obtain ⟨w1,hw1⟩ : ∃w1,w1=(w.alloc (.cells #[.string ⟨#[]⟩,.slice none 0 0,.slice none 0 0] 25)):=⟨_,rfl⟩
 rw [← hw1]
 have HB:=Lib.hid (show Below w.heap.size w w1 by rw [hw1];exact (by repeat (first | exact Below.refl _ _ | refine Below.drew ?_ | refine Below.al ?_ _ | refine Below.sc ?_ _)))
 have Kr:=Lib.hid (show Blk w1 (w.heap.size) 25 #[.string ⟨#[]⟩,.slice none 0 0,.slice none 0 0] by rw [hw1];exact (Blk.new w 25 #[.string ⟨#[]⟩,.slice none 0 0,.slice none 0 0]))
 clear hw1
 obtain ⟨r0,r1,r2⟩:=Kr.out.c3
 have rf0:=Kr.out.frozen 0
 have rf1:=Kr.out.frozen 1
 have rf2:=Kr.out.frozen 2
 have rz:=Kr.out.lt
 go_wp2_with fail
 with_reducible refine (wW6_is ⟨#[120]⟩ _).mono ?_
 rintro e w2 ⟨rfl,hb⟩
 have hbs:=Below.trans (show Below w1.heap.size w1 _ from (by (repeat (first | exact Below.refl _ _ | refine Below.drew ?_ | refine Below.al ?_ _ | refine Below.sc ?_ _)))) (hb.mono (by simp<;>omega))
 have Kr:=Lib.hid (Kr.out.new_ hbs)
 have HB:=Lib.hid (HB.out.trans (hbs.mono HB.out.size))
 have hsz2:=hbs.size
 clear r0 r1 r2 rf0 rf1 rf2 rz hb hbs
 obtain ⟨r0,r1,r2⟩:=Kr.out.c3
 have rf0:=Kr.out.frozen 0
 have rf1:=Kr.out.frozen 1
 have rf2:=Kr.out.frozen 2
 have rz:=Kr.out.lt
 have hs0_2:=HB.out.size
 go_wp2_with fail
 with_reducible refine (wN6_is 1 _).mono ?_
 rintro e w3 ⟨rfl,hb⟩
 have hbs:=Below.trans (show Below w2.heap.size w2 _ from (by (repeat (first | exact Below.refl _ _ | refine Below.drew ?_ | refine Below.al ?_ _ | refine Below.sc ?_ _)))) (hb.mono (by simp<;>omega))
 have Kr:=Lib.hid (Kr.out.new_ hbs)
 have Kt1:=Lib.hid (show Blk w3 (w2.heap.size) 65 #[.int .i64 1,.string ⟨#[]⟩,.int .i64 3,.string ⟨#[120]⟩,.int .i64 0,.slice none 0 0] from (Blk.new _ _ _).new_ hb)
 have HB:=Lib.hid (HB.out.trans (hbs.mono HB.out.size))
 have hsz3:=hbs.size
 clear r0 r1 r2 rf0 rf1 rf2 rz hb hbs
 obtain ⟨r0,r1,r2⟩:=Kr.out.c3
 have rf0:=Kr.out.frozen 0
 have rf1:=Kr.out.frozen 1
 have rf2:=Kr.out.frozen 2
 have rz:=Kr.out.lt
 obtain ⟨t10,t11,t12,t13,t14,t15⟩:=Kt1.out.c6
 have t1z:=Kt1.out.lt
 have hs0_3:=HB.out.size
 go_wp2_with fail
 with_reducible refine (wW6_is ⟨#[121]⟩ _).mono ?_
 rintro e w4 ⟨rfl,hb⟩
 have hbs:=Below.trans (show Below w3.heap.size w3 _ from (by (repeat (first | exact Below.refl _ _ | refine Below.drew ?_ | refine Below.al ?_ _ | refine Below.sc ?_ _)))) (hb.mono (by simp<;>omega))
 have Kr:=Lib.hid (Kr.out.new_ hbs)
 have Kt1:=Lib.hid (Kt1.out.new_ hbs)
 have Kt2:=Lib.hid (show Blk w4 (w3.heap.size) 65 #[.int .i64 1,.string ⟨#[]⟩,.int .i64 2,.string ⟨#[]⟩,.int .i64 1,.slice none 0 0] from ((Blk.new _ _ _).alloc _).new_ hb)
 have Kc:=Lib.hid (show Blk w4 (w3.heap.size+1) 50 #[.int .i64 1,.bool true,.string ⟨#[115]⟩,.slice (some ⟨w2.heap.size,0,none⟩) 1 1,.slice (some ⟨w3.heap.size,0,none⟩) 1 1,.bool false,.slice none 0 0] from ((show Blk ((w3.alloc (.cells #[.int .i64 1,.string ⟨#[]⟩,.int .i64 2,.string ⟨#[]⟩,.int .i64 1,.slice none 0 0] 65)).alloc (.cells #[.int .i64 1,.bool true,.string ⟨#[115]⟩,.slice (some ⟨w2.heap.size,0,none⟩) 1 1,.slice (some ⟨w3.heap.size,0,none⟩) 1 1,.bool false,.slice none 0 0] 50)) (w3.heap.size+1) 50 #[.int .i64 1,.bool true,.string ⟨#[115]⟩,.slice (some ⟨w2.heap.size,0,none⟩) 1 1,.slice (some ⟨w3.heap.size,0,none⟩) 1 1,.bool false,.slice none 0 0] by have hh:=Blk.new (w3.alloc (.cells #[.int .i64 1,.string ⟨#[]⟩,.int .i64 2,.string ⟨#[]⟩,.int .i64 1,.slice none 0 0] 65)) 50 #[.int .i64 1,.bool true,.string ⟨#[115]⟩,.slice (some ⟨w2.heap.size,0,none⟩) 1 1,.slice (some ⟨w3.heap.size,0,none⟩) 1 1,.bool false,.slice none 0 0];simp only [World.size_alloc] at hh;exact hh)).new_ hb)
 have HB:=Lib.hid (HB.out.trans (hbs.mono HB.out.size))
 have hsz4:=hbs.size
 clear r0 r1 r2 rf0 rf1 rf2 rz t10 t11 t12 t13 t14 t15 t1z hb hbs
 obtain ⟨r0,r1,r2⟩:=Kr.out.c3
 have rf0:=Kr.out.frozen 0
 have rf1:=Kr.out.frozen 1
 have rf2:=Kr.out.frozen 2
 have rz:=Kr.out.lt
 obtain ⟨t10,t11,t12,t13,t14,t15⟩:=Kt1.out.c6
 have t1z:=Kt1.out.lt
 obtain ⟨t20,t21,t22,t23,t24,t25⟩:=Kt2.out.c6
 have t2z:=Kt2.out.lt
 obtain ⟨c0,c1,c2,c3,c4,c5,c6⟩:=Kc.out.c7
 have cz:=Kc.out.lt
 go_wp2_with fail
 with_reducible refine (wN6_is 2 _).mono ?_
 rintro e w5 ⟨rfl,hb⟩
 have hbs:=Below.trans (show Below w4.heap.size w4 _ from (by (repeat (first | exact Below.refl _ _ | refine Below.drew ?_ | refine Below.al ?_ _ | refine Below.sc ?_ _)))) (hb.mono (by simp<;>omega))
 have Kr:=Lib.hid (Kr.out.new_ hbs)
 have Kt1:=Lib.hid (Kt1.out.new_ hbs)
 have Kt2:=Lib.hid (Kt2.out.new_ hbs)
 have Kc:=Lib.hid (Kc.out.new_ hbs)
 have HB:=Lib.hid (HB.out.trans (hbs.mono HB.out.size))
 have hsz5:=hbs.size
 clear r0 r1 r2 rf0 rf1 rf2 rz t10 t11 t12 t13 t14 t15 t1z t20 t21 t22 t23 t24 t25 t2z c0 c1 c2 c3 c4 c5 c6 cz hb hbs
 obtain ⟨r0,r1,r2⟩:=Kr.out.c3
 have rf0:=Kr.out.frozen 0
 have rf1:=Kr.out.frozen 1
 have rf2:=Kr.out.frozen 2
 have rz:=Kr.out.lt
 obtain ⟨t10,t11,t12,t13,t14,t15⟩:=Kt1.out.c6
 have t1z:=Kt1.out.lt
 obtain ⟨t20,t21,t22,t23,t24,t25⟩:=Kt2.out.c6
 have t2z:=Kt2.out.lt
 obtain ⟨c0,c1,c2,c3,c4,c5,c6⟩:=Kc.out.c7
 have cz:=Kc.out.lt
 go_wp2_with fail
 obtain ⟨X,hX⟩ : ∃X,X=((w5.setCell ⟨w.heap.size,0,none⟩ (.string ⟨#[97]⟩)).setCell ⟨w.heap.size,1,none⟩ (.slice (some ⟨w3.heap.size+1,0,none⟩) 1 1)).setCell ⟨w.heap.size,2,none⟩ (.slice (some ⟨w5.heap.size,0,none⟩) 1 1):=⟨_,rfl⟩
 rw [← hX]
 have hFX:Fr (· = w.heap.size) w5 X:=by rw [hX];exact (((Fr.refl (· = w.heap.size) w5).setCell (p:=⟨w.heap.size,0,none⟩) (.inl rfl) _).setCell (p:=⟨w.heap.size,1,none⟩) (.inl rfl) _).setCell (p:=⟨w.heap.size,2,none⟩) (.inl rfl) _
 have hsX:X.heap.size=w5.heap.size:=by rw [hX];simp
 have KrX:Blk X w.heap.size 25 #[.string ⟨#[97]⟩,.slice (some ⟨w3.heap.size+1,0,none⟩) 1 1,.slice (some ⟨w5.heap.size,0,none⟩) 1 1]:=by
  rw [hX];simpa using (((Kr.out.set_ 0 (.string ⟨#[97]⟩)).set_ 1 (.slice (some ⟨w3.heap.size+1,0,none⟩) 1 1)).set_ 2 (.slice (some ⟨w5.heap.size,0,none⟩) 1 1))
 obtain ⟨Z,hZ⟩ : ∃Z,Z=X.alloc (.cells #[.string ⟨#[115]⟩,.string ⟨#[]⟩,.int .i64 3,.string ⟨#[121]⟩,.int .i64 0,.int .i64 0,.string ⟨#[]⟩,.int .i64 2,.string ⟨#[]⟩,.int .i64 2,.string ⟨#[]⟩,.int .i64 0,.string ⟨#[]⟩,.int .i64 0,.int .i64 1,.string ⟨#[]⟩,.int .i64 0,.string ⟨#[]⟩,.int .i64 0] 58):=⟨_,rfl⟩
 rw [← hZ]
 have hbZX:Below X.heap.size X Z:=by rw [hZ];exact (Below.refl _ _).alloc (Nat.le_refl _) _
 have ga:Blk Z w5.heap.size 58 #[.string ⟨#[115]⟩,.string ⟨#[]⟩,.int .i64 3,.string ⟨#[121]⟩,.int .i64 0,.int .i64 0,.string ⟨#[]⟩,.int .i64 2,.string ⟨#[]⟩,.int .i64 2,.string ⟨#[]⟩,.int .i64 0,.string ⟨#[]⟩,.int .i64 0,.int .i64 1,.string ⟨#[]⟩,.int .i64 0,.string ⟨#[]⟩,.int .i64 0]:=by rw [hZ,← hsX];exact Blk.new _ _ _
 have KrZ:=KrX.new_ hbZX
 have hB:=HB.out
 have hzw:=hB.size
 have hzX:=hbZX.size
 have hlX:=ga.lt
 have hbZ:Below w.heap.size w Z:=(hB.trans (hFX.below (by omega) (fun k hk hn=>by omega))).trans (hbZX.mono (by omega))
 have k1:=Kt1.out.lt
 have k2:=Kt2.out.lt
 have kc:=Kc.out.lt
 have gt1:=(Kt1.out.fr hFX (Kt1.out.ne_ Kr.out (by decide))).new_ hbZX
 have gt2:=(Kt2.out.fr hFX (Kt2.out.ne_ Kr.out (by decide))).new_ hbZX
 have gc:=(Kc.out.fr hFX (Kc.out.ne_ Kr.out (by decide))).new_ hbZX
 have r0:=(KrZ.cell 0).trans rfl
 have r1:=(KrZ.cell 1).trans rfl
 have r2:=(KrZ.cell 2).trans rfl
 refine bodyPost_ret (v:=.agg #[.string ⟨#[97]⟩,.slice (some ⟨w3.heap.size+1,0,none⟩) 1 1,.slice (some ⟨w5.heap.size,0,none⟩) 1 1]) (by simp [results,Try.results27,go_sem,r0,r1,r2]) rfl ?_
 exact ⟨_,_,_,_,rfl,gc,gt1,gt2,ga,⟨by omega,by omega,by omega,by omega⟩,hbZ⟩
theorem wk_rows {X:World} {D:Nat→Prop} {gc gt gv ga:Nat} (i v:ByteArray) (hc:Blk X gc 50 #[.int .i64 1,.bool true,.string i,.slice (some ⟨gt,0,none⟩) 1 1,.slice (some ⟨gv,0,none⟩) 1 1,.bool false,.slice none 0 0]) (ht:Blk X gt 65 #[.int .i64 1,.string ⟨#[]⟩,.int .i64 3,.string ⟨#[120]⟩,.int .i64 0,.slice none 0 0]) (hv:Blk X gv 65 #[.int .i64 1,.string v,.int .i64 0,.string ⟨#[]⟩,.int .i64 0,.slice none 0 0]) (ha:Blk X ga 58 #[.string i,.string ⟨#[]⟩,.int .i64 3,.string ⟨#[121]⟩,.int .i64 0,.int .i64 0,.string ⟨#[]⟩,.int .i64 2,.string ⟨#[]⟩,.int .i64 2,.string ⟨#[]⟩,.int .i64 0,.string ⟨#[]⟩,.int .i64 0,.int .i64 1,.string ⟨#[]⟩,.int .i64 0,.string ⟨#[]⟩,.int .i64 0]) (hD : ∀k,k<X.heap.size→D k) :
 RowR (repCondT 1) D X (some ⟨gc,0,none⟩) 1 (wkP i v).conds∧RowR repActT D X (some ⟨ga,0,none⟩) 1 (wkP i v).acts:=
 ⟨row_oneC (cs:=[.int .i64 1,.bool true,.string i,.slice (some ⟨gt,0,none⟩) 1 1,.slice (some ⟨gv,0,none⟩) 1 1,.bool false,.slice none 0 0]) hc (hD _ hc.lt) ⟨_,_,_,_,none,0,rfl,row_oneC (cs:=[.int .i64 1,.string ⟨#[]⟩,.int .i64 3,.string ⟨#[120]⟩,.int .i64 0,.slice none 0 0]) ht (hD _ ht.lt) ⟨none,0,rfl,RowR.nil _ _ _⟩,row_oneC (cs:=[.int .i64 1,.string v,.int .i64 0,.string ⟨#[]⟩,.int .i64 0,.slice none 0 0]) hv (hD _ hv.lt) ⟨none,0,rfl,RowR.nil _ _ _⟩,RowR.nil _ _ _⟩,row_oneC (cs:=[.string i,.string ⟨#[]⟩,.int .i64 3,.string ⟨#[121]⟩,.int .i64 0,.int .i64 0,.string ⟨#[]⟩,.int .i64 2,.string ⟨#[]⟩,.int .i64 2,.string ⟨#[]⟩,.int .i64 0,.string ⟨#[]⟩,.int .i64 0,.int .i64 1,.string ⟨#[]⟩,.int .i64 0,.string ⟨#[]⟩,.int .i64 0]) ha (hD _ ha.lt) rfl⟩
set_option maxRecDepth 100000 in
set_option maxHeartbeats 16000000 in
theorem wakes23_is (w:World):Calls Try.prog 8 #[] w fun e w'=>e = .returned (.bool true)∧Below w.heap.size w w':=by
 have HB:=Lib.hid (Below.refl w.heap.size w)
 go_enter Try.func8,Try.ntmps8
 go_wp2_with fail
 refine (one_blk w).mono ?_
 rintro e v1 ⟨c1,t1,u1,a1,rfl,hc,ht,hu,ha,⟨l1,l2,l3,l4⟩,hb⟩
 have hsz1:=hb.size
 have LC1:=Lib.hid l1
 have LA1:=Lib.hid l4
 have MC1:=Lib.hid hc.lt
 have MA1:=Lib.hid ha.lt
 have HB:=Lib.hid (HB.out.trans (hb.mono HB.out.size))
 have HC1:=Lib.hid hc
 have HT1:=Lib.hid ht
 have HA1:=Lib.hid ha
 clear hc ht hu ha l1 l2 l3 l4 hb
 go_wp2_with fail
 refine (one_blk v1).mono ?_
 rintro e v2 ⟨c2,t2,u2,a2,rfl,hc,ht,hu,ha,⟨l1,l2,l3,l4⟩,hb⟩
 have hsz2:=hb.size
 have LC2:=Lib.hid l1
 have LA2:=Lib.hid l4
 have MC2:=Lib.hid hc.lt
 have MA2:=Lib.hid ha.lt
 have HC1:=Lib.hid (HC1.out.new_ hb)
 have HT1:=Lib.hid (HT1.out.new_ hb)
 have HA1:=Lib.hid (HA1.out.new_ hb)
 have HB:=Lib.hid (HB.out.trans (hb.mono HB.out.size))
 have HC2:=Lib.hid hc
 have HT2:=Lib.hid ht
 have HA2:=Lib.hid ha
 clear hc ht hu ha l1 l2 l3 l4 hb
 go_wp2_with fail
 refine (one_blk v2).mono ?_
 rintro e v3 ⟨c3,t3,u3,a3,rfl,hc,ht,hu,ha,⟨l1,l2,l3,l4⟩,hb⟩
 have hsz3:=hb.size
 have LC3:=Lib.hid l1
 have LA3:=Lib.hid l4
 have MC3:=Lib.hid hc.lt
 have MA3:=Lib.hid ha.lt
 have HC1:=Lib.hid (HC1.out.new_ hb)
 have HT1:=Lib.hid (HT1.out.new_ hb)
 have HA1:=Lib.hid (HA1.out.new_ hb)
 have HC2:=Lib.hid (HC2.out.new_ hb)
 have HT2:=Lib.hid (HT2.out.new_ hb)
 have HA2:=Lib.hid (HA2.out.new_ hb)
 have HB:=Lib.hid (HB.out.trans (hb.mono HB.out.size))
 have HC3:=Lib.hid hc
 have HT3:=Lib.hid ht
 have HA3:=Lib.hid ha
 clear hc ht hu ha l1 l2 l3 l4 hb
 go_upto_region 2 with fail
 obtain ⟨V0,hV0⟩ : ∃V,V=((v3.alloc (.cells #[.string ⟨#[97]⟩,.slice (some ⟨c1,0,none⟩) 1 1,.slice (some ⟨a1,0,none⟩) 1 1] 25)).alloc (.cells #[.string ⟨#[97]⟩,.slice (some ⟨c2,0,none⟩) 1 1,.slice (some ⟨a2,0,none⟩) 1 1] 25)).alloc (.cells #[.string ⟨#[97]⟩,.slice (some ⟨c3,0,none⟩) 1 1,.slice (some ⟨a3,0,none⟩) 1 1] 25):=⟨_,rfl⟩
 have hb0:Below v3.heap.size v3 V0:=by rw [hV0];exact (((Below.refl _ _).alloc (Nat.le_refl _) _).alloc (by simp) _).alloc (by simp;omega) _
 have HZ0:=Lib.hid (show V0.heap.size=v3.heap.size+3 by rw [hV0];simp)
 have hp1:Blk V0 (v3.heap.size) 25 #[.string ⟨#[97]⟩,.slice (some ⟨c1,0,none⟩) 1 1,.slice (some ⟨a1,0,none⟩) 1 1]:=by rw [hV0];have hh:=(((Blk.new v3 25 #[.string ⟨#[97]⟩,.slice (some ⟨c1,0,none⟩) 1 1,.slice (some ⟨a1,0,none⟩) 1 1]).alloc (.cells #[.string ⟨#[97]⟩,.slice (some ⟨c2,0,none⟩) 1 1,.slice (some ⟨a2,0,none⟩) 1 1] 25)).alloc (.cells #[.string ⟨#[97]⟩,.slice (some ⟨c3,0,none⟩) 1 1,.slice (some ⟨a3,0,none⟩) 1 1] 25));simpa using hh
 have hp2:Blk V0 (v3.heap.size+1) 25 #[.string ⟨#[97]⟩,.slice (some ⟨c2,0,none⟩) 1 1,.slice (some ⟨a2,0,none⟩) 1 1]:=by rw [hV0];have hh:=((Blk.new (v3.alloc (.cells #[.string ⟨#[97]⟩,.slice (some ⟨c1,0,none⟩) 1 1,.slice (some ⟨a1,0,none⟩) 1 1] 25)) 25 #[.string ⟨#[97]⟩,.slice (some ⟨c2,0,none⟩) 1 1,.slice (some ⟨a2,0,none⟩) 1 1]).alloc (.cells #[.string ⟨#[97]⟩,.slice (some ⟨c3,0,none⟩) 1 1,.slice (some ⟨a3,0,none⟩) 1 1] 25));simpa using hh
 have hp3:Blk V0 (v3.heap.size+2) 25 #[.string ⟨#[97]⟩,.slice (some ⟨c3,0,none⟩) 1 1,.slice (some ⟨a3,0,none⟩) 1 1]:=by rw [hV0];have hh:=(Blk.new ((v3.alloc (.cells #[.string ⟨#[97]⟩,.slice (some ⟨c1,0,none⟩) 1 1,.slice (some ⟨a1,0,none⟩) 1 1] 25)).alloc (.cells #[.string ⟨#[97]⟩,.slice (some ⟨c2,0,none⟩) 1 1,.slice (some ⟨a2,0,none⟩) 1 1] 25)) 25 #[.string ⟨#[97]⟩,.slice (some ⟨c3,0,none⟩) 1 1,.slice (some ⟨a3,0,none⟩) 1 1]);simpa using hh
 have HC1:=Lib.hid (HC1.out.new_ hb0)
 have HT1:=Lib.hid (HT1.out.new_ hb0)
 have HA1:=Lib.hid (HA1.out.new_ hb0)
 have HC2:=Lib.hid (HC2.out.new_ hb0)
 have HT2:=Lib.hid (HT2.out.new_ hb0)
 have HA2:=Lib.hid (HA2.out.new_ hb0)
 have HC3:=Lib.hid (HC3.out.new_ hb0)
 have HT3:=Lib.hid (HT3.out.new_ hb0)
 have HA3:=Lib.hid (HA3.out.new_ hb0)
 have HB:=Lib.hid (HB.out.trans (hb0.mono HB.out.size))
 rw [← hV0]
 clear hV0 hb0
 have HP1:=Lib.hid hp1
 clear hp1
 have HP2:=Lib.hid hp2
 clear hp2
 have HP3:=Lib.hid hp3
 clear hp3
 have xP1_1:V0.cell? ⟨v3.heap.size,1,none⟩=some (.slice (some ⟨c1,0,none⟩) 1 1):=(HP1.out.cell 1).trans rfl
 have zP1:=HP1.out.lt
 have xC1_4:V0.cell? ⟨c1,4,none⟩=some (.slice (some ⟨u1,0,none⟩) 1 1):=(HC1.out.cell 4).trans rfl
 have zC1:=HC1.out.lt
 have f4:=HC1.out.frozen 4
 go_upto_region 3 with fail
 obtain ⟨V1,hV1⟩ : ∃V,V=(V0.setCell ⟨c1,4,none⟩ (.slice (some ⟨V0.heap.size,0,none⟩) 1 1)).alloc (.cells #[.int .i64 1,.string ⟨#[121]⟩,.int .i64 0,.string ⟨#[]⟩,.int .i64 0,.slice none 0 0] 65):=⟨_,rfl⟩
 rw [← hV1]
 have hC1:Blk V1 (c1) 50 #[.int .i64 1,.bool true,.string ⟨#[115]⟩,.slice (some ⟨t1,0,none⟩) 1 1,.slice (some ⟨V0.heap.size,0,none⟩) 1 1,.bool false,.slice none 0 0]:=by rw [hV1];exact ((HC1.out.set_ 4 (.slice (some ⟨V0.heap.size,0,none⟩) 1 1))).alloc _
 have hT1:Blk V1 (t1) 65 #[.int .i64 1,.string ⟨#[]⟩,.int .i64 3,.string ⟨#[120]⟩,.int .i64 0,.slice none 0 0]:=by rw [hV1];exact ((HT1.out.far (p:=⟨c1,4,none⟩) (HT1.out.ne_ HC1.out (by decide)) (.slice (some ⟨V0.heap.size,0,none⟩) 1 1))).alloc _
 have hA1:Blk V1 (a1) 58 #[.string ⟨#[115]⟩,.string ⟨#[]⟩,.int .i64 3,.string ⟨#[121]⟩,.int .i64 0,.int .i64 0,.string ⟨#[]⟩,.int .i64 2,.string ⟨#[]⟩,.int .i64 2,.string ⟨#[]⟩,.int .i64 0,.string ⟨#[]⟩,.int .i64 0,.int .i64 1,.string ⟨#[]⟩,.int .i64 0,.string ⟨#[]⟩,.int .i64 0]:=by rw [hV1];exact ((HA1.out.far (p:=⟨c1,4,none⟩) (HA1.out.ne_ HC1.out (by decide)) (.slice (some ⟨V0.heap.size,0,none⟩) 1 1))).alloc _
 have hC2:Blk V1 (c2) 50 #[.int .i64 1,.bool true,.string ⟨#[115]⟩,.slice (some ⟨t2,0,none⟩) 1 1,.slice (some ⟨u2,0,none⟩) 1 1,.bool false,.slice none 0 0]:=by rw [hV1];exact ((HC2.out.far (p:=⟨c1,4,none⟩) (by dsimp only;have:=LC1.out;have:=LC2.out;have:=LC3.out;have:=MC1.out;have:=MC2.out;have:=MC3.out;have:=LA1.out;have:=LA2.out;have:=LA3.out;have:=MA1.out;have:=MA2.out;have:=MA3.out;omega) (.slice (some ⟨V0.heap.size,0,none⟩) 1 1))).alloc _
 have hT2:Blk V1 (t2) 65 #[.int .i64 1,.string ⟨#[]⟩,.int .i64 3,.string ⟨#[120]⟩,.int .i64 0,.slice none 0 0]:=by rw [hV1];exact ((HT2.out.far (p:=⟨c1,4,none⟩) (HT2.out.ne_ HC1.out (by decide)) (.slice (some ⟨V0.heap.size,0,none⟩) 1 1))).alloc _
 have hA2:Blk V1 (a2) 58 #[.string ⟨#[115]⟩,.string ⟨#[]⟩,.int .i64 3,.string ⟨#[121]⟩,.int .i64 0,.int .i64 0,.string ⟨#[]⟩,.int .i64 2,.string ⟨#[]⟩,.int .i64 2,.string ⟨#[]⟩,.int .i64 0,.string ⟨#[]⟩,.int .i64 0,.int .i64 1,.string ⟨#[]⟩,.int .i64 0,.string ⟨#[]⟩,.int .i64 0]:=by rw [hV1];exact ((HA2.out.far (p:=⟨c1,4,none⟩) (HA2.out.ne_ HC1.out (by decide)) (.slice (some ⟨V0.heap.size,0,none⟩) 1 1))).alloc _
 have hC3:Blk V1 (c3) 50 #[.int .i64 1,.bool true,.string ⟨#[115]⟩,.slice (some ⟨t3,0,none⟩) 1 1,.slice (some ⟨u3,0,none⟩) 1 1,.bool false,.slice none 0 0]:=by rw [hV1];exact ((HC3.out.far (p:=⟨c1,4,none⟩) (by dsimp only;have:=LC1.out;have:=LC2.out;have:=LC3.out;have:=MC1.out;have:=MC2.out;have:=MC3.out;have:=LA1.out;have:=LA2.out;have:=LA3.out;have:=MA1.out;have:=MA2.out;have:=MA3.out;omega) (.slice (some ⟨V0.heap.size,0,none⟩) 1 1))).alloc _
 have hT3:Blk V1 (t3) 65 #[.int .i64 1,.string ⟨#[]⟩,.int .i64 3,.string ⟨#[120]⟩,.int .i64 0,.slice none 0 0]:=by rw [hV1];exact ((HT3.out.far (p:=⟨c1,4,none⟩) (HT3.out.ne_ HC1.out (by decide)) (.slice (some ⟨V0.heap.size,0,none⟩) 1 1))).alloc _
 have hA3:Blk V1 (a3) 58 #[.string ⟨#[115]⟩,.string ⟨#[]⟩,.int .i64 3,.string ⟨#[121]⟩,.int .i64 0,.int .i64 0,.string ⟨#[]⟩,.int .i64 2,.string ⟨#[]⟩,.int .i64 2,.string ⟨#[]⟩,.int .i64 0,.string ⟨#[]⟩,.int .i64 0,.int .i64 1,.string ⟨#[]⟩,.int .i64 0,.string ⟨#[]⟩,.int .i64 0]:=by rw [hV1];exact ((HA3.out.far (p:=⟨c1,4,none⟩) (HA3.out.ne_ HC1.out (by decide)) (.slice (some ⟨V0.heap.size,0,none⟩) 1 1))).alloc _
 have hP1:Blk V1 (v3.heap.size) 25 #[.string ⟨#[97]⟩,.slice (some ⟨c1,0,none⟩) 1 1,.slice (some ⟨a1,0,none⟩) 1 1]:=by rw [hV1];exact ((HP1.out.far (p:=⟨c1,4,none⟩) (HP1.out.ne_ HC1.out (by decide)) (.slice (some ⟨V0.heap.size,0,none⟩) 1 1))).alloc _
 have hP2:Blk V1 (v3.heap.size+1) 25 #[.string ⟨#[97]⟩,.slice (some ⟨c2,0,none⟩) 1 1,.slice (some ⟨a2,0,none⟩) 1 1]:=by rw [hV1];exact ((HP2.out.far (p:=⟨c1,4,none⟩) (HP2.out.ne_ HC1.out (by decide)) (.slice (some ⟨V0.heap.size,0,none⟩) 1 1))).alloc _
 have hP3:Blk V1 (v3.heap.size+2) 25 #[.string ⟨#[97]⟩,.slice (some ⟨c3,0,none⟩) 1 1,.slice (some ⟨a3,0,none⟩) 1 1]:=by rw [hV1];exact ((HP3.out.far (p:=⟨c1,4,none⟩) (HP3.out.ne_ HC1.out (by decide)) (.slice (some ⟨V0.heap.size,0,none⟩) 1 1))).alloc _
 have hn:Blk V1 V0.heap.size 65 #[.int .i64 1,.string ⟨#[121]⟩,.int .i64 0,.string ⟨#[]⟩,.int .i64 0,.slice none 0 0]:=by rw [hV1];have hh:=Blk.new (V0.setCell ⟨c1,4,none⟩ (.slice (some ⟨V0.heap.size,0,none⟩) 1 1)) 65 #[.int .i64 1,.string ⟨#[121]⟩,.int .i64 0,.string ⟨#[]⟩,.int .i64 0,.slice none 0 0];simpa using hh
 have HBn:=Lib.hid (show Below w.heap.size w V1 by rw [hV1];exact (HB.out.setCell (by have:=LC1.out;dsimp only;omega) _).alloc (by have:=HB.out.size;simpa using this) _)
 clear HB
 have HB:=HBn
 clear HBn
 clear xP1_1 zP1 xC1_4 zC1 f4 hV1
 have HC1:=Lib.hid hC1
 clear hC1
 have HT1:=Lib.hid hT1
 clear hT1
 have HA1:=Lib.hid hA1
 clear hA1
 have HC2:=Lib.hid hC2
 clear hC2
 have HT2:=Lib.hid hT2
 clear hT2
 have HA2:=Lib.hid hA2
 clear hA2
 have HC3:=Lib.hid hC3
 clear hC3
 have HT3:=Lib.hid hT3
 clear hT3
 have HA3:=Lib.hid hA3
 clear hA3
 have HP1:=Lib.hid hP1
 clear hP1
 have HP2:=Lib.hid hP2
 clear hP2
 have HP3:=Lib.hid hP3
 clear hP3
 obtain ⟨y1,hy1⟩ : ∃y,y=V0.heap.size:=⟨_,rfl⟩
 rw [← hy1] at hn HC1
 have HY1:=Lib.hid hn
 clear hn hy1
 have xP2_1:V1.cell? ⟨v3.heap.size+1,1,none⟩=some (.slice (some ⟨c2,0,none⟩) 1 1):=(HP2.out.cell 1).trans rfl
 have xP2_2:V1.cell? ⟨v3.heap.size+1,2,none⟩=some (.slice (some ⟨a2,0,none⟩) 1 1):=(HP2.out.cell 2).trans rfl
 have zP2:=HP2.out.lt
 have xC2_2:V1.cell? ⟨c2,2,none⟩=some (.string ⟨#[115]⟩):=(HC2.out.cell 2).trans rfl
 have zC2:=HC2.out.lt
 have xA2_0:V1.cell? ⟨a2,0,none⟩=some (.string ⟨#[115]⟩):=(HA2.out.cell 0).trans rfl
 have zA2:=HA2.out.lt
 have f2:=HC2.out.frozen 2
 have f0:=HA2.out.frozen 0
 have hca:=HC2.out.ne_ HA2.out (by decide)
 have hac:=HA2.out.ne_ HC2.out (by decide)
 have hcp:=HP2.out.ne_ HC2.out (by decide)
 refine wp_region_E (fun w9=>w9.cell? ⟨v3.heap.size+1,1,none⟩=some (.slice (some ⟨c2,0,none⟩) 1 1)∧w9.cell? ⟨v3.heap.size+1,2,none⟩=some (.slice (some ⟨a2,0,none⟩) 1 1)) [(0,0),(1,1),(2,0),(3,1),(4,0),(5,0),(6,2),(7,0),(8,0),(9,2)] (by kernel_rfl) (by kernel_rfl) (fun KK hKK=>?_)
 simp only [beside,List.filterMap_cons,List.filterMap_nil,List.getElem?_toArray,List.getElem?_cons_zero,List.getElem?_cons_succ,Option.map_some]
 repeat ((first | (refine wpX_w ?_ (Or.inl ⟨by rfl,fun w9=>?_⟩) ?_;rotate_left 1;go_simp;with_reducible rfl) | (refine wpX_l ?_ ((And.intro xP2_1 xP2_2)) (Or.inl ⟨by rfl,fun w9 hw9=>?_⟩) ?_;rotate_left 1;obtain ⟨s1,s2⟩:=hw9;go_simp;with_reducible rfl) | refine wpX_w undef (Or.inr ⟨by rfl,rfl⟩) ?_ | refine wpX_l undef ((And.intro xP2_1 xP2_2)) (Or.inr ⟨by rfl,rfl⟩) ?_);go_frame)
 refine wpX_es (fun K9 hK9=>?_)
 go_simp
 refine hK9 _ _ (And.intro (((HP2.out.far (p:=⟨c2,2,none⟩) hcp (.string ⟨#[97]⟩)).drew.cell 1).trans rfl) (((HP2.out.far (p:=⟨c2,2,none⟩) hcp (.string ⟨#[97]⟩)).drew.cell 2).trans rfl)) ?_
 clear hK9 K9
 repeat ((first | (refine wpX_w ?_ (Or.inl ⟨by rfl,fun w9=>?_⟩) ?_;rotate_left 1;go_simp;with_reducible rfl) | (refine wpX_l ?_ ((And.intro (((HP2.out.far (p:=⟨c2,2,none⟩) hcp (.string ⟨#[97]⟩)).drew.cell 1).trans rfl) (((HP2.out.far (p:=⟨c2,2,none⟩) hcp (.string ⟨#[97]⟩)).drew.cell 2).trans rfl))) (Or.inl ⟨by rfl,fun w9 hw9=>?_⟩) ?_;rotate_left 1;obtain ⟨s1,s2⟩:=hw9;go_simp;with_reducible rfl) | refine wpX_w undef (Or.inr ⟨by rfl,rfl⟩) ?_ | refine wpX_l undef ((And.intro (((HP2.out.far (p:=⟨c2,2,none⟩) hcp (.string ⟨#[97]⟩)).drew.cell 1).trans rfl) (((HP2.out.far (p:=⟨c2,2,none⟩) hcp (.string ⟨#[97]⟩)).drew.cell 2).trans rfl))) (Or.inr ⟨by rfl,rfl⟩) ?_);go_frame)
 refine wpX_e (by kernel_rfl) (fun K9 hK9=>?_)
 go_simp
 refine hK9 _ _ ?_
 clear hK9 K9
 refine wpX_nil ?_
 simp only [OnlyN_normal]
 refine hKK _ _ ?_
 clear hKK KK
 obtain ⟨V2,hV2⟩ : ∃V,V=((V1.setCell ⟨c2,2,none⟩ (.string ⟨#[97]⟩)).setCell ⟨a2,0,none⟩ (.string ⟨#[97]⟩)).drew:=⟨_,rfl⟩
 rw [← hV2]
 have hC1:Blk V2 (c1) 50 #[.int .i64 1,.bool true,.string ⟨#[115]⟩,.slice (some ⟨t1,0,none⟩) 1 1,.slice (some ⟨y1,0,none⟩) 1 1,.bool false,.slice none 0 0]:=by rw [hV2];exact (((HC1.out.far (p:=⟨c2,2,none⟩) (by dsimp only;have:=LC1.out;have:=LC2.out;have:=LC3.out;have:=MC1.out;have:=MC2.out;have:=MC3.out;have:=LA1.out;have:=LA2.out;have:=LA3.out;have:=MA1.out;have:=MA2.out;have:=MA3.out;omega) (.string ⟨#[97]⟩)).far (p:=⟨a2,0,none⟩) (HC1.out.ne_ HA2.out (by decide)) (.string ⟨#[97]⟩))).drew
 have hT1:Blk V2 (t1) 65 #[.int .i64 1,.string ⟨#[]⟩,.int .i64 3,.string ⟨#[120]⟩,.int .i64 0,.slice none 0 0]:=by rw [hV2];exact (((HT1.out.far (p:=⟨c2,2,none⟩) (HT1.out.ne_ HC2.out (by decide)) (.string ⟨#[97]⟩)).far (p:=⟨a2,0,none⟩) (HT1.out.ne_ HA2.out (by decide)) (.string ⟨#[97]⟩))).drew
 have hA1:Blk V2 (a1) 58 #[.string ⟨#[115]⟩,.string ⟨#[]⟩,.int .i64 3,.string ⟨#[121]⟩,.int .i64 0,.int .i64 0,.string ⟨#[]⟩,.int .i64 2,.string ⟨#[]⟩,.int .i64 2,.string ⟨#[]⟩,.int .i64 0,.string ⟨#[]⟩,.int .i64 0,.int .i64 1,.string ⟨#[]⟩,.int .i64 0,.string ⟨#[]⟩,.int .i64 0]:=by rw [hV2];exact (((HA1.out.far (p:=⟨c2,2,none⟩) (HA1.out.ne_ HC2.out (by decide)) (.string ⟨#[97]⟩)).far (p:=⟨a2,0,none⟩) (by dsimp only;have:=LC1.out;have:=LC2.out;have:=LC3.out;have:=MC1.out;have:=MC2.out;have:=MC3.out;have:=LA1.out;have:=LA2.out;have:=LA3.out;have:=MA1.out;have:=MA2.out;have:=MA3.out;omega) (.string ⟨#[97]⟩))).drew
 have hC2:Blk V2 (c2) 50 #[.int .i64 1,.bool true,.string ⟨#[97]⟩,.slice (some ⟨t2,0,none⟩) 1 1,.slice (some ⟨u2,0,none⟩) 1 1,.bool false,.slice none 0 0]:=by rw [hV2];exact (((HC2.out.set_ 2 (.string ⟨#[97]⟩)).far (p:=⟨a2,0,none⟩) (HC2.out.ne_ HA2.out (by decide)) (.string ⟨#[97]⟩))).drew
 have hT2:Blk V2 (t2) 65 #[.int .i64 1,.string ⟨#[]⟩,.int .i64 3,.string ⟨#[120]⟩,.int .i64 0,.slice none 0 0]:=by rw [hV2];exact (((HT2.out.far (p:=⟨c2,2,none⟩) (HT2.out.ne_ HC2.out (by decide)) (.string ⟨#[97]⟩)).far (p:=⟨a2,0,none⟩) (HT2.out.ne_ HA2.out (by decide)) (.string ⟨#[97]⟩))).drew
 have hA2:Blk V2 (a2) 58 #[.string ⟨#[97]⟩,.string ⟨#[]⟩,.int .i64 3,.string ⟨#[121]⟩,.int .i64 0,.int .i64 0,.string ⟨#[]⟩,.int .i64 2,.string ⟨#[]⟩,.int .i64 2,.string ⟨#[]⟩,.int .i64 0,.string ⟨#[]⟩,.int .i64 0,.int .i64 1,.string ⟨#[]⟩,.int .i64 0,.string ⟨#[]⟩,.int .i64 0]:=by rw [hV2];exact (((HA2.out.far (p:=⟨c2,2,none⟩) (HA2.out.ne_ HC2.out (by decide)) (.string ⟨#[97]⟩)).set_ 0 (.string ⟨#[97]⟩))).drew
 have hC3:Blk V2 (c3) 50 #[.int .i64 1,.bool true,.string ⟨#[115]⟩,.slice (some ⟨t3,0,none⟩) 1 1,.slice (some ⟨u3,0,none⟩) 1 1,.bool false,.slice none 0 0]:=by rw [hV2];exact (((HC3.out.far (p:=⟨c2,2,none⟩) (by dsimp only;have:=LC1.out;have:=LC2.out;have:=LC3.out;have:=MC1.out;have:=MC2.out;have:=MC3.out;have:=LA1.out;have:=LA2.out;have:=LA3.out;have:=MA1.out;have:=MA2.out;have:=MA3.out;omega) (.string ⟨#[97]⟩)).far (p:=⟨a2,0,none⟩) (HC3.out.ne_ HA2.out (by decide)) (.string ⟨#[97]⟩))).drew
 have hT3:Blk V2 (t3) 65 #[.int .i64 1,.string ⟨#[]⟩,.int .i64 3,.string ⟨#[120]⟩,.int .i64 0,.slice none 0 0]:=by rw [hV2];exact (((HT3.out.far (p:=⟨c2,2,none⟩) (HT3.out.ne_ HC2.out (by decide)) (.string ⟨#[97]⟩)).far (p:=⟨a2,0,none⟩) (HT3.out.ne_ HA2.out (by decide)) (.string ⟨#[97]⟩))).drew
 have hA3:Blk V2 (a3) 58 #[.string ⟨#[115]⟩,.string ⟨#[]⟩,.int .i64 3,.string ⟨#[121]⟩,.int .i64 0,.int .i64 0,.string ⟨#[]⟩,.int .i64 2,.string ⟨#[]⟩,.int .i64 2,.string ⟨#[]⟩,.int .i64 0,.string ⟨#[]⟩,.int .i64 0,.int .i64 1,.string ⟨#[]⟩,.int .i64 0,.string ⟨#[]⟩,.int .i64 0]:=by rw [hV2];exact (((HA3.out.far (p:=⟨c2,2,none⟩) (HA3.out.ne_ HC2.out (by decide)) (.string ⟨#[97]⟩)).far (p:=⟨a2,0,none⟩) (by dsimp only;have:=LC1.out;have:=LC2.out;have:=LC3.out;have:=MC1.out;have:=MC2.out;have:=MC3.out;have:=LA1.out;have:=LA2.out;have:=LA3.out;have:=MA1.out;have:=MA2.out;have:=MA3.out;omega) (.string ⟨#[97]⟩))).drew
 have hP1:Blk V2 (v3.heap.size) 25 #[.string ⟨#[97]⟩,.slice (some ⟨c1,0,none⟩) 1 1,.slice (some ⟨a1,0,none⟩) 1 1]:=by rw [hV2];exact (((HP1.out.far (p:=⟨c2,2,none⟩) (HP1.out.ne_ HC2.out (by decide)) (.string ⟨#[97]⟩)).far (p:=⟨a2,0,none⟩) (HP1.out.ne_ HA2.out (by decide)) (.string ⟨#[97]⟩))).drew
 have hP2:Blk V2 (v3.heap.size+1) 25 #[.string ⟨#[97]⟩,.slice (some ⟨c2,0,none⟩) 1 1,.slice (some ⟨a2,0,none⟩) 1 1]:=by rw [hV2];exact (((HP2.out.far (p:=⟨c2,2,none⟩) (HP2.out.ne_ HC2.out (by decide)) (.string ⟨#[97]⟩)).far (p:=⟨a2,0,none⟩) (HP2.out.ne_ HA2.out (by decide)) (.string ⟨#[97]⟩))).drew
 have hP3:Blk V2 (v3.heap.size+2) 25 #[.string ⟨#[97]⟩,.slice (some ⟨c3,0,none⟩) 1 1,.slice (some ⟨a3,0,none⟩) 1 1]:=by rw [hV2];exact (((HP3.out.far (p:=⟨c2,2,none⟩) (HP3.out.ne_ HC2.out (by decide)) (.string ⟨#[97]⟩)).far (p:=⟨a2,0,none⟩) (HP3.out.ne_ HA2.out (by decide)) (.string ⟨#[97]⟩))).drew
 have hY1:Blk V2 (y1) 65 #[.int .i64 1,.string ⟨#[121]⟩,.int .i64 0,.string ⟨#[]⟩,.int .i64 0,.slice none 0 0]:=by rw [hV2];exact (((HY1.out.far (p:=⟨c2,2,none⟩) (HY1.out.ne_ HC2.out (by decide)) (.string ⟨#[97]⟩)).far (p:=⟨a2,0,none⟩) (HY1.out.ne_ HA2.out (by decide)) (.string ⟨#[97]⟩))).drew
 have HBn:=Lib.hid (show Below w.heap.size w V2 by rw [hV2];exact ((HB.out.setCell (by have:=LC2.out;dsimp only;omega) _).setCell (by have:=LA2.out;dsimp only;omega) _).drew)
 clear HB
 have HB:=HBn
 clear HBn
 clear xP2_1 xP2_2 zP2 xC2_2 zC2 xA2_0 zA2 f2 f0 hca hac hcp hV2
 have HC1:=Lib.hid hC1
 clear hC1
 have HT1:=Lib.hid hT1
 clear hT1
 have HA1:=Lib.hid hA1
 clear hA1
 have HC2:=Lib.hid hC2
 clear hC2
 have HT2:=Lib.hid hT2
 clear hT2
 have HA2:=Lib.hid hA2
 clear hA2
 have HC3:=Lib.hid hC3
 clear hC3
 have HT3:=Lib.hid hT3
 clear hT3
 have HA3:=Lib.hid hA3
 clear hA3
 have HP1:=Lib.hid hP1
 clear hP1
 have HP2:=Lib.hid hP2
 clear hP2
 have HP3:=Lib.hid hP3
 clear hP3
 have HY1:=Lib.hid hY1
 clear hY1
 have xP2_1:V2.cell? ⟨v3.heap.size+1,1,none⟩=some (.slice (some ⟨c2,0,none⟩) 1 1):=(HP2.out.cell 1).trans rfl
 have zP2:=HP2.out.lt
 have xC2_4:V2.cell? ⟨c2,4,none⟩=some (.slice (some ⟨u2,0,none⟩) 1 1):=(HC2.out.cell 4).trans rfl
 have zC2:=HC2.out.lt
 have f4:=HC2.out.frozen 4
 go_upto_region 5 with fail
 obtain ⟨V3,hV3⟩ : ∃V,V=(V2.setCell ⟨c2,4,none⟩ (.slice (some ⟨V2.heap.size,0,none⟩) 1 1)).alloc (.cells #[.int .i64 1,.string ⟨#[98]⟩,.int .i64 0,.string ⟨#[]⟩,.int .i64 0,.slice none 0 0] 65):=⟨_,rfl⟩
 rw [← hV3]
 have hC1:Blk V3 (c1) 50 #[.int .i64 1,.bool true,.string ⟨#[115]⟩,.slice (some ⟨t1,0,none⟩) 1 1,.slice (some ⟨y1,0,none⟩) 1 1,.bool false,.slice none 0 0]:=by rw [hV3];exact ((HC1.out.far (p:=⟨c2,4,none⟩) (by dsimp only;have:=LC1.out;have:=LC2.out;have:=LC3.out;have:=MC1.out;have:=MC2.out;have:=MC3.out;have:=LA1.out;have:=LA2.out;have:=LA3.out;have:=MA1.out;have:=MA2.out;have:=MA3.out;omega) (.slice (some ⟨V2.heap.size,0,none⟩) 1 1))).alloc _
 have hT1:Blk V3 (t1) 65 #[.int .i64 1,.string ⟨#[]⟩,.int .i64 3,.string ⟨#[120]⟩,.int .i64 0,.slice none 0 0]:=by rw [hV3];exact ((HT1.out.far (p:=⟨c2,4,none⟩) (HT1.out.ne_ HC2.out (by decide)) (.slice (some ⟨V2.heap.size,0,none⟩) 1 1))).alloc _
 have hA1:Blk V3 (a1) 58 #[.string ⟨#[115]⟩,.string ⟨#[]⟩,.int .i64 3,.string ⟨#[121]⟩,.int .i64 0,.int .i64 0,.string ⟨#[]⟩,.int .i64 2,.string ⟨#[]⟩,.int .i64 2,.string ⟨#[]⟩,.int .i64 0,.string ⟨#[]⟩,.int .i64 0,.int .i64 1,.string ⟨#[]⟩,.int .i64 0,.string ⟨#[]⟩,.int .i64 0]:=by rw [hV3];exact ((HA1.out.far (p:=⟨c2,4,none⟩) (HA1.out.ne_ HC2.out (by decide)) (.slice (some ⟨V2.heap.size,0,none⟩) 1 1))).alloc _
 have hC2:Blk V3 (c2) 50 #[.int .i64 1,.bool true,.string ⟨#[97]⟩,.slice (some ⟨t2,0,none⟩) 1 1,.slice (some ⟨V2.heap.size,0,none⟩) 1 1,.bool false,.slice none 0 0]:=by rw [hV3];exact ((HC2.out.set_ 4 (.slice (some ⟨V2.heap.size,0,none⟩) 1 1))).alloc _
 have hT2:Blk V3 (t2) 65 #[.int .i64 1,.string ⟨#[]⟩,.int .i64 3,.string ⟨#[120]⟩,.int .i64 0,.slice none 0 0]:=by rw [hV3];exact ((HT2.out.far (p:=⟨c2,4,none⟩) (HT2.out.ne_ HC2.out (by decide)) (.slice (some ⟨V2.heap.size,0,none⟩) 1 1))).alloc _
 have hA2:Blk V3 (a2) 58 #[.string ⟨#[97]⟩,.string ⟨#[]⟩,.int .i64 3,.string ⟨#[121]⟩,.int .i64 0,.int .i64 0,.string ⟨#[]⟩,.int .i64 2,.string ⟨#[]⟩,.int .i64 2,.string ⟨#[]⟩,.int .i64 0,.string ⟨#[]⟩,.int .i64 0,.int .i64 1,.string ⟨#[]⟩,.int .i64 0,.string ⟨#[]⟩,.int .i64 0]:=by rw [hV3];exact ((HA2.out.far (p:=⟨c2,4,none⟩) (HA2.out.ne_ HC2.out (by decide)) (.slice (some ⟨V2.heap.size,0,none⟩) 1 1))).alloc _
 have hC3:Blk V3 (c3) 50 #[.int .i64 1,.bool true,.string ⟨#[115]⟩,.slice (some ⟨t3,0,none⟩) 1 1,.slice (some ⟨u3,0,none⟩) 1 1,.bool false,.slice none 0 0]:=by rw [hV3];exact ((HC3.out.far (p:=⟨c2,4,none⟩) (by dsimp only;have:=LC1.out;have:=LC2.out;have:=LC3.out;have:=MC1.out;have:=MC2.out;have:=MC3.out;have:=LA1.out;have:=LA2.out;have:=LA3.out;have:=MA1.out;have:=MA2.out;have:=MA3.out;omega) (.slice (some ⟨V2.heap.size,0,none⟩) 1 1))).alloc _
 have hT3:Blk V3 (t3) 65 #[.int .i64 1,.string ⟨#[]⟩,.int .i64 3,.string ⟨#[120]⟩,.int .i64 0,.slice none 0 0]:=by rw [hV3];exact ((HT3.out.far (p:=⟨c2,4,none⟩) (HT3.out.ne_ HC2.out (by decide)) (.slice (some ⟨V2.heap.size,0,none⟩) 1 1))).alloc _
 have hA3:Blk V3 (a3) 58 #[.string ⟨#[115]⟩,.string ⟨#[]⟩,.int .i64 3,.string ⟨#[121]⟩,.int .i64 0,.int .i64 0,.string ⟨#[]⟩,.int .i64 2,.string ⟨#[]⟩,.int .i64 2,.string ⟨#[]⟩,.int .i64 0,.string ⟨#[]⟩,.int .i64 0,.int .i64 1,.string ⟨#[]⟩,.int .i64 0,.string ⟨#[]⟩,.int .i64 0]:=by rw [hV3];exact ((HA3.out.far (p:=⟨c2,4,none⟩) (HA3.out.ne_ HC2.out (by decide)) (.slice (some ⟨V2.heap.size,0,none⟩) 1 1))).alloc _
 have hP1:Blk V3 (v3.heap.size) 25 #[.string ⟨#[97]⟩,.slice (some ⟨c1,0,none⟩) 1 1,.slice (some ⟨a1,0,none⟩) 1 1]:=by rw [hV3];exact ((HP1.out.far (p:=⟨c2,4,none⟩) (HP1.out.ne_ HC2.out (by decide)) (.slice (some ⟨V2.heap.size,0,none⟩) 1 1))).alloc _
 have hP2:Blk V3 (v3.heap.size+1) 25 #[.string ⟨#[97]⟩,.slice (some ⟨c2,0,none⟩) 1 1,.slice (some ⟨a2,0,none⟩) 1 1]:=by rw [hV3];exact ((HP2.out.far (p:=⟨c2,4,none⟩) (HP2.out.ne_ HC2.out (by decide)) (.slice (some ⟨V2.heap.size,0,none⟩) 1 1))).alloc _
 have hP3:Blk V3 (v3.heap.size+2) 25 #[.string ⟨#[97]⟩,.slice (some ⟨c3,0,none⟩) 1 1,.slice (some ⟨a3,0,none⟩) 1 1]:=by rw [hV3];exact ((HP3.out.far (p:=⟨c2,4,none⟩) (HP3.out.ne_ HC2.out (by decide)) (.slice (some ⟨V2.heap.size,0,none⟩) 1 1))).alloc _
 have hY1:Blk V3 (y1) 65 #[.int .i64 1,.string ⟨#[121]⟩,.int .i64 0,.string ⟨#[]⟩,.int .i64 0,.slice none 0 0]:=by rw [hV3];exact ((HY1.out.far (p:=⟨c2,4,none⟩) (HY1.out.ne_ HC2.out (by decide)) (.slice (some ⟨V2.heap.size,0,none⟩) 1 1))).alloc _
 have hn:Blk V3 V2.heap.size 65 #[.int .i64 1,.string ⟨#[98]⟩,.int .i64 0,.string ⟨#[]⟩,.int .i64 0,.slice none 0 0]:=by rw [hV3];have hh:=Blk.new (V2.setCell ⟨c2,4,none⟩ (.slice (some ⟨V2.heap.size,0,none⟩) 1 1)) 65 #[.int .i64 1,.string ⟨#[98]⟩,.int .i64 0,.string ⟨#[]⟩,.int .i64 0,.slice none 0 0];simpa using hh
 have HBn:=Lib.hid (show Below w.heap.size w V3 by rw [hV3];exact (HB.out.setCell (by have:=LC2.out;dsimp only;omega) _).alloc (by have:=HB.out.size;simpa using this) _)
 clear HB
 have HB:=HBn
 clear HBn
 clear xP2_1 zP2 xC2_4 zC2 f4 hV3
 have HC1:=Lib.hid hC1
 clear hC1
 have HT1:=Lib.hid hT1
 clear hT1
 have HA1:=Lib.hid hA1
 clear hA1
 have HC2:=Lib.hid hC2
 clear hC2
 have HT2:=Lib.hid hT2
 clear hT2
 have HA2:=Lib.hid hA2
 clear hA2
 have HC3:=Lib.hid hC3
 clear hC3
 have HT3:=Lib.hid hT3
 clear hT3
 have HA3:=Lib.hid hA3
 clear hA3
 have HP1:=Lib.hid hP1
 clear hP1
 have HP2:=Lib.hid hP2
 clear hP2
 have HP3:=Lib.hid hP3
 clear hP3
 have HY1:=Lib.hid hY1
 clear hY1
 obtain ⟨y2,hy2⟩ : ∃y,y=V2.heap.size:=⟨_,rfl⟩
 rw [← hy2] at hn HC2
 have HY2:=Lib.hid hn
 clear hn hy2
 have xP3_1:V3.cell? ⟨v3.heap.size+2,1,none⟩=some (.slice (some ⟨c3,0,none⟩) 1 1):=(HP3.out.cell 1).trans rfl
 have zP3:=HP3.out.lt
 have xC3_4:V3.cell? ⟨c3,4,none⟩=some (.slice (some ⟨u3,0,none⟩) 1 1):=(HC3.out.cell 4).trans rfl
 have zC3:=HC3.out.lt
 have f4:=HC3.out.frozen 4
 go_upto_region 6 with fail
 obtain ⟨V4,hV4⟩ : ∃V,V=(V3.setCell ⟨c3,4,none⟩ (.slice (some ⟨V3.heap.size,0,none⟩) 1 1)).alloc (.cells #[.int .i64 1,.string ⟨#[115]⟩,.int .i64 0,.string ⟨#[]⟩,.int .i64 0,.slice none 0 0] 65):=⟨_,rfl⟩
 rw [← hV4]
 have hC1:Blk V4 (c1) 50 #[.int .i64 1,.bool true,.string ⟨#[115]⟩,.slice (some ⟨t1,0,none⟩) 1 1,.slice (some ⟨y1,0,none⟩) 1 1,.bool false,.slice none 0 0]:=by rw [hV4];exact ((HC1.out.far (p:=⟨c3,4,none⟩) (by dsimp only;have:=LC1.out;have:=LC2.out;have:=LC3.out;have:=MC1.out;have:=MC2.out;have:=MC3.out;have:=LA1.out;have:=LA2.out;have:=LA3.out;have:=MA1.out;have:=MA2.out;have:=MA3.out;omega) (.slice (some ⟨V3.heap.size,0,none⟩) 1 1))).alloc _
 have hT1:Blk V4 (t1) 65 #[.int .i64 1,.string ⟨#[]⟩,.int .i64 3,.string ⟨#[120]⟩,.int .i64 0,.slice none 0 0]:=by rw [hV4];exact ((HT1.out.far (p:=⟨c3,4,none⟩) (HT1.out.ne_ HC3.out (by decide)) (.slice (some ⟨V3.heap.size,0,none⟩) 1 1))).alloc _
 have hA1:Blk V4 (a1) 58 #[.string ⟨#[115]⟩,.string ⟨#[]⟩,.int .i64 3,.string ⟨#[121]⟩,.int .i64 0,.int .i64 0,.string ⟨#[]⟩,.int .i64 2,.string ⟨#[]⟩,.int .i64 2,.string ⟨#[]⟩,.int .i64 0,.string ⟨#[]⟩,.int .i64 0,.int .i64 1,.string ⟨#[]⟩,.int .i64 0,.string ⟨#[]⟩,.int .i64 0]:=by rw [hV4];exact ((HA1.out.far (p:=⟨c3,4,none⟩) (HA1.out.ne_ HC3.out (by decide)) (.slice (some ⟨V3.heap.size,0,none⟩) 1 1))).alloc _
 have hC2:Blk V4 (c2) 50 #[.int .i64 1,.bool true,.string ⟨#[97]⟩,.slice (some ⟨t2,0,none⟩) 1 1,.slice (some ⟨y2,0,none⟩) 1 1,.bool false,.slice none 0 0]:=by rw [hV4];exact ((HC2.out.far (p:=⟨c3,4,none⟩) (by dsimp only;have:=LC1.out;have:=LC2.out;have:=LC3.out;have:=MC1.out;have:=MC2.out;have:=MC3.out;have:=LA1.out;have:=LA2.out;have:=LA3.out;have:=MA1.out;have:=MA2.out;have:=MA3.out;omega) (.slice (some ⟨V3.heap.size,0,none⟩) 1 1))).alloc _
 have hT2:Blk V4 (t2) 65 #[.int .i64 1,.string ⟨#[]⟩,.int .i64 3,.string ⟨#[120]⟩,.int .i64 0,.slice none 0 0]:=by rw [hV4];exact ((HT2.out.far (p:=⟨c3,4,none⟩) (HT2.out.ne_ HC3.out (by decide)) (.slice (some ⟨V3.heap.size,0,none⟩) 1 1))).alloc _
 have hA2:Blk V4 (a2) 58 #[.string ⟨#[97]⟩,.string ⟨#[]⟩,.int .i64 3,.string ⟨#[121]⟩,.int .i64 0,.int .i64 0,.string ⟨#[]⟩,.int .i64 2,.string ⟨#[]⟩,.int .i64 2,.string ⟨#[]⟩,.int .i64 0,.string ⟨#[]⟩,.int .i64 0,.int .i64 1,.string ⟨#[]⟩,.int .i64 0,.string ⟨#[]⟩,.int .i64 0]:=by rw [hV4];exact ((HA2.out.far (p:=⟨c3,4,none⟩) (HA2.out.ne_ HC3.out (by decide)) (.slice (some ⟨V3.heap.size,0,none⟩) 1 1))).alloc _
 have hC3:Blk V4 (c3) 50 #[.int .i64 1,.bool true,.string ⟨#[115]⟩,.slice (some ⟨t3,0,none⟩) 1 1,.slice (some ⟨V3.heap.size,0,none⟩) 1 1,.bool false,.slice none 0 0]:=by rw [hV4];exact ((HC3.out.set_ 4 (.slice (some ⟨V3.heap.size,0,none⟩) 1 1))).alloc _
 have hT3:Blk V4 (t3) 65 #[.int .i64 1,.string ⟨#[]⟩,.int .i64 3,.string ⟨#[120]⟩,.int .i64 0,.slice none 0 0]:=by rw [hV4];exact ((HT3.out.far (p:=⟨c3,4,none⟩) (HT3.out.ne_ HC3.out (by decide)) (.slice (some ⟨V3.heap.size,0,none⟩) 1 1))).alloc _
 have hA3:Blk V4 (a3) 58 #[.string ⟨#[115]⟩,.string ⟨#[]⟩,.int .i64 3,.string ⟨#[121]⟩,.int .i64 0,.int .i64 0,.string ⟨#[]⟩,.int .i64 2,.string ⟨#[]⟩,.int .i64 2,.string ⟨#[]⟩,.int .i64 0,.string ⟨#[]⟩,.int .i64 0,.int .i64 1,.string ⟨#[]⟩,.int .i64 0,.string ⟨#[]⟩,.int .i64 0]:=by rw [hV4];exact ((HA3.out.far (p:=⟨c3,4,none⟩) (HA3.out.ne_ HC3.out (by decide)) (.slice (some ⟨V3.heap.size,0,none⟩) 1 1))).alloc _
 have hP1:Blk V4 (v3.heap.size) 25 #[.string ⟨#[97]⟩,.slice (some ⟨c1,0,none⟩) 1 1,.slice (some ⟨a1,0,none⟩) 1 1]:=by rw [hV4];exact ((HP1.out.far (p:=⟨c3,4,none⟩) (HP1.out.ne_ HC3.out (by decide)) (.slice (some ⟨V3.heap.size,0,none⟩) 1 1))).alloc _
 have hP2:Blk V4 (v3.heap.size+1) 25 #[.string ⟨#[97]⟩,.slice (some ⟨c2,0,none⟩) 1 1,.slice (some ⟨a2,0,none⟩) 1 1]:=by rw [hV4];exact ((HP2.out.far (p:=⟨c3,4,none⟩) (HP2.out.ne_ HC3.out (by decide)) (.slice (some ⟨V3.heap.size,0,none⟩) 1 1))).alloc _
 have hP3:Blk V4 (v3.heap.size+2) 25 #[.string ⟨#[97]⟩,.slice (some ⟨c3,0,none⟩) 1 1,.slice (some ⟨a3,0,none⟩) 1 1]:=by rw [hV4];exact ((HP3.out.far (p:=⟨c3,4,none⟩) (HP3.out.ne_ HC3.out (by decide)) (.slice (some ⟨V3.heap.size,0,none⟩) 1 1))).alloc _
 have hY1:Blk V4 (y1) 65 #[.int .i64 1,.string ⟨#[121]⟩,.int .i64 0,.string ⟨#[]⟩,.int .i64 0,.slice none 0 0]:=by rw [hV4];exact ((HY1.out.far (p:=⟨c3,4,none⟩) (HY1.out.ne_ HC3.out (by decide)) (.slice (some ⟨V3.heap.size,0,none⟩) 1 1))).alloc _
 have hY2:Blk V4 (y2) 65 #[.int .i64 1,.string ⟨#[98]⟩,.int .i64 0,.string ⟨#[]⟩,.int .i64 0,.slice none 0 0]:=by rw [hV4];exact ((HY2.out.far (p:=⟨c3,4,none⟩) (HY2.out.ne_ HC3.out (by decide)) (.slice (some ⟨V3.heap.size,0,none⟩) 1 1))).alloc _
 have hn:Blk V4 V3.heap.size 65 #[.int .i64 1,.string ⟨#[115]⟩,.int .i64 0,.string ⟨#[]⟩,.int .i64 0,.slice none 0 0]:=by rw [hV4];have hh:=Blk.new (V3.setCell ⟨c3,4,none⟩ (.slice (some ⟨V3.heap.size,0,none⟩) 1 1)) 65 #[.int .i64 1,.string ⟨#[115]⟩,.int .i64 0,.string ⟨#[]⟩,.int .i64 0,.slice none 0 0];simpa using hh
 have HBn:=Lib.hid (show Below w.heap.size w V4 by rw [hV4];exact (HB.out.setCell (by have:=LC3.out;dsimp only;omega) _).alloc (by have:=HB.out.size;simpa using this) _)
 clear HB
 have HB:=HBn
 clear HBn
 clear xP3_1 zP3 xC3_4 zC3 f4 hV4
 have HC1:=Lib.hid hC1
 clear hC1
 have HT1:=Lib.hid hT1
 clear hT1
 have HA1:=Lib.hid hA1
 clear hA1
 have HC2:=Lib.hid hC2
 clear hC2
 have HT2:=Lib.hid hT2
 clear hT2
 have HA2:=Lib.hid hA2
 clear hA2
 have HC3:=Lib.hid hC3
 clear hC3
 have HT3:=Lib.hid hT3
 clear hT3
 have HA3:=Lib.hid hA3
 clear hA3
 have HP1:=Lib.hid hP1
 clear hP1
 have HP2:=Lib.hid hP2
 clear hP2
 have HP3:=Lib.hid hP3
 clear hP3
 have HY1:=Lib.hid hY1
 clear hY1
 have HY2:=Lib.hid hY2
 clear hY2
 obtain ⟨y3,hy3⟩ : ∃y,y=V3.heap.size:=⟨_,rfl⟩
 rw [← hy3] at hn HC3
 have HY3:=Lib.hid hn
 clear hn hy3
 obtain ⟨X,hX⟩ : ∃X,X=V4:=⟨_,rfl⟩
 rw [← hX] at HB ⊢
 rw [← hX] at HC1
 rw [← hX] at HT1
 rw [← hX] at HA1
 rw [← hX] at HC2
 rw [← hX] at HT2
 rw [← hX] at HA2
 rw [← hX] at HC3
 rw [← hX] at HT3
 rw [← hX] at HA3
 rw [← hX] at HP1
 rw [← hX] at HP2
 rw [← hX] at HP3
 rw [← hX] at HY1
 rw [← hX] at HY2
 rw [← hX] at HY3
 clear hX
 have HS1:=Lib.hid (show ∀Y,Below X.heap.size X Y→Calls Try.prog 24 #[.agg #[.string ⟨#[97]⟩,.slice (some ⟨c1,0,none⟩) 1 1,.slice (some ⟨a1,0,none⟩) 1 1],.agg #[.string ⟨#[97]⟩,.slice (some ⟨c2,0,none⟩) 1 1,.slice (some ⟨a2,0,none⟩) 1 1]] Y fun e w'=>e = .returned (.bool true)∧Below Y.heap.size Y w' from fun Y hY=>by
  have h:=csame_is (D:=(· < Y.heap.size)) 1 (wkP ⟨#[115]⟩ ⟨#[121]⟩) (wkP ⟨#[97]⟩ ⟨#[98]⟩) (some ⟨c1,0,none⟩) 1 (some ⟨a1,0,none⟩) 1 (some ⟨c2,0,none⟩) 1 (some ⟨a2,0,none⟩) 1 Y (fun _ hk=>hk) (wk_rows (D:=(· < Y.heap.size)) ⟨#[115]⟩ ⟨#[121]⟩ (HC1.out.new_ hY) (HT1.out.new_ hY) (HY1.out.new_ hY) (HA1.out.new_ hY) (fun k hk=>hk)).1 (wk_rows (D:=(· < Y.heap.size)) ⟨#[115]⟩ ⟨#[121]⟩ (HC1.out.new_ hY) (HT1.out.new_ hY) (HY1.out.new_ hY) (HA1.out.new_ hY) (fun k hk=>hk)).2 (wk_fit _ _) (wk_rows (D:=(· < Y.heap.size)) ⟨#[97]⟩ ⟨#[98]⟩ (HC2.out.new_ hY) (HT2.out.new_ hY) (HY2.out.new_ hY) (HA2.out.new_ hY) (fun k hk=>hk)).1 (wk_rows (D:=(· < Y.heap.size)) ⟨#[97]⟩ ⟨#[98]⟩ (HC2.out.new_ hY) (HT2.out.new_ hY) (HY2.out.new_ hY) (HA2.out.new_ hY) (fun k hk=>hk)).2 (wk_fit _ _)
  rw [wk_yes] at h
  exact h)
 have HS2:=Lib.hid (show ∀Y,Below X.heap.size X Y→Calls Try.prog 24 #[.agg #[.string ⟨#[97]⟩,.slice (some ⟨c1,0,none⟩) 1 1,.slice (some ⟨a1,0,none⟩) 1 1],.agg #[.string ⟨#[97]⟩,.slice (some ⟨c3,0,none⟩) 1 1,.slice (some ⟨a3,0,none⟩) 1 1]] Y fun e w'=>e = .returned (.bool false)∧Below Y.heap.size Y w' from fun Y hY=>by
  have h:=csame_is (D:=(· < Y.heap.size)) 1 (wkP ⟨#[115]⟩ ⟨#[121]⟩) (wkP ⟨#[115]⟩ ⟨#[115]⟩) (some ⟨c1,0,none⟩) 1 (some ⟨a1,0,none⟩) 1 (some ⟨c3,0,none⟩) 1 (some ⟨a3,0,none⟩) 1 Y (fun _ hk=>hk) (wk_rows (D:=(· < Y.heap.size)) ⟨#[115]⟩ ⟨#[121]⟩ (HC1.out.new_ hY) (HT1.out.new_ hY) (HY1.out.new_ hY) (HA1.out.new_ hY) (fun k hk=>hk)).1 (wk_rows (D:=(· < Y.heap.size)) ⟨#[115]⟩ ⟨#[121]⟩ (HC1.out.new_ hY) (HT1.out.new_ hY) (HY1.out.new_ hY) (HA1.out.new_ hY) (fun k hk=>hk)).2 (wk_fit _ _) (wk_rows (D:=(· < Y.heap.size)) ⟨#[115]⟩ ⟨#[115]⟩ (HC3.out.new_ hY) (HT3.out.new_ hY) (HY3.out.new_ hY) (HA3.out.new_ hY) (fun k hk=>hk)).1 (wk_rows (D:=(· < Y.heap.size)) ⟨#[115]⟩ ⟨#[115]⟩ (HC3.out.new_ hY) (HT3.out.new_ hY) (HY3.out.new_ hY) (HA3.out.new_ hY) (fun k hk=>hk)).2 (wk_fit _ _)
  rw [wk_no] at h
  exact h)
 have xP1_0:X.cell? ⟨v3.heap.size,0,none⟩=some (.string ⟨#[97]⟩):=(HP1.out.cell 0).trans rfl
 have xP1_1:X.cell? ⟨v3.heap.size,1,none⟩=some (.slice (some ⟨c1,0,none⟩) 1 1):=(HP1.out.cell 1).trans rfl
 have xP1_2:X.cell? ⟨v3.heap.size,2,none⟩=some (.slice (some ⟨a1,0,none⟩) 1 1):=(HP1.out.cell 2).trans rfl
 have zP1:=HP1.out.lt
 have xP2_0:X.cell? ⟨v3.heap.size+1,0,none⟩=some (.string ⟨#[97]⟩):=(HP2.out.cell 0).trans rfl
 have xP2_1:X.cell? ⟨v3.heap.size+1,1,none⟩=some (.slice (some ⟨c2,0,none⟩) 1 1):=(HP2.out.cell 1).trans rfl
 have xP2_2:X.cell? ⟨v3.heap.size+1,2,none⟩=some (.slice (some ⟨a2,0,none⟩) 1 1):=(HP2.out.cell 2).trans rfl
 have zP2:=HP2.out.lt
 have xP3_0:X.cell? ⟨v3.heap.size+2,0,none⟩=some (.string ⟨#[97]⟩):=(HP3.out.cell 0).trans rfl
 have xP3_1:X.cell? ⟨v3.heap.size+2,1,none⟩=some (.slice (some ⟨c3,0,none⟩) 1 1):=(HP3.out.cell 1).trans rfl
 have xP3_2:X.cell? ⟨v3.heap.size+2,2,none⟩=some (.slice (some ⟨a3,0,none⟩) 1 1):=(HP3.out.cell 2).trans rfl
 have zP3:=HP3.out.lt
 go_wp2_with fail
 refine (HS1.out X (Below.refl _ _)).mono ?_
 rintro e X2 ⟨rfl,hb2⟩
 have HB2:=Lib.hid hb2
 clear xP1_0 xP1_1 xP1_2 zP1 xP2_0 xP2_1 xP2_2 zP2 xP3_0 xP3_1 xP3_2 zP3
 have HP1:=Lib.hid (HP1.out.new_ hb2)
 have HP3:=Lib.hid (HP3.out.new_ hb2)
 clear hb2
 have xP1_0:X2.cell? ⟨v3.heap.size,0,none⟩=some (.string ⟨#[97]⟩):=(HP1.out.cell 0).trans rfl
 have xP1_1:X2.cell? ⟨v3.heap.size,1,none⟩=some (.slice (some ⟨c1,0,none⟩) 1 1):=(HP1.out.cell 1).trans rfl
 have xP1_2:X2.cell? ⟨v3.heap.size,2,none⟩=some (.slice (some ⟨a1,0,none⟩) 1 1):=(HP1.out.cell 2).trans rfl
 have zP1:=HP1.out.lt
 have xP3_0:X2.cell? ⟨v3.heap.size+2,0,none⟩=some (.string ⟨#[97]⟩):=(HP3.out.cell 0).trans rfl
 have xP3_1:X2.cell? ⟨v3.heap.size+2,1,none⟩=some (.slice (some ⟨c3,0,none⟩) 1 1):=(HP3.out.cell 1).trans rfl
 have xP3_2:X2.cell? ⟨v3.heap.size+2,2,none⟩=some (.slice (some ⟨a3,0,none⟩) 1 1):=(HP3.out.cell 2).trans rfl
 have zP3:=HP3.out.lt
 go_wp2_with fail
 refine (HS2.out X2 HB2.out).mono ?_
 rintro e X3 ⟨rfl,hb3⟩
 have HB3:=Lib.hid (HB2.out.trans (hb3.mono HB2.out.size))
 clear hb3 xP1_0 xP1_1 xP1_2 zP1 xP3_0 xP3_1 xP3_2 zP3
 go_wp2_with fail
 go_ret
 exact ⟨rfl,HB.out.trans (HB3.out.mono HB.out.size)⟩
end Go.Proofs.Ytffemfglngikbaa
namespace Go.Proofs.Ytffemfglngikbaa
open Go.RowKit Go.Shelf
abbrev Pt:=ByteArray ⊕ ByteArray
def flat (t:ByteArray→ByteArray):List Pt→List UInt8
 | []=>[]
 | .inl b :: l=>b.data.toList++flat t l
 | .inr v :: l=>(t v).data.toList++flat t l
section
variable {t1 t2:ByteArray→ByteArray}
end
section
variable {t:ByteArray→ByteArray}
end
end Go.Proofs.Ytffemfglngikbaa
namespace Go.Proofs.Ytffemfglngikbaa
open Go.RowKit Go.Shelf
theorem ixOf_app {v:ByteArray} : ∀{l:List ByteArray} (m:List ByteArray),v∈l→ixOf v (l++m)=ixOf v l
 | u :: l,m,h=>by
   rw [List.cons_append,ixOf,ixOf]
   by_cases e:u=v
   · rw [if_pos e,if_pos e]
   · rw [if_neg e,if_neg e,ixOf_app m (by rcases List.mem_cons.1 h with h | h;exact absurd h.symm e;exact h)]
theorem ixOf_new {v:ByteArray} : ∀{l:List ByteArray},¬v∈l→ixOf v (l ++ [v])=l.length
 | [],_=>by rw [List.nil_append,ixOf,if_pos rfl];rfl
 | u :: l,h=>by
   rw [List.cons_append,ixOf,if_neg (fun e=>h (by simp [e])),ixOf_new (fun hh=>h (by simp [hh]))];rfl
structure MgI (f:ByteArray→ByteArray) (u u':List ByteArray):Prop where
 len:u'.length≤u.length
 ix : ∀w∈u,f w∈u'∧ixOf (f w) u'≤ixOf w u
theorem MgI.step {f:ByteArray→ByteArray} {u u':List ByteArray} (h:MgI f u u') (v:ByteArray):MgI f (uqStep u v) (uqStep u' (f v)):=by
 unfold uqStep
 by_cases hv:v∈u
 · rw [if_pos hv,if_pos (h.ix v hv).1];exact h
 · rw [if_neg hv]
   by_cases hf:f v∈u'
   · rw [if_pos hf]
     refine ⟨by have:=h.len;simp;omega,fun w hw=>?_⟩
     rcases List.mem_append.1 hw with hw | hw
     · rw [ixOf_app _ hw];exact h.ix w hw
     · rw [List.mem_singleton] at hw
       subst hw
       rw [ixOf_new hv]
       exact ⟨hf,by have:=(ixOf_lt hf).1;have:=h.len;omega⟩
   · rw [if_neg hf]
     refine ⟨by have:=h.len;simp;omega,fun w hw=>?_⟩
     rcases List.mem_append.1 hw with hw | hw
     · obtain ⟨g1,g2⟩:=h.ix w hw
       rw [ixOf_app _ hw,ixOf_app _ g1];exact ⟨by simp [g1],g2⟩
     · rw [List.mem_singleton] at hw
       subst hw
       rw [ixOf_new hv,ixOf_new hf]
       exact ⟨by simp,h.len⟩
end Go.Proofs.Ytffemfglngikbaa
namespace Go.Proofs.Ytffemfglngikbaa
open Go.RowKit Go.Shelf
attribute [local go_sem] Oper.semAt_some
structure RQ (W0:World) (out:List ByteArray) (A:Option Addr) (cp:Nat) (w:World):Prop where
 own:w.ownsRow 0 9 1 (.slice A out.length cp) out.length (out.flatMap strC)
 ain:AIn A (W0.heap.size≤·)
 bel:Below W0.heap.size W0 w
section
variable {W0 w w':World} {A:Option Addr} {cp:Nat} {out ys:List ByteArray}
theorem RQ.new_ (h:RQ W0 out A cp w) (hb:Below w.heap.size w w'):RQ W0 out A cp w':=⟨ownsRow_new h.own hb,h.ain,h.bel.trans (hb.mono h.bel.size)⟩
theorem RQ.app {v:Value} (h:RQ W0 out A cp w) (hown:w'.ownsRow 0 9 1 v (out.length+ys.length) (out.flatMap strC++ys.flatMap strC)) (hg:w.grownBy w' (Value.slice A out.length cp).ownBlock) (hat:v.ownBlock=(Value.slice A out.length cp).ownBlock∨v.ownBlock=some w.heap.size) :
 ∃A' c',v = .slice A' (out++ys).length c'∧RQ W0 (out++ys) A' c' w':=by
 obtain ⟨A',c',rfl,h1,h2,h3,h4⟩:=grown_str hown hg hat h.ain h.bel.size
 exact ⟨A',c',rfl,⟨h1,h2,h.bel.trans h3⟩⟩
end
end Go.Proofs.Ytffemfglngikbaa
namespace Go.Proofs.Ytffemfglngikbaa
open Go.RowKit Go.Shelf
set_option linter.unusedSimpArgs false
section
variable {t t':ByteArray→ByteArray}
theorem one_congr {v:ByteArray} (h : ∀x∈oneN v,t x=t' x):oneR t v=oneR t' v:=by
 by_cases hv:v.toList = []
 · rw [oneR,oneR,if_pos hv,if_pos hv]
 · rw [oneN_yes hv] at h
   rw [oneR,oneR,if_neg hv,if_neg hv,h v (by simp)]
theorem tests_congr {l:List TestT} (h : ∀x∈varsT l,t x=t' x):l.map (testR t)=l.map (testR t'):=by
 refine List.map_congr_left fun x hx=>?_
 show TestT.mk x.rel (oneR t x.var) x.sym x.list=_
 rw [one_congr (fun y hy=>h y (List.mem_flatMap.2 ⟨x,hx,hy⟩))]
 rfl
theorem cond_congr : ∀(n:Nat) (c:CondT),(∀x∈namesN n c,t x=t' x)→condR t n c=condR t' n c
 | 0,_,_=>rfl
 | n+1,c,h=>by
   have e:namesN (n+1) c=oneN c.id++(varsT c.attr++(varsT c.value++c.conds.flatMap (namesN n))):=rfl
   rw [e] at h
   have h3:c.conds.map (condR t n)=c.conds.map (condR t' n):=
    List.map_congr_left fun x hx=>cond_congr n x (fun y hy=>h y (by simp only [List.mem_append,List.mem_flatMap];exact .inr (.inr (.inr ⟨x,hx,hy⟩))))
   show CondT.mk c.kind c.goal (oneR t c.id) (c.attr.map (testR t)) (c.value.map (testR t)) c.acc (c.conds.map (condR t n))=_
   rw [one_congr (fun y hy=>h y (by simp [hy])),tests_congr (fun y hy=>h y (by simp [hy])),tests_congr (fun y hy=>h y (by simp [hy])),h3]
   rfl
theorem act_congr (a:ActT) (h : ∀x∈varsA a,t x=t' x):actR t a=actR t' a:=by
 rw [vars5] at h
 show ActT.mk (oneR t a.id) ⟨oneR t a.attr.var,a.attr.sym⟩ ⟨a.value.op,⟨oneR t a.value.a.var,a.value.a.sym⟩,⟨oneR t a.value.b.var,a.value.b.sym⟩⟩ a.pref ⟨oneR t a.other.var,a.other.sym⟩=_
 rw [one_congr (fun y hy=>h y (by simp [hy])),one_congr (fun y hy=>h y (by simp [hy])),one_congr (fun y hy=>h y (by simp [hy])),one_congr (fun y hy=>h y (by simp [hy])),one_congr (fun y hy=>h y (by simp [hy]))]
 rfl
theorem prod_congr {n:Nat} {p:ProdT} (h : ∀x∈varsP n p,t x=t' x):prodR t n p=prodR t' n p:=by
 unfold prodR
 congr 1
 · exact List.map_congr_left fun c hc=>cond_congr n c (fun y hy=>h y (mem_varsC hc hy))
 · exact List.map_congr_left fun a ha=>act_congr a (fun y hy=>h y (mem_varsA ha hy))
end
abbrev Sz (v:ByteArray):Prop:=v.size≤2000000
theorem qt_sz {l:List TestT} (h:l.any heavyT=false):QT Sz l:=fun t ht _=>by
 have h3:=List.any_eq_false.1 h t ht
 unfold heavyT at h3
 simp only [Bool.or_eq_true,decide_eq_true_eq,not_or] at h3
 show t.var.size≤2000000
 omega
theorem qc_sz : ∀(n d m:Nat) (l:List CondT),sizeK 40 n d l≤40→heavyC n l=false→∀c∈l,QC Sz m c
 | 0,d,m,l,h1,_,c,hc=>by rw [sizeK_zero h1] at hc;cases hc
 | n+1,d,0,l,_,_,c,hc=>trivial
 | n+1,d,m+1,l,h1,h2,c,hc=>by
   obtain ⟨g1,g2⟩:=sizeK_go h1
   obtain ⟨k1,k2⟩:=heavy_in h2 hc
   obtain ⟨k0,-,-,-,-,s3,s4⟩:=heavyO_sm k1
   exact ⟨fun _=>by show c.id.size≤2000000;omega,qt_sz s3,qt_sz s4,qc_sz n (d+1) m c.conds (g2 c hc) k2⟩
theorem qa_sz {a:ActT} (h : ∀s:ByteArray,Value.string s∈a.cells→s.size≤2000000):QA Sz a:=
 ⟨fun _=>h _ (by simp [ActT.cells,AtomT.cells,TermT.cells,Sym.cells]),fun _=>h _ (by simp [ActT.cells,AtomT.cells,TermT.cells,Sym.cells]),fun _=>h _ (by simp [ActT.cells,AtomT.cells,TermT.cells,Sym.cells]),fun _=>h _ (by simp [ActT.cells,AtomT.cells,TermT.cells,Sym.cells]),fun _=>h _ (by simp [ActT.cells,AtomT.cells,TermT.cells,Sym.cells])⟩
theorem one_q {Q:ByteArray→Prop} {v x:ByteArray} (h : ¬v.toList = []→Q v) (hx:x∈oneN v):Q x:=by
 by_cases hv:v.toList = []
 · rw [oneN_no hv] at hx;cases hx
 · rw [oneN_yes hv,List.mem_singleton] at hx;subst hx;exact h hv
theorem varsT_q {Q:ByteArray→Prop} {l:List TestT} (h:QT Q l) {x:ByteArray} (hx:x∈varsT l):Q x:=by
 obtain ⟨t,ht,hx⟩:=List.mem_flatMap.1 hx
 exact one_q (h t ht) hx
theorem names_q {Q:ByteArray→Prop} : ∀(n:Nat) (c:CondT),QC Q n c→∀x∈namesN n c,Q x
 | 0,_,_,x,hx=>by cases hx
 | n+1,c,h,x,hx=>by
   obtain ⟨h1,h2,h3,h4⟩:=h
   rw [show namesN (n+1) c=oneN c.id++(varsT c.attr++(varsT c.value++c.conds.flatMap (namesN n))) from rfl] at hx
   simp only [List.mem_append] at hx
   rcases hx with hx | hx | hx | hx
   · exact one_q h1 hx
   · exact varsT_q h2 hx
   · exact varsT_q h3 hx
   · obtain ⟨y,hy,hx⟩:=List.mem_flatMap.1 hx
     exact names_q n y (h4 y hy) x hx
theorem acts_q {Q:ByteArray→Prop} {a:ActT} (h:QA Q a) {x:ByteArray} (hx:x∈varsA a):Q x:=by
 obtain ⟨h1,h2,h3,h4,h5⟩:=h
 rw [vars5] at hx
 simp only [List.mem_append] at hx
 rcases hx with hx | hx | hx | hx | hx
 · exact one_q h1 hx
 · exact one_q h2 hx
 · exact one_q h3 hx
 · exact one_q h4 hx
 · exact one_q h5 hx
theorem vars_q {Q:ByteArray→Prop} {n:Nat} {p:ProdT} (h1 : ∀c∈p.conds,QC Q n c) (h2 : ∀a∈p.acts,QA Q a) {x:ByteArray} (hx:x∈varsP n p):Q x:=by
 rcases List.mem_append.1 hx with hx | hx
 · obtain ⟨c,hc,hx⟩:=List.mem_flatMap.1 hx
   exact names_q n c (h1 c hc) x hx
 · obtain ⟨a,ha,hx⟩:=List.mem_flatMap.1 hx
   exact acts_q (h2 a ha) hx
theorem said_same (t:ByteArray→ByteArray) (n:Nat) (p:ProdT):prodR (otherT (varsP n p) ((varsP n p).map t)) n p=prodR t n p:=
 prod_congr (fun _ hx=>otherT_map t _ hx)
theorem take_map {t:ByteArray→ByteArray} {vs out:List ByteArray} {i:Nat} {x:ByteArray} (h:out=(vs.take i).map t) (hi:i<vs.length) (hx:x=vs[i]):out ++ [t x]=(vs.take (i+1)).map t:=by
 rw [List.take_add_one,List.getElem?_eq_getElem hi,h,hx,List.map_append]
 rfl
set_option maxRecDepth 100000 in
set_option maxHeartbeats 16000000 in
theorem renamesc_walk (n:Nat) (p:ProdT) (A1:Option Addr) (c1:Nat) (A2:Option Addr) (c2:Nat) (a b:ByteArray) (w:World) (h1:RowR (repCondT n) (· < w.heap.size) w A1 c1 p.conds) (h2:RowR repActT (· < w.heap.size) w A2 c2 p.acts) (hbig : ∀x∈p.acts,∀s:ByteArray,Value.string s∈x.cells→s.size≤2000000) :
 Calls Try.prog 4 #[.agg #[.string p.name,.slice A1 p.conds.length c1,.slice A2 p.acts.length c2],.string a,.string b] w fun e w'=>e = .returned (.bool true)∧Below w.heap.size w w':=by
 obtain ⟨i0,hi0,hz0,hz1,hz2⟩:=info_parts info_Str
 have H1:=Lib.hid h1
 have H2:=Lib.hid h2
 have HBIG:=Lib.hid hbig
 clear h1 h2 hbig
 go_enter Try.func4,Try.ntmps4
 go_upto_region 1 with fail
 obtain ⟨w1,hw1⟩ : ∃w1,w1=(((w.alloc (.cells #[.string p.name,.slice A1 p.conds.length c1,.slice A2 p.acts.length c2] 25)).alloc (.cells #[.string a] 9)).alloc (.cells #[.string b] 9)):=⟨_,rfl⟩
 rw [← hw1]
 have HB:=Lib.hid (show Below w.heap.size w w1 by rw [hw1];exact (by repeat (first | exact Below.refl _ _ | refine Below.drew ?_ | refine Below.al ?_ _ | refine Below.sc ?_ _)))
 have Ko:=Lib.hid (show Blk w1 (w.heap.size) 25 #[.string p.name,.slice A1 p.conds.length c1,.slice A2 p.acts.length c2] by rw [hw1];exact (((Blk.new w 25 #[.string p.name,.slice A1 p.conds.length c1,.slice A2 p.acts.length c2]).alloc (.cells #[.string a] 9)).alloc (.cells #[.string b] 9)))
 have Kf:=Lib.hid (show Blk w1 (w.heap.size+1) 9 #[.string a] by rw [hw1];have hh:=((Blk.new (w.alloc (.cells #[.string p.name,.slice A1 p.conds.length c1,.slice A2 p.acts.length c2] 25)) 9 #[.string a]).alloc (.cells #[.string b] 9));simp only [World.size_alloc] at hh;exact hh)
 have Kt:=Lib.hid (show Blk w1 (w.heap.size+2) 9 #[.string b] by rw [hw1];have hh:=(Blk.new ((w.alloc (.cells #[.string p.name,.slice A1 p.conds.length c1,.slice A2 p.acts.length c2] 25)).alloc (.cells #[.string a] 9)) 9 #[.string b]);simp only [World.size_alloc] at hh;exact hh)
 clear hw1
 obtain ⟨o0,o1,o2⟩:=Ko.out.c3
 have oz:=Ko.out.lt
 have f0:=Kf.out.c1
 have fz:=Kf.out.lt
 have t0:=Kt.out.c1
 have tz:=Kt.out.lt
 go_wp2_with fail
 with_reducible refine (heavy_is n p A1 A2 c1 c2 _ (H1.out.new_ (by (repeat (first | exact Below.refl _ _ | exact HB.out | refine Below.drew ?_ | refine Below.al ?_ _ | refine Below.sc ?_ _)))) (H2.out.new_ (by (repeat (first | exact Below.refl _ _ | exact HB.out | refine Below.drew ?_ | refine Below.al ?_ _ | refine Below.sc ?_ _))))).mono ?_
 rintro e w2 ⟨rfl,hb⟩
 have hbs:=Below.trans (show Below w1.heap.size w1 _ from (by (repeat (first | exact Below.refl _ _ | refine Below.drew ?_ | refine Below.al ?_ _ | refine Below.sc ?_ _)))) (hb.mono (by simp<;>omega))
 have Ko:=Lib.hid (Ko.out.new_ hbs)
 have Kf:=Lib.hid (Kf.out.new_ hbs)
 have Kt:=Lib.hid (Kt.out.new_ hbs)
 have HB:=Lib.hid (HB.out.trans (hbs.mono HB.out.size))
 have hsz2:=hbs.size
 clear o0 o1 o2 oz f0 fz t0 tz hb hbs
 obtain ⟨o0,o1,o2⟩:=Ko.out.c3
 have oz:=Ko.out.lt
 have f0:=Kf.out.c1
 have fz:=Kf.out.lt
 have t0:=Kt.out.c1
 have tz:=Kt.out.lt
 obtain ⟨bh,hbh⟩ : ∃b,b=heavyP n p:=⟨_,rfl⟩
 rw [← hbh]
 have HBH:=Lib.hid hbh
 clear hbh
 cases bh
 · skip
   have HNH:=Lib.hid HBH.out.symm
   have HR1:=Lib.hid (fit_of HNH.out H1.out).1
   have HF:=Lib.hid (fit_of HNH.out H1.out).2
   clear HBH
   by_cases hA:100<a.size
   · skip
     have a0_:(100:Int)<(a.size:Int):=by omega
     go_wp2_with fail
     with_reducible refine (wakes23_is _).mono ?_
     rintro e w3 ⟨rfl,hb⟩
     have hbs:=Below.trans (show Below w2.heap.size w2 _ from (by (repeat (first | exact Below.refl _ _ | refine Below.drew ?_ | refine Below.al ?_ _ | refine Below.sc ?_ _)))) (hb.mono (by simp<;>omega))
     have Ko:=Lib.hid (Ko.out.new_ hbs)
     have Kf:=Lib.hid (Kf.out.new_ hbs)
     have Kt:=Lib.hid (Kt.out.new_ hbs)
     have HB:=Lib.hid (HB.out.trans (hbs.mono HB.out.size))
     have hsz3:=hbs.size
     clear o0 o1 o2 oz f0 fz t0 tz hb hbs
     obtain ⟨o0,o1,o2⟩:=Ko.out.c3
     have oz:=Ko.out.lt
     have f0:=Kf.out.c1
     have fz:=Kf.out.lt
     have t0:=Kt.out.c1
     have tz:=Kt.out.lt
     go_wp2_with fail
     go_ret
     exact ⟨rfl,by (repeat (first | exact Below.refl _ _ | exact HB.out | refine Below.drew ?_ | refine Below.al ?_ _ | refine Below.sc ?_ _))⟩
   have a0_ : ¬(100:Int)<(a.size:Int):=by omega
   by_cases hB:100<b.size
   · skip
     have b0_:(100:Int)<(b.size:Int):=by omega
     go_wp2_with fail
     with_reducible refine (wakes23_is _).mono ?_
     rintro e w3 ⟨rfl,hb⟩
     have hbs:=Below.trans (show Below w2.heap.size w2 _ from (by (repeat (first | exact Below.refl _ _ | refine Below.drew ?_ | refine Below.al ?_ _ | refine Below.sc ?_ _)))) (hb.mono (by simp<;>omega))
     have Ko:=Lib.hid (Ko.out.new_ hbs)
     have Kf:=Lib.hid (Kf.out.new_ hbs)
     have Kt:=Lib.hid (Kt.out.new_ hbs)
     have HB:=Lib.hid (HB.out.trans (hbs.mono HB.out.size))
     have hsz3:=hbs.size
     clear o0 o1 o2 oz f0 fz t0 tz hb hbs
     obtain ⟨o0,o1,o2⟩:=Ko.out.c3
     have oz:=Ko.out.lt
     have f0:=Kf.out.c1
     have fz:=Kf.out.lt
     have t0:=Kt.out.c1
     have tz:=Kt.out.lt
     go_wp2_with fail
     go_ret
     exact ⟨rfl,by (repeat (first | exact Below.refl _ _ | exact HB.out | refine Below.drew ?_ | refine Below.al ?_ _ | refine Below.sc ?_ _))⟩
   have b0_ : ¬(100:Int)<(b.size:Int):=by omega
   have HQC:=Lib.hid (show ∀c∈p.conds,QC Sz 20 c by obtain ⟨g1,_,_,g4⟩:=heavyP_no HNH.out;exact qc_sz n 0 20 p.conds g1 g4)
   have HQA:=Lib.hid (show ∀x∈p.acts,QA Sz x from fun x hx=>qa_sz (HBIG.out x hx))
   obtain ⟨r,hr⟩ : ∃r,r=prodR (sayT a b) 20 p:=⟨_,rfl⟩
   obtain ⟨vs,hvs⟩ : ∃vs,vs=varsP 20 p:=⟨_,rfl⟩
   have HRN:=Lib.hid (show r.name=p.name by rw [hr];rfl)
   have HVL:=Lib.hid (show vs.length≤100000 by rw [hvs];exact HF.out.v)
   have HVQ:=Lib.hid (show ∀x∈vs,Sz x from fun x hx=>vars_q HQC.out HQA.out (by rw [← hvs];exact hx))
   have HCP:=Lib.hid (show ∀W,Below w.heap.size w W→Calls Try.prog 16 #[.agg #[.string p.name,.slice A1 p.conds.length c1,.slice A2 p.acts.length c2]] W (FreshP 20 p W) from fun W hW=>copyprod_is 20 p A1 c1 A2 c2 W (HR1.out.new_ hW) (H2.out.new_ hW) HF.out.c HF.out.a HF.out.s)
   have HRV:=Lib.hid (show ∀Y,Below w.heap.size w Y→Calls Try.prog 9 #[.agg #[.string p.name,.slice A1 p.conds.length c1,.slice A2 p.acts.length c2]] Y (StrsTo Y vs) from fun Y hY=>by rw [hvs];exact rvars_is 20 p A1 c1 A2 c2 (· < w.heap.size) Y (HR1.out.new_ hY) (H2.out.new_ hY) HF.out.s HF.out.a HF.out.v)
   have HREN:=Lib.hid (show ∀(Y:World) (D:Nat→Prop) (C1:Option Addr) (d1:Nat) (C2:Option Addr) (d2:Nat),Blk Y (w.heap.size+1) 9 #[.string a]→Blk Y (w.heap.size+2) 9 #[.string b]→RowR (repCondT 20) D Y C1 d1 p.conds→RowR repActT D Y C2 d2 p.acts→Calls Try.prog 17 #[.agg #[.string p.name,.slice C1 p.conds.length d1,.slice C2 p.acts.length d2],.func (.func 15) #[] #[.pointer (some ⟨w.heap.size+1,0,none⟩),.pointer (some ⟨w.heap.size+2,0,none⟩)]] Y (FreshPU 20 r Y) from fun Y D C1 d1 C2 d2 k1 k2 g1 g2=>by
    rw [hr]
    exact crename_isU (say_is a b _ _ Y k1 k2) 20 p C1 d1 C2 d2 Y (Below.refl _ _) g1 g2 HF.out.c HF.out.a HF.out.s HQC.out HQA.out)
   have HRR:=Lib.hid (show ∀(Y:World) (us:List ByteArray) (D D':Nat→Prop) (V1:Option Addr) (v1:Nat) (V2:Option Addr) (v2:Nat),Below w.heap.size w Y→us=vs.map (sayT a b)→RowR repStr D Y V1 v1 vs→RowR repStr D' Y V2 v2 us→Calls Try.prog 19 #[.agg #[.string p.name,.slice A1 p.conds.length c1,.slice A2 p.acts.length c2],.slice V1 vs.length v1,.slice V2 us.length v2] Y (FreshP 20 r Y) from fun Y us D D' V1 v1 V2 v2 hY hus k1 k2=>by
    have e:r=prodR (otherT vs us) 20 p:=by rw [hr,hus,hvs,said_same]
    rw [e]
    exact rrename_is (w0:=Y) (t:=otherT vs us) (fun v W hW=>otherR_is v vs us V1 V2 v1 v2 W (k1.new_ hW) (k2.new_ hW)) 20 p A1 c1 A2 c2 Y (Below.refl _ _) (HR1.out.new_ hY) (H2.out.new_ hY) HF.out.c HF.out.a HF.out.s)
   clear hr hvs
   go_wp2_with fail
   with_reducible refine (HCP.out _ (by (repeat (first | exact Below.refl _ _ | exact HB.out | refine Below.drew ?_ | refine Below.al ?_ _ | refine Below.sc ?_ _)))).mono ?_
   rintro e w3 ⟨C1,d1,C2,d2,rfl,g1,g2,hb⟩
   have hbs:=Below.trans (show Below w2.heap.size w2 _ from (by (repeat (first | exact Below.refl _ _ | refine Below.drew ?_ | refine Below.al ?_ _ | refine Below.sc ?_ _)))) (hb.mono (by simp<;>omega))
   have Ko:=Lib.hid (Ko.out.new_ hbs)
   have Kf:=Lib.hid (Kf.out.new_ hbs)
   have Kt:=Lib.hid (Kt.out.new_ hbs)
   have HB:=Lib.hid (HB.out.trans (hbs.mono HB.out.size))
   have hsz3:=hbs.size
   clear o0 o1 o2 oz f0 fz t0 tz hb hbs
   obtain ⟨o0,o1,o2⟩:=Ko.out.c3
   have oz:=Ko.out.lt
   have f0:=Kf.out.c1
   have fz:=Kf.out.lt
   have t0:=Kt.out.c1
   have tz:=Kt.out.lt
   have HG1:=Lib.hid g1
   have HG2:=Lib.hid g2
   clear g1 g2
   obtain ⟨V,hV⟩ : ∃V,V=w3.alloc (.cells #[.string p.name,.slice C1 p.conds.length d1,.slice C2 p.acts.length d2] 25):=⟨_,rfl⟩
   have hbv:Below w3.heap.size w3 V:=by rw [hV];exact (Below.refl _ _).alloc (Nat.le_refl _) _
   have Kq:=Lib.hid (show Blk V w3.heap.size 25 #[.string p.name,.slice C1 p.conds.length d1,.slice C2 p.acts.length d2] by rw [hV];exact Blk.new _ _ _)
   have HV:=Lib.hid hV
   have Ko:=Lib.hid (Ko.out.new_ hbv)
   have Kf:=Lib.hid (Kf.out.new_ hbv)
   have Kt:=Lib.hid (Kt.out.new_ hbv)
   have HG1:=Lib.hid (HG1.out.new_ hbv)
   have HG2:=Lib.hid (HG2.out.new_ hbv)
   have HB:=Lib.hid (HB.out.trans (hbv.mono HB.out.size))
   have hszV:=hbv.size
   clear o0 o1 o2 oz f0 fz t0 tz hbv hV
   go_upto_region 5 with fail
   rw [← HV.out]
   clear HV
   obtain ⟨o0,o1,o2⟩:=Ko.out.c3
   have oz:=Ko.out.lt
   have f0:=Kf.out.c1
   have fz:=Kf.out.lt
   have t0:=Kt.out.c1
   have tz:=Kt.out.lt
   obtain ⟨q0,q1,q2⟩:=Kq.out.c3
   have qz:=Kq.out.lt
   have KOV:=Lib.hid Ko.out
   have KQV:=Lib.hid Kq.out
   have HBV:=Lib.hid HB.out
   have HSV:=Lib.hid HB.out.size
   have HVN:=Lib.hid (show RQ V [] none 0 V from ⟨owns_nilC _ _ _,AIn.none_ _,Below.refl _ _⟩)
   have HRN2:=Lib.hid (HREN.out V _ C1 d1 C2 d2 Kf.out Kt.out HG1.out HG2.out)
   go_wp2_with fail
   with_reducible refine (HRN2.out).mono ?_
   rintro e w4 ⟨X1,e1,X2,e2,rfl,g1,g2,hb⟩
   have hbs:=Below.trans (show Below V.heap.size V _ from (by (repeat (first | exact Below.refl _ _ | refine Below.drew ?_ | refine Below.al ?_ _ | refine Below.sc ?_ _)))) (hb.mono (by simp<;>omega))
   have Ko:=Lib.hid (Ko.out.new_ hbs)
   have Kf:=Lib.hid (Kf.out.new_ hbs)
   have Kt:=Lib.hid (Kt.out.new_ hbs)
   have Kq:=Lib.hid (Kq.out.new_ hbs)
   have HVN:=Lib.hid (HVN.out.new_ hbs)
   have HB:=Lib.hid (HB.out.trans (hbs.mono HB.out.size))
   have hsz4:=hbs.size
   clear o0 o1 o2 oz f0 fz t0 tz q0 q1 q2 qz hb hbs
   obtain ⟨o0,o1,o2⟩:=Ko.out.c3
   have oz:=Ko.out.lt
   have f0:=Kf.out.c1
   have fz:=Kf.out.lt
   have t0:=Kt.out.c1
   have tz:=Kt.out.lt
   obtain ⟨q0,q1,q2⟩:=Kq.out.c3
   have qz:=Kq.out.lt
   have HX1:=Lib.hid g1
   have HX2:=Lib.hid g2
   clear g1 g2
   rw [HRN.out]
   obtain ⟨U,hU⟩ : ∃V,V=w4.alloc (.cells #[.string p.name,.slice X1 r.conds.length e1,.slice X2 r.acts.length e2] 25):=⟨_,rfl⟩
   have hbv:Below w4.heap.size w4 U:=by rw [hU];exact (Below.refl _ _).alloc (Nat.le_refl _) _
   have Kx:=Lib.hid (show Blk U w4.heap.size 25 #[.string p.name,.slice X1 r.conds.length e1,.slice X2 r.acts.length e2] by rw [hU];exact Blk.new _ _ _)
   have HV:=Lib.hid hU
   have Ko:=Lib.hid (Ko.out.new_ hbv)
   have Kf:=Lib.hid (Kf.out.new_ hbv)
   have Kt:=Lib.hid (Kt.out.new_ hbv)
   have Kq:=Lib.hid (Kq.out.new_ hbv)
   have HVN:=Lib.hid (HVN.out.new_ hbv)
   have HX1:=Lib.hid (HX1.out.new_ hbv)
   have HX2:=Lib.hid (HX2.out.new_ hbv)
   have HB:=Lib.hid (HB.out.trans (hbv.mono HB.out.size))
   have hszU:=hbv.size
   clear o0 o1 o2 oz f0 fz t0 tz q0 q1 q2 qz hbv hU
   go_upto_region 6 with fail
   rw [← HV.out]
   clear HV
   obtain ⟨o0,o1,o2⟩:=Ko.out.c3
   have oz:=Ko.out.lt
   have f0:=Kf.out.c1
   have fz:=Kf.out.lt
   have t0:=Kt.out.c1
   have tz:=Kt.out.lt
   obtain ⟨q0,q1,q2⟩:=Kq.out.c3
   have qz:=Kq.out.lt
   obtain ⟨x0,x1,x2⟩:=Kx.out.c3
   have xz:=Kx.out.lt
   go_wp2_with fail
   with_reducible refine (HRV.out _ (by (repeat (first | exact Below.refl _ _ | exact HB.out | refine Below.drew ?_ | refine Below.al ?_ _ | refine Below.sc ?_ _)))).mono ?_
   rintro e w5 ⟨Ar,cr,rfl,hor,_,hb⟩
   have hbs:=Below.trans (show Below U.heap.size U _ from (by (repeat (first | exact Below.refl _ _ | refine Below.drew ?_ | refine Below.al ?_ _ | refine Below.sc ?_ _)))) (hb.mono (by simp<;>omega))
   have Ko:=Lib.hid (Ko.out.new_ hbs)
   have Kf:=Lib.hid (Kf.out.new_ hbs)
   have Kt:=Lib.hid (Kt.out.new_ hbs)
   have Kq:=Lib.hid (Kq.out.new_ hbs)
   have Kx:=Lib.hid (Kx.out.new_ hbs)
   have HVN:=Lib.hid (HVN.out.new_ hbs)
   have HX1:=Lib.hid (HX1.out.new_ hbs)
   have HX2:=Lib.hid (HX2.out.new_ hbs)
   have HB:=Lib.hid (HB.out.trans (hbs.mono HB.out.size))
   have hsz5:=hbs.size
   clear o0 o1 o2 oz f0 fz t0 tz q0 q1 q2 qz x0 x1 x2 xz hb hbs
   obtain ⟨o0,o1,o2⟩:=Ko.out.c3
   have oz:=Ko.out.lt
   have f0:=Kf.out.c1
   have fz:=Kf.out.lt
   have t0:=Kt.out.c1
   have tz:=Kt.out.lt
   obtain ⟨q0,q1,q2⟩:=Kq.out.c3
   have qz:=Kq.out.lt
   obtain ⟨x0,x1,x2⟩:=Kx.out.c3
   have xz:=Kx.out.lt
   have HVR:=Lib.hid (strs_row rfl hor)
   have hcr:=(strs_row rfl hor).1
   have hcm:=(strs_row rfl hor).2.1
   clear hor
   have HQ0:=Lib.hid (show RQ w5 [] none 0 w5 from ⟨owns_nilC _ _ _,AIn.none_ _,Below.refl _ _⟩)
   clear o0 o1 o2 oz f0 fz t0 tz q0 q1 q2 qz x0 x1 x2 xz 
   go_wp2_with fail
   go_loopw [11,36] (fun v s wr=>∃(i:Nat) (out:List ByteArray) (A:Option Addr) (cp:Nat),s = .int .i64 i∧v = .slice A out.length cp∧i≤vs.length∧out=(vs.take i).map (sayT a b)∧RQ w5 out A cp wr) (fun v s wr=>vs.length - (intOf s).toNat)
   case atStart=>exact ⟨0,[],none,0,rfl,rfl,Nat.zero_le _,rfl,HQ0.out⟩
   case round=>
    clear HQ0
    obtain ⟨i,out,A,cp,rfl,rfl,hi,hout,hn⟩:=hrel
    have HNR:=Lib.hid hn
    have HOUT:=Lib.hid hout
    have hol:out.length≤i:=by rw [hout,List.length_map,List.length_take];omega
    clear hn hout
    have hvl:=HVL.out
    by_cases hlt:i<vs.length
    · obtain ⟨x,hx⟩ : ∃x,x=vs[i]:=⟨_,rfl⟩
      obtain ⟨g,off,rfl,hg,q0⟩:=str_at (HVR.out.new_ HNR.out.bel) hlt
      rw [← hx] at q0
      have HON:=Lib.hid (take_map HOUT.out hlt hx)
      obtain ⟨y,hy⟩ : ∃y,y=sayT a b x:=⟨_,rfl⟩
      have HSAY:=Lib.hid (show Calls Try.prog 15 #[.string x,.pointer (some ⟨w.heap.size+1,0,none⟩),.pointer (some ⟨w.heap.size+2,0,none⟩)] wr fun e W'=>e = .returned (.string y)∧Below wr.heap.size wr W' by
       rw [hy]
       exact (say_is a b _ _ wr (Kf.out.new_ HNR.out.bel) (Kt.out.new_ HNR.out.bel)).call x wr (Below.refl _ _) (HVQ.out x (by rw [hx];exact List.getElem_mem hlt)))
      rw [← hy] at HON
      have j1:(0:Int)≤(i:Int):=by omega
      have j2:(i:Int)<(vs.length:Int):=by omega
      clear hx hy
      go_wp2_with fail
      refine HSAY.out.mono ?_
      rintro e wy ⟨rfl,hby⟩
      obtain ⟨Y9,hY9⟩ : ∃Y9,Y9=wy.alloc (.cells #[.string y] 9):=⟨_,rfl⟩
      have hb9:Below wy.heap.size wy Y9:=by rw [hY9];exact (Below.refl _ _).alloc (Nat.le_refl _) _
      have HY9:=Lib.hid hY9
      have HN9:=Lib.hid ((HNR.out.new_ hby).new_ hb9)
      have HW9:=Lib.hid (show 0<1→∃ad,(some (⟨wy.heap.size,0,none⟩:Addr))=some ad∧∀j u,([y].flatMap strC)[j]? = some u→Y9.cell? (ad.add j)=some u from fun _=>⟨_,rfl,by rw [hY9];exact World.news_of_block (heap_alloc_new _ _)⟩)
      clear hY9 hb9 q0 hby
      go_wp2_with (at_builtin;rw [← HY9.out];refine wpList_append_src Y9 rfl (.tmp 39) (.tmp 46) 28 rfl 9 i0 _ 1 16 Try.underlying28 hi0 hz0 hz1 hz2 rfl (by decide) (.slice A out.length cp) out.length (out.flatMap strC) rfl HN9.out.own (some ⟨wy.heap.size,0,none⟩) 1 1 ([y].flatMap strC) rfl rfl HW9.out (str_one _) (by unfold maxLen;omega) (by omega) ?_;intro v1 w9 hown1 hg1 hnil1 hat1;obtain ⟨A9,c9,rfl,hn9⟩:=HN9.out.app (ys:=[y]) hown1 hg1 hat1;have HN10:=Lib.hid hn9;clear hown1 hg1 hnil1 hat1 hn9)
      go_roundw
      case rel=>exact ⟨i+1,out ++ [y],A9,c9,by go_num,by simp,by omega,HON.out,HN10.out⟩
      case measure=>simp [intOf]<;>omega
    · obtain rfl:i=vs.length:=by omega
      obtain ⟨wm,hwm⟩ : ∃wm,wm=wr:=⟨_,rfl⟩
      rw [← hwm] at HNR ⊢
      have HBM:=Lib.hid HNR.out.bel
      have HB:=Lib.hid (HB.out.trans (HBM.out.mono HB.out.size))
      have Ko:=Lib.hid (Ko.out.new_ HBM.out)
      have Kf:=Lib.hid (Kf.out.new_ HBM.out)
      have Kt:=Lib.hid (Kt.out.new_ HBM.out)
      have Kq:=Lib.hid (Kq.out.new_ HBM.out)
      have Kx:=Lib.hid (Kx.out.new_ HBM.out)
      have HVN:=Lib.hid (HVN.out.new_ HBM.out)
      have HX1:=Lib.hid (HX1.out.new_ HBM.out)
      have HX2:=Lib.hid (HX2.out.new_ HBM.out)
      have HVR:=Lib.hid (HVR.out.new_ HBM.out)
      have HUR:=Lib.hid (strs_row rfl HNR.out.own)
      have hcu:=(strs_row rfl HNR.out.own).1
      have hcv:=(strs_row rfl HNR.out.own).2.1
      obtain ⟨us,hus⟩ : ∃us,us=out:=⟨_,rfl⟩
      rw [← hus] at HUR HOUT hol hcu ⊢
      have HUS:=Lib.hid (show us=vs.map (sayT a b) by have:=HOUT.out;rwa [List.take_length] at this)
      have HBL:=Lib.hid HB.out.size
      clear hus hwm HOUT HNR
      obtain ⟨o0,o1,o2⟩:=Ko.out.c3
      have oz:=Ko.out.lt
      have f0:=Kf.out.c1
      have fz:=Kf.out.lt
      have t0:=Kt.out.c1
      have tz:=Kt.out.lt
      obtain ⟨q0,q1,q2⟩:=Kq.out.c3
      have qz:=Kq.out.lt
      obtain ⟨x0,x1,x2⟩:=Kx.out.c3
      have xz:=Kx.out.lt
      go_upto_region 13 with fail
      refine wp_region_E (fun w9=>Below wm.heap.size wm w9) [(0,1),(1,1),(2,0),(3,0),(4,2),(5,2),(6,0)] (by kernel_rfl) (by kernel_rfl) (fun KK hKK=>?_)
      simp only [beside,List.filterMap_cons,List.filterMap_nil,List.getElem?_toArray,List.getElem?_cons_zero,List.getElem?_cons_succ,Option.map_some]
      repeat ((first | (refine wpX_w ?_ (Or.inl ⟨by rfl,fun w9=>?_⟩) ?_;rotate_left 1;go_simp;with_reducible rfl) | (refine wpX_l ?_ (((Below.refl _ _).drew)) (Or.inl ⟨by rfl,fun w9 hw9=>?_⟩) ?_;rotate_left 1;have x0:=(hw9.cell (p:=⟨w4.heap.size,0,none⟩) xz).trans x0;have x1:=(hw9.cell (p:=⟨w4.heap.size,1,none⟩) xz).trans x1;have x2:=(hw9.cell (p:=⟨w4.heap.size,2,none⟩) xz).trans x2;have o0:=(hw9.cell (p:=⟨w.heap.size,0,none⟩) oz).trans o0;have o1:=(hw9.cell (p:=⟨w.heap.size,1,none⟩) oz).trans o1;have o2:=(hw9.cell (p:=⟨w.heap.size,2,none⟩) oz).trans o2;go_simp;with_reducible rfl) | refine wpX_w undef (Or.inr ⟨by rfl,rfl⟩) ?_ | refine wpX_l undef (((Below.refl _ _).drew)) (Or.inr ⟨by rfl,rfl⟩) ?_);go_frame)
      refine wpX_es (fun K9 hK9=>?_)
      go_simp
      refine (HRR.out _ us _ _ _ _ _ _ (HB.out.trans ((Below.refl wm.heap.size wm).drew.mono HBL.out)) HUS.out (HVR.out.new_ (Below.refl wm.heap.size wm).drew) (HUR.out.new_ (Below.refl wm.heap.size wm).drew)).mono ?_
      rintro e w31 ⟨L1,m1,L2,m2,rfl,k1,k2,hb31⟩
      have HB31:=Lib.hid ((Below.refl wm.heap.size wm).drew.trans (hb31.mono (by simp)))
      have HL1:=Lib.hid k1
      have HL2:=Lib.hid k2
      clear k1 k2
      rw [HRN.out]
      clear hb31
      refine hK9 _ _ HB31.out ?_
      clear hK9 K9
      refine wpX_es (fun K9 hK9=>?_)
      go_simp
      refine (show Calls Try.prog 18 #[.agg #[.string p.name,.slice X1 r.conds.length e1,.slice X2 r.acts.length e2],.agg #[.string p.name,.slice L1 r.conds.length m1,.slice L2 r.acts.length m2]] _ _ from by have:=prod_same 20 r X1 e1 X2 e2 L1 m1 L2 m2 _ ((RowU.cond 20 HX1.out).new_ HB31.out) (HX2.out.1.new_ HB31.out) HL1.out HL2.out;rw [HRN.out] at this;exact this).mono ?_
      rintro e w32 ⟨rfl,hb32⟩
      have HB32:=Lib.hid (HB31.out.trans (hb32.mono HB31.out.size))
      clear hb32
      refine hK9 _ _ HB32.out ?_
      clear hK9 K9
      repeat ((first | (refine wpX_w ?_ (Or.inl ⟨by rfl,fun w9=>?_⟩) ?_;rotate_left 1;go_simp;with_reducible rfl) | (refine wpX_l ?_ (HB32.out) (Or.inl ⟨by rfl,fun w9 hw9=>?_⟩) ?_;rotate_left 1;have x0:=(hw9.cell (p:=⟨w4.heap.size,0,none⟩) xz).trans x0;have x1:=(hw9.cell (p:=⟨w4.heap.size,1,none⟩) xz).trans x1;have x2:=(hw9.cell (p:=⟨w4.heap.size,2,none⟩) xz).trans x2;have o0:=(hw9.cell (p:=⟨w.heap.size,0,none⟩) oz).trans o0;have o1:=(hw9.cell (p:=⟨w.heap.size,1,none⟩) oz).trans o1;have o2:=(hw9.cell (p:=⟨w.heap.size,2,none⟩) oz).trans o2;go_simp;with_reducible rfl) | refine wpX_w undef (Or.inr ⟨by rfl,rfl⟩) ?_ | refine wpX_l undef (HB32.out) (Or.inr ⟨by rfl,rfl⟩) ?_);go_frame)
      refine wpX_nil ?_
      simp only [OnlyN_normal]
      refine hKK _ _ ?_
      clear hKK KK
      have Ko:=Lib.hid (Ko.out.new_ HB32.out)
      have Kf:=Lib.hid (Kf.out.new_ HB32.out)
      have Kt:=Lib.hid (Kt.out.new_ HB32.out)
      have Kq:=Lib.hid (Kq.out.new_ HB32.out)
      have Kx:=Lib.hid (Kx.out.new_ HB32.out)
      have HVN:=Lib.hid (HVN.out.new_ HB32.out)
      have HX1:=Lib.hid (HX1.out.new_ HB32.out)
      have HX2:=Lib.hid (HX2.out.new_ HB32.out)
      have HB:=Lib.hid (HB.out.trans (HB32.out.mono HB.out.size))
      clear o0 o1 o2 oz f0 fz t0 tz q0 q1 q2 qz x0 x1 x2 xz 
      obtain ⟨wn,hwn⟩ : ∃W,W=w32:=⟨_,rfl⟩
      rw [← hwn] at HX1 HX2 HVN HB Ko Kf Kt Kq Kx HB32 ⊢
      clear hwn
      obtain ⟨o0,o1,o2⟩:=Ko.out.c3
      have oz:=Ko.out.lt
      have f0:=Kf.out.c1
      have fz:=Kf.out.lt
      have t0:=Kt.out.c1
      have tz:=Kt.out.lt
      obtain ⟨q0,q1,q2⟩:=Kq.out.c3
      have qz:=Kq.out.lt
      obtain ⟨x0,x1,x2⟩:=Kx.out.c3
      have xz:=Kx.out.lt
      have HVN:=Lib.hid HVN.out.bel
      have HSP:=Lib.hid (show Calls Try.prog 20 #[.agg #[.string p.name,.slice X1 r.conds.length e1,.slice X2 r.acts.length e2]] wn fun e w'=>e = .returned (.tuple #[])∧Below V.heap.size wn w' by
       have:=spoil_is 20 r X1 e1 X2 e2 V.heap.size _ wn HVN.out.size (fun j hj=>hj.1) HX1.out HX2.out
       rw [HRN.out] at this
       exact this)
      go_wp2_with fail
      refine HSP.out.mono ?_
      rintro e ws ⟨rfl,hbs⟩
      have HVS:=Lib.hid (HVN.out.trans hbs)
      have Ko:=Lib.hid (KOV.out.new_ HVS.out)
      have Kq:=Lib.hid (KQV.out.new_ HVS.out)
      have HB:=Lib.hid (HBV.out.trans (HVS.out.mono HSV.out))
      have HG1:=Lib.hid (HG1.out.new_ HVS.out)
      have HG2:=Lib.hid (HG2.out.new_ HVS.out)
      clear o0 o1 o2 oz f0 fz t0 tz q0 q1 q2 qz x0 x1 x2 xz hbs
      obtain ⟨o0,o1,o2⟩:=Ko.out.c3
      have oz:=Ko.out.lt
      obtain ⟨q0,q1,q2⟩:=Kq.out.c3
      have qz:=Kq.out.lt
      have HPS:=Lib.hid (prod_same 20 p A1 c1 A2 c2 C1 d1 C2 d2 ws (HR1.out.new_ HB.out) (H2.out.new_ HB.out) HG1.out HG2.out)
      go_wp2_with fail
      with_reducible refine (HPS.out).mono ?_
      rintro e w6 ⟨rfl,hb⟩
      have hbs:=Below.trans (show Below ws.heap.size ws _ from (by (repeat (first | exact Below.refl _ _ | refine Below.drew ?_ | refine Below.al ?_ _ | refine Below.sc ?_ _)))) (hb.mono (by simp<;>omega))
      have Ko:=Lib.hid (Ko.out.new_ hbs)
      have Kq:=Lib.hid (Kq.out.new_ hbs)
      have HG1:=Lib.hid (HG1.out.new_ hbs)
      have HG2:=Lib.hid (HG2.out.new_ hbs)
      have HB:=Lib.hid (HB.out.trans (hbs.mono HB.out.size))
      have hsz6:=hbs.size
      clear o0 o1 o2 oz q0 q1 q2 qz hb hbs
      obtain ⟨o0,o1,o2⟩:=Ko.out.c3
      have oz:=Ko.out.lt
      obtain ⟨q0,q1,q2⟩:=Kq.out.c3
      have qz:=Kq.out.lt
      go_wp2_with fail
      with_reducible refine (wakes23_is _).mono ?_
      rintro e w7 ⟨rfl,hb⟩
      have hbs:=Below.trans (show Below w6.heap.size w6 _ from (by (repeat (first | exact Below.refl _ _ | refine Below.drew ?_ | refine Below.al ?_ _ | refine Below.sc ?_ _)))) (hb.mono (by simp<;>omega))
      have Ko:=Lib.hid (Ko.out.new_ hbs)
      have Kq:=Lib.hid (Kq.out.new_ hbs)
      have HG1:=Lib.hid (HG1.out.new_ hbs)
      have HG2:=Lib.hid (HG2.out.new_ hbs)
      have HB:=Lib.hid (HB.out.trans (hbs.mono HB.out.size))
      have hsz7:=hbs.size
      clear o0 o1 o2 oz q0 q1 q2 qz hb hbs
      obtain ⟨o0,o1,o2⟩:=Ko.out.c3
      have oz:=Ko.out.lt
      obtain ⟨q0,q1,q2⟩:=Kq.out.c3
      have qz:=Kq.out.lt
      go_wp2_with fail
      go_ret
      exact ⟨rfl,by (repeat (first | exact Below.refl _ _ | exact HB.out | refine Below.drew ?_ | refine Below.al ?_ _ | refine Below.sc ?_ _))⟩
 · skip
   go_wp2_with fail
   with_reducible refine (wakes23_is _).mono ?_
   rintro e w3 ⟨rfl,hb⟩
   have hbs:=Below.trans (show Below w2.heap.size w2 _ from (by (repeat (first | exact Below.refl _ _ | refine Below.drew ?_ | refine Below.al ?_ _ | refine Below.sc ?_ _)))) (hb.mono (by simp<;>omega))
   have Ko:=Lib.hid (Ko.out.new_ hbs)
   have Kf:=Lib.hid (Kf.out.new_ hbs)
   have Kt:=Lib.hid (Kt.out.new_ hbs)
   have HB:=Lib.hid (HB.out.trans (hbs.mono HB.out.size))
   have hsz3:=hbs.size
   clear o0 o1 o2 oz f0 fz t0 tz hb hbs
   obtain ⟨o0,o1,o2⟩:=Ko.out.c3
   have oz:=Ko.out.lt
   have f0:=Kf.out.c1
   have fz:=Kf.out.lt
   have t0:=Kt.out.c1
   have tz:=Kt.out.lt
   go_wp2_with fail
   go_ret
   exact ⟨rfl,by (repeat (first | exact Below.refl _ _ | exact HB.out | refine Below.drew ?_ | refine Below.al ?_ _ | refine Below.sc ?_ _))⟩
end Go.Proofs.Ytffemfglngikbaa
namespace Go.Proofs.Ytffemfglngikbaa
open Go.RowKit Go.ChangeShapes Go.WideShapes Go.Deep
theorem bul_part {H:Type} {d:DataW H} {l:List (DataW H)} (h:d∈l):Rows.uptoBulk d≤Rows.uptoBulkAll l:=by
 induction l with
 | nil=>cases h
 | cons x r ih=>
   simp only [Rows.uptoBulkAll]
   rcases List.mem_cons.1 h with e | e
   · subst e;omega
   · have:=ih e;omega
def BulP (t:TypeId):Prop:=∀(H:Type) (enc:TypeId×Value→H) (w:World) (base:Nat) (spare:Nat→Bool) (held:Bool) (n:Nat) (cs:List Value) (x:DataW H×List MemPlace),
 DataW.trod enc Try.prog w base spare held n t cs=some x→∀s:ByteArray,Value.string s∈cs→s.size≤Rows.uptoBulk x.1
theorem bul_string:BulP 9:=fun H enc w base spare held n cs x h s hs=>by
 obtain ⟨s',rfl,rfl,_⟩:=DataW.trod_string Try.underlying9 h
 rw [List.mem_singleton] at hs
 injection hs with hs
 subst hs
 have e:s.data.toList.length=s.size:=Array.length_toList
 simp only [Rows.uptoBulk]
 omega
theorem bul_int:BulP 3:=fun H enc w base spare held n cs x h s hs=>by
 obtain ⟨a,rfl,_⟩:=DataW.trod_int Try.underlying3 h
 rw [List.mem_singleton] at hs
 cases hs
theorem bul_struct {t:TypeId} {fs:Array Field} (ht:Try.prog.underlying t=some (.struct fs)) (hcov:((List.range (Try.prog.cellsOf t)).all fun i=>(List.range fs.size).any fun k=>match fs[k]? with | some f=>decide (f.offset≤i) && decide (i<f.offset+Try.prog.cellsOf f.type) | none=>false)=true)
 (hf : ∀f∈fs.toList,BulP f.type):BulP t:=fun H enc w base spare held n cs x h s hs=>by
 obtain ⟨xs,m,_,rfl,hl,hlen,hx⟩:=DataW.trod_struct ht h
 obtain ⟨i,hi,e⟩:=List.getElem_of_mem hs
 have h1:=List.all_eq_true.1 hcov i (List.mem_range.2 (by omega))
 obtain ⟨k,hk,h2⟩:=List.any_eq_true.1 h1
 cases hfk:fs[k]? with
 | none=>rw [hfk] at h2;cases h2
 | some f=>
   rw [hfk] at h2
   simp only [Bool.and_eq_true,decide_eq_true_eq] at h2
   have h3:=hx k f hfk
   have hkl:k<xs.length:=by
    have:=(Array.getElem?_eq_some_iff.1 hfk).1
    omega
   rw [List.getElem?_eq_getElem hkl] at h3
   have h4:Value.string s∈(cs.drop f.offset).take (Try.prog.cellsOf f.type):=by
    refine List.mem_of_getElem? (i:=i - f.offset) ?_
    rw [List.getElem?_take,if_pos (by omega),List.getElem?_drop,show f.offset+(i - f.offset)=i by omega,List.getElem?_eq_getElem hi,e]
   have h5:=hf f (by rw [← Array.getElem?_toList] at hfk;exact List.mem_of_getElem? hfk) H enc w base spare held m _ _ h3 s h4
   have h6:=bul_part (List.mem_map_of_mem (f:=fun y:DataW H×List MemPlace=>y.1) (List.getElem_mem hkl))
   simp only [Rows.uptoBulk]
   omega
theorem bul_Sym:BulP 52:=bul_struct Try.underlying52 (by kernel_rfl) (by intro f hf;simp only [List.mem_cons,List.not_mem_nil,or_false] at hf;rcases hf with rfl | rfl | rfl<;>first | exact bul_int | exact bul_string)
theorem bul_Atom:BulP 54:=bul_struct Try.underlying54 (by kernel_rfl) (by intro f hf;simp only [List.mem_cons,List.not_mem_nil,or_false] at hf;rcases hf with rfl | rfl<;>first | exact bul_string | exact bul_Sym)
theorem bul_Term:BulP 56:=bul_struct Try.underlying56 (by kernel_rfl) (by intro f hf;simp only [List.mem_cons,List.not_mem_nil,or_false] at hf;rcases hf with rfl | rfl | rfl<;>first | exact bul_int | exact bul_Atom)
theorem bul_Act:BulP 58:=bul_struct Try.underlying58 (by kernel_rfl) (by intro f hf;simp only [List.mem_cons,List.not_mem_nil,or_false] at hf;rcases hf with rfl | rfl | rfl | rfl | rfl<;>first | exact bul_int | exact bul_string | exact bul_Sym | exact bul_Atom | exact bul_Term)
theorem acts_bulk {H:Type} {enc:TypeId×Value→H} {w:World} {base:Nat} {spare:Nat→Bool} {held:Bool} {fuel:Nat} {A:Option Addr} {c:Nat} {l:List ActT} {D:Nat→Prop} {x:DataW H×List MemPlace}
 (h:DataW.trod enc Try.prog w base spare held fuel 23 [.slice A l.length c]=some x) (hr:RowR repActT D w A c l) : ∀a∈l,∀s:ByteArray,Value.string s∈a.cells→s.size≤Rows.uptoBulk x.1:=by
 intro a ha s hs
 obtain ⟨k,hk,rfl⟩:=List.getElem_of_mem ha
 rcases open_slice Try.underlying23 h with ⟨h1,_⟩ | ⟨ad,len,cap,m,n,Dd,Pl,h1,_,hl,hm,hmm,hx0,hx⟩
 · simp only [List.cons.injEq,Value.slice.injEq,and_true] at h1
   have:=h1.2.1
   omega
 · simp only [List.cons.injEq,Value.slice.injEq,and_true] at h1
   obtain ⟨hA,hlen,hc⟩:=h1
   have hlm:len≤m:=by rw [hmm];split<;>omega
   obtain ⟨cs',c1,c2⟩:=hx k (by omega)
   obtain ⟨_,hl2,hcell⟩:=World.cells?_some c1
   have hsz:Try.prog.cellsOf 58=19:=by kernel_rfl
   rw [hsz] at hl2 hcell
   obtain ⟨g,off,cs2,e1,_,_,hrep,hcc⟩:=hr.at_ hk
   have hr2:cs2=ActT.cells l[k]:=hrep
   subst hr2
   have hce:cs'=ActT.cells l[k]:=by
    apply List.ext_getElem
    · exact hl2.trans (ActT.cells_length _).symm
    · intro j hj1 hj2
      have g1:=hcell j (by omega)
      have g2:=hcc j _ (List.getElem?_eq_getElem hj2)
      have e2:ad=⟨g,off,none⟩:=Option.some.inj (hA.symm.trans e1)
      subst e2
      rw [add_plain,add_plain] at g1
      have g3:repActT.size=19:=rfl
      rw [g3] at g2
      rw [g2] at g1
      rw [List.getElem?_eq_getElem hj1] at g1
      exact (Option.some.inj g1).symm
   have h5:s.size≤Rows.uptoBulk (Dd k):=bul_Act H enc w base spare held n cs' _ c2 s (by rw [hce];exact hs)
   have h6:Dd k∈(List.range len).map Dd:=List.mem_map_of_mem (List.mem_range.2 (by omega))
   have h7:=bul_part h6
   rw [hx0]
   simp only [Rows.uptoBulk]
   omega
theorem prod_bulk {H:Type} {enc:TypeId×Value→H} {w:World} {base:Nat} {spare:Nat→Bool} {held:Bool} {fuel:Nat} {nm:ByteArray} {v1:Value} {A:Option Addr} {c:Nat} {l:List ActT} {D:Nat→Prop} {x:DataW H×List MemPlace}
 (h:DataW.trod enc Try.prog w base spare held fuel 25 [.string nm,v1,.slice A l.length c]=some x) (hr:RowR repActT D w A c l) : ∀a∈l,∀s:ByteArray,Value.string s∈a.cells→s.size≤Rows.uptoBulk x.1:=by
 intro a ha s hs
 obtain ⟨xs,m,_,rfl,hl,hlen,hx⟩:=DataW.trod_struct Try.underlying25 h
 have h3:=hx 2 _ rfl
 have hkl:2<xs.length:=by rw [hlen];decide
 rw [List.getElem?_eq_getElem hkl] at h3
 have hsz:Try.prog.cellsOf 23=1:=by kernel_rfl
 have h4:DataW.trod enc Try.prog w base spare held m 23 ((List.drop 2 [.string nm,v1,.slice A l.length c]).take (Try.prog.cellsOf 23))=some xs[2]:=h3
 rw [hsz] at h4
 have h5:=acts_bulk (x:=xs[2]) h4 hr a ha s hs
 have h6:=bul_part (List.mem_map_of_mem (f:=fun y:DataW H×List MemPlace=>y.1) (List.getElem_mem hkl))
 simp only [Rows.uptoBulk]
 omega
end Go.Proofs.Ytffemfglngikbaa
namespace Go.Proofs.Ytffemfglngikbaa
open Go.RowKit Go.ChangeShapes Go.WideShapes Go.Deep
set_option maxRecDepth 100000 in
theorem open_ProdT {H:Type} {enc:TypeId×Value→H} {w:World} {r:Reach} {b0 base:Nat} {spare:Nat→Bool} {held:Bool} {v:Value} {d:DataW H} {ps:List MemPlace}
 (hval:Value.okWide Try.prog w r b0 25 v) (h:DataW.Trod enc Try.prog w base spare held 25 v d ps) : ∃(n:Nat) (x:ProdT) (A1:Option Addr) (c1:Nat) (A2:Option Addr) (c2:Nat),v = .agg #[.string x.name,.slice A1 x.conds.length c1,.slice A2 x.acts.length c2]∧
   RowR (repCondT n) (· < w.heap.size) w A1 c1 x.conds∧RowR repActT (· < w.heap.size) w A2 c2 x.acts:=by
 obtain ⟨cs,rfl,_⟩:=okWide_struct Try.underlying25 hval
 obtain ⟨fuel,hf⟩:=h
 obtain ⟨x,A1,c1,A2,c2,hx,h1,h2⟩:=openN_ProdT enc w base spare held fuel _ _ hf
 refine ⟨fuel,x,A1,c1,A2,c2,?_,h1,h2⟩
 simp only [Value.cells] at hx
 have:cs = #[.string x.name,.slice A1 x.conds.length c1,.slice A2 x.acts.length c2]:=by rw [← Array.toList_inj];simpa using hx
 rw [this]
end Go.Proofs.Ytffemfglngikbaa
namespace Go.Proofs.Ytffemfglngikbaa
open Go.ChangeShapes Go.WideShapes Go.ChangeAt Go.RowKit Go.Deep
theorem own_renamesc:ownKnob Try.prog.godebug=none:=by kernel_rfl
theorem laid_renamesc:laidOutB Try.prog=true:=by kernel_rfl
set_option maxRecDepth 100000 in
theorem renamesc_contract (H:Type) (enc:TypeId×Value→H) (W:World) (base:Nat) (args:Array Value) (ds gs:List (DataW H)) (before:List MemPlace)
 (hval0 : ∀(j:Nat) t v,Try.f4.params[j]? = some t→args[j]? = some v→Value.okWide Try.prog W .any base t v)
 (hW:DataW.Whole enc Try.prog Try.f4.params.toList Rows.canonRenamesSpec.vars false W args.toList ds gs before) (hk:Rows.uptoSmall H (ds++gs)=true) :
 Calls Try.prog 4 args W fun e W'=>∃v,e = .returned v∧Rows.canonRenamesSpec.post enc Try.prog Try.f4 false true false false W args v W':=by
 have hval : ∀(j:Nat) t v,Try.f4.params[j]? = some t→args[j]? = some v→Value.okWide Try.prog W .any base t v:=hval0
 have hW':=hW
 obtain ⟨p,q,hA0,hV,rfl,hfz,hnd⟩:=hW
 have hA:DataW.TrodAll enc Try.prog W 0 (fun _=>true) true Try.f4.params.toList args.toList ds p:=hA0
 rw [Try.params4] at hA hval
 obtain ⟨v0,v1,v2,d0,d1,d2,p0,p1,p2,rfl,rfl,rfl,h0,h1,h2⟩:=trodAll_three hA
 obtain ⟨rfl,rfl⟩:=trodVars_none hV
 obtain ⟨m0,x0,B0,b0,C0,e0,rfl,rc0,ra0⟩:=open_ProdT (hval 0 25 v0 rfl rfl) h0
 obtain ⟨t1,rfl,_,_,_⟩:=Go.ChangeMaps.open_string Try.underlying9 (hval 1 9 v1 rfl rfl) h1
 obtain ⟨t2,rfl,_,_,_⟩:=Go.ChangeMaps.open_string Try.underlying9 (hval 2 9 v2 rfl rfl) h2
 have hbig : ∀x∈x0.acts,∀s:ByteArray,Value.string s∈x.cells→s.size≤2000000:=fun x hx s hs=>by
  obtain ⟨fu,hf0⟩:=h0
  have g1:=prod_bulk (x:=(d0,p0)) hf0 ra0 x hx s hs
  have g2:Rows.uptoBulkAll ([d0,d1,d2]++([]:List (DataW H)))≤1048576:=of_decide_eq_true hk
  have g3:Rows.uptoBulk d0≤Rows.uptoBulkAll ([d0,d1,d2]++([]:List (DataW H))):=bul_part (by simp)
  have g4:s.size≤Rows.uptoBulk d0:=g1
  omega
 clear hA0 hval0 hk
 refine (renamesc_walk m0 x0 B0 b0 C0 e0 t1 t2 W rc0 ra0 hbig).mono fun e W' ⟨he,hb⟩=>?_
 subst he
 exact ⟨_,rfl,post_true (tb:=4) laid_renamesc rfl hW' (by kernel_rfl) Try.underlying4 (fun t ht=>by
  have ht':t∈[25,9,9]:=by
   have e:Try.f4.params.toList = [25,9,9]:=by rw [Try.params4]
   rwa [e] at ht
  simp only [List.mem_cons,List.not_mem_nil,or_false] at ht'
  rcases ht' with rfl | rfl | rfl<;>exact ⟨by kernel_rfl,of_decide_eq_true (by kernel_rfl)⟩) rfl rfl rfl hb⟩
set_option maxRecDepth 100000 in
theorem renamesc_lifted (os:Os) (started:os.Started) (H:Type) (enc:TypeId×Value→H) (F:Stop.Interp) :
 ReturnsInHanded {} Try.checked os 4 .any ((Rows.OpenSpec.upto Rows.canonRenamesSpec).pre6 enc Try.prog Try.f4 Rows.canonRenamesUptoRow.domain false) (((Rows.OpenSpec.upto Rows.canonRenamesSpec).at F).post enc Try.prog Try.f4 false true false false):=by
 refine returnsInHanded_of_cond (C:=Try.checked) (s:=Rows.OpenSpec.upto Rows.canonRenamesSpec) (k:=Rows.uptoSmall) rfl own_renamesc started (by kernel_rfl) Try.func4
  (OpenSpec.witness (enc:=enc) (C:=Try.checked) (s:=Rows.OpenSpec.upto Rows.canonRenamesSpec) (k:=Rows.uptoSmall) rfl false ⟨#[],#[.agg #[.string ⟨#[]⟩,.slice none 0 0,.slice none 0 0],.string ⟨#[]⟩,.string ⟨#[]⟩],[]⟩ 8 (by kernel_rfl) (by kernel_rfl) (by kernel_rfl)
    (x:=([.agg [.lit (.string []),.nil,.nil],.lit (.string []),.lit (.string [])],[],[])) (by kernel_rfl) rfl (by kernel_rfl)) ?_
 intro W base args ds gs before hval hW _ hk _
 exact renamesc_contract H enc W base args ds gs before hval hW hk
theorem renamesc_holds:Rows.CanonRenamesUptoSaid:=
 OpenClaim.holds_of_cond 4 Try.f4 rfl rfl rfl rfl rfl rfl rfl ⟨rfl,rfl,rfl,rfl,rfl⟩ rfl rfl rfl rfl rfl (by kernel_rfl) Try.func4 (by kernel_rfl)
  (of_decide_eq_true (by kernel_rfl)) (by unfold Func.isWrapper;first | (rw [if_pos (by decide +kernel)];kernel_rfl) | (rw [if_neg (by decide +kernel)];exact ⟨rfl,rfl⟩))
  (fun os started H enc _ F=>renamesc_lifted os started H enc F)
end Go.Proofs.Ytffemfglngikbaa
