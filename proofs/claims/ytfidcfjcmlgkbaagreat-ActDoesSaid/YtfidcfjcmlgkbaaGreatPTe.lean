/-
  Texts put together: Act2, Act4P, RangeP, RangeO, Store, RangeO2, Shape1.
-/
import Derived.Test.YtfidcfjcmlgkbaaGreatPTd
namespace Go.Proofs.YtfidcfjcmlgkbaaGreat
open Lib (hid)
set_option maxRecDepth 100000
set_option maxHeartbeats 32000000
section
open Go.RowKit Go.Shelf
def Z4p (s:Sym):Bool:=decide (s.kind=2) && Z07 s
def numR (n:Int):Sym×Bool:=if n < -2147483647∨2147483647<n then (zS,false) else (⟨2,⟨#[]⟩,n⟩,true)
theorem Zcj {n:Int} (h:n < -2147483647∨2147483647<n):numR n=(zS,false):=if_pos h
theorem Za6 {n:Int} (h : ¬(n < -2147483647∨2147483647<n)):numR n=(⟨2,⟨#[]⟩,n⟩,true):=if_neg h
def Z29 (t:Z5m) (l:List Z05):Sym×Bool:=
 if (Z14 t.a l).2=false then (zS,false)
 else if t.op=0 then ((Z14 t.a l).1,true)
 else if (Z14 t.b l).2=false∨Z4p (Z14 t.a l).1=false∨Z4p (Z14 t.b l).1=false then (zS,false)
 else if t.op=1 then numR ((Z14 t.a l).1.n+(Z14 t.b l).1.n)
 else if t.op=2 then numR ((Z14 t.a l).1.n - (Z14 t.b l).1.n)
 else if t.op=3 then numR ((Z14 t.a l).1.n*(Z14 t.b l).1.n)
 else (zS,false)
theorem Z7p {s:Sym} (h:Z4p s=true) : -2147483647≤s.n∧s.n≤2147483647:=by
 obtain ⟨k,t,n⟩:=s;simp only [Z4p,Zlc,Zlp] at h;obtain ⟨rfl,h⟩:=h;exact (Zes h).2
theorem Zdh {a b:Int} (h1 : -2147483647≤a) (h2:a≤2147483647) (h3 : -2147483647≤b) (h4:b≤2147483647) : -4611686014132420609≤a*b∧a*b≤4611686014132420609:=by
 have e:(a*b).natAbs≤2147483647*2147483647:=by
  rw [Int.natAbs_mul];exact Nat.mul_le_mul (by omega) (by omega)
 omega
theorem Ziy {a:Int} (h1 : -4611686014132420609≤a) (h2:a≤4611686014132420609):IntKind.i64.wrap a=a:=Zl5 _ (by omega)
theorem Z6o (s:Sym) (w:World):Calls Tryz.prog 82 #[.agg #[.int .i64 s.kind,.string s.text,.int .i64 s.n]] w fun e w'=>e = .returned (.bool (Z4p s))∧Below w.heap.size w w':=by
 by_cases hk:s.kind=2
 · have a1:(s.kind == 2)=true:=by simp [hk]
   (have a2:decide (s.kind=2)=true:=by simp [hk]);have HR:=hid (show Z4p s=Z07 s by simp [Z4p,hk]);have HB:=hid ((Zks w.heap.size w).alloc (Zkt _) (.cells #[.int .i64 s.kind,.string s.text,.int .i64 s.n] 38));clear hk;go_enter Tryz.func82,Tryz.ntmps82;(go_wp2_with fail);refine (Z2j s _).mono ?_;rintro e w2 ⟨rfl,hb⟩;have HB2:=hid (HB.out.trans (hb.mono HB.out.size));clear hb;(go_wp2_with fail);go_ret;exact ⟨by rw [HR.out]<;>rfl,HB2.out⟩
 · have a1:(s.kind == 2)=false:=by simp [hk]
   (have a2:decide (s.kind=2)=false:=by simp [hk]);have HR:=hid (show Z4p s=false by simp [Z4p,hk]);clear hk;go_enter Tryz.func82,Tryz.ntmps82;(go_wp2_with fail);go_ret;exact ⟨by rw [HR.out]<;>rfl,(Zks _ _).alloc (Zkt _) _⟩
theorem Zdt {D:Nat→Prop} {A:Option Addr} {c:Nat} (t:Z5m) (l:List Z05) (w:World) (h:RowR Z0s D w A c l) :
 Calls Tryz.prog 36 #[.agg #[.int .i64 t.op,.string t.a.var,.int .i64 t.a.sym.kind,.string t.a.sym.text,.int .i64 t.a.sym.n,.string t.b.var,.int .i64 t.b.sym.kind,.string t.b.sym.text,.int .i64 t.b.sym.n],.slice A l.length c] w (Z2k w (Z29 t l)):=by
 have H0:=hid h;clear h;obtain ⟨⟨a,oa⟩,ha⟩ : ∃r,r=Z14 t.a l:=⟨_,rfl⟩;obtain ⟨⟨b,ob⟩,hb0⟩ : ∃r,r=Z14 t.b l:=⟨_,rfl⟩;obtain ⟨R,hR⟩ : ∃R,R=Z29 t l:=⟨_,rfl⟩;rw [← hR];have HR:=hid hR;unfold Z29 at hR;rw [← ha,← hb0] at hR;dsimp only at hR;have HV:=hid hR;have HA:=hid ha;have HBB:=hid hb0;clear ha hb0 hR HR;go_enter Tryz.func36,Tryz.ntmps36;(go_upto_region 1 with fail);obtain ⟨w1,hw1⟩ : ∃w1,w1=((w.alloc (.cells #[.int .i64 t.op,.string t.a.var,.int .i64 t.a.sym.kind,.string t.a.sym.text,.int .i64 t.a.sym.n,.string t.b.var,.int .i64 t.b.sym.kind,.string t.b.sym.text,.int .i64 t.b.sym.n] 93)).alloc (.cells #[.int .i64 0,.string ⟨#[]⟩,.int .i64 0] 38)):=⟨_,rfl⟩;rw [← hw1];have HB:=hid (show Below w.heap.size w w1 by rw [hw1];exact (by repeat (first | exact Zks _ _ | refine Below.drew ?_ | refine Below.al ?_ _ | refine Below.sc ?_ _)));have Kt:=hid (show Blk w1 (w.heap.size) 93 #[.int .i64 t.op,.string t.a.var,.int .i64 t.a.sym.kind,.string t.a.sym.text,.int .i64 t.a.sym.n,.string t.b.var,.int .i64 t.b.sym.kind,.string t.b.sym.text,.int .i64 t.b.sym.n] by rw [hw1];exact ((Blk.new w 93 #[.int .i64 t.op,.string t.a.var,.int .i64 t.a.sym.kind,.string t.a.sym.text,.int .i64 t.a.sym.n,.string t.b.var,.int .i64 t.b.sym.kind,.string t.b.sym.text,.int .i64 t.b.sym.n]).alloc (.cells #[.int .i64 0,.string ⟨#[]⟩,.int .i64 0] 38)));have Kr:=hid (show Blk w1 (w.heap.size+1) 38 #[.int .i64 0,.string ⟨#[]⟩,.int .i64 0] by rw [hw1];have hh:=(Blk.new (w.alloc (.cells #[.int .i64 t.op,.string t.a.var,.int .i64 t.a.sym.kind,.string t.a.sym.text,.int .i64 t.a.sym.n,.string t.b.var,.int .i64 t.b.sym.kind,.string t.b.sym.text,.int .i64 t.b.sym.n] 93)) 38 #[.int .i64 0,.string ⟨#[]⟩,.int .i64 0]);simp only [Zld] at hh;exact hh);clear hw1;obtain ⟨t0,t1,t2,t3,t4,t5,t6,t7,t8⟩:=Kt.out.c9;have tz:=Kt.out.lt;obtain ⟨r0,r1,r2⟩:=Kr.out.c3;have rf0:=Kr.out.frozen 0;have rf1:=Kr.out.frozen 1;have rf2:=Kr.out.frozen 2;have rz:=Kr.out.lt;(go_wp2_with fail);have hc:=Z5d t.a l w1 (H0.out.new_ HB.out);rw [← HA.out] at hc;(with_reducible refine (hc).mono ?_);rintro e w2 ⟨rfl,hb⟩;have hbs:=Below.trans (show Below w1.heap.size w1 _ from (by (repeat (first | exact Zks _ _ | refine Below.drew ?_ | refine Below.al ?_ _ | refine Below.sc ?_ _)))) (hb.mono (by simp<;>omega));have Kt:=hid (Kt.out.new_ hbs);have Kr:=hid (Kr.out.new_ hbs);have HB:=hid (HB.out.trans (hbs.mono HB.out.size));have hsz2:=hbs.size;clear t0 t1 t2 t3 t4 t5 t6 t7 t8 tz r0 r1 r2 rf0 rf1 rf2 rz hb hbs;obtain ⟨t0,t1,t2,t3,t4,t5,t6,t7,t8⟩:=Kt.out.c9
 have tz:=Kt.out.lt;obtain ⟨r0,r1,r2⟩:=Kr.out.c3;have rf0:=Kr.out.frozen 0;have rf1:=Kr.out.frozen 1;have rf2:=Kr.out.frozen 2;have rz:=Kr.out.lt;cases oa
 · skip
   have HF:=hid (show R=(zS,false) by rw [HV.out];simp);(go_wp2_with fail);unfold Z2k;rw [HF.out];exact bodyPost_ret (v:=.tuple #[.agg #[.int .i64 0,.string ⟨#[]⟩,.int .i64 0],.bool false]) (by simp [results,Tryz.results36,go_sem, *]) rfl ⟨rfl,by (repeat (first | exact Zks _ _ | exact HB.out | refine Below.drew ?_ | refine Below.al ?_ _ | refine Below.sc ?_ _))⟩
 · skip
   by_cases hop:t.op=0
   · skip
     (have qoa:(t.op == 0)=true:=by simp [hop]);(have qob:decide (t.op=0)=true:=by simp [hop]);have HF:=hid (show R=(a,true) by rw [HV.out];simp [hop]);clear hop;(go_wp2_with fail);unfold Z2k;rw [HF.out];exact bodyPost_ret (v:=.tuple #[.agg #[.int .i64 a.kind,.string a.text,.int .i64 a.n],.bool true]) (by simp [results,Tryz.results36,go_sem, *]) rfl ⟨rfl,by (repeat (first | exact Zks _ _ | exact HB.out | refine Below.drew ?_ | refine Below.al ?_ _ | refine Below.sc ?_ _))⟩
   · skip
     (have qoa:(t.op == 0)=false:=by simp [hop]);(have qob:decide (t.op=0)=false:=by simp [hop]);have hc:=fun W (hb:Below w.heap.size w W)=>Z5d t.b l W (H0.out.new_ hb);simp only [← HBB.out] at hc;have HC:=hid hc;clear hc;(go_wp2_with fail);(with_reducible refine (HC.out _ (by (repeat (first | exact Zks _ _ | exact HB.out | refine Below.drew ?_ | refine Below.al ?_ _ | refine Below.sc ?_ _)))).mono ?_);rintro e w3 ⟨rfl,hb⟩;have hbs:=Below.trans (show Below w2.heap.size w2 _ from (by (repeat (first | exact Zks _ _ | refine Below.drew ?_ | refine Below.al ?_ _ | refine Below.sc ?_ _)))) (hb.mono (by simp<;>omega));have Kt:=hid (Kt.out.new_ hbs);have Kr:=hid (Kr.out.new_ hbs);have Ka:=hid (show Blk w3 (w2.heap.size) 38 #[.int .i64 a.kind,.string a.text,.int .i64 a.n] from (Blk.new _ _ _).new_ hb);have HB:=hid (HB.out.trans (hbs.mono HB.out.size));have hsz3:=hbs.size;clear t0 t1 t2 t3 t4 t5 t6 t7 t8 tz r0 r1 r2 rf0 rf1 rf2 rz hb hbs;obtain ⟨t0,t1,t2,t3,t4,t5,t6,t7,t8⟩:=Kt.out.c9;have tz:=Kt.out.lt;obtain ⟨r0,r1,r2⟩:=Kr.out.c3;have rf0:=Kr.out.frozen 0;have rf1:=Kr.out.frozen 1;have rf2:=Kr.out.frozen 2;have rz:=Kr.out.lt;obtain ⟨a0,a1,a2⟩:=Ka.out.c3;have az:=Ka.out.lt;cases ob
     · skip
       have HF:=hid (show R=(zS,false) by rw [HV.out];simp [hop]);(go_wp2_with fail);unfold Z2k;rw [HF.out];exact bodyPost_ret (v:=.tuple #[.agg #[.int .i64 0,.string ⟨#[]⟩,.int .i64 0],.bool false]) (by simp [results,Tryz.results36,go_sem, *]) rfl ⟨rfl,by (repeat (first | exact Zks _ _ | exact HB.out | refine Below.drew ?_ | refine Below.al ?_ _ | refine Below.sc ?_ _))⟩
     · skip
       cases hna:Z4p a
       · skip
         have hc:=fun W=>Z6o a W;simp only [hna] at hc;have HC:=hid hc;clear hc;(go_wp2_with fail);(with_reducible refine (HC.out _).mono ?_);rintro e w4 ⟨rfl,hb⟩;have hbs:=Below.trans (show Below w3.heap.size w3 _ from (by (repeat (first | exact Zks _ _ | refine Below.drew ?_ | refine Below.al ?_ _ | refine Below.sc ?_ _)))) (hb.mono (by simp<;>omega));have Kt:=hid (Kt.out.new_ hbs);have Kr:=hid (Kr.out.new_ hbs);have Ka:=hid (Ka.out.new_ hbs);have Kb:=hid (show Blk w4 (w3.heap.size) 38 #[.int .i64 b.kind,.string b.text,.int .i64 b.n] from (Blk.new _ _ _).new_ hb);have HB:=hid (HB.out.trans (hbs.mono HB.out.size));have hsz4:=hbs.size;clear t0 t1 t2 t3 t4 t5 t6 t7 t8 tz r0 r1 r2 rf0 rf1 rf2 rz a0 a1 a2 az hb hbs;obtain ⟨t0,t1,t2,t3,t4,t5,t6,t7,t8⟩:=Kt.out.c9;have tz:=Kt.out.lt;obtain ⟨r0,r1,r2⟩:=Kr.out.c3;have rf0:=Kr.out.frozen 0;have rf1:=Kr.out.frozen 1;have rf2:=Kr.out.frozen 2;have rz:=Kr.out.lt;obtain ⟨a0,a1,a2⟩:=Ka.out.c3;have az:=Ka.out.lt;obtain ⟨b0,b1,b2⟩:=Kb.out.c3;have bz:=Kb.out.lt;have HF:=hid (show R=(zS,false) by rw [HV.out];simp [hop,hna]);(go_wp2_with fail);unfold Z2k;rw [HF.out];exact bodyPost_ret (v:=.tuple #[.agg #[.int .i64 0,.string ⟨#[]⟩,.int .i64 0],.bool false]) (by simp [results,Tryz.results36,go_sem, *]) rfl ⟨rfl,by (repeat (first | exact Zks _ _ | exact HB.out | refine Below.drew ?_ | refine Below.al ?_ _ | refine Below.sc ?_ _))⟩
       · skip
         have hc:=fun W=>Z6o a W;simp only [hna] at hc;have HC:=hid hc;clear hc;(go_wp2_with fail);(with_reducible refine (HC.out _).mono ?_);rintro e w4 ⟨rfl,hb⟩;have hbs:=Below.trans (show Below w3.heap.size w3 _ from (by (repeat (first | exact Zks _ _ | refine Below.drew ?_ | refine Below.al ?_ _ | refine Below.sc ?_ _)))) (hb.mono (by simp<;>omega));have Kt:=hid (Kt.out.new_ hbs);have Kr:=hid (Kr.out.new_ hbs);have Ka:=hid (Ka.out.new_ hbs);have Kb:=hid (show Blk w4 (w3.heap.size) 38 #[.int .i64 b.kind,.string b.text,.int .i64 b.n] from (Blk.new _ _ _).new_ hb);have HB:=hid (HB.out.trans (hbs.mono HB.out.size));have hsz4:=hbs.size;clear t0 t1 t2 t3 t4 t5 t6 t7 t8 tz r0 r1 r2 rf0 rf1 rf2 rz a0 a1 a2 az hb hbs;obtain ⟨t0,t1,t2,t3,t4,t5,t6,t7,t8⟩:=Kt.out.c9;have tz:=Kt.out.lt;obtain ⟨r0,r1,r2⟩:=Kr.out.c3;have rf0:=Kr.out.frozen 0;have rf1:=Kr.out.frozen 1;have rf2:=Kr.out.frozen 2;have rz:=Kr.out.lt;obtain ⟨a0,a1,a2⟩:=Ka.out.c3;have az:=Ka.out.lt;obtain ⟨b0,b1,b2⟩:=Kb.out.c3;have bz:=Kb.out.lt;cases hnb:Z4p b
         · skip
           have hc:=fun W=>Z6o b W;simp only [hnb] at hc;have HC:=hid hc;clear hc;(go_wp2_with fail);(with_reducible refine (HC.out _).mono ?_);rintro e w5 ⟨rfl,hb⟩;have hbs:=Below.trans (show Below w4.heap.size w4 _ from (by (repeat (first | exact Zks _ _ | refine Below.drew ?_ | refine Below.al ?_ _ | refine Below.sc ?_ _)))) (hb.mono (by simp<;>omega));have Kt:=hid (Kt.out.new_ hbs);have Kr:=hid (Kr.out.new_ hbs);have Ka:=hid (Ka.out.new_ hbs);have Kb:=hid (Kb.out.new_ hbs);have HB:=hid (HB.out.trans (hbs.mono HB.out.size));have hsz5:=hbs.size;clear t0 t1 t2 t3 t4 t5 t6 t7 t8 tz r0 r1 r2 rf0 rf1 rf2 rz a0 a1 a2 az b0 b1 b2 bz hb hbs;obtain ⟨t0,t1,t2,t3,t4,t5,t6,t7,t8⟩:=Kt.out.c9;have tz:=Kt.out.lt;obtain ⟨r0,r1,r2⟩:=Kr.out.c3;have rf0:=Kr.out.frozen 0;have rf1:=Kr.out.frozen 1;have rf2:=Kr.out.frozen 2;have rz:=Kr.out.lt;obtain ⟨a0,a1,a2⟩:=Ka.out.c3;have az:=Ka.out.lt;obtain ⟨b0,b1,b2⟩:=Kb.out.c3;have bz:=Kb.out.lt;have HF:=hid (show R=(zS,false) by rw [HV.out];simp [hop,hnb]);(go_wp2_with fail);unfold Z2k;rw [HF.out];exact bodyPost_ret (v:=.tuple #[.agg #[.int .i64 0,.string ⟨#[]⟩,.int .i64 0],.bool false]) (by simp [results,Tryz.results36,go_sem, *]) rfl ⟨rfl,by (repeat (first | exact Zks _ _ | exact HB.out | refine Below.drew ?_ | refine Below.al ?_ _ | refine Below.sc ?_ _))⟩
         · skip
           have hc:=fun W=>Z6o b W;simp only [hnb] at hc;have HC:=hid hc;clear hc;(go_wp2_with fail);(with_reducible refine (HC.out _).mono ?_);rintro e w5 ⟨rfl,hb⟩;have hbs:=Below.trans (show Below w4.heap.size w4 _ from (by (repeat (first | exact Zks _ _ | refine Below.drew ?_ | refine Below.al ?_ _ | refine Below.sc ?_ _)))) (hb.mono (by simp<;>omega));have Kt:=hid (Kt.out.new_ hbs);have Kr:=hid (Kr.out.new_ hbs);have Ka:=hid (Ka.out.new_ hbs);have Kb:=hid (Kb.out.new_ hbs);have HB:=hid (HB.out.trans (hbs.mono HB.out.size));have hsz5:=hbs.size;clear t0 t1 t2 t3 t4 t5 t6 t7 t8 tz r0 r1 r2 rf0 rf1 rf2 rz a0 a1 a2 az b0 b1 b2 bz hb hbs;obtain ⟨t0,t1,t2,t3,t4,t5,t6,t7,t8⟩:=Kt.out.c9;have tz:=Kt.out.lt;obtain ⟨r0,r1,r2⟩:=Kr.out.c3;have rf0:=Kr.out.frozen 0;have rf1:=Kr.out.frozen 1;have rf2:=Kr.out.frozen 2;have rz:=Kr.out.lt;obtain ⟨a0,a1,a2⟩:=Ka.out.c3;have az:=Ka.out.lt;obtain ⟨b0,b1,b2⟩:=Kb.out.c3;have bz:=Kb.out.lt;obtain ⟨n1,n2⟩:=Z7p hna;obtain ⟨n3,n4⟩:=Z7p hnb;obtain ⟨n5,n6⟩:=Zdh n1 n2 n3 n4;have v7:=Ziy n5 n6;by_cases h1:t.op=1
           · skip
             (have j1a:(t.op == 1)=true:=by simp [h1]);(have j1b:decide (t.op=1)=true:=by simp [h1]);have HF:=hid (show R=numR (a.n+b.n) by rw [HV.out];simp [hna,hnb,h1]);clear hop hna hnb h1;go_wp2_with fail
             all_goals
              unfold Z2k
              first
              | (rw [HF.out,Zcj (by omega)];exact bodyPost_ret (v:=.tuple #[.agg #[.int .i64 0,.string ⟨#[]⟩,.int .i64 0],.bool false]) (by simp [results,Tryz.results36,go_sem, *]) rfl ⟨rfl,by (repeat (first | exact Zks _ _ | exact HB.out | refine Below.drew ?_ | refine Below.al ?_ _ | refine Below.sc ?_ _))⟩)
              | (rw [HF.out,Za6 (by omega)];exact bodyPost_ret (v:=.tuple #[.agg #[.int .i64 2,.string ⟨#[]⟩,.int .i64 (a.n+b.n)],.bool true]) (by simp [results,Tryz.results36,go_sem, *]) rfl ⟨rfl,by (repeat (first | exact Zks _ _ | exact HB.out | refine Below.drew ?_ | refine Below.al ?_ _ | refine Below.sc ?_ _))⟩)
           · skip
             by_cases h2:t.op=2
             · skip
               (have j1a:(t.op == 1)=false:=by simp [h2]);(have j1b:decide (t.op=1)=false:=by simp [h2]);(have j2a:(t.op == 2)=true:=by simp [h2]);(have j2b:decide (t.op=2)=true:=by simp [h2]);have HF:=hid (show R=numR (a.n - b.n) by rw [HV.out];simp [hna,hnb,h2]);clear hop hna hnb h1 h2;go_wp2_with fail
               all_goals
                unfold Z2k
                first
                | (rw [HF.out,Zcj (by omega)];exact bodyPost_ret (v:=.tuple #[.agg #[.int .i64 0,.string ⟨#[]⟩,.int .i64 0],.bool false]) (by simp [results,Tryz.results36,go_sem, *]) rfl ⟨rfl,by (repeat (first | exact Zks _ _ | exact HB.out | refine Below.drew ?_ | refine Below.al ?_ _ | refine Below.sc ?_ _))⟩)
                | (rw [HF.out,Za6 (by omega)];exact bodyPost_ret (v:=.tuple #[.agg #[.int .i64 2,.string ⟨#[]⟩,.int .i64 (a.n - b.n)],.bool true]) (by simp [results,Tryz.results36,go_sem, *]) rfl ⟨rfl,by (repeat (first | exact Zks _ _ | exact HB.out | refine Below.drew ?_ | refine Below.al ?_ _ | refine Below.sc ?_ _))⟩)
             · skip
               by_cases h3:t.op=3
               · skip
                 (have j1a:(t.op == 1)=false:=by simp [h3]);(have j1b:decide (t.op=1)=false:=by simp [h3]);(have j2a:(t.op == 2)=false:=by simp [h3]);(have j2b:decide (t.op=2)=false:=by simp [h3]);(have j3a:(t.op == 3)=true:=by simp [h3]);(have j3b:decide (t.op=3)=true:=by simp [h3]);have HF:=hid (show R=numR (a.n*b.n) by rw [HV.out];simp [hna,hnb,h3]);clear hop hna hnb h1 h2 h3;go_wp2_with fail
                 all_goals
                  unfold Z2k
                  first
                  | (rw [HF.out,Zcj (by omega)];exact bodyPost_ret (v:=.tuple #[.agg #[.int .i64 0,.string ⟨#[]⟩,.int .i64 0],.bool false]) (by simp [results,Tryz.results36,go_sem, *]) rfl ⟨rfl,by (repeat (first | exact Zks _ _ | exact HB.out | refine Below.drew ?_ | refine Below.al ?_ _ | refine Below.sc ?_ _))⟩)
                  | (rw [HF.out,Za6 (by omega)];exact bodyPost_ret (v:=.tuple #[.agg #[.int .i64 2,.string ⟨#[]⟩,.int .i64 (a.n*b.n)],.bool true]) (by simp [results,Tryz.results36,go_sem, *]) rfl ⟨rfl,by (repeat (first | exact Zks _ _ | exact HB.out | refine Below.drew ?_ | refine Below.al ?_ _ | refine Below.sc ?_ _))⟩)
               · skip
                 (have j1a:(t.op == 1)=false:=by simp [h1]);(have j1b:decide (t.op=1)=false:=by simp [h1]);(have j2a:(t.op == 2)=false:=by simp [h2]);(have j2b:decide (t.op=2)=false:=by simp [h2]);(have j3a:(t.op == 3)=false:=by simp [h3]);(have j3b:decide (t.op=3)=false:=by simp [h3]);have HF:=hid (show R=(zS,false) by rw [HV.out];simp [hop,hna,hnb,h1,h2,h3]);(go_wp2_with fail);unfold Z2k;rw [HF.out];exact bodyPost_ret (v:=.tuple #[.agg #[.int .i64 0,.string ⟨#[]⟩,.int .i64 0],.bool false]) (by simp [results,Tryz.results36,go_sem, *]) rfl ⟨rfl,by (repeat (first | exact Zks _ _ | exact HB.out | refine Below.drew ?_ | refine Below.al ?_ _ | refine Below.sc ?_ _))⟩
end
section
def Z09 (a:ActT):List ByteArray:=[a.id,if a.value.op=0 then a.value.a.var else ⟨#[]⟩,a.other.var]
def mkB (v:ByteArray):Z05:=⟨v,zS⟩
def Z2w:List Z05→List ByteArray→List ByteArray
 | _,[]=>[]
 | h,v :: r=>if (getB h v).2=true∨v.toList = [] then Z2w h r else v :: Z2w (h ++ [mkB v]) r
theorem Z3w {h:List Z05} {v:ByteArray} {r:List ByteArray} (h1:(getB h v).2=true∨v.toList = []):Z2w h (v :: r)=Z2w h r:=by rw [Z2w,if_pos h1]
theorem Z5i {h:List Z05} {v:ByteArray} {r:List ByteArray} (h1:(getB h v).2=false) (h2 : ¬v.toList = []):Z2w h (v :: r)=v :: Z2w (h ++ [mkB v]) r:=by rw [Z2w,if_neg (by rw [h1];simp [h2])]
theorem Z6m (h:List Z05):Z2w h [] = []:=by rw [Z2w]
theorem Z88 (a:ActT):(Z09 a).length=3:=rfl
def Zav (v:ByteArray):Array Value:=#[.string v]
end
section
open Go.RowKit
variable {P:Program}
structure Kept (B:Nat) (F X Y:World):Prop where
 from_:KeepsFrom B X Y
 own : ∀k,B≤k→k<F.heap.size→Y.heap[k]? = X.heap[k]?
section
variable {B C:Nat} {F X Y Z:World}
theorem Kept.trans (h:Kept B F X Y) (k:Kept B F Y Z):Kept B F X Z:=⟨h.1.trans k.1,fun i h1 h2=>(k.2 i h1 h2).trans (h.2 i h1 h2)⟩
theorem Kept.up (h:Kept B F X Y) (hB:B≤C):Kept C F X Y:=⟨KeepsFrom.up h.1 hB,fun i h1 h2=>h.2 i (by omega) h2⟩
theorem Kept.put_ {l:Nat} (h:Kept B F X Y) (hl:l<B) (o:Obj):Kept B F X (Y.putObj l o):=⟨KeepsFrom.put_ h.1 hl o,fun i h1 h2=>(Zli (by omega)).trans (h.2 i h1 h2)⟩
theorem Kept.new_ (h:Below X.heap.size X Y) (hs:F.heap.size≤X.heap.size):Kept B F X Y:=
 ⟨⟨h.size,fun k o _ hk _=>(h.block k (Zl6.1 hk).1).trans hk⟩,fun k _ hk=>h.block k (by omega)⟩
theorem Kept.of_fr {M:Nat→Prop} (h:Fr M X Y) (hm : ∀k,B≤k→M k→F.heap.size≤k∧(k<X.heap.size→Z55 X k)) (hs:F.heap.size≤X.heap.size):Kept B F X Y:=
 ⟨⟨h.size,fun k o hB hk hc=>(h.block k (Zl6.1 hk).1 (fun hM=>by
   obtain ⟨c,t,f,hh⟩:=(hm k hB hM).2 (Zl6.1 hk).1;rw [hh] at hk;cases hk
   cases hc)).trans hk⟩,fun k h1 h2=>h.block k (by omega) (fun hM=>by have:=(hm k h1 hM).1;omega)⟩
end
def Zgy {α:Type} (P:Program) (gf:Nat) (lb:Array Value) (encs:α→Array Value) (xs:List α) (W:World) (start Kp:World→World→Prop):Prop:=
 ∀(l:Nat) (J Jx:World→List α→World→Prop),(∀F p X Y,J F p X→Priv W.heap.size X Y→J F p Y)→(∀F p X Y,Jx F p X→Priv W.heap.size X Y→Jx F p Y)→
  (∀F,start W F→J F [] F)→
  (∀F pre x post W1,start W F→xs=pre++x :: post→J F pre W1→YieldAt Fence.wide 0 P l (encs x) W1 fun e W'=>
    (e = .returned (.bool true)∧J F (pre ++ [x]) W'∧Kp W1 W'∧Kept W.heap.size F W1 W')∨(e = .returned (.bool false)∧Jx F (pre ++ [x]) W'∧Kept W.heap.size F W1 W'))→
  CallsIn Fence.wide 0 P gf (#[.func (.yield l) #[] #[]]++lb) W fun e W'=>(∃v,e = .returned v)∧∃F,start W F∧(J F xs W'∨∃pre post,xs=pre++post∧Jx F pre W')
theorem Iter.p {α:Type} {gf:Nat} {lb:Array Value} {encs:α→Array Value} {xs:List α} {W:World} {start Kp:World→World→Prop} (h:Iter P gf lb encs xs W start (fun X Y=>Kp X Y∧KeepsFrom W.heap.size X Y)):Zgy P gf lb encs xs W start Kp:=by
 intro l J Jx h1 h2 h3 h4;refine (h l (fun p X=>∃F,start W F∧J F p X) (fun p X=>∃F,start W F∧Jx F p X) (fun p X Y ⟨F,a,b⟩ hp=>⟨F,a,h1 F p X Y b hp⟩) (fun p X Y ⟨F,a,b⟩ hp=>⟨F,a,h2 F p X Y b hp⟩) (fun F hF=>⟨F,hF,h3 F hF⟩) ?_).mono ?_
 · rintro pre x post W1 hx ⟨F,hF,hJ⟩
   obtain ⟨fn,tmps,assign,body,hy,hR⟩:=h4 F pre x post W1 hF hx hJ;refine ⟨fn,tmps,assign,body,hy,hR.mono ?_⟩;rintro e W' (⟨g1,g2,g3,g4⟩ | ⟨g1,g2,_⟩)
   · exact .inl ⟨g1,⟨F,hF,g2⟩,g3,g4.1⟩
   · exact .inr ⟨g1,F,hF,g2⟩
 · rintro e W' ⟨hv,(⟨F,hF,hJ⟩ | ⟨pre,post,hx,F,hF,hJ⟩)⟩
   · exact ⟨hv,F,hF,.inl hJ⟩
   · exact ⟨hv,F,hF,.inr ⟨pre,post,hx,hJ⟩⟩
def Zkj {α:Type} (KpW:World→Prop) (B:Nat) (F:World) (I:World→List α→World→Prop) (Ix:World→Code→List α→World→Prop) (p:List α) (W:World):Exit→Act→World→Prop
 | .normal,_,W'=>Kept B F W W'∧KpW W'∧I F p W'
 | .ret,_,W'=>Kept B F W W'∧Ix F .ret p W'
 | .exit id,_,W'=>Kept B F W W'∧Ix F (.exit id) p W'
 | .goto t,_,W'=>Kept B F W W'∧Ix F (.goto t) p W'
 | .panic _,_,_=>False
 | .outgrown,_,_=>False
theorem Z8s {α:Type} {g:Operand} {ps:Array Tmp} {assign body:Code} {Q:Exit→Act→World→Prop} {a:Act} {w:World} {gf:Nat} {lb:Array Value}
 (hg:a.eval g = .func (.func gf) #[] lb) (eg : ∀args w,(callFunc gf args).run P w = .ok (.enter gf args) w)
 {encs:α→Array Value} {xs:List α} {start Kp:World→World→Prop} (hseq : ∀W,Below w.heap.size w W→Zgy P gf lb encs xs W start Kp)
 (hps : ∀x,(encs x).size=ps.size) (hKt : ∀A B C,Kp A B→Kp B C→Kp A C) (hKp : ∀A B,Priv w.heap.size A B→Kp A B) (hst : ∀W W1,start W W1→KeepsFrom w.heap.size W W1)
 (I:World→List α→World→Prop) (Ix:World→Code→List α→World→Prop) (hI : ∀F p X Y,I F p X→Priv w.heap.size X Y→I F p Y) (hIx : ∀F c p X Y,Ix F c p X→Priv w.heap.size X Y→Ix F c p Y)
 (h0 : ∀W F,Below w.heap.size w W→start W F→I F [] F)
 (hround : ∀(F:World) (l:Nat) (pre:List α) (x:α) (post:List α) (W:World),xs=pre++x :: post→w.heap.size≤l→I F pre W→
   assign.wpIn (Fence.wide.inRound l) 0 P (Exit.then (fun a1 W1=>Kept w.heap.size F W W1∧∀W2,Priv w.heap.size W1 W2→W2.heap.size=W1.heap.size→(∃r,W2.heap[l]? = some (.loop r))→
    body.wpIn (Fence.wide.inRound l) 0 P (Zkj (Kp W) w.heap.size F I Ix (pre ++ [x]) W2) a1 W2) (fun _ _ _=>False))
    { tmps:=(ps.zip (encs x)).foldl (fun t (p,v)=>t.setIfInBounds p v) a.tmps,defers:=[] } W)
 (hdone : ∀(F:World) (D:Nat) (W:World),w.heap.size≤D→I F xs W→W.heap[D]? = some (.deferred (some []))→Q .normal { a with defers:={ target:=.collected D,args:=#[] } :: a.defers } W)
 (hstop : ∀(F:World) (D:Nat) (c:Code) (pre post:List α) (W:World),w.heap.size≤D→xs=pre++post→Ix F c pre W→W.heap[D]? = some (.deferred (some []))→c.wpIn Fence.wide 0 P Q { a with defers:={ target:=.collected D,args:=#[] } :: a.defers } W) :
 (Code.rangeFunc g ps assign body).wpIn Fence.wide 0 P Q a w:=by
 refine wpIn_rangeFunc ?_;intro fn hfn;obtain ⟨rec,hrec⟩ : ∃rec:LoopState→Option Code→Loop,rec=fun st pe=>{ state:=st,pending:=pe,fn,tmps:=a.tmps,params:=ps,assign,body,defers:=w.heap.size }:=⟨_,rfl⟩;obtain ⟨W1,hW1⟩ : ∃W1,(w.alloc (.deferred (some []))).alloc (.loop (rec .ready none))=W1:=⟨_,rfl⟩
 have hL1:W1.heap[w.heap.size+1]? = some (.loop (rec .ready none)):=by
  rw [← hW1];have:=Zm6 (w.alloc (.deferred (some []))) (.loop (rec .ready none));rwa [Zld] at this
 have hK1:W1.heap[w.heap.size]? = some (.deferred (some [])):=by
  rw [← hW1];exact (Zm9 _ _ _ (by simp)).trans (Zm6 w _)
 have hb1:Below w.heap.size w W1:=by
  rw [← hW1];exact ((Zks _ w).alloc (Zkt _) _).alloc (by simp) _
 have hz1:W1.heap.size=w.heap.size+2:=by rw [← hW1];simp
 refine ⟨w.heap.size+1,[{ target:=.collected w.heap.size,args:=#[] }],W1,{ target:=.fn (.func gf) lb,args:=#[.func (.yield (w.heap.size+1)) #[] #[]] },W1,gf,
  #[.func (.yield (w.heap.size+1)) #[] #[]]++lb,W1,?_,?_,fun _ _=>trivial,?_,fun h=>by simp [Fence.wide] at h,?_⟩
 · rw [← hW1,hrec];exact run_enterLoop_outer _ _ _ _ _
 · simp only [resolve,hg]
   simp [go_sem]
 · simp [invoke,go_sem,eg]
 · have keep : ∀{X Y:World} {k:Nat} {o:Obj},Priv W1.heap.size X Y→X.heap[k]? = some o→k<W1.heap.size→Y.heap[k]? = some o:=fun hp hk hlt=>
    (hp.block _ (Zl6.1 hk).1 (.inl hlt)).trans hk
   refine (hseq W1 hb1 (w.heap.size+1)
    (fun F pre W=>(∃W0,Below w.heap.size w W0∧start W0 F)∧I F pre W∧W.heap[w.heap.size+1]? = some (.loop (rec .ready none))∧W.heap[w.heap.size]? = some (.deferred (some [])))
    (fun F pre W=>∃c,Ix F c pre W∧W.heap[w.heap.size+1]? = some (.loop (rec .done (some c)))∧W.heap[w.heap.size]? = some (.deferred (some [])))
    (fun F p X Y ⟨h0,h1,h2,h3⟩ hp=>⟨h0,hI F p X Y h1 (hp.mono (by omega)),keep hp h2 (by omega),keep hp h3 (by omega)⟩)
    (fun F p X Y ⟨c,h1,h2,h3⟩ hp=>⟨c,hIx F c p X Y h1 (hp.mono (by omega)),keep hp h2 (by omega),keep hp h3 (by omega)⟩)
    (fun W2 hs=>⟨⟨W1,hb1,hs⟩,h0 W1 W2 hb1 hs,(hst _ _ hs).same _ _ (by omega) hL1 rfl,(hst _ _ hs).same _ _ (by omega) hK1 rfl⟩) ?_).mono ?_
   · rintro F pre x post W hst0 hx ⟨hw0,hi,hl,hk⟩
     have hy:=run_yield (P:=P) (args:=encs x) hl (by rw [hrec];exact hps x);rw [hrec] at hy;refine ⟨fn,_,assign,body,hy,roundIn_of_wpIn hfn ?_⟩;refine wpIn_mono (hround F (w.heap.size+1) pre x post W hx (by omega) hi) ?_;rintro e a1 Wa hp
     cases e with
     | normal=>
       obtain ⟨hka,hbody⟩:=hp;have hla:=hka.1.same _ _ (by omega) hl rfl;have hkd:=hka.1.same _ _ (by omega) hk rfl;have hlt:w.heap.size+1<Wa.heap.size:=(Zl6.1 hla).1;have hbr:=run_beginRound (P:=P) hla (by rw [hrec]);refine ⟨_,hbr,?_⟩;have hl2:(Wa.putObj (w.heap.size+1) (.loop { rec .ready none with state:=.busy })).heap[w.heap.size+1]? = some (.loop { rec .ready none with state:=.busy }):=World.putObj_heap_same hlt;have hk2:(Wa.putObj (w.heap.size+1) (.loop { rec .ready none with state:=.busy })).heap[w.heap.size]? = some (.deferred (some [])):=(Zli (by omega)).trans hkd;refine wpIn_mono (hbody _ ((Priv.refl _ Wa).putObj (by omega) hla rfl _) (by simp) ⟨_,hl2⟩) ?_
       have fin : ∀(jump:Option Code) (W3:World),Kept w.heap.size F (Wa.putObj (w.heap.size+1) (.loop { rec .ready none with state:=.busy })) W3→
        (Instr.endRound (w.heap.size+1) jump).run P W3 = .ok (.bool jump.isNone) (W3.putObj (w.heap.size+1) (.loop (rec (if jump.isNone then .ready else .done) jump)))∧
        Priv w.heap.size W3 (W3.putObj (w.heap.size+1) (.loop (rec (if jump.isNone then .ready else .done) jump)))∧
        (W3.putObj (w.heap.size+1) (.loop (rec (if jump.isNone then .ready else .done) jump))).heap[w.heap.size+1]? = some (.loop (rec (if jump.isNone then .ready else .done) jump))∧
        (W3.putObj (w.heap.size+1) (.loop (rec (if jump.isNone then .ready else .done) jump))).heap[w.heap.size]? = some (.deferred (some [])):=fun jump W3 hk3=>by
        have hl3:=hk3.1.same _ _ (by omega) hl2 rfl;have:=run_endRound (P:=P) jump hl3;rw [hrec] at this ⊢;exact ⟨this,(Priv.refl _ _).putObj (by omega) hl3 rfl _,World.putObj_heap_same (Zl6.1 hl3).1,(Zli (by omega)).trans (hk3.1.same _ _ (Zkt _) hk2 rfl)⟩
       rintro e a3 W3 hp
       cases e with
       | normal=>
         obtain ⟨hk3,hkp3,hi3⟩:=hp;obtain ⟨hr,hpv,hl4,hk4⟩:=fin none W3 hk3;refine ⟨_,_,hr,.inl ⟨rfl,⟨hw0,hI _ _ _ _ hi3 hpv,hl4,hk4⟩,hKt _ _ _ hkp3 (hKp _ _ hpv),?_⟩⟩;exact (((hka.up (by omega)).put_ (by omega) _).trans (hk3.up (by omega))).put_ (by omega) _
       | ret=>
         obtain ⟨hk3,hi3⟩:=hp;obtain ⟨hr,hpv,hl4,hk4⟩:=fin (some .ret) W3 hk3;exact ⟨_,_,hr,.inr ⟨rfl,⟨.ret,hIx _ _ _ _ _ hi3 hpv,hl4,hk4⟩,(((hka.up (by omega)).put_ (by omega) _).trans (hk3.up (by omega))).put_ (by omega) _⟩⟩
       | exit id=>
         obtain ⟨hk3,hi3⟩:=hp;obtain ⟨hr,hpv,hl4,hk4⟩:=fin (some (.exit id)) W3 hk3;exact ⟨_,_,hr,.inr ⟨rfl,⟨.exit id,hIx _ _ _ _ _ hi3 hpv,hl4,hk4⟩,(((hka.up (by omega)).put_ (by omega) _).trans (hk3.up (by omega))).put_ (by omega) _⟩⟩
       | goto t=>
         obtain ⟨hk3,hi3⟩:=hp;obtain ⟨hr,hpv,hl4,hk4⟩:=fin (some (.goto t)) W3 hk3;exact ⟨_,_,hr,.inr ⟨rfl,⟨.goto t,hIx _ _ _ _ _ hi3 hpv,hl4,hk4⟩,(((hka.up (by omega)).put_ (by omega) _).trans (hk3.up (by omega))).put_ (by omega) _⟩⟩
       | panic ch=>exact hp.elim
       | outgrown=>exact hp.elim
     | exit id=>exact hp.elim
     | goto l=>exact hp.elim
     | ret=>exact hp.elim
     | panic ch=>exact hp.elim
     | outgrown=>exact hp.elim
   · rintro e W2 ⟨⟨v,rfl⟩,F,_,(⟨_,hi,hl,hk⟩ | ⟨pre,post,hS,c,hi,hl,hk⟩)⟩
     · exact ⟨none,_,by have:=run_endLoop (P:=P) hl (by rw [hrec];simp);rw [hrec] at this;exact this,hdone F _ _ (Zkt _) (hI _ _ _ _ hi ((Priv.refl _ _).putObj (by omega) hl rfl _)) ((Zli (by omega)).trans hk)⟩
     · exact ⟨some c,_,by have:=run_endLoop (P:=P) hl (by rw [hrec];simp);rw [hrec] at this;exact this,hstop F _ c pre post _ (Zkt _) hS (hIx _ c _ _ _ hi ((Priv.refl _ _).putObj (by omega) hl rfl _)) ((Zli (by omega)).trans hk)⟩
end
section
open Go.RowKit
variable {P:Program}
def Plus (D:Nat→Prop) (X Y:World):Nat→Prop:=fun k=>D k∨(X.heap.size≤k∧k<Y.heap.size)
def Z64 (B:Nat) (D:Nat→Prop):Nat→Prop:=fun k=>D k∧B≤k
theorem Plus.same {D:Nat→Prop} {X Y:World} (h:Y.heap.size=X.heap.size):Plus D X Y=D:=by
 funext k;apply propext;unfold Plus;constructor
 · rintro (h | h)
   · exact h
   · omega
 · exact .inl
def Z5o {α:Type} (B:Nat) (J:(Nat→Prop)→List α→World→Prop):Prop:=∀D p X Y,J D p X→Fr (Z64 B D) X Y→J (Plus D X Y) p Y
theorem Z5o.same {α:Type} {B:Nat} {J:(Nat→Prop)→List α→World→Prop} (h:Z5o B J) {D:Nat→Prop} {p:List α} {X Y:World} (hJ:J D p X) (hF:Fr (Z64 B D) X Y) (hz:Y.heap.size=X.heap.size):J D p Y:=by
 have:=h D p X Y hJ hF;rwa [Plus.same hz] at this
def Zey {α:Type} (P:Program) (l:Nat) (encs:α→Array Value) (xs:List α) (J Jx:(Nat→Prop)→List α→World→Prop):Prop:=
 ∀D pre x post W1,xs=pre++x :: post→J D pre W1→YieldAt Fence.wide 0 P l (encs x) W1 fun e W'=>
  (e = .returned (.bool true)∧J D (pre ++ [x]) W'∧Fr (fun k=>¬D k) W1 W')∨(e = .returned (.bool false)∧Jx D (pre ++ [x]) W'∧Fr (fun k=>¬D k) W1 W')
def Zh4 {α:Type} (xs:List α) (J Jx:(Nat→Prop)→List α→World→Prop) (W':World):Prop:=∃D,J D xs W'∨∃pre post,xs=pre++post∧Jx D pre W'
def Zj0 {α:Type} (P:Program) (gf:Nat) (lb:Array Value) (encs:α→Array Value) (xs:List α) (W:World) (D:Nat→Prop):Prop:=
 ∀(l:Nat) (J Jx:(Nat→Prop)→List α→World→Prop),Z5o W.heap.size J→Z5o W.heap.size Jx→J D [] W→Zey P l encs xs J Jx→
  CallsIn Fence.wide 0 P gf (#[.func (.yield l) #[] #[]]++lb) W fun e W'=>(∃v,e = .returned v)∧Zh4 xs J Jx W'
theorem Fr.putObj {M:Nat→Prop} {X Y:World} (h:Fr M X Y) {l:Nat} (hl:M l∨X.heap.size≤l) (o:Obj):Fr M X (Y.putObj l o):=
 ⟨h.os,h.tape,h.output,by simpa using h.size,fun k hk hn=>(Zli (by
  rintro rfl;rcases hl with hl | hl
  · exact hn hl
  · omega)).trans (h.block k hk hn)⟩
def Zki {α:Type} (D:Nat→Prop) (I:(Nat→Prop)→List α→World→Prop) (Ix:Code→(Nat→Prop)→List α→World→Prop) (p:List α) (W:World):Exit→Act→World→Prop
 | .normal,_,W'=>Fr (fun k=>¬D k) W W'∧I D p W'
 | .ret,_,W'=>Fr (fun k=>¬D k) W W'∧Ix .ret D p W'
 | .exit id,_,W'=>Fr (fun k=>¬D k) W W'∧Ix (.exit id) D p W'
 | .goto t,_,W'=>Fr (fun k=>¬D k) W W'∧Ix (.goto t) D p W'
 | .panic _,_,_=>False
 | .outgrown,_,_=>False
theorem Zd2 {α:Type} {g:Operand} {ps:Array Tmp} {assign body:Code} {Q:Exit→Act→World→Prop} {a:Act} {w:World} {gf:Nat} {lb:Array Value}
 (hg:a.eval g = .func (.func gf) #[] lb) (eg : ∀args w,(callFunc gf args).run P w = .ok (.enter gf args) w)
 {encs:α→Array Value} {xs:List α} {D:Nat→Prop} (hD : ∀k,D k→k<w.heap.size) (hseq : ∀W,Below w.heap.size w W→Zj0 P gf lb encs xs W D)
 (hps : ∀x,(encs x).size=ps.size)
 (I:(Nat→Prop)→List α→World→Prop) (Ix:Code→(Nat→Prop)→List α→World→Prop) (hI:Z5o w.heap.size I) (hIx : ∀c,Z5o w.heap.size (Ix c))
 (h0:I D [] w)
 (hround : ∀(D:Nat→Prop) (l:Nat) (pre:List α) (x:α) (post:List α) (W:World),xs=pre++x :: post→w.heap.size≤l→D l→I D pre W→
   assign.wpIn (Fence.wide.inRound l) 0 P (Exit.then (fun a1 W1=>Fr (fun k=>¬D k) W W1∧∀W2,Fr (· = l) W1 W2→W2.heap.size=W1.heap.size→(∃r,W2.heap[l]? = some (.loop r))→
    body.wpIn (Fence.wide.inRound l) 0 P (Zki D I Ix (pre ++ [x]) W2) a1 W2) (fun _ _ _=>False))
    { tmps:=(ps.zip (encs x)).foldl (fun t (p,v)=>t.setIfInBounds p v) a.tmps,defers:=[] } W)
 (hdone : ∀(D:Nat→Prop) (d:Nat) (W:World),w.heap.size≤d→D d→I D xs W→W.heap[d]? = some (.deferred (some []))→Q .normal { a with defers:={ target:=.collected d,args:=#[] } :: a.defers } W)
 (hstop : ∀(D:Nat→Prop) (d:Nat) (c:Code) (pre post:List α) (W:World),w.heap.size≤d→D d→xs=pre++post→Ix c D pre W→W.heap[d]? = some (.deferred (some []))→c.wpIn Fence.wide 0 P Q { a with defers:={ target:=.collected d,args:=#[] } :: a.defers } W) :
 (Code.rangeFunc g ps assign body).wpIn Fence.wide 0 P Q a w:=by
 refine wpIn_rangeFunc ?_;intro fn hfn;obtain ⟨rec,hrec⟩ : ∃rec:LoopState→Option Code→Loop,rec=fun st pe=>{ state:=st,pending:=pe,fn,tmps:=a.tmps,params:=ps,assign,body,defers:=w.heap.size }:=⟨_,rfl⟩;obtain ⟨W1,hW1⟩ : ∃W1,(w.alloc (.deferred (some []))).alloc (.loop (rec .ready none))=W1:=⟨_,rfl⟩
 have hL1:W1.heap[w.heap.size+1]? = some (.loop (rec .ready none)):=by
  rw [← hW1];have:=Zm6 (w.alloc (.deferred (some []))) (.loop (rec .ready none));rwa [Zld] at this
 have hK1:W1.heap[w.heap.size]? = some (.deferred (some [])):=by
  rw [← hW1];exact (Zm9 _ _ _ (by simp)).trans (Zm6 w _)
 have hb1:Below w.heap.size w W1:=by
  rw [← hW1];exact ((Zks _ w).alloc (Zkt _) _).alloc (by simp) _
 (have hz1:W1.heap.size=w.heap.size+2:=by rw [← hW1];simp);obtain ⟨U,hU⟩ : ∃U:(Nat→Prop)→Nat→Prop,U=fun D' k=>D' k∨(w.heap.size≤k∧k<w.heap.size+2):=⟨_,rfl⟩;(have u0 : ∀D',U D' w.heap.size:=fun D'=>by rw [hU];exact .inr ⟨by omega,by omega⟩);(have u1 : ∀D',U D' (w.heap.size+1):=fun D'=>by rw [hU];exact .inr ⟨by omega,by omega⟩);have us : ∀D' k,D' k→U D' k:=fun D' k h=>by rw [hU];exact .inl h
 have up : ∀D' (X Y:World),Plus (U D') X Y=U (Plus D' X Y):=fun D' X Y=>by
  funext k;apply propext;rw [hU];unfold Plus;dsimp only;constructor
  · rintro ((h | h) | h)
    · exact .inl (.inl h)
    · exact .inr h
    · exact .inl (.inr h)
  · rintro ((h | h) | h)
    · exact .inl (.inl h)
    · exact .inr h
    · exact .inl (.inr h)
 have hstart:I (U D) [] W1:=by
  have h9:=hI D [] w W1 h0 (Fr.of_new hb1);(have e:Plus D w W1=U D:=by funext k;rw [hU];unfold Plus;rw [hz1]);rwa [e] at h9
 refine ⟨w.heap.size+1,[{ target:=.collected w.heap.size,args:=#[] }],W1,{ target:=.fn (.func gf) lb,args:=#[.func (.yield (w.heap.size+1)) #[] #[]] },W1,gf,
  #[.func (.yield (w.heap.size+1)) #[] #[]]++lb,W1,?_,?_,fun _ _=>trivial,?_,fun h=>by simp [Fence.wide] at h,?_⟩
 · rw [← hW1,hrec];exact run_enterLoop_outer _ _ _ _ _
 · simp only [resolve,hg]
   simp [go_sem]
 · simp [invoke,go_sem,eg]
 · refine (hseq W1 hb1 (w.heap.size+1)
    (fun D' pre W=>I (U D') pre W∧¬D' w.heap.size∧¬D' (w.heap.size+1)∧W.heap[w.heap.size+1]? = some (.loop (rec .ready none))∧W.heap[w.heap.size]? = some (.deferred (some [])))
    (fun D' pre W=>¬D' w.heap.size∧¬D' (w.heap.size+1)∧∃c,Ix c (U D') pre W∧W.heap[w.heap.size+1]? = some (.loop (rec .done (some c)))∧W.heap[w.heap.size]? = some (.deferred (some [])))
    (fun D' p X Y ⟨h1,h2,h3,h4,h5⟩ hF=>?_) (fun D' p X Y ⟨h2,h3,c,h1,h4,h5⟩ hF=>?_)
    ⟨hstart,fun h=>by have:=hD _ h;omega,fun h=>by have:=hD _ h;omega,hL1,hK1⟩ ?_).mono ?_
   · have z4:=(Zl6.1 h4).1
     have z5:=(Zl6.1 h5).1;refine ⟨by rw [← up];exact hI _ _ _ _ h1 (hF.mono (fun k _ hk=>⟨us _ _ hk.1,by have:=hk.2;omega⟩)),?_,?_,(hF.block _ z4 (fun hk=>h3 hk.1)).trans h4,(hF.block _ z5 (fun hk=>h2 hk.1)).trans h5⟩
     · rintro (h | h)
       · exact h2 h
       · omega
     · rintro (h | h)
       · exact h3 h
       · omega
   · have z4:=(Zl6.1 h4).1
     have z5:=(Zl6.1 h5).1;refine ⟨?_,?_,c,by rw [← up];exact hIx c _ _ _ _ h1 (hF.mono (fun k _ hk=>⟨us _ _ hk.1,by have:=hk.2;omega⟩)),(hF.block _ z4 (fun hk=>h3 hk.1)).trans h4,(hF.block _ z5 (fun hk=>h2 hk.1)).trans h5⟩
     · rintro (h | h)
       · exact h2 h
       · omega
     · rintro (h | h)
       · exact h3 h
       · omega
   · rintro D' pre x post W hx ⟨hi,nd,nl,hl,hk⟩
     have hy:=run_yield (P:=P) (args:=encs x) hl (by rw [hrec];exact hps x);rw [hrec] at hy;refine ⟨fn,_,assign,body,hy,roundIn_of_wpIn hfn ?_⟩;refine wpIn_mono (hround (U D') (w.heap.size+1) pre x post W hx (by omega) (u1 _) hi) ?_;rintro e a1 Wa hp;have lu : ∀{X Y:World},Fr (fun k=>¬U D' k) X Y→Fr (fun k=>¬D' k) X Y:=fun h=>h.mono (fun k _ hk hd=>hk (us _ _ hd))
     cases e with
     | normal=>
       obtain ⟨hfa,hbody⟩:=hp;have zl:=(Zl6.1 hl).1;have zk:=(Zl6.1 hk).1;have hla:=(hfa.block _ zl (fun hn=>hn (u1 _))).trans hl;have hkd:=(hfa.block _ zk (fun hn=>hn (u0 _))).trans hk;have hlt:w.heap.size+1<Wa.heap.size:=(Zl6.1 hla).1;have hbr:=run_beginRound (P:=P) hla (by rw [hrec]);refine ⟨_,hbr,?_⟩;have hl2:(Wa.putObj (w.heap.size+1) (.loop { rec .ready none with state:=.busy })).heap[w.heap.size+1]? = some (.loop { rec .ready none with state:=.busy }):=World.putObj_heap_same hlt;have hk2:(Wa.putObj (w.heap.size+1) (.loop { rec .ready none with state:=.busy })).heap[w.heap.size]? = some (.deferred (some [])):=(Zli (by omega)).trans hkd;have hfb:Fr (fun k=>¬D' k) W (Wa.putObj (w.heap.size+1) (.loop { rec .ready none with state:=.busy })):=(lu hfa).trans ((Fr.refl _ Wa).putObj (.inl nl) _);refine wpIn_mono (hbody _ ((Fr.refl (· = w.heap.size+1) Wa).putObj (.inl rfl) _) (by simp) ⟨_,hl2⟩) ?_
       have fin : ∀(jump:Option Code) (W3:World),Fr (fun k=>¬U D' k) (Wa.putObj (w.heap.size+1) (.loop { rec .ready none with state:=.busy })) W3→
        (Instr.endRound (w.heap.size+1) jump).run P W3 = .ok (.bool jump.isNone) (W3.putObj (w.heap.size+1) (.loop (rec (if jump.isNone then .ready else .done) jump)))∧
        Fr (Z64 w.heap.size (U D')) W3 (W3.putObj (w.heap.size+1) (.loop (rec (if jump.isNone then .ready else .done) jump)))∧
        Fr (fun k=>¬D' k) W (W3.putObj (w.heap.size+1) (.loop (rec (if jump.isNone then .ready else .done) jump)))∧
        (W3.putObj (w.heap.size+1) (.loop (rec (if jump.isNone then .ready else .done) jump))).heap[w.heap.size+1]? = some (.loop (rec (if jump.isNone then .ready else .done) jump))∧
        (W3.putObj (w.heap.size+1) (.loop (rec (if jump.isNone then .ready else .done) jump))).heap[w.heap.size]? = some (.deferred (some [])):=fun jump W3 hk3=>by
        have hl3:=(hk3.block _ (by simpa using hlt) (fun hn=>hn (u1 _))).trans hl2;have hd3:=(hk3.block _ (by have:=hlt;simp;omega) (fun hn=>hn (u0 _))).trans hk2;have:=run_endRound (P:=P) jump hl3;rw [hrec] at this ⊢;exact ⟨this,(Fr.refl _ W3).putObj (.inl ⟨u1 _,by omega⟩) _,(hfb.trans (lu hk3)).trans ((Fr.refl _ W3).putObj (.inl nl) _),World.putObj_heap_same (Zl6.1 hl3).1,(Zli (by omega)).trans hd3⟩
       rintro e a3 W3 hp
       cases e with
       | normal=>
         obtain ⟨hk3,hi3⟩:=hp;obtain ⟨hr,hst,hfr,hl4,hk4⟩:=fin none W3 hk3;exact ⟨_,_,hr,.inl ⟨rfl,⟨hI.same hi3 hst (by simp),nd,nl,hl4,hk4⟩,hfr⟩⟩
       | ret=>
         obtain ⟨hk3,hi3⟩:=hp;obtain ⟨hr,hst,hfr,hl4,hk4⟩:=fin (some .ret) W3 hk3;exact ⟨_,_,hr,.inr ⟨rfl,⟨nd,nl,.ret,(hIx .ret).same hi3 hst (by simp),hl4,hk4⟩,hfr⟩⟩
       | exit id=>
         obtain ⟨hk3,hi3⟩:=hp;obtain ⟨hr,hst,hfr,hl4,hk4⟩:=fin (some (.exit id)) W3 hk3;exact ⟨_,_,hr,.inr ⟨rfl,⟨nd,nl,.exit id,(hIx (.exit id)).same hi3 hst (by simp),hl4,hk4⟩,hfr⟩⟩
       | goto t=>
         obtain ⟨hk3,hi3⟩:=hp;obtain ⟨hr,hst,hfr,hl4,hk4⟩:=fin (some (.goto t)) W3 hk3;exact ⟨_,_,hr,.inr ⟨rfl,⟨nd,nl,.goto t,(hIx (.goto t)).same hi3 hst (by simp),hl4,hk4⟩,hfr⟩⟩
       | panic ch=>exact hp.elim
       | outgrown=>exact hp.elim
     | exit id=>exact hp.elim
     | goto l=>exact hp.elim
     | ret=>exact hp.elim
     | panic ch=>exact hp.elim
     | outgrown=>exact hp.elim
   · have pst : ∀(D':Nat→Prop) (X:World) (o:Obj),Fr (Z64 w.heap.size (U D')) X (X.putObj (w.heap.size+1) o):=fun D' X o=>(Fr.refl _ X).putObj (.inl ⟨u1 _,by omega⟩) _
     rintro e W2 ⟨⟨v,rfl⟩,D',(⟨hi,nd,nl,hl,hk⟩ | ⟨pre,post,hS,nd,nl,c,hi,hl,hk⟩)⟩
     · exact ⟨none,_,by have:=run_endLoop (P:=P) hl (by rw [hrec];simp);rw [hrec] at this;exact this,hdone (U D') _ _ (Zkt _) (u0 _) (hI.same hi (pst _ _ _) (by simp)) ((Zli (by omega)).trans hk)⟩
     · exact ⟨some c,_,by have:=run_endLoop (P:=P) hl (by rw [hrec];simp);rw [hrec] at this;exact this,hstop (U D') _ c pre post _ (Zkt _) (u0 _) hS ((hIx c).same hi (pst _ _ _) (by simp)) ((Zli (by omega)).trans hk)⟩
end
section
open Go.RowKit
theorem Blk.there {w:World} {g:Nat} {t:TypeId} {cs:Array Value} (h:Blk w g t cs):w.there g 0 cs.size:=fun j hj=>by
 rw [Zlm];exact ⟨by rw [h.cell,Array.getElem?_eq_getElem hj];rfl,h.frozen j⟩
theorem Below.setCells' {B:Nat} {a:World} {g:Nat} : ∀(vs:List Value) (o:Nat) {b:World},Below B a b→B≤g→Below B a (b.setCells g o vs)
 | [],_,_,h,_=>h
 | v :: vs,o,_,h,hg=>Below.setCells' vs (o+1) (h.setCell (show B≤(⟨g,o,none⟩:Addr).block from hg) v) hg
variable {P:Program} {α:Type}
def ItSt (J:(Nat→Prop)→List α→World→Prop) (D E:Nat→Prop) (W:World) (pre:List α) (X:World):Prop:=
 ∃D',(∀k,D k→D' k)∧(∀k,E k→D' k)∧J D' pre X∧Fr (fun j=>¬D j) W X∧(∀k,E k→W.heap.size≤k)
section
variable {J Jx:(Nat→Prop)→List α→World→Prop} {D E E':Nat→Prop} {W X Y:World} {pre xs:List α}
theorem ItSt.start (h:J D [] W):ItSt J D (fun _=>False) W [] W:=⟨D,fun _ h=>h,fun _ h=>h.elim,h,Fr.refl _ _,fun _ h=>h.elim⟩
theorem ItSt.fr (h:ItSt J D E W pre X):Fr (fun j=>¬D j) W X:=by
 obtain ⟨_,_,_,_,h,_⟩:=h;exact h
theorem ItSt.step (h:ItSt J D E W pre X) (hJ:Z5o W.heap.size J) (hF:Fr E X Y):ItSt J D (Plus E X Y) W pre Y:=by
 obtain ⟨D',h1,h2,h3,h4,h5⟩:=h;refine ⟨Plus D' X Y,fun k hk=>.inl (h1 k hk),fun k hk=>hk.imp (h2 k) id,hJ _ _ _ _ h3 (hF.mono (fun k _ hk=>⟨h2 k hk,h5 k hk⟩)),h4.into hF (fun k hk=>.inr (h5 k hk)),fun k hk=>?_⟩;rcases hk with hk | hk
 · exact h5 k hk
 · exact Zlf h4.size hk.1
theorem ItSt.new_ (h:ItSt J D E W pre X) (hJ:Z5o W.heap.size J) (hb:Below X.heap.size X Y):ItSt J D (Plus E X Y) W pre Y:=h.step hJ (Fr.of_new hb)
theorem ItSt.round {l:Nat} {encs:α→Array Value} {x:α} {post:List α} (h:ItSt J D E W pre X) (hY:Zey P l encs xs J Jx) (hx:xs=pre++x :: post) :
 YieldAt Fence.wide 0 P l (encs x) X fun e W'=>(e = .returned (.bool true)∧ItSt J D E W (pre ++ [x]) W'∧Fr (fun k=>¬(D k∨E k)) X W')∨(e = .returned (.bool false)∧Zh4 xs J Jx W'∧Fr (fun k=>¬(D k∨E k)) X W'):=by
 obtain ⟨D',h1,h2,h3,h4,h5⟩:=h;obtain ⟨fn,tmps,assign,body,hy,hR⟩:=hY D' pre x post X hx h3;refine ⟨fn,tmps,assign,body,hy,hR.mono ?_⟩;rintro e W' (⟨g1,g2,g3⟩ | ⟨g1,g2,g3⟩)
 · exact .inl ⟨g1,⟨D',h1,h2,g2,h4.trans (g3.mono (fun k _ hk hd=>hk (h1 k hd))),h5⟩,g3.mono (fun k _ hk hd=>hk (hd.elim (h1 k) (h2 k)))⟩
 · exact .inr ⟨g1,⟨D',.inr ⟨pre ++ [x],post,by rw [hx];simp,g2⟩⟩,g3.mono (fun k _ hk hd=>hk (hd.elim (h1 k) (h2 k)))⟩
theorem ItSt.told (h:ItSt J D E W xs X):Zh4 xs J Jx X:=by
 obtain ⟨D',_,_,h3,_,_⟩:=h;exact ⟨D',.inl h3⟩
end
theorem Z37 {F:Fence} {n1:Nat} (w:World) {ops:Array Oper} {rest:List Oper} {o:Oper} {a:Go.Act} {Q:Exit→Go.Act→World→Prop} (hgd:o.guard=none) (s x:Operand) (t:TypeId)
 (ho:o.op = .call { callee:=.builtin .append,args:=#[s,x],argTypes:=#[t,t] })
 (e:TypeId) (i:TypeInfo) (z:Value) (size bytes:Nat) (ht:P.underlying t=some (.slice e)) (hi:P.info? e=some i) (hz:i.zero=some z)
 (hsize:i.size=size) (hby:i.bytes=bytes) (hzs:z.cells.size=size) (hsz:0<size)
 (v:Value) (n:Nat) (xs:List Value) (hs:a.eval s=v) (hown:w.ownsRow 0 e size v n xs)
 (A:Option Addr) (m c:Nat) (news:List Value) (hx:a.eval x = .slice A m c) (hl:news.length=m*size)
 (hnews:0<m→∃ad,A=some ad∧∀j u,news[j]? = some u→w.cell? (ad.add j)=some u) (h1 : ∀u∈news,u.oneCell'=true)
 (h63:n+m≤maxLen) (hbytes:(n+m)*bytes≤140737488355328)
 (h : ∀v' w',w'.ownsRow 0 e size v' (n+m) (xs++news)→w.grownBy w' v.ownBlock→(v' = .slice none 0 0↔v = .slice none 0 0∧m=0)→(v'.ownBlock=v.ownBlock∨v'.ownBlock=some w.heap.size)→wpListIn F n1 P ops Q rest (a.put o.dst v') w') :
 wpListIn F n1 P ops Q (o :: rest) a w:=by
 refine wpListIn_plain hgd fun K hK'=>?_;obtain ⟨v',w',hrun,r1,r2,r3,r4⟩:=Z5r (P:=P) w t o.type e i z size bytes ht hi hz hsize hby hzs hsz v n xs hown A m c news hl hnews h1 h63 hbytes;unfold Oper.wpIn;refine ⟨?_,?_⟩
 · simp [Oper.about,ho,resolve,Target.leads,Sem.run_pure]
 · rw [Oper.semAt_plain F _ _ (by rw [ho];intro c hc';cases hc')]
   simp [execOp,ho,resolve,invoke,builtin,hs,hx,hrun,Result.andThen];exact hK' _ _ (h v' w' r1 r2 r3 r4)
theorem Z4n {F:Fence} {n1:Nat} {w:World} {ops:Array Oper} {rest:List Oper} {o:Oper} {a:Go.Act} {Q:Exit→Go.Act→World→Prop} (hgd:o.guard=none) (ty:TypeId) (x:Operand) (ho:o.op = .load ty x)
 (b of:Nat) (hx:a.eval x = .pointer (some ⟨b,of,none⟩)) (cs:List Value) (d:TypeDesc) (hc:w.rangeAt b of cs)
 (hu:P.underlying ty=some d) (hd:d.isRow=true) (hi:(P.info? ty).map (·.size)=some cs.length)
 (h:wpListIn F n1 P ops Q rest (a.put o.dst (.agg cs.toArray)) w):wpListIn F n1 P ops Q (o :: rest) a w:=by
 refine wpListIn_plain hgd fun K hK'=>?_;unfold Oper.wpIn;refine ⟨?_,?_⟩
 · simp [Oper.about,ho]
 · rw [Oper.semAt_plain F _ _ (by rw [ho];intro c hc';cases hc')]
   unfold execOp;simp only [ho,hx,Instr.loadAt,Instr.sureAddr,Sem.run_bind,Sem.run_pure,Result.andThen_ok,run_loadVar_mid w b of ty cs d hc hu hd hi];exact hK' _ _ h
theorem Z4b {F:Fence} {n1:Nat} {w:World} {ops:Array Oper} {rest:List Oper} {o:Oper} {a:Go.Act} {Q:Exit→Go.Act→World→Prop} (hgd:o.guard=none) (ty:TypeId) (x y:Operand) (ho:o.op = .store ty x y)
 (b of:Nat) (cells:Array Value) (hx:a.eval x = .pointer (some ⟨b,of,none⟩)) (hy:a.eval y = .agg cells)
 (ht:w.there b of cells.size) (hi:(P.info? ty).map (·.size)=some cells.size) (h1:cells.all (·.oneCell')=true)
 (h:wpListIn F n1 P ops Q rest (a.put o.dst undef) (w.setCells b of cells.toList)):wpListIn F n1 P ops Q (o :: rest) a w:=by
 refine wpListIn_plain hgd fun K hK'=>?_;unfold Oper.wpIn;refine ⟨?_,?_⟩
 · simp [Oper.about,ho]
 · rw [Oper.semAt_plain F _ _ (by rw [ho];intro c hc';cases hc')]
   unfold execOp;simp only [ho,hx,hy,Instr.storeAt,Instr.sureAddr,Sem.run_bind,Sem.run_pure,Result.andThen_ok,run_storeVar_mid w b of ty cells ht hi h1];exact hK' _ _ h
theorem Z6w (b:Nat) : ∀(vs:List Value) (o:Nat) (w:World),(w.setCells b o vs).heap.size=w.heap.size
 | [],_,_=>rfl
 | v :: r,o,w=>by rw [World.setCells,Z6w b r (o+1)];simp [World.setCell]
theorem Z6g {w:World} {t:TypeId} (zs vs:List Value) (hl:zs.length=vs.length) :
 ∃W,W=(w.alloc (.cells zs.toArray t)).setCells w.heap.size 0 vs∧(w.alloc (.cells zs.toArray t)).there w.heap.size 0 vs.toArray.size∧W.rangeAt w.heap.size 0 vs∧Below w.heap.size w W∧W.heap.size=w.heap.size+1:=by
 have ht:(w.alloc (.cells zs.toArray t)).there w.heap.size 0 vs.length:=by
  have:=(Blk.new w t zs.toArray).there;rwa [show zs.toArray.size=vs.length by simpa using hl] at this
 refine ⟨_,rfl,by simpa using ht,Zm4 _ _ _ _ ht,Below.setCells' _ _ ((Zks _ _).alloc (Zkt _) _) (Zkt _),?_⟩;rw [Z6w,Zld]
theorem Blk.setCells_ {g:Nat} {t:TypeId} : ∀(vs:List Value) (o:Nat) {w:World} {cs:Array Value},Blk w g t cs→∃cs',Blk (w.setCells g o vs) g t cs'∧cs'.size=cs.size
 | [],_,_,cs,h=>⟨cs,h,rfl⟩
 | v :: vs,o,w,cs,h=>by
   obtain ⟨cs',h1,h2⟩:=Blk.setCells_ vs (o+1) (h.set_ o v);exact ⟨cs',h1,by rw [h2];simp⟩
theorem Z7o {w W:World} {t:TypeId} {zs vs:List Value} (hl:zs.length=vs.length) (hW:W=(w.alloc (.cells zs.toArray t)).setCells w.heap.size 0 vs) (hr:W.rangeAt w.heap.size 0 vs):Blk W w.heap.size t vs.toArray:=by
 obtain ⟨cs',h1,h2⟩:=Blk.setCells_ vs 0 (Blk.new w t zs.toArray);rw [← hW] at h1
 have e:cs'=vs.toArray:=by
  apply Array.ext
  · rw [h2];simpa using hl
  · intro i hi hj
    (have hj':i<vs.length:=by simpa using hj);have h3:=hr i vs[i] (Zl1 hj');rw [show (0+i)=i by omega,h1.cell i,Array.getElem?_eq_getElem hi] at h3;simpa using h3
 rw [← e];exact h1
theorem Z1k {E:Nat→Prop} {X Y:World} {e:TypeId} {size n m:Nat} {A:Option Addr} {c:Nat} {v':Value} {xs news:List Value} (hA:AIn A E) (hown':Y.ownsRow 0 e size v' (n+m) (xs++news)) (hg:X.grownBy Y (Value.slice A n c).ownBlock)
 (hat:v'.ownBlock=(Value.slice A n c).ownBlock∨v'.ownBlock=some X.heap.size) : ∃A' c',v' = .slice A' (n+m) c'∧Fr E X Y∧AIn A' (Plus E X Y)∧Y.ownsRow 0 e size (.slice A' (n+m) c') (n+m) (xs++news):=by
 obtain ⟨A',c',rfl,hc,_,hz⟩:=Z1y hown';refine ⟨A',c',rfl,(Fr.refl E X).grown hg (fun k hk=>?_),fun a ha=>?_,hown'⟩
 · rcases A with _ | a
   · simp [Value.ownBlock] at hk
   · have e:a.block=k:=by simpa [Value.ownBlock] using hk
     exact .inl (e ▸ hA a rfl)
 · subst ha
   rcases hat with h | h
   · rcases A with _ | b
     · simp [Value.ownBlock] at h
     · have e:a.block=b.block:=by simpa [Value.ownBlock] using h
       exact .inl (e ▸ hA b rfl)
   · have e:a.block=X.heap.size:=by simpa [Value.ownBlock] using h
     refine .inr ⟨by omega,?_⟩;rcases Z0i hown' with ⟨hv,_⟩ | ⟨g,cap,hv,_,_,hr,_⟩
     · cases hv
     · injection hv with hv
       injection hv with hv;subst hv;exact hr.lt
end
section
open Go.RowKit Go.Shelf
theorem Z78 (s:Sym) (w:World):Calls Tryz.prog 207 #[.agg #[.int .i64 s.kind,.string s.text,.int .i64 s.n]] w fun e w'=>e = .returned (.bool (Z4m s))∧Below w.heap.size w w':=by
 have hq : ∀W:World,(binOp .eql 38 (.agg #[.int .i64 s.kind,.string s.text,.int .i64 s.n]) (.agg #[.int .i64 0,.string ⟨#[]⟩,.int .i64 0])).run Tryz.prog W = .ok (.bool (Z4m s)) W:=fun W=>Z74 s zS W;go_enter Tryz.func207,Tryz.ntmps207;(go_wp2_with fail);go_ret;exact ⟨rfl,(Zks _ _).alloc (Zkt _) _⟩
theorem Zi3 (k:Int) (w:World):Calls Tryz.prog 197 #[.int .i64 k] w fun e w'=>e = .returned (.bool (Z1b k))∧w=w':=by
 have HV:=hid (show Z1b k=(k == 8 || k == 9 || k == 10) from rfl);go_enter Tryz.func197,Tryz.ntmps197;go_wp2_with fail
 all_goals
  go_ret;refine ⟨?_,rfl⟩;rw [HV.out];refine Z0v ?_;simp_all
theorem Z3d (s:Sym) (w:World):Calls Tryz.prog 208 #[.agg #[.int .i64 s.kind,.string s.text,.int .i64 s.n]] w fun e w'=>e = .returned (.bool (Z1z s))∧Below w.heap.size w w':=by
 obtain ⟨r,hr⟩ : ∃r,r=Z1z s:=⟨_,rfl⟩;rw [← hr];have HR:=hid hr;clear hr;have HB:=hid ((Zks w.heap.size w).alloc (Zkt _) (.cells #[.int .i64 s.kind,.string s.text,.int .i64 s.n] 38));go_enter Tryz.func208,Tryz.ntmps208;obtain ⟨W1,hW1⟩ : ∃W1,W1=w.alloc (.cells #[.int .i64 s.kind,.string s.text,.int .i64 s.n] 38):=⟨_,rfl⟩
 go_wp2_with (first
  | (go_at_call 49;refine (Z2j s _).mono ?_;rintro e w9 ⟨rfl,hb9⟩;have HB:=hid (HB.out.trans (hb9.mono HB.out.size));clear hb9))
 all_goals
  go_ret;refine ⟨?_,by (first | exact HB.out | (exact (Zks _ _).alloc (Zkt _) _) | (simpa using HB.out))⟩;rw [HR.out];refine Z0v ?_
  first | (simp_all [Z1z];done) | (simp_all [Z1z];rfl)
theorem Zd7 (a:Z2f) (w:World):Calls Tryz.prog 198 #[.agg #[.string a.var,.int .i64 a.sym.kind,.string a.sym.text,.int .i64 a.sym.n]] w fun e w'=>e = .returned (.bool (Z2s a))∧Below w.heap.size w w':=by
 obtain ⟨r,hr⟩ : ∃r,r=Z2s a:=⟨_,rfl⟩;rw [← hr];have HR:=hid hr;clear hr;have HB:=hid ((Zks w.heap.size w).alloc (Zkt _) (.cells #[.string a.var,.int .i64 a.sym.kind,.string a.sym.text,.int .i64 a.sym.n] 91));go_enter Tryz.func198,Tryz.ntmps198;obtain ⟨W1,hW1⟩ : ∃W1,W1=w.alloc (.cells #[.string a.var,.int .i64 a.sym.kind,.string a.sym.text,.int .i64 a.sym.n] 91):=⟨_,rfl⟩
 go_wp2_with (first
  | (go_at_call 207;refine (Z78 a.sym _).mono ?_;rintro e w9 ⟨rfl,hb9⟩;have HB:=hid (HB.out.trans (hb9.mono HB.out.size));clear hb9))
 all_goals
  go_ret;refine ⟨?_,by (first | exact HB.out | (exact (Zks _ _).alloc (Zkt _) _) | (simpa using HB.out))⟩;rw [HR.out];refine Z0v ?_
  first | (simp_all [Z2s];done) | (simp_all [Z2s];rfl)
theorem Zdu (a:Z2f) (w:World):Calls Tryz.prog 209 #[.agg #[.string a.var,.int .i64 a.sym.kind,.string a.sym.text,.int .i64 a.sym.n]] w fun e w'=>e = .returned (.bool (Z49 a))∧Below w.heap.size w w':=by
 obtain ⟨r,hr⟩ : ∃r,r=Z49 a:=⟨_,rfl⟩;rw [← hr];have HR:=hid hr;clear hr;have HB:=hid ((Zks w.heap.size w).alloc (Zkt _) (.cells #[.string a.var,.int .i64 a.sym.kind,.string a.sym.text,.int .i64 a.sym.n] 91));go_enter Tryz.func209,Tryz.ntmps209;obtain ⟨W1,hW1⟩ : ∃W1,W1=w.alloc (.cells #[.string a.var,.int .i64 a.sym.kind,.string a.sym.text,.int .i64 a.sym.n] 91):=⟨_,rfl⟩
 go_wp2_with (first
  | fail)
 all_goals
  go_ret;refine ⟨?_,by (first | exact HB.out | (exact (Zks _ _).alloc (Zkt _) _) | (simpa using HB.out))⟩;rw [HR.out];refine Z0v ?_
  first | (simp_all [Z49];done) | (simp_all [Z49];rfl)
theorem Z7m (a:Z2f) (w:World):Calls Tryz.prog 195 #[.agg #[.string a.var,.int .i64 a.sym.kind,.string a.sym.text,.int .i64 a.sym.n]] w fun e w'=>e = .returned (.bool (Z25 a))∧Below w.heap.size w w':=by
 obtain ⟨r,hr⟩ : ∃r,r=Z25 a:=⟨_,rfl⟩;rw [← hr];have HR:=hid hr;clear hr;have HB:=hid ((Zks w.heap.size w).alloc (Zkt _) (.cells #[.string a.var,.int .i64 a.sym.kind,.string a.sym.text,.int .i64 a.sym.n] 91));go_enter Tryz.func195,Tryz.ntmps195;obtain ⟨W1,hW1⟩ : ∃W1,W1=w.alloc (.cells #[.string a.var,.int .i64 a.sym.kind,.string a.sym.text,.int .i64 a.sym.n] 91):=⟨_,rfl⟩
 go_wp2_with (first
  | (go_at_call 207;refine (Z78 a.sym _).mono ?_;rintro e w9 ⟨rfl,hb9⟩;have HB:=hid (HB.out.trans (hb9.mono HB.out.size));clear hb9)
  | (go_at_call 208;refine (Z3d a.sym _).mono ?_;rintro e w9 ⟨rfl,hb9⟩;have HB:=hid (HB.out.trans (hb9.mono HB.out.size));clear hb9)
  | (go_at_call 98;refine (Z3h a.var _).mono ?_;rintro e w9 ⟨rfl,rfl⟩))
 all_goals
  go_ret;refine ⟨?_,by (first | exact HB.out | (exact (Zks _ _).alloc (Zkt _) _) | (simpa using HB.out))⟩;rw [HR.out];refine Z0v ?_
  first | (simp_all [Z25];done) | (simp_all [Z25];rfl)
theorem Zjz (t:Z5m) (w:World):Calls Tryz.prog 196 #[.agg #[.int .i64 t.op,.string t.a.var,.int .i64 t.a.sym.kind,.string t.a.sym.text,.int .i64 t.a.sym.n,.string t.b.var,.int .i64 t.b.sym.kind,.string t.b.sym.text,.int .i64 t.b.sym.n]] w fun e w'=>e = .returned (.bool (Z2d t))∧Below w.heap.size w w':=by
 by_cases c0:t.op<0;(have t0:decide (t.op<0)=true:=by simp [*]);have HR:=hid (show Z2d t=false by simp [Z2d, *]);clear c0;rotate_left 1;by_cases c1:3<t.op;(have t0:decide (t.op<0)=false:=by simp;omega);(have t1:decide (3<t.op)=true:=by simp [*]);have HR:=hid (show Z2d t=false by simp [Z2d, *]);clear c0 c1;rotate_left 1;by_cases c2:Z25 t.a=false;(have t0:decide (t.op<0)=false:=by simp;omega);(have t1:decide (3<t.op)=false:=by simp;omega);have t2:=c2;have HR:=hid (show Z2d t=false by simp [Z2d, *]);clear c0 c1 c2;rotate_left 1;by_cases c3:t.op=0;(have t0:decide (t.op<0)=false:=by simp;omega);(have t1:decide (3<t.op)=false:=by simp;omega);(have t2:Z25 t.a=true:=by simpa using c2);(have t3:decide (t.op=0)=true:=by simp [*]);(have t3b:(t.op == 0)=true:=by simp [*]);have HR:=hid (show Z2d t=Z2s t.b by simp [Z2d, *]);clear c0 c1 c2 c3;rotate_left 1;by_cases c4:Z25 t.b=false;(have t0:decide (t.op<0)=false:=by simp;omega);(have t1:decide (3<t.op)=false:=by simp;omega);(have t2:Z25 t.a=true:=by simpa using c2);(have t3:decide (t.op=0)=false:=by simp [*]);(have t3b:(t.op == 0)=false:=by simp [*]);have t4:=c4;have HR:=hid (show Z2d t=false by simp [Z2d, *]);clear c0 c1 c2 c3 c4;rotate_left 1;by_cases c5:Z49 t.a=true;(have t0:decide (t.op<0)=false:=by simp;omega);(have t1:decide (3<t.op)=false:=by simp;omega);have t2:Z25 t.a=true:=by simpa using c2
 (have t3:decide (t.op=0)=false:=by simp [*]);(have t3b:(t.op == 0)=false:=by simp [*]);(have t4:Z25 t.b=true:=by simpa using c4);have t5:=c5;have HR:=hid (show Z2d t=false by simp [Z2d, *]);clear c0 c1 c2 c3 c4 c5;rotate_left 1;(have t0:decide (t.op<0)=false:=by simp;omega);(have t1:decide (3<t.op)=false:=by simp;omega);(have t2:Z25 t.a=true:=by simpa using c2);(have t3:decide (t.op=0)=false:=by simp [*]);(have t3b:(t.op == 0)=false:=by simp [*]);(have t4:Z25 t.b=true:=by simpa using c4);(have t5:Z49 t.a=false:=by simpa using c5);have HR:=hid (show Z2d t=(!Z49 t.b) by simp [Z2d, *]);clear c0 c1 c2 c3 c4 c5
 all_goals
  go_enter Tryz.func196,Tryz.ntmps196;(go_upto_region 1 with fail);obtain ⟨W1,hW1⟩ : ∃W1,W1=w.alloc (.cells #[.int .i64 t.op,.string t.a.var,.int .i64 t.a.sym.kind,.string t.a.sym.text,.int .i64 t.a.sym.n,.string t.b.var,.int .i64 t.b.sym.kind,.string t.b.sym.text,.int .i64 t.b.sym.n] 93):=⟨_,rfl⟩;rw [← hW1];(have hBk:Blk W1 w.heap.size 93 #[.int .i64 t.op,.string t.a.var,.int .i64 t.a.sym.kind,.string t.a.sym.text,.int .i64 t.a.sym.n,.string t.b.var,.int .i64 t.b.sym.kind,.string t.b.sym.text,.int .i64 t.b.sym.n]:=by rw [hW1];exact Blk.new _ _ _);have HB:=hid (show Below w.heap.size w W1 by rw [hW1];exact (Zks _ _).alloc (Zkt _) _);have e0:W1.cell? ⟨w.heap.size,0,none⟩=some (.int .i64 t.op):=(hBk.cell 0).trans rfl;have e1:W1.cell? ⟨w.heap.size,1,none⟩=some (.string t.a.var):=(hBk.cell 1).trans rfl;have e2:W1.cell? ⟨w.heap.size,2,none⟩=some (.int .i64 t.a.sym.kind):=(hBk.cell 2).trans rfl;have e3:W1.cell? ⟨w.heap.size,3,none⟩=some (.string t.a.sym.text):=(hBk.cell 3).trans rfl;have e4:W1.cell? ⟨w.heap.size,4,none⟩=some (.int .i64 t.a.sym.n):=(hBk.cell 4).trans rfl;have e5:W1.cell? ⟨w.heap.size,5,none⟩=some (.string t.b.var):=(hBk.cell 5).trans rfl;have e6:W1.cell? ⟨w.heap.size,6,none⟩=some (.int .i64 t.b.sym.kind):=(hBk.cell 6).trans rfl;have e7:W1.cell? ⟨w.heap.size,7,none⟩=some (.string t.b.sym.text):=(hBk.cell 7).trans rfl;have e8:W1.cell? ⟨w.heap.size,8,none⟩=some (.int .i64 t.b.sym.n):=(hBk.cell 8).trans rfl;have hbl:=hBk.lt;clear hW1 hBk
  go_wp2_with (first
   | (go_at_call 198;refine (Zd7 t.b _).mono ?_;rintro e w9 ⟨rfl,hb9⟩;have HB:=hid (HB.out.trans (hb9.mono HB.out.size));replace e0:=(hb9.cell (p:=⟨w.heap.size,0,none⟩) hbl).trans e0;replace e1:=(hb9.cell (p:=⟨w.heap.size,1,none⟩) hbl).trans e1;replace e2:=(hb9.cell (p:=⟨w.heap.size,2,none⟩) hbl).trans e2;replace e3:=(hb9.cell (p:=⟨w.heap.size,3,none⟩) hbl).trans e3;replace e4:=(hb9.cell (p:=⟨w.heap.size,4,none⟩) hbl).trans e4;replace e5:=(hb9.cell (p:=⟨w.heap.size,5,none⟩) hbl).trans e5;replace e6:=(hb9.cell (p:=⟨w.heap.size,6,none⟩) hbl).trans e6;replace e7:=(hb9.cell (p:=⟨w.heap.size,7,none⟩) hbl).trans e7;replace e8:=(hb9.cell (p:=⟨w.heap.size,8,none⟩) hbl).trans e8;replace hbl:=Zkx hbl hb9.size;clear hb9)
   | (go_at_call 195;(first | (with_reducible refine (Z7m t.a _).mono ?_) | (with_reducible refine (Z7m t.b _).mono ?_));rintro e w9 ⟨rfl,hb9⟩;have HB:=hid (HB.out.trans (hb9.mono HB.out.size));replace e0:=(hb9.cell (p:=⟨w.heap.size,0,none⟩) hbl).trans e0;replace e1:=(hb9.cell (p:=⟨w.heap.size,1,none⟩) hbl).trans e1;replace e2:=(hb9.cell (p:=⟨w.heap.size,2,none⟩) hbl).trans e2;replace e3:=(hb9.cell (p:=⟨w.heap.size,3,none⟩) hbl).trans e3;replace e4:=(hb9.cell (p:=⟨w.heap.size,4,none⟩) hbl).trans e4;replace e5:=(hb9.cell (p:=⟨w.heap.size,5,none⟩) hbl).trans e5;replace e6:=(hb9.cell (p:=⟨w.heap.size,6,none⟩) hbl).trans e6;replace e7:=(hb9.cell (p:=⟨w.heap.size,7,none⟩) hbl).trans e7;replace e8:=(hb9.cell (p:=⟨w.heap.size,8,none⟩) hbl).trans e8;replace hbl:=Zkx hbl hb9.size;clear hb9)
   | (go_at_call 209;(first | (with_reducible refine (Zdu t.a _).mono ?_) | (with_reducible refine (Zdu t.b _).mono ?_));rintro e w9 ⟨rfl,hb9⟩;have HB:=hid (HB.out.trans (hb9.mono HB.out.size));replace e0:=(hb9.cell (p:=⟨w.heap.size,0,none⟩) hbl).trans e0;replace e1:=(hb9.cell (p:=⟨w.heap.size,1,none⟩) hbl).trans e1;replace e2:=(hb9.cell (p:=⟨w.heap.size,2,none⟩) hbl).trans e2;replace e3:=(hb9.cell (p:=⟨w.heap.size,3,none⟩) hbl).trans e3;replace e4:=(hb9.cell (p:=⟨w.heap.size,4,none⟩) hbl).trans e4;replace e5:=(hb9.cell (p:=⟨w.heap.size,5,none⟩) hbl).trans e5;replace e6:=(hb9.cell (p:=⟨w.heap.size,6,none⟩) hbl).trans e6;replace e7:=(hb9.cell (p:=⟨w.heap.size,7,none⟩) hbl).trans e7;replace e8:=(hb9.cell (p:=⟨w.heap.size,8,none⟩) hbl).trans e8;replace hbl:=Zkx hbl hb9.size;clear hb9))
  go_ret;exact ⟨by rw [HR.out]<;>rfl,by (first | exact HB.out | (exact (Zks _ _).alloc (Zkt _) _) | (simpa using HB.out))⟩
end
end Go.Proofs.YtfidcfjcmlgkbaaGreat
