/-
  Texts put together: Ref06A, Ref06B, Ref06C.
-/
import Derived.Test.YtfidcfjcmlgkbaaGreatPMn
namespace Go.Proofs.YtfidcfjcmlgkbaaGreat
open Lib (hid)
set_option maxRecDepth 100000
set_option maxHeartbeats 32000000
set_option linter.unusedSimpArgs false
section
open Go.RowKit Go.Shelf
attribute [local go_sem] Oper.semAt_some
theorem Zlv (s:Sym) (W:World):(binOp .eql 38 (.agg #[.int .i64 s.kind,.string s.text,.int .i64 s.n]) (.agg #[.int .i64 0,.string ⟨#[]⟩,.int .i64 0])).run Tryz.prog W = .ok (.bool (Z57 s)) W:=Zdg s zS W
theorem Z9d (s:Sym) (w:World):Calls Tryz.prog 56 #[.agg #[.int .i64 s.kind,.string s.text,.int .i64 s.n]] w fun e w'=>e = .returned (.bool (Z28 s))∧Below w.heap.size w w':=by
 by_cases hk:s.kind=1
 · skip
   (have ka:(s.kind == 1)=true:=by simp [hk]);(have kb:decide (s.kind=1)=true:=by simp [hk]);(have kc:(s.kind != 1)=false:=by simp [hk]);have HK:=hid hk;clear hk;go_enter Tryz.func56,Tryz.ntmps56;(go_upto_region 1 with fail);obtain ⟨w1,hw1⟩:∃w1,w1=(w.alloc (.cells #[.int .i64 s.kind,.string s.text,.int .i64 s.n] 38)):=⟨_,rfl⟩;rw [←hw1];have HB:=hid (show Below w.heap.size w w1 by rw [hw1];exact (by repeat (first|exact Znk _ _|refine Below.drew ?_|refine Below.al ?_ _|refine Below.sc ?_ _)));have Ks:=hid (show Blk w1 (w.heap.size) 38 #[.int .i64 s.kind,.string s.text,.int .i64 s.n] by rw [hw1];exact (Blk.new w 38 #[.int .i64 s.kind,.string s.text,.int .i64 s.n]));clear hw1;obtain ⟨s0,s1,s2⟩:=Ks.out.c3;have sz:=Ks.out.lt;cases hv:Z2i s
   · skip
     have hc:=fun W=>Z7d s W;simp only [hv] at hc;have HCv:=hid hc;clear hc;(go_wp2_with fail);(with_reducible refine (HCv.out _).mono ?_);rintro e w2 ⟨rfl,hb⟩;have hbs:=Below.trans (show Below w1.heap.size w1 _ from (by (repeat (first|exact Znk _ _|refine Below.drew ?_|refine Below.al ?_ _|refine Below.sc ?_ _)))) (hb.mono (by simp<;>omega));have Ks:=hid (Ks.out.new_ hbs);have HB:=hid (HB.out.trans (hbs.mono HB.out.size));have hsz2:=hbs.size;clear s0 s1 s2 sz hb hbs;obtain ⟨s0,s1,s2⟩:=Ks.out.c3;have sz:=Ks.out.lt;have HR:=hid (show Z28 s=false by simp [Z28,HK.out,hv]);(go_wp2_with fail);go_ret;exact ⟨by rw [HR.out]<;>rfl,by (repeat (first|exact Znk _ _|exact HB.out|refine Below.drew ?_|refine Below.al ?_ _|refine Below.sc ?_ _))⟩
   · skip
     have hc:=fun W=>Z7d s W;simp only [hv] at hc;have HCv:=hid hc;clear hc;(go_wp2_with fail);(with_reducible refine (HCv.out _).mono ?_);rintro e w2 ⟨rfl,hb⟩;have hbs:=Below.trans (show Below w1.heap.size w1 _ from (by (repeat (first|exact Znk _ _|refine Below.drew ?_|refine Below.al ?_ _|refine Below.sc ?_ _)))) (hb.mono (by simp<;>omega));have Ks:=hid (Ks.out.new_ hbs);have HB:=hid (HB.out.trans (hbs.mono HB.out.size));have hsz2:=hbs.size;clear s0 s1 s2 sz hb hbs;obtain ⟨s0,s1,s2⟩:=Ks.out.c3;have sz:=Ks.out.lt;have HR:=hid (show Z28 s=false by simp [Z28,HK.out,hv]);(go_wp2_with fail);go_ret;exact ⟨by rw [HR.out]<;>rfl,by (repeat (first|exact Znk _ _|exact HB.out|refine Below.drew ?_|refine Below.al ?_ _|refine Below.sc ?_ _))⟩
 · skip
   (have ka:(s.kind == 1)=false:=by simp [hk]);(have kb:decide (s.kind=1)=false:=by simp [hk]);(have kc:(s.kind != 1)=true:=by simp [hk]);have HK:=hid hk;clear hk;go_enter Tryz.func56,Tryz.ntmps56;(go_upto_region 1 with fail);obtain ⟨w1,hw1⟩:∃w1,w1=(w.alloc (.cells #[.int .i64 s.kind,.string s.text,.int .i64 s.n] 38)):=⟨_,rfl⟩;rw [←hw1];have HB:=hid (show Below w.heap.size w w1 by rw [hw1];exact (by repeat (first|exact Znk _ _|refine Below.drew ?_|refine Below.al ?_ _|refine Below.sc ?_ _)));have Ks:=hid (show Blk w1 (w.heap.size) 38 #[.int .i64 s.kind,.string s.text,.int .i64 s.n] by rw [hw1];exact (Blk.new w 38 #[.int .i64 s.kind,.string s.text,.int .i64 s.n]));clear hw1;obtain ⟨s0,s1,s2⟩:=Ks.out.c3;have sz:=Ks.out.lt;cases hv:Z2i s
   · skip
     have hc:=fun W=>Z7d s W;simp only [hv] at hc;have HCv:=hid hc;clear hc;(go_wp2_with fail);(with_reducible refine (HCv.out _).mono ?_);rintro e w2 ⟨rfl,hb⟩;have hbs:=Below.trans (show Below w1.heap.size w1 _ from (by (repeat (first|exact Znk _ _|refine Below.drew ?_|refine Below.al ?_ _|refine Below.sc ?_ _)))) (hb.mono (by simp<;>omega));have Ks:=hid (Ks.out.new_ hbs);have HB:=hid (HB.out.trans (hbs.mono HB.out.size));have hsz2:=hbs.size;clear s0 s1 s2 sz hb hbs;obtain ⟨s0,s1,s2⟩:=Ks.out.c3;have sz:=Ks.out.lt;have HR:=hid (show Z28 s=false by simp [Z28,HK.out,hv]);(go_wp2_with fail);go_ret;exact ⟨by rw [HR.out]<;>rfl,by (repeat (first|exact Znk _ _|exact HB.out|refine Below.drew ?_|refine Below.al ?_ _|refine Below.sc ?_ _))⟩
   · skip
     have hc:=fun W=>Z7d s W;simp only [hv] at hc;have HCv:=hid hc;clear hc;(go_wp2_with fail);(with_reducible refine (HCv.out _).mono ?_);rintro e w2 ⟨rfl,hb⟩;have hbs:=Below.trans (show Below w1.heap.size w1 _ from (by (repeat (first|exact Znk _ _|refine Below.drew ?_|refine Below.al ?_ _|refine Below.sc ?_ _)))) (hb.mono (by simp<;>omega));have Ks:=hid (Ks.out.new_ hbs);have HB:=hid (HB.out.trans (hbs.mono HB.out.size));have hsz2:=hbs.size;clear s0 s1 s2 sz hb hbs;obtain ⟨s0,s1,s2⟩:=Ks.out.c3;have sz:=Ks.out.lt;have HR:=hid (show Z28 s=true by simp [Z28,HK.out,hv]);(go_wp2_with fail);go_ret;exact ⟨by rw [HR.out]<;>rfl,by (repeat (first|exact Znk _ _|exact HB.out|refine Below.drew ?_|refine Below.al ?_ _|refine Below.sc ?_ _))⟩
theorem Z47 (a:Z2o) (w:World):Calls Tryz.prog 169 #[.agg #[.string a.var,.int .i64 a.sym.kind,.string a.sym.text,.int .i64 a.sym.n]] w fun e w'=>e = .returned (.bool (Z2c a))∧Below w.heap.size w w':=by
 have hq:=Zlv a.sym;by_cases hv:a.var.toList = []
 · skip
   (have va:(a.var.toList == [])=true:=by simp [hv]);(have vb:a.var.toList.isEmpty=true:=by simp [hv]);(have vc:decide (a.var.toList = [])=true:=by simp [hv]);have HV:=hid hv;clear hv;(have vd:(a.var.toList != [])=false:=by simp [HV.out]);go_enter Tryz.func169,Tryz.ntmps169;(go_upto_region 1 with fail);obtain ⟨w1,hw1⟩:∃w1,w1=(w.alloc (.cells #[.string a.var,.int .i64 a.sym.kind,.string a.sym.text,.int .i64 a.sym.n] 91)):=⟨_,rfl⟩;rw [←hw1];have HB:=hid (show Below w.heap.size w w1 by rw [hw1];exact (by repeat (first|exact Znk _ _|refine Below.drew ?_|refine Below.al ?_ _|refine Below.sc ?_ _)));have Ka:=hid (show Blk w1 (w.heap.size) 91 #[.string a.var,.int .i64 a.sym.kind,.string a.sym.text,.int .i64 a.sym.n] by rw [hw1];exact (Blk.new w 91 #[.string a.var,.int .i64 a.sym.kind,.string a.sym.text,.int .i64 a.sym.n]));clear hw1;obtain ⟨a0,a1,a2,a3⟩:=Ka.out.c4;have az:=Ka.out.lt;(go_wp2_with fail);(with_reducible refine (Z9d a.sym _).mono ?_);rintro e w2 ⟨rfl,hb⟩;have hbs:=Below.trans (show Below w1.heap.size w1 _ from (by (repeat (first|exact Znk _ _|refine Below.drew ?_|refine Below.al ?_ _|refine Below.sc ?_ _)))) (hb.mono (by simp<;>omega));have Ka:=hid (Ka.out.new_ hbs);have HB:=hid (HB.out.trans (hbs.mono HB.out.size));have hsz2:=hbs.size;clear a0 a1 a2 a3 az hb hbs;obtain ⟨a0,a1,a2,a3⟩:=Ka.out.c4;have az:=Ka.out.lt;have HR:=hid (show Z2c a=Z28 a.sym by simp [Z2c,HV.out]);(go_wp2_with fail);go_ret;exact ⟨by rw [HR.out]<;>rfl,by (repeat (first|exact Znk _ _|exact HB.out|refine Below.drew ?_|refine Below.al ?_ _|refine Below.sc ?_ _))⟩
 · skip
   (have va:(a.var.toList == [])=false:=by simp [hv]);(have vb:a.var.toList.isEmpty=false:=by simp [hv]);(have vc:decide (a.var.toList = [])=false:=by simp [hv]);have HV:=hid hv;clear hv;(have vd:(a.var.toList != [])=true:=by simp [HV.out]);go_enter Tryz.func169,Tryz.ntmps169;(go_upto_region 1 with fail);obtain ⟨w1,hw1⟩:∃w1,w1=(w.alloc (.cells #[.string a.var,.int .i64 a.sym.kind,.string a.sym.text,.int .i64 a.sym.n] 91)):=⟨_,rfl⟩;rw [←hw1];have HB:=hid (show Below w.heap.size w w1 by rw [hw1];exact (by repeat (first|exact Znk _ _|refine Below.drew ?_|refine Below.al ?_ _|refine Below.sc ?_ _)));have Ka:=hid (show Blk w1 (w.heap.size) 91 #[.string a.var,.int .i64 a.sym.kind,.string a.sym.text,.int .i64 a.sym.n] by rw [hw1];exact (Blk.new w 91 #[.string a.var,.int .i64 a.sym.kind,.string a.sym.text,.int .i64 a.sym.n]));clear hw1;obtain ⟨a0,a1,a2,a3⟩:=Ka.out.c4;have az:=Ka.out.lt;cases hw:Z17 a.var
   · skip
     have hc:=fun W=>Z49 a.var W;simp only [hw] at hc;have HCw:=hid hc;clear hc;(go_wp2_with fail);(with_reducible refine (HCw.out _).mono ?_);rintro e w0 ⟨rfl,rfl⟩;have HR:=hid (show Z2c a=false by simp [Z2c,HV.out,hw]);(go_wp2_with fail);go_ret;exact ⟨by rw [HR.out]<;>rfl,by (repeat (first|exact Znk _ _|exact HB.out|refine Below.drew ?_|refine Below.al ?_ _|refine Below.sc ?_ _))⟩
   · skip
     have hc:=fun W=>Z49 a.var W;simp only [hw] at hc;have HCw:=hid hc;clear hc;(go_wp2_with fail);(with_reducible refine (HCw.out _).mono ?_);rintro e w0 ⟨rfl,rfl⟩;have HR:=hid (show Z2c a=Z57 a.sym by simp [Z2c,HV.out,hw]);(go_wp2_with fail);go_ret;exact ⟨by rw [HR.out]<;>rfl,by (repeat (first|exact Znk _ _|exact HB.out|refine Below.drew ?_|refine Below.al ?_ _|refine Below.sc ?_ _))⟩
theorem Zfi {s:Sym}(h0:s.kind=0) (h1:s.text.toList = []) (h2:s.n=0):s=zS:=Sym.ext' h0 (toList_inj (h1.trans (show ([]:List UInt8)=zS.text.toList by kernel_rfl))) h2
theorem Zge {a:Z2o}(h :¬(a.sym.kind=0∧a.sym.text.toList = []∧a.sym.n=0)):Z2t a=false:=by
 have:a.sym≠zS:=fun e=>h (by rw [e];exact ⟨rfl,by kernel_rfl,rfl⟩);simp [Z2t,Z57,this]
theorem Zjn (a:Z2o) (W:World):(binOp .eql 91 (.agg #[.string a.var,.int .i64 a.sym.kind,.string a.sym.text,.int .i64 a.sym.n]) (.agg #[.string ⟨#[]⟩,.int .i64 0,.string ⟨#[]⟩,.int .i64 0])).run Tryz.prog W = .ok (.bool (Z2t a)) W:=by
 rw [run_eql_struct];go_simp;by_cases e0:a.var.toList = []
 case neg=>rw [show Z2t a=false by simp [Z2t,e0]];simp [e0]
 by_cases e1:a.sym.kind=0
 case neg=>rw [Zge (fun h=>e1 h.1)];simp [e0,e1]
 by_cases e2:a.sym.text.toList = []
 case neg=>rw [Zge (fun h=>e2 h.2.1)];simp [e0,e1,e2]
 by_cases e3:a.sym.n=0
 case neg=>rw [Zge (fun h=>e3 h.2.2)];simp [e0,e1,e2,e3]
 rw [show Z2t a=true by simp [Z2t,Z57,e0,Zfi e1 e2 e3]];simp [e0,e1,e2,e3]
theorem Zia (a:Z2o) (W:World):(binOp .neq 91 (.agg #[.string a.var,.int .i64 a.sym.kind,.string a.sym.text,.int .i64 a.sym.n]) (.agg #[.string ⟨#[]⟩,.int .i64 0,.string ⟨#[]⟩,.int .i64 0])).run Tryz.prog W = .ok (.bool (!Z2t a)) W:=by
 rw [run_neq_struct];go_simp;by_cases e0:a.var.toList = []
 case neg=>rw [show Z2t a=false by simp [Z2t,e0]];simp [e0]
 by_cases e1:a.sym.kind=0
 case neg=>rw [Zge (fun h=>e1 h.1)];simp [e0,e1]
 by_cases e2:a.sym.text.toList = []
 case neg=>rw [Zge (fun h=>e2 h.2.1)];simp [e0,e1,e2]
 by_cases e3:a.sym.n=0
 case neg=>rw [Zge (fun h=>e3 h.2.2)];simp [e0,e1,e2,e3]
 rw [show Z2t a=true by simp [Z2t,Z57,e0,Zfi e1 e2 e3]];simp [e0,e1,e2,e3]
theorem Zbt {a:Z2o}(h:Z2c a=true) (hk:a.sym.kind=3):a.var.toList = []:=by
 by_cases hv:a.var.toList = []
 · exact hv
 · have:a.sym=zS:=by simpa [Z2c,hv,Z57] using (show Z17 a.var=true∧Z57 a.sym=true by simpa [Z2c,hv] using h).2
   rw [this] at hk;exact absurd hk (by decide)
theorem Zim (a:ActT) (w:World):Calls Tryz.prog 127 #[.agg #[.string a.id,.string a.attr.var,.int .i64 a.attr.sym.kind,.string a.attr.sym.text,.int .i64 a.attr.sym.n,.int .i64 a.value.op,.string a.value.a.var,.int .i64 a.value.a.sym.kind,.string a.value.a.sym.text,.int .i64 a.value.a.sym.n,.string a.value.b.var,.int .i64 a.value.b.sym.kind,.string a.value.b.sym.text,.int .i64 a.value.b.sym.n,.int .i64 a.pref,.string a.other.var,.int .i64 a.other.sym.kind,.string a.other.sym.text,.int .i64 a.other.sym.n]] w fun e w'=>e = .returned (.bool (actB a))∧Below w.heap.size w w':=by
 have hq:=Zjn a.other;have hq2:=Zia a.value.b;go_enter Tryz.func127,Tryz.ntmps127;(go_upto_region 1 with fail);obtain ⟨w1,hw1⟩:∃w1,w1=(w.alloc (.cells #[.string a.id,.string a.attr.var,.int .i64 a.attr.sym.kind,.string a.attr.sym.text,.int .i64 a.attr.sym.n,.int .i64 a.value.op,.string a.value.a.var,.int .i64 a.value.a.sym.kind,.string a.value.a.sym.text,.int .i64 a.value.a.sym.n,.string a.value.b.var,.int .i64 a.value.b.sym.kind,.string a.value.b.sym.text,.int .i64 a.value.b.sym.n,.int .i64 a.pref,.string a.other.var,.int .i64 a.other.sym.kind,.string a.other.sym.text,.int .i64 a.other.sym.n] 96)):=⟨_,rfl⟩;rw [←hw1];have HB:=hid (show Below w.heap.size w w1 by rw [hw1];exact (by repeat (first|exact Znk _ _|refine Below.drew ?_|refine Below.al ?_ _|refine Below.sc ?_ _)));have Ka:=hid (show Blk w1 (w.heap.size) 96 #[.string a.id,.string a.attr.var,.int .i64 a.attr.sym.kind,.string a.attr.sym.text,.int .i64 a.attr.sym.n,.int .i64 a.value.op,.string a.value.a.var,.int .i64 a.value.a.sym.kind,.string a.value.a.sym.text,.int .i64 a.value.a.sym.n,.string a.value.b.var,.int .i64 a.value.b.sym.kind,.string a.value.b.sym.text,.int .i64 a.value.b.sym.n,.int .i64 a.pref,.string a.other.var,.int .i64 a.other.sym.kind,.string a.other.sym.text,.int .i64 a.other.sym.n] by rw [hw1];exact (Blk.new w 96 #[.string a.id,.string a.attr.var,.int .i64 a.attr.sym.kind,.string a.attr.sym.text,.int .i64 a.attr.sym.n,.int .i64 a.value.op,.string a.value.a.var,.int .i64 a.value.a.sym.kind,.string a.value.a.sym.text,.int .i64 a.value.a.sym.n,.string a.value.b.var,.int .i64 a.value.b.sym.kind,.string a.value.b.sym.text,.int .i64 a.value.b.sym.n,.int .i64 a.pref,.string a.other.var,.int .i64 a.other.sym.kind,.string a.other.sym.text,.int .i64 a.other.sym.n]));clear hw1;obtain ⟨a0,a1,a2,a3,a4,a5,a6,a7,a8,a9,a10,a11,a12,a13,a14,a15,a16,a17,a18⟩:=Ka.out.c19;have az:=Ka.out.lt;cases hw:Z17 a.id
 · skip
   have hc:=fun W=>Z49 a.id W;simp only [hw] at hc;have HCw:=hid hc;clear hc;(go_wp2_with fail);(with_reducible refine (HCw.out _).mono ?_);rintro e w0 ⟨rfl,rfl⟩;have HR:=hid (show actB a=false by simp [actB,Z2n,Z2m,hw]);(go_wp2_with fail);go_ret;exact ⟨by rw [HR.out]<;>rfl,by (repeat (first|exact Znk _ _|exact HB.out|refine Below.drew ?_|refine Below.al ?_ _|refine Below.sc ?_ _))⟩
 · skip
   have hc:=fun W=>Z49 a.id W;simp only [hw] at hc;have HCw:=hid hc;clear hc;(go_wp2_with fail);(with_reducible refine (HCw.out _).mono ?_);rintro e w0 ⟨rfl,rfl⟩;cases hat:Z2c a.attr
   · skip
     have hc:=fun W=>Z47 a.attr W;simp only [hat] at hc;have HCat:=hid hc;clear hc;(go_wp2_with fail);(with_reducible refine (HCat.out _).mono ?_);rintro e w2 ⟨rfl,hb⟩;have hbs:=Below.trans (show Below w1.heap.size w1 _ from (by (repeat (first|exact Znk _ _|refine Below.drew ?_|refine Below.al ?_ _|refine Below.sc ?_ _)))) (hb.mono (by simp<;>omega));have Ka:=hid (Ka.out.new_ hbs);have HB:=hid (HB.out.trans (hbs.mono HB.out.size));have hsz2:=hbs.size;clear a0 a1 a2 a3 a4 a5 a6 a7 a8 a9 a10 a11 a12 a13 a14 a15 a16 a17 a18 az hb hbs;obtain ⟨a0,a1,a2,a3,a4,a5,a6,a7,a8,a9,a10,a11,a12,a13,a14,a15,a16,a17,a18⟩:=Ka.out.c19;have az:=Ka.out.lt;have HR:=hid (show actB a=false by simp [actB,Z2n,Z2m,hw,hat]);(go_wp2_with fail);go_ret;exact ⟨by rw [HR.out]<;>rfl,by (repeat (first|exact Znk _ _|exact HB.out|refine Below.drew ?_|refine Below.al ?_ _|refine Below.sc ?_ _))⟩
   · skip
     have hc:=fun W=>Z47 a.attr W;simp only [hat] at hc;have HCat:=hid hc;clear hc;(go_wp2_with fail);(with_reducible refine (HCat.out _).mono ?_);rintro e w2 ⟨rfl,hb⟩;have hbs:=Below.trans (show Below w1.heap.size w1 _ from (by (repeat (first|exact Znk _ _|refine Below.drew ?_|refine Below.al ?_ _|refine Below.sc ?_ _)))) (hb.mono (by simp<;>omega));have Ka:=hid (Ka.out.new_ hbs);have HB:=hid (HB.out.trans (hbs.mono HB.out.size));have hsz2:=hbs.size;clear a0 a1 a2 a3 a4 a5 a6 a7 a8 a9 a10 a11 a12 a13 a14 a15 a16 a17 a18 az hb hbs;obtain ⟨a0,a1,a2,a3,a4,a5,a6,a7,a8,a9,a10,a11,a12,a13,a14,a15,a16,a17,a18⟩:=Ka.out.c19;have az:=Ka.out.lt;cases hva:Z2c a.value.a
     · skip
       have hc:=fun W=>Z47 a.value.a W;simp only [hva] at hc;have HCva:=hid hc;clear hc;(go_wp2_with fail);(with_reducible refine (HCva.out _).mono ?_);rintro e w3 ⟨rfl,hb⟩;have hbs:=Below.trans (show Below w2.heap.size w2 _ from (by (repeat (first|exact Znk _ _|refine Below.drew ?_|refine Below.al ?_ _|refine Below.sc ?_ _)))) (hb.mono (by simp<;>omega));have Ka:=hid (Ka.out.new_ hbs);have HB:=hid (HB.out.trans (hbs.mono HB.out.size));have hsz3:=hbs.size;clear a0 a1 a2 a3 a4 a5 a6 a7 a8 a9 a10 a11 a12 a13 a14 a15 a16 a17 a18 az hb hbs;obtain ⟨a0,a1,a2,a3,a4,a5,a6,a7,a8,a9,a10,a11,a12,a13,a14,a15,a16,a17,a18⟩:=Ka.out.c19;have az:=Ka.out.lt;have HR:=hid (show actB a=false by simp [actB,Z2n,Z2m,hw,hat,hva]);(go_wp2_with fail);go_ret;exact ⟨by rw [HR.out]<;>rfl,by (repeat (first|exact Znk _ _|exact HB.out|refine Below.drew ?_|refine Below.al ?_ _|refine Below.sc ?_ _))⟩
     · skip
       have hc:=fun W=>Z47 a.value.a W;simp only [hva] at hc;have HCva:=hid hc;clear hc;(go_wp2_with fail);(with_reducible refine (HCva.out _).mono ?_);rintro e w3 ⟨rfl,hb⟩;have hbs:=Below.trans (show Below w2.heap.size w2 _ from (by (repeat (first|exact Znk _ _|refine Below.drew ?_|refine Below.al ?_ _|refine Below.sc ?_ _)))) (hb.mono (by simp<;>omega));have Ka:=hid (Ka.out.new_ hbs);have HB:=hid (HB.out.trans (hbs.mono HB.out.size));have hsz3:=hbs.size;clear a0 a1 a2 a3 a4 a5 a6 a7 a8 a9 a10 a11 a12 a13 a14 a15 a16 a17 a18 az hb hbs;obtain ⟨a0,a1,a2,a3,a4,a5,a6,a7,a8,a9,a10,a11,a12,a13,a14,a15,a16,a17,a18⟩:=Ka.out.c19;have az:=Ka.out.lt;by_cases hol:a.value.op<0
       · skip
         have o0:decide (a.value.op<0)=true:=Zno hol;have Hol:=hid hol;clear hol;have HR:=hid (show actB a=false by simp [actB,Z2n,Z2m,hw,hat,hva,Hol.out]);(go_wp2_with fail);go_ret;exact ⟨by rw [HR.out]<;>rfl,by (repeat (first|exact Znk _ _|exact HB.out|refine Below.drew ?_|refine Below.al ?_ _|refine Below.sc ?_ _))⟩
       · skip
         have o0:decide (a.value.op<0)=false:=Znm hol;have Hol:=hid hol;clear hol;by_cases hoh:3<a.value.op
         · skip
           have o1:decide (3<a.value.op)=true:=Zno hoh;have Hoh:=hid hoh;clear hoh;have HR:=hid (show actB a=false by simp [actB,Z2n,Z2m,hw,hat,hva,Hol.out,Hoh.out]);(go_wp2_with fail);go_ret;exact ⟨by rw [HR.out]<;>rfl,by (repeat (first|exact Znk _ _|exact HB.out|refine Below.drew ?_|refine Below.al ?_ _|refine Below.sc ?_ _))⟩
         · skip
           have o1:decide (3<a.value.op)=false:=Znm hoh;have Hoh:=hid hoh;clear hoh;by_cases hpl:a.pref<1
           · skip
             have p0:decide (a.pref<1)=true:=Zno hpl;have Hpl:=hid hpl;clear hpl;have HR:=hid (show actB a=false by simp [actB,Z2n,Z2m,hw,hat,hva,Hol.out,Hoh.out,Hpl.out]);(go_wp2_with fail);go_ret;exact ⟨by rw [HR.out]<;>rfl,by (repeat (first|exact Znk _ _|exact HB.out|refine Below.drew ?_|refine Below.al ?_ _|refine Below.sc ?_ _))⟩
           · skip
             have p0:decide (a.pref<1)=false:=Znm hpl;have Hpl:=hid hpl;clear hpl;by_cases hph:10<a.pref
             · skip
               have p1:decide (10<a.pref)=true:=Zno hph;have Hph:=hid hph;clear hph;have HR:=hid (show actB a=false by simp [actB,Z2n,Z2m,hw,hat,hva,Hol.out,Hoh.out,Hpl.out,Hph.out]);(go_wp2_with fail);go_ret;exact ⟨by rw [HR.out]<;>rfl,by (repeat (first|exact Znk _ _|exact HB.out|refine Below.drew ?_|refine Below.al ?_ _|refine Below.sc ?_ _))⟩
             · skip
               have p1:decide (10<a.pref)=false:=Znm hph;have Hph:=hid hph;clear hph;by_cases hop:a.value.op=0
               · skip
                 (have oa:(a.value.op == 0)=true:=by simp [hop]);(have ob:decide (a.value.op=0)=true:=by simp [hop]);have HOP:=hid hop;clear hop;cases he:Z2t a.value.b
                 · skip
                   simp only [he] at hq2;have HE:=hid he;clear he;have HR:=hid (show actB a=false by simp [actB,Z2n,Z2m,hw,hat,hva,Hol.out,Hoh.out,Hpl.out,Hph.out,HOP.out,HE.out]);(go_wp2_with fail);go_ret;exact ⟨by rw [HR.out]<;>rfl,by (repeat (first|exact Znk _ _|exact HB.out|refine Below.drew ?_|refine Below.al ?_ _|refine Below.sc ?_ _))⟩
                 · skip
                   simp only [he] at hq2;have HE:=hid he;clear he;by_cases hb:8≤a.pref
                   · skip
                     have b0:decide (8≤a.pref)=true:=Zno hb;(have hz:a.pref=8∨a.pref=9∨a.pref=10:=by have:=Hpl.out;have:=Hph.out;omega);have HO:=hid (show Z2m a.pref=true by rcases hz with h|h|h<;>simp [Z2m,h]);clear hb hz;(go_wp2_with fail);(with_reducible refine (Z47 a.other _).mono ?_);rintro e w4 ⟨rfl,hb⟩;have hbs:=Below.trans (show Below w3.heap.size w3 _ from (by (repeat (first|exact Znk _ _|refine Below.drew ?_|refine Below.al ?_ _|refine Below.sc ?_ _)))) (hb.mono (by simp<;>omega));have Ka:=hid (Ka.out.new_ hbs);have HB:=hid (HB.out.trans (hbs.mono HB.out.size));have hsz4:=hbs.size;clear a0 a1 a2 a3 a4 a5 a6 a7 a8 a9 a10 a11 a12 a13 a14 a15 a16 a17 a18 az hb hbs;obtain ⟨a0,a1,a2,a3,a4,a5,a6,a7,a8,a9,a10,a11,a12,a13,a14,a15,a16,a17,a18⟩:=Ka.out.c19;have az:=Ka.out.lt;have HR:=hid (show actB a=Z2c a.other by simp [actB,Z2n,hw,hat,hva,Hol.out,Hoh.out,Hpl.out,Hph.out,HOP.out,HE.out,HO.out]);(go_wp2_with fail);go_ret;exact ⟨by rw [HR.out]<;>rfl,by (repeat (first|exact Znk _ _|exact HB.out|refine Below.drew ?_|refine Below.al ?_ _|refine Below.sc ?_ _))⟩
                   · skip
                     have b0:decide (8≤a.pref)=false:=Znm hb;have HO:=hid (show Z2m a.pref=false by simp [Z2m];omega);clear hb;have HR:=hid (show actB a=Z2t a.other by simp [actB,Z2n,hw,hat,hva,Hol.out,Hoh.out,Hpl.out,Hph.out,HOP.out,HE.out,HO.out]);(go_wp2_with fail);go_ret;exact ⟨by rw [HR.out]<;>rfl,by (repeat (first|exact Znk _ _|exact HB.out|refine Below.drew ?_|refine Below.al ?_ _|refine Below.sc ?_ _))⟩
               · skip
                 (have oa:(a.value.op == 0)=false:=by simp [hop]);(have ob:decide (a.value.op=0)=false:=by simp [hop]);have HOP:=hid hop;clear hop;cases hvb:Z2c a.value.b
                 · skip
                   have hc:=fun W=>Z47 a.value.b W;simp only [hvb] at hc;have HCvb:=hid hc;clear hc;(go_wp2_with fail);(with_reducible refine (HCvb.out _).mono ?_);rintro e w4 ⟨rfl,hb⟩;have hbs:=Below.trans (show Below w3.heap.size w3 _ from (by (repeat (first|exact Znk _ _|refine Below.drew ?_|refine Below.al ?_ _|refine Below.sc ?_ _)))) (hb.mono (by simp<;>omega));have Ka:=hid (Ka.out.new_ hbs);have HB:=hid (HB.out.trans (hbs.mono HB.out.size));have hsz4:=hbs.size;clear a0 a1 a2 a3 a4 a5 a6 a7 a8 a9 a10 a11 a12 a13 a14 a15 a16 a17 a18 az hb hbs;obtain ⟨a0,a1,a2,a3,a4,a5,a6,a7,a8,a9,a10,a11,a12,a13,a14,a15,a16,a17,a18⟩:=Ka.out.c19;have az:=Ka.out.lt;have HR:=hid (show actB a=false by simp [actB,Z2n,Z2m,hw,hat,hva,Hol.out,Hoh.out,Hpl.out,Hph.out,HOP.out,Z4v,hvb]);(go_wp2_with fail);go_ret;exact ⟨by rw [HR.out]<;>rfl,by (repeat (first|exact Znk _ _|exact HB.out|refine Below.drew ?_|refine Below.al ?_ _|refine Below.sc ?_ _))⟩
                 · skip
                   have hc:=fun W=>Z47 a.value.b W;simp only [hvb] at hc;have HCvb:=hid hc;clear hc;(go_wp2_with fail);(with_reducible refine (HCvb.out _).mono ?_);rintro e w4 ⟨rfl,hb⟩;have hbs:=Below.trans (show Below w3.heap.size w3 _ from (by (repeat (first|exact Znk _ _|refine Below.drew ?_|refine Below.al ?_ _|refine Below.sc ?_ _)))) (hb.mono (by simp<;>omega));have Ka:=hid (Ka.out.new_ hbs);have HB:=hid (HB.out.trans (hbs.mono HB.out.size));have hsz4:=hbs.size;clear a0 a1 a2 a3 a4 a5 a6 a7 a8 a9 a10 a11 a12 a13 a14 a15 a16 a17 a18 az hb hbs;obtain ⟨a0,a1,a2,a3,a4,a5,a6,a7,a8,a9,a10,a11,a12,a13,a14,a15,a16,a17,a18⟩:=Ka.out.c19;have az:=Ka.out.lt;by_cases ha3:a.value.a.sym.kind=3
                   · skip
                     (have ka:(a.value.a.sym.kind == 3)=true:=by simp [ha3]);(have kb:decide (a.value.a.sym.kind=3)=true:=by simp [ha3]);have HA3:=hid (Zbt hva ha3);have HK3:=hid ha3;clear ha3;have HR:=hid (show actB a=false by simp [actB,Z2n,Z2m,hw,hat,hva,Hol.out,Hoh.out,Hpl.out,Hph.out,HOP.out,Z4v,hvb,HA3.out,HK3.out]);(go_wp2_with fail);go_ret;exact ⟨by rw [HR.out]<;>rfl,by (repeat (first|exact Znk _ _|exact HB.out|refine Below.drew ?_|refine Below.al ?_ _|refine Below.sc ?_ _))⟩
                   · skip
                     (have ka:(a.value.a.sym.kind == 3)=false:=by simp [ha3]);(have kb:decide (a.value.a.sym.kind=3)=false:=by simp [ha3]);have HA3:=hid ha3;clear ha3;by_cases hb3:a.value.b.sym.kind=3
                     · skip
                       (have ma:(a.value.b.sym.kind == 3)=true:=by simp [hb3]);(have mb:decide (a.value.b.sym.kind=3)=true:=by simp [hb3]);have HB3:=hid (Zbt hvb hb3);have HM3:=hid hb3;clear hb3;have HR:=hid (show actB a=false by simp [actB,Z2n,Z2m,hw,hat,hva,Hol.out,Hoh.out,Hpl.out,Hph.out,HOP.out,Z4v,hvb,HA3.out,HB3.out,HM3.out]);(go_wp2_with fail);go_ret;exact ⟨by rw [HR.out]<;>rfl,by (repeat (first|exact Znk _ _|exact HB.out|refine Below.drew ?_|refine Below.al ?_ _|refine Below.sc ?_ _))⟩
                     · skip
                       (have ma:(a.value.b.sym.kind == 3)=false:=by simp [hb3]);(have mb:decide (a.value.b.sym.kind=3)=false:=by simp [hb3]);have HB3:=hid hb3;clear hb3;by_cases hb:8≤a.pref
                       · skip
                         have b0:decide (8≤a.pref)=true:=Zno hb;(have hz:a.pref=8∨a.pref=9∨a.pref=10:=by have:=Hpl.out;have:=Hph.out;omega);have HO:=hid (show Z2m a.pref=true by rcases hz with h|h|h<;>simp [Z2m,h]);clear hb hz;(go_wp2_with fail);(with_reducible refine (Z47 a.other _).mono ?_);rintro e w5 ⟨rfl,hb⟩;have hbs:=Below.trans (show Below w4.heap.size w4 _ from (by (repeat (first|exact Znk _ _|refine Below.drew ?_|refine Below.al ?_ _|refine Below.sc ?_ _)))) (hb.mono (by simp<;>omega));have Ka:=hid (Ka.out.new_ hbs);have HB:=hid (HB.out.trans (hbs.mono HB.out.size));have hsz5:=hbs.size;clear a0 a1 a2 a3 a4 a5 a6 a7 a8 a9 a10 a11 a12 a13 a14 a15 a16 a17 a18 az hb hbs;obtain ⟨a0,a1,a2,a3,a4,a5,a6,a7,a8,a9,a10,a11,a12,a13,a14,a15,a16,a17,a18⟩:=Ka.out.c19;have az:=Ka.out.lt;have HR:=hid (show actB a=Z2c a.other by simp [actB,Z2n,hw,hat,hva,Hol.out,Hoh.out,Hpl.out,Hph.out,HOP.out,Z4v,hvb,HA3.out,HB3.out,HO.out]);(go_wp2_with fail);go_ret;exact ⟨by rw [HR.out]<;>rfl,by (repeat (first|exact Znk _ _|exact HB.out|refine Below.drew ?_|refine Below.al ?_ _|refine Below.sc ?_ _))⟩
                       · skip
                         have b0:decide (8≤a.pref)=false:=Znm hb;have HO:=hid (show Z2m a.pref=false by simp [Z2m];omega);clear hb;have HR:=hid (show actB a=Z2t a.other by simp [actB,Z2n,hw,hat,hva,Hol.out,Hoh.out,Hpl.out,Hph.out,HOP.out,Z4v,hvb,HA3.out,HB3.out,HO.out]);(go_wp2_with fail);go_ret;exact ⟨by rw [HR.out]<;>rfl,by (repeat (first|exact Znk _ _|exact HB.out|refine Below.drew ?_|refine Below.al ?_ _|refine Below.sc ?_ _))⟩
theorem Zl1 (t:Z1r) (A:Option Addr) (c:Nat) (w:World) (hrd:Z0z w 3 Sym.cells A c t.list):Calls Tryz.prog 205 #[.agg #[.int .i64 t.rel,.string t.var,.int .i64 t.sym.kind,.string t.sym.text,.int .i64 t.sym.n,.slice A t.list.length c]] w fun e w'=>e = .returned (.bool (Z1a t))∧Below w.heap.size w w':=by
 have HRD:=hid hrd;have hlc:=hrd.cap;clear hrd;have hq :∀W:World,(binOp .neq 38 (.agg #[.int .i64 t.sym.kind,.string t.sym.text,.int .i64 t.sym.n]) (.agg #[.int .i64 0,.string ⟨#[]⟩,.int .i64 0])).run Tryz.prog W = .ok (.bool (!Z57 t.sym)) W:=fun W=>Zi8 t.sym zS W;go_enter Tryz.func205,Tryz.ntmps205;(go_upto_region 1 with fail);obtain ⟨w1,hw1⟩:∃w1,w1=(w.alloc (.cells #[.int .i64 t.rel,.string t.var,.int .i64 t.sym.kind,.string t.sym.text,.int .i64 t.sym.n,.slice A t.list.length c] 138)):=⟨_,rfl⟩;rw [←hw1];have HB:=hid (show Below w.heap.size w w1 by rw [hw1];exact (by repeat (first|exact Znk _ _|refine Below.drew ?_|refine Below.al ?_ _|refine Below.sc ?_ _)));have Kt:=hid (show Blk w1 (w.heap.size) 138 #[.int .i64 t.rel,.string t.var,.int .i64 t.sym.kind,.string t.sym.text,.int .i64 t.sym.n,.slice A t.list.length c] by rw [hw1];exact (Blk.new w 138 #[.int .i64 t.rel,.string t.var,.int .i64 t.sym.kind,.string t.sym.text,.int .i64 t.sym.n,.slice A t.list.length c]));clear hw1;obtain ⟨t0,t1,t2,t3,t4,t5⟩:=Kt.out.c6;have tz:=Kt.out.lt;by_cases h8:t.rel=8
 · skip
   (have ra:(t.rel == 8)=true:=by simp [h8]);(have rb:decide (t.rel=8)=true:=by simp [h8]);have H8:=hid h8;clear h8;by_cases hv:t.var.toList = []
   · skip
     (have vva:(t.var.toList == [])=true:=by simp [hv]);(have vvb:t.var.toList.isEmpty=true:=by simp [hv]);(have vvc:decide (t.var.toList = [])=true:=by simp [hv]);(have vvd:(t.var.toList != [])=false:=by simp [hv]);have Hv:=hid hv;clear hv;cases hn:Z57 t.sym
     · skip
       simp only [hn] at hq;have HR:=hid (show Z1a t=false by simp [Z1a,H8.out,Hv.out,hn]);(go_wp2_with fail);go_ret;exact ⟨by rw [HR.out]<;>rfl,by (repeat (first|exact Znk _ _|exact HB.out|refine Below.drew ?_|refine Below.al ?_ _|refine Below.sc ?_ _))⟩
     · skip
       simp only [hn] at hq;have HN:=hid hn;clear hn;by_cases hl:t.list.length<1
       · skip
         have l0:decide ((t.list.length:Int)<1)=true:=Zno (by omega);have Hl:=hid hl;clear hl;(have hl1:t.list.length=0:=by have:=Hl.out;omega);have HL1:=hid hl1;clear hl1;have HR:=hid (show Z1a t=false by simp [Z1a,H8.out,Hv.out,HN.out,Hl.out,HL1.out]);(go_wp2_with fail);go_ret;exact ⟨by rw [HR.out]<;>rfl,by (repeat (first|exact Znk _ _|exact HB.out|refine Below.drew ?_|refine Below.al ?_ _|refine Below.sc ?_ _))⟩
       · skip
         have l0:decide ((t.list.length:Int)<1)=false:=Znm (by omega);have Hl:=hid hl;clear hl;by_cases hm:8<t.list.length
         · skip
           have m0:decide ((8:Int)<(t.list.length:Int))=true:=Zno (by omega);have Hm:=hid hm;clear hm;have HL1:=hid (show ¬t.list.length≤8 by have:=Hm.out;omega);have HR:=hid (show Z1a t=false by simp [Z1a,H8.out,Hv.out,HN.out,Hl.out,Hm.out,HL1.out]);(go_wp2_with fail);go_ret;exact ⟨by rw [HR.out]<;>rfl,by (repeat (first|exact Znk _ _|exact HB.out|refine Below.drew ?_|refine Below.al ?_ _|refine Below.sc ?_ _))⟩
         · skip
           have m0:decide ((8:Int)<(t.list.length:Int))=false:=Znm (by omega);have Hm:=hid hm;clear hm
           have HR:=hid (show Z1a t=t.list.all Z28 by
            have:=Hl.out;have:=Hm.out
            simp [Z1a,H8.out,Hv.out,HN.out,show 1≤t.list.length by omega,show t.list.length≤8 by omega])
           clear t0 t1 t2 t3 t4 t5 tz;obtain ⟨t0,t1,t2,t3,t4,t5⟩:=Kt.out.c6;have tz:=Kt.out.lt;(go_wp2_with fail);clear t0 t1 t2 t3 t4 t5 tz
           go_loopw [3] (fun s wr=>∃i:Nat,s = .int .i64 i∧i≤t.list.length∧(∀k,(h:k<t.list.length)→k<i→Z28 t.list[k]=true)∧Below w.heap.size w wr∧Blk wr (w.heap.size) 138 #[.int .i64 t.rel,.string t.var,.int .i64 t.sym.kind,.string t.sym.text,.int .i64 t.sym.n,.slice A t.list.length c]) (fun s wr=>t.list.length - (intOf s).toNat)
           case atStart=>exact ⟨0,rfl,Nat.zero_le _,fun k _ h=>absurd h (by omega),HB.out,Kt.out⟩
           case round=>
            obtain ⟨i,rfl,hi,hall,hB,hK⟩:=hrel;have HALL:=hid hall;have HB:=hid hB;have Kt:=hid hK;clear hall hB hK;obtain ⟨t0,t1,t2,t3,t4,t5⟩:=Kt.out.c6;have tz:=Kt.out.lt;by_cases hlt:i<t.list.length
            · skip
              obtain ⟨y,hy⟩:∃y,y=t.list[i]:=⟨_,rfl⟩;obtain ⟨g,off,rfl,hg,q0,q1,q2⟩:=Zlf (HRD.out.new_ HB.out) hlt;rw [←hy] at q0 q1 q2;have HY:=hid hy;(have b1:(0:Int)≤(i:Int):=by omega);(have b2:(i:Int)<(t.list.length:Int):=by omega);clear hy;cases hcb:Z28 y
              · skip
                have hc:=fun W=>Z9d y W;simp only [hcb] at hc;have HCcb:=hid hc;clear hc;(go_wp2_with fail);(with_reducible refine (HCcb.out _).mono ?_);rintro e w2 ⟨rfl,hb⟩;have hbs:=Below.trans (show Below wr.heap.size wr _ from (by (repeat (first|exact Znk _ _|refine Below.drew ?_|refine Below.al ?_ _|refine Below.sc ?_ _)))) (hb.mono (by simp<;>omega));have Kt:=hid (Kt.out.new_ hbs);have HB:=hid (HB.out.trans (hbs.mono HB.out.size));have hsz2:=hbs.size;clear t0 t1 t2 t3 t4 t5 tz hb hbs;obtain ⟨t0,t1,t2,t3,t4,t5⟩:=Kt.out.c6;have tz:=Kt.out.lt;have HRf:=hid (show t.list.all Z28=false from List.all_eq_false.2 ⟨y,by rw [HY.out];exact Zo8 hlt,by rw [hcb];simp⟩);clear hcb q0 q1 q2;(go_wp2_with fail);go_ret;exact ⟨by rw [HR.out,HRf.out]<;>rfl,by (repeat (first|exact Znk _ _|exact HB.out|refine Below.drew ?_|refine Below.al ?_ _|refine Below.sc ?_ _))⟩
              · skip
                have hc:=fun W=>Z9d y W;simp only [hcb] at hc;have HCcb:=hid hc;clear hc;(go_wp2_with fail);(with_reducible refine (HCcb.out _).mono ?_);rintro e w2 ⟨rfl,hb⟩;have hbs:=Below.trans (show Below wr.heap.size wr _ from (by (repeat (first|exact Znk _ _|refine Below.drew ?_|refine Below.al ?_ _|refine Below.sc ?_ _)))) (hb.mono (by simp<;>omega));have Kt:=hid (Kt.out.new_ hbs);have HB:=hid (HB.out.trans (hbs.mono HB.out.size));have hsz2:=hbs.size;clear t0 t1 t2 t3 t4 t5 tz hb hbs;obtain ⟨t0,t1,t2,t3,t4,t5⟩:=Kt.out.c6;have tz:=Kt.out.lt;have HCB:=hid hcb;clear hcb q0 q1 q2;(go_wp2_with fail);go_roundw
                case rel=>exact ⟨i+1,by go_num,by omega,fun k hk hki=>by
                 by_cases e:k=i
                 · subst e;rw [←HY.out];exact HCB.out
                 · exact HALL.out k hk (by omega),HB.out,Kt.out⟩
                case measure=>simp [intOf]<;>omega
            · skip
              obtain rfl:i=t.list.length:=by omega
              have HRt:=hid (show t.list.all Z28=true from Zow.2 (fun x hx=>by
               obtain ⟨k,hk,rfl⟩:=List.getElem_of_mem hx
               exact HALL.out k hk hk))
              (go_wp2_with fail);go_ret;exact ⟨by rw [HR.out,HRt.out]<;>rfl,by (repeat (first|exact Znk _ _|exact HB.out|refine Below.drew ?_|refine Below.al ?_ _|refine Below.sc ?_ _))⟩
   · skip
     (have vva:(t.var.toList == [])=false:=by simp [hv]);(have vvb:t.var.toList.isEmpty=false:=by simp [hv]);(have vvc:decide (t.var.toList = [])=false:=by simp [hv]);(have vvd:(t.var.toList != [])=true:=by simp [hv]);have Hv:=hid hv;clear hv;have HR:=hid (show Z1a t=false by simp [Z1a,H8.out,Hv.out]);(go_wp2_with fail);go_ret;exact ⟨by rw [HR.out]<;>rfl,by (repeat (first|exact Znk _ _|exact HB.out|refine Below.drew ?_|refine Below.al ?_ _|refine Below.sc ?_ _))⟩
 · skip
   (have ra:(t.rel == 8)=false:=by simp [h8]);(have rb:decide (t.rel=8)=false:=by simp [h8]);have H8:=hid h8;clear h8;by_cases ha:t.rel<1
   · skip
     have a0:decide (1≤t.rel)=false:=Znm (by omega);have Ha:=hid ha;clear ha;have HR:=hid (show Z1a t=false by simp [Z1a,H8.out,Ha.out]);(go_wp2_with fail);go_ret;exact ⟨by rw [HR.out]<;>rfl,by (repeat (first|exact Znk _ _|exact HB.out|refine Below.drew ?_|refine Below.al ?_ _|refine Below.sc ?_ _))⟩
   · skip
     have a0:decide (1≤t.rel)=true:=Zno (by omega);have Ha:=hid ha;clear ha;by_cases hb:7<t.rel
     · skip
       have b0:decide (t.rel≤7)=false:=Znm (by omega);have Hb:=hid hb;clear hb;have HR:=hid (show Z1a t=false by simp [Z1a,H8.out,Ha.out,Hb.out]);(go_wp2_with fail);go_ret;exact ⟨by rw [HR.out]<;>rfl,by (repeat (first|exact Znk _ _|exact HB.out|refine Below.drew ?_|refine Below.al ?_ _|refine Below.sc ?_ _))⟩
     · skip
       have b0:decide (t.rel≤7)=true:=Zno (by omega);have Hb:=hid hb;clear hb;by_cases hl:t.list.length=0
       · skip
         (have lz:((t.list.length:Int) == 0)=true:=by rw [beq_iff_eq];omega);have ly:decide ((t.list.length:Int)=0)=true:=Zno (by omega);have Hl:=hid hl;clear hl;have HS:=hid (show Z1a t=Z2c ⟨t.var,t.sym⟩ by simp [Z1a,Z2c,H8.out,Ha.out,Hb.out,Hl.out]);(go_wp2_with fail);(with_reducible refine (Z47 ⟨t.var,t.sym⟩ _).mono ?_);rintro e w2 ⟨rfl,hb⟩;have hbs:=Below.trans (show Below w1.heap.size w1 _ from (by (repeat (first|exact Znk _ _|refine Below.drew ?_|refine Below.al ?_ _|refine Below.sc ?_ _)))) (hb.mono (by simp<;>omega));have Kt:=hid (Kt.out.new_ hbs);have HB:=hid (HB.out.trans (hbs.mono HB.out.size));have hsz2:=hbs.size;clear t0 t1 t2 t3 t4 t5 tz hb hbs;obtain ⟨t0,t1,t2,t3,t4,t5⟩:=Kt.out.c6;have tz:=Kt.out.lt;(go_wp2_with fail);go_ret;exact ⟨by rw [HS.out]<;>rfl,by (repeat (first|exact Znk _ _|exact HB.out|refine Below.drew ?_|refine Below.al ?_ _|refine Below.sc ?_ _))⟩
       · skip
         (have lz:((t.list.length:Int) == 0)=false:=by rw [beq_eq_false_iff_ne];omega);have ly:decide ((t.list.length:Int)=0)=false:=Znm (by omega);have Hl:=hid hl;clear hl;have HL1:=hid (show 0<t.list.length by have:=Hl.out;omega);have HR:=hid (show Z1a t=false by simp [Z1a,H8.out,Ha.out,Hb.out,HL1.out]);(go_wp2_with fail);go_ret;exact ⟨by rw [HR.out]<;>rfl,by (repeat (first|exact Znk _ _|exact HB.out|refine Below.drew ?_|refine Below.al ?_ _|refine Below.sc ?_ _))⟩
theorem Z7c {D:Nat→Prop}(A:Option Addr) (c:Nat) (l:List Z1r) (w:World) (h:RowR Z03 D w A c l):Calls Tryz.prog 191 #[.slice A l.length c] w fun e w'=>e = .returned (.bool (l.all Z1a))∧Below w.heap.size w w':=by
 have HR:=hid h;have hlc:=h.cap;clear h;go_enter Tryz.func191,Tryz.ntmps191;go_wp2_with fail
 go_loopw [3] (fun s wr=>∃i:Nat,s = .int .i64 i∧i≤l.length∧(∀k,(h:k<l.length)→k<i→Z1a l[k]=true)∧Below w.heap.size w wr) (fun s wr=>l.length - (intOf s).toNat)
 case atStart=>exact ⟨0,rfl,Nat.zero_le _,fun k _ h=>absurd h (by omega),Znk _ _⟩
 case round=>
  obtain ⟨i,rfl,hi,hall,hB⟩:=hrel;have HALL:=hid hall;have HB:=hid hB;clear hall hB;by_cases hlt:i<l.length
  · obtain ⟨y,hy⟩:∃y,y=l[i]:=⟨_,rfl⟩
    obtain ⟨g,off,A1,c1,rfl,_,hg,q0,q1,q2,q3,q4,q5,hrow⟩:=Z2w (HR.out.new_ HB.out) hlt;rw [←hy] at q0 q1 q2 q3 q4 q5 hrow;have HROW:=hid (show Z0z wr 3 Sym.cells A1 c1 y.list from RowR.rd (hs:=Sym.cells_length) hrow);have HY:=hid hy;(have b1:(0:Int)≤(i:Int):=by omega);(have b2:(i:Int)<(l.length:Int):=by omega);have hzr:=HB.out.size;clear hy hrow;(go_wp2_with fail);refine (Zl1 y A1 c1 _ (HROW.out.new_ (by (repeat (first|exact Znk _ _|refine Below.drew ?_|refine Below.al ?_ _|refine Below.sc ?_ _))))).mono ?_;rintro e w9 ⟨rfl,hb9⟩;have HB9:=hid (HB.out.trans ((Below.trans (show Below wr.heap.size wr _ from (by (repeat (first|exact Znk _ _|refine Below.drew ?_|refine Below.al ?_ _|refine Below.sc ?_ _)))) (hb9.mono (by simp)):Below wr.heap.size wr w9).mono hzr));clear hb9 q0 q1 q2 q3 q4 q5;cases hcb:Z1a y
    · have HRf:=hid (show l.all Z1a=false from List.all_eq_false.2 ⟨y,by rw [HY.out];exact Zo8 hlt,by rw [hcb];simp⟩)
      clear hcb;(go_wp2_with fail);go_ret;exact ⟨by rw [HRf.out]<;>rfl,HB9.out⟩
    · have HCB:=hid hcb
      clear hcb;(go_wp2_with fail);go_roundw
      case rel=>exact ⟨i+1,by go_num,by omega,fun k hk hki=>by
       by_cases e:k=i
       · subst e;rw [←HY.out];exact HCB.out
       · exact HALL.out k hk (by omega),HB9.out⟩
      case measure=>simp [intOf]<;>omega
  · have hie:i=l.length:=by omega
    subst hie
    have HRt:=hid (show l.all Z1a=true from Zow.2 (fun x hx=>by
     obtain ⟨k,hk,rfl⟩:=List.getElem_of_mem hx
     exact HALL.out k hk hk))
    (go_wp2_with fail);go_ret;exact ⟨by rw [HRt.out]<;>rfl,HB.out⟩
theorem Zku {D:Nat→Prop}(x:Z0a) (deep:Nat) (A1 A2 A3:Option Addr) (c1 c2 c3:Nat) (w:World) (h1:RowR Z03 D w A1 c1 x.attr) (h2:RowR Z03 D w A2 c2 x.value) (hn3:(x.conds.length:Int)≤9223372036854775807) :
 Calls Tryz.prog 168 #[.agg #[.int .i64 x.kind,.bool x.goal,.string x.id,.slice A1 x.attr.length c1,.slice A2 x.value.length c2,.bool x.acc,.slice A3 x.conds.length c3],.int .i64 deep] w fun e w'=>e = .returned (.int .i64 (Z0l x deep))∧Below w.heap.size w w':=by
 have H1:=hid h1;have H2:=hid h2;have hl1:=h1.cap;have hl2:=h2.cap;clear h1 h2;go_enter Tryz.func168,Tryz.ntmps168;(go_upto_region 1 with fail);obtain ⟨w1,hw1⟩:∃w1,w1=(w.alloc (.cells #[.int .i64 x.kind,.bool x.goal,.string x.id,.slice A1 x.attr.length c1,.slice A2 x.value.length c2,.bool x.acc,.slice A3 x.conds.length c3] 59)):=⟨_,rfl⟩;rw [←hw1];have HB:=hid (show Below w.heap.size w w1 by rw [hw1];exact (by repeat (first|exact Znk _ _|refine Below.drew ?_|refine Below.al ?_ _|refine Below.sc ?_ _)));have Kx:=hid (show Blk w1 (w.heap.size) 59 #[.int .i64 x.kind,.bool x.goal,.string x.id,.slice A1 x.attr.length c1,.slice A2 x.value.length c2,.bool x.acc,.slice A3 x.conds.length c3] by rw [hw1];exact (Blk.new w 59 #[.int .i64 x.kind,.bool x.goal,.string x.id,.slice A1 x.attr.length c1,.slice A2 x.value.length c2,.bool x.acc,.slice A3 x.conds.length c3]));clear hw1;obtain ⟨x0,x1,x2,x3,x4,x5,x6⟩:=Kx.out.c7;have xz:=Kx.out.lt;by_cases ha:x.kind<1
 · skip
   have a0:decide (x.kind<1)=true:=Zno ha;have Ha:=hid ha;clear ha;have HN3:=hid (show ¬x.kind=3 by have:=Ha.out;omega);have HN1:=hid (show ¬x.kind=1 by have:=Ha.out;omega);have HN2:=hid (show ¬x.kind=2 by have:=Ha.out;omega);have HR:=hid (show Z0l x deep=9 by simp [Z0l,HN3.out,HN1.out,HN2.out]);(go_wp2_with fail);go_ret;exact ⟨by rw [HR.out]<;>rfl,by (repeat (first|exact Znk _ _|exact HB.out|refine Below.drew ?_|refine Below.al ?_ _|refine Below.sc ?_ _))⟩
 · skip
   have a0:decide (x.kind<1)=false:=Znm ha;have Ha:=hid ha;clear ha;by_cases hb:3<x.kind
   · skip
     have b0:decide (3<x.kind)=true:=Zno hb;have Hb:=hid hb;clear hb;have HN3:=hid (show ¬x.kind=3 by have:=Hb.out;omega);have HN1:=hid (show ¬x.kind=1 by have:=Hb.out;omega);have HN2:=hid (show ¬x.kind=2 by have:=Hb.out;omega);have HR:=hid (show Z0l x deep=9 by simp [Z0l,HN3.out,HN1.out,HN2.out]);(go_wp2_with fail);go_ret;exact ⟨by rw [HR.out]<;>rfl,by (repeat (first|exact Znk _ _|exact HB.out|refine Below.drew ?_|refine Below.al ?_ _|refine Below.sc ?_ _))⟩
   · skip
     have b0:decide (3<x.kind)=false:=Znm hb;have Hb:=hid hb;clear hb;by_cases hk:x.kind=3
     · skip
       (have ka:(x.kind == 3)=true:=by simp [hk]);(have kb:decide (x.kind=3)=true:=by simp [hk]);have Hk:=hid hk;clear hk;by_cases hg:x.goal=true
       · skip
         have gq:x.goal=true:=hg;have Hg:=hid hg;clear hg;have HR:=hid (show Z0l x deep=9 by simp [Z0l,Hk.out,Hg.out]);(go_wp2_with fail);go_ret;exact ⟨by rw [HR.out]<;>rfl,by (repeat (first|exact Znk _ _|exact HB.out|refine Below.drew ?_|refine Below.al ?_ _|refine Below.sc ?_ _))⟩
       · skip
         (have gq:x.goal=false:=by simpa using hg);have Hg:=hid hg;clear hg;by_cases hv :¬x.id.toList = []
         · skip
           (have vva:(x.id.toList == [])=false:=by simp [hv]);(have vvb:x.id.toList.isEmpty=false:=by simp [hv]);(have vvc:decide (x.id.toList = [])=false:=by simp [hv]);(have vvd:(x.id.toList != [])=true:=by simp [hv]);have Hv:=hid hv;clear hv;have HR:=hid (show Z0l x deep=9 by simp [Z0l,Hk.out,Hg.out,Hv.out]);(go_wp2_with fail);go_ret;exact ⟨by rw [HR.out]<;>rfl,by (repeat (first|exact Znk _ _|exact HB.out|refine Below.drew ?_|refine Below.al ?_ _|refine Below.sc ?_ _))⟩
         · skip
           have hv2:x.id.toList = []:=Zoe hv;(have vva:(x.id.toList == [])=true:=by simp [hv2]);(have vvb:x.id.toList.isEmpty=true:=by simp [hv2]);(have vvc:decide (x.id.toList = [])=true:=by simp [hv2]);(have vvd:(x.id.toList != [])=false:=by simp [hv2]);clear hv2;have Hv:=hid hv;clear hv;have HV2:=hid (Zoe Hv.out);by_cases hc:0<x.attr.length
           · skip
             have ca:decide ((0:Int)<(x.attr.length:Int))=true:=Zno (by omega);have cb:decide (0<x.attr.length)=true:=Zno (by omega);have Hc:=hid hc;clear hc;have HR:=hid (show Z0l x deep=9 by simp [Z0l,Hk.out,Hg.out,HV2.out,Hc.out]);(go_wp2_with fail);go_ret;exact ⟨by rw [HR.out]<;>rfl,by (repeat (first|exact Znk _ _|exact HB.out|refine Below.drew ?_|refine Below.al ?_ _|refine Below.sc ?_ _))⟩
           · skip
             have ca:decide ((0:Int)<(x.attr.length:Int))=false:=Znm (by omega);have cb:decide (0<x.attr.length)=false:=Znm (by omega);have Hc:=hid hc;clear hc;have HLc:=hid (show x.attr = [] by have:=Hc.out;exact Zok.1 (by omega));by_cases hd:0<x.value.length
             · skip
               have da:decide ((0:Int)<(x.value.length:Int))=true:=Zno (by omega);have db:decide (0<x.value.length)=true:=Zno (by omega);have Hd:=hid hd;clear hd;have HR:=hid (show Z0l x deep=9 by simp [Z0l,Hk.out,Hg.out,HV2.out,HLc.out,Hd.out]);(go_wp2_with fail);go_ret;exact ⟨by rw [HR.out]<;>rfl,by (repeat (first|exact Znk _ _|exact HB.out|refine Below.drew ?_|refine Below.al ?_ _|refine Below.sc ?_ _))⟩
             · skip
               have da:decide ((0:Int)<(x.value.length:Int))=false:=Znm (by omega);have db:decide (0<x.value.length)=false:=Znm (by omega);have Hd:=hid hd;clear hd;have HLd:=hid (show x.value = [] by have:=Hd.out;exact Zok.1 (by omega));by_cases he:x.acc=true
               · skip
                 have eq:x.acc=true:=he;have He:=hid he;clear he;have HR:=hid (show Z0l x deep=9 by simp [Z0l,Hk.out,Hg.out,HV2.out,HLc.out,HLd.out,He.out]);(go_wp2_with fail);go_ret;exact ⟨by rw [HR.out]<;>rfl,by (repeat (first|exact Znk _ _|exact HB.out|refine Below.drew ?_|refine Below.al ?_ _|refine Below.sc ?_ _))⟩
               · skip
                 (have eq:x.acc=false:=by simpa using he);have He:=hid he;clear he;by_cases hf:x.conds.length=0
                 · skip
                   (have fz:((x.conds.length:Int) == 0)=true:=by rw [beq_iff_eq];omega);have fy:decide ((x.conds.length:Int)=0)=true:=Zno (by omega);have Hf:=hid hf;clear hf;have HR:=hid (show Z0l x deep=9 by simp [Z0l,Hk.out,Hg.out,HV2.out,HLc.out,HLd.out,He.out,Hf.out]);(go_wp2_with fail);go_ret;exact ⟨by rw [HR.out]<;>rfl,by (repeat (first|exact Znk _ _|exact HB.out|refine Below.drew ?_|refine Below.al ?_ _|refine Below.sc ?_ _))⟩
                 · skip
                   (have fz:((x.conds.length:Int) == 0)=false:=by rw [beq_eq_false_iff_ne];omega);have fy:decide ((x.conds.length:Int)=0)=false:=Znm (by omega);have Hf:=hid hf;clear hf;by_cases hp:3≤deep
                   · skip
                     have p0:decide ((3:Int)≤(deep:Int))=true:=Zno (by omega);have p1:decide (3≤deep)=true:=Zno (by omega);have Hp:=hid hp;clear hp;have HR:=hid (show Z0l x deep=8 by simp [Z0l,Hk.out,Hg.out,HV2.out,HLc.out,HLd.out,He.out,Hf.out,Hp.out]);(go_wp2_with fail);go_ret;exact ⟨by rw [HR.out]<;>rfl,by (repeat (first|exact Znk _ _|exact HB.out|refine Below.drew ?_|refine Below.al ?_ _|refine Below.sc ?_ _))⟩
                   · skip
                     have p0:decide ((3:Int)≤(deep:Int))=false:=Znm (by omega);have p1:decide (3≤deep)=false:=Znm (by omega);have Hp:=hid hp;clear hp;have HR:=hid (show Z0l x deep=0 by simp [Z0l,Hk.out,Hg.out,HV2.out,HLc.out,HLd.out,He.out,Hf.out,Hp.out]);(go_wp2_with fail);go_ret;exact ⟨by rw [HR.out]<;>rfl,by (repeat (first|exact Znk _ _|exact HB.out|refine Below.drew ?_|refine Below.al ?_ _|refine Below.sc ?_ _))⟩
     · skip
       (have ka:(x.kind == 3)=false:=by simp [hk]);(have kb:decide (x.kind=3)=false:=by simp [hk]);have Hk:=hid hk;clear hk;have H12:=hid (show x.kind=1∨x.kind=2 by have:=Ha.out;have:=Hb.out;have:=Hk.out;omega);by_cases hc:0<x.conds.length
       · skip
         have ca:decide ((0:Int)<(x.conds.length:Int))=true:=Zno (by omega);have cb:decide (0<x.conds.length)=true:=Zno (by omega);have Hc:=hid hc;clear hc;have HR:=hid (show Z0l x deep=9 by simp [Z0l,Hk.out,H12.out,Hc.out]);(go_wp2_with fail);go_ret;exact ⟨by rw [HR.out]<;>rfl,by (repeat (first|exact Znk _ _|exact HB.out|refine Below.drew ?_|refine Below.al ?_ _|refine Below.sc ?_ _))⟩
       · skip
         have ca:decide ((0:Int)<(x.conds.length:Int))=false:=Znm (by omega);have cb:decide (0<x.conds.length)=false:=Znm (by omega);have Hc:=hid hc;clear hc;cases hw:Z17 x.id
         · skip
           have hc:=fun W=>Z49 x.id W;simp only [hw] at hc;have HCw:=hid hc;clear hc;(go_wp2_with fail);(with_reducible refine (HCw.out _).mono ?_);rintro e w0 ⟨rfl,rfl⟩;have HR:=hid (show Z0l x deep=9 by simp [Z0l,Hk.out,H12.out,Hc.out,hw]);(go_wp2_with fail);go_ret;exact ⟨by rw [HR.out]<;>rfl,by (repeat (first|exact Znk _ _|exact HB.out|refine Below.drew ?_|refine Below.al ?_ _|refine Below.sc ?_ _))⟩
         · skip
           have hc:=fun W=>Z49 x.id W;simp only [hw] at hc;have HCw:=hid hc;clear hc;(go_wp2_with fail);(with_reducible refine (HCw.out _).mono ?_);rintro e w0 ⟨rfl,rfl⟩;have HW:=hid hw;clear hw;by_cases hd:x.attr.length=0
           · skip
             (have dz:((x.attr.length:Int) == 0)=true:=by rw [beq_iff_eq];omega);have dy:decide ((x.attr.length:Int)=0)=true:=Zno (by omega);have Hd:=hid hd;clear hd;have HLd:=hid (Zok.1 Hd.out);have HR:=hid (show Z0l x deep=9 by simp [Z0l,Hk.out,H12.out,Hc.out,HW.out,HLd.out]);(go_wp2_with fail);go_ret;exact ⟨by rw [HR.out]<;>rfl,by (repeat (first|exact Znk _ _|exact HB.out|refine Below.drew ?_|refine Below.al ?_ _|refine Below.sc ?_ _))⟩
           · skip
             (have dz:((x.attr.length:Int) == 0)=false:=by rw [beq_eq_false_iff_ne];omega);have dy:decide ((x.attr.length:Int)=0)=false:=Znm (by omega);have Hd:=hid hd;clear hd;have HNd:=hid (show ¬x.attr = [] by intro e;exact Hd.out (by rw [e];rfl));by_cases he:4<x.attr.length
             · skip
               have ea:decide ((4:Int)<(x.attr.length:Int))=true:=Zno (by omega);have eb:decide (4<x.attr.length)=true:=Zno (by omega);have He:=hid he;clear he;have HR:=hid (show Z0l x deep=7 by simp [Z0l,Hk.out,H12.out,Hc.out,HW.out,HNd.out,He.out]);(go_wp2_with fail);go_ret;exact ⟨by rw [HR.out]<;>rfl,by (repeat (first|exact Znk _ _|exact HB.out|refine Below.drew ?_|refine Below.al ?_ _|refine Below.sc ?_ _))⟩
             · skip
               have ea:decide ((4:Int)<(x.attr.length:Int))=false:=Znm (by omega);have eb:decide (4<x.attr.length)=false:=Znm (by omega);have He:=hid he;clear he;by_cases hf:4<x.value.length
               · skip
                 have fa:decide ((4:Int)<(x.value.length:Int))=true:=Zno (by omega);have fb:decide (4<x.value.length)=true:=Zno (by omega);have Hf:=hid hf;clear hf;have HR:=hid (show Z0l x deep=7 by simp [Z0l,Hk.out,H12.out,Hc.out,HW.out,HNd.out,He.out,Hf.out]);(go_wp2_with fail);go_ret;exact ⟨by rw [HR.out]<;>rfl,by (repeat (first|exact Znk _ _|exact HB.out|refine Below.drew ?_|refine Below.al ?_ _|refine Below.sc ?_ _))⟩
               · skip
                 have fa:decide ((4:Int)<(x.value.length:Int))=false:=Znm (by omega);have fb:decide (4<x.value.length)=false:=Znm (by omega);have Hf:=hid hf;clear hf;cases ht:x.attr.all Z1a
                 · skip
                   have hc:=fun W (hb:Below w.heap.size w W)=>Z7c A1 c1 x.attr W (H1.out.new_ hb);simp only [ht] at hc;have HCt:=hid hc;clear hc;(go_wp2_with fail);(with_reducible refine (HCt.out _ (by (repeat (first|exact Znk _ _|exact HB.out|refine Below.drew ?_|refine Below.al ?_ _|refine Below.sc ?_ _)))).mono ?_);rintro e w2 ⟨rfl,hb⟩;have hbs:=Below.trans (show Below w1.heap.size w1 _ from (by (repeat (first|exact Znk _ _|refine Below.drew ?_|refine Below.al ?_ _|refine Below.sc ?_ _)))) (hb.mono (by simp<;>omega));have Kx:=hid (Kx.out.new_ hbs);have HB:=hid (HB.out.trans (hbs.mono HB.out.size));have hsz2:=hbs.size;clear x0 x1 x2 x3 x4 x5 x6 xz hb hbs;obtain ⟨x0,x1,x2,x3,x4,x5,x6⟩:=Kx.out.c7;have xz:=Kx.out.lt;have HTt:=hid ht;clear ht;have HR:=hid (show Z0l x deep=9 by simp [Z0l,Hk.out,H12.out,Hc.out,HW.out,HNd.out,He.out,Hf.out,HTt.out]);(go_wp2_with fail);go_ret;exact ⟨by rw [HR.out]<;>rfl,by (repeat (first|exact Znk _ _|exact HB.out|refine Below.drew ?_|refine Below.al ?_ _|refine Below.sc ?_ _))⟩
                 · skip
                   have hc:=fun W (hb:Below w.heap.size w W)=>Z7c A1 c1 x.attr W (H1.out.new_ hb);simp only [ht] at hc;have HCt:=hid hc;clear hc;(go_wp2_with fail);(with_reducible refine (HCt.out _ (by (repeat (first|exact Znk _ _|exact HB.out|refine Below.drew ?_|refine Below.al ?_ _|refine Below.sc ?_ _)))).mono ?_);rintro e w2 ⟨rfl,hb⟩;have hbs:=Below.trans (show Below w1.heap.size w1 _ from (by (repeat (first|exact Znk _ _|refine Below.drew ?_|refine Below.al ?_ _|refine Below.sc ?_ _)))) (hb.mono (by simp<;>omega));have Kx:=hid (Kx.out.new_ hbs);have HB:=hid (HB.out.trans (hbs.mono HB.out.size));have hsz2:=hbs.size;clear x0 x1 x2 x3 x4 x5 x6 xz hb hbs;obtain ⟨x0,x1,x2,x3,x4,x5,x6⟩:=Kx.out.c7;have xz:=Kx.out.lt;have HTt:=hid ht;clear ht;cases hu:x.value.all Z1a
                   · skip
                     have hc:=fun W (hb:Below w.heap.size w W)=>Z7c A2 c2 x.value W (H2.out.new_ hb);simp only [hu] at hc;have HCu:=hid hc;clear hc;(go_wp2_with fail);(with_reducible refine (HCu.out _ (by (repeat (first|exact Znk _ _|exact HB.out|refine Below.drew ?_|refine Below.al ?_ _|refine Below.sc ?_ _)))).mono ?_);rintro e w3 ⟨rfl,hb⟩;have hbs:=Below.trans (show Below w2.heap.size w2 _ from (by (repeat (first|exact Znk _ _|refine Below.drew ?_|refine Below.al ?_ _|refine Below.sc ?_ _)))) (hb.mono (by simp<;>omega));have Kx:=hid (Kx.out.new_ hbs);have HB:=hid (HB.out.trans (hbs.mono HB.out.size));have hsz3:=hbs.size;clear x0 x1 x2 x3 x4 x5 x6 xz hb hbs;obtain ⟨x0,x1,x2,x3,x4,x5,x6⟩:=Kx.out.c7;have xz:=Kx.out.lt;have HTu:=hid hu;clear hu;have HR:=hid (show Z0l x deep=9 by simp [Z0l,Hk.out,H12.out,Hc.out,HW.out,HNd.out,He.out,Hf.out,HTt.out,HTu.out]);(go_wp2_with fail);go_ret;exact ⟨by rw [HR.out]<;>rfl,by (repeat (first|exact Znk _ _|exact HB.out|refine Below.drew ?_|refine Below.al ?_ _|refine Below.sc ?_ _))⟩
                   · skip
                     have hc:=fun W (hb:Below w.heap.size w W)=>Z7c A2 c2 x.value W (H2.out.new_ hb);simp only [hu] at hc;have HCu:=hid hc;clear hc;(go_wp2_with fail);(with_reducible refine (HCu.out _ (by (repeat (first|exact Znk _ _|exact HB.out|refine Below.drew ?_|refine Below.al ?_ _|refine Below.sc ?_ _)))).mono ?_);rintro e w3 ⟨rfl,hb⟩;have hbs:=Below.trans (show Below w2.heap.size w2 _ from (by (repeat (first|exact Znk _ _|refine Below.drew ?_|refine Below.al ?_ _|refine Below.sc ?_ _)))) (hb.mono (by simp<;>omega));have Kx:=hid (Kx.out.new_ hbs);have HB:=hid (HB.out.trans (hbs.mono HB.out.size));have hsz3:=hbs.size;clear x0 x1 x2 x3 x4 x5 x6 xz hb hbs;obtain ⟨x0,x1,x2,x3,x4,x5,x6⟩:=Kx.out.c7;have xz:=Kx.out.lt;have HTu:=hid hu;clear hu;have HR:=hid (show Z0l x deep=0 by simp [Z0l,Hk.out,H12.out,Hc.out,HW.out,HNd.out,He.out,Hf.out,HTt.out,HTu.out]);(go_wp2_with fail);go_ret;exact ⟨by rw [HR.out]<;>rfl,by (repeat (first|exact Znk _ _|exact HB.out|refine Below.drew ?_|refine Below.al ?_ _|refine Below.sc ?_ _))⟩
end
end Go.Proofs.YtfidcfjcmlgkbaaGreat
