/-
  Texts put together: Ref06A, Ref06B, Ref06C, Ref06D, Ref06E.
-/
import Derived.Test.YtffemfglngikbaaOe
import Derived.Test.YtffemfglngikbaaOd
import Derived.Test.YtffemfglngikbaaOh
import Derived.Test.YtffemfglngikbaaOb
namespace Go.Proofs.Ytffemfglngikbaa
open Go.RowKit Go.Shelf
attribute [local go_sem] Oper.semAt_some
set_option linter.unusedSimpArgs false
theorem eqz_sym (s:Sym) (W:World):(binOp .eql 52 (.agg #[.int .i64 s.kind,.string s.text,.int .i64 s.n]) (.agg #[.int .i64 0,.string ⟨#[]⟩,.int .i64 0])).run Try.prog W = .ok (.bool (noneB s)) W:=eql_sym s zS W
set_option maxRecDepth 100000 in
set_option maxHeartbeats 8000000 in
theorem rconst_is (s:Sym) (w:World):Calls Try.prog 78 #[.agg #[.int .i64 s.kind,.string s.text,.int .i64 s.n]] w fun e w'=>e = .returned (.bool (constB s))∧Below w.heap.size w w':=by
 by_cases hk:s.kind=1
 · skip
   have ka:(s.kind == 1)=true:=by simp [hk]
   have kb:decide (s.kind=1)=true:=by simp [hk]
   have kc:(s.kind != 1)=false:=by simp [hk]
   have HK:=Lib.hid hk
   clear hk
   go_enter Try.func78,Try.ntmps78
   go_upto_region 1 with fail
   obtain ⟨w1,hw1⟩ : ∃w1,w1=(w.alloc (.cells #[.int .i64 s.kind,.string s.text,.int .i64 s.n] 52)):=⟨_,rfl⟩
   rw [← hw1]
   have HB:=Lib.hid (show Below w.heap.size w w1 by rw [hw1];exact (by repeat (first | exact Below.refl _ _ | refine Below.drew ?_ | refine Below.al ?_ _ | refine Below.sc ?_ _)))
   have Ks:=Lib.hid (show Blk w1 (w.heap.size) 52 #[.int .i64 s.kind,.string s.text,.int .i64 s.n] by rw [hw1];exact (Blk.new w 52 #[.int .i64 s.kind,.string s.text,.int .i64 s.n]))
   clear hw1
   obtain ⟨s0,s1,s2⟩:=Ks.out.c3
   have sz:=Ks.out.lt
   cases hv:validB s
   · skip
     have hc:=fun W=>rvalid_is s W
     simp only [hv] at hc
     have HCv:=Lib.hid hc
     clear hc
     go_wp2_with fail
     with_reducible refine (HCv.out _).mono ?_
     rintro e w2 ⟨rfl,hb⟩
     have hbs:=Below.trans (show Below w1.heap.size w1 _ from (by (repeat (first | exact Below.refl _ _ | refine Below.drew ?_ | refine Below.al ?_ _ | refine Below.sc ?_ _)))) (hb.mono (by simp<;>omega))
     have Ks:=Lib.hid (Ks.out.new_ hbs)
     have HB:=Lib.hid (HB.out.trans (hbs.mono HB.out.size))
     have hsz2:=hbs.size
     clear s0 s1 s2 sz hb hbs
     obtain ⟨s0,s1,s2⟩:=Ks.out.c3
     have sz:=Ks.out.lt
     have HR:=Lib.hid (show constB s=false by simp [constB,HK.out,hv])
     go_wp2_with fail
     go_ret
     exact ⟨by rw [HR.out]<;>rfl,by (repeat (first | exact Below.refl _ _ | exact HB.out | refine Below.drew ?_ | refine Below.al ?_ _ | refine Below.sc ?_ _))⟩
   · skip
     have hc:=fun W=>rvalid_is s W
     simp only [hv] at hc
     have HCv:=Lib.hid hc
     clear hc
     go_wp2_with fail
     with_reducible refine (HCv.out _).mono ?_
     rintro e w2 ⟨rfl,hb⟩
     have hbs:=Below.trans (show Below w1.heap.size w1 _ from (by (repeat (first | exact Below.refl _ _ | refine Below.drew ?_ | refine Below.al ?_ _ | refine Below.sc ?_ _)))) (hb.mono (by simp<;>omega))
     have Ks:=Lib.hid (Ks.out.new_ hbs)
     have HB:=Lib.hid (HB.out.trans (hbs.mono HB.out.size))
     have hsz2:=hbs.size
     clear s0 s1 s2 sz hb hbs
     obtain ⟨s0,s1,s2⟩:=Ks.out.c3
     have sz:=Ks.out.lt
     have HR:=Lib.hid (show constB s=false by simp [constB,HK.out,hv])
     go_wp2_with fail
     go_ret
     exact ⟨by rw [HR.out]<;>rfl,by (repeat (first | exact Below.refl _ _ | exact HB.out | refine Below.drew ?_ | refine Below.al ?_ _ | refine Below.sc ?_ _))⟩
 · skip
   have ka:(s.kind == 1)=false:=by simp [hk]
   have kb:decide (s.kind=1)=false:=by simp [hk]
   have kc:(s.kind != 1)=true:=by simp [hk]
   have HK:=Lib.hid hk
   clear hk
   go_enter Try.func78,Try.ntmps78
   go_upto_region 1 with fail
   obtain ⟨w1,hw1⟩ : ∃w1,w1=(w.alloc (.cells #[.int .i64 s.kind,.string s.text,.int .i64 s.n] 52)):=⟨_,rfl⟩
   rw [← hw1]
   have HB:=Lib.hid (show Below w.heap.size w w1 by rw [hw1];exact (by repeat (first | exact Below.refl _ _ | refine Below.drew ?_ | refine Below.al ?_ _ | refine Below.sc ?_ _)))
   have Ks:=Lib.hid (show Blk w1 (w.heap.size) 52 #[.int .i64 s.kind,.string s.text,.int .i64 s.n] by rw [hw1];exact (Blk.new w 52 #[.int .i64 s.kind,.string s.text,.int .i64 s.n]))
   clear hw1
   obtain ⟨s0,s1,s2⟩:=Ks.out.c3
   have sz:=Ks.out.lt
   cases hv:validB s
   · skip
     have hc:=fun W=>rvalid_is s W
     simp only [hv] at hc
     have HCv:=Lib.hid hc
     clear hc
     go_wp2_with fail
     with_reducible refine (HCv.out _).mono ?_
     rintro e w2 ⟨rfl,hb⟩
     have hbs:=Below.trans (show Below w1.heap.size w1 _ from (by (repeat (first | exact Below.refl _ _ | refine Below.drew ?_ | refine Below.al ?_ _ | refine Below.sc ?_ _)))) (hb.mono (by simp<;>omega))
     have Ks:=Lib.hid (Ks.out.new_ hbs)
     have HB:=Lib.hid (HB.out.trans (hbs.mono HB.out.size))
     have hsz2:=hbs.size
     clear s0 s1 s2 sz hb hbs
     obtain ⟨s0,s1,s2⟩:=Ks.out.c3
     have sz:=Ks.out.lt
     have HR:=Lib.hid (show constB s=false by simp [constB,HK.out,hv])
     go_wp2_with fail
     go_ret
     exact ⟨by rw [HR.out]<;>rfl,by (repeat (first | exact Below.refl _ _ | exact HB.out | refine Below.drew ?_ | refine Below.al ?_ _ | refine Below.sc ?_ _))⟩
   · skip
     have hc:=fun W=>rvalid_is s W
     simp only [hv] at hc
     have HCv:=Lib.hid hc
     clear hc
     go_wp2_with fail
     with_reducible refine (HCv.out _).mono ?_
     rintro e w2 ⟨rfl,hb⟩
     have hbs:=Below.trans (show Below w1.heap.size w1 _ from (by (repeat (first | exact Below.refl _ _ | refine Below.drew ?_ | refine Below.al ?_ _ | refine Below.sc ?_ _)))) (hb.mono (by simp<;>omega))
     have Ks:=Lib.hid (Ks.out.new_ hbs)
     have HB:=Lib.hid (HB.out.trans (hbs.mono HB.out.size))
     have hsz2:=hbs.size
     clear s0 s1 s2 sz hb hbs
     obtain ⟨s0,s1,s2⟩:=Ks.out.c3
     have sz:=Ks.out.lt
     have HR:=Lib.hid (show constB s=true by simp [constB,HK.out,hv])
     go_wp2_with fail
     go_ret
     exact ⟨by rw [HR.out]<;>rfl,by (repeat (first | exact Below.refl _ _ | exact HB.out | refine Below.drew ?_ | refine Below.al ?_ _ | refine Below.sc ?_ _))⟩
set_option maxRecDepth 100000 in
set_option maxHeartbeats 8000000 in
theorem ratom_is (a:AtomT) (w:World):Calls Try.prog 69 #[.agg #[.string a.var,.int .i64 a.sym.kind,.string a.sym.text,.int .i64 a.sym.n]] w fun e w'=>e = .returned (.bool (atomB a))∧Below w.heap.size w w':=by
 have hq:=eqz_sym a.sym
 by_cases hv:a.var.toList = []
 · skip
   have va:(a.var.toList == [])=true:=by simp [hv]
   have vb:a.var.toList.isEmpty=true:=by simp [hv]
   have vc:decide (a.var.toList = [])=true:=by simp [hv]
   have HV:=Lib.hid hv
   clear hv
   have vd:(a.var.toList != [])=false:=by simp [HV.out]
   go_enter Try.func69,Try.ntmps69
   go_upto_region 1 with fail
   obtain ⟨w1,hw1⟩ : ∃w1,w1=(w.alloc (.cells #[.string a.var,.int .i64 a.sym.kind,.string a.sym.text,.int .i64 a.sym.n] 54)):=⟨_,rfl⟩
   rw [← hw1]
   have HB:=Lib.hid (show Below w.heap.size w w1 by rw [hw1];exact (by repeat (first | exact Below.refl _ _ | refine Below.drew ?_ | refine Below.al ?_ _ | refine Below.sc ?_ _)))
   have Ka:=Lib.hid (show Blk w1 (w.heap.size) 54 #[.string a.var,.int .i64 a.sym.kind,.string a.sym.text,.int .i64 a.sym.n] by rw [hw1];exact (Blk.new w 54 #[.string a.var,.int .i64 a.sym.kind,.string a.sym.text,.int .i64 a.sym.n]))
   clear hw1
   obtain ⟨a0,a1,a2,a3⟩:=Ka.out.c4
   have az:=Ka.out.lt
   go_wp2_with fail
   with_reducible refine (rconst_is a.sym _).mono ?_
   rintro e w2 ⟨rfl,hb⟩
   have hbs:=Below.trans (show Below w1.heap.size w1 _ from (by (repeat (first | exact Below.refl _ _ | refine Below.drew ?_ | refine Below.al ?_ _ | refine Below.sc ?_ _)))) (hb.mono (by simp<;>omega))
   have Ka:=Lib.hid (Ka.out.new_ hbs)
   have HB:=Lib.hid (HB.out.trans (hbs.mono HB.out.size))
   have hsz2:=hbs.size
   clear a0 a1 a2 a3 az hb hbs
   obtain ⟨a0,a1,a2,a3⟩:=Ka.out.c4
   have az:=Ka.out.lt
   have HR:=Lib.hid (show atomB a=constB a.sym by simp [atomB,HV.out])
   go_wp2_with fail
   go_ret
   exact ⟨by rw [HR.out]<;>rfl,by (repeat (first | exact Below.refl _ _ | exact HB.out | refine Below.drew ?_ | refine Below.al ?_ _ | refine Below.sc ?_ _))⟩
 · skip
   have va:(a.var.toList == [])=false:=by simp [hv]
   have vb:a.var.toList.isEmpty=false:=by simp [hv]
   have vc:decide (a.var.toList = [])=false:=by simp [hv]
   have HV:=Lib.hid hv
   clear hv
   have vd:(a.var.toList != [])=true:=by simp [HV.out]
   go_enter Try.func69,Try.ntmps69
   go_upto_region 1 with fail
   obtain ⟨w1,hw1⟩ : ∃w1,w1=(w.alloc (.cells #[.string a.var,.int .i64 a.sym.kind,.string a.sym.text,.int .i64 a.sym.n] 54)):=⟨_,rfl⟩
   rw [← hw1]
   have HB:=Lib.hid (show Below w.heap.size w w1 by rw [hw1];exact (by repeat (first | exact Below.refl _ _ | refine Below.drew ?_ | refine Below.al ?_ _ | refine Below.sc ?_ _)))
   have Ka:=Lib.hid (show Blk w1 (w.heap.size) 54 #[.string a.var,.int .i64 a.sym.kind,.string a.sym.text,.int .i64 a.sym.n] by rw [hw1];exact (Blk.new w 54 #[.string a.var,.int .i64 a.sym.kind,.string a.sym.text,.int .i64 a.sym.n]))
   clear hw1
   obtain ⟨a0,a1,a2,a3⟩:=Ka.out.c4
   have az:=Ka.out.lt
   cases hw:isWord a.var
   · skip
     have hc:=fun W=>rword_is a.var W
     simp only [hw] at hc
     have HCw:=Lib.hid hc
     clear hc
     go_wp2_with fail
     with_reducible refine (HCw.out _).mono ?_
     rintro e w0 ⟨rfl,rfl⟩
     have HR:=Lib.hid (show atomB a=false by simp [atomB,HV.out,hw])
     go_wp2_with fail
     go_ret
     exact ⟨by rw [HR.out]<;>rfl,by (repeat (first | exact Below.refl _ _ | exact HB.out | refine Below.drew ?_ | refine Below.al ?_ _ | refine Below.sc ?_ _))⟩
   · skip
     have hc:=fun W=>rword_is a.var W
     simp only [hw] at hc
     have HCw:=Lib.hid hc
     clear hc
     go_wp2_with fail
     with_reducible refine (HCw.out _).mono ?_
     rintro e w0 ⟨rfl,rfl⟩
     have HR:=Lib.hid (show atomB a=noneB a.sym by simp [atomB,HV.out,hw])
     go_wp2_with fail
     go_ret
     exact ⟨by rw [HR.out]<;>rfl,by (repeat (first | exact Below.refl _ _ | exact HB.out | refine Below.drew ?_ | refine Below.al ?_ _ | refine Below.sc ?_ _))⟩
theorem zsym_iff {s:Sym} (h0:s.kind=0) (h1:s.text.toList = []) (h2:s.n=0):s=zS:=Sym.ext' h0 (toList_inj (h1.trans (show ([]:List UInt8)=zS.text.toList by kernel_rfl))) h2
theorem nzsym {a:AtomT} (h : ¬(a.sym.kind=0∧a.sym.text.toList = []∧a.sym.n=0)):emptyB a=false:=by
 have:a.sym≠zS:=fun e=>h (by rw [e];exact ⟨rfl,by kernel_rfl,rfl⟩)
 simp [emptyB,noneB,this]
theorem eqz_atom (a:AtomT) (W:World):(binOp .eql 54 (.agg #[.string a.var,.int .i64 a.sym.kind,.string a.sym.text,.int .i64 a.sym.n]) (.agg #[.string ⟨#[]⟩,.int .i64 0,.string ⟨#[]⟩,.int .i64 0])).run Try.prog W = .ok (.bool (emptyB a)) W:=by
 rw [run_eql_struct]
 go_simp
 by_cases e0:a.var.toList = []
 case neg=>rw [show emptyB a=false by simp [emptyB,e0]];simp [e0]
 by_cases e1:a.sym.kind=0
 case neg=>rw [nzsym (fun h=>e1 h.1)];simp [e0,e1]
 by_cases e2:a.sym.text.toList = []
 case neg=>rw [nzsym (fun h=>e2 h.2.1)];simp [e0,e1,e2]
 by_cases e3:a.sym.n=0
 case neg=>rw [nzsym (fun h=>e3 h.2.2)];simp [e0,e1,e2,e3]
 rw [show emptyB a=true by simp [emptyB,noneB,e0,zsym_iff e1 e2 e3]]
 simp [e0,e1,e2,e3]
theorem neqz_atom (a:AtomT) (W:World):(binOp .neq 54 (.agg #[.string a.var,.int .i64 a.sym.kind,.string a.sym.text,.int .i64 a.sym.n]) (.agg #[.string ⟨#[]⟩,.int .i64 0,.string ⟨#[]⟩,.int .i64 0])).run Try.prog W = .ok (.bool (!emptyB a)) W:=by
 rw [run_neq_struct]
 go_simp
 by_cases e0:a.var.toList = []
 case neg=>rw [show emptyB a=false by simp [emptyB,e0]];simp [e0]
 by_cases e1:a.sym.kind=0
 case neg=>rw [nzsym (fun h=>e1 h.1)];simp [e0,e1]
 by_cases e2:a.sym.text.toList = []
 case neg=>rw [nzsym (fun h=>e2 h.2.1)];simp [e0,e1,e2]
 by_cases e3:a.sym.n=0
 case neg=>rw [nzsym (fun h=>e3 h.2.2)];simp [e0,e1,e2,e3]
 rw [show emptyB a=true by simp [emptyB,noneB,e0,zsym_iff e1 e2 e3]]
 simp [e0,e1,e2,e3]
theorem atomB_str {a:AtomT} (h:atomB a=true) (hk:a.sym.kind=3):a.var.toList = []:=by
 by_cases hv:a.var.toList = []
 · exact hv
 · have:a.sym=zS:=by simpa [atomB,hv,noneB] using (show isWord a.var=true∧noneB a.sym=true by simpa [atomB,hv] using h).2
   rw [this] at hk;exact absurd hk (by decide)
set_option maxRecDepth 100000 in
set_option maxHeartbeats 8000000 in
theorem ract_is (a:ActT) (w:World):Calls Try.prog 51 #[.agg #[.string a.id,.string a.attr.var,.int .i64 a.attr.sym.kind,.string a.attr.sym.text,.int .i64 a.attr.sym.n,.int .i64 a.value.op,.string a.value.a.var,.int .i64 a.value.a.sym.kind,.string a.value.a.sym.text,.int .i64 a.value.a.sym.n,.string a.value.b.var,.int .i64 a.value.b.sym.kind,.string a.value.b.sym.text,.int .i64 a.value.b.sym.n,.int .i64 a.pref,.string a.other.var,.int .i64 a.other.sym.kind,.string a.other.sym.text,.int .i64 a.other.sym.n]] w fun e w'=>e = .returned (.bool (actB a))∧Below w.heap.size w w':=by
 have hq:=eqz_atom a.other
 have hq2:=neqz_atom a.value.b
 go_enter Try.func51,Try.ntmps51
 go_upto_region 1 with fail
 obtain ⟨w1,hw1⟩ : ∃w1,w1=(w.alloc (.cells #[.string a.id,.string a.attr.var,.int .i64 a.attr.sym.kind,.string a.attr.sym.text,.int .i64 a.attr.sym.n,.int .i64 a.value.op,.string a.value.a.var,.int .i64 a.value.a.sym.kind,.string a.value.a.sym.text,.int .i64 a.value.a.sym.n,.string a.value.b.var,.int .i64 a.value.b.sym.kind,.string a.value.b.sym.text,.int .i64 a.value.b.sym.n,.int .i64 a.pref,.string a.other.var,.int .i64 a.other.sym.kind,.string a.other.sym.text,.int .i64 a.other.sym.n] 58)):=⟨_,rfl⟩
 rw [← hw1]
 have HB:=Lib.hid (show Below w.heap.size w w1 by rw [hw1];exact (by repeat (first | exact Below.refl _ _ | refine Below.drew ?_ | refine Below.al ?_ _ | refine Below.sc ?_ _)))
 have Ka:=Lib.hid (show Blk w1 (w.heap.size) 58 #[.string a.id,.string a.attr.var,.int .i64 a.attr.sym.kind,.string a.attr.sym.text,.int .i64 a.attr.sym.n,.int .i64 a.value.op,.string a.value.a.var,.int .i64 a.value.a.sym.kind,.string a.value.a.sym.text,.int .i64 a.value.a.sym.n,.string a.value.b.var,.int .i64 a.value.b.sym.kind,.string a.value.b.sym.text,.int .i64 a.value.b.sym.n,.int .i64 a.pref,.string a.other.var,.int .i64 a.other.sym.kind,.string a.other.sym.text,.int .i64 a.other.sym.n] by rw [hw1];exact (Blk.new w 58 #[.string a.id,.string a.attr.var,.int .i64 a.attr.sym.kind,.string a.attr.sym.text,.int .i64 a.attr.sym.n,.int .i64 a.value.op,.string a.value.a.var,.int .i64 a.value.a.sym.kind,.string a.value.a.sym.text,.int .i64 a.value.a.sym.n,.string a.value.b.var,.int .i64 a.value.b.sym.kind,.string a.value.b.sym.text,.int .i64 a.value.b.sym.n,.int .i64 a.pref,.string a.other.var,.int .i64 a.other.sym.kind,.string a.other.sym.text,.int .i64 a.other.sym.n]))
 clear hw1
 obtain ⟨a0,a1,a2,a3,a4,a5,a6,a7,a8,a9,a10,a11,a12,a13,a14,a15,a16,a17,a18⟩:=Ka.out.c19
 have az:=Ka.out.lt
 cases hw:isWord a.id
 · skip
   have hc:=fun W=>rword_is a.id W
   simp only [hw] at hc
   have HCw:=Lib.hid hc
   clear hc
   go_wp2_with fail
   with_reducible refine (HCw.out _).mono ?_
   rintro e w0 ⟨rfl,rfl⟩
   have HR:=Lib.hid (show actB a=false by simp [actB,termB,otherB,hw])
   go_wp2_with fail
   go_ret
   exact ⟨by rw [HR.out]<;>rfl,by (repeat (first | exact Below.refl _ _ | exact HB.out | refine Below.drew ?_ | refine Below.al ?_ _ | refine Below.sc ?_ _))⟩
 · skip
   have hc:=fun W=>rword_is a.id W
   simp only [hw] at hc
   have HCw:=Lib.hid hc
   clear hc
   go_wp2_with fail
   with_reducible refine (HCw.out _).mono ?_
   rintro e w0 ⟨rfl,rfl⟩
   cases hat:atomB a.attr
   · skip
     have hc:=fun W=>ratom_is a.attr W
     simp only [hat] at hc
     have HCat:=Lib.hid hc
     clear hc
     go_wp2_with fail
     with_reducible refine (HCat.out _).mono ?_
     rintro e w2 ⟨rfl,hb⟩
     have hbs:=Below.trans (show Below w1.heap.size w1 _ from (by (repeat (first | exact Below.refl _ _ | refine Below.drew ?_ | refine Below.al ?_ _ | refine Below.sc ?_ _)))) (hb.mono (by simp<;>omega))
     have Ka:=Lib.hid (Ka.out.new_ hbs)
     have HB:=Lib.hid (HB.out.trans (hbs.mono HB.out.size))
     have hsz2:=hbs.size
     clear a0 a1 a2 a3 a4 a5 a6 a7 a8 a9 a10 a11 a12 a13 a14 a15 a16 a17 a18 az hb hbs
     obtain ⟨a0,a1,a2,a3,a4,a5,a6,a7,a8,a9,a10,a11,a12,a13,a14,a15,a16,a17,a18⟩:=Ka.out.c19
     have az:=Ka.out.lt
     have HR:=Lib.hid (show actB a=false by simp [actB,termB,otherB,hw,hat])
     go_wp2_with fail
     go_ret
     exact ⟨by rw [HR.out]<;>rfl,by (repeat (first | exact Below.refl _ _ | exact HB.out | refine Below.drew ?_ | refine Below.al ?_ _ | refine Below.sc ?_ _))⟩
   · skip
     have hc:=fun W=>ratom_is a.attr W
     simp only [hat] at hc
     have HCat:=Lib.hid hc
     clear hc
     go_wp2_with fail
     with_reducible refine (HCat.out _).mono ?_
     rintro e w2 ⟨rfl,hb⟩
     have hbs:=Below.trans (show Below w1.heap.size w1 _ from (by (repeat (first | exact Below.refl _ _ | refine Below.drew ?_ | refine Below.al ?_ _ | refine Below.sc ?_ _)))) (hb.mono (by simp<;>omega))
     have Ka:=Lib.hid (Ka.out.new_ hbs)
     have HB:=Lib.hid (HB.out.trans (hbs.mono HB.out.size))
     have hsz2:=hbs.size
     clear a0 a1 a2 a3 a4 a5 a6 a7 a8 a9 a10 a11 a12 a13 a14 a15 a16 a17 a18 az hb hbs
     obtain ⟨a0,a1,a2,a3,a4,a5,a6,a7,a8,a9,a10,a11,a12,a13,a14,a15,a16,a17,a18⟩:=Ka.out.c19
     have az:=Ka.out.lt
     cases hva:atomB a.value.a
     · skip
       have hc:=fun W=>ratom_is a.value.a W
       simp only [hva] at hc
       have HCva:=Lib.hid hc
       clear hc
       go_wp2_with fail
       with_reducible refine (HCva.out _).mono ?_
       rintro e w3 ⟨rfl,hb⟩
       have hbs:=Below.trans (show Below w2.heap.size w2 _ from (by (repeat (first | exact Below.refl _ _ | refine Below.drew ?_ | refine Below.al ?_ _ | refine Below.sc ?_ _)))) (hb.mono (by simp<;>omega))
       have Ka:=Lib.hid (Ka.out.new_ hbs)
       have HB:=Lib.hid (HB.out.trans (hbs.mono HB.out.size))
       have hsz3:=hbs.size
       clear a0 a1 a2 a3 a4 a5 a6 a7 a8 a9 a10 a11 a12 a13 a14 a15 a16 a17 a18 az hb hbs
       obtain ⟨a0,a1,a2,a3,a4,a5,a6,a7,a8,a9,a10,a11,a12,a13,a14,a15,a16,a17,a18⟩:=Ka.out.c19
       have az:=Ka.out.lt
       have HR:=Lib.hid (show actB a=false by simp [actB,termB,otherB,hw,hat,hva])
       go_wp2_with fail
       go_ret
       exact ⟨by rw [HR.out]<;>rfl,by (repeat (first | exact Below.refl _ _ | exact HB.out | refine Below.drew ?_ | refine Below.al ?_ _ | refine Below.sc ?_ _))⟩
     · skip
       have hc:=fun W=>ratom_is a.value.a W
       simp only [hva] at hc
       have HCva:=Lib.hid hc
       clear hc
       go_wp2_with fail
       with_reducible refine (HCva.out _).mono ?_
       rintro e w3 ⟨rfl,hb⟩
       have hbs:=Below.trans (show Below w2.heap.size w2 _ from (by (repeat (first | exact Below.refl _ _ | refine Below.drew ?_ | refine Below.al ?_ _ | refine Below.sc ?_ _)))) (hb.mono (by simp<;>omega))
       have Ka:=Lib.hid (Ka.out.new_ hbs)
       have HB:=Lib.hid (HB.out.trans (hbs.mono HB.out.size))
       have hsz3:=hbs.size
       clear a0 a1 a2 a3 a4 a5 a6 a7 a8 a9 a10 a11 a12 a13 a14 a15 a16 a17 a18 az hb hbs
       obtain ⟨a0,a1,a2,a3,a4,a5,a6,a7,a8,a9,a10,a11,a12,a13,a14,a15,a16,a17,a18⟩:=Ka.out.c19
       have az:=Ka.out.lt
       by_cases hol:a.value.op<0
       · skip
         have o0:decide (a.value.op<0)=true:=decide_eq_true hol
         have Hol:=Lib.hid hol
         clear hol
         have HR:=Lib.hid (show actB a=false by simp [actB,termB,otherB,hw,hat,hva,Hol.out])
         go_wp2_with fail
         go_ret
         exact ⟨by rw [HR.out]<;>rfl,by (repeat (first | exact Below.refl _ _ | exact HB.out | refine Below.drew ?_ | refine Below.al ?_ _ | refine Below.sc ?_ _))⟩
       · skip
         have o0:decide (a.value.op<0)=false:=decide_eq_false hol
         have Hol:=Lib.hid hol
         clear hol
         by_cases hoh:3<a.value.op
         · skip
           have o1:decide (3<a.value.op)=true:=decide_eq_true hoh
           have Hoh:=Lib.hid hoh
           clear hoh
           have HR:=Lib.hid (show actB a=false by simp [actB,termB,otherB,hw,hat,hva,Hol.out,Hoh.out])
           go_wp2_with fail
           go_ret
           exact ⟨by rw [HR.out]<;>rfl,by (repeat (first | exact Below.refl _ _ | exact HB.out | refine Below.drew ?_ | refine Below.al ?_ _ | refine Below.sc ?_ _))⟩
         · skip
           have o1:decide (3<a.value.op)=false:=decide_eq_false hoh
           have Hoh:=Lib.hid hoh
           clear hoh
           by_cases hpl:a.pref<1
           · skip
             have p0:decide (a.pref<1)=true:=decide_eq_true hpl
             have Hpl:=Lib.hid hpl
             clear hpl
             have HR:=Lib.hid (show actB a=false by simp [actB,termB,otherB,hw,hat,hva,Hol.out,Hoh.out,Hpl.out])
             go_wp2_with fail
             go_ret
             exact ⟨by rw [HR.out]<;>rfl,by (repeat (first | exact Below.refl _ _ | exact HB.out | refine Below.drew ?_ | refine Below.al ?_ _ | refine Below.sc ?_ _))⟩
           · skip
             have p0:decide (a.pref<1)=false:=decide_eq_false hpl
             have Hpl:=Lib.hid hpl
             clear hpl
             by_cases hph:10<a.pref
             · skip
               have p1:decide (10<a.pref)=true:=decide_eq_true hph
               have Hph:=Lib.hid hph
               clear hph
               have HR:=Lib.hid (show actB a=false by simp [actB,termB,otherB,hw,hat,hva,Hol.out,Hoh.out,Hpl.out,Hph.out])
               go_wp2_with fail
               go_ret
               exact ⟨by rw [HR.out]<;>rfl,by (repeat (first | exact Below.refl _ _ | exact HB.out | refine Below.drew ?_ | refine Below.al ?_ _ | refine Below.sc ?_ _))⟩
             · skip
               have p1:decide (10<a.pref)=false:=decide_eq_false hph
               have Hph:=Lib.hid hph
               clear hph
               by_cases hop:a.value.op=0
               · skip
                 have oa:(a.value.op == 0)=true:=by simp [hop]
                 have ob:decide (a.value.op=0)=true:=by simp [hop]
                 have HOP:=Lib.hid hop
                 clear hop
                 cases he:emptyB a.value.b
                 · skip
                   simp only [he] at hq2
                   have HE:=Lib.hid he
                   clear he
                   have HR:=Lib.hid (show actB a=false by simp [actB,termB,otherB,hw,hat,hva,Hol.out,Hoh.out,Hpl.out,Hph.out,HOP.out,HE.out])
                   go_wp2_with fail
                   go_ret
                   exact ⟨by rw [HR.out]<;>rfl,by (repeat (first | exact Below.refl _ _ | exact HB.out | refine Below.drew ?_ | refine Below.al ?_ _ | refine Below.sc ?_ _))⟩
                 · skip
                   simp only [he] at hq2
                   have HE:=Lib.hid he
                   clear he
                   by_cases hb:8≤a.pref
                   · skip
                     have b0:decide (8≤a.pref)=true:=decide_eq_true hb
                     have hz:a.pref=8∨a.pref=9∨a.pref=10:=by have:=Hpl.out;have:=Hph.out;omega
                     have HO:=Lib.hid (show otherB a.pref=true by rcases hz with h | h | h<;>simp [otherB,h])
                     clear hb hz
                     go_wp2_with fail
                     with_reducible refine (ratom_is a.other _).mono ?_
                     rintro e w4 ⟨rfl,hb⟩
                     have hbs:=Below.trans (show Below w3.heap.size w3 _ from (by (repeat (first | exact Below.refl _ _ | refine Below.drew ?_ | refine Below.al ?_ _ | refine Below.sc ?_ _)))) (hb.mono (by simp<;>omega))
                     have Ka:=Lib.hid (Ka.out.new_ hbs)
                     have HB:=Lib.hid (HB.out.trans (hbs.mono HB.out.size))
                     have hsz4:=hbs.size
                     clear a0 a1 a2 a3 a4 a5 a6 a7 a8 a9 a10 a11 a12 a13 a14 a15 a16 a17 a18 az hb hbs
                     obtain ⟨a0,a1,a2,a3,a4,a5,a6,a7,a8,a9,a10,a11,a12,a13,a14,a15,a16,a17,a18⟩:=Ka.out.c19
                     have az:=Ka.out.lt
                     have HR:=Lib.hid (show actB a=atomB a.other by simp [actB,termB,hw,hat,hva,Hol.out,Hoh.out,Hpl.out,Hph.out,HOP.out,HE.out,HO.out])
                     go_wp2_with fail
                     go_ret
                     exact ⟨by rw [HR.out]<;>rfl,by (repeat (first | exact Below.refl _ _ | exact HB.out | refine Below.drew ?_ | refine Below.al ?_ _ | refine Below.sc ?_ _))⟩
                   · skip
                     have b0:decide (8≤a.pref)=false:=decide_eq_false hb
                     have HO:=Lib.hid (show otherB a.pref=false by simp [otherB];omega)
                     clear hb
                     have HR:=Lib.hid (show actB a=emptyB a.other by simp [actB,termB,hw,hat,hva,Hol.out,Hoh.out,Hpl.out,Hph.out,HOP.out,HE.out,HO.out])
                     go_wp2_with fail
                     go_ret
                     exact ⟨by rw [HR.out]<;>rfl,by (repeat (first | exact Below.refl _ _ | exact HB.out | refine Below.drew ?_ | refine Below.al ?_ _ | refine Below.sc ?_ _))⟩
               · skip
                 have oa:(a.value.op == 0)=false:=by simp [hop]
                 have ob:decide (a.value.op=0)=false:=by simp [hop]
                 have HOP:=Lib.hid hop
                 clear hop
                 cases hvb:atomB a.value.b
                 · skip
                   have hc:=fun W=>ratom_is a.value.b W
                   simp only [hvb] at hc
                   have HCvb:=Lib.hid hc
                   clear hc
                   go_wp2_with fail
                   with_reducible refine (HCvb.out _).mono ?_
                   rintro e w4 ⟨rfl,hb⟩
                   have hbs:=Below.trans (show Below w3.heap.size w3 _ from (by (repeat (first | exact Below.refl _ _ | refine Below.drew ?_ | refine Below.al ?_ _ | refine Below.sc ?_ _)))) (hb.mono (by simp<;>omega))
                   have Ka:=Lib.hid (Ka.out.new_ hbs)
                   have HB:=Lib.hid (HB.out.trans (hbs.mono HB.out.size))
                   have hsz4:=hbs.size
                   clear a0 a1 a2 a3 a4 a5 a6 a7 a8 a9 a10 a11 a12 a13 a14 a15 a16 a17 a18 az hb hbs
                   obtain ⟨a0,a1,a2,a3,a4,a5,a6,a7,a8,a9,a10,a11,a12,a13,a14,a15,a16,a17,a18⟩:=Ka.out.c19
                   have az:=Ka.out.lt
                   have HR:=Lib.hid (show actB a=false by simp [actB,termB,otherB,hw,hat,hva,Hol.out,Hoh.out,Hpl.out,Hph.out,HOP.out,wordAB,hvb])
                   go_wp2_with fail
                   go_ret
                   exact ⟨by rw [HR.out]<;>rfl,by (repeat (first | exact Below.refl _ _ | exact HB.out | refine Below.drew ?_ | refine Below.al ?_ _ | refine Below.sc ?_ _))⟩
                 · skip
                   have hc:=fun W=>ratom_is a.value.b W
                   simp only [hvb] at hc
                   have HCvb:=Lib.hid hc
                   clear hc
                   go_wp2_with fail
                   with_reducible refine (HCvb.out _).mono ?_
                   rintro e w4 ⟨rfl,hb⟩
                   have hbs:=Below.trans (show Below w3.heap.size w3 _ from (by (repeat (first | exact Below.refl _ _ | refine Below.drew ?_ | refine Below.al ?_ _ | refine Below.sc ?_ _)))) (hb.mono (by simp<;>omega))
                   have Ka:=Lib.hid (Ka.out.new_ hbs)
                   have HB:=Lib.hid (HB.out.trans (hbs.mono HB.out.size))
                   have hsz4:=hbs.size
                   clear a0 a1 a2 a3 a4 a5 a6 a7 a8 a9 a10 a11 a12 a13 a14 a15 a16 a17 a18 az hb hbs
                   obtain ⟨a0,a1,a2,a3,a4,a5,a6,a7,a8,a9,a10,a11,a12,a13,a14,a15,a16,a17,a18⟩:=Ka.out.c19
                   have az:=Ka.out.lt
                   by_cases ha3:a.value.a.sym.kind=3
                   · skip
                     have ka:(a.value.a.sym.kind == 3)=true:=by simp [ha3]
                     have kb:decide (a.value.a.sym.kind=3)=true:=by simp [ha3]
                     have HA3:=Lib.hid (atomB_str hva ha3)
                     have HK3:=Lib.hid ha3
                     clear ha3
                     have HR:=Lib.hid (show actB a=false by simp [actB,termB,otherB,hw,hat,hva,Hol.out,Hoh.out,Hpl.out,Hph.out,HOP.out,wordAB,hvb,HA3.out,HK3.out])
                     go_wp2_with fail
                     go_ret
                     exact ⟨by rw [HR.out]<;>rfl,by (repeat (first | exact Below.refl _ _ | exact HB.out | refine Below.drew ?_ | refine Below.al ?_ _ | refine Below.sc ?_ _))⟩
                   · skip
                     have ka:(a.value.a.sym.kind == 3)=false:=by simp [ha3]
                     have kb:decide (a.value.a.sym.kind=3)=false:=by simp [ha3]
                     have HA3:=Lib.hid ha3
                     clear ha3
                     by_cases hb3:a.value.b.sym.kind=3
                     · skip
                       have ma:(a.value.b.sym.kind == 3)=true:=by simp [hb3]
                       have mb:decide (a.value.b.sym.kind=3)=true:=by simp [hb3]
                       have HB3:=Lib.hid (atomB_str hvb hb3)
                       have HM3:=Lib.hid hb3
                       clear hb3
                       have HR:=Lib.hid (show actB a=false by simp [actB,termB,otherB,hw,hat,hva,Hol.out,Hoh.out,Hpl.out,Hph.out,HOP.out,wordAB,hvb,HA3.out,HB3.out,HM3.out])
                       go_wp2_with fail
                       go_ret
                       exact ⟨by rw [HR.out]<;>rfl,by (repeat (first | exact Below.refl _ _ | exact HB.out | refine Below.drew ?_ | refine Below.al ?_ _ | refine Below.sc ?_ _))⟩
                     · skip
                       have ma:(a.value.b.sym.kind == 3)=false:=by simp [hb3]
                       have mb:decide (a.value.b.sym.kind=3)=false:=by simp [hb3]
                       have HB3:=Lib.hid hb3
                       clear hb3
                       by_cases hb:8≤a.pref
                       · skip
                         have b0:decide (8≤a.pref)=true:=decide_eq_true hb
                         have hz:a.pref=8∨a.pref=9∨a.pref=10:=by have:=Hpl.out;have:=Hph.out;omega
                         have HO:=Lib.hid (show otherB a.pref=true by rcases hz with h | h | h<;>simp [otherB,h])
                         clear hb hz
                         go_wp2_with fail
                         with_reducible refine (ratom_is a.other _).mono ?_
                         rintro e w5 ⟨rfl,hb⟩
                         have hbs:=Below.trans (show Below w4.heap.size w4 _ from (by (repeat (first | exact Below.refl _ _ | refine Below.drew ?_ | refine Below.al ?_ _ | refine Below.sc ?_ _)))) (hb.mono (by simp<;>omega))
                         have Ka:=Lib.hid (Ka.out.new_ hbs)
                         have HB:=Lib.hid (HB.out.trans (hbs.mono HB.out.size))
                         have hsz5:=hbs.size
                         clear a0 a1 a2 a3 a4 a5 a6 a7 a8 a9 a10 a11 a12 a13 a14 a15 a16 a17 a18 az hb hbs
                         obtain ⟨a0,a1,a2,a3,a4,a5,a6,a7,a8,a9,a10,a11,a12,a13,a14,a15,a16,a17,a18⟩:=Ka.out.c19
                         have az:=Ka.out.lt
                         have HR:=Lib.hid (show actB a=atomB a.other by simp [actB,termB,hw,hat,hva,Hol.out,Hoh.out,Hpl.out,Hph.out,HOP.out,wordAB,hvb,HA3.out,HB3.out,HO.out])
                         go_wp2_with fail
                         go_ret
                         exact ⟨by rw [HR.out]<;>rfl,by (repeat (first | exact Below.refl _ _ | exact HB.out | refine Below.drew ?_ | refine Below.al ?_ _ | refine Below.sc ?_ _))⟩
                       · skip
                         have b0:decide (8≤a.pref)=false:=decide_eq_false hb
                         have HO:=Lib.hid (show otherB a.pref=false by simp [otherB];omega)
                         clear hb
                         have HR:=Lib.hid (show actB a=emptyB a.other by simp [actB,termB,hw,hat,hva,Hol.out,Hoh.out,Hpl.out,Hph.out,HOP.out,wordAB,hvb,HA3.out,HB3.out,HO.out])
                         go_wp2_with fail
                         go_ret
                         exact ⟨by rw [HR.out]<;>rfl,by (repeat (first | exact Below.refl _ _ | exact HB.out | refine Below.drew ?_ | refine Below.al ?_ _ | refine Below.sc ?_ _))⟩
end Go.Proofs.Ytffemfglngikbaa
namespace Go.Proofs.Ytffemfglngikbaa
open Go.RowKit Go.Shelf
attribute [local go_sem] Oper.semAt_some
set_option linter.unusedSimpArgs false
set_option maxRecDepth 100000 in
set_option maxHeartbeats 8000000 in
theorem rtest_is (t:TestT) (A:Option Addr) (c:Nat) (w:World) (hrd:RowRd w 3 Sym.cells A c t.list):Calls Try.prog 84 #[.agg #[.int .i64 t.rel,.string t.var,.int .i64 t.sym.kind,.string t.sym.text,.int .i64 t.sym.n,.slice A t.list.length c]] w fun e w'=>e = .returned (.bool (testB t))∧Below w.heap.size w w':=by
 have HRD:=Lib.hid hrd
 have hlc:=hrd.cap
 clear hrd
 have hq : ∀W:World,(binOp .neq 52 (.agg #[.int .i64 t.sym.kind,.string t.sym.text,.int .i64 t.sym.n]) (.agg #[.int .i64 0,.string ⟨#[]⟩,.int .i64 0])).run Try.prog W = .ok (.bool (!noneB t.sym)) W:=fun W=>neq_sym t.sym zS W
 go_enter Try.func84,Try.ntmps84
 go_upto_region 1 with fail
 obtain ⟨w1,hw1⟩ : ∃w1,w1=(w.alloc (.cells #[.int .i64 t.rel,.string t.var,.int .i64 t.sym.kind,.string t.sym.text,.int .i64 t.sym.n,.slice A t.list.length c] 65)):=⟨_,rfl⟩
 rw [← hw1]
 have HB:=Lib.hid (show Below w.heap.size w w1 by rw [hw1];exact (by repeat (first | exact Below.refl _ _ | refine Below.drew ?_ | refine Below.al ?_ _ | refine Below.sc ?_ _)))
 have Kt:=Lib.hid (show Blk w1 (w.heap.size) 65 #[.int .i64 t.rel,.string t.var,.int .i64 t.sym.kind,.string t.sym.text,.int .i64 t.sym.n,.slice A t.list.length c] by rw [hw1];exact (Blk.new w 65 #[.int .i64 t.rel,.string t.var,.int .i64 t.sym.kind,.string t.sym.text,.int .i64 t.sym.n,.slice A t.list.length c]))
 clear hw1
 obtain ⟨t0,t1,t2,t3,t4,t5⟩:=Kt.out.c6
 have tz:=Kt.out.lt
 by_cases h8:t.rel=8
 · skip
   have ra:(t.rel == 8)=true:=by simp [h8]
   have rb:decide (t.rel=8)=true:=by simp [h8]
   have H8:=Lib.hid h8
   clear h8
   by_cases hv:t.var.toList = []
   · skip
     have vva:(t.var.toList == [])=true:=by simp [hv]
     have vvb:t.var.toList.isEmpty=true:=by simp [hv]
     have vvc:decide (t.var.toList = [])=true:=by simp [hv]
     have vvd:(t.var.toList != [])=false:=by simp [hv]
     have Hv:=Lib.hid hv
     clear hv
     cases hn:noneB t.sym
     · skip
       simp only [hn] at hq
       have HR:=Lib.hid (show testB t=false by simp [testB,H8.out,Hv.out,hn])
       go_wp2_with fail
       go_ret
       exact ⟨by rw [HR.out]<;>rfl,by (repeat (first | exact Below.refl _ _ | exact HB.out | refine Below.drew ?_ | refine Below.al ?_ _ | refine Below.sc ?_ _))⟩
     · skip
       simp only [hn] at hq
       have HN:=Lib.hid hn
       clear hn
       by_cases hl:t.list.length<1
       · skip
         have l0:decide ((t.list.length:Int)<1)=true:=decide_eq_true (by omega)
         have Hl:=Lib.hid hl
         clear hl
         have hl1:t.list.length=0:=by have:=Hl.out;omega
         have HL1:=Lib.hid hl1
         clear hl1
         have HR:=Lib.hid (show testB t=false by simp [testB,H8.out,Hv.out,HN.out,Hl.out,HL1.out])
         go_wp2_with fail
         go_ret
         exact ⟨by rw [HR.out]<;>rfl,by (repeat (first | exact Below.refl _ _ | exact HB.out | refine Below.drew ?_ | refine Below.al ?_ _ | refine Below.sc ?_ _))⟩
       · skip
         have l0:decide ((t.list.length:Int)<1)=false:=decide_eq_false (by omega)
         have Hl:=Lib.hid hl
         clear hl
         by_cases hm:8<t.list.length
         · skip
           have m0:decide ((8:Int)<(t.list.length:Int))=true:=decide_eq_true (by omega)
           have Hm:=Lib.hid hm
           clear hm
           have HL1:=Lib.hid (show ¬t.list.length≤8 by have:=Hm.out;omega)
           have HR:=Lib.hid (show testB t=false by simp [testB,H8.out,Hv.out,HN.out,Hl.out,Hm.out,HL1.out])
           go_wp2_with fail
           go_ret
           exact ⟨by rw [HR.out]<;>rfl,by (repeat (first | exact Below.refl _ _ | exact HB.out | refine Below.drew ?_ | refine Below.al ?_ _ | refine Below.sc ?_ _))⟩
         · skip
           have m0:decide ((8:Int)<(t.list.length:Int))=false:=decide_eq_false (by omega)
           have Hm:=Lib.hid hm
           clear hm
           have HR:=Lib.hid (show testB t=t.list.all constB by
            have:=Hl.out
            have:=Hm.out
            simp [testB,H8.out,Hv.out,HN.out,show 1≤t.list.length by omega,show t.list.length≤8 by omega])
           clear t0 t1 t2 t3 t4 t5 tz 
           obtain ⟨t0,t1,t2,t3,t4,t5⟩:=Kt.out.c6
           have tz:=Kt.out.lt
           go_wp2_with fail
           clear t0 t1 t2 t3 t4 t5 tz 
           go_loopw [3] (fun s wr=>∃i:Nat,s = .int .i64 i∧i≤t.list.length∧(∀k,(h:k<t.list.length)→k<i→constB t.list[k]=true)∧Below w.heap.size w wr∧Blk wr (w.heap.size) 65 #[.int .i64 t.rel,.string t.var,.int .i64 t.sym.kind,.string t.sym.text,.int .i64 t.sym.n,.slice A t.list.length c]) (fun s wr=>t.list.length - (intOf s).toNat)
           case atStart=>exact ⟨0,rfl,Nat.zero_le _,fun k _ h=>absurd h (by omega),HB.out,Kt.out⟩
           case round=>
            obtain ⟨i,rfl,hi,hall,hB,hK⟩:=hrel
            have HALL:=Lib.hid hall
            have HB:=Lib.hid hB
            have Kt:=Lib.hid hK
            clear hall hB hK
            obtain ⟨t0,t1,t2,t3,t4,t5⟩:=Kt.out.c6
            have tz:=Kt.out.lt
            by_cases hlt:i<t.list.length
            · skip
              obtain ⟨y,hy⟩ : ∃y,y=t.list[i]:=⟨_,rfl⟩
              obtain ⟨g,off,rfl,hg,q0,q1,q2⟩:=sym_at (HRD.out.new_ HB.out) hlt
              rw [← hy] at q0 q1 q2
              have HY:=Lib.hid hy
              have b1:(0:Int)≤(i:Int):=by omega
              have b2:(i:Int)<(t.list.length:Int):=by omega
              clear hy
              cases hcb:constB y
              · skip
                have hc:=fun W=>rconst_is y W
                simp only [hcb] at hc
                have HCcb:=Lib.hid hc
                clear hc
                go_wp2_with fail
                with_reducible refine (HCcb.out _).mono ?_
                rintro e w2 ⟨rfl,hb⟩
                have hbs:=Below.trans (show Below wr.heap.size wr _ from (by (repeat (first | exact Below.refl _ _ | refine Below.drew ?_ | refine Below.al ?_ _ | refine Below.sc ?_ _)))) (hb.mono (by simp<;>omega))
                have Kt:=Lib.hid (Kt.out.new_ hbs)
                have HB:=Lib.hid (HB.out.trans (hbs.mono HB.out.size))
                have hsz2:=hbs.size
                clear t0 t1 t2 t3 t4 t5 tz hb hbs
                obtain ⟨t0,t1,t2,t3,t4,t5⟩:=Kt.out.c6
                have tz:=Kt.out.lt
                have HRf:=Lib.hid (show t.list.all constB=false from List.all_eq_false.2 ⟨y,by rw [HY.out];exact List.getElem_mem hlt,by rw [hcb];simp⟩)
                clear hcb q0 q1 q2
                go_wp2_with fail
                go_ret
                exact ⟨by rw [HR.out,HRf.out]<;>rfl,by (repeat (first | exact Below.refl _ _ | exact HB.out | refine Below.drew ?_ | refine Below.al ?_ _ | refine Below.sc ?_ _))⟩
              · skip
                have hc:=fun W=>rconst_is y W
                simp only [hcb] at hc
                have HCcb:=Lib.hid hc
                clear hc
                go_wp2_with fail
                with_reducible refine (HCcb.out _).mono ?_
                rintro e w2 ⟨rfl,hb⟩
                have hbs:=Below.trans (show Below wr.heap.size wr _ from (by (repeat (first | exact Below.refl _ _ | refine Below.drew ?_ | refine Below.al ?_ _ | refine Below.sc ?_ _)))) (hb.mono (by simp<;>omega))
                have Kt:=Lib.hid (Kt.out.new_ hbs)
                have HB:=Lib.hid (HB.out.trans (hbs.mono HB.out.size))
                have hsz2:=hbs.size
                clear t0 t1 t2 t3 t4 t5 tz hb hbs
                obtain ⟨t0,t1,t2,t3,t4,t5⟩:=Kt.out.c6
                have tz:=Kt.out.lt
                have HCB:=Lib.hid hcb
                clear hcb q0 q1 q2
                go_wp2_with fail
                go_roundw
                case rel=>exact ⟨i+1,by go_num,by omega,fun k hk hki=>by
                 by_cases e:k=i
                 · subst e;rw [← HY.out];exact HCB.out
                 · exact HALL.out k hk (by omega),HB.out,Kt.out⟩
                case measure=>simp [intOf]<;>omega
            · skip
              obtain rfl:i=t.list.length:=by omega
              have HRt:=Lib.hid (show t.list.all constB=true from List.all_eq_true.2 (fun x hx=>by
               obtain ⟨k,hk,rfl⟩:=List.getElem_of_mem hx
               exact HALL.out k hk hk))
              go_wp2_with fail
              go_ret
              exact ⟨by rw [HR.out,HRt.out]<;>rfl,by (repeat (first | exact Below.refl _ _ | exact HB.out | refine Below.drew ?_ | refine Below.al ?_ _ | refine Below.sc ?_ _))⟩
   · skip
     have vva:(t.var.toList == [])=false:=by simp [hv]
     have vvb:t.var.toList.isEmpty=false:=by simp [hv]
     have vvc:decide (t.var.toList = [])=false:=by simp [hv]
     have vvd:(t.var.toList != [])=true:=by simp [hv]
     have Hv:=Lib.hid hv
     clear hv
     have HR:=Lib.hid (show testB t=false by simp [testB,H8.out,Hv.out])
     go_wp2_with fail
     go_ret
     exact ⟨by rw [HR.out]<;>rfl,by (repeat (first | exact Below.refl _ _ | exact HB.out | refine Below.drew ?_ | refine Below.al ?_ _ | refine Below.sc ?_ _))⟩
 · skip
   have ra:(t.rel == 8)=false:=by simp [h8]
   have rb:decide (t.rel=8)=false:=by simp [h8]
   have H8:=Lib.hid h8
   clear h8
   by_cases ha:t.rel<1
   · skip
     have a0:decide (1≤t.rel)=false:=decide_eq_false (by omega)
     have Ha:=Lib.hid ha
     clear ha
     have HR:=Lib.hid (show testB t=false by simp [testB,H8.out,Ha.out])
     go_wp2_with fail
     go_ret
     exact ⟨by rw [HR.out]<;>rfl,by (repeat (first | exact Below.refl _ _ | exact HB.out | refine Below.drew ?_ | refine Below.al ?_ _ | refine Below.sc ?_ _))⟩
   · skip
     have a0:decide (1≤t.rel)=true:=decide_eq_true (by omega)
     have Ha:=Lib.hid ha
     clear ha
     by_cases hb:7<t.rel
     · skip
       have b0:decide (t.rel≤7)=false:=decide_eq_false (by omega)
       have Hb:=Lib.hid hb
       clear hb
       have HR:=Lib.hid (show testB t=false by simp [testB,H8.out,Ha.out,Hb.out])
       go_wp2_with fail
       go_ret
       exact ⟨by rw [HR.out]<;>rfl,by (repeat (first | exact Below.refl _ _ | exact HB.out | refine Below.drew ?_ | refine Below.al ?_ _ | refine Below.sc ?_ _))⟩
     · skip
       have b0:decide (t.rel≤7)=true:=decide_eq_true (by omega)
       have Hb:=Lib.hid hb
       clear hb
       by_cases hl:t.list.length=0
       · skip
         have lz:((t.list.length:Int) == 0)=true:=by rw [beq_iff_eq];omega
         have ly:decide ((t.list.length:Int)=0)=true:=decide_eq_true (by omega)
         have Hl:=Lib.hid hl
         clear hl
         have HS:=Lib.hid (show testB t=atomB ⟨t.var,t.sym⟩ by simp [testB,atomB,H8.out,Ha.out,Hb.out,Hl.out])
         go_wp2_with fail
         with_reducible refine (ratom_is ⟨t.var,t.sym⟩ _).mono ?_
         rintro e w2 ⟨rfl,hb⟩
         have hbs:=Below.trans (show Below w1.heap.size w1 _ from (by (repeat (first | exact Below.refl _ _ | refine Below.drew ?_ | refine Below.al ?_ _ | refine Below.sc ?_ _)))) (hb.mono (by simp<;>omega))
         have Kt:=Lib.hid (Kt.out.new_ hbs)
         have HB:=Lib.hid (HB.out.trans (hbs.mono HB.out.size))
         have hsz2:=hbs.size
         clear t0 t1 t2 t3 t4 t5 tz hb hbs
         obtain ⟨t0,t1,t2,t3,t4,t5⟩:=Kt.out.c6
         have tz:=Kt.out.lt
         go_wp2_with fail
         go_ret
         exact ⟨by rw [HS.out]<;>rfl,by (repeat (first | exact Below.refl _ _ | exact HB.out | refine Below.drew ?_ | refine Below.al ?_ _ | refine Below.sc ?_ _))⟩
       · skip
         have lz:((t.list.length:Int) == 0)=false:=by rw [beq_eq_false_iff_ne];omega
         have ly:decide ((t.list.length:Int)=0)=false:=decide_eq_false (by omega)
         have Hl:=Lib.hid hl
         clear hl
         have HL1:=Lib.hid (show 0<t.list.length by have:=Hl.out;omega)
         have HR:=Lib.hid (show testB t=false by simp [testB,H8.out,Ha.out,Hb.out,HL1.out])
         go_wp2_with fail
         go_ret
         exact ⟨by rw [HR.out]<;>rfl,by (repeat (first | exact Below.refl _ _ | exact HB.out | refine Below.drew ?_ | refine Below.al ?_ _ | refine Below.sc ?_ _))⟩
end Go.Proofs.Ytffemfglngikbaa
namespace Go.Proofs.Ytffemfglngikbaa
open Go.RowKit Go.Shelf
attribute [local go_sem] Oper.semAt_some
set_option linter.unusedSimpArgs false
set_option maxRecDepth 100000 in
set_option maxHeartbeats 8000000 in
theorem rtests_is {D:Nat→Prop} (A:Option Addr) (c:Nat) (l:List TestT) (w:World) (h:RowR repTestT D w A c l):Calls Try.prog 77 #[.slice A l.length c] w fun e w'=>e = .returned (.bool (l.all testB))∧Below w.heap.size w w':=by
 have HR:=Lib.hid h
 have hlc:=h.cap
 clear h
 go_enter Try.func77,Try.ntmps77
 go_wp2_with fail
 go_loopw [3] (fun s wr=>∃i:Nat,s = .int .i64 i∧i≤l.length∧(∀k,(h:k<l.length)→k<i→testB l[k]=true)∧Below w.heap.size w wr) (fun s wr=>l.length - (intOf s).toNat)
 case atStart=>exact ⟨0,rfl,Nat.zero_le _,fun k _ h=>absurd h (by omega),Below.refl _ _⟩
 case round=>
  obtain ⟨i,rfl,hi,hall,hB⟩:=hrel
  have HALL:=Lib.hid hall
  have HB:=Lib.hid hB
  clear hall hB
  by_cases hlt:i<l.length
  · obtain ⟨y,hy⟩ : ∃y,y=l[i]:=⟨_,rfl⟩
    obtain ⟨g,off,A1,c1,rfl,_,hg,q0,q1,q2,q3,q4,q5,hrow⟩:=at_TestT (HR.out.new_ HB.out) hlt
    rw [← hy] at q0 q1 q2 q3 q4 q5 hrow
    have HROW:=Lib.hid (show RowRd wr 3 Sym.cells A1 c1 y.list from RowR.rd (hs:=Sym.cells_length) hrow)
    have HY:=Lib.hid hy
    have b1:(0:Int)≤(i:Int):=by omega
    have b2:(i:Int)<(l.length:Int):=by omega
    have hzr:=HB.out.size
    clear hy hrow
    go_wp2_with fail
    refine (rtest_is y A1 c1 _ (HROW.out.new_ (by (repeat (first | exact Below.refl _ _ | refine Below.drew ?_ | refine Below.al ?_ _ | refine Below.sc ?_ _))))).mono ?_
    rintro e w9 ⟨rfl,hb9⟩
    have HB9:=Lib.hid (HB.out.trans ((Below.trans (show Below wr.heap.size wr _ from (by (repeat (first | exact Below.refl _ _ | refine Below.drew ?_ | refine Below.al ?_ _ | refine Below.sc ?_ _)))) (hb9.mono (by simp)):Below wr.heap.size wr w9).mono hzr))
    clear hb9 q0 q1 q2 q3 q4 q5
    cases hcb:testB y
    · have HRf:=Lib.hid (show l.all testB=false from List.all_eq_false.2 ⟨y,by rw [HY.out];exact List.getElem_mem hlt,by rw [hcb];simp⟩)
      clear hcb
      go_wp2_with fail
      go_ret
      exact ⟨by rw [HRf.out]<;>rfl,HB9.out⟩
    · have HCB:=Lib.hid hcb
      clear hcb
      go_wp2_with fail
      go_roundw
      case rel=>exact ⟨i+1,by go_num,by omega,fun k hk hki=>by
       by_cases e:k=i
       · subst e;rw [← HY.out];exact HCB.out
       · exact HALL.out k hk (by omega),HB9.out⟩
      case measure=>simp [intOf]<;>omega
  · have hie:i=l.length:=by omega
    subst hie
    have HRt:=Lib.hid (show l.all testB=true from List.all_eq_true.2 (fun x hx=>by
     obtain ⟨k,hk,rfl⟩:=List.getElem_of_mem hx
     exact HALL.out k hk hk))
    go_wp2_with fail
    go_ret
    exact ⟨by rw [HRt.out]<;>rfl,HB.out⟩
set_option maxRecDepth 100000 in
set_option maxHeartbeats 8000000 in
theorem rcond_is {D:Nat→Prop} (x:CondT) (deep:Nat) (A1 A2 A3:Option Addr) (c1 c2 c3:Nat) (w:World) (h1:RowR repTestT D w A1 c1 x.attr) (h2:RowR repTestT D w A2 c2 x.value) (hn3:(x.conds.length:Int)≤9223372036854775807) :
 Calls Try.prog 68 #[.agg #[.int .i64 x.kind,.bool x.goal,.string x.id,.slice A1 x.attr.length c1,.slice A2 x.value.length c2,.bool x.acc,.slice A3 x.conds.length c3],.int .i64 deep] w fun e w'=>e = .returned (.int .i64 (condE x deep))∧Below w.heap.size w w':=by
 have H1:=Lib.hid h1
 have H2:=Lib.hid h2
 have hl1:=h1.cap
 have hl2:=h2.cap
 clear h1 h2
 go_enter Try.func68,Try.ntmps68
 go_upto_region 1 with fail
 obtain ⟨w1,hw1⟩ : ∃w1,w1=(w.alloc (.cells #[.int .i64 x.kind,.bool x.goal,.string x.id,.slice A1 x.attr.length c1,.slice A2 x.value.length c2,.bool x.acc,.slice A3 x.conds.length c3] 50)):=⟨_,rfl⟩
 rw [← hw1]
 have HB:=Lib.hid (show Below w.heap.size w w1 by rw [hw1];exact (by repeat (first | exact Below.refl _ _ | refine Below.drew ?_ | refine Below.al ?_ _ | refine Below.sc ?_ _)))
 have Kx:=Lib.hid (show Blk w1 (w.heap.size) 50 #[.int .i64 x.kind,.bool x.goal,.string x.id,.slice A1 x.attr.length c1,.slice A2 x.value.length c2,.bool x.acc,.slice A3 x.conds.length c3] by rw [hw1];exact (Blk.new w 50 #[.int .i64 x.kind,.bool x.goal,.string x.id,.slice A1 x.attr.length c1,.slice A2 x.value.length c2,.bool x.acc,.slice A3 x.conds.length c3]))
 clear hw1
 obtain ⟨x0,x1,x2,x3,x4,x5,x6⟩:=Kx.out.c7
 have xz:=Kx.out.lt
 by_cases ha:x.kind<1
 · skip
   have a0:decide (x.kind<1)=true:=decide_eq_true ha
   have Ha:=Lib.hid ha
   clear ha
   have HN3:=Lib.hid (show ¬x.kind=3 by have:=Ha.out;omega)
   have HN1:=Lib.hid (show ¬x.kind=1 by have:=Ha.out;omega)
   have HN2:=Lib.hid (show ¬x.kind=2 by have:=Ha.out;omega)
   have HR:=Lib.hid (show condE x deep=9 by simp [condE,HN3.out,HN1.out,HN2.out])
   go_wp2_with fail
   go_ret
   exact ⟨by rw [HR.out]<;>rfl,by (repeat (first | exact Below.refl _ _ | exact HB.out | refine Below.drew ?_ | refine Below.al ?_ _ | refine Below.sc ?_ _))⟩
 · skip
   have a0:decide (x.kind<1)=false:=decide_eq_false ha
   have Ha:=Lib.hid ha
   clear ha
   by_cases hb:3<x.kind
   · skip
     have b0:decide (3<x.kind)=true:=decide_eq_true hb
     have Hb:=Lib.hid hb
     clear hb
     have HN3:=Lib.hid (show ¬x.kind=3 by have:=Hb.out;omega)
     have HN1:=Lib.hid (show ¬x.kind=1 by have:=Hb.out;omega)
     have HN2:=Lib.hid (show ¬x.kind=2 by have:=Hb.out;omega)
     have HR:=Lib.hid (show condE x deep=9 by simp [condE,HN3.out,HN1.out,HN2.out])
     go_wp2_with fail
     go_ret
     exact ⟨by rw [HR.out]<;>rfl,by (repeat (first | exact Below.refl _ _ | exact HB.out | refine Below.drew ?_ | refine Below.al ?_ _ | refine Below.sc ?_ _))⟩
   · skip
     have b0:decide (3<x.kind)=false:=decide_eq_false hb
     have Hb:=Lib.hid hb
     clear hb
     by_cases hk:x.kind=3
     · skip
       have ka:(x.kind == 3)=true:=by simp [hk]
       have kb:decide (x.kind=3)=true:=by simp [hk]
       have Hk:=Lib.hid hk
       clear hk
       by_cases hg:x.goal=true
       · skip
         have gq:x.goal=true:=hg
         have Hg:=Lib.hid hg
         clear hg
         have HR:=Lib.hid (show condE x deep=9 by simp [condE,Hk.out,Hg.out])
         go_wp2_with fail
         go_ret
         exact ⟨by rw [HR.out]<;>rfl,by (repeat (first | exact Below.refl _ _ | exact HB.out | refine Below.drew ?_ | refine Below.al ?_ _ | refine Below.sc ?_ _))⟩
       · skip
         have gq:x.goal=false:=by simpa using hg
         have Hg:=Lib.hid hg
         clear hg
         by_cases hv : ¬x.id.toList = []
         · skip
           have vva:(x.id.toList == [])=false:=by simp [hv]
           have vvb:x.id.toList.isEmpty=false:=by simp [hv]
           have vvc:decide (x.id.toList = [])=false:=by simp [hv]
           have vvd:(x.id.toList != [])=true:=by simp [hv]
           have Hv:=Lib.hid hv
           clear hv
           have HR:=Lib.hid (show condE x deep=9 by simp [condE,Hk.out,Hg.out,Hv.out])
           go_wp2_with fail
           go_ret
           exact ⟨by rw [HR.out]<;>rfl,by (repeat (first | exact Below.refl _ _ | exact HB.out | refine Below.drew ?_ | refine Below.al ?_ _ | refine Below.sc ?_ _))⟩
         · skip
           have hv2:x.id.toList = []:=Classical.byContradiction hv
           have vva:(x.id.toList == [])=true:=by simp [hv2]
           have vvb:x.id.toList.isEmpty=true:=by simp [hv2]
           have vvc:decide (x.id.toList = [])=true:=by simp [hv2]
           have vvd:(x.id.toList != [])=false:=by simp [hv2]
           clear hv2
           have Hv:=Lib.hid hv
           clear hv
           have HV2:=Lib.hid (Classical.byContradiction Hv.out)
           by_cases hc:0<x.attr.length
           · skip
             have ca:decide ((0:Int)<(x.attr.length:Int))=true:=decide_eq_true (by omega)
             have cb:decide (0<x.attr.length)=true:=decide_eq_true (by omega)
             have Hc:=Lib.hid hc
             clear hc
             have HR:=Lib.hid (show condE x deep=9 by simp [condE,Hk.out,Hg.out,HV2.out,Hc.out])
             go_wp2_with fail
             go_ret
             exact ⟨by rw [HR.out]<;>rfl,by (repeat (first | exact Below.refl _ _ | exact HB.out | refine Below.drew ?_ | refine Below.al ?_ _ | refine Below.sc ?_ _))⟩
           · skip
             have ca:decide ((0:Int)<(x.attr.length:Int))=false:=decide_eq_false (by omega)
             have cb:decide (0<x.attr.length)=false:=decide_eq_false (by omega)
             have Hc:=Lib.hid hc
             clear hc
             have HLc:=Lib.hid (show x.attr = [] by have:=Hc.out;exact List.length_eq_zero_iff.1 (by omega))
             by_cases hd:0<x.value.length
             · skip
               have da:decide ((0:Int)<(x.value.length:Int))=true:=decide_eq_true (by omega)
               have db:decide (0<x.value.length)=true:=decide_eq_true (by omega)
               have Hd:=Lib.hid hd
               clear hd
               have HR:=Lib.hid (show condE x deep=9 by simp [condE,Hk.out,Hg.out,HV2.out,HLc.out,Hd.out])
               go_wp2_with fail
               go_ret
               exact ⟨by rw [HR.out]<;>rfl,by (repeat (first | exact Below.refl _ _ | exact HB.out | refine Below.drew ?_ | refine Below.al ?_ _ | refine Below.sc ?_ _))⟩
             · skip
               have da:decide ((0:Int)<(x.value.length:Int))=false:=decide_eq_false (by omega)
               have db:decide (0<x.value.length)=false:=decide_eq_false (by omega)
               have Hd:=Lib.hid hd
               clear hd
               have HLd:=Lib.hid (show x.value = [] by have:=Hd.out;exact List.length_eq_zero_iff.1 (by omega))
               by_cases he:x.acc=true
               · skip
                 have eq:x.acc=true:=he
                 have He:=Lib.hid he
                 clear he
                 have HR:=Lib.hid (show condE x deep=9 by simp [condE,Hk.out,Hg.out,HV2.out,HLc.out,HLd.out,He.out])
                 go_wp2_with fail
                 go_ret
                 exact ⟨by rw [HR.out]<;>rfl,by (repeat (first | exact Below.refl _ _ | exact HB.out | refine Below.drew ?_ | refine Below.al ?_ _ | refine Below.sc ?_ _))⟩
               · skip
                 have eq:x.acc=false:=by simpa using he
                 have He:=Lib.hid he
                 clear he
                 by_cases hf:x.conds.length=0
                 · skip
                   have fz:((x.conds.length:Int) == 0)=true:=by rw [beq_iff_eq];omega
                   have fy:decide ((x.conds.length:Int)=0)=true:=decide_eq_true (by omega)
                   have Hf:=Lib.hid hf
                   clear hf
                   have HR:=Lib.hid (show condE x deep=9 by simp [condE,Hk.out,Hg.out,HV2.out,HLc.out,HLd.out,He.out,Hf.out])
                   go_wp2_with fail
                   go_ret
                   exact ⟨by rw [HR.out]<;>rfl,by (repeat (first | exact Below.refl _ _ | exact HB.out | refine Below.drew ?_ | refine Below.al ?_ _ | refine Below.sc ?_ _))⟩
                 · skip
                   have fz:((x.conds.length:Int) == 0)=false:=by rw [beq_eq_false_iff_ne];omega
                   have fy:decide ((x.conds.length:Int)=0)=false:=decide_eq_false (by omega)
                   have Hf:=Lib.hid hf
                   clear hf
                   by_cases hp:3≤deep
                   · skip
                     have p0:decide ((3:Int)≤(deep:Int))=true:=decide_eq_true (by omega)
                     have p1:decide (3≤deep)=true:=decide_eq_true (by omega)
                     have Hp:=Lib.hid hp
                     clear hp
                     have HR:=Lib.hid (show condE x deep=8 by simp [condE,Hk.out,Hg.out,HV2.out,HLc.out,HLd.out,He.out,Hf.out,Hp.out])
                     go_wp2_with fail
                     go_ret
                     exact ⟨by rw [HR.out]<;>rfl,by (repeat (first | exact Below.refl _ _ | exact HB.out | refine Below.drew ?_ | refine Below.al ?_ _ | refine Below.sc ?_ _))⟩
                   · skip
                     have p0:decide ((3:Int)≤(deep:Int))=false:=decide_eq_false (by omega)
                     have p1:decide (3≤deep)=false:=decide_eq_false (by omega)
                     have Hp:=Lib.hid hp
                     clear hp
                     have HR:=Lib.hid (show condE x deep=0 by simp [condE,Hk.out,Hg.out,HV2.out,HLc.out,HLd.out,He.out,Hf.out,Hp.out])
                     go_wp2_with fail
                     go_ret
                     exact ⟨by rw [HR.out]<;>rfl,by (repeat (first | exact Below.refl _ _ | exact HB.out | refine Below.drew ?_ | refine Below.al ?_ _ | refine Below.sc ?_ _))⟩
     · skip
       have ka:(x.kind == 3)=false:=by simp [hk]
       have kb:decide (x.kind=3)=false:=by simp [hk]
       have Hk:=Lib.hid hk
       clear hk
       have H12:=Lib.hid (show x.kind=1∨x.kind=2 by have:=Ha.out;have:=Hb.out;have:=Hk.out;omega)
       by_cases hc:0<x.conds.length
       · skip
         have ca:decide ((0:Int)<(x.conds.length:Int))=true:=decide_eq_true (by omega)
         have cb:decide (0<x.conds.length)=true:=decide_eq_true (by omega)
         have Hc:=Lib.hid hc
         clear hc
         have HR:=Lib.hid (show condE x deep=9 by simp [condE,Hk.out,H12.out,Hc.out])
         go_wp2_with fail
         go_ret
         exact ⟨by rw [HR.out]<;>rfl,by (repeat (first | exact Below.refl _ _ | exact HB.out | refine Below.drew ?_ | refine Below.al ?_ _ | refine Below.sc ?_ _))⟩
       · skip
         have ca:decide ((0:Int)<(x.conds.length:Int))=false:=decide_eq_false (by omega)
         have cb:decide (0<x.conds.length)=false:=decide_eq_false (by omega)
         have Hc:=Lib.hid hc
         clear hc
         cases hw:isWord x.id
         · skip
           have hc:=fun W=>rword_is x.id W
           simp only [hw] at hc
           have HCw:=Lib.hid hc
           clear hc
           go_wp2_with fail
           with_reducible refine (HCw.out _).mono ?_
           rintro e w0 ⟨rfl,rfl⟩
           have HR:=Lib.hid (show condE x deep=9 by simp [condE,Hk.out,H12.out,Hc.out,hw])
           go_wp2_with fail
           go_ret
           exact ⟨by rw [HR.out]<;>rfl,by (repeat (first | exact Below.refl _ _ | exact HB.out | refine Below.drew ?_ | refine Below.al ?_ _ | refine Below.sc ?_ _))⟩
         · skip
           have hc:=fun W=>rword_is x.id W
           simp only [hw] at hc
           have HCw:=Lib.hid hc
           clear hc
           go_wp2_with fail
           with_reducible refine (HCw.out _).mono ?_
           rintro e w0 ⟨rfl,rfl⟩
           have HW:=Lib.hid hw
           clear hw
           by_cases hd:x.attr.length=0
           · skip
             have dz:((x.attr.length:Int) == 0)=true:=by rw [beq_iff_eq];omega
             have dy:decide ((x.attr.length:Int)=0)=true:=decide_eq_true (by omega)
             have Hd:=Lib.hid hd
             clear hd
             have HLd:=Lib.hid (List.length_eq_zero_iff.1 Hd.out)
             have HR:=Lib.hid (show condE x deep=9 by simp [condE,Hk.out,H12.out,Hc.out,HW.out,HLd.out])
             go_wp2_with fail
             go_ret
             exact ⟨by rw [HR.out]<;>rfl,by (repeat (first | exact Below.refl _ _ | exact HB.out | refine Below.drew ?_ | refine Below.al ?_ _ | refine Below.sc ?_ _))⟩
           · skip
             have dz:((x.attr.length:Int) == 0)=false:=by rw [beq_eq_false_iff_ne];omega
             have dy:decide ((x.attr.length:Int)=0)=false:=decide_eq_false (by omega)
             have Hd:=Lib.hid hd
             clear hd
             have HNd:=Lib.hid (show ¬x.attr = [] by intro e;exact Hd.out (by rw [e];rfl))
             by_cases he:4<x.attr.length
             · skip
               have ea:decide ((4:Int)<(x.attr.length:Int))=true:=decide_eq_true (by omega)
               have eb:decide (4<x.attr.length)=true:=decide_eq_true (by omega)
               have He:=Lib.hid he
               clear he
               have HR:=Lib.hid (show condE x deep=7 by simp [condE,Hk.out,H12.out,Hc.out,HW.out,HNd.out,He.out])
               go_wp2_with fail
               go_ret
               exact ⟨by rw [HR.out]<;>rfl,by (repeat (first | exact Below.refl _ _ | exact HB.out | refine Below.drew ?_ | refine Below.al ?_ _ | refine Below.sc ?_ _))⟩
             · skip
               have ea:decide ((4:Int)<(x.attr.length:Int))=false:=decide_eq_false (by omega)
               have eb:decide (4<x.attr.length)=false:=decide_eq_false (by omega)
               have He:=Lib.hid he
               clear he
               by_cases hf:4<x.value.length
               · skip
                 have fa:decide ((4:Int)<(x.value.length:Int))=true:=decide_eq_true (by omega)
                 have fb:decide (4<x.value.length)=true:=decide_eq_true (by omega)
                 have Hf:=Lib.hid hf
                 clear hf
                 have HR:=Lib.hid (show condE x deep=7 by simp [condE,Hk.out,H12.out,Hc.out,HW.out,HNd.out,He.out,Hf.out])
                 go_wp2_with fail
                 go_ret
                 exact ⟨by rw [HR.out]<;>rfl,by (repeat (first | exact Below.refl _ _ | exact HB.out | refine Below.drew ?_ | refine Below.al ?_ _ | refine Below.sc ?_ _))⟩
               · skip
                 have fa:decide ((4:Int)<(x.value.length:Int))=false:=decide_eq_false (by omega)
                 have fb:decide (4<x.value.length)=false:=decide_eq_false (by omega)
                 have Hf:=Lib.hid hf
                 clear hf
                 cases ht:x.attr.all testB
                 · skip
                   have hc:=fun W (hb:Below w.heap.size w W)=>rtests_is A1 c1 x.attr W (H1.out.new_ hb)
                   simp only [ht] at hc
                   have HCt:=Lib.hid hc
                   clear hc
                   go_wp2_with fail
                   with_reducible refine (HCt.out _ (by (repeat (first | exact Below.refl _ _ | exact HB.out | refine Below.drew ?_ | refine Below.al ?_ _ | refine Below.sc ?_ _)))).mono ?_
                   rintro e w2 ⟨rfl,hb⟩
                   have hbs:=Below.trans (show Below w1.heap.size w1 _ from (by (repeat (first | exact Below.refl _ _ | refine Below.drew ?_ | refine Below.al ?_ _ | refine Below.sc ?_ _)))) (hb.mono (by simp<;>omega))
                   have Kx:=Lib.hid (Kx.out.new_ hbs)
                   have HB:=Lib.hid (HB.out.trans (hbs.mono HB.out.size))
                   have hsz2:=hbs.size
                   clear x0 x1 x2 x3 x4 x5 x6 xz hb hbs
                   obtain ⟨x0,x1,x2,x3,x4,x5,x6⟩:=Kx.out.c7
                   have xz:=Kx.out.lt
                   have HTt:=Lib.hid ht
                   clear ht
                   have HR:=Lib.hid (show condE x deep=9 by simp [condE,Hk.out,H12.out,Hc.out,HW.out,HNd.out,He.out,Hf.out,HTt.out])
                   go_wp2_with fail
                   go_ret
                   exact ⟨by rw [HR.out]<;>rfl,by (repeat (first | exact Below.refl _ _ | exact HB.out | refine Below.drew ?_ | refine Below.al ?_ _ | refine Below.sc ?_ _))⟩
                 · skip
                   have hc:=fun W (hb:Below w.heap.size w W)=>rtests_is A1 c1 x.attr W (H1.out.new_ hb)
                   simp only [ht] at hc
                   have HCt:=Lib.hid hc
                   clear hc
                   go_wp2_with fail
                   with_reducible refine (HCt.out _ (by (repeat (first | exact Below.refl _ _ | exact HB.out | refine Below.drew ?_ | refine Below.al ?_ _ | refine Below.sc ?_ _)))).mono ?_
                   rintro e w2 ⟨rfl,hb⟩
                   have hbs:=Below.trans (show Below w1.heap.size w1 _ from (by (repeat (first | exact Below.refl _ _ | refine Below.drew ?_ | refine Below.al ?_ _ | refine Below.sc ?_ _)))) (hb.mono (by simp<;>omega))
                   have Kx:=Lib.hid (Kx.out.new_ hbs)
                   have HB:=Lib.hid (HB.out.trans (hbs.mono HB.out.size))
                   have hsz2:=hbs.size
                   clear x0 x1 x2 x3 x4 x5 x6 xz hb hbs
                   obtain ⟨x0,x1,x2,x3,x4,x5,x6⟩:=Kx.out.c7
                   have xz:=Kx.out.lt
                   have HTt:=Lib.hid ht
                   clear ht
                   cases hu:x.value.all testB
                   · skip
                     have hc:=fun W (hb:Below w.heap.size w W)=>rtests_is A2 c2 x.value W (H2.out.new_ hb)
                     simp only [hu] at hc
                     have HCu:=Lib.hid hc
                     clear hc
                     go_wp2_with fail
                     with_reducible refine (HCu.out _ (by (repeat (first | exact Below.refl _ _ | exact HB.out | refine Below.drew ?_ | refine Below.al ?_ _ | refine Below.sc ?_ _)))).mono ?_
                     rintro e w3 ⟨rfl,hb⟩
                     have hbs:=Below.trans (show Below w2.heap.size w2 _ from (by (repeat (first | exact Below.refl _ _ | refine Below.drew ?_ | refine Below.al ?_ _ | refine Below.sc ?_ _)))) (hb.mono (by simp<;>omega))
                     have Kx:=Lib.hid (Kx.out.new_ hbs)
                     have HB:=Lib.hid (HB.out.trans (hbs.mono HB.out.size))
                     have hsz3:=hbs.size
                     clear x0 x1 x2 x3 x4 x5 x6 xz hb hbs
                     obtain ⟨x0,x1,x2,x3,x4,x5,x6⟩:=Kx.out.c7
                     have xz:=Kx.out.lt
                     have HTu:=Lib.hid hu
                     clear hu
                     have HR:=Lib.hid (show condE x deep=9 by simp [condE,Hk.out,H12.out,Hc.out,HW.out,HNd.out,He.out,Hf.out,HTt.out,HTu.out])
                     go_wp2_with fail
                     go_ret
                     exact ⟨by rw [HR.out]<;>rfl,by (repeat (first | exact Below.refl _ _ | exact HB.out | refine Below.drew ?_ | refine Below.al ?_ _ | refine Below.sc ?_ _))⟩
                   · skip
                     have hc:=fun W (hb:Below w.heap.size w W)=>rtests_is A2 c2 x.value W (H2.out.new_ hb)
                     simp only [hu] at hc
                     have HCu:=Lib.hid hc
                     clear hc
                     go_wp2_with fail
                     with_reducible refine (HCu.out _ (by (repeat (first | exact Below.refl _ _ | exact HB.out | refine Below.drew ?_ | refine Below.al ?_ _ | refine Below.sc ?_ _)))).mono ?_
                     rintro e w3 ⟨rfl,hb⟩
                     have hbs:=Below.trans (show Below w2.heap.size w2 _ from (by (repeat (first | exact Below.refl _ _ | refine Below.drew ?_ | refine Below.al ?_ _ | refine Below.sc ?_ _)))) (hb.mono (by simp<;>omega))
                     have Kx:=Lib.hid (Kx.out.new_ hbs)
                     have HB:=Lib.hid (HB.out.trans (hbs.mono HB.out.size))
                     have hsz3:=hbs.size
                     clear x0 x1 x2 x3 x4 x5 x6 xz hb hbs
                     obtain ⟨x0,x1,x2,x3,x4,x5,x6⟩:=Kx.out.c7
                     have xz:=Kx.out.lt
                     have HTu:=Lib.hid hu
                     clear hu
                     have HR:=Lib.hid (show condE x deep=0 by simp [condE,Hk.out,H12.out,Hc.out,HW.out,HNd.out,He.out,Hf.out,HTt.out,HTu.out])
                     go_wp2_with fail
                     go_ret
                     exact ⟨by rw [HR.out]<;>rfl,by (repeat (first | exact Below.refl _ _ | exact HB.out | refine Below.drew ?_ | refine Below.al ?_ _ | refine Below.sc ?_ _))⟩
end Go.Proofs.Ytffemfglngikbaa
namespace Go.Proofs.Ytffemfglngikbaa
open Go.RowKit Go.Shelf
def firstE:Int→List (Nat×CondT)→Int×Int
 | _,[]=>(-1,0)
 | n,c :: r=>if condE c.2 c.1≠0 then (n,condE c.2 c.1) else firstE (n+1) r
theorem firstE_app : ∀(n:Int) (a b:List (Nat×CondT)),(firstE n a).2=0→firstE n (a++b)=firstE (n+(a.length:Nat)) b
 | n,[],b,_=>by simp
 | n,c :: a,b,h=>by
   rw [List.cons_append,firstE]
   rw [firstE] at h
   by_cases hc:condE c.2 c.1≠0
   · rw [if_pos hc] at h;exact absurd h hc
   · rw [if_neg hc] at h
     rw [if_neg hc,firstE_app (n+1) a b h,List.length_cons]
     congr 1;omega
theorem firstE_stop : ∀(n:Int) (a b:List (Nat×CondT)),(firstE n a).2≠0→firstE n (a++b)=firstE n a
 | n,[],b,h=>absurd rfl h
 | n,c :: a,b,h=>by
   rw [List.cons_append,firstE,firstE]
   rw [firstE] at h
   by_cases hc:condE c.2 c.1≠0
   · rw [if_pos hc,if_pos hc]
   · rw [if_neg hc] at h
     rw [if_neg hc,if_neg hc,firstE_stop (n+1) a b h]
theorem firstE_shape : ∀(n:Int) (l:List (Nat×CondT)),firstE n l=(match l.findIdx? (fun c=>decide (condE c.2 c.1≠0)) with
 | some k=>(n+k,((l[k]?).map fun c=>condE c.2 c.1).getD 0)
 | none=>(-1,0))
 | n,[]=>rfl
 | n,c :: r=>by
   rw [firstE,List.findIdx?_cons]
   by_cases hc:condE c.2 c.1≠0
   · rw [if_pos hc,if_pos (decide_eq_true hc)];simp
   · rw [if_neg hc,if_neg (by simpa using hc),firstE_shape (n+1) r]
     cases r.findIdx? (fun c=>decide (condE c.2 c.1≠0)) with
     | none=>rfl
     | some k=>simp only [Option.map_some,List.getElem?_cons_succ];congr 1;push_cast;omega
theorem conds_zero {D:Nat→Prop} {w:World} {A:Option Addr} {c:Nat} {l:List CondT} (h:RowR (repCondT 0) D w A c l):l = []:=by
 cases l with
 | nil=>rfl
 | cons x l=>
   obtain ⟨b,off,cs,_,_,_,hr,_⟩:=h.at_ (k:=0) (by simp)
   exact hr.elim
theorem flatC_all (n d:Nat) (l:List CondT) (i:Nat) (hi:i<l.length):flatC (n+1) d l=flatC (n+1) d (l.take i)++((d,l[i]) :: flatC n (d+1) l[i].conds++flatC (n+1) d (l.drop (i+1))):=by
 rw [← List.append_assoc,← flatC_snoc n d l i hi]
 conv=>lhs;rw [← List.take_append_drop (i+1) l]
 rw [flatC_succ,flatC_succ,flatC_succ,List.flatMap_append]
set_option maxRecDepth 100000 in
set_option maxHeartbeats 4000000 in
theorem rsize_is : ∀(n:Nat) (D:Nat→Prop) (A:Option Addr) (c:Nat) (d:Nat) (l:List CondT) (w:World),RowR (repCondT n) D w A c l→(flatC n d l).length≤1000000→
 Calls Try.prog 49 #[.slice A l.length c] w fun e w'=>e = .returned (.int .i64 ((flatC n d l).length:Nat))∧w=w':=by
 intro n
 induction n with
 | zero=>
   intro D A c d l w h _
   obtain rfl:=conds_zero h
   clear h
   have HR:=Lib.hid (show (((flatC 0 d []).length:Nat):Int)=0 from rfl)
   go_enter Try.func49,Try.ntmps49
   go_wp2_with fail
   go_loopw [3,4] (fun a s wr=>s = .int .i64 0∧a = .int .i64 0∧wr=w) (fun a s wr=>0)
   case atStart=>exact ⟨rfl,rfl,rfl⟩
   case round=>
    obtain ⟨rfl,rfl,rfl⟩:=hrel
    go_wp2_with fail
    go_ret
    exact ⟨by rw [HR.out];rfl,rfl⟩
 | succ n ih=>
   intro D A c d l w h hle
   have IH:=Lib.hid ih
   have H:=Lib.hid h
   have hlc:=h.cap
   obtain ⟨tot,htot⟩ : ∃tot,tot=(flatC (n+1) d l).length:=⟨_,rfl⟩
   rw [← htot] at hle ⊢
   have HT:=Lib.hid htot
   clear h ih htot
   go_enter Try.func49,Try.ntmps49
   go_wp2_with fail
   go_loopw [3,4] (fun a s wr=>∃i m:Nat,s = .int .i64 i∧i≤l.length∧a = .int .i64 (m:Int)∧m=(flatC (n+1) d (l.take i)).length∧wr=w) (fun a s wr=>l.length - (intOf s).toNat)
   case atStart=>exact ⟨0,0,rfl,Nat.zero_le _,rfl,by simp [flatC],rfl⟩
   case round=>
    obtain ⟨i,m,rfl,hi,rfl,hm,rfl⟩:=hrel
    have HM:=Lib.hid hm
    clear hm
    by_cases hlt:i<l.length
    · obtain ⟨x,hx⟩ : ∃x,x=l[i]:=⟨_,rfl⟩
      obtain ⟨mi,hmi⟩ : ∃mi,mi=(flatC n (d+1) x.conds).length:=⟨_,rfl⟩
      have hall:=flatC_all n d l i hlt
      have hsn:=flatC_snoc n d l i hlt
      rw [← hx] at hall hsn
      have HM1:=Lib.hid (show m+(1+mi)=(flatC (n+1) d (l.take (i+1))).length by rw [hsn,List.length_append,List.length_cons,← HM.out,← hmi];omega)
      have hmt:m+(1+mi)≤tot:=by
       rw [HT.out,hall,List.length_append,List.length_append,List.length_cons,← HM.out,← hmi];omega
      obtain ⟨g,off,A1,c1,A2,c2,A3,c3,rfl,_,hgs,q0,q1,q2,q3,q4,q5,q6,r1,r2,r3⟩:=at_CondT H.out hlt
      rw [← hx] at q6 r3
      have hn3:=r3.cap
      have HCL:=Lib.hid (show Calls Try.prog 49 #[.slice A3 x.conds.length c3] wr fun e w'=>e = .returned (.int .i64 (mi:Int))∧wr=w' by
       have:=IH.out D A3 c3 (d+1) x.conds wr r3 (by omega)
       rw [hmi]
       exact this)
      have b1:(0:Int)≤(i:Int):=by omega
      have b2:(i:Int)<(l.length:Int):=by omega
      have v3:IntKind.i64.wrap (1+(mi:Int))=1+(mi:Int):=IntWalk.i64_in _ (by omega)
      have v4:IntKind.i64.wrap ((m:Int)+(1+(mi:Int)))=(m:Int)+(1+(mi:Int)):=IntWalk.i64_in _ (by omega)
      clear hx hmi hall hsn r1 r2 r3 q0 q1 q2 q3 q4 q5
      go_wp2_with fail
      refine HCL.out.mono ?_
      rintro e w2 ⟨rfl,rfl⟩
      go_wp2_with fail
      go_roundw
      case rel=>exact ⟨i+1,m+(1+mi),by go_num,by omega,by push_cast;rfl,HM1.out,by trivial⟩
      case measure=>simp [intOf]<;>omega
    · have hie:i=l.length:=by omega
      subst hie
      have HR:=Lib.hid (show m=tot by rw [HM.out,HT.out,List.take_length])
      go_wp2_with fail
      go_ret
      exact ⟨by rw [HR.out];rfl,rfl⟩
set_option maxRecDepth 100000 in
set_option maxHeartbeats 8000000 in
theorem rconds_is : ∀(n:Nat) (D:Nat→Prop) (A:Option Addr) (c:Nat) (d:Nat) (k:Nat) (l:List CondT) (w:World),RowR (repCondT n) D w A c l→k+(flatC n d l).length≤1000000→d+n≤1000000→
 Calls Try.prog 50 #[.slice A l.length c,.int .i64 (k:Int),.int .i64 (d:Int)] w fun e w'=>e = .returned (.tuple #[.int .i64 (firstE k (flatC n d l)).1,.int .i64 (firstE k (flatC n d l)).2])∧Below w.heap.size w w':=by
 intro n
 induction n with
 | zero=>
   intro D A c d k l w h _ _
   obtain rfl:=conds_zero h
   clear h
   have HR:=Lib.hid (show firstE k (flatC 0 d [])=(-1,0) from rfl)
   go_enter Try.func50,Try.ntmps50
   go_wp2_with fail
   go_loopw [1,8] (fun a s wr=>s = .int .i64 0∧a = .int .i64 (k:Int)∧wr=w) (fun a s wr=>0)
   case atStart=>exact ⟨rfl,rfl,rfl⟩
   case round=>
    obtain ⟨rfl,rfl,rfl⟩:=hrel
    go_wp2_with fail
    exact bodyPost_ret (v:=.tuple #[.int .i64 (-1),.int .i64 0]) (by simp [results,Try.results50,go_sem, *]) rfl ⟨by rw [HR.out],Below.refl _ _⟩
 | succ n ih=>
   intro D A c d k l w h hle hdn
   have IH:=Lib.hid ih
   have H:=Lib.hid h
   have hlc:=h.cap
   obtain ⟨fl,hfl⟩ : ∃fl,fl=flatC (n+1) d l:=⟨_,rfl⟩
   rw [← hfl] at hle ⊢
   have HT:=Lib.hid hfl
   clear h ih hfl
   go_enter Try.func50,Try.ntmps50
   go_wp2_with fail
   go_loopw [1,8] (fun a s wr=>∃i m:Nat,s = .int .i64 i∧i≤l.length∧a = .int .i64 (m:Int)∧m=k+(flatC (n+1) d (l.take i)).length∧(firstE k (flatC (n+1) d (l.take i))).2=0∧Below w.heap.size w wr) (fun a s wr=>l.length - (intOf s).toNat)
   case atStart=>exact ⟨0,k,rfl,Nat.zero_le _,rfl,by simp [flatC],by simp [flatC,firstE],Below.refl _ _⟩
   case round=>
    obtain ⟨i,m,rfl,hi,rfl,hm,hz,hB⟩:=hrel
    have HM:=Lib.hid hm
    have HZ:=Lib.hid hz
    have HB:=Lib.hid hB
    clear hm hz hB
    by_cases hlt:i<l.length
    · obtain ⟨x,hx⟩ : ∃x,x=l[i]:=⟨_,rfl⟩
      obtain ⟨fi,hfi⟩ : ∃fi,fi=flatC n (d+1) x.conds:=⟨_,rfl⟩
      have hall:=flatC_all n d l i hlt
      have hsn:=flatC_snoc n d l i hlt
      rw [← hx,← hfi] at hall hsn
      have hmt:m+(1+fi.length)≤k+fl.length:=by
       rw [HT.out,hall,List.length_append,List.length_append,List.length_cons,HM.out];omega
      have HM1:=Lib.hid (show m+(1+fi.length)=k+(flatC (n+1) d (l.take (i+1))).length by rw [hsn,List.length_append,List.length_cons,HM.out];omega)
      have HFL:=Lib.hid (show ∀r,firstE m ((d,x) :: fi)=r→r.2≠0→firstE k fl=r by
       intro r h1 h2
       rw [HT.out,hall,firstE_app _ _ _ HZ.out,show (k:Int)+((flatC (n+1) d (l.take i)).length:Nat)=(m:Nat) by rw [HM.out];push_cast;rfl,firstE_stop _ _ _ (by rw [h1];exact h2),h1])
      have HZ1:=Lib.hid (show (firstE m ((d,x) :: fi)).2=0→(firstE k (flatC (n+1) d (l.take (i+1)))).2=0 by
       intro h1
       rw [hsn,firstE_app _ _ _ HZ.out,show (k:Int)+((flatC (n+1) d (l.take i)).length:Nat)=(m:Nat) by rw [HM.out];push_cast;rfl,h1])
      obtain ⟨g,off,A1,c1,A2,c2,A3,c3,rfl,_,hgs,q0,q1,q2,q3,q4,q5,q6,r1,r2,r3⟩:=at_CondT (H.out.new_ HB.out) hlt
      rw [← hx] at q0 q1 q2 q3 q4 q5 q6 r1 r2 r3
      have hn3:=r3.cap
      have HR1:=Lib.hid r1
      have HR2:=Lib.hid r2
      have HR3:=Lib.hid r3
      have HCL:=Lib.hid (show ∀W,Below wr.heap.size wr W→Calls Try.prog 50 #[.slice A3 x.conds.length c3,.int .i64 ((m:Int)+1),.int .i64 ((d:Int)+1)] W fun e w'=>e = .returned (.tuple #[.int .i64 (firstE ((m:Int)+1) fi).1,.int .i64 (firstE ((m:Int)+1) fi).2])∧Below W.heap.size W w' by
       intro W hb
       have:=IH.out D A3 c3 (d+1) (m+1) x.conds W (HR3.out.new_ hb) (by rw [← hfi];omega) (by omega)
       rw [← hfi] at this
       exact this)
      have HSZ:=Lib.hid (show ∀W,Below wr.heap.size wr W→Calls Try.prog 49 #[.slice A3 x.conds.length c3] W fun e w'=>e = .returned (.int .i64 (fi.length:Nat))∧W=w' by
       intro W hb
       have:=rsize_is n D A3 c3 (d+1) x.conds W (HR3.out.new_ hb) (by rw [← hfi];omega)
       rw [hfi]
       exact this)
      have HCE:=Lib.hid (show firstE m ((d,x) :: fi)=if condE x d≠0 then ((m:Int),condE x d) else firstE ((m:Int)+1) fi from rfl)
      have b1:(0:Int)≤(i:Int):=by omega
      have b2:(i:Int)<(l.length:Int):=by omega
      have v1:IntKind.i64.wrap ((m:Int)+1)=(m:Int)+1:=IntWalk.i64_in _ (by omega)
      have v2:IntKind.i64.wrap ((d:Int)+1)=(d:Int)+1:=IntWalk.i64_in _ (by omega)
      have v3:IntKind.i64.wrap (1+(fi.length:Int))=1+(fi.length:Int):=IntWalk.i64_in _ (by omega)
      have v4:IntKind.i64.wrap ((m:Int)+(1+(fi.length:Int)))=(m:Int)+(1+(fi.length:Int)):=IntWalk.i64_in _ (by omega)
      have hzr:=HB.out.size
      clear hx hfi hall hsn r1 r2 r3
      obtain ⟨e1,he1⟩ : ∃e1,e1=condE x d:=⟨_,rfl⟩
      rw [← he1] at HCE
      have HE1:=Lib.hid he1
      clear he1
      go_wp2_with fail
      refine (rcond_is x d A1 A2 A3 c1 c2 c3 wr HR1.out HR2.out hn3).mono ?_
      rintro e w2 ⟨rfl,hb⟩
      rw [← HE1.out]
      have HB2:=Lib.hid hb
      have q6':=(hb.cell (p:=⟨g,off+i*7+6,none⟩) hgs).trans q6
      have hgs2:g<w2.heap.size:=Nat.lt_of_lt_of_le hgs hb.size
      clear hb q0 q1 q2 q3 q4 q5 q6
      by_cases hz1:e1=0
      · have t1:(e1 != 0)=false:=by simp [hz1]
        have t2:(e1 == 0)=true:=by simp [hz1]
        have HC2:=Lib.hid (show firstE m ((d,x) :: fi)=firstE ((m:Int)+1) fi by rw [HCE.out,if_neg (by simpa using hz1)])
        clear hz1
        go_wp2_with fail
        refine (HCL.out w2 HB2.out).mono ?_
        rintro e w3 ⟨rfl,hb⟩
        obtain ⟨⟨r1,r2⟩,hr⟩ : ∃r,r=firstE ((m:Int)+1) fi:=⟨_,rfl⟩
        rw [← hr] at HC2 ⊢
        have HB3:=Lib.hid (HB2.out.trans (hb.mono HB2.out.size))
        have q7:=(hb.cell (p:=⟨g,off+i*7+6,none⟩) hgs2).trans q6'
        have hgs3:g<w3.heap.size:=Nat.lt_of_lt_of_le hgs2 hb.size
        clear hb hr q6'
        dsimp only
        by_cases hz2:r2=0
        · have t3:(r2 != 0)=false:=by simp [hz2]
          have t4:(r2 == 0)=true:=by simp [hz2]
          have HZ2:=Lib.hid (HZ1.out (by rw [HC2.out];exact hz2))
          clear hz2
          go_wp2_with fail
          refine (HSZ.out w3 HB3.out).mono ?_
          rintro e w0 ⟨rfl,rfl⟩
          go_wp2_with fail
          go_roundw
          case rel=>exact ⟨i+1,m+(1+fi.length),by go_num,by omega,by push_cast;rfl,HM1.out,HZ2.out,HB.out.trans (HB3.out.mono hzr)⟩
          case measure=>simp [intOf]<;>omega
        · have t3:(r2 != 0)=true:=by simp [hz2]
          have t4:(r2 == 0)=false:=by simp [hz2]
          have HF:=Lib.hid (HFL.out _ HC2.out hz2)
          clear hz2
          go_wp2_with fail
          exact bodyPost_ret (v:=.tuple #[.int .i64 r1,.int .i64 r2]) (by simp [results,Try.results50,go_sem, *]) rfl ⟨by rw [HF.out],HB.out.trans (HB3.out.mono hzr)⟩
      · have t1:(e1 != 0)=true:=by simp [hz1]
        have t2:(e1 == 0)=false:=by simp [hz1]
        have HF:=Lib.hid (HFL.out ((m:Int),e1) (by rw [HCE.out,if_pos hz1]) hz1)
        clear hz1
        go_wp2_with fail
        exact bodyPost_ret (v:=.tuple #[.int .i64 (m:Int),.int .i64 e1]) (by simp [results,Try.results50,go_sem, *]) rfl ⟨by rw [HF.out],HB.out.trans (HB2.out.mono hzr)⟩
    · have hie:i=l.length:=by omega
      subst hie
      have HF:=Lib.hid (show firstE k fl=(-1,0) by
       have h1:=HZ.out
       rw [List.take_length,← HT.out] at h1
       have : ∀(n:Int) (l:List (Nat×CondT)),(firstE n l).2=0→firstE n l=(-1,0):=by
        intro n l
        induction l generalizing n with
        | nil=>intro _;rfl
        | cons c l ih=>
          intro h
          rw [firstE] at h ⊢
          by_cases hc:condE c.2 c.1≠0
          · rw [if_pos hc] at h;exact absurd h hc
          · rw [if_neg hc] at h ⊢;exact ih _ h
       exact this _ _ h1)
      go_wp2_with fail
      exact bodyPost_ret (v:=.tuple #[.int .i64 (-1),.int .i64 0]) (by simp [results,Try.results50,go_sem, *]) rfl ⟨by rw [HF.out],HB.out⟩
end Go.Proofs.Ytffemfglngikbaa
namespace Go.Proofs.Ytffemfglngikbaa
open Go.RowKit Go.Shelf
attribute [local go_sem] Oper.semAt_some
theorem shapeP_first {n:Nat} {p:ProdT} {F:List (Nat×CondT)} (hF:F=flatC n 0 p.conds) (hw:isWord p.name=true) (h : ¬(F.length<1∨16<F.length∨p.acts.length<1∨16<p.acts.length)) :
 shapeP n p=if (firstE 0 F).2≠0 then firstE 0 F else match p.acts.findIdx? (fun a=>!actB a) with
  | some i=>(F.length+i,9)
  | none=>(-1,0):=by
 unfold shapeP
 rw [← hF,if_neg (by rw [hw];simp),if_neg h,firstE_shape]
 cases hfi:F.findIdx? (fun c=>decide (condE c.2 c.1≠0)) with
 | none=>
   simp
   cases p.acts.findIdx? (fun a=>!actB a)<;>rfl
 | some k=>
   obtain ⟨hk,h1,_⟩:=List.findIdx?_eq_some_iff_getElem.1 hfi
   have h1':condE F[k].2 F[k].1≠0:=by simpa using h1
   simp [List.getElem?_eq_getElem hk,h1']
theorem ract_row {D:Nat→Prop} {w:World} {A:Option Addr} {c i:Nat} {l:List ActT} (h:RowR repActT D w A c l) (hi:i<l.length) : ∃g off,A=some ⟨g,off,none⟩∧D g∧g<w.heap.size∧w.rangeAt g (off+i*19) (ActT.cells l[i]):=by
 obtain ⟨g,off,cs,e1,hd,hg,hr,hc⟩:=h.at_ hi
 have hr2:cs=ActT.cells l[i]:=hr
 subst hr2
 exact ⟨g,off,e1,hd,hg,fun j v hv=>hc j v hv⟩
set_option maxRecDepth 100000 in
set_option maxHeartbeats 8000000 in
theorem rshape_is {D:Nat→Prop} (p:ProdT) (n:Nat) (A1 A2:Option Addr) (c1 c2:Nat) (w:World) (h1:RowR (repCondT n) D w A1 c1 p.conds) (h2:RowR repActT D w A2 c2 p.acts) (hF:(flatC n 0 p.conds).length≤1000000) (hn:n≤1000000) :
 Calls Try.prog 22 #[.agg #[.string p.name,.slice A1 p.conds.length c1,.slice A2 p.acts.length c2]] w fun e w'=>e = .returned (.tuple #[.int .i64 (shapeP n p).1,.int .i64 (shapeP n p).2])∧Below w.heap.size w w':=by
 have H1:=Lib.hid h1
 have H2:=Lib.hid h2
 have hl2:=h2.cap
 have hl1:=h1.cap
 clear h1 h2
 obtain ⟨F,hFd⟩ : ∃F,F=flatC n 0 p.conds:=⟨_,rfl⟩
 have HFD:=Lib.hid hFd
 rw [← hFd] at hF
 clear hFd
 have HSZ:=Lib.hid (show ∀W,Below w.heap.size w W→Calls Try.prog 49 #[.slice A1 p.conds.length c1] W fun e w'=>e = .returned (.int .i64 (F.length:Nat))∧W=w' by
  intro W hb
  have:=rsize_is n D A1 c1 0 p.conds W (H1.out.new_ hb) (by rw [← HFD.out];omega)
  rw [← HFD.out] at this
  exact this)
 have HCN:=Lib.hid (show ∀W,Below w.heap.size w W→Calls Try.prog 50 #[.slice A1 p.conds.length c1,.int .i64 0,.int .i64 0] W fun e w'=>e = .returned (.tuple #[.int .i64 (firstE 0 F).1,.int .i64 (firstE 0 F).2])∧Below W.heap.size W w' by
  intro W hb
  have:=rconds_is n D A1 c1 0 0 p.conds W (H1.out.new_ hb) (by rw [← HFD.out];omega) (by omega)
  rw [← HFD.out] at this
  exact this)
 have HBAD:=Lib.hid (show isWord p.name=true→(F.length<1∨16<F.length∨p.acts.length<1∨16<p.acts.length)→shapeP n p=(-1,7) by
  intro hw h
  unfold shapeP
  rw [if_neg (by rw [hw];simp),← HFD.out,if_pos h])
 go_enter Try.func22,Try.ntmps22
 go_upto_region 1 with fail
 obtain ⟨w1,hw1⟩ : ∃w1,w1=(w.alloc (.cells #[.string p.name,.slice A1 p.conds.length c1,.slice A2 p.acts.length c2] 25)):=⟨_,rfl⟩
 rw [← hw1]
 have HB:=Lib.hid (show Below w.heap.size w w1 by rw [hw1];exact (by repeat (first | exact Below.refl _ _ | refine Below.drew ?_ | refine Below.al ?_ _ | refine Below.sc ?_ _)))
 have Kp:=Lib.hid (show Blk w1 (w.heap.size) 25 #[.string p.name,.slice A1 p.conds.length c1,.slice A2 p.acts.length c2] by rw [hw1];exact (Blk.new w 25 #[.string p.name,.slice A1 p.conds.length c1,.slice A2 p.acts.length c2]))
 clear hw1
 obtain ⟨p0,p1,p2⟩:=Kp.out.c3
 have pz:=Kp.out.lt
 cases hw:isWord p.name
 · skip
   have hc:=fun W=>rword_is p.name W
   simp only [hw] at hc
   have HC:=Lib.hid hc
   clear hc
   go_wp2_with fail
   with_reducible refine (HC.out _).mono ?_
   rintro e w0 ⟨rfl,rfl⟩
   have HR:=Lib.hid (show shapeP n p=(-1,2) by unfold shapeP;rw [if_pos hw])
   clear hw
   go_wp2_with fail
   exact bodyPost_ret (v:=.tuple #[.int .i64 (-1),.int .i64 2]) (by simp [results,Try.results22,go_sem, *]) rfl ⟨by rw [HR.out],by (repeat (first | exact Below.refl _ _ | exact HB.out | refine Below.drew ?_ | refine Below.al ?_ _ | refine Below.sc ?_ _))⟩
 · skip
   have hc:=fun W=>rword_is p.name W
   simp only [hw] at hc
   have HC:=Lib.hid hc
   clear hc
   go_wp2_with fail
   with_reducible refine (HC.out _).mono ?_
   rintro e w0 ⟨rfl,rfl⟩
   have HW:=Lib.hid hw
   clear hw
   go_wp2_with fail
   with_reducible refine (HSZ.out _ (by (repeat (first | exact Below.refl _ _ | exact HB.out | refine Below.drew ?_ | refine Below.al ?_ _ | refine Below.sc ?_ _)))).mono ?_
   rintro e w0 ⟨rfl,rfl⟩
   by_cases ha:F.length<1
   · skip
     have aa:decide ((F.length:Int)<1)=true:=decide_eq_true (by omega)
     have ab:decide (F.length<1)=true:=decide_eq_true (by omega)
     have HR:=Lib.hid (HBAD.out HW.out (by omega))
     have hzz:F.length=0:=by omega
     have HZZ:=Lib.hid hzz
     clear hzz
     clear ha
     go_wp2_with fail
     exact bodyPost_ret (v:=.tuple #[.int .i64 (-1),.int .i64 7]) (by simp [results,Try.results22,go_sem, *]) rfl ⟨by rw [HR.out],by (repeat (first | exact Below.refl _ _ | exact HB.out | refine Below.drew ?_ | refine Below.al ?_ _ | refine Below.sc ?_ _))⟩
   · skip
     have aa:decide ((F.length:Int)<1)=false:=decide_eq_false (by omega)
     have ab:decide (F.length<1)=false:=decide_eq_false (by omega)
     have Ha:=Lib.hid ha
     clear ha
     by_cases hb:16<F.length
     · skip
       have ba:decide ((16:Int)<(F.length:Int))=true:=decide_eq_true (by omega)
       have bb:decide (16<F.length)=true:=decide_eq_true (by omega)
       have HR:=Lib.hid (HBAD.out HW.out (by omega))
       clear hb
       go_wp2_with fail
       exact bodyPost_ret (v:=.tuple #[.int .i64 (-1),.int .i64 7]) (by simp [results,Try.results22,go_sem, *]) rfl ⟨by rw [HR.out],by (repeat (first | exact Below.refl _ _ | exact HB.out | refine Below.drew ?_ | refine Below.al ?_ _ | refine Below.sc ?_ _))⟩
     · skip
       have ba:decide ((16:Int)<(F.length:Int))=false:=decide_eq_false (by omega)
       have bb:decide (16<F.length)=false:=decide_eq_false (by omega)
       have Hb:=Lib.hid hb
       clear hb
       by_cases hc:p.acts.length<1
       · skip
         have ca:decide ((p.acts.length:Int)<1)=true:=decide_eq_true (by omega)
         have cb:decide (p.acts.length<1)=true:=decide_eq_true (by omega)
         have HR:=Lib.hid (HBAD.out HW.out (by omega))
         have hzz:p.acts.length=0:=by omega
         have HZZ:=Lib.hid hzz
         clear hzz
         clear hc
         go_wp2_with fail
         exact bodyPost_ret (v:=.tuple #[.int .i64 (-1),.int .i64 7]) (by simp [results,Try.results22,go_sem, *]) rfl ⟨by rw [HR.out],by (repeat (first | exact Below.refl _ _ | exact HB.out | refine Below.drew ?_ | refine Below.al ?_ _ | refine Below.sc ?_ _))⟩
       · skip
         have ca:decide ((p.acts.length:Int)<1)=false:=decide_eq_false (by omega)
         have cb:decide (p.acts.length<1)=false:=decide_eq_false (by omega)
         have Hc:=Lib.hid hc
         clear hc
         by_cases hd:16<p.acts.length
         · skip
           have da:decide ((16:Int)<(p.acts.length:Int))=true:=decide_eq_true (by omega)
           have db:decide (16<p.acts.length)=true:=decide_eq_true (by omega)
           have HR:=Lib.hid (HBAD.out HW.out (by omega))
           clear hd
           go_wp2_with fail
           exact bodyPost_ret (v:=.tuple #[.int .i64 (-1),.int .i64 7]) (by simp [results,Try.results22,go_sem, *]) rfl ⟨by rw [HR.out],by (repeat (first | exact Below.refl _ _ | exact HB.out | refine Below.drew ?_ | refine Below.al ?_ _ | refine Below.sc ?_ _))⟩
         · skip
           have da:decide ((16:Int)<(p.acts.length:Int))=false:=decide_eq_false (by omega)
           have db:decide (16<p.acts.length)=false:=decide_eq_false (by omega)
           have Hd:=Lib.hid hd
           clear hd
           have HS:=Lib.hid (shapeP_first HFD.out HW.out (by have:=Ha.out;have:=Hb.out;have:=Hc.out;have:=Hd.out;omega))
           go_wp2_with fail
           with_reducible refine (HCN.out _ (by (repeat (first | exact Below.refl _ _ | exact HB.out | refine Below.drew ?_ | refine Below.al ?_ _ | refine Below.sc ?_ _)))).mono ?_
           rintro e w2 ⟨rfl,hb⟩
           have hbs:=Below.trans (show Below w1.heap.size w1 _ from (by (repeat (first | exact Below.refl _ _ | refine Below.drew ?_ | refine Below.al ?_ _ | refine Below.sc ?_ _)))) (hb.mono (by simp<;>omega))
           have Kp:=Lib.hid (Kp.out.new_ hbs)
           have HB:=Lib.hid (HB.out.trans (hbs.mono HB.out.size))
           have hsz2:=hbs.size
           clear p0 p1 p2 pz hb hbs
           obtain ⟨p0,p1,p2⟩:=Kp.out.c3
           have pz:=Kp.out.lt
           obtain ⟨⟨r1,r2⟩,hr⟩ : ∃r,r=firstE 0 F:=⟨_,rfl⟩
           rw [← hr]
           have HRR:=Lib.hid hr
           clear hr
           dsimp only
           by_cases hz:r2=0
           · skip
             have z0:(r2 != 0)=false:=by simp [hz]
             have z1:(r2 == 0)=true:=by simp [hz]
             have HQ:=Lib.hid (show shapeP n p=match p.acts.findIdx? (fun a=>!actB a) with | some i=>(F.length+i,9) | none=>(-1,0) by
              rw [HS.out,← HRR.out]
              rw [if_neg (by simp [hz])])
             have HZ:=Lib.hid hz
             clear hz
             go_wp2_with fail
             clear p0 p1 p2 pz 
             go_loopw [7] (fun s wr=>∃i:Nat,s = .int .i64 i∧i≤p.acts.length∧(∀k,(h:k<p.acts.length)→k<i→actB p.acts[k]=true)∧Below w.heap.size w wr∧Blk wr (w.heap.size) 25 #[.string p.name,.slice A1 p.conds.length c1,.slice A2 p.acts.length c2]) (fun s wr=>p.acts.length - (intOf s).toNat)
             case atStart=>exact ⟨0,rfl,Nat.zero_le _,fun k _ h=>absurd h (by omega),HB.out,Kp.out⟩
             case round=>
              obtain ⟨i,rfl,hi,hall,hB,hK⟩:=hrel
              have HALL:=Lib.hid hall
              have HB:=Lib.hid hB
              have Kp:=Lib.hid hK
              clear hall hB hK
              obtain ⟨p0,p1,p2⟩:=Kp.out.c3
              have pz:=Kp.out.lt
              by_cases hlt:i<p.acts.length
              · skip
                obtain ⟨y,hy⟩ : ∃y,y=p.acts[i]:=⟨_,rfl⟩
                obtain ⟨g,off,rfl,_,hg,hrg⟩:=ract_row (H2.out.new_ HB.out) hlt
                rw [← hy] at hrg
                have HRG:=Lib.hid (show wr.rangeAt g (off+i*19) [.string y.id,.string y.attr.var,.int .i64 y.attr.sym.kind,.string y.attr.sym.text,.int .i64 y.attr.sym.n,.int .i64 y.value.op,.string y.value.a.var,.int .i64 y.value.a.sym.kind,.string y.value.a.sym.text,.int .i64 y.value.a.sym.n,.string y.value.b.var,.int .i64 y.value.b.sym.kind,.string y.value.b.sym.text,.int .i64 y.value.b.sym.n,.int .i64 y.pref,.string y.other.var,.int .i64 y.other.sym.kind,.string y.other.sym.text,.int .i64 y.other.sym.n] from hrg)
                have HY:=Lib.hid hy
                have b1:(0:Int)≤(i:Int):=by omega
                have b2:(i:Int)<(p.acts.length:Int):=by omega
                have v1:IntKind.i64.wrap ((F.length:Int)+(i:Int))=(F.length:Int)+(i:Int):=IntWalk.i64_in _ (by have:=Hd.out;omega)
                clear hy hrg
                cases hab:actB y
                · skip
                  have hc:=fun W=>ract_is y W
                  simp only [hab] at hc
                  have HC:=Lib.hid hc
                  clear hc
                  go_wp2_with (with_reducible refine wpList_load_mid rfl 58 _ rfl g (off+i*19) rfl [.string y.id,.string y.attr.var,.int .i64 y.attr.sym.kind,.string y.attr.sym.text,.int .i64 y.attr.sym.n,.int .i64 y.value.op,.string y.value.a.var,.int .i64 y.value.a.sym.kind,.string y.value.a.sym.text,.int .i64 y.value.a.sym.n,.string y.value.b.var,.int .i64 y.value.b.sym.kind,.string y.value.b.sym.text,.int .i64 y.value.b.sym.n,.int .i64 y.pref,.string y.other.var,.int .i64 y.other.sym.kind,.string y.other.sym.text,.int .i64 y.other.sym.n] _ HRG.out Try.underlying58 rfl (by kernel_rfl) ?_)
                  with_reducible refine (HC.out _).mono ?_
                  rintro e w3 ⟨rfl,hb⟩
                  have hbs:=Below.trans (show Below wr.heap.size wr _ from (by (repeat (first | exact Below.refl _ _ | refine Below.drew ?_ | refine Below.al ?_ _ | refine Below.sc ?_ _)))) (hb.mono (by simp<;>omega))
                  have Kp:=Lib.hid (Kp.out.new_ hbs)
                  have HB:=Lib.hid (HB.out.trans (hbs.mono HB.out.size))
                  have hsz3:=hbs.size
                  clear p0 p1 p2 pz hb hbs
                  obtain ⟨p0,p1,p2⟩:=Kp.out.c3
                  have pz:=Kp.out.lt
                  have HR:=Lib.hid (show shapeP n p=((F.length:Int)+(i:Nat),9) by
                   have hfi:p.acts.findIdx? (fun a=>!actB a)=some i:=by
                    rw [List.findIdx?_eq_some_iff_getElem]
                    exact ⟨hlt,by rw [← HY.out,hab];rfl,fun j hj=>by rw [HALL.out j (by omega) hj];simp⟩
                   rw [HQ.out,hfi])
                  clear hab
                  go_wp2_with fail
                  exact bodyPost_ret (v:=.tuple #[.int .i64 ((F.length:Int)+(i:Int)),.int .i64 9]) (by simp [results,Try.results22,go_sem, *]) rfl ⟨by rw [HR.out],by (repeat (first | exact Below.refl _ _ | exact HB.out | refine Below.drew ?_ | refine Below.al ?_ _ | refine Below.sc ?_ _))⟩
                · skip
                  have hc:=fun W=>ract_is y W
                  simp only [hab] at hc
                  have HC:=Lib.hid hc
                  clear hc
                  go_wp2_with (with_reducible refine wpList_load_mid rfl 58 _ rfl g (off+i*19) rfl [.string y.id,.string y.attr.var,.int .i64 y.attr.sym.kind,.string y.attr.sym.text,.int .i64 y.attr.sym.n,.int .i64 y.value.op,.string y.value.a.var,.int .i64 y.value.a.sym.kind,.string y.value.a.sym.text,.int .i64 y.value.a.sym.n,.string y.value.b.var,.int .i64 y.value.b.sym.kind,.string y.value.b.sym.text,.int .i64 y.value.b.sym.n,.int .i64 y.pref,.string y.other.var,.int .i64 y.other.sym.kind,.string y.other.sym.text,.int .i64 y.other.sym.n] _ HRG.out Try.underlying58 rfl (by kernel_rfl) ?_)
                  with_reducible refine (HC.out _).mono ?_
                  rintro e w3 ⟨rfl,hb⟩
                  have hbs:=Below.trans (show Below wr.heap.size wr _ from (by (repeat (first | exact Below.refl _ _ | refine Below.drew ?_ | refine Below.al ?_ _ | refine Below.sc ?_ _)))) (hb.mono (by simp<;>omega))
                  have Kp:=Lib.hid (Kp.out.new_ hbs)
                  have HB:=Lib.hid (HB.out.trans (hbs.mono HB.out.size))
                  have hsz3:=hbs.size
                  clear p0 p1 p2 pz hb hbs
                  obtain ⟨p0,p1,p2⟩:=Kp.out.c3
                  have pz:=Kp.out.lt
                  have HCB:=Lib.hid hab
                  clear hab
                  go_wp2_with fail
                  go_roundw
                  case rel=>exact ⟨i+1,by go_num,by omega,fun k hk hki=>by
                   by_cases e:k=i
                   · subst e;rw [← HY.out];exact HCB.out
                   · exact HALL.out k hk (by omega),HB.out,Kp.out⟩
                  case measure=>simp [intOf]<;>omega
              · skip
                have hie:i=p.acts.length:=by omega
                subst hie
                have HR:=Lib.hid (show shapeP n p=(-1,0) by
                 have hfi:p.acts.findIdx? (fun a=>!actB a)=none:=by
                  rw [List.findIdx?_eq_none_iff]
                  intro x hx
                  obtain ⟨k,hk,rfl⟩:=List.getElem_of_mem hx
                  rw [HALL.out k hk hk];rfl
                 rw [HQ.out,hfi])
                go_wp2_with fail
                exact bodyPost_ret (v:=.tuple #[.int .i64 (-1),.int .i64 0]) (by simp [results,Try.results22,go_sem, *]) rfl ⟨by rw [HR.out],by (repeat (first | exact Below.refl _ _ | exact HB.out | refine Below.drew ?_ | refine Below.al ?_ _ | refine Below.sc ?_ _))⟩
           · skip
             have z0:(r2 != 0)=true:=by simp [hz]
             have z1:(r2 == 0)=false:=by simp [hz]
             have HR:=Lib.hid (show shapeP n p=(r1,r2) by
              rw [HS.out,← HRR.out]
              rw [if_pos (by simpa using hz)])
             clear hz
             go_wp2_with fail
             exact bodyPost_ret (v:=.tuple #[.int .i64 r1,.int .i64 r2]) (by simp [results,Try.results22,go_sem, *]) rfl ⟨by rw [HR.out],by (repeat (first | exact Below.refl _ _ | exact HB.out | refine Below.drew ?_ | refine Below.al ?_ _ | refine Below.sc ?_ _))⟩
end Go.Proofs.Ytffemfglngikbaa
