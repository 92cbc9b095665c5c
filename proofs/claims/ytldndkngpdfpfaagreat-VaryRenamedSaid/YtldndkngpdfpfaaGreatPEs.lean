/-
  Texts put together: VaryA7, VaryA8.
-/
import Derived.Test.YtldndkngpdfpfaaGreatPEr
namespace Go.Proofs.YtldndkngpdfpfaaGreat
open Lib (hid)
set_option maxRecDepth 100000
set_option maxHeartbeats 32000000
section
open Go.RowKit Go.Shelf
attribute [local go_sem] Oper.semAt_some
set_option linter.unusedSimpArgs false
section
variable {X:World} {bx:Array Value} {nb mb:Nat} {ns:List Sym} {es:List Elem} {AO:Option Addr} {cO:Nat} {vcs:List VCo} {AC:Option Addr} {cC:Nat} {tags:List Int} {At:Option Addr} {ct:Nat} {D:Nat→Prop}
theorem Zet (x:Z0l) (w:World) (h:P3 X bx nb mb ns es AO cO vcs AC cC tags At ct D w) (hl:vcs.length=es.length) (hvl : ∀v∈vcs,v.vs.length≤1000) (hn:ns.length≤1000) (hel:es.length≤1000) :
 Calls Tryz.prog 64 #[.pointer (some ⟨mb,0,none⟩),.agg #[.int .i64 x.a.kind,.string x.a.text,.int .i64 x.a.n,.int .i64 x.b.kind,.string x.b.text,.int .i64 x.b.n,.int .i64 x.rel]] w (Zhp X bx nb mb ns es AO cO vcs AC cC tags At ct D (Z2b ns es x (vcs.map VCo.vs))):=by
 have H:=hid h;have HVL:=hid hvl;have HNL:=hid hn;have HEL:=hid hel;have HLN:=hid hl;clear h hvl hn hel hl;go_enter Tryz.func64,Tryz.ntmps64;(go_upto_region 1 with fail);obtain ⟨W1,hW1⟩ : ∃W,W=w.alloc (.cells #[.int .i64 x.a.kind,.string x.a.text,.int .i64 x.a.n,.int .i64 x.b.kind,.string x.b.text,.int .i64 x.b.n,.int .i64 x.rel] 34):=⟨_,rfl⟩;obtain ⟨b3,hb3⟩ : ∃b,b=w.heap.size:=⟨_,rfl⟩;have K3:=hid (show Blk W1 b3 34 #[.int .i64 x.a.kind,.string x.a.text,.int .i64 x.a.n,.int .i64 x.b.kind,.string x.b.text,.int .i64 x.b.n,.int .i64 x.rel] by rw [hW1,hb3];exact Blk.new _ _ _);have HB0:=hid (show Below w.heap.size w W1 by rw [hW1];exact (Zi5 _ _).alloc (Zi6 _) _);rw [← hW1,← hb3];clear hW1 hb3;have HP:=hid (show ∀W,Below W1.heap.size W1 W→P3 X bx nb mb ns es AO cO vcs AC cC tags At ct D W from fun W hW=>H.out.new_ (HB0.out.trans (hW.mono HB0.out.size)));clear H HB0;obtain ⟨la,hla⟩ : ∃b,b=Z2w ns es x.a:=⟨_,rfl⟩;have Ela:=hid hla;clear hla;obtain ⟨lb,hlb⟩ : ∃b,b=Z2w ns es x.b:=⟨_,rfl⟩;have Elb:=hid hlb;clear hlb;obtain ⟨oa,hoa⟩ : ∃b,b=Z3w ns x.a:=⟨_,rfl⟩;have Eoa:=hid hoa;clear hoa;obtain ⟨ob,hob⟩ : ∃b,b=Z3w ns x.b:=⟨_,rfl⟩;have Eob:=hid hob;clear hob;obtain ⟨sa,hsa⟩ : ∃b,b=Z3a es x.a:=⟨_,rfl⟩;have Esa:=hid hsa;clear hsa;obtain ⟨sb,hsb⟩ : ∃b,b=Z3a es x.b:=⟨_,rfl⟩;have Esb:=hid hsb;clear hsb;have HLA:=hid (show ∀W,Below W1.heap.size W1 W→Calls Tryz.prog 106 #[.pointer (some ⟨mb,0,none⟩),.agg #[.int .i64 x.a.kind,.string x.a.text,.int .i64 x.a.n]] W fun e w'=>e = .returned (.bool la)∧Below W1.heap.size W1 w' from fun W hW=>(Zb5 x.a W (HP.out W hW).cs HNL.out).mono fun e w' hh=>⟨by rw [Ela.out];exact hh.1,hW.trans (hh.2.mono hW.size)⟩);have HLB:=hid (show ∀W,Below W1.heap.size W1 W→Calls Tryz.prog 106 #[.pointer (some ⟨mb,0,none⟩),.agg #[.int .i64 x.b.kind,.string x.b.text,.int .i64 x.b.n]] W fun e w'=>e = .returned (.bool lb)∧Below W1.heap.size W1 w' from fun W hW=>(Zb5 x.b W (HP.out W hW).cs HNL.out).mono fun e w' hh=>⟨by rw [Elb.out];exact hh.1,hW.trans (hh.2.mono hW.size)⟩);have HOA:=hid (show ∀W,Below W1.heap.size W1 W→Calls Tryz.prog 107 #[.pointer (some ⟨mb,0,none⟩),.agg #[.int .i64 x.a.kind,.string x.a.text,.int .i64 x.a.n]] W fun e w'=>e = .returned (.bool oa)∧Below W1.heap.size W1 w' from fun W hW=>(Zdg x.a W (HP.out W hW).cs HNL.out).mono fun e w' hh=>⟨by rw [Eoa.out];exact hh.1,hW.trans (hh.2.mono hW.size)⟩);have HOB:=hid (show ∀W,Below W1.heap.size W1 W→Calls Tryz.prog 107 #[.pointer (some ⟨mb,0,none⟩),.agg #[.int .i64 x.b.kind,.string x.b.text,.int .i64 x.b.n]] W fun e w'=>e = .returned (.bool ob)∧Below W1.heap.size W1 w' from fun W hW=>(Zdg x.b W (HP.out W hW).cs HNL.out).mono fun e w' hh=>⟨by rw [Eob.out];exact hh.1,hW.trans (hh.2.mono hW.size)⟩);have HSA:=hid (show ∀W,Below W1.heap.size W1 W→Calls Tryz.prog 108 #[.pointer (some ⟨mb,0,none⟩),.agg #[.int .i64 x.a.kind,.string x.a.text,.int .i64 x.a.n]] W fun e w'=>e = .returned (.bool sa)∧Below W1.heap.size W1 w' from fun W hW=>(Zae x.a W (HP.out W hW).cs).mono fun e w' hh=>⟨by rw [Esa.out];exact hh.1,hW.trans (hh.2.mono hW.size)⟩);have HSB:=hid (show ∀W,Below W1.heap.size W1 W→Calls Tryz.prog 108 #[.pointer (some ⟨mb,0,none⟩),.agg #[.int .i64 x.b.kind,.string x.b.text,.int .i64 x.b.n]] W fun e w'=>e = .returned (.bool sb)∧Below W1.heap.size W1 w' from fun W hW=>(Zae x.b W (HP.out W hW).cs).mono fun e w' hh=>⟨by rw [Esb.out];exact hh.1,hW.trans (hh.2.mono hW.size)⟩);have HB:=hid (Zi5 W1.heap.size W1)
 have HLP:=HB.out;clear HLP;obtain ⟨x0,x1,x2,x3,x4,x5,x6⟩:=(K3.out.new_ HB.out).c7;have xz:=(K3.out.new_ HB.out).lt;obtain ⟨c1,hc1⟩ : ∃c,c=(decide (x.rel=7) && (la && ob || lb && oa)):=⟨_,rfl⟩;have C1:=hid hc1;clear hc1;obtain ⟨v1,hv1⟩ : ∃v,v=Value.agg #[.int .i64 x.a.kind,.string x.a.text,.int .i64 x.a.n,.int .i64 x.b.kind,.string x.b.text,.int .i64 x.b.n,.int .i64 x.rel]:=⟨_,rfl⟩;rw [← hv1];clear hv1
 go_cut [5] from 6 to 110 (fun v W=>v = .bool c1∧Below W1.heap.size W1 W)
 case first=>
  by_cases h7:x.rel=7
  case neg=>
   (have t7:(x.rel == 7)=false:=by simpa using h7);(go_wp2_with fail);go_meet
   case rel=>exact ⟨by rw [C1.out,Zi7 h7];rfl,HB.out⟩
  (have t7:(x.rel == 7)=true:=by simp [h7]);cases la<;>cases ob<;>cases lb<;>cases oa
  all_goals
   (go_wp2_with (first | ((with_reducible refine (HLA.out _ HB.out).mono ?_);rintro e V ⟨rfl,hb⟩;clear x0 x1 x2 x3 x4 x5 x6 xz HB;have HB:=hid hb;clear hb;obtain ⟨x0,x1,x2,x3,x4,x5,x6⟩:=(K3.out.new_ HB.out).c7;have xz:=(K3.out.new_ HB.out).lt) | ((with_reducible refine (HLB.out _ HB.out).mono ?_);rintro e V ⟨rfl,hb⟩;clear x0 x1 x2 x3 x4 x5 x6 xz HB;have HB:=hid hb;clear hb;obtain ⟨x0,x1,x2,x3,x4,x5,x6⟩:=(K3.out.new_ HB.out).c7;have xz:=(K3.out.new_ HB.out).lt) | ((with_reducible refine (HOA.out _ HB.out).mono ?_);rintro e V ⟨rfl,hb⟩;clear x0 x1 x2 x3 x4 x5 x6 xz HB;have HB:=hid hb;clear hb;obtain ⟨x0,x1,x2,x3,x4,x5,x6⟩:=(K3.out.new_ HB.out).c7;have xz:=(K3.out.new_ HB.out).lt) | ((with_reducible refine (HOB.out _ HB.out).mono ?_);rintro e V ⟨rfl,hb⟩;clear x0 x1 x2 x3 x4 x5 x6 xz HB;have HB:=hid hb;clear hb;obtain ⟨x0,x1,x2,x3,x4,x5,x6⟩:=(K3.out.new_ HB.out).c7;have xz:=(K3.out.new_ HB.out).lt)));go_meet
   case rel=>exact ⟨by rw [C1.out,Zih h7];rfl,HB.out⟩
 case rest=>
  obtain ⟨rfl,hbc⟩:=hcut;clear x0 x1 x2 x3 x4 x5 x6 xz HB;have HB:=hid hbc;obtain ⟨V,hV⟩ : ∃V,V=wc:=⟨_,rfl⟩;rw [← hV] at HB ⊢;clear hV hbc wc;obtain ⟨x0,x1,x2,x3,x4,x5,x6⟩:=(K3.out.new_ HB.out).c7;have xz:=(K3.out.new_ HB.out).lt;cases c1
  case true=>
   have HE:=hid (show Z2b ns es x (vcs.map VCo.vs)=none by
    have h1:=C1.out;rw [Ela.out,Elb.out,Eoa.out,Eob.out] at h1;unfold Z2b
    rw [if_pos (by simpa using h1.symm)])
   (go_wp2_with fail);go_ret;rw [HE.out];exact And.intro rfl (HP.out _ HB.out)
  have N1:=hid (show ¬(x.rel=7∧(Z2w ns es x.a=true∧Z3w ns x.b=true∨Z2w ns es x.b=true∧Z3w ns x.a=true)) by
   have h1:=C1.out;rw [Ela.out,Elb.out,Eoa.out,Eob.out] at h1;intro hc;(have h2:(decide (x.rel=7) && (Z2w ns es x.a && Z3w ns x.b || Z2w ns es x.b && Z3w ns x.a))=true:=by simpa using hc);rw [h2] at h1
   cases h1)
  clear C1;obtain ⟨c2,hc2⟩ : ∃c,c=(oa || ob):=⟨_,rfl⟩;have C2:=hid hc2;clear hc2;go_upto_region 3 with fail
  go_cut [33] from 34 to 110 (fun v W=>v = .bool c2∧Below W1.heap.size W1 W)
  case first=>
   cases oa<;>cases ob
   all_goals
    (go_wp2_with (first | ((with_reducible refine (HOA.out _ HB.out).mono ?_);rintro e V ⟨rfl,hb⟩;clear x0 x1 x2 x3 x4 x5 x6 xz HB;have HB:=hid hb;clear hb;obtain ⟨x0,x1,x2,x3,x4,x5,x6⟩:=(K3.out.new_ HB.out).c7;have xz:=(K3.out.new_ HB.out).lt) | ((with_reducible refine (HOB.out _ HB.out).mono ?_);rintro e V ⟨rfl,hb⟩;clear x0 x1 x2 x3 x4 x5 x6 xz HB;have HB:=hid hb;clear hb;obtain ⟨x0,x1,x2,x3,x4,x5,x6⟩:=(K3.out.new_ HB.out).c7;have xz:=(K3.out.new_ HB.out).lt)));go_meet
    case rel=>exact ⟨by rw [C2.out];rfl,HB.out⟩
  case rest=>
   obtain ⟨rfl,hbc⟩:=hcut;clear x0 x1 x2 x3 x4 x5 x6 xz HB;have HB:=hid hbc;obtain ⟨V,hV⟩ : ∃V,V=wc:=⟨_,rfl⟩;rw [← hV] at HB ⊢;clear hV hbc wc;obtain ⟨x0,x1,x2,x3,x4,x5,x6⟩:=(K3.out.new_ HB.out).c7;have xz:=(K3.out.new_ HB.out).lt;cases c2
   case true=>
    have HQ:=hid (show Z3w ns x.a=true∨Z3w ns x.b=true by
     have h1:=C2.out;rw [Eoa.out,Eob.out] at h1
     simpa using h1.symm)
    have HE:=hid (show Z2b ns es x (vcs.map VCo.vs)=some (vcs.map VCo.vs) by rw [Z2b,if_neg N1.out,if_pos HQ.out]);(go_wp2_with fail);go_ret;rw [HE.out];exact And.intro rfl ⟨vcs,HP.out _ HB.out,rfl,rfl⟩
   have N2:=hid (show ¬(Z3w ns x.a=true∨Z3w ns x.b=true) by
    have h1:=C2.out;rw [Eoa.out,Eob.out] at h1
    simpa using h1.symm)
   clear C2;obtain ⟨c3,hc3⟩ : ∃c,c=(decide (x.a.kind=1) && decide (x.b.kind=1)):=⟨_,rfl⟩;have C3:=hid hc3;clear hc3;go_upto_region 5 with fail
   go_cut [44] from 45 to 110 (fun v W=>v = .bool c3∧Below W1.heap.size W1 W)
   case first=>
    by_cases ha:x.a.kind=1
    case neg=>
     (have ta:(x.a.kind == 1)=false:=by simpa using ha);(go_wp2_with fail);go_meet
     case rel=>exact ⟨by rw [C3.out,Zi7 ha];rfl,HB.out⟩
    by_cases hb:x.b.kind=1
    case neg=>
     (have tb:(x.b.kind == 1)=false:=by simpa using hb);(go_wp2_with fail);go_meet
     case rel=>exact ⟨by rw [C3.out,Zih ha,Zi7 hb];rfl,HB.out⟩
    have C3:=hid (show c3=true by rw [C3.out,Zih ha,Zih hb];rfl);(go_wp2_with fail);go_meet
    case rel=>exact ⟨by rw [C3.out],HB.out⟩
   case rest=>
    obtain ⟨rfl,hbc⟩:=hcut;clear x0 x1 x2 x3 x4 x5 x6 xz HB;have HB:=hid hbc;obtain ⟨V,hV⟩ : ∃V,V=wc:=⟨_,rfl⟩;rw [← hV] at HB ⊢;clear hV hbc wc;obtain ⟨x0,x1,x2,x3,x4,x5,x6⟩:=(K3.out.new_ HB.out).c7;have xz:=(K3.out.new_ HB.out).lt;cases c3
    case true=>
     have Q3:=hid (show x.a.kind=1∧x.b.kind=1 by simpa using C3.out.symm);clear C3;obtain ⟨c4,hc4⟩ : ∃c,c=(decide (x.a=x.b) || (!decide (x.rel=2) && (!decide (x.rel=7) || (sa && sb)))):=⟨_,rfl⟩;have C4:=hid hc4;clear hc4;have heq:=Z38 x.a x.b;go_upto_region 6 with fail
     go_cut [81] from 55 to 110 (fun v W=>v = .bool c4∧Below W1.heap.size W1 W)
     case first=>
      obtain ⟨d,hd⟩ : ∃d,d=decide (x.a=x.b):=⟨_,rfl⟩;rw [← hd] at heq;have C4':=hid (show c4=(d || (!decide (x.rel=2) && (!decide (x.rel=7) || (sa && sb)))) by rw [hd];exact C4.out);clear hd C4;cases d
      case true=>
       (go_wp2_with fail);go_meet
       case rel=>exact ⟨by rw [C4'.out];rfl,HB.out⟩
      by_cases h2:x.rel=2
      case pos=>
       (have t2:(x.rel == 2)=true:=by simp [h2]);(go_wp2_with fail);go_meet
       case rel=>exact ⟨by rw [C4'.out,Zih h2];rfl,HB.out⟩
      (have t2:(x.rel == 2)=false:=by simpa using h2);(have t2n:(x.rel != 2)=true:=by simpa using h2);by_cases h7:x.rel=7
      case neg=>
       (have t7:(x.rel == 7)=false:=by simpa using h7);(have t7n:(x.rel != 7)=true:=by simpa using h7);(go_wp2_with fail);go_meet
       case rel=>exact ⟨by rw [C4'.out,Zi7 h2,Zi7 h7];rfl,HB.out⟩
      (have t7:(x.rel == 7)=true:=by simp [h7]);cases sa<;>cases sb
      all_goals
       (go_wp2_with (first | ((with_reducible refine (HSA.out _ HB.out).mono ?_);rintro e V ⟨rfl,hb⟩;clear x0 x1 x2 x3 x4 x5 x6 xz HB;have HB:=hid hb;clear hb;obtain ⟨x0,x1,x2,x3,x4,x5,x6⟩:=(K3.out.new_ HB.out).c7;have xz:=(K3.out.new_ HB.out).lt) | ((with_reducible refine (HSB.out _ HB.out).mono ?_);rintro e V ⟨rfl,hb⟩;clear x0 x1 x2 x3 x4 x5 x6 xz HB;have HB:=hid hb;clear hb;obtain ⟨x0,x1,x2,x3,x4,x5,x6⟩:=(K3.out.new_ HB.out).c7;have xz:=(K3.out.new_ HB.out).lt)));go_meet
       case rel=>exact ⟨by rw [C4'.out,Zi7 h2,Zih h7];rfl,HB.out⟩
     case rest=>
      obtain ⟨rfl,hbc⟩:=hcut;clear x0 x1 x2 x3 x4 x5 x6 xz HB;have HB:=hid hbc;obtain ⟨V,hV⟩ : ∃V,V=wc:=⟨_,rfl⟩;rw [← hV] at HB ⊢;clear hV hbc wc;obtain ⟨x0,x1,x2,x3,x4,x5,x6⟩:=(K3.out.new_ HB.out).c7;have xz:=(K3.out.new_ HB.out).lt;clear heq;have h4:=C4.out;rw [Esa.out,Esb.out] at h4;cases c4
      case true=>
       have HQ:=hid (show x.a=x.b∨x.rel≠2∧(x.rel≠7∨Z3a es x.a=true∧Z3a es x.b=true) by simpa using h4.symm);clear h4;have HE:=hid (show Z2b ns es x (vcs.map VCo.vs)=some (vcs.map VCo.vs) by rw [Z2b,if_neg N1.out,if_neg N2.out,if_pos Q3.out,if_pos HQ.out]);(go_wp2_with fail);go_ret;rw [HE.out];exact And.intro rfl ⟨vcs,HP.out _ HB.out,rfl,rfl⟩
      have HQ:=hid (show ¬(x.a=x.b∨x.rel≠2∧(x.rel≠7∨Z3a es x.a=true∧Z3a es x.b=true)) by
       intro hc;(have h2:(decide (x.a=x.b) || (!decide (x.rel=2) && (!decide (x.rel=7) || (Z3a es x.a && Z3a es x.b))))=true:=by simpa using hc);rw [h2] at h4
       cases h4)
      clear h4;have HTW:=Zhx x V (HP.out _ HB.out) HLN.out HVL.out HNL.out HEL.out;obtain ⟨r,hr⟩ : ∃r,r=twoV ns es x (vcs.map VCo.vs):=⟨_,rfl⟩;rw [← hr] at HTW;have HE:=hid (show Z2b ns es x (vcs.map VCo.vs)=r by rw [Z2b,if_neg N1.out,if_neg N2.out,if_pos Q3.out,if_neg HQ.out,hr]);have HTW:=hid HTW;clear hr;(go_wp2_with fail);refine HTW.out.mono ?_;intro e w2 hh
      cases r with
      | none=>
        obtain ⟨rfl,hp⟩:=(show e = .returned (.bool false)∧P3 X bx nb mb ns es AO cO vcs AC cC tags At ct D w2 from hh);have HP2:=hid hp;clear x0 x1 x2 x3 x4 x5 x6 xz hh hp;(go_wp2_with fail);go_ret;rw [HE.out];exact And.intro rfl HP2.out
      | some vss=>
        obtain ⟨rfl,hp⟩:=(show e = .returned (.bool true)∧Z9o X bx nb mb ns es AO cO vcs AC cC tags At ct D vss w2 from hh);have HP2:=hid hp;clear x0 x1 x2 x3 x4 x5 x6 xz hh hp;(go_wp2_with fail);go_ret;rw [HE.out];exact And.intro rfl HP2.out
    have N3:=hid (show ¬(x.a.kind=1∧x.b.kind=1) by
     intro hc;have h1:=C3.out;rw [Zih hc.1,Zih hc.2] at h1
     cases h1)
    clear C3;by_cases h2:x.rel=2
    case neg=>
     (have t2:(x.rel == 2)=false:=by simpa using h2);(have t2n:(x.rel != 2)=true:=by simpa using h2);have HE:=hid (show Z2b ns es x (vcs.map VCo.vs)=some (vcs.map VCo.vs) by rw [Z2b,if_neg N1.out,if_neg N2.out,if_neg N3.out,if_pos h2]);(go_wp2_with fail);go_ret;rw [HE.out];exact And.intro rfl ⟨vcs,HP.out _ HB.out,rfl,rfl⟩
    have HE0:=hid (show Z2b ns es x (vcs.map VCo.vs)=if la=true then some (oneV es x.a x.b (vcs.map VCo.vs)) else if lb=true then some (oneV es x.b x.a (vcs.map VCo.vs)) else some (vcs.map VCo.vs) by rw [Z2b,if_neg N1.out,if_neg N2.out,if_neg N3.out,if_neg (fun hc=>hc h2),Ela.out,Elb.out]);have HO1:=hid (show ∀W,Below W1.heap.size W1 W→_ from fun W hW=>Zgn x.a x.b W (HP.out W hW) HLN.out HVL.out);have HO2:=hid (show ∀W,Below W1.heap.size W1 W→_ from fun W hW=>Zgn x.b x.a W (HP.out W hW) HLN.out HVL.out);(have t2:(x.rel == 2)=true:=by simp [h2]);cases la
    case true=>
     (go_wp2_with (first | ((with_reducible refine (HLA.out _ HB.out).mono ?_);rintro e V ⟨rfl,hb⟩;clear x0 x1 x2 x3 x4 x5 x6 xz HB;have HB:=hid hb;clear hb;obtain ⟨x0,x1,x2,x3,x4,x5,x6⟩:=(K3.out.new_ HB.out).c7;have xz:=(K3.out.new_ HB.out).lt)));refine (HO1.out _ HB.out).mono ?_;rintro e w2 ⟨rfl,hp⟩;have HP2:=hid hp;clear x0 x1 x2 x3 x4 x5 x6 xz hp;(go_wp2_with fail);go_ret;rw [HE0.out];exact And.intro rfl HP2.out
    cases lb
    case true=>
     (go_wp2_with (first | ((with_reducible refine (HLA.out _ HB.out).mono ?_);rintro e V ⟨rfl,hb⟩;clear x0 x1 x2 x3 x4 x5 x6 xz HB;have HB:=hid hb;clear hb;obtain ⟨x0,x1,x2,x3,x4,x5,x6⟩:=(K3.out.new_ HB.out).c7;have xz:=(K3.out.new_ HB.out).lt) | ((with_reducible refine (HLB.out _ HB.out).mono ?_);rintro e V ⟨rfl,hb⟩;clear x0 x1 x2 x3 x4 x5 x6 xz HB;have HB:=hid hb;clear hb;obtain ⟨x0,x1,x2,x3,x4,x5,x6⟩:=(K3.out.new_ HB.out).c7;have xz:=(K3.out.new_ HB.out).lt)));refine (HO2.out _ HB.out).mono ?_;rintro e w2 ⟨rfl,hp⟩;have HP2:=hid hp;clear x0 x1 x2 x3 x4 x5 x6 xz hp;(go_wp2_with fail);go_ret;rw [HE0.out];exact And.intro rfl HP2.out
    (go_wp2_with (first | ((with_reducible refine (HLA.out _ HB.out).mono ?_);rintro e V ⟨rfl,hb⟩;clear x0 x1 x2 x3 x4 x5 x6 xz HB;have HB:=hid hb;clear hb;obtain ⟨x0,x1,x2,x3,x4,x5,x6⟩:=(K3.out.new_ HB.out).c7;have xz:=(K3.out.new_ HB.out).lt) | ((with_reducible refine (HLB.out _ HB.out).mono ?_);rintro e V ⟨rfl,hb⟩;clear x0 x1 x2 x3 x4 x5 x6 xz HB;have HB:=hid hb;clear hb;obtain ⟨x0,x1,x2,x3,x4,x5,x6⟩:=(K3.out.new_ HB.out).c7;have xz:=(K3.out.new_ HB.out).lt)));go_ret;rw [HE0.out];exact And.intro rfl ⟨vcs,HP.out _ HB.out,rfl,rfl⟩
end
end
section
open Go.RowKit Go.Shelf
def hdP (ns:List Sym) (e:Elem):HdV:=⟨e.goal,Z2k e.id (plV ns e.id),⟨1,⟨#[]⟩,e.attr,[]⟩,e.acc⟩
theorem Z95 (ns:List Sym) : ∀(vcs:List VCo) (o:List Elem),vcs.map VCo.cond=o.map (posV ns)→vcs.map VCo.vs=o.map (vs0 ns)∧vcs.map VCo.hd=o.map (hdP ns)
 | [],[],_=>⟨rfl,rfl⟩
 | [],_ :: _,h=>by simp at h
 | _ :: _,[],h=>by simp at h
 | v :: vs,e :: o,h=>by
   rw [List.map_cons,List.map_cons] at h;injection h with h1 h2;obtain ⟨a,b⟩:=Z95 ns vs o h2;unfold VCo.cond posV at h1;injection h1 with _ g1 g2 g3 g4 g5 _;injection g3 with g3 _;rw [List.map_cons,List.map_cons,List.map_cons,List.map_cons,a,b];refine ⟨?_,?_⟩
   · congr 1
   · congr 1
     unfold VCo.hd hdP;rw [g1,g2,g3,g5]
theorem Zbj (ns:List Sym) : ∀(vcs:List VCo) (o:List Elem),vcs.map VCo.hd=o.map (hdP ns)→vcs.map VCo.cond=List.zipWith (Z4q ns) o (vcs.map VCo.vs)
 | [],[],_=>rfl
 | [],_ :: _,h=>by simp at h
 | _ :: _,[],h=>by simp at h
 | v :: vs,e :: o,h=>by
   rw [List.map_cons,List.map_cons] at h;injection h with h1 h2;rw [List.map_cons,List.map_cons,List.zipWith_cons_cons,Zbj ns vs o h2];congr 1;unfold VCo.hd hdP at h1;injection h1 with g1 g2 g3 g4;unfold VCo.cond Z4q;rw [g1,g2,g3,g4]
theorem Zce (t:Z0t) (l:List Z0t) (n:Nat) (h:l.length≤n):(addT t l).length≤n+1:=by
 unfold addT
 split
 · omega
 · simp;omega
theorem Z6o (t:Z0t) (n:Nat) : ∀(vss:List (List Z0t)) (k:Nat),(∀v∈vss,v.length≤n)→∀v∈putT vss k t,v.length≤n+1
 | [],k,_,v,hv=>by unfold putT at hv;cases k<;>simp at hv
 | a :: l,0,h,v,hv=>by
   unfold putT at hv;rw [List.modify_zero_cons] at hv;rcases Zil.1 hv with rfl | hv
   · exact Zce t a n (h a Zje)
   · have:=h v (Zjg _ hv);omega
 | a :: l,k+1,h,v,hv=>by
   unfold putT at hv;rw [List.modify_succ_cons] at hv;rcases Zil.1 hv with rfl | hv
   · have:=h _ Zje;omega
   · exact Z6o t n l k (fun u hu=>h u (Zjg _ hu)) v hv
theorem Zdm {es:List Elem} {a c:Sym} {vss:List (List Z0t)} {n:Nat} (h : ∀v∈vss,v.length≤n) : ∀v∈oneV es a c vss,v.length≤n+1:=by
 unfold oneV
 split
 · exact fun v hv=>by have:=h v hv;omega
 · exact Z6o _ n _ _ h
theorem Ze6 {ns:List Sym} {es:List Elem} {x:Z0l} {vss r:List (List Z0t)} {n:Nat} (h : ∀v∈vss,v.length≤n) (hr:twoV ns es x vss=some r) : ∀v∈r,v.length≤n+1:=by
 unfold twoV at hr
 split at hr
 · cases hr
 · cases hr
   exact Z6o _ n _ _ h
theorem Z9p {ns:List Sym} {es:List Elem} {x:Z0l} {vss r:List (List Z0t)} {n:Nat} (h : ∀v∈vss,v.length≤n) (hr:Z2b ns es x vss=some r) : ∀v∈r,v.length≤n+1:=by
 (have h1 : ∀v∈vss,v.length≤n+1:=fun v hv=>by have:=h v hv;omega);unfold Z2b at hr
 repeat' split at hr
 all_goals first
  | (cases hr;done)
  | (cases hr;exact h1)
  | exact Ze6 h hr
  | (cases hr;exact Zdm h)
theorem Zf5 (m:Nat) (ns:List Sym) : ∀(l:List Elem) (vss:List (List Z0t)),vss.length=l.length→(Z0x (m+1) 0 (List.zipWith (Z4q ns) l vss)).length=l.length:=by
 (have h0 : ∀d,(Z0x m d []).length=0:=fun d=>by cases m<;>rfl);intro l
 induction l with
 | nil=>intro vss _;cases vss<;>rfl
 | cons x l ih=>
   intro vss hl
   match vss,hl with
   | v :: vss,hl=>
     have:=ih vss (by simpa using hl);rw [List.zipWith_cons_cons];show (((Z4q ns x v) :: List.zipWith (Z4q ns) l vss).flatMap fun c=>(0,c) :: Z0x m 1 c.conds).length=_;rw [Zj5,Zit,Zj4,Zj4,show (Z4q ns x v).conds = [] from rfl,h0];have e:((List.zipWith (Z4q ns) l vss).flatMap fun c=>(0,c) :: Z0x m 1 c.conds).length=l.length:=this;omega
def Zgi (m:Nat) (name:ByteArray) (o:List Elem) (old:Sym→Bool) (ns:List Sym) (l:List Z1a):Option (List (List Z0t))→Option (Z3o×List Int)
 | none=>none
 | some vss=>Z5n m name (List.zipWith (Z4q ns) o vss) (o.map Elem.tag) old ns l
theorem Zc1 {m:Nat} {name:ByteArray} {es:List Elem} {as_:List Z0l} {old:Sym→Bool} {news:List Sym} {l:List Z1a} {o:List Elem} {ns:List Sym} (h:Z2p es=some (o,ns)) (h1 : ¬o = []) (h2 : ¬(news.any fun s=>!decide (plV ns s=0))=true) :
 Z3t m name es as_ old news l=Zgi m name o old ns l (Z1s ns o as_ (o.map (vs0 ns))):=by
 unfold Z3t;rw [h];simp only;rw [if_neg h1,if_neg h2];rfl
theorem Zhj {ns:List Sym} {vcs:List VCo} {o:List Elem} (h:vcs.map VCo.vs=o.map (vs0 ns)) : ∀v∈vcs.map VCo.vs,v.length≤1:=by
 rw [h];intro v hv;obtain ⟨e,_,rfl⟩:=List.mem_map.1 hv;exact Zi6 _
end
end Go.Proofs.YtldndkngpdfpfaaGreat
