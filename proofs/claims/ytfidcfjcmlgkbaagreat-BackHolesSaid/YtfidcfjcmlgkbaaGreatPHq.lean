/-
  Texts put together: Ref06J, BkFind, Queue, LeafBnum, LeafPgR, LeafPgT, BkPlain, BkReach.
-/
import Derived.Test.YtfidcfjcmlgkbaaGreatPHp
namespace Go.Proofs.YtfidcfjcmlgkbaaGreat
open Lib (hid)
set_option maxRecDepth 100000
set_option maxHeartbeats 32000000
set_option linter.unusedSimpArgs false
section
open Go.RowKit Go.Shelf
attribute [local go_sem] Oper.semAt_some
theorem Zhz {D:Nat→Prop} (p:Z3y) (n:Nat) (A1 A2:Option Addr) (c1 c2:Nat) (w:World) (h1:RowR (Z05 n) D w A1 c1 p.conds) (h2:RowR Z19 D w A2 c2 p.acts) (hF:(Z0h n 0 p.conds).length≤1000000) (hn:n≤1000000) :
 Calls Tryz.prog 31 #[.agg #[.string p.name,.slice A1 p.conds.length c1,.slice A2 p.acts.length c2]] w fun e w'=>e = .returned (.tuple #[.int .i64 (Z2b n p).1,.int .i64 (Z2b n p).2.1])∧Below w.heap.size w w':=by
 have H1:=hid h1;have H2:=hid h2;have hl2:=h2.cap;obtain ⟨⟨sa,se⟩,hse⟩ : ∃r,r=Z1m n p:=⟨_,rfl⟩;have HSE:=hid hse.symm;have hsh:=fun W (hb:Below w.heap.size w W)=>Zi6 p n A1 A2 c1 c2 W (h1.new_ hb) (h2.new_ hb) hF hn;simp only [← hse] at hsh;have HSH:=hid hsh;have HF:=hid hF;clear h1 h2 hse hsh hF;go_enter Tryz.func31,Tryz.ntmps31;(go_upto_region 1 with fail);obtain ⟨w1,hw1⟩ : ∃w1,w1=(w.alloc (.cells #[.string p.name,.slice A1 p.conds.length c1,.slice A2 p.acts.length c2] 25)):=⟨_,rfl⟩;rw [← hw1];have HB:=hid (show Below w.heap.size w w1 by rw [hw1];exact (by repeat (first | exact Zm7 _ _ | refine Below.drew ?_ | refine Below.al ?_ _ | refine Below.sc ?_ _)));have Kp:=hid (show Blk w1 (w.heap.size) 25 #[.string p.name,.slice A1 p.conds.length c1,.slice A2 p.acts.length c2] by rw [hw1];exact (Blk.new w 25 #[.string p.name,.slice A1 p.conds.length c1,.slice A2 p.acts.length c2]));clear hw1;obtain ⟨p0,p1,p2⟩:=Kp.out.c3;have pz:=Kp.out.lt;(go_wp2_with fail);(with_reducible refine (HSH.out _ (by (repeat (first | exact Zm7 _ _ | exact HB.out | refine Below.drew ?_ | refine Below.al ?_ _ | refine Below.sc ?_ _)))).mono ?_);rintro e w2 ⟨rfl,hb⟩;have hbs:=Below.trans (show Below w1.heap.size w1 _ from (by (repeat (first | exact Zm7 _ _ | refine Below.drew ?_ | refine Below.al ?_ _ | refine Below.sc ?_ _)))) (hb.mono (by simp<;>omega));have Kp:=hid (Kp.out.new_ hbs);have HB:=hid (HB.out.trans (hbs.mono HB.out.size));have hsz2:=hbs.size;clear p0 p1 p2 pz hb hbs;obtain ⟨p0,p1,p2⟩:=Kp.out.c3;have pz:=Kp.out.lt;by_cases hs0:se=0
 · skip
   have hok:=Zcb (n:=n) (p:=p) (by rw [HSE.out];exact hs0);have HOK:=hid hok;(have s1:(se == 0)=true:=by simp [hs0]);(have s2:decide (se=0)=true:=by simp [hs0]);(have s3:(se != 0)=false:=by simp [hs0]);have HS0:=hid (show (Z1m n p).2=0 by rw [HSE.out];exact hs0)
   have hne:p.conds≠[]:=by
    intro h;have:=hok.1;rw [h,Z6l] at this;simp at this
   obtain ⟨n,rfl⟩ : ∃m,n=m+1:=by
    cases n with
    | zero=>have:=hok.1;exact absurd this (by simp [Z0h])
    | succ m=>exact ⟨m,rfl⟩
   obtain ⟨x,l,hxl⟩:=List.exists_cons_of_ne_nil hne;have hlen1:0<p.conds.length:=List.length_pos_iff.2 hne;obtain ⟨g,off,B1,d1,B2,d2,B3,d3,rfl,hgD,hg,q0,-,-,-,-,-,-,-,-,-⟩:=Z1n (H1.out.new_ HB.out) hlen1;(have hx0:p.conds[0]=x:=by simp [hxl]);rw [hx0] at q0;simp only [Nat.zero_mul,Nat.add_zero] at q0;have HXL:=hid hxl;(have b1:(0:Int)<(p.conds.length:Int):=by omega);clear hs0 hok hne hxl hx0 hlen1;by_cases hx1:x.kind=1
   · skip
     (have t1:(x.kind == 1)=true:=by simp [hx1]);(have t2:decide (x.kind=1)=true:=by simp [hx1]);(have t3:(x.kind != 1)=false:=by simp [hx1]);have HX1:=hid hx1;clear hx1;obtain ⟨⟨bo,ka,K3⟩,hcr⟩ : ∃r,r=Z1g (n+1) ([],[]) p.conds 0:=⟨_,rfl⟩;obtain ⟨m,hm⟩ : ∃m,m=(Z0h (n+1) 0 p.conds).length:=⟨_,rfl⟩;have HM:=hid hm;(have hm16:m≤16:=by rw [hm];exact HOK.out.2.1);have hkn:=fun W (hb:Below w.heap.size w W)=>Zi4 (n+1) D (some ⟨g,off,none⟩) none c1 0 0 0 ([],[]) [] p.conds W (H1.out.new_ hb) (RowR.nil _ _ _) KRel.nil HOK.out.2.2.2.2 (by have:=HOK.out.2.1;omega) (by have:=HOK.out.2.1;simp;omega)
     have hkn2 : ∀W,Below w.heap.size w W→Calls Tryz.prog 77 #[.slice (some ⟨g,off,none⟩) p.conds.length c1,.int .i64 0,.slice none 0 0] W (Zcj (bo,ka,K3) 0 0 m W):=by
      intro W hb;have:=hkn W hb;rw [hcr,hm];exact this
     have HKN:=hid hkn2
     have HSZ:=hid (show ∀W,Below w.heap.size w W→Calls Tryz.prog 78 #[.slice (some ⟨g,off,none⟩) p.conds.length c1] W fun e w'=>e = .returned (.int .i64 (m:Nat))∧W=w' by
      intro W hb;have:=Z83 (n+1) D (some ⟨g,off,none⟩) c1 0 p.conds W (H1.out.new_ hb) HF.out;rw [hm]
      exact this)
     have HCR:=hid hcr.symm;clear hkn hkn2 hcr hm;(go_wp2_with fail);(with_reducible refine (HKN.out _ (by (repeat (first | exact Zm7 _ _ | exact HB.out | refine Below.drew ?_ | refine Below.al ?_ _ | refine Below.sc ?_ _)))).mono ?_);rintro e w3 ⟨A9,c9,o9,kk,rfl,hb,hyes,hno⟩;have hbs:=Below.trans (show Below w2.heap.size w2 _ from (by (repeat (first | exact Zm7 _ _ | refine Below.drew ?_ | refine Below.al ?_ _ | refine Below.sc ?_ _)))) (hb.mono (by simp<;>omega));have Kp:=hid (Kp.out.new_ hbs);have HB:=hid (HB.out.trans (hbs.mono HB.out.size));have hsz3:=hbs.size;clear p0 p1 p2 pz hb hbs;obtain ⟨p0,p1,p2⟩:=Kp.out.c3;have pz:=Kp.out.lt;have HY:=hid hyes;have HN:=hid hno;clear hyes hno q0;dsimp only;cases bo
     · skip
       have HR:=hid (show Z2b (n+1) p=(kk,6,[]) by rw [HN.out rfl];exact Z7k HS0.out HXL.out HX1.out HCR.out);(go_wp2_with fail);exact bodyPost_ret (v:=.tuple #[.int .i64 kk,.int .i64 6]) (by simp [results,Tryz.results31,go_sem, *]) rfl ⟨by rw [HR.out],by (repeat (first | exact Zm7 _ _ | exact HB.out | refine Below.drew ?_ | refine Below.al ?_ _ | refine Below.sc ?_ _))⟩
     · skip
       obtain ⟨hkr,hro,-,hka⟩:=HY.out rfl;dsimp only at hkr hro hka;(have hka2:ka=(m:Int):=by rw [hka];simp);subst hka2;have HKR:=hid hkr;have HRO:=hid hro;have HR0:=hid (Zba HS0.out HXL.out HX1.out HCR.out);have hal:=HOK.out.2.2.2.1;clear hkr hro hka;(go_wp2_with fail);(with_reducible refine (HSZ.out _ (by (repeat (first | exact Zm7 _ _ | exact HB.out | refine Below.drew ?_ | refine Below.al ?_ _ | refine Below.sc ?_ _)))).mono ?_);rintro e w0 ⟨rfl,rfl⟩;have HBL:=hid HB.out;(go_wp2_with fail);clear p0 p1 p2 pz
       go_loopw [9] (fun s wr=>∃i:Nat,s = .int .i64 i∧i≤p.acts.length∧(∀k,(h:k<p.acts.length)→k<i→actV K3 p.acts[k]=false)∧Below w3.heap.size w3 wr) (fun s wr=>p.acts.length - (intOf s).toNat)
       case atStart=>exact ⟨0,rfl,Nat.zero_le _,fun k _ h=>absurd h (by omega),Zm7 _ _⟩
       case round=>
        obtain ⟨i,rfl,hi,hall,hBr⟩:=hrel;have HALL:=hid hall;have HBr:=hid hBr;have HB:=hid (HBL.out.trans (hBr.mono HBL.out.size));have Kp:=hid (Kp.out.new_ hBr);have hzr:=hBr.size;clear hall hBr;obtain ⟨p0,p1,p2⟩:=Kp.out.c3;have pz:=Kp.out.lt;by_cases hlt:i<p.acts.length
        · skip
          obtain ⟨y,hy⟩ : ∃y,y=p.acts[i]:=⟨_,rfl⟩;obtain ⟨gg,oo,rfl,_,hgg,hrg⟩:=Zep (H2.out.new_ HB.out) hlt;rw [← hy] at hrg;have HRG:=hid (show wr.rangeAt gg (oo+i*19) [.string y.id,.string y.attr.var,.int .i64 y.attr.sym.kind,.string y.attr.sym.text,.int .i64 y.attr.sym.n,.int .i64 y.value.op,.string y.value.a.var,.int .i64 y.value.a.sym.kind,.string y.value.a.sym.text,.int .i64 y.value.a.sym.n,.string y.value.b.var,.int .i64 y.value.b.sym.kind,.string y.value.b.sym.text,.int .i64 y.value.b.sym.n,.int .i64 y.pref,.string y.other.var,.int .i64 y.other.sym.kind,.string y.other.sym.text,.int .i64 y.other.sym.n] from hrg);have HY2:=hid hy;(have b3:(0:Int)≤(i:Int):=by omega);(have b4:(i:Int)<(p.acts.length:Int):=by omega);have HTH:=hid (show (wr.alloc (.cells #[.string ⟨#[]⟩,.string ⟨#[]⟩,.int .i64 0,.string ⟨#[]⟩,.int .i64 0,.int .i64 0,.string ⟨#[]⟩,.int .i64 0,.string ⟨#[]⟩,.int .i64 0,.string ⟨#[]⟩,.int .i64 0,.string ⟨#[]⟩,.int .i64 0,.int .i64 0,.string ⟨#[]⟩,.int .i64 0,.string ⟨#[]⟩,.int .i64 0] 96)).there wr.heap.size 0 (#[.string y.id,.string y.attr.var,.int .i64 y.attr.sym.kind,.string y.attr.sym.text,.int .i64 y.attr.sym.n,.int .i64 y.value.op,.string y.value.a.var,.int .i64 y.value.a.sym.kind,.string y.value.a.sym.text,.int .i64 y.value.a.sym.n,.string y.value.b.var,.int .i64 y.value.b.sym.kind,.string y.value.b.sym.text,.int .i64 y.value.b.sym.n,.int .i64 y.pref,.string y.other.var,.int .i64 y.other.sym.kind,.string y.other.sym.text,.int .i64 y.other.sym.n]:Array Value).size from (Blk.new wr 96 #[.string ⟨#[]⟩,.string ⟨#[]⟩,.int .i64 0,.string ⟨#[]⟩,.int .i64 0,.int .i64 0,.string ⟨#[]⟩,.int .i64 0,.string ⟨#[]⟩,.int .i64 0,.string ⟨#[]⟩,.int .i64 0,.string ⟨#[]⟩,.int .i64 0,.int .i64 0,.string ⟨#[]⟩,.int .i64 0,.string ⟨#[]⟩,.int .i64 0]).there);obtain ⟨W6,hW6⟩ : ∃W6,W6=(wr.alloc (.cells #[.string ⟨#[]⟩,.string ⟨#[]⟩,.int .i64 0,.string ⟨#[]⟩,.int .i64 0,.int .i64 0,.string ⟨#[]⟩,.int .i64 0,.string ⟨#[]⟩,.int .i64 0,.string ⟨#[]⟩,.int .i64 0,.string ⟨#[]⟩,.int .i64 0,.int .i64 0,.string ⟨#[]⟩,.int .i64 0,.string ⟨#[]⟩,.int .i64 0] 96)).setCells wr.heap.size 0 [.string y.id,.string y.attr.var,.int .i64 y.attr.sym.kind,.string y.attr.sym.text,.int .i64 y.attr.sym.n,.int .i64 y.value.op,.string y.value.a.var,.int .i64 y.value.a.sym.kind,.string y.value.a.sym.text,.int .i64 y.value.a.sym.n,.string y.value.b.var,.int .i64 y.value.b.sym.kind,.string y.value.b.sym.text,.int .i64 y.value.b.sym.n,.int .i64 y.pref,.string y.other.var,.int .i64 y.other.sym.kind,.string y.other.sym.text,.int .i64 y.other.sym.n]:=⟨_,rfl⟩;have HW6:=hid hW6;(have hRG6:W6.rangeAt wr.heap.size 0 [.string y.id,.string y.attr.var,.int .i64 y.attr.sym.kind,.string y.attr.sym.text,.int .i64 y.attr.sym.n,.int .i64 y.value.op,.string y.value.a.var,.int .i64 y.value.a.sym.kind,.string y.value.a.sym.text,.int .i64 y.value.a.sym.n,.string y.value.b.var,.int .i64 y.value.b.sym.kind,.string y.value.b.sym.text,.int .i64 y.value.b.sym.n,.int .i64 y.pref,.string y.other.var,.int .i64 y.other.sym.kind,.string y.other.sym.text,.int .i64 y.other.sym.n]:=by rw [hW6];exact Zmm _ _ _ _ HTH.out);(have hB6:Below wr.heap.size wr W6:=by rw [hW6];exact Below.setCells' _ _ ((Zm7 _ _).alloc (Zm8 _) _) (Zm8 _));have HB6:=hid (HB.out.trans (hB6.mono HB.out.size));have HSN:=hid (show ∀(a:Z2j) (X:World),Below wr.heap.size wr X→Calls Tryz.prog 79 #[.agg #[.string a.var,.int .i64 a.sym.kind,.string a.sym.text,.int .i64 a.sym.n],.slice A9 o9.length c9] X fun e w'=>e = .returned (.bool (!Z2y K3 a))∧Below X.heap.size X w' from fun a X hX=>Zle a K3 o9 X (HRO.out.new_ (HBr.out.trans (hX.mono hzr))) HKR.out);have HB66:=hid hB6;have e1:W6.cell? ⟨wr.heap.size,1,none⟩=some (.string y.attr.var):=(hRG6 1 _ rfl);have e2:W6.cell? ⟨wr.heap.size,2,none⟩=some (.int .i64 y.attr.sym.kind):=(hRG6 2 _ rfl);have e3:W6.cell? ⟨wr.heap.size,3,none⟩=some (.string y.attr.sym.text):=(hRG6 3 _ rfl);have e4:W6.cell? ⟨wr.heap.size,4,none⟩=some (.int .i64 y.attr.sym.n):=(hRG6 4 _ rfl);have e5:W6.cell? ⟨wr.heap.size,5,none⟩=some (.int .i64 y.value.op):=(hRG6 5 _ rfl);have e6:W6.cell? ⟨wr.heap.size,6,none⟩=some (.string y.value.a.var):=(hRG6 6 _ rfl);have e7:W6.cell? ⟨wr.heap.size,7,none⟩=some (.int .i64 y.value.a.sym.kind):=(hRG6 7 _ rfl);have e8:W6.cell? ⟨wr.heap.size,8,none⟩=some (.string y.value.a.sym.text):=(hRG6 8 _ rfl);have e9:W6.cell? ⟨wr.heap.size,9,none⟩=some (.int .i64 y.value.a.sym.n):=(hRG6 9 _ rfl);have e10:W6.cell? ⟨wr.heap.size,10,none⟩=some (.string y.value.b.var):=(hRG6 10 _ rfl);have e11:W6.cell? ⟨wr.heap.size,11,none⟩=some (.int .i64 y.value.b.sym.kind):=(hRG6 11 _ rfl);have e12:W6.cell? ⟨wr.heap.size,12,none⟩=some (.string y.value.b.sym.text):=(hRG6 12 _ rfl);have e13:W6.cell? ⟨wr.heap.size,13,none⟩=some (.int .i64 y.value.b.sym.n):=(hRG6 13 _ rfl);have hlo6:wr.heap.size<W6.heap.size:=Zmj _ _ e1;clear hy hrg hW6 hRG6 hB6;cases hla:Z2y K3 y.attr
          · skip
            have hA:=HSN.out y.attr W6 HB66.out;simp only [hla,Bool.not_false] at hA;have HA:=hid hA;clear hA;by_cases h0:y.value.op=0
            · skip
              (have o1:(y.value.op == 0)=true:=by simp [h0]);(have o2:decide (y.value.op=0)=true:=by simp [h0]);(have o4:(y.value.op != 0)=false:=by simp [h0]);have HV:=hid (show actV K3 y=false by simp [actV,hla,h0]);clear hla h0
              go_wp2_with (first
               | (with_reducible refine wpList_load_mid rfl 96 _ rfl gg (oo+i*19) rfl _ _ HRG.out Tryz.underlying96 rfl (by kernel_rfl) ?_)
               | ((with_reducible refine wpList_store_mid rfl 96 _ _ rfl wr.heap.size 0 #[.string y.id,.string y.attr.var,.int .i64 y.attr.sym.kind,.string y.attr.sym.text,.int .i64 y.attr.sym.n,.int .i64 y.value.op,.string y.value.a.var,.int .i64 y.value.a.sym.kind,.string y.value.a.sym.text,.int .i64 y.value.a.sym.n,.string y.value.b.var,.int .i64 y.value.b.sym.kind,.string y.value.b.sym.text,.int .i64 y.value.b.sym.n,.int .i64 y.pref,.string y.other.var,.int .i64 y.other.sym.kind,.string y.other.sym.text,.int .i64 y.other.sym.n] rfl rfl HTH.out (by kernel_rfl) (by kernel_rfl) ?_);rw [← HW6.out])
               | ((with_reducible refine HA.out.mono ?_);rintro e w7 ⟨rfl,hb7⟩;obtain ⟨hc7,-⟩:=Z1a hb7;have hz7:=hb7.size;have hlo7:=Zma hlo6 hz7;have HB7:=hid hb7;clear hb7))
              have HBZ:=hid (HB66.out.trans (HB7.out.mono HB66.out.size));go_roundw
              case rel=>exact ⟨i+1,by go_num,by omega,fun k hk hki=>by
               by_cases e:k=i
               · subst e;rw [← HY2.out];exact HV.out
               · exact HALL.out k hk (by omega),HBr.out.trans (HBZ.out.mono hzr)⟩
              case measure=>simp [intOf]<;>omega
            · skip
              (have o1:(y.value.op == 0)=false:=by simp [h0]);(have o2:decide (y.value.op=0)=false:=by simp [h0]);(have o4:(y.value.op != 0)=true:=by simp [h0]);cases hlb:Z2y K3 y.value.a
              · skip
                cases hlc:Z2y K3 y.value.b
                · skip
                  have HV:=hid (show actV K3 y=false by simp [actV,hla,h0,hlb,hlc]);clear hla h0
                  go_wp2_with (first
                   | (with_reducible refine wpList_load_mid rfl 96 _ rfl gg (oo+i*19) rfl _ _ HRG.out Tryz.underlying96 rfl (by kernel_rfl) ?_)
                   | ((with_reducible refine wpList_store_mid rfl 96 _ _ rfl wr.heap.size 0 #[.string y.id,.string y.attr.var,.int .i64 y.attr.sym.kind,.string y.attr.sym.text,.int .i64 y.attr.sym.n,.int .i64 y.value.op,.string y.value.a.var,.int .i64 y.value.a.sym.kind,.string y.value.a.sym.text,.int .i64 y.value.a.sym.n,.string y.value.b.var,.int .i64 y.value.b.sym.kind,.string y.value.b.sym.text,.int .i64 y.value.b.sym.n,.int .i64 y.pref,.string y.other.var,.int .i64 y.other.sym.kind,.string y.other.sym.text,.int .i64 y.other.sym.n] rfl rfl HTH.out (by kernel_rfl) (by kernel_rfl) ?_);rw [← HW6.out])
                   | ((with_reducible refine HA.out.mono ?_);rintro e w7 ⟨rfl,hb7⟩;obtain ⟨hc7,-⟩:=Z1a hb7;have hz7:=hb7.size;have hlo7:=Zma hlo6 hz7;have HB7:=hid hb7;clear hb7))
                  have hA:=HSN.out y.value.a w7 (HB66.out.trans (HB7.out.mono HB66.out.size));simp only [hlb,Bool.not_false] at hA;have HA2:=hid hA;clear hA;clear hlb;refine HA2.out.mono ?_;rintro e w8 ⟨rfl,hb8⟩;obtain ⟨hc8,-⟩:=Z1a hb8;have hz8:=hb8.size;have HB8:=hid (HB7.out.trans (hb8.mono HB7.out.size));clear hb8;(go_wp2_with fail);have hA:=HSN.out y.value.b w8 (HB66.out.trans (HB8.out.mono HB66.out.size));simp only [hlc,Bool.not_false] at hA;have HA3:=hid hA;clear hA;clear hlc;refine HA3.out.mono ?_;rintro e w9 ⟨rfl,hb9⟩;have HBZ:=hid (HB66.out.trans ((HB8.out.trans (hb9.mono HB8.out.size)).mono HB66.out.size));clear hb9;(go_wp2_with fail);go_roundw
                  case rel=>exact ⟨i+1,by go_num,by omega,fun k hk hki=>by
                   by_cases e:k=i
                   · subst e;rw [← HY2.out];exact HV.out
                   · exact HALL.out k hk (by omega),HBr.out.trans (HBZ.out.mono hzr)⟩
                  case measure=>simp [intOf]<;>omega
                · skip
                  have HV:=hid (show actV K3 y=true by simp [actV,hla,h0,hlb,hlc]);clear hla h0
                  go_wp2_with (first
                   | (with_reducible refine wpList_load_mid rfl 96 _ rfl gg (oo+i*19) rfl _ _ HRG.out Tryz.underlying96 rfl (by kernel_rfl) ?_)
                   | ((with_reducible refine wpList_store_mid rfl 96 _ _ rfl wr.heap.size 0 #[.string y.id,.string y.attr.var,.int .i64 y.attr.sym.kind,.string y.attr.sym.text,.int .i64 y.attr.sym.n,.int .i64 y.value.op,.string y.value.a.var,.int .i64 y.value.a.sym.kind,.string y.value.a.sym.text,.int .i64 y.value.a.sym.n,.string y.value.b.var,.int .i64 y.value.b.sym.kind,.string y.value.b.sym.text,.int .i64 y.value.b.sym.n,.int .i64 y.pref,.string y.other.var,.int .i64 y.other.sym.kind,.string y.other.sym.text,.int .i64 y.other.sym.n] rfl rfl HTH.out (by kernel_rfl) (by kernel_rfl) ?_);rw [← HW6.out])
                   | ((with_reducible refine HA.out.mono ?_);rintro e w7 ⟨rfl,hb7⟩;obtain ⟨hc7,-⟩:=Z1a hb7;have hz7:=hb7.size;have hlo7:=Zma hlo6 hz7;have HB7:=hid hb7;clear hb7))
                  have hA:=HSN.out y.value.a w7 (HB66.out.trans (HB7.out.mono HB66.out.size));simp only [hlb,Bool.not_false] at hA;have HA2:=hid hA;clear hA;clear hlb;refine HA2.out.mono ?_;rintro e w8 ⟨rfl,hb8⟩;obtain ⟨hc8,-⟩:=Z1a hb8;have hz8:=hb8.size;have HB8:=hid (HB7.out.trans (hb8.mono HB7.out.size));clear hb8;(go_wp2_with fail);have hA:=HSN.out y.value.b w8 (HB66.out.trans (HB8.out.mono HB66.out.size));simp only [hlc,Bool.not_true] at hA;have HA3:=hid hA;clear hA;clear hlc;refine HA3.out.mono ?_;rintro e w9 ⟨rfl,hb9⟩;have HBZ:=hid (HB66.out.trans ((HB8.out.trans (hb9.mono HB8.out.size)).mono HB66.out.size));clear hb9
                  have hfi:p.acts.findIdx? (actV K3)=some i:=by
                   rw [List.findIdx?_eq_some_iff_getElem];exact ⟨hlt,by rw [← HY2.out];exact HV.out,fun j hj=>by rw [HALL.out j (by omega) hj];decide⟩
                  have HR:=hid (show Z2b (n+1) p=((m:Int)+(i:Nat),6,[]) by rw [HR0.out,hfi]);have v1:IntKind.i64.wrap ((m:Int)+(i:Int))=(m:Int)+(i:Int):=Zmh _ (by omega);clear hfi;(go_wp2_with fail);exact bodyPost_ret (v:=.tuple #[.int .i64 ((m:Int)+(i:Int)),.int .i64 6]) (by simp [results,Tryz.results31,go_sem, *]) rfl ⟨by rw [HR.out],HB.out.trans (HBZ.out.mono HB.out.size)⟩
              · skip
                have HV:=hid (show actV K3 y=true by simp [actV,hla,h0,hlb]);clear hla h0
                go_wp2_with (first
                 | (with_reducible refine wpList_load_mid rfl 96 _ rfl gg (oo+i*19) rfl _ _ HRG.out Tryz.underlying96 rfl (by kernel_rfl) ?_)
                 | ((with_reducible refine wpList_store_mid rfl 96 _ _ rfl wr.heap.size 0 #[.string y.id,.string y.attr.var,.int .i64 y.attr.sym.kind,.string y.attr.sym.text,.int .i64 y.attr.sym.n,.int .i64 y.value.op,.string y.value.a.var,.int .i64 y.value.a.sym.kind,.string y.value.a.sym.text,.int .i64 y.value.a.sym.n,.string y.value.b.var,.int .i64 y.value.b.sym.kind,.string y.value.b.sym.text,.int .i64 y.value.b.sym.n,.int .i64 y.pref,.string y.other.var,.int .i64 y.other.sym.kind,.string y.other.sym.text,.int .i64 y.other.sym.n] rfl rfl HTH.out (by kernel_rfl) (by kernel_rfl) ?_);rw [← HW6.out])
                 | ((with_reducible refine HA.out.mono ?_);rintro e w7 ⟨rfl,hb7⟩;obtain ⟨hc7,-⟩:=Z1a hb7;have hz7:=hb7.size;have hlo7:=Zma hlo6 hz7;have HB7:=hid hb7;clear hb7))
                have hA:=HSN.out y.value.a w7 (HB66.out.trans (HB7.out.mono HB66.out.size));simp only [hlb,Bool.not_true] at hA;have HA2:=hid hA;clear hA;clear hlb;refine HA2.out.mono ?_;rintro e w8 ⟨rfl,hb8⟩;have HBZ:=hid (HB66.out.trans ((HB7.out.trans (hb8.mono HB7.out.size)).mono HB66.out.size));clear hb8
                have hfi:p.acts.findIdx? (actV K3)=some i:=by
                 rw [List.findIdx?_eq_some_iff_getElem];exact ⟨hlt,by rw [← HY2.out];exact HV.out,fun j hj=>by rw [HALL.out j (by omega) hj];decide⟩
                have HR:=hid (show Z2b (n+1) p=((m:Int)+(i:Nat),6,[]) by rw [HR0.out,hfi]);have v1:IntKind.i64.wrap ((m:Int)+(i:Int))=(m:Int)+(i:Int):=Zmh _ (by omega);clear hfi;(go_wp2_with fail);exact bodyPost_ret (v:=.tuple #[.int .i64 ((m:Int)+(i:Int)),.int .i64 6]) (by simp [results,Tryz.results31,go_sem, *]) rfl ⟨by rw [HR.out],HB.out.trans (HBZ.out.mono HB.out.size)⟩
          · skip
            have hA:=HSN.out y.attr W6 HB66.out;simp only [hla,Bool.not_true] at hA;have HA:=hid hA;clear hA;have HV:=hid (show actV K3 y=true by simp [actV,hla]);clear hla
            go_wp2_with (first
             | (with_reducible refine wpList_load_mid rfl 96 _ rfl gg (oo+i*19) rfl _ _ HRG.out Tryz.underlying96 rfl (by kernel_rfl) ?_)
             | ((with_reducible refine wpList_store_mid rfl 96 _ _ rfl wr.heap.size 0 #[.string y.id,.string y.attr.var,.int .i64 y.attr.sym.kind,.string y.attr.sym.text,.int .i64 y.attr.sym.n,.int .i64 y.value.op,.string y.value.a.var,.int .i64 y.value.a.sym.kind,.string y.value.a.sym.text,.int .i64 y.value.a.sym.n,.string y.value.b.var,.int .i64 y.value.b.sym.kind,.string y.value.b.sym.text,.int .i64 y.value.b.sym.n,.int .i64 y.pref,.string y.other.var,.int .i64 y.other.sym.kind,.string y.other.sym.text,.int .i64 y.other.sym.n] rfl rfl HTH.out (by kernel_rfl) (by kernel_rfl) ?_);rw [← HW6.out])
             | ((with_reducible refine HA.out.mono ?_);rintro e w7 ⟨rfl,hb7⟩;obtain ⟨hc7,-⟩:=Z1a hb7;have hz7:=hb7.size;have hlo7:=Zma hlo6 hz7;have HB7:=hid hb7;clear hb7))
            have HBZ:=hid (HB66.out.trans (HB7.out.mono HB66.out.size))
            have hfi:p.acts.findIdx? (actV K3)=some i:=by
             rw [List.findIdx?_eq_some_iff_getElem];exact ⟨hlt,by rw [← HY2.out];exact HV.out,fun j hj=>by rw [HALL.out j (by omega) hj];decide⟩
            have HR:=hid (show Z2b (n+1) p=((m:Int)+(i:Nat),6,[]) by rw [HR0.out,hfi]);have v1:IntKind.i64.wrap ((m:Int)+(i:Int))=(m:Int)+(i:Int):=Zmh _ (by omega);clear hfi;(go_wp2_with fail);exact bodyPost_ret (v:=.tuple #[.int .i64 ((m:Int)+(i:Int)),.int .i64 6]) (by simp [results,Tryz.results31,go_sem, *]) rfl ⟨by rw [HR.out],HB.out.trans (HBZ.out.mono HB.out.size)⟩
        · skip
          (have hie:i=p.acts.length:=by omega);subst hie
          have HR:=hid (show Z2b (n+1) p=(-1,0,K3.2) by
           have hfi:p.acts.findIdx? (actV K3)=none:=by
            rw [List.findIdx?_eq_none_iff];intro x hx;obtain ⟨j,hj,rfl⟩:=List.getElem_of_mem hx;exact HALL.out j hj (by omega)
           rw [HR0.out,hfi])
          (go_wp2_with fail);exact bodyPost_ret (v:=.tuple #[.int .i64 (-1),.int .i64 0]) (by simp [results,Tryz.results31,go_sem, *]) rfl ⟨by rw [HR.out],by (repeat (first | exact Zm7 _ _ | exact HB.out | refine Below.drew ?_ | refine Below.al ?_ _ | refine Below.sc ?_ _))⟩
   · skip
     (have t1:(x.kind == 1)=false:=by simp [hx1]);(have t2:decide (x.kind=1)=false:=by simp [hx1]);(have t3:(x.kind != 1)=true:=by simp [hx1]);have HR:=hid (Z7l HS0.out HXL.out hx1);clear hx1;(go_wp2_with fail);exact bodyPost_ret (v:=.tuple #[.int .i64 0,.int .i64 9]) (by simp [results,Tryz.results31,go_sem, *]) rfl ⟨by rw [HR.out],by (repeat (first | exact Zm7 _ _ | exact HB.out | refine Below.drew ?_ | refine Below.al ?_ _ | refine Below.sc ?_ _))⟩
 · skip
   (have s1:(se == 0)=false:=by simp [hs0]);(have s2:decide (se=0)=false:=by simp [hs0]);(have s3:(se != 0)=true:=by simp [hs0]);have HR:=hid (show Z2b n p=(sa,se,[]) by rw [Z9e (by rw [HSE.out];exact hs0),HSE.out]);clear hs0;(go_wp2_with fail);exact bodyPost_ret (v:=.tuple #[.int .i64 sa,.int .i64 se]) (by simp [results,Tryz.results31,go_sem, *]) rfl ⟨by rw [HR.out],by (repeat (first | exact Zm7 _ _ | exact HB.out | refine Below.drew ?_ | refine Below.al ?_ _ | refine Below.sc ?_ _))⟩
end
section
open Go.RowKit
def zRec:Z0d:=⟨0,0,[],[],[],[]⟩
def Z3z (l:List Z0d) (k:Int):Z0d×Bool:=match l.find? (fun r=>r.num == k) with | some r=>(r,true) | none=>(zRec,false)
theorem Zje {l:List Z0d} {k:Int} {i:Nat} (hi:i<l.length) (hk:l[i].num=k) (hj : ∀j,(h:j<l.length)→j<i→l[j].num≠k):Z3z l k=(l[i],true):=by
 have:l.find? (fun r=>r.num == k)=some l[i]:=by
  rw [List.find?_eq_some_iff_getElem];exact ⟨by simpa using hk,i,hi,rfl,fun j h=>by simpa using hj j (by omega) h⟩
 unfold Z3z;rw [this]
theorem Zjf {l:List Z0d} {k:Int} (hj : ∀j,(h:j<l.length)→l[j].num≠k):Z3z l k=(zRec,false):=by
 have:l.find? (fun r=>r.num == k)=none:=by
  rw [List.find?_eq_none];intro x hx;obtain ⟨j,h,rfl⟩:=List.getElem_of_mem hx;simpa using hj j h
 unfold Z3z;rw [this]
theorem Zbr {l:List Z0d} {k:Int} (h:(Z3z l k).2=true):(Z3z l k).1∈l∧(Z3z l k).1.num=k:=by
 unfold Z3z at h ⊢
 cases hf:l.find? (fun r=>r.num == k) with
 | none=>rw [hf] at h;cases h
 | some r=>exact ⟨List.mem_of_find?_eq_some hf,by simpa using List.find?_some hf⟩
theorem Zfs {l:List Z0d} {k:Int} (h:(Z3z l k).2=false):(Z3z l k).1=zRec:=by
 unfold Z3z at h ⊢
 cases hf:l.find? (fun r=>r.num == k) with
 | none=>rfl
 | some r=>rw [hf] at h;cases h
def Ans (n:Nat) (x:Z0d×Bool) (D:Nat→Prop) (e:Ending) (w':World):Prop:=
 ∃A1 c1 A2 c2 A3 c3 A4 c4,e = .returned (.tuple #[.agg #[.int .i64 x.1.num,.int .i64 x.1.level,.slice A1 x.1.elems.length c1,.slice A2 x.1.holes.length c2,.slice A3 x.1.aparts.length c3,.slice A4 x.1.news.length c4],.bool x.2])∧Z78 n D w' x.1 A1 c1 A2 c2 A3 c3 A4 c4
structure Z4e (n B:Nat) (gf:Nat) (lb:Array Value) (look:Int→Z0d×Bool) (G:(Nat→Prop)→List Int→World→Prop):Prop where
 enter : ∀args w,(callFunc gf args).run Tryz.prog w = .ok (.enter gf args) w
 lt : ∀{E ks w},G E ks w→∀k,E k→k<w.heap.size
 steady : ∀{E:Nat→Prop} {ks:List Int} {w w':World} {M:Nat→Prop},G E ks w→Fr M w w'→(∀k,M k→¬E k∧B≤k)→G E ks w'
 call : ∀{E ks w} (k:Int),ks.length≤100000→k ∉ ks→G E ks w→Calls Tryz.prog gf (#[.int .i64 k]++lb) w fun e w'=>∃E',G E' (ks ++ [k]) w'∧(∀j,E' j→Plus E w w' j)∧Fr E w w'∧Ans n (look k) (fun j=>NewD w.heap.size w' j∧¬E' j) e w'
theorem Z4e.up {n B B' gf:Nat} {lb:Array Value} {look:Int→Z0d×Bool} {G:(Nat→Prop)→List Int→World→Prop} (h:Z4e n B gf lb look G) (hB:B≤B'):Z4e n B' gf lb look G:=
 ⟨h.enter,h.lt,fun hG hF hM=>h.steady hG hF (fun k hk=>⟨(hM k hk).1,Zmk hB (hM k hk).2⟩),h.call⟩
theorem Zm0 {n:Nat} (D:Nat→Prop) (w:World):Z78 n D w zRec none 0 none 0 none 0 none 0:=⟨RowR.nil _ _ _,RowR.nil _ _ _,RowR.nil _ _ _,RowR.nil _ _ _⟩
theorem Ziz (n kb:Nat) (l:List Z0d) (A:Option Addr) (c:Nat) {D:Nat→Prop} (k:Int) (w:World) (hkb:Blk w kb 121 #[.slice A l.length c]) (hrd:RowR (Z22 n) D w A c l) (hs : ∀r∈l,SmR n r) :
 Calls Tryz.prog 117 #[.int .i64 k,.pointer (some ⟨kb,0,none⟩)] w fun e w'=>Below w.heap.size w w'∧Ans n (Z3z l k) (NewD w.heap.size w') e w':=by
 have hlc:=hrd.cap;have HR:=hid hrd;have HS:=hid hs;have HKB:=hid hkb;have hkl:=hkb.lt;clear hrd hs hkb;go_enter Tryz.func117,Tryz.ntmps117;(go_upto_region 1 with fail);obtain ⟨W1,hW1⟩ : ∃W1,W1=w.alloc (.cells #[.int .i64 0,.int .i64 0,.slice none 0 0,.slice none 0 0,.slice none 0 0,.slice none 0 0] 72):=⟨_,rfl⟩;(have hB1:Below w.heap.size w W1:=by rw [hW1];exact (Zm7 _ _).alloc (Zm8 _) _);(have hX1:Blk W1 w.heap.size 72 #[.int .i64 0,.int .i64 0,.slice none 0 0,.slice none 0 0,.slice none 0 0,.slice none 0 0]:=by rw [hW1];exact Blk.new _ _ _);(have hz1:W1.heap.size=w.heap.size+1:=by rw [hW1];simp);rw [← hW1];clear hW1;have HB1:=hid hB1;have HX1:=hid hX1;have HZ1:=hid hz1;clear hB1 hX1 hz1;go_wp2_with fail
 go_loopw [5] (fun i wr=>∃m:Nat,i = .int .i64 m∧m≤l.length∧(∀j,(h:j<l.length)→j<m→l[j].num≠k)∧Below W1.heap.size W1 wr) (fun i wr=>l.length - (intOf i).toNat)
 case atStart=>exact ⟨0,rfl,Nat.zero_le _,fun j _ h=>absurd h (by omega),Zm7 _ _⟩
 case round=>
  obtain ⟨m,rfl,hm,hno,hB⟩:=hrel;have hzr:=hB.size;have hBB:Below w.heap.size w wr:=HB1.out.trans (hB.mono (by have:=HZ1.out;omega));have x0:=(HKB.out.new_ hBB).c1;have hkl2:=(HKB.out.new_ hBB).lt;have hX:=HX1.out.new_ hB;have hxl:=hX.lt;have HNO:=hid hno;by_cases hlt:m<l.length
  · obtain ⟨g,off,Ay1,cy1,Ay2,cy2,Ay3,cy3,Ay4,cy4,hA0,hDg,hg,q0,q1,q2,q3,q4,q5,r1,r2,r3,r4⟩:=Zf7 (HR.out.new_ hBB) hlt
    subst hA0;have hys:SmR n l[m]:=HS.out _ (Zmv hlt);obtain ⟨y,hy⟩ : ∃y,y=l[m]:=⟨_,rfl⟩;rw [← hy] at q0 q1 q2 q3 q4 q5 r1 r2 r3 r4 hys;(have b1:(0:Int)≤(m:Int):=by omega);(have b2:(m:Int)<(l.length:Int):=by omega);have HY:=hid hy;have HRA:=hid (show Z78 n D wr y Ay1 cy1 Ay2 cy2 Ay3 cy3 Ay4 cy4 from ⟨r1,r2,r3,r4⟩);have HYS:=hid hys;have HB:=hid hB;have HBB:=hid hBB;have HX:=hid hX;clear hy hys r1 r2 r3 r4 hB hBB hX hno;by_cases hk:y.num=k
    · have t1:(y.num == k)=true:=by simpa using hk
      have HK:=hid hk;clear hk;(go_wp2_with fail);refine (Ziw n y Ay1 cy1 Ay2 cy2 Ay3 cy3 Ay4 cy4 wr HRA.out HYS.out).mono ?_;rintro e w5 ⟨Az1,cz1,Az2,cz2,Az3,cz3,Az4,cz4,rfl,hra,hB5⟩;have hX5:=HX.out.new_ hB5;have HT:=hid (show w5.there w.heap.size 0 (#[.int .i64 y.num,.int .i64 y.level,.slice Az1 y.elems.length cz1,.slice Az2 y.holes.length cz2,.slice Az3 y.aparts.length cz3,.slice Az4 y.news.length cz4]:Array Value).size from hX5.there);have hxl5:=hX5.lt;have HB5:=hid hB5;have hzb:=hB5.size;have HRA5:=hid hra;clear hB5 hra hX5 x0 q0 q1 q2 q3 q4 q5;(go_wp2_with (with_reducible refine wpList_store_mid rfl 72 _ _ rfl w.heap.size 0 #[.int .i64 y.num,.int .i64 y.level,.slice Az1 y.elems.length cz1,.slice Az2 y.holes.length cz2,.slice Az3 y.aparts.length cz3,.slice Az4 y.news.length cz4] rfl rfl HT.out (by kernel_rfl) (by kernel_rfl) ?_));(try simp only [Exit.inBlock,Exit.then]);refine bodyPost_ret (v:=.tuple #[.agg #[.int .i64 y.num,.int .i64 y.level,.slice Az1 y.elems.length cz1,.slice Az2 y.holes.length cz2,.slice Az3 y.aparts.length cz3,.slice Az4 y.news.length cz4],.bool true]) ?_ rfl ⟨Below.setCells' _ _ (HBB.out.trans (HB5.out.mono (by have:=HBB.out.size;omega))) (Zm8 _),?_⟩
      · exact Z1s (t:=3) (s:=4) (T:=72) rfl _ _ w.heap.size [.int .i64 y.num,.int .i64 y.level,.slice Az1 y.elems.length cz1,.slice Az2 y.holes.length cz2,.slice Az3 y.aparts.length cz3,.slice Az4 y.news.length cz4] _ rfl (Zmm w5 w.heap.size 0 [.int .i64 y.num,.int .i64 y.level,.slice Az1 y.elems.length cz1,.slice Az2 y.holes.length cz2,.slice Az3 y.aparts.length cz3,.slice Az4 y.news.length cz4] HT.out) Tryz.underlying72 rfl (by kernel_rfl)
      · have e:=HY.out
        rw [Zje hlt (by rw [← e];exact HK.out) HNO.out,← e];exact ⟨Az1,cz1,Az2,cz2,Az3,cz3,Az4,cz4,rfl,HRA5.out.keep (by rw [Z06];omega) (fun j hj hl=>⟨⟨by have:=hj.1;omega,by rw [Z06];omega⟩,Z1l _ _ _ _ _ (by have:=hj.1;have:=HZ1.out;omega)⟩)⟩
    · have t1:(y.num == k)=false:=by simpa using hk
      have HK:=hid hk;clear hk;(go_wp2_with fail);go_roundw
      case rel=>
       refine ⟨m+1,by go_num,by omega,fun j h hj=>?_,HB.out⟩;rcases Nat.lt_or_ge j m with h2 | h2
       · exact HNO.out j h h2
       · obtain rfl:j=m:=by omega
         rw [← HY.out];exact HK.out
      case measure=>simp [intOf];omega
  · obtain rfl:m=l.length:=by omega
    have HT:=hid (show wr.there w.heap.size 0 (#[.int .i64 0,.int .i64 0,.slice none 0 0,.slice none 0 0,.slice none 0 0,.slice none 0 0]:Array Value).size from hX.there);have HBB:=hid hBB;clear hB hBB hX hno;(go_wp2_with (with_reducible refine wpList_store_mid rfl 72 _ _ rfl w.heap.size 0 #[.int .i64 0,.int .i64 0,.slice none 0 0,.slice none 0 0,.slice none 0 0,.slice none 0 0] rfl rfl HT.out (by kernel_rfl) (by kernel_rfl) ?_));(try simp only [Exit.inBlock,Exit.then]);refine bodyPost_ret (v:=.tuple #[.agg #[.int .i64 0,.int .i64 0,.slice none 0 0,.slice none 0 0,.slice none 0 0,.slice none 0 0],.bool false]) ?_ rfl ⟨Below.setCells' _ _ HBB.out (Zm8 _),?_⟩
    · exact Z1s (t:=3) (s:=4) (T:=72) rfl _ _ w.heap.size [.int .i64 0,.int .i64 0,.slice none 0 0,.slice none 0 0,.slice none 0 0,.slice none 0 0] _ rfl (Zmm wr w.heap.size 0 [.int .i64 0,.int .i64 0,.slice none 0 0,.slice none 0 0,.slice none 0 0,.slice none 0 0] HT.out) Tryz.underlying72 rfl (by kernel_rfl)
    · rw [Zjf (fun j h=>HNO.out j h h)]
      exact ⟨none,0,none,0,none,0,none,0,rfl,Zm0 _ _⟩
theorem Zhj (l:List Z0d) (A:Option Addr) (c:Nat) (w:World) :
 Calls Tryz.prog 61 #[.slice A l.length c] w fun e w'=>e = .returned (.func (.func 117) #[] #[.pointer (some ⟨w.heap.size,0,none⟩)])∧Below w.heap.size w w'∧Blk w' w.heap.size 121 #[.slice A l.length c]:=by
 go_enter Tryz.func61,Tryz.ntmps61;go_wp2;go_ret;exact ⟨rfl,(Zm7 _ _).alloc (Zm8 _) _,Blk.new _ _ _⟩
theorem Zh0 (n kb B:Nat) (l:List Z0d) (A:Option Addr) (c:Nat) (W0:World) (hkb:Blk W0 kb 121 #[.slice A l.length c]) (hrd:RowR (Z22 n) (· < B) W0 A c l) (hs : ∀r∈l,SmR n r) (_:B≤W0.heap.size) (hkB:kb<B) :
 Z4e n B 117 #[.pointer (some ⟨kb,0,none⟩)] (Z3z l) (fun E _ w=>(∀k,¬E k)∧Below B W0 w∧B≤w.heap.size) where
 enter:=by intro args w;kernel_rfl
 lt:=fun h k hk=>absurd hk (h.1 k)
 steady:=fun h hF hM=>⟨h.1,h.2.1.trans ⟨hF.os,hF.tape,hF.output,hF.size,fun k hk=>hF.block k (Zma hk h.2.2) (fun hm=>by have:=(hM k hm).2;omega)⟩,Zmk h.2.2 hF.size⟩
 call:=fun {E ks w} k _ _ h=>by
  refine (Ziz n kb l A c k w (hkb.below h.2.1 hkB) (hrd.keep h.2.1.size (fun j hj _=>⟨hj,h.2.1.block j hj⟩)) hs).mono ?_;rintro e w' ⟨hb,A1,c1,A2,c2,A3,c3,A4,c4,he,hr⟩;exact ⟨fun _=>False,⟨fun _ h=>h,h.2.1.trans (hb.mono h.2.2),Zmk h.2.2 hb.size⟩,fun _ h=>h.elim,Fr.of_new hb,A1,c1,A2,c2,A3,c3,A4,c4,he,hr.keep (Zm8 _) (fun j hj _=>⟨⟨hj,fun h=>h⟩,rfl⟩)⟩
def QRow (w:World) (e:TypeId) (size:Nat) (v:Value) (n:Nat) (xs:List Value):Prop:=
 ∃A cap,v = .slice A n cap∧n≤cap∧cap≤maxLen∧xs.length=n*size∧(A=none→cap=0)∧
  ∀b,A=some b→b.spot=none∧(cap=0∨∃cur,Blk w b.block e cur∧b.off+cap*size≤cur.size)∧∀j u,xs[j]? = some u→w.cell? ⟨b.block,b.off+j,none⟩=some u
section
variable {w w':World} {e:TypeId} {size n:Nat} {v:Value} {xs:List Value}
theorem QRow.form (h:QRow w e size v n xs) : ∃A cap,v = .slice A n cap∧n≤cap∧cap≤maxLen:=by
 obtain ⟨A,cap,rfl,h1,h2,_⟩:=h;exact ⟨A,cap,rfl,h1,h2⟩
theorem QRow.of_own (h:w.ownsRow 0 e size v n xs):QRow w e size v n xs:=by
 rcases Z0b h with ⟨rfl,rfl,rfl⟩ | ⟨g,cap,rfl,h1,h2,⟨cur,hb,hs⟩,h3,h4⟩
 · exact ⟨none,0,rfl,Zm8 _,Nat.zero_le _,by simp,fun _=>rfl,fun b hb=>by cases hb⟩
 · exact ⟨_,cap,rfl,h1,h2,h3,fun h=>by (cases h),fun b hb'=>by cases hb';exact ⟨rfl,.inr ⟨cur,hb,by simp [hs]⟩,fun j u hu=>by simpa using h4 j u hu⟩⟩
theorem QRow.keep {M:Nat→Prop} (h:QRow w e size v n xs) (hF:Fr M w w') (hm : ∀k,v.ownBlock=some k→¬M k) (hlt : ∀k,v.ownBlock=some k→k<w.heap.size):QRow w' e size v n xs:=by
 obtain ⟨A,cap,rfl,h1,h2,h3,h4,h5⟩:=h;refine ⟨A,cap,rfl,h1,h2,h3,h4,fun b hb=>?_⟩;subst hb;obtain ⟨g1,g2,g3⟩:=h5 b rfl;have hk:=hm b.block rfl;have hl:=hlt b.block rfl;exact ⟨g1,g2.imp id (fun ⟨cur,hc,hs⟩=>⟨cur,hc.fr hF hk,hs⟩),fun j u hu=>(hF.cell (p:=⟨b.block,b.off+j,none⟩) hl hk).trans (g3 j u hu)⟩
theorem QRow.new_ (h:QRow w e size v n xs) (hb:Below w.heap.size w w') (hlt : ∀k,v.ownBlock=some k→k<w.heap.size):QRow w' e size v n xs:=
 h.keep (M:=fun _=>False) (Fr.of_new hb) (fun _ _ h=>h) hlt
theorem QRow.head {A:Option Addr} {m cap:Nat} (h:QRow w e 1 (.slice A (m+1) cap) (m+1) xs) : ∃b off x,A=some ⟨b,off,none⟩∧m+1≤cap∧xs[0]? = some x∧w.cell? ⟨b,off,none⟩=some x:=by
 obtain ⟨A',cap',hv,h1,h2,h3,h4,h5⟩:=h;injection hv with e1 e2 e3;subst e1;subst e3
 cases A with
 | none=>have:=h4 rfl;omega
 | some b=>
   obtain ⟨g1,g2,g3⟩:=h5 b rfl;obtain ⟨bb,off,sp⟩:=b;dsimp only at g1;subst g1
   cases xs with
   | nil=>simp at h3
   | cons x xs=>exact ⟨bb,off,x,rfl,h1,rfl,by simpa using g3 0 x rfl⟩
theorem QRow.tail {b off m cap:Nat} {x:Value} (h:QRow w e 1 (.slice (some ⟨b,off,none⟩) (m+1) cap) (m+1) (x :: xs)):QRow w e 1 (.slice (if cap=1 then some ⟨b,off,none⟩ else some ⟨b,off+1,none⟩) m (cap - 1)) m xs:=by
 obtain ⟨A',cap',hv,h1,h2,h3,h4,h5⟩:=h;injection hv with e1 e2 e3;subst e1;subst e3;obtain ⟨_,g2,g3⟩:=h5 _ rfl;(have hx:xs.length=m*1:=by simp at h3 ⊢;omega);by_cases hc:cap=1
 · rw [if_pos hc]
   (have hm:m=0:=by omega);have:xs = []:=List.eq_nil_of_length_eq_zero (by omega);subst this;exact ⟨_,cap - 1,rfl,by omega,by omega,hx,fun h=>(by cases h),fun b' hb'=>by cases hb';exact ⟨rfl,.inl (by omega),fun j u hu=>by simp at hu⟩⟩
 · rw [if_neg hc]
   refine ⟨_,cap - 1,rfl,by omega,by omega,hx,fun h=>(by cases h),fun b' hb'=>?_⟩;injection hb' with hb';subst hb';refine ⟨rfl,.inr ?_,fun j u hu=>?_⟩
   · rcases g2 with g2 | ⟨cur,hc,hs⟩
     · omega
     · exact ⟨cur,hc,by dsimp only at hs ⊢;omega⟩
   · have:=g3 (j+1) u (by simpa using hu)
     dsimp only at this ⊢;rwa [show off+1+j=off+(j+1) by omega]
end
section
variable {P:Program} (w:World)
theorem Z92 {ops:Array Oper} {rest:List Oper} {o:Oper} {a:Act} {Q:Exit→Act→World→Prop} (hgd:o.guard=none) (s x:Operand) (t:TypeId)
 (ho:o.op = .call { callee:=.builtin .append,args:=#[s,x],argTypes:=#[t,t] })
 (e:TypeId) (i:TypeInfo) (z:Value) (size bytes:Nat) (ht:P.underlying t=some (.slice e)) (hi:P.info? e=some i) (hz:i.zero=some z)
 (hsize:i.size=size) (hby:i.bytes=bytes) (hzs:z.cells.size=size) (hsz:0<size)
 (v:Value) (n:Nat) (xs:List Value) (hs:a.eval s=v) (hown:QRow w e size v n xs)
 (ad:Addr) (c:Nat) (news:List Value) (hx:a.eval x = .slice (some ad) 1 c) (hn:news.length=size)
 (hnews : ∀j u,news[j]? = some u→w.cell? (ad.add j)=some u) (h1 : ∀u∈news,u.oneCell'=true)
 (h63:n+1≤maxLen) (hbytes:(n+1)*bytes≤140737488355328)
 (h : ∀v' w',QRow w' e size v' (n+1) (xs++news)→Fr (fun k=>v.ownBlock=some k) w w'→(∀g t cs,t≠e→Blk w g t cs→Blk w' g t cs)→(v'.ownBlock=v.ownBlock∨∀k,v'.ownBlock=some k→w.heap.size≤k∧k<w'.heap.size)→wpList P ops Q rest (a.put o.dst v') w') :
 wpList P ops Q (o :: rest) a w:=by
 have fin : ∀v' w',w'.ownsRow w.heap.size e size v' (n+1) (xs++news)→w.grownBy w' none→wpList P ops Q rest (a.put o.dst v') w':=fun v' w' g1 g2=>by
  have g0:w'.ownsRow 0 e size v' (n+1) (xs++news):=⟨g1.1,g1.2.imp id fun ⟨g,cap,cur,hv,h0,hr⟩=>⟨g,cap,cur,hv,Nat.zero_le _,hr⟩⟩;have hF:Fr (fun k=>v.ownBlock=some k) w w':=(Fr.refl _ w).grown g2 (fun k hk=>by cases hk);refine h v' w' (.of_own g0) hF (fun g t cs _ hb=>hb.grown g2 (by simp)) (.inr fun k hk=>⟨?_,Z4p g0 k hk⟩);rcases g1.2 with ⟨rfl,hn0⟩ | ⟨g,cap,cur,rfl,hb,_⟩
  · omega
  · simp only [Value.ownBlock,Option.some.injEq] at hk
    omega
 obtain ⟨A,cap,rfl,q1,q2,q3,q4,q5⟩:=hown;by_cases hr:n+1≤cap
 · cases A with
   | none=>have:=q4 rfl;omega
   | some b=>
     obtain ⟨b,off,sp⟩:=b;obtain ⟨g1,g2,g3⟩:=q5 _ rfl;dsimp only at g1;subst g1
     obtain ⟨cur,hcur,hcs⟩ : ∃cur,Blk w b e cur∧off+cap*size≤cur.size:=by
      rcases g2 with g2 | g2
      · omega
      · exact g2
     have hmul:(n+1)*size≤cap*size:=Nat.mul_le_mul_right _ hr;rw [Nat.add_mul] at hmul;refine wpList_append_arg w hgd s x t ho e i z size bytes ht hi hz hsize hby hzs hsz b off n cap xs hs q3 (fun j u hu=>by simpa using g3 j u hu) ad 1 c news hx (by omega) hnews h1 (fun _ j hj=>?_) h63 hbytes (fun _=>?_) (fun hc=>by omega)
     · rw [hcur.cell]
       exact ⟨by rw [Array.getElem?_eq_getElem (by omega)];rfl,hcur.frozen _⟩
     · have hF:Fr (fun k=>(Value.slice (some ⟨b,off,none⟩) n cap).ownBlock=some k) w (w.setCells b (off+n*size) news):=Fr.setCells news _ (Fr.refl _ w) (.inl rfl)
       obtain ⟨cur',hb',hz'⟩:=Blk.setCells_ news (off+n*size) hcur;refine h _ _ ⟨some ⟨b,off,none⟩,cap,rfl,hr,q2,by rw [Zmd,q3,hn,Nat.add_mul];omega,fun h=>(by cases h),fun b2 hb2=>?_⟩ hF (fun g t cs hne hb=>?_) (.inl rfl)
       · injection hb2 with hb2
         subst hb2;refine ⟨rfl,.inr ⟨cur',hb',by rw [hz'];exact hcs⟩,fun j u hu=>?_⟩;dsimp only;rcases Nat.lt_or_ge j xs.length with hj | hj
         · rw [Zn1 hj] at hu
           have hra:w.rangeAt b off xs:=fun j v hv=>g3 j v hv;exact World.rangeAt_setCells_apart hra b (off+n*size) news (.inr (.inl (by rw [q3];omega))) j u hu
         · rw [Zn0 hj] at hu
           have hth:w.there b (off+n*size) news.length:=fun k hk=>by
            rw [hcur.cell];exact ⟨by rw [Array.getElem?_eq_getElem (by omega)];rfl,hcur.frozen _⟩
           have:=Zmm w b (off+n*size) news hth (j - xs.length) u hu;rwa [show off+n*size+(j - xs.length)=off+j by omega] at this
       · exact Blk.farCells news _ hb (fun e2=>by subst e2;exact hb.ne_ hcur hne rfl)
 · have hA : ∀b,A=some b→b=⟨b.block,b.off,none⟩:=fun b hb=>by
    have:=(q5 b hb).1;obtain ⟨_,_,_⟩:=b;dsimp only at this;subst this;rfl
   refine wpList_append_grows w hgd s x t ho e i z size bytes ht hi hz hsize hby hzs hsz A n cap xs hs (fun hn=>by have:=q4 hn;exact ⟨by omega,this⟩) q3 (fun b hb j u hu=>?_) ad 1 c news hx (by omega) hnews h1 (by omega) h63 hbytes fin;rw [hA b hb];have:=(q5 b hb).2.2 j u hu;rwa [Go.WideShapes.add_plain]
end
end
section
open Go.RowKit
abbrev Bnum:=Int
def Bnum.cells (n:Bnum):List Value:=[.int .i64 n]
theorem Bnum.cells_length (n:Bnum):(Bnum.cells n).length=1:=rfl
def Z0k (a b:Bnum):Int:=Z2s a b
theorem Z3v:TC Z0k:=Z59
theorem Za3 (a b:Bnum) (w:World):Calls Tryz.prog 245 #[.int .i64 a,.int .i64 b] w fun e w'=>e = .returned (.int .i64 (Z0k a b))∧Below w.heap.size w w':=by
 go_enter Tryz.func245,Tryz.ntmps245;go_wp2
 all_goals (go_ret;refine ⟨?_,Zm7 _ _⟩;unfold Z0k Z2s;(repeat' split)<;>first | rfl | (exfalso;omega))
structure Sl where
 A:Option Addr
 n:Nat
 c:Nat
structure PgR where
 kk:Int
 num:Int
 level:Int
 elems:Sl
 holes:Sl
 aparts:Sl
 news:Sl
def PgR.cells (x:PgR):List Value:=[.int .i64 x.kk,.int .i64 x.num,.int .i64 x.level,.slice x.elems.A x.elems.n x.elems.c,.slice x.holes.A x.holes.n x.holes.c,.slice x.aparts.A x.aparts.n x.aparts.c,.slice x.news.A x.news.n x.news.c]
theorem PgR.cells_length (x:PgR):x.cells.length=7:=rfl
def Z14 (a b:PgR):Int:=Z2s a.kk b.kk
theorem Z5n:TC Z14:=⟨fun _=>Z59.refl _,fun _ _=>Z59.symm _ _,fun _ _ _=>Z59.trans _ _ _⟩
theorem Zaj (k : Int) (w : World) : (nilAhead 442 170 (.int .i64 k) "Compare").run Tryz.prog w = .ok (some false) w := by kernel_rfl
theorem Zd5 (k : Int) (w : World) : (method 442 170 (.int .i64 k) "Compare").run Tryz.prog w = .ok (245, .int .i64 k) w := by kernel_rfl
theorem Zkl (a b:PgR) (w:World):Calls Tryz.prog 268 #[.agg #[.int .i64 a.kk,.int .i64 a.num,.int .i64 a.level,.slice a.elems.A a.elems.n a.elems.c,.slice a.holes.A a.holes.n a.holes.c,.slice a.aparts.A a.aparts.n a.aparts.c,.slice a.news.A a.news.n a.news.c],.agg #[.int .i64 b.kk,.int .i64 b.num,.int .i64 b.level,.slice b.elems.A b.elems.n b.elems.c,.slice b.holes.A b.holes.n b.holes.c,.slice b.aparts.A b.aparts.n b.aparts.c,.slice b.news.A b.news.n b.news.c]] w fun e w'=>e = .returned (.int .i64 (Z14 a b))∧Below w.heap.size w w':=by
 have N:=Zaj;have M:=Zd5;go_enter Tryz.func268,Tryz.ntmps268;(go_wp2_with fail);refine (Za3 a.kk b.kk _).mono ?_;rintro e w1 ⟨rfl,hb1⟩;have HB1:=hid ((((Zm7 w.heap.size w).alloc (Zm8 _) _).alloc (by simp) _).trans (hb1.mono (by simp;omega)));clear hb1;(go_wp2_with fail);go_ret;exact ⟨rfl,HB1.out⟩
structure PgT where
 kk:Int
 tr:Z09
def PgT.cells (x:PgT):List Value:=[.int .i64 x.kk,.int .i64 x.tr.elem.id.kind,.string x.tr.elem.id.text,.int .i64 x.tr.elem.id.n,.int .i64 x.tr.elem.attr.kind,.string x.tr.elem.attr.text,.int .i64 x.tr.elem.attr.n,.int .i64 x.tr.elem.value.kind,.string x.tr.elem.value.text,.int .i64 x.tr.elem.value.n,.bool x.tr.elem.acc,.bool x.tr.elem.goal,.int .i64 x.tr.elem.tag,.int .i64 x.tr.level,.int .i64 x.tr.cause]
theorem PgT.cells_length (x:PgT):x.cells.length=15:=rfl
def Z0q (a b:PgT):Int:=Z2s a.kk b.kk
theorem Z4d:TC Z0q:=⟨fun _=>Z59.refl _,fun _ _=>Z59.symm _ _,fun _ _ _=>Z59.trans _ _ _⟩
theorem Zak (k : Int) (w : World) : (nilAhead 442 170 (.int .i64 k) "Compare").run Tryz.prog w = .ok (some false) w := by kernel_rfl
theorem Zd6 (k : Int) (w : World) : (method 442 170 (.int .i64 k) "Compare").run Tryz.prog w = .ok (245, .int .i64 k) w := by kernel_rfl
theorem Zkm (a b:PgT) (w:World):Calls Tryz.prog 272 #[.agg #[.int .i64 a.kk,.int .i64 a.tr.elem.id.kind,.string a.tr.elem.id.text,.int .i64 a.tr.elem.id.n,.int .i64 a.tr.elem.attr.kind,.string a.tr.elem.attr.text,.int .i64 a.tr.elem.attr.n,.int .i64 a.tr.elem.value.kind,.string a.tr.elem.value.text,.int .i64 a.tr.elem.value.n,.bool a.tr.elem.acc,.bool a.tr.elem.goal,.int .i64 a.tr.elem.tag,.int .i64 a.tr.level,.int .i64 a.tr.cause],.agg #[.int .i64 b.kk,.int .i64 b.tr.elem.id.kind,.string b.tr.elem.id.text,.int .i64 b.tr.elem.id.n,.int .i64 b.tr.elem.attr.kind,.string b.tr.elem.attr.text,.int .i64 b.tr.elem.attr.n,.int .i64 b.tr.elem.value.kind,.string b.tr.elem.value.text,.int .i64 b.tr.elem.value.n,.bool b.tr.elem.acc,.bool b.tr.elem.goal,.int .i64 b.tr.elem.tag,.int .i64 b.tr.level,.int .i64 b.tr.cause]] w fun e w'=>e = .returned (.int .i64 (Z0q a b))∧Below w.heap.size w w':=by
 have N:=Zak;have M:=Zd6;go_enter Tryz.func272,Tryz.ntmps272;(go_wp2_with fail);refine (Za3 a.kk b.kk _).mono ?_;rintro e w1 ⟨rfl,hb1⟩;have HB1:=hid ((((Zm7 w.heap.size w).alloc (Zm8 _) _).alloc (by simp) _).trans (hb1.mono (by simp;omega)));clear hb1;(go_wp2_with fail);go_ret;exact ⟨rfl,HB1.out⟩
def Z5l (lv:Int) (r:Z0d):List Int:=(r.elems.filter fun e=>decide (lv≤e.level) && decide (0<e.cause)).map Z09.cause
section
variable (look:Int→Z0d×Bool) (lv:Int) (keys:List Int)
def bfs:Nat→List Int→List Int→List Int
 | 0,_,done=>done
 | _+1,[],done=>done
 | f+1,k :: todo,done=>if k∈done then bfs f todo done else if (look k).2=true then bfs f (todo++Z5l lv (look k).1) (done ++ [k]) else bfs f todo (done ++ [k])
def left (done:List Int):Nat:=((keys.filter fun k=>decide (k ∉ done)).map fun k=>(Z5l lv (look k).1).length).sum
def cost (todo done:List Int):Nat:=todo.length+left look lv keys done
theorem Z8n (done:List Int) (k:Int):left look lv keys (done ++ [k])≤left look lv keys done:=by
 unfold left
 induction keys with
 | nil=>simp
 | cons x keys ih=>
   by_cases h:x∈done
   · have h2:x∈done ++ [k]:=by simp [h]
     simp only [List.filter_cons,h,h2,not_true_eq_false,decide_false,Bool.false_eq_true,if_false];exact ih
   · by_cases h2:x∈done ++ [k]
     · simp only [List.filter_cons,h,h2,not_true_eq_false,not_false_eq_true,decide_false,decide_true,Bool.false_eq_true,if_false,if_true,List.map_cons,List.sum_cons]
       omega
     · simp only [List.filter_cons,h,h2,not_false_eq_true,decide_true,if_true,List.map_cons,List.sum_cons]
       omega
theorem Zkw {done:List Int} {k:Int} (hk:k∈keys) (hd:k ∉ done):left look lv keys (done ++ [k])+(Z5l lv (look k).1).length≤left look lv keys done:=by
 induction keys with
 | nil=>cases hk
 | cons x keys ih=>
   have hle:=Z8n look lv keys done k;unfold left at ih hle ⊢;by_cases hxk:x=k
   · subst hxk
     (have h2:x∈done ++ [x]:=by simp);simp only [List.filter_cons,hd,h2,not_true_eq_false,not_false_eq_true,decide_false,decide_true,Bool.false_eq_true,if_false,if_true,List.map_cons,List.sum_cons];omega
   · have hk':k∈keys:=by
      rcases Zms.1 hk with h | h
      · exact absurd h.symm hxk
      · exact h
     have:=ih hk';by_cases h:x∈done
     · have h2:x∈done ++ [k]:=by simp [h]
       simp only [List.filter_cons,h,h2,not_true_eq_false,decide_false,Bool.false_eq_true,if_false];exact this
     · have h2:x ∉ done ++ [k]:=by simp [h,hxk]
       simp only [List.filter_cons,h,h2,not_false_eq_true,decide_true,if_true,List.map_cons,List.sum_cons];omega
variable (hkeys : ∀k,(look k).2=true→k∈keys)
include hkeys
theorem Z7z {todo done:List Int} {k:Int} (hd:k ∉ done) (hl:(look k).2=true):cost look lv keys (todo++Z5l lv (look k).1) (done ++ [k])+1≤cost look lv keys (k :: todo) done:=by
 have:=Zkw look lv keys (hkeys k hl) hd;unfold cost;simp only [Zmd,Zmp];omega
theorem Zdz : ∀(f f':Nat) (todo done:List Int),cost look lv keys todo done≤f→cost look lv keys todo done≤f'→bfs look lv f todo done=bfs look lv f' todo done:=by
 intro f
 induction f with
 | zero=>
   intro f' todo done h _;have:todo = []:=List.eq_nil_of_length_eq_zero (by unfold cost at h;omega);subst this;cases f'<;>rfl
 | succ f ih=>
   intro f' todo done h h'
   cases todo with
   | nil=>cases f'<;>rfl
   | cons k todo=>
     cases f' with
     | zero=>unfold cost at h';simp at h'
     | succ f'=>
       (have hsk:cost look lv keys todo done+1≤cost look lv keys (k :: todo) done:=by unfold cost;simp;omega);unfold bfs;by_cases hd:k∈done
       · rw [if_pos hd,if_pos hd];exact ih f' todo done (by omega) (by omega)
       · rw [if_neg hd,if_neg hd]
         by_cases hl:(look k).2=true
         · rw [if_pos hl,if_pos hl]
           have:=Z7z look lv keys hkeys (todo:=todo) hd hl;exact ih f' _ _ (by omega) (by omega)
         · rw [if_neg hl,if_neg hl]
           have h9:cost look lv keys todo (done ++ [k])+1≤cost look lv keys (k :: todo) done:=by
            have:=Z8n look lv keys done k;unfold cost;simp;omega
           exact ih f' _ _ (by omega) (by omega)
omit hkeys in
def Z4k (todo done:List Int):List Int:=bfs look lv (cost look lv keys todo done) todo done
omit hkeys in
theorem Zi2 (done:List Int):Z4k look lv keys [] done=done:=by unfold Z4k;cases cost look lv keys [] done<;>rfl
omit hkeys in
theorem Zga {k:Int} {todo done:List Int} (h:k∈done):Z4k look lv keys (k :: todo) done=Z4k look lv keys todo done:=by
 (have hc:cost look lv keys (k :: todo) done=cost look lv keys todo done+1:=by unfold cost;simp;omega);(have e:Z4k look lv keys (k :: todo) done=bfs look lv (cost look lv keys todo done+1) (k :: todo) done:=by unfold Z4k;rw [hc]);rw [e,bfs,if_pos h];rfl
theorem Zg9 {k:Int} {todo done:List Int} (h:k ∉ done) (hl:(look k).2=false):Z4k look lv keys (k :: todo) done=Z4k look lv keys todo (done ++ [k]):=by
 (have hc:cost look lv keys (k :: todo) done=cost look lv keys todo done+1:=by unfold cost;simp;omega);(have e:Z4k look lv keys (k :: todo) done=bfs look lv (cost look lv keys todo done+1) (k :: todo) done:=by unfold Z4k;rw [hc]);rw [e,bfs,if_neg h,if_neg (by rw [hl];simp)];have:=Z8n look lv keys done k;exact Zdz look lv keys hkeys _ _ _ _ (by unfold cost;omega) (Zm8 _)
theorem Zi1 {k:Int} {todo done:List Int} (h:k ∉ done) (hl:(look k).2=true):Z4k look lv keys (k :: todo) done=Z4k look lv keys (todo++Z5l lv (look k).1) (done ++ [k]):=by
 (have hc:cost look lv keys (k :: todo) done=cost look lv keys todo done+1:=by unfold cost;simp;omega);(have e:Z4k look lv keys (k :: todo) done=bfs look lv (cost look lv keys todo done+1) (k :: todo) done:=by unfold Z4k;rw [hc]);rw [e,bfs,if_neg h,if_pos hl];have:=Z7z look lv keys hkeys (todo:=todo) h hl;exact Zdz look lv keys hkeys _ _ _ _ (by omega) (Zm8 _)
end
abbrev KR:=Int×Z0d
def Z5j (a b:KR):Int:=Z2s a.1 b.1
theorem Zlh:TC Z5j:=⟨fun _=>Z59.refl _,fun _ _=>Z59.symm _ _,fun _ _ _=>Z59.trans _ _ _⟩
def addR (look:Int→Z0d×Bool) (R:List KR) (k:Int):List KR:=if (look k).2=true then put Z5j R (k,(look k).1) else R
def Z30 (look:Int→Z0d×Bool) (done:List Int):List KR:=done.foldl (addR look) []
def Z26 (look:Int→Z0d×Bool) (done:List Int):Nat:=(done.filter fun k=>!(look k).2).length
theorem Z8w (look:Int→Z0d×Bool) (done:List Int) (k:Int):Z30 look (done ++ [k])=addR look (Z30 look done) k:=by unfold Z30;rw [List.foldl_append];rfl
theorem Z8o (look:Int→Z0d×Bool) (done:List Int) (k:Int):Z26 look (done ++ [k])=Z26 look done+(if (look k).2=true then 0 else 1):=by
 unfold Z26;rw [List.filter_append,Zmd];cases h:(look k).2<;>simp [h]
theorem Zd2 {α:Type} {cmp:α→α→Int} {l:List α} {x y:α} (h:y∈put cmp l x):y∈l∨y=x:=by
 unfold put at h
 split at h
 · exact .inl h
 · simp only [Znh,Zms] at h
   rcases h with h | h | h
   · exact .inl (Z3r.1 h).1
   · exact .inr h
   · exact .inl (Z3q.1 h).1
theorem Zag {look:Int→Z0d×Bool} {done:List Int} {p:KR} (h:p∈Z30 look done):p.1∈done∧(look p.1).2=true∧p.2=(look p.1).1:=by
 have : ∀(done:List Int) (R:List KR) (D:List Int),(∀p∈R,p.1∈D∧(look p.1).2=true∧p.2=(look p.1).1)→(∀k∈done,k∈D)→∀p∈done.foldl (addR look) R,p.1∈D∧(look p.1).2=true∧p.2=(look p.1).1:=by
  intro done
  induction done with
  | nil=>intro R D h _ p hp;exact h p hp
  | cons k done ih=>
    intro R D h hd p hp;refine ih (addR look R k) D (fun q hq=>?_) (fun j hj=>hd j (by simp [hj])) p hp;unfold addR at hq
    split at hq
    · rename_i hl
      rcases Zd2 hq with hq | rfl
      · exact h q hq
      · exact ⟨hd k (by simp),hl,rfl⟩
    · exact h q hq
 exact this done [] done (fun p hp=>by cases hp) (fun k hk=>hk) p h
theorem Zj6 {look:Int→Z0d×Bool} {done:List Int} {k:Int} (h:k ∉ done) (r:Z0d):has Z5j (Z30 look done) (k,r)=false:=by
 rw [Z38];intro y hy e;have:=(Zag hy).1;rw [Z45.1 e] at this;exact h this
theorem Zk2 (look:Int→Z0d×Bool) (done:List Int):Srt Z5j (Z30 look done):=by
 have : ∀(done:List Int) (R:List KR),Srt Z5j R→Srt Z5j (done.foldl (addR look) R):=by
  intro done
  induction done with
  | nil=>intro R h;exact h
  | cons k done ih=>
    intro R h;refine ih _ ?_;unfold addR
    split
    · exact h.put Zlh _
    · exact h
 exact this done [] Srt.nil
theorem Zjd (look:Int→Z0d×Bool) (done:List Int):(Z30 look done).length≤done.length:=by
 have : ∀(done:List Int) (R:List KR),Srt Z5j R→(done.foldl (addR look) R).length≤R.length+done.length:=by
  intro done
  induction done with
  | nil=>intro R _;simp
  | cons k done ih=>
    intro R h
    have h1:Srt Z5j (addR look R k):=by
     unfold addR
     split
     · exact h.put Zlh _
     · exact h
    have h2:(addR look R k).length≤R.length+1:=by
     unfold addR
     split
     · exact Z6r Zlh h _
     · omega
    have:=ih _ h1;simp only [List.foldl_cons,Zmp];omega
 have:=this done [] Srt.nil;simpa [Z30] using this
def Ze0 (a b:Z09):Int:=Z2s a.elem.tag b.elem.tag
def bare (e:Z09):Z09:={ e with cause:=0 }
def lows (lv:Int) (r:Z0d):List Z09:=(r.elems.filter fun e=>decide (e.level<lv)).map bare
def Z5k (lv:Int) (R:List KR):List Z09:=puts Ze0 [] (R.flatMap fun p=>lows lv p.2)
def once (l:List Sym) (s:Sym):List Sym:=if s∈l then l else l ++ [s]
def Z2z (R:List KR):List Sym:=(R.flatMap fun p=>p.2.news).foldl once []
structure Zlp where
 elems:List Z09
 holes:List Z5b
 aparts:List Z0n
 news:List Sym
 visited:Nat
 lost:Nat
def Z5a (look:Int→Z0d×Bool) (lv:Int) (done:List Int):Zlp:=
 ⟨Z5k lv (Z30 look done),(Z30 look done).flatMap fun p=>p.2.holes,(Z30 look done).flatMap fun p=>p.2.aparts,Z2z (Z30 look done),(Z30 look done).length,Z26 look done⟩
def Zgh (n:Nat) (D:Nat→Prop) (w:World) (p:KR) (x:PgR):Prop:=
 x.kk=p.1∧x.num=p.2.num∧x.level=p.2.level∧x.elems.n=p.2.elems.length∧x.holes.n=p.2.holes.length∧x.aparts.n=p.2.aparts.length∧x.news.n=p.2.news.length∧Z78 n D w p.2 x.elems.A x.elems.c x.holes.A x.holes.c x.aparts.A x.aparts.c x.news.A x.news.c
theorem Zgh.keep {n:Nat} {D D':Nat→Prop} {w w':World} {p:KR} {x:PgR} (h:Zgh n D w p x) (hs:w.heap.size≤w'.heap.size) (hk : ∀k,D k→k<w.heap.size→D' k∧w'.heap[k]? = w.heap[k]?):Zgh n D' w' p x:=by
 obtain ⟨h1,h2,h3,h4,h5,h6,h7,h8⟩:=h;exact ⟨h1,h2,h3,h4,h5,h6,h7,h8.keep hs hk⟩
theorem Z36.filter {α β:Type} {R:α→β→Prop} {f:α→Bool} {g:β→Bool} (hr : ∀a b,R a b→f a=g b) : ∀{l:List α} {m:List β},Z36 R l m→Z36 R (l.filter f) (m.filter g)
 | _,_,.nil=>.nil
 | _,_,.cons (a:=a) (b:=b) h t=>by
   rw [List.filter_cons,List.filter_cons,hr a b h]
   split
   · exact .cons h (t.filter hr)
   · exact t.filter hr
theorem Z36.any {α β:Type} {R:α→β→Prop} {f:α→Bool} {g:β→Bool} (hr : ∀a b,R a b→f a=g b) : ∀{l:List α} {m:List β},Z36 R l m→l.any f=m.any g
 | _,_,.nil=>rfl
 | _,_,.cons (a:=a) (b:=b) h t=>by rw [List.any_cons,List.any_cons,hr a b h,t.any hr]
theorem Z36.put {R:KR→PgR→Prop} (hr : ∀a b,R a b→b.kk=a.1) {l:List KR} {m:List PgR} (h:Z36 R l m) {a:KR} {b:PgR} (hab:R a b):has Z5j l a=has Z14 m b∧Z36 R (put Z5j l a) (put Z14 m b):=by
 (have hc : ∀x y,R x y→Z5j x a=Z14 y b:=fun x y hxy=>by unfold Z5j Z14;rw [hr _ _ hxy,hr _ _ hab]);have hh:has Z5j l a=has Z14 m b:=h.any (fun x y hxy=>by rw [hc x y hxy]);refine ⟨hh,?_⟩;unfold YtfidcfjcmlgkbaaGreat.put;rw [hh]
 split
 · exact h
 · exact (h.filter (fun x y hxy=>by rw [hc x y hxy])).append (.cons hab (h.filter (fun x y hxy=>by rw [hc x y hxy])))
theorem Zeg {done:List Int} {l:List Int} {k:Int}:k∈puts Z0k l done↔k∈l∨k∈done:=by
 induction done generalizing l with
 | nil=>simp [puts]
 | cons x done ih=>
   have e:puts Z0k l (x :: done)=puts Z0k (put Z0k l x) done:=rfl;rw [e,ih,Zms]
   have hp:k∈put Z0k l x↔k∈l∨k=x:=by
    constructor
    · exact Zd2
    · intro h
      unfold put
      split
      · rename_i hh
        rcases h with h | h
        · exact h
        · obtain ⟨y,hy,e⟩:=Z4w.1 hh
          rw [h,← Z45.1 e];exact hy
      · rename_i hh
        simp only [Znh,Zms];rcases h with h | h
        · have:=Z38.1 (by simpa using hh) k h
          rcases Int.lt_trichotomy (Z0k k x) 0 with h2 | h2 | h2
          · exact .inl (Z3r.2 ⟨h,h2⟩)
          · exact absurd h2 this
          · exact .inr (.inr (Z3q.2 ⟨h,h2⟩))
        · exact .inr (.inl h)
   rw [hp];constructor
   · rintro ((h | h) | h)
     · exact .inl h
     · exact .inr (.inl h)
     · exact .inr (.inr h)
   · rintro (h | h | h)
     · exact .inl (.inl h)
     · exact .inl (.inr h)
     · exact .inr h
theorem Ze6 (done:List Int) (k:Int):has Z0k (puts Z0k [] done) k=decide (k∈done):=by
 by_cases h:k∈done
 · rw [Zmb h]
   exact Z4w.2 ⟨k,Zeg.2 (.inr h),Z45.2 rfl⟩
 · rw [Zm9 h,Z38]
   intro y hy e;rcases Zeg.1 hy with h2 | h2
   · cases h2
   · exact h (by rw [← Z45.1 e];exact h2)
end
section
theorem Zby {α:Type} [DecidableEq α] : ∀{l m:List α},l.Nodup→(∀x∈l,x∈m)→l.length≤m.length
 | [],_,_,_=>by simp
 | x :: l,m,hn,hs=>by
   have hx:x∈m:=hs x (by simp)
   have:=Zby (l:=l) (m:=m.erase x) (List.nodup_cons.1 hn).2 (fun y hy=>by
    have:y≠x:=fun e=>(List.nodup_cons.1 hn).1 (e ▸ hy)
    exact (List.mem_erase_of_ne this).2 (hs y (by simp [hy])))
   rw [List.length_erase_of_mem hx] at this;have:=List.length_pos_of_mem hx;simp only [Zmp];omega
section
variable {look:Int→Z0d×Bool} {lv:Int} {keys:List Int} (hkeys : ∀k,(look k).2=true→k∈keys)
include hkeys
omit hkeys in
theorem Zfq {m:Nat} (hm : ∀k,(look k).1.elems.length≤m) (done:List Int):left look lv keys done≤keys.length*m:=by
 unfold left
 induction keys with
 | nil=>simp
 | cons x keys ih=>
   (have h1:(Z5l lv (look x).1).length≤m:=by unfold Z5l;rw [Znm];exact Zmk (List.length_filter_le _ _) (hm x));(have h2:(keys.length+1)*m=keys.length*m+m:=by rw [Nat.add_mul];simp);rw [List.filter_cons]
   split
   · simp only [List.map_cons,List.sum_cons,Zmp];omega
   · simp only [Zmp];omega
omit hkeys in
theorem Zfk {m:Nat} (hm : ∀k,(look k).1.elems.length≤m) (nums:List Int):cost look lv keys nums []≤nums.length+keys.length*m:=by
 have:=Zfq (lv:=lv) (keys:=keys) hm [];unfold cost;omega
omit hkeys in
omit hkeys in
omit hkeys in
omit hkeys in
theorem Zcd : ∀{l:List KR},Srt Z5j l→(l.map (·.1)).Nodup
 | [],_=>by simp
 | p :: l,h=>by
   obtain ⟨h1,h2⟩:=List.pairwise_cons.1 h;rw [List.map_cons,List.nodup_cons];refine ⟨fun hm=>?_,Zcd h2⟩;obtain ⟨q,hq,e⟩:=List.mem_map.1 hm;have:=h1 q hq;have:=Z45.2 e.symm;unfold Z5j at *;omega
theorem Zlb (done:List Int):(Z30 look done).length≤keys.length:=by
 have:=Zby (Zcd (Zk2 look done)) (m:=keys) (fun k hk=>by
  obtain ⟨p,hp,rfl⟩:=List.mem_map.1 hk
  exact hkeys _ (Zag hp).2.1)
 simpa using this
omit hkeys in
end
theorem Z9l (l:List Z0d) : ∀k,(Z3z l k).2=true→k∈l.map Z0d.num:=fun k h=>by
 obtain ⟨h1,h2⟩:=Zbr h;exact List.mem_map.2 ⟨_,h1,h2⟩
theorem Zbq {l:List Z0d} {Q:Z0d→Prop} (h0:Q zRec) (h : ∀r∈l,Q r) (k:Int):Q (Z3z l k).1:=by
 cases hb:(Z3z l k).2 with
 | true=>exact h _ (Zbr hb).1
 | false=>rw [Zfs hb];exact h0
theorem Zk1 (n:Nat):SmR n zRec:=⟨by simp [zRec],by simp [zRec],by simp [zRec],by simp [zRec],fun h hh=>by simp [zRec] at hh⟩
theorem Zfr {l:List Z0d} (h0:l.length≤20) (h : ∀r∈l,r.elems.length≤20) (lv:Int) (nums:List Int) (hn:nums.length≤100):cost (Z3z l) lv (l.map Z0d.num) nums []≤100000∧(Z30 (Z3z l) (Z4k (Z3z l) lv (l.map Z0d.num) nums [])).length≤500:=by
 have h1:=Zfk (look:=Z3z l) (lv:=lv) (keys:=l.map Z0d.num) (m:=20) (Zbq (Q:=fun r=>r.elems.length≤20) (by simp [zRec]) h) nums;have h2:=Zlb (Z9l l) (Z4k (Z3z l) lv (l.map Z0d.num) nums []);rw [Znm] at h1 h2;have:l.length*20≤20*20:=Nat.mul_le_mul_right 20 h0;exact ⟨by omega,by omega⟩
end
end Go.Proofs.YtfidcfjcmlgkbaaGreat
