/-
  Texts put together: BkHoleU, BkApt1, BkMX, BkMXU, FindName, OpsName.
-/
import Derived.Test.YtfidcfjcmlgkbaaGreatPMg
namespace Go.Proofs.YtfidcfjcmlgkbaaGreat
open Lib (hid)
set_option maxRecDepth 100000
set_option maxHeartbeats 32000000
set_option linter.unusedSimpArgs false
section
open Go.RowKit Go.Shelf
attribute [local go_sem] Oper.semAt_some
def Zli (n:Nat) (c:Z0a) (l:List Z13) (L:List Z0p) (kb:Nat) (D:Nat→Prop) (w:World) (e:Ending) (Y:World):Prop:=
 ∃cs S D',e = .returned (.agg cs.toArray)∧(Z48 n).rep (fun j=>D' j∧w.heap.size≤j) Y ⟨c,Z54 (fun v=>decide (v∈Z0b (n+1) c) && decide (v∈L)) [] l⟩ cs∧NM D' Y S∧S kb=some L∧(∀k,D k→D' k)∧Fr (fun k=>¬D k) w Y
theorem Zjv {D:Nat→Prop}(n:Nat) (c:Z0a) (l:List Z13) (A1 A2 A3 Al:Option Addr) (a1 a2 a3 al kb:Nat) (L:List Z0p) (S:Nat→Option (List Z0p)) (w:World) (hN:NM D w S) (hk:S kb=some L) (h1:RowR Z03 D w A1 a1 c.attr) (h2:RowR Z03 D w A2 a2 c.value) (h3:RowR (Z06 n) D w A3 a3 c.conds) (hl:RowR Z1n D w Al al l)
 (hsm:SmC (n+1) c) (hnl:(Z0b (n+1) c).length≤100000) (hLl:L.length≤1000000) (hll:l.length≤100000) :
 Calls Tryz.prog 65 #[.agg #[.int .i64 c.kind,.bool c.goal,.string c.id,.slice A1 c.attr.length a1,.slice A2 c.value.length a2,.bool c.acc,.slice A3 c.conds.length a3],.pointer (some ⟨kb,0,none⟩),.slice Al l.length al] w (Zli n c l L kb D w):=by
 obtain ⟨i0,hi0,hz0,hz1,hz2⟩:=infp Z8r;have HN:=hid hN;have HK:=hid hk;have H1:=hid h1;have H2:=hid h2;have H3:=hid h3;have HL:=hid hl;have HSM:=hid hsm;have HKB:=hid (hN.outD hk).2;have HN0:=hid hN.low;have hlc:=hl.cap;clear hN hk h1 h2 h3 hl hsm;refine (callsIn_wide (n:=0)).1 ?_;refine callsIn_of_wp_marks Tryz.func65 rfl trivial ?_;refine wpIn_wide.2 ?_;simp only [Tryz.ntmps65,Zoy,Zo4,Zon,Nat.reduceAdd,Nat.reduceSub,Zos,Zot,Zox,Zov,Zo3,Zog];(go_upto_region 1 with fail);obtain ⟨w1,hw1⟩:∃w1,w1=(((w.alloc (.cells #[.int .i64 c.kind,.bool c.goal,.string c.id,.slice A1 c.attr.length a1,.slice A2 c.value.length a2,.bool c.acc,.slice A3 c.conds.length a3] 59)).alloc (.cells #[.pointer (some ⟨kb,0,none⟩)] 130)).alloc (.cells #[.int .i64 0,.bool false,.string ⟨#[]⟩,.slice none 0 0,.slice none 0 0,.bool false,.slice none 0 0,.slice none 0 0] 78)):=⟨_,rfl⟩;rw [←hw1];have HB:=hid (show Below w.heap.size w w1 by rw [hw1];exact (by repeat (first|exact Znk _ _|refine Below.drew ?_|refine Below.al ?_ _|refine Below.sc ?_ _)));have Kc:=hid (show Blk w1 (w.heap.size) 59 #[.int .i64 c.kind,.bool c.goal,.string c.id,.slice A1 c.attr.length a1,.slice A2 c.value.length a2,.bool c.acc,.slice A3 c.conds.length a3] by rw [hw1];exact (((Blk.new w 59 #[.int .i64 c.kind,.bool c.goal,.string c.id,.slice A1 c.attr.length a1,.slice A2 c.value.length a2,.bool c.acc,.slice A3 c.conds.length a3]).alloc (.cells #[.pointer (some ⟨kb,0,none⟩)] 130)).alloc (.cells #[.int .i64 0,.bool false,.string ⟨#[]⟩,.slice none 0 0,.slice none 0 0,.bool false,.slice none 0 0,.slice none 0 0] 78)));have Kn:=hid (show Blk w1 (w.heap.size+1) 130 #[.pointer (some ⟨kb,0,none⟩)] by rw [hw1];have hh:=((Blk.new (w.alloc (.cells #[.int .i64 c.kind,.bool c.goal,.string c.id,.slice A1 c.attr.length a1,.slice A2 c.value.length a2,.bool c.acc,.slice A3 c.conds.length a3] 59)) 130 #[.pointer (some ⟨kb,0,none⟩)]).alloc (.cells #[.int .i64 0,.bool false,.string ⟨#[]⟩,.slice none 0 0,.slice none 0 0,.bool false,.slice none 0 0,.slice none 0 0] 78));simp only [Zoj] at hh;exact hh);have Kr:=hid (show Blk w1 (w.heap.size+2) 78 #[.int .i64 0,.bool false,.string ⟨#[]⟩,.slice none 0 0,.slice none 0 0,.bool false,.slice none 0 0,.slice none 0 0] by rw [hw1];have hh:=(Blk.new ((w.alloc (.cells #[.int .i64 c.kind,.bool c.goal,.string c.id,.slice A1 c.attr.length a1,.slice A2 c.value.length a2,.bool c.acc,.slice A3 c.conds.length a3] 59)).alloc (.cells #[.pointer (some ⟨kb,0,none⟩)] 130)) 78 #[.int .i64 0,.bool false,.string ⟨#[]⟩,.slice none 0 0,.slice none 0 0,.bool false,.slice none 0 0,.slice none 0 0]);simp only [Zoj] at hh;exact hh);clear hw1;obtain ⟨c0,c1,c2,c3,c4,c5,c6⟩:=Kc.out.c7;have cz:=Kc.out.lt;have n0:=Kn.out.c1;have nz:=Kn.out.lt;have rz:=Kr.out.lt;clear c0 c1 c2 c3 c4 c5 c6 cz n0 nz rz;have HN1:=hid (HN.out.new_ HB.out);obtain ⟨cb,hcb⟩:∃b,b=w.heap.size:=⟨_,rfl⟩;obtain ⟨qb,hqb⟩:∃b,b=w.heap.size+1:=⟨_,rfl⟩;obtain ⟨rb,hrb⟩:∃b,b=w.heap.size+2:=⟨_,rfl⟩
 have HBX:=hid (show w.heap.size≤cb∧cb<w1.heap.size∧w.heap.size≤qb∧qb<w1.heap.size∧w.heap.size≤rb∧rb<w1.heap.size∧rb≠cb∧rb≠qb by
  have:=Kr.out.lt
  omega)
 rw [←hqb] at Kn;rw [←hrb] at Kr;rw [←hcb] at Kc;rw [←hrb,←hqb,←hcb];clear hcb hqb hrb;(go_wp2_with fail);refine (Zld HN1.out).mono ?_;rintro e w2 ⟨ib,rfl,hib,hn2,hb2⟩;have HNE:=hid (show kb≠ib by have:=HKB.out;have:=HB.out.size;omega);obtain ⟨S2,hS2⟩:∃s,s=upd S ib (some []):=⟨_,rfl⟩;rw [←hS2] at hn2;have HS2:=hid (show S2 kb=some L∧S2 ib=some [] by rw [hS2];exact ⟨by rw [Z1q _ _ HNE.out];exact HK.out,Z0r _ _ _⟩);have HN2:=hid hn2;have HB2:=hid (HB.out.trans (hb2.mono HB.out.size));have Kc:=hid (Kc.out.new_ hb2);have Kn:=hid (Kn.out.new_ hb2);have Kr:=hid (Kr.out.new_ hb2);have HZ1:=hid HB.out.size;have HZ2:=hid hb2.size;clear hn2 hb2 hib hS2;(go_upto_region 2 with fail);obtain ⟨W3,hw⟩:∃W,W=w2.alloc (.cells #[.pointer (some ⟨ib,0,none⟩)] 130):=⟨_,rfl⟩;obtain ⟨nb,hnb⟩:∃b,b=w2.heap.size:=⟨_,rfl⟩;have Ki:=hid (show Blk W3 nb 130 #[.pointer (some ⟨ib,0,none⟩)] by rw [hw,hnb];exact Blk.new _ _ _);(have hbn:Below w2.heap.size w2 W3:=by rw [hw];exact (Znk _ _).alloc (Znl _) _);have HNB:=hid (show w2.heap.size≤nb∧nb<W3.heap.size from ⟨by omega,Ki.out.lt⟩);rw [←hw,←hnb];have HN3:=hid (HN2.out.new_ hbn);have Kc:=hid (Kc.out.new_ hbn);have Kn:=hid (Kn.out.new_ hbn);have Kr:=hid (Kr.out.new_ hbn);have HB3:=hid (HB2.out.trans (hbn.mono HB2.out.size));clear hw hnb hbn;obtain ⟨c0,c1,c2,c3,c4,c5,c6⟩:=Kc.out.c7;have cz:=Kc.out.lt;(go_wp2_with fail);refine (Zgc c A1 A2 A3 a1 a2 a3 W3).mono ?_;rintro e w4 ⟨rfl,hkv,hb4⟩;clear c0 c1 c2 c3 c4 c5 c6 cz;obtain ⟨kv,hkvd⟩:∃b,b=W3.heap.size:=⟨_,rfl⟩;rw [←hkvd] at hkv ⊢
 have HKV:=hid hkv;have HVB:=hid (show W3.heap.size≤kv∧kv<w4.heap.size from ⟨by omega,hkv.lt⟩);have HN4:=hid (HN3.out.new_ hb4);have Kc:=hid (Kc.out.new_ hb4);have Kn:=hid (Kn.out.new_ hb4);have Kr:=hid (Kr.out.new_ hb4);have Ki:=hid (Ki.out.new_ hb4);have HB4:=hid (HB3.out.trans (hb4.mono HB3.out.size));have h4z:=HB4.out.size;obtain ⟨O,hO⟩:∃O,O=Plus (Plus (Plus D w w1) w2 W3) W3 w4:=⟨_,rfl⟩;rw [←hO] at HN4
 have HOD:=hid (show (∀k,D k→O k)∧O cb∧O qb∧O rb∧O nb∧O kv by
  have:=HBX.out;rw [hO]
  exact ⟨fun k hk=>.inl (.inl (.inl hk)),.inl (.inl (.inr ⟨by omega,by omega⟩)),.inl (.inl (.inr ⟨by omega,by omega⟩)),.inl (.inl (.inr ⟨by omega,by omega⟩)),.inl (.inr HNB.out),.inr HVB.out⟩)
 have HOL:=hid HN4.out.low;clear hkv hb4 hkvd hO;(go_wp2_with fail);obtain ⟨xs,hxs⟩:∃xs,xs=Z0b (n+1) c:=⟨_,rfl⟩;rw [←hxs] at hnl;have HXS:=hid hxs
 have HIT:=hid (show ∀W,Below w4.heap.size w4 W→Zlj Tryz.prog 165 #[.pointer (some ⟨kv,0,none⟩)] Z85 xs W (fun j=>D j∨j=kv) from fun W hW=>by
  rw [hxs];have hb:=HB4.out.trans (hW.mono h4z)
  exact Zi7 n c kv A1 A2 A3 a1 a2 a3 W (HKV.out.new_ hW) (.inr rfl) ((H1.out.new_ hb).weaken (fun _ h=>.inl h)) ((H2.out.new_ hb).weaken (fun _ h=>.inl h)) ((H3.out.new_ hb).weaken (fun _ h=>.inl h)))
 clear hxs;obtain ⟨I,hI⟩:∃I:(Nat→Prop)→List ByteArray→World→Prop,I=fun D' q X=>HoI O w4 kb ib L D' q X:=⟨_,rfl⟩;obtain ⟨Ix,hIx⟩:∃Ix:Code→(Nat→Prop)→List ByteArray→World→Prop,Ix=fun _ _ _ _=>False:=⟨_,rfl⟩
 have hst:Z5k w4.heap.size I:=by
  subst hI;intro D' q X Y h hF;exact h.step HOL.out hF
 have hstx :∀cd,Z5k w4.heap.size (Ix cd):=by
  subst hIx;intro cd D' q X Y h hF;exact h.elim
 have HST:=hid hst;refine (wpIn_wide (n:=0)).1 ?_;refine Zei (w:=w4) (D:=fun j=>D j∨j=kv) (by rfl) (by intro args w;kernel_rfl) (fun k hk=>hk.elim (fun h=>HOL.out k (HOD.out.1 k h)) (fun h=>by rw [h];exact HVB.out.2)) HIT.out (fun x=>by rfl) I Ix hst hstx ?_ ?_ ?_ ?_
 · subst hI
   exact ⟨⟨S2,HN4.out.weaken (fun k hk=>hk.elim (fun h=>h.elim (HOD.out.1 k) (fun e=>e ▸ HOD.out.2.2.2.2.2)) id),HS2.out.1,HS2.out.2⟩,Fr.refl _ _⟩
 · intro D' lo q x post X hx hlo hDl hIX
   have hql:q.length+1≤100000:=by
    have:=congrArg List.length hx;simp at this;omega
   simp only [Z85,Array.zip];(gi_wp2_with fail);refine ⟨Fr.refl _ _,fun X2 hF2 hz2 _=>?_⟩;have hI2:=hst.same hIX (hF2.mono (fun k _ e=>by rw [e];exact ⟨hDl,hlo⟩)) hz2;have HI:=hid hI;rw [hI] at hI2;clear hI hIx hst hstx hIX hF2 hz2 hx HST;obtain ⟨⟨S3,hn3,hs1,hs2⟩,hfr⟩:=hI2;have HN:=hid hn3;have HS1:=hid hs1;have HS2:=hid hs2;have HFR:=hid hfr;have Kn:=hid (Kn.out.fr hfr (fun h=>h HOD.out.2.2.1));have Ki:=hid (Ki.out.fr hfr (fun h=>h HOD.out.2.2.2.2.1));clear hn3 hs1 hs2 hfr;have n0:=Kn.out.c1;have nz:=Kn.out.lt;obtain ⟨b,hb⟩:∃b,b=has Z01 L x:=⟨_,rfl⟩;have HCL:=hid (show Calls Tryz.prog 121 #[.pointer (some ⟨kb,0,none⟩),.string x] X2 fun e Y=>e = .returned (.bool b)∧Below X2.heap.size X2 Y by rw [hb];exact Zn6 x HN.out HS1.out (by omega));have HBB:=hid hb;clear hb;(gi_wp2_with fail);refine ⟨trivial,rfl,?_⟩;refine (callsIn_wide.2 HCL.out).mono ?_;rintro e w5 ⟨rfl,hb5⟩;have HB5:=hid hb5;have HN5:=hid (HN.out.below hb5);have Ki:=hid (Ki.out.new_ hb5);clear hb5 n0 nz HCL
   cases b with
   | false=>
     gi_wp2;rw [HI.out];exact ⟨Fr.of_new HB5.out,⟨S3,HN5.out,HS1.out,by rw [Zn5 HBB.out.symm];exact HS2.out⟩,HFR.out.trans (Fr.of_new HB5.out)⟩
   | true=>
     have n0:=Ki.out.c1;have nz:=Ki.out.lt;have HPT:=hid (Zic x HN5.out HS2.out (by have:=Zhm L q;omega));(gi_wp2_with fail);refine ⟨trivial,rfl,?_⟩;refine (callsIn_wide.2 HPT.out).mono ?_;rintro e w6 ⟨rfl,hn6,hF6⟩;have HN6:=hid hn6;have HF6:=hid hF6;clear hn6 hF6 n0 nz HPT;gi_wp2;rw [HI.out];have hF5:Fr (fun k=>¬(D' k∨O k)) X2 w6:=(Fr.of_new HB5.out).trans HF6.out;exact ⟨hF5.mono (fun k _ h hd=>h (.inl hd)),⟨_,HN6.out,by rw [Z1q _ _ HNE.out];exact HS1.out,by rw [Z0r,Zlx HBB.out.symm]⟩,HFR.out.trans (hF5.mono (fun k _ h hd=>h (.inr hd)))⟩
 · intro D' d X hd hDd hIX hKd
   rw [hI] at hIX;obtain ⟨⟨S3,hn3,hs1,hs2⟩,hfr⟩:=hIX;have HFR:=hid hfr;have hfx:Fr (fun k=>¬D k) w X:=(Fr.of_new HB4.out).trans (hfr.mono (fun k _ h hd=>h (HOD.out.1 k hd)));have HFX:=hid hfx;have HN:=hid hn3;have HS1:=hid hs1;have HS2:=hid hs2;have HKD:=hid hKd;have HDX:=hid (show d<X.heap.size from (Zo0.1 hKd).1);have HDD:=hid hDd;have HDW:=hid hd;have HXZ:=hid hfr.size;have Kc:=hid (Kc.out.fr hfr (fun h=>h HOD.out.2.1));have Kr:=hid (Kr.out.fr hfr (fun h=>h HOD.out.2.2.2.1));have Ki:=hid (Ki.out.fr hfr (fun h=>h HOD.out.2.2.2.2.1));have HLX:=hid (HL.out.fr hfx (fun k hk h=>h hk));have HCO:=hid (Za2 n c A1 a1 A2 a2 A3 a3 D X (H1.out.fr hfx (fun k hk h=>h hk)) (H2.out.fr hfx (fun k hk h=>h hk)) (H3.out.fr hfx (fun k hk h=>h hk)) HSM.out);obtain ⟨c0,c1,c2,c3,c4,c5,c6⟩:=Kc.out.c7;have cz:=Kc.out.lt;clear hn3 hs1 hs2 hfr hfx hKd hd hDd hI hIx hst hstx HST HIT Kn H1 H2 H3;(go_wp2_with fail);refine HCO.out.mono ?_;rintro e w5 ⟨E1,e1,E2,e2,E3,e3,rfl,r1,r2,r3,hb5⟩;clear c0 c1 c2 c3 c4 c5 c6 cz HCO Kc;have HN5:=hid (HN.out.new_ hb5);have Kr:=hid (Kr.out.new_ hb5);have Ki:=hid (Ki.out.new_ hb5);have HLX:=hid (HLX.out.new_ hb5);have HFX:=hid (HFX.out.trans (Fr.of_new hb5));have HKD:=hid ((hb5.block d HDX.out).trans HKD.out);have HZ5:=hid hb5.size;obtain ⟨O2,hO2⟩:∃o,o=Plus (fun j=>D' j∨O j) X w5:=⟨_,rfl⟩;rw [←hO2] at HN5
   have HO2:=hid (show (∀k,D k→O2 k)∧O2 nb∧O2 d∧(∀k,NewD X.heap.size w5 k→O2 k)∧O2 rb by
    rw [hO2]
    exact ⟨fun k hk=>.inl (.inr (HOD.out.1 k hk)),.inl (.inr HOD.out.2.2.2.2.1),.inl (.inl HDD.out),fun k hk=>.inr hk,.inl (.inr HOD.out.2.2.2.1)⟩)
   have HR1:=hid (r1.weaken (D':=fun j=>O2 j∧X.heap.size≤j) (fun k hk=>⟨HO2.out.2.2.2.1 k hk,hk.1⟩));have HR2:=hid (r2.weaken (D':=fun j=>O2 j∧X.heap.size≤j) (fun k hk=>⟨HO2.out.2.2.2.1 k hk,hk.1⟩));have HR3:=hid (r3.weaken (D':=fun j=>O2 j∧X.heap.size≤j) (fun k hk=>⟨HO2.out.2.2.2.1 k hk,hk.1⟩));have HL2:=hid HN5.out.low;clear r1 r2 r3 hb5 hO2;(go_upto_region 7 with fail);obtain ⟨W6,hw⟩:∃W,W=w5.alloc (.cells #[.int .i64 c.kind,.bool c.goal,.string c.id,.slice E1 c.attr.length e1,.slice E2 c.value.length e2,.bool c.acc,.slice E3 c.conds.length e3,.slice none 0 0] 78):=⟨_,rfl⟩;obtain ⟨hb,hhb⟩:∃b,b=w5.heap.size:=⟨_,rfl⟩;have Kh:=hid (show Blk W6 hb 78 #[.int .i64 c.kind,.bool c.goal,.string c.id,.slice E1 c.attr.length e1,.slice E2 c.value.length e2,.bool c.acc,.slice E3 c.conds.length e3,.slice none 0 0] by rw [hw,hhb];exact Blk.new _ _ _);(have hbn:Below w5.heap.size w5 W6:=by rw [hw];exact (Znk _ _).alloc (Znl _) _);have HHB:=hid (show w5.heap.size≤hb∧hb<W6.heap.size from ⟨by omega,Kh.out.lt⟩);rw [←hw,←hhb];have HN6:=hid (HN5.out.new_ hbn);have Kr:=hid (Kr.out.new_ hbn);have Ki:=hid (Ki.out.new_ hbn);have HLX:=hid (HLX.out.new_ hbn);have HFX:=hid (HFX.out.trans (Fr.of_new hbn));have HKD:=hid ((hbn.block d (by have:=HDX.out;have:=HZ5.out;omega)).trans HKD.out);have HR1:=hid (HR1.out.new_ hbn);have HR2:=hid (HR2.out.new_ hbn);have HR3:=hid (HR3.out.new_ hbn);have HZ6:=hid hbn.size;clear hw hhb hbn;obtain ⟨B0,hB0⟩:∃s,s=inL L xs:=⟨_,rfl⟩;rw [←hB0] at HS2;have HG:=hid (show goB B0 l=Z54 (fun v=>decide (v∈Z0b (n+1) c) && decide (v∈L)) [] l from Zay _ l _ _ (fun v=>by rw [hB0,Zm5,←HXS.out];simp));(have hB0l:B0.length≤100000:=by rw [hB0];exact Zo2 (Zhm _ _) hnl);have HHE:=hid (show Plus O2 w5 W6 hb from .inr HHB.out);clear hB0;go_wp2_with fail
   go_loopw [27] (fun vi wr=>∃(i:Nat) (os:List Z13) (Ao:Option Addr) (co:Nat) (S':Nat→Option (List Z0p)) (E:Nat→Prop) (B:List Z0p),vi = .int .i64 (i:Int)∧i≤l.length∧NM E wr S'∧S' kb=some L∧S' ib=some B∧B.length≤100000∧goB B0 l=os++goB B (l.drop i)∧os.length≤i∧wr.ownsRow 0 40 4 (.slice Ao os.length co) os.length (os.flatMap Z13.cells)∧AIn Ao (fun j=>E j∧W6.heap.size≤j)∧Blk wr hb 78 #[.int .i64 c.kind,.bool c.goal,.string c.id,.slice E1 c.attr.length e1,.slice E2 c.value.length e2,.bool c.acc,.slice E3 c.conds.length e3,.slice Ao os.length co]∧(∀k,Plus O2 w5 W6 k→E k)∧Fr (fun k=>¬O2 k) W6 wr) (fun vi wr=>l.length - (intOf vi).toNat)
   case atStart=>exact ⟨0,[],none,0,S3,_,B0,rfl,Nat.zero_le _,HN6.out,HS1.out,HS2.out,hB0l,by rw [List.drop_zero,Zo3],Znl _,⟨by simp,.inl ⟨rfl,rfl⟩⟩,AIn.none_ _,Kh.out,fun k hk=>hk,Fr.refl _ _⟩
   case round=>
    clear HN6 HS1 HS2 hB0l Kh HN HN5;obtain ⟨i,os,Ao,co,S',E,B,rfl,hi,hn,hs1,hs2,hBl,hgo,hol,hown,hain,hkh,hE,hfr⟩:=hrel;have HN:=hid hn;have HS1:=hid hs1;have HS2:=hid hs2;have HGO:=hid hgo;have HOW:=hid hown;have HAI:=hid hain;have Kh:=hid hkh;have HE:=hid hE;have HFR:=hid hfr;clear hn hs1 hs2 hgo hown hain hkh hE hfr;by_cases hlt:i<l.length
    · skip
      obtain ⟨y,hy⟩:∃y,y=l[i]:=⟨_,rfl⟩;have HDR:=hid (show l.drop i=y :: l.drop (i+1) by rw [hy];exact Zol hlt);obtain ⟨g,off,rfl,_,hgl,q0,q1,q2,q3⟩:=Z5d (HLX.out.fr HFR.out (fun k hk h=>h (HO2.out.1 k hk))) hlt;rw [←hy] at q0 q1 q2 q3;(have j1:(0:Int)≤(i:Int):=by omega);(have j2:(i:Int)<(l.length:Int):=by omega);have v3:IntKind.i64.wrap ((i:Int)+1)=(i:Int)+1:=Znu _ (by omega);clear hy;(go_upto_region 10 with fail);obtain ⟨W7,hw⟩:∃W,W=wr.alloc (.cells #[.string y.var,.int .i64 y.sym.kind,.string y.sym.text,.int .i64 y.sym.n] 40):=⟨_,rfl⟩;obtain ⟨yb,hyb⟩:∃b,b=wr.heap.size:=⟨_,rfl⟩;have Ky:=hid (show Blk W7 yb 40 #[.string y.var,.int .i64 y.sym.kind,.string y.sym.text,.int .i64 y.sym.n] by rw [hw,hyb];exact Blk.new _ _ _);(have hbn:Below wr.heap.size wr W7:=by rw [hw];exact (Znk _ _).alloc (Znl _) _);rw [←hw,←hyb];have HN7:=hid (HN.out.new_ hbn);have Kh:=hid (Kh.out.new_ hbn);have HOW:=hid (Z05 HOW.out hbn);have HFR:=hid (HFR.out.trans (Fr.of_new hbn));obtain ⟨E7,hE7⟩:∃E7,E7=Plus E wr W7:=⟨_,rfl⟩;rw [←hE7] at HN7;have HE7:=hid (show (∀k,E k→E7 k)∧E7 yb by rw [hE7];exact ⟨fun k hk=>.inl hk,.inr ⟨by omega,Ky.out.lt⟩⟩);clear hw hyb hbn hE7 q0 q1 q2 q3;have Ki7:=hid (Ki.out.fr HFR.out (fun h=>h HO2.out.2.1));have n0:=Ki7.out.c1;have nz:=Ki7.out.lt;have y0:=(Ky.out.cell 0).trans rfl;have yz:=Ky.out.lt;obtain ⟨b,hb⟩:∃b,b=has Z01 B y.var:=⟨_,rfl⟩;have hdr:=Zm9 y.var HN7.out HS2.out (by omega);rw [←hb] at hdr;have HDP:=hid hdr;have HBB:=hid hb;have hB2:(drop Z01 B y.var).length≤100000:=Zo2 (Z9q _ _) hBl;obtain ⟨B2,hB2d⟩:∃s,s=drop Z01 B y.var:=⟨_,rfl⟩;rw [←hB2d] at hB2 HDP;have HBD:=hid hB2d;clear hb hdr hB2d;(go_wp2_with fail);refine HDP.out.mono ?_;rintro e w8 ⟨rfl,hn8,hF8⟩;clear n0 nz y0 yz HDP Ki7
      have HN8:=hid hn8;have HF8:=hid hF8;have Kh:=hid (Kh.out.fr hF8 (fun h=>h (HE7.out.1 hb (HE.out hb HHE.out))));have Ky:=hid (Ky.out.fr hF8 (fun h=>h HE7.out.2))
      have HOW:=hid (Z15 HOW.out hF8 (fun g2 hg2 hn=>by
       rcases Ao with _|a
       · simp [Value.ownBlock] at hg2
       · have e:a.block=g2:=by simpa [Value.ownBlock] using hg2
         exact hn (HE7.out.1 g2 (e ▸ (HAI.out a rfl).1))))
      have HFR:=hid (HFR.out.trans (hF8.mono (fun k _ h hd=>h (HE7.out.1 k (HE.out k (.inl hd))))));have HS1:=hid (show upd S' ib (some B2) kb=some L by rw [Z1q _ _ HNE.out];exact HS1.out);have HS2:=hid (show upd S' ib (some B2) ib=some B2 from Z0r _ _ _);obtain ⟨S8,hS8⟩:∃s,s=upd S' ib (some B2):=⟨_,rfl⟩;rw [←hS8] at HS1 HS2 HN8;clear hn8 hF8 hS8;cases b
      · have HGN:=hid (show goB B0 l=os++goB B2 (l.drop (i+1)) by
         rw [HGO.out,HDR.out,goB,if_neg (by rw [←HBB.out];simp),HBD.out,Zc1 HBB.out.symm])
        (go_wp2_with fail);go_roundw
        case rel=>exact ⟨i+1,os,Ao,co,S8,E7,B2,by go_num,by omega,HN8.out,HS1.out,HS2.out,hB2,HGN.out,by omega,HOW.out,HAI.out.mono (fun j hj=>⟨HE7.out.1 j hj.1,hj.2⟩),Kh.out,fun k hk=>HE7.out.1 k (HE.out k hk),HFR.out⟩
        case measure=>simp [intOf]<;>omega
      have HGN:=hid (show goB B0 l=(os ++ [y])++goB B2 (l.drop (i+1)) by
       rw [HGO.out,HDR.out,goB,if_pos HBB.out.symm,HBD.out];simp)
      have h7:=(Kh.out.cell 7).trans rfl;have hz:=Kh.out.lt;have hf7:=Kh.out.frozen 7;have y0:=(Ky.out.cell 0).trans rfl;have y1:=(Ky.out.cell 1).trans rfl;have y2:=(Ky.out.cell 2).trans rfl;have y3:=(Ky.out.cell 3).trans rfl;have yz:=Ky.out.lt;obtain ⟨W9,hW9⟩:∃W,W=w8.alloc (.cells #[.string y.var,.int .i64 y.sym.kind,.string y.sym.text,.int .i64 y.sym.n] 40):=⟨_,rfl⟩;have HW9:=hid hW9;(have hb9:Below w8.heap.size w8 W9:=by rw [hW9];exact (Znk _ _).alloc (Znl _) _);have HN9:=hid (HN8.out.new_ hb9);have HO9:=hid (Z05 HOW.out hb9);have Kh9:=hid (Kh.out.new_ hb9);have HF9:=hid (HFR.out.trans (Fr.of_new hb9));have HC2:=hid (show [y].flatMap Z13.cells = [.string y.var,.int .i64 y.sym.kind,.string y.sym.text,.int .i64 y.sym.n] from rfl);have HN2:=hid (show 0<1→∃ad,(some (⟨w8.heap.size,0,none⟩:Addr))=some ad∧∀j u,([y].flatMap Z13.cells)[j]? = some u→W9.cell? (ad.add j)=some u from fun _=>⟨_,rfl,by rw [HC2.out,hW9];exact Zo7 (heap_alloc_new _ _)⟩);clear hW9 hb9;(go_wp2_with (at_builtin;rw [←HW9.out];refine Z00 W9 rfl (.tmp 36) (.tmp 38) 26 rfl 40 i0 _ 4 48 Tryz.underlying26 hi0 hz0 hz1 hz2 rfl (by omega) (.slice Ao os.length co) os.length (os.flatMap Z13.cells) rfl HO9.out (some ⟨w8.heap.size,0,none⟩) 1 1 ([y].flatMap Z13.cells) rfl rfl HN2.out (Zck _) (by unfold maxLen;omega) (by omega) ?_;intro v4 w10 hown hgr hnil hat;obtain ⟨A9,c9,rfl,hF9,hA9,hO10⟩:=Z33 (E:=fun j=>∃a,Ao=some a∧a.block=j) (fun a ha=>⟨a,ha,rfl⟩) hown hgr hat;have Kh10:=hid (Kh9.out.grown hgr (Z02 HO9.out Kh9.out (by decide)));have HF10:=hid hF9;have HA10:=hid hA9;have HO10:=hid hO10;clear hown hgr hnil hat hF9 hA9 hO10 h7 hz hf7;have h7:=(Kh10.out.cell 7).trans rfl;have hz:=Kh10.out.lt;have hf7:=Kh10.out.frozen 7));obtain ⟨W11,hW11⟩:∃W,W=w10.setCell ⟨hb,7,none⟩ (.slice A9 (os.length+1) c9):=⟨_,rfl⟩;clear h7 hz hf7 y0 y1 y2 y3 yz;rw [←hW11];(have hln:(os ++ [y]).length=os.length+1:=by simp);have hEo :∀j,(∃a,Ao=some a∧a.block=j)→Plus E7 w8 W9 j:=fun j ⟨a,ha,e⟩=>.inl (HE7.out.1 j (e ▸ (HAI.out a ha).1));(have hF11:Fr (Plus E7 w8 W9) W9 W11:=by rw [hW11];exact (HF10.out.mono (fun k _ hk=>hEo k hk)).setCell (p:=⟨hb,7,none⟩) (.inl (.inl (HE7.out.1 hb (HE.out hb HHE.out)))) _);have HN11:=hid (HN9.out.own hF11);have Kh11:=hid (show Blk W11 hb 78 #[.int .i64 c.kind,.bool c.goal,.string c.id,.slice E1 c.attr.length e1,.slice E2 c.value.length e2,.bool c.acc,.slice E3 c.conds.length e3,.slice A9 (os ++ [y]).length c9] by rw [hW11,hln];simpa using Kh10.out.set_ 7 (.slice A9 (os.length+1) c9))
      have HO11:=hid (show W11.ownsRow 0 40 4 (.slice A9 (os ++ [y]).length c9) (os ++ [y]).length ((os ++ [y]).flatMap Z13.cells) by
       rw [hW11,hln,Zny]
       exact ownsRow_setCell_other (a:=⟨hb,7,none⟩) HO10.out (Z02 HO10.out Kh10.out (by decide)) (.slice A9 (os.length+1) c9))
      have HA11:=hid (show AIn A9 (fun j=>Plus (Plus E7 w8 W9) W9 W11 j∧W6.heap.size≤j) from fun a ha=>by
       have hlo:=Z4p HO11.out a ha;rcases HA10.out a ha with h|⟨h,_⟩
       · exact ⟨.inl (hEo _ h),by obtain ⟨b,hb2,e⟩:=h;rw [←e];exact (HAI.out b hb2).2⟩
       · refine ⟨.inr ⟨h,hlo⟩,?_⟩
         have:=HF9.out.size
         omega)
      have HF11:=hid (show Fr (fun k=>¬O2 k) W6 W11 from HF9.out.trans (by
       rw [hW11];refine (HF10.out.mono (fun k _ hk hd=>?_)).setCell (p:=⟨hb,7,none⟩) (.inl (fun hd=>?_)) _
       · obtain ⟨a,ha,e⟩:=hk
         have:=(HAI.out a ha).2;have:=HL2.out k hd;have:=HZ6.out;omega
       · have:=HL2.out hb hd
         have:=HHB.out.1
         omega))
      obtain ⟨on,hon⟩:∃on,on=os ++ [y]:=⟨_,rfl⟩;rw [←hon] at HGN HO11 Kh11 hln;(have hvl:(Value.slice A9 (os.length+1) c9) = .slice A9 on.length c9:=by rw [hln]);clear hEo hF11 hW11 hon hvl;(go_wp2_with fail);go_roundw
      case rel=>exact ⟨i+1,on,A9,c9,S8,_,B2,by go_num,by omega,HN11.out,HS1.out,HS2.out,hB2,HGN.out,by omega,HO11.out,HA11.out,Kh11.out,fun k hk=>.inl (.inl (HE7.out.1 k (HE.out k hk))),HF11.out⟩
      case measure=>simp [intOf]<;>omega
    · skip
      obtain rfl:i=l.length:=by omega
      have HFIN:=hid (show os=Z54 (fun v=>decide (v∈Z0b (n+1) c) && decide (v∈L)) [] l by
       have:=HGO.out;rw [Zoq,show goB B [] = [] from rfl,Zof] at this
       rw [←this];exact HG.out)
      have hF0:=HFR.out;have HKD2:=hid ((hF0.block d (by have:=HDX.out;have:=HZ5.out;have:=HZ6.out;omega) (fun h=>h HO2.out.2.2.1)).trans HKD.out);have Kr2:=hid (Kr.out.fr hF0 (fun h=>h HO2.out.2.2.2.2));have HR1:=hid (HR1.out.fr hF0 (fun k hk h=>h hk.1));have HR2:=hid (HR2.out.fr hF0 (fun k hk h=>h hk.1));have HR3:=hid (HR3.out.fr hF0 (fun k hk h=>h hk.1));have HT9:=hid (show wr.there rb 0 (#[.int .i64 c.kind,.bool c.goal,.string c.id,.slice E1 c.attr.length e1,.slice E2 c.value.length e2,.bool c.acc,.slice E3 c.conds.length e3,.slice Ao os.length co]:Array Value).size from Kr2.out.there);have HRG:=hid (show wr.rangeAt hb 0 [.int .i64 c.kind,.bool c.goal,.string c.id,.slice E1 c.attr.length e1,.slice E2 c.value.length e2,.bool c.acc,.slice E3 c.conds.length e3,.slice Ao os.length co] from Kh.out.range);have hrl:=Kr2.out.lt;have hhl:=Kh.out.lt;clear hF0;(go_wp2_with (first|(with_reducible refine wpList_load_mid rfl 78 _ rfl hb 0 rfl _ _ HRG.out Tryz.underlying78 rfl (by kernel_rfl) ?_)|(with_reducible refine wpList_store_mid rfl 78 _ _ rfl rb 0 #[.int .i64 c.kind,.bool c.goal,.string c.id,.slice E1 c.attr.length e1,.slice E2 c.value.length e2,.bool c.acc,.slice E3 c.conds.length e3,.slice Ao os.length co] rfl rfl HT9.out (by kernel_rfl) (by kernel_rfl) ?_)));(try simp only [Exit.inBlock,Exit.then]);obtain ⟨w9,hw9⟩:∃W,W=wr.setCells rb 0 [.int .i64 c.kind,.bool c.goal,.string c.id,.slice E1 c.attr.length e1,.slice E2 c.value.length e2,.bool c.acc,.slice E3 c.conds.length e3,.slice Ao os.length co]:=⟨_,rfl⟩;(have hrx:rb<X.heap.size:=by have:=HBX.out;have:=HXZ.out;have:=HZ2.out;have:=HNB.out;have:=HVB.out;omega);(have hdr:d≠rb:=by have:=HDW.out;have:=HBX.out;have:=HB4.out.size;have:=HZ2.out;have:=HNB.out;have:=HVB.out;omega);(have hk9 :∀j,j≠rb→w9.heap[j]? = wr.heap[j]?:=fun j hj=>by rw [hw9];exact Z1g _ _ _ _ _ hj);(have hr9:w9.rangeAt rb 0 [.int .i64 c.kind,.bool c.goal,.string c.id,.slice E1 c.attr.length e1,.slice E2 c.value.length e2,.bool c.acc,.slice E3 c.conds.length e3,.slice Ao os.length co]:=by rw [hw9];exact Znw wr rb 0 [.int .i64 c.kind,.bool c.goal,.string c.id,.slice E1 c.attr.length e1,.slice E2 c.value.length e2,.bool c.acc,.slice E3 c.conds.length e3,.slice Ao os.length co] HT9.out);have hK9:w9.heap[d]? = some (.deferred (some [])):=(hk9 d hdr).trans HKD2.out;(have hF9:Fr (· = rb) wr w9:=by rw [hw9];exact Fr.setCells _ _ (Fr.refl _ _) (.inl rfl));rw [←hw9];clear hw9;refine ⟨by simp,.inl ⟨_,_,rfl,run_takeDeferred hK9,?_⟩⟩;have hput:Fr (· = d) w9 (w9.putObj d (.deferred none)):=(Fr.refl (· = d) w9).putObj (.inl rfl) _;have hr10:(w9.putObj d (.deferred none)).rangeAt rb 0 [.int .i64 c.kind,.bool c.goal,.string c.id,.slice E1 c.attr.length e1,.slice E2 c.value.length e2,.bool c.acc,.slice E3 c.conds.length e3,.slice Ao os.length co]:=fun j v hv=>(hput.cell (p:=⟨rb,0+j,none⟩) (by have:=hF9.size;dsimp only;omega) (fun e=>hdr e.symm)).trans (hr9 j v hv);refine ⟨_,Z1c (t:=6) (T:=78) rfl _ _ rb [.int .i64 c.kind,.bool c.goal,.string c.id,.slice E1 c.attr.length e1,.slice E2 c.value.length e2,.bool c.acc,.slice E3 c.conds.length e3,.slice Ao os.length co] _ rfl hr10 Tryz.underlying78 rfl (by kernel_rfl),?_⟩;have hErb:E rb:=HE.out rb (.inl HO2.out.2.2.2.2);have hEd:E d:=HE.out d (.inl HO2.out.2.2.1);have hF10:Fr (fun k=>k=rb∨k=d) wr (w9.putObj d (.deferred none)):=(hF9.mono (fun k _ h=>.inl h)).trans (hput.mono (fun k _ h=>.inr h));have hdx:=HDX.out;have hwx:w.heap.size≤X.heap.size:=Zo2 HB4.out.size HXZ.out;have hw6:X.heap.size≤W6.heap.size:=Zo2 HZ5.out HZ6.out
      refine ⟨_,S',_,rfl,?_,HN.out.own (hF10.mono (fun k _ h=>h.elim (fun e=>e ▸ hErb) (fun e=>e ▸ hEd))),HS1.out,fun k hk=>.inl (HE.out k (.inl (HO2.out.1 k hk))),HFX.out.trans ((HFR.out.mono (fun k _ h hd=>h (HO2.out.1 k hd))).trans (hF10.mono (fun k _ h hd=>by
       have hkw:=HN0.out k hd;rcases h with h|h
       · have:=HBX.out;omega
       · have:=HDW.out;have:=HB4.out.size;omega)))⟩
      rw [←HFIN.out];(have hfk :∀k,(O2 k∧X.heap.size≤k)→¬(k=rb∨k=d):=fun k hk h=>by have:=hk.2;omega);have hcl :∀k,(O2 k∧X.heap.size≤k)→Plus E wr (w9.putObj d (.deferred none)) k∧w.heap.size≤k:=fun k hk=>⟨.inl (HE.out k (.inl hk.1)),by have:=hk.2;omega⟩;exact ⟨E1,e1,E2,e2,E3,e3,Ao,co,rfl,(HR1.out.fr hF10 hfk).weaken hcl,(HR2.out.fr hF10 hfk).weaken hcl,(HR3.out.fr hF10 hfk).weaken hcl,((RowR.of_rd (D:=fun j=>E j∧W6.heap.size≤j) (Z0d Z13.cells_length HOW.out) HAI.out).fr hF10 (fun k hk h=>by have:=hk.2;omega)).weaken (fun k hk=>⟨.inl hk.1,by have:=hk.2;omega⟩)⟩
 · intro D' d cd pre post X _ _ _ hIX _
   rw [hIx] at hIX;exact hIX.elim
theorem Z4d (l:List Z09):∀u∈l.flatMap Z09.cells,u.oneCell'=true:=by
 intro u hu;obtain ⟨b,_,hb⟩:=List.mem_flatMap.1 hu;simp only [Z09.cells,Zo5,Zo9,or_false] at hb;rcases hb with rfl|rfl|rfl|rfl|rfl|rfl|rfl<;>rfl
theorem Zbr {D:Nat→Prop}(ts:List Z1r) (a:Sym) (l:List Z13) (A Al:Option Addr) (c cl:Nat) (w:World) (h:RowR Z03 D w A c ts) (hl:RowR Z1n D w Al cl l) (hts:ts.length≤1000000) :
 Calls Tryz.prog 66 #[.slice A ts.length c,.agg #[.int .i64 a.kind,.string a.text,.int .i64 a.n],.slice Al l.length cl] w (Z4s 195 7 Z09.cells (Z1v ts a l) w):=by
 obtain ⟨j0,hj0,hy0,hy1,hy2⟩:=infp Z55;have HT:=hid h;have HL:=hid hl;have htc:=h.cap;clear h hl;go_enter Tryz.func66,Tryz.ntmps66;(go_upto_region 1 with fail);obtain ⟨w1,hw1⟩:∃w1,w1=(w.alloc (.cells #[.int .i64 a.kind,.string a.text,.int .i64 a.n] 38)):=⟨_,rfl⟩;rw [←hw1];have HB:=hid (show Below w.heap.size w w1 by rw [hw1];exact (by repeat (first|exact Znk _ _|refine Below.drew ?_|refine Below.al ?_ _|refine Below.sc ?_ _)));have Ka:=hid (show Blk w1 (w.heap.size) 38 #[.int .i64 a.kind,.string a.text,.int .i64 a.n] by rw [hw1];exact (Blk.new w 38 #[.int .i64 a.kind,.string a.text,.int .i64 a.n]));clear hw1;obtain ⟨a0,a1,a2⟩:=Ka.out.c3;have az:=Ka.out.lt;clear a0 a1 a2 az;obtain ⟨ab,hab⟩:∃b,b=w.heap.size:=⟨_,rfl⟩;rw [←hab] at Ka ⊢;clear hab;obtain ⟨va,hva⟩:∃v,v=Value.agg #[.int .i64 a.kind,.string a.text,.int .i64 a.n]:=⟨_,rfl⟩;rw [←hva];clear hva;have HO:=hid (OwnG.start (T:=195) (size:=7) (cells:=Z09.cells) HB.out);go_wp2_with fail
 go_loopw [7,15] (fun vo vi wr=>∃(i:Nat) (os:List Z09) (Ao:Option Addr) (co:Nat),vi = .int .i64 (i:Int)∧i≤ts.length∧vo = .slice Ao os.length co∧os=Z1v (ts.take i) a l∧OwnG 195 7 Z09.cells w os Ao co wr∧Blk wr ab 38 #[.int .i64 a.kind,.string a.text,.int .i64 a.n]) (fun vo vi wr=>ts.length - (intOf vi).toNat)
 case atStart=>exact ⟨0,[],none,0,rfl,Nat.zero_le _,rfl,rfl,HO.out,Ka.out⟩
 case round=>
  clear HO Ka;obtain ⟨i,os,Ao,co,rfl,hi,rfl,hos,ho,hka⟩:=hrel;have HO:=hid ho;have Ka:=hid hka;have HOS:=hid hos;(have hol:os.length≤i:=by rw [hos];refine Zo2 (Z3p _ _ _) ?_;rw [Zou];omega);clear ho hka hos;by_cases hlt:i<ts.length
  · skip
    obtain ⟨y,hy⟩:∃y,y=ts[i]:=⟨_,rfl⟩;have HTK:=hid (show Z1v (ts.take (i+1)) a l=os++Z2z a l y by rw [hy,HOS.out];exact Z81 hlt a l);obtain ⟨g,off,A1,c1,rfl,_,hg,q0,q1,q2,q3,q4,q5,-⟩:=Z2w (HT.out.new_ HO.out.bel) hlt;rw [←hy] at q0 q1 q2 q3 q4 q5;(have j1:(0:Int)≤(i:Int):=by omega);(have j2:(i:Int)<(ts.length:Int):=by omega);have v3:IntKind.i64.wrap ((i:Int)+1)=(i:Int)+1:=Znu _ (by omega);clear hy;(go_upto_region 5 with fail);obtain ⟨W1,hW1⟩:∃W,W=wr.alloc (.cells #[.int .i64 y.rel,.string y.var,.int .i64 y.sym.kind,.string y.sym.text,.int .i64 y.sym.n,.slice A1 y.list.length c1] 138):=⟨_,rfl⟩;obtain ⟨tb,htb⟩:∃b,b=wr.heap.size:=⟨_,rfl⟩;have Kt:=hid (show Blk W1 tb 138 #[.int .i64 y.rel,.string y.var,.int .i64 y.sym.kind,.string y.sym.text,.int .i64 y.sym.n,.slice A1 y.list.length c1] by rw [hW1,htb];exact Blk.new _ _ _);(have hbn:Below wr.heap.size wr W1:=by rw [hW1];exact (Znk _ _).alloc (Znl _) _);rw [←hW1,←htb];have HO:=hid (HO.out.new_ hbn);have Ka:=hid (Ka.out.new_ hbn);clear hW1 htb hbn q0 q1 q2 q3 q4 q5;have t0:=(Kt.out.cell 0).trans rfl;have tz:=Kt.out.lt;by_cases hno:y.rel≠2∧y.rel≠7
    · have n1:(y.rel != 2)=true:=by simp [hno.1]
      (have n2:(y.rel != 7)=true:=by simp [hno.2]);have HPN:=hid (show Z2z a l y = [] by unfold Z2z;rw [if_pos hno]);clear hno;(go_wp2_with fail);go_roundw
      case rel=>exact ⟨i+1,os,Ao,co,by go_num,by omega,rfl,by rw [HTK.out,HPN.out,Zof],HO.out,Ka.out⟩
      case measure=>simp [intOf]<;>omega
    have HNO:=hid hno;rcases (by omega:y.rel=2∨¬y.rel=2∧y.rel=7) with h2|⟨h2,h7⟩
    case' inl=>
     (have n1:(y.rel != 2)=false:=by simp [h2]);clear h2
    case' inr=>
     (have n1:(y.rel != 2)=true:=by simp [h2]);(have n2:(y.rel != 7)=false:=by simp [h7]);clear h2 h7
    all_goals
     clear hno;(go_upto_region 6 with fail);clear t0 n1;(try clear n2);have t0:=(Kt.out.cell 0).trans rfl;have t1:=(Kt.out.cell 1).trans rfl;have t2:=(Kt.out.cell 2).trans rfl;have t3:=(Kt.out.cell 3).trans rfl;have t4:=(Kt.out.cell 4).trans rfl;(go_upto_region 7 with fail);clear t0 t1 t2 t3 t4 tz;have HKA1:=hid Ka.out.lt;have HKT1:=hid Kt.out.lt;have HWB:=hid HO.out.bel.size;obtain ⟨W2,hW2⟩:∃W,W=W1.alloc (.cells #[.int .i64 y.sym.kind,.string y.sym.text,.int .i64 y.sym.n] 38):=⟨_,rfl⟩;obtain ⟨bb,hbb⟩:∃b,b=W1.heap.size:=⟨_,rfl⟩;have Kb:=hid (show Blk W2 bb 38 #[.int .i64 y.sym.kind,.string y.sym.text,.int .i64 y.sym.n] by rw [hW2,hbb];exact Blk.new _ _ _);(have hbn:Below W1.heap.size W1 W2:=by rw [hW2];exact (Znk _ _).alloc (Znl _) _);rw [←hW2,←hbb];have HO:=hid (HO.out.new_ hbn);have Ka:=hid (Ka.out.new_ hbn);have Kt:=hid (Kt.out.new_ hbn);have HXB:=hid (show w.heap.size≤bb by rw [hbb];exact HWB.out);have HAB:=hid (show ab≠bb by rw [hbb];have:=HKA1.out;omega);have HTB:=hid (show tb≠bb by rw [hbb];have:=HKT1.out;omega);clear hW2 hbb hbn;have t1:=(Kt.out.cell 1).trans rfl;have tz:=Kt.out.lt;by_cases hv:y.var.toList = []
     case' pos=>
      (have fa:(y.var.toList == [])=true:=by simp [hv]);(have fb:y.var.toList.isEmpty=true:=by simp [hv]);(have fc:decide (y.var.toList = [])=true:=by simp [hv]);have HSV:=hid (show symT l y=(y.sym,true) by unfold symT;rw [if_pos hv]);clear hv;(go_upto_region 11 with fail);clear fa fb fc t1 tz;obtain ⟨bs,hbs⟩:∃s,s=y.sym:=⟨_,rfl⟩;rw [←hbs] at HSV Kb;obtain ⟨V,hV⟩:∃W,W=W2:=⟨_,rfl⟩;rw [←hV] at HO Ka Kt Kb ⊢;clear hbs hV
     case' neg=>
      (have fa:(y.var.toList == [])=false:=by simp [hv]);(have fb:y.var.toList.isEmpty=false:=by simp [hv]);(have fc:decide (y.var.toList = [])=false:=by simp [hv]);obtain ⟨gs,gb,hgs⟩:∃x1 x2,(x1,x2)=getB l y.var:=⟨_,_,rfl⟩;have HSV:=hid (show symT l y=(gs,gb) by unfold symT;rw [if_neg hv,hgs]);have hC:=Zn4 l y.var W2 (HL.out.new_ HO.out.bel);rw [←hgs] at hC;have HC:=hid hC;clear hC hgs hv;(go_wp2_with fail);refine HC.out.mono ?_;rintro e W3 ⟨rfl,hb⟩;clear HC fa fb fc t1 tz;have HO:=hid (HO.out.new_ hb);have Ka:=hid (Ka.out.new_ hb);have Kt:=hid (Kt.out.new_ hb);have Kb:=hid (Kb.out.new_ hb);clear hb;(go_upto_region 9 with fail);obtain ⟨W4,hW4⟩:∃W,W=W3.alloc (.cells #[.int .i64 gs.kind,.string gs.text,.int .i64 gs.n] 38):=⟨_,rfl⟩;obtain ⟨xb,hxb⟩:∃b,b=W3.heap.size:=⟨_,rfl⟩;have Kx:=hid (show Blk W4 xb 38 #[.int .i64 gs.kind,.string gs.text,.int .i64 gs.n] by rw [hW4,hxb];exact Blk.new _ _ _);(have hbn:Below W3.heap.size W3 W4:=by rw [hW4];exact (Znk _ _).alloc (Znl _) _);rw [←hW4,←hxb];have HO:=hid (HO.out.new_ hbn);have Ka:=hid (Ka.out.new_ hbn);have Kt:=hid (Kt.out.new_ hbn);have Kb:=hid (Kb.out.new_ hbn);clear hW4 hxb hbn;cases gb
      · have HPN:=hid (show Z2z a l y = [] by unfold Z2z;rw [if_neg HNO.out,HSV.out,if_neg (by simp)])
        (go_wp2_with fail);go_roundw
        case rel=>exact ⟨i+1,os,Ao,co,by go_num,by omega,rfl,by rw [HTK.out,HPN.out,Zof],HO.out,Ka.out⟩
        case measure=>simp [intOf]<;>omega
      have x0:=(Kx.out.cell 0).trans rfl;have x1:=(Kx.out.cell 1).trans rfl;have x2:=(Kx.out.cell 2).trans rfl;have xz:=Kx.out.lt;have HTo:=hid (show W4.there bb 0 (#[.int .i64 gs.kind,.string gs.text,.int .i64 gs.n]:Array Value).size from Kb.out.there);have HKB:=Kb;(go_upto_region 11 with (with_reducible refine wpList_store_mid rfl 38 _ _ rfl bb 0 #[.int .i64 gs.kind,.string gs.text,.int .i64 gs.n] rfl rfl HTo.out (by kernel_rfl) (by kernel_rfl) ?_));clear HTo x0 x1 x2 xz Kx;obtain ⟨V,hV⟩:∃W,W=W4.setCells bb 0 [.int .i64 gs.kind,.string gs.text,.int .i64 gs.n]:=⟨_,rfl⟩;(have hbn:Below w.heap.size W4 V:=by rw [hV];exact Below.setCells' _ _ (Znk _ _) HXB.out);have Ka:=hid (show Blk V ab 38 #[.int .i64 a.kind,.string a.text,.int .i64 a.n] by rw [hV];exact Blk.farCells _ _ Ka.out HAB.out);have Kt:=hid (show Blk V tb 138 #[.int .i64 y.rel,.string y.var,.int .i64 y.sym.kind,.string y.sym.text,.int .i64 y.sym.n,.slice A1 y.list.length c1] by rw [hV];exact Blk.farCells _ _ Kt.out HTB.out);have Kb:=hid (show Blk V bb 38 #[.int .i64 gs.kind,.string gs.text,.int .i64 gs.n] by rw [hV];exact Blk.setAllG Kb.out rfl);have HO:=hid (show OwnG 195 7 Z09.cells w os Ao co V by rw [hV];exact ⟨Z3z HO.out.own HKB.out (by decide) _ _,HO.out.ain,HO.out.bel.trans (hV ▸ hbn)⟩);rw [←hV];clear hV hbn;obtain ⟨bs,hbs⟩:∃s,s=gs:=⟨_,rfl⟩;rw [←hbs] at HSV Kb;clear hbs HKB
     all_goals
      have a0:=(Ka.out.cell 0).trans rfl;have az:=Ka.out.lt;have b0:=(Kb.out.cell 0).trans rfl;have bz:=Kb.out.lt;by_cases hk:a.kind=1∨bs.kind=1
      case neg=>
       (have k1:(a.kind == 1)=false:=by simp;exact fun h=>hk (.inl h));(have k2:(bs.kind == 1)=false:=by simp;exact fun h=>hk (.inr h));have k3:decide (a.kind=1)=false:=Znm fun h=>hk (.inl h);have k4:decide (bs.kind=1)=false:=Znm fun h=>hk (.inr h);have HPN:=hid (show Z2z a l y = [] by unfold Z2z;rw [if_neg HNO.out,HSV.out,if_neg (fun h=>hk h.2)]);clear hk;(go_wp2_with fail);go_roundw
       case rel=>exact ⟨i+1,os,Ao,co,by go_num,by omega,rfl,by rw [HTK.out,HPN.out,Zof],HO.out,Ka.out⟩
       case measure=>simp [intOf]<;>omega
      have HPN:=hid (show Z2z a l y = [⟨a,bs,y.rel⟩] by unfold Z2z;rw [if_neg HNO.out,HSV.out,if_pos ⟨rfl,hk⟩]);rcases (by omega:a.kind=1∨¬a.kind=1∧bs.kind=1) with h2|⟨h2,h7⟩
      case' inl=>
       (have k1:(a.kind == 1)=true:=by simp [h2]);have k3:decide (a.kind=1)=true:=Zno h2;clear h2
      case' inr=>
       (have k1:(a.kind == 1)=false:=by simp [h2]);have k3:decide (a.kind=1)=false:=Znm h2;(have k2:(bs.kind == 1)=true:=by simp [h7]);have k4:decide (bs.kind=1)=true:=Zno h7;clear h2 h7
      all_goals
       clear hk;(go_upto_region 12 with fail);clear k1 k3 a0 az b0 bz;(try clear k2 k4);have a0:=(Ka.out.cell 0).trans rfl;have a1:=(Ka.out.cell 1).trans rfl;have a2:=(Ka.out.cell 2).trans rfl;have az:=Ka.out.lt;have b0:=(Kb.out.cell 0).trans rfl;have b1:=(Kb.out.cell 1).trans rfl;have b2:=(Kb.out.cell 2).trans rfl;have bz:=Kb.out.lt;have t0:=(Kt.out.cell 0).trans rfl;have tz:=Kt.out.lt;obtain ⟨y2,hy2⟩:∃y2:Z09,y2=⟨a,bs,y.rel⟩:=⟨_,rfl⟩;have HC2:=hid (show [y2].flatMap Z09.cells = [.int .i64 a.kind,.string a.text,.int .i64 a.n,.int .i64 bs.kind,.string bs.text,.int .i64 bs.n,.int .i64 y.rel] by rw [hy2];rfl);rw [←hy2] at HPN;obtain ⟨W8,hW8⟩:∃W,W=V.alloc (.cells #[.int .i64 a.kind,.string a.text,.int .i64 a.n,.int .i64 bs.kind,.string bs.text,.int .i64 bs.n,.int .i64 y.rel] 195):=⟨_,rfl⟩;have HW8:=hid hW8;(have hb8:Below V.heap.size V W8:=by rw [hW8];exact (Znk _ _).alloc (Znl _) _);have HO8:=hid (HO.out.new_ hb8);have Ka8:=hid (Ka.out.new_ hb8);have HN8:=hid (show 0<1→∃ad,(some (⟨V.heap.size,0,none⟩:Addr))=some ad∧∀j u,([y2].flatMap Z09.cells)[j]? = some u→W8.cell? (ad.add j)=some u from fun _=>⟨_,rfl,by rw [HC2.out,hW8];exact Zo7 (heap_alloc_new _ _)⟩);clear hy2 hW8 hb8;(go_wp2_with (at_builtin;rw [←HW8.out];refine Z00 W8 rfl (.tmp 50) (.tmp 56) 70 rfl 195 j0 _ 7 72 Tryz.underlying70 hj0 hy0 hy1 hy2 rfl (by omega) (.slice Ao os.length co) os.length (os.flatMap Z09.cells) rfl HO8.out.own (some ⟨V.heap.size,0,none⟩) 1 1 ([y2].flatMap Z09.cells) rfl rfl HN8.out (Z4d _) (by unfold maxLen;omega) (by omega) ?_;intro v4 w9 hown hgr hnil hat;obtain ⟨mn,A9,c9,hmn,rfl,hO9⟩:=HO8.out.put hown hgr hat;have HMN:=hid hmn;have Ka9:=hid (Ka8.out.grown hgr (Z02 HO8.out.own Ka8.out (by decide)));have HO9:=hid hO9;clear hown hgr hnil hat hmn hO9));go_roundw
       case rel=>exact ⟨i+1,mn,A9,c9,by go_num,by omega,rfl,by rw [HMN.out,HTK.out,HPN.out],HO9.out,Ka9.out⟩
       case measure=>simp [intOf]<;>omega
  · skip
    (obtain rfl:i=ts.length:=by omega);rw [Zo6] at HOS;(go_wp2_with fail);go_ret;rw [←HOS.out];exact HO.out.fresh
theorem Z69 {W:World}{e1 e2:TypeId}{z1 z2 n1 n2 b1 b2:Nat}{v1 v2:Value}{x1 x2:List Value}(h1:W.ownsRow b1 e1 z1 v1 n1 x1) (h2:W.ownsRow b2 e2 z2 v2 n2 x2) (hne:e1≠e2){g:Nat}(hg:v1.ownBlock=some g):v2.ownBlock≠some g:=by
 rcases h1.2 with ⟨rfl,_⟩|⟨k,cap,cur,rfl,_,hk,_⟩
 · simp [Value.ownBlock] at hg
 · have e:k=g:=by simpa [Value.ownBlock] using hg
   subst e;exact Z02 h2 (t:=e1) (cs:=cur) hk (Ne.symm hne)
section
variable {n:Nat}{num level:Int}{Ae:Option Addr}{ne ce:Nat}{An:Option Addr}{nn cn gb nb:Nat}{Wb:World}{E E':Nat→Prop}{S S':Nat→Option (List Z0p)}{L L':List Z0p}{C:Nat→Prop}{hs:List Z4y}{as_:List Z09}{Ah:Option Addr}{ch:Nat}{Aa:Option Addr}{ca:Nat}{X Y:World}
theorem Z80 {A:Option Addr}{D M:Nat→Prop}{m c:Nat}(h:AIn A D) (hd :∀j,D j→¬M j):∀g,(Value.slice A m c).ownBlock=some g→¬M g:=fun g hg=>by
 rcases A with _|a
 · simp [Value.ownBlock] at hg
 · have e:a.block=g:=by simpa [Value.ownBlock] using hg
   exact e ▸ hd _ (h a rfl)
end
end
section
open Go.RowKit Go.Shelf
attribute [local go_sem] Oper.semAt_some
structure MXU (n:Nat) (num level:Int) (Ae:Option Addr) (ne ce:Nat) (An:Option Addr) (nn cn gb nb:Nat) (Wb:World) (E:Nat→Prop) (S:Nat→Option (List Z0p)) (L:List Z0p) (C:Nat→Prop) (hs:List Z4y) (as_:List Z09) (Ah:Option Addr) (ch:Nat) (Aa:Option Addr) (ca:Nat) (X:World):Prop where
 nm:NM E X S
 kn:S nb=some L
 ho:OwnC (Z48 n) 78 C X (.slice Ah hs.length ch) hs
 ha:AIn Ah (fun j=>E j∧Wb.heap.size≤j)
 ao:X.ownsRow 0 195 7 (.slice Aa as_.length ca) as_.length (as_.flatMap Z09.cells)
 aa:AIn Aa (fun j=>(E j∧Wb.heap.size≤j)∧¬C j)
 cc :∀j,C j→E j∧Wb.heap.size≤j
 bx:Blk X gb 72 #[.int .i64 num,.int .i64 level,.slice Ae ne ce,.slice Ah hs.length ch,.slice Aa as_.length ca,.slice An nn cn]
 ew :∀j,j<Wb.heap.size→E j
 fr:Fr (fun k=>¬(k<Wb.heap.size∧k≠gb)) Wb X
 gl:gb<Wb.heap.size
section
variable {n:Nat}{num level:Int}{Ae:Option Addr}{ne ce:Nat}{An:Option Addr}{nn cn gb nb:Nat}{Wb:World}{E E':Nat→Prop}{S S':Nat→Option (List Z0p)}{L L':List Z0p}{C:Nat→Prop}{hs:List Z4y}{as_:List Z09}{Ah:Option Addr}{ch:Nat}{Aa:Option Addr}{ca:Nat}{X Y:World}
theorem MXU.step (h:MXU n num level Ae ne ce An nn cn gb nb Wb E S L C hs as_ Ah ch Aa ca X) (hn:NM E' Y S') (hk:S' nb=some L') (hE :∀k,E k→E' k) (hF:Fr (fun k=>¬E k) X Y):MXU n num level Ae ne ce An nn cn gb nb Wb E' S' L' C hs as_ Ah ch Aa ca Y:=
 ⟨hn,hk,h.ho.fr hF (fun k hk hn=>hn (h.cc k hk).1) (Z80 h.ha (fun _ hj hn=>hn hj.1)),h.ha.mono (fun j hj=>⟨hE j hj.1,hj.2⟩),Z15 h.ao hF (Z80 h.aa (fun _ hj hn=>hn hj.1.1)),h.aa.mono (fun j hj=>⟨⟨hE j hj.1.1,hj.1.2⟩,hj.2⟩),fun j hj=>⟨hE j (h.cc j hj).1,(h.cc j hj).2⟩,h.bx.fr hF (fun hn=>hn (h.ew gb h.gl)),fun j hj=>hE j (h.ew j hj),h.fr.trans (hF.mono (fun k _ hk hn=>hk (h.ew k hn.1))),h.gl⟩
theorem MXU.new_ (h:MXU n num level Ae ne ce An nn cn gb nb Wb E S L C hs as_ Ah ch Aa ca X) (hb:Below X.heap.size X Y):MXU n num level Ae ne ce An nn cn gb nb Wb (Plus E X Y) S L C hs as_ Ah ch Aa ca Y:=
 h.step (h.nm.new_ hb) h.kn (fun _ hk=>.inl hk) (Fr.of_new hb)
theorem MXU.set_ (h:MXU n num level Ae ne ce An nn cn gb nb Wb E S L C hs as_ Ah ch Aa ca X) (hn:NM E Y S') (hk:S' nb=some L') (hF:Fr (fun k=>¬E k) X Y):MXU n num level Ae ne ce An nn cn gb nb Wb E S' L' C hs as_ Ah ch Aa ca Y:=
 h.step hn hk (fun _ hk=>hk) hF
theorem MXU.more (h:MXU n num level Ae ne ce An nn cn gb nb Wb E S L C hs as_ Ah ch Aa ca X) (B:Nat) (hB:Wb.heap.size≤B) (hh:AIn Ah (· < B)) (ha:AIn Aa (· < B)):MXU n num level Ae ne ce An nn cn gb nb Wb E S L (fun j=>C j∨(E j∧B≤j)) hs as_ Ah ch Aa ca X:=by
 refine ⟨h.nm,h.kn,h.ho.keep (Znl _) (fun k hk _=>⟨.inl hk,rfl⟩) (fun k hk=>⟨rfl,fun hc=>?_⟩),h.ha,h.ao,fun a e=>⟨(h.aa a e).1,fun hc=>?_⟩,fun j hj=>?_,h.bx,h.ew,h.fr,h.gl⟩
 · rcases hc with hc|hc
   · exact h.ho.off k hk hc
   · have:=Z80 (m:=hs.length) (c:=ch) (D:=(· < B)) (M:=fun j=>B≤j) hh (fun j hj h2=>by have hj:j<B:=hj;omega) k hk
     exact this hc.2
 · rcases hc with hc|hc
   · exact (h.aa a e).2 hc
   · have h2:a.block<B:=ha a e
     have:=hc.2;omega
 · rcases hj with hj|hj
   · exact h.cc j hj
   · exact ⟨hj.1,by have:=hj.2;omega⟩
theorem MXU.low (h:MXU n num level Ae ne ce An nn cn gb nb Wb E S L C hs as_ Ah ch Aa ca X):∀k,C k→k<X.heap.size:=fun k hk=>h.nm.low k (h.cc k hk).1
theorem MXU.lows (h:MXU n num level Ae ne ce An nn cn gb nb Wb E S L C hs as_ Ah ch Aa ca X):AIn Ah (· < X.heap.size)∧AIn Aa (· < X.heap.size):=⟨h.ha.mono (fun j hj=>h.nm.low j hj.1),h.aa.mono (fun j hj=>h.nm.low j hj.1.1)⟩
theorem MXU.pushH (h:MXU n num level Ae ne ce An nn cn gb nb Wb E S L C hs as_ Ah ch Aa ca X){y:Z4y}{v:Value}{X1:World}(ha:Z6u (Z48 n) 78 C X (.slice Ah hs.length ch) (hs ++ [y]) v X1) :
 ∃hn A9 c9,hn=hs ++ [y]∧v = .slice A9 hn.length c9∧Blk X1 gb 72 #[.int .i64 num,.int .i64 level,.slice Ae ne ce,.slice Ah hs.length ch,.slice Aa as_.length ca,.slice An nn cn]∧MXU n num level Ae ne ce An nn cn gb nb Wb (Plus E X (X1.setCell ⟨gb,3,none⟩ v)) S L C hn as_ A9 c9 Aa ca (X1.setCell ⟨gb,3,none⟩ v):=by
 obtain ⟨h1,h2,h3⟩:=ha;obtain ⟨css,hx,_,_⟩:=h.ho;have hB1:Blk X1 gb 72 #[.int .i64 num,.int .i64 level,.slice Ae ne ce,.slice Ah hs.length ch,.slice Aa as_.length ca,.slice An nn cn]:=h.bx.grown h2 (Z02 hx h.bx (by decide))
 have hne :∀k,(Value.slice Ah hs.length ch).ownBlock=some k→E k∧Wb.heap.size≤k:=fun k hk=>by
  rcases Ah with _|a
  · simp [Value.ownBlock] at hk
  · have e:a.block=k:=by simpa [Value.ownBlock] using hk
    exact e ▸ h.ha a rfl
 have hF1:Fr (fun j=>E j∧(Value.slice Ah hs.length ch).ownBlock=some j) X X1:=(Fr.refl _ X).grown h2 (fun k hk=>.inl ⟨(hne k hk).1,hk⟩);obtain ⟨A9,c9,rfl,_,_,hA⟩:=h1.form;have hF2:Fr (fun j=>j=gb∨(E j∧(Value.slice Ah hs.length ch).ownBlock=some j)) X (X1.setCell ⟨gb,3,none⟩ (.slice A9 (hs ++ [y]).length c9)):=(hF1.mono (fun k _ hk=>.inr hk)).setCell (p:=⟨gb,3,none⟩) (.inl (.inl rfl)) _;have hgE:=h.ew gb h.gl;have hFE:Fr E X (X1.setCell ⟨gb,3,none⟩ (.slice A9 (hs ++ [y]).length c9)):=hF2.mono (fun k _ hk=>hk.elim (fun e=>e ▸ hgE) (fun e=>e.1));have hCg :¬C gb:=fun hc=>by have:=(h.cc gb hc).2;have:=h.gl;omega
 have hown :∀k,(Value.slice A9 (hs ++ [y]).length c9).ownBlock=some k→k≠gb:=fun k hk e=>by
  obtain ⟨css2,hx2,_,_⟩:=h1;exact Z02 hx2 hB1 (by decide) (e ▸ hk)
 have hlt:=h1.lt;refine ⟨_,A9,c9,rfl,rfl,hB1,h.nm.own hFE,h.kn,?_,fun a e=>?_,?_,h.aa.mono (fun j hj=>⟨⟨.inl hj.1.1,hj.1.2⟩,hj.2⟩),fun j hj=>⟨.inl (h.cc j hj).1,(h.cc j hj).2⟩,by simpa using hB1.set_ 3 (.slice A9 (hs ++ [y]).length c9),fun j hj=>.inl (h.ew j hj),h.fr.trans (hF2.mono (fun k _ hk hn=>?_)),h.gl⟩
 · exact h1.fr ((Fr.refl (fun j=>j=gb) X1).setCell (p:=⟨gb,3,none⟩) (.inl rfl) _) (fun k hk e=>hCg (e ▸ hk)) hown
 · subst e
   have hl:a.block<X1.heap.size:=hlt _ rfl;rcases h3 with h3|h3
   · have:=hne a.block (by rw [←h3];rfl)
     exact ⟨.inl this.1,this.2⟩
   · have e2:a.block=X.heap.size:=by simpa [Value.ownBlock] using h3
     exact ⟨.inr ⟨by omega,by simpa using hl⟩,by have:=h.fr.size;omega⟩
 · refine Z15 (Z15 h.ao hF1 (fun g hg hh=>?_)) ((Fr.refl (fun j=>j=gb) X1).setCell (p:=⟨gb,3,none⟩) (.inl rfl) _) (Z80 h.aa (fun j hj e=>by have:=hj.1.2;have:=h.gl;omega))
   exact Z69 hx h.ao (by decide) hh.2 hg
 · rcases hk with hk|hk
   · exact hn.2 hk
   · have:=(hne k hk.2).2
     have:=hn.1;omega
theorem MXU.pushA (h:MXU n num level Ae ne ce An nn cn gb nb Wb E S L C hs as_ Ah ch Aa ca X){ys:List Z09}{v:Value}{X1:World}(hown:X1.ownsRow 0 195 7 v (as_.length+ys.length) (as_.flatMap Z09.cells++ys.flatMap Z09.cells)) (hg:X.grownBy X1 (Value.slice Aa as_.length ca).ownBlock) (hat:v.ownBlock=(Value.slice Aa as_.length ca).ownBlock∨v.ownBlock=some X.heap.size) :
 ∃an A9 c9,an=as_++ys∧v = .slice A9 an.length c9∧Blk X1 gb 72 #[.int .i64 num,.int .i64 level,.slice Ae ne ce,.slice Ah hs.length ch,.slice Aa as_.length ca,.slice An nn cn]∧MXU n num level Ae ne ce An nn cn gb nb Wb (Plus E X (X1.setCell ⟨gb,4,none⟩ v)) S L C hs an Ah ch A9 c9 (X1.setCell ⟨gb,4,none⟩ v):=by
 have hB1:Blk X1 gb 72 #[.int .i64 num,.int .i64 level,.slice Ae ne ce,.slice Ah hs.length ch,.slice Aa as_.length ca,.slice An nn cn]:=h.bx.grown hg (Z02 h.ao h.bx (by decide));obtain ⟨A9,c9,rfl,hF9,hA9,hO9⟩:=Z33 (E:=fun j=>∃a,Aa=some a∧a.block=j) (fun a ha=>⟨a,ha,rfl⟩) hown hg hat;rw [←Zny] at hO9;(have hl:(as_++ys).length=as_.length+ys.length:=by simp);rw [←hl] at hO9 ⊢;have hF2:Fr (fun j=>j=gb∨∃a,Aa=some a∧a.block=j) X (X1.setCell ⟨gb,4,none⟩ (.slice A9 (as_++ys).length c9)):=(hF9.mono (fun k _ hk=>.inr hk)).setCell (p:=⟨gb,4,none⟩) (.inl (.inl rfl)) _;have hgE:=h.ew gb h.gl;have hFE:Fr E X (X1.setCell ⟨gb,4,none⟩ (.slice A9 (as_++ys).length c9)):=hF2.mono (fun k _ hk=>hk.elim (fun e=>e ▸ hgE) (fun ⟨a,ha,e⟩=>e ▸ (h.aa a ha).1.1));have hng :∀k,(∃a,Aa=some a∧a.block=k)→¬C k:=fun k ⟨a,ha,e⟩=>e ▸ (h.aa a ha).2;(have hCg :¬C gb:=fun hc=>by have:=(h.cc gb hc).2;have:=h.gl;omega);obtain ⟨css,hx,_,_⟩:=h.ho;have hlo:=Z4p hO9;refine ⟨_,A9,c9,rfl,rfl,hB1,h.nm.own hFE,h.kn,?_,h.ha.mono (fun j hj=>⟨.inl hj.1,hj.2⟩),?_,fun a e=>?_,fun j hj=>⟨.inl (h.cc j hj).1,(h.cc j hj).2⟩,by simpa using hB1.set_ 4 (.slice A9 (as_++ys).length c9),fun j hj=>.inl (h.ew j hj),h.fr.trans (hF2.mono (fun k _ hk hn=>?_)),h.gl⟩
 · refine h.ho.fr hF2 (fun k hk e=>e.elim (fun e=>hCg (e ▸ hk)) (fun e=>hng k e hk)) (fun k hk e=>?_)
   rcases e with e|⟨a,ha,e⟩
   · exact Z02 hx h.bx (by decide) (e ▸ hk)
   · exact Z69 hx h.ao (by decide) hk (by rw [ha];simp [Value.ownBlock,e])
 · exact ownsRow_setCell_other (a:=⟨gb,4,none⟩) hO9 (Z02 hO9 hB1 (by decide)) _
 · have hl2:a.block<X1.heap.size:=hlo a e
   rcases hA9 a e with ⟨b,hb,e2⟩|⟨h2,_⟩
   · rw [←e2]
     exact ⟨⟨.inl (h.aa b hb).1.1,(h.aa b hb).1.2⟩,(h.aa b hb).2⟩
   · exact ⟨⟨.inr ⟨h2,by simpa using hl2⟩,by have:=h.fr.size;omega⟩,fun hc=>by have:=h.low a.block hc;omega⟩
 · rcases hk with hk|⟨a,ha,e⟩
   · exact hn.2 hk
   · have:=(h.aa a ha).1.2
     have:=hn.1;omega
end
end
section
open Go.RowKit
abbrev Z2p:=Z25 (α:=Name) 270 216 1 Name.cells
theorem Zb8 (k0 : ByteArray) (w : World) : (nilAhead 442 216 (.string k0) "Compare").run Tryz.prog w = .ok (some false) w := by kernel_rfl
theorem Zdo (k0 : ByteArray) (w : World) : (method 442 216 (.string k0) "Compare").run Tryz.prog w = .ok (265, .string k0) w := by kernel_rfl
def Zbn (l:List Name) (x:Name) (w:World) (e:Ending) (w':World):Prop:=
 e = .returned (.tuple #[.int .i64 (rank Z0o l x),.bool (has Z0o l x)])∧Below w.heap.size w w'
theorem Z92 (b c:Nat) (sn:Bool) (A:Option Addr) (l:List Name) (x:Name) (w:World) (hS:Z2p w b sn A c l) (hs:Srt Z0o l) (hl:(l.length:Int)≤4611686018427387904) :
 Calls Tryz.prog 199 #[.pointer (some ⟨b,0,none⟩),.string x] w (Zbn l x w):=by
 have hrd:=hS.rd Name.cells_length;have h0:=hS.cell0;have hb:=hS.lt;clear hS;have HS:=hid hs;have HRD:=hid hrd;clear hs hrd;go_enter Tryz.func199,Tryz.ntmps199;(go_wp2_with fail);go_quiet (fail);(go_wp2_with fail);obtain ⟨W0,hW0⟩:∃W0,W0=(w.drewN nq):=⟨_,rfl⟩;(have hB0:Below w.heap.size w W0:=by rw [hW0];exact Below.drewN' (Znk _ _) _);rw [←hW0];clear hW0;have HB0:=hid hB0;clear hB0
 go_loopw [6,7] (fun lo hi wr=>∃i j:Nat,lo = .int .i64 i∧hi = .int .i64 j∧i≤j∧j≤l.length∧(∀k,(h:k<l.length)→k<i→Z0o l[k] x<0)∧(∀k,(h:k<l.length)→j≤k→0<Z0o l[k] x)∧Below W0.heap.size W0 wr) (fun lo hi wr=>(intOf hi).toNat - (intOf lo).toNat)
 case atStart=>exact ⟨0,l.length,rfl,rfl,Nat.zero_le _,Znl _,fun k _ h=>absurd h (by omega),fun k h h'=>absurd h (by omega),Znk _ _⟩
 case round=>
  obtain ⟨i,j,rfl,rfl,hij,hj,hlo,hhi,hB⟩:=hrel;have HLO:=hid hlo;have HHI:=hid hhi;clear hlo hhi;have hsz:w.heap.size≤W0.heap.size:=HB0.out.size;by_cases hlt:i<j
  · obtain ⟨m,hm⟩:∃m,m=i+(j - i) / 2:=⟨_,rfl⟩
    (have hml:m<l.length:=by omega);(have hmj:m<j:=by omega);(have hmi:i≤m:=by omega);(have e1:((i:Int)+((j:Int) - (i:Int)) / 2)=(m:Int):=by omega);have E1:=hid e1;clear e1 hm;obtain ⟨g,off,rfl,hgs,hcell⟩:=HRD.out.at_ hml;have low :∀(p:Addr),p.block<w.heap.size→wr.cell? p=w.cell? p:=fun p hp=>(hB.cell (p:=p) (by omega)).trans (HB0.out.cell (p:=p) hp);have r0:=(low ⟨b,0,none⟩ hb).trans h0;have q0:wr.cell? ⟨g,off+m,none⟩=some (.string l[m]):=(low ⟨g,off+m,none⟩ hgs).trans (by simpa using hcell 0 _ rfl);(have b1:(0:Int)≤(m:Int):=by omega);(have b2:(m:Int)<(l.length:Int):=by omega);have hsw:W0.heap.size≤wr.heap.size:=hB.size;have N:=Zb8;have M:=Zdo;clear low hcell h0;have HB:=hid hB;clear hB;obtain ⟨y,hy⟩:∃y,y=l[m]:=⟨_,rfl⟩;rw [←hy] at q0;have HY:=hid hy;clear hy;(have hbw:b<wr.heap.size:=by omega);(have hgw:g<wr.heap.size:=by omega);(go_upto_region 4 with (fail));rw [E1.out];(go_wp2_with fail);refine (Zjj y x _).mono ?_;rintro e w1 ⟨rfl,hb1⟩;have HB1:Below W0.heap.size W0 w1:=HB.out.trans (hb1.mono hsw);clear r0 q0 N M;have HB1':=hid HB1;clear HB1;by_cases hc:Z0o y x=0
    · have HC:=hid hc
      (have t1:(Z0o y x == 0)=true:=by simp [hc]);clear hc;(go_wp2_with fail);go_ret2;have e:=HC.out;rw [HY.out] at e;refine ⟨?_,HB0.out.trans (HB1'.out.mono (by omega))⟩;rw [Z5b Z3u HS.out hml e,(Z5t Z3u HS.out hml e).2.2.1];rfl
    · have t1:(Z0o y x == 0)=false:=by simp [hc]
      by_cases hc2:Z0o y x<0
      · have HC:=hid hc2
        (have t2:decide (Z0o y x<0)=true:=by simpa using hc2);clear hc hc2;(go_wp2_with fail);go_roundw
        case rel=>
         refine ⟨m+1,j,by go_num,rfl,by omega,hj,fun k h1 h2=>?_,HHI.out,HB1'.out⟩;have e:=HC.out;rw [HY.out] at e;rcases Nat.lt_or_ge k m with h3|h3
         · exact Z3u.lt_of_lt_of_le (HS.out.lt h3 hml) (by omega)
         · obtain rfl:k=m:=by omega
           exact e
        case measure=>simp [intOf];omega
      · have t2:decide (Z0o y x<0)=false:=by simpa using hc2
        (have hc3:0<Z0o y x:=by omega);have HC:=hid hc3;clear hc hc2 hc3;(go_wp2_with fail);go_roundw
        case rel=>
         refine ⟨i,m,rfl,rfl,by omega,by omega,HLO.out,fun k h1 h2=>?_,HB1'.out⟩;have e:=HC.out;rw [HY.out] at e;rcases Nat.lt_or_ge m k with h3|h3
         · exact (Z3u.symm _ _).1 (Z3u.lt_trans ((Z3u.symm _ _).2 e) (HS.out.lt h3 h1))
         · obtain rfl:k=m:=by omega
           exact e
        case measure=>simp [intOf];omega
  · obtain rfl:i=j:=by omega
    have HB:=hid hB;clear hB;(go_wp2_with fail);go_ret2;refine ⟨?_,HB0.out.trans (HB.out.mono (by omega))⟩;rw [Z5a hj HLO.out HHI.out,(Z6m HLO.out HHI.out).2.2];rfl
theorem Zc9:(Tryz.prog.info? 216).map (fun i=>(i.zero,i.size,i.bytes))=some (some (.string ⟨#[]⟩),1,16):=by kernel_rfl
theorem Name.one (x:Name):∀u∈Name.cells x,u.oneCell'=true:=by intro u hu;simp [Name.cells] at hu;rcases hu with rfl<;>rfl
theorem Name.oneAll (l:List Name):∀u∈l.flatMap Name.cells,u.oneCell'=true:=by intro u hu;obtain ⟨x,_,hx⟩:=List.mem_flatMap.1 hu;exact Name.one x u hx
def Z6j (w:World) (b:Nat) (sn:Bool) (A:Option Addr) (l:List Name) (e:Ending) (w':World):Prop:=
 e = .returned (.tuple #[])∧∃A' c',Z2p w' b false A' c' l∧Fr (· = b) w w'∧Z32 w sn A false A'
theorem Ze0 (b c:Nat) (A:Option Addr) (l:List Name) (w:World) (hS:Z2p w b false A c l) :
 Calls Tryz.prog 200 #[.pointer (some ⟨b,0,none⟩)] w (Z6j w b false A l):=by
 have h1:=hS.cell1;have HS:=hid hS;clear hS;go_enter Tryz.func200,Tryz.ntmps200;go_wp2;go_end0;exact ⟨rfl,A,c,HS.out,Fr.refl _ _,.inl ⟨rfl,rfl⟩⟩
theorem Zcp (b c:Nat) (A:Option Addr) (l:List Name) (w:World) (hS:Z2p w b true A c l) (hl:(l.length:Int)≤1000000000) :
 Calls Tryz.prog 200 #[.pointer (some ⟨b,0,none⟩)] w (Z6j w b true A l):=by
 obtain ⟨i0,hi,hz0,hz1,hz2⟩:=info_parts Zc9;have h0:=hS.cell0;have h1:=hS.cell1;have hb:=hS.lt;have f0:=hS.blk.frozen 0;have f1:=hS.blk.frozen 1;have hrd:=hS.rd Name.cells_length;have HB:=hid hS.blk;have HRD:=hid hrd;clear hS hrd;have e1:IntKind.i64.wrap ((l.length:Int)+1)=(l.length:Int)+1:=Znu _ (by omega)
 have hmk :∀W:World,(Instr.makeSlice 268 (.int .i64 0) (.int .i64 ((l.length:Int)+1))).run Tryz.prog W = .ok (.slice (some ⟨W.heap.size,0,none⟩) 0 (l.length+1)) (W.alloc (.cells (madeCells (Value.cells (.string ⟨#[]⟩)) ((l.length+1))) 216)):=fun W=>by
  have h:=run_make (P:=Tryz.prog) W 268 216 i0 _ Tryz.underlying268 hi hz0 .i64 .i64 0 ((l.length:Int)+1) (by omega) (by omega) (by rw [hz2];omega) (by omega);rw [hz1] at h;simpa [show ((l.length:Int)+1).toNat=l.length+1 by omega] using h
 go_enter Tryz.func200,Tryz.ntmps200;(go_wp2_with fail);refine Z0c (fun w9=>Below w.heap.size w w9) [(0,0),(1,0),(2,0),(3,0),(4,1),(5,0),(6,0),(8,0),(9,0),(10,0),(11,1),(7,2),(12,2),(13,0),(14,0),(15,2)] (by kernel_rfl) (by kernel_rfl) (fun KK hKK=>?_);simp only [Z0w,Znz,Znt,Znv,Znr,Zns,Zo1];(repeat ((first|(refine Z0m ?_ (Or.inl ⟨by rfl,fun w9=>?_⟩) ?_;rotate_left 1;go_simp;with_reducible rfl)|(refine Z0k ?_ (((Znk _ _).drew)) (Or.inl ⟨by rfl,fun w9 hw9=>?_⟩) ?_;rotate_left 1;obtain ⟨hc9,hf9⟩:=Z1e hw9;go_simp;with_reducible rfl)|refine Z0m undef (Or.inr ⟨by rfl,rfl⟩) ?_|refine Z0k undef (((Znk _ _).drew)) (Or.inr ⟨by rfl,rfl⟩) ?_);go_frame));refine Z2j (fun K9 hK9=>?_);go_simp;refine hK9 _ _ (((Znk _ _).drew).alloc (Znl _) _) ?_;clear hK9 K9;refine Z1y (by kernel_rfl) (fun K9 hK9=>?_)
 refine Z0f _ (by rfl) _ _ _ (by rfl) 216 i0 _ 1 16 Tryz.underlying268 hi hz0 hz1 hz2 rfl (by omega) _ 0 [] (by rfl) (World.ownsRow_made _ _ _ (Nat.zero_le _) (by unfold maxLen;omega) (by simp [madeCells])) A l.length c (l.flatMap Name.cells) (by rfl) (Z08 Name.cells_length l)
  ((HRD.out.drew.alloc _).news Name.cells_length (by omega)) (Name.oneAll l) (by unfold maxLen;omega) (by omega) ?_
 intro v2 w2 hown hgr hnil hat;refine hK9 _ _ ?_;clear hK9 K9;rw [Zoa,Zo3] at hown;obtain ⟨A',c',rfl,_,_,hz⟩:=Z0v hown;have HB1:=(HB.out.drew.alloc (.cells (madeCells (Value.cells (.string ⟨#[]⟩)) ((l.length+1))) 216)).grown hgr (by simp [Value.ownBlock];omega);have c0:=(HB1.cell 0).trans rfl;have c1:=(HB1.cell 1).trans rfl;have z0:=HB1.frozen 0;have z1:=HB1.frozen 1;have HB2:=hid HB1;clear HB1;(repeat ((first|(refine Z0m ?_ (Or.inl ⟨by rfl,fun w9=>?_⟩) ?_;rotate_left 1;go_simp;with_reducible rfl)|(refine Z0k ?_ (((Znk _ _).drew).alloc (Znl _) _) (Or.inl ⟨by rfl,fun w9 hw9=>?_⟩) ?_;rotate_left 1;obtain ⟨hc9,hf9⟩:=Z1e hw9;go_simp;with_reducible rfl)|refine Z0m undef (Or.inr ⟨by rfl,rfl⟩) ?_|refine Z0k undef (((Znk _ _).drew).alloc (Znl _) _) (Or.inr ⟨by rfl,rfl⟩) ?_);go_frame));refine Z1y (by kernel_rfl) (fun K9 hK9=>?_);go_simp;refine hK9 _ _ ?_;clear hK9 K9;refine Z16 ?_;simp only [Z04];refine hKK _ _ ?_;clear hKK KK;go_wp2;go_end0
 have hb2:(Value.slice A' l.length c').ownBlock=some w.heap.size∨(Value.slice A' l.length c').ownBlock=some (w.heap.size+1):=by
  rcases hat with h|h
  · left;rw [h];rfl
  · right;rw [h];simp
 have hA :∃g,w.heap.size≤g∧A'=some ⟨g,0,none⟩:=by
  rcases A' with _|a
  · exfalso;simp [Value.ownBlock] at hb2
  · obtain ⟨g,rfl⟩:=hz a rfl
    refine ⟨g,?_,rfl⟩;simp [Value.ownBlock] at hb2;omega
 obtain ⟨g,hg,rfl⟩:=hA;have HB1:=HB2.out;have HF:Fr (· = b) w w2:=((Fr.refl (· = b) w).drew.alloc _).grown hgr (fun k e=>by simp [Value.ownBlock] at e;right;omega);refine ⟨rfl,some ⟨g,0,none⟩,c',⟨(HB1.set_ 0 _).set_ 1 _,?_⟩,(HF.setCell (p:=⟨b,0,none⟩) (.inl rfl) _).setCell (p:=⟨b,1,none⟩) (.inl rfl) _,.inr ⟨rfl,g,hg,rfl⟩⟩;(have hne:(Value.slice (some ⟨g,0,none⟩) l.length c').ownBlock≠some b:=by simp [Value.ownBlock];omega);exact ownsRow_setCell_other (a:=⟨b,1,none⟩) (ownsRow_setCell_other (a:=⟨b,0,none⟩) hown hne _) hne _
theorem Zkr (b c:Nat) (sn:Bool) (A:Option Addr) (l:List Name) (w:World) (hS:Z2p w b sn A c l) (hl:(l.length:Int)≤1000000000) :
 Calls Tryz.prog 200 #[.pointer (some ⟨b,0,none⟩)] w (Z6j w b sn A l):=by
 cases sn
 · exact Ze0 b c A l w hS
 · exact Zcp b c A l w hS hl
end
end Go.Proofs.YtfidcfjcmlgkbaaGreat
