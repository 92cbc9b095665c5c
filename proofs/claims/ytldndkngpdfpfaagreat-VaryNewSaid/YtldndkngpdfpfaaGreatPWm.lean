/-
  Texts put together: Known5, Shape1.
-/
import Derived.Test.YtldndkngpdfpfaaGreatPWl
import Derived.Test.YtldndkngpdfpfaaGreatPWh
import Derived.Test.YtldndkngpdfpfaaGreatPWg
namespace Go.Proofs.YtldndkngpdfpfaaGreat
open Go.RowKit Go.Shelf
theorem KSt.fr_ {D:Nat→Prop} {W W1:World} {S:Nat→Option (List Name)} {kb sb:Nat} {K:Kn} (h:KSt D W S kb sb K W1):Fr (fun j=>¬D j) W W1:=by
 obtain ⟨_,_,_,_,_,_,h4⟩:=h
 exact h4
theorem KSt.start {D:Nat→Prop} {W:World} {S:Nat→Option (List Name)} {σ:Nat→St} {kb sb:Nat} {K:Kn} {A:Option Addr} {c:Nat} (hN:NameSets D W S σ) (hK:KnS W S kb sb K A c) (hA:AIn A (fun j=>¬D j)):KSt D W S kb sb K W:=by
 have e:upd S sb (some K.1)=S:=upd_id _ _ _ hK.set
 exact ⟨σ,A,c,by rw [e];exact hN,by rw [e];exact hK,hA,Fr.refl _ _⟩
theorem KSt.lt {D:Nat→Prop} {W W1:World} {S:Nat→Option (List Name)} {kb sb:Nat} {K:Kn} (h:KSt D W S kb sb K W1):kb<W1.heap.size:=by
 obtain ⟨_,_,_,_,h2,_,_⟩:=h
 exact h2.blk.lt
theorem row_low {W:World} {e size n:Nat} {A:Option Addr} {c:Nat} {xs:List Value} (h:W.ownsRow 0 e size (.slice A n c) n xs):AIn A (· < W.heap.size):=by
 intro a ha
 rcases h.2 with ⟨hv,_⟩ | ⟨g,cap,cur,hv,_,hg,_⟩
 · simp only [Value.slice.injEq] at hv;rw [hv.1] at ha;cases ha
 · simp only [Value.slice.injEq] at hv;rw [hv.1] at ha;cases ha
   exact Blk.lt (t:=e) (cs:=cur) hg
theorem KSt.prot {D:Nat→Prop} {W W1 W2:World} {S:Nat→Option (List Name)} {kb sb:Nat} {K:Kn} (h:KSt D W S kb sb K W1) (hb:Below W1.heap.size W1 W2) :
 KSt (fun k=>D k∨(W1.heap.size≤k∧k<W2.heap.size)) W2 S kb sb K W2:=by
 obtain ⟨σ',A',c',h1,h2,h3,_⟩:=h
 refine ⟨σ',A',c',h1.protect hb,⟨h2.blk.new_ hb,ownsRow_new h2.row hb,h2.set⟩,fun a ha hd=>?_,Fr.refl _ _⟩
 rcases hd with hd | hd
 · exact h3 a ha hd
 · have:=row_low h2.row a ha;omega
theorem KSt.unprot {D D':Nat→Prop} {W W1 W2:World} {S:Nat→Option (List Name)} {kb sb:Nat} {K:Kn} (h:KSt D' W1 S kb sb K W2) (hF:Fr (fun j=>¬D j) W W1) (hD : ∀k,D k→D' k):KSt D W S kb sb K W2:=by
 obtain ⟨σ',A',c',h1,h2,h3,h4⟩:=h
 exact ⟨σ',A',c',h1.weaken hD,h2,h3.mono (fun k hk hd=>hk (hD k hd)),hF.trans (h4.mono (fun k _ hk hd=>hk (hD k hd)))⟩
theorem KSt.prot0 {D:Nat→Prop} {W W1:World} {S:Nat→Option (List Name)} {kb sb:Nat} {K:Kn} (h:KSt D W S kb sb K W1):KSt D W1 S kb sb K W1:=by
 obtain ⟨σ',A',c',h1,h2,h3,_⟩:=h
 exact ⟨σ',A',c',h1,h2,h3,Fr.refl _ _⟩
theorem KSt.join {D:Nat→Prop} {W W1 W2:World} {S:Nat→Option (List Name)} {kb sb:Nat} {K K':Kn} (h:KSt D W1 S kb sb K W2) (h0:KSt D W S kb sb K' W1):KSt D W S kb sb K W2:=by
 obtain ⟨σ',A',c',h1,h2,h3,h4⟩:=h
 exact ⟨σ',A',c',h1,h2,h3,h0.fr_.trans h4⟩
set_option maxRecDepth 100000 in
set_option maxHeartbeats 8000000 in
theorem kone_is {D:Nat→Prop} {W:World} {S:Nat→Option (List Name)} {kb sb:Nat} {K:Kn} {A1 A2 A3:Option Addr} {c1 c2 c3:Nat} (x:CondT) (h:KSt D W S kb sb K W) (hkD : ¬D kb) (h1:RowR repTestT D W A1 c1 x.attr) (h2:RowR repTestT D W A2 c2 x.value) (hl:(K.1.length:Int)+(1+x.attr.length+x.value.length)≤1000000) (hl2:(K.2.length:Int)+(1+x.attr.length+x.value.length)≤1000000) :
 Calls Tryz.prog 162 #[.pointer (some ⟨kb,0,none⟩),.agg #[.int .i64 x.kind,.bool x.goal,.string x.id,.slice A1 x.attr.length c1,.slice A2 x.value.length c2,.bool x.acc,.slice A3 x.conds.length c3]] W fun e W'=>e = .returned (.bool (oneK K x).1)∧KSt D W S kb sb (oneK K x).2 W'∧(oneK K x).2.1.length≤K.1.length+(1+x.attr.length+x.value.length)∧(oneK K x).2.2.length≤K.2.length+(1+x.attr.length+x.value.length):=by
 have H0:=Lib.hid h
 have HKD:=Lib.hid hkD
 have H1:=Lib.hid h1
 have H2:=Lib.hid h2
 have hl1c:=h1.cap
 have hl2c:=h2.cap
 clear h hkD h1 h2
 by_cases hg:x.goal=true
 · have g1:=hg
   have hgk:(if x.goal=true then metK K x.id else K)=metK K x.id:=if_pos hg
   have H_g:=Lib.hid g1
   have HG:=Lib.hid hgk
   clear g1 hg hgk
   go_enter Tryz.func162,Tryz.ntmps162
   go_upto_region 1 with fail
   obtain ⟨W1,hW1⟩ : ∃W1,W1=W.alloc (.cells #[.int .i64 x.kind,.bool x.goal,.string x.id,.slice A1 x.attr.length c1,.slice A2 x.value.length c2,.bool x.acc,.slice A3 x.conds.length c3] 62):=⟨_,rfl⟩
   rw [← hW1]
   have hbk:Blk W1 W.heap.size 62 #[.int .i64 x.kind,.bool x.goal,.string x.id,.slice A1 x.attr.length c1,.slice A2 x.value.length c2,.bool x.acc,.slice A3 x.conds.length c3]:=by rw [hW1];exact Blk.new _ _ _
   have hB:Below W.heap.size W W1:=by rw [hW1];exact (Below.refl _ _).alloc (Nat.le_refl _) _
   have hsz:W1.heap.size=W.heap.size+1:=by rw [hW1,World.size_alloc]
   have hst1:=H0.out.prot hB
   have hbD:(fun k=>D k∨(W.heap.size≤k∧k<W1.heap.size)) W.heap.size:=.inr ⟨Nat.le_refl _,by omega⟩
   have hkD1 : ¬(fun k=>D k∨(W.heap.size≤k∧k<W1.heap.size)) kb:=fun hd=>hd.elim HKD.out (fun hd=>by have:=H0.out.lt;omega)
   obtain ⟨D1,hD1⟩ : ∃D1,D1=(fun k=>D k∨(W.heap.size≤k∧k<W1.heap.size)):=⟨_,rfl⟩
   rw [← hD1] at hst1 hbD hkD1
   have HR1:=Lib.hid (show RowR repTestT D1 W1 A1 c1 x.attr from (H1.out.new_ hB).weaken (fun k hk=>by rw [hD1];exact .inl hk))
   have HR2:=Lib.hid (show RowR repTestT D1 W1 A2 c2 x.value from (H2.out.new_ hB).weaken (fun k hk=>by rw [hD1];exact .inl hk))
   have HDD:=Lib.hid (show ∀k,D k→D1 k from fun k hk=>by rw [hD1];exact .inl hk)
   have HFB:=Lib.hid (show Fr (fun j=>¬D j) W W1 from Fr.of_new hB)
   have HST:=Lib.hid hst1
   have HBD:=Lib.hid hbD
   have HK1:=Lib.hid hkD1
   have HBK:=Lib.hid hbk
   have hlo:=hbk.lt
   have e1:W1.cell? ⟨W.heap.size,1,none⟩=some (.bool x.goal):=(hbk.cell 1).trans rfl
   have e2:W1.cell? ⟨W.heap.size,2,none⟩=some (.string x.id):=(hbk.cell 2).trans rfl
   have e3:W1.cell? ⟨W.heap.size,3,none⟩=some (.slice A1 x.attr.length c1):=(hbk.cell 3).trans rfl
   have e4:W1.cell? ⟨W.heap.size,4,none⟩=some (.slice A2 x.value.length c2):=(hbk.cell 4).trans rfl
   clear hW1 hbk hB hsz hst1 hbD hkD1 hD1
   have g1:=H_g.out
   go_wp2_with fail
   refine (KSt.met x.id HST.out HK1.out (by omega) (by omega)).mono ?_
   rintro e w4 ⟨rfl,hst4,hl4,hl5⟩
   have HST4:=Lib.hid hst4
   clear hst4 e1 e2 e3 e4 hlo
   have hbk:=HBK.out.fr (HST4.out).fr_ (fun hn=>hn HBD.out)
   have hlo:=hbk.lt
   have hzw:W.heap.size≤w4.heap.size:=Nat.le_trans HFB.out.size (HST4.out).fr_.size
   have e2:w4.cell? ⟨W.heap.size,2,none⟩=some (.string x.id):=(hbk.cell 2).trans rfl
   have e3:w4.cell? ⟨W.heap.size,3,none⟩=some (.slice A1 x.attr.length c1):=(hbk.cell 3).trans rfl
   have e4:w4.cell? ⟨W.heap.size,4,none⟩=some (.slice A2 x.value.length c2):=(hbk.cell 4).trans rfl
   clear hbk
   go_wp2_with fail
   cases hh:hasK (metK K x.id) x.id
   · skip
     have hhx:=KSt.has_ x.id (HST4.out) (by omega)
     rw [hh] at hhx
     refine hhx.mono ?_
     rintro e w5 ⟨rfl,hb5⟩
     have HST5:=Lib.hid ((HST4.out).below (hb5))
     clear hhx hb5
     have HA:=Lib.hid (show oneK K x=(false,metK K x.id) by unfold oneK;simp only [HG.out];simp [hh])
     clear hh
     go_wp2_with fail
     go_ret
     rw [HA.out]
     exact ⟨rfl,(HST5.out).unprot HFB.out HDD.out,by dsimp only;omega,by dsimp only;omega⟩
   · skip
     have hhx:=KSt.has_ x.id (HST4.out) (by omega)
     rw [hh] at hhx
     refine hhx.mono ?_
     rintro e w5 ⟨rfl,hb5⟩
     have HST5:=Lib.hid ((HST4.out).below (hb5))
     clear hhx hb5
     have hbk:=HBK.out.fr (HST5.out).fr_ (fun hn=>hn HBD.out)
     have hlo:=hbk.lt
     have hzw:W.heap.size≤w5.heap.size:=Nat.le_trans HFB.out.size (HST5.out).fr_.size
     have e2:w5.cell? ⟨W.heap.size,2,none⟩=some (.string x.id):=(hbk.cell 2).trans rfl
     have e3:w5.cell? ⟨W.heap.size,3,none⟩=some (.slice A1 x.attr.length c1):=(hbk.cell 3).trans rfl
     have e4:w5.cell? ⟨W.heap.size,4,none⟩=some (.slice A2 x.value.length c2):=(hbk.cell 4).trans rfl
     clear hbk
     obtain ⟨b2,k2,hf⟩ : ∃b k,fieldK (metK K x.id) x.attr=(b,k):=⟨_,_,rfl⟩
     have hfa:=kfield_is x.attr (A:=A1) (c:=c1) (HST5.out.prot0) HK1.out (HR1.out.fr HST5.out.fr_ (fun k hk hn=>hn hk)) (by omega) (by omega)
     rw [hf] at hfa
     have HFA:=Lib.hid hfa
     clear hfa
     cases b2
     · skip
       have HA:=Lib.hid (show oneK K x=(false,k2) by unfold oneK;simp only [HG.out];simp [hh,hf])
       clear hh hf
       go_wp2_with fail
       refine HFA.out.mono ?_
       rintro e w6 ⟨rfl,hst6,hl6,hl7⟩
       have HST6:=Lib.hid (hst6.join HST5.out)
       clear hst6
       go_wp2_with fail
       go_ret
       rw [HA.out]
       exact ⟨rfl,(HST6.out).unprot HFB.out HDD.out,by dsimp only;omega,by dsimp only;omega⟩
     · skip
       obtain ⟨b3,k3,hf3⟩ : ∃b k,fieldK k2 x.value=(b,k):=⟨_,_,rfl⟩
       have HA:=Lib.hid (show oneK K x=(b3,k3) by unfold oneK;simp only [HG.out];simp [hh,hf,hf3])
       clear hh hf
       go_wp2_with fail
       refine HFA.out.mono ?_
       rintro e w6 ⟨rfl,hst6,hl6,hl7⟩
       have HST6:=Lib.hid (hst6.join HST5.out)
       clear hst6
       have hbk:=HBK.out.fr (HST6.out).fr_ (fun hn=>hn HBD.out)
       have hlo:=hbk.lt
       have hzw:W.heap.size≤w6.heap.size:=Nat.le_trans HFB.out.size (HST6.out).fr_.size
       have e2:w6.cell? ⟨W.heap.size,2,none⟩=some (.string x.id):=(hbk.cell 2).trans rfl
       have e3:w6.cell? ⟨W.heap.size,3,none⟩=some (.slice A1 x.attr.length c1):=(hbk.cell 3).trans rfl
       have e4:w6.cell? ⟨W.heap.size,4,none⟩=some (.slice A2 x.value.length c2):=(hbk.cell 4).trans rfl
       clear hbk
       have hfa:=kfield_is x.value (A:=A2) (c:=c2) (HST6.out.prot0) HK1.out (HR2.out.fr HST6.out.fr_ (fun k hk hn=>hn hk)) (by omega) (by omega)
       rw [hf3] at hfa
       have HFA:=Lib.hid hfa
       clear hfa hf3
       go_wp2_with fail
       refine HFA.out.mono ?_
       rintro e w7 ⟨rfl,hst7,hl8,hl9⟩
       have HST7:=Lib.hid (hst7.join HST6.out)
       clear hst7
       go_wp2_with fail
       go_ret
       rw [HA.out]
       exact ⟨rfl,(HST7.out).unprot HFB.out HDD.out,by dsimp only;omega,by dsimp only;omega⟩
 · have g1:x.goal=false:=by simpa using hg
   have hgk:(if x.goal=true then metK K x.id else K)=K:=if_neg hg
   have H_g:=Lib.hid g1
   have HG:=Lib.hid hgk
   clear g1 hg hgk
   go_enter Tryz.func162,Tryz.ntmps162
   go_upto_region 1 with fail
   obtain ⟨W1,hW1⟩ : ∃W1,W1=W.alloc (.cells #[.int .i64 x.kind,.bool x.goal,.string x.id,.slice A1 x.attr.length c1,.slice A2 x.value.length c2,.bool x.acc,.slice A3 x.conds.length c3] 62):=⟨_,rfl⟩
   rw [← hW1]
   have hbk:Blk W1 W.heap.size 62 #[.int .i64 x.kind,.bool x.goal,.string x.id,.slice A1 x.attr.length c1,.slice A2 x.value.length c2,.bool x.acc,.slice A3 x.conds.length c3]:=by rw [hW1];exact Blk.new _ _ _
   have hB:Below W.heap.size W W1:=by rw [hW1];exact (Below.refl _ _).alloc (Nat.le_refl _) _
   have hsz:W1.heap.size=W.heap.size+1:=by rw [hW1,World.size_alloc]
   have hst1:=H0.out.prot hB
   have hbD:(fun k=>D k∨(W.heap.size≤k∧k<W1.heap.size)) W.heap.size:=.inr ⟨Nat.le_refl _,by omega⟩
   have hkD1 : ¬(fun k=>D k∨(W.heap.size≤k∧k<W1.heap.size)) kb:=fun hd=>hd.elim HKD.out (fun hd=>by have:=H0.out.lt;omega)
   obtain ⟨D1,hD1⟩ : ∃D1,D1=(fun k=>D k∨(W.heap.size≤k∧k<W1.heap.size)):=⟨_,rfl⟩
   rw [← hD1] at hst1 hbD hkD1
   have HR1:=Lib.hid (show RowR repTestT D1 W1 A1 c1 x.attr from (H1.out.new_ hB).weaken (fun k hk=>by rw [hD1];exact .inl hk))
   have HR2:=Lib.hid (show RowR repTestT D1 W1 A2 c2 x.value from (H2.out.new_ hB).weaken (fun k hk=>by rw [hD1];exact .inl hk))
   have HDD:=Lib.hid (show ∀k,D k→D1 k from fun k hk=>by rw [hD1];exact .inl hk)
   have HFB:=Lib.hid (show Fr (fun j=>¬D j) W W1 from Fr.of_new hB)
   have HST:=Lib.hid hst1
   have HBD:=Lib.hid hbD
   have HK1:=Lib.hid hkD1
   have HBK:=Lib.hid hbk
   have hlo:=hbk.lt
   have e1:W1.cell? ⟨W.heap.size,1,none⟩=some (.bool x.goal):=(hbk.cell 1).trans rfl
   have e2:W1.cell? ⟨W.heap.size,2,none⟩=some (.string x.id):=(hbk.cell 2).trans rfl
   have e3:W1.cell? ⟨W.heap.size,3,none⟩=some (.slice A1 x.attr.length c1):=(hbk.cell 3).trans rfl
   have e4:W1.cell? ⟨W.heap.size,4,none⟩=some (.slice A2 x.value.length c2):=(hbk.cell 4).trans rfl
   clear hW1 hbk hB hsz hst1 hbD hkD1 hD1
   have g1:=H_g.out
   go_wp2_with fail
   cases hh:hasK (K) x.id
   · skip
     have hhx:=KSt.has_ x.id (HST.out) (by omega)
     rw [hh] at hhx
     refine hhx.mono ?_
     rintro e w5 ⟨rfl,hb5⟩
     have HST5:=Lib.hid ((HST.out).below (hb5))
     clear hhx hb5
     have HA:=Lib.hid (show oneK K x=(false,K) by unfold oneK;simp only [HG.out];simp [hh])
     clear hh
     go_wp2_with fail
     go_ret
     rw [HA.out]
     exact ⟨rfl,(HST5.out).unprot HFB.out HDD.out,by dsimp only;omega,by dsimp only;omega⟩
   · skip
     have hhx:=KSt.has_ x.id (HST.out) (by omega)
     rw [hh] at hhx
     refine hhx.mono ?_
     rintro e w5 ⟨rfl,hb5⟩
     have HST5:=Lib.hid ((HST.out).below (hb5))
     clear hhx hb5
     have hbk:=HBK.out.fr (HST5.out).fr_ (fun hn=>hn HBD.out)
     have hlo:=hbk.lt
     have hzw:W.heap.size≤w5.heap.size:=Nat.le_trans HFB.out.size (HST5.out).fr_.size
     have e2:w5.cell? ⟨W.heap.size,2,none⟩=some (.string x.id):=(hbk.cell 2).trans rfl
     have e3:w5.cell? ⟨W.heap.size,3,none⟩=some (.slice A1 x.attr.length c1):=(hbk.cell 3).trans rfl
     have e4:w5.cell? ⟨W.heap.size,4,none⟩=some (.slice A2 x.value.length c2):=(hbk.cell 4).trans rfl
     clear hbk
     obtain ⟨b2,k2,hf⟩ : ∃b k,fieldK (K) x.attr=(b,k):=⟨_,_,rfl⟩
     have hfa:=kfield_is x.attr (A:=A1) (c:=c1) (HST5.out.prot0) HK1.out (HR1.out.fr HST5.out.fr_ (fun k hk hn=>hn hk)) (by omega) (by omega)
     rw [hf] at hfa
     have HFA:=Lib.hid hfa
     clear hfa
     cases b2
     · skip
       have HA:=Lib.hid (show oneK K x=(false,k2) by unfold oneK;simp only [HG.out];simp [hh,hf])
       clear hh hf
       go_wp2_with fail
       refine HFA.out.mono ?_
       rintro e w6 ⟨rfl,hst6,hl6,hl7⟩
       have HST6:=Lib.hid (hst6.join HST5.out)
       clear hst6
       go_wp2_with fail
       go_ret
       rw [HA.out]
       exact ⟨rfl,(HST6.out).unprot HFB.out HDD.out,by dsimp only;omega,by dsimp only;omega⟩
     · skip
       obtain ⟨b3,k3,hf3⟩ : ∃b k,fieldK k2 x.value=(b,k):=⟨_,_,rfl⟩
       have HA:=Lib.hid (show oneK K x=(b3,k3) by unfold oneK;simp only [HG.out];simp [hh,hf,hf3])
       clear hh hf
       go_wp2_with fail
       refine HFA.out.mono ?_
       rintro e w6 ⟨rfl,hst6,hl6,hl7⟩
       have HST6:=Lib.hid (hst6.join HST5.out)
       clear hst6
       have hbk:=HBK.out.fr (HST6.out).fr_ (fun hn=>hn HBD.out)
       have hlo:=hbk.lt
       have hzw:W.heap.size≤w6.heap.size:=Nat.le_trans HFB.out.size (HST6.out).fr_.size
       have e2:w6.cell? ⟨W.heap.size,2,none⟩=some (.string x.id):=(hbk.cell 2).trans rfl
       have e3:w6.cell? ⟨W.heap.size,3,none⟩=some (.slice A1 x.attr.length c1):=(hbk.cell 3).trans rfl
       have e4:w6.cell? ⟨W.heap.size,4,none⟩=some (.slice A2 x.value.length c2):=(hbk.cell 4).trans rfl
       clear hbk
       have hfa:=kfield_is x.value (A:=A2) (c:=c2) (HST6.out.prot0) HK1.out (HR2.out.fr HST6.out.fr_ (fun k hk hn=>hn hk)) (by omega) (by omega)
       rw [hf3] at hfa
       have HFA:=Lib.hid hfa
       clear hfa hf3
       go_wp2_with fail
       refine HFA.out.mono ?_
       rintro e w7 ⟨rfl,hst7,hl8,hl9⟩
       have HST7:=Lib.hid (hst7.join HST6.out)
       clear hst7
       go_wp2_with fail
       go_ret
       rw [HA.out]
       exact ⟨rfl,(HST7.out).unprot HFB.out HDD.out,by dsimp only;omega,by dsimp only;omega⟩
end Go.Proofs.YtldndkngpdfpfaaGreat
namespace Go.Proofs.YtldndkngpdfpfaaGreat
open Go.RowKit Go.Shelf
set_option maxHeartbeats 1000000 in
theorem none_is (s:Sym) (w:World):Calls Tryz.prog 229 #[.agg #[.int .i64 s.kind,.string s.text,.int .i64 s.n]] w fun e w'=>e = .returned (.bool (noneB s))∧Below w.heap.size w w':=by
 have hq : ∀W:World,(binOp .eql 23 (.agg #[.int .i64 s.kind,.string s.text,.int .i64 s.n]) (.agg #[.int .i64 0,.string ⟨#[]⟩,.int .i64 0])).run Tryz.prog W = .ok (.bool (noneB s)) W:=fun W=>eql_sym s zS W
 go_enter Tryz.func229,Tryz.ntmps229
 go_wp2_with fail
 go_ret
 exact ⟨rfl,(Below.refl _ _).alloc (Nat.le_refl _) _⟩
theorem other_is (k:Int) (w:World):Calls Tryz.prog 196 #[.int .i64 k] w fun e w'=>e = .returned (.bool (otherB k))∧w=w':=by
 have HV:=Lib.hid (show otherB k=(k == 8 || k == 9 || k == 10) from rfl)
 go_enter Tryz.func196,Tryz.ntmps196
 go_wp2_with fail
 all_goals
  go_ret
  refine ⟨?_,rfl⟩
  rw [HV.out]
  refine ret_bool ?_
  simp_all
set_option maxRecDepth 100000 in
set_option maxHeartbeats 8000000 in
theorem constant_is (s:Sym) (w:World):Calls Tryz.prog 230 #[.agg #[.int .i64 s.kind,.string s.text,.int .i64 s.n]] w fun e w'=>e = .returned (.bool (constB s))∧Below w.heap.size w w':=by
 obtain ⟨r,hr⟩ : ∃r,r=constB s:=⟨_,rfl⟩
 rw [← hr]
 have HR:=Lib.hid hr
 clear hr
 have HB:=Lib.hid ((Below.refl w.heap.size w).alloc (Nat.le_refl _) (.cells #[.int .i64 s.kind,.string s.text,.int .i64 s.n] 23))
 go_enter Tryz.func230,Tryz.ntmps230
 obtain ⟨W1,hW1⟩ : ∃W1,W1=w.alloc (.cells #[.int .i64 s.kind,.string s.text,.int .i64 s.n] 23):=⟨_,rfl⟩
 go_wp2_with (first
  | (go_at_call 242;refine (valid_is s _).mono ?_;rintro e w9 ⟨rfl,hb9⟩;have HB:=Lib.hid (HB.out.trans (hb9.mono HB.out.size));clear hb9))
 all_goals
  go_ret
  refine ⟨?_,by (first | exact HB.out | (exact (Below.refl _ _).alloc (Nat.le_refl _) _) | (simpa using HB.out))⟩
  rw [HR.out]
  refine ret_bool ?_
  first | (simp_all [constB];done) | (simp_all [constB];rfl)
set_option maxRecDepth 100000 in
set_option maxHeartbeats 8000000 in
theorem empty_is (a:AtomT) (w:World):Calls Tryz.prog 197 #[.agg #[.string a.var,.int .i64 a.sym.kind,.string a.sym.text,.int .i64 a.sym.n]] w fun e w'=>e = .returned (.bool (emptyB a))∧Below w.heap.size w w':=by
 obtain ⟨r,hr⟩ : ∃r,r=emptyB a:=⟨_,rfl⟩
 rw [← hr]
 have HR:=Lib.hid hr
 clear hr
 have HB:=Lib.hid ((Below.refl w.heap.size w).alloc (Nat.le_refl _) (.cells #[.string a.var,.int .i64 a.sym.kind,.string a.sym.text,.int .i64 a.sym.n] 76))
 go_enter Tryz.func197,Tryz.ntmps197
 obtain ⟨W1,hW1⟩ : ∃W1,W1=w.alloc (.cells #[.string a.var,.int .i64 a.sym.kind,.string a.sym.text,.int .i64 a.sym.n] 76):=⟨_,rfl⟩
 go_wp2_with (first
  | (go_at_call 229;refine (none_is a.sym _).mono ?_;rintro e w9 ⟨rfl,hb9⟩;have HB:=Lib.hid (HB.out.trans (hb9.mono HB.out.size));clear hb9))
 all_goals
  go_ret
  refine ⟨?_,by (first | exact HB.out | (exact (Below.refl _ _).alloc (Nat.le_refl _) _) | (simpa using HB.out))⟩
  rw [HR.out]
  refine ret_bool ?_
  first | (simp_all [emptyB];done) | (simp_all [emptyB];rfl)
set_option maxRecDepth 100000 in
set_option maxHeartbeats 8000000 in
theorem wordA_is (a:AtomT) (w:World):Calls Tryz.prog 231 #[.agg #[.string a.var,.int .i64 a.sym.kind,.string a.sym.text,.int .i64 a.sym.n]] w fun e w'=>e = .returned (.bool (wordAB a))∧Below w.heap.size w w':=by
 obtain ⟨r,hr⟩ : ∃r,r=wordAB a:=⟨_,rfl⟩
 rw [← hr]
 have HR:=Lib.hid hr
 clear hr
 have HB:=Lib.hid ((Below.refl w.heap.size w).alloc (Nat.le_refl _) (.cells #[.string a.var,.int .i64 a.sym.kind,.string a.sym.text,.int .i64 a.sym.n] 76))
 go_enter Tryz.func231,Tryz.ntmps231
 obtain ⟨W1,hW1⟩ : ∃W1,W1=w.alloc (.cells #[.string a.var,.int .i64 a.sym.kind,.string a.sym.text,.int .i64 a.sym.n] 76):=⟨_,rfl⟩
 go_wp2_with (first
  | fail)
 all_goals
  go_ret
  refine ⟨?_,by (first | exact HB.out | (exact (Below.refl _ _).alloc (Nat.le_refl _) _) | (simpa using HB.out))⟩
  rw [HR.out]
  refine ret_bool ?_
  first | (simp_all [wordAB];done) | (simp_all [wordAB];rfl)
set_option maxRecDepth 100000 in
set_option maxHeartbeats 8000000 in
theorem atomS_is (a:AtomT) (w:World):Calls Tryz.prog 194 #[.agg #[.string a.var,.int .i64 a.sym.kind,.string a.sym.text,.int .i64 a.sym.n]] w fun e w'=>e = .returned (.bool (atomB a))∧Below w.heap.size w w':=by
 obtain ⟨r,hr⟩ : ∃r,r=atomB a:=⟨_,rfl⟩
 rw [← hr]
 have HR:=Lib.hid hr
 clear hr
 have HB:=Lib.hid ((Below.refl w.heap.size w).alloc (Nat.le_refl _) (.cells #[.string a.var,.int .i64 a.sym.kind,.string a.sym.text,.int .i64 a.sym.n] 76))
 go_enter Tryz.func194,Tryz.ntmps194
 obtain ⟨W1,hW1⟩ : ∃W1,W1=w.alloc (.cells #[.string a.var,.int .i64 a.sym.kind,.string a.sym.text,.int .i64 a.sym.n] 76):=⟨_,rfl⟩
 go_wp2_with (first
  | (go_at_call 229;refine (none_is a.sym _).mono ?_;rintro e w9 ⟨rfl,hb9⟩;have HB:=Lib.hid (HB.out.trans (hb9.mono HB.out.size));clear hb9)
  | (go_at_call 230;refine (constant_is a.sym _).mono ?_;rintro e w9 ⟨rfl,hb9⟩;have HB:=Lib.hid (HB.out.trans (hb9.mono HB.out.size));clear hb9)
  | (go_at_call 154;refine (word_is a.var _).mono ?_;rintro e w9 ⟨rfl,rfl⟩))
 all_goals
  go_ret
  refine ⟨?_,by (first | exact HB.out | (exact (Below.refl _ _).alloc (Nat.le_refl _) _) | (simpa using HB.out))⟩
  rw [HR.out]
  refine ret_bool ?_
  first | (simp_all [atomB];done) | (simp_all [atomB];rfl)
set_option maxRecDepth 100000 in
set_option maxHeartbeats 8000000 in
theorem term_is (t:TermT) (w:World):Calls Tryz.prog 195 #[.agg #[.int .i64 t.op,.string t.a.var,.int .i64 t.a.sym.kind,.string t.a.sym.text,.int .i64 t.a.sym.n,.string t.b.var,.int .i64 t.b.sym.kind,.string t.b.sym.text,.int .i64 t.b.sym.n]] w fun e w'=>e = .returned (.bool (termB t))∧Below w.heap.size w w':=by
 by_cases c0:t.op<0
 · have t0:decide (t.op<0)=true:=by simp [*]
   have HR:=Lib.hid (show termB t=false by simp [termB, *])
   clear c0
   go_enter Tryz.func195,Tryz.ntmps195
   go_upto_region 1 with fail
   obtain ⟨W1,hW1⟩ : ∃W1,W1=w.alloc (.cells #[.int .i64 t.op,.string t.a.var,.int .i64 t.a.sym.kind,.string t.a.sym.text,.int .i64 t.a.sym.n,.string t.b.var,.int .i64 t.b.sym.kind,.string t.b.sym.text,.int .i64 t.b.sym.n] 78):=⟨_,rfl⟩
   rw [← hW1]
   have hBk:Blk W1 w.heap.size 78 #[.int .i64 t.op,.string t.a.var,.int .i64 t.a.sym.kind,.string t.a.sym.text,.int .i64 t.a.sym.n,.string t.b.var,.int .i64 t.b.sym.kind,.string t.b.sym.text,.int .i64 t.b.sym.n]:=by rw [hW1];exact Blk.new _ _ _
   have HB:=Lib.hid (show Below w.heap.size w W1 by rw [hW1];exact (Below.refl _ _).alloc (Nat.le_refl _) _)
   have e0:W1.cell? ⟨w.heap.size,0,none⟩=some (.int .i64 t.op):=(hBk.cell 0).trans rfl
   have e1:W1.cell? ⟨w.heap.size,1,none⟩=some (.string t.a.var):=(hBk.cell 1).trans rfl
   have e2:W1.cell? ⟨w.heap.size,2,none⟩=some (.int .i64 t.a.sym.kind):=(hBk.cell 2).trans rfl
   have e3:W1.cell? ⟨w.heap.size,3,none⟩=some (.string t.a.sym.text):=(hBk.cell 3).trans rfl
   have e4:W1.cell? ⟨w.heap.size,4,none⟩=some (.int .i64 t.a.sym.n):=(hBk.cell 4).trans rfl
   have e5:W1.cell? ⟨w.heap.size,5,none⟩=some (.string t.b.var):=(hBk.cell 5).trans rfl
   have e6:W1.cell? ⟨w.heap.size,6,none⟩=some (.int .i64 t.b.sym.kind):=(hBk.cell 6).trans rfl
   have e7:W1.cell? ⟨w.heap.size,7,none⟩=some (.string t.b.sym.text):=(hBk.cell 7).trans rfl
   have e8:W1.cell? ⟨w.heap.size,8,none⟩=some (.int .i64 t.b.sym.n):=(hBk.cell 8).trans rfl
   have hbl:=hBk.lt
   clear hW1 hBk
   go_wp2_with (first
    | (go_at_call 197;refine (empty_is t.b _).mono ?_;rintro e w9 ⟨rfl,hb9⟩;have HB:=Lib.hid (HB.out.trans (hb9.mono HB.out.size));replace e0:=(hb9.cell (p:=⟨w.heap.size,0,none⟩) hbl).trans e0;replace e1:=(hb9.cell (p:=⟨w.heap.size,1,none⟩) hbl).trans e1;replace e2:=(hb9.cell (p:=⟨w.heap.size,2,none⟩) hbl).trans e2;replace e3:=(hb9.cell (p:=⟨w.heap.size,3,none⟩) hbl).trans e3;replace e4:=(hb9.cell (p:=⟨w.heap.size,4,none⟩) hbl).trans e4;replace e5:=(hb9.cell (p:=⟨w.heap.size,5,none⟩) hbl).trans e5;replace e6:=(hb9.cell (p:=⟨w.heap.size,6,none⟩) hbl).trans e6;replace e7:=(hb9.cell (p:=⟨w.heap.size,7,none⟩) hbl).trans e7;replace e8:=(hb9.cell (p:=⟨w.heap.size,8,none⟩) hbl).trans e8;replace hbl:=Nat.lt_of_lt_of_le hbl hb9.size;clear hb9)
    | (go_at_call 194;(first | (with_reducible refine (atomS_is t.a _).mono ?_) | (with_reducible refine (atomS_is t.b _).mono ?_));rintro e w9 ⟨rfl,hb9⟩;have HB:=Lib.hid (HB.out.trans (hb9.mono HB.out.size));replace e0:=(hb9.cell (p:=⟨w.heap.size,0,none⟩) hbl).trans e0;replace e1:=(hb9.cell (p:=⟨w.heap.size,1,none⟩) hbl).trans e1;replace e2:=(hb9.cell (p:=⟨w.heap.size,2,none⟩) hbl).trans e2;replace e3:=(hb9.cell (p:=⟨w.heap.size,3,none⟩) hbl).trans e3;replace e4:=(hb9.cell (p:=⟨w.heap.size,4,none⟩) hbl).trans e4;replace e5:=(hb9.cell (p:=⟨w.heap.size,5,none⟩) hbl).trans e5;replace e6:=(hb9.cell (p:=⟨w.heap.size,6,none⟩) hbl).trans e6;replace e7:=(hb9.cell (p:=⟨w.heap.size,7,none⟩) hbl).trans e7;replace e8:=(hb9.cell (p:=⟨w.heap.size,8,none⟩) hbl).trans e8;replace hbl:=Nat.lt_of_lt_of_le hbl hb9.size;clear hb9)
    | (go_at_call 231;(first | (with_reducible refine (wordA_is t.a _).mono ?_) | (with_reducible refine (wordA_is t.b _).mono ?_));rintro e w9 ⟨rfl,hb9⟩;have HB:=Lib.hid (HB.out.trans (hb9.mono HB.out.size));replace e0:=(hb9.cell (p:=⟨w.heap.size,0,none⟩) hbl).trans e0;replace e1:=(hb9.cell (p:=⟨w.heap.size,1,none⟩) hbl).trans e1;replace e2:=(hb9.cell (p:=⟨w.heap.size,2,none⟩) hbl).trans e2;replace e3:=(hb9.cell (p:=⟨w.heap.size,3,none⟩) hbl).trans e3;replace e4:=(hb9.cell (p:=⟨w.heap.size,4,none⟩) hbl).trans e4;replace e5:=(hb9.cell (p:=⟨w.heap.size,5,none⟩) hbl).trans e5;replace e6:=(hb9.cell (p:=⟨w.heap.size,6,none⟩) hbl).trans e6;replace e7:=(hb9.cell (p:=⟨w.heap.size,7,none⟩) hbl).trans e7;replace e8:=(hb9.cell (p:=⟨w.heap.size,8,none⟩) hbl).trans e8;replace hbl:=Nat.lt_of_lt_of_le hbl hb9.size;clear hb9))
   go_ret
   exact ⟨by rw [HR.out]<;>rfl,by (first | exact HB.out | (exact (Below.refl _ _).alloc (Nat.le_refl _) _) | (simpa using HB.out))⟩
 by_cases c1:3<t.op
 · have t0:decide (t.op<0)=false:=by simp;omega
   have t1:decide (3<t.op)=true:=by simp [*]
   have HR:=Lib.hid (show termB t=false by simp [termB, *])
   clear c0 c1
   go_enter Tryz.func195,Tryz.ntmps195
   go_upto_region 1 with fail
   obtain ⟨W1,hW1⟩ : ∃W1,W1=w.alloc (.cells #[.int .i64 t.op,.string t.a.var,.int .i64 t.a.sym.kind,.string t.a.sym.text,.int .i64 t.a.sym.n,.string t.b.var,.int .i64 t.b.sym.kind,.string t.b.sym.text,.int .i64 t.b.sym.n] 78):=⟨_,rfl⟩
   rw [← hW1]
   have hBk:Blk W1 w.heap.size 78 #[.int .i64 t.op,.string t.a.var,.int .i64 t.a.sym.kind,.string t.a.sym.text,.int .i64 t.a.sym.n,.string t.b.var,.int .i64 t.b.sym.kind,.string t.b.sym.text,.int .i64 t.b.sym.n]:=by rw [hW1];exact Blk.new _ _ _
   have HB:=Lib.hid (show Below w.heap.size w W1 by rw [hW1];exact (Below.refl _ _).alloc (Nat.le_refl _) _)
   have e0:W1.cell? ⟨w.heap.size,0,none⟩=some (.int .i64 t.op):=(hBk.cell 0).trans rfl
   have e1:W1.cell? ⟨w.heap.size,1,none⟩=some (.string t.a.var):=(hBk.cell 1).trans rfl
   have e2:W1.cell? ⟨w.heap.size,2,none⟩=some (.int .i64 t.a.sym.kind):=(hBk.cell 2).trans rfl
   have e3:W1.cell? ⟨w.heap.size,3,none⟩=some (.string t.a.sym.text):=(hBk.cell 3).trans rfl
   have e4:W1.cell? ⟨w.heap.size,4,none⟩=some (.int .i64 t.a.sym.n):=(hBk.cell 4).trans rfl
   have e5:W1.cell? ⟨w.heap.size,5,none⟩=some (.string t.b.var):=(hBk.cell 5).trans rfl
   have e6:W1.cell? ⟨w.heap.size,6,none⟩=some (.int .i64 t.b.sym.kind):=(hBk.cell 6).trans rfl
   have e7:W1.cell? ⟨w.heap.size,7,none⟩=some (.string t.b.sym.text):=(hBk.cell 7).trans rfl
   have e8:W1.cell? ⟨w.heap.size,8,none⟩=some (.int .i64 t.b.sym.n):=(hBk.cell 8).trans rfl
   have hbl:=hBk.lt
   clear hW1 hBk
   go_wp2_with (first
    | (go_at_call 197;refine (empty_is t.b _).mono ?_;rintro e w9 ⟨rfl,hb9⟩;have HB:=Lib.hid (HB.out.trans (hb9.mono HB.out.size));replace e0:=(hb9.cell (p:=⟨w.heap.size,0,none⟩) hbl).trans e0;replace e1:=(hb9.cell (p:=⟨w.heap.size,1,none⟩) hbl).trans e1;replace e2:=(hb9.cell (p:=⟨w.heap.size,2,none⟩) hbl).trans e2;replace e3:=(hb9.cell (p:=⟨w.heap.size,3,none⟩) hbl).trans e3;replace e4:=(hb9.cell (p:=⟨w.heap.size,4,none⟩) hbl).trans e4;replace e5:=(hb9.cell (p:=⟨w.heap.size,5,none⟩) hbl).trans e5;replace e6:=(hb9.cell (p:=⟨w.heap.size,6,none⟩) hbl).trans e6;replace e7:=(hb9.cell (p:=⟨w.heap.size,7,none⟩) hbl).trans e7;replace e8:=(hb9.cell (p:=⟨w.heap.size,8,none⟩) hbl).trans e8;replace hbl:=Nat.lt_of_lt_of_le hbl hb9.size;clear hb9)
    | (go_at_call 194;(first | (with_reducible refine (atomS_is t.a _).mono ?_) | (with_reducible refine (atomS_is t.b _).mono ?_));rintro e w9 ⟨rfl,hb9⟩;have HB:=Lib.hid (HB.out.trans (hb9.mono HB.out.size));replace e0:=(hb9.cell (p:=⟨w.heap.size,0,none⟩) hbl).trans e0;replace e1:=(hb9.cell (p:=⟨w.heap.size,1,none⟩) hbl).trans e1;replace e2:=(hb9.cell (p:=⟨w.heap.size,2,none⟩) hbl).trans e2;replace e3:=(hb9.cell (p:=⟨w.heap.size,3,none⟩) hbl).trans e3;replace e4:=(hb9.cell (p:=⟨w.heap.size,4,none⟩) hbl).trans e4;replace e5:=(hb9.cell (p:=⟨w.heap.size,5,none⟩) hbl).trans e5;replace e6:=(hb9.cell (p:=⟨w.heap.size,6,none⟩) hbl).trans e6;replace e7:=(hb9.cell (p:=⟨w.heap.size,7,none⟩) hbl).trans e7;replace e8:=(hb9.cell (p:=⟨w.heap.size,8,none⟩) hbl).trans e8;replace hbl:=Nat.lt_of_lt_of_le hbl hb9.size;clear hb9)
    | (go_at_call 231;(first | (with_reducible refine (wordA_is t.a _).mono ?_) | (with_reducible refine (wordA_is t.b _).mono ?_));rintro e w9 ⟨rfl,hb9⟩;have HB:=Lib.hid (HB.out.trans (hb9.mono HB.out.size));replace e0:=(hb9.cell (p:=⟨w.heap.size,0,none⟩) hbl).trans e0;replace e1:=(hb9.cell (p:=⟨w.heap.size,1,none⟩) hbl).trans e1;replace e2:=(hb9.cell (p:=⟨w.heap.size,2,none⟩) hbl).trans e2;replace e3:=(hb9.cell (p:=⟨w.heap.size,3,none⟩) hbl).trans e3;replace e4:=(hb9.cell (p:=⟨w.heap.size,4,none⟩) hbl).trans e4;replace e5:=(hb9.cell (p:=⟨w.heap.size,5,none⟩) hbl).trans e5;replace e6:=(hb9.cell (p:=⟨w.heap.size,6,none⟩) hbl).trans e6;replace e7:=(hb9.cell (p:=⟨w.heap.size,7,none⟩) hbl).trans e7;replace e8:=(hb9.cell (p:=⟨w.heap.size,8,none⟩) hbl).trans e8;replace hbl:=Nat.lt_of_lt_of_le hbl hb9.size;clear hb9))
   go_ret
   exact ⟨by rw [HR.out]<;>rfl,by (first | exact HB.out | (exact (Below.refl _ _).alloc (Nat.le_refl _) _) | (simpa using HB.out))⟩
 by_cases c2:atomB t.a=false
 · have t0:decide (t.op<0)=false:=by simp;omega
   have t1:decide (3<t.op)=false:=by simp;omega
   have t2:=c2
   have HR:=Lib.hid (show termB t=false by simp [termB, *])
   clear c0 c1 c2
   go_enter Tryz.func195,Tryz.ntmps195
   go_upto_region 1 with fail
   obtain ⟨W1,hW1⟩ : ∃W1,W1=w.alloc (.cells #[.int .i64 t.op,.string t.a.var,.int .i64 t.a.sym.kind,.string t.a.sym.text,.int .i64 t.a.sym.n,.string t.b.var,.int .i64 t.b.sym.kind,.string t.b.sym.text,.int .i64 t.b.sym.n] 78):=⟨_,rfl⟩
   rw [← hW1]
   have hBk:Blk W1 w.heap.size 78 #[.int .i64 t.op,.string t.a.var,.int .i64 t.a.sym.kind,.string t.a.sym.text,.int .i64 t.a.sym.n,.string t.b.var,.int .i64 t.b.sym.kind,.string t.b.sym.text,.int .i64 t.b.sym.n]:=by rw [hW1];exact Blk.new _ _ _
   have HB:=Lib.hid (show Below w.heap.size w W1 by rw [hW1];exact (Below.refl _ _).alloc (Nat.le_refl _) _)
   have e0:W1.cell? ⟨w.heap.size,0,none⟩=some (.int .i64 t.op):=(hBk.cell 0).trans rfl
   have e1:W1.cell? ⟨w.heap.size,1,none⟩=some (.string t.a.var):=(hBk.cell 1).trans rfl
   have e2:W1.cell? ⟨w.heap.size,2,none⟩=some (.int .i64 t.a.sym.kind):=(hBk.cell 2).trans rfl
   have e3:W1.cell? ⟨w.heap.size,3,none⟩=some (.string t.a.sym.text):=(hBk.cell 3).trans rfl
   have e4:W1.cell? ⟨w.heap.size,4,none⟩=some (.int .i64 t.a.sym.n):=(hBk.cell 4).trans rfl
   have e5:W1.cell? ⟨w.heap.size,5,none⟩=some (.string t.b.var):=(hBk.cell 5).trans rfl
   have e6:W1.cell? ⟨w.heap.size,6,none⟩=some (.int .i64 t.b.sym.kind):=(hBk.cell 6).trans rfl
   have e7:W1.cell? ⟨w.heap.size,7,none⟩=some (.string t.b.sym.text):=(hBk.cell 7).trans rfl
   have e8:W1.cell? ⟨w.heap.size,8,none⟩=some (.int .i64 t.b.sym.n):=(hBk.cell 8).trans rfl
   have hbl:=hBk.lt
   clear hW1 hBk
   go_wp2_with (first
    | (go_at_call 197;refine (empty_is t.b _).mono ?_;rintro e w9 ⟨rfl,hb9⟩;have HB:=Lib.hid (HB.out.trans (hb9.mono HB.out.size));replace e0:=(hb9.cell (p:=⟨w.heap.size,0,none⟩) hbl).trans e0;replace e1:=(hb9.cell (p:=⟨w.heap.size,1,none⟩) hbl).trans e1;replace e2:=(hb9.cell (p:=⟨w.heap.size,2,none⟩) hbl).trans e2;replace e3:=(hb9.cell (p:=⟨w.heap.size,3,none⟩) hbl).trans e3;replace e4:=(hb9.cell (p:=⟨w.heap.size,4,none⟩) hbl).trans e4;replace e5:=(hb9.cell (p:=⟨w.heap.size,5,none⟩) hbl).trans e5;replace e6:=(hb9.cell (p:=⟨w.heap.size,6,none⟩) hbl).trans e6;replace e7:=(hb9.cell (p:=⟨w.heap.size,7,none⟩) hbl).trans e7;replace e8:=(hb9.cell (p:=⟨w.heap.size,8,none⟩) hbl).trans e8;replace hbl:=Nat.lt_of_lt_of_le hbl hb9.size;clear hb9)
    | (go_at_call 194;(first | (with_reducible refine (atomS_is t.a _).mono ?_) | (with_reducible refine (atomS_is t.b _).mono ?_));rintro e w9 ⟨rfl,hb9⟩;have HB:=Lib.hid (HB.out.trans (hb9.mono HB.out.size));replace e0:=(hb9.cell (p:=⟨w.heap.size,0,none⟩) hbl).trans e0;replace e1:=(hb9.cell (p:=⟨w.heap.size,1,none⟩) hbl).trans e1;replace e2:=(hb9.cell (p:=⟨w.heap.size,2,none⟩) hbl).trans e2;replace e3:=(hb9.cell (p:=⟨w.heap.size,3,none⟩) hbl).trans e3;replace e4:=(hb9.cell (p:=⟨w.heap.size,4,none⟩) hbl).trans e4;replace e5:=(hb9.cell (p:=⟨w.heap.size,5,none⟩) hbl).trans e5;replace e6:=(hb9.cell (p:=⟨w.heap.size,6,none⟩) hbl).trans e6;replace e7:=(hb9.cell (p:=⟨w.heap.size,7,none⟩) hbl).trans e7;replace e8:=(hb9.cell (p:=⟨w.heap.size,8,none⟩) hbl).trans e8;replace hbl:=Nat.lt_of_lt_of_le hbl hb9.size;clear hb9)
    | (go_at_call 231;(first | (with_reducible refine (wordA_is t.a _).mono ?_) | (with_reducible refine (wordA_is t.b _).mono ?_));rintro e w9 ⟨rfl,hb9⟩;have HB:=Lib.hid (HB.out.trans (hb9.mono HB.out.size));replace e0:=(hb9.cell (p:=⟨w.heap.size,0,none⟩) hbl).trans e0;replace e1:=(hb9.cell (p:=⟨w.heap.size,1,none⟩) hbl).trans e1;replace e2:=(hb9.cell (p:=⟨w.heap.size,2,none⟩) hbl).trans e2;replace e3:=(hb9.cell (p:=⟨w.heap.size,3,none⟩) hbl).trans e3;replace e4:=(hb9.cell (p:=⟨w.heap.size,4,none⟩) hbl).trans e4;replace e5:=(hb9.cell (p:=⟨w.heap.size,5,none⟩) hbl).trans e5;replace e6:=(hb9.cell (p:=⟨w.heap.size,6,none⟩) hbl).trans e6;replace e7:=(hb9.cell (p:=⟨w.heap.size,7,none⟩) hbl).trans e7;replace e8:=(hb9.cell (p:=⟨w.heap.size,8,none⟩) hbl).trans e8;replace hbl:=Nat.lt_of_lt_of_le hbl hb9.size;clear hb9))
   go_ret
   exact ⟨by rw [HR.out]<;>rfl,by (first | exact HB.out | (exact (Below.refl _ _).alloc (Nat.le_refl _) _) | (simpa using HB.out))⟩
 by_cases c3:t.op=0
 · have t0:decide (t.op<0)=false:=by simp;omega
   have t1:decide (3<t.op)=false:=by simp;omega
   have t2:atomB t.a=true:=by simpa using c2
   have t3:decide (t.op=0)=true:=by simp [*]
   have t3b:(t.op == 0)=true:=by simp [*]
   have HR:=Lib.hid (show termB t=emptyB t.b by simp [termB, *])
   clear c0 c1 c2 c3
   go_enter Tryz.func195,Tryz.ntmps195
   go_upto_region 1 with fail
   obtain ⟨W1,hW1⟩ : ∃W1,W1=w.alloc (.cells #[.int .i64 t.op,.string t.a.var,.int .i64 t.a.sym.kind,.string t.a.sym.text,.int .i64 t.a.sym.n,.string t.b.var,.int .i64 t.b.sym.kind,.string t.b.sym.text,.int .i64 t.b.sym.n] 78):=⟨_,rfl⟩
   rw [← hW1]
   have hBk:Blk W1 w.heap.size 78 #[.int .i64 t.op,.string t.a.var,.int .i64 t.a.sym.kind,.string t.a.sym.text,.int .i64 t.a.sym.n,.string t.b.var,.int .i64 t.b.sym.kind,.string t.b.sym.text,.int .i64 t.b.sym.n]:=by rw [hW1];exact Blk.new _ _ _
   have HB:=Lib.hid (show Below w.heap.size w W1 by rw [hW1];exact (Below.refl _ _).alloc (Nat.le_refl _) _)
   have e0:W1.cell? ⟨w.heap.size,0,none⟩=some (.int .i64 t.op):=(hBk.cell 0).trans rfl
   have e1:W1.cell? ⟨w.heap.size,1,none⟩=some (.string t.a.var):=(hBk.cell 1).trans rfl
   have e2:W1.cell? ⟨w.heap.size,2,none⟩=some (.int .i64 t.a.sym.kind):=(hBk.cell 2).trans rfl
   have e3:W1.cell? ⟨w.heap.size,3,none⟩=some (.string t.a.sym.text):=(hBk.cell 3).trans rfl
   have e4:W1.cell? ⟨w.heap.size,4,none⟩=some (.int .i64 t.a.sym.n):=(hBk.cell 4).trans rfl
   have e5:W1.cell? ⟨w.heap.size,5,none⟩=some (.string t.b.var):=(hBk.cell 5).trans rfl
   have e6:W1.cell? ⟨w.heap.size,6,none⟩=some (.int .i64 t.b.sym.kind):=(hBk.cell 6).trans rfl
   have e7:W1.cell? ⟨w.heap.size,7,none⟩=some (.string t.b.sym.text):=(hBk.cell 7).trans rfl
   have e8:W1.cell? ⟨w.heap.size,8,none⟩=some (.int .i64 t.b.sym.n):=(hBk.cell 8).trans rfl
   have hbl:=hBk.lt
   clear hW1 hBk
   go_wp2_with (first
    | (go_at_call 197;refine (empty_is t.b _).mono ?_;rintro e w9 ⟨rfl,hb9⟩;have HB:=Lib.hid (HB.out.trans (hb9.mono HB.out.size));replace e0:=(hb9.cell (p:=⟨w.heap.size,0,none⟩) hbl).trans e0;replace e1:=(hb9.cell (p:=⟨w.heap.size,1,none⟩) hbl).trans e1;replace e2:=(hb9.cell (p:=⟨w.heap.size,2,none⟩) hbl).trans e2;replace e3:=(hb9.cell (p:=⟨w.heap.size,3,none⟩) hbl).trans e3;replace e4:=(hb9.cell (p:=⟨w.heap.size,4,none⟩) hbl).trans e4;replace e5:=(hb9.cell (p:=⟨w.heap.size,5,none⟩) hbl).trans e5;replace e6:=(hb9.cell (p:=⟨w.heap.size,6,none⟩) hbl).trans e6;replace e7:=(hb9.cell (p:=⟨w.heap.size,7,none⟩) hbl).trans e7;replace e8:=(hb9.cell (p:=⟨w.heap.size,8,none⟩) hbl).trans e8;replace hbl:=Nat.lt_of_lt_of_le hbl hb9.size;clear hb9)
    | (go_at_call 194;(first | (with_reducible refine (atomS_is t.a _).mono ?_) | (with_reducible refine (atomS_is t.b _).mono ?_));rintro e w9 ⟨rfl,hb9⟩;have HB:=Lib.hid (HB.out.trans (hb9.mono HB.out.size));replace e0:=(hb9.cell (p:=⟨w.heap.size,0,none⟩) hbl).trans e0;replace e1:=(hb9.cell (p:=⟨w.heap.size,1,none⟩) hbl).trans e1;replace e2:=(hb9.cell (p:=⟨w.heap.size,2,none⟩) hbl).trans e2;replace e3:=(hb9.cell (p:=⟨w.heap.size,3,none⟩) hbl).trans e3;replace e4:=(hb9.cell (p:=⟨w.heap.size,4,none⟩) hbl).trans e4;replace e5:=(hb9.cell (p:=⟨w.heap.size,5,none⟩) hbl).trans e5;replace e6:=(hb9.cell (p:=⟨w.heap.size,6,none⟩) hbl).trans e6;replace e7:=(hb9.cell (p:=⟨w.heap.size,7,none⟩) hbl).trans e7;replace e8:=(hb9.cell (p:=⟨w.heap.size,8,none⟩) hbl).trans e8;replace hbl:=Nat.lt_of_lt_of_le hbl hb9.size;clear hb9)
    | (go_at_call 231;(first | (with_reducible refine (wordA_is t.a _).mono ?_) | (with_reducible refine (wordA_is t.b _).mono ?_));rintro e w9 ⟨rfl,hb9⟩;have HB:=Lib.hid (HB.out.trans (hb9.mono HB.out.size));replace e0:=(hb9.cell (p:=⟨w.heap.size,0,none⟩) hbl).trans e0;replace e1:=(hb9.cell (p:=⟨w.heap.size,1,none⟩) hbl).trans e1;replace e2:=(hb9.cell (p:=⟨w.heap.size,2,none⟩) hbl).trans e2;replace e3:=(hb9.cell (p:=⟨w.heap.size,3,none⟩) hbl).trans e3;replace e4:=(hb9.cell (p:=⟨w.heap.size,4,none⟩) hbl).trans e4;replace e5:=(hb9.cell (p:=⟨w.heap.size,5,none⟩) hbl).trans e5;replace e6:=(hb9.cell (p:=⟨w.heap.size,6,none⟩) hbl).trans e6;replace e7:=(hb9.cell (p:=⟨w.heap.size,7,none⟩) hbl).trans e7;replace e8:=(hb9.cell (p:=⟨w.heap.size,8,none⟩) hbl).trans e8;replace hbl:=Nat.lt_of_lt_of_le hbl hb9.size;clear hb9))
   go_ret
   exact ⟨by rw [HR.out]<;>rfl,by (first | exact HB.out | (exact (Below.refl _ _).alloc (Nat.le_refl _) _) | (simpa using HB.out))⟩
 by_cases c4:atomB t.b=false
 · have t0:decide (t.op<0)=false:=by simp;omega
   have t1:decide (3<t.op)=false:=by simp;omega
   have t2:atomB t.a=true:=by simpa using c2
   have t3:decide (t.op=0)=false:=by simp [*]
   have t3b:(t.op == 0)=false:=by simp [*]
   have t4:=c4
   have HR:=Lib.hid (show termB t=false by simp [termB, *])
   clear c0 c1 c2 c3 c4
   go_enter Tryz.func195,Tryz.ntmps195
   go_upto_region 1 with fail
   obtain ⟨W1,hW1⟩ : ∃W1,W1=w.alloc (.cells #[.int .i64 t.op,.string t.a.var,.int .i64 t.a.sym.kind,.string t.a.sym.text,.int .i64 t.a.sym.n,.string t.b.var,.int .i64 t.b.sym.kind,.string t.b.sym.text,.int .i64 t.b.sym.n] 78):=⟨_,rfl⟩
   rw [← hW1]
   have hBk:Blk W1 w.heap.size 78 #[.int .i64 t.op,.string t.a.var,.int .i64 t.a.sym.kind,.string t.a.sym.text,.int .i64 t.a.sym.n,.string t.b.var,.int .i64 t.b.sym.kind,.string t.b.sym.text,.int .i64 t.b.sym.n]:=by rw [hW1];exact Blk.new _ _ _
   have HB:=Lib.hid (show Below w.heap.size w W1 by rw [hW1];exact (Below.refl _ _).alloc (Nat.le_refl _) _)
   have e0:W1.cell? ⟨w.heap.size,0,none⟩=some (.int .i64 t.op):=(hBk.cell 0).trans rfl
   have e1:W1.cell? ⟨w.heap.size,1,none⟩=some (.string t.a.var):=(hBk.cell 1).trans rfl
   have e2:W1.cell? ⟨w.heap.size,2,none⟩=some (.int .i64 t.a.sym.kind):=(hBk.cell 2).trans rfl
   have e3:W1.cell? ⟨w.heap.size,3,none⟩=some (.string t.a.sym.text):=(hBk.cell 3).trans rfl
   have e4:W1.cell? ⟨w.heap.size,4,none⟩=some (.int .i64 t.a.sym.n):=(hBk.cell 4).trans rfl
   have e5:W1.cell? ⟨w.heap.size,5,none⟩=some (.string t.b.var):=(hBk.cell 5).trans rfl
   have e6:W1.cell? ⟨w.heap.size,6,none⟩=some (.int .i64 t.b.sym.kind):=(hBk.cell 6).trans rfl
   have e7:W1.cell? ⟨w.heap.size,7,none⟩=some (.string t.b.sym.text):=(hBk.cell 7).trans rfl
   have e8:W1.cell? ⟨w.heap.size,8,none⟩=some (.int .i64 t.b.sym.n):=(hBk.cell 8).trans rfl
   have hbl:=hBk.lt
   clear hW1 hBk
   go_wp2_with (first
    | (go_at_call 197;refine (empty_is t.b _).mono ?_;rintro e w9 ⟨rfl,hb9⟩;have HB:=Lib.hid (HB.out.trans (hb9.mono HB.out.size));replace e0:=(hb9.cell (p:=⟨w.heap.size,0,none⟩) hbl).trans e0;replace e1:=(hb9.cell (p:=⟨w.heap.size,1,none⟩) hbl).trans e1;replace e2:=(hb9.cell (p:=⟨w.heap.size,2,none⟩) hbl).trans e2;replace e3:=(hb9.cell (p:=⟨w.heap.size,3,none⟩) hbl).trans e3;replace e4:=(hb9.cell (p:=⟨w.heap.size,4,none⟩) hbl).trans e4;replace e5:=(hb9.cell (p:=⟨w.heap.size,5,none⟩) hbl).trans e5;replace e6:=(hb9.cell (p:=⟨w.heap.size,6,none⟩) hbl).trans e6;replace e7:=(hb9.cell (p:=⟨w.heap.size,7,none⟩) hbl).trans e7;replace e8:=(hb9.cell (p:=⟨w.heap.size,8,none⟩) hbl).trans e8;replace hbl:=Nat.lt_of_lt_of_le hbl hb9.size;clear hb9)
    | (go_at_call 194;(first | (with_reducible refine (atomS_is t.a _).mono ?_) | (with_reducible refine (atomS_is t.b _).mono ?_));rintro e w9 ⟨rfl,hb9⟩;have HB:=Lib.hid (HB.out.trans (hb9.mono HB.out.size));replace e0:=(hb9.cell (p:=⟨w.heap.size,0,none⟩) hbl).trans e0;replace e1:=(hb9.cell (p:=⟨w.heap.size,1,none⟩) hbl).trans e1;replace e2:=(hb9.cell (p:=⟨w.heap.size,2,none⟩) hbl).trans e2;replace e3:=(hb9.cell (p:=⟨w.heap.size,3,none⟩) hbl).trans e3;replace e4:=(hb9.cell (p:=⟨w.heap.size,4,none⟩) hbl).trans e4;replace e5:=(hb9.cell (p:=⟨w.heap.size,5,none⟩) hbl).trans e5;replace e6:=(hb9.cell (p:=⟨w.heap.size,6,none⟩) hbl).trans e6;replace e7:=(hb9.cell (p:=⟨w.heap.size,7,none⟩) hbl).trans e7;replace e8:=(hb9.cell (p:=⟨w.heap.size,8,none⟩) hbl).trans e8;replace hbl:=Nat.lt_of_lt_of_le hbl hb9.size;clear hb9)
    | (go_at_call 231;(first | (with_reducible refine (wordA_is t.a _).mono ?_) | (with_reducible refine (wordA_is t.b _).mono ?_));rintro e w9 ⟨rfl,hb9⟩;have HB:=Lib.hid (HB.out.trans (hb9.mono HB.out.size));replace e0:=(hb9.cell (p:=⟨w.heap.size,0,none⟩) hbl).trans e0;replace e1:=(hb9.cell (p:=⟨w.heap.size,1,none⟩) hbl).trans e1;replace e2:=(hb9.cell (p:=⟨w.heap.size,2,none⟩) hbl).trans e2;replace e3:=(hb9.cell (p:=⟨w.heap.size,3,none⟩) hbl).trans e3;replace e4:=(hb9.cell (p:=⟨w.heap.size,4,none⟩) hbl).trans e4;replace e5:=(hb9.cell (p:=⟨w.heap.size,5,none⟩) hbl).trans e5;replace e6:=(hb9.cell (p:=⟨w.heap.size,6,none⟩) hbl).trans e6;replace e7:=(hb9.cell (p:=⟨w.heap.size,7,none⟩) hbl).trans e7;replace e8:=(hb9.cell (p:=⟨w.heap.size,8,none⟩) hbl).trans e8;replace hbl:=Nat.lt_of_lt_of_le hbl hb9.size;clear hb9))
   go_ret
   exact ⟨by rw [HR.out]<;>rfl,by (first | exact HB.out | (exact (Below.refl _ _).alloc (Nat.le_refl _) _) | (simpa using HB.out))⟩
 by_cases c5:wordAB t.a=true
 · have t0:decide (t.op<0)=false:=by simp;omega
   have t1:decide (3<t.op)=false:=by simp;omega
   have t2:atomB t.a=true:=by simpa using c2
   have t3:decide (t.op=0)=false:=by simp [*]
   have t3b:(t.op == 0)=false:=by simp [*]
   have t4:atomB t.b=true:=by simpa using c4
   have t5:=c5
   have HR:=Lib.hid (show termB t=false by simp [termB, *])
   clear c0 c1 c2 c3 c4 c5
   go_enter Tryz.func195,Tryz.ntmps195
   go_upto_region 1 with fail
   obtain ⟨W1,hW1⟩ : ∃W1,W1=w.alloc (.cells #[.int .i64 t.op,.string t.a.var,.int .i64 t.a.sym.kind,.string t.a.sym.text,.int .i64 t.a.sym.n,.string t.b.var,.int .i64 t.b.sym.kind,.string t.b.sym.text,.int .i64 t.b.sym.n] 78):=⟨_,rfl⟩
   rw [← hW1]
   have hBk:Blk W1 w.heap.size 78 #[.int .i64 t.op,.string t.a.var,.int .i64 t.a.sym.kind,.string t.a.sym.text,.int .i64 t.a.sym.n,.string t.b.var,.int .i64 t.b.sym.kind,.string t.b.sym.text,.int .i64 t.b.sym.n]:=by rw [hW1];exact Blk.new _ _ _
   have HB:=Lib.hid (show Below w.heap.size w W1 by rw [hW1];exact (Below.refl _ _).alloc (Nat.le_refl _) _)
   have e0:W1.cell? ⟨w.heap.size,0,none⟩=some (.int .i64 t.op):=(hBk.cell 0).trans rfl
   have e1:W1.cell? ⟨w.heap.size,1,none⟩=some (.string t.a.var):=(hBk.cell 1).trans rfl
   have e2:W1.cell? ⟨w.heap.size,2,none⟩=some (.int .i64 t.a.sym.kind):=(hBk.cell 2).trans rfl
   have e3:W1.cell? ⟨w.heap.size,3,none⟩=some (.string t.a.sym.text):=(hBk.cell 3).trans rfl
   have e4:W1.cell? ⟨w.heap.size,4,none⟩=some (.int .i64 t.a.sym.n):=(hBk.cell 4).trans rfl
   have e5:W1.cell? ⟨w.heap.size,5,none⟩=some (.string t.b.var):=(hBk.cell 5).trans rfl
   have e6:W1.cell? ⟨w.heap.size,6,none⟩=some (.int .i64 t.b.sym.kind):=(hBk.cell 6).trans rfl
   have e7:W1.cell? ⟨w.heap.size,7,none⟩=some (.string t.b.sym.text):=(hBk.cell 7).trans rfl
   have e8:W1.cell? ⟨w.heap.size,8,none⟩=some (.int .i64 t.b.sym.n):=(hBk.cell 8).trans rfl
   have hbl:=hBk.lt
   clear hW1 hBk
   go_wp2_with (first
    | (go_at_call 197;refine (empty_is t.b _).mono ?_;rintro e w9 ⟨rfl,hb9⟩;have HB:=Lib.hid (HB.out.trans (hb9.mono HB.out.size));replace e0:=(hb9.cell (p:=⟨w.heap.size,0,none⟩) hbl).trans e0;replace e1:=(hb9.cell (p:=⟨w.heap.size,1,none⟩) hbl).trans e1;replace e2:=(hb9.cell (p:=⟨w.heap.size,2,none⟩) hbl).trans e2;replace e3:=(hb9.cell (p:=⟨w.heap.size,3,none⟩) hbl).trans e3;replace e4:=(hb9.cell (p:=⟨w.heap.size,4,none⟩) hbl).trans e4;replace e5:=(hb9.cell (p:=⟨w.heap.size,5,none⟩) hbl).trans e5;replace e6:=(hb9.cell (p:=⟨w.heap.size,6,none⟩) hbl).trans e6;replace e7:=(hb9.cell (p:=⟨w.heap.size,7,none⟩) hbl).trans e7;replace e8:=(hb9.cell (p:=⟨w.heap.size,8,none⟩) hbl).trans e8;replace hbl:=Nat.lt_of_lt_of_le hbl hb9.size;clear hb9)
    | (go_at_call 194;(first | (with_reducible refine (atomS_is t.a _).mono ?_) | (with_reducible refine (atomS_is t.b _).mono ?_));rintro e w9 ⟨rfl,hb9⟩;have HB:=Lib.hid (HB.out.trans (hb9.mono HB.out.size));replace e0:=(hb9.cell (p:=⟨w.heap.size,0,none⟩) hbl).trans e0;replace e1:=(hb9.cell (p:=⟨w.heap.size,1,none⟩) hbl).trans e1;replace e2:=(hb9.cell (p:=⟨w.heap.size,2,none⟩) hbl).trans e2;replace e3:=(hb9.cell (p:=⟨w.heap.size,3,none⟩) hbl).trans e3;replace e4:=(hb9.cell (p:=⟨w.heap.size,4,none⟩) hbl).trans e4;replace e5:=(hb9.cell (p:=⟨w.heap.size,5,none⟩) hbl).trans e5;replace e6:=(hb9.cell (p:=⟨w.heap.size,6,none⟩) hbl).trans e6;replace e7:=(hb9.cell (p:=⟨w.heap.size,7,none⟩) hbl).trans e7;replace e8:=(hb9.cell (p:=⟨w.heap.size,8,none⟩) hbl).trans e8;replace hbl:=Nat.lt_of_lt_of_le hbl hb9.size;clear hb9)
    | (go_at_call 231;(first | (with_reducible refine (wordA_is t.a _).mono ?_) | (with_reducible refine (wordA_is t.b _).mono ?_));rintro e w9 ⟨rfl,hb9⟩;have HB:=Lib.hid (HB.out.trans (hb9.mono HB.out.size));replace e0:=(hb9.cell (p:=⟨w.heap.size,0,none⟩) hbl).trans e0;replace e1:=(hb9.cell (p:=⟨w.heap.size,1,none⟩) hbl).trans e1;replace e2:=(hb9.cell (p:=⟨w.heap.size,2,none⟩) hbl).trans e2;replace e3:=(hb9.cell (p:=⟨w.heap.size,3,none⟩) hbl).trans e3;replace e4:=(hb9.cell (p:=⟨w.heap.size,4,none⟩) hbl).trans e4;replace e5:=(hb9.cell (p:=⟨w.heap.size,5,none⟩) hbl).trans e5;replace e6:=(hb9.cell (p:=⟨w.heap.size,6,none⟩) hbl).trans e6;replace e7:=(hb9.cell (p:=⟨w.heap.size,7,none⟩) hbl).trans e7;replace e8:=(hb9.cell (p:=⟨w.heap.size,8,none⟩) hbl).trans e8;replace hbl:=Nat.lt_of_lt_of_le hbl hb9.size;clear hb9))
   go_ret
   exact ⟨by rw [HR.out]<;>rfl,by (first | exact HB.out | (exact (Below.refl _ _).alloc (Nat.le_refl _) _) | (simpa using HB.out))⟩
 have t0:decide (t.op<0)=false:=by simp;omega
 have t1:decide (3<t.op)=false:=by simp;omega
 have t2:atomB t.a=true:=by simpa using c2
 have t3:decide (t.op=0)=false:=by simp [*]
 have t3b:(t.op == 0)=false:=by simp [*]
 have t4:atomB t.b=true:=by simpa using c4
 have t5:wordAB t.a=false:=by simpa using c5
 have HR:=Lib.hid (show termB t=(!wordAB t.b) by simp [termB, *])
 clear c0 c1 c2 c3 c4 c5
 go_enter Tryz.func195,Tryz.ntmps195
 go_upto_region 1 with fail
 obtain ⟨W1,hW1⟩ : ∃W1,W1=w.alloc (.cells #[.int .i64 t.op,.string t.a.var,.int .i64 t.a.sym.kind,.string t.a.sym.text,.int .i64 t.a.sym.n,.string t.b.var,.int .i64 t.b.sym.kind,.string t.b.sym.text,.int .i64 t.b.sym.n] 78):=⟨_,rfl⟩
 rw [← hW1]
 have hBk:Blk W1 w.heap.size 78 #[.int .i64 t.op,.string t.a.var,.int .i64 t.a.sym.kind,.string t.a.sym.text,.int .i64 t.a.sym.n,.string t.b.var,.int .i64 t.b.sym.kind,.string t.b.sym.text,.int .i64 t.b.sym.n]:=by rw [hW1];exact Blk.new _ _ _
 have HB:=Lib.hid (show Below w.heap.size w W1 by rw [hW1];exact (Below.refl _ _).alloc (Nat.le_refl _) _)
 have e0:W1.cell? ⟨w.heap.size,0,none⟩=some (.int .i64 t.op):=(hBk.cell 0).trans rfl
 have e1:W1.cell? ⟨w.heap.size,1,none⟩=some (.string t.a.var):=(hBk.cell 1).trans rfl
 have e2:W1.cell? ⟨w.heap.size,2,none⟩=some (.int .i64 t.a.sym.kind):=(hBk.cell 2).trans rfl
 have e3:W1.cell? ⟨w.heap.size,3,none⟩=some (.string t.a.sym.text):=(hBk.cell 3).trans rfl
 have e4:W1.cell? ⟨w.heap.size,4,none⟩=some (.int .i64 t.a.sym.n):=(hBk.cell 4).trans rfl
 have e5:W1.cell? ⟨w.heap.size,5,none⟩=some (.string t.b.var):=(hBk.cell 5).trans rfl
 have e6:W1.cell? ⟨w.heap.size,6,none⟩=some (.int .i64 t.b.sym.kind):=(hBk.cell 6).trans rfl
 have e7:W1.cell? ⟨w.heap.size,7,none⟩=some (.string t.b.sym.text):=(hBk.cell 7).trans rfl
 have e8:W1.cell? ⟨w.heap.size,8,none⟩=some (.int .i64 t.b.sym.n):=(hBk.cell 8).trans rfl
 have hbl:=hBk.lt
 clear hW1 hBk
 go_wp2_with (first
  | (go_at_call 197;refine (empty_is t.b _).mono ?_;rintro e w9 ⟨rfl,hb9⟩;have HB:=Lib.hid (HB.out.trans (hb9.mono HB.out.size));replace e0:=(hb9.cell (p:=⟨w.heap.size,0,none⟩) hbl).trans e0;replace e1:=(hb9.cell (p:=⟨w.heap.size,1,none⟩) hbl).trans e1;replace e2:=(hb9.cell (p:=⟨w.heap.size,2,none⟩) hbl).trans e2;replace e3:=(hb9.cell (p:=⟨w.heap.size,3,none⟩) hbl).trans e3;replace e4:=(hb9.cell (p:=⟨w.heap.size,4,none⟩) hbl).trans e4;replace e5:=(hb9.cell (p:=⟨w.heap.size,5,none⟩) hbl).trans e5;replace e6:=(hb9.cell (p:=⟨w.heap.size,6,none⟩) hbl).trans e6;replace e7:=(hb9.cell (p:=⟨w.heap.size,7,none⟩) hbl).trans e7;replace e8:=(hb9.cell (p:=⟨w.heap.size,8,none⟩) hbl).trans e8;replace hbl:=Nat.lt_of_lt_of_le hbl hb9.size;clear hb9)
  | (go_at_call 194;(first | (with_reducible refine (atomS_is t.a _).mono ?_) | (with_reducible refine (atomS_is t.b _).mono ?_));rintro e w9 ⟨rfl,hb9⟩;have HB:=Lib.hid (HB.out.trans (hb9.mono HB.out.size));replace e0:=(hb9.cell (p:=⟨w.heap.size,0,none⟩) hbl).trans e0;replace e1:=(hb9.cell (p:=⟨w.heap.size,1,none⟩) hbl).trans e1;replace e2:=(hb9.cell (p:=⟨w.heap.size,2,none⟩) hbl).trans e2;replace e3:=(hb9.cell (p:=⟨w.heap.size,3,none⟩) hbl).trans e3;replace e4:=(hb9.cell (p:=⟨w.heap.size,4,none⟩) hbl).trans e4;replace e5:=(hb9.cell (p:=⟨w.heap.size,5,none⟩) hbl).trans e5;replace e6:=(hb9.cell (p:=⟨w.heap.size,6,none⟩) hbl).trans e6;replace e7:=(hb9.cell (p:=⟨w.heap.size,7,none⟩) hbl).trans e7;replace e8:=(hb9.cell (p:=⟨w.heap.size,8,none⟩) hbl).trans e8;replace hbl:=Nat.lt_of_lt_of_le hbl hb9.size;clear hb9)
  | (go_at_call 231;(first | (with_reducible refine (wordA_is t.a _).mono ?_) | (with_reducible refine (wordA_is t.b _).mono ?_));rintro e w9 ⟨rfl,hb9⟩;have HB:=Lib.hid (HB.out.trans (hb9.mono HB.out.size));replace e0:=(hb9.cell (p:=⟨w.heap.size,0,none⟩) hbl).trans e0;replace e1:=(hb9.cell (p:=⟨w.heap.size,1,none⟩) hbl).trans e1;replace e2:=(hb9.cell (p:=⟨w.heap.size,2,none⟩) hbl).trans e2;replace e3:=(hb9.cell (p:=⟨w.heap.size,3,none⟩) hbl).trans e3;replace e4:=(hb9.cell (p:=⟨w.heap.size,4,none⟩) hbl).trans e4;replace e5:=(hb9.cell (p:=⟨w.heap.size,5,none⟩) hbl).trans e5;replace e6:=(hb9.cell (p:=⟨w.heap.size,6,none⟩) hbl).trans e6;replace e7:=(hb9.cell (p:=⟨w.heap.size,7,none⟩) hbl).trans e7;replace e8:=(hb9.cell (p:=⟨w.heap.size,8,none⟩) hbl).trans e8;replace hbl:=Nat.lt_of_lt_of_le hbl hb9.size;clear hb9))
 go_ret
 exact ⟨by rw [HR.out]<;>rfl,by (first | exact HB.out | (exact (Below.refl _ _).alloc (Nat.le_refl _) _) | (simpa using HB.out))⟩
end Go.Proofs.YtldndkngpdfpfaaGreat
