/-
  Texts put together: ProdSame, LawVNew.
-/
import Derived.Test.YtldndkngpdfpfaaGreatPWw
import Derived.Test.YtldndkngpdfpfaaGreatPWt
namespace Go.Proofs.YtldndkngpdfpfaaGreat
open Go.RowKit Go.Shelf
set_option maxRecDepth 100000 in
set_option maxHeartbeats 4000000 in
theorem prod_same {D D':Nat→Prop} (n:Nat) (p:ProdT) (A1:Option Addr) (c1:Nat) (A2:Option Addr) (c2:Nat) (B1:Option Addr) (d1:Nat) (B2:Option Addr) (d2:Nat) (w:World) (g1:RowR (repCondT n) D w A1 c1 p.conds) (g2:RowR repActT D w A2 c2 p.acts) (k1:RowR (repCondT n) D' w B1 d1 p.conds) (k2:RowR repActT D' w B2 d2 p.acts) :
 Calls Tryz.prog 30 #[.agg #[.string p.name,.slice A1 p.conds.length c1,.slice A2 p.acts.length c2],.agg #[.string p.name,.slice B1 p.conds.length d1,.slice B2 p.acts.length d2]] w fun e w'=>e = .returned (.bool true)∧Below w.heap.size w w':=by
 have G1:=Lib.hid g1
 have G2:=Lib.hid g2
 have K1:=Lib.hid k1
 have K2:=Lib.hid k2
 clear g1 g2 k1 k2
 go_enter Tryz.func30,Tryz.ntmps30
 go_upto_region 1 with fail
 obtain ⟨w1,hw1⟩ : ∃w1,w1=((w.alloc (.cells #[.string p.name,.slice A1 p.conds.length c1,.slice A2 p.acts.length c2] 45)).alloc (.cells #[.string p.name,.slice B1 p.conds.length d1,.slice B2 p.acts.length d2] 45)):=⟨_,rfl⟩
 rw [← hw1]
 have HB:=Lib.hid (show Below w.heap.size w w1 by rw [hw1];exact (by repeat (first | exact Below.refl _ _ | refine Below.drew ?_ | refine Below.al ?_ _ | refine Below.sc ?_ _)))
 have Ka:=Lib.hid (show Blk w1 (w.heap.size) 45 #[.string p.name,.slice A1 p.conds.length c1,.slice A2 p.acts.length c2] by rw [hw1];exact ((Blk.new w 45 #[.string p.name,.slice A1 p.conds.length c1,.slice A2 p.acts.length c2]).alloc (.cells #[.string p.name,.slice B1 p.conds.length d1,.slice B2 p.acts.length d2] 45)))
 have Kb:=Lib.hid (show Blk w1 (w.heap.size+1) 45 #[.string p.name,.slice B1 p.conds.length d1,.slice B2 p.acts.length d2] by rw [hw1];have hh:=(Blk.new (w.alloc (.cells #[.string p.name,.slice A1 p.conds.length c1,.slice A2 p.acts.length c2] 45)) 45 #[.string p.name,.slice B1 p.conds.length d1,.slice B2 p.acts.length d2]);simp only [World.size_alloc] at hh;exact hh)
 clear hw1
 obtain ⟨a0,a1,a2⟩:=Ka.out.c3
 have az:=Ka.out.lt
 obtain ⟨b0,b1,b2⟩:=Kb.out.c3
 have bz:=Kb.out.lt
 go_wp2_with fail
 with_reducible refine (conds_same n _ _ _ _ _ _ p.conds _ (G1.out.new_ (by (repeat (first | exact Below.refl _ _ | exact HB.out | refine Below.drew ?_ | refine Below.al ?_ _ | refine Below.sc ?_ _)))) (K1.out.new_ (by (repeat (first | exact Below.refl _ _ | exact HB.out | refine Below.drew ?_ | refine Below.al ?_ _ | refine Below.sc ?_ _))))).mono ?_
 rintro e w2 ⟨rfl,hb⟩
 have hbs:=Below.trans (show Below w1.heap.size w1 _ from (by (repeat (first | exact Below.refl _ _ | refine Below.drew ?_ | refine Below.al ?_ _ | refine Below.sc ?_ _)))) (hb.mono (by simp<;>omega))
 have Ka:=Lib.hid (Ka.out.new_ hbs)
 have Kb:=Lib.hid (Kb.out.new_ hbs)
 have HB:=Lib.hid (HB.out.trans (hbs.mono HB.out.size))
 have hsz2:=hbs.size
 clear a0 a1 a2 az b0 b1 b2 bz hb hbs
 obtain ⟨a0,a1,a2⟩:=Ka.out.c3
 have az:=Ka.out.lt
 obtain ⟨b0,b1,b2⟩:=Kb.out.c3
 have bz:=Kb.out.lt
 go_wp2_with fail
 with_reducible refine (acts_same p.acts _ (G2.out.new_ (by (repeat (first | exact Below.refl _ _ | exact HB.out | refine Below.drew ?_ | refine Below.al ?_ _ | refine Below.sc ?_ _)))) (K2.out.new_ (by (repeat (first | exact Below.refl _ _ | exact HB.out | refine Below.drew ?_ | refine Below.al ?_ _ | refine Below.sc ?_ _))))).mono ?_
 rintro e w3 ⟨rfl,hb⟩
 have hbs:=Below.trans (show Below w2.heap.size w2 _ from (by (repeat (first | exact Below.refl _ _ | refine Below.drew ?_ | refine Below.al ?_ _ | refine Below.sc ?_ _)))) (hb.mono (by simp<;>omega))
 have Ka:=Lib.hid (Ka.out.new_ hbs)
 have Kb:=Lib.hid (Kb.out.new_ hbs)
 have HB:=Lib.hid (HB.out.trans (hbs.mono HB.out.size))
 have hsz3:=hbs.size
 clear a0 a1 a2 az b0 b1 b2 bz hb hbs
 obtain ⟨a0,a1,a2⟩:=Ka.out.c3
 have az:=Ka.out.lt
 obtain ⟨b0,b1,b2⟩:=Kb.out.c3
 have bz:=Kb.out.lt
 go_wp2_with fail
 go_ret
 exact ⟨rfl,by (repeat (first | exact Below.refl _ _ | exact HB.out | refine Below.drew ?_ | refine Below.al ?_ _ | refine Below.sc ?_ _))⟩
end Go.Proofs.YtldndkngpdfpfaaGreat
namespace Go.Proofs.YtldndkngpdfpfaaGreat
open Go.RowKit Go.Shelf
attribute [local go_sem] Oper.semAt_some
set_option linter.unusedSimpArgs false
theorem nov_is (w0:World):OldOk 36 #[] w0 (fun _=>false):=by
 refine ⟨fun args w=>by kernel_rfl,fun s W hW=>?_⟩
 show Calls Tryz.prog 36 #[.agg #[.int .i64 s.kind,.string s.text,.int .i64 s.n]] W _
 go_enter Tryz.func36,Tryz.ntmps36
 go_wp2_with fail
 go_ret
 exact ⟨rfl,(Below.refl _ _).alloc (Nat.le_refl _) _⟩
def PT (m:Nat) (r:Option (ProdT×List Int)) (D:Nat→Prop) (w':World) (nm:ByteArray) (A1:Option Addr) (n1 c1:Nat) (A2:Option Addr) (n2 c2:Nat) (A3:Option Addr) (n3 c3:Nat):Prop:=
 match r with
 | none=>n1=0∧n3=0
 | some (p,tags)=>nm=p.name∧n1=p.conds.length∧n2=p.acts.length∧n3=tags.length∧RowR (repCondT (m+1)) D w' A1 c1 p.conds∧RowR repActT D w' A2 c2 p.acts∧RowRd w' 1 Int.cells1 A3 c3 tags
theorem PT.new_ {m:Nat} {r:Option (ProdT×List Int)} {D:Nat→Prop} {w w':World} {nm:ByteArray} {A1:Option Addr} {n1 c1:Nat} {A2:Option Addr} {n2 c2:Nat} {A3:Option Addr} {n3 c3:Nat} (h:PT m r D w nm A1 n1 c1 A2 n2 c2 A3 n3 c3) (hb:Below w.heap.size w w'):PT m r D w' nm A1 n1 c1 A2 n2 c2 A3 n3 c3:=by
 cases r with
 | none=>exact h
 | some pt=>exact ⟨h.1,h.2.1,h.2.2.1,h.2.2.2.1,h.2.2.2.2.1.new_ hb,h.2.2.2.2.2.1.new_ hb,h.2.2.2.2.2.2.new_ hb⟩
theorem prod_uni {m:Nat} {r:Option (ProdT×List Int)} {X w':World} {e:Ending} (h:ProdTo m r X e w'):Below X.heap.size X w'∧∃nm A1 n1 c1 A2 n2 c2 A3 n3 c3,e = .returned (.tuple #[.agg #[.string nm,.slice A1 n1 c1,.slice A2 n2 c2],.slice A3 n3 c3,.bool r.isSome])∧PT m r (fun k=>X.heap.size≤k∧k<w'.heap.size) w' nm A1 n1 c1 A2 n2 c2 A3 n3 c3:=by
 obtain ⟨hb,h⟩:=h
 cases r with
 | none=>exact ⟨hb,_,none,0,0,none,0,0,none,0,0,h,rfl,rfl⟩
 | some pt=>
   obtain ⟨p,tags⟩:=pt
   obtain ⟨A1,c1,A2,c2,A3,c3,he,h1,h2,h3,_⟩:=h
   exact ⟨hb,p.name,A1,_,c1,A2,_,c2,A3,_,c3,he,rfl,rfl,rfl,rfl,h1,h2,h3⟩
def hitV (s:Sym) (e:Elem):Bool:=decide (e.id=s) || (decide (e.value=s) && decide (s.kind=1))
theorem amongV_snoc (es:List Elem) (l:List Sym) (s:Sym):amongV es (l ++ [s])=(amongV es l || es.any (hitV s)):=by
 unfold amongV hitV
 rw [List.any_append]
 simp
set_option maxRecDepth 100000 in
set_option maxHeartbeats 16000000 in
theorem vnew_walk (es:List TraceT) (AE:Option Addr) (cE:Nat) (prefs:List PrefT) (AP:Option Addr) (cP:Nat) (news:List Sym) (AN:Option Addr) (cN:Nat) (w:World) (h1:RowRd w 14 TraceT.cells AE cE es) (h2:RowRd w 16 PrefT.cells AP cP prefs) (h3:RowRd w 3 Sym.cells AN cN news) :
 Calls Tryz.prog 7 #[.slice AE es.length cE,.slice AP prefs.length cP,.slice AN news.length cN] w fun e w'=>e = .returned (.bool true)∧Below w.heap.size w w':=by
 have H1:=Lib.hid h1
 have H2:=Lib.hid h2
 have H3:=Lib.hid h3
 have hc1:=h1.cap
 have hc2:=h2.cap
 have hc3:=h3.cap
 clear h1 h2 h3
 go_enter Tryz.func7,Tryz.ntmps7
 go_wp2_with fail
 refine (heavyv_is es AE cE prefs AP cP _ H1.out H2.out).mono ?_
 rintro e w1 ⟨b,rfl,hb1,hs⟩
 have HB1:=Lib.hid hb1
 have HS:=Lib.hid hs
 clear hb1 hs
 cases b
 case true=>
  go_wp2_with fail
  refine (wakes22_is _).mono ?_
  rintro e w9 ⟨rfl,hb9⟩
  have HBF:=Lib.hid (HB1.out.trans (hb9.mono HB1.out.size))
  clear hb9
  go_wp2_with fail
  go_ret
  exact ⟨rfl,HBF.out⟩
 have hl1:es.length≤20:=(HS.out rfl).1
 have hl2:prefs.length≤20:=(HS.out rfl).2
 cases d0:decide ((10:Int)<(news.length:Int))
 case true=>
  go_wp2_with fail
  refine (wakes22_is _).mono ?_
  rintro e w9 ⟨rfl,hb9⟩
  have HBF:=Lib.hid (HB1.out.trans (hb9.mono HB1.out.size))
  clear hb9
  go_wp2_with fail
  go_ret
  exact ⟨rfl,HBF.out⟩
 have hl3:news.length≤10:=by have:=of_decide_eq_false d0;omega
 clear HS
 go_wp2_with fail
 refine (right_is es AE cE _ (H1.out.new_ HB1.out) hl1).mono ?_
 rintro e w2 ⟨fs,AF,cF,rfl,hfl,hrf,hb2⟩
 have HB1:=Lib.hid (HB1.out.trans (hb2.mono HB1.out.size))
 have HF:=Lib.hid hrf
 have hcf:=hrf.cap
 clear hb2 hrf hc1 hl1 H1 d0
 go_wp2_with fail
 refine (trail_is fs AF cF [] none 0 _ HF.out (RowRd.nil _ _ _) (by omega) (by simp)).mono ?_
 rintro e w3 ⟨hb3,A1,c1,A2,c2,A3,c3,A4,c4,B1,d1,B2,d2,B3,d3,B4,d4,rfl,hr1,hr2⟩
 have HR1:=Lib.hid hr1
 have HR2:=Lib.hid hr2
 have HB1:=Lib.hid (HB1.out.trans (hb3.mono HB1.out.size))
 have HF:=Lib.hid (HF.out.new_ hb3)
 simp only [List.length_nil]
 clear hb3 hr1 hr2
 go_upto_region 6 with fail
 obtain ⟨X3,hX⟩ : ∃W,W=(w3.alloc (.cells #[.slice A1 fs.length c1,.slice A2 0 c2,.slice A3 0 c3,.slice A4 0 c4,.int .i64 0,.int .i64 0] 38)).alloc (.cells #[.slice B1 fs.length d1,.slice B2 0 d2,.slice B3 0 d3,.slice B4 0 d4,.int .i64 0,.int .i64 0] 39):=⟨_,rfl⟩
 obtain ⟨b8,hbx⟩ : ∃b,b=w3.heap.size:=⟨_,rfl⟩
 have K8:=Lib.hid (show Blk X3 b8 38 #[.slice A1 fs.length c1,.slice A2 0 c2,.slice A3 0 c3,.slice A4 0 c4,.int .i64 0,.int .i64 0] by rw [hX,hbx];exact (Blk.new _ _ _).alloc _)
 have hbn:Below w3.heap.size w3 X3:=by rw [hX];exact ((Below.refl _ _).alloc (Nat.le_refl _) _).alloc (by simp) _
 rw [← hX,← hbx]
 clear hX hbx
 have HR1:=Lib.hid (HR1.out.new_ hbn)
 have HR2:=Lib.hid (HR2.out.new_ hbn)
 have HF:=Lib.hid (HF.out.new_ hbn)
 have HB1:=Lib.hid (HB1.out.trans (hbn.mono HB1.out.size))
 clear hbn
 go_wp2_with fail
 refine (trail_is fs AF cF news AN cN _ HF.out (H3.out.new_ HB1.out) (by omega) (by omega)).mono ?_
 rintro e w5 ⟨hb5,P1,p1,P2,p2,P3,p3,P4,p4,Q1,q1,Q2,q2,Q3,q3,Q4,q4,rfl,hr1,hr2⟩
 have HS1:=Lib.hid hr1
 have HS2:=Lib.hid hr2
 clear hr1 hr2
 have HR1:=Lib.hid (HR1.out.new_ hb5)
 have HR2:=Lib.hid (HR2.out.new_ hb5)
 have HF:=Lib.hid (HF.out.new_ hb5)
 have K8:=Lib.hid (K8.out.new_ hb5)
 have HB1:=Lib.hid (HB1.out.trans (hb5.mono HB1.out.size))
 clear hb5
 go_upto_region 7 with fail
 obtain ⟨X5,hX⟩ : ∃W,W=(w5.alloc (.cells #[.slice P1 fs.length p1,.slice P2 0 p2,.slice P3 0 p3,.slice P4 news.length p4,.int .i64 0,.int .i64 0] 38)).alloc (.cells #[.slice Q1 fs.length q1,.slice Q2 0 q2,.slice Q3 0 q3,.slice Q4 news.length q4,.int .i64 0,.int .i64 0] 39):=⟨_,rfl⟩
 obtain ⟨b10,hbx⟩ : ∃b,b=w5.heap.size:=⟨_,rfl⟩
 have K10:=Lib.hid (show Blk X5 b10 38 #[.slice P1 fs.length p1,.slice P2 0 p2,.slice P3 0 p3,.slice P4 news.length p4,.int .i64 0,.int .i64 0] by rw [hX,hbx];exact (Blk.new _ _ _).alloc _)
 have hbn:Below w5.heap.size w5 X5:=by rw [hX];exact ((Below.refl _ _).alloc (Nat.le_refl _) _).alloc (by simp) _
 rw [← hX,← hbx]
 clear hX hbx
 have HR1:=Lib.hid (HR1.out.new_ hbn)
 have HR2:=Lib.hid (HR2.out.new_ hbn)
 have HS1:=Lib.hid (HS1.out.new_ hbn)
 have HS2:=Lib.hid (HS2.out.new_ hbn)
 have HF:=Lib.hid (HF.out.new_ hbn)
 have K8:=Lib.hid (K8.out.new_ hbn)
 have HB1:=Lib.hid (HB1.out.trans (hbn.mono HB1.out.size))
 clear hbn
 obtain ⟨E,hE⟩ : ∃E,E=fs.map TraceT.elem:=⟨_,rfl⟩
 have HE:=Lib.hid hE
 clear hE
 obtain ⟨t0_,t1_,t2_,t3_,t4_,t5_⟩:=K8.out.c6
 have tz:=K8.out.lt
 have HPC:=Lib.hid (prod_is 0 ⟨#[99]⟩ fs A1 c1 A2 c2 A3 c3 [] A4 c4 0 0 prefs AP cP X5 (nov_is _) HR1.out HR2.out (H2.out.new_ HB1.out) (by omega) (by omega) (by decide))
 rw [← HE.out] at HPC
 go_wp2_with fail
 refine HPC.out.mono ?_
 clear HPC
 intro e w6 hp
 obtain ⟨hb6,nm,R1,n1,r1,R2,n2,r2,R3,n3,r3,rfl,hpt⟩:=prod_uni hp
 have HPT1:=Lib.hid hpt
 clear hp hpt t0_ t1_ t2_ t3_ t4_ t5_ tz
 obtain ⟨o1,ho⟩ : ∃o,o=(prodV (0+1) ⟨#[99]⟩ E (fun _=>false) [] prefs).isSome:=⟨_,rfl⟩
 have HO1:=Lib.hid ho
 rw [← ho]
 clear ho
 go_upto_region 8 with fail
 obtain ⟨X7,hX⟩ : ∃W,W=w6.alloc (.cells #[.string nm,.slice R1 n1 r1,.slice R2 n2 r2] 45):=⟨_,rfl⟩
 obtain ⟨b12,hbx⟩ : ∃b,b=w6.heap.size:=⟨_,rfl⟩
 have K12:=Lib.hid (show Blk X7 b12 45 #[.string nm,.slice R1 n1 r1,.slice R2 n2 r2] by rw [hX,hbx];exact Blk.new _ _ _)
 have hbm:Below w6.heap.size w6 X7:=by rw [hX];exact (Below.refl _ _).alloc (Nat.le_refl _) _
 have hbn:Below X5.heap.size X5 X7:=hb6.trans (hbm.mono hb6.size)
 have HPT1:=Lib.hid (HPT1.out.new_ hbm)
 rw [← hX,← hbx]
 clear hX hbx hbm hb6
 have HS1:=Lib.hid (HS1.out.new_ hbn)
 have HS2:=Lib.hid (HS2.out.new_ hbn)
 have HF:=Lib.hid (HF.out.new_ hbn)
 have K10:=Lib.hid (K10.out.new_ hbn)
 have HB1:=Lib.hid (HB1.out.trans (hbn.mono HB1.out.size))
 clear hbn
 obtain ⟨t0_,t1_,t2_,t3_,t4_,t5_⟩:=K10.out.c6
 have tz:=K10.out.lt
 have HPC:=Lib.hid (prod_is 0 ⟨#[99]⟩ fs P1 p1 P2 p2 P3 p3 news P4 p4 0 0 prefs AP cP X7 (nov_is _) HS1.out HS2.out (H2.out.new_ HB1.out) (by omega) (by omega) (by decide))
 rw [← HE.out] at HPC
 go_wp2_with fail
 refine HPC.out.mono ?_
 clear HPC
 intro e w8 hp
 obtain ⟨hb6,nn,S1,m1,s1,S2,m2,s2,S3,m3,s3,rfl,hpt⟩:=prod_uni hp
 have HPT2:=Lib.hid hpt
 clear hp hpt t0_ t1_ t2_ t3_ t4_ t5_ tz
 obtain ⟨o2,ho⟩ : ∃o,o=(prodV (0+1) ⟨#[99]⟩ E (fun _=>false) news prefs).isSome:=⟨_,rfl⟩
 have HO2:=Lib.hid ho
 rw [← ho]
 clear ho
 go_upto_region 11 with fail
 obtain ⟨X9,hX⟩ : ∃W,W=w8.alloc (.cells #[.string nn,.slice S1 m1 s1,.slice S2 m2 s2] 45):=⟨_,rfl⟩
 obtain ⟨b15,hbx⟩ : ∃b,b=w8.heap.size:=⟨_,rfl⟩
 have K15:=Lib.hid (show Blk X9 b15 45 #[.string nn,.slice S1 m1 s1,.slice S2 m2 s2] by rw [hX,hbx];exact Blk.new _ _ _)
 have hbm:Below w8.heap.size w8 X9:=by rw [hX];exact (Below.refl _ _).alloc (Nat.le_refl _) _
 have hbn:Below X7.heap.size X7 X9:=hb6.trans (hbm.mono hb6.size)
 have HPT2:=Lib.hid (HPT2.out.new_ hbm)
 rw [← hX,← hbx]
 clear hX hbx hbm hb6
 have HF:=Lib.hid (HF.out.new_ hbn)
 have HPT1:=Lib.hid (HPT1.out.new_ hbn)
 have K12:=Lib.hid (K12.out.new_ hbn)
 have HB1:=Lib.hid (HB1.out.trans (hbn.mono HB1.out.size))
 clear hbn
 have H3:=Lib.hid (H3.out.new_ HB1.out)
 clear HR1 HR2 HS1 HS2 K8 K10 H2
 go_loopw [18,19] (fun va vi wr=>∃i:Nat,vi = .int .i64 (i:Int)∧i≤news.length∧va = .bool (amongV E (news.take i))∧Below X9.heap.size X9 wr) (fun va vi wr=>news.length - (intOf vi).toNat)
 case atStart=>exact ⟨0,rfl,Nat.zero_le _,rfl,Below.refl _ _⟩
 case round=>
  obtain ⟨i,rfl,hi,rfl,hbw⟩:=hrel
  have HBW:=Lib.hid hbw
  clear hbw
  obtain ⟨am,ham⟩ : ∃b,b=amongV E (news.take i):=⟨_,rfl⟩
  rw [← ham]
  have HAM:=Lib.hid ham
  clear ham
  by_cases hlt:i<news.length
  · skip
    obtain ⟨s,hs⟩ : ∃s,s=news[i]:=⟨_,rfl⟩
    have HSY:=Lib.hid hs
    clear hs
    have v1:IntKind.i64.wrap ((i:Int)+1)=(i:Int)+1:=IntWalk.i64_in _ (by omega)
    go_upto_region 14 with fail
    go_loopw [18,20] (fun va vk W=>∃k:Nat,vk = .int .i64 (k:Int)∧k≤fs.length∧va = .bool (am || (E.take k).any (hitV s))∧Below wr.heap.size wr W) (fun va vk W=>fs.length - (intOf vk).toNat)
    case atStart=>exact ⟨0,rfl,Nat.zero_le _,by simp,Below.refl _ _⟩
    case round=>
     obtain ⟨k,rfl,hk,rfl,hbv⟩:=hrel
     have HBV:=Lib.hid hbv
     clear hbv
     obtain ⟨an,han⟩ : ∃b,b=(am || (E.take k).any (hitV s)):=⟨_,rfl⟩
     rw [← han]
     have HAN:=Lib.hid han
     clear han
     by_cases hlt2:k<fs.length
     · skip
       obtain ⟨y,hy⟩ : ∃y,y=fs[k]:=⟨_,rfl⟩
       obtain ⟨g,off,hAA,hgl,hcell⟩:=(HF.out.new_ (HBW.out.trans (HBV.out.mono HBW.out.size))).at_ hlt2
       subst hAA
       obtain ⟨g2,off2,hAA,hgl2,hcell2⟩:=(H3.out.new_ (HBW.out.trans (HBV.out.mono HBW.out.size))).at_ hlt
       subst hAA
       rw [← hy] at hcell
       rw [← HSY.out] at hcell2
       have HNX:=Lib.hid (show (am || (E.take (k+1)).any (hitV s))=(an || hitV s y.elem) by
        have hkE:k<E.length:=by rw [HE.out,List.length_map];exact hlt2
        have hEk:E[k]=y.elem:=by rw [hy];simp only [HE.out,List.getElem_map]
        rw [take_snocV hkE,List.any_append,HAN.out,hEk,Bool.or_assoc]
        simp)
       clear hy
       have a0:wr.cell? ⟨g,off+k*14,none⟩=some (Value.int IntKind.i64 y.elem.id.kind):=by simpa using hcell 0 _ rfl
       have a1:wr.cell? ⟨g,off+k*14+1,none⟩=some (Value.string y.elem.id.text):=by simpa using hcell 1 _ rfl
       have a2:wr.cell? ⟨g,off+k*14+2,none⟩=some (Value.int IntKind.i64 y.elem.id.n):=by simpa using hcell 2 _ rfl
       have a6:wr.cell? ⟨g,off+k*14+6,none⟩=some (Value.int IntKind.i64 y.elem.value.kind):=by simpa using hcell 6 _ rfl
       have a7:wr.cell? ⟨g,off+k*14+7,none⟩=some (Value.string y.elem.value.text):=by simpa using hcell 7 _ rfl
       have a8:wr.cell? ⟨g,off+k*14+8,none⟩=some (Value.int IntKind.i64 y.elem.value.n):=by simpa using hcell 8 _ rfl
       have z0:wr.cell? ⟨g2,off2+i*3,none⟩=some (Value.int IntKind.i64 s.kind):=by simpa using hcell2 0 _ rfl
       have z1:wr.cell? ⟨g2,off2+i*3+1,none⟩=some (Value.string s.text):=by simpa using hcell2 1 _ rfl
       have z2:wr.cell? ⟨g2,off2+i*3+2,none⟩=some (Value.int IntKind.i64 s.n):=by simpa using hcell2 2 _ rfl
       have v2:IntKind.i64.wrap ((k:Int)+1)=(k:Int)+1:=IntWalk.i64_in _ (by omega)
       have j1:(0:Int)≤(k:Int):=by omega
       have j2:(k:Int)<(fs.length:Int):=by omega
       have j3:(0:Int)≤(i:Int):=by omega
       have j4:(i:Int)<(news.length:Int):=by omega
       clear hcell hcell2
       cases an
       case true=>
        have HH:=Lib.hid (show (true || hitV s y.elem)=true from rfl)
        go_wp2_with fail
        go_quiet (fail)
        have HBV2:=Lib.hid (Below.drewN' HBV.out nq)
        clear a0 a1 a2 a6 a7 a8 z0 z1 z2
        go_wp2_with fail
        go_roundw
        case rel=>exact ⟨k+1,by go_num,by omega,by rw [HNX.out];simp [HH.out],HBV2.out⟩
        case measure=>simp [intOf]<;>omega
       have heq1:=eql_sym y.elem.id s
       have heq2:=eql_sym y.elem.value s
       by_cases he:y.elem.id=s
       case pos=>
        have HH:=Lib.hid (show hitV s y.elem=true by simp [hitV,he])
        have t1:decide (y.elem.id=s)=true:=by simpa using he
        rw [t1] at heq1
        clear he t1 heq2
        go_wp2_with fail
        go_quiet (fail)
        have HBV2:=Lib.hid (Below.drewN' HBV.out nq)
        clear a0 a1 a2 a6 a7 a8 z0 z1 z2
        go_wp2_with fail
        go_roundw
        case rel=>exact ⟨k+1,by go_num,by omega,by rw [HNX.out];simp [HH.out],HBV2.out⟩
        case measure=>simp [intOf]<;>omega
       have t1:decide (y.elem.id=s)=false:=by simpa using he
       rw [t1] at heq1
       by_cases hv:y.elem.value=s
       case neg=>
        have HH:=Lib.hid (show hitV s y.elem=false by simp [hitV,he,hv])
        have t2:decide (y.elem.value=s)=false:=by simpa using hv
        rw [t2] at heq2
        clear he hv t1 t2
        go_wp2_with fail
        go_quiet (fail)
        have HBV2:=Lib.hid (Below.drewN' HBV.out nq)
        clear a0 a1 a2 a6 a7 a8 z0 z1 z2
        go_wp2_with fail
        go_roundw
        case rel=>exact ⟨k+1,by go_num,by omega,by rw [HNX.out];simp [HH.out],HBV2.out⟩
        case measure=>simp [intOf]<;>omega
       have t2:decide (y.elem.value=s)=true:=by simpa using hv
       rw [t2] at heq2
       by_cases hsk:s.kind=1
       case pos=>
        have HH:=Lib.hid (show hitV s y.elem=true by simp [hitV,hv,hsk])
        have k1:(s.kind == 1)=true:=by simp [hsk]
        have k2:decide (s.kind=1)=true:=by simp [hsk]
        clear he hv t1 t2 hsk
        go_wp2_with fail
        go_quiet (fail)
        have HBV2:=Lib.hid (Below.drewN' HBV.out nq)
        clear a0 a1 a2 a6 a7 a8 z0 z1 z2
        go_wp2_with fail
        go_roundw
        case rel=>exact ⟨k+1,by go_num,by omega,by rw [HNX.out];simp [HH.out],HBV2.out⟩
        case measure=>simp [intOf]<;>omega
       have HH:=Lib.hid (show hitV s y.elem=false by simp [hitV,he,hsk])
       have k1:(s.kind == 1)=false:=by simp [hsk]
       have k2:decide (s.kind=1)=false:=by simp [hsk]
       clear he hv t1 t2 hsk
       go_wp2_with fail
       go_quiet (fail)
       have HBV2:=Lib.hid (Below.drewN' HBV.out nq)
       clear a0 a1 a2 a6 a7 a8 z0 z1 z2
       go_wp2_with fail
       go_roundw
       case rel=>exact ⟨k+1,by go_num,by omega,by rw [HNX.out];simp [HH.out],HBV2.out⟩
       case measure=>simp [intOf]<;>omega
     · skip
       obtain rfl:k=fs.length:=by omega
       have jz : ¬(fs.length:Int)<(fs.length:Int):=by omega
       have HNX:=Lib.hid (show amongV E (news.take (i+1))=an by rw [take_snocV hlt,amongV_snoc,← HAM.out,← HSY.out,HAN.out,show fs.length=E.length by rw [HE.out,List.length_map],List.take_length])
       have HBW2:=Lib.hid (HBW.out.trans (HBV.out.mono HBW.out.size))
       go_wp2_with fail
       go_roundw
       case rel=>exact ⟨i+1,by go_num,by omega,by rw [HNX.out],HBW2.out⟩
       case measure=>simp [intOf]<;>omega
  · skip
    obtain rfl:i=news.length:=by omega
    have jz : ¬(news.length:Int)<(news.length:Int):=by omega
    rw [List.take_length] at HAM
    have HB1:=Lib.hid (HB1.out.trans (HBW.out.mono HB1.out.size))
    have HPT1:=Lib.hid (HPT1.out.new_ HBW.out)
    have HPT2:=Lib.hid (HPT2.out.new_ HBW.out)
    have K12:=Lib.hid (K12.out.new_ HBW.out)
    have K15:=Lib.hid (K15.out.new_ HBW.out)
    obtain ⟨u0,u1,u2⟩:=K12.out.c3
    obtain ⟨x0,x1,x2⟩:=K15.out.c3
    have uz:=K12.out.lt
    have xz:=K15.out.lt
    by_cases hgo:o1=true∧am=false
    case neg=>
     have hr2:prodV (0+1) ⟨#[99]⟩ E (fun _=>false) news prefs=none:=by
      refine vnew_none _ _ _ _ _ _ ?_
      rcases Classical.not_and_iff_not_or_not.1 hgo with h | h
      · left
        have h1:o1=false:=by simpa using h
        rw [HO1.out] at h1
        simpa using h1
      · right
        have h1:am=true:=by simpa using h
        rw [← HAM.out];exact h1
     have hz:o2=false∧m1=0∧m3=0:=by
      have h1:=HPT2.out
      have h2:=HO2.out
      rw [hr2] at h1 h2
      exact ⟨h2,h1.1,h1.2⟩
     obtain ⟨rfl,rfl,rfl⟩:=hz
     have HGO:=Lib.hid hgo
     clear hgo hr2 HPT1 HPT2 HO1 HO2 HAM
     cases o1
     case false=>
      go_wp2_with fail
      refine (wakes22_is _).mono ?_
      rintro e w9 ⟨rfl,hb9⟩
      have HBF:=Lib.hid (HB1.out.trans (hb9.mono HB1.out.size))
      clear hb9
      go_wp2_with fail
      go_ret
      exact ⟨rfl,HBF.out⟩
     have ha:am=true:=by have:=HGO.out;simpa using this
     subst ha
     go_wp2_with fail
     refine (wakes22_is _).mono ?_
     rintro e w9 ⟨rfl,hb9⟩
     have HBF:=Lib.hid (HB1.out.trans (hb9.mono HB1.out.size))
     clear hb9
     go_wp2_with fail
     go_ret
     exact ⟨rfl,HBF.out⟩
    obtain ⟨rfl,rfl⟩:=hgo
    obtain ⟨⟨pp,tags⟩,hr⟩:=Option.isSome_iff_exists.1 HO1.out.symm
    have hr2:prodV (0+1) ⟨#[99]⟩ E (fun _=>false) news prefs=some (pp,tags):=by rw [vnew_same _ _ _ _ _ _ HAM.out.symm];exact hr
    have h1:=HPT1.out
    have h2:=HPT2.out
    have h3:=HO2.out
    rw [hr] at h1
    rw [hr2] at h2 h3
    obtain ⟨rfl,rfl,rfl,rfl,g1,g2,g3⟩:=h1
    obtain ⟨rfl,rfl,rfl,rfl,e1,e2,e3⟩:=h2
    obtain rfl:o2=true:=h3
    have G1:=Lib.hid g1
    have G2:=Lib.hid g2
    have G3:=Lib.hid g3
    have E1:=Lib.hid e1
    have E2:=Lib.hid e2
    have E3:=Lib.hid e3
    clear hr hr2 g1 g2 g3 e1 e2 e3 HPT1 HPT2 HO1 HO2 HAM
    go_wp2_with fail
    refine (ints_same _ _ _ _ tags _ G3.out E3.out).mono ?_
    rintro e w10 ⟨rfl,hb⟩
    have HB1:=Lib.hid (HB1.out.trans (hb.mono HB1.out.size))
    have K12:=Lib.hid (K12.out.new_ hb)
    have K15:=Lib.hid (K15.out.new_ hb)
    have G1:=Lib.hid (G1.out.new_ hb)
    have G2:=Lib.hid (G2.out.new_ hb)
    have E1:=Lib.hid (E1.out.new_ hb)
    have E2:=Lib.hid (E2.out.new_ hb)
    clear hb u0 u1 u2 x0 x1 x2 uz xz
    obtain ⟨u0,u1,u2⟩:=K12.out.c3
    obtain ⟨x0,x1,x2⟩:=K15.out.c3
    have uz:=K12.out.lt
    have xz:=K15.out.lt
    go_wp2_with fail
    refine (prod_same 1 pp _ _ _ _ _ _ _ _ _ G1.out G2.out E1.out E2.out).mono ?_
    rintro e w11 ⟨rfl,hb⟩
    have HB1:=Lib.hid (HB1.out.trans (hb.mono HB1.out.size))
    clear hb u0 u1 u2 x0 x1 x2 uz xz
    go_wp2_with fail
    refine (wakes22_is _).mono ?_
    rintro e w9 ⟨rfl,hb9⟩
    have HBF:=Lib.hid (HB1.out.trans (hb9.mono HB1.out.size))
    clear hb9
    go_wp2_with fail
    go_ret
    exact ⟨rfl,HBF.out⟩
end Go.Proofs.YtldndkngpdfpfaaGreat
