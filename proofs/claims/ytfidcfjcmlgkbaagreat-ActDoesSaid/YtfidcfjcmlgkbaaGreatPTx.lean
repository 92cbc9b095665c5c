/-
  Texts put together: ActWk2, LawBinds, Own, OwnC, BkInfo, BkCopy1, LawDoes, RowFlat.
-/
import Derived.Test.YtfidcfjcmlgkbaaGreatPTw
namespace Go.Proofs.YtfidcfjcmlgkbaaGreat
open Lib (hid)
set_option maxRecDepth 100000
set_option maxHeartbeats 32000000
section
open Go.RowKit Go.Shelf
attribute [local go_sem] Oper.semAt_some
def wkT:Z5m:=⟨1,⟨⟨#[120]⟩,⟨0,⟨#[]⟩,0⟩⟩,⟨⟨#[]⟩,⟨2,⟨#[]⟩,1⟩⟩⟩
def wkB:Z05:=⟨⟨#[120]⟩,⟨2,⟨#[]⟩,4⟩⟩
def wkL:Z05:=⟨⟨#[115]⟩,⟨1,⟨#[83]⟩,1⟩⟩
def wkA:ActT:=⟨⟨#[115]⟩,⟨⟨#[]⟩,⟨3,⟨#[97]⟩,0⟩⟩,⟨0,⟨⟨#[111]⟩,⟨0,⟨#[]⟩,0⟩⟩,⟨⟨#[]⟩,⟨0,⟨#[]⟩,0⟩⟩⟩,1,⟨⟨#[]⟩,⟨0,⟨#[]⟩,0⟩⟩⟩
def wkC:ActT:=⟨⟨#[111]⟩,⟨⟨#[]⟩,⟨3,⟨#[98]⟩,0⟩⟩,⟨0,⟨⟨#[]⟩,⟨2,⟨#[]⟩,1⟩⟩,⟨⟨#[]⟩,⟨0,⟨#[]⟩,0⟩⟩⟩,1,⟨⟨#[]⟩,⟨0,⟨#[]⟩,0⟩⟩⟩
def wkP:Z31:=⟨⟨#[97]⟩,[Z79],[wkA,wkC]⟩
theorem Zil:Z29 wkT [wkB]=(⟨2,⟨#[]⟩,5⟩,true):=by kernel_rfl
theorem Ze3 (n:Nat) (k k2:Kn) (c:Z0o) (at_:Int) (h:c.kind=1) (h2:oneK k c=(true,k2)):Z18 (n+1) k [c] at_=(true,at_+1,k2):=by
 rw [Z18,if_neg (by omega),if_pos h,h2];simp only [if_pos h];rw [Z18]
theorem Zdy {n:Nat} {p:Z31} {c:Z0o} {k2:Kn} (h0:(Z19 (n+1) p).2=0) (hc:p.conds = [c]) (hk:c.kind=1) (h2:oneK ([],[]) c=(true,k2)) (h3:p.acts.findIdx? (actV k2)=none):Z1t (n+1) p=(-1,0,k2.2):=by
 unfold Z1t;rw [if_neg (by rw [h0];simp),hc,if_neg (by simp [hk]),Ze3 n _ k2 c 0 hk h2];simp only [h3]
theorem Zik:Z1t 1 wkP=(-1,0,[⟨#[115]⟩]):=Zdy (n:=0) (c:=Z79) (k2:=([⟨#[115]⟩],[⟨#[115]⟩])) (by kernel_rfl) rfl rfl (by kernel_rfl) (by kernel_rfl)
def wkQ:List Z17:=[⟨⟨1,⟨#[83]⟩,1⟩,⟨3,⟨#[97]⟩,0⟩,⟨1,⟨#[79]⟩,1⟩,⟨0,⟨#[]⟩,0⟩,1,false,0,0⟩,⟨⟨1,⟨#[79]⟩,1⟩,⟨3,⟨#[98]⟩,0⟩,⟨2,⟨#[]⟩,1⟩,⟨0,⟨#[]⟩,0⟩,1,false,0,0⟩]
def wkM:List Z05:=[wkL,⟨⟨#[111]⟩,⟨1,⟨#[79]⟩,1⟩⟩]
def wkN:List Sym:=(doV 20 [wkL] wkP.acts []).2
theorem Zkr:doR 1 wkP [wkL] 20 []=((wkQ,wkM,0),wkN):=by
 unfold doR;rw [Zik,if_neg (by simp)]
 kernel_rfl
def WkTo (D:Nat→Prop) (Y:World) (e:Ending) (W':World):Prop:=∃g c g' c',e = .returned (.tuple #[.slice (some ⟨g,0,none⟩) 2 c,.slice (some ⟨g',0,none⟩) 2 c',.int .i64 0])∧g<W'.heap.size∧(2≤c∧c≤maxLen∧2≤c'∧c'≤maxLen)∧
    (W'.cell? ⟨g,6,none⟩=some (.int .i64 1)∧W'.cell? ⟨g,7,none⟩=some (.string ⟨#[79]⟩)∧W'.cell? ⟨g,8,none⟩=some (.int .i64 1))∧
    (W'.cell? ⟨g,16,none⟩=some (.int .i64 1)∧W'.cell? ⟨g,17,none⟩=some (.string ⟨#[79]⟩)∧W'.cell? ⟨g,18,none⟩=some (.int .i64 1))∧Fr (fun j=>¬D j) Y W'
theorem Zk2 {D:Nat→Prop} {Y W':World} {T:TB} {e:Ending} (h:DoTo D Y T ((wkQ,wkM,0),wkN) e W'):WkTo D Y e W':=by
 obtain ⟨A,c,A',c',D',rfl,hq,hm,_,_,_,_,hF⟩:=h;rcases Z0i hq with ⟨_,h0,_⟩ | ⟨g,cap,hv,g1,g2,hr,_,hc⟩
 · cases h0
 rcases Z0i hm with ⟨_,h0,_⟩ | ⟨g',cap',hv',g1',g2',_,_,_⟩
 · cases h0
 injection hv with v1 _ v3;injection hv' with u1 _ u3;subst v1;subst v3;subst u1;subst u3;exact ⟨g,c,g',c',rfl,hr.lt,⟨g1,g2,g1',g2'⟩,⟨hc 6 _ rfl,hc 7 _ rfl,hc 8 _ rfl⟩,⟨hc 16 _ rfl,hc 17 _ rfl,hc 18 _ rfl⟩,hF⟩
theorem Z5k (w:World):Calls Tryz.prog 8 #[] w fun e w'=>e = .returned (.bool true)∧Below w.heap.size w w':=by
 have HB:=hid (Zks w.heap.size w);go_enter Tryz.func8,Tryz.ntmps8;(go_wp2_with fail);(with_reducible refine (Zgv 1 _).mono ?_);rintro e w2 ⟨rfl,hb⟩;have hbs:=Below.trans (show Below w.heap.size w _ from (by (repeat (first | exact Zks _ _ | refine Below.drew ?_ | refine Below.al ?_ _ | refine Below.sc ?_ _)))) (hb.mono (by simp<;>omega));have HB:=hid (HB.out.trans (hbs.mono HB.out.size));have hsz2:=hbs.size;clear  hb hbs;(go_wp2_with fail);(with_reducible refine (Zgv 4 _).mono ?_);rintro e w3 ⟨rfl,hb⟩;have hbs:=Below.trans (show Below w2.heap.size w2 _ from (by (repeat (first | exact Zks _ _ | refine Below.drew ?_ | refine Below.al ?_ _ | refine Below.sc ?_ _)))) (hb.mono (by simp<;>omega));have HB:=hid (HB.out.trans (hbs.mono HB.out.size));have hsz3:=hbs.size;clear  hb hbs;have HV:=hid (show ∀(Y:World) (A:Option Addr),RowR Z0s (fun _=>True) Y A 1 [wkB]→Calls Tryz.prog 36 #[.agg #[.int .i64 1,.string ⟨#[120]⟩,.int .i64 0,.string ⟨#[]⟩,.int .i64 0,.string ⟨#[]⟩,.int .i64 2,.string ⟨#[]⟩,.int .i64 1],.slice A 1 1] Y (Z2k Y (⟨2,⟨#[]⟩,5⟩,true)) from fun Y A h=>by have:=Zdt wkT [wkB] Y h;rw [Zil] at this;exact this);(go_wp2_with fail);have hrb:=Z7a (r:=Z0s) (D:=fun _=>True) (a:=wkB) (cs:=[.string ⟨#[120]⟩,.int .i64 2,.string ⟨#[]⟩,.int .i64 4]) (Blk.new w3 40 #[.string ⟨#[120]⟩,.int .i64 2,.string ⟨#[]⟩,.int .i64 4]) trivial rfl;(with_reducible refine (HV.out _ _ hrb).mono ?_);rintro e w4 ⟨rfl,hb⟩;have hbs:=Below.trans (show Below w3.heap.size w3 _ from (by (repeat (first | exact Zks _ _ | refine Below.drew ?_ | refine Below.al ?_ _ | refine Below.sc ?_ _)))) (hb.mono (by simp<;>omega));have HB:=hid (HB.out.trans (hbs.mono HB.out.size));have hsz4:=hbs.size;clear  hb hbs;(go_wp2_with fail);(with_reducible refine (Zjk _).mono ?_);rintro e w5 ⟨Ac,Aa,rfl,hrc,_,hb⟩;have hbs:=Below.trans (show Below w4.heap.size w4 _ from (by (repeat (first | exact Zks _ _ | refine Below.drew ?_ | refine Below.al ?_ _ | refine Below.sc ?_ _)))) (hb.mono (by simp<;>omega));have Kv:=hid (show Blk w5 (w4.heap.size) 38 #[.int .i64 2,.string ⟨#[]⟩,.int .i64 5] from (Blk.new _ _ _).new_ hb);have HB:=hid (HB.out.trans (hbs.mono HB.out.size));have hsz5:=hbs.size;clear  hb hbs;obtain ⟨v0,v1,v2⟩:=Kv.out.c3;have vz:=Kv.out.lt;have HRC:=hid (hrc.weaken (D':=fun _=>True) (fun _ _=>trivial));have hrcd:=hrc;clear hrc;have hs0:=HB.out.size;have HRD:=hid (show RowR (Z0g 1) (· < w5.heap.size) w5 Ac 1 [Z79] from hrcd.weaken (fun k hk=>hk.2));clear hrcd
 (go_wp2_with fail);(with_reducible refine (Zix ⟨#[97]⟩ _).mono ?_);rintro e w6 ⟨rfl,hb⟩;have hbs:=Below.trans (show Below w5.heap.size w5 _ from (by (repeat (first | exact Zks _ _ | refine Below.drew ?_ | refine Below.al ?_ _ | refine Below.sc ?_ _)))) (hb.mono (by simp<;>omega));have Kv:=hid (Kv.out.new_ hbs);have HRD:=hid (HRD.out.new_ hbs);have Kp:=hid (show Blk w6 (w5.heap.size) 25 #[.string ⟨#[97]⟩,.slice Ac 1 1,.slice Aa 1 1] from (Blk.new _ _ _).new_ hb);have HB:=hid (HB.out.trans (hbs.mono HB.out.size));have hsz6:=hbs.size;clear v0 v1 v2 vz hb hbs;obtain ⟨v0,v1,v2⟩:=Kv.out.c3;have vz:=Kv.out.lt;obtain ⟨p0,p1,p2⟩:=Kp.out.c3;have pf0:=Kp.out.frozen 0;have pf1:=Kp.out.frozen 1;have pf2:=Kp.out.frozen 2;have pz:=Kp.out.lt;(go_wp2_with fail);(with_reducible refine (Zix ⟨#[98]⟩ _).mono ?_);rintro e w7 ⟨rfl,hb⟩;have hbs:=Below.trans (show Below w6.heap.size w6 _ from (by (repeat (first | exact Zks _ _ | refine Below.drew ?_ | refine Below.al ?_ _ | refine Below.sc ?_ _)))) (hb.mono (by simp<;>omega));have Kv:=hid (Kv.out.new_ hbs);have Kp:=hid (Kp.out.new_ hbs);have HRD:=hid (HRD.out.new_ hbs);have HB:=hid (HB.out.trans (hbs.mono HB.out.size));have hsz7:=hbs.size;clear v0 v1 v2 vz p0 p1 p2 pf0 pf1 pf2 pz hb hbs;obtain ⟨v0,v1,v2⟩:=Kv.out.c3;have vz:=Kv.out.lt;obtain ⟨p0,p1,p2⟩:=Kp.out.c3;have pf0:=Kp.out.frozen 0;have pf1:=Kp.out.frozen 1;have pf2:=Kp.out.frozen 2;have pz:=Kp.out.lt;(go_wp2_with fail);(with_reducible refine (Zgv 1 _).mono ?_);rintro e w8 ⟨rfl,hb⟩;have hbs:=Below.trans (show Below w7.heap.size w7 _ from (by (repeat (first | exact Zks _ _ | refine Below.drew ?_ | refine Below.al ?_ _ | refine Below.sc ?_ _)))) (hb.mono (by simp<;>omega));have Kv:=hid (Kv.out.new_ hbs);have Kp:=hid (Kp.out.new_ hbs);have HRD:=hid (HRD.out.new_ hbs)
 have HB:=hid (HB.out.trans (hbs.mono HB.out.size));have hsz8:=hbs.size;clear v0 v1 v2 vz p0 p1 p2 pf0 pf1 pf2 pz hb hbs;obtain ⟨v0,v1,v2⟩:=Kv.out.c3;have vz:=Kv.out.lt;obtain ⟨p0,p1,p2⟩:=Kp.out.c3;have pf0:=Kp.out.frozen 0;have pf1:=Kp.out.frozen 1;have pf2:=Kp.out.frozen 2;have pz:=Kp.out.lt;(go_wp2_with fail);obtain ⟨X,hX⟩ : ∃X,X=w8.setCell ⟨w5.heap.size,2,none⟩ (.slice (some ⟨w8.heap.size,0,none⟩) 2 2):=⟨_,rfl⟩;rw [← hX];(have hFX:Fr (· = w5.heap.size) w8 X:=by rw [hX];exact (Fr.refl (· = w5.heap.size) w8).setCell (p:=⟨w5.heap.size,2,none⟩) (.inl rfl) _);(have hsX:X.heap.size=w8.heap.size:=by rw [hX];simp);(have KpX:Blk X w5.heap.size 25 #[.string ⟨#[97]⟩,.slice Ac 1 1,.slice (some ⟨w8.heap.size,0,none⟩) 2 2]:=by rw [hX];simpa using (Kp.out.set_ 2 (.slice (some ⟨w8.heap.size,0,none⟩) 2 2)));have KvX:=Kv.out.fr hFX (Kv.out.ne_ Kp.out (by decide));obtain ⟨Z,hZ⟩ : ∃Z,Z=X.alloc (.cells #[.string ⟨#[115]⟩,.string ⟨#[]⟩,.int .i64 3,.string ⟨#[97]⟩,.int .i64 0,.int .i64 0,.string ⟨#[111]⟩,.int .i64 0,.string ⟨#[]⟩,.int .i64 0,.string ⟨#[]⟩,.int .i64 0,.string ⟨#[]⟩,.int .i64 0,.int .i64 1,.string ⟨#[]⟩,.int .i64 0,.string ⟨#[]⟩,.int .i64 0,.string ⟨#[111]⟩,.string ⟨#[]⟩,.int .i64 3,.string ⟨#[98]⟩,.int .i64 0,.int .i64 0,.string ⟨#[]⟩,.int .i64 2,.string ⟨#[]⟩,.int .i64 1,.string ⟨#[]⟩,.int .i64 0,.string ⟨#[]⟩,.int .i64 0,.int .i64 1,.string ⟨#[]⟩,.int .i64 0,.string ⟨#[]⟩,.int .i64 0] 96):=⟨_,rfl⟩;rw [← hZ];(have hbZX:Below X.heap.size X Z:=by rw [hZ];exact (Zks _ _).alloc (Zkt _) _);(have ga:Blk Z w8.heap.size 96 #[.string ⟨#[115]⟩,.string ⟨#[]⟩,.int .i64 3,.string ⟨#[97]⟩,.int .i64 0,.int .i64 0,.string ⟨#[111]⟩,.int .i64 0,.string ⟨#[]⟩,.int .i64 0,.string ⟨#[]⟩,.int .i64 0,.string ⟨#[]⟩,.int .i64 0,.int .i64 1,.string ⟨#[]⟩,.int .i64 0,.string ⟨#[]⟩,.int .i64 0,.string ⟨#[111]⟩,.string ⟨#[]⟩,.int .i64 3,.string ⟨#[98]⟩,.int .i64 0,.int .i64 0,.string ⟨#[]⟩,.int .i64 2,.string ⟨#[]⟩,.int .i64 1,.string ⟨#[]⟩,.int .i64 0,.string ⟨#[]⟩,.int .i64 0,.int .i64 1,.string ⟨#[]⟩,.int .i64 0,.string ⟨#[]⟩,.int .i64 0]:=by rw [hZ,← hsX];exact Blk.new _ _ _);have hzw:=HB.out.size;have hpw:w.heap.size≤w5.heap.size:=hs0;have HBZ:=hid ((HB.out.trans (hFX.below hzw (fun k hk hn=>by omega))).trans (hbZX.mono (by omega)));have hzX:=hbZX.size;have hlX:=ga.lt;have HRA:=hid (show RowR Z0r (· < Z.heap.size) Z (some ⟨w8.heap.size,0,none⟩) 2 [wkA,wkC] from Zjp (cs:=[.string ⟨#[115]⟩,.string ⟨#[]⟩,.int .i64 3,.string ⟨#[97]⟩,.int .i64 0,.int .i64 0,.string ⟨#[111]⟩,.int .i64 0,.string ⟨#[]⟩,.int .i64 0,.string ⟨#[]⟩,.int .i64 0,.string ⟨#[]⟩,.int .i64 0,.int .i64 1,.string ⟨#[]⟩,.int .i64 0,.string ⟨#[]⟩,.int .i64 0]) (ds:=[.string ⟨#[111]⟩,.string ⟨#[]⟩,.int .i64 3,.string ⟨#[98]⟩,.int .i64 0,.int .i64 0,.string ⟨#[]⟩,.int .i64 2,.string ⟨#[]⟩,.int .i64 1,.string ⟨#[]⟩,.int .i64 0,.string ⟨#[]⟩,.int .i64 0,.int .i64 1,.string ⟨#[]⟩,.int .i64 0,.string ⟨#[]⟩,.int .i64 0]) ga hlX rfl rfl);have hpz:=KpX.lt;have HRC:=hid (show RowR (Z0g 1) (· < Z.heap.size) Z Ac 1 [Z79] from ((HRD.out.fr hFX (fun k hk hn=>by omega)).new_ hbZX).weaken (fun k hk=>by omega));have Kp:=hid (KpX.new_ hbZX);have Kv:=hid (KvX.new_ hbZX);(have ps8:w5.heap.size<Z.heap.size:=by omega);have HBZ0:=hid (show w.heap.size≤Z.heap.size by omega);clear hX hFX hZ hbZX KpX KvX ga HB;have HB:=hid HBZ.out;clear HBZ;clear v0 v1 v2 vz p0 p1 p2 pf0 pf1 pf2 pz HRD;obtain ⟨v0,v1,v2⟩:=Kv.out.c3;have vz:=Kv.out.lt;obtain ⟨p0,p1,p2⟩:=Kp.out.c3;have pz:=Kp.out.lt
 (with_reducible refine (Zin 20 Z (by decide) (by decide)).mono ?_);rintro e w21 ⟨T,rfl,hroom,hgt,hb⟩;have hbs:=Below.trans (show Below Z.heap.size Z _ from (by (repeat (first | exact Zks _ _ | refine Below.drew ?_ | refine Below.al ?_ _ | refine Below.sc ?_ _)))) (hb.mono (by simp<;>omega));have Kv:=hid (Kv.out.new_ hbs);have Kp:=hid (Kp.out.new_ hbs);have HRC:=hid (HRC.out.new_ hbs);have HRA:=hid (HRA.out.new_ hbs);have HB:=hid (HB.out.trans (hbs.mono HB.out.size));have hsz21:=hbs.size;clear v0 v1 v2 vz p0 p1 p2 pz hb hbs;obtain ⟨v0,v1,v2⟩:=Kv.out.c3;have vz:=Kv.out.lt;obtain ⟨p0,p1,p2⟩:=Kp.out.c3;have pz:=Kp.out.lt;have HT:=hid hgt;have HROOM:=hid hroom;clear hgt hroom;go_upto_region 7 with fail
 have HDO:=hid (show ∀(D:Nat→Prop) (Y:World) (Al:Option Addr),GT D Y T []→RowR (Z0g 1) D Y Ac 1 [Z79]→RowR Z0r D Y (some ⟨w8.heap.size,0,none⟩) 2 [wkA,wkC]→RowR Z0s D Y Al 1 [wkL]→
  Calls Tryz.prog 12 #[.agg #[.string ⟨#[97]⟩,.slice Ac 1 1,.slice (some ⟨w8.heap.size,0,none⟩) 2 2],.slice Al 1 1,.pointer (some ⟨T.b,0,none⟩)] Y (WkTo D Y) from fun D Y Al g1 g2 g3 g4=>by
  have:=Zkb (D:=D) 1 wkP [wkL] Ac (some ⟨w8.heap.size,0,none⟩) Al 1 2 1 Y T [] g1 g2 g3 g4 (by decide) (by decide) (by decide);rw [HROOM.out,Zkr] at this
  exact this.mono (fun _ _ h=>Zk2 h))
 refine Z08 (fun w9=>Below w21.heap.size w21 w9) [(0,1),(4,0),(1,2),(2,0),(3,2),(5,2),(6,0),(7,0),(8,0),(9,0),(10,0),(11,0),(12,0)] (by kernel_rfl) (by kernel_rfl) (fun KK hKK=>?_);simp only [Z0h,Zl2,Zl0,Zkz,Zkv,Zky,Zl4];(repeat ((first | (refine Z0b ?_ (Or.inl ⟨by rfl,fun w9=>?_⟩) ?_;rotate_left 1;go_simp;with_reducible rfl) | (refine Z0a ?_ ((Zks _ _).drew) (Or.inl ⟨by rfl,fun w9 hw9=>?_⟩) ?_;rotate_left 1;have q0:=(hw9.cell (p:=⟨w5.heap.size,0,none⟩) pz).trans p0;have q1:=(hw9.cell (p:=⟨w5.heap.size,1,none⟩) pz).trans p1;have q2:=(hw9.cell (p:=⟨w5.heap.size,2,none⟩) pz).trans p2;go_simp;with_reducible rfl) | refine Z0b undef (Or.inr ⟨by rfl,rfl⟩) ?_ | refine Z0a undef ((Zks _ _).drew) (Or.inr ⟨by rfl,rfl⟩) ?_);go_frame));refine Z27 (fun K9 hK9=>?_);go_simp;refine (Ziu _ _ _).mono ?_;rintro e w22 ⟨rfl,hb22⟩;have HB22:=hid ((Zks w21.heap.size w21).drew.trans (hb22.mono (by simp)));clear hb22;refine hK9 _ _ HB22.out ?_;clear hK9 K9;(repeat ((first | (refine Z0b ?_ (Or.inl ⟨by rfl,fun w9=>?_⟩) ?_;rotate_left 1;go_simp;with_reducible rfl) | (refine Z0a ?_ (HB22.out) (Or.inl ⟨by rfl,fun w9 hw9=>?_⟩) ?_;rotate_left 1;have q0:=(hw9.cell (p:=⟨w5.heap.size,0,none⟩) pz).trans p0;have q1:=(hw9.cell (p:=⟨w5.heap.size,1,none⟩) pz).trans p1;have q2:=(hw9.cell (p:=⟨w5.heap.size,2,none⟩) pz).trans p2;go_simp;with_reducible rfl) | refine Z0b undef (Or.inr ⟨by rfl,rfl⟩) ?_ | refine Z0a undef (HB22.out) (Or.inr ⟨by rfl,rfl⟩) ?_);go_frame));refine Z27 (fun K9 hK9=>?_);go_simp;have HB23:=hid (show Below w21.heap.size w21 (w22.alloc (.cells #[.string ⟨#[115]⟩,.int .i64 1,.string ⟨#[83]⟩,.int .i64 1] 40)) from HB22.out.alloc HB22.out.size _);refine hK9 _ _ HB23.out ?_;clear hK9 K9;refine Z2m (by kernel_rfl) (fun K9 hK9=>?_);go_simp;have HPL:=hid (HT.out.plus HB23.out);have hb22:Below w22.heap.size w22 (w22.alloc (.cells #[.string ⟨#[115]⟩,.int .i64 1,.string ⟨#[83]⟩,.int .i64 1] 40)):=(Zks _ _).alloc (Zkt _) _;refine (HDO.out (Plus (· < Z.heap.size) w21 (w22.alloc (.cells #[.string ⟨#[115]⟩,.int .i64 1,.string ⟨#[83]⟩,.int .i64 1] 40))) (w22.alloc (.cells #[.string ⟨#[115]⟩,.int .i64 1,.string ⟨#[83]⟩,.int .i64 1] 40)) (some ⟨w22.heap.size,0,none⟩) HPL.out ((HRC.out.new_ HB23.out).weaken (fun k hk=>.inl hk)) ((HRA.out.new_ HB23.out).weaken (fun k hk=>.inl hk)) (Z7a (cs:=[.string ⟨#[115]⟩,.int .i64 1,.string ⟨#[83]⟩,.int .i64 1]) (Blk.new _ _ _) (.inr ⟨HB22.out.size,by simp⟩) rfl)).mono ?_;rintro e w24 ⟨g,c,g',c',rfl,hgl,⟨hc1,hc2,hc3,hc4⟩,⟨g6,g7,g8⟩,⟨g16,g17,g18⟩,hF⟩;have HB24:=hid (show Below w.heap.size w w24 from (HB.out.trans (HB23.out.mono HB.out.size)).trans (hF.below (by have:=HB23.out.size;have:=HB.out.size;omega) (fun k hk hn=>hn (.inl (by have:=HBZ0.out;omega)))));clear hF hb22;refine hK9 _ _ ?_;clear hK9 K9;(repeat ((first | (refine Z0b ?_ (Or.inl ⟨by rfl,fun w9=>?_⟩) ?_;rotate_left 1;go_simp;with_reducible rfl) | (refine Z0a ?_ (HB23.out) (Or.inl ⟨by rfl,fun w9 hw9=>?_⟩) ?_;rotate_left 1;have q0:=(hw9.cell (p:=⟨w5.heap.size,0,none⟩) pz).trans p0;have q1:=(hw9.cell (p:=⟨w5.heap.size,1,none⟩) pz).trans p1;have q2:=(hw9.cell (p:=⟨w5.heap.size,2,none⟩) pz).trans p2;go_simp;with_reducible rfl) | refine Z0b undef (Or.inr ⟨by rfl,rfl⟩) ?_ | refine Z0a undef (HB23.out) (Or.inr ⟨by rfl,rfl⟩) ?_);go_frame));refine Z0u ?_;simp only [Z02];refine hKK _ _ ?_;clear hKK KK;(go_upto_region 8 with fail);refine Z08 (fun w9=>Below w24.heap.size w24 w9) [(0,0),(1,0),(2,0),(3,0),(4,0),(5,0),(6,0),(7,0),(8,0),(9,0),(10,0),(11,0),(12,0),(13,0),(14,0),(15,0),(16,1),(17,2),(18,0),(19,0),(20,0),(21,0),(22,0),(23,0),(24,1),(25,0),(26,0),(27,0),(28,1),(29,0),(30,0),(31,0)] (by kernel_rfl) (by kernel_rfl) (fun KK hKK=>?_);simp only [Z0h,Zl2,Zl0,Zkz,Zkv,Zky,Zl4];(repeat ((first | (refine Z0b ?_ (Or.inl ⟨by rfl,fun w9=>?_⟩) ?_;rotate_left 1;go_simp;with_reducible rfl) | (refine Z0a ?_ ((Zks _ _).drew) (Or.inl ⟨by rfl,fun w9 hw9=>?_⟩) ?_;rotate_left 1;have q6:=(hw9.cell (p:=⟨g,6,none⟩) hgl).trans g6;have q7:=(hw9.cell (p:=⟨g,7,none⟩) hgl).trans g7;have q8:=(hw9.cell (p:=⟨g,8,none⟩) hgl).trans g8;have q16:=(hw9.cell (p:=⟨g,16,none⟩) hgl).trans g16;have q17:=(hw9.cell (p:=⟨g,17,none⟩) hgl).trans g17;have q18:=(hw9.cell (p:=⟨g,18,none⟩) hgl).trans g18;go_simp;with_reducible rfl) | refine Z0b undef (Or.inr ⟨by rfl,rfl⟩) ?_ | refine Z0a undef ((Zks _ _).drew) (Or.inr ⟨by rfl,rfl⟩) ?_);go_frame));refine Z27 (fun K9 hK9=>?_);go_simp;refine (Ziu _ _ _).mono ?_;rintro e w25 ⟨rfl,hb25⟩;have HB25:=hid ((Zks w24.heap.size w24).drew.trans (hb25.mono (by simp)))
 clear hb25;refine hK9 _ _ HB25.out ?_;clear hK9 K9;(repeat ((first | (refine Z0b ?_ (Or.inl ⟨by rfl,fun w9=>?_⟩) ?_;rotate_left 1;go_simp;with_reducible rfl) | (refine Z0a ?_ (HB25.out) (Or.inl ⟨by rfl,fun w9 hw9=>?_⟩) ?_;rotate_left 1;have q6:=(hw9.cell (p:=⟨g,6,none⟩) hgl).trans g6;have q7:=(hw9.cell (p:=⟨g,7,none⟩) hgl).trans g7;have q8:=(hw9.cell (p:=⟨g,8,none⟩) hgl).trans g8;have q16:=(hw9.cell (p:=⟨g,16,none⟩) hgl).trans g16;have q17:=(hw9.cell (p:=⟨g,17,none⟩) hgl).trans g17;have q18:=(hw9.cell (p:=⟨g,18,none⟩) hgl).trans g18;go_simp;with_reducible rfl) | refine Z0b undef (Or.inr ⟨by rfl,rfl⟩) ?_ | refine Z0a undef (HB25.out) (Or.inr ⟨by rfl,rfl⟩) ?_);go_frame));refine Z0u ?_;simp only [Z02];refine hKK _ _ ?_;clear hKK KK;(go_wp2_with fail);go_ret;exact ⟨rfl,HB24.out.trans (HB25.out.mono HB24.out.size)⟩
end
section
open Go.RowKit Go.Shelf
def Z7y (b:Z05):Bool:=decide (b.var.size≤100) && decide (b.sym.text.size≤100)
def Z68 (l:List Z05):Bool:=decide (l.length≤40) && l.all Z7y
theorem Zh5 {D:Nat→Prop} {A:Option Addr} {c:Nat} (l:List Z05) (w:World) (h:RowR Z0s D w A c l):Calls Tryz.prog 7 #[.slice A l.length c] w fun e w'=>e = .returned (.bool (Z68 l))∧w=w':=by
 have H:=hid h;have hlc:=h.cap;clear h;go_enter Tryz.func7,Tryz.ntmps7;by_cases h40:l.length≤40
 · have t1:decide ((40:Int)<(l.length:Int))=false:=by simp;omega
   have H40:=hid h40;clear h40;go_wp2_with fail
   go_loopw [3] (fun s wr=>∃i:Nat,s = .int .i64 i∧i≤l.length∧(∀k,(h:k<l.length)→k<i→Z7y l[k]=true)∧wr=w) (fun s wr=>l.length - (intOf s).toNat)
   case atStart=>exact ⟨0,rfl,Nat.zero_le _,fun k _ h=>absurd h (by omega),rfl⟩
   case round=>
    obtain ⟨i,rfl,hi,hall,rfl⟩:=hrel;have HALL:=hid hall;clear hall t1;by_cases hlt:i<l.length
    · obtain ⟨x,hx⟩ : ∃x,x=l[i]:=⟨_,rfl⟩
      obtain ⟨g,off,rfl,_,hgs,q0,q1,q2,q3⟩:=Z5c H.out hlt;rw [← hx] at q0 q1 q2 q3;(have b1:(0:Int)≤(i:Int):=by omega);(have b2:(i:Int)<(l.length:Int):=by omega);have HX:=hid hx;clear hx
      have hno:Z7y x=false→Z68 l=false:=fun h=>by
       unfold Z68
       have:l.all Z7y=false:=by
        rw [List.all_eq_false];exact ⟨x,by rw [HX.out];exact Zlj hlt,by simp [h]⟩
       rw [this,Bool.and_false]
      have HNO:=hid hno;clear hno;by_cases h1:x.var.size≤100
      · by_cases h2:x.sym.text.size≤100
        · have t1:decide ((100:Int)<(x.var.size:Int))=false:=by simp;omega
          (have t2:decide ((100:Int)<(x.sym.text.size:Int))=false:=by simp;omega);have HBX:=hid (show Z7y x=true by simp [Z7y,h1,h2]);clear h1 h2;(go_wp2_with fail);go_roundw
          case rel=>
           refine ⟨i+1,by go_num,by omega,fun k h hk=>?_,by trivial⟩;rcases Nat.lt_or_ge k i with h3 | h3
           · exact HALL.out k h h3
           · obtain rfl:k=i:=by omega
             rw [← HX.out];exact HBX.out
          case measure=>simp [intOf]<;>omega
        · have t1:decide ((100:Int)<(x.var.size:Int))=false:=by simp;omega
          (have t2:decide ((100:Int)<(x.sym.text.size:Int))=true:=by simp;omega);have HBX:=hid (show Z7y x=false by simp [Z7y,h2]);clear h1 h2;(go_wp2_with fail);go_ret;exact ⟨by rw [HNO.out HBX.out];rfl,rfl⟩
      · have t1:decide ((100:Int)<(x.var.size:Int))=true:=by simp;omega
        have HBX:=hid (show Z7y x=false by simp [Z7y,h1]);clear h1;(go_wp2_with fail);go_ret;exact ⟨by rw [HNO.out HBX.out];rfl,rfl⟩
    · have hie:i=l.length:=by omega
      subst hie;(go_wp2_with fail);go_ret;refine ⟨?_,rfl⟩
      have:Z68 l=true:=by
       have h1:l.all Z7y=true:=by
        rw [Zlg];intro x hx;obtain ⟨k,hk,rfl⟩:=List.getElem_of_mem hx;exact HALL.out k hk hk
       simp [Z68,H40.out,h1]
      rw [this];rfl
 · have t1:decide ((40:Int)<(l.length:Int))=true:=by simp;omega
   have HR:=hid (show Z68 l=false by simp [Z68,h40]);clear h40;(go_wp2_with fail);go_ret;exact ⟨by rw [HR.out];rfl,rfl⟩
end
section
open Go.RowKit
inductive Ziz {α β:Type} (R:α→β→Prop):List α→List β→Prop
 | nil:Ziz R [] []
 | cons {a:α} {b:β} {l:List α} {m:List β}:R a b→Ziz R l m→Ziz R (a :: l) (b :: m)
section
variable {α β:Type} {R R':α→β→Prop}
end
section
variable {α:Type} {r:RepT α} {e:TypeId} {base:Nat} {w w':World} {v:Value} {l:List α}
end
section
variable {P:Program} (w:World)
end
section
variable {P:Program} {α:Type} {r:RepT α} (w:World)
end
end
section
open Go.RowKit
def NewD (B:Nat) (w:World):Nat→Prop:=fun k=>B≤k∧k<w.heap.size
theorem Zkh {w:World} {e:TypeId} {size n:Nat} {v:Value} {xs:List Value} (h:w.ownsRow 0 e size v n xs) : ∀k,v.ownBlock=some k→k<w.heap.size:=by
 intro k hk;rcases h.2 with ⟨rfl,_⟩ | ⟨g,cap,cur,rfl,_,hg,_⟩
 · cases hk
 · simp only [Value.ownBlock,Option.some.injEq] at hk
   subst hk;exact Blk.lt (t:=e) hg
section
variable {α:Type} {r:RepT α} {e:TypeId} {C C':Nat→Prop} {w w':World} {v:Value} {l:List α}
end
section
variable {P:Program} {α:Type} {r:RepT α} (w:World)
end
end
section
open Go.RowKit
theorem Zhq:(Tryz.prog.info? 40).map (fun i=>(i.zero,i.size,i.bytes))=some (some (.agg #[.string ⟨#[]⟩,.int .i64 0,.string ⟨#[]⟩,.int .i64 0]),4,48):=by kernel_rfl
theorem Zi1 (l:List Z05) : ∀u∈l.flatMap Z05.cells,u.oneCell'=true:=by
 intro u hu;obtain ⟨b,_,hb⟩:=List.mem_flatMap.1 hu;simp only [Z05.cells,Zl7,Zl9,or_false] at hb;rcases hb with rfl | rfl | rfl | rfl<;>rfl
theorem infp {P:Program} {t:TypeId} {z:Value} {s b:Nat} (h:(P.info? t).map (fun i=>(i.zero,i.size,i.bytes))=some (some z,s,b)) : ∃i,P.info? t=some i∧i.zero=some z∧i.size=s∧i.bytes=b:=by
 cases hq:P.info? t with
 | none=>rw [hq] at h;cases h
 | some i=>
   rw [hq] at h;simp only [Zl4,Option.some.injEq,Prod.mk.injEq] at h;exact ⟨i,rfl,h.1,h.2.1,h.2.2⟩
def Zk5 {α:Type} (e size:Nat) (cells:α→List Value) (l:List α) (w:World) (en:Ending) (w':World):Prop:=
 ∃A c,en = .returned (.slice A l.length c)∧w'.ownsRow 0 e size (.slice A l.length c) l.length (l.flatMap cells)∧AIn A (NewD w.heap.size w')∧Below w.heap.size w w'
theorem Zfi {α:Type} {e size:Nat} {cells:α→List Value} {l:List α} {w w':World} {v v0:Value} (hown:w'.ownsRow 0 e size v l.length (l.flatMap cells)) (hat:v.ownBlock=v0.ownBlock∨v.ownBlock=some w.heap.size) (h0:v0.ownBlock=none) (hg:w.grownBy w' v0.ownBlock) :
 ∃A c,v = .slice A l.length c∧w'.ownsRow 0 e size (.slice A l.length c) l.length (l.flatMap cells)∧AIn A (NewD w.heap.size w')∧Below w.heap.size w w':=by
 have hlt:=Zkh hown;obtain ⟨A,c,rfl,_,_,_⟩:=Z1y hown;refine ⟨A,c,rfl,hown,fun a ha=>?_,(Zks w.heap.size w).grown hg (Zkt _) (fun k hk=>by rw [h0] at hk;cases hk)⟩;subst ha;rcases hat with h | h
 · rw [h0] at h;cases h
 · have:=hlt a.block rfl
   simp only [Value.ownBlock,Option.some.injEq] at h;exact ⟨by omega,this⟩
theorem Zgb (W:World) (e size:Nat):W.ownsRow 0 e size (.slice none 0 0) 0 []:=⟨by simp,.inl ⟨rfl,rfl⟩⟩
theorem Zj9 (A:Option Addr) (c:Nat) (l:List Z05) (w:World) (hrd:Z0k w 4 Z05.cells A c l) (hl:(l.length:Int)≤100000) :
 Calls Tryz.prog 11 #[.slice A l.length c] w (Zk5 40 4 Z05.cells l w):=by
 obtain ⟨i0,hi0,hz0,hz1,hz2⟩:=infp Zhq;have HRD:=hid hrd;have hlc:=hrd.cap;have hlcc:=hrd.1;clear hrd;go_enter Tryz.func11,Tryz.ntmps11;(go_wp2_with (at_builtin;refine Z04 w rfl (.const (.slice none 0 0)) (.tmp 3) 26 rfl 40 i0 _ 4 48 Tryz.underlying26 hi0 hz0 hz1 hz2 rfl (by omega) (.slice none 0 0) 0 [] rfl (Zgb w _ _) A l.length c (l.flatMap Z05.cells) rfl (Z0m Z05.cells_length _) (HRD.out.news Z05.cells_length (by omega)) (Zi1 _) (by unfold maxLen;omega) (by omega) ?_;intro v1 w2 hown1 hg1 hnil1 hat1));go_ret;rw [Zlm,Zl8] at hown1;obtain ⟨A',c',rfl,h1,h2,h3⟩:=Zfi hown1 hat1 rfl hg1;exact ⟨A',c',rfl,h1,h2,h3⟩
end
section
open Go.RowKit Go.Shelf
attribute [local go_sem] Oper.semAt_some
theorem Zfb {n:Nat} {p:Z31} {l:List Z05} {room:Int} {L:List Sym} (hs:Srt Z01 L) (hr:(L.length:Int)≤room):rdoR n p l room L=doR n p l room L:=by
 unfold rdoR doR;by_cases h:(Z1t n p).2.1=0
 · rw [if_neg (by rw [h];simp),if_neg (by rw [h];simp)]
   exact Zkk (Z93 h) hs hr
 · rw [if_pos h,if_pos h]
structure DX (w:World) (T:TB) (k:Nat) (room:Int) (L:List Sym) (bl l:List Z05) (B0 B:Nat) (Ab Ai:Option Addr) (cb ci:Nat) (D:Nat→Prop) (X:World):Prop where
 td:TD w T k room L L D X
 b:X.ownsRow 0 40 4 (.slice Ab bl.length cb) bl.length (bl.flatMap Z05.cells)
 bd:AIn Ab D
 i:RowR Z0s (fun j=>D j∧B0≤j∧j<B) X Ai ci l
section
variable {w X Y:World} {T:TB} {k:Nat} {room:Int} {L:List Sym} {bl l:List Z05} {B0 B:Nat} {Ab Ai:Option Addr} {cb ci:Nat} {D D':Nat→Prop}
theorem DX.new_ (h:DX w T k room L bl l B0 B Ab Ai cb ci D X) (hb:Below X.heap.size X Y):DX w T k room L bl l B0 B Ab Ai cb ci (Plus D X Y) Y:=
 ⟨h.td.new_ hb,Z00 h.b hb,h.bd.mono (fun _ hj=>.inl hj),(h.i.new_ hb).weaken (fun _ hj=>⟨.inl hj.1,hj.2⟩)⟩
theorem DX.tab (h:DX w T k room L bl l B0 B Ab Ai cb ci D X) (hg:GT D' Y T L) (hD : ∀j,D j→D' j) (hF:Fr (fun j=>¬D j) X Y):DX w T k room L bl l B0 B Ab Ai cb ci D' Y:=by
 refine ⟨h.td.tab hg hD hF,Z12 h.b hF (fun g hg2 hn=>?_),h.bd.mono hD,(h.i.fr hF (fun _ hj hn=>hn hj.1)).weaken (fun j hj=>⟨hD j hj.1,hj.2⟩)⟩;rcases Ab with _ | a
 · simp [Value.ownBlock] at hg2
 · have e:a.block=g:=by simpa [Value.ownBlock] using hg2
   exact hn (e ▸ h.bd a rfl)
end
theorem Zfc (n:Nat) (p:Z31) (A1 A2 A A3:Option Addr) (c1 c2 c c3:Nat) (l:List Z05) (v:Int) (known:List Sym) (w:World) (h1:RowR (Z0g n) (· < w.heap.size) w A1 c1 p.conds) (h2:RowR Z0r (· < w.heap.size) w A2 c2 p.acts) (h3:RowR Z0s (· < w.heap.size) w A c l) (h4:Z0k w 3 Sym.cells A3 c3 known) :
 Calls Tryz.prog 3 #[.agg #[.string p.name,.slice A1 p.conds.length c1,.slice A2 p.acts.length c2],.slice A l.length c,.int .i64 v,.slice A3 known.length c3] w fun e w'=>e = .returned (.bool true)∧Below w.heap.size w w':=by
 have H1:=hid h1;have H2:=hid h2;have H3:=hid h3;have H4:=hid h4;have hac:=h2.cap;have hlc:=h3.cap;have hkc:=h4.cap;clear h1 h2 h3 h4;go_enter Tryz.func3,Tryz.ntmps3;(go_upto_region 1 with fail);obtain ⟨w1,hw1⟩ : ∃w1,w1=(w.alloc (.cells #[.string p.name,.slice A1 p.conds.length c1,.slice A2 p.acts.length c2] 25)):=⟨_,rfl⟩;rw [← hw1];have HB:=hid (show Below w.heap.size w w1 by rw [hw1];exact (by repeat (first | exact Zks _ _ | refine Below.drew ?_ | refine Below.al ?_ _ | refine Below.sc ?_ _)));have Kp:=hid (show Blk w1 (w.heap.size) 25 #[.string p.name,.slice A1 p.conds.length c1,.slice A2 p.acts.length c2] by rw [hw1];exact (Blk.new w 25 #[.string p.name,.slice A1 p.conds.length c1,.slice A2 p.acts.length c2]));clear hw1;obtain ⟨p0,p1,p2⟩:=Kp.out.c3;have pz:=Kp.out.lt;have HHV:=hid (fun W (hb:Below w.heap.size w W)=>Zhp n p A1 A2 c1 c2 W (H1.out.new_ hb) (H2.out.new_ hb));cases hv:Z99 n p
 · skip
   have hc:=HHV.out;simp only [hv] at hc;have HHW:=hid hc;have HLI:=hid (Zaz hv);clear hc hv;(go_wp2_with fail);(with_reducible refine (HHW.out _ (by (repeat (first | exact Zks _ _ | exact HB.out | refine Below.drew ?_ | refine Below.al ?_ _ | refine Below.sc ?_ _)))).mono ?_);rintro e w2 ⟨rfl,hb⟩;have hbs:=Below.trans (show Below w1.heap.size w1 _ from (by (repeat (first | exact Zks _ _ | refine Below.drew ?_ | refine Below.al ?_ _ | refine Below.sc ?_ _)))) (hb.mono (by simp<;>omega));have Kp:=hid (Kp.out.new_ hbs);have HB:=hid (HB.out.trans (hbs.mono HB.out.size));have hsz2:=hbs.size;clear p0 p1 p2 pz hb hbs;obtain ⟨p0,p1,p2⟩:=Kp.out.c3;have pz:=Kp.out.lt;have hb0:=fun W (hb:Below w.heap.size w W)=>Zh5 l W (H3.out.new_ hb);cases hbl:Z68 l
   · skip
     simp only [hbl] at hb0;have HBI:=hid hb0;clear hb0 hbl;(go_wp2_with fail);(with_reducible refine (HBI.out _ (by (repeat (first | exact Zks _ _ | exact HB.out | refine Below.drew ?_ | refine Below.al ?_ _ | refine Below.sc ?_ _)))).mono ?_);rintro e w0 ⟨rfl,rfl⟩;(go_wp2_with fail);(with_reducible refine (Z5k _).mono ?_);rintro e w3 ⟨rfl,hb⟩;have hbs:=Below.trans (show Below w2.heap.size w2 _ from (by (repeat (first | exact Zks _ _ | refine Below.drew ?_ | refine Below.al ?_ _ | refine Below.sc ?_ _)))) (hb.mono (by simp<;>omega));have Kp:=hid (Kp.out.new_ hbs);have HB:=hid (HB.out.trans (hbs.mono HB.out.size));have hsz3:=hbs.size;clear p0 p1 p2 pz hb hbs;obtain ⟨p0,p1,p2⟩:=Kp.out.c3;have pz:=Kp.out.lt;(go_wp2_with fail);go_ret;exact ⟨rfl,by (repeat (first | exact Zks _ _ | exact HB.out | refine Below.drew ?_ | refine Below.al ?_ _ | refine Below.sc ?_ _))⟩
   · skip
     simp only [hbl] at hb0;have HBI:=hid hb0;(have h40:l.length≤40:=by have:=hbl;simp only [Z68,Zlc,Zlp] at this;exact this.1);clear hb0 hbl;by_cases h30:known.length≤30
     · skip
       have t30:decide ((30:Int)<(known.length:Int))=false:=Zku (by omega);have t30n:decide (30<known.length)=false:=Zku (by omega);(go_wp2_with fail);(with_reducible refine (HBI.out _ (by (repeat (first | exact Zks _ _ | exact HB.out | refine Below.drew ?_ | refine Below.al ?_ _ | refine Below.sc ?_ _)))).mono ?_);rintro e w0 ⟨rfl,rfl⟩;obtain ⟨hcn,hfl,ha40,_⟩:=HLI.out;have HC20:=hid (hcn H1.out);have HF20:=hid (hfl 20 0);clear hcn hfl t30 t30n;obtain ⟨m,hm,hml⟩:=Zet v (n:=60) (by decide)
       have HW:=hid (show ∀W,Calls Tryz.prog 10 #[.int .i64 v,.int .i64 60] W fun e w0=>e = .returned (.int .i64 (m:Int))∧W=w0 from fun W=>by
        have:=Zgx v 60 W (by decide)
        rwa [show Z7j v 60=(m:Int) from hm] at this)
       have v1:IntKind.i64.wrap (1+(m:Int))=1+(m:Int):=Zl5 _ (by omega);clear hm;(go_wp2_with fail);refine (HW.out _).mono ?_;rintro e w0 ⟨rfl,rfl⟩;have HPA:=hid Kp.out;have HWA:=hid HB.out;have hwa:=HB.out.size;(go_wp2_with fail);refine (Zii (1+(m:Int)) A3 c3 known _ (by omega) (by omega) (H4.out.new_ HB.out)).mono ?_;rintro e w20 ⟨T,k,D0,rfl,htd⟩;obtain ⟨ρ,hρ⟩ : ∃ρ:Int,ρ=1+(m:Int):=⟨_,rfl⟩;rw [← hρ] at htd;(have hr1:1≤ρ∧ρ≤60:=by omega);obtain ⟨L,hL⟩ : ∃L,L=tabL ρ known:=⟨_,rfl⟩;rw [← hL] at htd;have HTD:=hid htd;have Kp:=hid (Kp.out.new_ htd.b);have hz20:=htd.b.size;clear htd hρ hL v1 hml HW;clear p0 p1 p2 pz;obtain ⟨p0,p1,p2⟩:=Kp.out.c3;have pz:=Kp.out.lt;have HRL:=hid (show ∀Y,Below w2.heap.size w2 Y→RowR Z0s (· < w.heap.size) Y A c l from fun Y hY=>H3.out.new_ (HWA.out.trans (hY.mono HWA.out.size)));have HRA:=hid (show ∀Y,Below w2.heap.size w2 Y→RowR Z0r (· < w.heap.size) Y A2 c2 p.acts from fun Y hY=>H2.out.new_ (HWA.out.trans (hY.mono HWA.out.size)));have HRC:=hid (show ∀Y,Below w2.heap.size w2 Y→RowR (Z0g 20) (· < w.heap.size) Y A1 c1 p.conds from fun Y hY=>HC20.out.new_ (HWA.out.trans (hY.mono HWA.out.size)));(go_wp2_with fail);refine (Zj9 A c l _ (RowR.rd (hs:=Z05.cells_length) (HRL.out _ HTD.out.b)) (by omega)).mono ?_;rintro e w21 ⟨Ai,ci,rfl,hoi,hAi,hb21⟩;have HT1:=hid (HTD.out.new_ hb21);have Kp:=hid (Kp.out.new_ hb21);obtain ⟨D1,hD1⟩ : ∃D1,D1=Plus D0 w20 w21:=⟨_,rfl⟩;have HIN:=hid (show RowR Z0s (fun j=>D1 j∧w20.heap.size≤j∧j<w21.heap.size) w21 Ai ci l from RowR.of_rd (Z0j Z05.cells_length hoi) (hAi.mono (fun j hj=>by rw [hD1];exact ⟨.inr hj,hj⟩)));rw [← hD1] at HT1;have hz21:=hb21.size;clear hoi hAi hb21 hD1 p0 p1 p2 pz;obtain ⟨p0,p1,p2⟩:=Kp.out.c3;have pz:=Kp.out.lt;obtain ⟨R,hR⟩ : ∃R,R=doR 20 p l ρ L:=⟨_,rfl⟩
       have HDO:=hid (show Calls Tryz.prog 12 #[.agg #[.string p.name,.slice A1 p.conds.length c1,.slice A2 p.acts.length c2],.slice Ai l.length ci,.pointer (some ⟨T.b,0,none⟩)] w21 (DoTo D1 w21 T R) by
        have:=Zkb (D:=D1) 20 p l A1 A2 Ai c1 c2 ci w21 T L HT1.out.gt ((HRC.out _ HT1.out.b).weaken (fun k hk=>HT1.out.dw k (by omega))) ((HRA.out _ HT1.out.b).weaken (fun k hk=>HT1.out.dw k (by omega))) (HIN.out.weaken (fun k hk=>hk.1)) (Zlf HF20.out (by decide)) (by decide) (by omega);rw [HT1.out.rm,← hR] at this
        exact this)
       have HSAME:=hid (show rdoR 20 p l ρ L=R by
        have h9:=HT1.out.gt.list_;rw [HT1.out.rm] at h9;rw [hR]
        exact Zfb h9.1 h9.2.2.1)
       clear hR;(go_wp2_with fail);refine HDO.out.mono ?_;rintro e w22 ⟨Aa,ca,Ab,cb,D2,rfl,hoa,hob,hD2,hAa,hAb,hgt,hF⟩;have HT2:=hid (HT1.out.tab hgt hD2 hF);have Kp:=hid (HPA.out.new_ HT2.out.b);have HIN2:=hid ((HIN.out.fr hF (fun j hj hn=>hn hj.1)).weaken (D':=fun j=>D2 j∧w20.heap.size≤j∧j<w21.heap.size) (fun j hj=>⟨hD2 j hj.1,hj.2⟩));have HABS:=hid (show AIn Ab (w21.heap.size≤·) from hAb.mono (fun j hj=>hj.2));have HOA:=hid hoa;have HOB:=hid hob;have HAA:=hid hAa;have HAB:=hid hAb;have HKL:=hid (show k<w20.heap.size by obtain ⟨_,_,h9,_⟩:=HTD.out.rt;exact h9.1.lt);have hz22:=hF.size;clear hoa hob hD2 hAa hAb hgt hF HDO HIN p0 p1 p2 pz;obtain ⟨p0,p1,p2⟩:=Kp.out.c3;have pz:=Kp.out.lt;obtain ⟨At,ct,hrt,hAt⟩:=HT2.out.rt;have HRT:=hid hrt;have HAT:=hid hAt
       have HRD:=hid (show Calls Tryz.prog 13 #[.agg #[.string p.name,.slice A1 p.conds.length c1,.slice A2 p.acts.length c2],.slice A l.length c,.pointer (some ⟨k,0,none⟩)] w22 (Z9n k ρ w22 At R) by
        have h9:=HT1.out.gt.list_;rw [HT1.out.rm] at h9;have:=Zkl (D:=(· < w.heap.size)) 20 p l A1 A2 A At c1 c2 c ct k ρ L w22 (fun j hj=>by have:=HT2.out.b.size;have:=HT2.out.wk;exact ⟨by omega,by omega⟩) (HRC.out _ HT2.out.b) (HRA.out _ HT2.out.b) (HRL.out _ HT2.out.b) HRT.out ⟨h9.1,h9.2.1,h9.2.2.1⟩ (by omega) (Zlf HF20.out (by decide)) (by decide) (by omega) (by omega);rw [HSAME.out] at this
        exact this)
       clear hrt hAt;(go_wp2_with fail);refine HRD.out.mono ?_;rintro e w23 ⟨Ax,cx,Ay,cy,At3,ct3,rfl,hx,hy,hrt3,hfm,hF3⟩;clear HRD p0 p1 p2 pz;(have hne : ∀j,w21.heap.size≤j→¬j=k:=fun j hj=>by have:=HKL.out;omega);have HT3:=hid (HT2.out.doc HRT.out HAT.out hrt3 hfm hF3);obtain ⟨D3,hD3⟩ : ∃D3,D3=Plus D2 w22 w23:=⟨_,rfl⟩;rw [← hD3] at HT3
       have hob3:=Z12 HOB.out hF3 (fun g hg=>by
        rcases Ab with _ | a
        · simp [Value.ownBlock] at hg
        · have e:a.block=g:=by simpa [Value.ownBlock] using hg
          exact hne g (e ▸ (HAB.out a rfl).2))
       have hoa3:=Z12 HOA.out hF3 (fun g hg=>by
        rcases Aa with _ | a
        · simp [Value.ownBlock] at hg
        · have e:a.block=g:=by simpa [Value.ownBlock] using hg
          exact hne g (e ▸ (HAA.out a rfl).2))
       have HDX:=hid (show DX w2 T k ρ R.2 R.1.2.1 l w20.heap.size w21.heap.size Ab Ai cb ci D3 w23 from ⟨HT3.out,hob3,HAB.out.mono (fun j hj=>by rw [hD3];exact .inl hj.1),by rw [hD3];exact (HIN2.out.fr hF3 (fun j hj e=>by have:=HKL.out;omega)).weaken (fun j hj=>⟨.inl hj.1,hj.2⟩)⟩);have HPA3:=hid (show RowR Z1q (fun _=>True) w23 Aa ca R.1.1 from RowR.of_rd (Z0j Z17.cells_length hoa3) (fun _ _=>trivial));have HPX3:=hid (show RowR Z1q (fun _=>True) w23 Ax cx R.1.1 from RowR.of_rd hx (fun _ _=>trivial));have HBB3:=hid (show RowR Z0s (fun _=>True) w23 Ab cb R.1.2.1 from RowR.of_rd (Z0j Z05.cells_length hob3) (fun _ _=>trivial));have HBY3:=hid (show RowR Z0s (fun _=>True) w23 Ay cy R.1.2.1 from RowR.of_rd hy (fun _ _=>trivial))
       have HPF:=hid (show ∀Y,Below w23.heap.size w23 Y→Calls Tryz.prog 14 #[.slice Aa R.1.1.length ca,.slice Ax R.1.1.length cx] Y fun e w'=>e = .returned (.bool true)∧Below Y.heap.size Y w' from fun Y hY=>by
        have:=Zi7 R.1.1 R.1.1 Y (HPA3.out.new_ hY) (HPX3.out.new_ hY);rw [Zkw (rfl:R.1.1=R.1.1)] at this
        exact this)
       have HBF:=hid (show ∀Y,Below w23.heap.size w23 Y→Calls Tryz.prog 15 #[.slice Ab R.1.2.1.length cb,.slice Ay R.1.2.1.length cy] Y fun e w'=>e = .returned (.bool true)∧Below Y.heap.size Y w' from fun Y hY=>by
        have:=Zd6 R.1.2.1 R.1.2.1 Y (HBB3.out.new_ hY) (HBY3.out.new_ hY);rw [Zkw (rfl:R.1.2.1=R.1.2.1)] at this
        exact this)
       have HKR:=hid hrt3
       have HKD:=hid (show AIn At3 D3 from fun a ha=>by
        rw [hD3];rcases hfm a ha with ⟨b,hb,e⟩ | h2
        · exact .inl (e ▸ HAT.out b hb)
        · exact .inr ⟨h2,(hrt3.2.2 a ha).2⟩)
       (have hk23:w.heap.size≤k:=by have:=HT2.out.wk;omega);(have tne:((R.1.2.2:Int) != R.1.2.2)=false:=by simp);have hs0:(w23.cell? ⟨k,1,none⟩)=some (.slice At3 R.2.length ct3):=(hrt3.1.cell 1).trans rfl;have hkz:=hrt3.1.lt;clear hx hy hrt3 hfm hF3 hob3 hoa3 hne HPA3 HPX3 HBB3 HBY3 HOA HOB HAA HAB HSAME HRT HAT hD3;(go_upto_region 9 with fail);refine Z08 (fun w9=>w9.cell? ⟨k,1,none⟩=some (.slice At3 R.2.length ct3)) [(0,0),(1,0),(2,0),(3,0),(4,0),(5,0),(6,2),(7,0),(8,0),(9,0),(10,0),(11,0),(12,2),(13,0),(14,0),(15,0),(16,0),(19,0),(20,0),(21,0),(22,1),(17,2),(18,2),(23,2),(24,0),(25,0)] (by kernel_rfl) (by kernel_rfl) (fun KK hKK=>?_);simp only [Z0h,Zl2,Zl0,Zkz,Zkv,Zky,Zl4];(repeat ((first | (refine Z0b ?_ (Or.inl ⟨by rfl,fun w9=>?_⟩) ?_;rotate_left 1;go_simp;with_reducible rfl) | (refine Z0a ?_ (hs0) (Or.inl ⟨by rfl,fun w9 hw9=>?_⟩) ?_;rotate_left 1;have hc9:=hw9;go_simp;with_reducible rfl) | refine Z0b undef (Or.inr ⟨by rfl,rfl⟩) ?_ | refine Z0a undef (hs0) (Or.inr ⟨by rfl,rfl⟩) ?_);go_frame));refine Z27 (fun K9 hK9=>?_);go_simp;refine (HPF.out _ (Zks _ _).drew).mono ?_;rintro e y1 ⟨rfl,hb⟩;have HB1:=hid (show Below w23.heap.size w23 y1 from (Zks _ _).drew.trans (hb.mono (Zkt _)));have hs1:y1.cell? ⟨k,1,none⟩=some (.slice At3 R.2.length ct3):=(HB1.out.cell (p:=⟨k,1,none⟩) hkz).trans hs0;clear hb;refine hK9 _ _ hs1 ?_;clear hK9 K9;(repeat ((first | (refine Z0b ?_ (Or.inl ⟨by rfl,fun w9=>?_⟩) ?_;rotate_left 1;go_simp;with_reducible rfl) | (refine Z0a ?_ (hs1) (Or.inl ⟨by rfl,fun w9 hw9=>?_⟩) ?_;rotate_left 1;have hc9:=hw9;go_simp;with_reducible rfl) | refine Z0b undef (Or.inr ⟨by rfl,rfl⟩) ?_ | refine Z0a undef (hs1) (Or.inr ⟨by rfl,rfl⟩) ?_);go_frame));refine Z27 (fun K9 hK9=>?_);go_simp;refine (HBF.out _ HB1.out).mono ?_;rintro e y2 ⟨rfl,hb⟩;have HB2:=hid (HB1.out.trans (hb.mono HB1.out.size));have hs2:y2.cell? ⟨k,1,none⟩=some (.slice At3 R.2.length ct3):=(HB2.out.cell (p:=⟨k,1,none⟩) hkz).trans hs0;clear hb;refine hK9 _ _ hs2 ?_;clear hK9 K9;(repeat ((first | (refine Z0b ?_ (Or.inl ⟨by rfl,fun w9=>?_⟩) ?_;rotate_left 1;go_simp;with_reducible rfl) | (refine Z0a ?_ (hs2) (Or.inl ⟨by rfl,fun w9 hw9=>?_⟩) ?_;rotate_left 1;have hc9:=hw9;go_simp;with_reducible rfl) | refine Z0b undef (Or.inr ⟨by rfl,rfl⟩) ?_ | refine Z0a undef (hs2) (Or.inr ⟨by rfl,rfl⟩) ?_);go_frame));refine Z27 (fun K9 hK9=>?_);go_simp;refine (Zkf T.b _).mono ?_;rintro e y3 ⟨rfl,hb,hbox⟩;obtain ⟨kb,hkb⟩ : ∃kb,kb=y2.heap.size:=⟨_,rfl⟩;rw [← hkb] at hbox ⊢;have HBX:=hid hbox;have HB3:=hid (HB2.out.trans (hb.mono HB2.out.size));have HD3:=hid (HDX.out.new_ HB3.out);have hs3:y3.cell? ⟨k,1,none⟩=some (.slice At3 R.2.length ct3):=(HB3.out.cell (p:=⟨k,1,none⟩) hkz).trans hs0;clear hb hbox hkb;refine hK9 _ _ hs3 ?_
       clear hK9 K9;refine Z27 (fun K9 hK9=>?_);go_simp;refine (Zjg kb HD3.out.td.gt HBX.out).mono ?_;rintro e y4 ⟨Aw,cw,rfl,hwas,hAw,hg,hF,_⟩;have HD4:=hid (HD3.out.tab hg (fun j hj=>.inl hj) hF);have HWAS:=hid hwas;have HR4:=hid ((HKR.out.below_ HB3.out).fr_ hF (fun hn=>hn HD3.out.td.dk) (HKD.out.mono (fun j hj hn=>hn (.inl hj))));have hs4:y4.cell? ⟨k,1,none⟩=some (.slice At3 R.2.length ct3):=(HR4.out.1.cell 1).trans rfl;clear hwas hAw hg hF;refine hK9 _ _ hs4 ?_;clear hK9 K9;refine Z2m (by kernel_rfl) (fun K9 hK9=>?_);go_simp;refine (Zjw Aw At3 cw ct3 R.2 R.2 y4 HWAS.out HR4.out.2.1).mono ?_;rw [Zkw (rfl:R.2=R.2)];rintro e y5 ⟨rfl,hb⟩;have HD5:=hid (HD4.out.new_ hb);clear hb;refine hK9 _ _ ?_;clear hK9 K9;(repeat ((first | (refine Z0b ?_ (Or.inl ⟨by rfl,fun w9=>?_⟩) ?_;rotate_left 1;go_simp;with_reducible rfl) | (refine Z0a ?_ (hs4) (Or.inl ⟨by rfl,fun w9 hw9=>?_⟩) ?_;rotate_left 1;have hc9:=hw9;go_simp;with_reducible rfl) | refine Z0b undef (Or.inr ⟨by rfl,rfl⟩) ?_ | refine Z0a undef (hs4) (Or.inr ⟨by rfl,rfl⟩) ?_);go_frame));refine Z0u ?_;simp only [Z02];refine hKK _ _ ?_;clear hKK KK;obtain ⟨D5,hD5⟩ : ∃D5,D5=Plus (Plus (Plus D3 w23 y3) y3 y4) y4 y5:=⟨_,rfl⟩;rw [← hD5] at HD5;clear hs0 hs1 hs2 hs3 hs4 hkz tne hD5 HD3 HD4 HWAS HR4 HKR HKD HBX HB1 HB2 HB3;go_wp2_with fail
       go_loopw [18] (fun vi wr=>∃i:Nat,vi = .int .i64 (i:Int)∧i≤R.1.2.1.length∧Fr (fun j=>∃a,Ab=some a∧a.block=j) y5 wr∧(∀g,Ab=some ⟨g,0,none⟩→Room wr g 40 (cb*4))) (fun vi wr=>R.1.2.1.length - (intOf vi).toNat)
       case atStart=>exact ⟨0,rfl,Nat.zero_le _,Fr.refl _ _,fun g hg=>by
        rcases Z0i HD5.out.b with ⟨h9,_⟩ | ⟨g2,cap,h9,_,_,hr,_⟩
        · injection h9 with h9;rw [h9] at hg;cases hg
        · injection h9 with h9 _ h10;rw [h9] at hg;injection hg with hg;injection hg with hg;subst hg;subst h10;exact hr⟩
       case round=>
        obtain ⟨i,rfl,hi,hfr,hrm⟩:=hrel;have HFR:=hid hfr;have HRM:=hid hrm;clear hfr hrm;by_cases hlt:i<R.1.2.1.length
        · have hfm:=Z1y HD5.out.b
          obtain ⟨g,hg,hcb,hcm⟩ : ∃g,Ab=some ⟨g,0,none⟩∧R.1.2.1.length≤cb∧cb≤maxLen:=by
           rcases Z0i HD5.out.b with ⟨_,h9,_⟩ | ⟨g2,cap,h9,h10,h12,_⟩
           · omega
           · injection h9 with h9 _ h11;subst h11;exact ⟨g2,h9,h10,h12⟩
          have hroom:=HRM.out g hg;obtain ⟨u,hu⟩:=hroom.cell (i:=i*4) (by omega);have q0:wr.cell? ⟨g,i*4,none⟩=some u:=hu;have f0:=hroom.frozen (i*4);have gz:=hroom.lt;(have j1:(0:Int)≤(i:Int):=by omega);(have j2:(i:Int)<(R.1.2.1.length:Int):=by omega);have v3:IntKind.i64.wrap ((i:Int)+1)=(i:Int)+1:=Zl5 _ (by unfold maxLen at hcm;omega);have HG:=hid hg;clear hu hroom hfm;subst hg;(go_wp2_with fail);go_roundw
          case rel=>exact ⟨i+1,by go_num,by omega,HFR.out.setCell (p:=⟨g,i*4,none⟩) (.inl ⟨_,rfl,rfl⟩) _,fun g2 hg2=>by injection hg2 with hg2;injection hg2 with hg2;subst hg2;exact (HRM.out g rfl).set_ _ _⟩
          case measure=>simp [intOf]<;>omega
        · have hie:i=R.1.2.1.length:=by omega
          subst hie;have hBZ:Below w.heap.size w wr:=(HWA.out.trans (HD5.out.td.b.mono HWA.out.size)).trans (HFR.out.below (by have:=HD5.out.td.b.size;omega) (fun j hj hn=>by obtain ⟨a,ha,e⟩:=hn;have h5:w21.heap.size≤a.block:=HABS.out a ha;omega))
          have HBE:=hid (show Calls Tryz.prog 15 #[.slice Ai l.length ci,.slice A l.length c] wr fun e w'=>e = .returned (.bool true)∧Below wr.heap.size wr w' by
           have:=Zd6 l l wr (HD5.out.i.fr HFR.out (fun j hj hm=>by obtain ⟨a,ha,e⟩:=hm;have h5:w21.heap.size≤a.block:=HABS.out a ha;omega)) (H3.out.new_ hBZ);rw [Zkw (rfl:l=l)] at this
           exact this)
          have HBZ:=hid hBZ;clear hBZ;(go_wp2_with fail);refine HBE.out.mono ?_;rintro e w26 ⟨rfl,hb26⟩;have HB26:=hid (HBZ.out.trans (hb26.mono HBZ.out.size));clear hb26;(go_wp2_with fail);refine (Z5k _).mono ?_;rintro e w40 ⟨rfl,hb40⟩;(go_wp2_with fail);go_ret;exact ⟨rfl,HB26.out.trans (hb40.mono HB26.out.size)⟩
     · skip
       have t30:decide ((30:Int)<(known.length:Int))=true:=Zkw (by omega);have t30n:decide (30<known.length)=true:=Zkw (by omega);(go_wp2_with fail);(with_reducible refine (HBI.out _ (by (repeat (first | exact Zks _ _ | exact HB.out | refine Below.drew ?_ | refine Below.al ?_ _ | refine Below.sc ?_ _)))).mono ?_);rintro e w0 ⟨rfl,rfl⟩;(go_wp2_with fail);(with_reducible refine (Z5k _).mono ?_);rintro e w3 ⟨rfl,hb⟩;have hbs:=Below.trans (show Below w2.heap.size w2 _ from (by (repeat (first | exact Zks _ _ | refine Below.drew ?_ | refine Below.al ?_ _ | refine Below.sc ?_ _)))) (hb.mono (by simp<;>omega));have Kp:=hid (Kp.out.new_ hbs);have HB:=hid (HB.out.trans (hbs.mono HB.out.size));have hsz3:=hbs.size;clear p0 p1 p2 pz hb hbs;obtain ⟨p0,p1,p2⟩:=Kp.out.c3;have pz:=Kp.out.lt;(go_wp2_with fail);go_ret;exact ⟨rfl,by (repeat (first | exact Zks _ _ | exact HB.out | refine Below.drew ?_ | refine Below.al ?_ _ | refine Below.sc ?_ _))⟩
 · skip
   have hc:=HHV.out;simp only [hv] at hc;have HHW:=hid hc;clear hc hv;(go_wp2_with fail);(with_reducible refine (HHW.out _ (by (repeat (first | exact Zks _ _ | exact HB.out | refine Below.drew ?_ | refine Below.al ?_ _ | refine Below.sc ?_ _)))).mono ?_);rintro e w2 ⟨rfl,hb⟩;have hbs:=Below.trans (show Below w1.heap.size w1 _ from (by (repeat (first | exact Zks _ _ | refine Below.drew ?_ | refine Below.al ?_ _ | refine Below.sc ?_ _)))) (hb.mono (by simp<;>omega));have Kp:=hid (Kp.out.new_ hbs);have HB:=hid (HB.out.trans (hbs.mono HB.out.size));have hsz2:=hbs.size;clear p0 p1 p2 pz hb hbs;obtain ⟨p0,p1,p2⟩:=Kp.out.c3;have pz:=Kp.out.lt;(go_wp2_with fail);(with_reducible refine (Z5k _).mono ?_);rintro e w3 ⟨rfl,hb⟩;have hbs:=Below.trans (show Below w2.heap.size w2 _ from (by (repeat (first | exact Zks _ _ | refine Below.drew ?_ | refine Below.al ?_ _ | refine Below.sc ?_ _)))) (hb.mono (by simp<;>omega));have Kp:=hid (Kp.out.new_ hbs);have HB:=hid (HB.out.trans (hbs.mono HB.out.size));have hsz3:=hbs.size;clear p0 p1 p2 pz hb hbs;obtain ⟨p0,p1,p2⟩:=Kp.out.c3;have pz:=Kp.out.lt;(go_wp2_with fail);go_ret;exact ⟨rfl,by (repeat (first | exact Zks _ _ | exact HB.out | refine Below.drew ?_ | refine Below.al ?_ _ | refine Below.sc ?_ _))⟩
end
section
open Go.RowKit Go.ChangeShapes Go.WideShapes Go.Deep
theorem Zed {H:Type} {enc:TypeId×Value→H} {w:World} {r:Reach} {b0 base:Nat} {spare:Nat→Bool} {held:Bool} {v:Value} {d:DataW H} {ps:List MemPlace}
 (hval:Value.okWide Tryz.prog w r b0 25 v) (h:DataW.Trod enc Tryz.prog w base spare held 25 v d ps) : ∃(n:Nat) (x:Z31) (A1:Option Addr) (c1:Nat) (A2:Option Addr) (c2:Nat),v = .agg #[.string x.name,.slice A1 x.conds.length c1,.slice A2 x.acts.length c2]∧
   RowR (Z0g n) (· < w.heap.size) w A1 c1 x.conds∧RowR Z0r (· < w.heap.size) w A2 c2 x.acts:=by
 obtain ⟨cs,rfl,_⟩:=okWide_struct Tryz.underlying25 hval;obtain ⟨fuel,hf⟩:=h;obtain ⟨x,A1,c1,A2,c2,hx,h1,h2⟩:=Zcl enc w base spare held fuel _ _ hf;refine ⟨fuel,x,A1,c1,A2,c2,?_,h1,h2⟩;simp only [Value.cells] at hx;(have:cs = #[.string x.name,.slice A1 x.conds.length c1,.slice A2 x.acts.length c2]:=by rw [← Array.toList_inj];simpa using hx);rw [this]
end
end Go.Proofs.YtfidcfjcmlgkbaaGreat
