/-
  Texts put together: LeafPgL, FindPgL, OpsPgL, PutPgL, MiscPgL, NewPgL, BkLnG, BkLn, LrnWk1, EagerN.
-/
import Derived.Test.YtldndkngpdfpfaaGreatPFw
namespace Go.Proofs.YtldndkngpdfpfaaGreat
open Lib (hid)
set_option maxRecDepth 100000
set_option maxHeartbeats 32000000
section
open Go.RowKit
structure PgL where
 kk:Int
 v:Bool
 deriving DecidableEq
def PgL.cells (x:PgL):List Value:=[.int .i64 x.kk,.bool x.v]
theorem PgL.cells_length (x:PgL):x.cells.length=2:=rfl
def Z1e (a b:PgL):Int:=Z14 a.kk b.kk
theorem Z68:TC Z1e:=⟨fun _=>Z31.refl _,fun _ _=>Z31.symm _ _,fun _ _ _=>Z31.trans _ _ _⟩
theorem Zjr (a b:Int) (w:World):Calls Tryz.prog 320 #[.int .i64 a,.int .i64 b] w fun e w'=>e = .returned (.int .i64 (Z14 a b))∧w=w':=by
 go_enter Tryz.func320,Tryz.ntmps320;go_wp2
 all_goals (go_ret;refine ⟨?_,rfl⟩;unfold Z14;(repeat' split)<;>first | rfl | (exfalso;omega))
theorem Zac (k : Int) (w : World) : (nilAhead 555 208 (.int .i64 k) "Compare").run Tryz.prog w = .ok (some false) w := by kernel_rfl
theorem Zd1 (k : Int) (w : World) : (method 555 208 (.int .i64 k) "Compare").run Tryz.prog w = .ok (320, .int .i64 k) w := by kernel_rfl
theorem Zlx (a b:PgL) (w:World):Calls Tryz.prog 332 #[.agg #[.int .i64 a.kk,.bool a.v],.agg #[.int .i64 b.kk,.bool b.v]] w fun e w'=>e = .returned (.int .i64 (Z1e a b))∧Below w.heap.size w w':=by
 have N:=Zac;have M:=Zd1;go_enter Tryz.func332,Tryz.ntmps332;(go_wp2_with fail);refine (Zjr a.kk b.kk _).mono ?_;rintro e w' ⟨rfl,rfl⟩;(go_wp2_with fail);go_ret;exact ⟨rfl,((Znz _ _).alloc (Zo0 _) _).alloc (by simp) _⟩
abbrev Z3p:=Z1w (α:=PgL) 294 250 2 PgL.cells
theorem Zbr (k0 : Int) (k1 : Bool) (w : World) : (nilAhead 555 250 (.agg #[.int .i64 k0, .bool k1]) "Compare").run Tryz.prog w = .ok (some false) w := by kernel_rfl
theorem Zfl (k0 : Int) (k1 : Bool) (w : World) : (method 555 250 (.agg #[.int .i64 k0, .bool k1]) "Compare").run Tryz.prog w = .ok (332, .agg #[.int .i64 k0, .bool k1]) w := by kernel_rfl
def Zj5 (l:List PgL) (x:PgL) (w:World) (e:Ending) (w':World):Prop:=
 e = .returned (.tuple #[.int .i64 (rank Z1e l x),.bool (has Z1e l x)])∧Below w.heap.size w w'
theorem Za1 (b c:Nat) (sn:Bool) (A:Option Addr) (l:List PgL) (x:PgL) (w:World) (hS:Z3p w b sn A c l) (hs:Srt Z1e l) (hl:(l.length:Int)≤4611686018427387904) :
 Calls Tryz.prog 204 #[.pointer (some ⟨b,0,none⟩),.agg #[.int .i64 x.kk,.bool x.v]] w (Zj5 l x w):=by
 have hrd:=hS.rd PgL.cells_length;have h0:=hS.cell0;have hb:=hS.lt;clear hS;have HS:=hid hs;have HRD:=hid hrd;clear hs hrd;go_enter Tryz.func204,Tryz.ntmps204;(go_wp2_with fail);go_quiet (fail);(go_wp2_with fail);obtain ⟨W0,hW0⟩ : ∃W0,W0=((w.alloc (Obj.cells #[.int .i64 x.kk,.bool x.v] 250)).drewN nq):=⟨_,rfl⟩;(have hB0:Below w.heap.size w W0:=by rw [hW0];exact Below.drewN' ((Znz _ _).alloc (Zo0 _) _) _);(have hx0:W0.cell? ⟨w.heap.size,0,none⟩=some (.int .i64 x.kk):=by rw [hW0];go_simp);(have hx1:W0.cell? ⟨w.heap.size,1,none⟩=some (.bool x.v):=by rw [hW0];go_simp);rw [← hW0];clear hW0;have HB0:=hid hB0;clear hB0
 go_loopw [6,7] (fun lo hi wr=>∃i j:Nat,lo = .int .i64 i∧hi = .int .i64 j∧i≤j∧j≤l.length∧(∀k,(h:k<l.length)→k<i→Z1e l[k] x<0)∧(∀k,(h:k<l.length)→j≤k→0<Z1e l[k] x)∧Below W0.heap.size W0 wr) (fun lo hi wr=>(intOf hi).toNat - (intOf lo).toNat)
 case atStart=>exact ⟨0,l.length,rfl,rfl,Nat.zero_le _,Zo0 _,fun k _ h=>absurd h (by omega),fun k h h'=>absurd h (by omega),Znz _ _⟩
 case round=>
  obtain ⟨i,j,rfl,rfl,hij,hj,hlo,hhi,hB⟩:=hrel;have HLO:=hid hlo;have HHI:=hid hhi;clear hlo hhi;have hsz:w.heap.size<W0.heap.size:=Zoa W0 _ hx0;by_cases hlt:i<j
  · obtain ⟨m,hm⟩ : ∃m,m=i+(j - i) / 2:=⟨_,rfl⟩
    (have hml:m<l.length:=by omega);(have hmj:m<j:=by omega);(have hmi:i≤m:=by omega);(have e1:((i:Int)+((j:Int) - (i:Int)) / 2)=(m:Int):=by omega);have E1:=hid e1;clear e1 hm;obtain ⟨g,off,rfl,hgs,hcell⟩:=HRD.out.at_ hml;have low : ∀(p:Addr),p.block<w.heap.size→wr.cell? p=w.cell? p:=fun p hp=>(hB.cell (p:=p) (by omega)).trans (HB0.out.cell (p:=p) hp);have r0:=(low ⟨b,0,none⟩ hb).trans h0;have q0:=(low ⟨g,off+m*2,none⟩ hgs).trans (hcell 0 _ rfl);have q1:=(low ⟨g,off+m*2+1,none⟩ hgs).trans (hcell 1 _ rfl);have y0:=(hB.cell (p:=⟨w.heap.size,0,none⟩) hsz).trans hx0;have y1:=(hB.cell (p:=⟨w.heap.size,1,none⟩) hsz).trans hx1;(have b1:(0:Int)≤(m:Int):=by omega);(have b2:(m:Int)<(l.length:Int):=by omega);have hsw:W0.heap.size≤wr.heap.size:=hB.size;have N:=Zbr;have M:=Zfl;clear low hcell hx0 hx1 h0;have HB:=hid hB;clear hB;obtain ⟨y,hy⟩ : ∃y,y=l[m]:=⟨_,rfl⟩;rw [← hy] at q0 q1;have HY:=hid hy;clear hy;(have hbw:b<wr.heap.size:=by omega);(have hgw:g<wr.heap.size:=by omega);(have hww:w.heap.size<wr.heap.size:=by omega);(go_wp2_with fail);rw [E1.out]
    go_region_held3 (fun w'=>w'.cell? ⟨b,0,none⟩=some (.slice (some ⟨g,off,none⟩) l.length c)∧w'.cell? ⟨g,off+m*2,none⟩=some (.int .i64 y.kk)∧w'.cell? ⟨g,off+m*2+1,none⟩=some (.bool y.v)∧w'.cell? ⟨w.heap.size,0,none⟩=some (.int .i64 x.kk)∧w'.cell? ⟨w.heap.size,1,none⟩=some (.bool x.v))
     (first | go_keep | (refine ⟨?_,?_,?_,?_,?_⟩<;>exact (hb1.cell (by simpa using by assumption)).trans (by simp [*])))
     ((go_at_call 332;refine (Zlx y x _).mono ?_;rintro e w1 ⟨rfl,hb1⟩))
    have HB1:Below W0.heap.size W0 w1:=HB.out.drew.trans (hb1.mono hsw);clear r0 q0 q1 y0 y1 N M;by_cases hc:Z1e y x=0
    · have HC:=hid hc
      (have t1:(Z1e y x == 0)=true:=by simp [hc]);clear hc;(go_wp2_with fail);go_ret2;have e:=HC.out;rw [HY.out] at e;refine ⟨?_,HB0.out.trans (HB1.mono (by omega))⟩;rw [Z3j Z68 HS.out hml e,(Z4g Z68 HS.out hml e).2.2.1];rfl
    · have t1:(Z1e y x == 0)=false:=by simp [hc]
      by_cases hc2:Z1e y x<0
      · have HC:=hid hc2
        (have t2:decide (Z1e y x<0)=true:=by simpa using hc2);clear hc hc2;(go_wp2_with fail);go_roundw
        case rel=>
         refine ⟨m+1,j,by go_num,rfl,by omega,hj,fun k h1 h2=>?_,HHI.out,HB1⟩;have e:=HC.out;rw [HY.out] at e;rcases Nat.lt_or_ge k m with h3 | h3
         · exact Z68.lt_of_lt_of_le (HS.out.lt h3 hml) (by omega)
         · obtain rfl:k=m:=by omega
           exact e
        case measure=>simp [intOf];omega
      · have t2:decide (Z1e y x<0)=false:=by simpa using hc2
        (have hc3:0<Z1e y x:=by omega);have HC:=hid hc3;clear hc hc2 hc3;(go_wp2_with fail);go_roundw
        case rel=>
         refine ⟨i,m,rfl,rfl,by omega,by omega,HLO.out,fun k h1 h2=>?_,HB1⟩;have e:=HC.out;rw [HY.out] at e;rcases Nat.lt_or_ge m k with h3 | h3
         · exact (Z68.symm _ _).1 (Z68.lt_trans ((Z68.symm _ _).2 e) (HS.out.lt h3 h1))
         · obtain rfl:k=m:=by omega
           exact e
        case measure=>simp [intOf];omega
  · obtain rfl:i=j:=by omega
    have HB:=hid hB;clear hB;(go_wp2_with fail);go_ret2;refine ⟨?_,HB0.out.trans (HB.out.mono (by omega))⟩;rw [Z3i hj HLO.out HHI.out,(Z4v HLO.out HHI.out).2.2];rfl
theorem Ze8:(Tryz.prog.info? 250).map (fun i=>(i.zero,i.size,i.bytes))=some (some (.agg #[.int .i64 0,.bool false]),2,16):=by kernel_rfl
theorem PgL.one (x:PgL) : ∀u∈PgL.cells x,u.oneCell'=true:=by intro u hu;simp [PgL.cells] at hu;rcases hu with rfl | rfl<;>rfl
theorem PgL.oneAll (l:List PgL) : ∀u∈l.flatMap PgL.cells,u.oneCell'=true:=by intro u hu;obtain ⟨x,_,hx⟩:=List.mem_flatMap.1 hu;exact PgL.one x u hx
def Z75 (w:World) (b:Nat) (sn:Bool) (A:Option Addr) (l:List PgL) (e:Ending) (w':World):Prop:=
 e = .returned (.tuple #[])∧∃A' c',Z3p w' b false A' c' l∧Fr (· = b) w w'∧Z1p w sn A false A'
theorem Zfu (b c:Nat) (A:Option Addr) (l:List PgL) (w:World) (hS:Z3p w b false A c l) :
 Calls Tryz.prog 205 #[.pointer (some ⟨b,0,none⟩)] w (Z75 w b false A l):=by
 have h1:=hS.cell1;have HS:=hid hS;clear hS;go_enter Tryz.func205,Tryz.ntmps205;go_wp2;go_end0;exact ⟨rfl,A,c,HS.out,Fr.refl _ _,.inl ⟨rfl,rfl⟩⟩
theorem Zdb (b c:Nat) (A:Option Addr) (l:List PgL) (w:World) (hS:Z3p w b true A c l) (hl:(l.length:Int)≤1000000000) :
 Calls Tryz.prog 205 #[.pointer (some ⟨b,0,none⟩)] w (Z75 w b true A l):=by
 obtain ⟨i0,hi,hz0,hz1,hz2⟩:=info_parts Ze8;have h0:=hS.cell0;have h1:=hS.cell1;have hb:=hS.lt;have f0:=hS.blk.frozen 0;have f1:=hS.blk.frozen 1;have hrd:=hS.rd PgL.cells_length;have HB:=hid hS.blk;have HRD:=hid hrd;clear hS hrd;have e1:IntKind.i64.wrap ((l.length:Int)+1)=(l.length:Int)+1:=Zof _ (by omega)
 have hmk : ∀W:World,(Instr.makeSlice 292 (.int .i64 0) (.int .i64 ((l.length:Int)+1))).run Tryz.prog W = .ok (.slice (some ⟨W.heap.size,0,none⟩) 0 (l.length+1)) (W.alloc (.cells (madeCells (Value.cells (.agg #[.int .i64 0,.bool false])) ((l.length+1)*2)) 250)):=fun W=>by
  have h:=run_make (P:=Tryz.prog) W 292 250 i0 _ Tryz.underlying292 hi hz0 .i64 .i64 0 ((l.length:Int)+1) (by omega) (by omega) (by rw [hz2];omega) (by omega);rw [hz1] at h;simpa [show ((l.length:Int)+1).toNat=l.length+1 by omega] using h
 go_enter Tryz.func205,Tryz.ntmps205;(go_wp2_with fail);refine Z06 (fun w9=>Below w.heap.size w w9) [(0,0),(1,0),(2,0),(3,0),(4,1),(5,0),(6,0),(8,0),(9,0),(10,0),(11,1),(7,2),(12,2),(13,0),(14,0),(15,2)] (by kernel_rfl) (by kernel_rfl) (fun KK hKK=>?_);simp only [Z05,Zo9,Zo2,Zo7,Zo5,Zo6,Zoc];(repeat ((first | (refine Z0a ?_ (Or.inl ⟨by rfl,fun w9=>?_⟩) ?_;rotate_left 1;go_simp;with_reducible rfl) | (refine Z09 ?_ (((Znz _ _).drew)) (Or.inl ⟨by rfl,fun w9 hw9=>?_⟩) ?_;rotate_left 1;obtain ⟨hc9,hf9⟩:=Z0q hw9;go_simp;with_reducible rfl) | refine Z0a undef (Or.inr ⟨by rfl,rfl⟩) ?_ | refine Z09 undef (((Znz _ _).drew)) (Or.inr ⟨by rfl,rfl⟩) ?_);go_frame));refine Z29 (fun K9 hK9=>?_);go_simp;refine hK9 _ _ (((Znz _ _).drew).alloc (Zo0 _) _) ?_;clear hK9 K9;refine Z1n (by kernel_rfl) (fun K9 hK9=>?_)
 refine Z0i _ (by rfl) _ _ _ (by rfl) 250 i0 _ 2 16 Tryz.underlying292 hi hz0 hz1 hz2 rfl (by omega) _ 0 [] (by rfl) (World.ownsRow_made _ _ _ (Nat.zero_le _) (by unfold maxLen;omega) (by simp [madeCells])) A l.length c (l.flatMap PgL.cells) (by rfl) (Z0t PgL.cells_length l)
  ((HRD.out.drew.alloc _).news PgL.cells_length (by omega)) (PgL.oneAll l) (by unfold maxLen;omega) (by omega) ?_
 intro v2 w2 hown hgr hnil hat;refine hK9 _ _ ?_;clear hK9 K9;rw [Zov,Zom] at hown;obtain ⟨A',c',rfl,_,_,hz⟩:=Z0z hown;have HB1:=(HB.out.drew.alloc (.cells (madeCells (Value.cells (.agg #[.int .i64 0,.bool false])) ((l.length+1)*2)) 250)).grown hgr (by simp [Value.ownBlock];omega);have c0:=(HB1.cell 0).trans rfl;have c1:=(HB1.cell 1).trans rfl;have z0:=HB1.frozen 0;have z1:=HB1.frozen 1;have HB2:=hid HB1;clear HB1;(repeat ((first | (refine Z0a ?_ (Or.inl ⟨by rfl,fun w9=>?_⟩) ?_;rotate_left 1;go_simp;with_reducible rfl) | (refine Z09 ?_ (((Znz _ _).drew).alloc (Zo0 _) _) (Or.inl ⟨by rfl,fun w9 hw9=>?_⟩) ?_;rotate_left 1;obtain ⟨hc9,hf9⟩:=Z0q hw9;go_simp;with_reducible rfl) | refine Z0a undef (Or.inr ⟨by rfl,rfl⟩) ?_ | refine Z09 undef (((Znz _ _).drew).alloc (Zo0 _) _) (Or.inr ⟨by rfl,rfl⟩) ?_);go_frame));refine Z1n (by kernel_rfl) (fun K9 hK9=>?_);go_simp;refine hK9 _ _ ?_;clear hK9 K9;refine Z12 ?_;simp only [Z00];refine hKK _ _ ?_;clear hKK KK;go_wp2;go_end0
 have hb2:(Value.slice A' l.length c').ownBlock=some w.heap.size∨(Value.slice A' l.length c').ownBlock=some (w.heap.size+1):=by
  rcases hat with h | h
  · left;rw [h];rfl
  · right;rw [h];simp
 have hA : ∃g,w.heap.size≤g∧A'=some ⟨g,0,none⟩:=by
  rcases A' with _ | a
  · exfalso;simp [Value.ownBlock] at hb2
  · obtain ⟨g,rfl⟩:=hz a rfl
    refine ⟨g,?_,rfl⟩;simp [Value.ownBlock] at hb2;omega
 obtain ⟨g,hg,rfl⟩:=hA;have HB1:=HB2.out;have HF:Fr (· = b) w w2:=((Fr.refl (· = b) w).drew.alloc _).grown hgr (fun k e=>by simp [Value.ownBlock] at e;right;omega);refine ⟨rfl,some ⟨g,0,none⟩,c',⟨(HB1.set_ 0 _).set_ 1 _,?_⟩,(HF.setCell (p:=⟨b,0,none⟩) (.inl rfl) _).setCell (p:=⟨b,1,none⟩) (.inl rfl) _,.inr ⟨rfl,g,hg,rfl⟩⟩;(have hne:(Value.slice (some ⟨g,0,none⟩) l.length c').ownBlock≠some b:=by simp [Value.ownBlock];omega);exact ownsRow_setCell_other (a:=⟨b,1,none⟩) (ownsRow_setCell_other (a:=⟨b,0,none⟩) hown hne _) hne _
theorem Zmq (b c:Nat) (sn:Bool) (A:Option Addr) (l:List PgL) (w:World) (hS:Z3p w b sn A c l) (hl:(l.length:Int)≤1000000000) :
 Calls Tryz.prog 205 #[.pointer (some ⟨b,0,none⟩)] w (Z75 w b sn A l):=by
 cases sn
 · exact Zfu b c A l w hS
 · exact Zdb b c A l w hS hl
def Z7a (w:World) (b:Nat) (sn:Bool) (A:Option Addr) (l:List PgL) (x:PgL) (e:Ending) (w':World):Prop:=
 e = .returned (.bool (!has Z1e l x))∧∃sn' A' c',Z3p w' b sn' A' c' (put Z1e l x)∧Fr (Z0y b sn A) w w'∧Z1p w sn A sn' A'
theorem Zah (b c:Nat) (sn:Bool) (A:Option Addr) (l:List PgL) (x:PgL) (w:World) (hS:Z3p w b sn A c l) (hs:Srt Z1e l) (hl:(l.length:Int)≤100000000) (hh:has Z1e l x=true) :
 Calls Tryz.prog 168 #[.pointer (some ⟨b,0,none⟩),.agg #[.int .i64 x.kk,.bool x.v]] w (Z7a w b sn A l x):=by
 have HS:=hid hS;have HO:=hid hs;clear hS hs;go_enter Tryz.func168,Tryz.ntmps168;(go_wp2_with fail);refine (Za1 b c sn A l x _ (HS.out.new_ ((Znz _ _).alloc (Zo0 _) _)) HO.out (by omega)).mono ?_;rintro e w1 ⟨rfl,hb1⟩;(go_wp2_with fail);go_ret;refine ⟨by rw [hh];rfl,sn,A,c,?_,Fr.of_new (((Znz _ _).alloc (Zo0 _) _).trans (hb1.mono (by simp))),.inl ⟨rfl,rfl⟩⟩;rw [Z3m hh];exact HS.out.new_ (((Znz _ _).alloc (Zo0 _) _).trans (hb1.mono (by simp)))
theorem Zdj (b c:Nat) (sn:Bool) (A:Option Addr) (l:List PgL) (x:PgL) (w:World) (hS:Z3p w b sn A c l) (hs:Srt Z1e l) (hl:(l.length:Int)≤100000000) (hh:has Z1e l x=false) :
 Calls Tryz.prog 168 #[.pointer (some ⟨b,0,none⟩),.agg #[.int .i64 x.kk,.bool x.v]] w (Z7a w b sn A l x):=by
 obtain ⟨i0,hi,hz0,hz1,hz2⟩:=info_parts Ze8;have HS:=hid hS;have HO:=hid hs;have hb:=hS.lt;clear hS hs;have hrk:=Z4z (cmp:=Z1e) l x;go_enter Tryz.func168,Tryz.ntmps168;(go_wp2_with fail);have hSa:=HS.out.new_ ((Znz w.heap.size w).alloc (Zo0 _) (.cells #[.int .i64 x.kk,.bool x.v] 250));have HSa:=hid hSa;clear hSa;refine (Za1 b c sn A l x _ HSa.out HO.out (by omega)).mono ?_;rintro e w1 ⟨rfl,hb1⟩;have HS1:=hid (HSa.out.new_ hb1);(have hsz1:w.heap.size+1≤w1.heap.size:=by have:=hb1.size;(try simp at this);omega);have y0:=(hb1.cell (p:=⟨w.heap.size,0,none⟩) (by simp)).trans ((Blk.new w 250 #[.int .i64 x.kk,.bool x.v]).cell 0);have y1:=(hb1.cell (p:=⟨w.heap.size,1,none⟩) (by simp)).trans ((Blk.new w 250 #[.int .i64 x.kk,.bool x.v]).cell 1);have HB1:=hid hb1;clear hb1;(go_wp2_with fail);refine (Zmq b c sn A l _ HS1.out (by omega)).mono ?_;rintro e w2 ⟨rfl,A1,c1,hS2,hF2,hM2⟩;have hsz2:w1.heap.size≤w2.heap.size:=hF2.size;have x0:w2.cell? ⟨w.heap.size,0,none⟩=some (.int .i64 x.kk):=(hF2.cell (p:=⟨w.heap.size,0,none⟩) (by dsimp only;omega) (by dsimp only;omega)).trans y0;have x1:w2.cell? ⟨w.heap.size,1,none⟩=some (.bool x.v):=(hF2.cell (p:=⟨w.heap.size,1,none⟩) (by dsimp only;omega) (by dsimp only;omega)).trans y1;have s0:=hS2.cell0;have f0:=hS2.blk.frozen 0;(have hb2:b<w2.heap.size:=by omega);(have hk2:w.heap.size<w2.heap.size:=by omega);have HS2:=hid hS2;have HF2:=hid hF2;have HM2:=hid hM2;clear hS2 hF2 hM2 y0 y1;(go_wp2_with fail);refine Z06 (fun w9=>Below w2.heap.size w2 w9) [(0,0),(1,0),(2,0),(3,0),(4,1),(5,1),(6,2),(7,2),(8,0),(9,0),(10,2)] (by kernel_rfl) (by kernel_rfl) (fun KK hKK=>?_);simp only [Z05,Zo9,Zo2,Zo7,Zo5,Zo6,Zoc];(repeat ((first | (refine Z0a ?_ (Or.inl ⟨by rfl,fun w9=>?_⟩) ?_;rotate_left 1;go_simp;with_reducible rfl) | (refine Z09 ?_ (((Znz _ _).drew)) (Or.inl ⟨by rfl,fun w9 hw9=>?_⟩) ?_;rotate_left 1;obtain ⟨hc9,hf9⟩:=Z0q hw9;go_simp;with_reducible rfl) | refine Z0a undef (Or.inr ⟨by rfl,rfl⟩) ?_ | refine Z09 undef (((Znz _ _).drew)) (Or.inr ⟨by rfl,rfl⟩) ?_);go_frame));refine Z29 (fun K9 hK9=>?_);go_simp;refine hK9 _ _ (((Znz _ _).drew).alloc (Zo0 _) _) ?_;clear hK9 K9
 refine Z1n (by kernel_rfl) (fun K9 hK9=>?_)
 refine Z0i _ (by rfl) _ _ _ (by rfl) 250 i0 _ 2 16 Tryz.underlying292 hi hz0 hz1 hz2 rfl (by omega) _ l.length (l.flatMap PgL.cells) (by rfl) (Z02 HS2.out.row (((Znz _ _).drew).alloc (Zo0 _) _)) (some ⟨w2.heap.size,0,none⟩) 1 1 (PgL.cells x) (by rfl) (by rfl)
  (fun _=>⟨_,rfl,Zok (heap_alloc_new _ _)⟩) (PgL.one x) (by unfold maxLen;omega) (by omega) ?_
 intro v2 w3 hown hgr hnil hat;refine hK9 _ _ ?_;clear hK9 K9
 obtain ⟨g,c2,rfl⟩ : ∃g c2,v2 = .slice (some ⟨g,0,none⟩) (l.length+1) c2:=by
  rcases Z07 hown with ⟨_,h0,_⟩ | ⟨g,c2,h,_⟩
  · omega
  · exact ⟨g,c2,h⟩
 have HXN:(Value.slice A1 l.length c1).ownBlock≠some w.heap.size:=by
  intro h;rcases HM2.out with ⟨hsn,hA⟩ | ⟨_,g2,hg2,hA⟩
  · rcases A1 with _ | a1
    · cases h
    · have h1:=HS.out.row_lt _ hA.symm
      simp only [Value.ownBlock,Option.some.injEq] at h;omega
  · subst hA
    simp only [Value.ownBlock,Option.some.injEq] at h;omega
 have HB3':=(HS2.out.blk.drew.alloc (.cells #[.int .i64 x.kk,.bool x.v] 250)).grown hgr (Z01 HS2.out.row HS2.out.blk (by decide));have c0:=(HB3'.cell 0).trans rfl;have z0:=HB3'.frozen 0;have HB3:=hid HB3';have HOWN:=hid hown;have HGR:=hid hgr;clear HB3' hown hgr;(repeat ((first | (refine Z0a ?_ (Or.inl ⟨by rfl,fun w9=>?_⟩) ?_;rotate_left 1;go_simp;with_reducible rfl) | (refine Z09 ?_ (((Znz _ _).drew).alloc (Zo0 _) _) (Or.inl ⟨by rfl,fun w9 hw9=>?_⟩) ?_;rotate_left 1;obtain ⟨hc9,hf9⟩:=Z0q hw9;go_simp;with_reducible rfl) | refine Z0a undef (Or.inr ⟨by rfl,rfl⟩) ?_ | refine Z09 undef (((Znz _ _).drew).alloc (Zo0 _) _) (Or.inr ⟨by rfl,rfl⟩) ?_);go_frame));refine Z1n (by kernel_rfl) (fun K9 hK9=>?_);go_simp;refine hK9 _ _ ?_;clear hK9 K9;refine Z12 ?_;simp only [Z00];refine hKK _ _ ?_;clear hKK KK;have hlg:((l.length+1:Nat):Int)=(l.length:Int)+1:=by omega
 have hG:(Z0y b sn A g∨w.heap.size≤g)∧Z1p w sn A false (some ⟨g,0,none⟩)∧g≠w.heap.size∧g≠b:=by
  rcases hat with h | h
  · rcases A1 with _ | a1
    · simp [Value.ownBlock] at h
    · obtain ⟨A',c',hv,_,_,hz⟩:=Z0z HS2.out.row
      injection hv with hv _ _;obtain ⟨g',rfl⟩:=hz a1 hv.symm;(have hgg:g'=g:=by simpa [Value.ownBlock] using h.symm);subst hgg;have hne:g'≠b:=HS2.out.row_ne (by decide) _ rfl;rcases HM2.out with ⟨hsn,hA⟩ | ⟨_,g2,hg2,hA⟩
      · have h1:=HS.out.row_lt _ hA.symm
        exact ⟨.inl (.inr ⟨hsn.symm,_,hA.symm,rfl⟩),.inl ⟨hsn,hA⟩,by dsimp only at h1;omega,hne⟩
      · injection hA with hA
        injection hA with hA;subst hA;exact ⟨.inr (by omega),.inr ⟨rfl,_,by omega,rfl⟩,by omega,hne⟩
  · have hgg:g=w2.heap.size+1:=by simpa [Value.ownBlock] using h
    subst hgg;exact ⟨.inr (by omega),.inr ⟨rfl,_,by omega,rfl⟩,by omega,by omega⟩
 obtain ⟨hgM,hgMv,hgk1,hgb⟩:=hG;obtain ⟨w4,hw4⟩ : ∃w4,w4=w3.setCell ⟨b,0,none⟩ (.slice (some ⟨g,0,none⟩) (l.length+1) c2):=⟨_,rfl⟩;have hB4:Blk w4 b 294 #[.slice (some ⟨g,0,none⟩) (l.length+1) c2,.bool false]:=by rw [hw4];exact HB3.out.set_ 0 _
 have hR4:w4.ownsRow 0 250 2 (.slice (some ⟨g,0,none⟩) (l.length+1) c2) (l.length+1) ((Z0c l x l.length).flatMap PgL.cells):=by
  rw [hw4,Z21];refine ownsRow_setCell_other (a:=⟨b,0,none⟩) ?_ (by simpa [Value.ownBlock] using hgb) _;rw [Zog,List.flatMap_singleton];exact HOWN.out
 have hF4:Fr (Z0y b sn A) w w4:=by
  rw [hw4];have h1:Fr (Z0y b sn A) w w1:=Fr.of_new (((Znz _ _).alloc (Zo0 _) _).trans (HB1.out.mono (by simp)));have h2:Fr (Z0y b sn A) w w2:=h1.trans (HF2.out.mono (fun k _ h=>.inl h));refine ((h2.drew.alloc _).grown HGR.out (fun k hk=>?_)).setCell (p:=⟨b,0,none⟩) (.inl (.inl rfl)) _;rcases A1 with _ | a1
  · cases hk
  · simp only [Value.ownBlock,Option.some.injEq] at hk
    subst hk;rcases HM2.out with ⟨hsn,hA⟩ | ⟨_,g',hg',hA⟩
    · left;right;exact ⟨hsn.symm,a1,hA.symm,rfl⟩
    · injection hA with hA
      subst hA;right;dsimp only;omega
 have z0:w4.cell? ⟨w.heap.size,0,none⟩=some (.int .i64 x.kk):=by
  rw [hw4,World.cell?_setCell_other _ _ _ _ (by intro h;injection h;omega)];refine HGR.out.cell ((World.cell?_alloc_lt w2.drew _ ⟨w.heap.size,0,none⟩ hk2).trans x0) ?_;intro h;exact HXN (by simpa using h.symm)
 have z1:w4.cell? ⟨w.heap.size,1,none⟩=some (.bool x.v):=by
  rw [hw4,World.cell?_setCell_other _ _ _ _ (by intro h;injection h;omega)];refine HGR.out.cell ((World.cell?_alloc_lt w2.drew _ ⟨w.heap.size,1,none⟩ hk2).trans x1) ?_;intro h;exact HXN (by simpa using h.symm)
 (have hk4:w.heap.size<w4.heap.size:=by rw [hw4];have:=HGR.out.size;simp at this ⊢;omega);rw [← hw4];have HgM:=hid hgM;have HgMv:=hid hgMv;have HB4:=hid hB4;have HR4:=hid hR4;have HF4:=hid hF4;have s4:=hB4.cell 0;have s4':w4.cell? ⟨b,0,none⟩=some (.slice (some ⟨g,0,none⟩) (l.length+1) c2):=s4;clear s4 hw4 hB4 hR4 hF4 hat hgM hgMv hnil x0 x1 s0 f0;go_wp2_with fail
 go_loopw [7] (fun s wr=>∃i:Nat,s = .int .i64 i∧rank Z1e l x≤i∧i≤l.length∧wr.ownsRow 0 250 2 (.slice (some ⟨g,0,none⟩) (l.length+1) c2) (l.length+1) ((Z0c l x i).flatMap PgL.cells)∧Fr (· = g) w4 wr) (fun s wr=>(intOf s).toNat)
 case atStart=>exact ⟨l.length,by go_num,hrk,Zo0 _,HR4.out,Fr.refl _ _⟩
 case round=>
  obtain ⟨i,rfl,hi1,hi2,hown,hfr⟩:=hrel;have hgw:g<wr.heap.size:=(hown.lt g rfl).2;have r0:wr.cell? ⟨b,0,none⟩=some (.slice (some ⟨g,0,none⟩) (l.length+1) c2):=(hfr.cell (p:=⟨b,0,none⟩) HB4.out.lt (fun h=>hgb h.symm)).trans s4';have fz : ∀o,wr.frozen? ⟨g,o,none⟩=false:=fun o=>hown.frozenAt o;have HOW:=hid hown;have HFR:=hid hfr;clear hown hfr;by_cases hlt:rank Z1e l x<i
  · obtain ⟨j,rfl⟩ : ∃j,i=j+1:=⟨i - 1,by omega⟩
    (have hj:j<l.length:=by omega);have hrd:=Z0d (A:=some ⟨g,0,none⟩) (c:=c2) (l:=Z0c l x (j+1)) PgL.cells_length (by rw [Z03 l x hi2];exact HOW.out);obtain ⟨g',o',hgo,_,hcell⟩:=hrd.at_ (k:=j) (by rw [Z03 l x hi2];omega);injection hgo with hgo;injection hgo with hg1 hg2;subst hg1;subst hg2;rw [Z26 l x hj] at hcell;(have q0:wr.cell? ⟨g,j*2,none⟩=some (.int .i64 l[j].kk):=by simpa using hcell 0 _ rfl);have q1:wr.cell? ⟨g,j*2+1,none⟩=some (.bool l[j].v):=by simpa using hcell 1 _ rfl
    have rmj:Room wr g 250 (c2*2)∧l.length+1≤c2:=by
     rcases Z07 HOW.out with ⟨hv,_⟩ | ⟨g',cap,hv,hn,_,hr,_⟩
     · cases hv
     · injection hv with hA _ hc
       injection hA with hA;injection hA with hA;subst hA;subst hc;exact ⟨hr,hn⟩
    obtain ⟨hrm,hcap⟩:=rmj;obtain ⟨u0,t0⟩:=hrm.cell (i:=(j+1)*2) (by omega);obtain ⟨u1,t1⟩:=hrm.cell (i:=(j+1)*2+1) (by omega);(have b0:(0:Int)≤(j:Int)+1:=by omega);(have b1:(0:Int)≤(j:Int):=by omega);(have b4:(j:Int)<(l.length:Int):=by omega);(have b2:(j:Int)<(l.length:Int)+1:=by omega);(have b3:(j:Int)+1<(l.length:Int)+1:=by omega);have w1:IntKind.i64.wrap ((j:Int))=(j:Int):=Zof _ (by omega);(have w2:IntKind.i64.wrap ((j:Int)+1 - 1)=(j:Int):=by rw [Zof _ (by omega)];omega);clear hcell hrd hrm;obtain ⟨y,hy⟩ : ∃y,y=l[j]:=⟨_,rfl⟩;rw [← hy] at q0 q1;have HY:=hid hy;have hbw:b<wr.heap.size:=Zoa wr _ r0;clear hy;(go_wp2_with fail);refine Z06 (fun w9=>Below wr.heap.size wr w9) [(0,0),(1,0),(2,0),(3,1),(4,0),(5,0),(6,0),(7,0),(8,1),(9,0),(10,0),(11,0),(12,1),(13,0),(14,2)] (by kernel_rfl) (by kernel_rfl) (fun KK hKK=>?_);simp only [Z05,Zo9,Zo2,Zo7,Zo5,Zo6,Zoc];(repeat ((first | (refine Z0a ?_ (Or.inl ⟨by rfl,fun w9=>?_⟩) ?_;rotate_left 1;go_simp;with_reducible rfl) | (refine Z09 ?_ (((Znz _ _).drew)) (Or.inl ⟨by rfl,fun w9 hw9=>?_⟩) ?_;rotate_left 1;obtain ⟨hc9,hf9⟩:=Z0q hw9;go_simp;with_reducible rfl) | refine Z0a undef (Or.inr ⟨by rfl,rfl⟩) ?_ | refine Z09 undef (((Znz _ _).drew)) (Or.inr ⟨by rfl,rfl⟩) ?_);go_frame));refine Z1n (by kernel_rfl) (fun K9 hK9=>?_);go_simp;refine hK9 _ _ ?_;clear hK9 K9;refine Z12 ?_;simp only [Z00];refine hKK _ _ ?_;clear hKK KK;(go_wp2_with fail);go_roundw
    case rel=>
     refine ⟨j,by go_num,by omega,by omega,?_,Fr.drew (((HFR.out).setCell (p:=⟨g,(j+1)*2,none⟩) (.inl rfl) (_)).setCell (p:=⟨g,(j+1)*2+1,none⟩) (.inl rfl) (_))⟩;have hst:=((((HOW.out).stored ((j+1)*2) (.int .i64 y.kk)).1).stored ((j+1)*2+1) (.bool y.v)).1
     have he:setAll ((Z0c l x (j+1)).flatMap PgL.cells) ((j+1)*2) (PgL.cells y)=(Z0c l x j).flatMap PgL.cells:=by
      rw [Z4a PgL.cells_length (by omega) _ (j+1) (by rw [Z03 l x hi2];omega),HY.out,Z27 l x hj]
     rw [← he];exact hst
    case measure=>simp [intOf]<;>omega
  · obtain rfl:i=rank Z1e l x:=by omega
    have rmj:Room wr g 250 (c2*2)∧l.length+1≤c2:=by
     rcases Z07 HOW.out with ⟨hv,_⟩ | ⟨g',cap,hv,hn,_,hr,_⟩
     · cases hv
     · injection hv with hA _ hc
       injection hA with hA;injection hA with hA;subst hA;subst hc;exact ⟨hr,hn⟩
    obtain ⟨hrm,hcap⟩:=rmj;obtain ⟨k,hk⟩ : ∃k,k=rank Z1e l x:=⟨_,rfl⟩;rw [← hk] at hi2 hlt ⊢;obtain ⟨u0,t0⟩:=hrm.cell (i:=k*2) (by omega);obtain ⟨u1,t1⟩:=hrm.cell (i:=k*2+1) (by omega);have x0:=(HFR.out.cell (p:=⟨w.heap.size,0,none⟩) hk4 (fun h=>hgk1 h.symm)).trans z0;have x1:=(HFR.out.cell (p:=⟨w.heap.size,1,none⟩) hk4 (fun h=>hgk1 h.symm)).trans z1;(have b1:(0:Int)≤(k:Int):=by omega);(have b2:(k:Int)<(l.length:Int)+1:=by omega);have HK:=hid hk;(have hkw:w.heap.size<wr.heap.size:=by have:=HFR.out.size;omega);have hbw:b<wr.heap.size:=Zoa wr _ r0;clear hrm hk z0 z1;(go_wp2_with fail);refine Z06 (fun w9=>Below wr.heap.size wr w9) [(0,0),(1,0),(2,0),(3,1),(4,0),(5,1),(6,0),(7,2)] (by kernel_rfl) (by kernel_rfl) (fun KK hKK=>?_);simp only [Z05,Zo9,Zo2,Zo7,Zo5,Zo6,Zoc];(repeat ((first | (refine Z0a ?_ (Or.inl ⟨by rfl,fun w9=>?_⟩) ?_;rotate_left 1;go_simp;with_reducible rfl) | (refine Z09 ?_ (((Znz _ _).drew)) (Or.inl ⟨by rfl,fun w9 hw9=>?_⟩) ?_;rotate_left 1;obtain ⟨hc9,hf9⟩:=Z0q hw9;go_simp;with_reducible rfl) | refine Z0a undef (Or.inr ⟨by rfl,rfl⟩) ?_ | refine Z09 undef (((Znz _ _).drew)) (Or.inr ⟨by rfl,rfl⟩) ?_);go_frame));refine Z1n (by kernel_rfl) (fun K9 hK9=>?_);go_simp;refine hK9 _ _ ?_;clear hK9 K9;refine Z12 ?_;simp only [Z00];refine hKK _ _ ?_;clear hKK KK;(go_wp2_with fail);go_ret;have HOWk:=HOW.out;rw [← HK.out] at HOWk;have hst:=((((HOWk).stored (k*2) (.int .i64 x.kk)).1).stored (k*2+1) (.bool x.v)).1
    have he:setAll ((Z0c l x k).flatMap PgL.cells) (k*2) (PgL.cells x)=(put Z1e l x).flatMap PgL.cells:=by
     rw [Z4a PgL.cells_length (by omega) _ k (by rw [Z03 l x hi2];omega),Z2q l x hi2,Z66 Z68 HO.out hh,HK.out]
    have hln:=Z2e Z68 HO.out hh;refine ⟨by rw [hh];rfl,false,some ⟨g,0,none⟩,c2,⟨?_,?_⟩,?_,?_⟩
    · rw [hln]
      exact ((HB4.out.fr HFR.out (fun h=>hgb h.symm)).far (p:=⟨g,k*2,none⟩) (fun h=>hgb h.symm) _).far (p:=⟨g,k*2+1,none⟩) (fun h=>hgb h.symm) _
    · rw [hln,← he]
      exact hst
    · exact HF4.out.into (Fr.drew (((HFR.out).setCell (p:=⟨g,k*2,none⟩) (.inl rfl) (_)).setCell (p:=⟨g,k*2+1,none⟩) (.inl rfl) (_))) (fun k hk=>by subst hk;exact HgM.out)
    · exact HgMv.out
theorem Zif (b c:Nat) (sn:Bool) (A:Option Addr) (l:List PgL) (x:PgL) (w:World) (hS:Z3p w b sn A c l) (hs:Srt Z1e l) (hl:(l.length:Int)≤100000000) :
 Calls Tryz.prog 168 #[.pointer (some ⟨b,0,none⟩),.agg #[.int .i64 x.kk,.bool x.v]] w (Z7a w b sn A l x):=by
 cases hh:has Z1e l x
 · exact Zdj b c sn A l x w hS hs hl hh
 · exact Zah b c sn A l x w hS hs hl hh
theorem Zf7 (b c:Nat) (sn:Bool) (A:Option Addr) (l:List PgL) (x:PgL) (w:World) (hS:Z3p w b sn A c l) (hs:Srt Z1e l) (hl:(l.length:Int)≤1000000000) (hh:has Z1e l x=false) :
 Calls Tryz.prog 166 #[.pointer (some ⟨b,0,none⟩),.agg #[.int .i64 x.kk,.bool x.v]] w fun e w'=>e = .returned (.tuple #[.agg #[.int .i64 0,.bool false],.bool false])∧Below w.heap.size w w':=by
 have HS:=hid hS;have HO:=hid hs;clear hS hs;go_enter Tryz.func166,Tryz.ntmps166;(go_wp2_with fail);refine (Za1 b c sn A l x _ (HS.out.new_ ((((Znz _ _).alloc (Zo0 _) _).alloc (by simp) _).alloc (by simp;omega) _)) HO.out (by omega)).mono ?_;rintro e w1 ⟨rfl,hb1⟩;obtain ⟨hc1,hf1⟩:=Z0q hb1;(have hz1:w.heap.size+2<w1.heap.size:=by have:=hb1.size;simp at this;omega);have HB:=hid ((((((Znz w.heap.size w).alloc (Zo0 _) _).alloc (by simp) _).alloc (by simp;omega) _)).trans (hb1.mono (by simp;omega)));clear hb1;(go_wp2_with fail);exact bodyPost_ret (v:=.tuple #[.agg #[.int .i64 0,.bool false],.bool false]) (by simp [results,Tryz.results166,go_sem,hc1]) rfl ⟨rfl,by (repeat (first | exact Znz _ _ | exact HB.out | refine Below.drew ?_ | refine Below.al ?_ _ | refine Below.sc ?_ _))⟩
def Zep (w:World) (xs:List PgL) (e:Ending) (w':World):Prop:=
 ∃k,e = .returned (.pointer (some ⟨k,0,none⟩))∧w.heap.size≤k∧∃sn A c,Z3p w' k sn A c (puts Z1e [] xs)∧AIn A (w.heap.size≤·)∧Below w.heap.size w w'
theorem Zmk (A:Option Addr) (c:Nat) (xs:List PgL) (w:World) (hrd:Z0p w 2 PgL.cells A c xs) (hl:(xs.length:Int)≤10000000) :
 Calls Tryz.prog 165 #[.slice A xs.length c] w (Zep w xs):=by
 have HRD:=hid hrd;clear hrd;go_enter Tryz.func165,Tryz.ntmps165;(go_wp2_with fail);obtain ⟨W0,hW0⟩ : ∃W0,W0=w.alloc (.cells #[.slice none 0 0,.bool false] 294):=⟨_,rfl⟩;(have hb0:Below w.heap.size w W0:=by rw [hW0];exact (Znz _ _).alloc (Zo0 _) _);have hS0:Z3p W0 w.heap.size false none 0 []:=⟨by rw [hW0];exact Blk.new _ _ _,⟨by simp,.inl ⟨rfl,rfl⟩⟩⟩;rw [← hW0];clear hW0;have HB0:=hid hb0;have HS0:=hid hS0;clear hb0 hS0
 go_loopw [10] (fun s wr=>∃i:Nat,s = .int .i64 i∧i≤xs.length∧∃sn A' c',Z3p wr w.heap.size sn A' c' (puts Z1e [] (xs.take i))∧AIn A' (w.heap.size≤·)∧Below w.heap.size w wr) (fun s wr=>xs.length - (intOf s).toNat)
 case atStart=>exact ⟨0,rfl,Nat.zero_le _,false,none,0,HS0.out,AIn.none_ _,HB0.out⟩
 case round=>
  obtain ⟨i,rfl,hi,sn,A',c',hS,hA',hB⟩:=hrel;have HS:=hid hS;have HA:=hid hA';have HB:=hid hB;clear hS hA' hB;by_cases hlt:i<xs.length
  · obtain ⟨x,hx⟩ : ∃x,x=xs[i]:=⟨_,rfl⟩
    obtain ⟨g,off,rfl,hgs,hcell⟩:=(HRD.out.fr (Fr.of_new (M:=fun _=>False) HB.out) (fun _ _ h=>h)).at_ hlt;rw [← hx] at hcell;(have q0:wr.cell? ⟨g,off+i*2,none⟩=some (.int .i64 x.kk):=by simpa using hcell 0 _ rfl);(have q1:wr.cell? ⟨g,off+i*2+1,none⟩=some (.bool x.v):=by simpa using hcell 1 _ rfl);(have b1:(0:Int)≤(i:Int):=by omega);(have b2:(i:Int)<(xs.length:Int):=by omega);have HX:=hid hx;clear hcell hx;(go_wp2_with fail);have hsr:=Srt.puts Z68 (xs.take i) (Srt.nil (cmp:=Z1e))
    have hlen:(((puts Z1e [] (xs.take i)).length:Nat):Int)≤100000000:=by
     have:=Z13 Z68 (xs.take i) (Srt.nil (cmp:=Z1e));simp at this;omega
    refine (Zif w.heap.size c' sn A' _ x _ (HS.out.new_ ((Znz _ _).alloc (Zo0 _) _)) hsr hlen).mono ?_;rintro e w1 ⟨rfl,sn2,A2,c2,hS2,hF2,hM2⟩
    have hB1:Below w.heap.size w w1:=(HB.out.alloc HB.out.size _).trans (hF2.below (by have:=HB.out.size;(try simp);omega) (fun k hk hm=>by
     rcases hm with hm | ⟨_,a,ha,hm⟩
     · omega
     · have:=HA.out a ha;omega))
    have hA2:AIn A2 (w.heap.size≤·):=by
     rcases hM2 with ⟨_,rfl⟩ | ⟨_,g2,hg2,rfl⟩
     · exact HA.out
     · intro a ha;cases ha;have:=HB.out.size;(try simp at hg2 ⊢);omega
    have HS2:=hid hS2;have HB1:=hid hB1;have HA2:=hid hA2;clear hS2 hB1 hA2 hF2 hM2 hsr hlen q0 q1;(go_wp2_with fail);go_roundw
    case rel=>
     refine ⟨i+1,by go_num,by omega,sn2,A2,c2,?_,HA2.out,HB1.out⟩;rw [Zou,Zo8 hlt,← HX.out];simp only [Option.toList_some,Z23];exact HS2.out
    case measure=>simp [intOf]<;>omega
  · have hie:i=xs.length:=by omega
    subst hie;(go_wp2_with fail);go_ret;refine ⟨w.heap.size,rfl,Zo0 _,sn,A',c',?_,HA.out,HB.out⟩;have:=HS.out;rwa [Zop] at this
abbrev zPgL (k:Int):PgL:=⟨k,false⟩
theorem Zji (k:Int) (w:World):Calls Tryz.prog 167 #[.int .i64 k] w fun e w'=>e = .returned (.agg #[.int .i64 k,.bool false])∧Below w.heap.size w w':=by
 obtain ⟨W,hW⟩ : ∃W,W=w.alloc (.cells #[.int .i64 0,.bool false] 250):=⟨_,rfl⟩;(have hR:Blk W w.heap.size 250 #[.int .i64 0,.bool false]:=by rw [hW];exact Blk.new _ _ _);(have hB:Below w.heap.size w W:=by rw [hW];exact (Znz _ _).alloc (Zo0 _) _);have ht:W.there w.heap.size 0 (#[.int .i64 k,.bool false]:Array Value).size:=hR.there;have HT:=hid ht;have HB:=hid hB;clear ht hR hB;go_enter Tryz.func167,Tryz.ntmps167;(go_upto_region 1 with (fail));rw [← hW];clear hW;(go_wp2_with (with_reducible refine wpList_store_mid rfl 250 _ _ rfl w.heap.size 0 #[.int .i64 k,.bool false] rfl rfl HT.out (by kernel_rfl) (by kernel_rfl) ?_));(try simp only [Exit.inBlock,Exit.then]);refine bodyPost_ret (v:=.agg #[.int .i64 k,.bool false]) ?_ rfl ⟨rfl,Below.setCells' _ _ HB.out (by omega)⟩;exact Z1l (t:=2) (T:=250) rfl _ _ w.heap.size [.int .i64 k,.bool false] _ rfl (Zo4 W w.heap.size 0 [.int .i64 k,.bool false] HT.out) Tryz.underlying250 rfl (by kernel_rfl)
theorem Z1p.of_PgL {a b:World} (h:Below a.heap.size a b) {sn sn':Bool} {A A':Option Addr} (hm:Z1p b sn A sn' A'):Z1p a sn A sn' A':=
 hm.imp id (fun ⟨h1,g,h2,h3⟩=>⟨h1,g,by have:=h.size;omega,h3⟩)
theorem Zgw (w:World):Calls Tryz.prog 127 #[] w fun e w'=>∃bm bp sn A c,e = .returned (.pointer (some ⟨bm,0,none⟩))∧w.heap.size≤bm∧w.heap.size≤bp∧AIn A (w.heap.size≤·)∧Blk w' bm 252 #[.pointer (some ⟨bp,0,none⟩)]∧Z3p w' bp sn A c []∧Below w.heap.size w w':=by
 go_enter Tryz.func127,Tryz.ntmps127;(go_wp2_with fail);refine (Zmk none 0 [] _ (Z0p.nil _ _ _) (by simp)).mono ?_;rintro e w1 ⟨bp,rfl,hbp,sn,A,c,hS,hA,hB⟩;have HS:=hid hS;have HB:=hid hB;clear hS hB;(go_wp2_with fail);go_ret;have hb9:Below w1.heap.size w1 (w1.alloc (.cells #[.pointer (some ⟨bp,0,none⟩)] 252)):=(Znz _ _).alloc (Zo0 _) _;exact ⟨w1.heap.size,bp,sn,A,c,rfl,HB.out.size,hbp,hA,Blk.new _ _ _,HS.out.new_ hb9,HB.out.trans (hb9.mono HB.out.size)⟩
theorem Zh0 (bm bp cc:Nat) (sn:Bool) (A:Option Addr) (m:List PgL) (x:PgL) (w:World) (hM:Blk w bm 252 #[.pointer (some ⟨bp,0,none⟩)]) (hS:Z3p w bp sn A cc m) (hs:Srt Z1e m) (hl:(m.length:Int)≤1000000) (hh:has Z1e m x=false) :
 Calls Tryz.prog 128 #[.pointer (some ⟨bm,0,none⟩),.int .i64 x.kk,.bool x.v] w fun e w'=>e = .returned (.bool true)∧∃sn' A' c',Z3p w' bp sn' A' c' (put Z1e m x)∧Fr (Z0y bp sn A) w w'∧Z1p w sn A sn' A':=by
 obtain ⟨c,hc⟩ : ∃c,c=x.kk:=⟨_,rfl⟩;obtain ⟨xv,hv⟩ : ∃v,v=x.v:=⟨_,rfl⟩;(have hx:x=⟨c,xv⟩:=by rw [hc,hv]);rw [← hc,← hv];subst hx;clear hc hv;have hh0:has Z1e m ⟨c,false⟩=false:=hh;have s0:=hM.c1;have hml:=hM.lt;have HS:=hid hS;have HO:=hid hs;have HM:=hid hM;have HH0:=hid hh;have HH:=hid hh0;clear hS hs hM hh hh0;go_enter Tryz.func128,Tryz.ntmps128;go_upto_region 3 with (fail)
 go_cut [8] from 11 (fun b wc=>b = .bool false∧Below w.heap.size w wc)
 case first=>
  refine Z17 (fun w9=>Below w.heap.size w w9) [0,1,2,3,4,7,8,9,12] [3] (.fork [(0,0),(1,0),(2,0),(3,1),(4,0)] 5 (.fork [] 6 (.fin [(7,0),(8,0),(9,0),(10,2),(11,2),(12,0)]) 10 (.fin [(6,2),(7,0),(8,0),(9,0),(11,2),(12,0)])) 10 (.fin [(5,2),(6,2),(7,0),(8,0),(9,0),(11,2),(12,0)])) (by kernel_rfl) (by kernel_rfl) (by kernel_rfl) (fun KK hKK=>?_);simp only [wpPl,Z05,Zo9,Zo2,Zo7,Zo5,Zo6,Zoc];have HB:=hid (Znz w.heap.size w).drew;obtain ⟨V,hV⟩ : ∃V,V=w.drew:=⟨_,rfl⟩;rw [← hV] at HB ⊢;clear hV
  repeat' (first
   | ((first | (refine Z1s ?_ (Or.inl ⟨by rfl,fun w9=>?_⟩) ?_;rotate_left 1;go_simp;with_reducible rfl) | (refine Z2c ?_ (HB.out) (Or.inl ⟨by rfl,fun w9 hw9=>?_⟩) ?_;rotate_left 1;obtain ⟨hc9,hf9⟩:=Z0q hw9;go_simp;with_reducible rfl) | refine Z1s undef (Or.inr ⟨by rfl,rfl⟩) ?_ | refine Z2c undef (HB.out) (Or.inr ⟨by rfl,rfl⟩) ?_);go_frame)
   | ((first | refine Z1v (fun K9 hK9=>?_) | refine Z1a rfl (fun K9 hK9=>?_));refine Z0n rfl 250 _ _ rfl g 0 #[.int .i64 0,.bool false] rfl rfl (show _ from HK.out.there) (by kernel_rfl) (by kernel_rfl) ?_;show K9 _ (V.setCells g 0 [.int .i64 0,.bool false]);have HR:=hid (Zo4 V g 0 [.int .i64 0,.bool false] (show _ from HK.out.there));have HB:=hid (Below.setCells' [.int .i64 0,.bool false] 0 HB.out HG.out);obtain ⟨V,hV⟩ : ∃V9,V9=V.setCells g 0 [.int .i64 0,.bool false]:=⟨_,rfl⟩;rw [← hV] at HR HB;rw [← hV];have HL:=hid (show g<V.heap.size from Zoa _ _ (HR.out 0 _ rfl));clear hV;(first | refine hK9 _ _ (HB.out) ?_ | refine hK9 _ _ (fun _=>HB.out) ?_);clear hK9 K9;(try go_frame);try simp only [Z05,Zo2])
   | ((first | refine Z1v (fun K9 hK9=>?_) | refine Z1a rfl (fun K9 hK9=>?_));go_simp;(first
     | (refine (Zji c _).mono ?_;rintro e V ⟨rfl,hb⟩;have HB:=hid (HB.out.trans (hb.mono HB.out.size));(try have HK:=hid (HK.out.new_ hb));clear hb)
     | (refine (Zf7 bp cc sn A m (zPgL c) _ (HS.out.new_ (HB.out)) HO.out (by omega) HH.out).mono ?_;rintro e V ⟨rfl,hb⟩;have HB:=hid (HB.out.trans (hb.mono HB.out.size));(try have HK:=hid (HK.out.new_ hb));clear hb)
     | (obtain ⟨g,hg⟩ : ∃g,g=V.heap.size:=⟨_,rfl⟩;have hk:=Blk.new V 250 #[.int .i64 0,.bool false];have HG:=hid (show w.heap.size≤g by rw [hg];exact HB.out.size);have HB:=hid (HB.out.alloc HB.out.size (.cells #[.int .i64 0,.bool false] 250));obtain ⟨V,hV⟩ : ∃V9,V9=V.alloc (.cells #[.int .i64 0,.bool false] 250):=⟨_,rfl⟩;rw [← hV,← hg] at hk;rw [← hV] at HB;have HK:=hid hk;rw [← hV,← hg];clear hV hk hg) | fail);(first | refine hK9 _ _ (HB.out) ?_ | refine hK9 _ _ (fun _=>HB.out) ?_);clear hK9 K9;(try go_frame);try simp only [Z05,Zo2])
   | (refine Z0u ⟨?_,?_⟩) | fail)
  all_goals
   refine Z0u ?_;simp only [Z00];refine hKK _ _ ?_;clear hKK KK;(go_wp2_with fail);go_meet
   case rel=>exact ⟨rfl,HB.out⟩
 case rest=>
  obtain ⟨rfl,hB⟩:=hcut;have r0:=(HM.out.new_ hB).c1;have hml2:=(HM.out.new_ hB).lt;have HB:=hid hB;have HS2:=hid (HS.out.new_ hB);clear hB s0;(go_wp2_with fail);refine (Zif bp cc sn A m ⟨c,xv⟩ _ HS2.out HO.out (by omega)).mono ?_;rintro e w5 ⟨rfl,hch⟩;have HP:=hid hch;clear hch;(go_wp2_with fail);go_ret;obtain ⟨sn',A',c',g1,g2,g3⟩:=HP.out;refine ⟨by rw [HH0.out]<;>rfl,sn',A',c',g1,(Fr.of_new HB.out).trans g2,Z1p.of_PgL HB.out g3⟩
end
section
open Go.RowKit Go.Shelf
attribute [local go_sem] Oper.semAt_some
set_option linter.unusedSimpArgs false
def e24:Elem:=⟨sSym,wSym 120,⟨2,⟨#[]⟩,1⟩,false,true,4⟩
def p24:Z04:=⟨sSym,wSym 121,⟨2,⟨#[]⟩,2⟩,symZ,1,false,2,3⟩
def c24:Z1c:=.mk 1 true ⟨#[115,49]⟩ [⟨1,⟨#[]⟩,wSym 120,[]⟩] [⟨1,⟨#[]⟩,⟨2,⟨#[]⟩,1⟩,[]⟩] false []
def a24:ActT:=⟨⟨#[115,49]⟩,⟨⟨#[]⟩,wSym 121⟩,⟨0,⟨⟨#[]⟩,⟨2,⟨#[]⟩,2⟩⟩,Z7y⟩,1,Z7y⟩
def r24:Z0f:=⟨3,2,[⟨e24,1,0⟩],[],[],[]⟩
theorem Znb:Z6m 1=⟨#[99,104,117,110,107,45,49]⟩:=by unfold Z6m;rw [decB,if_pos (by decide)];rfl
theorem Zgd:Z5m [e24]=some ([e24],[sSym]):=by kernel_rfl
theorem Zgc : [e24].map (posV [sSym]) = [c24]:=by kernel_rfl
theorem Ziz:Z5c (fun _=>true) [p24] [sSym] []=some ([a24],[sSym]):=by kernel_rfl
theorem Zgb:(Z39 1 ⟨⟨#[99,104,117,110,107,45,49]⟩,[c24],[a24]⟩).2.1=0:=
 Zjo (n:=0) (c:=c24) (l:=[]) (k1:=(oneK ([],[]) c24).2) (k2:=(oneK ([],[]) c24).2) (at_:=1) (by kernel_rfl) rfl rfl (by kernel_rfl) (Zcq _ _ _) (by kernel_rfl)
theorem Zj0:Z62 1 (Z6m 1) [e24] (fun _=>true) [] [p24]=some (⟨⟨#[99,104,117,110,107,45,49]⟩,[c24],[a24]⟩,[4]):=by
 rw [Znb];unfold Z62;rw [Zgd];simp only;rw [if_neg (by simp),if_neg (by simp),Zgc];unfold Zg2;rw [Ziz];simp only;rw [if_pos Zgb];rfl
def L24:List Z0f:=[r24]
theorem Zge:Z4i (Z3r L24) 2 [3] [3] [] = [3]:=by kernel_rfl
theorem Zgf:Z55 (Z3r L24) 2 [3]=⟨[⟨e24,1,0⟩],[],[],[],1,0⟩:=by kernel_rfl
theorem Z7p : ∀r∈L24,SmR 1 r∧r.elems.length≤20:=by
 intro r hr;simp only [L24,Zoj,Zoq,or_false] at hr;subst hr;exact ⟨⟨by decide,by decide,by decide,by decide,fun h hh=>by cases hh⟩,by decide⟩
theorem Zj1 {kb:Nat} {A Ai:Option Addr} {c ci:Nat} (w:World) (hk:Blk w kb 122 #[.slice A 1 c]) (hr:RowR (Z1x 1) (· < w.heap.size) w A c L24) (hi:Z0p w 1 Int.cells1 Ai ci [3]) :
 Calls Tryz.prog 129 #[.int .i64 2,.slice Ai 1 ci,.func (.func 131) #[] #[.pointer (some ⟨kb,0,none⟩)]] w (Z6j 1 (fun E _ w'=>(∀k,¬E k)∧Below w.heap.size w w'∧w.heap.size≤w'.heap.size) (Z3r L24) 2 (fun _=>False) [3] w):=by
 have hf:=Zf4 1 kb w.heap.size L24 A c w hk hr (fun r hr=>⟨(Z7p r hr).1,by simp only [L24,Zoj,Zoq,or_false] at hr;rw [hr];rfl⟩) (Zo0 _) hk.lt;have h1:=Zfg (l:=L24) (by decide) (fun r hr=>(Z7p r hr).2) 2 [3] (by decide);have:=Zjm hf (L24.map Z0f.num) (Z9j L24) (Zbm (Zlb 1) (fun r hr=>(Z7p r hr).1)) 2 [3] Ai ci (E0:=fun _=>False) w ⟨fun _ h=>h,Znz _ _,Zo0 _⟩ (Zo0 _) hi h1.1 h1.2;rw [show L24.map Z0f.num = [3] from rfl,Zge] at this;exact this
theorem Zmo (w0:World):Z9t 77 #[] w0 (fun _=>true):=by
 refine ⟨fun args w=>by kernel_rfl,fun s W hW=>?_⟩;show Calls Tryz.prog 77 #[.agg #[.int .i64 s.kind,.string s.text,.int .i64 s.n]] W _;go_enter Tryz.func77,Tryz.ntmps77;(go_wp2_with fail);go_ret;exact ⟨rfl,(Znz _ _).alloc (Zo0 _) _⟩
def Znp (X:World) (e:Ending) (w':World):Prop:=Below X.heap.size X w'∧∃A1 c1 A2 c2 A3 c3 B1 d1 B2 d2 B3 d3 B4 d4,e = .returned (.agg #[.int .i64 1,.string ⟨#[99,104,117,110,107,45,49]⟩,.slice A1 1 c1,.slice A2 1 c2,.slice A3 1 c3,.slice B1 1 d1,.slice B2 0 d2,.slice B3 0 d3,.slice B4 0 d4,.int .i64 1,.int .i64 0])∧Z0p w' 1 Int.cells1 A3 c3 [4]∧AIn A3 (X.heap.size≤·)
theorem Zjk (kb kh:Nat) (A:Option Addr) (c:Nat) (AP:Option Addr) (cP:Nat) (X:World) (hk:Blk X kb 122 #[.slice A 1 c]) (hr:RowR (Z1x 1) (· < X.heap.size) X A c L24) (hp:Z0p X 16 Z04.cells AP cP [p24]) (hh:Blk X kh 95 #[.slice none 0 0]) :
 Calls Tryz.prog 76 #[.bool true,.int .i64 9,.int .i64 2,.func (.func 77) #[] #[],.func (.func 131) #[] #[.pointer (some ⟨kb,0,none⟩)],.slice AP 1 cP,.func (.func 83) #[] #[.pointer (some ⟨kh,0,none⟩)]] X (Znp X):=by
 have HK:=hid hk;have HR:=hid hr;have HP:=hid hp;have HH:=hid hh;clear hk hr hp hh;obtain ⟨i0,hi0,hz0,hz1,hz2⟩:=infp Z7j;go_enter Tryz.func76,Tryz.ntmps76;(go_upto_region 3 with fail);obtain ⟨W1,hW1⟩ : ∃W,W=X.alloc (.cells #[.int .i64 0,.string ⟨#[]⟩,.slice none 0 0,.slice none 0 0,.slice none 0 0,.slice none 0 0,.slice none 0 0,.slice none 0 0,.slice none 0 0,.int .i64 0,.int .i64 0] 152):=⟨_,rfl⟩;obtain ⟨b14,hb14⟩ : ∃b,b=X.heap.size:=⟨_,rfl⟩;have K14:=hid (show Blk W1 b14 152 #[.int .i64 0,.string ⟨#[]⟩,.slice none 0 0,.slice none 0 0,.slice none 0 0,.slice none 0 0,.slice none 0 0,.slice none 0 0,.slice none 0 0,.int .i64 0,.int .i64 0] by rw [hW1,hb14];exact Blk.new _ _ _);have HB:=hid (show Below X.heap.size X W1 by rw [hW1];exact (Znz _ _).alloc (Zo0 _) _);have HBE:=hid hb14;rw [← hW1,← hb14];clear hW1 hb14;(go_wp2_with fail);refine (Zgw _).mono ?_;rintro e w2 ⟨bm,bp,sn,Am,cm,rfl,hbm,hbp,hAm,hM,hS,hb⟩;have HM:=hid hM;have HS:=hid hS;have HN:=hid (And.intro hbm (And.intro hbp hAm));have K14:=hid (K14.out.new_ hb);have HB2:=hid hb;clear hbm hbp hAm hM hS hb;go_upto_region 6 with fail
 go_loopw [16,33] (fun vb vi wr=>Blk wr b14 152 #[.int .i64 0,.string ⟨#[]⟩,.slice none 0 0,.slice none 0 0,.slice none 0 0,.slice none 0 0,.slice none 0 0,.slice none 0 0,.slice none 0 0,.int .i64 0,.int .i64 0]∧Below X.heap.size X wr∧((vi = .int .i64 0∧vb = .slice none 0 0∧w2=wr)∨(vi = .int .i64 1∧∃Ab cb,vb = .slice Ab 1 cb∧Z0p wr 1 Int.cells1 Ab cb [3]))) (fun vb vi wr=>1 - (intOf vi).toNat)
 case atStart=>exact ⟨K14.out,HB.out.trans (HB2.out.mono HB.out.size),.inl ⟨rfl,rfl,rfl⟩⟩
 case round=>
 obtain ⟨k14,hbx,(⟨rfl,rfl,rfl⟩ | ⟨rfl,Ab,cb,rfl,hrb⟩)⟩:=hrel
 · skip
   have HBX:=hid hbx;clear k14 hbx;obtain ⟨g,off,hAA,hgl,hrg⟩:=(HP.out.new_ HBX.out).range (k:=0) (by decide);subst hAA;have HRG:=hid (show w2.rangeAt g off [.int .i64 1,.string ⟨#[83]⟩,.int .i64 1,.int .i64 3,.string ⟨#[121]⟩,.int .i64 0,.int .i64 2,.string ⟨#[]⟩,.int .i64 2,.int .i64 0,.string ⟨#[]⟩,.int .i64 0,.int .i64 1,.bool false,.int .i64 2,.int .i64 3] by have:=hrg;simp only [Nat.zero_mul,Nat.add_zero] at this;exact this);have HTH:=hid (show (w2.alloc (.cells #[.int .i64 0,.string ⟨#[]⟩,.int .i64 0,.int .i64 0,.string ⟨#[]⟩,.int .i64 0,.int .i64 0,.string ⟨#[]⟩,.int .i64 0,.int .i64 0,.string ⟨#[]⟩,.int .i64 0,.int .i64 0,.bool false,.int .i64 0,.int .i64 0] 68)).there w2.heap.size 0 (#[.int .i64 1,.string ⟨#[83]⟩,.int .i64 1,.int .i64 3,.string ⟨#[121]⟩,.int .i64 0,.int .i64 2,.string ⟨#[]⟩,.int .i64 2,.int .i64 0,.string ⟨#[]⟩,.int .i64 0,.int .i64 1,.bool false,.int .i64 2,.int .i64 3]:Array Value).size from (Blk.new w2 68 #[.int .i64 0,.string ⟨#[]⟩,.int .i64 0,.int .i64 0,.string ⟨#[]⟩,.int .i64 0,.int .i64 0,.string ⟨#[]⟩,.int .i64 0,.int .i64 0,.string ⟨#[]⟩,.int .i64 0,.int .i64 0,.bool false,.int .i64 0,.int .i64 0]).there);obtain ⟨W5,hW5⟩ : ∃W5,W5=(w2.alloc (.cells #[.int .i64 0,.string ⟨#[]⟩,.int .i64 0,.int .i64 0,.string ⟨#[]⟩,.int .i64 0,.int .i64 0,.string ⟨#[]⟩,.int .i64 0,.int .i64 0,.string ⟨#[]⟩,.int .i64 0,.int .i64 0,.bool false,.int .i64 0,.int .i64 0] 68)).setCells w2.heap.size 0 [.int .i64 1,.string ⟨#[83]⟩,.int .i64 1,.int .i64 3,.string ⟨#[121]⟩,.int .i64 0,.int .i64 2,.string ⟨#[]⟩,.int .i64 2,.int .i64 0,.string ⟨#[]⟩,.int .i64 0,.int .i64 1,.bool false,.int .i64 2,.int .i64 3]:=⟨_,rfl⟩;have HW5:=hid hW5;have K18:=hid (show Blk W5 w2.heap.size 68 #[.int .i64 1,.string ⟨#[83]⟩,.int .i64 1,.int .i64 3,.string ⟨#[121]⟩,.int .i64 0,.int .i64 2,.string ⟨#[]⟩,.int .i64 2,.int .i64 0,.string ⟨#[]⟩,.int .i64 0,.int .i64 1,.bool false,.int .i64 2,.int .i64 3] from Z2y (zs:=[.int .i64 0,.string ⟨#[]⟩,.int .i64 0,.int .i64 0,.string ⟨#[]⟩,.int .i64 0,.int .i64 0,.string ⟨#[]⟩,.int .i64 0,.int .i64 0,.string ⟨#[]⟩,.int .i64 0,.int .i64 0,.bool false,.int .i64 0,.int .i64 0]) (vs:=[.int .i64 1,.string ⟨#[83]⟩,.int .i64 1,.int .i64 3,.string ⟨#[121]⟩,.int .i64 0,.int .i64 2,.string ⟨#[]⟩,.int .i64 2,.int .i64 0,.string ⟨#[]⟩,.int .i64 0,.int .i64 1,.bool false,.int .i64 2,.int .i64 3]) rfl hW5 (by rw [hW5];exact Zo4 _ _ _ _ HTH.out));have HB5:=hid (show Below w2.heap.size w2 W5 by rw [hW5];exact Below.setCells' _ _ ((Znz _ _).alloc (Zo0 _) _) (Zo0 _));(have j1:(0:Int)<1:=by decide);clear hW5 hrg
   go_upto_region 8 with (first
   | (with_reducible refine wpList_load_mid rfl 68 _ rfl g off rfl [.int .i64 1,.string ⟨#[83]⟩,.int .i64 1,.int .i64 3,.string ⟨#[121]⟩,.int .i64 0,.int .i64 2,.string ⟨#[]⟩,.int .i64 2,.int .i64 0,.string ⟨#[]⟩,.int .i64 0,.int .i64 1,.bool false,.int .i64 2,.int .i64 3] _ HRG.out Tryz.underlying68 rfl (by kernel_rfl) ?_)
   | ((with_reducible refine wpList_store_mid rfl 68 _ _ rfl w2.heap.size 0 #[.int .i64 1,.string ⟨#[83]⟩,.int .i64 1,.int .i64 3,.string ⟨#[121]⟩,.int .i64 0,.int .i64 2,.string ⟨#[]⟩,.int .i64 2,.int .i64 0,.string ⟨#[]⟩,.int .i64 0,.int .i64 1,.bool false,.int .i64 2,.int .i64 3] rfl rfl HTH.out (by kernel_rfl) (by kernel_rfl) ?_);rw [← HW5.out]))
   obtain ⟨b18,hb18⟩ : ∃b,b=w2.heap.size:=⟨_,rfl⟩;rw [← hb18] at K18 ⊢;have HB18:=hid hb18;clear hb18;have k15:=(K18.out.cell 15).trans rfl;have kz:=K18.out.lt;(go_wp2_with fail);refine (Zh0 bm bp cm sn Am [] ⟨3,true⟩ W5 (HM.out.new_ HB5.out) (HS.out.new_ HB5.out) Srt.nil (by simp) rfl).mono ?_;rintro e w6 ⟨rfl,sn6,A6,c6,hs6,hF6,_⟩
   have hne : ∀{b:Nat} {t:TypeId} {cs:Array Value},Blk W5 b t cs→t≠294→t≠250→¬Z0y bp sn Am b:=by
    rintro b t cs hb n1 n2 (e | ⟨_,a,ha,e⟩)
    · exact hb.ne_ (HS.out.new_ HB5.out).blk n1 e
    · exact Z01 (HS.out.new_ HB5.out).row hb (Ne.symm n2) (by rw [ha];simp [Value.ownBlock,e])
   have K18:=hid (K18.out.fr hF6 (hne K18.out (by decide) (by decide)));have K14:=hid ((K14.out.new_ HB5.out).fr hF6 (hne (K14.out.new_ HB5.out) (by decide) (by decide)))
   have HBX:=hid ((HBX.out.trans (HB5.out.mono HBX.out.size)).trans (hF6.below (Zod HBX.out.size HB5.out.size) (fun k hk hm=>by
    have h1:=HB.out.size;rcases hm with rfl | ⟨_,a,ha,rfl⟩
    · have:=HN.out.2.1;omega
    · have h2:W1.heap.size≤a.block:=HN.out.2.2 a ha
      omega)))
   clear hs6 hF6 hne k15 kz HS HM HB5 HN HRG HTH HW5 HB18 HB2;have k15:=(K18.out.cell 15).trans rfl;have kz:=K18.out.lt;obtain ⟨W7,hW7⟩ : ∃W,W=w6.alloc (.cells #[.int .i64 3] 3):=⟨_,rfl⟩;have HW7:=hid hW7;(have hb7:Below w6.heap.size w6 W7:=by rw [hW7];exact (Znz _ _).alloc (Zo0 _) _);have K14:=hid (K14.out.new_ hb7);have HBX:=hid (HBX.out.trans (hb7.mono HBX.out.size));have HN7:=hid (show 0<1→∃ad,(some (⟨w6.heap.size,0,none⟩:Addr))=some ad∧∀j u,([(3:Int)].flatMap Int.cells1)[j]? = some u→W7.cell? (ad.add j)=some u from fun _=>⟨_,rfl,by rw [hW7];exact Zok (heap_alloc_new _ _)⟩);clear hW7 hb7;(go_wp2_with (at_builtin;rw [← HW7.out];refine Z0b W7 rfl (.tmp 41) (.tmp 44) 46 rfl 3 i0 _ 1 8 Tryz.underlying46 hi0 hz0 hz1 hz2 rfl (by omega) (.slice none 0 0) 0 [] rfl ⟨by simp,.inl ⟨rfl,rfl⟩⟩ (some ⟨w6.heap.size,0,none⟩) 1 1 ([(3:Int)].flatMap Int.cells1) rfl rfl HN7.out (Z7m _) (by unfold maxLen;omega) (by omega) ?_;intro v3 w9 hown1 hg1 hnil1 hat1;obtain ⟨A9,c9,rfl,hO9,hA9,hb9⟩:=Zhh (B:=W7.heap.size) (A:=none) (n:=0) (c:=0) hown1 hg1 hat1 (AIn.none_ _) (Zo0 _);have HR9:=hid (show Z0p w9 1 Int.cells1 A9 c9 [3] from Z0d (l:=[(3:Int)]) Int.cells1_length hO9);have K14:=hid (K14.out.new_ hb9);have HBX:=hid (HBX.out.trans (hb9.mono HBX.out.size));clear hown1 hg1 hnil1 hat1 hO9 hA9 hb9));go_roundw
   case rel=>exact ⟨K14.out,HBX.out,.inr ⟨by go_num,A9,c9,rfl,HR9.out⟩⟩
   case measure=>simp [intOf]<;>omega
 · skip
   have K14:=hid k14;have HBX:=hid hbx;have hcb:=hrb.1;have HPC:=hid (Zj1 wr (HK.out.new_ hbx) ((HR.out.new_ hbx).weaken (fun k hk=>Zo3 hk hbx.size)) hrb);(have jz : ¬(1:Int)<1:=by decide);clear k14 hbx hrb HS HM HN;(go_wp2_with fail);refine HPC.out.mono ?_;rintro e w7 hpost;unfold Z6j at hpost;rw [Zgf] at hpost;obtain ⟨B1,d1,B2,d2,B3,d3,B4,d4,E',rfl,r1,_,_,r4,hG,_,_⟩:=hpost;have hb7:=hG.2.1;have R1:=hid r1;have R4:=hid r4;have K14:=hid (K14.out.new_ hb7);have HBX:=hid (HBX.out.trans (hb7.mono HBX.out.size));clear r1 r4 hG hb7 HPC;(go_upto_region 12 with fail);obtain ⟨W8,hW8⟩ : ∃W,W=w7.alloc (.cells #[.slice B1 1 d1,.slice B2 0 d2,.slice B3 0 d3,.slice B4 0 d4,.int .i64 1,.int .i64 0] 38):=⟨_,rfl⟩;obtain ⟨b19,hb19⟩ : ∃b,b=w7.heap.size:=⟨_,rfl⟩;have K19:=hid (show Blk W8 b19 38 #[.slice B1 1 d1,.slice B2 0 d2,.slice B3 0 d3,.slice B4 0 d4,.int .i64 1,.int .i64 0] by rw [hW8,hb19];exact Blk.new _ _ _);(have hb8:Below w7.heap.size w7 W8:=by rw [hW8];exact (Znz _ _).alloc (Zo0 _) _);rw [← hW8,← hb19];have K14:=hid (K14.out.new_ hb8);have HBX:=hid (HBX.out.trans (hb8.mono HBX.out.size));have R1:=hid (R1.out.new_ hb8);have R4:=hid (R4.out.new_ hb8);clear hW8 hb19 hb8 jz;obtain ⟨t0_,t1_,t2_,t3_,t4_,t5_⟩:=K19.out.c6;have tz:=K19.out.lt;have HBW:=hid HBX.out.size;have HC:=hid (Zfa 0 9 (by decide) [⟨e24,1,0⟩] B1 d1 B2 d2 B3 d3 [] B4 d4 1 0 [p24] AP cP W8 (Zmo _) (RowR.rd (hs:=Z0e.cells_length) R1.out) (RowR.rd (hs:=Sym.cells_length) R4.out) (HP.out.new_ HBX.out) (by decide) (by decide) (by decide) (Zl9 kh none 0 [] W8 (HH.out.new_ HBX.out) (Z0p.nil _ _ _) (AIn.none_ _)));rw [show ([⟨e24,1,0⟩]:List Z0e).map Z0e.elem = [e24] from rfl,Zj0] at HC;unfold Z48 at HC;(go_wp2_with fail);refine HC.out.mono ?_;rintro e w9 ⟨hb9,A1,c1,A2,c2,A3,c3,rfl,_,_,g3,g4⟩;have G3:=hid g3;have HA3:=hid g4;have L14:=hid K14.out.lt
   have K14:=hid (K14.out.new_ hb9);have K19:=hid (K19.out.new_ hb9);have HBX:=hid (HBX.out.trans (hb9.mono HBX.out.size));clear hb9 g3 g4 t0_ t1_ t2_ t3_ t4_ t5_ tz HC R1 R4;(go_upto_region 16 with fail);obtain ⟨WA,hWA⟩ : ∃W,W=w9.alloc (.cells #[.string ⟨#[99,104,117,110,107,45,49]⟩,.slice A1 1 c1,.slice A2 1 c2] 45):=⟨_,rfl⟩;obtain ⟨b20,hb20⟩ : ∃b,b=w9.heap.size:=⟨_,rfl⟩;have K20:=hid (show Blk WA b20 45 #[.string ⟨#[99,104,117,110,107,45,49]⟩,.slice A1 1 c1,.slice A2 1 c2] by rw [hWA,hb20];exact Blk.new _ _ _);(have hbA:Below w9.heap.size w9 WA:=by rw [hWA];exact (Znz _ _).alloc (Zo0 _) _);rw [← hWA,← hb20];have K14:=hid (K14.out.new_ hbA);have K19:=hid (K19.out.new_ hbA);have G3:=hid (G3.out.new_ hbA);have HBX:=hid (HBX.out.trans (hbA.mono HBX.out.size));clear hWA hb20 hbA;obtain ⟨t0_,t1_,t2_,t3_,t4_,t5_⟩:=K19.out.c6;have tz:=K19.out.lt;obtain ⟨p0,p1,p2⟩:=K20.out.c3;have pz:=K20.out.lt;have HT:=hid (show WA.there b14 0 (#[.int .i64 1,.string ⟨#[99,104,117,110,107,45,49]⟩,.slice A1 1 c1,.slice A2 1 c2,.slice A3 1 c3,.slice B1 1 d1,.slice B2 0 d2,.slice B3 0 d3,.slice B4 0 d4,.int .i64 1,.int .i64 0]:Array Value).size from K14.out.there);(go_wp2_with (with_reducible refine wpList_store_mid rfl 152 _ _ rfl b14 0 #[.int .i64 1,.string ⟨#[99,104,117,110,107,45,49]⟩,.slice A1 1 c1,.slice A2 1 c2,.slice A3 1 c3,.slice B1 1 d1,.slice B2 0 d2,.slice B3 0 d3,.slice B4 0 d4,.int .i64 1,.int .i64 0] rfl rfl HT.out (by kernel_rfl) (by kernel_rfl) ?_));(try simp only [Exit.inBlock,Exit.then]);(have hne : ∀a,A3=some a→a.block≠b14:=fun a ha=>by have h1:W8.heap.size≤a.block:=HA3.out a ha;have:=L14.out;omega);refine bodyPost_ret (v:=.agg #[.int .i64 1,.string ⟨#[99,104,117,110,107,45,49]⟩,.slice A1 1 c1,.slice A2 1 c2,.slice A3 1 c3,.slice B1 1 d1,.slice B2 0 d2,.slice B3 0 d3,.slice B4 0 d4,.int .i64 1,.int .i64 0]) ?_ rfl ⟨Below.setCells' _ _ HBX.out (by have:=HBE.out;omega),A1,c1,A2,c2,A3,c3,B1,d1,B2,d2,B3,d3,B4,d4,rfl,?_,fun a ha=>Zod HBW.out (HA3.out a ha)⟩
   · exact Z1l (t:=14) (T:=152) rfl _ _ b14 [.int .i64 1,.string ⟨#[99,104,117,110,107,45,49]⟩,.slice A1 1 c1,.slice A2 1 c2,.slice A3 1 c3,.slice B1 1 d1,.slice B2 0 d2,.slice B3 0 d3,.slice B4 0 d4,.int .i64 1,.int .i64 0] _ rfl (Zo4 WA b14 0 [.int .i64 1,.string ⟨#[99,104,117,110,107,45,49]⟩,.slice A1 1 c1,.slice A2 1 c2,.slice A3 1 c3,.slice B1 1 d1,.slice B2 0 d2,.slice B3 0 d3,.slice B4 0 d4,.int .i64 1,.int .i64 0] HT.out) Tryz.underlying152 rfl (by kernel_rfl)
   · exact G3.out.keep (by rw [Z0m];exact Zo0 _) (fun p hp ⟨a,ha,e⟩=>World.cell?_of_block (Z1k _ _ _ _ _ (by rw [← e];exact hne a ha)))
end
section
section
variable {P:Program} {ops:Array Oper} {Q:Exit→Act→World→Prop} {S:World→Prop}
inductive Pn3 where
 | fin (l:List (Nat×Cls))
 | fork (l:List (Nat×Cls)) (i:Nat) (r:Pn3) (j:Nat) (s:Pn3)
 | fork3 (l:List (Nat×Cls)) (i:Nat) (r:Pn3) (j:Nat) (s:Pn3) (k:Nat) (t:Pn3)
def okP3 (ops:Array Oper) (qs ls:List Nat):Pn3→Nat→Array Bool→Bool
 | .fin l,n,listed=>n == l.length && chkL qs ls l && okL ops l listed && (Region.ready .any ops (setL listed l)).isEmpty && l.all fun x=>x.1<ops.size
 | .fork l i r j s,n,listed=>decide (l.length+1≤n) && chkL qs ls l && okL ops l listed && (l.all fun x=>x.1<ops.size) && Region.ready .any ops (setL listed l) == [i,j] && !qs.contains i && !qs.contains j &&
  okP3 ops qs ls r (n - l.length - 1) ((setL listed l).setIfInBounds i true) && okP3 ops qs ls s (n - l.length - 1) ((setL listed l).setIfInBounds j true)
 | .fork3 l i r j s k t,n,listed=>decide (l.length+1≤n) && chkL qs ls l && okL ops l listed && (l.all fun x=>x.1<ops.size) && Region.ready .any ops (setL listed l) == [i,j,k] && !qs.contains i && !qs.contains j && !qs.contains k &&
  okP3 ops qs ls r (n - l.length - 1) ((setL listed l).setIfInBounds i true) && okP3 ops qs ls s (n - l.length - 1) ((setL listed l).setIfInBounds j true) && okP3 ops qs ls t (n - l.length - 1) ((setL listed l).setIfInBounds k true)
def wpP3 (P:Program) (ops:Array Oper) (Q:Exit→Act→World→Prop) (S:World→Prop) (ns:Nat→Bool):Pn3→Act→World→Prop
 | .fin l,a,w=>wpY P ops Q S ns (fun a w=>Q .normal a w) (Z05 ops l) a w
 | .fork l i r j s,a,w=>wpY P ops Q S ns (fun a w=>wpOp P ops Q i (fun a' w'=>(ns i=true→S w')∧wpP3 P ops Q S ns r a' w') a w∧wpOp P ops Q j (fun a' w'=>(ns j=true→S w')∧wpP3 P ops Q S ns s a' w') a w) (Z05 ops l) a w
 | .fork3 l i r j s k t,a,w=>wpY P ops Q S ns (fun a w=>wpOp P ops Q i (fun a' w'=>(ns i=true→S w')∧wpP3 P ops Q S ns r a' w') a w∧wpOp P ops Q j (fun a' w'=>(ns j=true→S w')∧wpP3 P ops Q S ns s a' w') a w∧wpOp P ops Q k (fun a' w'=>(ns k=true→S w')∧wpP3 P ops Q S ns t a' w') a w) (Z05 ops l) a w
theorem Zj2 {qs ls:List Nat} (hsel:Region.noSelect ops=true) (hQ : ∀c a a' w,Q (.panic c) a w→Q (.panic c) a' w) (p:Pn3) :
 ∀(n:Nat) (listed:Array Bool) (a:Act) (w:World),Z46 ops listed→okP3 ops qs ls p n listed=true→
  wpP3 P ops Q S (fun j=>ls.any fun k=>k != j && !Z28 ops ops.size j k) p a w→Z71 P ops Q S (fun k=>qs.contains k) (fun j=>ls.any fun k=>k != j && !Z28 ops ops.size j k) n listed a w:=by
 have hq : ∀l,chkL qs ls l=true→∀k c,(k,c)∈l→(qs.contains k=true↔c≠2):=fun l hl k c hk=>by
  have:=Zp4.1 hl (k,c) hk;simp only [Zoo,beq_iff_eq] at this;rw [← this.1];simp
 have hn : ∀l,chkL qs ls l=true→∀k,(k,1)∈l→∀j,Z28 ops ops.size j k=false→j≠k→j<ops.size→(ls.any fun k=>k != j && !Z28 ops ops.size j k)=true:=fun l hl k hk j hw hjk _=>by
  have:=Zp4.1 hl (k,1) hk;simp only [Zoo] at this;(have h2:ls.contains k=true:=by simpa using this.2);rw [Zph];exact ⟨k,by simpa using h2,by rw [hw];simp [Ne.symm hjk]⟩
 have hb : ∀i:Nat,qs.contains i=false→∀w w',((ls.any fun k=>k != i && !Z28 ops ops.size i k)=true→S w')→Z5d S (fun k=>qs.contains k) (fun j=>ls.any fun k=>k != j && !Z28 ops ops.size j k) i w w':=fun i hi w w' h=>by
  unfold Z5d;rw [if_neg (by simp only [hi];simp)];exact h
 induction p with
 | fin l=>
   intro n listed a w hcl hB h;simp only [okP3,Zoo,beq_iff_eq] at hB;obtain ⟨⟨⟨⟨rfl,hc⟩,hL⟩,he⟩,hlt⟩:=hB
   have:=Z3e (P:=P) (Q:=Q) (S:=S) (qt:=fun k=>qs.contains k) (ns:=fun j=>ls.any fun k=>k != j && !Z28 ops ops.size j k) (R:=fun a w=>Q .normal a w) (n:=0) hsel hQ l listed a w hcl hL (by simpa [Zp4] using hlt) (hq l hc) (hn l hc)
    (fun a w h=>⟨by simpa using he,h⟩) h
   simpa using this
 | fork l i r j s ihr ihs=>
   intro n listed a w hcl hB h;simp only [okP3,Zoo,beq_iff_eq,Zpg,Bool.not_eq_true'] at hB;obtain ⟨⟨⟨⟨⟨⟨⟨⟨hlen,hc⟩,hL⟩,hlt⟩,hrd⟩,hqi⟩,hqj⟩,hr⟩,hs⟩:=hB;obtain ⟨m,rfl⟩ : ∃m,n=l.length+(m+1):=⟨n - l.length - 1,by omega⟩;(have em:l.length+(m+1) - l.length - 1=m:=by omega);rw [em] at hr hs;have hcl2:=Z4w l listed hcl hL;refine Z3e (P:=P) (Q:=Q) (S:=S) (qt:=fun k=>qs.contains k) (ns:=fun j=>ls.any fun k=>k != j && !Z28 ops ops.size j k) (n:=m+1) hsel hQ l listed a w hcl hL (by simpa [Zp4] using hlt) (hq l hc) (hn l hc) (fun a w hR=>?_) h;refine ⟨fun h0=>(by rw [hrd] at h0;cases h0),fun k hk=>?_⟩;have hcl3:=Z1y hcl2 hk;rw [hrd] at hk;simp only [Zoj,Zoq,or_false] at hk;rcases hk with rfl | rfl
   · exact wpOp_mono (fun a' w' h'=>⟨hb _ hqi _ _ h'.1,ihr m _ a' w' hcl3 hr h'.2⟩) hR.1
   · exact wpOp_mono (fun a' w' h'=>⟨hb _ hqj _ _ h'.1,ihs m _ a' w' hcl3 hs h'.2⟩) hR.2
 | fork3 l i r j s k t ihr ihs iht=>
   intro n listed a w hcl hB h;simp only [okP3,Zoo,beq_iff_eq,Zpg,Bool.not_eq_true'] at hB;obtain ⟨⟨⟨⟨⟨⟨⟨⟨⟨⟨hlen,hc⟩,hL⟩,hlt⟩,hrd⟩,hqi⟩,hqj⟩,hqk⟩,hr⟩,hs⟩,ht⟩:=hB;obtain ⟨m,rfl⟩ : ∃m,n=l.length+(m+1):=⟨n - l.length - 1,by omega⟩;(have em:l.length+(m+1) - l.length - 1=m:=by omega);rw [em] at hr hs ht;have hcl2:=Z4w l listed hcl hL;refine Z3e (P:=P) (Q:=Q) (S:=S) (qt:=fun k=>qs.contains k) (ns:=fun j=>ls.any fun k=>k != j && !Z28 ops ops.size j k) (n:=m+1) hsel hQ l listed a w hcl hL (by simpa [Zp4] using hlt) (hq l hc) (hn l hc) (fun a w hR=>?_) h;refine ⟨fun h0=>(by rw [hrd] at h0;cases h0),fun q hk=>?_⟩;have hcl3:=Z1y hcl2 hk;rw [hrd] at hk;simp only [Zoj,Zoq,or_false] at hk;rcases hk with rfl | rfl | rfl
   · exact wpOp_mono (fun a' w' h'=>⟨hb _ hqi _ _ h'.1,ihr m _ a' w' hcl3 hr h'.2⟩) hR.1
   · exact wpOp_mono (fun a' w' h'=>⟨hb _ hqj _ _ h'.1,ihs m _ a' w' hcl3 hs h'.2⟩) hR.2.1
   · exact wpOp_mono (fun a' w' h'=>⟨hb _ hqk _ _ h'.1,iht m _ a' w' hcl3 ht h'.2⟩) hR.2.2
theorem Zch {id:Nat} {l:List Oper} {a:Act} {w:World} (S:World→Prop) (qs ls:List Nat) (p:Pn3) (hm:P.follows .mixedOrders=true) (hsel:Region.noSelect l.toArray=true)
 (hB:okP3 l.toArray qs ls p l.toArray.size (Array.replicate l.toArray.size false)=true)
 (h : ∀K:Act→World→Prop,(∀a w,Q .normal a w→K a w)→wpP3 P l.toArray (Z60 K) S (fun j=>ls.any fun k=>k != j && !Z28 l.toArray l.toArray.size j k) p a w.drew):(Code.region id l.toArray true).wp P Q a w:=by
 refine Code.wp_mono (Q:=Z60 fun a w=>Q .normal a w) (fun e a w hq=>by cases e<;>first | exact hq | exact hq.elim) (wp_region_any hm ?_);(have hcl:Z46 l.toArray (Array.replicate l.toArray.size false):=fun m o hm=>by rw [getD_replicate_false] at hm;cases hm);exact Z5z _ _ _ _ (Zj2 (P:=P) (Q:=Z60 fun a w=>Q .normal a w) (S:=S) hsel (fun c a a' w h=>h) p _ _ a w.drew hcl hB (h _ (fun _ _ h=>h)))
end
end
end Go.Proofs.YtldndkngpdfpfaaGreat
