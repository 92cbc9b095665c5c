/-
  Texts put together: FindPage, OpsPage, PutPage, DropPage, MiscPage, NewPage, WorkPage.
-/
import Derived.Test.YtfidcfjcmlgkbaaGreatPTg
namespace Go.Proofs.YtfidcfjcmlgkbaaGreat
open Lib (hid)
set_option maxRecDepth 100000
set_option maxHeartbeats 32000000
section
open Go.RowKit
abbrev Z1r:=Z2g (α:=Page) 260 207 2 Page.cells
theorem Za5 (k0 : Int) (k1 : Int) (w : World) : (nilAhead 442 207 (.agg #[.int .u8 k0, .int .i64 k1]) "Compare").run Tryz.prog w = .ok (some false) w := by kernel_rfl
theorem Zcg (k0 : Int) (k1 : Int) (w : World) : (method 442 207 (.agg #[.int .u8 k0, .int .i64 k1]) "Compare").run Tryz.prog w = .ok (259, .agg #[.int .u8 k0, .int .i64 k1]) w := by kernel_rfl
def Zev (l:List Page) (x:Page) (w:World) (e:Ending) (w':World):Prop:=
 e = .returned (.tuple #[.int .i64 (rank Z03 l x),.bool (has Z03 l x)])∧Below w.heap.size w w'
theorem Z4i (b c:Nat) (sn:Bool) (A:Option Addr) (l:List Page) (x:Page) (w:World) (hS:Z1r w b sn A c l) (hs:Srt Z03 l) (hl:(l.length:Int)≤4611686018427387904) :
 Calls Tryz.prog 192 #[.pointer (some ⟨b,0,none⟩),.agg #[.int .u8 x.kk,.int .i64 x.v]] w (Zev l x w):=by
 have hrd:=hS.rd Page.cells_length;have h0:=hS.cell0;have hb:=hS.lt;clear hS;have HS:=hid hs;have HRD:=hid hrd;clear hs hrd;go_enter Tryz.func192,Tryz.ntmps192;(go_wp2_with fail);go_quiet (fail);(go_wp2_with fail);obtain ⟨W0,hW0⟩ : ∃W0,W0=((w.alloc (Obj.cells #[Value.int IntKind.u8 x.kk,.int .i64 x.v] 207)).drewN nq):=⟨_,rfl⟩;(have hB0:Below w.heap.size w W0:=by rw [hW0];exact Below.drewN' ((Zks _ _).alloc (Zkt _) _) _);(have hx0:W0.cell? ⟨w.heap.size,0,none⟩=some (.int .u8 x.kk):=by rw [hW0];go_simp);(have hx1:W0.cell? ⟨w.heap.size,1,none⟩=some (.int .i64 x.v):=by rw [hW0];go_simp);rw [← hW0];clear hW0;have HB0:=hid hB0;clear hB0
 go_loopw [6,7] (fun lo hi wr=>∃i j:Nat,lo = .int .i64 i∧hi = .int .i64 j∧i≤j∧j≤l.length∧(∀k,(h:k<l.length)→k<i→Z03 l[k] x<0)∧(∀k,(h:k<l.length)→j≤k→0<Z03 l[k] x)∧Below W0.heap.size W0 wr) (fun lo hi wr=>(intOf hi).toNat - (intOf lo).toNat)
 case atStart=>exact ⟨0,l.length,rfl,rfl,Nat.zero_le _,Zkt _,fun k _ h=>absurd h (by omega),fun k h h'=>absurd h (by omega),Zks _ _⟩
 case round=>
  obtain ⟨i,j,rfl,rfl,hij,hj,hlo,hhi,hB⟩:=hrel;have HLO:=hid hlo;have HHI:=hid hhi;clear hlo hhi;have hsz:w.heap.size<W0.heap.size:=Zla W0 _ hx0;by_cases hlt:i<j
  · obtain ⟨m,hm⟩ : ∃m,m=i+(j - i) / 2:=⟨_,rfl⟩
    (have hml:m<l.length:=by omega);(have hmj:m<j:=by omega);(have hmi:i≤m:=by omega);(have e1:((i:Int)+((j:Int) - (i:Int)) / 2)=(m:Int):=by omega);have E1:=hid e1;clear e1 hm;obtain ⟨g,off,rfl,hgs,hcell⟩:=HRD.out.at_ hml;have low : ∀(p:Addr),p.block<w.heap.size→wr.cell? p=w.cell? p:=fun p hp=>(hB.cell (p:=p) (by omega)).trans (HB0.out.cell (p:=p) hp);have r0:=(low ⟨b,0,none⟩ hb).trans h0;have q0:=(low ⟨g,off+m*2,none⟩ hgs).trans (hcell 0 _ rfl);have q1:=(low ⟨g,off+m*2+1,none⟩ hgs).trans (hcell 1 _ rfl);have y0:=(hB.cell (p:=⟨w.heap.size,0,none⟩) hsz).trans hx0;have y1:=(hB.cell (p:=⟨w.heap.size,1,none⟩) hsz).trans hx1;(have b1:(0:Int)≤(m:Int):=by omega);(have b2:(m:Int)<(l.length:Int):=by omega);have hsw:W0.heap.size≤wr.heap.size:=hB.size;have N:=Za5;have M:=Zcg;clear low hcell hx0 hx1 h0;have HB:=hid hB;clear hB;obtain ⟨y,hy⟩ : ∃y,y=l[m]:=⟨_,rfl⟩;rw [← hy] at q0 q1;have HY:=hid hy;clear hy;(have hbw:b<wr.heap.size:=by omega);(have hgw:g<wr.heap.size:=by omega);(have hww:w.heap.size<wr.heap.size:=by omega);(go_wp2_with fail);rw [E1.out]
    go_region_held3 (fun w'=>w'.cell? ⟨b,0,none⟩=some (.slice (some ⟨g,off,none⟩) l.length c)∧w'.cell? ⟨g,off+m*2,none⟩=some (.int .u8 y.kk)∧w'.cell? ⟨g,off+m*2+1,none⟩=some (.int .i64 y.v)∧w'.cell? ⟨w.heap.size,0,none⟩=some (.int .u8 x.kk)∧w'.cell? ⟨w.heap.size,1,none⟩=some (.int .i64 x.v))
     (first | go_keep | (refine ⟨?_,?_,?_,?_,?_⟩<;>exact (hb1.cell (by simpa using by assumption)).trans (by simp [*])))
     ((go_at_call 259;refine (Zh8 y x _).mono ?_;rintro e w1 ⟨rfl,hb1⟩))
    have HB1:Below W0.heap.size W0 w1:=HB.out.drew.trans (hb1.mono hsw);clear r0 q0 q1 y0 y1 N M;by_cases hc:Z03 y x=0
    · have HC:=hid hc
      (have t1:(Z03 y x == 0)=true:=by simp [hc]);clear hc;(go_wp2_with fail);go_ret2;have e:=HC.out;rw [HY.out] at e;refine ⟨?_,HB0.out.trans (HB1.mono (by omega))⟩;rw [Z8g Z36 HS.out hml e,(Z7x Z36 HS.out hml e).2.2.1];rfl
    · have t1:(Z03 y x == 0)=false:=by simp [hc]
      by_cases hc2:Z03 y x<0
      · have HC:=hid hc2
        (have t2:decide (Z03 y x<0)=true:=by simpa using hc2);clear hc hc2;(go_wp2_with fail);go_roundw
        case rel=>
         refine ⟨m+1,j,by go_num,rfl,by omega,hj,fun k h1 h2=>?_,HHI.out,HB1⟩;have e:=HC.out;rw [HY.out] at e;rcases Nat.lt_or_ge k m with h3 | h3
         · exact Z36.lt_of_lt_of_le (HS.out.lt h3 hml) (by omega)
         · obtain rfl:k=m:=by omega
           exact e
        case measure=>simp [intOf];omega
      · have t2:decide (Z03 y x<0)=false:=by simpa using hc2
        (have hc3:0<Z03 y x:=by omega);have HC:=hid hc3;clear hc hc2 hc3;(go_wp2_with fail);go_roundw
        case rel=>
         refine ⟨i,m,rfl,rfl,by omega,by omega,HLO.out,fun k h1 h2=>?_,HB1⟩;have e:=HC.out;rw [HY.out] at e;rcases Nat.lt_or_ge m k with h3 | h3
         · exact (Z36.symm _ _).1 (Z36.lt_trans ((Z36.symm _ _).2 e) (HS.out.lt h3 h1))
         · obtain rfl:k=m:=by omega
           exact e
        case measure=>simp [intOf];omega
  · obtain rfl:i=j:=by omega
    have HB:=hid hB;clear hB;(go_wp2_with fail);go_ret2;refine ⟨?_,HB0.out.trans (HB.out.mono (by omega))⟩;rw [Z6r hj HLO.out HHI.out,(Z7w HLO.out HHI.out).2.2];rfl
theorem Zb1:(Tryz.prog.info? 207).map (fun i=>(i.zero,i.size,i.bytes))=some (some (.agg #[.int .u8 0,.int .i64 0]),2,16):=by kernel_rfl
theorem Page.one (x:Page) : ∀u∈Page.cells x,u.oneCell'=true:=by intro u hu;simp [Page.cells] at hu;rcases hu with rfl | rfl<;>rfl
theorem Page.oneAll (l:List Page) : ∀u∈l.flatMap Page.cells,u.oneCell'=true:=by intro u hu;obtain ⟨x,_,hx⟩:=List.mem_flatMap.1 hu;exact Page.one x u hx
def Z5w (w:World) (b:Nat) (sn:Bool) (A:Option Addr) (l:List Page) (e:Ending) (w':World):Prop:=
 e = .returned (.tuple #[])∧∃A' c',Z1r w' b false A' c' l∧Fr (· = b) w w'∧Z5u w sn A false A'
theorem Zcq (b c:Nat) (A:Option Addr) (l:List Page) (w:World) (hS:Z1r w b false A c l) :
 Calls Tryz.prog 193 #[.pointer (some ⟨b,0,none⟩)] w (Z5w w b false A l):=by
 have h1:=hS.cell1;have HS:=hid hS;clear hS;go_enter Tryz.func193,Tryz.ntmps193;go_wp2;go_end0;exact ⟨rfl,A,c,HS.out,Fr.refl _ _,.inl ⟨rfl,rfl⟩⟩
theorem Zbd (b c:Nat) (A:Option Addr) (l:List Page) (w:World) (hS:Z1r w b true A c l) (hl:(l.length:Int)≤1000000000) :
 Calls Tryz.prog 193 #[.pointer (some ⟨b,0,none⟩)] w (Z5w w b true A l):=by
 obtain ⟨i0,hi,hz0,hz1,hz2⟩:=info_parts Zb1;have h0:=hS.cell0;have h1:=hS.cell1;have hb:=hS.lt;have f0:=hS.blk.frozen 0;have f1:=hS.blk.frozen 1;have hrd:=hS.rd Page.cells_length;have HB:=hid hS.blk;have HRD:=hid hrd;clear hS hrd;have e1:IntKind.i64.wrap ((l.length:Int)+1)=(l.length:Int)+1:=Zl5 _ (by omega)
 have hmk : ∀W:World,(Instr.makeSlice 258 (.int .i64 0) (.int .i64 ((l.length:Int)+1))).run Tryz.prog W = .ok (.slice (some ⟨W.heap.size,0,none⟩) 0 (l.length+1)) (W.alloc (.cells (madeCells (Value.cells (.agg #[.int .u8 0,.int .i64 0])) ((l.length+1)*2)) 207)):=fun W=>by
  have h:=run_make (P:=Tryz.prog) W 258 207 i0 _ Tryz.underlying258 hi hz0 .i64 .i64 0 ((l.length:Int)+1) (by omega) (by omega) (by rw [hz2];omega) (by omega);rw [hz1] at h;simpa [show ((l.length:Int)+1).toNat=l.length+1 by omega] using h
 go_enter Tryz.func193,Tryz.ntmps193;(go_wp2_with fail);refine Z08 (fun w9=>Below w.heap.size w w9) [(0,0),(1,0),(2,0),(3,0),(4,1),(5,0),(6,0),(8,0),(9,0),(10,0),(11,1),(7,2),(12,2),(13,0),(14,0),(15,2)] (by kernel_rfl) (by kernel_rfl) (fun KK hKK=>?_);simp only [Z0h,Zl2,Zl0,Zkz,Zkv,Zky,Zl4];(repeat ((first | (refine Z0b ?_ (Or.inl ⟨by rfl,fun w9=>?_⟩) ?_;rotate_left 1;go_simp;with_reducible rfl) | (refine Z0a ?_ (((Zks _ _).drew)) (Or.inl ⟨by rfl,fun w9 hw9=>?_⟩) ?_;rotate_left 1;obtain ⟨hc9,hf9⟩:=Z0p hw9;go_simp;with_reducible rfl) | refine Z0b undef (Or.inr ⟨by rfl,rfl⟩) ?_ | refine Z0a undef (((Zks _ _).drew)) (Or.inr ⟨by rfl,rfl⟩) ?_);go_frame));refine Z27 (fun K9 hK9=>?_);go_simp;refine hK9 _ _ (((Zks _ _).drew).alloc (Zkt _) _) ?_;clear hK9 K9;refine Z2m (by kernel_rfl) (fun K9 hK9=>?_)
 refine Z1a _ (by rfl) _ _ _ (by rfl) 207 i0 _ 2 16 Tryz.underlying258 hi hz0 hz1 hz2 rfl (by omega) _ 0 [] (by rfl) (World.ownsRow_made _ _ _ (Nat.zero_le _) (by unfold maxLen;omega) (by simp [madeCells])) A l.length c (l.flatMap Page.cells) (by rfl) (Z0m Page.cells_length l)
  ((HRD.out.drew.alloc _).news Page.cells_length (by omega)) (Page.oneAll l) (by unfold maxLen;omega) (by omega) ?_
 intro v2 w2 hown hgr hnil hat;refine hK9 _ _ ?_;clear hK9 K9;rw [Zlm,Zl8] at hown;obtain ⟨A',c',rfl,_,_,hz⟩:=Z1y hown;have HB1:=(HB.out.drew.alloc (.cells (madeCells (Value.cells (.agg #[.int .u8 0,.int .i64 0])) ((l.length+1)*2)) 207)).grown hgr (by simp [Value.ownBlock];omega);have c0:=(HB1.cell 0).trans rfl;have c1:=(HB1.cell 1).trans rfl;have z0:=HB1.frozen 0;have z1:=HB1.frozen 1;have HB2:=hid HB1;clear HB1;(repeat ((first | (refine Z0b ?_ (Or.inl ⟨by rfl,fun w9=>?_⟩) ?_;rotate_left 1;go_simp;with_reducible rfl) | (refine Z0a ?_ (((Zks _ _).drew).alloc (Zkt _) _) (Or.inl ⟨by rfl,fun w9 hw9=>?_⟩) ?_;rotate_left 1;obtain ⟨hc9,hf9⟩:=Z0p hw9;go_simp;with_reducible rfl) | refine Z0b undef (Or.inr ⟨by rfl,rfl⟩) ?_ | refine Z0a undef (((Zks _ _).drew).alloc (Zkt _) _) (Or.inr ⟨by rfl,rfl⟩) ?_);go_frame));refine Z2m (by kernel_rfl) (fun K9 hK9=>?_);go_simp;refine hK9 _ _ ?_;clear hK9 K9;refine Z0u ?_;simp only [Z02];refine hKK _ _ ?_;clear hKK KK;go_wp2;go_end0
 have hb2:(Value.slice A' l.length c').ownBlock=some w.heap.size∨(Value.slice A' l.length c').ownBlock=some (w.heap.size+1):=by
  rcases hat with h | h
  · left;rw [h];rfl
  · right;rw [h];simp
 have hA : ∃g,w.heap.size≤g∧A'=some ⟨g,0,none⟩:=by
  rcases A' with _ | a
  · exfalso;simp [Value.ownBlock] at hb2
  · obtain ⟨g,rfl⟩:=hz a rfl
    refine ⟨g,?_,rfl⟩;simp [Value.ownBlock] at hb2;omega
 obtain ⟨g,hg,rfl⟩:=hA;have HB1:=HB2.out;have HF:Fr (· = b) w w2:=((Fr.refl (· = b) w).drew.alloc _).grown hgr (fun k e=>by simp [Value.ownBlock] at e;right;omega);refine ⟨rfl,some ⟨g,0,none⟩,c',⟨(HB1.set_ 0 _).set_ 1 _,?_⟩,(HF.setCell (p:=⟨b,0,none⟩) (.inl rfl) _).setCell (p:=⟨b,1,none⟩) (.inl rfl) _,.inr ⟨rfl,g,hg,rfl⟩⟩;(have hne:(Value.slice (some ⟨g,0,none⟩) l.length c').ownBlock≠some b:=by simp [Value.ownBlock];omega);exact ownsRow_setCell_other (a:=⟨b,1,none⟩) (ownsRow_setCell_other (a:=⟨b,0,none⟩) hown hne _) hne _
theorem Zdi (b c:Nat) (sn:Bool) (A:Option Addr) (l:List Page) (w:World) (hS:Z1r w b sn A c l) (hl:(l.length:Int)≤1000000000) :
 Calls Tryz.prog 193 #[.pointer (some ⟨b,0,none⟩)] w (Z5w w b sn A l):=by
 cases sn
 · exact Zcq b c A l w hS
 · exact Zbd b c A l w hS hl
def Z5y (w:World) (b:Nat) (sn:Bool) (A:Option Addr) (l:List Page) (x:Page) (e:Ending) (w':World):Prop:=
 e = .returned (.bool (!has Z03 l x))∧∃sn' A' c',Z1r w' b sn' A' c' (put Z03 l x)∧Fr (Z1g b sn A) w w'∧Z5u w sn A sn' A'
theorem Z8z (b c:Nat) (sn:Bool) (A:Option Addr) (l:List Page) (x:Page) (w:World) (hS:Z1r w b sn A c l) (hs:Srt Z03 l) (hl:(l.length:Int)≤100000000) (hh:has Z03 l x=true) :
 Calls Tryz.prog 170 #[.pointer (some ⟨b,0,none⟩),.agg #[.int .u8 x.kk,.int .i64 x.v]] w (Z5y w b sn A l x):=by
 have HS:=hid hS;have HO:=hid hs;clear hS hs;go_enter Tryz.func170,Tryz.ntmps170;(go_wp2_with fail);refine (Z4i b c sn A l x _ (HS.out.new_ ((Zks _ _).alloc (Zkt _) _)) HO.out (by omega)).mono ?_;rintro e w1 ⟨rfl,hb1⟩;(go_wp2_with fail);go_ret;refine ⟨by rw [hh];rfl,sn,A,c,?_,Fr.of_new (((Zks _ _).alloc (Zkt _) _).trans (hb1.mono (by simp))),.inl ⟨rfl,rfl⟩⟩;rw [Z59 hh];exact HS.out.new_ (((Zks _ _).alloc (Zkt _) _).trans (hb1.mono (by simp)))
theorem Zbj (b c:Nat) (sn:Bool) (A:Option Addr) (l:List Page) (x:Page) (w:World) (hS:Z1r w b sn A c l) (hs:Srt Z03 l) (hl:(l.length:Int)≤100000000) (hh:has Z03 l x=false) :
 Calls Tryz.prog 170 #[.pointer (some ⟨b,0,none⟩),.agg #[.int .u8 x.kk,.int .i64 x.v]] w (Z5y w b sn A l x):=by
 obtain ⟨i0,hi,hz0,hz1,hz2⟩:=info_parts Zb1;have HS:=hid hS;have HO:=hid hs;have hb:=hS.lt;clear hS hs;have hrk:=Zac (cmp:=Z03) l x;go_enter Tryz.func170,Tryz.ntmps170;(go_wp2_with fail);have hSa:=HS.out.new_ ((Zks w.heap.size w).alloc (Zkt _) (.cells #[Value.int IntKind.u8 x.kk,.int .i64 x.v] 207));have HSa:=hid hSa;clear hSa;refine (Z4i b c sn A l x _ HSa.out HO.out (by omega)).mono ?_;rintro e w1 ⟨rfl,hb1⟩;have HS1:=hid (HSa.out.new_ hb1);(have hsz1:w.heap.size+1≤w1.heap.size:=by have:=hb1.size;(try simp at this);omega);have y0:=(hb1.cell (p:=⟨w.heap.size,0,none⟩) (by simp)).trans ((Blk.new w 207 #[Value.int IntKind.u8 x.kk,.int .i64 x.v]).cell 0);have y1:=(hb1.cell (p:=⟨w.heap.size,1,none⟩) (by simp)).trans ((Blk.new w 207 #[Value.int IntKind.u8 x.kk,.int .i64 x.v]).cell 1);have HB1:=hid hb1;clear hb1;(go_wp2_with fail);refine (Zdi b c sn A l _ HS1.out (by omega)).mono ?_;rintro e w2 ⟨rfl,A1,c1,hS2,hF2,hM2⟩;have hsz2:w1.heap.size≤w2.heap.size:=hF2.size;have x0:w2.cell? ⟨w.heap.size,0,none⟩=some (.int .u8 x.kk):=(hF2.cell (p:=⟨w.heap.size,0,none⟩) (by dsimp only;omega) (by dsimp only;omega)).trans y0;have x1:w2.cell? ⟨w.heap.size,1,none⟩=some (.int .i64 x.v):=(hF2.cell (p:=⟨w.heap.size,1,none⟩) (by dsimp only;omega) (by dsimp only;omega)).trans y1;have s0:=hS2.cell0;have f0:=hS2.blk.frozen 0;(have hb2:b<w2.heap.size:=by omega);(have hk2:w.heap.size<w2.heap.size:=by omega);have HS2:=hid hS2;have HF2:=hid hF2;have HM2:=hid hM2;clear hS2 hF2 hM2 y0 y1;(go_wp2_with fail);refine Z08 (fun w9=>Below w2.heap.size w2 w9) [(0,0),(1,0),(2,0),(3,0),(4,1),(5,1),(6,2),(7,2),(8,0),(9,0),(10,2)] (by kernel_rfl) (by kernel_rfl) (fun KK hKK=>?_);simp only [Z0h,Zl2,Zl0,Zkz,Zkv,Zky,Zl4];(repeat ((first | (refine Z0b ?_ (Or.inl ⟨by rfl,fun w9=>?_⟩) ?_;rotate_left 1;go_simp;with_reducible rfl) | (refine Z0a ?_ (((Zks _ _).drew)) (Or.inl ⟨by rfl,fun w9 hw9=>?_⟩) ?_;rotate_left 1;obtain ⟨hc9,hf9⟩:=Z0p hw9;go_simp;with_reducible rfl) | refine Z0b undef (Or.inr ⟨by rfl,rfl⟩) ?_ | refine Z0a undef (((Zks _ _).drew)) (Or.inr ⟨by rfl,rfl⟩) ?_);go_frame));refine Z27 (fun K9 hK9=>?_);go_simp;refine hK9 _ _ (((Zks _ _).drew).alloc (Zkt _) _) ?_;clear hK9 K9
 refine Z2m (by kernel_rfl) (fun K9 hK9=>?_)
 refine Z1a _ (by rfl) _ _ _ (by rfl) 207 i0 _ 2 16 Tryz.underlying258 hi hz0 hz1 hz2 rfl (by omega) _ l.length (l.flatMap Page.cells) (by rfl) (Z00 HS2.out.row (((Zks _ _).drew).alloc (Zkt _) _)) (some ⟨w2.heap.size,0,none⟩) 1 1 (Page.cells x) (by rfl) (by rfl)
  (fun _=>⟨_,rfl,Zlt (heap_alloc_new _ _)⟩) (Page.one x) (by unfold maxLen;omega) (by omega) ?_
 intro v2 w3 hown hgr hnil hat;refine hK9 _ _ ?_;clear hK9 K9
 obtain ⟨g,c2,rfl⟩ : ∃g c2,v2 = .slice (some ⟨g,0,none⟩) (l.length+1) c2:=by
  rcases Z0i hown with ⟨_,h0,_⟩ | ⟨g,c2,h,_⟩
  · omega
  · exact ⟨g,c2,h⟩
 have HXN:(Value.slice A1 l.length c1).ownBlock≠some w.heap.size:=by
  intro h;rcases HM2.out with ⟨hsn,hA⟩ | ⟨_,g2,hg2,hA⟩
  · rcases A1 with _ | a1
    · cases h
    · have h1:=HS.out.row_lt _ hA.symm
      simp only [Value.ownBlock,Option.some.injEq] at h;omega
  · subst hA
    simp only [Value.ownBlock,Option.some.injEq] at h;omega
 have HB3':=(HS2.out.blk.drew.alloc (.cells #[Value.int IntKind.u8 x.kk,.int .i64 x.v] 207)).grown hgr (Z0d HS2.out.row HS2.out.blk (by decide));have c0:=(HB3'.cell 0).trans rfl;have z0:=HB3'.frozen 0;have HB3:=hid HB3';have HOWN:=hid hown;have HGR:=hid hgr;clear HB3' hown hgr;(repeat ((first | (refine Z0b ?_ (Or.inl ⟨by rfl,fun w9=>?_⟩) ?_;rotate_left 1;go_simp;with_reducible rfl) | (refine Z0a ?_ (((Zks _ _).drew).alloc (Zkt _) _) (Or.inl ⟨by rfl,fun w9 hw9=>?_⟩) ?_;rotate_left 1;obtain ⟨hc9,hf9⟩:=Z0p hw9;go_simp;with_reducible rfl) | refine Z0b undef (Or.inr ⟨by rfl,rfl⟩) ?_ | refine Z0a undef (((Zks _ _).drew).alloc (Zkt _) _) (Or.inr ⟨by rfl,rfl⟩) ?_);go_frame));refine Z2m (by kernel_rfl) (fun K9 hK9=>?_);go_simp;refine hK9 _ _ ?_;clear hK9 K9;refine Z0u ?_;simp only [Z02];refine hKK _ _ ?_;clear hKK KK;have hlg:((l.length+1:Nat):Int)=(l.length:Int)+1:=by omega
 have hG:(Z1g b sn A g∨w.heap.size≤g)∧Z5u w sn A false (some ⟨g,0,none⟩)∧g≠w.heap.size∧g≠b:=by
  rcases hat with h | h
  · rcases A1 with _ | a1
    · simp [Value.ownBlock] at h
    · obtain ⟨A',c',hv,_,_,hz⟩:=Z1y HS2.out.row
      injection hv with hv _ _;obtain ⟨g',rfl⟩:=hz a1 hv.symm;(have hgg:g'=g:=by simpa [Value.ownBlock] using h.symm);subst hgg;have hne:g'≠b:=HS2.out.row_ne (by decide) _ rfl;rcases HM2.out with ⟨hsn,hA⟩ | ⟨_,g2,hg2,hA⟩
      · have h1:=HS.out.row_lt _ hA.symm
        exact ⟨.inl (.inr ⟨hsn.symm,_,hA.symm,rfl⟩),.inl ⟨hsn,hA⟩,by dsimp only at h1;omega,hne⟩
      · injection hA with hA
        injection hA with hA;subst hA;exact ⟨.inr (by omega),.inr ⟨rfl,_,by omega,rfl⟩,by omega,hne⟩
  · have hgg:g=w2.heap.size+1:=by simpa [Value.ownBlock] using h
    subst hgg;exact ⟨.inr (by omega),.inr ⟨rfl,_,by omega,rfl⟩,by omega,by omega⟩
 obtain ⟨hgM,hgMv,hgk1,hgb⟩:=hG;obtain ⟨w4,hw4⟩ : ∃w4,w4=w3.setCell ⟨b,0,none⟩ (.slice (some ⟨g,0,none⟩) (l.length+1) c2):=⟨_,rfl⟩;have hB4:Blk w4 b 260 #[.slice (some ⟨g,0,none⟩) (l.length+1) c2,.bool false]:=by rw [hw4];exact HB3.out.set_ 0 _
 have hR4:w4.ownsRow 0 207 2 (.slice (some ⟨g,0,none⟩) (l.length+1) c2) (l.length+1) ((Z1f l x l.length).flatMap Page.cells):=by
  rw [hw4,Z4u];refine ownsRow_setCell_other (a:=⟨b,0,none⟩) ?_ (by simpa [Value.ownBlock] using hgb) _;rw [Zl3,List.flatMap_singleton];exact HOWN.out
 have hF4:Fr (Z1g b sn A) w w4:=by
  rw [hw4];have h1:Fr (Z1g b sn A) w w1:=Fr.of_new (((Zks _ _).alloc (Zkt _) _).trans (HB1.out.mono (by simp)));have h2:Fr (Z1g b sn A) w w2:=h1.trans (HF2.out.mono (fun k _ h=>.inl h));refine ((h2.drew.alloc _).grown HGR.out (fun k hk=>?_)).setCell (p:=⟨b,0,none⟩) (.inl (.inl rfl)) _;rcases A1 with _ | a1
  · cases hk
  · simp only [Value.ownBlock,Option.some.injEq] at hk
    subst hk;rcases HM2.out with ⟨hsn,hA⟩ | ⟨_,g',hg',hA⟩
    · left;right;exact ⟨hsn.symm,a1,hA.symm,rfl⟩
    · injection hA with hA
      subst hA;right;dsimp only;omega
 have z0:w4.cell? ⟨w.heap.size,0,none⟩=some (.int .u8 x.kk):=by
  rw [hw4,World.cell?_setCell_other _ _ _ _ (by intro h;injection h;omega)];refine HGR.out.cell ((World.cell?_alloc_lt w2.drew _ ⟨w.heap.size,0,none⟩ hk2).trans x0) ?_;intro h;exact HXN (by simpa using h.symm)
 have z1:w4.cell? ⟨w.heap.size,1,none⟩=some (.int .i64 x.v):=by
  rw [hw4,World.cell?_setCell_other _ _ _ _ (by intro h;injection h;omega)];refine HGR.out.cell ((World.cell?_alloc_lt w2.drew _ ⟨w.heap.size,1,none⟩ hk2).trans x1) ?_;intro h;exact HXN (by simpa using h.symm)
 (have hk4:w.heap.size<w4.heap.size:=by rw [hw4];have:=HGR.out.size;simp at this ⊢;omega);rw [← hw4];have HgM:=hid hgM;have HgMv:=hid hgMv;have HB4:=hid hB4;have HR4:=hid hR4;have HF4:=hid hF4;have s4:=hB4.cell 0;have s4':w4.cell? ⟨b,0,none⟩=some (.slice (some ⟨g,0,none⟩) (l.length+1) c2):=s4;clear s4 hw4 hB4 hR4 hF4 hat hgM hgMv hnil x0 x1 s0 f0;go_wp2_with fail
 go_loopw [7] (fun s wr=>∃i:Nat,s = .int .i64 i∧rank Z03 l x≤i∧i≤l.length∧wr.ownsRow 0 207 2 (.slice (some ⟨g,0,none⟩) (l.length+1) c2) (l.length+1) ((Z1f l x i).flatMap Page.cells)∧Fr (· = g) w4 wr) (fun s wr=>(intOf s).toNat)
 case atStart=>exact ⟨l.length,by go_num,hrk,Zkt _,HR4.out,Fr.refl _ _⟩
 case round=>
  obtain ⟨i,rfl,hi1,hi2,hown,hfr⟩:=hrel;have hgw:g<wr.heap.size:=(hown.lt g rfl).2;have r0:wr.cell? ⟨b,0,none⟩=some (.slice (some ⟨g,0,none⟩) (l.length+1) c2):=(hfr.cell (p:=⟨b,0,none⟩) HB4.out.lt (fun h=>hgb h.symm)).trans s4';have fz : ∀o,wr.frozen? ⟨g,o,none⟩=false:=fun o=>hown.frozenAt o;have HOW:=hid hown;have HFR:=hid hfr;clear hown hfr;by_cases hlt:rank Z03 l x<i
  · obtain ⟨j,rfl⟩ : ∃j,i=j+1:=⟨i - 1,by omega⟩
    (have hj:j<l.length:=by omega);have hrd:=Z0j (A:=some ⟨g,0,none⟩) (c:=c2) (l:=Z1f l x (j+1)) Page.cells_length (by rw [Z11 l x hi2];exact HOW.out);obtain ⟨g',o',hgo,_,hcell⟩:=hrd.at_ (k:=j) (by rw [Z11 l x hi2];omega);injection hgo with hgo;injection hgo with hg1 hg2;subst hg1;subst hg2;rw [Z5a l x hj] at hcell;(have q0:wr.cell? ⟨g,j*2,none⟩=some (.int .u8 l[j].kk):=by simpa using hcell 0 _ rfl);have q1:wr.cell? ⟨g,j*2+1,none⟩=some (.int .i64 l[j].v):=by simpa using hcell 1 _ rfl
    have rmj:Room wr g 207 (c2*2)∧l.length+1≤c2:=by
     rcases Z0i HOW.out with ⟨hv,_⟩ | ⟨g',cap,hv,hn,_,hr,_⟩
     · cases hv
     · injection hv with hA _ hc
       injection hA with hA;injection hA with hA;subst hA;subst hc;exact ⟨hr,hn⟩
    obtain ⟨hrm,hcap⟩:=rmj;obtain ⟨u0,t0⟩:=hrm.cell (i:=(j+1)*2) (by omega);obtain ⟨u1,t1⟩:=hrm.cell (i:=(j+1)*2+1) (by omega);(have b0:(0:Int)≤(j:Int)+1:=by omega);(have b1:(0:Int)≤(j:Int):=by omega);(have b4:(j:Int)<(l.length:Int):=by omega);(have b2:(j:Int)<(l.length:Int)+1:=by omega);(have b3:(j:Int)+1<(l.length:Int)+1:=by omega);have w1:IntKind.i64.wrap ((j:Int))=(j:Int):=Zl5 _ (by omega);(have w2:IntKind.i64.wrap ((j:Int)+1 - 1)=(j:Int):=by rw [Zl5 _ (by omega)];omega);clear hcell hrd hrm;obtain ⟨y,hy⟩ : ∃y,y=l[j]:=⟨_,rfl⟩;rw [← hy] at q0 q1;have HY:=hid hy;have hbw:b<wr.heap.size:=Zla wr _ r0;clear hy;(go_wp2_with fail);refine Z08 (fun w9=>Below wr.heap.size wr w9) [(0,0),(1,0),(2,0),(3,1),(4,0),(5,0),(6,0),(7,0),(8,1),(9,0),(10,0),(11,0),(12,1),(13,0),(14,2)] (by kernel_rfl) (by kernel_rfl) (fun KK hKK=>?_);simp only [Z0h,Zl2,Zl0,Zkz,Zkv,Zky,Zl4];(repeat ((first | (refine Z0b ?_ (Or.inl ⟨by rfl,fun w9=>?_⟩) ?_;rotate_left 1;go_simp;with_reducible rfl) | (refine Z0a ?_ (((Zks _ _).drew)) (Or.inl ⟨by rfl,fun w9 hw9=>?_⟩) ?_;rotate_left 1;obtain ⟨hc9,hf9⟩:=Z0p hw9;go_simp;with_reducible rfl) | refine Z0b undef (Or.inr ⟨by rfl,rfl⟩) ?_ | refine Z0a undef (((Zks _ _).drew)) (Or.inr ⟨by rfl,rfl⟩) ?_);go_frame));refine Z2m (by kernel_rfl) (fun K9 hK9=>?_);go_simp;refine hK9 _ _ ?_;clear hK9 K9;refine Z0u ?_;simp only [Z02];refine hKK _ _ ?_;clear hKK KK;(go_wp2_with fail);go_roundw
    case rel=>
     refine ⟨j,by go_num,by omega,by omega,?_,Fr.drew (((HFR.out).setCell (p:=⟨g,(j+1)*2,none⟩) (.inl rfl) (_)).setCell (p:=⟨g,(j+1)*2+1,none⟩) (.inl rfl) (_))⟩;have hst:=((((HOW.out).stored ((j+1)*2) (.int .u8 y.kk)).1).stored ((j+1)*2+1) (.int .i64 y.v)).1
     have he:Z5s ((Z1f l x (j+1)).flatMap Page.cells) ((j+1)*2) (Page.cells y)=(Z1f l x j).flatMap Page.cells:=by
      rw [Z5h Page.cells_length (by omega) _ (j+1) (by rw [Z11 l x hi2];omega),HY.out,Z5b l x hj]
     rw [← he];exact hst
    case measure=>simp [intOf]<;>omega
  · obtain rfl:i=rank Z03 l x:=by omega
    have rmj:Room wr g 207 (c2*2)∧l.length+1≤c2:=by
     rcases Z0i HOW.out with ⟨hv,_⟩ | ⟨g',cap,hv,hn,_,hr,_⟩
     · cases hv
     · injection hv with hA _ hc
       injection hA with hA;injection hA with hA;subst hA;subst hc;exact ⟨hr,hn⟩
    obtain ⟨hrm,hcap⟩:=rmj;obtain ⟨k,hk⟩ : ∃k,k=rank Z03 l x:=⟨_,rfl⟩;rw [← hk] at hi2 hlt ⊢;obtain ⟨u0,t0⟩:=hrm.cell (i:=k*2) (by omega);obtain ⟨u1,t1⟩:=hrm.cell (i:=k*2+1) (by omega);have x0:=(HFR.out.cell (p:=⟨w.heap.size,0,none⟩) hk4 (fun h=>hgk1 h.symm)).trans z0;have x1:=(HFR.out.cell (p:=⟨w.heap.size,1,none⟩) hk4 (fun h=>hgk1 h.symm)).trans z1;(have b1:(0:Int)≤(k:Int):=by omega);(have b2:(k:Int)<(l.length:Int)+1:=by omega);have HK:=hid hk;(have hkw:w.heap.size<wr.heap.size:=by have:=HFR.out.size;omega);have hbw:b<wr.heap.size:=Zla wr _ r0;clear hrm hk z0 z1;(go_wp2_with fail);refine Z08 (fun w9=>Below wr.heap.size wr w9) [(0,0),(1,0),(2,0),(3,1),(4,0),(5,1),(6,0),(7,2)] (by kernel_rfl) (by kernel_rfl) (fun KK hKK=>?_);simp only [Z0h,Zl2,Zl0,Zkz,Zkv,Zky,Zl4];(repeat ((first | (refine Z0b ?_ (Or.inl ⟨by rfl,fun w9=>?_⟩) ?_;rotate_left 1;go_simp;with_reducible rfl) | (refine Z0a ?_ (((Zks _ _).drew)) (Or.inl ⟨by rfl,fun w9 hw9=>?_⟩) ?_;rotate_left 1;obtain ⟨hc9,hf9⟩:=Z0p hw9;go_simp;with_reducible rfl) | refine Z0b undef (Or.inr ⟨by rfl,rfl⟩) ?_ | refine Z0a undef (((Zks _ _).drew)) (Or.inr ⟨by rfl,rfl⟩) ?_);go_frame));refine Z2m (by kernel_rfl) (fun K9 hK9=>?_);go_simp;refine hK9 _ _ ?_;clear hK9 K9;refine Z0u ?_;simp only [Z02];refine hKK _ _ ?_;clear hKK KK;(go_wp2_with fail);go_ret;have HOWk:=HOW.out;rw [← HK.out] at HOWk;have hst:=((((HOWk).stored (k*2) (.int .u8 x.kk)).1).stored (k*2+1) (.int .i64 x.v)).1
    have he:Z5s ((Z1f l x k).flatMap Page.cells) (k*2) (Page.cells x)=(put Z03 l x).flatMap Page.cells:=by
     rw [Z5h Page.cells_length (by omega) _ k (by rw [Z11 l x hi2];omega),Z62 l x hi2,Zbh Z36 HO.out hh,HK.out]
    have hln:=Z2o Z36 HO.out hh;refine ⟨by rw [hh];rfl,false,some ⟨g,0,none⟩,c2,⟨?_,?_⟩,?_,?_⟩
    · rw [hln]
      exact ((HB4.out.fr HFR.out (fun h=>hgb h.symm)).far (p:=⟨g,k*2,none⟩) (fun h=>hgb h.symm) _).far (p:=⟨g,k*2+1,none⟩) (fun h=>hgb h.symm) _
    · rw [hln,← he]
      exact hst
    · exact HF4.out.into (Fr.drew (((HFR.out).setCell (p:=⟨g,k*2,none⟩) (.inl rfl) (_)).setCell (p:=⟨g,k*2+1,none⟩) (.inl rfl) (_))) (fun k hk=>by subst hk;exact HgM.out)
    · exact HgMv.out
theorem Zdl (b c:Nat) (sn:Bool) (A:Option Addr) (l:List Page) (x:Page) (w:World) (hS:Z1r w b sn A c l) (hs:Srt Z03 l) (hl:(l.length:Int)≤100000000) :
 Calls Tryz.prog 170 #[.pointer (some ⟨b,0,none⟩),.agg #[.int .u8 x.kk,.int .i64 x.v]] w (Z5y w b sn A l x):=by
 cases hh:has Z03 l x
 · exact Zbj b c sn A l x w hS hs hl hh
 · exact Z8z b c sn A l x w hS hs hl hh
def Z53 (w:World) (b:Nat) (sn:Bool) (A:Option Addr) (l:List Page) (x:Page) (e:Ending) (w':World):Prop:=
 e = .returned (.bool (has Z03 l x))∧∃sn' A' c',Z1r w' b sn' A' c' (drop Z03 l x)∧Fr (Z1g b sn A) w w'∧Z5u w sn A sn' A'
theorem Z9r (b c:Nat) (sn:Bool) (A:Option Addr) (l:List Page) (x:Page) (w:World) (hS:Z1r w b sn A c l) (hs:Srt Z03 l) (hl:(l.length:Int)≤100000000) (hh:has Z03 l x=false) :
 Calls Tryz.prog 173 #[.pointer (some ⟨b,0,none⟩),.agg #[.int .u8 x.kk,.int .i64 x.v]] w (Z53 w b sn A l x):=by
 have HS:=hid hS;have HO:=hid hs;clear hS hs;go_enter Tryz.func173,Tryz.ntmps173;(go_wp2_with fail);refine (Z4i b c sn A l x _ (HS.out.new_ ((Zks _ _).alloc (Zkt _) _)) HO.out (by omega)).mono ?_;rintro e w1 ⟨rfl,hb1⟩;(go_wp2_with fail);go_ret;refine ⟨by rw [hh];rfl,sn,A,c,?_,Fr.of_new (((Zks _ _).alloc (Zkt _) _).trans (hb1.mono (by simp))),.inl ⟨rfl,rfl⟩⟩;rw [Zau hh];exact HS.out.new_ (((Zks _ _).alloc (Zkt _) _).trans (hb1.mono (by simp)))
theorem Zat (b c:Nat) (sn:Bool) (A:Option Addr) (l:List Page) (x:Page) (w:World) (hS:Z1r w b sn A c l) (hs:Srt Z03 l) (hl:(l.length:Int)≤100000000) (hh:has Z03 l x=true) :
 Calls Tryz.prog 173 #[.pointer (some ⟨b,0,none⟩),.agg #[.int .u8 x.kk,.int .i64 x.v]] w (Z53 w b sn A l x):=by
 obtain ⟨hrk,hde,_,_⟩:=Zff Z36 hs hh;have HDE:=hid hde;have HS:=hid hS;have HO:=hid hs;have hb:=hS.lt;clear hS hs hde;go_enter Tryz.func173,Tryz.ntmps173;(go_wp2_with fail);have hSa:=HS.out.new_ ((Zks w.heap.size w).alloc (Zkt _) (.cells #[Value.int IntKind.u8 x.kk,.int .i64 x.v] 207));have HSa:=hid hSa;clear hSa;refine (Z4i b c sn A l x _ HSa.out HO.out (by omega)).mono ?_;rintro e w1 ⟨rfl,hb1⟩;have HS1:=hid (HSa.out.new_ hb1);(have hsz1:w.heap.size+1≤w1.heap.size:=by have:=hb1.size;first | omega | (simp at this;omega));have HB1:=hid hb1;clear hb1;(go_wp2_with fail);refine (Zdi b c sn A l _ HS1.out (by omega)).mono ?_;rintro e w2 ⟨rfl,A1,c1,hS2,hF2,hM2⟩;have hsz2:w1.heap.size≤w2.heap.size:=hF2.size
 obtain ⟨g,rfl⟩ : ∃g,A1=some ⟨g,0,none⟩:=by
  rcases Z0i hS2.row with ⟨_,h0,_⟩ | ⟨g,cap,hv,_⟩
  · omega
  · injection hv with hv;exact ⟨g,hv⟩
 have hgb:g≠b:=hS2.row_ne (by decide) _ rfl;obtain ⟨hroom,hcap,hcm⟩:=Z7f hS2.row;unfold maxLen at hcm
 have hgM:Z1g b sn A g∨w.heap.size≤g:=by
  rcases hM2 with ⟨hsn,hA⟩ | ⟨_,g',hg',hA⟩
  · exact .inl (.inr ⟨hsn.symm,_,hA.symm,rfl⟩)
  · injection hA with hA
    injection hA with hA;subst hA;exact .inr (by omega)
 have hgMv:Z5u w sn A false (some ⟨g,0,none⟩):=by
  rcases hM2 with ⟨hsn,hA⟩ | ⟨_,g',hg',hA⟩
  · exact .inl ⟨hsn,hA⟩
  · injection hA with hA
    injection hA with hA;subst hA;exact .inr ⟨rfl,_,by omega,rfl⟩
 have hF:Fr (Z1g b sn A) w w2:=(Fr.of_new (((Zks _ _).alloc (Zkt _) _).trans (HB1.out.mono (by simp)))).into hF2 (fun k hk=>.inl (.inl hk));have s0:=hS2.cell0;have HgM:=hid hgM;have HgMv:=hid hgMv;have HF:=hid hF;have HBk:=hid hS2.blk;have HRo:=hid hS2.row;(have hb2:b<w2.heap.size:=by omega);clear hgM hgMv hF hS2 hF2 hM2 hroom;go_wp2_with fail
 go_loopw [7] (fun s wr=>∃i:Nat,s = .int .i64 i∧rank Z03 l x≤i∧i<l.length∧wr.ownsRow 0 207 2 (.slice (some ⟨g,0,none⟩) l.length c1) l.length ((Z3c l (rank Z03 l x) i).flatMap Page.cells)∧Fr (· = g) w2 wr) (fun s wr=>l.length - (intOf s).toNat)
 case atStart=>exact ⟨rank Z03 l x,rfl,Zkt _,hrk,by rw [Zas];exact HRo.out,Fr.refl _ _⟩
 case round=>
  obtain ⟨i,rfl,hi1,hi2,hown,hfr⟩:=hrel;have hgw:g<wr.heap.size:=(hown.lt g rfl).2;have r0:wr.cell? ⟨b,0,none⟩=some (.slice (some ⟨g,0,none⟩) l.length c1):=(hfr.cell (p:=⟨b,0,none⟩) hb2 (fun h=>hgb h.symm)).trans s0;have fz : ∀o,wr.frozen? ⟨g,o,none⟩=false:=fun o=>hown.frozenAt o;have hbw:b<wr.heap.size:=Zla wr _ r0;obtain ⟨hrm,_,_⟩:=Z7f hown;have HOW:=hid hown;have HFR:=hid hfr;clear hown hfr;by_cases hlt:i+1<l.length
  · have hrd:=Z0j (A:=some ⟨g,0,none⟩) (c:=c1) (l:=Z3c l (rank Z03 l x) i) Page.cells_length (by rw [Z39 l hi1 hi2];exact HOW.out)
    obtain ⟨g',o',hgo,_,hcell⟩:=hrd.at_ (k:=i+1) (by rw [Z39 l hi1 hi2];omega);injection hgo with hgo;injection hgo with hg1 hg2;subst hg1;subst hg2;rw [Zc7 l hi1 hlt] at hcell;(have q0:wr.cell? ⟨g,(i+1)*2,none⟩=some (.int .u8 l[i+1].kk):=by simpa using hcell 0 _ rfl);(have q1:wr.cell? ⟨g,(i+1)*2+1,none⟩=some (.int .i64 l[i+1].v):=by simpa using hcell 1 _ rfl);obtain ⟨u0,t0⟩:=hrm.cell (i:=i*2) (by omega);obtain ⟨u1,t1⟩:=hrm.cell (i:=i*2+1) (by omega);(have b0:(0:Int)≤(i:Int)+1:=by omega);(have b1:(0:Int)≤(i:Int):=by omega);(have b2:(i:Int)<(l.length:Int):=by omega);(have b3:(i:Int)+1<(l.length:Int):=by omega);have v1:IntKind.i64.wrap ((i:Int)+1)=(i:Int)+1:=Zl5 _ (by omega);clear hcell hrd hrm;obtain ⟨y,hy⟩ : ∃y,y=l[i+1]:=⟨_,rfl⟩;rw [← hy] at q0 q1;have HY:=hid hy;clear hy;(go_wp2_with fail);refine Z08 (fun w9=>Below wr.heap.size wr w9) [(0,0),(1,0),(2,0),(3,1),(4,0),(5,0),(6,0),(7,0),(8,1),(9,0),(10,0),(11,0),(12,1),(13,0),(14,2)] (by kernel_rfl) (by kernel_rfl) (fun KK hKK=>?_);simp only [Z0h,Zl2,Zl0,Zkz,Zkv,Zky,Zl4];(repeat ((first | (refine Z0b ?_ (Or.inl ⟨by rfl,fun w9=>?_⟩) ?_;rotate_left 1;go_simp;with_reducible rfl) | (refine Z0a ?_ (((Zks _ _).drew)) (Or.inl ⟨by rfl,fun w9 hw9=>?_⟩) ?_;rotate_left 1;obtain ⟨hc9,hf9⟩:=Z0p hw9;go_simp;with_reducible rfl) | refine Z0b undef (Or.inr ⟨by rfl,rfl⟩) ?_ | refine Z0a undef (((Zks _ _).drew)) (Or.inr ⟨by rfl,rfl⟩) ?_);go_frame));refine Z2m (by kernel_rfl) (fun K9 hK9=>?_);go_simp;refine hK9 _ _ ?_;clear hK9 K9;refine Z0u ?_;simp only [Z02];refine hKK _ _ ?_;clear hKK KK;(go_wp2_with fail);go_roundw
    case rel=>
     refine ⟨i+1,by go_num,by omega,by omega,?_,Fr.drew (((HFR.out).setCell (p:=⟨g,i*2,none⟩) (.inl rfl) (_)).setCell (p:=⟨g,i*2+1,none⟩) (.inl rfl) (_))⟩;have hst:=((((HOW.out).stored (i*2) (.int .u8 y.kk)).1).stored (i*2+1) (.int .i64 y.v)).1
     have he:Z5s ((Z3c l (rank Z03 l x) i).flatMap Page.cells) (i*2) (Page.cells y)=(Z3c l (rank Z03 l x) (i+1)).flatMap Page.cells:=by
      rw [Z5h Page.cells_length (by omega) _ i (by rw [Z39 l hi1 hi2];omega),HY.out,Zc8 l hi1 hlt]
     rw [← he];exact hst
    case measure=>simp [intOf]<;>omega
  · have hin:i=l.length - 1:=by omega
    have HIN:=hid hin;(have b1:(0:Int)≤(l.length:Int) - 1:=by omega);(have b2:(l.length:Int) - 1≤(c1:Int):=by omega);(have b3 : ¬c1=0:=by omega);have v1:IntKind.i64.wrap ((l.length:Int) - 1)=(l.length:Int) - 1:=Zl5 _ (by omega);(have v2:((l.length:Int) - 1).toNat=l.length - 1:=by omega);(have b4:(1:Int)≤(l.length:Int):=by omega);(have b5:l.length - 1≤c1:=by omega);have f0:wr.frozen? ⟨b,0,none⟩=false:=(HBk.out.fr HFR.out (fun h=>hgb h.symm)).frozen 0;clear hin hrm;(go_wp2_with fail);refine Z08 (fun w9=>Below wr.heap.size wr w9) [(0,0),(1,0),(2,0),(3,0),(4,1),(5,0),(6,0),(7,0),(8,1),(9,0),(10,0),(11,0),(12,0),(13,0),(14,2)] (by kernel_rfl) (by kernel_rfl) (fun KK hKK=>?_);simp only [Z0h,Zl2,Zl0,Zkz,Zkv,Zky,Zl4];(repeat ((first | (refine Z0b ?_ (Or.inl ⟨by rfl,fun w9=>?_⟩) ?_;rotate_left 1;go_simp;with_reducible rfl) | (refine Z0a ?_ (((Zks _ _).drew)) (Or.inl ⟨by rfl,fun w9 hw9=>?_⟩) ?_;rotate_left 1;obtain ⟨hc9,hf9⟩:=Z0p hw9;go_simp;with_reducible rfl) | refine Z0b undef (Or.inr ⟨by rfl,rfl⟩) ?_ | refine Z0a undef (((Zks _ _).drew)) (Or.inr ⟨by rfl,rfl⟩) ?_);go_frame));refine Z2m (by kernel_rfl) (fun K9 hK9=>?_);go_simp;refine hK9 _ _ ?_;clear hK9 K9;refine Z0u ?_;simp only [Z02];refine hKK _ _ ?_;clear hKK KK;(go_wp2_with fail);go_ret;(have hdl:(drop Z03 l x).length=l.length - 1:=by rw [HDE.out];simp;omega);refine ⟨by rw [hh];rfl,false,some ⟨g,0,none⟩,c1,⟨?_,?_⟩,?_,HgMv.out⟩
    · rw [hdl]
      exact (HBk.out.fr HFR.out (fun h=>hgb h.symm)).set_ 0 _
    · rw [hdl]
      refine ownsRow_setCell_other (a:=⟨b,0,none⟩) ?_ (by simpa [Value.ownBlock] using hgb) _;have h1:=HOW.out;rw [HIN.out] at h1;have h2:=Z8w Page.cells_length (by omega) h1 (m:=l.length - 1) (by omega) (Z39 l (by omega) (by omega));rw [Ze5 l hrk,← HDE.out] at h2;exact h2
    · exact (HF.out.into HFR.out (fun k hk=>by subst hk;exact HgM.out)).drew.setCell (p:=⟨b,0,none⟩) (.inl (.inl rfl)) _
theorem Zfe (b c:Nat) (sn:Bool) (A:Option Addr) (l:List Page) (x:Page) (w:World) (hS:Z1r w b sn A c l) (hs:Srt Z03 l) (hl:(l.length:Int)≤100000000) :
 Calls Tryz.prog 173 #[.pointer (some ⟨b,0,none⟩),.agg #[.int .u8 x.kk,.int .i64 x.v]] w (Z53 w b sn A l x):=by
 cases hh:has Z03 l x
 · exact Z9r b c sn A l x w hS hs hl hh
 · exact Zat b c sn A l x w hS hs hl hh
theorem Z3f (b c:Nat) (sn:Bool) (A:Option Addr) (l:List Page) (x:Page) (w:World) (hS:Z1r w b sn A c l) (hs:Srt Z03 l) (hl:(l.length:Int)≤1000000000) (hh:has Z03 l x=false) :
 Calls Tryz.prog 171 #[.pointer (some ⟨b,0,none⟩),.agg #[.int .u8 x.kk,.int .i64 x.v]] w fun e w'=>e = .returned (.tuple #[.agg #[.int .u8 0,.int .i64 0],.bool false])∧Below w.heap.size w w':=by
 have HS:=hid hS;have HO:=hid hs;clear hS hs;go_enter Tryz.func171,Tryz.ntmps171;(go_wp2_with fail);refine (Z4i b c sn A l x _ (HS.out.new_ ((((Zks _ _).alloc (Zkt _) _).alloc (by simp) _).alloc (by simp;omega) _)) HO.out (by omega)).mono ?_;rintro e w1 ⟨rfl,hb1⟩;obtain ⟨hc1,hf1⟩:=Z0p hb1;(have hz1:w.heap.size+2<w1.heap.size:=by have:=hb1.size;simp at this;omega);have HB:=hid ((((((Zks w.heap.size w).alloc (Zkt _) _).alloc (by simp) _).alloc (by simp;omega) _)).trans (hb1.mono (by simp;omega)));clear hb1;(go_wp2_with fail);exact bodyPost_ret (v:=.tuple #[.agg #[.int .u8 0,.int .i64 0],.bool false]) (by simp [results,Tryz.results171,go_sem,hc1]) rfl ⟨rfl,by (repeat (first | exact Zks _ _ | exact HB.out | refine Below.drew ?_ | refine Below.al ?_ _ | refine Below.sc ?_ _))⟩
theorem Z3e (b c:Nat) (sn:Bool) (A:Option Addr) (l:List Page) (x y:Page) (w:World) (hS:Z1r w b sn A c l) (hs:Srt Z03 l) (hl:(l.length:Int)≤1000000000) (hh:has Z03 l x=true) (hy:l[rank Z03 l x]? = some y) :
 Calls Tryz.prog 171 #[.pointer (some ⟨b,0,none⟩),.agg #[.int .u8 x.kk,.int .i64 x.v]] w fun e w'=>e = .returned (.tuple #[.agg #[.int .u8 y.kk,.int .i64 y.v],.bool true])∧Below w.heap.size w w':=by
 have HS:=hid hS;have HO:=hid hs;obtain ⟨hrk,hye⟩:=Zln.1 hy;have hrd:=hS.rd Page.cells_length;have s0:=hS.cell0;have hb:=hS.lt;clear hS hs hy;obtain ⟨g,off,rfl,hgs,hcell⟩:=hrd.at_ hrk;rw [hye] at hcell;obtain ⟨k,hk⟩ : ∃k,k=rank Z03 l x:=⟨_,rfl⟩;rw [← hk] at hcell hrk;(have q0:w.cell? ⟨g,off+k*2,none⟩=some (.int .u8 y.kk):=by simpa using hcell 0 _ rfl);(have q1:w.cell? ⟨g,off+k*2+1,none⟩=some (.int .i64 y.v):=by simpa using hcell 1 _ rfl);(have b1:(0:Int)≤(k:Int):=by omega);(have b2:(k:Int)<(l.length:Int):=by omega);have HK:=hid hk;clear hcell hrd hye hk;go_enter Tryz.func171,Tryz.ntmps171;(go_wp2_with fail);refine (Z4i b c sn _ l x _ (HS.out.new_ ((((Zks _ _).alloc (Zkt _) _).alloc (by simp) _).alloc (by simp;omega) _)) HO.out (by omega)).mono ?_;rintro e w1 ⟨rfl,hb1⟩;rw [← HK.out];obtain ⟨hc1,hf1⟩:=Z0p hb1;(have hz1:w.heap.size+2<w1.heap.size:=by have:=hb1.size;simp at this;omega);have HB:=hid ((((((Zks w.heap.size w).alloc (Zkt _) _).alloc (by simp) _).alloc (by simp;omega) _)).trans (hb1.mono (by simp;omega)));clear hb1;have r0:=(HB.out.cell (p:=⟨b,0,none⟩) hb).trans s0;have r1:=(HB.out.cell (p:=⟨g,off+k*2,none⟩) hgs).trans q0;have r2:=(HB.out.cell (p:=⟨g,off+k*2+1,none⟩) hgs).trans q1;clear s0 q0 q1;(go_wp2_with fail);exact bodyPost_ret (v:=.tuple #[.agg #[.int .u8 y.kk,.int .i64 y.v],.bool true]) (by simp [results,Tryz.results171,go_sem,hc1]) rfl ⟨rfl,by (repeat (first | exact Zks _ _ | exact HB.out | refine Below.drew ?_ | refine Below.al ?_ _ | refine Below.sc ?_ _))⟩
def Z9l (w:World) (b:Nat) (A:Option Addr) (c:Nat) (l:List Page) (e:Ending) (w':World):Prop:=
 ∃k,e = .returned (.pointer (some ⟨k,0,none⟩))∧w.heap.size≤k∧Z1r w' b true A c l∧Z1r w' k true A c l∧Fr (· = b) w w'
theorem Ze1 (b c:Nat) (sn:Bool) (A:Option Addr) (l:List Page) (w:World) (hS:Z1r w b sn A c l) :
 Calls Tryz.prog 140 #[.pointer (some ⟨b,0,none⟩)] w (Z9l w b A c l):=by
 have s0:=hS.cell0;have s1:=hS.cell1;have f1:=hS.blk.frozen 1;have hb:=hS.lt;have HS:=hid hS;clear hS;go_enter Tryz.func140,Tryz.ntmps140;go_wp2;go_ret;have h1:Z1r (w.setCell ⟨b,1,none⟩ (.bool true)) b true A c l:=⟨HS.out.blk.set_ 1 _,ownsRow_setCell_other HS.out.row (Z0d HS.out.row HS.out.blk (by decide)) _⟩;refine ⟨w.heap.size,by simp,Zkt _,h1.new_ ((Zks _ _).alloc (Zkt _) _),⟨?_,Z00 h1.row ((Zks _ _).alloc (Zkt _) _)⟩,((Fr.refl (· = b) w).setCell (p:=⟨b,1,none⟩) (.inl rfl) _).alloc _⟩;have h2:=Blk.new (w.setCell ⟨b,1,none⟩ (.bool true)) 260 #[.slice A l.length c,.bool true];simpa using h2
def Zbz (w:World) (xs:List Page) (e:Ending) (w':World):Prop:=
 ∃k,e = .returned (.pointer (some ⟨k,0,none⟩))∧w.heap.size≤k∧∃sn A c,Z1r w' k sn A c (puts Z03 [] xs)∧AIn A (w.heap.size≤·)∧Below w.heap.size w w'
theorem Zhx (A:Option Addr) (c:Nat) (xs:List Page) (w:World) (hrd:Z0k w 2 Page.cells A c xs) (hl:(xs.length:Int)≤10000000) :
 Calls Tryz.prog 130 #[.slice A xs.length c] w (Zbz w xs):=by
 have HRD:=hid hrd;clear hrd;go_enter Tryz.func130,Tryz.ntmps130;(go_wp2_with fail);obtain ⟨W0,hW0⟩ : ∃W0,W0=w.alloc (.cells #[.slice none 0 0,.bool false] 260):=⟨_,rfl⟩;(have hb0:Below w.heap.size w W0:=by rw [hW0];exact (Zks _ _).alloc (Zkt _) _);have hS0:Z1r W0 w.heap.size false none 0 []:=⟨by rw [hW0];exact Blk.new _ _ _,⟨by simp,.inl ⟨rfl,rfl⟩⟩⟩;rw [← hW0];clear hW0;have HB0:=hid hb0;have HS0:=hid hS0;clear hb0 hS0
 go_loopw [10] (fun s wr=>∃i:Nat,s = .int .i64 i∧i≤xs.length∧∃sn A' c',Z1r wr w.heap.size sn A' c' (puts Z03 [] (xs.take i))∧AIn A' (w.heap.size≤·)∧Below w.heap.size w wr) (fun s wr=>xs.length - (intOf s).toNat)
 case atStart=>exact ⟨0,rfl,Nat.zero_le _,false,none,0,HS0.out,AIn.none_ _,HB0.out⟩
 case round=>
  obtain ⟨i,rfl,hi,sn,A',c',hS,hA',hB⟩:=hrel;have HS:=hid hS;have HA:=hid hA';have HB:=hid hB;clear hS hA' hB;by_cases hlt:i<xs.length
  · obtain ⟨x,hx⟩ : ∃x,x=xs[i]:=⟨_,rfl⟩
    obtain ⟨g,off,rfl,hgs,hcell⟩:=(HRD.out.fr (Fr.of_new (M:=fun _=>False) HB.out) (fun _ _ h=>h)).at_ hlt;rw [← hx] at hcell;(have q0:wr.cell? ⟨g,off+i*2,none⟩=some (.int .u8 x.kk):=by simpa using hcell 0 _ rfl);(have q1:wr.cell? ⟨g,off+i*2+1,none⟩=some (.int .i64 x.v):=by simpa using hcell 1 _ rfl);(have b1:(0:Int)≤(i:Int):=by omega);(have b2:(i:Int)<(xs.length:Int):=by omega);have HX:=hid hx;clear hcell hx;(go_wp2_with fail);have hsr:=Srt.puts Z36 (xs.take i) (Srt.nil (cmp:=Z03))
    have hlen:(((puts Z03 [] (xs.take i)).length:Nat):Int)≤100000000:=by
     have:=Z2p Z36 (xs.take i) (Srt.nil (cmp:=Z03));simp at this;omega
    refine (Zdl w.heap.size c' sn A' _ x _ (HS.out.new_ ((Zks _ _).alloc (Zkt _) _)) hsr hlen).mono ?_;rintro e w1 ⟨rfl,sn2,A2,c2,hS2,hF2,hM2⟩
    have hB1:Below w.heap.size w w1:=(HB.out.alloc HB.out.size _).trans (hF2.below (by have:=HB.out.size;(try simp);omega) (fun k hk hm=>by
     rcases hm with hm | ⟨_,a,ha,hm⟩
     · omega
     · have:=HA.out a ha;omega))
    have hA2:AIn A2 (w.heap.size≤·):=by
     rcases hM2 with ⟨_,rfl⟩ | ⟨_,g2,hg2,rfl⟩
     · exact HA.out
     · intro a ha;cases ha;have:=HB.out.size;(try simp at hg2 ⊢);omega
    have HS2:=hid hS2;have HB1:=hid hB1;have HA2:=hid hA2;clear hS2 hB1 hA2 hF2 hM2 hsr hlen q0 q1;(go_wp2_with fail);go_roundw
    case rel=>
     refine ⟨i+1,by go_num,by omega,sn2,A2,c2,?_,HA2.out,HB1.out⟩;rw [Zm1,Zl1 hlt,← HX.out];simp only [Option.toList_some,Z3k];exact HS2.out
    case measure=>simp [intOf]<;>omega
  · have hie:i=xs.length:=by omega
    subst hie;(go_wp2_with fail);go_ret;refine ⟨w.heap.size,rfl,Zkt _,sn,A',c',?_,HA.out,HB.out⟩;have:=HS.out;rwa [Zll] at this
abbrev Z66:=Sets (α:=Page) 260 207 2 Page.cells Z03
section
variable {D:Nat→Prop} {w:World} {S:Nat→Option (List Page)} {σ:Nat→St} {b:Nat} {l:List Page}
theorem Zcw (h:Z66 D w S σ) (hb:S b=some l) :
 Calls Tryz.prog 140 #[.pointer (some ⟨b,0,none⟩)] w fun e w'=>∃k,e = .returned (.pointer (some ⟨k,0,none⟩))∧w.heap.size≤k∧(∀b l,S b=some l→b≠k)∧
  ∃σ',Z66 D w' (upd S k (some l)) σ'∧(∀j,j≠k→j≠b→σ' j=σ j)∧(σ' b).sn=true∧(σ' b).A=(σ b).A∧(σ' k).sn=true∧(σ' k).A=(σ b).A∧Fr (fun k=>¬D k) w w'∧Fr (· = b) w w':=by
 refine (Ze1 b _ _ _ l w (h.at_ b l hb)).mono ?_;rintro e w' ⟨k,he,hk,h1,h2,hF⟩;(have hnb:b≠k:=fun e=>by have:=h.lt hb;omega);have hD:Fr (fun k=>¬D k) w w':=hF.mono (fun k _ hk=>by rw [hk];exact (h.out b l hb).1);have hs:=h.seen (by decide) hb h1 hF;have hrow:=(h.at_ b l hb).row_lt;refine ⟨k,he,hk,fun b l hb e=>by have:=h.lt hb;omega,upd (upd σ b ⟨true,(σ b).A,(σ b).c⟩) k ⟨true,(σ b).A,(σ b).c⟩,⟨fun j m hj=>?_,fun j m hj=>?_,fun j m hj=>?_,fun j m j' m' hj hj' hjj hsj a a' ha ha'=>?_,hs.low⟩,fun j h1 h2=>by rw [Z0q _ _ h1,Z0q _ _ h2],by rw [Z0q _ _ hnb,Z06],by rw [Z0q _ _ hnb,Z06],by rw [Z06],by rw [Z06],hD,hF⟩
 · by_cases e:j=k
   · subst e;rw [Z06] at hj ⊢;cases hj;exact h2
   · rw [Z0q _ _ e] at hj ⊢;exact hs.at_ j m hj
 · by_cases e:j=k
   · subst e;rw [Z06] at hj;cases hj;exact h.srt b l hb
   · rw [Z0q _ _ e] at hj;exact h.srt j m hj
 · by_cases e:j=k
   · subst e;rw [Z06] at hj ⊢;cases hj
     exact ⟨fun hd=>by have:=h.low _ hd;omega,fun hs2=>by cases hs2⟩
   · rw [Z0q _ _ e] at hj ⊢;exact hs.out j m hj
 · by_cases e:j=k
   · subst e;rw [Z06] at hsj;cases hsj
   · rw [Z0q _ _ e] at hj hsj ha
     by_cases e2:j'=k
     · subst e2
       rw [Z06] at ha';by_cases e3:j=b
       · subst e3;rw [Z06] at hsj;cases hsj
       · exact hs.apart j m b l hj hb e3 hsj a a' ha (by rw [Z06];exact ha')
     · rw [Z0q _ _ e2] at hj' ha'
       exact hs.apart j m j' m' hj hj' hjj hsj a a' ha ha'
end
end
end Go.Proofs.YtfidcfjcmlgkbaaGreat
