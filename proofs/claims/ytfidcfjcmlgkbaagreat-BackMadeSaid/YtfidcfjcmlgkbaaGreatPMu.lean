/-
  Texts put together: NewBnum, SeenFrom, FindPgR, IterPgR, OpsPgR, ListPgR, SeqP, PutPgR, MiscPgR, NewPgR, BkMapPgR.
-/
import Derived.Test.YtfidcfjcmlgkbaaGreatPMt
namespace Go.Proofs.YtfidcfjcmlgkbaaGreat
open Lib (hid)
set_option maxRecDepth 100000
set_option maxHeartbeats 32000000
set_option linter.unusedSimpArgs false
section
open Go.RowKit
def Zd4 (w:World) (xs:List Bnum) (e:Ending) (w':World):Prop:=
 ∃k,e = .returned (.pointer (some ⟨k,0,none⟩))∧w.heap.size≤k∧∃sn A c,Z41 w' k sn A c (puts Z0q [] xs)∧AIn A (w.heap.size≤·)∧Below w.heap.size w w'
theorem Zki (A:Option Addr) (c:Nat) (xs:List Bnum) (w:World) (hrd:Z0z w 1 Bnum.cells A c xs) (hl:(xs.length:Int)≤10000000) :
 Calls Tryz.prog 107 #[.slice A xs.length c] w (Zd4 w xs):=by
 have HRD:=hid hrd;clear hrd;go_enter Tryz.func107,Tryz.ntmps107;(go_wp2_with fail);obtain ⟨W0,hW0⟩:∃W0,W0=w.alloc (.cells #[.slice none 0 0,.bool false] 231):=⟨_,rfl⟩;(have hb0:Below w.heap.size w W0:=by rw [hW0];exact (Znk _ _).alloc (Znl _) _);have hS0:Z41 W0 w.heap.size false none 0 []:=⟨by rw [hW0];exact Blk.new _ _ _,⟨by simp,.inl ⟨rfl,rfl⟩⟩⟩;rw [←hW0];clear hW0;have HB0:=hid hb0;have HS0:=hid hS0;clear hb0 hS0
 go_loopw [10] (fun s wr=>∃i:Nat,s = .int .i64 i∧i≤xs.length∧∃sn A' c',Z41 wr w.heap.size sn A' c' (puts Z0q [] (xs.take i))∧AIn A' (w.heap.size≤·)∧Below w.heap.size w wr) (fun s wr=>xs.length - (intOf s).toNat)
 case atStart=>exact ⟨0,rfl,Nat.zero_le _,false,none,0,HS0.out,AIn.none_ _,HB0.out⟩
 case round=>
  obtain ⟨i,rfl,hi,sn,A',c',hS,hA',hB⟩:=hrel;have HS:=hid hS;have HA:=hid hA';have HB:=hid hB;clear hS hA' hB;by_cases hlt:i<xs.length
  · obtain ⟨x,hx⟩:∃x,x=xs[i]:=⟨_,rfl⟩
    obtain ⟨g,off,rfl,hgs,hcell⟩:=(HRD.out.fr (Fr.of_new (M:=fun _=>False) HB.out) (fun _ _ h=>h)).at_ hlt;rw [←hx] at hcell;(have q0:wr.cell? ⟨g,off+i,none⟩=some (.int .i64 x):=by simpa using hcell 0 _ rfl);(have b1:(0:Int)≤(i:Int):=by omega);(have b2:(i:Int)<(xs.length:Int):=by omega);have HX:=hid hx;clear hcell hx;(go_wp2_with fail);have hsr:=Srt.puts Z42 (xs.take i) (Srt.nil (cmp:=Z0q))
    have hlen:(((puts Z0q [] (xs.take i)).length:Nat):Int)≤100000000:=by
     have:=Z1d Z42 (xs.take i) (Srt.nil (cmp:=Z0q));simp at this;omega
    refine (Zf6 w.heap.size c' sn A' _ x _ (HS.out.new_ (Znk _ _)) hsr hlen).mono ?_;rintro e w1 ⟨rfl,sn2,A2,c2,hS2,hF2,hM2⟩
    have hB1:Below w.heap.size w w1:=(HB.out).trans (hF2.below (by have:=HB.out.size;(try simp);omega) (fun k hk hm=>by
     rcases hm with hm|⟨_,a,ha,hm⟩
     · omega
     · have:=HA.out a ha;omega))
    have hA2:AIn A2 (w.heap.size≤·):=by
     rcases hM2 with ⟨_,rfl⟩|⟨_,g2,hg2,rfl⟩
     · exact HA.out
     · intro a ha;cases ha;have:=HB.out.size;(try simp at hg2 ⊢);omega
    have HS2:=hid hS2;have HB1:=hid hB1;have HA2:=hid hA2;clear hS2 hB1 hA2 hF2 hM2 hsr hlen q0;(go_wp2_with fail);go_roundw
    case rel=>
     refine ⟨i+1,by go_num,by omega,sn2,A2,c2,?_,HA2.out,HB1.out⟩;rw [Zor,Znq hlt,←HX.out];simp only [Option.toList_some,Z36];exact HS2.out
    case measure=>simp [intOf]<;>omega
  · have hie:i=xs.length:=by omega
    subst hie;(go_wp2_with fail);go_ret;refine ⟨w.heap.size,rfl,Znl _,sn,A',c',?_,HA.out,HB.out⟩;have:=HS.out;rwa [Zo6] at this
theorem Z1k.from_ {b:Nat}{W W1 F:World}(h:Z1k b W1 F) (hb:Below W.heap.size W W1):Z1k b W F:=by
 obtain ⟨X,hX,rfl⟩:=h;exact ⟨X,hb.trans (hX.mono hb.size),rfl⟩
theorem Z1k.size {b:Nat}{W F:World}(h:Z1k b W F):W.heap.size≤F.heap.size:=by
 obtain ⟨X,hX,rfl⟩:=h;simpa using hX.size
abbrev Z2q:=Z25 (α:=PgR) 276 226 7 PgR.cells
theorem Zcf (k0 : Int) (k1 : Int) (k2 : Int) (k3 : Value) (k4 : Value) (k5 : Value) (k6 : Value) (w : World) : (nilAhead 442 226 (.agg #[.int .i64 k0, .int .i64 k1, .int .i64 k2,  k3,  k4,  k5,  k6]) "Compare").run Tryz.prog w = .ok (some false) w := by kernel_rfl
theorem Zg9 (k0 : Int) (k1 : Int) (k2 : Int) (k3 : Value) (k4 : Value) (k5 : Value) (k6 : Value) (w : World) : (method 442 226 (.agg #[.int .i64 k0, .int .i64 k1, .int .i64 k2,  k3,  k4,  k5,  k6]) "Compare").run Tryz.prog w = .ok (268, .agg #[.int .i64 k0, .int .i64 k1, .int .i64 k2,  k3,  k4,  k5,  k6]) w := by kernel_rfl
def Zja (l:List PgR) (x:PgR) (w:World) (e:Ending) (w':World):Prop:=
 e = .returned (.tuple #[.int .i64 (rank Z19 l x),.bool (has Z19 l x)])∧Below w.heap.size w w'
theorem Zaw (b c:Nat) (sn:Bool) (A:Option Addr) (l:List PgR) (x:PgR) (w:World) (hS:Z2q w b sn A c l) (hs:Srt Z19 l) (hl:(l.length:Int)≤4611686018427387904) :
 Calls Tryz.prog 183 #[.pointer (some ⟨b,0,none⟩),.agg #[.int .i64 x.kk,.int .i64 x.num,.int .i64 x.level,.slice x.elems.A x.elems.n x.elems.c,.slice x.holes.A x.holes.n x.holes.c,.slice x.aparts.A x.aparts.n x.aparts.c,.slice x.news.A x.news.n x.news.c]] w (Zja l x w):=by
 have hrd:=hS.rd PgR.cells_length;have h0:=hS.cell0;have hb:=hS.lt;clear hS;have HS:=hid hs;have HRD:=hid hrd;clear hs hrd;go_enter Tryz.func183,Tryz.ntmps183;(go_wp2_with fail);go_quiet (fail);(go_wp2_with fail);obtain ⟨W0,hW0⟩:∃W0,W0=((w.alloc (Obj.cells #[.int .i64 x.kk,.int .i64 x.num,.int .i64 x.level,.slice x.elems.A x.elems.n x.elems.c,.slice x.holes.A x.holes.n x.holes.c,.slice x.aparts.A x.aparts.n x.aparts.c,.slice x.news.A x.news.n x.news.c] 226)).drewN nq):=⟨_,rfl⟩;(have hB0:Below w.heap.size w W0:=by rw [hW0];exact Below.drewN' ((Znk _ _).alloc (Znl _) _) _);(have hx0:W0.cell? ⟨w.heap.size,0,none⟩=some (.int .i64 x.kk):=by rw [hW0];go_simp);(have hx1:W0.cell? ⟨w.heap.size,1,none⟩=some (.int .i64 x.num):=by rw [hW0];go_simp);(have hx2:W0.cell? ⟨w.heap.size,2,none⟩=some (.int .i64 x.level):=by rw [hW0];go_simp);(have hx3:W0.cell? ⟨w.heap.size,3,none⟩=some (.slice x.elems.A x.elems.n x.elems.c):=by rw [hW0];go_simp);(have hx4:W0.cell? ⟨w.heap.size,4,none⟩=some (.slice x.holes.A x.holes.n x.holes.c):=by rw [hW0];go_simp);(have hx5:W0.cell? ⟨w.heap.size,5,none⟩=some (.slice x.aparts.A x.aparts.n x.aparts.c):=by rw [hW0];go_simp);(have hx6:W0.cell? ⟨w.heap.size,6,none⟩=some (.slice x.news.A x.news.n x.news.c):=by rw [hW0];go_simp);rw [←hW0];clear hW0;have HB0:=hid hB0;clear hB0
 go_loopw [6,7] (fun lo hi wr=>∃i j:Nat,lo = .int .i64 i∧hi = .int .i64 j∧i≤j∧j≤l.length∧(∀k,(h:k<l.length)→k<i→Z19 l[k] x<0)∧(∀k,(h:k<l.length)→j≤k→0<Z19 l[k] x)∧Below W0.heap.size W0 wr) (fun lo hi wr=>(intOf hi).toNat - (intOf lo).toNat)
 case atStart=>exact ⟨0,l.length,rfl,rfl,Nat.zero_le _,Znl _,fun k _ h=>absurd h (by omega),fun k h h'=>absurd h (by omega),Znk _ _⟩
 case round=>
  obtain ⟨i,j,rfl,rfl,hij,hj,hlo,hhi,hB⟩:=hrel;have HLO:=hid hlo;have HHI:=hid hhi;clear hlo hhi;have hsz:w.heap.size<W0.heap.size:=Znx W0 _ hx0;by_cases hlt:i<j
  · obtain ⟨m,hm⟩:∃m,m=i+(j - i) / 2:=⟨_,rfl⟩
    (have hml:m<l.length:=by omega);(have hmj:m<j:=by omega);(have hmi:i≤m:=by omega);(have e1:((i:Int)+((j:Int) - (i:Int)) / 2)=(m:Int):=by omega);have E1:=hid e1;clear e1 hm;obtain ⟨g,off,rfl,hgs,hcell⟩:=HRD.out.at_ hml;have low :∀(p:Addr),p.block<w.heap.size→wr.cell? p=w.cell? p:=fun p hp=>(hB.cell (p:=p) (by omega)).trans (HB0.out.cell (p:=p) hp);have r0:=(low ⟨b,0,none⟩ hb).trans h0;have q0:=(low ⟨g,off+m*7,none⟩ hgs).trans (hcell 0 _ rfl);have q1:=(low ⟨g,off+m*7+1,none⟩ hgs).trans (hcell 1 _ rfl);have q2:=(low ⟨g,off+m*7+2,none⟩ hgs).trans (hcell 2 _ rfl);have q3:=(low ⟨g,off+m*7+3,none⟩ hgs).trans (hcell 3 _ rfl);have q4:=(low ⟨g,off+m*7+4,none⟩ hgs).trans (hcell 4 _ rfl);have q5:=(low ⟨g,off+m*7+5,none⟩ hgs).trans (hcell 5 _ rfl);have q6:=(low ⟨g,off+m*7+6,none⟩ hgs).trans (hcell 6 _ rfl);have y0:=(hB.cell (p:=⟨w.heap.size,0,none⟩) hsz).trans hx0;have y1:=(hB.cell (p:=⟨w.heap.size,1,none⟩) hsz).trans hx1;have y2:=(hB.cell (p:=⟨w.heap.size,2,none⟩) hsz).trans hx2;have y3:=(hB.cell (p:=⟨w.heap.size,3,none⟩) hsz).trans hx3;have y4:=(hB.cell (p:=⟨w.heap.size,4,none⟩) hsz).trans hx4;have y5:=(hB.cell (p:=⟨w.heap.size,5,none⟩) hsz).trans hx5;have y6:=(hB.cell (p:=⟨w.heap.size,6,none⟩) hsz).trans hx6;(have b1:(0:Int)≤(m:Int):=by omega);(have b2:(m:Int)<(l.length:Int):=by omega);have hsw:W0.heap.size≤wr.heap.size:=hB.size;have N:=Zcf;have M:=Zg9;clear low hcell hx0 hx1 hx2 hx3 hx4 hx5 hx6 h0;have HB:=hid hB;clear hB;obtain ⟨y,hy⟩:∃y,y=l[m]:=⟨_,rfl⟩;rw [←hy] at q0 q1 q2 q3 q4 q5 q6;have HY:=hid hy;clear hy;(have hbw:b<wr.heap.size:=by omega);(have hgw:g<wr.heap.size:=by omega);(have hww:w.heap.size<wr.heap.size:=by omega);(go_wp2_with fail);rw [E1.out]
    go_region_held3 (fun w'=>w'.cell? ⟨b,0,none⟩=some (.slice (some ⟨g,off,none⟩) l.length c)∧w'.cell? ⟨g,off+m*7,none⟩=some (.int .i64 y.kk)∧w'.cell? ⟨g,off+m*7+1,none⟩=some (.int .i64 y.num)∧w'.cell? ⟨g,off+m*7+2,none⟩=some (.int .i64 y.level)∧w'.cell? ⟨g,off+m*7+3,none⟩=some (.slice y.elems.A y.elems.n y.elems.c)∧w'.cell? ⟨g,off+m*7+4,none⟩=some (.slice y.holes.A y.holes.n y.holes.c)∧w'.cell? ⟨g,off+m*7+5,none⟩=some (.slice y.aparts.A y.aparts.n y.aparts.c)∧w'.cell? ⟨g,off+m*7+6,none⟩=some (.slice y.news.A y.news.n y.news.c)∧w'.cell? ⟨w.heap.size,0,none⟩=some (.int .i64 x.kk)∧w'.cell? ⟨w.heap.size,1,none⟩=some (.int .i64 x.num)∧w'.cell? ⟨w.heap.size,2,none⟩=some (.int .i64 x.level)∧w'.cell? ⟨w.heap.size,3,none⟩=some (.slice x.elems.A x.elems.n x.elems.c)∧w'.cell? ⟨w.heap.size,4,none⟩=some (.slice x.holes.A x.holes.n x.holes.c)∧w'.cell? ⟨w.heap.size,5,none⟩=some (.slice x.aparts.A x.aparts.n x.aparts.c)∧w'.cell? ⟨w.heap.size,6,none⟩=some (.slice x.news.A x.news.n x.news.c))
     (first|go_keep|(refine ⟨?_,?_,?_,?_,?_,?_,?_,?_,?_,?_,?_,?_,?_,?_,?_⟩<;>exact (hb1.cell (by simpa using by assumption)).trans (by simp [*])))
     ((go_at_call 268;refine (Zlq y x _).mono ?_;rintro e w1 ⟨rfl,hb1⟩))
    have HB1:Below W0.heap.size W0 w1:=HB.out.drew.trans (hb1.mono hsw);clear r0 q0 q1 q2 q3 q4 q5 q6 y0 y1 y2 y3 y4 y5 y6 N M;by_cases hc:Z19 y x=0
    · have HC:=hid hc
      (have t1:(Z19 y x == 0)=true:=by simp [hc]);clear hc;(go_wp2_with fail);go_ret2;have e:=HC.out;rw [HY.out] at e;refine ⟨?_,HB0.out.trans (HB1.mono (by omega))⟩;rw [Z5b Z63 HS.out hml e,(Z5t Z63 HS.out hml e).2.2.1];rfl
    · have t1:(Z19 y x == 0)=false:=by simp [hc]
      by_cases hc2:Z19 y x<0
      · have HC:=hid hc2
        (have t2:decide (Z19 y x<0)=true:=by simpa using hc2);clear hc hc2;(go_wp2_with fail);go_roundw
        case rel=>
         refine ⟨m+1,j,by go_num,rfl,by omega,hj,fun k h1 h2=>?_,HHI.out,HB1⟩;have e:=HC.out;rw [HY.out] at e;rcases Nat.lt_or_ge k m with h3|h3
         · exact Z63.lt_of_lt_of_le (HS.out.lt h3 hml) (by omega)
         · obtain rfl:k=m:=by omega
           exact e
        case measure=>simp [intOf];omega
      · have t2:decide (Z19 y x<0)=false:=by simpa using hc2
        (have hc3:0<Z19 y x:=by omega);have HC:=hid hc3;clear hc hc2 hc3;(go_wp2_with fail);go_roundw
        case rel=>
         refine ⟨i,m,rfl,rfl,by omega,by omega,HLO.out,fun k h1 h2=>?_,HB1⟩;have e:=HC.out;rw [HY.out] at e;rcases Nat.lt_or_ge m k with h3|h3
         · exact (Z63.symm _ _).1 (Z63.lt_trans ((Z63.symm _ _).2 e) (HS.out.lt h3 h1))
         · obtain rfl:k=m:=by omega
           exact e
        case measure=>simp [intOf];omega
  · obtain rfl:i=j:=by omega
    have HB:=hid hB;clear hB;(go_wp2_with fail);go_ret2;refine ⟨?_,HB0.out.trans (HB.out.mono (by omega))⟩;rw [Z5a hj HLO.out HHI.out,(Z6m HLO.out HHI.out).2.2];rfl
end
section
open Go.RowKit Go.Shelf
attribute [local go_sem] Oper.semAt_some
def Zc2 (x:PgR):Array Value:=#[.agg #[.int .i64 x.kk,.int .i64 x.num,.int .i64 x.level,.slice x.elems.A x.elems.n x.elems.c,.slice x.holes.A x.holes.n x.holes.c,.slice x.aparts.A x.aparts.n x.aparts.c,.slice x.news.A x.news.n x.news.c]]
theorem Zjp (lo b c k:Nat) (sn:Bool) (A:Option Addr) (l:List PgR) (W:World) (hS:Z2q W b sn A c l) (hk:k≤l.length) (J Jx:List PgR→World→Prop)
 (h0:J [] (W.setCell ⟨b,1,none⟩ (.bool true))) (hY:Zl9 lo Zc2 (l.drop k) (Z10 A) J Jx) :
 CallsIn Fence.wide 0 Tryz.prog 186 #[.pointer (some ⟨b,0,none⟩),.int .i64 k,.func (.yield lo) #[] #[]] W (Told (l.drop k) J Jx):=by
 have s0:=hS.cell0;have s1:=hS.cell1;have f1:=hS.blk.frozen 1;have hne:=Z02 hS.row hS.blk (by decide);have hrd:Z0z (W.setCell ⟨b,1,none⟩ (.bool true)) 7 PgR.cells A c l:=Z0d PgR.cells_length (ownsRow_setCell_other hS.row hne _);(have hlm:(l.length:Int)≤9223372036854775807:=by have:=hrd.cap;omega);have HRD:=hid hrd;have H0:=hid h0;have HY:=hid hY;clear hS hrd h0 hY hne;refine callsIn_of_wp Tryz.func186 rfl trivial ?_;simp only [Tryz.ntmps186,Zoy,Zo4,Zon,Nat.reduceAdd,Nat.reduceSub,Zos,Zot,Zox,Zov,Zo3,Zog];gi_wp2
 gi_loopw [7] (fun s wr=>∃pre post,s = .int .i64 ((k+pre.length:Nat):Int)∧l.drop k=pre++post∧J pre wr∧Z0z wr 7 PgR.cells A c l) (fun s wr=>l.length - (intOf s).toNat)
 case atStart=>exact ⟨[],l.drop k,by simp,by simp,H0.out,HRD.out⟩
 case round=>
  obtain ⟨pre,post,rfl,hx,hJ,hrd⟩:=hrel;(have hlen:k+pre.length+post.length=l.length:=by have:=congrArg List.length hx;simp at this;omega);have HX:=hid hx;have HJ:=hid hJ;have HR:=hid hrd;clear hx hJ hrd
  cases post with
  | nil=>
    (have e1:((k+pre.length:Nat):Int)=(l.length:Int):=by simp at hlen;omega);rw [e1];clear hlen e1;gi_wp2;go_end0;exact ⟨⟨_,rfl⟩,.inl (by have:=HX.out;rw [Zof] at this;rw [this];exact HJ.out)⟩
  | cons x post=>
    obtain ⟨m,hm⟩:∃m,m=k+pre.length:=⟨_,rfl⟩;have hml:m<l.length:=by simp at hlen;omega
    have hget:l[m]=x:=by
     apply Zp5;rw [←Znq,hm,←List.getElem?_drop,HX.out];simp
    obtain ⟨g,off,rfl,hgs,hcell⟩:=HR.out.at_ hml;rw [hget] at hcell;(have q0:wr.cell? ⟨g,off+m*7,none⟩=some (.int .i64 x.kk):=by simpa using hcell 0 _ rfl);(have q1:wr.cell? ⟨g,off+m*7+1,none⟩=some (.int .i64 x.num):=by simpa using hcell 1 _ rfl);(have q2:wr.cell? ⟨g,off+m*7+2,none⟩=some (.int .i64 x.level):=by simpa using hcell 2 _ rfl);(have q3:wr.cell? ⟨g,off+m*7+3,none⟩=some (.slice x.elems.A x.elems.n x.elems.c):=by simpa using hcell 3 _ rfl);(have q4:wr.cell? ⟨g,off+m*7+4,none⟩=some (.slice x.holes.A x.holes.n x.holes.c):=by simpa using hcell 4 _ rfl);(have q5:wr.cell? ⟨g,off+m*7+5,none⟩=some (.slice x.aparts.A x.aparts.n x.aparts.c):=by simpa using hcell 5 _ rfl);(have q6:wr.cell? ⟨g,off+m*7+6,none⟩=some (.slice x.news.A x.news.n x.news.c):=by simpa using hcell 6 _ rfl);(have b1:(0:Int)≤(m:Int):=by omega);(have b2:(m:Int)<(l.length:Int):=by omega);rw [←hm];have HM:=hid hm;clear hcell hget hlen hm;obtain ⟨fn,tmps,assign,body,hy,hR⟩:=HY.out pre x post wr HX.out HJ.out;dsimp only [Zc2] at hy;have HRR:=hid hR;clear hR;(gi_wp2_with fail);refine ⟨rfl,HRR.out.mono ?_⟩;rintro e W3 (⟨rfl,hJ3,hk3⟩|⟨rfl,hJx3⟩)
    · have HJ3:=hid hJ3
      have HK3:=hid hk3;clear hJ3 hk3 hy q0 q1 q2 q3 q4 q5 q6;gi_wp2;go_roundw
      case rel=>exact ⟨pre ++ [x],post,by rw [HM.out,Znp,List.length_singleton];go_num,by rw [HX.out];simp,HJ3.out,HK3.out.rd HR.out⟩
      case measure=>simp [intOf]<;>omega
    · have HJ3:=hid hJx3
      clear hJx3 hy q0 q1 q2 q3 q4 q5 q6;gi_wp2;refine bodyPost_ret (results_none rfl _ _ _) rfl ?_;exact ⟨⟨_,rfl⟩,.inr ⟨pre ++ [x],post,by rw [HX.out];simp,HJ3.out⟩⟩
theorem Zlm (kb b c:Nat) (sn:Bool) (A:Option Addr) (l:List PgR) (W:World) (hbox:W.cell? ⟨kb,0,none⟩=some (.pointer (some ⟨b,0,none⟩))) (hS:Z2q W b sn A c l) :
 Iter Tryz.prog 185 #[.pointer (some ⟨kb,0,none⟩)] Zc2 l W (Z1k b) (Z10 A):=by
 intro lo J Jx _ _ h0 hY;have H0:=hid (h0 (W.setCell ⟨b,1,none⟩ (.bool true)) ⟨W,Znk _ _,rfl⟩);have HY:=hid hY;have HS:=hid hS;clear h0 hY hS;refine callsIn_of_wp Tryz.func185 rfl trivial ?_;simp only [Tryz.ntmps185,Zoy,Zo4,Zon,Nat.reduceAdd,Nat.reduceSub,Zos,Zot,Zox,Zov,Zo3,Zog];(gi_wp2_with fail);have hz:((0:Nat):Int)=0:=rfl;refine ⟨trivial,rfl,?_⟩;refine (Zjp lo b c 0 sn A l W HS.out (Nat.zero_le _) J Jx H0.out (by rw [List.drop_zero];exact HY.out)).mono ?_;rintro e W3 ⟨⟨v,rfl⟩,h⟩;rw [List.drop_zero] at h;have H:=hid h;clear h;gi_wp2;go_end0;exact ⟨⟨_,rfl⟩,H.out⟩
end
section
open Go.RowKit
theorem Zex:(Tryz.prog.info? 226).map (fun i=>(i.zero,i.size,i.bytes))=some (some (.agg #[.int .i64 0,.int .i64 0,.int .i64 0,.slice none 0 0,.slice none 0 0,.slice none 0 0,.slice none 0 0]),7,120):=by kernel_rfl
theorem PgR.one (x:PgR):∀u∈PgR.cells x,u.oneCell'=true:=by intro u hu;simp [PgR.cells] at hu;rcases hu with rfl|rfl|rfl|rfl|rfl|rfl|rfl<;>rfl
theorem PgR.oneAll (l:List PgR):∀u∈l.flatMap PgR.cells,u.oneCell'=true:=by intro u hu;obtain ⟨x,_,hx⟩:=List.mem_flatMap.1 hu;exact PgR.one x u hx
def Z7i (w:World) (b:Nat) (sn:Bool) (A:Option Addr) (l:List PgR) (e:Ending) (w':World):Prop:=
 e = .returned (.tuple #[])∧∃A' c',Z2q w' b false A' c' l∧Fr (· = b) w w'∧Z32 w sn A false A'
theorem Zgi (b c:Nat) (A:Option Addr) (l:List PgR) (w:World) (hS:Z2q w b false A c l) :
 Calls Tryz.prog 184 #[.pointer (some ⟨b,0,none⟩)] w (Z7i w b false A l):=by
 have h1:=hS.cell1;have HS:=hid hS;clear hS;go_enter Tryz.func184,Tryz.ntmps184;go_wp2;go_end0;exact ⟨rfl,A,c,HS.out,Fr.refl _ _,.inl ⟨rfl,rfl⟩⟩
theorem Ze2 (b c:Nat) (A:Option Addr) (l:List PgR) (w:World) (hS:Z2q w b true A c l) (hl:(l.length:Int)≤1000000000) :
 Calls Tryz.prog 184 #[.pointer (some ⟨b,0,none⟩)] w (Z7i w b true A l):=by
 obtain ⟨i0,hi,hz0,hz1,hz2⟩:=info_parts Zex;have h0:=hS.cell0;have h1:=hS.cell1;have hb:=hS.lt;have f0:=hS.blk.frozen 0;have f1:=hS.blk.frozen 1;have hrd:=hS.rd PgR.cells_length;have HB:=hid hS.blk;have HRD:=hid hrd;clear hS hrd;have e1:IntKind.i64.wrap ((l.length:Int)+1)=(l.length:Int)+1:=Znu _ (by omega)
 have hmk :∀W:World,(Instr.makeSlice 274 (.int .i64 0) (.int .i64 ((l.length:Int)+1))).run Tryz.prog W = .ok (.slice (some ⟨W.heap.size,0,none⟩) 0 (l.length+1)) (W.alloc (.cells (madeCells (Value.cells (.agg #[.int .i64 0,.int .i64 0,.int .i64 0,.slice none 0 0,.slice none 0 0,.slice none 0 0,.slice none 0 0])) ((l.length+1)*7)) 226)):=fun W=>by
  have h:=run_make (P:=Tryz.prog) W 274 226 i0 _ Tryz.underlying274 hi hz0 .i64 .i64 0 ((l.length:Int)+1) (by omega) (by omega) (by rw [hz2];omega) (by omega);rw [hz1] at h;simpa [show ((l.length:Int)+1).toNat=l.length+1 by omega] using h
 go_enter Tryz.func184,Tryz.ntmps184;(go_wp2_with fail);refine Z0c (fun w9=>Below w.heap.size w w9) [(0,0),(1,0),(2,0),(3,0),(4,1),(5,0),(6,0),(8,0),(9,0),(10,0),(11,1),(7,2),(12,2),(13,0),(14,0),(15,2)] (by kernel_rfl) (by kernel_rfl) (fun KK hKK=>?_);simp only [Z0w,Znz,Znt,Znv,Znr,Zns,Zo1];(repeat ((first|(refine Z0m ?_ (Or.inl ⟨by rfl,fun w9=>?_⟩) ?_;rotate_left 1;go_simp;with_reducible rfl)|(refine Z0k ?_ (((Znk _ _).drew)) (Or.inl ⟨by rfl,fun w9 hw9=>?_⟩) ?_;rotate_left 1;obtain ⟨hc9,hf9⟩:=Z1e hw9;go_simp;with_reducible rfl)|refine Z0m undef (Or.inr ⟨by rfl,rfl⟩) ?_|refine Z0k undef (((Znk _ _).drew)) (Or.inr ⟨by rfl,rfl⟩) ?_);go_frame));refine Z2j (fun K9 hK9=>?_);go_simp;refine hK9 _ _ (((Znk _ _).drew).alloc (Znl _) _) ?_;clear hK9 K9;refine Z1y (by kernel_rfl) (fun K9 hK9=>?_)
 refine Z0f _ (by rfl) _ _ _ (by rfl) 226 i0 _ 7 120 Tryz.underlying274 hi hz0 hz1 hz2 rfl (by omega) _ 0 [] (by rfl) (World.ownsRow_made _ _ _ (Nat.zero_le _) (by unfold maxLen;omega) (by simp [madeCells])) A l.length c (l.flatMap PgR.cells) (by rfl) (Z08 PgR.cells_length l)
  ((HRD.out.drew.alloc _).news PgR.cells_length (by omega)) (PgR.oneAll l) (by unfold maxLen;omega) (by omega) ?_
 intro v2 w2 hown hgr hnil hat;refine hK9 _ _ ?_;clear hK9 K9;rw [Zoa,Zo3] at hown;obtain ⟨A',c',rfl,_,_,hz⟩:=Z0v hown;have HB1:=(HB.out.drew.alloc (.cells (madeCells (Value.cells (.agg #[.int .i64 0,.int .i64 0,.int .i64 0,.slice none 0 0,.slice none 0 0,.slice none 0 0,.slice none 0 0])) ((l.length+1)*7)) 226)).grown hgr (by simp [Value.ownBlock];omega);have c0:=(HB1.cell 0).trans rfl;have c1:=(HB1.cell 1).trans rfl;have z0:=HB1.frozen 0;have z1:=HB1.frozen 1;have HB2:=hid HB1;clear HB1;(repeat ((first|(refine Z0m ?_ (Or.inl ⟨by rfl,fun w9=>?_⟩) ?_;rotate_left 1;go_simp;with_reducible rfl)|(refine Z0k ?_ (((Znk _ _).drew).alloc (Znl _) _) (Or.inl ⟨by rfl,fun w9 hw9=>?_⟩) ?_;rotate_left 1;obtain ⟨hc9,hf9⟩:=Z1e hw9;go_simp;with_reducible rfl)|refine Z0m undef (Or.inr ⟨by rfl,rfl⟩) ?_|refine Z0k undef (((Znk _ _).drew).alloc (Znl _) _) (Or.inr ⟨by rfl,rfl⟩) ?_);go_frame));refine Z1y (by kernel_rfl) (fun K9 hK9=>?_);go_simp;refine hK9 _ _ ?_;clear hK9 K9;refine Z16 ?_;simp only [Z04];refine hKK _ _ ?_;clear hKK KK;go_wp2;go_end0
 have hb2:(Value.slice A' l.length c').ownBlock=some w.heap.size∨(Value.slice A' l.length c').ownBlock=some (w.heap.size+1):=by
  rcases hat with h|h
  · left;rw [h];rfl
  · right;rw [h];simp
 have hA :∃g,w.heap.size≤g∧A'=some ⟨g,0,none⟩:=by
  rcases A' with _|a
  · exfalso;simp [Value.ownBlock] at hb2
  · obtain ⟨g,rfl⟩:=hz a rfl
    refine ⟨g,?_,rfl⟩;simp [Value.ownBlock] at hb2;omega
 obtain ⟨g,hg,rfl⟩:=hA;have HB1:=HB2.out;have HF:Fr (· = b) w w2:=((Fr.refl (· = b) w).drew.alloc _).grown hgr (fun k e=>by simp [Value.ownBlock] at e;right;omega);refine ⟨rfl,some ⟨g,0,none⟩,c',⟨(HB1.set_ 0 _).set_ 1 _,?_⟩,(HF.setCell (p:=⟨b,0,none⟩) (.inl rfl) _).setCell (p:=⟨b,1,none⟩) (.inl rfl) _,.inr ⟨rfl,g,hg,rfl⟩⟩;(have hne:(Value.slice (some ⟨g,0,none⟩) l.length c').ownBlock≠some b:=by simp [Value.ownBlock];omega);exact ownsRow_setCell_other (a:=⟨b,1,none⟩) (ownsRow_setCell_other (a:=⟨b,0,none⟩) hown hne _) hne _
theorem Zmd (b c:Nat) (sn:Bool) (A:Option Addr) (l:List PgR) (w:World) (hS:Z2q w b sn A c l) (hl:(l.length:Int)≤1000000000) :
 Calls Tryz.prog 184 #[.pointer (some ⟨b,0,none⟩)] w (Z7i w b sn A l):=by
 cases sn
 · exact Zgi b c A l w hS
 · exact Ze2 b c A l w hS hl
end
section
open Go.RowKit Go.Shelf
attribute [local go_sem] Oper.semAt_some
theorem Zi4 (b:Nat) (w:World) :
 Calls Tryz.prog 155 #[.pointer (some ⟨b,0,none⟩)] w fun e w'=>e = .returned (.func (.func 185) #[] #[.pointer (some ⟨w.heap.size,0,none⟩)])∧Below w.heap.size w w'∧w'.cell? ⟨w.heap.size,0,none⟩=some (.pointer (some ⟨b,0,none⟩)):=by
 go_enter Tryz.func155,Tryz.ntmps155;go_wp2;go_ret;exact ⟨rfl,(Znk _ _).alloc (Znl _) _,by go_simp⟩
theorem Zec (kb b c:Nat) (sn:Bool) (A:Option Addr) (l:List PgR) (w:World) (hbox:w.cell? ⟨kb,0,none⟩=some (.pointer (some ⟨b,0,none⟩))) (hS:Z2q w b sn A c l) :
 Seq 185 #[.pointer (some ⟨kb,0,none⟩)] Zc2 l w (Z1k b) (Z10 A):=
 ⟨by intro args w;kernel_rfl,fun W hW=>(Zlm kb b c sn A l W ((hW.cell (Znx _ _ hbox)).trans hbox) (hS.new_ hW)).weak (fun _ _ h=>h.1),fun _ _ _=>Z10.trans,fun _ _=>Z10.of_priv hS.row_lt,fun _ _=>Z10.of_below hS.row_lt,fun _ _ h=>h.fr.mono (fun k _ hk=>by subst hk;exact hS.lt)⟩
end
section
open Go.RowKit Go.Shelf
structure SeqP {α:Type}(gf:Nat) (lb:Array Value) (encs:α→Array Value) (xs:List α) (w:World) (start Kp:World→World→Prop):Prop where
 enter :∀args w,(callFunc gf args).run Tryz.prog w = .ok (.enter gf args) w
 iter :∀W,Below w.heap.size w W→Zgt Tryz.prog gf lb encs xs W start Kp
 trans :∀A B C,Kp A B→Kp B C→Kp A C
 keep :∀A B,Priv w.heap.size A B→Kp A B
 below :∀A B,Below w.heap.size A B→Kp A B
 mods :∀W W1,start W W1→Fr (· < w.heap.size) W W1
theorem Seq.p {α:Type}{gf:Nat}{lb:Array Value}{encs:α→Array Value}{xs:List α}{w:World}{start Kp:World→World→Prop}(h:Seq gf lb encs xs w start Kp):SeqP gf lb encs xs w start Kp:=
 ⟨h.enter,fun W hW=>(h.iter W hW).p,h.trans,h.keep,h.below,h.mods⟩
end
section
open Go.RowKit
def Z7l (w:World) (b:Nat) (sn:Bool) (A:Option Addr) (l:List PgR) (x:PgR) (e:Ending) (w':World):Prop:=
 e = .returned (.bool (!has Z19 l x))∧∃sn' A' c',Z2q w' b sn' A' c' (put Z19 l x)∧Fr (Z1f b sn A) w w'∧Z32 w sn A sn' A'
theorem Zbf (b c:Nat) (sn:Bool) (A:Option Addr) (l:List PgR) (x:PgR) (w:World) (hS:Z2q w b sn A c l) (hs:Srt Z19 l) (hl:(l.length:Int)≤100000000) (hh:has Z19 l x=true) :
 Calls Tryz.prog 150 #[.pointer (some ⟨b,0,none⟩),.agg #[.int .i64 x.kk,.int .i64 x.num,.int .i64 x.level,.slice x.elems.A x.elems.n x.elems.c,.slice x.holes.A x.holes.n x.holes.c,.slice x.aparts.A x.aparts.n x.aparts.c,.slice x.news.A x.news.n x.news.c]] w (Z7l w b sn A l x):=by
 have HS:=hid hS;have HO:=hid hs;clear hS hs;go_enter Tryz.func150,Tryz.ntmps150;(go_wp2_with fail);refine (Zaw b c sn A l x _ (HS.out.new_ ((Znk _ _).alloc (Znl _) _)) HO.out (by omega)).mono ?_;rintro e w1 ⟨rfl,hb1⟩;(go_wp2_with fail);go_ret;refine ⟨by rw [hh];rfl,sn,A,c,?_,Fr.of_new (((Znk _ _).alloc (Znl _) _).trans (hb1.mono (by simp))),.inl ⟨rfl,rfl⟩⟩;rw [Z4z hh];exact HS.out.new_ (((Znk _ _).alloc (Znl _) _).trans (hb1.mono (by simp)))
theorem Ze7 (b c:Nat) (sn:Bool) (A:Option Addr) (l:List PgR) (x:PgR) (w:World) (hS:Z2q w b sn A c l) (hs:Srt Z19 l) (hl:(l.length:Int)≤100000000) (hh:has Z19 l x=false) :
 Calls Tryz.prog 150 #[.pointer (some ⟨b,0,none⟩),.agg #[.int .i64 x.kk,.int .i64 x.num,.int .i64 x.level,.slice x.elems.A x.elems.n x.elems.c,.slice x.holes.A x.holes.n x.holes.c,.slice x.aparts.A x.aparts.n x.aparts.c,.slice x.news.A x.news.n x.news.c]] w (Z7l w b sn A l x):=by
 obtain ⟨i0,hi,hz0,hz1,hz2⟩:=info_parts Zex;have HS:=hid hS;have HO:=hid hs;have hb:=hS.lt;clear hS hs;have hrk:=Z6p (cmp:=Z19) l x;go_enter Tryz.func150,Tryz.ntmps150;(go_wp2_with fail);have hSa:=HS.out.new_ ((Znk w.heap.size w).alloc (Znl _) (.cells #[.int .i64 x.kk,.int .i64 x.num,.int .i64 x.level,.slice x.elems.A x.elems.n x.elems.c,.slice x.holes.A x.holes.n x.holes.c,.slice x.aparts.A x.aparts.n x.aparts.c,.slice x.news.A x.news.n x.news.c] 226));have HSa:=hid hSa;clear hSa;refine (Zaw b c sn A l x _ HSa.out HO.out (by omega)).mono ?_;rintro e w1 ⟨rfl,hb1⟩;have HS1:=hid (HSa.out.new_ hb1);(have hsz1:w.heap.size+1≤w1.heap.size:=by have:=hb1.size;(try simp at this);omega);have y0:=(hb1.cell (p:=⟨w.heap.size,0,none⟩) (by simp)).trans ((Blk.new w 226 #[.int .i64 x.kk,.int .i64 x.num,.int .i64 x.level,.slice x.elems.A x.elems.n x.elems.c,.slice x.holes.A x.holes.n x.holes.c,.slice x.aparts.A x.aparts.n x.aparts.c,.slice x.news.A x.news.n x.news.c]).cell 0);have y1:=(hb1.cell (p:=⟨w.heap.size,1,none⟩) (by simp)).trans ((Blk.new w 226 #[.int .i64 x.kk,.int .i64 x.num,.int .i64 x.level,.slice x.elems.A x.elems.n x.elems.c,.slice x.holes.A x.holes.n x.holes.c,.slice x.aparts.A x.aparts.n x.aparts.c,.slice x.news.A x.news.n x.news.c]).cell 1);have y2:=(hb1.cell (p:=⟨w.heap.size,2,none⟩) (by simp)).trans ((Blk.new w 226 #[.int .i64 x.kk,.int .i64 x.num,.int .i64 x.level,.slice x.elems.A x.elems.n x.elems.c,.slice x.holes.A x.holes.n x.holes.c,.slice x.aparts.A x.aparts.n x.aparts.c,.slice x.news.A x.news.n x.news.c]).cell 2);have y3:=(hb1.cell (p:=⟨w.heap.size,3,none⟩) (by simp)).trans ((Blk.new w 226 #[.int .i64 x.kk,.int .i64 x.num,.int .i64 x.level,.slice x.elems.A x.elems.n x.elems.c,.slice x.holes.A x.holes.n x.holes.c,.slice x.aparts.A x.aparts.n x.aparts.c,.slice x.news.A x.news.n x.news.c]).cell 3);have y4:=(hb1.cell (p:=⟨w.heap.size,4,none⟩) (by simp)).trans ((Blk.new w 226 #[.int .i64 x.kk,.int .i64 x.num,.int .i64 x.level,.slice x.elems.A x.elems.n x.elems.c,.slice x.holes.A x.holes.n x.holes.c,.slice x.aparts.A x.aparts.n x.aparts.c,.slice x.news.A x.news.n x.news.c]).cell 4);have y5:=(hb1.cell (p:=⟨w.heap.size,5,none⟩) (by simp)).trans ((Blk.new w 226 #[.int .i64 x.kk,.int .i64 x.num,.int .i64 x.level,.slice x.elems.A x.elems.n x.elems.c,.slice x.holes.A x.holes.n x.holes.c,.slice x.aparts.A x.aparts.n x.aparts.c,.slice x.news.A x.news.n x.news.c]).cell 5);have y6:=(hb1.cell (p:=⟨w.heap.size,6,none⟩) (by simp)).trans ((Blk.new w 226 #[.int .i64 x.kk,.int .i64 x.num,.int .i64 x.level,.slice x.elems.A x.elems.n x.elems.c,.slice x.holes.A x.holes.n x.holes.c,.slice x.aparts.A x.aparts.n x.aparts.c,.slice x.news.A x.news.n x.news.c]).cell 6);have HB1:=hid hb1;clear hb1;(go_wp2_with fail);refine (Zmd b c sn A l _ HS1.out (by omega)).mono ?_;rintro e w2 ⟨rfl,A1,c1,hS2,hF2,hM2⟩;have hsz2:w1.heap.size≤w2.heap.size:=hF2.size;have x0:w2.cell? ⟨w.heap.size,0,none⟩=some (.int .i64 x.kk):=(hF2.cell (p:=⟨w.heap.size,0,none⟩) (by dsimp only;omega) (by dsimp only;omega)).trans y0;have x1:w2.cell? ⟨w.heap.size,1,none⟩=some (.int .i64 x.num):=(hF2.cell (p:=⟨w.heap.size,1,none⟩) (by dsimp only;omega) (by dsimp only;omega)).trans y1;have x2:w2.cell? ⟨w.heap.size,2,none⟩=some (.int .i64 x.level):=(hF2.cell (p:=⟨w.heap.size,2,none⟩) (by dsimp only;omega) (by dsimp only;omega)).trans y2;have x3:w2.cell? ⟨w.heap.size,3,none⟩=some (.slice x.elems.A x.elems.n x.elems.c):=(hF2.cell (p:=⟨w.heap.size,3,none⟩) (by dsimp only;omega) (by dsimp only;omega)).trans y3;have x4:w2.cell? ⟨w.heap.size,4,none⟩=some (.slice x.holes.A x.holes.n x.holes.c):=(hF2.cell (p:=⟨w.heap.size,4,none⟩) (by dsimp only;omega) (by dsimp only;omega)).trans y4;have x5:w2.cell? ⟨w.heap.size,5,none⟩=some (.slice x.aparts.A x.aparts.n x.aparts.c):=(hF2.cell (p:=⟨w.heap.size,5,none⟩) (by dsimp only;omega) (by dsimp only;omega)).trans y5;have x6:w2.cell? ⟨w.heap.size,6,none⟩=some (.slice x.news.A x.news.n x.news.c):=(hF2.cell (p:=⟨w.heap.size,6,none⟩) (by dsimp only;omega) (by dsimp only;omega)).trans y6;have s0:=hS2.cell0;have f0:=hS2.blk.frozen 0;(have hb2:b<w2.heap.size:=by omega);(have hk2:w.heap.size<w2.heap.size:=by omega);have HS2:=hid hS2;have HF2:=hid hF2
 have HM2:=hid hM2;clear hS2 hF2 hM2 y0 y1 y2 y3 y4 y5 y6;(go_wp2_with fail);refine Z0c (fun w9=>Below w2.heap.size w2 w9) [(0,0),(1,0),(2,0),(3,0),(4,1),(5,1),(6,2),(7,2),(8,0),(9,0),(10,2)] (by kernel_rfl) (by kernel_rfl) (fun KK hKK=>?_);simp only [Z0w,Znz,Znt,Znv,Znr,Zns,Zo1];(repeat ((first|(refine Z0m ?_ (Or.inl ⟨by rfl,fun w9=>?_⟩) ?_;rotate_left 1;go_simp;with_reducible rfl)|(refine Z0k ?_ (((Znk _ _).drew)) (Or.inl ⟨by rfl,fun w9 hw9=>?_⟩) ?_;rotate_left 1;obtain ⟨hc9,hf9⟩:=Z1e hw9;go_simp;with_reducible rfl)|refine Z0m undef (Or.inr ⟨by rfl,rfl⟩) ?_|refine Z0k undef (((Znk _ _).drew)) (Or.inr ⟨by rfl,rfl⟩) ?_);go_frame));refine Z2j (fun K9 hK9=>?_);go_simp;refine hK9 _ _ (((Znk _ _).drew).alloc (Znl _) _) ?_;clear hK9 K9;refine Z1y (by kernel_rfl) (fun K9 hK9=>?_)
 refine Z0f _ (by rfl) _ _ _ (by rfl) 226 i0 _ 7 120 Tryz.underlying274 hi hz0 hz1 hz2 rfl (by omega) _ l.length (l.flatMap PgR.cells) (by rfl) (Z05 HS2.out.row (((Znk _ _).drew).alloc (Znl _) _)) (some ⟨w2.heap.size,0,none⟩) 1 1 (PgR.cells x) (by rfl) (by rfl)
  (fun _=>⟨_,rfl,Zo7 (heap_alloc_new _ _)⟩) (PgR.one x) (by unfold maxLen;omega) (by omega) ?_
 intro v2 w3 hown hgr hnil hat;refine hK9 _ _ ?_;clear hK9 K9
 obtain ⟨g,c2,rfl⟩:∃g c2,v2 = .slice (some ⟨g,0,none⟩) (l.length+1) c2:=by
  rcases Z0h hown with ⟨_,h0,_⟩|⟨g,c2,h,_⟩
  · omega
  · exact ⟨g,c2,h⟩
 have HXN:(Value.slice A1 l.length c1).ownBlock≠some w.heap.size:=by
  intro h;rcases HM2.out with ⟨hsn,hA⟩|⟨_,g2,hg2,hA⟩
  · rcases A1 with _|a1
    · cases h
    · have h1:=HS.out.row_lt _ hA.symm
      simp only [Value.ownBlock,Option.some.injEq] at h;omega
  · subst hA
    simp only [Value.ownBlock,Option.some.injEq] at h;omega
 have HB3':=(HS2.out.blk.drew.alloc (.cells #[.int .i64 x.kk,.int .i64 x.num,.int .i64 x.level,.slice x.elems.A x.elems.n x.elems.c,.slice x.holes.A x.holes.n x.holes.c,.slice x.aparts.A x.aparts.n x.aparts.c,.slice x.news.A x.news.n x.news.c] 226)).grown hgr (Z02 HS2.out.row HS2.out.blk (by decide));have c0:=(HB3'.cell 0).trans rfl;have z0:=HB3'.frozen 0;have HB3:=hid HB3';have HOWN:=hid hown;have HGR:=hid hgr;clear HB3' hown hgr;(repeat ((first|(refine Z0m ?_ (Or.inl ⟨by rfl,fun w9=>?_⟩) ?_;rotate_left 1;go_simp;with_reducible rfl)|(refine Z0k ?_ (((Znk _ _).drew).alloc (Znl _) _) (Or.inl ⟨by rfl,fun w9 hw9=>?_⟩) ?_;rotate_left 1;obtain ⟨hc9,hf9⟩:=Z1e hw9;go_simp;with_reducible rfl)|refine Z0m undef (Or.inr ⟨by rfl,rfl⟩) ?_|refine Z0k undef (((Znk _ _).drew).alloc (Znl _) _) (Or.inr ⟨by rfl,rfl⟩) ?_);go_frame));refine Z1y (by kernel_rfl) (fun K9 hK9=>?_);go_simp;refine hK9 _ _ ?_;clear hK9 K9;refine Z16 ?_;simp only [Z04];refine hKK _ _ ?_;clear hKK KK;have hlg:((l.length+1:Nat):Int)=(l.length:Int)+1:=by omega
 have hG:(Z1f b sn A g∨w.heap.size≤g)∧Z32 w sn A false (some ⟨g,0,none⟩)∧g≠w.heap.size∧g≠b:=by
  rcases hat with h|h
  · rcases A1 with _|a1
    · simp [Value.ownBlock] at h
    · obtain ⟨A',c',hv,_,_,hz⟩:=Z0v HS2.out.row
      injection hv with hv _ _;obtain ⟨g',rfl⟩:=hz a1 hv.symm;(have hgg:g'=g:=by simpa [Value.ownBlock] using h.symm);subst hgg;have hne:g'≠b:=HS2.out.row_ne (by decide) _ rfl;rcases HM2.out with ⟨hsn,hA⟩|⟨_,g2,hg2,hA⟩
      · have h1:=HS.out.row_lt _ hA.symm
        exact ⟨.inl (.inr ⟨hsn.symm,_,hA.symm,rfl⟩),.inl ⟨hsn,hA⟩,by dsimp only at h1;omega,hne⟩
      · injection hA with hA
        injection hA with hA;subst hA;exact ⟨.inr (by omega),.inr ⟨rfl,_,by omega,rfl⟩,by omega,hne⟩
  · have hgg:g=w2.heap.size+1:=by simpa [Value.ownBlock] using h
    subst hgg;exact ⟨.inr (by omega),.inr ⟨rfl,_,by omega,rfl⟩,by omega,by omega⟩
 obtain ⟨hgM,hgMv,hgk1,hgb⟩:=hG;obtain ⟨w4,hw4⟩:∃w4,w4=w3.setCell ⟨b,0,none⟩ (.slice (some ⟨g,0,none⟩) (l.length+1) c2):=⟨_,rfl⟩;have hB4:Blk w4 b 276 #[.slice (some ⟨g,0,none⟩) (l.length+1) c2,.bool false]:=by rw [hw4];exact HB3.out.set_ 0 _
 have hR4:w4.ownsRow 0 226 7 (.slice (some ⟨g,0,none⟩) (l.length+1) c2) (l.length+1) ((Z0s l x l.length).flatMap PgR.cells):=by
  rw [hw4,Z2y];refine ownsRow_setCell_other (a:=⟨b,0,none⟩) ?_ (by simpa [Value.ownBlock] using hgb) _;rw [Zny,List.flatMap_singleton];exact HOWN.out
 have hF4:Fr (Z1f b sn A) w w4:=by
  rw [hw4];have h1:Fr (Z1f b sn A) w w1:=Fr.of_new (((Znk _ _).alloc (Znl _) _).trans (HB1.out.mono (by simp)));have h2:Fr (Z1f b sn A) w w2:=h1.trans (HF2.out.mono (fun k _ h=>.inl h));refine ((h2.drew.alloc _).grown HGR.out (fun k hk=>?_)).setCell (p:=⟨b,0,none⟩) (.inl (.inl rfl)) _;rcases A1 with _|a1
  · cases hk
  · simp only [Value.ownBlock,Option.some.injEq] at hk
    subst hk;rcases HM2.out with ⟨hsn,hA⟩|⟨_,g',hg',hA⟩
    · left;right;exact ⟨hsn.symm,a1,hA.symm,rfl⟩
    · injection hA with hA
      subst hA;right;dsimp only;omega
 have z0:w4.cell? ⟨w.heap.size,0,none⟩=some (.int .i64 x.kk):=by
  rw [hw4,World.cell?_setCell_other _ _ _ _ (by intro h;injection h;omega)];refine HGR.out.cell ((World.cell?_alloc_lt w2.drew _ ⟨w.heap.size,0,none⟩ hk2).trans x0) ?_;intro h;exact HXN (by simpa using h.symm)
 have z1:w4.cell? ⟨w.heap.size,1,none⟩=some (.int .i64 x.num):=by
  rw [hw4,World.cell?_setCell_other _ _ _ _ (by intro h;injection h;omega)];refine HGR.out.cell ((World.cell?_alloc_lt w2.drew _ ⟨w.heap.size,1,none⟩ hk2).trans x1) ?_;intro h;exact HXN (by simpa using h.symm)
 have z2:w4.cell? ⟨w.heap.size,2,none⟩=some (.int .i64 x.level):=by
  rw [hw4,World.cell?_setCell_other _ _ _ _ (by intro h;injection h;omega)];refine HGR.out.cell ((World.cell?_alloc_lt w2.drew _ ⟨w.heap.size,2,none⟩ hk2).trans x2) ?_;intro h;exact HXN (by simpa using h.symm)
 have z3:w4.cell? ⟨w.heap.size,3,none⟩=some (.slice x.elems.A x.elems.n x.elems.c):=by
  rw [hw4,World.cell?_setCell_other _ _ _ _ (by intro h;injection h;omega)];refine HGR.out.cell ((World.cell?_alloc_lt w2.drew _ ⟨w.heap.size,3,none⟩ hk2).trans x3) ?_;intro h;exact HXN (by simpa using h.symm)
 have z4:w4.cell? ⟨w.heap.size,4,none⟩=some (.slice x.holes.A x.holes.n x.holes.c):=by
  rw [hw4,World.cell?_setCell_other _ _ _ _ (by intro h;injection h;omega)];refine HGR.out.cell ((World.cell?_alloc_lt w2.drew _ ⟨w.heap.size,4,none⟩ hk2).trans x4) ?_;intro h;exact HXN (by simpa using h.symm)
 have z5:w4.cell? ⟨w.heap.size,5,none⟩=some (.slice x.aparts.A x.aparts.n x.aparts.c):=by
  rw [hw4,World.cell?_setCell_other _ _ _ _ (by intro h;injection h;omega)];refine HGR.out.cell ((World.cell?_alloc_lt w2.drew _ ⟨w.heap.size,5,none⟩ hk2).trans x5) ?_;intro h;exact HXN (by simpa using h.symm)
 have z6:w4.cell? ⟨w.heap.size,6,none⟩=some (.slice x.news.A x.news.n x.news.c):=by
  rw [hw4,World.cell?_setCell_other _ _ _ _ (by intro h;injection h;omega)];refine HGR.out.cell ((World.cell?_alloc_lt w2.drew _ ⟨w.heap.size,6,none⟩ hk2).trans x6) ?_;intro h;exact HXN (by simpa using h.symm)
 (have hk4:w.heap.size<w4.heap.size:=by rw [hw4];have:=HGR.out.size;simp at this ⊢;omega);rw [←hw4];have HgM:=hid hgM;have HgMv:=hid hgMv;have HB4:=hid hB4;have HR4:=hid hR4;have HF4:=hid hF4;have s4:=hB4.cell 0;have s4':w4.cell? ⟨b,0,none⟩=some (.slice (some ⟨g,0,none⟩) (l.length+1) c2):=s4;clear s4 hw4 hB4 hR4 hF4 hat hgM hgMv hnil x0 x1 x2 x3 x4 x5 x6 s0 f0;go_wp2_with fail
 go_loopw [7] (fun s wr=>∃i:Nat,s = .int .i64 i∧rank Z19 l x≤i∧i≤l.length∧wr.ownsRow 0 226 7 (.slice (some ⟨g,0,none⟩) (l.length+1) c2) (l.length+1) ((Z0s l x i).flatMap PgR.cells)∧Fr (· = g) w4 wr) (fun s wr=>(intOf s).toNat)
 case atStart=>exact ⟨l.length,by go_num,hrk,Znl _,HR4.out,Fr.refl _ _⟩
 case round=>
  obtain ⟨i,rfl,hi1,hi2,hown,hfr⟩:=hrel;have hgw:g<wr.heap.size:=(hown.lt g rfl).2;have r0:wr.cell? ⟨b,0,none⟩=some (.slice (some ⟨g,0,none⟩) (l.length+1) c2):=(hfr.cell (p:=⟨b,0,none⟩) HB4.out.lt (fun h=>hgb h.symm)).trans s4';have fz :∀o,wr.frozen? ⟨g,o,none⟩=false:=fun o=>hown.frozenAt o;have HOW:=hid hown;have HFR:=hid hfr;clear hown hfr;by_cases hlt:rank Z19 l x<i
  · obtain ⟨j,rfl⟩:∃j,i=j+1:=⟨i - 1,by omega⟩
    (have hj:j<l.length:=by omega);have hrd:=Z0d (A:=some ⟨g,0,none⟩) (c:=c2) (l:=Z0s l x (j+1)) PgR.cells_length (by rw [Z0g l x hi2];exact HOW.out);obtain ⟨g',o',hgo,_,hcell⟩:=hrd.at_ (k:=j) (by rw [Z0g l x hi2];omega);injection hgo with hgo;injection hgo with hg1 hg2;subst hg1;subst hg2;rw [Z3a l x hj] at hcell;(have q0:wr.cell? ⟨g,j*7,none⟩=some (.int .i64 l[j].kk):=by simpa using hcell 0 _ rfl);(have q1:wr.cell? ⟨g,j*7+1,none⟩=some (.int .i64 l[j].num):=by simpa using hcell 1 _ rfl);(have q2:wr.cell? ⟨g,j*7+2,none⟩=some (.int .i64 l[j].level):=by simpa using hcell 2 _ rfl);(have q3:wr.cell? ⟨g,j*7+3,none⟩=some (.slice l[j].elems.A l[j].elems.n l[j].elems.c):=by simpa using hcell 3 _ rfl);(have q4:wr.cell? ⟨g,j*7+4,none⟩=some (.slice l[j].holes.A l[j].holes.n l[j].holes.c):=by simpa using hcell 4 _ rfl);(have q5:wr.cell? ⟨g,j*7+5,none⟩=some (.slice l[j].aparts.A l[j].aparts.n l[j].aparts.c):=by simpa using hcell 5 _ rfl);have q6:wr.cell? ⟨g,j*7+6,none⟩=some (.slice l[j].news.A l[j].news.n l[j].news.c):=by simpa using hcell 6 _ rfl
    have rmj:Room wr g 226 (c2*7)∧l.length+1≤c2:=by
     rcases Z0h HOW.out with ⟨hv,_⟩|⟨g',cap,hv,hn,_,hr,_⟩
     · cases hv
     · injection hv with hA _ hc
       injection hA with hA;injection hA with hA;subst hA;subst hc;exact ⟨hr,hn⟩
    obtain ⟨hrm,hcap⟩:=rmj;(have b0:(0:Int)≤(j:Int)+1:=by omega);(have b1:(0:Int)≤(j:Int):=by omega);(have b4:(j:Int)<(l.length:Int):=by omega);(have b2:(j:Int)<(l.length:Int)+1:=by omega);(have b3:(j:Int)+1<(l.length:Int)+1:=by omega);have w1:IntKind.i64.wrap ((j:Int))=(j:Int):=Znu _ (by omega);(have w2:IntKind.i64.wrap ((j:Int)+1 - 1)=(j:Int):=by rw [Znu _ (by omega)];omega);have HRM:=hid hrm;clear hcell hrd hrm;obtain ⟨y,hy⟩:∃y,y=l[j]:=⟨_,rfl⟩;rw [←hy] at q0 q1 q2 q3 q4 q5 q6;have HY:=hid hy;have hbw:b<wr.heap.size:=Znx wr _ r0;clear hy;(go_wp2_with fail);refine Z0c (fun w9=>Below wr.heap.size wr w9) [(0,0),(1,0),(2,0),(3,1),(4,0),(5,0),(6,0),(7,0),(8,1),(9,0),(10,0),(11,0),(12,1),(13,0),(14,2)] (by kernel_rfl) (by kernel_rfl) (fun KK hKK=>?_);simp only [Z0w,Znz,Znt,Znv,Znr,Zns,Zo1];(repeat ((first|(refine Z0m ?_ (Or.inl ⟨by rfl,fun w9=>?_⟩) ?_;rotate_left 1;go_simp;with_reducible rfl)|(refine Z0k ?_ (((Znk _ _).drew)) (Or.inl ⟨by rfl,fun w9 hw9=>?_⟩) ?_;rotate_left 1;obtain ⟨hc9,hf9⟩:=Z1e hw9;go_simp;with_reducible rfl)|refine Z0m undef (Or.inr ⟨by rfl,rfl⟩) ?_|refine Z0k undef (((Znk _ _).drew)) (Or.inr ⟨by rfl,rfl⟩) ?_);go_frame));refine Z1y (by kernel_rfl) (fun K9 hK9=>?_);refine Z1p rfl 226 (.tmp 53) (.tmp 52) rfl g ((j+1)*7) #[.int .i64 y.kk,.int .i64 y.num,.int .i64 y.level,.slice y.elems.A y.elems.n y.elems.c,.slice y.holes.A y.holes.n y.holes.c,.slice y.aparts.A y.aparts.n y.aparts.c,.slice y.news.A y.news.n y.news.c] (by rfl) (by rfl) (Room.there (w:=wr.drew) HRM.out.drew (by simp;omega)) (by kernel_rfl) (all_oneCell_toArray (cs:=PgR.cells y) (PgR.one y)) ?_;refine hK9 _ _ ?_;clear hK9 K9;refine Z16 ?_;simp only [Z04];refine hKK _ _ ?_;clear hKK KK;(go_wp2_with fail);go_roundw
    case rel=>
     refine ⟨j,by go_num,by omega,by omega,?_,Fr.setCells _ _ (Fr.drew HFR.out) (.inl rfl)⟩;have hst:=Z3i PgR.cells_length (by omega) (show wr.drew.ownsRow 0 226 7 (.slice (some ⟨g,0,none⟩) (l.length+1) c2) (l.length+1) ((Z0s l x (j+1)).flatMap PgR.cells) from HOW.out) (j+1) (by rw [Z0g l x hi2];omega) y;(have e9:(Z0s l x (j+1)).set (j+1) y=Z0s l x j:=by rw [HY.out,Z3b l x hj]);rw [e9] at hst;exact hst
    case measure=>simp [intOf]<;>omega
  · obtain rfl:i=rank Z19 l x:=by omega
    have rmj:Room wr g 226 (c2*7)∧l.length+1≤c2:=by
     rcases Z0h HOW.out with ⟨hv,_⟩|⟨g',cap,hv,hn,_,hr,_⟩
     · cases hv
     · injection hv with hA _ hc
       injection hA with hA;injection hA with hA;subst hA;subst hc;exact ⟨hr,hn⟩
    obtain ⟨hrm,hcap⟩:=rmj;obtain ⟨k,hk⟩:∃k,k=rank Z19 l x:=⟨_,rfl⟩;rw [←hk] at hi2 hlt ⊢;have x0:=(HFR.out.cell (p:=⟨w.heap.size,0,none⟩) hk4 (fun h=>hgk1 h.symm)).trans z0;have x1:=(HFR.out.cell (p:=⟨w.heap.size,1,none⟩) hk4 (fun h=>hgk1 h.symm)).trans z1;have x2:=(HFR.out.cell (p:=⟨w.heap.size,2,none⟩) hk4 (fun h=>hgk1 h.symm)).trans z2;have x3:=(HFR.out.cell (p:=⟨w.heap.size,3,none⟩) hk4 (fun h=>hgk1 h.symm)).trans z3;have x4:=(HFR.out.cell (p:=⟨w.heap.size,4,none⟩) hk4 (fun h=>hgk1 h.symm)).trans z4;have x5:=(HFR.out.cell (p:=⟨w.heap.size,5,none⟩) hk4 (fun h=>hgk1 h.symm)).trans z5;have x6:=(HFR.out.cell (p:=⟨w.heap.size,6,none⟩) hk4 (fun h=>hgk1 h.symm)).trans z6;(have b1:(0:Int)≤(k:Int):=by omega);(have b2:(k:Int)<(l.length:Int)+1:=by omega);have HK:=hid hk;(have hkw:w.heap.size<wr.heap.size:=by have:=HFR.out.size;omega);have hbw:b<wr.heap.size:=Znx wr _ r0;have HRM:=hid hrm;clear hrm hk z0 z1 z2 z3 z4 z5 z6;(go_wp2_with fail);refine Z0c (fun w9=>Below wr.heap.size wr w9) [(0,0),(1,0),(2,0),(3,1),(4,0),(5,1),(6,0),(7,2)] (by kernel_rfl) (by kernel_rfl) (fun KK hKK=>?_);simp only [Z0w,Znz,Znt,Znv,Znr,Zns,Zo1];(repeat ((first|(refine Z0m ?_ (Or.inl ⟨by rfl,fun w9=>?_⟩) ?_;rotate_left 1;go_simp;with_reducible rfl)|(refine Z0k ?_ (((Znk _ _).drew)) (Or.inl ⟨by rfl,fun w9 hw9=>?_⟩) ?_;rotate_left 1;obtain ⟨hc9,hf9⟩:=Z1e hw9;go_simp;with_reducible rfl)|refine Z0m undef (Or.inr ⟨by rfl,rfl⟩) ?_|refine Z0k undef (((Znk _ _).drew)) (Or.inr ⟨by rfl,rfl⟩) ?_);go_frame));refine Z1y (by kernel_rfl) (fun K9 hK9=>?_);refine Z1p rfl 226 (.tmp 60) (.tmp 59) rfl g (k*7) #[.int .i64 x.kk,.int .i64 x.num,.int .i64 x.level,.slice x.elems.A x.elems.n x.elems.c,.slice x.holes.A x.holes.n x.holes.c,.slice x.aparts.A x.aparts.n x.aparts.c,.slice x.news.A x.news.n x.news.c] (by rfl) (by rfl) (Room.there (w:=wr.drew) HRM.out.drew (by simp;omega)) (by kernel_rfl) (all_oneCell_toArray (cs:=PgR.cells x) (PgR.one x)) ?_;refine hK9 _ _ ?_;clear hK9 K9;refine Z16 ?_;simp only [Z04];refine hKK _ _ ?_;clear hKK KK;(go_wp2_with fail);go_ret;have HOWk:=HOW.out;rw [←HK.out] at HOWk;have hst:=Z3i PgR.cells_length (by omega) (show wr.drew.ownsRow 0 226 7 (.slice (some ⟨g,0,none⟩) (l.length+1) c2) (l.length+1) ((Z0s l x k).flatMap PgR.cells) from HOWk) k (by rw [Z0g l x hi2];omega) x;(have e9:(Z0s l x k).set k x=put Z19 l x:=by rw [Z3t l x hi2,Z9b Z63 HO.out hh,HK.out]);rw [e9] at hst;have hln:=Z3s Z63 HO.out hh;refine ⟨by rw [hh];rfl,false,some ⟨g,0,none⟩,c2,⟨?_,?_⟩,?_,?_⟩
    · rw [hln]
      exact Blk.farCells _ _ (HB4.out.fr HFR.out (fun h=>hgb h.symm)).drew (fun h=>hgb h.symm)
    · rw [hln]
      exact hst
    · exact HF4.out.into (Fr.setCells _ _ (Fr.drew HFR.out) (.inl rfl)) (fun k hk=>by subst hk;exact HgM.out)
    · exact HgMv.out
theorem Zik (b c:Nat) (sn:Bool) (A:Option Addr) (l:List PgR) (x:PgR) (w:World) (hS:Z2q w b sn A c l) (hs:Srt Z19 l) (hl:(l.length:Int)≤100000000) :
 Calls Tryz.prog 150 #[.pointer (some ⟨b,0,none⟩),.agg #[.int .i64 x.kk,.int .i64 x.num,.int .i64 x.level,.slice x.elems.A x.elems.n x.elems.c,.slice x.holes.A x.holes.n x.holes.c,.slice x.aparts.A x.aparts.n x.aparts.c,.slice x.news.A x.news.n x.news.c]] w (Z7l w b sn A l x):=by
 cases hh:has Z19 l x
 · exact Ze7 b c sn A l x w hS hs hl hh
 · exact Zbf b c sn A l x w hS hs hl hh
theorem Zm2 (b c:Nat) (sn:Bool) (A:Option Addr) (l:List PgR) (w:World) (hS:Z2q w b sn A c l) :
 Calls Tryz.prog 152 #[.pointer (some ⟨b,0,none⟩)] w fun e w'=>e = .returned (.int .i64 l.length)∧w=w':=by
 have s0:=hS.cell0;clear hS;go_enter Tryz.func152,Tryz.ntmps152;go_wp2;go_ret;exact ⟨rfl,rfl⟩
theorem Zfz (b c:Nat) (sn:Bool) (A:Option Addr) (l:List PgR) (x:PgR) (w:World) (hS:Z2q w b sn A c l) (hs:Srt Z19 l) (hl:(l.length:Int)≤1000000000) (hh:has Z19 l x=false) :
 Calls Tryz.prog 148 #[.pointer (some ⟨b,0,none⟩),.agg #[.int .i64 x.kk,.int .i64 x.num,.int .i64 x.level,.slice x.elems.A x.elems.n x.elems.c,.slice x.holes.A x.holes.n x.holes.c,.slice x.aparts.A x.aparts.n x.aparts.c,.slice x.news.A x.news.n x.news.c]] w fun e w'=>e = .returned (.tuple #[.agg #[.int .i64 0,.int .i64 0,.int .i64 0,.slice none 0 0,.slice none 0 0,.slice none 0 0,.slice none 0 0],.bool false])∧Below w.heap.size w w':=by
 have HS:=hid hS;have HO:=hid hs;clear hS hs;go_enter Tryz.func148,Tryz.ntmps148;(go_wp2_with fail);obtain ⟨W,hW⟩:∃W,W=((w.alloc (.cells #[.int .i64 x.kk,.int .i64 x.num,.int .i64 x.level,.slice x.elems.A x.elems.n x.elems.c,.slice x.holes.A x.holes.n x.holes.c,.slice x.aparts.A x.aparts.n x.aparts.c,.slice x.news.A x.news.n x.news.c] 226)).alloc (.cells #[.int .i64 0,.int .i64 0,.int .i64 0,.slice none 0 0,.slice none 0 0,.slice none 0 0,.slice none 0 0] 226)).alloc (.cells #[.int .i64 0,.int .i64 0,.int .i64 0,.slice none 0 0,.slice none 0 0,.slice none 0 0,.slice none 0 0] 226):=⟨_,rfl⟩
 have hR:Blk W (w.heap.size+1) 226 #[.int .i64 0,.int .i64 0,.int .i64 0,.slice none 0 0,.slice none 0 0,.slice none 0 0,.slice none 0 0]:=by
  rw [hW];have:=(Blk.new (w.alloc (.cells #[.int .i64 x.kk,.int .i64 x.num,.int .i64 x.level,.slice x.elems.A x.elems.n x.elems.c,.slice x.holes.A x.holes.n x.holes.c,.slice x.aparts.A x.aparts.n x.aparts.c,.slice x.news.A x.news.n x.news.c] 226)) 226 #[.int .i64 0,.int .i64 0,.int .i64 0,.slice none 0 0,.slice none 0 0,.slice none 0 0,.slice none 0 0]).alloc (.cells #[.int .i64 0,.int .i64 0,.int .i64 0,.slice none 0 0,.slice none 0 0,.slice none 0 0,.slice none 0 0] 226);simpa using this
 have hZ:Blk W (w.heap.size+1+1) 226 #[.int .i64 0,.int .i64 0,.int .i64 0,.slice none 0 0,.slice none 0 0,.slice none 0 0,.slice none 0 0]:=by
  rw [hW];have:=Blk.new ((w.alloc (.cells #[.int .i64 x.kk,.int .i64 x.num,.int .i64 x.level,.slice x.elems.A x.elems.n x.elems.c,.slice x.holes.A x.holes.n x.holes.c,.slice x.aparts.A x.aparts.n x.aparts.c,.slice x.news.A x.news.n x.news.c] 226)).alloc (.cells #[.int .i64 0,.int .i64 0,.int .i64 0,.slice none 0 0,.slice none 0 0,.slice none 0 0,.slice none 0 0] 226)) 226 #[.int .i64 0,.int .i64 0,.int .i64 0,.slice none 0 0,.slice none 0 0,.slice none 0 0,.slice none 0 0];simpa using this
 (have hB0:Below w.heap.size w W:=by rw [hW];exact (((Znk w.heap.size w).alloc (Znl _) _).alloc (by simp) _).alloc (by simp;omega) _);rw [←hW];clear hW;refine (Zaw b c sn A l x _ (HS.out.new_ hB0) HO.out (by omega)).mono ?_;rintro e w1 ⟨rfl,hb1⟩;have HR:=hid (hR.new_ hb1);have HZ:=hid (hZ.new_ hb1);have HB:=hid (hB0.trans (hb1.mono hB0.size));have hrl:=(hR.new_ hb1).lt;clear hb1 hB0 hR hZ;(go_wp2_with (first|(with_reducible refine wpList_load_mid rfl 226 _ rfl (w.heap.size+1+1) 0 rfl _ _ HZ.out.range Tryz.underlying226 rfl (by kernel_rfl) ?_)|(with_reducible refine wpList_store_mid rfl 226 _ _ rfl (w.heap.size+1) 0 #[.int .i64 0,.int .i64 0,.int .i64 0,.slice none 0 0,.slice none 0 0,.slice none 0 0,.slice none 0 0] rfl rfl HR.out.there (by kernel_rfl) (by kernel_rfl) ?_)));(try simp only [Exit.inBlock,Exit.then]);refine bodyPost_ret (v:=.tuple #[.agg #[.int .i64 0,.int .i64 0,.int .i64 0,.slice none 0 0,.slice none 0 0,.slice none 0 0,.slice none 0 0],.bool false]) ?_ rfl ⟨rfl,Below.setCells' _ _ HB.out (by omega)⟩;exact Z1x (t:=4) (s:=5) (T:=226) rfl _ _ (w.heap.size+1) [.int .i64 0,.int .i64 0,.int .i64 0,.slice none 0 0,.slice none 0 0,.slice none 0 0,.slice none 0 0] _ rfl (Znw w1 (w.heap.size+1) 0 [.int .i64 0,.int .i64 0,.int .i64 0,.slice none 0 0,.slice none 0 0,.slice none 0 0,.slice none 0 0] HR.out.there) Tryz.underlying226 rfl (by kernel_rfl)
def Zfk (w:World) (xs:List PgR) (e:Ending) (w':World):Prop:=
 ∃k,e = .returned (.pointer (some ⟨k,0,none⟩))∧w.heap.size≤k∧∃sn A c,Z2q w' k sn A c (puts Z19 [] xs)∧AIn A (w.heap.size≤·)∧Below w.heap.size w w'
theorem Zm6 (A:Option Addr) (c:Nat) (xs:List PgR) (w:World) (hrd:Z0z w 7 PgR.cells A c xs) (hl:(xs.length:Int)≤10000000) :
 Calls Tryz.prog 145 #[.slice A xs.length c] w (Zfk w xs):=by
 have HRD:=hid hrd;clear hrd;go_enter Tryz.func145,Tryz.ntmps145;(go_wp2_with fail);obtain ⟨W0,hW0⟩:∃W0,W0=w.alloc (.cells #[.slice none 0 0,.bool false] 276):=⟨_,rfl⟩;(have hb0:Below w.heap.size w W0:=by rw [hW0];exact (Znk _ _).alloc (Znl _) _);have hS0:Z2q W0 w.heap.size false none 0 []:=⟨by rw [hW0];exact Blk.new _ _ _,⟨by simp,.inl ⟨rfl,rfl⟩⟩⟩;rw [←hW0];clear hW0;have HB0:=hid hb0;have HS0:=hid hS0;clear hb0 hS0
 go_loopw [10] (fun s wr=>∃i:Nat,s = .int .i64 i∧i≤xs.length∧∃sn A' c',Z2q wr w.heap.size sn A' c' (puts Z19 [] (xs.take i))∧AIn A' (w.heap.size≤·)∧Below w.heap.size w wr) (fun s wr=>xs.length - (intOf s).toNat)
 case atStart=>exact ⟨0,rfl,Nat.zero_le _,false,none,0,HS0.out,AIn.none_ _,HB0.out⟩
 case round=>
  obtain ⟨i,rfl,hi,sn,A',c',hS,hA',hB⟩:=hrel;have HS:=hid hS;have HA:=hid hA';have HB:=hid hB;clear hS hA' hB;by_cases hlt:i<xs.length
  · obtain ⟨x,hx⟩:∃x,x=xs[i]:=⟨_,rfl⟩
    obtain ⟨g,off,rfl,hgs,hcell⟩:=(HRD.out.fr (Fr.of_new (M:=fun _=>False) HB.out) (fun _ _ h=>h)).at_ hlt;rw [←hx] at hcell;(have q0:wr.cell? ⟨g,off+i*7,none⟩=some (.int .i64 x.kk):=by simpa using hcell 0 _ rfl);(have q1:wr.cell? ⟨g,off+i*7+1,none⟩=some (.int .i64 x.num):=by simpa using hcell 1 _ rfl);(have q2:wr.cell? ⟨g,off+i*7+2,none⟩=some (.int .i64 x.level):=by simpa using hcell 2 _ rfl);(have q3:wr.cell? ⟨g,off+i*7+3,none⟩=some (.slice x.elems.A x.elems.n x.elems.c):=by simpa using hcell 3 _ rfl);(have q4:wr.cell? ⟨g,off+i*7+4,none⟩=some (.slice x.holes.A x.holes.n x.holes.c):=by simpa using hcell 4 _ rfl);(have q5:wr.cell? ⟨g,off+i*7+5,none⟩=some (.slice x.aparts.A x.aparts.n x.aparts.c):=by simpa using hcell 5 _ rfl);(have q6:wr.cell? ⟨g,off+i*7+6,none⟩=some (.slice x.news.A x.news.n x.news.c):=by simpa using hcell 6 _ rfl);(have b1:(0:Int)≤(i:Int):=by omega);(have b2:(i:Int)<(xs.length:Int):=by omega);have HX:=hid hx;clear hcell hx;(go_wp2_with fail);have hsr:=Srt.puts Z63 (xs.take i) (Srt.nil (cmp:=Z19))
    have hlen:(((puts Z19 [] (xs.take i)).length:Nat):Int)≤100000000:=by
     have:=Z1d Z63 (xs.take i) (Srt.nil (cmp:=Z19));simp at this;omega
    refine (Zik w.heap.size c' sn A' _ x _ (HS.out.new_ ((Znk _ _).alloc (Znl _) _)) hsr hlen).mono ?_;rintro e w1 ⟨rfl,sn2,A2,c2,hS2,hF2,hM2⟩
    have hB1:Below w.heap.size w w1:=(HB.out.alloc HB.out.size _).trans (hF2.below (by have:=HB.out.size;(try simp);omega) (fun k hk hm=>by
     rcases hm with hm|⟨_,a,ha,hm⟩
     · omega
     · have:=HA.out a ha;omega))
    have hA2:AIn A2 (w.heap.size≤·):=by
     rcases hM2 with ⟨_,rfl⟩|⟨_,g2,hg2,rfl⟩
     · exact HA.out
     · intro a ha;cases ha;have:=HB.out.size;(try simp at hg2 ⊢);omega
    have HS2:=hid hS2;have HB1:=hid hB1;have HA2:=hid hA2;clear hS2 hB1 hA2 hF2 hM2 hsr hlen q0 q1 q2 q3 q4 q5 q6;(go_wp2_with fail);go_roundw
    case rel=>
     refine ⟨i+1,by go_num,by omega,sn2,A2,c2,?_,HA2.out,HB1.out⟩;rw [Zor,Znq hlt,←HX.out];simp only [Option.toList_some,Z36];exact HS2.out
    case measure=>simp [intOf]<;>omega
  · have hie:i=xs.length:=by omega
    subst hie;(go_wp2_with fail);go_ret;refine ⟨w.heap.size,rfl,Znl _,sn,A',c',?_,HA.out,HB.out⟩;have:=HS.out;rwa [Zo6] at this
def zPgR (k:Int):PgR:=⟨k,0,0,⟨none,0,0⟩,⟨none,0,0⟩,⟨none,0,0⟩,⟨none,0,0⟩⟩
theorem Z32.of_PgR {a b:World}(h:Below a.heap.size a b){sn sn':Bool}{A A':Option Addr}(hm:Z32 b sn A sn' A'):Z32 a sn A sn' A':=
 hm.imp id (fun ⟨h1,g,h2,h3⟩=>⟨h1,g,by have:=h.size;omega,h3⟩)
theorem Zjg (k:Int) (w:World):Calls Tryz.prog 149 #[.int .i64 k] w fun e w'=>e = .returned (.agg #[.int .i64 k,.int .i64 0,.int .i64 0,.slice none 0 0,.slice none 0 0,.slice none 0 0,.slice none 0 0])∧Below w.heap.size w w':=by
 obtain ⟨W,hW⟩:∃W,W=w.alloc (.cells #[.int .i64 0,.int .i64 0,.int .i64 0,.slice none 0 0,.slice none 0 0,.slice none 0 0,.slice none 0 0] 226):=⟨_,rfl⟩;(have hR:Blk W w.heap.size 226 #[.int .i64 0,.int .i64 0,.int .i64 0,.slice none 0 0,.slice none 0 0,.slice none 0 0,.slice none 0 0]:=by rw [hW];exact Blk.new _ _ _);(have hB:Below w.heap.size w W:=by rw [hW];exact (Znk _ _).alloc (Znl _) _);have ht:W.there w.heap.size 0 (#[.int .i64 k,.int .i64 0,.int .i64 0,.slice none 0 0,.slice none 0 0,.slice none 0 0,.slice none 0 0]:Array Value).size:=hR.there;have HT:=hid ht;have HB:=hid hB;clear ht hR hB;go_enter Tryz.func149,Tryz.ntmps149;(go_upto_region 1 with (fail));rw [←hW];clear hW;(go_wp2_with (with_reducible refine wpList_store_mid rfl 226 _ _ rfl w.heap.size 0 #[.int .i64 k,.int .i64 0,.int .i64 0,.slice none 0 0,.slice none 0 0,.slice none 0 0,.slice none 0 0] rfl rfl HT.out (by kernel_rfl) (by kernel_rfl) ?_));(try simp only [Exit.inBlock,Exit.then]);refine bodyPost_ret (v:=.agg #[.int .i64 k,.int .i64 0,.int .i64 0,.slice none 0 0,.slice none 0 0,.slice none 0 0,.slice none 0 0]) ?_ rfl ⟨rfl,Below.setCells' _ _ HB.out (by omega)⟩;exact Z1c (t:=2) (T:=226) rfl _ _ w.heap.size [.int .i64 k,.int .i64 0,.int .i64 0,.slice none 0 0,.slice none 0 0,.slice none 0 0,.slice none 0 0] _ rfl (Znw W w.heap.size 0 [.int .i64 k,.int .i64 0,.int .i64 0,.slice none 0 0,.slice none 0 0,.slice none 0 0,.slice none 0 0] HT.out) Tryz.underlying226 rfl (by kernel_rfl)
theorem Zh2 (w:World):Calls Tryz.prog 106 #[] w fun e w'=>∃bm bp sn A c,e = .returned (.pointer (some ⟨bm,0,none⟩))∧w.heap.size≤bm∧w.heap.size≤bp∧AIn A (w.heap.size≤·)∧Blk w' bm 228 #[.pointer (some ⟨bp,0,none⟩)]∧Z2q w' bp sn A c []∧Below w.heap.size w w':=by
 go_enter Tryz.func106,Tryz.ntmps106;(go_wp2_with fail);refine (Zm6 none 0 [] _ (Z0z.nil _ _ _) (by simp)).mono ?_;rintro e w1 ⟨bp,rfl,hbp,sn,A,c,hS,hA,hB⟩;have HS:=hid hS;have HB:=hid hB;clear hS hB;(go_wp2_with fail);go_ret;have hb9:Below w1.heap.size w1 (w1.alloc (.cells #[.pointer (some ⟨bp,0,none⟩)] 228)):=(Znk _ _).alloc (Znl _) _;exact ⟨w1.heap.size,bp,sn,A,c,rfl,HB.out.size,hbp,hA,Blk.new _ _ _,HS.out.new_ hb9,HB.out.trans (hb9.mono HB.out.size)⟩
theorem Zgz (b:Nat) (w:World) :
 Calls Tryz.prog 112 #[.pointer (some ⟨b,0,none⟩)] w fun e w'=>e = .returned (.func (.func 154) #[] #[.pointer (some ⟨w.heap.size,0,none⟩)])∧Below w.heap.size w w'∧Blk w' w.heap.size 168 #[.pointer (some ⟨b,0,none⟩)]:=by
 go_enter Tryz.func112,Tryz.ntmps112;go_wp2;go_ret;exact ⟨rfl,(Znk _ _).alloc (Znl _) _,Blk.new _ _ _⟩
theorem Zh1 (bm bp c:Nat) (sn:Bool) (A:Option Addr) (m:List PgR) (w:World) (hM:Blk w bm 228 #[.pointer (some ⟨bp,0,none⟩)]) (hS:Z2q w bp sn A c m) :
 Calls Tryz.prog 110 #[.pointer (some ⟨bm,0,none⟩)] w fun e w'=>e = .returned (.int .i64 m.length)∧w=w':=by
 have s0:=hM.c1;have hbl:=hM.lt;have HS:=hid hS;clear hM hS;go_enter Tryz.func110,Tryz.ntmps110;(go_wp2_with fail);refine (Zm2 bp c sn A m w HS.out).mono ?_;rintro e w' ⟨rfl,rfl⟩;(go_wp2_with fail);go_ret;exact ⟨rfl,rfl⟩
theorem Zh4 (bm bp cc:Nat) (sn:Bool) (A:Option Addr) (m:List PgR) (x:PgR) (w:World) (hM:Blk w bm 228 #[.pointer (some ⟨bp,0,none⟩)]) (hS:Z2q w bp sn A cc m) (hs:Srt Z19 m) (hl:(m.length:Int)≤1000000) (hh:has Z19 m x=false) :
 Calls Tryz.prog 109 #[.pointer (some ⟨bm,0,none⟩),.int .i64 x.kk,.agg #[.int .i64 x.num,.int .i64 x.level,.slice x.elems.A x.elems.n x.elems.c,.slice x.holes.A x.holes.n x.holes.c,.slice x.aparts.A x.aparts.n x.aparts.c,.slice x.news.A x.news.n x.news.c]] w fun e w'=>e = .returned (.bool true)∧∃sn' A' c',Z2q w' bp sn' A' c' (put Z19 m x)∧Fr (Z1f bp sn A) w w'∧Z32 w sn A sn' A':=by
 have hh0:has Z19 m (zPgR x.kk)=false:=hh;have s0:=hM.c1;have hml:=hM.lt;have HS:=hid hS;have HO:=hid hs;have HM:=hid hM;have HH:=hid hh;have HH0:=hid hh0;clear hS hs hM hh hh0;go_enter Tryz.func109,Tryz.ntmps109;(go_upto_region 3 with (fail));obtain ⟨W0,hW0⟩:∃W0,W0=w.alloc (.cells #[.int .i64 x.num,.int .i64 x.level,.slice x.elems.A x.elems.n x.elems.c,.slice x.holes.A x.holes.n x.holes.c,.slice x.aparts.A x.aparts.n x.aparts.c,.slice x.news.A x.news.n x.news.c] 72):=⟨_,rfl⟩;(have hB0:Below w.heap.size w W0:=by rw [hW0];exact (Znk _ _).alloc (Znl _) _);(have hbx:Blk W0 w.heap.size 72 #[.int .i64 x.num,.int .i64 x.level,.slice x.elems.A x.elems.n x.elems.c,.slice x.holes.A x.holes.n x.holes.c,.slice x.aparts.A x.aparts.n x.aparts.c,.slice x.news.A x.news.n x.news.c]:=by rw [hW0];exact Blk.new _ _ _);have hz0:w.heap.size<W0.heap.size:=hbx.lt;rw [←hW0];clear hW0;have s1:=(hB0.cell (p:=⟨bm,0,none⟩) hml).trans s0;clear s0;have HS0:=hid (HS.out.new_ hB0);have HM0:=hid (HM.out.new_ hB0);have HX0:=hid hbx;have HB0:=hid hB0;(have hml0:bm<W0.heap.size:=by omega);clear hB0 hbx HS HM
 go_cut [8] from 11 (fun b wc=>b = .bool false∧Below W0.heap.size W0 wc)
 case first=>
  refine Z40 (fun w9=>Below W0.heap.size W0 w9) [0,1,2,3,4,7,8,9,12] [3] (.fork [(0,0),(1,0),(2,0),(3,1),(4,0)] 5 (.fork [] 6 (.fin [(7,0),(8,0),(9,0),(10,2),(11,2),(12,0)]) 10 (.fin [(6,2),(7,0),(8,0),(9,0),(11,2),(12,0)])) 10 (.fin [(5,2),(6,2),(7,0),(8,0),(9,0),(11,2),(12,0)])) (by kernel_rfl) (by kernel_rfl) (by kernel_rfl) (fun KK hKK=>?_);simp only [wpPl,Z0w,Znz,Znt,Znv,Znr,Zns,Zo1];have HB:=hid (Znk W0.heap.size W0).drew;obtain ⟨V,hV⟩:∃V,V=W0.drew:=⟨_,rfl⟩;rw [←hV] at HB ⊢;clear hV
  repeat' (first
   | ((first|(refine Z9y ?_ (Or.inl ⟨by rfl,fun w9=>?_⟩) ?_;rotate_left 1;go_simp;with_reducible rfl)|(refine Z9x ?_ (HB.out) (Or.inl ⟨by rfl,fun w9 hw9=>?_⟩) ?_;rotate_left 1;obtain ⟨hc9,hf9⟩:=Z1e hw9;go_simp;with_reducible rfl)|refine Z9y undef (Or.inr ⟨by rfl,rfl⟩) ?_|refine Z9x undef (HB.out) (Or.inr ⟨by rfl,rfl⟩) ?_);go_frame)
   | ((first|refine Z6f (fun K9 hK9=>?_)|refine Z51 rfl (fun K9 hK9=>?_));refine Z1p rfl 226 _ _ rfl g 0 #[.int .i64 0,.int .i64 0,.int .i64 0,.slice none 0 0,.slice none 0 0,.slice none 0 0,.slice none 0 0] rfl rfl (show _ from HK.out.there) (by kernel_rfl) (by kernel_rfl) ?_;show K9 _ (V.setCells g 0 [.int .i64 0,.int .i64 0,.int .i64 0,.slice none 0 0,.slice none 0 0,.slice none 0 0,.slice none 0 0]);have HR:=hid (Znw V g 0 [.int .i64 0,.int .i64 0,.int .i64 0,.slice none 0 0,.slice none 0 0,.slice none 0 0,.slice none 0 0] (show _ from HK.out.there));have HB:=hid (Below.setCells' [.int .i64 0,.int .i64 0,.int .i64 0,.slice none 0 0,.slice none 0 0,.slice none 0 0,.slice none 0 0] 0 HB.out HG.out);obtain ⟨V,hV⟩:∃V9,V9=V.setCells g 0 [.int .i64 0,.int .i64 0,.int .i64 0,.slice none 0 0,.slice none 0 0,.slice none 0 0,.slice none 0 0]:=⟨_,rfl⟩;rw [←hV] at HR HB;rw [←hV];have HL:=hid (show g<V.heap.size from Znx _ _ (HR.out 0 _ rfl));clear hV;(first|refine hK9 _ _ (HB.out) ?_|refine hK9 _ _ (fun _=>HB.out) ?_);clear hK9 K9;(try go_frame);try simp only [Z0w,Znt])
   | ((first|refine Z6f (fun K9 hK9=>?_)|refine Z51 rfl (fun K9 hK9=>?_));go_simp;(first
     | (refine (Zjg x.kk _).mono ?_;rintro e V ⟨rfl,hb⟩;have HB:=hid (HB.out.trans (hb.mono HB.out.size));(try have HK:=hid (HK.out.new_ hb));clear hb)
     | (refine (Zfz bp cc sn A m (zPgR x.kk) _ (HS0.out.new_ (HB.out)) HO.out (by omega) HH0.out).mono ?_;rintro e V ⟨rfl,hb⟩;have HB:=hid (HB.out.trans (hb.mono HB.out.size));(try have HK:=hid (HK.out.new_ hb));clear hb)
     | (obtain ⟨g,hg⟩:∃g,g=V.heap.size:=⟨_,rfl⟩;have hk:=Blk.new V 226 #[.int .i64 0,.int .i64 0,.int .i64 0,.slice none 0 0,.slice none 0 0,.slice none 0 0,.slice none 0 0];have HG:=hid (show W0.heap.size≤g by rw [hg];exact HB.out.size);have HB:=hid (HB.out.alloc HB.out.size (.cells #[.int .i64 0,.int .i64 0,.int .i64 0,.slice none 0 0,.slice none 0 0,.slice none 0 0,.slice none 0 0] 226));obtain ⟨V,hV⟩:∃V9,V9=V.alloc (.cells #[.int .i64 0,.int .i64 0,.int .i64 0,.slice none 0 0,.slice none 0 0,.slice none 0 0,.slice none 0 0] 226):=⟨_,rfl⟩;rw [←hV,←hg] at hk;rw [←hV] at HB;have HK:=hid hk;rw [←hV,←hg];clear hV hk hg)|fail);(first|refine hK9 _ _ (HB.out) ?_|refine hK9 _ _ (fun _=>HB.out) ?_);clear hK9 K9;(try go_frame);try simp only [Z0w,Znt])
   | (refine Z52 ⟨?_,?_⟩)|fail)
  all_goals
   refine Z52 ?_;simp only [Z04];refine hKK _ _ ?_;clear hKK KK;(go_wp2_with fail);go_meet
   case rel=>exact ⟨rfl,HB.out⟩
 case rest=>
  obtain ⟨rfl,hB⟩:=hcut;have r0:=(HM0.out.new_ hB).c1;have hX:=HX0.out.new_ hB;have HX:=hid hX;have hml2:=(HM0.out.new_ hB).lt;have hxl2:=hX.lt;have HB:=hid hB;have HS2:=hid (HS0.out.new_ hB);obtain ⟨x0,x1,x2,x3,x4,x5⟩:=hX.c6;clear hB hX s1;(go_wp2_with fail);refine Z0c (fun w9=>Below wc.heap.size wc w9) [(0,0),(1,0),(2,0),(3,1),(4,0),(5,1),(6,0),(7,2),(8,0)] (by kernel_rfl) (by kernel_rfl) (fun KK hKK=>?_);simp only [Z0w,Znz,Znt,Znv,Znr,Zns,Zo1];(repeat ((first|(refine Z0m ?_ (Or.inl ⟨by rfl,fun w9=>?_⟩) ?_;rotate_left 1;go_simp;with_reducible rfl)|(refine Z0k ?_ (((Znk _ _).drew)) (Or.inl ⟨by rfl,fun w9 hw9=>?_⟩) ?_;rotate_left 1;obtain ⟨hc9,hf9⟩:=Z1e hw9;go_simp;with_reducible rfl)|refine Z0m undef (Or.inr ⟨by rfl,rfl⟩) ?_|refine Z0k undef (((Znk _ _).drew)) (Or.inr ⟨by rfl,rfl⟩) ?_);go_frame));refine Z1y (by kernel_rfl) (fun K9 hK9=>?_);go_simp;refine (Zik bp cc sn A m x _ (HS2.out.new_ ((Znk _ _).drew)) HO.out (by omega)).mono ?_;rintro e w5 ⟨rfl,hch⟩;have HP:=hid hch;clear hch;refine hK9 _ _ ?_;clear hK9 K9;(repeat ((first|(refine Z0m ?_ (Or.inl ⟨by rfl,fun w9=>?_⟩) ?_;rotate_left 1;go_simp;with_reducible rfl)|(refine Z0k ?_ (((Znk _ _).drew)) (Or.inl ⟨by rfl,fun w9 hw9=>?_⟩) ?_;rotate_left 1;obtain ⟨hc9,hf9⟩:=Z1e hw9;go_simp;with_reducible rfl)|refine Z0m undef (Or.inr ⟨by rfl,rfl⟩) ?_|refine Z0k undef (((Znk _ _).drew)) (Or.inr ⟨by rfl,rfl⟩) ?_);go_frame));refine Z16 ?_;simp only [Z04];refine hKK _ _ ?_;clear hKK KK;(go_wp2_with fail);go_ret;have hBB:Below w.heap.size w wc:=HB0.out.trans (HB.out.mono (by omega));obtain ⟨sn',A',c',g1,g2,g3⟩:=HP.out;refine ⟨by rw [HH.out]<;>rfl,sn',A',c',g1,(Fr.of_new hBB).trans ((Fr.refl _ wc).drew.trans g2),Z32.of_PgR hBB g3⟩
end
end Go.Proofs.YtfidcfjcmlgkbaaGreat
