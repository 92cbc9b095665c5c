/-
  Texts put together: BkWk, FindBnum, OpsBnum, PutBnum, NewBnum, SeenFrom, FindPgR, IterPgR, OpsPgR, ListPgR, SeqP.
-/
import Derived.Test.YtfidcfjcmlgkbaaGreatPHq
namespace Go.Proofs.YtfidcfjcmlgkbaaGreat
open Lib (hid)
set_option maxRecDepth 100000
set_option maxHeartbeats 32000000
set_option linter.unusedSimpArgs false
section
open Go.RowKit Go.Shelf
theorem Zld {α:Type} {r:RepT α} {D:Nat→Prop} {w:World} {g:Nat} {t:TypeId} {cs:List Value} {a:α} (hb:Blk w g t cs.toArray) (hD:D g) (hr:r.rep D w a cs):RowR r D w (some ⟨g,0,none⟩) 1 [a]:=by
 refine ⟨Zm8 _,by unfold maxLen;omega,fun _=>⟨g,0,rfl,hD,hb.lt,fun k hk=>?_⟩⟩;(obtain rfl:k=0:=by simp at hk;omega);exact ⟨cs,hr,fun j u hu=>by rw [show 0+0*r.size+j=j by omega,hb.cell];simpa using hu⟩
theorem Zi5 {α:Type} {r:RepT α} {D:Nat→Prop} {w:World} {g:Nat} {t:TypeId} {cs ds:List Value} {a b:α} (hb:Blk w g t (cs++ds).toArray) (hD:D g) (hr:r.rep D w a cs) (hr2:r.rep D w b ds):RowR r D w (some ⟨g,0,none⟩) 2 [a,b]:=by
 refine ⟨Zm8 _,by unfold maxLen;omega,fun _=>⟨g,0,rfl,hD,hb.lt,fun k hk=>?_⟩⟩;have hl:=r.len hr;rcases k with _ | _ | k
 · exact ⟨cs,hr,fun j u hu=>by
    have hj:j<cs.length:=(Zn5.1 hu).1
    rw [show 0+0*r.size+j=j by omega,hb.cell];simpa [Zn1 hj] using hu⟩
 · exact ⟨ds,hr2,fun j u hu=>by
    rw [show 0+(0+1)*r.size+j=r.size+j by omega,hb.cell]
    simp [Zn0 (show cs.length≤r.size+j by omega),hl,hu]⟩
 · simp at hk;omega
theorem Zke (t:ByteArray)(w:World):Calls Tryz.prog 22 #[.string t] w fun e w'=>e = .returned (.agg #[.int .i64 3,.string t,.int .i64 0])∧Below w.heap.size w w':=by
 go_enter Tryz.func22,Tryz.ntmps22;(go_wp2_with fail);exact bodyPost_ret (v:=.agg #[.int .i64 3,.string t,.int .i64 0]) (by simp [results,Tryz.results22,go_sem]) rfl ⟨rfl,by (repeat (first | exact Zm7 _ _ | refine Below.drew ?_ | refine Below.al ?_ _ | refine Below.sc ?_ _))⟩
theorem Zkd (n:Int)(w:World):Calls Tryz.prog 32 #[.int .i64 n] w fun e w'=>e = .returned (.agg #[.int .i64 2,.string ⟨#[]⟩,.int .i64 n])∧Below w.heap.size w w':=by
 go_enter Tryz.func32,Tryz.ntmps32;(go_wp2_with fail);exact bodyPost_ret (v:=.agg #[.int .i64 2,.string ⟨#[]⟩,.int .i64 n]) (by simp [results,Tryz.results32,go_sem]) rfl ⟨rfl,by (repeat (first | exact Zm7 _ _ | refine Below.drew ?_ | refine Below.al ?_ _ | refine Below.sc ?_ _))⟩
theorem Zkc (t:ByteArray) (n:Int)(w:World):Calls Tryz.prog 21 #[.string t,.int .i64 n] w fun e w'=>e = .returned (.agg #[.int .i64 1,.string t,.int .i64 n])∧Below w.heap.size w w':=by
 go_enter Tryz.func21,Tryz.ntmps21;(go_wp2_with fail);exact bodyPost_ret (v:=.agg #[.int .i64 1,.string t,.int .i64 n]) (by simp [results,Tryz.results21,go_sem]) rfl ⟨rfl,by (repeat (first | exact Zm7 _ _ | refine Below.drew ?_ | refine Below.al ?_ _ | refine Below.sc ?_ _))⟩
theorem Zih (n:Int) (w:World):Calls Tryz.prog 59 #[.int .i64 n] w fun e w'=>e = .returned (.agg #[.int .i64 1,.string ⟨#[65]⟩,.int .i64 n,.int .i64 3,.string ⟨#[120]⟩,.int .i64 0,.int .i64 2,.string ⟨#[]⟩,.int .i64 1,.bool false,.bool false,.int .i64 n])∧Below w.heap.size w w':=by
 go_enter Tryz.func59,Tryz.ntmps59;(go_upto_region 1 with fail);obtain ⟨w1,hw1⟩ : ∃w1,w1=(w.alloc (.cells #[.int .i64 0,.string ⟨#[]⟩,.int .i64 0,.int .i64 0,.string ⟨#[]⟩,.int .i64 0,.int .i64 0,.string ⟨#[]⟩,.int .i64 0,.bool false,.bool false,.int .i64 0] 62)):=⟨_,rfl⟩;rw [← hw1];have HB:=hid (show Below w.heap.size w w1 by rw [hw1];exact (by repeat (first | exact Zm7 _ _ | refine Below.drew ?_ | refine Below.al ?_ _ | refine Below.sc ?_ _)));have Kr:=hid (show Blk w1 (w.heap.size) 62 #[.int .i64 0,.string ⟨#[]⟩,.int .i64 0,.int .i64 0,.string ⟨#[]⟩,.int .i64 0,.int .i64 0,.string ⟨#[]⟩,.int .i64 0,.bool false,.bool false,.int .i64 0] by rw [hw1];exact (Blk.new w 62 #[.int .i64 0,.string ⟨#[]⟩,.int .i64 0,.int .i64 0,.string ⟨#[]⟩,.int .i64 0,.int .i64 0,.string ⟨#[]⟩,.int .i64 0,.bool false,.bool false,.int .i64 0]));clear hw1;have rz:=Kr.out.lt;(go_wp2_with fail);(with_reducible refine (Zkc ⟨#[65]⟩ n _).mono ?_);rintro e w2 ⟨rfl,hb⟩;have hbs:=Below.trans (show Below w1.heap.size w1 _ from (by (repeat (first | exact Zm7 _ _ | refine Below.drew ?_ | refine Below.al ?_ _ | refine Below.sc ?_ _)))) (hb.mono (by simp<;>omega));have Kr:=hid (Kr.out.new_ hbs);have HB:=hid (HB.out.trans (hbs.mono HB.out.size));have hsz2:=hbs.size;clear rz hb hbs;have rz:=Kr.out.lt;(go_wp2_with fail);(with_reducible refine (Zke ⟨#[120]⟩ _).mono ?_);rintro e w3 ⟨rfl,hb⟩;have hbs:=Below.trans (show Below w2.heap.size w2 _ from (by (repeat (first | exact Zm7 _ _ | refine Below.drew ?_ | refine Below.al ?_ _ | refine Below.sc ?_ _)))) (hb.mono (by simp<;>omega));have Kr:=hid (Kr.out.new_ hbs);have HB:=hid (HB.out.trans (hbs.mono HB.out.size));have hsz3:=hbs.size;clear rz hb hbs;have rz:=Kr.out.lt;(go_wp2_with fail);(with_reducible refine (Zkd 1 _).mono ?_);rintro e w4 ⟨rfl,hb⟩;have hbs:=Below.trans (show Below w3.heap.size w3 _ from (by (repeat (first | exact Zm7 _ _ | refine Below.drew ?_ | refine Below.al ?_ _ | refine Below.sc ?_ _)))) (hb.mono (by simp<;>omega));have Kr:=hid (Kr.out.new_ hbs);have HB:=hid (HB.out.trans (hbs.mono HB.out.size));have hsz4:=hbs.size;clear rz hb hbs;have rz:=Kr.out.lt;have HT:=hid (show w4.there w.heap.size 0 (#[.int .i64 1,.string ⟨#[65]⟩,.int .i64 n,.int .i64 3,.string ⟨#[120]⟩,.int .i64 0,.int .i64 2,.string ⟨#[]⟩,.int .i64 1,.bool false,.bool false,.int .i64 n]:Array Value).size from Kr.out.there);(go_wp2_with (with_reducible refine wpList_store_mid rfl 62 _ _ rfl w.heap.size 0 #[.int .i64 1,.string ⟨#[65]⟩,.int .i64 n,.int .i64 3,.string ⟨#[120]⟩,.int .i64 0,.int .i64 2,.string ⟨#[]⟩,.int .i64 1,.bool false,.bool false,.int .i64 n] rfl rfl HT.out (by kernel_rfl) (by kernel_rfl) ?_));(try simp only [Exit.inBlock,Exit.then]);have hs9:=HB.out.size;refine bodyPost_ret (v:=.agg #[.int .i64 1,.string ⟨#[65]⟩,.int .i64 n,.int .i64 3,.string ⟨#[120]⟩,.int .i64 0,.int .i64 2,.string ⟨#[]⟩,.int .i64 1,.bool false,.bool false,.int .i64 n]) ?_ rfl ⟨rfl,Below.setCells' _ _ HB.out (Zm8 _)⟩;exact Z1o (t:=2) (T:=62) rfl _ _ w.heap.size [.int .i64 1,.string ⟨#[65]⟩,.int .i64 n,.int .i64 3,.string ⟨#[120]⟩,.int .i64 0,.int .i64 2,.string ⟨#[]⟩,.int .i64 1,.bool false,.bool false,.int .i64 n] _ rfl (Zmm _ w.heap.size 0 [.int .i64 1,.string ⟨#[65]⟩,.int .i64 n,.int .i64 3,.string ⟨#[120]⟩,.int .i64 0,.int .i64 2,.string ⟨#[]⟩,.int .i64 1,.bool false,.bool false,.int .i64 n] HT.out) Tryz.underlying62 rfl (by kernel_rfl)
def Z90 (n:Int):Elem:=⟨⟨1,⟨#[65]⟩,n⟩,⟨3,⟨#[120]⟩,0⟩,⟨2,⟨#[]⟩,1⟩,false,false,n⟩
def wkR1:Z0d:=⟨5,2,[⟨Z90 3,1,0⟩,⟨Z90 7,2,4⟩],[],[],[]⟩
def wkR2:Z0d:=⟨4,2,[⟨Z90 1,1,0⟩],[],[],[]⟩
def wkL:List Z0d:=[wkR1,wkR2]
theorem Zk5:Z4k (Z3z wkL) 2 [5,4] [5] [] = [5,4]:=by kernel_rfl
theorem Zk6:Z5a (Z3z wkL) 2 [5,4]=⟨[⟨Z90 1,1,0⟩,⟨Z90 3,1,0⟩],[],[],[],2,0⟩:=by kernel_rfl
theorem Zay : ∀r∈wkL,SmR 1 r∧r.elems.length≤20:=by
 intro r hr;simp only [wkL,Zms,Zmw,or_false] at hr;rcases hr with rfl | rfl<;>exact ⟨⟨by decide,by decide,by decide,by decide,fun h hh=>by cases hh⟩,by decide⟩
end
section
open Go.RowKit
abbrev Z3u:=Z1z (α:=Bnum) 231 170 1 Bnum.cells
theorem Zah (k0 : Int) (w : World) : (nilAhead 442 170 (.int .i64 k0) "Compare").run Tryz.prog w = .ok (some false) w := by kernel_rfl
theorem Zd3 (k0 : Int) (w : World) : (method 442 170 (.int .i64 k0) "Compare").run Tryz.prog w = .ok (245, .int .i64 k0) w := by kernel_rfl
def Zgd (l:List Bnum) (x:Bnum) (w:World) (e:Ending) (w':World):Prop:=
 e = .returned (.tuple #[.int .i64 (rank Z0k l x),.bool (has Z0k l x)])∧Below w.heap.size w w'
theorem Zbi (b c:Nat) (sn:Bool) (A:Option Addr) (l:List Bnum) (x:Bnum) (w:World) (hS:Z3u w b sn A c l) (hs:Srt Z0k l) (hl:(l.length:Int)≤4611686018427387904) :
 Calls Tryz.prog 146 #[.pointer (some ⟨b,0,none⟩),.int .i64 x] w (Zgd l x w):=by
 have hrd:=hS.rd Bnum.cells_length;have h0:=hS.cell0;have hb:=hS.lt;clear hS;have HS:=hid hs;have HRD:=hid hrd;clear hs hrd;go_enter Tryz.func146,Tryz.ntmps146;(go_wp2_with fail);go_quiet (fail);(go_wp2_with fail);obtain ⟨W0,hW0⟩ : ∃W0,W0=(w.drewN nq):=⟨_,rfl⟩;(have hB0:Below w.heap.size w W0:=by rw [hW0];exact Below.drewN' (Zm7 _ _) _);rw [← hW0];clear hW0;have HB0:=hid hB0;clear hB0
 go_loopw [6,7] (fun lo hi wr=>∃i j:Nat,lo = .int .i64 i∧hi = .int .i64 j∧i≤j∧j≤l.length∧(∀k,(h:k<l.length)→k<i→Z0k l[k] x<0)∧(∀k,(h:k<l.length)→j≤k→0<Z0k l[k] x)∧Below W0.heap.size W0 wr) (fun lo hi wr=>(intOf hi).toNat - (intOf lo).toNat)
 case atStart=>exact ⟨0,l.length,rfl,rfl,Nat.zero_le _,Zm8 _,fun k _ h=>absurd h (by omega),fun k h h'=>absurd h (by omega),Zm7 _ _⟩
 case round=>
  obtain ⟨i,j,rfl,rfl,hij,hj,hlo,hhi,hB⟩:=hrel;have HLO:=hid hlo;have HHI:=hid hhi;clear hlo hhi;have hsz:w.heap.size≤W0.heap.size:=HB0.out.size;by_cases hlt:i<j
  · obtain ⟨m,hm⟩ : ∃m,m=i+(j - i) / 2:=⟨_,rfl⟩
    (have hml:m<l.length:=by omega);(have hmj:m<j:=by omega);(have hmi:i≤m:=by omega);(have e1:((i:Int)+((j:Int) - (i:Int)) / 2)=(m:Int):=by omega);have E1:=hid e1;clear e1 hm;obtain ⟨g,off,rfl,hgs,hcell⟩:=HRD.out.at_ hml;have low : ∀(p:Addr),p.block<w.heap.size→wr.cell? p=w.cell? p:=fun p hp=>(hB.cell (p:=p) (by omega)).trans (HB0.out.cell (p:=p) hp);have r0:=(low ⟨b,0,none⟩ hb).trans h0;have q0:wr.cell? ⟨g,off+m,none⟩=some (.int .i64 l[m]):=(low ⟨g,off+m,none⟩ hgs).trans (by simpa using hcell 0 _ rfl);(have b1:(0:Int)≤(m:Int):=by omega);(have b2:(m:Int)<(l.length:Int):=by omega);have hsw:W0.heap.size≤wr.heap.size:=hB.size;have N:=Zah;have M:=Zd3;clear low hcell h0;have HB:=hid hB;clear hB;obtain ⟨y,hy⟩ : ∃y,y=l[m]:=⟨_,rfl⟩;rw [← hy] at q0;have HY:=hid hy;clear hy;(have hbw:b<wr.heap.size:=by omega);(have hgw:g<wr.heap.size:=by omega);(go_upto_region 4 with (fail));rw [E1.out];(go_wp2_with fail);refine (Za3 y x _).mono ?_;rintro e w1 ⟨rfl,hb1⟩;have HB1:Below W0.heap.size W0 w1:=HB.out.trans (hb1.mono hsw);clear r0 q0 N M;have HB1':=hid HB1;clear HB1;by_cases hc:Z0k y x=0
    · have HC:=hid hc
      (have t1:(Z0k y x == 0)=true:=by simp [hc]);clear hc;(go_wp2_with fail);go_ret2;have e:=HC.out;rw [HY.out] at e;refine ⟨?_,HB0.out.trans (HB1'.out.mono (by omega))⟩;rw [Z4r Z3v HS.out hml e,(Z5h Z3v HS.out hml e).2.2.1];rfl
    · have t1:(Z0k y x == 0)=false:=by simp [hc]
      by_cases hc2:Z0k y x<0
      · have HC:=hid hc2
        (have t2:decide (Z0k y x<0)=true:=by simpa using hc2);clear hc hc2;(go_wp2_with fail);go_roundw
        case rel=>
         refine ⟨m+1,j,by go_num,rfl,by omega,hj,fun k h1 h2=>?_,HHI.out,HB1'.out⟩;have e:=HC.out;rw [HY.out] at e;rcases Nat.lt_or_ge k m with h3 | h3
         · exact Z3v.lt_of_lt_of_le (HS.out.lt h3 hml) (by omega)
         · obtain rfl:k=m:=by omega
           exact e
        case measure=>simp [intOf];omega
      · have t2:decide (Z0k y x<0)=false:=by simpa using hc2
        (have hc3:0<Z0k y x:=by omega);have HC:=hid hc3;clear hc hc2 hc3;(go_wp2_with fail);go_roundw
        case rel=>
         refine ⟨i,m,rfl,rfl,by omega,by omega,HLO.out,fun k h1 h2=>?_,HB1'.out⟩;have e:=HC.out;rw [HY.out] at e;rcases Nat.lt_or_ge m k with h3 | h3
         · exact (Z3v.symm _ _).1 (Z3v.lt_trans ((Z3v.symm _ _).2 e) (HS.out.lt h3 h1))
         · obtain rfl:k=m:=by omega
           exact e
        case measure=>simp [intOf];omega
  · obtain rfl:i=j:=by omega
    have HB:=hid hB;clear hB;(go_wp2_with fail);go_ret2;refine ⟨?_,HB0.out.trans (HB.out.mono (by omega))⟩;rw [Z4q hj HLO.out HHI.out,(Z68 HLO.out HHI.out).2.2];rfl
theorem Zbn:(Tryz.prog.info? 170).map (fun i=>(i.zero,i.size,i.bytes))=some (some (.int .i64 0),1,8):=by kernel_rfl
theorem Bnum.one (x:Bnum) : ∀u∈Bnum.cells x,u.oneCell'=true:=by intro u hu;simp [Bnum.cells] at hu;rcases hu with rfl<;>rfl
theorem Bnum.oneAll (l:List Bnum) : ∀u∈l.flatMap Bnum.cells,u.oneCell'=true:=by intro u hu;obtain ⟨x,_,hx⟩:=List.mem_flatMap.1 hu;exact Bnum.one x u hx
def Z63 (w:World) (b:Nat) (sn:Bool) (A:Option Addr) (l:List Bnum) (e:Ending) (w':World):Prop:=
 e = .returned (.tuple #[])∧∃A' c',Z3u w' b false A' c' l∧Fr (· = b) w w'∧Z2w w sn A false A'
theorem Zdg (b c:Nat) (A:Option Addr) (l:List Bnum) (w:World) (hS:Z3u w b false A c l) :
 Calls Tryz.prog 147 #[.pointer (some ⟨b,0,none⟩)] w (Z63 w b false A l):=by
 have h1:=hS.cell1;have HS:=hid hS;clear hS;go_enter Tryz.func147,Tryz.ntmps147;go_wp2;go_end0;exact ⟨rfl,A,c,HS.out,Fr.refl _ _,.inl ⟨rfl,rfl⟩⟩
theorem Zc3 (b c:Nat) (A:Option Addr) (l:List Bnum) (w:World) (hS:Z3u w b true A c l) (hl:(l.length:Int)≤1000000000) :
 Calls Tryz.prog 147 #[.pointer (some ⟨b,0,none⟩)] w (Z63 w b true A l):=by
 obtain ⟨i0,hi,hz0,hz1,hz2⟩:=info_parts Zbn;have h0:=hS.cell0;have h1:=hS.cell1;have hb:=hS.lt;have f0:=hS.blk.frozen 0;have f1:=hS.blk.frozen 1;have hrd:=hS.rd Bnum.cells_length;have HB:=hid hS.blk;have HRD:=hid hrd;clear hS hrd;have e1:IntKind.i64.wrap ((l.length:Int)+1)=(l.length:Int)+1:=Zmh _ (by omega)
 have hmk : ∀W:World,(Instr.makeSlice 229 (.int .i64 0) (.int .i64 ((l.length:Int)+1))).run Tryz.prog W = .ok (.slice (some ⟨W.heap.size,0,none⟩) 0 (l.length+1)) (W.alloc (.cells (madeCells (Value.cells (.int .i64 0)) ((l.length+1))) 170)):=fun W=>by
  have h:=run_make (P:=Tryz.prog) W 229 170 i0 _ Tryz.underlying229 hi hz0 .i64 .i64 0 ((l.length:Int)+1) (by omega) (by omega) (by rw [hz2];omega) (by omega);rw [hz1] at h;simpa [show ((l.length:Int)+1).toNat=l.length+1 by omega] using h
 go_enter Tryz.func147,Tryz.ntmps147;(go_wp2_with fail);refine Z0c (fun w9=>Below w.heap.size w w9) [(0,0),(1,0),(2,0),(3,0),(4,1),(5,0),(6,0),(8,0),(9,0),(10,0),(11,1),(7,2),(12,2),(13,0),(14,0),(15,2)] (by kernel_rfl) (by kernel_rfl) (fun KK hKK=>?_);simp only [Z0v,Zmn,Zme,Zml,Zmg,Zmf,Zmo];(repeat ((first | (refine Z0m ?_ (Or.inl ⟨by rfl,fun w9=>?_⟩) ?_;rotate_left 1;go_simp;with_reducible rfl) | (refine Z0l ?_ (((Zm7 _ _).drew)) (Or.inl ⟨by rfl,fun w9 hw9=>?_⟩) ?_;rotate_left 1;obtain ⟨hc9,hf9⟩:=Z1a hw9;go_simp;with_reducible rfl) | refine Z0m undef (Or.inr ⟨by rfl,rfl⟩) ?_ | refine Z0l undef (((Zm7 _ _).drew)) (Or.inr ⟨by rfl,rfl⟩) ?_);go_frame));refine Z2v (fun K9 hK9=>?_);go_simp;refine hK9 _ _ (((Zm7 _ _).drew).alloc (Zm8 _) _) ?_;clear hK9 K9;refine Z1w (by kernel_rfl) (fun K9 hK9=>?_)
 refine Z0s _ (by rfl) _ _ _ (by rfl) 170 i0 _ 1 8 Tryz.underlying229 hi hz0 hz1 hz2 rfl (by omega) _ 0 [] (by rfl) (World.ownsRow_made _ _ _ (Nat.zero_le _) (by unfold maxLen;omega) (by simp [madeCells])) A l.length c (l.flatMap Bnum.cells) (by rfl) (Z0f Bnum.cells_length l)
  ((HRD.out.drew.alloc _).news Bnum.cells_length (by omega)) (Bnum.oneAll l) (by unfold maxLen;omega) (by omega) ?_
 intro v2 w2 hown hgr hnil hat;refine hK9 _ _ ?_;clear hK9 K9;rw [Zmz,Zmr] at hown;obtain ⟨A',c',rfl,_,_,hz⟩:=Z0y hown;have HB1:=(HB.out.drew.alloc (.cells (madeCells (Value.cells (.int .i64 0)) ((l.length+1))) 170)).grown hgr (by simp [Value.ownBlock];omega);have c0:=(HB1.cell 0).trans rfl;have c1:=(HB1.cell 1).trans rfl;have z0:=HB1.frozen 0;have z1:=HB1.frozen 1;have HB2:=hid HB1;clear HB1;(repeat ((first | (refine Z0m ?_ (Or.inl ⟨by rfl,fun w9=>?_⟩) ?_;rotate_left 1;go_simp;with_reducible rfl) | (refine Z0l ?_ (((Zm7 _ _).drew).alloc (Zm8 _) _) (Or.inl ⟨by rfl,fun w9 hw9=>?_⟩) ?_;rotate_left 1;obtain ⟨hc9,hf9⟩:=Z1a hw9;go_simp;with_reducible rfl) | refine Z0m undef (Or.inr ⟨by rfl,rfl⟩) ?_ | refine Z0l undef (((Zm7 _ _).drew).alloc (Zm8 _) _) (Or.inr ⟨by rfl,rfl⟩) ?_);go_frame));refine Z1w (by kernel_rfl) (fun K9 hK9=>?_);go_simp;refine hK9 _ _ ?_;clear hK9 K9;refine Z1b ?_;simp only [Z03];refine hKK _ _ ?_;clear hKK KK;go_wp2;go_end0
 have hb2:(Value.slice A' l.length c').ownBlock=some w.heap.size∨(Value.slice A' l.length c').ownBlock=some (w.heap.size+1):=by
  rcases hat with h | h
  · left;rw [h];rfl
  · right;rw [h];simp
 have hA : ∃g,w.heap.size≤g∧A'=some ⟨g,0,none⟩:=by
  rcases A' with _ | a
  · exfalso;simp [Value.ownBlock] at hb2
  · obtain ⟨g,rfl⟩:=hz a rfl
    refine ⟨g,?_,rfl⟩;simp [Value.ownBlock] at hb2;omega
 obtain ⟨g,hg,rfl⟩:=hA;have HB1:=HB2.out;have HF:Fr (· = b) w w2:=((Fr.refl (· = b) w).drew.alloc _).grown hgr (fun k e=>by simp [Value.ownBlock] at e;right;omega);refine ⟨rfl,some ⟨g,0,none⟩,c',⟨(HB1.set_ 0 _).set_ 1 _,?_⟩,(HF.setCell (p:=⟨b,0,none⟩) (.inl rfl) _).setCell (p:=⟨b,1,none⟩) (.inl rfl) _,.inr ⟨rfl,g,hg,rfl⟩⟩;(have hne:(Value.slice (some ⟨g,0,none⟩) l.length c').ownBlock≠some b:=by simp [Value.ownBlock];omega);exact ownsRow_setCell_other (a:=⟨b,1,none⟩) (ownsRow_setCell_other (a:=⟨b,0,none⟩) hown hne _) hne _
theorem Zjs (b c:Nat) (sn:Bool) (A:Option Addr) (l:List Bnum) (w:World) (hS:Z3u w b sn A c l) (hl:(l.length:Int)≤1000000000) :
 Calls Tryz.prog 147 #[.pointer (some ⟨b,0,none⟩)] w (Z63 w b sn A l):=by
 cases sn
 · exact Zdg b c A l w hS
 · exact Zc3 b c A l w hS hl
def Z65 (w:World) (b:Nat) (sn:Bool) (A:Option Addr) (l:List Bnum) (x:Bnum) (e:Ending) (w':World):Prop:=
 e = .returned (.bool (!has Z0k l x))∧∃sn' A' c',Z3u w' b sn' A' c' (put Z0k l x)∧Fr (Z1d b sn A) w w'∧Z2w w sn A sn' A'
theorem Z9a (b c:Nat) (sn:Bool) (A:Option Addr) (l:List Bnum) (x:Bnum) (w:World) (hS:Z3u w b sn A c l) (hs:Srt Z0k l) (hl:(l.length:Int)≤100000000) (hh:has Z0k l x=true) :
 Calls Tryz.prog 108 #[.pointer (some ⟨b,0,none⟩),.int .i64 x] w (Z65 w b sn A l x):=by
 have HS:=hid hS;have HO:=hid hs;clear hS hs;go_enter Tryz.func108,Tryz.ntmps108;(go_wp2_with fail);refine (Zbi b c sn A l x _ (HS.out.new_ (Zm7 _ _)) HO.out (by omega)).mono ?_;rintro e w1 ⟨rfl,hb1⟩;(go_wp2_with fail);go_ret;refine ⟨by rw [hh];rfl,sn,A,c,?_,Fr.of_new ((Zm7 _ _).trans (hb1.mono (by simp))),.inl ⟨rfl,rfl⟩⟩;rw [Z4b hh];exact HS.out.new_ ((Zm7 _ _).trans (hb1.mono (by simp)))
theorem Zc7 (b c:Nat) (sn:Bool) (A:Option Addr) (l:List Bnum) (x:Bnum) (w:World) (hS:Z3u w b sn A c l) (hs:Srt Z0k l) (hl:(l.length:Int)≤100000000) (hh:has Z0k l x=false) :
 Calls Tryz.prog 108 #[.pointer (some ⟨b,0,none⟩),.int .i64 x] w (Z65 w b sn A l x):=by
 obtain ⟨i0,hi,hz0,hz1,hz2⟩:=info_parts Zbn;have HS:=hid hS;have HO:=hid hs;have hb:=hS.lt;clear hS hs;have hrk:=Z6b (cmp:=Z0k) l x;go_enter Tryz.func108,Tryz.ntmps108;(go_wp2_with fail);have hSa:=HS.out.new_ (Zm7 w.heap.size w);have HSa:=hid hSa;clear hSa;refine (Zbi b c sn A l x _ HSa.out HO.out (by omega)).mono ?_;rintro e w1 ⟨rfl,hb1⟩;have HS1:=hid (HSa.out.new_ hb1);(have hsz1:w.heap.size≤w1.heap.size:=by have:=hb1.size;(try simp at this);omega);have HB1:=hid hb1;clear hb1;(go_wp2_with fail);refine (Zjs b c sn A l _ HS1.out (by omega)).mono ?_;rintro e w2 ⟨rfl,A1,c1,hS2,hF2,hM2⟩;have hsz2:w1.heap.size≤w2.heap.size:=hF2.size;have s0:=hS2.cell0;have f0:=hS2.blk.frozen 0;(have hb2:b<w2.heap.size:=by omega);have HS2:=hid hS2;have HF2:=hid hF2;have HM2:=hid hM2;clear hS2 hF2 hM2
 go_upto_region 8 with
  (at_builtin;refine Z07 (w2.alloc (.cells #[.int .i64 x] 170)) rfl (.tmp 23) (.tmp 25) 229 rfl 170 i0 _ 1 8 Tryz.underlying229 hi hz0 hz1 hz2 rfl (by omega) (.slice A1 l.length c1) l.length (l.flatMap Bnum.cells) rfl (Z04 HS2.out.row ((Zm7 _ _).alloc (Zm8 _) _)) (some ⟨w2.heap.size,0,none⟩) 1 1 (Bnum.cells x) rfl rfl (fun _=>⟨_,rfl,Zmu (heap_alloc_new _ _)⟩) (Bnum.one x) (by unfold maxLen;omega) (by omega) ?_;
   intro v2 w3 hown hgr hnil hat;
   obtain ⟨g,c2,rfl⟩ : ∃g c2,v2 = .slice (some ⟨g,0,none⟩) (l.length+1) c2:=(by
    rcases Z0b hown with ⟨_,h0,_⟩ | ⟨g,c2,h,_⟩
    · omega
    · exact ⟨g,c2,h⟩);
   have HB3':=(HS2.out.blk.alloc (.cells #[.int .i64 x] 170)).grown hgr (Z02 HS2.out.row HS2.out.blk (by decide));
   have c0:=(HB3'.cell 0).trans rfl;
   have z0:=HB3'.frozen 0;
   have HB3:=hid HB3';
   have HOWN:=hid hown;
   have HGR:=hid hgr;
   clear HB3' hown hgr)
 have hlg:((l.length+1:Nat):Int)=(l.length:Int)+1:=by omega
 have hG:(Z1d b sn A g∨w.heap.size≤g)∧Z2w w sn A false (some ⟨g,0,none⟩)∧True∧g≠b:=by
  rcases hat with h | h
  · rcases A1 with _ | a1
    · simp [Value.ownBlock] at h
    · obtain ⟨A',c',hv,_,_,hz⟩:=Z0y HS2.out.row
      injection hv with hv _ _;obtain ⟨g',rfl⟩:=hz a1 hv.symm;(have hgg:g'=g:=by simpa [Value.ownBlock] using h.symm);subst hgg;have hne:g'≠b:=HS2.out.row_ne (by decide) _ rfl;rcases HM2.out with ⟨hsn,hA⟩ | ⟨_,g2,hg2,hA⟩
      · have h1:=HS.out.row_lt _ hA.symm
        exact ⟨.inl (.inr ⟨hsn.symm,_,hA.symm,rfl⟩),.inl ⟨hsn,hA⟩,True.intro,hne⟩
      · injection hA with hA
        injection hA with hA;subst hA;exact ⟨.inr (by omega),.inr ⟨rfl,_,by omega,rfl⟩,True.intro,hne⟩
  · have hgg:g=w2.heap.size+1:=by simpa [Value.ownBlock] using h
    subst hgg;exact ⟨.inr (by omega),.inr ⟨rfl,_,by omega,rfl⟩,True.intro,by omega⟩
 obtain ⟨hgM,hgMv,hgk1,hgb⟩:=hG;obtain ⟨w4,hw4⟩ : ∃w4,w4=w3.setCell ⟨b,0,none⟩ (.slice (some ⟨g,0,none⟩) (l.length+1) c2):=⟨_,rfl⟩;have hB4:Blk w4 b 231 #[.slice (some ⟨g,0,none⟩) (l.length+1) c2,.bool false]:=by rw [hw4];exact HB3.out.set_ 0 _
 have hR4:w4.ownsRow 0 170 1 (.slice (some ⟨g,0,none⟩) (l.length+1) c2) (l.length+1) ((Z0p l x l.length).flatMap Bnum.cells):=by
  rw [hw4,Z2r];refine ownsRow_setCell_other (a:=⟨b,0,none⟩) ?_ (by simpa [Value.ownBlock] using hgb) _;rw [Zmq,List.flatMap_singleton];exact HOWN.out
 have hF4:Fr (Z1d b sn A) w w4:=by
  rw [hw4];have h1:Fr (Z1d b sn A) w w1:=Fr.of_new ((Zm7 _ _).trans (HB1.out.mono (by simp)));have h2:Fr (Z1d b sn A) w w2:=h1.trans (HF2.out.mono (fun k _ h=>.inl h));refine ((h2.alloc _).grown HGR.out (fun k hk=>?_)).setCell (p:=⟨b,0,none⟩) (.inl (.inl rfl)) _;rcases A1 with _ | a1
  · cases hk
  · simp only [Value.ownBlock,Option.some.injEq] at hk
    subst hk;rcases HM2.out with ⟨hsn,hA⟩ | ⟨_,g',hg',hA⟩
    · left;right;exact ⟨hsn.symm,a1,hA.symm,rfl⟩
    · injection hA with hA
      subst hA;right;dsimp only;omega
 rw [← hw4];have HgM:=hid hgM;have HgMv:=hid hgMv;have HB4:=hid hB4;have HR4:=hid hR4;have HF4:=hid hF4;have s4:=hB4.cell 0;have s4':w4.cell? ⟨b,0,none⟩=some (.slice (some ⟨g,0,none⟩) (l.length+1) c2):=s4;clear s4 hw4 hB4 hR4 hF4 hat hgM hgMv hnil  s0 f0;go_wp2_with fail
 go_loopw [7] (fun s wr=>∃i:Nat,s = .int .i64 i∧rank Z0k l x≤i∧i≤l.length∧wr.ownsRow 0 170 1 (.slice (some ⟨g,0,none⟩) (l.length+1) c2) (l.length+1) ((Z0p l x i).flatMap Bnum.cells)∧Fr (· = g) w4 wr) (fun s wr=>(intOf s).toNat)
 case atStart=>exact ⟨l.length,by go_num,hrk,Zm8 _,HR4.out,Fr.refl _ _⟩
 case round=>
  obtain ⟨i,rfl,hi1,hi2,hown,hfr⟩:=hrel;have hgw:g<wr.heap.size:=(hown.lt g rfl).2;have r0:wr.cell? ⟨b,0,none⟩=some (.slice (some ⟨g,0,none⟩) (l.length+1) c2):=(hfr.cell (p:=⟨b,0,none⟩) HB4.out.lt (fun h=>hgb h.symm)).trans s4';have fz : ∀o,wr.frozen? ⟨g,o,none⟩=false:=fun o=>hown.frozenAt o;have HOW:=hid hown;have HFR:=hid hfr;clear hown hfr;by_cases hlt:rank Z0k l x<i
  · obtain ⟨j,rfl⟩ : ∃j,i=j+1:=⟨i - 1,by omega⟩
    (have hj:j<l.length:=by omega);have hrd:=Z0x (A:=some ⟨g,0,none⟩) (c:=c2) (l:=Z0p l x (j+1)) Bnum.cells_length (by rw [Z0a l x hi2];exact HOW.out);obtain ⟨g',o',hgo,_,hcell⟩:=hrd.at_ (k:=j) (by rw [Z0a l x hi2];omega);injection hgo with hgo;injection hgo with hg1 hg2;subst hg1;subst hg2;rw [Z34 l x hj] at hcell;have q0:wr.cell? ⟨g,j,none⟩=some (.int .i64 l[j]):=by simpa using hcell 0 _ rfl
    have rmj:Room wr g 170 (c2*1)∧l.length+1≤c2:=by
     rcases Z0b HOW.out with ⟨hv,_⟩ | ⟨g',cap,hv,hn,_,hr,_⟩
     · cases hv
     · injection hv with hA _ hc
       injection hA with hA;injection hA with hA;subst hA;subst hc;exact ⟨hr,hn⟩
    obtain ⟨hrm,hcap⟩:=rmj;obtain ⟨u0,t0⟩:=hrm.cell (i:=(j+1)) (by omega);(have b0:(0:Int)≤(j:Int)+1:=by omega);(have b1:(0:Int)≤(j:Int):=by omega);(have b4:(j:Int)<(l.length:Int):=by omega);(have b2:(j:Int)<(l.length:Int)+1:=by omega);(have b3:(j:Int)+1<(l.length:Int)+1:=by omega);have w1:IntKind.i64.wrap ((j:Int))=(j:Int):=Zmh _ (by omega);(have w2:IntKind.i64.wrap ((j:Int)+1 - 1)=(j:Int):=by rw [Zmh _ (by omega)];omega);clear hcell hrd hrm;obtain ⟨y,hy⟩ : ∃y,y=l[j]:=⟨_,rfl⟩;rw [← hy] at q0;have HY:=hid hy;have hbw:b<wr.heap.size:=Zmj wr _ r0;clear hy;(go_wp2_with fail);refine Z0c (fun w9=>Below wr.heap.size wr w9) [(0,0),(1,0),(2,0),(3,1),(4,0),(5,0),(6,0),(7,0),(8,1),(9,0),(10,0),(11,0),(12,1),(13,0),(14,2)] (by kernel_rfl) (by kernel_rfl) (fun KK hKK=>?_);simp only [Z0v,Zmn,Zme,Zml,Zmg,Zmf,Zmo];(repeat ((first | (refine Z0m ?_ (Or.inl ⟨by rfl,fun w9=>?_⟩) ?_;rotate_left 1;go_simp;with_reducible rfl) | (refine Z0l ?_ (((Zm7 _ _).drew)) (Or.inl ⟨by rfl,fun w9 hw9=>?_⟩) ?_;rotate_left 1;obtain ⟨hc9,hf9⟩:=Z1a hw9;go_simp;with_reducible rfl) | refine Z0m undef (Or.inr ⟨by rfl,rfl⟩) ?_ | refine Z0l undef (((Zm7 _ _).drew)) (Or.inr ⟨by rfl,rfl⟩) ?_);go_frame));refine Z1w (by kernel_rfl) (fun K9 hK9=>?_);go_simp;refine hK9 _ _ ?_;clear hK9 K9;refine Z1b ?_;simp only [Z03];refine hKK _ _ ?_;clear hKK KK;(go_wp2_with fail);go_roundw
    case rel=>
     refine ⟨j,by go_num,by omega,by omega,?_,Fr.drew ((HFR.out).setCell (p:=⟨g,(j+1),none⟩) (.inl rfl) (_))⟩;have hst:=((HOW.out).stored ((j+1)) (.int .i64 y)).1
     have he:setAll ((Z0p l x (j+1)).flatMap Bnum.cells) ((j+1)) (Bnum.cells y)=(Z0p l x j).flatMap Bnum.cells:=by
      rw [Z47 Bnum.cells_length (by omega) _ (j+1) (by rw [Z0a l x hi2];omega),HY.out,Z35 l x hj]
     rw [← he];exact hst
    case measure=>simp [intOf]<;>omega
  · obtain rfl:i=rank Z0k l x:=by omega
    have rmj:Room wr g 170 (c2*1)∧l.length+1≤c2:=by
     rcases Z0b HOW.out with ⟨hv,_⟩ | ⟨g',cap,hv,hn,_,hr,_⟩
     · cases hv
     · injection hv with hA _ hc
       injection hA with hA;injection hA with hA;subst hA;subst hc;exact ⟨hr,hn⟩
    obtain ⟨hrm,hcap⟩:=rmj;obtain ⟨k,hk⟩ : ∃k,k=rank Z0k l x:=⟨_,rfl⟩;rw [← hk] at hi2 hlt ⊢;obtain ⟨u0,t0⟩:=hrm.cell (i:=k) (by omega);(have b1:(0:Int)≤(k:Int):=by omega);(have b2:(k:Int)<(l.length:Int)+1:=by omega);have HK:=hid hk;have hbw:b<wr.heap.size:=Zmj wr _ r0;clear hrm hk;(go_wp2_with fail);go_ret;have HOWk:=HOW.out;rw [← HK.out] at HOWk;have hst:=((HOWk).stored (k) (.int .i64 x)).1
    have he:setAll ((Z0p l x k).flatMap Bnum.cells) (k) (Bnum.cells x)=(put Z0k l x).flatMap Bnum.cells:=by
     rw [Z47 Bnum.cells_length (by omega) _ k (by rw [Z0a l x hi2];omega),Z3n l x hi2,Z8s Z3v HO.out hh,HK.out]
    have hln:=Z3m Z3v HO.out hh;refine ⟨by rw [hh];rfl,false,some ⟨g,0,none⟩,c2,⟨?_,?_⟩,?_,?_⟩
    · rw [hln]
      exact (HB4.out.fr HFR.out (fun h=>hgb h.symm)).far (p:=⟨g,k,none⟩) (fun h=>hgb h.symm) _
    · rw [hln,← he]
      exact hst
    · exact HF4.out.into (((HFR.out).setCell (p:=⟨g,k,none⟩) (.inl rfl) (_))) (fun k hk=>by subst hk;exact HgM.out)
    · exact HgMv.out
theorem Zem (b c:Nat) (sn:Bool) (A:Option Addr) (l:List Bnum) (x:Bnum) (w:World) (hS:Z3u w b sn A c l) (hs:Srt Z0k l) (hl:(l.length:Int)≤100000000) :
 Calls Tryz.prog 108 #[.pointer (some ⟨b,0,none⟩),.int .i64 x] w (Z65 w b sn A l x):=by
 cases hh:has Z0k l x
 · exact Zc7 b c sn A l x w hS hs hl hh
 · exact Z9a b c sn A l x w hS hs hl hh
def Zck (w:World) (xs:List Bnum) (e:Ending) (w':World):Prop:=
 ∃k,e = .returned (.pointer (some ⟨k,0,none⟩))∧w.heap.size≤k∧∃sn A c,Z3u w' k sn A c (puts Z0k [] xs)∧AIn A (w.heap.size≤·)∧Below w.heap.size w w'
theorem Zjk (A:Option Addr) (c:Nat) (xs:List Bnum) (w:World) (hrd:Z18 w 1 Bnum.cells A c xs) (hl:(xs.length:Int)≤10000000) :
 Calls Tryz.prog 107 #[.slice A xs.length c] w (Zck w xs):=by
 have HRD:=hid hrd;clear hrd;go_enter Tryz.func107,Tryz.ntmps107;(go_wp2_with fail);obtain ⟨W0,hW0⟩ : ∃W0,W0=w.alloc (.cells #[.slice none 0 0,.bool false] 231):=⟨_,rfl⟩;(have hb0:Below w.heap.size w W0:=by rw [hW0];exact (Zm7 _ _).alloc (Zm8 _) _);have hS0:Z3u W0 w.heap.size false none 0 []:=⟨by rw [hW0];exact Blk.new _ _ _,⟨by simp,.inl ⟨rfl,rfl⟩⟩⟩;rw [← hW0];clear hW0;have HB0:=hid hb0;have HS0:=hid hS0;clear hb0 hS0
 go_loopw [10] (fun s wr=>∃i:Nat,s = .int .i64 i∧i≤xs.length∧∃sn A' c',Z3u wr w.heap.size sn A' c' (puts Z0k [] (xs.take i))∧AIn A' (w.heap.size≤·)∧Below w.heap.size w wr) (fun s wr=>xs.length - (intOf s).toNat)
 case atStart=>exact ⟨0,rfl,Nat.zero_le _,false,none,0,HS0.out,AIn.none_ _,HB0.out⟩
 case round=>
  obtain ⟨i,rfl,hi,sn,A',c',hS,hA',hB⟩:=hrel;have HS:=hid hS;have HA:=hid hA';have HB:=hid hB;clear hS hA' hB;by_cases hlt:i<xs.length
  · obtain ⟨x,hx⟩ : ∃x,x=xs[i]:=⟨_,rfl⟩
    obtain ⟨g,off,rfl,hgs,hcell⟩:=(HRD.out.fr (Fr.of_new (M:=fun _=>False) HB.out) (fun _ _ h=>h)).at_ hlt;rw [← hx] at hcell;(have q0:wr.cell? ⟨g,off+i,none⟩=some (.int .i64 x):=by simpa using hcell 0 _ rfl);(have b1:(0:Int)≤(i:Int):=by omega);(have b2:(i:Int)<(xs.length:Int):=by omega);have HX:=hid hx;clear hcell hx;(go_wp2_with fail);have hsr:=Srt.puts Z3v (xs.take i) (Srt.nil (cmp:=Z0k))
    have hlen:(((puts Z0k [] (xs.take i)).length:Nat):Int)≤100000000:=by
     have:=Z12 Z3v (xs.take i) (Srt.nil (cmp:=Z0k));simp at this;omega
    refine (Zem w.heap.size c' sn A' _ x _ (HS.out.new_ (Zm7 _ _)) hsr hlen).mono ?_;rintro e w1 ⟨rfl,sn2,A2,c2,hS2,hF2,hM2⟩
    have hB1:Below w.heap.size w w1:=(HB.out).trans (hF2.below (by have:=HB.out.size;(try simp);omega) (fun k hk hm=>by
     rcases hm with hm | ⟨_,a,ha,hm⟩
     · omega
     · have:=HA.out a ha;omega))
    have hA2:AIn A2 (w.heap.size≤·):=by
     rcases hM2 with ⟨_,rfl⟩ | ⟨_,g2,hg2,rfl⟩
     · exact HA.out
     · intro a ha;cases ha;have:=HB.out.size;(try simp at hg2 ⊢);omega
    have HS2:=hid hS2;have HB1:=hid hB1;have HA2:=hid hA2;clear hS2 hB1 hA2 hF2 hM2 hsr hlen q0;(go_wp2_with fail);go_roundw
    case rel=>
     refine ⟨i+1,by go_num,by omega,sn2,A2,c2,?_,HA2.out,HB1.out⟩;rw [Zn8,Zmc hlt,← HX.out];simp only [Option.toList_some,Z2q];exact HS2.out
    case measure=>simp [intOf]<;>omega
  · have hie:i=xs.length:=by omega
    subst hie;(go_wp2_with fail);go_ret;refine ⟨w.heap.size,rfl,Zm8 _,sn,A',c',?_,HA.out,HB.out⟩;have:=HS.out;rwa [Zmt] at this
theorem Z1h.from_ {b:Nat} {W W1 F:World} (h:Z1h b W1 F) (hb:Below W.heap.size W W1):Z1h b W F:=by
 obtain ⟨X,hX,rfl⟩:=h;exact ⟨X,hb.trans (hX.mono hb.size),rfl⟩
theorem Z1h.size {b:Nat} {W F:World} (h:Z1h b W F):W.heap.size≤F.heap.size:=by
 obtain ⟨X,hX,rfl⟩:=h;simpa using hX.size
abbrev Z2l:=Z1z (α:=PgR) 276 226 7 PgR.cells
theorem Zbv (k0 : Int) (k1 : Int) (k2 : Int) (k3 : Value) (k4 : Value) (k5 : Value) (k6 : Value) (w : World) : (nilAhead 442 226 (.agg #[.int .i64 k0, .int .i64 k1, .int .i64 k2,  k3,  k4,  k5,  k6]) "Compare").run Tryz.prog w = .ok (some false) w := by kernel_rfl
theorem Zfw (k0 : Int) (k1 : Int) (k2 : Int) (k3 : Value) (k4 : Value) (k5 : Value) (k6 : Value) (w : World) : (method 442 226 (.agg #[.int .i64 k0, .int .i64 k1, .int .i64 k2,  k3,  k4,  k5,  k6]) "Compare").run Tryz.prog w = .ok (268, .agg #[.int .i64 k0, .int .i64 k1, .int .i64 k2,  k3,  k4,  k5,  k6]) w := by kernel_rfl
def Zik (l:List PgR) (x:PgR) (w:World) (e:Ending) (w':World):Prop:=
 e = .returned (.tuple #[.int .i64 (rank Z14 l x),.bool (has Z14 l x)])∧Below w.heap.size w w'
theorem Za8 (b c:Nat) (sn:Bool) (A:Option Addr) (l:List PgR) (x:PgR) (w:World) (hS:Z2l w b sn A c l) (hs:Srt Z14 l) (hl:(l.length:Int)≤4611686018427387904) :
 Calls Tryz.prog 183 #[.pointer (some ⟨b,0,none⟩),.agg #[.int .i64 x.kk,.int .i64 x.num,.int .i64 x.level,.slice x.elems.A x.elems.n x.elems.c,.slice x.holes.A x.holes.n x.holes.c,.slice x.aparts.A x.aparts.n x.aparts.c,.slice x.news.A x.news.n x.news.c]] w (Zik l x w):=by
 have hrd:=hS.rd PgR.cells_length;have h0:=hS.cell0;have hb:=hS.lt;clear hS;have HS:=hid hs;have HRD:=hid hrd;clear hs hrd;go_enter Tryz.func183,Tryz.ntmps183;(go_wp2_with fail);go_quiet (fail);(go_wp2_with fail);obtain ⟨W0,hW0⟩ : ∃W0,W0=((w.alloc (Obj.cells #[.int .i64 x.kk,.int .i64 x.num,.int .i64 x.level,.slice x.elems.A x.elems.n x.elems.c,.slice x.holes.A x.holes.n x.holes.c,.slice x.aparts.A x.aparts.n x.aparts.c,.slice x.news.A x.news.n x.news.c] 226)).drewN nq):=⟨_,rfl⟩;(have hB0:Below w.heap.size w W0:=by rw [hW0];exact Below.drewN' ((Zm7 _ _).alloc (Zm8 _) _) _);(have hx0:W0.cell? ⟨w.heap.size,0,none⟩=some (.int .i64 x.kk):=by rw [hW0];go_simp);(have hx1:W0.cell? ⟨w.heap.size,1,none⟩=some (.int .i64 x.num):=by rw [hW0];go_simp);(have hx2:W0.cell? ⟨w.heap.size,2,none⟩=some (.int .i64 x.level):=by rw [hW0];go_simp);(have hx3:W0.cell? ⟨w.heap.size,3,none⟩=some (.slice x.elems.A x.elems.n x.elems.c):=by rw [hW0];go_simp);(have hx4:W0.cell? ⟨w.heap.size,4,none⟩=some (.slice x.holes.A x.holes.n x.holes.c):=by rw [hW0];go_simp);(have hx5:W0.cell? ⟨w.heap.size,5,none⟩=some (.slice x.aparts.A x.aparts.n x.aparts.c):=by rw [hW0];go_simp);(have hx6:W0.cell? ⟨w.heap.size,6,none⟩=some (.slice x.news.A x.news.n x.news.c):=by rw [hW0];go_simp);rw [← hW0];clear hW0;have HB0:=hid hB0;clear hB0
 go_loopw [6,7] (fun lo hi wr=>∃i j:Nat,lo = .int .i64 i∧hi = .int .i64 j∧i≤j∧j≤l.length∧(∀k,(h:k<l.length)→k<i→Z14 l[k] x<0)∧(∀k,(h:k<l.length)→j≤k→0<Z14 l[k] x)∧Below W0.heap.size W0 wr) (fun lo hi wr=>(intOf hi).toNat - (intOf lo).toNat)
 case atStart=>exact ⟨0,l.length,rfl,rfl,Nat.zero_le _,Zm8 _,fun k _ h=>absurd h (by omega),fun k h h'=>absurd h (by omega),Zm7 _ _⟩
 case round=>
  obtain ⟨i,j,rfl,rfl,hij,hj,hlo,hhi,hB⟩:=hrel;have HLO:=hid hlo;have HHI:=hid hhi;clear hlo hhi;have hsz:w.heap.size<W0.heap.size:=Zmj W0 _ hx0;by_cases hlt:i<j
  · obtain ⟨m,hm⟩ : ∃m,m=i+(j - i) / 2:=⟨_,rfl⟩
    (have hml:m<l.length:=by omega);(have hmj:m<j:=by omega);(have hmi:i≤m:=by omega);(have e1:((i:Int)+((j:Int) - (i:Int)) / 2)=(m:Int):=by omega);have E1:=hid e1;clear e1 hm;obtain ⟨g,off,rfl,hgs,hcell⟩:=HRD.out.at_ hml;have low : ∀(p:Addr),p.block<w.heap.size→wr.cell? p=w.cell? p:=fun p hp=>(hB.cell (p:=p) (by omega)).trans (HB0.out.cell (p:=p) hp);have r0:=(low ⟨b,0,none⟩ hb).trans h0;have q0:=(low ⟨g,off+m*7,none⟩ hgs).trans (hcell 0 _ rfl);have q1:=(low ⟨g,off+m*7+1,none⟩ hgs).trans (hcell 1 _ rfl);have q2:=(low ⟨g,off+m*7+2,none⟩ hgs).trans (hcell 2 _ rfl);have q3:=(low ⟨g,off+m*7+3,none⟩ hgs).trans (hcell 3 _ rfl);have q4:=(low ⟨g,off+m*7+4,none⟩ hgs).trans (hcell 4 _ rfl);have q5:=(low ⟨g,off+m*7+5,none⟩ hgs).trans (hcell 5 _ rfl);have q6:=(low ⟨g,off+m*7+6,none⟩ hgs).trans (hcell 6 _ rfl);have y0:=(hB.cell (p:=⟨w.heap.size,0,none⟩) hsz).trans hx0;have y1:=(hB.cell (p:=⟨w.heap.size,1,none⟩) hsz).trans hx1;have y2:=(hB.cell (p:=⟨w.heap.size,2,none⟩) hsz).trans hx2;have y3:=(hB.cell (p:=⟨w.heap.size,3,none⟩) hsz).trans hx3;have y4:=(hB.cell (p:=⟨w.heap.size,4,none⟩) hsz).trans hx4;have y5:=(hB.cell (p:=⟨w.heap.size,5,none⟩) hsz).trans hx5;have y6:=(hB.cell (p:=⟨w.heap.size,6,none⟩) hsz).trans hx6;(have b1:(0:Int)≤(m:Int):=by omega);(have b2:(m:Int)<(l.length:Int):=by omega);have hsw:W0.heap.size≤wr.heap.size:=hB.size;have N:=Zbv;have M:=Zfw;clear low hcell hx0 hx1 hx2 hx3 hx4 hx5 hx6 h0;have HB:=hid hB;clear hB;obtain ⟨y,hy⟩ : ∃y,y=l[m]:=⟨_,rfl⟩;rw [← hy] at q0 q1 q2 q3 q4 q5 q6;have HY:=hid hy;clear hy;(have hbw:b<wr.heap.size:=by omega);(have hgw:g<wr.heap.size:=by omega);(have hww:w.heap.size<wr.heap.size:=by omega);(go_wp2_with fail);rw [E1.out]
    go_region_held3 (fun w'=>w'.cell? ⟨b,0,none⟩=some (.slice (some ⟨g,off,none⟩) l.length c)∧w'.cell? ⟨g,off+m*7,none⟩=some (.int .i64 y.kk)∧w'.cell? ⟨g,off+m*7+1,none⟩=some (.int .i64 y.num)∧w'.cell? ⟨g,off+m*7+2,none⟩=some (.int .i64 y.level)∧w'.cell? ⟨g,off+m*7+3,none⟩=some (.slice y.elems.A y.elems.n y.elems.c)∧w'.cell? ⟨g,off+m*7+4,none⟩=some (.slice y.holes.A y.holes.n y.holes.c)∧w'.cell? ⟨g,off+m*7+5,none⟩=some (.slice y.aparts.A y.aparts.n y.aparts.c)∧w'.cell? ⟨g,off+m*7+6,none⟩=some (.slice y.news.A y.news.n y.news.c)∧w'.cell? ⟨w.heap.size,0,none⟩=some (.int .i64 x.kk)∧w'.cell? ⟨w.heap.size,1,none⟩=some (.int .i64 x.num)∧w'.cell? ⟨w.heap.size,2,none⟩=some (.int .i64 x.level)∧w'.cell? ⟨w.heap.size,3,none⟩=some (.slice x.elems.A x.elems.n x.elems.c)∧w'.cell? ⟨w.heap.size,4,none⟩=some (.slice x.holes.A x.holes.n x.holes.c)∧w'.cell? ⟨w.heap.size,5,none⟩=some (.slice x.aparts.A x.aparts.n x.aparts.c)∧w'.cell? ⟨w.heap.size,6,none⟩=some (.slice x.news.A x.news.n x.news.c))
     (first | go_keep | (refine ⟨?_,?_,?_,?_,?_,?_,?_,?_,?_,?_,?_,?_,?_,?_,?_⟩<;>exact (hb1.cell (by simpa using by assumption)).trans (by simp [*])))
     ((go_at_call 268;refine (Zkl y x _).mono ?_;rintro e w1 ⟨rfl,hb1⟩))
    have HB1:Below W0.heap.size W0 w1:=HB.out.drew.trans (hb1.mono hsw);clear r0 q0 q1 q2 q3 q4 q5 q6 y0 y1 y2 y3 y4 y5 y6 N M;by_cases hc:Z14 y x=0
    · have HC:=hid hc
      (have t1:(Z14 y x == 0)=true:=by simp [hc]);clear hc;(go_wp2_with fail);go_ret2;have e:=HC.out;rw [HY.out] at e;refine ⟨?_,HB0.out.trans (HB1.mono (by omega))⟩;rw [Z4r Z5n HS.out hml e,(Z5h Z5n HS.out hml e).2.2.1];rfl
    · have t1:(Z14 y x == 0)=false:=by simp [hc]
      by_cases hc2:Z14 y x<0
      · have HC:=hid hc2
        (have t2:decide (Z14 y x<0)=true:=by simpa using hc2);clear hc hc2;(go_wp2_with fail);go_roundw
        case rel=>
         refine ⟨m+1,j,by go_num,rfl,by omega,hj,fun k h1 h2=>?_,HHI.out,HB1⟩;have e:=HC.out;rw [HY.out] at e;rcases Nat.lt_or_ge k m with h3 | h3
         · exact Z5n.lt_of_lt_of_le (HS.out.lt h3 hml) (by omega)
         · obtain rfl:k=m:=by omega
           exact e
        case measure=>simp [intOf];omega
      · have t2:decide (Z14 y x<0)=false:=by simpa using hc2
        (have hc3:0<Z14 y x:=by omega);have HC:=hid hc3;clear hc hc2 hc3;(go_wp2_with fail);go_roundw
        case rel=>
         refine ⟨i,m,rfl,rfl,by omega,by omega,HLO.out,fun k h1 h2=>?_,HB1⟩;have e:=HC.out;rw [HY.out] at e;rcases Nat.lt_or_ge m k with h3 | h3
         · exact (Z5n.symm _ _).1 (Z5n.lt_trans ((Z5n.symm _ _).2 e) (HS.out.lt h3 h1))
         · obtain rfl:k=m:=by omega
           exact e
        case measure=>simp [intOf];omega
  · obtain rfl:i=j:=by omega
    have HB:=hid hB;clear hB;(go_wp2_with fail);go_ret2;refine ⟨?_,HB0.out.trans (HB.out.mono (by omega))⟩;rw [Z4q hj HLO.out HHI.out,(Z68 HLO.out HHI.out).2.2];rfl
end
section
open Go.RowKit Go.Shelf
attribute [local go_sem] Oper.semAt_some
def Zbg (x:PgR):Array Value:=#[.agg #[.int .i64 x.kk,.int .i64 x.num,.int .i64 x.level,.slice x.elems.A x.elems.n x.elems.c,.slice x.holes.A x.holes.n x.holes.c,.slice x.aparts.A x.aparts.n x.aparts.c,.slice x.news.A x.news.n x.news.c]]
theorem Zj1 (lo b c k:Nat) (sn:Bool) (A:Option Addr) (l:List PgR) (W:World) (hS:Z2l W b sn A c l) (hk:k≤l.length) (J Jx:List PgR→World→Prop)
 (h0:J [] (W.setCell ⟨b,1,none⟩ (.bool true))) (hY:Zk7 lo Zbg (l.drop k) (Z10 A) J Jx) :
 CallsIn Fence.wide 0 Tryz.prog 186 #[.pointer (some ⟨b,0,none⟩),.int .i64 k,.func (.yield lo) #[] #[]] W (Told (l.drop k) J Jx):=by
 have s0:=hS.cell0;have s1:=hS.cell1;have f1:=hS.blk.frozen 1;have hne:=Z02 hS.row hS.blk (by decide);have hrd:Z18 (W.setCell ⟨b,1,none⟩ (.bool true)) 7 PgR.cells A c l:=Z0x PgR.cells_length (ownsRow_setCell_other hS.row hne _);(have hlm:(l.length:Int)≤9223372036854775807:=by have:=hrd.cap;omega);have HRD:=hid hrd;have H0:=hid h0;have HY:=hid hY;clear hS hrd h0 hY hne;refine callsIn_of_wp Tryz.func186 rfl trivial ?_;simp only [Tryz.ntmps186,Znl,Zmp,Znc,Nat.reduceAdd,Nat.reduceSub,Zna,Znb,Znk,Zng,Zmr,Zn2];gi_wp2
 gi_loopw [7] (fun s wr=>∃pre post,s = .int .i64 ((k+pre.length:Nat):Int)∧l.drop k=pre++post∧J pre wr∧Z18 wr 7 PgR.cells A c l) (fun s wr=>l.length - (intOf s).toNat)
 case atStart=>exact ⟨[],l.drop k,by simp,by simp,H0.out,HRD.out⟩
 case round=>
  obtain ⟨pre,post,rfl,hx,hJ,hrd⟩:=hrel;(have hlen:k+pre.length+post.length=l.length:=by have:=congrArg List.length hx;simp at this;omega);have HX:=hid hx;have HJ:=hid hJ;have HR:=hid hrd;clear hx hJ hrd
  cases post with
  | nil=>
    (have e1:((k+pre.length:Nat):Int)=(l.length:Int):=by simp at hlen;omega);rw [e1];clear hlen e1;gi_wp2;go_end0;exact ⟨⟨_,rfl⟩,.inl (by have:=HX.out;rw [Zn9] at this;rw [this];exact HJ.out)⟩
  | cons x post=>
    obtain ⟨m,hm⟩ : ∃m,m=k+pre.length:=⟨_,rfl⟩;have hml:m<l.length:=by simp at hlen;omega
    have hget:l[m]=x:=by
     apply Znt;rw [← Zmc,hm,← List.getElem?_drop,HX.out];simp
    obtain ⟨g,off,rfl,hgs,hcell⟩:=HR.out.at_ hml;rw [hget] at hcell;(have q0:wr.cell? ⟨g,off+m*7,none⟩=some (.int .i64 x.kk):=by simpa using hcell 0 _ rfl);(have q1:wr.cell? ⟨g,off+m*7+1,none⟩=some (.int .i64 x.num):=by simpa using hcell 1 _ rfl);(have q2:wr.cell? ⟨g,off+m*7+2,none⟩=some (.int .i64 x.level):=by simpa using hcell 2 _ rfl);(have q3:wr.cell? ⟨g,off+m*7+3,none⟩=some (.slice x.elems.A x.elems.n x.elems.c):=by simpa using hcell 3 _ rfl);(have q4:wr.cell? ⟨g,off+m*7+4,none⟩=some (.slice x.holes.A x.holes.n x.holes.c):=by simpa using hcell 4 _ rfl);(have q5:wr.cell? ⟨g,off+m*7+5,none⟩=some (.slice x.aparts.A x.aparts.n x.aparts.c):=by simpa using hcell 5 _ rfl);(have q6:wr.cell? ⟨g,off+m*7+6,none⟩=some (.slice x.news.A x.news.n x.news.c):=by simpa using hcell 6 _ rfl);(have b1:(0:Int)≤(m:Int):=by omega);(have b2:(m:Int)<(l.length:Int):=by omega);rw [← hm];have HM:=hid hm;clear hcell hget hlen hm;obtain ⟨fn,tmps,assign,body,hy,hR⟩:=HY.out pre x post wr HX.out HJ.out;dsimp only [Zbg] at hy;have HRR:=hid hR;clear hR;(gi_wp2_with fail);refine ⟨rfl,HRR.out.mono ?_⟩;rintro e W3 (⟨rfl,hJ3,hk3⟩ | ⟨rfl,hJx3⟩)
    · have HJ3:=hid hJ3
      have HK3:=hid hk3;clear hJ3 hk3 hy q0 q1 q2 q3 q4 q5 q6;gi_wp2;go_roundw
      case rel=>exact ⟨pre ++ [x],post,by rw [HM.out,Zmd,List.length_singleton];go_num,by rw [HX.out];simp,HJ3.out,HK3.out.rd HR.out⟩
      case measure=>simp [intOf]<;>omega
    · have HJ3:=hid hJx3
      clear hJx3 hy q0 q1 q2 q3 q4 q5 q6;gi_wp2;refine bodyPost_ret (results_none rfl _ _ _) rfl ?_;exact ⟨⟨_,rfl⟩,.inr ⟨pre ++ [x],post,by rw [HX.out];simp,HJ3.out⟩⟩
theorem Zki (kb b c:Nat) (sn:Bool) (A:Option Addr) (l:List PgR) (W:World) (hbox:W.cell? ⟨kb,0,none⟩=some (.pointer (some ⟨b,0,none⟩))) (hS:Z2l W b sn A c l) :
 Iter Tryz.prog 185 #[.pointer (some ⟨kb,0,none⟩)] Zbg l W (Z1h b) (Z10 A):=by
 intro lo J Jx _ _ h0 hY;have H0:=hid (h0 (W.setCell ⟨b,1,none⟩ (.bool true)) ⟨W,Zm7 _ _,rfl⟩);have HY:=hid hY;have HS:=hid hS;clear h0 hY hS;refine callsIn_of_wp Tryz.func185 rfl trivial ?_;simp only [Tryz.ntmps185,Znl,Zmp,Znc,Nat.reduceAdd,Nat.reduceSub,Zna,Znb,Znk,Zng,Zmr,Zn2];(gi_wp2_with fail);have hz:((0:Nat):Int)=0:=rfl;refine ⟨trivial,rfl,?_⟩;refine (Zj1 lo b c 0 sn A l W HS.out (Nat.zero_le _) J Jx H0.out (by rw [List.drop_zero];exact HY.out)).mono ?_;rintro e W3 ⟨⟨v,rfl⟩,h⟩;rw [List.drop_zero] at h;have H:=hid h;clear h;gi_wp2;go_end0;exact ⟨⟨_,rfl⟩,H.out⟩
end
section
open Go.RowKit
theorem Zea:(Tryz.prog.info? 226).map (fun i=>(i.zero,i.size,i.bytes))=some (some (.agg #[.int .i64 0,.int .i64 0,.int .i64 0,.slice none 0 0,.slice none 0 0,.slice none 0 0,.slice none 0 0]),7,120):=by kernel_rfl
theorem PgR.one (x:PgR) : ∀u∈PgR.cells x,u.oneCell'=true:=by intro u hu;simp [PgR.cells] at hu;rcases hu with rfl | rfl | rfl | rfl | rfl | rfl | rfl<;>rfl
theorem PgR.oneAll (l:List PgR) : ∀u∈l.flatMap PgR.cells,u.oneCell'=true:=by intro u hu;obtain ⟨x,_,hx⟩:=List.mem_flatMap.1 hu;exact PgR.one x u hx
def Z72 (w:World) (b:Nat) (sn:Bool) (A:Option Addr) (l:List PgR) (e:Ending) (w':World):Prop:=
 e = .returned (.tuple #[])∧∃A' c',Z2l w' b false A' c' l∧Fr (· = b) w w'∧Z2w w sn A false A'
theorem Zg4 (b c:Nat) (A:Option Addr) (l:List PgR) (w:World) (hS:Z2l w b false A c l) :
 Calls Tryz.prog 184 #[.pointer (some ⟨b,0,none⟩)] w (Z72 w b false A l):=by
 have h1:=hS.cell1;have HS:=hid hS;clear hS;go_enter Tryz.func184,Tryz.ntmps184;go_wp2;go_end0;exact ⟨rfl,A,c,HS.out,Fr.refl _ _,.inl ⟨rfl,rfl⟩⟩
theorem Zdj (b c:Nat) (A:Option Addr) (l:List PgR) (w:World) (hS:Z2l w b true A c l) (hl:(l.length:Int)≤1000000000) :
 Calls Tryz.prog 184 #[.pointer (some ⟨b,0,none⟩)] w (Z72 w b true A l):=by
 obtain ⟨i0,hi,hz0,hz1,hz2⟩:=info_parts Zea;have h0:=hS.cell0;have h1:=hS.cell1;have hb:=hS.lt;have f0:=hS.blk.frozen 0;have f1:=hS.blk.frozen 1;have hrd:=hS.rd PgR.cells_length;have HB:=hid hS.blk;have HRD:=hid hrd;clear hS hrd;have e1:IntKind.i64.wrap ((l.length:Int)+1)=(l.length:Int)+1:=Zmh _ (by omega)
 have hmk : ∀W:World,(Instr.makeSlice 274 (.int .i64 0) (.int .i64 ((l.length:Int)+1))).run Tryz.prog W = .ok (.slice (some ⟨W.heap.size,0,none⟩) 0 (l.length+1)) (W.alloc (.cells (madeCells (Value.cells (.agg #[.int .i64 0,.int .i64 0,.int .i64 0,.slice none 0 0,.slice none 0 0,.slice none 0 0,.slice none 0 0])) ((l.length+1)*7)) 226)):=fun W=>by
  have h:=run_make (P:=Tryz.prog) W 274 226 i0 _ Tryz.underlying274 hi hz0 .i64 .i64 0 ((l.length:Int)+1) (by omega) (by omega) (by rw [hz2];omega) (by omega);rw [hz1] at h;simpa [show ((l.length:Int)+1).toNat=l.length+1 by omega] using h
 go_enter Tryz.func184,Tryz.ntmps184;(go_wp2_with fail);refine Z0c (fun w9=>Below w.heap.size w w9) [(0,0),(1,0),(2,0),(3,0),(4,1),(5,0),(6,0),(8,0),(9,0),(10,0),(11,1),(7,2),(12,2),(13,0),(14,0),(15,2)] (by kernel_rfl) (by kernel_rfl) (fun KK hKK=>?_);simp only [Z0v,Zmn,Zme,Zml,Zmg,Zmf,Zmo];(repeat ((first | (refine Z0m ?_ (Or.inl ⟨by rfl,fun w9=>?_⟩) ?_;rotate_left 1;go_simp;with_reducible rfl) | (refine Z0l ?_ (((Zm7 _ _).drew)) (Or.inl ⟨by rfl,fun w9 hw9=>?_⟩) ?_;rotate_left 1;obtain ⟨hc9,hf9⟩:=Z1a hw9;go_simp;with_reducible rfl) | refine Z0m undef (Or.inr ⟨by rfl,rfl⟩) ?_ | refine Z0l undef (((Zm7 _ _).drew)) (Or.inr ⟨by rfl,rfl⟩) ?_);go_frame));refine Z2v (fun K9 hK9=>?_);go_simp;refine hK9 _ _ (((Zm7 _ _).drew).alloc (Zm8 _) _) ?_;clear hK9 K9;refine Z1w (by kernel_rfl) (fun K9 hK9=>?_)
 refine Z0s _ (by rfl) _ _ _ (by rfl) 226 i0 _ 7 120 Tryz.underlying274 hi hz0 hz1 hz2 rfl (by omega) _ 0 [] (by rfl) (World.ownsRow_made _ _ _ (Nat.zero_le _) (by unfold maxLen;omega) (by simp [madeCells])) A l.length c (l.flatMap PgR.cells) (by rfl) (Z0f PgR.cells_length l)
  ((HRD.out.drew.alloc _).news PgR.cells_length (by omega)) (PgR.oneAll l) (by unfold maxLen;omega) (by omega) ?_
 intro v2 w2 hown hgr hnil hat;refine hK9 _ _ ?_;clear hK9 K9;rw [Zmz,Zmr] at hown;obtain ⟨A',c',rfl,_,_,hz⟩:=Z0y hown;have HB1:=(HB.out.drew.alloc (.cells (madeCells (Value.cells (.agg #[.int .i64 0,.int .i64 0,.int .i64 0,.slice none 0 0,.slice none 0 0,.slice none 0 0,.slice none 0 0])) ((l.length+1)*7)) 226)).grown hgr (by simp [Value.ownBlock];omega);have c0:=(HB1.cell 0).trans rfl;have c1:=(HB1.cell 1).trans rfl;have z0:=HB1.frozen 0;have z1:=HB1.frozen 1;have HB2:=hid HB1;clear HB1;(repeat ((first | (refine Z0m ?_ (Or.inl ⟨by rfl,fun w9=>?_⟩) ?_;rotate_left 1;go_simp;with_reducible rfl) | (refine Z0l ?_ (((Zm7 _ _).drew).alloc (Zm8 _) _) (Or.inl ⟨by rfl,fun w9 hw9=>?_⟩) ?_;rotate_left 1;obtain ⟨hc9,hf9⟩:=Z1a hw9;go_simp;with_reducible rfl) | refine Z0m undef (Or.inr ⟨by rfl,rfl⟩) ?_ | refine Z0l undef (((Zm7 _ _).drew).alloc (Zm8 _) _) (Or.inr ⟨by rfl,rfl⟩) ?_);go_frame));refine Z1w (by kernel_rfl) (fun K9 hK9=>?_);go_simp;refine hK9 _ _ ?_;clear hK9 K9;refine Z1b ?_;simp only [Z03];refine hKK _ _ ?_;clear hKK KK;go_wp2;go_end0
 have hb2:(Value.slice A' l.length c').ownBlock=some w.heap.size∨(Value.slice A' l.length c').ownBlock=some (w.heap.size+1):=by
  rcases hat with h | h
  · left;rw [h];rfl
  · right;rw [h];simp
 have hA : ∃g,w.heap.size≤g∧A'=some ⟨g,0,none⟩:=by
  rcases A' with _ | a
  · exfalso;simp [Value.ownBlock] at hb2
  · obtain ⟨g,rfl⟩:=hz a rfl
    refine ⟨g,?_,rfl⟩;simp [Value.ownBlock] at hb2;omega
 obtain ⟨g,hg,rfl⟩:=hA;have HB1:=HB2.out;have HF:Fr (· = b) w w2:=((Fr.refl (· = b) w).drew.alloc _).grown hgr (fun k e=>by simp [Value.ownBlock] at e;right;omega);refine ⟨rfl,some ⟨g,0,none⟩,c',⟨(HB1.set_ 0 _).set_ 1 _,?_⟩,(HF.setCell (p:=⟨b,0,none⟩) (.inl rfl) _).setCell (p:=⟨b,1,none⟩) (.inl rfl) _,.inr ⟨rfl,g,hg,rfl⟩⟩;(have hne:(Value.slice (some ⟨g,0,none⟩) l.length c').ownBlock≠some b:=by simp [Value.ownBlock];omega);exact ownsRow_setCell_other (a:=⟨b,1,none⟩) (ownsRow_setCell_other (a:=⟨b,0,none⟩) hown hne _) hne _
theorem Zl5 (b c:Nat) (sn:Bool) (A:Option Addr) (l:List PgR) (w:World) (hS:Z2l w b sn A c l) (hl:(l.length:Int)≤1000000000) :
 Calls Tryz.prog 184 #[.pointer (some ⟨b,0,none⟩)] w (Z72 w b sn A l):=by
 cases sn
 · exact Zg4 b c A l w hS
 · exact Zdj b c A l w hS hl
end
section
open Go.RowKit Go.Shelf
attribute [local go_sem] Oper.semAt_some
theorem Zhh (b:Nat) (w:World) :
 Calls Tryz.prog 155 #[.pointer (some ⟨b,0,none⟩)] w fun e w'=>e = .returned (.func (.func 185) #[] #[.pointer (some ⟨w.heap.size,0,none⟩)])∧Below w.heap.size w w'∧w'.cell? ⟨w.heap.size,0,none⟩=some (.pointer (some ⟨b,0,none⟩)):=by
 go_enter Tryz.func155,Tryz.ntmps155;go_wp2;go_ret;exact ⟨rfl,(Zm7 _ _).alloc (Zm8 _) _,by go_simp⟩
theorem Zds (kb b c:Nat) (sn:Bool) (A:Option Addr) (l:List PgR) (w:World) (hbox:w.cell? ⟨kb,0,none⟩=some (.pointer (some ⟨b,0,none⟩))) (hS:Z2l w b sn A c l) :
 Seq 185 #[.pointer (some ⟨kb,0,none⟩)] Zbg l w (Z1h b) (Z10 A):=
 ⟨by intro args w;kernel_rfl,fun W hW=>(Zki kb b c sn A l W ((hW.cell (Zmj _ _ hbox)).trans hbox) (hS.new_ hW)).weak (fun _ _ h=>h.1),fun _ _ _=>Z10.trans,fun _ _=>Z10.of_priv hS.row_lt,fun _ _=>Z10.of_below hS.row_lt,fun _ _ h=>h.fr.mono (fun k _ hk=>by subst hk;exact hS.lt)⟩
end
section
open Go.RowKit Go.Shelf
structure SeqP {α:Type} (gf:Nat) (lb:Array Value) (encs:α→Array Value) (xs:List α) (w:World) (start Kp:World→World→Prop):Prop where
 enter : ∀args w,(callFunc gf args).run Tryz.prog w = .ok (.enter gf args) w
 iter : ∀W,Below w.heap.size w W→Zgf Tryz.prog gf lb encs xs W start Kp
 trans : ∀A B C,Kp A B→Kp B C→Kp A C
 keep : ∀A B,Priv w.heap.size A B→Kp A B
 below : ∀A B,Below w.heap.size A B→Kp A B
 mods : ∀W W1,start W W1→Fr (· < w.heap.size) W W1
theorem Seq.p {α:Type} {gf:Nat} {lb:Array Value} {encs:α→Array Value} {xs:List α} {w:World} {start Kp:World→World→Prop} (h:Seq gf lb encs xs w start Kp):SeqP gf lb encs xs w start Kp:=
 ⟨h.enter,fun W hW=>(h.iter W hW).p,h.trans,h.keep,h.below,h.mods⟩
end
end Go.Proofs.YtfidcfjcmlgkbaaGreat
