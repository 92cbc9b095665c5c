/-
  Texts put together: BkLaw, LrnOf, LearnP, LeafLword, FindLword, OpsLword, PutLword, MiscLword, NewLword, LrnDg, LrnN0, VaryN4s, VaryN2, VaryN4.
-/
import Derived.Test.YtcnnofgaifcgaaaGreatPTp
namespace Go.Proofs.YtcnnofgaifcgaaaGreat
set_option maxRecDepth 100000
set_option maxHeartbeats 32000000
set_option linter.unusedSimpArgs false
section
open Go.RowKit Go.Shelf
def Z3k (l:List Z0c) (lv:Int) (nums:List Int):Z8y:=Z4q (Z3g l) lv (Z4l (Z3g l) lv (l.map Z0c.num) nums [])
def Zqi (n:Nat) (T:Z8y) (D:Nat→Prop) (w:World) (A1:Option Addr) (c1:Nat) (A2:Option Addr) (c2:Nat) (A3:Option Addr) (c3:Nat) (A4:Option Addr) (c4:Nat):Prop:=
 RowR Z1f D w A1 c1 T.elems∧RowR (Z0v n) D w A2 c2 T.holes∧RowR Z3j D w A3 c3 T.aparts∧RowR Z3n D w A4 c4 T.news
theorem Zpm {α:Type}{r:RepT α}{w w':World}{A:Option Addr}{c:Nat}{l:List α}(h:RowR r (· < w.heap.size) w A c l) (hb:Below w.heap.size w w'):RowR r (· < w'.heap.size) w' A c l:=
 h.keep hb.size (fun k hk hl=>⟨Zsw hk hb.size,hb.block k hl⟩)
section
variable {n:Nat}{T:Z8y}{D:Nat→Prop}{w w':World}{A1 A2 A3 A4:Option Addr}{c1 c2 c3 c4:Nat}
end
theorem Zl5 {B:Nat}{w w':World}{A:Option Addr}{c:Nat}{xs ys:List Int}{v:Value}(hown:w'.ownsRow 0 3 1 v (xs.length+ys.length) (xs.flatMap Int.cells1++ys.flatMap Int.cells1)) (hg:w.grownBy w' (Value.slice A xs.length c).ownBlock)
 (hat:v.ownBlock=(Value.slice A xs.length c).ownBlock∨v.ownBlock=some w.heap.size) (hA:AIn A (B≤·)) (hB:B≤w.heap.size) :
 ∃A' c',v = .slice A' (xs++ys).length c'∧w'.ownsRow 0 3 1 (.slice A' (xs++ys).length c') (xs++ys).length ((xs++ys).flatMap Int.cells1)∧AIn A' (B≤·)∧Below B w w':=by
 rw [←Ztd,←Zta] at hown;obtain ⟨A',c',rfl,_⟩:=Z14 hown
 have Nt :∀k,(Value.slice A xs.length c).ownBlock=some k→B≤k:=fun k hk=>by
  cases A with
  | none=>cases hk
  | some a=>simp only [Value.ownBlock,Option.some.injEq] at hk;rw [←hk];exact hA a rfl
 refine ⟨A',c',rfl,hown,fun a ha=>?_,(Zst B w).grown hg hB Nt⟩;subst ha;rcases hat with h|h
 · exact Nt _ h.symm
 · exact Yhf
end
section
open Go.RowKit Go.Shelf
attribute [local go_sem] Oper.semAt_some
structure SlV where
 A:Option Addr
 n:Nat
 c:Nat
structure PV where
 name:ByteArray
 cs:SlV
 acts:SlV
def PV.cells (x:PV):List Value:=[.string x.name,.slice x.cs.A x.cs.n x.cs.c,.slice x.acts.A x.acts.n x.acts.c]
def Znn (kb:Nat) (A:Option Addr) (X Y:World):Prop:=Z10 A X Y∧Z10 (some ⟨kb,0,none⟩) X Y
theorem Znn.blk {kb:Nat}{A:Option Addr}{X Y:World}{t:TypeId}{cs:Array Value}(h:Znn kb A X Y) (hb:Blk X kb t cs):Blk Y kb t cs:=(h.2.2 _ rfl hb.lt).trans hb
theorem AIn.one {P:Nat→Prop}{k:Nat}(h:P k):AIn (some ⟨k,0,none⟩) P:=fun a e=>by cases e;exact h
def Zda (x:PV):Array Value:=#[.agg #[.string x.name,.slice x.cs.A x.cs.n x.cs.c,.slice x.acts.A x.acts.n x.acts.c]]
theorem Zsp (kb:Nat) (A:Option Addr) (c:Nat) (l:List PV) (W:World) (hb:Blk W kb 48 #[.slice A l.length c]) (hrd:Z0y W 3 PV.cells A c l) :
 Iter Tryz.prog 23 #[.pointer (some ⟨kb,0,none⟩)] Zda l W (fun X Y=>Y=X) (Znn kb A):=by
 intro lo J Jx _ _ h0 hY;have H0:=hU (h0 W rfl);have HY:=hU hY;have HB:=hU hb;have HR:=hU hrd;have hlm:=hrd.cap;clear h0 hY hb hrd;refine callsIn_of_wp Tryz.func23 rfl trivial ?_;simp only [Tryz.ntmps23,Zu5,Ztg,Zu1,Nat.reduceAdd,Nat.reduceSub,Ztw,Ztx,Zu4,Zu0,Ztk,Ztv];gi_wp2
 gi_loopw [3] (fun s wr=>∃pre post,s = .int .i64 (pre.length:Int)∧l=pre++post∧J pre wr∧Blk wr kb 48 #[.slice A l.length c]∧Z0y wr 3 PV.cells A c l) (fun s wr=>l.length - (intOf s).toNat)
 case atStart=>exact ⟨[],l,rfl,rfl,H0.o,HB.o,HR.o⟩
 case round=>
  obtain ⟨pre,post,rfl,hx,hJ,L0,hrd⟩:=hrel;have Vx:pre.length+post.length=l.length:=YOy;have HX:=hU hx;have HJ:=hU hJ;have Nk:=hU L0;have Nq:=hU hrd;have k0:=L0.c1;have kz:=L0.lt;clear hx hJ hrd L0
  cases post with
  | nil=>
    have e1:(pre.length:Int)=(l.length:Int):=YHt;exact Ye1
  | cons x post=>
    obtain ⟨m,hm⟩:∃m,m=pre.length:=⟨_,rfl⟩;have Le:m<l.length:=YHt
    have Ox:l[m]=x:=by
     apply Zud;rw [←Zt3 Le,HX.o,hm,Ztn (Zsu _),Nat.sub_self];rfl
    obtain ⟨g,off,Jo,hgs,R9⟩:=Nq.o.at_ Le;rw [Ox] at R9;rw [Jo] at k0;have q0:wr.cell? ⟨g,off+m*3,none⟩=some (.string x.name):=Yq;have q1:wr.cell? ⟨g,off+m*3+1,none⟩=some (.slice x.cs.A x.cs.n x.cs.c):=YO5;have q2:wr.cell? ⟨g,off+m*3+2,none⟩=some (.slice x.acts.A x.acts.n x.acts.c):=YFu;refine Y6d ?_;intro b1 b2;rw [←hm];have HM:=hU hm;clear R9 Ox Vx hm;obtain ⟨fn,tmps,assign,body,hy,hR⟩:=HY.o pre x post wr HX.o HJ.o;dsimp only [Zda] at hy;have Sn:=hU hR;clear hR;gi_wp2_with fail;refine ⟨rfl,Sn.o.mono ?_⟩;rintro e W3 (⟨rfl,qp,um⟩|⟨rfl,xt⟩)
    · have M9:=hU qp
      have kl:=hU um;clear qp um hy q0 q1 q2;gi_wp2;go_roundw
      case rel=>exact ⟨pre ++ [x],post,YMt,YXq,M9.o,kl.o.blk Nk.o,kl.o.1.rd Nq.o⟩
      case measure=>simp [intOf]<;>omega
    · have M9:=hU xt
      clear xt hy q0 q1 q2;exact Y92
theorem Zht (kb:Nat) (A:Option Addr) (c:Nat) (l:List PV) (w:World) (hb:Blk w kb 48 #[.slice A l.length c]) (hrd:Z0y w 3 PV.cells A c l) (hA:AIn A (· < w.heap.size)) :
 Seq 23 #[.pointer (some ⟨kb,0,none⟩)] Zda l w (fun X Y=>Y=X) (Znn kb A):=
 ⟨YX8,fun W hW=>(Zsp kb A c l W (hb.new_ hW) (hrd.new_ hW)).weak (fun _ _ h=>h.1),fun _ _ _ h k=>⟨h.1.trans k.1,h.2.trans k.2⟩,
  fun _ _ h=>⟨Z10.of_priv hA h,Z10.of_priv (AIn.one hb.lt) h⟩,fun _ _ h=>⟨Z10.of_below hA h,Z10.of_below (AIn.one hb.lt) h⟩,fun _ _ h=>h ▸ Fr.refl _ _⟩
theorem Zly (A:Option Addr) (c n:Nat) (w:World) :
 Calls Tryz.prog 9 #[.slice A n c] w fun e w'=>e = .returned (.func (.func 23) #[] #[.pointer (some ⟨w.heap.size,0,none⟩)])∧Below w.heap.size w w'∧Blk w' w.heap.size 48 #[.slice A n c]:=by
 go_enter Tryz.func9,Tryz.ntmps9;exact Yyg
end
section
def Z6l (n:Nat):ByteArray:=⟨#[99,104,117,110,107,45]⟩++decB n
end
section
open Go.RowKit
abbrev Z1v:=ByteArray
def Z1v.cells (n:Z1v):List Value:=[.string n]
theorem Z1v.cells_length (n:Z1v):(Z1v.cells n).length=1:=rfl
def Z15 (a b:Z1v):Int:=Z2s a b
theorem Z4e:TC Z15:=Zn5
theorem Zkv (a b:Z1v) (w:World):Calls Tryz.prog 274 #[.string a,.string b] w fun e w'=>e = .returned (.int .i64 (Z15 a b))∧Below w.heap.size w w':=by
 go_enter Tryz.func274,Tryz.ntmps274;go_wp2
 all_goals (go_ret;refine ⟨?_,Zst _ _⟩;unfold Z15 Z2s;simp_all)
abbrev Z3e:=Z29 (α:=Z1v) 233 189 1 Z1v.cells
theorem Zan (k0 : ByteArray) (w : World) : (nilAhead 504 189 (.string k0) "Compare").run Tryz.prog w = .ok (some false) w := Yb
theorem Zdz (k0 : ByteArray) (w : World) : (method 504 189 (.string k0) "Compare").run Tryz.prog w = .ok (274, .string k0) w := Yb
def Zat (l:List Z1v) (x:Z1v) (w:World) (e:Ending) (w':World):Prop:=
 e = .returned (.tuple #[.int .i64 (rank Z15 l x),.bool (has Z15 l x)])∧Below w.heap.size w w'
theorem Z8q (b c:Nat) (sn:Bool) (A:Option Addr) (l:List Z1v) (x:Z1v) (w:World) (hS:Z3e w b sn A c l) (hs:Srt Z15 l) (hl:(l.length:Int)≤4611686018427387904) :
 Calls Tryz.prog 119 #[.pointer (some ⟨b,0,none⟩),.string x] w (Zat l x w):=by
 have Xm:=hS.rd Z1v.cells_length;have h0:=hS.cell0;have hb:=hS.lt;clear hS;have HS:=hU hs;have Ww:=hU Xm;clear hs Xm;go_enter Tryz.func119,Tryz.ntmps119;go_wp2_with fail;go_quiet (fail);go_wp2_with fail;refine Yk9 ?_;intro W0 jv
 go_loopw [6,7] (fun lo hi wr=>∃i j:Nat,lo = .int .i64 i∧hi = .int .i64 j∧i≤j∧j≤l.length∧(∀k,(h:k<l.length)→k<i→Z15 l[k] x<0)∧(∀k,(h:k<l.length)→j≤k→0<Z15 l[k] x)∧Below W0.heap.size W0 wr) (fun lo hi wr=>(intOf hi).toNat - (intOf lo).toNat)
 case atStart=>exact ⟨0,l.length,rfl,rfl,Nat.zero_le _,Zsu _,fun k _ h=>absurd h Ya,fun k h h'=>absurd h Ya,Zst _ _⟩
 case round=>
  obtain ⟨i,j,rfl,rfl,hij,hj,qv,qm,hB⟩:=hrel;have sy:=hU qv;have xq:=hU qm;clear qv qm;have hsz:w.heap.size≤W0.heap.size:=jv.o.size;by_cases hlt:i<j
  · refine Ygb ?_;intro m Le hmj hmi E1;obtain ⟨g,off,rfl,Fu,R9⟩:=Ww.o.at_ Le;refine Yu7 ?_;intro low r0;have q0:wr.cell? ⟨g,off+m,none⟩=some (.string l[m]):=(low ⟨g,off+m,none⟩ Fu).trans Yq;refine Yy3 ?_;intro b1 b2 Sq;have N:=Zan;have M:=Zdz;clear low R9 h0;have HB:=hU hB;clear hB;refine Y9x ?_;intro y hy;rw [←hy] at q0;have HY:=hU hy;clear hy;have hbw:b<wr.heap.size:=Ya;have hgw:g<wr.heap.size:=Ya;go_upto_region 4 with (fail);rw [E1.o];go_wp2_with fail;refine (Zkv y x _).mono ?_;rintro e w1 ⟨rfl,Pk⟩;have Nk:Below W0.heap.size W0 w1:=HB.o.trans (Pk.mono Sq);clear r0 q0 N M;have uk:=hU Nk;clear Nk;by_cases hc:Z15 y x=0
    · have HC:=hU hc
      have t1:(Z15 y x == 0)=true:=YMk;clear hc;go_wp2_with fail;go_ret2;have e:=HC.o;rw [HY.o] at e;refine ⟨?_,jv.o.trans (uk.o.mono Ya)⟩;rw [Z4i Z4e HS.o Le e,(Z5j Z4e HS.o Le e).2.2.1];rfl
    · have t1:(Z15 y x == 0)=false:=by simp [hc]
      by_cases hc2:Z15 y x<0
      · have HC:=hU hc2
        have t2:decide (Z15 y x<0)=true:=YQw;clear hc hc2;go_wp2_with fail;go_roundw
        case rel=>
         refine ⟨m+1,j,Yn,rfl,Ya,hj,fun k h1 h2=>?_,xq.o,uk.o⟩;have e:=HC.o;rw [HY.o] at e;rcases Nat.lt_or_ge k m with h3|h3
         · exact Z4e.lt_of_lt_of_le (HS.o.lt h3 Le) Ya
         · exact Yzs
        case measure=>simp [intOf];omega
      · have t2:decide (Z15 y x<0)=false:=by simpa using hc2
        have Nn:0<Z15 y x:=Ya;have HC:=hU Nn;clear hc hc2 Nn;go_wp2_with fail;go_roundw
        case rel=>
         refine ⟨i,m,rfl,rfl,Ya,Ya,sy.o,fun k h1 h2=>?_,uk.o⟩;have e:=HC.o;rw [HY.o] at e;rcases Nat.lt_or_ge m k with h3|h3
         · exact (Z4e.symm _ _).1 (Z4e.lt_trans ((Z4e.symm _ _).2 e) (HS.o.lt h3 h1))
         · exact Yzs
        case measure=>simp [intOf];omega
  · exact Y53
theorem Zb4:(Tryz.prog.info? 189).map (fun i=>(i.zero,i.size,i.bytes))=some (some (.string ⟨#[]⟩),1,16):=Yb
theorem Z1v.one (x:Z1v):∀u∈Z1v.cells x,u.oneCell'=true:=by intro u hu;simp [Z1v.cells] at hu;rcases hu with rfl<;>rfl
theorem Z1v.oneAll (l:List Z1v):∀u∈l.flatMap Z1v.cells,u.oneCell'=true:=by intro u hu;obtain ⟨x,_,hx⟩:=List.mem_flatMap.1 hu;exact Z1v.one x u hx
def Z6f (w:World) (b:Nat) (sn:Bool) (A:Option Addr) (l:List Z1v) (e:Ending) (w':World):Prop:=
 e = .returned (.tuple #[])∧∃A' c',Z3e w' b false A' c' l∧Fr (· = b) w w'∧Z1w w sn A false A'
theorem Zec (b c:Nat) (A:Option Addr) (l:List Z1v) (w:World) (hS:Z3e w b false A c l) :
 Calls Tryz.prog 120 #[.pointer (some ⟨b,0,none⟩)] w (Z6f w b false A l):=by
 have h1:=hS.cell1;have HS:=hU hS;clear hS;go_enter Tryz.func120,Tryz.ntmps120;exact Y3p
theorem Zcd (b c:Nat) (A:Option Addr) (l:List Z1v) (w:World) (hS:Z3e w b true A c l) (hl:(l.length:Int)≤1000000000) :
 Calls Tryz.prog 120 #[.pointer (some ⟨b,0,none⟩)] w (Z6f w b true A l):=by
 obtain ⟨i0,hi,Nc,rm,Aj⟩:=info_parts Zb4;refine Y8h ?_;intro h0 h1 hb f0 f1;have Xm:=hS.rd Z1v.cells_length;have HB:=hU hS.blk;have Ww:=hU Xm;clear hS Xm;refine Yn9 ?_;intro e1
 have hmk :∀W:World,(Instr.makeSlice 231 (.int .i64 0) (.int .i64 ((l.length:Int)+1))).run Tryz.prog W = .ok (.slice (some ⟨W.heap.size,0,none⟩) 0 (l.length+1)) (W.alloc (.cells (madeCells (Value.cells (.string ⟨#[]⟩)) ((l.length+1))) 189)):=fun W=>by
  have h:=run_make (P:=Tryz.prog) W 231 189 i0 _ Tryz.underlying231 hi Nc .i64 .i64 0 ((l.length:Int)+1) Ya Ya YV8 Ya;exact Y2k
 go_enter Tryz.func120,Tryz.ntmps120;go_wp2_with fail;refine Z03 (fun w9=>Below w.heap.size w w9) [(0,0),(1,0),(2,0),(3,0),(4,1),(5,0),(6,0),(8,0),(9,0),(10,0),(11,1),(7,2),(12,2),(13,0),(14,0),(15,2)] Yb Yb (fun KK hKK=>?_);refine Yg8 ?_;intro K9 hK9
 refine Z0l _ Yd _ _ _ Yd 189 i0 _ 1 16 Tryz.underlying231 hi Nc rm Aj rfl Ya _ 0 [] Yd (World.ownsRow_made _ _ _ (Nat.zero_le _) Yj YFi) A l.length c (l.flatMap Z1v.cells) Yd (Z0u Z1v.cells_length l)
  ((Ww.o.drew.alloc _).news Z1v.cells_length Ya) (Z1v.oneAll l) Yj Ya ?_
 intro v2 w2 Od Cf hnil Xd;refine Y8n ?_;clear hK9 K9;rw [Zts,Ztk] at Od;obtain ⟨A',c',rfl,_,_,hz⟩:=Z14 Od;have Nk:=(HB.o.drew.alloc (.cells (madeCells (Value.cells (.string ⟨#[]⟩)) ((l.length+1))) 189)).grown Cf Yy;exact Yzw
theorem Zmb (b c:Nat) (sn:Bool) (A:Option Addr) (l:List Z1v) (w:World) (hS:Z3e w b sn A c l) (hl:(l.length:Int)≤1000000000) :
 Calls Tryz.prog 120 #[.pointer (some ⟨b,0,none⟩)] w (Z6f w b sn A l):=by
 cases sn
 · exact Zec b c A l w hS
 · exact Zcd b c A l w hS hl
def Z6g (w:World) (b:Nat) (sn:Bool) (A:Option Addr) (l:List Z1v) (x:Z1v) (e:Ending) (w':World):Prop:=
 e = .returned (.bool (!has Z15 l x))∧∃sn' A' c',Z3e w' b sn' A' c' (put Z15 l x)∧Fr (Z0w b sn A) w w'∧Z1w w sn A sn' A'
theorem Zaa (b c:Nat) (sn:Bool) (A:Option Addr) (l:List Z1v) (x:Z1v) (w:World) (hS:Z3e w b sn A c l) (hs:Srt Z15 l) (hl:(l.length:Int)≤100000000) (hh:has Z15 l x=true) :
 Calls Tryz.prog 86 #[.pointer (some ⟨b,0,none⟩),.string x] w (Z6g w b sn A l x):=by
 have HS:=hU hS;have HO:=hU hs;clear hS hs;go_enter Tryz.func86,Tryz.ntmps86;go_wp2_with fail;refine (Z8q b c sn A l x _ (HS.o.new_ (Zst _ _)) HO.o Ya).mono ?_;exact Y2r
theorem Zcg (b c:Nat) (sn:Bool) (A:Option Addr) (l:List Z1v) (x:Z1v) (w:World) (hS:Z3e w b sn A c l) (hs:Srt Z15 l) (hl:(l.length:Int)≤100000000) (hh:has Z15 l x=false) :
 Calls Tryz.prog 86 #[.pointer (some ⟨b,0,none⟩),.string x] w (Z6g w b sn A l x):=by
 obtain ⟨i0,hi,Nc,rm,Aj⟩:=info_parts Zb4;refine Yc5 ?_;intro HS HO hb;clear hS hs;have iu:=Z62 (cmp:=Z15) l x;go_enter Tryz.func86,Tryz.ntmps86;go_wp2_with fail;have Gd:=HS.o.new_ (Zst w.heap.size w);have fm:=hU Gd;clear Gd;refine (Z8q b c sn A l x _ fm.o HO.o Ya).mono ?_;refine Yes ?_;intro w1 M2 hsz1 Nk;go_wp2_with fail;refine (Zmb b c sn A l _ M2.o Ya).mono ?_;refine Yet ?_;intro w2 A1 c1 F7 Td Uz hsz2;refine Y87 ?_;intro s0 f0 hb2 fk qq Vy;clear F7 Td Uz
 go_upto_region 8 with
  (at_builtin;refine Z0g (w2.alloc (.cells #[.string x] 189)) rfl (.tmp 23) (.tmp 25) 231 rfl 189 i0 _ 1 16 Tryz.underlying231 hi Nc rm Aj rfl Ya (.slice A1 l.length c1) l.length (l.flatMap Z1v.cells) rfl (Z02 fk.o.row ((Zst _ _).alloc (Zsu _) _)) (some ⟨w2.heap.size,0,none⟩) 1 1 (Z1v.cells x) rfl rfl (fun _=>⟨_,rfl,Zte (heap_alloc_new _ _)⟩) (Z1v.one x) Yj Ya ?_;
   intro v2 w3 Od Cf Si Xd;
   obtain ⟨g,c2,rfl⟩:∃g c2,v2 = .slice (some ⟨g,0,none⟩) (l.length+1) c2:=(by
    rcases Z0f Od with ⟨_,h0,_⟩|⟨g,c2,h,_⟩
    · omega
    · exact ⟨g,c2,h⟩);
   have pm:=(fk.o.blk.alloc (.cells #[.string x] 189)).grown Cf (Z01 fk.o.row fk.o.blk Yc);
   have c0:=(pm.cell 0).trans rfl;
   have z0:=pm.frozen 0;
   have Ue:=hU pm;
   have ss:=hU Od;
   have yr:=hU Cf;
   clear pm Od Cf)
 refine Y4c ?_;intro hlg
 have hG:(Z0w b sn A g∨w.heap.size≤g)∧Z1w w sn A false (some ⟨g,0,none⟩)∧True∧g≠b:=by
  exact Yte
 obtain ⟨Cr,C5,hgk1,Dg⟩:=hG;refine Yp0 ?_;intro w4 N8;have Ll:Blk w4 b 233 #[.slice (some ⟨g,0,none⟩) (l.length+1) c2,.bool false]:=YDu
 have jy:w4.ownsRow 0 189 1 (.slice (some ⟨g,0,none⟩) (l.length+1) c2) (l.length+1) ((Z0k l x l.length).flatMap Z1v.cells):=by
  exact Yei
 have uc:Fr (Z0w b sn A) w w4:=by
  exact Yev
 refine Yvv ?_;intro sk Kw Ni pq ae s4 E7;clear s4 N8 Ll jy uc Xd Cr C5 Si  s0 f0;go_wp2_with fail
 go_loopw [7] (fun s wr=>∃i:Nat,s = .int .i64 i∧rank Z15 l x≤i∧i≤l.length∧wr.ownsRow 0 189 1 (.slice (some ⟨g,0,none⟩) (l.length+1) c2) (l.length+1) ((Z0k l x i).flatMap Z1v.cells)∧Fr (· = g) w4 wr) (fun s wr=>(intOf s).toNat)
 case atStart=>exact ⟨l.length,Yn,iu,Zsu _,pq.o,Fr.refl _ _⟩
 case round=>
  obtain ⟨i,rfl,hi1,ul,Od,zp⟩:=hrel;refine Yul ?_;intro hgw r0 fz Cj Is;clear Od zp;by_cases hlt:rank Z15 l x<i
  · obtain ⟨j,rfl⟩:∃j,i=j+1:=⟨i - 1,Ya⟩
    have hj:j<l.length:=Ya;have Xm:=Z0e (A:=some ⟨g,0,none⟩) (c:=c2) (l:=Z0k l x (j+1)) Z1v.cells_length YCh;obtain ⟨g',o',Pm,_,R9⟩:=Xm.at_ (k:=j) Yu;injection Pm with Pm;injection Pm with hg1 hg2;subst hg1;subst hg2;rw [Z2n l x hj] at R9;have q0:wr.cell? ⟨g,j,none⟩=some (.string l[j]):=Yq
    have rmj:Room wr g 189 (c2*1)∧l.length+1≤c2:=by
     exact Yty
    obtain ⟨zm,re⟩:=rmj;obtain ⟨u0,t0⟩:=zm.cell (i:=(j+1)) Ya;refine Yqp ?_;intro b0 b1 b4 b2 b3 w1 w2;clear R9 Xm zm;refine Yay ?_;intro y hy;rw [←hy] at q0;refine Ybq ?_;intro HY U9;clear hy;go_wp2_with fail;refine Z03 (fun w9=>Below wr.heap.size wr w9) [(0,0),(1,0),(2,0),(3,1),(4,0),(5,0),(6,0),(7,0),(8,1),(9,0),(10,0),(11,0),(12,1),(13,0),(14,2)] Yb Yb (fun KK hKK=>?_);refine Y9j ?_;refine Y2t ?_;refine Y1l ?_;clear hKK KK;go_wp2_with fail;go_roundw
    case rel=>
     refine Y0x ?_;have Ss:=((Cj.o).stored ((j+1)) (.string y)).1
     have he:setAll ((Z0k l x (j+1)).flatMap Z1v.cells) ((j+1)) (Z1v.cells y)=(Z0k l x j).flatMap Z1v.cells:=by
      rw [Z5q Z1v.cells_length Ya _ (j+1) Yu,HY.o,Z2o l x hj]
     rw [←he];exact Ss
    case measure=>simp [intOf]<;>omega
  · obtain rfl:i=rank Z15 l x:=by omega
    have rmj:Room wr g 189 (c2*1)∧l.length+1≤c2:=by
     exact Yty
    obtain ⟨zm,re⟩:=rmj;obtain ⟨k,hk⟩:∃k,k=rank Z15 l x:=⟨_,rfl⟩;rw [←hk] at ul hlt ⊢;refine Y2m ?_;intro u0 t0 b1 b2 HK U9;clear zm hk;go_wp2_with fail;go_ret;have uy:=Cj.o;rw [←HK.o] at uy;have Ss:=((uy).stored (k) (.string x)).1
    have he:setAll ((Z0k l x k).flatMap Z1v.cells) (k) (Z1v.cells x)=(put Z15 l x).flatMap Z1v.cells:=by
     rw [Z5q Z1v.cells_length Ya _ k Yu,Z3b l x ul,Z6b Z4e HO.o hh,HK.o]
    have ju:=Z2y Z4e HO.o hh;exact Y61
theorem Zmi (b c:Nat) (sn:Bool) (A:Option Addr) (l:List Z1v) (x:Z1v) (w:World) (hS:Z3e w b sn A c l) (hs:Srt Z15 l) (hl:(l.length:Int)≤100000000) :
 Calls Tryz.prog 86 #[.pointer (some ⟨b,0,none⟩),.string x] w (Z6g w b sn A l x):=by
 cases hh:has Z15 l x
 · exact Zcg b c sn A l x w hS hs hl hh
 · exact Zaa b c sn A l x w hS hs hl hh
theorem Zg9 (b c:Nat) (sn:Bool) (A:Option Addr) (l:List Z1v) (x:Z1v) (w:World) (hS:Z3e w b sn A c l) (hs:Srt Z15 l) (hl:(l.length:Int)≤1000000000) :
 Calls Tryz.prog 88 #[.pointer (some ⟨b,0,none⟩),.string x] w (Zat l x w):=by
 have HS:=hU hS;have HO:=hU hs;clear hS hs;go_enter Tryz.func88,Tryz.ntmps88;go_wp2_with fail;refine (Z8q b c sn A l x _ (HS.o.new_ (Zst _ _)) HO.o Ya).mono ?_;exact Yb4
def Zcv (w:World) (xs:List Z1v) (e:Ending) (w':World):Prop:=
 ∃k,e = .returned (.pointer (some ⟨k,0,none⟩))∧w.heap.size≤k∧∃sn A c,Z3e w' k sn A c (puts Z15 [] xs)∧AIn A (w.heap.size≤·)∧Below w.heap.size w w'
theorem Zm2 (A:Option Addr) (c:Nat) (xs:List Z1v) (w:World) (hrd:Z0y w 1 Z1v.cells A c xs) (hl:(xs.length:Int)≤10000000) :
 Calls Tryz.prog 85 #[.slice A xs.length c] w (Zcv w xs):=by
 have Ww:=hU hrd;clear hrd;go_enter Tryz.func85,Tryz.ntmps85;go_wp2_with fail;obtain ⟨W0,rp⟩:∃W0,W0=w.alloc (.cells #[.slice none 0 0,.bool false] 233):=⟨_,rfl⟩;have yj:Below w.heap.size w W0:=Yp;have Ud:Z3e W0 w.heap.size false none 0 []:=⟨Yw,⟨Ye,.inl ⟨rfl,rfl⟩⟩⟩;rw [←rp];clear rp;have jv:=hU yj;have Vf:=hU Ud;clear yj Ud
 go_loopw [10] (fun s wr=>∃i:Nat,s = .int .i64 i∧i≤xs.length∧∃sn A' c',Z3e wr w.heap.size sn A' c' (puts Z15 [] (xs.take i))∧AIn A' (w.heap.size≤·)∧Below w.heap.size w wr) (fun s wr=>xs.length - (intOf s).toNat)
 case atStart=>exact ⟨0,rfl,Nat.zero_le _,false,none,0,Vf.o,AIn.none_ _,jv.o⟩
 case round=>
  obtain ⟨i,rfl,hi,sn,A',c',hS,Ml,hB⟩:=hrel;have HS:=hU hS;have HA:=hU Ml;have HB:=hU hB;clear hS Ml hB;by_cases hlt:i<xs.length
  · refine Ycc ?_;intro x hx
    obtain ⟨g,off,rfl,hgs,R9⟩:=(Ww.o.fr (Fr.of_new (M:=fun _=>False) HB.o) (fun _ _ h=>h)).at_ hlt;rw [←hx] at R9;have q0:wr.cell? ⟨g,off+i,none⟩=some (.string x):=Yq;refine Yhh ?_;intro b1 b2 HX;clear R9 hx;go_wp2_with fail;have Nl:=Srt.puts Z4e (xs.take i) (Srt.nil (cmp:=Z15))
    have Vx:(((puts Z15 [] (xs.take i)).length:Nat):Int)≤100000000:=by
     have:=Z1e Z4e (xs.take i) (Srt.nil (cmp:=Z15));exact Yt5
    refine (Zmi w.heap.size c' sn A' _ x _ (HS.o.new_ (Zst _ _)) Nl Vx).mono ?_;exact Yc0
  · exact Yro
end
section
open Go.RowKit Go.Shelf
attribute [local go_sem] Oper.semAt_some
theorem Zdr (n:Nat) (h :¬n<10) (hn:n<9223372036854775808) (ih :∀w,Calls Tryz.prog 87 #[.int .i64 ((n / 10:Nat):Int)] w fun e w'=>e = .returned (.string (decB (n / 10)))∧Below w.heap.size w w') (w:World):Calls Tryz.prog 87 #[.int .i64 n] w fun e w'=>e = .returned (.string (decB n))∧Below w.heap.size w w':=by
 refine Yow ?_;intro t1 b0 b1 hc e1 e2 m0 m1 m hm q hq;rw [←hm] at hc e2 m0 m1;rw [←hq] at e1 ih;(have HD:Hq (decB n=decB q++Z79 m):=by rw [decB,if_neg h,hm,hq];rfl);refine Y76 ?_;intro v1 v2 v3 v4;(have hz :¬9223372036854775807<(decB q).size+(Z79 m).size:=by have:=Z6p (n:=q) Ya;rw [Z71];omega);clear e2;have IH:=hU ih;have HC:=hU hc;clear ih h hm hq hc;go_enter Tryz.func87,Tryz.ntmps87;exact Ysd
theorem Zdq (n:Nat) (h:n<10) (w:World):Calls Tryz.prog 87 #[.int .i64 n] w fun e w'=>e = .returned (.string (decB n))∧Below w.heap.size w w':=by
 refine Yu1 ?_;intro t1 b0 b1 hc;(have HD:Hq (decB n=Z79 n):=by rw [decB,if_pos h];rfl);clear h;go_enter Tryz.func87,Tryz.ntmps87;go_wp2_with fail;go_ret;exact ⟨YCo,(Zst _ _).alloc (Zsu _) _⟩
theorem Ziu (n:Nat) (hn:n<9223372036854775808) (w:World):Calls Tryz.prog 87 #[.int .i64 n] w fun e w'=>e = .returned (.string (decB n))∧Below w.heap.size w w':=by
 induction n using Nat.strongRecOn generalizing w with
 | _ n ih=>
   by_cases h:n<10
   · exact Zdq n h w
   · exact Zdr n h hn (fun w=>ih (n / 10) Ya Ya w) w
theorem Z7q {α:Type}{g:Operand}{ps:Array Tmp}{assign body:Code}{Q:Exit→Act→World→Prop}{a:Act}{w:World}{gf:Nat}{lb:Array Value}{encs:α→Array Value}{Kp:World→World→Prop}(hg:a.eval g = .func (.func gf) #[] lb) (hq:Seq gf lb encs [] w (fun X Y=>Y=X) Kp) (hps :∀x,(encs x).size=ps.size)
 (hdone :∀(D:Nat) (W:World),w.heap.size≤D→Below w.heap.size w W→W.heap[D]? = some (.deferred (some []))→Q .normal { a with defers:={ target:=.collected D,args:=#[] } :: a.defers } W) :
 (Code.rangeFunc g ps assign body).wpIn Fence.wide 0 Tryz.prog Q a w:=by
 refine Zjz (w:=w) hg hq.enter hq.iter hps hq.trans hq.keep (fun W W1 h=>Z36 (hq.mods W W1 h)) (fun p W=>Below w.heap.size w W) (fun _ _ _=>False) ?_ (fun _ _ _ _ h=>h.elim) ?_ ?_ ?_ ?_
 · intro p X Y h hp;exact Below.priv' h hp (Zsu _) h.size
 · intro W W1 hW hs;subst hs;exact hW
 · intro l pre x post W hx;simp at hx
 · exact fun D W h1 h2 h3=>hdone D W h1 h2 h3
 · intro D c pre post W _ _ h;exact h.elim
theorem Zlk {gf:Nat}{lb:Array Value}{Kp:World→World→Prop}(w:World) (hq:Seq gf lb Zda [] w (fun X Y=>Y=X) Kp) :
 Calls Tryz.prog 47 #[.func (.func gf) #[] lb] w fun e w'=>e = .returned (.string (Z6l 1))∧Below w.heap.size w w':=by
 have HQ:=hU hq;clear hq;refine (callsIn_wide (n:=0)).1 ?_;refine callsIn_of_wp_marks Tryz.func47 rfl trivial ?_;simp only [Tryz.ntmps47,Zu5,Ztg,Zu1,Nat.reduceAdd,Nat.reduceSub,Ztw,Ztx,Zu4,Zu0,Ztk,Ztv];gi_wp2_with fail;refine Yi8 ?_;refine (callsIn_wide.2 (Zm2 none 0 [] _ (Z0y.nil _ _ _) Ye)).mono ?_;rintro e w1 ⟨bp,rfl,hbp,sn,A,c,hS,hA,hB⟩;have HS:=hU hS;have HB:=hU hB;clear hS hA hB;gi_wp2_with fail;obtain ⟨w3,F4⟩:∃W,W=w1.alloc (.cells #[.pointer (some ⟨bp,0,none⟩)] 187):=⟨_,rfl⟩;obtain ⟨bb,Oq⟩:∃b,b=w1.heap.size:=⟨_,rfl⟩;have KB:=hU (show Blk w3 bb 187 #[.pointer (some ⟨bp,0,none⟩)] by rw [F4,Oq];exact Blk.new _ _ _);have Ri:Below w1.heap.size w1 w3:=YJn;have Ue:=hU (HB.o.trans (Ri.mono HB.o.size));have HS:=hU (HS.o.new_ Ri);rw [←F4,←Oq];clear F4 Oq Ri;refine Z7q Yd (HQ.o.new_ Ue.o) (fun x=>Yd) (fun Dd W hDd U9 hK=>?_);have Nk:=hU (Ue.o.trans (U9.mono Ue.o.size));have S1:=hU (HS.o.new_ U9);have K1:=hU (KB.o.new_ U9);have HK:=hU hK;have HDd:=hU (Zt6 Ue.o.size hDd);clear U9 hK hDd;gi_wp2_with fail
 gi_loopw [5] (fun s wr=>s = .int .i64 1∧Below W.heap.size W wr) (fun s wr=>0)
 case atStart=>exact ⟨rfl,Zst _ _⟩
 case round=>
  obtain ⟨rfl,U9⟩:=hrel;have Jm:=hU U9;clear U9;obtain ⟨dg,hdg⟩:∃d,d=decB 1:=⟨_,rfl⟩;have HD:=hU (show ∀W,Calls Tryz.prog 87 #[.int .i64 1] W fun e w'=>e = .returned (.string dg)∧Below W.heap.size W w' from fun W=>by rw [hdg];exact Ziu 1 Ya W);(have hds :¬9223372036854775807<6+dg.size:=by have:=Z6p (n:=1) Ya;rw [←hdg] at this;omega);have xw:=hU hdg;clear hdg;gi_wp2_with fail;refine Yi8 ?_;refine (callsIn_wide.2 (HD.o _)).mono ?_;rintro e w5 ⟨rfl,ww⟩;have Jm:=hU (Jm.o.trans (ww.mono Jm.o.size));have S5:=hU (S1.o.new_ Jm.o);have b0:=(K1.o.new_ Jm.o).c1;have bz:=(K1.o.new_ Jm.o).lt;clear ww;gi_wp2_with fail;refine Yi8 ?_;refine (callsIn_wide.2 (Zg9 bp c sn A [] ((⟨#[99,104,117,110,107,45]⟩:ByteArray)++dg) w5 S5.o Srt.nil Ye)).mono ?_;rintro e w6 ⟨rfl,un⟩;have Jm:=hU (Jm.o.trans (un.mono Jm.o.size));have HCH:=hU (show Z6l 1=⟨#[99,104,117,110,107,45]⟩++dg by rw [xw.o];rfl);rw [show has Z15 [] ((⟨#[99,104,117,110,107,45]⟩:ByteArray)++dg)=false from rfl];clear un b0 bz;have HKW:=hU ((Jm.o.block Dd (Zt7.1 HK.o).1).trans HK.o);gi_wp2_with fail;refine ⟨Ye,.inl ⟨_,_,rfl,run_takeDeferred HKW.o,?_⟩⟩;have lj:Priv w.heap.size w6 (w6.putObj Dd (.deferred none)):=(Priv.refl _ _).putObj HDd.o HKW.o rfl _;exact ⟨_,results_tmp rfl _ _ _,by rw [HCH.o]<;>rfl,Below.priv' (Nk.o.trans (Jm.o.mono Nk.o.size)) lj (Zsu _) (Zt6 Nk.o.size Jm.o.size)⟩
theorem Zgv {D:Nat→Prop}{nb:Nat}{ns:List Sym}(a b:Elem) (w:World) (h:Nm D w nb ns) (hl:ns.length≤100000):Calls Tryz.prog 101 #[.pointer (some ⟨nb,0,none⟩),.agg (Q0j a),.agg (Q0j b)] w fun e w'=>e = .returned (.bool (Z9m ns a b))∧Below w.heap.size w w':=by
 have HID:=hU (fun (s:Sym) W (hW:Below w.heap.size w W)=>Zs5 s W (h.new_ hW) hl);have Kd:=hU (fun (s:Sym) W (hW:Below w.heap.size w W)=>Zp9 s W (h.new_ hW) hl);have Ve:=hU (fun (s:Sym) W (hW:Below w.heap.size w W)=>Z4d s W (h.new_ hW) hl);have HC:=hU (show Z6i ns a b=_ from rfl);unfold Z6i at HC;clear h hl;obtain ⟨v,hv⟩:∃v,v=Z9m ns a b:=⟨_,rfl⟩;rw [←hv];have HV:=hU hv;clear hv;obtain ⟨i,hi⟩:∃x,x=idN ns a.id:=⟨_,rfl⟩;obtain ⟨j,hj⟩:∃x,x=idN ns b.id:=⟨_,rfl⟩;obtain ⟨c1,Al⟩:∃x,x=Z1b (idN ns a.id) (idN ns b.id):=⟨_,rfl⟩;obtain ⟨c2,Kz⟩:∃x,x=Z0o a.attr b.attr:=⟨_,rfl⟩;obtain ⟨ra,O4⟩:∃x,x=rkN ns a.value:=⟨_,rfl⟩;obtain ⟨rb,hrb⟩:∃x,x=rkN ns b.value:=⟨_,rfl⟩;obtain ⟨c4,Lq⟩:∃x,x=Z1b (rkN ns a.value) (rkN ns b.value):=⟨_,rfl⟩;obtain ⟨c5,zc⟩:∃x,x=Z0o a.value b.value:=⟨_,rfl⟩;obtain ⟨c6,hc6⟩:∃x,x=Z1b (plV ns a.value:Int) (plV ns b.value:Int):=⟨_,rfl⟩;obtain ⟨c7,Jt⟩:∃x,x=Z1b a.tag b.tag:=⟨_,rfl⟩;have HIA:=hU (show ∀W,Below w.heap.size w W→Calls Tryz.prog 125 #[.pointer (some ⟨nb,0,none⟩),.agg (Q1d a.id)] W fun e w'=>e = .returned (.int .i64 i)∧Below W.heap.size W w' from fun W hW=>by rw [hi];exact HID.o a.id W hW);have HIB:=hU (show ∀W,Below w.heap.size w W→Calls Tryz.prog 125 #[.pointer (some ⟨nb,0,none⟩),.agg (Q1d b.id)] W fun e w'=>e = .returned (.int .i64 j)∧Below W.heap.size W w' from fun W hW=>by rw [hj];exact HID.o b.id W hW);have M2:=hU (show ∀W,Calls Tryz.prog 124 #[.int .i64 i,.int .i64 j] W fun e w'=>e = .returned (.int .i64 c1)∧W=w' from fun W=>by rw [Al,hi,hj];exact Zco _ _ W);have xm:=hU (show ∀W,Below w.heap.size w W→Calls Tryz.prog 127 #[.pointer (some ⟨nb,0,none⟩),.agg (Q1d a.value)] W fun e w'=>e = .returned (.int .i64 ra)∧Below W.heap.size W w' from fun W hW=>by rw [O4];exact Kd.o a.value W hW);have Lo:=hU (show ∀W,Below w.heap.size w W→Calls Tryz.prog 127 #[.pointer (some ⟨nb,0,none⟩),.agg (Q1d b.value)] W fun e w'=>e = .returned (.int .i64 rb)∧Below W.heap.size W w' from fun W hW=>by rw [hrb];exact Kd.o b.value W hW);have HS4:=hU (show ∀W,Calls Tryz.prog 124 #[.int .i64 ra,.int .i64 rb] W fun e w'=>e = .returned (.int .i64 c4)∧W=w' from fun W=>by rw [Lq,O4,hrb];exact Zco _ _ W);have Ns:=hU (show ∀W,Calls Tryz.prog 126 #[.agg (Q1d a.attr),.agg (Q1d b.attr)] W fun e w'=>e = .returned (.int .i64 c2)∧Below W.heap.size W w' from fun W=>by rw [Kz];exact Zbr a.attr b.attr W);have P4:=hU (show ∀W,Calls Tryz.prog 126 #[.agg (Q1d a.value),.agg (Q1d b.value)] W fun e w'=>e = .returned (.int .i64 c5)∧Below W.heap.size W w' from fun W=>by rw [zc];exact Zbr a.value b.value W);have Su:=hU (show ∀W,Calls Tryz.prog 124 #[.int .i64 a.tag,.int .i64 b.tag] W fun e w'=>e = .returned (.int .i64 c7)∧W=w' from fun W=>by rw [Jt];exact Zco _ _ W);obtain ⟨pa,hpa⟩:∃x,x=(plV ns a.value:Int):=⟨_,rfl⟩;obtain ⟨pb,hpb⟩:∃x,x=(plV ns b.value:Int):=⟨_,rfl⟩;have HPA:=hU (show ∀W,Below w.heap.size w W→Calls Tryz.prog 79 #[.pointer (some ⟨nb,0,none⟩),.agg (Q1d a.value)] W fun e w'=>e = .returned (.int .i64 pa)∧Below W.heap.size W w' from fun W hW=>by rw [hpa];exact Ve.o a.value W hW);have Bz:=hU (show ∀W,Below w.heap.size w W→Calls Tryz.prog 79 #[.pointer (some ⟨nb,0,none⟩),.agg (Q1d b.value)] W fun e w'=>e = .returned (.int .i64 pb)∧Below W.heap.size W w' from fun W hW=>by rw [hpb];exact Ve.o b.value W hW);have T9:=hU (show ∀W,Calls Tryz.prog 124 #[.int .i64 pa,.int .i64 pb] W fun e w'=>e = .returned (.int .i64 c6)∧W=w' from fun W=>by rw [hc6,hpa,hpb];exact Zco _ _ W);have HV:=hU (show v=decide (andThen c1 (andThen c2 (andThen (Z5n a.acc b.acc) (andThen c4 (andThen (if ra=0 then c5 else if ra=1 then c6 else 0) c7))))<0) by rw [HV.o,Al,Kz,Lq,zc,hc6,Jt,O4];rfl);have ll:=hU (show ra=0∨ra=1∨ra=2 by rw [O4];unfold rkN;split;exact .inl rfl;split;exact .inr (.inr rfl);exact .inr (.inl rfl));clear HID Kd Ve HC hi hj Al Kz O4 hrb Lq zc hc6 Jt hpa hpb;go_enter Tryz.func101,Tryz.ntmps101;go_upto_region 1 with fail;obtain ⟨w1,Fg⟩:∃w1,w1=((w.alloc (.cells (Q0j a) 50)).alloc (.cells (Q0j b) 50)):=⟨_,rfl⟩;refine Yt9 ?_;intro HB;have Ka:=hU (show Blk w1 (w.heap.size) 50 (Q0j a) by rw [Fg];exact ((Blk.new w 50 (Q0j a)).alloc (.cells (Q0j b) 50)));have Kb:=hU (show Blk w1 (w.heap.size+1) 50 (Q0j b) by rw [Fg];have hh:=(Blk.new (w.alloc (.cells (Q0j a) 50)) 50 (Q0j b));simp only [Zti] at hh;exact hh);clear Fg;refine Y2p ?_;intro a0 a1 a2 a3 a4 a5 a6 a7 a8 a9 bu L4 az b0 b1 b2 b3 b4 b5 b6 b7 b8 b9 vp sr bz;go_upto_region 1 with fail;refine Z03 (fun w9=>Below w1.heap.size w1 w9) [(0,0),(1,0),(2,1),(4,0),(5,0),(6,1),(3,2),(7,2),(8,2),(9,0)] Yb Yb (fun KK hKK=>?_);refine Ybp ?_;refine Ysm ?_;intro K9 hK9;refine (HIA.o _ (HB.o.trans (((Zst w1.heap.size w1).drew).mono HB.o.size))).mono ?_;rintro e w31 ⟨rfl,Lc⟩;have tc:=hU ((Zst w1.heap.size w1).drew.trans (Lc.mono Ye));clear Lc;refine hK9 _ _ tc.o ?_;clear hK9 K9;refine Ysm ?_;intro K9 hK9;refine (HIB.o _ (HB.o.trans ((tc.o).mono HB.o.size))).mono ?_;rintro e w32 ⟨rfl,ue⟩;have Fm:=hU (tc.o.trans (ue.mono tc.o.size));clear ue;refine hK9 _ _ Fm.o ?_;clear hK9 K9;refine Ysm ?_;intro K9 hK9;refine (M2.o _).mono ?_;rintro e w0 ⟨rfl,rfl⟩;refine hK9 _ _ Fm.o ?_;clear hK9 K9;(repeat ((first|(refine Z05 ?_ (Or.inl ⟨Yd,fun w9=>?_⟩) ?_;rotate_left 1;go_simp;with_reducible rfl)|(refine Z04 ?_ (Fm.o) (Or.inl ⟨Yd,fun w9 hw9=>?_⟩) ?_;rotate_left 1;obtain ⟨Do,rr⟩:=Z0i hw9;go_simp;with_reducible rfl)|refine Z05 undef (Or.inr ⟨Yd,rfl⟩) ?_|refine Z04 undef (Fm.o) (Or.inr ⟨Yd,rfl⟩) ?_);go_frame));refine Yf0 ?_;clear hKK KK;have Ka:=hU (Ka.o.new_ Fm.o);have Kb:=hU (Kb.o.new_ Fm.o)
 have HB:=hU (HB.o.trans (Fm.o.mono HB.o.size));have hsz_w32:=HB.o.size;clear a0 a1 a2 a3 a4 a5 a6 a7 a8 a9 bu L4 az b0 b1 b2 b3 b4 b5 b6 b7 b8 b9 vp sr bz;refine Y2p ?_;intro a0 a1 a2 a3 a4 a5 a6 a7 a8 a9 bu L4 az b0 b1 b2 b3 b4 b5 b6 b7 b8 b9 vp sr bz;by_cases hc10:c1=0
 · skip
   replace HV:=hU (show v=decide (andThen c2 (andThen (Z5n a.acc b.acc) (andThen c4 (andThen (if ra=0 then c5 else if ra=1 then c6 else 0) c7)))<0) from HV.o.trans (by rw [Z4w _ hc10]));subst hc10;go_wp2_with fail;(with_reducible refine (Ns.o _).mono ?_);rintro e w2 ⟨rfl,hb⟩;have Xe:=Below.trans (show Below w32.heap.size w32 _ from Yf) (hb.mono (by simp<;>omega));refine Yr0 ?_;intro Ka Kb HB;have hsz2:=Xe.size;clear a0 a1 a2 a3 a4 a5 a6 a7 a8 a9 bu L4 az b0 b1 b2 b3 b4 b5 b6 b7 b8 b9 vp sr bz hb Xe;refine Y2p ?_;intro a0 a1 a2 a3 a4 a5 a6 a7 a8 a9 bu L4 az b0 b1 b2 b3 b4 b5 b6 b7 b8 b9 vp sr bz;by_cases hc20:c2=0
   · skip
     replace HV:=hU (show v=decide (andThen (Z5n a.acc b.acc) (andThen c4 (andThen (if ra=0 then c5 else if ra=1 then c6 else 0) c7))<0) from HV.o.trans (by rw [Z4w _ hc20]));subst hc20;obtain ⟨xa,hxa⟩:∃x,x=a.acc:=⟨_,rfl⟩;obtain ⟨xb,hxb⟩:∃x,x=b.acc:=⟨_,rfl⟩;rw [←hxa] at a9 HV;rw [←hxb] at b9 HV;clear hxa hxb;by_cases hac:xa=xb
     · skip
       subst hac;replace HV:=hU (show v=decide (andThen c4 (andThen (if ra=0 then c5 else if ra=1 then c6 else 0) c7)<0) from HV.o.trans (by rw [Z4w _ (Zq7.refl _)]));have ea:(xa != xa)=false:=Ye;go_upto_region 7 with fail;refine Z03 (fun w9=>Below w2.heap.size w2 w9) [(0,0),(1,0),(2,1),(4,0),(5,0),(6,1),(3,2),(7,2),(8,2),(9,0)] Yb Yb (fun KK hKK=>?_);refine Ybp ?_;refine Ysm ?_;intro K9 hK9;refine (xm.o _ (HB.o.trans (((Zst w2.heap.size w2).drew).mono HB.o.size))).mono ?_;rintro e w41 ⟨rfl,ki⟩;have pu:=hU ((Zst w2.heap.size w2).drew.trans (ki.mono Ye));clear ki;refine hK9 _ _ pu.o ?_;clear hK9 K9;refine Ysm ?_;intro K9 hK9;refine (Lo.o _ (HB.o.trans ((pu.o).mono HB.o.size))).mono ?_;rintro e w42 ⟨rfl,Wk⟩;have fp:=hU (pu.o.trans (Wk.mono pu.o.size));clear Wk;refine hK9 _ _ fp.o ?_;clear hK9 K9;refine Ysm ?_;intro K9 hK9;refine (HS4.o _).mono ?_;rintro e w0 ⟨rfl,rfl⟩;refine hK9 _ _ fp.o ?_;clear hK9 K9;(repeat ((first|(refine Z05 ?_ (Or.inl ⟨Yd,fun w9=>?_⟩) ?_;rotate_left 1;go_simp;with_reducible rfl)|(refine Z04 ?_ (fp.o) (Or.inl ⟨Yd,fun w9 hw9=>?_⟩) ?_;rotate_left 1;obtain ⟨Do,rr⟩:=Z0i hw9;go_simp;with_reducible rfl)|refine Z05 undef (Or.inr ⟨Yd,rfl⟩) ?_|refine Z04 undef (fp.o) (Or.inr ⟨Yd,rfl⟩) ?_);go_frame));refine Yf0 ?_;clear hKK KK;have Ka:=hU (Ka.o.new_ fp.o);have Kb:=hU (Kb.o.new_ fp.o);have HB:=hU (HB.o.trans (fp.o.mono HB.o.size));have hsz_w42:=HB.o.size;clear a0 a1 a2 a3 a4 a5 a6 a7 a8 a9 bu L4 az b0 b1 b2 b3 b4 b5 b6 b7 b8 b9 vp sr bz;refine Y2p ?_;intro a0 a1 a2 a3 a4 a5 a6 a7 a8 a9 bu L4 az b0 b1 b2 b3 b4 b5 b6 b7 b8 b9 vp sr bz;by_cases hc40:c4=0
       · skip
         replace HV:=hU (show v=decide (andThen (if ra=0 then c5 else if ra=1 then c6 else 0) c7<0) from HV.o.trans (by rw [Z4w _ hc40]));subst hc40;go_wp2_with fail;(with_reducible refine (xm.o _ Yt).mono ?_);rintro e w3 ⟨rfl,hb⟩;have Xe:=Below.trans (show Below w42.heap.size w42 _ from Yf) (hb.mono (by simp<;>omega));refine Yr0 ?_;intro Ka Kb HB;have hsz3:=Xe.size;clear a0 a1 a2 a3 a4 a5 a6 a7 a8 a9 bu L4 az b0 b1 b2 b3 b4 b5 b6 b7 b8 b9 vp sr bz hb Xe;refine Y2p ?_;intro a0 a1 a2 a3 a4 a5 a6 a7 a8 a9 bu L4 az b0 b1 b2 b3 b4 b5 b6 b7 b8 b9 vp sr bz;have Gi:=ll.o;clear ll xm Lo;rcases Gi with Gi|Gi|Gi
         · skip
           replace HV:=hU (show v=decide (andThen c5 c7<0) by rw [HV.o,Gi];rfl);subst Gi;go_wp2_with fail;(with_reducible refine (P4.o _).mono ?_);rintro e w4 ⟨rfl,hb⟩;have Xe:=Below.trans (show Below w3.heap.size w3 _ from Yf) (hb.mono (by simp<;>omega));refine Yr0 ?_;intro Ka Kb HB;have hsz4:=Xe.size;clear a0 a1 a2 a3 a4 a5 a6 a7 a8 a9 bu L4 az b0 b1 b2 b3 b4 b5 b6 b7 b8 b9 vp sr bz hb Xe;refine Y2p ?_;intro a0 a1 a2 a3 a4 a5 a6 a7 a8 a9 bu L4 az b0 b1 b2 b3 b4 b5 b6 b7 b8 b9 vp sr bz;by_cases hc50:c5=0
           · skip
             replace HV:=hU (show v=decide (c7<0) from HV.o.trans (by rw [Z4w _ hc50]));subst hc50;exact Yyi
           · skip
             replace HV:=hU (show v=decide (c5<0) by rw [HV.o,Z4x _ hc50]);(have c5a:(c5 == 0)=false:=by simp [hc50]);(have c5b:decide (c5=0)=false:=by simp [hc50]);clear hc50;exact Yxv
         · skip
           replace HV:=hU (show v=decide (andThen c6 c7<0) by rw [HV.o,Gi];rfl);subst Gi;go_upto_region 13 with fail;refine Z03 (fun w9=>Below w3.heap.size w3 w9) [(0,0),(1,0),(2,1),(4,0),(5,0),(6,1),(3,2),(7,2),(8,2),(9,0)] Yb Yb (fun KK hKK=>?_);refine Ybp ?_;refine Ysm ?_;intro K9 hK9;refine (HPA.o _ (HB.o.trans (((Zst w3.heap.size w3).drew).mono HB.o.size))).mono ?_;rintro e w51 ⟨rfl,uf⟩;have Rk:=hU ((Zst w3.heap.size w3).drew.trans (uf.mono Ye));clear uf;refine hK9 _ _ Rk.o ?_;clear hK9 K9;refine Ysm ?_;intro K9 hK9;refine (Bz.o _ (HB.o.trans ((Rk.o).mono HB.o.size))).mono ?_;rintro e w52 ⟨rfl,U6⟩;have pp:=hU (Rk.o.trans (U6.mono Rk.o.size));clear U6;refine hK9 _ _ pp.o ?_;clear hK9 K9;refine Ysm ?_;intro K9 hK9;refine (T9.o _).mono ?_;rintro e w0 ⟨rfl,rfl⟩;refine hK9 _ _ pp.o ?_;clear hK9 K9;(repeat ((first|(refine Z05 ?_ (Or.inl ⟨Yd,fun w9=>?_⟩) ?_;rotate_left 1;go_simp;with_reducible rfl)|(refine Z04 ?_ (pp.o) (Or.inl ⟨Yd,fun w9 hw9=>?_⟩) ?_;rotate_left 1;obtain ⟨Do,rr⟩:=Z0i hw9;go_simp;with_reducible rfl)|refine Z05 undef (Or.inr ⟨Yd,rfl⟩) ?_|refine Z04 undef (pp.o) (Or.inr ⟨Yd,rfl⟩) ?_);go_frame));refine Yf0 ?_;clear hKK KK;have Ka:=hU (Ka.o.new_ pp.o);have Kb:=hU (Kb.o.new_ pp.o);have HB:=hU (HB.o.trans (pp.o.mono HB.o.size));have hsz_w52:=HB.o.size;clear a0 a1 a2 a3 a4 a5 a6 a7 a8 a9 bu L4 az b0 b1 b2 b3 b4 b5 b6 b7 b8 b9 vp sr bz;refine Y2p ?_;intro a0 a1 a2 a3 a4 a5 a6 a7 a8 a9 bu L4 az b0 b1 b2 b3 b4 b5 b6 b7 b8 b9 vp sr bz;by_cases hc60:c6=0
           · skip
             replace HV:=hU (show v=decide (c7<0) from HV.o.trans (by rw [Z4w _ hc60]));subst hc60;exact Yyi
           · skip
             replace HV:=hU (show v=decide (c6<0) by rw [HV.o,Z4x _ hc60]);(have c6a:(c6 == 0)=false:=by simp [hc60]);(have c6b:decide (c6=0)=false:=by simp [hc60]);clear hc60;exact Yxv
         · skip
           replace HV:=hU (show v=decide (c7<0) by rw [HV.o,Gi];rfl);subst Gi;exact Yyi
       · skip
         replace HV:=hU (show v=decide (c4<0) by rw [HV.o,Z4x _ hc40]);(have c4a:(c4 == 0)=false:=by simp [hc40]);(have c4b:decide (c4=0)=false:=by simp [hc40]);clear hc40;exact Yxv
     · skip
       replace HV:=hU (show v=xb from HV.o.trans (by rw [Z4x _ (by rw [Z5n,if_neg hac];split<;>decide),Z5n,if_neg hac];cases xb<;>rfl));cases xa<;>cases xb<;>first|exact absurd rfl hac|skip
       · skip
         clear hac;exact Yxv
       · skip
         clear hac;exact Yxv
   · skip
     replace HV:=hU (show v=decide (c2<0) by rw [HV.o,Z4x _ hc20]);(have c2a:(c2 == 0)=false:=by simp [hc20]);(have c2b:decide (c2=0)=false:=by simp [hc20]);clear hc20;exact Yxv
 · skip
   replace HV:=hU (show v=decide (c1<0) by rw [HV.o,Z4x _ hc10]);(have c1a:(c1 == 0)=false:=by simp [hc10]);(have c1b:decide (c1=0)=false:=by simp [hc10]);clear hc10;exact Yxv
theorem Zr0 (l:List Elem) (A:Option Addr) (c:Nat) (X:World) (h:Z0y X 12 Elem.cells A c l) (hl:l.length≤300):Calls Tryz.prog 78 #[.slice A l.length c] X (Z7c l X):=by
 obtain ⟨i0,tm,Nc,rm,Aj⟩:=infp Zhb;have HR:=hU h;have hc1:=h.cap;clear h;go_enter Tryz.func78,Tryz.ntmps78;go_wp2_with fail;refine (Zkk _).mono ?_;rintro e w1 ⟨bm,bp,sn,AM,cM,rfl,jl,iv,hAM,hM,hS,Pk⟩;have HK:=hU (And.intro jl (And.intro iv (And.intro hAM (And.intro hM (And.intro hS Pk)))));clear jl iv hAM hM hS Pk;go_upto_region 2 with fail;obtain ⟨w2,Es⟩:∃w2,w2=w1.alloc (.cells #[.pointer (some ⟨bm,0,none⟩),.slice none 0 0] 212):=⟨_,rfl⟩;obtain ⟨nb,lx⟩:∃nb,nb=w1.heap.size:=⟨_,rfl⟩;(have lg:Below w1.heap.size w1 w2:=by rw [Es];exact (Zst _ _).alloc (Zsu _) _);have gw:w2.heap.size=w1.heap.size+1:=by rw [Es];simp
 have Rs:=hU (show Nm (fun k=>X.heap.size≤k∧k<w2.heap.size) w2 nb [] by
  obtain ⟨jl,iv,hAM,hM,hS,Pk⟩:=HK.o;have hz:=Pk.size
  refine ⟨bm,bp,sn,AM,cM,[],none,0,by rw [Es,lx];exact Blk.new _ _ _,hM.new_ lg,hS.new_ lg,MapN.nil,⟨Ye,.inl ⟨rfl,rfl⟩⟩,⟨Ya,Ya⟩,⟨jl,by have:=hM.lt;omega⟩,⟨iv,by have:=hS.lt;omega⟩,fun a ha=>⟨hAM a ha,by have:=hS.row_lt a ha;omega⟩,AIn.none_ _,fun k hk=>hk.2⟩)
 have Un:=hU (HK.o.2.2.2.2.2.trans (lg.mono HK.o.2.2.2.2.2.size));rw [←lx,←Es];clear lx Es lg gw;go_upto_region 3 with (at_builtin;refine Z0g w2 rfl (.const (.slice none 0 0)) (.tmp 15) 74 rfl 50 i0 _ 12 112 Tryz.underlying74 tm Nc rm Aj rfl Ya (.slice none 0 0) 0 [] rfl ⟨Ye,.inl ⟨rfl,rfl⟩⟩ A l.length c (l.flatMap Elem.cells) rfl (Z0u Elem.cells_length _) ((HR.o.new_ Un.o).news Elem.cells_length Ya) (Z9h _) Yj Ya ?_;intro v1 w3 rn Kg E5 Tt;obtain ⟨AL0,cL0,rfl,Wj,hA1,hO1⟩:=Z2h (E:=fun _=>False) (A:=none) (c:=0) (n:=0) (fun a ha=>by cases ha) rn Kg Tt;rw [Zts,Ztk] at hO1;rw [Zts];have El:=hU (And.intro Wj (And.intro hA1 hO1));clear rn Kg E5 Tt Wj hA1 hO1)
 have Lf:=hU (show LS X nb [] l [] AL0 cL0 none 0 (fun k=>X.heap.size≤k∧k<w2.heap.size) w3 by
  obtain ⟨hF,hA,hO⟩:=El.o;have Ri:Below w2.heap.size w2 w3:=hF.below (Zsu _) (fun _ _ h=>h);have Aj:=Un.o.size;refine ⟨Rs.o.new_ Ri,fun k hk=>hk.1,hO,fun a ha=>?_,⟨Ye,.inl ⟨rfl,rfl⟩⟩,AIn.none_ _,fun _ _ _ hb=>(by cases hb),Un.o.trans (Ri.mono Aj)⟩;rcases hA a ha with h|⟨h1,_⟩
  · exact h.elim
  · exact ⟨Ya,fun h=>Ya⟩)
 clear Rs Un El HK HR;go_wp2_with fail
 go_loopw [6,7] (fun vl vo wr=>∃(left out:List Elem) (ns:List Sym) (AL:Option Addr) (cL:Nat) (AO:Option Addr) (cO:Nat) (D:Nat→Prop),vl = .slice AL left.length cL∧vo = .slice AO out.length cO∧LS X nb ns left out AL cL AO cO D wr∧left.length+out.length≤300∧ns.length≤2*out.length∧Z99 left.length ns left out=Z5d l) (fun vl vo wr=>lenV vl)
 case atStart=>exact ⟨l,[],[],AL0,cL0,none,0,_,rfl,rfl,Lf.o,YPw,Ye,rfl⟩
 case round=>
  clear Lf;obtain ⟨left,out,ns,AL,cL,AO,cO,D,rfl,rfl,bf,hlen,hns,Pe⟩:=hrel;have Vf:=hU bf;have Dh:=hU Pe;have hcl:=(Z0e Elem.cells_length bf.lo).cap;have hcm:left.length≤cL:=(Z0e Elem.cells_length bf.lo).1;clear bf Pe;by_cases he:left.length=0
  · have I5:left = []:=Zty.1 he
    have Rd:=hU (show Z5d l=some (out,ns) by rw [←Dh.o,I5];exact Zdp);clear Dh;go_wp2_with fail;exact bodyPost_ret (v:=.tuple #[.slice AO out.length cO,.pointer (some ⟨nb,0,none⟩),.bool true]) (by simp [results,Tryz.results78,go_sem, *]) rfl (Z7c.yes Rd.o Vf.o)
  · have hl1:(0:Int)<(left.length:Int):=by omega
    have hl2:0<left.length:=Ya;go_upto_region 7 with fail
    go_loopw [8,22] (fun vb vi W=>∃i:Nat,vi = .int .i64 (i:Int)∧i≤left.length∧vb = .int .i64 (Zf6 (Z50 ns left i))∧LS X nb ns left out AL cL AO cO D W) (fun vb vi W=>left.length - (intOf vi).toNat)
    case atStart=>exact ⟨0,rfl,Nat.zero_le _,rfl,Vf.o⟩
    case round=>
     obtain ⟨i,rfl,hi,rfl,bf⟩:=hrel;have HS:=hU bf;clear bf;by_cases sd:i<left.length
     · skip
       obtain ⟨y,hy⟩:∃y,y=left[i]:=⟨_,rfl⟩;have HY:=hU hy;obtain ⟨g,off,Jo,Gb,Gk⟩:=HS.o.at_ sd;rw [←hy] at Gk;subst Jo;have ly:=hU (show wr.rangeAt g (off+i*12) (Q0i y) from Gk);have Nw:=hU (show (wr.alloc (.cells Q2m 50)).there wr.heap.size 0 ((Q0j y):Array Value).size from (Blk.new wr 50 Q2m).there);obtain ⟨W5,wv⟩:∃W5,W5=(wr.alloc (.cells Q2m 50)).setCells wr.heap.size 0 (Q0i y):=⟨_,rfl⟩;have o9:=hU wv;have Ms:=hU (show W5.rangeAt wr.heap.size 0 (Q0i y) from YZ0);have vy:=hU (show Blk W5 wr.heap.size 50 (Q0j y) from Z3m (zs:=Q2x) (vs:=(Q0i y)) rfl wv Ms.o);have Xp:=hU (show Below wr.heap.size wr W5 from Y5);clear wv Gk hy;have Ng:=hU (show left[i]? = some y by rw [HY.o];exact Zt3 sd);have j1:(0:Int)≤(i:Int):=Ya;have j2:(i:Int)<(left.length:Int):=Ya;obtain ⟨bs,Xe⟩:∃bs,bs=Z50 ns left i:=⟨_,rfl⟩;have Uj:=hU Xe.symm;rw [←Xe];clear Xe
       go_upto_region 9 with (first
       | (with_reducible refine wpList_load_mid rfl 50 _ rfl g (off+i*12) rfl (Q0i y) _ ly.o Tryz.underlying50 rfl Yb ?_)
       | ((with_reducible refine wpList_store_mid rfl 50 _ _ rfl wr.heap.size 0 (Q0j y) rfl rfl Nw.o Yb Yb ?_);rw [←o9.o]))
       have K8:=hU (HS.o.new_ Xp.o);have Kj:=hU (show ∀W,Below W5.heap.size W5 W→Calls Tryz.prog 79 #[.pointer (some ⟨nb,0,none⟩),.agg (Q1d y.id)] W fun e w'=>e = .returned (.int .i64 (plV ns y.id:Int))∧Below W.heap.size W w' from fun W hW=>Z4d y.id W (K8.o.nm.new_ hW) Ya);have rq:=hU (show canN ns y=(y.goal || !decide (plV ns y.id=0)) from rfl);have Fn:W5.cell? ⟨wr.heap.size,10,none⟩=some (.bool y.goal):=(vy.o.cell 10).trans rfl;have k0:W5.cell? ⟨wr.heap.size,0,none⟩=some (.int .i64 y.id.kind):=(vy.o.cell 0).trans rfl;have k1:W5.cell? ⟨wr.heap.size,1,none⟩=some (.string y.id.text):=(vy.o.cell 1).trans rfl;have k2:W5.cell? ⟨wr.heap.size,2,none⟩=some (.int .i64 y.id.n):=(vy.o.cell 2).trans rfl;have kz:=vy.o.lt;obtain ⟨p,hp⟩:∃p,p=plV ns y.id:=⟨_,rfl⟩;obtain ⟨gb,Dg⟩:∃gb,gb=y.goal:=⟨_,rfl⟩;rw [←hp] at Kj rq;rw [←Dg] at Fn rq;clear hp Dg;have HSZ:=hU Xp.o.size;cases gb
       · skip
         by_cases hp0:p=0
         · skip
           subst hp0;have T7:=hU (Zia Ng.o (show canN ns y=false by rw [rq.o];rfl));go_wp2_with fail;refine (Kj.o _ (Zst _ _)).mono ?_;rintro e w6 ⟨rfl,un⟩;have T9:=hU (K8.o.new_ un);clear un;go_wp2_with fail;go_roundw
           case rel=>exact ⟨i+1,Yn,Ya,by rw [T7.o,Uj.o],T9.o⟩
           case measure=>simp [intOf]<;>omega
         · skip
           have r1:((p:Int) == 0)=false:=Yk;have r2 :¬(p:Int)=0:=Ya;have r3:decide ((p:Int)=0)=false:=Yk;have yl:=hU (show canN ns y=true by rw [rq.o];simp [hp0]);clear hp0;go_upto_region 10 with fail;refine (Kj.o _ (Zst _ _)).mono ?_;rintro e WK ⟨rfl,un⟩;have Gp:=hU (K8.o.new_ un);have Bc:=hU (vy.o.new_ un);clear un k0 k1 k2 Fn kz;go_upto_region 10 with fail
           cases bs with
           | none=>
             have m9:=hU (Z9o Ng.o yl.o Uj.o);dsimp only [Zf6];go_upto_region 10 with fail;refine Z03 (fun w9=>Below WK.heap.size WK w9) [(0,0),(1,0),(2,0),(3,0),(4,1),(5,0),(6,0),(7,0),(8,1),(9,2),(10,0)] Yb Yb (fun KK hKK=>?_);simp only [Z08,Zt2,Zsv,Zt1,Zt0,Zsz,Zt4];(repeat ((first|(refine Z05 ?_ (Or.inl ⟨Yd,fun w9=>?_⟩) ?_;rotate_left 1;go_simp;with_reducible rfl)|(refine Z04 ?_ (((Zst _ _).drew)) (Or.inl ⟨Yd,fun w9 hw9=>?_⟩) ?_;rotate_left 1;obtain ⟨Do,rr⟩:=Z0i hw9;go_simp;with_reducible rfl)|refine Z05 undef (Or.inr ⟨Yd,rfl⟩) ?_|refine Z04 undef (((Zst _ _).drew)) (Or.inr ⟨Yd,rfl⟩) ?_);go_frame));refine Z1h (fun K9 hK9=>?_);go_simp;refine hK9 _ _ ((Zst _ _).drew) ?_;clear hK9 K9;(repeat ((first|(refine Z05 ?_ (Or.inl ⟨Yd,fun w9=>?_⟩) ?_;rotate_left 1;go_simp;with_reducible rfl)|(refine Z04 ?_ (((Zst _ _).drew)) (Or.inl ⟨Yd,fun w9 hw9=>?_⟩) ?_;rotate_left 1;obtain ⟨Do,rr⟩:=Z0i hw9;go_simp;with_reducible rfl)|refine Z05 undef (Or.inr ⟨Yd,rfl⟩) ?_|refine Z04 undef (((Zst _ _).drew)) (Or.inr ⟨Yd,rfl⟩) ?_);go_frame));refine Z0m ?_;simp only [Z00];refine hKK _ _ ?_;clear hKK KK;have j5:=hU (Gp.o.new_ ((Zst WK.heap.size WK).drew));go_wp2_with fail;go_roundw
             case rel=>exact ⟨i+1,Yn,Ya,by rw [m9.o];rfl,j5.o⟩
             case measure=>simp [intOf]<;>omega
           | some k=>
             have hkl:=Z70 Uj.o;obtain ⟨b,hb⟩:∃b,b=left[k]'hkl.2:=⟨_,rfl⟩;have HBI:=hU (show left[k]? = some b by rw [hb];exact Zt3 hkl.2);obtain ⟨g2,Lw,jw,Bp,lm⟩:=Gp.o.at_ hkl.2;rw [←hb] at lm;injection jw with jw;injection jw with jw hA3;subst jw;subst hA3;have Lo:=hU (show WK.rangeAt g (off+k*12) (Q0i b) from lm);have sj:=hU (show WK.rangeAt wr.heap.size 0 (Q0i y) from (Bc.o.range));obtain ⟨va,fi⟩:∃va,va=Z9m ns y b:=⟨_,rfl⟩;have Fs:=hU (Zaw Ng.o yl.o Uj.o HBI.o va fi.symm);have HAH:=hU (show ∀W,Below WK.heap.size WK W→Calls Tryz.prog 101 #[.pointer (some ⟨nb,0,none⟩),.agg (Q0j y),.agg (Q0j b)] W fun e w'=>e = .returned (.bool va)∧Below W.heap.size W w' from fun W hW=>by rw [fi];exact Zgv y b W (Gp.o.nm.new_ hW) Ya);have zi:(0:Int)≤(k:Int):=Ya;have L5:(k:Int)<(left.length:Int):=Ya;have um :¬(k:Int)<0:=Ya;have Ku:decide ((k:Int)<0)=false:=Ye;have Cv:g<WK.heap.size:=Bp;have Kv:=Bc.o.lt;clear fi hb lm Bp hkl;dsimp only [Zf6];go_upto_region 10 with fail;refine Z03 (fun w9=>Below WK.heap.size WK w9) [(0,0),(1,0),(2,0),(3,0),(4,1),(5,0),(6,0),(7,0),(8,1),(9,2),(10,0)] Yb Yb (fun KK hKK=>?_);simp only [Z08,Zt2,Zsv,Zt1,Zt0,Zsz,Zt4];(repeat ((first|(refine Z04 _ ((Zst _ _).drew) (yieldsIf_load_mid Yd 50 _ rfl wr.heap.size (0) rfl (Q0i y) _ (fun w9 hw9=>Z22 sj.o hw9 Kv) Tryz.underlying50 rfl Yb) ?_)|(refine Z04 _ ((Zst _ _).drew) (yieldsIf_load_mid Yd 50 _ rfl g (off+k*12) rfl (Q0i b) _ (fun w9 hw9=>Z22 Lo.o hw9 Cv) Tryz.underlying50 rfl Yb) ?_)|(refine Z05 ?_ (Or.inl ⟨Yd,fun w9=>?_⟩) ?_;rotate_left 1;go_simp;with_reducible rfl)|(refine Z04 ?_ (((Zst _ _).drew)) (Or.inl ⟨Yd,fun w9 hw9=>?_⟩) ?_;rotate_left 1;obtain ⟨Do,rr⟩:=Z0i hw9;go_simp;with_reducible rfl)|refine Z05 undef (Or.inr ⟨Yd,rfl⟩) ?_|refine Z04 undef (((Zst _ _).drew)) (Or.inr ⟨Yd,rfl⟩) ?_);go_frame));refine Z1m Yb (fun K9 hK9=>?_);go_simp;refine (HAH.o _ ((Zst _ _).drew)).mono ?_;rintro e w9 ⟨rfl,Ct⟩;have yq:=hU (((Zst WK.heap.size WK).drew).trans (Ct.mono Ye));clear Ct;refine hK9 _ _ ?_;clear hK9 K9;(repeat ((first|(refine Z04 _ ((Zst _ _).drew) (yieldsIf_load_mid Yd 50 _ rfl wr.heap.size (0) rfl (Q0i y) _ (fun w9 hw9=>Z22 sj.o hw9 Kv) Tryz.underlying50 rfl Yb) ?_)|(refine Z04 _ ((Zst _ _).drew) (yieldsIf_load_mid Yd 50 _ rfl g (off+k*12) rfl (Q0i b) _ (fun w9 hw9=>Z22 Lo.o hw9 Cv) Tryz.underlying50 rfl Yb) ?_)|(refine Z05 ?_ (Or.inl ⟨Yd,fun w9=>?_⟩) ?_;rotate_left 1;go_simp;with_reducible rfl)|(refine Z04 ?_ (((Zst _ _).drew)) (Or.inl ⟨Yd,fun w9 hw9=>?_⟩) ?_;rotate_left 1;obtain ⟨Do,rr⟩:=Z0i hw9;go_simp;with_reducible rfl)|refine Z05 undef (Or.inr ⟨Yd,rfl⟩) ?_|refine Z04 undef (((Zst _ _).drew)) (Or.inr ⟨Yd,rfl⟩) ?_);go_frame));refine Z0m ?_;simp only [Z00];refine hKK _ _ ?_;clear hKK KK;have j5:=hU (Gp.o.new_ yq.o);cases va
             · go_wp2_with fail
               go_roundw
               case rel=>exact ⟨i+1,Yn,Ya,by rw [Fs.o];rfl,j5.o⟩
               case measure=>simp [intOf]<;>omega
             · go_wp2_with fail
               go_roundw
               case rel=>exact ⟨i+1,Yn,Ya,by rw [Fs.o];rfl,j5.o⟩
               case measure=>simp [intOf]<;>omega
       · skip
         have yl:=hU (show canN ns y=true by rw [rq.o];rfl);go_upto_region 10 with fail;obtain ⟨WK,hWK⟩:∃WK,WK=W5:=⟨_,rfl⟩;rw [←hWK] at K8 vy ⊢;have Gp:=hU K8.o;have Bc:=hU vy.o;clear hWK k0 k1 k2 Fn kz
         cases bs with
         | none=>
           have m9:=hU (Z9o Ng.o yl.o Uj.o);dsimp only [Zf6];go_upto_region 10 with fail;refine Z03 (fun w9=>Below WK.heap.size WK w9) [(0,0),(1,0),(2,0),(3,0),(4,1),(5,0),(6,0),(7,0),(8,1),(9,2),(10,0)] Yb Yb (fun KK hKK=>?_);simp only [Z08,Zt2,Zsv,Zt1,Zt0,Zsz,Zt4];(repeat ((first|(refine Z05 ?_ (Or.inl ⟨Yd,fun w9=>?_⟩) ?_;rotate_left 1;go_simp;with_reducible rfl)|(refine Z04 ?_ (((Zst _ _).drew)) (Or.inl ⟨Yd,fun w9 hw9=>?_⟩) ?_;rotate_left 1;obtain ⟨Do,rr⟩:=Z0i hw9;go_simp;with_reducible rfl)|refine Z05 undef (Or.inr ⟨Yd,rfl⟩) ?_|refine Z04 undef (((Zst _ _).drew)) (Or.inr ⟨Yd,rfl⟩) ?_);go_frame));refine Z1h (fun K9 hK9=>?_);go_simp;refine hK9 _ _ ((Zst _ _).drew) ?_;clear hK9 K9;(repeat ((first|(refine Z05 ?_ (Or.inl ⟨Yd,fun w9=>?_⟩) ?_;rotate_left 1;go_simp;with_reducible rfl)|(refine Z04 ?_ (((Zst _ _).drew)) (Or.inl ⟨Yd,fun w9 hw9=>?_⟩) ?_;rotate_left 1;obtain ⟨Do,rr⟩:=Z0i hw9;go_simp;with_reducible rfl)|refine Z05 undef (Or.inr ⟨Yd,rfl⟩) ?_|refine Z04 undef (((Zst _ _).drew)) (Or.inr ⟨Yd,rfl⟩) ?_);go_frame));refine Z0m ?_;simp only [Z00];refine hKK _ _ ?_;clear hKK KK;have j5:=hU (Gp.o.new_ ((Zst WK.heap.size WK).drew));go_wp2_with fail;go_roundw
           case rel=>exact ⟨i+1,Yn,Ya,by rw [m9.o];rfl,j5.o⟩
           case measure=>simp [intOf]<;>omega
         | some k=>
           have hkl:=Z70 Uj.o;obtain ⟨b,hb⟩:∃b,b=left[k]'hkl.2:=⟨_,rfl⟩;have HBI:=hU (show left[k]? = some b by rw [hb];exact Zt3 hkl.2);obtain ⟨g2,Lw,jw,Bp,lm⟩:=Gp.o.at_ hkl.2;rw [←hb] at lm;injection jw with jw;injection jw with jw hA3;subst jw;subst hA3;have Lo:=hU (show WK.rangeAt g (off+k*12) (Q0i b) from lm);have sj:=hU (show WK.rangeAt wr.heap.size 0 (Q0i y) from (Bc.o.range));obtain ⟨va,fi⟩:∃va,va=Z9m ns y b:=⟨_,rfl⟩;have Fs:=hU (Zaw Ng.o yl.o Uj.o HBI.o va fi.symm);have HAH:=hU (show ∀W,Below WK.heap.size WK W→Calls Tryz.prog 101 #[.pointer (some ⟨nb,0,none⟩),.agg (Q0j y),.agg (Q0j b)] W fun e w'=>e = .returned (.bool va)∧Below W.heap.size W w' from fun W hW=>by rw [fi];exact Zgv y b W (Gp.o.nm.new_ hW) Ya);have zi:(0:Int)≤(k:Int):=Ya;have L5:(k:Int)<(left.length:Int):=Ya;have um :¬(k:Int)<0:=Ya;have Ku:decide ((k:Int)<0)=false:=Ye;have Cv:g<WK.heap.size:=Bp;have Kv:=Bc.o.lt;clear fi hb lm Bp hkl;dsimp only [Zf6];go_upto_region 10 with fail;refine Z03 (fun w9=>Below WK.heap.size WK w9) [(0,0),(1,0),(2,0),(3,0),(4,1),(5,0),(6,0),(7,0),(8,1),(9,2),(10,0)] Yb Yb (fun KK hKK=>?_);simp only [Z08,Zt2,Zsv,Zt1,Zt0,Zsz,Zt4];(repeat ((first|(refine Z04 _ ((Zst _ _).drew) (yieldsIf_load_mid Yd 50 _ rfl wr.heap.size (0) rfl (Q0i y) _ (fun w9 hw9=>Z22 sj.o hw9 Kv) Tryz.underlying50 rfl Yb) ?_)|(refine Z04 _ ((Zst _ _).drew) (yieldsIf_load_mid Yd 50 _ rfl g (off+k*12) rfl (Q0i b) _ (fun w9 hw9=>Z22 Lo.o hw9 Cv) Tryz.underlying50 rfl Yb) ?_)|(refine Z05 ?_ (Or.inl ⟨Yd,fun w9=>?_⟩) ?_;rotate_left 1;go_simp;with_reducible rfl)|(refine Z04 ?_ (((Zst _ _).drew)) (Or.inl ⟨Yd,fun w9 hw9=>?_⟩) ?_;rotate_left 1;obtain ⟨Do,rr⟩:=Z0i hw9;go_simp;with_reducible rfl)|refine Z05 undef (Or.inr ⟨Yd,rfl⟩) ?_|refine Z04 undef (((Zst _ _).drew)) (Or.inr ⟨Yd,rfl⟩) ?_);go_frame));refine Z1m Yb (fun K9 hK9=>?_);go_simp;refine (HAH.o _ ((Zst _ _).drew)).mono ?_;rintro e w9 ⟨rfl,Ct⟩;have yq:=hU (((Zst WK.heap.size WK).drew).trans (Ct.mono Ye));clear Ct;refine hK9 _ _ ?_;clear hK9 K9;(repeat ((first|(refine Z04 _ ((Zst _ _).drew) (yieldsIf_load_mid Yd 50 _ rfl wr.heap.size (0) rfl (Q0i y) _ (fun w9 hw9=>Z22 sj.o hw9 Kv) Tryz.underlying50 rfl Yb) ?_)|(refine Z04 _ ((Zst _ _).drew) (yieldsIf_load_mid Yd 50 _ rfl g (off+k*12) rfl (Q0i b) _ (fun w9 hw9=>Z22 Lo.o hw9 Cv) Tryz.underlying50 rfl Yb) ?_)|(refine Z05 ?_ (Or.inl ⟨Yd,fun w9=>?_⟩) ?_;rotate_left 1;go_simp;with_reducible rfl)|(refine Z04 ?_ (((Zst _ _).drew)) (Or.inl ⟨Yd,fun w9 hw9=>?_⟩) ?_;rotate_left 1;obtain ⟨Do,rr⟩:=Z0i hw9;go_simp;with_reducible rfl)|refine Z05 undef (Or.inr ⟨Yd,rfl⟩) ?_|refine Z04 undef (((Zst _ _).drew)) (Or.inr ⟨Yd,rfl⟩) ?_);go_frame));refine Z0m ?_;simp only [Z00];refine hKK _ _ ?_;clear hKK KK;have j5:=hU (Gp.o.new_ yq.o);cases va
           · go_wp2_with fail
             go_roundw
             case rel=>exact ⟨i+1,Yn,Ya,by rw [Fs.o];rfl,j5.o⟩
             case measure=>simp [intOf]<;>omega
           · go_wp2_with fail
             go_roundw
             case rel=>exact ⟨i+1,Yn,Ya,by rw [Fs.o];rfl,j5.o⟩
             case measure=>simp [intOf]<;>omega
     · skip
       (obtain rfl:i=left.length:=Ya);obtain ⟨bs,Xe⟩:∃bs,bs=Z50 ns left left.length:=⟨_,rfl⟩;have Uj:=hU (show Zib ns left=bs from Xe.symm);rw [←Xe];clear Xe;have jz :¬(left.length:Int)<(left.length:Int):=Ya
       cases bs with
       | none=>
         have Rd:=hU (show Z5d l=none by
          rw [←Dh.o];obtain ⟨q,hq⟩:∃q,left.length=q+1:=⟨left.length - 1,Ya⟩;rw [hq]
          exact Zb7 (by intro e;rw [e] at he;exact he rfl) Uj.o)
         dsimp only [Zf6];go_wp2_with fail;exact bodyPost_ret (v:=.tuple #[.slice none 0 0,.pointer none,.bool false]) (by simp [results,Tryz.results78,go_sem, *]) rfl (Z7c.no Rd.o HS.o.bel)
       | some k=>
         have hkl:=Z70 Uj.o;dsimp only [Zf6];have sd:=hkl.2;obtain ⟨y,hy⟩:∃y,y=left[k]:=⟨_,rfl⟩;have HY:=hU hy;obtain ⟨g,off,Jo,Gb,Gk⟩:=HS.o.at_ sd;rw [←hy] at Gk;subst Jo;have ly:=hU (show wr.rangeAt g (off+k*12) (Q0i y) from Gk);have Nw:=hU (show (wr.alloc (.cells Q2m 50)).there wr.heap.size 0 ((Q0j y):Array Value).size from (Blk.new wr 50 Q2m).there);obtain ⟨W5,wv⟩:∃W5,W5=(wr.alloc (.cells Q2m 50)).setCells wr.heap.size 0 (Q0i y):=⟨_,rfl⟩;have o9:=hU wv;have Ms:=hU (show W5.rangeAt wr.heap.size 0 (Q0i y) from YZ0);have vy:=hU (show Blk W5 wr.heap.size 50 (Q0j y) from Z3m (zs:=Q2x) (vs:=(Q0i y)) rfl wv Ms.o);have Xp:=hU (show Below wr.heap.size wr W5 from Y5);clear wv Gk hy;have Ng:=hU (show left[k]? = some y by rw [HY.o];exact Zt3 sd);have zi:(0:Int)≤(k:Int):=Ya;have L5:(k:Int)<(left.length:Int):=Ya;have um :¬(k:Int)<0:=Ya
         go_upto_region 16 with (first
         | (with_reducible refine wpList_load_mid rfl 50 _ rfl g (off+k*12) rfl (Q0i y) _ ly.o Tryz.underlying50 rfl Yb ?_)
         | ((with_reducible refine wpList_store_mid rfl 50 _ _ rfl wr.heap.size 0 (Q0j y) rfl rfl Nw.o Yb Yb ?_);rw [←o9.o]))
         have HSE:=hU sd;obtain ⟨dk,hdk⟩:∃x,x=left.drop (k+1):=⟨_,rfl⟩;obtain ⟨As,rs⟩:∃As:Option Addr,As=(if cL=k+1 then some ⟨g,off,none⟩ else (some (⟨g,off,none⟩:Addr)).map (·.add ((k+1)*12))):=⟨_,rfl⟩;(have uh:left.length - (k+1)=dk.length:=by rw [hdk,List.length_drop]);have hcl2:k<cL:=Ya;have hsl1 :∀Y,(Instr.slice 74 (.slice (some ⟨g,off,none⟩) left.length cL) none (some (.int .i64 (k:Int))) none).run Tryz.prog Y = .ok (.slice (some ⟨g,off,none⟩) k cL) Y:=fun Y=>Zjp _ Ya Y;(have hsl2 :∀Y,(Instr.slice 74 (.slice (some ⟨g,off,none⟩) left.length cL) (some (.int .i64 ((k:Int)+1))) none none).run Tryz.prog Y = .ok (.slice As dk.length (cL - (k+1))) Y:=fun Y=>by rw [←uh,rs];exact Zem (j:=k+1) _ Ya Y);have v1:IntKind.i64.wrap ((k:Int)+1)=(k:Int)+1:=Zt8 _ Ya;have K8:=hU (HS.o.new_ Xp.o);have HDK:=hU (show Z0y W5 12 Elem.cells As (cL - (k+1)) dk by rw [hdk,rs];exact (Z0e Elem.cells_length K8.o.lo).suffixE (k+1) Ya);have jc:=hU (show W5.ownsRow 0 50 12 (.slice (some ⟨g,off,none⟩) k cL) k ((left.take k).flatMap Elem.cells) from Zme K8.o.lo rfl sd);have cj:=hU hdk;have hdl1:dk.length≤300:=Ya;have hkl1:k≤300:=Ya;clear hdk rs uh hkl;have HS5D:=hU (K8.o.new_ ((Zst W5.heap.size W5).drew));refine Z03 (fun w9=>Below W5.heap.size W5 w9) [(0,0),(1,0),(2,0),(3,0),(4,0),(5,0),(6,0),(7,2),(8,0)] Yb Yb (fun KK hKK=>?_);simp only [Z08,Zt2,Zsv,Zt1,Zt0,Zsz,Zt4];(repeat ((first|(refine Z05 ?_ (Or.inl ⟨Yd,fun w9=>?_⟩) ?_;rotate_left 1;go_simp;with_reducible rfl)|(refine Z04 ?_ (((Zst _ _).drew)) (Or.inl ⟨Yd,fun w9 hw9=>?_⟩) ?_;rotate_left 1;obtain ⟨Do,rr⟩:=Z0i hw9;go_simp;with_reducible rfl)|refine Z05 undef (Or.inr ⟨Yd,rfl⟩) ?_|refine Z04 undef (((Zst _ _).drew)) (Or.inr ⟨Yd,rfl⟩) ?_);go_frame));refine Z1m Yb (fun K9 hK9=>?_);refine Z0l _ Yd _ _ _ Yd 50 i0 _ 12 112 Tryz.underlying74 tm Nc rm Aj rfl Ya (.slice (some ⟨g,off,none⟩) k cL) k ((left.take k).flatMap Elem.cells) Yd (Zmf jc.o) As dk.length (cL - (k+1)) (dk.flatMap Elem.cells) Yd (Z0u Elem.cells_length _) ((HDK.o.drew).news Elem.cells_length Ya) (Z9h _) Yj Ya ?_;intro v2 w7 Od Cf Si Xd;rw [cj.o] at Od;obtain ⟨A7,c7,rfl,M8,ny⟩:=HS5D.o.cut sd Od Cf Xd;obtain ⟨lk,ik⟩:∃lk,lk=left.eraseIdx k:=⟨_,rfl⟩;rw [←ik] at M8 ⊢;have Jr:=hU ik;have Su:=hU M8;have mc:=hU ny;clear Od Cf Si Xd M8 ny ik;refine hK9 _ _ ?_;clear hK9 K9;(repeat ((first|(refine Z05 ?_ (Or.inl ⟨Yd,fun w9=>?_⟩) ?_;rotate_left 1;go_simp;with_reducible rfl)|(refine Z04 ?_ (((Zst _ _).drew)) (Or.inl ⟨Yd,fun w9 hw9=>?_⟩) ?_;rotate_left 1;obtain ⟨Do,rr⟩:=Z0i hw9;go_simp;with_reducible rfl)|refine Z05 undef (Or.inr ⟨Yd,rfl⟩) ?_|refine Z04 undef (((Zst _ _).drew)) (Or.inr ⟨Yd,rfl⟩) ?_);go_frame));refine Z0m ?_;simp only [Z00];refine hKK _ _ ?_;clear hKK KK;have gq:=hU (show w7.heap.size≥W5.heap.size∧Blk w7 wr.heap.size 50 (Q0j y) from ⟨mc.o.size,(vy.o.drew).fr mc.o (fun ⟨a,ha,e⟩=>by cases ha;dsimp only at e;omega)⟩);have F0:=hU (show ¬D wr.heap.size from fun hd=>by have:=HS.o.nm.lt _ hd;omega);have fd:=hU (show w7.rangeAt wr.heap.size 0 (Q0i y) from gq.o.2.range);obtain ⟨W8,wl⟩:∃W8,W8=w7.alloc (.cells (Q0j y) 50):=⟨_,rfl⟩
         have Mw:=hU wl;have gl:Below w7.heap.size w7 W8:=YVx;have Fb:=hU (Su.o.new_ gl);have HK8:=hU (gq.o.2.new_ gl);have HN8:=hU (show 0<1→∃ad,(some (⟨w7.heap.size,0,none⟩:Addr))=some ad∧∀j u,([y].flatMap Elem.cells)[j]? = some u→W8.cell? (ad.add j)=some u from fun _=>⟨_,rfl,by rw [wl];exact Zte (heap_alloc_new _ _)⟩);have ho8:out.length≤300:=Ya;clear wl gl v1 hsl1 hsl2
         go_upto_region 18 with (first
         | (with_reducible refine wpList_load_mid rfl 50 _ rfl wr.heap.size 0 rfl (Q0i y) _ fd.o Tryz.underlying50 rfl Yb ?_)
         | (at_builtin;rw [←Mw.o];refine Z0g W8 rfl (.tmp 64) (.tmp 66) 74 rfl 50 i0 _ 12 112 Tryz.underlying74 tm Nc rm Aj rfl Ya (.slice AO out.length cO) out.length (out.flatMap Elem.cells) rfl Fb.o.oo (some ⟨w7.heap.size,0,none⟩) 1 1 ([y].flatMap Elem.cells) rfl rfl HN8.o (Z9h _) Yj Ya ?_;intro v1 w9 rn Kg E5 Tt;obtain ⟨A9,c9,rfl,Kt,rr⟩:=Fb.o.more rn Kg Tt;obtain ⟨ol,I9⟩:∃ol,ol=out ++ [y]:=⟨_,rfl⟩;rw [←I9] at Kt ⊢;have ji:=hU I9;have Gg:=hU Kt;have xx:=hU rr;clear rn Kg E5 Tt Kt rr I9))
         have lq:=hU (show Blk w9 wr.heap.size 50 (Q0j y) from HK8.o.fr xx.o (fun ⟨a,ha,e⟩=>by have h1:=Z8z HS.o.oo a ha;omega));have Db:=hU (Zfv y.id w9 Gg.o.nm Ya);have k0:w9.cell? ⟨wr.heap.size,0,none⟩=some (.int .i64 y.id.kind):=(lq.o.cell 0).trans rfl;have k1:w9.cell? ⟨wr.heap.size,1,none⟩=some (.string y.id.text):=(lq.o.cell 1).trans rfl;have k2:w9.cell? ⟨wr.heap.size,2,none⟩=some (.int .i64 y.id.n):=(lq.o.cell 2).trans rfl;have kz:=lq.o.lt;go_wp2_with fail;refine Db.o.mono ?_;rintro e fo ⟨rfl,yx⟩
         have Lk:=hU (show Blk fo wr.heap.size 50 (Q0j y) by
          obtain ⟨_,_,_,_,hf⟩:=yx
          exact lq.o.fr hf F0.o)
         obtain ⟨D2,J4⟩:=Gg.o.put yx;have Mz:=hU J4;clear yx J4 k0 k1 k2 kz;have k6:fo.cell? ⟨wr.heap.size,6,none⟩=some (.int .i64 y.value.kind):=(Lk.o.cell 6).trans rfl;have k7:fo.cell? ⟨wr.heap.size,7,none⟩=some (.string y.value.text):=(Lk.o.cell 7).trans rfl;have k8:fo.cell? ⟨wr.heap.size,8,none⟩=some (.int .i64 y.value.n):=(Lk.o.cell 8).trans rfl;have kz:=Lk.o.lt;have Py:=hU (show lk.length+1=left.length by rw [Jr.o];exact Zdd Ng.o);have f5:=hU (show ol.length=out.length+1 by rw [ji.o];simp)
         have ir:=hU (show ∀nn,nn=Z6s ns y→lk.length+ol.length≤300∧nn.length≤2*ol.length∧Z99 lk.length nn lk ol=Z5d l from fun nn hnn=>by
          have h1:=Py.o;have h2:=f5.o;have h3:=Zbc ns y;refine ⟨Ya,by rw [hnn];omega,?_⟩
          rw [←Dh.o,show left.length=lk.length+1 from h1.symm,Zb8 Uj.o Ng.o,hnn,Jr.o,ji.o])
         have hpl:=Z85 ns y.id;by_cases hv1:y.value.kind=1
         · have Oc:=hU (Zfv y.value fo Mz.o.nm Ya)
           have Ux:=hU (ir.o (putN (putN ns y.id) y.value) (by rw [Z6s,if_pos hv1]));(have e1:(y.value.kind == 1)=true:=by simp [hv1]);(have e2:decide (y.value.kind=1)=true:=by simp [hv1]);clear hv1;go_wp2_with fail;refine Oc.o.mono ?_;rintro e w11 ⟨rfl,Cg⟩;obtain ⟨D3,Uc⟩:=Mz.o.put Cg;have Om:=hU Uc;clear Cg Uc k6 k7 k8 kz;go_wp2_with fail;go_roundw
           case rel=>exact ⟨lk,ol,_,A7,c7,A9,c9,D3,rfl,rfl,Om.o,Ux.o⟩
           case measure=>have:=Py.o;show lk.length<left.length;omega
         · have Ux:=hU (ir.o (putN ns y.id) (by rw [Z6s,if_neg hv1]))
           (have e1:(y.value.kind == 1)=false:=by simp [hv1]);(have e2:decide (y.value.kind=1)=false:=by simp [hv1]);go_wp2_with fail;go_roundw
           case rel=>exact ⟨lk,ol,_,A7,c7,A9,c9,D2,rfl,rfl,Mz.o,Ux.o⟩
           case measure=>have:=Py.o;show lk.length<left.length;omega
end
end Go.Proofs.YtcnnofgaifcgaaaGreat
