/-
  Texts put together: Seq, LrnOf, SymWord, SymDigits, LearnP, VaryP, VaryP2, SymValid, Scal, LeafName, ShapePlain, VaryP3, LeafLword, FindLword, OpsLword.
-/
import Derived.Test.YtldndkngpdfpfaaGreatPFc
namespace Go.Proofs.YtldndkngpdfpfaaGreat
open Lib (hid)
set_option maxRecDepth 100000
set_option maxHeartbeats 32000000
section
open Go.RowKit Go.Shelf
attribute [local go_sem] Oper.semAt_some
structure Seq {α:Type} (gf:Nat) (lb:Array Value) (encs:α→Array Value) (xs:List α) (w:World) (start Kp:World→World→Prop):Prop where
 enter : ∀args w,(callFunc gf args).run Tryz.prog w = .ok (.enter gf args) w
 iter : ∀W,Below w.heap.size w W→Iter Tryz.prog gf lb encs xs W start (fun X Y=>Kp X Y∧KeepsFrom W.heap.size X Y)
 trans : ∀A B C,Kp A B→Kp B C→Kp A C
 keep : ∀A B,Priv w.heap.size A B→Kp A B
 below : ∀A B,Below w.heap.size A B→Kp A B
 mods : ∀W W1,start W W1→Fr (· < w.heap.size) W W1
theorem Z22 {B:Nat} {X Y:World} (h:Fr (· < B) X Y):KeepsFrom B X Y:=⟨h.size,fun k _ hB hk _=>(h.block k (Zob.1 hk).1 (by omega)).trans hk⟩
theorem Z9l {W:World} {base:Nat} {e:TypeId} {size:Nat} {v:Value} {n:Nat} {xs:List Value} (h:W.ownsRow base e size v n xs) : ∀k,v.ownBlock=some k→Z1h W k:=by
 rcases h.2 with ⟨rfl,rfl⟩ | ⟨g,cap,cur,rfl,h0,hg,_⟩
 · intro k hk;cases hk
 · intro k hk;cases hk;exact ⟨_,_,_,hg⟩
theorem Zae (W:World) (base:Nat) (e:TypeId) (size:Nat):W.ownsRow base e size (.slice none 0 0) 0 []:=⟨by simp,.inl ⟨rfl,rfl⟩⟩
theorem Seq.new_ {α:Type} {gf:Nat} {lb:Array Value} {encs:α→Array Value} {xs:List α} {w w':World} {start Kp:World→World→Prop} (h:Seq gf lb encs xs w start Kp) (hb:Below w.heap.size w w'):Seq gf lb encs xs w' start Kp:=
 ⟨h.enter,fun W hW=>h.iter W (hb.trans (hW.mono hb.size)),h.trans,fun A B hp=>h.keep A B (hp.mono hb.size),fun A B hp=>h.below A B (hp.mono hb.size),fun W W1 hs=>(h.mods W W1 hs).mono (fun _ _ hk=>Zo3 hk hb.size)⟩
structure SlV where
 A:Option Addr
 n:Nat
 c:Nat
structure PV where
 name:ByteArray
 cs:SlV
 acts:SlV
def PV.cells (x:PV):List Value:=[.string x.name,.slice x.cs.A x.cs.n x.cs.c,.slice x.acts.A x.acts.n x.acts.c]
def Zav (kb:Nat) (A:Option Addr) (X Y:World):Prop:=Z0h A X Y∧Z0h (some ⟨kb,0,none⟩) X Y
theorem Zav.blk {kb:Nat} {A:Option Addr} {X Y:World} {t:TypeId} {cs:Array Value} (h:Zav kb A X Y) (hb:Blk X kb t cs):Blk Y kb t cs:=(h.2.2 _ rfl hb.lt).trans hb
theorem AIn.one {P:Nat→Prop} {k:Nat} (h:P k):AIn (some ⟨k,0,none⟩) P:=fun a e=>by cases e;exact h
def Zb7 (x:PV):Array Value:=#[.agg #[.string x.name,.slice x.cs.A x.cs.n x.cs.c,.slice x.acts.A x.acts.n x.acts.c]]
theorem Znv (kb:Nat) (A:Option Addr) (c:Nat) (l:List PV) (W:World) (hb:Blk W kb 95 #[.slice A l.length c]) (hrd:Z0p W 3 PV.cells A c l) :
 Iter Tryz.prog 83 #[.pointer (some ⟨kb,0,none⟩)] Zb7 l W (fun X Y=>Y=X) (Zav kb A):=by
 intro lo J Jx _ _ h0 hY;have H0:=hid (h0 W rfl);have HY:=hid hY;have HB:=hid hb;have HR:=hid hrd;have hlm:=hrd.cap;clear h0 hY hb hrd;refine callsIn_of_wp Tryz.func83 rfl trivial ?_;simp only [Tryz.ntmps83,Zp6,Zol,Zp3,Nat.reduceAdd,Nat.reduceSub,Zow,Zox,Zp5,Zp0,Zom,Zp1];gi_wp2
 gi_loopw [3] (fun s wr=>∃pre post,s = .int .i64 (pre.length:Int)∧l=pre++post∧J pre wr∧Blk wr kb 95 #[.slice A l.length c]∧Z0p wr 3 PV.cells A c l) (fun s wr=>l.length - (intOf s).toNat)
 case atStart=>exact ⟨[],l,rfl,rfl,H0.out,HB.out,HR.out⟩
 case round=>
  obtain ⟨pre,post,rfl,hx,hJ,hbk,hrd⟩:=hrel;(have hlen:pre.length+post.length=l.length:=by have:=congrArg List.length hx;simp at this;omega);have HX:=hid hx;have HJ:=hid hJ;have HB1:=hid hbk;have HR1:=hid hrd;have k0:=hbk.c1;have kz:=hbk.lt;clear hx hJ hrd hbk
  cases post with
  | nil=>
    (have e1:(pre.length:Int)=(l.length:Int):=by simp at hlen;omega);rw [e1];clear hlen e1;gi_wp2;go_end0;exact ⟨⟨_,rfl⟩,.inl (by have:=HX.out;rw [Zpa] at this;rw [this];exact HJ.out)⟩
  | cons x post=>
    obtain ⟨m,hm⟩ : ∃m,m=pre.length:=⟨_,rfl⟩;have hml:m<l.length:=by simp at hlen;omega
    have hget:l[m]=x:=by
     apply Zpd;rw [← Zo8 hml,HX.out,hm,Zp8 (Zo0 _),Nat.sub_self];rfl
    obtain ⟨g,off,hAA,hgs,hcell⟩:=HR1.out.at_ hml;rw [hget] at hcell;rw [hAA] at k0;(have q0:wr.cell? ⟨g,off+m*3,none⟩=some (.string x.name):=by simpa using hcell 0 _ rfl);(have q1:wr.cell? ⟨g,off+m*3+1,none⟩=some (.slice x.cs.A x.cs.n x.cs.c):=by simpa using hcell 1 _ rfl);(have q2:wr.cell? ⟨g,off+m*3+2,none⟩=some (.slice x.acts.A x.acts.n x.acts.c):=by simpa using hcell 2 _ rfl);(have b1:(0:Int)≤(m:Int):=by omega);(have b2:(m:Int)<(l.length:Int):=by omega);rw [← hm];have HM:=hid hm;clear hcell hget hlen hm;obtain ⟨fn,tmps,assign,body,hy,hR⟩:=HY.out pre x post wr HX.out HJ.out;dsimp only [Zb7] at hy;have HRR:=hid hR;clear hR;(gi_wp2_with fail);refine ⟨rfl,HRR.out.mono ?_⟩;rintro e W3 (⟨rfl,hJ3,hk3⟩ | ⟨rfl,hJx3⟩)
    · have HJ3:=hid hJ3
      have HK3:=hid hk3;clear hJ3 hk3 hy q0 q1 q2;gi_wp2;go_roundw
      case rel=>exact ⟨pre ++ [x],post,by rw [HM.out,Zoi,List.length_singleton];go_num,by rw [HX.out];simp,HJ3.out,HK3.out.blk HB1.out,HK3.out.1.rd HR1.out⟩
      case measure=>simp [intOf]<;>omega
    · have HJ3:=hid hJx3
      clear hJx3 hy q0 q1 q2;gi_wp2;refine bodyPost_ret (results_none rfl _ _ _) rfl ?_;exact ⟨⟨_,rfl⟩,.inr ⟨pre ++ [x],post,by rw [HX.out];simp,HJ3.out⟩⟩
theorem Zl9 (kb:Nat) (A:Option Addr) (c:Nat) (l:List PV) (w:World) (hb:Blk w kb 95 #[.slice A l.length c]) (hrd:Z0p w 3 PV.cells A c l) (hA:AIn A (· < w.heap.size)) :
 Seq 83 #[.pointer (some ⟨kb,0,none⟩)] Zb7 l w (fun X Y=>Y=X) (Zav kb A):=
 ⟨by intro args w;kernel_rfl,fun W hW=>(Znv kb A c l W (hb.new_ hW) (hrd.new_ hW)).weak (fun _ _ h=>h.1),fun _ _ _ h k=>⟨h.1.trans k.1,h.2.trans k.2⟩,
  fun _ _ h=>⟨Z0h.of_priv hA h,Z0h.of_priv (AIn.one hb.lt) h⟩,fun _ _ h=>⟨Z0h.of_below hA h,Z0h.of_below (AIn.one hb.lt) h⟩,fun _ _ h=>h ▸ Fr.refl _ _⟩
theorem Zmi (A:Option Addr) (c n:Nat) (w:World) :
 Calls Tryz.prog 47 #[.slice A n c] w fun e w'=>e = .returned (.func (.func 83) #[] #[.pointer (some ⟨w.heap.size,0,none⟩)])∧Below w.heap.size w w'∧Blk w' w.heap.size 95 #[.slice A n c]:=by
 go_enter Tryz.func47,Tryz.ntmps47;go_wp2;go_ret;exact ⟨rfl,(Znz _ _).alloc (Zo0 _) _,Blk.new _ _ _⟩
def Z3y (x:Z04):Array Value:=#[.agg #[.int .i64 x.id.kind,.string x.id.text,.int .i64 x.id.n,.int .i64 x.attr.kind,.string x.attr.text,.int .i64 x.attr.n,.int .i64 x.value.kind,.string x.value.text,.int .i64 x.value.n,.int .i64 x.other.kind,.string x.other.text,.int .i64 x.other.n,.int .i64 x.kind,.bool x.o,.int .i64 x.level,.int .i64 x.by_]]
theorem Zkt (kb:Nat) (A:Option Addr) (c:Nat) (l:List Z04) (W:World) (hb:Blk W kb 29 #[.slice A l.length c]) (hrd:Z0p W 16 Z04.cells A c l) :
 Iter Tryz.prog 88 #[.pointer (some ⟨kb,0,none⟩)] Z3y l W (fun X Y=>Y=X) (Zav kb A):=by
 intro lo J Jx _ _ h0 hY;have H0:=hid (h0 W rfl);have HY:=hid hY;have HB:=hid hb;have HR:=hid hrd;have hlm:=hrd.cap;clear h0 hY hb hrd;refine callsIn_of_wp Tryz.func88 rfl trivial ?_;simp only [Tryz.ntmps88,Zp6,Zol,Zp3,Nat.reduceAdd,Nat.reduceSub,Zow,Zox,Zp5,Zp0,Zom,Zp1];gi_wp2
 gi_loopw [3] (fun s wr=>∃pre post,s = .int .i64 (pre.length:Int)∧l=pre++post∧J pre wr∧Blk wr kb 29 #[.slice A l.length c]∧Z0p wr 16 Z04.cells A c l) (fun s wr=>l.length - (intOf s).toNat)
 case atStart=>exact ⟨[],l,rfl,rfl,H0.out,HB.out,HR.out⟩
 case round=>
  obtain ⟨pre,post,rfl,hx,hJ,hbk,hrd⟩:=hrel;(have hlen:pre.length+post.length=l.length:=by have:=congrArg List.length hx;simp at this;omega);have HX:=hid hx;have HJ:=hid hJ;have HB1:=hid hbk;have HR1:=hid hrd;have k0:=hbk.c1;have kz:=hbk.lt;clear hx hJ hrd hbk
  cases post with
  | nil=>
    (have e1:(pre.length:Int)=(l.length:Int):=by simp at hlen;omega);rw [e1];clear hlen e1;gi_wp2;go_end0;exact ⟨⟨_,rfl⟩,.inl (by have:=HX.out;rw [Zpa] at this;rw [this];exact HJ.out)⟩
  | cons x post=>
    obtain ⟨m,hm⟩ : ∃m,m=pre.length:=⟨_,rfl⟩;have hml:m<l.length:=by simp at hlen;omega
    have hget:l[m]=x:=by
     apply Zpd;rw [← Zo8 hml,HX.out,hm,Zp8 (Zo0 _),Nat.sub_self];rfl
    obtain ⟨g,off,hAA,hgs,hcell⟩:=HR1.out.at_ hml;rw [hget] at hcell;rw [hAA] at k0;(have q0:wr.cell? ⟨g,off+m*16,none⟩=some (.int .i64 x.id.kind):=by simpa using hcell 0 _ rfl);(have q1:wr.cell? ⟨g,off+m*16+1,none⟩=some (.string x.id.text):=by simpa using hcell 1 _ rfl);(have q2:wr.cell? ⟨g,off+m*16+2,none⟩=some (.int .i64 x.id.n):=by simpa using hcell 2 _ rfl);(have q3:wr.cell? ⟨g,off+m*16+3,none⟩=some (.int .i64 x.attr.kind):=by simpa using hcell 3 _ rfl);(have q4:wr.cell? ⟨g,off+m*16+4,none⟩=some (.string x.attr.text):=by simpa using hcell 4 _ rfl);(have q5:wr.cell? ⟨g,off+m*16+5,none⟩=some (.int .i64 x.attr.n):=by simpa using hcell 5 _ rfl);(have q6:wr.cell? ⟨g,off+m*16+6,none⟩=some (.int .i64 x.value.kind):=by simpa using hcell 6 _ rfl);(have q7:wr.cell? ⟨g,off+m*16+7,none⟩=some (.string x.value.text):=by simpa using hcell 7 _ rfl);(have q8:wr.cell? ⟨g,off+m*16+8,none⟩=some (.int .i64 x.value.n):=by simpa using hcell 8 _ rfl);(have q9:wr.cell? ⟨g,off+m*16+9,none⟩=some (.int .i64 x.other.kind):=by simpa using hcell 9 _ rfl);(have q10:wr.cell? ⟨g,off+m*16+10,none⟩=some (.string x.other.text):=by simpa using hcell 10 _ rfl);(have q11:wr.cell? ⟨g,off+m*16+11,none⟩=some (.int .i64 x.other.n):=by simpa using hcell 11 _ rfl);(have q12:wr.cell? ⟨g,off+m*16+12,none⟩=some (.int .i64 x.kind):=by simpa using hcell 12 _ rfl);(have q13:wr.cell? ⟨g,off+m*16+13,none⟩=some (.bool x.o):=by simpa using hcell 13 _ rfl);(have q14:wr.cell? ⟨g,off+m*16+14,none⟩=some (.int .i64 x.level):=by simpa using hcell 14 _ rfl);(have q15:wr.cell? ⟨g,off+m*16+15,none⟩=some (.int .i64 x.by_):=by simpa using hcell 15 _ rfl);(have b1:(0:Int)≤(m:Int):=by omega);(have b2:(m:Int)<(l.length:Int):=by omega);rw [← hm];have HM:=hid hm;clear hcell hget hlen hm;obtain ⟨fn,tmps,assign,body,hy,hR⟩:=HY.out pre x post wr HX.out HJ.out;dsimp only [Z3y] at hy;have HRR:=hid hR;clear hR;(gi_wp2_with fail);refine ⟨rfl,HRR.out.mono ?_⟩;rintro e W3 (⟨rfl,hJ3,hk3⟩ | ⟨rfl,hJx3⟩)
    · have HJ3:=hid hJ3
      have HK3:=hid hk3;clear hJ3 hk3 hy q0 q1 q2 q3 q4 q5 q6 q7 q8 q9 q10 q11 q12 q13 q14 q15;gi_wp2;go_roundw
      case rel=>exact ⟨pre ++ [x],post,by rw [HM.out,Zoi,List.length_singleton];go_num,by rw [HX.out];simp,HJ3.out,HK3.out.blk HB1.out,HK3.out.1.rd HR1.out⟩
      case measure=>simp [intOf]<;>omega
    · have HJ3:=hid hJx3
      clear hJx3 hy q0 q1 q2 q3 q4 q5 q6 q7 q8 q9 q10 q11 q12 q13 q14 q15;gi_wp2;refine bodyPost_ret (results_none rfl _ _ _) rfl ?_;exact ⟨⟨_,rfl⟩,.inr ⟨pre ++ [x],post,by rw [HX.out];simp,HJ3.out⟩⟩
theorem Zdu (kb:Nat) (A:Option Addr) (c:Nat) (l:List Z04) (w:World) (hb:Blk w kb 29 #[.slice A l.length c]) (hrd:Z0p w 16 Z04.cells A c l) (hA:AIn A (· < w.heap.size)) :
 Seq 88 #[.pointer (some ⟨kb,0,none⟩)] Z3y l w (fun X Y=>Y=X) (Zav kb A):=
 ⟨by intro args w;kernel_rfl,fun W hW=>(Zkt kb A c l W (hb.new_ hW) (hrd.new_ hW)).weak (fun _ _ h=>h.1),fun _ _ _ h k=>⟨h.1.trans k.1,h.2.trans k.2⟩,
  fun _ _ h=>⟨Z0h.of_priv hA h,Z0h.of_priv (AIn.one hb.lt) h⟩,fun _ _ h=>⟨Z0h.of_below hA h,Z0h.of_below (AIn.one hb.lt) h⟩,fun _ _ h=>h ▸ Fr.refl _ _⟩
theorem Zfq (A:Option Addr) (c n:Nat) (w:World) :
 Calls Tryz.prog 53 #[.slice A n c] w fun e w'=>e = .returned (.func (.func 88) #[] #[.pointer (some ⟨w.heap.size,0,none⟩)])∧Below w.heap.size w w'∧Blk w' w.heap.size 29 #[.slice A n c]:=by
 go_enter Tryz.func53,Tryz.ntmps53;go_wp2;go_ret;exact ⟨rfl,(Znz _ _).alloc (Zo0 _) _,Blk.new _ _ _⟩
end
section
open Go.RowKit
def Z43 (c:UInt8):Bool:=decide (97≤c.toNat) && decide (c.toNat≤122)
def Z40 (c:UInt8):Bool:=decide (65≤c.toNat) && decide (c.toNat≤90)
def Z65 (c:UInt8):Bool:=decide (48≤c.toNat) && decide (c.toNat≤57)
def Zg0 (c:UInt8):Bool:=Z43 c || Z65 c || c.toNat == 45 || c.toNat == 95
def Z1f (t:ByteArray):Bool:=decide (1≤t.size) && decide (t.size≤32) && t.data.toList.head?.any Z43 && t.data.toList.all Zg0
theorem Z9f {t:ByteArray}:Z1f t=true↔∃h:0<t.size,t.size≤32∧Z43 t[0]=true∧∀k,(h:k<t.size)→Zg0 t[k]=true:=by
 unfold Z1f;rw [Zoo,Zoo,Zoo,decide_eq_true_iff,decide_eq_true_iff,Zp4];have hs:t.data.toList.length=t.size:=Array.length_toList;constructor
 · rintro ⟨⟨⟨h1,h2⟩,h3⟩,h4⟩
   refine ⟨h1,h2,?_,fun k h=>h4 _ ?_⟩
   · rw [List.head?_eq_getElem?,Zo8 (by omega)] at h3
     exact (by simpa only [Option.any_some,Array.getElem_toList] using h3:Z43 t.data[0]=true)
   · have:t[k]=t.data.toList[k]'(by omega):=by rw [Array.getElem_toList];rfl
     rw [this];exact Zoy _
 · rintro ⟨h1,h2,h3,h4⟩
   refine ⟨⟨⟨h1,h2⟩,?_⟩,fun x hx=>?_⟩
   · rw [List.head?_eq_getElem?,Zo8 (by omega)]
     rw [Option.any_some,Array.getElem_toList];exact h3
   · obtain ⟨k,hk,rfl⟩:=List.getElem_of_mem hx
     have:=h4 k (by omega);rw [Array.getElem_toList];exact this
theorem Z6o {t:ByteArray} (h : ¬∃h:0<t.size,t.size≤32∧Z43 t[0]=true∧∀k,(h:k<t.size)→Zg0 t[k]=true):Z1f t=false:=by
 cases e:Z1f t
 · rfl
 · exact absurd (Z9f.1 e) h
theorem Zap (c:UInt8) (w:World):Calls Tryz.prog 191 #[.int .u8 (c.toNat:Int)] w fun e w'=>e = .returned (.bool (Z43 c))∧w=w':=by
 by_cases h1:97≤c.toNat
 · have t1:decide ((97:Int)≤(c.toNat:Int))=true:=by simp;omega
   by_cases h2:c.toNat≤122
   · have t2:decide ((c.toNat:Int)≤122)=true:=by simp;omega
     (have HF:Hid (Z43 c=true):=by simp [Hid,Z43,h1,h2]);clear h1 h2;go_enter Tryz.func191,Tryz.ntmps191;go_wp2;go_ret;exact ⟨by rw [HF.out];rfl,rfl⟩
   · have t2:decide ((c.toNat:Int)≤122)=false:=by simp;omega
     (have HF:Hid (Z43 c=false):=by simp [Hid,Z43,h2]);clear h1 h2;go_enter Tryz.func191,Tryz.ntmps191;go_wp2;go_ret;exact ⟨by rw [HF.out];rfl,rfl⟩
 · have t1:decide ((97:Int)≤(c.toNat:Int))=false:=by simp;omega
   (have HF:Hid (Z43 c=false):=by simp [Hid,Z43,h1]);clear h1;go_enter Tryz.func191,Tryz.ntmps191;go_wp2;go_ret;exact ⟨by rw [HF.out];rfl,rfl⟩
theorem Zk5 (c:UInt8) (w:World):Calls Tryz.prog 253 #[.int .u8 (c.toNat:Int)] w fun e w'=>e = .returned (.bool (Z40 c))∧w=w':=by
 by_cases h1:65≤c.toNat
 · have t1:decide ((65:Int)≤(c.toNat:Int))=true:=by simp;omega
   by_cases h2:c.toNat≤90
   · have t2:decide ((c.toNat:Int)≤90)=true:=by simp;omega
     (have HF:Hid (Z40 c=true):=by simp [Hid,Z40,h1,h2]);clear h1 h2;go_enter Tryz.func253,Tryz.ntmps253;go_wp2;go_ret;exact ⟨by rw [HF.out];rfl,rfl⟩
   · have t2:decide ((c.toNat:Int)≤90)=false:=by simp;omega
     (have HF:Hid (Z40 c=false):=by simp [Hid,Z40,h2]);clear h1 h2;go_enter Tryz.func253,Tryz.ntmps253;go_wp2;go_ret;exact ⟨by rw [HF.out];rfl,rfl⟩
 · have t1:decide ((65:Int)≤(c.toNat:Int))=false:=by simp;omega
   (have HF:Hid (Z40 c=false):=by simp [Hid,Z40,h1]);clear h1;go_enter Tryz.func253,Tryz.ntmps253;go_wp2;go_ret;exact ⟨by rw [HF.out];rfl,rfl⟩
theorem Zjx (c:UInt8) (w:World):Calls Tryz.prog 192 #[.int .u8 (c.toNat:Int)] w fun e w'=>e = .returned (.bool (Z65 c))∧w=w':=by
 by_cases h1:48≤c.toNat
 · have t1:decide ((48:Int)≤(c.toNat:Int))=true:=by simp;omega
   by_cases h2:c.toNat≤57
   · have t2:decide ((c.toNat:Int)≤57)=true:=by simp;omega
     (have HF:Hid (Z65 c=true):=by simp [Hid,Z65,h1,h2]);clear h1 h2;go_enter Tryz.func192,Tryz.ntmps192;go_wp2;go_ret;exact ⟨by rw [HF.out];rfl,rfl⟩
   · have t2:decide ((c.toNat:Int)≤57)=false:=by simp;omega
     (have HF:Hid (Z65 c=false):=by simp [Hid,Z65,h2]);clear h1 h2;go_enter Tryz.func192,Tryz.ntmps192;go_wp2;go_ret;exact ⟨by rw [HF.out];rfl,rfl⟩
 · have t1:decide ((48:Int)≤(c.toNat:Int))=false:=by simp;omega
   (have HF:Hid (Z65 c=false):=by simp [Hid,Z65,h1]);clear h1;go_enter Tryz.func192,Tryz.ntmps192;go_wp2;go_ret;exact ⟨by rw [HF.out];rfl,rfl⟩
theorem Z3d (t:ByteArray) (w:World):Calls Tryz.prog 154 #[.string t] w fun e w'=>e = .returned (.bool (Z1f t))∧w=w':=by
 by_cases h1:t.size<1
 · have t1:decide ((t.size:Int)<1)=true:=by simp;omega
   have HF:=hid (Z6o (t:=t) (fun ⟨h,_⟩=>by omega));clear h1;go_enter Tryz.func154,Tryz.ntmps154;go_wp2;go_ret;exact ⟨by rw [HF.out];rfl,rfl⟩
 (have t1:decide ((t.size:Int)<1)=false:=by simp;omega);by_cases h2:32<t.size
 · have t2:decide ((32:Int)<(t.size:Int))=true:=by simp;omega
   have HF:=hid (Z6o (t:=t) (fun ⟨h,h3,_⟩=>by omega));clear h1 h2;go_enter Tryz.func154,Tryz.ntmps154;go_wp2;go_ret;exact ⟨by rw [HF.out];rfl,rfl⟩
 (have t2:decide ((32:Int)<(t.size:Int))=false:=by simp;omega);(have h0:0<t.size:=by omega);(have h32:t.size≤32:=by omega);clear h1 h2;cases h3:Z43 t[0]
 · have HF:=hid (Z6o (t:=t) (fun ⟨h,_,h4,_⟩=>by rw [h3] at h4;cases h4))
   go_enter Tryz.func154,Tryz.ntmps154;(go_wp2_with (go_at_call 191;refine (Zap _ _).mono ?_;rintro e w' ⟨rfl,rfl⟩));go_ret;exact ⟨by rw [HF.out];rfl,rfl⟩
 go_enter Tryz.func154,Tryz.ntmps154;(go_wp2_with (go_at_call 191;refine (Zap _ _).mono ?_;rintro e w' ⟨rfl,rfl⟩));have H3:=hid h3;clear h3 t1 t2
 go_loop [3] (fun s=>∃i:Nat,s = .int .i64 i∧1≤i∧i≤t.size∧∀k,(h:k<t.size)→k<i→Zg0 t[k]=true) (fun s=>t.size - (intOf s).toNat)
 case atStart=>exact ⟨1,rfl,Zo0 _,h0,fun k h hk=>by obtain rfl:k=0:=by omega
                                                    simp [Zg0,H3.out]⟩
 case round=>
  obtain ⟨i,rfl,hi1,hi,hall⟩:=hrel;have HALL:=hid hall;clear hall;by_cases hlt:i<t.size
  · have HP:Hid (Zg0 t[i]=(Z43 t[i] || Z65 t[i] || decide (t[i].toNat=45) || decide (t[i].toNat=95))):=rfl
    (have t5:((t[i].toNat:Int) != 45) = !decide (t[i].toNat=45):=by rw [Bool.eq_iff_iff];simp;omega);(have t6:((t[i].toNat:Int) != 95) = !decide (t[i].toNat=95):=by rw [Bool.eq_iff_iff];simp;omega);cases hs:Z43 t[i]<;>cases hd:Z65 t[i]<;>cases h5:decide (t[i].toNat=45)<;>cases h6:decide (t[i].toNat=95)
    all_goals
     rw [h5] at t5;rw [h6] at t6;simp only [Bool.not_true,Bool.not_false] at t5 t6;have HF1:=HP.out;rw [hs,hd,h5,h6] at HF1;have HF2:=hid HF1;clear h5 h6 HP HF1;go_wp2_with (first | (go_at_call 191;refine (Zap _ _).mono ?_;rintro e w' ⟨rfl,rfl⟩) | (go_at_call 192;refine (Zjx _ _).mono ?_;rintro e w' ⟨rfl,rfl⟩))
     first
      | (go_ret
         refine ⟨?_,rfl⟩
         rw [Z6o (t:=t) (fun ⟨_,_,_,h⟩=>by have h2:=h i hlt;rw [HF2.out] at h2;exact absurd h2 (by decide))];rfl)
      | (go_round
         case rel=>exact ⟨i+1,by go_num,by omega,by omega,fun k h hk=>by
          rcases Nat.lt_or_ge k i with h3 | h3
          · exact HALL.out k h h3
          · obtain rfl:k=i:=by omega
            rw [HF2.out];rfl⟩
         case measure=>simp [intOf]<;>omega)
  · have hie:i=t.size:=by omega
    subst hie;go_wp2;go_ret;exact ⟨by rw [Z9f.2 ⟨h0,h32,H3.out,fun k h=>HALL.out k h h⟩];rfl,rfl⟩
def Z61 (n:Nat):ByteArray:=⟨#[UInt8.ofNat (48+n)]⟩
theorem Zju (n:Nat) (h:n<10) (W:World) (g:Nat) (hc:W.cell? ⟨g,0,none⟩=some (.int .u8 (48+(n:Int)))):(convert 118 9 (.slice (some ⟨g,0,none⟩) 1 1)).run Tryz.prog W = .ok (.string (Z61 n)) W:=
 Lib.run_convert_whole (P:=Tryz.prog) W 118 5 9 Tryz.underlying118 Tryz.underlying5 Tryz.underlying9 g 0 (Z61 n) (fun i hi=>by
  (have:i=0:=by have:(Z61 n).size=1:=rfl;omega);subst this;rw [Nat.add_zero,hc];(have e:(Z61 n)[0].toNat=48+n:=by show (UInt8.ofNat (48+n)).toNat=48+n;simp;omega);rw [e]
  simp) 1
def decB (n:Nat):ByteArray:=if n<10 then Z61 n else decB (n / 10)++Z61 (n % 10)
theorem Z5t (n:Nat):(Z61 n).size=1:=rfl
end
section
def Z6m (n:Nat):ByteArray:=⟨#[99,104,117,110,107,45]⟩++decB n
theorem Z6t {α:Type} [DecidableEq α] : ∀{l m:List α},l.Nodup→(∀x∈l,x∈m)→l.length≤m.length
 | [],_,_,_=>Nat.zero_le _
 | a :: l,m,hn,hs=>by
   obtain ⟨h1,h2⟩:=List.nodup_cons.1 hn;have ha:a∈m:=hs a Zpl;have h3:=Z6t (m:=m.erase a) h2 (fun x hx=>(List.mem_erase_of_ne (fun e=>h1 (by rw [← e];exact hx))).2 (hs x (Zpk _ hx)));rw [List.length_erase_of_mem ha] at h3;have h4:0<m.length:=List.length_pos_of_mem ha;rw [Zol];omega
def plV:List Sym→Sym→Nat
 | [],_=>0
 | x :: l,s=>if x=s then 1 else if plV l s=0 then 0 else plV l s+1
theorem Z6v {s:Sym} : ∀{l:List Sym},plV l s=0↔s ∉ l
 | []=>by simp [plV]
 | x :: l=>by
   have ih:=Z6v (s:=s) (l:=l);rw [plV];by_cases h:x=s
   · rw [if_pos h];subst h;simp
   · rw [if_neg h,Zoj]
     by_cases h2:plV l s=0
     · rw [if_pos h2]
       have h3:=ih.1 h2;refine ⟨fun _ e=>e.elim (fun e=>h e.symm) h3,fun _=>rfl⟩
     · rw [if_neg h2]
       refine ⟨fun e=>by omega,fun e=>absurd (ih.2 (fun h4=>e (.inr h4))) h2⟩
theorem Zlm (s:Sym) : ∀l:List Sym,plV l s≤l.length
 | []=>Zo0 _
 | x :: l=>by
   have ih:=Zlm s l;rw [plV,Zol]
   split
   · omega
   · split<;>omega
def putN (ns:List Sym) (s:Sym):List Sym:=if plV ns s=0 then ns ++ [s] else ns
def Z5k (ns:List Sym) (e:Elem):List Sym:=if e.value.kind=1 then putN (putN ns e.id) e.value else putN ns e.id
theorem Z6y (ns:List Sym) (s:Sym):(putN ns s).length≤ns.length+1:=by unfold putN;split<;>simp
theorem Z9k (ns:List Sym) (e:Elem):(Z5k ns e).length≤ns.length+2:=by
 unfold Z5k;have h1:=Z6y ns e.id;have h2:=Z6y (putN ns e.id) e.value
 split<;>omega
theorem Z7n {ns:List Sym} (h:ns.Nodup) (s:Sym):(putN ns s).Nodup:=by
 unfold putN
 split
 · rename_i h2
   rw [List.nodup_append];refine ⟨h,by simp,fun a ha b hb e=>?_⟩;rw [Zpb] at hb;subst hb e;exact Z6v.1 h2 ha
 · exact h
theorem Zbq {ns:List Sym} (h:ns.Nodup) (e:Elem):(Z5k ns e).Nodup:=by
 unfold Z5k
 split
 · exact Z7n (Z7n h _) _
 · exact Z7n h _
theorem Za5 {ns:List Sym} {s t:Sym}:t∈putN ns s↔t∈ns∨t=s:=by
 unfold putN
 split
 · simp
 · rename_i h
   refine ⟨.inl,fun h2=>h2.elim id fun e=>?_⟩;subst e;exact Zp9 fun h3=>h (Z6v.2 h3)
def idN (ns:List Sym) (s:Sym):Int:=if plV ns s=0 then ns.length+1 else plV ns s
def rkN (ns:List Sym) (s:Sym):Int:=if s.kind≠1 then 0 else if plV ns s=0 then 2 else 1
def Z7r (a b:Bool):Int:=if a=b then 0 else if b=true then -1 else 1
theorem Znm:TC Z7r:=by
 constructor
 · intro x;simp [Z7r]
 · intro x y;cases x<;>cases y<;>simp [Z7r]
 · intro x y z;cases x<;>cases y<;>cases z<;>simp [Z7r]
def cmpV (ns:List Sym) (a b:Sym):Int:=
 if rkN ns a=0 then Z08 a b else if rkN ns a=1 then Z14 (plV ns a) (plV ns b) else 0
def Z6k (ns:List Sym) (a b:Elem):Int:=
 andThen (Z14 (idN ns a.id) (idN ns b.id)) (andThen (Z08 a.attr b.attr) (andThen (Z7r a.acc b.acc) (andThen (Z14 (rkN ns a.value) (rkN ns b.value)) (andThen (cmpV ns a.value b.value) (Z14 a.tag b.tag)))))
def keyS (ns:List Sym) (s:Sym):Sym:=if rkN ns s=0 then s else ⟨0,⟨#[]⟩,0⟩
def keyP (ns:List Sym) (s:Sym):Int:=if rkN ns s=1 then plV ns s else 0
theorem Zjq {ns:List Sym} {a b:Sym} (h:rkN ns a=rkN ns b):cmpV ns a b=andThen (Z08 (keyS ns a) (keyS ns b)) (Z14 (keyP ns a) (keyP ns b)):=by
 have hr : ∀x,Z14 x x=0:=Z31.refl;have hs : ∀x,Z08 x x=0:=Z2x.refl;unfold cmpV keyS keyP;rw [← h];by_cases h0:rkN ns a=0
 · simp only [h0,if_true]
   rw [if_neg (by decide),if_neg (by decide),hr];unfold andThen
   split<;>simp [*]
 · by_cases h1:rkN ns a=1
   · simp only [h1,if_true]
     rw [if_neg (by decide),if_neg (by decide),if_neg (by decide),hs];simp [andThen]
   · simp [h0,h1,hr,hs,andThen]
def Zgo (ns:List Sym) (a b:Elem):Int:=
 andThen (Z14 (idN ns a.id) (idN ns b.id)) (andThen (Z08 a.attr b.attr) (andThen (Z7r a.acc b.acc) (andThen (Z14 (rkN ns a.value) (rkN ns b.value)) (andThen (Z08 (keyS ns a.value) (keyS ns b.value)) (andThen (Z14 (keyP ns a.value) (keyP ns b.value)) (Z14 a.tag b.tag))))))
theorem Z9u (a b c:Int):andThen (andThen a b) c=andThen a (andThen b c):=by
 unfold andThen
 split<;>simp_all
theorem Zjd (ns:List Sym) (a b:Elem):Z6k ns a b=Zgo ns a b:=by
 unfold Z6k Zgo;congr 3;by_cases h:Z14 (rkN ns a.value) (rkN ns b.value)=0
 · rw [Zjq (Z3h.1 h),Z9u]
 · simp only [andThen,if_neg h]
theorem Zld (ns:List Sym):TC (Z6k ns):=by
 (have h:Z6k ns=Zgo ns:=by funext a b;exact Zjd ns a b);rw [h]
 exact Z30 (f:=fun e:Elem=>idN ns e.id) (g:=fun e:Elem=>e) (c2:=fun a b:Elem=>andThen (Z08 a.attr b.attr) (andThen (Z7r a.acc b.acc) (andThen (Z14 (rkN ns a.value) (rkN ns b.value)) (andThen (Z08 (keyS ns a.value) (keyS ns b.value)) (andThen (Z14 (keyP ns a.value) (keyP ns b.value)) (Z14 a.tag b.tag)))))) Z31
  (Z30 (f:=fun e:Elem=>e.attr) (g:=fun e:Elem=>e) (c2:=fun a b:Elem=>andThen (Z7r a.acc b.acc) (andThen (Z14 (rkN ns a.value) (rkN ns b.value)) (andThen (Z08 (keyS ns a.value) (keyS ns b.value)) (andThen (Z14 (keyP ns a.value) (keyP ns b.value)) (Z14 a.tag b.tag))))) Z2x
  (Z30 (f:=fun e:Elem=>e.acc) (g:=fun e:Elem=>e) (c2:=fun a b:Elem=>andThen (Z14 (rkN ns a.value) (rkN ns b.value)) (andThen (Z08 (keyS ns a.value) (keyS ns b.value)) (andThen (Z14 (keyP ns a.value) (keyP ns b.value)) (Z14 a.tag b.tag)))) Znm
  (Z30 (f:=fun e:Elem=>rkN ns e.value) (g:=fun e:Elem=>e) (c2:=fun a b:Elem=>andThen (Z08 (keyS ns a.value) (keyS ns b.value)) (andThen (Z14 (keyP ns a.value) (keyP ns b.value)) (Z14 a.tag b.tag))) Z31
  (Z30 (f:=fun e:Elem=>keyS ns e.value) (g:=fun e:Elem=>e) (c2:=fun a b:Elem=>andThen (Z14 (keyP ns a.value) (keyP ns b.value)) (Z14 a.tag b.tag)) Z2x
  (Z30 (f:=fun e:Elem=>keyP ns e.value) (g:=fun e:Elem=>e.tag) (c2:=Z14) Z31 Z31)))))
def Zlj (ns:List Sym) (a b:Elem):Bool:=decide (Z6k ns a b<0)
def canN (ns:List Sym) (e:Elem):Bool:=e.goal || !decide (plV ns e.id=0)
def Z4h (ns:List Sym) (left:List Elem):Nat→Option Nat
 | 0=>none
 | i+1=>match left[i]? with
   | none=>Z4h ns left i
   | some e=>if canN ns e=true then (match Z4h ns left i with
    | none=>some i
    | some k=>match left[k]? with
      | none=>some i
      | some b=>if Zlj ns e b=true then some i else some k) else Z4h ns left i
theorem Z84 {ns:List Sym} {left:List Elem} : ∀{i k:Nat},Z4h ns left i=some k→k<i∧k<left.length
 | 0,_,h=>by cases h
 | i+1,k,h=>by
   rw [Z4h] at h
   split at h
   · have:=Z84 h;omega
   · rename_i e he
     have hi:=(Zoh.1 he).1
     split at h
     · split at h
       · injection h with h;omega
       · rename_i j hj
         have:=Z84 hj
         split at h
         · injection h with h;omega
         · split at h
           · injection h with h;omega
           · injection h with h;omega
     · have:=Z84 h;omega
theorem Z5s {ns:List Sym} {left:List Elem} : ∀{i k:Nat},Z4h ns left i=some k→∃e,left[k]? = some e∧canN ns e=true∧∀j x,j<i→left[j]? = some x→canN ns x=true→Z6k ns e x≤0
 | 0,_,h=>by cases h
 | i+1,k,h=>by
   have T:=Zld ns;rw [Z4h] at h
   cases he:left[i]? with
   | none=>
     rw [he] at h;obtain ⟨e,h1,h2,h3⟩:=Z5s h;refine ⟨e,h1,h2,fun j x hj hx hc=>?_⟩;by_cases h4:j=i
     · subst h4;rw [he] at hx;cases hx
     · exact h3 j x (by omega) hx hc
   | some y=>
     rw [he] at h;simp only at h;by_cases hy:canN ns y=true
     · rw [if_pos hy] at h
       cases hb:Z4h ns left i with
       | none=>
         rw [hb] at h;injection h with h;subst h;refine ⟨y,he,hy,fun j x hj hx hc=>?_⟩;by_cases h4:j=i
         · subst h4;rw [he] at hx;injection hx with hx;subst hx;rw [T.refl];exact Int.le_refl _
         · exact absurd (bestS_none hb j x (by omega) hx) (by rw [hc];decide)
       | some m=>
         rw [hb] at h;simp only at h;obtain ⟨b,h1,h2,h3⟩:=Z5s hb;rw [h1] at h;simp only at h;by_cases hd:Zlj ns y b=true
         · rw [if_pos hd] at h
           injection h with h;subst h;have hd2:Z6k ns y b<0:=Zpi hd;refine ⟨y,he,hy,fun j x hj hx hc=>?_⟩;by_cases h4:j=i
           · subst h4;rw [he] at hx;injection hx with hx;subst hx;rw [T.refl];exact Int.le_refl _
           · exact T.trans y b x (by omega) (h3 j x (by omega) hx hc)
         · rw [if_neg hd] at h
           injection h with h;subst h;have hd2 : ¬Z6k ns y b<0:=fun e=>hd (Zoe e);refine ⟨b,h1,h2,fun j x hj hx hc=>?_⟩;by_cases h4:j=i
           · subst h4
             rw [he] at hx;injection hx with hx;subst hx;have h5:=T.symm y b;omega
           · exact h3 j x (by omega) hx hc
     · rw [if_neg hy] at h
       obtain ⟨e,h1,h2,h3⟩:=Z5s h;refine ⟨e,h1,h2,fun j x hj hx hc=>?_⟩;by_cases h4:j=i
       · subst h4;rw [he] at hx;injection hx with hx;subst hx;exact absurd hc hy
       · exact h3 j x (by omega) hx hc
where
 bestS_none {ns:List Sym} {left:List Elem} : ∀{i:Nat},Z4h ns left i=none→∀j x,j<i→left[j]? = some x→canN ns x=false
 | 0,_,j,_,h,_=>by omega
 | i+1,hb,j,x,hj,hx=>by
   rw [Z4h] at hb
   cases he:left[i]? with
   | none=>
     rw [he] at hb;by_cases h4:j=i
     · subst h4;rw [he] at hx;cases hx
     · exact bestS_none hb j x (by omega) hx
   | some y=>
     rw [he] at hb;simp only at hb
     split at hb
     · exfalso
       split at hb
       · cases hb
       · split at hb
         · cases hb
         · split at hb<;>cases hb
     · rename_i hy
       by_cases h4:j=i
       · subst h4;rw [he] at hx;injection hx with hx;subst hx;simpa using hy
       · exact bestS_none hb j x (by omega) hx
def Zex (ns:List Sym) (left:List Elem):Option Nat:=Z4h ns left left.length
def Z7z:Nat→List Sym→List Elem→List Elem→Option (List Elem×List Sym)
 | 0,ns,_,out=>some (out,ns)
 | f+1,ns,left,out=>if left = [] then some (out,ns) else
   match Zex ns left with
   | none=>none
   | some k=>match left[k]? with
     | none=>none
     | some e=>Z7z f (Z5k ns e) (left.eraseIdx k) (out ++ [e])
def Z5m (l:List Elem):Option (List Elem×List Sym):=Z7z l.length [] l []
theorem Z9h {f:Nat} {ns:List Sym} {left out:List Elem} {k:Nat} {e:Elem} (hb:Zex ns left=some k) (he:left[k]? = some e):Z7z (f+1) ns left out=Z7z f (Z5k ns e) (left.eraseIdx k) (out ++ [e]):=by
 (have hl:left≠[]:=by intro h;subst h;simp at he);rw [Z7z,if_neg hl,hb];simp only;rw [he]
theorem Z9g {f:Nat} {ns:List Sym} {left out:List Elem} (hl:left≠[]) (hb:Zex ns left=none):Z7z (f+1) ns left out=none:=by
 rw [Z7z,if_neg hl,hb]
theorem Zbj {f:Nat} {ns:List Sym} {out:List Elem}:Z7z f ns [] out=some (out,ns):=by
 cases f with
 | zero=>rfl
 | succ f=>rw [Z7z,if_pos rfl]
theorem Zlw {ns:List Sym} {left:List Elem} {k:Nat} (h:Zex ns left=some k) : ∃e,left[k]? = some e∧canN ns e=true∧∀x∈left,canN ns x=true→Z6k ns e x≤0:=by
 obtain ⟨e,h1,h2,h3⟩:=Z5s h;refine ⟨e,h1,h2,fun x hx hc=>?_⟩;obtain ⟨j,hj,rfl⟩:=List.getElem_of_mem hx;exact h3 j _ hj (Zo8 hj) hc
theorem Z7h : ∀{l:List Elem} {k:Nat} {e:Elem},l[k]? = some e→(e :: l.eraseIdx k).Perm l
 | [],_,_,h=>by simp at h
 | x :: l,0,e,h=>by simp at h;subst h;exact .refl _
 | x :: l,k+1,e,h=>by
   have:=Z7h (l:=l) (k:=k) (e:=e) (by simpa using h);rw [List.eraseIdx_cons_succ];exact (List.Perm.swap x e _).trans (this.cons x)
theorem Zbb {l:List Elem} {k:Nat} {e:Elem} (h:l[k]? = some e):(l.eraseIdx k).length+1=l.length:=by
 have:=(Z7h h).length_eq;simpa using this
theorem Z9i : ∀(f:Nat) (ns:List Sym) (l out:List Elem),l.length≤f→ns.Nodup→∀o n,Z7z f ns l out=some (o,n)→
 o.Perm (out++l)∧n.Nodup∧n.length≤ns.length+2*l.length∧∀s,s∈n↔s∈ns∨∃e∈l,s=e.id∨(s=e.value∧e.value.kind=1)
 | 0,ns,l,out,hf,hn,o,n,h=>by
   obtain rfl:l = []:=Zp2.1 (by omega);injection h with h;injection h with h1 h2;subst h1 h2;exact ⟨by simp,hn,by simp,fun s=>by simp⟩
 | f+1,ns,l,out,hf,hn,o,n,h=>by
   by_cases hl:l = []
   · subst hl
     rw [Zbj] at h;injection h with h;injection h with h1 h2;subst h1 h2;exact ⟨by simp,hn,by simp,fun s=>by simp⟩
   · cases hb:Zex ns l with
     | none=>rw [Z9g hl hb] at h;cases h
     | some k=>
       obtain ⟨e,h1,_,_⟩:=Zlw hb;rw [Z9h hb h1] at h;have hlen:=Zbb h1;obtain ⟨g1,g2,g3,g4⟩:=Z9i f _ _ _ (by omega) (Zbq hn e) o n h;have p1:=Z7h h1;have hnl:=Z9k ns e;refine ⟨?_,g2,by omega,fun s=>?_⟩
       · refine g1.trans ?_
         rw [Zpf];exact List.Perm.append_left _ p1
       · rw [g4 s]
         have hm : ∀x,x∈l↔x=e∨x∈l.eraseIdx k:=fun x=>by rw [← p1.mem_iff,Zoj]
         have hs:s∈Z5k ns e↔s∈ns∨s=e.id∨(s=e.value∧e.value.kind=1):=by
          unfold Z5k;by_cases hk:e.value.kind=1
          · rw [if_pos hk,Za5,Za5,or_assoc];simp [hk]
          · rw [if_neg hk,Za5];simp [hk]
         rw [hs];constructor
         · rintro ((q | q) | ⟨x,hx,q⟩)
           · exact .inl q
           · exact .inr ⟨e,(hm e).2 (.inl rfl),q⟩
           · exact .inr ⟨x,(hm x).2 (.inr hx),q⟩
         · rintro (q | ⟨x,hx,q⟩)
           · exact .inl (.inl q)
           · rcases (hm x).1 hx with rfl | hx
             · exact .inl (.inr q)
             · exact .inr ⟨x,hx,q⟩
theorem Zd6 {l o:List Elem} {n:List Sym} (h:Z5m l=some (o,n)):o.Perm l∧n.Nodup∧n.length≤2*l.length∧∀s,s∈n↔∃e∈l,s=e.id∨(s=e.value∧e.value.kind=1):=by
 obtain ⟨h1,h2,h3,h4⟩:=Z9i l.length [] l [] (Zo0 _) .nil o n h;exact ⟨by simpa using h1,h2,by simpa using h3,fun s=>by rw [h4 s];simp⟩
end
section
open Go.RowKit
def Zm3 (f:UInt8→Bool) (t:ByteArray):Bool:=t.data.toList.head?.any f
theorem Zk7 {f:UInt8→Bool} {t:ByteArray} (h:0<t.size):Zm3 f t=f t[0]:=by
 have hs:t.data.toList.length=t.size:=Array.length_toList;unfold Zm3;rw [List.head?_eq_getElem?,Zo8 (by omega),Option.any_some,Array.getElem_toList];rfl
def Z56 (s:Sym):Bool:=
 if s.kind=1 then decide (s.text.size=1) && Zm3 Z40 s.text && decide (1≤s.n) && decide (s.n≤1048576)
 else if s.kind=2 then decide (s.text.toList = []) && decide (-2147483647≤s.n) && decide (s.n≤2147483647)
 else if s.kind=3 then decide (s.n=0) && Z1f s.text else false
theorem Z20 {a b:Bool} (h:a=b):Ending.returned (.bool a) = .returned (.bool b):=by rw [h]
theorem Zle (s:Sym) (w:World):Calls Tryz.prog 242 #[.agg #[.int .i64 s.kind,.string s.text,.int .i64 s.n]] w fun e w'=>e = .returned (.bool (Z56 s))∧Below w.heap.size w w':=by
 obtain ⟨k,t,n⟩:=s;dsimp only;by_cases k1:k=1
 · subst k1
   by_cases a1:t.size=1
   · have h0:0<t.size:=by omega
     (have t1:((t.size:Int) == 1)=true:=by simp;omega);have HV:=hid (show Z56 ⟨1,t,n⟩=(Z40 t[0] && decide (1≤n) && decide (n≤1048576)) by simp [Z56,a1,Zk7 h0]);go_enter Tryz.func242,Tryz.ntmps242;go_wp2_with (go_at_call 253;refine (Zk5 _ _).mono ?_;rintro e w' ⟨rfl,rfl⟩)
     all_goals
      go_ret;refine ⟨?_,(Znz _ _).alloc (Zo0 _) _⟩;rw [HV.out]
      first | rfl | (refine Z20 ?_;simp_all;done) | (refine Z20 ?_;simp_all;omega) | (refine Z20 ?_;simp_all [Z40];done) | (refine Z20 ?_;simp_all [Z40];omega)
   · have t1:((t.size:Int) == 1)=false:=by simp;omega
     have HV:=hid (show Z56 ⟨1,t,n⟩=false by simp [Z56,a1]);go_enter Tryz.func242,Tryz.ntmps242;go_wp2_with fail
     all_goals
      go_ret;refine ⟨?_,(Znz _ _).alloc (Zo0 _) _⟩;rw [HV.out];rfl
 · by_cases k2:k=2
   · subst k2
     have HV:=hid (show Z56 ⟨2,t,n⟩=(decide (t.toList = []) && decide (-2147483647≤n) && decide (n≤2147483647)) by simp [Z56]);clear k1;go_enter Tryz.func242,Tryz.ntmps242;go_wp2_with fail
     all_goals
      go_ret;refine ⟨?_,(Znz _ _).alloc (Zo0 _) _⟩;rw [HV.out]
      first | rfl | (refine Z20 ?_;simp_all;done) | (refine Z20 ?_;simp_all;omega) | (refine Z20 ?_;simp_all [Z40];done) | (refine Z20 ?_;simp_all [Z40];omega)
   · by_cases k3:k=3
     · subst k3
       have HV:=hid (show Z56 ⟨3,t,n⟩=(decide (n=0) && Z1f t) by simp [Z56]);clear k1 k2;go_enter Tryz.func242,Tryz.ntmps242;go_wp2_with (go_at_call 154;refine (Z3d _ _).mono ?_;rintro e w' ⟨rfl,rfl⟩)
       all_goals
        go_ret;refine ⟨?_,(Znz _ _).alloc (Zo0 _) _⟩;rw [HV.out]
        first | rfl | (refine Z20 ?_;simp_all;done) | (refine Z20 ?_;simp_all;omega) | (refine Z20 ?_;simp_all [Z40];done) | (refine Z20 ?_;simp_all [Z40];omega)
     · have HV:=hid (show Z56 ⟨k,t,n⟩=false by simp [Z56,k1,k2,k3])
       (have t1:(k == 1)=false:=by simp [k1]);(have t2:(k == 2)=false:=by simp [k2]);(have t3:(k == 3)=false:=by simp [k3]);clear k1 k2 k3;go_enter Tryz.func242,Tryz.ntmps242;go_wp2_with fail
       all_goals
        go_ret;refine ⟨?_,(Znz _ _).alloc (Zo0 _) _⟩;rw [HV.out];rfl
theorem Z4m {α:Type} {cells:α→List Value} (hsz : ∀x,(cells x).length=1) (_h0:0<1) (l:List α) (k:Nat) (hk:k<l.length) (y:α) :
 setAll (l.flatMap cells) k (cells y)=(l.set k y).flatMap cells:=by
 have h:=Z4a hsz (by omega) l k hk y;rwa [Nat.mul_one] at h
abbrev Name:=ByteArray
def Name.cells (n:Name):List Value:=[.string n]
theorem Name.cells_length (n:Name):(Name.cells n).length=1:=rfl
def Z0r (a b:Name):Int:=Z2a a b
theorem Z3c:TC Z0r:=Ziv
theorem Zjs (a b:Name) (w:World):Calls Tryz.prog 316 #[.string a,.string b] w fun e w'=>e = .returned (.int .i64 (Z0r a b))∧Below w.heap.size w w':=by
 go_enter Tryz.func316,Tryz.ntmps316;go_wp2
 all_goals (go_ret;refine ⟨?_,Znz _ _⟩;unfold Z0r Z2a;simp_all)
end
section
def zS:Sym:=⟨0,⟨#[]⟩,0⟩
def Z8n (s:Sym):Bool:=decide (s=zS)
def Z7s (a:Z4t):Bool:=decide (a.var.toList = []) && Z8n a.sym
def Z4l (s:Sym):Bool:=decide (s.kind≠1) && Z56 s
def Z24 (t:Z3a):Bool:=
 if t.rel=8 then decide (t.var.toList = []) && Z8n t.sym && decide (1≤t.list.length) && decide (t.list.length≤8) && t.list.all Z4l
 else if t.rel<1∨7<t.rel∨0<t.list.length then false
 else if t.var.toList = [] then Z4l t.sym else Z1f t.var && Z8n t.sym
def Z3v (a:Z4t):Bool:=if a.var.toList = [] then Z4l a.sym else Z1f a.var && Z8n a.sym
def Z18 (c:Z1c) (deep:Nat):Int:=
 if c.kind=3 then (if c.goal=true∨c.id.toList≠[]∨0<c.attr.length∨0<c.value.length∨c.acc=true∨c.conds.length=0 then 9 else if 3≤deep then 8 else 0)
 else if c.kind=1∨c.kind=2 then
  (if 0<c.conds.length∨Z1f c.id=false∨c.attr.length=0 then 9 else if 4<c.attr.length∨4<c.value.length then 7 else if (c.attr.all Z24 && c.value.all Z24)=false then 9 else 0)
 else 9
def Z70 (a:Z4t):Bool:=decide (a.var.toList = []) && decide (a.sym.kind=3)
def Z4j (t:Zgl):Bool:=
 if t.op<0∨3<t.op∨Z3v t.a=false then false
 else if t.op=0 then Z7s t.b else Z3v t.b && !Z70 t.a && !Z70 t.b
def Zc0 (k:Int):Bool:=decide (k=8) || decide (k=9) || decide (k=10)
def actB (a:ActT):Bool:=
 if Z1f a.id=false∨Z3v a.attr=false∨Z4j a.value=false∨a.pref<1∨10<a.pref then false
 else if Zc0 a.pref=true then Z3v a.other else Z7s a.other
def Z19:Nat→Nat→List Z1c→List (Nat×Z1c)
 | 0,_,_=>[]
 | n+1,d,l=>l.flatMap fun c=>(d,c) :: Z19 n (d+1) c.conds
def Z2b (n:Nat) (p:Z4u):Int×Int:=
 if Z1f p.name=false then (-1,2)
 else if (Z19 n 0 p.conds).length<1∨16<(Z19 n 0 p.conds).length∨p.acts.length<1∨16<p.acts.length then (-1,7)
 else match (Z19 n 0 p.conds).findIdx? (fun c=>decide (Z18 c.2 c.1≠0)) with
  | some k=>(k,(((Z19 n 0 p.conds)[k]?).map fun c=>Z18 c.2 c.1).getD 0)
  | none=>match p.acts.findIdx? (fun a=>!actB a) with
    | some i=>((Z19 n 0 p.conds).length+i,9)
    | none=>(-1,0)
abbrev Kn:=List ByteArray×List ByteArray
def metK (k:Kn) (v:ByteArray):Kn:=(put Z0r k.1 v,if has Z0r k.1 v=true then k.2 else k.2 ++ [v])
def hasK (k:Kn) (v:ByteArray):Bool:=has Z0r k.1 v
def Z1t:Kn→List Z3a→Bool×Kn
 | k,[]=>(true,k)
 | k,t :: l=>if t.rel=8∨t.var.toList = [] then Z1t k l else if t.rel=1 then Z1t (metK k t.var) l else if hasK k t.var=true then Z1t k l else (false,k)
def oneK (k:Kn) (c:Z1c):Bool×Kn:=
 let k1:=if c.goal=true then metK k c.id else k
 if hasK k1 c.id=true then (match Z1t k1 c.attr with | (true,k2)=>Z1t k2 c.value | (false,k2)=>(false,k2)) else (false,k1)
def Z1o:Nat→Kn→List Z1c→Int→Bool×Int×Kn
 | 0,k,_,at_=>(true,at_,k)
 | _+1,k,[],at_=>(true,at_,k)
 | n+1,k,c :: l,at_=>
   if c.kind=3 then
    (match Z1o n (k.1,[]) c.conds (at_+1) with
      | (true,a2,_)=>Z1o (n+1) k l a2
      | (false,a2,_)=>(false,a2,k))
   else
    (match oneK (if c.kind=1 then k else (k.1,[])) c with
      | (true,k2)=>Z1o (n+1) (if c.kind=1 then k2 else k) l (at_+1)
      | (false,_)=>(false,at_,k))
termination_by n _ l _=>(n,l.length)
def Z52 (k:Kn) (a:Z4t):Bool:=decide (a.var.toList≠[]) && !hasK k a.var
def actV (k:Kn) (a:ActT):Bool:=Z52 k a.attr || (decide (a.value.op≠0) && (Z52 k a.value.a || Z52 k a.value.b))
def Z39 (n:Nat) (p:Z4u):Int×Int×List ByteArray:=
 if (Z2b n p).2≠0 then ((Z2b n p).1,(Z2b n p).2,[])
 else if (p.conds.head?.map Z1c.kind).getD 0≠1 then (0,9,[])
 else match Z1o n ([],[]) p.conds 0 with
  | (false,a,_)=>(a,6,[])
  | (true,a,k)=>match p.acts.findIdx? (actV k) with
    | some i=>(a+i,6,[])
    | none=>(-1,0,k.2)
def decF:Nat→Nat→ByteArray
 | 0,n=>Z61 n
 | f+1,n=>if n<10 then Z61 n else decF f (n / 10)++Z61 (n % 10)
theorem Zhc : ∀(f n:Nat),n<10 ^ (f+1)→decF f n=decB n
 | 0,n,h=>by rw [decB,if_pos (by simpa using h)];rfl
 | f+1,n,h=>by
   rw [decF,decB]
   split
   · rfl
   · rw [Zhc f (n / 10)]
     rw [Nat.div_lt_iff_lt_mul (by decide)];rw [Nat.pow_succ] at h;exact h
theorem Ze1 : ∀(k n:Nat),n<10 ^ (k+1)→(decB n).size≤k+1
 | 0,n,h=>by rw [decB,if_pos (by simpa using h)];exact Zo0 _
 | k+1,n,h=>by
   rw [decB]
   split
   · rw [Z5t];omega
   · have h2:n / 10<10 ^ (k+1):=by
      rw [Nat.div_lt_iff_lt_mul (by decide)];rw [Nat.pow_succ] at h;exact h
     have:=Ze1 k (n / 10) h2;rw [ByteArray.size_append,Z5t];omega
theorem Z6n {n:Nat} (h:n<9223372036854775808):(decB n).size≤19:=Ze1 18 n (Zo3 h (by decide))
theorem Zhd {n:Nat} (h:n<9223372036854775808):decF 18 n=decB n:=Zhc 18 n (Zo3 h (by decide))
def letV (s:Sym):Option UInt8:=if s.kind=1∧s.text.size=1∧65≤(s.text.toList[0]!).toNat∧(s.text.toList[0]!).toNat≤90 then some s.text.toList[0]! else none
def Z41 (s:Sym) (n:Int):ByteArray:=if n<1 then ⟨#[]⟩ else match letV s with
 | none=>⟨#[]⟩
 | some c=>⟨#[c - 65+97]⟩++decF 18 n.toNat
def symZ:Sym:=⟨0,⟨#[]⟩,0⟩
def Z7y:Z4t:=⟨⟨#[]⟩,symZ⟩
def Z38 (ns:List Sym) (rel:Int) (s:Sym):Z3a:=if s.kind=1 then ⟨rel,Z41 s (plV ns s),symZ,[]⟩ else ⟨rel,⟨#[]⟩,s,[]⟩
def posV (ns:List Sym) (e:Elem):Z1c:=.mk 1 e.goal (Z41 e.id (plV ns e.id)) [⟨1,⟨#[]⟩,e.attr,[]⟩] [Z38 ns 1 e.value] e.acc []
def Z58 (old:Sym→Bool) (ns:List Sym) (s:Sym):Option (Z4t×List Sym):=
 if s.kind≠1 then some (⟨⟨#[]⟩,s⟩,ns)
 else if plV ns s=0∧old s=true then none
 else some (⟨Z41 s (plV (putN ns s) s),symZ⟩,putN ns s)
def Z7g (old:Sym→Bool) (ns:List Sym) (p:Z04):Option (ActT×List Sym):=
 match Z58 old ns p.id with
 | none=>none
 | some (i,n1)=>match Z58 old n1 p.value with
   | none=>none
   | some (v,n2)=>match Z58 old n2 p.other with
     | none=>none
     | some (o,n3)=>some (⟨i.var,⟨⟨#[]⟩,p.attr⟩,⟨0,v,Z7y⟩,p.kind,o⟩,n3)
instance:DecidableEq Z4t:=fun a b=>decidable_of_iff (a.var=b.var∧a.sym=b.sym) ⟨fun ⟨h1,h2⟩=>by cases a;cases b;simp_all,fun h=>by subst h;exact ⟨rfl,rfl⟩⟩
instance:DecidableEq Zgl:=fun a b=>decidable_of_iff (a.op=b.op∧a.a=b.a∧a.b=b.b) ⟨fun ⟨h1,h2,h3⟩=>by cases a;cases b;simp_all,fun h=>by subst h;exact ⟨rfl,rfl,rfl⟩⟩
instance:DecidableEq ActT:=fun a b=>decidable_of_iff (a.id=b.id∧a.attr=b.attr∧a.value=b.value∧a.pref=b.pref∧a.other=b.other) ⟨fun ⟨h1,h2,h3,h4,h5⟩=>by cases a;cases b;simp_all,fun h=>by subst h;exact ⟨rfl,rfl,rfl,rfl,rfl⟩⟩
def addA (acts:List ActT) (a:ActT):List ActT:=if a∈acts then acts else acts ++ [a]
def Z5c (old:Sym→Bool):List Z04→List Sym→List ActT→Option (List ActT×List Sym)
 | [],ns,acts=>some (acts,ns)
 | p :: l,ns,acts=>match Z7g old ns p with
   | none=>none
   | some (a,n)=>Z5c old l n (addA acts a)
def Zg2 (m:Nat) (name:ByteArray) (cs:List Z1c) (tags:List Int) (old:Sym→Bool) (ns:List Sym) (l:List Z04):Option (Z4u×List Int):=
 match Z5c old l ns [] with
 | none=>none
 | some (acts,_)=>if (Z39 m ⟨name,cs,acts⟩).2.1=0 then some (⟨name,cs,acts⟩,tags) else none
def Z62 (m:Nat) (name:ByteArray) (es:List Elem) (old:Sym→Bool) (news:List Sym) (l:List Z04):Option (Z4u×List Int):=
 match Z5m es with
 | none=>none
 | some (o,ns)=>if o = [] then none else if (news.any fun s=>!decide (plV ns s=0))=true then none
   else Zg2 m name (o.map (posV ns)) (o.map Elem.tag) old ns l
theorem Zcr (n:Nat) (k k2:Kn) (c:Z1c) (l:List Z1c) (at_:Int) (h:c.kind=1) (h2:oneK k c=(true,k2)):Z1o (n+1) k (c :: l) at_=Z1o (n+1) k2 l (at_+1):=by
 rw [Z1o,if_neg (by omega),if_pos h,h2];simp only [if_pos h]
theorem Zjo {n:Nat} {p:Z4u} {c:Z1c} {l:List Z1c} {k1 k2:Kn} {at_:Int} (h0:(Z2b (n+1) p).2=0) (hc:p.conds=c :: l) (hk:c.kind=1) (h1:oneK ([],[]) c=(true,k1)) (h2:Z1o (n+1) k1 l 1=(true,at_,k2)) (h3:p.acts.findIdx? (actV k2)=none):(Z39 (n+1) p).2.1=0:=by
 unfold Z39;rw [if_neg (by rw [h0];simp),hc,if_neg (by simp [hk]),Zcr n _ k1 c l 0 hk h1,show (0:Int)+1=1 from rfl,h2];simp only [h3]
theorem Zcq (n:Nat) (k:Kn) (at_:Int):Z1o (n+1) k [] at_=(true,at_,k):=by rw [Z1o]
def sSym:Sym:=⟨1,⟨#[83]⟩,1⟩
def wSym (c:UInt8):Sym:=⟨3,⟨#[c]⟩,0⟩
end
section
open Go.RowKit
abbrev Z1g:=ByteArray
def Z1g.cells (n:Z1g):List Value:=[.string n]
theorem Z1g.cells_length (n:Z1g):(Z1g.cells n).length=1:=rfl
def Z0w (a b:Z1g):Int:=Z2a a b
theorem Z3g:TC Z0w:=Ziv
theorem Zh8 (a b:Z1g) (w:World):Calls Tryz.prog 303 #[.string a,.string b] w fun e w'=>e = .returned (.int .i64 (Z0w a b))∧Below w.heap.size w w':=by
 go_enter Tryz.func303,Tryz.ntmps303;go_wp2
 all_goals (go_ret;refine ⟨?_,Znz _ _⟩;unfold Z0w Z2a;simp_all)
abbrev Z2r:=Z1w (α:=Z1g) 214 158 1 Z1g.cells
theorem Z91 (k0 : ByteArray) (w : World) : (nilAhead 555 158 (.string k0) "Compare").run Tryz.prog w = .ok (some false) w := by kernel_rfl
theorem Zbp (k0 : ByteArray) (w : World) : (method 555 158 (.string k0) "Compare").run Tryz.prog w = .ok (303, .string k0) w := by kernel_rfl
def Z97 (l:List Z1g) (x:Z1g) (w:World) (e:Ending) (w':World):Prop:=
 e = .returned (.tuple #[.int .i64 (rank Z0w l x),.bool (has Z0w l x)])∧Below w.heap.size w w'
theorem Z7i (b c:Nat) (sn:Bool) (A:Option Addr) (l:List Z1g) (x:Z1g) (w:World) (hS:Z2r w b sn A c l) (hs:Srt Z0w l) (hl:(l.length:Int)≤4611686018427387904) :
 Calls Tryz.prog 132 #[.pointer (some ⟨b,0,none⟩),.string x] w (Z97 l x w):=by
 have hrd:=hS.rd Z1g.cells_length;have h0:=hS.cell0;have hb:=hS.lt;clear hS;have HS:=hid hs;have HRD:=hid hrd;clear hs hrd;go_enter Tryz.func132,Tryz.ntmps132;(go_wp2_with fail);go_quiet (fail);(go_wp2_with fail);obtain ⟨W0,hW0⟩ : ∃W0,W0=(w.drewN nq):=⟨_,rfl⟩;(have hB0:Below w.heap.size w W0:=by rw [hW0];exact Below.drewN' (Znz _ _) _);rw [← hW0];clear hW0;have HB0:=hid hB0;clear hB0
 go_loopw [6,7] (fun lo hi wr=>∃i j:Nat,lo = .int .i64 i∧hi = .int .i64 j∧i≤j∧j≤l.length∧(∀k,(h:k<l.length)→k<i→Z0w l[k] x<0)∧(∀k,(h:k<l.length)→j≤k→0<Z0w l[k] x)∧Below W0.heap.size W0 wr) (fun lo hi wr=>(intOf hi).toNat - (intOf lo).toNat)
 case atStart=>exact ⟨0,l.length,rfl,rfl,Nat.zero_le _,Zo0 _,fun k _ h=>absurd h (by omega),fun k h h'=>absurd h (by omega),Znz _ _⟩
 case round=>
  obtain ⟨i,j,rfl,rfl,hij,hj,hlo,hhi,hB⟩:=hrel;have HLO:=hid hlo;have HHI:=hid hhi;clear hlo hhi;have hsz:w.heap.size≤W0.heap.size:=HB0.out.size;by_cases hlt:i<j
  · obtain ⟨m,hm⟩ : ∃m,m=i+(j - i) / 2:=⟨_,rfl⟩
    (have hml:m<l.length:=by omega);(have hmj:m<j:=by omega);(have hmi:i≤m:=by omega);(have e1:((i:Int)+((j:Int) - (i:Int)) / 2)=(m:Int):=by omega);have E1:=hid e1;clear e1 hm;obtain ⟨g,off,rfl,hgs,hcell⟩:=HRD.out.at_ hml;have low : ∀(p:Addr),p.block<w.heap.size→wr.cell? p=w.cell? p:=fun p hp=>(hB.cell (p:=p) (by omega)).trans (HB0.out.cell (p:=p) hp);have r0:=(low ⟨b,0,none⟩ hb).trans h0;have q0:wr.cell? ⟨g,off+m,none⟩=some (.string l[m]):=(low ⟨g,off+m,none⟩ hgs).trans (by simpa using hcell 0 _ rfl);(have b1:(0:Int)≤(m:Int):=by omega);(have b2:(m:Int)<(l.length:Int):=by omega);have hsw:W0.heap.size≤wr.heap.size:=hB.size;have N:=Z91;have M:=Zbp;clear low hcell h0;have HB:=hid hB;clear hB;obtain ⟨y,hy⟩ : ∃y,y=l[m]:=⟨_,rfl⟩;rw [← hy] at q0;have HY:=hid hy;clear hy;(have hbw:b<wr.heap.size:=by omega);(have hgw:g<wr.heap.size:=by omega);(go_upto_region 4 with (fail));rw [E1.out];(go_wp2_with fail);refine (Zh8 y x _).mono ?_;rintro e w1 ⟨rfl,hb1⟩;have HB1:Below W0.heap.size W0 w1:=HB.out.trans (hb1.mono hsw);clear r0 q0 N M;have HB1':=hid HB1;clear HB1;by_cases hc:Z0w y x=0
    · have HC:=hid hc
      (have t1:(Z0w y x == 0)=true:=by simp [hc]);clear hc;(go_wp2_with fail);go_ret2;have e:=HC.out;rw [HY.out] at e;refine ⟨?_,HB0.out.trans (HB1'.out.mono (by omega))⟩;rw [Z3j Z3g HS.out hml e,(Z4g Z3g HS.out hml e).2.2.1];rfl
    · have t1:(Z0w y x == 0)=false:=by simp [hc]
      by_cases hc2:Z0w y x<0
      · have HC:=hid hc2
        (have t2:decide (Z0w y x<0)=true:=by simpa using hc2);clear hc hc2;(go_wp2_with fail);go_roundw
        case rel=>
         refine ⟨m+1,j,by go_num,rfl,by omega,hj,fun k h1 h2=>?_,HHI.out,HB1'.out⟩;have e:=HC.out;rw [HY.out] at e;rcases Nat.lt_or_ge k m with h3 | h3
         · exact Z3g.lt_of_lt_of_le (HS.out.lt h3 hml) (by omega)
         · obtain rfl:k=m:=by omega
           exact e
        case measure=>simp [intOf];omega
      · have t2:decide (Z0w y x<0)=false:=by simpa using hc2
        (have hc3:0<Z0w y x:=by omega);have HC:=hid hc3;clear hc hc2 hc3;(go_wp2_with fail);go_roundw
        case rel=>
         refine ⟨i,m,rfl,rfl,by omega,by omega,HLO.out,fun k h1 h2=>?_,HB1'.out⟩;have e:=HC.out;rw [HY.out] at e;rcases Nat.lt_or_ge m k with h3 | h3
         · exact (Z3g.symm _ _).1 (Z3g.lt_trans ((Z3g.symm _ _).2 e) (HS.out.lt h3 h1))
         · obtain rfl:k=m:=by omega
           exact e
        case measure=>simp [intOf];omega
  · obtain rfl:i=j:=by omega
    have HB:=hid hB;clear hB;(go_wp2_with fail);go_ret2;refine ⟨?_,HB0.out.trans (HB.out.mono (by omega))⟩;rw [Z3i hj HLO.out HHI.out,(Z4v HLO.out HHI.out).2.2];rfl
theorem Z9e:(Tryz.prog.info? 158).map (fun i=>(i.zero,i.size,i.bytes))=some (some (.string ⟨#[]⟩),1,16):=by kernel_rfl
theorem Z1g.one (x:Z1g) : ∀u∈Z1g.cells x,u.oneCell'=true:=by intro u hu;simp [Z1g.cells] at hu;rcases hu with rfl<;>rfl
theorem Z1g.oneAll (l:List Z1g) : ∀u∈l.flatMap Z1g.cells,u.oneCell'=true:=by intro u hu;obtain ⟨x,_,hx⟩:=List.mem_flatMap.1 hu;exact Z1g.one x u hx
def Z5a (w:World) (b:Nat) (sn:Bool) (A:Option Addr) (l:List Z1g) (e:Ending) (w':World):Prop:=
 e = .returned (.tuple #[])∧∃A' c',Z2r w' b false A' c' l∧Fr (· = b) w w'∧Z1p w sn A false A'
theorem Zc1 (b c:Nat) (A:Option Addr) (l:List Z1g) (w:World) (hS:Z2r w b false A c l) :
 Calls Tryz.prog 133 #[.pointer (some ⟨b,0,none⟩)] w (Z5a w b false A l):=by
 have h1:=hS.cell1;have HS:=hid hS;clear hS;go_enter Tryz.func133,Tryz.ntmps133;go_wp2;go_end0;exact ⟨rfl,A,c,HS.out,Fr.refl _ _,.inl ⟨rfl,rfl⟩⟩
theorem Zad (b c:Nat) (A:Option Addr) (l:List Z1g) (w:World) (hS:Z2r w b true A c l) (hl:(l.length:Int)≤1000000000) :
 Calls Tryz.prog 133 #[.pointer (some ⟨b,0,none⟩)] w (Z5a w b true A l):=by
 obtain ⟨i0,hi,hz0,hz1,hz2⟩:=info_parts Z9e;have h0:=hS.cell0;have h1:=hS.cell1;have hb:=hS.lt;have f0:=hS.blk.frozen 0;have f1:=hS.blk.frozen 1;have hrd:=hS.rd Z1g.cells_length;have HB:=hid hS.blk;have HRD:=hid hrd;clear hS hrd;have e1:IntKind.i64.wrap ((l.length:Int)+1)=(l.length:Int)+1:=Zof _ (by omega)
 have hmk : ∀W:World,(Instr.makeSlice 212 (.int .i64 0) (.int .i64 ((l.length:Int)+1))).run Tryz.prog W = .ok (.slice (some ⟨W.heap.size,0,none⟩) 0 (l.length+1)) (W.alloc (.cells (madeCells (Value.cells (.string ⟨#[]⟩)) ((l.length+1))) 158)):=fun W=>by
  have h:=run_make (P:=Tryz.prog) W 212 158 i0 _ Tryz.underlying212 hi hz0 .i64 .i64 0 ((l.length:Int)+1) (by omega) (by omega) (by rw [hz2];omega) (by omega);rw [hz1] at h;simpa [show ((l.length:Int)+1).toNat=l.length+1 by omega] using h
 go_enter Tryz.func133,Tryz.ntmps133;(go_wp2_with fail);refine Z06 (fun w9=>Below w.heap.size w w9) [(0,0),(1,0),(2,0),(3,0),(4,1),(5,0),(6,0),(8,0),(9,0),(10,0),(11,1),(7,2),(12,2),(13,0),(14,0),(15,2)] (by kernel_rfl) (by kernel_rfl) (fun KK hKK=>?_);simp only [Z05,Zo9,Zo2,Zo7,Zo5,Zo6,Zoc];(repeat ((first | (refine Z0a ?_ (Or.inl ⟨by rfl,fun w9=>?_⟩) ?_;rotate_left 1;go_simp;with_reducible rfl) | (refine Z09 ?_ (((Znz _ _).drew)) (Or.inl ⟨by rfl,fun w9 hw9=>?_⟩) ?_;rotate_left 1;obtain ⟨hc9,hf9⟩:=Z0q hw9;go_simp;with_reducible rfl) | refine Z0a undef (Or.inr ⟨by rfl,rfl⟩) ?_ | refine Z09 undef (((Znz _ _).drew)) (Or.inr ⟨by rfl,rfl⟩) ?_);go_frame));refine Z29 (fun K9 hK9=>?_);go_simp;refine hK9 _ _ (((Znz _ _).drew).alloc (Zo0 _) _) ?_;clear hK9 K9;refine Z1n (by kernel_rfl) (fun K9 hK9=>?_)
 refine Z0i _ (by rfl) _ _ _ (by rfl) 158 i0 _ 1 16 Tryz.underlying212 hi hz0 hz1 hz2 rfl (by omega) _ 0 [] (by rfl) (World.ownsRow_made _ _ _ (Nat.zero_le _) (by unfold maxLen;omega) (by simp [madeCells])) A l.length c (l.flatMap Z1g.cells) (by rfl) (Z0t Z1g.cells_length l)
  ((HRD.out.drew.alloc _).news Z1g.cells_length (by omega)) (Z1g.oneAll l) (by unfold maxLen;omega) (by omega) ?_
 intro v2 w2 hown hgr hnil hat;refine hK9 _ _ ?_;clear hK9 K9;rw [Zov,Zom] at hown;obtain ⟨A',c',rfl,_,_,hz⟩:=Z0z hown;have HB1:=(HB.out.drew.alloc (.cells (madeCells (Value.cells (.string ⟨#[]⟩)) ((l.length+1))) 158)).grown hgr (by simp [Value.ownBlock];omega);have c0:=(HB1.cell 0).trans rfl;have c1:=(HB1.cell 1).trans rfl;have z0:=HB1.frozen 0;have z1:=HB1.frozen 1;have HB2:=hid HB1;clear HB1;(repeat ((first | (refine Z0a ?_ (Or.inl ⟨by rfl,fun w9=>?_⟩) ?_;rotate_left 1;go_simp;with_reducible rfl) | (refine Z09 ?_ (((Znz _ _).drew).alloc (Zo0 _) _) (Or.inl ⟨by rfl,fun w9 hw9=>?_⟩) ?_;rotate_left 1;obtain ⟨hc9,hf9⟩:=Z0q hw9;go_simp;with_reducible rfl) | refine Z0a undef (Or.inr ⟨by rfl,rfl⟩) ?_ | refine Z09 undef (((Znz _ _).drew).alloc (Zo0 _) _) (Or.inr ⟨by rfl,rfl⟩) ?_);go_frame));refine Z1n (by kernel_rfl) (fun K9 hK9=>?_);go_simp;refine hK9 _ _ ?_;clear hK9 K9;refine Z12 ?_;simp only [Z00];refine hKK _ _ ?_;clear hKK KK;go_wp2;go_end0
 have hb2:(Value.slice A' l.length c').ownBlock=some w.heap.size∨(Value.slice A' l.length c').ownBlock=some (w.heap.size+1):=by
  rcases hat with h | h
  · left;rw [h];rfl
  · right;rw [h];simp
 have hA : ∃g,w.heap.size≤g∧A'=some ⟨g,0,none⟩:=by
  rcases A' with _ | a
  · exfalso;simp [Value.ownBlock] at hb2
  · obtain ⟨g,rfl⟩:=hz a rfl
    refine ⟨g,?_,rfl⟩;simp [Value.ownBlock] at hb2;omega
 obtain ⟨g,hg,rfl⟩:=hA;have HB1:=HB2.out;have HF:Fr (· = b) w w2:=((Fr.refl (· = b) w).drew.alloc _).grown hgr (fun k e=>by simp [Value.ownBlock] at e;right;omega);refine ⟨rfl,some ⟨g,0,none⟩,c',⟨(HB1.set_ 0 _).set_ 1 _,?_⟩,(HF.setCell (p:=⟨b,0,none⟩) (.inl rfl) _).setCell (p:=⟨b,1,none⟩) (.inl rfl) _,.inr ⟨rfl,g,hg,rfl⟩⟩;(have hne:(Value.slice (some ⟨g,0,none⟩) l.length c').ownBlock≠some b:=by simp [Value.ownBlock];omega);exact ownsRow_setCell_other (a:=⟨b,1,none⟩) (ownsRow_setCell_other (a:=⟨b,0,none⟩) hown hne _) hne _
theorem Zia (b c:Nat) (sn:Bool) (A:Option Addr) (l:List Z1g) (w:World) (hS:Z2r w b sn A c l) (hl:(l.length:Int)≤1000000000) :
 Calls Tryz.prog 133 #[.pointer (some ⟨b,0,none⟩)] w (Z5a w b sn A l):=by
 cases sn
 · exact Zc1 b c A l w hS
 · exact Zad b c A l w hS hl
end
end Go.Proofs.YtldndkngpdfpfaaGreat
