/-
  Texts put together: BkTests, BkCopyP, BkSame2, BkSame3, BkNames, BkNames2, BkTests2.
-/
import Derived.Test.YtfidcfjcmlgkbaaGreatPMe
namespace Go.Proofs.YtfidcfjcmlgkbaaGreat
open Lib (hid)
set_option maxRecDepth 100000
set_option maxHeartbeats 32000000
set_option linter.unusedSimpArgs false
section
open Go.RowKit
def SmT (l:List Z1r):Prop:=l.length≤1000∧∀t∈l,t.list.length≤1000
def Zek {α:Type}(r:RepT α) (l:List α) (w:World) (en:Ending) (w':World):Prop:=
 ∃A c,en = .returned (.slice A l.length c)∧RowR r (NewD w.heap.size w') w' A c l∧AIn A (NewD w.heap.size w')∧Below w.heap.size w w'
theorem NewD.up {B B':Nat}{w w':World}(hB:B'≤B) (hw:w.heap.size≤w'.heap.size):∀k,NewD B w k→NewD B' w' k:=fun k hk=>⟨by have:=hk.1;omega,by have:=hk.2;omega⟩
theorem Zkz {D:Nat→Prop}{w:World}{y:Z1r}{A:Option Addr}{c:Nat}(h:RowR Z24 D w A c y.list):Z03.rep D w y [.int .i64 y.rel,.string y.var,.int .i64 y.sym.kind,.string y.sym.text,.int .i64 y.sym.n,.slice A y.list.length c]:=⟨A,c,rfl,h⟩
def Z27 {α:Type}(r:RepT α) (e:TypeId) (w:World) (l:List α) (v:Value) (wr:World):Prop:=
 ∃C A c,v = .slice A l.length c∧OwnC r e C wr v l∧(∀j,C j→NewD w.heap.size wr j)∧AIn A (NewD w.heap.size wr)∧Below w.heap.size w wr
theorem Z27.nil {α:Type}(r:RepT α) (e:TypeId) (w:World){wr:World}(hb:Below w.heap.size w wr):Z27 r e w [] (.slice none 0 0) wr:=
 ⟨fun _=>False,none,0,rfl,OwnC.nil _ _ _ _,fun _ h=>h.elim,AIn.none_ _,hb⟩
theorem Z27.done {α:Type}{r:RepT α}{e:TypeId}{w wr:World}{l:List α}{v:Value}(h:Z27 r e w l v wr):Zek r l w (.returned v) wr:=by
 obtain ⟨C,A,c,rfl,h1,h2,h3,h4⟩:=h;exact ⟨A,c,rfl,h1.row h2 h3,h3,h4⟩
theorem Z27.snoc {α:Type}{r:RepT α}{e:TypeId}{w wr W W':World}{C:Nat→Prop}{l:List α}{y:α}{A:Option Addr}{c:Nat}{v':Value}(h2 :∀j,C j→NewD w.heap.size wr j) (h3:AIn A (NewD w.heap.size wr)) (h4:Below w.heap.size w wr)
 (hb:Below wr.heap.size wr W) (ha:Z6u r e (Plus C wr W) W (.slice A l.length c) (l ++ [y]) v' W'):Z27 r e w (l ++ [y]) v' W':=by
 obtain ⟨g1,g2,g3⟩:=ha;have hz:=hb.size;have hz2:=g2.size;have hz4:=h4.size;obtain ⟨A',c',rfl,_,_,hA'⟩:=g1.form;refine ⟨Plus C wr W,A',c',rfl,g1,fun j hj=>?_,fun a ha=>⟨?_,(hA' a ha).1⟩,(h4.trans (hb.mono hz4)).grown g2 (by omega) (fun k hk=>?_)⟩
 · rcases hj with hj|hj
   · have:=h2 j hj;exact ⟨this.1,by have:=this.2;omega⟩
   · exact ⟨by omega,by omega⟩
 · subst ha
   rcases g3 with g3|g3
   · rcases A with _|b
     · simp [Value.ownBlock] at g3
     · simp only [Value.ownBlock,Option.some.injEq] at g3
       have:=(h3 b rfl).1;omega
   · simp only [Value.ownBlock,Option.some.injEq] at g3
     omega
 · rcases A with _|b
   · simp [Value.ownBlock] at hk
   · simp only [Value.ownBlock,Option.some.injEq] at hk
     have:=(h3 b rfl).1;omega
theorem Z2b {α:Type}{l:List α}{k:Nat}(hk:k<l.length):l.take k ++ [l[k]]=l.take (k+1):=by rw [Zor,Znq hk];rfl
theorem Z20 {α:Type}{l:List α}{k:Nat}(hk:k≤l.length):(l.take k).length=k:=by simp;omega
def SmC:Nat→Z0a→Prop
 | 0,_=>True
 | n+1,c=>SmT c.attr∧SmT c.value∧c.conds.length≤1000∧∀x∈c.conds,SmC n x
def Zmv (n:Nat) (c:Z0a) (w:World) (en:Ending) (w':World):Prop:=
 ∃A1 c1 A2 c2 A3 c3,en = .returned (.agg #[.int .i64 c.kind,.bool c.goal,.string c.id,.slice A1 c.attr.length c1,.slice A2 c.value.length c2,.bool c.acc,.slice A3 c.conds.length c3])∧RowR Z03 (NewD w.heap.size w') w' A1 c1 c.attr∧RowR Z03 (NewD w.heap.size w') w' A2 c2 c.value∧RowR (Z06 n) (NewD w.heap.size w') w' A3 c3 c.conds∧Below w.heap.size w w'
def Zej (f n:Nat):Prop:=∀(c:Z0a) (A1:Option Addr) (c1:Nat) (A2:Option Addr) (c2:Nat) (A3:Option Addr) (c3:Nat) (D:Nat→Prop) (w:World),
 RowR Z03 D w A1 c1 c.attr→RowR Z03 D w A2 c2 c.value→RowR (Z06 n) D w A3 c3 c.conds→SmC (n+1) c→Calls Tryz.prog f #[.agg #[.int .i64 c.kind,.bool c.goal,.string c.id,.slice A1 c.attr.length c1,.slice A2 c.value.length c2,.bool c.acc,.slice A3 c.conds.length c3]] w (Zmv n c w)
theorem Zky {n:Nat}{D:Nat→Prop}{w:World}{y:Z0a}{Ay1 Ay2 Ay3:Option Addr}{cy1 cy2 cy3:Nat}(h1:RowR Z03 D w Ay1 cy1 y.attr) (h2:RowR Z03 D w Ay2 cy2 y.value) (h3:RowR (Z06 n) D w Ay3 cy3 y.conds) :
 (Z06 (n+1)).rep D w y [.int .i64 y.kind,.bool y.goal,.string y.id,.slice Ay1 y.attr.length cy1,.slice Ay2 y.value.length cy2,.bool y.acc,.slice Ay3 y.conds.length cy3]:=⟨Ay1,cy1,Ay2,cy2,Ay3,cy3,rfl,h1,h2,h3⟩
theorem row0 {D:Nat→Prop}{w:World}{A:Option Addr}{c:Nat}{l:List Z0a}(h:RowR (Z06 0) D w A c l):l = []:=by
 cases l with
 | nil=>rfl
 | cons x l=>
   obtain ⟨_,_,_,_,_,_,hr,_⟩:=h.at_ (k:=0) (by simp);exact hr.elim
theorem RowR.newD {α:Type}{r:RepT α}{B B':Nat}{w w':World}{A:Option Addr}{c:Nat}{l:List α}(h:RowR r (NewD B w) w A c l) (hb:Below w.heap.size w w') (hB:B'≤B):RowR r (NewD B' w') w' A c l:=
 h.keep hb.size (fun j hj hl=>⟨NewD.up hB hb.size j hj,hb.block j hl⟩)
theorem Z1g (b:Nat):∀(vs:List Value) (o:Nat) (w:World) (j:Nat),j≠b→(w.setCells b o vs).heap[j]? = w.heap[j]?
 | [],_,_,_,_=>rfl
 | v :: r,o,w,j,h=>by
   rw [World.setCells,Z1g b r (o+1) _ j h];exact Below.heap_setCell _ _ _ _ h
end
section
open Go.RowKit Go.Shelf
theorem Zaj {D D':Nat→Prop}{A B:Option Addr}{c d:Nat}(l:List Z1r) (w:World) (hl:RowR Z03 D w A c l) (hm:RowR Z03 D' w B d l) :
 Calls Tryz.prog 80 #[.slice A l.length c,.slice B l.length d] w fun e w'=>e = .returned (.bool true)∧Below w.heap.size w w':=by
 have HL:=hid hl;have HM:=hid hm;have hlc:=hl.cap;clear hl hm;go_enter Tryz.func80,Tryz.ntmps80;go_wp2_with fail
 go_loopw [5] (fun s wr=>∃i:Nat,s = .int .i64 i∧i≤l.length∧Below w.heap.size w wr) (fun s wr=>l.length - (intOf s).toNat)
 case atStart=>exact ⟨0,rfl,Nat.zero_le _,Znk _ _⟩
 case round=>
  obtain ⟨i,rfl,hi,hB⟩:=hrel;have HB:=hid hB;clear hB;by_cases hlt:i<l.length
  · obtain ⟨y,hy⟩:∃y,y=l[i]:=⟨_,rfl⟩
    (have b1:(0:Int)≤(i:Int):=by omega);(have b2:(i:Int)<(l.length:Int):=by omega);obtain ⟨g,off,A3,c3,rfl,_,hgs,q0,q1,q2,q3,q4,q5,h3⟩:=Z2w (HL.out.new_ HB.out) hlt;obtain ⟨g2,off2,B3,d3,rfl,_,hgs2,p0,p1,p2,p3,p4,p5,k3⟩:=Z2w (HM.out.new_ HB.out) hlt;rw [←hy] at q0 q1 q2 q3 q4 q5 p0 p1 p2 p3 p4 p5 h3 k3;have H3:=hid h3;have K3:=hid k3;have hbe:=fun W=>Zf3 y.sym W;clear hy h3 k3;(go_wp2_with fail);refine Z0c (fun w9=>Below wr.heap.size wr w9) [(0,0),(1,0),(2,0),(3,0),(4,1),(5,0),(6,0),(7,0),(8,0),(9,1),(10,0),(11,0),(12,0),(13,0),(14,0),(15,0),(16,1),(17,0),(18,0),(19,0),(20,0),(21,1),(22,0),(23,0),(24,0),(25,0),(26,0),(27,0),(28,0),(29,1),(30,0),(31,0),(32,0),(33,0),(34,1),(35,0),(36,0),(37,0),(38,0),(39,0),(40,0),(41,0),(42,1),(43,0),(44,0),(45,0),(46,0),(47,1),(48,2),(49,0),(50,0)] (by kernel_rfl) (by kernel_rfl) (fun KK hKK=>?_);simp only [Z0w,Znz,Znt,Znv,Znr,Zns,Zo1];(repeat ((first|(refine Z0m ?_ (Or.inl ⟨by rfl,fun w9=>?_⟩) ?_;rotate_left 1;go_simp;with_reducible rfl)|(refine Z0k ?_ (((Znk _ _).drew)) (Or.inl ⟨by rfl,fun w9 hw9=>?_⟩) ?_;rotate_left 1;obtain ⟨hc9,hf9⟩:=Z1e hw9;go_simp;with_reducible rfl)|refine Z0m undef (Or.inr ⟨by rfl,rfl⟩) ?_|refine Z0k undef (((Znk _ _).drew)) (Or.inr ⟨by rfl,rfl⟩) ?_);go_frame));refine Z1y (by kernel_rfl) (fun K9 hK9=>?_);go_simp;refine (Z9l y.list _ (H3.out.new_ ((Znk _ _).drew)) (K3.out.new_ ((Znk _ _).drew))).mono ?_;rintro e w5 ⟨rfl,hb5⟩;have HB2:=hid ((HB.out.drew).trans (hb5.mono HB.out.size));clear hb5;refine hK9 _ _ ?_;clear hK9 K9;(repeat ((first|(refine Z0m ?_ (Or.inl ⟨by rfl,fun w9=>?_⟩) ?_;rotate_left 1;go_simp;with_reducible rfl)|(refine Z0k ?_ (((Znk _ _).drew)) (Or.inl ⟨by rfl,fun w9 hw9=>?_⟩) ?_;rotate_left 1;obtain ⟨hc9,hf9⟩:=Z1e hw9;go_simp;with_reducible rfl)|refine Z0m undef (Or.inr ⟨by rfl,rfl⟩) ?_|refine Z0k undef (((Znk _ _).drew)) (Or.inr ⟨by rfl,rfl⟩) ?_);go_frame));refine Z16 ?_;simp only [Z04];refine hKK _ _ ?_;clear hKK KK;clear q0 q1 q2 q3 q4 q5 p0 p1 p2 p3 p4 p5;(go_wp2_with fail);go_roundw
    case rel=>exact ⟨i+1,by go_num,by omega,HB2.out⟩
    case measure=>simp [intOf]<;>omega
  · obtain rfl:i=l.length:=by omega
    (go_wp2_with fail);go_ret;exact ⟨rfl,HB.out⟩
abbrev Z6v (n:Nat):Prop:=∀(D D':Nat→Prop) (A B:Option Addr) (c d:Nat) (l:List Z0a) (w:World),RowR (Z06 n) D w A c l→RowR (Z06 n) D' w B d l→
 Calls Tryz.prog 74 #[.slice A l.length c,.slice B l.length d] w fun e w'=>e = .returned (.bool true)∧Below w.heap.size w w'
theorem Zby (n:Nat) (ih:Z6v n){D D':Nat→Prop}(y:Z0a) (A1:Option Addr) (a1:Nat) (A2:Option Addr) (a2:Nat) (A3:Option Addr) (a3:Nat) (B1:Option Addr) (b1:Nat) (B2:Option Addr) (b2:Nat) (B3:Option Addr) (b3:Nat) (w:World)
 (g1:RowR Z03 D w A1 a1 y.attr) (g2:RowR Z03 D w A2 a2 y.value) (g3:RowR (Z06 n) D w A3 a3 y.conds) (k1:RowR Z03 D' w B1 b1 y.attr) (k2:RowR Z03 D' w B2 b2 y.value) (k3:RowR (Z06 n) D' w B3 b3 y.conds) :
 Calls Tryz.prog 33 #[.agg #[.int .i64 y.kind,.bool y.goal,.string y.id,.slice A1 y.attr.length a1,.slice A2 y.value.length a2,.bool y.acc,.slice A3 y.conds.length a3],.agg #[.int .i64 y.kind,.bool y.goal,.string y.id,.slice B1 y.attr.length b1,.slice B2 y.value.length b2,.bool y.acc,.slice B3 y.conds.length b3]] w fun e w'=>e = .returned (.bool true)∧Below w.heap.size w w':=by
 have G1:=hid g1;have G2:=hid g2;have G3:=hid g3;have K1:=hid k1;have K2:=hid k2;have K3:=hid k3;have IH:=hid ih;clear g1 g2 g3 k1 k2 k3 ih;go_enter Tryz.func33,Tryz.ntmps33;(go_upto_region 1 with fail);obtain ⟨w1,hw1⟩:∃w1,w1=((w.alloc (.cells #[.int .i64 y.kind,.bool y.goal,.string y.id,.slice A1 y.attr.length a1,.slice A2 y.value.length a2,.bool y.acc,.slice A3 y.conds.length a3] 59)).alloc (.cells #[.int .i64 y.kind,.bool y.goal,.string y.id,.slice B1 y.attr.length b1,.slice B2 y.value.length b2,.bool y.acc,.slice B3 y.conds.length b3] 59)):=⟨_,rfl⟩;rw [←hw1];have HB:=hid (show Below w.heap.size w w1 by rw [hw1];exact (by repeat (first|exact Znk _ _|refine Below.drew ?_|refine Below.al ?_ _|refine Below.sc ?_ _)));have Ka:=hid (show Blk w1 (w.heap.size) 59 #[.int .i64 y.kind,.bool y.goal,.string y.id,.slice A1 y.attr.length a1,.slice A2 y.value.length a2,.bool y.acc,.slice A3 y.conds.length a3] by rw [hw1];exact ((Blk.new w 59 #[.int .i64 y.kind,.bool y.goal,.string y.id,.slice A1 y.attr.length a1,.slice A2 y.value.length a2,.bool y.acc,.slice A3 y.conds.length a3]).alloc (.cells #[.int .i64 y.kind,.bool y.goal,.string y.id,.slice B1 y.attr.length b1,.slice B2 y.value.length b2,.bool y.acc,.slice B3 y.conds.length b3] 59)));have Kb:=hid (show Blk w1 (w.heap.size+1) 59 #[.int .i64 y.kind,.bool y.goal,.string y.id,.slice B1 y.attr.length b1,.slice B2 y.value.length b2,.bool y.acc,.slice B3 y.conds.length b3] by rw [hw1];have hh:=(Blk.new (w.alloc (.cells #[.int .i64 y.kind,.bool y.goal,.string y.id,.slice A1 y.attr.length a1,.slice A2 y.value.length a2,.bool y.acc,.slice A3 y.conds.length a3] 59)) 59 #[.int .i64 y.kind,.bool y.goal,.string y.id,.slice B1 y.attr.length b1,.slice B2 y.value.length b2,.bool y.acc,.slice B3 y.conds.length b3]);simp only [Zoj] at hh;exact hh);clear hw1;obtain ⟨a0,a1,a2,a3,a4,a5,a6⟩:=Ka.out.c7;have az:=Ka.out.lt;obtain ⟨b0,b1,b2,b3,b4,b5,b6⟩:=Kb.out.c7;have bz:=Kb.out.lt;(go_wp2_with fail);(with_reducible refine (Zaj y.attr _ (G1.out.new_ (by (repeat (first|exact Znk _ _|exact HB.out|refine Below.drew ?_|refine Below.al ?_ _|refine Below.sc ?_ _)))) (K1.out.new_ (by (repeat (first|exact Znk _ _|exact HB.out|refine Below.drew ?_|refine Below.al ?_ _|refine Below.sc ?_ _))))).mono ?_);rintro e w2 ⟨rfl,hb⟩;have hbs:=Below.trans (show Below w1.heap.size w1 _ from (by (repeat (first|exact Znk _ _|refine Below.drew ?_|refine Below.al ?_ _|refine Below.sc ?_ _)))) (hb.mono (by simp<;>omega));have Ka:=hid (Ka.out.new_ hbs);have Kb:=hid (Kb.out.new_ hbs);have HB:=hid (HB.out.trans (hbs.mono HB.out.size));have hsz2:=hbs.size;clear a0 a1 a2 a3 a4 a5 a6 az b0 b1 b2 b3 b4 b5 b6 bz hb hbs;obtain ⟨a0,a1,a2,a3,a4,a5,a6⟩:=Ka.out.c7;have az:=Ka.out.lt;obtain ⟨b0,b1,b2,b3,b4,b5,b6⟩:=Kb.out.c7;have bz:=Kb.out.lt;(go_wp2_with fail);(with_reducible refine (Zaj y.value _ (G2.out.new_ (by (repeat (first|exact Znk _ _|exact HB.out|refine Below.drew ?_|refine Below.al ?_ _|refine Below.sc ?_ _)))) (K2.out.new_ (by (repeat (first|exact Znk _ _|exact HB.out|refine Below.drew ?_|refine Below.al ?_ _|refine Below.sc ?_ _))))).mono ?_);rintro e w3 ⟨rfl,hb⟩;have hbs:=Below.trans (show Below w2.heap.size w2 _ from (by (repeat (first|exact Znk _ _|refine Below.drew ?_|refine Below.al ?_ _|refine Below.sc ?_ _)))) (hb.mono (by simp<;>omega));have Ka:=hid (Ka.out.new_ hbs);have Kb:=hid (Kb.out.new_ hbs);have HB:=hid (HB.out.trans (hbs.mono HB.out.size));have hsz3:=hbs.size
 clear a0 a1 a2 a3 a4 a5 a6 az b0 b1 b2 b3 b4 b5 b6 bz hb hbs;obtain ⟨a0,a1,a2,a3,a4,a5,a6⟩:=Ka.out.c7;have az:=Ka.out.lt;obtain ⟨b0,b1,b2,b3,b4,b5,b6⟩:=Kb.out.c7;have bz:=Kb.out.lt;(go_wp2_with fail);(with_reducible refine (IH.out _ _ _ _ _ _ y.conds _ (G3.out.new_ (by (repeat (first|exact Znk _ _|exact HB.out|refine Below.drew ?_|refine Below.al ?_ _|refine Below.sc ?_ _)))) (K3.out.new_ (by (repeat (first|exact Znk _ _|exact HB.out|refine Below.drew ?_|refine Below.al ?_ _|refine Below.sc ?_ _))))).mono ?_);rintro e w4 ⟨rfl,hb⟩;have hbs:=Below.trans (show Below w3.heap.size w3 _ from (by (repeat (first|exact Znk _ _|refine Below.drew ?_|refine Below.al ?_ _|refine Below.sc ?_ _)))) (hb.mono (by simp<;>omega));have Ka:=hid (Ka.out.new_ hbs);have Kb:=hid (Kb.out.new_ hbs);have HB:=hid (HB.out.trans (hbs.mono HB.out.size));have hsz4:=hbs.size;clear a0 a1 a2 a3 a4 a5 a6 az b0 b1 b2 b3 b4 b5 b6 bz hb hbs;obtain ⟨a0,a1,a2,a3,a4,a5,a6⟩:=Ka.out.c7;have az:=Ka.out.lt;obtain ⟨b0,b1,b2,b3,b4,b5,b6⟩:=Kb.out.c7;have bz:=Kb.out.lt;(go_wp2_with fail);go_ret;exact ⟨rfl,by (repeat (first|exact Znk _ _|exact HB.out|refine Below.drew ?_|refine Below.al ?_ _|refine Below.sc ?_ _))⟩
theorem Z7b {D:Nat→Prop}{w:World}{A:Option Addr}{c:Nat}{l:List Z0a}(h:RowR (Z06 0) D w A c l):l = []:=by
 cases l with
 | nil=>rfl
 | cons y l=>
   obtain ⟨b,off,cs,_,_,_,hr,_⟩:=h.at_ (k:=0) (by simp);exact hr.elim
theorem Zha {A B:Option Addr}{c d:Nat}(w:World) :
 Calls Tryz.prog 74 #[.slice A 0 c,.slice B 0 d] w fun e w'=>e = .returned (.bool true)∧Below w.heap.size w w':=by
 go_enter Tryz.func74,Tryz.ntmps74;go_wp2_with fail
 go_loopw [5] (fun s wr=>s = .int .i64 0∧wr=w) (fun s wr=>0)
 case atStart=>exact ⟨rfl,rfl⟩
 case round=>
  obtain ⟨rfl,rfl⟩:=hrel;(go_wp2_with fail);go_ret;exact ⟨rfl,Znk _ _⟩
theorem Z90 (n:Nat) (ih:Z6v n):Z6v (n+1):=by
 intro D D' A B c d l w hl hm;have HL:=hid hl;have HM:=hid hm;have IH:=hid ih;have hlc:=hl.cap;clear hl hm ih;go_enter Tryz.func74,Tryz.ntmps74;go_wp2_with fail
 go_loopw [5] (fun s wr=>∃i:Nat,s = .int .i64 i∧i≤l.length∧Below w.heap.size w wr) (fun s wr=>l.length - (intOf s).toNat)
 case atStart=>exact ⟨0,rfl,Nat.zero_le _,Znk _ _⟩
 case round=>
  obtain ⟨i,rfl,hi,hB⟩:=hrel;have HB:=hid hB;clear hB;by_cases hlt:i<l.length
  · obtain ⟨y,hy⟩:∃y,y=l[i]:=⟨_,rfl⟩
    (have b1:(0:Int)≤(i:Int):=by omega);(have b2:(i:Int)<(l.length:Int):=by omega);obtain ⟨g,off,A1,a1,A2,a2,A3,a3,rfl,_,hgs,q0,q1,q2,q3,q4,q5,q6,h1,h2,h3⟩:=Z1j (HL.out.new_ HB.out) hlt;obtain ⟨g2,off2,B1,b1_,B2,b2_,B3,b3_,rfl,_,hgs2,p0,p1,p2,p3,p4,p5,p6,k1,k2,k3⟩:=Z1j (HM.out.new_ HB.out) hlt;rw [←hy] at q0 q1 q2 q3 q4 q5 q6 p0 p1 p2 p3 p4 p5 p6 h1 h2 h3 k1 k2 k3;have H1:=hid h1;have H2:=hid h2;have H3:=hid h3;have L1:=hid k1;have L2:=hid k2;have L3:=hid k3;clear hy h1 h2 h3 k1 k2 k3;(go_wp2_with fail);refine Z0c (fun w9=>Below wr.heap.size wr w9) [(0,0),(1,0),(2,0),(3,1),(4,0),(5,0),(6,0),(7,1),(8,2),(9,0)] (by kernel_rfl) (by kernel_rfl) (fun KK hKK=>?_);simp only [Z0w,Znz,Znt,Znv,Znr,Zns,Zo1];(repeat ((first|(refine Z0m ?_ (Or.inl ⟨by rfl,fun w9=>?_⟩) ?_;rotate_left 1;go_simp;with_reducible rfl)|(refine Z0k ?_ (((Znk _ _).drew)) (Or.inl ⟨by rfl,fun w9 hw9=>?_⟩) ?_;rotate_left 1;obtain ⟨hc9,hf9⟩:=Z1e hw9;go_simp;with_reducible rfl)|refine Z0m undef (Or.inr ⟨by rfl,rfl⟩) ?_|refine Z0k undef (((Znk _ _).drew)) (Or.inr ⟨by rfl,rfl⟩) ?_);go_frame));refine Z1y (by kernel_rfl) (fun K9 hK9=>?_);go_simp;refine (Zby n IH.out y A1 a1 A2 a2 A3 a3 B1 b1_ B2 b2_ B3 b3_ _ (H1.out.new_ ((Znk _ _).drew)) (H2.out.new_ ((Znk _ _).drew)) (H3.out.new_ ((Znk _ _).drew)) (L1.out.new_ ((Znk _ _).drew)) (L2.out.new_ ((Znk _ _).drew)) (L3.out.new_ ((Znk _ _).drew))).mono ?_;rintro e w5 ⟨rfl,hb5⟩;have HB2:=hid ((HB.out.drew).trans (hb5.mono HB.out.size));clear hb5;refine hK9 _ _ ?_;clear hK9 K9;(repeat ((first|(refine Z0m ?_ (Or.inl ⟨by rfl,fun w9=>?_⟩) ?_;rotate_left 1;go_simp;with_reducible rfl)|(refine Z0k ?_ (((Znk _ _).drew)) (Or.inl ⟨by rfl,fun w9 hw9=>?_⟩) ?_;rotate_left 1;obtain ⟨hc9,hf9⟩:=Z1e hw9;go_simp;with_reducible rfl)|refine Z0m undef (Or.inr ⟨by rfl,rfl⟩) ?_|refine Z0k undef (((Znk _ _).drew)) (Or.inr ⟨by rfl,rfl⟩) ?_);go_frame));refine Z16 ?_;simp only [Z04];refine hKK _ _ ?_;clear hKK KK;clear q0 q1 q2 q3 q4 q5 q6 p0 p1 p2 p3 p4 p5 p6;(go_wp2_with fail);go_roundw
    case rel=>exact ⟨i+1,by go_num,by omega,HB2.out⟩
    case measure=>simp [intOf]<;>omega
  · obtain rfl:i=l.length:=by omega
    (go_wp2_with fail);go_ret;exact ⟨rfl,HB.out⟩
theorem Z7p :∀n:Nat,Z6v n
 | 0=>by
   intro D D' A B c d l w hl hm;obtain rfl:=Z7b hl;exact Zha w
 | n+1=>Z90 n (Z7p n)
theorem Zg1 (n:Nat){D D':Nat→Prop}{A B:Option Addr}{c d:Nat}(l:List Z4y) (w:World) (hl:RowR (Z14 n) D w A c l) (hm:RowR (Z14 n) D' w B d l) :
 Calls Tryz.prog 72 #[.slice A l.length c,.slice B l.length d] w fun e w'=>e = .returned (.bool true)∧Below w.heap.size w w':=by
 have HL:=hid hl;have HM:=hid hm;have hlc:=hl.cap;clear hl hm;go_enter Tryz.func72,Tryz.ntmps72;go_wp2_with fail
 go_loopw [5] (fun s wr=>∃i:Nat,s = .int .i64 i∧i≤l.length∧Below w.heap.size w wr) (fun s wr=>l.length - (intOf s).toNat)
 case atStart=>exact ⟨0,rfl,Nat.zero_le _,Znk _ _⟩
 case round=>
  obtain ⟨i,rfl,hi,hB⟩:=hrel;have HB:=hid hB;clear hB;by_cases hlt:i<l.length
  · obtain ⟨y,hy⟩:∃y,y=l[i]:=⟨_,rfl⟩
    (have b1:(0:Int)≤(i:Int):=by omega);(have b2:(i:Int)<(l.length:Int):=by omega);obtain ⟨g,off,A1,a1,A2,a2,A3,a3,A4,a4,rfl,_,hgs,q0,q1,q2,q3,q4,q5,q6,q7,h1,h2,h3,h4⟩:=Zel (HL.out.new_ HB.out) hlt;obtain ⟨g2,off2,B1,b1_,B2,b2_,B3,b3_,B4,b4_,rfl,_,hgs2,p0,p1,p2,p3,p4,p5,p6,p7,k1,k2,k3,k4⟩:=Zel (HM.out.new_ HB.out) hlt;rw [←hy] at q0 q1 q2 q3 q4 q5 q6 q7 p0 p1 p2 p3 p4 p5 p6 p7 h1 h2 h3 h4 k1 k2 k3 k4;have H1:=hid h1;have H2:=hid h2;have H3:=hid h3;have H4:=hid h4;have L1:=hid k1;have L2:=hid k2;have L3:=hid k3;have L4:=hid k4;clear hy h1 h2 h3 h4 k1 k2 k3 k4;(go_wp2_with fail);refine Z0c (fun w9=>Below wr.heap.size wr w9) [(0,0),(1,0),(2,0),(3,0),(4,1),(5,0),(6,0),(7,0),(8,0),(9,1),(10,2),(11,0),(12,0),(13,0),(14,0),(15,0),(16,0),(17,1),(18,0),(19,0),(20,0),(21,0),(22,1),(23,2),(24,0),(25,0)] (by kernel_rfl) (by kernel_rfl) (fun KK hKK=>?_);simp only [Z0w,Znz,Znt,Znv,Znr,Zns,Zo1];(repeat ((first|(refine Z0m ?_ (Or.inl ⟨by rfl,fun w9=>?_⟩) ?_;rotate_left 1;go_simp;with_reducible rfl)|(refine Z0k ?_ (((Znk _ _).drew)) (Or.inl ⟨by rfl,fun w9 hw9=>?_⟩) ?_;rotate_left 1;obtain ⟨hc9,hf9⟩:=Z1e hw9;go_simp;with_reducible rfl)|refine Z0m undef (Or.inr ⟨by rfl,rfl⟩) ?_|refine Z0k undef (((Znk _ _).drew)) (Or.inr ⟨by rfl,rfl⟩) ?_);go_frame));refine Z2j (fun K9 hK9=>?_);go_simp;refine (Zby n (Z7p n) y.cond A1 a1 A2 a2 A3 a3 B1 b1_ B2 b2_ B3 b3_ _ (H1.out.new_ ((Znk _ _).drew)) (H2.out.new_ ((Znk _ _).drew)) (H3.out.new_ ((Znk _ _).drew)) (L1.out.new_ ((Znk _ _).drew)) (L2.out.new_ ((Znk _ _).drew)) (L3.out.new_ ((Znk _ _).drew))).mono ?_;rintro e w5 ⟨rfl,hb5⟩;have HBd:=hid (show Below wr.heap.size wr w5 from ((Znk wr.heap.size wr).drew).trans hb5);have q7:=(HBd.out.cell (p:=⟨g,off+i*8+7,none⟩) hgs).trans q7;have p7:=(HBd.out.cell (p:=⟨g2,off2+i*8+7,none⟩) hgs2).trans p7;have hgs5:=Znn hgs HBd.out.size;have hgs25:=Znn hgs2 HBd.out.size;clear hb5;refine hK9 _ _ HBd.out ?_;clear hK9 K9;(repeat ((first|(refine Z0m ?_ (Or.inl ⟨by rfl,fun w9=>?_⟩) ?_;rotate_left 1;go_simp;with_reducible rfl)|(refine Z0k ?_ (HBd.out) (Or.inl ⟨by rfl,fun w9 hw9=>?_⟩) ?_;rotate_left 1;obtain ⟨hc9,hf9⟩:=Z1e hw9;go_simp;with_reducible rfl)|refine Z0m undef (Or.inr ⟨by rfl,rfl⟩) ?_|refine Z0k undef (HBd.out) (Or.inr ⟨by rfl,rfl⟩) ?_);go_frame));refine Z1y (by kernel_rfl) (fun K9 hK9=>?_);go_simp;refine (Za0 y.binds _ (H4.out.new_ HBd.out) (L4.out.new_ HBd.out)).mono ?_;rintro e w6 ⟨rfl,hb6⟩;have HB2:=hid (HB.out.trans ((HBd.out.trans (hb6.mono HBd.out.size)).mono HB.out.size));clear hb6;refine hK9 _ _ ?_;clear hK9 K9;(repeat ((first|(refine Z0m ?_ (Or.inl ⟨by rfl,fun w9=>?_⟩) ?_;rotate_left 1;go_simp;with_reducible rfl)|(refine Z0k ?_ (HBd.out) (Or.inl ⟨by rfl,fun w9 hw9=>?_⟩) ?_;rotate_left 1;obtain ⟨hc9,hf9⟩:=Z1e hw9;go_simp;with_reducible rfl)|refine Z0m undef (Or.inr ⟨by rfl,rfl⟩) ?_|refine Z0k undef (HBd.out) (Or.inr ⟨by rfl,rfl⟩) ?_);go_frame));refine Z16 ?_
    simp only [Z04];refine hKK _ _ ?_;clear hKK KK;clear q0 q1 q2 q3 q4 q5 q6 q7 p0 p1 p2 p3 p4 p5 p6 p7;(go_wp2_with fail);go_roundw
    case rel=>exact ⟨i+1,by go_num,by omega,HB2.out⟩
    case measure=>simp [intOf]<;>omega
  · obtain rfl:i=l.length:=by omega
    (go_wp2_with fail);go_ret;exact ⟨rfl,HB.out⟩
end
section
open Go.RowKit Go.Shelf
attribute [local go_sem] Oper.semAt_some
def Z62 (c:Z0a):Nat→List ByteArray
 | 0=>Z1s c.attr++Z1s c.value
 | 1=>Z1s c.value
 | _=>[]
def Zgu (xs:List ByteArray) (J Jx:(Nat→Prop)→List ByteArray→World→Prop) (D E:Nat→Prop) (W X:World) (pre:List ByteArray) (e:Ending) (X':World):Prop:=
 (e = .returned (.bool true)∧(∃E',(∀k,E k→E' k)∧ItSt J D E' W pre X')∧Fr (fun k=>¬(D k∨E k)) X X')∨(e = .returned (.bool false)∧Zjf xs J Jx X')
def Z8w (n lo:Nat) (xs:List ByteArray) (J Jx:(Nat→Prop)→List ByteArray→World→Prop) (D:Nat→Prop) (W:World):Prop:=
 ∀(c:Z0a) (A1:Option Addr) (a1:Nat) (A2:Option Addr) (a2:Nat) (A3:Option Addr) (a3:Nat) (E:Nat→Prop) (pre post:List ByteArray) (X:World),xs=pre++(Z0b (n+1) c++post)→RowR Z03 D X A1 a1 c.attr→RowR Z03 D X A2 a2 c.value→RowR (Z06 n) D X A3 a3 c.conds→ItSt J D E W pre X→
  CallsIn Fence.wide 0 Tryz.prog 166 #[.agg #[.int .i64 c.kind,.bool c.goal,.string c.id,.slice A1 c.attr.length a1,.slice A2 c.value.length a2,.bool c.acc,.slice A3 c.conds.length a3],.func (.yield lo) #[] #[]] X (Zgu xs J Jx D E W X (pre++Z0b (n+1) c))
theorem Zaa (n lo:Nat) (xs:List ByteArray) (J Jx:(Nat→Prop)→List ByteArray→World→Prop) (D:Nat→Prop) (W:World) (hJ:Z5k W.heap.size J) (hY:Zap Tryz.prog lo Z85 xs J Jx)
 (ih :∀m,n=m+1→Z8w m lo xs J Jx D W):Z8w n lo xs J Jx D W:=by
 intro c A1 a1 A2 a2 A3 a3 E pre post X hx h1 h2 h3 hit;have HJ:=hid hJ;have HY:=hid hY;have IH:=hid ih;have H1:=hid h1;have H2:=hid h2;have H3:=hid h3;have hac:=h3.cap;have HX:=hid hx;have HXX:=hid hx;have HI:=hid hit;obtain ⟨rc,hrc⟩:∃rc,rc=c.conds.flatMap (Z0b n)++post:=⟨_,rfl⟩;have HRC:=hid hrc;have hbX:Below X.heap.size X (X.alloc (.cells #[.int .i64 c.kind,.bool c.goal,.string c.id,.slice A1 c.attr.length a1,.slice A2 c.value.length a2,.bool c.acc,.slice A3 c.conds.length a3] 59)):=(Znk _ _).alloc (Znl _) _;have HIX:=hid (HI.out.new_ HJ.out hbX);have KCX:=hid (show Blk (X.alloc (.cells #[.int .i64 c.kind,.bool c.goal,.string c.id,.slice A1 c.attr.length a1,.slice A2 c.value.length a2,.bool c.acc,.slice A3 c.conds.length a3] 59)) X.heap.size 59 #[.int .i64 c.kind,.bool c.goal,.string c.id,.slice A1 c.attr.length a1,.slice A2 c.value.length a2,.bool c.acc,.slice A3 c.conds.length a3] from Blk.new _ _ _);have HFX:=hid (show Fr (fun k=>¬(D k∨E k)) X (X.alloc (.cells #[.int .i64 c.kind,.bool c.goal,.string c.id,.slice A1 c.attr.length a1,.slice A2 c.value.length a2,.bool c.acc,.slice A3 c.conds.length a3] 59)) from Fr.of_new hbX);clear hJ hY ih h1 h2 h3 hx hit hrc hbX;refine callsIn_of_wp Tryz.func166 rfl trivial ?_;simp only [Tryz.ntmps166,Zoy,Zo4,Zon,Nat.reduceAdd,Nat.reduceSub,Zos,Zot,Zox,Zov,Zo3,Zog];by_cases hiD:c.id.toList = []
 · have ia:(c.id.toList == [])=true:=by simp [hiD]
   (have ib:c.id.toList.isEmpty=true:=by simp [hiD]);(have ic:decide (c.id.toList = [])=true:=by simp [hiD]);have HX0:=hid (show xs=pre++(Z62 c 0++rc) by rw [HX.out,Z0b,Z7w hiD,HRC.out];simp [Z62]);have HI0:=HIX;have HC0:=hid (show Plus E X (X.alloc (.cells #[.int .i64 c.kind,.bool c.goal,.string c.id,.slice A1 c.attr.length a1,.slice A2 c.value.length a2,.bool c.acc,.slice A3 c.conds.length a3] 59)) X.heap.size from .inr ⟨Znl _,by simp⟩);have KC0:=KCX;have HE0:=hid (show ∀k,E k→Plus E X (X.alloc (.cells #[.int .i64 c.kind,.bool c.goal,.string c.id,.slice A1 c.attr.length a1,.slice A2 c.value.length a2,.bool c.acc,.slice A3 c.conds.length a3] 59)) k from fun k hk=>.inl hk);have HF0:=HFX;clear hiD HX;(gi_wp2_with fail);refine ⟨(fun f h=>by cases h),?_⟩;gi_wp2_with fail
   gi_loopw [26] (fun s wr=>∃(j:Nat) (E1:Nat→Prop) (p1:List ByteArray),s = .int .i64 j∧j≤2∧xs=p1++(Z62 c j++rc)∧ItSt J D E1 W p1 wr∧E1 X.heap.size∧Blk wr X.heap.size 59 #[.int .i64 c.kind,.bool c.goal,.string c.id,.slice A1 c.attr.length a1,.slice A2 c.value.length a2,.bool c.acc,.slice A3 c.conds.length a3]∧(∀k,E k→E1 k)∧Fr (fun k=>¬(D k∨E k)) X wr) (fun s wr=>2 - (intOf s).toNat)
   case atStart=>exact ⟨0,_,_,rfl,by omega,HX0.out,HI0.out,HC0.out,KC0.out,HE0.out,HF0.out⟩
   case round=>
    obtain ⟨j,E1,p1,rfl,hj,hx1,hit1,hc1,hk1,he1,hf1⟩:=hrel;have HX1:=hid hx1;have HI1:=hid hit1;have HC1:=hid hc1;have KC1:=hid hk1;have HE1:=hid he1;have HF1:=hid hf1;clear hx1 hit1 hc1 hk1 he1 hf1;by_cases hlt:j<2
    · obtain ⟨lj,Al,al,hix,hlj,hrj⟩:∃(lj:List Z1r) (Al:Option Addr) (al:Nat),(∀V,(Instr.index 136 (.agg #[.slice A1 c.attr.length a1,.slice A2 c.value.length a2]) (.int .i64 (j:Int))).run Tryz.prog V = .ok (.slice Al lj.length al) V)∧RowR Z03 D X Al al lj∧Z62 c j=Z1s lj++Z62 c (j+1):=by
       match j,hlt with
       | 0,_=>exact ⟨c.attr,A1,a1,fun V=>by rfl,H1.out,rfl⟩
       | 1,_=>exact ⟨c.value,A2,a2,fun V=>by rfl,H2.out,by simp [Z62]⟩
      have HLJ:=hid hlj;have hljc:=hlj.cap;(have jj1:(0:Int)≤(j:Int):=by omega);(have jj2:(j:Int)<2:=by omega);obtain ⟨rj,hrjd⟩:∃rj,rj=Z62 c (j+1)++rc:=⟨_,rfl⟩;have HX2:=hid (show xs=p1++(Z1s (lj.drop 0)++rj) by rw [HX1.out,hrj,hrjd,List.drop_zero];simp);have HRJ:=hid hrjd;clear hlj hrj hrjd HX1;gi_wp2_with fail
      gi_loopw [31] (fun s wr=>∃(i:Nat) (E1:Nat→Prop) (p1:List ByteArray),s = .int .i64 i∧i≤lj.length∧xs=p1++(Z1s (lj.drop i)++rj)∧ItSt J D E1 W p1 wr∧E1 X.heap.size∧Blk wr X.heap.size 59 #[.int .i64 c.kind,.bool c.goal,.string c.id,.slice A1 c.attr.length a1,.slice A2 c.value.length a2,.bool c.acc,.slice A3 c.conds.length a3]∧(∀k,E k→E1 k)∧Fr (fun k=>¬(D k∨E k)) X wr) (fun s wr=>lj.length - (intOf s).toNat)
      case atStart=>exact ⟨0,_,_,rfl,Nat.zero_le _,HX2.out,HI1.out,HC1.out,KC1.out,HE1.out,HF1.out⟩
      case round=>
       clear HX2 HI1 HC1 KC1 HE1 HF1;obtain ⟨i,E1,p1,rfl,hi,hx1,hit1,hc1,hk1,he1,hf1⟩:=hrel;have HX1:=hid hx1;have HI1:=hid hit1;have HC1:=hid hc1;have KC1:=hid hk1;have HE1:=hid he1;have HF1:=hid hf1;clear hx1 hit1 hc1 hk1 he1 hf1;by_cases hlt2:i<lj.length
       · skip
         obtain ⟨y,hy0⟩:∃y,y=lj[i]:=⟨_,rfl⟩;have htr:=HLJ.out.fr HF1.out (fun k hk hn=>hn (.inl hk));obtain ⟨gt,ot,At,at_,hA,_,hgt,q0,q1,q2,q3,q4,q5,_⟩:=Z2w htr hlt2;subst hA;rw [←hy0] at q0 q1 q2 q3 q4 q5;have HVD:=hid (show Z1s (lj.drop i)=oneN y.var++Z1s (lj.drop (i+1)) by rw [hy0];exact Zak hlt2);(have j1:(0:Int)≤(i:Int):=by omega);(have j2:(i:Int)<(lj.length:Int):=by omega);clear hy0 htr;have hbY:Below wr.heap.size wr (wr.alloc (.cells #[.int .i64 y.rel,.string y.var,.int .i64 y.sym.kind,.string y.sym.text,.int .i64 y.sym.n,.slice At y.list.length at_] 138)):=(Znk _ _).alloc (Znl _) _;have HIY:=hid (HI1.out.new_ HJ.out hbY);have HBY:=hid hbY;have KCY:=hid (KC1.out.new_ hbY);have HFY:=hid (HF1.out.trans (Fr.of_new hbY));clear hbY;by_cases hve:y.var.toList = []
         · have va:(y.var.toList == [])=true:=by simp [hve]
           (have vb:y.var.toList.isEmpty=true:=by simp [hve]);(have vc:decide (y.var.toList = [])=true:=by simp [hve]);have HXN:=hid (show xs=p1++(Z1s (lj.drop (i+1))++rj) by rw [HX1.out,HVD.out,Z7w hve,Zo3]);have HIN:=HIY;have HCN:=hid (show Plus E1 wr (wr.alloc (.cells #[.int .i64 y.rel,.string y.var,.int .i64 y.sym.kind,.string y.sym.text,.int .i64 y.sym.n,.slice At y.list.length at_] 138)) X.heap.size from .inl HC1.out);have KCN:=KCY;have HEN:=hid (show ∀k,E k→Plus E1 wr (wr.alloc (.cells #[.int .i64 y.rel,.string y.var,.int .i64 y.sym.kind,.string y.sym.text,.int .i64 y.sym.n,.slice At y.list.length at_] 138)) k from fun k hk=>.inl (HE1.out k hk));have HFN:=HFY;clear hve;(gi_wp2_with fail);refine ⟨(fun f h=>by cases h),?_⟩;(gi_wp2_with fail);go_roundw
           case rel=>exact ⟨i+1,_,_,by go_num,by omega,HXN.out,HIN.out,HCN.out,KCN.out,HEN.out,HFN.out⟩
           case measure=>simp [intOf]<;>omega
         · have va:(y.var.toList == [])=false:=by simp [hve]
           (have vb:y.var.toList.isEmpty=false:=by simp [hve]);(have vc:decide (y.var.toList = [])=false:=by simp [hve]);have HXV:=hid (show xs=p1++y.var :: (Z1s (lj.drop (i+1))++rj) by rw [HX1.out,HVD.out,Z67 hve];simp);clear hve;obtain ⟨fy,ty,ay,by_,hy,hR⟩:=(HIY.out).round HY.out (HXV.out);dsimp only [Z85] at hy;have HRR:=hid hR;clear hR;(gi_wp2_with fail);refine ⟨rfl,HRR.out.mono ?_⟩;rintro e W3 (⟨rfl,hi3,hk3⟩|⟨rfl,hT,-⟩)
           · have HI3:=hid hi3
             have HK3:=hid hk3;clear hi3 hk3 hy;have HXN:=hid (show xs=(p1 ++ [y.var])++(Z1s (lj.drop (i+1))++rj) by rw [HXV.out];simp);have HIN:=HI3;have HCN:=hid (show Plus E1 wr (wr.alloc (.cells #[.int .i64 y.rel,.string y.var,.int .i64 y.sym.kind,.string y.sym.text,.int .i64 y.sym.n,.slice At y.list.length at_] 138)) X.heap.size from .inl HC1.out);have KCN:=hid (KCY.out.fr HK3.out (fun hn=>hn (.inr (.inl HC1.out))));have HEN:=hid (show ∀k,E k→Plus E1 wr (wr.alloc (.cells #[.int .i64 y.rel,.string y.var,.int .i64 y.sym.kind,.string y.sym.text,.int .i64 y.sym.n,.slice At y.list.length at_] 138)) k from fun k hk=>.inl (HE1.out k hk));have HFN:=hid (HFY.out.trans (HK3.out.mono (fun k _ hk hd=>hk (hd.imp id (HEN.out k)))));(gi_wp2_with fail);go_roundw
             case rel=>exact ⟨i+1,_,_,by go_num,by omega,HXN.out,HIN.out,HCN.out,KCN.out,HEN.out,HFN.out⟩
             case measure=>simp [intOf]<;>omega
           · have HT:=hid hT
             clear hT hy;(gi_wp2_with fail);go_ret;exact .inr ⟨rfl,HT.out⟩
       · obtain rfl:i=lj.length:=by omega
         have HX3:=hid (show xs=p1++(Z62 c (j+1)++rc) by rw [HX1.out,Zoq,HRJ.out];simp [Z1s]);(gi_wp2_with fail);go_roundw
         case rel=>exact ⟨j+1,_,_,by go_num,by omega,HX3.out,HI1.out,HC1.out,KC1.out,HE1.out,HF1.out⟩
         case measure=>simp [intOf]<;>omega
    · have HJ2:=hid (show j=2 by omega)
      have HX2:=hid (show xs=p1++((c.conds.drop 0).flatMap (Z0b n)++post) by rw [HX1.out,HRC.out,HJ2.out,List.drop_zero];rfl);(have jn:decide ((j:Int)<2)=false:=by simp;omega);have k6:=(KC1.out.cell 6).trans rfl;have kz:=KC1.out.lt;clear HX1;(gi_wp2_with fail);clear k6 kz
      gi_loopw [50] (fun s wr=>∃(i:Nat) (E1:Nat→Prop) (p1:List ByteArray),s = .int .i64 i∧i≤c.conds.length∧xs=p1++((c.conds.drop i).flatMap (Z0b n)++post)∧ItSt J D E1 W p1 wr∧E1 X.heap.size∧Blk wr X.heap.size 59 #[.int .i64 c.kind,.bool c.goal,.string c.id,.slice A1 c.attr.length a1,.slice A2 c.value.length a2,.bool c.acc,.slice A3 c.conds.length a3]∧(∀k,E k→E1 k)∧Fr (fun k=>¬(D k∨E k)) X wr) (fun s wr=>c.conds.length - (intOf s).toNat)
      case atStart=>exact ⟨0,_,_,rfl,Nat.zero_le _,HX2.out,HI1.out,HC1.out,KC1.out,HE1.out,HF1.out⟩
      case round=>
       clear HX2 HI1 HC1 KC1 HE1 HF1;obtain ⟨i,E1,p1,rfl,hi,hx1,hit1,hc1,hk1,he1,hf1⟩:=hrel;have HX1:=hid hx1;have HI1:=hid hit1;have HC1:=hid hc1;have KC1:=hid hk1;have HE1:=hid he1;have HF1:=hid hf1;clear hx1 hit1 hc1 hk1 he1 hf1;by_cases hlt2:i<c.conds.length
       · obtain ⟨m,hnm⟩:∃m,n=m+1:=by
          cases n with
          | zero=>have:=Z7b H3.out;rw [this] at hlt2;simp at hlt2
          | succ m=>exact ⟨m,rfl⟩
         subst hnm;obtain ⟨y,hy0⟩:∃y,y=c.conds[i]:=⟨_,rfl⟩;have hcr:=H3.out.fr HF1.out (fun k hk hn=>hn (.inl hk));obtain ⟨gt,ot,B1,b1_,B2,b2_,B3,b3_,hA,_,hgt,q0,q1,q2,q3,q4,q5,q6,-,-,-⟩:=Z1j hcr hlt2;have HDC:=hid (show (c.conds.drop i).flatMap (Z0b (m+1))=Z0b (m+1) y++(c.conds.drop (i+1)).flatMap (Z0b (m+1)) by rw [hy0,Zol hlt2,Zoo]);subst hA;rw [←hy0] at q0 q1 q2 q3 q4 q5 q6;obtain ⟨_,_,_,_,_,_,_,_,hA9,_,_,_,_,_,q3',q4',_,q6',r1,r2,r3⟩:=Z1j hcr hlt2;injection hA9 with hA9;injection hA9 with e1 e2;subst e1;subst e2;rw [←hy0] at q3' q4' q6' r1 r2 r3;rw [q3] at q3';rw [q4] at q4';rw [q6] at q6';injection q3' with q3';injection q3' with s1 s2 s3;subst s1;subst s3;injection q4' with q4';injection q4' with s4 s5 s6;subst s4;subst s6;injection q6' with q6';injection q6' with s7 s8 s9;subst s7;subst s9;(have j1:(0:Int)≤(i:Int):=by omega);(have j2:(i:Int)<(c.conds.length:Int):=by omega);have hbY:Below wr.heap.size wr (wr.alloc (.cells #[.int .i64 y.kind,.bool y.goal,.string y.id,.slice B1 y.attr.length b1_,.slice B2 y.value.length b2_,.bool y.acc,.slice B3 y.conds.length b3_] 59)):=(Znk _ _).alloc (Znl _) _;have HXY:=hid (show xs=p1++(Z0b (m+1) y++((c.conds.drop (i+1)).flatMap (Z0b (m+1))++post)) by rw [HX1.out,HDC.out,Zoc]);have HIH:=hid (IH.out m rfl y B1 b1_ B2 b2_ B3 b3_ (Plus E1 wr (wr.alloc (.cells #[.int .i64 y.kind,.bool y.goal,.string y.id,.slice B1 y.attr.length b1_,.slice B2 y.value.length b2_,.bool y.acc,.slice B3 y.conds.length b3_] 59))) p1 _ (wr.alloc (.cells #[.int .i64 y.kind,.bool y.goal,.string y.id,.slice B1 y.attr.length b1_,.slice B2 y.value.length b2_,.bool y.acc,.slice B3 y.conds.length b3_] 59)) HXY.out (r1.new_ hbY) (r2.new_ hbY) (r3.new_ hbY) (HI1.out.new_ HJ.out hbY));have KCY:=hid (KC1.out.new_ hbY);have HFY:=hid (HF1.out.trans (Fr.of_new hbY));clear hy0 hcr r1 r2 r3 hbY s2 s5 s8;(gi_wp2_with fail);refine ⟨trivial,rfl,?_⟩;refine HIH.out.mono ?_;rintro e w5 (⟨rfl,⟨E5,he5,hi5⟩,hf5⟩|⟨rfl,hT⟩)
         · have HXN:=hid (show xs=(p1++Z0b (m+1) y)++((c.conds.drop (i+1)).flatMap (Z0b (m+1))++post) by rw [HXY.out];simp)
           have HI5:=hid hi5;have HC5:=hid (he5 _ (.inl HC1.out));have KC5:=hid (KCY.out.fr hf5 (fun hn=>hn (.inr (.inl HC1.out))));have HE5:=hid (show ∀k,E k→E5 k from fun k hk=>he5 k (.inl (HE1.out k hk)));have HF5:=hid (HFY.out.trans (hf5.mono (fun k _ hk hd=>hk (hd.imp id (fun h=>.inl (HE1.out k h))))));clear he5 hi5 hf5 q0 q1 q2 q3 q4 q5 q6;(gi_wp2_with fail);go_roundw
           case rel=>exact ⟨i+1,_,_,by go_num,by omega,HXN.out,HI5.out,HC5.out,KC5.out,HE5.out,HF5.out⟩
           case measure=>simp [intOf]<;>omega
         · have HT:=hid hT
           clear hT q0 q1 q2 q3 q4 q5 q6;(gi_wp2_with fail);go_ret;exact .inr ⟨rfl,HT.out⟩
       · obtain rfl:i=c.conds.length:=by omega
         have HXE:=hid (show p1=pre++Z0b (n+1) c by
          have h:=HX1.out;rw [Zoq,List.flatMap_nil,Zo3,HXX.out,←Zoc] at h
          exact (List.append_cancel_right h).symm)
         (gi_wp2_with fail);go_ret;exact .inl ⟨rfl,⟨E1,HE1.out,by have:=HI1.out;rw [HXE.out] at this;exact this⟩,HF1.out⟩
 · have ia:(c.id.toList == [])=false:=by simp [hiD]
   (have ib:c.id.toList.isEmpty=false:=by simp [hiD]);(have ic:decide (c.id.toList = [])=false:=by simp [hiD]);have HXV:=hid (show xs=pre++c.id :: (Z62 c 0++rc) by rw [HX.out,Z0b,Z67 hiD,HRC.out];simp [Z62]);clear hiD HX;obtain ⟨fy,ty,ay,by_,hy,hR⟩:=(HIX.out).round HY.out (HXV.out);dsimp only [Z85] at hy;have HRR:=hid hR;clear hR;(gi_wp2_with fail);refine ⟨rfl,HRR.out.mono ?_⟩;rintro e W3 (⟨rfl,hi3,hk3⟩|⟨rfl,hT,-⟩)
   · have HI3:=hid hi3
     have HK3:=hid hk3;clear hi3 hk3 hy;have HX0:=hid (show xs=(pre ++ [c.id])++(Z62 c 0++rc) by rw [HXV.out];simp);have HI0:=HI3;have HC0:=hid (show Plus E X (X.alloc (.cells #[.int .i64 c.kind,.bool c.goal,.string c.id,.slice A1 c.attr.length a1,.slice A2 c.value.length a2,.bool c.acc,.slice A3 c.conds.length a3] 59)) X.heap.size from .inr ⟨Znl _,by simp⟩);have KC0:=hid (KCX.out.fr HK3.out (fun hn=>hn (.inr HC0.out)));have HE0:=hid (show ∀k,E k→Plus E X (X.alloc (.cells #[.int .i64 c.kind,.bool c.goal,.string c.id,.slice A1 c.attr.length a1,.slice A2 c.value.length a2,.bool c.acc,.slice A3 c.conds.length a3] 59)) k from fun k hk=>.inl hk);have HF0:=hid (HFX.out.trans (HK3.out.mono (fun k _ hk hd=>hk (hd.imp id (HE0.out k)))));have x3:=(KC0.out.cell 3).trans rfl;have x4:=(KC0.out.cell 4).trans rfl;have xz:=KC0.out.lt;(gi_wp2_with fail);clear x3 x4 xz
     gi_loopw [26] (fun s wr=>∃(j:Nat) (E1:Nat→Prop) (p1:List ByteArray),s = .int .i64 j∧j≤2∧xs=p1++(Z62 c j++rc)∧ItSt J D E1 W p1 wr∧E1 X.heap.size∧Blk wr X.heap.size 59 #[.int .i64 c.kind,.bool c.goal,.string c.id,.slice A1 c.attr.length a1,.slice A2 c.value.length a2,.bool c.acc,.slice A3 c.conds.length a3]∧(∀k,E k→E1 k)∧Fr (fun k=>¬(D k∨E k)) X wr) (fun s wr=>2 - (intOf s).toNat)
     case atStart=>exact ⟨0,_,_,rfl,by omega,HX0.out,HI0.out,HC0.out,KC0.out,HE0.out,HF0.out⟩
     case round=>
      obtain ⟨j,E1,p1,rfl,hj,hx1,hit1,hc1,hk1,he1,hf1⟩:=hrel;have HX1:=hid hx1;have HI1:=hid hit1;have HC1:=hid hc1;have KC1:=hid hk1;have HE1:=hid he1;have HF1:=hid hf1;clear hx1 hit1 hc1 hk1 he1 hf1;by_cases hlt:j<2
      · obtain ⟨lj,Al,al,hix,hlj,hrj⟩:∃(lj:List Z1r) (Al:Option Addr) (al:Nat),(∀V,(Instr.index 136 (.agg #[.slice A1 c.attr.length a1,.slice A2 c.value.length a2]) (.int .i64 (j:Int))).run Tryz.prog V = .ok (.slice Al lj.length al) V)∧RowR Z03 D X Al al lj∧Z62 c j=Z1s lj++Z62 c (j+1):=by
         match j,hlt with
         | 0,_=>exact ⟨c.attr,A1,a1,fun V=>by rfl,H1.out,rfl⟩
         | 1,_=>exact ⟨c.value,A2,a2,fun V=>by rfl,H2.out,by simp [Z62]⟩
        have HLJ:=hid hlj;have hljc:=hlj.cap;(have jj1:(0:Int)≤(j:Int):=by omega);(have jj2:(j:Int)<2:=by omega);obtain ⟨rj,hrjd⟩:∃rj,rj=Z62 c (j+1)++rc:=⟨_,rfl⟩;have HX2:=hid (show xs=p1++(Z1s (lj.drop 0)++rj) by rw [HX1.out,hrj,hrjd,List.drop_zero];simp);have HRJ:=hid hrjd;clear hlj hrj hrjd HX1;gi_wp2_with fail
        gi_loopw [31] (fun s wr=>∃(i:Nat) (E1:Nat→Prop) (p1:List ByteArray),s = .int .i64 i∧i≤lj.length∧xs=p1++(Z1s (lj.drop i)++rj)∧ItSt J D E1 W p1 wr∧E1 X.heap.size∧Blk wr X.heap.size 59 #[.int .i64 c.kind,.bool c.goal,.string c.id,.slice A1 c.attr.length a1,.slice A2 c.value.length a2,.bool c.acc,.slice A3 c.conds.length a3]∧(∀k,E k→E1 k)∧Fr (fun k=>¬(D k∨E k)) X wr) (fun s wr=>lj.length - (intOf s).toNat)
        case atStart=>exact ⟨0,_,_,rfl,Nat.zero_le _,HX2.out,HI1.out,HC1.out,KC1.out,HE1.out,HF1.out⟩
        case round=>
         clear HX2 HI1 HC1 KC1 HE1 HF1;obtain ⟨i,E1,p1,rfl,hi,hx1,hit1,hc1,hk1,he1,hf1⟩:=hrel;have HX1:=hid hx1;have HI1:=hid hit1;have HC1:=hid hc1;have KC1:=hid hk1;have HE1:=hid he1;have HF1:=hid hf1;clear hx1 hit1 hc1 hk1 he1 hf1;by_cases hlt2:i<lj.length
         · skip
           obtain ⟨y,hy0⟩:∃y,y=lj[i]:=⟨_,rfl⟩;have htr:=HLJ.out.fr HF1.out (fun k hk hn=>hn (.inl hk));obtain ⟨gt,ot,At,at_,hA,_,hgt,q0,q1,q2,q3,q4,q5,_⟩:=Z2w htr hlt2;subst hA;rw [←hy0] at q0 q1 q2 q3 q4 q5;have HVD:=hid (show Z1s (lj.drop i)=oneN y.var++Z1s (lj.drop (i+1)) by rw [hy0];exact Zak hlt2);(have j1:(0:Int)≤(i:Int):=by omega);(have j2:(i:Int)<(lj.length:Int):=by omega);clear hy0 htr;have hbY:Below wr.heap.size wr (wr.alloc (.cells #[.int .i64 y.rel,.string y.var,.int .i64 y.sym.kind,.string y.sym.text,.int .i64 y.sym.n,.slice At y.list.length at_] 138)):=(Znk _ _).alloc (Znl _) _;have HIY:=hid (HI1.out.new_ HJ.out hbY);have HBY:=hid hbY;have KCY:=hid (KC1.out.new_ hbY);have HFY:=hid (HF1.out.trans (Fr.of_new hbY));clear hbY;by_cases hve:y.var.toList = []
           · have va:(y.var.toList == [])=true:=by simp [hve]
             (have vb:y.var.toList.isEmpty=true:=by simp [hve]);(have vc:decide (y.var.toList = [])=true:=by simp [hve]);have HXN:=hid (show xs=p1++(Z1s (lj.drop (i+1))++rj) by rw [HX1.out,HVD.out,Z7w hve,Zo3]);have HIN:=HIY;have HCN:=hid (show Plus E1 wr (wr.alloc (.cells #[.int .i64 y.rel,.string y.var,.int .i64 y.sym.kind,.string y.sym.text,.int .i64 y.sym.n,.slice At y.list.length at_] 138)) X.heap.size from .inl HC1.out);have KCN:=KCY;have HEN:=hid (show ∀k,E k→Plus E1 wr (wr.alloc (.cells #[.int .i64 y.rel,.string y.var,.int .i64 y.sym.kind,.string y.sym.text,.int .i64 y.sym.n,.slice At y.list.length at_] 138)) k from fun k hk=>.inl (HE1.out k hk));have HFN:=HFY;clear hve;(gi_wp2_with fail);refine ⟨(fun f h=>by cases h),?_⟩;(gi_wp2_with fail);go_roundw
             case rel=>exact ⟨i+1,_,_,by go_num,by omega,HXN.out,HIN.out,HCN.out,KCN.out,HEN.out,HFN.out⟩
             case measure=>simp [intOf]<;>omega
           · have va:(y.var.toList == [])=false:=by simp [hve]
             (have vb:y.var.toList.isEmpty=false:=by simp [hve]);(have vc:decide (y.var.toList = [])=false:=by simp [hve]);have HXV:=hid (show xs=p1++y.var :: (Z1s (lj.drop (i+1))++rj) by rw [HX1.out,HVD.out,Z67 hve];simp);clear hve;obtain ⟨fy,ty,ay,by_,hy,hR⟩:=(HIY.out).round HY.out (HXV.out);dsimp only [Z85] at hy;have HRR:=hid hR;clear hR;(gi_wp2_with fail);refine ⟨rfl,HRR.out.mono ?_⟩;rintro e W3 (⟨rfl,hi3,hk3⟩|⟨rfl,hT,-⟩)
             · have HI3:=hid hi3
               have HK3:=hid hk3;clear hi3 hk3 hy;have HXN:=hid (show xs=(p1 ++ [y.var])++(Z1s (lj.drop (i+1))++rj) by rw [HXV.out];simp);have HIN:=HI3;have HCN:=hid (show Plus E1 wr (wr.alloc (.cells #[.int .i64 y.rel,.string y.var,.int .i64 y.sym.kind,.string y.sym.text,.int .i64 y.sym.n,.slice At y.list.length at_] 138)) X.heap.size from .inl HC1.out);have KCN:=hid (KCY.out.fr HK3.out (fun hn=>hn (.inr (.inl HC1.out))));have HEN:=hid (show ∀k,E k→Plus E1 wr (wr.alloc (.cells #[.int .i64 y.rel,.string y.var,.int .i64 y.sym.kind,.string y.sym.text,.int .i64 y.sym.n,.slice At y.list.length at_] 138)) k from fun k hk=>.inl (HE1.out k hk));have HFN:=hid (HFY.out.trans (HK3.out.mono (fun k _ hk hd=>hk (hd.imp id (HEN.out k)))));(gi_wp2_with fail);go_roundw
               case rel=>exact ⟨i+1,_,_,by go_num,by omega,HXN.out,HIN.out,HCN.out,KCN.out,HEN.out,HFN.out⟩
               case measure=>simp [intOf]<;>omega
             · have HT:=hid hT
               clear hT hy;(gi_wp2_with fail);go_ret;exact .inr ⟨rfl,HT.out⟩
         · obtain rfl:i=lj.length:=by omega
           have HX3:=hid (show xs=p1++(Z62 c (j+1)++rc) by rw [HX1.out,Zoq,HRJ.out];simp [Z1s]);(gi_wp2_with fail);go_roundw
           case rel=>exact ⟨j+1,_,_,by go_num,by omega,HX3.out,HI1.out,HC1.out,KC1.out,HE1.out,HF1.out⟩
           case measure=>simp [intOf]<;>omega
      · have HJ2:=hid (show j=2 by omega)
        have HX2:=hid (show xs=p1++((c.conds.drop 0).flatMap (Z0b n)++post) by rw [HX1.out,HRC.out,HJ2.out,List.drop_zero];rfl);(have jn:decide ((j:Int)<2)=false:=by simp;omega);have k6:=(KC1.out.cell 6).trans rfl;have kz:=KC1.out.lt;clear HX1;(gi_wp2_with fail);clear k6 kz
        gi_loopw [50] (fun s wr=>∃(i:Nat) (E1:Nat→Prop) (p1:List ByteArray),s = .int .i64 i∧i≤c.conds.length∧xs=p1++((c.conds.drop i).flatMap (Z0b n)++post)∧ItSt J D E1 W p1 wr∧E1 X.heap.size∧Blk wr X.heap.size 59 #[.int .i64 c.kind,.bool c.goal,.string c.id,.slice A1 c.attr.length a1,.slice A2 c.value.length a2,.bool c.acc,.slice A3 c.conds.length a3]∧(∀k,E k→E1 k)∧Fr (fun k=>¬(D k∨E k)) X wr) (fun s wr=>c.conds.length - (intOf s).toNat)
        case atStart=>exact ⟨0,_,_,rfl,Nat.zero_le _,HX2.out,HI1.out,HC1.out,KC1.out,HE1.out,HF1.out⟩
        case round=>
         clear HX2 HI1 HC1 KC1 HE1 HF1;obtain ⟨i,E1,p1,rfl,hi,hx1,hit1,hc1,hk1,he1,hf1⟩:=hrel;have HX1:=hid hx1;have HI1:=hid hit1;have HC1:=hid hc1;have KC1:=hid hk1;have HE1:=hid he1;have HF1:=hid hf1;clear hx1 hit1 hc1 hk1 he1 hf1;by_cases hlt2:i<c.conds.length
         · obtain ⟨m,hnm⟩:∃m,n=m+1:=by
            cases n with
            | zero=>have:=Z7b H3.out;rw [this] at hlt2;simp at hlt2
            | succ m=>exact ⟨m,rfl⟩
           subst hnm;obtain ⟨y,hy0⟩:∃y,y=c.conds[i]:=⟨_,rfl⟩;have hcr:=H3.out.fr HF1.out (fun k hk hn=>hn (.inl hk));obtain ⟨gt,ot,B1,b1_,B2,b2_,B3,b3_,hA,_,hgt,q0,q1,q2,q3,q4,q5,q6,-,-,-⟩:=Z1j hcr hlt2;have HDC:=hid (show (c.conds.drop i).flatMap (Z0b (m+1))=Z0b (m+1) y++(c.conds.drop (i+1)).flatMap (Z0b (m+1)) by rw [hy0,Zol hlt2,Zoo]);subst hA;rw [←hy0] at q0 q1 q2 q3 q4 q5 q6;obtain ⟨_,_,_,_,_,_,_,_,hA9,_,_,_,_,_,q3',q4',_,q6',r1,r2,r3⟩:=Z1j hcr hlt2;injection hA9 with hA9;injection hA9 with e1 e2;subst e1;subst e2;rw [←hy0] at q3' q4' q6' r1 r2 r3;rw [q3] at q3';rw [q4] at q4';rw [q6] at q6';injection q3' with q3';injection q3' with s1 s2 s3;subst s1;subst s3;injection q4' with q4';injection q4' with s4 s5 s6;subst s4;subst s6;injection q6' with q6';injection q6' with s7 s8 s9;subst s7;subst s9;(have j1:(0:Int)≤(i:Int):=by omega);(have j2:(i:Int)<(c.conds.length:Int):=by omega);have hbY:Below wr.heap.size wr (wr.alloc (.cells #[.int .i64 y.kind,.bool y.goal,.string y.id,.slice B1 y.attr.length b1_,.slice B2 y.value.length b2_,.bool y.acc,.slice B3 y.conds.length b3_] 59)):=(Znk _ _).alloc (Znl _) _;have HXY:=hid (show xs=p1++(Z0b (m+1) y++((c.conds.drop (i+1)).flatMap (Z0b (m+1))++post)) by rw [HX1.out,HDC.out,Zoc]);have HIH:=hid (IH.out m rfl y B1 b1_ B2 b2_ B3 b3_ (Plus E1 wr (wr.alloc (.cells #[.int .i64 y.kind,.bool y.goal,.string y.id,.slice B1 y.attr.length b1_,.slice B2 y.value.length b2_,.bool y.acc,.slice B3 y.conds.length b3_] 59))) p1 _ (wr.alloc (.cells #[.int .i64 y.kind,.bool y.goal,.string y.id,.slice B1 y.attr.length b1_,.slice B2 y.value.length b2_,.bool y.acc,.slice B3 y.conds.length b3_] 59)) HXY.out (r1.new_ hbY) (r2.new_ hbY) (r3.new_ hbY) (HI1.out.new_ HJ.out hbY));have KCY:=hid (KC1.out.new_ hbY);have HFY:=hid (HF1.out.trans (Fr.of_new hbY));clear hy0 hcr r1 r2 r3 hbY s2 s5 s8;(gi_wp2_with fail);refine ⟨trivial,rfl,?_⟩;refine HIH.out.mono ?_;rintro e w5 (⟨rfl,⟨E5,he5,hi5⟩,hf5⟩|⟨rfl,hT⟩)
           · have HXN:=hid (show xs=(p1++Z0b (m+1) y)++((c.conds.drop (i+1)).flatMap (Z0b (m+1))++post) by rw [HXY.out];simp)
             have HI5:=hid hi5;have HC5:=hid (he5 _ (.inl HC1.out));have KC5:=hid (KCY.out.fr hf5 (fun hn=>hn (.inr (.inl HC1.out))));have HE5:=hid (show ∀k,E k→E5 k from fun k hk=>he5 k (.inl (HE1.out k hk)));have HF5:=hid (HFY.out.trans (hf5.mono (fun k _ hk hd=>hk (hd.imp id (fun h=>.inl (HE1.out k h))))));clear he5 hi5 hf5 q0 q1 q2 q3 q4 q5 q6;(gi_wp2_with fail);go_roundw
             case rel=>exact ⟨i+1,_,_,by go_num,by omega,HXN.out,HI5.out,HC5.out,KC5.out,HE5.out,HF5.out⟩
             case measure=>simp [intOf]<;>omega
           · have HT:=hid hT
             clear hT q0 q1 q2 q3 q4 q5 q6;(gi_wp2_with fail);go_ret;exact .inr ⟨rfl,HT.out⟩
         · obtain rfl:i=c.conds.length:=by omega
           have HXE:=hid (show p1=pre++Z0b (n+1) c by
            have h:=HX1.out;rw [Zoq,List.flatMap_nil,Zo3,HXX.out,←Zoc] at h
            exact (List.append_cancel_right h).symm)
           (gi_wp2_with fail);go_ret;exact .inl ⟨rfl,⟨E1,HE1.out,by have:=HI1.out;rw [HXE.out] at this;exact this⟩,HF1.out⟩
   · have HT:=hid hT
     clear hT hy;(gi_wp2_with fail);go_ret;exact .inr ⟨rfl,HT.out⟩
theorem Zkg (n lo:Nat) (xs:List ByteArray) (J Jx:(Nat→Prop)→List ByteArray→World→Prop) (D:Nat→Prop) (W:World) (hJ:Z5k W.heap.size J) (hY:Zap Tryz.prog lo Z85 xs J Jx):Z8w n lo xs J Jx D W:=by
 induction n with
 | zero=>exact Zaa 0 lo xs J Jx D W hJ hY (fun m h=>by omega)
 | succ n ih=>exact Zaa (n+1) lo xs J Jx D W hJ hY (fun m h=>by obtain rfl:n=m:=by omega
                                                                exact ih)
theorem Zi7 {D:Nat→Prop}(n:Nat) (c:Z0a) (kb:Nat) (A1 A2 A3:Option Addr) (a1 a2 a3:Nat) (W:World) (hkb:Blk W kb 59 #[.int .i64 c.kind,.bool c.goal,.string c.id,.slice A1 c.attr.length a1,.slice A2 c.value.length a2,.bool c.acc,.slice A3 c.conds.length a3]) (_:D kb)
 (h1:RowR Z03 D W A1 a1 c.attr) (h2:RowR Z03 D W A2 a2 c.value) (h3:RowR (Z06 n) D W A3 a3 c.conds) :
 Zlj Tryz.prog 165 #[.pointer (some ⟨kb,0,none⟩)] Z85 (Z0b (n+1) c) W D:=by
 intro lo J Jx hJ hJx h0 hY;have hc:=Zkg n lo (Z0b (n+1) c) J Jx D W hJ hY c A1 a1 A2 a2 A3 a3 (fun _=>False) [] [] W (by simp) h1 h2 h3 (ItSt.start h0);obtain ⟨ns,hns⟩:∃ns,ns=Z0b (n+1) c:=⟨_,rfl⟩;rw [←hns] at hc ⊢;have HC:=hid hc;obtain ⟨q0,q1,q2,q3,q4,q5,q6⟩:=hkb.c7;have hkl:=hkb.lt;clear hc hns h0 hJ hJx hY h1 h2 h3 hkb;refine callsIn_of_wp Tryz.func165 rfl trivial ?_;simp only [Tryz.ntmps165,Zoy,Zo4,Zon,Nat.reduceAdd,Nat.reduceSub,Zos,Zot,Zox,Zov,Zo3,Zog];(gi_wp2_with fail);refine ⟨trivial,rfl,?_⟩;refine HC.out.mono ?_;rintro e w5 (⟨rfl,⟨E5,_,hi5⟩,_⟩|⟨rfl,hT⟩)
 · have HI5:=hid hi5
   clear hi5 q0 q1 q2 q3 q4 q5 q6;(gi_wp2_with fail);go_end0;refine ⟨⟨_,rfl⟩,?_⟩;have:=HI5.out;rw [Zo3] at this;exact this.told
 · have HT:=hid hT
   clear hT q0 q1 q2 q3 q4 q5 q6;(gi_wp2_with fail);go_end0;exact ⟨⟨_,rfl⟩,HT.out⟩
theorem Zgc (c:Z0a) (A1 A2 A3:Option Addr) (a1 a2 a3:Nat) (w:World) :
 Calls Tryz.prog 120 #[.agg #[.int .i64 c.kind,.bool c.goal,.string c.id,.slice A1 c.attr.length a1,.slice A2 c.value.length a2,.bool c.acc,.slice A3 c.conds.length a3]] w fun e w'=>e = .returned (.func (.func 165) #[] #[.pointer (some ⟨w.heap.size,0,none⟩)])∧Blk w' w.heap.size 59 #[.int .i64 c.kind,.bool c.goal,.string c.id,.slice A1 c.attr.length a1,.slice A2 c.value.length a2,.bool c.acc,.slice A3 c.conds.length a3]∧Below w.heap.size w w':=by
 go_enter Tryz.func120,Tryz.ntmps120;(go_wp2_with fail);go_ret;exact ⟨rfl,Blk.new _ _ _,(Znk _ _).alloc (Znl _) _⟩
end
section
open Go.RowKit
theorem Zca (A:Option Addr) (c:Nat) (l:List Z1r){D:Nat→Prop}(w:World) (hrd:RowR Z03 D w A c l) (hs:SmT l) :
 Calls Tryz.prog 164 #[.slice A l.length c] w (Zek Z03 l w):=by
 obtain ⟨i0,hi0,hz0,hz1,hz2⟩:=infp Z7s;obtain ⟨j0,hj0,hy0,hy1,hy2⟩:=infp Zb2;have hlc:=hrd.cap;have hl1:=hs.1;have HRD:=hid hrd;have HS:=hid hs;clear hrd hs;go_enter Tryz.func164,Tryz.ntmps164;go_wp2_with fail
 go_loopw [3,4] (fun v i wr=>∃k:Nat,i = .int .i64 k∧k≤l.length∧Z27 Z03 138 w (l.take k) v wr) (fun v i wr=>l.length - (intOf i).toNat)
 case atStart=>exact ⟨0,rfl,Nat.zero_le _,Z27.nil _ _ _ (Znk _ _)⟩
 case round=>
  obtain ⟨k,rfl,hk,hC⟩:=hrel;obtain ⟨C,A1,c1,rfl,h1,h2,h3,h4⟩:=hC;rw [Z20 hk];by_cases hlt:k<l.length
  · have hrw:=HRD.out.keep (D':=D) h4.size (fun j hj hl=>⟨hj,h4.block j hl⟩)
    obtain ⟨g,off,A3,c3,rfl,hDg,hg,q0,q1,q2,q3,q4,q5,hr3⟩:=Z2w hrw hlt;obtain ⟨y,hy⟩:∃y,y=l[k]:=⟨_,rfl⟩;(have hy3:y.list.length≤1000:=by rw [hy];exact HS.out.2 _ (Zo8 hlt));rw [←hy] at q0 q1 q2 q3 q4 q5 hr3;have hr4:=RowR.rd (hs:=Sym.cells_length) hr3;have hl3:=hr3.cap;(have b1:(0:Int)≤(k:Int):=by omega);(have b2:(k:Int)<(l.length:Int):=by omega);have HY:=hid hy;have H1:=hid h1;have H2:=hid h2;have H3:=hid h3;have H4:=hid h4;have HR4:=hid hr4;clear hy hrw h1 h2 h3 h4 hr3 hr4;(go_upto_region 6 with fail);obtain ⟨W4,hW4⟩:∃W4,W4=wr.alloc (.cells #[.int .i64 y.rel,.string y.var,.int .i64 y.sym.kind,.string y.sym.text,.int .i64 y.sym.n,.slice A3 y.list.length c3] 138):=⟨_,rfl⟩;(have hB4:Below wr.heap.size wr W4:=by rw [hW4];exact (Znk _ _).alloc (Znl _) _);(have hX4:Blk W4 wr.heap.size 138 #[.int .i64 y.rel,.string y.var,.int .i64 y.sym.kind,.string y.sym.text,.int .i64 y.sym.n,.slice A3 y.list.length c3]:=by rw [hW4];exact Blk.new _ _ _);rw [←hW4];clear hW4 q0 q1 q2 q3 q4;have HB4:=hid hB4;have HX4:=hid hX4;have hxl4:=hX4.lt;have x5:=(hB4.cell (p:=⟨g,off+k*6+5,none⟩) hg).trans q5;clear hX4 hB4 q5;(have hg4:g<W4.heap.size:=by have:=HB4.out.size;omega);(go_wp2_with fail);refine (Zhb A3 c3 y.list W4 (HR4.out.new_ HB4.out) (by omega)).mono ?_;rintro e w5 ⟨A5,c5,rfl,ho5,hA5,hB5⟩;have hX5:=HX4.out.new_ hB5;have u5:=(hX5.cell 5).trans rfl;have g5:=hX5.frozen 5;have hxl5:=hX5.lt;have HB5:=hid hB5;have HO5:=hid ho5;have HA5:=hid hA5;have HX5:=hid hX5;clear hX5 hB5 ho5 hA5 x5;(go_upto_region 7 with fail);obtain ⟨W6,hW6⟩:∃W6,W6=w5.setCell ⟨wr.heap.size,5,none⟩ (.slice A5 y.list.length c5):=⟨_,rfl⟩
    have hX5:=HX5.out;(have hB6:Below wr.heap.size wr W6:=by rw [hW6];exact (HB4.out.trans (HB5.out.mono (by omega))).setCell (Znl _) _);(have hX6:Blk W6 wr.heap.size 138 #[.int .i64 y.rel,.string y.var,.int .i64 y.sym.kind,.string y.sym.text,.int .i64 y.sym.n,.slice A5 y.list.length c5]:=by rw [hW6];exact hX5.set_ 5 _);(have hO6:W6.ownsRow 0 38 3 (.slice A5 y.list.length c5) y.list.length (y.list.flatMap Sym.cells):=by rw [hW6];exact ownsRow_setCell_other (a:=⟨wr.heap.size,5,none⟩) HO5.out (Z02 HO5.out hX5 (by decide)) _);have hA6:AIn A5 (NewD wr.heap.size W6):=HA5.out.mono (fun j hj=>⟨by have:=hj.1;omega,by rw [hW6];simpa using hj.2⟩);rw [←hW6];clear hW6 hX5;have hB7:Below wr.heap.size wr (W6.alloc (.cells #[.int .i64 y.rel,.string y.var,.int .i64 y.sym.kind,.string y.sym.text,.int .i64 y.sym.n,.slice A5 y.list.length c5] 138)):=hB6.alloc hB6.size _;have hrow:RowR Z24 (Plus C wr (W6.alloc (.cells #[.int .i64 y.rel,.string y.var,.int .i64 y.sym.kind,.string y.sym.text,.int .i64 y.sym.n,.slice A5 y.list.length c5] 138))) (W6.alloc (.cells #[.int .i64 y.rel,.string y.var,.int .i64 y.sym.kind,.string y.sym.text,.int .i64 y.sym.n,.slice A5 y.list.length c5] 138)) A5 c5 y.list:=(Z4s.row Sym.cells_length hO6 hA6).keep (by simp) (fun j hj hl=>⟨.inr ⟨hj.1,by simp;have:=hj.2;omega⟩,((Znk W6.heap.size W6).alloc (Znl _) _).block j hl⟩);have hown7:=H1.out.plus hB7;have hrep7:=Zkz hrow
    have hcl :∀j,Plus C wr (W6.alloc (.cells #[.int .i64 y.rel,.string y.var,.int .i64 y.sym.kind,.string y.sym.text,.int .i64 y.sym.n,.slice A5 y.list.length c5] 138)) j→j<(W6.alloc (.cells #[.int .i64 y.rel,.string y.var,.int .i64 y.sym.kind,.string y.sym.text,.int .i64 y.sym.n,.slice A5 y.list.length c5] 138)).heap.size:=fun j hj=>by
     rcases hj with hj|hj
     · have:=(H2.out j hj).2;have:=hB7.size;omega
     · exact hj.2
    obtain ⟨u0,u1,u2,u3,u4,u5⟩:=hX6.c6;have hxl6:=hX6.lt;have HB7:=hid hB7;have HOW:=hid hown7;have HRE:=hid hrep7;have HCL:=hid hcl;(have h63:(l.take k).length+1≤maxLen:=by rw [Z20 hk];unfold maxLen;omega);(have hby:((l.take k).length+1)*80≤140737488355328:=by rw [Z20 hk];omega);have H63:=hid h63;have HBY:=hid hby;have HTL:=hid (Z20 hk);clear hB6 hB7 hX6 hO6 hA6 hrow hown7 hrep7 hcl h63 hby;have HV:=hid (show Value.slice A1 k c1 = .slice A1 (l.take k).length c1 by rw [Z20 hk]);(go_wp2_with (at_builtin;refine Z2v _ rfl _ _ 57 rfl 138 j0 _ 6 80 Tryz.underlying57 hj0 hy0 hy1 hy2 rfl rfl (by omega) (Plus C wr (W6.alloc (.cells #[.int .i64 y.rel,.string y.var,.int .i64 y.sym.kind,.string y.sym.text,.int .i64 y.sym.n,.slice A5 y.list.length c5] 138))) HCL.out (.slice A1 (l.take k).length c1) (l.take k) HV.out HOW.out ⟨W6.heap.size,0,none⟩ 1 y [.int .i64 y.rel,.string y.var,.int .i64 y.sym.kind,.string y.sym.text,.int .i64 y.sym.n,.slice A5 y.list.length c5] rfl (Zo7 (heap_alloc_new _ _)) (by intro u hu;simp only [Zo5,Zo9,or_false] at hu;rcases hu with rfl|rfl|rfl|rfl|rfl|rfl<;>rfl) HRE.out H63.out HBY.out ?_;intro v' w7 hap));have hfin:Z27 Z03 138 w (l.take k ++ [y]) v' w7:=Z27.snoc H2.out H3.out H4.out HB7.out (by have e:Value.slice A1 (l.take k).length c1 = .slice A1 (l.take k).length c1:=rfl;exact hap);rw [HY.out,Z2b hlt] at hfin;go_roundw
    case rel=>exact ⟨k+1,by go_num,by omega,hfin⟩
    case measure=>simp [intOf];omega
  · obtain rfl:k=l.length:=by omega
    have hfin:=Z27.done ⟨C,A1,c1,rfl,h1,h2,h3,h4⟩;rw [Zo6] at hfin;have HF:=hid hfin;clear h1 h2 h3 h4 hfin;(go_wp2_with fail);go_ret;exact HF.out
end
end Go.Proofs.YtfidcfjcmlgkbaaGreat
