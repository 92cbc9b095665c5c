/-
  Texts put together: LrnRd.
-/
import Derived.Test.YtldndkngpdfpfaaGreatPRh
namespace Go.Proofs.YtldndkngpdfpfaaGreat
open Lib (hid)
set_option maxRecDepth 100000
set_option maxHeartbeats 32000000
section
open Go.RowKit Go.Shelf
attribute [local go_sem] Oper.semAt_some
set_option linter.unusedSimpArgs false
def lvD:List LevT→Sym→Int
 | [],_=>0
 | x :: l,s=>if x.sym=s then x.n else lvD l s
theorem Zcw (s:Sym) : ∀l:List LevT,lvD (l.map fun x=>⟨x.sym,Z3t x.n 9⟩) s=lvO l s
 | []=>rfl
 | x :: l=>by rw [List.map_cons,lvD,lvO,Zcw s l]
theorem Za6 {s:Sym} : ∀{l:List LevT} {i:Nat},i≤l.length→(∀k,(h:k<l.length)→k<i→l[k].sym≠s)→lvD l s=lvD (l.drop i) s
 | l,0,_,_=>rfl
 | [],i+1,hi,_=>absurd hi (by simp)
 | x :: l,i+1,hi,h=>by
   rw [lvD,if_neg (show ¬x.sym=s from h 0 (by simp) (by omega)),List.drop_succ_cons];exact Za6 (by simpa using hi) (fun k hk hki=>h (k+1) (by simpa using hk) (by omega))
theorem Zny (A:Option Addr) (c:Nat) (l:List LevT) (s:Sym) (w:World) (h:Z0l w 4 LevT.cells A c l) :
 Calls Tryz.prog 89 #[.slice A l.length c,.agg #[.int .i64 s.kind,.string s.text,.int .i64 s.n]] w fun e w'=>e = .returned (.int .i64 (lvD l s))∧Below w.heap.size w w':=by
 have HR:=hid h;have hlc:=h.cap;clear h;go_enter Tryz.func89,Tryz.ntmps89;(go_upto_region 2 with fail);obtain ⟨W1,hW1⟩ : ∃W,W=w.alloc (.cells #[.int .i64 s.kind,.string s.text,.int .i64 s.n] 23):=⟨_,rfl⟩;obtain ⟨b2,hb2⟩ : ∃b,b=w.heap.size:=⟨_,rfl⟩;have K2:=hid (show Blk W1 b2 23 #[.int .i64 s.kind,.string s.text,.int .i64 s.n] by rw [hW1,hb2];exact Blk.new _ _ _);have HB:=hid (show Below w.heap.size w W1 by rw [hW1];exact (Zob _ _).alloc (Zoc _) _);rw [← hW1,← hb2];clear hW1 hb2
 go_loopw [5] (fun v wr=>∃i:Nat,v = .int .i64 (i:Int)∧i≤l.length∧(∀k,(h:k<l.length)→k<i→l[k].sym≠s)∧Below W1.heap.size W1 wr) (fun v wr=>l.length - (intOf v).toNat)
 case atStart=>exact ⟨0,rfl,Nat.zero_le _,fun k _ h=>absurd h (by omega),Zob _ _⟩
 case round=>
  obtain ⟨i,rfl,hi,hno,hbw⟩:=hrel;have HNO:=hid hno;have HBW:=hid hbw;have HBA:=hid (HB.out.trans (hbw.mono HB.out.size));clear hno hbw;obtain ⟨s0,s1,s2⟩:=(K2.out.new_ HBW.out).c3;have sz:=(K2.out.new_ HBW.out).lt;by_cases hlt:i<l.length
  · obtain ⟨y,hy⟩ : ∃y,y=l[i]:=⟨_,rfl⟩
    obtain ⟨g,off,hAA,hgl,hcell⟩:=(HR.out.new_ HBA.out).at_ hlt;subst hAA;rw [← hy] at hcell;have HY:=hid hy;(have q0:wr.cell? ⟨g,off+i*4,none⟩=some (.int .i64 y.sym.kind):=by simpa using hcell 0 _ rfl);(have q1:wr.cell? ⟨g,off+i*4+1,none⟩=some (.string y.sym.text):=by simpa using hcell 1 _ rfl);(have q2:wr.cell? ⟨g,off+i*4+2,none⟩=some (.int .i64 y.sym.n):=by simpa using hcell 2 _ rfl);(have q3:wr.cell? ⟨g,off+i*4+3,none⟩=some (.int .i64 y.n):=by simpa using hcell 3 _ rfl);(have j1:(0:Int)≤(i:Int):=by omega);(have j2:(i:Int)<(l.length:Int):=by omega);have v1:IntKind.i64.wrap ((i:Int)+1)=(i:Int)+1:=Zoq _ (by omega);have heq:=Z50 y.sym s;clear hcell hy;by_cases he:y.sym=s
    · have t1:decide (y.sym=s)=true:=by simpa using he
      rw [t1] at heq;have HE:=hid he;clear he t1;(go_wp2_with fail);go_quiet (fail);have HB2:=hid (Below.drewN' HBA.out nq);(go_wp2_with fail);go_ret;refine ⟨?_,HB2.out⟩;rw [Za6 hi HNO.out,Zpq hlt,lvD,← HY.out,if_pos HE.out];rfl
    · have t1:decide (y.sym=s)=false:=by simpa using he
      rw [t1] at heq;have HE:=hid he;clear he t1;(go_wp2_with fail);go_quiet (fail);have HB2:=hid (Below.drewN' HBW.out nq);clear q0 q1 q2 q3 s0 s1 s2 sz;(go_wp2_with fail);go_roundw
      case rel=>exact ⟨i+1,by go_num,by omega,fun k hk hki=>by
       by_cases e:k=i
       · subst e;rw [← HY.out];exact HE.out
       · exact HNO.out k hk (by omega),HB2.out⟩
      case measure=>simp [intOf]<;>omega
  · obtain rfl:i=l.length:=by omega
    (have jz : ¬(l.length:Int)<(l.length:Int):=by omega);(go_wp2_with fail);go_ret;refine ⟨?_,HBA.out⟩;rw [Za6 (Zoc _) HNO.out,Zpy];rfl
structure LrD (X:World) (o:List Z05) (A:Option Addr) (c:Nat) (dn:List Sym) (Ad:Option Addr) (cd:Nat) (w:World):Prop where
 o1:w.ownsRow 0 68 16 (.slice A o.length c) o.length (o.flatMap Z05.cells)
 a1:AIn A (X.heap.size≤·)
 o2:w.ownsRow 0 23 3 (.slice Ad dn.length cd) dn.length (dn.flatMap Sym.cells)
 a2:AIn Ad (X.heap.size≤·)
 bel:Below X.heap.size X w
section
variable {X w w':World} {o:List Z05} {A:Option Addr} {c:Nat} {dn:List Sym} {Ad:Option Addr} {cd:Nat}
theorem LrD.new_ (h:LrD X o A c dn Ad cd w) (hb:Below w.heap.size w w'):LrD X o A c dn Ad cd w':=⟨Z02 h.o1 hb,h.a1,Z02 h.o2 hb,h.a2,h.bel.trans (hb.mono h.bel.size)⟩
theorem LrD.more1 {p:Z05} {v:Value} {Y:World} (h:LrD X o A c dn Ad cd w) (hown:Y.ownsRow 0 68 16 v (o.length+1) (o.flatMap Z05.cells ++ [p].flatMap Z05.cells))
 (hg:w.grownBy Y (Value.slice A o.length c).ownBlock) (hat:v.ownBlock=(Value.slice A o.length c).ownBlock∨v.ownBlock=some w.heap.size) :
 ∃A' c',v = .slice A' (o ++ [p]).length c'∧LrD X (o ++ [p]) A' c' dn Ad cd Y∧∀b t cs,Blk w b t cs→t≠68→Blk Y b t cs:=by
 obtain ⟨A',c',rfl,hF,hA,hO⟩:=Z1t (E:=fun j=>∃a,A=some a∧a.block=j) (fun a ha=>⟨a,ha,rfl⟩) hown hg hat;(have e2:(o ++ [p]).length=o.length+1:=by simp);refine ⟨A',c',by rw [e2],⟨by rw [e2,Zos];exact hO,fun a ha=>?_,Z0n h.o2 hF (fun g hg ⟨a,ha,e⟩=>Z26 h.o2 h.o1 (by decide) hg (by subst ha;subst e;rfl)),h.a2,h.bel.trans (hF.below h.bel.size (fun k hk ⟨a,ha,e⟩=>by have:X.heap.size≤a.block:=h.a1 a ha;omega))⟩,fun b t cs hb ht=>hb.fr hF (fun ⟨a,ha,e⟩=>Z01 h.o1 hb ht.symm (by subst ha;subst e;rfl))⟩;rcases hA a ha with ⟨b,hb,e⟩ | ⟨h1,_⟩
 · rw [← e];exact h.a1 b hb
 · have:=h.bel.size;show X.heap.size≤a.block;omega
theorem LrD.more2 {s:Sym} {v:Value} {Y:World} (h:LrD X o A c dn Ad cd w) (hown:Y.ownsRow 0 23 3 v (dn.length+1) (dn.flatMap Sym.cells ++ [s].flatMap Sym.cells))
 (hg:w.grownBy Y (Value.slice Ad dn.length cd).ownBlock) (hat:v.ownBlock=(Value.slice Ad dn.length cd).ownBlock∨v.ownBlock=some w.heap.size) :
 ∃A' c',v = .slice A' (dn ++ [s]).length c'∧LrD X o A c (dn ++ [s]) A' c' Y∧(∀a,A'=some a→(∃b,Ad=some b∧b.block=a.block)∨w.heap.size≤a.block)∧∀b t cs,Blk w b t cs→(∀a,Ad=some a→a.block≠b)→Blk Y b t cs:=by
 obtain ⟨A',c',rfl,hF,hA,hO⟩:=Z1t (E:=fun j=>∃a,Ad=some a∧a.block=j) (fun a ha=>⟨a,ha,rfl⟩) hown hg hat;(have e2:(dn ++ [s]).length=dn.length+1:=by simp);refine ⟨A',c',by rw [e2],⟨Z0n h.o1 hF (fun g hg ⟨a,ha,e⟩=>Z26 h.o1 h.o2 (by decide) hg (by subst ha;subst e;rfl)),h.a1,by rw [e2,Zos];exact hO,fun a ha=>?_,h.bel.trans (hF.below h.bel.size (fun k hk ⟨a,ha,e⟩=>by have:X.heap.size≤a.block:=h.a2 a ha;omega))⟩,fun a ha=>?_,fun b t cs hb hne=>hb.fr hF (fun ⟨a,ha,e⟩=>hne a ha e)⟩
 · rcases hA a ha with ⟨b,hb,e⟩ | ⟨h1,_⟩
   · rw [← e];exact h.a2 b hb
   · have:=h.bel.size;show X.heap.size≤a.block;omega
 · rcases hA a ha with ⟨b,hb,e⟩ | ⟨h1,_⟩
   · exact .inl ⟨b,hb,e⟩
   · exact .inr h1
end
theorem Z9p {X:World} (o:List Z05) (A:Option Addr) (c:Nat) (dn:List Sym) (Ad:Option Addr) (cd:Nat) (p:Z05) (w:World) (h:LrD X o A c dn Ad cd w) (ho:o.length≤1000) :
 Calls Tryz.prog 90 #[.slice A o.length c,.agg #[.int .i64 p.id.kind,.string p.id.text,.int .i64 p.id.n,.int .i64 p.attr.kind,.string p.attr.text,.int .i64 p.attr.n,.int .i64 p.value.kind,.string p.value.text,.int .i64 p.value.n,.int .i64 p.other.kind,.string p.other.text,.int .i64 p.other.n,.int .i64 p.kind,.bool p.o,.int .i64 p.level,.int .i64 p.by_]] w fun e w'=>∃A' c',e = .returned (.slice A' (addP o p).length c')∧LrD X (addP o p) A' c' dn Ad cd w'∧w.heap.size≤w'.heap.size∧∀b t cs,Blk w b t cs→t≠68→Blk w' b t cs:=by
 have HR:=hid h;obtain ⟨i0,hi0,hz0,hz1,hz2⟩:=infp Z8p;have hlc:=(Z0c Z05.cells_length h.o1).cap;clear h;go_enter Tryz.func90,Tryz.ntmps90;(go_upto_region 2 with fail);obtain ⟨W1,hW1⟩ : ∃W,W=w.alloc (.cells #[.int .i64 p.id.kind,.string p.id.text,.int .i64 p.id.n,.int .i64 p.attr.kind,.string p.attr.text,.int .i64 p.attr.n,.int .i64 p.value.kind,.string p.value.text,.int .i64 p.value.n,.int .i64 p.other.kind,.string p.other.text,.int .i64 p.other.n,.int .i64 p.kind,.bool p.o,.int .i64 p.level,.int .i64 p.by_] 68):=⟨_,rfl⟩;obtain ⟨b3,hb3⟩ : ∃b,b=w.heap.size:=⟨_,rfl⟩;have K3:=hid (show Blk W1 b3 68 #[.int .i64 p.id.kind,.string p.id.text,.int .i64 p.id.n,.int .i64 p.attr.kind,.string p.attr.text,.int .i64 p.attr.n,.int .i64 p.value.kind,.string p.value.text,.int .i64 p.value.n,.int .i64 p.other.kind,.string p.other.text,.int .i64 p.other.n,.int .i64 p.kind,.bool p.o,.int .i64 p.level,.int .i64 p.by_] by rw [hW1,hb3];exact Blk.new _ _ _);have HB:=hid (show Below w.heap.size w W1 by rw [hW1];exact (Zob _ _).alloc (Zoc _) _);rw [← hW1,← hb3];clear hW1 hb3
 go_loopw [5] (fun s wr=>∃i:Nat,s = .int .i64 (i:Int)∧i≤o.length∧p ∉ o.take i∧Below W1.heap.size W1 wr) (fun s wr=>o.length - (intOf s).toNat)
 case atStart=>exact ⟨0,rfl,Nat.zero_le _,by simp,Zob _ _⟩
 case round=>
  obtain ⟨i,rfl,hi,hno,hbw⟩:=hrel;have HNO:=hid hno;have HBW:=hid hbw;have HBA:=hid (HB.out.trans (hbw.mono HB.out.size));clear hno hbw;have p0:=((K3.out.new_ HBW.out).cell 0).trans rfl;have p1:=((K3.out.new_ HBW.out).cell 1).trans rfl;have p2:=((K3.out.new_ HBW.out).cell 2).trans rfl;have p3:=((K3.out.new_ HBW.out).cell 3).trans rfl;have p4:=((K3.out.new_ HBW.out).cell 4).trans rfl;have p5:=((K3.out.new_ HBW.out).cell 5).trans rfl;have p6:=((K3.out.new_ HBW.out).cell 6).trans rfl;have p7:=((K3.out.new_ HBW.out).cell 7).trans rfl;have p8:=((K3.out.new_ HBW.out).cell 8).trans rfl;have p9:=((K3.out.new_ HBW.out).cell 9).trans rfl;have p10:=((K3.out.new_ HBW.out).cell 10).trans rfl;have p11:=((K3.out.new_ HBW.out).cell 11).trans rfl;have p12:=((K3.out.new_ HBW.out).cell 12).trans rfl;have p13:=((K3.out.new_ HBW.out).cell 13).trans rfl;have p14:=((K3.out.new_ HBW.out).cell 14).trans rfl;have p15:=((K3.out.new_ HBW.out).cell 15).trans rfl;have pz:=(K3.out.new_ HBW.out).lt;by_cases hlt:i<o.length
  · obtain ⟨y,hy⟩ : ∃y,y=o[i]:=⟨_,rfl⟩
    obtain ⟨g,off,hAA,hgl,hcell⟩:=(Z0c Z05.cells_length (HR.out.new_ HBA.out).o1).at_ hlt;rw [← hy] at hcell;subst hAA;have HTK:=hid (show o.take (i+1)=o.take i ++ [y] by rw [Zp2,Zok hlt,hy];rfl);have HIN:=hid (show y∈o by rw [hy];exact Zp7 hlt);(have q0:wr.cell? ⟨g,off+i*16,none⟩=some (.int .i64 y.id.kind):=by simpa using hcell 0 _ rfl);(have q1:wr.cell? ⟨g,off+i*16+1,none⟩=some (.string y.id.text):=by simpa using hcell 1 _ rfl);(have q2:wr.cell? ⟨g,off+i*16+2,none⟩=some (.int .i64 y.id.n):=by simpa using hcell 2 _ rfl);(have q3:wr.cell? ⟨g,off+i*16+3,none⟩=some (.int .i64 y.attr.kind):=by simpa using hcell 3 _ rfl);(have q4:wr.cell? ⟨g,off+i*16+4,none⟩=some (.string y.attr.text):=by simpa using hcell 4 _ rfl);(have q5:wr.cell? ⟨g,off+i*16+5,none⟩=some (.int .i64 y.attr.n):=by simpa using hcell 5 _ rfl);(have q6:wr.cell? ⟨g,off+i*16+6,none⟩=some (.int .i64 y.value.kind):=by simpa using hcell 6 _ rfl);(have q7:wr.cell? ⟨g,off+i*16+7,none⟩=some (.string y.value.text):=by simpa using hcell 7 _ rfl);(have q8:wr.cell? ⟨g,off+i*16+8,none⟩=some (.int .i64 y.value.n):=by simpa using hcell 8 _ rfl);(have q9:wr.cell? ⟨g,off+i*16+9,none⟩=some (.int .i64 y.other.kind):=by simpa using hcell 9 _ rfl);(have q10:wr.cell? ⟨g,off+i*16+10,none⟩=some (.string y.other.text):=by simpa using hcell 10 _ rfl);(have q11:wr.cell? ⟨g,off+i*16+11,none⟩=some (.int .i64 y.other.n):=by simpa using hcell 11 _ rfl);(have q12:wr.cell? ⟨g,off+i*16+12,none⟩=some (.int .i64 y.kind):=by simpa using hcell 12 _ rfl);(have q13:wr.cell? ⟨g,off+i*16+13,none⟩=some (.bool y.o):=by simpa using hcell 13 _ rfl);(have q14:wr.cell? ⟨g,off+i*16+14,none⟩=some (.int .i64 y.level):=by simpa using hcell 14 _ rfl);(have q15:wr.cell? ⟨g,off+i*16+15,none⟩=some (.int .i64 y.by_):=by simpa using hcell 15 _ rfl);(have j1:(0:Int)≤(i:Int):=by omega);(have j2:(i:Int)<(o.length:Int):=by omega);have v1:IntKind.i64.wrap ((i:Int)+1)=(i:Int)+1:=Zoq _ (by omega);have heq:=Zbc y p;clear hcell hy;by_cases he:y=p
    · have t1:decide (y=p)=true:=by simpa using he
      rw [t1] at heq;have HE:=hid (show addP o p=o by rw [addP,if_pos (he ▸ HIN.out)]);clear he t1;(go_wp2_with fail);go_quiet (fail);have HB2:=hid (Below.drewN' HBA.out nq);(go_wp2_with fail);go_ret;exact ⟨some ⟨g,off,none⟩,c,by rw [HE.out];rfl,by rw [HE.out];exact HR.out.new_ HB2.out,HB2.out.size,fun b t cs hb _=>hb.new_ HB2.out⟩
    · have t1:decide (y=p)=false:=by simpa using he
      rw [t1] at heq;have HE:=hid he;clear he t1;(go_wp2_with fail);go_quiet (fail);have HB2:=hid (Below.drewN' HBW.out nq);clear q0 q1 q2 q3 q4 q5 q6 q7 q8 q9 q10 q11 q12 q13 q14 q15 pz;(go_wp2_with fail);go_roundw
      case rel=>exact ⟨i+1,by go_num,by omega,by rw [HTK.out,Zpg,Zpl];exact fun h=>h.elim HNO.out (fun e=>HE.out e.symm),HB2.out⟩
      case measure=>simp [intOf]<;>omega
  · obtain rfl:i=o.length:=by omega
    (have jz : ¬(o.length:Int)<(o.length:Int):=by omega);have HNO:=hid (show p ∉ o by have:=HNO.out;rwa [Zoy] at this);have hp:=(K3.out.new_ HBW.out).range;have HR9:=hid (HR.out.new_ HBA.out);obtain ⟨W8,hW8⟩ : ∃W,W=wr.alloc (.cells #[.int .i64 p.id.kind,.string p.id.text,.int .i64 p.id.n,.int .i64 p.attr.kind,.string p.attr.text,.int .i64 p.attr.n,.int .i64 p.value.kind,.string p.value.text,.int .i64 p.value.n,.int .i64 p.other.kind,.string p.other.text,.int .i64 p.other.n,.int .i64 p.kind,.bool p.o,.int .i64 p.level,.int .i64 p.by_] 68):=⟨_,rfl⟩;have HW8:=hid hW8;(have hb8:Below wr.heap.size wr W8:=by rw [hW8];exact (Zob _ _).alloc (Zoc _) _);have HR8:=hid (HR9.out.new_ hb8);have HB8:=hid (HBA.out.trans (hb8.mono HBA.out.size));have HN8:=hid (show 0<1→∃ad,(some (⟨wr.heap.size,0,none⟩:Addr))=some ad∧∀j u,([p].flatMap Z05.cells)[j]? = some u→W8.cell? (ad.add j)=some u from fun _=>⟨_,rfl,by rw [hW8];exact Zou (heap_alloc_new _ _)⟩);clear hW8 hb8 p0 p1 p2 p3 p4 p5 p6 p7 p8 p9 p10 p11 p12 p13 p14 p15 pz
    go_wp2_with (first
     | (with_reducible refine wpList_load_mid rfl 68 _ rfl b3 0 rfl _ _ hp Tryz.underlying68 rfl (by kernel_rfl) ?_)
     | (at_builtin;rw [← HW8.out];refine Z08 W8 rfl (.tmp 19) (.tmp 21) 29 rfl 68 i0 _ 16 160 Tryz.underlying29 hi0 hz0 hz1 hz2 rfl (by omega) (.slice A o.length c) o.length (o.flatMap Z05.cells) rfl HR8.out.o1 (some ⟨wr.heap.size,0,none⟩) 1 1 ([p].flatMap Z05.cells) rfl rfl HN8.out (Z6x _) (by unfold maxLen;omega) (by omega) ?_;intro v3 Y hown1 hg1 hnil1 hat1;have HZ9:=hid (hg1.size);obtain ⟨A9,c9,rfl,hr9,hk9⟩:=HR8.out.more1 hown1 hg1 hat1;have HR9:=hid hr9;have HK9:=hid hk9;clear hown1 hg1 hnil1 hat1 hr9 hk9))
    go_ret;(have e9:addP o p=o ++ [p]:=by rw [addP,if_neg HNO.out]);exact ⟨A9,c9,by rw [e9,Zot];rfl,by rw [e9];exact HR9.out,Zop HB8.out.size HZ9.out,fun b t cs hb ht=>HK9.out b t cs (hb.new_ HB8.out) ht⟩
end
end Go.Proofs.YtldndkngpdfpfaaGreat
