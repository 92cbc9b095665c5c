/-
  Texts put together: RefVars, OthA, EagerN, Canon9.
-/
import Derived.Test.YtffemfglngikbaaOk
import Derived.Test.YtffemfglngikbaaOb
import Derived.Test.YtffemfglngikbaaOj
import Derived.Deep.MidRow
import Derived.Test.YtffemfglngikbaaOc
import Derived.Maps.RangeWalk
namespace Go.Proofs.Ytffemfglngikbaa
open Go.RowKit Go.Shelf
theorem rnames_is : ∀n:Nat,RNSpec n
 | 0=>rnames_step 0 (fun m h=>by omega)
 | n+1=>rnames_step (n+1) (fun m h=>by obtain rfl:n=m:=by omega
                                       exact rnames_is n)
theorem ones_len : ∀l:List ByteArray,(l.flatMap oneN).length≤l.length
 | []=>by simp
 | v :: l=>by have h1:=oneN_len v;have h2:=ones_len l;rw [List.flatMap_cons,List.length_append,List.length_cons];omega
structure RV (X:World) (p:ProdT) (A1:Option Addr) (c1:Nat) (A2:Option Addr) (c2:Nat) (out:List ByteArray) (A:Option Addr) (cp:Nat) (w:World):Prop where
 own:w.ownsRow 0 9 1 (.slice A out.length cp) out.length (out.flatMap strC)
 ain:AIn A (X.heap.size≤·)
 blk:Blk w X.heap.size 25 #[.string p.name,.slice A1 p.conds.length c1,.slice A2 p.acts.length c2]
 bel:Below X.heap.size X w
section
variable {X w w':World} {p:ProdT} {A1 A2 A:Option Addr} {c1 c2 cp:Nat} {out ys:List ByteArray}
theorem RV.new_ (h:RV X p A1 c1 A2 c2 out A cp w) (hb:Below w.heap.size w w'):RV X p A1 c1 A2 c2 out A cp w':=⟨ownsRow_new h.own hb,h.ain,h.blk.new_ hb,h.bel.trans (hb.mono h.bel.size)⟩
theorem RV.app {v:Value} (h:RV X p A1 c1 A2 c2 out A cp w) (hown:w'.ownsRow 0 9 1 v (out.length+ys.length) (out.flatMap strC++ys.flatMap strC)) (hg:w.grownBy w' (Value.slice A out.length cp).ownBlock) (hat:v.ownBlock=(Value.slice A out.length cp).ownBlock∨v.ownBlock=some w.heap.size) :
 ∃A' c',v = .slice A' (out++ys).length c'∧RV X p A1 c1 A2 c2 (out++ys) A' c' w'∧Fr (fun k=>(Value.slice A out.length cp).ownBlock=some k) w w'∧(∀g,g<w.heap.size→AIn A (·≠g)→AIn A' (·≠g)):=by
 obtain ⟨A',c',rfl,h1,h2,h3,h4⟩:=grown_str hown hg hat h.ain h.bel.size
 refine ⟨A',c',rfl,⟨h1,h2,h.blk.fr h4 (fun e=>own_blk_ne h.own h.blk (by decide) e),h.bel.trans h3⟩,h4,fun g hg2 hA a ha=>?_⟩
 subst ha
 rcases hat with e | e
 · cases A with
   | none=>cases e
   | some a0=>
     simp only [Value.ownBlock,Option.some.injEq] at e
     rw [e];exact hA a0 rfl
 · simp only [Value.ownBlock,Option.some.injEq] at e
   omega
theorem RV.far (h:RV X p A1 c1 A2 c2 out A cp w) {g:Nat} (hg:w.heap.size≤g):AIn A (·≠g):=fun a ha=>by
 rcases h.own.2 with ⟨e,_⟩ | ⟨k,cap,cur,e,_,hk,_⟩
 · injection e with e1;rw [e1] at ha;cases ha
 · injection e with e1;rw [e1] at ha
   injection ha with ha
   subst ha
   have:=(Array.getElem?_eq_some_iff.1 hk).1
   show k≠g
   omega
end
set_option maxRecDepth 100000 in
set_option maxHeartbeats 16000000 in
theorem rvars_is (n:Nat) (p:ProdT) (A1:Option Addr) (c1:Nat) (A2:Option Addr) (c2:Nat) (D:Nat→Prop) (X:World) (h1:RowR (repCondT n) D X A1 c1 p.conds) (h2:RowR repActT D X A2 c2 p.acts) (hs : ∀x∈p.conds,SmC n x) (hal:p.acts.length≤1000) (hlen:(varsP n p).length≤100000) :
 Calls Try.prog 9 #[.agg #[.string p.name,.slice A1 p.conds.length c1,.slice A2 p.acts.length c2]] X (StrsTo X (varsP n p)):=by
 obtain ⟨i0,hi0,hz0,hz1,hz2⟩:=info_parts info_Str
 have HS:=Lib.hid hs
 have HAL:=Lib.hid hal
 have HLEN:=Lib.hid hlen
 have H1:=Lib.hid h1
 have H2:=Lib.hid h2
 have hac1:=h1.cap
 have hac2:=h2.cap
 clear hs hal hlen h1 h2
 go_enter Try.func9,Try.ntmps9
 go_upto_region 1 with fail
 obtain ⟨W1,hW1⟩ : ∃W1,W1=X.alloc (.cells #[.string p.name,.slice A1 p.conds.length c1,.slice A2 p.acts.length c2] 25):=⟨_,rfl⟩
 have hb1:Below X.heap.size X W1:=by rw [hW1];exact (Below.refl _ _).alloc (Nat.le_refl _) _
 have HN1:=Lib.hid (show RV X p A1 c1 A2 c2 [] none 0 W1 from ⟨owns_nilC _ _ _,AIn.none_ _,by rw [hW1];exact Blk.new _ _ _,hb1⟩)
 rw [← hW1]
 clear hW1 hb1
 go_wp2_with fail
 go_loopw [3,4] (fun v s wr=>∃(i:Nat) (out:List ByteArray) (A:Option Addr) (cp:Nat),s = .int .i64 i∧v = .slice A out.length cp∧i≤p.conds.length∧out=(p.conds.take i).flatMap (namesN n)∧RV X p A1 c1 A2 c2 out A cp wr) (fun v s wr=>p.conds.length - (intOf s).toNat)
 case atStart=>exact ⟨0,[],none,0,rfl,rfl,Nat.zero_le _,by simp,HN1.out⟩
 case round=>
  clear HN1
  obtain ⟨i,out,A,cp,rfl,rfl,hi,hout,hn⟩:=hrel
  have HNR:=Lib.hid hn
  have HOUT:=Lib.hid hout
  obtain ⟨q0,q1,q2⟩:=hn.blk.c3
  have qz:=hn.blk.lt
  clear hn hout
  by_cases hlt:i<p.conds.length
  · obtain ⟨m,hnm⟩ : ∃m,n=m+1:=by
     cases n with
     | zero=>have:=row_zero H1.out;rw [this] at hlt;simp at hlt
     | succ m=>exact ⟨m,rfl⟩
    subst hnm
    obtain ⟨y,hy⟩ : ∃y,y=p.conds[i]:=⟨_,rfl⟩
    have hcr:=H1.out.new_ HNR.out.bel
    obtain ⟨gt,ot,B1,b1_,B2,b2_,B3,b3_,hA,_,hgt,p0,p1,p2,p3,p4,p5,p6,r1,r2,r3⟩:=at_CondT hcr hlt
    subst hA
    rw [← hy] at p0 p1 p2 p3 p4 p5 p6 r1 r2 r3
    have htk:(p.conds.take (i+1)).flatMap (namesN (m+1))=(p.conds.take i).flatMap (namesN (m+1))++namesN (m+1) y:=by rw [← take_snoc hlt,List.flatMap_append,hy];simp
    have htot:(out++namesN (m+1) y).length≤(varsP (m+1) p).length:=by
     have e:varsP (m+1) p=out++namesN (m+1) y++((p.conds.drop (i+1)).flatMap (namesN (m+1))++p.acts.flatMap varsA):=by
      rw [HOUT.out,← htk,← List.append_assoc,← List.flatMap_append,List.take_append_drop,varsP]
     rw [e];simp only [List.length_append];omega
    rw [List.length_append] at htot
    have hl9:=HLEN.out
    have hcall:=rnames_is m y B1 b1_ B2 b2_ B3 b3_ D wr (HS.out y (by rw [hy];exact List.getElem_mem hlt)) (by omega) r1 r2 r3
    obtain ⟨ns,hns⟩ : ∃ns,ns=namesN (m+1) y:=⟨_,rfl⟩
    rw [← hns] at hcall htk htot
    have HCALL:=Lib.hid hcall
    have HTK:=Lib.hid htk
    have ho1:out.length≤100000:=by omega
    have ho2:ns.length≤100000:=by omega
    have j1:(0:Int)≤(i:Int):=by omega
    have j2:(i:Int)<(p.conds.length:Int):=by omega
    clear hy hcr r1 r2 r3 htk htot hcall hns hl9
    go_wp2_with fail
    refine HCALL.out.mono ?_
    rintro e w8 ⟨A8,c8,rfl,ho8,hA8,hb8⟩
    have HO8:=Lib.hid (show RowRd w8 1 strC A8 c8 ns from ownsRow_rd strC_len ho8)
    have HN8:=Lib.hid (HNR.out.new_ hb8)
    clear ho8 hA8 hb8 p0 p1 p2 p3 p4 p5 p6 q0 q1 q2 qz
    go_wp2_with (at_builtin;refine wpList_append_src w8 rfl (.tmp 16) (.tmp 22) 28 rfl 9 i0 _ 1 16 Try.underlying28 hi0 hz0 hz1 hz2 rfl (by decide) (.slice A out.length cp) out.length (out.flatMap strC) rfl HN8.out.own A8 ns.length c8 (ns.flatMap strC) rfl (flat_length strC_len _) (HO8.out.news strC_len (by decide)) (str_one _) (by unfold maxLen;omega) (by omega) ?_;intro v1 w9 hown1 hg1 hnil1 hat1;obtain ⟨A9,c9,rfl,hn9,hf9,_⟩:=HN8.out.app hown1 hg1 hat1;have HN10:=Lib.hid hn9;clear hown1 hg1 hnil1 hat1 hn9 hf9)
    go_roundw
    case rel=>exact ⟨i+1,out++ns,A9,c9,by go_num,by simp,by omega,by rw [HTK.out,HOUT.out],HN10.out⟩
    case measure=>simp [intOf]<;>omega
  · obtain rfl:i=p.conds.length:=by omega
    have HOC:=Lib.hid (show out=p.conds.flatMap (namesN n)++((p.acts.take 0).flatMap varsA) by rw [HOUT.out,List.take_length];simp)
    have HCL:=Lib.hid (show (p.conds.flatMap (namesN n)).length≤100000 by have:=HLEN.out;unfold varsP at this;rw [List.length_append] at this;omega)
    obtain ⟨C,hC⟩ : ∃C,C=p.conds.flatMap (namesN n):=⟨_,rfl⟩
    have HVP:=Lib.hid (show varsP n p=C++p.acts.flatMap varsA by rw [hC];rfl)
    rw [← hC] at HOC HCL
    clear HOUT hC
    go_wp2_with fail
    go_loopw [3,5] (fun v s wr=>∃(i:Nat) (out:List ByteArray) (A:Option Addr) (cp:Nat),s = .int .i64 i∧v = .slice A out.length cp∧i≤p.acts.length∧out=C++((p.acts.take i).flatMap varsA)∧RV X p A1 c1 A2 c2 out A cp wr) (fun v s wr=>p.acts.length - (intOf s).toNat)
    case atStart=>exact ⟨0,out,A,cp,rfl,rfl,Nat.zero_le _,HOC.out,HNR.out⟩
    case round=>
     clear HOC HNR q0 q1 q2 qz
     obtain ⟨i,out,A,cp,rfl,rfl,hi,hout,hn⟩:=hrel
     have HNR:=Lib.hid hn
     have HBW:=Lib.hid hn.bel
     have HOUT:=Lib.hid hout
     obtain ⟨q0,q1,q2⟩:=hn.blk.c3
     have qz:=hn.blk.lt
     clear hn hout
     by_cases hlt:i<p.acts.length
     · skip
       obtain ⟨y,hy⟩ : ∃y,y=p.acts[i]:=⟨_,rfl⟩
       obtain ⟨g,off,hAA,_,hg,_⟩:=at_ActT (H2.out.new_ HBW.out) hlt
       subst hAA
       have HY:=Lib.hid hy
       have b1:(0:Int)≤(i:Int):=by omega
       have b2:(i:Int)<(p.acts.length:Int):=by omega
       have HRG:=Lib.hid (show wr.rangeAt g (off+i*19) [.string y.id,.string y.attr.var,.int .i64 y.attr.sym.kind,.string y.attr.sym.text,.int .i64 y.attr.sym.n,.int .i64 y.value.op,.string y.value.a.var,.int .i64 y.value.a.sym.kind,.string y.value.a.sym.text,.int .i64 y.value.a.sym.n,.string y.value.b.var,.int .i64 y.value.b.sym.kind,.string y.value.b.sym.text,.int .i64 y.value.b.sym.n,.int .i64 y.pref,.string y.other.var,.int .i64 y.other.sym.kind,.string y.other.sym.text,.int .i64 y.other.sym.n] from fun j v hv=>by
        obtain ⟨g',off',cs,e1,_,_,hr,hc⟩:=(H2.out.new_ HBW.out).at_ hlt
        cases e1
        have hr2:cs=ActT.cells p.acts[i]:=hr
        subst hr2
        rw [← HY.out] at hc
        exact hc j v hv)
       have HTH:=Lib.hid (show (wr.alloc (.cells #[.string ⟨#[]⟩,.string ⟨#[]⟩,.int .i64 0,.string ⟨#[]⟩,.int .i64 0,.int .i64 0,.string ⟨#[]⟩,.int .i64 0,.string ⟨#[]⟩,.int .i64 0,.string ⟨#[]⟩,.int .i64 0,.string ⟨#[]⟩,.int .i64 0,.int .i64 0,.string ⟨#[]⟩,.int .i64 0,.string ⟨#[]⟩,.int .i64 0] 58)).there wr.heap.size 0 (#[.string y.id,.string y.attr.var,.int .i64 y.attr.sym.kind,.string y.attr.sym.text,.int .i64 y.attr.sym.n,.int .i64 y.value.op,.string y.value.a.var,.int .i64 y.value.a.sym.kind,.string y.value.a.sym.text,.int .i64 y.value.a.sym.n,.string y.value.b.var,.int .i64 y.value.b.sym.kind,.string y.value.b.sym.text,.int .i64 y.value.b.sym.n,.int .i64 y.pref,.string y.other.var,.int .i64 y.other.sym.kind,.string y.other.sym.text,.int .i64 y.other.sym.n]:Array Value).size from (Blk.new wr 58 #[.string ⟨#[]⟩,.string ⟨#[]⟩,.int .i64 0,.string ⟨#[]⟩,.int .i64 0,.int .i64 0,.string ⟨#[]⟩,.int .i64 0,.string ⟨#[]⟩,.int .i64 0,.string ⟨#[]⟩,.int .i64 0,.string ⟨#[]⟩,.int .i64 0,.int .i64 0,.string ⟨#[]⟩,.int .i64 0,.string ⟨#[]⟩,.int .i64 0]).there)
       obtain ⟨W5,hW5⟩ : ∃W5,W5=(wr.alloc (.cells #[.string ⟨#[]⟩,.string ⟨#[]⟩,.int .i64 0,.string ⟨#[]⟩,.int .i64 0,.int .i64 0,.string ⟨#[]⟩,.int .i64 0,.string ⟨#[]⟩,.int .i64 0,.string ⟨#[]⟩,.int .i64 0,.string ⟨#[]⟩,.int .i64 0,.int .i64 0,.string ⟨#[]⟩,.int .i64 0,.string ⟨#[]⟩,.int .i64 0] 58)).setCells wr.heap.size 0 [.string y.id,.string y.attr.var,.int .i64 y.attr.sym.kind,.string y.attr.sym.text,.int .i64 y.attr.sym.n,.int .i64 y.value.op,.string y.value.a.var,.int .i64 y.value.a.sym.kind,.string y.value.a.sym.text,.int .i64 y.value.a.sym.n,.string y.value.b.var,.int .i64 y.value.b.sym.kind,.string y.value.b.sym.text,.int .i64 y.value.b.sym.n,.int .i64 y.pref,.string y.other.var,.int .i64 y.other.sym.kind,.string y.other.sym.text,.int .i64 y.other.sym.n]:=⟨_,rfl⟩
       have HW5:=Lib.hid hW5
       have HRG5:=Lib.hid (show W5.rangeAt wr.heap.size 0 [.string y.id,.string y.attr.var,.int .i64 y.attr.sym.kind,.string y.attr.sym.text,.int .i64 y.attr.sym.n,.int .i64 y.value.op,.string y.value.a.var,.int .i64 y.value.a.sym.kind,.string y.value.a.sym.text,.int .i64 y.value.a.sym.n,.string y.value.b.var,.int .i64 y.value.b.sym.kind,.string y.value.b.sym.text,.int .i64 y.value.b.sym.n,.int .i64 y.pref,.string y.other.var,.int .i64 y.other.sym.kind,.string y.other.sym.text,.int .i64 y.other.sym.n] by rw [hW5];exact World.rangeAt_setCells_same _ _ _ _ HTH.out)
       have HB5:=Lib.hid (show Below wr.heap.size wr W5 by rw [hW5];exact Below.setCells' _ _ ((Below.refl _ _).alloc (Nat.le_refl _) _) (Nat.le_refl _))
       have HTK:=Lib.hid (show (p.acts.take (i+1)).flatMap varsA=(p.acts.take i).flatMap varsA++(fives y).flatMap oneN by rw [← take_snoc hlt,List.flatMap_append,← hy];simp [varsA])
       have HOL:=Lib.hid (show out.length≤105000 by
        have h1:=varsAs_len (p.acts.take i)
        have h2:=HCL.out
        have h3:=HAL.out
        have h4:(p.acts.take i).length≤p.acts.length:=by rw [List.length_take];omega
        rw [HOUT.out,List.length_append];omega)
       have HN5:=Lib.hid (HNR.out.new_ HB5.out)
       have k0:W5.cell? ⟨wr.heap.size,0,none⟩=some (.string y.id):=by have:=HRG5.out 0 _ rfl;simpa using this
       have k1:W5.cell? ⟨wr.heap.size,1,none⟩=some (.string y.attr.var):=by have:=HRG5.out 1 _ rfl;simpa using this
       have k6:W5.cell? ⟨wr.heap.size,6,none⟩=some (.string y.value.a.var):=by have:=HRG5.out 6 _ rfl;simpa using this
       have k10:W5.cell? ⟨wr.heap.size,10,none⟩=some (.string y.value.b.var):=by have:=HRG5.out 10 _ rfl;simpa using this
       have k15:W5.cell? ⟨wr.heap.size,15,none⟩=some (.string y.other.var):=by have:=HRG5.out 15 _ rfl;simpa using this
       clear hy hW5
       go_upto_region 11 with (first
        | (with_reducible refine wpList_load_mid rfl 58 _ rfl g (off+i*19) rfl [.string y.id,.string y.attr.var,.int .i64 y.attr.sym.kind,.string y.attr.sym.text,.int .i64 y.attr.sym.n,.int .i64 y.value.op,.string y.value.a.var,.int .i64 y.value.a.sym.kind,.string y.value.a.sym.text,.int .i64 y.value.a.sym.n,.string y.value.b.var,.int .i64 y.value.b.sym.kind,.string y.value.b.sym.text,.int .i64 y.value.b.sym.n,.int .i64 y.pref,.string y.other.var,.int .i64 y.other.sym.kind,.string y.other.sym.text,.int .i64 y.other.sym.n] _ HRG.out Try.underlying58 rfl (by kernel_rfl) ?_)
        | ((with_reducible refine wpList_store_mid rfl 58 _ _ rfl wr.heap.size 0 #[.string y.id,.string y.attr.var,.int .i64 y.attr.sym.kind,.string y.attr.sym.text,.int .i64 y.attr.sym.n,.int .i64 y.value.op,.string y.value.a.var,.int .i64 y.value.a.sym.kind,.string y.value.a.sym.text,.int .i64 y.value.a.sym.n,.string y.value.b.var,.int .i64 y.value.b.sym.kind,.string y.value.b.sym.text,.int .i64 y.value.b.sym.n,.int .i64 y.pref,.string y.other.var,.int .i64 y.other.sym.kind,.string y.other.sym.text,.int .i64 y.other.sym.n] rfl rfl HTH.out (by kernel_rfl) (by kernel_rfl) ?_);rw [← HW5.out])
        | (with_reducible refine wpList_load_mid rfl 58 _ rfl wr.heap.size 0 rfl [.string y.id,.string y.attr.var,.int .i64 y.attr.sym.kind,.string y.attr.sym.text,.int .i64 y.attr.sym.n,.int .i64 y.value.op,.string y.value.a.var,.int .i64 y.value.a.sym.kind,.string y.value.a.sym.text,.int .i64 y.value.a.sym.n,.string y.value.b.var,.int .i64 y.value.b.sym.kind,.string y.value.b.sym.text,.int .i64 y.value.b.sym.n,.int .i64 y.pref,.string y.other.var,.int .i64 y.other.sym.kind,.string y.other.sym.text,.int .i64 y.other.sym.n] _ HRG5.out Try.underlying58 rfl (by kernel_rfl) ?_))
       obtain ⟨W6,hW6⟩ : ∃W,W=W5.alloc (.cells #[.string y.id,.string y.attr.var,.string y.value.a.var,.string y.value.b.var,.string y.other.var] 9):=⟨_,rfl⟩
       have hb6:Below W5.heap.size W5 W6:=by rw [hW6];exact (Below.refl _ _).alloc (Nat.le_refl _) _
       have HL6:=Lib.hid (show Blk W6 W5.heap.size 9 #[.string y.id,.string y.attr.var,.string y.value.a.var,.string y.value.b.var,.string y.other.var] by rw [hW6];exact Blk.new _ _ _)
       have HN6:=Lib.hid (HN5.out.new_ hb6)
       have HF6:=Lib.hid (HN5.out.far (Nat.le_refl _))
       rw [← hW6]
       clear hW6 hb6 k0 k1 k6 k10 k15 q0 q1 q2 qz b1 b2
       obtain ⟨gl,hgl⟩ : ∃g,g=W5.heap.size:=⟨_,rfl⟩
       rw [← hgl] at HL6 HF6 ⊢
       clear hgl
       go_wp2_with fail
       go_loopw [3,8] (fun v s wr=>∃(k:Nat) (out:List ByteArray) (A:Option Addr) (cp:Nat),s = .int .i64 k∧v = .slice A out.length cp∧k≤5∧out=C++((p.acts.take i).flatMap varsA)++((fives y).take k).flatMap oneN∧RV X p A1 c1 (some ⟨g,off,none⟩) c2 out A cp wr∧Blk wr gl 9 #[.string y.id,.string y.attr.var,.string y.value.a.var,.string y.value.b.var,.string y.other.var]∧AIn A (·≠gl)) (fun v s wr=>5 - (intOf s).toNat)
       case atStart=>exact ⟨0,out,A,cp,rfl,rfl,Nat.zero_le _,by rw [HOUT.out];simp,HN6.out,HL6.out,HF6.out⟩
       case round=>
        clear HN6 HL6 HF6 HN5 HNR
        have HOL0:=HOL
        have HOUT0:=HOUT
        clear HOL HOUT
        obtain ⟨k,out2,A6,cp6,rfl,rfl,hk,hout2,hn,hl,hf⟩:=hrel
        have HNR:=Lib.hid hn
        have HOUT:=Lib.hid hout2
        have HLR:=Lib.hid hl
        have HFR:=Lib.hid hf
        clear hn hout2 hl hf
        by_cases hk5:k<5
        · obtain ⟨v,hv⟩ : ∃v,v=(fives y)[k]'hk5:=⟨_,rfl⟩
          have lc:wr.cell? ⟨gl,k,none⟩=some (.string v):=by
           refine (HLR.out.cell k).trans ?_
           rw [hv]
           rcases (show k=0∨k=1∨k=2∨k=3∨k=4 by omega) with e | e | e | e | e<;>(subst e;rfl)
          have lz:=HLR.out.lt
          have HVT:=Lib.hid (show ((fives y).take (k+1)).flatMap oneN=((fives y).take k).flatMap oneN++oneN v by rw [← take_snoc (l:=fives y) hk5,List.flatMap_append,hv];simp)
          have hol:out2.length≤105005:=by
           have h1:=ones_len ((fives y).take k)
           have h2:((fives y).take k).length≤5:=by rw [List.length_take];omega
           have h3:=HOL0.out
           rw [HOUT0.out,List.length_append] at h3
           rw [HOUT.out,List.length_append,List.length_append];omega
          have j1:(0:Int)≤(k:Int):=by omega
          have j2:(k:Int)<5:=by omega
          clear hv
          by_cases hve:v.toList = []
          · have va:(v.toList == [])=true:=by simp [hve]
            have vb:v.toList.isEmpty=true:=by simp [hve]
            have vc:decide (v.toList = [])=true:=by simp [hve]
            have HON:=Lib.hid (show out2=C++((p.acts.take i).flatMap varsA)++((fives y).take (k+1)).flatMap oneN by rw [HVT.out,oneN_no hve,List.append_nil];exact HOUT.out)
            clear hve
            go_wp2_with fail
            go_roundw
            case rel=>exact ⟨k+1,out2,A6,cp6,by go_num,rfl,by omega,HON.out,HNR.out,HLR.out,HFR.out⟩
            case measure=>simp [intOf]<;>omega
          · have va:(v.toList == [])=false:=by simp [hve]
            have vb:v.toList.isEmpty=false:=by simp [hve]
            have vc:decide (v.toList = [])=false:=by simp [hve]
            have HON:=Lib.hid (show out2 ++ [v]=C++((p.acts.take i).flatMap varsA)++((fives y).take (k+1)).flatMap oneN by rw [HVT.out,oneN_yes hve,HOUT.out];simp)
            clear hve
            obtain ⟨Y9,hY9⟩ : ∃Y9,Y9=wr.alloc (.cells #[.string v] 9):=⟨_,rfl⟩
            have hb9:Below wr.heap.size wr Y9:=by rw [hY9];exact (Below.refl _ _).alloc (Nat.le_refl _) _
            have HY9:=Lib.hid hY9
            have HN9:=Lib.hid (HNR.out.new_ hb9)
            have HL9:=Lib.hid (HLR.out.new_ hb9)
            have HW9:=Lib.hid (show 0<1→∃ad,(some (⟨wr.heap.size,0,none⟩:Addr))=some ad∧∀j u,([v].flatMap strC)[j]? = some u→Y9.cell? (ad.add j)=some u from fun _=>⟨_,rfl,by rw [hY9];exact World.news_of_block (heap_alloc_new _ _)⟩)
            clear hY9 hb9
            go_wp2_with (at_builtin;rw [← HY9.out];refine wpList_append_src Y9 rfl (.tmp 64) (.tmp 69) 28 rfl 9 i0 _ 1 16 Try.underlying28 hi0 hz0 hz1 hz2 rfl (by decide) (.slice A6 out2.length cp6) out2.length (out2.flatMap strC) rfl HN9.out.own (some ⟨wr.heap.size,0,none⟩) 1 1 ([v].flatMap strC) rfl rfl HW9.out (str_one _) (by unfold maxLen;omega) (by omega) ?_;intro v1 w9 hown1 hg1 hnil1 hat1;obtain ⟨A9,c9,rfl,hn9,hf9,ha9⟩:=HN9.out.app (ys:=[v]) hown1 hg1 hat1;have HN10:=Lib.hid hn9;have HL10:=Lib.hid (HL9.out.fr hf9 (fun e=>by
             cases A6 with
             | none=>cases e
             | some a0=>simp only [Value.ownBlock,Option.some.injEq] at e;exact HFR.out a0 rfl e));have HF10:=Lib.hid (ha9 gl HL9.out.lt HFR.out);clear hown1 hg1 hnil1 hat1 hn9 hf9 ha9)
            go_roundw
            case rel=>exact ⟨k+1,out2 ++ [v],A9,c9,by go_num,by simp,by omega,HON.out,HN10.out,HL10.out,HF10.out⟩
            case measure=>simp [intOf]<;>omega
        · obtain rfl:k=5:=by omega
          have HOE:=Lib.hid (show out2=C++((p.acts.take (i+1)).flatMap varsA) by rw [HTK.out,HOUT.out,List.append_assoc];rfl)
          go_wp2_with fail
          go_roundw
          case rel=>exact ⟨i+1,out2,A6,cp6,by go_num,rfl,by omega,HOE.out,HNR.out⟩
          case measure=>simp [intOf]<;>omega
     · obtain rfl:i=p.acts.length:=by omega
       have HEN:=Lib.hid (show varsP n p=out by rw [HOUT.out,List.take_length,HVP.out])
       go_wp2_with fail
       go_ret
       rw [HEN.out]
       exact ⟨A,cp,rfl,HNR.out.own,HNR.out.ain,HNR.out.bel⟩
end Go.Proofs.Ytffemfglngikbaa
namespace Go.Proofs.Ytffemfglngikbaa
open Go.RowKit Go.Shelf
attribute [local go_sem] Oper.semAt_some
theorem strO_ne {u v:ByteArray} (h : ¬u=v) : ¬u.toList=v.toList:=fun e=>h (Go.WideShapes.bytes_inj (by rw [ByteArray.toList_eq,ByteArray.toList_eq] at e;exact e))
structure RQ (W0:World) (out:List ByteArray) (A:Option Addr) (cp:Nat) (w:World):Prop where
 own:w.ownsRow 0 9 1 (.slice A out.length cp) out.length (out.flatMap strC)
 ain:AIn A (W0.heap.size≤·)
 bel:Below W0.heap.size W0 w
section
variable {W0 w w':World} {A:Option Addr} {cp:Nat} {out ys:List ByteArray}
theorem RQ.new_ (h:RQ W0 out A cp w) (hb:Below w.heap.size w w'):RQ W0 out A cp w':=⟨ownsRow_new h.own hb,h.ain,h.bel.trans (hb.mono h.bel.size)⟩
theorem RQ.app {v:Value} (h:RQ W0 out A cp w) (hown:w'.ownsRow 0 9 1 v (out.length+ys.length) (out.flatMap strC++ys.flatMap strC)) (hg:w.grownBy w' (Value.slice A out.length cp).ownBlock) (hat:v.ownBlock=(Value.slice A out.length cp).ownBlock∨v.ownBlock=some w.heap.size) :
 ∃A' c',v = .slice A' (out++ys).length c'∧RQ W0 (out++ys) A' c' w':=by
 obtain ⟨A',c',rfl,h1,h2,h3,h4⟩:=grown_str hown hg hat h.ain h.bel.size
 exact ⟨A',c',rfl,⟨h1,h2,h.bel.trans h3⟩⟩
end
set_option maxHeartbeats 1000000 in
theorem merger_is (x y:ByteArray) (kx ky:Nat) (w0:World) (hx:Blk w0 kx 9 #[.string x]) (hy:Blk w0 ky 9 #[.string y]):NamerOk 23 #[.pointer (some ⟨kx,0,none⟩),.pointer (some ⟨ky,0,none⟩)] w0 (fun _=>True) (mergeT x y):=by
 refine ⟨fun args w=>by kernel_rfl,fun v W hW _=>?_⟩
 have hxW:=hx.new_ hW
 have hyW:=hy.new_ hW
 have x0:W.cell? ⟨kx,0,none⟩=some (.string x):=(hxW.cell 0).trans rfl
 have xz:=hxW.lt
 have y0:W.cell? ⟨ky,0,none⟩=some (.string y):=(hyW.cell 0).trans rfl
 have yz:=hyW.lt
 show Calls Try.prog 23 #[.string v,.pointer (some ⟨kx,0,none⟩),.pointer (some ⟨ky,0,none⟩)] W _
 clear hxW hyW hx hy
 by_cases he:v=x
 · have HE:=Lib.hid (show mergeT x y v=y by rw [mergeT,if_pos he])
   have e1:(v.toList == x.toList)=true:=by rw [he];exact beq_self_eq_true _
   have e2:v.toList=x.toList:=by rw [he]
   clear he
   go_enter Try.func23,Try.ntmps23
   go_wp2_with fail
   go_ret
   exact ⟨by rw [HE.out]<;>rfl,Below.refl _ _⟩
 · have HE:=Lib.hid (show mergeT x y v=v by rw [mergeT,if_neg he])
   have e2 : ¬v.toList=x.toList:=strO_ne he
   have e1:(v.toList == x.toList)=false:=by simpa using e2
   clear he
   go_enter Try.func23,Try.ntmps23
   go_wp2_with fail
   go_ret
   exact ⟨by rw [HE.out]<;>rfl,Below.refl _ _⟩
abbrev css0 (c:CondT) (E1:Option Addr) (e1:Nat) (E2:Option Addr) (e2:Nat) (E3:Option Addr) (e3:Nat):List Value:=[.int .i64 c.kind,.bool c.goal,.string c.id,.slice E1 c.attr.length e1,.slice E2 c.value.length e2,.bool c.acc,.slice E3 c.conds.length e3]
theorem ownC_cond {m:Nat} {C:Nat→Prop} {W:World} {B:Option Addr} {d:Nat} {c:CondT} {cs:List CondT} (h:OwnC (repCondT (m+1)) 50 C W (.slice B (c :: cs).length d) (c :: cs)) :
 ∃g cur,B=some ⟨g,0,none⟩∧Blk W g 50 cur∧W.cell? ⟨g,1,none⟩=some (.bool c.goal)∧W.cell? ⟨g,5,none⟩=some (.bool c.acc)∧
  (∀v,OwnC (repCondT (m+1)) 50 C (W.setCell ⟨g,1,none⟩ (.bool v)) (.slice B (c :: cs).length d) (goalC c v :: cs))∧
  ∀v,OwnC (repCondT (m+1)) 50 C (W.setCell ⟨g,5,none⟩ (.bool v)) (.slice B (c :: cs).length d) (accC c v :: cs):=by
 obtain ⟨css,hown,he,hC⟩:=h
 cases he with
 | @cons _ b _ mm hr he2=>
   obtain ⟨E1,e1,E2,e2,E3,e3,rfl,r1,r2,r3⟩:=hr
   have hown0:=hown
   rcases hown.2 with ⟨_,hn⟩ | ⟨g,cap,cur,hv,hb0,hg,hnc,hcm,hcs,ht⟩
   · simp at hn
   · injection hv with hB _ hd
     subst hB hd
     have hgC : ¬C g:=hC g rfl
     have hlen:7≤(c :: cs).length*(repCondT (m+1)).size:=by
      show 7≤(cs.length+1)*7
      omega
     have cell : ∀i,i<7→cur[i]? = (css0 c E1 e1 E2 e2 E3 e3)[i]?:=fun i hi=>by
      have h1:=congrArg (fun l:List Value=>l[i]?) ht
      rw [List.getElem?_take_of_lt (by omega),List.flatten_cons,List.getElem?_append_left (by simpa using hi)] at h1
      simpa using h1
     have keep : ∀(o:Nat) (u:Value) (l:List CondT) (l2:List (List Value)),Each2 (fun a cs=>(repCondT (m+1)).rep C W a cs) l l2→Each2 (fun a cs=>(repCondT (m+1)).rep C (W.setCell ⟨g,o,none⟩ u) a cs) l l2:=fun o u l l2 hh=>
      hh.imp fun a cs hr=>(repCondT (m+1)).keep (by simp) (fun k hk _=>⟨hk,Below.heap_setCell _ _ _ _ (by dsimp only;intro e;subst e;exact hgC hk)⟩) hr
     have kr : ∀(o:Nat) (u:Value) {α:Type} {r:RepT α} {A:Option Addr} {c:Nat} {l:List α},RowR r C W A c l→RowR r C (W.setCell ⟨g,o,none⟩ u) A c l:=fun o u _ _ _ _ _ hh=>
      hh.keep (by simp) (fun k hk _=>⟨hk,Below.heap_setCell _ _ _ _ (by dsimp only;intro e;subst e;exact hgC hk)⟩)
     refine ⟨g,cur,rfl,hg,(Blk.cell (t:=50) hg 1).trans (cell 1 (by decide)),(Blk.cell (t:=50) hg 5).trans (cell 5 (by decide)),fun v=>?_,fun v=>?_⟩
     · refine ⟨[.int .i64 c.kind,.bool v,.string c.id,.slice E1 c.attr.length e1,.slice E2 c.value.length e2,.bool c.acc,.slice E3 c.conds.length e3] :: mm,?_,.cons ⟨E1,e1,E2,e2,E3,e3,rfl,kr _ _ r1,kr _ _ r2,kr _ _ r3⟩ (keep _ _ _ _ he2),fun k hk=>hC k hk⟩
       have:=(hown0.stored 1 (.bool v)).1
       exact this
     · refine ⟨[.int .i64 c.kind,.bool c.goal,.string c.id,.slice E1 c.attr.length e1,.slice E2 c.value.length e2,.bool v,.slice E3 c.conds.length e3] :: mm,?_,.cons ⟨E1,e1,E2,e2,E3,e3,rfl,kr _ _ r1,kr _ _ r2,kr _ _ r3⟩ (keep _ _ _ _ he2),fun k hk=>hC k hk⟩
       have:=(hown0.stored 5 (.bool v)).1
       exact this
theorem own_act {W:World} {B:Option Addr} {d:Nat} {a:ActT} {az:List ActT} (h:W.ownsRow 0 58 19 (.slice B (a :: az).length d) (a :: az).length ((a :: az).flatMap ActT.cells)) :
 ∃g cur,B=some ⟨g,0,none⟩∧Blk W g 58 cur∧W.rangeAt g 0 (ActT.cells a)∧∀k:Int,(W.setCell ⟨g,14,none⟩ (.int .i64 k)).ownsRow 0 58 19 (.slice B (a :: az).length d) (a :: az).length (({ a with pref:=k } :: az).flatMap ActT.cells):=by
 have h0:=h
 rcases h.2 with ⟨_,hn⟩ | ⟨g,cap,cur,hv,hb0,hg,hnc,hcm,hcs,ht⟩
 · simp at hn
 · injection hv with hB _ hd
   subst hB hd
   refine ⟨g,cur,rfl,hg,fun j v hj=>?_,fun k=>?_⟩
   · rw [Nat.zero_add,Blk.cell (t:=58) hg j]
     have hj19:j<19:=by have:=(List.getElem?_eq_some_iff.1 hj).1;rw [ActT.cells_length] at this;exact this
     have h1:=congrArg (fun l:List Value=>l[j]?) ht
     rw [List.getElem?_take_of_lt (by simp;omega),List.flatMap_cons,List.getElem?_append_left (by rw [ActT.cells_length];exact hj19),hj] at h1
     simpa using h1
   · have:=(h0.stored 14 (.int .i64 k)).1
     exact this
theorem ain_own {B:Option Addr} {S:Nat→Prop} {n c j:Nat} (h:AIn B S) (hj:(Value.slice B n c).ownBlock=some j):S j:=by
 rcases B with _ | a
 · simp [Value.ownBlock] at hj
 · simp only [Value.ownBlock,Option.some.injEq] at hj
   subst hj
   exact h a rfl
def CopyP (n:Nat) (p:ProdT) (w:World) (en:Ending) (w':World):Prop:=
 ∃C B1 d1 B2 d2,en = .returned (.agg #[.string p.name,.slice B1 p.conds.length d1,.slice B2 p.acts.length d2])∧OwnC (repCondT n) 50 C w' (.slice B1 p.conds.length d1) p.conds∧(∀j,C j→NewD w.heap.size w' j)∧AIn B1 (NewD w.heap.size w')∧
  w'.ownsRow 0 58 19 (.slice B2 p.acts.length d2) p.acts.length (p.acts.flatMap ActT.cells)∧AIn B2 (fun j=>NewD w.heap.size w' j∧¬C j)∧Below w.heap.size w w'
set_option maxRecDepth 100000 in
set_option maxHeartbeats 8000000 in
theorem copyprodC_is {D:Nat→Prop} (n:Nat) (p:ProdT) (A1:Option Addr) (c1:Nat) (A2:Option Addr) (c2:Nat) (w:World)
 (h1:RowR (repCondT n) D w A1 c1 p.conds) (h2:RowR repActT D w A2 c2 p.acts) (hl1:p.conds.length≤1000) (hl2:p.acts.length≤1000) (hs : ∀x∈p.conds,SmC n x) :
 Calls Try.prog 16 #[.agg #[.string p.name,.slice A1 p.conds.length c1,.slice A2 p.acts.length c2]] w (CopyP n p w):=by
 have HK1:=Lib.hid (show ∀W,Below w.heap.size w W→Calls Try.prog 31 #[.slice A1 p.conds.length c1] W _ from fun W hW=>kcondsC_is n (fun m _=>kcond_is m) A1 c1 p.conds W (h1.new_ hW) ⟨hl1,hs⟩)
 have HK2:=Lib.hid (show ∀W,Below w.heap.size w W→Calls Try.prog 32 #[.slice A2 p.acts.length c2] W _ from fun W hW=>cp_Act A2 c2 p.acts W (RowR.rd (hs:=ActT.cells_length) (h2.new_ hW)) (by omega))
 clear h1 h2 hs
 go_enter Try.func16,Try.ntmps16
 go_upto_region 1 with fail
 obtain ⟨w1,hw1⟩ : ∃w1,w1=((w.alloc (.cells #[.string p.name,.slice A1 p.conds.length c1,.slice A2 p.acts.length c2] 25)).alloc (.cells #[.string ⟨#[]⟩,.slice none 0 0,.slice none 0 0] 25)):=⟨_,rfl⟩
 rw [← hw1]
 have HB:=Lib.hid (show Below w.heap.size w w1 by rw [hw1];exact (by repeat (first | exact Below.refl _ _ | refine Below.drew ?_ | refine Below.al ?_ _ | refine Below.sc ?_ _)))
 have Kp:=Lib.hid (show Blk w1 (w.heap.size) 25 #[.string p.name,.slice A1 p.conds.length c1,.slice A2 p.acts.length c2] by rw [hw1];exact ((Blk.new w 25 #[.string p.name,.slice A1 p.conds.length c1,.slice A2 p.acts.length c2]).alloc (.cells #[.string ⟨#[]⟩,.slice none 0 0,.slice none 0 0] 25)))
 have Kr:=Lib.hid (show Blk w1 (w.heap.size+1) 25 #[.string ⟨#[]⟩,.slice none 0 0,.slice none 0 0] by rw [hw1];have hh:=(Blk.new (w.alloc (.cells #[.string p.name,.slice A1 p.conds.length c1,.slice A2 p.acts.length c2] 25)) 25 #[.string ⟨#[]⟩,.slice none 0 0,.slice none 0 0]);simp only [World.size_alloc] at hh;exact hh)
 clear hw1
 obtain ⟨p0,p1,p2⟩:=Kp.out.c3
 have pz:=Kp.out.lt
 obtain ⟨r0,r1,r2⟩:=Kr.out.c3
 have rz:=Kr.out.lt
 refine wp_region_E (fun w9=>Below w1.heap.size w1 w9) [(0,0),(1,1),(2,0),(3,1),(5,0),(6,1),(4,2),(7,2),(8,0),(9,2)] (by kernel_rfl) (by kernel_rfl) (fun KK hKK=>?_)
 simp only [beside,List.filterMap_cons,List.filterMap_nil,List.getElem?_toArray,List.getElem?_cons_zero,List.getElem?_cons_succ,Option.map_some]
 repeat ((first | (refine wpX_w ?_ (Or.inl ⟨by rfl,fun w9=>?_⟩) ?_;rotate_left 1;go_simp;with_reducible rfl) | (refine wpX_l ?_ (((Below.refl _ _).drew)) (Or.inl ⟨by rfl,fun w9 hw9=>?_⟩) ?_;rotate_left 1;obtain ⟨hc9,hf9⟩:=bcell hw9;go_simp;with_reducible rfl) | refine wpX_w undef (Or.inr ⟨by rfl,rfl⟩) ?_ | refine wpX_l undef (((Below.refl _ _).drew)) (Or.inr ⟨by rfl,rfl⟩) ?_);go_frame)
 refine wpX_es (fun K9 hK9=>?_)
 go_simp
 refine (HK1.out _ (HB.out.trans (((Below.refl w1.heap.size w1).drew).mono HB.out.size))).mono ?_
 rintro e w31 ⟨v,rfl,C,B1,d1,rfl,k1,k2,k3,hb31⟩
 have HB31:=Lib.hid (show Below w1.heap.size w1 w31 from ((Below.refl w1.heap.size w1).drew).trans hb31)
 have HO1:=Lib.hid k1
 have HC1:=Lib.hid (show ∀j,C j→NewD w1.heap.size w31 j from k2)
 have HA1:=Lib.hid (show AIn B1 (NewD w1.heap.size w31) from k3)
 clear hb31 k1 k2 k3
 refine hK9 _ _ HB31.out ?_
 clear hK9 K9
 refine wpX_es (fun K9 hK9=>?_)
 go_simp
 refine (HK2.out _ (HB.out.trans (HB31.out.mono HB.out.size))).mono ?_
 rintro e w32 ⟨B2,d2,rfl,ho,hA,hb32⟩
 have HB32:=Lib.hid (HB31.out.trans (hb32.mono HB31.out.size))
 have HO2:=Lib.hid ho
 have HA2:=Lib.hid (show AIn B2 (fun j=>NewD w1.heap.size w32 j∧¬C j) from hA.mono (fun j hj=>⟨⟨by have:=hj.1;have:=HB31.out.size;omega,hj.2⟩,fun hc=>by have:=(HC1.out j hc).2;have:=hj.1;omega⟩))
 have HO1:=Lib.hid (HO1.out.new_ hb32)
 have HC1:=Lib.hid (show ∀j,C j→NewD w1.heap.size w32 j from fun j hj=>⟨(HC1.out j hj).1,Nat.lt_of_lt_of_le (HC1.out j hj).2 hb32.size⟩)
 have HA1:=Lib.hid (show AIn B1 (NewD w1.heap.size w32) from HA1.out.mono (fun j hj=>⟨hj.1,Nat.lt_of_lt_of_le hj.2 hb32.size⟩))
 have HKR:=Lib.hid (Kr.out.new_ HB32.out)
 clear hb32 ho hA
 refine hK9 _ _ HB32.out ?_
 clear hK9 K9
 repeat ((first | (refine wpX_w ?_ (Or.inl ⟨by rfl,fun w9=>?_⟩) ?_;rotate_left 1;go_simp;with_reducible rfl) | (refine wpX_l ?_ (HB32.out) (Or.inl ⟨by rfl,fun w9 hw9=>?_⟩) ?_;rotate_left 1;obtain ⟨hc9,hf9⟩:=bcell hw9;go_simp;with_reducible rfl) | refine wpX_w undef (Or.inr ⟨by rfl,rfl⟩) ?_ | refine wpX_l undef (HB32.out) (Or.inr ⟨by rfl,rfl⟩) ?_);go_frame)
 refine wpX_e (by kernel_rfl) (fun K9 hK9=>?_)
 have HTH:=Lib.hid (show w32.there (w.heap.size+1) 0 (#[Value.string p.name,Value.slice B1 p.conds.length d1,Value.slice B2 p.acts.length d2]:Array Value).size from HKR.out.there)
 refine step_store_el rfl 25 _ _ rfl (w.heap.size+1) 0 #[Value.string p.name,Value.slice B1 p.conds.length d1,Value.slice B2 p.acts.length d2] rfl rfl HTH.out (by kernel_rfl) (by kernel_rfl) ?_
 refine hK9 _ _ ?_
 clear hK9 K9
 refine wpX_nil ?_
 simp only [OnlyN_normal]
 refine hKK _ _ ?_
 clear hKK KK
 go_wp2_with fail
 try simp only [Exit.inBlock,Exit.then]
 have HRZ:=Kr.out.lt
 have hB9:Below w.heap.size w (w32.setCells (w.heap.size+1) 0 [Value.string p.name,Value.slice B1 p.conds.length d1,Value.slice B2 p.acts.length d2]):=Below.setCells' _ _ (HB.out.trans (HB32.out.mono HB.out.size)) (by omega)
 have hz1:=HB.out.size
 have hup : ∀j,NewD w1.heap.size w32 j→NewD w.heap.size (w32.setCells (w.heap.size+1) 0 [Value.string p.name,Value.slice B1 p.conds.length d1,Value.slice B2 p.acts.length d2]) j∧(w32.setCells (w.heap.size+1) 0 [Value.string p.name,Value.slice B1 p.conds.length d1,Value.slice B2 p.acts.length d2]).heap[j]? = w32.heap[j]?:=fun j hj=>⟨⟨by have:=hj.1;omega,by rw [size_setCells];exact hj.2⟩,blk_setCells _ _ _ _ _ (by have:=hj.1;omega)⟩
 refine bodyPost_ret (v:=.agg #[.string p.name,.slice B1 p.conds.length d1,.slice B2 p.acts.length d2]) ?_ rfl ⟨C,B1,d1,B2,d2,rfl,HO1.out.keep (by rw [size_setCells];omega) (fun j hj _=>⟨hj,(hup j (HC1.out j hj)).2⟩) (fun j hj=>⟨(hup j (ain_own HA1.out hj)).2,HO1.out.off j hj⟩),fun j hj=>(hup j (HC1.out j hj)).1,HA1.out.mono (fun j hj=>(hup j hj).1),?_,HA2.out.mono (fun j hj=>⟨(hup j hj.1).1,hj.2⟩),hB9⟩
 · exact results_cell (t:=2) (T:=25) rfl _ _ (w.heap.size+1) [Value.string p.name,Value.slice B1 p.conds.length d1,Value.slice B2 p.acts.length d2] _ rfl (World.rangeAt_setCells_same w32 (w.heap.size+1) 0 [Value.string p.name,Value.slice B1 p.conds.length d1,Value.slice B2 p.acts.length d2] HTH.out) Try.underlying25 rfl (by kernel_rfl)
 · exact ⟨HO2.out.1,HO2.out.2.imp id fun ⟨g,cap,cur,hv,h0,hg,hr⟩=>⟨g,cap,cur,hv,h0,((hup g (by injection hv with hv;subst hv;exact (HA2.out _ rfl).1)).2).trans hg,hr⟩⟩
theorem fit_cond {n:Nat} {p:ProdT} {c c':CondT} {cs:List CondT} (hc:p.conds=c :: cs) (h:Fit (n+1) p) (h1:c'.attr=c.attr) (h2:c'.value=c.value) (h3:c'.conds=c.conds) (h4:c'.id=c.id):Fit (n+1) ⟨p.name,c' :: cs,p.acts⟩:=by
 obtain ⟨f1,f2,f3,f4,f5,f6,f7⟩:=h
 rw [hc] at f1 f3 f5 f7
 have hv:varsP (n+1) ⟨p.name,c' :: cs,p.acts⟩=varsP (n+1) p:=by
  show (namesN (n+1) c'++cs.flatMap (namesN (n+1)))++_=p.conds.flatMap (namesN (n+1))++_
  rw [hc]
  show _=(namesN (n+1) c++cs.flatMap (namesN (n+1)))++_
  have e:namesN (n+1) c'=namesN (n+1) c:=by
   show oneN c'.id++(varsT c'.attr++(varsT c'.value++c'.conds.flatMap (namesN n)))=_
   rw [h1,h2,h3,h4];rfl
  rw [e]
 refine ⟨f1,f2,fun x hx=>?_,by rw [hv];exact f4,?_,f6,fun x hx=>?_⟩
 · rcases List.mem_cons.1 hx with rfl | hx
   · have:=f3 c (by simp)
     show SmT x.attr∧SmT x.value∧x.conds.length≤1000∧∀y∈x.conds,SmC n y
     rw [h1,h2,h3];exact this
   · exact f3 x (by simp [hx])
 · show (flatC (n+1) 0 (c' :: cs)).length≤_
   have e:(flatC (n+1) 0 (c' :: cs)).length=(flatC (n+1) 0 (c :: cs)).length:=by
    rw [← flatC_sum,← flatC_sum]
    simp only [List.map_cons]
    rw [h3]
   rw [e];exact f5
 · rcases List.mem_cons.1 hx with rfl | hx
   · have:=f7 c (by simp)
     show ∀y∈x.conds,Dp n y
     rw [h3];exact this
   · exact f7 x (by simp [hx])
theorem fit_acts {n:Nat} {p:ProdT} {az:List ActT} (h:Fit n p) (h1:az.length≤1000) (h2:(varsP n ⟨p.name,p.conds,az⟩).length≤100000):Fit n ⟨p.name,p.conds,az⟩:=⟨h.c,h1,h.s,h2,h.f,h.nn,h.d⟩
end Go.Proofs.Ytffemfglngikbaa
namespace Go.Proofs.Ytffemfglngikbaa
section
variable {P:Program} {ops:Array Oper} {Q:Exit→Act→World→Prop} {S:World→Prop}
inductive P3 where
 | fin (l:List (Nat×Cls))
 | fork (l:List (Nat×Cls)) (i:Nat) (r:P3) (j:Nat) (s:P3)
 | fork3 (l:List (Nat×Cls)) (i:Nat) (r:P3) (j:Nat) (s:P3) (k:Nat) (t:P3)
def okP3 (ops:Array Oper) (qs ls:List Nat):P3→Nat→Array Bool→Bool
 | .fin l,n,listed=>n == l.length && chkL qs ls l && okL ops l listed && (Region.ready .any ops (setL listed l)).isEmpty && l.all fun x=>x.1<ops.size
 | .fork l i r j s,n,listed=>decide (l.length+1≤n) && chkL qs ls l && okL ops l listed && (l.all fun x=>x.1<ops.size) && Region.ready .any ops (setL listed l) == [i,j] && !qs.contains i && !qs.contains j &&
  okP3 ops qs ls r (n - l.length - 1) ((setL listed l).setIfInBounds i true) && okP3 ops qs ls s (n - l.length - 1) ((setL listed l).setIfInBounds j true)
 | .fork3 l i r j s k t,n,listed=>decide (l.length+1≤n) && chkL qs ls l && okL ops l listed && (l.all fun x=>x.1<ops.size) && Region.ready .any ops (setL listed l) == [i,j,k] && !qs.contains i && !qs.contains j && !qs.contains k &&
  okP3 ops qs ls r (n - l.length - 1) ((setL listed l).setIfInBounds i true) && okP3 ops qs ls s (n - l.length - 1) ((setL listed l).setIfInBounds j true) && okP3 ops qs ls t (n - l.length - 1) ((setL listed l).setIfInBounds k true)
def wpP3 (P:Program) (ops:Array Oper) (Q:Exit→Act→World→Prop) (S:World→Prop) (ns:Nat→Bool):P3→Act→World→Prop
 | .fin l,a,w=>wpY P ops Q S ns (fun a w=>Q .normal a w) (beside ops l) a w
 | .fork l i r j s,a,w=>wpY P ops Q S ns (fun a w=>wpOp P ops Q i (fun a' w'=>(ns i=true→S w')∧wpP3 P ops Q S ns r a' w') a w∧wpOp P ops Q j (fun a' w'=>(ns j=true→S w')∧wpP3 P ops Q S ns s a' w') a w) (beside ops l) a w
 | .fork3 l i r j s k t,a,w=>wpY P ops Q S ns (fun a w=>wpOp P ops Q i (fun a' w'=>(ns i=true→S w')∧wpP3 P ops Q S ns r a' w') a w∧wpOp P ops Q j (fun a' w'=>(ns j=true→S w')∧wpP3 P ops Q S ns s a' w') a w∧wpOp P ops Q k (fun a' w'=>(ns k=true→S w')∧wpP3 P ops Q S ns t a' w') a w) (beside ops l) a w
theorem wpAnyE_p3 {qs ls:List Nat} (hsel:Region.noSelect ops=true) (hQ : ∀c a a' w,Q (.panic c) a w→Q (.panic c) a' w) (p:P3) :
 ∀(n:Nat) (listed:Array Bool) (a:Act) (w:World),Closed ops listed→okP3 ops qs ls p n listed=true→
  wpP3 P ops Q S (fun j=>ls.any fun k=>k != j && !waitsT ops ops.size j k) p a w→wpAnyE P ops Q S (fun k=>qs.contains k) (fun j=>ls.any fun k=>k != j && !waitsT ops ops.size j k) n listed a w:=by
 have hq : ∀l,chkL qs ls l=true→∀k c,(k,c)∈l→(qs.contains k=true↔c≠2):=fun l hl k c hk=>by
  have:=List.all_eq_true.1 hl (k,c) hk
  simp only [Bool.and_eq_true,beq_iff_eq] at this
  rw [← this.1];simp
 have hn : ∀l,chkL qs ls l=true→∀k,(k,1)∈l→∀j,waitsT ops ops.size j k=false→j≠k→j<ops.size→(ls.any fun k=>k != j && !waitsT ops ops.size j k)=true:=fun l hl k hk j hw hjk _=>by
  have:=List.all_eq_true.1 hl (k,1) hk
  simp only [Bool.and_eq_true] at this
  have h2:ls.contains k=true:=by simpa using this.2
  rw [List.any_eq_true]
  exact ⟨k,by simpa using h2,by rw [hw];simp [Ne.symm hjk]⟩
 have hb : ∀i:Nat,qs.contains i=false→∀w w',((ls.any fun k=>k != i && !waitsT ops ops.size i k)=true→S w')→behind S (fun k=>qs.contains k) (fun j=>ls.any fun k=>k != j && !waitsT ops ops.size j k) i w w':=fun i hi w w' h=>by
  unfold behind
  rw [if_neg (by simp only [hi];simp)]
  exact h
 induction p with
 | fin l=>
   intro n listed a w hcl hB h
   simp only [okP3,Bool.and_eq_true,beq_iff_eq] at hB
   obtain ⟨⟨⟨⟨rfl,hc⟩,hL⟩,he⟩,hlt⟩:=hB
   have:=wpAnyE_list (P:=P) (Q:=Q) (S:=S) (qt:=fun k=>qs.contains k) (ns:=fun j=>ls.any fun k=>k != j && !waitsT ops ops.size j k) (R:=fun a w=>Q .normal a w) (n:=0) hsel hQ l listed a w hcl hL (by simpa [List.all_eq_true] using hlt) (hq l hc) (hn l hc)
    (fun a w h=>⟨by simpa using he,h⟩) h
   simpa using this
 | fork l i r j s ihr ihs=>
   intro n listed a w hcl hB h
   simp only [okP3,Bool.and_eq_true,beq_iff_eq,decide_eq_true_eq,Bool.not_eq_true'] at hB
   obtain ⟨⟨⟨⟨⟨⟨⟨⟨hlen,hc⟩,hL⟩,hlt⟩,hrd⟩,hqi⟩,hqj⟩,hr⟩,hs⟩:=hB
   obtain ⟨m,rfl⟩ : ∃m,n=l.length+(m+1):=⟨n - l.length - 1,by omega⟩
   have em:l.length+(m+1) - l.length - 1=m:=by omega
   rw [em] at hr hs
   have hcl2:=closed_setL l listed hcl hL
   refine wpAnyE_list (P:=P) (Q:=Q) (S:=S) (qt:=fun k=>qs.contains k) (ns:=fun j=>ls.any fun k=>k != j && !waitsT ops ops.size j k) (n:=m+1) hsel hQ l listed a w hcl hL (by simpa [List.all_eq_true] using hlt) (hq l hc) (hn l hc) (fun a w hR=>?_) h
   refine ⟨fun h0=>(by rw [hrd] at h0;cases h0),fun k hk=>?_⟩
   have hcl3:=closed_ready hcl2 hk
   rw [hrd] at hk
   simp only [List.mem_cons,List.not_mem_nil,or_false] at hk
   rcases hk with rfl | rfl
   · exact wpOp_mono (fun a' w' h'=>⟨hb _ hqi _ _ h'.1,ihr m _ a' w' hcl3 hr h'.2⟩) hR.1
   · exact wpOp_mono (fun a' w' h'=>⟨hb _ hqj _ _ h'.1,ihs m _ a' w' hcl3 hs h'.2⟩) hR.2
 | fork3 l i r j s k t ihr ihs iht=>
   intro n listed a w hcl hB h
   simp only [okP3,Bool.and_eq_true,beq_iff_eq,decide_eq_true_eq,Bool.not_eq_true'] at hB
   obtain ⟨⟨⟨⟨⟨⟨⟨⟨⟨⟨hlen,hc⟩,hL⟩,hlt⟩,hrd⟩,hqi⟩,hqj⟩,hqk⟩,hr⟩,hs⟩,ht⟩:=hB
   obtain ⟨m,rfl⟩ : ∃m,n=l.length+(m+1):=⟨n - l.length - 1,by omega⟩
   have em:l.length+(m+1) - l.length - 1=m:=by omega
   rw [em] at hr hs ht
   have hcl2:=closed_setL l listed hcl hL
   refine wpAnyE_list (P:=P) (Q:=Q) (S:=S) (qt:=fun k=>qs.contains k) (ns:=fun j=>ls.any fun k=>k != j && !waitsT ops ops.size j k) (n:=m+1) hsel hQ l listed a w hcl hL (by simpa [List.all_eq_true] using hlt) (hq l hc) (hn l hc) (fun a w hR=>?_) h
   refine ⟨fun h0=>(by rw [hrd] at h0;cases h0),fun q hk=>?_⟩
   have hcl3:=closed_ready hcl2 hk
   rw [hrd] at hk
   simp only [List.mem_cons,List.not_mem_nil,or_false] at hk
   rcases hk with rfl | rfl | rfl
   · exact wpOp_mono (fun a' w' h'=>⟨hb _ hqi _ _ h'.1,ihr m _ a' w' hcl3 hr h'.2⟩) hR.1
   · exact wpOp_mono (fun a' w' h'=>⟨hb _ hqj _ _ h'.1,ihs m _ a' w' hcl3 hs h'.2⟩) hR.2.1
   · exact wpOp_mono (fun a' w' h'=>⟨hb _ hqk _ _ h'.1,iht m _ a' w' hcl3 ht h'.2⟩) hR.2.2
theorem wp_region_P3 {id:Nat} {l:List Oper} {a:Act} {w:World} (S:World→Prop) (qs ls:List Nat) (p:P3) (hm:P.follows .mixedOrders=true) (hsel:Region.noSelect l.toArray=true)
 (hB:okP3 l.toArray qs ls p l.toArray.size (Array.replicate l.toArray.size false)=true)
 (h : ∀K:Act→World→Prop,(∀a w,Q .normal a w→K a w)→wpP3 P l.toArray (OnlyN K) S (fun j=>ls.any fun k=>k != j && !waitsT l.toArray l.toArray.size j k) p a w.drew):(Code.region id l.toArray true).wp P Q a w:=by
 refine Code.wp_mono (Q:=OnlyN fun a w=>Q .normal a w) (fun e a w hq=>by cases e<;>first | exact hq | exact hq.elim) (wp_region_any hm ?_)
 have hcl:Closed l.toArray (Array.replicate l.toArray.size false):=fun m o hm=>by rw [getD_replicate_false] at hm;cases hm
 exact wpAny_of_E _ _ _ _ (wpAnyE_p3 (P:=P) (Q:=OnlyN fun a w=>Q .normal a w) (S:=S) hsel (fun c a a' w h=>h) p _ _ a w.drew hcl hB (h _ (fun _ _ h=>h)))
end
end Go.Proofs.Ytffemfglngikbaa
namespace Go.Proofs.Ytffemfglngikbaa
open Go.RowKit Go.Shelf
attribute [local go_sem] Oper.semAt_some
theorem row_oneC {α:Type} {r:RepT α} {D:Nat→Prop} {w:World} {g:Nat} {t:TypeId} {cs:List Value} {a:α} (hb:Blk w g t cs.toArray) (hD:D g) (hr:r.rep D w a cs):RowR r D w (some ⟨g,0,none⟩) 1 [a]:=by
 refine ⟨Nat.le_refl _,by unfold maxLen;omega,fun _=>⟨g,0,rfl,hD,hb.lt,fun k hk=>?_⟩⟩
 obtain rfl:k=0:=by simp at hk;omega
 exact ⟨cs,hr,fun j u hu=>by rw [show 0+0*r.size+j=j by omega,hb.cell];simpa using hu⟩
def wkC (i v:ByteArray):CondT:=.mk 1 true i [⟨1,⟨#[]⟩,⟨3,⟨#[120]⟩,0⟩,[]⟩] [⟨1,v,⟨0,⟨#[]⟩,0⟩,[]⟩] false []
def wkA (i:ByteArray):ActT:=⟨i,⟨⟨#[]⟩,⟨3,⟨#[121]⟩,0⟩⟩,⟨0,⟨⟨#[]⟩,⟨2,⟨#[]⟩,2⟩⟩,⟨⟨#[]⟩,⟨0,⟨#[]⟩,0⟩⟩⟩,1,⟨⟨#[]⟩,⟨0,⟨#[]⟩,0⟩⟩⟩
def wkP (i v:ByteArray):ProdT:=⟨⟨#[97]⟩,[wkC i v],[wkA i]⟩
theorem wk_yes:sameC 1 (wkP ⟨#[115]⟩ ⟨#[121]⟩) (wkP ⟨#[97]⟩ ⟨#[98]⟩)=true:=by kernel_rfl
theorem wk_no:sameC 1 (wkP ⟨#[115]⟩ ⟨#[121]⟩) (wkP ⟨#[115]⟩ ⟨#[115]⟩)=false:=by kernel_rfl
theorem wk_vars (i v:ByteArray):(varsP 1 (wkP i v)).length≤100000:=by
 have h1:=oneN_len i
 have h2:=oneN_len v
 have h0:=oneN_len ⟨#[]⟩
 simp only [varsP,wkP,wkC,wkA,namesN,varsT,varsA,fives,CondT.id,CondT.attr,CondT.value,CondT.conds,List.flatMap_cons,List.flatMap_nil,List.length_append,List.length_nil]
 omega
theorem wk_fit (i v:ByteArray):Fit 1 (wkP i v):=
 ⟨by simp [wkP],by simp [wkP],fun x hx=>by
  rw [List.mem_singleton.1 (show x∈[wkC i v] from hx)]
  exact ⟨⟨by simp [wkC,CondT.attr],fun t ht=>by rw [List.mem_singleton.1 (show t∈_ from ht)];simp⟩,⟨by simp [wkC,CondT.value],fun t ht=>by rw [List.mem_singleton.1 (show t∈_ from ht)];simp⟩,by simp [wkC,CondT.conds],fun y hy=>by cases (show y∈([]:List CondT) from hy)⟩,wk_vars i v,by show ([(0,wkC i v)] ++ []:List (Nat×CondT)).length≤_;simp,by omega,fun x hx=>by
  rw [List.mem_singleton.1 (show x∈[wkC i v] from hx)]
  intro y hy
  cases (show y∈([]:List CondT) from hy)⟩
set_option maxHeartbeats 1000000 in
theorem wW6_is (t:ByteArray)(w:World):Calls Try.prog 54 #[.string t] w fun e w'=>e = .returned (.agg #[.int .i64 3,.string t,.int .i64 0])∧Below w.heap.size w w':=by
 go_enter Try.func54,Try.ntmps54
 go_wp2_with fail
 exact bodyPost_ret (v:=.agg #[.int .i64 3,.string t,.int .i64 0]) (by simp [results,Try.results54,go_sem]) rfl ⟨rfl,by (repeat (first | exact Below.refl _ _ | refine Below.drew ?_ | refine Below.al ?_ _ | refine Below.sc ?_ _))⟩
set_option maxHeartbeats 1000000 in
theorem wN6_is (n:Int)(w:World):Calls Try.prog 55 #[.int .i64 n] w fun e w'=>e = .returned (.agg #[.int .i64 2,.string ⟨#[]⟩,.int .i64 n])∧Below w.heap.size w w':=by
 go_enter Try.func55,Try.ntmps55
 go_wp2_with fail
 exact bodyPost_ret (v:=.agg #[.int .i64 2,.string ⟨#[]⟩,.int .i64 n]) (by simp [results,Try.results55,go_sem]) rfl ⟨rfl,by (repeat (first | exact Below.refl _ _ | refine Below.drew ?_ | refine Below.al ?_ _ | refine Below.sc ?_ _))⟩
set_option maxRecDepth 100000 in
set_option maxHeartbeats 4000000 in
theorem one_blk (w:World):Calls Try.prog 27 #[] w fun e w'=>∃gc gt gu ga,e = .returned (.agg #[.string ⟨#[97]⟩,.slice (some ⟨gc,0,none⟩) 1 1,.slice (some ⟨ga,0,none⟩) 1 1])∧Blk w' gc 50 #[.int .i64 1,.bool true,.string ⟨#[115]⟩,.slice (some ⟨gt,0,none⟩) 1 1,.slice (some ⟨gu,0,none⟩) 1 1,.bool false,.slice none 0 0]∧Blk w' gt 65 #[.int .i64 1,.string ⟨#[]⟩,.int .i64 3,.string ⟨#[120]⟩,.int .i64 0,.slice none 0 0]∧Blk w' gu 65 #[.int .i64 1,.string ⟨#[]⟩,.int .i64 2,.string ⟨#[]⟩,.int .i64 1,.slice none 0 0]∧Blk w' ga 58 #[.string ⟨#[115]⟩,.string ⟨#[]⟩,.int .i64 3,.string ⟨#[121]⟩,.int .i64 0,.int .i64 0,.string ⟨#[]⟩,.int .i64 2,.string ⟨#[]⟩,.int .i64 2,.string ⟨#[]⟩,.int .i64 0,.string ⟨#[]⟩,.int .i64 0,.int .i64 1,.string ⟨#[]⟩,.int .i64 0,.string ⟨#[]⟩,.int .i64 0]∧(w.heap.size≤gc∧w.heap.size≤gt∧w.heap.size≤gu∧w.heap.size≤ga)∧Below w.heap.size w w':=by
 go_enter Try.func27,Try.ntmps27
 go_upto_region 1 with fail
 obtain ⟨w1,hw1⟩ : ∃w1,w1=(w.alloc (.cells #[.string ⟨#[]⟩,.slice none 0 0,.slice none 0 0] 25)):=⟨_,rfl⟩
 rw [← hw1]
 have HB:=Lib.hid (show Below w.heap.size w w1 by rw [hw1];exact (by repeat (first | exact Below.refl _ _ | refine Below.drew ?_ | refine Below.al ?_ _ | refine Below.sc ?_ _)))
 have Kr:=Lib.hid (show Blk w1 (w.heap.size) 25 #[.string ⟨#[]⟩,.slice none 0 0,.slice none 0 0] by rw [hw1];exact (Blk.new w 25 #[.string ⟨#[]⟩,.slice none 0 0,.slice none 0 0]))
 clear hw1
 obtain ⟨r0,r1,r2⟩:=Kr.out.c3
 have rf0:=Kr.out.frozen 0
 have rf1:=Kr.out.frozen 1
 have rf2:=Kr.out.frozen 2
 have rz:=Kr.out.lt
 go_wp2_with fail
 with_reducible refine (wW6_is ⟨#[120]⟩ _).mono ?_
 rintro e w2 ⟨rfl,hb⟩
 have hbs:=Below.trans (show Below w1.heap.size w1 _ from (by (repeat (first | exact Below.refl _ _ | refine Below.drew ?_ | refine Below.al ?_ _ | refine Below.sc ?_ _)))) (hb.mono (by simp<;>omega))
 have Kr:=Lib.hid (Kr.out.new_ hbs)
 have HB:=Lib.hid (HB.out.trans (hbs.mono HB.out.size))
 have hsz2:=hbs.size
 clear r0 r1 r2 rf0 rf1 rf2 rz hb hbs
 obtain ⟨r0,r1,r2⟩:=Kr.out.c3
 have rf0:=Kr.out.frozen 0
 have rf1:=Kr.out.frozen 1
 have rf2:=Kr.out.frozen 2
 have rz:=Kr.out.lt
 have hs0_2:=HB.out.size
 go_wp2_with fail
 with_reducible refine (wN6_is 1 _).mono ?_
 rintro e w3 ⟨rfl,hb⟩
 have hbs:=Below.trans (show Below w2.heap.size w2 _ from (by (repeat (first | exact Below.refl _ _ | refine Below.drew ?_ | refine Below.al ?_ _ | refine Below.sc ?_ _)))) (hb.mono (by simp<;>omega))
 have Kr:=Lib.hid (Kr.out.new_ hbs)
 have Kt1:=Lib.hid (show Blk w3 (w2.heap.size) 65 #[.int .i64 1,.string ⟨#[]⟩,.int .i64 3,.string ⟨#[120]⟩,.int .i64 0,.slice none 0 0] from (Blk.new _ _ _).new_ hb)
 have HB:=Lib.hid (HB.out.trans (hbs.mono HB.out.size))
 have hsz3:=hbs.size
 clear r0 r1 r2 rf0 rf1 rf2 rz hb hbs
 obtain ⟨r0,r1,r2⟩:=Kr.out.c3
 have rf0:=Kr.out.frozen 0
 have rf1:=Kr.out.frozen 1
 have rf2:=Kr.out.frozen 2
 have rz:=Kr.out.lt
 obtain ⟨t10,t11,t12,t13,t14,t15⟩:=Kt1.out.c6
 have t1z:=Kt1.out.lt
 have hs0_3:=HB.out.size
 go_wp2_with fail
 with_reducible refine (wW6_is ⟨#[121]⟩ _).mono ?_
 rintro e w4 ⟨rfl,hb⟩
 have hbs:=Below.trans (show Below w3.heap.size w3 _ from (by (repeat (first | exact Below.refl _ _ | refine Below.drew ?_ | refine Below.al ?_ _ | refine Below.sc ?_ _)))) (hb.mono (by simp<;>omega))
 have Kr:=Lib.hid (Kr.out.new_ hbs)
 have Kt1:=Lib.hid (Kt1.out.new_ hbs)
 have Kt2:=Lib.hid (show Blk w4 (w3.heap.size) 65 #[.int .i64 1,.string ⟨#[]⟩,.int .i64 2,.string ⟨#[]⟩,.int .i64 1,.slice none 0 0] from ((Blk.new _ _ _).alloc _).new_ hb)
 have Kc:=Lib.hid (show Blk w4 (w3.heap.size+1) 50 #[.int .i64 1,.bool true,.string ⟨#[115]⟩,.slice (some ⟨w2.heap.size,0,none⟩) 1 1,.slice (some ⟨w3.heap.size,0,none⟩) 1 1,.bool false,.slice none 0 0] from ((show Blk ((w3.alloc (.cells #[.int .i64 1,.string ⟨#[]⟩,.int .i64 2,.string ⟨#[]⟩,.int .i64 1,.slice none 0 0] 65)).alloc (.cells #[.int .i64 1,.bool true,.string ⟨#[115]⟩,.slice (some ⟨w2.heap.size,0,none⟩) 1 1,.slice (some ⟨w3.heap.size,0,none⟩) 1 1,.bool false,.slice none 0 0] 50)) (w3.heap.size+1) 50 #[.int .i64 1,.bool true,.string ⟨#[115]⟩,.slice (some ⟨w2.heap.size,0,none⟩) 1 1,.slice (some ⟨w3.heap.size,0,none⟩) 1 1,.bool false,.slice none 0 0] by have hh:=Blk.new (w3.alloc (.cells #[.int .i64 1,.string ⟨#[]⟩,.int .i64 2,.string ⟨#[]⟩,.int .i64 1,.slice none 0 0] 65)) 50 #[.int .i64 1,.bool true,.string ⟨#[115]⟩,.slice (some ⟨w2.heap.size,0,none⟩) 1 1,.slice (some ⟨w3.heap.size,0,none⟩) 1 1,.bool false,.slice none 0 0];simp only [World.size_alloc] at hh;exact hh)).new_ hb)
 have HB:=Lib.hid (HB.out.trans (hbs.mono HB.out.size))
 have hsz4:=hbs.size
 clear r0 r1 r2 rf0 rf1 rf2 rz t10 t11 t12 t13 t14 t15 t1z hb hbs
 obtain ⟨r0,r1,r2⟩:=Kr.out.c3
 have rf0:=Kr.out.frozen 0
 have rf1:=Kr.out.frozen 1
 have rf2:=Kr.out.frozen 2
 have rz:=Kr.out.lt
 obtain ⟨t10,t11,t12,t13,t14,t15⟩:=Kt1.out.c6
 have t1z:=Kt1.out.lt
 obtain ⟨t20,t21,t22,t23,t24,t25⟩:=Kt2.out.c6
 have t2z:=Kt2.out.lt
 obtain ⟨c0,c1,c2,c3,c4,c5,c6⟩:=Kc.out.c7
 have cz:=Kc.out.lt
 go_wp2_with fail
 with_reducible refine (wN6_is 2 _).mono ?_
 rintro e w5 ⟨rfl,hb⟩
 have hbs:=Below.trans (show Below w4.heap.size w4 _ from (by (repeat (first | exact Below.refl _ _ | refine Below.drew ?_ | refine Below.al ?_ _ | refine Below.sc ?_ _)))) (hb.mono (by simp<;>omega))
 have Kr:=Lib.hid (Kr.out.new_ hbs)
 have Kt1:=Lib.hid (Kt1.out.new_ hbs)
 have Kt2:=Lib.hid (Kt2.out.new_ hbs)
 have Kc:=Lib.hid (Kc.out.new_ hbs)
 have HB:=Lib.hid (HB.out.trans (hbs.mono HB.out.size))
 have hsz5:=hbs.size
 clear r0 r1 r2 rf0 rf1 rf2 rz t10 t11 t12 t13 t14 t15 t1z t20 t21 t22 t23 t24 t25 t2z c0 c1 c2 c3 c4 c5 c6 cz hb hbs
 obtain ⟨r0,r1,r2⟩:=Kr.out.c3
 have rf0:=Kr.out.frozen 0
 have rf1:=Kr.out.frozen 1
 have rf2:=Kr.out.frozen 2
 have rz:=Kr.out.lt
 obtain ⟨t10,t11,t12,t13,t14,t15⟩:=Kt1.out.c6
 have t1z:=Kt1.out.lt
 obtain ⟨t20,t21,t22,t23,t24,t25⟩:=Kt2.out.c6
 have t2z:=Kt2.out.lt
 obtain ⟨c0,c1,c2,c3,c4,c5,c6⟩:=Kc.out.c7
 have cz:=Kc.out.lt
 go_wp2_with fail
 obtain ⟨X,hX⟩ : ∃X,X=((w5.setCell ⟨w.heap.size,0,none⟩ (.string ⟨#[97]⟩)).setCell ⟨w.heap.size,1,none⟩ (.slice (some ⟨w3.heap.size+1,0,none⟩) 1 1)).setCell ⟨w.heap.size,2,none⟩ (.slice (some ⟨w5.heap.size,0,none⟩) 1 1):=⟨_,rfl⟩
 rw [← hX]
 have hFX:Fr (· = w.heap.size) w5 X:=by rw [hX];exact (((Fr.refl (· = w.heap.size) w5).setCell (p:=⟨w.heap.size,0,none⟩) (.inl rfl) _).setCell (p:=⟨w.heap.size,1,none⟩) (.inl rfl) _).setCell (p:=⟨w.heap.size,2,none⟩) (.inl rfl) _
 have hsX:X.heap.size=w5.heap.size:=by rw [hX];simp
 have KrX:Blk X w.heap.size 25 #[.string ⟨#[97]⟩,.slice (some ⟨w3.heap.size+1,0,none⟩) 1 1,.slice (some ⟨w5.heap.size,0,none⟩) 1 1]:=by
  rw [hX];simpa using (((Kr.out.set_ 0 (.string ⟨#[97]⟩)).set_ 1 (.slice (some ⟨w3.heap.size+1,0,none⟩) 1 1)).set_ 2 (.slice (some ⟨w5.heap.size,0,none⟩) 1 1))
 obtain ⟨Z,hZ⟩ : ∃Z,Z=X.alloc (.cells #[.string ⟨#[115]⟩,.string ⟨#[]⟩,.int .i64 3,.string ⟨#[121]⟩,.int .i64 0,.int .i64 0,.string ⟨#[]⟩,.int .i64 2,.string ⟨#[]⟩,.int .i64 2,.string ⟨#[]⟩,.int .i64 0,.string ⟨#[]⟩,.int .i64 0,.int .i64 1,.string ⟨#[]⟩,.int .i64 0,.string ⟨#[]⟩,.int .i64 0] 58):=⟨_,rfl⟩
 rw [← hZ]
 have hbZX:Below X.heap.size X Z:=by rw [hZ];exact (Below.refl _ _).alloc (Nat.le_refl _) _
 have ga:Blk Z w5.heap.size 58 #[.string ⟨#[115]⟩,.string ⟨#[]⟩,.int .i64 3,.string ⟨#[121]⟩,.int .i64 0,.int .i64 0,.string ⟨#[]⟩,.int .i64 2,.string ⟨#[]⟩,.int .i64 2,.string ⟨#[]⟩,.int .i64 0,.string ⟨#[]⟩,.int .i64 0,.int .i64 1,.string ⟨#[]⟩,.int .i64 0,.string ⟨#[]⟩,.int .i64 0]:=by rw [hZ,← hsX];exact Blk.new _ _ _
 have KrZ:=KrX.new_ hbZX
 have hB:=HB.out
 have hzw:=hB.size
 have hzX:=hbZX.size
 have hlX:=ga.lt
 have hbZ:Below w.heap.size w Z:=(hB.trans (hFX.below (by omega) (fun k hk hn=>by omega))).trans (hbZX.mono (by omega))
 have k1:=Kt1.out.lt
 have k2:=Kt2.out.lt
 have kc:=Kc.out.lt
 have gt1:=(Kt1.out.fr hFX (Kt1.out.ne_ Kr.out (by decide))).new_ hbZX
 have gt2:=(Kt2.out.fr hFX (Kt2.out.ne_ Kr.out (by decide))).new_ hbZX
 have gc:=(Kc.out.fr hFX (Kc.out.ne_ Kr.out (by decide))).new_ hbZX
 have r0:=(KrZ.cell 0).trans rfl
 have r1:=(KrZ.cell 1).trans rfl
 have r2:=(KrZ.cell 2).trans rfl
 refine bodyPost_ret (v:=.agg #[.string ⟨#[97]⟩,.slice (some ⟨w3.heap.size+1,0,none⟩) 1 1,.slice (some ⟨w5.heap.size,0,none⟩) 1 1]) (by simp [results,Try.results27,go_sem,r0,r1,r2]) rfl ?_
 exact ⟨_,_,_,_,rfl,gc,gt1,gt2,ga,⟨by omega,by omega,by omega,by omega⟩,hbZ⟩
theorem wk_rows {X:World} {D:Nat→Prop} {gc gt gv ga:Nat} (i v:ByteArray) (hc:Blk X gc 50 #[.int .i64 1,.bool true,.string i,.slice (some ⟨gt,0,none⟩) 1 1,.slice (some ⟨gv,0,none⟩) 1 1,.bool false,.slice none 0 0]) (ht:Blk X gt 65 #[.int .i64 1,.string ⟨#[]⟩,.int .i64 3,.string ⟨#[120]⟩,.int .i64 0,.slice none 0 0]) (hv:Blk X gv 65 #[.int .i64 1,.string v,.int .i64 0,.string ⟨#[]⟩,.int .i64 0,.slice none 0 0]) (ha:Blk X ga 58 #[.string i,.string ⟨#[]⟩,.int .i64 3,.string ⟨#[121]⟩,.int .i64 0,.int .i64 0,.string ⟨#[]⟩,.int .i64 2,.string ⟨#[]⟩,.int .i64 2,.string ⟨#[]⟩,.int .i64 0,.string ⟨#[]⟩,.int .i64 0,.int .i64 1,.string ⟨#[]⟩,.int .i64 0,.string ⟨#[]⟩,.int .i64 0]) (hD : ∀k,k<X.heap.size→D k) :
 RowR (repCondT 1) D X (some ⟨gc,0,none⟩) 1 (wkP i v).conds∧RowR repActT D X (some ⟨ga,0,none⟩) 1 (wkP i v).acts:=
 ⟨row_oneC (cs:=[.int .i64 1,.bool true,.string i,.slice (some ⟨gt,0,none⟩) 1 1,.slice (some ⟨gv,0,none⟩) 1 1,.bool false,.slice none 0 0]) hc (hD _ hc.lt) ⟨_,_,_,_,none,0,rfl,row_oneC (cs:=[.int .i64 1,.string ⟨#[]⟩,.int .i64 3,.string ⟨#[120]⟩,.int .i64 0,.slice none 0 0]) ht (hD _ ht.lt) ⟨none,0,rfl,RowR.nil _ _ _⟩,row_oneC (cs:=[.int .i64 1,.string v,.int .i64 0,.string ⟨#[]⟩,.int .i64 0,.slice none 0 0]) hv (hD _ hv.lt) ⟨none,0,rfl,RowR.nil _ _ _⟩,RowR.nil _ _ _⟩,row_oneC (cs:=[.string i,.string ⟨#[]⟩,.int .i64 3,.string ⟨#[121]⟩,.int .i64 0,.int .i64 0,.string ⟨#[]⟩,.int .i64 2,.string ⟨#[]⟩,.int .i64 2,.string ⟨#[]⟩,.int .i64 0,.string ⟨#[]⟩,.int .i64 0,.int .i64 1,.string ⟨#[]⟩,.int .i64 0,.string ⟨#[]⟩,.int .i64 0]) ha (hD _ ha.lt) rfl⟩
set_option maxRecDepth 100000 in
set_option maxHeartbeats 16000000 in
theorem wakes23_is (w:World):Calls Try.prog 8 #[] w fun e w'=>e = .returned (.bool true)∧Below w.heap.size w w':=by
 have HB:=Lib.hid (Below.refl w.heap.size w)
 go_enter Try.func8,Try.ntmps8
 go_wp2_with fail
 refine (one_blk w).mono ?_
 rintro e v1 ⟨c1,t1,u1,a1,rfl,hc,ht,hu,ha,⟨l1,l2,l3,l4⟩,hb⟩
 have hsz1:=hb.size
 have LC1:=Lib.hid l1
 have LA1:=Lib.hid l4
 have MC1:=Lib.hid hc.lt
 have MA1:=Lib.hid ha.lt
 have HB:=Lib.hid (HB.out.trans (hb.mono HB.out.size))
 have HC1:=Lib.hid hc
 have HT1:=Lib.hid ht
 have HA1:=Lib.hid ha
 clear hc ht hu ha l1 l2 l3 l4 hb
 go_wp2_with fail
 refine (one_blk v1).mono ?_
 rintro e v2 ⟨c2,t2,u2,a2,rfl,hc,ht,hu,ha,⟨l1,l2,l3,l4⟩,hb⟩
 have hsz2:=hb.size
 have LC2:=Lib.hid l1
 have LA2:=Lib.hid l4
 have MC2:=Lib.hid hc.lt
 have MA2:=Lib.hid ha.lt
 have HC1:=Lib.hid (HC1.out.new_ hb)
 have HT1:=Lib.hid (HT1.out.new_ hb)
 have HA1:=Lib.hid (HA1.out.new_ hb)
 have HB:=Lib.hid (HB.out.trans (hb.mono HB.out.size))
 have HC2:=Lib.hid hc
 have HT2:=Lib.hid ht
 have HA2:=Lib.hid ha
 clear hc ht hu ha l1 l2 l3 l4 hb
 go_wp2_with fail
 refine (one_blk v2).mono ?_
 rintro e v3 ⟨c3,t3,u3,a3,rfl,hc,ht,hu,ha,⟨l1,l2,l3,l4⟩,hb⟩
 have hsz3:=hb.size
 have LC3:=Lib.hid l1
 have LA3:=Lib.hid l4
 have MC3:=Lib.hid hc.lt
 have MA3:=Lib.hid ha.lt
 have HC1:=Lib.hid (HC1.out.new_ hb)
 have HT1:=Lib.hid (HT1.out.new_ hb)
 have HA1:=Lib.hid (HA1.out.new_ hb)
 have HC2:=Lib.hid (HC2.out.new_ hb)
 have HT2:=Lib.hid (HT2.out.new_ hb)
 have HA2:=Lib.hid (HA2.out.new_ hb)
 have HB:=Lib.hid (HB.out.trans (hb.mono HB.out.size))
 have HC3:=Lib.hid hc
 have HT3:=Lib.hid ht
 have HA3:=Lib.hid ha
 clear hc ht hu ha l1 l2 l3 l4 hb
 go_upto_region 2 with fail
 obtain ⟨V0,hV0⟩ : ∃V,V=((v3.alloc (.cells #[.string ⟨#[97]⟩,.slice (some ⟨c1,0,none⟩) 1 1,.slice (some ⟨a1,0,none⟩) 1 1] 25)).alloc (.cells #[.string ⟨#[97]⟩,.slice (some ⟨c2,0,none⟩) 1 1,.slice (some ⟨a2,0,none⟩) 1 1] 25)).alloc (.cells #[.string ⟨#[97]⟩,.slice (some ⟨c3,0,none⟩) 1 1,.slice (some ⟨a3,0,none⟩) 1 1] 25):=⟨_,rfl⟩
 have hb0:Below v3.heap.size v3 V0:=by rw [hV0];exact (((Below.refl _ _).alloc (Nat.le_refl _) _).alloc (by simp) _).alloc (by simp;omega) _
 have HZ0:=Lib.hid (show V0.heap.size=v3.heap.size+3 by rw [hV0];simp)
 have hp1:Blk V0 (v3.heap.size) 25 #[.string ⟨#[97]⟩,.slice (some ⟨c1,0,none⟩) 1 1,.slice (some ⟨a1,0,none⟩) 1 1]:=by rw [hV0];have hh:=(((Blk.new v3 25 #[.string ⟨#[97]⟩,.slice (some ⟨c1,0,none⟩) 1 1,.slice (some ⟨a1,0,none⟩) 1 1]).alloc (.cells #[.string ⟨#[97]⟩,.slice (some ⟨c2,0,none⟩) 1 1,.slice (some ⟨a2,0,none⟩) 1 1] 25)).alloc (.cells #[.string ⟨#[97]⟩,.slice (some ⟨c3,0,none⟩) 1 1,.slice (some ⟨a3,0,none⟩) 1 1] 25));simpa using hh
 have hp2:Blk V0 (v3.heap.size+1) 25 #[.string ⟨#[97]⟩,.slice (some ⟨c2,0,none⟩) 1 1,.slice (some ⟨a2,0,none⟩) 1 1]:=by rw [hV0];have hh:=((Blk.new (v3.alloc (.cells #[.string ⟨#[97]⟩,.slice (some ⟨c1,0,none⟩) 1 1,.slice (some ⟨a1,0,none⟩) 1 1] 25)) 25 #[.string ⟨#[97]⟩,.slice (some ⟨c2,0,none⟩) 1 1,.slice (some ⟨a2,0,none⟩) 1 1]).alloc (.cells #[.string ⟨#[97]⟩,.slice (some ⟨c3,0,none⟩) 1 1,.slice (some ⟨a3,0,none⟩) 1 1] 25));simpa using hh
 have hp3:Blk V0 (v3.heap.size+2) 25 #[.string ⟨#[97]⟩,.slice (some ⟨c3,0,none⟩) 1 1,.slice (some ⟨a3,0,none⟩) 1 1]:=by rw [hV0];have hh:=(Blk.new ((v3.alloc (.cells #[.string ⟨#[97]⟩,.slice (some ⟨c1,0,none⟩) 1 1,.slice (some ⟨a1,0,none⟩) 1 1] 25)).alloc (.cells #[.string ⟨#[97]⟩,.slice (some ⟨c2,0,none⟩) 1 1,.slice (some ⟨a2,0,none⟩) 1 1] 25)) 25 #[.string ⟨#[97]⟩,.slice (some ⟨c3,0,none⟩) 1 1,.slice (some ⟨a3,0,none⟩) 1 1]);simpa using hh
 have HC1:=Lib.hid (HC1.out.new_ hb0)
 have HT1:=Lib.hid (HT1.out.new_ hb0)
 have HA1:=Lib.hid (HA1.out.new_ hb0)
 have HC2:=Lib.hid (HC2.out.new_ hb0)
 have HT2:=Lib.hid (HT2.out.new_ hb0)
 have HA2:=Lib.hid (HA2.out.new_ hb0)
 have HC3:=Lib.hid (HC3.out.new_ hb0)
 have HT3:=Lib.hid (HT3.out.new_ hb0)
 have HA3:=Lib.hid (HA3.out.new_ hb0)
 have HB:=Lib.hid (HB.out.trans (hb0.mono HB.out.size))
 rw [← hV0]
 clear hV0 hb0
 have HP1:=Lib.hid hp1
 clear hp1
 have HP2:=Lib.hid hp2
 clear hp2
 have HP3:=Lib.hid hp3
 clear hp3
 have xP1_1:V0.cell? ⟨v3.heap.size,1,none⟩=some (.slice (some ⟨c1,0,none⟩) 1 1):=(HP1.out.cell 1).trans rfl
 have zP1:=HP1.out.lt
 have xC1_4:V0.cell? ⟨c1,4,none⟩=some (.slice (some ⟨u1,0,none⟩) 1 1):=(HC1.out.cell 4).trans rfl
 have zC1:=HC1.out.lt
 have f4:=HC1.out.frozen 4
 go_upto_region 3 with fail
 obtain ⟨V1,hV1⟩ : ∃V,V=(V0.setCell ⟨c1,4,none⟩ (.slice (some ⟨V0.heap.size,0,none⟩) 1 1)).alloc (.cells #[.int .i64 1,.string ⟨#[121]⟩,.int .i64 0,.string ⟨#[]⟩,.int .i64 0,.slice none 0 0] 65):=⟨_,rfl⟩
 rw [← hV1]
 have hC1:Blk V1 (c1) 50 #[.int .i64 1,.bool true,.string ⟨#[115]⟩,.slice (some ⟨t1,0,none⟩) 1 1,.slice (some ⟨V0.heap.size,0,none⟩) 1 1,.bool false,.slice none 0 0]:=by rw [hV1];exact ((HC1.out.set_ 4 (.slice (some ⟨V0.heap.size,0,none⟩) 1 1))).alloc _
 have hT1:Blk V1 (t1) 65 #[.int .i64 1,.string ⟨#[]⟩,.int .i64 3,.string ⟨#[120]⟩,.int .i64 0,.slice none 0 0]:=by rw [hV1];exact ((HT1.out.far (p:=⟨c1,4,none⟩) (HT1.out.ne_ HC1.out (by decide)) (.slice (some ⟨V0.heap.size,0,none⟩) 1 1))).alloc _
 have hA1:Blk V1 (a1) 58 #[.string ⟨#[115]⟩,.string ⟨#[]⟩,.int .i64 3,.string ⟨#[121]⟩,.int .i64 0,.int .i64 0,.string ⟨#[]⟩,.int .i64 2,.string ⟨#[]⟩,.int .i64 2,.string ⟨#[]⟩,.int .i64 0,.string ⟨#[]⟩,.int .i64 0,.int .i64 1,.string ⟨#[]⟩,.int .i64 0,.string ⟨#[]⟩,.int .i64 0]:=by rw [hV1];exact ((HA1.out.far (p:=⟨c1,4,none⟩) (HA1.out.ne_ HC1.out (by decide)) (.slice (some ⟨V0.heap.size,0,none⟩) 1 1))).alloc _
 have hC2:Blk V1 (c2) 50 #[.int .i64 1,.bool true,.string ⟨#[115]⟩,.slice (some ⟨t2,0,none⟩) 1 1,.slice (some ⟨u2,0,none⟩) 1 1,.bool false,.slice none 0 0]:=by rw [hV1];exact ((HC2.out.far (p:=⟨c1,4,none⟩) (by dsimp only;have:=LC1.out;have:=LC2.out;have:=LC3.out;have:=MC1.out;have:=MC2.out;have:=MC3.out;have:=LA1.out;have:=LA2.out;have:=LA3.out;have:=MA1.out;have:=MA2.out;have:=MA3.out;omega) (.slice (some ⟨V0.heap.size,0,none⟩) 1 1))).alloc _
 have hT2:Blk V1 (t2) 65 #[.int .i64 1,.string ⟨#[]⟩,.int .i64 3,.string ⟨#[120]⟩,.int .i64 0,.slice none 0 0]:=by rw [hV1];exact ((HT2.out.far (p:=⟨c1,4,none⟩) (HT2.out.ne_ HC1.out (by decide)) (.slice (some ⟨V0.heap.size,0,none⟩) 1 1))).alloc _
 have hA2:Blk V1 (a2) 58 #[.string ⟨#[115]⟩,.string ⟨#[]⟩,.int .i64 3,.string ⟨#[121]⟩,.int .i64 0,.int .i64 0,.string ⟨#[]⟩,.int .i64 2,.string ⟨#[]⟩,.int .i64 2,.string ⟨#[]⟩,.int .i64 0,.string ⟨#[]⟩,.int .i64 0,.int .i64 1,.string ⟨#[]⟩,.int .i64 0,.string ⟨#[]⟩,.int .i64 0]:=by rw [hV1];exact ((HA2.out.far (p:=⟨c1,4,none⟩) (HA2.out.ne_ HC1.out (by decide)) (.slice (some ⟨V0.heap.size,0,none⟩) 1 1))).alloc _
 have hC3:Blk V1 (c3) 50 #[.int .i64 1,.bool true,.string ⟨#[115]⟩,.slice (some ⟨t3,0,none⟩) 1 1,.slice (some ⟨u3,0,none⟩) 1 1,.bool false,.slice none 0 0]:=by rw [hV1];exact ((HC3.out.far (p:=⟨c1,4,none⟩) (by dsimp only;have:=LC1.out;have:=LC2.out;have:=LC3.out;have:=MC1.out;have:=MC2.out;have:=MC3.out;have:=LA1.out;have:=LA2.out;have:=LA3.out;have:=MA1.out;have:=MA2.out;have:=MA3.out;omega) (.slice (some ⟨V0.heap.size,0,none⟩) 1 1))).alloc _
 have hT3:Blk V1 (t3) 65 #[.int .i64 1,.string ⟨#[]⟩,.int .i64 3,.string ⟨#[120]⟩,.int .i64 0,.slice none 0 0]:=by rw [hV1];exact ((HT3.out.far (p:=⟨c1,4,none⟩) (HT3.out.ne_ HC1.out (by decide)) (.slice (some ⟨V0.heap.size,0,none⟩) 1 1))).alloc _
 have hA3:Blk V1 (a3) 58 #[.string ⟨#[115]⟩,.string ⟨#[]⟩,.int .i64 3,.string ⟨#[121]⟩,.int .i64 0,.int .i64 0,.string ⟨#[]⟩,.int .i64 2,.string ⟨#[]⟩,.int .i64 2,.string ⟨#[]⟩,.int .i64 0,.string ⟨#[]⟩,.int .i64 0,.int .i64 1,.string ⟨#[]⟩,.int .i64 0,.string ⟨#[]⟩,.int .i64 0]:=by rw [hV1];exact ((HA3.out.far (p:=⟨c1,4,none⟩) (HA3.out.ne_ HC1.out (by decide)) (.slice (some ⟨V0.heap.size,0,none⟩) 1 1))).alloc _
 have hP1:Blk V1 (v3.heap.size) 25 #[.string ⟨#[97]⟩,.slice (some ⟨c1,0,none⟩) 1 1,.slice (some ⟨a1,0,none⟩) 1 1]:=by rw [hV1];exact ((HP1.out.far (p:=⟨c1,4,none⟩) (HP1.out.ne_ HC1.out (by decide)) (.slice (some ⟨V0.heap.size,0,none⟩) 1 1))).alloc _
 have hP2:Blk V1 (v3.heap.size+1) 25 #[.string ⟨#[97]⟩,.slice (some ⟨c2,0,none⟩) 1 1,.slice (some ⟨a2,0,none⟩) 1 1]:=by rw [hV1];exact ((HP2.out.far (p:=⟨c1,4,none⟩) (HP2.out.ne_ HC1.out (by decide)) (.slice (some ⟨V0.heap.size,0,none⟩) 1 1))).alloc _
 have hP3:Blk V1 (v3.heap.size+2) 25 #[.string ⟨#[97]⟩,.slice (some ⟨c3,0,none⟩) 1 1,.slice (some ⟨a3,0,none⟩) 1 1]:=by rw [hV1];exact ((HP3.out.far (p:=⟨c1,4,none⟩) (HP3.out.ne_ HC1.out (by decide)) (.slice (some ⟨V0.heap.size,0,none⟩) 1 1))).alloc _
 have hn:Blk V1 V0.heap.size 65 #[.int .i64 1,.string ⟨#[121]⟩,.int .i64 0,.string ⟨#[]⟩,.int .i64 0,.slice none 0 0]:=by rw [hV1];have hh:=Blk.new (V0.setCell ⟨c1,4,none⟩ (.slice (some ⟨V0.heap.size,0,none⟩) 1 1)) 65 #[.int .i64 1,.string ⟨#[121]⟩,.int .i64 0,.string ⟨#[]⟩,.int .i64 0,.slice none 0 0];simpa using hh
 have HBn:=Lib.hid (show Below w.heap.size w V1 by rw [hV1];exact (HB.out.setCell (by have:=LC1.out;dsimp only;omega) _).alloc (by have:=HB.out.size;simpa using this) _)
 clear HB
 have HB:=HBn
 clear HBn
 clear xP1_1 zP1 xC1_4 zC1 f4 hV1
 have HC1:=Lib.hid hC1
 clear hC1
 have HT1:=Lib.hid hT1
 clear hT1
 have HA1:=Lib.hid hA1
 clear hA1
 have HC2:=Lib.hid hC2
 clear hC2
 have HT2:=Lib.hid hT2
 clear hT2
 have HA2:=Lib.hid hA2
 clear hA2
 have HC3:=Lib.hid hC3
 clear hC3
 have HT3:=Lib.hid hT3
 clear hT3
 have HA3:=Lib.hid hA3
 clear hA3
 have HP1:=Lib.hid hP1
 clear hP1
 have HP2:=Lib.hid hP2
 clear hP2
 have HP3:=Lib.hid hP3
 clear hP3
 obtain ⟨y1,hy1⟩ : ∃y,y=V0.heap.size:=⟨_,rfl⟩
 rw [← hy1] at hn HC1
 have HY1:=Lib.hid hn
 clear hn hy1
 have xP2_1:V1.cell? ⟨v3.heap.size+1,1,none⟩=some (.slice (some ⟨c2,0,none⟩) 1 1):=(HP2.out.cell 1).trans rfl
 have xP2_2:V1.cell? ⟨v3.heap.size+1,2,none⟩=some (.slice (some ⟨a2,0,none⟩) 1 1):=(HP2.out.cell 2).trans rfl
 have zP2:=HP2.out.lt
 have xC2_2:V1.cell? ⟨c2,2,none⟩=some (.string ⟨#[115]⟩):=(HC2.out.cell 2).trans rfl
 have zC2:=HC2.out.lt
 have xA2_0:V1.cell? ⟨a2,0,none⟩=some (.string ⟨#[115]⟩):=(HA2.out.cell 0).trans rfl
 have zA2:=HA2.out.lt
 have f2:=HC2.out.frozen 2
 have f0:=HA2.out.frozen 0
 have hca:=HC2.out.ne_ HA2.out (by decide)
 have hac:=HA2.out.ne_ HC2.out (by decide)
 have hcp:=HP2.out.ne_ HC2.out (by decide)
 refine wp_region_E (fun w9=>w9.cell? ⟨v3.heap.size+1,1,none⟩=some (.slice (some ⟨c2,0,none⟩) 1 1)∧w9.cell? ⟨v3.heap.size+1,2,none⟩=some (.slice (some ⟨a2,0,none⟩) 1 1)) [(0,0),(1,1),(2,0),(3,1),(4,0),(5,0),(6,2),(7,0),(8,0),(9,2)] (by kernel_rfl) (by kernel_rfl) (fun KK hKK=>?_)
 simp only [beside,List.filterMap_cons,List.filterMap_nil,List.getElem?_toArray,List.getElem?_cons_zero,List.getElem?_cons_succ,Option.map_some]
 repeat ((first | (refine wpX_w ?_ (Or.inl ⟨by rfl,fun w9=>?_⟩) ?_;rotate_left 1;go_simp;with_reducible rfl) | (refine wpX_l ?_ ((And.intro xP2_1 xP2_2)) (Or.inl ⟨by rfl,fun w9 hw9=>?_⟩) ?_;rotate_left 1;obtain ⟨s1,s2⟩:=hw9;go_simp;with_reducible rfl) | refine wpX_w undef (Or.inr ⟨by rfl,rfl⟩) ?_ | refine wpX_l undef ((And.intro xP2_1 xP2_2)) (Or.inr ⟨by rfl,rfl⟩) ?_);go_frame)
 refine wpX_es (fun K9 hK9=>?_)
 go_simp
 refine hK9 _ _ (And.intro (((HP2.out.far (p:=⟨c2,2,none⟩) hcp (.string ⟨#[97]⟩)).drew.cell 1).trans rfl) (((HP2.out.far (p:=⟨c2,2,none⟩) hcp (.string ⟨#[97]⟩)).drew.cell 2).trans rfl)) ?_
 clear hK9 K9
 repeat ((first | (refine wpX_w ?_ (Or.inl ⟨by rfl,fun w9=>?_⟩) ?_;rotate_left 1;go_simp;with_reducible rfl) | (refine wpX_l ?_ ((And.intro (((HP2.out.far (p:=⟨c2,2,none⟩) hcp (.string ⟨#[97]⟩)).drew.cell 1).trans rfl) (((HP2.out.far (p:=⟨c2,2,none⟩) hcp (.string ⟨#[97]⟩)).drew.cell 2).trans rfl))) (Or.inl ⟨by rfl,fun w9 hw9=>?_⟩) ?_;rotate_left 1;obtain ⟨s1,s2⟩:=hw9;go_simp;with_reducible rfl) | refine wpX_w undef (Or.inr ⟨by rfl,rfl⟩) ?_ | refine wpX_l undef ((And.intro (((HP2.out.far (p:=⟨c2,2,none⟩) hcp (.string ⟨#[97]⟩)).drew.cell 1).trans rfl) (((HP2.out.far (p:=⟨c2,2,none⟩) hcp (.string ⟨#[97]⟩)).drew.cell 2).trans rfl))) (Or.inr ⟨by rfl,rfl⟩) ?_);go_frame)
 refine wpX_e (by kernel_rfl) (fun K9 hK9=>?_)
 go_simp
 refine hK9 _ _ ?_
 clear hK9 K9
 refine wpX_nil ?_
 simp only [OnlyN_normal]
 refine hKK _ _ ?_
 clear hKK KK
 obtain ⟨V2,hV2⟩ : ∃V,V=((V1.setCell ⟨c2,2,none⟩ (.string ⟨#[97]⟩)).setCell ⟨a2,0,none⟩ (.string ⟨#[97]⟩)).drew:=⟨_,rfl⟩
 rw [← hV2]
 have hC1:Blk V2 (c1) 50 #[.int .i64 1,.bool true,.string ⟨#[115]⟩,.slice (some ⟨t1,0,none⟩) 1 1,.slice (some ⟨y1,0,none⟩) 1 1,.bool false,.slice none 0 0]:=by rw [hV2];exact (((HC1.out.far (p:=⟨c2,2,none⟩) (by dsimp only;have:=LC1.out;have:=LC2.out;have:=LC3.out;have:=MC1.out;have:=MC2.out;have:=MC3.out;have:=LA1.out;have:=LA2.out;have:=LA3.out;have:=MA1.out;have:=MA2.out;have:=MA3.out;omega) (.string ⟨#[97]⟩)).far (p:=⟨a2,0,none⟩) (HC1.out.ne_ HA2.out (by decide)) (.string ⟨#[97]⟩))).drew
 have hT1:Blk V2 (t1) 65 #[.int .i64 1,.string ⟨#[]⟩,.int .i64 3,.string ⟨#[120]⟩,.int .i64 0,.slice none 0 0]:=by rw [hV2];exact (((HT1.out.far (p:=⟨c2,2,none⟩) (HT1.out.ne_ HC2.out (by decide)) (.string ⟨#[97]⟩)).far (p:=⟨a2,0,none⟩) (HT1.out.ne_ HA2.out (by decide)) (.string ⟨#[97]⟩))).drew
 have hA1:Blk V2 (a1) 58 #[.string ⟨#[115]⟩,.string ⟨#[]⟩,.int .i64 3,.string ⟨#[121]⟩,.int .i64 0,.int .i64 0,.string ⟨#[]⟩,.int .i64 2,.string ⟨#[]⟩,.int .i64 2,.string ⟨#[]⟩,.int .i64 0,.string ⟨#[]⟩,.int .i64 0,.int .i64 1,.string ⟨#[]⟩,.int .i64 0,.string ⟨#[]⟩,.int .i64 0]:=by rw [hV2];exact (((HA1.out.far (p:=⟨c2,2,none⟩) (HA1.out.ne_ HC2.out (by decide)) (.string ⟨#[97]⟩)).far (p:=⟨a2,0,none⟩) (by dsimp only;have:=LC1.out;have:=LC2.out;have:=LC3.out;have:=MC1.out;have:=MC2.out;have:=MC3.out;have:=LA1.out;have:=LA2.out;have:=LA3.out;have:=MA1.out;have:=MA2.out;have:=MA3.out;omega) (.string ⟨#[97]⟩))).drew
 have hC2:Blk V2 (c2) 50 #[.int .i64 1,.bool true,.string ⟨#[97]⟩,.slice (some ⟨t2,0,none⟩) 1 1,.slice (some ⟨u2,0,none⟩) 1 1,.bool false,.slice none 0 0]:=by rw [hV2];exact (((HC2.out.set_ 2 (.string ⟨#[97]⟩)).far (p:=⟨a2,0,none⟩) (HC2.out.ne_ HA2.out (by decide)) (.string ⟨#[97]⟩))).drew
 have hT2:Blk V2 (t2) 65 #[.int .i64 1,.string ⟨#[]⟩,.int .i64 3,.string ⟨#[120]⟩,.int .i64 0,.slice none 0 0]:=by rw [hV2];exact (((HT2.out.far (p:=⟨c2,2,none⟩) (HT2.out.ne_ HC2.out (by decide)) (.string ⟨#[97]⟩)).far (p:=⟨a2,0,none⟩) (HT2.out.ne_ HA2.out (by decide)) (.string ⟨#[97]⟩))).drew
 have hA2:Blk V2 (a2) 58 #[.string ⟨#[97]⟩,.string ⟨#[]⟩,.int .i64 3,.string ⟨#[121]⟩,.int .i64 0,.int .i64 0,.string ⟨#[]⟩,.int .i64 2,.string ⟨#[]⟩,.int .i64 2,.string ⟨#[]⟩,.int .i64 0,.string ⟨#[]⟩,.int .i64 0,.int .i64 1,.string ⟨#[]⟩,.int .i64 0,.string ⟨#[]⟩,.int .i64 0]:=by rw [hV2];exact (((HA2.out.far (p:=⟨c2,2,none⟩) (HA2.out.ne_ HC2.out (by decide)) (.string ⟨#[97]⟩)).set_ 0 (.string ⟨#[97]⟩))).drew
 have hC3:Blk V2 (c3) 50 #[.int .i64 1,.bool true,.string ⟨#[115]⟩,.slice (some ⟨t3,0,none⟩) 1 1,.slice (some ⟨u3,0,none⟩) 1 1,.bool false,.slice none 0 0]:=by rw [hV2];exact (((HC3.out.far (p:=⟨c2,2,none⟩) (by dsimp only;have:=LC1.out;have:=LC2.out;have:=LC3.out;have:=MC1.out;have:=MC2.out;have:=MC3.out;have:=LA1.out;have:=LA2.out;have:=LA3.out;have:=MA1.out;have:=MA2.out;have:=MA3.out;omega) (.string ⟨#[97]⟩)).far (p:=⟨a2,0,none⟩) (HC3.out.ne_ HA2.out (by decide)) (.string ⟨#[97]⟩))).drew
 have hT3:Blk V2 (t3) 65 #[.int .i64 1,.string ⟨#[]⟩,.int .i64 3,.string ⟨#[120]⟩,.int .i64 0,.slice none 0 0]:=by rw [hV2];exact (((HT3.out.far (p:=⟨c2,2,none⟩) (HT3.out.ne_ HC2.out (by decide)) (.string ⟨#[97]⟩)).far (p:=⟨a2,0,none⟩) (HT3.out.ne_ HA2.out (by decide)) (.string ⟨#[97]⟩))).drew
 have hA3:Blk V2 (a3) 58 #[.string ⟨#[115]⟩,.string ⟨#[]⟩,.int .i64 3,.string ⟨#[121]⟩,.int .i64 0,.int .i64 0,.string ⟨#[]⟩,.int .i64 2,.string ⟨#[]⟩,.int .i64 2,.string ⟨#[]⟩,.int .i64 0,.string ⟨#[]⟩,.int .i64 0,.int .i64 1,.string ⟨#[]⟩,.int .i64 0,.string ⟨#[]⟩,.int .i64 0]:=by rw [hV2];exact (((HA3.out.far (p:=⟨c2,2,none⟩) (HA3.out.ne_ HC2.out (by decide)) (.string ⟨#[97]⟩)).far (p:=⟨a2,0,none⟩) (by dsimp only;have:=LC1.out;have:=LC2.out;have:=LC3.out;have:=MC1.out;have:=MC2.out;have:=MC3.out;have:=LA1.out;have:=LA2.out;have:=LA3.out;have:=MA1.out;have:=MA2.out;have:=MA3.out;omega) (.string ⟨#[97]⟩))).drew
 have hP1:Blk V2 (v3.heap.size) 25 #[.string ⟨#[97]⟩,.slice (some ⟨c1,0,none⟩) 1 1,.slice (some ⟨a1,0,none⟩) 1 1]:=by rw [hV2];exact (((HP1.out.far (p:=⟨c2,2,none⟩) (HP1.out.ne_ HC2.out (by decide)) (.string ⟨#[97]⟩)).far (p:=⟨a2,0,none⟩) (HP1.out.ne_ HA2.out (by decide)) (.string ⟨#[97]⟩))).drew
 have hP2:Blk V2 (v3.heap.size+1) 25 #[.string ⟨#[97]⟩,.slice (some ⟨c2,0,none⟩) 1 1,.slice (some ⟨a2,0,none⟩) 1 1]:=by rw [hV2];exact (((HP2.out.far (p:=⟨c2,2,none⟩) (HP2.out.ne_ HC2.out (by decide)) (.string ⟨#[97]⟩)).far (p:=⟨a2,0,none⟩) (HP2.out.ne_ HA2.out (by decide)) (.string ⟨#[97]⟩))).drew
 have hP3:Blk V2 (v3.heap.size+2) 25 #[.string ⟨#[97]⟩,.slice (some ⟨c3,0,none⟩) 1 1,.slice (some ⟨a3,0,none⟩) 1 1]:=by rw [hV2];exact (((HP3.out.far (p:=⟨c2,2,none⟩) (HP3.out.ne_ HC2.out (by decide)) (.string ⟨#[97]⟩)).far (p:=⟨a2,0,none⟩) (HP3.out.ne_ HA2.out (by decide)) (.string ⟨#[97]⟩))).drew
 have hY1:Blk V2 (y1) 65 #[.int .i64 1,.string ⟨#[121]⟩,.int .i64 0,.string ⟨#[]⟩,.int .i64 0,.slice none 0 0]:=by rw [hV2];exact (((HY1.out.far (p:=⟨c2,2,none⟩) (HY1.out.ne_ HC2.out (by decide)) (.string ⟨#[97]⟩)).far (p:=⟨a2,0,none⟩) (HY1.out.ne_ HA2.out (by decide)) (.string ⟨#[97]⟩))).drew
 have HBn:=Lib.hid (show Below w.heap.size w V2 by rw [hV2];exact ((HB.out.setCell (by have:=LC2.out;dsimp only;omega) _).setCell (by have:=LA2.out;dsimp only;omega) _).drew)
 clear HB
 have HB:=HBn
 clear HBn
 clear xP2_1 xP2_2 zP2 xC2_2 zC2 xA2_0 zA2 f2 f0 hca hac hcp hV2
 have HC1:=Lib.hid hC1
 clear hC1
 have HT1:=Lib.hid hT1
 clear hT1
 have HA1:=Lib.hid hA1
 clear hA1
 have HC2:=Lib.hid hC2
 clear hC2
 have HT2:=Lib.hid hT2
 clear hT2
 have HA2:=Lib.hid hA2
 clear hA2
 have HC3:=Lib.hid hC3
 clear hC3
 have HT3:=Lib.hid hT3
 clear hT3
 have HA3:=Lib.hid hA3
 clear hA3
 have HP1:=Lib.hid hP1
 clear hP1
 have HP2:=Lib.hid hP2
 clear hP2
 have HP3:=Lib.hid hP3
 clear hP3
 have HY1:=Lib.hid hY1
 clear hY1
 have xP2_1:V2.cell? ⟨v3.heap.size+1,1,none⟩=some (.slice (some ⟨c2,0,none⟩) 1 1):=(HP2.out.cell 1).trans rfl
 have zP2:=HP2.out.lt
 have xC2_4:V2.cell? ⟨c2,4,none⟩=some (.slice (some ⟨u2,0,none⟩) 1 1):=(HC2.out.cell 4).trans rfl
 have zC2:=HC2.out.lt
 have f4:=HC2.out.frozen 4
 go_upto_region 5 with fail
 obtain ⟨V3,hV3⟩ : ∃V,V=(V2.setCell ⟨c2,4,none⟩ (.slice (some ⟨V2.heap.size,0,none⟩) 1 1)).alloc (.cells #[.int .i64 1,.string ⟨#[98]⟩,.int .i64 0,.string ⟨#[]⟩,.int .i64 0,.slice none 0 0] 65):=⟨_,rfl⟩
 rw [← hV3]
 have hC1:Blk V3 (c1) 50 #[.int .i64 1,.bool true,.string ⟨#[115]⟩,.slice (some ⟨t1,0,none⟩) 1 1,.slice (some ⟨y1,0,none⟩) 1 1,.bool false,.slice none 0 0]:=by rw [hV3];exact ((HC1.out.far (p:=⟨c2,4,none⟩) (by dsimp only;have:=LC1.out;have:=LC2.out;have:=LC3.out;have:=MC1.out;have:=MC2.out;have:=MC3.out;have:=LA1.out;have:=LA2.out;have:=LA3.out;have:=MA1.out;have:=MA2.out;have:=MA3.out;omega) (.slice (some ⟨V2.heap.size,0,none⟩) 1 1))).alloc _
 have hT1:Blk V3 (t1) 65 #[.int .i64 1,.string ⟨#[]⟩,.int .i64 3,.string ⟨#[120]⟩,.int .i64 0,.slice none 0 0]:=by rw [hV3];exact ((HT1.out.far (p:=⟨c2,4,none⟩) (HT1.out.ne_ HC2.out (by decide)) (.slice (some ⟨V2.heap.size,0,none⟩) 1 1))).alloc _
 have hA1:Blk V3 (a1) 58 #[.string ⟨#[115]⟩,.string ⟨#[]⟩,.int .i64 3,.string ⟨#[121]⟩,.int .i64 0,.int .i64 0,.string ⟨#[]⟩,.int .i64 2,.string ⟨#[]⟩,.int .i64 2,.string ⟨#[]⟩,.int .i64 0,.string ⟨#[]⟩,.int .i64 0,.int .i64 1,.string ⟨#[]⟩,.int .i64 0,.string ⟨#[]⟩,.int .i64 0]:=by rw [hV3];exact ((HA1.out.far (p:=⟨c2,4,none⟩) (HA1.out.ne_ HC2.out (by decide)) (.slice (some ⟨V2.heap.size,0,none⟩) 1 1))).alloc _
 have hC2:Blk V3 (c2) 50 #[.int .i64 1,.bool true,.string ⟨#[97]⟩,.slice (some ⟨t2,0,none⟩) 1 1,.slice (some ⟨V2.heap.size,0,none⟩) 1 1,.bool false,.slice none 0 0]:=by rw [hV3];exact ((HC2.out.set_ 4 (.slice (some ⟨V2.heap.size,0,none⟩) 1 1))).alloc _
 have hT2:Blk V3 (t2) 65 #[.int .i64 1,.string ⟨#[]⟩,.int .i64 3,.string ⟨#[120]⟩,.int .i64 0,.slice none 0 0]:=by rw [hV3];exact ((HT2.out.far (p:=⟨c2,4,none⟩) (HT2.out.ne_ HC2.out (by decide)) (.slice (some ⟨V2.heap.size,0,none⟩) 1 1))).alloc _
 have hA2:Blk V3 (a2) 58 #[.string ⟨#[97]⟩,.string ⟨#[]⟩,.int .i64 3,.string ⟨#[121]⟩,.int .i64 0,.int .i64 0,.string ⟨#[]⟩,.int .i64 2,.string ⟨#[]⟩,.int .i64 2,.string ⟨#[]⟩,.int .i64 0,.string ⟨#[]⟩,.int .i64 0,.int .i64 1,.string ⟨#[]⟩,.int .i64 0,.string ⟨#[]⟩,.int .i64 0]:=by rw [hV3];exact ((HA2.out.far (p:=⟨c2,4,none⟩) (HA2.out.ne_ HC2.out (by decide)) (.slice (some ⟨V2.heap.size,0,none⟩) 1 1))).alloc _
 have hC3:Blk V3 (c3) 50 #[.int .i64 1,.bool true,.string ⟨#[115]⟩,.slice (some ⟨t3,0,none⟩) 1 1,.slice (some ⟨u3,0,none⟩) 1 1,.bool false,.slice none 0 0]:=by rw [hV3];exact ((HC3.out.far (p:=⟨c2,4,none⟩) (by dsimp only;have:=LC1.out;have:=LC2.out;have:=LC3.out;have:=MC1.out;have:=MC2.out;have:=MC3.out;have:=LA1.out;have:=LA2.out;have:=LA3.out;have:=MA1.out;have:=MA2.out;have:=MA3.out;omega) (.slice (some ⟨V2.heap.size,0,none⟩) 1 1))).alloc _
 have hT3:Blk V3 (t3) 65 #[.int .i64 1,.string ⟨#[]⟩,.int .i64 3,.string ⟨#[120]⟩,.int .i64 0,.slice none 0 0]:=by rw [hV3];exact ((HT3.out.far (p:=⟨c2,4,none⟩) (HT3.out.ne_ HC2.out (by decide)) (.slice (some ⟨V2.heap.size,0,none⟩) 1 1))).alloc _
 have hA3:Blk V3 (a3) 58 #[.string ⟨#[115]⟩,.string ⟨#[]⟩,.int .i64 3,.string ⟨#[121]⟩,.int .i64 0,.int .i64 0,.string ⟨#[]⟩,.int .i64 2,.string ⟨#[]⟩,.int .i64 2,.string ⟨#[]⟩,.int .i64 0,.string ⟨#[]⟩,.int .i64 0,.int .i64 1,.string ⟨#[]⟩,.int .i64 0,.string ⟨#[]⟩,.int .i64 0]:=by rw [hV3];exact ((HA3.out.far (p:=⟨c2,4,none⟩) (HA3.out.ne_ HC2.out (by decide)) (.slice (some ⟨V2.heap.size,0,none⟩) 1 1))).alloc _
 have hP1:Blk V3 (v3.heap.size) 25 #[.string ⟨#[97]⟩,.slice (some ⟨c1,0,none⟩) 1 1,.slice (some ⟨a1,0,none⟩) 1 1]:=by rw [hV3];exact ((HP1.out.far (p:=⟨c2,4,none⟩) (HP1.out.ne_ HC2.out (by decide)) (.slice (some ⟨V2.heap.size,0,none⟩) 1 1))).alloc _
 have hP2:Blk V3 (v3.heap.size+1) 25 #[.string ⟨#[97]⟩,.slice (some ⟨c2,0,none⟩) 1 1,.slice (some ⟨a2,0,none⟩) 1 1]:=by rw [hV3];exact ((HP2.out.far (p:=⟨c2,4,none⟩) (HP2.out.ne_ HC2.out (by decide)) (.slice (some ⟨V2.heap.size,0,none⟩) 1 1))).alloc _
 have hP3:Blk V3 (v3.heap.size+2) 25 #[.string ⟨#[97]⟩,.slice (some ⟨c3,0,none⟩) 1 1,.slice (some ⟨a3,0,none⟩) 1 1]:=by rw [hV3];exact ((HP3.out.far (p:=⟨c2,4,none⟩) (HP3.out.ne_ HC2.out (by decide)) (.slice (some ⟨V2.heap.size,0,none⟩) 1 1))).alloc _
 have hY1:Blk V3 (y1) 65 #[.int .i64 1,.string ⟨#[121]⟩,.int .i64 0,.string ⟨#[]⟩,.int .i64 0,.slice none 0 0]:=by rw [hV3];exact ((HY1.out.far (p:=⟨c2,4,none⟩) (HY1.out.ne_ HC2.out (by decide)) (.slice (some ⟨V2.heap.size,0,none⟩) 1 1))).alloc _
 have hn:Blk V3 V2.heap.size 65 #[.int .i64 1,.string ⟨#[98]⟩,.int .i64 0,.string ⟨#[]⟩,.int .i64 0,.slice none 0 0]:=by rw [hV3];have hh:=Blk.new (V2.setCell ⟨c2,4,none⟩ (.slice (some ⟨V2.heap.size,0,none⟩) 1 1)) 65 #[.int .i64 1,.string ⟨#[98]⟩,.int .i64 0,.string ⟨#[]⟩,.int .i64 0,.slice none 0 0];simpa using hh
 have HBn:=Lib.hid (show Below w.heap.size w V3 by rw [hV3];exact (HB.out.setCell (by have:=LC2.out;dsimp only;omega) _).alloc (by have:=HB.out.size;simpa using this) _)
 clear HB
 have HB:=HBn
 clear HBn
 clear xP2_1 zP2 xC2_4 zC2 f4 hV3
 have HC1:=Lib.hid hC1
 clear hC1
 have HT1:=Lib.hid hT1
 clear hT1
 have HA1:=Lib.hid hA1
 clear hA1
 have HC2:=Lib.hid hC2
 clear hC2
 have HT2:=Lib.hid hT2
 clear hT2
 have HA2:=Lib.hid hA2
 clear hA2
 have HC3:=Lib.hid hC3
 clear hC3
 have HT3:=Lib.hid hT3
 clear hT3
 have HA3:=Lib.hid hA3
 clear hA3
 have HP1:=Lib.hid hP1
 clear hP1
 have HP2:=Lib.hid hP2
 clear hP2
 have HP3:=Lib.hid hP3
 clear hP3
 have HY1:=Lib.hid hY1
 clear hY1
 obtain ⟨y2,hy2⟩ : ∃y,y=V2.heap.size:=⟨_,rfl⟩
 rw [← hy2] at hn HC2
 have HY2:=Lib.hid hn
 clear hn hy2
 have xP3_1:V3.cell? ⟨v3.heap.size+2,1,none⟩=some (.slice (some ⟨c3,0,none⟩) 1 1):=(HP3.out.cell 1).trans rfl
 have zP3:=HP3.out.lt
 have xC3_4:V3.cell? ⟨c3,4,none⟩=some (.slice (some ⟨u3,0,none⟩) 1 1):=(HC3.out.cell 4).trans rfl
 have zC3:=HC3.out.lt
 have f4:=HC3.out.frozen 4
 go_upto_region 6 with fail
 obtain ⟨V4,hV4⟩ : ∃V,V=(V3.setCell ⟨c3,4,none⟩ (.slice (some ⟨V3.heap.size,0,none⟩) 1 1)).alloc (.cells #[.int .i64 1,.string ⟨#[115]⟩,.int .i64 0,.string ⟨#[]⟩,.int .i64 0,.slice none 0 0] 65):=⟨_,rfl⟩
 rw [← hV4]
 have hC1:Blk V4 (c1) 50 #[.int .i64 1,.bool true,.string ⟨#[115]⟩,.slice (some ⟨t1,0,none⟩) 1 1,.slice (some ⟨y1,0,none⟩) 1 1,.bool false,.slice none 0 0]:=by rw [hV4];exact ((HC1.out.far (p:=⟨c3,4,none⟩) (by dsimp only;have:=LC1.out;have:=LC2.out;have:=LC3.out;have:=MC1.out;have:=MC2.out;have:=MC3.out;have:=LA1.out;have:=LA2.out;have:=LA3.out;have:=MA1.out;have:=MA2.out;have:=MA3.out;omega) (.slice (some ⟨V3.heap.size,0,none⟩) 1 1))).alloc _
 have hT1:Blk V4 (t1) 65 #[.int .i64 1,.string ⟨#[]⟩,.int .i64 3,.string ⟨#[120]⟩,.int .i64 0,.slice none 0 0]:=by rw [hV4];exact ((HT1.out.far (p:=⟨c3,4,none⟩) (HT1.out.ne_ HC3.out (by decide)) (.slice (some ⟨V3.heap.size,0,none⟩) 1 1))).alloc _
 have hA1:Blk V4 (a1) 58 #[.string ⟨#[115]⟩,.string ⟨#[]⟩,.int .i64 3,.string ⟨#[121]⟩,.int .i64 0,.int .i64 0,.string ⟨#[]⟩,.int .i64 2,.string ⟨#[]⟩,.int .i64 2,.string ⟨#[]⟩,.int .i64 0,.string ⟨#[]⟩,.int .i64 0,.int .i64 1,.string ⟨#[]⟩,.int .i64 0,.string ⟨#[]⟩,.int .i64 0]:=by rw [hV4];exact ((HA1.out.far (p:=⟨c3,4,none⟩) (HA1.out.ne_ HC3.out (by decide)) (.slice (some ⟨V3.heap.size,0,none⟩) 1 1))).alloc _
 have hC2:Blk V4 (c2) 50 #[.int .i64 1,.bool true,.string ⟨#[97]⟩,.slice (some ⟨t2,0,none⟩) 1 1,.slice (some ⟨y2,0,none⟩) 1 1,.bool false,.slice none 0 0]:=by rw [hV4];exact ((HC2.out.far (p:=⟨c3,4,none⟩) (by dsimp only;have:=LC1.out;have:=LC2.out;have:=LC3.out;have:=MC1.out;have:=MC2.out;have:=MC3.out;have:=LA1.out;have:=LA2.out;have:=LA3.out;have:=MA1.out;have:=MA2.out;have:=MA3.out;omega) (.slice (some ⟨V3.heap.size,0,none⟩) 1 1))).alloc _
 have hT2:Blk V4 (t2) 65 #[.int .i64 1,.string ⟨#[]⟩,.int .i64 3,.string ⟨#[120]⟩,.int .i64 0,.slice none 0 0]:=by rw [hV4];exact ((HT2.out.far (p:=⟨c3,4,none⟩) (HT2.out.ne_ HC3.out (by decide)) (.slice (some ⟨V3.heap.size,0,none⟩) 1 1))).alloc _
 have hA2:Blk V4 (a2) 58 #[.string ⟨#[97]⟩,.string ⟨#[]⟩,.int .i64 3,.string ⟨#[121]⟩,.int .i64 0,.int .i64 0,.string ⟨#[]⟩,.int .i64 2,.string ⟨#[]⟩,.int .i64 2,.string ⟨#[]⟩,.int .i64 0,.string ⟨#[]⟩,.int .i64 0,.int .i64 1,.string ⟨#[]⟩,.int .i64 0,.string ⟨#[]⟩,.int .i64 0]:=by rw [hV4];exact ((HA2.out.far (p:=⟨c3,4,none⟩) (HA2.out.ne_ HC3.out (by decide)) (.slice (some ⟨V3.heap.size,0,none⟩) 1 1))).alloc _
 have hC3:Blk V4 (c3) 50 #[.int .i64 1,.bool true,.string ⟨#[115]⟩,.slice (some ⟨t3,0,none⟩) 1 1,.slice (some ⟨V3.heap.size,0,none⟩) 1 1,.bool false,.slice none 0 0]:=by rw [hV4];exact ((HC3.out.set_ 4 (.slice (some ⟨V3.heap.size,0,none⟩) 1 1))).alloc _
 have hT3:Blk V4 (t3) 65 #[.int .i64 1,.string ⟨#[]⟩,.int .i64 3,.string ⟨#[120]⟩,.int .i64 0,.slice none 0 0]:=by rw [hV4];exact ((HT3.out.far (p:=⟨c3,4,none⟩) (HT3.out.ne_ HC3.out (by decide)) (.slice (some ⟨V3.heap.size,0,none⟩) 1 1))).alloc _
 have hA3:Blk V4 (a3) 58 #[.string ⟨#[115]⟩,.string ⟨#[]⟩,.int .i64 3,.string ⟨#[121]⟩,.int .i64 0,.int .i64 0,.string ⟨#[]⟩,.int .i64 2,.string ⟨#[]⟩,.int .i64 2,.string ⟨#[]⟩,.int .i64 0,.string ⟨#[]⟩,.int .i64 0,.int .i64 1,.string ⟨#[]⟩,.int .i64 0,.string ⟨#[]⟩,.int .i64 0]:=by rw [hV4];exact ((HA3.out.far (p:=⟨c3,4,none⟩) (HA3.out.ne_ HC3.out (by decide)) (.slice (some ⟨V3.heap.size,0,none⟩) 1 1))).alloc _
 have hP1:Blk V4 (v3.heap.size) 25 #[.string ⟨#[97]⟩,.slice (some ⟨c1,0,none⟩) 1 1,.slice (some ⟨a1,0,none⟩) 1 1]:=by rw [hV4];exact ((HP1.out.far (p:=⟨c3,4,none⟩) (HP1.out.ne_ HC3.out (by decide)) (.slice (some ⟨V3.heap.size,0,none⟩) 1 1))).alloc _
 have hP2:Blk V4 (v3.heap.size+1) 25 #[.string ⟨#[97]⟩,.slice (some ⟨c2,0,none⟩) 1 1,.slice (some ⟨a2,0,none⟩) 1 1]:=by rw [hV4];exact ((HP2.out.far (p:=⟨c3,4,none⟩) (HP2.out.ne_ HC3.out (by decide)) (.slice (some ⟨V3.heap.size,0,none⟩) 1 1))).alloc _
 have hP3:Blk V4 (v3.heap.size+2) 25 #[.string ⟨#[97]⟩,.slice (some ⟨c3,0,none⟩) 1 1,.slice (some ⟨a3,0,none⟩) 1 1]:=by rw [hV4];exact ((HP3.out.far (p:=⟨c3,4,none⟩) (HP3.out.ne_ HC3.out (by decide)) (.slice (some ⟨V3.heap.size,0,none⟩) 1 1))).alloc _
 have hY1:Blk V4 (y1) 65 #[.int .i64 1,.string ⟨#[121]⟩,.int .i64 0,.string ⟨#[]⟩,.int .i64 0,.slice none 0 0]:=by rw [hV4];exact ((HY1.out.far (p:=⟨c3,4,none⟩) (HY1.out.ne_ HC3.out (by decide)) (.slice (some ⟨V3.heap.size,0,none⟩) 1 1))).alloc _
 have hY2:Blk V4 (y2) 65 #[.int .i64 1,.string ⟨#[98]⟩,.int .i64 0,.string ⟨#[]⟩,.int .i64 0,.slice none 0 0]:=by rw [hV4];exact ((HY2.out.far (p:=⟨c3,4,none⟩) (HY2.out.ne_ HC3.out (by decide)) (.slice (some ⟨V3.heap.size,0,none⟩) 1 1))).alloc _
 have hn:Blk V4 V3.heap.size 65 #[.int .i64 1,.string ⟨#[115]⟩,.int .i64 0,.string ⟨#[]⟩,.int .i64 0,.slice none 0 0]:=by rw [hV4];have hh:=Blk.new (V3.setCell ⟨c3,4,none⟩ (.slice (some ⟨V3.heap.size,0,none⟩) 1 1)) 65 #[.int .i64 1,.string ⟨#[115]⟩,.int .i64 0,.string ⟨#[]⟩,.int .i64 0,.slice none 0 0];simpa using hh
 have HBn:=Lib.hid (show Below w.heap.size w V4 by rw [hV4];exact (HB.out.setCell (by have:=LC3.out;dsimp only;omega) _).alloc (by have:=HB.out.size;simpa using this) _)
 clear HB
 have HB:=HBn
 clear HBn
 clear xP3_1 zP3 xC3_4 zC3 f4 hV4
 have HC1:=Lib.hid hC1
 clear hC1
 have HT1:=Lib.hid hT1
 clear hT1
 have HA1:=Lib.hid hA1
 clear hA1
 have HC2:=Lib.hid hC2
 clear hC2
 have HT2:=Lib.hid hT2
 clear hT2
 have HA2:=Lib.hid hA2
 clear hA2
 have HC3:=Lib.hid hC3
 clear hC3
 have HT3:=Lib.hid hT3
 clear hT3
 have HA3:=Lib.hid hA3
 clear hA3
 have HP1:=Lib.hid hP1
 clear hP1
 have HP2:=Lib.hid hP2
 clear hP2
 have HP3:=Lib.hid hP3
 clear hP3
 have HY1:=Lib.hid hY1
 clear hY1
 have HY2:=Lib.hid hY2
 clear hY2
 obtain ⟨y3,hy3⟩ : ∃y,y=V3.heap.size:=⟨_,rfl⟩
 rw [← hy3] at hn HC3
 have HY3:=Lib.hid hn
 clear hn hy3
 obtain ⟨X,hX⟩ : ∃X,X=V4:=⟨_,rfl⟩
 rw [← hX] at HB ⊢
 rw [← hX] at HC1
 rw [← hX] at HT1
 rw [← hX] at HA1
 rw [← hX] at HC2
 rw [← hX] at HT2
 rw [← hX] at HA2
 rw [← hX] at HC3
 rw [← hX] at HT3
 rw [← hX] at HA3
 rw [← hX] at HP1
 rw [← hX] at HP2
 rw [← hX] at HP3
 rw [← hX] at HY1
 rw [← hX] at HY2
 rw [← hX] at HY3
 clear hX
 have HS1:=Lib.hid (show ∀Y,Below X.heap.size X Y→Calls Try.prog 24 #[.agg #[.string ⟨#[97]⟩,.slice (some ⟨c1,0,none⟩) 1 1,.slice (some ⟨a1,0,none⟩) 1 1],.agg #[.string ⟨#[97]⟩,.slice (some ⟨c2,0,none⟩) 1 1,.slice (some ⟨a2,0,none⟩) 1 1]] Y fun e w'=>e = .returned (.bool true)∧Below Y.heap.size Y w' from fun Y hY=>by
  have h:=csame_is (D:=(· < Y.heap.size)) 1 (wkP ⟨#[115]⟩ ⟨#[121]⟩) (wkP ⟨#[97]⟩ ⟨#[98]⟩) (some ⟨c1,0,none⟩) 1 (some ⟨a1,0,none⟩) 1 (some ⟨c2,0,none⟩) 1 (some ⟨a2,0,none⟩) 1 Y (fun _ hk=>hk) (wk_rows (D:=(· < Y.heap.size)) ⟨#[115]⟩ ⟨#[121]⟩ (HC1.out.new_ hY) (HT1.out.new_ hY) (HY1.out.new_ hY) (HA1.out.new_ hY) (fun k hk=>hk)).1 (wk_rows (D:=(· < Y.heap.size)) ⟨#[115]⟩ ⟨#[121]⟩ (HC1.out.new_ hY) (HT1.out.new_ hY) (HY1.out.new_ hY) (HA1.out.new_ hY) (fun k hk=>hk)).2 (wk_fit _ _) (wk_rows (D:=(· < Y.heap.size)) ⟨#[97]⟩ ⟨#[98]⟩ (HC2.out.new_ hY) (HT2.out.new_ hY) (HY2.out.new_ hY) (HA2.out.new_ hY) (fun k hk=>hk)).1 (wk_rows (D:=(· < Y.heap.size)) ⟨#[97]⟩ ⟨#[98]⟩ (HC2.out.new_ hY) (HT2.out.new_ hY) (HY2.out.new_ hY) (HA2.out.new_ hY) (fun k hk=>hk)).2 (wk_fit _ _)
  rw [wk_yes] at h
  exact h)
 have HS2:=Lib.hid (show ∀Y,Below X.heap.size X Y→Calls Try.prog 24 #[.agg #[.string ⟨#[97]⟩,.slice (some ⟨c1,0,none⟩) 1 1,.slice (some ⟨a1,0,none⟩) 1 1],.agg #[.string ⟨#[97]⟩,.slice (some ⟨c3,0,none⟩) 1 1,.slice (some ⟨a3,0,none⟩) 1 1]] Y fun e w'=>e = .returned (.bool false)∧Below Y.heap.size Y w' from fun Y hY=>by
  have h:=csame_is (D:=(· < Y.heap.size)) 1 (wkP ⟨#[115]⟩ ⟨#[121]⟩) (wkP ⟨#[115]⟩ ⟨#[115]⟩) (some ⟨c1,0,none⟩) 1 (some ⟨a1,0,none⟩) 1 (some ⟨c3,0,none⟩) 1 (some ⟨a3,0,none⟩) 1 Y (fun _ hk=>hk) (wk_rows (D:=(· < Y.heap.size)) ⟨#[115]⟩ ⟨#[121]⟩ (HC1.out.new_ hY) (HT1.out.new_ hY) (HY1.out.new_ hY) (HA1.out.new_ hY) (fun k hk=>hk)).1 (wk_rows (D:=(· < Y.heap.size)) ⟨#[115]⟩ ⟨#[121]⟩ (HC1.out.new_ hY) (HT1.out.new_ hY) (HY1.out.new_ hY) (HA1.out.new_ hY) (fun k hk=>hk)).2 (wk_fit _ _) (wk_rows (D:=(· < Y.heap.size)) ⟨#[115]⟩ ⟨#[115]⟩ (HC3.out.new_ hY) (HT3.out.new_ hY) (HY3.out.new_ hY) (HA3.out.new_ hY) (fun k hk=>hk)).1 (wk_rows (D:=(· < Y.heap.size)) ⟨#[115]⟩ ⟨#[115]⟩ (HC3.out.new_ hY) (HT3.out.new_ hY) (HY3.out.new_ hY) (HA3.out.new_ hY) (fun k hk=>hk)).2 (wk_fit _ _)
  rw [wk_no] at h
  exact h)
 have xP1_0:X.cell? ⟨v3.heap.size,0,none⟩=some (.string ⟨#[97]⟩):=(HP1.out.cell 0).trans rfl
 have xP1_1:X.cell? ⟨v3.heap.size,1,none⟩=some (.slice (some ⟨c1,0,none⟩) 1 1):=(HP1.out.cell 1).trans rfl
 have xP1_2:X.cell? ⟨v3.heap.size,2,none⟩=some (.slice (some ⟨a1,0,none⟩) 1 1):=(HP1.out.cell 2).trans rfl
 have zP1:=HP1.out.lt
 have xP2_0:X.cell? ⟨v3.heap.size+1,0,none⟩=some (.string ⟨#[97]⟩):=(HP2.out.cell 0).trans rfl
 have xP2_1:X.cell? ⟨v3.heap.size+1,1,none⟩=some (.slice (some ⟨c2,0,none⟩) 1 1):=(HP2.out.cell 1).trans rfl
 have xP2_2:X.cell? ⟨v3.heap.size+1,2,none⟩=some (.slice (some ⟨a2,0,none⟩) 1 1):=(HP2.out.cell 2).trans rfl
 have zP2:=HP2.out.lt
 have xP3_0:X.cell? ⟨v3.heap.size+2,0,none⟩=some (.string ⟨#[97]⟩):=(HP3.out.cell 0).trans rfl
 have xP3_1:X.cell? ⟨v3.heap.size+2,1,none⟩=some (.slice (some ⟨c3,0,none⟩) 1 1):=(HP3.out.cell 1).trans rfl
 have xP3_2:X.cell? ⟨v3.heap.size+2,2,none⟩=some (.slice (some ⟨a3,0,none⟩) 1 1):=(HP3.out.cell 2).trans rfl
 have zP3:=HP3.out.lt
 go_wp2_with fail
 refine (HS1.out X (Below.refl _ _)).mono ?_
 rintro e X2 ⟨rfl,hb2⟩
 have HB2:=Lib.hid hb2
 clear xP1_0 xP1_1 xP1_2 zP1 xP2_0 xP2_1 xP2_2 zP2 xP3_0 xP3_1 xP3_2 zP3
 have HP1:=Lib.hid (HP1.out.new_ hb2)
 have HP3:=Lib.hid (HP3.out.new_ hb2)
 clear hb2
 have xP1_0:X2.cell? ⟨v3.heap.size,0,none⟩=some (.string ⟨#[97]⟩):=(HP1.out.cell 0).trans rfl
 have xP1_1:X2.cell? ⟨v3.heap.size,1,none⟩=some (.slice (some ⟨c1,0,none⟩) 1 1):=(HP1.out.cell 1).trans rfl
 have xP1_2:X2.cell? ⟨v3.heap.size,2,none⟩=some (.slice (some ⟨a1,0,none⟩) 1 1):=(HP1.out.cell 2).trans rfl
 have zP1:=HP1.out.lt
 have xP3_0:X2.cell? ⟨v3.heap.size+2,0,none⟩=some (.string ⟨#[97]⟩):=(HP3.out.cell 0).trans rfl
 have xP3_1:X2.cell? ⟨v3.heap.size+2,1,none⟩=some (.slice (some ⟨c3,0,none⟩) 1 1):=(HP3.out.cell 1).trans rfl
 have xP3_2:X2.cell? ⟨v3.heap.size+2,2,none⟩=some (.slice (some ⟨a3,0,none⟩) 1 1):=(HP3.out.cell 2).trans rfl
 have zP3:=HP3.out.lt
 go_wp2_with fail
 refine (HS2.out X2 HB2.out).mono ?_
 rintro e X3 ⟨rfl,hb3⟩
 have HB3:=Lib.hid (HB2.out.trans (hb3.mono HB2.out.size))
 clear hb3 xP1_0 xP1_1 xP1_2 zP1 xP3_0 xP3_1 xP3_2 zP3
 go_wp2_with fail
 go_ret
 exact ⟨rfl,HB.out.trans (HB3.out.mono HB.out.size)⟩
end Go.Proofs.Ytffemfglngikbaa
