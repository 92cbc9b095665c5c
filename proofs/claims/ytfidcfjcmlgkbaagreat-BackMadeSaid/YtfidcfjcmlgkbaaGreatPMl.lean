/-
  Texts put together: Known7, Known8, BkMadeM.
-/
import Derived.Test.YtfidcfjcmlgkbaaGreatPMk
namespace Go.Proofs.YtfidcfjcmlgkbaaGreat
open Lib (hid)
set_option maxRecDepth 100000
set_option maxHeartbeats 32000000
set_option linter.unusedSimpArgs false
section
open Go.RowKit Go.Shelf
attribute [local go_sem] Oper.semAt_some
theorem Zjk {c:Z0a}{d:Nat}(h:Z0l c d=0):Zbq (d,c)∧c.kind≠0:=by
 unfold Z0l at h;unfold Zbq;dsimp only;by_cases h3:c.kind=3
 · rw [if_pos h3] at h
   by_cases h9:c.goal=true∨c.id.toList≠[]∨0<c.attr.length∨0<c.value.length∨c.acc=true∨c.conds.length=0
   · rw [if_pos h9] at h;omega
   · have ha :¬0<c.attr.length:=fun h=>h9 (.inr (.inr (.inl h)))
     have hb :¬0<c.value.length:=fun h=>h9 (.inr (.inr (.inr (.inl h))));exact ⟨⟨by omega,by omega,fun h=>absurd h3 h⟩,by omega⟩
 · rw [if_neg h3] at h
   by_cases h12:c.kind=1∨c.kind=2
   · rw [if_pos h12] at h
     by_cases ha:0<c.conds.length∨Z17 c.id=false∨c.attr.length=0
     · rw [if_pos ha] at h;omega
     · rw [if_neg ha] at h
       by_cases hb:4<c.attr.length∨4<c.value.length
       · rw [if_pos hb] at h;omega
       · exact ⟨⟨by omega,by omega,fun _=>Zok.1 (by omega)⟩,by omega⟩
   · rw [if_neg h12] at h;omega
theorem Zcw {n:Nat}{p:Z39}(h:(Z1i n p).2=0):1≤(Z0i n 0 p.conds).length∧(Z0i n 0 p.conds).length≤16∧1≤p.acts.length∧p.acts.length≤16∧∀x∈Z0i n 0 p.conds,Z0l x.2 x.1=0:=by
 unfold Z1i at h;by_cases h1:Z17 p.name=false
 · rw [if_pos h1] at h;simp at h
 rw [if_neg h1] at h;by_cases h2:(Z0i n 0 p.conds).length<1∨16<(Z0i n 0 p.conds).length∨p.acts.length<1∨16<p.acts.length
 · rw [if_pos h2] at h;simp at h
 rw [if_neg h2] at h;refine ⟨by omega,by omega,by omega,by omega,?_⟩
 cases hf:(Z0i n 0 p.conds).findIdx? (fun c=>decide (Z0l c.2 c.1≠0)) with
 | none=>
   rw [List.findIdx?_eq_none_iff] at hf;intro x hx;have:=hf x hx;simpa using this
 | some k=>
   rw [hf] at h;obtain ⟨hk,h3,_⟩:=List.findIdx?_eq_some_iff_getElem.1 hf;simp only [Znq hk] at h;simp only [Zp0] at h3;exact absurd h h3
theorem Z7o {n:Nat}{p:Z39}(h:(Z1i n p).2≠0):Z22 n p=((Z1i n p).1,(Z1i n p).2,[]):=by unfold Z22;rw [if_pos h]
theorem Z83 {n:Nat}{p:Z39}{x:Z0a}{l:List Z0a}(h:(Z1i n p).2=0) (hp:p.conds=x :: l) (hx:x.kind≠1):Z22 n p=(0,9,[]):=by
 unfold Z22;rw [if_neg (by rw [h];decide),hp];simp [hx]
theorem Z82 {n:Nat}{p:Z39}{x:Z0a}{l:List Z0a}{a:Int}{k:Kn}(h:(Z1i n p).2=0) (hp:p.conds=x :: l) (hx:x.kind=1) (hc:Z12 n ([],[]) p.conds 0=(false,a,k)):Z22 n p=(a,6,[]):=by
 unfold Z22;rw [if_neg (by rw [h];decide),hc];simp [hp,hx]
theorem Zbw {n:Nat}{p:Z39}{x:Z0a}{l:List Z0a}{a:Int}{k:Kn}(h:(Z1i n p).2=0) (hp:p.conds=x :: l) (hx:x.kind=1) (hc:Z12 n ([],[]) p.conds 0=(true,a,k)):Z22 n p=(match p.acts.findIdx? (actV k) with
 | some i=>(a+i,6,[])
 | none=>(-1,0,k.2)):=by
 (have e:(p.conds.head?.map Z0a.kind).getD 0=1:=by rw [hp];exact hx);unfold Z22;rw [if_neg (by rw [h];decide),hc,if_neg (by rw [e];decide)];rfl
theorem KSt.lacks {D:Nat→Prop}{W W1:World}{S:Nat→Option (List Name)}{kb sb:Nat}{K:Kn}(a:Z2o) (h:KSt D W S kb sb K W1) (hl:(K.1.length:Int)≤1000000) :
 Calls Tryz.prog 139 #[.pointer (some ⟨kb,0,none⟩),.agg #[.string a.var,.int .i64 a.sym.kind,.string a.sym.text,.int .i64 a.sym.n]] W1 fun e W'=>e = .returned (.bool (Z34 K a))∧Below W1.heap.size W1 W':=by
 obtain ⟨σ',A',c',h1,h2,h3,h4⟩:=h;exact Zht a h1 h2 hl
def Z4x (W:World) (r:Int×Int×List ByteArray) (e:Ending) (W':World):Prop:=
 ∃A c,e = .returned (.tuple #[.int .i64 r.1,.int .i64 r.2.1,.slice A r.2.2.length c])∧W'.ownsRow 0 9 1 (.slice A r.2.2.length c) r.2.2.length (r.2.2.map Value.string)∧Below W.heap.size W W'
theorem Z4x.none_ {W W':World}{r:Int×Int×List ByteArray}{a e:Int}(hr:r=(a,e,[])) (hb:Below W.heap.size W W'):Z4x W r (.returned (.tuple #[.int .i64 a,.int .i64 e,.slice none 0 0])) W':=by
 subst hr;exact ⟨none,0,rfl,Z68 _ _ _ _,hb⟩
theorem Zfs {D:Nat→Prop}(p:Z39) (n:Nat) (A1 A2:Option Addr) (c1 c2:Nat) (w:World) (h1:RowR (Z06 n) D w A1 c1 p.conds) (h2:RowR Z11 D w A2 c2 p.acts) (hD :∀k,D k→k<w.heap.size) (hF:(Z0i n 0 p.conds).length≤1000000000) (hn:n≤1000000000) :
 Calls Tryz.prog 92 #[.agg #[.string p.name,.slice A1 p.conds.length c1,.slice A2 p.acts.length c2]] w (Z4x w (Z22 n p)):=by
 have H1:=hid h1;have H2:=hid h2;have HD:=hid hD;have hl1:=h1.cap;have hl2:=h2.cap
 have hsh :∀W,Below w.heap.size w W→Calls Tryz.prog 136 #[.agg #[.string p.name,.slice A1 p.conds.length c1,.slice A2 p.acts.length c2]] W fun e w'=>e = .returned (.tuple #[.int .i64 (Z1i n p).1,.int .i64 (Z1i n p).2])∧Below W.heap.size W w':=fun W hb=>
  Zl2 p n A1 A2 c1 c2 W (h1.new_ hb) (h2.new_ hb) (fun k hk=>Znn (hD k hk) hb.size) hF hn
 obtain ⟨⟨sa,se⟩,hse⟩:∃r,Z1i n p=r:=⟨_,rfl⟩;simp only [hse] at hsh;have HSH:=hid hsh;have HSE:=hid hse;clear hse h1 h2 hD hsh hF;go_enter Tryz.func92,Tryz.ntmps92;(go_upto_region 1 with fail);obtain ⟨W1,hW1⟩:∃W1,W1=w.alloc (.cells #[.string p.name,.slice A1 p.conds.length c1,.slice A2 p.acts.length c2] 25):=⟨_,rfl⟩;rw [←hW1];obtain ⟨px,hpx⟩:∃px,px=w.heap.size:=⟨_,rfl⟩;(have hbW1:Below w.heap.size w W1:=by rw [hW1];exact (Znk _ _).alloc (Znl _) _);(have hkW1:Blk W1 px 25 #[.string p.name,.slice A1 p.conds.length c1,.slice A2 p.acts.length c2]:=by rw [hW1,hpx];exact Blk.new _ _ _);rw [←hpx];have H_px:=hid hpx;clear hW1 hpx;have HB1:=hid hbW1;have HP:=hid hkW1;have p0:W1.cell? ⟨px,0,none⟩=some (.string p.name):=(hkW1.cell 0).trans rfl;have p1:W1.cell? ⟨px,1,none⟩=some (.slice A1 p.conds.length c1):=(hkW1.cell 1).trans rfl;have p2:W1.cell? ⟨px,2,none⟩=some (.slice A2 p.acts.length c2):=(hkW1.cell 2).trans rfl;have hpl:=hkW1.lt;clear hbW1 hkW1;(go_wp2_with fail);refine (HSH.out W1 HB1.out).mono ?_;rintro e w2 ⟨rfl,hb2⟩;have HB2:=hid (HB1.out.trans (hb2.mono HB1.out.size));have hP2:=HP.out.fr (Fr.of_new (M:=fun _=>False) hb2) (fun h=>h);have HP2:=hid hP2;have p1:w2.cell? ⟨px,1,none⟩=some (.slice A1 p.conds.length c1):=(hP2.cell 1).trans rfl;have p2:w2.cell? ⟨px,2,none⟩=some (.slice A2 p.acts.length c2):=(hP2.cell 2).trans rfl;have hpl2:=hP2.lt;clear p0 hb2 hP2;by_cases hs0:se=0
 · have hok:=Zcw (n:=n) (p:=p) (by rw [HSE.out];exact hs0)
   have HOK:=hid hok;(have s1:(se == 0)=true:=by simp [hs0]);(have s2:decide (se=0)=true:=by simp [hs0]);have HS0:=hid (show (Z1i n p).2=0 by rw [HSE.out];exact hs0)
   have hne:p.conds≠[]:=by
    intro h;have:=hok.1;rw [h,Z71] at this;simp at this
   obtain ⟨n,rfl⟩:∃m,n=m+1:=by
    cases n with
    | zero=>have:=hok.1;exact absurd this (by simp [Z0i])
    | succ m=>exact ⟨m,rfl⟩
   obtain ⟨x,l,hxl⟩:=List.exists_cons_of_ne_nil hne;have hlen1:0<p.conds.length:=List.length_pos_iff.2 hne;obtain ⟨g,off,B1,d1,B2,d2,B3,d3,rfl,hgD,hg,q0,-,-,-,-,-,-,-,-,-⟩:=Z1j (H1.out.new_ HB2.out) hlen1;(have hx0:p.conds[0]=x:=by simp [hxl]);rw [hx0] at q0;simp only [Nat.zero_mul,Nat.add_zero] at q0;have HXL:=hid hxl;(have b1:(0:Int)<(p.conds.length:Int):=by omega);clear hs0 hok hne hxl hx0 hlen1;by_cases hx1:x.kind=1
   · have t1:(x.kind == 1)=true:=by simp [hx1]
     (have t1':decide (x.kind=1)=true:=by simp [hx1]);have HX1:=hid hx1;clear hx1;(go_wp2_with fail);refine (Ziy none 0 [] (Sets.start _ _ _ _ _ w2) (Z0z.nil _ _ _) (by simp)).mono ?_;rintro e w3 ⟨⟨sb,rfl,hsb,_,σ3,hN3,hF3⟩,hb3⟩;have hb3sz:=hb3.size;have HN3:=hid hN3;have HB3:=hid hb3;clear hN3 hF3 hb3 q0;(go_upto_region 7 with fail);obtain ⟨W4,hW4⟩:∃W4,W4=w3.alloc (.cells #[.pointer (some ⟨sb,0,none⟩),.slice none 0 0] 218):=⟨_,rfl⟩;rw [←hW4];obtain ⟨kb,hkb⟩:∃kb,kb=w3.heap.size:=⟨_,rfl⟩;(have hbW4:Below w3.heap.size w3 W4:=by rw [hW4];exact (Znk _ _).alloc (Znl _) _);(have hkW4:Blk W4 kb 218 #[.pointer (some ⟨sb,0,none⟩),.slice none 0 0]:=by rw [hW4,hkb];exact Blk.new _ _ _);rw [←hkb];have H_kb:=hid hkb;clear hW4 hkb;have hst4:KSt (· < w2.heap.size) W4 (upd (fun _=>none) sb (some [])) kb sb ([],[]) W4:=KSt.start (HN3.out.below hbW4) ⟨hkW4,Z68 _ _ _ _,Z0r _ _ _⟩ (AIn.none_ _);have HB4:=hid (HB2.out.trans ((HB3.out.trans (hbW4.mono HB3.out.size)).mono HB2.out.size));have hB24:Below w2.heap.size w2 W4:=HB3.out.trans (hbW4.mono HB3.out.size);have HP4:=hid (HP2.out.new_ hB24);have p1:W4.cell? ⟨px,1,none⟩=some (.slice (some ⟨g,off,none⟩) p.conds.length c1):=(HP4.out.cell 1).trans rfl;have hpl4:=HP4.out.lt;have hkD :¬(kb<w2.heap.size):=by have:=hb3sz;rw [H_kb.out];omega
     have hcd:Calls Tryz.prog 138 #[.pointer (some ⟨kb,0,none⟩),.slice (some ⟨g,off,none⟩) p.conds.length c1,.int .i64 0] W4 (Z6h (· < w2.heap.size) W4 (upd (fun _=>none) sb (some [])) kb sb ([],[]) 0 (Z0i (n+1) 0 p.conds).length (Z12 (n+1) ([],[]) p.conds 0)):=
      Zhq (n+1) 0 0 _ W4 _ kb sb ([],[]) _ _ p.conds hst4 hkD (((H1.out.new_ (HB2.out.trans (hB24.mono HB2.out.size))).weaken (fun k hk=>Znn (HD.out k hk) HB2.out.size))) (fun y hy=>(Zjk (HOK.out.2.2.2.2 y hy)).1) (by have:=HOK.out.2.1;simp;omega) (by have:=HOK.out.2.1;simp;omega) (by have:=HOK.out.2.1;omega)
     obtain ⟨bo,ka,K3,hcr⟩:∃b a k,Z12 (n+1) ([],[]) p.conds 0=(b,a,k):=⟨_,_,_,rfl⟩;rw [hcr] at hcd;have HCD:=hid hcd;have HCR:=hid hcr;clear hst4 hB24 hcd hcr hbW4 hkW4 hb3sz hkD;(go_wp2_with fail);refine HCD.out.mono ?_;rintro e w5 ⟨rfl,hF5,hgo⟩;have hB5:Below w.heap.size w w5:=HB4.out.trans (hF5.below HB4.out.size (fun k hk hn=>hn (Znn hk HB2.out.size)));have HB5:=hid hB5;have HF5:=hid hF5;have HGO:=hid hgo;have hP5:=HP4.out.fr hF5 (fun h=>h hpl2);have p2:w5.cell? ⟨px,2,none⟩=some (.slice A2 p.acts.length c2):=(hP5.cell 2).trans rfl;have hpl5:=hP5.lt;clear hB5 hF5 hgo hP5 p1
     cases bo with
     | false=>
       have HR:=hid (Z82 HS0.out HXL.out HX1.out HCR.out);go_wp2_with fail
       go_ret3
       exact Z4x.none_ HR.out HB5.out
     | true=>
       obtain ⟨hst5,hka,hk1,hk2⟩:=HGO.out rfl;dsimp only at hst5 hka hk1 hk2;(have hka2:ka=(((Z0i (n+1) 0 p.conds).length:Nat):Int):=by rw [hka];omega);have HKA:=hid hka2;(have hka0:(0:Int)≤ka:=by rw [hka2];omega);(have hka1:ka≤16:=by have:=HOK.out.2.1;rw [hka2];omega);have hal:=HOK.out.2.2.2.1;(have hK3:(K3.1.length:Int)≤1000000:=by have:=HOK.out.2.1;simp at hk1;omega);have HST5:=hid hst5;have HR:=hid (Zbw HS0.out HXL.out HX1.out HCR.out);clear hst5 hka hk1 hk2 hka2;go_wp2_with fail
       go_loopw [42] (fun s wr=>∃i:Nat,s = .int .i64 i∧i≤p.acts.length∧(∀k,(h:k<p.acts.length)→k<i→actV K3 p.acts[k]=false)∧Below w5.heap.size w5 wr) (fun s wr=>p.acts.length - (intOf s).toNat)
       case atStart=>exact ⟨0,rfl,Nat.zero_le _,fun k _ h=>absurd h (by omega),Znk _ _⟩
       case round=>
        obtain ⟨i,rfl,hi,hall,hBr⟩:=hrel;have HALL:=hid hall;have HBr:=hid hBr;have hz5:=HB5.out.size;have hzr:=hBr.size;clear hall hBr p2;by_cases hlt:i<p.acts.length
        · obtain ⟨y,hy⟩:∃y,y=p.acts[i]:=⟨_,rfl⟩
          obtain ⟨gg,oo,hAA,_,hgg,_⟩:=Zaq (H2.out.new_ (HB5.out.trans (HBr.out.mono hz5))) hlt;have HY:=hid hy;(have b1:(0:Int)≤(i:Int):=by omega);have b2:(i:Int)<(p.acts.length:Int):=by omega
          have HRG:=hid (show wr.rangeAt gg (oo+i*19) [.string y.id,.string y.attr.var,.int .i64 y.attr.sym.kind,.string y.attr.sym.text,.int .i64 y.attr.sym.n,.int .i64 y.value.op,.string y.value.a.var,.int .i64 y.value.a.sym.kind,.string y.value.a.sym.text,.int .i64 y.value.a.sym.n,.string y.value.b.var,.int .i64 y.value.b.sym.kind,.string y.value.b.sym.text,.int .i64 y.value.b.sym.n,.int .i64 y.pref,.string y.other.var,.int .i64 y.other.sym.kind,.string y.other.sym.text,.int .i64 y.other.sym.n] from fun j v hv=>by
           obtain ⟨g',off',cs,e1,_,_,hr,hc⟩:=(H2.out.new_ (HB5.out.trans (HBr.out.mono hz5))).at_ hlt;rw [hAA] at e1;cases e1;have hr2:cs=ActT.cells p.acts[i]:=hr;subst hr2;rw [←HY.out] at hc
           exact hc j v hv)
          subst hAA;have HTH:=hid (show (wr.alloc (.cells #[.string ⟨#[]⟩,.string ⟨#[]⟩,.int .i64 0,.string ⟨#[]⟩,.int .i64 0,.int .i64 0,.string ⟨#[]⟩,.int .i64 0,.string ⟨#[]⟩,.int .i64 0,.string ⟨#[]⟩,.int .i64 0,.string ⟨#[]⟩,.int .i64 0,.int .i64 0,.string ⟨#[]⟩,.int .i64 0,.string ⟨#[]⟩,.int .i64 0] 96)).there wr.heap.size 0 (#[.string y.id,.string y.attr.var,.int .i64 y.attr.sym.kind,.string y.attr.sym.text,.int .i64 y.attr.sym.n,.int .i64 y.value.op,.string y.value.a.var,.int .i64 y.value.a.sym.kind,.string y.value.a.sym.text,.int .i64 y.value.a.sym.n,.string y.value.b.var,.int .i64 y.value.b.sym.kind,.string y.value.b.sym.text,.int .i64 y.value.b.sym.n,.int .i64 y.pref,.string y.other.var,.int .i64 y.other.sym.kind,.string y.other.sym.text,.int .i64 y.other.sym.n]:Array Value).size from (Blk.new wr 96 #[.string ⟨#[]⟩,.string ⟨#[]⟩,.int .i64 0,.string ⟨#[]⟩,.int .i64 0,.int .i64 0,.string ⟨#[]⟩,.int .i64 0,.string ⟨#[]⟩,.int .i64 0,.string ⟨#[]⟩,.int .i64 0,.string ⟨#[]⟩,.int .i64 0,.int .i64 0,.string ⟨#[]⟩,.int .i64 0,.string ⟨#[]⟩,.int .i64 0]).there);obtain ⟨W6,hW6⟩:∃W6,W6=(wr.alloc (.cells #[.string ⟨#[]⟩,.string ⟨#[]⟩,.int .i64 0,.string ⟨#[]⟩,.int .i64 0,.int .i64 0,.string ⟨#[]⟩,.int .i64 0,.string ⟨#[]⟩,.int .i64 0,.string ⟨#[]⟩,.int .i64 0,.string ⟨#[]⟩,.int .i64 0,.int .i64 0,.string ⟨#[]⟩,.int .i64 0,.string ⟨#[]⟩,.int .i64 0] 96)).setCells wr.heap.size 0 [.string y.id,.string y.attr.var,.int .i64 y.attr.sym.kind,.string y.attr.sym.text,.int .i64 y.attr.sym.n,.int .i64 y.value.op,.string y.value.a.var,.int .i64 y.value.a.sym.kind,.string y.value.a.sym.text,.int .i64 y.value.a.sym.n,.string y.value.b.var,.int .i64 y.value.b.sym.kind,.string y.value.b.sym.text,.int .i64 y.value.b.sym.n,.int .i64 y.pref,.string y.other.var,.int .i64 y.other.sym.kind,.string y.other.sym.text,.int .i64 y.other.sym.n]:=⟨_,rfl⟩;have HW6:=hid hW6;(have hRG6:W6.rangeAt wr.heap.size 0 [.string y.id,.string y.attr.var,.int .i64 y.attr.sym.kind,.string y.attr.sym.text,.int .i64 y.attr.sym.n,.int .i64 y.value.op,.string y.value.a.var,.int .i64 y.value.a.sym.kind,.string y.value.a.sym.text,.int .i64 y.value.a.sym.n,.string y.value.b.var,.int .i64 y.value.b.sym.kind,.string y.value.b.sym.text,.int .i64 y.value.b.sym.n,.int .i64 y.pref,.string y.other.var,.int .i64 y.other.sym.kind,.string y.other.sym.text,.int .i64 y.other.sym.n]:=by rw [hW6];exact Znw _ _ _ _ HTH.out);(have hB6:Below wr.heap.size wr W6:=by rw [hW6];exact Below.setCells' _ _ ((Znk _ _).alloc (Znl _) _) (Znl _));have HB6:=hid hB6;have e1:W6.cell? ⟨wr.heap.size,1,none⟩=some (.string y.attr.var):=(hRG6 1 _ rfl);have e2:W6.cell? ⟨wr.heap.size,2,none⟩=some (.int .i64 y.attr.sym.kind):=(hRG6 2 _ rfl);have e3:W6.cell? ⟨wr.heap.size,3,none⟩=some (.string y.attr.sym.text):=(hRG6 3 _ rfl);have e4:W6.cell? ⟨wr.heap.size,4,none⟩=some (.int .i64 y.attr.sym.n):=(hRG6 4 _ rfl);have e5:W6.cell? ⟨wr.heap.size,5,none⟩=some (.int .i64 y.value.op):=(hRG6 5 _ rfl);have e6:W6.cell? ⟨wr.heap.size,6,none⟩=some (.string y.value.a.var):=(hRG6 6 _ rfl);have e7:W6.cell? ⟨wr.heap.size,7,none⟩=some (.int .i64 y.value.a.sym.kind):=(hRG6 7 _ rfl);have e8:W6.cell? ⟨wr.heap.size,8,none⟩=some (.string y.value.a.sym.text):=(hRG6 8 _ rfl);have e9:W6.cell? ⟨wr.heap.size,9,none⟩=some (.int .i64 y.value.a.sym.n):=(hRG6 9 _ rfl);have e10:W6.cell? ⟨wr.heap.size,10,none⟩=some (.string y.value.b.var):=(hRG6 10 _ rfl);have e11:W6.cell? ⟨wr.heap.size,11,none⟩=some (.int .i64 y.value.b.sym.kind):=(hRG6 11 _ rfl);have e12:W6.cell? ⟨wr.heap.size,12,none⟩=some (.string y.value.b.sym.text):=(hRG6 12 _ rfl);have e13:W6.cell? ⟨wr.heap.size,13,none⟩=some (.int .i64 y.value.b.sym.n):=(hRG6 13 _ rfl);have hlo6:wr.heap.size<W6.heap.size:=Znx _ _ e1;have HS6:=hid (HST5.out.below (HBr.out.trans (hB6.mono HBr.out.size)));clear hy hW6 hRG6 hB6;cases hla:Z34 K3 y.attr
          · skip
            have hA:=HS6.out.lacks y.attr hK3;rw [hla] at hA;have HA:=hid hA;clear hA;by_cases h0:y.value.op=0
            · have o1:(y.value.op == 0)=true:=by simp [h0]
              (have o2:decide (y.value.op=0)=true:=by simp [h0]);have o3 :¬¬y.value.op=0:=fun h=>h h0;have HV:=hid (show actV K3 y=false by simp [actV,hla,h0]);clear hla h0
              go_wp2_with (first
               | (with_reducible refine wpList_load_mid rfl 96 _ rfl gg (oo+i*19) rfl _ _ HRG.out Tryz.underlying96 rfl (by kernel_rfl) ?_)
               | ((with_reducible refine wpList_store_mid rfl 96 _ _ rfl wr.heap.size 0 #[.string y.id,.string y.attr.var,.int .i64 y.attr.sym.kind,.string y.attr.sym.text,.int .i64 y.attr.sym.n,.int .i64 y.value.op,.string y.value.a.var,.int .i64 y.value.a.sym.kind,.string y.value.a.sym.text,.int .i64 y.value.a.sym.n,.string y.value.b.var,.int .i64 y.value.b.sym.kind,.string y.value.b.sym.text,.int .i64 y.value.b.sym.n,.int .i64 y.pref,.string y.other.var,.int .i64 y.other.sym.kind,.string y.other.sym.text,.int .i64 y.other.sym.n] rfl rfl HTH.out (by kernel_rfl) (by kernel_rfl) ?_);rw [←HW6.out])
               | ((with_reducible refine HA.out.mono ?_);rintro e w7 ⟨rfl,hb7⟩;obtain ⟨hc7,-⟩:=Z1e hb7;have hz7:=hb7.size;have hlo7:=Znn hlo6 hz7;have HB7:=hid hb7;clear hb7))
              have HBZ:=hid (HBr.out.trans ((HB6.out.trans (HB7.out.mono HB6.out.size)).mono hzr));go_roundw
              case rel=>exact ⟨i+1,by go_num,by omega,fun k hk hki=>by
               by_cases e:k=i
               · subst e;rw [←HY.out];exact HV.out
               · exact HALL.out k hk (by omega),HBZ.out⟩
              case measure=>simp [intOf]<;>omega
            · have o1:(y.value.op == 0)=false:=by simp [h0]
              (have o2:decide (y.value.op=0)=false:=by simp [h0]);cases hlb:Z34 K3 y.value.a
              · skip
                cases hlc:Z34 K3 y.value.b
                · skip
                  have HV:=hid (show actV K3 y=false by simp [actV,hla,h0,hlb,hlc]);clear hla
                  go_wp2_with (first
                   | (with_reducible refine wpList_load_mid rfl 96 _ rfl gg (oo+i*19) rfl _ _ HRG.out Tryz.underlying96 rfl (by kernel_rfl) ?_)
                   | ((with_reducible refine wpList_store_mid rfl 96 _ _ rfl wr.heap.size 0 #[.string y.id,.string y.attr.var,.int .i64 y.attr.sym.kind,.string y.attr.sym.text,.int .i64 y.attr.sym.n,.int .i64 y.value.op,.string y.value.a.var,.int .i64 y.value.a.sym.kind,.string y.value.a.sym.text,.int .i64 y.value.a.sym.n,.string y.value.b.var,.int .i64 y.value.b.sym.kind,.string y.value.b.sym.text,.int .i64 y.value.b.sym.n,.int .i64 y.pref,.string y.other.var,.int .i64 y.other.sym.kind,.string y.other.sym.text,.int .i64 y.other.sym.n] rfl rfl HTH.out (by kernel_rfl) (by kernel_rfl) ?_);rw [←HW6.out])
                   | ((with_reducible refine HA.out.mono ?_);rintro e w7 ⟨rfl,hb7⟩;obtain ⟨hc7,-⟩:=Z1e hb7;have hz7:=hb7.size;have hlo7:=Znn hlo6 hz7;have HB7:=hid hb7;clear hb7))
                  have HS7:=hid (HS6.out.below HB7.out);have hA2:=HS7.out.lacks y.value.a hK3;rw [hlb] at hA2;clear hlb;refine hA2.mono ?_;rintro e w8 ⟨rfl,hb8⟩;obtain ⟨hc8,-⟩:=Z1e hb8;have hz8:=hb8.size;have HB8:=hid hb8;clear hb8 hA2;(go_wp2_with fail);have HS8:=hid (HS7.out.below HB8.out);have hA3:=HS8.out.lacks y.value.b hK3;rw [hlc] at hA3;clear hlc;refine hA3.mono ?_;rintro e w9 ⟨rfl,hb9⟩;have HBZ:=hid (HBr.out.trans ((HB6.out.trans ((HB7.out.trans ((HB8.out.trans (hb9.mono HB8.out.size)).mono HB7.out.size)).mono HB6.out.size)).mono hzr));clear hb9 hA3;(go_wp2_with fail);go_roundw
                  case rel=>exact ⟨i+1,by go_num,by omega,fun k hk hki=>by
                   by_cases e:k=i
                   · subst e;rw [←HY.out];exact HV.out
                   · exact HALL.out k hk (by omega),HBZ.out⟩
                  case measure=>simp [intOf]<;>omega
                · skip
                  have HV:=hid (show actV K3 y=true by simp [actV,hla,h0,hlb,hlc]);clear hla
                  go_wp2_with (first
                   | (with_reducible refine wpList_load_mid rfl 96 _ rfl gg (oo+i*19) rfl _ _ HRG.out Tryz.underlying96 rfl (by kernel_rfl) ?_)
                   | ((with_reducible refine wpList_store_mid rfl 96 _ _ rfl wr.heap.size 0 #[.string y.id,.string y.attr.var,.int .i64 y.attr.sym.kind,.string y.attr.sym.text,.int .i64 y.attr.sym.n,.int .i64 y.value.op,.string y.value.a.var,.int .i64 y.value.a.sym.kind,.string y.value.a.sym.text,.int .i64 y.value.a.sym.n,.string y.value.b.var,.int .i64 y.value.b.sym.kind,.string y.value.b.sym.text,.int .i64 y.value.b.sym.n,.int .i64 y.pref,.string y.other.var,.int .i64 y.other.sym.kind,.string y.other.sym.text,.int .i64 y.other.sym.n] rfl rfl HTH.out (by kernel_rfl) (by kernel_rfl) ?_);rw [←HW6.out])
                   | ((with_reducible refine HA.out.mono ?_);rintro e w7 ⟨rfl,hb7⟩;obtain ⟨hc7,-⟩:=Z1e hb7;have hz7:=hb7.size;have hlo7:=Znn hlo6 hz7;have HB7:=hid hb7;clear hb7))
                  have HS7:=hid (HS6.out.below HB7.out);have hA2:=HS7.out.lacks y.value.a hK3;rw [hlb] at hA2;clear hlb;refine hA2.mono ?_;rintro e w8 ⟨rfl,hb8⟩;obtain ⟨hc8,-⟩:=Z1e hb8;have hz8:=hb8.size;have HB8:=hid hb8;clear hb8 hA2;(go_wp2_with fail);have HS8:=hid (HS7.out.below HB8.out);have hA3:=HS8.out.lacks y.value.b hK3;rw [hlc] at hA3;clear hlc;refine hA3.mono ?_;rintro e w9 ⟨rfl,hb9⟩;have HBZ:=hid (HBr.out.trans ((HB6.out.trans ((HB7.out.trans ((HB8.out.trans (hb9.mono HB8.out.size)).mono HB7.out.size)).mono HB6.out.size)).mono hzr));clear hb9 hA3
                  have hfi:p.acts.findIdx? (actV K3)=some i:=by
                   rw [List.findIdx?_eq_some_iff_getElem];exact ⟨hlt,by rw [←HY.out];exact HV.out,fun j hj=>by rw [HALL.out j (by omega) hj];decide⟩
                  have hR:=HR.out;rw [hfi] at hR;have HR2:=hid hR;have v1:IntKind.i64.wrap (ka+(i:Int))=ka+(i:Int):=Znu _ (by omega);clear hfi hR;go_wp2_with fail
                  go_ret3
                  exact Z4x.none_ HR2.out (HB5.out.trans (HBZ.out.mono hz5))
              · skip
                have HV:=hid (show actV K3 y=true by simp [actV,hla,h0,hlb]);clear hla
                go_wp2_with (first
                 | (with_reducible refine wpList_load_mid rfl 96 _ rfl gg (oo+i*19) rfl _ _ HRG.out Tryz.underlying96 rfl (by kernel_rfl) ?_)
                 | ((with_reducible refine wpList_store_mid rfl 96 _ _ rfl wr.heap.size 0 #[.string y.id,.string y.attr.var,.int .i64 y.attr.sym.kind,.string y.attr.sym.text,.int .i64 y.attr.sym.n,.int .i64 y.value.op,.string y.value.a.var,.int .i64 y.value.a.sym.kind,.string y.value.a.sym.text,.int .i64 y.value.a.sym.n,.string y.value.b.var,.int .i64 y.value.b.sym.kind,.string y.value.b.sym.text,.int .i64 y.value.b.sym.n,.int .i64 y.pref,.string y.other.var,.int .i64 y.other.sym.kind,.string y.other.sym.text,.int .i64 y.other.sym.n] rfl rfl HTH.out (by kernel_rfl) (by kernel_rfl) ?_);rw [←HW6.out])
                 | ((with_reducible refine HA.out.mono ?_);rintro e w7 ⟨rfl,hb7⟩;obtain ⟨hc7,-⟩:=Z1e hb7;have hz7:=hb7.size;have hlo7:=Znn hlo6 hz7;have HB7:=hid hb7;clear hb7))
                have HS7:=hid (HS6.out.below HB7.out);have hA2:=HS7.out.lacks y.value.a hK3;rw [hlb] at hA2;clear hlb;refine hA2.mono ?_;rintro e w8 ⟨rfl,hb8⟩;have HBZ:=hid (HBr.out.trans ((HB6.out.trans ((HB7.out.trans (hb8.mono HB7.out.size)).mono HB6.out.size)).mono hzr));clear hb8 hA2
                have hfi:p.acts.findIdx? (actV K3)=some i:=by
                 rw [List.findIdx?_eq_some_iff_getElem];exact ⟨hlt,by rw [←HY.out];exact HV.out,fun j hj=>by rw [HALL.out j (by omega) hj];decide⟩
                have hR:=HR.out;rw [hfi] at hR;have HR2:=hid hR;have v1:IntKind.i64.wrap (ka+(i:Int))=ka+(i:Int):=Znu _ (by omega);clear hfi hR;go_wp2_with fail
                go_ret3
                exact Z4x.none_ HR2.out (HB5.out.trans (HBZ.out.mono hz5))
          · skip
            have hA:=HS6.out.lacks y.attr hK3;rw [hla] at hA;have HA:=hid hA;clear hA;have HV:=hid (show actV K3 y=true by simp [actV,hla]);clear hla
            go_wp2_with (first
             | (with_reducible refine wpList_load_mid rfl 96 _ rfl gg (oo+i*19) rfl _ _ HRG.out Tryz.underlying96 rfl (by kernel_rfl) ?_)
             | ((with_reducible refine wpList_store_mid rfl 96 _ _ rfl wr.heap.size 0 #[.string y.id,.string y.attr.var,.int .i64 y.attr.sym.kind,.string y.attr.sym.text,.int .i64 y.attr.sym.n,.int .i64 y.value.op,.string y.value.a.var,.int .i64 y.value.a.sym.kind,.string y.value.a.sym.text,.int .i64 y.value.a.sym.n,.string y.value.b.var,.int .i64 y.value.b.sym.kind,.string y.value.b.sym.text,.int .i64 y.value.b.sym.n,.int .i64 y.pref,.string y.other.var,.int .i64 y.other.sym.kind,.string y.other.sym.text,.int .i64 y.other.sym.n] rfl rfl HTH.out (by kernel_rfl) (by kernel_rfl) ?_);rw [←HW6.out])
             | ((with_reducible refine HA.out.mono ?_);rintro e w7 ⟨rfl,hb7⟩;have HB7:=hid hb7;clear hb7))
            have HBZ:=hid (HBr.out.trans ((HB6.out.trans (HB7.out.mono HB6.out.size)).mono hzr))
            have hfi:p.acts.findIdx? (actV K3)=some i:=by
             rw [List.findIdx?_eq_some_iff_getElem];exact ⟨hlt,by rw [←HY.out];exact HV.out,fun j hj=>by rw [HALL.out j (by omega) hj];decide⟩
            have hR:=HR.out;rw [hfi] at hR;have HR2:=hid hR;have v1:IntKind.i64.wrap (ka+(i:Int))=ka+(i:Int):=Znu _ (by omega);clear hfi hR;go_wp2_with fail
            go_ret3
            exact Z4x.none_ HR2.out (HB5.out.trans (HBZ.out.mono hz5))
        · have hie:i=p.acts.length:=by omega
          have hfi:p.acts.findIdx? (actV K3)=none:=by
           rw [List.findIdx?_eq_none_iff];intro x hx;obtain ⟨j,hj,rfl⟩:=List.getElem_of_mem hx;exact HALL.out j hj (by omega)
          have hR:=HR.out;rw [hfi] at hR;have HR2:=hid hR;obtain ⟨σr,Ar,cr,g1,g2,g3,g4⟩:=HST5.out.below HBr.out;have k1:wr.cell? ⟨kb,1,none⟩=some (.slice Ar K3.2.length cr):=(g2.blk.cell 1).trans rfl;have hkr:=g2.blk.lt;have HROW:=hid g2.row;subst hie;clear hfi hR g1 g2 g3 g4;(go_wp2_with fail);go_quiet (fail);go_wp2_with fail
          go_ret3
          unfold Z4x;rw [HR2.out];exact ⟨Ar,cr,rfl,Z05 HROW.out (Below.drewN' (Znk _ _) _),HB5.out.trans ((HBr.out.trans (Below.mono (Below.drewN' (Znk _ _) _) hzr)).mono hz5)⟩
   · have t1:(x.kind == 1)=false:=by simp [hx1]
     (have t1':decide (x.kind=1)=false:=by simp [hx1]);have HR:=hid (Z83 HS0.out HXL.out hx1);clear hx1;go_wp2_with fail
     go_ret3
     exact Z4x.none_ HR.out HB2.out
 · have s1:(se == 0)=false:=by simp [hs0]
   (have s2:decide (se=0)=false:=by simp [hs0]);have HR:=hid (show Z22 n p=(sa,se,[]) by rw [Z7o (by rw [HSE.out];exact hs0),HSE.out]);clear hs0;go_wp2_with fail
   go_ret3
   exact Z4x.none_ HR.out HB2.out
end
section
open Go.RowKit Go.Shelf
theorem Zji {D:Nat→Prop}(p:Z39) (n:Nat) (A1 A2:Option Addr) (c1 c2:Nat) (w:World) (h1:RowR (Z06 n) D w A1 c1 p.conds) (h2:RowR Z11 D w A2 c2 p.acts) (hD :∀k,D k→k<w.heap.size) (hF:(Z0i n 0 p.conds).length≤1000000000) (hn:n≤1000000000) :
 Calls Tryz.prog 41 #[.agg #[.string p.name,.slice A1 p.conds.length c1,.slice A2 p.acts.length c2]] w fun e W'=>e = .returned (.tuple #[.int .i64 (Z22 n p).1,.int .i64 (Z22 n p).2.1])∧Below w.heap.size w W':=by
 have hb:Below w.heap.size w (w.alloc (.cells #[.string p.name,.slice A1 p.conds.length c1,.slice A2 p.acts.length c2] 25)):=(Znk _ _).alloc (Znl _) _;have HC:=hid (Zfs p n A1 A2 c1 c2 _ (h1.new_ hb) (h2.new_ hb) (fun k hk=>Znn (hD k hk) hb.size) hF hn);have HB:=hid hb;clear h1 h2 hD hF hn hb;go_enter Tryz.func41,Tryz.ntmps41;(go_wp2_with fail);refine HC.out.mono ?_;rintro e w2 ⟨A,c,rfl,-,hb2⟩;have HB2:=hid (HB.out.trans (hb2.mono HB.out.size));clear hb2;(go_wp2_with fail);go_ret2;exact ⟨rfl,HB2.out⟩
end
section
open Go.RowKit Go.Shelf
attribute [local go_sem] Oper.semAt_some
def Zhy (n:Nat) (num level:Int) (p:Z39) (es more:List Z07) (l:List Z13) (news:List Sym):Z0e:=
 if (Z22 (n+1) p).2.1≠0∨posN p.conds≠es.length then ⟨0,0,[],[],[],[]⟩ else Zb5 (Z0b (n+1)) num level p.conds es more l news
theorem Zf8 (l:List Z0p) (hs:Srt Z01 l) (x:ByteArray):(put Z01 l x).length≤l.length+1:=by
 have:=Z1d Z2g [x] hs;simpa [puts] using this
theorem Zdf {ts:List Z1r}{m:Nat}(h:m<ts.length):Z1l (ts.take (m+1))=Z1l (ts.take m)++if ts[m].rel=1∧¬ts[m].var.toList = [] then [ts[m].var] else []:=by
 unfold Z1l;rw [Zor,Znq h,List.filter_append,Zop];by_cases hc:ts[m].rel=1∧¬ts[m].var.toList = []<;>simp [hc]
structure Tri (A B C:Prop):Prop where
 a:A
 b:B
 c:C
def Zbz (y:Z0a) (j:Nat):List ByteArray:=if j=0 then [] else if j=1 then Z1l y.attr else Z1l y.attr++Z1l y.value
theorem Z58 (l:List Z07):∀u∈l.flatMap Z07.cells,u.oneCell'=true:=by
 intro u hu;obtain ⟨b,_,hb⟩:=List.mem_flatMap.1 hu;simp only [Z07.cells,Zo5,Zo9,or_false] at hb;rcases hb with rfl|rfl|rfl|rfl|rfl|rfl|rfl|rfl|rfl|rfl|rfl|rfl|rfl|rfl<;>rfl
theorem Zf5 (l:List Sym):∀u∈l.flatMap Sym.cells,u.oneCell'=true:=by
 intro u hu;obtain ⟨b,_,hb⟩:=List.mem_flatMap.1 hu;simp only [Sym.cells,Zo5,Zo9,or_false] at hb;rcases hb with rfl|rfl|rfl<;>rfl
theorem Zih (cs:List Z0a) (k:Nat):posN (cs.take k)≤posN cs:=by
 unfold posN;exact (List.Sublist.filter _ (List.take_sublist k cs)).length_le
end
end Go.Proofs.YtfidcfjcmlgkbaaGreat
