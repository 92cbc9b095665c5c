/-
  Texts put together: BkKnP, BkApt2, RefNm, BkMZ.
-/
import Derived.Test.YtfidcfjcmlgkbaaGreatPMp
namespace Go.Proofs.YtfidcfjcmlgkbaaGreat
open Lib (hid)
set_option maxRecDepth 100000
set_option maxHeartbeats 32000000
set_option linter.unusedSimpArgs false
section
open Go.RowKit Go.Shelf
attribute [local go_sem] Oper.semAt_some
def Z56 (K:List ByteArray) (cs:List Z0a):List ByteArray:=cs.foldl (fun K c=>if c.kind=1 then K++c.id :: (Z1l c.attr++Z1l c.value) else K) K
theorem Z87 (names:Z0a→List ByteArray) (es:List Z07) (l:List Z13):∀(cs:List Z0a) (s:Zfj),(cs.foldl (Z38 names es l) s).known=Z56 s.known cs
 | [],_=>rfl
 | c :: cs,s=>by
   rw [List.foldl_cons,Z87 names es l cs];show Z56 (Z38 names es l s c).known cs=Z56 (if c.kind=1 then _ else _) cs;unfold Z38
   split<;>rfl
theorem Zes (k:Kn) (x v:ByteArray):hasK (metK k x) v=(hasK k v ||decide (x=v)):=by
 unfold hasK metK;rw [Zet];congr 1;by_cases h:x=v
 · rw [Zno h,h];simp [Z3q.2 rfl]
 · rw [Znm h]
   simp only [beq_eq_false_iff_ne,ne_eq];exact fun e=>h (Z3q.1 e)
theorem Z65 :∀(l:List Z1r) (k:Kn),(Z0u k l).1=true→∀v,hasK (Z0u k l).2 v=(hasK k v ||decide (v∈Z1l l))
 | [],k,_,v=>by simp [Z0u,Z1l]
 | t :: l,k,h,v=>by
   have ev:Z1l (t :: l)=(if t.rel=1∧¬t.var.toList = [] then [t.var] else [])++Z1l l:=by
    unfold Z1l;rw [List.filter_cons];by_cases hc:t.rel=1∧¬t.var.toList = []
    · rw [if_pos hc,if_pos (by simpa using hc)];rfl
    · rw [if_neg hc,if_neg (by simpa using hc)];rfl
   unfold Z0u at h ⊢;by_cases h8:t.rel=8∨t.var.toList = []
   · rw [if_pos h8] at h ⊢
     rw [Z65 l k h v,ev,if_neg (fun ⟨h1,h2⟩=>(h8.elim (fun h8=>by omega) h2:False)),Zo3]
   · rw [if_neg h8] at h ⊢
     by_cases h1:t.rel=1
     · rw [if_pos h1] at h ⊢
       rw [Z65 l _ h v,ev,if_pos ⟨h1,fun e=>h8 (.inr e)⟩,Zes,Bool.or_assoc];congr 1;by_cases e:t.var=v
       · simp [e]
       · have e2 :¬v=t.var:=fun h=>e h.symm
         simp [e,e2]
     · rw [if_neg h1] at h ⊢
       by_cases hk:hasK k t.var=true
       · rw [if_pos hk] at h ⊢
         rw [Z65 l k h v,ev,if_neg (fun h=>h1 h.1),Zo3]
       · rw [if_neg hk] at h
         cases h
theorem Zkn (k:Kn) (c:Z0a) (h:(oneK k c).1=true) (v:ByteArray):hasK (oneK k c).2 v=(hasK k v ||decide (v∈c.id :: (Z1l c.attr++Z1l c.value))):=by
 rw [Z8u] at h ⊢;by_cases hi:hasK (if c.goal=true then metK k c.id else k) c.id=true
 · rw [if_pos hi] at h ⊢
   dsimp only at h ⊢;rw [Z65 _ _ h v];(have ev:Z1l (c.attr++c.value)=Z1l c.attr++Z1l c.value:=by unfold Z1l;rw [List.filter_append,Zop]);rw [ev];by_cases hg:c.goal=true
   · rw [if_pos hg,Zes,Bool.or_assoc]
     congr 1;by_cases e:c.id=v
     · simp [e]
     · have e2 :¬v=c.id:=fun h=>e h.symm
       simp [e,e2]
   · rw [if_neg hg] at hi ⊢
     by_cases e:v=c.id
     · rw [e,hi];simp
     · simp [e]
 · rw [if_neg hi] at h
   cases h
theorem Z5f (n:Nat):∀(l:List Z0a) (k:Kn) (a:Int) (K:List ByteArray),(∀v,hasK k v=decide (v∈K))→(Z12 (n+1) k l a).1=true→∀v,hasK (Z12 (n+1) k l a).2.2 v=decide (v∈Z56 K l)
 | [],k,a,K,hK,_,v=>by rw [Z4b];exact hK v
 | c :: l,k,a,K,hK,h,v=>by
   rw [Z2s] at h ⊢;by_cases h3:c.kind=3
   · rw [if_pos h3] at h ⊢
     (have e:Z56 K (c :: l)=Z56 K l:=by show Z56 (if c.kind=1 then _ else K) l=_;rw [if_neg (by omega)]);rw [e];rcases hc:Z12 n (k.1,[]) c.conds (a+1) with ⟨b,a2,k2⟩;rw [hc] at h;cases b
     · cases h
     · exact Z5f n l k a2 K hK h v
   · rw [if_neg h3] at h ⊢
     rcases hc:oneK (if c.kind=1 then k else (k.1,[])) c with ⟨b,k2⟩;rw [hc] at h;cases b
     · cases h
     · dsimp only at h ⊢
       by_cases h1:c.kind=1
       · rw [if_pos h1] at hc
         (have e:Z56 K (c :: l)=Z56 (K++c.id :: (Z1l c.attr++Z1l c.value)) l:=by show Z56 (if c.kind=1 then _ else K) l=_;rw [if_pos h1]);rw [e];simp only [h1,if_true] at h ⊢;refine Z5f n l k2 _ _ (fun u=>?_) h v;have:=Zkn k c (by rw [hc]) u;rw [hc] at this;rw [this,hK u,←Bool.decide_or];exact decide_eq_decide.2 List.mem_append.symm
       · have e:Z56 K (c :: l)=Z56 K l:=by show Z56 (if c.kind=1 then _ else K) l=_;rw [if_neg h1]
         rw [e];simp only [h1,if_false] at h ⊢;exact Z5f n l k _ K hK h v
theorem Z5x (n:Nat) (l2:List Z0a):∀(l:List Z0a) (k:Kn) (a:Int),(Z12 (n+1) k (l++l2) a).1=true→(Z12 (n+1) k l a).1=true
 | [],k,a,_=>by rw [Z4b]
 | c :: l,k,a,h=>by
   rw [Zog,Z2s] at h;rw [Z2s];by_cases h3:c.kind=3
   · rw [if_pos h3] at h ⊢
     rcases hc:Z12 n (k.1,[]) c.conds (a+1) with ⟨b,a2,k2⟩;rw [hc] at h;cases b
     · cases h
     · exact Z5x n l2 l k a2 h
   · rw [if_neg h3] at h ⊢
     rcases hc:oneK (if c.kind=1 then k else (k.1,[])) c with ⟨b,k2⟩;rw [hc] at h;cases b
     · cases h
     · exact Z5x n l2 l _ _ h
theorem Zjx {n:Nat}{p:Z39}(h:(Z22 (n+1) p).2.1=0) (names:Z0a→List ByteArray) (es:List Z07) (l:List Z13) (i:Nat) :
 (Z12 (n+1) ([],[]) (p.conds.take i) 0).1=true∧∀v,hasK (Z12 (n+1) ([],[]) (p.conds.take i) 0).2.2 v=decide (v∈(Z3x names es l (p.conds.take i)).known):=by
 have hc:(Z12 (n+1) ([],[]) p.conds 0).1=true:=by
  unfold Z22 at h;by_cases h1:(Z1i (n+1) p).2≠0
  · rw [if_pos h1] at h;exact absurd h h1
  · rw [if_neg h1] at h
    by_cases h2:(p.conds.head?.map Z0a.kind).getD 0≠1
    · rw [if_pos h2] at h;simp at h
    · rw [if_neg h2] at h
      rcases hk:Z12 (n+1) ([],[]) p.conds 0 with ⟨b,a,k⟩;rw [hk] at h;cases b
      · simp at h
      · rfl
 have hp:=Z5x n (p.conds.drop i) (p.conds.take i) ([],[]) 0 (by rw [List.take_append_drop];exact hc);refine ⟨hp,fun v=>?_⟩;rw [Z5f n _ _ 0 [] (fun u=>rfl) hp v];unfold Z3x;rw [Z87]
theorem Zee {n:Nat}{p:Z39}(h:(Z22 n p).2.1=0):(Z0i n 0 p.conds).length≤16∧∀z∈Z0i n 0 p.conds,Z0l z.2 z.1=0:=by
 have hs:(Z1i n p).2=0:=Zoe fun hn=>hn (by rw [Z7o hn] at h;exact h);unfold Z1i at hs;by_cases h1:Z17 p.name=false
 · rw [if_pos h1] at hs;simp at hs
 rw [if_neg h1] at hs;by_cases h2:(Z0i n 0 p.conds).length<1∨16<(Z0i n 0 p.conds).length∨p.acts.length<1∨16<p.acts.length
 · rw [if_pos h2] at hs;simp at hs
 rw [if_neg h2] at hs;refine ⟨by omega,fun z hz=>?_⟩
 cases hf:(Z0i n 0 p.conds).findIdx? (fun c=>decide (Z0l c.2 c.1≠0)) with
 | some k=>
   rw [hf] at hs;obtain ⟨hk,h3,_⟩:=List.findIdx?_eq_some_iff_getElem.1 hf;simp only [Znq hk,Zo1,Option.getD_some] at hs;simp only [Zp0] at h3;exact absurd hs h3
 | none=>
   have:=List.findIdx?_eq_none_iff.1 hf z hz;simpa using this
theorem Zhi (n d:Nat) (l:List Z0a) (i:Nat):∃r,Z0i (n+1) d l=Z0i (n+1) d (l.take i)++r:=by
 refine ⟨Z0i (n+1) d (l.drop i),?_⟩;unfold Z0i;rw [←Zny,List.take_append_drop]
theorem Zac {D:Nat→Prop}(ts:List Z1r) (a:Sym) (l:List Z13) (A Al:Option Addr) (c cl:Nat) (w:World) (h:RowR Z03 D w A c ts) (hl:RowR Z1n D w Al cl l) (hts:ts.length≤1000000) :
 Calls Tryz.prog 68 #[.slice A ts.length c,.agg #[.int .i64 a.kind,.string a.text,.int .i64 a.n],.slice Al l.length cl] w (Z4s 195 7 Z09.cells (Z1v ts a l) w):=by
 obtain ⟨j0,hj0,hy0,hy1,hy2⟩:=infp Z55;have HT:=hid h;have HL:=hid hl;have htc:=h.cap;clear h hl;go_enter Tryz.func68,Tryz.ntmps68;(go_upto_region 1 with fail);obtain ⟨w1,hw1⟩:∃w1,w1=(w.alloc (.cells #[.int .i64 a.kind,.string a.text,.int .i64 a.n] 38)):=⟨_,rfl⟩;rw [←hw1];have HB:=hid (show Below w.heap.size w w1 by rw [hw1];exact (by repeat (first|exact Znk _ _|refine Below.drew ?_|refine Below.al ?_ _|refine Below.sc ?_ _)));have Ka:=hid (show Blk w1 (w.heap.size) 38 #[.int .i64 a.kind,.string a.text,.int .i64 a.n] by rw [hw1];exact (Blk.new w 38 #[.int .i64 a.kind,.string a.text,.int .i64 a.n]));clear hw1;obtain ⟨a0,a1,a2⟩:=Ka.out.c3;have az:=Ka.out.lt;clear a0 a1 a2 az;obtain ⟨ab,hab⟩:∃b,b=w.heap.size:=⟨_,rfl⟩;rw [←hab] at Ka ⊢;clear hab;obtain ⟨va,hva⟩:∃v,v=Value.agg #[.int .i64 a.kind,.string a.text,.int .i64 a.n]:=⟨_,rfl⟩;rw [←hva];clear hva;have HO:=hid (OwnG.start (T:=195) (size:=7) (cells:=Z09.cells) HB.out);go_wp2_with fail
 go_loopw [7,8] (fun vo vi wr=>∃(i:Nat) (os:List Z09) (Ao:Option Addr) (co:Nat),vi = .int .i64 (i:Int)∧i≤ts.length∧vo = .slice Ao os.length co∧os=Z1v (ts.take i) a l∧OwnG 195 7 Z09.cells w os Ao co wr∧Blk wr ab 38 #[.int .i64 a.kind,.string a.text,.int .i64 a.n]) (fun vo vi wr=>ts.length - (intOf vi).toNat)
 case atStart=>exact ⟨0,[],none,0,rfl,Nat.zero_le _,rfl,rfl,HO.out,Ka.out⟩
 case round=>
  clear HO Ka;obtain ⟨i,os,Ao,co,rfl,hi,rfl,hos,ho,hka⟩:=hrel;have HO:=hid ho;have Ka:=hid hka;have HOS:=hid hos;(have hol:os.length≤i:=by rw [hos];refine Zo2 (Z3p _ _ _) ?_;rw [Zou];omega);clear ho hka hos;by_cases hlt:i<ts.length
  · skip
    obtain ⟨y,hy⟩:∃y,y=ts[i]:=⟨_,rfl⟩;have HTK:=hid (show Z1v (ts.take (i+1)) a l=os++Z2z a l y by rw [hy,HOS.out];exact Z81 hlt a l);obtain ⟨g,off,A1,c1,rfl,_,hg,q0,q1,q2,q3,q4,q5,-⟩:=Z2w (HT.out.new_ HO.out.bel) hlt;rw [←hy] at q0 q1 q2 q3 q4 q5;(have j1:(0:Int)≤(i:Int):=by omega);(have j2:(i:Int)<(ts.length:Int):=by omega);have v3:IntKind.i64.wrap ((i:Int)+1)=(i:Int)+1:=Znu _ (by omega);clear hy;(go_upto_region 6 with fail);obtain ⟨W1,hW1⟩:∃W,W=wr.alloc (.cells #[.int .i64 y.rel,.string y.var,.int .i64 y.sym.kind,.string y.sym.text,.int .i64 y.sym.n,.slice A1 y.list.length c1] 138):=⟨_,rfl⟩;obtain ⟨tb,htb⟩:∃b,b=wr.heap.size:=⟨_,rfl⟩;have Kt:=hid (show Blk W1 tb 138 #[.int .i64 y.rel,.string y.var,.int .i64 y.sym.kind,.string y.sym.text,.int .i64 y.sym.n,.slice A1 y.list.length c1] by rw [hW1,htb];exact Blk.new _ _ _);(have hbn:Below wr.heap.size wr W1:=by rw [hW1];exact (Znk _ _).alloc (Znl _) _);rw [←hW1,←htb];have HO:=hid (HO.out.new_ hbn);have Ka:=hid (Ka.out.new_ hbn);clear hW1 htb hbn q0 q1 q2 q3 q4 q5;have t0:=(Kt.out.cell 0).trans rfl;have tz:=Kt.out.lt;by_cases hno:y.rel≠2∧y.rel≠7
    · have n1:(y.rel != 2)=true:=by simp [hno.1]
      (have n2:(y.rel != 7)=true:=by simp [hno.2]);have HPN:=hid (show Z2z a l y = [] by unfold Z2z;rw [if_pos hno]);clear hno;(go_wp2_with fail);go_roundw
      case rel=>exact ⟨i+1,os,Ao,co,by go_num,by omega,rfl,by rw [HTK.out,HPN.out,Zof],HO.out,Ka.out⟩
      case measure=>simp [intOf]<;>omega
    have HNO:=hid hno;rcases (by omega:y.rel=2∨¬y.rel=2∧y.rel=7) with h2|⟨h2,h7⟩
    case' inl=>
     (have n1:(y.rel != 2)=false:=by simp [h2]);clear h2
    case' inr=>
     (have n1:(y.rel != 2)=true:=by simp [h2]);(have n2:(y.rel != 7)=false:=by simp [h7]);clear h2 h7
    all_goals
     clear hno;(go_upto_region 7 with fail);clear t0 n1;(try clear n2);have t0:=(Kt.out.cell 0).trans rfl;have t1:=(Kt.out.cell 1).trans rfl;have t2:=(Kt.out.cell 2).trans rfl;have t3:=(Kt.out.cell 3).trans rfl;have t4:=(Kt.out.cell 4).trans rfl;(go_upto_region 9 with fail);clear t0 t1 t2 t3 t4 tz;have HKA1:=hid Ka.out.lt;have HKT1:=hid Kt.out.lt;have HWB:=hid HO.out.bel.size;obtain ⟨W2,hW2⟩:∃W,W=W1.alloc (.cells #[.int .i64 y.sym.kind,.string y.sym.text,.int .i64 y.sym.n] 38):=⟨_,rfl⟩;obtain ⟨bb,hbb⟩:∃b,b=W1.heap.size:=⟨_,rfl⟩;have Kb:=hid (show Blk W2 bb 38 #[.int .i64 y.sym.kind,.string y.sym.text,.int .i64 y.sym.n] by rw [hW2,hbb];exact Blk.new _ _ _);(have hbn:Below W1.heap.size W1 W2:=by rw [hW2];exact (Znk _ _).alloc (Znl _) _);rw [←hW2,←hbb];have HO:=hid (HO.out.new_ hbn);have Ka:=hid (Ka.out.new_ hbn);have Kt:=hid (Kt.out.new_ hbn);have HXB:=hid (show w.heap.size≤bb by rw [hbb];exact HWB.out);have HAB:=hid (show ab≠bb by rw [hbb];have:=HKA1.out;omega);have HTB:=hid (show tb≠bb by rw [hbb];have:=HKT1.out;omega);clear hW2 hbb hbn;have t1:=(Kt.out.cell 1).trans rfl;have tz:=Kt.out.lt;by_cases hv:y.var.toList = []
     case' pos=>
      (have fa:(y.var.toList == [])=true:=by simp [hv]);(have fb:y.var.toList.isEmpty=true:=by simp [hv]);(have fc:decide (y.var.toList = [])=true:=by simp [hv]);have HSV:=hid (show symT l y=(y.sym,true) by unfold symT;rw [if_pos hv]);clear hv;(go_upto_region 11 with fail);clear fa fb fc t1 tz;obtain ⟨bs,hbs⟩:∃s,s=y.sym:=⟨_,rfl⟩;rw [←hbs] at HSV Kb;obtain ⟨V,hV⟩:∃W,W=W2:=⟨_,rfl⟩;rw [←hV] at HO Ka Kt Kb ⊢;clear hbs hV
     case' neg=>
      (have fa:(y.var.toList == [])=false:=by simp [hv]);(have fb:y.var.toList.isEmpty=false:=by simp [hv]);(have fc:decide (y.var.toList = [])=false:=by simp [hv]);obtain ⟨gs,gb,hgs⟩:∃x1 x2,(x1,x2)=getB l y.var:=⟨_,_,rfl⟩;have HSV:=hid (show symT l y=(gs,gb) by unfold symT;rw [if_neg hv,hgs]);have hC:=Zml l y.var W2 (HL.out.new_ HO.out.bel);rw [←hgs] at hC;have HC:=hid hC;clear hC hgs hv;(go_wp2_with fail);refine HC.out.mono ?_;rintro e W3 ⟨rfl,hb⟩;clear HC fa fb fc t1 tz;have HO:=hid (HO.out.new_ hb);have Ka:=hid (Ka.out.new_ hb);have Kt:=hid (Kt.out.new_ hb);have Kb:=hid (Kb.out.new_ hb);clear hb;have HTo:=hid (show W3.there bb 0 (#[.int .i64 gs.kind,.string gs.text,.int .i64 gs.n]:Array Value).size from Kb.out.there);have HKB:=Kb;(go_upto_region 11 with (with_reducible refine wpList_store_mid rfl 38 _ _ rfl bb 0 #[.int .i64 gs.kind,.string gs.text,.int .i64 gs.n] rfl rfl HTo.out (by kernel_rfl) (by kernel_rfl) ?_));clear HTo;obtain ⟨V,hV⟩:∃W,W=W3.setCells bb 0 [.int .i64 gs.kind,.string gs.text,.int .i64 gs.n]:=⟨_,rfl⟩;(have hbn:Below w.heap.size W3 V:=by rw [hV];exact Below.setCells' _ _ (Znk _ _) HXB.out);have Ka:=hid (show Blk V ab 38 #[.int .i64 a.kind,.string a.text,.int .i64 a.n] by rw [hV];exact Blk.farCells _ _ Ka.out HAB.out);have Kt:=hid (show Blk V tb 138 #[.int .i64 y.rel,.string y.var,.int .i64 y.sym.kind,.string y.sym.text,.int .i64 y.sym.n,.slice A1 y.list.length c1] by rw [hV];exact Blk.farCells _ _ Kt.out HTB.out);have Kb:=hid (show Blk V bb 38 #[.int .i64 gs.kind,.string gs.text,.int .i64 gs.n] by rw [hV];exact Blk.setAllG Kb.out rfl);have HO:=hid (show OwnG 195 7 Z09.cells w os Ao co V by rw [hV];exact ⟨Z3z HO.out.own HKB.out (by decide) _ _,HO.out.ain,HO.out.bel.trans (hV ▸ hbn)⟩);rw [←hV];clear hV hbn;cases gb
      · have HPN:=hid (show Z2z a l y = [] by unfold Z2z;rw [if_neg HNO.out,HSV.out,if_neg (by simp)])
        (go_wp2_with fail);go_roundw
        case rel=>exact ⟨i+1,os,Ao,co,by go_num,by omega,rfl,by rw [HTK.out,HPN.out,Zof],HO.out,Ka.out⟩
        case measure=>simp [intOf]<;>omega
      obtain ⟨bs,hbs⟩:∃s,s=gs:=⟨_,rfl⟩;rw [←hbs] at HSV Kb;clear hbs HKB
     all_goals
      have a0:=(Ka.out.cell 0).trans rfl;have az:=Ka.out.lt;have b0:=(Kb.out.cell 0).trans rfl;have bz:=Kb.out.lt;by_cases hk:a.kind=1∨bs.kind=1
      case neg=>
       (have k1:(a.kind == 1)=false:=by simp;exact fun h=>hk (.inl h));(have k2:(bs.kind == 1)=false:=by simp;exact fun h=>hk (.inr h));have k3:decide (a.kind=1)=false:=Znm fun h=>hk (.inl h);have k4:decide (bs.kind=1)=false:=Znm fun h=>hk (.inr h);have HPN:=hid (show Z2z a l y = [] by unfold Z2z;rw [if_neg HNO.out,HSV.out,if_neg (fun h=>hk h.2)]);clear hk;(go_wp2_with fail);go_roundw
       case rel=>exact ⟨i+1,os,Ao,co,by go_num,by omega,rfl,by rw [HTK.out,HPN.out,Zof],HO.out,Ka.out⟩
       case measure=>simp [intOf]<;>omega
      have HPN:=hid (show Z2z a l y = [⟨a,bs,y.rel⟩] by unfold Z2z;rw [if_neg HNO.out,HSV.out,if_pos ⟨rfl,hk⟩]);rcases (by omega:a.kind=1∨¬a.kind=1∧bs.kind=1) with h2|⟨h2,h7⟩
      case' inl=>
       (have k1:(a.kind == 1)=true:=by simp [h2]);have k3:decide (a.kind=1)=true:=Zno h2;clear h2
      case' inr=>
       (have k1:(a.kind == 1)=false:=by simp [h2]);have k3:decide (a.kind=1)=false:=Znm h2;(have k2:(bs.kind == 1)=true:=by simp [h7]);have k4:decide (bs.kind=1)=true:=Zno h7;clear h2 h7
      all_goals
       clear hk;(go_upto_region 12 with fail);clear k1 k3 a0 az b0 bz;(try clear k2 k4);have a0:=(Ka.out.cell 0).trans rfl;have a1:=(Ka.out.cell 1).trans rfl;have a2:=(Ka.out.cell 2).trans rfl;have az:=Ka.out.lt;have b0:=(Kb.out.cell 0).trans rfl;have b1:=(Kb.out.cell 1).trans rfl;have b2:=(Kb.out.cell 2).trans rfl;have bz:=Kb.out.lt;have t0:=(Kt.out.cell 0).trans rfl;have tz:=Kt.out.lt;obtain ⟨y2,hy2⟩:∃y2:Z09,y2=⟨a,bs,y.rel⟩:=⟨_,rfl⟩;have HC2:=hid (show [y2].flatMap Z09.cells = [.int .i64 a.kind,.string a.text,.int .i64 a.n,.int .i64 bs.kind,.string bs.text,.int .i64 bs.n,.int .i64 y.rel] by rw [hy2];rfl);rw [←hy2] at HPN;obtain ⟨W8,hW8⟩:∃W,W=V.alloc (.cells #[.int .i64 a.kind,.string a.text,.int .i64 a.n,.int .i64 bs.kind,.string bs.text,.int .i64 bs.n,.int .i64 y.rel] 195):=⟨_,rfl⟩;have HW8:=hid hW8;(have hb8:Below V.heap.size V W8:=by rw [hW8];exact (Znk _ _).alloc (Znl _) _);have HO8:=hid (HO.out.new_ hb8);have Ka8:=hid (Ka.out.new_ hb8);have HN8:=hid (show 0<1→∃ad,(some (⟨V.heap.size,0,none⟩:Addr))=some ad∧∀j u,([y2].flatMap Z09.cells)[j]? = some u→W8.cell? (ad.add j)=some u from fun _=>⟨_,rfl,by rw [HC2.out,hW8];exact Zo7 (heap_alloc_new _ _)⟩);clear hy2 hW8 hb8;(go_wp2_with (at_builtin;rw [←HW8.out];refine Z00 W8 rfl (.tmp 53) (.tmp 59) 70 rfl 195 j0 _ 7 72 Tryz.underlying70 hj0 hy0 hy1 hy2 rfl (by omega) (.slice Ao os.length co) os.length (os.flatMap Z09.cells) rfl HO8.out.own (some ⟨V.heap.size,0,none⟩) 1 1 ([y2].flatMap Z09.cells) rfl rfl HN8.out (Z4d _) (by unfold maxLen;omega) (by omega) ?_;intro v4 w9 hown hgr hnil hat;obtain ⟨mn,A9,c9,hmn,rfl,hO9⟩:=HO8.out.put hown hgr hat;have HMN:=hid hmn;have Ka9:=hid (Ka8.out.grown hgr (Z02 HO8.out.own Ka8.out (by decide)));have HO9:=hid hO9;clear hown hgr hnil hat hmn hO9));go_roundw
       case rel=>exact ⟨i+1,mn,A9,c9,by go_num,by omega,rfl,by rw [HMN.out,HTK.out,HPN.out],HO9.out,Ka9.out⟩
       case measure=>simp [intOf]<;>omega
  · skip
    (obtain rfl:i=ts.length:=by omega);rw [Zo6] at HOS;(go_wp2_with fail);go_ret;rw [←HOS.out];exact HO.out.fresh
end
section
open Go.RowKit Go.Shelf
theorem Zfc {W:World}{e1 e2:TypeId}{z1 z2 n1 n2 b1 b2:Nat}{v1 v2:Value}{x1 x2:List Value}(h1:W.ownsRow b1 e1 z1 v1 n1 x1) (h2:W.ownsRow b2 e2 z2 v2 n2 x2) (hne:e1≠e2){g:Nat}(hg:v1.ownBlock=some g):v2.ownBlock≠some g:=by
 rcases h1.2 with ⟨rfl,_⟩|⟨k,cap,cur,rfl,_,hk,_⟩
 · simp [Value.ownBlock] at hg
 · have e:k=g:=by simpa [Value.ownBlock] using hg
   subst e;exact Z02 h2 (t:=e1) (cs:=cur) hk (Ne.symm hne)
theorem Zhj {B:Nat}{w w':World}{A:Option Addr}{c:Nat}{xs ys:List ByteArray}{v:Value}(hown:w'.ownsRow 0 9 1 v (xs.length+ys.length) (xs.flatMap strC++ys.flatMap strC)) (hg:w.grownBy w' (Value.slice A xs.length c).ownBlock)
 (hat:v.ownBlock=(Value.slice A xs.length c).ownBlock∨v.ownBlock=some w.heap.size) (hA:AIn A (B≤·)) (hB:B≤w.heap.size) :
 ∃A' c',v = .slice A' (xs++ys).length c'∧w'.ownsRow 0 9 1 (.slice A' (xs++ys).length c') (xs++ys).length ((xs++ys).flatMap strC)∧AIn A' (B≤·)∧Below B w w'∧Fr (fun k=>(Value.slice A xs.length c).ownBlock=some k) w w':=by
 rw [←Znp,←Zny] at hown;obtain ⟨A',c',rfl,_⟩:=Z0v hown
 have hown2 :∀k,(Value.slice A xs.length c).ownBlock=some k→B≤k:=fun k hk=>by
  cases A with
  | none=>cases hk
  | some a=>simp only [Value.ownBlock,Option.some.injEq] at hk;rw [←hk];exact hA a rfl
 refine ⟨A',c',rfl,hown,fun a ha=>?_,(Znk B w).grown hg hB hown2,(Fr.refl _ w).grown hg (fun k hk=>.inl hk)⟩;subst ha;rcases hat with h|h
 · exact hown2 _ h.symm
 · simp only [Value.ownBlock,Option.some.injEq] at h
   omega
def Zgx (n:Nat):Prop:=∀(c:Z0a) (A1:Option Addr) (a1:Nat) (A2:Option Addr) (a2:Nat) (A3:Option Addr) (a3:Nat) (D:Nat→Prop) (X:World),SmC (n+1) c→(Z0b (n+1) c).length≤100000→RowR Z03 D X A1 a1 c.attr→RowR Z03 D X A2 a2 c.value→RowR (Z06 n) D X A3 a3 c.conds→
    Calls Tryz.prog 69 #[.agg #[.int .i64 c.kind,.bool c.goal,.string c.id,.slice A1 c.attr.length a1,.slice A2 c.value.length a2,.bool c.acc,.slice A3 c.conds.length a3]] X (Zmz X (Z0b (n+1) c))
structure RN (X:World) (c:Z0a) (A1:Option Addr) (a1:Nat) (A2:Option Addr) (a2:Nat) (A3:Option Addr) (a3:Nat) (out:List ByteArray) (A:Option Addr) (cp:Nat) (w:World):Prop where
 own:w.ownsRow 0 9 1 (.slice A out.length cp) out.length (out.flatMap strC)
 ain:AIn A (X.heap.size≤·)
 blk:Blk w X.heap.size 59 #[.int .i64 c.kind,.bool c.goal,.string c.id,.slice A1 c.attr.length a1,.slice A2 c.value.length a2,.bool c.acc,.slice A3 c.conds.length a3]
 bel:Below X.heap.size X w
section
variable {X w w':World}{c:Z0a}{A1 A2 A3 A:Option Addr}{a1 a2 a3 cp:Nat}{out ys:List ByteArray}
theorem RN.new_ (h:RN X c A1 a1 A2 a2 A3 a3 out A cp w) (hb:Below w.heap.size w w'):RN X c A1 a1 A2 a2 A3 a3 out A cp w':=⟨Z05 h.own hb,h.ain,h.blk.new_ hb,h.bel.trans (hb.mono h.bel.size)⟩
theorem RN.app {v:Value}(h:RN X c A1 a1 A2 a2 A3 a3 out A cp w) (hown:w'.ownsRow 0 9 1 v (out.length+ys.length) (out.flatMap strC++ys.flatMap strC)) (hg:w.grownBy w' (Value.slice A out.length cp).ownBlock) (hat:v.ownBlock=(Value.slice A out.length cp).ownBlock∨v.ownBlock=some w.heap.size) :
 ∃A' c',v = .slice A' (out++ys).length c'∧RN X c A1 a1 A2 a2 A3 a3 (out++ys) A' c' w'∧Fr (fun k=>(Value.slice A out.length cp).ownBlock=some k) w w':=by
 obtain ⟨A',c',rfl,h1,h2,h3,h4⟩:=Zhj hown hg hat h.ain h.bel.size;exact ⟨A',c',rfl,⟨h1,h2,h.blk.fr h4 (fun e=>Z02 h.own h.blk (by decide) e),h.bel.trans h3⟩,h4⟩
end
theorem Z9h (n:Nat) (ih :∀m,n=m+1→Zgx m):Zgx n:=by
 intro c A1 a1 A2 a2 A3 a3 D X hsm hlen h1 h2 h3;obtain ⟨i0,hi0,hz0,hz1,hz2⟩:=info_parts Zb3;obtain ⟨t0,ht0,hy0,hyy1,hyy2⟩:=infp Zb2;obtain ⟨xs1,hr1,hd1⟩:=Z79 h1;obtain ⟨xs2,hr2,hd2⟩:=Z79 h2;have hl1:xs1.length=c.attr.length:=hr1.len;have hl2:xs2.length=c.value.length:=hr2.len;obtain ⟨⟨hs1,_⟩,⟨hs2,_⟩,_,hs4⟩:=hsm;have IH:=hid ih;have HS4:=hid hs4;have HLEN:=hid hlen;have H3:=hid h3;have hac:=h3.cap;have HD1:=hid (show Z0z X 6 (fun v:V6=>v.1) A1 a1 xs1 from hd1);have HD2:=hid (show Z0z X 6 (fun v:V6=>v.1) A2 a2 xs2 from hd2);have HRW:=hid (hr1.app hr2);(have hlx1:xs1.length≤1000:=by omega);(have hlx2:xs2.length≤1000:=by omega);have HL1:=hid hl1;have HL2:=hid hl2;clear ih hs4 hlen h1 h2 h3 hd1 hd2 hr1 hr2 hs1 hs2 hl1 hl2;go_enter Tryz.func69,Tryz.ntmps69;(go_upto_region 1 with fail);obtain ⟨W1,hW1⟩:∃W1,W1=X.alloc (.cells #[.int .i64 c.kind,.bool c.goal,.string c.id,.slice A1 c.attr.length a1,.slice A2 c.value.length a2,.bool c.acc,.slice A3 c.conds.length a3] 59):=⟨_,rfl⟩;(have hb1:Below X.heap.size X W1:=by rw [hW1];exact (Znk _ _).alloc (Znl _) _);have HN1:=hid (show RN X c A1 a1 A2 a2 A3 a3 [] none 0 W1 from ⟨Z23 _ _ _,AIn.none_ _,by rw [hW1];exact Blk.new _ _ _,hb1⟩);rw [←hW1];clear hW1 hb1;have q2:=(HN1.out.blk.cell 2).trans rfl;have qz:=HN1.out.blk.lt;by_cases hiD:c.id.toList = []
 · have ia:(c.id.toList == [])=true:=by simp [hiD]
   (have ib:c.id.toList.isEmpty=true:=by simp [hiD]);(have ic:decide (c.id.toList = [])=true:=by simp [hiD]);have HOS:=hid (show ([]:List ByteArray)=oneN c.id by rw [Z7w hiD]);have HOSL:=hid (show ([]:List ByteArray).length≤1 by simp);have HNo:=hid HN1.out;clear hiD;(go_upto_region 4 with fail);clear q2 qz;have q3:=(HNo.out.blk.cell 3).trans rfl;have q4:=(HNo.out.blk.cell 4).trans rfl;have qz:=HNo.out.blk.lt;refine Z0c (fun w9=>Below W1.heap.size W1 w9) [(0,0),(1,1),(3,0),(4,1),(2,2),(5,2),(6,0)] (by kernel_rfl) (by kernel_rfl) (fun KK hKK=>?_);simp only [Z0w,Znz,Znt,Znv,Znr,Zns,Zo1];(repeat ((first|(refine Z0m ?_ (Or.inl ⟨by rfl,fun w9=>?_⟩) ?_;rotate_left 1;go_simp;with_reducible rfl)|(refine Z0k ?_ (((Znk _ _).drew)) (Or.inl ⟨by rfl,fun w9 hw9=>?_⟩) ?_;rotate_left 1;obtain ⟨hc9,hf9⟩:=Z1e hw9;go_simp;with_reducible rfl)|refine Z0m undef (Or.inr ⟨by rfl,rfl⟩) ?_|refine Z0k undef (((Znk _ _).drew)) (Or.inr ⟨by rfl,rfl⟩) ?_);go_frame));refine Z2j (fun K9_ hK9_=>?_);refine Z0f _ rfl _ _ 57 rfl 138 t0 _ 6 80 Tryz.underlying57 ht0 hy0 hyy1 hyy2 rfl (by omega) (.slice none 0 0) 0 [] rfl (Z23 _ _ _) A1 c.attr.length a1 (xs1.flatMap (fun v:V6=>v.1)) rfl (by rw [←HL1.out];exact Z08 Z44 xs1) (by rw [←HL1.out];exact ((HD1.out.new_ HNo.out.bel).new_ ((Znk _ _).drew)).news Z44 (by omega)) (Z8d _) (by have:=HL1.out;unfold maxLen;omega) (by have:=HL1.out;omega) ?_;intro vb w3 hown1 hg1 hnil1 hat1;rw [Zoa,Zo3] at hown1;obtain ⟨Ad,cd,rfl,_⟩:=Z0v hown1;have HB3:=hid (show Below W1.heap.size W1 w3 from ((Znk W1.heap.size W1).drew).trans ((Znk _ _).grown hg1 (Znl _) (fun k hk=>by cases hk)));have HO3:=hid hown1
   have HA3:=hid (show AIn Ad (W1.heap.size≤·) from fun a ha=>by
    subst ha;rcases hat1 with h|h
    · cases h
    · simp only [Value.ownBlock,Option.some.injEq] at h
      exact Nat.le_of_eq h.symm)
   clear hown1 hg1 hnil1 hat1;refine hK9_ _ _ HB3.out ?_;clear hK9_ K9_;refine Z2j (fun K9_ hK9_=>?_);refine Z0f _ rfl _ _ 57 rfl 138 t0 _ 6 80 Tryz.underlying57 ht0 hy0 hyy1 hyy2 rfl (by omega) (.slice Ad c.attr.length cd) c.attr.length (xs1.flatMap (fun v:V6=>v.1)) rfl HO3.out A2 c.value.length a2 (xs2.flatMap (fun v:V6=>v.1)) rfl (by rw [←HL2.out];exact Z08 Z44 xs2) (by rw [←HL2.out];exact ((HD2.out.new_ HNo.out.bel).new_ HB3.out).news Z44 (by omega)) (Z8d _) (by have:=HL1.out;have:=HL2.out;unfold maxLen;omega) (by have:=HL1.out;have:=HL2.out;omega) ?_;intro vb w4 hown1 hg1 hnil1 hat1;rw [←Zny] at hown1;obtain ⟨Al,cl,rfl,_⟩:=Z0v hown1
   have HB4:=hid (show Below W1.heap.size W1 w4 from HB3.out.grown hg1 HB3.out.size (fun k hk=>by
    cases Ad with
    | none=>cases hk
    | some a=>simp only [Value.ownBlock,Option.some.injEq] at hk;rw [←hk];exact HA3.out a rfl))
   have HO4:=hid hown1;clear hown1 hg1 hnil1 hat1 HO3 HA3 HB3;obtain ⟨tl,htl⟩:∃tl,tl=c.attr++c.value:=⟨_,rfl⟩;(have htll:c.attr.length+c.value.length=tl.length:=by rw [htl,Znp]);rw [htll] at HO4 ⊢;have HTL:=hid htl;clear htl htll;refine hK9_ _ _ HB4.out ?_;clear hK9_ K9_;(repeat ((first|(refine Z0m ?_ (Or.inl ⟨by rfl,fun w9=>?_⟩) ?_;rotate_left 1;go_simp;with_reducible rfl)|(refine Z0k ?_ (HB3.out) (Or.inl ⟨by rfl,fun w9 hw9=>?_⟩) ?_;rotate_left 1;obtain ⟨hc9,hf9⟩:=Z1e hw9;go_simp;with_reducible rfl)|refine Z0m undef (Or.inr ⟨by rfl,rfl⟩) ?_|refine Z0k undef (HB3.out) (Or.inr ⟨by rfl,rfl⟩) ?_);go_frame));refine Z16 ?_;simp only [Z04];refine hKK _ _ ?_;clear hKK KK;obtain ⟨xs,hxs⟩:∃xs,xs=xs1++xs2:=⟨_,rfl⟩;rw [←hxs] at HO4 HRW;rw [←HTL.out] at HRW;have HN4:=hid (HNo.out.new_ HB4.out);(have htc:tl.length≤2000:=by rw [HTL.out,Znp];have:=HL1.out;have:=HL2.out;omega);have HXL:=hid (show xs.length=tl.length from HRW.out.len);clear q3 q4 qz HNo hxs;go_wp2_with fail
   go_loopw [3,5] (fun v s wr=>∃(i:Nat) (out:List ByteArray) (A:Option Addr) (cp:Nat),s = .int .i64 i∧v = .slice A out.length cp∧i≤tl.length∧out=([]:List ByteArray)++Z1s (tl.take i)∧RN X c A1 a1 A2 a2 A3 a3 out A cp wr∧wr.ownsRow 0 138 6 (.slice Al tl.length cl) tl.length (xs.flatMap (fun v:V6=>v.1))) (fun v s wr=>tl.length - (intOf s).toNat)
   case atStart=>exact ⟨0,([]:List ByteArray),none,0,rfl,rfl,Nat.zero_le _,by simp [Z1s],HN4.out,HO4.out⟩
   case round=>
    obtain ⟨i,out,A,cp,rfl,rfl,hi,hout,hn,ho⟩:=hrel;have HNR:=hid hn;have HOR:=hid ho;have HOUT:=hid hout;clear hn ho hout HN4 HO4;by_cases hlt:i<tl.length
    · obtain ⟨y,hy⟩:∃y,y=tl[i]:=⟨_,rfl⟩
      have hxi:i<xs.length:=by rw [HXL.out];exact hlt
      have hrd:Z0z wr 6 (fun v:V6=>v.1) Al cl xs:=by
       have h:=HOR.out;rw [←HXL.out] at h;exact Z0d Z44 h
      obtain ⟨g,off,hA0,hg,hcel⟩:=hrd.at_ hxi;have q1:wr.cell? ⟨g,off+i*6+1,none⟩=some (.string y.var):=hcel 1 _ (by rw [(HRW.out.get hlt hxi).2,hy]);subst hA0;have HVT:=hid (show Z1s (tl.take (i+1))=Z1s (tl.take i)++oneN y.var by unfold Z1s;rw [←Z2b hlt,Zny,hy];simp)
      have hol:out.length≤100000:=by
       have h1:=Z7f (tl.take i);have h2:=HOSL.out;rw [HOUT.out,Znp];have h3:(tl.take i).length≤tl.length:=Zo2 (List.length_take_le _ _) hi;omega
      (have j1:(0:Int)≤(i:Int):=by omega);(have j2:(i:Int)<(tl.length:Int):=by omega);clear hy hrd hcel;by_cases hve:y.var.toList = []
      · have va:(y.var.toList == [])=true:=by simp [hve]
        (have vb:y.var.toList.isEmpty=true:=by simp [hve]);(have vc:decide (y.var.toList = [])=true:=by simp [hve]);have HON:=hid (show out=([]:List ByteArray)++Z1s (tl.take (i+1)) by rw [HVT.out,Z7w hve,Zof];exact HOUT.out);clear hve;(go_wp2_with fail);go_roundw
        case rel=>exact ⟨i+1,out,A,cp,by go_num,rfl,by omega,HON.out,HNR.out,HOR.out⟩
        case measure=>simp [intOf]<;>omega
      · have va:(y.var.toList == [])=false:=by simp [hve]
        (have vb:y.var.toList.isEmpty=false:=by simp [hve]);(have vc:decide (y.var.toList = [])=false:=by simp [hve]);have HON:=hid (show out ++ [y.var]=([]:List ByteArray)++Z1s (tl.take (i+1)) by rw [HVT.out,Z67 hve,HOUT.out];simp);clear hve;obtain ⟨Y9,hY9⟩:∃Y9,Y9=wr.alloc (.cells #[.string y.var] 9):=⟨_,rfl⟩;(have hb9:Below wr.heap.size wr Y9:=by rw [hY9];exact (Znk _ _).alloc (Znl _) _);have HY9:=hid hY9;have HN9:=hid (HNR.out.new_ hb9);have HO9:=hid (Z05 HOR.out hb9);have HW9:=hid (show 0<1→∃ad,(some (⟨wr.heap.size,0,none⟩:Addr))=some ad∧∀j u,([y.var].flatMap strC)[j]? = some u→Y9.cell? (ad.add j)=some u from fun _=>⟨_,rfl,by rw [hY9];exact Zo7 (heap_alloc_new _ _)⟩);clear hY9 hb9;(go_wp2_with (at_builtin;rw [←HY9.out];refine Z00 Y9 rfl (.tmp 33) (.tmp 39) 114 rfl 9 i0 _ 1 16 Tryz.underlying114 hi0 hz0 hz1 hz2 rfl (by decide) (.slice A out.length cp) out.length (out.flatMap strC) rfl HN9.out.own (some ⟨wr.heap.size,0,none⟩) 1 1 ([y.var].flatMap strC) rfl rfl HW9.out (Z6r _) (by unfold maxLen;omega) (by omega) ?_;intro v1 w9 hown1 hg1 hnil1 hat1;obtain ⟨A9,c9,rfl,hn9,hf9⟩:=HN9.out.app (ys:=[y.var]) hown1 hg1 hat1;have HN10:=hid hn9;have HO10:=hid (Z15 HO9.out hf9 (fun g hg e=>Zfc HO9.out HN9.out.own (by decide) hg e));clear hown1 hg1 hnil1 hat1 hn9 hf9));go_roundw
        case rel=>exact ⟨i+1,out ++ [y.var],A9,c9,by go_num,by simp,by omega,HON.out,HN10.out,HO10.out⟩
        case measure=>simp [intOf]<;>omega
    · obtain rfl:i=tl.length:=by omega
      have HOC:=hid (show out=([]:List ByteArray)++(Z1s c.attr++Z1s c.value)++((c.conds.take 0).flatMap (Z0b n)) by rw [HOUT.out,Zo6,HTL.out];simp [Z1s]);clear HOUT;go_wp2_with fail
      go_loopw [3,6] (fun v s wr=>∃(i:Nat) (out:List ByteArray) (A:Option Addr) (cp:Nat),s = .int .i64 i∧v = .slice A out.length cp∧i≤c.conds.length∧out=([]:List ByteArray)++(Z1s c.attr++Z1s c.value)++((c.conds.take i).flatMap (Z0b n))∧RN X c A1 a1 A2 a2 A3 a3 out A cp wr) (fun v s wr=>c.conds.length - (intOf s).toNat)
      case atStart=>exact ⟨0,out,A,cp,rfl,rfl,Nat.zero_le _,HOC.out,HNR.out⟩
      case round=>
       clear HOC HNR HOR;obtain ⟨i,out,A,cp,rfl,rfl,hi,hout,hn⟩:=hrel;have HNR:=hid hn;have HOUT:=hid hout;have q6:=(hn.blk.cell 6).trans rfl;have qz:=hn.blk.lt;clear hn hout;by_cases hlt:i<c.conds.length
       · obtain ⟨m,hnm⟩:∃m,n=m+1:=by
          cases n with
          | zero=>have:=Z7b H3.out;rw [this] at hlt;simp at hlt
          | succ m=>exact ⟨m,rfl⟩
         subst hnm;obtain ⟨y,hy⟩:∃y,y=c.conds[i]:=⟨_,rfl⟩;have hcr:=H3.out.new_ HNR.out.bel;obtain ⟨gt,ot,B1,b1_,B2,b2_,B3,b3_,hA,_,hgt,p0,p1,p2,p3,p4,p5,p6,r1,r2,r3⟩:=Z1j hcr hlt;subst hA;rw [←hy] at p0 p1 p2 p3 p4 p5 p6 r1 r2 r3;have htk:(c.conds.take (i+1)).flatMap (Z0b (m+1))=(c.conds.take i).flatMap (Z0b (m+1))++Z0b (m+1) y:=by rw [←Z2b hlt,Zny,hy];simp
         have htot:(out++Z0b (m+1) y).length≤(Z0b (m+1+1) c).length:=by
          have e:Z0b (m+1+1) c=out++Z0b (m+1) y++(c.conds.drop (i+1)).flatMap (Z0b (m+1)):=by
           rw [HOUT.out,Zoc,Zoc,←Zoc ((c.conds.take i).flatMap _),←htk,←Zny,List.take_append_drop,Z0b,←HOS.out];simp
          rw [e];simp only [Znp];omega
         rw [Znp] at htot;have hl9:=HLEN.out;have hcall:=IH.out m rfl y B1 b1_ B2 b2_ B3 b3_ D wr (HS4.out y (by rw [hy];exact Zo8 hlt)) (by omega) r1 r2 r3;obtain ⟨ns,hns⟩:∃ns,ns=Z0b (m+1) y:=⟨_,rfl⟩;rw [←hns] at hcall htk htot;have HCALL:=hid hcall;have HTK:=hid htk;(have ho1:out.length≤100000:=by omega);(have ho2:ns.length≤100000:=by omega);(have j1:(0:Int)≤(i:Int):=by omega);(have j2:(i:Int)<(c.conds.length:Int):=by omega);clear hy hcr r1 r2 r3 htk htot hcall hns hl9;(go_wp2_with fail);refine HCALL.out.mono ?_;rintro e w8 ⟨A8,c8,rfl,ho8,hA8,hb8⟩;have HO8:=hid (show Z0z w8 1 strC A8 c8 ns from Z0d Z3l ho8);have HN8:=hid (HNR.out.new_ hb8);clear ho8 hA8 hb8 p0 p1 p2 p3 p4 p5 p6 q6 qz;(go_wp2_with (at_builtin;refine Z00 w8 rfl (.tmp 48) (.tmp 54) 114 rfl 9 i0 _ 1 16 Tryz.underlying114 hi0 hz0 hz1 hz2 rfl (by decide) (.slice A out.length cp) out.length (out.flatMap strC) rfl HN8.out.own A8 ns.length c8 (ns.flatMap strC) rfl (Z08 Z3l _) (HO8.out.news Z3l (by decide)) (Z6r _) (by unfold maxLen;omega) (by omega) ?_;intro v1 w9 hown1 hg1 hnil1 hat1;obtain ⟨A9,c9,rfl,hn9,hf9⟩:=HN8.out.app hown1 hg1 hat1;have HN10:=hid hn9;clear hown1 hg1 hnil1 hat1 hn9 hf9));go_roundw
         case rel=>exact ⟨i+1,out++ns,A9,c9,by go_num,by simp,by omega,by rw [HTK.out,HOUT.out];simp,HN10.out⟩
         case measure=>simp [intOf]<;>omega
       · obtain rfl:i=c.conds.length:=by omega
         have HEN:=hid (show Z0b (n+1) c=out by rw [HOUT.out,Zo6,Z0b,←HOS.out];simp);(go_wp2_with fail);go_ret;rw [HEN.out];exact ⟨A,cp,rfl,HNR.out.own,HNR.out.ain,HNR.out.bel⟩
 · have ia:(c.id.toList == [])=false:=by simp [hiD]
   (have ib:c.id.toList.isEmpty=false:=by simp [hiD]);(have ic:decide (c.id.toList = [])=false:=by simp [hiD]);have HOS:=hid (show [c.id]=oneN c.id by rw [Z67 hiD]);have HOSL:=hid (show [c.id].length≤1 by simp);clear hiD;obtain ⟨Y9,hY9⟩:∃Y9,Y9=W1.alloc (.cells #[.string c.id] 9):=⟨_,rfl⟩;(have hb9:Below W1.heap.size W1 Y9:=by rw [hY9];exact (Znk _ _).alloc (Znl _) _);have HY9:=hid hY9;have HN9:=hid (HN1.out.new_ hb9);have HW9:=hid (show 0<1→∃ad,(some (⟨W1.heap.size,0,none⟩:Addr))=some ad∧∀j u,([c.id].flatMap strC)[j]? = some u→Y9.cell? (ad.add j)=some u from fun _=>⟨_,rfl,by rw [hY9];exact Zo7 (heap_alloc_new _ _)⟩);clear hY9 hb9;(go_upto_region 4 with (at_builtin;rw [←HY9.out];refine Z00 Y9 rfl (.tmp 10) (.tmp 13) 114 rfl 9 i0 _ 1 16 Tryz.underlying114 hi0 hz0 hz1 hz2 rfl (by decide) (.slice none 0 0) ([]:List ByteArray).length (([]:List ByteArray).flatMap strC) rfl HN9.out.own (some ⟨W1.heap.size,0,none⟩) 1 1 ([c.id].flatMap strC) rfl rfl HW9.out (Z6r _) (by simp [maxLen]) (by simp) ?_;intro v1 wN hown1 hg1 hnil1 hat1;obtain ⟨Ao,co,rfl,hn9,_⟩:=HN9.out.app (ys:=[c.id]) hown1 hg1 hat1;have HNo:=hid (show RN X c A1 a1 A2 a2 A3 a3 [c.id] Ao co wN from hn9);clear hown1 hg1 hnil1 hat1 hn9));clear q2 qz;have q3:=(HNo.out.blk.cell 3).trans rfl;have q4:=(HNo.out.blk.cell 4).trans rfl;have qz:=HNo.out.blk.lt;refine Z0c (fun w9=>Below wN.heap.size wN w9) [(0,0),(1,1),(3,0),(4,1),(2,2),(5,2),(6,0)] (by kernel_rfl) (by kernel_rfl) (fun KK hKK=>?_);simp only [Z0w,Znz,Znt,Znv,Znr,Zns,Zo1];(repeat ((first|(refine Z0m ?_ (Or.inl ⟨by rfl,fun w9=>?_⟩) ?_;rotate_left 1;go_simp;with_reducible rfl)|(refine Z0k ?_ (((Znk _ _).drew)) (Or.inl ⟨by rfl,fun w9 hw9=>?_⟩) ?_;rotate_left 1;obtain ⟨hc9,hf9⟩:=Z1e hw9;go_simp;with_reducible rfl)|refine Z0m undef (Or.inr ⟨by rfl,rfl⟩) ?_|refine Z0k undef (((Znk _ _).drew)) (Or.inr ⟨by rfl,rfl⟩) ?_);go_frame));refine Z2j (fun K9_ hK9_=>?_);refine Z0f _ rfl _ _ 57 rfl 138 t0 _ 6 80 Tryz.underlying57 ht0 hy0 hyy1 hyy2 rfl (by omega) (.slice none 0 0) 0 [] rfl (Z23 _ _ _) A1 c.attr.length a1 (xs1.flatMap (fun v:V6=>v.1)) rfl (by rw [←HL1.out];exact Z08 Z44 xs1) (by rw [←HL1.out];exact ((HD1.out.new_ HNo.out.bel).new_ ((Znk _ _).drew)).news Z44 (by omega)) (Z8d _) (by have:=HL1.out;unfold maxLen;omega) (by have:=HL1.out;omega) ?_;intro vb w3 hown1 hg1 hnil1 hat1;rw [Zoa,Zo3] at hown1;obtain ⟨Ad,cd,rfl,_⟩:=Z0v hown1;have HB3:=hid (show Below wN.heap.size wN w3 from ((Znk wN.heap.size wN).drew).trans ((Znk _ _).grown hg1 (Znl _) (fun k hk=>by cases hk)));have HO3:=hid hown1
   have HA3:=hid (show AIn Ad (wN.heap.size≤·) from fun a ha=>by
    subst ha;rcases hat1 with h|h
    · cases h
    · simp only [Value.ownBlock,Option.some.injEq] at h
      exact Nat.le_of_eq h.symm)
   clear hown1 hg1 hnil1 hat1;refine hK9_ _ _ HB3.out ?_;clear hK9_ K9_;refine Z2j (fun K9_ hK9_=>?_);refine Z0f _ rfl _ _ 57 rfl 138 t0 _ 6 80 Tryz.underlying57 ht0 hy0 hyy1 hyy2 rfl (by omega) (.slice Ad c.attr.length cd) c.attr.length (xs1.flatMap (fun v:V6=>v.1)) rfl HO3.out A2 c.value.length a2 (xs2.flatMap (fun v:V6=>v.1)) rfl (by rw [←HL2.out];exact Z08 Z44 xs2) (by rw [←HL2.out];exact ((HD2.out.new_ HNo.out.bel).new_ HB3.out).news Z44 (by omega)) (Z8d _) (by have:=HL1.out;have:=HL2.out;unfold maxLen;omega) (by have:=HL1.out;have:=HL2.out;omega) ?_;intro vb w4 hown1 hg1 hnil1 hat1;rw [←Zny] at hown1;obtain ⟨Al,cl,rfl,_⟩:=Z0v hown1
   have HB4:=hid (show Below wN.heap.size wN w4 from HB3.out.grown hg1 HB3.out.size (fun k hk=>by
    cases Ad with
    | none=>cases hk
    | some a=>simp only [Value.ownBlock,Option.some.injEq] at hk;rw [←hk];exact HA3.out a rfl))
   have HO4:=hid hown1;clear hown1 hg1 hnil1 hat1 HO3 HA3 HB3;obtain ⟨tl,htl⟩:∃tl,tl=c.attr++c.value:=⟨_,rfl⟩;(have htll:c.attr.length+c.value.length=tl.length:=by rw [htl,Znp]);rw [htll] at HO4 ⊢;have HTL:=hid htl;clear htl htll;refine hK9_ _ _ HB4.out ?_;clear hK9_ K9_;(repeat ((first|(refine Z0m ?_ (Or.inl ⟨by rfl,fun w9=>?_⟩) ?_;rotate_left 1;go_simp;with_reducible rfl)|(refine Z0k ?_ (HB3.out) (Or.inl ⟨by rfl,fun w9 hw9=>?_⟩) ?_;rotate_left 1;obtain ⟨hc9,hf9⟩:=Z1e hw9;go_simp;with_reducible rfl)|refine Z0m undef (Or.inr ⟨by rfl,rfl⟩) ?_|refine Z0k undef (HB3.out) (Or.inr ⟨by rfl,rfl⟩) ?_);go_frame));refine Z16 ?_;simp only [Z04];refine hKK _ _ ?_;clear hKK KK;obtain ⟨xs,hxs⟩:∃xs,xs=xs1++xs2:=⟨_,rfl⟩;rw [←hxs] at HO4 HRW;rw [←HTL.out] at HRW;have HN4:=hid (HNo.out.new_ HB4.out);(have htc:tl.length≤2000:=by rw [HTL.out,Znp];have:=HL1.out;have:=HL2.out;omega);have HXL:=hid (show xs.length=tl.length from HRW.out.len);clear q3 q4 qz HNo hxs;go_wp2_with fail
   go_loopw [3,5] (fun v s wr=>∃(i:Nat) (out:List ByteArray) (A:Option Addr) (cp:Nat),s = .int .i64 i∧v = .slice A out.length cp∧i≤tl.length∧out = [c.id]++Z1s (tl.take i)∧RN X c A1 a1 A2 a2 A3 a3 out A cp wr∧wr.ownsRow 0 138 6 (.slice Al tl.length cl) tl.length (xs.flatMap (fun v:V6=>v.1))) (fun v s wr=>tl.length - (intOf s).toNat)
   case atStart=>exact ⟨0,[c.id],Ao,co,rfl,rfl,Nat.zero_le _,by simp [Z1s],HN4.out,HO4.out⟩
   case round=>
    obtain ⟨i,out,A,cp,rfl,rfl,hi,hout,hn,ho⟩:=hrel;have HNR:=hid hn;have HOR:=hid ho;have HOUT:=hid hout;clear hn ho hout HN4 HO4;by_cases hlt:i<tl.length
    · obtain ⟨y,hy⟩:∃y,y=tl[i]:=⟨_,rfl⟩
      have hxi:i<xs.length:=by rw [HXL.out];exact hlt
      have hrd:Z0z wr 6 (fun v:V6=>v.1) Al cl xs:=by
       have h:=HOR.out;rw [←HXL.out] at h;exact Z0d Z44 h
      obtain ⟨g,off,hA0,hg,hcel⟩:=hrd.at_ hxi;have q1:wr.cell? ⟨g,off+i*6+1,none⟩=some (.string y.var):=hcel 1 _ (by rw [(HRW.out.get hlt hxi).2,hy]);subst hA0;have HVT:=hid (show Z1s (tl.take (i+1))=Z1s (tl.take i)++oneN y.var by unfold Z1s;rw [←Z2b hlt,Zny,hy];simp)
      have hol:out.length≤100000:=by
       have h1:=Z7f (tl.take i);have h2:=HOSL.out;rw [HOUT.out,Znp];have h3:(tl.take i).length≤tl.length:=Zo2 (List.length_take_le _ _) hi;omega
      (have j1:(0:Int)≤(i:Int):=by omega);(have j2:(i:Int)<(tl.length:Int):=by omega);clear hy hrd hcel;by_cases hve:y.var.toList = []
      · have va:(y.var.toList == [])=true:=by simp [hve]
        (have vb:y.var.toList.isEmpty=true:=by simp [hve]);(have vc:decide (y.var.toList = [])=true:=by simp [hve]);have HON:=hid (show out = [c.id]++Z1s (tl.take (i+1)) by rw [HVT.out,Z7w hve,Zof];exact HOUT.out);clear hve;(go_wp2_with fail);go_roundw
        case rel=>exact ⟨i+1,out,A,cp,by go_num,rfl,by omega,HON.out,HNR.out,HOR.out⟩
        case measure=>simp [intOf]<;>omega
      · have va:(y.var.toList == [])=false:=by simp [hve]
        (have vb:y.var.toList.isEmpty=false:=by simp [hve]);(have vc:decide (y.var.toList = [])=false:=by simp [hve]);have HON:=hid (show out ++ [y.var] = [c.id]++Z1s (tl.take (i+1)) by rw [HVT.out,Z67 hve,HOUT.out];simp);clear hve;obtain ⟨Y9,hY9⟩:∃Y9,Y9=wr.alloc (.cells #[.string y.var] 9):=⟨_,rfl⟩;(have hb9:Below wr.heap.size wr Y9:=by rw [hY9];exact (Znk _ _).alloc (Znl _) _);have HY9:=hid hY9;have HN9:=hid (HNR.out.new_ hb9);have HO9:=hid (Z05 HOR.out hb9);have HW9:=hid (show 0<1→∃ad,(some (⟨wr.heap.size,0,none⟩:Addr))=some ad∧∀j u,([y.var].flatMap strC)[j]? = some u→Y9.cell? (ad.add j)=some u from fun _=>⟨_,rfl,by rw [hY9];exact Zo7 (heap_alloc_new _ _)⟩);clear hY9 hb9;(go_wp2_with (at_builtin;rw [←HY9.out];refine Z00 Y9 rfl (.tmp 33) (.tmp 39) 114 rfl 9 i0 _ 1 16 Tryz.underlying114 hi0 hz0 hz1 hz2 rfl (by decide) (.slice A out.length cp) out.length (out.flatMap strC) rfl HN9.out.own (some ⟨wr.heap.size,0,none⟩) 1 1 ([y.var].flatMap strC) rfl rfl HW9.out (Z6r _) (by unfold maxLen;omega) (by omega) ?_;intro v1 w9 hown1 hg1 hnil1 hat1;obtain ⟨A9,c9,rfl,hn9,hf9⟩:=HN9.out.app (ys:=[y.var]) hown1 hg1 hat1;have HN10:=hid hn9;have HO10:=hid (Z15 HO9.out hf9 (fun g hg e=>Zfc HO9.out HN9.out.own (by decide) hg e));clear hown1 hg1 hnil1 hat1 hn9 hf9));go_roundw
        case rel=>exact ⟨i+1,out ++ [y.var],A9,c9,by go_num,by simp,by omega,HON.out,HN10.out,HO10.out⟩
        case measure=>simp [intOf]<;>omega
    · obtain rfl:i=tl.length:=by omega
      have HOC:=hid (show out = [c.id]++(Z1s c.attr++Z1s c.value)++((c.conds.take 0).flatMap (Z0b n)) by rw [HOUT.out,Zo6,HTL.out];simp [Z1s]);clear HOUT;go_wp2_with fail
      go_loopw [3,6] (fun v s wr=>∃(i:Nat) (out:List ByteArray) (A:Option Addr) (cp:Nat),s = .int .i64 i∧v = .slice A out.length cp∧i≤c.conds.length∧out = [c.id]++(Z1s c.attr++Z1s c.value)++((c.conds.take i).flatMap (Z0b n))∧RN X c A1 a1 A2 a2 A3 a3 out A cp wr) (fun v s wr=>c.conds.length - (intOf s).toNat)
      case atStart=>exact ⟨0,out,A,cp,rfl,rfl,Nat.zero_le _,HOC.out,HNR.out⟩
      case round=>
       clear HOC HNR HOR;obtain ⟨i,out,A,cp,rfl,rfl,hi,hout,hn⟩:=hrel;have HNR:=hid hn;have HOUT:=hid hout;have q6:=(hn.blk.cell 6).trans rfl;have qz:=hn.blk.lt;clear hn hout;by_cases hlt:i<c.conds.length
       · obtain ⟨m,hnm⟩:∃m,n=m+1:=by
          cases n with
          | zero=>have:=Z7b H3.out;rw [this] at hlt;simp at hlt
          | succ m=>exact ⟨m,rfl⟩
         subst hnm;obtain ⟨y,hy⟩:∃y,y=c.conds[i]:=⟨_,rfl⟩;have hcr:=H3.out.new_ HNR.out.bel;obtain ⟨gt,ot,B1,b1_,B2,b2_,B3,b3_,hA,_,hgt,p0,p1,p2,p3,p4,p5,p6,r1,r2,r3⟩:=Z1j hcr hlt;subst hA;rw [←hy] at p0 p1 p2 p3 p4 p5 p6 r1 r2 r3;have htk:(c.conds.take (i+1)).flatMap (Z0b (m+1))=(c.conds.take i).flatMap (Z0b (m+1))++Z0b (m+1) y:=by rw [←Z2b hlt,Zny,hy];simp
         have htot:(out++Z0b (m+1) y).length≤(Z0b (m+1+1) c).length:=by
          have e:Z0b (m+1+1) c=out++Z0b (m+1) y++(c.conds.drop (i+1)).flatMap (Z0b (m+1)):=by
           rw [HOUT.out,Zoc,Zoc,←Zoc ((c.conds.take i).flatMap _),←htk,←Zny,List.take_append_drop,Z0b,←HOS.out];simp
          rw [e];simp only [Znp];omega
         rw [Znp] at htot;have hl9:=HLEN.out;have hcall:=IH.out m rfl y B1 b1_ B2 b2_ B3 b3_ D wr (HS4.out y (by rw [hy];exact Zo8 hlt)) (by omega) r1 r2 r3;obtain ⟨ns,hns⟩:∃ns,ns=Z0b (m+1) y:=⟨_,rfl⟩;rw [←hns] at hcall htk htot;have HCALL:=hid hcall;have HTK:=hid htk;(have ho1:out.length≤100000:=by omega);(have ho2:ns.length≤100000:=by omega);(have j1:(0:Int)≤(i:Int):=by omega);(have j2:(i:Int)<(c.conds.length:Int):=by omega);clear hy hcr r1 r2 r3 htk htot hcall hns hl9;(go_wp2_with fail);refine HCALL.out.mono ?_;rintro e w8 ⟨A8,c8,rfl,ho8,hA8,hb8⟩;have HO8:=hid (show Z0z w8 1 strC A8 c8 ns from Z0d Z3l ho8);have HN8:=hid (HNR.out.new_ hb8);clear ho8 hA8 hb8 p0 p1 p2 p3 p4 p5 p6 q6 qz;(go_wp2_with (at_builtin;refine Z00 w8 rfl (.tmp 48) (.tmp 54) 114 rfl 9 i0 _ 1 16 Tryz.underlying114 hi0 hz0 hz1 hz2 rfl (by decide) (.slice A out.length cp) out.length (out.flatMap strC) rfl HN8.out.own A8 ns.length c8 (ns.flatMap strC) rfl (Z08 Z3l _) (HO8.out.news Z3l (by decide)) (Z6r _) (by unfold maxLen;omega) (by omega) ?_;intro v1 w9 hown1 hg1 hnil1 hat1;obtain ⟨A9,c9,rfl,hn9,hf9⟩:=HN8.out.app hown1 hg1 hat1;have HN10:=hid hn9;clear hown1 hg1 hnil1 hat1 hn9 hf9));go_roundw
         case rel=>exact ⟨i+1,out++ns,A9,c9,by go_num,by simp,by omega,by rw [HTK.out,HOUT.out];simp,HN10.out⟩
         case measure=>simp [intOf]<;>omega
       · obtain rfl:i=c.conds.length:=by omega
         have HEN:=hid (show Z0b (n+1) c=out by rw [HOUT.out,Zo6,Z0b,←HOS.out];simp);(go_wp2_with fail);go_ret;rw [HEN.out];exact ⟨A,cp,rfl,HNR.out.own,HNR.out.ain,HNR.out.bel⟩
end
section
open Go.RowKit Go.Shelf
attribute [local go_sem] Oper.semAt_some
theorem Zad :∀n:Nat,Zgx n
 | 0=>Z9h 0 (fun m h=>by omega)
 | n+1=>Z9h (n+1) (fun m h=>by obtain rfl:n=m:=by omega
                               exact Zad n)
theorem Z0z.slot {X:World}{A:Option Addr}{c:Nat}{l:List ByteArray}(h:Z0z X 1 strC A c l){b o:Nat}{B:Option Addr}{m d:Nat}(hv:X.cell? ⟨b,o,none⟩=some (.slice B m d)) (v:Value):Z0z (X.setCell ⟨b,o,none⟩ v) 1 strC A c l:=by
 refine ⟨h.1,h.2.1,fun h0=>?_⟩;obtain ⟨b2,off,h1,h2,h3⟩:=h.2.2 h0;refine ⟨b2,off,h1,by simpa using h2,fun k hk j u hu=>?_⟩;have h4:=h3 k hk j u hu;rw [World.cell?_setCell_other]
 · exact h4
 · intro e
   rw [←e,hv] at h4;injection h4 with h4;subst h4;(obtain rfl:j=0:=by have:=(Zom.1 hu).1;simp [strC] at this;omega);simp [strC] at hu
theorem Z0z.ainG {α:Type}{size:Nat}{cells:α→List Value}{w:World}{A:Option Addr}{c:Nat}{l:List α}(h:Z0z w size cells A c l):0<l.length→AIn A (· < w.heap.size):=fun h0 a ha=>by
 obtain ⟨g,off,e,hg,_⟩:=h.at_ h0;rw [e] at ha;cases ha;exact hg
theorem Z0z.fr0 {α:Type}{size:Nat}{cells:α→List Value}{w w':World}{A:Option Addr}{c:Nat}{l:List α}{M:Nat→Prop}(h:Z0z w size cells A c l) (hF:Fr M w w') (hm:0<l.length→AIn A (fun k=>¬M k)):Z0z w' size cells A c l:=by
 by_cases h0:0<l.length
 · exact h.fr hF (hm h0)
 · exact ⟨h.1,h.2.1,fun h1=>absurd h1 h0⟩
structure MZ (c:Z0a) (B1:Option Addr) (b1:Nat) (B2:Option Addr) (b2:Nat) (B3:Option Addr) (b3:Nat) (hb:Nat) (names known:List ByteArray) (An:Option Addr) (cn:Nat) (Ak:Option Addr) (ck:Nat) (V:World) (os:List Z13) (ss:List ByteArray) (Ao:Option Addr) (co:Nat) (As:Option Addr) (cs:Nat) (X:World):Prop where
 o:X.ownsRow 0 40 4 (.slice Ao os.length co) os.length (os.flatMap Z13.cells)
 oa:AIn Ao (V.heap.size≤·)
 s:X.ownsRow 0 9 1 (.slice As ss.length cs) ss.length (ss.flatMap strC)
 sa:AIn As (V.heap.size≤·)
 b:Blk X hb 78 #[.int .i64 c.kind,.bool c.goal,.string c.id,.slice B1 c.attr.length b1,.slice B2 c.value.length b2,.bool c.acc,.slice B3 c.conds.length b3,.slice Ao os.length co]
 nm:Z0z X 1 strC An cn names
 kn:Z0z X 1 strC Ak ck known
 na:0<names.length→AIn An (· < V.heap.size)
 ka:0<known.length→AIn Ak (· < V.heap.size)
 fr:Fr (fun k=>¬(k<V.heap.size∧k≠hb)) V X
 hl:hb<V.heap.size
section
variable {c:Z0a}{B1:Option Addr}{b1:Nat}{B2:Option Addr}{b2:Nat}{B3:Option Addr}{b3:Nat}{hb:Nat}{names known:List ByteArray}{An:Option Addr}{cn:Nat}{Ak:Option Addr}{ck:Nat}{V:World}{os:List Z13}{ss:List ByteArray}{Ao:Option Addr}{co:Nat}{As:Option Addr}{cs:Nat}{X Y:World}
theorem MZ.new_ (h:MZ c B1 b1 B2 b2 B3 b3 hb names known An cn Ak ck V os ss Ao co As cs X) (hw:Below X.heap.size X Y):MZ c B1 b1 B2 b2 B3 b3 hb names known An cn Ak ck V os ss Ao co As cs Y:=
 ⟨Z05 h.o hw,h.oa,Z05 h.s hw,h.sa,h.b.new_ hw,h.nm.new_ hw,h.kn.new_ hw,h.na,h.ka,h.fr.trans (Fr.of_new hw),h.hl⟩
theorem MZ.pushS (h:MZ c B1 b1 B2 b2 B3 b3 hb names known An cn Ak ck V os ss Ao co As cs X){y:ByteArray}{v:Value}{X1:World}(hown:X1.ownsRow 0 9 1 v (ss.length+1) (ss.flatMap strC ++ [y].flatMap strC)) (hg:X.grownBy X1 (Value.slice As ss.length cs).ownBlock) (hat:v.ownBlock=(Value.slice As ss.length cs).ownBlock∨v.ownBlock=some X.heap.size) :
 ∃sn A9 c9,sn=ss ++ [y]∧v = .slice A9 sn.length c9∧MZ c B1 b1 B2 b2 B3 b3 hb names known An cn Ak ck V os sn Ao co A9 c9 X1:=by
 obtain ⟨A9,c9,rfl,hF9,hA9,hO9⟩:=Z33 (E:=fun j=>∃a,As=some a∧a.block=j) (fun a ha=>⟨a,ha,rfl⟩) hown hg hat;rw [←Zny] at hO9;(have hl:(ss ++ [y]).length=ss.length+1:=by simp);rw [←hl] at hO9 ⊢;have hlo :∀j,(∃a,As=some a∧a.block=j)→V.heap.size≤j:=fun j ⟨a,ha,e⟩=>e ▸ h.sa a ha;refine ⟨_,A9,c9,rfl,rfl,Z15 h.o hF9 (fun g hg2 ⟨a,ha,e⟩=>?_),h.oa,hO9,fun a e=>?_,h.b.grown hg (Z02 h.s h.b (by decide)),h.nm.fr0 hF9 (fun h0=>(h.na h0).mono (fun j hj hm=>by have:=hlo j hm;omega)),h.kn.fr0 hF9 (fun h0=>(h.ka h0).mono (fun j hj hm=>by have:=hlo j hm;omega)),h.na,h.ka,h.fr.trans (hF9.mono (fun k _ hk hn=>by have:=hlo k hk;omega)),h.hl⟩
 · exact Z69 h.s h.o (by decide) (by rw [ha];simp [Value.ownBlock,e]) hg2
 · rcases hA9 a e with hm|⟨h2,_⟩
   · exact hlo _ hm
   · have:=h.fr.size;show V.heap.size≤a.block;omega
theorem MZ.pushB (h:MZ c B1 b1 B2 b2 B3 b3 hb names known An cn Ak ck V os ss Ao co As cs X){y:Z13}{v:Value}{X1:World}(hown:X1.ownsRow 0 40 4 v (os.length+1) (os.flatMap Z13.cells ++ [y].flatMap Z13.cells)) (hg:X.grownBy X1 (Value.slice Ao os.length co).ownBlock) (hat:v.ownBlock=(Value.slice Ao os.length co).ownBlock∨v.ownBlock=some X.heap.size) :
 ∃on A9 c9,on=os ++ [y]∧v = .slice A9 on.length c9∧Blk X1 hb 78 #[.int .i64 c.kind,.bool c.goal,.string c.id,.slice B1 c.attr.length b1,.slice B2 c.value.length b2,.bool c.acc,.slice B3 c.conds.length b3,.slice Ao os.length co]∧MZ c B1 b1 B2 b2 B3 b3 hb names known An cn Ak ck V on ss A9 c9 As cs (X1.setCell ⟨hb,7,none⟩ v):=by
 obtain ⟨A9,c9,rfl,hF9,hA9,hO9⟩:=Z33 (E:=fun j=>∃a,Ao=some a∧a.block=j) (fun a ha=>⟨a,ha,rfl⟩) hown hg hat;rw [←Zny] at hO9;(have hl:(os ++ [y]).length=os.length+1:=by simp);rw [←hl] at hO9 ⊢;have hlo :∀j,(∃a,Ao=some a∧a.block=j)→V.heap.size≤j:=fun j ⟨a,ha,e⟩=>e ▸ h.oa a ha;have hB1:=h.b.grown hg (Z02 h.o h.b (by decide));have hS1:X1.ownsRow 0 9 1 (.slice As ss.length cs) ss.length (ss.flatMap strC):=Z15 h.s hF9 (fun g hg2 ⟨a,ha,e⟩=>Z69 h.o h.s (by decide) (by rw [ha];simp [Value.ownBlock,e]) hg2);have hN1:=h.nm.fr0 hF9 (fun h0=>(h.na h0).mono (fun j hj hm=>by have:=hlo j hm;omega));have hK1:=h.kn.fr0 hF9 (fun h0=>(h.ka h0).mono (fun j hj hm=>by have:=hlo j hm;omega));have h7:X1.cell? ⟨hb,7,none⟩=some (.slice Ao os.length co):=(hB1.cell 7).trans rfl;refine ⟨_,A9,c9,rfl,rfl,hB1,ownsRow_setCell_other (a:=⟨hb,7,none⟩) hO9 (Z02 hO9 hB1 (by decide)) _,fun a e=>?_,ownsRow_setCell_other (a:=⟨hb,7,none⟩) hS1 (Z02 hS1 hB1 (by decide)) _,h.sa,by simpa using hB1.set_ 7 (.slice A9 (os ++ [y]).length c9),hN1.slot h7 _,hK1.slot h7 _,h.na,h.ka,(h.fr.trans (hF9.mono (fun k _ hk hn=>by have:=hlo k hk;omega))).setCell (p:=⟨hb,7,none⟩) (.inl (fun hn=>hn.2 rfl)) _,h.hl⟩;rcases hA9 a e with hm|⟨h2,_⟩
 · exact hlo _ hm
 · have:=h.fr.size;show V.heap.size≤a.block;omega
end
theorem Zhl (l:List ByteArray) (v:ByteArray):inB l v=decide (v∈l):=by
 unfold inB
 induction l with
 | nil=>rfl
 | cons x l ih=>
   rw [List.any_cons,ih,←Bool.decide_or];refine decide_eq_decide.2 ⟨fun h=>h.elim (fun e=>by rw [toList_inj e];exact List.mem_cons_self) (List.mem_cons_of_mem _),fun h=>(Zo5.1 h).elim (fun e=>.inl (by rw [e])) .inr⟩
def Zlk (K:List ByteArray) (w:World) (e:Ending) (w':World):Prop:=
 ∃A c out,e = .returned (.slice A out.length c)∧Z0z w' 1 strC A c out∧(∀v,inB out v=decide (v∈K))∧out.length≤200∧Below w.heap.size w w'
theorem Ziu {D:Nat→Prop}{n:Nat}(p:Z39) (A1 A2:Option Addr) (c1 c2 i:Nat) (w:World) (h1:RowR (Z06 (n+1)) D w A1 c1 p.conds) (hi:i≤p.conds.length) (hc:(Z22 (n+1) p).2.1=0) (names:Z0a→List ByteArray) (es:List Z07) (l:List Z13) :
 Calls Tryz.prog 70 #[.agg #[.string p.name,.slice A1 p.conds.length c1,.slice A2 p.acts.length c2],.int .i64 (i:Int)] w (Zlk (Z3x names es l (p.conds.take i)).known w):=by
 obtain ⟨s1,s2⟩:=Zee hc;obtain ⟨r,hr⟩:=Zhi n 0 p.conds i;obtain ⟨k1,k2⟩:=Zjx hc names es l i;(have hfl:(Z0i (n+1) 0 (p.conds.take i)).length≤16:=by rw [hr,Znp] at s1;omega);have H1:=hid h1;have hcap:=h1.cap;have hcp:=h1.1;obtain ⟨cd,hcd⟩:∃c,c=p.conds.take i:=⟨_,rfl⟩;have hcl:cd.length=i:=by rw [hcd,Zou];omega
 have HKN:=hid (show ∀W,Below w.heap.size w W→Calls Tryz.prog 77 #[.slice A1 cd.length c1,.int .i64 ((0:Nat):Int),.slice none 0 0] W (Zam (Z12 (n+1) ([],[]) cd 0) 0 0 (Z0i (n+1) 0 cd).length W) from fun W hW=>
  Zcu (n+1) D A1 none c1 0 0 0 ([],[]) [] cd W (by rw [hcd];exact (h1.new_ hW).prefix_ i) (RowR.nil _ _ _) KRel.nil (fun z hz=>s2 z (by rw [hr,←hcd];exact List.mem_append_left _ hz)) (by rw [hcd];omega) (by rw [hcd];simp;omega))
 rw [hcl] at HKN;rw [←hcd] at k1 k2 hfl;have HK1:=hid k1;have HK2:=hid k2;clear h1 s1 s2 hr k1 k2 hcl;obtain ⟨K,hK⟩:∃K,K=Z12 (n+1) ([],[]) cd 0:=⟨_,rfl⟩;rw [←hK] at HK1 HK2 HKN;have HCD:=hid hcd;clear hK hcd;(have j1:(0:Int)≤(i:Int):=by omega);(have j2:(i:Int)≤(c1:Int):=by omega);(have hsl :∀Y,(Instr.slice 22 (.slice A1 p.conds.length c1) none (some (.int .i64 (i:Int))) none).run Tryz.prog Y = .ok (.slice A1 i c1) Y:=fun Y=>by go_simp);go_enter Tryz.func70,Tryz.ntmps70;(go_upto_region 1 with fail);obtain ⟨w1,hw1⟩:∃w1,w1=(w.alloc (.cells #[.string p.name,.slice A1 p.conds.length c1,.slice A2 p.acts.length c2] 25)):=⟨_,rfl⟩;rw [←hw1];have HB:=hid (show Below w.heap.size w w1 by rw [hw1];exact (by repeat (first|exact Znk _ _|refine Below.drew ?_|refine Below.al ?_ _|refine Below.sc ?_ _)));have Kp:=hid (show Blk w1 (w.heap.size) 25 #[.string p.name,.slice A1 p.conds.length c1,.slice A2 p.acts.length c2] by rw [hw1];exact (Blk.new w 25 #[.string p.name,.slice A1 p.conds.length c1,.slice A2 p.acts.length c2]));clear hw1;obtain ⟨p0,p1,p2⟩:=Kp.out.c3;have pz:=Kp.out.lt;(go_wp2_with fail);refine (HKN.out _ HB.out).mono ?_;rintro e w2 ⟨A,c,out,kk,rfl,hb,hy,-⟩;have hh:=hy HK1.out;have HR:=hid hh;have HB2:=hid (HB.out.trans (hb.mono HB.out.size));clear hb hy hh p0 p1 p2 pz;(go_wp2_with fail);go_ret;obtain ⟨g1,g2,g3,g4⟩:=HR.out;refine ⟨A,c,out,rfl,g2.rd,fun v=>by rw [←g1 v,HK2.out v,HCD.out],by omega,HB2.out⟩
end
end Go.Proofs.YtfidcfjcmlgkbaaGreat
