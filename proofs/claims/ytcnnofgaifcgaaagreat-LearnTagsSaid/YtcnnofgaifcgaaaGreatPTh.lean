/-
  Texts put together: VaryN3, VaryN4A, VaryN5, VaryN6, VaryC, VaryN7.
-/
import Derived.Test.YtcnnofgaifcgaaaGreatPTg
namespace Go.Proofs.YtcnnofgaifcgaaaGreat
set_option maxRecDepth 100000
set_option maxHeartbeats 32000000
set_option linter.unusedSimpArgs false
section
open Go.RowKit Go.Shelf
attribute [local go_sem] Oper.semAt_some
def Z3s (D:Nat→Prop) (w:World) (nb:Nat) (ns:List Sym) (w':World):Prop:=∃D':Nat→Prop,Nm D' w' nb ns∧(∀k,D k→D' k)∧(∀k,D' k→D k∨w.heap.size≤k)∧Fr D w w'
theorem Z3s.same {D:Nat→Prop}{w w':World}{nb:Nat}{ns:List Sym}(h:Nm D w nb ns) (hb:Below w.heap.size w w'):Z3s D w nb ns w':=⟨D,h.new_ hb,fun _ h=>h,fun _ h=>.inl h,Fr.of_new hb⟩
theorem NM.more {D:Nat→Prop}{w X Y V Z:World}{nb:Nat}{ns:List Sym}{bm bp:Nat}{sn sn':Bool}{A A':Option Addr}{cc cc':Nat}{mm:List PgS}{L L':Option Addr}{cl cl':Nat}{s:Sym}(h:NM D w nb ns bm bp sn A cc mm L cl) (hs:s ∉ ns)
 (hX:Below w.heap.size w X) (hY:Fr (fun j=>∃a,L=some a∧a.block=j) X Y) (hL:AIn L' (Plus (fun j=>∃a,L=some a∧a.block=j) X Y)) (hO:Y.ownsRow 0 41 3 (.slice L' (ns.length+1) cl') (ns.length+1) (ns.flatMap Sym.cells++(Q1c s)))
 (hV:V=Y.setCell ⟨nb,1,none⟩ (.slice L' (ns.length+1) cl')) (hS:Z35 Z bp sn' A' cc' (put Z16 mm ⟨s,(ns.length:Int)+1⟩)) (hZ:Fr (Z0w bp sn A) V Z) (hM:Z1w V sn A sn' A'):Z3s D w nb (ns ++ [s]) Z:=by
 have lx:=h.blk.new_ hX;have Da:=h.map.new_ hX;have Ss:=h.set.new_ hX;have Dz:=Z02 h.row hX;have nL :∀{t:TypeId}{cs:Array Value}{g:Nat},Blk X g t cs→41≠t→¬(∃a,L=some a∧a.block=g):=fun hg hne ⟨a,ha,e⟩=>Z01 Dz hg hne YBr;have n1:=nL lx Yc;have n2:=nL Da Yc;have n3:=nL Ss.blk Yc;have n4 :∀a,A=some a→¬(∃b,L=some b∧b.block=a.block):=fun a ha ⟨b,hb,e⟩=>Z1p Dz Ss.row Yc (k:=a.block) (by subst hb;rw [←e];rfl) (by subst ha;rfl);have dnm:=lx.ne_ Da Yc;have dnp:=lx.ne_ Ss.blk Yc;have dmp:=Da.ne_ Ss.blk Yc;have dna :∀a,A=some a→a.block≠nb:=fun a ha e=>Z01 Ss.row lx Yc YBr;have dma :∀a,A=some a→a.block≠bm:=fun a ha e=>Z01 Ss.row Da Yc YBr;have la:=Ss.row_lt;have mz :∀k,k<X.heap.size→k≠bp→(∀a,A=some a→a.block≠k)→¬Z0w bp sn A k:=fun k _ h1 h2 hm=>hm.elim h1 (fun ⟨_,a,ha,e⟩=>h2 a ha e);have hsz:=hX.size;have hyz:=hY.size;(have Pk:Blk V nb 212 #[.pointer (some ⟨bm,0,none⟩),.slice L' (ns.length+1) cl']:=by rw [hV];exact (lx.fr hY n1).set_ 1 _);(have hm1:Blk V bm 245 #[.pointer (some ⟨bp,0,none⟩)]:=by rw [hV];exact (Da.fr hY n2).far (p:=⟨nb,1,none⟩) (Ne.symm dnm) _);(have ho1:V.ownsRow 0 41 3 (.slice L' (ns.length+1) cl') (ns.length+1) (ns.flatMap Sym.cells++(Q1c s)):=by rw [hV];exact ownsRow_setCell_other (a:=⟨nb,1,none⟩) hO (Z01 hO (lx.fr hY n1) Yc) _);(have hvs:V.heap.size=Y.heap.size:=by rw [hV];simp);have hzz:=hZ.size
 have ha':AIn A' (fun k=>D k∨(w.heap.size≤k∧k<Z.heap.size)):=fun a ha=>by
  rcases hM with ⟨_,e⟩|⟨_,g,hg,e⟩
  · exact .inl (h.da a (e ▸ ha))
  · have sd:=hS.row_lt a ha
    rw [e] at ha;injection ha with ha;subst ha;exact .inr ⟨Yg,sd⟩
 have hl' :∀a,L'=some a→¬Z0w bp sn A a.block:=fun a ha hm=>by
  rcases hL a ha with hE|⟨h1,_⟩
  · rcases hm with e|⟨_,b,hb,e⟩
    · exact n3 (e ▸ hE)
    · exact n4 b hb (e ▸ hE)
  · rcases hm with e|⟨_,b,hb,e⟩
    · have:=Ss.lt;omega
    · have:=la b hb;omega
 refine ⟨fun k=>D k∨(w.heap.size≤k∧k<Z.heap.size),⟨bm,bp,sn',A',cc',_,L',cl',?_,hm1.fr hZ (mz _ Da.lt dmp dma),hS,h.ok.put hs,?_,.inl h.dn,.inl h.dm,.inl h.dp,ha',fun a ha=>?_,fun k hk=>?_⟩,fun k hk=>.inl hk,fun k hk=>hk.imp id (·.1),?_⟩
 · have:=Pk.fr hZ (mz _ lx.lt dnp dna)
   rwa [show (ns ++ [s]).length=ns.length+1 from Ye]
 · have e1:(ns ++ [s]).flatMap Sym.cells=ns.flatMap Sym.cells++(Q1c s):=by rw [Zta];rfl
   rw [show (ns ++ [s]).length=ns.length+1 from Ye,e1];refine ⟨ho1.1,ho1.2.imp id fun ⟨g,cap,cur,hv,h0,hg,hr⟩=>⟨g,cap,cur,hv,h0,?_,hr⟩⟩;injection hv with hv;exact Blk.fr (t:=41) hg hZ (hl' ⟨g,0,none⟩ hv)
 · rcases hL a ha with ⟨b,hb,e⟩|⟨h1,h2⟩
   · exact .inl (e ▸ h.dl b hb)
   · exact .inr ⟨Ya,Ya⟩
 · rcases hk with hk|hk
   · have:=h.lt k hk;omega
   · exact hk.2
 · have f1:Fr D w Y:=(Fr.of_new hX).into hY (fun k ⟨a,ha,e⟩=>.inl (e ▸ h.dl a ha))
   have f2:Fr D w V:=by rw [hV];exact f1.setCell (p:=⟨nb,1,none⟩) (.inl h.dn) _
   exact f2.into hZ (fun k hm=>by
    rcases hm with e|⟨_,a,ha,e⟩
    · exact .inl (e ▸ h.dp)
    · exact .inl (e ▸ h.da a ha))
theorem Zfv {D:Nat→Prop}{nb:Nat}{ns:List Sym}(s:Sym) (w:World) (h:Nm D w nb ns) (hl:ns.length≤1000):Calls Tryz.prog 102 #[.pointer (some ⟨nb,0,none⟩),.agg (Q1d s)] w fun e w'=>e = .returned (.tuple #[])∧Z3s D w nb (putN ns s) w':=by
 have HP:=hU (fun W (hW:Below w.heap.size w W)=>Z4d s W (h.new_ hW) Ya);refine Yvc ?_;intro HA;have HN:=hU h;by_cases hp:plV ns s=0
 · have HR:=hU (show putN ns s=ns ++ [s] by rw [putN,if_pos hp])
   have N9:=hU (Z83.1 hp);rw [hp] at HP;clear hp h;obtain ⟨j0,E6,ye,J8,Cq⟩:=infp Z8s;obtain ⟨bm,bp,sn,A,cc,mm,L,cl,tp⟩:=HN.o;have HM:=hU tp;clear HN tp;go_enter Tryz.func102,Tryz.ntmps102;go_wp2_with fail;refine Yis ?_;intro w2 hb HB;have hk:Blk w2 w.heap.size 41 (Q1d s):=(Blk.new _ _ _).new_ hb;have HK:=hU hk;obtain ⟨k0,k1,k2⟩:=hk.c3;have kz:=hk.lt;have Ts:=HM.o.blk.new_ HB.o;have m0:=(Ts.cell 0).trans rfl;have m1:=(Ts.cell 1).trans rfl;have mf:=Ts.frozen 1;have mz:=Ts.lt;have hnl:0≤ns.length:=Nat.zero_le _;clear hb hk Ts;go_upto_region 2 with fail;refine Z03 (fun w9=>Below w2.heap.size w2 w9) [(0,0),(1,0),(2,0),(3,0),(4,1),(5,1),(6,2),(7,2),(8,0),(9,0),(10,2)] Yb Yb (fun KK hKK=>?_);refine Ybp ?_;refine Ysm ?_;intro K9 hK9;obtain ⟨Y9,hY9⟩:∃Y9,Y9=(w2.alloc (.cells (Q1d s) 41)).drew:=⟨_,rfl⟩;(have Ct:Below w2.heap.size w2 Y9:=by rw [hY9];exact ((Zst _ _).alloc (Zsu _) _).drew);have Ga:=hU Ct;have md:=hU (show ∀(j:Nat) (u:Value),((Q1c s):List Value)[j]? = some u→Y9.cell? ((⟨w2.heap.size,0,none⟩:Addr).add j)=some u by rw [hY9];exact Zte (heap_alloc_new _ _));rw [←hY9];clear hY9 Ct;refine hK9 _ _ Ga.o ?_;clear hK9 K9;refine Z1m Yb (fun K9 hK9=>?_);refine Z0l _ Yd _ _ _ Yd 41 j0 _ 3 32 Tryz.underlying34 E6 ye J8 Cq rfl Ya (.slice L ns.length cl) ns.length (ns.flatMap Sym.cells) Yd (Z02 HM.o.row (HB.o.trans (Ga.o.mono HB.o.size))) _ 1 1 (Q1c s) Yd Yd (fun _=>⟨_,rfl,md.o⟩) (by intro u hu;simp only [Ztb,Zth,or_false] at hu;rcases hu with rfl|rfl|rfl<;>rfl) Yj Ya ?_;intro v2 w23 Od Cf Si Xd;obtain ⟨E2,x2,rfl,Se,yw,M4⟩:=Z2h (E:=fun j=>∃a,L=some a∧a.block=j) (fun a ha=>⟨a,ha,rfl⟩) Od Cf Xd
   have pk:=hU Se;have zx:=hU yw;have mt:=hU M4;have Ki:=(HM.o.blk.new_ (HB.o.trans (Ga.o.mono HB.o.size))).fr Se (fun ⟨a,ha,e⟩=>Z01 (Z02 HM.o.row (HB.o.trans (Ga.o.mono HB.o.size))) (HM.o.blk.new_ (HB.o.trans (Ga.o.mono HB.o.size))) Yc YBr);have qr:=hU Ki;have g1:=(Ki.cell 1).trans rfl;have pf:=Ki.frozen 1;have gz:=Ki.lt;clear Od Cf Si Xd Ki Se yw M4;refine Y8n ?_;clear hK9 K9;(repeat ((first|(refine Z05 ?_ (Or.inl ⟨Yd,fun w9=>?_⟩) ?_;rotate_left 1;go_simp;with_reducible rfl)|(refine Z04 ?_ (Ga.o) (Or.inl ⟨Yd,fun w9 hw9=>?_⟩) ?_;rotate_left 1;obtain ⟨Do,rr⟩:=Z0i hw9;go_simp;with_reducible rfl)|refine Z05 undef (Or.inr ⟨Yd,rfl⟩) ?_|refine Z04 undef (Ga.o) (Or.inr ⟨Yd,rfl⟩) ?_);go_frame));refine Y1l ?_;clear hKK KK;obtain ⟨V,hV⟩:∃V,V=w23.setCell ⟨nb,1,none⟩ (.slice E2 (ns.length+1) x2):=⟨_,rfl⟩;rw [←hV];have HV:=hU hV;have hX:=HB.o.trans (Ga.o.mono HB.o.size);(have hkV:Blk V w.heap.size 41 (Q1d s):=by rw [hV];exact ((HK.o.new_ Ga.o).fr pk.o (fun ⟨a,ha,e⟩=>by have h1:=HM.o.lt _ (HM.o.dl a ha);omega)).far (p:=⟨nb,1,none⟩) (by have h1:=HM.o.lt _ HM.o.dn;dsimp only;omega) _);(have hnV:Blk V nb 212 #[.pointer (some ⟨bm,0,none⟩),.slice E2 (ns.length+1) x2]:=by rw [hV];exact qr.o.set_ 1 _);have hxm:=HM.o.map.new_ hX;have rk:=HM.o.set.new_ hX;have hxr:=Z02 HM.o.row hX;have q2 :¬(∃a,L=some a∧a.block=bm):=fun ⟨a,ha,e⟩=>Z01 hxr hxm Yc YBr;have q3 :¬(∃a,L=some a∧a.block=bp):=fun ⟨a,ha,e⟩=>Z01 hxr rk.blk Yc YBr;have q4 :∀a,A=some a→¬(∃b,L=some b∧b.block=a.block):=fun a ha ⟨b,hb,e⟩=>Z1p hxr rk.row Yc (k:=a.block) (by subst hb;rw [←e];rfl) (by subst ha;rfl);have hmV:Blk V bm 245 #[.pointer (some ⟨bp,0,none⟩)]:=by rw [hV];exact (hxm.fr pk.o q2).far (p:=⟨nb,1,none⟩) (Ne.symm ((HM.o.blk.new_ hX).ne_ hxm Yc)) _
   have hsV:Z35 V bp sn A cc mm:=by
    (have f9:Fr (fun j=>(∃a,L=some a∧a.block=j)∨j=nb) Y9 V:=by rw [hV];exact (pk.o.mono (fun k _ hk=>.inl hk)).setCell (p:=⟨nb,1,none⟩) (.inl (.inr rfl)) _);exact rk.fr f9 (fun e=>e.elim q3 (fun e=>((HM.o.blk.new_ hX).ne_ rk.blk Yc) e.symm)) (fun a ha e=>e.elim (q4 a ha) (fun e=>Z01 rk.row (HM.o.blk.new_ hX) Yc (by subst ha;rw [←e];rfl)))
   have B8:=hU (show ∀W,Below V.heap.size V W→Calls Tryz.prog 128 #[.pointer (some ⟨bm,0,none⟩),.agg (Q1d s),.int .i64 ((ns.length:Int)+1)] W _ from fun W hW=>Zko bm bp cc sn A mm s ((ns.length:Int)+1) W (hmV.new_ hW) (hsV.new_ hW) HM.o.ok.srt (by rw [HM.o.ok.len];omega) (by rw [HM.o.ok.has];exact Zsx N9.o));obtain ⟨k0,k1,k2⟩:=hkV.c3;have kz:=hkV.lt;have m0:=(hnV.cell 0).trans rfl;have m1:=(hnV.cell 1).trans rfl;have mz:=hnV.lt;clear hV hX hkV hnV hxm rk hxr q2 q3 q4 hmV hsV g1 pf gz mf;go_upto_region 3 with fail;refine Z03 (fun w9=>Below V.heap.size V w9) [(0,0),(1,0),(2,0),(3,1),(4,1),(5,0),(6,0),(7,0),(8,1),(9,0),(10,2)] Yb Yb (fun KK hKK=>?_);refine Ygs ?_;intro K9 hK9;refine (B8.o _ ((Zst V.heap.size V).drew)).mono ?_;rintro e w5 ⟨rfl,sn',A',cc',g1,g2,g3⟩;have HG:=hU (And.intro g1 (And.intro g2 g3));clear g1 g2 g3;refine Y8n ?_;clear hK9 K9;refine Yf0 ?_;clear hKK KK;go_wp2_with fail;go_end0;rw [HR.o];obtain ⟨g1,g2,g3⟩:=HG.o;exact ⟨rfl,HM.o.more N9.o (HB.o.trans (Ga.o.mono HB.o.size)) pk.o zx.o mt.o HV.o g1 ((Fr.refl _ V).drew.trans g2) g3⟩
 · have HR:=hU (show putN ns s=ns by rw [putN,if_neg hp])
   obtain ⟨r,hr⟩:∃r,r=plV ns s:=⟨_,rfl⟩;rw [←hr] at HP;have r1:((r:Int) == 0)=false:=Yk;have r2 :¬(r:Int)=0:=Ya;have r3 :¬r=0:=Ya;clear hp hr h;go_enter Tryz.func102,Tryz.ntmps102;go_wp2_with fail;refine Yis ?_;intro w2 hb HB;clear hb;go_wp2_with fail;go_end0;exact ⟨rfl,by rw [HR.o];exact Z3s.same HN.o HB.o⟩
theorem Zhb:(Tryz.prog.info? 50).map (fun i=>(i.zero,i.size,i.bytes))=some (some (.agg Q2m),12,112):=Yb
theorem Z9h (l:List Elem):∀u∈l.flatMap Elem.cells,u.oneCell'=true:=by
 intro u hu;obtain ⟨b,_,hb⟩:=List.mem_flatMap.1 hu;simp only [Elem.cells,Ztb,Zth,or_false] at hb;rcases hb with rfl|rfl|rfl|rfl|rfl|rfl|rfl|rfl|rfl|rfl|rfl|rfl<;>rfl
theorem Zem {n c j:Nat}(A:Option Addr) (hj:j≤n) (Y:World):(Instr.slice 74 (.slice A n c) (some (.int .i64 (j:Int))) none none).run Tryz.prog Y = .ok (.slice (if c=j then A else A.map (·.add (j*12))) (n - j) (c - j)) Y:=by
 have hl0:(0:Int)≤(j:Int):=Ya;have hl1:(j:Int)≤(n:Int):=Ya;go_simp
theorem Zjp {n c j:Nat}(A:Option Addr) (hj:j≤c) (Y:World):(Instr.slice 74 (.slice A n c) none (some (.int .i64 (j:Int))) none).run Tryz.prog Y = .ok (.slice A j c) Y:=by
 have hl0:(0:Int)≤(j:Int):=Ya;have hl1:(j:Int)≤(c:Int):=Ya;go_simp
theorem Zmf {w:World}{b e s n:Nat}{v:Value}{xs:List Value}(h:w.ownsRow b e s v n xs):w.drew.ownsRow b e s v n xs:=h
theorem Zme {w:World}{n c k:Nat}{A:Option Addr}{l:List Elem}(h:w.ownsRow 0 50 12 (.slice A n c) n (l.flatMap Elem.cells)) (hl:l.length=n) (hk:k<n):w.ownsRow 0 50 12 (.slice A k c) k ((l.take k).flatMap Elem.cells):=by
 rcases Z0f h with ⟨hv,hn,_⟩|⟨g,cap,hv,_⟩
 · omega
 · injection hv with hA _ hc
   subst hA;subst hc;exact Z7e Elem.cells_length Yc h Ya hl
theorem Z0y.suffixE {α:Type}{w:World}{size c:Nat}{cells:α→List Value}{A:Option Addr}{l:List α}(h:Z0y w size cells A c l) (i:Nat) (hi:i≤l.length) :
 Z0y w size cells (if c=i then A else A.map (·.add (i*size))) (c - i) (l.drop i):=by
 refine ⟨by simp;have:=h.1;omega,by have:=h.2.1;omega,fun h0=>?_⟩;rw [List.length_drop] at h0;obtain ⟨b,off,rfl,hb,hc⟩:=h.2.2 Ya;have h1:=h.1;rw [if_neg Ya];refine ⟨b,off+i*size,by simp [Go.WideShapes.add_plain],hb,fun k hk j u hu=>?_⟩;rw [List.length_drop] at hk;have:=hc (i+k) Ya j u (by rw [←hu];simp);rw [Nat.add_mul] at this;rw [←this];congr 2;omega
def Zf6:Option Nat→Int
 | none=>-1
 | some k=>(k:Int)
theorem Zia {ns:List Sym}{left:List Elem}{i:Nat}{y:Elem}(hy:left[i]? = some y) (h:canN ns y=false):Z50 ns left (i+1)=Z50 ns left i:=by
 rw [Z50,hy];simp only;rw [if_neg (by rw [h];decide)]
theorem Z9o {ns:List Sym}{left:List Elem}{i:Nat}{y:Elem}(hy:left[i]? = some y) (h:canN ns y=true) (hb:Z50 ns left i=none):Z50 ns left (i+1)=some i:=by
 rw [Z50,hy];simp only;rw [if_pos h,hb]
theorem Zaw {ns:List Sym}{left:List Elem}{i k:Nat}{y b:Elem}(hy:left[i]? = some y) (h:canN ns y=true) (hb:Z50 ns left i=some k) (hk:left[k]? = some b) (v:Bool) (hv:Z9m ns y b=v):Z50 ns left (i+1)=some (if v=true then i else k):=by
 rw [Z50,hy];simp only;rw [if_pos h,hb];simp only;rw [hk];simp only;rw [hv];cases v<;>rfl
def lenV:Value→Nat
 | .slice _ n _=>n
 | _=>0
structure LS (X:World) (nb:Nat) (ns:List Sym) (left out:List Elem) (AL:Option Addr) (cL:Nat) (AO:Option Addr) (cO:Nat) (D:Nat→Prop) (w:World):Prop where
 nm:Nm D w nb ns
 dn :∀k,D k→X.heap.size≤k
 lo:w.ownsRow 0 50 12 (.slice AL left.length cL) left.length (left.flatMap Elem.cells)
 la:AIn AL (fun k=>X.heap.size≤k∧¬D k)
 oo:w.ownsRow 0 50 12 (.slice AO out.length cO) out.length (out.flatMap Elem.cells)
 oa:AIn AO (fun k=>X.heap.size≤k∧¬D k)
 ne :∀a b,AL=some a→AO=some b→a.block≠b.block
 bel:Below X.heap.size X w
section
variable {X w w':World}{nb:Nat}{ns ns':List Sym}{left out:List Elem}{AL:Option Addr}{cL:Nat}{AO:Option Addr}{cO:Nat}{D:Nat→Prop}
theorem Z8z {e:TypeId}{size n c:Nat}{A:Option Addr}{xs:List Value}(h:w.ownsRow 0 e size (.slice A n c) n xs):∀a,A=some a→a.block<w.heap.size:=fun a ha=>Z3i h a.block (by subst ha;rfl)
theorem LS.new_ (h:LS X nb ns left out AL cL AO cO D w) (hb:Below w.heap.size w w'):LS X nb ns left out AL cL AO cO D w':=
 ⟨h.nm.new_ hb,h.dn,Z02 h.lo hb,h.la,Z02 h.oo hb,h.oa,h.ne,h.bel.trans (hb.mono h.bel.size)⟩
theorem LS.put (h:LS X nb ns left out AL cL AO cO D w) (hp:Z3s D w nb ns' w'):∃D',LS X nb ns' left out AL cL AO cO D' w':=by
 obtain ⟨D',h1,h2,h3,h4⟩:=hp;have Sd:=h.bel.size;have far :∀{A:Option Addr}{n c:Nat}{xs:List Value},w.ownsRow 0 50 12 (.slice A n c) n xs→AIn A (fun k=>X.heap.size≤k∧¬D k)→AIn A (fun k=>X.heap.size≤k∧¬D' k):=fun ho hA a ha=>⟨(hA a ha).1,fun hd=>(h3 _ hd).elim (hA a ha).2 (fun h5=>by have:=Z8z ho a ha;omega)⟩
 have Od :∀{A:Option Addr}{n c:Nat}{xs:List Value},w.ownsRow 0 50 12 (.slice A n c) n xs→AIn A (fun k=>X.heap.size≤k∧¬D k)→w'.ownsRow 0 50 12 (.slice A n c) n xs:=fun {A}{n c xs} ho hA=>Z0s ho h4 (fun g hg hd=>by
  cases A with
  | none=>cases hg
  | some a=>injection hg with hg;exact (hA a rfl).2 (hg ▸ hd))
 exact ⟨D',h1,fun k hk=>(h3 k hk).elim (h.dn k) (fun h5=>Ya),Od h.lo h.la,far h.lo h.la,Od h.oo h.oa,far h.oo h.oa,h.ne,h.bel.trans (h4.below Sd (fun k hk hd=>by have:=h.dn k hd;omega))⟩
theorem LS.cut (h:LS X nb ns left out AL cL AO cO D w){k:Nat}(hk:k<left.length){v:Value}(hown:w'.ownsRow 0 50 12 v (k+(left.drop (k+1)).length) ((left.take k).flatMap Elem.cells++(left.drop (k+1)).flatMap Elem.cells))
 (hg:w.grownBy w' (Value.slice AL k cL).ownBlock) (hat:v.ownBlock=(Value.slice AL k cL).ownBlock∨v.ownBlock=some w.heap.size):∃A' c',v = .slice A' (left.eraseIdx k).length c'∧LS X nb ns (left.eraseIdx k) out A' c' AO cO D w'∧Fr (fun j=>∃a,AL=some a∧a.block=j) w w':=by
 obtain ⟨A',c',rfl,hF,hA,hO⟩:=Z2h (E:=fun j=>∃a,AL=some a∧a.block=j) (fun a ha=>⟨a,ha,rfl⟩) hown hg hat;have e1:left.eraseIdx k=left.take k++left.drop (k+1):=List.eraseIdx_eq_take_drop_succ left k;(have e2:(left.eraseIdx k).length=k+(left.drop (k+1)).length:=by rw [e1,Ztd,Zu3,Nat.min_eq_left Ya]);have Sd:=h.bel.size;refine ⟨A',c',by rw [e2],⟨h.nm.fr hF (fun j hj ⟨a,ha,e⟩=>(h.la a ha).2 (e ▸ hj)),h.dn,by rw [e2,e1,Zta];exact hO,fun a ha=>?_,Z0s h.oo hF (fun g hg ⟨a,ha,e⟩=>?_),h.oa,fun a b ha hb=>?_,h.bel.trans (hF.below Sd (fun j hj ⟨a,ha,e⟩=>by have:=(h.la a ha).1;omega))⟩,hF⟩
 · rcases hA a ha with ⟨b,hb,e⟩|⟨h1,_⟩
   · rw [←e];exact h.la b hb
   · exact ⟨Ya,fun hd=>YSh⟩
 · cases AO with
   | none=>cases hg
   | some b=>injection hg with hg;exact h.ne a b ha rfl (e.trans hg.symm)
 · rcases hA a ha with ⟨b',hb',e⟩|⟨h1,_⟩
   · rw [←e];exact h.ne b' b hb' hb
   · have:=Z8z h.oo b hb;omega
theorem LS.more (h:LS X nb ns left out AL cL AO cO D w){e:Elem}{v:Value}(hown:w'.ownsRow 0 50 12 v (out.length+1) (out.flatMap Elem.cells ++ [e].flatMap Elem.cells))
 (hg:w.grownBy w' (Value.slice AO out.length cO).ownBlock) (hat:v.ownBlock=(Value.slice AO out.length cO).ownBlock∨v.ownBlock=some w.heap.size):∃A' c',v = .slice A' (out ++ [e]).length c'∧LS X nb ns left (out ++ [e]) AL cL A' c' D w'∧Fr (fun j=>∃a,AO=some a∧a.block=j) w w':=by
 obtain ⟨A',c',rfl,hF,hA,hO⟩:=Z2h (E:=fun j=>∃a,AO=some a∧a.block=j) (fun a ha=>⟨a,ha,rfl⟩) hown hg hat;have e2:(out ++ [e]).length=out.length+1:=Ye;have Sd:=h.bel.size;refine ⟨A',c',by rw [e2],⟨h.nm.fr hF (fun j hj ⟨a,ha,e⟩=>(h.oa a ha).2 (e ▸ hj)),h.dn,Z0s h.lo hF (fun g hg ⟨a,ha,e⟩=>?_),h.la,YEk,fun a ha=>?_,fun a b ha hb=>?_,h.bel.trans (hF.below Sd (fun j hj ⟨a,ha,e⟩=>by have:=(h.oa a ha).1;omega))⟩,hF⟩
 · cases AL with
   | none=>cases hg
   | some b=>injection hg with hg;exact h.ne b a rfl ha (hg.trans e.symm)
 · rcases hA a ha with ⟨b,hb,e⟩|⟨h1,_⟩
   · rw [←e];exact h.oa b hb
   · exact ⟨Ya,fun hd=>YSh⟩
 · rcases hA b hb with ⟨b',hb',e⟩|⟨h1,_⟩
   · rw [←e];exact h.ne a b' ha hb'
   · have:=Z8z h.lo a ha;omega
theorem LS.at_ (h:LS X nb ns left out AL cL AO cO D w){i:Nat}(hi:i<left.length):∃g off,AL=some ⟨g,off,none⟩∧g<w.heap.size∧w.rangeAt g (off+i*12) (Elem.cells left[i]):=by
 obtain ⟨b,off,h1,h2,h3⟩:=(Z0e Elem.cells_length h.lo).at_ hi;exact ⟨b,off,h1,h2,fun j u hu=>h3 j u hu⟩
end
def Z7c (l:List Elem) (w:World) (e:Ending) (w':World):Prop:=Below w.heap.size w w'∧
 match Z5d l with
 | none=>e = .returned (.tuple #[.slice none 0 0,.pointer none,.bool false])
 | some (o,ns)=>∃A c nb D,e = .returned (.tuple #[.slice A o.length c,.pointer (some ⟨nb,0,none⟩),.bool true])∧w'.ownsRow 0 50 12 (.slice A o.length c) o.length (o.flatMap Elem.cells)∧AIn A (fun k=>w.heap.size≤k∧¬D k)∧Nm D w' nb ns∧∀k,D k→w.heap.size≤k
theorem Z7c.no {l:List Elem}{w w':World}(h:Z5d l=none) (hb:Below w.heap.size w w'):Z7c l w (.returned (.tuple #[.slice none 0 0,.pointer none,.bool false])) w':=by
 refine ⟨hb,?_⟩;rw [h]
theorem Z7c.yes {l o left:List Elem}{X w:World}{nb:Nat}{ns:List Sym}{AL:Option Addr}{cL:Nat}{AO:Option Addr}{cO:Nat}{D:Nat→Prop}(h:Z5d l=some (o,ns)) (hs:LS X nb ns left o AL cL AO cO D w):Z7c l X (.returned (.tuple #[.slice AO o.length cO,.pointer (some ⟨nb,0,none⟩),.bool true])) w:=by
 refine ⟨hs.bel,?_⟩;rw [h];exact ⟨AO,cO,nb,D,rfl,hs.oo,hs.oa,hs.nm,hs.dn⟩
end
section
open Go.RowKit Go.Shelf
attribute [local go_sem] Oper.semAt_some
theorem Zev (n:Nat) (h :¬n<10) (hn:n<9223372036854775808) (ih :∀w,Calls Tryz.prog 157 #[.int .i64 ((n / 10:Nat):Int)] w fun e w'=>e = .returned (.string (decB (n / 10)))∧Below w.heap.size w w') (w:World):Calls Tryz.prog 157 #[.int .i64 n] w fun e w'=>e = .returned (.string (decB n))∧Below w.heap.size w w':=by
 refine Yow ?_;intro t1 b0 b1 hc e1 e2 m0 m1 m hm q hq;rw [←hm] at hc e2 m0 m1;rw [←hq] at e1 ih;(have HD:Hq (decB n=decB q++Z79 m):=by rw [decB,if_neg h,hm,hq];rfl);refine Y76 ?_;intro v1 v2 v3 v4;(have hz :¬9223372036854775807<(decB q).size+(Z79 m).size:=by have:=Z6p (n:=q) Ya;rw [Z71];omega);clear e2;have IH:=hU ih;have HC:=hU hc;clear ih h hm hq hc;go_enter Tryz.func157,Tryz.ntmps157;exact Ysd
theorem Zeu (n:Nat) (h:n<10) (w:World):Calls Tryz.prog 157 #[.int .i64 n] w fun e w'=>e = .returned (.string (decB n))∧Below w.heap.size w w':=by
 refine Yu1 ?_;intro t1 b0 b1 hc;(have HD:Hq (decB n=Z79 n):=by rw [decB,if_pos h];rfl);clear h;go_enter Tryz.func157,Tryz.ntmps157;go_wp2_with fail;go_ret;exact ⟨YCo,(Zst _ _).alloc (Zsu _) _⟩
theorem Zbg (n:Nat) (hn:n<9223372036854775808) (w:World):Calls Tryz.prog 157 #[.int .i64 n] w fun e w'=>e = .returned (.string (decB n))∧Below w.heap.size w w':=by
 induction n using Nat.strongRecOn generalizing w with
 | _ n ih=>
   by_cases h:n<10
   · exact Zeu n h w
   · exact Zev n h hn (fun w=>ih (n / 10) Ya Ya w) w
theorem tl1 (c:UInt8):(⟨#[c]⟩:ByteArray).toList = [c]:=Yb
theorem Z82 {t:ByteArray}(h:t.size=1):t.toList = [t[0]]:=by
 obtain ⟨⟨l⟩⟩:=t
 match l,h with
 | [c],_=>exact tl1 c
def chB (d:Nat):ByteArray:=⟨#[UInt8.ofNat d]⟩
theorem Zo1 (d:Nat):(chB d).size=1:=rfl
theorem Zso (d:Nat) (h:d<256) (W:World) (g:Nat) (hc:W.cell? ⟨g,0,none⟩=some (.int .u8 (d:Int))):(convert 234 9 (.slice (some ⟨g,0,none⟩) 1 1)).run Tryz.prog W = .ok (.string (chB d)) W:=
 Lib.run_convert_whole (P:=Tryz.prog) W 234 5 9 Tryz.underlying234 Tryz.underlying5 Tryz.underlying9 g 0 (chB d) (fun i hi=>by
  (have:i=0:=by have:(chB d).size=1:=rfl;omega);subst this;rw [Nat.add_zero,hc];have e:(chB d)[0].toNat=d:=by show (UInt8.ofNat d).toNat=d;simp;omega
  rw [e]) 1
theorem Z73 {s:Sym}{n:Int}(h:letV s=none):Z3y s n=⟨#[]⟩:=by
 unfold Z3y;split;rfl;rw [h]
theorem Zlz {s:Sym}{n:Int}(h:n<1):Z3y s n=⟨#[]⟩:=by unfold Z3y;rw [if_pos h]
theorem Zli {s:Sym}(h:s.kind≠1):letV s=none:=by unfold letV;rw [if_neg (fun e=>h e.1)]
theorem Zlj {s:Sym}(h:s.text.size≠1):letV s=none:=by unfold letV;rw [if_neg (fun e=>h e.2.1)]
theorem Zow {s:Sym}(h:s.text.size=1) (h2:s.text[0].toNat<65):letV s=none:=by
 unfold letV;rw [if_neg];rintro ⟨_,_,e,_⟩;rw [Z82 h] at e;simp at e;omega
theorem Zlh {s:Sym}(h:s.text.size=1) (h2:90<s.text[0].toNat):letV s=none:=by
 unfold letV;rw [if_neg];rintro ⟨_,_,_,e⟩;rw [Z82 h] at e;simp at e;omega
theorem Zm0 {s:Sym}{k:Nat}(hk:s.kind=1) (h:s.text.size=1) (h1:65≤s.text[0].toNat) (h2:s.text[0].toNat≤90) (hn:1≤k) (hm:k<9223372036854775808):Z3y s (k:Int)=chB (s.text[0].toNat+32)++decB k:=by
 have e:letV s=some s.text[0]:=by
  unfold letV;rw [if_pos ⟨hk,h,by rw [Z82 h];simpa using h1,by rw [Z82 h];simpa using h2⟩,Z82 h];rfl
 unfold Z3y;rw [if_neg Ya,e];simp only;rw [show (k:Int).toNat=k from rfl,Zkz hm];congr 1;unfold chB
 have e2:(s.text[0]' Ya:UInt8) - (65:UInt8)+(97:UInt8)=UInt8.ofNat (s.text[0].toNat+32):=by
  apply UInt8.toNat_inj.1;rw [UInt8.toNat_add,UInt8.toNat_sub];simp;omega
 rw [e2]
theorem Zps (s:Sym) (n:Int) (hn:n<9223372036854775808) (w:World):Calls Tryz.prog 131 #[.agg (Q1d s),.int .i64 n] w fun e w'=>e = .returned (.string (Z3y s n))∧Below w.heap.size w w':=by
 refine Yvc ?_;intro HA;obtain ⟨v,hv⟩:∃v,v=Z3y s n:=⟨_,rfl⟩;rw [←hv];by_cases k1:s.kind=1
 case neg=>
  have HV:=hU (show v=⟨#[]⟩ from hv.trans (Z73 (Zli k1)));(have e1:(s.kind != 1)=true:=by simp [k1]);exact Yzd
 by_cases k2:s.text.size=1
 case neg=>
  have HV:=hU (show v=⟨#[]⟩ from hv.trans (Z73 (Zlj k2)));(have e1:(s.kind != 1)=false:=by simp [k1]);have e2:((s.text.size:Int) != 1)=true:=Yk;exact Yzd
 (have e1:(s.kind != 1)=false:=by simp [k1]);have e2:((s.text.size:Int) != 1)=false:=Yk;have h0:0<s.text.size:=Ya;by_cases k3:s.text[0].toNat<65
 case pos=>
  have HV:=hU (show v=⟨#[]⟩ from hv.trans (Z73 (Zow k2 k3)));have e3:decide ((s.text[0].toNat:Int)<65)=true:=Yk;have e4:(s.text[0].toNat:Int)<65:=Ya;exact Yzd
 have e3:decide ((s.text[0].toNat:Int)<65)=false:=Yk;have e4 :¬(s.text[0].toNat:Int)<65:=Ya;by_cases k4:90<s.text[0].toNat
 case pos=>
  have HV:=hU (show v=⟨#[]⟩ from hv.trans (Z73 (Zlh k2 k4)));have e5:decide (90<(s.text[0].toNat:Int))=true:=Yk;have e6:90<(s.text[0].toNat:Int):=Ya;exact Yzd
 have e5:decide (90<(s.text[0].toNat:Int))=false:=Yk;have e6 :¬90<(s.text[0].toNat:Int):=Ya;by_cases k5:n<1
 case pos=>
  have HV:=hU (show v=⟨#[]⟩ from hv.trans (Zlz k5));(have e7:decide (n<1)=true:=by simpa using k5);exact Yzd
 (have e7:decide (n<1)=false:=by simpa using k5);obtain ⟨k,It⟩:∃k:Nat,n=(k:Int):=⟨n.toNat,Ya⟩;have HKN:=hU It;have HV:=hU (show v=chB (s.text[0].toNat+32)++decB k from hv.trans (by rw [It];exact Zm0 k1 k2 Ya Ya Ya Ya));obtain ⟨d,hd⟩:∃d,d=s.text[0].toNat+32:=⟨_,rfl⟩;rw [←hd] at HV;have v3:IntKind.u8.wrap ((s.text[0].toNat:Int) - 65)=(s.text[0].toNat:Int) - 65:=YR4;have v4:IntKind.u8.wrap ((s.text[0].toNat:Int) - 65+97)=(d:Int):=YR4;have HC:=hU (Zso d Ya);(have hz :¬9223372036854775807<(chB d).size+(decB k).size:=by have:=Z6p (n:=k) Ya;rw [Zo1];omega);have xw:=hU (Zbg k Ya);have HX:=hU (And.intro v3 (And.intro v4 hz));clear hv k1 k2 k3 k4 hd v3 v4 hz It;go_enter Tryz.func131,Tryz.ntmps131;go_upto_region 3 with fail;obtain ⟨w1,Fg⟩:∃w1,w1=w.alloc (.cells (Q1d s) 41):=⟨_,rfl⟩;rw [←Fg] at HA;have HK:=hU (show Blk w1 w.heap.size 41 (Q1d s) by rw [Fg];exact Blk.new _ _ _);obtain ⟨c0,c1,c2⟩:=HK.o.c3;have cz:=HK.o.lt;rw [←Fg];obtain ⟨v3,v4,hz⟩:=HX.o;have It:=HKN.o;subst It;clear Fg e1 e2 e3 e4 e5 e6 e7 HX HKN k5;refine Z1g (fun w9=>Below w1.heap.size w1 w9) [0,1,2,3,4,7,9,10] [1] (.fork [(0,0),(1,1),(2,0),(3,0),(4,0),(7,0)] 5 (.fork [] 6 (.fin [(8,2),(9,0),(10,0)]) 8 (.fin [(6,2),(9,0),(10,0)])) 8 (.fin [(5,2),(6,2),(9,0),(10,0)])) Yb Yb Yb (fun KK hKK=>?_);refine Ypt ?_;refine Ydr ?_;refine Z0p ⟨?_,?_⟩
 · refine Y03 ?_;intro K9 hK9;obtain ⟨V2,hV⟩:∃V,V=(w1.alloc (.cells #[.int .u8 (d:Int)] 5)).drew:=⟨_,rfl⟩;(have lg:Below w1.heap.size w1 V2:=by rw [hV];exact ((Zst w1.heap.size w1).alloc (Zsu _) _).drew);(have KA:Blk V2 w1.heap.size 5 #[.int .u8 (d:Int)]:=by rw [hV];exact Blk.new _ _ _);have KAc:=KA.c1;have KAH:=hU KA;rw [←hV];clear hV KA;have hc:=HC.o V2 _ KAc;refine hK9 _ _ (fun _=>lg) ?_;clear hK9 K9;refine Ymp ?_;refine Z0p ⟨?_,?_⟩
   · refine Y03 ?_;intro K9 hK9;refine hK9 _ _ (fun _=>lg) ?_;clear hK9 K9;refine Ymp ?_;refine Z1n (fun K9 hK9=>?_);go_simp;refine Yp7 ?_;intro V3 Ri hc;exact Ypu
   · refine Y03 ?_;intro K9 hK9;refine Yp7 ?_;intro V3 Ri hc;refine hK9 _ _ (fun _=>Ri) ?_;clear hK9 K9;refine Ymp ?_;refine Z1n (fun K9 hK9=>?_);go_simp;exact Ypu
 · refine Y03 ?_;intro K9 hK9;refine (xw.o _).mono ?_;rintro e V2 ⟨rfl,hb⟩;have lg:Below w1.heap.size w1 V2:=((Zst w1.heap.size w1).drew).trans (hb.mono ((Zst w1.heap.size w1).drew).size);clear hb;refine hK9 _ _ (fun _=>lg) ?_;clear hK9 K9;refine Ymp ?_;refine Z1n (fun K9 hK9=>?_);go_simp;obtain ⟨V3,hV⟩:∃V,V=V2.alloc (.cells #[.int .u8 (d:Int)] 5):=⟨_,rfl⟩;(have Ri:Below w1.heap.size w1 V3:=by rw [hV];exact (lg).alloc (lg).size _);(have KA:Blk V3 V2.heap.size 5 #[.int .u8 (d:Int)]:=by rw [hV];exact Blk.new _ _ _);have KAc:=KA.c1;have KAH:=hU KA;rw [←hV];clear hV KA;have hc:=HC.o V3 _ KAc;refine hK9 _ _ (Ri) ?_;clear hK9 K9;(try go_frame);refine Z1n (fun K9 hK9=>?_);go_simp;exact Ypu
theorem Zs3 {B:Nat}{W w1:World}(hb:Below B W w1):(∀b o,b<B→w1.cell? ⟨b,o,none⟩=W.cell? ⟨b,o,none⟩)∧(∀b o,b<B→w1.frozen? ⟨b,o,none⟩=W.frozen? ⟨b,o,none⟩):=
 ⟨fun b o h=>hb.cell (p:=⟨b,o,none⟩) h,fun b o h=>hb.frozen (p:=⟨b,o,none⟩) h⟩
def MK (w:World) (mb nb:Nat):Prop:=w.cell? ⟨mb,0,none⟩=some (.pointer (some ⟨nb,0,none⟩))∧mb<w.heap.size
theorem MK.new_ {w w':World}{mb nb:Nat}(h:MK w mb nb) (hb:Below w.heap.size w w'):MK w' mb nb:=⟨(hb.cell (p:=⟨mb,0,none⟩) h.2).trans h.1,Zsw h.2 hb.size⟩
theorem MK.fr {M:Nat→Prop}{w w':World}{mb nb:Nat}(h:MK w mb nb) (hb:Fr M w w') (hm :¬M mb):MK w' mb nb:=⟨(hb.cell (p:=⟨mb,0,none⟩) h.2 hm).trans h.1,Zsw h.2 hb.size⟩
theorem Z81 {D:Nat→Prop}{nb mb:Nat}{ns:List Sym}(s:Sym) (w:World) (h:Nm D w nb ns) (hm:MK w mb nb) (hl:ns.length≤1000):Calls Tryz.prog 104 #[.pointer (some ⟨mb,0,none⟩),.agg (Q1d s)] w fun e w'=>e = .returned (.string (Z3y s (plV ns s:Int)))∧Below w.heap.size w w':=by
 have HP:=hU (fun W (hW:Below w.heap.size w W)=>Z4d s W (h.new_ hW) Ya);have HV:=hU (show ∀W,Calls Tryz.prog 131 #[.agg (Q1d s),.int .i64 (plV ns s:Int)] W fun e w'=>e = .returned (.string (Z3y s (plV ns s:Int)))∧Below W.heap.size W w' from fun W=>Zps s _ (by have:=Zq3 s ns;omega) W);obtain ⟨r,hr⟩:∃r,r=(plV ns s:Int):=⟨_,rfl⟩;rw [←hr] at HP HV ⊢;have HM:=hU hm;obtain ⟨m0,mz⟩:=hm;clear h hl hr;go_enter Tryz.func104,Tryz.ntmps104;go_upto_region 1 with fail;refine Ytp ?_;intro w1 HB Kk k0 k1 k2 kz;have m1:=(HM.o.new_ HB.o).1;have mz1:=(HM.o.new_ HB.o).2;clear m0 mz;refine Z03 (fun w9=>Below w1.heap.size w1 w9) [(0,1),(1,0),(2,0),(3,0),(4,1),(5,1),(6,2),(7,2),(8,0)] Yb Yb (fun KK hKK=>?_);refine Ybp ?_;refine Yeh ?_;intro w5 Xp;refine Yll ?_;intro K9 hK9;refine (HV.o _).mono ?_;rintro e w6 ⟨rfl,un⟩;have gi:=hU (Xp.o.trans (un.mono Xp.o.size));clear un;refine Y8n ?_;clear hK9 K9;refine Y8u ?_;refine Yf0 ?_;clear hKK KK;clear k0 k1 k2 m1;go_wp2_with fail;go_ret;exact ⟨rfl,HB.o.trans (gi.o.mono HB.o.size)⟩
theorem Zc2 {D:Nat→Prop}{nb mb:Nat}{ns:List Sym}(rel:Int) (s:Sym) (w:World) (h:Nm D w nb ns) (hm:MK w mb nb) (hl:ns.length≤1000):Calls Tryz.prog 105 #[.pointer (some ⟨mb,0,none⟩),.int .i64 rel,.agg (Q1d s)] w fun e w'=>e = .returned (.agg #[.int .i64 (Z2x ns rel s).rel,.string (Z2x ns rel s).var,.int .i64 (Z2x ns rel s).sym.kind,.string (Z2x ns rel s).sym.text,.int .i64 (Z2x ns rel s).sym.n,.slice none 0 0])∧Below w.heap.size w w':=by
 obtain ⟨t,ht⟩:∃t,t=Z2x ns rel s:=⟨_,rfl⟩;rw [←ht];have HV:=hU (show ∀W,Below w.heap.size w W→Calls Tryz.prog 104 #[.pointer (some ⟨mb,0,none⟩),.agg (Q1d s)] W fun e w'=>e = .returned (.string (Z3y s (plV ns s:Int)))∧Below W.heap.size W w' from fun W hW=>Z81 s W (h.new_ hW) (hm.new_ hW) hl);obtain ⟨W1,Wo⟩:∃W,W=(w.alloc (.cells (Q1d s) 41)).alloc (.cells Q2f 196):=⟨_,rfl⟩;have hK:Blk W1 w.heap.size 41 (Q1d s):=YLa;(have hR:Blk W1 (w.heap.size+1) 196 Q2f:=by rw [Wo];have hh:=Blk.new (w.alloc (.cells (Q1d s) 41)) 196 Q2f;simp only [Zti] at hh;exact hh);have hB:Below w.heap.size w W1:=Y6;have HB:=hU hB;have HK:=hU hK;have HR:=hU hR;obtain ⟨k0,k1,k2⟩:=hK.c3;have kz:=hK.lt;clear hR hB hK h hm hl;by_cases h1:s.kind=1
 · skip
   obtain ⟨nv,zw⟩:∃nv,nv=Z3y s (plV ns s:Int):=⟨_,rfl⟩;have ij:=hU (show t=⟨rel,nv,symZ,[]⟩ by rw [ht,Z2x,if_pos h1,zw]);rw [←zw] at HV;have e1:(s.kind == 1)=true:=YJc;have e2:decide (s.kind=1)=true:=YJc;clear h1 ht zw;go_enter Tryz.func105,Tryz.ntmps105;go_upto_region 1 with fail;rw [←Wo];clear Wo;go_wp2_with fail;refine (HV.o _ HB.o).mono ?_;rintro e w5 ⟨rfl,ww⟩;have HT:=hU (show w5.there (w.heap.size+1) 0 (#[.int .i64 rel,.string nv,.int .i64 0,.string ⟨#[]⟩,.int .i64 0,.slice none 0 0]:Array Value).size from (HR.o.new_ ww).there);have Xp:=hU (HB.o.trans (ww.mono HB.o.size));clear ww k0 k1 k2 kz;(go_wp2_with (with_reducible refine wpList_store_mid rfl 196 _ _ rfl (w.heap.size+1) 0 #[.int .i64 rel,.string nv,.int .i64 0,.string ⟨#[]⟩,.int .i64 0,.slice none 0 0] rfl rfl HT.o Yb Yb ?_));refine Ykv ?_;refine bodyPost_ret (v:=.agg #[.int .i64 rel,.string nv,.int .i64 0,.string ⟨#[]⟩,.int .i64 0,.slice none 0 0]) ?_ rfl ⟨by rw [ij.o]<;>rfl,Below.setCells' _ _ (Xp.o) Ya⟩;exact Z1j (t:=6) (T:=196) rfl _ _ (w.heap.size+1) [.int .i64 rel,.string nv,.int .i64 0,.string ⟨#[]⟩,.int .i64 0,.slice none 0 0] _ rfl (Zsy w5 (w.heap.size+1) 0 [.int .i64 rel,.string nv,.int .i64 0,.string ⟨#[]⟩,.int .i64 0,.slice none 0 0] HT.o) Tryz.underlying196 rfl Yb
 · skip
   have ij:=hU (show t=⟨rel,⟨#[]⟩,s,[]⟩ by rw [ht,Z2x,if_neg h1]);have e1:(s.kind == 1)=false:=YJc;have e2:decide (s.kind=1)=false:=YJc;have HT:=hU (show W1.there (w.heap.size+1) 0 (#[.int .i64 rel,.string ⟨#[]⟩,.int .i64 s.kind,.string s.text,.int .i64 s.n,.slice none 0 0]:Array Value).size from HR.o.there);clear h1 ht;go_enter Tryz.func105,Tryz.ntmps105;go_upto_region 1 with fail;rw [←Wo];clear Wo;(go_wp2_with (with_reducible refine wpList_store_mid rfl 196 _ _ rfl (w.heap.size+1) 0 #[.int .i64 rel,.string ⟨#[]⟩,.int .i64 s.kind,.string s.text,.int .i64 s.n,.slice none 0 0] rfl rfl HT.o Yb Yb ?_));refine Ykv ?_;refine bodyPost_ret (v:=.agg #[.int .i64 rel,.string ⟨#[]⟩,.int .i64 s.kind,.string s.text,.int .i64 s.n,.slice none 0 0]) ?_ rfl ⟨by rw [ij.o]<;>rfl,Below.setCells' _ _ (HB.o) Ya⟩;exact Z1j (t:=6) (T:=196) rfl _ _ (w.heap.size+1) [.int .i64 rel,.string ⟨#[]⟩,.int .i64 s.kind,.string s.text,.int .i64 s.n,.slice none 0 0] _ rfl (Zsy W1 (w.heap.size+1) 0 [.int .i64 rel,.string ⟨#[]⟩,.int .i64 s.kind,.string s.text,.int .i64 s.n,.slice none 0 0] HT.o) Tryz.underlying196 rfl Yb
def Zns (ns:List Sym) (x:Elem) (w:World) (e:Ending) (w':World):Prop:=
 ∃ga gv,e = .returned (.agg #[.int .i64 1,.bool x.goal,.string (Z3y x.id (plV ns x.id:Int)),.slice (some ⟨ga,0,none⟩) 1 1,.slice (some ⟨gv,0,none⟩) 1 1,.bool x.acc,.slice none 0 0])∧Blk w' ga 196 #[.int .i64 1,.string ⟨#[]⟩,.int .i64 x.attr.kind,.string x.attr.text,.int .i64 x.attr.n,.slice none 0 0]∧Blk w' gv 196 #[.int .i64 (Z2x ns 1 x.value).rel,.string (Z2x ns 1 x.value).var,.int .i64 (Z2x ns 1 x.value).sym.kind,.string (Z2x ns 1 x.value).sym.text,.int .i64 (Z2x ns 1 x.value).sym.n,.slice none 0 0]∧w.heap.size≤ga∧w.heap.size≤gv∧ga≠gv∧Below w.heap.size w w'
theorem Zr4 {D:Nat→Prop}{nb mb:Nat}{ns:List Sym}(x:Elem) (w:World) (h:Nm D w nb ns) (hm:MK w mb nb) (hl:ns.length≤1000):Calls Tryz.prog 80 #[.pointer (some ⟨mb,0,none⟩),.agg (Q0j x)] w (Zns ns x w):=by
 have HN:=hU (show ∀W,Below w.heap.size w W→Calls Tryz.prog 104 #[.pointer (some ⟨mb,0,none⟩),.agg (Q1d x.id)] W fun e w'=>e = .returned (.string (Z3y x.id (plV ns x.id:Int)))∧Below W.heap.size W w' from fun W hW=>Z81 x.id W (h.new_ hW) (hm.new_ hW) hl);have HV:=hU (show ∀W,Below w.heap.size w W→Calls Tryz.prog 105 #[.pointer (some ⟨mb,0,none⟩),.int .i64 1,.agg (Q1d x.value)] W fun e w'=>e = .returned (.agg #[.int .i64 (Z2x ns 1 x.value).rel,.string (Z2x ns 1 x.value).var,.int .i64 (Z2x ns 1 x.value).sym.kind,.string (Z2x ns 1 x.value).sym.text,.int .i64 (Z2x ns 1 x.value).sym.n,.slice none 0 0])∧Below W.heap.size W w' from fun W hW=>Zc2 1 x.value W (h.new_ hW) (hm.new_ hW) hl);unfold Zns;obtain ⟨t,ht⟩:∃t,t=Z2x ns 1 x.value:=⟨_,rfl⟩;obtain ⟨nv,zw⟩:∃nv,nv=Z3y x.id (plV ns x.id:Int):=⟨_,rfl⟩;rw [←ht] at HV ⊢;rw [←zw] at HN ⊢;clear h hm hl ht zw;go_enter Tryz.func80,Tryz.ntmps80;go_upto_region 1 with fail;obtain ⟨w1,Fg⟩:∃w1,w1=((w.alloc (.cells (Q0j x) 50)).alloc (.cells Q2g 77)):=⟨_,rfl⟩;refine Yt9 ?_;intro HB;have Kk:=hU (show Blk w1 (w.heap.size) 50 (Q0j x) by rw [Fg];exact ((Blk.new w 50 (Q0j x)).alloc (.cells Q2g 77)));have Kr:=hU (show Blk w1 (w.heap.size+1) 77 Q2g by rw [Fg];have hh:=(Blk.new (w.alloc (.cells (Q0j x) 50)) 77 Q2g);simp only [Zti] at hh;exact hh);clear Fg;obtain ⟨k0,k1,k2,k3,k4,k5,k6,k7,k8,k9,Fn,On⟩:=Kk.o.c12;have kz:=Kk.o.lt;obtain ⟨r0,r1,r2,r3,r4,r5,r6⟩:=Kr.o.c7;have rz:=Kr.o.lt;clear k0 k1 k2 k3 k4 k5 k6 k7 k8 k9 Fn On kz r0 r1 r2 r3 r4 r5 r6 rz;obtain ⟨k0,k1,k2,k3,k4,k5,k6,k7,k8,k9,Fn,On⟩:=Kk.o.c12;have kz:=Kk.o.lt;have Nq:=hU Kr.o.lt;have Ld:=hU (show w.heap.size+1≤w1.heap.size from Nat.le_of_lt Nq.o);have kz9:w.heap.size<w.heap.size+1:=Nat.lt_succ_self _;have HW:=HB;refine Z1g (fun w9=>Below (w.heap.size+1) w1 w9) [0,1,2,3,4,5,6,8,9,10,12,13,14,17] [1,3,6,9,14] (.fork [(0,0),(1,1),(2,0),(3,1),(4,0),(5,0),(6,1),(8,0),(9,1),(10,0),(12,0),(13,0),(14,1)] 7 (.fork [] 11 (.fin [(15,2),(16,2),(17,0),(18,2)]) 15 (.fork [] 11 (.fin [(16,2),(17,0),(18,2)]) 16 (.fin [(11,2),(17,0),(18,2)]))) 11 (.fin [(7,2),(15,2),(16,2),(17,0),(18,2)])) Yb Yb Yb (fun KK hKK=>?_);refine Ypt ?_;have HB:=hU (Zst w1.heap.size w1).drew;obtain ⟨V,hV⟩:∃V,V=w1.drew:=⟨_,rfl⟩;have Kr:=hU Kr.o.drew;rw [←hV] at HB Kr ⊢;clear hV
 repeat' (first
  | ((first|(refine Z1r ?_ (Or.inl ⟨Yd,fun w9=>?_⟩) ?_;rotate_left 1;go_simp;with_reducible rfl)|(refine Z1y ?_ (HB.o.mono Ld.o) (Or.inl ⟨Yd,fun w9 hw9=>?_⟩) ?_;rotate_left 1;obtain ⟨hc9,hf9⟩:=Zs3 hw9;go_simp;with_reducible rfl)|refine Z1r undef (Or.inr ⟨Yd,rfl⟩) ?_|refine Z1y undef (HB.o.mono Ld.o) (Or.inr ⟨Yd,rfl⟩) ?_);go_frame)
  | ((first|refine Z1n (fun K9 hK9=>?_)|refine Z1c rfl (fun K9 hK9=>?_));refine Z0h rfl 77 _ _ rfl (w.heap.size+1) 0 #[.int .i64 1,.bool x.goal,.string nv,.slice (some ⟨ga,0,none⟩) 1 1,.slice (some ⟨gv,0,none⟩) 1 1,.bool x.acc,.slice none 0 0] rfl rfl (show _ from Kr.o.there) Yb Yb ?_;(first|refine hK9 _ _ (Below.setCells' _ _ (HB.o.mono Ld.o) (Zsu _)) ?_|refine hK9 _ _ (fun _=>Below.setCells' _ _ (HB.o.mono Ld.o) (Zsu _)) ?_);clear hK9 K9;(try go_frame);try simp only [Z08,Zsv])
  | ((first|refine Z1n (fun K9 hK9=>?_)|refine Z1c rfl (fun K9 hK9=>?_));go_simp;(first
    | (refine (HN.o _ (HW.o.trans (HB.o.mono HW.o.size))).mono ?_;rintro e V ⟨rfl,hb⟩;(try have Kr:=hU (Kr.o.new_ hb));(try have Bh:=hU (Bh.o.new_ hb));(try have Rj:=hU (Rj.o.new_ hb));(try have LT:=hU (Zsw LT.o hb.size));have HB:=hU (HB.o.trans (hb.mono HB.o.size));clear hb)
    | (refine (HV.o _ (HW.o.trans (HB.o.mono HW.o.size))).mono ?_;rintro e V ⟨rfl,hb⟩;(try have Kr:=hU (Kr.o.new_ hb));(try have Bh:=hU (Bh.o.new_ hb));(try have Rj:=hU (Rj.o.new_ hb));(try have LT:=hU (Zsw LT.o hb.size));have HB:=hU (HB.o.trans (hb.mono HB.o.size));clear hb)
    | (obtain ⟨ga,hg⟩:∃g,g=V.heap.size:=⟨_,rfl⟩;have hk:=Blk.new V 196 #[.int .i64 1,.string ⟨#[]⟩,.int .i64 x.attr.kind,.string x.attr.text,.int .i64 x.attr.n,.slice none 0 0];have hb:Below V.heap.size V (V.alloc (.cells #[.int .i64 1,.string ⟨#[]⟩,.int .i64 x.attr.kind,.string x.attr.text,.int .i64 x.attr.n,.slice none 0 0] 196)):=(Zst _ _).alloc (Zsu _) _;have Nga:=hU (show w1.heap.size≤ga from YWc);(try have NE:=hU (show ga≠gv by rw [hg];exact (Nat.ne_of_lt LT.o).symm));obtain ⟨V,hV⟩:∃V9,V9=V.alloc (.cells #[.int .i64 1,.string ⟨#[]⟩,.int .i64 x.attr.kind,.string x.attr.text,.int .i64 x.attr.n,.slice none 0 0] 196):=⟨_,rfl⟩;rw [←hV] at hb;rw [←hV,←hg] at hk;(try have Kr:=hU (Kr.o.new_ hb));(try have Bh:=hU (Bh.o.new_ hb));(try have Rj:=hU (Rj.o.new_ hb));(try have LT:=hU (Zsw LT.o hb.size));have HB:=hU (HB.o.trans (hb.mono HB.o.size));have Bh:=hU hk;have LT:=hU (show ga<V.heap.size from Bh.o.lt);rw [←hV,←hg];clear hV hg hb hk)
    | (obtain ⟨gv,hg⟩:∃g,g=V.heap.size:=⟨_,rfl⟩;have hk:=Blk.new V 196 #[.int .i64 t.rel,.string t.var,.int .i64 t.sym.kind,.string t.sym.text,.int .i64 t.sym.n,.slice none 0 0];have hb:Below V.heap.size V (V.alloc (.cells #[.int .i64 t.rel,.string t.var,.int .i64 t.sym.kind,.string t.sym.text,.int .i64 t.sym.n,.slice none 0 0] 196)):=(Zst _ _).alloc (Zsu _) _;have Ngv:=hU (show w1.heap.size≤gv from YWc);(try have NE:=hU (show ga≠gv by rw [hg];exact Nat.ne_of_lt LT.o));obtain ⟨V,hV⟩:∃V9,V9=V.alloc (.cells #[.int .i64 t.rel,.string t.var,.int .i64 t.sym.kind,.string t.sym.text,.int .i64 t.sym.n,.slice none 0 0] 196):=⟨_,rfl⟩;rw [←hV] at hb;rw [←hV,←hg] at hk;(try have Kr:=hU (Kr.o.new_ hb));(try have Bh:=hU (Bh.o.new_ hb));(try have Rj:=hU (Rj.o.new_ hb));(try have LT:=hU (Zsw LT.o hb.size));have HB:=hU (HB.o.trans (hb.mono HB.o.size));have Rj:=hU hk;have LT:=hU (show gv<V.heap.size from Rj.o.lt);rw [←hV,←hg];clear hV hg hb hk)|fail);(first|refine hK9 _ _ (HB.o.mono Ld.o) ?_|refine hK9 _ _ (fun _=>HB.o.mono Ld.o) ?_);clear hK9 K9;(try go_frame);try simp only [Z08,Zsv])
  | (refine Z0p ⟨?_,?_⟩)|fail)
 all_goals
  refine Y1g ?_;clear hKK KK;have HT:=hU (show V.there (w.heap.size+1) 0 (#[.int .i64 1,.bool x.goal,.string nv,.slice (some ⟨ga,0,none⟩) 1 1,.slice (some ⟨gv,0,none⟩) 1 1,.bool x.acc,.slice none 0 0]:Array Value).size from Kr.o.there);have HF:=hU (show Below w.heap.size w V from HW.o.trans ((HB.o).mono HW.o.size));have HZ:=hU (show w.heap.size+1<w1.heap.size from Nq.o);clear k0 k1 k2 k3 k4 k5 k6 k7 k8 k9 Fn On;go_wp2_with fail;refine Ykv ?_;refine bodyPost_ret (v:=.agg #[.int .i64 1,.bool x.goal,.string nv,.slice (some ⟨ga,0,none⟩) 1 1,.slice (some ⟨gv,0,none⟩) 1 1,.bool x.acc,.slice none 0 0]) ?_ rfl ⟨ga,gv,rfl,Blk.farCells _ _ Bh.o (by have:=Nga.o;have:=HZ.o;omega),Blk.farCells _ _ Rj.o (by have:=Ngv.o;have:=HZ.o;omega),by have:=Nga.o;have:=HW.o.size;omega,by have:=Ngv.o;have:=HW.o.size;omega,NE.o,Below.setCells' _ _ HF.o Ya⟩;exact Z1j (t:=4) (T:=77) rfl _ _ (w.heap.size+1) [.int .i64 1,.bool x.goal,.string nv,.slice (some ⟨ga,0,none⟩) 1 1,.slice (some ⟨gv,0,none⟩) 1 1,.bool x.acc,.slice none 0 0] _ rfl (Zsy V (w.heap.size+1) 0 [.int .i64 1,.bool x.goal,.string nv,.slice (some ⟨ga,0,none⟩) 1 1,.slice (some ⟨gv,0,none⟩) 1 1,.bool x.acc,.slice none 0 0] HT.o) Tryz.underlying77 rfl Yb
end
section
open Go.RowKit Go.Shelf
theorem Z7x:(Tryz.prog.info? 77).map (fun i=>(i.zero,i.size,i.bytes))=some (some (.agg Q2g),7,112):=Yb
theorem Zdk:(Tryz.prog.info? 196).map (fun i=>(i.zero,i.size,i.bytes))=some (some (.agg Q2f),6,80):=Yb
def Z0z.cell0 (t:Z0z):List Value:=[.int .i64 t.rel,.string t.var,.int .i64 t.sym.kind,.string t.sym.text,.int .i64 t.sym.n,.slice none 0 0]
theorem Z0z.cell0_length (t:Z0z):t.cell0.length=6:=rfl
theorem Zm6 (l:List Z0z):∀u∈l.flatMap Z0z.cell0,u.oneCell'=true:=by
 intro u hu;obtain ⟨b,_,hb⟩:=List.mem_flatMap.1 hu;simp only [Z0z.cell0,Ztb,Zth,or_false] at hb;rcases hb with rfl|rfl|rfl|rfl|rfl|rfl<;>rfl
structure Z77 where
 kind:Int
 goal:Bool
 id:ByteArray
 A1:Option Addr
 n1:Nat
 c1:Nat
 A2:Option Addr
 n2:Nat
 c2:Nat
 acc:Bool
 A3:Option Addr
 n3:Nat
 c3:Nat
def Z77.cells (c:Z77):List Value:=[.int .i64 c.kind,.bool c.goal,.string c.id,.slice c.A1 c.n1 c.c1,.slice c.A2 c.n2 c.c2,.bool c.acc,.slice c.A3 c.n3 c.c3]
theorem Z77.cells_length (c:Z77):c.cells.length=7:=rfl
def Z6n:Z77:=⟨0,false,⟨#[]⟩,none,0,0,none,0,0,false,none,0,0⟩
theorem Zm5 (l:List Z77):∀u∈l.flatMap Z77.cells,u.oneCell'=true:=by
 intro u hu;obtain ⟨b,_,hb⟩:=List.mem_flatMap.1 hu;simp only [Z77.cells,Ztb,Zth,or_false] at hb;rcases hb with rfl|rfl|rfl|rfl|rfl|rfl|rfl<;>rfl
structure VCo where
 goal:Bool
 id:ByteArray
 at_:Z0z
 vs:List Z0z
 acc:Bool
 ga:Nat
 gv:Nat
 cap:Nat
def VCo.raw (v:VCo):Z77:=⟨1,v.goal,v.id,some ⟨v.ga,0,none⟩,1,1,some ⟨v.gv,0,none⟩,v.vs.length,v.cap,v.acc,none,0,0⟩
def VCo.cells (v:VCo):List Value:=v.raw.cells
theorem VCo.cells_length (v:VCo):v.cells.length=7:=rfl
def VCo.cond (v:VCo):Z0a:=.mk 1 v.goal v.id [v.at_] v.vs v.acc []
structure VCo.Ok (w:World) (v:VCo):Prop where
 at_:Blk w v.ga 196 #[.int .i64 v.at_.rel,.string v.at_.var,.int .i64 v.at_.sym.kind,.string v.at_.sym.text,.int .i64 v.at_.sym.n,.slice none 0 0]
 vr:w.ownsRow 0 196 6 (.slice (some ⟨v.gv,0,none⟩) v.vs.length v.cap) v.vs.length (v.vs.flatMap Z0z.cell0)
 la:v.at_.list = []
 lv :∀t∈v.vs,t.list = []
theorem VCo.Ok.fr {M:Nat→Prop}{w w':World}{v:VCo}(h:v.Ok w) (hF:Fr M w w') (h1 :¬M v.ga) (h2 :¬M v.gv):v.Ok w':=
 ⟨h.at_.fr hF h1,Z0s h.vr hF (fun g hg=>by injection hg with hg;exact hg ▸ h2),h.la,h.lv⟩
theorem Zek (l:List VCo):l.flatMap VCo.cells=(l.map VCo.raw).flatMap Z77.cells:=by rw [List.flatMap_map];rfl
structure CS (X:World) (nb mb:Nat) (ns:List Sym) (es:List Elem) (AO:Option Addr) (cO:Nat) (vcs:List VCo) (AC:Option Addr) (cC:Nat) (D:Nat→Prop) (w:World):Prop where
 nm:Nm D w nb ns
 dn :∀k,D k→X.heap.size≤k
 mkb:Blk w mb 173 #[.pointer (some ⟨nb,0,none⟩),.slice AO es.length cO,.slice AC vcs.length cC]
 mge:X.heap.size≤mb
 mnd :¬D mb
 eo:w.ownsRow 0 50 12 (.slice AO es.length cO) es.length (es.flatMap Elem.cells)
 ea:AIn AO (fun k=>X.heap.size≤k∧¬D k)
 co:w.ownsRow 0 77 7 (.slice AC vcs.length cC) vcs.length (vcs.flatMap VCo.cells)
 ca:AIn AC (fun k=>X.heap.size≤k∧¬D k)
 ok :∀v∈vcs,v.Ok w
 bl :∀v∈vcs,(X.heap.size≤v.ga∧¬D v.ga)∧X.heap.size≤v.gv∧¬D v.gv
 nd:(vcs.flatMap fun v=>[v.ga,v.gv]).Nodup
 bel:Below X.heap.size X w
theorem VCo.Ok.ltv {w:World}{v:VCo}(h:v.Ok w):v.gv<w.heap.size:=Z3i h.vr v.gv rfl
section
variable {X w w':World}{nb mb:Nat}{ns:List Sym}{es:List Elem}{AO:Option Addr}{cO:Nat}{vcs:List VCo}{AC:Option Addr}{cC:Nat}{D:Nat→Prop}
theorem CS.mk_ (h:CS X nb mb ns es AO cO vcs AC cC D w):MK w mb nb:=⟨(h.mkb.cell 0).trans rfl,h.mkb.lt⟩
theorem CS.new_ (h:CS X nb mb ns es AO cO vcs AC cC D w) (hb:Below w.heap.size w w'):CS X nb mb ns es AO cO vcs AC cC D w':=
 ⟨h.nm.new_ hb,h.dn,h.mkb.new_ hb,h.mge,h.mnd,Z02 h.eo hb,h.ea,Z02 h.co hb,h.ca,fun v hv=>⟨(h.ok v hv).at_.new_ hb,Z02 (h.ok v hv).vr hb,(h.ok v hv).la,(h.ok v hv).lv⟩,h.bl,h.nd,h.bel.trans (hb.mono h.bel.size)⟩
theorem CS.push {v:VCo}{V W1:World}{AC':Option Addr}{cC':Nat}(h:CS X nb mb ns es AO cO vcs AC cC D w) (hb:Below w.heap.size w W1)
 (hva:w.heap.size≤v.ga) (hvv:w.heap.size≤v.gv) (hne:v.ga≠v.gv) (hok:v.Ok W1)
 (hF:Fr (fun k=>k=mb∨∃a,AC=some a∧a.block=k) W1 V) (hM:Blk V mb 173 #[.pointer (some ⟨nb,0,none⟩),.slice AO es.length cO,.slice AC' (vcs ++ [v]).length cC'])
 (hO:V.ownsRow 0 77 7 (.slice AC' (vcs ++ [v]).length cC') (vcs ++ [v]).length ((vcs ++ [v]).flatMap VCo.cells)) (hA:AIn AC' (fun k=>(∃a,AC=some a∧a.block=k)∨W1.heap.size≤k)) :
 CS X nb mb ns es AO cO (vcs ++ [v]) AC' cC' D V:=by
 have h1:=h.new_ hb;have hz:=hb.size;have hx:=h.bel.size;have sd:=h.nm.lt;have Da:=h1.mkb
 have nT :∀{g:Nat}{cs:Array Value},Blk W1 g 196 cs→¬(g=mb∨∃a,AC=some a∧a.block=g):=by
  rintro g cs hg (e|⟨a,ha,e⟩)
  · subst e;exact hg.ne_ Da Yc rfl
  · exact Z01 h1.co hg Yc YBr
 have nR :∀{g n c:Nat}{xs:List Value},W1.ownsRow 0 196 6 (.slice (some ⟨g,0,none⟩) n c) n xs→¬(g=mb∨∃a,AC=some a∧a.block=g):=by
  rintro g n c xs hg (e|⟨a,ha,e⟩)
  · subst e;exact Z01 hg Da Yc rfl
  · exact Z1p hg h1.co Yc (k:=g) rfl YBr
 have Lt :∀u∈vcs ++ [v],u.Ok W1:=fun u hu=>by
  rcases Ztu.1 hu with hu|hu
  · exact h1.ok u hu
  · rw [Zua.1 hu];exact hok
 refine ⟨h1.nm.fr hF (fun k hk hm=>?_),h.dn,hM,h.mge,h.mnd,Z0s h1.eo hF (fun g hg hm=>?_),h.ea,hO,fun a ha=>?_,fun u hu=>(Lt u hu).fr hF (nT (Lt u hu).at_) (nR (Lt u hu).vr),fun u hu=>?_,?_,h1.bel.trans (hF.below h1.bel.size (fun k hk hm=>?_))⟩
 · rcases hm with e|⟨a,ha,e⟩
   · exact h.mnd (e ▸ hk)
   · exact (h.ca a ha).2 (e ▸ hk)
 · rcases hm with e|⟨a,ha,e⟩
   · subst e;exact Z01 h1.eo Da Yc hg
   · exact Z1p h1.eo h1.co Yc hg YBr
 · rcases hA a ha with ⟨b,hb2,e⟩|h2
   · rw [←e];exact h.ca b hb2
   · exact ⟨Ya,fun hd=>by have:=sd _ hd;omega⟩
 · rcases Ztu.1 hu with hu|hu
   · exact h.bl u hu
   · rw [Zua.1 hu]
     exact ⟨⟨Ya,fun hd=>by have:=sd _ hd;omega⟩,Ya,fun hd=>by have:=sd _ hd;omega⟩
 · rw [Zta,List.nodup_append]
   refine ⟨h.nd,by simp [hne],fun a ha b hb2 e=>?_⟩;obtain ⟨u,hu,T6⟩:=List.mem_flatMap.1 ha;have l1:=(h.ok u hu).at_.lt;have l2:=(h.ok u hu).ltv;simp only [Ztb,Zth,or_false] at T6;simp only [Zu6,List.flatMap_nil,Zu9,Ztb,Zth,or_false] at hb2;rcases T6 with rfl|rfl<;>rcases hb2 with rfl|rfl<;>omega
 · rcases hm with e|⟨a,ha,e⟩
   · subst e;have:=h.mge;omega
   · have:=(h.ca a ha).1;omega
theorem Zsa {v:VCo}{W1 Y:World}{g c':Nat}(h:CS X nb mb ns es AO cO vcs AC cC D W1) (hY:Fr (fun k=>∃a,AC=some a∧a.block=k) W1 Y) (hO:Y.ownsRow 0 77 7 (.slice (some ⟨g,0,none⟩) (vcs.length+1) c') (vcs.length+1) (vcs.flatMap VCo.cells++Z6n.cells)) (hA:AIn (some ⟨g,0,none⟩) (Plus (fun k=>∃a,AC=some a∧a.block=k) W1 Y)) :
 Fr (fun k=>k=mb∨∃a,AC=some a∧a.block=k) W1 ((Y.setCells g (vcs.length*7) v.cells).setCell ⟨mb,2,none⟩ (.slice (some ⟨g,0,none⟩) (vcs ++ [v]).length c'))∧
 Blk ((Y.setCells g (vcs.length*7) v.cells).setCell ⟨mb,2,none⟩ (.slice (some ⟨g,0,none⟩) (vcs ++ [v]).length c')) mb 173 #[.pointer (some ⟨nb,0,none⟩),.slice AO es.length cO,.slice (some ⟨g,0,none⟩) (vcs ++ [v]).length c']∧
 ((Y.setCells g (vcs.length*7) v.cells).setCell ⟨mb,2,none⟩ (.slice (some ⟨g,0,none⟩) (vcs ++ [v]).length c')).ownsRow 0 77 7 (.slice (some ⟨g,0,none⟩) (vcs ++ [v]).length c') (vcs ++ [v]).length ((vcs ++ [v]).flatMap VCo.cells)∧
 AIn (some ⟨g,0,none⟩) (fun k=>(∃a,AC=some a∧a.block=k)∨W1.heap.size≤k)∧
 Y.there g (vcs.length*7) 7∧Y.cell? ⟨mb,2,none⟩=some (.slice AC vcs.length cC)∧Y.frozen? ⟨mb,2,none⟩=false∧mb<Y.heap.size∧mb≠g:=by
 have o6:Blk Y mb 173 _:=h.mkb.fr hY (fun ⟨a,ha,e⟩=>Z01 h.co h.mkb Yc YBr);have Xf:mb≠g:=fun e=>Z01 hO o6 Yc YVh;have hl:(vcs ++ [v]).length=vcs.length+1:=Ye;(have e0:vcs.flatMap VCo.cells++Z6n.cells=(vcs.map VCo.raw ++ [Z6n]).flatMap Z77.cells:=by rw [Zta,Zek];simp);have Wt:Y.ownsRow 0 77 7 (.slice (some ⟨g,0,none⟩) (vcs.length+1) c') (vcs.length+1) ((vcs.map VCo.raw ++ [Z6n]).flatMap Z77.cells):=e0 ▸ hO;have h3:=Z37 Z77.cells_length Yc Wt vcs.length Ye v.raw
 have e1:((vcs.map VCo.raw ++ [Z6n]).set vcs.length v.raw).flatMap Z77.cells=(vcs ++ [v]).flatMap VCo.cells:=by
  rw [Zek,List.set_append_right _ _ Ye];simp
 rw [e1] at h3;have hr:=Z2m hO
 have Ip:(∃a,AC=some a∧a.block=g)∨W1.heap.size≤g:=by
  rcases hA _ rfl with h4|h4
  · exact .inl h4
  · exact .inr h4.1
 have N6:Fr (fun k=>k=mb∨∃a,AC=some a∧a.block=k) W1 Y:=hY.mono (fun k _ hk=>.inr hk);refine ⟨(Fr.setCells v.cells _ N6 (Ip.imp (fun h4=>.inr h4) id)).setCell (p:=⟨mb,2,none⟩) (.inl (.inl rfl)) _,?_,?_,fun a ha=>?_,hr.1.there (by have:=hr.2.1;omega),(o6.cell 2).trans rfl,o6.frozen 2,o6.lt,Xf⟩
 · exact (Blk.farCells _ _ o6 Xf).set_ 2 _
 · rw [hl]
   exact ownsRow_setCell_other h3 YHs _
 · injection ha with ha;subst ha;exact Ip
theorem Zeo {w:World}{a b:Nat}(hne:a≠b) (o k:Nat) (u v:Value):(w.setCell ⟨a,o,none⟩ u).setCell ⟨b,k,none⟩ v=(w.setCell ⟨b,k,none⟩ v).setCell ⟨a,o,none⟩ u:=by
 simp only [World.setCell];congr 1;apply Array.ext_getElem?;intro i;simp only [Array.getElem?_modify];by_cases h1:a=i
 · by_cases h2:b=i
   · exact absurd (h1.trans h2.symm) hne
   · simp [h1,h2]
 · by_cases h2:b=i<;>simp [h1,h2]
theorem Zcn {w:World}{a b:Nat}(hne:a≠b) (o:Nat) (u:Value):∀(vs:List Value) (k:Nat),(w.setCell ⟨a,o,none⟩ u).setCells b k vs=(w.setCells b k vs).setCell ⟨a,o,none⟩ u:=by
 intro vs
 induction vs generalizing w with
 | nil=>intro k;rfl
 | cons v l ih=>
   intro k;show ((w.setCell ⟨a,o,none⟩ u).setCell ⟨b,k,none⟩ v).setCells b (k+1) l=((w.setCell ⟨b,k,none⟩ v).setCells b (k+1) l).setCell ⟨a,o,none⟩ u;rw [←ih];congr 1;exact Zeo hne _ _ _ _
end
end
section
open Go.RowKit Go.Shelf
attribute [local go_sem] Oper.semAt_some
structure Zal (gf:Nat) (lb:Array Value) (w0:World) (old:Sym→Bool):Prop where
 ent :∀args w,(callFunc gf args).run Tryz.prog w = .ok (.enter gf args) w
 call :∀(s:Sym) W,Below w0.heap.size w0 W→Calls Tryz.prog gf (#[.agg (Q1d s)]++lb) W fun e W'=>e = .returned (.bool (old s))∧Below W.heap.size W W'
theorem Z3s.wrap {D M:Nat→Prop}{w a b c:World}{nb:Nat}{ns:List Sym}(h1:Below w.heap.size w a) (hlt :∀k,D k→k<w.heap.size) (h2:Z3s D a nb ns b) (h3:Fr M b c) (hM :∀k,M k→w.heap.size≤k∧k<a.heap.size):Z3s D w nb ns c:=by
 obtain ⟨D',g1,g2,g3,g4⟩:=h2;have hz:=h1.size;refine ⟨D',g1.fr h3 (fun k hk hm=>?_),g2,fun k hk=>(g3 k hk).imp id (fun h=>Ya),((Fr.of_new h1).into g4 (fun k hk=>.inl hk)).into h3 (fun k hk=>.inr (hM k hk).1)⟩;have hm2:=hM k hm;rcases g3 k hk with h|h
 · have:=hlt k h;omega
 · omega
theorem Z3s.off {D:Nat→Prop}{w w':World}{nb:Nat}{ns:List Sym}(h:Z3s D w nb ns w'):∃D',Nm D' w' nb ns∧∀g,g<w.heap.size→¬D g→¬D' g:=by
 obtain ⟨D',g1,_,g3,_⟩:=h;exact ⟨D',g1,fun g hg hd hk=>(g3 g hk).elim hd (fun h=>Ya)⟩
def Zpu (D:Nat→Prop) (w:World) (nb:Nat) (ns:List Sym) (r:Option (Z5l×List Sym)) (e:Ending) (w':World):Prop:=
 match r with
 | none=>e = .returned (.tuple #[.agg Q2b,.bool false])∧Z3s D w nb ns w'
 | some (a,ns')=>e = .returned (.tuple #[.agg #[.string a.var,.int .i64 a.sym.kind,.string a.sym.text,.int .i64 a.sym.n],.bool true])∧Z3s D w nb ns' w'
theorem Zkd {old:Sym→Bool}{ns:List Sym}{s:Sym}(h:s.kind≠1):Z6e old ns s=some (⟨⟨#[]⟩,s⟩,ns):=by rw [Z6e,if_pos h]
theorem Znw {old:Sym→Bool}{ns:List Sym}{s:Sym}(h:s.kind=1) (h2:plV ns s=0) (h3:old s=true):Z6e old ns s=none:=by rw [Z6e,if_neg Ya,if_pos ⟨h2,h3⟩]
theorem Zke {old:Sym→Bool}{ns:List Sym}{s:Sym}(h:s.kind=1) (h3:old s=false):Z6e old ns s=some (⟨Z3y s (plV (putN ns s) s),symZ⟩,putN ns s):=by rw [Z6e,if_neg Ya,if_neg (by simp [h3])]
theorem Znv {old:Sym→Bool}{ns:List Sym}{s:Sym}(h:s.kind=1) (h2:plV ns s≠0):Z6e old ns s=some (⟨Z3y s (plV ns s),symZ⟩,ns):=by rw [Z6e,if_neg Ya,if_neg (by simp [h2]),putN,if_neg h2]
theorem Zp4 {D:Nat→Prop}{nb mb gf:Nat}{lb:Array Value}{w0:World}{old:Sym→Bool}{ns:List Sym}(hO:Zal gf lb w0 old) (s:Sym) (w:World) (hw0:Below w0.heap.size w0 w) (h:Nm D w nb ns) (hm:MK w mb nb) (hd :¬D mb) (hD :∀k,D k→w0.heap.size≤k) (hl:ns.length≤900) :
 Calls Tryz.prog 117 #[.pointer (some ⟨mb,0,none⟩),.agg (Q1d s),.func (.func gf) #[] lb] w (Zpu D w nb ns (Z6e old ns s)):=by
 have HN:=hU h;have HM:=hU hm;have HW0:=hU (And.intro hw0 (And.intro hd hD));have Dq:=hU h.lt;have ez:=hU (fun W (hW:Below w.heap.size w W)=>hO.call s W (hw0.trans (hW.mono hw0.size)));have hent:=hO.ent;have Ve:=hU (fun W (hW:Below w.heap.size w W)=>Z4d s W (h.new_ hW) Ya);have ec:=hU (fun W (hW:Below w.heap.size w W)=>Z81 s W (h.new_ hW) (hm.new_ hW) Ya);have Py:=hU hl;obtain ⟨m0,mz⟩:=hm;clear h hO hw0 hd hD hl;by_cases h1:s.kind=1
 case neg=>
  have fq:=hU (Zkd (old:=old) (ns:=ns) h1);have e1:(s.kind != 1)=true:=YJc;clear h1;go_enter Tryz.func117,Tryz.ntmps117;go_upto_region 1 with fail;refine Yvj ?_;intro w1 HB Kk Kr k0 k1 k2 kz r0 r1 r2 r3 rz ja;have HT:=hU (show w1.there (w.heap.size+1) 0 (#[.string ⟨#[]⟩,.int .i64 s.kind,.string s.text,.int .i64 s.n]:Array Value).size from Kr.o.there);(go_wp2_with (with_reducible refine wpList_store_mid rfl 177 _ _ rfl (w.heap.size+1) 0 #[.string ⟨#[]⟩,.int .i64 s.kind,.string s.text,.int .i64 s.n] rfl rfl HT.o Yb Yb ?_));refine Ykv ?_;refine bodyPost_ret (v:=.tuple #[.agg #[.string ⟨#[]⟩,.int .i64 s.kind,.string s.text,.int .i64 s.n],.bool true]) ?_ rfl ?_
  · exact Z0n (t:=6) (s:=7) (T:=177) rfl _ _ (w.heap.size+1) [.string ⟨#[]⟩,.int .i64 s.kind,.string s.text,.int .i64 s.n] _ rfl (Zsy w1 (w.heap.size+1) 0 [.string ⟨#[]⟩,.int .i64 s.kind,.string s.text,.int .i64 s.n] HT.o) Tryz.underlying177 rfl Yb
  · rw [fq.o]
    exact ⟨rfl,Z3s.wrap (a:=w1) (b:=w1) HB.o Dq.o (Z3s.same (HN.o.new_ HB.o) (Zst _ _)) (Fr.setCells _ _ (Fr.refl (fun k=>k=w.heap.size+1) _) (.inl rfl)) (fun k hk=>YRk)⟩
 by_cases h2:plV ns s=0
 case neg=>
  have fq:=hU (Znv (old:=old) (ns:=ns) h1 h2);obtain ⟨nv,zw⟩:∃nv,nv=Z3y s (plV ns s:Int):=⟨_,rfl⟩;rw [←zw] at fq ec;obtain ⟨p,hp⟩:∃p,p=plV ns s:=⟨_,rfl⟩;rw [←hp] at Ve h2;have pr1:((p:Int) == 0)=false:=Yk;have pr2 :¬(p:Int)=0:=Ya;clear hp zw;have e1:(s.kind != 1)=false:=YJc;clear h1;go_enter Tryz.func117,Tryz.ntmps117;go_upto_region 1 with fail;refine Yvj ?_;intro w1 HB Kk Kr k0 k1 k2 kz r0 r1 r2 r3 rz ja;have m1:=(HM.o.new_ HB.o).1;have wj:=(HM.o.new_ HB.o).2;clear m0 mz;go_upto_region 3 with fail;refine Z03 (fun w9=>Below w1.heap.size w1 w9) [(0,0),(1,0),(2,0),(3,1),(4,1),(5,2),(6,0)] Yb Yb (fun KK hKK=>?_);refine Ybp ?_;refine Yj6 ?_;intro w2 Un;clear hKK KK;clear m1 wj;refine Y46 ?_;intro Kk Kr Nk HB;clear k0 k1 k2 kz r0 r1 r2 r3 rz;refine Yoi ?_;intro k0 k1 k2 kz r0 r1 r2 r3 rz;clear h2;go_wp2_with fail;refine (ec.o _ HB.o).mono ?_;rintro e w3 ⟨rfl,hb⟩;have Xy:=hU hb;have Kr:=hU (Kr.o.new_ hb);clear hb;clear k0 k1 k2 kz r0 r1 r2 r3 rz;have X5:=hU (show Below w1.heap.size w1 w3 from Un.o.trans (Xy.o.mono Un.o.size));have HT:=hU (show w3.there (w.heap.size+1) 0 (#[.string nv,.int .i64 0,.string ⟨#[]⟩,.int .i64 0]:Array Value).size from Kr.o.there);(go_wp2_with (with_reducible refine wpList_store_mid rfl 177 _ _ rfl (w.heap.size+1) 0 #[.string nv,.int .i64 0,.string ⟨#[]⟩,.int .i64 0] rfl rfl HT.o Yb Yb ?_));refine Ykv ?_;refine bodyPost_ret (v:=.tuple #[.agg #[.string nv,.int .i64 0,.string ⟨#[]⟩,.int .i64 0],.bool true]) ?_ rfl ?_
  · exact Z0n (t:=6) (s:=7) (T:=177) rfl _ _ (w.heap.size+1) [.string nv,.int .i64 0,.string ⟨#[]⟩,.int .i64 0] _ rfl (Zsy w3 (w.heap.size+1) 0 [.string nv,.int .i64 0,.string ⟨#[]⟩,.int .i64 0] HT.o) Tryz.underlying177 rfl Yb
  · rw [fq.o]
    exact ⟨rfl,Z3s.wrap (a:=w1) (b:=w3) Nk.o Dq.o (Z3s.same (HN.o.new_ Nk.o) X5.o) (Fr.setCells _ _ (Fr.refl (fun k=>k=w.heap.size+1) _) (.inl rfl)) (fun k hk=>YRk)⟩
 have q1:plV ns s=0:=h2;rw [h2] at Ve;clear h2;by_cases h3:old s=true
 case pos=>
  have fq:=hU (Znw (old:=old) h1 q1 h3);rw [h3] at ez;clear q1 h3;have e1:(s.kind != 1)=false:=YJc;clear h1;go_enter Tryz.func117,Tryz.ntmps117;go_upto_region 1 with fail;refine Yvj ?_;intro w1 HB Kk Kr k0 k1 k2 kz r0 r1 r2 r3 rz ja;have m1:=(HM.o.new_ HB.o).1;have wj:=(HM.o.new_ HB.o).2;clear m0 mz;go_upto_region 3 with fail;refine Z03 (fun w9=>Below w1.heap.size w1 w9) [(0,0),(1,0),(2,0),(3,1),(4,1),(5,2),(6,0)] Yb Yb (fun KK hKK=>?_);refine Ybp ?_;refine Yj6 ?_;intro w2 Un;clear hKK KK;clear m1 wj;refine Y46 ?_;intro Kk Kr Nk HB;clear k0 k1 k2 kz r0 r1 r2 r3 rz;refine Yoi ?_;intro k0 k1 k2 kz r0 r1 r2 r3 rz;go_wp2_with fail;refine (ez.o _ HB.o).mono ?_;rintro e w3 ⟨rfl,hb⟩;have Xy:=hU hb;have Kr:=hU (Kr.o.new_ hb);clear hb;clear k0 k1 k2 kz r0 r1 r2 r3 rz;have HT:=hU (show w3.there (w.heap.size+1) 0 (Q2b:Array Value).size from Kr.o.there);(go_wp2_with (with_reducible refine wpList_store_mid rfl 177 _ _ rfl (w.heap.size+1) 0 Q2b rfl rfl HT.o Yb Yb ?_));refine Ykv ?_;refine bodyPost_ret (v:=.tuple #[.agg Q2b,.bool false]) ?_ rfl ?_
  · exact Z0n (t:=6) (s:=7) (T:=177) rfl _ _ (w.heap.size+1) [.string ⟨#[]⟩,.int .i64 0,.string ⟨#[]⟩,.int .i64 0] _ rfl (Zsy w3 (w.heap.size+1) 0 [.string ⟨#[]⟩,.int .i64 0,.string ⟨#[]⟩,.int .i64 0] HT.o) Tryz.underlying177 rfl Yb
  · rw [fq.o]
    exact ⟨rfl,Z3s.wrap (a:=w1) (b:=w3) Nk.o Dq.o (Z3s.same (HN.o.new_ Nk.o) (Un.o.trans (Xy.o.mono Un.o.size))) (Fr.setCells _ _ (Fr.refl (fun k=>k=w.heap.size+1) _) (.inl rfl)) (fun k hk=>YRk)⟩
 (have Bf:old s=false:=by simpa using h3);obtain ⟨np,hnp⟩:∃np,np=putN ns s:=⟨_,rfl⟩;have HNP:=hU (show np.length≤1000 from by have h5:=Py.o;have h6:=Z85 ns s;rw [←hnp] at h6;omega);have fq:=hU (Zke (ns:=ns) h1 Bf);rw [←hnp] at fq;obtain ⟨nv,zw⟩:∃nv,nv=Z3y s (plV np s:Int):=⟨_,rfl⟩;rw [←zw] at fq;have Bg:=hU zw;have B8:=hU (show ∀W,Below w.heap.size w W→Calls Tryz.prog 102 #[.pointer (some ⟨nb,0,none⟩),.agg (Q1d s)] W fun e w'=>e = .returned (.tuple #[])∧Z3s D W nb np w' from fun W hW=>by rw [hnp];exact Zfv s W (HN.o.new_ hW) (by have:=Py.o;omega));rw [Bf] at ez;clear q1 h3 Bf hnp zw;have e1:(s.kind != 1)=false:=YJc;clear h1;go_enter Tryz.func117,Tryz.ntmps117;go_upto_region 1 with fail;refine Yvj ?_;intro w1 HB Kk Kr k0 k1 k2 kz r0 r1 r2 r3 rz ja;have m1:=(HM.o.new_ HB.o).1;have wj:=(HM.o.new_ HB.o).2;clear m0 mz;go_upto_region 3 with fail;refine Z03 (fun w9=>Below w1.heap.size w1 w9) [(0,0),(1,0),(2,0),(3,1),(4,1),(5,2),(6,0)] Yb Yb (fun KK hKK=>?_);refine Ybp ?_;refine Yj6 ?_;intro w2 Un;clear hKK KK;clear m1 wj;refine Y46 ?_;intro Kk Kr Nk HB;clear k0 k1 k2 kz r0 r1 r2 r3 rz;refine Yoi ?_;intro k0 k1 k2 kz r0 r1 r2 r3 rz;go_wp2_with fail;refine (ez.o _ HB.o).mono ?_;rintro e w3 ⟨rfl,hb⟩;have Xy:=hU hb;have Kr:=hU (Kr.o.new_ hb);have Kk:=hU (Kk.o.new_ hb);have HB:=hU (HB.o.trans (hb.mono HB.o.size));have X5:=hU (show Below w1.heap.size w1 w3 from Un.o.trans (hb.mono Un.o.size));clear hb;clear k0 k1 k2 kz r0 r1 r2 r3 rz;refine Yoi ?_;intro k0 k1 k2 kz r0 r1 r2 r3 rz;have m1:=(HM.o.new_ HB.o).1;have wj:=(HM.o.new_ HB.o).2;go_upto_region 6 with fail;refine Z03 (fun w9=>Below w3.heap.size w3 w9) [(0,0),(1,0),(2,0),(3,1),(4,1),(5,2)] Yb Yb (fun KK hKK=>?_);refine Ygs ?_;intro K9 hK9;refine (B8.o _ (HB.o.trans (((Zst w3.heap.size w3).drew).mono HB.o.size))).mono ?_;rintro e w4 ⟨rfl,hp4⟩;have G6:=hU (show Z3s D w3 nb np w4 from by obtain ⟨Dx,x1,x2,x3,x4⟩:=hp4;exact ⟨Dx,x1,x2,x3,(Fr.refl D w3).drew.trans x4⟩);clear hp4
 refine Y8n ?_;clear hK9 K9;refine Yf0 ?_;clear hKK KK;obtain ⟨D4,hn4,hd4⟩:=G6.o.off;have ae:=hU (show Fr D w3 w4 from by obtain ⟨_,_,_,_,hf⟩:=G6.o;exact hf);have HND:=hU (show ∀g,w.heap.size≤g→¬D g from fun g hg hk=>by have:=Dq.o g hk;omega);have Kk:=hU (Kk.o.fr ae.o (HND.o _ (Zsu _)));have Kr:=hU (Kr.o.fr ae.o (HND.o _ (Nat.le_succ _)));have HMK4:=hU (show MK w4 mb nb from (HM.o.new_ HB.o).fr ae.o HW0.o.2.1);have HNA4:=hU (show ∀W,Below w4.heap.size w4 W→Calls Tryz.prog 104 #[.pointer (some ⟨mb,0,none⟩),.agg (Q1d s)] W fun e w'=>e = .returned (.string nv)∧Below W.heap.size W w' from fun W hW=>by rw [Bg.o];exact Z81 s W (hn4.new_ hW) (HMK4.o.new_ hW) HNP.o);clear m1 wj hn4;clear k0 k1 k2 kz r0 r1 r2 r3 rz;refine Yoi ?_;intro k0 k1 k2 kz r0 r1 r2 r3 rz;go_wp2_with fail;refine (HNA4.o _ (Zst _ _)).mono ?_;rintro e w5 ⟨rfl,hb⟩;have Og:=hU hb;have Kr:=hU (Kr.o.new_ hb);clear hb;clear k0 k1 k2 kz r0 r1 r2 r3 rz;have HT:=hU (show w5.there (w.heap.size+1) 0 (#[.string nv,.int .i64 0,.string ⟨#[]⟩,.int .i64 0]:Array Value).size from Kr.o.there);(go_wp2_with (with_reducible refine wpList_store_mid rfl 177 _ _ rfl (w.heap.size+1) 0 #[.string nv,.int .i64 0,.string ⟨#[]⟩,.int .i64 0] rfl rfl HT.o Yb Yb ?_));refine Ykv ?_;refine bodyPost_ret (v:=.tuple #[.agg #[.string nv,.int .i64 0,.string ⟨#[]⟩,.int .i64 0],.bool true]) ?_ rfl ?_
 · exact Z0n (t:=6) (s:=7) (T:=177) rfl _ _ (w.heap.size+1) [.string nv,.int .i64 0,.string ⟨#[]⟩,.int .i64 0] _ rfl (Zsy w5 (w.heap.size+1) 0 [.string nv,.int .i64 0,.string ⟨#[]⟩,.int .i64 0] HT.o) Tryz.underlying177 rfl Yb
 · rw [fq.o]
   exact ⟨rfl,Z3s.wrap (a:=w3) (b:=w4) HB.o Dq.o G6.o ((Fr.of_new Og.o).into (Fr.setCells _ _ (Fr.refl (fun k=>k=w.heap.size+1) _) (.inl rfl)) (fun k hk=>.inl hk)) (fun k hk=>by have h1:=ja.o;have h2:=X5.o.size;subst hk;omega)⟩
end
end Go.Proofs.YtcnnofgaifcgaaaGreat
