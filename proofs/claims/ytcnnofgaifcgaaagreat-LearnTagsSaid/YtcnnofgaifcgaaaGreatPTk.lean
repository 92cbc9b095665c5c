/-
  Texts put together: VaryPr, LTagsH, LeafPgL, FindPgL, OpsPgL, PutPgL, MiscPgL, NewPgL, BkLnG, BkLn, DropPgL, BkLnT.
-/
import Derived.Test.YtcnnofgaifcgaaaGreatPTj
namespace Go.Proofs.YtcnnofgaifcgaaaGreat
set_option maxRecDepth 100000
set_option maxHeartbeats 32000000
set_option linter.unusedSimpArgs false
section
open Go.RowKit Go.Shelf
attribute [local go_sem] Oper.semAt_some
theorem Z1q {P:Program}{fn:Func}{t s s2:Tmp}{T:TypeId}(h:fn.results = #[.cell t T,.tmp s,.tmp s2]) (tmps:Array Value) (w:World) (g:Nat) (cs:List Value) (d:TypeDesc) (ht:tmps.getD t undef = .pointer (some ⟨g,0,none⟩)) (hc:w.rangeAt g 0 cs)
 (hu:P.underlying T=some d) (hd:d.isRow=true) (hi:(P.info? T).map (·.size)=some cs.length):(results fn tmps).run P w = .ok (.tuple #[.agg cs.toArray,tmps.getD s undef,tmps.getD s2 undef]) w:=by
 exact Ygo
theorem Z6d {P:Program}{ops:Array Oper}{rest:List Oper}{op:Oper}{a:Act}{w:World}{Q:Exit→Act→World→Prop}(hw:Region.wanted op (yielded ops a.tmps)=true) (ty:TypeId) (x:Operand) (ho:op.op = .load ty x)
 (b o:Nat) (hx:a.eval x = .pointer (some ⟨b,o,none⟩)) (cs:List Value) (d:TypeDesc) (hc:w.rangeAt b o cs)
 (hu:P.underlying ty=some d) (hd:d.isRow=true) (hi:(P.info? ty).map (·.size)=some cs.length)
 (h:wpList P ops Q rest (a.put op.dst (.agg cs.toArray)) w):wpList P ops Q (op :: rest) a w:=by
 unfold wpList;rw [if_pos hw];exact .inl (wp_load_mid ty x ho b o hx cs d hc hu hd hi h)
theorem Z2a {α:Type}{l:List α}{i:Nat}(h:i<l.length):l.take (i+1)=l.take i ++ [l[i]]:=by rw [Ztq,Zt3 h];rfl
theorem Zgh {w:World}{b o:Nat}{l m:List Value}(h:w.rangeAt b o (l++m)):w.rangeAt b o l:=fun j v hv=>h j v (by rw [Zto (Ztp.1 hv).1];exact hv)
def Z4o (m:Nat) (r:Option (Z3r×List Int)) (X:World) (e:Ending) (w':World):Prop:=Below X.heap.size X w'∧
 match r with
 | none=>e = .returned (.tuple #[.agg Q2p,.slice none 0 0,.bool false])
 | some (p,tags)=>∃A1 c1 A2 c2 A3 c3,e = .returned (.tuple #[.agg (Q0v p A1 c1 A2 c2),.slice A3 tags.length c3,.bool true])∧
   RowR (Z09 (m+1)) (fun k=>X.heap.size≤k∧k<w'.heap.size) w' A1 c1 p.conds∧RowR Z1x (fun k=>X.heap.size≤k∧k<w'.heap.size) w' A2 c2 p.acts∧Z0y w' 1 Int.cells1 A3 c3 tags∧AIn A3 (X.heap.size≤·)
theorem Z4o.no {m:Nat}{r:Option (Z3r×List Int)}{X w':World}(hr:r=none) (hb:Below X.heap.size X w'):Z4o m r X (.returned (.tuple #[.agg Q2p,.slice none 0 0,.bool false])) w':=by
 subst hr;exact ⟨hb,rfl⟩
structure PB (X:World) (cs:Array Value) (w:World):Prop where
 t:Blk w X.heap.size 36 cs
 r:Blk w (X.heap.size+1) 29 Q2p
 bel:Below X.heap.size X w
theorem PB.new_ {X w w':World}{cs:Array Value}(h:PB X cs w) (hb:Below w.heap.size w w'):PB X cs w':=⟨h.t.new_ hb,h.r.new_ hb,h.bel.trans (hb.mono h.bel.size)⟩
theorem PB.fr {M:Nat→Prop}{X w w':World}{cs:Array Value}(h:PB X cs w) (hF:Fr M w w') (hM :∀k,M k→X.heap.size+2≤k):PB X cs w':=
 ⟨h.t.fr hF (fun hm=>by have:=hM _ hm;omega),h.r.fr hF (fun hm=>by have:=hM _ hm;omega),h.bel.trans (hF.below h.bel.size (fun k hk hm=>by have:=hM k hm;omega))⟩
structure P1 (X:World) (cs:Array Value) (l:List Elem) (A:Option Addr) (c:Nat) (w:World):Prop where
 pb:PB X cs w
 own:w.ownsRow 0 50 12 (.slice A l.length c) l.length (l.flatMap Elem.cells)
 ain:AIn A (X.heap.size+2≤·)
theorem P1.new_ {X w w':World}{cs:Array Value}{l:List Elem}{A:Option Addr}{c:Nat}(h:P1 X cs l A c w) (hb:Below w.heap.size w w'):P1 X cs l A c w':=⟨h.pb.new_ hb,Z02 h.own hb,h.ain⟩
theorem P1.more {X w w':World}{cs:Array Value}{l:List Elem}{A:Option Addr}{c:Nat}{e:Elem}{v:Value}(h:P1 X cs l A c w) (hown:w'.ownsRow 0 50 12 v (l.length+1) (l.flatMap Elem.cells ++ [e].flatMap Elem.cells))
 (hg:w.grownBy w' (Value.slice A l.length c).ownBlock) (hat:v.ownBlock=(Value.slice A l.length c).ownBlock∨v.ownBlock=some w.heap.size):∃A' c',v = .slice A' (l ++ [e]).length c'∧P1 X cs (l ++ [e]) A' c' w':=by
 obtain ⟨A',c',rfl,hF,hA,hO⟩:=Z2h (E:=fun j=>∃a,A=some a∧a.block=j) (fun a ha=>⟨a,ha,rfl⟩) hown hg hat;have e2:(l ++ [e]).length=l.length+1:=Ye;refine ⟨A',c',by rw [e2],h.pb.fr hF (fun k ⟨a,ha,e⟩=>e ▸ h.ain a ha),YEk,fun a ha=>?_⟩;rcases hA a ha with ⟨b,hb,e⟩|⟨h1,_⟩
 · rw [←e];exact h.ain b hb
 · have:=h.pb.r.lt;show X.heap.size+2≤a.block;omega
theorem PB.frT {M:Nat→Prop}{X w w':World}{cs:Array Value}(h:PB X cs w) (hF:Fr M w w') (h1 :¬M X.heap.size) (h2 :¬M (X.heap.size+1)) (hM :∀k,M k→X.heap.size≤k):PB X cs w':=
 ⟨h.t.fr hF h1,h.r.fr hF h2,h.bel.trans (hF.below h.bel.size (fun k hk hm=>by have:=hM k hm;omega))⟩
structure P3 (X:World) (bx:Array Value) (nb mb:Nat) (ns:List Sym) (es:List Elem) (AO:Option Addr) (cO:Nat) (vcs:List VCo) (AC:Option Addr) (cC:Nat) (tags:List Int) (At:Option Addr) (ct:Nat) (D:Nat→Prop) (w:World):Prop where
 cs:CS X nb mb ns es AO cO vcs AC cC D w
 pb:PB X bx w
 tg:w.ownsRow 0 3 1 (.slice At tags.length ct) tags.length (tags.flatMap Int.cells1)
 ta:AIn At (fun k=>X.heap.size≤k∧¬D k)
 dn2 :∀k,D k→X.heap.size+2≤k
structure Zry (X:World) (bx:Array Value) (nb mb:Nat) (ns:List Sym) (es:List Elem) (AO:Option Addr) (cO:Nat) (vcs:List VCo) (AC:Option Addr) (cC:Nat) (tags:List Int) (At:Option Addr) (ct:Nat) (D:Nat→Prop) (v:VCo) (g c':Nat) (W1 Y:World):Prop where
 th:Y.there g (vcs.length*7) 7
 th2:(Y.setCell ⟨mb,2,none⟩ (.slice (some ⟨g,0,none⟩) (vcs.length+1) c')).there g (vcs.length*7) 7
 c2:Y.cell? ⟨mb,2,none⟩=some (.slice AC vcs.length cC)
 f2:Y.frozen? ⟨mb,2,none⟩=false
 z2:mb<Y.heap.size
 ne:mb≠g
 c2e:(Y.setCells g (vcs.length*7) v.cells).cell? ⟨mb,2,none⟩=some (.slice AC vcs.length cC)
 f2e:(Y.setCells g (vcs.length*7) v.cells).frozen? ⟨mb,2,none⟩=false
 all :∀V,V=(Y.setCells g (vcs.length*7) v.cells).setCell ⟨mb,2,none⟩ (.slice (some ⟨g,0,none⟩) (vcs.length+1) c')→P3 X bx nb mb ns es AO cO (vcs ++ [v]) (some ⟨g,0,none⟩) c' tags At ct D V∧∀b ecs,Blk W1 b 50 ecs→Blk V b 50 ecs
section
variable {X w w':World}{bx:Array Value}{nb mb:Nat}{ns:List Sym}{es:List Elem}{AO:Option Addr}{cO:Nat}{vcs:List VCo}{AC:Option Addr}{cC:Nat}{tags:List Int}{At:Option Addr}{ct:Nat}{D:Nat→Prop}
theorem P3.new_ (h:P3 X bx nb mb ns es AO cO vcs AC cC tags At ct D w) (hb:Below w.heap.size w w'):P3 X bx nb mb ns es AO cO vcs AC cC tags At ct D w':=⟨h.cs.new_ hb,h.pb.new_ hb,Z02 h.tg hb,h.ta,h.dn2⟩
theorem Z61 {e:TypeId}{size n c:Nat}{A:Option Addr}{xs:List Value}(h:w.ownsRow 0 e size (.slice A n c) n xs) (hn:0<n):∃g,A=some ⟨g,0,none⟩:=by
 rcases Z0f h with ⟨_,h0,_⟩|⟨g,cap,hv,_⟩
 · omega
 · injection hv with hA;exact ⟨g,hA⟩
theorem Zbp {g:Nat}{t:TypeId}{cs:List Value}(h:Blk w g t cs.toArray):∀j u,cs[j]? = some u→w.cell? ((⟨g,0,none⟩:Addr).add j)=some u:=fun j u hu=>by
 rw [Go.WideShapes.add_plain,Zts,h.cell];simpa using hu
theorem Zm7 :∀u∈Z6n.cells,u.oneCell'=true:=fun u hu=>Zm5 [Z6n] u (by simpa using hu)
theorem Zjs (ns:List Sym) (r:Int) (s:Sym):(Z2x ns r s).list = []:=by unfold Z2x;split<;>rfl
theorem Zq9 {v:VCo}{t:Z0z}{W:World}(h1:Blk W v.ga 196 #[.int .i64 v.at_.rel,.string v.at_.var,.int .i64 v.at_.sym.kind,.string v.at_.sym.text,.int .i64 v.at_.sym.n,.slice none 0 0]) (h2:Blk W v.gv 196 #[.int .i64 t.rel,.string t.var,.int .i64 t.sym.kind,.string t.sym.text,.int .i64 t.sym.n,.slice none 0 0])
 (hc:v.cap=1:=by rfl) (hv:v.vs = [t]:=by rfl) (ha:v.at_.list = []:=by rfl) (ht:t.list = []:=by exact Zjs _ _ _):v.Ok W:=by
 refine ⟨h1,?_,ha,fun x hx=>by rw [hv] at hx;rw [Zua.1 hx];exact ht⟩;rw [hv,hc];exact ⟨rfl,.inr ⟨v.gv,1,_,rfl,Nat.zero_le _,h2,Zsu _,YAk,rfl,rfl⟩⟩
theorem P3.push {v:VCo}{W1 Y:World}{g c':Nat}(h:P3 X bx nb mb ns es AO cO vcs AC cC tags At ct D w) (hb:Below w.heap.size w W1) (hva:w.heap.size≤v.ga) (hvv:w.heap.size≤v.gv) (hne:v.ga≠v.gv) (hok:v.Ok W1)
 (hY:Fr (fun k=>∃a,AC=some a∧a.block=k) W1 Y) (hO:Y.ownsRow 0 77 7 (.slice (some ⟨g,0,none⟩) (vcs.length+1) c') (vcs.length+1) (vcs.flatMap VCo.cells++Z6n.cells)) (hA:AIn (some ⟨g,0,none⟩) (Plus (fun k=>∃a,AC=some a∧a.block=k) W1 Y)) :
 Zry X bx nb mb ns es AO cO vcs AC cC tags At ct D v g c' W1 Y:=by
 have h1:=h.new_ hb;obtain ⟨g1,g2,g3,g4,g5,g6,g7,g8,g9⟩:=Zsa (v:=v) h1.cs hY hO hA;have hl:(vcs ++ [v]).length=vcs.length+1:=Ye;rw [hl] at g1 g2 g3;have o6:Blk Y mb 173 _:=h1.cs.mkb.fr hY (fun ⟨a,ha,e⟩=>Z01 h1.cs.co h1.cs.mkb Yc YBr);have hmZ:=Blk.farCells (g:=g) v.cells (vcs.length*7) o6 g9;have Wt:=ownsRow_setCell_other (a:=⟨mb,2,none⟩) hO (by simp [Value.ownBlock];exact fun e=>g9 e.symm) (.slice (some ⟨g,0,none⟩) (vcs.length+1) c');have Gz:=Z2m Wt;refine ⟨g5,Gz.1.there (by have:=Gz.2.1;omega),g6,g7,g8,g9,(hmZ.cell 2).trans rfl,hmZ.frozen 2,fun V hV=>?_⟩;subst hV
 have nB :∀{b:Nat}{t:TypeId}{cs:Array Value},Blk W1 b t cs→t≠173→t≠77→¬(b=mb∨∃a,AC=some a∧a.block=b):=by
  rintro b t cs hg n1 n2 (e|⟨a,ha,e⟩)
  · subst e;exact hg.ne_ h1.cs.mkb n1 rfl
  · exact Z01 h1.cs.co hg (Ne.symm n2) YBr
 refine ⟨⟨h.cs.push hb hva hvv hne hok g1 (by rw [hl];exact g2) (by rw [hl];exact g3) g4,h1.pb.frT g1 (nB h1.pb.t Yc Yc) (nB h1.pb.r Yc Yc) (fun k hk=>?_),Z0s h1.tg g1 (fun b hg hm=>?_),h.ta,h.dn2⟩,fun b ecs hg=>hg.fr g1 (nB hg Yc Yc)⟩
 · rcases hk with e|⟨a,ha,e⟩
   · subst e;exact h.cs.mge
   · exact e ▸ (h.cs.ca a ha).1
 · rcases hm with e|⟨a,ha,e⟩
   · subst e;exact Z01 h1.tg h1.cs.mkb Yc hg
   · exact Z1p h1.tg h1.cs.co Yc hg YBr
theorem P3.tag {t:Int}{v:Value}(h:P3 X bx nb mb ns es AO cO vcs AC cC tags At ct D w) (hown:w'.ownsRow 0 3 1 v (tags.length+1) (tags.flatMap Int.cells1 ++ [t].flatMap Int.cells1))
 (hg:w.grownBy w' (Value.slice At tags.length ct).ownBlock) (hat:v.ownBlock=(Value.slice At tags.length ct).ownBlock∨v.ownBlock=some w.heap.size):∃A' c',v = .slice A' (tags ++ [t]).length c'∧P3 X bx nb mb ns es AO cO vcs AC cC (tags ++ [t]) A' c' D w':=by
 obtain ⟨A',c',rfl,hF,hA,hO⟩:=Z2h (E:=fun j=>∃a,At=some a∧a.block=j) (fun a ha=>⟨a,ha,rfl⟩) hown hg hat;have e2:(tags ++ [t]).length=tags.length+1:=Ye;have Sd:=h.cs.bel.size
 have nB :∀{b:Nat}{t:TypeId}{cs:Array Value},Blk w b t cs→t≠3→¬(∃a,At=some a∧a.block=b):=by
  rintro b t cs hg n1 ⟨a,ha,e⟩;exact Z01 h.tg hg (Ne.symm n1) YBr
 have nR :∀{e:TypeId}{size n c:Nat}{A:Option Addr}{xs:List Value},w.ownsRow 0 e size (.slice A n c) n xs→e≠3→∀g,(Value.slice A n c).ownBlock=some g→¬(∃a,At=some a∧a.block=g):=by
  rintro e size n c A xs hr n1 g hg ⟨a,ha,e2⟩;exact Z1p hr h.tg n1 hg (by subst ha;subst e2;rfl)
 refine ⟨A',c',by rw [e2],⟨⟨h.cs.nm.fr hF (fun k hk ⟨a,ha,e⟩=>(h.ta a ha).2 (e ▸ hk)),h.cs.dn,h.cs.mkb.fr hF (nB h.cs.mkb Yc),h.cs.mge,h.cs.mnd,Z0s h.cs.eo hF (nR h.cs.eo Yc),h.cs.ea,Z0s h.cs.co hF (nR h.cs.co Yc),h.cs.ca,fun u hu=>(h.cs.ok u hu).fr hF (nB (h.cs.ok u hu).at_ Yc) (nR (h.cs.ok u hu).vr Yc _ rfl),h.cs.bl,h.cs.nd,h.cs.bel.trans (hF.below Sd (fun k hk ⟨a,ha,e⟩=>by have:=(h.ta a ha).1;omega))⟩,h.pb.frT hF (nB h.pb.t Yc) (nB h.pb.r Yc) (fun k ⟨a,ha,e⟩=>e ▸ (h.ta a ha).1),YEk,fun a ha=>?_,h.dn2⟩⟩;rcases hA a ha with ⟨b,hb,e⟩|⟨h1,_⟩
 · rw [←e];exact h.ta b hb
 · exact ⟨Ya,fun hd=>by have:=h.cs.nm.lt _ hd;omega⟩
end
theorem Zoc (x y:ActT) (W:World):(binOp .eql 181 (.agg (Q0f x)) (.agg (Q0f y))).run Tryz.prog W = .ok (.bool (decide (x=y))) W:=by
 rw [run_eql_struct];go_simp;by_cases h:x=y
 · subst h;simp
 · rw [Zsx h]
   have hs :∀a b:Sym,a.kind=b.kind→a.text.toList=b.text.toList→a.n=b.n→a=b:=fun a b h1 h2 h3=>Sym.ext' h1 (toList_inj h2) h3;(have ha :∀a b:Z5l,a.var.toList=b.var.toList→a.sym=b.sym→a=b:=fun a b h1 h2=>by cases a;cases b;simp only at h1 h2;rw [toList_inj h1,h2]);(have ht :∀a b:Zi6,a.op=b.op→a.a=b.a→a.b=b.b→a=b:=fun a b h1 h2 h3=>YM5);(have hx :∀a b:ActT,a.id.toList=b.id.toList→a.attr=b.attr→a.value=b.value→a.pref=b.pref→a.other=b.other→a=b:=fun a b h1 h2 h3 h4 h5=>by cases a;cases b;simp only at h1 h2 h3 h4 h5;rw [toList_inj h1,h2,h3,h4,h5]);by_cases e0:x.id.toList=y.id.toList
   case neg=>rw [if_neg e0]
   rw [if_pos e0];by_cases e1:x.attr.var.toList=y.attr.var.toList
   case neg=>rw [if_neg e1]
   rw [if_pos e1];by_cases e2:x.attr.sym.kind=y.attr.sym.kind
   case neg=>rw [if_neg e2]
   rw [if_pos e2];by_cases e3:x.attr.sym.text.toList=y.attr.sym.text.toList
   case neg=>rw [if_neg e3]
   rw [if_pos e3];by_cases e4:x.attr.sym.n=y.attr.sym.n
   case neg=>rw [if_neg e4]
   rw [if_pos e4];by_cases e5:x.value.op=y.value.op
   case neg=>rw [if_neg e5]
   rw [if_pos e5];by_cases e6:x.value.a.var.toList=y.value.a.var.toList
   case neg=>rw [if_neg e6]
   rw [if_pos e6];by_cases e7:x.value.a.sym.kind=y.value.a.sym.kind
   case neg=>rw [if_neg e7]
   rw [if_pos e7];by_cases e8:x.value.a.sym.text.toList=y.value.a.sym.text.toList
   case neg=>rw [if_neg e8]
   rw [if_pos e8];by_cases e9:x.value.a.sym.n=y.value.a.sym.n
   case neg=>rw [if_neg e9]
   rw [if_pos e9];by_cases e10:x.value.b.var.toList=y.value.b.var.toList
   case neg=>rw [if_neg e10]
   rw [if_pos e10];by_cases e11:x.value.b.sym.kind=y.value.b.sym.kind
   case neg=>rw [if_neg e11]
   rw [if_pos e11];by_cases e12:x.value.b.sym.text.toList=y.value.b.sym.text.toList
   case neg=>rw [if_neg e12]
   rw [if_pos e12];by_cases e13:x.value.b.sym.n=y.value.b.sym.n
   case neg=>rw [if_neg e13]
   rw [if_pos e13];by_cases e14:x.pref=y.pref
   case neg=>rw [if_neg e14]
   rw [if_pos e14];by_cases e15:x.other.var.toList=y.other.var.toList
   case neg=>rw [if_neg e15]
   rw [if_pos e15];by_cases e16:x.other.sym.kind=y.other.sym.kind
   case neg=>rw [if_neg e16]
   rw [if_pos e16];by_cases e17:x.other.sym.text.toList=y.other.sym.text.toList
   case neg=>rw [if_neg e17]
   rw [if_pos e17];by_cases e18:x.other.sym.n=y.other.sym.n
   case neg=>rw [if_neg e18]
   rw [if_pos e18];exact absurd (hx _ _ e0 (ha _ _ e1 (hs _ _ e2 e3 e4)) (ht _ _ e5 (ha _ _ e6 (hs _ _ e7 e8 e9)) (ha _ _ e10 (hs _ _ e11 e12 e13))) e14 (ha _ _ e15 (hs _ _ e16 e17 e18))) h
structure P6 (X:World) (bx:Array Value) (nb mb pg m:Nat) (nm_:ByteArray) (cs:List Z0a) (AC:Option Addr) (cC:Nat) (tags:List Int) (At:Option Addr) (ct:Nat) (C:Nat→Prop) (ns:List Sym) (acts:List ActT) (Aa:Option Addr) (ca:Nat) (D:Nat→Prop) (w:World):Prop where
 nm:Nm D w nb ns
 dn :∀k,D k→X.heap.size+2≤k
 mkk:MK w mb nb
 mge:X.heap.size≤mb
 mnd :¬D mb
 mnp:mb≠pg
 mna:AIn Aa (·≠mb)
 pb:PB X bx w
 pgb:Blk w pg 29 #[.string nm_,.slice AC cs.length cC,.slice Aa acts.length ca]
 pge:X.heap.size+2≤pg
 pnd :¬D pg
 cr:RowR (Z09 (m+1)) C w AC cC cs
 hC :∀k,C k→X.heap.size≤k∧¬D k∧k<w.heap.size∧k≠pg∧k≠X.heap.size+1
 ac:w.ownsRow 0 181 19 (.slice Aa acts.length ca) acts.length (acts.flatMap ActT.cells)
 aa:AIn Aa (fun k=>X.heap.size+2≤k∧¬D k∧¬C k)
 tg:w.ownsRow 0 3 1 (.slice At tags.length ct) tags.length (tags.flatMap Int.cells1)
 ta:AIn At (fun k=>X.heap.size≤k∧¬D k)
section
variable {X w w':World}{bx:Array Value}{nb mb pg m:Nat}{nm_:ByteArray}{cs:List Z0a}{AC:Option Addr}{cC:Nat}{tags:List Int}{At:Option Addr}{ct:Nat}{C:Nat→Prop}{ns ns':List Sym}{acts:List ActT}{Aa:Option Addr}{ca:Nat}{D:Nat→Prop}
theorem P6.new_ (h:P6 X bx nb mb pg m nm_ cs AC cC tags At ct C ns acts Aa ca D w) (hb:Below w.heap.size w w'):P6 X bx nb mb pg m nm_ cs AC cC tags At ct C ns acts Aa ca D w':=
 ⟨h.nm.new_ hb,h.dn,h.mkk.new_ hb,h.mge,h.mnd,h.mnp,h.mna,h.pb.new_ hb,h.pgb.new_ hb,h.pge,h.pnd,h.cr.new_ hb,fun k hk=>⟨(h.hC k hk).1,(h.hC k hk).2.1,Zsw (h.hC k hk).2.2.1 hb.size,(h.hC k hk).2.2.2⟩,Z02 h.ac hb,h.aa,Z02 h.tg hb,h.ta⟩
theorem P6.put (h:P6 X bx nb mb pg m nm_ cs AC cC tags At ct C ns acts Aa ca D w) (hp:Z3s D w nb ns' w'):∃D',P6 X bx nb mb pg m nm_ cs AC cC tags At ct C ns' acts Aa ca D' w'∧(∀g,g<w.heap.size→¬D g→¬D' g)∧Fr D w w':=by
 obtain ⟨D',g1,g2,g3,g4⟩:=hp;have hz:=g4.size;have hxz:=h.pb.bel.size;have off :∀g,g<w.heap.size→¬D g→¬D' g:=fun g hg hd hk=>(g3 g hk).elim hd (fun h=>Ya)
 have Od :∀{e:TypeId}{size n c:Nat}{A:Option Addr}{xs:List Value},w.ownsRow 0 e size (.slice A n c) n xs→AIn A (fun k=>¬D k)→w'.ownsRow 0 e size (.slice A n c) n xs:=fun {e size n c A xs} ho hA=>Z0s ho g4 (fun g hg hd=>by
  cases A with
  | none=>cases hg
  | some a=>injection hg with hg;exact hA a rfl (hg ▸ hd))
 have l1:=h.pb.r.lt
 refine ⟨D',⟨g1,fun k hk=>(g3 k hk).elim (h.dn k) (fun h=>Ya),h.mkk.fr g4 h.mnd,h.mge,off _ h.mkk.2 h.mnd,h.mnp,h.mna,?_,h.pgb.fr g4 h.pnd,h.pge,off _ h.pgb.lt h.pnd,h.cr.fr g4 (fun k hk hd=>(h.hC k hk).2.1 hd),fun k hk=>⟨(h.hC k hk).1,off k (h.hC k hk).2.2.1 (h.hC k hk).2.1,Zsw (h.hC k hk).2.2.1 hz,(h.hC k hk).2.2.2⟩,
  Od h.ac (fun a ha=>(h.aa a ha).2.1),fun a ha=>⟨(h.aa a ha).1,off _ (Z8z h.ac a ha) (h.aa a ha).2.1,(h.aa a ha).2.2⟩,Od h.tg (fun a ha=>(h.ta a ha).2),fun a ha=>⟨(h.ta a ha).1,off _ (Z8z h.tg a ha) (h.ta a ha).2⟩⟩,off,g4⟩
 exact ⟨h.pb.t.fr g4 (fun hd=>by have:=h.dn _ hd;omega),h.pb.r.fr g4 (fun hd=>by have:=h.dn _ hd;omega),h.pb.bel.trans (g4.below hxz (fun k hk hd=>by have:=h.dn k hd;omega))⟩
theorem P6.more {a:ActT}{v:Value}{Y:World}(h:P6 X bx nb mb pg m nm_ cs AC cC tags At ct C ns acts Aa ca D w) (hown:Y.ownsRow 0 181 19 v (acts.length+1) (acts.flatMap ActT.cells ++ [a].flatMap ActT.cells))
 (hg:w.grownBy Y (Value.slice Aa acts.length ca).ownBlock) (hat:v.ownBlock=(Value.slice Aa acts.length ca).ownBlock∨v.ownBlock=some w.heap.size) :
 ∃A' c',v = .slice A' (acts ++ [a]).length c'∧Blk Y pg 29 #[.string nm_,.slice AC cs.length cC,.slice Aa acts.length ca]∧P6 X bx nb mb pg m nm_ cs AC cC tags At ct C ns (acts ++ [a]) A' c' D (Y.setCell ⟨pg,2,none⟩ (.slice A' (acts ++ [a]).length c')):=by
 obtain ⟨A',c',rfl,hF,hA,hO⟩:=Z2h (E:=fun j=>∃a,Aa=some a∧a.block=j) (fun a ha=>⟨a,ha,rfl⟩) hown hg hat;have e2:(acts ++ [a]).length=acts.length+1:=Ye
 have nB :∀{b:Nat}{t:TypeId}{cs:Array Value},Blk w b t cs→t≠181→¬(∃a,Aa=some a∧a.block=b):=by
  rintro b t cs hg n1 ⟨a,ha,e⟩;exact Z01 h.ac hg (Ne.symm n1) YBr
 have i9:=h.pgb.fr hF (nB h.pgb Yc);have Td:Fr (fun k=>k=pg∨∃a,Aa=some a∧a.block=k) w (Y.setCell ⟨pg,2,none⟩ (.slice A' (acts.length+1) c')):=(hF.mono (fun k _ hk=>.inr hk)).setCell (p:=⟨pg,2,none⟩) (.inl (.inl rfl)) _;have hz:=h.pb.bel.size;have nP :∀{b:Nat}{t:TypeId}{cs:Array Value},Blk w b t cs→b≠pg→t≠181→¬(b=pg∨∃a,Aa=some a∧a.block=b):=fun hb hn ht hm=>hm.elim hn (nB hb ht);have gw:=Td.size;refine ⟨A',c',by rw [e2],i9,?_⟩;rw [e2];refine ⟨h.nm.fr Td (fun k hk hm=>?_),h.dn,h.mkk.fr Td (fun hm=>?_),h.mge,h.mnd,h.mnp,fun b hb e=>?_,h.pb.frT Td (nP h.pb.t (by have:=h.pge;omega) Yc) (nP h.pb.r (by have:=h.pge;omega) Yc) (fun k hk=>?_),?_,h.pge,h.pnd,h.cr.fr Td (fun k hk hm=>?_),fun k hk=>⟨(h.hC k hk).1,(h.hC k hk).2.1,Zsw (h.hC k hk).2.2.1 gw,(h.hC k hk).2.2.2⟩,?_,fun b hb=>?_,Z0s h.tg Td (fun g hg hm=>?_),h.ta⟩
 · rcases hm with e|⟨b,hb,e⟩
   · exact h.pnd (e ▸ hk)
   · exact (h.aa b hb).2.1 (e ▸ hk)
 · rcases hm with e|⟨b,hb,e⟩
   · exact h.mnp e
   · exact h.mna b hb e
 · rcases hA b hb with ⟨b2,hb2,e2⟩|⟨h1,_⟩
   · exact h.mna b2 hb2 (e2.trans e)
   · have:=h.mkk.2;omega
 · rcases hk with e|⟨b,hb,e⟩
   · subst e;have:=h.pge;omega
   · have:=(h.aa b hb).1;omega
 · rw [e2];exact i9.set_ 2 _
 · rcases hm with e|⟨b,hb,e⟩
   · exact (h.hC k hk).2.2.2.1 e
   · exact (h.aa b hb).2.2 (e ▸ hk)
 · rw [e2,Zta]
   exact ownsRow_setCell_other hO (fun e=>Z01 hO i9 Yc e) _
 · rcases hA b hb with ⟨b2,hb2,e2⟩|⟨h1,_⟩
   · rw [←e2];exact h.aa b2 hb2
   · exact ⟨by have:=h.pb.r.lt;omega,fun hd=>YSh,fun hc=>by have:=(h.hC _ hc).2.2.1;omega⟩
 · rcases hm with e|⟨b,hb,e⟩
   · subst e;exact Z01 h.tg h.pgb Yc hg
   · exact Z1p h.tg h.ac Yc hg (by subst hb;subst e;rfl)
theorem P6.fin (h:P6 X bx nb mb pg m nm_ cs AC cC tags At ct C ns acts Aa ca D w) (vs:List Value){V:World}(hV:V=w.setCells (X.heap.size+1) 0 vs) :
 Below X.heap.size X V∧RowR (Z09 (m+1)) (fun k=>X.heap.size≤k∧k<V.heap.size) V AC cC cs∧RowR Z1x (fun k=>X.heap.size≤k∧k<V.heap.size) V Aa ca acts∧Z0y V 1 Int.cells1 At ct tags∧AIn At (X.heap.size≤·):=by
 (have hF:Fr (fun k=>k=X.heap.size+1) w V:=by rw [hV];exact Fr.setCells vs 0 (Fr.refl _ _) (.inl rfl));have hz:=hF.size;have ln:=Z0s h.tg hF (fun g hg e=>by subst e;exact Z01 h.tg h.pb.r Yc hg);have ky:=Z0s h.ac hF (fun g hg e=>by subst e;exact Z01 h.ac h.pb.r Yc hg);refine ⟨h.pb.bel.trans (hF.below h.pb.bel.size (fun k hk e=>Ya)),(h.cr.fr hF (fun k hk e=>(h.hC k hk).2.2.2.2 e)).weaken (fun k hk=>⟨(h.hC k hk).1,by have:=(h.hC k hk).2.2.1;omega⟩),RowR.of_rd (Z0e ActT.cells_length ky) (fun a ha=>⟨by have:=(h.aa a ha).1;omega,Z8z ky a ha⟩),Z0e Int.cells1_length ln,fun a ha=>(h.ta a ha).1⟩
end
end
section
open Go.RowKit Go.Shelf
attribute [local go_sem] Oper.semAt_some
theorem Zit (w:World):Calls Tryz.prog 12 #[.slice none 0 0,.int .i64 6] w fun e w'=>e = .returned (.bool false)∧Below w.heap.size w w':=by
 go_enter Tryz.func12,Tryz.ntmps12;go_wp2_with fail
 go_loopw [5] (fun s wr=>s = .int .i64 0∧Below w.heap.size w wr) (fun _ _=>0)
 case atStart=>exact ⟨rfl,Zst _ _⟩
 case round=>
  obtain ⟨rfl,hB⟩:=hrel;have HB:=hU hB;clear hB;go_wp2_with fail;go_ret;exact ⟨rfl,HB.o⟩
def Zqf (n:Nat) (recs:List Z0c) (l:List Z24) (w:World) (e:Ending) (w':World):Prop:=∃b,e = .returned (.bool b)∧Below w.heap.size w w'∧(b=false→(recs.length≤12∧∀r∈recs,SmR2 n r∧r.elems.length≤20)∧l.length≤16)
theorem Zir {D:Nat→Prop}(n:Nat) (A:Option Addr) (c:Nat) (recs:List Z0c) (AP:Option Addr) (cP:Nat) (l:List Z24) (w:World) (h1:RowR (Z18 n) D w A c recs) (h2:Z0y w 16 Z24.cells AP cP l) :
 Calls Tryz.prog 4 #[.slice A recs.length c,.slice AP l.length cP,.slice none 0 0,.slice none 0 0] w (Zqf n recs l w):=by
 have H1:=hU h1;have H2:=hU h2;clear h1 h2;go_enter Tryz.func4,Tryz.ntmps4;go_wp2_with fail;refine (Ziq n A c recs _ H1.o).mono ?_;rintro e w1 ⟨b1,rfl,Pk,Dr⟩;have Nk:=hU Pk;have M2:=hU Dr;clear Pk Dr;cases b1
 case true=>
  go_wp2_with fail;go_ret;exact ⟨true,rfl,Nk.o,fun h=>YZt⟩
 go_wp2_with fail;refine (Zjk AP cP l 16 _ (H2.o.new_ Nk.o)).mono ?_;rintro e w2 ⟨b2,rfl,Ds,lg⟩;have Un:=hU (Nk.o.trans (lg.mono Nk.o.size));have HL2:=hU Ds;clear lg Ds;cases b2
 case false=>
  go_wp2_with fail;go_ret;exact ⟨true,rfl,Un.o,fun h=>YZt⟩
 go_wp2_with fail;refine (Zit _).mono ?_;rintro e w3 ⟨rfl,Ri⟩;have Ue:=hU (Un.o.trans (Ri.mono Un.o.size));clear Ri;go_wp2_with fail;go_ret;exact ⟨false,rfl,Ue.o,fun _=>⟨M2.o (by trivial),by have:=HL2.o (by trivial);omega⟩⟩
theorem Zs6 (w0:World):Zal 7 #[] w0 (fun _=>false):=by
 refine ⟨fun args w=>Yb,fun s W hW=>?_⟩;show Calls Tryz.prog 7 #[.agg (Q1d s)] W _;go_enter Tryz.func7,Tryz.ntmps7;exact Ycn
end
section
open Go.RowKit
structure PgL where
 kk:Int
 v:Bool
 deriving DecidableEq
def PgL.cells (x:PgL):List Value:=[.int .i64 x.kk,.bool x.v]
theorem PgL.cells_length (x:PgL):x.cells.length=2:=rfl
def Z0d (a b:PgL):Int:=Z1b a.kk b.kk
theorem Z3z:TC Z0d:=⟨fun _=>Z3c.refl _,fun _ _=>Z3c.symm _ _,fun _ _ _=>Z3c.trans _ _ _⟩
theorem Z2g {a b:PgL}:Z0d a b=0↔a.kk=b.kk:=Z3u
theorem Zo5 (a b:Int) (w:World):Calls Tryz.prog 237 #[.int .i64 a,.int .i64 b] w fun e w'=>e = .returned (.int .i64 (Z1b a b))∧w=w':=by
 go_enter Tryz.func237,Tryz.ntmps237;exact Ya9
theorem Zc9 (k : Int) (w : World) : (nilAhead 504 66 (.int .i64 k) "Compare").run Tryz.prog w = .ok (some false) w := Yb
theorem Zft (k : Int) (w : World) : (method 504 66 (.int .i64 k) "Compare").run Tryz.prog w = .ok (237, .int .i64 k) w := Yb
theorem Zqp (a b:PgL) (w:World):Calls Tryz.prog 243 #[.agg #[.int .i64 a.kk,.bool a.v],.agg #[.int .i64 b.kk,.bool b.v]] w fun e w'=>e = .returned (.int .i64 (Z0d a b))∧Below w.heap.size w w':=by
 have N:=Zc9;have M:=Zft;go_enter Tryz.func243,Tryz.ntmps243;go_wp2_with fail;refine (Zo5 a.kk b.kk _).mono ?_;rintro e w' ⟨rfl,rfl⟩;go_wp2_with fail;go_ret;exact ⟨rfl,((Zst _ _).alloc (Zsu _) _).alloc Ye _⟩
abbrev Z2r:=Z29 (α:=PgL) 130 86 2 PgL.cells
theorem Ze2 (k0 : Int) (k1 : Bool) (w : World) : (nilAhead 504 86 (.agg #[.int .i64 k0, .bool k1]) "Compare").run Tryz.prog w = .ok (some false) w := Yb
theorem Zj5 (k0 : Int) (k1 : Bool) (w : World) : (method 504 86 (.agg #[.int .i64 k0, .bool k1]) "Compare").run Tryz.prog w = .ok (243, .agg #[.int .i64 k0, .bool k1]) w := Yb
def Znh (l:List PgL) (x:PgL) (w:World) (e:Ending) (w':World):Prop:=
 e = .returned (.tuple #[.int .i64 (rank Z0d l x),.bool (has Z0d l x)])∧Below w.heap.size w w'
theorem Z7v (b c:Nat) (sn:Bool) (A:Option Addr) (l:List PgL) (x:PgL) (w:World) (hS:Z2r w b sn A c l) (hs:Srt Z0d l) (hl:(l.length:Int)≤4611686018427387904) :
 Calls Tryz.prog 56 #[.pointer (some ⟨b,0,none⟩),.agg #[.int .i64 x.kk,.bool x.v]] w (Znh l x w):=by
 have Xm:=hS.rd PgL.cells_length;have h0:=hS.cell0;have hb:=hS.lt;clear hS;have HS:=hU hs;have Ww:=hU Xm;clear hs Xm;go_enter Tryz.func56,Tryz.ntmps56;go_wp2_with fail;go_quiet (fail);go_wp2_with fail;obtain ⟨W0,rp⟩:∃W0,W0=((w.alloc (Obj.cells #[.int .i64 x.kk,.bool x.v] 86)).drewN nq):=⟨_,rfl⟩;refine Yoq ?_;intro Lg mj;have Sg:W0.cell? ⟨w.heap.size,1,none⟩=some (.bool x.v):=Yv;rw [←rp];clear rp;have jv:=hU Lg;clear Lg
 go_loopw [6,7] (fun lo hi wr=>∃i j:Nat,lo = .int .i64 i∧hi = .int .i64 j∧i≤j∧j≤l.length∧(∀k,(h:k<l.length)→k<i→Z0d l[k] x<0)∧(∀k,(h:k<l.length)→j≤k→0<Z0d l[k] x)∧Below W0.heap.size W0 wr) (fun lo hi wr=>(intOf hi).toNat - (intOf lo).toNat)
 case atStart=>exact ⟨0,l.length,rfl,rfl,Nat.zero_le _,Zsu _,fun k _ h=>absurd h Ya,fun k h h'=>absurd h Ya,Zst _ _⟩
 case round=>
  obtain ⟨i,j,rfl,rfl,hij,hj,qv,qm,hB⟩:=hrel;have sy:=hU qv;have xq:=hU qm;clear qv qm;have Sd:w.heap.size<W0.heap.size:=Zt5 W0 _ mj;by_cases hlt:i<j
  · refine Ygb ?_;intro m Le hmj hmi E1;obtain ⟨g,off,rfl,Fu,R9⟩:=Ww.o.at_ Le;refine Yu7 ?_;intro low r0;have q0:=(low ⟨g,off+m*2,none⟩ Fu).trans (R9 0 _ rfl);have q1:=(low ⟨g,off+m*2+1,none⟩ Fu).trans (R9 1 _ rfl);have y0:=(hB.cell (p:=⟨w.heap.size,0,none⟩) Sd).trans mj;have y1:=(hB.cell (p:=⟨w.heap.size,1,none⟩) Sd).trans Sg;refine Yy3 ?_;intro b1 b2 Sq;have N:=Ze2;have M:=Zj5;clear low R9 mj Sg h0;have HB:=hU hB;clear hB;refine Y9x ?_;intro y hy;rw [←hy] at q0 q1;have HY:=hU hy;clear hy;refine Y5p ?_;intro hbw hgw hww;go_wp2_with fail;rw [E1.o]
    go_region_held3 (fun w'=>w'.cell? ⟨b,0,none⟩=some (.slice (some ⟨g,off,none⟩) l.length c)∧w'.cell? ⟨g,off+m*2,none⟩=some (.int .i64 y.kk)∧w'.cell? ⟨g,off+m*2+1,none⟩=some (.bool y.v)∧w'.cell? ⟨w.heap.size,0,none⟩=some (.int .i64 x.kk)∧w'.cell? ⟨w.heap.size,1,none⟩=some (.bool x.v))
     (first|go_keep|(refine ⟨?_,?_,?_,?_,?_⟩<;>exact (Pk.cell YCg).trans Yl))
     ((go_at_call 243;refine (Zqp y x _).mono ?_;rintro e w1 ⟨rfl,Pk⟩))
    refine Ym2 ?_;intro Nk;clear r0 q0 q1 y0 y1 N M;by_cases hc:Z0d y x=0
    · have HC:=hU hc
      have t1:(Z0d y x == 0)=true:=YMk;clear hc;go_wp2_with fail;go_ret2;have e:=HC.o;rw [HY.o] at e;refine Y45 ?_;rw [Z4i Z3z HS.o Le e,(Z5j Z3z HS.o Le e).2.2.1];rfl
    · have t1:(Z0d y x == 0)=false:=by simp [hc]
      by_cases hc2:Z0d y x<0
      · have HC:=hU hc2
        have t2:decide (Z0d y x<0)=true:=YQw;clear hc hc2;go_wp2_with fail;go_roundw
        case rel=>
         refine Yzl ?_;intro k h1 h2 e;rw [HY.o] at e;rcases Nat.lt_or_ge k m with h3|h3
         · exact Z3z.lt_of_lt_of_le (HS.o.lt h3 Le) Ya
         · exact Yzs
        case measure=>simp [intOf];omega
      · have t2:decide (Z0d y x<0)=false:=by simpa using hc2
        have Nn:0<Z0d y x:=Ya;have HC:=hU Nn;clear hc hc2 Nn;go_wp2_with fail;go_roundw
        case rel=>
         refine Yl0 ?_;intro k h1 h2 e;rw [HY.o] at e;rcases Nat.lt_or_ge m k with h3|h3
         · exact (Z3z.symm _ _).1 (Z3z.lt_trans ((Z3z.symm _ _).2 e) (HS.o.lt h3 h1))
         · exact Yzs
        case measure=>simp [intOf];omega
  · exact Y53
theorem Zhe:(Tryz.prog.info? 86).map (fun i=>(i.zero,i.size,i.bytes))=some (some (.agg #[.int .i64 0,.bool false]),2,16):=Yb
theorem PgL.one (x:PgL):∀u∈PgL.cells x,u.oneCell'=true:=by intro u hu;simp [PgL.cells] at hu;rcases hu with rfl|rfl<;>rfl
theorem PgL.oneAll (l:List PgL):∀u∈l.flatMap PgL.cells,u.oneCell'=true:=by intro u hu;obtain ⟨x,_,hx⟩:=List.mem_flatMap.1 hu;exact PgL.one x u hx
def Z8d (w:World) (b:Nat) (sn:Bool) (A:Option Addr) (l:List PgL) (e:Ending) (w':World):Prop:=
 e = .returned (.tuple #[])∧∃A' c',Z2r w' b false A' c' l∧Fr (· = b) w w'∧Z1w w sn A false A'
theorem Zjc (b c:Nat) (A:Option Addr) (l:List PgL) (w:World) (hS:Z2r w b false A c l) :
 Calls Tryz.prog 57 #[.pointer (some ⟨b,0,none⟩)] w (Z8d w b false A l):=by
 have h1:=hS.cell1;have HS:=hU hS;clear hS;go_enter Tryz.func57,Tryz.ntmps57;exact Y3p
theorem Zg4 (b c:Nat) (A:Option Addr) (l:List PgL) (w:World) (hS:Z2r w b true A c l) (hl:(l.length:Int)≤1000000000) :
 Calls Tryz.prog 57 #[.pointer (some ⟨b,0,none⟩)] w (Z8d w b true A l):=by
 obtain ⟨i0,hi,Nc,rm,Aj⟩:=info_parts Zhe;refine Y8h ?_;intro h0 h1 hb f0 f1;have Xm:=hS.rd PgL.cells_length;have HB:=hU hS.blk;have Ww:=hU Xm;clear hS Xm;refine Yn9 ?_;intro e1
 have hmk :∀W:World,(Instr.makeSlice 128 (.int .i64 0) (.int .i64 ((l.length:Int)+1))).run Tryz.prog W = .ok (.slice (some ⟨W.heap.size,0,none⟩) 0 (l.length+1)) (W.alloc (.cells (madeCells (Value.cells (.agg #[.int .i64 0,.bool false])) ((l.length+1)*2)) 86)):=fun W=>by
  have h:=run_make (P:=Tryz.prog) W 128 86 i0 _ Tryz.underlying128 hi Nc .i64 .i64 0 ((l.length:Int)+1) Ya Ya YV8 Ya;exact Y2k
 go_enter Tryz.func57,Tryz.ntmps57;go_wp2_with fail;refine Z03 (fun w9=>Below w.heap.size w w9) [(0,0),(1,0),(2,0),(3,0),(4,1),(5,0),(6,0),(8,0),(9,0),(10,0),(11,1),(7,2),(12,2),(13,0),(14,0),(15,2)] Yb Yb (fun KK hKK=>?_);refine Yg8 ?_;intro K9 hK9
 refine Z0l _ Yd _ _ _ Yd 86 i0 _ 2 16 Tryz.underlying128 hi Nc rm Aj rfl Ya _ 0 [] Yd (World.ownsRow_made _ _ _ (Nat.zero_le _) Yj YFi) A l.length c (l.flatMap PgL.cells) Yd (Z0u PgL.cells_length l)
  ((Ww.o.drew.alloc _).news PgL.cells_length Ya) (PgL.oneAll l) Yj Ya ?_
 intro v2 w2 Od Cf hnil Xd;refine Y8n ?_;clear hK9 K9;rw [Zts,Ztk] at Od;obtain ⟨A',c',rfl,_,_,hz⟩:=Z14 Od;have Nk:=(HB.o.drew.alloc (.cells (madeCells (Value.cells (.agg #[.int .i64 0,.bool false])) ((l.length+1)*2)) 86)).grown Cf Yy;exact Yzw
theorem Zmc (b c:Nat) (sn:Bool) (A:Option Addr) (l:List PgL) (w:World) (hS:Z2r w b sn A c l) (hl:(l.length:Int)≤1000000000) :
 Calls Tryz.prog 57 #[.pointer (some ⟨b,0,none⟩)] w (Z8d w b sn A l):=by
 cases sn
 · exact Zjc b c A l w hS
 · exact Zg4 b c A l w hS hl
def Z8i (w:World) (b:Nat) (sn:Bool) (A:Option Addr) (l:List PgL) (x:PgL) (e:Ending) (w':World):Prop:=
 e = .returned (.bool (!has Z0d l x))∧∃sn' A' c',Z2r w' b sn' A' c' (put Z0d l x)∧Fr (Z0w b sn A) w w'∧Z1w w sn A sn' A'
theorem Zch (b c:Nat) (sn:Bool) (A:Option Addr) (l:List PgL) (x:PgL) (w:World) (hS:Z2r w b sn A c l) (hs:Srt Z0d l) (hl:(l.length:Int)≤100000000) (hh:has Z0d l x=true) :
 Calls Tryz.prog 31 #[.pointer (some ⟨b,0,none⟩),.agg #[.int .i64 x.kk,.bool x.v]] w (Z8i w b sn A l x):=by
 have HS:=hU hS;have HO:=hU hs;clear hS hs;go_enter Tryz.func31,Tryz.ntmps31;go_wp2_with fail;refine (Z7v b c sn A l x _ (HS.o.new_ ((Zst _ _).alloc (Zsu _) _)) HO.o Ya).mono ?_;exact Yhn
theorem Zgc (b c:Nat) (sn:Bool) (A:Option Addr) (l:List PgL) (x:PgL) (w:World) (hS:Z2r w b sn A c l) (hs:Srt Z0d l) (hl:(l.length:Int)≤100000000) (hh:has Z0d l x=false) :
 Calls Tryz.prog 31 #[.pointer (some ⟨b,0,none⟩),.agg #[.int .i64 x.kk,.bool x.v]] w (Z8i w b sn A l x):=by
 obtain ⟨i0,hi,Nc,rm,Aj⟩:=info_parts Zhe;refine Yc5 ?_;intro HS HO hb;clear hS hs;have iu:=Z62 (cmp:=Z0d) l x;go_enter Tryz.func31,Tryz.ntmps31;go_wp2_with fail;refine Yf4 ?_;intro fm;refine Ytf ?_;intro w1 Pk M2 hsz1;have y0:=(Pk.cell (p:=⟨w.heap.size,0,none⟩) Ye).trans ((Blk.new w 86 #[.int .i64 x.kk,.bool x.v]).cell 0);have y1:=(Pk.cell (p:=⟨w.heap.size,1,none⟩) Ye).trans ((Blk.new w 86 #[.int .i64 x.kk,.bool x.v]).cell 1);have Nk:=hU Pk;clear Pk;go_wp2_with fail;refine (Zmc b c sn A l _ M2.o Ya).mono ?_;refine Yet ?_;intro w2 A1 c1 F7 Td Uz hsz2;refine Yp2 ?_;intro x0;have x1:w2.cell? ⟨w.heap.size,1,none⟩=some (.bool x.v):=(Td.cell (p:=⟨w.heap.size,1,none⟩) Yg Yg).trans y1;refine Y11 ?_;intro s0 f0 hb2 L5 fk qq Vy;clear F7 Td Uz y0 y1;go_wp2_with fail;refine Z03 (fun w9=>Below w2.heap.size w2 w9) [(0,0),(1,0),(2,0),(3,0),(4,1),(5,1),(6,2),(7,2),(8,0),(9,0),(10,2)] Yb Yb (fun KK hKK=>?_);refine Yg8 ?_;intro K9 hK9
 refine Z0l _ Yd _ _ _ Yd 86 i0 _ 2 16 Tryz.underlying128 hi Nc rm Aj rfl Ya _ l.length (l.flatMap PgL.cells) Yd (Z02 fk.o.row (((Zst _ _).drew).alloc (Zsu _) _)) (some ⟨w2.heap.size,0,none⟩) 1 1 (PgL.cells x) Yd Yd
  (fun _=>⟨_,rfl,Zte (heap_alloc_new _ _)⟩) (PgL.one x) Yj Ya ?_
 intro v2 w3 Od Cf Si Xd;refine Y8n ?_;clear hK9 K9
 obtain ⟨g,c2,rfl⟩:∃g c2,v2 = .slice (some ⟨g,0,none⟩) (l.length+1) c2:=by
  exact Yrs
 have uw:(Value.slice A1 l.length c1).ownBlock≠some w.heap.size:=by
  exact Y9b
 have pm:=(fk.o.blk.drew.alloc (.cells #[.int .i64 x.kk,.bool x.v] 86)).grown Cf (Z01 fk.o.row fk.o.blk Yc);refine Yq7 ?_;intro c0 z0 Ue ss yr;clear pm Od Cf;refine Ybt ?_;refine Y1l ?_;clear hKK KK;refine Y4c ?_;intro hlg
 have hG:(Z0w b sn A g∨w.heap.size≤g)∧Z1w w sn A false (some ⟨g,0,none⟩)∧g≠w.heap.size∧g≠b:=by
  exact Y1k
 obtain ⟨Cr,C5,Lu,Dg⟩:=hG;refine Yp0 ?_;intro w4 N8;have Ll:Blk w4 b 130 #[.slice (some ⟨g,0,none⟩) (l.length+1) c2,.bool false]:=YDu
 have jy:w4.ownsRow 0 86 2 (.slice (some ⟨g,0,none⟩) (l.length+1) c2) (l.length+1) ((Z0k l x l.length).flatMap PgL.cells):=by
  exact Yei
 have uc:Fr (Z0w b sn A) w w4:=by
  exact Yh8
 have z0:w4.cell? ⟨w.heap.size,0,none⟩=some (.int .i64 x.kk):=by
  exact Y07
 have z1:w4.cell? ⟨w.heap.size,1,none⟩=some (.bool x.v):=by
  exact Ysn
 refine Yn7 ?_;intro Ku;intro sk Kw Ni pq ae s4 E7;clear s4 N8 Ll jy uc Xd Cr C5 Si x0 x1 s0 f0;go_wp2_with fail
 go_loopw [7] (fun s wr=>∃i:Nat,s = .int .i64 i∧rank Z0d l x≤i∧i≤l.length∧wr.ownsRow 0 86 2 (.slice (some ⟨g,0,none⟩) (l.length+1) c2) (l.length+1) ((Z0k l x i).flatMap PgL.cells)∧Fr (· = g) w4 wr) (fun s wr=>(intOf s).toNat)
 case atStart=>exact ⟨l.length,Yn,iu,Zsu _,pq.o,Fr.refl _ _⟩
 case round=>
  obtain ⟨i,rfl,hi1,ul,Od,zp⟩:=hrel;refine Yul ?_;intro hgw r0 fz Cj Is;clear Od zp;by_cases hlt:rank Z0d l x<i
  · obtain ⟨j,rfl⟩:∃j,i=j+1:=⟨i - 1,Ya⟩
    have hj:j<l.length:=Ya;have Xm:=Z0e (A:=some ⟨g,0,none⟩) (c:=c2) (l:=Z0k l x (j+1)) PgL.cells_length YCh;obtain ⟨g',o',Pm,_,R9⟩:=Xm.at_ (k:=j) Yu;injection Pm with Pm;injection Pm with hg1 hg2;subst hg1;subst hg2;rw [Z2n l x hj] at R9;have q0:wr.cell? ⟨g,j*2,none⟩=some (.int .i64 l[j].kk):=Yq;have q1:wr.cell? ⟨g,j*2+1,none⟩=some (.bool l[j].v):=YO5
    have rmj:Room wr g 86 (c2*2)∧l.length+1≤c2:=by
     exact Yty
    obtain ⟨zm,re⟩:=rmj;obtain ⟨u0,t0⟩:=zm.cell (i:=(j+1)*2) Ya;obtain ⟨u1,t1⟩:=zm.cell (i:=(j+1)*2+1) Ya;refine Yqp ?_;intro b0 b1 b4 b2 b3 w1 w2;clear R9 Xm zm;refine Yay ?_;intro y hy;rw [←hy] at q0 q1;refine Ybq ?_;intro HY U9;clear hy;go_wp2_with fail;refine Z03 (fun w9=>Below wr.heap.size wr w9) [(0,0),(1,0),(2,0),(3,1),(4,0),(5,0),(6,0),(7,0),(8,1),(9,0),(10,0),(11,0),(12,1),(13,0),(14,2)] Yb Yb (fun KK hKK=>?_);refine Yzy ?_;clear hKK KK;go_wp2_with fail;go_roundw
    case rel=>
     refine ⟨j,Yn,Ya,Ya,?_,Fr.drew (((Is.o).setCell (p:=⟨g,(j+1)*2,none⟩) (.inl rfl) (_)).setCell (p:=⟨g,(j+1)*2+1,none⟩) (.inl rfl) (_))⟩;have Ss:=((((Cj.o).stored ((j+1)*2) (.int .i64 y.kk)).1).stored ((j+1)*2+1) (.bool y.v)).1
     have he:setAll ((Z0k l x (j+1)).flatMap PgL.cells) ((j+1)*2) (PgL.cells y)=(Z0k l x j).flatMap PgL.cells:=by
      rw [Z4r PgL.cells_length Ya _ (j+1) Yu,HY.o,Z2o l x hj]
     rw [←he];exact Ss
    case measure=>simp [intOf]<;>omega
  · obtain rfl:i=rank Z0d l x:=by omega
    have rmj:Room wr g 86 (c2*2)∧l.length+1≤c2:=by
     exact Yty
    obtain ⟨zm,re⟩:=rmj;obtain ⟨k,hk⟩:∃k,k=rank Z0d l x:=⟨_,rfl⟩;rw [←hk] at ul hlt ⊢;obtain ⟨u0,t0⟩:=zm.cell (i:=k*2) Ya;obtain ⟨u1,t1⟩:=zm.cell (i:=k*2+1) Ya;refine Yj7 ?_;intro x0 x1;refine Ya8 ?_;intro b1 b2 HK hkw U9;clear zm hk z0 z1;go_wp2_with fail;refine Z03 (fun w9=>Below wr.heap.size wr w9) [(0,0),(1,0),(2,0),(3,1),(4,0),(5,1),(6,0),(7,2)] Yb Yb (fun KK hKK=>?_);refine Yzy ?_;clear hKK KK;go_wp2_with fail;go_ret;have uy:=Cj.o;rw [←HK.o] at uy;have Ss:=((((uy).stored (k*2) (.int .i64 x.kk)).1).stored (k*2+1) (.bool x.v)).1
    have he:setAll ((Z0k l x k).flatMap PgL.cells) (k*2) (PgL.cells x)=(put Z0d l x).flatMap PgL.cells:=by
     rw [Z4r PgL.cells_length Ya _ k Yu,Z3b l x ul,Z6b Z3z HO.o hh,HK.o]
    have ju:=Z2y Z3z HO.o hh;refine ⟨YUb,false,some ⟨g,0,none⟩,c2,⟨?_,?_⟩,?_,?_⟩
    · rw [ju]
      exact ((Ni.o.fr Is.o (fun h=>Dg h.symm)).far (p:=⟨g,k*2,none⟩) (fun h=>Dg h.symm) _).far (p:=⟨g,k*2+1,none⟩) (fun h=>Dg h.symm) _
    · rw [ju,←he]
      exact Ss
    · exact ae.o.into (Fr.drew (((Is.o).setCell (p:=⟨g,k*2,none⟩) (.inl rfl) (_)).setCell (p:=⟨g,k*2+1,none⟩) (.inl rfl) (_))) (fun k hk=>YWh)
    · exact Kw.o
theorem Zgb (b c:Nat) (sn:Bool) (A:Option Addr) (l:List PgL) (x:PgL) (w:World) (hS:Z2r w b sn A c l) (hs:Srt Z0d l) (hl:(l.length:Int)≤100000000) :
 Calls Tryz.prog 31 #[.pointer (some ⟨b,0,none⟩),.agg #[.int .i64 x.kk,.bool x.v]] w (Z8i w b sn A l x):=by
 cases hh:has Z0d l x
 · exact Zgc b c sn A l x w hS hs hl hh
 · exact Zch b c sn A l x w hS hs hl hh
theorem Zin (b c:Nat) (sn:Bool) (A:Option Addr) (l:List PgL) (x:PgL) (w:World) (hS:Z2r w b sn A c l) (hs:Srt Z0d l) (hl:(l.length:Int)≤1000000000) (hh:has Z0d l x=false) :
 Calls Tryz.prog 29 #[.pointer (some ⟨b,0,none⟩),.agg #[.int .i64 x.kk,.bool x.v]] w fun e w'=>e = .returned (.tuple #[.agg #[.int .i64 0,.bool false],.bool false])∧Below w.heap.size w w':=by
 have HS:=hU hS;have HO:=hU hs;clear hS hs;go_enter Tryz.func29,Tryz.ntmps29;go_wp2_with fail;refine (Z7v b c sn A l x _ (HS.o.new_ ((((Zst _ _).alloc (Zsu _) _).alloc Ye _).alloc Yk _)) HO.o Ya).mono ?_;rintro e w1 ⟨rfl,Pk⟩;refine Y0d ?_;intro Al hf1 hz1 HB;clear Pk;go_wp2_with fail;exact bodyPost_ret (v:=.tuple #[.agg #[.int .i64 0,.bool false],.bool false]) (by simp [results,Tryz.results29,go_sem,Al]) rfl ⟨rfl,Yt⟩
theorem Zik (b c:Nat) (sn:Bool) (A:Option Addr) (l:List PgL) (x y:PgL) (w:World) (hS:Z2r w b sn A c l) (hs:Srt Z0d l) (hl:(l.length:Int)≤1000000000) (hh:has Z0d l x=true) (hy:l[rank Z0d l x]? = some y) :
 Calls Tryz.prog 29 #[.pointer (some ⟨b,0,none⟩),.agg #[.int .i64 x.kk,.bool x.v]] w fun e w'=>e = .returned (.tuple #[.agg #[.int .i64 y.kk,.bool y.v],.bool true])∧Below w.heap.size w w':=by
 have HS:=hU hS;have HO:=hU hs;obtain ⟨iu,xf⟩:=Ztp.1 hy;have Xm:=hS.rd PgL.cells_length;have s0:=hS.cell0;have hb:=hS.lt;clear hS hs hy;obtain ⟨g,off,rfl,Fu,R9⟩:=Xm.at_ iu;rw [xf] at R9;obtain ⟨k,hk⟩:∃k,k=rank Z0d l x:=⟨_,rfl⟩;rw [←hk] at R9 iu;have q0:w.cell? ⟨g,off+k*2,none⟩=some (.int .i64 y.kk):=Yq;have q1:w.cell? ⟨g,off+k*2+1,none⟩=some (.bool y.v):=YO5;refine Ysh ?_;intro b1 b2;have HK:=hU hk;clear R9 Xm xf hk;go_enter Tryz.func29,Tryz.ntmps29;go_wp2_with fail;refine (Z7v b c sn _ l x _ (HS.o.new_ ((((Zst _ _).alloc (Zsu _) _).alloc Ye _).alloc Yk _)) HO.o Ya).mono ?_;rintro e w1 ⟨rfl,Pk⟩;rw [←HK.o];refine Y0d ?_;intro Al hf1 hz1 HB;clear Pk;have r0:=(HB.o.cell (p:=⟨b,0,none⟩) hb).trans s0;have r1:=(HB.o.cell (p:=⟨g,off+k*2,none⟩) Fu).trans q0;have r2:=(HB.o.cell (p:=⟨g,off+k*2+1,none⟩) Fu).trans q1;clear s0 q0 q1;go_wp2_with fail;exact bodyPost_ret (v:=.tuple #[.agg #[.int .i64 y.kk,.bool y.v],.bool true]) (by simp [results,Tryz.results29,go_sem,Al]) rfl ⟨rfl,Yt⟩
def Zi0 (w:World) (xs:List PgL) (e:Ending) (w':World):Prop:=
 ∃k,e = .returned (.pointer (some ⟨k,0,none⟩))∧w.heap.size≤k∧∃sn A c,Z2r w' k sn A c (puts Z0d [] xs)∧AIn A (w.heap.size≤·)∧Below w.heap.size w w'
theorem Zr5 (A:Option Addr) (c:Nat) (xs:List PgL) (w:World) (hrd:Z0y w 2 PgL.cells A c xs) (hl:(xs.length:Int)≤10000000) :
 Calls Tryz.prog 28 #[.slice A xs.length c] w (Zi0 w xs):=by
 have Ww:=hU hrd;clear hrd;go_enter Tryz.func28,Tryz.ntmps28;go_wp2_with fail;obtain ⟨W0,rp⟩:∃W0,W0=w.alloc (.cells #[.slice none 0 0,.bool false] 130):=⟨_,rfl⟩;have yj:Below w.heap.size w W0:=Yp;have Ud:Z2r W0 w.heap.size false none 0 []:=⟨Yw,⟨Ye,.inl ⟨rfl,rfl⟩⟩⟩;rw [←rp];clear rp;have jv:=hU yj;have Vf:=hU Ud;clear yj Ud
 go_loopw [10] (fun s wr=>∃i:Nat,s = .int .i64 i∧i≤xs.length∧∃sn A' c',Z2r wr w.heap.size sn A' c' (puts Z0d [] (xs.take i))∧AIn A' (w.heap.size≤·)∧Below w.heap.size w wr) (fun s wr=>xs.length - (intOf s).toNat)
 case atStart=>exact ⟨0,rfl,Nat.zero_le _,false,none,0,Vf.o,AIn.none_ _,jv.o⟩
 case round=>
  obtain ⟨i,rfl,hi,sn,A',c',hS,Ml,hB⟩:=hrel;have HS:=hU hS;have HA:=hU Ml;have HB:=hU hB;clear hS Ml hB;by_cases hlt:i<xs.length
  · refine Ycc ?_;intro x hx
    obtain ⟨g,off,rfl,hgs,R9⟩:=(Ww.o.fr (Fr.of_new (M:=fun _=>False) HB.o) (fun _ _ h=>h)).at_ hlt;rw [←hx] at R9;have q0:wr.cell? ⟨g,off+i*2,none⟩=some (.int .i64 x.kk):=Yq;have q1:wr.cell? ⟨g,off+i*2+1,none⟩=some (.bool x.v):=YO5;refine Yhh ?_;intro b1 b2 HX;clear R9 hx;go_wp2_with fail;have Nl:=Srt.puts Z3z (xs.take i) (Srt.nil (cmp:=Z0d))
    have Vx:(((puts Z0d [] (xs.take i)).length:Nat):Int)≤100000000:=by
     have:=Z1e Z3z (xs.take i) (Srt.nil (cmp:=Z0d));exact Yt5
    refine (Zgb w.heap.size c' sn A' _ x _ (HS.o.new_ ((Zst _ _).alloc (Zsu _) _)) Nl Vx).mono ?_;rintro e w1 ⟨rfl,Nf,A2,c2,F7,Td,Uz⟩
    have Ky:Below w.heap.size w w1:=(HB.o.alloc HB.o.size _).trans (Td.below YI3 (fun k hk hm=>by
     rcases hm with hm|⟨_,a,ha,hm⟩
     · omega
     · have:=HA.o a ha;omega))
    have jw:AIn A2 (w.heap.size≤·):=by
     exact Yxb
    have fk:=hU F7;have Nk:=hU Ky;have Ns:=hU jw;clear F7 Ky jw Td Uz Nl Vx q0 q1;exact Yqt
  · exact Yro
abbrev zPgL (k:Int):PgL:=⟨k,false⟩
theorem Zgy (k:Int) (w:World):Calls Tryz.prog 30 #[.int .i64 k] w fun e w'=>e = .returned (.agg #[.int .i64 k,.bool false])∧Below w.heap.size w w':=by
 obtain ⟨W,hW⟩:∃W,W=w.alloc (.cells #[.int .i64 0,.bool false] 86):=⟨_,rfl⟩;(have hR:Blk W w.heap.size 86 #[.int .i64 0,.bool false]:=by rw [hW];exact Blk.new _ _ _);have hB:Below w.heap.size w W:=YZ3;have ht:W.there w.heap.size 0 (#[.int .i64 k,.bool false]:Array Value).size:=hR.there;have HT:=hU ht;have HB:=hU hB;clear ht hR hB;go_enter Tryz.func30,Tryz.ntmps30;go_upto_region 1 with (fail);rw [←hW];clear hW;(go_wp2_with (with_reducible refine wpList_store_mid rfl 86 _ _ rfl w.heap.size 0 #[.int .i64 k,.bool false] rfl rfl HT.o Yb Yb ?_));refine Ykv ?_;refine bodyPost_ret (v:=.agg #[.int .i64 k,.bool false]) ?_ rfl ⟨rfl,Below.setCells' _ _ HB.o Ya⟩;exact Z1j (t:=2) (T:=86) rfl _ _ w.heap.size [.int .i64 k,.bool false] _ rfl (Zsy W w.heap.size 0 [.int .i64 k,.bool false] HT.o) Tryz.underlying86 rfl Yb
theorem Z1w.of_PgL {a b:World}(h:Below a.heap.size a b){sn sn':Bool}{A A':Option Addr}(hm:Z1w b sn A sn' A'):Z1w a sn A sn' A':=
 hm.imp id (fun ⟨h1,g,h2,h3⟩=>⟨h1,g,by have:=h.size;omega,h3⟩)
theorem Zki (w:World):Calls Tryz.prog 17 #[] w fun e w'=>∃bm bp sn A c,e = .returned (.pointer (some ⟨bm,0,none⟩))∧w.heap.size≤bm∧w.heap.size≤bp∧AIn A (w.heap.size≤·)∧Blk w' bm 88 #[.pointer (some ⟨bp,0,none⟩)]∧Z2r w' bp sn A c []∧Below w.heap.size w w':=by
 go_enter Tryz.func17,Tryz.ntmps17;go_wp2_with fail;refine (Zr5 none 0 [] _ (Z0y.nil _ _ _) Ye).mono ?_;rintro e w1 ⟨bp,rfl,iv,sn,A,c,hS,hA,hB⟩;have HS:=hU hS;have HB:=hU hB;clear hS hB;go_wp2_with fail;go_ret;have Ct:Below w1.heap.size w1 (w1.alloc (.cells #[.pointer (some ⟨bp,0,none⟩)] 88)):=(Zst _ _).alloc (Zsu _) _;exact Ylk
theorem Zkm (bm bp cc:Nat) (sn:Bool) (A:Option Addr) (m:List PgL) (x:PgL) (w:World) (hM:Blk w bm 88 #[.pointer (some ⟨bp,0,none⟩)]) (hS:Z2r w bp sn A cc m) (hs:Srt Z0d m) (hl:(m.length:Int)≤1000000) (hh:has Z0d m x=false) :
 Calls Tryz.prog 18 #[.pointer (some ⟨bm,0,none⟩),.int .i64 x.kk,.bool x.v] w fun e w'=>e = .returned (.bool true)∧∃sn' A' c',Z2r w' bp sn' A' c' (put Z0d m x)∧Fr (Z0w bp sn A) w w'∧Z1w w sn A sn' A':=by
 obtain ⟨c,hc⟩:∃c,c=x.kk:=⟨_,rfl⟩;obtain ⟨xv,hv⟩:∃v,v=x.v:=⟨_,rfl⟩;(have hx:x=⟨c,xv⟩:=by rw [hc,hv]);rw [←hc,←hv];subst hx;clear hc hv;have of:has Z0d m ⟨c,false⟩=false:=hh;have s0:=hM.c1;have hml:=hM.lt;have HS:=hU hS;have HO:=hU hs;have HM:=hU hM;have Wv:=hU hh;have HH:=hU of;clear hS hs hM hh of;go_enter Tryz.func18,Tryz.ntmps18;go_upto_region 3 with (fail)
 go_cut [8] from 11 (fun b wc=>b = .bool false∧Below w.heap.size w wc)
 case first=>
  refine Z1g (fun w9=>Below w.heap.size w w9) [0,1,2,3,4,7,8,9,12] [3] (.fork [(0,0),(1,0),(2,0),(3,1),(4,0)] 5 (.fork [] 6 (.fin [(7,0),(8,0),(9,0),(10,2),(11,2),(12,0)]) 10 (.fin [(6,2),(7,0),(8,0),(9,0),(11,2),(12,0)])) 10 (.fin [(5,2),(6,2),(7,0),(8,0),(9,0),(11,2),(12,0)])) Yb Yb Yb (fun KK hKK=>?_);refine Ypt ?_;have HB:=hU (Zst w.heap.size w).drew;obtain ⟨V,hV⟩:∃V,V=w.drew:=⟨_,rfl⟩;rw [←hV] at HB ⊢;clear hV
  repeat' (first
   | ((first|(refine Z1r ?_ (Or.inl ⟨Yd,fun w9=>?_⟩) ?_;rotate_left 1;go_simp;with_reducible rfl)|(refine Z1y ?_ (HB.o) (Or.inl ⟨Yd,fun w9 hw9=>?_⟩) ?_;rotate_left 1;obtain ⟨hc9,hf9⟩:=Z0i hw9;go_simp;with_reducible rfl)|refine Z1r undef (Or.inr ⟨Yd,rfl⟩) ?_|refine Z1y undef (HB.o) (Or.inr ⟨Yd,rfl⟩) ?_);go_frame)
   | ((first|refine Z1n (fun K9 hK9=>?_)|refine Z1c rfl (fun K9 hK9=>?_));refine Z0h rfl 86 _ _ rfl g 0 #[.int .i64 0,.bool false] rfl rfl (show _ from HK.o.there) Yb Yb ?_;show K9 _ (V.setCells g 0 [.int .i64 0,.bool false]);have HR:=hU (Zsy V g 0 [.int .i64 0,.bool false] (show _ from HK.o.there));have HB:=hU (Below.setCells' [.int .i64 0,.bool false] 0 HB.o HG.o);obtain ⟨V,hV⟩:∃V9,V9=V.setCells g 0 [.int .i64 0,.bool false]:=⟨_,rfl⟩;rw [←hV] at HR HB;rw [←hV];have HL:=hU (show g<V.heap.size from Zt5 _ _ (HR.o 0 _ rfl));clear hV;(first|refine hK9 _ _ (HB.o) ?_|refine hK9 _ _ (fun _=>HB.o) ?_);clear hK9 K9;(try go_frame);try simp only [Z08,Zsv])
   | ((first|refine Z1n (fun K9 hK9=>?_)|refine Z1c rfl (fun K9 hK9=>?_));go_simp;(first
     | (refine (Zgy c _).mono ?_;rintro e V ⟨rfl,hb⟩;have HB:=hU (HB.o.trans (hb.mono HB.o.size));(try have HK:=hU (HK.o.new_ hb));clear hb)
     | (refine (Zin bp cc sn A m (zPgL c) _ (HS.o.new_ (HB.o)) HO.o Ya HH.o).mono ?_;rintro e V ⟨rfl,hb⟩;have HB:=hU (HB.o.trans (hb.mono HB.o.size));(try have HK:=hU (HK.o.new_ hb));clear hb)
     | (obtain ⟨g,hg⟩:∃g,g=V.heap.size:=⟨_,rfl⟩;have hk:=Blk.new V 86 #[.int .i64 0,.bool false];have HG:=hU (show w.heap.size≤g from YWc);have HB:=hU (HB.o.alloc HB.o.size (.cells #[.int .i64 0,.bool false] 86));obtain ⟨V,hV⟩:∃V9,V9=V.alloc (.cells #[.int .i64 0,.bool false] 86):=⟨_,rfl⟩;rw [←hV,←hg] at hk;rw [←hV] at HB;have HK:=hU hk;rw [←hV,←hg];clear hV hk hg)|fail);(first|refine hK9 _ _ (HB.o) ?_|refine hK9 _ _ (fun _=>HB.o) ?_);clear hK9 K9;(try go_frame);try simp only [Z08,Zsv])
   | (refine Z0p ⟨?_,?_⟩)|fail)
  all_goals
   refine Y1g ?_;exact Yfh
 case rest=>
  obtain ⟨rfl,hB⟩:=hcut;have r0:=(HM.o.new_ hB).c1;have hml2:=(HM.o.new_ hB).lt;have HB:=hU hB;have fk:=hU (HS.o.new_ hB);clear hB s0;go_wp2_with fail;refine (Zgb bp cc sn A m ⟨c,xv⟩ _ fk.o HO.o Ya).mono ?_;rintro e w5 ⟨rfl,Vh⟩;have HP:=hU Vh;clear Vh;go_wp2_with fail;go_ret;obtain ⟨sn',A',c',g1,g2,g3⟩:=HP.o;refine ⟨by rw [Wv.o]<;>rfl,sn',A',c',g1,(Fr.of_new HB.o).trans g2,Z1w.of_PgL HB.o g3⟩
def Zf0 (w:World) (b:Nat) (sn:Bool) (A:Option Addr) (l:List PgL) (x:PgL) (e:Ending) (w':World):Prop:=
 e = .returned (.bool (has Z0d l x))∧∃sn' A' c',Z2r w' b sn' A' c' (drop Z0d l x)∧Fr (Z0w b sn A) w w'∧Z1w w sn A sn' A'
theorem Zff (b c:Nat) (sn:Bool) (A:Option Addr) (l:List PgL) (x:PgL) (w:World) (hS:Z2r w b sn A c l) (hs:Srt Z0d l) (hl:(l.length:Int)≤100000000) (hh:has Z0d l x=true) :
 Calls Tryz.prog 32 #[.pointer (some ⟨b,0,none⟩),.agg #[.int .i64 x.kk,.bool x.v]] w (Zf0 w b sn A l x):=by
 obtain ⟨iu,hde,_,_⟩:=Z9s Z3z hs hh;have cj:=hU hde;refine Yc5 ?_;intro HS HO hb;clear hS hs hde;go_enter Tryz.func32,Tryz.ntmps32;go_wp2_with fail;refine Yf4 ?_;intro fm;rintro e w1 ⟨rfl,Pk⟩;have M2:=hU (fm.o.new_ Pk);(have hsz1:w.heap.size+1≤w1.heap.size:=by have:=Pk.size;first|omega|(simp at this;omega));have Nk:=hU Pk;clear Pk;go_wp2_with fail;refine (Zmc b c sn A l _ M2.o Ya).mono ?_;refine Yet ?_;intro w2 A1 c1 F7 Td Uz hsz2
 obtain ⟨g,rfl⟩:∃g,A1=some ⟨g,0,none⟩:=by
  rcases Z0f F7.row with ⟨_,h0,_⟩|⟨g,cap,hv,_⟩
  · omega
  · injection hv with hv;exact ⟨g,hv⟩
 have Dg:g≠b:=F7.row_ne Yc _ rfl;obtain ⟨Dl,hcap,hcm⟩:=Z2m F7.row;unfold maxLen at hcm
 have Cr:Z0w b sn A g∨w.heap.size≤g:=by
  rcases Uz with ⟨hsn,hA⟩|⟨_,g',hg',hA⟩
  · exact .inl (.inr ⟨hsn.symm,_,hA.symm,rfl⟩)
  · injection hA with hA
    injection hA with hA;subst hA;exact .inr Ya
 have C5:Z1w w sn A false (some ⟨g,0,none⟩):=by
  rcases Uz with ⟨hsn,hA⟩|⟨_,g',hg',hA⟩
  · exact .inl ⟨hsn,hA⟩
  · injection hA with hA
    injection hA with hA;subst hA;exact .inr ⟨rfl,_,Ya,rfl⟩
 have hF:Fr (Z0w b sn A) w w2:=(Fr.of_new (((Zst _ _).alloc (Zsu _) _).trans (Nk.o.mono Ye))).into Td (fun k hk=>.inl (.inl hk));have s0:=F7.cell0;have sk:=hU Cr;have Kw:=hU C5;have HF:=hU hF;have HBk:=hU F7.blk;have HRo:=hU F7.row;have lg:b<w2.heap.size:=Ya;clear Cr C5 hF F7 Td Uz Dl;go_wp2_with fail
 go_loopw [7] (fun s wr=>∃i:Nat,s = .int .i64 i∧rank Z0d l x≤i∧i<l.length∧wr.ownsRow 0 86 2 (.slice (some ⟨g,0,none⟩) l.length c1) l.length ((Z42 l (rank Z0d l x) i).flatMap PgL.cells)∧Fr (· = g) w2 wr) (fun s wr=>l.length - (intOf s).toNat)
 case atStart=>exact ⟨rank Z0d l x,rfl,Zsu _,iu,by rw [Zd9];exact HRo.o,Fr.refl _ _⟩
 case round=>
  obtain ⟨i,rfl,F6,ul,Od,zp⟩:=hrel;have hgw:g<wr.heap.size:=(Od.lt g rfl).2;have r0:wr.cell? ⟨b,0,none⟩=some (.slice (some ⟨g,0,none⟩) l.length c1):=(zp.cell (p:=⟨b,0,none⟩) lg (fun h=>Dg h.symm)).trans s0;have fz :∀o,wr.frozen? ⟨g,o,none⟩=false:=fun o=>Od.frozenAt o;have hbw:b<wr.heap.size:=Zt5 wr _ r0;obtain ⟨zm,_,_⟩:=Z2m Od;have Cj:=hU Od;have Is:=hU zp;clear Od zp;by_cases hlt:i+1<l.length
  · have Xm:=Z0e (A:=some ⟨g,0,none⟩) (c:=c1) (l:=Z42 l (rank Z0d l x) i) PgL.cells_length (by rw [Z3v l F6 ul];exact Cj.o)
    obtain ⟨g',o',Pm,_,R9⟩:=Xm.at_ (k:=i+1) (by rw [Z3v l F6 ul];omega);injection Pm with Pm;injection Pm with hg1 hg2;subst hg1;subst hg2;rw [Zfd l F6 hlt] at R9;have q0:wr.cell? ⟨g,(i+1)*2,none⟩=some (.int .i64 l[i+1].kk):=Yq;have q1:wr.cell? ⟨g,(i+1)*2+1,none⟩=some (.bool l[i+1].v):=YO5;obtain ⟨u0,t0⟩:=zm.cell (i:=i*2) Ya;obtain ⟨u1,t1⟩:=zm.cell (i:=i*2+1) Ya;have b0:(0:Int)≤(i:Int)+1:=Ya;refine Yyx ?_;intro b1 b2;have b3:(i:Int)+1<(l.length:Int):=Ya;refine Yyc ?_;intro v1;clear R9 Xm zm;obtain ⟨y,hy⟩:∃y,y=l[i+1]:=⟨_,rfl⟩;rw [←hy] at q0 q1;have HY:=hU hy;clear hy;go_wp2_with fail;refine Z03 (fun w9=>Below wr.heap.size wr w9) [(0,0),(1,0),(2,0),(3,1),(4,0),(5,0),(6,0),(7,0),(8,1),(9,0),(10,0),(11,0),(12,1),(13,0),(14,2)] Yb Yb (fun KK hKK=>?_);refine Yzy ?_;clear hKK KK;go_wp2_with fail;go_roundw
    case rel=>
     refine ⟨i+1,Yn,Ya,Ya,?_,Fr.drew (((Is.o).setCell (p:=⟨g,i*2,none⟩) (.inl rfl) (_)).setCell (p:=⟨g,i*2+1,none⟩) (.inl rfl) (_))⟩;have Ss:=((((Cj.o).stored (i*2) (.int .i64 y.kk)).1).stored (i*2+1) (.bool y.v)).1
     have he:setAll ((Z42 l (rank Z0d l x) i).flatMap PgL.cells) (i*2) (PgL.cells y)=(Z42 l (rank Z0d l x) (i+1)).flatMap PgL.cells:=by
      rw [Z4r PgL.cells_length Ya _ i (by rw [Z3v l F6 ul];omega),HY.o,Zfe l F6 hlt]
     rw [←he];exact Ss
    case measure=>simp [intOf]<;>omega
  · have Rh:i=l.length - 1:=by omega
    have wo:=hU Rh;have b1:(0:Int)≤(l.length:Int) - 1:=Ya;have b2:(l.length:Int) - 1≤(c1:Int):=Ya;have b3 :¬c1=0:=Ya;have v1:IntKind.i64.wrap ((l.length:Int) - 1)=(l.length:Int) - 1:=Zt8 _ Ya;have v2:((l.length:Int) - 1).toNat=l.length - 1:=Ya;have b4:(1:Int)≤(l.length:Int):=Ya;have b5:l.length - 1≤c1:=Ya;have f0:wr.frozen? ⟨b,0,none⟩=false:=(HBk.o.fr Is.o (fun h=>Dg h.symm)).frozen 0;clear Rh zm;go_wp2_with fail;refine Z03 (fun w9=>Below wr.heap.size wr w9) [(0,0),(1,0),(2,0),(3,0),(4,1),(5,0),(6,0),(7,0),(8,1),(9,0),(10,0),(11,0),(12,0),(13,0),(14,2)] Yb Yb (fun KK hKK=>?_);refine Yzy ?_;clear hKK KK;go_wp2_with fail;go_ret;(have uh:(drop Z0d l x).length=l.length - 1:=by rw [cj.o];simp;omega);refine ⟨YUb,false,some ⟨g,0,none⟩,c1,⟨?_,?_⟩,?_,Kw.o⟩
    · rw [uh]
      exact (HBk.o.fr Is.o (fun h=>Dg h.symm)).set_ 0 _
    · rw [uh]
      refine ownsRow_setCell_other (a:=⟨b,0,none⟩) ?_ YF6 _;have h1:=Cj.o;rw [wo.o] at h1;have h2:=Z7e PgL.cells_length Ya h1 (m:=l.length - 1) Ya (Z3v l Ya Ya);rw [Zij l iu,←cj.o] at h2;exact h2
    · exact (HF.o.into Is.o (fun k hk=>YWh)).drew.setCell (p:=⟨b,0,none⟩) (.inl (.inl rfl)) _
theorem Z0w.moved {w0:Nat}{w:World}{b:Nat}{sn sn':Bool}{A A':Option Addr}(hm:Z1w w sn A sn' A') (hs:w0≤w.heap.size):∀k,Z0w b sn' A' k→Z0w b sn A k∨w0≤k:=by
 rintro k (rfl|⟨h1,a,h2,h3⟩)
 · exact .inl (.inl rfl)
 · rcases hm with ⟨rfl,rfl⟩|⟨_,g,hg,rfl⟩
   · exact .inl (.inr ⟨h1,a,h2,h3⟩)
   · injection h2 with h2
     subst h2;subst h3;exact .inr (Zt6 hs hg)
theorem Z1w.two {w w':World}{sn sn' sn2:Bool}{A A' A2:Option Addr}(h:Z1w w sn A sn' A') (hs:w.heap.size≤w'.heap.size) (h2:Z1w w' sn' A' sn2 A2):Z1w w sn A sn2 A2:=by
 rcases h2 with ⟨rfl,rfl⟩|⟨h1,g,hg,h3⟩
 · exact h
 · exact .inr ⟨h1,g,Zt6 hs hg,h3⟩
theorem Zk9 {m:List PgL}{y:PgL}{v:Bool}(hs:Srt Z0d m) (hy:y∈m):Srt Z0d (put Z0d (drop Z0d m y) ⟨y.kk,v⟩)∧(put Z0d (drop Z0d m y) ⟨y.kk,v⟩).length≤m.length∧∀z,has Z0d (put Z0d (drop Z0d m y) ⟨y.kk,v⟩) z=has Z0d m z:=by
 have h0:has Z0d m y=true:=Z46.2 ⟨y,hy,Z2g.2 rfl⟩;have h1:=(hs.drop y).put Z3z ⟨y.kk,v⟩;refine ⟨h1,?_,fun z=>?_⟩
 · obtain ⟨h2,h3,_⟩:=Z9s Z3z hs h0
   have h4:=Z4s Z3z (hs.drop y) (⟨y.kk,v⟩:PgL);(have h5:(drop Z0d m y).length+1≤m.length:=by rw [h3];simp;omega);omega
 · have hn:has Z0d (drop Z0d m y) ⟨y.kk,v⟩=false:=Z3w.2 (fun u hu e=>(Zc0.1 hu).2 (Z2g.2 (Z2g.1 e)))
   have hp :∀u,u∈put Z0d (drop Z0d m y) ⟨y.kk,v⟩↔u∈drop Z0d m y∨u=⟨y.kk,v⟩:=fun u=>by
    rw [Z6b Z3z (hs.drop y) hn]
    conv=>rhs;rw [←List.take_append_drop (rank Z0d (drop Z0d m y) ⟨y.kk,v⟩) (drop Z0d m y)]
    simp only [Ztu,Ztb];constructor
    · rintro (h|h|h)<;>simp [h]
    · rintro ((h|h)|h)<;>simp [h]
   have :∀z,(∃u∈put Z0d (drop Z0d m y) ⟨y.kk,v⟩,Z0d u z=0)↔∃u∈m,Z0d u z=0:=fun z=>by
    constructor
    · rintro ⟨u,hu,e⟩
      rcases (hp u).1 hu with hu|rfl
      · exact ⟨u,(Zc0.1 hu).1,e⟩
      · exact ⟨y,hy,Z2g.2 (Z2g.1 e)⟩
    · rintro ⟨u,hu,e⟩
      by_cases hk:u.kk=y.kk
      · exact ⟨⟨y.kk,v⟩,(hp _).2 (.inr rfl),Z2g.2 (by rw [←hk];exact Z2g.1 e)⟩
      · exact ⟨u,(hp u).2 (.inl (Zc0.2 ⟨hu,fun e=>hk (Z2g.1 e)⟩)),e⟩
   have h7:=this z;rw [←Z46,←Z46] at h7;cases h8:has Z0d m z
   · cases h9:has Z0d (put Z0d (drop Z0d m y) ⟨y.kk,v⟩) z
     · rfl
     · rw [h7.1 h9] at h8;cases h8
   · exact h7.2 h8
theorem Zie (bm bp cc:Nat) (sn:Bool) (A:Option Addr) (m:List PgL) (x:PgL) (w:World) (hM:Blk w bm 88 #[.pointer (some ⟨bp,0,none⟩)]) (hS:Z2r w bp sn A cc m) (hs:Srt Z0d m) (hl:(m.length:Int)≤1000000) (hh:has Z0d m x=true) (hne :¬Z0w bp sn A bm) :
 Calls Tryz.prog 18 #[.pointer (some ⟨bm,0,none⟩),.int .i64 x.kk,.bool x.v] w fun e w'=>e = .returned (.bool false)∧∃sn' A' c' m',Z2r w' bp sn' A' c' m'∧Srt Z0d m'∧m'.length≤m.length∧(∀z,has Z0d m' z=has Z0d m z)∧Fr (Z0w bp sn A) w w'∧Z1w w sn A sn' A':=by
 obtain ⟨c,hc⟩:∃c,c=x.kk:=⟨_,rfl⟩;obtain ⟨xv,hv⟩:∃v,v=x.v:=⟨_,rfl⟩;(have hx:x=⟨c,xv⟩:=by rw [hc,hv]);rw [←hc,←hv];subst hx;clear hc hv;have of:has Z0d m ⟨c,false⟩=true:=hh;obtain ⟨iu,_,_,ye⟩:=Z9s Z3z hs of;obtain ⟨y,hy⟩:∃y,y=m[rank Z0d m ⟨c,false⟩]:=⟨_,rfl⟩;have HY:=hU (show m[rank Z0d m (zPgL c)]? = some y by rw [hy];exact Zt3 iu);have HYM:=hU (show y∈m by rw [hy];exact Ztf iu);have HHY:=hU (show has Z0d m y=true from Z46.2 ⟨y,HYM.o,Z2g.2 rfl⟩)
 have bg:=hU (show ∀k,Z0w bp sn A k→k<w.heap.size by
  rintro k (rfl|⟨_,a,e1,e2⟩)
  · exact hS.lt
  · rw [←e2];exact hS.row_lt a e1)
 have Ux:=hU hne;clear hy ye iu hne;have s0:=hM.c1;have hml:=hM.lt;have HS:=hU hS;have HO:=hU hs;have HM:=hU hM;have HH:=hU of;clear hS hs hM hh of;go_enter Tryz.func18,Tryz.ntmps18;go_upto_region 3 with (fail)
 go_cut [7,8] from 11 (fun p b wc=>b = .bool true∧Below w.heap.size w wc∧∃g,p = .pointer (some ⟨g,0,none⟩)∧w.heap.size≤g∧g<wc.heap.size∧wc.rangeAt g 0 [.int .i64 y.kk,.bool y.v])
 case first=>
  refine Z1g (fun w9=>Below w.heap.size w w9) [0,1,2,3,4,7,8,9,12] [3] (.fork [(0,0),(1,0),(2,0),(3,1),(4,0)] 5 (.fork [] 6 (.fin [(7,0),(8,0),(9,0),(10,2),(11,2),(12,0)]) 10 (.fin [(6,2),(7,0),(8,0),(9,0),(11,2),(12,0)])) 10 (.fin [(5,2),(6,2),(7,0),(8,0),(9,0),(11,2),(12,0)])) Yb Yb Yb (fun KK hKK=>?_);refine Ypt ?_;have HB:=hU (Zst w.heap.size w).drew;obtain ⟨V,hV⟩:∃V,V=w.drew:=⟨_,rfl⟩;rw [←hV] at HB ⊢;clear hV
  repeat' (first
   | ((first|(refine Z1r ?_ (Or.inl ⟨Yd,fun w9=>?_⟩) ?_;rotate_left 1;go_simp;with_reducible rfl)|(refine Z1y ?_ (HB.o) (Or.inl ⟨Yd,fun w9 hw9=>?_⟩) ?_;rotate_left 1;obtain ⟨Do,rr⟩:=Z0i hw9;go_simp;with_reducible rfl)|refine Z1r undef (Or.inr ⟨Yd,rfl⟩) ?_|refine Z1y undef (HB.o) (Or.inr ⟨Yd,rfl⟩) ?_);go_frame)
   | ((first|refine Z1n (fun K9 hK9=>?_)|refine Z1c rfl (fun K9 hK9=>?_));refine Z0h rfl 86 _ _ rfl g 0 #[.int .i64 y.kk,.bool y.v] rfl rfl (show _ from HK.o.there) Yb Yb ?_;show K9 _ (V.setCells g 0 [.int .i64 y.kk,.bool y.v]);have HR:=hU (Zsy V g 0 [.int .i64 y.kk,.bool y.v] (show _ from HK.o.there));have HB:=hU (Below.setCells' [.int .i64 y.kk,.bool y.v] 0 HB.o HG.o);obtain ⟨V,hV⟩:∃V9,V9=V.setCells g 0 [.int .i64 y.kk,.bool y.v]:=⟨_,rfl⟩;rw [←hV] at HR HB;rw [←hV];have HL:=hU (show g<V.heap.size from Zt5 _ _ (HR.o 0 _ rfl));clear hV;(first|refine hK9 _ _ (HB.o) ?_|refine hK9 _ _ (fun _=>HB.o) ?_);clear hK9 K9;(try go_frame);try simp only [Z08,Zsv])
   | ((first|refine Z1n (fun K9 hK9=>?_)|refine Z1c rfl (fun K9 hK9=>?_));go_simp;(first
     | (refine (Zgy c _).mono ?_;rintro e V ⟨rfl,hb⟩;have HB:=hU (HB.o.trans (hb.mono HB.o.size));(try have HK:=hU (HK.o.new_ hb));clear hb)
     | (refine (Zik bp cc sn A m (zPgL c) y _ (HS.o.new_ (HB.o)) HO.o Ya HH.o HY.o).mono ?_;rintro e V ⟨rfl,hb⟩;have HB:=hU (HB.o.trans (hb.mono HB.o.size));(try have HK:=hU (HK.o.new_ hb));clear hb)
     | (obtain ⟨g,hg⟩:∃g,g=V.heap.size:=⟨_,rfl⟩;have hk:=Blk.new V 86 #[.int .i64 0,.bool false];have HG:=hU (show w.heap.size≤g from YWc);have HB:=hU (HB.o.alloc HB.o.size (.cells #[.int .i64 0,.bool false] 86));obtain ⟨V,hV⟩:∃V9,V9=V.alloc (.cells #[.int .i64 0,.bool false] 86):=⟨_,rfl⟩;rw [←hV,←hg] at hk;rw [←hV] at HB;have HK:=hU hk;rw [←hV,←hg];clear hV hk hg)|fail);(first|refine hK9 _ _ (HB.o) ?_|refine hK9 _ _ (fun _=>HB.o) ?_);clear hK9 K9;(try go_frame);try simp only [Z08,Zsv])
   | (refine Z0p ⟨?_,?_⟩)|fail)
  all_goals
   refine Y1g ?_;exact Ymb
 case rest=>
  obtain ⟨rfl,hB,g,rfl,hg,Gb,hr⟩:=hcut;have HB:=hU hB;have fk:=hU (HS.o.new_ hB);have HR:=hU hr;have HG:=hU (show ¬Z0w bp sn A g from fun h=>by have:=bg.o g h;omega);have r0:=(HM.o.new_ hB).c1;have C6:=(HM.o.new_ hB).lt;have y0:wc.cell? ⟨g,0,none⟩=some (.int .i64 y.kk):=HR.o 0 _ rfl;have y1:wc.cell? ⟨g,1,none⟩=some (.bool y.v):=HR.o 1 _ rfl;clear hB s0 hr;go_upto_region 6 with fail;refine Z03 (fun w9=>Below wc.heap.size wc w9) [(0,0),(1,0),(2,0),(3,1),(4,1),(5,2)] Yb Yb (fun KK hKK=>?_);refine Ygs ?_;intro K9 hK9;refine (Zff bp cc sn A m y _ (fk.o.new_ ((Zst _ _).drew)) HO.o Ya HHY.o).mono ?_;rintro e w5 ⟨rfl,sn5,A5,c5,g1,g2,g3⟩;have K8:=hU g1;have Ut:=hU ((Fr.of_new (M:=Z0w bp sn A) ((Zst wc.heap.size wc).drew)).trans g2);have pc:=hU (g3.of_PgL ((Zst wc.heap.size wc).drew));clear g1 g2 g3;refine Y8n ?_;clear hK9 K9;refine Yf0 ?_;clear hKK KK;clear r0 C6 y0 y1;have r0:=((HM.o.new_ HB.o).fr Ut.o Ux.o).c1;have C6:=((HM.o.new_ HB.o).fr Ut.o Ux.o).lt;have y0:w5.cell? ⟨g,0,none⟩=some (.int .i64 y.kk):=(Ut.o.cell (p:=⟨g,0,none⟩) Gb HG.o).trans (HR.o 0 _ rfl);have hgl5:g<w5.heap.size:=Zsw Gb Ut.o.size;go_upto_region 7 with fail;refine Z03 (fun w9=>Below w5.heap.size w5 w9) [(0,0),(1,0),(2,0),(3,1),(4,0),(5,1),(6,0),(7,0),(8,2)] Yb Yb (fun KK hKK=>?_);refine Ygs ?_;intro K9 hK9;refine (Zgb bp c5 sn5 A5 (drop Z0d m y) ⟨y.kk,xv⟩ _ (K8.o.new_ ((Zst _ _).drew)) (HO.o.drop y) (by have:=Zam (cmp:=Z0d) m y;omega)).mono ?_;rintro e w6 ⟨rfl,Vq,A6,c6,g1,g2,g3⟩
  have T9:=hU g1;have ew:=hU ((Fr.of_new (M:=Z0w bp sn5 A5) ((Zst w5.heap.size w5).drew)).trans g2);have HM6:=hU (g3.of_PgL ((Zst w5.heap.size w5).drew));clear g1 g2 g3;refine Y8n ?_;clear hK9 K9;refine Yf0 ?_;clear hKK KK;go_wp2_with fail;go_ret;obtain ⟨k1,k2,k3⟩:=Zk9 (v:=xv) HO.o HYM.o;refine ⟨rfl,Vq,A6,c6,_,T9.o,k1,k2,k3,((Fr.of_new HB.o).trans Ut.o).into ew.o (Z0w.moved pc.o HB.o.size),(Z1w.two pc.o Ut.o.size HM6.o).of_PgL HB.o⟩
end
end Go.Proofs.YtcnnofgaifcgaaaGreat
