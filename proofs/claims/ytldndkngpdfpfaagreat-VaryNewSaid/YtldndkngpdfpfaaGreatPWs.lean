/-
  Texts put together: VaryPr.
-/
import Derived.Test.YtldndkngpdfpfaaGreatPWi
import Derived.Test.YtldndkngpdfpfaaGreatPWk
import Derived.Test.YtldndkngpdfpfaaGreatPWf
import Derived.Test.YtldndkngpdfpfaaGreatPWr
import Derived.Maps.RangeWalk
namespace Go.Proofs.YtldndkngpdfpfaaGreat
open Go.RowKit Go.Shelf
attribute [local go_sem] Oper.semAt_some
set_option linter.unusedSimpArgs false
theorem results_cell_tmp2 {P:Program} {fn:Func} {t s s2:Tmp} {T:TypeId} (h:fn.results = #[.cell t T,.tmp s,.tmp s2]) (tmps:Array Value) (w:World) (g:Nat) (cs:List Value) (d:TypeDesc) (ht:tmps.getD t undef = .pointer (some ⟨g,0,none⟩)) (hc:w.rangeAt g 0 cs)
 (hu:P.underlying T=some d) (hd:d.isRow=true) (hi:(P.info? T).map (·.size)=some cs.length):(results fn tmps).run P w = .ok (.tuple #[.agg cs.toArray,tmps.getD s undef,tmps.getD s2 undef]) w:=by
 have hl:=run_loadVar_mid (P:=P) w g 0 T cs d hc hu hd hi
 have ht':tmps[t]?.getD undef = .pointer (some ⟨g,0,none⟩):=by simpa using ht
 simp [results,h,ht',asAddr,hl]
theorem wpList_load_midG {P:Program} {ops:Array Oper} {rest:List Oper} {op:Oper} {a:Act} {w:World} {Q:Exit→Act→World→Prop} (hw:Region.wanted op (yielded ops a.tmps)=true) (ty:TypeId) (x:Operand) (ho:op.op = .load ty x)
 (b o:Nat) (hx:a.eval x = .pointer (some ⟨b,o,none⟩)) (cs:List Value) (d:TypeDesc) (hc:w.rangeAt b o cs)
 (hu:P.underlying ty=some d) (hd:d.isRow=true) (hi:(P.info? ty).map (·.size)=some cs.length)
 (h:wpList P ops Q rest (a.put op.dst (.agg cs.toArray)) w):wpList P ops Q (op :: rest) a w:=by
 unfold wpList
 rw [if_pos hw]
 exact .inl (wp_load_mid ty x ho b o hx cs d hc hu hd hi h)
theorem take_snocV {α:Type} {l:List α} {i:Nat} (h:i<l.length):l.take (i+1)=l.take i ++ [l[i]]:=by rw [List.take_add_one,List.getElem?_eq_getElem h];rfl
theorem rangeAt_pre {w:World} {b o:Nat} {l m:List Value} (h:w.rangeAt b o (l++m)):w.rangeAt b o l:=fun j v hv=>h j v (by rw [List.getElem?_append_left (List.getElem?_eq_some_iff.1 hv).1];exact hv)
def ProdTo (m:Nat) (r:Option (ProdT×List Int)) (X:World) (e:Ending) (w':World):Prop:=Below X.heap.size X w'∧
 match r with
 | none=>e = .returned (.tuple #[.agg #[.string ⟨#[]⟩,.slice none 0 0,.slice none 0 0],.slice none 0 0,.bool false])
 | some (p,tags)=>∃A1 c1 A2 c2 A3 c3,e = .returned (.tuple #[.agg #[.string p.name,.slice A1 p.conds.length c1,.slice A2 p.acts.length c2],.slice A3 tags.length c3,.bool true])∧
   RowR (repCondT (m+1)) (fun k=>X.heap.size≤k∧k<w'.heap.size) w' A1 c1 p.conds∧RowR repActT (fun k=>X.heap.size≤k∧k<w'.heap.size) w' A2 c2 p.acts∧RowRd w' 1 Int.cells1 A3 c3 tags∧AIn A3 (X.heap.size≤·)
theorem ProdTo.no {m:Nat} {r:Option (ProdT×List Int)} {X w':World} (hr:r=none) (hb:Below X.heap.size X w'):ProdTo m r X (.returned (.tuple #[.agg #[.string ⟨#[]⟩,.slice none 0 0,.slice none 0 0],.slice none 0 0,.bool false])) w':=by
 subst hr;exact ⟨hb,rfl⟩
structure PB (X:World) (cs:Array Value) (w:World):Prop where
 t:Blk w X.heap.size 38 cs
 r:Blk w (X.heap.size+1) 45 #[.string ⟨#[]⟩,.slice none 0 0,.slice none 0 0]
 bel:Below X.heap.size X w
theorem PB.new_ {X w w':World} {cs:Array Value} (h:PB X cs w) (hb:Below w.heap.size w w'):PB X cs w':=⟨h.t.new_ hb,h.r.new_ hb,h.bel.trans (hb.mono h.bel.size)⟩
theorem PB.fr {M:Nat→Prop} {X w w':World} {cs:Array Value} (h:PB X cs w) (hF:Fr M w w') (hM : ∀k,M k→X.heap.size+2≤k):PB X cs w':=
 ⟨h.t.fr hF (fun hm=>by have:=hM _ hm;omega),h.r.fr hF (fun hm=>by have:=hM _ hm;omega),h.bel.trans (hF.below h.bel.size (fun k hk hm=>by have:=hM k hm;omega))⟩
structure P1 (X:World) (cs:Array Value) (l:List Elem) (A:Option Addr) (c:Nat) (w:World):Prop where
 pb:PB X cs w
 own:w.ownsRow 0 55 12 (.slice A l.length c) l.length (l.flatMap Elem.cells)
 ain:AIn A (X.heap.size+2≤·)
theorem P1.new_ {X w w':World} {cs:Array Value} {l:List Elem} {A:Option Addr} {c:Nat} (h:P1 X cs l A c w) (hb:Below w.heap.size w w'):P1 X cs l A c w':=⟨h.pb.new_ hb,ownsRow_new h.own hb,h.ain⟩
theorem P1.more {X w w':World} {cs:Array Value} {l:List Elem} {A:Option Addr} {c:Nat} {e:Elem} {v:Value} (h:P1 X cs l A c w) (hown:w'.ownsRow 0 55 12 v (l.length+1) (l.flatMap Elem.cells ++ [e].flatMap Elem.cells))
 (hg:w.grownBy w' (Value.slice A l.length c).ownBlock) (hat:v.ownBlock=(Value.slice A l.length c).ownBlock∨v.ownBlock=some w.heap.size) : ∃A' c',v = .slice A' (l ++ [e]).length c'∧P1 X cs (l ++ [e]) A' c' w':=by
 obtain ⟨A',c',rfl,hF,hA,hO⟩:=grown_own (E:=fun j=>∃a,A=some a∧a.block=j) (fun a ha=>⟨a,ha,rfl⟩) hown hg hat
 have e2:(l ++ [e]).length=l.length+1:=by simp
 refine ⟨A',c',by rw [e2],h.pb.fr hF (fun k ⟨a,ha,e⟩=>e ▸ h.ain a ha),by rw [e2,List.flatMap_append];exact hO,fun a ha=>?_⟩
 rcases hA a ha with ⟨b,hb,e⟩ | ⟨h1,_⟩
 · rw [← e];exact h.ain b hb
 · have:=h.pb.r.lt;show X.heap.size+2≤a.block;omega
theorem PB.frT {M:Nat→Prop} {X w w':World} {cs:Array Value} (h:PB X cs w) (hF:Fr M w w') (h1 : ¬M X.heap.size) (h2 : ¬M (X.heap.size+1)) (hM : ∀k,M k→X.heap.size≤k):PB X cs w':=
 ⟨h.t.fr hF h1,h.r.fr hF h2,h.bel.trans (hF.below h.bel.size (fun k hk hm=>by have:=hM k hm;omega))⟩
structure P3 (X:World) (bx:Array Value) (nb mb:Nat) (ns:List Sym) (es:List Elem) (AO:Option Addr) (cO:Nat) (vcs:List VCo) (AC:Option Addr) (cC:Nat) (tags:List Int) (At:Option Addr) (ct:Nat) (D:Nat→Prop) (w:World):Prop where
 cs:CS X nb mb ns es AO cO vcs AC cC D w
 pb:PB X bx w
 tg:w.ownsRow 0 3 1 (.slice At tags.length ct) tags.length (tags.flatMap Int.cells1)
 ta:AIn At (fun k=>X.heap.size≤k∧¬D k)
 dn2 : ∀k,D k→X.heap.size+2≤k
structure Pushed (X:World) (bx:Array Value) (nb mb:Nat) (ns:List Sym) (es:List Elem) (AO:Option Addr) (cO:Nat) (vcs:List VCo) (AC:Option Addr) (cC:Nat) (tags:List Int) (At:Option Addr) (ct:Nat) (D:Nat→Prop) (v:VCo) (g c':Nat) (W1 Y:World):Prop where
 th:Y.there g (vcs.length*7) 7
 th2:(Y.setCell ⟨mb,2,none⟩ (.slice (some ⟨g,0,none⟩) (vcs.length+1) c')).there g (vcs.length*7) 7
 c2:Y.cell? ⟨mb,2,none⟩=some (.slice AC vcs.length cC)
 f2:Y.frozen? ⟨mb,2,none⟩=false
 z2:mb<Y.heap.size
 ne:mb≠g
 c2e:(Y.setCells g (vcs.length*7) v.cells).cell? ⟨mb,2,none⟩=some (.slice AC vcs.length cC)
 f2e:(Y.setCells g (vcs.length*7) v.cells).frozen? ⟨mb,2,none⟩=false
 all : ∀V,V=(Y.setCells g (vcs.length*7) v.cells).setCell ⟨mb,2,none⟩ (.slice (some ⟨g,0,none⟩) (vcs.length+1) c')→P3 X bx nb mb ns es AO cO (vcs ++ [v]) (some ⟨g,0,none⟩) c' tags At ct D V∧∀b ecs,Blk W1 b 55 ecs→Blk V b 55 ecs
section
variable {X w w':World} {bx:Array Value} {nb mb:Nat} {ns:List Sym} {es:List Elem} {AO:Option Addr} {cO:Nat} {vcs:List VCo} {AC:Option Addr} {cC:Nat} {tags:List Int} {At:Option Addr} {ct:Nat} {D:Nat→Prop}
theorem P3.new_ (h:P3 X bx nb mb ns es AO cO vcs AC cC tags At ct D w) (hb:Below w.heap.size w w'):P3 X bx nb mb ns es AO cO vcs AC cC tags At ct D w':=⟨h.cs.new_ hb,h.pb.new_ hb,ownsRow_new h.tg hb,h.ta,h.dn2⟩
theorem own_some {e:TypeId} {size n c:Nat} {A:Option Addr} {xs:List Value} (h:w.ownsRow 0 e size (.slice A n c) n xs) (hn:0<n) : ∃g,A=some ⟨g,0,none⟩:=by
 rcases ownsRow_form h with ⟨_,h0,_⟩ | ⟨g,cap,hv,_⟩
 · omega
 · injection hv with hA;exact ⟨g,hA⟩
theorem blk_news {g:Nat} {t:TypeId} {cs:List Value} (h:Blk w g t cs.toArray) : ∀j u,cs[j]? = some u→w.cell? ((⟨g,0,none⟩:Addr).add j)=some u:=fun j u hu=>by
 rw [Go.WideShapes.add_plain,Nat.zero_add,h.cell];simpa using hu
theorem one_c0 : ∀u∈condC0.cells,u.oneCell'=true:=fun u hu=>one_CondC [condC0] u (by simpa using hu)
theorem testV_list (ns:List Sym) (r:Int) (s:Sym):(testV ns r s).list = []:=by unfold testV;split<;>rfl
theorem vco_ok {v:VCo} {t:TestT} {W:World} (h1:Blk W v.ga 142 #[.int .i64 v.at_.rel,.string v.at_.var,.int .i64 v.at_.sym.kind,.string v.at_.sym.text,.int .i64 v.at_.sym.n,.slice none 0 0]) (h2:Blk W v.gv 142 #[.int .i64 t.rel,.string t.var,.int .i64 t.sym.kind,.string t.sym.text,.int .i64 t.sym.n,.slice none 0 0])
 (hc:v.cap=1:=by rfl) (hv:v.vs = [t]:=by rfl) (ha:v.at_.list = []:=by rfl) (ht:t.list = []:=by exact testV_list _ _ _):v.Ok W:=by
 refine ⟨h1,?_,ha,fun x hx=>by rw [hv] at hx;rw [List.mem_singleton.1 hx];exact ht⟩
 rw [hv,hc]
 exact ⟨rfl,.inr ⟨v.gv,1,_,rfl,Nat.zero_le _,h2,Nat.le_refl _,by unfold maxLen;decide,rfl,rfl⟩⟩
theorem P3.push {v:VCo} {W1 Y:World} {g c':Nat} (h:P3 X bx nb mb ns es AO cO vcs AC cC tags At ct D w) (hb:Below w.heap.size w W1) (hva:w.heap.size≤v.ga) (hvv:w.heap.size≤v.gv) (hne:v.ga≠v.gv) (hok:v.Ok W1)
 (hY:Fr (fun k=>∃a,AC=some a∧a.block=k) W1 Y) (hO:Y.ownsRow 0 62 7 (.slice (some ⟨g,0,none⟩) (vcs.length+1) c') (vcs.length+1) (vcs.flatMap VCo.cells++condC0.cells)) (hA:AIn (some ⟨g,0,none⟩) (Plus (fun k=>∃a,AC=some a∧a.block=k) W1 Y)) :
 Pushed X bx nb mb ns es AO cO vcs AC cC tags At ct D v g c' W1 Y:=by
 have h1:=h.new_ hb
 obtain ⟨g1,g2,g3,g4,g5,g6,g7,g8,g9⟩:=push_a (v:=v) h1.cs hY hO hA
 have hl:(vcs ++ [v]).length=vcs.length+1:=by simp
 rw [hl] at g1 g2 g3
 have hmY:Blk Y mb 130 _:=h1.cs.mkb.fr hY (fun ⟨a,ha,e⟩=>own_blk_ne h1.cs.co h1.cs.mkb (by decide) (by subst ha;subst e;rfl))
 have hmZ:=Blk.farCells (g:=g) v.cells (vcs.length*7) hmY g9
 have hO2:=ownsRow_setCell_other (a:=⟨mb,2,none⟩) hO (by simp [Value.ownBlock];exact fun e=>g9 e.symm) (.slice (some ⟨g,0,none⟩) (vcs.length+1) c')
 have hr2:=ownsRow_room hO2
 refine ⟨g5,hr2.1.there (by have:=hr2.2.1;omega),g6,g7,g8,g9,(hmZ.cell 2).trans rfl,hmZ.frozen 2,fun V hV=>?_⟩
 subst hV
 have nB : ∀{b:Nat} {t:TypeId} {cs:Array Value},Blk W1 b t cs→t≠130→t≠62→¬(b=mb∨∃a,AC=some a∧a.block=b):=by
  rintro b t cs hg n1 n2 (e | ⟨a,ha,e⟩)
  · subst e;exact hg.ne_ h1.cs.mkb n1 rfl
  · exact own_blk_ne h1.cs.co hg (Ne.symm n2) (by subst ha;subst e;rfl)
 refine ⟨⟨h.cs.push hb hva hvv hne hok g1 (by rw [hl];exact g2) (by rw [hl];exact g3) g4,h1.pb.frT g1 (nB h1.pb.t (by decide) (by decide)) (nB h1.pb.r (by decide) (by decide)) (fun k hk=>?_),ownsRow_fr h1.tg g1 (fun b hg hm=>?_),h.ta,h.dn2⟩,fun b ecs hg=>hg.fr g1 (nB hg (by decide) (by decide))⟩
 · rcases hk with e | ⟨a,ha,e⟩
   · subst e;exact h.cs.mge
   · exact e ▸ (h.cs.ca a ha).1
 · rcases hm with e | ⟨a,ha,e⟩
   · subst e;exact own_blk_ne h1.tg h1.cs.mkb (by decide) hg
   · exact own_own_ne h1.tg h1.cs.co (by decide) hg (by subst ha;subst e;rfl)
theorem P3.tag {t:Int} {v:Value} (h:P3 X bx nb mb ns es AO cO vcs AC cC tags At ct D w) (hown:w'.ownsRow 0 3 1 v (tags.length+1) (tags.flatMap Int.cells1 ++ [t].flatMap Int.cells1))
 (hg:w.grownBy w' (Value.slice At tags.length ct).ownBlock) (hat:v.ownBlock=(Value.slice At tags.length ct).ownBlock∨v.ownBlock=some w.heap.size) : ∃A' c',v = .slice A' (tags ++ [t]).length c'∧P3 X bx nb mb ns es AO cO vcs AC cC (tags ++ [t]) A' c' D w':=by
 obtain ⟨A',c',rfl,hF,hA,hO⟩:=grown_own (E:=fun j=>∃a,At=some a∧a.block=j) (fun a ha=>⟨a,ha,rfl⟩) hown hg hat
 have e2:(tags ++ [t]).length=tags.length+1:=by simp
 have hsz:=h.cs.bel.size
 have nB : ∀{b:Nat} {t:TypeId} {cs:Array Value},Blk w b t cs→t≠3→¬(∃a,At=some a∧a.block=b):=by
  rintro b t cs hg n1 ⟨a,ha,e⟩
  exact own_blk_ne h.tg hg (Ne.symm n1) (by subst ha;subst e;rfl)
 have nR : ∀{e:TypeId} {size n c:Nat} {A:Option Addr} {xs:List Value},w.ownsRow 0 e size (.slice A n c) n xs→e≠3→∀g,(Value.slice A n c).ownBlock=some g→¬(∃a,At=some a∧a.block=g):=by
  rintro e size n c A xs hr n1 g hg ⟨a,ha,e2⟩
  exact own_own_ne hr h.tg n1 hg (by subst ha;subst e2;rfl)
 refine ⟨A',c',by rw [e2],⟨⟨h.cs.nm.fr hF (fun k hk ⟨a,ha,e⟩=>(h.ta a ha).2 (e ▸ hk)),h.cs.dn,h.cs.mkb.fr hF (nB h.cs.mkb (by decide)),h.cs.mge,h.cs.mnd,ownsRow_fr h.cs.eo hF (nR h.cs.eo (by decide)),h.cs.ea,ownsRow_fr h.cs.co hF (nR h.cs.co (by decide)),h.cs.ca,fun u hu=>(h.cs.ok u hu).fr hF (nB (h.cs.ok u hu).at_ (by decide)) (nR (h.cs.ok u hu).vr (by decide) _ rfl),h.cs.bl,h.cs.nd,h.cs.bel.trans (hF.below hsz (fun k hk ⟨a,ha,e⟩=>by have:=(h.ta a ha).1;omega))⟩,h.pb.frT hF (nB h.pb.t (by decide)) (nB h.pb.r (by decide)) (fun k ⟨a,ha,e⟩=>e ▸ (h.ta a ha).1),by rw [e2,List.flatMap_append];exact hO,fun a ha=>?_,h.dn2⟩⟩
 rcases hA a ha with ⟨b,hb,e⟩ | ⟨h1,_⟩
 · rw [← e];exact h.ta b hb
 · exact ⟨by omega,fun hd=>by have:=h.cs.nm.lt _ hd;omega⟩
end
theorem flat_pos (m:Nat) (ns:List Sym) (l:List Elem):(flatC (m+1) 0 (l.map (posV ns))).length=l.length:=by
 have h0 : ∀(k:Nat),flatC m k [] = []:=fun k=>by cases m<;>rfl
 show ((l.map (posV ns)).flatMap fun c=>(0,c) :: flatC m 1 c.conds).length=l.length
 induction l with
 | nil=>rfl
 | cons x l ih=>
   rw [List.map_cons,List.flatMap_cons,List.length_append,ih,List.length_cons,List.length_cons,show (posV ns x).conds = [] from rfl,h0]
   simp;omega
theorem eqs_ActT (x y:ActT) (W:World):(binOp .eql 80 (.agg #[.string x.id,.string x.attr.var,.int .i64 x.attr.sym.kind,.string x.attr.sym.text,.int .i64 x.attr.sym.n,.int .i64 x.value.op,.string x.value.a.var,.int .i64 x.value.a.sym.kind,.string x.value.a.sym.text,.int .i64 x.value.a.sym.n,.string x.value.b.var,.int .i64 x.value.b.sym.kind,.string x.value.b.sym.text,.int .i64 x.value.b.sym.n,.int .i64 x.pref,.string x.other.var,.int .i64 x.other.sym.kind,.string x.other.sym.text,.int .i64 x.other.sym.n]) (.agg #[.string y.id,.string y.attr.var,.int .i64 y.attr.sym.kind,.string y.attr.sym.text,.int .i64 y.attr.sym.n,.int .i64 y.value.op,.string y.value.a.var,.int .i64 y.value.a.sym.kind,.string y.value.a.sym.text,.int .i64 y.value.a.sym.n,.string y.value.b.var,.int .i64 y.value.b.sym.kind,.string y.value.b.sym.text,.int .i64 y.value.b.sym.n,.int .i64 y.pref,.string y.other.var,.int .i64 y.other.sym.kind,.string y.other.sym.text,.int .i64 y.other.sym.n])).run Tryz.prog W = .ok (.bool (decide (x=y))) W:=by
 rw [run_eql_struct]
 go_simp
 by_cases h:x=y
 · subst h;simp
 · rw [decide_eq_false h]
   have hs : ∀a b:Sym,a.kind=b.kind→a.text.toList=b.text.toList→a.n=b.n→a=b:=fun a b h1 h2 h3=>Sym.ext' h1 (toList_inj h2) h3
   have ha : ∀a b:AtomT,a.var.toList=b.var.toList→a.sym=b.sym→a=b:=fun a b h1 h2=>by cases a;cases b;simp only at h1 h2;rw [toList_inj h1,h2]
   have ht : ∀a b:TermT,a.op=b.op→a.a=b.a→a.b=b.b→a=b:=fun a b h1 h2 h3=>by cases a;cases b;simp_all
   have hx : ∀a b:ActT,a.id.toList=b.id.toList→a.attr=b.attr→a.value=b.value→a.pref=b.pref→a.other=b.other→a=b:=fun a b h1 h2 h3 h4 h5=>by cases a;cases b;simp only at h1 h2 h3 h4 h5;rw [toList_inj h1,h2,h3,h4,h5]
   by_cases e0:x.id.toList=y.id.toList
   case neg=>rw [if_neg e0]
   rw [if_pos e0]
   by_cases e1:x.attr.var.toList=y.attr.var.toList
   case neg=>rw [if_neg e1]
   rw [if_pos e1]
   by_cases e2:x.attr.sym.kind=y.attr.sym.kind
   case neg=>rw [if_neg e2]
   rw [if_pos e2]
   by_cases e3:x.attr.sym.text.toList=y.attr.sym.text.toList
   case neg=>rw [if_neg e3]
   rw [if_pos e3]
   by_cases e4:x.attr.sym.n=y.attr.sym.n
   case neg=>rw [if_neg e4]
   rw [if_pos e4]
   by_cases e5:x.value.op=y.value.op
   case neg=>rw [if_neg e5]
   rw [if_pos e5]
   by_cases e6:x.value.a.var.toList=y.value.a.var.toList
   case neg=>rw [if_neg e6]
   rw [if_pos e6]
   by_cases e7:x.value.a.sym.kind=y.value.a.sym.kind
   case neg=>rw [if_neg e7]
   rw [if_pos e7]
   by_cases e8:x.value.a.sym.text.toList=y.value.a.sym.text.toList
   case neg=>rw [if_neg e8]
   rw [if_pos e8]
   by_cases e9:x.value.a.sym.n=y.value.a.sym.n
   case neg=>rw [if_neg e9]
   rw [if_pos e9]
   by_cases e10:x.value.b.var.toList=y.value.b.var.toList
   case neg=>rw [if_neg e10]
   rw [if_pos e10]
   by_cases e11:x.value.b.sym.kind=y.value.b.sym.kind
   case neg=>rw [if_neg e11]
   rw [if_pos e11]
   by_cases e12:x.value.b.sym.text.toList=y.value.b.sym.text.toList
   case neg=>rw [if_neg e12]
   rw [if_pos e12]
   by_cases e13:x.value.b.sym.n=y.value.b.sym.n
   case neg=>rw [if_neg e13]
   rw [if_pos e13]
   by_cases e14:x.pref=y.pref
   case neg=>rw [if_neg e14]
   rw [if_pos e14]
   by_cases e15:x.other.var.toList=y.other.var.toList
   case neg=>rw [if_neg e15]
   rw [if_pos e15]
   by_cases e16:x.other.sym.kind=y.other.sym.kind
   case neg=>rw [if_neg e16]
   rw [if_pos e16]
   by_cases e17:x.other.sym.text.toList=y.other.sym.text.toList
   case neg=>rw [if_neg e17]
   rw [if_pos e17]
   by_cases e18:x.other.sym.n=y.other.sym.n
   case neg=>rw [if_neg e18]
   rw [if_pos e18]
   exact absurd (hx _ _ e0 (ha _ _ e1 (hs _ _ e2 e3 e4)) (ht _ _ e5 (ha _ _ e6 (hs _ _ e7 e8 e9)) (ha _ _ e10 (hs _ _ e11 e12 e13))) e14 (ha _ _ e15 (hs _ _ e16 e17 e18))) h
structure P6 (X:World) (bx:Array Value) (nb mb pg m:Nat) (nm_:ByteArray) (cs:List CondT) (AC:Option Addr) (cC:Nat) (tags:List Int) (At:Option Addr) (ct:Nat) (C:Nat→Prop) (ns:List Sym) (acts:List ActT) (Aa:Option Addr) (ca:Nat) (D:Nat→Prop) (w:World):Prop where
 nm:Nm D w nb ns
 dn : ∀k,D k→X.heap.size+2≤k
 mkk:MK w mb nb
 mge:X.heap.size≤mb
 mnd : ¬D mb
 mnp:mb≠pg
 mna:AIn Aa (·≠mb)
 pb:PB X bx w
 pgb:Blk w pg 45 #[.string nm_,.slice AC cs.length cC,.slice Aa acts.length ca]
 pge:X.heap.size+2≤pg
 pnd : ¬D pg
 cr:RowR (repCondT (m+1)) C w AC cC cs
 hC : ∀k,C k→X.heap.size≤k∧¬D k∧k<w.heap.size∧k≠pg∧k≠X.heap.size+1
 ac:w.ownsRow 0 80 19 (.slice Aa acts.length ca) acts.length (acts.flatMap ActT.cells)
 aa:AIn Aa (fun k=>X.heap.size+2≤k∧¬D k∧¬C k)
 tg:w.ownsRow 0 3 1 (.slice At tags.length ct) tags.length (tags.flatMap Int.cells1)
 ta:AIn At (fun k=>X.heap.size≤k∧¬D k)
section
variable {X w w':World} {bx:Array Value} {nb mb pg m:Nat} {nm_:ByteArray} {cs:List CondT} {AC:Option Addr} {cC:Nat} {tags:List Int} {At:Option Addr} {ct:Nat} {C:Nat→Prop} {ns ns':List Sym} {acts:List ActT} {Aa:Option Addr} {ca:Nat} {D:Nat→Prop}
theorem P6.new_ (h:P6 X bx nb mb pg m nm_ cs AC cC tags At ct C ns acts Aa ca D w) (hb:Below w.heap.size w w'):P6 X bx nb mb pg m nm_ cs AC cC tags At ct C ns acts Aa ca D w':=
 ⟨h.nm.new_ hb,h.dn,h.mkk.new_ hb,h.mge,h.mnd,h.mnp,h.mna,h.pb.new_ hb,h.pgb.new_ hb,h.pge,h.pnd,h.cr.new_ hb,fun k hk=>⟨(h.hC k hk).1,(h.hC k hk).2.1,Nat.lt_of_lt_of_le (h.hC k hk).2.2.1 hb.size,(h.hC k hk).2.2.2⟩,ownsRow_new h.ac hb,h.aa,ownsRow_new h.tg hb,h.ta⟩
theorem P6.put (h:P6 X bx nb mb pg m nm_ cs AC cC tags At ct C ns acts Aa ca D w) (hp:PutTo D w nb ns' w') : ∃D',P6 X bx nb mb pg m nm_ cs AC cC tags At ct C ns' acts Aa ca D' w'∧(∀g,g<w.heap.size→¬D g→¬D' g)∧Fr D w w':=by
 obtain ⟨D',g1,g2,g3,g4⟩:=hp
 have hz:=g4.size
 have hxz:=h.pb.bel.size
 have off : ∀g,g<w.heap.size→¬D g→¬D' g:=fun g hg hd hk=>(g3 g hk).elim hd (fun h=>by omega)
 have hown : ∀{e:TypeId} {size n c:Nat} {A:Option Addr} {xs:List Value},w.ownsRow 0 e size (.slice A n c) n xs→AIn A (fun k=>¬D k)→w'.ownsRow 0 e size (.slice A n c) n xs:=fun {e size n c A xs} ho hA=>ownsRow_fr ho g4 (fun g hg hd=>by
  cases A with
  | none=>cases hg
  | some a=>injection hg with hg;exact hA a rfl (hg ▸ hd))
 have l1:=h.pb.r.lt
 refine ⟨D',⟨g1,fun k hk=>(g3 k hk).elim (h.dn k) (fun h=>by omega),h.mkk.fr g4 h.mnd,h.mge,off _ h.mkk.2 h.mnd,h.mnp,h.mna,?_,h.pgb.fr g4 h.pnd,h.pge,off _ h.pgb.lt h.pnd,h.cr.fr g4 (fun k hk hd=>(h.hC k hk).2.1 hd),fun k hk=>⟨(h.hC k hk).1,off k (h.hC k hk).2.2.1 (h.hC k hk).2.1,Nat.lt_of_lt_of_le (h.hC k hk).2.2.1 hz,(h.hC k hk).2.2.2⟩,
  hown h.ac (fun a ha=>(h.aa a ha).2.1),fun a ha=>⟨(h.aa a ha).1,off _ (ain_lt h.ac a ha) (h.aa a ha).2.1,(h.aa a ha).2.2⟩,hown h.tg (fun a ha=>(h.ta a ha).2),fun a ha=>⟨(h.ta a ha).1,off _ (ain_lt h.tg a ha) (h.ta a ha).2⟩⟩,off,g4⟩
 exact ⟨h.pb.t.fr g4 (fun hd=>by have:=h.dn _ hd;omega),h.pb.r.fr g4 (fun hd=>by have:=h.dn _ hd;omega),h.pb.bel.trans (g4.below hxz (fun k hk hd=>by have:=h.dn k hd;omega))⟩
theorem P6.more {a:ActT} {v:Value} {Y:World} (h:P6 X bx nb mb pg m nm_ cs AC cC tags At ct C ns acts Aa ca D w) (hown:Y.ownsRow 0 80 19 v (acts.length+1) (acts.flatMap ActT.cells ++ [a].flatMap ActT.cells))
 (hg:w.grownBy Y (Value.slice Aa acts.length ca).ownBlock) (hat:v.ownBlock=(Value.slice Aa acts.length ca).ownBlock∨v.ownBlock=some w.heap.size) :
 ∃A' c',v = .slice A' (acts ++ [a]).length c'∧Blk Y pg 45 #[.string nm_,.slice AC cs.length cC,.slice Aa acts.length ca]∧P6 X bx nb mb pg m nm_ cs AC cC tags At ct C ns (acts ++ [a]) A' c' D (Y.setCell ⟨pg,2,none⟩ (.slice A' (acts ++ [a]).length c')):=by
 obtain ⟨A',c',rfl,hF,hA,hO⟩:=grown_own (E:=fun j=>∃a,Aa=some a∧a.block=j) (fun a ha=>⟨a,ha,rfl⟩) hown hg hat
 have e2:(acts ++ [a]).length=acts.length+1:=by simp
 have nB : ∀{b:Nat} {t:TypeId} {cs:Array Value},Blk w b t cs→t≠80→¬(∃a,Aa=some a∧a.block=b):=by
  rintro b t cs hg n1 ⟨a,ha,e⟩
  exact own_blk_ne h.ac hg (Ne.symm n1) (by subst ha;subst e;rfl)
 have hpY:=h.pgb.fr hF (nB h.pgb (by decide))
 have hF2:Fr (fun k=>k=pg∨∃a,Aa=some a∧a.block=k) w (Y.setCell ⟨pg,2,none⟩ (.slice A' (acts.length+1) c')):=(hF.mono (fun k _ hk=>.inr hk)).setCell (p:=⟨pg,2,none⟩) (.inl (.inl rfl)) _
 have hz:=h.pb.bel.size
 have nP : ∀{b:Nat} {t:TypeId} {cs:Array Value},Blk w b t cs→b≠pg→t≠80→¬(b=pg∨∃a,Aa=some a∧a.block=b):=fun hb hn ht hm=>hm.elim hn (nB hb ht)
 have hs2:=hF2.size
 refine ⟨A',c',by rw [e2],hpY,?_⟩
 rw [e2]
 refine ⟨h.nm.fr hF2 (fun k hk hm=>?_),h.dn,h.mkk.fr hF2 (fun hm=>?_),h.mge,h.mnd,h.mnp,fun b hb e=>?_,h.pb.frT hF2 (nP h.pb.t (by have:=h.pge;omega) (by decide)) (nP h.pb.r (by have:=h.pge;omega) (by decide)) (fun k hk=>?_),?_,h.pge,h.pnd,h.cr.fr hF2 (fun k hk hm=>?_),fun k hk=>⟨(h.hC k hk).1,(h.hC k hk).2.1,Nat.lt_of_lt_of_le (h.hC k hk).2.2.1 hs2,(h.hC k hk).2.2.2⟩,?_,fun b hb=>?_,ownsRow_fr h.tg hF2 (fun g hg hm=>?_),h.ta⟩
 · rcases hm with e | ⟨b,hb,e⟩
   · exact h.pnd (e ▸ hk)
   · exact (h.aa b hb).2.1 (e ▸ hk)
 · rcases hm with e | ⟨b,hb,e⟩
   · exact h.mnp e
   · exact h.mna b hb e
 · rcases hA b hb with ⟨b2,hb2,e2⟩ | ⟨h1,_⟩
   · exact h.mna b2 hb2 (e2.trans e)
   · have:=h.mkk.2;omega
 · rcases hk with e | ⟨b,hb,e⟩
   · subst e;have:=h.pge;omega
   · have:=(h.aa b hb).1;omega
 · rw [e2];exact hpY.set_ 2 _
 · rcases hm with e | ⟨b,hb,e⟩
   · exact (h.hC k hk).2.2.2.1 e
   · exact (h.aa b hb).2.2 (e ▸ hk)
 · rw [e2,List.flatMap_append]
   exact ownsRow_setCell_other hO (fun e=>own_blk_ne hO hpY (by decide) e) _
 · rcases hA b hb with ⟨b2,hb2,e2⟩ | ⟨h1,_⟩
   · rw [← e2];exact h.aa b2 hb2
   · exact ⟨by have:=h.pb.r.lt;omega,fun hd=>by have:=h.nm.lt _ hd;omega,fun hc=>by have:=(h.hC _ hc).2.2.1;omega⟩
 · rcases hm with e | ⟨b,hb,e⟩
   · subst e;exact own_blk_ne h.tg h.pgb (by decide) hg
   · exact own_own_ne h.tg h.ac (by decide) hg (by subst hb;subst e;rfl)
theorem P6.fin (h:P6 X bx nb mb pg m nm_ cs AC cC tags At ct C ns acts Aa ca D w) (vs:List Value) {V:World} (hV:V=w.setCells (X.heap.size+1) 0 vs) :
 Below X.heap.size X V∧RowR (repCondT (m+1)) (fun k=>X.heap.size≤k∧k<V.heap.size) V AC cC cs∧RowR repActT (fun k=>X.heap.size≤k∧k<V.heap.size) V Aa ca acts∧RowRd V 1 Int.cells1 At ct tags∧AIn At (X.heap.size≤·):=by
 have hF:Fr (fun k=>k=X.heap.size+1) w V:=by rw [hV];exact Fr.setCells vs 0 (Fr.refl _ _) (.inl rfl)
 have hz:=hF.size
 have htg:=ownsRow_fr h.tg hF (fun g hg e=>by subst e;exact own_blk_ne h.tg h.pb.r (by decide) hg)
 have hac:=ownsRow_fr h.ac hF (fun g hg e=>by subst e;exact own_blk_ne h.ac h.pb.r (by decide) hg)
 refine ⟨h.pb.bel.trans (hF.below h.pb.bel.size (fun k hk e=>by omega)),(h.cr.fr hF (fun k hk e=>(h.hC k hk).2.2.2.2 e)).weaken (fun k hk=>⟨(h.hC k hk).1,by have:=(h.hC k hk).2.2.1;omega⟩),RowR.of_rd (ownsRow_rd ActT.cells_length hac) (fun a ha=>⟨by have:=(h.aa a ha).1;omega,ain_lt hac a ha⟩),ownsRow_rd Int.cells1_length htg,fun a ha=>(h.ta a ha).1⟩
end
set_option maxRecDepth 100000 in
set_option maxHeartbeats 16000000 in
theorem prod_is (m:Nat) (nm:ByteArray) (tr:List TraceT) (AE:Option Addr) (cE:Nat) (AH:Option Addr) (cH:Nat) (AA:Option Addr) (cA:Nat) (news:List Sym) (AN:Option Addr) (cN:Nat) (tv tl:Int) {gf:Nat} {lb:Array Value} {old:Sym→Bool} (prefs:List PrefT) (AP:Option Addr) (cP:Nat) (X:World)
 (hO:OldOk gf lb X old) (h1:RowRd X 14 TraceT.cells AE cE tr) (h2:RowRd X 3 Sym.cells AN cN news) (h3:RowRd X 16 PrefT.cells AP cP prefs) (hl1:tr.length≤100) (hl3:prefs.length≤60) (hm:m≤1000) :
 Calls Tryz.prog 20 #[.string nm,.agg #[.slice AE tr.length cE,.slice AH 0 cH,.slice AA 0 cA,.slice AN news.length cN,.int .i64 tv,.int .i64 tl],.func (.func gf) #[] lb,.slice AP prefs.length cP] X (ProdTo m (prodV (m+1) nm (tr.map TraceT.elem) old news prefs) X):=by
 obtain ⟨i0,hi0,hz0,hz1,hz2⟩:=infp inf_Elem
 have H1:=Lib.hid h1
 have H2:=Lib.hid h2
 have H3:=Lib.hid h3
 have HO:=Lib.hid hO
 have HM:=Lib.hid (show m+1≤1000000000 by omega)
 have hc1:=h1.cap
 have hc2:=h2.cap
 have hc3:=h3.cap
 obtain ⟨L,hL⟩ : ∃L,L=tr.map TraceT.elem:=⟨_,rfl⟩
 rw [← hL]
 have HL:=Lib.hid hL
 have hLl:L.length≤100:=by rw [hL,List.length_map];exact hl1
 clear h1 h2 h3 hO hL
 go_enter Tryz.func20,Tryz.ntmps20
 go_upto_region 2 with fail
 obtain ⟨W1,hW1⟩ : ∃W,W=(X.alloc (.cells #[.slice AE tr.length cE,.slice AH 0 cH,.slice AA 0 cA,.slice AN news.length cN,.int .i64 tv,.int .i64 tl] 38)).alloc (.cells #[.string ⟨#[]⟩,.slice none 0 0,.slice none 0 0] 45):=⟨_,rfl⟩
 have HPB:=Lib.hid (show PB X #[.slice AE tr.length cE,.slice AH 0 cH,.slice AA 0 cA,.slice AN news.length cN,.int .i64 tv,.int .i64 tl] W1 by
  rw [hW1]
  exact ⟨(Blk.new _ _ _).alloc _,by have hh:=Blk.new (X.alloc (.cells #[.slice AE tr.length cE,.slice AH 0 cH,.slice AA 0 cA,.slice AN news.length cN,.int .i64 tv,.int .i64 tl] 38)) 45 #[.string ⟨#[]⟩,.slice none 0 0,.slice none 0 0];simp only [World.size_alloc] at hh;exact hh,((Below.refl _ _).alloc (Nat.le_refl _) _).alloc (by simp) _⟩)
 rw [← hW1]
 clear hW1
 have m0:=(HPB.out.t.cell 0).trans rfl
 have mz:=HPB.out.t.lt
 go_upto_region 3 with fail
 clear m0 mz
 go_loopw [11,39] (fun vo vi wr=>∃(i:Nat) (l:List Elem) (A:Option Addr) (c:Nat),vi = .int .i64 (i:Int)∧i≤tr.length∧vo = .slice A l.length c∧l=(tr.take i).map TraceT.elem∧P1 X #[.slice AE tr.length cE,.slice AH 0 cH,.slice AA 0 cA,.slice AN news.length cN,.int .i64 tv,.int .i64 tl] l A c wr) (fun vo vi wr=>tr.length - (intOf vi).toNat)
 case atStart=>exact ⟨0,[],none,0,rfl,Nat.zero_le _,rfl,rfl,HPB.out,⟨by simp,.inl ⟨rfl,rfl⟩⟩,AIn.none_ _⟩
 case round=>
  clear HPB
  obtain ⟨i,l,A,c,rfl,hi,rfl,hl,hp1⟩:=hrel
  have HP1:=Lib.hid hp1
  have HLT:=Lib.hid hl
  have hll:l.length≤100:=by rw [hl,List.length_map,List.length_take];omega
  clear hp1 hl
  by_cases hlt:i<tr.length
  · skip
    obtain ⟨y,hY⟩ : ∃y,y=tr[i]:=⟨_,rfl⟩
    have HY:=Lib.hid hY
    obtain ⟨g,off,hAA,hgl,hrg⟩:=(H1.out.new_ HP1.out.pb.bel).range hlt
    rw [← hY] at hrg
    subst hAA
    have HRG:=Lib.hid (show wr.rangeAt g (off+i*14) [.int .i64 y.elem.id.kind,.string y.elem.id.text,.int .i64 y.elem.id.n,.int .i64 y.elem.attr.kind,.string y.elem.attr.text,.int .i64 y.elem.attr.n,.int .i64 y.elem.value.kind,.string y.elem.value.text,.int .i64 y.elem.value.n,.bool y.elem.acc,.bool y.elem.goal,.int .i64 y.elem.tag,.int .i64 y.level,.int .i64 y.cause] from hrg)
    have HTH:=Lib.hid (show (wr.alloc (.cells #[.int .i64 0,.string ⟨#[]⟩,.int .i64 0,.int .i64 0,.string ⟨#[]⟩,.int .i64 0,.int .i64 0,.string ⟨#[]⟩,.int .i64 0,.bool false,.bool false,.int .i64 0,.int .i64 0,.int .i64 0] 57)).there wr.heap.size 0 (#[.int .i64 y.elem.id.kind,.string y.elem.id.text,.int .i64 y.elem.id.n,.int .i64 y.elem.attr.kind,.string y.elem.attr.text,.int .i64 y.elem.attr.n,.int .i64 y.elem.value.kind,.string y.elem.value.text,.int .i64 y.elem.value.n,.bool y.elem.acc,.bool y.elem.goal,.int .i64 y.elem.tag,.int .i64 y.level,.int .i64 y.cause]:Array Value).size from (Blk.new wr 57 #[.int .i64 0,.string ⟨#[]⟩,.int .i64 0,.int .i64 0,.string ⟨#[]⟩,.int .i64 0,.int .i64 0,.string ⟨#[]⟩,.int .i64 0,.bool false,.bool false,.int .i64 0,.int .i64 0,.int .i64 0]).there)
    obtain ⟨W5,hW5⟩ : ∃W5,W5=(wr.alloc (.cells #[.int .i64 0,.string ⟨#[]⟩,.int .i64 0,.int .i64 0,.string ⟨#[]⟩,.int .i64 0,.int .i64 0,.string ⟨#[]⟩,.int .i64 0,.bool false,.bool false,.int .i64 0,.int .i64 0,.int .i64 0] 57)).setCells wr.heap.size 0 [.int .i64 y.elem.id.kind,.string y.elem.id.text,.int .i64 y.elem.id.n,.int .i64 y.elem.attr.kind,.string y.elem.attr.text,.int .i64 y.elem.attr.n,.int .i64 y.elem.value.kind,.string y.elem.value.text,.int .i64 y.elem.value.n,.bool y.elem.acc,.bool y.elem.goal,.int .i64 y.elem.tag,.int .i64 y.level,.int .i64 y.cause]:=⟨_,rfl⟩
    have HW5:=Lib.hid hW5
    have HRG5:=Lib.hid (show W5.rangeAt wr.heap.size 0 [.int .i64 y.elem.id.kind,.string y.elem.id.text,.int .i64 y.elem.id.n,.int .i64 y.elem.attr.kind,.string y.elem.attr.text,.int .i64 y.elem.attr.n,.int .i64 y.elem.value.kind,.string y.elem.value.text,.int .i64 y.elem.value.n,.bool y.elem.acc,.bool y.elem.goal,.int .i64 y.elem.tag,.int .i64 y.level,.int .i64 y.cause] by rw [hW5];exact World.rangeAt_setCells_same _ _ _ _ HTH.out)
    have HK5:=Lib.hid (show Blk W5 wr.heap.size 57 #[.int .i64 y.elem.id.kind,.string y.elem.id.text,.int .i64 y.elem.id.n,.int .i64 y.elem.attr.kind,.string y.elem.attr.text,.int .i64 y.elem.attr.n,.int .i64 y.elem.value.kind,.string y.elem.value.text,.int .i64 y.elem.value.n,.bool y.elem.acc,.bool y.elem.goal,.int .i64 y.elem.tag,.int .i64 y.level,.int .i64 y.cause] from kept_blk (zs:=[.int .i64 0,.string ⟨#[]⟩,.int .i64 0,.int .i64 0,.string ⟨#[]⟩,.int .i64 0,.int .i64 0,.string ⟨#[]⟩,.int .i64 0,.bool false,.bool false,.int .i64 0,.int .i64 0,.int .i64 0]) (vs:=[.int .i64 y.elem.id.kind,.string y.elem.id.text,.int .i64 y.elem.id.n,.int .i64 y.elem.attr.kind,.string y.elem.attr.text,.int .i64 y.elem.attr.n,.int .i64 y.elem.value.kind,.string y.elem.value.text,.int .i64 y.elem.value.n,.bool y.elem.acc,.bool y.elem.goal,.int .i64 y.elem.tag,.int .i64 y.level,.int .i64 y.cause]) rfl hW5 HRG5.out)
    have HB5:=Lib.hid (show Below wr.heap.size wr W5 by rw [hW5];exact Below.setCells' _ _ ((Below.refl _ _).alloc (Nat.le_refl _) _) (Nat.le_refl _))
    have j1:(0:Int)≤(i:Int):=by omega
    have j2:(i:Int)<(tr.length:Int):=by omega
    clear hW5 hrg hY
    go_upto_region 5 with (first
    | (with_reducible refine wpList_load_mid rfl 57 _ rfl g (off+i*14) rfl [.int .i64 y.elem.id.kind,.string y.elem.id.text,.int .i64 y.elem.id.n,.int .i64 y.elem.attr.kind,.string y.elem.attr.text,.int .i64 y.elem.attr.n,.int .i64 y.elem.value.kind,.string y.elem.value.text,.int .i64 y.elem.value.n,.bool y.elem.acc,.bool y.elem.goal,.int .i64 y.elem.tag,.int .i64 y.level,.int .i64 y.cause] _ HRG.out Tryz.underlying57 rfl (by kernel_rfl) ?_)
    | ((with_reducible refine wpList_store_mid rfl 57 _ _ rfl wr.heap.size 0 #[.int .i64 y.elem.id.kind,.string y.elem.id.text,.int .i64 y.elem.id.n,.int .i64 y.elem.attr.kind,.string y.elem.attr.text,.int .i64 y.elem.attr.n,.int .i64 y.elem.value.kind,.string y.elem.value.text,.int .i64 y.elem.value.n,.bool y.elem.acc,.bool y.elem.goal,.int .i64 y.elem.tag,.int .i64 y.level,.int .i64 y.cause] rfl rfl HTH.out (by kernel_rfl) (by kernel_rfl) ?_);rw [← HW5.out]))
    have HP5:=Lib.hid (HP1.out.new_ HB5.out)
    have HRE:=Lib.hid (show W5.rangeAt wr.heap.size 0 [.int .i64 y.elem.id.kind,.string y.elem.id.text,.int .i64 y.elem.id.n,.int .i64 y.elem.attr.kind,.string y.elem.attr.text,.int .i64 y.elem.attr.n,.int .i64 y.elem.value.kind,.string y.elem.value.text,.int .i64 y.elem.value.n,.bool y.elem.acc,.bool y.elem.goal,.int .i64 y.elem.tag] from rangeAt_pre (m:=[.int .i64 y.level,.int .i64 y.cause]) HRG5.out)
    obtain ⟨W6,hW6⟩ : ∃W,W=W5.alloc (.cells #[.int .i64 y.elem.id.kind,.string y.elem.id.text,.int .i64 y.elem.id.n,.int .i64 y.elem.attr.kind,.string y.elem.attr.text,.int .i64 y.elem.attr.n,.int .i64 y.elem.value.kind,.string y.elem.value.text,.int .i64 y.elem.value.n,.bool y.elem.acc,.bool y.elem.goal,.int .i64 y.elem.tag] 55):=⟨_,rfl⟩
    have HW6:=Lib.hid hW6
    have hb6:Below W5.heap.size W5 W6:=by rw [hW6];exact (Below.refl _ _).alloc (Nat.le_refl _) _
    have HP6:=Lib.hid (HP5.out.new_ hb6)
    have HN6:=Lib.hid (show 0<1→∃ad,(some (⟨W5.heap.size,0,none⟩:Addr))=some ad∧∀j u,([y.elem].flatMap Elem.cells)[j]? = some u→W6.cell? (ad.add j)=some u from fun _=>⟨_,rfl,by rw [hW6];exact World.news_of_block (heap_alloc_new _ _)⟩)
    clear hW6 hb6
    go_upto_region 6 with (first
    | (with_reducible refine wpList_load_mid rfl 55 _ rfl wr.heap.size 0 rfl [.int .i64 y.elem.id.kind,.string y.elem.id.text,.int .i64 y.elem.id.n,.int .i64 y.elem.attr.kind,.string y.elem.attr.text,.int .i64 y.elem.attr.n,.int .i64 y.elem.value.kind,.string y.elem.value.text,.int .i64 y.elem.value.n,.bool y.elem.acc,.bool y.elem.goal,.int .i64 y.elem.tag] _ HRE.out Tryz.underlying55 rfl (by kernel_rfl) ?_)
    | (at_builtin;rw [← HW6.out];refine wpList_append_src W6 rfl (.tmp 43) (.tmp 46) 84 rfl 55 i0 _ 12 112 Tryz.underlying84 hi0 hz0 hz1 hz2 rfl (by omega) (.slice A l.length c) l.length (l.flatMap Elem.cells) rfl HP6.out.own (some ⟨W5.heap.size,0,none⟩) 1 1 ([y.elem].flatMap Elem.cells) rfl rfl HN6.out (one_Elem _) (by unfold maxLen;omega) (by omega) ?_;intro v1 w9 hown1 hg1 hnil1 hat1;obtain ⟨A9,c9,rfl,hp9⟩:=HP6.out.more hown1 hg1 hat1;obtain ⟨ol,hol⟩ : ∃ol,ol=l ++ [y.elem]:=⟨_,rfl⟩;rw [← hol] at hp9 ⊢;have HOL:=Lib.hid hol;have HP9:=Lib.hid hp9;clear hown1 hg1 hnil1 hat1 hp9 hol))
    go_wp2_with fail
    go_roundw
    case rel=>exact ⟨i+1,ol,A9,c9,by go_num,by omega,rfl,by rw [HOL.out,HLT.out,take_snocV hlt,List.map_append,HY.out];rfl,HP9.out⟩
    case measure=>simp [intOf]<;>omega
  · skip
    obtain rfl:i=tr.length:=by omega
    obtain rfl:l=L:=by rw [HLT.out,List.take_length,HL.out]
    clear HLT hll hi hlt
    have HLD:=Lib.hid (laid_is l A c wr (ownsRow_rd Elem.cells_length HP1.out.own) (by omega))
    have hi2:(tr.length:Int)<(tr.length:Int)→False:=fun h=>by omega
    cases hOV:orderV l with
    | none=>
      replace HLD:=Lib.hid (show Calls Tryz.prog 61 #[.slice A l.length c] wr fun e w'=>Below wr.heap.size wr w'∧e = .returned (.tuple #[.slice none 0 0,.pointer none,.bool false]) from by
       have h:=HLD.out
       unfold LaidTo at h
       rw [hOV] at h
       exact h)
      go_wp2_with fail
      refine HLD.out.mono ?_
      rintro e w3 ⟨hb3,rfl⟩
      have HPB:=Lib.hid (HP1.out.pb.new_ hb3)
      clear hb3
      have HPV:=Lib.hid (show prodV (m+1) nm l old news prefs=none by unfold prodV;rw [hOV])
      have HT:=Lib.hid (show w3.there (X.heap.size+1) 0 (#[Value.string ⟨#[]⟩,Value.slice none 0 0,Value.slice none 0 0]:Array Value).size from HPB.out.r.there)
      have HBB:=Lib.hid HPB.out.bel
      go_wp2_with (with_reducible refine wpList_store_mid rfl 45 _ _ rfl (X.heap.size+1) 0 #[Value.string ⟨#[]⟩,Value.slice none 0 0,Value.slice none 0 0] rfl rfl HT.out (by kernel_rfl) (by kernel_rfl) ?_)
      try simp only [Exit.inBlock,Exit.then]
      refine bodyPost_ret (v:=.tuple #[.agg #[.string ⟨#[]⟩,.slice none 0 0,.slice none 0 0],.slice none 0 0,.bool false]) ?_ rfl (ProdTo.no HPV.out (Below.setCells' _ _ HBB.out (by omega)))
      exact results_cell_tmp2 (t:=8) (s:=9) (s2:=10) (T:=45) rfl _ _ (X.heap.size+1) [Value.string ⟨#[]⟩,Value.slice none 0 0,Value.slice none 0 0] _ rfl (World.rangeAt_setCells_same w3 (X.heap.size+1) 0 [Value.string ⟨#[]⟩,Value.slice none 0 0,Value.slice none 0 0] HT.out) Tryz.underlying45 rfl (by kernel_rfl)
    | some z=>
      obtain ⟨o,ns⟩:=z
      replace HLD:=Lib.hid (show Calls Tryz.prog 61 #[.slice A l.length c] wr fun e w'=>Below wr.heap.size wr w'∧∃A c nb D,e = .returned (.tuple #[.slice A o.length c,.pointer (some ⟨nb,0,none⟩),.bool true])∧w'.ownsRow 0 55 12 (.slice A o.length c) o.length (o.flatMap Elem.cells)∧AIn A (fun k=>wr.heap.size≤k∧¬D k)∧Nm D w' nb ns∧∀k,D k→wr.heap.size≤k from by
       have h:=HLD.out
       unfold LaidTo at h
       rw [hOV] at h
       exact h)
      obtain ⟨hperm,hnd,hnl,_⟩:=orderV_told hOV
      have olz:o.length≤100:=by have:=hperm.length_eq;omega
      have nlz:ns.length≤200:=by omega
      have HOV:=Lib.hid hOV
      clear hperm hnd hOV
      go_upto_region 8 with fail
      refine HLD.out.mono ?_
      rintro e w3 ⟨hb3,AO,cO,nb,D,rfl,hO3,hA3,hN3,hD3⟩
      have HPB:=Lib.hid (HP1.out.pb.new_ hb3)
      have HO3:=Lib.hid (And.intro hO3 (And.intro hA3 (And.intro hN3 hD3)))
      have HX3:=Lib.hid (show X.heap.size+2≤wr.heap.size from HP1.out.pb.r.lt)
      clear hb3 hO3 hA3 hN3 hD3
      by_cases ho0:o.length=0
      case pos=>
       have HPV:=Lib.hid (show prodV (m+1) nm l old news prefs=none by unfold prodV;rw [HOV.out];simp only;rw [if_pos (List.length_eq_zero_iff.1 ho0)])
       have HT:=Lib.hid (show w3.there (X.heap.size+1) 0 (#[Value.string ⟨#[]⟩,Value.slice none 0 0,Value.slice none 0 0]:Array Value).size from HPB.out.r.there)
       have HBB:=Lib.hid HPB.out.bel
       go_wp2_with (with_reducible refine wpList_store_mid rfl 45 _ _ rfl (X.heap.size+1) 0 #[Value.string ⟨#[]⟩,Value.slice none 0 0,Value.slice none 0 0] rfl rfl HT.out (by kernel_rfl) (by kernel_rfl) ?_)
       try simp only [Exit.inBlock,Exit.then]
       refine bodyPost_ret (v:=.tuple #[.agg #[.string ⟨#[]⟩,.slice none 0 0,.slice none 0 0],.slice none 0 0,.bool false]) ?_ rfl (ProdTo.no HPV.out (Below.setCells' _ _ HBB.out (by omega)))
       exact results_cell_tmp2 (t:=8) (s:=9) (s2:=10) (T:=45) rfl _ _ (X.heap.size+1) [Value.string ⟨#[]⟩,Value.slice none 0 0,Value.slice none 0 0] _ rfl (World.rangeAt_setCells_same w3 (X.heap.size+1) 0 [Value.string ⟨#[]⟩,Value.slice none 0 0,Value.slice none 0 0] HT.out) Tryz.underlying45 rfl (by kernel_rfl)
      have HOL0:=Lib.hid ho0
      have HNL:=Lib.hid hnl
      have ol1:(o.length == 0)=false:=by rw [beq_eq_false_iff_ne];omega
      have ol2 : ¬(o.length:Int)=0:=by omega
      have ol3:((o.length:Int) == 0)=false:=by rw [beq_eq_false_iff_ne];omega
      have m3:=(HPB.out.t.cell 3).trans rfl
      have mz:=HPB.out.t.lt
      go_upto_region 11 with fail
      clear m3 mz ol1 ol2 ol3 ho0
      go_loopw [66] (fun vi wn=>∃(k:Nat),vi = .int .i64 (k:Int)∧k≤news.length∧(∀j,(hj:j<news.length)→j<k→plV ns news[j]=0)∧Below w3.heap.size w3 wn) (fun vi wn=>news.length - (intOf vi).toNat)
      case atStart=>exact ⟨0,rfl,Nat.zero_le _,fun j _ h=>absurd h (Nat.not_lt_zero _),Below.refl _ _⟩
      case round=>
       obtain ⟨k,rfl,hk,hall,hbn⟩:=hrel
       have HALL:=Lib.hid hall
       have HBN:=Lib.hid hbn
       clear hall hbn
       by_cases hlt:k<news.length
       · skip
         obtain ⟨s,hs⟩ : ∃s,s=news[k]:=⟨_,rfl⟩
         have HS:=Lib.hid hs
         obtain ⟨g,off,hAA,hgl,hrg⟩:=(H2.out.new_ (HPB.out.bel.trans (HBN.out.mono HPB.out.bel.size))).range hlt
         rw [← hs] at hrg
         subst hAA
         have q0:=hrg 0 _ rfl
         have q1:=hrg 1 _ rfl
         have q2:=hrg 2 _ rfl
         rw [Nat.add_zero] at q0
         have j1:(0:Int)≤(k:Int):=by omega
         have j2:(k:Int)<(news.length:Int):=by omega
         clear hrg hs
         go_upto_region 13 with fail
         obtain ⟨W5,hW5⟩ : ∃W,W=wr.alloc (.cells #[.int .i64 s.kind,.string s.text,.int .i64 s.n] 23):=⟨_,rfl⟩
         have hb5:Below wr.heap.size wr W5:=by rw [hW5];exact (Below.refl _ _).alloc (Nat.le_refl _) _
         have HK5:=Lib.hid (show Blk W5 wr.heap.size 23 #[.int .i64 s.kind,.string s.text,.int .i64 s.n] by rw [hW5];exact Blk.new _ _ _)
         have HB5:=Lib.hid (HBN.out.trans (hb5.mono HBN.out.size))
         have HPC:=Lib.hid (place_is s W5 (HO3.out.2.2.1.new_ HB5.out) (by omega))
         rw [← hW5]
         clear hW5 hb5 q0 q1 q2
         obtain ⟨k0,k1,k2⟩:=HK5.out.c3
         have kz:=HK5.out.lt
         obtain ⟨pv,hpv⟩ : ∃pv,pv=plV ns s:=⟨_,rfl⟩
         rw [← hpv] at HPC
         have HPV0:=Lib.hid hpv
         clear hpv
         go_wp2_with fail
         refine HPC.out.mono ?_
         rintro e w6 ⟨rfl,hb6⟩
         have HB6:=Lib.hid (HB5.out.trans (hb6.mono HB5.out.size))
         clear hb6 k0 k1 k2 kz
         by_cases hp0:pv=0
         · subst hp0
           go_wp2_with fail
           have HAL2:=Lib.hid (show ∀j,(hj:j<news.length)→j<k+1→plV ns news[j]=0 from fun j hj hjk=>by
            rcases Nat.lt_or_ge j k with h | h
            · exact HALL.out j hj h
            · obtain rfl:j=k:=by omega
              rw [← HS.out];exact HPV0.out.symm)
           go_roundw
           case rel=>exact ⟨k+1,by go_num,by omega,HAL2.out,HB6.out⟩
           case measure=>simp [intOf]<;>omega
         · have pr1:(0:Int)<(pv:Int):=by omega
           have pr2:0<pv:=by omega
           have HPB:=Lib.hid (HPB.out.new_ HB6.out)
           have HPV:=Lib.hid (show prodV (m+1) nm l old news prefs=none by unfold prodV;rw [HOV.out];simp only;rw [if_neg (fun e=>HOL0.out (by rw [e];rfl)),if_pos (List.any_eq_true.2 ⟨s,by rw [HS.out];exact List.getElem_mem hlt,by rw [← HPV0.out];simp [hp0]⟩)])
           have HT:=Lib.hid (show w6.there (X.heap.size+1) 0 (#[Value.string ⟨#[]⟩,Value.slice none 0 0,Value.slice none 0 0]:Array Value).size from HPB.out.r.there)
           have HBB:=Lib.hid HPB.out.bel
           go_wp2_with (with_reducible refine wpList_store_mid rfl 45 _ _ rfl (X.heap.size+1) 0 #[Value.string ⟨#[]⟩,Value.slice none 0 0,Value.slice none 0 0] rfl rfl HT.out (by kernel_rfl) (by kernel_rfl) ?_)
           try simp only [Exit.inBlock,Exit.then]
           refine bodyPost_ret (v:=.tuple #[.agg #[.string ⟨#[]⟩,.slice none 0 0,.slice none 0 0],.slice none 0 0,.bool false]) ?_ rfl (ProdTo.no HPV.out (Below.setCells' _ _ HBB.out (by omega)))
           exact results_cell_tmp2 (t:=8) (s:=9) (s2:=10) (T:=45) rfl _ _ (X.heap.size+1) [Value.string ⟨#[]⟩,Value.slice none 0 0,Value.slice none 0 0] _ rfl (World.rangeAt_setCells_same w6 (X.heap.size+1) 0 [Value.string ⟨#[]⟩,Value.slice none 0 0,Value.slice none 0 0] HT.out) Tryz.underlying45 rfl (by kernel_rfl)
       · skip
         obtain rfl:k=news.length:=by omega
         have HPVX:=Lib.hid (show prodV (m+1) nm l old news prefs=prodW (m+1) nm (o.map (posV ns)) (o.map Elem.tag) old ns prefs by
          unfold prodV
          rw [HOV.out]
          simp only
          rw [if_neg (fun e=>HOL0.out (by rw [e];rfl)),if_neg]
          intro ha
          obtain ⟨s,hs,h2⟩:=List.any_eq_true.1 ha
          obtain ⟨j,hj,rfl⟩:=List.getElem_of_mem hs
          rw [HALL.out j hj hj] at h2
          simp at h2)
         have HPB:=Lib.hid (HPB.out.new_ HBN.out)
         have jz : ¬(news.length:Int)<(news.length:Int):=by omega
         clear HALL hk hlt
         go_upto_region 17 with fail
         obtain ⟨W8,hW8⟩ : ∃W,W=wr.alloc (.cells #[.pointer (some ⟨nb,0,none⟩),.slice AO o.length cO,.slice none 0 0] 130):=⟨_,rfl⟩
         obtain ⟨mb,hmb⟩ : ∃g,g=wr.heap.size:=⟨_,rfl⟩
         have hb8:Below wr.heap.size wr W8:=by rw [hW8];exact (Below.refl _ _).alloc (Nat.le_refl _) _
         have HP3:=Lib.hid (show P3 X #[.slice AE tr.length cE,.slice AH 0 cH,.slice AA 0 cA,.slice AN news.length cN,.int .i64 tv,.int .i64 tl] nb mb ns o AO cO [] none 0 [] none 0 D W8 by
          obtain ⟨hO3,hA3,hN3,hD3⟩:=HO3.out
          have hx3:=HX3.out
          have hb38:Below w3.heap.size w3 W8:=HBN.out.trans (hb8.mono HBN.out.size)
          have hz:=HBN.out.size
          refine ⟨⟨hN3.new_ hb38,fun k hk=>by have:=hD3 k hk;omega,by rw [hW8,hmb];exact Blk.new _ _ _,by have:=HPB.out.r.lt;omega,fun hd=>by have:=hN3.lt _ hd;omega,ownsRow_new hO3 hb38,fun a ha=>⟨by have:=(hA3 a ha).1;omega,(hA3 a ha).2⟩,⟨by simp,.inl ⟨rfl,rfl⟩⟩,AIn.none_ _,fun v hv=>(by cases hv),fun v hv=>(by cases hv),List.nodup_nil,(HPB.out.new_ hb8).bel⟩,HPB.out.new_ hb8,⟨by simp,.inl ⟨rfl,rfl⟩⟩,AIn.none_ _,fun k hk=>by have:=hD3 k hk;omega⟩)
         rw [← hW8,← hmb]
         clear hW8 hmb hb8 HPB HO3 HX3 HBN jz
         go_upto_region 19 with fail
         go_loopw [19,82] (fun vt vi wr=>∃(i:Nat) (vcs:List VCo) (AC:Option Addr) (cC:Nat) (tags:List Int) (At:Option Addr) (ct:Nat),vi = .int .i64 (i:Int)∧i≤o.length∧vt = .slice At tags.length ct∧tags=(o.take i).map Elem.tag∧vcs.map VCo.cond=(o.take i).map (posV ns)∧P3 X #[.slice AE tr.length cE,.slice AH 0 cH,.slice AA 0 cA,.slice AN news.length cN,.int .i64 tv,.int .i64 tl] nb mb ns o AO cO vcs AC cC tags At ct D wr) (fun vt vi wr=>o.length - (intOf vi).toNat)
         case atStart=>exact ⟨0,[],none,0,[],none,0,rfl,Nat.zero_le _,rfl,rfl,rfl,HP3.out⟩
         case round=>
          clear HP3
          obtain ⟨i,vcs,AC,cC,tags,At,ct,rfl,hi,rfl,htg,hvc,hp3⟩:=hrel
          have HP3:=Lib.hid hp3
          have HTG:=Lib.hid htg
          have HVC:=Lib.hid hvc
          have hvl:vcs.length≤100:=by have:=congrArg List.length hvc;rw [List.length_map,List.length_map,List.length_take] at this;omega
          have htl:tags.length≤100:=by rw [htg,List.length_map,List.length_take];omega
          clear hp3 htg hvc
          by_cases hlt:i<o.length
          · skip
            obtain ⟨y,hY⟩ : ∃y,y=o[i]:=⟨_,rfl⟩
            have HY:=Lib.hid hY
            obtain ⟨g,off,hAA,hgl,hrg⟩:=(ownsRow_rd Elem.cells_length HP3.out.cs.eo).range hlt
            rw [← hY] at hrg
            subst hAA
            have HRG:=Lib.hid (show wr.rangeAt g (off+i*12) [.int .i64 y.id.kind,.string y.id.text,.int .i64 y.id.n,.int .i64 y.attr.kind,.string y.attr.text,.int .i64 y.attr.n,.int .i64 y.value.kind,.string y.value.text,.int .i64 y.value.n,.bool y.acc,.bool y.goal,.int .i64 y.tag] from hrg)
            have HTH:=Lib.hid (show (wr.alloc (.cells #[.int .i64 0,.string ⟨#[]⟩,.int .i64 0,.int .i64 0,.string ⟨#[]⟩,.int .i64 0,.int .i64 0,.string ⟨#[]⟩,.int .i64 0,.bool false,.bool false,.int .i64 0] 55)).there wr.heap.size 0 (#[.int .i64 y.id.kind,.string y.id.text,.int .i64 y.id.n,.int .i64 y.attr.kind,.string y.attr.text,.int .i64 y.attr.n,.int .i64 y.value.kind,.string y.value.text,.int .i64 y.value.n,.bool y.acc,.bool y.goal,.int .i64 y.tag]:Array Value).size from (Blk.new wr 55 #[.int .i64 0,.string ⟨#[]⟩,.int .i64 0,.int .i64 0,.string ⟨#[]⟩,.int .i64 0,.int .i64 0,.string ⟨#[]⟩,.int .i64 0,.bool false,.bool false,.int .i64 0]).there)
            obtain ⟨W5,hW5⟩ : ∃W5,W5=(wr.alloc (.cells #[.int .i64 0,.string ⟨#[]⟩,.int .i64 0,.int .i64 0,.string ⟨#[]⟩,.int .i64 0,.int .i64 0,.string ⟨#[]⟩,.int .i64 0,.bool false,.bool false,.int .i64 0] 55)).setCells wr.heap.size 0 [.int .i64 y.id.kind,.string y.id.text,.int .i64 y.id.n,.int .i64 y.attr.kind,.string y.attr.text,.int .i64 y.attr.n,.int .i64 y.value.kind,.string y.value.text,.int .i64 y.value.n,.bool y.acc,.bool y.goal,.int .i64 y.tag]:=⟨_,rfl⟩
            have HW5:=Lib.hid hW5
            have HRG5:=Lib.hid (show W5.rangeAt wr.heap.size 0 [.int .i64 y.id.kind,.string y.id.text,.int .i64 y.id.n,.int .i64 y.attr.kind,.string y.attr.text,.int .i64 y.attr.n,.int .i64 y.value.kind,.string y.value.text,.int .i64 y.value.n,.bool y.acc,.bool y.goal,.int .i64 y.tag] by rw [hW5];exact World.rangeAt_setCells_same _ _ _ _ HTH.out)
            have HK5:=Lib.hid (show Blk W5 wr.heap.size 55 #[.int .i64 y.id.kind,.string y.id.text,.int .i64 y.id.n,.int .i64 y.attr.kind,.string y.attr.text,.int .i64 y.attr.n,.int .i64 y.value.kind,.string y.value.text,.int .i64 y.value.n,.bool y.acc,.bool y.goal,.int .i64 y.tag] from kept_blk (zs:=[.int .i64 0,.string ⟨#[]⟩,.int .i64 0,.int .i64 0,.string ⟨#[]⟩,.int .i64 0,.int .i64 0,.string ⟨#[]⟩,.int .i64 0,.bool false,.bool false,.int .i64 0]) (vs:=[.int .i64 y.id.kind,.string y.id.text,.int .i64 y.id.n,.int .i64 y.attr.kind,.string y.attr.text,.int .i64 y.attr.n,.int .i64 y.value.kind,.string y.value.text,.int .i64 y.value.n,.bool y.acc,.bool y.goal,.int .i64 y.tag]) rfl hW5 HRG5.out)
            have HB5:=Lib.hid (show Below wr.heap.size wr W5 by rw [hW5];exact Below.setCells' _ _ ((Below.refl _ _).alloc (Nat.le_refl _) _) (Nat.le_refl _))
            have j1:(0:Int)≤(i:Int):=by omega
            have j2:(i:Int)<(o.length:Int):=by omega
            clear hW5 hrg hY
            go_upto_region 21 with (first
            | (with_reducible refine wpList_load_mid rfl 55 _ rfl g (off+i*12) rfl [.int .i64 y.id.kind,.string y.id.text,.int .i64 y.id.n,.int .i64 y.attr.kind,.string y.attr.text,.int .i64 y.attr.n,.int .i64 y.value.kind,.string y.value.text,.int .i64 y.value.n,.bool y.acc,.bool y.goal,.int .i64 y.tag] _ HRG.out Tryz.underlying55 rfl (by kernel_rfl) ?_)
            | ((with_reducible refine wpList_store_mid rfl 55 _ _ rfl wr.heap.size 0 #[.int .i64 y.id.kind,.string y.id.text,.int .i64 y.id.n,.int .i64 y.attr.kind,.string y.attr.text,.int .i64 y.attr.n,.int .i64 y.value.kind,.string y.value.text,.int .i64 y.value.n,.bool y.acc,.bool y.goal,.int .i64 y.tag] rfl rfl HTH.out (by kernel_rfl) (by kernel_rfl) ?_);rw [← HW5.out]))
            have HP5:=Lib.hid (HP3.out.new_ HB5.out)
            obtain ⟨bx,hbx⟩ : ∃b,b=wr.heap.size:=⟨_,rfl⟩
            rw [← hbx] at HK5 ⊢
            have HPOS:=Lib.hid (show ∀W,Below W5.heap.size W5 W→Calls Tryz.prog 63 #[.pointer (some ⟨mb,0,none⟩),.agg #[.int .i64 y.id.kind,.string y.id.text,.int .i64 y.id.n,.int .i64 y.attr.kind,.string y.attr.text,.int .i64 y.attr.n,.int .i64 y.value.kind,.string y.value.text,.int .i64 y.value.n,.bool y.acc,.bool y.goal,.int .i64 y.tag]] W (PosTo ns y W) from fun W hW=>mpos_is y W ((HP5.out.cs.new_ hW).nm) ((HP5.out.cs.new_ hW).mk_) (by omega))
            obtain ⟨i1,hi1,hy0,hy1,hy2⟩:=infp inf_CondV
            obtain ⟨k0,k1,k2,k3,k4,k5,k6,k7,k8,k9,k10,k11⟩:=HK5.out.c12
            have kz:=HK5.out.lt
            have m2:=(HP5.out.cs.mkb.cell 2).trans rfl
            have mz:=HP5.out.cs.mkb.lt
            have n1:(0:Int)≤(vcs.length:Int):=by omega
            have n2:(vcs.length:Int)<(vcs.length:Int)+1:=by omega
            have n3:(vcs.length:Int)<((vcs.length+1:Nat):Int):=by omega
            clear HW5 HRG HTH HRG5 hbx
            obtain ⟨nv,hnv⟩ : ∃nv,nv=nameV y.id (plV ns y.id:Int):=⟨_,rfl⟩
            unfold PosTo at HPOS
            rw [← hnv] at HPOS
            have HNV:=Lib.hid hnv
            clear hnv
            refine wp_region_Pl (fun w9=>Below W5.heap.size W5 w9) [0,1,2,3,4,5,7,10,12,13] [3,5] (.fork [(0,0),(1,0),(2,0),(3,1),(4,0),(5,1),(7,0)] 6 (.fork [(8,2),(9,2),(10,0),(12,0),(13,0)] 11 (.fin [(14,2)]) 14 (.fin [(11,2)])) 8 (.fork [(6,2),(9,2),(10,0),(12,0),(13,0)] 11 (.fin [(14,2)]) 14 (.fin [(11,2)]))) (by kernel_rfl) (by kernel_rfl) (by kernel_rfl) (fun KK hKK=>?_)
            simp only [wpPl,beside,List.filterMap_cons,List.filterMap_nil,List.getElem?_toArray,List.getElem?_cons_zero,List.getElem?_cons_succ,Option.map_some]
            repeat ((first | (refine wpY_w ?_ (Or.inl ⟨by rfl,fun w9=>?_⟩) ?_;rotate_left 1;go_simp;with_reducible rfl) | (refine wpY_l ?_ ((Below.refl _ _).drew) (Or.inl ⟨by rfl,fun w9 hw9=>?_⟩) ?_;rotate_left 1;obtain ⟨hc9,hf9⟩:=bcell hw9;go_simp;with_reducible rfl) | refine wpY_w undef (Or.inr ⟨by rfl,rfl⟩) ?_ | refine wpY_l undef ((Below.refl _ _).drew) (Or.inr ⟨by rfl,rfl⟩) ?_);go_frame)
            refine wpY_nil ⟨?_,?_⟩
            · refine wpOp_cs rfl (fun K9 hK9=>?_)
              go_simp
              refine (HPOS.out _ ((Below.refl W5.heap.size W5).drew)).mono ?_
              rintro e V2 ⟨ga,gv,rfl,hga,hgv,hg1,hg2,hg3,hb⟩
              have hb2:Below W5.heap.size W5 V2:=((Below.refl W5.heap.size W5).drew).trans (hb.mono ((Below.refl W5.heap.size W5).drew).size)
              have KGA:=Lib.hid hga
              have KGV:=Lib.hid hgv
              have HGX:=Lib.hid (show W5.heap.size≤ga∧W5.heap.size≤gv∧ga≠gv from ⟨Nat.le_trans ((Below.refl W5.heap.size W5).drew).size hg1,Nat.le_trans ((Below.refl W5.heap.size W5).drew).size hg2,hg3⟩)
              clear hb hga hgv hg1 hg2 hg3
              refine hK9 _ _ (fun _=>hb2) ?_
              clear hK9 K9
              try go_frame
              try simp only [beside,List.filterMap_nil]
              refine wpY_es (fun K9 hK9=>?_)
              go_simp
              obtain ⟨V3,hV⟩ : ∃V,V=(V2.alloc (.cells #[.int .i64 0,.bool false,.string ⟨#[]⟩,.slice none 0 0,.slice none 0 0,.bool false,.slice none 0 0] 62)):=⟨_,rfl⟩
              obtain ⟨gz,hgz⟩ : ∃g,g=V2.heap.size:=⟨_,rfl⟩
              have hb:Below V2.heap.size V2 V3:=by rw [hV];exact (Below.refl _ _).alloc (Nat.le_refl _) _
              have hb3:Below W5.heap.size W5 V3:=(hb2).trans (hb.mono (hb2).size)
              have KZ:=Lib.hid (show Blk V3 gz 62 #[.int .i64 0,.bool false,.string ⟨#[]⟩,.slice none 0 0,.slice none 0 0,.bool false,.slice none 0 0] by rw [hV,hgz];exact Blk.new _ _ _)
              have KGA:=Lib.hid (KGA.out.new_ hb)
              have KGV:=Lib.hid (KGV.out.new_ hb)
              rw [← hV,← hgz]
              clear hV hgz hb
              refine hK9 _ _ (hb3) ?_
              clear hK9 K9
              try go_frame
              refine wpY_e (by kernel_rfl) (fun K9 hK9=>?_)
              have HCW:=Lib.hid (HP5.out.new_ hb3)
              refine step_append_src _ (by rfl) _ _ _ (by rfl) 62 i1 _ 7 112 Tryz.underlying42 hi1 hy0 hy1 hy2 rfl (by omega) (.slice AC vcs.length cC) vcs.length (vcs.flatMap VCo.cells) (by rfl) HCW.out.cs.co (some ⟨gz,0,none⟩) 1 1 condC0.cells (by rfl) (by rfl) (fun _=>⟨_,rfl,blk_news KZ.out⟩) (one_c0) (by unfold maxLen;omega) (by omega) ?_
              intro v2 Y hown hgr hnil hat
              obtain ⟨A2,c2,rfl,hF,hA,hO⟩:=grown_own (E:=fun j=>∃a,AC=some a∧a.block=j) (fun a ha=>⟨a,ha,rfl⟩) hown hgr hat
              obtain ⟨gy,hgy⟩:=own_some hO (Nat.succ_pos _)
              subst hgy
              have hok:=vco_ok (v:=(⟨y.goal,nv,⟨1,⟨#[]⟩,y.attr,[]⟩,[testV ns 1 y.value],y.acc,ga,gv,1⟩:VCo)) KGA.out KGV.out
              have HPU:=Lib.hid (HP5.out.push hb3 HGX.out.1 HGX.out.2.1 HGX.out.2.2 hok hF hO hA)
              have HTH:=Lib.hid HPU.out.th
              have hm2:=HPU.out.c2
              have hf2:=HPU.out.f2
              have hz2:=HPU.out.z2
              have hne:=HPU.out.ne
              clear hown hgr hnil hat hF hA hO hok k0 k1 k2 k3 k4 k5 k6 k7 k8 k9 k10 k11 kz m2 mz
              refine hK9 _ _ ?_
              clear hK9 K9
              try go_frame
              repeat ((first | (refine wpY_w ?_ (Or.inl ⟨by rfl,fun w9=>?_⟩) ?_;rotate_left 1;go_simp;with_reducible rfl) | (refine wpY_l ?_ ((Below.refl _ _).drew) (Or.inl ⟨by rfl,fun w9 hw9=>?_⟩) ?_;rotate_left 1;obtain ⟨hc9,hf9⟩:=bcell hw9;go_simp;with_reducible rfl) | refine wpY_w undef (Or.inr ⟨by rfl,rfl⟩) ?_ | refine wpY_l undef ((Below.refl _ _).drew) (Or.inr ⟨by rfl,rfl⟩) ?_);go_frame)
              refine wpY_nil ⟨?_,?_⟩
              · refine wpOp_cs rfl (fun K9 hK9=>?_)
                refine step_store_el rfl 62 _ _ rfl gy (vcs.length*7) #[Value.int IntKind.i64 1,Value.bool y.goal,Value.string nv,Value.slice (some ⟨ga,0,none⟩) 1 1,Value.slice (some ⟨gv,0,none⟩) 1 1,Value.bool y.acc,Value.slice none 0 0] rfl rfl (show _ from HPU.out.th) (by kernel_rfl) (by kernel_rfl) ?_
                obtain ⟨Z,hZ⟩ : ∃Z,Z=Y.setCells gy (vcs.length*7) [Value.int IntKind.i64 1,Value.bool y.goal,Value.string nv,Value.slice (some ⟨ga,0,none⟩) 1 1,Value.slice (some ⟨gv,0,none⟩) 1 1,Value.bool y.acc,Value.slice none 0 0]:=⟨_,rfl⟩
                have HZ:=Lib.hid hZ
                first | rw [← hZ] | rw [show (#[Value.int IntKind.i64 1,Value.bool y.goal,Value.string nv,Value.slice (some ⟨ga,0,none⟩) 1 1,Value.slice (some ⟨gv,0,none⟩) 1 1,Value.bool y.acc,Value.slice none 0 0]:Array Value).toList = [Value.int IntKind.i64 1,Value.bool y.goal,Value.string nv,Value.slice (some ⟨ga,0,none⟩) 1 1,Value.slice (some ⟨gv,0,none⟩) 1 1,Value.bool y.acc,Value.slice none 0 0] from rfl,← hZ]
                have hm2:Z.cell? ⟨mb,2,none⟩=some (.slice AC vcs.length cC):=by rw [hZ];exact HPU.out.c2e
                have hf2:Z.frozen? ⟨mb,2,none⟩=false:=by rw [hZ];exact HPU.out.f2e
                have hz2:mb<Z.heap.size:=by rw [hZ,size_setCells];exact HPU.out.z2
                clear hZ
                refine hK9 _ _ (fun h=>absurd (h.symm.trans (by kernel_rfl:_=false)) (by decide)) ?_
                clear hK9 K9
                try go_frame
                try simp only [beside,List.filterMap_nil]
                refine wpY_e (by kernel_rfl) (fun K9 hK9=>?_)
                go_simp
                refine hK9 _ _ ?_
                clear hK9 K9
                try go_frame
                refine wpY_nil ?_
                simp only [OnlyN_normal]
                refine hKK _ _ ?_
                clear hKK KK
                obtain ⟨V,hV⟩ : ∃V,V=Z.setCell ⟨mb,2,none⟩ (.slice (some ⟨gy,0,none⟩) (vcs.length+1) c2):=⟨_,rfl⟩
                rw [← hV]
                have hV2:=HPU.out.all V (by rw [hV,HZ.out];rfl)
                obtain ⟨vn,hvn⟩ : ∃vn,vn=vcs ++ [(⟨y.goal,nv,⟨1,⟨#[]⟩,y.attr,[]⟩,[testV ns 1 y.value],y.acc,ga,gv,1⟩:VCo)]:=⟨_,rfl⟩
                rw [← hvn] at hV2
                have HVN:=Lib.hid hvn
                have HPN:=Lib.hid hV2.1
                have KX:=Lib.hid (show Blk V bx 55 #[.int .i64 y.id.kind,.string y.id.text,.int .i64 y.id.n,.int .i64 y.attr.kind,.string y.attr.text,.int .i64 y.attr.n,.int .i64 y.value.kind,.string y.value.text,.int .i64 y.value.n,.bool y.acc,.bool y.goal,.int .i64 y.tag] from hV2.2 _ _ (HK5.out.new_ hb3))
                clear hV hV2 hvn hm2 hf2 hz2 hne
                have k11:V.cell? ⟨bx,11,none⟩=some (.int .i64 y.tag):=(KX.out.cell 11).trans rfl
                have kz:=KX.out.lt
                obtain ⟨i2,hi2,hx0,hx1,hx2⟩:=infp inf_Int
                obtain ⟨W6,hW6⟩ : ∃W,W=V.alloc (.cells #[.int .i64 y.tag] 3):=⟨_,rfl⟩
                have HW6:=Lib.hid hW6
                have hb6:Below V.heap.size V W6:=by rw [hW6];exact (Below.refl _ _).alloc (Nat.le_refl _) _
                have HP6:=Lib.hid (HPN.out.new_ hb6)
                have HN6:=Lib.hid (show 0<1→∃ad,(some (⟨V.heap.size,0,none⟩:Addr))=some ad∧∀j u,([y.tag].flatMap Int.cells1)[j]? = some u→W6.cell? (ad.add j)=some u from fun _=>⟨_,rfl,by rw [hW6];exact World.news_of_block (heap_alloc_new _ _)⟩)
                clear hW6 hb6
                go_wp2_with (at_builtin;rw [← HW6.out];refine wpList_append_src W6 rfl (.tmp 99) (.tmp 102) 46 rfl 3 i2 _ 1 8 Tryz.underlying46 hi2 hx0 hx1 hx2 rfl (by omega) (.slice At tags.length ct) tags.length (tags.flatMap Int.cells1) rfl HP6.out.tg (some ⟨V.heap.size,0,none⟩) 1 1 ([y.tag].flatMap Int.cells1) rfl rfl HN6.out (one_Int _) (by unfold maxLen;omega) (by omega) ?_;intro v1 w9 hown1 hg1 hnil1 hat1;obtain ⟨A9,c9,rfl,hp9⟩:=HP6.out.tag hown1 hg1 hat1;obtain ⟨tn,htn⟩ : ∃tn,tn=tags ++ [y.tag]:=⟨_,rfl⟩;rw [← htn] at hp9 ⊢;have HTN:=Lib.hid htn;have HP9:=Lib.hid hp9;clear hown1 hg1 hnil1 hat1 hp9 htn)
                go_roundw
                case rel=>exact ⟨i+1,vn,_,_,tn,A9,c9,by go_num,by omega,rfl,by rw [HTN.out,HTG.out,take_snocV hlt,List.map_append,HY.out];rfl,by rw [HVN.out,List.map_append,HVC.out,take_snocV hlt,List.map_append,← HY.out,HNV.out];rfl,HP9.out⟩
                case measure=>simp [intOf]<;>omega
              · refine wpOp_cs rfl (fun K9 hK9=>?_)
                go_simp
                refine hK9 _ _ (fun h=>absurd (h.symm.trans (by kernel_rfl:_=false)) (by decide)) ?_
                clear hK9 K9
                try go_frame
                try simp only [beside,List.filterMap_nil]
                refine wpY_e (by kernel_rfl) (fun K9 hK9=>?_)
                refine step_store_el rfl 62 _ _ rfl gy (vcs.length*7) #[Value.int IntKind.i64 1,Value.bool y.goal,Value.string nv,Value.slice (some ⟨ga,0,none⟩) 1 1,Value.slice (some ⟨gv,0,none⟩) 1 1,Value.bool y.acc,Value.slice none 0 0] rfl rfl (show _ from HPU.out.th2) (by kernel_rfl) (by kernel_rfl) ?_
                refine hK9 _ _ ?_
                clear hK9 K9
                try go_frame
                refine wpY_nil ?_
                simp only [OnlyN_normal]
                refine hKK _ _ ?_
                clear hKK KK
                obtain ⟨V,hV⟩ : ∃V,V=(Y.setCell ⟨mb,2,none⟩ (.slice (some ⟨gy,0,none⟩) (vcs.length+1) c2)).setCells gy (vcs.length*7) [Value.int IntKind.i64 1,Value.bool y.goal,Value.string nv,Value.slice (some ⟨ga,0,none⟩) 1 1,Value.slice (some ⟨gv,0,none⟩) 1 1,Value.bool y.acc,Value.slice none 0 0]:=⟨_,rfl⟩
                first | rw [← hV] | rw [show (#[Value.int IntKind.i64 1,Value.bool y.goal,Value.string nv,Value.slice (some ⟨ga,0,none⟩) 1 1,Value.slice (some ⟨gv,0,none⟩) 1 1,Value.bool y.acc,Value.slice none 0 0]:Array Value).toList = [Value.int IntKind.i64 1,Value.bool y.goal,Value.string nv,Value.slice (some ⟨ga,0,none⟩) 1 1,Value.slice (some ⟨gv,0,none⟩) 1 1,Value.bool y.acc,Value.slice none 0 0] from rfl,← hV]
                have hV2:=HPU.out.all V (by rw [hV,set_swap HPU.out.ne];rfl)
                obtain ⟨vn,hvn⟩ : ∃vn,vn=vcs ++ [(⟨y.goal,nv,⟨1,⟨#[]⟩,y.attr,[]⟩,[testV ns 1 y.value],y.acc,ga,gv,1⟩:VCo)]:=⟨_,rfl⟩
                rw [← hvn] at hV2
                have HVN:=Lib.hid hvn
                have HPN:=Lib.hid hV2.1
                have KX:=Lib.hid (show Blk V bx 55 #[.int .i64 y.id.kind,.string y.id.text,.int .i64 y.id.n,.int .i64 y.attr.kind,.string y.attr.text,.int .i64 y.attr.n,.int .i64 y.value.kind,.string y.value.text,.int .i64 y.value.n,.bool y.acc,.bool y.goal,.int .i64 y.tag] from hV2.2 _ _ (HK5.out.new_ hb3))
                clear hV hV2 hvn hm2 hf2 hz2 hne
                have k11:V.cell? ⟨bx,11,none⟩=some (.int .i64 y.tag):=(KX.out.cell 11).trans rfl
                have kz:=KX.out.lt
                obtain ⟨i2,hi2,hx0,hx1,hx2⟩:=infp inf_Int
                obtain ⟨W6,hW6⟩ : ∃W,W=V.alloc (.cells #[.int .i64 y.tag] 3):=⟨_,rfl⟩
                have HW6:=Lib.hid hW6
                have hb6:Below V.heap.size V W6:=by rw [hW6];exact (Below.refl _ _).alloc (Nat.le_refl _) _
                have HP6:=Lib.hid (HPN.out.new_ hb6)
                have HN6:=Lib.hid (show 0<1→∃ad,(some (⟨V.heap.size,0,none⟩:Addr))=some ad∧∀j u,([y.tag].flatMap Int.cells1)[j]? = some u→W6.cell? (ad.add j)=some u from fun _=>⟨_,rfl,by rw [hW6];exact World.news_of_block (heap_alloc_new _ _)⟩)
                clear hW6 hb6
                go_wp2_with (at_builtin;rw [← HW6.out];refine wpList_append_src W6 rfl (.tmp 99) (.tmp 102) 46 rfl 3 i2 _ 1 8 Tryz.underlying46 hi2 hx0 hx1 hx2 rfl (by omega) (.slice At tags.length ct) tags.length (tags.flatMap Int.cells1) rfl HP6.out.tg (some ⟨V.heap.size,0,none⟩) 1 1 ([y.tag].flatMap Int.cells1) rfl rfl HN6.out (one_Int _) (by unfold maxLen;omega) (by omega) ?_;intro v1 w9 hown1 hg1 hnil1 hat1;obtain ⟨A9,c9,rfl,hp9⟩:=HP6.out.tag hown1 hg1 hat1;obtain ⟨tn,htn⟩ : ∃tn,tn=tags ++ [y.tag]:=⟨_,rfl⟩;rw [← htn] at hp9 ⊢;have HTN:=Lib.hid htn;have HP9:=Lib.hid hp9;clear hown1 hg1 hnil1 hat1 hp9 htn)
                go_roundw
                case rel=>exact ⟨i+1,vn,_,_,tn,A9,c9,by go_num,by omega,rfl,by rw [HTN.out,HTG.out,take_snocV hlt,List.map_append,HY.out];rfl,by rw [HVN.out,List.map_append,HVC.out,take_snocV hlt,List.map_append,← HY.out,HNV.out];rfl,HP9.out⟩
                case measure=>simp [intOf]<;>omega
            · refine wpOp_cs rfl (fun K9 hK9=>?_)
              go_simp
              obtain ⟨V2,hV⟩ : ∃V,V=(W5.alloc (.cells #[.int .i64 0,.bool false,.string ⟨#[]⟩,.slice none 0 0,.slice none 0 0,.bool false,.slice none 0 0] 62)).drew:=⟨_,rfl⟩
              obtain ⟨gz,hgz⟩ : ∃g,g=W5.heap.size:=⟨_,rfl⟩
              have hb:Below W5.heap.size W5 V2:=by rw [hV];exact ((Below.refl _ _).alloc (Nat.le_refl _) _).drew
              have hb2:Below W5.heap.size W5 V2:=hb
              have KZ:=Lib.hid (show Blk V2 gz 62 #[.int .i64 0,.bool false,.string ⟨#[]⟩,.slice none 0 0,.slice none 0 0,.bool false,.slice none 0 0] by rw [hV,hgz];exact Blk.new _ _ _)
              rw [← hV,← hgz]
              clear hV hgz hb
              refine hK9 _ _ (fun _=>hb2) ?_
              clear hK9 K9
              try go_frame
              try simp only [beside,List.filterMap_nil]
              refine wpY_es (fun K9 hK9=>?_)
              go_simp
              refine (HPOS.out _ (hb2)).mono ?_
              rintro e V3 ⟨ga,gv,rfl,hga,hgv,hg1,hg2,hg3,hb⟩
              have hb3:Below W5.heap.size W5 V3:=(hb2).trans (hb.mono (hb2).size)
              have KGA:=Lib.hid hga
              have KGV:=Lib.hid hgv
              have HGX:=Lib.hid (show W5.heap.size≤ga∧W5.heap.size≤gv∧ga≠gv from ⟨Nat.le_trans (hb2).size hg1,Nat.le_trans (hb2).size hg2,hg3⟩)
              have KZ:=Lib.hid (KZ.out.new_ hb)
              clear hb hga hgv hg1 hg2 hg3
              refine hK9 _ _ (hb3) ?_
              clear hK9 K9
              try go_frame
              refine wpY_e (by kernel_rfl) (fun K9 hK9=>?_)
              have HCW:=Lib.hid (HP5.out.new_ hb3)
              refine step_append_src _ (by rfl) _ _ _ (by rfl) 62 i1 _ 7 112 Tryz.underlying42 hi1 hy0 hy1 hy2 rfl (by omega) (.slice AC vcs.length cC) vcs.length (vcs.flatMap VCo.cells) (by rfl) HCW.out.cs.co (some ⟨gz,0,none⟩) 1 1 condC0.cells (by rfl) (by rfl) (fun _=>⟨_,rfl,blk_news KZ.out⟩) (one_c0) (by unfold maxLen;omega) (by omega) ?_
              intro v2 Y hown hgr hnil hat
              obtain ⟨A2,c2,rfl,hF,hA,hO⟩:=grown_own (E:=fun j=>∃a,AC=some a∧a.block=j) (fun a ha=>⟨a,ha,rfl⟩) hown hgr hat
              obtain ⟨gy,hgy⟩:=own_some hO (Nat.succ_pos _)
              subst hgy
              have hok:=vco_ok (v:=(⟨y.goal,nv,⟨1,⟨#[]⟩,y.attr,[]⟩,[testV ns 1 y.value],y.acc,ga,gv,1⟩:VCo)) KGA.out KGV.out
              have HPU:=Lib.hid (HP5.out.push hb3 HGX.out.1 HGX.out.2.1 HGX.out.2.2 hok hF hO hA)
              have HTH:=Lib.hid HPU.out.th
              have hm2:=HPU.out.c2
              have hf2:=HPU.out.f2
              have hz2:=HPU.out.z2
              have hne:=HPU.out.ne
              clear hown hgr hnil hat hF hA hO hok k0 k1 k2 k3 k4 k5 k6 k7 k8 k9 k10 k11 kz m2 mz
              refine hK9 _ _ ?_
              clear hK9 K9
              try go_frame
              repeat ((first | (refine wpY_w ?_ (Or.inl ⟨by rfl,fun w9=>?_⟩) ?_;rotate_left 1;go_simp;with_reducible rfl) | (refine wpY_l ?_ ((Below.refl _ _).drew) (Or.inl ⟨by rfl,fun w9 hw9=>?_⟩) ?_;rotate_left 1;obtain ⟨hc9,hf9⟩:=bcell hw9;go_simp;with_reducible rfl) | refine wpY_w undef (Or.inr ⟨by rfl,rfl⟩) ?_ | refine wpY_l undef ((Below.refl _ _).drew) (Or.inr ⟨by rfl,rfl⟩) ?_);go_frame)
              refine wpY_nil ⟨?_,?_⟩
              · refine wpOp_cs rfl (fun K9 hK9=>?_)
                refine step_store_el rfl 62 _ _ rfl gy (vcs.length*7) #[Value.int IntKind.i64 1,Value.bool y.goal,Value.string nv,Value.slice (some ⟨ga,0,none⟩) 1 1,Value.slice (some ⟨gv,0,none⟩) 1 1,Value.bool y.acc,Value.slice none 0 0] rfl rfl (show _ from HPU.out.th) (by kernel_rfl) (by kernel_rfl) ?_
                obtain ⟨Z,hZ⟩ : ∃Z,Z=Y.setCells gy (vcs.length*7) [Value.int IntKind.i64 1,Value.bool y.goal,Value.string nv,Value.slice (some ⟨ga,0,none⟩) 1 1,Value.slice (some ⟨gv,0,none⟩) 1 1,Value.bool y.acc,Value.slice none 0 0]:=⟨_,rfl⟩
                have HZ:=Lib.hid hZ
                first | rw [← hZ] | rw [show (#[Value.int IntKind.i64 1,Value.bool y.goal,Value.string nv,Value.slice (some ⟨ga,0,none⟩) 1 1,Value.slice (some ⟨gv,0,none⟩) 1 1,Value.bool y.acc,Value.slice none 0 0]:Array Value).toList = [Value.int IntKind.i64 1,Value.bool y.goal,Value.string nv,Value.slice (some ⟨ga,0,none⟩) 1 1,Value.slice (some ⟨gv,0,none⟩) 1 1,Value.bool y.acc,Value.slice none 0 0] from rfl,← hZ]
                have hm2:Z.cell? ⟨mb,2,none⟩=some (.slice AC vcs.length cC):=by rw [hZ];exact HPU.out.c2e
                have hf2:Z.frozen? ⟨mb,2,none⟩=false:=by rw [hZ];exact HPU.out.f2e
                have hz2:mb<Z.heap.size:=by rw [hZ,size_setCells];exact HPU.out.z2
                clear hZ
                refine hK9 _ _ (fun h=>absurd (h.symm.trans (by kernel_rfl:_=false)) (by decide)) ?_
                clear hK9 K9
                try go_frame
                try simp only [beside,List.filterMap_nil]
                refine wpY_e (by kernel_rfl) (fun K9 hK9=>?_)
                go_simp
                refine hK9 _ _ ?_
                clear hK9 K9
                try go_frame
                refine wpY_nil ?_
                simp only [OnlyN_normal]
                refine hKK _ _ ?_
                clear hKK KK
                obtain ⟨V,hV⟩ : ∃V,V=Z.setCell ⟨mb,2,none⟩ (.slice (some ⟨gy,0,none⟩) (vcs.length+1) c2):=⟨_,rfl⟩
                rw [← hV]
                have hV2:=HPU.out.all V (by rw [hV,HZ.out];rfl)
                obtain ⟨vn,hvn⟩ : ∃vn,vn=vcs ++ [(⟨y.goal,nv,⟨1,⟨#[]⟩,y.attr,[]⟩,[testV ns 1 y.value],y.acc,ga,gv,1⟩:VCo)]:=⟨_,rfl⟩
                rw [← hvn] at hV2
                have HVN:=Lib.hid hvn
                have HPN:=Lib.hid hV2.1
                have KX:=Lib.hid (show Blk V bx 55 #[.int .i64 y.id.kind,.string y.id.text,.int .i64 y.id.n,.int .i64 y.attr.kind,.string y.attr.text,.int .i64 y.attr.n,.int .i64 y.value.kind,.string y.value.text,.int .i64 y.value.n,.bool y.acc,.bool y.goal,.int .i64 y.tag] from hV2.2 _ _ (HK5.out.new_ hb3))
                clear hV hV2 hvn hm2 hf2 hz2 hne
                have k11:V.cell? ⟨bx,11,none⟩=some (.int .i64 y.tag):=(KX.out.cell 11).trans rfl
                have kz:=KX.out.lt
                obtain ⟨i2,hi2,hx0,hx1,hx2⟩:=infp inf_Int
                obtain ⟨W6,hW6⟩ : ∃W,W=V.alloc (.cells #[.int .i64 y.tag] 3):=⟨_,rfl⟩
                have HW6:=Lib.hid hW6
                have hb6:Below V.heap.size V W6:=by rw [hW6];exact (Below.refl _ _).alloc (Nat.le_refl _) _
                have HP6:=Lib.hid (HPN.out.new_ hb6)
                have HN6:=Lib.hid (show 0<1→∃ad,(some (⟨V.heap.size,0,none⟩:Addr))=some ad∧∀j u,([y.tag].flatMap Int.cells1)[j]? = some u→W6.cell? (ad.add j)=some u from fun _=>⟨_,rfl,by rw [hW6];exact World.news_of_block (heap_alloc_new _ _)⟩)
                clear hW6 hb6
                go_wp2_with (at_builtin;rw [← HW6.out];refine wpList_append_src W6 rfl (.tmp 99) (.tmp 102) 46 rfl 3 i2 _ 1 8 Tryz.underlying46 hi2 hx0 hx1 hx2 rfl (by omega) (.slice At tags.length ct) tags.length (tags.flatMap Int.cells1) rfl HP6.out.tg (some ⟨V.heap.size,0,none⟩) 1 1 ([y.tag].flatMap Int.cells1) rfl rfl HN6.out (one_Int _) (by unfold maxLen;omega) (by omega) ?_;intro v1 w9 hown1 hg1 hnil1 hat1;obtain ⟨A9,c9,rfl,hp9⟩:=HP6.out.tag hown1 hg1 hat1;obtain ⟨tn,htn⟩ : ∃tn,tn=tags ++ [y.tag]:=⟨_,rfl⟩;rw [← htn] at hp9 ⊢;have HTN:=Lib.hid htn;have HP9:=Lib.hid hp9;clear hown1 hg1 hnil1 hat1 hp9 htn)
                go_roundw
                case rel=>exact ⟨i+1,vn,_,_,tn,A9,c9,by go_num,by omega,rfl,by rw [HTN.out,HTG.out,take_snocV hlt,List.map_append,HY.out];rfl,by rw [HVN.out,List.map_append,HVC.out,take_snocV hlt,List.map_append,← HY.out,HNV.out];rfl,HP9.out⟩
                case measure=>simp [intOf]<;>omega
              · refine wpOp_cs rfl (fun K9 hK9=>?_)
                go_simp
                refine hK9 _ _ (fun h=>absurd (h.symm.trans (by kernel_rfl:_=false)) (by decide)) ?_
                clear hK9 K9
                try go_frame
                try simp only [beside,List.filterMap_nil]
                refine wpY_e (by kernel_rfl) (fun K9 hK9=>?_)
                refine step_store_el rfl 62 _ _ rfl gy (vcs.length*7) #[Value.int IntKind.i64 1,Value.bool y.goal,Value.string nv,Value.slice (some ⟨ga,0,none⟩) 1 1,Value.slice (some ⟨gv,0,none⟩) 1 1,Value.bool y.acc,Value.slice none 0 0] rfl rfl (show _ from HPU.out.th2) (by kernel_rfl) (by kernel_rfl) ?_
                refine hK9 _ _ ?_
                clear hK9 K9
                try go_frame
                refine wpY_nil ?_
                simp only [OnlyN_normal]
                refine hKK _ _ ?_
                clear hKK KK
                obtain ⟨V,hV⟩ : ∃V,V=(Y.setCell ⟨mb,2,none⟩ (.slice (some ⟨gy,0,none⟩) (vcs.length+1) c2)).setCells gy (vcs.length*7) [Value.int IntKind.i64 1,Value.bool y.goal,Value.string nv,Value.slice (some ⟨ga,0,none⟩) 1 1,Value.slice (some ⟨gv,0,none⟩) 1 1,Value.bool y.acc,Value.slice none 0 0]:=⟨_,rfl⟩
                first | rw [← hV] | rw [show (#[Value.int IntKind.i64 1,Value.bool y.goal,Value.string nv,Value.slice (some ⟨ga,0,none⟩) 1 1,Value.slice (some ⟨gv,0,none⟩) 1 1,Value.bool y.acc,Value.slice none 0 0]:Array Value).toList = [Value.int IntKind.i64 1,Value.bool y.goal,Value.string nv,Value.slice (some ⟨ga,0,none⟩) 1 1,Value.slice (some ⟨gv,0,none⟩) 1 1,Value.bool y.acc,Value.slice none 0 0] from rfl,← hV]
                have hV2:=HPU.out.all V (by rw [hV,set_swap HPU.out.ne];rfl)
                obtain ⟨vn,hvn⟩ : ∃vn,vn=vcs ++ [(⟨y.goal,nv,⟨1,⟨#[]⟩,y.attr,[]⟩,[testV ns 1 y.value],y.acc,ga,gv,1⟩:VCo)]:=⟨_,rfl⟩
                rw [← hvn] at hV2
                have HVN:=Lib.hid hvn
                have HPN:=Lib.hid hV2.1
                have KX:=Lib.hid (show Blk V bx 55 #[.int .i64 y.id.kind,.string y.id.text,.int .i64 y.id.n,.int .i64 y.attr.kind,.string y.attr.text,.int .i64 y.attr.n,.int .i64 y.value.kind,.string y.value.text,.int .i64 y.value.n,.bool y.acc,.bool y.goal,.int .i64 y.tag] from hV2.2 _ _ (HK5.out.new_ hb3))
                clear hV hV2 hvn hm2 hf2 hz2 hne
                have k11:V.cell? ⟨bx,11,none⟩=some (.int .i64 y.tag):=(KX.out.cell 11).trans rfl
                have kz:=KX.out.lt
                obtain ⟨i2,hi2,hx0,hx1,hx2⟩:=infp inf_Int
                obtain ⟨W6,hW6⟩ : ∃W,W=V.alloc (.cells #[.int .i64 y.tag] 3):=⟨_,rfl⟩
                have HW6:=Lib.hid hW6
                have hb6:Below V.heap.size V W6:=by rw [hW6];exact (Below.refl _ _).alloc (Nat.le_refl _) _
                have HP6:=Lib.hid (HPN.out.new_ hb6)
                have HN6:=Lib.hid (show 0<1→∃ad,(some (⟨V.heap.size,0,none⟩:Addr))=some ad∧∀j u,([y.tag].flatMap Int.cells1)[j]? = some u→W6.cell? (ad.add j)=some u from fun _=>⟨_,rfl,by rw [hW6];exact World.news_of_block (heap_alloc_new _ _)⟩)
                clear hW6 hb6
                go_wp2_with (at_builtin;rw [← HW6.out];refine wpList_append_src W6 rfl (.tmp 99) (.tmp 102) 46 rfl 3 i2 _ 1 8 Tryz.underlying46 hi2 hx0 hx1 hx2 rfl (by omega) (.slice At tags.length ct) tags.length (tags.flatMap Int.cells1) rfl HP6.out.tg (some ⟨V.heap.size,0,none⟩) 1 1 ([y.tag].flatMap Int.cells1) rfl rfl HN6.out (one_Int _) (by unfold maxLen;omega) (by omega) ?_;intro v1 w9 hown1 hg1 hnil1 hat1;obtain ⟨A9,c9,rfl,hp9⟩:=HP6.out.tag hown1 hg1 hat1;obtain ⟨tn,htn⟩ : ∃tn,tn=tags ++ [y.tag]:=⟨_,rfl⟩;rw [← htn] at hp9 ⊢;have HTN:=Lib.hid htn;have HP9:=Lib.hid hp9;clear hown1 hg1 hnil1 hat1 hp9 htn)
                go_roundw
                case rel=>exact ⟨i+1,vn,_,_,tn,A9,c9,by go_num,by omega,rfl,by rw [HTN.out,HTG.out,take_snocV hlt,List.map_append,HY.out];rfl,by rw [HVN.out,List.map_append,HVC.out,take_snocV hlt,List.map_append,← HY.out,HNV.out];rfl,HP9.out⟩
                case measure=>simp [intOf]<;>omega
          · skip
            obtain rfl:i=o.length:=by omega
            have HVCE:=Lib.hid (show vcs.map VCo.cond=o.map (posV ns) by rw [HVC.out,List.take_length])
            have HTGE:=Lib.hid (show tags=o.map Elem.tag by rw [HTG.out,List.take_length])
            have jz : ¬(o.length:Int)<(o.length:Int):=by omega
            have m2:=(HP3.out.pb.t.cell 2).trans rfl
            have mz:=HP3.out.pb.t.lt
            clear HVC HTG hi hlt
            go_upto_region 25 with fail
            clear jz m2 mz
            go_loopw [108] (fun v W=>v = .int .i64 0∧P3 X #[.slice AE tr.length cE,.slice AH 0 cH,.slice AA 0 cA,.slice AN news.length cN,.int .i64 tv,.int .i64 tl] nb mb ns o AO cO vcs AC cC tags At ct D W) (fun _ _=>0)
            case atStart=>exact ⟨rfl,HP3.out⟩
            case round=>
             clear HP3
             obtain ⟨rfl,hp3⟩:=hrel
             have HP3:=Lib.hid hp3
             clear hp3
             have m1:=(HP3.out.pb.t.cell 1).trans rfl
             have mz:=HP3.out.pb.t.lt
             go_upto_region 31 with fail
             clear m1 mz
             go_loopw [121] (fun v W=>v = .int .i64 0∧P3 X #[.slice AE tr.length cE,.slice AH 0 cH,.slice AA 0 cA,.slice AN news.length cN,.int .i64 tv,.int .i64 tl] nb mb ns o AO cO vcs AC cC tags At ct D W) (fun _ _=>0)
             case atStart=>exact ⟨rfl,HP3.out⟩
             case round=>
              clear HP3
              obtain ⟨rfl,hp3⟩:=hrel
              have HP3:=Lib.hid hp3
              clear hp3
              obtain ⟨cs,hcs⟩ : ∃cs,cs=vcs.map VCo.cond:=⟨_,rfl⟩
              have HCSE:=Lib.hid (show cs=o.map (posV ns) by rw [hcs,HVCE.out])
              have hcl:vcs.length=cs.length:=by rw [hcs,List.length_map]
              have HCL:=Lib.hid hcl
              have hcl2:cs.length≤100:=by omega
              obtain ⟨W9,hW9⟩ : ∃W,W=wr.alloc (.cells #[.string nm,.slice AC vcs.length cC,.slice none 0 0] 45):=⟨_,rfl⟩
              obtain ⟨pg,hpg⟩ : ∃g,g=wr.heap.size:=⟨_,rfl⟩
              have hb9:Below wr.heap.size wr W9:=by rw [hW9];exact (Below.refl _ _).alloc (Nat.le_refl _) _
              have HP6:=Lib.hid (show P6 X #[.slice AE tr.length cE,.slice AH 0 cH,.slice AA 0 cA,.slice AN news.length cN,.int .i64 tv,.int .i64 tl] nb mb pg m nm cs AC cC tags At ct (fun k=>(X.heap.size≤k∧¬D k)∧∃t cur,Blk wr k t cur∧(t=62∨t=142)) ns [] none 0 D W9 by
               have hr:=HP3.out.cs.row m
               have h9:=HP3.out.new_ hb9
               rw [← hcs] at hr
               have hz:=HP3.out.pb.r.lt
               have hmz:=HP3.out.cs.mkb.lt
               refine ⟨h9.cs.nm,h9.dn2,h9.cs.mk_,h9.cs.mge,h9.cs.mnd,by omega,AIn.none_ _,h9.pb,?_,by omega,fun hd=>by have:=HP3.out.cs.nm.lt _ hd;omega,hr.new_ hb9,fun k hk=>(by
                obtain ⟨hk1,t,cur,hbk,ht⟩:=hk
                have hkl:=hbk.lt
                refine ⟨hk1.1,hk1.2,by have:=hb9.size;omega,by omega,fun e=>?_⟩
                subst e
                exact hbk.ne_ HP3.out.pb.r (by rcases ht with rfl | rfl<;>decide) rfl),⟨by simp,.inl ⟨rfl,rfl⟩⟩,AIn.none_ _,h9.tg,h9.ta⟩
               rw [hW9,hpg,hcl];exact Blk.new _ _ _)
              clear hcl hcs
              have m2:=(HP3.out.cs.mkb.cell 2).trans rfl
              have mz:=HP3.out.cs.mkb.lt
              go_upto_region 38 with fail
              rw [← hW9,← hpg]
              obtain ⟨C,hC⟩ : ∃C:Nat→Prop,C=(fun k=>(X.heap.size≤k∧¬D k)∧∃t cur,Blk wr k t cur∧(t=62∨t=142)):=⟨_,rfl⟩
              rw [← hC] at HP6
              have HX9:=Lib.hid (show X.heap.size≤W9.heap.size from HP6.out.pb.bel.size)
              clear hW9 hpg hb9 m2 mz HP3 hC HCL
              go_loopw [139] (fun vi W=>∃(k:Nat) (nsk:List Sym) (acts:List ActT) (Aa:Option Addr) (ca:Nat) (Dk:Nat→Prop),vi = .int .i64 (k:Int)∧k≤prefs.length∧nsk.length≤200+3*k∧acts.length≤k∧P6 X #[.slice AE tr.length cE,.slice AH 0 cH,.slice AA 0 cA,.slice AN news.length cN,.int .i64 tv,.int .i64 tl] nb mb pg m nm cs AC cC tags At ct C nsk acts Aa ca Dk W∧actsV3 old prefs ns []=actsV3 old (prefs.drop k) nsk acts) (fun vi W=>prefs.length - (intOf vi).toNat)
              case atStart=>exact ⟨0,ns,[],none,0,D,rfl,Nat.zero_le _,by omega,Nat.le_refl _,HP6.out,rfl⟩
              case round=>
               clear HP6
               obtain ⟨k,nsk,acts,Aa,ca,Dk,rfl,hk,hnk,hak,hp6,hav⟩:=hrel
               have HP6:=Lib.hid hp6
               have HAV:=Lib.hid hav
               clear hp6 hav
               by_cases hlt:k<prefs.length
               · skip
                 obtain ⟨y,hY⟩ : ∃y,y=prefs[k]:=⟨_,rfl⟩
                 have HY:=Lib.hid hY
                 obtain ⟨g,off,hAA,hgl,hrg⟩:=(H3.out.new_ HP6.out.pb.bel).range hlt
                 rw [← hY] at hrg
                 subst hAA
                 have HRG:=Lib.hid (show wr.rangeAt g (off+k*16) [.int .i64 y.id.kind,.string y.id.text,.int .i64 y.id.n,.int .i64 y.attr.kind,.string y.attr.text,.int .i64 y.attr.n,.int .i64 y.value.kind,.string y.value.text,.int .i64 y.value.n,.int .i64 y.other.kind,.string y.other.text,.int .i64 y.other.n,.int .i64 y.kind,.bool y.o,.int .i64 y.level,.int .i64 y.by_] from hrg)
                 have HTH:=Lib.hid (show (wr.alloc (.cells #[.int .i64 0,.string ⟨#[]⟩,.int .i64 0,.int .i64 0,.string ⟨#[]⟩,.int .i64 0,.int .i64 0,.string ⟨#[]⟩,.int .i64 0,.int .i64 0,.string ⟨#[]⟩,.int .i64 0,.int .i64 0,.bool false,.int .i64 0,.int .i64 0] 68)).there wr.heap.size 0 (#[.int .i64 y.id.kind,.string y.id.text,.int .i64 y.id.n,.int .i64 y.attr.kind,.string y.attr.text,.int .i64 y.attr.n,.int .i64 y.value.kind,.string y.value.text,.int .i64 y.value.n,.int .i64 y.other.kind,.string y.other.text,.int .i64 y.other.n,.int .i64 y.kind,.bool y.o,.int .i64 y.level,.int .i64 y.by_]:Array Value).size from (Blk.new wr 68 #[.int .i64 0,.string ⟨#[]⟩,.int .i64 0,.int .i64 0,.string ⟨#[]⟩,.int .i64 0,.int .i64 0,.string ⟨#[]⟩,.int .i64 0,.int .i64 0,.string ⟨#[]⟩,.int .i64 0,.int .i64 0,.bool false,.int .i64 0,.int .i64 0]).there)
                 obtain ⟨W5,hW5⟩ : ∃W5,W5=(wr.alloc (.cells #[.int .i64 0,.string ⟨#[]⟩,.int .i64 0,.int .i64 0,.string ⟨#[]⟩,.int .i64 0,.int .i64 0,.string ⟨#[]⟩,.int .i64 0,.int .i64 0,.string ⟨#[]⟩,.int .i64 0,.int .i64 0,.bool false,.int .i64 0,.int .i64 0] 68)).setCells wr.heap.size 0 [.int .i64 y.id.kind,.string y.id.text,.int .i64 y.id.n,.int .i64 y.attr.kind,.string y.attr.text,.int .i64 y.attr.n,.int .i64 y.value.kind,.string y.value.text,.int .i64 y.value.n,.int .i64 y.other.kind,.string y.other.text,.int .i64 y.other.n,.int .i64 y.kind,.bool y.o,.int .i64 y.level,.int .i64 y.by_]:=⟨_,rfl⟩
                 have HW5:=Lib.hid hW5
                 have HRG5:=Lib.hid (show W5.rangeAt wr.heap.size 0 [.int .i64 y.id.kind,.string y.id.text,.int .i64 y.id.n,.int .i64 y.attr.kind,.string y.attr.text,.int .i64 y.attr.n,.int .i64 y.value.kind,.string y.value.text,.int .i64 y.value.n,.int .i64 y.other.kind,.string y.other.text,.int .i64 y.other.n,.int .i64 y.kind,.bool y.o,.int .i64 y.level,.int .i64 y.by_] by rw [hW5];exact World.rangeAt_setCells_same _ _ _ _ HTH.out)
                 have HK5:=Lib.hid (show Blk W5 wr.heap.size 68 #[.int .i64 y.id.kind,.string y.id.text,.int .i64 y.id.n,.int .i64 y.attr.kind,.string y.attr.text,.int .i64 y.attr.n,.int .i64 y.value.kind,.string y.value.text,.int .i64 y.value.n,.int .i64 y.other.kind,.string y.other.text,.int .i64 y.other.n,.int .i64 y.kind,.bool y.o,.int .i64 y.level,.int .i64 y.by_] from kept_blk (zs:=[.int .i64 0,.string ⟨#[]⟩,.int .i64 0,.int .i64 0,.string ⟨#[]⟩,.int .i64 0,.int .i64 0,.string ⟨#[]⟩,.int .i64 0,.int .i64 0,.string ⟨#[]⟩,.int .i64 0,.int .i64 0,.bool false,.int .i64 0,.int .i64 0]) (vs:=[.int .i64 y.id.kind,.string y.id.text,.int .i64 y.id.n,.int .i64 y.attr.kind,.string y.attr.text,.int .i64 y.attr.n,.int .i64 y.value.kind,.string y.value.text,.int .i64 y.value.n,.int .i64 y.other.kind,.string y.other.text,.int .i64 y.other.n,.int .i64 y.kind,.bool y.o,.int .i64 y.level,.int .i64 y.by_]) rfl hW5 HRG5.out)
                 have HB5:=Lib.hid (show Below wr.heap.size wr W5 by rw [hW5];exact Below.setCells' _ _ ((Below.refl _ _).alloc (Nat.le_refl _) _) (Nat.le_refl _))
                 have j1:(0:Int)≤(k:Int):=by omega
                 have j2:(k:Int)<(prefs.length:Int):=by omega
                 clear hW5 hrg hY
                 have HDR:=Lib.hid (show prefs.drop k=y :: prefs.drop (k+1) by rw [HY.out];exact List.drop_eq_getElem_cons hlt)
                 have HP5:=Lib.hid (HP6.out.new_ HB5.out)
                 have HACT:=Lib.hid (mact_is HO.out y W5 HP5.out.pb.bel HP5.out.nm HP5.out.mkk HP5.out.mnd (fun k hk=>by have:=HP5.out.dn k hk;omega) (by omega))
                 obtain ⟨bp,hbp⟩ : ∃b,b=wr.heap.size:=⟨_,rfl⟩
                 go_upto_region 40 with (first
                 | (with_reducible refine wpList_load_mid rfl 68 _ rfl g (off+k*16) rfl [.int .i64 y.id.kind,.string y.id.text,.int .i64 y.id.n,.int .i64 y.attr.kind,.string y.attr.text,.int .i64 y.attr.n,.int .i64 y.value.kind,.string y.value.text,.int .i64 y.value.n,.int .i64 y.other.kind,.string y.other.text,.int .i64 y.other.n,.int .i64 y.kind,.bool y.o,.int .i64 y.level,.int .i64 y.by_] _ HRG.out Tryz.underlying68 rfl (by kernel_rfl) ?_)
                 | ((with_reducible refine wpList_store_mid rfl 68 _ _ rfl wr.heap.size 0 #[.int .i64 y.id.kind,.string y.id.text,.int .i64 y.id.n,.int .i64 y.attr.kind,.string y.attr.text,.int .i64 y.attr.n,.int .i64 y.value.kind,.string y.value.text,.int .i64 y.value.n,.int .i64 y.other.kind,.string y.other.text,.int .i64 y.other.n,.int .i64 y.kind,.bool y.o,.int .i64 y.level,.int .i64 y.by_] rfl rfl HTH.out (by kernel_rfl) (by kernel_rfl) ?_);rw [← HW5.out]))
                 rw [← hbp] at HK5 HRG5 ⊢
                 have HRX:=Lib.hid (show W5.rangeAt bp 0 [.int .i64 y.id.kind,.string y.id.text,.int .i64 y.id.n,.int .i64 y.attr.kind,.string y.attr.text,.int .i64 y.attr.n,.int .i64 y.value.kind,.string y.value.text,.int .i64 y.value.n,.int .i64 y.other.kind,.string y.other.text,.int .i64 y.other.n,.int .i64 y.kind,.bool y.o,.int .i64 y.level,.int .i64 y.by_] from HRG5.out)
                 clear HW5 HRG HTH HRG5 hbp
                 cases hA:actV3 old nsk y with
                 | none=>
                   have HNO:=Lib.hid (show actsV3 old prefs ns []=none by rw [HAV.out,HDR.out,actsV3,hA])
                   replace HACT:=Lib.hid (show Calls Tryz.prog 66 #[.pointer (some ⟨mb,0,none⟩),.agg #[.int .i64 y.id.kind,.string y.id.text,.int .i64 y.id.n,.int .i64 y.attr.kind,.string y.attr.text,.int .i64 y.attr.n,.int .i64 y.value.kind,.string y.value.text,.int .i64 y.value.n,.int .i64 y.other.kind,.string y.other.text,.int .i64 y.other.n,.int .i64 y.kind,.bool y.o,.int .i64 y.level,.int .i64 y.by_],.func (.func gf) #[] lb] W5 fun e w'=>(∃a:ActT,e = .returned (.tuple #[.agg #[.string a.id,.string a.attr.var,.int .i64 a.attr.sym.kind,.string a.attr.sym.text,.int .i64 a.attr.sym.n,.int .i64 a.value.op,.string a.value.a.var,.int .i64 a.value.a.sym.kind,.string a.value.a.sym.text,.int .i64 a.value.a.sym.n,.string a.value.b.var,.int .i64 a.value.b.sym.kind,.string a.value.b.sym.text,.int .i64 a.value.b.sym.n,.int .i64 a.pref,.string a.other.var,.int .i64 a.other.sym.kind,.string a.other.sym.text,.int .i64 a.other.sym.n],.bool false]))∧∃n,PutTo Dk W5 nb n w' from by
                    have h:=HACT.out
                    unfold ActTo at h
                    rw [hA] at h
                    exact h)
                   go_wp2_with (with_reducible refine wpList_load_mid rfl 68 _ rfl bp 0 rfl [.int .i64 y.id.kind,.string y.id.text,.int .i64 y.id.n,.int .i64 y.attr.kind,.string y.attr.text,.int .i64 y.attr.n,.int .i64 y.value.kind,.string y.value.text,.int .i64 y.value.n,.int .i64 y.other.kind,.string y.other.text,.int .i64 y.other.n,.int .i64 y.kind,.bool y.o,.int .i64 y.level,.int .i64 y.by_] _ HRX.out Tryz.underlying68 rfl (by kernel_rfl) ?_)
                   refine HACT.out.mono ?_
                   rintro e w6 ⟨⟨a,rfl⟩,n6,hp6⟩
                   obtain ⟨D6,hp6,_,_⟩:=HP5.out.put hp6
                   have HP6:=Lib.hid hp6
                   clear hp6
                   have HTA:=Lib.hid (show (w6.alloc (.cells #[.string ⟨#[]⟩,.string ⟨#[]⟩,.int .i64 0,.string ⟨#[]⟩,.int .i64 0,.int .i64 0,.string ⟨#[]⟩,.int .i64 0,.string ⟨#[]⟩,.int .i64 0,.string ⟨#[]⟩,.int .i64 0,.string ⟨#[]⟩,.int .i64 0,.int .i64 0,.string ⟨#[]⟩,.int .i64 0,.string ⟨#[]⟩,.int .i64 0] 80)).there w6.heap.size 0 (#[.string a.id,.string a.attr.var,.int .i64 a.attr.sym.kind,.string a.attr.sym.text,.int .i64 a.attr.sym.n,.int .i64 a.value.op,.string a.value.a.var,.int .i64 a.value.a.sym.kind,.string a.value.a.sym.text,.int .i64 a.value.a.sym.n,.string a.value.b.var,.int .i64 a.value.b.sym.kind,.string a.value.b.sym.text,.int .i64 a.value.b.sym.n,.int .i64 a.pref,.string a.other.var,.int .i64 a.other.sym.kind,.string a.other.sym.text,.int .i64 a.other.sym.n]:Array Value).size from (Blk.new w6 80 #[.string ⟨#[]⟩,.string ⟨#[]⟩,.int .i64 0,.string ⟨#[]⟩,.int .i64 0,.int .i64 0,.string ⟨#[]⟩,.int .i64 0,.string ⟨#[]⟩,.int .i64 0,.string ⟨#[]⟩,.int .i64 0,.string ⟨#[]⟩,.int .i64 0,.int .i64 0,.string ⟨#[]⟩,.int .i64 0,.string ⟨#[]⟩,.int .i64 0]).there)
                   obtain ⟨W7,hW7⟩ : ∃W,W=(w6.alloc (.cells #[.string ⟨#[]⟩,.string ⟨#[]⟩,.int .i64 0,.string ⟨#[]⟩,.int .i64 0,.int .i64 0,.string ⟨#[]⟩,.int .i64 0,.string ⟨#[]⟩,.int .i64 0,.string ⟨#[]⟩,.int .i64 0,.string ⟨#[]⟩,.int .i64 0,.int .i64 0,.string ⟨#[]⟩,.int .i64 0,.string ⟨#[]⟩,.int .i64 0] 80)).setCells w6.heap.size 0 [.string a.id,.string a.attr.var,.int .i64 a.attr.sym.kind,.string a.attr.sym.text,.int .i64 a.attr.sym.n,.int .i64 a.value.op,.string a.value.a.var,.int .i64 a.value.a.sym.kind,.string a.value.a.sym.text,.int .i64 a.value.a.sym.n,.string a.value.b.var,.int .i64 a.value.b.sym.kind,.string a.value.b.sym.text,.int .i64 a.value.b.sym.n,.int .i64 a.pref,.string a.other.var,.int .i64 a.other.sym.kind,.string a.other.sym.text,.int .i64 a.other.sym.n]:=⟨_,rfl⟩
                   have HW7:=Lib.hid hW7
                   have HK7:=Lib.hid (show Blk W7 w6.heap.size 80 #[.string a.id,.string a.attr.var,.int .i64 a.attr.sym.kind,.string a.attr.sym.text,.int .i64 a.attr.sym.n,.int .i64 a.value.op,.string a.value.a.var,.int .i64 a.value.a.sym.kind,.string a.value.a.sym.text,.int .i64 a.value.a.sym.n,.string a.value.b.var,.int .i64 a.value.b.sym.kind,.string a.value.b.sym.text,.int .i64 a.value.b.sym.n,.int .i64 a.pref,.string a.other.var,.int .i64 a.other.sym.kind,.string a.other.sym.text,.int .i64 a.other.sym.n] from kept_blk (zs:=[.string ⟨#[]⟩,.string ⟨#[]⟩,.int .i64 0,.string ⟨#[]⟩,.int .i64 0,.int .i64 0,.string ⟨#[]⟩,.int .i64 0,.string ⟨#[]⟩,.int .i64 0,.string ⟨#[]⟩,.int .i64 0,.string ⟨#[]⟩,.int .i64 0,.int .i64 0,.string ⟨#[]⟩,.int .i64 0,.string ⟨#[]⟩,.int .i64 0]) (vs:=[.string a.id,.string a.attr.var,.int .i64 a.attr.sym.kind,.string a.attr.sym.text,.int .i64 a.attr.sym.n,.int .i64 a.value.op,.string a.value.a.var,.int .i64 a.value.a.sym.kind,.string a.value.a.sym.text,.int .i64 a.value.a.sym.n,.string a.value.b.var,.int .i64 a.value.b.sym.kind,.string a.value.b.sym.text,.int .i64 a.value.b.sym.n,.int .i64 a.pref,.string a.other.var,.int .i64 a.other.sym.kind,.string a.other.sym.text,.int .i64 a.other.sym.n]) rfl hW7 (by rw [hW7];exact World.rangeAt_setCells_same _ _ _ _ HTA.out))
                   have HB7:=Lib.hid (show Below w6.heap.size w6 W7 by rw [hW7];exact Below.setCells' _ _ ((Below.refl _ _).alloc (Nat.le_refl _) _) (Nat.le_refl _))
                   clear hW7
                   go_upto_region 41 with ((with_reducible refine wpList_store_mid rfl 80 _ _ rfl w6.heap.size 0 #[.string a.id,.string a.attr.var,.int .i64 a.attr.sym.kind,.string a.attr.sym.text,.int .i64 a.attr.sym.n,.int .i64 a.value.op,.string a.value.a.var,.int .i64 a.value.a.sym.kind,.string a.value.a.sym.text,.int .i64 a.value.a.sym.n,.string a.value.b.var,.int .i64 a.value.b.sym.kind,.string a.value.b.sym.text,.int .i64 a.value.b.sym.n,.int .i64 a.pref,.string a.other.var,.int .i64 a.other.sym.kind,.string a.other.sym.text,.int .i64 a.other.sym.n] rfl rfl HTA.out (by kernel_rfl) (by kernel_rfl) ?_);rw [← HW7.out])
                   have HPB:=Lib.hid (HP6.out.new_ HB7.out).pb
                   have HPV:=Lib.hid (show prodV (m+1) nm l old news prefs=none by rw [HPVX.out];unfold prodW;rw [HNO.out])
                   have HT:=Lib.hid (show W7.there (X.heap.size+1) 0 (#[Value.string ⟨#[]⟩,Value.slice none 0 0,Value.slice none 0 0]:Array Value).size from HPB.out.r.there)
                   have HBB:=Lib.hid HPB.out.bel
                   go_wp2_with (with_reducible refine wpList_store_mid rfl 45 _ _ rfl (X.heap.size+1) 0 #[Value.string ⟨#[]⟩,Value.slice none 0 0,Value.slice none 0 0] rfl rfl HT.out (by kernel_rfl) (by kernel_rfl) ?_)
                   try simp only [Exit.inBlock,Exit.then]
                   refine bodyPost_ret (v:=.tuple #[.agg #[.string ⟨#[]⟩,.slice none 0 0,.slice none 0 0],.slice none 0 0,.bool false]) ?_ rfl (ProdTo.no HPV.out (Below.setCells' _ _ HBB.out (by omega)))
                   exact results_cell_tmp2 (t:=8) (s:=9) (s2:=10) (T:=45) rfl _ _ (X.heap.size+1) [Value.string ⟨#[]⟩,Value.slice none 0 0,Value.slice none 0 0] _ rfl (World.rangeAt_setCells_same W7 (X.heap.size+1) 0 [Value.string ⟨#[]⟩,Value.slice none 0 0,Value.slice none 0 0] HT.out) Tryz.underlying45 rfl (by kernel_rfl)
                 | some z=>
                   obtain ⟨a,n2⟩:=z
                   have hn2:=actV3_len hA
                   have HAV2:=Lib.hid (show actsV3 old prefs ns []=actsV3 old (prefs.drop (k+1)) n2 (addA acts a) by rw [HAV.out,HDR.out,actsV3,hA])
                   replace HACT:=Lib.hid (show Calls Tryz.prog 66 #[.pointer (some ⟨mb,0,none⟩),.agg #[.int .i64 y.id.kind,.string y.id.text,.int .i64 y.id.n,.int .i64 y.attr.kind,.string y.attr.text,.int .i64 y.attr.n,.int .i64 y.value.kind,.string y.value.text,.int .i64 y.value.n,.int .i64 y.other.kind,.string y.other.text,.int .i64 y.other.n,.int .i64 y.kind,.bool y.o,.int .i64 y.level,.int .i64 y.by_],.func (.func gf) #[] lb] W5 fun e w'=>e = .returned (.tuple #[.agg #[.string a.id,.string a.attr.var,.int .i64 a.attr.sym.kind,.string a.attr.sym.text,.int .i64 a.attr.sym.n,.int .i64 a.value.op,.string a.value.a.var,.int .i64 a.value.a.sym.kind,.string a.value.a.sym.text,.int .i64 a.value.a.sym.n,.string a.value.b.var,.int .i64 a.value.b.sym.kind,.string a.value.b.sym.text,.int .i64 a.value.b.sym.n,.int .i64 a.pref,.string a.other.var,.int .i64 a.other.sym.kind,.string a.other.sym.text,.int .i64 a.other.sym.n],.bool true])∧PutTo Dk W5 nb n2 w' from by
                    have h:=HACT.out
                    unfold ActTo at h
                    rw [hA] at h
                    exact h)
                   clear hA
                   go_wp2_with (with_reducible refine wpList_load_mid rfl 68 _ rfl bp 0 rfl [.int .i64 y.id.kind,.string y.id.text,.int .i64 y.id.n,.int .i64 y.attr.kind,.string y.attr.text,.int .i64 y.attr.n,.int .i64 y.value.kind,.string y.value.text,.int .i64 y.value.n,.int .i64 y.other.kind,.string y.other.text,.int .i64 y.other.n,.int .i64 y.kind,.bool y.o,.int .i64 y.level,.int .i64 y.by_] _ HRX.out Tryz.underlying68 rfl (by kernel_rfl) ?_)
                   refine HACT.out.mono ?_
                   rintro e w6 ⟨rfl,hp6⟩
                   obtain ⟨D6,hp6,_,_⟩:=HP5.out.put hp6
                   have HP6:=Lib.hid hp6
                   clear hp6
                   have HTA:=Lib.hid (show (w6.alloc (.cells #[.string ⟨#[]⟩,.string ⟨#[]⟩,.int .i64 0,.string ⟨#[]⟩,.int .i64 0,.int .i64 0,.string ⟨#[]⟩,.int .i64 0,.string ⟨#[]⟩,.int .i64 0,.string ⟨#[]⟩,.int .i64 0,.string ⟨#[]⟩,.int .i64 0,.int .i64 0,.string ⟨#[]⟩,.int .i64 0,.string ⟨#[]⟩,.int .i64 0] 80)).there w6.heap.size 0 (#[.string a.id,.string a.attr.var,.int .i64 a.attr.sym.kind,.string a.attr.sym.text,.int .i64 a.attr.sym.n,.int .i64 a.value.op,.string a.value.a.var,.int .i64 a.value.a.sym.kind,.string a.value.a.sym.text,.int .i64 a.value.a.sym.n,.string a.value.b.var,.int .i64 a.value.b.sym.kind,.string a.value.b.sym.text,.int .i64 a.value.b.sym.n,.int .i64 a.pref,.string a.other.var,.int .i64 a.other.sym.kind,.string a.other.sym.text,.int .i64 a.other.sym.n]:Array Value).size from (Blk.new w6 80 #[.string ⟨#[]⟩,.string ⟨#[]⟩,.int .i64 0,.string ⟨#[]⟩,.int .i64 0,.int .i64 0,.string ⟨#[]⟩,.int .i64 0,.string ⟨#[]⟩,.int .i64 0,.string ⟨#[]⟩,.int .i64 0,.string ⟨#[]⟩,.int .i64 0,.int .i64 0,.string ⟨#[]⟩,.int .i64 0,.string ⟨#[]⟩,.int .i64 0]).there)
                   obtain ⟨W7,hW7⟩ : ∃W,W=(w6.alloc (.cells #[.string ⟨#[]⟩,.string ⟨#[]⟩,.int .i64 0,.string ⟨#[]⟩,.int .i64 0,.int .i64 0,.string ⟨#[]⟩,.int .i64 0,.string ⟨#[]⟩,.int .i64 0,.string ⟨#[]⟩,.int .i64 0,.string ⟨#[]⟩,.int .i64 0,.int .i64 0,.string ⟨#[]⟩,.int .i64 0,.string ⟨#[]⟩,.int .i64 0] 80)).setCells w6.heap.size 0 [.string a.id,.string a.attr.var,.int .i64 a.attr.sym.kind,.string a.attr.sym.text,.int .i64 a.attr.sym.n,.int .i64 a.value.op,.string a.value.a.var,.int .i64 a.value.a.sym.kind,.string a.value.a.sym.text,.int .i64 a.value.a.sym.n,.string a.value.b.var,.int .i64 a.value.b.sym.kind,.string a.value.b.sym.text,.int .i64 a.value.b.sym.n,.int .i64 a.pref,.string a.other.var,.int .i64 a.other.sym.kind,.string a.other.sym.text,.int .i64 a.other.sym.n]:=⟨_,rfl⟩
                   have HW7:=Lib.hid hW7
                   have HK7:=Lib.hid (show Blk W7 w6.heap.size 80 #[.string a.id,.string a.attr.var,.int .i64 a.attr.sym.kind,.string a.attr.sym.text,.int .i64 a.attr.sym.n,.int .i64 a.value.op,.string a.value.a.var,.int .i64 a.value.a.sym.kind,.string a.value.a.sym.text,.int .i64 a.value.a.sym.n,.string a.value.b.var,.int .i64 a.value.b.sym.kind,.string a.value.b.sym.text,.int .i64 a.value.b.sym.n,.int .i64 a.pref,.string a.other.var,.int .i64 a.other.sym.kind,.string a.other.sym.text,.int .i64 a.other.sym.n] from kept_blk (zs:=[.string ⟨#[]⟩,.string ⟨#[]⟩,.int .i64 0,.string ⟨#[]⟩,.int .i64 0,.int .i64 0,.string ⟨#[]⟩,.int .i64 0,.string ⟨#[]⟩,.int .i64 0,.string ⟨#[]⟩,.int .i64 0,.string ⟨#[]⟩,.int .i64 0,.int .i64 0,.string ⟨#[]⟩,.int .i64 0,.string ⟨#[]⟩,.int .i64 0]) (vs:=[.string a.id,.string a.attr.var,.int .i64 a.attr.sym.kind,.string a.attr.sym.text,.int .i64 a.attr.sym.n,.int .i64 a.value.op,.string a.value.a.var,.int .i64 a.value.a.sym.kind,.string a.value.a.sym.text,.int .i64 a.value.a.sym.n,.string a.value.b.var,.int .i64 a.value.b.sym.kind,.string a.value.b.sym.text,.int .i64 a.value.b.sym.n,.int .i64 a.pref,.string a.other.var,.int .i64 a.other.sym.kind,.string a.other.sym.text,.int .i64 a.other.sym.n]) rfl hW7 (by rw [hW7];exact World.rangeAt_setCells_same _ _ _ _ HTA.out))
                   have HB7:=Lib.hid (show Below w6.heap.size w6 W7 by rw [hW7];exact Below.setCells' _ _ ((Below.refl _ _).alloc (Nat.le_refl _) _) (Nat.le_refl _))
                   clear hW7
                   go_upto_region 41 with ((with_reducible refine wpList_store_mid rfl 80 _ _ rfl w6.heap.size 0 #[.string a.id,.string a.attr.var,.int .i64 a.attr.sym.kind,.string a.attr.sym.text,.int .i64 a.attr.sym.n,.int .i64 a.value.op,.string a.value.a.var,.int .i64 a.value.a.sym.kind,.string a.value.a.sym.text,.int .i64 a.value.a.sym.n,.string a.value.b.var,.int .i64 a.value.b.sym.kind,.string a.value.b.sym.text,.int .i64 a.value.b.sym.n,.int .i64 a.pref,.string a.other.var,.int .i64 a.other.sym.kind,.string a.other.sym.text,.int .i64 a.other.sym.n] rfl rfl HTA.out (by kernel_rfl) (by kernel_rfl) ?_);rw [← HW7.out])
                   have HP7:=Lib.hid (HP6.out.new_ HB7.out)
                   obtain ⟨ba,hba⟩ : ∃b,b=w6.heap.size:=⟨_,rfl⟩
                   rw [← hba] at HK7 ⊢
                   have p2:=(HP7.out.pgb.cell 2).trans rfl
                   have pz:=HP7.out.pgb.lt
                   have HAK:=Lib.hid hak
                   clear HW7 HTA hba
                   go_upto_region 45 with fail
                   clear p2 pz
                   go_loopw [31,156] (fun vt vj W=>∃j:Nat,vj = .int .i64 (j:Int)∧j≤acts.length∧vt = .bool (decide (a∈acts.take j))∧Below W7.heap.size W7 W) (fun vt vj W=>acts.length - (intOf vj).toNat)
                   case atStart=>exact ⟨0,rfl,Nat.zero_le _,by simp,Below.refl _ _⟩
                   case round=>
                    obtain ⟨j,rfl,hj,rfl,hbj⟩:=hrel
                    have HBJ:=Lib.hid hbj
                    have HPJ:=Lib.hid (HP7.out.new_ hbj)
                    have HKJ:=Lib.hid (HK7.out.new_ hbj)
                    clear hbj
                    by_cases hlt2:j<acts.length
                    · skip
                      obtain ⟨th,hth⟩ : ∃th,th=decide (a∈acts.take j):=⟨_,rfl⟩
                      have HTHJ:=Lib.hid hth
                      rw [← hth]
                      clear hth
                      obtain ⟨x,hY⟩ : ∃y,y=acts[j]:=⟨_,rfl⟩
                      have HXJ:=Lib.hid hY
                      obtain ⟨g,off,hAA,hgl,hrg⟩:=(ownsRow_rd ActT.cells_length HPJ.out.ac).range hlt2
                      rw [← hY] at hrg
                      subst hAA
                      have HRG:=Lib.hid (show wr.rangeAt g (off+j*19) [.string x.id,.string x.attr.var,.int .i64 x.attr.sym.kind,.string x.attr.sym.text,.int .i64 x.attr.sym.n,.int .i64 x.value.op,.string x.value.a.var,.int .i64 x.value.a.sym.kind,.string x.value.a.sym.text,.int .i64 x.value.a.sym.n,.string x.value.b.var,.int .i64 x.value.b.sym.kind,.string x.value.b.sym.text,.int .i64 x.value.b.sym.n,.int .i64 x.pref,.string x.other.var,.int .i64 x.other.sym.kind,.string x.other.sym.text,.int .i64 x.other.sym.n] from hrg)
                      have HTX:=Lib.hid (show (wr.alloc (.cells #[.string ⟨#[]⟩,.string ⟨#[]⟩,.int .i64 0,.string ⟨#[]⟩,.int .i64 0,.int .i64 0,.string ⟨#[]⟩,.int .i64 0,.string ⟨#[]⟩,.int .i64 0,.string ⟨#[]⟩,.int .i64 0,.string ⟨#[]⟩,.int .i64 0,.int .i64 0,.string ⟨#[]⟩,.int .i64 0,.string ⟨#[]⟩,.int .i64 0] 80)).there wr.heap.size 0 (#[.string x.id,.string x.attr.var,.int .i64 x.attr.sym.kind,.string x.attr.sym.text,.int .i64 x.attr.sym.n,.int .i64 x.value.op,.string x.value.a.var,.int .i64 x.value.a.sym.kind,.string x.value.a.sym.text,.int .i64 x.value.a.sym.n,.string x.value.b.var,.int .i64 x.value.b.sym.kind,.string x.value.b.sym.text,.int .i64 x.value.b.sym.n,.int .i64 x.pref,.string x.other.var,.int .i64 x.other.sym.kind,.string x.other.sym.text,.int .i64 x.other.sym.n]:Array Value).size from (Blk.new wr 80 #[.string ⟨#[]⟩,.string ⟨#[]⟩,.int .i64 0,.string ⟨#[]⟩,.int .i64 0,.int .i64 0,.string ⟨#[]⟩,.int .i64 0,.string ⟨#[]⟩,.int .i64 0,.string ⟨#[]⟩,.int .i64 0,.string ⟨#[]⟩,.int .i64 0,.int .i64 0,.string ⟨#[]⟩,.int .i64 0,.string ⟨#[]⟩,.int .i64 0]).there)
                      obtain ⟨W8,hW8⟩ : ∃W8,W8=(wr.alloc (.cells #[.string ⟨#[]⟩,.string ⟨#[]⟩,.int .i64 0,.string ⟨#[]⟩,.int .i64 0,.int .i64 0,.string ⟨#[]⟩,.int .i64 0,.string ⟨#[]⟩,.int .i64 0,.string ⟨#[]⟩,.int .i64 0,.string ⟨#[]⟩,.int .i64 0,.int .i64 0,.string ⟨#[]⟩,.int .i64 0,.string ⟨#[]⟩,.int .i64 0] 80)).setCells wr.heap.size 0 [.string x.id,.string x.attr.var,.int .i64 x.attr.sym.kind,.string x.attr.sym.text,.int .i64 x.attr.sym.n,.int .i64 x.value.op,.string x.value.a.var,.int .i64 x.value.a.sym.kind,.string x.value.a.sym.text,.int .i64 x.value.a.sym.n,.string x.value.b.var,.int .i64 x.value.b.sym.kind,.string x.value.b.sym.text,.int .i64 x.value.b.sym.n,.int .i64 x.pref,.string x.other.var,.int .i64 x.other.sym.kind,.string x.other.sym.text,.int .i64 x.other.sym.n]:=⟨_,rfl⟩
                      have HW8:=Lib.hid hW8
                      have HRG8:=Lib.hid (show W8.rangeAt wr.heap.size 0 [.string x.id,.string x.attr.var,.int .i64 x.attr.sym.kind,.string x.attr.sym.text,.int .i64 x.attr.sym.n,.int .i64 x.value.op,.string x.value.a.var,.int .i64 x.value.a.sym.kind,.string x.value.a.sym.text,.int .i64 x.value.a.sym.n,.string x.value.b.var,.int .i64 x.value.b.sym.kind,.string x.value.b.sym.text,.int .i64 x.value.b.sym.n,.int .i64 x.pref,.string x.other.var,.int .i64 x.other.sym.kind,.string x.other.sym.text,.int .i64 x.other.sym.n] by rw [hW8];exact World.rangeAt_setCells_same _ _ _ _ HTX.out)
                      have HK8:=Lib.hid (show Blk W8 wr.heap.size 80 #[.string x.id,.string x.attr.var,.int .i64 x.attr.sym.kind,.string x.attr.sym.text,.int .i64 x.attr.sym.n,.int .i64 x.value.op,.string x.value.a.var,.int .i64 x.value.a.sym.kind,.string x.value.a.sym.text,.int .i64 x.value.a.sym.n,.string x.value.b.var,.int .i64 x.value.b.sym.kind,.string x.value.b.sym.text,.int .i64 x.value.b.sym.n,.int .i64 x.pref,.string x.other.var,.int .i64 x.other.sym.kind,.string x.other.sym.text,.int .i64 x.other.sym.n] from kept_blk (zs:=[.string ⟨#[]⟩,.string ⟨#[]⟩,.int .i64 0,.string ⟨#[]⟩,.int .i64 0,.int .i64 0,.string ⟨#[]⟩,.int .i64 0,.string ⟨#[]⟩,.int .i64 0,.string ⟨#[]⟩,.int .i64 0,.string ⟨#[]⟩,.int .i64 0,.int .i64 0,.string ⟨#[]⟩,.int .i64 0,.string ⟨#[]⟩,.int .i64 0]) (vs:=[.string x.id,.string x.attr.var,.int .i64 x.attr.sym.kind,.string x.attr.sym.text,.int .i64 x.attr.sym.n,.int .i64 x.value.op,.string x.value.a.var,.int .i64 x.value.a.sym.kind,.string x.value.a.sym.text,.int .i64 x.value.a.sym.n,.string x.value.b.var,.int .i64 x.value.b.sym.kind,.string x.value.b.sym.text,.int .i64 x.value.b.sym.n,.int .i64 x.pref,.string x.other.var,.int .i64 x.other.sym.kind,.string x.other.sym.text,.int .i64 x.other.sym.n]) rfl hW8 HRG8.out)
                      have HB8:=Lib.hid (show Below wr.heap.size wr W8 by rw [hW8];exact Below.setCells' _ _ ((Below.refl _ _).alloc (Nat.le_refl _) _) (Nat.le_refl _))
                      have j1:(0:Int)≤(j:Int):=by omega
                      have j2:(j:Int)<(acts.length:Int):=by omega
                      clear hW8 hrg hY
                      have hbe:=fun W=>eqs_ActT a x W
                      obtain ⟨bb,hbb⟩ : ∃bb,bb=decide (a=x):=⟨_,rfl⟩
                      have HRA:=Lib.hid (show W8.rangeAt ba 0 [.string a.id,.string a.attr.var,.int .i64 a.attr.sym.kind,.string a.attr.sym.text,.int .i64 a.attr.sym.n,.int .i64 a.value.op,.string a.value.a.var,.int .i64 a.value.a.sym.kind,.string a.value.a.sym.text,.int .i64 a.value.a.sym.n,.string a.value.b.var,.int .i64 a.value.b.sym.kind,.string a.value.b.sym.text,.int .i64 a.value.b.sym.n,.int .i64 a.pref,.string a.other.var,.int .i64 a.other.sym.kind,.string a.other.sym.text,.int .i64 a.other.sym.n] from (HKJ.out.new_ HB8.out).range)
                      have HNX:=Lib.hid (show decide (a∈acts.take (j+1))=(th || bb) by
                       rw [HTHJ.out,hbb,take_snocV hlt2,HXJ.out,← Bool.decide_or]
                       exact decide_eq_decide.2 (by rw [List.mem_append,List.mem_singleton]))
                      rw [← hbb] at hbe
                      have HBN8:=Lib.hid (HBJ.out.trans (HB8.out.mono HBJ.out.size))
                      clear hbb
                      go_upto_region 47 with (first
                      | (with_reducible refine wpList_load_mid rfl 80 _ rfl g (off+j*19) rfl [.string x.id,.string x.attr.var,.int .i64 x.attr.sym.kind,.string x.attr.sym.text,.int .i64 x.attr.sym.n,.int .i64 x.value.op,.string x.value.a.var,.int .i64 x.value.a.sym.kind,.string x.value.a.sym.text,.int .i64 x.value.a.sym.n,.string x.value.b.var,.int .i64 x.value.b.sym.kind,.string x.value.b.sym.text,.int .i64 x.value.b.sym.n,.int .i64 x.pref,.string x.other.var,.int .i64 x.other.sym.kind,.string x.other.sym.text,.int .i64 x.other.sym.n] _ HRG.out Tryz.underlying80 rfl (by kernel_rfl) ?_)
                      | ((with_reducible refine wpList_store_mid rfl 80 _ _ rfl wr.heap.size 0 #[.string x.id,.string x.attr.var,.int .i64 x.attr.sym.kind,.string x.attr.sym.text,.int .i64 x.attr.sym.n,.int .i64 x.value.op,.string x.value.a.var,.int .i64 x.value.a.sym.kind,.string x.value.a.sym.text,.int .i64 x.value.a.sym.n,.string x.value.b.var,.int .i64 x.value.b.sym.kind,.string x.value.b.sym.text,.int .i64 x.value.b.sym.n,.int .i64 x.pref,.string x.other.var,.int .i64 x.other.sym.kind,.string x.other.sym.text,.int .i64 x.other.sym.n] rfl rfl HTX.out (by kernel_rfl) (by kernel_rfl) ?_);rw [← HW8.out]))
                      cases th
                      · go_wp2_with (first
                        | ((with_reducible refine wpList_load_midG ?_ 80 _ rfl ba 0 rfl [.string a.id,.string a.attr.var,.int .i64 a.attr.sym.kind,.string a.attr.sym.text,.int .i64 a.attr.sym.n,.int .i64 a.value.op,.string a.value.a.var,.int .i64 a.value.a.sym.kind,.string a.value.a.sym.text,.int .i64 a.value.a.sym.n,.string a.value.b.var,.int .i64 a.value.b.sym.kind,.string a.value.b.sym.text,.int .i64 a.value.b.sym.n,.int .i64 a.pref,.string a.other.var,.int .i64 a.other.sym.kind,.string a.other.sym.text,.int .i64 a.other.sym.n] _ HRA.out Tryz.underlying80 rfl (by kernel_rfl) ?_);exact rfl) | ((with_reducible refine wpList_load_midG ?_ 80 _ rfl wr.heap.size 0 rfl [.string x.id,.string x.attr.var,.int .i64 x.attr.sym.kind,.string x.attr.sym.text,.int .i64 x.attr.sym.n,.int .i64 x.value.op,.string x.value.a.var,.int .i64 x.value.a.sym.kind,.string x.value.a.sym.text,.int .i64 x.value.a.sym.n,.string x.value.b.var,.int .i64 x.value.b.sym.kind,.string x.value.b.sym.text,.int .i64 x.value.b.sym.n,.int .i64 x.pref,.string x.other.var,.int .i64 x.other.sym.kind,.string x.other.sym.text,.int .i64 x.other.sym.n] _ HRG8.out Tryz.underlying80 rfl (by kernel_rfl) ?_);exact rfl))
                        go_roundw
                        case rel=>exact ⟨j+1,by go_num,by omega,by rw [HNX.out];rfl,HBN8.out⟩
                        case measure=>simp [intOf]<;>omega
                      · go_wp2_with fail
                        go_roundw
                        case rel=>exact ⟨j+1,by go_num,by omega,by rw [HNX.out];rfl,HBN8.out⟩
                        case measure=>simp [intOf]<;>omega
                    · skip
                      obtain rfl:j=acts.length:=by omega
                      obtain ⟨th,hth⟩ : ∃th,th=decide (a∈acts):=⟨_,rfl⟩
                      rw [List.take_length,← hth]
                      have HTHJ:=Lib.hid hth
                      have jz : ¬(acts.length:Int)<(acts.length:Int):=by omega
                      have hal:acts.length≤100:=by omega
                      clear hth hlt2 hj
                      cases th
                      · skip
                        have HADD:=Lib.hid (show addA acts a=acts ++ [a] by rw [addA,if_neg (of_decide_eq_false HTHJ.out.symm)])
                        obtain ⟨i3,hi3,hv0,hv1,hv2⟩:=infp inf_Act
                        have p2:=(HPJ.out.pgb.cell 2).trans rfl
                        have pz:=HPJ.out.pgb.lt
                        have HRA:=Lib.hid (show wr.rangeAt ba 0 [.string a.id,.string a.attr.var,.int .i64 a.attr.sym.kind,.string a.attr.sym.text,.int .i64 a.attr.sym.n,.int .i64 a.value.op,.string a.value.a.var,.int .i64 a.value.a.sym.kind,.string a.value.a.sym.text,.int .i64 a.value.a.sym.n,.string a.value.b.var,.int .i64 a.value.b.sym.kind,.string a.value.b.sym.text,.int .i64 a.value.b.sym.n,.int .i64 a.pref,.string a.other.var,.int .i64 a.other.sym.kind,.string a.other.sym.text,.int .i64 a.other.sym.n] from HKJ.out.range)
                        obtain ⟨W8,hW8⟩ : ∃W,W=wr.alloc (.cells #[.string a.id,.string a.attr.var,.int .i64 a.attr.sym.kind,.string a.attr.sym.text,.int .i64 a.attr.sym.n,.int .i64 a.value.op,.string a.value.a.var,.int .i64 a.value.a.sym.kind,.string a.value.a.sym.text,.int .i64 a.value.a.sym.n,.string a.value.b.var,.int .i64 a.value.b.sym.kind,.string a.value.b.sym.text,.int .i64 a.value.b.sym.n,.int .i64 a.pref,.string a.other.var,.int .i64 a.other.sym.kind,.string a.other.sym.text,.int .i64 a.other.sym.n] 80):=⟨_,rfl⟩
                        have HW8:=Lib.hid hW8
                        have hb8:Below wr.heap.size wr W8:=by rw [hW8];exact (Below.refl _ _).alloc (Nat.le_refl _) _
                        have HP8:=Lib.hid (HPJ.out.new_ hb8)
                        have HN8:=Lib.hid (show 0<1→∃ad,(some (⟨wr.heap.size,0,none⟩:Addr))=some ad∧∀j u,([a].flatMap ActT.cells)[j]? = some u→W8.cell? (ad.add j)=some u from fun _=>⟨_,rfl,by rw [hW8];exact World.news_of_block (heap_alloc_new _ _)⟩)
                        clear hW8 hb8
                        go_wp2_with (first
                        | (with_reducible refine wpList_load_mid rfl 80 _ rfl ba 0 rfl [.string a.id,.string a.attr.var,.int .i64 a.attr.sym.kind,.string a.attr.sym.text,.int .i64 a.attr.sym.n,.int .i64 a.value.op,.string a.value.a.var,.int .i64 a.value.a.sym.kind,.string a.value.a.sym.text,.int .i64 a.value.a.sym.n,.string a.value.b.var,.int .i64 a.value.b.sym.kind,.string a.value.b.sym.text,.int .i64 a.value.b.sym.n,.int .i64 a.pref,.string a.other.var,.int .i64 a.other.sym.kind,.string a.other.sym.text,.int .i64 a.other.sym.n] _ HRA.out Tryz.underlying80 rfl (by kernel_rfl) ?_)
                        | (at_builtin;rw [← HW8.out];refine wpList_append_src W8 rfl (.tmp 170) (.tmp 172) 43 rfl 80 i3 _ 19 224 Tryz.underlying43 hi3 hv0 hv1 hv2 rfl (by omega) (.slice Aa acts.length ca) acts.length (acts.flatMap ActT.cells) rfl HP8.out.ac (some ⟨wr.heap.size,0,none⟩) 1 1 ([a].flatMap ActT.cells) rfl rfl HN8.out (one_Act _) (by unfold maxLen;omega) (by omega) ?_;intro v1 Y hown1 hg1 hnil1 hat1;obtain ⟨A9,c9,rfl,hpY,hp9⟩:=HP8.out.more hown1 hg1 hat1;obtain ⟨an,han⟩ : ∃an,an=acts ++ [a]:=⟨_,rfl⟩;rw [← han] at hp9 ⊢;have HAN:=Lib.hid han;have HP9:=Lib.hid hp9;have p2:=(hpY.cell 2).trans rfl;have pf:=hpY.frozen 2;have pz:=hpY.lt;clear hown1 hg1 hnil1 hat1 hpY hp9 han))
                        go_roundw
                        case rel=>exact ⟨k+1,n2,an,A9,c9,D6,by go_num,by omega,by omega,by rw [HAN.out,List.length_append];have:=HAK.out;simp;omega,HP9.out,by rw [HAV2.out,HADD.out,HAN.out]⟩
                        case measure=>simp [intOf]<;>omega
                      · skip
                        have HADD:=Lib.hid (show addA acts a=acts by rw [addA,if_pos (of_decide_eq_true HTHJ.out.symm)])
                        go_wp2_with fail
                        go_roundw
                        case rel=>exact ⟨k+1,n2,acts,Aa,ca,D6,by go_num,by omega,by omega,by have:=HAK.out;omega,HPJ.out,by rw [HAV2.out,HADD.out]⟩
                        case measure=>simp [intOf]<;>omega
               · skip
                 obtain rfl:k=prefs.length:=by omega
                 have HAVE:=Lib.hid (show actsV3 old prefs ns []=some (acts,nsk) by rw [HAV.out,List.drop_length];rfl)
                 have jz : ¬(prefs.length:Int)<(prefs.length:Int):=by omega
                 have HE1:=Lib.hid (show RowR (repCondT (m+1)) (fun k=>X.heap.size≤k∧k<wr.heap.size) wr AC cC cs from HP6.out.cr.weaken (fun k hk=>⟨(HP6.out.hC k hk).1,(HP6.out.hC k hk).2.2.1⟩))
                 have HE2:=Lib.hid (show RowR repActT (fun k=>X.heap.size≤k∧k<wr.heap.size) wr Aa ca acts from RowR.of_rd (ownsRow_rd ActT.cells_length HP6.out.ac) (fun a ha=>⟨by have:=(HP6.out.aa a ha).1;omega,ain_lt HP6.out.ac a ha⟩))
                 have HCK:=Lib.hid (check_is ⟨nm,cs,acts⟩ (m+1) AC Aa cC ca wr HE1.out HE2.out (fun k hk=>hk.2) (by rw [HCSE.out,flat_pos];omega) HM.out)
                 obtain ⟨q1,hq1⟩ : ∃q,q=(checkP (m+1) ⟨nm,cs,acts⟩).1:=⟨_,rfl⟩
                 obtain ⟨q2,hq2⟩ : ∃q,q=(checkP (m+1) ⟨nm,cs,acts⟩).2.1:=⟨_,rfl⟩
                 rw [← hq1,← hq2] at HCK
                 have HQ2:=Lib.hid hq2
                 obtain ⟨p0,p1,p2⟩:=HP6.out.pgb.c3
                 have pz:=HP6.out.pgb.lt
                 clear hq1 hq2 HAV hk hlt
                 go_upto_region 52 with fail
                 go_wp2_with fail
                 refine HCK.out.mono ?_
                 rintro e w6 ⟨rfl,hb6⟩
                 have HPE:=Lib.hid (HP6.out.new_ hb6)
                 have HE1:=Lib.hid (HE1.out.new_ hb6)
                 have HE2:=Lib.hid (HE2.out.new_ hb6)
                 have HZ6:=Lib.hid hb6.size
                 clear hb6 p0 p1 p2 pz jz
                 by_cases hq0:q2=0
                 case neg=>
                  have e1:(q2 != 0)=true:=by simp [hq0]
                  have HPB:=Lib.hid HPE.out.pb
                  have HPV:=Lib.hid (show prodV (m+1) nm l old news prefs=none by rw [HPVX.out];unfold prodW;rw [HAVE.out];simp only;rw [if_neg (by rw [← HCSE.out,← HQ2.out];exact hq0)])
                  have HT:=Lib.hid (show w6.there (X.heap.size+1) 0 (#[Value.string ⟨#[]⟩,Value.slice none 0 0,Value.slice none 0 0]:Array Value).size from HPB.out.r.there)
                  have HBB:=Lib.hid HPB.out.bel
                  go_wp2_with (with_reducible refine wpList_store_mid rfl 45 _ _ rfl (X.heap.size+1) 0 #[Value.string ⟨#[]⟩,Value.slice none 0 0,Value.slice none 0 0] rfl rfl HT.out (by kernel_rfl) (by kernel_rfl) ?_)
                  try simp only [Exit.inBlock,Exit.then]
                  refine bodyPost_ret (v:=.tuple #[.agg #[.string ⟨#[]⟩,.slice none 0 0,.slice none 0 0],.slice none 0 0,.bool false]) ?_ rfl (ProdTo.no HPV.out (Below.setCells' _ _ HBB.out (by omega)))
                  exact results_cell_tmp2 (t:=8) (s:=9) (s2:=10) (T:=45) rfl _ _ (X.heap.size+1) [Value.string ⟨#[]⟩,Value.slice none 0 0,Value.slice none 0 0] _ rfl (World.rangeAt_setCells_same w6 (X.heap.size+1) 0 [Value.string ⟨#[]⟩,Value.slice none 0 0,Value.slice none 0 0] HT.out) Tryz.underlying45 rfl (by kernel_rfl)
                 have e1:(q2 != 0)=false:=by simp [hq0]
                 have HPV:=Lib.hid (show prodV (m+1) nm l old news prefs=some (⟨nm,cs,acts⟩,tags) by rw [HPVX.out];unfold prodW;rw [HAVE.out];simp only;rw [if_pos (by rw [← HCSE.out,← HQ2.out];exact hq0),← HCSE.out,← HTGE.out])
                 obtain ⟨p0,p1,p2⟩:=HPE.out.pgb.c3
                 have pz:=HPE.out.pgb.lt
                 have HT:=Lib.hid (show w6.there (X.heap.size+1) 0 (#[Value.string nm,Value.slice AC cs.length cC,Value.slice Aa acts.length ca]:Array Value).size from HPE.out.pb.r.there)
                 go_wp2_with (with_reducible refine wpList_store_mid rfl 45 _ _ rfl (X.heap.size+1) 0 #[Value.string nm,Value.slice AC cs.length cC,Value.slice Aa acts.length ca] rfl rfl HT.out (by kernel_rfl) (by kernel_rfl) ?_)
                 try simp only [Exit.inBlock,Exit.then]
                 refine bodyPost_ret (v:=.tuple #[.agg #[Value.string nm,Value.slice AC cs.length cC,Value.slice Aa acts.length ca],.slice At tags.length ct,.bool true]) ?_ rfl ?_
                 · exact results_cell_tmp2 (t:=8) (s:=9) (s2:=10) (T:=45) rfl _ _ (X.heap.size+1) [Value.string nm,Value.slice AC cs.length cC,Value.slice Aa acts.length ca] _ rfl (World.rangeAt_setCells_same w6 (X.heap.size+1) 0 [Value.string nm,Value.slice AC cs.length cC,Value.slice Aa acts.length ca] HT.out) Tryz.underlying45 rfl (by kernel_rfl)
                 · rw [HPV.out]
                   obtain ⟨x1,x2,x3,x4,x5⟩:=HPE.out.fin [Value.string nm,Value.slice AC cs.length cC,Value.slice Aa acts.length ca] (V:=w6.setCells (X.heap.size+1) 0 [Value.string nm,Value.slice AC cs.length cC,Value.slice Aa acts.length ca]) rfl
                   exact ⟨x1,AC,cC,Aa,ca,At,ct,rfl,x2,x3,x4,x5⟩
end Go.Proofs.YtldndkngpdfpfaaGreat
