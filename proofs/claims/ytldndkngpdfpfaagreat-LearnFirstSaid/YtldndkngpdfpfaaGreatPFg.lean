/-
  Texts put together: LrnRsA, Own, OwnC, BkInfo.
-/
import Derived.Test.YtldndkngpdfpfaaGreatPFf
namespace Go.Proofs.YtldndkngpdfpfaaGreat
open Lib (hid)
set_option maxRecDepth 100000
set_option maxHeartbeats 32000000
section
open Go.RowKit Go.Shelf
structure LvOk (gf:Nat) (lb:Array Value) (w:World) (of:Sym→Int):Prop where
 ent : ∀args W,(callFunc gf args).run Tryz.prog W = .ok (.enter gf args) W
 call : ∀s W,Below w.heap.size w W→Calls Tryz.prog gf (#[.agg #[.int .i64 s.kind,.string s.text,.int .i64 s.n]]++lb) W fun e w'=>e = .returned (.int .i64 (of s))∧Below W.heap.size W w'
theorem LvOk.new_ {gf:Nat} {lb:Array Value} {w w':World} {of:Sym→Int} (h:LvOk gf lb w of) (hb:Below w.heap.size w w'):LvOk gf lb w' of:=⟨h.ent,fun s W hW=>h.call s W (hb.trans (hW.mono hb.size))⟩
theorem Zhj:(Tryz.prog.info? 68).map (fun i=>(i.zero,i.size,i.bytes))=some (some (.agg #[.int .i64 0,.string ⟨#[]⟩,.int .i64 0,.int .i64 0,.string ⟨#[]⟩,.int .i64 0,.int .i64 0,.string ⟨#[]⟩,.int .i64 0,.int .i64 0,.string ⟨#[]⟩,.int .i64 0,.int .i64 0,.bool false,.int .i64 0,.int .i64 0]),16,160):=by kernel_rfl
theorem Zby (l:List Z04) : ∀u∈l.flatMap Z04.cells,u.oneCell'=true:=by
 intro u hu;obtain ⟨b,_,hb⟩:=List.mem_flatMap.1 hu;simp only [Z04.cells,Zoj,Zoq,or_false] at hb;rcases hb with rfl | rfl | rfl | rfl | rfl | rfl | rfl | rfl | rfl | rfl | rfl | rfl | rfl | rfl | rfl | rfl<;>rfl
structure LrS (X:World) (lv:Int) (bl bo:Nat) (o:List Z04) (A:Option Addr) (c:Nat) (w:World):Prop where
 lvb:Blk w bl 3 #[.int .i64 lv]
 ob:Blk w bo 29 #[.slice A o.length c]
 own:w.ownsRow 0 68 16 (.slice A o.length c) o.length (o.flatMap Z04.cells)
 ain:AIn A (X.heap.size≤·)
 ge:X.heap.size≤bl∧X.heap.size≤bo
 bel:Below X.heap.size X w
def LrM (bo:Nat) (A:Option Addr) (k:Nat):Prop:=k=bo∨∃a,A=some a∧a.block=k
section
variable {X w w':World} {lv:Int} {bl bo:Nat} {o:List Z04} {A:Option Addr} {c:Nat}
theorem LrS.new_ (h:LrS X lv bl bo o A c w) (hb:Below w.heap.size w w'):LrS X lv bl bo o A c w':=⟨h.lvb.new_ hb,h.ob.new_ hb,Z02 h.own hb,h.ain,h.ge,h.bel.trans (hb.mono h.bel.size)⟩
theorem LrS.priv {B:Nat} (h:LrS X lv bl bo o A c w) (hp:Priv B w w') (hB:X.heap.size≤B):LrS X lv bl bo o A c w':=⟨h.lvb.priv hp,h.ob.priv hp,Z1z h.own hp,h.ain,h.ge,Below.priv' h.bel hp hB h.bel.size⟩
theorem LrS.neB {g:Nat} {t:TypeId} {cs:Array Value} (h:LrS X lv bl bo o A c w) (hb:Blk w g t cs) (h1:t≠29:=by decide) (h2:t≠68:=by decide) : ¬LrM bo A g:=by
 rintro (e | ⟨a,ha,e⟩)
 · subst e;exact h.ob.ne_ hb h1.symm rfl
 · exact Z01 h.own hb h2.symm (by subst ha;subst e;rfl)
theorem LrS.cells (h:LrS X lv bl bo o A c w) : ∀k,LrM bo A k→Z1h w k:=by
 rintro k (rfl | ⟨a,ha,rfl⟩)
 · exact h.ob.at_
 · exact Z9l h.own a.block (by rw [ha];rfl)
theorem LrS.geM (h:LrS X lv bl bo o A c w) : ∀k,LrM bo A k→X.heap.size≤k:=by
 rintro k (rfl | ⟨a,ha,rfl⟩)
 · exact h.ge.2
 · exact h.ain a ha
theorem LrS.fr {M:Nat→Prop} (h:LrS X lv bl bo o A c w) (hF:Fr M w w') (h1 : ¬M bl) (h2 : ∀k,LrM bo A k→¬M k) (hM : ∀k,M k→X.heap.size≤k):LrS X lv bl bo o A c w':=
 ⟨h.lvb.fr hF h1,h.ob.fr hF (h2 _ (.inl rfl)),Z0s h.own hF (fun g hg hm=>by
  rcases A with _ | a
  · simp [Value.ownBlock] at hg
  · exact h2 g (.inr ⟨a,rfl,by simpa [Value.ownBlock] using hg⟩) hm),h.ain,h.ge,h.bel.trans (hF.below h.bel.size (fun k hk hm=>by have:=hM k hm;omega))⟩
theorem LrS.more {p:Z04} {v:Value} {Y:World} (h:LrS X lv bl bo o A c w) (hown:Y.ownsRow 0 68 16 v (o.length+1) (o.flatMap Z04.cells ++ [p].flatMap Z04.cells))
 (hg:w.grownBy Y (Value.slice A o.length c).ownBlock) (hat:v.ownBlock=(Value.slice A o.length c).ownBlock∨v.ownBlock=some w.heap.size) :
 ∃A' c',v = .slice A' (o ++ [p]).length c'∧Blk Y bo 29 #[.slice A o.length c]∧LrS X lv bl bo (o ++ [p]) A' c' (Y.setCell ⟨bo,0,none⟩ (.slice A' (o ++ [p]).length c'))∧Fr (LrM bo A) w (Y.setCell ⟨bo,0,none⟩ (.slice A' (o ++ [p]).length c'))∧(∀k,LrM bo A' k→LrM bo A k∨w.heap.size≤k):=by
 obtain ⟨A',c',rfl,hF,hA,hO⟩:=Z2o (E:=fun j=>∃a,A=some a∧a.block=j) (fun a ha=>⟨a,ha,rfl⟩) hown hg hat;have e2:(o ++ [p]).length=o.length+1:=by simp
 have n1 : ∀{g:Nat} {t:TypeId} {cs:Array Value},Blk w g t cs→t≠68→¬∃a,A=some a∧a.block=g:=by
  rintro g t cs hb ht ⟨a,ha,e⟩;exact Z01 h.own hb ht.symm (by subst ha;subst e;rfl)
 have ob:Blk Y bo 29 #[.slice A o.length c]:=h.ob.fr hF (n1 h.ob (by decide));have lb:Blk Y bl 3 #[.int .i64 lv]:=h.lvb.fr hF (n1 h.lvb (by decide));have hne:bl≠bo:=lb.ne_ ob (by decide);have hF2:Fr (LrM bo A) w (Y.setCell ⟨bo,0,none⟩ (.slice A' (o ++ [p]).length c')):=(hF.mono (fun k _ hk=>.inr hk)).setCell (p:=⟨bo,0,none⟩) (.inl (.inl rfl)) _;refine ⟨A',c',by rw [e2],ob,⟨lb.far (p:=⟨bo,0,none⟩) hne _,?_,?_,?_,h.ge,h.bel.trans (hF2.below h.bel.size (fun k hk hm=>by have:=h.geM k hm;omega))⟩,hF2,?_⟩
 · have:=ob.set_ 0 (.slice A' (o ++ [p]).length c');simpa using this
 · rw [e2,Zog]
   refine ownsRow_setCell_other (a:=⟨bo,0,none⟩) hO (fun e=>?_) _;exact Z01 hO ob (by decide) e
 · intro a ha
   rcases hA a ha with ⟨b,hb,e⟩ | ⟨h1,_⟩
   · rw [← e];exact h.ain b hb
   · have:=h.bel.size;show X.heap.size≤a.block;omega
 · rintro k (rfl | ⟨a,ha,rfl⟩)
   · exact .inl (.inl rfl)
   · rcases hA a ha with ⟨b,hb,e⟩ | ⟨h1,_⟩
     · exact .inl (.inr ⟨b,hb,e⟩)
     · exact .inr h1
end
structure LrG (X:World) (bp:Nat) (sn:Bool) (A:Option Addr) (c:Nat) (gone:List Sym) (w:World):Prop where
 set:Z49 w bp sn A c (puts Z08 [] gone)
 ain:AIn A (X.heap.size≤·)
 ge:X.heap.size≤bp
theorem LrG.new_ {X w w':World} {bp:Nat} {sn:Bool} {A:Option Addr} {c:Nat} {gone:List Sym} (h:LrG X bp sn A c gone w) (hb:Below w.heap.size w w'):LrG X bp sn A c gone w':=⟨h.set.new_ hb,h.ain,h.ge⟩
theorem LrG.priv {B:Nat} {X w w':World} {bp:Nat} {sn:Bool} {A:Option Addr} {c:Nat} {gone:List Sym} (h:LrG X bp sn A c gone w) (hp:Priv B w w'):LrG X bp sn A c gone w':=⟨h.set.priv hp,h.ain,h.ge⟩
theorem LrG.off {X w w':World} {lv:Int} {bl bo:Nat} {o:List Z04} {A A2:Option Addr} {c c2:Nat} {bp:Nat} {sn:Bool} {gone:List Sym} (h:LrG X bp sn A2 c2 gone w) (hr:LrS X lv bl bo o A c w) (hF:Fr (LrM bo A) w w'):LrG X bp sn A2 c2 gone w':=by
 refine ⟨⟨h.set.blk.fr hF ?_,Z0s h.set.row hF ?_⟩,h.ain,h.ge⟩
 · rintro (e | ⟨a,ha,e⟩)
   · subst e;exact h.set.blk.ne_ hr.ob (by decide) rfl
   · exact Z01 hr.own h.set.blk (by decide) (by subst ha;subst e;rfl)
 · rintro g hg (e | ⟨a,ha,e⟩)
   · subst e;exact Z01 h.set.row hr.ob (by decide) hg
   · exact Z2s h.set.row hr.own (by decide) hg (by subst ha;subst e;rfl)
theorem LrG.put_ {X w w':World} {lv:Int} {bl bo:Nat} {o:List Z04} {A A2 A3:Option Addr} {c c2 c3:Nat} {bp:Nat} {sn sn3:Bool} {gone:List Sym} {s:Sym} (h:LrG X bp sn A2 c2 gone w) (hr:LrS X lv bl bo o A c w) (hS:Z49 w' bp sn3 A3 c3 (put Z08 (puts Z08 [] gone) s)) (hF:Fr (Z0y bp sn A2) w w') (hM:Z1p w sn A2 sn3 A3) :
 LrG X bp sn3 A3 c3 (gone ++ [s]) w'∧LrS X lv bl bo o A c w'∧(∀k,Z0y bp sn A2 k→Z1h w k)∧∀k,Z0y bp sn A2 k→X.heap.size≤k:=by
 have hge : ∀k,Z0y bp sn A2 k→X.heap.size≤k:=by
  rintro k (rfl | ⟨_,a,ha,rfl⟩)
  · exact h.ge
  · exact h.ain a ha
 refine ⟨⟨by rw [Z23];exact hS,?_,h.ge⟩,hr.fr hF ?_ ?_ hge,?_,hge⟩
 · rcases hM with ⟨_,rfl⟩ | ⟨_,g,hg,rfl⟩
   · exact h.ain
   · exact AIn.one (Zod hr.bel.size hg)
 · rintro (e | ⟨_,a,ha,e⟩)
   · subst e;exact h.set.blk.ne_ hr.lvb (by decide) rfl
   · exact Z01 h.set.row hr.lvb (by decide) (by subst ha;subst e;rfl)
 · rintro k (rfl | ⟨a,ha,e⟩) (e2 | ⟨_,b,hb,e2⟩)
   · subst e2;exact h.set.blk.ne_ hr.ob (by decide) rfl
   · exact Z01 h.set.row hr.ob (by decide) (by subst hb;subst e2;rfl)
   · subst e2;exact Z01 hr.own h.set.blk (by decide) (by subst ha;subst e;rfl)
   · exact Z2s hr.own h.set.row (by decide) (k:=k) (by subst ha;subst e;rfl) (by subst hb;subst e2;rfl)
 · rintro k (rfl | ⟨_,a,ha,rfl⟩)
   · exact h.set.blk.at_
   · exact Z9l h.set.row a.block (by rw [ha];rfl)
theorem Z33.at_ {E M:Nat→Prop} {ds:List Deferred} {w w':World} (h:Z33 E ds w) (hF:Fr M w w') (hM : ∀k,M k→k<w.heap.size→Z1h w k):Z33 E ds w':=by
 induction ds with
 | nil=>trivial
 | cons d ds ih=>
   obtain ⟨⟨r,h1,h2,h3,h4⟩,h5⟩:=h;refine ⟨⟨r,h1,h2,(hF.block r (Zob.1 h3).1 (fun hm=>?_)).trans h3,h4⟩,ih h5⟩;obtain ⟨cc,t,f,hh⟩:=hM r hm (Zob.1 h3).1;rw [hh] at h3;cases h3
theorem Z33.new_ {E:Nat→Prop} {ds:List Deferred} {w w':World} (h:Z33 E ds w) (hb:Below w.heap.size w w'):Z33 E ds w':=by
 induction ds with
 | nil=>trivial
 | cons d ds ih=>
   obtain ⟨⟨r,h1,h2,h3,h4⟩,h5⟩:=h;exact ⟨⟨r,h1,h2,(hb.block r (Zob.1 h3).1).trans h3,h4⟩,ih h5⟩
theorem Z33.priv {E:Nat→Prop} {B:Nat} {ds:List Deferred} {w w':World} (h:Z33 E ds w) (hp:Priv B w w') (hE : ∀k,E k→k<B):Z33 E ds w':=by
 induction ds with
 | nil=>trivial
 | cons d ds ih=>
   obtain ⟨⟨r,h1,h2,h3,h4⟩,h5⟩:=h;exact ⟨⟨r,h1,h2,(hp.block r (Zob.1 h3).1 (.inl (hE r h2))).trans h3,h4⟩,ih h5⟩
theorem Z6q {P:Program} {F:Fence} {n B:Nat} {fn:Func} {tmps:Array Value} {R:Ending→World→Prop} : ∀(ds:List Deferred) (w:World),Z33 (B≤·) ds w→(∀w',Priv B w w'→LeavesInM F n P fn tmps R [] .returning w')→LeavesInM F n P fn tmps R ds .returning w
 | [],w,_,hR=>hR w (Priv.refl _ _)
 | d :: ds,w,⟨⟨r,h1,h2,h3,h4⟩,h5⟩,hR=>by
   subst h1;have hput:Fr (· = r) w (w.putObj r (.deferred none)):=(Fr.refl (· = r) w).putObj (.inl rfl) _
   have hm:Z33 (B≤·) ds (w.putObj r (.deferred none)):=by
    clear hR
    induction ds with
    | nil=>trivial
    | cons d ds ih=>
      obtain ⟨⟨r',g1,g2,g3,g4⟩,g5⟩:=h5;refine ⟨⟨r',g1,g2,(hput.block r' (Zob.1 g3).1 (fun e=>h4 d (by simp) (by rw [g1,e]))).trans g3,g4⟩,ih (fun d' hd'=>h4 d' (by simp [hd'])) g5⟩
   exact ⟨by simp,.inl ⟨_,_,rfl,run_takeDeferred h3,Z6q ds _ hm (fun w' hp=>hR w' (((Priv.refl B w).putObj h2 h3 rfl _).trans hp))⟩⟩
def twoS (p:Z04):List Sym:=[p.value,p.other]
def Z44 (of:Sym→Int) (lv:Int) (all:List Z04) (st:List Z04×List Sym) (p:Z04) (k:Nat):List Z04×List Sym:=((twoS p).take k).foldl (stepS of lv all) st
theorem Z5y {of:Sym→Int} {lv:Int} {all:List Z04} {st:List Z04×List Sym} {p:Z04} {k:Nat} {s:Sym} (h:(twoS p)[k]? = some s):Z44 of lv all st p (k+1)=stepS of lv all (Z44 of lv all st p k) s:=by
 unfold Z44;rw [Zou,h,List.foldl_append];rfl
theorem Ziu (of:Sym→Int) (lv:Int) (all:List Z04) (st:List Z04×List Sym) (p:Z04):Z44 of lv all st p 2=stepS of lv all (stepS of lv all st p.value) p.other:=rfl
theorem Z5x {of:Sym→Int} {lv:Int} {l all:List Z04} {st:List Z04×List Sym} {p:Z04} (h:Z3t l all st.1) : ∀k,Z3t l all (Z44 of lv all st p k).1
 | 0=>h
 | k+1=>by
   cases hs:(twoS p)[k]? with
   | none=>
     have:Z44 of lv all st p (k+1)=Z44 of lv all st p k:=by
      unfold Z44;rw [Zou,hs];simp
     rw [this];exact Z5x h k
   | some s=>rw [Z5y hs];exact (Z5x h k).stepS
theorem Zgn {o:List Z04} (p:Z04) {k:Nat} {q:Z04} (h:o[k]? = some q):(addP o p)[k]? = some q:=by
 unfold addP
 split
 · exact h
 · rw [Zot (Zoh.1 h).1];exact h
theorem Z7k {s:Sym} {lv:Int} : ∀{m o:List Z04} {k:Nat} {q:Z04},o[k]? = some q→(Z5j s lv o m)[k]? = some q
 | [],_,_,_,h=>h
 | p :: m,o,k,q,h=>by
   show (Z5j s lv (if p.id=s∧p.level≤lv then addP o p else o) m)[k]? = some q
   split
   · exact Z7k (Zgn p h)
   · exact Z7k h
theorem Zg8 {of:Sym→Int} {lv:Int} {all:List Z04} {st:List Z04×List Sym} {s:Sym} {k:Nat} {q:Z04} (h:st.1[k]? = some q):(stepS of lv all st s).1[k]? = some q:=by
 unfold stepS
 split
 · exact Z7k h
 · exact h
theorem Z8v {of:Sym→Int} {lv:Int} {all:List Z04} {st:List Z04×List Sym} {p:Z04} {j:Nat} {q:Z04} (h:st.1[j]? = some q) : ∀k,(Z44 of lv all st p k).1[j]? = some q
 | 0=>h
 | k+1=>by
   cases hs:(twoS p)[k]? with
   | none=>
     have:Z44 of lv all st p (k+1)=Z44 of lv all st p k:=by
      unfold Z44;rw [Zou,hs];simp
     rw [this];exact Z8v h k
   | some s=>rw [Z5y hs];exact Zg8 (Z8v h k)
theorem Z7o {of:Sym→Int} {lv:Int} {all:List Z04} (st:List Z04×List Sym) (s:Sym):(stepS of lv all st s).2.length≤st.2.length+1:=by
 unfold stepS
 split
 · simp
 · omega
theorem Zl7 {of:Sym→Int} {lv:Int} {l all:List Z04} {i:Nat} {st:List Z04×List Sym} (h:RunR of lv l all i st):st.2.length≤2*i:=by
 induction h with
 | start=>simp
 | step _ _ ih=>
   rename_i k st p _ _;have h1:=Z7o (of:=of) (lv:=lv) (all:=all) st p.value;have h2:=Z7o (of:=of) (lv:=lv) (all:=all) (stepS of lv all st p.value) p.other;omega
theorem Z9p {of:Sym→Int} {lv:Int} {all:List Z04} {st:List Z04×List Sym} {p:Z04} : ∀k,(Z44 of lv all st p k).2.length≤st.2.length+k
 | 0=>Zo0 _
 | k+1=>by
   have ih:=Z9p (of:=of) (lv:=lv) (all:=all) (st:=st) (p:=p) k
   cases hs:(twoS p)[k]? with
   | none=>
     have:Z44 of lv all st p (k+1)=Z44 of lv all st p k:=by
      unfold Z44;rw [Zou,hs];simp
     rw [this];omega
   | some s=>
     rw [Z5y hs];have:=Z7o (of:=of) (lv:=lv) (all:=all) (Z44 of lv all st p k) s;omega
theorem Z4e {P:Program} {F:Fence} {n1:Nat} {w:World} {ops:Array Oper} {rest:List Oper} {o:Oper} {a:Go.Act} {Q:Exit→Go.Act→World→Prop} (hw:Region.wanted o (yielded ops a.tmps)=true) (ty:TypeId) (x:Operand) (ho:o.op = .load ty x)
 (b of:Nat) (hx:a.eval x = .pointer (some ⟨b,of,none⟩)) (cs:List Value) (d:TypeDesc) (hc:w.rangeAt b of cs)
 (hu:P.underlying ty=some d) (hd:d.isRow=true) (hi:(P.info? ty).map (·.size)=some cs.length)
 (h:wpListIn F n1 P ops Q rest (a.put o.dst (.agg cs.toArray)) w):wpListIn F n1 P ops Q (o :: rest) a w:=by
 refine wpListIn_step fun K hK'=>?_;rw [if_pos hw];unfold Oper.wpIn;refine ⟨?_,?_⟩
 · simp [Oper.about,ho]
 · rw [Oper.semAt_plain F _ _ (by rw [ho];intro c hc';cases hc')]
   unfold execOp;simp only [ho,hx,Instr.loadAt,Instr.sureAddr,Sem.run_bind,Sem.run_pure,Result.andThen_ok,run_loadVar_mid w b of ty cs d hc hu hd hi];exact hK' _ _ h
def Znr (of:Sym→Int) (lv:Int) (l all:List Z04) (X:World) (e:Ending) (w':World):Prop:=
 ∃r A c,EndR of lv l all r∧r.length≤l.length+all.length∧e = .returned (.slice A r.length c)∧Z0p w' 16 Z04.cells A c r∧AIn A (X.heap.size≤·)∧Below X.heap.size X w'
end
section
open Go.RowKit
inductive Z32 {α β:Type} (R:α→β→Prop):List α→List β→Prop
 | nil:Z32 R [] []
 | cons {a:α} {b:β} {l:List α} {m:List β}:R a b→Z32 R l m→Z32 R (a :: l) (b :: m)
section
variable {α β:Type} {R R':α→β→Prop}
theorem Z32.length : ∀{l:List α} {m:List β},Z32 R l m→l.length=m.length
 | _,_,.nil=>rfl
 | _,_,.cons _ h=>by simp [h.length]
theorem Z32.imp (hr : ∀a b,R a b→R' a b) : ∀{l:List α} {m:List β},Z32 R l m→Z32 R' l m
 | _,_,.nil=>.nil
 | _,_,.cons h t=>.cons (hr _ _ h) (t.imp hr)
theorem Z32.append : ∀{l l':List α} {m m':List β},Z32 R l m→Z32 R l' m'→Z32 R (l++l') (m++m')
 | _,_,_,_,.nil,h=>h
 | _,_,_,_,.cons h t,k=>.cons h (t.append k)
theorem Z32.get : ∀{l:List α} {m:List β},Z32 R l m→∀k,(h:k<l.length)→∃h':k<m.length,R l[k] m[k]
 | _,_,.nil,_,h=>absurd h (by simp)
 | _,_,.cons h _,0,_=>⟨by simp,h⟩
 | _,_,.cons _ t,k+1,h=>by
   obtain ⟨h1,h2⟩:=t.get k (by simpa using h);exact ⟨by simpa using h1,by simpa using h2⟩
end
theorem Z8i {size:Nat} : ∀(css:List (List Value)),(∀cs∈css,cs.length=size)→∀k,(h:k<css.length)→∀j,j<size→css.flatten[k*size+j]? = css[k][j]?
 | [],_,_,h,_,_=>absurd h (by simp)
 | c :: css,hs,0,_,j,hj=>by
   rw [List.flatten_cons,Zot (by rw [hs c (by simp)];omega)];simp
 | c :: css,hs,k+1,h,j,hj=>by
   have hc:=hs c (by simp);rw [List.flatten_cons,Zp8 (by rw [hc,Nat.add_mul];omega),hc];rw [show (k+1)*size+j - size=k*size+j by rw [Nat.add_mul];omega];exact Z8i css (fun cs h=>hs cs (by simp [h])) k (by simpa using h) j hj
theorem Zce {α:Type} (n:Nat) : ∀l:List α,(l.map fun _=>n).sum=l.length*n
 | []=>by simp
 | _ :: l=>by simp only [List.map_cons,List.sum_cons,Zol,Zce n l,Nat.add_mul];omega
section
variable {α:Type} {r:RepT α} {e:TypeId} {base:Nat} {w w':World} {v:Value} {l:List α}
end
section
variable {P:Program} (w:World)
theorem Z8u (t ty e:TypeId) (i:TypeInfo) (z:Value) (size bytes:Nat) (ht:P.underlying t=some (.slice e)) (hi:P.info? e=some i) (hz:i.zero=some z)
 (hsize:i.size=size) (hby:i.bytes=bytes) (hzs:z.cells.size=size) (hsz:0<size)
 (base:Nat) (hbase:base≤w.heap.size) (v:Value) (n:Nat) (xs:List Value) (hown:w.ownsRow base e size v n xs) (A:Option Addr) (m c:Nat) (news:List Value) (hl:news.length=m*size)
 (hnews:0<m→∃ad,A=some ad∧∀j u,news[j]? = some u→w.cell? (ad.add j)=some u) (h1 : ∀u∈news,u.oneCell'=true)
 (h63:n+m≤maxLen) (hbytes:(n+m)*bytes≤140737488355328) :
 ∃v' w',(Builtin.append_ #[t,t] ty #[v,.slice A m c]).run P w = .ok v' w'∧w'.ownsRow base e size v' (n+m) (xs++news)∧w.grownBy w' v.ownBlock∧
  (v' = .slice none 0 0↔v = .slice none 0 0∧m=0)∧(v'.ownBlock=v.ownBlock∨v'.ownBlock=some w.heap.size):=by
 rcases Nat.eq_zero_or_pos m with rfl | hm
 · have hn:news = []:=List.eq_nil_of_length_eq_zero (by simpa using hl)
   subst hn;rcases A with _ | ad
   · refine ⟨v,w,?_,by simpa using hown,World.grownBy.refl w _,by simp,.inl rfl⟩
     rcases hown.2 with ⟨rfl,rfl⟩ | ⟨g,cap,cur,rfl,_,_,hnc,_⟩
     · simp [Builtin.append_,run_underlying ht,sizeOf,typeInfo,hi,Builtin.lenOf,Builtin.firstCells]
     · simp [Builtin.append_,run_underlying ht,sizeOf,typeInfo,hi,Builtin.lenOf,Builtin.firstCells,hnc,storeCells]
   · exact run_append_own_at w base t ty e i z size bytes ht hi hz hsize hby hzs hsz v n xs hown ad 0 c [] (by simp) (by simp) (by simp) h63 hbytes hbase
 · obtain ⟨ad,rfl,hc⟩:=hnews hm
   exact run_append_own_at w base t ty e i z size bytes ht hi hz hsize hby hzs hsz v n xs hown ad m c news hl hc h1 h63 hbytes hbase
theorem Z69 {o:Oper} {a:Act} {K:Act→World→Prop} {Q:Exit→Act→World→Prop} (s x:Operand) (t:TypeId)
 (ho:o.op = .call { callee:=.builtin .append,args:=#[s,x],argTypes:=#[t,t] })
 (e:TypeId) (i:TypeInfo) (z:Value) (size bytes:Nat) (ht:P.underlying t=some (.slice e)) (hi:P.info? e=some i) (hz:i.zero=some z)
 (hsize:i.size=size) (hby:i.bytes=bytes) (hzs:z.cells.size=size) (hsz:0<size)
 (base:Nat) (hbase:base≤w.heap.size) (v:Value) (n:Nat) (xs:List Value) (hs:a.eval s=v) (hown:w.ownsRow base e size v n xs)
 (A:Option Addr) (m c:Nat) (news:List Value) (hx:a.eval x = .slice A m c) (hl:news.length=m*size)
 (hnews:0<m→∃ad,A=some ad∧∀j u,news[j]? = some u→w.cell? (ad.add j)=some u) (h1 : ∀u∈news,u.oneCell'=true)
 (h63:n+m≤maxLen) (hbytes:(n+m)*bytes≤140737488355328)
 (h : ∀v' w',w'.ownsRow base e size v' (n+m) (xs++news)→w.grownBy w' v.ownBlock→(v' = .slice none 0 0↔v = .slice none 0 0∧m=0)→(v'.ownBlock=v.ownBlock∨v'.ownBlock=some w.heap.size)→K (a.put o.dst v') w') :
 Oper.wp P o a w K Q:=by
 obtain ⟨v',w',hr,h2,h3,h4,h5⟩:=Z8u (P:=P) w t o.type e i z size bytes ht hi hz hsize hby hzs hsz base hbase v n xs hown A m c news hl hnews h1 h63 hbytes;unfold Oper.wp execOp;simp only [ho,resolve,invoke,builtin,Sem.run_bind,Sem.run_pure,Result.andThen_ok,List.map_toArray,List.map_cons,List.map_nil,hs,hx,hr];exact h v' w' h2 h3 h4 h5
theorem Z80 {ops:Array Oper} {o:Oper} {a:Act} {K:Act→World→Prop} {Q:Exit→Act→World→Prop} {E:Prop} (hgd:o.guard=none) (s x:Operand) (t:TypeId)
 (ho:o.op = .call { callee:=.builtin .append,args:=#[s,x],argTypes:=#[t,t] })
 (e:TypeId) (i:TypeInfo) (z:Value) (size bytes:Nat) (ht:P.underlying t=some (.slice e)) (hi:P.info? e=some i) (hz:i.zero=some z)
 (hsize:i.size=size) (hby:i.bytes=bytes) (hzs:z.cells.size=size) (hsz:0<size)
 (base:Nat) (hbase:base≤w.heap.size) (v:Value) (n:Nat) (xs:List Value) (hs:a.eval s=v) (hown:w.ownsRow base e size v n xs)
 (A:Option Addr) (m c:Nat) (news:List Value) (hx:a.eval x = .slice A m c) (hl:news.length=m*size)
 (hnews:0<m→∃ad,A=some ad∧∀j u,news[j]? = some u→w.cell? (ad.add j)=some u) (h1 : ∀u∈news,u.oneCell'=true)
 (h63:n+m≤maxLen) (hbytes:(n+m)*bytes≤140737488355328)
 (h : ∀v' w',w'.ownsRow base e size v' (n+m) (xs++news)→w.grownBy w' v.ownBlock→(v' = .slice none 0 0↔v = .slice none 0 0∧m=0)→(v'.ownBlock=v.ownBlock∨v'.ownBlock=some w.heap.size)→K (a.put o.dst v') w') :
 if Region.wanted o (yielded ops a.tmps)=true then Oper.wp P o a w K Q else E:=by
 rw [if_pos (by simp [Region.wanted,hgd])];exact Z69 w s x t ho e i z size bytes ht hi hz hsize hby hzs hsz base hbase v n xs hs hown A m c news hx hl hnews h1 h63 hbytes h
theorem Z72 {ops:Array Oper} {rest:List Oper} {o:Oper} {a:Act} {Q:Exit→Act→World→Prop} (hgd:o.guard=none) (s x:Operand) (t:TypeId)
 (ho:o.op = .call { callee:=.builtin .append,args:=#[s,x],argTypes:=#[t,t] })
 (e:TypeId) (i:TypeInfo) (z:Value) (size bytes:Nat) (ht:P.underlying t=some (.slice e)) (hi:P.info? e=some i) (hz:i.zero=some z)
 (hsize:i.size=size) (hby:i.bytes=bytes) (hzs:z.cells.size=size) (hsz:0<size)
 (base:Nat) (hbase:base≤w.heap.size) (v:Value) (n:Nat) (xs:List Value) (hs:a.eval s=v) (hown:w.ownsRow base e size v n xs)
 (A:Option Addr) (m c:Nat) (news:List Value) (hx:a.eval x = .slice A m c) (hl:news.length=m*size)
 (hnews:0<m→∃ad,A=some ad∧∀j u,news[j]? = some u→w.cell? (ad.add j)=some u) (h1 : ∀u∈news,u.oneCell'=true)
 (h63:n+m≤maxLen) (hbytes:(n+m)*bytes≤140737488355328)
 (h : ∀v' w',w'.ownsRow base e size v' (n+m) (xs++news)→w.grownBy w' v.ownBlock→(v' = .slice none 0 0↔v = .slice none 0 0∧m=0)→(v'.ownBlock=v.ownBlock∨v'.ownBlock=some w.heap.size)→wpList P ops Q rest (a.put o.dst v') w') :
 wpList P ops Q (o :: rest) a w:=
 wpList_plain hgd fun _ hK=>Z69 w s x t ho e i z size bytes ht hi hz hsize hby hzs hsz base hbase v n xs hs hown A m c news hx hl hnews h1 h63 hbytes (fun v' w' a b c d=>hK _ _ (h v' w' a b c d))
end
section
variable {P:Program} {α:Type} {r:RepT α} (w:World)
end
end
section
open Go.RowKit
def NewD (B:Nat) (w:World):Nat→Prop:=fun k=>B≤k∧k<w.heap.size
def OwnC {α:Type} (r:RepT α) (e:TypeId) (C:Nat→Prop) (w:World) (v:Value) (l:List α):Prop:=
 ∃css,w.ownsRow 0 e r.size v l.length css.flatten∧Z32 (fun a cs=>r.rep C w a cs) l css∧∀k,v.ownBlock=some k→¬C k
theorem Z3q {w:World} {e:TypeId} {size n:Nat} {v:Value} {xs:List Value} (h:w.ownsRow 0 e size v n xs) : ∀k,v.ownBlock=some k→k<w.heap.size:=by
 intro k hk;rcases h.2 with ⟨rfl,_⟩ | ⟨g,cap,cur,rfl,_,hg,_⟩
 · cases hk
 · simp only [Value.ownBlock,Option.some.injEq] at hk
   subst hk;exact Blk.lt (t:=e) hg
section
variable {α:Type} {r:RepT α} {e:TypeId} {C C':Nat→Prop} {w w':World} {v:Value} {l:List α}
theorem OwnC.nil (r:RepT α) (e:TypeId) (C:Nat→Prop) (w:World):OwnC r e C w (.slice none 0 0) []:=⟨[],⟨by simp,.inl ⟨rfl,rfl⟩⟩,.nil,fun _ h=>by cases h⟩
theorem OwnC.form (h:OwnC r e C w v l) : ∃A c,v = .slice A l.length c∧l.length≤c∧c≤maxLen∧AIn A (fun j=>j<w.heap.size∧¬C j):=by
 obtain ⟨css,hown,_,hC⟩:=h;have hlt:=Z3q hown;obtain ⟨A,c,rfl,h1,h2,_⟩:=Z0z hown;exact ⟨A,c,rfl,h1,h2,fun a ha=>by subst ha;exact ⟨hlt _ rfl,hC _ rfl⟩⟩
theorem OwnC.lt (h:OwnC r e C w v l) : ∀k,v.ownBlock=some k→k<w.heap.size:=by
 obtain ⟨css,hown,_⟩:=h;exact Z3q hown
theorem OwnC.off (h:OwnC r e C w v l) : ∀k,v.ownBlock=some k→¬C k:=by
 obtain ⟨_,_,_,h⟩:=h;exact h
theorem OwnC.keep (h:OwnC r e C w v l) (hs:w.heap.size≤w'.heap.size) (hk : ∀k,C k→k<w.heap.size→C' k∧w'.heap[k]? = w.heap[k]?) (hv : ∀k,v.ownBlock=some k→w'.heap[k]? = w.heap[k]?∧¬C' k):OwnC r e C' w' v l:=by
 obtain ⟨css,hown,he,hC⟩:=h;refine ⟨css,⟨hown.1,hown.2.imp id fun ⟨g,cap,cur,hv',h0,hg,hr⟩=>⟨g,cap,cur,hv',h0,(hv g (by rw [hv'];rfl)).1.trans hg,hr⟩⟩,he.imp fun a cs hr=>r.keep hs hk hr,fun k hk=>(hv k hk).2⟩
theorem OwnC.new_ (h:OwnC r e C w v l) (hb:Below w.heap.size w w'):OwnC r e C w' v l:=
 h.keep hb.size (fun k hk hl=>⟨hk,hb.block k hl⟩) (fun k hk=>⟨hb.block k (h.lt k hk),h.off k hk⟩)
theorem OwnC.plus (h:OwnC r e C w v l) (hb:Below w.heap.size w w'):OwnC r e (Plus C w w') w' v l:=
 h.keep hb.size (fun k hk hl=>⟨.inl hk,hb.block k hl⟩) (fun k hk=>⟨hb.block k (h.lt k hk),fun hp=>hp.elim (h.off k hk) (fun hp=>by have:=h.lt k hk;omega)⟩)
theorem OwnC.fr {M:Nat→Prop} (h:OwnC r e C w v l) (hF:Fr M w w') (hC : ∀k,C k→¬M k) (hv : ∀k,v.ownBlock=some k→¬M k):OwnC r e C w' v l:=
 h.keep hF.size (fun k hk hl=>⟨hk,hF.block k hl (hC k hk)⟩) (fun k hk=>⟨hF.block k (h.lt k hk) (hv k hk),h.off k hk⟩)
theorem OwnC.row {A:Option Addr} {n c:Nat} (h:OwnC r e C w (.slice A n c) l) (hC : ∀k,C k→C' k) (hA:AIn A C'):RowR r C' w A c l:=by
 obtain ⟨A',c',hv,h1,h2,_⟩:=h.form;injection hv with hA' hn hc;subst hA';subst hc;obtain ⟨css,hown,he,_⟩:=h;refine ⟨h1,h2,fun h0=>?_⟩
 have hsz : ∀cs∈css,cs.length=r.size:=fun cs hcs=>by
  obtain ⟨k,hk,rfl⟩:=List.getElem_of_mem hcs;obtain ⟨_,h3⟩:=he.get k (by rw [he.length];exact hk);exact r.len h3
 rcases hown.2 with ⟨hv,hn0⟩ | ⟨g,cap,cur,hv,_,hg,hn2,hc2,hs2,ht⟩
 · omega
 · injection hv with hA' _ hc
   subst hA';have hgl:g<w.heap.size:=Blk.lt (t:=e) hg;refine ⟨g,0,rfl,hA _ rfl,hgl,fun k hk=>?_⟩;obtain ⟨hk2,hrep⟩:=he.get k hk;refine ⟨css[k],r.keep (Zo0 _) (fun j hj _=>⟨hC j hj,rfl⟩) hrep,fun j u hu=>?_⟩;(have hj:j<r.size:=by rw [← r.len hrep];exact (Zoh.1 hu).1);have hf:=Z8i css hsz k hk2 j hj;rw [hu,← ht] at hf;rw [Zov,Blk.cell (t:=e) hg]
   have hlt:k*r.size+j<l.length*r.size:=by
    have:(k+1)*r.size≤l.length*r.size:=Nat.mul_le_mul_right _ hk;rw [Nat.add_mul] at this;omega
   rw [List.getElem?_take_of_lt hlt] at hf;rw [← hf];simp
theorem OwnC.grown {v':Value} {l2:List α} {css css2:List (List Value)} (he:Z32 (fun a cs=>r.rep C w a cs) l css) (hC : ∀k,v.ownBlock=some k→¬C k) (hCl : ∀k,C k→k<w.heap.size)
 (hown:w'.ownsRow 0 e r.size v' (l++l2).length (css.flatten++css2.flatten)) (hg:w.grownBy w' v.ownBlock)
 (hv:v'.ownBlock=v.ownBlock∨v'.ownBlock=some w.heap.size) (he2:Z32 (fun a cs=>r.rep C w a cs) l2 css2):OwnC r e C w' v' (l++l2):=by
 have up : ∀a cs,r.rep C w a cs→r.rep C w' a cs:=fun a cs hr=>r.keep hg.size (fun k hd hl=>⟨hd,hg.block k hl (fun hk=>hC k hk.symm hd)⟩) hr;refine ⟨css++css2,by rw [List.flatten_append];exact hown,(he.imp up).append (he2.imp up),fun k hk=>?_⟩;rcases hv with hv | hv
 · exact hC k (hv ▸ hk)
 · rw [hv] at hk;injection hk with hk;intro h;have:=hCl k h;omega
theorem Zhb {l2:List α} {css2:List (List Value)} {D:Nat→Prop} {m:Nat} (hm:m=l2.length) (he2:Z32 (fun a cs=>r.rep D w a cs) l2 css2):css2.flatten.length=m*r.size:=by
 have hall : ∀cs∈css2,cs.length=r.size:=fun cs hcs=>by
  obtain ⟨k,hk,rfl⟩:=List.getElem_of_mem hcs;obtain ⟨_,h3⟩:=he2.get k (by rw [he2.length];exact hk);exact r.len h3
 rw [hm,he2.length,List.length_flatten,List.map_congr_left hall];exact Zce _ _
theorem Zk0 (cs:List Value) : [cs].flatten=cs:=by simp
end
def Z81 {α:Type} (r:RepT α) (e:TypeId) (C:Nat→Prop) (w:World) (v:Value) (l:List α) (v':Value) (w':World):Prop:=
 OwnC r e C w' v' l∧w.grownBy w' v.ownBlock∧(v'.ownBlock=v.ownBlock∨v'.ownBlock=some w.heap.size)
section
variable {P:Program} {α:Type} {r:RepT α} (w:World)
theorem Z5r {ops:Array Oper} {rest:List Oper} {o:Oper} {a:Act} {Q:Exit→Act→World→Prop} (hgd:o.guard=none) (s x:Operand) (t:TypeId)
 (ho:o.op = .call { callee:=.builtin .append,args:=#[s,x],argTypes:=#[t,t] })
 (e:TypeId) (i:TypeInfo) (z:Value) (size bytes:Nat) (ht:P.underlying t=some (.slice e)) (hi:P.info? e=some i) (hz:i.zero=some z)
 (hsize:i.size=size) (hby:i.bytes=bytes) (hzs:z.cells.size=size) (hrs:r.size=size) (hsz:0<size)
 (C:Nat→Prop) (hCl : ∀k,C k→k<w.heap.size) (v:Value) (l:List α) (hs:a.eval s=v) (hown:OwnC r e C w v l)
 (ad:Addr) (c:Nat) (y:α) (cs:List Value) (hx:a.eval x = .slice (some ad) 1 c)
 (hnews : ∀j u,cs[j]? = some u→w.cell? (ad.add j)=some u) (h1 : ∀u∈cs,u.oneCell'=true)
 (he2:r.rep C w y cs)
 (h63:l.length+1≤maxLen) (hbytes:(l.length+1)*bytes≤140737488355328)
 (h : ∀v' w',Z81 r e C w v (l ++ [y]) v' w'→wpList P ops Q rest (a.put o.dst v') w') :
 wpList P ops Q (o :: rest) a w:=by
 obtain ⟨css,h2,h3,h4⟩:=hown;subst hrs;have he3:Z32 (fun a cs=>r.rep C w a cs) [y] [cs]:=.cons he2 .nil;refine Z72 w hgd s x t ho e i z r.size bytes ht hi hz hsize hby hzs hsz 0 (Nat.zero_le _) v l.length _ hs h2 (some ad) 1 c [cs].flatten hx (Zhb (l2:=[y]) rfl he3) (fun _=>⟨ad,rfl,by rw [Zk0];exact hnews⟩) (by rw [Zk0];exact h1) h63 hbytes (fun v' w' g1 g2 g3 g4=>h v' w' ⟨?_,g2,g4⟩);exact OwnC.grown h3 h4 hCl (by rw [Zoi];exact g1) g2 g4 he3
theorem Zaq {ops:Array Oper} {o:Oper} {a:Act} {K:Act→World→Prop} {Q:Exit→Act→World→Prop} {E:Prop} (hgd:o.guard=none) (s x:Operand) (t:TypeId)
 (ho:o.op = .call { callee:=.builtin .append,args:=#[s,x],argTypes:=#[t,t] })
 (e:TypeId) (i:TypeInfo) (z:Value) (size bytes:Nat) (ht:P.underlying t=some (.slice e)) (hi:P.info? e=some i) (hz:i.zero=some z)
 (hsize:i.size=size) (hby:i.bytes=bytes) (hzs:z.cells.size=size) (hrs:r.size=size) (hsz:0<size)
 (C:Nat→Prop) (hCl : ∀k,C k→k<w.heap.size) (v:Value) (l:List α) (hs:a.eval s=v) (hown:OwnC r e C w v l)
 (ad:Addr) (c:Nat) (y:α) (cs:List Value) (hx:a.eval x = .slice (some ad) 1 c)
 (hnews : ∀j u,cs[j]? = some u→w.cell? (ad.add j)=some u) (h1 : ∀u∈cs,u.oneCell'=true)
 (he2:r.rep C w y cs)
 (h63:l.length+1≤maxLen) (hbytes:(l.length+1)*bytes≤140737488355328)
 (h : ∀v' w',Z81 r e C w v (l ++ [y]) v' w'→K (a.put o.dst v') w') :
 if Region.wanted o (yielded ops a.tmps)=true then Oper.wp P o a w K Q else E:=by
 obtain ⟨css,h2,h3,h4⟩:=hown;subst hrs;have he3:Z32 (fun a cs=>r.rep C w a cs) [y] [cs]:=.cons he2 .nil;refine Z80 w hgd s x t ho e i z r.size bytes ht hi hz hsize hby hzs hsz 0 (Nat.zero_le _) v l.length _ hs h2 (some ad) 1 c [cs].flatten hx (Zhb (l2:=[y]) rfl he3) (fun _=>⟨ad,rfl,by rw [Zk0];exact hnews⟩) (by rw [Zk0];exact h1) h63 hbytes (fun v' w' g1 g2 g3 g4=>h v' w' ⟨?_,g2,g4⟩);exact OwnC.grown h3 h4 hCl (by rw [Zoi];exact g1) g2 g4 he3
end
end
section
open Go.RowKit
def Int.cells1 (n:Int):List Value:=[.int .i64 n]
theorem Int.cells1_length (n:Int):(Int.cells1 n).length=1:=rfl
theorem Za3:(Tryz.prog.info? 23).map (fun i=>(i.zero,i.size,i.bytes))=some (some (.agg #[.int .i64 0,.string ⟨#[]⟩,.int .i64 0]),3,32):=by kernel_rfl
theorem Zd5 (l:List Sym) : ∀u∈l.flatMap Sym.cells,u.oneCell'=true:=by
 intro u hu;obtain ⟨b,_,hb⟩:=List.mem_flatMap.1 hu;simp only [Sym.cells,Zoj,Zoq,or_false] at hb;rcases hb with rfl | rfl | rfl<;>rfl
theorem Zk8:(Tryz.prog.info? 176).map (fun i=>(i.zero,i.size,i.bytes))=some (some (.agg #[.string ⟨#[]⟩,.int .i64 0,.string ⟨#[]⟩,.int .i64 0]),4,48):=by kernel_rfl
theorem Zkv (l:List Z59) : ∀u∈l.flatMap Z59.cells,u.oneCell'=true:=by
 intro u hu;obtain ⟨b,_,hb⟩:=List.mem_flatMap.1 hu;simp only [Z59.cells,Zoj,Zoq,or_false] at hb;rcases hb with rfl | rfl | rfl | rfl<;>rfl
theorem Zbg:(Tryz.prog.info? 57).map (fun i=>(i.zero,i.size,i.bytes))=some (some (.agg #[.int .i64 0,.string ⟨#[]⟩,.int .i64 0,.int .i64 0,.string ⟨#[]⟩,.int .i64 0,.int .i64 0,.string ⟨#[]⟩,.int .i64 0,.bool false,.bool false,.int .i64 0,.int .i64 0,.int .i64 0]),14,128):=by kernel_rfl
theorem Zbz (l:List Z0e) : ∀u∈l.flatMap Z0e.cells,u.oneCell'=true:=by
 intro u hu;obtain ⟨b,_,hb⟩:=List.mem_flatMap.1 hu;simp only [Z0e.cells,Zoj,Zoq,or_false] at hb;rcases hb with rfl | rfl | rfl | rfl | rfl | rfl | rfl | rfl | rfl | rfl | rfl | rfl | rfl | rfl<;>rfl
theorem Zbf:(Tryz.prog.info? 34).map (fun i=>(i.zero,i.size,i.bytes))=some (some (.agg #[.int .i64 0,.string ⟨#[]⟩,.int .i64 0,.int .i64 0,.string ⟨#[]⟩,.int .i64 0,.int .i64 0]),7,72):=by kernel_rfl
theorem Zbx (l:List Z1i) : ∀u∈l.flatMap Z1i.cells,u.oneCell'=true:=by
 intro u hu;obtain ⟨b,_,hb⟩:=List.mem_flatMap.1 hu;simp only [Z1i.cells,Zoj,Zoq,or_false] at hb;rcases hb with rfl | rfl | rfl | rfl | rfl | rfl | rfl<;>rfl
theorem Zm4:(Tryz.prog.info? 80).map (fun i=>(i.zero,i.size,i.bytes))=some (some (.agg #[.string ⟨#[]⟩,.string ⟨#[]⟩,.int .i64 0,.string ⟨#[]⟩,.int .i64 0,.int .i64 0,.string ⟨#[]⟩,.int .i64 0,.string ⟨#[]⟩,.int .i64 0,.string ⟨#[]⟩,.int .i64 0,.string ⟨#[]⟩,.int .i64 0,.int .i64 0,.string ⟨#[]⟩,.int .i64 0,.string ⟨#[]⟩,.int .i64 0]),19,224):=by kernel_rfl
theorem Zmp (l:List ActT) : ∀u∈l.flatMap ActT.cells,u.oneCell'=true:=by
 intro u hu;obtain ⟨b,_,hb⟩:=List.mem_flatMap.1 hu;simp only [ActT.cells,Zoj,Zoq,or_false] at hb;rcases hb with rfl | rfl | rfl | rfl | rfl | rfl | rfl | rfl | rfl | rfl | rfl | rfl | rfl | rfl | rfl | rfl | rfl | rfl | rfl<;>rfl
theorem Z7j:(Tryz.prog.info? 3).map (fun i=>(i.zero,i.size,i.bytes))=some (some (.int .i64 0),1,8):=by kernel_rfl
theorem Z7m (l:List Int) : ∀u∈l.flatMap Int.cells1,u.oneCell'=true:=by
 intro u hu;obtain ⟨b,_,hb⟩:=List.mem_flatMap.1 hu;simp only [Int.cells1,Zoj,Zoq,or_false] at hb;subst hb;rfl
theorem Zka:(Tryz.prog.info? 142).map (fun i=>(i.zero,i.size,i.bytes))=some (some (.agg #[.int .i64 0,.string ⟨#[]⟩,.int .i64 0,.string ⟨#[]⟩,.int .i64 0,.slice none 0 0]),6,80):=by kernel_rfl
theorem Zk9:(Tryz.prog.info? 62).map (fun i=>(i.zero,i.size,i.bytes))=some (some (.agg #[.int .i64 0,.bool false,.string ⟨#[]⟩,.slice none 0 0,.slice none 0 0,.bool false,.slice none 0 0]),7,112):=by kernel_rfl
theorem Ze7:(Tryz.prog.info? 134).map (fun i=>(i.zero,i.size,i.bytes))=some (some (.agg #[.int .i64 0,.bool false,.string ⟨#[]⟩,.slice none 0 0,.slice none 0 0,.bool false,.slice none 0 0,.slice none 0 0]),8,136):=by kernel_rfl
theorem infp {P:Program} {t:TypeId} {z:Value} {s b:Nat} (h:(P.info? t).map (fun i=>(i.zero,i.size,i.bytes))=some (some z,s,b)) : ∃i,P.info? t=some i∧i.zero=some z∧i.size=s∧i.bytes=b:=by
 cases hq:P.info? t with
 | none=>rw [hq] at h;cases h
 | some i=>
   rw [hq] at h;simp only [Zoc,Option.some.injEq,Prod.mk.injEq] at h;exact ⟨i,rfl,h.1,h.2.1,h.2.2⟩
end
end Go.Proofs.YtldndkngpdfpfaaGreat
