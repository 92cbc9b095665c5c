/-
  Texts put together: VaryWk, RefRise, LrnCk, LrnBd1, XRm, Alike, XSame, XAlways, XGoals, XLs.
-/
import Derived.Test.YtcnnofgaifcgaaaGreatPTq
namespace Go.Proofs.YtcnnofgaifcgaaaGreat
set_option maxRecDepth 100000
set_option maxHeartbeats 32000000
set_option linter.unusedSimpArgs false
section
open Go.RowKit Go.Shelf
theorem Blk.setAllD {w:World}{g:Nat}{t:TypeId}{cs:Array Value}{vs:List Value}(h:Blk w g t cs) (hl:cs.size=vs.length):Blk (w.setCells g 0 vs) g t vs.toArray:=by
 exact Y7o
theorem Zel {α:Type}{w:World}{cells:α→List Value}{size g:Nat}{t:TypeId}{l:List α}{cs:Array Value}(hb:Blk w g t cs) (hc:cs=(l.flatMap cells).toArray) (hsz :∀x,(cells x).length=size) (hm:l.length≤maxLen){n:Nat}(hn:n=l.length):Z0y w size cells (some ⟨g,0,none⟩) n l:=by
 subst hn;refine Z0y.of_cells (Zsu _) hm hb.lt (fun k hk j u hu=>?_);(have hj:j<size:=by have:=(Ztp.1 hu).1;rwa [hsz] at this);rw [hb.cell,Zts,hc,←hu,←Z5z hsz l k hk j hj];simp
theorem Zqb (t:ByteArray)(w:World):Calls Tryz.prog 14 #[.string t] w fun e w'=>e = .returned (.agg #[.int .i64 3,.string t,.int .i64 0])∧Below w.heap.size w w':=by
 go_enter Tryz.func14,Tryz.ntmps14;go_wp2_with fail;exact bodyPost_ret (v:=.agg #[.int .i64 3,.string t,.int .i64 0]) (by simp [results,Tryz.results14,go_sem]) rfl ⟨rfl,Yf⟩
theorem Zqa (n:Int)(w:World):Calls Tryz.prog 15 #[.int .i64 n] w fun e w'=>e = .returned (.agg #[.int .i64 2,.string ⟨#[]⟩,.int .i64 n])∧Below w.heap.size w w':=by
 go_enter Tryz.func15,Tryz.ntmps15;go_wp2_with fail;exact bodyPost_ret (v:=.agg #[.int .i64 2,.string ⟨#[]⟩,.int .i64 n]) (by simp [results,Tryz.results15,go_sem]) rfl ⟨rfl,Yf⟩
theorem Zsi (t:ByteArray) (n:Int)(w:World):Calls Tryz.prog 13 #[.string t,.int .i64 n] w fun e w'=>e = .returned (.agg #[.int .i64 1,.string t,.int .i64 n])∧Below w.heap.size w w':=by
 go_enter Tryz.func13,Tryz.ntmps13;go_wp2_with fail;exact bodyPost_ret (v:=.agg #[.int .i64 1,.string t,.int .i64 n]) (by simp [results,Tryz.results13,go_sem]) rfl ⟨rfl,Yf⟩
end
section
open Go.RowKit Go.Shelf
attribute [local go_sem] Oper.semAt_some
theorem Zal.new_ {gf:Nat}{lb:Array Value}{w w':World}{old:Sym→Bool}(h:Zal gf lb w old) (hb:Below w.heap.size w w'):Zal gf lb w' old:=⟨h.ent,fun s W hW=>h.call s W (hb.trans (hW.mono hb.size))⟩
abbrev Zmr:RepT Int:=RepT.flat 1 Int.cells1 Int.cells1_length
theorem Zsr {w:World}{A:Option Addr}{c B:Nat}{l:List Int}(h:Z0y w 1 Int.cells1 A c l) (hA:AIn A (B≤·)):RowR Zmr (fun k=>B≤k∧k<w.heap.size) w A c l:=by
 refine ⟨h.1,h.2.1,fun h0=>?_⟩;obtain ⟨b,off,jw,hb,hc⟩:=h.2.2 h0;exact ⟨b,off,jw,⟨hA _ jw,hb⟩,hb,fun k hk=>⟨_,rfl,fun j u hu=>hc k hk j u hu⟩⟩
def PU (m:Nat) (r:Option (Z3r×List Int)) (B:Nat) (D:Nat→Prop) (w':World) (nm:ByteArray) (A1:Option Addr) (n1 c1:Nat) (A2:Option Addr) (n2 c2:Nat) (A3:Option Addr) (n3 c3:Nat):Prop:=
 match r with
 | none=>True
 | some (p,tags)=>nm=p.name∧n1=p.conds.length∧n2=p.acts.length∧n3=tags.length∧RowR (Z09 (m+1)) D w' A1 c1 p.conds∧RowR Z1x D w' A2 c2 p.acts∧RowR Zmr D w' A3 c3 tags∧AIn A3 (B≤·)
theorem PU.keep {m B:Nat}{r:Option (Z3r×List Int)}{D D':Nat→Prop}{w w':World}{nm:ByteArray}{A1:Option Addr}{n1 c1:Nat}{A2:Option Addr}{n2 c2:Nat}{A3:Option Addr}{n3 c3:Nat}(h:PU m r B D w nm A1 n1 c1 A2 n2 c2 A3 n3 c3) (hs:w.heap.size≤w'.heap.size) (hk :∀k,D k→k<w.heap.size→D' k∧w'.heap[k]? = w.heap[k]?):PU m r B D' w' nm A1 n1 c1 A2 n2 c2 A3 n3 c3:=by
 cases r with
 | none=>trivial
 | some pt=>exact ⟨h.1,h.2.1,h.2.2.1,h.2.2.2.1,h.2.2.2.2.1.keep hs hk,h.2.2.2.2.2.1.keep hs hk,h.2.2.2.2.2.2.1.keep hs hk,h.2.2.2.2.2.2.2⟩
theorem Zpk {m:Nat}{r:Option (Z3r×List Int)}{X w':World}{e:Ending}(h:Z4o m r X e w'):Below X.heap.size X w'∧∃nm A1 n1 c1 A2 n2 c2 A3 n3 c3,e = .returned (.tuple #[.agg #[.string nm,.slice A1 n1 c1,.slice A2 n2 c2],.slice A3 n3 c3,.bool r.isSome])∧PU m r X.heap.size (fun k=>X.heap.size≤k∧k<w'.heap.size) w' nm A1 n1 c1 A2 n2 c2 A3 n3 c3:=by
 obtain ⟨hb,h⟩:=h
 cases r with
 | none=>exact ⟨hb,_,none,0,0,none,0,0,none,0,0,h,trivial⟩
 | some pt=>
   obtain ⟨p,tags⟩:=pt;obtain ⟨A1,c1,A2,c2,A3,c3,he,h1,h2,h3,h4⟩:=h;exact ⟨hb,p.name,A1,_,c1,A2,_,c2,A3,_,c3,he,rfl,rfl,rfl,rfl,h1,h2,Zsr h3 h4,h4⟩
theorem PU.prodTo {m B:Nat}{r:Option (Z3r×List Int)}{D:Nat→Prop}{X w w':World}{nm:ByteArray}{A1:Option Addr}{n1 c1:Nat}{A2:Option Addr}{n2 c2:Nat}{A3:Option Addr}{n3 c3:Nat}(h:PU m r B D w nm A1 n1 c1 A2 n2 c2 A3 n3 c3) (hr:r.isSome=true) (hB:X.heap.size≤B) (hb:Below X.heap.size X w') (hs:w.heap.size≤w'.heap.size) (hk :∀k,D k→k<w.heap.size→X.heap.size≤k∧w'.heap[k]? = w.heap[k]?) :
 Z4o m r X (.returned (.tuple #[.agg #[.string nm,.slice A1 n1 c1,.slice A2 n2 c2],.slice A3 n3 c3,.bool true])) w':=by
 cases r with
 | none=>cases hr
 | some pt=>
   obtain ⟨p,tags⟩:=pt;obtain ⟨rfl,rfl,rfl,rfl,h1,h2,h3,h4⟩:=h;have L5 :∀k,D k→k<w.heap.size→(X.heap.size≤k∧k<w'.heap.size)∧w'.heap[k]? = w.heap[k]?:=fun k h1 h2=>⟨⟨(hk k h1 h2).1,Ya⟩,(hk k h1 h2).2⟩;exact ⟨hb,A1,c1,A2,c2,A3,c3,rfl,h1.keep hs L5,h2.keep hs L5,RowR.rd (hs:=Int.cells1_length) (h3.keep hs L5),fun a ha=>Zt6 hB (h4 a ha)⟩
end
section
open Go.RowKit Go.Shelf
def Ze8 (l:List Int) (k:Int):List Int:=if k∈l then l else l ++ [k]
def Z3q (l:List Z24):List Int:=(l.map Z24.by_).foldl Ze8 []
theorem Zax {l:List Z24}{k:Nat}(h:k<l.length):Z3q (l.take (k+1))=Ze8 (Z3q (l.take k)) l[k].by_:=by
 unfold Z3q;rw [Ztq,Zt3 h,Ztm,List.foldl_append];rfl
theorem Zkr :∀(l:List Z24),(Z3q l).length≤l.length:=by
 have :∀(l:List Int) (a:List Int),(l.foldl Ze8 a).length≤a.length+l.length:=fun l=>by
  induction l with
  | nil=>intro a;exact Zsu _
  | cons x l ih=>
    intro a;have:=ih (Ze8 a x);(have h2:(Ze8 a x).length≤a.length+1:=by unfold Ze8;split<;>simp);rw [List.foldl_cons,Ztg];omega
 intro l;have:=this (l.map Z24.by_) [];rw [Ztl] at this;unfold Z3q;exact Yuu
theorem Zom {m:List PgL}(hs:Srt Z0d m) (x z:PgL):has Z0d (put Z0d m x) z=(has Z0d m z ||decide (x.kk=z.kk)):=by
 by_cases hx:has Z0d m x=true
 · rw [Z47 hx]
   by_cases h:x.kk=z.kk
   · obtain ⟨u,hu,e⟩:=Z46.1 hx
     rw [show has Z0d m z=true from Z46.2 ⟨u,hu,Z2g.2 ((Z2g.1 e).trans h)⟩];rfl
   · simp [h]
 · have hx:has Z0d m x=false:=by simpa using hx
   rw [Z6b Z3z hs hx];unfold has
   conv=>rhs;rw [←List.take_append_drop (rank Z0d m x) m]
   simp only [List.any_append,List.any_cons]
   have e:(Z0d x z == 0)=decide (x.kk=z.kk):=by
    by_cases h:x.kk=z.kk
    · rw [show Z0d x z=0 from Z2g.2 h];simp [h]
    · have :¬Z0d x z=0:=fun e=>h (Z2g.1 e)
      simp [h,this]
   rw [e,←Bool.or_assoc,Bool.or_right_comm]
structure BS (X:World) (b14 bm bp:Nat) (bys:List Int) (Ab:Option Addr) (cb:Nat) (sn:Bool) (Am:Option Addr) (cm:Nat) (m:List PgL) (w:World):Prop where
 box:Blk w b14 38 Q2y
 bx:X.heap.size≤b14
 own:w.ownsRow 0 3 1 (.slice Ab bys.length cb) bys.length (bys.flatMap Int.cells1)
 oa:AIn Ab (X.heap.size≤·)
 mb:Blk w bm 88 #[.pointer (some ⟨bp,0,none⟩)]
 st:Z2r w bp sn Am cm m
 bge:X.heap.size≤bp
 am:AIn Am (X.heap.size≤·)
 srt:Srt Z0d m
 hs :∀z,has Z0d m z=decide (z.kk∈bys)
 bel:Below X.heap.size X w
section
variable {X w w':World}{b14 bm bp:Nat}{bys:List Int}{Ab:Option Addr}{cb:Nat}{sn sn':Bool}{Am Am':Option Addr}{cm cm':Nat}{m m':List PgL}
theorem BS.new_ (h:BS X b14 bm bp bys Ab cb sn Am cm m w) (hb:Below w.heap.size w w'):BS X b14 bm bp bys Ab cb sn Am cm m w':=
 ⟨h.box.new_ hb,h.bx,Z02 h.own hb,h.oa,h.mb.new_ hb,h.st.new_ hb,h.bge,h.am,h.srt,h.hs,h.bel.trans (hb.mono h.bel.size)⟩
theorem BS.off (h:BS X b14 bm bp bys Ab cb sn Am cm m w){b:Nat}{t:TypeId}{cs:Array Value}(hb:Blk w b t cs) (n1:t≠130) (n2:t≠86):¬Z0w bp sn Am b:=by
 rintro (e|⟨_,a,ha,e⟩)
 · exact hb.ne_ h.st.blk n1 e
 · exact Z01 h.st.row hb (Ne.symm n2) YVi
structure BP (X:World) (b14 bm bp:Nat) (bys:List Int) (Ab:Option Addr) (cb:Nat) (sn:Bool) (Am:Option Addr) (cm:Nat) (m:List PgL) (w:World):Prop where
 box:Blk w b14 38 Q2y
 own:w.ownsRow 0 3 1 (.slice Ab bys.length cb) bys.length (bys.flatMap Int.cells1)
 mb:Blk w bm 88 #[.pointer (some ⟨bp,0,none⟩)]
 st:Z2r w bp sn Am cm m
 am:AIn Am (X.heap.size≤·)
 srt:Srt Z0d m
 bel:Below X.heap.size X w
theorem BS.put (h:BS X b14 bm bp bys Ab cb sn Am cm m w) (hS:Z2r w' bp sn' Am' cm' m') (hs:Srt Z0d m') (hF:Fr (Z0w bp sn Am) w w') (hm:Z1w w sn Am sn' Am'):BP X b14 bm bp bys Ab cb sn' Am' cm' m' w':=by
 refine ⟨h.box.fr hF (h.off h.box Yc Yc),Z0s h.own hF (fun g hg hm=>?_),h.mb.fr hF (h.off h.mb Yc Yc),hS,fun a ha=>?_,hs,h.bel.trans (hF.below h.bel.size (fun k hk hm=>?_))⟩
 · rcases hm with e|⟨_,a,ha,e⟩
   · exact Z01 h.own h.st.blk Yc (by rw [hg,e])
   · exact Z1p h.own h.st.row Yc hg YBr
 · rcases hm with ⟨_,rfl⟩|⟨_,g,hg,rfl⟩
   · exact h.am a ha
   · injection ha with ha;subst ha;exact Zt6 h.bel.size hg
 · rcases hm with e|⟨_,a,ha,e⟩
   · have:=h.bge;omega
   · have:X.heap.size≤a.block:=h.am a ha;omega
theorem BP.same (h:BP X b14 bm bp bys Ab cb sn Am cm m w) (h0:BS X b14 bm bp bys Ab cb sn' Am' cm' m' w') (hs :∀z,has Z0d m z=decide (z.kk∈bys)):BS X b14 bm bp bys Ab cb sn Am cm m w:=
 ⟨h.box,h0.bx,h.own,h0.oa,h.mb,h.st,h0.bge,h.am,h.srt,hs,h.bel⟩
theorem BP.app {W w0:World}{t:Int}{v:Value}(h:BP X b14 bm bp bys Ab cb sn Am cm m w) (hb:Below w.heap.size w W) (h0:BS X b14 bm bp bys Ab cb sn' Am' cm' m' w0) (hs :∀z,has Z0d m z=decide (z.kk∈bys ++ [t])) (hown:w'.ownsRow 0 3 1 v (bys.length+1) (bys.flatMap Int.cells1 ++ [t].flatMap Int.cells1))
 (hg:W.grownBy w' (Value.slice Ab bys.length cb).ownBlock) (hat:v.ownBlock=(Value.slice Ab bys.length cb).ownBlock∨v.ownBlock=some W.heap.size):∃A' c',v = .slice A' (bys ++ [t]).length c'∧BS X b14 bm bp (bys ++ [t]) A' c' sn Am cm m w':=by
 obtain ⟨A',c',rfl,hF,hA,hO⟩:=Z2h (E:=fun j=>∃a,Ab=some a∧a.block=j) (fun a ha=>⟨a,ha,rfl⟩) hown hg hat;have e2:(bys ++ [t]).length=bys.length+1:=Ye;have U9:=h.bel.trans (hb.mono h.bel.size);have ho:=Z02 h.own hb
 have nB :∀{b:Nat}{t:TypeId}{cs:Array Value},Blk w b t cs→t≠3→¬(∃a,Ab=some a∧a.block=b):=by
  rintro b t cs hg n1 ⟨a,ha,e⟩;exact Z01 h.own hg (Ne.symm n1) YBr
 have Ss:Z2r W bp sn Am cm m:=h.st.new_ hb;refine ⟨A',c',by rw [e2],(h.box.new_ hb).fr hF (nB h.box Yc),h0.bx,YEk,fun a ha=>?_,(h.mb.new_ hb).fr hF (nB h.mb Yc),Ss.fr hF (nB h.st.blk Yc) (fun a ha ⟨a2,h2,e⟩=>Z1p Ss.row ho Yc (k:=a.block) (by rw [ha];rfl) (by rw [h2];simp [Value.ownBlock,e])),h0.bge,h.am,h.srt,hs,U9.trans (hF.below U9.size (fun k hk ⟨a,ha,e⟩=>by have:X.heap.size≤a.block:=h0.oa a ha;omega))⟩;rcases hA a ha with ⟨b,hb2,e⟩|⟨h1,_⟩
 · show X.heap.size≤a.block
   rw [←e];exact h0.oa b hb2
 · exact Zt6 U9.size h1
end
structure Znq where
 kind:Int
 prod:Z3r
 tags:List Int
 trail:Z8y
def Zsj:Z8y:=⟨[],[],[],[],0,0⟩
def Zrq:Z3r:=⟨⟨#[]⟩,[],[]⟩
def Za3 (on:Bool) (r:Option (Z3r×List Int)) (T:Z8y):Znq:=
 if T.elems = [] then ⟨0,Zrq,[],T⟩
 else match (if on=true∧T.lost=0 then r else none) with
  | some z=>⟨1,z.1,z.2,T⟩
  | none=>⟨2,Zrq,T.elems.map (fun e=>e.elem.tag),T⟩
def Z5c (on:Bool) (r:Option (Z3r×List Int)) (recs:List Z0c) (lv:Int) (l:List Z24):Znq:=if l = [] then ⟨0,Zrq,[],Zsj⟩ else Za3 on r (Z3k recs lv (Z3q l))
def Zrr (n:Nat) (M:Znq) (X:World) (e:Ending) (w':World):Prop:=Below X.heap.size X w'∧∃A1 c1 A2 c2 A3 c3 B1 d1 B2 d2 B3 d3 B4 d4,e = .returned (.agg #[.int .i64 M.kind,.string M.prod.name,.slice A1 M.prod.conds.length c1,.slice A2 M.prod.acts.length c2,.slice A3 M.tags.length c3,.slice B1 M.trail.elems.length d1,.slice B2 M.trail.holes.length d2,.slice B3 M.trail.aparts.length d3,.slice B4 M.trail.news.length d4,.int .i64 (M.trail.visited:Nat),.int .i64 (M.trail.lost:Nat)])∧
 RowR (Z09 (n+1)) (fun k=>X.heap.size≤k∧k<w'.heap.size) w' A1 c1 M.prod.conds∧RowR Z1x (fun k=>X.heap.size≤k∧k<w'.heap.size) w' A2 c2 M.prod.acts∧Z0y w' 1 Int.cells1 A3 c3 M.tags∧AIn A3 (X.heap.size≤·)∧w'.ownsRow 0 52 14 (.slice B1 M.trail.elems.length d1) M.trail.elems.length (M.trail.elems.flatMap Z0j.cells)
def Zau (n:Nat) (T:Z8y) (w:World) (e:Ending) (w':World):Prop:=
 ∃A1 c1 A2 c2 A3 c3 A4 c4,e = .returned (.agg #[.slice A1 T.elems.length c1,.slice A2 T.holes.length c2,.slice A3 T.aparts.length c3,.slice A4 T.news.length c4,.int .i64 (T.visited:Nat),.int .i64 (T.lost:Nat)])∧
  Zqi n T (· < w'.heap.size) w' A1 c1 A2 c2 A3 c3 A4 c4∧Below w.heap.size w w'∧w'.ownsRow 0 52 14 (.slice A1 T.elems.length c1) T.elems.length (T.elems.flatMap Z0j.cells)
theorem Zor {n kb:Nat}{A Ai:Option Addr}{c ci:Nat}{l:List Z0c}(lv:Int){nums:List Int}(w:World) (hk:Blk w kb 22 #[.slice A l.length c]) (hr:RowR (Z18 n) (· < w.heap.size) w A c l) (h0:l.length≤20∧∀r∈l,SmR n r∧r.elems.length≤20) (hi:Z0y w 1 Int.cells1 Ai ci nums) (hn:nums.length≤100) :
 Calls Tryz.prog 19 #[.int .i64 lv,.slice Ai nums.length ci,.func (.func 21) #[] #[.pointer (some ⟨kb,0,none⟩)]] w (Zau n (Z3k l lv nums) w):=by
 have hf:=Zl1 n kb w.heap.size l A c w hk hr (fun r hr=>(h0.2 r hr).1) (Zsu _) hk.lt;have h1:=Zix (l:=l) h0.1 (fun r hr=>(h0.2 r hr).2) lv nums hn;refine (Zo0 hf (l.map Z0c.num) (Z8t l) (Zdt (Zpn n) (fun r hr=>(h0.2 r hr).1)) lv nums Ai ci (E0:=fun _=>False) w ⟨fun _ h=>h,Zst _ _,Zsu _⟩ (Zsu _) hi h1.1 h1.2).mono ?_;rintro e w' ⟨A1,c1,A2,c2,A3,c3,A4,c4,E',he,g1,g2,g3,g4,hG,_,_,ho⟩;exact ⟨A1,c1,A2,c2,A3,c3,A4,c4,he,⟨g1,g2,g3,g4⟩,hG.2.1,ho⟩
theorem Zn4 {α:Type}(f:α→Nat):∀(l:List α) (n:Nat),(∀x∈l,f x≤n)→(l.map f).sum≤l.length*n
 | [],n,_=>Ye
 | x :: l,n,h=>by
   have:=Zn4 f l n (fun y hy=>h y (by simp [hy]));have:=h x Ye;rw [List.map_cons,List.sum_cons,Ztg,Nat.add_mul];omega
theorem Zq4 {recs:List Z0c}{done:List Int}{p:KR}(h:p∈Z2v (Z3g recs) done):p.2∈recs:=by
 obtain ⟨_,h2,h3⟩:=Z9g h;rw [h3];exact (Za1 h2).1
theorem Zh7 {β:Type}{recs:List Z0c}(done:List Int) (g:Z0c→List β) (m:Nat) (h :∀r∈recs,(g r).length≤m):((Z2v (Z3g recs) done).flatMap fun p=>g p.2).length≤recs.length*m:=by
 rw [List.length_flatMap];have h1:=Zn4 (fun p:KR=>(g p.2).length) (Z2v (Z3g recs) done) m (fun p hp=>h _ (Zq4 hp));have h2:=Zmq (Z8t recs) done;rw [Ztl] at h2;exact Zt6 h1 (Nat.mul_le_mul_right m h2)
theorem Z7p {recs:List Z0c}{m:Nat}(h :∀r∈recs,r.elems.length≤m) (lv:Int) (nums:List Int):(Z3k recs lv nums).elems.length≤recs.length*m:=by
 have h1:=Z1e Zq8 ((Z2v (Z3g recs) (Z4l (Z3g recs) lv (recs.map Z0c.num) nums [])).flatMap fun p=>lows lv p.2) (l:=[]) Srt.nil
 have h2:=Zh7 (recs:=recs) (Z4l (Z3g recs) lv (recs.map Z0c.num) nums []) (lows lv) m (fun r hr=>by
  unfold lows;rw [Ztl]
  exact Zt6 (List.length_filter_le _ _) (h r hr))
 show (puts Z7u [] _).length≤_;simp only [Zu1] at h1;omega
end
section
open Go.RowKit
variable {P:Program}
def Zqg {α:Type}(P:Program) (gf:Nat) (lb:Array Value) (encs:α→Array Value→Prop) (xs:List α) (N:Nat→Prop) (W:World):Prop:=
 ∀(l:Nat) (M:Nat→Prop) (J Jx:List α→World→Prop),(∀k,M k→k<W.heap.size∧¬N k)→(∀p X Y,J p X→Below X.heap.size X Y→J p Y)→(∀p X Y,Jx p X→Below X.heap.size X Y→Jx p Y)→J [] W→
  (∀pre x post W1 v,xs=pre++x :: post→encs x v→J pre W1→YieldAt Fence.wide 0 P l v W1 fun e W'=>
    (e = .returned (.bool true)∧J (pre ++ [x]) W'∧Fr M W1 W')∨(e = .returned (.bool false)∧Jx (pre ++ [x]) W'∧Fr M W1 W'))→
  CallsIn Fence.wide 0 P gf (#[.func (.yield l) #[] #[]]++lb) W fun e W'=>(∃v,e = .returned v)∧(J xs W'∨∃pre post,xs=pre++post∧Jx pre W')
def Zsb {α:Type}(M:Nat→Prop) (I:List α→World→Prop) (Ix:Code→List α→World→Prop) (p:List α) (W:World):Exit→Act→World→Prop
 | .normal,_,W'=>Fr M W W'∧I p W'
 | .ret,_,W'=>Fr M W W'∧Ix .ret p W'
 | .exit id,_,W'=>Fr M W W'∧Ix (.exit id) p W'
 | .goto t,_,W'=>Fr M W W'∧Ix (.goto t) p W'
 | .panic _,_,_=>False
 | .outgrown,_,_=>False
theorem Zgt {α:Type}{g:Operand}{ps:Array Tmp}{assign body:Code}{Q:Exit→Act→World→Prop}{a:Act}{w:World}{gf:Nat}{lb:Array Value}
 (hg:a.eval g = .func (.func gf) #[] lb) (eg :∀args w,(callFunc gf args).run P w = .ok (.enter gf args) w)
 {encs:α→Array Value→Prop}{xs:List α}{M N:Nat→Prop}(hM :∀k,M k→k<w.heap.size∧¬N k) (hN :∀k,N k→k<w.heap.size) (hseq :∀W,Below w.heap.size w W→Zqg P gf lb encs xs N W)
 (hps :∀x v,encs x v→v.size=ps.size)
 (I:List α→World→Prop) (Ix:Code→List α→World→Prop) (hI :∀p X Y,I p X→Fr (w.heap.size≤·) X Y→I p Y) (hIx :∀c p X Y,Ix c p X→Fr (w.heap.size≤·) X Y→Ix c p Y)
 (h0:I [] w)
 (hround :∀(l:Nat) (pre:List α) (x:α) (post:List α) (W:World) (v:Array Value),xs=pre++x :: post→encs x v→w.heap.size≤l→l<W.heap.size→I pre W→
   assign.wpIn (Fence.wide.inRound l) 0 P (Exit.then (fun a1 W1=>Fr M W W1∧∀W2,Fr (· = l) W1 W2→W2.heap.size=W1.heap.size→(∃r,W2.heap[l]? = some (.loop r))→
    body.wpIn (Fence.wide.inRound l) 0 P (Zsb M I Ix (pre ++ [x]) W2) a1 W2) (fun _ _ _=>False))
    { tmps:=(ps.zip v).foldl (fun t (p,v)=>t.setIfInBounds p v) a.tmps,defers:=[] } W)
 (hdone :∀(d:Nat) (W:World),w.heap.size≤d→I xs W→W.heap[d]? = some (.deferred (some []))→Q .normal { a with defers:={ target:=.collected d,args:=#[] } :: a.defers } W)
 (hstop :∀(d:Nat) (c:Code) (pre post:List α) (W:World),w.heap.size≤d→xs=pre++post→Ix c pre W→W.heap[d]? = some (.deferred (some []))→c.wpIn Fence.wide 0 P Q { a with defers:={ target:=.collected d,args:=#[] } :: a.defers } W) :
 (Code.rangeFunc g ps assign body).wpIn Fence.wide 0 P Q a w:=by
 refine Y38 ?_;intro fn I0 rec Fv W1 Wo kp N5 Pk
 (have hz1:W1.heap.size=w.heap.size+2:=by rw [←Wo];simp);have ofB :∀{X Y:World},w.heap.size≤X.heap.size→Below X.heap.size X Y→Fr (w.heap.size≤·) X Y:=fun hz hb=>Fr.of_new hb;have nM :∀k,w.heap.size≤k→¬M k:=fun k hk hm=>by have:=(hM k hm).1;omega
 refine ⟨w.heap.size+1,[{ target:=.collected w.heap.size,args:=#[] }],W1,{ target:=.fn (.func gf) lb,args:=#[.func (.yield (w.heap.size+1)) #[] #[]] },W1,gf,
  #[.func (.yield (w.heap.size+1)) #[] #[]]++lb,W1,?_,?_,fun _ _=>trivial,?_,fun h=>YL7,?_⟩
 · exact Y89
 · simp only [resolve,hg]
   simp [go_sem]
 · simp [invoke,go_sem,eg]
 · refine (hseq W1 Pk (w.heap.size+1) (fun k=>M k∨k=w.heap.size+1)
    (fun pre W=>I pre W∧W.heap[w.heap.size+1]? = some (.loop (rec .ready none))∧W.heap[w.heap.size]? = some (.deferred (some [])))
    (fun pre W=>∃c,Ix c pre W∧W.heap[w.heap.size+1]? = some (.loop (rec .done (some c)))∧W.heap[w.heap.size]? = some (.deferred (some [])))
    (fun k hk=>by rcases hk with hk|hk;exact ⟨by have:=(hM k hk).1;omega,(hM k hk).2⟩;exact ⟨Ya,fun hn=>by have:=hN k hn;omega⟩)
    (fun p X Y ⟨h1,h4,h5⟩ hb=>⟨hI _ _ _ h1 (Fr.of_new hb),(hb.block _ (Zt7.1 h4).1).trans h4,(hb.block _ (Zt7.1 h5).1).trans h5⟩)
    (fun p X Y ⟨c,h1,h4,h5⟩ hb=>⟨c,hIx _ _ _ _ h1 (Fr.of_new hb),(hb.block _ (Zt7.1 h4).1).trans h4,(hb.block _ (Zt7.1 h5).1).trans h5⟩)
    ⟨hI _ _ _ h0 (Fr.of_new Pk),kp,N5⟩ ?_).mono ?_
   · rintro pre x post W v hx hv ⟨hi,hl,hk⟩
     have hy:=run_yield (P:=P) (args:=v) hl (by rw [Fv];exact hps x v hv);rw [Fv] at hy;refine ⟨fn,_,assign,body,hy,roundIn_of_wpIn I0 ?_⟩;have zl:=(Zt7.1 hl).1;have zk:=(Zt7.1 hk).1;refine wpIn_mono (hround (w.heap.size+1) pre x post W v hx hv Ya zl hi) ?_;rintro e a1 Wa hp
     cases e with
     | normal=>
       obtain ⟨Pu,Ug⟩:=hp;have zj:=(Pu.block _ zl (nM _ Ya)).trans hl;have Tc:=(Pu.block _ zk (nM _ Ya)).trans hk;refine Ypy ?_;intro sd yo Ds L5;have hfb:Fr (fun k=>M k∨k=w.heap.size+1) W (Wa.putObj (w.heap.size+1) (.loop { rec .ready none with state:=.busy })):=(Pu.mono (fun _ _ h=>.inl h)).trans ((Fr.refl _ Wa).putObj (.inl (.inr rfl)) _);refine wpIn_mono (Ug _ ((Fr.refl (· = w.heap.size+1) Wa).putObj (.inl rfl) _) Ye ⟨_,Ds⟩) ?_
       have fin :∀(jump:Option Code) (W3:World),Fr M (Wa.putObj (w.heap.size+1) (.loop { rec .ready none with state:=.busy })) W3→
        (Instr.endRound (w.heap.size+1) jump).run P W3 = .ok (.bool jump.isNone) (W3.putObj (w.heap.size+1) (.loop (rec (if jump.isNone then .ready else .done) jump)))∧
        Fr (w.heap.size≤·) W3 (W3.putObj (w.heap.size+1) (.loop (rec (if jump.isNone then .ready else .done) jump)))∧
        Fr (fun k=>M k∨k=w.heap.size+1) W (W3.putObj (w.heap.size+1) (.loop (rec (if jump.isNone then .ready else .done) jump)))∧
        (W3.putObj (w.heap.size+1) (.loop (rec (if jump.isNone then .ready else .done) jump))).heap[w.heap.size+1]? = some (.loop (rec (if jump.isNone then .ready else .done) jump))∧
        (W3.putObj (w.heap.size+1) (.loop (rec (if jump.isNone then .ready else .done) jump))).heap[w.heap.size]? = some (.deferred (some [])):=fun jump W3 um=>by
        have wm:=(um.block _ (by simpa using sd) (nM _ Ya)).trans Ds;have hd3:=(um.block _ (by have:=sd;simp;omega) (nM _ Ya)).trans L5;have:=run_endRound (P:=P) jump wm;rw [Fv] at this ⊢;exact ⟨this,(Fr.refl (w.heap.size≤·) W3).putObj (.inl (show w.heap.size≤w.heap.size+1 from Ya)) _,(hfb.trans (um.mono (fun _ _ h=>.inl h))).trans ((Fr.refl _ W3).putObj (.inl (.inr rfl)) _),World.putObj_heap_same (Zt7.1 wm).1,(Ztj Ya).trans hd3⟩
       rintro e a3 W3 hp
       cases e with
       | normal=>
         obtain ⟨um,xu⟩:=hp;obtain ⟨hr,Ss,zp,ti,Ku⟩:=fin none W3 um;exact ⟨_,_,hr,.inl ⟨rfl,⟨hI _ _ _ xu Ss,ti,Ku⟩,zp⟩⟩
       | ret=>
         obtain ⟨um,xu⟩:=hp;obtain ⟨hr,Ss,zp,ti,Ku⟩:=fin (some .ret) W3 um;exact ⟨_,_,hr,.inr ⟨rfl,⟨.ret,hIx _ _ _ _ xu Ss,ti,Ku⟩,zp⟩⟩
       | exit id=>
         obtain ⟨um,xu⟩:=hp;obtain ⟨hr,Ss,zp,ti,Ku⟩:=fin (some (.exit id)) W3 um;exact ⟨_,_,hr,.inr ⟨rfl,⟨.exit id,hIx _ _ _ _ xu Ss,ti,Ku⟩,zp⟩⟩
       | goto t=>
         obtain ⟨um,xu⟩:=hp;obtain ⟨hr,Ss,zp,ti,Ku⟩:=fin (some (.goto t)) W3 um;exact ⟨_,_,hr,.inr ⟨rfl,⟨.goto t,hIx _ _ _ _ xu Ss,ti,Ku⟩,zp⟩⟩
       | panic ch=>exact hp.elim
       | outgrown=>exact hp.elim
     | exit id=>exact hp.elim
     | goto l=>exact hp.elim
     | ret=>exact hp.elim
     | panic ch=>exact hp.elim
     | outgrown=>exact hp.elim
   · have pst :∀(X:World) (o:Obj),Fr (w.heap.size≤·) X (X.putObj (w.heap.size+1) o):=fun X o=>(Fr.refl (w.heap.size≤·) X).putObj (.inl (show w.heap.size≤w.heap.size+1 from Ya)) _
     rintro e W2 ⟨⟨v,rfl⟩,(⟨hi,hl,hk⟩|⟨pre,post,hS,c,hi,hl,hk⟩)⟩
     · exact ⟨none,_,Yx,hdone _ _ (Zsu _) (hI _ _ _ hi (pst _ _)) ((Ztj Ya).trans hk)⟩
     · exact ⟨some c,_,Yx,hstop _ c pre post _ (Zsu _) hS (hIx c _ _ _ hi (pst _ _)) ((Ztj Ya).trans hk)⟩
end
section
open Go.RowKit Go.Shelf
attribute [local go_sem] Oper.semAt_some
set_option maxRecDepth 100000
set_option maxHeartbeats 8000000
theorem Zai {α:Type}{a b:List α}{i:Nat}(h:a.take i=b.take i) (ha:i<a.length) (hb:i<b.length) (he:a[i]=b[i]):a.take (i+1)=b.take (i+1):=by
 rw [Ztq,Ztq,h,Zt3 ha,Zt3 hb,he]
theorem Z9x {α:Type}{a b:List α}(e:a=b) (i:Nat) (ha:i<a.length) (hb:i<b.length):a[i]=b[i]:=by subst e;rfl
def EqB (p:Prop) (e:Ending):Prop:=∃z:Bool,e = .returned (.bool z)∧(z=true↔p)
theorem EqB.no {p:Prop}(h :¬p):EqB p (.returned (.bool false)):=⟨false,rfl,⟨(fun e=>by cases e),fun e=>absurd e h⟩⟩
theorem EqB.yes {p:Prop}(h:p):EqB p (.returned (.bool true)):=⟨true,rfl,⟨fun _=>h,fun _=>rfl⟩⟩
theorem Zgw {D D':Nat→Prop}{A B:Option Addr}{c d:Nat}(a b:List Z0z) (w:World) (ha:RowR Z07 D w A c a) (hb:RowR Z07 D' w B d b) :
 Calls Tryz.prog 138 #[.slice A a.length c,.slice B b.length d] w fun e w'=>EqB (a=b) e∧Below w.heap.size w w':=by
 have HA:=hU ha;have HB:=hU hb;have ky:=ha.cap;have wi:=hb.cap;clear ha hb;by_cases hl:a.length=b.length
 case neg=>
  have HR:=hU (show ¬a=b from fun e=>hl (by rw [e]));have k1:((a.length:Int) != (b.length:Int))=true:=Yk;go_enter Tryz.func138,Tryz.ntmps138;go_wp2_with fail;go_ret;exact ⟨EqB.no HR.o,Zst _ _⟩
 obtain ⟨n,hn⟩:∃n,n=a.length:=⟨_,rfl⟩;rw [←hl,←hn];have HN:=hU (And.intro hn (hn.trans hl));rw [←hn] at ky;clear hl hn wi;go_enter Tryz.func138,Tryz.ntmps138;go_wp2_with fail
 go_loopw [17] (fun s wr=>∃i:Nat,s = .int .i64 i∧i≤n∧a.take i=b.take i∧Below w.heap.size w wr) (fun s wr=>n - (intOf s).toNat)
 case atStart=>exact ⟨0,rfl,Nat.zero_le _,rfl,Zst _ _⟩
 case round=>
  obtain ⟨i,rfl,hi,ht,hW⟩:=hrel;have HW:=hU hW;have HT:=hU ht;clear hW ht;by_cases hlt:i<n
  · have Im:i<a.length:=by have:=HN.o.1;omega
    (have ym:i<b.length:=by have:=HN.o.2;omega);obtain ⟨x,hx⟩:∃x,x=a[i]:=⟨_,rfl⟩;obtain ⟨y,hy⟩:∃y,y=b[i]:=⟨_,rfl⟩;obtain ⟨g,off,A3,c3,rfl,_,hgs,q0,q1,q2,q3,q4,q5,h3⟩:=Z5a (HA.o.new_ HW.o) Im;obtain ⟨g2,off2,B3,d3,rfl,_,hgs2,p0,p1,p2,p3,p4,p5,k3⟩:=Z5a (HB.o.new_ HW.o) ym;rw [←hx] at q0 q1 q2 q3 q4 q5 h3;rw [←hy] at p0 p1 p2 p3 p4 p5 k3;have HX:=hU hx;have HY:=hU hy;have H3:=hU h3;have K3:=hU k3;have Xf:=fun W=>Zc3 x.sym y.sym W;have b1:(0:Int)≤(i:Int):=Ya;have b2:(i:Int)<(n:Int):=Ya;clear hx hy h3 k3;have NE:=hU (show ¬x=y→¬a=b from fun e h=>e (HX.o.trans ((Z9x h i Im ym).trans HY.o.symm)));go_upto_region 7 with fail;obtain ⟨W2,xc⟩:∃W,W=(wr.alloc (.cells (Q0n x A3 c3) 196)).alloc (.cells (Q0n y B3 d3) 196):=⟨_,rfl⟩;have Rt:Below wr.heap.size wr W2:=YGh;have pi:Blk W2 wr.heap.size 196 (Q0n x A3 c3):=YSs;(have Cq:Blk W2 (wr.heap.size+1) 196 (Q0n y B3 d3):=by rw [xc];have hh:=Blk.new (wr.alloc (.cells (Q0n x A3 c3) 196)) 196 (Q0n y B3 d3);simp only [Zti] at hh;exact hh);rw [←xc];obtain ⟨bx,im⟩:∃g,g=wr.heap.size:=⟨_,rfl⟩;rw [←im] at pi Cq ⊢;clear q0 q1 q2 q3 q4 q5 p0 p1 p2 p3 p4 p5 xc;obtain ⟨q0,q1,q2,q3,q4,q5⟩:=pi.c6;obtain ⟨p0,p1,p2,p3,p4,p5⟩:=Cq.c6;have qz:=pi.lt;have pz:=Cq.lt;have dr:=hU Cq;have Un:=hU (HW.o.trans (Rt.mono HW.o.size));have HBX:=hU im;have Jm:=hU Rt;clear pi Cq Rt im;go_wp2_with fail
    all_goals first
     | (go_ret;exact ⟨EqB.no (NE.o (fun e=>by rename_i h;rw [e] at h;simp at h)),Un.o⟩)
     | skip
    rename_i e1 e2 e3 e4;obtain ⟨m,hm⟩:∃m,m=x.list.length:=⟨_,rfl⟩;(have eh:m=y.list.length:=by rw [hm];have:=e4;simp at this;omega);have E1:=hU (show x.list=y.list→x=y from fun e=>by cases x;cases y;simp only [Z0z.mk.injEq];exact ⟨e1,toList_inj e2,e3,e⟩);(have hmc:(m:Int)≤9223372036854775807:=by rw [hm];exact H3.o.cap);rw [←hm,←eh];rw [←eh] at p5;have HM:=hU (And.intro hm eh);clear e1 e2 e3 e4 hm eh q0 q1 q2 q3 q4 q5 p0 p1 p2 p3 p4 qz
    go_loopw [57] (fun s W=>∃k:Nat,s = .int .i64 k∧k≤m∧x.list.take k=y.list.take k∧Below W2.heap.size W2 W) (fun s W=>m - (intOf s).toNat)
    case atStart=>exact ⟨0,rfl,Nat.zero_le _,rfl,Zst _ _⟩
    case round=>
     obtain ⟨k,rfl,hk,uu,L0⟩:=hrel;have T7:=hU L0;have U7:=hU uu;clear L0 uu;have p5:=(dr.o.new_ T7.o).cell 5;have pz:=(dr.o.new_ T7.o).lt;by_cases hlk:k<m
     · have Kl:k<x.list.length:=by have:=HM.o.1;omega
       (have Id:k<y.list.length:=by have:=HM.o.2;omega);obtain ⟨u,hu⟩:∃u,u=x.list[k]:=⟨_,rfl⟩;obtain ⟨v,hv⟩:∃v,v=y.list[k]:=⟨_,rfl⟩;obtain ⟨h1,o1,rfl,_,hgu,u0,u1,u2⟩:=Zpw ((H3.o.new_ (Jm.o.trans (T7.o.mono Jm.o.size)))) Kl;obtain ⟨h2,o2,rfl,_,hgv,v0,v1,v2⟩:=Zpw ((K3.o.new_ (Jm.o.trans (T7.o.mono Jm.o.size)))) Id;rw [←hu] at u0 u1 u2;rw [←hv] at v0 v1 v2;have p5:wr.cell? ⟨bx+1,5,none⟩=some (.slice (some ⟨h2,o2,none⟩) m d3):=p5.trans (by rw [HM.o.2];rfl);have c1:(0:Int)≤(k:Int):=Ya;have c2:(k:Int)<(m:Int):=Ya;have Xf:=fun W=>Zc3 u v W;have NU:=hU (show ¬u=v→¬a=b from fun e h=>NE.o (fun h2=>e (by rw [hu,hv];exact Z9x (by rw [h2]) k Kl Id)) h);have HU:=hU hu;have HV:=hU hv;clear hu hv;go_upto_region 12 with fail;go_quiet (fail);go_wp2_with fail
       all_goals first
        | (go_ret;exact ⟨EqB.no (NU.o YTp),Un.o.trans ((T7.o.trans (Below.mono (Below.drewN' (Below.al (Zst _ _) _) nq) T7.o.size)).mono Un.o.size)⟩)
        | skip
       rename_i h;have HE:=hU (Zai U7.o Kl Id (HU.o.symm.trans ((show u=v from YIz).trans HV.o)));clear h;go_roundw
       case rel=>exact ⟨k+1,Yn,Ya,HE.o,T7.o.trans (Below.mono (Below.drewN' (Below.al (Zst _ _) _) nq) T7.o.size)⟩
       case measure=>simp [intOf]<;>omega
     · have hke:k=m:=by omega
       subst hke;have HR:=hU (show x=y from E1.o YOh);have Ei:=hU (Zai HT.o Im ym (HX.o.symm.trans (HR.o.trans HY.o)));have Ue:=hU (Un.o.trans (T7.o.mono Un.o.size));go_wp2_with fail;go_roundw
       case rel=>exact ⟨i+1,Yn,Ya,Ei.o,Ue.o⟩
       case measure=>simp [intOf]<;>omega
  · have Np:i=n:=by omega
    subst Np;have HR:=hU (show a=b by have:=HT.o;rw [HN.o.1,Ztc] at this;rw [this,←HN.o.1,HN.o.2,Ztc]);go_wp2_with fail;go_ret;exact ⟨EqB.yes HR.o,HW.o⟩
set_option maxRecDepth 100000
set_option maxHeartbeats 8000000
abbrev Zk4 (n:Nat):Prop:=∀(D D':Nat→Prop) (x y:Z0a) (A1:Option Addr) (a1:Nat) (A2:Option Addr) (a2:Nat) (A3:Option Addr) (a3:Nat) (B1:Option Addr) (b1:Nat) (B2:Option Addr) (b2:Nat) (B3:Option Addr) (b3:Nat) (w:World),
 RowR Z07 D w A1 a1 x.attr→RowR Z07 D w A2 a2 x.value→RowR (Z09 n) D w A3 a3 x.conds→RowR Z07 D' w B1 b1 y.attr→RowR Z07 D' w B2 b2 y.value→RowR (Z09 n) D' w B3 b3 y.conds→
 Calls Tryz.prog 116 #[.agg (Q0r x A1 a1 A2 a2 A3 a3),.agg (Q0r y B1 b1 B2 b2 B3 b3)] w fun e w'=>EqB (x=y) e∧Below w.heap.size w w'
theorem Zen (n:Nat) (ih :∀m,n=m+1→Zk4 m):Zk4 n:=by
 intro D D' x y A1 a1 A2 a2 A3 a3 B1 b1 B2 b2 B3 b3 w g1 g2 g3 k1 k2 k3;have ky:=g3.cap;have wi:=k3.cap;refine Ys5 ?_;intro G1 G2 G3;have K1:=hU k1;have K2:=hU k2;have K3:=hU k3;have IH:=hU ih;clear g1 g2 g3 k1 k2 k3 ih;go_enter Tryz.func116,Tryz.ntmps116;go_upto_region 1 with fail;obtain ⟨W2,xc⟩:∃W,W=(w.alloc (.cells (Q0r x A1 a1 A2 a2 A3 a3) 77)).alloc (.cells (Q0r y B1 b1 B2 b2 B3 b3) 77):=⟨_,rfl⟩;have HB:=hU (show Below w.heap.size w W2 from YGh);have HX:=hU (show Blk W2 w.heap.size 77 (Q0r x A1 a1 A2 a2 A3 a3) from YSs);have HY:=hU (show Blk W2 (w.heap.size+1) 77 (Q0r y B1 b1 B2 b2 B3 b3) by rw [xc];have hh:=Blk.new (w.alloc (.cells (Q0r x A1 a1 A2 a2 A3 a3) 77)) 77 (Q0r y B1 b1 B2 b2 B3 b3);simp only [Zti] at hh;exact hh);rw [←xc];clear xc;obtain ⟨q0,q1,q2,q3,q4,q5,q6⟩:=HX.o.c7;obtain ⟨p0,p1,p2,p3,p4,p5,p6⟩:=HY.o.c7;have qz:=HX.o.lt;have pz:=HY.o.lt;go_wp2_with fail
 all_goals first
  | (go_ret;exact ⟨EqB.no (fun e=>by rename_i h;rw [e] at h;simp at h),HB.o⟩)
  | skip
 have e5:(x.conds.length:Int)=y.conds.length:=YXw;have E1:=hU (show x.kind=y.kind∧x.goal=y.goal∧x.id.toList=y.id.toList∧x.acc=y.acc from ⟨YXw,YXw,YXw,YXw⟩);obtain ⟨m,hm⟩:∃m,m=x.conds.length:=⟨_,rfl⟩;have HM:=hU (And.intro hm (show m=y.conds.length by rw [hm];omega));rw [←hm] at ky;clear e5 hm q0 q1 q2 q3 q4 q5 q6 p0 p1 p2 p3 p4 p5 p6 qz pz wi;refine (Zgw x.attr y.attr W2 (G1.o.new_ HB.o) (K1.o.new_ HB.o)).mono ?_;rintro e w3 ⟨⟨z,rfl,hz⟩,hb⟩;have Z1:=hU hz;have HX:=hU (HX.o.new_ hb);have HY:=hU (HY.o.new_ hb);have HB:=hU (HB.o.trans (hb.mono HB.o.size));clear hb hz;obtain ⟨q0,q1,q2,q3,q4,q5,q6⟩:=HX.o.c7;obtain ⟨p0,p1,p2,p3,p4,p5,p6⟩:=HY.o.c7;have qz:=HX.o.lt;have pz:=HY.o.lt
 cases z with
 | false=>
   go_wp2_with fail;go_ret;exact ⟨EqB.no (fun e=>by have:=Z1.o.2 (by rw [e]);cases this),HB.o⟩
 | true=>
 go_wp2_with fail;clear q0 q1 q2 q3 q4 q5 q6 p0 p1 p2 p3 p4 p5 p6 qz pz;refine (Zgw x.value y.value w3 (G2.o.new_ HB.o) (K2.o.new_ HB.o)).mono ?_;rintro e w4 ⟨⟨z,rfl,hz⟩,hb⟩;have Z2:=hU hz;have HX:=hU (HX.o.new_ hb);have HY:=hU (HY.o.new_ hb);have HB:=hU (HB.o.trans (hb.mono HB.o.size));clear hb hz;obtain ⟨q0,q1,q2,q3,q4,q5,q6⟩:=HX.o.c7;obtain ⟨p0,p1,p2,p3,p4,p5,p6⟩:=HY.o.c7;have qz:=HX.o.lt;have pz:=HY.o.lt
 cases z with
 | false=>
   go_wp2_with fail;go_ret;exact ⟨EqB.no (fun e=>by have:=Z2.o.2 (by rw [e]);cases this),HB.o⟩
 | true=>
 rw [←HM.o.1] at q6;go_wp2_with fail
 have E2:=hU (show x.conds=y.conds→x=y from fun e=>by
  have h1:=Z1.o.1 Ye;have h2:=Z2.o.1 Ye;obtain ⟨e1,e2,e3,e4⟩:=E1.o;cases x;cases y;simp only [Z0a.kind,Z0a.goal,Z0a.id,Z0a.attr,Z0a.value,Z0a.acc,Z0a.conds] at h1 h2 e1 e2 e3 e4 e
  rw [h1,h2,e1,e2,toList_inj e3,e4,e])
 clear q0 q1 q2 q3 q4 q5 q6 p0 p1 p2 p3 p4 p5 p6 qz pz E1 Z1 Z2
 go_loopw [61] (fun s W=>∃k:Nat,s = .int .i64 k∧k≤m∧x.conds.take k=y.conds.take k∧Below w4.heap.size w4 W) (fun s W=>m - (intOf s).toNat)
 case atStart=>exact ⟨0,rfl,Nat.zero_le _,rfl,Zst _ _⟩
 case round=>
  obtain ⟨k,rfl,hk,uu,L0⟩:=hrel;have T7:=hU L0;have U7:=hU uu;have Jm:=hU (HB.o.trans (L0.mono HB.o.size));clear L0 uu;have p6:wr.cell? ⟨w.heap.size+1,6,none⟩=some (.slice B3 m b3):=((HY.o.new_ T7.o).cell 6).trans (by rw [HM.o.2];rfl);have pz:=(HY.o.new_ T7.o).lt;by_cases hlt:k<m
  · have Kl:k<x.conds.length:=by have:=HM.o.1;omega
    have Id:k<y.conds.length:=by have:=HM.o.2;omega
    obtain ⟨n',hn'⟩:∃n',n=n'+1:=by
     cases n with
     | zero=>have h0:=row0 G3.o;rw [h0] at Kl;simp at Kl
     | succ m=>exact ⟨m,rfl⟩
    subst hn';obtain ⟨u,hu⟩:∃u,u=x.conds[k]:=⟨_,rfl⟩;obtain ⟨v,hv⟩:∃v,v=y.conds[k]:=⟨_,rfl⟩;obtain ⟨g,off,C1,c1,C2,c2,C3,c3,rfl,_,hgs,q0,q1,q2,q3,q4,q5,q6,r1,r2,r3⟩:=Z31 (G3.o.new_ Jm.o) Kl;obtain ⟨g2,Lw,D1,d1,D2,d2,D3,d3,rfl,_,Rm,s0,s1,s2,s3,s4,s5,s6,t1,t2,t3⟩:=Z31 (K3.o.new_ Jm.o) Id;rw [←hu] at q0 q1 q2 q3 q4 q5 q6 r1 r2 r3;rw [←hv] at s0 s1 s2 s3 s4 s5 s6 t1 t2 t3;have R1:=hU r1;have R2:=hU r2;have R3:=hU r3;have T1:=hU t1;have T2:=hU t2;have T3:=hU t3;have e1:(0:Int)≤(k:Int):=Ya;have e2:(k:Int)<(m:Int):=Ya;have NU:=hU (show ¬u=v→¬x=y from fun e h=>e (by rw [hu,hv];exact Z9x (by rw [h]) k Kl Id));have HU:=hU hu;have HV:=hU hv;clear hu hv r1 r2 r3 t1 t2 t3;go_upto_region 6 with fail;refine Y99 ?_;intro W5 wv Xp Mc;obtain ⟨m0,m1,m2,m3,m4,m5,m6⟩:=Mc.o.c7;have mz:=Mc.o.lt;have p6:=(Xp.o.cell (p:=⟨w.heap.size+1,6,none⟩) pz).trans p6;have pz:=Zsw pz Xp.o.size;have s0:=(Xp.o.cell (p:=⟨g2,Lw+k*7,none⟩) Rm).trans s0;have s1:=(Xp.o.cell (p:=⟨g2,Lw+k*7+1,none⟩) Rm).trans s1;have s2:=(Xp.o.cell (p:=⟨g2,Lw+k*7+2,none⟩) Rm).trans s2;have s3:=(Xp.o.cell (p:=⟨g2,Lw+k*7+3,none⟩) Rm).trans s3;have s4:=(Xp.o.cell (p:=⟨g2,Lw+k*7+4,none⟩) Rm).trans s4;have s5:=(Xp.o.cell (p:=⟨g2,Lw+k*7+5,none⟩) Rm).trans s5;have s6:=(Xp.o.cell (p:=⟨g2,Lw+k*7+6,none⟩) Rm).trans s6;have Rm:=Zsw Rm Xp.o.size;have HC:=hU (show ∀W,Below W5.heap.size W5 W→_ from fun W hW=>IH.o n' rfl D D' u v C1 c1 C2 c2 C3 c3 D1 d1 D2 d2 D3 d3 W (R1.o.new_ (Xp.o.trans (hW.mono Xp.o.size))) (R2.o.new_ (Xp.o.trans (hW.mono Xp.o.size))) (R3.o.new_ (Xp.o.trans (hW.mono Xp.o.size))) (T1.o.new_ (Xp.o.trans (hW.mono Xp.o.size))) (T2.o.new_ (Xp.o.trans (hW.mono Xp.o.size))) (T3.o.new_ (Xp.o.trans (hW.mono Xp.o.size))));clear wv q0 q1 q2 q3 q4 q5 q6;refine Z03 (fun w9=>Below W5.heap.size W5 w9) [(0,1),(1,0),(2,1),(3,0),(4,0),(5,1),(6,2),(7,0)] Yb Yb (fun KK hKK=>?_);refine Y9j ?_;refine Ylj ?_
    refine Yll ?_;intro K9 hK9;refine (HC.o _ ((Zst _ _).drew)).mono ?_;rintro e w6 ⟨⟨z,rfl,hz⟩,hb⟩;have Z3:=hU hz;have gi:=hU (Below.trans ((Zst W5.heap.size W5).drew) (hb.mono (Zsu _)));clear hb hz;refine Y8n ?_;clear hK9 K9;refine Yyj ?_;refine Yf0 ?_;clear hKK KK;have mg:=hU (Jm.o.trans ((Xp.o.trans (gi.o.mono Xp.o.size)).mono Jm.o.size));have HBE4:=hU (T7.o.trans ((Xp.o.trans (gi.o.mono Xp.o.size)).mono T7.o.size));clear m0 m1 m2 m3 m4 m5 m6 mz s0 s1 s2 s3 s4 s5 s6 p6 pz
    cases z with
    | false=>
      go_wp2_with fail;go_ret;exact ⟨EqB.no (NU.o (fun e=>by have:=Z3.o.2 e;cases this)),mg.o⟩
    | true=>
      have HE:=hU (Zai U7.o Kl Id (HU.o.symm.trans ((Z3.o.1 Ye).trans HV.o)));go_wp2_with fail;go_roundw
      case rel=>exact ⟨k+1,Yn,Ya,HE.o,HBE4.o⟩
      case measure=>simp [intOf]<;>omega
  · obtain rfl:k=m:=by omega
    have HR:=hU (show x=y from E2.o YOh);go_wp2_with fail;go_ret;exact ⟨EqB.yes HR.o,Jm.o⟩
theorem Zmy :∀n,Zk4 n
 | 0=>Zen 0 (fun m h=>Ya)
 | n+1=>Zen (n+1) (fun m h=>by obtain rfl:m=n:=by omega
                               exact Zmy m)
set_option maxRecDepth 100000
set_option maxHeartbeats 8000000
theorem Zcx {D:Nat→Prop}(n:Nat) (x:Z0a) (A1:Option Addr) (a1:Nat) (A2:Option Addr) (a2:Nat) (A3:Option Addr) (a3:Nat) (w:World) (g3:RowR (Z09 n) D w A3 a3 x.conds) :
 Calls Tryz.prog 114 #[.agg (Q0r x A1 a1 A2 a2 A3 a3)] w fun e w'=>EqB (Z5i x=true) e∧Below w.heap.size w w':=by
 have hac:=g3.cap;have G3:=hU g3;clear g3;go_enter Tryz.func114,Tryz.ntmps114;go_upto_region 1 with fail;obtain ⟨W2,xc⟩:∃W,W=w.alloc (.cells (Q0r x A1 a1 A2 a2 A3 a3) 77):=⟨_,rfl⟩;have HB:=hU (show Below w.heap.size w W2 by rw [xc];exact Below.al (Zst _ _) _);have HX:=hU (show Blk W2 w.heap.size 77 (Q0r x A1 a1 A2 a2 A3 a3) by rw [xc];exact Blk.new _ _ _);rw [←xc];clear xc;obtain ⟨q0,q1,q2,q3,q4,q5,q6⟩:=HX.o.c7;have qz:=HX.o.lt;by_cases hk:x.kind=3
 case neg=>
  have HV:=hU (show Z5i x=(decide (x.kind=2) && decide (x.id.toList = [])) by rw [Z5i,if_neg hk]);go_wp2_with fail
  all_goals (go_ret;refine ⟨?_,HB.o⟩;rw [HV.o])
  all_goals first
   | (refine EqB.no ?_;simp_all;done)
   | exact ⟨x.id.toList.isEmpty,rfl,by cases hh:x.id.toList<;>simp_all⟩
 have HV:=hU (show Z5i x=x.conds.any Z5x by rw [Z5i,if_pos hk]);go_wp2_with fail;clear q0 q1 q2 q3 q4 q5 q6 hk qz
 go_loopw [19] (fun s W=>∃k:Nat,s = .int .i64 k∧k≤x.conds.length∧(x.conds.take k).any Z5x=false∧Below w.heap.size w W) (fun s W=>x.conds.length - (intOf s).toNat)
 case atStart=>exact ⟨0,rfl,Nat.zero_le _,rfl,HB.o⟩
 case round=>
  obtain ⟨k,rfl,hk,uu,L0⟩:=hrel;have T7:=hU L0;have U7:=hU uu;clear L0 uu;by_cases hlt:k<x.conds.length
  · obtain ⟨n',hn'⟩:∃n',n=n'+1:=by
     cases n with
     | zero=>have h0:=row0 G3.o;rw [h0] at hlt;simp at hlt
     | succ m=>exact ⟨m,rfl⟩
    subst hn';obtain ⟨u,hu⟩:∃u,u=x.conds[k]:=⟨_,rfl⟩;obtain ⟨g,off,C1,c1,C2,c2,C3,c3,rfl,_,hgs,q0,q1,q2,q3,q4,q5,q6,r1,r2,r3⟩:=Z31 (G3.o.new_ T7.o) hlt;rw [←hu] at q0 q1 q2 q3 q4 q5 q6;refine Y5s ?_;intro e1 e2;have HT:=hU (show (x.conds.take (k+1)).any Z5x=Z5x u by rw [Ztq,Zt3 hlt,List.any_append,U7.o,←hu];simp);have HIn:=hU (show Z5x u=true→x.conds.any Z5x=true from fun h=>Zu7.2 ⟨u,YC5,h⟩);have HE:=hU (show Z5x u=(decide (u.kind=1) && decide (u.id.toList = [])) from rfl);clear hu r1 r2 r3;go_wp2_with fail
    all_goals first
     | (go_ret;exact ⟨EqB.yes (by rw [HV.o];exact HIn.o (by rw [HE.o];simp_all)),T7.o.trans (Below.mono (Below.al (Zst _ _) _) T7.o.size)⟩)
     | (have H1:=hU (show Z5x u=false by rw [HE.o];simp_all);clear q0 q1 q2;go_roundw;(case rel=>exact ⟨k+1,Yn,Ya,by rw [HT.o,H1.o],T7.o.trans (Below.mono (Below.al (Zst _ _) _) T7.o.size)⟩);(case measure=>simp [intOf]<;>omega))
  · obtain rfl:k=x.conds.length:=by omega
    have HR:=hU (show ¬Z5i x=true by rw [HV.o];have:=U7.o;rw [Ztc] at this;rw [this];simp);go_wp2_with fail;go_ret;exact ⟨EqB.no HR.o,T7.o⟩
set_option maxRecDepth 100000
set_option maxHeartbeats 8000000
def encC (x:Z0a) (v:Array Value):Prop:=∃(at_:Int) (A1:Option Addr) (a1:Nat) (A2:Option Addr) (a2:Nat) (A3:Option Addr) (a3:Nat),v = #[.int .i64 at_,.agg #[.int .i64 x.kind,.bool x.goal,.string x.id,.slice A1 x.attr.length a1,.slice A2 x.value.length a2,.bool x.acc,.slice A3 x.conds.length a3]]
theorem Zob {lo yb:Nat}{M N:Nat→Prop}{J Jx:List Z0a→World→Prop}{F:List (Nat×Z0a)}(hM :∀k,M k→k<yb∧¬N k) (hJ :∀p X Y,J p X→Below X.heap.size X Y→J p Y) (hJx :∀p X Y,Jx p X→Below X.heap.size X Y→Jx p Y)
 (hY :∀pre x post W1 v,F.map Prod.snd=pre++x :: post→encC x v→J pre W1→YieldAt Fence.wide 0 Tryz.prog lo v W1 fun e W'=>
   (e = .returned (.bool true)∧J (pre ++ [x]) W'∧Fr M W1 W')∨(e = .returned (.bool false)∧Jx (pre ++ [x]) W'∧Fr M W1 W')) :
 Yld 165 [.pointer (some ⟨yb,0,none⟩)] N M F (fun k w=>J ((F.take k).map Prod.snd) w∧Blk w yb 293 #[.func (.yield lo) #[] #[]]) (fun w=>∃pre post,F.map Prod.snd=pre++post∧Jx pre w):=by
 refine ⟨YX8,?_,fun j hj hm=>(hM j hm).2 hj,fun k w w' h hb=>⟨hJ _ _ _ h.1 hb,h.2.new_ hb⟩,fun w w' ⟨p,q,h1,h2⟩ hb=>⟨p,q,h1,hJx _ _ _ h2 hb⟩⟩;intro k hk w A1 A2 A3 c1 c2 c3 hI _ _ _;obtain ⟨x,hx⟩:∃x,x=F[k].2:=⟨_,rfl⟩;obtain ⟨d,hd⟩:∃d,d=F[k].1:=⟨_,rfl⟩
 have So:F.map Prod.snd=(F.take k).map Prod.snd++x :: (F.drop (k+1)).map Prod.snd:=by
  conv=>lhs;rw [←List.take_append_drop k F,Ztt hk,Ztm,List.map_cons,←hx]
 (have F3:(F.take (k+1)).map Prod.snd=(F.take k).map Prod.snd ++ [x]:=by rw [Ztq,Zt3 hk,Ztm,hx];rfl);have U9:Below w.heap.size w (w.alloc (.cells #[.int .i64 x.kind,.bool x.goal,.string x.id,.slice A1 x.attr.length c1,.slice A2 x.value.length c2,.bool x.acc,.slice A3 x.conds.length c3] 77)):=Below.al (Zst _ _) _;have hr:=hY _ x _ (w.alloc (.cells #[.int .i64 x.kind,.bool x.goal,.string x.id,.slice A1 x.attr.length c1,.slice A2 x.value.length c2,.bool x.acc,.slice A3 x.conds.length c3] 77)) _ So ⟨(k:Int),A1,c1,A2,c2,A3,c3,rfl⟩ (hJ _ _ _ hI.1 U9);have HI:=hU hI.2;have Wh:=hU F3;have Bk:=hU So;have y0:=(hI.2.cell 0).trans rfl;have yz:=hI.2.lt;have zh:=hU hM;obtain ⟨pre,L3⟩:∃p,p=(F.take k).map Prod.snd:=⟨_,rfl⟩;rw [←L3] at hr Wh Bk;rw [←hx,←hd];obtain ⟨fy,ty,ay,by_,hy,hR⟩:=hr;have Sn:=hU hR;have HB:=hU U9;clear hI F3 So hx hd L3 hR U9 hY hJ hJx hM;show Calls Tryz.prog 165 #[_,_,_,_] w _;refine (callsIn_wide (n:=0)).1 ?_;refine callsIn_of_wp Tryz.func165 rfl trivial ?_;simp only [Tryz.ntmps165,Zu5,Ztg,Zu1,Nat.reduceAdd,Nat.reduceSub,Ztw,Ztx,Zu4,Zu0,Ztk,Ztv];gi_wp2_with fail;refine ⟨rfl,Sn.o.mono ?_⟩;rintro e W3 (⟨rfl,hj,hf⟩|⟨rfl,hj,hf⟩)
 · have M9:=hU hj
   have pk:=hU hf;clear hj hf hy;gi_wp2_with fail;go_ret;exact ⟨true,rfl,fun _=>⟨by rw [Wh.o];exact M9.o,(HI.o.new_ HB.o).fr pk.o (fun hm=>by have:=(zh.o _ hm).1;omega)⟩,(fun h=>YZt),(Fr.of_new HB.o).trans pk.o⟩
 · have M9:=hU hj
   have pk:=hU hf;clear hj hf hy;gi_wp2_with fail;go_ret;exact ⟨false,rfl,(fun h=>YZt),fun _=>⟨pre ++ [x],(F.drop (k+1)).map Prod.snd,by rw [Bk.o];simp,M9.o⟩,(Fr.of_new HB.o).trans pk.o⟩
theorem Zl0 {DX:Nat→Prop}(n:Nat) (l:List Z0a) (A:Option Addr) (c:Nat) (kb:Nat) (W:World) (hk:Blk W kb 26 #[.slice A l.length c]) (hr:RowR (Z09 n) DX W A c l) (hlen:(Z17 n 0 l).length≤1000000) (hn:n≤1000000) :
 Zqg Tryz.prog 164 #[.pointer (some ⟨kb,0,none⟩)] encC ((Z17 n 0 l).map Prod.snd) (fun k=>DX k∨k=kb) W:=by
 intro lo M J Jx hM hJ Gr h0 hY;have Pk:Below W.heap.size W (W.alloc (.cells #[.func (.yield lo) #[] #[]] 293)):=Below.al (Zst _ _) _;have D5:=Zob (lo:=lo) (yb:=W.heap.size) (M:=M) (N:=DX) (J:=J) (Jx:=Jx) (F:=Z17 n 0 l) (fun k hk=>⟨(hM k hk).1,fun hd=>(hM k hk).2 (.inl hd)⟩) hJ Gr hY;have hw:=Zgs D5 Ya n 0 0 A c l (W.alloc (.cells #[.func (.yield lo) #[] #[]] 293)) (hr.new_ Pk) (fun k hk=>by have:=(hM k hk).1;have:=Pk.size;omega) ⟨[],Ye⟩ Ya Ya ⟨hJ _ _ _ h0 Pk,Blk.new _ _ _⟩;have HW:=hU hw;have q0:=(hk.cell 0).trans rfl;have qz:=hk.lt;obtain ⟨F,hF⟩:∃F,F=Z17 n 0 l:=⟨_,rfl⟩;rw [←hF] at HW ⊢;clear hk hr hM hJ Gr h0 hY Pk D5 hw hlen hn hF;refine callsIn_of_wp Tryz.func164 rfl trivial ?_;simp only [Tryz.ntmps164,Zu5,Ztg,Zu1,Nat.reduceAdd,Nat.reduceSub,Ztw,Ztx,Zu4,Zu0,Ztk,Ztv];gi_wp2_with fail;refine Yi8 ?_;refine ((callsIn_wide (n:=0)).2 HW.o).mono ?_;rintro e w5 ⟨b,a,rfl,ht,hf,-⟩
 cases b with
 | true=>
   obtain ⟨ha,hj,-⟩:=ht rfl;rw [ha,Zts,Ztc] at hj;have HJ:=hU hj;clear ht hf hj ha HW;gi_wp2_with fail;go_end0;exact ⟨⟨_,rfl⟩,.inl HJ.o⟩
 | false=>
   have HT:=hU (hf rfl);clear ht hf HW;gi_wp2_with fail;go_end0;exact ⟨⟨_,rfl⟩,.inr HT.o⟩
theorem Zqv (A:Option Addr) (n c:Nat) (w:World):Calls Tryz.prog 135 #[.slice A n c] w fun e w'=>e = .returned (.func (.func 164) #[] #[.pointer (some ⟨w.heap.size,0,none⟩)])∧Blk w' w.heap.size 26 #[.slice A n c]∧Below w.heap.size w w':=by
 go_enter Tryz.func135,Tryz.ntmps135;go_wp2_with fail;go_ret;exact ⟨rfl,Blk.new _ _ _,(Zst _ _).alloc (Zsu _) _⟩
theorem Zmv {n:Nat}{D D':Nat→Prop}{W:World}{g:Nat}{y:Z0a}{A1 A2 A3:Option Addr}{c1 c2 c3:Nat}(hb:Blk W g 77 #[.int .i64 y.kind,.bool y.goal,.string y.id,.slice A1 y.attr.length c1,.slice A2 y.value.length c2,.bool y.acc,.slice A3 y.conds.length c3]) (h1:RowR Z07 D W A1 c1 y.attr) (h2:RowR Z07 D W A2 c2 y.value) (h3:RowR (Z09 n) D W A3 c3 y.conds) (hD :∀k,D k→D' k) (hg:D' g):RowR (Z09 (n+1)) D' W (some ⟨g,0,none⟩) 1 [y]:=by
 refine ⟨Zsu _,Yc,fun _=>⟨g,0,rfl,hg,hb.lt,fun k hk=>?_⟩⟩;(obtain rfl:k=0:=YUq);refine ⟨_,Z64 (y:=y) (h1.weaken hD) (h2.weaken hD) (h3.weaken hD),fun j u hu=>?_⟩;rw [show 0+0*(Z09 (n+1)).size+j=j from Ya,hb.cell];simpa using hu
theorem Zoj {D:Nat→Prop}(n:Nat) (x:Z0a) (A1:Option Addr) (a1:Nat) (A2:Option Addr) (a2:Nat) (A3:Option Addr) (a3:Nat) (w:World) (g1:RowR Z07 D w A1 a1 x.attr) (g2:RowR Z07 D w A2 a2 x.value) (g3:RowR (Z09 n) D w A3 a3 x.conds) (hD :∀k,D k→k<w.heap.size) (hlen:(Z17 (n+1) 0 [x]).length≤1000000) (hn:n+1≤1000000) :
 Calls Tryz.prog 112 #[.agg #[.int .i64 x.kind,.bool x.goal,.string x.id,.slice A1 x.attr.length a1,.slice A2 x.value.length a2,.bool x.acc,.slice A3 x.conds.length a3]] w fun e w'=>EqB (Z9y n x) e∧Below w.heap.size w w':=by
 refine Ys5 ?_;intro G1 G2 G3;have HD:=hU hD;clear g1 g2 g3 hD;refine (callsIn_wide (n:=0)).1 ?_;refine callsIn_of_wp_marks Tryz.func112 rfl trivial ?_;refine wpIn_wide.2 ?_;simp only [Tryz.ntmps112,Zu5,Ztg,Zu1,Nat.reduceAdd,Nat.reduceSub,Ztw,Ztx,Zu4,Zu0,Ztk,Ztv];go_upto_region 1 with fail;obtain ⟨W2,xc⟩:∃W,W=(w.alloc (.cells #[.int .i64 x.kind,.bool x.goal,.string x.id,.slice A1 x.attr.length a1,.slice A2 x.value.length a2,.bool x.acc,.slice A3 x.conds.length a3] 77)).alloc (.cells #[.bool false] 4):=⟨_,rfl⟩;have HB:=hU (show Below w.heap.size w W2 from YGh);have HX:=hU (show Blk W2 w.heap.size 77 #[.int .i64 x.kind,.bool x.goal,.string x.id,.slice A1 x.attr.length a1,.slice A2 x.value.length a2,.bool x.acc,.slice A3 x.conds.length a3] from YSs);have HR:=hU (show Blk W2 (w.heap.size+1) 4 #[.bool false] by rw [xc];have hh:=Blk.new (w.alloc (.cells #[.int .i64 x.kind,.bool x.goal,.string x.id,.slice A1 x.attr.length a1,.slice A2 x.value.length a2,.bool x.acc,.slice A3 x.conds.length a3] 77)) 4 #[.bool false];simp only [Zti] at hh;exact hh);have HZ:=hU (show W2.heap.size=w.heap.size+2 by rw [xc];simp);rw [←xc];clear xc;obtain ⟨q0,q1,q2,q3,q4,q5,q6⟩:=HX.o.c7;have qz:=HX.o.lt;obtain ⟨W3,jb⟩:∃W,W=W2.alloc (.cells #[.int .i64 x.kind,.bool x.goal,.string x.id,.slice A1 x.attr.length a1,.slice A2 x.value.length a2,.bool x.acc,.slice A3 x.conds.length a3] 77):=⟨_,rfl⟩;have Ue:=hU (show Below w.heap.size w W3 by rw [jb];exact HB.o.alloc HB.o.size _);(have G9:Below W2.heap.size W2 W3:=by rw [jb];exact Below.al (Zst _ _) _);have Pj:=hU (show Blk W3 W2.heap.size 77 #[.int .i64 x.kind,.bool x.goal,.string x.id,.slice A1 x.attr.length a1,.slice A2 x.value.length a2,.bool x.acc,.slice A3 x.conds.length a3] by rw [jb];exact Blk.new _ _ _);have ll:=hU (HR.o.new_ G9);have yh:=hU (Zmv (n:=n) (D':=fun k=>D k∨k=W2.heap.size) Pj.o (G1.o.new_ Ue.o) (G2.o.new_ Ue.o) (G3.o.new_ Ue.o) (fun k hk=>.inl hk) (.inr rfl));have HW3:=hU jb;clear jb G9;go_wp2_with fail;rw [←HW3.o];refine (Zqv _ _ _ W3).mono ?_;rintro e W4 ⟨rfl,Ku,Pn⟩;have HK4:=hU Ku;have Ni:=hU (Ue.o.trans (Pn.mono Ue.o.size));have HRW4:=hU (yh.o.new_ Pn);have pq:=hU (ll.o.new_ Pn);have su:=hU (show W3.heap.size=w.heap.size+3 by rw [HW3.o];simp [HZ.o]);clear Ku Pn q0 q1 q2 q3 q4 q5 q6 qz;go_wp2_with fail;obtain ⟨xs,rk⟩:∃xs,xs=(Z17 (n+1) 0 [x]).map Prod.snd:=⟨_,rfl⟩
 have HIT:=hU (show ∀W,Below W4.heap.size W4 W→Zqg Tryz.prog 164 #[.pointer (some ⟨W3.heap.size,0,none⟩)] encC xs (fun k=>(D k∨k=W2.heap.size)∨k=W3.heap.size) W from fun W hW=>by
  rw [rk]
  exact Zl0 (n+1) [x] _ 1 W3.heap.size W (HK4.o.new_ hW) (HRW4.o.new_ hW) hlen hn)
 have HG:=hU (show Z9y n x↔∃c∈xs,c.goal=true by
  rw [rk];unfold Z9y;constructor
  · rintro ⟨c,h1,h2⟩;exact ⟨c.2,List.mem_map_of_mem h1,h2⟩
  · rintro ⟨c,h1,h2⟩
    obtain ⟨d,h3,rfl⟩:=List.mem_map.1 h1
    exact ⟨d,h3,h2⟩)
 clear rk hlen hn;refine (wpIn_wide (n:=0)).1 ?_;have h4z:=HK4.o.lt
 refine Zgt (w:=W4) (M:=fun k=>k=w.heap.size+1) (N:=fun k=>(D k∨k=W2.heap.size)∨k=W3.heap.size) Yd YX8 (fun k hk=>⟨YX4,fun h=>by have:=HZ.o;have:=su.o;rcases h with (h|h)|h;exact absurd (HD.o k h) Ya;omega;omega⟩) (fun k h=>by have:=HZ.o;have:=su.o;have:=Ni.o.size;rcases h with (h|h)|h;exact Zsw (HD.o k h) this;omega;omega) HIT.o (fun y v h=>by obtain ⟨_,_,_,_,_,_,_,rfl⟩:=h;rfl)
  (fun pre W=>(∀c∈pre,c.goal=false)∧Blk W (w.heap.size+1) 4 #[.bool false]∧Below w.heap.size w W) (fun cd pre W=>cd = .ret∧(∃c∈pre,c.goal=true)∧Blk W (w.heap.size+1) 4 #[.bool true]∧Below w.heap.size w W)
  (fun p X Y h hF=>⟨h.1,h.2.1.fr hF (fun hm=>YX4),h.2.2.trans (hF.below h.2.2.size (fun k hk hm=>YX4))⟩)
  (fun cd p X Y h hF=>⟨h.1,h.2.1,h.2.2.1.fr hF (fun hm=>YX4),h.2.2.2.trans (hF.below h.2.2.2.size (fun k hk hm=>YX4))⟩)
  ⟨(fun c hc=>by cases hc),pq.o,Ni.o⟩ ?_ ?_ ?_
 · rintro lo pre y post X v hx ⟨at_,E1,e1,E2,e2,E3,e3,rfl⟩ hlo hlX ⟨h1,h2,h3⟩
   simp only [Array.zip];have Pk:Below X.heap.size X (X.alloc (.cells #[.int .i64 y.kind,.bool y.goal,.string y.id,.slice E1 y.attr.length e1,.slice E2 y.value.length e2,.bool y.acc,.slice E3 y.conds.length e3] 77)):=Below.al (Zst _ _) _;gi_wp2_with fail;refine ⟨Fr.of_new Pk,fun X2 hF2 hz2 _=>?_⟩;have N6:Blk X2 X.heap.size 77 #[.int .i64 y.kind,.bool y.goal,.string y.id,.slice E1 y.attr.length e1,.slice E2 y.value.length e2,.bool y.acc,.slice E3 y.conds.length e3]:=(Blk.new _ _ _).fr hF2 Ya;have O8:=hU ((h2.new_ Pk).fr hF2 YX4);have Un:=hU ((h3.trans (Pk.mono h3.size)).trans (hF2.below (by have:=h3.size;have:=Pk.size;omega) (fun k hk hm=>by have:=Ni.o.size;omega)));have H1:=hU h1;have p1:=(N6.cell 1).trans rfl;have pz:=N6.lt;have r0:=(O8.o.cell 0).trans rfl;have rf:=O8.o.frozen 0;have rz:=O8.o.lt;clear h1 h2 h3 hF2 hz2 Pk N6
   cases hy:y.goal with
   | false=>
     rw [hy] at p1;gi_wp2_with fail;exact ⟨Fr.refl _ _,fun c hc=>by rcases Ztu.1 hc with h|h;exact H1.o c h;rw [Zua.1 h];exact hy,O8.o,Un.o⟩
   | true=>
     rw [hy] at p1;gi_wp2_with fail;exact ⟨(Fr.refl (· = w.heap.size+1) X2).setCell (p:=⟨w.heap.size+1,0,none⟩) (.inl rfl) _,rfl,⟨y,Ye,hy⟩,O8.o.set_ 0 _,Un.o.setCell Ye _⟩
 · rintro d X hd ⟨h1,h2,h3⟩ Gw
   have HV:=hU (show ¬Z9y n x from fun h=>by obtain ⟨c,g1,g2⟩:=HG.o.1 h;rw [h1 c g1] at g2;cases g2);have O8:=hU h2;have Un:=hU h3;have fv:=hU Gw;have ck:=hU hd;have r0:=(h2.cell 0).trans rfl;have rf:=h2.frozen 0;have rz:=h2.lt;clear h1 h2 h3 Gw hd;go_wp2_with fail;(have Xf:d≠w.heap.size+1:=by have:=ck.o;have:=su.o;have:=HK4.o.lt;omega);have hk:(X.setCell ⟨w.heap.size+1,0,none⟩ (.bool false)).heap[d]? = some (.deferred (some [])):=(Below.heap_setCell _ _ _ _ Xf).trans fv.o;refine ⟨Ye,.inl ⟨_,_,rfl,run_takeDeferred hk,?_⟩⟩;have lj:Priv W4.heap.size (X.setCell ⟨w.heap.size+1,0,none⟩ (.bool false)) ((X.setCell ⟨w.heap.size+1,0,none⟩ (.bool false)).putObj d (.deferred none)):=(Priv.refl _ _).putObj ck.o hk rfl _;have hr:=(((O8.o.set_ 0 (.bool false)).priv lj).cell 0).trans rfl;refine ⟨.bool false,?_,EqB.no HV.o,Below.priv' (Un.o.setCell Ye _) lj Ni.o.size (by have:=Un.o.size;simpa using this)⟩;simp [results,Tryz.results112,go_sem,hr]
 · rintro d cd pre post X hd hx ⟨rfl,h1,h2,h3⟩ Gw
   have HV:=hU (show Z9y n x from HG.o.2 (by obtain ⟨c,g1,g2⟩:=h1;exact ⟨c,by rw [hx];exact List.mem_append_left _ g1,g2⟩));have O8:=hU h2;have Un:=hU h3;have fv:=hU Gw;have ck:=hU hd;clear h1 h2 h3 Gw hd;refine wpIn_wide.2 ?_;go_wp2_with fail;refine ⟨Ye,.inl ⟨_,_,rfl,run_takeDeferred fv.o,?_⟩⟩;have lj:Priv W4.heap.size X (X.putObj d (.deferred none)):=(Priv.refl _ _).putObj ck.o fv.o rfl _;have hr:=((O8.o.priv lj).cell 0).trans rfl;refine ⟨.bool true,?_,EqB.yes HV.o,Below.priv' Un.o lj Ni.o.size Un.o.size⟩;simp [results,Tryz.results112,go_sem,hr]
end
section
open Go.RowKit
def LsC {α:Type}(r:RepT α) (e:TypeId) (D:Nat→Prop) (T:Nat→Option Obj→Prop) (B b:Nat) (l:List α) (A:Option Addr) (c:Nat) (w:World):Prop:=
 b≤w.heap.size∧(∀j,D j→j<b)∧AIn A (fun j=>B≤j∧j<b)∧∃C:Nat→Prop,OwnC r e C w (.slice A l.length c) l∧(∀j,D j→C j)∧∀j,C j→(D j∨(B≤j∧j<b))∧¬T j w.heap[j]?
section
variable {α:Type}{r:RepT α}{e:TypeId}{D:Nat→Prop}{T:Nat→Option Obj→Prop}{B b:Nat}{l:List α}{A:Option Addr}{c:Nat}{w w':World}
theorem LsC.nil (r:RepT α) (e:TypeId) (B:Nat) (hb:b≤w.heap.size) (hD :∀j,D j→j<b∧¬T j w.heap[j]?):LsC r e D T B b [] none 0 w:=
 ⟨hb,fun j h=>(hD j h).1,AIn.none_ _,D,OwnC.nil _ _ _ _,fun _ h=>h,fun j h=>⟨.inl h,(hD j h).2⟩⟩
theorem LsC.up {b':Nat}(h:LsC r e D T B b l A c w) (h1:b≤b') (h2:b'≤w.heap.size):LsC r e D T B b' l A c w:=by
 obtain ⟨_,hd,ha,C,h3,h4,h5⟩:=h;exact ⟨h2,fun j hj=>Zsw (hd j hj) h1,ha.mono (fun j hj=>⟨hj.1,Ya⟩),C,h3,h4,fun j hj=>⟨(h5 j hj).1.imp id (fun h=>⟨h.1,Ya⟩),(h5 j hj).2⟩⟩
theorem LsC.keep (h:LsC r e D T B b l A c w) (hT :∀j cur f,¬T j (some (.cells cur e f))) (hs:w.heap.size≤w'.heap.size) (hk :∀j,j<b→D j∨B≤j→¬T j w.heap[j]?→w'.heap[j]? = w.heap[j]?):LsC r e D T B b l A c w':=by
 obtain ⟨hb,hd,ha,C,h3,h4,h5⟩:=h;have hCb :∀j,C j→j<b:=fun j hj=>(h5 j hj).1.elim (hd j) (fun h=>h.2);have hkC :∀j,C j→w'.heap[j]? = w.heap[j]?:=fun j hj=>hk j (hCb j hj) ((h5 j hj).1.imp id (fun h=>h.1)) (h5 j hj).2;refine ⟨Ya,hd,ha,C,h3.keep hs (fun j hj _=>⟨hj,hkC j hj⟩) (fun k hv=>⟨?_,h3.off k hv⟩),h4,fun j hj=>⟨(h5 j hj).1,by rw [hkC j hj];exact (h5 j hj).2⟩⟩;obtain ⟨css,Od,_⟩:=h3;rcases A with _|a
 · cases hv
 · simp only [Value.ownBlock,Option.some.injEq] at hv
   have h6:=ha a rfl;rw [hv] at h6;refine hk k h6.2 (.inr h6.1) ?_;rcases Od.2 with ⟨hv2,_⟩|⟨g,cap,cur,hv2,_,hg,_⟩
   · cases hv2
   · injection hv2 with hv2
     injection hv2 with hv2;subst hv2;obtain rfl:g=k:=hv;rw [hg];exact hT _ _ _
theorem LsC.new_ (h:LsC r e D T B b l A c w) (hT :∀j cur f,¬T j (some (.cells cur e f))) (hb:Below w.heap.size w w'):LsC r e D T B b l A c w':=
 h.keep hT hb.size (fun j hj _ _=>hb.block j (Zsw hj h.1))
theorem LsC.row (h:LsC r e D T B b l A c w):RowR r (fun j=>(D j∨(B≤j∧j<b))∧(¬T j w.heap[j]?∨∃a,A=some a∧a.block=j)) w A c l:=by
 obtain ⟨hb,hd,ha,C,h3,h4,h5⟩:=h;exact h3.row (fun j hj=>⟨(h5 j hj).1,.inl (h5 j hj).2⟩) (fun a e=>⟨.inr (ha a e),.inr ⟨a,e,rfl⟩⟩)
theorem LsC.obj (h:LsC r e D T B b l A c w) (j:Nat) (hj :∃a,A=some a∧a.block=j):B≤j∧j<b∧∃cur,w.heap[j]? = some (.cells cur e (0,0)):=by
 obtain ⟨_,_,ha,C,⟨css,Od,_⟩,_⟩:=h;obtain ⟨a,rfl,rfl⟩:=hj;refine ⟨(ha a rfl).1,(ha a rfl).2,?_⟩;rcases Od.2 with ⟨hv,_⟩|⟨g,cap,cur,hv,_,hg,_⟩
 · cases hv
 · injection hv with hv;injection hv with hv;subst hv
   exact ⟨cur,hg⟩
theorem LsC.rowB (h:LsC r e D T B b l A c w):RowR r (fun j=>D j∨(B≤j∧j<b)) w A c l:=h.row.weaken fun _ h=>h.1
theorem LsC.lenA (h:LsC r e D T B b l A c w):l.length≤c∧c≤maxLen:=⟨h.row.1,h.row.2.1⟩
theorem LsC.more {C:Nat→Prop}{y:α}{v':Value}(hb:b≤w.heap.size) (hd :∀j,D j→j<b) (ha:AIn A (fun j=>B≤j∧j<b)) (h4 :∀j,D j→C j) (h5 :∀j,C j→(D j∨(B≤j∧j<w.heap.size))∧¬T j w.heap[j]?) (hB:B≤w.heap.size)
 (hC :∀k,(Value.slice A l.length c).ownBlock=some k→¬C k) (hap:Z5u r e C w (.slice A l.length c) (l ++ [y]) v' w') :
 ∃A' c',v' = .slice A' (l ++ [y]).length c'∧LsC r e D T B w'.heap.size (l ++ [y]) A' c' w'∧Fr (fun j=>∃a,A=some a∧a.block=j) w w':=by
 obtain ⟨h1,h2,h3⟩:=hap;obtain ⟨A',c',rfl,_,_,Ml⟩:=h1.form
 have hF:Fr (fun j=>∃a,A=some a∧a.block=j) w w':=(Fr.refl _ w).grown h2 (fun k hk=>by
  rcases A with _|a
  · cases hk
  · simp only [Value.ownBlock,Option.some.injEq] at hk
    exact .inl ⟨a,rfl,hk⟩)
 have jq :∀j,C j→j<w.heap.size:=fun j hj=>(h5 j hj).1.elim (fun h=>Zsw (hd j h) hb) (fun h=>h.2);have hkC :∀j,C j→w'.heap[j]? = w.heap[j]?:=fun j hj=>hF.block j (jq j hj) (fun ⟨a,e1,e2⟩=>hC j (by rw [e1];simp [Value.ownBlock,e2]) hj);refine ⟨A',c',rfl,⟨Zsu _,fun j hj=>Zsw (hd j hj) (Zt6 hb hF.size),fun a e1=>⟨?_,(Ml a e1).1⟩,C,h1,h4,fun j hj=>⟨(h5 j hj).1.imp id (fun h=>⟨h.1,Zsw h.2 hF.size⟩),by rw [hkC j hj];exact (h5 j hj).2⟩⟩,hF⟩;subst e1;rcases h3 with h3|h3
 · rcases A with _|a2
   · simp [Value.ownBlock] at h3
   · have e:a.block=a2.block:=by simpa [Value.ownBlock] using h3
     rw [e];exact (ha a2 rfl).1
 · have e:a.block=w.heap.size:=by simpa [Value.ownBlock] using h3
   rw [e];exact hB
end
theorem RowR.plus {α:Type}{r:RepT α}{D:Nat→Prop}{w w':World}{A:Option Addr}{c:Nat}{l:List α}(h:RowR r D w A c l) (hb:Below w.heap.size w w'):RowR r (Plus D w w') w' A c l:=h.keep hb.size (fun j hj hl=>⟨.inl hj,hb.block j hl⟩)
section
variable {P:Program}{α:Type}{r:RepT α}(w:World)
theorem Z57 {ops:Array Oper}{rest:List Oper}{o:Oper}{a:Act}{Q:Exit→Act→World→Prop}(hgd:o.guard=none) (s x:Operand) (t:TypeId)
 (ho:o.op = .call { callee:=.builtin .append,args:=#[s,x],argTypes:=#[t,t] })
 (e:TypeId) (i:TypeInfo) (z:Value) (size bytes:Nat) (ht:P.underlying t=some (.slice e)) (hi:P.info? e=some i) (hz:i.zero=some z)
 (hsize:i.size=size) (hby:i.bytes=bytes) (hzs:z.cells.size=size) (hrs:r.size=size) (hsz:0<size)
 {D:Nat→Prop}{T:Nat→Option Obj→Prop}{B b:Nat}{l:List α}{A:Option Addr}{c:Nat}(hL:LsC r e D T B b l A c w) (hB:B≤w.heap.size) (hs:a.eval s = .slice A l.length c)
 (ad:Addr) (n:Nat) (y:α) (cs:List Value) (hx:a.eval x = .slice (some ad) 1 n)
 (hnews :∀j u,cs[j]? = some u→w.cell? (ad.add j)=some u) (h1 :∀u∈cs,u.oneCell'=true)
 (E:Nat→Prop) (hE :∀j,E j→(D j∨(B≤j∧b≤j∧j<w.heap.size))∧¬T j w.heap[j]?) (he2:r.rep E w y cs)
 (h63:l.length+1≤maxLen) (hbytes:(l.length+1)*bytes≤140737488355328)
 (h :∀A' c' w',LsC r e D T B w'.heap.size (l ++ [y]) A' c' w'→Fr (fun j=>∃a,A=some a∧a.block=j) w w'→wpList P ops Q rest (a.put o.dst (.slice A' (l ++ [y]).length c')) w') :
 wpList P ops Q (o :: rest) a w:=by
 obtain ⟨hb,hd,ha,C,h3,h4,h5⟩:=hL;refine Yfj ?_;intro jq
 have dv :∀k,(Value.slice A l.length c).ownBlock=some k→¬(C k∨E k):=fun k hv hk=>by
  exact Y5a
 refine Ycw ?_;intro Bf;refine Z3d w hgd s x t ho e i z size bytes ht hi hz hsize hby hzs hrs hsz (fun j=>C j∨E j) jq _ l hs Bf ad n y cs hx hnews h1 (r.keep (Zsu _) (fun j hj _=>⟨.inr hj,rfl⟩) he2) h63 hbytes (fun v' w' hap=>?_);exact Ydb
theorem Zcr {ops:Array Oper}{o:Oper}{a:Act}{K:Act→World→Prop}{Q:Exit→Act→World→Prop}{EE:Prop}(hgd:o.guard=none) (s x:Operand) (t:TypeId)
 (ho:o.op = .call { callee:=.builtin .append,args:=#[s,x],argTypes:=#[t,t] })
 (e:TypeId) (i:TypeInfo) (z:Value) (size bytes:Nat) (ht:P.underlying t=some (.slice e)) (hi:P.info? e=some i) (hz:i.zero=some z)
 (hsize:i.size=size) (hby:i.bytes=bytes) (hzs:z.cells.size=size) (hrs:r.size=size) (hsz:0<size)
 {D:Nat→Prop}{T:Nat→Option Obj→Prop}{B b:Nat}{l:List α}{A:Option Addr}{c:Nat}(hL:LsC r e D T B b l A c w) (hB:B≤w.heap.size) (hs:a.eval s = .slice A l.length c)
 (ad:Addr) (n:Nat) (y:α) (cs:List Value) (hx:a.eval x = .slice (some ad) 1 n)
 (hnews :∀j u,cs[j]? = some u→w.cell? (ad.add j)=some u) (h1 :∀u∈cs,u.oneCell'=true)
 (E:Nat→Prop) (hE :∀j,E j→(D j∨(B≤j∧b≤j∧j<w.heap.size))∧¬T j w.heap[j]?) (he2:r.rep E w y cs)
 (h63:l.length+1≤maxLen) (hbytes:(l.length+1)*bytes≤140737488355328)
 (h :∀A' c' w',LsC r e D T B w'.heap.size (l ++ [y]) A' c' w'→Fr (fun j=>∃a,A=some a∧a.block=j) w w'→K (a.put o.dst (.slice A' (l ++ [y]).length c')) w') :
 if Region.wanted o (yielded ops a.tmps)=true then Oper.wp P o a w K Q else EE:=by
 obtain ⟨hb,hd,ha,C,h3,h4,h5⟩:=hL;refine Yfj ?_;intro jq
 have dv :∀k,(Value.slice A l.length c).ownBlock=some k→¬(C k∨E k):=fun k hv hk=>by
  exact Y5a
 refine Ycw ?_;intro Bf;refine Z65 w hgd s x t ho e i z size bytes ht hi hz hsize hby hzs hrs hsz (fun j=>C j∨E j) jq _ l hs Bf ad n y cs hx hnews h1 (r.keep (Zsu _) (fun j hj _=>⟨.inr hj,rfl⟩) he2) h63 hbytes (fun v' w' hap=>?_);exact Ydb
end
end
end Go.Proofs.YtcnnofgaifcgaaaGreat
