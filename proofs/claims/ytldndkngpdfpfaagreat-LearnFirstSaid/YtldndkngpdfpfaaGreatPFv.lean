/-
  Texts put together: BkState, BkWalkP, BkPlain2, BkState2, BkState3.
-/
import Derived.Test.YtldndkngpdfpfaaGreatPFu
namespace Go.Proofs.YtldndkngpdfpfaaGreat
open Lib (hid)
set_option maxRecDepth 100000
set_option maxHeartbeats 32000000
section
open Go.RowKit
def Only (ts:List Nat) (w w':World):Prop:=∀(g:Nat) (t:TypeId) (cs:Array Value),t ∉ ts→Blk w g t cs→Blk w' g t cs
structure Mine (ts:List Nat) (K:Nat→Prop) (w w':World):Prop where
 only:Only ts w w'
 fr:Fr (fun k=>¬K k) w w'
section
variable {ts ts':List Nat} {K K' E:Nat→Prop} {a b c w w':World}
theorem Mine.trans (h:Mine ts K a b) (k:Mine ts K b c):Mine ts K a c:=⟨fun g t cs hn hb=>k.only g t cs hn (h.only g t cs hn hb),h.fr.trans k.fr⟩
theorem Mine.new_ (h:Below w.heap.size w w'):Mine ts K w w':=⟨fun _ _ _ _ hb=>hb.new_ h,Fr.of_new h⟩
theorem Mine.up (h:Mine ts K w w') (hs : ∀t,t∈ts→t∈ts'):Mine ts' K w w':=⟨fun g t cs hn hb=>h.only g t cs (fun hm=>hn (hs t hm)) hb,h.fr⟩
theorem Mine.cell {p:Addr} {t:TypeId} {cs:Array Value} (hb:Blk w p.block t cs) (ht:t∈ts) (hK : ¬K p.block) (u:Value):Mine ts K w (w.setCell p u):=
 ⟨fun g t' cs' hn hg=>hg.far (fun e=>by subst e;exact hg.ne_ hb (fun e=>hn (e ▸ ht)) rfl) u,(Fr.refl _ w).setCell (.inl hK) u⟩
theorem Z0j {e:TypeId} {size n:Nat} {v:Value} {xs:List Value} (h:w.ownsRow 0 e size v n xs) (ho:Only ts w w') (he:e ∉ ts):w'.ownsRow 0 e size v n xs:=
 ⟨h.1,h.2.imp id fun ⟨g,cap,cur,hv,h0,hg,hr⟩=>⟨g,cap,cur,hv,h0,ho g e cur he hg,hr⟩⟩
theorem Z1w.only {α:Type} {tSet tE size:Nat} {cells:α→List Value} {b:Nat} {sn:Bool} {A:Option Addr} {c:Nat} {l:List α} (h:Z1w tSet tE size cells w b sn A c l) (ho:Only ts w w') (h1:tSet ∉ ts) (h2:tE ∉ ts):Z1w tSet tE size cells w' b sn A c l:=
 ⟨ho _ _ _ h1 h.blk,Z0j h.row ho h2⟩
theorem Zjl {α:Type} {tSet tE size:Nat} {cells:α→List Value} {b:Nat} {sn:Bool} {A:Option Addr} {c:Nat} {l:List α} {g:Nat} {t:TypeId} {cs:Array Value}
 (hS:Z1w tSet tE size cells w b sn A c l) (hB:Blk w g t cs) (h1:t≠tSet) (h2:t≠tE) : ¬Z0y b sn A g:=by
 rintro (rfl | ⟨_,a,ha,rfl⟩)
 · exact hB.ne_ hS.blk h1 rfl
 · have:=Z01 hS.row hB (Ne.symm h2)
   subst ha;exact this (by simp [Value.ownBlock])
theorem Mine.set_ {α:Type} {tSet tE size:Nat} {cells:α→List Value} {b:Nat} {sn:Bool} {A:Option Addr} {c:Nat} {l:List α} (hS:Z1w tSet tE size cells w b sn A c l) (hF:Fr (Z0y b sn A) w w') (hb : ¬K b) (hA:AIn A (fun k=>¬K k)):Mine [tSet,tE] K w w':=
 ⟨fun g t cs hn hg=>hg.fr hF (Zjl hS hg (fun e=>hn (by simp [e])) (fun e=>hn (by simp [e]))),hF.mono (fun k _ hk=>by
  rcases hk with rfl | ⟨_,a,ha,rfl⟩
  · exact hb
  · exact hA a ha)⟩
def OSet {α:Type} (tSet tE size:Nat) (cells:α→List Value) (K:Nat→Prop) (w:World) (b:Nat) (l:List α):Prop:=
 ∃sn A c,Z1w tSet tE size cells w b sn A c l∧¬K b∧AIn A (fun k=>¬K k)
section
variable {α:Type} {tSet tE size:Nat} {cells:α→List Value} {bb:Nat} {l l':List α}
theorem OSet.mine (h:OSet tSet tE size cells K w bb l) (hm:Mine ts K w w') (h1:tSet ∉ ts) (h2:tE ∉ ts):OSet tSet tE size cells K w' bb l:=by
 obtain ⟨sn,A,c,g1,g2,g3⟩:=h;exact ⟨sn,A,c,g1.only hm.only h1 h2,g2,g3⟩
theorem OSet.theirs {M:Nat→Prop} (h:OSet tSet tE size cells K w bb l) (hF:Fr M w w') (hM : ∀k,M k→K k) (hK : ∀k,K' k→K k∨w.heap.size≤k):OSet tSet tE size cells K' w' bb l:=by
 obtain ⟨sn,A,c,g1,g2,g3⟩:=h;have hl:=g1.lt;have hr:=g1.row_lt;refine ⟨sn,A,c,g1.fr hF (fun h=>g2 (hM _ h)) (fun a ha h=>g3 a ha (hM _ h)),fun h=>(hK _ h).elim g2 (fun h=>by omega),fun a ha h=>(hK _ h).elim (g3 a ha) (fun h=>by have:=hr a ha;omega)⟩
theorem OSet.moved {sn:Bool} {A:Option Addr} {sn':Bool} {A':Option Addr} {c':Nat} (hl : ∀k,K k→k<w.heap.size) (h1:Z1w tSet tE size cells w' bb sn' A' c' l') (hM:Z1p w sn A sn' A') (hb : ¬K bb) (hA:AIn A (fun k=>¬K k)):OSet tSet tE size cells K w' bb l':=by
 refine ⟨sn',A',c',h1,hb,?_⟩;rcases hM with ⟨_,rfl⟩ | ⟨_,g,hg,rfl⟩
 · exact hA
 · intro a ha hk
   cases ha;have:=hl _ hk;dsimp only at this;omega
end
abbrev Zcm:=OSet (α:=Int) 304 259 1 Bnum.cells
abbrev OPgR:=OSet (α:=PgR) 333 299 7 PgR.cells
abbrev OPgT:=OSet (α:=PgT) 338 313 15 PgT.cells
abbrev OSym:=OSet (α:=Sym) 216 23 3 Sym.cells
theorem Zi9 {sb:Nat} {l:List Int} (k:Int) (h:Zcm K w sb l) (hs:Srt Z0k l) (hl : ∀k,K k→k<w.heap.size) (hn:(l.length:Int)≤100000000) :
 Calls Tryz.prog 172 #[.pointer (some ⟨sb,0,none⟩),.int .i64 k] w fun e w'=>e = .returned (.bool (!has Z0k l k))∧Zcm K w' sb (put Z0k l k)∧Mine [304,259] K w w':=by
 obtain ⟨sn,A,c,g1,g2,g3⟩:=h;refine (Zei sb c sn A l k w g1 hs hn).mono ?_;rintro e w' ⟨he,sn',A',c',h1,hF,hM⟩;exact ⟨he,OSet.moved hl h1 hM g2 g3,Mine.set_ g1 hF g2 g3⟩
theorem Zkw {sb:Nat} {l:List Sym} (x:Sym) (h:OSym K w sb l) (hs:Srt Z08 l) (hl : ∀k,K k→k<w.heap.size) (hn:(l.length:Int)≤100000000) :
 Calls Tryz.prog 86 #[.pointer (some ⟨sb,0,none⟩),.agg #[.int .i64 x.kind,.string x.text,.int .i64 x.n]] w fun e w'=>e = .returned (.bool (!has Z08 l x))∧OSym K w' sb (put Z08 l x)∧Mine [216,23] K w w':=by
 obtain ⟨sn,A,c,g1,g2,g3⟩:=h;refine (Zdi sb c sn A l x w g1 hs hn).mono ?_;rintro e w' ⟨he,sn',A',c',h1,hF,hM⟩;exact ⟨he,OSet.moved hl h1 hM g2 g3,Mine.set_ g1 hF g2 g3⟩
def Z9s (K:Nat→Prop) (w:World) (bm bp:Nat) (m:List PgR):Prop:=Blk w bm 301 #[.pointer (some ⟨bp,0,none⟩)]∧¬K bm∧OPgR K w bp m
def Z7w (K:Nat→Prop) (w:World) (bm bp:Nat) (m:List PgT):Prop:=Blk w bm 315 #[.pointer (some ⟨bp,0,none⟩)]∧¬K bm∧OPgT K w bp m
theorem Z9s.mine {bm bp:Nat} {m:List PgR} (h:Z9s K w bm bp m) (hm:Mine ts K w w') (h0:301 ∉ ts) (h1:333 ∉ ts) (h2:299 ∉ ts):Z9s K w' bm bp m:=⟨hm.only _ _ _ h0 h.1,h.2.1,h.2.2.mine hm h1 h2⟩
theorem Z7w.mine {bm bp:Nat} {m:List PgT} (h:Z7w K w bm bp m) (hm:Mine ts K w w') (h0:315 ∉ ts) (h1:338 ∉ ts) (h2:313 ∉ ts):Z7w K w' bm bp m:=⟨hm.only _ _ _ h0 h.1,h.2.1,h.2.2.mine hm h1 h2⟩
theorem Z9s.theirs {M:Nat→Prop} {bm bp:Nat} {m:List PgR} (h:Z9s K w bm bp m) (hF:Fr M w w') (hM : ∀k,M k→K k) (hK : ∀k,K' k→K k∨w.heap.size≤k):Z9s K' w' bm bp m:=
 ⟨h.1.fr hF (fun hm=>h.2.1 (hM _ hm)),fun hk=>(hK _ hk).elim h.2.1 (fun hk=>by have:=h.1.lt;omega),h.2.2.theirs hF hM hK⟩
theorem Z7w.theirs {M:Nat→Prop} {bm bp:Nat} {m:List PgT} (h:Z7w K w bm bp m) (hF:Fr M w w') (hM : ∀k,M k→K k) (hK : ∀k,K' k→K k∨w.heap.size≤k):Z7w K' w' bm bp m:=
 ⟨h.1.fr hF (fun hm=>h.2.1 (hM _ hm)),fun hk=>(hK _ hk).elim h.2.1 (fun hk=>by have:=h.1.lt;omega),h.2.2.theirs hF hM hK⟩
theorem Znh {bm bp:Nat} {m:List PgR} (x:PgR) (h:Z9s K w bm bp m) (hs:Srt Z16 m) (hl : ∀k,K k→k<w.heap.size) (hn:(m.length:Int)≤1000000) (hh:has Z16 m x=false) :
 Calls Tryz.prog 173 #[.pointer (some ⟨bm,0,none⟩),.int .i64 x.kk,.agg #[.int .i64 x.num,.int .i64 x.level,.slice x.elems.A x.elems.n x.elems.c,.slice x.holes.A x.holes.n x.holes.c,.slice x.aparts.A x.aparts.n x.aparts.c,.slice x.news.A x.news.n x.news.c]] w fun e w'=>e = .returned (.bool true)∧Z9s K w' bm bp (put Z16 m x)∧Mine [333,299] K w w':=by
 obtain ⟨hb,hbk,sn,A,c,g1,g2,g3⟩:=h;refine (Zh1 bm bp c sn A m x w hb g1 hs hn hh).mono ?_;rintro e w' ⟨he,sn',A',c',h1,hF,hM⟩;have hm:=Mine.set_ g1 hF g2 g3;exact ⟨he,⟨hm.only _ _ _ (by decide) hb,hbk,OSet.moved hl h1 hM g2 g3⟩,hm⟩
theorem Zni {bm bp:Nat} {m:List PgT} (x:PgT) (h:Z7w K w bm bp m) (hs:Srt Z0l m) (hl : ∀k,K k→k<w.heap.size) (hn:(m.length:Int)≤1000000) (hh:has Z0l m x=false) :
 Calls Tryz.prog 178 #[.pointer (some ⟨bm,0,none⟩),.int .i64 x.kk,.agg #[.int .i64 x.tr.elem.id.kind,.string x.tr.elem.id.text,.int .i64 x.tr.elem.id.n,.int .i64 x.tr.elem.attr.kind,.string x.tr.elem.attr.text,.int .i64 x.tr.elem.attr.n,.int .i64 x.tr.elem.value.kind,.string x.tr.elem.value.text,.int .i64 x.tr.elem.value.n,.bool x.tr.elem.acc,.bool x.tr.elem.goal,.int .i64 x.tr.elem.tag,.int .i64 x.tr.level,.int .i64 x.tr.cause]] w fun e w'=>e = .returned (.bool true)∧Z7w K w' bm bp (put Z0l m x)∧Mine [338,313] K w w':=by
 obtain ⟨hb,hbk,sn,A,c,g1,g2,g3⟩:=h;refine (Zh3 bm bp c sn A m x w hb g1 hs hn hh).mono ?_;rintro e w' ⟨he,sn',A',c',h1,hF,hM⟩;have hm:=Mine.set_ g1 hF g2 g3;exact ⟨he,⟨hm.only _ _ _ (by decide) hb,hbk,OSet.moved hl h1 hM g2 g3⟩,hm⟩
theorem Zng {bm bp:Nat} {m:List PgT} (k:Int) (h:Z7w K w bm bp m) (hs:Srt Z0l m) (hn:(m.length:Int)≤1000000) :
 Calls Tryz.prog 177 #[.pointer (some ⟨bm,0,none⟩),.int .i64 k] w fun e w'=>∃y:Z0e,e = .returned (.tuple #[.agg #[.int .i64 y.elem.id.kind,.string y.elem.id.text,.int .i64 y.elem.id.n,.int .i64 y.elem.attr.kind,.string y.elem.attr.text,.int .i64 y.elem.attr.n,.int .i64 y.elem.value.kind,.string y.elem.value.text,.int .i64 y.elem.value.n,.bool y.elem.acc,.bool y.elem.goal,.int .i64 y.elem.tag,.int .i64 y.level,.int .i64 y.cause],.bool (has Z0l m (zPgT k))])∧Below w.heap.size w w':=by
 obtain ⟨hb,hbk,sn,A,c,g1,g2,g3⟩:=h
 cases hh:has Z0l m (zPgT k) with
 | false=>
   refine (Zb2 bm bp c sn A m k w hb g1 hs hn hh).mono ?_;rintro e w' ⟨he,hB⟩;exact ⟨(zPgT 0).tr,he,hB⟩
 | true=>
   obtain ⟨_,_,hk,_⟩:=Zhe Z45 hs hh;refine (Zb0 bm bp c sn A m k m[rank Z0l m (zPgT k)] w hb g1 hs hn hh (Zo8 hk)).mono ?_;rintro e w' ⟨he,hB⟩;exact ⟨_,he,hB⟩
structure Prot (B:Nat) (G:(Nat→Prop)→List Int→World→Prop) (K E:Nat→Prop) (done:List Int) (w:World):Prop where
 g:G E done w
 sub : ∀k,E k→K k
 low : ∀k,k<B→K k
 lt : ∀k,K k→k<w.heap.size
def Z6i (n:Nat) (K E:Nat→Prop) (w:World) (bm bp:Nat) (R:List KR):Prop:=∃m,Z9s K w bm bp m∧Srt Z16 m∧Z32 (Zgk n (fun j=>K j∧¬E j) w) R m
theorem Z6i.mine {n bm bp:Nat} {R:List KR} (h:Z6i n K E w bm bp R) (hm:Mine ts K w w') (h0:301 ∉ ts) (h1:333 ∉ ts) (h2:299 ∉ ts):Z6i n K E w' bm bp R:=by
 obtain ⟨m,g1,g2,g3⟩:=h;exact ⟨m,g1.mine hm h0 h1 h2,g2,g3.imp fun a b hr=>hr.keep hm.fr.size (fun k hk hl=>⟨hk,hm.fr.block k hl (fun h=>h hk.1)⟩)⟩
def Z7x (K:Nat→Prop) (w:World) (v:Value) (todo:List Int):Prop:=QRow w 3 1 v todo.length (todo.flatMap Int.cells1)∧∀k,v.ownBlock=some k→k<w.heap.size∧¬K k
theorem QRow.only {e:TypeId} {size n:Nat} {v:Value} {xs:List Value} (h:QRow w e size v n xs) (ho:Only ts w w') (he:e ∉ ts) (_:0<size):QRow w' e size v n xs:=by
 obtain ⟨A,cap,rfl,h1,h2,h3,h4,h5⟩:=h;refine ⟨A,cap,rfl,h1,h2,h3,h4,fun b hb=>?_⟩;obtain ⟨g1,g2,g3⟩:=h5 b hb;refine ⟨g1,g2.imp id (fun ⟨cur,hc,hz⟩=>⟨cur,ho _ _ _ he hc,hz⟩),fun j u hu=>?_⟩;rcases g2 with g2 | ⟨cur,hc,hz⟩
 · have:xs = []:=List.eq_nil_of_length_eq_zero (by rw [h3];have:n=0:=by omega
                                                   rw [this];omega)
   subst this;simp at hu
 · have:=g3 j u hu
   rw [hc.cell] at this;rw [(ho _ _ _ he hc).cell];exact this
theorem Z7x.mine {v:Value} {todo:List Int} (h:Z7x K w v todo) (hm:Mine ts K w w') (h1:3 ∉ ts):Z7x K w' v todo:=⟨h.1.only hm.only h1 (by decide),fun k hk=>⟨Zo3 (h.2 k hk).1 hm.fr.size,(h.2 k hk).2⟩⟩
theorem Z7x.theirs {M:Nat→Prop} {v:Value} {todo:List Int} (h:Z7x K w v todo) (hF:Fr M w w') (hM : ∀k,M k→K k) (hK : ∀k,K' k→K k∨w.heap.size≤k):Z7x K' w' v todo:=
 ⟨h.1.keep hF (fun k hk hm=>(h.2 k hk).2 (hM k hm)) (fun k hk=>(h.2 k hk).1),fun k hk=>⟨Zo3 (h.2 k hk).1 hF.size,fun hq=>(hK k hq).elim (h.2 k hk).2 (fun hq=>by have:=(h.2 k hk).1;omega)⟩⟩
end
section
variable {ts:List Nat} {n B gf:Nat} {lb:Array Value} {look:Int→Z0f×Bool} {G:(Nat→Prop)→List Int→World→Prop} {K E:Nat→Prop} {done todo:List Int} {w w':World} {sb bm bp:Nat} {v:Value}
theorem Prot.mine (hf:Z47 n B gf lb look G) (h:Prot B G K E done w) (hm:Mine ts K w w'):Prot B G K E done w':=
 ⟨hf.steady h.g hm.fr (fun k hk=>⟨fun he=>hk (h.sub k he),Nat.le_of_not_lt fun hl=>hk (h.low k hl)⟩),h.sub,h.low,fun k hk=>Zo3 (h.lt k hk) hm.fr.size⟩
structure St1 (n B:Nat) (look:Int→Z0f×Bool) (G:(Nat→Prop)→List Int→World→Prop) (K E:Nat→Prop) (done todo:List Int) (sb bm bp:Nat) (v:Value) (w:World):Prop where
 p:Prot B G K E done w
 s:Zcm K w sb (puts Z0k [] done)
 m:Z6i n K E w bm bp (Z2w look done)
 q:Z7x K w v todo
theorem St1.new_ (hf:Z47 n B gf lb look G) (h:St1 n B look G K E done todo sb bm bp v w) (hb:Below w.heap.size w w'):St1 n B look G K E done todo sb bm bp v w':=
 have hm:Mine [] K w w':=Mine.new_ hb
 ⟨h.p.mine hf hm,h.s.mine hm (by simp) (by simp),h.m.mine hm (by simp) (by simp) (by simp),h.q.mine hm (by simp)⟩
end
section
variable {n B gf:Nat} {lb:Array Value} {look:Int→Z0f×Bool} {G:(Nat→Prop)→List Int→World→Prop} {K E E':Nat→Prop} {done todo:List Int} {w w':World} {sb bm bp:Nat} {v:Value} {k:Int}
theorem Zdh {K:Nat→Prop} {w w':World} : ∀j,Plus K w w' j→K j∨w.heap.size≤j:=fun _ hj=>hj.imp id (fun h=>h.1)
theorem St1.seen (hf:Z47 n B gf lb look G) (h:St1 n B look G K E done todo sb bm bp v w) (hs:Zcm K w' sb (put Z0k (puts Z0k [] done) k)) (hm:Mine [304,259] K w w') :
 Prot B G K E done w'∧Zcm K w' sb (puts Z0k [] (done ++ [k]))∧Z6i n K E w' bm bp (Z2w look done)∧Z7x K w' v todo:=
 ⟨h.p.mine hf hm,by rw [Z23];exact hs,h.m.mine hm (by decide) (by decide) (by decide),h.q.mine hm (by decide)⟩
theorem St1.found (hE : ∀j,E j→K j) (hp:Prot B G K E done w) (hs:Zcm K w sb (puts Z0k [] (done ++ [k]))) (hm:Z6i n K E w bm bp (Z2w look done)) (hq:Z7x K w v todo)
 (g1:G E' (done ++ [k]) w') (g2 : ∀j,E' j→Plus E w w' j) (g3:Fr E w w') :
 Prot B G (Plus K w w') E' (done ++ [k]) w'∧Zcm (Plus K w w') w' sb (puts Z0k [] (done ++ [k]))∧Z6i n (Plus K w w') E' w' bm bp (Z2w look done)∧Z7x (Plus K w w') w' v todo:=by
 refine ⟨⟨g1,fun j hj=>(g2 j hj).imp (hE j) id,fun j hj=>.inl (hp.low j hj),fun j hj=>?_⟩,hs.theirs g3 hE Zdh,?_,hq.theirs g3 hE Zdh⟩
 · rcases hj with hj | hj
   · exact Zo3 (hp.lt j hj) g3.size
   · exact hj.2
 · obtain ⟨m,h1,h2,h3⟩:=hm
   refine ⟨m,h1.theirs g3 hE Zdh,h2,h3.imp fun a b hr=>hr.keep g3.size (fun j hj hl=>⟨⟨.inl hj.1,fun he=>?_⟩,g3.block j hl hj.2⟩)⟩;rcases g2 j he with h | h
   · exact hj.2 h
   · omega
theorem Zfs {R:List KR} {r:Z0f} {A1:Option Addr} {c1:Nat} {A2:Option Addr} {c2:Nat} {A3:Option Addr} {c3:Nat} {A4:Option Addr} {c4:Nat} (hm:Z6i n K E w bm bp R) (hl : ∀k,K k→k<w.heap.size) (hR:R.length≤100000) (hh:has Z5f R (k,r)=false)
 (hr:Z7f n (fun j=>K j∧¬E j) w r A1 c1 A2 c2 A3 c3 A4 c4) :
 Calls Tryz.prog 173 #[.pointer (some ⟨bm,0,none⟩),.int .i64 k,.agg #[.int .i64 r.num,.int .i64 r.level,.slice A1 r.elems.length c1,.slice A2 r.holes.length c2,.slice A3 r.aparts.length c3,.slice A4 r.news.length c4]] w fun e w'=>e = .returned (.bool true)∧Z6i n K E w' bm bp (put Z5f R (k,r))∧Mine [333,299] K w w':=by
 obtain ⟨m,h1,h2,h3⟩:=hm;have hrel:Zgk n (fun j=>K j∧¬E j) w (k,r) ⟨k,r.num,r.level,⟨A1,r.elems.length,c1⟩,⟨A2,r.holes.length,c2⟩,⟨A3,r.aparts.length,c3⟩,⟨A4,r.news.length,c4⟩⟩:=⟨rfl,rfl,rfl,rfl,rfl,rfl,rfl,hr⟩;obtain ⟨p1,p2⟩:=Z32.put (fun a b h=>h.1) h3 hrel;rw [hh] at p1;have hml:=h3.length;refine (Znh ⟨k,r.num,r.level,⟨A1,r.elems.length,c1⟩,⟨A2,r.holes.length,c2⟩,⟨A3,r.aparts.length,c3⟩,⟨A4,r.news.length,c4⟩⟩ h1 h2 hl (by omega) p1.symm).mono ?_;rintro e w' ⟨he,g1,g2⟩;exact ⟨he,⟨_,g1,h2.put Z5q _,p2.imp fun a b hr=>hr.keep g2.fr.size (fun j hj hl=>⟨hj,g2.fr.block j hl (fun h=>h hj.1)⟩)⟩,g2⟩
end
end
section
open Go.RowKit Go.Shelf
attribute [local go_sem] Oper.semAt_some
def Z0v (lv:Int) (l:List Z0e) (k:Nat):List Int:=((l.take k).filter fun e=>decide (lv≤e.level) && decide (0<e.cause)).map Z0e.cause
theorem Z6x (lv:Int) (l:List Z0e):Z0v lv l 0 = []:=by simp [Z0v]
theorem Z7u (lv:Int) (r:Z0f):Z0v lv r.elems r.elems.length=Z5p lv r:=by simp [Z0v,Z5p]
theorem Zc5 {lv:Int} {l:List Z0e} {k:Nat} (hk:k<l.length) (h1:lv≤l[k].level) (h2:0<l[k].cause):Z0v lv l (k+1)=Z0v lv l k ++ [l[k].cause]:=by
 unfold Z0v;rw [← Z37 hk,List.filter_append,Zor];simp [h1,h2]
theorem Z8q {lv:Int} {l:List Z0e} {k:Nat} (hk:k<l.length) (h : ¬(lv≤l[k].level∧0<l[k].cause)):Z0v lv l (k+1)=Z0v lv l k:=by
 unfold Z0v;rw [← Z37 hk,List.filter_append,Zor]
 have:(decide (lv≤l[k].level) && decide (0<l[k].cause))=false:=by
  simp only [Bool.and_eq_false_iff,decide_eq_false_iff_not];rcases Classical.em (lv≤l[k].level) with h3 | h3
  · exact .inr (fun h4=>h ⟨h3,h4⟩)
  · exact .inl h3
 simp [this]
end
section
open Go.RowKit
def pg (e:Z0e):PgT:=⟨e.elem.tag,e⟩
def Z36 (lv:Int) (l:List Z0e) (m:Nat):List Z0e:=((l.take m).filter fun e=>decide (e.level<lv)).map bare
theorem Zct (lv:Int) (l:List Z0e):Z36 lv l 0 = []:=by simp [Z36]
theorem Zfi (lv:Int) (r:Z0f):Z36 lv r.elems r.elems.length=lows lv r:=by simp [Z36,lows]
theorem Zfk {lv:Int} {l:List Z0e} {k:Nat} (hk:k<l.length) (h1:l[k].level<lv):Z36 lv l (k+1)=Z36 lv l k ++ [bare l[k]]:=by
 unfold Z36;rw [← Z37 hk,List.filter_append,Zor];simp [h1]
theorem Zhy {lv:Int} {l:List Z0e} {k:Nat} (hk:k<l.length) (h : ¬l[k].level<lv):Z36 lv l (k+1)=Z36 lv l k:=by
 unfold Z36;rw [← Z37 hk,List.filter_append,Zor];simp [h]
theorem Zfj (lv:Int) (l:List Z0e) (m:Nat):(Z36 lv l m).length≤l.length:=by
 unfold Z36;rw [Zoz];exact Zod (List.length_filter_le _ _) (by simp;omega)
def gpg (lv:Int) (R:List KR):List PgT:=puts Z0l [] ((R.flatMap fun p=>lows lv p.2).map pg)
theorem Zit (lv:Int) (R:List KR):Srt Z0l (gpg lv R):=Srt.puts Z45 _ Srt.nil
theorem Zk4 (lv:Int) (R:List KR) (p:KR):gpg lv (R ++ [p])=puts Z0l (gpg lv R) ((lows lv p.2).map pg):=by
 unfold gpg puts;rw [Zog,Zor,List.foldl_append];simp
theorem Z8h {α β:Type} (f:α→List β) (N:Nat) : ∀(l:List α),(∀x∈l,(f x).length≤N)→(l.flatMap f).length≤N*l.length
 | [],_=>by simp
 | x :: l,h=>by
   have h1:=h x (by simp);have h2:=Z8h f N l (fun y hy=>h y (by simp [hy]));rw [Zpc,Zoi,Zol,Nat.mul_add];omega
theorem Zhr {lv:Int} {R:List KR} (h : ∀p∈R,p.2.elems.length≤1000):(gpg lv R).length≤1000*R.length:=by
 have h1:=Z13 Z45 ((R.flatMap fun p=>lows lv p.2).map pg) (l:=[]) Srt.nil
 have h2:=Z8h (fun p:KR=>lows lv p.2) 1000 R (fun p hp=>by
  have:=h p hp;unfold lows;rw [Zoz]
  exact Zod (List.length_filter_le _ _) this)
 simp only [Zp3,Zoz] at h1;unfold gpg;omega
theorem Zlv {α β:Type} (f:α→β) (p:β→Bool) (l:List α):(l.map f).any p=l.any fun x=>p (f x):=by induction l<;>simp_all
theorem Zmx (l:List Z0e) (e:Z0e):put Z0l (l.map pg) (pg e)=(put Ze0 l e).map pg:=by
 (have h1:has Z0l (l.map pg) (pg e)=has Ze0 l e:=by unfold has;rw [Zlv];rfl);unfold put;rw [h1]
 split
 · rfl
 · unfold below Z3u
   rw [List.filter_map,List.filter_map,Zor,List.map_cons];rfl
theorem Zlk (lv:Int) (R:List KR):gpg lv R=(Z5h lv R).map pg:=by
 unfold gpg Z5h puts;generalize (R.flatMap fun p=>lows lv p.2)=L
 have : ∀(L:List Z0e) (l:List Z0e),(L.map pg).foldl (put Z0l) (l.map pg)=(L.foldl (put Ze0) l).map pg:=by
  intro L
  induction L with
  | nil=>intro l;rfl
  | cons e L ih=>intro l;rw [List.map_cons,List.foldl_cons,List.foldl_cons,Zmx,ih]
 exact this L []
theorem Zd3 (R:List KR) (p:KR):Z2u (R ++ [p])=p.2.news.foldl once (Z2u R):=by
 unfold Z2u;rw [Zog,List.foldl_append];simp
theorem Zbo {done l:List Sym} {k:Sym}:k∈puts Z08 l done↔k∈l∨k∈done:=by
 induction done generalizing l with
 | nil=>simp [puts]
 | cons x done ih=>
   have e:puts Z08 l (x :: done)=puts Z08 (put Z08 l x) done:=rfl;rw [e,ih,Zoj]
   have hp:k∈put Z08 l x↔k∈l∨k=x:=by
    constructor
    · exact Zcu
    · intro h
      unfold put
      split
      · rename_i hh
        rcases h with h | h
        · exact h
        · obtain ⟨y,hy,e⟩:=Z4y.1 hh
          rw [h,← Z3x.1 e];exact hy
      · rename_i hh
        simp only [Zp7,Zoj];rcases h with h | h
        · have:=Z35.1 (by simpa using hh) k h
          rcases Int.lt_trichotomy (Z08 k x) 0 with h2 | h2 | h2
          · exact .inl (Z4p.2 ⟨h,h2⟩)
          · exact absurd h2 this
          · exact .inr (.inr (Z4o.2 ⟨h,h2⟩))
        · exact .inr (.inl h)
   rw [hp];constructor
   · rintro ((h | h) | h)
     · exact .inl h
     · exact .inr (.inl h)
     · exact .inr (.inr h)
   · rintro (h | h | h)
     · exact .inl (.inl h)
     · exact .inl (.inr h)
     · exact .inr h
theorem Z8j (l:List Sym) (k:Sym):has Z08 (puts Z08 [] l) k=decide (k∈l):=by
 by_cases h:k∈l
 · rw [Zoe h]
   exact Z4y.2 ⟨k,Zbo.2 (.inr h),Z3x.2 rfl⟩
 · rw [Zo1 h,Z35]
   intro y hy e;rcases Zbo.1 hy with h2 | h2
   · cases h2
   · exact h (by rw [← Z3x.1 e];exact h2)
theorem Zeg (L l:List Sym):(L.foldl once l).length≤l.length+L.length:=by
 induction L generalizing l with
 | nil=>simp
 | cons s L ih=>
   rw [List.foldl_cons];have:=ih (once l s);(have h2:(once l s).length≤l.length+1:=by unfold once;split<;>simp);simp only [Zol];omega
theorem Zkd {R:List KR} (h : ∀p∈R,p.2.news.length≤1000):(Z2u R).length≤1000*R.length:=by
 have h1:=Zeg (R.flatMap fun p=>p.2.news) [];have h2:=Z8h (fun p:KR=>p.2.news) 1000 R h;unfold Z2u;simp only [Zp3] at h1;omega
def Zeu {α:Type} (r:RepT α):Prop:=∀{D:Nat→Prop} {w:World} {a:α} {cs:List Value},r.rep D w a cs→r.rep (fun k=>D k∧Z1h w k) w a cs
theorem RowR.solid {α:Type} {r:RepT α} (hs:Zeu r) (h0:0<r.size) {D:Nat→Prop} {w:World} {A:Option Addr} {c:Nat} {l:List α} (h:RowR r D w A c l):RowR r (fun k=>D k∧Z1h w k) w A c l:=by
 refine ⟨h.1,h.2.1,fun hl=>?_⟩;obtain ⟨b,off,h1,h2,h3,h4⟩:=h.2.2 hl;refine ⟨b,off,h1,⟨h2,?_⟩,h3,fun k hk=>?_⟩
 · obtain ⟨cs,g1,g2⟩:=h4 0 hl
   have hlen:=r.len g1;have:=g2 0 cs[0] (Zo8 (by omega));exact Zh5 this
 · obtain ⟨cs,g1,g2⟩:=h4 k hk
   exact ⟨cs,hs g1,g2⟩
theorem Z9o {α:Type} (size:Nat) (cells:α→List Value) (h : ∀a,(cells a).length=size):Zeu (RepT.flat size cells h):=fun h=>h
theorem Z5w:Zeu Z0g:=by
 rintro D w a cs ⟨A1,c1,h0,h1⟩;exact ⟨A1,c1,h0,h1.solid (Z9o _ _ _) (by decide)⟩
theorem Zdv {n:Nat} (ih:Zeu (Z0x n)):Zeu (Z0x (n+1)):=by
 rintro D w a cs ⟨A1,c1,A2,c2,A3,c3,h0,h1,h2,h3⟩;exact ⟨A1,c1,A2,c2,A3,c3,h0,h1.solid Z5w (by decide),h2.solid Z5w (by decide),h3.solid ih (by rw [Z50];decide)⟩
theorem Zg7 (n:Nat):Zeu (Z0x n):=by
 induction n with
 | zero=>intro D w a cs h;exact h.elim
 | succ n ih=>exact Zdv ih
section
variable {B:Nat} {K K' C:Nat→Prop} {w w':World}
theorem OSet.priv {α:Type} {tSet tE size:Nat} {cells:α→List Value} {b:Nat} {l:List α} (h:OSet tSet tE size cells K w b l) (hp:Priv B w w'):OSet tSet tE size cells K w' b l:=by
 obtain ⟨sn,A,c,g1,g2,g3⟩:=h;exact ⟨sn,A,c,g1.priv hp,g2,g3⟩
theorem OSet.cls {α:Type} {tSet tE size:Nat} {cells:α→List Value} {b:Nat} {l:List α} (h:OSet tSet tE size cells K w b l) (hk : ∀k,Z1h w k→K' k→K k):OSet tSet tE size cells K' w b l:=by
 obtain ⟨sn,A,c,g1,g2,g3⟩:=h;refine ⟨sn,A,c,g1,fun h=>g2 (hk _ g1.blk.at_ h),fun a ha h=>g3 a ha (hk _ ?_ h)⟩;subst ha;rcases Z07 g1.row with ⟨hv,_⟩ | ⟨g,cap,hv,_,_,⟨cur,hc,_⟩,_⟩
 · cases hv
 · injection hv with hv
   injection hv with hv;subst hv;exact ⟨cur,tE,(0,0),hc⟩
theorem OwnC.priv {α:Type} {r:RepT α} {e:TypeId} {v:Value} {l:List α} (h:OwnC r e C w v l) (hp:Priv B w w') (hC : ∀k,C k→k<B∨Z1h w k):OwnC r e C w' v l:=by
 obtain ⟨css,h1,h2,h3⟩:=h;exact ⟨css,Z1z h1 hp,h2.imp fun a cs hr=>r.keep hp.size (fun k hk hl=>⟨hk,hp.block k hl (hC k hk)⟩) hr,h3⟩
theorem Z42 {e:TypeId} {size n:Nat} {v:Value} {xs:List Value} (h:w.ownsRow 0 e size v n xs) : ∀k,v.ownBlock=some k→Z1h w k:=by
 intro k hk;rcases h.2 with ⟨rfl,_⟩ | ⟨g,cap,cur,rfl,_,hg,_⟩
 · cases hk
 · simp only [Value.ownBlock,Option.some.injEq] at hk
   subst hk;exact ⟨cur,e,(0,0),hg⟩
end
structure SR (n B:Nat) (K C:Nat→Prop) (w:World) (gt gm gp ns:Nat) (vis lost:Int) (es:List Z0e) (gs:List PgT) (hs:List Z90) (ap:List Z1i) (nw:List Sym) (v0 v1 v2 v3:Value):Prop where
 blk:Blk w gt 38 #[v0,v1,v2,v3,.int .i64 vis,.int .i64 lost]
 o0:w.ownsRow 0 57 14 v0 es.length (es.flatMap Z0e.cells)
 n0 : ∀k,v0.ownBlock=some k→¬K k
 o1:OwnC (Z15 n) 134 C w v1 hs
 n1 : ∀k,v1.ownBlock=some k→¬K k
 o2:w.ownsRow 0 34 7 v2 ap.length (ap.flatMap Z1i.cells)
 n2 : ∀k,v2.ownBlock=some k→¬K k
 o3:w.ownsRow 0 23 3 v3 nw.length (nw.flatMap Sym.cells)
 n3 : ∀k,v3.ownBlock=some k→¬K k
 set_:OSym (fun k=>K k∨v3.ownBlock=some k) w ns (puts Z08 [] nw)
 map_:Z7w K w gm gp gs
 srt:Srt Z0l gs
 nog : ¬K gt
 sub : ∀k,C k→K k
 lt : ∀k,K k→k<w.heap.size
 cel : ∀k,C k→k<B∨Z1h w k
section
variable {n B:Nat} {K K' C:Nat→Prop} {w w':World} {gt gm gp ns:Nat} {vis lost:Int} {es:List Z0e} {gs:List PgT} {hs:List Z90} {ap:List Z1i} {nw:List Sym} {v0 v1 v2 v3:Value}
theorem SR.mine {ts:List Nat} (h:SR n B K C w gt gm gp ns vis lost es gs hs ap nw v0 v1 v2 v3) (hm:Mine ts K w w') (h3:38 ∉ ts) (h4:57 ∉ ts) (h5:134 ∉ ts) (h6:34 ∉ ts) (h7:23 ∉ ts) (h8:216 ∉ ts) (h9:315 ∉ ts) (h10:338 ∉ ts) (h11:313 ∉ ts) :
 SR n B K C w' gt gm gp ns vis lost es gs hs ap nw v0 v1 v2 v3:=by
 obtain ⟨css,q1,q2,q3⟩:=h.o1;have hc : ∀k,C k→k<w.heap.size→w'.heap[k]? = w.heap[k]?:=fun k hk hl=>hm.fr.block k hl (fun hn=>hn (h.sub k hk));refine ⟨hm.only _ _ _ h3 h.blk,Z0j h.o0 hm.only h4,h.n0,⟨css,Z0j q1 hm.only h5,q2.imp fun a cs hr=>(Z15 n).keep hm.fr.size (fun k hk hl=>⟨hk,hc k hk hl⟩) hr,q3⟩,h.n1,Z0j h.o2 hm.only h6,h.n2,Z0j h.o3 hm.only h7,h.n3,?_,h.map_.mine hm h9 h10 h11,h.srt,h.nog,h.sub,fun k hk=>Zo3 (h.lt k hk) hm.fr.size,fun k hk=>(h.cel k hk).imp id (fun ⟨c,t,f,hh⟩=>⟨c,t,f,(hc k hk (Zob.1 hh).1).trans hh⟩)⟩;obtain ⟨sn,A,c,g1,g2,g3⟩:=h.set_;exact ⟨sn,A,c,g1.only hm.only h8 h7,g2,g3⟩
theorem SR.new_ (h:SR n B K C w gt gm gp ns vis lost es gs hs ap nw v0 v1 v2 v3) (hb:Below w.heap.size w w'):SR n B K C w' gt gm gp ns vis lost es gs hs ap nw v0 v1 v2 v3:=
 h.mine (ts:=[]) (Mine.new_ hb) (by simp) (by simp) (by simp) (by simp) (by simp) (by simp) (by simp) (by simp) (by simp)
theorem SR.priv (h:SR n B K C w gt gm gp ns vis lost es gs hs ap nw v0 v1 v2 v3) (hp:Priv B w w'):SR n B K C w' gt gm gp ns vis lost es gs hs ap nw v0 v1 v2 v3:=
 ⟨h.blk.priv hp,Z1z h.o0 hp,h.n0,h.o1.priv hp h.cel,h.n1,Z1z h.o2 hp,h.n2,Z1z h.o3 hp,h.n3,h.set_.priv hp,⟨h.map_.1.priv hp,h.map_.2.1,h.map_.2.2.priv hp⟩,h.srt,h.nog,h.sub,fun k hk=>Zo3 (h.lt k hk) hp.size,fun k hk=>(h.cel k hk).imp id (fun ⟨c,t,f,hh⟩=>⟨c,t,f,(hp.block k (Zob.1 hh).1 (.inr ⟨c,t,f,hh⟩)).trans hh⟩)⟩
theorem SR.cls (h:SR n B K C w gt gm gp ns vis lost es gs hs ap nw v0 v1 v2 v3) (hk : ∀k,Z1h w k→K' k→K k) (hC : ∀k,C k→K' k) (hl : ∀k,K' k→k<w.heap.size):SR n B K' C w gt gm gp ns vis lost es gs hs ap nw v0 v1 v2 v3:=by
 obtain ⟨css,q1,q2,q3⟩:=h.o1
 exact ⟨h.blk,h.o0,fun k e hK=>h.n0 k e (hk k (Z42 h.o0 k e) hK),h.o1,fun k e hK=>h.n1 k e (hk k (Z42 q1 k e) hK),h.o2,fun k e hK=>h.n2 k e (hk k (Z42 h.o2 k e) hK),h.o3,fun k e hK=>h.n3 k e (hk k (Z42 h.o3 k e) hK),
  h.set_.cls (fun k hc hK=>hK.imp (hk k hc) id),⟨h.map_.1,fun hK=>h.map_.2.1 (hk _ h.map_.1.at_ hK),h.map_.2.2.cls hk⟩,h.srt,fun hK=>h.nog (hk _ h.blk.at_ hK),hC,hl,h.cel⟩
theorem SR.frB {M:Nat→Prop} (h:SR n B K C w gt gm gp ns vis lost es gs hs ap nw v0 v1 v2 v3) (hF:Fr M w w') (hM : ∀k,M k→K k∧¬C k):SR n B K C w' gt gm gp ns vis lost es gs hs ap nw v0 v1 v2 v3:=by
 have hc : ∀k,C k→¬M k:=fun k hk hm=>(hM k hm).2 hk;obtain ⟨sn,A,c,g1,g2,g3⟩:=h.set_
 refine ⟨h.blk.fr hF (fun hm=>h.nog (hM _ hm).1),Z0s h.o0 hF (fun k e hm=>h.n0 k e (hM k hm).1),h.n0,h.o1.fr hF hc (fun k e hm=>h.n1 k e (hM k hm).1),h.n1,Z0s h.o2 hF (fun k e hm=>h.n2 k e (hM k hm).1),h.n2,Z0s h.o3 hF (fun k e hm=>h.n3 k e (hM k hm).1),h.n3,
  ⟨sn,A,c,g1.fr hF (fun hm=>g2 (.inl (hM _ hm).1)) (fun a ha hm=>g3 a ha (.inl (hM _ hm).1)),g2,g3⟩,h.map_.theirs hF (fun k hm=>(hM k hm).1) (fun k hk=>.inl hk),h.srt,h.nog,h.sub,fun k hk=>Zo3 (h.lt k hk) hF.size,fun k hk=>(h.cel k hk).imp id (fun ⟨c,t,f,hh⟩=>⟨c,t,f,(hF.block k (Zob.1 hh).1 (hc k hk)).trans hh⟩)⟩
theorem SR.ground {gs':List PgT} (h:SR n B K C w gt gm gp ns vis lost es gs hs ap nw v0 v1 v2 v3) (hm:Mine [338,313] K w w') (h1:Z7w K w' gm gp gs') (h2:Srt Z0l gs'):SR n B K C w' gt gm gp ns vis lost es gs' hs ap nw v0 v1 v2 v3:=by
 obtain ⟨css,q1,q2,q3⟩:=h.o1;have hc : ∀k,C k→k<w.heap.size→w'.heap[k]? = w.heap[k]?:=fun k hk hl=>hm.fr.block k hl (fun hn=>hn (h.sub k hk));refine ⟨hm.only _ _ _ (by decide) h.blk,Z0j h.o0 hm.only (by decide),h.n0,⟨css,Z0j q1 hm.only (by decide),q2.imp fun a cs hr=>(Z15 n).keep hm.fr.size (fun k hk hl=>⟨hk,hc k hk hl⟩) hr,q3⟩,h.n1,Z0j h.o2 hm.only (by decide),h.n2,Z0j h.o3 hm.only (by decide),h.n3,?_,h1,h2,h.nog,h.sub,fun k hk=>Zo3 (h.lt k hk) hm.fr.size,fun k hk=>(h.cel k hk).imp id (fun ⟨c,t,f,hh⟩=>⟨c,t,f,(hc k hk (Zob.1 hh).1).trans hh⟩)⟩;obtain ⟨sn,A,c,g1,g2,g3⟩:=h.set_;exact ⟨sn,A,c,g1.only hm.only (by decide) (by decide),g2,g3⟩
end
end
section
open Go.RowKit
section
variable {K:Nat→Prop} {w w':World}
theorem Zf9 {e:TypeId} {size n:Nat} {v:Value} {xs:List Value} (h:w.ownsRow 0 e size v n xs) (hg:w.grownBy w' v.ownBlock):Only [e] w w':=fun g t cs hn hb=>hb.grown hg (Z01 h hb (fun e=>hn (by simp [e])))
theorem Z5u {e:TypeId} {size n:Nat} {v:Value} {xs:List Value} (h:w.ownsRow 0 e size v n xs) (hg:w.grownBy w' v.ownBlock) (hK : ∀k,v.ownBlock=some k→¬K k):Mine [e] K w w':=
 ⟨Zf9 h hg,(Fr.refl _ w).grown hg (fun k hk=>.inl (hK k hk))⟩
theorem Zd7 {v v':Value} (hl : ∀k,K k→k<w.heap.size) (hK : ∀k,v.ownBlock=some k→¬K k) (hat:v'.ownBlock=v.ownBlock∨v'.ownBlock=some w.heap.size) : ∀k,v'.ownBlock=some k→¬K k:=fun k hk=>by
 rcases hat with h | h
 · exact hK k (h ▸ hk)
 · rw [h] at hk
   injection hk with hk;intro hq;have:=hl k hq;omega
end
section
variable {n B:Nat} {K C:Nat→Prop} {w:World} {gt gm gp ns:Nat} {vis lost:Int} {es:List Z0e} {gs:List PgT} {hs:List Z90} {ap:List Z1i} {nw:List Sym} {v0 v1 v2 v3:Value}
theorem SR.theirs {M K':Nat→Prop} {w':World} (h:SR n B K C w gt gm gp ns vis lost es gs hs ap nw v0 v1 v2 v3) (hF:Fr M w w') (hM : ∀k,M k→K k∧¬C k) (hK : ∀k,K' k→K k∨w.heap.size≤k) (hC : ∀k,C k→K' k) (hl : ∀k,K' k→k<w'.heap.size):SR n B K' C w' gt gm gp ns vis lost es gs hs ap nw v0 v1 v2 v3:=by
 have h2:=h.frB hF hM;have up : ∀k,k<w.heap.size→K' k→K k:=fun k hk hq=>(hK k hq).elim id (fun hq=>by omega);obtain ⟨sn,A,c,g1,g2,g3⟩:=h.set_;obtain ⟨m1,m2,sn2,A2,c2,p1,p2,p3⟩:=h.map_
 have hs2:OSym (fun k=>K' k∨v3.ownBlock=some k) w' ns (puts Z08 [] nw):=
  ⟨sn,A,c,g1.fr hF (fun hm=>g2 (.inl (hM _ hm).1)) (fun a ha hm=>g3 a ha (.inl (hM _ hm).1)),fun hq=>g2 (hq.imp (up _ g1.lt) id),fun a ha hq=>g3 a ha (hq.imp (up _ (g1.row_lt a ha)) id)⟩
 have hm2:Z7w K' w' gm gp gs:=h.map_.theirs hF (fun k hm=>(hM k hm).1) hK;exact ⟨h2.blk,h2.o0,fun k e hq=>h.n0 k e (up k (Z3q h.o0 k e) hq),h2.o1,fun k e hq=>h.n1 k e (up k (h.o1.lt k e) hq),h2.o2,fun k e hq=>h.n2 k e (up k (Z3q h.o2 k e) hq),h2.o3,fun k e hq=>h.n3 k e (up k (Z3q h.o3 k e) hq),hs2,hm2,h.srt,fun hq=>h.nog (up _ h.blk.lt hq),hC,hl,h2.cel⟩
theorem SR.elem {es':List Z0e} {v0':Value} {W W8:World} (h:SR n B K C w gt gm gp ns vis lost es gs hs ap nw v0 v1 v2 v3) (hb:Below w.heap.size w W) (hown:W8.ownsRow 0 57 14 v0' es'.length (es'.flatMap Z0e.cells)) (hg:W.grownBy W8 v0.ownBlock) (hat:v0'.ownBlock=v0.ownBlock∨v0'.ownBlock=some W.heap.size) :
 SR n B K C (W8.setCell ⟨gt,0,none⟩ v0') gt gm gp ns vis lost es' gs hs ap nw v0' v1 v2 v3∧Fr (fun k=>¬K k) w (W8.setCell ⟨gt,0,none⟩ v0'):=by
 obtain ⟨W9,hW9⟩ : ∃W9,W9=W8.setCell ⟨gt,0,none⟩ v0':=⟨_,rfl⟩;have hm8:Mine [57] K w W8:=(Mine.new_ hb).trans (Z5u (h.new_ hb).o0 hg h.n0);have hb8:=hm8.only _ _ _ (by decide) h.blk;(have hm:Mine [57,38] K w W9:=by rw [hW9];exact (hm8.up (by simp)).trans (Mine.cell (p:=⟨gt,0,none⟩) hb8 (by simp) h.nog v0'));(have hb9:Blk W9 gt 38 #[v0',v1,v2,v3,.int .i64 vis,.int .i64 lost]:=by rw [hW9];exact hb8.set_ 0 _);(have ho9:W9.ownsRow 0 57 14 v0' es'.length (es'.flatMap Z0e.cells):=by rw [hW9];exact ownsRow_setCell_other (a:=⟨gt,0,none⟩) hown (Z01 hown hb8 (by decide)) _);have hn9:=Zd7 (h.new_ hb).lt h.n0 hat;rw [← hW9];obtain ⟨css,q1,q2,q3⟩:=h.o1;obtain ⟨sn,A,c,g1,g2,g3⟩:=h.set_;have hc : ∀k,C k→k<w.heap.size→W9.heap[k]? = w.heap[k]?:=fun k hk hl=>hm.fr.block k hl (fun hn=>hn (h.sub k hk))
 exact ⟨⟨hb9,
  ho9,
  hn9,
  ⟨css,Z0j q1 hm.only (by decide),q2.imp fun a cs hr=>(Z15 n).keep hm.fr.size (fun k hk hl=>⟨hk,hc k hk hl⟩) hr,q3⟩,
  h.n1,
  Z0j h.o2 hm.only (by decide),
  h.n2,
  Z0j h.o3 hm.only (by decide),
  h.n3,
  ⟨sn,A,c,g1.only hm.only (by decide) (by decide),g2,g3⟩,
  h.map_.mine hm (by decide) (by decide) (by decide),
  h.srt,
  h.nog,
  h.sub,
  fun k hk=>Zo3 (h.lt k hk) hm.fr.size,
  fun k hk=>(h.cel k hk).imp id (fun ⟨c,t,f,hh⟩=>⟨c,t,f,(hc k hk (Zob.1 hh).1).trans hh⟩)⟩,hm.fr⟩
theorem SR.apart {ap':List Z1i} {v2':Value} {W W8:World} (h:SR n B K C w gt gm gp ns vis lost es gs hs ap nw v0 v1 v2 v3) (hb:Below w.heap.size w W) (hown:W8.ownsRow 0 34 7 v2' ap'.length (ap'.flatMap Z1i.cells)) (hg:W.grownBy W8 v2.ownBlock) (hat:v2'.ownBlock=v2.ownBlock∨v2'.ownBlock=some W.heap.size) :
 SR n B K C (W8.setCell ⟨gt,2,none⟩ v2') gt gm gp ns vis lost es gs hs ap' nw v0 v1 v2' v3∧Fr (fun k=>¬K k) w (W8.setCell ⟨gt,2,none⟩ v2'):=by
 obtain ⟨W9,hW9⟩ : ∃W9,W9=W8.setCell ⟨gt,2,none⟩ v2':=⟨_,rfl⟩;have hm8:Mine [34] K w W8:=(Mine.new_ hb).trans (Z5u (h.new_ hb).o2 hg h.n2);have hb8:=hm8.only _ _ _ (by decide) h.blk;(have hm:Mine [34,38] K w W9:=by rw [hW9];exact (hm8.up (by simp)).trans (Mine.cell (p:=⟨gt,2,none⟩) hb8 (by simp) h.nog v2'));(have hb9:Blk W9 gt 38 #[v0,v1,v2',v3,.int .i64 vis,.int .i64 lost]:=by rw [hW9];exact hb8.set_ 2 _);(have ho9:W9.ownsRow 0 34 7 v2' ap'.length (ap'.flatMap Z1i.cells):=by rw [hW9];exact ownsRow_setCell_other (a:=⟨gt,2,none⟩) hown (Z01 hown hb8 (by decide)) _);have hn9:=Zd7 (h.new_ hb).lt h.n2 hat;rw [← hW9];obtain ⟨css,q1,q2,q3⟩:=h.o1;obtain ⟨sn,A,c,g1,g2,g3⟩:=h.set_;have hc : ∀k,C k→k<w.heap.size→W9.heap[k]? = w.heap[k]?:=fun k hk hl=>hm.fr.block k hl (fun hn=>hn (h.sub k hk))
 exact ⟨⟨hb9,
  Z0j h.o0 hm.only (by decide),
  h.n0,
  ⟨css,Z0j q1 hm.only (by decide),q2.imp fun a cs hr=>(Z15 n).keep hm.fr.size (fun k hk hl=>⟨hk,hc k hk hl⟩) hr,q3⟩,
  h.n1,
  ho9,
  hn9,
  Z0j h.o3 hm.only (by decide),
  h.n3,
  ⟨sn,A,c,g1.only hm.only (by decide) (by decide),g2,g3⟩,
  h.map_.mine hm (by decide) (by decide) (by decide),
  h.srt,
  h.nog,
  h.sub,
  fun k hk=>Zo3 (h.lt k hk) hm.fr.size,
  fun k hk=>(h.cel k hk).imp id (fun ⟨c,t,f,hh⟩=>⟨c,t,f,(hc k hk (Zob.1 hh).1).trans hh⟩)⟩,hm.fr⟩
theorem SR.putN (h:SR n B K C w gt gm gp ns vis lost es gs hs ap nw v0 v1 v2 v3) (s:Sym) (hn:nw.length≤1000000) :
 Calls Tryz.prog 86 #[.pointer (some ⟨ns,0,none⟩),.agg #[.int .i64 s.kind,.string s.text,.int .i64 s.n]] w fun e w'=>e = .returned (.bool (!has Z08 (puts Z08 [] nw) s))∧OSym (fun k=>K k∨v3.ownBlock=some k) w' ns (put Z08 (puts Z08 [] nw) s)∧Mine [216,23] (fun k=>K k∨v3.ownBlock=some k) w w':=by
 have hl : ∀k,(K k∨v3.ownBlock=some k)→k<w.heap.size:=fun k hk=>hk.elim (h.lt k) (Z3q h.o3 k);have:=Z13 Z2x nw (l:=[]) Srt.nil;exact Zkw s h.set_ (Srt.puts Z2x nw Srt.nil) hl (by simp at this;omega)
theorem SR.old {w':World} {s:Sym} (h:SR n B K C w gt gm gp ns vis lost es gs hs ap nw v0 v1 v2 v3) (hs':s∈nw) (h1:OSym (fun k=>K k∨v3.ownBlock=some k) w' ns (put Z08 (puts Z08 [] nw) s)) (hm:Mine [216,23] (fun k=>K k∨v3.ownBlock=some k) w w'):SR n B K C w' gt gm gp ns vis lost es gs hs ap nw v0 v1 v2 v3∧Fr (fun k=>¬K k) w w':=by
 obtain ⟨W9,hW9⟩ : ∃W9,W9=w':=⟨_,rfl⟩;rw [← hW9] at h1 hm ⊢;have hmK:Mine [216,23] K w W9:=⟨hm.only,hm.fr.mono (fun k _ hk hq=>hk (.inl hq))⟩;have ho:W9.ownsRow 0 23 3 v3 nw.length (nw.flatMap Sym.cells):=Z0s h.o3 hm.fr (fun k e hk=>hk (.inr e));rw [Z3m (by rw [Z8j];simpa using hs')] at h1;obtain ⟨css,q1,q2,q3⟩:=h.o1;obtain ⟨sn,A,c,g1,g2,g3⟩:=h.set_;have hc : ∀k,C k→k<w.heap.size→W9.heap[k]? = w.heap[k]?:=fun k hk hl=>hmK.fr.block k hl (fun hn=>hn (h.sub k hk))
 exact ⟨⟨hmK.only _ _ _ (by decide) h.blk,
  Z0j h.o0 hmK.only (by decide),
  h.n0,
  ⟨css,Z0j q1 hmK.only (by decide),q2.imp fun a cs hr=>(Z15 n).keep hmK.fr.size (fun k hk hl=>⟨hk,hc k hk hl⟩) hr,q3⟩,
  h.n1,
  Z0j h.o2 hmK.only (by decide),
  h.n2,
  ho,
  h.n3,
  h1,
  h.map_.mine hmK (by decide) (by decide) (by decide),
  h.srt,
  h.nog,
  h.sub,
  fun k hk=>Zo3 (h.lt k hk) hmK.fr.size,
  fun k hk=>(h.cel k hk).imp id (fun ⟨c,t,f,hh⟩=>⟨c,t,f,(hc k hk (Zob.1 hh).1).trans hh⟩)⟩,hmK.fr⟩
theorem SR.news {s:Sym} {v3':Value} {w5 W W8:World} (h:SR n B K C w gt gm gp ns vis lost es gs hs ap nw v0 v1 v2 v3) (h1:OSym (fun k=>K k∨v3.ownBlock=some k) w5 ns (put Z08 (puts Z08 [] nw) s)) (hm5:Mine [216,23] (fun k=>K k∨v3.ownBlock=some k) w w5) (hb:Below w5.heap.size w5 W)
 (hown:W8.ownsRow 0 23 3 v3' (nw ++ [s]).length ((nw ++ [s]).flatMap Sym.cells)) (hg:W.grownBy W8 v3.ownBlock) (hat:v3'.ownBlock=v3.ownBlock∨v3'.ownBlock=some W.heap.size) :
 SR n B K C (W8.setCell ⟨gt,3,none⟩ v3') gt gm gp ns vis lost es gs hs ap (nw ++ [s]) v0 v1 v2 v3'∧Fr (fun k=>¬K k) w (W8.setCell ⟨gt,3,none⟩ v3'):=by
 obtain ⟨W9,hW9⟩ : ∃W9,W9=W8.setCell ⟨gt,3,none⟩ v3':=⟨_,rfl⟩;have hm5K:Mine [216,23] K w w5:=⟨hm5.only,hm5.fr.mono (fun k _ hk hq=>hk (.inl hq))⟩;have ho5:w5.ownsRow 0 23 3 v3 nw.length (nw.flatMap Sym.cells):=Z0s h.o3 hm5.fr (fun k e hk=>hk (.inr e));have hl5 : ∀k,K k→k<W.heap.size:=fun k hk=>Zo3 (Zo3 (h.lt k hk) hm5.fr.size) hb.size;have hmW:Mine [216,23] K w W8:=(hm5K.trans (Mine.new_ hb)).trans ((Z5u (Z02 ho5 hb) hg h.n3).up (by simp));have hb8:=hmW.only _ _ _ (by decide) h.blk;(have hm:Mine [216,23,38] K w W9:=by rw [hW9];exact (hmW.up (by simp only [Zoj,Zoq,or_false];intro t ht;rcases ht with ht | ht<;>simp [ht])).trans (Mine.cell (p:=⟨gt,3,none⟩) hb8 (by simp) h.nog v3'));(have hb9:Blk W9 gt 38 #[v0,v1,v2,v3',.int .i64 vis,.int .i64 lost]:=by rw [hW9];exact hb8.set_ 3 _);(have ho9:W9.ownsRow 0 23 3 v3' (nw ++ [s]).length ((nw ++ [s]).flatMap Sym.cells):=by rw [hW9];exact ownsRow_setCell_other (a:=⟨gt,3,none⟩) hown (Z01 hown hb8 (by decide)) _);have hn9:=Zd7 hl5 h.n3 hat
 have hset:OSym (fun k=>K k∨v3'.ownBlock=some k) W9 ns (puts Z08 [] (nw ++ [s])):=by
  rw [Z23];obtain ⟨sn',A',c',e1,e2,e3⟩:=h1;have e1W:=e1.new_ hb;have hgr:Fr (fun k=>v3.ownBlock=some k) W W8:=(Fr.refl _ W).grown hg (fun k hk=>.inl hk);have e18:=e1W.fr hgr (fun hk=>e2 (.inr hk)) (fun a ha hk=>e3 a ha (.inr hk));have hgt : ∀k,k=gt→Z1h W8 k:=fun k e=>e ▸ hb8.at_;refine ⟨sn',A',c',?_,fun hk=>?_,fun a ha hk=>?_⟩
  · rw [hW9]
    exact e18.fr (M:=(· = gt)) ((Fr.refl (· = gt) W8).setCell (p:=⟨gt,3,none⟩) (.inl rfl) _) (fun e=>by have:=e18.blk;rw [e] at this;exact this.ne_ hb8 (by decide) rfl) (fun a ha e=>by
     subst ha
     exact Z01 e18.row hb8 (by decide) (by simp [Value.ownBlock,e]))
  · rcases hk with hk | hk
    · exact e2 (.inl hk)
    · rcases hat with h9 | h9
      · exact e2 (.inr (h9 ▸ hk))
      · rw [h9] at hk;injection hk with hk;have:=e1W.lt;omega
  · rcases hk with hk | hk
    · exact e3 a ha (.inl hk)
    · rcases hat with h9 | h9
      · exact e3 a ha (.inr (h9 ▸ hk))
      · rw [h9] at hk;injection hk with hk;have:=e1W.row_lt a ha;omega
 rw [← hW9];obtain ⟨css,q1,q2,q3⟩:=h.o1;obtain ⟨sn,A,c,g1,g2,g3⟩:=h.set_;have hc : ∀k,C k→k<w.heap.size→W9.heap[k]? = w.heap[k]?:=fun k hk hl=>hm.fr.block k hl (fun hn=>hn (h.sub k hk))
 exact ⟨⟨hb9,
  Z0j h.o0 hm.only (by decide),
  h.n0,
  ⟨css,Z0j q1 hm.only (by decide),q2.imp fun a cs hr=>(Z15 n).keep hm.fr.size (fun k hk hl=>⟨hk,hc k hk hl⟩) hr,q3⟩,
  h.n1,
  Z0j h.o2 hm.only (by decide),
  h.n2,
  ho9,
  hn9,
  hset,
  h.map_.mine hm (by decide) (by decide) (by decide),
  h.srt,
  h.nog,
  h.sub,
  fun k hk=>Zo3 (h.lt k hk) hm.fr.size,
  fun k hk=>(h.cel k hk).imp id (fun ⟨c,t,f,hh⟩=>⟨c,t,f,(hc k hk (Zob.1 hh).1).trans hh⟩)⟩,hm.fr⟩
theorem SR.hole {hh:Z90} {v1':Value} {W W8:World} (h:SR n B K C w gt gm gp ns vis lost es gs hs ap nw v0 v1 v2 v3) (hb:Below w.heap.size w W) (ha:Z81 (Z15 n) 134 (fun j=>C j∨(NewD w.heap.size W j∧Z1h W j)) W v1 (hs ++ [hh]) v1' W8) :
 SR n B (fun j=>K j∨NewD w.heap.size W j) (fun j=>C j∨(NewD w.heap.size W j∧Z1h W j)) (W8.setCell ⟨gt,1,none⟩ v1') gt gm gp ns vis lost es gs (hs ++ [hh]) ap nw v0 v1' v2 v3∧Fr (fun k=>¬K k) w (W8.setCell ⟨gt,1,none⟩ v1'):=by
 obtain ⟨W9,hW9⟩ : ∃W9,W9=W8.setCell ⟨gt,1,none⟩ v1':=⟨_,rfl⟩;obtain ⟨a1,a2,a3⟩:=ha;have hzW:=hb.size;have o1W:=h.o1.new_ hb;have hm8:Mine [134] K w W8:=(Mine.new_ hb).trans (Z5u (Classical.choose_spec o1W).1 a2 h.n1);have hb8:=hm8.only _ _ _ (by decide) h.blk;(have hm:Mine [134,38] K w W9:=by rw [hW9];exact (hm8.up (by simp)).trans (Mine.cell (p:=⟨gt,1,none⟩) hb8 (by simp) h.nog v1'));(have hb9:Blk W9 gt 38 #[v0,v1',v2,v3,.int .i64 vis,.int .i64 lost]:=by rw [hW9];exact hb8.set_ 1 _);have hz9:=hm.fr.size;have hltW : ∀k,(v1.ownBlock=some k)→k<w.heap.size:=fun k hk=>h.o1.lt k hk
 have cW : ∀j,NewD w.heap.size W j→W9.heap[j]? = W.heap[j]?:=fun j hj=>by
  rw [hW9,Below.heap_setCell _ _ _ _ (by dsimp only;have:=h.blk.lt;have:=hj.1;omega)];exact a2.block j hj.2 (fun e=>by have:=hltW j e.symm;have:=hj.1;omega)
 have hz98:W.heap.size≤W9.heap.size:=by rw [hW9];simpa using a2.size
 have ho9:OwnC (Z15 n) 134 (fun j=>C j∨(NewD w.heap.size W j∧Z1h W j)) W9 v1' (hs ++ [hh]):=by
  rw [hW9];refine a1.fr (M:=(· = gt)) ((Fr.refl (· = gt) W8).setCell (p:=⟨gt,1,none⟩) (.inl rfl) _) (fun j hj e=>?_) (fun j hj e=>?_)
  · subst e
    rcases hj with hj | hj
    · exact h.nog (h.sub _ hj)
    · have:=h.blk.lt;have:=hj.1.1;omega
  · subst e
    exact Z01 (Classical.choose_spec a1).1 hb8 (by decide) hj
 have hn9 : ∀k,v1'.ownBlock=some k→¬(K k∨NewD w.heap.size W k):=fun k hk hq=>by
  rcases a3 with a3 | a3
  · rw [a3] at hk
    rcases hq with hq | hq
    · exact h.n1 k hk hq
    · have:=hltW k hk;have:=hq.1;omega
  · rw [a3] at hk;injection hk with hk
    rcases hq with hq | hq
    · have:=h.lt k hq;omega
    · have:=hq.2;omega
 have old : ∀k,k<w.heap.size→(K k∨NewD w.heap.size W k)→K k:=fun k hk hq=>hq.elim id (fun hq=>by have:=hq.1;omega);rw [← hW9];obtain ⟨css,q1,q2,q3⟩:=h.o1;obtain ⟨sn,A,c,g1,g2,g3⟩:=h.set_;have hc : ∀k,C k→k<w.heap.size→W9.heap[k]? = w.heap[k]?:=fun k hk hl=>hm.fr.block k hl (fun hn=>hn (h.sub k hk))
 exact ⟨⟨hb9,
  Z0j h.o0 hm.only (by decide),
  fun k e hq=>h.n0 k e (old k (Z3q h.o0 k e) hq),
  ho9,
  hn9,
  Z0j h.o2 hm.only (by decide),
  fun k e hq=>h.n2 k e (old k (Z3q h.o2 k e) hq),
  Z0j h.o3 hm.only (by decide),
  fun k e hq=>h.n3 k e (old k (Z3q h.o3 k e) hq),
  ⟨sn,A,c,g1.only hm.only (by decide) (by decide),fun hq=>g2 (hq.imp (old _ g1.lt) id),fun a ha hq=>g3 a ha (hq.imp (old _ (g1.row_lt a ha)) id)⟩,
  ⟨hm.only _ _ _ (by decide) h.map_.1,fun hq=>h.map_.2.1 (old _ h.map_.1.lt hq),by
   obtain ⟨sn2,A2,c2,p1,p2,p3⟩:=h.map_.2.2
   exact ⟨sn2,A2,c2,p1.only hm.only (by decide) (by decide),fun hq=>p2 (old _ p1.lt hq),fun a ha hq=>p3 a ha (old _ (p1.row_lt a ha) hq)⟩⟩,
  h.srt,
  fun hq=>h.nog (old _ h.blk.lt hq),
  fun k hk=>hk.imp (h.sub k) (fun hk=>hk.1),
  fun k hk=>hk.elim (fun hk=>Zo3 (h.lt k hk) hz9) (fun hk=>Zo3 hk.2 hz98),
  fun k hk=>hk.elim (fun hk=>(h.cel k hk).imp id (fun ⟨c,t,f,hh⟩=>⟨c,t,f,(hc k hk (Zob.1 hh).1).trans hh⟩)) (fun hk=>.inr (by obtain ⟨c,t,f,hh⟩:=hk.2;exact ⟨c,t,f,(cW k hk.1).trans hh⟩))⟩,hm.fr⟩
end
end
end Go.Proofs.YtldndkngpdfpfaaGreat
