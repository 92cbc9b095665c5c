/-
  Texts put together: OwnC, BkInfo, BkCopy1, BkTests, BkCopyP, LrnPf, SymWord, EagerT, SymDigits, SymValid, Scal, LeafName, ShapePlain, Sets, FindSym, OpsSym.
-/
import Derived.Test.YtcnnofgaifcgaaaGreatPTc
namespace Go.Proofs.YtcnnofgaifcgaaaGreat
set_option maxRecDepth 100000
set_option maxHeartbeats 32000000
set_option linter.unusedSimpArgs false
section
open Go.RowKit
def NewD (B:Nat) (w:World):Nat→Prop:=fun k=>B≤k∧k<w.heap.size
def OwnC {α:Type}(r:RepT α) (e:TypeId) (C:Nat→Prop) (w:World) (v:Value) (l:List α):Prop:=
 ∃css,w.ownsRow 0 e r.size v l.length css.flatten∧Z32 (fun a cs=>r.rep C w a cs) l css∧∀k,v.ownBlock=some k→¬C k
theorem Z3i {w:World}{e:TypeId}{size n:Nat}{v:Value}{xs:List Value}(h:w.ownsRow 0 e size v n xs):∀k,v.ownBlock=some k→k<w.heap.size:=by
 intro k hk;rcases h.2 with ⟨rfl,_⟩|⟨g,cap,cur,rfl,_,hg,_⟩
 · cases hk
 · simp only [Value.ownBlock,Option.some.injEq] at hk
   subst hk;exact Blk.lt (t:=e) hg
section
variable {α:Type}{r:RepT α}{e:TypeId}{C C':Nat→Prop}{w w':World}{v:Value}{l:List α}
theorem OwnC.nil (r:RepT α) (e:TypeId) (C:Nat→Prop) (w:World):OwnC r e C w (.slice none 0 0) []:=⟨[],⟨Ye,.inl ⟨rfl,rfl⟩⟩,.nil,fun _ h=>YZt⟩
theorem OwnC.form (h:OwnC r e C w v l):∃A c,v = .slice A l.length c∧l.length≤c∧c≤maxLen∧AIn A (fun j=>j<w.heap.size∧¬C j):=by
 obtain ⟨css,Od,_,hC⟩:=h;have sd:=Z3i Od;obtain ⟨A,c,rfl,h1,h2,_⟩:=Z14 Od;exact ⟨A,c,rfl,h1,h2,fun a ha=>by subst ha;exact ⟨sd _ rfl,hC _ rfl⟩⟩
theorem OwnC.lt (h:OwnC r e C w v l):∀k,v.ownBlock=some k→k<w.heap.size:=by
 obtain ⟨css,Od,_⟩:=h;exact Z3i Od
theorem OwnC.off (h:OwnC r e C w v l):∀k,v.ownBlock=some k→¬C k:=by
 obtain ⟨_,_,_,h⟩:=h;exact h
theorem OwnC.keep (h:OwnC r e C w v l) (hs:w.heap.size≤w'.heap.size) (hk :∀k,C k→k<w.heap.size→C' k∧w'.heap[k]? = w.heap[k]?) (hv :∀k,v.ownBlock=some k→w'.heap[k]? = w.heap[k]?∧¬C' k):OwnC r e C' w' v l:=by
 obtain ⟨css,Od,he,hC⟩:=h;refine ⟨css,⟨Od.1,Od.2.imp id fun ⟨g,cap,cur,hv',h0,hg,hr⟩=>⟨g,cap,cur,hv',h0,(hv g (by rw [hv'];rfl)).1.trans hg,hr⟩⟩,he.imp fun a cs hr=>r.keep hs hk hr,fun k hk=>(hv k hk).2⟩
theorem OwnC.new_ (h:OwnC r e C w v l) (hb:Below w.heap.size w w'):OwnC r e C w' v l:=
 h.keep hb.size (fun k hk hl=>⟨hk,hb.block k hl⟩) (fun k hk=>⟨hb.block k (h.lt k hk),h.off k hk⟩)
theorem OwnC.plus (h:OwnC r e C w v l) (hb:Below w.heap.size w w'):OwnC r e (Plus C w w') w' v l:=
 h.keep hb.size (fun k hk hl=>⟨.inl hk,hb.block k hl⟩) (fun k hk=>⟨hb.block k (h.lt k hk),fun hp=>hp.elim (h.off k hk) (fun hp=>by have:=h.lt k hk;omega)⟩)
theorem OwnC.fr {M:Nat→Prop}(h:OwnC r e C w v l) (hF:Fr M w w') (hC :∀k,C k→¬M k) (hv :∀k,v.ownBlock=some k→¬M k):OwnC r e C w' v l:=
 h.keep hF.size (fun k hk hl=>⟨hk,hF.block k hl (hC k hk)⟩) (fun k hk=>⟨hF.block k (h.lt k hk) (hv k hk),h.off k hk⟩)
theorem OwnC.row {A:Option Addr}{n c:Nat}(h:OwnC r e C w (.slice A n c) l) (hC :∀k,C k→C' k) (hA:AIn A C'):RowR r C' w A c l:=by
 obtain ⟨A',c',hv,h1,h2,_⟩:=h.form;injection hv with hA' hn hc;subst hA';subst hc;obtain ⟨css,Od,he,_⟩:=h;refine ⟨h1,h2,fun h0=>?_⟩
 have Sd :∀cs∈css,cs.length=r.size:=fun cs hcs=>by
  obtain ⟨k,hk,rfl⟩:=List.getElem_of_mem hcs;obtain ⟨_,h3⟩:=he.get k (by rw [he.length];exact hk);exact r.len h3
 rcases Od.2 with ⟨hv,hn0⟩|⟨g,cap,cur,hv,_,hg,hn2,hc2,hs2,ht⟩
 · omega
 · injection hv with hA' _ hc
   subst hA';have Gb:g<w.heap.size:=Blk.lt (t:=e) hg;refine ⟨g,0,rfl,hA _ rfl,Gb,fun k hk=>?_⟩;obtain ⟨L5,Pq⟩:=he.get k hk;refine ⟨css[k],r.keep (Zsu _) (fun j hj _=>⟨hC j hj,rfl⟩) Pq,fun j u hu=>?_⟩;(have hj:j<r.size:=by rw [←r.len Pq];exact (Ztp.1 hu).1);have hf:=Z9v css Sd k L5 j hj;rw [hu,←ht] at hf;rw [Zts,Blk.cell (t:=e) hg]
   have sd:k*r.size+j<l.length*r.size:=by
    have:(k+1)*r.size≤l.length*r.size:=Nat.mul_le_mul_right _ hk;rw [Nat.add_mul] at this;omega
   rw [List.getElem?_take_of_lt sd] at hf;rw [←hf];simp
theorem OwnC.grown {v':Value}{l2:List α}{css css2:List (List Value)}(he:Z32 (fun a cs=>r.rep C w a cs) l css) (hC :∀k,v.ownBlock=some k→¬C k) (hCl :∀k,C k→k<w.heap.size)
 (hown:w'.ownsRow 0 e r.size v' (l++l2).length (css.flatten++css2.flatten)) (hg:w.grownBy w' v.ownBlock)
 (hv:v'.ownBlock=v.ownBlock∨v'.ownBlock=some w.heap.size) (he2:Z32 (fun a cs=>r.rep C w a cs) l2 css2):OwnC r e C w' v' (l++l2):=by
 have up :∀a cs,r.rep C w a cs→r.rep C w' a cs:=fun a cs hr=>r.keep hg.size (fun k hd hl=>⟨hd,hg.block k hl (fun hk=>hC k hk.symm hd)⟩) hr;refine ⟨css++css2,by rw [List.flatten_append];exact hown,(he.imp up).append (he2.imp up),fun k hk=>?_⟩;rcases hv with hv|hv
 · exact hC k (hv ▸ hk)
 · rw [hv] at hk;injection hk with hk;intro h;have:=hCl k h;omega
theorem Zfc {l2:List α}{css2:List (List Value)}{D:Nat→Prop}{m:Nat}(hm:m=l2.length) (he2:Z32 (fun a cs=>r.rep D w a cs) l2 css2):css2.flatten.length=m*r.size:=by
 have Lt :∀cs∈css2,cs.length=r.size:=fun cs hcs=>by
  obtain ⟨k,hk,rfl⟩:=List.getElem_of_mem hcs;obtain ⟨_,h3⟩:=he2.get k (by rw [he2.length];exact hk);exact r.len h3
 rw [hm,he2.length,List.length_flatten,List.map_congr_left Lt];exact Zeq _ _
theorem Zl2 (cs:List Value): [cs].flatten=cs:=Ye
end
def Z5u {α:Type}(r:RepT α) (e:TypeId) (C:Nat→Prop) (w:World) (v:Value) (l:List α) (v':Value) (w':World):Prop:=
 OwnC r e C w' v' l∧w.grownBy w' v.ownBlock∧(v'.ownBlock=v.ownBlock∨v'.ownBlock=some w.heap.size)
section
variable {P:Program}{α:Type}{r:RepT α}(w:World)
theorem Z3d {ops:Array Oper}{rest:List Oper}{o:Oper}{a:Act}{Q:Exit→Act→World→Prop}(hgd:o.guard=none) (s x:Operand) (t:TypeId)
 (ho:o.op = .call { callee:=.builtin .append,args:=#[s,x],argTypes:=#[t,t] })
 (e:TypeId) (i:TypeInfo) (z:Value) (size bytes:Nat) (ht:P.underlying t=some (.slice e)) (hi:P.info? e=some i) (hz:i.zero=some z)
 (hsize:i.size=size) (hby:i.bytes=bytes) (hzs:z.cells.size=size) (hrs:r.size=size) (hsz:0<size)
 (C:Nat→Prop) (hCl :∀k,C k→k<w.heap.size) (v:Value) (l:List α) (hs:a.eval s=v) (hown:OwnC r e C w v l)
 (ad:Addr) (c:Nat) (y:α) (cs:List Value) (hx:a.eval x = .slice (some ad) 1 c)
 (hnews :∀j u,cs[j]? = some u→w.cell? (ad.add j)=some u) (h1 :∀u∈cs,u.oneCell'=true)
 (he2:r.rep C w y cs)
 (h63:l.length+1≤maxLen) (hbytes:(l.length+1)*bytes≤140737488355328)
 (h :∀v' w',Z5u r e C w v (l ++ [y]) v' w'→wpList P ops Q rest (a.put o.dst v') w') :
 wpList P ops Q (o :: rest) a w:=by
 obtain ⟨css,h2,h3,h4⟩:=hown;subst hrs;have aq:Z32 (fun a cs=>r.rep C w a cs) [y] [cs]:=.cons he2 .nil;refine Z8b w hgd s x t ho e i z r.size bytes ht hi hz hsize hby hzs hsz 0 (Nat.zero_le _) v l.length _ hs h2 (some ad) 1 c [cs].flatten hx (Zfc (l2:=[y]) rfl aq) (fun _=>⟨ad,rfl,by rw [Zl2];exact hnews⟩) (by rw [Zl2];exact h1) h63 hbytes (fun v' w' g1 g2 g3 g4=>h v' w' ⟨?_,g2,g4⟩);exact OwnC.grown h3 h4 hCl (by rw [Ztd];exact g1) g2 g4 aq
theorem Z65 {ops:Array Oper}{o:Oper}{a:Act}{K:Act→World→Prop}{Q:Exit→Act→World→Prop}{E:Prop}(hgd:o.guard=none) (s x:Operand) (t:TypeId)
 (ho:o.op = .call { callee:=.builtin .append,args:=#[s,x],argTypes:=#[t,t] })
 (e:TypeId) (i:TypeInfo) (z:Value) (size bytes:Nat) (ht:P.underlying t=some (.slice e)) (hi:P.info? e=some i) (hz:i.zero=some z)
 (hsize:i.size=size) (hby:i.bytes=bytes) (hzs:z.cells.size=size) (hrs:r.size=size) (hsz:0<size)
 (C:Nat→Prop) (hCl :∀k,C k→k<w.heap.size) (v:Value) (l:List α) (hs:a.eval s=v) (hown:OwnC r e C w v l)
 (ad:Addr) (c:Nat) (y:α) (cs:List Value) (hx:a.eval x = .slice (some ad) 1 c)
 (hnews :∀j u,cs[j]? = some u→w.cell? (ad.add j)=some u) (h1 :∀u∈cs,u.oneCell'=true)
 (he2:r.rep C w y cs)
 (h63:l.length+1≤maxLen) (hbytes:(l.length+1)*bytes≤140737488355328)
 (h :∀v' w',Z5u r e C w v (l ++ [y]) v' w'→K (a.put o.dst v') w') :
 if Region.wanted o (yielded ops a.tmps)=true then Oper.wp P o a w K Q else E:=by
 obtain ⟨css,h2,h3,h4⟩:=hown;subst hrs;have aq:Z32 (fun a cs=>r.rep C w a cs) [y] [cs]:=.cons he2 .nil;refine Z9a w hgd s x t ho e i z r.size bytes ht hi hz hsize hby hzs hsz 0 (Nat.zero_le _) v l.length _ hs h2 (some ad) 1 c [cs].flatten hx (Zfc (l2:=[y]) rfl aq) (fun _=>⟨ad,rfl,by rw [Zl2];exact hnews⟩) (by rw [Zl2];exact h1) h63 hbytes (fun v' w' g1 g2 g3 g4=>h v' w' ⟨?_,g2,g4⟩);exact OwnC.grown h3 h4 hCl (by rw [Ztd];exact g1) g2 g4 aq
end
end
section
open Go.RowKit
def Int.cells1 (n:Int):List Value:=[.int .i64 n]
theorem Int.cells1_length (n:Int):(Int.cells1 n).length=1:=rfl
theorem Z8s:(Tryz.prog.info? 41).map (fun i=>(i.zero,i.size,i.bytes))=some (some (.agg Q2a),3,32):=Yb
theorem Zcb (l:List Sym):∀u∈l.flatMap Sym.cells,u.oneCell'=true:=by
 intro u hu;obtain ⟨b,_,hb⟩:=List.mem_flatMap.1 hu;simp only [Sym.cells,Ztb,Zth,or_false] at hb;rcases hb with rfl|rfl|rfl<;>rfl
theorem Zby:(Tryz.prog.info? 126).map (fun i=>(i.zero,i.size,i.bytes))=some (some (.agg Q2b),4,48):=Yb
theorem Zca (l:List Z0t):∀u∈l.flatMap Z0t.cells,u.oneCell'=true:=by
 intro u hu;obtain ⟨b,_,hb⟩:=List.mem_flatMap.1 hu;simp only [Z0t.cells,Ztb,Zth,or_false] at hb;rcases hb with rfl|rfl|rfl|rfl<;>rfl
theorem Zdl:(Tryz.prog.info? 52).map (fun i=>(i.zero,i.size,i.bytes))=some (some (.agg Q2c),14,128):=Yb
theorem Zea (l:List Z0j):∀u∈l.flatMap Z0j.cells,u.oneCell'=true:=by
 intro u hu;obtain ⟨b,_,hb⟩:=List.mem_flatMap.1 hu;simp only [Z0j.cells,Ztb,Zth,or_false] at hb;rcases hb with rfl|rfl|rfl|rfl|rfl|rfl|rfl|rfl|rfl|rfl|rfl|rfl|rfl|rfl<;>rfl
theorem Zdj:(Tryz.prog.info? 122).map (fun i=>(i.zero,i.size,i.bytes))=some (some (.agg #[.int .i64 0,.string ⟨#[]⟩,.int .i64 0,.int .i64 0,.string ⟨#[]⟩,.int .i64 0,.int .i64 0]),7,72):=Yb
theorem Ze9 (l:List Z1a):∀u∈l.flatMap Z1a.cells,u.oneCell'=true:=by
 intro u hu;obtain ⟨b,_,hb⟩:=List.mem_flatMap.1 hu;simp only [Z1a.cells,Ztb,Zth,or_false] at hb;rcases hb with rfl|rfl|rfl|rfl|rfl|rfl|rfl<;>rfl
theorem Zqy:(Tryz.prog.info? 181).map (fun i=>(i.zero,i.size,i.bytes))=some (some (.agg Q2e),19,224):=Yb
theorem Zrb (l:List ActT):∀u∈l.flatMap ActT.cells,u.oneCell'=true:=by
 intro u hu;obtain ⟨b,_,hb⟩:=List.mem_flatMap.1 hu;simp only [ActT.cells,Ztb,Zth,or_false] at hb;rcases hb with rfl|rfl|rfl|rfl|rfl|rfl|rfl|rfl|rfl|rfl|rfl|rfl|rfl|rfl|rfl|rfl|rfl|rfl|rfl<;>rfl
theorem Z8r:(Tryz.prog.info? 3).map (fun i=>(i.zero,i.size,i.bytes))=some (some (.int .i64 0),1,8):=Yb
theorem Z7o (l:List Int):∀u∈l.flatMap Int.cells1,u.oneCell'=true:=by
 intro u hu;obtain ⟨b,_,hb⟩:=List.mem_flatMap.1 hu;simp only [Int.cells1,Ztb,Zth,or_false] at hb;subst hb;rfl
theorem Zhd:(Tryz.prog.info? 196).map (fun i=>(i.zero,i.size,i.bytes))=some (some (.agg Q2f),6,80):=Yb
theorem Zbz:(Tryz.prog.info? 77).map (fun i=>(i.zero,i.size,i.bytes))=some (some (.agg Q2g),7,112):=Yb
theorem Zhc:(Tryz.prog.info? 80).map (fun i=>(i.zero,i.size,i.bytes))=some (some (.agg #[.int .i64 0,.bool false,.string ⟨#[]⟩,.slice none 0 0,.slice none 0 0,.bool false,.slice none 0 0,.slice none 0 0]),8,136):=Yb
theorem infp {P:Program}{t:TypeId}{z:Value}{s b:Nat}(h:(P.info? t).map (fun i=>(i.zero,i.size,i.bytes))=some (some z,s,b)):∃i,P.info? t=some i∧i.zero=some z∧i.size=s∧i.bytes=b:=by
 cases hq:P.info? t with
 | none=>rw [hq] at h;cases h
 | some i=>
   rw [hq] at h;simp only [Zt4,Option.some.injEq,Prod.mk.injEq] at h;exact ⟨i,rfl,h.1,h.2.1,h.2.2⟩
def Z9k {α:Type}(e size:Nat) (cells:α→List Value) (l:List α) (w:World) (en:Ending) (w':World):Prop:=
 ∃A c,en = .returned (.slice A l.length c)∧w'.ownsRow 0 e size (.slice A l.length c) l.length (l.flatMap cells)∧AIn A (NewD w.heap.size w')∧Below w.heap.size w w'
theorem Z4f {α:Type}{e size:Nat}{cells:α→List Value}{l:List α}{w w':World}{v v0:Value}(hown:w'.ownsRow 0 e size v l.length (l.flatMap cells)) (hat:v.ownBlock=v0.ownBlock∨v.ownBlock=some w.heap.size) (h0:v0.ownBlock=none) (hg:w.grownBy w' v0.ownBlock) :
 ∃A c,v = .slice A l.length c∧w'.ownsRow 0 e size (.slice A l.length c) l.length (l.flatMap cells)∧AIn A (NewD w.heap.size w')∧Below w.heap.size w w':=by
 have sd:=Z3i hown;obtain ⟨A,c,rfl,_,_,_⟩:=Z14 hown;refine ⟨A,c,rfl,hown,fun a ha=>?_,(Zst w.heap.size w).grown hg (Zsu _) (fun k hk=>by rw [h0] at hk;cases hk)⟩;subst ha;rcases hat with h|h
 · rw [h0] at h;cases h
 · have:=sd a.block rfl
   simp only [Value.ownBlock,Option.some.injEq] at h;exact ⟨Ya,this⟩
theorem Z2t (W:World) (e size:Nat):W.ownsRow 0 e size (.slice none 0 0) 0 []:=⟨Ye,.inl ⟨rfl,rfl⟩⟩
theorem Z9k.row {α:Type}{e size:Nat}{cells:α→List Value}(hs :∀a,(cells a).length=size){l:List α}{A:Option Addr}{c B:Nat}{w':World}(h:w'.ownsRow 0 e size (.slice A l.length c) l.length (l.flatMap cells)) (hA:AIn A (NewD B w')):RowR (RepT.flat size cells hs) (NewD B w') w' A c l:=RowR.of_rd (Z0e hs h) hA
theorem Zd8 (A:Option Addr) (c:Nat) (l:List Sym) (w:World) (hrd:Z0y w 3 Sym.cells A c l) (hl:(l.length:Int)≤100000) :
 Calls Tryz.prog 51 #[.slice A l.length c] w (Z9k 41 3 Sym.cells l w):=by
 obtain ⟨i0,tm,Nc,rm,Aj⟩:=infp Z8s;have Ww:=hU hrd;have hlc:=hrd.cap;have hlcc:=hrd.1;clear hrd;go_enter Tryz.func51,Tryz.ntmps51;(go_wp2_with (at_builtin;refine Z0g w rfl (.const (.slice none 0 0)) (.tmp 3) 34 rfl 41 i0 _ 3 32 Tryz.underlying34 tm Nc rm Aj rfl Ya (.slice none 0 0) 0 [] rfl (Z2t w _ _) A l.length c (l.flatMap Sym.cells) rfl (Z0u Sym.cells_length _) (Ww.o.news Sym.cells_length Ya) (Zcb _) Yj Ya ?_;intro v1 w2 rn Kg hnil1 Tt));exact Yxq
theorem Zqu (A:Option Addr) (c:Nat) (l:List Z0t) (w:World) (hrd:Z0y w 4 Z0t.cells A c l) (hl:(l.length:Int)≤100000) :
 Calls Tryz.prog 53 #[.slice A l.length c] w (Z9k 126 4 Z0t.cells l w):=by
 obtain ⟨i0,tm,Nc,rm,Aj⟩:=infp Zby;have Ww:=hU hrd;have hlc:=hrd.cap;have hlcc:=hrd.1;clear hrd;go_enter Tryz.func53,Tryz.ntmps53;(go_wp2_with (at_builtin;refine Z0g w rfl (.const (.slice none 0 0)) (.tmp 3) 78 rfl 126 i0 _ 4 48 Tryz.underlying78 tm Nc rm Aj rfl Ya (.slice none 0 0) 0 [] rfl (Z2t w _ _) A l.length c (l.flatMap Z0t.cells) rfl (Z0u Z0t.cells_length _) (Ww.o.news Z0t.cells_length Ya) (Zca _) Yj Ya ?_;intro v1 w2 rn Kg hnil1 Tt));exact Yxq
theorem Zh1 (A:Option Addr) (c:Nat) (l:List Z0j) (w:World) (hrd:Z0y w 14 Z0j.cells A c l) (hl:(l.length:Int)≤100000) :
 Calls Tryz.prog 49 #[.slice A l.length c] w (Z9k 52 14 Z0j.cells l w):=by
 obtain ⟨i0,tm,Nc,rm,Aj⟩:=infp Zdl;have Ww:=hU hrd;have hlc:=hrd.cap;have hlcc:=hrd.1;clear hrd;go_enter Tryz.func49,Tryz.ntmps49;(go_wp2_with (at_builtin;refine Z0g w rfl (.const (.slice none 0 0)) (.tmp 3) 31 rfl 52 i0 _ 14 128 Tryz.underlying31 tm Nc rm Aj rfl Ya (.slice none 0 0) 0 [] rfl (Z2t w _ _) A l.length c (l.flatMap Z0j.cells) rfl (Z0u Z0j.cells_length _) (Ww.o.news Z0j.cells_length Ya) (Zea _) Yj Ya ?_;intro v1 w2 rn Kg hnil1 Tt));exact Yxq
theorem Zbs (A:Option Addr) (c:Nat) (l:List Z1a) (w:World) (hrd:Z0y w 7 Z1a.cells A c l) (hl:(l.length:Int)≤100000) :
 Calls Tryz.prog 50 #[.slice A l.length c] w (Z9k 122 7 Z1a.cells l w):=by
 obtain ⟨i0,tm,Nc,rm,Aj⟩:=infp Zdj;have Ww:=hU hrd;have hlc:=hrd.cap;have hlcc:=hrd.1;clear hrd;go_enter Tryz.func50,Tryz.ntmps50;(go_wp2_with (at_builtin;refine Z0g w rfl (.const (.slice none 0 0)) (.tmp 3) 33 rfl 122 i0 _ 7 72 Tryz.underlying33 tm Nc rm Aj rfl Ya (.slice none 0 0) 0 [] rfl (Z2t w _ _) A l.length c (l.flatMap Z1a.cells) rfl (Z0u Z1a.cells_length _) (Ww.o.news Z1a.cells_length Ya) (Ze9 _) Yj Ya ?_;intro v1 w2 rn Kg hnil1 Tt));exact Yxq
def SmT (l:List Z0z):Prop:=l.length≤1000∧∀t∈l,t.list.length≤1000
def Zgu {α:Type}(r:RepT α) (l:List α) (w:World) (en:Ending) (w':World):Prop:=
 ∃A c,en = .returned (.slice A l.length c)∧RowR r (NewD w.heap.size w') w' A c l∧AIn A (NewD w.heap.size w')∧Below w.heap.size w w'
theorem NewD.up {B B':Nat}{w w':World}(hB:B'≤B) (hw:w.heap.size≤w'.heap.size):∀k,NewD B w k→NewD B' w' k:=fun k hk=>⟨by have:=hk.1;omega,by have:=hk.2;omega⟩
theorem Z9i {D:Nat→Prop}{w:World}{y:Z0z}{A:Option Addr}{c:Nat}(h:RowR Z3n D w A c y.list):Z07.rep D w y (Q0m y A c):=⟨A,c,rfl,h⟩
def Z2k {α:Type}(r:RepT α) (e:TypeId) (w:World) (l:List α) (v:Value) (wr:World):Prop:=
 ∃C A c,v = .slice A l.length c∧OwnC r e C wr v l∧(∀j,C j→NewD w.heap.size wr j)∧AIn A (NewD w.heap.size wr)∧Below w.heap.size w wr
theorem Z2k.nil {α:Type}(r:RepT α) (e:TypeId) (w:World){wr:World}(hb:Below w.heap.size w wr):Z2k r e w [] (.slice none 0 0) wr:=
 ⟨fun _=>False,none,0,rfl,OwnC.nil _ _ _ _,fun _ h=>h.elim,AIn.none_ _,hb⟩
theorem Z2k.done {α:Type}{r:RepT α}{e:TypeId}{w wr:World}{l:List α}{v:Value}(h:Z2k r e w l v wr):Zgu r l w (.returned v) wr:=by
 obtain ⟨C,A,c,rfl,h1,h2,h3,h4⟩:=h;exact ⟨A,c,rfl,h1.row h2 h3,h3,h4⟩
theorem Z2k.snoc {α:Type}{r:RepT α}{e:TypeId}{w wr W W':World}{C:Nat→Prop}{l:List α}{y:α}{A:Option Addr}{c:Nat}{v':Value}(h2 :∀j,C j→NewD w.heap.size wr j) (h3:AIn A (NewD w.heap.size wr)) (h4:Below w.heap.size w wr)
 (hb:Below wr.heap.size wr W) (ha:Z5u r e (Plus C wr W) W (.slice A l.length c) (l ++ [y]) v' W'):Z2k r e w (l ++ [y]) v' W':=by
 obtain ⟨g1,g2,g3⟩:=ha;have hz:=hb.size;have hz2:=g2.size;have Mt:=h4.size;obtain ⟨A',c',rfl,_,_,Ml⟩:=g1.form;refine ⟨Plus C wr W,A',c',rfl,g1,fun j hj=>?_,fun a ha=>⟨?_,(Ml a ha).1⟩,(h4.trans (hb.mono Mt)).grown g2 Ya (fun k hk=>?_)⟩
 · rcases hj with hj|hj
   · have:=h2 j hj;exact ⟨this.1,by have:=this.2;omega⟩
   · exact ⟨Ya,Ya⟩
 · subst ha
   rcases g3 with g3|g3
   · rcases A with _|b
     · simp [Value.ownBlock] at g3
     · simp only [Value.ownBlock,Option.some.injEq] at g3
       have:=(h3 b rfl).1;omega
   · simp only [Value.ownBlock,Option.some.injEq] at g3
     omega
 · rcases A with _|b
   · simp [Value.ownBlock] at hk
   · simp only [Value.ownBlock,Option.some.injEq] at hk
     have:=(h3 b rfl).1;omega
theorem Z2w {α:Type}{l:List α}{k:Nat}(hk:k<l.length):l.take k ++ [l[k]]=l.take (k+1):=by rw [Ztq,Zt3 hk];rfl
theorem Z1u {α:Type}{l:List α}{k:Nat}(hk:k≤l.length):(l.take k).length=k:=Yk
theorem Zd2 (A:Option Addr) (c:Nat) (l:List Z0z){D:Nat→Prop}(w:World) (hrd:RowR Z07 D w A c l) (hs:SmT l) :
 Calls Tryz.prog 73 #[.slice A l.length c] w (Zgu Z07 l w):=by
 obtain ⟨i0,tm,Nc,rm,Aj⟩:=infp Z8s;obtain ⟨j0,E6,ye,J8,Cq⟩:=infp Zhd;have hlc:=hrd.cap;have hl1:=hs.1;have Ww:=hU hrd;have HS:=hU hs;clear hrd hs;go_enter Tryz.func73,Tryz.ntmps73;go_wp2_with fail
 go_loopw [3,8] (fun v i wr=>∃k:Nat,i = .int .i64 k∧k≤l.length∧Z2k Z07 196 w (l.take k) v wr) (fun v i wr=>l.length - (intOf i).toNat)
 case atStart=>exact ⟨0,rfl,Nat.zero_le _,Z2k.nil _ _ _ (Zst _ _)⟩
 case round=>
  obtain ⟨k,rfl,hk,hC⟩:=hrel;obtain ⟨C,A1,c1,rfl,h1,h2,h3,h4⟩:=hC;rw [Z1u hk];by_cases hlt:k<l.length
  · have Dz:=Ww.o.keep (D':=D) h4.size (fun j hj hl=>⟨hj,h4.block j hl⟩)
    obtain ⟨g,off,A3,c3,rfl,hDg,hg,q0,q1,q2,q3,q4,q5,Gi⟩:=Z5a Dz hlt;obtain ⟨y,hy⟩:∃y,y=l[k]:=⟨_,rfl⟩;have hy3:y.list.length≤1000:=YT1;rw [←hy] at q0 q1 q2 q3 q4 q5 Gi;have Cs:=RowR.rd (hs:=Sym.cells_length) Gi;have hl3:=Gi.cap;refine Ysh ?_;intro b1 b2;have HY:=hU hy;refine Yuw ?_;intro H1 H2 H3 H4;have pq:=hU Cs;clear hy Dz h1 h2 h3 h4 Gi Cs;go_upto_region 5 with fail;obtain ⟨W4,rj⟩:∃W4,W4=wr.alloc (.cells (Q0n y A3 c3) 196):=⟨_,rfl⟩;have Ll:Below wr.heap.size wr W4:=YIi;(have Js:Blk W4 wr.heap.size 196 (Q0n y A3 c3):=by rw [rj];exact Blk.new _ _ _);rw [←rj];clear rj q0 q1 q2 q3 q4 q5;have Ni:=hU Ll;have ya:=hU Js;have hxl4:=Js.lt;clear Js Ll;have x5:=(ya.o.cell 5).trans rfl;(go_upto_region 6 with (at_builtin;refine Z0g W4 rfl (.const (.slice none 0 0)) (.tmp 13) 34 rfl 41 i0 _ 3 32 Tryz.underlying34 tm Nc rm Aj rfl Ya (.slice none 0 0) 0 [] rfl (Z2t _ _ _) A3 y.list.length c3 (y.list.flatMap Sym.cells) rfl (Z0u Sym.cells_length _) ((pq.o.new_ Ni.o).news Sym.cells_length Ya) (Zcb _) Yj Ya ?_;intro v1 w5 rn Kg E5 Tt;rw [Zts,Ztk] at rn;obtain ⟨A5,c5,rfl,Bl,P7,Wz⟩:=Z4f rn Tt rfl Kg;have Tg:=ya.o.new_ Wz;have u5:=(Tg.cell 5).trans rfl;have g5:=Tg.frozen 5;have hxl5:=Tg.lt;have Xp:=hU Wz;have V0:=hU Bl;have P4:=hU P7;have Og:=hU Tg;clear Tg Wz Bl P7 rn Tt Kg E5 x5));exact Ys2
  · exact Ym7
def SmC:Nat→Z0a→Prop
 | 0,_=>True
 | n+1,c=>SmT c.attr∧SmT c.value∧c.conds.length≤1000∧∀x∈c.conds,SmC n x
def Zru (n:Nat) (c:Z0a) (w:World) (en:Ending) (w':World):Prop:=
 ∃A1 c1 A2 c2 A3 c3,en = .returned (.agg #[.int .i64 c.kind,.bool c.goal,.string c.id,.slice A1 c.attr.length c1,.slice A2 c.value.length c2,.bool c.acc,.slice A3 c.conds.length c3])∧RowR Z07 (NewD w.heap.size w') w' A1 c1 c.attr∧RowR Z07 (NewD w.heap.size w') w' A2 c2 c.value∧RowR (Z09 n) (NewD w.heap.size w') w' A3 c3 c.conds∧Below w.heap.size w w'
def Z9j (f n:Nat):Prop:=∀(c:Z0a) (A1:Option Addr) (c1:Nat) (A2:Option Addr) (c2:Nat) (A3:Option Addr) (c3:Nat) (D:Nat→Prop) (w:World),
 RowR Z07 D w A1 c1 c.attr→RowR Z07 D w A2 c2 c.value→RowR (Z09 n) D w A3 c3 c.conds→SmC (n+1) c→Calls Tryz.prog f #[.agg #[.int .i64 c.kind,.bool c.goal,.string c.id,.slice A1 c.attr.length c1,.slice A2 c.value.length c2,.bool c.acc,.slice A3 c.conds.length c3]] w (Zru n c w)
theorem Z64 {n:Nat}{D:Nat→Prop}{w:World}{y:Z0a}{Ay1 Ay2 Ay3:Option Addr}{cy1 cy2 cy3:Nat}(h1:RowR Z07 D w Ay1 cy1 y.attr) (h2:RowR Z07 D w Ay2 cy2 y.value) (h3:RowR (Z09 n) D w Ay3 cy3 y.conds) :
 (Z09 (n+1)).rep D w y [.int .i64 y.kind,.bool y.goal,.string y.id,.slice Ay1 y.attr.length cy1,.slice Ay2 y.value.length cy2,.bool y.acc,.slice Ay3 y.conds.length cy3]:=⟨Ay1,cy1,Ay2,cy2,Ay3,cy3,rfl,h1,h2,h3⟩
theorem row0 {D:Nat→Prop}{w:World}{A:Option Addr}{c:Nat}{l:List Z0a}(h:RowR (Z09 0) D w A c l):l = []:=by
 cases l with
 | nil=>rfl
 | cons x l=>
   obtain ⟨_,_,_,_,_,_,hr,_⟩:=h.at_ (k:=0) Ye;exact hr.elim
theorem RowR.newD {α:Type}{r:RepT α}{B B':Nat}{w w':World}{A:Option Addr}{c:Nat}{l:List α}(h:RowR r (NewD B w) w A c l) (hb:Below w.heap.size w w') (hB:B'≤B):RowR r (NewD B' w') w' A c l:=
 h.keep hb.size (fun j hj hl=>⟨NewD.up hB hb.size j hj,hb.block j hl⟩)
theorem Z1d (b:Nat):∀(vs:List Value) (o:Nat) (w:World) (j:Nat),j≠b→(w.setCells b o vs).heap[j]? = w.heap[j]?
 | [],_,_,_,_=>rfl
 | v :: r,o,w,j,h=>by
   rw [World.setCells,Z1d b r (o+1) _ j h];exact Below.heap_setCell _ _ _ _ h
end
section
open Go.RowKit Go.Shelf
attribute [local go_sem] Oper.semAt_some
def Zsk (n most:Int) (w:World) (e:Ending) (w':World):Prop:=∃b,e = .returned (.bool b)∧(b=true→n≤most)∧Below w.heap.size w w'
theorem Zjk (A:Option Addr) (c:Nat) (l:List Z24) (most:Int) (w:World) (h:Z0y w 16 Z24.cells A c l) :
 Calls Tryz.prog 11 #[.slice A l.length c,.int .i64 most] w (Zsk l.length most w):=by
 have HR:=hU h;have hlc:=h.cap;clear h;by_cases hm:most<(l.length:Int)
 · have d0:decide (most<(l.length:Int))=true:=by simpa using hm
   clear hm;go_enter Tryz.func11,Tryz.ntmps11;go_wp2_with fail;go_ret;exact ⟨false,rfl,fun h=>YZt,Zst _ _⟩
 (have d0:decide (most<(l.length:Int))=false:=by simpa using hm);have HM:=hU (show (l.length:Int)≤most from Ya);clear hm;go_enter Tryz.func11,Tryz.ntmps11;go_wp2_with fail
 go_loopw [5] (fun s wr=>∃i:Nat,s = .int .i64 (i:Int)∧i≤l.length∧Below w.heap.size w wr) (fun s wr=>l.length - (intOf s).toNat)
 case atStart=>exact ⟨0,rfl,Nat.zero_le _,Zst _ _⟩
 case round=>
  obtain ⟨i,rfl,hi,hB⟩:=hrel;have HB:=hU hB;clear hB;by_cases hlt:i<l.length
  · obtain ⟨y,hy⟩:∃y,y=l[i]:=⟨_,rfl⟩
    obtain ⟨g,off,Jo,hgl,Gk⟩:=(HR.o.new_ HB.o).range hlt;rw [←hy] at Gk;subst Jo;have ly:=hU (show wr.rangeAt g (off+i*16) (Q0w y) from Gk);obtain ⟨W5,wv,Tq,oq,ww,Ew⟩:=Z4b (w:=wr) (t:=63) Q2i (Q0w y) rfl;have o9:=hU wv;have Nw:=hU Tq;have Xp:=hU (HB.o.trans (ww.mono HB.o.size));have q1:W5.cell? ⟨wr.heap.size,1,none⟩=some (.string y.id.text):=oq 1 _ rfl;have q4:W5.cell? ⟨wr.heap.size,4,none⟩=some (.string y.attr.text):=oq 4 _ rfl;have q7:W5.cell? ⟨wr.heap.size,7,none⟩=some (.string y.value.text):=oq 7 _ rfl;have q10:W5.cell? ⟨wr.heap.size,10,none⟩=some (.string y.other.text):=oq 10 _ rfl;have qz:wr.heap.size<W5.heap.size:=Ya;refine Yyx ?_;intro b1 b2;refine Yyc ?_;intro v1;clear hy Gk wv Tq oq ww Ew;obtain ⟨d,hd⟩:∃d:Bool,d=(decide ((100:Int)<(y.id.text.size:Int)) ||decide ((100:Int)<(y.attr.text.size:Int)) ||decide ((100:Int)<(y.value.text.size:Int)) ||decide ((100:Int)<(y.other.text.size:Int))):=⟨_,rfl⟩;cases d1:decide ((100:Int)<(y.id.text.size:Int))<;>cases d2:decide ((100:Int)<(y.attr.text.size:Int))<;>cases d3:decide ((100:Int)<(y.value.text.size:Int))<;>cases d4:decide ((100:Int)<(y.other.text.size:Int))
    all_goals
     clear hd
     go_wp2_with (first
      | (with_reducible refine wpList_load_mid rfl 63 _ rfl g (off+i*16) rfl (Q0w y) _ ly.o Tryz.underlying63 rfl Yb ?_)
      | ((with_reducible refine wpList_store_mid rfl 63 _ _ rfl wr.heap.size 0 (Q0x y) rfl rfl Nw.o Yb Yb ?_);rw [←o9.o]))
     first
      | (go_ret;exact ⟨false,rfl,fun h=>YZt,Xp.o⟩)
      | (go_roundw
         case rel=>exact ⟨i+1,Yn,Ya,Xp.o⟩
         case measure=>simp [intOf]<;>omega)
  · obtain rfl:i=l.length:=by omega
    have jz :¬(l.length:Int)<(l.length:Int):=Ya;go_wp2_with fail;go_ret;exact ⟨true,rfl,fun _=>HM.o,HB.o⟩
end
section
open Go.RowKit
def Z55 (c:UInt8):Bool:=decide (97≤c.toNat) && decide (c.toNat≤122)
def Z53 (c:UInt8):Bool:=decide (65≤c.toNat) && decide (c.toNat≤90)
def Z7d (c:UInt8):Bool:=decide (48≤c.toNat) && decide (c.toNat≤57)
def Zji (c:UInt8):Bool:=Z55 c ||Z7d c ||c.toNat == 45 ||c.toNat == 95
def Z1t (t:ByteArray):Bool:=decide (1≤t.size) && decide (t.size≤32) && t.data.toList.head?.any Z55 && t.data.toList.all Zji
theorem Zb5 {t:ByteArray}:Z1t t=true↔∃h:0<t.size,t.size≤32∧Z55 t[0]=true∧∀k,(h:k<t.size)→Zji t[k]=true:=by
 unfold Z1t;rw [Ztr,Ztr,Ztr,decide_eq_true_iff,decide_eq_true_iff,Zu2];have hs:t.data.toList.length=t.size:=Array.length_toList;constructor
 · rintro ⟨⟨⟨h1,h2⟩,h3⟩,h4⟩
   refine ⟨h1,h2,?_,fun k h=>h4 _ ?_⟩
   · rw [List.head?_eq_getElem?,Zt3 Ya] at h3
     exact (by simpa only [Option.any_some,Array.getElem_toList] using h3:Z55 t.data[0]=true)
   · have:t[k]=t.data.toList[k]' Ya:=by rw [Array.getElem_toList];rfl
     rw [this];exact Ztf _
 · rintro ⟨h1,h2,h3,h4⟩
   refine ⟨⟨⟨h1,h2⟩,?_⟩,fun x hx=>?_⟩
   · rw [List.head?_eq_getElem?,Zt3 Ya]
     rw [Option.any_some,Array.getElem_toList];exact h3
   · obtain ⟨k,hk,rfl⟩:=List.getElem_of_mem hx
     have:=h4 k Ya;rw [Array.getElem_toList];exact this
theorem Z7y {t:ByteArray}(h :¬∃h:0<t.size,t.size≤32∧Z55 t[0]=true∧∀k,(h:k<t.size)→Zji t[k]=true):Z1t t=false:=by
 cases e:Z1t t
 · rfl
 · exact absurd (Zb5.1 e) h
theorem Zcq (c:UInt8) (w:World):Calls Tryz.prog 189 #[.int .u8 (c.toNat:Int)] w fun e w'=>e = .returned (.bool (Z55 c))∧w=w':=by
 by_cases h1:97≤c.toNat
 · have t1:decide ((97:Int)≤(c.toNat:Int))=true:=by simp;omega
   by_cases h2:c.toNat≤122
   · have t2:decide ((c.toNat:Int)≤122)=true:=by simp;omega
     (have HF:Hq (Z55 c=true):=by simp [Hq,Z55,h1,h2]);clear h1 h2;exact Y3h
   · have t2:decide ((c.toNat:Int)≤122)=false:=by simp;omega
     (have HF:Hq (Z55 c=false):=by simp [Hq,Z55,h2]);clear h1 h2;exact Y3h
 · have t1:decide ((97:Int)≤(c.toNat:Int))=false:=by simp;omega
   (have HF:Hq (Z55 c=false):=by simp [Hq,Z55,h1]);clear h1;exact Y3h
theorem Zol (c:UInt8) (w:World):Calls Tryz.prog 217 #[.int .u8 (c.toNat:Int)] w fun e w'=>e = .returned (.bool (Z53 c))∧w=w':=by
 by_cases h1:65≤c.toNat
 · have t1:decide ((65:Int)≤(c.toNat:Int))=true:=by simp;omega
   by_cases h2:c.toNat≤90
   · have t2:decide ((c.toNat:Int)≤90)=true:=by simp;omega
     (have HF:Hq (Z53 c=true):=by simp [Hq,Z53,h1,h2]);clear h1 h2;exact Yid
   · have t2:decide ((c.toNat:Int)≤90)=false:=by simp;omega
     (have HF:Hq (Z53 c=false):=by simp [Hq,Z53,h2]);clear h1 h2;exact Yid
 · have t1:decide ((65:Int)≤(c.toNat:Int))=false:=by simp;omega
   (have HF:Hq (Z53 c=false):=by simp [Hq,Z53,h1]);clear h1;exact Yid
theorem Zoa (c:UInt8) (w:World):Calls Tryz.prog 190 #[.int .u8 (c.toNat:Int)] w fun e w'=>e = .returned (.bool (Z7d c))∧w=w':=by
 by_cases h1:48≤c.toNat
 · have t1:decide ((48:Int)≤(c.toNat:Int))=true:=by simp;omega
   by_cases h2:c.toNat≤57
   · have t2:decide ((c.toNat:Int)≤57)=true:=by simp;omega
     (have HF:Hq (Z7d c=true):=by simp [Hq,Z7d,h1,h2]);clear h1 h2;exact Yhd
   · have t2:decide ((c.toNat:Int)≤57)=false:=by simp;omega
     (have HF:Hq (Z7d c=false):=by simp [Hq,Z7d,h2]);clear h1 h2;exact Yhd
 · have t1:decide ((48:Int)≤(c.toNat:Int))=false:=by simp;omega
   (have HF:Hq (Z7d c=false):=by simp [Hq,Z7d,h1]);clear h1;exact Yhd
theorem Z49 (t:ByteArray) (w:World):Calls Tryz.prog 158 #[.string t] w fun e w'=>e = .returned (.bool (Z1t t))∧w=w':=by
 by_cases h1:t.size<1
 · have t1:decide ((t.size:Int)<1)=true:=by simp;omega
   have HF:=hU (Z7y (t:=t) (fun ⟨h,_⟩=>Ya));clear h1;go_enter Tryz.func158,Tryz.ntmps158;exact Ysv
 have t1:decide ((t.size:Int)<1)=false:=Yk;by_cases h2:32<t.size
 · have t2:decide ((32:Int)<(t.size:Int))=true:=by simp;omega
   have HF:=hU (Z7y (t:=t) (fun ⟨h,h3,_⟩=>Ya));clear h1 h2;go_enter Tryz.func158,Tryz.ntmps158;exact Ysv
 have t2:decide ((32:Int)<(t.size:Int))=false:=Yk;have h0:0<t.size:=Ya;have h32:t.size≤32:=Ya;clear h1 h2;cases h3:Z55 t[0]
 · have HF:=hU (Z7y (t:=t) (fun ⟨h,_,h4,_⟩=>by rw [h3] at h4;cases h4))
   go_enter Tryz.func158,Tryz.ntmps158;(go_wp2_with (go_at_call 189;refine (Zcq _ _).mono ?_;rintro e w' ⟨rfl,rfl⟩));go_ret;exact ⟨YAq,rfl⟩
 go_enter Tryz.func158,Tryz.ntmps158;(go_wp2_with (go_at_call 189;refine (Zcq _ _).mono ?_;rintro e w' ⟨rfl,rfl⟩));have H3:=hU h3;clear h3 t1 t2
 go_loop [3] (fun s=>∃i:Nat,s = .int .i64 i∧1≤i∧i≤t.size∧∀k,(h:k<t.size)→k<i→Zji t[k]=true) (fun s=>t.size - (intOf s).toNat)
 case atStart=>exact ⟨1,rfl,Zsu _,h0,fun k h hk=>by obtain rfl:k=0:=by omega
                                                    simp [Zji,H3.o]⟩
 case round=>
  obtain ⟨i,rfl,hi1,hi,Lt⟩:=hrel;have Ci:=hU Lt;clear Lt;by_cases hlt:i<t.size
  · have HP:Hq (Zji t[i]=(Z55 t[i] ||Z7d t[i] ||decide (t[i].toNat=45) ||decide (t[i].toNat=95))):=rfl
    (have t5:((t[i].toNat:Int) != 45) = !decide (t[i].toNat=45):=by rw [Bool.eq_iff_iff];simp;omega);(have t6:((t[i].toNat:Int) != 95) = !decide (t[i].toNat=95):=by rw [Bool.eq_iff_iff];simp;omega);cases hs:Z55 t[i]<;>cases hd:Z7d t[i]<;>cases h5:decide (t[i].toNat=45)<;>cases h6:decide (t[i].toNat=95)
    all_goals
     rw [h5] at t5;rw [h6] at t6;simp only [Bool.not_true,Bool.not_false] at t5 t6;have Tm:=HP.o;rw [hs,hd,h5,h6] at Tm;have qq:=hU Tm;clear h5 h6 HP Tm;go_wp2_with (first|(go_at_call 189;refine (Zcq _ _).mono ?_;rintro e w' ⟨rfl,rfl⟩)|(go_at_call 190;refine (Zoa _ _).mono ?_;rintro e w' ⟨rfl,rfl⟩))
     first
      | (go_ret
         refine ⟨?_,rfl⟩
         rw [Z7y (t:=t) (fun ⟨_,_,_,h⟩=>by have h2:=h i hlt;rw [qq.o] at h2;exact absurd h2 Yc)];rfl)
      | (go_round
         case rel=>exact ⟨i+1,Yn,Ya,Ya,fun k h hk=>by
          rcases Nat.lt_or_ge k i with h3|h3
          · exact Ci.o k h h3
          · obtain rfl:k=i:=by omega
            rw [qq.o];rfl⟩
         case measure=>simp [intOf]<;>omega)
  · have Np:i=t.size:=by omega
    subst Np;go_wp2;go_ret;exact ⟨by rw [Zb5.2 ⟨h0,h32,H3.o,fun k h=>Ci.o k h h⟩];rfl,rfl⟩
end
section
section
variable {P:Program}{ops:Array Oper}{Q:Exit→Act→World→Prop}{S:World→Prop}
inductive Pl where
 | fin (l:List (Nat×Cls))
 | fork (l:List (Nat×Cls)) (i:Nat) (r:Pl) (j:Nat) (s:Pl)
def setL (listed:Array Bool) (l:List (Nat×Cls)):Array Bool:=l.foldl (fun g x=>g.setIfInBounds x.1 true) listed
def okL (ops:Array Oper):List (Nat×Cls)→Array Bool→Bool
 | [],_=>true
 | (k,c) :: rest,listed=>(if c == 2 then Region.ready .any ops listed == [k] else (Region.ready .any ops listed).contains k && Region.free .any ops listed k) && okL ops rest (listed.setIfInBounds k true)
def chkL (qs ls:List Nat) (l:List (Nat×Cls)):Bool:=l.all fun (k,c)=>(c != 2) == qs.contains k && (c != 1 ||ls.contains k)
def okPl (ops:Array Oper) (qs ls:List Nat):Pl→Nat→Array Bool→Bool
 | .fin l,n,listed=>n == l.length && chkL qs ls l && okL ops l listed && (Region.ready .any ops (setL listed l)).isEmpty && l.all fun x=>x.1<ops.size
 | .fork l i r j s,n,listed=>decide (l.length+1≤n) && chkL qs ls l && okL ops l listed && (l.all fun x=>x.1<ops.size) && Region.ready .any ops (setL listed l) == [i,j] && !qs.contains i && !qs.contains j &&
  okPl ops qs ls r (n - l.length - 1) ((setL listed l).setIfInBounds i true) && okPl ops qs ls s (n - l.length - 1) ((setL listed l).setIfInBounds j true)
def wpY (P:Program) (ops:Array Oper) (Q:Exit→Act→World→Prop) (S:World→Prop) (ns:Nat→Bool) (R:Act→World→Prop):List (Nat×Cls×Oper)→Act→World→Prop
 | [],a,w=>R a w
 | (i,c,o) :: rest,a,w=>
   if c=2 then (if Region.wanted o (yielded ops a.tmps)=true then o.wp P a w (fun a' w'=>(ns i=true→S w')∧wpY P ops Q S ns R rest a' w') Q else (ns i=true→S w)∧wpY P ops Q S ns R rest (a.put o.dst undef) w)
   else ∃v,(if c=1 then YieldsIf P ops S o v a∧S w else Yields P ops o v a)∧wpY P ops Q S ns R rest (a.put o.dst v) w
def wpPl (P:Program) (ops:Array Oper) (Q:Exit→Act→World→Prop) (S:World→Prop) (ns:Nat→Bool):Pl→Act→World→Prop
 | .fin l,a,w=>wpY P ops Q S ns (fun a w=>Q .normal a w) (Z08 ops l) a w
 | .fork l i r j s,a,w=>wpY P ops Q S ns (fun a w=>wpOp P ops Q i (fun a' w'=>(ns i=true→S w')∧wpPl P ops Q S ns r a' w') a w∧wpOp P ops Q j (fun a' w'=>(ns j=true→S w')∧wpPl P ops Q S ns s a' w') a w) (Z08 ops l) a w
theorem Z5w :∀(l:List (Nat×Cls)) (listed:Array Bool),Z58 ops listed→okL ops l listed=true→Z58 ops (setL listed l)
 | [],_,h,_=>h
 | (k,c) :: rest,listed,h,hB=>by
   simp only [okL,Ztr] at hB;refine Z5w rest _ (Z2b h ?_) hB.2;by_cases hc:c=2
   · subst hc
     have hB1:=hB.1;simp only [beq_self_eq_true,if_true] at hB1;(have hr:Region.ready .any ops listed = [k]:=by simpa using hB1);rw [hr];simp
   · have hB1:=hB.1
     rw [if_neg YRq] at hB1;simp only [Ztr] at hB1;simpa using hB1.1
theorem Z4a {qt ns:Nat→Bool}{R:Act→World→Prop}{n:Nat}(hsel:Region.noSelect ops=true) (hQ :∀c a a' w,Q (.panic c) a w→Q (.panic c) a' w) :
 ∀(rest:List (Nat×Cls)) (listed:Array Bool) (a:Act) (w:World),Z58 ops listed→okL ops rest listed=true→(∀x∈rest,x.1<ops.size)→
  (∀k c,(k,c)∈rest→(qt k=true↔c≠2))→(∀k,(k,1)∈rest→∀j,Z2p ops ops.size j k=false→j≠k→j<ops.size→ns j=true)→
  (∀a w,R a w→Z8a P ops Q S qt ns n (setL listed rest) a w)→wpY P ops Q S ns R (Z08 ops rest) a w→Z8a P ops Q S qt ns (rest.length+n) listed a w
 | [],listed,a,w,_,_,_,_,_,hR,h=>by
   have:=hR a w h;simpa [setL] using this
 | (k,c) :: rest,listed,a,w,hcl,hB,hl,hqt,hns,hR,h=>by
   simp only [okL,Ztr] at hB;obtain ⟨Ky,Rt⟩:=hB;have hi:k<ops.size:=hl (k,c) Ye;have ho:ops[k]? = some ops[k]:=Array.getElem?_eq_getElem hi;(have hb:Z08 ops ((k,c) :: rest)=(k,c,ops[k]) :: Z08 ops rest:=by simp [Z08,ho]);have ih:=fun listed' a w hcl' hB' hR' h'=>Z4a (R:=R) (n:=n) hsel hQ rest listed' a w hcl' hB' (fun x hx=>hl x YXl) (fun k c hk=>hqt k c YCl) (fun k hk=>hns k YCl) hR' h';rw [hb] at h;simp only [wpY] at h;(have Vx:((k,c) :: rest).length+n=(rest.length+n)+1:=by simp;omega);rw [Vx];by_cases hc:c=2
   · subst hc
     simp only [beq_self_eq_true,if_true] at Ky;(have hr:Region.ready .any ops listed = [k]:=by simpa using Ky);simp only [if_true] at h;have Va:=Z2b hcl (i:=k) (by rw [hr];simp);refine ⟨fun h0=>(by rw [hr] at h0;cases h0),fun i hi'=>?_⟩;rw [hr] at hi';obtain rfl:i=k:=by simpa using hi'
     have hbh :∀w',(ns i=true→S w')→Z6j S qt ns i w w':=fun w' hs=>by
      unfold Z6j;rw [if_neg (fun hq=>(hqt i 2 Ye).1 hq rfl)];exact hs
     unfold wpOp;simp only [ho]
     split
     · rename_i hw
       rw [if_pos hw] at h;exact .inl (Oper.wp_mono (fun a' w' h'=>⟨hbh w' h'.1,ih _ a' w' Va Rt hR h'.2⟩) h)
     · rename_i hw
       rw [if_neg hw] at h;exact ⟨hbh w h.1,ih _ _ w Va Rt hR h.2⟩
   · rw [if_neg YRq] at Ky
     simp only [Ztr] at Ky;rw [if_neg hc] at h;obtain ⟨v,hy,hk⟩:=h;(have qx:k∈Region.ready .any ops listed:=by simpa using Ky.1);have Ru:=ih _ _ w (Z2b hcl qx) Rt hR hk;by_cases h1:c=1
     · subst h1
       rw [if_pos rfl] at hy
       exact Z5g ho (Region.noSelect_spec hsel) (fun c a w=>hQ c _ _ w) true ((hqt k 1 Ye).2 hc) (fun _=>hns k Ye) (rest.length+n) listed a w hcl (Region.free_spec ho Ky.2) qx
        (hy.1.imp (fun ⟨p,q⟩=>⟨p,fun w' hw'=>q w' (hw' rfl)⟩) id) (fun _=>hy.2) Ru
     · rw [if_neg h1] at hy
       exact Z5g ho (Region.noSelect_spec hsel) (fun c a w=>hQ c _ _ w) false ((hqt k c Ye).2 hc) (fun h=>YZt) (rest.length+n) listed a w hcl (Region.free_spec ho Ky.2) qx
        (hy.imp (fun ⟨p,q⟩=>⟨p,fun w' _=>q w'⟩) id) (fun h=>YZt) Ru
theorem Zne {qs ls:List Nat}(hsel:Region.noSelect ops=true) (hQ :∀c a a' w,Q (.panic c) a w→Q (.panic c) a' w) (p:Pl) :
 ∀(n:Nat) (listed:Array Bool) (a:Act) (w:World),Z58 ops listed→okPl ops qs ls p n listed=true→
  wpPl P ops Q S (fun j=>ls.any fun k=>k != j && !Z2p ops ops.size j k) p a w→Z8a P ops Q S (fun k=>qs.contains k) (fun j=>ls.any fun k=>k != j && !Z2p ops ops.size j k) n listed a w:=by
 refine Ylv ?_;intro hq hn
 induction p with
 | fin l=>
   intro n listed a w O0 hB h;simp only [okPl,Ztr,beq_iff_eq] at hB;exact Yav
 | fork l i r j s ihr ihs=>
   intro n listed a w O0 hB h;simp only [okPl,Ztr,beq_iff_eq,Zuf,Bool.not_eq_true'] at hB;obtain ⟨⟨⟨⟨⟨⟨⟨⟨hlen,hc⟩,hL⟩,sd⟩,Xm⟩,Cn⟩,J3⟩,hr⟩,hs⟩:=hB;obtain ⟨m,rfl⟩:∃m,n=l.length+(m+1):=⟨n - l.length - 1,Ya⟩;have em:l.length+(m+1) - l.length - 1=m:=Ya;rw [em] at hr hs;have Va:=Z5w l listed O0 hL;refine Z4a (P:=P) (Q:=Q) (S:=S) (qt:=fun k=>qs.contains k) (ns:=fun j=>ls.any fun k=>k != j && !Z2p ops ops.size j k) (n:=m+1) hsel hQ l listed a w O0 hL YB0 (hq l hc) (hn l hc) (fun a w hR=>?_) h;refine ⟨fun h0=>(by rw [Xm] at h0;cases h0),fun k hk=>?_⟩;have Oz:=Z2b Va hk;rw [Xm] at hk;simp only [Ztb,Zth,or_false] at hk;rcases hk with rfl|rfl
   · refine wpOp_mono (fun a' w' h'=>⟨?_,ihr m _ a' w' Oz hr h'.2⟩) hR.1
     unfold Z6j;rw [if_neg (by simp only [Cn];simp)];exact h'.1
   · refine wpOp_mono (fun a' w' h'=>⟨?_,ihs m _ a' w' Oz hs h'.2⟩) hR.2
     unfold Z6j;rw [if_neg (by simp only [J3];simp)];exact h'.1
theorem Z1g {id:Nat}{l:List Oper}{a:Act}{w:World}(S:World→Prop) (qs ls:List Nat) (p:Pl) (hm:P.follows .mixedOrders=true) (hsel:Region.noSelect l.toArray=true)
 (hB:okPl l.toArray qs ls p l.toArray.size (Array.replicate l.toArray.size false)=true)
 (h :∀K:Act→World→Prop,(∀a w,Q .normal a w→K a w)→wpPl P l.toArray (Z78 K) S (fun j=>ls.any fun k=>k != j && !Z2p l.toArray l.toArray.size j k) p a w.drew):(Code.region id l.toArray true).wp P Q a w:=by
 refine Code.wp_mono (Q:=Z78 fun a w=>Q .normal a w) (fun e a w hq=>by cases e<;>first|exact hq|exact hq.elim) (wp_region_any hm ?_);(have O0:Z58 l.toArray (Array.replicate l.toArray.size false):=fun m o hm=>YDn);exact Z76 _ _ _ _ (Zne (P:=P) (Q:=Z78 fun a w=>Q .normal a w) (S:=S) hsel (fun c a a' w h=>h) p _ _ a w.drew O0 hB (h _ (fun _ _ h=>h)))
variable {ns:Nat→Bool}{R:Act→World→Prop}{rest:List (Nat×Cls×Oper)}{a:Act}{w:World}{i:Nat}{o:Oper}
theorem Z0p (h:R a w):wpY P ops Q S ns R [] a w:=h
theorem Z1r (v:Value) (hy:Yields P ops o v a) (h:wpY P ops Q S ns R rest (a.put o.dst v) w):wpY P ops Q S ns R ((i,0,o) :: rest) a w:=by
 simp only [wpY];exact ⟨v,by simpa using hy,h⟩
theorem Z1y (v:Value) (hS:S w) (hy:YieldsIf P ops S o v a) (h:wpY P ops Q S ns R rest (a.put o.dst v) w):wpY P ops Q S ns R ((i,1,o) :: rest) a w:=by
 simp only [wpY];exact ⟨v,by simpa using ⟨hy,hS⟩,h⟩
theorem Z6y (hn:ns i=false)
 (h :∀K:Act→World→Prop,(∀a w,wpY P ops Q S ns R rest a w→K a w)→if Region.wanted o (yielded ops a.tmps)=true then Oper.wp P o a w K Q else K (a.put o.dst undef) w):wpY P ops Q S ns R ((i,2,o) :: rest) a w:=by
 have:=h (fun a' w'=>(ns i=true→S w')∧wpY P ops Q S ns R rest a' w') (fun a w h2=>⟨fun h=>absurd h (by rw [hn];simp),h2⟩);simpa only [wpY,if_true] using this
theorem Z1n
 (h :∀K:Act→World→Prop,(∀a w,S w→wpY P ops Q S ns R rest a w→K a w)→if Region.wanted o (yielded ops a.tmps)=true then Oper.wp P o a w K Q else K (a.put o.dst undef) w):wpY P ops Q S ns R ((i,2,o) :: rest) a w:=by
 have:=h (fun a' w'=>(ns i=true→S w')∧wpY P ops Q S ns R rest a' w') (fun a w h1 h2=>⟨fun _=>h1,h2⟩);simpa only [wpY,if_true] using this
theorem Z95 {C:World→Prop}{H:Act→World→Prop}(hC :∀w,C w) (ho:ops[i]? = some o)
 (h :∀K:Act→World→Prop,(∀a w,H a w→K a w)→if Region.wanted o (yielded ops a.tmps)=true then Oper.wp P o a w K Q else K (a.put o.dst undef) w) :
 wpOp P ops Q i (fun a' w'=>C w'∧H a' w') a w:=by
 have h2:=h (fun a' w'=>C w'∧H a' w') (fun a w h2=>⟨hC w,h2⟩);exact Y9o
theorem Z1c {C:World→Prop}{H:Act→World→Prop}(ho:ops[i]? = some o)
 (h :∀K:Act→World→Prop,(∀a w,C w→H a w→K a w)→if Region.wanted o (yielded ops a.tmps)=true then Oper.wp P o a w K Q else K (a.put o.dst undef) w) :
 wpOp P ops Q i (fun a' w'=>C w'∧H a' w') a w:=by
 have h2:=h (fun a' w'=>C w'∧H a' w') (fun a w h1 h2=>⟨h1,h2⟩);exact Y9o
end
end
section
open Go.RowKit
def Z79 (n:Nat):ByteArray:=⟨#[UInt8.ofNat (48+n)]⟩
theorem Zo8 (n:Nat) (h:n<10) (W:World) (g:Nat) (hc:W.cell? ⟨g,0,none⟩=some (.int .u8 (48+(n:Int)))):(convert 234 9 (.slice (some ⟨g,0,none⟩) 1 1)).run Tryz.prog W = .ok (.string (Z79 n)) W:=
 Lib.run_convert_whole (P:=Tryz.prog) W 234 5 9 Tryz.underlying234 Tryz.underlying5 Tryz.underlying9 g 0 (Z79 n) (fun i hi=>by
  (have:i=0:=by have:(Z79 n).size=1:=rfl;omega);subst this;rw [Nat.add_zero,hc];(have e:(Z79 n)[0].toNat=48+n:=by show (UInt8.ofNat (48+n)).toNat=48+n;simp;omega);rw [e]
  simp) 1
def decB (n:Nat):ByteArray:=if n<10 then Z79 n else decB (n / 10)++Z79 (n % 10)
theorem Z71 (n:Nat):(Z79 n).size=1:=rfl
def Zqw (f:UInt8→Bool) (t:ByteArray):Bool:=t.data.toList.head?.any f
theorem Zoo {f:UInt8→Bool}{t:ByteArray}(h:0<t.size):Zqw f t=f t[0]:=by
 have hs:t.data.toList.length=t.size:=Array.length_toList;unfold Zqw;rw [List.head?_eq_getElem?,Zt3 Ya,Option.any_some,Array.getElem_toList];rfl
def Z6c (s:Sym):Bool:=
 if s.kind=1 then decide (s.text.size=1) && Zqw Z53 s.text && decide (1≤s.n) && decide (s.n≤1048576)
 else if s.kind=2 then decide (s.text.toList = []) && decide (-2147483647≤s.n) && decide (s.n≤2147483647)
 else if s.kind=3 then decide (s.n=0) && Z1t s.text else false
theorem Z2d {a b:Bool}(h:a=b):Ending.returned (.bool a) = .returned (.bool b):=by rw [h]
theorem Zpr (s:Sym) (w:World):Calls Tryz.prog 213 #[.agg #[.int .i64 s.kind,.string s.text,.int .i64 s.n]] w fun e w'=>e = .returned (.bool (Z6c s))∧Below w.heap.size w w':=by
 obtain ⟨k,t,n⟩:=s;dsimp only;by_cases k1:k=1
 · subst k1
   by_cases a1:t.size=1
   · have h0:0<t.size:=by omega
     have t1:((t.size:Int) == 1)=true:=Yk;have HV:=hU (show Z6c ⟨1,t,n⟩=(Z53 t[0] && decide (1≤n) && decide (n≤1048576)) by simp [Z6c,a1,Zoo h0]);go_enter Tryz.func213,Tryz.ntmps213;go_wp2_with (go_at_call 217;refine (Zol _ _).mono ?_;rintro e w' ⟨rfl,rfl⟩)
     all_goals
      exact Yus
   · have t1:((t.size:Int) == 1)=false:=by simp;omega
     have HV:=hU (show Z6c ⟨1,t,n⟩=false by simp [Z6c,a1]);exact Yd5
 · by_cases k2:k=2
   · subst k2
     have HV:=hU (show Z6c ⟨2,t,n⟩=(decide (t.toList = []) && decide (-2147483647≤n) && decide (n≤2147483647)) by simp [Z6c]);clear k1;go_enter Tryz.func213,Tryz.ntmps213;go_wp2_with fail
     all_goals
      exact Yus
   · by_cases k3:k=3
     · subst k3
       have HV:=hU (show Z6c ⟨3,t,n⟩=(decide (n=0) && Z1t t) by simp [Z6c]);clear k1 k2;go_enter Tryz.func213,Tryz.ntmps213;go_wp2_with (go_at_call 158;refine (Z49 _ _).mono ?_;rintro e w' ⟨rfl,rfl⟩)
       all_goals
        exact Yus
     · have HV:=hU (show Z6c ⟨k,t,n⟩=false by simp [Z6c,k1,k2,k3])
       (have t1:(k == 1)=false:=by simp [k1]);(have t2:(k == 2)=false:=by simp [k2]);(have t3:(k == 3)=false:=by simp [k3]);clear k1 k2 k3;exact Yd5
theorem Z5q {α:Type}{cells:α→List Value}(hsz :∀x,(cells x).length=1) (_h0:0<1) (l:List α) (k:Nat) (hk:k<l.length) (y:α) :
 setAll (l.flatMap cells) k (cells y)=(l.set k y).flatMap cells:=by
 have h:=Z4r hsz Ya l k hk y;rwa [Nat.mul_one] at h
abbrev Name:=ByteArray
def Name.cells (n:Name):List Value:=[.string n]
theorem Name.cells_length (n:Name):(Name.cells n).length=1:=rfl
def Z11 (a b:Name):Int:=Z2s a b
theorem Z48:TC Z11:=Zn5
theorem Zo6 (a b:Name) (w:World):Calls Tryz.prog 288 #[.string a,.string b] w fun e w'=>e = .returned (.int .i64 (Z11 a b))∧Below w.heap.size w w':=by
 go_enter Tryz.func288,Tryz.ntmps288;go_wp2
 all_goals (go_ret;refine ⟨?_,Zst _ _⟩;unfold Z11 Z2s;simp_all)
end
section
def zS:Sym:=⟨0,⟨#[]⟩,0⟩
def Za4 (s:Sym):Bool:=decide (s=zS)
def Z91 (a:Z5l):Bool:=decide (a.var.toList = []) && Za4 a.sym
def Z5o (s:Sym):Bool:=decide (s.kind≠1) && Z6c s
def Z2j (t:Z0z):Bool:=
 if t.rel=8 then decide (t.var.toList = []) && Za4 t.sym && decide (1≤t.list.length) && decide (t.list.length≤8) && t.list.all Z5o
 else if t.rel<1∨7<t.rel∨0<t.list.length then false
 else if t.var.toList = [] then Z5o t.sym else Z1t t.var && Za4 t.sym
def Z4z (a:Z5l):Bool:=if a.var.toList = [] then Z5o a.sym else Z1t a.var && Za4 a.sym
def Z1l (c:Z0a) (deep:Nat):Int:=
 if c.kind=3 then (if c.goal=true∨c.id.toList≠[]∨0<c.attr.length∨0<c.value.length∨c.acc=true∨c.conds.length=0 then 9 else if 3≤deep then 8 else 0)
 else if c.kind=1∨c.kind=2 then
  (if 0<c.conds.length∨Z1t c.id=false∨c.attr.length=0 then 9 else if 4<c.attr.length∨4<c.value.length then 7 else if (c.attr.all Z2j && c.value.all Z2j)=false then 9 else 0)
 else 9
def Z89 (a:Z5l):Bool:=decide (a.var.toList = []) && decide (a.sym.kind=3)
def Z5k (t:Zi6):Bool:=
 if t.op<0∨3<t.op∨Z4z t.a=false then false
 else if t.op=0 then Z91 t.b else Z4z t.b && !Z89 t.a && !Z89 t.b
def Zeb (k:Int):Bool:=decide (k=8) ||decide (k=9) ||decide (k=10)
def actB (a:ActT):Bool:=
 if Z1t a.id=false∨Z4z a.attr=false∨Z5k a.value=false∨a.pref<1∨10<a.pref then false
 else if Zeb a.pref=true then Z4z a.other else Z91 a.other
def Z17:Nat→Nat→List Z0a→List (Nat×Z0a)
 | 0,_,_=>[]
 | n+1,d,l=>l.flatMap fun c=>(d,c) :: Z17 n (d+1) c.conds
def Z2e (n:Nat) (p:Z3r):Int×Int:=
 if Z1t p.name=false then (-1,2)
 else if (Z17 n 0 p.conds).length<1∨16<(Z17 n 0 p.conds).length∨p.acts.length<1∨16<p.acts.length then (-1,7)
 else match (Z17 n 0 p.conds).findIdx? (fun c=>decide (Z1l c.2 c.1≠0)) with
  | some k=>(k,(((Z17 n 0 p.conds)[k]?).map fun c=>Z1l c.2 c.1).getD 0)
  | none=>match p.acts.findIdx? (fun a=>!actB a) with
    | some i=>((Z17 n 0 p.conds).length+i,9)
    | none=>(-1,0)
abbrev Kn:=List ByteArray×List ByteArray
def metK (k:Kn) (v:ByteArray):Kn:=(put Z11 k.1 v,if has Z11 k.1 v=true then k.2 else k.2 ++ [v])
def hasK (k:Kn) (v:ByteArray):Bool:=has Z11 k.1 v
def Z27:Kn→List Z0z→Bool×Kn
 | k,[]=>(true,k)
 | k,t :: l=>if t.rel=8∨t.var.toList = [] then Z27 k l else if t.rel=1 then Z27 (metK k t.var) l else if hasK k t.var=true then Z27 k l else (false,k)
def oneK (k:Kn) (c:Z0a):Bool×Kn:=
 let k1:=if c.goal=true then metK k c.id else k
 if hasK k1 c.id=true then (match Z27 k1 c.attr with|(true,k2)=>Z27 k2 c.value|(false,k2)=>(false,k2)) else (false,k1)
def Z21:Nat→Kn→List Z0a→Int→Bool×Int×Kn
 | 0,k,_,at_=>(true,at_,k)
 | _+1,k,[],at_=>(true,at_,k)
 | n+1,k,c :: l,at_=>
   if c.kind=3 then
    (match Z21 n (k.1,[]) c.conds (at_+1) with
      | (true,a2,_)=>Z21 (n+1) k l a2
      | (false,a2,_)=>(false,a2,k))
   else
    (match oneK (if c.kind=1 then k else (k.1,[])) c with
      | (true,k2)=>Z21 (n+1) (if c.kind=1 then k2 else k) l (at_+1)
      | (false,_)=>(false,at_,k))
termination_by n _ l _=>(n,l.length)
def Z68 (k:Kn) (a:Z5l):Bool:=decide (a.var.toList≠[]) && !hasK k a.var
def actV (k:Kn) (a:ActT):Bool:=Z68 k a.attr ||(decide (a.value.op≠0) && (Z68 k a.value.a ||Z68 k a.value.b))
def Z41 (n:Nat) (p:Z3r):Int×Int×List ByteArray:=
 if (Z2e n p).2≠0 then ((Z2e n p).1,(Z2e n p).2,[])
 else if (p.conds.head?.map Z0a.kind).getD 0≠1 then (0,9,[])
 else match Z21 n ([],[]) p.conds 0 with
  | (false,a,_)=>(a,6,[])
  | (true,a,k)=>match p.acts.findIdx? (actV k) with
    | some i=>(a+i,6,[])
    | none=>(-1,0,k.2)
end
section
open Go.RowKit
structure St where
 sn:Bool
 A:Option Addr
 c:Nat
def upd {β:Type}(S:Nat→β) (b:Nat) (l:β):Nat→β:=fun k=>if k=b then l else S k
theorem Z19 {β:Type}(S:Nat→β) (b:Nat) (l:β):upd S b l b=l:=by simp [upd]
theorem Z28 {β:Type}(S:Nat→β){b k:Nat}(l:β) (h:k≠b):upd S b l k=S k:=by simp [upd,h]
theorem Zsh {β:Type}(S:Nat→β) (b:Nat) (l:β) (h:S b=l):upd S b l=S:=by funext k;simp only [upd];split<;>simp_all
structure Sets {α:Type}(tSet tE size:Nat) (cells:α→List Value) (cmp:α→α→Int) (D:Nat→Prop) (w:World) (S:Nat→Option (List α)) (σ:Nat→St):Prop where
 at_ :∀b l,S b=some l→Z29 tSet tE size cells w b (σ b).sn (σ b).A (σ b).c l
 srt :∀b l,S b=some l→Srt cmp l
 o :∀b l,S b=some l→¬D b∧((σ b).sn=false→AIn (σ b).A (fun k=>¬D k))
 apart :∀b l b' l',S b=some l→S b'=some l'→b≠b'→(σ b).sn=false→∀a a',(σ b).A=some a→(σ b').A=some a'→a.block≠a'.block
 low :∀k,D k→k<w.heap.size
section
variable {α:Type}{tSet tE size:Nat}{cells:α→List Value}{cmp:α→α→Int}{D D':Nat→Prop}{w w':World}{S:Nat→Option (List α)}{σ:Nat→St}{b b':Nat}{l l':List α}
theorem Z29.far {sn:Bool}{A:Option Addr}{c:Nat}(h:Z29 tSet tE size cells w b sn A c l){sn':Bool}{A':Option Addr}{c':Nat}(h':Z29 tSet tE size cells w b' sn' A' c' l') (hne:tE≠tSet):AIn A (·≠b'):=by
 intro a e hb;have:=Z01 h.row h'.blk hne;subst e;exact this (by simp [Value.ownBlock,hb])
theorem Sets.start (tSet tE size:Nat) (cells:α→List Value) (cmp:α→α→Int) (w:World):Sets tSet tE size cells cmp (· < w.heap.size) w (fun _=>none) (fun _=>⟨false,none,0⟩):=
 ⟨fun _ _ h=>YSi,fun _ _ h=>YSi,fun _ _ h=>YSi,fun _ _ _ _ h=>YSi,fun _ h=>h⟩
theorem Sets.lt (h:Sets tSet tE size cells cmp D w S σ) (hb:S b=some l):b<w.heap.size:=(h.at_ b l hb).lt
theorem Sets.below (h:Sets tSet tE size cells cmp D w S σ) (hw:Below w.heap.size w w'):Sets tSet tE size cells cmp D w' S σ:=
 ⟨fun b l hb=>(h.at_ b l hb).new_ hw,h.srt,h.o,h.apart,fun k hk=>Zsw (h.low k hk) hw.size⟩
theorem Sets.weaken (h:Sets tSet tE size cells cmp D w S σ) (hD :∀k,D' k→D k):Sets tSet tE size cells cmp D' w S σ:=
 ⟨h.at_,h.srt,fun b l hb=>⟨fun hk=>(h.o b l hb).1 (hD _ hk),fun hs=>((h.o b l hb).2 hs).mono (fun _ hk hd=>hk (hD _ hd))⟩,h.apart,fun k hk=>h.low k (hD k hk)⟩
theorem Sets.widen (h:Sets tSet tE size cells cmp D w S σ) (n:Nat) (hn :∀b l,S b=some l→b<n∧((σ b).sn=false→AIn (σ b).A (· < n))):Sets tSet tE size cells cmp (fun k=>D k∨(n≤k∧k<w.heap.size)) w S σ:=
 ⟨h.at_,h.srt,fun b l hb=>⟨fun hk=>by
  rcases hk with hk|hk
  · exact (h.o b l hb).1 hk
  · have:=(hn b l hb).1;omega,fun hs a ha hk=>by
  rcases hk with hk|hk
  · exact (h.o b l hb).2 hs a ha hk
  · have:=(hn b l hb).2 hs a ha;omega⟩,h.apart,fun k hk=>by
  rcases hk with hk|hk
  · exact h.low k hk
  · exact hk.2⟩
theorem Sets.protect (h:Sets tSet tE size cells cmp D w S σ) (hw:Below w.heap.size w w'):Sets tSet tE size cells cmp (fun k=>D k∨(w.heap.size≤k∧k<w'.heap.size)) w' S σ:=
 (h.below hw).widen w.heap.size (fun b l hb=>⟨h.lt hb,fun _=>(h.at_ b l hb).row_lt⟩)
theorem Sets.mod (h:Sets tSet tE size cells cmp D w S σ) (hb:S b=some l) (hF:Fr (Z0w b (σ b).sn (σ b).A) w w'):Fr (fun k=>¬D k) w w':=
 hF.mono (fun k _ hk=>by
  rcases hk with rfl|⟨hs,a,ha,rfl⟩
  · exact (h.o _ l hb).1
  · exact (h.o b l hb).2 hs a ha)
theorem Sets.moved (h:Sets tSet tE size cells cmp D w S σ) (hne:tE≠tSet) (hb:S b=some l){sn':Bool}{A':Option Addr}{c':Nat}(h1:Z29 tSet tE size cells w' b sn' A' c' l') (hs:Srt cmp l')
 (hF:Fr (Z0w b (σ b).sn (σ b).A) w w') (hM:Z1w w (σ b).sn (σ b).A sn' A'):Sets tSet tE size cells cmp D w' (upd S b (some l')) (upd σ b ⟨sn',A',c'⟩):=by
 have hB:=h.at_ b l hb;refine ⟨fun k m hk=>?_,fun k m hk=>?_,fun k m hk=>?_,fun k m k' m' hk hk' hkk hsk a a' ha ha'=>?_,fun k hk=>Zsw (h.low k hk) hF.size⟩
 · by_cases e:k=b
   · subst e;rw [Z19] at hk ⊢;cases hk;exact h1
   · rw [Z28 _ _ e] at hk ⊢
     have hK:=h.at_ k m hk;refine hK.fr hF ?_ ?_
     · rintro (hx|⟨hx,a,ha,pi⟩)
       · exact e hx
       · exact hB.far hK hne a ha pi
     · intro a ha hx
       rcases hx with hx|⟨hx,a2,ha2,pi⟩
       · exact hK.far hB hne a ha hx
       · exact h.apart b l k m hb hk (Ne.symm e) hx a2 a ha2 ha pi
 · by_cases e:k=b
   · subst e;rw [Z19] at hk;cases hk;exact hs
   · rw [Z28 _ _ e] at hk;exact h.srt k m hk
 · by_cases e:k=b
   · subst e;rw [Z19] at hk ⊢;cases hk
     refine ⟨(h.o _ _ hb).1,fun hs2=>?_⟩;rcases hM with ⟨e1,e2⟩|⟨_,g,hg,e2⟩
     · simp only at hs2 ⊢;rw [e2];exact (h.o _ _ hb).2 (by rw [←e1];exact hs2)
     · simp only;rw [e2];intro a ha hd;cases ha;have:=h.low _ hd;exact Yt5
   · rw [Z28 _ _ e] at hk ⊢;exact h.o k m hk
 · by_cases e:k=b
   · subst e
     have e':k'≠k:=Ne.symm hkk;rw [Z28 _ _ e'] at hk' ha';rw [Z19] at hsk ha;simp only at hsk ha;rcases hM with ⟨e1,e2⟩|⟨_,g,hg,e2⟩
     · exact h.apart k l k' m' hb hk' hkk (by rw [←e1];exact hsk) a a' (by rw [←e2];exact ha) ha'
     · rw [e2] at ha;cases ha
       have:=(h.at_ k' m' hk').row_lt a' ha';simp only;omega
   · rw [Z28 _ _ e] at hk hsk ha
     by_cases e2:k'=b
     · subst e2
       rw [Z19] at ha';simp only at ha';rcases hM with ⟨_,e3⟩|⟨_,g,hg,e3⟩
       · exact h.apart k m k' l hk hb hkk hsk a a' ha (by rw [←e3];exact ha')
       · rw [e3] at ha';cases ha'
         have:=(h.at_ k m hk).row_lt a ha;simp only;omega
     · rw [Z28 _ _ e2] at hk' ha'
       exact Y10
theorem Sets.seen (h:Sets tSet tE size cells cmp D w S σ) (hne:tE≠tSet) (hb:S b=some l) (h1:Z29 tSet tE size cells w' b true (σ b).A (σ b).c l) (hF:Fr (· = b) w w') :
 Sets tSet tE size cells cmp D w' S (upd σ b ⟨true,(σ b).A,(σ b).c⟩):=by
 have hB:=h.at_ b l hb;refine ⟨fun k m hk=>?_,h.srt,fun k m hk=>?_,fun k m k' m' hk hk' hkk hsk a a' ha ha'=>?_,fun k hk=>Zsw (h.low k hk) hF.size⟩
 · by_cases e:k=b
   · subst e;rw [Z19];rw [hb] at hk;cases hk;exact h1
   · rw [Z28 _ _ e]
     exact (h.at_ k m hk).fr hF e (fun a ha hx=>(h.at_ k m hk).far hB hne a ha hx)
 · refine ⟨(h.o k m hk).1,fun hs=>?_⟩
   by_cases e:k=b
   · subst e;rw [Z19] at hs;cases hs
   · rw [Z28 _ _ e] at hs ⊢;exact (h.o k m hk).2 hs
 · by_cases e:k=b
   · subst e;rw [Z19] at hsk;cases hsk
   · rw [Z28 _ _ e] at hsk ha
     by_cases e2:k'=b
     · subst e2;rw [Z19] at ha';exact Y10
     · rw [Z28 _ _ e2] at ha';exact Y10
theorem Sets.add (h:Sets tSet tE size cells cmp D w S σ){k:Nat}{sn':Bool}{A':Option Addr}{c':Nat}(hk:w.heap.size≤k) (h1:Z29 tSet tE size cells w' k sn' A' c' l') (hs:Srt cmp l')
 (hA:AIn A' (w.heap.size≤·)∨(sn'=true∧∃b l,S b=some l∧(σ b).sn=true∧(σ b).A=A')) (hF:Below w.heap.size w w'):Sets tSet tE size cells cmp D w' (upd S k (some l')) (upd σ k ⟨sn',A',c'⟩):=by
 (have hnk :∀b l,S b=some l→b≠k:=fun b l hb e=>YZ2);refine ⟨fun b m hb=>?_,fun b m hb=>?_,fun b m hb=>?_,fun b m b' m' hb hb' hkk hsk a a' ha ha'=>?_,fun k hk=>Zsw (h.low k hk) hF.size⟩
 · by_cases e:b=k
   · subst e;rw [Z19] at hb ⊢;cases hb;exact h1
   · rw [Z28 _ _ e] at hb ⊢;exact (h.at_ b m hb).new_ hF
 · by_cases e:b=k
   · subst e;rw [Z19] at hb;cases hb;exact hs
   · rw [Z28 _ _ e] at hb;exact h.srt b m hb
 · by_cases e:b=k
   · subst e;rw [Z19] at hb ⊢;cases hb
     refine ⟨fun hd=>by have:=h.low _ hd;omega,fun hs2 a ha hd=>?_⟩;have h3:=h.low _ hd;rcases hA with hA|⟨hA,_⟩
     · have:=hA a ha;omega
     · simp only at hs2;rw [hA] at hs2;cases hs2
   · rw [Z28 _ _ e] at hb ⊢;exact h.o b m hb
 · by_cases e:b=k
   · subst e
     rw [Z28 _ _ (Ne.symm hkk)] at hb' ha';rw [Z19] at hsk ha;simp only at hsk ha;have h3:=(h.at_ b' m' hb').row_lt a' ha';rcases hA with hA|⟨hA,_⟩
     · have:=hA a ha;omega
     · rw [hA] at hsk;cases hsk
   · rw [Z28 _ _ e] at hb hsk ha
     have h3:=(h.at_ b m hb).row_lt a ha;by_cases e2:b'=k
     · subst e2
       rw [Z19] at ha';simp only at ha';rcases hA with hA|⟨_,b2,l2,hb2,hs2,hA⟩
       · have:=hA a' ha';omega
       · by_cases e3:b=b2
         · subst e3;rw [hsk] at hs2;cases hs2
         · exact h.apart b m b2 l2 hb hb2 e3 hsk a a' ha (hA.trans ha')
     · rw [Z28 _ _ e2] at hb' ha'
       exact h.apart b m b' m' hb hb' hkk hsk a a' ha ha'
end
end
section
open Go.RowKit
abbrev Z67:=Z29 (α:=Sym) 154 41 3 Sym.cells
theorem Ze6 (k0 : Int) (k1 : ByteArray) (k2 : Int) (w : World) : (nilAhead 504 41 (.agg #[.int .i64 k0, .string k1, .int .i64 k2]) "Compare").run Tryz.prog w = .ok (some false) w := Yb
theorem Zj9 (k0 : Int) (k1 : ByteArray) (k2 : Int) (w : World) : (method 504 41 (.agg #[.int .i64 k0, .string k1, .int .i64 k2]) "Compare").run Tryz.prog w = .ok (126, .agg #[.int .i64 k0, .string k1, .int .i64 k2]) w := Yb
def Znl (l:List Sym) (x:Sym) (w:World) (e:Ending) (w':World):Prop:=
 e = .returned (.tuple #[.int .i64 (rank Z0o l x),.bool (has Z0o l x)])∧Below w.heap.size w w'
theorem Zh5 (b c:Nat) (sn:Bool) (A:Option Addr) (l:List Sym) (x:Sym) (w:World) (hS:Z67 w b sn A c l) (hs:Srt Z0o l) (hl:(l.length:Int)≤4611686018427387904) :
 Calls Tryz.prog 74 #[.pointer (some ⟨b,0,none⟩),.agg (Q1d x)] w (Znl l x w):=by
 have Xm:=hS.rd Sym.cells_length;have h0:=hS.cell0;have hb:=hS.lt;clear hS;have HS:=hU hs;have Ww:=hU Xm;clear hs Xm;go_enter Tryz.func74,Tryz.ntmps74;go_wp2_with fail;go_quiet (fail);go_wp2_with fail;obtain ⟨W0,rp⟩:∃W0,W0=((w.alloc (Obj.cells (Q1d x) 41)).drewN nq):=⟨_,rfl⟩;have Lg:Below w.heap.size w W0:=YQx;have mj:W0.cell? ⟨w.heap.size,0,none⟩=some (.int .i64 x.kind):=Yv;have Sg:W0.cell? ⟨w.heap.size,1,none⟩=some (.string x.text):=Yv;have pi:W0.cell? ⟨w.heap.size,2,none⟩=some (.int .i64 x.n):=Yv;rw [←rp];clear rp;have jv:=hU Lg;clear Lg
 go_loopw [6,7] (fun lo hi wr=>∃i j:Nat,lo = .int .i64 i∧hi = .int .i64 j∧i≤j∧j≤l.length∧(∀k,(h:k<l.length)→k<i→Z0o l[k] x<0)∧(∀k,(h:k<l.length)→j≤k→0<Z0o l[k] x)∧Below W0.heap.size W0 wr) (fun lo hi wr=>(intOf hi).toNat - (intOf lo).toNat)
 case atStart=>exact ⟨0,l.length,rfl,rfl,Nat.zero_le _,Zsu _,fun k _ h=>absurd h Ya,fun k h h'=>absurd h Ya,Zst _ _⟩
 case round=>
  obtain ⟨i,j,rfl,rfl,hij,hj,qv,qm,hB⟩:=hrel;have sy:=hU qv;have xq:=hU qm;clear qv qm;have Sd:w.heap.size<W0.heap.size:=Zt5 W0 _ mj;by_cases hlt:i<j
  · refine Ygb ?_;intro m Le hmj hmi E1;obtain ⟨g,off,rfl,Fu,R9⟩:=Ww.o.at_ Le;refine Yu7 ?_;intro low r0;have q0:=(low ⟨g,off+m*3,none⟩ Fu).trans (R9 0 _ rfl);have q1:=(low ⟨g,off+m*3+1,none⟩ Fu).trans (R9 1 _ rfl);have q2:=(low ⟨g,off+m*3+2,none⟩ Fu).trans (R9 2 _ rfl);refine Yia ?_;intro y0 y1 y2;refine Yy3 ?_;intro b1 b2 Sq;have N:=Ze6;have M:=Zj9;clear low R9 mj Sg pi h0;have HB:=hU hB;clear hB;refine Y9x ?_;intro y hy;rw [←hy] at q0 q1 q2;have HY:=hU hy;clear hy;refine Y5p ?_;intro hbw hgw hww;go_wp2_with fail;rw [E1.o]
    go_region_held3 (fun w'=>w'.cell? ⟨b,0,none⟩=some (.slice (some ⟨g,off,none⟩) l.length c)∧w'.cell? ⟨g,off+m*3,none⟩=some (.int .i64 y.kind)∧w'.cell? ⟨g,off+m*3+1,none⟩=some (.string y.text)∧w'.cell? ⟨g,off+m*3+2,none⟩=some (.int .i64 y.n)∧w'.cell? ⟨w.heap.size,0,none⟩=some (.int .i64 x.kind)∧w'.cell? ⟨w.heap.size,1,none⟩=some (.string x.text)∧w'.cell? ⟨w.heap.size,2,none⟩=some (.int .i64 x.n))
     (first|go_keep|(refine ⟨?_,?_,?_,?_,?_,?_,?_⟩<;>exact (Pk.cell YCg).trans Yl))
     ((go_at_call 126;refine (Zbr y x _).mono ?_;rintro e w1 ⟨rfl,Pk⟩))
    refine Ym2 ?_;intro Nk;clear r0 q0 q1 q2 y0 y1 y2 N M;by_cases hc:Z0o y x=0
    · have HC:=hU hc
      have t1:(Z0o y x == 0)=true:=YMk;clear hc;go_wp2_with fail;go_ret2;have e:=HC.o;rw [HY.o] at e;refine Y45 ?_;rw [Z4i Z40 HS.o Le e,(Z5j Z40 HS.o Le e).2.2.1];rfl
    · have t1:(Z0o y x == 0)=false:=by simp [hc]
      by_cases hc2:Z0o y x<0
      · have HC:=hU hc2
        have t2:decide (Z0o y x<0)=true:=YQw;clear hc hc2;go_wp2_with fail;go_roundw
        case rel=>
         refine Yzl ?_;intro k h1 h2 e;rw [HY.o] at e;rcases Nat.lt_or_ge k m with h3|h3
         · exact Z40.lt_of_lt_of_le (HS.o.lt h3 Le) Ya
         · exact Yzs
        case measure=>simp [intOf];omega
      · have t2:decide (Z0o y x<0)=false:=by simpa using hc2
        have Nn:0<Z0o y x:=Ya;have HC:=hU Nn;clear hc hc2 Nn;go_wp2_with fail;go_roundw
        case rel=>
         refine Yl0 ?_;intro k h1 h2 e;rw [HY.o] at e;rcases Nat.lt_or_ge m k with h3|h3
         · exact (Z40.symm _ _).1 (Z40.lt_trans ((Z40.symm _ _).2 e) (HS.o.lt h3 h1))
         · exact Yzs
        case measure=>simp [intOf];omega
  · exact Y53
theorem Zhi:(Tryz.prog.info? 41).map (fun i=>(i.zero,i.size,i.bytes))=some (some (.agg Q2a),3,32):=Yb
theorem Sym.one (x:Sym):∀u∈Sym.cells x,u.oneCell'=true:=by intro u hu;simp [Sym.cells] at hu;rcases hu with rfl|rfl|rfl<;>rfl
theorem Sym.oneAll (l:List Sym):∀u∈l.flatMap Sym.cells,u.oneCell'=true:=by intro u hu;obtain ⟨x,_,hx⟩:=List.mem_flatMap.1 hu;exact Sym.one x u hx
def Z8h (w:World) (b:Nat) (sn:Bool) (A:Option Addr) (l:List Sym) (e:Ending) (w':World):Prop:=
 e = .returned (.tuple #[])∧∃A' c',Z67 w' b false A' c' l∧Fr (· = b) w w'∧Z1w w sn A false A'
theorem Zjg (b c:Nat) (A:Option Addr) (l:List Sym) (w:World) (hS:Z67 w b false A c l) :
 Calls Tryz.prog 75 #[.pointer (some ⟨b,0,none⟩)] w (Z8h w b false A l):=by
 have h1:=hS.cell1;have HS:=hU hS;clear hS;go_enter Tryz.func75,Tryz.ntmps75;exact Y3p
theorem Zg8 (b c:Nat) (A:Option Addr) (l:List Sym) (w:World) (hS:Z67 w b true A c l) (hl:(l.length:Int)≤1000000000) :
 Calls Tryz.prog 75 #[.pointer (some ⟨b,0,none⟩)] w (Z8h w b true A l):=by
 obtain ⟨i0,hi,Nc,rm,Aj⟩:=info_parts Zhi;refine Y8h ?_;intro h0 h1 hb f0 f1;have Xm:=hS.rd Sym.cells_length;have HB:=hU hS.blk;have Ww:=hU Xm;clear hS Xm;refine Yn9 ?_;intro e1
 have hmk :∀W:World,(Instr.makeSlice 34 (.int .i64 0) (.int .i64 ((l.length:Int)+1))).run Tryz.prog W = .ok (.slice (some ⟨W.heap.size,0,none⟩) 0 (l.length+1)) (W.alloc (.cells (madeCells (Value.cells (.agg Q2a)) ((l.length+1)*3)) 41)):=fun W=>by
  have h:=run_make (P:=Tryz.prog) W 34 41 i0 _ Tryz.underlying34 hi Nc .i64 .i64 0 ((l.length:Int)+1) Ya Ya YV8 Ya;exact Y2k
 go_enter Tryz.func75,Tryz.ntmps75;go_wp2_with fail;refine Z03 (fun w9=>Below w.heap.size w w9) [(0,0),(1,0),(2,0),(3,0),(4,1),(5,0),(6,0),(8,0),(9,0),(10,0),(11,1),(7,2),(12,2),(13,0),(14,0),(15,2)] Yb Yb (fun KK hKK=>?_);refine Yg8 ?_;intro K9 hK9
 refine Z0l _ Yd _ _ _ Yd 41 i0 _ 3 32 Tryz.underlying34 hi Nc rm Aj rfl Ya _ 0 [] Yd (World.ownsRow_made _ _ _ (Nat.zero_le _) Yj YFi) A l.length c (l.flatMap Sym.cells) Yd (Z0u Sym.cells_length l)
  ((Ww.o.drew.alloc _).news Sym.cells_length Ya) (Sym.oneAll l) Yj Ya ?_
 intro v2 w2 Od Cf hnil Xd;refine Y8n ?_;clear hK9 K9;rw [Zts,Ztk] at Od;obtain ⟨A',c',rfl,_,_,hz⟩:=Z14 Od;have Nk:=(HB.o.drew.alloc (.cells (madeCells (Value.cells (.agg Q2a)) ((l.length+1)*3)) 41)).grown Cf Yy;exact Yzw
theorem Zrf (b c:Nat) (sn:Bool) (A:Option Addr) (l:List Sym) (w:World) (hS:Z67 w b sn A c l) (hl:(l.length:Int)≤1000000000) :
 Calls Tryz.prog 75 #[.pointer (some ⟨b,0,none⟩)] w (Z8h w b sn A l):=by
 cases sn
 · exact Zjg b c A l w hS
 · exact Zg8 b c A l w hS hl
end
end Go.Proofs.YtcnnofgaifcgaaaGreat
