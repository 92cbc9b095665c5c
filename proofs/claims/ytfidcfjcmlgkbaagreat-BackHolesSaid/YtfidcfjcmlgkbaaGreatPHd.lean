/-
  Texts put together: RangeO2, Open, Rep, Rec, RowSym, Types, NamesP, SymWord.
-/
import Derived.Test.YtfidcfjcmlgkbaaGreatPHc
namespace Go.Proofs.YtfidcfjcmlgkbaaGreat
open Lib (hid)
set_option maxRecDepth 100000
set_option maxHeartbeats 32000000
set_option linter.unusedSimpArgs false
section
open Go.RowKit
variable {P:Program} {α:Type}
def ItSt (J:(Nat→Prop)→List α→World→Prop) (D E:Nat→Prop) (W:World) (pre:List α) (X:World):Prop:=
 ∃D',(∀k,D k→D' k)∧(∀k,E k→D' k)∧J D' pre X∧Fr (fun j=>¬D j) W X∧(∀k,E k→W.heap.size≤k)
section
variable {J Jx:(Nat→Prop)→List α→World→Prop} {D E E':Nat→Prop} {W X Y:World} {pre xs:List α}
theorem ItSt.start (h:J D [] W):ItSt J D (fun _=>False) W [] W:=⟨D,fun _ h=>h,fun _ h=>h.elim,h,Fr.refl _ _,fun _ h=>h.elim⟩
theorem ItSt.step (h:ItSt J D E W pre X) (hJ:Z54 W.heap.size J) (hF:Fr E X Y):ItSt J D (Plus E X Y) W pre Y:=by
 obtain ⟨D',h1,h2,h3,h4,h5⟩:=h;refine ⟨Plus D' X Y,fun k hk=>.inl (h1 k hk),fun k hk=>hk.imp (h2 k) id,hJ _ _ _ _ h3 (hF.mono (fun k _ hk=>⟨h2 k hk,h5 k hk⟩)),h4.into hF (fun k hk=>.inr (h5 k hk)),fun k hk=>?_⟩;rcases hk with hk | hk
 · exact h5 k hk
 · exact Zmk h4.size hk.1
theorem ItSt.new_ (h:ItSt J D E W pre X) (hJ:Z54 W.heap.size J) (hb:Below X.heap.size X Y):ItSt J D (Plus E X Y) W pre Y:=h.step hJ (Fr.of_new hb)
theorem ItSt.round {l:Nat} {encs:α→Array Value} {x:α} {post:List α} (h:ItSt J D E W pre X) (hY:Z9y P l encs xs J Jx) (hx:xs=pre++x :: post) :
 YieldAt Fence.wide 0 P l (encs x) X fun e W'=>(e = .returned (.bool true)∧ItSt J D E W (pre ++ [x]) W'∧Fr (fun k=>¬(D k∨E k)) X W')∨(e = .returned (.bool false)∧Zip xs J Jx W'∧Fr (fun k=>¬(D k∨E k)) X W'):=by
 obtain ⟨D',h1,h2,h3,h4,h5⟩:=h;obtain ⟨fn,tmps,assign,body,hy,hR⟩:=hY D' pre x post X hx h3;refine ⟨fn,tmps,assign,body,hy,hR.mono ?_⟩;rintro e W' (⟨g1,g2,g3⟩ | ⟨g1,g2,g3⟩)
 · exact .inl ⟨g1,⟨D',h1,h2,g2,h4.trans (g3.mono (fun k _ hk hd=>hk (h1 k hd))),h5⟩,g3.mono (fun k _ hk hd=>hk (hd.elim (h1 k) (h2 k)))⟩
 · exact .inr ⟨g1,⟨D',.inr ⟨pre ++ [x],post,by rw [hx];simp,g2⟩⟩,g3.mono (fun k _ hk hd=>hk (hd.elim (h1 k) (h2 k)))⟩
theorem ItSt.told (h:ItSt J D E W xs X):Zip xs J Jx X:=by
 obtain ⟨D',_,_,h3,_,_⟩:=h;exact ⟨D',.inl h3⟩
end
theorem Z5o {F:Fence} {n1:Nat} (w:World) {ops:Array Oper} {rest:List Oper} {o:Oper} {a:Go.Act} {Q:Exit→Go.Act→World→Prop} (hgd:o.guard=none) (s x:Operand) (t:TypeId)
 (ho:o.op = .call { callee:=.builtin .append,args:=#[s,x],argTypes:=#[t,t] })
 (e:TypeId) (i:TypeInfo) (z:Value) (size bytes:Nat) (ht:P.underlying t=some (.slice e)) (hi:P.info? e=some i) (hz:i.zero=some z)
 (hsize:i.size=size) (hby:i.bytes=bytes) (hzs:z.cells.size=size) (hsz:0<size)
 (v:Value) (n:Nat) (xs:List Value) (hs:a.eval s=v) (hown:w.ownsRow 0 e size v n xs)
 (A:Option Addr) (m c:Nat) (news:List Value) (hx:a.eval x = .slice A m c) (hl:news.length=m*size)
 (hnews:0<m→∃ad,A=some ad∧∀j u,news[j]? = some u→w.cell? (ad.add j)=some u) (h1 : ∀u∈news,u.oneCell'=true)
 (h63:n+m≤maxLen) (hbytes:(n+m)*bytes≤140737488355328)
 (h : ∀v' w',w'.ownsRow 0 e size v' (n+m) (xs++news)→w.grownBy w' v.ownBlock→(v' = .slice none 0 0↔v = .slice none 0 0∧m=0)→(v'.ownBlock=v.ownBlock∨v'.ownBlock=some w.heap.size)→wpListIn F n1 P ops Q rest (a.put o.dst v') w') :
 wpListIn F n1 P ops Q (o :: rest) a w:=by
 refine wpListIn_plain hgd fun K hK'=>?_;obtain ⟨v',w',hrun,r1,r2,r3,r4⟩:=Z60 (P:=P) w t o.type e i z size bytes ht hi hz hsize hby hzs hsz v n xs hown A m c news hl hnews h1 h63 hbytes;unfold Oper.wpIn;refine ⟨?_,?_⟩
 · simp [Oper.about,ho,resolve,Target.leads,Sem.run_pure]
 · rw [Oper.semAt_plain F _ _ (by rw [ho];intro c hc';cases hc')]
   simp [execOp,ho,resolve,invoke,builtin,hs,hx,hrun,Result.andThen];exact hK' _ _ (h v' w' r1 r2 r3 r4)
theorem Z06 (b:Nat) : ∀(vs:List Value) (o:Nat) (w:World),(w.setCells b o vs).heap.size=w.heap.size
 | [],_,_=>rfl
 | v :: r,o,w=>by rw [World.setCells,Z06 b r (o+1)];simp [World.setCell]
theorem Blk.setCells_ {g:Nat} {t:TypeId} : ∀(vs:List Value) (o:Nat) {w:World} {cs:Array Value},Blk w g t cs→∃cs',Blk (w.setCells g o vs) g t cs'∧cs'.size=cs.size
 | [],_,_,cs,h=>⟨cs,h,rfl⟩
 | v :: vs,o,w,cs,h=>by
   obtain ⟨cs',h1,h2⟩:=Blk.setCells_ vs (o+1) (h.set_ o v);exact ⟨cs',h1,by rw [h2];simp⟩
theorem Z49 {E:Nat→Prop} {X Y:World} {e:TypeId} {size n m:Nat} {A:Option Addr} {c:Nat} {v':Value} {xs news:List Value} (hA:AIn A E) (hown':Y.ownsRow 0 e size v' (n+m) (xs++news)) (hg:X.grownBy Y (Value.slice A n c).ownBlock)
 (hat:v'.ownBlock=(Value.slice A n c).ownBlock∨v'.ownBlock=some X.heap.size) : ∃A' c',v' = .slice A' (n+m) c'∧Fr E X Y∧AIn A' (Plus E X Y)∧Y.ownsRow 0 e size (.slice A' (n+m) c') (n+m) (xs++news):=by
 obtain ⟨A',c',rfl,hc,_,hz⟩:=Z0y hown';refine ⟨A',c',rfl,(Fr.refl E X).grown hg (fun k hk=>?_),fun a ha=>?_,hown'⟩
 · rcases A with _ | a
   · simp [Value.ownBlock] at hk
   · have e:a.block=k:=by simpa [Value.ownBlock] using hk
     exact .inl (e ▸ hA a rfl)
 · subst ha
   rcases hat with h | h
   · rcases A with _ | b
     · simp [Value.ownBlock] at h
     · have e:a.block=b.block:=by simpa [Value.ownBlock] using h
       exact .inl (e ▸ hA b rfl)
   · have e:a.block=X.heap.size:=by simpa [Value.ownBlock] using h
     refine .inr ⟨by omega,?_⟩;rcases Z0b hown' with ⟨hv,_⟩ | ⟨g,cap,hv,_,_,hr,_⟩
     · cases hv
     · injection hv with hv
       injection hv with hv;subst hv;exact hr.lt
end
section
open Go.RowKit Go.ChangeShapes Go.WideShapes Go.Deep
section
variable {H:Type} {enc:TypeId×Value→H} {P:Program}
theorem Zao {f:Func} {s:ChangeSpec} {apart fresh handsOn again:Bool} {W W':World} {args:Array Value} {v:Value} {ds gs:List (DataW H)} {before pa pv:List MemPlace}
 (hW:DataW.Whole enc P f.params.toList s.vars apart W args.toList ds gs before)
 (hres : ∀(b:Nat) (sp:Nat→Bool) (hd:Bool),DataW.TrodAll enc P W' b sp hd f.resultTypes.toList (v.resultList f.resultTypes.size) (s.fn H (ds++gs)).results [])
 (hargs : ∀sp:Nat→Bool,(∀p∈before,sp p.block=true)→DataW.TrodAll enc P W' 0 sp true f.params.toList args.toList (s.fn H (ds++gs)).args pa)
 (hvars : ∀sp:Nat→Bool,(∀p∈before,sp p.block=true)→DataW.TrodVars enc P W' sp s.vars (s.fn H (ds++gs)).vars pv)
 (hps:before=pa++pv) (hb:Below W.heap.size W W')
 (hok : ∀(j:Nat) (t:TypeId) (r:Value),f.resultTypes[j]? = some t→(v.resultList f.resultTypes.size)[j]? = some r→Value.okWide P W' .any 0 t r) :
 s.post enc P f apart fresh handsOn again W args v W':=by
 have hlt : ∀p∈before,p.block<W.heap.size:=fun p hp=>hW.lt p hp;(have hold : ∀p∈before,(fun b=>decide (b<W.heap.size)) p.block=true:=fun p hp=>by simpa using hlt p hp);refine ⟨ds,gs,before,[],pa,pv,hW,hres _ _ _,hargs _ hold,hvars _ hold,World.keptBut_mono (fun p hp=>⟨hp,?_⟩) (hb.frame (·∈before)),fun _=>?_⟩
 · rw [hps,Znh] at hp
   exact Or.inr hp
 · obtain ⟨_,_,_,_,_,hz,hn⟩:=hW
   refine ⟨hok,_,_,([]++pa)++pv,⟨[]++pa,pv,trodAll_append (hargs _ (fun _ _=>rfl)) (hres _ _ _),hvars _ (fun _ _=>rfl),rfl,?_,?_⟩,?_⟩
   · intro b off hp
     (have hin:MemPlace.cell b off∈before:=by rw [hps];simpa using hp);rw [hb.frozen (hlt _ hin)];exact hz b off hin
   · intro ha
     have:=hn ha;rw [hps] at this;simpa using this
   · intro p hp _
     rw [hps];simpa using hp
theorem Z6y (hl:laidOutB P=true) {W W':World} {sp:Nat→Bool} (hb:Below W.heap.size W W') : ∀(ts:List TypeId) (vs:List Value) (ds:List (DataW H)) (ps:List MemPlace),
 (∀t∈ts,P.readableRec t=true∧t<P.types.size)→DataW.TrodAll enc P W 0 (fun _=>true) true ts vs ds ps→(∀p∈ps,p.block<W.heap.size)→(∀p∈ps,sp p.block=true)→DataW.TrodAll enc P W' 0 sp true ts vs ds ps
 | [],[],[],ps,_,h,_,_=>h
 | t :: ts,v :: vs,d :: ds,ps,ht,⟨p,q,h1,h2,he⟩,hlt,hsp=>by
   subst he;refine ⟨p,q,WideElems.Trod_stays hl (ht t (by simp)).1 (ht t (by simp)).2 h1 (fun x hx=>hb.same (hlt x (by simp [hx]))) (fun x hx=>hsp x (by simp [hx])),?_,rfl⟩;exact Z6y hl hb ts vs ds q (fun t' h'=>ht t' (by simp [h'])) h2 (fun x hx=>hlt x (by simp [hx])) (fun x hx=>hsp x (by simp [hx]))
 | [],_ :: _,_,_,_,h,_,_=>h.elim
 | [],[],_ :: _,_,_,h,_,_=>h.elim
 | _ :: _,[],_,_,_,h,_,_=>h.elim
 | _ :: _,_ :: _,[],_,_,h,_,_=>h.elim
theorem Zhu {f:Func} {s:ChangeSpec} {apart fresh handsOn again:Bool} {W W':World} {args:Array Value} {ds gs:List (DataW H)} {before:List MemPlace} {tb:TypeId}
 (hl:laidOutB P=true) (hv:s.vars = []) (hW:DataW.Whole enc P f.params.toList s.vars apart W args.toList ds gs before) (hr:f.resultTypes = #[tb]) (htb:P.underlying tb=some .bool)
 (hp : ∀t∈f.params.toList,P.readableRec t=true∧t<P.types.size) (h1:(s.fn H (ds++gs)).results = [.lit (.bool true)]) (h2:(s.fn H (ds++gs)).args=ds) (h3:(s.fn H (ds++gs)).vars = [])
 (hb:Below W.heap.size W W'):s.post enc P f apart fresh handsOn again W args (.bool true) W':=by
 have hlt : ∀p∈before,p.block<W.heap.size:=fun p hp=>hW.lt p hp;have hW0:=hW;obtain ⟨p,q,hA,hV,he,_⟩:=hW;rw [hv] at hV;(have hq:q = []:=by cases gs<;>simp [DataW.TrodVars] at hV;exact hV);subst hq;rw [Zn9] at he;subst he;refine Zao (pa:=before) (pv:=[]) hW0 (fun b sp hd=>?_) (fun sp hsp=>?_) (fun sp hsp=>?_) (by simp) hb ?_
 · rw [hr,h1];exact trodAll_mk1 (shut_bool htb true)
 · rw [h2];exact Z6y hl hb _ _ _ _ hp hA hlt hsp
 · rw [hv,h3];rfl
 · exact ok_one hr rfl (okWide_bool_mk htb true)
end
def Zlo {α:Type} (P:Program) (e:TypeId) (size:Nat) (cells:α→List Value):Prop:=
 P.cellsOf e=size∧∀(H:Type) (enc:TypeId×Value→H) (w:World) (base:Nat) (spare:Nat→Bool) (held:Bool) (n:Nat) (cs:List Value) (x:DataW H×List MemPlace),
  DataW.trod enc P w base spare held n e cs=some x→∃a:α,cs=cells a
theorem Zcz {α:Type} {Q:Nat→α→Prop} : ∀(n:Nat),(∀i,i<n→∃a,Q i a)→∃l:List α,l.length=n∧∀i,(h:i<l.length)→Q i l[i]
 | 0,_=>⟨[],rfl,fun i h=>absurd h (by simp)⟩
 | n+1,h=>by
   obtain ⟨l,hl,hq⟩:=Zcz n (fun i hi=>h i (by omega));obtain ⟨a,ha⟩:=h n (by omega);refine ⟨l ++ [a],by simp [hl],fun i hi=>?_⟩;by_cases hi':i<l.length
   · rw [List.getElem_append_left hi'];exact hq i hi'
   · have:i=n:=by simp at hi;omega
     subst this;rw [List.getElem_append_right (by omega)];simpa [hl] using ha
end
section
open Go.RowKit Go.ChangeShapes Go.WideShapes Go.Deep
structure RepT (α:Type) where
 size:Nat
 rep:(Nat→Prop)→World→α→List Value→Prop
 len : ∀{D:Nat→Prop} {w:World} {a:α} {cs:List Value},rep D w a cs→cs.length=size
 keep : ∀{D D':Nat→Prop} {w w':World} {a:α} {cs:List Value},w.heap.size≤w'.heap.size→(∀k,D k→k<w.heap.size→D' k∧w'.heap[k]? = w.heap[k]?)→rep D w a cs→rep D' w' a cs
def RowR {α:Type} (r:RepT α) (D:Nat→Prop) (w:World) (A:Option Addr) (c:Nat) (l:List α):Prop:=
 l.length≤c∧c≤maxLen∧
  (0<l.length→∃b off,A=some ⟨b,off,none⟩∧D b∧b<w.heap.size∧∀k,(h:k<l.length)→∃cs,r.rep D w l[k] cs∧∀j u,cs[j]? = some u→w.cell? ⟨b,off+k*r.size+j,none⟩=some u)
section
variable {α:Type} {r:RepT α} {D D':Nat→Prop} {w w':World} {A:Option Addr} {c:Nat} {l:List α}
theorem RowR.keep (h:RowR r D w A c l) (hs:w.heap.size≤w'.heap.size) (hk : ∀k,D k→k<w.heap.size→D' k∧w'.heap[k]? = w.heap[k]?):RowR r D' w' A c l:=by
 refine ⟨h.1,h.2.1,fun h0=>?_⟩;obtain ⟨b,off,h1,h2,h3,h4⟩:=h.2.2 h0;refine ⟨b,off,h1,(hk b h2 h3).1,by omega,fun k hk'=>?_⟩;obtain ⟨cs,h5,h6⟩:=h4 k hk';exact ⟨cs,r.keep hs hk h5,fun j u hu=>(World.cell?_of_block (hk b h2 h3).2).trans (h6 j u hu)⟩
theorem RowR.nil (r:RepT α) (D:Nat→Prop) (w:World):RowR r D w none 0 []:=⟨Zm8 _,Nat.zero_le _,fun h=>absurd h (by simp)⟩
theorem RowR.cap (h:RowR r D w A c l):(l.length:Int)≤9223372036854775807:=by have:=h.1;have:=h.2.1;unfold maxLen at this;omega
theorem RowR.at_ (h:RowR r D w A c l) {k:Nat} (hk:k<l.length) : ∃b off cs,A=some ⟨b,off,none⟩∧D b∧b<w.heap.size∧r.rep D w l[k] cs∧∀j u,cs[j]? = some u→w.cell? ⟨b,off+k*r.size+j,none⟩=some u:=by
 obtain ⟨b,off,h1,h2,h3,h4⟩:=h.2.2 (by omega);obtain ⟨cs,h5,h6⟩:=h4 k hk;exact ⟨b,off,cs,h1,h2,h3,h5,h6⟩
theorem RowR.weaken (h:RowR r D w A c l) (hD : ∀k,D k→D' k):RowR r D' w A c l:=h.keep (Zm8 _) (fun k hk _=>⟨hD k hk,rfl⟩)
theorem RowR.new_ (h:RowR r D w A c l) (hb:Below w.heap.size w w'):RowR r D w' A c l:=h.keep hb.size (fun k hk hl=>⟨hk,hb.block k hl⟩)
theorem RowR.fr {M:Nat→Prop} (h:RowR r D w A c l) (hb:Fr M w w') (hm : ∀k,D k→¬M k):RowR r D w' A c l:=h.keep hb.size (fun k hk hl=>⟨hk,hb.block k hl (hm k hk)⟩)
end
def RepT.flat {α:Type} (size:Nat) (cells:α→List Value) (h : ∀a,(cells a).length=size):RepT α:=
 ⟨size,fun _ _ a cs=>cs=cells a,by rintro _ _ _ _ rfl;exact h _,by rintro _ _ _ _ _ _ _ _ h;exact h⟩
theorem RowR.rd {α:Type} {size:Nat} {cells:α→List Value} {hs : ∀a,(cells a).length=size} {D:Nat→Prop} {w:World} {A:Option Addr} {c:Nat} {l:List α} (h:RowR (RepT.flat size cells hs) D w A c l):Z18 w size cells A c l:=by
 refine ⟨h.1,h.2.1,fun h0=>?_⟩;obtain ⟨b,off,h1,h2,h3,h4⟩:=h.2.2 h0;refine ⟨b,off,h1,h3,fun k hk j u hu=>?_⟩;obtain ⟨cs,h5,h6⟩:=h4 k hk;have h5':cs=cells l[k]:=h5;exact h6 j u (by rw [h5'];exact hu)
theorem RowR.of_rd {α:Type} {size:Nat} {cells:α→List Value} {hs : ∀a,(cells a).length=size} {D:Nat→Prop} {w:World} {A:Option Addr} {c:Nat} {l:List α} (h:Z18 w size cells A c l) (hA:AIn A D):RowR (RepT.flat size cells hs) D w A c l:=by
 refine ⟨h.1,h.2.1,fun h0=>?_⟩;obtain ⟨b,off,h1,h2,h3⟩:=h.2.2 h0;exact ⟨b,off,h1,hA _ h1,h2,fun k hk=>⟨_,rfl,h3 k hk⟩⟩
def RepT.list {α:Type} (r:RepT α):RepT (List α):=
 ⟨1,fun D w l cs=>∃A c,cs = [.slice A l.length c]∧RowR r D w A c l,by rintro _ _ _ _ ⟨_,_,rfl,_⟩;rfl,by
  rintro _ _ _ _ _ _ hs hk ⟨A,c,h1,h2⟩;exact ⟨A,c,h1,h2.keep hs hk⟩⟩
def Z93 {α:Type} (P:Program) (t:TypeId) (r:RepT α):Prop:=
 P.cellsOf t=r.size∧∀(H:Type) (enc:TypeId×Value→H) (w:World) (base:Nat) (spare:Nat→Bool) (held:Bool) (n:Nat) (cs:List Value) (x:DataW H×List MemPlace),
  DataW.trod enc P w base spare held n t cs=some x→∃a:α,r.rep (· < w.heap.size) w a cs
theorem Z97 {α:Type} {P:Program} {t:TypeId} {size:Nat} {cells:α→List Value} (hs : ∀a,(cells a).length=size) (h:Zlo P t size cells):Z93 P t (RepT.flat size cells hs):=
 ⟨h.1,fun H enc w base spare held n cs x hx=>h.2 H enc w base spare held n cs x hx⟩
theorem Z4c {H:Type} {enc:TypeId×Value→H} {P:Program} {w:World} {base:Nat} {spare:Nat→Bool} {held:Bool} {α:Type} {r:RepT α} {t e:TypeId} {fuel:Nat} {cs:List Value} {x:DataW H×List MemPlace}
 (ht:P.underlying t=some (.slice e)) (h0:0<r.size) (hr:P.cellsOf e=r.size) (hE : ∀n cs x,DataW.trod enc P w base spare held n e cs=some x→∃a:α,r.rep (· < w.heap.size) w a cs)
 (hf:DataW.trod enc P w base spare held fuel t cs=some x) : ∃A c,∃l:List α,cs = [.slice A l.length c]∧RowR r (· < w.heap.size) w A c l:=by
 rcases open_slice ht hf with ⟨h1,_⟩ | ⟨a,len,cap,m,n,Dd,Pl,h1,_,hl,hm,hmm,_,hx⟩
 · exact ⟨none,0,[],h1,RowR.nil _ _ _⟩
 · have hlm:len≤m:=by rw [hmm];split<;>omega
   obtain ⟨l,hll,hq⟩:=Zcz (α:=α) (Q:=fun i x=>∃cs',r.rep (· < w.heap.size) w x cs'∧∀j u,cs'[j]? = some u→w.cell? ((a.add (i*r.size)).add j)=some u) len (fun i hi=>by
    obtain ⟨cs',c1,c2⟩:=hx i (by omega);obtain ⟨x,hrep⟩:=hE n cs' _ c2;obtain ⟨_,hlen,hcell⟩:=World.cells?_some c1;rw [hr] at hcell hlen
    exact ⟨x,cs',hrep,fun j u hu=>(hcell j (by rw [← hlen];exact (Zn5.1 hu).1)).trans hu⟩)
   subst hll;refine ⟨some a,cap,l,h1,hl,hm,fun hpos=>?_⟩;obtain ⟨cs',c1,c2⟩:=hx 0 (by omega);obtain ⟨_,hlen,hcell⟩:=World.cells?_some c1;rw [hr] at hlen hcell
   have hspot:a.spot=none:=by
    have:=hcell 0 h0;rw [Zmc (by omega)] at this;(have e2:(a.add (0*r.size)).add 0=a:=by simp [Addr.add]);rw [e2] at this;exact World.cell?_spot this
   obtain ⟨b,off,spot⟩:=a;simp only at hspot;subst hspot
   have hbl:b<w.heap.size:=by
    have:=hcell 0 h0;rw [Zmc (by omega)] at this;(have e2:((⟨b,off,none⟩:Addr).add (0*r.size)).add 0=⟨b,off,none⟩:=by simp [Addr.add]);rw [e2] at this;exact Zmj w _ this
   refine ⟨b,off,rfl,hbl,hbl,fun k hk=>?_⟩;obtain ⟨cs2,g1,g2⟩:=hq k hk;refine ⟨cs2,g1,fun j u hu=>?_⟩;have:=g2 j u hu;rwa [add_plain,add_plain] at this
theorem Zde {α:Type} {P:Program} {r:RepT α} {t e:TypeId} (ht:P.underlying t=some (.slice e)) (hc:P.cellsOf t=1) (h0:0<r.size) (hr:Z93 P e r):Z93 P t r.list:=
 ⟨hc,fun H enc w base spare held n cs x h=>by
  obtain ⟨A,c,l,h1,h2⟩:=Z4c ht h0 hr.1 (fun n cs x h=>hr.2 H enc w base spare held n cs x h) h
  exact ⟨l,A,c,h1,h2⟩⟩
theorem Z1k {H:Type} {enc:TypeId×Value→H} {P:Program} {w:World} {base:Nat} {spare:Nat→Bool} {held:Bool} {t:TypeId} {fs:Array Field} {n:Nat} {cs:List Value} {x:DataW H×List MemPlace}
 (ht:P.underlying t=some (.struct fs)) (h:DataW.trod enc P w base spare held n t cs=some x) (i:Nat) {f:Field} (hf:fs[i]? = some f) (ty off sz:Nat) (e1:f.type=ty) (e2:f.offset=off) (e3:P.cellsOf ty=sz) :
 ∃m y,DataW.trod enc P w base spare held m ty ((cs.drop off).take sz)=some y:=by
 obtain ⟨xs,n2,_,_,_,hlen,hx⟩:=DataW.trod_struct ht h;have h1:=hx i f hf;subst e1;subst e2;subst e3
 have hi:i<xs.length:=by
  have:=(Zmi.1 hf).1;omega
 rw [Zmc hi] at h1;exact ⟨n2,_,h1⟩
theorem Z51 {H:Type} {enc:TypeId×Value→H} {P:Program} {w:World} {base:Nat} {spare:Nat→Bool} {held:Bool} {t:TypeId} {fs:Array Field} {n:Nat} {cs:List Value} {x:DataW H×List MemPlace}
 (ht:P.underlying t=some (.struct fs)) (h:DataW.trod enc P w base spare held n t cs=some x):cs.length=P.cellsOf t:=by
 obtain ⟨_,_,_,_,hl,_⟩:=DataW.trod_struct ht h;exact hl
theorem Zhr {H:Type} {enc:TypeId×Value→H} {P:Program} {w:World} {rc:Reach} {b0 base:Nat} {spare:Nat→Bool} {held:Bool} {α:Type} {r:RepT α} {t e:TypeId} {v:Value} {d:DataW H} {ps:List MemPlace}
 (ht:P.underlying t=some (.slice e)) (h0:0<r.size) (hr:Z93 P e r) (hval:Value.okWide P w rc b0 t v) (h:DataW.Trod enc P w base spare held t v d ps) :
 ∃A c,∃l:List α,v = .slice A l.length c∧RowR r (· < w.heap.size) w A c l:=by
 obtain ⟨A,len,cap,rfl⟩:=okWide_slice ht hval;obtain ⟨fuel,hf⟩:=h;(have hcs:(Value.slice A len cap).cells.toList = [.slice A len cap]:=by simp [Value.cells]);rw [hcs] at hf;obtain ⟨A',c',l,h1,h2⟩:=Z4c ht h0 hr.1 (fun n cs x h=>hr.2 H enc w base spare held n cs x h) hf;simp only [List.cons.injEq,and_true] at h1;exact ⟨A',c',l,h1,h2⟩
end
section
open Go.RowKit Go.ChangeShapes Go.WideShapes Go.Deep
theorem RowR.imp {α:Type} {r r':RepT α} {D:Nat→Prop} {w:World} {A:Option Addr} {c:Nat} {l:List α} (h:RowR r D w A c l) (hs:r.size=r'.size) (hi : ∀a cs,r.rep D w a cs→r'.rep D w a cs):RowR r' D w A c l:=by
 refine ⟨h.1,h.2.1,fun h0=>?_⟩;obtain ⟨b,off,h1,h2,h3,h4⟩:=h.2.2 h0;refine ⟨b,off,h1,h2,h3,fun k hk=>?_⟩;obtain ⟨cs,h5,h6⟩:=h4 k hk;exact ⟨cs,hi _ _ h5,by rw [← hs];exact h6⟩
theorem Z7r {H:Type} {enc:TypeId×Value→H} {P:Program} {w:World} {base:Nat} {spare:Nat→Bool} {held:Bool} {α:Type} {r:RepT α} {t e:TypeId} {fuel:Nat} {cs:List Value} {x:DataW H×List MemPlace}
 (ht:P.underlying t=some (.slice e)) (h0:0<r.size) (hr:P.cellsOf e=r.size) (hE : ∀n,n<fuel→∀cs x,DataW.trod enc P w base spare held n e cs=some x→∃a:α,r.rep (· < w.heap.size) w a cs)
 (hf:DataW.trod enc P w base spare held fuel t cs=some x) : ∃A c,∃l:List α,cs = [.slice A l.length c]∧RowR r (· < w.heap.size) w A c l:=by
 rcases DataW.trod_slice ht hf with ⟨h1,_⟩ | ⟨a,len,cap,elems,rest,n,hn,h1,_,_,hl,hm,hlen,hel,_,_⟩
 · exact ⟨none,0,[],h1,RowR.nil _ _ _⟩
 · have hx : ∀i,i<len→∃cs',w.cells? base (a.add (i*P.cellsOf e)) (P.cellsOf e)=some cs'∧∃y,DataW.trod enc P w base spare held n e cs'=some y:=fun i hi=>by
    have h2:=hel i hi;rw [Zmc (by omega)] at h2;obtain ⟨cs',g1,g2⟩:=Option.bind_eq_some_iff.1 h2;exact ⟨cs',g1,_,g2⟩
   obtain ⟨l,hll,hq⟩:=Zcz (α:=α) (Q:=fun i x=>∃cs',r.rep (· < w.heap.size) w x cs'∧∀j u,cs'[j]? = some u→w.cell? ((a.add (i*r.size)).add j)=some u) len (fun i hi=>by
    obtain ⟨cs',c1,y,c2⟩:=hx i (by omega);obtain ⟨x,hrep⟩:=hE n (by omega) cs' _ c2;obtain ⟨_,hlen,hcell⟩:=World.cells?_some c1;rw [hr] at hcell hlen
    exact ⟨x,cs',hrep,fun j u hu=>(hcell j (by rw [← hlen];exact (Zn5.1 hu).1)).trans hu⟩)
   subst hll;refine ⟨some a,cap,l,h1,hl,hm,fun hpos=>?_⟩;obtain ⟨cs',c1,_⟩:=hx 0 (by omega);obtain ⟨_,hlen,hcell⟩:=World.cells?_some c1;rw [hr] at hlen hcell
   have hspot:a.spot=none:=by
    have:=hcell 0 h0;rw [Zmc (by omega)] at this;(have e2:(a.add (0*r.size)).add 0=a:=by simp [Addr.add]);rw [e2] at this;exact World.cell?_spot this
   obtain ⟨b,off,spot⟩:=a;simp only at hspot;subst hspot
   have hbl:b<w.heap.size:=by
    have:=hcell 0 h0;rw [Zmc (by omega)] at this;(have e2:((⟨b,off,none⟩:Addr).add (0*r.size)).add 0=⟨b,off,none⟩:=by simp [Addr.add]);rw [e2] at this;exact Zmj w _ this
   refine ⟨b,off,rfl,hbl,hbl,fun k hk=>?_⟩;obtain ⟨cs2,g1,g2⟩:=hq k hk;refine ⟨cs2,g1,fun j u hu=>?_⟩;have:=g2 j u hu;rwa [add_plain,add_plain] at this
theorem Z20 {H:Type} {enc:TypeId×Value→H} {P:Program} {w:World} {base:Nat} {spare:Nat→Bool} {held:Bool} {t:TypeId} {fs:Array Field} {n:Nat} {cs:List Value} {x:DataW H×List MemPlace}
 (ht:P.underlying t=some (.struct fs)) (h:DataW.trod enc P w base spare held n t cs=some x) (i:Nat) {f:Field} (hf:fs[i]? = some f) (ty off sz:Nat) (e1:f.type=ty) (e2:f.offset=off) (e3:P.cellsOf ty=sz) :
 ∃y,DataW.trod enc P w base spare held (n - 1) ty ((cs.drop off).take sz)=some y:=by
 obtain ⟨xs,n2,hn,_,_,hlen,hx⟩:=DataW.trod_struct ht h;have h1:=hx i f hf;subst e1;subst e2;subst e3
 have hi:i<xs.length:=by
  have:=(Zmi.1 hf).1;omega
 rw [Zmc hi] at h1;subst hn;exact ⟨_,h1⟩
theorem Zex {H:Type} {enc:TypeId×Value→H} {P:Program} {w:World} {base:Nat} {spare:Nat→Bool} {held:Bool} {t:TypeId} {n:Nat} {cs:List Value} {x:DataW H×List MemPlace} (h:DataW.trod enc P w base spare held n t cs=some x):0<n:=by
 cases n with
 | zero=>simp [DataW.trod] at h
 | succ n=>omega
theorem Zi3:Zlo Tryz.prog 38 3 Sym.cells:=
 ⟨by kernel_rfl,fun H enc w base spare held n cs x h=>by
  obtain ⟨y0,y1,y2,n',_,hl,h0,h1,h2⟩:=trod_struct3 Tryz.underlying38 h;have hl3:cs.length=3:=hl.trans (by kernel_rfl);(have c3:Tryz.prog.cellsOf 3=1:=by kernel_rfl);(have c9:Tryz.prog.cellsOf 9=1:=by kernel_rfl);simp only [c3,c9] at h0 h1 h2
  match cs,hl3 with
  | [v0,v1,v2],_=>
    simp at h0 h1 h2;obtain ⟨a,e0,_⟩:=DataW.trod_int Tryz.underlying3 h0;obtain ⟨b,e1,_⟩:=DataW.trod_string Tryz.underlying9 h1;obtain ⟨c,e2,_⟩:=DataW.trod_int Tryz.underlying3 h2;simp at e0 e1 e2;subst e0;subst e1;subst e2
    exact ⟨⟨a,b,c⟩,rfl⟩⟩
def Z5z:RepT ByteArray:=RepT.flat 1 (fun s:ByteArray=>[.string s]) (fun _=>rfl)
def Z31:RepT Sym:=RepT.flat 3 Sym.cells Sym.cells_length
theorem Z6s:Z93 Tryz.prog 38 Z31:=Z97 Sym.cells_length Zi3
theorem Zk8 {D:Nat→Prop} {w:World} {A:Option Addr} {c k:Nat} {l:List Sym} (h:RowR Z31 D w A c l) (hk:k<l.length) : ∃g off,A=some ⟨g,off,none⟩∧D g∧g<w.heap.size∧w.cell? ⟨g,off+k*3,none⟩=some (.int .i64 l[k].kind)∧w.cell? ⟨g,off+k*3+1,none⟩=some (.string l[k].text)∧w.cell? ⟨g,off+k*3+2,none⟩=some (.int .i64 l[k].n):=by
 obtain ⟨g,off,cs,hA,hD,hg,hr,hc⟩:=h.at_ hk;have hr2:cs=Sym.cells l[k]:=hr;subst hr2;refine ⟨g,off,hA,hD,hg,by simpa [Z31,RepT.flat] using hc 0 _ rfl,by simpa [Z31,RepT.flat] using hc 1 _ rfl,by simpa [Z31,RepT.flat] using hc 2 _ rfl⟩
structure Elem where
 id:Sym
 attr:Sym
 value:Sym
 acc:Bool
 goal:Bool
 tag:Int
structure Z1t where
 rel:Int
 var:ByteArray
 sym:Sym
 list:List Sym
def Z01:RepT Z1t:=
 { size:=6,rep:=fun D w x cs=>∃A1 c1,cs = [.int .i64 x.rel,.string x.var,.int .i64 x.sym.kind,.string x.sym.text,.int .i64 x.sym.n,.slice A1 x.list.length c1]∧RowR Z31 D w A1 c1 x.list,
   len:=by rintro _ _ _ _ ⟨_,_,rfl,_⟩;rfl,
   keep:=by
    rintro _ _ _ _ _ _ hs hk ⟨A1,c1,h0,h1⟩
    exact ⟨A1,c1,h0,h1.keep hs hk⟩ }
theorem Z32 {D:Nat→Prop} {w:World} {A:Option Addr} {c k:Nat} {l:List Z1t} (h:RowR Z01 D w A c l) (hk:k<l.length) : ∃g off A1 c1,A=some ⟨g,off,none⟩∧D g∧g<w.heap.size∧w.cell? ⟨g,off+k*6,none⟩=some (.int .i64 l[k].rel)∧w.cell? ⟨g,off+k*6+1,none⟩=some (.string l[k].var)∧w.cell? ⟨g,off+k*6+2,none⟩=some (.int .i64 l[k].sym.kind)∧w.cell? ⟨g,off+k*6+3,none⟩=some (.string l[k].sym.text)∧w.cell? ⟨g,off+k*6+4,none⟩=some (.int .i64 l[k].sym.n)∧w.cell? ⟨g,off+k*6+5,none⟩=some (.slice A1 l[k].list.length c1)∧RowR Z31 D w A1 c1 l[k].list:=by
 obtain ⟨g,off,cs,hA,hD,hg,⟨A1,c1,rfl,hrs⟩,hc⟩:=h.at_ hk;exact ⟨g,off,A1,c1,hA,hD,hg,by simpa [Z01] using hc 0 _ rfl,by simpa [Z01] using hc 1 _ rfl,by simpa [Z01] using hc 2 _ rfl,by simpa [Z01] using hc 3 _ rfl,by simpa [Z01] using hc 4 _ rfl,by simpa [Z01] using hc 5 _ rfl,hrs⟩
theorem Z4z:Z93 Tryz.prog 138 Z01:=
 ⟨by kernel_rfl,fun H enc w base spare held n cs x h=>by
  have hl2:cs.length=6:=(Z51 Tryz.underlying138 h).trans (by kernel_rfl);obtain ⟨m0,y0,h0⟩:=Z1k Tryz.underlying138 h 0 rfl 3 0 1 rfl rfl (by kernel_rfl);obtain ⟨m1,y1,h1⟩:=Z1k Tryz.underlying138 h 1 rfl 9 1 1 rfl rfl (by kernel_rfl);obtain ⟨m2,y2,h2⟩:=Z1k Tryz.underlying138 h 2 rfl 38 2 3 rfl rfl (by kernel_rfl);obtain ⟨m3,y3,h3⟩:=Z1k Tryz.underlying138 h 3 rfl 27 5 1 rfl rfl (by kernel_rfl)
  match cs,hl2 with
  | [v0,v1,v2,v3,v4,v5],_=>
    simp at h0 h1 h2 h3;obtain ⟨a0,e0,_⟩:=DataW.trod_int Tryz.underlying3 h0;simp at e0;obtain ⟨a1,e1,_⟩:=DataW.trod_string Tryz.underlying9 h1;simp at e1;obtain ⟨a2,e2⟩:=Z6s.2 H enc w base spare held _ _ _ h2;have e2:_=Sym.cells a2:=e2;simp [Sym.cells] at e2;obtain ⟨a3,A3,c3,e3,r3⟩:=(Zde Tryz.underlying27 (by kernel_rfl) (by decide) Z6s).2 H enc w base spare held _ _ _ h3;simp at e3;subst e0;subst e1;obtain ⟨rfl,rfl,rfl⟩:=e2;subst e3
    exact ⟨⟨a0,a1,a2,a3⟩,A3,c3,rfl,r3⟩⟩
inductive Z08 where
 | mk (kind:Int) (goal:Bool) (id:ByteArray) (attr:List Z1t) (value:List Z1t) (acc:Bool) (conds:List Z08)
def Z08.kind:Z08→Int
 | .mk x _ _ _ _ _ _=>x
def Z08.goal:Z08→Bool
 | .mk _ x _ _ _ _ _=>x
def Z08.id:Z08→ByteArray
 | .mk _ _ x _ _ _ _=>x
def Z08.attr:Z08→List Z1t
 | .mk _ _ _ x _ _ _=>x
def Z08.value:Z08→List Z1t
 | .mk _ _ _ _ x _ _=>x
def Z08.acc:Z08→Bool
 | .mk _ _ _ _ _ x _=>x
def Z08.conds:Z08→List Z08
 | .mk _ _ _ _ _ _ x=>x
def Z05:Nat→RepT Z08
 | 0=>{ size:=7,rep:=fun _ _ _ _=>False,len:=fun h=>h.elim,keep:=fun _ _ h=>h }
 | n+1=>
 { size:=7,rep:=fun D w x cs=>∃A1 c1 A2 c2 A3 c3,cs = [.int .i64 x.kind,.bool x.goal,.string x.id,.slice A1 x.attr.length c1,.slice A2 x.value.length c2,.bool x.acc,.slice A3 x.conds.length c3]∧RowR Z01 D w A1 c1 x.attr∧RowR Z01 D w A2 c2 x.value∧RowR (Z05 n) D w A3 c3 x.conds,
   len:=by rintro _ _ _ _ ⟨_,_,_,_,_,_,rfl,_⟩;rfl,
   keep:=by
    rintro _ _ _ _ _ _ hs hk ⟨A1,c1,A2,c2,A3,c3,h0,h1,h2,h3⟩
    exact ⟨A1,c1,A2,c2,A3,c3,h0,h1.keep hs hk,h2.keep hs hk,h3.keep hs hk⟩ }
theorem Z1y (n:Nat):(Z05 n).size=7:=by cases n<;>rfl
theorem Z1n {n:Nat} {D:Nat→Prop} {w:World} {A:Option Addr} {c k:Nat} {l:List Z08} (h:RowR (Z05 (n+1)) D w A c l) (hk:k<l.length) : ∃g off A1 c1 A2 c2 A3 c3,A=some ⟨g,off,none⟩∧D g∧g<w.heap.size∧w.cell? ⟨g,off+k*7,none⟩=some (.int .i64 l[k].kind)∧w.cell? ⟨g,off+k*7+1,none⟩=some (.bool l[k].goal)∧w.cell? ⟨g,off+k*7+2,none⟩=some (.string l[k].id)∧w.cell? ⟨g,off+k*7+3,none⟩=some (.slice A1 l[k].attr.length c1)∧w.cell? ⟨g,off+k*7+4,none⟩=some (.slice A2 l[k].value.length c2)∧w.cell? ⟨g,off+k*7+5,none⟩=some (.bool l[k].acc)∧w.cell? ⟨g,off+k*7+6,none⟩=some (.slice A3 l[k].conds.length c3)∧RowR Z01 D w A1 c1 l[k].attr∧RowR Z01 D w A2 c2 l[k].value∧RowR (Z05 n) D w A3 c3 l[k].conds:=by
 obtain ⟨g,off,cs,hA,hD,hg,⟨A1,c1,A2,c2,A3,c3,rfl,hrs⟩,hc⟩:=h.at_ hk;exact ⟨g,off,A1,c1,A2,c2,A3,c3,hA,hD,hg,by simpa [Z05] using hc 0 _ rfl,by simpa [Z05] using hc 1 _ rfl,by simpa [Z05] using hc 2 _ rfl,by simpa [Z05] using hc 3 _ rfl,by simpa [Z05] using hc 4 _ rfl,by simpa [Z05] using hc 5 _ rfl,by simpa [Z05] using hc 6 _ rfl,hrs⟩
theorem Z6v : ∀(n:Nat) {D:Nat→Prop} {w:World} {a:Z08} {cs:List Value},(Z05 n).rep D w a cs→(Z05 (n+1)).rep D w a cs
 | 0,_,_,_,_,h=>h.elim
 | n+1,_,_,_,_,h=>by
   obtain ⟨A1,c1,A2,c2,A3,c3,h0,h1,h2,h3⟩:=h;exact ⟨A1,c1,A2,c2,A3,c3,h0,h1,h2,h3.imp (by rw [Z1y,Z1y]) (fun _ _ g=>Z6v n g)⟩
theorem Z8x {m n:Nat} (h:m≤n) {D:Nat→Prop} {w:World} {a:Z08} {cs:List Value} (g:(Z05 m).rep D w a cs):(Z05 n).rep D w a cs:=by
 induction n with
 | zero=>obtain rfl:m=0:=by omega
         exact g
 | succ n ih=>
   by_cases e:m=n+1
   · subst e;exact g
   · exact Z6v n (ih (by omega))
theorem Zja {cs:List Value} (h:cs.length=7) : ∃v0 v1 v2 v3 v4 v5 v6,cs = [v0,v1,v2,v3,v4,v5,v6]:=by
 match cs,h with
 | [v0,v1,v2,v3,v4,v5,v6],_=>exact ⟨v0,v1,v2,v3,v4,v5,v6,rfl⟩
theorem Zda {H:Type} (enc:TypeId×Value→H) (w:World) (base:Nat) (spare:Nat→Bool) (held:Bool) : ∀(fuel:Nat) (cs:List Value) (x:DataW H×List MemPlace),DataW.trod enc Tryz.prog w base spare held fuel 59 cs=some x→∃a:Z08,(Z05 fuel).rep (· < w.heap.size) w a cs:=by
 intro fuel
 induction fuel using Nat.strongRecOn with
 | _ fuel ih=>
   intro cs x h;obtain ⟨n,rfl⟩ : ∃n,fuel=n+1:=⟨fuel - 1,by have:=Zex h;omega⟩;have hl2:cs.length=7:=(Z51 Tryz.underlying59 h).trans (by kernel_rfl);obtain ⟨y0,h0⟩:=Z20 Tryz.underlying59 h 0 rfl 3 0 1 rfl rfl (by kernel_rfl);obtain ⟨y1,h1⟩:=Z20 Tryz.underlying59 h 1 rfl 4 1 1 rfl rfl (by kernel_rfl);obtain ⟨y2,h2⟩:=Z20 Tryz.underlying59 h 2 rfl 9 2 1 rfl rfl (by kernel_rfl);obtain ⟨y3,h3⟩:=Z20 Tryz.underlying59 h 3 rfl 57 3 1 rfl rfl (by kernel_rfl);obtain ⟨y4,h4⟩:=Z20 Tryz.underlying59 h 4 rfl 57 4 1 rfl rfl (by kernel_rfl);obtain ⟨y5,h5⟩:=Z20 Tryz.underlying59 h 5 rfl 4 5 1 rfl rfl (by kernel_rfl);obtain ⟨y6,h6⟩:=Z20 Tryz.underlying59 h 6 rfl 22 6 1 rfl rfl (by kernel_rfl);obtain ⟨v0,v1,v2,v3,v4,v5,v6,rfl⟩:=Zja hl2;simp at h0 h1 h2 h3 h4 h5 h6;obtain ⟨a0,e0,_⟩:=DataW.trod_int Tryz.underlying3 h0;simp at e0;obtain ⟨a1,e1,_⟩:=DataW.trod_bool Tryz.underlying4 h1;simp at e1;obtain ⟨a2,e2,_⟩:=DataW.trod_string Tryz.underlying9 h2;simp at e2;obtain ⟨A3,c3,a3,e3,r3⟩:=Z4c (r:=Z01) Tryz.underlying57 (by decide) Z4z.1 (fun n cs x hx=>Z4z.2 H enc w base spare held n cs x hx) h3;simp at e3;obtain ⟨A4,c4,a4,e4,r4⟩:=Z4c (r:=Z01) Tryz.underlying57 (by decide) Z4z.1 (fun n cs x hx=>Z4z.2 H enc w base spare held n cs x hx) h4;simp at e4;obtain ⟨a5,e5,_⟩:=DataW.trod_bool Tryz.underlying4 h5;simp at e5;obtain ⟨A6,c6,a6,e6,r6⟩:=Z7r (r:=Z05 n) Tryz.underlying22 (by rw [Z1y];decide) (by rw [Z1y];kernel_rfl) (fun m hm cs x hx=>(ih m (by omega) cs x hx).imp fun _ g=>Z8x (by omega) g) h6;simp at e6;subst e0;subst e1;subst e2;subst e3;subst e4;subst e5;subst e6;exact ⟨⟨a0,a1,a2,a3,a4,a5,a6⟩,A3,c3,A4,c4,A6,c6,rfl,r3,r4,r6⟩
structure Z2j where
 var:ByteArray
 sym:Sym
def Z2j.cells (x:Z2j):List Value:=[.string x.var,.int .i64 x.sym.kind,.string x.sym.text,.int .i64 x.sym.n]
theorem Z2j.cells_length (x:Z2j):x.cells.length=4:=rfl
def Zjw:RepT Z2j:=RepT.flat 4 Z2j.cells Z2j.cells_length
theorem Z4y:Z93 Tryz.prog 91 Zjw:=
 ⟨by kernel_rfl,fun H enc w base spare held n cs x h=>by
  have hl2:cs.length=4:=(Z51 Tryz.underlying91 h).trans (by kernel_rfl);obtain ⟨m0,y0,h0⟩:=Z1k Tryz.underlying91 h 0 rfl 9 0 1 rfl rfl (by kernel_rfl);obtain ⟨m1,y1,h1⟩:=Z1k Tryz.underlying91 h 1 rfl 38 1 3 rfl rfl (by kernel_rfl)
  match cs,hl2 with
  | [v0,v1,v2,v3],_=>
    simp at h0 h1;obtain ⟨a0,e0,_⟩:=DataW.trod_string Tryz.underlying9 h0;simp at e0;obtain ⟨a1,e1⟩:=Z6s.2 H enc w base spare held _ _ _ h1;have e1:_=Sym.cells a1:=e1;simp [Sym.cells] at e1;subst e0;obtain ⟨rfl,rfl,rfl⟩:=e1
    exact ⟨⟨a0,a1⟩,rfl⟩⟩
structure Z7v where
 op:Int
 a:Z2j
 b:Z2j
def Z7v.cells (x:Z7v):List Value:=[.int .i64 x.op,.string x.a.var,.int .i64 x.a.sym.kind,.string x.a.sym.text,.int .i64 x.a.sym.n,.string x.b.var,.int .i64 x.b.sym.kind,.string x.b.sym.text,.int .i64 x.b.sym.n]
theorem Z7v.cells_length (x:Z7v):x.cells.length=9:=rfl
def Zjy:RepT Z7v:=RepT.flat 9 Z7v.cells Z7v.cells_length
theorem Zdd:Z93 Tryz.prog 93 Zjy:=
 ⟨by kernel_rfl,fun H enc w base spare held n cs x h=>by
  have hl2:cs.length=9:=(Z51 Tryz.underlying93 h).trans (by kernel_rfl);obtain ⟨m0,y0,h0⟩:=Z1k Tryz.underlying93 h 0 rfl 3 0 1 rfl rfl (by kernel_rfl);obtain ⟨m1,y1,h1⟩:=Z1k Tryz.underlying93 h 1 rfl 91 1 4 rfl rfl (by kernel_rfl);obtain ⟨m2,y2,h2⟩:=Z1k Tryz.underlying93 h 2 rfl 91 5 4 rfl rfl (by kernel_rfl)
  match cs,hl2 with
  | [v0,v1,v2,v3,v4,v5,v6,v7,v8],_=>
    simp at h0 h1 h2;obtain ⟨a0,e0,_⟩:=DataW.trod_int Tryz.underlying3 h0;simp at e0;obtain ⟨a1,e1⟩:=Z4y.2 H enc w base spare held _ _ _ h1;have e1:_=Z2j.cells a1:=e1;simp [Z2j.cells] at e1;obtain ⟨a2,e2⟩:=Z4y.2 H enc w base spare held _ _ _ h2;have e2:_=Z2j.cells a2:=e2;simp [Z2j.cells] at e2;subst e0;obtain ⟨rfl,rfl,rfl,rfl⟩:=e1;obtain ⟨rfl,rfl,rfl,rfl⟩:=e2
    exact ⟨⟨a0,a1,a2⟩,rfl⟩⟩
structure ActT where
 id:ByteArray
 attr:Z2j
 value:Z7v
 pref:Int
 other:Z2j
def ActT.cells (x:ActT):List Value:=[.string x.id,.string x.attr.var,.int .i64 x.attr.sym.kind,.string x.attr.sym.text,.int .i64 x.attr.sym.n,.int .i64 x.value.op,.string x.value.a.var,.int .i64 x.value.a.sym.kind,.string x.value.a.sym.text,.int .i64 x.value.a.sym.n,.string x.value.b.var,.int .i64 x.value.b.sym.kind,.string x.value.b.sym.text,.int .i64 x.value.b.sym.n,.int .i64 x.pref,.string x.other.var,.int .i64 x.other.sym.kind,.string x.other.sym.text,.int .i64 x.other.sym.n]
theorem ActT.cells_length (x:ActT):x.cells.length=19:=rfl
def Z19:RepT ActT:=RepT.flat 19 ActT.cells ActT.cells_length
theorem Zgj {D:Nat→Prop} {w:World} {A:Option Addr} {c k:Nat} {l:List ActT} (h:RowR Z19 D w A c l) (hk:k<l.length) : ∃g off,A=some ⟨g,off,none⟩∧D g∧g<w.heap.size∧w.cell? ⟨g,off+k*19,none⟩=some (.string l[k].id)∧w.cell? ⟨g,off+k*19+1,none⟩=some (.string l[k].attr.var)∧w.cell? ⟨g,off+k*19+2,none⟩=some (.int .i64 l[k].attr.sym.kind)∧w.cell? ⟨g,off+k*19+3,none⟩=some (.string l[k].attr.sym.text)∧w.cell? ⟨g,off+k*19+4,none⟩=some (.int .i64 l[k].attr.sym.n)∧w.cell? ⟨g,off+k*19+5,none⟩=some (.int .i64 l[k].value.op)∧w.cell? ⟨g,off+k*19+6,none⟩=some (.string l[k].value.a.var)∧w.cell? ⟨g,off+k*19+7,none⟩=some (.int .i64 l[k].value.a.sym.kind)∧w.cell? ⟨g,off+k*19+8,none⟩=some (.string l[k].value.a.sym.text)∧w.cell? ⟨g,off+k*19+9,none⟩=some (.int .i64 l[k].value.a.sym.n)∧w.cell? ⟨g,off+k*19+10,none⟩=some (.string l[k].value.b.var)∧w.cell? ⟨g,off+k*19+11,none⟩=some (.int .i64 l[k].value.b.sym.kind)∧w.cell? ⟨g,off+k*19+12,none⟩=some (.string l[k].value.b.sym.text)∧w.cell? ⟨g,off+k*19+13,none⟩=some (.int .i64 l[k].value.b.sym.n)∧w.cell? ⟨g,off+k*19+14,none⟩=some (.int .i64 l[k].pref)∧w.cell? ⟨g,off+k*19+15,none⟩=some (.string l[k].other.var)∧w.cell? ⟨g,off+k*19+16,none⟩=some (.int .i64 l[k].other.sym.kind)∧w.cell? ⟨g,off+k*19+17,none⟩=some (.string l[k].other.sym.text)∧w.cell? ⟨g,off+k*19+18,none⟩=some (.int .i64 l[k].other.sym.n):=by
 obtain ⟨g,off,cs,hA,hD,hg,hr,hc⟩:=h.at_ hk;have hr2:cs=ActT.cells l[k]:=hr;subst hr2;refine ⟨g,off,hA,hD,hg,by simpa [Z19,RepT.flat] using hc 0 _ rfl,by simpa [Z19,RepT.flat] using hc 1 _ rfl,by simpa [Z19,RepT.flat] using hc 2 _ rfl,by simpa [Z19,RepT.flat] using hc 3 _ rfl,by simpa [Z19,RepT.flat] using hc 4 _ rfl,by simpa [Z19,RepT.flat] using hc 5 _ rfl,by simpa [Z19,RepT.flat] using hc 6 _ rfl,by simpa [Z19,RepT.flat] using hc 7 _ rfl,by simpa [Z19,RepT.flat] using hc 8 _ rfl,by simpa [Z19,RepT.flat] using hc 9 _ rfl,by simpa [Z19,RepT.flat] using hc 10 _ rfl,by simpa [Z19,RepT.flat] using hc 11 _ rfl,by simpa [Z19,RepT.flat] using hc 12 _ rfl,by simpa [Z19,RepT.flat] using hc 13 _ rfl,by simpa [Z19,RepT.flat] using hc 14 _ rfl,by simpa [Z19,RepT.flat] using hc 15 _ rfl,by simpa [Z19,RepT.flat] using hc 16 _ rfl,by simpa [Z19,RepT.flat] using hc 17 _ rfl,by simpa [Z19,RepT.flat] using hc 18 _ rfl⟩
theorem Z9n:Z93 Tryz.prog 96 Z19:=
 ⟨by kernel_rfl,fun H enc w base spare held n cs x h=>by
  have hl2:cs.length=19:=(Z51 Tryz.underlying96 h).trans (by kernel_rfl);obtain ⟨m0,y0,h0⟩:=Z1k Tryz.underlying96 h 0 rfl 9 0 1 rfl rfl (by kernel_rfl);obtain ⟨m1,y1,h1⟩:=Z1k Tryz.underlying96 h 1 rfl 91 1 4 rfl rfl (by kernel_rfl);obtain ⟨m2,y2,h2⟩:=Z1k Tryz.underlying96 h 2 rfl 93 5 9 rfl rfl (by kernel_rfl);obtain ⟨m3,y3,h3⟩:=Z1k Tryz.underlying96 h 3 rfl 3 14 1 rfl rfl (by kernel_rfl);obtain ⟨m4,y4,h4⟩:=Z1k Tryz.underlying96 h 4 rfl 91 15 4 rfl rfl (by kernel_rfl)
  match cs,hl2 with
  | [v0,v1,v2,v3,v4,v5,v6,v7,v8,v9,v10,v11,v12,v13,v14,v15,v16,v17,v18],_=>
    simp at h0 h1 h2 h3 h4;obtain ⟨a0,e0,_⟩:=DataW.trod_string Tryz.underlying9 h0;simp at e0;obtain ⟨a1,e1⟩:=Z4y.2 H enc w base spare held _ _ _ h1;have e1:_=Z2j.cells a1:=e1;simp [Z2j.cells] at e1;obtain ⟨a2,e2⟩:=Zdd.2 H enc w base spare held _ _ _ h2;have e2:_=Z7v.cells a2:=e2;simp [Z7v.cells] at e2;obtain ⟨a3,e3,_⟩:=DataW.trod_int Tryz.underlying3 h3;simp at e3;obtain ⟨a4,e4⟩:=Z4y.2 H enc w base spare held _ _ _ h4;have e4:_=Z2j.cells a4:=e4;simp [Z2j.cells] at e4;subst e0;obtain ⟨rfl,rfl,rfl,rfl⟩:=e1;obtain ⟨rfl,rfl,rfl,rfl,rfl,rfl,rfl,rfl,rfl⟩:=e2;subst e3;obtain ⟨rfl,rfl,rfl,rfl⟩:=e4
    exact ⟨⟨a0,a1,a2,a3,a4⟩,rfl⟩⟩
structure Z3y where
 name:ByteArray
 conds:List Z08
 acts:List ActT
def Zjx (n:Nat):RepT Z3y:=
 { size:=3,rep:=fun D w x cs=>∃A1 c1 A2 c2,cs = [.string x.name,.slice A1 x.conds.length c1,.slice A2 x.acts.length c2]∧RowR (Z05 n) D w A1 c1 x.conds∧RowR Z19 D w A2 c2 x.acts,
   len:=by rintro _ _ _ _ ⟨_,_,_,_,rfl,_⟩;rfl,
   keep:=by
    rintro _ _ _ _ _ _ hs hk ⟨A1,c1,A2,c2,h0,h1,h2⟩
    exact ⟨A1,c1,A2,c2,h0,h1.keep hs hk,h2.keep hs hk⟩ }
theorem Zjb {cs:List Value} (h:cs.length=3) : ∃v0 v1 v2,cs = [v0,v1,v2]:=by
 match cs,h with
 | [v0,v1,v2],_=>exact ⟨v0,v1,v2,rfl⟩
theorem Zdb {H:Type} (enc:TypeId×Value→H) (w:World) (base:Nat) (spare:Nat→Bool) (held:Bool) : ∀(fuel:Nat) (cs:List Value) (x:DataW H×List MemPlace),DataW.trod enc Tryz.prog w base spare held fuel 25 cs=some x→∃a:Z3y,(Zjx fuel).rep (· < w.heap.size) w a cs:=by
 intro fuel
 induction fuel using Nat.strongRecOn with
 | _ fuel ih=>
   intro cs x h;obtain ⟨n,rfl⟩ : ∃n,fuel=n+1:=⟨fuel - 1,by have:=Zex h;omega⟩;have hl2:cs.length=3:=(Z51 Tryz.underlying25 h).trans (by kernel_rfl);obtain ⟨y0,h0⟩:=Z20 Tryz.underlying25 h 0 rfl 9 0 1 rfl rfl (by kernel_rfl);obtain ⟨y1,h1⟩:=Z20 Tryz.underlying25 h 1 rfl 22 1 1 rfl rfl (by kernel_rfl);obtain ⟨y2,h2⟩:=Z20 Tryz.underlying25 h 2 rfl 23 2 1 rfl rfl (by kernel_rfl);obtain ⟨v0,v1,v2,rfl⟩:=Zjb hl2;simp at h0 h1 h2;obtain ⟨a0,e0,_⟩:=DataW.trod_string Tryz.underlying9 h0;simp at e0;obtain ⟨A1,c1,a1,e1,r1⟩:=Z7r (r:=Z05 (n+1)) Tryz.underlying22 (by rw [Z1y];decide) (by rw [Z1y];kernel_rfl) (fun m hm cs x hx=>(Zda enc w base spare held m cs x hx).imp fun _ g=>Z8x (by omega) g) h1;simp at e1;obtain ⟨A2,c2,a2,e2,r2⟩:=Z4c (r:=Z19) Tryz.underlying23 (by decide) Z9n.1 (fun n cs x hx=>Z9n.2 H enc w base spare held n cs x hx) h2;simp at e2;subst e0;subst e1;subst e2;exact ⟨⟨a0,a1,a2⟩,A1,c1,A2,c2,rfl,r1,r2⟩
structure Z17 where
 var:ByteArray
 sym:Sym
def Z17.cells (x:Z17):List Value:=[.string x.var,.int .i64 x.sym.kind,.string x.sym.text,.int .i64 x.sym.n]
theorem Z17.cells_length (x:Z17):x.cells.length=4:=rfl
def Z29:RepT Z17:=RepT.flat 4 Z17.cells Z17.cells_length
theorem Z7x {D:Nat→Prop} {w:World} {A:Option Addr} {c k:Nat} {l:List Z17} (h:RowR Z29 D w A c l) (hk:k<l.length) : ∃g off,A=some ⟨g,off,none⟩∧D g∧g<w.heap.size∧w.cell? ⟨g,off+k*4,none⟩=some (.string l[k].var)∧w.cell? ⟨g,off+k*4+1,none⟩=some (.int .i64 l[k].sym.kind)∧w.cell? ⟨g,off+k*4+2,none⟩=some (.string l[k].sym.text)∧w.cell? ⟨g,off+k*4+3,none⟩=some (.int .i64 l[k].sym.n):=by
 obtain ⟨g,off,cs,hA,hD,hg,hr,hc⟩:=h.at_ hk;have hr2:cs=Z17.cells l[k]:=hr;subst hr2;refine ⟨g,off,hA,hD,hg,by simpa [Z29,RepT.flat] using hc 0 _ rfl,by simpa [Z29,RepT.flat] using hc 1 _ rfl,by simpa [Z29,RepT.flat] using hc 2 _ rfl,by simpa [Z29,RepT.flat] using hc 3 _ rfl⟩
theorem Zdc:Z93 Tryz.prog 40 Z29:=
 ⟨by kernel_rfl,fun H enc w base spare held n cs x h=>by
  have hl2:cs.length=4:=(Z51 Tryz.underlying40 h).trans (by kernel_rfl);obtain ⟨m0,y0,h0⟩:=Z1k Tryz.underlying40 h 0 rfl 9 0 1 rfl rfl (by kernel_rfl);obtain ⟨m1,y1,h1⟩:=Z1k Tryz.underlying40 h 1 rfl 38 1 3 rfl rfl (by kernel_rfl)
  match cs,hl2 with
  | [v0,v1,v2,v3],_=>
    simp at h0 h1;obtain ⟨a0,e0,_⟩:=DataW.trod_string Tryz.underlying9 h0;simp at e0;obtain ⟨a1,e1⟩:=Z6s.2 H enc w base spare held _ _ _ h1;have e1:_=Sym.cells a1:=e1;simp [Sym.cells] at e1;subst e0;obtain ⟨rfl,rfl,rfl⟩:=e1
    exact ⟨⟨a0,a1⟩,rfl⟩⟩
structure Z09 where
 elem:Elem
 level:Int
 cause:Int
def Z09.cells (x:Z09):List Value:=[.int .i64 x.elem.id.kind,.string x.elem.id.text,.int .i64 x.elem.id.n,.int .i64 x.elem.attr.kind,.string x.elem.attr.text,.int .i64 x.elem.attr.n,.int .i64 x.elem.value.kind,.string x.elem.value.text,.int .i64 x.elem.value.n,.bool x.elem.acc,.bool x.elem.goal,.int .i64 x.elem.tag,.int .i64 x.level,.int .i64 x.cause]
theorem Z09.cells_length (x:Z09):x.cells.length=14:=rfl
def Z11:RepT Z09:=RepT.flat 14 Z09.cells Z09.cells_length
theorem Z5g {D:Nat→Prop} {w:World} {A:Option Addr} {c k:Nat} {l:List Z09} (h:RowR Z11 D w A c l) (hk:k<l.length) : ∃g off,A=some ⟨g,off,none⟩∧D g∧g<w.heap.size∧w.cell? ⟨g,off+k*14,none⟩=some (.int .i64 l[k].elem.id.kind)∧w.cell? ⟨g,off+k*14+1,none⟩=some (.string l[k].elem.id.text)∧w.cell? ⟨g,off+k*14+2,none⟩=some (.int .i64 l[k].elem.id.n)∧w.cell? ⟨g,off+k*14+3,none⟩=some (.int .i64 l[k].elem.attr.kind)∧w.cell? ⟨g,off+k*14+4,none⟩=some (.string l[k].elem.attr.text)∧w.cell? ⟨g,off+k*14+5,none⟩=some (.int .i64 l[k].elem.attr.n)∧w.cell? ⟨g,off+k*14+6,none⟩=some (.int .i64 l[k].elem.value.kind)∧w.cell? ⟨g,off+k*14+7,none⟩=some (.string l[k].elem.value.text)∧w.cell? ⟨g,off+k*14+8,none⟩=some (.int .i64 l[k].elem.value.n)∧w.cell? ⟨g,off+k*14+9,none⟩=some (.bool l[k].elem.acc)∧w.cell? ⟨g,off+k*14+10,none⟩=some (.bool l[k].elem.goal)∧w.cell? ⟨g,off+k*14+11,none⟩=some (.int .i64 l[k].elem.tag)∧w.cell? ⟨g,off+k*14+12,none⟩=some (.int .i64 l[k].level)∧w.cell? ⟨g,off+k*14+13,none⟩=some (.int .i64 l[k].cause):=by
 obtain ⟨g,off,cs,hA,hD,hg,hr,hc⟩:=h.at_ hk;have hr2:cs=Z09.cells l[k]:=hr;subst hr2;refine ⟨g,off,hA,hD,hg,by simpa [Z11,RepT.flat] using hc 0 _ rfl,by simpa [Z11,RepT.flat] using hc 1 _ rfl,by simpa [Z11,RepT.flat] using hc 2 _ rfl,by simpa [Z11,RepT.flat] using hc 3 _ rfl,by simpa [Z11,RepT.flat] using hc 4 _ rfl,by simpa [Z11,RepT.flat] using hc 5 _ rfl,by simpa [Z11,RepT.flat] using hc 6 _ rfl,by simpa [Z11,RepT.flat] using hc 7 _ rfl,by simpa [Z11,RepT.flat] using hc 8 _ rfl,by simpa [Z11,RepT.flat] using hc 9 _ rfl,by simpa [Z11,RepT.flat] using hc 10 _ rfl,by simpa [Z11,RepT.flat] using hc 11 _ rfl,by simpa [Z11,RepT.flat] using hc 12 _ rfl,by simpa [Z11,RepT.flat] using hc 13 _ rfl⟩
structure Z5b where
 cond:Z08
 binds:List Z17
def Z0t (n:Nat):RepT Z5b:=
 { size:=8,rep:=fun D w x cs=>∃A1 c1 A2 c2 A3 c3 A4 c4,cs = [.int .i64 x.cond.kind,.bool x.cond.goal,.string x.cond.id,.slice A1 x.cond.attr.length c1,.slice A2 x.cond.value.length c2,.bool x.cond.acc,.slice A3 x.cond.conds.length c3,.slice A4 x.binds.length c4]∧RowR Z01 D w A1 c1 x.cond.attr∧RowR Z01 D w A2 c2 x.cond.value∧RowR (Z05 n) D w A3 c3 x.cond.conds∧RowR Z29 D w A4 c4 x.binds,
   len:=by rintro _ _ _ _ ⟨_,_,_,_,_,_,_,_,rfl,_⟩;rfl,
   keep:=by
    rintro _ _ _ _ _ _ hs hk ⟨A1,c1,A2,c2,A3,c3,A4,c4,h0,h1,h2,h3,h4⟩
    exact ⟨A1,c1,A2,c2,A3,c3,A4,c4,h0,h1.keep hs hk,h2.keep hs hk,h3.keep hs hk,h4.keep hs hk⟩ }
theorem Z9z {n:Nat} {D:Nat→Prop} {w:World} {A:Option Addr} {c k:Nat} {l:List Z5b} (h:RowR (Z0t n) D w A c l) (hk:k<l.length) : ∃g off A1 c1 A2 c2 A3 c3 A4 c4,A=some ⟨g,off,none⟩∧D g∧g<w.heap.size∧w.cell? ⟨g,off+k*8,none⟩=some (.int .i64 l[k].cond.kind)∧w.cell? ⟨g,off+k*8+1,none⟩=some (.bool l[k].cond.goal)∧w.cell? ⟨g,off+k*8+2,none⟩=some (.string l[k].cond.id)∧w.cell? ⟨g,off+k*8+3,none⟩=some (.slice A1 l[k].cond.attr.length c1)∧w.cell? ⟨g,off+k*8+4,none⟩=some (.slice A2 l[k].cond.value.length c2)∧w.cell? ⟨g,off+k*8+5,none⟩=some (.bool l[k].cond.acc)∧w.cell? ⟨g,off+k*8+6,none⟩=some (.slice A3 l[k].cond.conds.length c3)∧w.cell? ⟨g,off+k*8+7,none⟩=some (.slice A4 l[k].binds.length c4)∧RowR Z01 D w A1 c1 l[k].cond.attr∧RowR Z01 D w A2 c2 l[k].cond.value∧RowR (Z05 n) D w A3 c3 l[k].cond.conds∧RowR Z29 D w A4 c4 l[k].binds:=by
 obtain ⟨g,off,cs,hA,hD,hg,⟨A1,c1,A2,c2,A3,c3,A4,c4,rfl,hrs⟩,hc⟩:=h.at_ hk;exact ⟨g,off,A1,c1,A2,c2,A3,c3,A4,c4,hA,hD,hg,by simpa [Z0t] using hc 0 _ rfl,by simpa [Z0t] using hc 1 _ rfl,by simpa [Z0t] using hc 2 _ rfl,by simpa [Z0t] using hc 3 _ rfl,by simpa [Z0t] using hc 4 _ rfl,by simpa [Z0t] using hc 5 _ rfl,by simpa [Z0t] using hc 6 _ rfl,by simpa [Z0t] using hc 7 _ rfl,hrs⟩
structure Z0n where
 a:Sym
 b:Sym
 rel:Int
def Z0n.cells (x:Z0n):List Value:=[.int .i64 x.a.kind,.string x.a.text,.int .i64 x.a.n,.int .i64 x.b.kind,.string x.b.text,.int .i64 x.b.n,.int .i64 x.rel]
theorem Z0n.cells_length (x:Z0n):x.cells.length=7:=rfl
def Z3s:RepT Z0n:=RepT.flat 7 Z0n.cells Z0n.cells_length
structure Z0d where
 num:Int
 level:Int
 elems:List Z09
 holes:List Z5b
 aparts:List Z0n
 news:List Sym
def Z22 (n:Nat):RepT Z0d:=
 { size:=6,rep:=fun D w x cs=>∃A1 c1 A2 c2 A3 c3 A4 c4,cs = [.int .i64 x.num,.int .i64 x.level,.slice A1 x.elems.length c1,.slice A2 x.holes.length c2,.slice A3 x.aparts.length c3,.slice A4 x.news.length c4]∧RowR Z11 D w A1 c1 x.elems∧RowR (Z0t n) D w A2 c2 x.holes∧RowR Z3s D w A3 c3 x.aparts∧RowR Z31 D w A4 c4 x.news,
   len:=by rintro _ _ _ _ ⟨_,_,_,_,_,_,_,_,rfl,_⟩;rfl,
   keep:=by
    rintro _ _ _ _ _ _ hs hk ⟨A1,c1,A2,c2,A3,c3,A4,c4,h0,h1,h2,h3,h4⟩
    exact ⟨A1,c1,A2,c2,A3,c3,A4,c4,h0,h1.keep hs hk,h2.keep hs hk,h3.keep hs hk,h4.keep hs hk⟩ }
theorem Zf7 {n:Nat} {D:Nat→Prop} {w:World} {A:Option Addr} {c k:Nat} {l:List Z0d} (h:RowR (Z22 n) D w A c l) (hk:k<l.length) : ∃g off A1 c1 A2 c2 A3 c3 A4 c4,A=some ⟨g,off,none⟩∧D g∧g<w.heap.size∧w.cell? ⟨g,off+k*6,none⟩=some (.int .i64 l[k].num)∧w.cell? ⟨g,off+k*6+1,none⟩=some (.int .i64 l[k].level)∧w.cell? ⟨g,off+k*6+2,none⟩=some (.slice A1 l[k].elems.length c1)∧w.cell? ⟨g,off+k*6+3,none⟩=some (.slice A2 l[k].holes.length c2)∧w.cell? ⟨g,off+k*6+4,none⟩=some (.slice A3 l[k].aparts.length c3)∧w.cell? ⟨g,off+k*6+5,none⟩=some (.slice A4 l[k].news.length c4)∧RowR Z11 D w A1 c1 l[k].elems∧RowR (Z0t n) D w A2 c2 l[k].holes∧RowR Z3s D w A3 c3 l[k].aparts∧RowR Z31 D w A4 c4 l[k].news:=by
 obtain ⟨g,off,cs,hA,hD,hg,⟨A1,c1,A2,c2,A3,c3,A4,c4,rfl,hrs⟩,hc⟩:=h.at_ hk;exact ⟨g,off,A1,c1,A2,c2,A3,c3,A4,c4,hA,hD,hg,by simpa [Z22] using hc 0 _ rfl,by simpa [Z22] using hc 1 _ rfl,by simpa [Z22] using hc 2 _ rfl,by simpa [Z22] using hc 3 _ rfl,by simpa [Z22] using hc 4 _ rfl,by simpa [Z22] using hc 5 _ rfl,hrs⟩
end
section
def oneN (s:ByteArray):List ByteArray:=if s.toList = [] then [] else [s]
theorem Zd8 {s:ByteArray} (h:s.toList = []):oneN s = []:=by rw [oneN,if_pos h]
theorem Zam {s:ByteArray} (h : ¬s.toList = []):oneN s = [s]:=by rw [oneN,if_neg h]
def Z3h (l:List Z1t):List ByteArray:=l.flatMap fun t=>oneN t.var
def Z0z:Nat→Z08→List ByteArray
 | 0,_=>[]
 | n+1,c=>oneN c.id++(Z3h c.attr++(Z3h c.value++c.conds.flatMap (Z0z n)))
theorem Zek (s:ByteArray):(oneN s).length≤1:=by unfold oneN;split<;>simp
theorem Zcg (l:List Z1t):(Z3h l).length≤l.length:=by
 unfold Z3h
 induction l with
 | nil=>simp
 | cons t l ih=>have:=Zek t.var;rw [Zn7,Zmd,Zmp];omega
theorem Z9u {l:List Z1t} {i:Nat} (h:i<l.length):Z3h (l.drop i)=oneN l[i].var++Z3h (l.drop (i+1)):=by
 unfold Z3h;rw [Znj h,Zn7]
def Z7m (v:ByteArray):Array Value:=#[.string v]
end
section
open Go.RowKit
def Z3d (c:UInt8):Bool:=decide (97≤c.toNat) && decide (c.toNat≤122)
def Z2u (c:UInt8):Bool:=decide (65≤c.toNat) && decide (c.toNat≤90)
def Z5x (c:UInt8):Bool:=decide (48≤c.toNat) && decide (c.toNat≤57)
def Z99 (c:UInt8):Bool:=Z3d c || Z5x c || c.toNat == 45 || c.toNat == 95
def Z15 (t:ByteArray):Bool:=decide (1≤t.size) && decide (t.size≤32) && t.data.toList.head?.any Z3d && t.data.toList.all Z99
theorem Z7b {t:ByteArray}:Z15 t=true↔∃h:0<t.size,t.size≤32∧Z3d t[0]=true∧∀k,(h:k<t.size)→Z99 t[k]=true:=by
 unfold Z15;rw [Zmy,Zmy,Zmy,decide_eq_true_iff,decide_eq_true_iff,Zne];have hs:t.data.toList.length=t.size:=Array.length_toList;constructor
 · rintro ⟨⟨⟨h1,h2⟩,h3⟩,h4⟩
   refine ⟨h1,h2,?_,fun k h=>h4 _ ?_⟩
   · rw [List.head?_eq_getElem?,Zmc (by omega)] at h3
     exact (by simpa only [Option.any_some,Array.getElem_toList] using h3:Z3d t.data[0]=true)
   · have:t[k]=t.data.toList[k]'(by omega):=by rw [Array.getElem_toList];rfl
     rw [this];exact Zmv _
 · rintro ⟨h1,h2,h3,h4⟩
   refine ⟨⟨⟨h1,h2⟩,?_⟩,fun x hx=>?_⟩
   · rw [List.head?_eq_getElem?,Zmc (by omega)]
     rw [Option.any_some,Array.getElem_toList];exact h3
   · obtain ⟨k,hk,rfl⟩:=List.getElem_of_mem hx
     have:=h4 k (by omega);rw [Array.getElem_toList];exact this
theorem Z39 {t:ByteArray} (h : ¬∃h:0<t.size,t.size≤32∧Z3d t[0]=true∧∀k,(h:k<t.size)→Z99 t[k]=true):Z15 t=false:=by
 cases e:Z15 t
 · rfl
 · exact absurd (Z7b.1 e) h
theorem Zaw (c:UInt8) (w:World):Calls Tryz.prog 142 #[.int .u8 (c.toNat:Int)] w fun e w'=>e = .returned (.bool (Z3d c))∧w=w':=by
 by_cases h1:97≤c.toNat
 · have t1:decide ((97:Int)≤(c.toNat:Int))=true:=by simp;omega
   by_cases h2:c.toNat≤122
   · have t2:decide ((c.toNat:Int)≤122)=true:=by simp;omega
     (have HF:Hid (Z3d c=true):=by simp [Hid,Z3d,h1,h2]);clear h1 h2;go_enter Tryz.func142,Tryz.ntmps142;go_wp2;go_ret;exact ⟨by rw [HF.out];rfl,rfl⟩
   · have t2:decide ((c.toNat:Int)≤122)=false:=by simp;omega
     (have HF:Hid (Z3d c=false):=by simp [Hid,Z3d,h2]);clear h1 h2;go_enter Tryz.func142,Tryz.ntmps142;go_wp2;go_ret;exact ⟨by rw [HF.out];rfl,rfl⟩
 · have t1:decide ((97:Int)≤(c.toNat:Int))=false:=by simp;omega
   (have HF:Hid (Z3d c=false):=by simp [Hid,Z3d,h1]);clear h1;go_enter Tryz.func142,Tryz.ntmps142;go_wp2;go_ret;exact ⟨by rw [HF.out];rfl,rfl⟩
theorem Zj4 (c:UInt8) (w:World):Calls Tryz.prog 96 #[.int .u8 (c.toNat:Int)] w fun e w'=>e = .returned (.bool (Z2u c))∧w=w':=by
 by_cases h1:65≤c.toNat
 · have t1:decide ((65:Int)≤(c.toNat:Int))=true:=by simp;omega
   by_cases h2:c.toNat≤90
   · have t2:decide ((c.toNat:Int)≤90)=true:=by simp;omega
     (have HF:Hid (Z2u c=true):=by simp [Hid,Z2u,h1,h2]);clear h1 h2;go_enter Tryz.func96,Tryz.ntmps96;go_wp2;go_ret;exact ⟨by rw [HF.out];rfl,rfl⟩
   · have t2:decide ((c.toNat:Int)≤90)=false:=by simp;omega
     (have HF:Hid (Z2u c=false):=by simp [Hid,Z2u,h2]);clear h1 h2;go_enter Tryz.func96,Tryz.ntmps96;go_wp2;go_ret;exact ⟨by rw [HF.out];rfl,rfl⟩
 · have t1:decide ((65:Int)≤(c.toNat:Int))=false:=by simp;omega
   (have HF:Hid (Z2u c=false):=by simp [Hid,Z2u,h1]);clear h1;go_enter Tryz.func96,Tryz.ntmps96;go_wp2;go_ret;exact ⟨by rw [HF.out];rfl,rfl⟩
theorem Zix (c:UInt8) (w:World):Calls Tryz.prog 143 #[.int .u8 (c.toNat:Int)] w fun e w'=>e = .returned (.bool (Z5x c))∧w=w':=by
 by_cases h1:48≤c.toNat
 · have t1:decide ((48:Int)≤(c.toNat:Int))=true:=by simp;omega
   by_cases h2:c.toNat≤57
   · have t2:decide ((c.toNat:Int)≤57)=true:=by simp;omega
     (have HF:Hid (Z5x c=true):=by simp [Hid,Z5x,h1,h2]);clear h1 h2;go_enter Tryz.func143,Tryz.ntmps143;go_wp2;go_ret;exact ⟨by rw [HF.out];rfl,rfl⟩
   · have t2:decide ((c.toNat:Int)≤57)=false:=by simp;omega
     (have HF:Hid (Z5x c=false):=by simp [Hid,Z5x,h2]);clear h1 h2;go_enter Tryz.func143,Tryz.ntmps143;go_wp2;go_ret;exact ⟨by rw [HF.out];rfl,rfl⟩
 · have t1:decide ((48:Int)≤(c.toNat:Int))=false:=by simp;omega
   (have HF:Hid (Z5x c=false):=by simp [Hid,Z5x,h1]);clear h1;go_enter Tryz.func143,Tryz.ntmps143;go_wp2;go_ret;exact ⟨by rw [HF.out];rfl,rfl⟩
theorem Zht (c:UInt8) (w:World):Calls Tryz.prog 144 #[.int .u8 (c.toNat:Int)] w fun e w'=>e = .returned (.bool (Z99 c))∧w=w':=by
 have HF:Hid (Z99 c=(((decide (97≤c.toNat) && decide (c.toNat≤122)) || (decide (48≤c.toNat) && decide (c.toNat≤57))) || decide (c.toNat=45) || decide (c.toNat=95))):=rfl;(have t1:decide ((97:Int)≤(c.toNat:Int))=decide (97≤c.toNat):=by apply decide_eq_decide.2;omega);(have t2:decide ((c.toNat:Int)≤122)=decide (c.toNat≤122):=by apply decide_eq_decide.2;omega);(have t3:decide ((48:Int)≤(c.toNat:Int))=decide (48≤c.toNat):=by apply decide_eq_decide.2;omega);(have t4:decide ((c.toNat:Int)≤57)=decide (c.toNat≤57):=by apply decide_eq_decide.2;omega);(have t5:((c.toNat:Int) == 45)=decide (c.toNat=45):=by rw [Zns];simp;omega);(have t6:((c.toNat:Int) == 95)=decide (c.toNat=95):=by rw [Zns];simp;omega);cases h1:decide (97≤c.toNat)<;>cases h2:decide (c.toNat≤122)<;>cases h3:decide (48≤c.toNat)<;>cases h4:decide (c.toNat≤57)<;>cases h5:decide (c.toNat=45)<;>cases h6:decide (c.toNat=95)
 all_goals
  rw [h1] at t1;rw [h2] at t2;rw [h3] at t3;rw [h4] at t4;rw [h5] at t5;rw [h6] at t6;have HF2:=HF.out;rw [h1,h2,h3,h4,h5,h6] at HF2;have HF3:=hid HF2;clear h1 h2 h3 h4 h5 h6 HF HF2;go_enter Tryz.func144,Tryz.ntmps144;go_wp2;go_ret;exact ⟨by rw [HF3.out];rfl,rfl⟩
theorem Z3p (t:ByteArray) (w:World):Calls Tryz.prog 98 #[.string t] w fun e w'=>e = .returned (.bool (Z15 t))∧w=w':=by
 by_cases h1:t.size<1
 · have t1:decide ((t.size:Int)<1)=true:=by simp;omega
   have HF:=hid (Z39 (t:=t) (fun ⟨h,_⟩=>by omega));clear h1;go_enter Tryz.func98,Tryz.ntmps98;go_wp2;go_ret;exact ⟨by rw [HF.out];rfl,rfl⟩
 (have t1:decide ((t.size:Int)<1)=false:=by simp;omega);by_cases h2:32<t.size
 · have t2:decide ((32:Int)<(t.size:Int))=true:=by simp;omega
   have HF:=hid (Z39 (t:=t) (fun ⟨h,h3,_⟩=>by omega));clear h1 h2;go_enter Tryz.func98,Tryz.ntmps98;go_wp2;go_ret;exact ⟨by rw [HF.out];rfl,rfl⟩
 (have t2:decide ((32:Int)<(t.size:Int))=false:=by simp;omega);(have h0:0<t.size:=by omega);(have h32:t.size≤32:=by omega);clear h1 h2;cases h3:Z3d t[0]
 · have HF:=hid (Z39 (t:=t) (fun ⟨h,_,h4,_⟩=>by rw [h3] at h4;cases h4))
   go_enter Tryz.func98,Tryz.ntmps98;(go_wp2_with (go_at_call 142;refine (Zaw _ _).mono ?_;rintro e w' ⟨rfl,rfl⟩));go_ret;exact ⟨by rw [HF.out];rfl,rfl⟩
 go_enter Tryz.func98,Tryz.ntmps98;(go_wp2_with (go_at_call 142;refine (Zaw _ _).mono ?_;rintro e w' ⟨rfl,rfl⟩));have H3:=hid h3;clear h3 t1 t2
 go_loop [3] (fun s=>∃i:Nat,s = .int .i64 i∧1≤i∧i≤t.size∧∀k,(h:k<t.size)→k<i→Z99 t[k]=true) (fun s=>t.size - (intOf s).toNat)
 case atStart=>exact ⟨1,rfl,Zm8 _,h0,fun k h hk=>by obtain rfl:k=0:=by omega
                                                    simp [Z99,H3.out]⟩
 case round=>
  obtain ⟨i,rfl,hi1,hi,hall⟩:=hrel;have HALL:=hid hall;clear hall;by_cases hlt:i<t.size
  · have HP:Hid (Z99 t[i]=(Z3d t[i] || Z5x t[i] || decide (t[i].toNat=45) || decide (t[i].toNat=95))):=rfl
    (have t5:((t[i].toNat:Int) != 45) = !decide (t[i].toNat=45):=by rw [Zns];simp;omega);(have t6:((t[i].toNat:Int) != 95) = !decide (t[i].toNat=95):=by rw [Zns];simp;omega);cases hs:Z3d t[i]<;>cases hd:Z5x t[i]<;>cases h5:decide (t[i].toNat=45)<;>cases h6:decide (t[i].toNat=95)
    all_goals
     rw [h5] at t5;rw [h6] at t6;simp only [Bool.not_true,Bool.not_false] at t5 t6;have HF1:=HP.out;rw [hs,hd,h5,h6] at HF1;have HF2:=hid HF1;clear h5 h6 HP HF1;go_wp2_with (first | (go_at_call 142;refine (Zaw _ _).mono ?_;rintro e w' ⟨rfl,rfl⟩) | (go_at_call 143;refine (Zix _ _).mono ?_;rintro e w' ⟨rfl,rfl⟩))
     first
      | (go_ret
         refine ⟨?_,rfl⟩
         rw [Z39 (t:=t) (fun ⟨_,_,_,h⟩=>by have h2:=h i hlt;rw [HF2.out] at h2;exact absurd h2 (by decide))];rfl)
      | (go_round
         case rel=>exact ⟨i+1,by go_num,by omega,by omega,fun k h hk=>by
          rcases Nat.lt_or_ge k i with h3 | h3
          · exact HALL.out k h h3
          · obtain rfl:k=i:=by omega
            rw [HF2.out];rfl⟩
         case measure=>simp [intOf]<;>omega)
  · have hie:i=t.size:=by omega
    subst hie;go_wp2;go_ret;exact ⟨by rw [Z7b.2 ⟨h0,h32,H3.out,fun k h=>HALL.out k h h⟩];rfl,rfl⟩
theorem Z41 (t:ByteArray) (w:World):Calls Tryz.prog 103 #[.string t] w fun e w'=>e = .returned (.bool (Z15 t))∧w=w':=by
 by_cases h1:t.size<1
 · have t1:decide ((t.size:Int)<1)=true:=by simp;omega
   have HF:=hid (Z39 (t:=t) (fun ⟨h,_⟩=>by omega));clear h1;go_enter Tryz.func103,Tryz.ntmps103;go_wp2;go_ret;exact ⟨by rw [HF.out];rfl,rfl⟩
 (have t1:decide ((t.size:Int)<1)=false:=by simp;omega);by_cases h2:32<t.size
 · have t2:decide ((32:Int)<(t.size:Int))=true:=by simp;omega
   have HF:=hid (Z39 (t:=t) (fun ⟨h,h3,_⟩=>by omega));clear h1 h2;go_enter Tryz.func103,Tryz.ntmps103;go_wp2;go_ret;exact ⟨by rw [HF.out];rfl,rfl⟩
 (have t2:decide ((32:Int)<(t.size:Int))=false:=by simp;omega);(have h0:0<t.size:=by omega);(have h32:t.size≤32:=by omega);clear h1 h2;by_cases h3:t[0].toNat<97
 · have t3:decide ((t[0].toNat:Int)<97)=true:=by simp;omega
   have HF:=hid (Z39 (t:=t) (fun ⟨h,_,h4,_⟩=>by simp [Z3d] at h4;omega));clear h3;go_enter Tryz.func103,Tryz.ntmps103;go_wp2;go_ret;exact ⟨by rw [HF.out];rfl,rfl⟩
 (have t3:decide ((t[0].toNat:Int)<97)=false:=by simp;omega);by_cases h4:122<t[0].toNat
 · have t4:decide ((122:Int)<(t[0].toNat:Int))=true:=by simp;omega
   have HF:=hid (Z39 (t:=t) (fun ⟨h,_,h4,_⟩=>by simp [Z3d] at h4;omega));clear h3 h4;go_enter Tryz.func103,Tryz.ntmps103;go_wp2;go_ret;exact ⟨by rw [HF.out];rfl,rfl⟩
 (have t4:decide ((122:Int)<(t[0].toNat:Int))=false:=by simp;omega);(have h5:Z3d t[0]=true:=by simp [Z3d];omega);have H5:=hid h5;clear h3 h4 h5;go_enter Tryz.func103,Tryz.ntmps103;go_wp2;clear t1 t2 t3 t4
 go_loop [3] (fun s=>∃i:Nat,s = .int .i64 i∧i≤t.size∧∀k,(h:k<t.size)→k<i→Z99 t[k]=true) (fun s=>t.size - (intOf s).toNat)
 case atStart=>exact ⟨0,rfl,Nat.zero_le _,fun k h hk=>by omega⟩
 case round=>
  obtain ⟨i,rfl,hi,hall⟩:=hrel;have HALL:=hid hall;clear hall;by_cases hlt:i<t.size
  · cases hp:Z99 t[i]
    · go_wp2_with (go_at_call 144;refine (Zht _ _).mono ?_;rintro e w' ⟨rfl,rfl⟩)
      go_ret;refine ⟨?_,rfl⟩;rw [Z39 (t:=t) (fun ⟨_,_,_,h⟩=>by have h2:=h i hlt;rw [hp] at h2;cases h2)];rfl
    · have HP:=hid hp
      go_wp2_with (go_at_call 144;refine (Zht _ _).mono ?_;rintro e w' ⟨rfl,rfl⟩)
      go_round
      case rel=>exact ⟨i+1,by go_num,by omega,fun k h hk=>by
              rcases Nat.lt_or_ge k i with h3 | h3
              · exact HALL.out k h h3
              · obtain rfl:k=i:=by omega
                exact HP.out⟩
      case measure=>simp [intOf]<;>omega
  · have hie:i=t.size:=by omega
    subst hie;go_wp2;go_ret;exact ⟨by rw [Z7b.2 ⟨h0,h32,H5.out,fun k h=>HALL.out k h h⟩];rfl,rfl⟩
end
end Go.Proofs.YtfidcfjcmlgkbaaGreat
