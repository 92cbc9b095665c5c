/-
  Texts put together: BkMY, KeepTexts, Ref06F, Ref06G, Ref06H.
-/
import Derived.Test.YtfidcfjcmlgkbaaGreatPMm
namespace Go.Proofs.YtfidcfjcmlgkbaaGreat
open Lib (hid)
set_option maxRecDepth 100000
set_option maxHeartbeats 32000000
set_option linter.unusedSimpArgs false
section
open Go.RowKit Go.Shelf
attribute [local go_sem] Oper.semAt_some
structure MY (n:Nat) (num level:Int) (Ae:Option Addr) (ne ce:Nat) (An:Option Addr) (nn cn gb:Nat) (Wb:World) (E:Nat→Prop) (C:Nat→Prop) (hs:List Z4y) (as_:List Z09) (Ah:Option Addr) (ch:Nat) (Aa:Option Addr) (ca:Nat) (X:World):Prop where
 el :∀k,E k→k<X.heap.size
 ho:OwnC (Z14 n) 78 C X (.slice Ah hs.length ch) hs
 ha:AIn Ah (fun j=>E j∧Wb.heap.size≤j)
 ao:X.ownsRow 0 195 7 (.slice Aa as_.length ca) as_.length (as_.flatMap Z09.cells)
 aa:AIn Aa (fun j=>(E j∧Wb.heap.size≤j)∧¬C j)
 cc :∀j,C j→E j∧j≠gb
 bx:Blk X gb 72 #[.int .i64 num,.int .i64 level,.slice Ae ne ce,.slice Ah hs.length ch,.slice Aa as_.length ca,.slice An nn cn]
 ew :∀j,j<Wb.heap.size→E j
 fr:Fr (fun k=>¬(k<Wb.heap.size∧k≠gb)) Wb X
 gl:gb<Wb.heap.size
section
variable {n:Nat}{num level:Int}{Ae:Option Addr}{ne ce:Nat}{An:Option Addr}{nn cn gb:Nat}{Wb:World}{E E':Nat→Prop}{C:Nat→Prop}{hs:List Z4y}{as_:List Z09}{Ah:Option Addr}{ch:Nat}{Aa:Option Addr}{ca:Nat}{X Y:World}
theorem Zbc {E:Nat→Prop}{X Y:World}(h :∀k,E k→k<X.heap.size) (hs:X.heap.size≤Y.heap.size):∀k,Plus E X Y k→k<Y.heap.size:=fun k hk=>hk.elim (fun hk=>Znn (h k hk) hs) (fun hk=>hk.2)
theorem MY.step (h:MY n num level Ae ne ce An nn cn gb Wb E C hs as_ Ah ch Aa ca X) (hn :∀k,E' k→k<Y.heap.size) (hE :∀k,E k→E' k) (hF:Fr (fun k=>¬E k) X Y):MY n num level Ae ne ce An nn cn gb Wb E' C hs as_ Ah ch Aa ca Y:=
 ⟨hn,h.ho.fr hF (fun k hk hn=>hn (h.cc k hk).1) (Z80 h.ha (fun _ hj hn=>hn hj.1)),h.ha.mono (fun j hj=>⟨hE j hj.1,hj.2⟩),Z15 h.ao hF (Z80 h.aa (fun _ hj hn=>hn hj.1.1)),h.aa.mono (fun j hj=>⟨⟨hE j hj.1.1,hj.1.2⟩,hj.2⟩),fun j hj=>⟨hE j (h.cc j hj).1,(h.cc j hj).2⟩,h.bx.fr hF (fun hn=>hn (h.ew gb h.gl)),fun j hj=>hE j (h.ew j hj),h.fr.trans (hF.mono (fun k _ hk hn=>hk (h.ew k hn.1))),h.gl⟩
theorem MY.new_ (h:MY n num level Ae ne ce An nn cn gb Wb E C hs as_ Ah ch Aa ca X) (hb:Below X.heap.size X Y):MY n num level Ae ne ce An nn cn gb Wb (Plus E X Y) C hs as_ Ah ch Aa ca Y:=
 h.step (Zbc h.el hb.size) (fun _ hk=>.inl hk) (Fr.of_new hb)
theorem MY.more (h:MY n num level Ae ne ce An nn cn gb Wb E C hs as_ Ah ch Aa ca X) (B:Nat) (hB:Wb.heap.size≤B) (hh:AIn Ah (· < B)) (ha:AIn Aa (· < B)):MY n num level Ae ne ce An nn cn gb Wb E (fun j=>C j∨(E j∧B≤j)) hs as_ Ah ch Aa ca X:=by
 refine ⟨h.el,h.ho.keep (Znl _) (fun k hk _=>⟨.inl hk,rfl⟩) (fun k hk=>⟨rfl,fun hc=>?_⟩),h.ha,h.ao,fun a e=>⟨(h.aa a e).1,fun hc=>?_⟩,fun j hj=>?_,h.bx,h.ew,h.fr,h.gl⟩
 · rcases hc with hc|hc
   · exact h.ho.off k hk hc
   · have:=Z80 (m:=hs.length) (c:=ch) (D:=(· < B)) (M:=fun j=>B≤j) hh (fun j hj h2=>by have hj:j<B:=hj;omega) k hk
     exact this hc.2
 · rcases hc with hc|hc
   · exact (h.aa a e).2 hc
   · have h2:a.block<B:=ha a e
     have:=hc.2;omega
 · rcases hj with hj|hj
   · exact h.cc j hj
   · exact ⟨hj.1,by have:=hj.2;have:=h.gl;omega⟩
theorem MY.low (h:MY n num level Ae ne ce An nn cn gb Wb E C hs as_ Ah ch Aa ca X):∀k,C k→k<X.heap.size:=fun k hk=>h.el k (h.cc k hk).1
theorem MY.lows (h:MY n num level Ae ne ce An nn cn gb Wb E C hs as_ Ah ch Aa ca X):AIn Ah (· < X.heap.size)∧AIn Aa (· < X.heap.size):=⟨h.ha.mono (fun j hj=>h.el j hj.1),h.aa.mono (fun j hj=>h.el j hj.1.1)⟩
theorem MY.pushH (h:MY n num level Ae ne ce An nn cn gb Wb E C hs as_ Ah ch Aa ca X){y:Z4y}{v:Value}{X1:World}(ha:Z6u (Z14 n) 78 C X (.slice Ah hs.length ch) (hs ++ [y]) v X1) :
 ∃hn A9 c9,hn=hs ++ [y]∧v = .slice A9 hn.length c9∧Blk X1 gb 72 #[.int .i64 num,.int .i64 level,.slice Ae ne ce,.slice Ah hs.length ch,.slice Aa as_.length ca,.slice An nn cn]∧MY n num level Ae ne ce An nn cn gb Wb (Plus E X (X1.setCell ⟨gb,3,none⟩ v)) C hn as_ A9 c9 Aa ca (X1.setCell ⟨gb,3,none⟩ v):=by
 obtain ⟨h1,h2,h3⟩:=ha;obtain ⟨css,hx,_,_⟩:=h.ho;have hB1:Blk X1 gb 72 #[.int .i64 num,.int .i64 level,.slice Ae ne ce,.slice Ah hs.length ch,.slice Aa as_.length ca,.slice An nn cn]:=h.bx.grown h2 (Z02 hx h.bx (by decide))
 have hne :∀k,(Value.slice Ah hs.length ch).ownBlock=some k→E k∧Wb.heap.size≤k:=fun k hk=>by
  rcases Ah with _|a
  · simp [Value.ownBlock] at hk
  · have e:a.block=k:=by simpa [Value.ownBlock] using hk
    exact e ▸ h.ha a rfl
 have hF1:Fr (fun j=>E j∧(Value.slice Ah hs.length ch).ownBlock=some j) X X1:=(Fr.refl _ X).grown h2 (fun k hk=>.inl ⟨(hne k hk).1,hk⟩);obtain ⟨A9,c9,rfl,_,_,hA⟩:=h1.form;have hF2:Fr (fun j=>j=gb∨(E j∧(Value.slice Ah hs.length ch).ownBlock=some j)) X (X1.setCell ⟨gb,3,none⟩ (.slice A9 (hs ++ [y]).length c9)):=(hF1.mono (fun k _ hk=>.inr hk)).setCell (p:=⟨gb,3,none⟩) (.inl (.inl rfl)) _;have hgE:=h.ew gb h.gl;have hFE:Fr E X (X1.setCell ⟨gb,3,none⟩ (.slice A9 (hs ++ [y]).length c9)):=hF2.mono (fun k _ hk=>hk.elim (fun e=>e ▸ hgE) (fun e=>e.1));have hCg :¬C gb:=fun hc=>(h.cc gb hc).2 rfl
 have hown :∀k,(Value.slice A9 (hs ++ [y]).length c9).ownBlock=some k→k≠gb:=fun k hk e=>by
  obtain ⟨css2,hx2,_,_⟩:=h1;exact Z02 hx2 hB1 (by decide) (e ▸ hk)
 have hlt:=h1.lt;refine ⟨_,A9,c9,rfl,rfl,hB1,Zbc h.el hFE.size,?_,fun a e=>?_,?_,h.aa.mono (fun j hj=>⟨⟨.inl hj.1.1,hj.1.2⟩,hj.2⟩),fun j hj=>⟨.inl (h.cc j hj).1,(h.cc j hj).2⟩,by simpa using hB1.set_ 3 (.slice A9 (hs ++ [y]).length c9),fun j hj=>.inl (h.ew j hj),h.fr.trans (hF2.mono (fun k _ hk hn=>?_)),h.gl⟩
 · exact h1.fr ((Fr.refl (fun j=>j=gb) X1).setCell (p:=⟨gb,3,none⟩) (.inl rfl) _) (fun k hk e=>hCg (e ▸ hk)) hown
 · subst e
   have hl:a.block<X1.heap.size:=hlt _ rfl;rcases h3 with h3|h3
   · have:=hne a.block (by rw [←h3];rfl)
     exact ⟨.inl this.1,this.2⟩
   · have e2:a.block=X.heap.size:=by simpa [Value.ownBlock] using h3
     exact ⟨.inr ⟨by omega,by simpa using hl⟩,by have:=h.fr.size;omega⟩
 · refine Z15 (Z15 h.ao hF1 (fun g hg hh=>?_)) ((Fr.refl (fun j=>j=gb) X1).setCell (p:=⟨gb,3,none⟩) (.inl rfl) _) (Z80 h.aa (fun j hj e=>by have:=hj.1.2;have:=h.gl;omega))
   exact Z69 hx h.ao (by decide) hh.2 hg
 · rcases hk with hk|hk
   · exact hn.2 hk
   · have:=(hne k hk.2).2
     have:=hn.1;omega
theorem MY.pushA (h:MY n num level Ae ne ce An nn cn gb Wb E C hs as_ Ah ch Aa ca X){ys:List Z09}{v:Value}{X1:World}(hown:X1.ownsRow 0 195 7 v (as_.length+ys.length) (as_.flatMap Z09.cells++ys.flatMap Z09.cells)) (hg:X.grownBy X1 (Value.slice Aa as_.length ca).ownBlock) (hat:v.ownBlock=(Value.slice Aa as_.length ca).ownBlock∨v.ownBlock=some X.heap.size) :
 ∃an A9 c9,an=as_++ys∧v = .slice A9 an.length c9∧Blk X1 gb 72 #[.int .i64 num,.int .i64 level,.slice Ae ne ce,.slice Ah hs.length ch,.slice Aa as_.length ca,.slice An nn cn]∧MY n num level Ae ne ce An nn cn gb Wb (Plus E X (X1.setCell ⟨gb,4,none⟩ v)) C hs an Ah ch A9 c9 (X1.setCell ⟨gb,4,none⟩ v):=by
 have hB1:Blk X1 gb 72 #[.int .i64 num,.int .i64 level,.slice Ae ne ce,.slice Ah hs.length ch,.slice Aa as_.length ca,.slice An nn cn]:=h.bx.grown hg (Z02 h.ao h.bx (by decide));obtain ⟨A9,c9,rfl,hF9,hA9,hO9⟩:=Z33 (E:=fun j=>∃a,Aa=some a∧a.block=j) (fun a ha=>⟨a,ha,rfl⟩) hown hg hat;rw [←Zny] at hO9;(have hl:(as_++ys).length=as_.length+ys.length:=by simp);rw [←hl] at hO9 ⊢;have hF2:Fr (fun j=>j=gb∨∃a,Aa=some a∧a.block=j) X (X1.setCell ⟨gb,4,none⟩ (.slice A9 (as_++ys).length c9)):=(hF9.mono (fun k _ hk=>.inr hk)).setCell (p:=⟨gb,4,none⟩) (.inl (.inl rfl)) _;have hgE:=h.ew gb h.gl;have hFE:Fr E X (X1.setCell ⟨gb,4,none⟩ (.slice A9 (as_++ys).length c9)):=hF2.mono (fun k _ hk=>hk.elim (fun e=>e ▸ hgE) (fun ⟨a,ha,e⟩=>e ▸ (h.aa a ha).1.1));have hng :∀k,(∃a,Aa=some a∧a.block=k)→¬C k:=fun k ⟨a,ha,e⟩=>e ▸ (h.aa a ha).2;have hCg :¬C gb:=fun hc=>(h.cc gb hc).2 rfl;obtain ⟨css,hx,_,_⟩:=h.ho;have hlo:=Z4p hO9;refine ⟨_,A9,c9,rfl,rfl,hB1,Zbc h.el hFE.size,?_,h.ha.mono (fun j hj=>⟨.inl hj.1,hj.2⟩),?_,fun a e=>?_,fun j hj=>⟨.inl (h.cc j hj).1,(h.cc j hj).2⟩,by simpa using hB1.set_ 4 (.slice A9 (as_++ys).length c9),fun j hj=>.inl (h.ew j hj),h.fr.trans (hF2.mono (fun k _ hk hn=>?_)),h.gl⟩
 · refine h.ho.fr hF2 (fun k hk e=>e.elim (fun e=>hCg (e ▸ hk)) (fun e=>hng k e hk)) (fun k hk e=>?_)
   rcases e with e|⟨a,ha,e⟩
   · exact Z02 hx h.bx (by decide) (e ▸ hk)
   · exact Z69 hx h.ao (by decide) hk (by rw [ha];simp [Value.ownBlock,e])
 · exact ownsRow_setCell_other (a:=⟨gb,4,none⟩) hO9 (Z02 hO9 hB1 (by decide)) _
 · have hl2:a.block<X1.heap.size:=hlo a e
   rcases hA9 a e with ⟨b,hb,e2⟩|⟨h2,_⟩
   · rw [←e2]
     exact ⟨⟨.inl (h.aa b hb).1.1,(h.aa b hb).1.2⟩,(h.aa b hb).2⟩
   · exact ⟨⟨.inr ⟨h2,by simpa using hl2⟩,by have:=h.fr.size;omega⟩,fun hc=>by have:=h.low a.block hc;omega⟩
 · rcases hk with hk|⟨a,ha,e⟩
   · exact hn.2 hk
   · have:=(h.aa a ha).1.2
     have:=hn.1;omega
end
end
section
open Go.RowKit Go.Shelf
theorem Z7u {Y:World}{t:TypeId}{cs:List Value}{k:Nat}(hk:Y.heap.size=k):∀(j:Nat) (u:Value),cs[j]? = some u→(Y.alloc (.cells cs.toArray t)).cell? ((⟨k,0,none⟩:Addr).add j)=some u:=by
 subst hk;exact Zo7 (heap_alloc_new _ _)
def strC (s:ByteArray):List Value:=[.string s]
theorem Z3l (s:ByteArray):(strC s).length=1:=rfl
theorem Z6r (l:List ByteArray):∀u∈l.flatMap strC,u.oneCell'=true:=by
 intro u hu;obtain ⟨s,_,h⟩:=List.mem_flatMap.1 hu;simp only [strC,Zo5,Zo9,or_false] at h;subst h;rfl
theorem Zb3:(Tryz.prog.info? 9).map (fun i=>(i.zero,i.size,i.bytes))=some (some (.string ⟨#[]⟩),1,16):=by kernel_rfl
def Zmz (W:World) (xs:List ByteArray) (e:Ending) (W':World):Prop:=
 ∃A c,e = .returned (.slice A xs.length c)∧W'.ownsRow 0 9 1 (.slice A xs.length c) xs.length (xs.flatMap strC)∧AIn A (W.heap.size≤·)∧Below W.heap.size W W'
theorem Zle {D:Nat→Prop}{w:World}{A:Option Addr}{c k:Nat}{l:List ByteArray}(h:RowR Z61 D w A c l) (hk:k<l.length):∃g off,A=some ⟨g,off,none⟩∧g<w.heap.size∧w.cell? ⟨g,off+k,none⟩=some (.string l[k]):=by
 obtain ⟨g,off,cs,hA,hD,hg,hr,hc⟩:=h.at_ hk;have hr2:cs = [.string l[k]]:=hr;subst hr2;exact ⟨g,off,hA,hg,by simpa [Z61,RepT.flat] using hc 0 _ rfl⟩
theorem Z4t {w:World}{A:Option Addr}{c n:Nat}{l:List ByteArray}(hn:l.length=n) (h:w.ownsRow 0 9 1 (.slice A n c) n (l.flatMap strC)):RowR Z61 (fun _=>True) w A c l:=by
 subst hn;exact RowR.of_rd (Z0d Z3l h) (fun _ _=>trivial)
def inB (l:List ByteArray) (v:ByteArray):Bool:=l.any fun s=>decide (s.toList=v.toList)
theorem Zdi {D:Nat→Prop}{A:Option Addr}{c:Nat}(l:List ByteArray) (v:ByteArray) (w:World) (h:RowR Z61 D w A c l):Calls Tryz.prog 71 #[.slice A l.length c,.string v] w fun e w'=>e = .returned (.bool (inB l v))∧w=w':=by
 have H:=hid h;have hlc:=h.cap;clear h;go_enter Tryz.func71,Tryz.ntmps71;go_wp2_with fail
 go_loopw [5] (fun s wr=>∃i:Nat,s = .int .i64 i∧i≤l.length∧(∀k,(h:k<l.length)→k<i→¬l[k].toList=v.toList)∧wr=w) (fun s wr=>l.length - (intOf s).toNat)
 case atStart=>exact ⟨0,rfl,Nat.zero_le _,fun k _ h=>absurd h (by omega),rfl⟩
 case round=>
  obtain ⟨i,rfl,hi,hall,rfl⟩:=hrel;have HALL:=hid hall;clear hall;by_cases hlt:i<l.length
  · obtain ⟨x,hx⟩:∃x,x=l[i]:=⟨_,rfl⟩
    obtain ⟨g,off,rfl,hgs,q0⟩:=Zle H.out hlt;rw [←hx] at q0;(have b1:(0:Int)≤(i:Int):=by omega);(have b2:(i:Int)<(l.length:Int):=by omega);have HX:=hid hx;clear hx;by_cases he:x.toList=v.toList
    · have t1:(x.toList == v.toList)=true:=by simp [he]
      (have t2:decide (x.toList=v.toList)=true:=by simp [he]);have HN:=hid (show inB l v=true from Zp2.2 ⟨x,by rw [HX.out];exact Zo8 hlt,t2⟩);clear he;(go_wp2_with fail);go_ret;exact ⟨by rw [HN.out];rfl,rfl⟩
    · have t1:(x.toList == v.toList)=false:=by simp [he]
      (have t2:decide (x.toList=v.toList)=false:=by simp [he]);have HE:=hid he;clear he;(go_wp2_with fail);go_roundw
      case rel=>
       refine ⟨i+1,by go_num,by omega,fun k h hk=>?_,by trivial⟩;rcases Nat.lt_or_ge k i with h3|h3
       · exact HALL.out k h h3
       · obtain rfl:k=i:=by omega
         rw [←HX.out];exact HE.out
      case measure=>simp [intOf]<;>omega
  · have hie:i=l.length:=by omega
    subst hie
    have HN:=hid (show inB l v=false by
     unfold inB;rw [List.any_eq_false];intro x hx;obtain ⟨k,hk,rfl⟩:=List.getElem_of_mem hx
     simpa using HALL.out k hk hk)
    (go_wp2_with fail);go_ret;exact ⟨by rw [HN.out];rfl,rfl⟩
end
section
open Go.RowKit Go.Shelf
attribute [local go_sem] Oper.semAt_some
theorem Zet (l:List ByteArray) (x y:ByteArray):has Z0o (put Z0o l x) y=(has Z0o l y ||(Z0o x y == 0)):=by
 rw [Zp4,Zp3,beq_iff_eq,Z3q];unfold put
 split
 · rename_i h
   constructor
   · exact .inl
   · rintro (h2|rfl)
     · exact h2
     · exact h
 · rw [Z6n,Z6n]
   constructor
   · rintro ⟨z,hz,e⟩
     rcases Zoz.1 hz with hz|hz
     · exact .inl ⟨z,(Z4m.1 hz).1,e⟩
     · rcases Zo5.1 hz with rfl|hz
       · exact .inr (Z3q.1 e)
       · exact .inl ⟨z,(Z4l.1 hz).1,e⟩
   · rintro (⟨z,hz,e⟩|rfl)
     · refine ⟨z,?_,e⟩
       rcases Int.lt_trichotomy (Z0o z x) 0 with h1|h1|h1
       · exact Zoz.2 (.inl (Z4m.2 ⟨hz,h1⟩))
       · rw [Z3q] at h1;subst h1;simp
       · exact Zoz.2 (.inr (Zo5.2 (.inr (Z4l.2 ⟨hz,h1⟩))))
     · exact ⟨x,by simp,Z3q.2 rfl⟩
def KRel (K:Kn) (l:List ByteArray):Prop:=∀v,hasK K v=inB l v
theorem KRel.inner {K:Kn}{l:List ByteArray}(h:KRel K l):KRel (K.1,[]) l:=h
theorem KRel.nil:KRel ([],[]) []:=fun _=>rfl
theorem KRel.met {K:Kn}{l:List ByteArray}(h:KRel K l) (v:ByteArray):KRel (metK K v) (l ++ [v]):=fun u=>by
 show has Z0o (put Z0o K.1 v) u=_;rw [Zet,show has Z0o K.1 u=inB l u from h u];unfold inB;rw [List.any_append];congr 1;rw [Zp4,beq_iff_eq,Z3q];simp only [List.any_cons,List.any_nil,Bool.or_false,Zp0];exact ⟨fun e=>by rw [e],fun e=>toList_inj e⟩
theorem KRel.again {K:Kn}{l:List ByteArray}(h:KRel K l){v:ByteArray}(hv:inB l v=true):KRel (metK K v) l:=fun u=>by
 show has Z0o (put Z0o K.1 v) u=_;have:put Z0o K.1 v=K.1:=if_pos ((h v).trans hv);rw [this];exact h u
theorem Z64 :∀(k:Kn) (a b:List Z1r),Z0u k (a++b)=if (Z0u k a).1=true then Z0u (Z0u k a).2 b else (false,(Z0u k a).2)
 | k,[],b=>by simp [Z0u]
 | k,t :: a,b=>by
   rw [Zog,Z2e,Z2e]
   split
   · exact Z64 k a b
   · split
     · exact Z64 _ a b
     · split
       · exact Z64 k a b
       · rfl
theorem Z8u (k:Kn) (c:Z0a):oneK k c=if hasK (if c.goal=true then metK k c.id else k) c.id=true then ((Z0u (if c.goal=true then metK k c.id else k) (c.attr++c.value)).1,(Z0u (if c.goal=true then metK k c.id else k) (c.attr++c.value)).2) else (false,if c.goal=true then metK k c.id else k):=by
 unfold oneK;dsimp only;generalize (if c.goal=true then metK k c.id else k)=k1;by_cases h:hasK k1 c.id=true
 · rw [if_pos h,if_pos h,Z64]
   cases hf:Z0u k1 c.attr with
   | mk b k2=>cases b<;>simp
 · rw [if_neg h,if_neg h]
theorem Z6q {D:Nat→Prop}{A:Option Addr}{c:Nat}(l:List ByteArray) (v:ByteArray) (w:World) (h:RowR Z61 D w A c l):Calls Tryz.prog 129 #[.slice A l.length c,.string v] w fun e w'=>e = .returned (.bool (inB l v))∧w=w':=by
 have H:=hid h;have hlc:=h.cap;clear h;go_enter Tryz.func129,Tryz.ntmps129;go_wp2_with fail
 go_loopw [5] (fun s wr=>∃i:Nat,s = .int .i64 i∧i≤l.length∧(∀k,(h:k<l.length)→k<i→¬l[k].toList=v.toList)∧wr=w) (fun s wr=>l.length - (intOf s).toNat)
 case atStart=>exact ⟨0,rfl,Nat.zero_le _,fun k _ h=>absurd h (by omega),rfl⟩
 case round=>
  obtain ⟨i,rfl,hi,hall,rfl⟩:=hrel;have HALL:=hid hall;clear hall;by_cases hlt:i<l.length
  · obtain ⟨x,hx⟩:∃x,x=l[i]:=⟨_,rfl⟩
    obtain ⟨g,off,rfl,hgs,q0⟩:=Zle H.out hlt;rw [←hx] at q0;(have b1:(0:Int)≤(i:Int):=by omega);(have b2:(i:Int)<(l.length:Int):=by omega);have HX:=hid hx;clear hx;by_cases he:x.toList=v.toList
    · have t1:(x.toList == v.toList)=true:=by simp [he]
      (have t2:decide (x.toList=v.toList)=true:=by simp [he]);have HN:=hid (show inB l v=true from Zp2.2 ⟨x,by rw [HX.out];exact Zo8 hlt,t2⟩);clear he;(go_wp2_with fail);go_ret;exact ⟨by rw [HN.out];rfl,rfl⟩
    · have t1:(x.toList == v.toList)=false:=by simp [he]
      (have t2:decide (x.toList=v.toList)=false:=by simp [he]);have HE:=hid he;clear he;(go_wp2_with fail);go_roundw
      case rel=>
       refine ⟨i+1,by go_num,by omega,fun k h hk=>?_,by trivial⟩;rcases Nat.lt_or_ge k i with h3|h3
       · exact HALL.out k h h3
       · obtain rfl:k=i:=by omega
         rw [←HX.out];exact HE.out
      case measure=>simp [intOf]<;>omega
  · have hie:i=l.length:=by omega
    subst hie
    have HN:=hid (show inB l v=false by
     unfold inB;rw [List.any_eq_false];intro x hx;obtain ⟨k,hk,rfl⟩:=List.getElem_of_mem hx
     simpa using HALL.out k hk hk)
    (go_wp2_with fail);go_ret;exact ⟨by rw [HN.out];rfl,rfl⟩
theorem Zmo {D:Nat→Prop}{A:Option Addr}{c:Nat}(a:Z2o) (K:Kn) (l:List ByteArray) (w:World) (h:RowR Z61 D w A c l) (hk:KRel K l):Calls Tryz.prog 79 #[.agg #[.string a.var,.int .i64 a.sym.kind,.string a.sym.text,.int .i64 a.sym.n],.slice A l.length c] w fun e w'=>e = .returned (.bool (!Z34 K a))∧Below w.heap.size w w':=by
 have H:=hid h;have HK:=hid hk;have hlc:=h.cap;clear h hk;by_cases hv:a.var.toList = []
 · skip
   (have va:(a.var.toList == [])=true:=by simp [hv]);(have vb:a.var.toList.isEmpty=true:=by simp [hv]);(have vc:decide (a.var.toList = [])=true:=by simp [hv]);have HR:=hid (show Z34 K a=false by simp [Z34,hv]);clear hv;go_enter Tryz.func79,Tryz.ntmps79;(go_upto_region 1 with fail);obtain ⟨w1,hw1⟩:∃w1,w1=(w.alloc (.cells #[.string a.var,.int .i64 a.sym.kind,.string a.sym.text,.int .i64 a.sym.n] 91)):=⟨_,rfl⟩;rw [←hw1];have HB:=hid (show Below w.heap.size w w1 by rw [hw1];exact (by repeat (first|exact Znk _ _|refine Below.drew ?_|refine Below.al ?_ _|refine Below.sc ?_ _)));have Ka:=hid (show Blk w1 (w.heap.size) 91 #[.string a.var,.int .i64 a.sym.kind,.string a.sym.text,.int .i64 a.sym.n] by rw [hw1];exact (Blk.new w 91 #[.string a.var,.int .i64 a.sym.kind,.string a.sym.text,.int .i64 a.sym.n]));clear hw1;obtain ⟨a0,a1,a2,a3⟩:=Ka.out.c4;have az:=Ka.out.lt;(go_wp2_with fail);go_ret;exact ⟨by rw [HR.out]<;>rfl,by (repeat (first|exact Znk _ _|exact HB.out|refine Below.drew ?_|refine Below.al ?_ _|refine Below.sc ?_ _))⟩
 · skip
   (have va:(a.var.toList == [])=false:=by simp [hv]);(have vb:a.var.toList.isEmpty=false:=by simp [hv]);(have vc:decide (a.var.toList = [])=false:=by simp [hv]);have HR:=hid (show (!Z34 K a)=inB l a.var by rw [←HK.out a.var];simp [Z34,hv]);clear hv;go_enter Tryz.func79,Tryz.ntmps79;(go_upto_region 1 with fail);obtain ⟨w1,hw1⟩:∃w1,w1=(w.alloc (.cells #[.string a.var,.int .i64 a.sym.kind,.string a.sym.text,.int .i64 a.sym.n] 91)):=⟨_,rfl⟩;rw [←hw1];have HB:=hid (show Below w.heap.size w w1 by rw [hw1];exact (by repeat (first|exact Znk _ _|refine Below.drew ?_|refine Below.al ?_ _|refine Below.sc ?_ _)));have Ka:=hid (show Blk w1 (w.heap.size) 91 #[.string a.var,.int .i64 a.sym.kind,.string a.sym.text,.int .i64 a.sym.n] by rw [hw1];exact (Blk.new w 91 #[.string a.var,.int .i64 a.sym.kind,.string a.sym.text,.int .i64 a.sym.n]));clear hw1;obtain ⟨a0,a1,a2,a3⟩:=Ka.out.c4;have az:=Ka.out.lt;obtain ⟨b,hb⟩:∃b,b=inB l a.var:=⟨_,rfl⟩;have hc:=fun W (hb:Below w.heap.size w W)=>Z6q l a.var W (H.out.new_ hb);rw [←hb] at HR;simp only [←hb] at hc;have HC:=hid hc;clear hc hb;(go_wp2_with fail);(with_reducible refine (HC.out _ (by (repeat (first|exact Znk _ _|exact HB.out|refine Below.drew ?_|refine Below.al ?_ _|refine Below.sc ?_ _)))).mono ?_);rintro e w0 ⟨rfl,rfl⟩;(go_wp2_with fail);go_ret;exact ⟨by rw [HR.out]<;>rfl,by (repeat (first|exact Znk _ _|exact HB.out|refine Below.drew ?_|refine Below.al ?_ _|refine Below.sc ?_ _))⟩
abbrev V6:={cs:List Value // cs.length=6∧∀u∈cs,u.oneCell'=true}
theorem Z44 (v:V6):(v.1).length=6:=v.2.1
theorem Z8d (l:List V6):∀u∈l.flatMap (·.1),u.oneCell'=true:=fun u hu=>by
 obtain ⟨v,_,h⟩:=List.mem_flatMap.1 hu;exact v.2.2 u h
def Raw6 (l:List Z1r) (xs:List V6):Prop:=xs.map (fun v=>(v.1[0]?,v.1[1]?))=l.map (fun t=>(some (Value.int .i64 t.rel),some (Value.string t.var)))
theorem Raw6.app {l m:List Z1r}{xs ys:List V6}(h1:Raw6 l xs) (h2:Raw6 m ys):Raw6 (l++m) (xs++ys):=by
 unfold Raw6 at *;rw [Zop,Zop,h1,h2]
theorem Raw6.len {l:List Z1r}{xs:List V6}(h:Raw6 l xs):xs.length=l.length:=by
 have:=congrArg List.length h;simpa using this
theorem Raw6.get {l:List Z1r}{xs:List V6}(h:Raw6 l xs){k:Nat}(hk:k<l.length) (hk2:k<xs.length):xs[k].1[0]? = some (.int .i64 l[k].rel)∧xs[k].1[1]? = some (.string l[k].var):=by
 have:=congrArg (·[k]?) h;simp only [List.getElem?_map,Znq hk,Znq hk2,Zo1,Option.some.injEq,Prod.mk.injEq] at this;exact this
theorem Z79 {D:Nat→Prop}{w:World}{A:Option Addr}{c:Nat}{l:List Z1r}(h:RowR Z03 D w A c l):∃xs:List V6,Raw6 l xs∧Z0z w 6 (·.1) A c xs:=by
 by_cases h0:0<l.length
 · obtain ⟨b,off,hA,_,hb,hall⟩:=h.2.2 h0
   have hex :∀i:Fin l.length,∃v:V6,v.1[0]? = some (.int .i64 l[i].rel)∧v.1[1]? = some (.string l[i].var)∧∀j u,v.1[j]? = some u→w.cell? ⟨b,off+i*6+j,none⟩=some u:=fun i=>by
    obtain ⟨cs,⟨A1,c1,hcs,_⟩,hc⟩:=hall i i.2;subst hcs;refine ⟨⟨_,by rfl,by simp [Value.oneCell']⟩,rfl,rfl,fun j u hu=>hc j u hu⟩
   refine ⟨List.ofFn fun i=>Classical.choose (hex i),?_,?_⟩
   · unfold Raw6
     apply List.ext_getElem
     · simp
     · intro k hk hk2
       simp only [Zp1,List.length_ofFn] at hk;simp only [List.getElem_map,List.getElem_ofFn];obtain ⟨g1,g2,_⟩:=Classical.choose_spec (hex ⟨k,hk⟩);rw [g1,g2];rfl
   · refine ⟨by simpa using h.1,h.2.1,fun _=>⟨b,off,hA,hb,fun k hk j u hu=>?_⟩⟩
     simp only [List.length_ofFn] at hk;simp only [List.getElem_ofFn] at hu;exact (Classical.choose_spec (hex ⟨k,hk⟩)).2.2 j u hu
 · have:l = []:=Zok.1 (by omega)
   subst this;exact ⟨[],rfl,by simp,h.2.1,fun h=>absurd h (by simp)⟩
theorem Zfe {t:Z1r}(h:Z1a t=true) (h8:t.rel=8):t.var.toList = []:=by
 unfold Z1a at h;rw [if_pos h8] at h;simp only [Zod,Zp0] at h;exact h.1.1.1.1
theorem Zhn:(Tryz.prog.info? 138).map (fun i=>(i.zero,i.size,i.bytes))=some (some (.agg #[.int .i64 0,.string ⟨#[]⟩,.int .i64 0,.string ⟨#[]⟩,.int .i64 0,.slice none 0 0]),6,80):=by kernel_rfl
theorem Zfa {w:World}{A:Option Addr}{c n:Nat}{l:List V6}(hn:l.length=n) (h:w.ownsRow 0 138 6 (.slice A n c) n (l.flatMap (·.1))):Z0z w 6 (fun v:V6=>v.1) A c l:=by
 subst hn;exact Z0d Z44 h
theorem Zkk {w V:World}{A:Option Addr}{c:Nat}{l:List Z1r}{xs:List V6}(h:Raw6 l xs) (hd:Z0z w 6 (fun v:V6=>v.1) A c xs) (hb:Below w.heap.size w V):0<l.length→∃ad,A=some ad∧∀j u,(xs.flatMap (·.1))[j]? = some u→V.cell? (ad.add j)=some u:=by
 intro h0;exact (hd.new_ hb).news Z44 (by decide) (by rw [h.len];exact h0)
def Zmx (K:Kn) (x:Z0a) (n:Nat) (w:World) (e:Ending) (w':World):Prop:=
 ∃A c out,e = .returned (.tuple #[.slice A out.length c,.bool (oneK K x).1])∧Below w.heap.size w w'∧((oneK K x).1=true→KRel (oneK K x).2 out∧RowR Z61 (fun _=>True) w' A c out∧out.length≤n+1+x.attr.length+x.value.length)
theorem Zmm {D D':Nat→Prop}(x:Z0a) (K:Kn) (known:List ByteArray) (A1 A2 A3 A:Option Addr) (c1 c2 c3 c:Nat) (w:World) (h1:RowR Z03 D w A1 c1 x.attr) (h2:RowR Z03 D w A2 c2 x.value) (h:RowR Z61 D' w A c known) (hk:KRel K known)
 (ht :∀t∈x.attr++x.value,Z1a t=true) (ha:x.attr.length≤4) (hv:x.value.length≤4) (hl:known.length≤100000) :
 Calls Tryz.prog 128 #[.agg #[.int .i64 x.kind,.bool x.goal,.string x.id,.slice A1 x.attr.length c1,.slice A2 x.value.length c2,.bool x.acc,.slice A3 x.conds.length c3],.slice A known.length c] w (Zmx K x known.length w):=by
 obtain ⟨xs1,hr1,hd1⟩:=Z79 h1;obtain ⟨xs2,hr2,hd2⟩:=Z79 h2;obtain ⟨i0,hi0,hz0,hz1,hz2⟩:=info_parts Zb3;obtain ⟨j0,hj0,hy0,hy1,hy2⟩:=info_parts Zhn;have HR1:=hid hr1;have HD1:=hid hd1;have HR2:=hid hr2;have HD2:=hid hd2;have HH:=hid h;have HK:=hid hk;have HTT:=hid ht;clear hr1 hd1 hr2 hd2 h1 h2 h hk ht;go_enter Tryz.func128,Tryz.ntmps128;(go_upto_region 1 with fail);obtain ⟨w1,hw1⟩:∃w1,w1=(w.alloc (.cells #[.int .i64 x.kind,.bool x.goal,.string x.id,.slice A1 x.attr.length c1,.slice A2 x.value.length c2,.bool x.acc,.slice A3 x.conds.length c3] 59)):=⟨_,rfl⟩;rw [←hw1];have HB:=hid (show Below w.heap.size w w1 by rw [hw1];exact (by repeat (first|exact Znk _ _|refine Below.drew ?_|refine Below.al ?_ _|refine Below.sc ?_ _)));have Kx:=hid (show Blk w1 (w.heap.size) 59 #[.int .i64 x.kind,.bool x.goal,.string x.id,.slice A1 x.attr.length c1,.slice A2 x.value.length c2,.bool x.acc,.slice A3 x.conds.length c3] by rw [hw1];exact (Blk.new w 59 #[.int .i64 x.kind,.bool x.goal,.string x.id,.slice A1 x.attr.length c1,.slice A2 x.value.length c2,.bool x.acc,.slice A3 x.conds.length c3]));clear hw1;obtain ⟨x0,x1,x2,x3,x4,x5,x6⟩:=Kx.out.c7;have xz:=Kx.out.lt;have hxz:=xz;have HXZ:=hid hxz;have HXZ2:=hid (show w1.heap.size≤w1.heap.size from Znl _);clear hxz;(go_upto_region 2 with (at_builtin;refine Z00 w1 rfl (.const (.slice none 0 0)) (.tmp 9) 114 rfl 9 i0 _ 1 16 Tryz.underlying114 hi0 hz0 hz1 hz2 rfl (by decide) (.slice none 0 0) 0 [] rfl (Z68 _ _ _ _) A known.length c (known.flatMap strC) rfl (Z08 Z3l known) ((HH.out.new_ HB.out).rd.news Z3l (by decide)) (Z6r known) (by unfold maxLen;omega) (by omega) ?_;intro v' w2 hown hg hnil hat;obtain ⟨A0,c0,rfl,hF0,hA0,hO0⟩:=Z33 (E:=fun _=>False) (AIn.none_ _) hown hg hat;rw [Zoa,Zo3] at hO0;simp only [Zoa];have HO1:=hid hO0;have HFA:=hid hF0;have HAI:=hid (show AIn A0 (w1.heap.size≤·) from hA0.mono (fun j hj=>by rcases hj with h|h;exact h.elim;exact h.1));clear hown hg hnil hat hF0 hA0 hO0));have hb:=HFA.out.below (Znl _) (fun _ _ h=>h);have HB12:=hid hb;have Kx:=hid (Kx.out.new_ hb);have HB:=hid (HB.out.trans (hb.mono HB.out.size));clear x0 x1 x2 x3 x4 x5 x6 xz hb;obtain ⟨x0,x1,x2,x3,x4,x5,x6⟩:=Kx.out.c7;have xz:=Kx.out.lt;cases hin:inB known x.id
 · skip
   have hc:=Z6q known x.id w2 (Z4t rfl HO1.out);simp only [hin] at hc;have HC:=hid hc;clear hc;(go_wp2_with fail);(with_reducible refine (HC.out).mono ?_);rintro e w0 ⟨rfl,rfl⟩;cases hgo:x.goal
   · skip
     have HF:=hid (show (oneK K x).1=false by rw [Z8u,hgo];simp only [Bool.false_eq_true,if_false];rw [if_neg (by rw [HK.out x.id,hin];simp)]);clear hin;(go_wp2_with fail);exact bodyPost_ret (v:=.tuple #[.slice none 0 0,.bool false]) (by simp [results,Tryz.results128,go_sem, *]) rfl ⟨none,0,[],by rw [HF.out];rfl,by (repeat (first|exact Znk _ _|exact HB.out|refine Below.drew ?_|refine Below.al ?_ _|refine Below.sc ?_ _)),fun h=>absurd h (by rw [HF.out];simp)⟩
   · skip
     have HON:=hid (show oneK K x=Z0u (metK K x.id) (x.attr++x.value) by rw [Z8u,hgo];simp only [if_true];rw [if_pos (by rw [(HK.out.met x.id) x.id];simp [inB])]);have HKR:=hid (HK.out.met x.id);clear hin;obtain ⟨Y9,hY9⟩:∃Y9,Y9=w2.alloc (.cells #[.string x.id] 9):=⟨_,rfl⟩;(have hb9:Below w2.heap.size w2 Y9:=by rw [hY9];exact (Znk _ _).alloc (Znl _) _);have HY9:=hid hY9;have HB9:=hid hb9;have HO9:=hid (Z05 HO1.out hb9);have HN9:=hid (show ∀(j:Nat) (u:Value),(strC x.id)[j]? = some u→Y9.cell? ((⟨w2.heap.size,0,none⟩:Addr).add j)=some u by rw [hY9];exact Z7u rfl);clear hY9 hb9;(go_upto_region 6 with (at_builtin;rw [←HY9.out];refine Z00 Y9 rfl (.tmp 19) (.tmp 22) 114 rfl 9 i0 _ 1 16 Tryz.underlying114 hi0 hz0 hz1 hz2 rfl (by decide) _ known.length (known.flatMap strC) rfl HO9.out _ 1 1 (strC x.id) rfl rfl (fun _=>⟨_,rfl,HN9.out⟩) (by intro u hu;simp only [strC,Zo5,Zo9,or_false] at hu;subst hu;rfl) (by unfold maxLen;omega) (by omega) ?_;intro v' w3 hown hg hnil hat;obtain ⟨A8,c8,rfl,hF8,hA8,hO8⟩:=Z33 (E:=fun k=>∃a,A0=some a∧a.block=k) (fun a ha=>⟨a,ha,rfl⟩) hown hg hat;have HF8:=hid hF8;have HA8:=hid hA8;have HO8:=hid hO8;clear hown hg hnil hat hF8 hA8 hO8));(have hl9:Y9.heap.size=w2.heap.size+1:=by rw [HY9.out];simp);have Kx:=hid ((Kx.out.new_ HB9.out).fr HF8.out (fun hn=>by obtain ⟨a,ha,h9⟩:=hn;have:=HAI.out a ha;have:=HXZ.out;omega));have HBw:=hid (show Below w.heap.size w w3 from (HB.out.trans (HB9.out.mono HB.out.size)).trans (HF8.out.below (by have:=HB.out.size;omega) (fun j hj hn=>by obtain ⟨a,ha,h9⟩:=hn;have:=HAI.out a ha;have:=HXZ.out;omega)));have HB:=HBw
     have HAI3:=hid (show AIn A8 (w1.heap.size≤·) from HA8.out.mono (fun j hj=>by
      have:=HB12.out.size;rcases hj with ⟨a,ha,rfl⟩|h
      · exact HAI.out a ha
      · have:=h.1;omega))
     have HO3:=hid (show w3.ownsRow 0 9 1 (.slice A8 (known ++ [x.id]).length c8) (known ++ [x.id]).length ((known ++ [x.id]).flatMap strC) by
      rw [Zny,Znp];simpa [strC] using HO8.out)
     (have hole:(known ++ [x.id]).length≤known.length+1:=by simp);obtain ⟨o1,ho1⟩:∃o1,o1=known ++ [x.id]:=⟨_,rfl⟩;obtain ⟨K1,hK1⟩:∃K1,K1=metK K x.id:=⟨_,rfl⟩;(have hlx:known.length+1=o1.length:=by rw [ho1];simp);rw [←ho1] at HO3 hole HKR;rw [←hK1] at HKR HON;rw [hlx];clear ho1 hK1 hlx;obtain ⟨x0,x1,x2,x3,x4,x5,x6⟩:=Kx.out.c7;have xz:=Kx.out.lt;(have hw1V:w1.heap.size≤w3.heap.size:=by have:=HB12.out.size;have:=HF8.out.size;omega);have HB6:=HB;have hsV:=HB.out.size;have HV1:=hid (Zkk (V:=w3.drew) HR1.out HD1.out HB.out.drew);have HL1:=hid (show (xs1.flatMap (·.1)).length=x.attr.length*6 by rw [Z08 Z44,HR1.out.len]);have HL2:=hid (show (xs2.flatMap (·.1)).length=x.value.length*6 by rw [Z08 Z44,HR2.out.len]);refine Z0c (fun w9=>Below w3.heap.size w3 w9) [(0,0),(1,1),(3,0),(4,1),(2,2),(5,2),(6,0)] (by kernel_rfl) (by kernel_rfl) (fun KK hKK=>?_);simp only [Z0w,Znz,Znt,Znv,Znr,Zns,Zo1];(repeat ((first|(refine Z0m ?_ (Or.inl ⟨by rfl,fun w9=>?_⟩) ?_;rotate_left 1;go_simp;with_reducible rfl)|(refine Z0k ?_ (((Znk _ w3).drew)) (Or.inl ⟨by rfl,fun w9 hw9=>?_⟩) ?_;rotate_left 1;have hc9a:=hw9.cell (p:=⟨w.heap.size,3,none⟩) xz;have hc9b:=hw9.cell (p:=⟨w.heap.size,4,none⟩) xz;go_simp;with_reducible rfl)|refine Z0m undef (Or.inr ⟨by rfl,rfl⟩) ?_|refine Z0k undef (((Znk _ w3).drew)) (Or.inr ⟨by rfl,rfl⟩) ?_);go_frame));refine Z2j (fun K9 hK9=>?_);refine Z0f _ (by rfl) _ _ _ (by rfl) 138 j0 _ 6 80 Tryz.underlying57 hj0 hy0 hy1 hy2 rfl (by decide) (.slice none 0 0) 0 [] (by rfl) (Z68 _ 0 _ _) A1 x.attr.length c1 (xs1.flatMap (·.1)) (by rfl) HL1.out HV1.out (Z8d xs1) (by unfold maxLen;omega) (by omega) ?_;intro v10 w10 hown hgr hnil hat;refine hK9 _ _ (((Znk _ _).drew).grown hgr (by simp) (fun k hk=>by simp [Value.ownBlock] at hk)) ?_;clear hK9 K9;rw [Zoa,Zo3] at hown;obtain ⟨ia,ic,rfl,_,_,_⟩:=Z0v hown;have HB10:=hid (show Below w3.heap.size w3 w10 from ((Znk _ _).drew).grown hgr (by simp) (fun k hk=>by simp [Value.ownBlock] at hk));have HO10:=hid hown;have HAT10:=hid hat;clear hown hgr hnil hat;refine Z1y (by kernel_rfl) (fun K9 hK9=>?_);refine Z0f _ (by rfl) _ _ _ (by rfl) 138 j0 _ 6 80 Tryz.underlying57 hj0 hy0 hy1 hy2 rfl (by decide) (.slice ia x.attr.length ic) x.attr.length (xs1.flatMap (·.1)) (by rfl) HO10.out A2 x.value.length c2 (xs2.flatMap (·.1)) (by rfl) HL2.out (Zkk HR2.out HD2.out (HB6.out.trans (HB10.out.mono hsV))) (Z8d xs2) (by unfold maxLen;omega) (by omega) ?_;intro v11 w11 hown hgr hnil hat;refine hK9 _ _ ?_;clear hK9 K9;obtain ⟨ib,ic2,rfl,_,_,_⟩:=Z0v hown;have HG11:=hid hgr;have HAT11:=hid hat;have HO11:=hid hown;clear hown hgr hnil hat;repeat ((first|(refine Z0m ?_ (Or.inl ⟨by rfl,fun w9=>?_⟩) ?_;rotate_left 1;go_simp;with_reducible rfl)|(refine Z0k ?_ (HB10.out) (Or.inl ⟨by rfl,fun w9 hw9=>?_⟩) ?_;rotate_left 1;have hc9a:=hw9.cell (p:=⟨w.heap.size,3,none⟩) xz;have hc9b:=hw9.cell (p:=⟨w.heap.size,4,none⟩) xz;go_simp;with_reducible rfl)|refine Z0m undef (Or.inr ⟨by rfl,rfl⟩) ?_|refine Z0k undef (HB10.out) (Or.inr ⟨by rfl,rfl⟩) ?_);go_frame)
     refine Z16 ?_;simp only [Z04];refine hKK _ _ ?_;clear hKK KK
     have hob :∀k,(Value.slice ia x.attr.length ic).ownBlock=some k→w3.heap.size≤k:=by
      intro k hk;have e9:w3.drew.heap.size=w3.heap.size:=rfl;rcases HAT10.out with h|h
      · rw [h] at hk;simp [Value.ownBlock] at hk
      · rw [h] at hk;simp at hk;omega
     have HB11:=hid (show Below w3.heap.size w3 w11 from HB10.out.grown HG11.out HB10.out.size hob)
     have HIB:=hid (show ∀a,ib=some a→w3.heap.size≤a.block by
      intro a ha;(have hk:(Value.slice ib (x.attr.length+x.value.length) ic2).ownBlock=some a.block:=by rw [ha];rfl);rcases HAT11.out with h|h
      · exact hob _ (h.symm.trans hk)
      · have:=HB10.out.size
        rw [h] at hk;simp at hk;omega)
     obtain ⟨ts,hts⟩:∃ts,ts=x.attr++x.value:=⟨_,rfl⟩;(have hlts:x.attr.length+x.value.length=ts.length:=by rw [hts];simp);have HRT:=hid (show Raw6 ts (xs1++xs2) by rw [hts];exact HR1.out.app HR2.out);have HROW:=hid (Zfa (l:=xs1++xs2) (n:=x.attr.length+x.value.length) (by rw [HRT.out.len];exact hlts.symm) (by rw [Zny];exact HO11.out));have HTS:=hid (show ∀t∈ts,Z1a t=true by rw [hts];exact HTT.out);rw [←hts] at HON;(have hab:ts.length≤8:=by omega);have HOV:=hid (Z05 HO3.out HB11.out);have HAV:=hid (show AIn A8 (fun j=>w1.heap.size≤j∧∀a,ib=some a→a.block≠j) from fun a ha=>⟨HAI3.out a ha,fun a2 h2 e=>by have:=Z9i HO3.out a ha;have:=HIB.out a2 h2;omega⟩);have HBV:=hid (HB.out.trans (HB11.out.mono HB.out.size));rw [hlts];clear hob hts;(go_wp2_with fail);clear x0 x1 x2 x3 x4 x5 x6 xz
     go_loopw [6,8] (fun so si wr=>∃(k:Nat) (Ao:Option Addr) (co:Nat) (o:List ByteArray) (K':Kn),si = .int .i64 k∧so = .slice Ao o.length co∧k≤ts.length∧Z0u K1 ts=Z0u K' (ts.drop k)∧KRel K' o∧o.length≤o1.length+k∧wr.ownsRow 0 9 1 (.slice Ao o.length co) o.length (o.flatMap strC)∧AIn Ao (fun j=>w1.heap.size≤j∧∀a,ib=some a→a.block≠j)∧Z0z wr 6 (fun v:V6=>v.1) ib ic2 (xs1++xs2)∧Below w.heap.size w wr∧w1.heap.size≤wr.heap.size) (fun so si wr=>ts.length - (intOf si).toNat)
     case atStart=>exact ⟨0,A8,c8,o1,K1,rfl,rfl,Nat.zero_le _,by rw [List.drop_zero],HKR.out,by omega,HOV.out,HAV.out,HROW.out,HBV.out,by have:=HB11.out.size;omega⟩
     case round=>
      obtain ⟨k,Ao,co,o,K',rfl,rfl,hk,hfe,hkr,hol,hor,hao,hrow,hbw,hw1r⟩:=hrel;have HFE:=hid hfe;have HKR2:=hid hkr;have HOR:=hid hor;have HAO:=hid hao;have HROW2:=hid hrow;have HB:=hid hbw;clear hfe hkr hor hao hrow hbw;by_cases hlt:k<ts.length
      · skip
        obtain ⟨t,ht⟩:∃t,t=ts[k]:=⟨_,rfl⟩;(have hlx:k<(xs1++xs2).length:=by rw [HRT.out.len];exact hlt);obtain ⟨g,off,hib,hg,hc⟩:=HROW2.out.at_ hlx;obtain ⟨g0,g1⟩:=HRT.out.get hlt hlx;rw [←ht] at g0 g1;(have q0:wr.cell? ⟨g,off+k*6,none⟩=some (.int .i64 t.rel):=by simpa using hc 0 _ g0);have q1:wr.cell? ⟨g,off+k*6+1,none⟩=some (.string t.var):=hc 1 _ g1;have HIBG:=hid hib;have HST:=hid (show Z0u K1 ts=if t.rel=8∨t.var.toList = [] then Z0u K' (ts.drop (k+1)) else if t.rel=1 then Z0u (metK K' t.var) (ts.drop (k+1)) else if hasK K' t.var=true then Z0u K' (ts.drop (k+1)) else (false,K') by rw [HFE.out,Z70 hlt,Z2e,←ht]);have HN8:=hid (show ¬t.var.toList = []→¬(t.rel=8∨t.var.toList = []) from fun h1 h2=>h2.elim (fun h8=>h1 (Zfe (HTS.out t (by rw [ht];exact Zo8 hlt)) h8)) h1);(have b1:(0:Int)≤(k:Int):=by omega);(have b2:(k:Int)<(ts.length:Int):=by omega);subst hib;clear ht hlx hc g0 g1;by_cases hve:t.var.toList = []
        · skip
          (have vaa:(t.var.toList == [])=true:=by simp [hve]);(have vab:t.var.toList.isEmpty=true:=by simp [hve]);(have vac:decide (t.var.toList = [])=true:=by simp [hve]);have HF:=hid (show Z0u K1 ts=Z0u K' (ts.drop (k+1)) by rw [HST.out,if_pos (.inr hve)]);clear hve;(go_wp2_with fail);go_roundw
          case rel=>exact ⟨k+1,Ao,co,o,K',by go_num,rfl,by omega,HF.out,HKR2.out,by omega,HOR.out,HAO.out,HROW2.out,HB.out,hw1r⟩
          case measure=>simp [intOf]<;>omega
        · skip
          (have vaa:(t.var.toList == [])=false:=by simp [hve]);(have vab:t.var.toList.isEmpty=false:=by simp [hve]);(have vac:decide (t.var.toList = [])=false:=by simp [hve]);have HS2:=hid (HST.out.trans (if_neg (HN8.out hve)));clear hve;cases hin:inB o t.var
          · skip
            have hc:=Z6q o t.var wr (Z4t rfl HOR.out);simp only [hin] at hc;have HC:=hid hc;clear hc;(go_wp2_with fail);(with_reducible refine (HC.out).mono ?_);rintro e w0 ⟨rfl,rfl⟩;by_cases hr1:t.rel=1
            · skip
              (have ra:(t.rel == 1)=true:=by simp [hr1]);(have rb:decide (t.rel=1)=true:=by simp [hr1]);(have rc:(t.rel != 1)=false:=by simp [hr1]);have HF:=hid (show Z0u K1 ts=Z0u (metK K' t.var) (ts.drop (k+1)) by rw [HS2.out,if_pos hr1]);clear hr1 hin;obtain ⟨Y9,hY9⟩:∃Y9,Y9=wr.alloc (.cells #[.string t.var] 9):=⟨_,rfl⟩;(have hb9:Below wr.heap.size wr Y9:=by rw [hY9];exact (Znk _ _).alloc (Znl _) _);have HY9:=hid hY9;have HB9:=hid hb9;have HO9:=hid (Z05 HOR.out hb9);have HN9:=hid (show ∀(j:Nat) (u:Value),(strC t.var)[j]? = some u→Y9.cell? ((⟨wr.heap.size,0,none⟩:Addr).add j)=some u by rw [hY9];exact Z7u rfl);clear hY9 hb9;(go_wp2_with (at_builtin;rw [←HY9.out];refine Z00 Y9 rfl (.tmp 57) (.tmp 63) 114 rfl 9 i0 _ 1 16 Tryz.underlying114 hi0 hz0 hz1 hz2 rfl (by decide) _ o.length (o.flatMap strC) rfl HO9.out _ 1 1 (strC t.var) rfl rfl (fun _=>⟨_,rfl,HN9.out⟩) (by intro u hu;simp only [strC,Zo5,Zo9,or_false] at hu;subst hu;rfl) (by unfold maxLen;omega) (by omega) ?_;intro v' w3 hown hg hnil hat;obtain ⟨A8,c8,rfl,hF8,hA8,hO8⟩:=Z33 (E:=fun k=>∃a,Ao=some a∧a.block=k) (fun a ha=>⟨a,ha,rfl⟩) hown hg hat;have HF8:=hid hF8;have HA8:=hid hA8;have HO8:=hid hO8;clear hown hg hnil hat hF8 hA8 hO8));(have hl9:Y9.heap.size=wr.heap.size+1:=by rw [HY9.out];simp);have hzr:=HB.out.size;have hbN:Below w.heap.size w w3:=(HB.out.trans (HB9.out.mono hzr)).trans (HF8.out.below (by omega) (fun j hj hn=>by obtain ⟨a,ha,h9⟩:=hn;have:=(HAO.out a ha).1;have:=HXZ.out;omega));have hrN:Z0z w3 6 (fun v:V6=>v.1) (some ⟨g,off,none⟩) ic2 (xs1++xs2):=(HROW2.out.new_ HB9.out).fr HF8.out (fun a ha hn=>by obtain ⟨a2,ha2,h9⟩:=hn;exact (HAO.out a2 ha2).2 a ha h9.symm);go_roundw
              case rel=>
               refine ⟨k+1,A8,c8,o ++ [t.var],metK K' t.var,by go_num,by simp,by omega,HF.out,HKR2.out.met t.var,by simp;omega,?_,fun a ha=>?_,hrN,hbN,by have:=HF8.out.size;omega⟩
               · rw [Zny,Znp]
                 simpa [strC] using HO8.out
               · rcases HA8.out a ha with ⟨a2,ha2,h9⟩|h
                 · rw [←h9];exact HAO.out a2 ha2
                 · have h2:=h.1
                   have:=HXZ2.out;exact ⟨by omega,fun a3 h3 e=>by cases h3;simp only at e;omega⟩
              case measure=>simp [intOf]<;>omega
            · skip
              (have ra:(t.rel == 1)=false:=by simp [hr1]);(have rb:decide (t.rel=1)=false:=by simp [hr1]);(have rc:(t.rel != 1)=true:=by simp [hr1]);have HF:=hid (show (oneK K x).1=false by rw [HON.out,HS2.out,if_neg hr1,if_neg (by rw [HKR2.out t.var,hin];simp)]);clear hr1 hin;(go_wp2_with fail);exact bodyPost_ret (v:=.tuple #[.slice none 0 0,.bool false]) (by simp [results,Tryz.results128,go_sem, *]) rfl ⟨none,0,[],by rw [HF.out];rfl,HB.out,fun h=>absurd h (by rw [HF.out];simp)⟩
          · skip
            have hc:=Z6q o t.var wr (Z4t rfl HOR.out);simp only [hin] at hc;have HC:=hid hc;clear hc;(go_wp2_with fail);(with_reducible refine (HC.out).mono ?_);rintro e w0 ⟨rfl,rfl⟩;obtain ⟨K2,hK2⟩:∃K2,K2=if t.rel=1 then metK K' t.var else K':=⟨_,rfl⟩
            have HF:=hid (show Z0u K1 ts=Z0u K2 (ts.drop (k+1)) by
             rw [HS2.out,hK2]
             split
             · rfl
             · rw [if_pos (by rw [HKR2.out t.var,hin])])
            have HKN:=hid (show KRel K2 o by rw [hK2];split;exact HKR2.out.again hin;exact HKR2.out);clear hK2 hin;(go_wp2_with fail);go_roundw
            case rel=>exact ⟨k+1,Ao,co,o,K2,by go_num,rfl,by omega,HF.out,HKN.out,by omega,HOR.out,HAO.out,HROW2.out,HB.out,hw1r⟩
            case measure=>simp [intOf]<;>omega
      · skip
        (have hke:k=ts.length:=by omega);subst hke;have HF:=hid (show oneK K x=(true,K') by rw [HON.out,HFE.out,Zoq];rfl);(go_wp2_with fail);exact bodyPost_ret (v:=.tuple #[.slice Ao o.length co,.bool true]) (by simp [results,Tryz.results128,go_sem, *]) rfl ⟨Ao,co,o,by rw [HF.out],HB.out,fun _=>⟨by rw [HF.out];exact HKR2.out,Z4t rfl HOR.out,by omega⟩⟩
 · skip
   have hc:=Z6q known x.id w2 (Z4t rfl HO1.out);simp only [hin] at hc;have HC:=hid hc;clear hc;(go_wp2_with fail);(with_reducible refine (HC.out).mono ?_);rintro e w0 ⟨rfl,rfl⟩;obtain ⟨K1,hK1⟩:∃K1,K1=if x.goal=true then metK K x.id else K:=⟨_,rfl⟩;have HKR:=hid (show KRel K1 known by rw [hK1];split;exact HK.out.again hin;exact HK.out);have HON:=hid (show oneK K x=Z0u K1 (x.attr++x.value) by rw [Z8u,←hK1,if_pos (by rw [HKR.out x.id,hin])]);clear hK1 hin;obtain ⟨o1,ho1⟩:∃o1,o1=known:=⟨_,rfl⟩;rw [←ho1] at HKR HO1 ⊢;(have hole:o1.length≤known.length+1:=by rw [ho1];omega);clear ho1;(go_upto_region 6 with fail);(have hw1V:w1.heap.size≤w2.heap.size:=by have:=HB12.out.size;omega);have HB6:=HB;have hsV:=HB.out.size;have HV1:=hid (Zkk (V:=w2.drew) HR1.out HD1.out HB.out.drew);have HL1:=hid (show (xs1.flatMap (·.1)).length=x.attr.length*6 by rw [Z08 Z44,HR1.out.len]);have HL2:=hid (show (xs2.flatMap (·.1)).length=x.value.length*6 by rw [Z08 Z44,HR2.out.len]);refine Z0c (fun w9=>Below w2.heap.size w2 w9) [(0,0),(1,1),(3,0),(4,1),(2,2),(5,2),(6,0)] (by kernel_rfl) (by kernel_rfl) (fun KK hKK=>?_);simp only [Z0w,Znz,Znt,Znv,Znr,Zns,Zo1];(repeat ((first|(refine Z0m ?_ (Or.inl ⟨by rfl,fun w9=>?_⟩) ?_;rotate_left 1;go_simp;with_reducible rfl)|(refine Z0k ?_ (((Znk _ w2).drew)) (Or.inl ⟨by rfl,fun w9 hw9=>?_⟩) ?_;rotate_left 1;have hc9a:=hw9.cell (p:=⟨w.heap.size,3,none⟩) xz;have hc9b:=hw9.cell (p:=⟨w.heap.size,4,none⟩) xz;go_simp;with_reducible rfl)|refine Z0m undef (Or.inr ⟨by rfl,rfl⟩) ?_|refine Z0k undef (((Znk _ w2).drew)) (Or.inr ⟨by rfl,rfl⟩) ?_);go_frame));refine Z2j (fun K9 hK9=>?_);refine Z0f _ (by rfl) _ _ _ (by rfl) 138 j0 _ 6 80 Tryz.underlying57 hj0 hy0 hy1 hy2 rfl (by decide) (.slice none 0 0) 0 [] (by rfl) (Z68 _ 0 _ _) A1 x.attr.length c1 (xs1.flatMap (·.1)) (by rfl) HL1.out HV1.out (Z8d xs1) (by unfold maxLen;omega) (by omega) ?_;intro v10 w10 hown hgr hnil hat;refine hK9 _ _ (((Znk _ _).drew).grown hgr (by simp) (fun k hk=>by simp [Value.ownBlock] at hk)) ?_;clear hK9 K9;rw [Zoa,Zo3] at hown;obtain ⟨ia,ic,rfl,_,_,_⟩:=Z0v hown;have HB10:=hid (show Below w2.heap.size w2 w10 from ((Znk _ _).drew).grown hgr (by simp) (fun k hk=>by simp [Value.ownBlock] at hk));have HO10:=hid hown;have HAT10:=hid hat;clear hown hgr hnil hat;refine Z1y (by kernel_rfl) (fun K9 hK9=>?_);refine Z0f _ (by rfl) _ _ _ (by rfl) 138 j0 _ 6 80 Tryz.underlying57 hj0 hy0 hy1 hy2 rfl (by decide) (.slice ia x.attr.length ic) x.attr.length (xs1.flatMap (·.1)) (by rfl) HO10.out A2 x.value.length c2 (xs2.flatMap (·.1)) (by rfl) HL2.out (Zkk HR2.out HD2.out (HB6.out.trans (HB10.out.mono hsV))) (Z8d xs2) (by unfold maxLen;omega) (by omega) ?_;intro v11 w11 hown hgr hnil hat;refine hK9 _ _ ?_;clear hK9 K9
   obtain ⟨ib,ic2,rfl,_,_,_⟩:=Z0v hown;have HG11:=hid hgr;have HAT11:=hid hat;have HO11:=hid hown;clear hown hgr hnil hat;(repeat ((first|(refine Z0m ?_ (Or.inl ⟨by rfl,fun w9=>?_⟩) ?_;rotate_left 1;go_simp;with_reducible rfl)|(refine Z0k ?_ (HB10.out) (Or.inl ⟨by rfl,fun w9 hw9=>?_⟩) ?_;rotate_left 1;have hc9a:=hw9.cell (p:=⟨w.heap.size,3,none⟩) xz;have hc9b:=hw9.cell (p:=⟨w.heap.size,4,none⟩) xz;go_simp;with_reducible rfl)|refine Z0m undef (Or.inr ⟨by rfl,rfl⟩) ?_|refine Z0k undef (HB10.out) (Or.inr ⟨by rfl,rfl⟩) ?_);go_frame));refine Z16 ?_;simp only [Z04];refine hKK _ _ ?_;clear hKK KK
   have hob :∀k,(Value.slice ia x.attr.length ic).ownBlock=some k→w2.heap.size≤k:=by
    intro k hk;have e9:w2.drew.heap.size=w2.heap.size:=rfl;rcases HAT10.out with h|h
    · rw [h] at hk;simp [Value.ownBlock] at hk
    · rw [h] at hk;simp at hk;omega
   have HB11:=hid (show Below w2.heap.size w2 w11 from HB10.out.grown HG11.out HB10.out.size hob)
   have HIB:=hid (show ∀a,ib=some a→w2.heap.size≤a.block by
    intro a ha;(have hk:(Value.slice ib (x.attr.length+x.value.length) ic2).ownBlock=some a.block:=by rw [ha];rfl);rcases HAT11.out with h|h
    · exact hob _ (h.symm.trans hk)
    · have:=HB10.out.size
      rw [h] at hk;simp at hk;omega)
   obtain ⟨ts,hts⟩:∃ts,ts=x.attr++x.value:=⟨_,rfl⟩;(have hlts:x.attr.length+x.value.length=ts.length:=by rw [hts];simp);have HRT:=hid (show Raw6 ts (xs1++xs2) by rw [hts];exact HR1.out.app HR2.out);have HROW:=hid (Zfa (l:=xs1++xs2) (n:=x.attr.length+x.value.length) (by rw [HRT.out.len];exact hlts.symm) (by rw [Zny];exact HO11.out));have HTS:=hid (show ∀t∈ts,Z1a t=true by rw [hts];exact HTT.out);rw [←hts] at HON;(have hab:ts.length≤8:=by omega);have HOV:=hid (Z05 HO1.out HB11.out);have HAV:=hid (show AIn A0 (fun j=>w1.heap.size≤j∧∀a,ib=some a→a.block≠j) from fun a ha=>⟨HAI.out a ha,fun a2 h2 e=>by have:=Z9i HO1.out a ha;have:=HIB.out a2 h2;omega⟩);have HBV:=hid (HB.out.trans (HB11.out.mono HB.out.size));rw [hlts];clear hob hts;(go_wp2_with fail);clear x0 x1 x2 x3 x4 x5 x6 xz
   go_loopw [6,8] (fun so si wr=>∃(k:Nat) (Ao:Option Addr) (co:Nat) (o:List ByteArray) (K':Kn),si = .int .i64 k∧so = .slice Ao o.length co∧k≤ts.length∧Z0u K1 ts=Z0u K' (ts.drop k)∧KRel K' o∧o.length≤o1.length+k∧wr.ownsRow 0 9 1 (.slice Ao o.length co) o.length (o.flatMap strC)∧AIn Ao (fun j=>w1.heap.size≤j∧∀a,ib=some a→a.block≠j)∧Z0z wr 6 (fun v:V6=>v.1) ib ic2 (xs1++xs2)∧Below w.heap.size w wr∧w1.heap.size≤wr.heap.size) (fun so si wr=>ts.length - (intOf si).toNat)
   case atStart=>exact ⟨0,A0,c0,o1,K1,rfl,rfl,Nat.zero_le _,by rw [List.drop_zero],HKR.out,by omega,HOV.out,HAV.out,HROW.out,HBV.out,by have:=HB11.out.size;omega⟩
   case round=>
    obtain ⟨k,Ao,co,o,K',rfl,rfl,hk,hfe,hkr,hol,hor,hao,hrow,hbw,hw1r⟩:=hrel;have HFE:=hid hfe;have HKR2:=hid hkr;have HOR:=hid hor;have HAO:=hid hao;have HROW2:=hid hrow;have HB:=hid hbw;clear hfe hkr hor hao hrow hbw;by_cases hlt:k<ts.length
    · skip
      obtain ⟨t,ht⟩:∃t,t=ts[k]:=⟨_,rfl⟩;(have hlx:k<(xs1++xs2).length:=by rw [HRT.out.len];exact hlt);obtain ⟨g,off,hib,hg,hc⟩:=HROW2.out.at_ hlx;obtain ⟨g0,g1⟩:=HRT.out.get hlt hlx;rw [←ht] at g0 g1;(have q0:wr.cell? ⟨g,off+k*6,none⟩=some (.int .i64 t.rel):=by simpa using hc 0 _ g0);have q1:wr.cell? ⟨g,off+k*6+1,none⟩=some (.string t.var):=hc 1 _ g1;have HIBG:=hid hib;have HST:=hid (show Z0u K1 ts=if t.rel=8∨t.var.toList = [] then Z0u K' (ts.drop (k+1)) else if t.rel=1 then Z0u (metK K' t.var) (ts.drop (k+1)) else if hasK K' t.var=true then Z0u K' (ts.drop (k+1)) else (false,K') by rw [HFE.out,Z70 hlt,Z2e,←ht]);have HN8:=hid (show ¬t.var.toList = []→¬(t.rel=8∨t.var.toList = []) from fun h1 h2=>h2.elim (fun h8=>h1 (Zfe (HTS.out t (by rw [ht];exact Zo8 hlt)) h8)) h1);(have b1:(0:Int)≤(k:Int):=by omega);(have b2:(k:Int)<(ts.length:Int):=by omega);subst hib;clear ht hlx hc g0 g1;by_cases hve:t.var.toList = []
      · skip
        (have vaa:(t.var.toList == [])=true:=by simp [hve]);(have vab:t.var.toList.isEmpty=true:=by simp [hve]);(have vac:decide (t.var.toList = [])=true:=by simp [hve]);have HF:=hid (show Z0u K1 ts=Z0u K' (ts.drop (k+1)) by rw [HST.out,if_pos (.inr hve)]);clear hve;(go_wp2_with fail);go_roundw
        case rel=>exact ⟨k+1,Ao,co,o,K',by go_num,rfl,by omega,HF.out,HKR2.out,by omega,HOR.out,HAO.out,HROW2.out,HB.out,hw1r⟩
        case measure=>simp [intOf]<;>omega
      · skip
        (have vaa:(t.var.toList == [])=false:=by simp [hve]);(have vab:t.var.toList.isEmpty=false:=by simp [hve]);(have vac:decide (t.var.toList = [])=false:=by simp [hve]);have HS2:=hid (HST.out.trans (if_neg (HN8.out hve)));clear hve;cases hin:inB o t.var
        · skip
          have hc:=Z6q o t.var wr (Z4t rfl HOR.out);simp only [hin] at hc;have HC:=hid hc;clear hc;(go_wp2_with fail);(with_reducible refine (HC.out).mono ?_);rintro e w0 ⟨rfl,rfl⟩;by_cases hr1:t.rel=1
          · skip
            (have ra:(t.rel == 1)=true:=by simp [hr1]);(have rb:decide (t.rel=1)=true:=by simp [hr1]);(have rc:(t.rel != 1)=false:=by simp [hr1]);have HF:=hid (show Z0u K1 ts=Z0u (metK K' t.var) (ts.drop (k+1)) by rw [HS2.out,if_pos hr1]);clear hr1 hin;obtain ⟨Y9,hY9⟩:∃Y9,Y9=wr.alloc (.cells #[.string t.var] 9):=⟨_,rfl⟩;(have hb9:Below wr.heap.size wr Y9:=by rw [hY9];exact (Znk _ _).alloc (Znl _) _);have HY9:=hid hY9;have HB9:=hid hb9;have HO9:=hid (Z05 HOR.out hb9);have HN9:=hid (show ∀(j:Nat) (u:Value),(strC t.var)[j]? = some u→Y9.cell? ((⟨wr.heap.size,0,none⟩:Addr).add j)=some u by rw [hY9];exact Z7u rfl);clear hY9 hb9;(go_wp2_with (at_builtin;rw [←HY9.out];refine Z00 Y9 rfl (.tmp 57) (.tmp 63) 114 rfl 9 i0 _ 1 16 Tryz.underlying114 hi0 hz0 hz1 hz2 rfl (by decide) _ o.length (o.flatMap strC) rfl HO9.out _ 1 1 (strC t.var) rfl rfl (fun _=>⟨_,rfl,HN9.out⟩) (by intro u hu;simp only [strC,Zo5,Zo9,or_false] at hu;subst hu;rfl) (by unfold maxLen;omega) (by omega) ?_;intro v' w3 hown hg hnil hat;obtain ⟨A8,c8,rfl,hF8,hA8,hO8⟩:=Z33 (E:=fun k=>∃a,Ao=some a∧a.block=k) (fun a ha=>⟨a,ha,rfl⟩) hown hg hat;have HF8:=hid hF8;have HA8:=hid hA8;have HO8:=hid hO8;clear hown hg hnil hat hF8 hA8 hO8));(have hl9:Y9.heap.size=wr.heap.size+1:=by rw [HY9.out];simp);have hzr:=HB.out.size;have hbN:Below w.heap.size w w3:=(HB.out.trans (HB9.out.mono hzr)).trans (HF8.out.below (by omega) (fun j hj hn=>by obtain ⟨a,ha,h9⟩:=hn;have:=(HAO.out a ha).1;have:=HXZ.out;omega));have hrN:Z0z w3 6 (fun v:V6=>v.1) (some ⟨g,off,none⟩) ic2 (xs1++xs2):=(HROW2.out.new_ HB9.out).fr HF8.out (fun a ha hn=>by obtain ⟨a2,ha2,h9⟩:=hn;exact (HAO.out a2 ha2).2 a ha h9.symm);go_roundw
            case rel=>
             refine ⟨k+1,A8,c8,o ++ [t.var],metK K' t.var,by go_num,by simp,by omega,HF.out,HKR2.out.met t.var,by simp;omega,?_,fun a ha=>?_,hrN,hbN,by have:=HF8.out.size;omega⟩
             · rw [Zny,Znp]
               simpa [strC] using HO8.out
             · rcases HA8.out a ha with ⟨a2,ha2,h9⟩|h
               · rw [←h9];exact HAO.out a2 ha2
               · have h2:=h.1
                 have:=HXZ2.out;exact ⟨by omega,fun a3 h3 e=>by cases h3;simp only at e;omega⟩
            case measure=>simp [intOf]<;>omega
          · skip
            (have ra:(t.rel == 1)=false:=by simp [hr1]);(have rb:decide (t.rel=1)=false:=by simp [hr1]);(have rc:(t.rel != 1)=true:=by simp [hr1]);have HF:=hid (show (oneK K x).1=false by rw [HON.out,HS2.out,if_neg hr1,if_neg (by rw [HKR2.out t.var,hin];simp)]);clear hr1 hin;(go_wp2_with fail);exact bodyPost_ret (v:=.tuple #[.slice none 0 0,.bool false]) (by simp [results,Tryz.results128,go_sem, *]) rfl ⟨none,0,[],by rw [HF.out];rfl,HB.out,fun h=>absurd h (by rw [HF.out];simp)⟩
        · skip
          have hc:=Z6q o t.var wr (Z4t rfl HOR.out);simp only [hin] at hc;have HC:=hid hc;clear hc;(go_wp2_with fail);(with_reducible refine (HC.out).mono ?_);rintro e w0 ⟨rfl,rfl⟩;obtain ⟨K2,hK2⟩:∃K2,K2=if t.rel=1 then metK K' t.var else K':=⟨_,rfl⟩
          have HF:=hid (show Z0u K1 ts=Z0u K2 (ts.drop (k+1)) by
           rw [HS2.out,hK2]
           split
           · rfl
           · rw [if_pos (by rw [HKR2.out t.var,hin])])
          have HKN:=hid (show KRel K2 o by rw [hK2];split;exact HKR2.out.again hin;exact HKR2.out);clear hK2 hin;(go_wp2_with fail);go_roundw
          case rel=>exact ⟨k+1,Ao,co,o,K2,by go_num,rfl,by omega,HF.out,HKN.out,by omega,HOR.out,HAO.out,HROW2.out,HB.out,hw1r⟩
          case measure=>simp [intOf]<;>omega
    · skip
      (have hke:k=ts.length:=by omega);subst hke;have HF:=hid (show oneK K x=(true,K') by rw [HON.out,HFE.out,Zoq];rfl);(go_wp2_with fail);exact bodyPost_ret (v:=.tuple #[.slice Ao o.length co,.bool true]) (by simp [results,Tryz.results128,go_sem, *]) rfl ⟨Ao,co,o,by rw [HF.out],HB.out,fun _=>⟨by rw [HF.out];exact HKR2.out,Z4t rfl HOR.out,by omega⟩⟩
end
end Go.Proofs.YtfidcfjcmlgkbaaGreat
