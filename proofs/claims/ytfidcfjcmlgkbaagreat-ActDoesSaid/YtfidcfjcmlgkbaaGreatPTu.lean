/-
  Texts put together: ActTab, RefDo1.
-/
import Derived.Test.YtfidcfjcmlgkbaaGreatPTt
namespace Go.Proofs.YtfidcfjcmlgkbaaGreat
open Lib (hid)
set_option maxRecDepth 100000
set_option maxHeartbeats 32000000
section
open Go.RowKit Go.Shelf
section
variable {D D':Nat→Prop} {W W':World} {T:TB} {L:List Sym}
theorem Zjg (kb:Nat) (h:GT D W T L) (hbox:W.cell? ⟨kb,0,none⟩=some (.pointer (some ⟨T.b,0,none⟩))) :
 Calls Tryz.prog 17 #[.func (.func 57) #[] #[.pointer (some ⟨kb,0,none⟩)]] W fun e W'=>∃A c,e = .returned (.slice A L.length c)∧Z0k W' 3 Sym.cells A c L∧AIn A (fun j=>W.heap.size≤j∧j<W'.heap.size)∧GT (Plus D W W') W' T L∧Fr (fun j=>¬D j) W W'∧KB W W':=by
 obtain ⟨S,σ,S2,σ2,m,h1,ho,h2⟩:=h;have hS:=h1.syms.at_ T.bs L h2.bs;refine (Zfx _ _ L W _ _ (Zif kb _ _ _ T L W hbox h2.blk hS) (by have:=h2.len;have:=h2.r2;omega)).mono ?_;rintro e W' ⟨A,c,he,hown,hA,W1,W2,hB1,hs,hB2⟩;have hS1:=hS.new_ hB1;have hS2:=hs.set_ hS1 (by decide);have hF:Fr (· = T.bs) W W':=((Fr.of_new (M:=(· = T.bs)) hB1).trans (hs.fr.mono (fun _ _ h=>h))).into (Fr.of_below hB2) (fun i hi=>.inr hi);have hS3:Z2b W' T.bs true (σ T.bs).A (σ T.bs).c L:=hS2.fr (Fr.of_below hB2) (by have:=hS.lt;omega) (hS.row_lt.mono (fun k hk=>by omega));have hD:Fr (fun k=>¬D k) W W':=hF.mono (fun k _ hk=>by rw [hk];exact (h1.syms.out T.bs L h2.bs).1);have hs1:=h1.syms.seen (by decide) h2.bs hS3 hF;have hF2:Fr (Z1g T.bs (σ T.bs).sn (σ T.bs).A) W W':=hF.mono (fun j _ hj=>.inl hj);have hp1:=h1.pages.other hS (by decide) (by decide) (by decide) (by decide) hF2;have hK:=KB.of_sym hS hF2;have hrd:=Z0j Sym.cells_length hown
 have hlt:AIn A (· < W'.heap.size):=by
  intro a ha;subst ha;rcases Z0i hown with ⟨hv,_⟩ | ⟨g,cap,hv,_,_,hr,_⟩
  · cases hv
  · injection hv with hv
    injection hv with hv;subst hv;exact hr.lt
 have hup : ∀j l,S j=some l→AIn ((upd σ T.bs ⟨true,(σ T.bs).A,(σ T.bs).c⟩) j).A (· < W.heap.size):=fun j l hj a ha=>by
  by_cases e:j=T.bs
  · subst e;rw [Z06] at ha;exact hS.row_lt a ha
  · rw [Z0q _ _ e] at ha;exact (h1.syms.at_ j l hj).row_lt a ha
 refine ⟨A,c,he,hrd,fun a ha=>⟨hA a ha,hlt a ha⟩,⟨S,_,S2,σ2,m,⟨hs1.widen W.heap.size (fun j l hj=>⟨h1.syms.lt hj,fun _=>hup j l hj⟩),hp1.widen W.heap.size (fun j l hj=>⟨h1.pages.lt hj,fun _=>(h1.pages.at_ j l hj).row_lt⟩)⟩,?_,h2.blk_ (h2.blk.kb hK)⟩,hD,hK⟩;rintro q (hq | hq)
 · refine ⟨fun b l hb=>?_,(ho q hq).2⟩
   by_cases e:b=T.bs
   · subst e;rw [Z06];exact (ho q hq).1 _ l hb
   · rw [Z0q _ _ e];exact (ho q hq).1 b l hb
 · refine ⟨fun b l hb=>⟨?_,fun a ha=>?_⟩,fun b l hb=>⟨?_,fun a ha=>?_⟩⟩
   · have:=h1.syms.lt hb;omega
   · have:=hup b l hb a ha;have:=hq.1;omega
   · have:=h1.pages.lt hb;omega
   · have:=(h1.pages.at_ b l hb).row_lt a ha;have:=hq.1;omega
theorem Z9q (k:Nat) (room:Int) (X:List Sym) (A A2:Option Addr) (cap c2:Nat) (hR:Z38 W k room L A cap) (hs:Srt Z01 L) (hX:Z0k W 3 Sym.cells A2 c2 X) (hl:(X.length:Int)≤10000) (hL:(L.length:Int)≤4096) :
 Calls Tryz.prog 40 #[.pointer (some ⟨k,0,none⟩),.slice A2 X.length c2] W fun e W'=>e = .returned (.int .i64 (Z16 room L X))∧(∃A' cap',Z38 W' k room (Z10 room L X) A' cap'∧From A W.heap.size A')∧Fr (· = k) W W':=by
 refine (Zie k room L X A2 c2 A cap W hR hX hs (by omega) (by omega)).mono ?_;intro e W' hp;unfold RPut at hp;unfold Z10 Z16
 split at hp
 · rename_i hx
   rw [if_pos hx,if_pos hx]
   split at hp
   · rename_i hr
     rw [if_pos hr,if_pos hr];exact ⟨hp.1,⟨A,cap,hR.below_ hp.2,From.refl _ _⟩,Fr.of_new hp.2⟩
   · rename_i hr
     rw [if_neg hr,if_neg hr];exact hp
 · rename_i hx
   rw [if_neg hx,if_neg hx];exact ⟨hp.1,⟨A,cap,hR.below_ hp.2,From.refl _ _⟩,Fr.of_new hp.2⟩
theorem Zk1 (h : ∀s∈L,Z07 s=true) : ∀s∈L,s.kind=1→s.n≤1048576:=fun s hs hk=>by
 obtain ⟨k,t,n⟩:=s;dsimp only at hk;subst hk;exact (Z8q (h _ hs)).2.2.2
theorem Zf9 (k:Nat) (room:Int) (c:UInt8) (A:Option Addr) (cap:Nat) (hR:Z38 W k room L A cap) (hs:Srt Z01 L) (hv : ∀s∈L,Z07 s=true) (hL:(L.length:Int)≤4096) :
 Calls Tryz.prog 51 #[.pointer (some ⟨k,0,none⟩),.int .u8 (c.toNat:Int)] W fun e W'=>e = .returned (.tuple #[.agg #[.int .i64 (Z21 room L c).kind,.string (Z21 room L c).text,.int .i64 (Z21 room L c).n],.int .i64 (Z26 room L c)])∧(∃A' cap',Z38 W' k room (Z20 room L c) A' cap'∧From A W.heap.size A')∧Fr (· = k) W W':=by
 have hbd:=Zk1 hv;have same : ∀W',Below W.heap.size W W'→(∃A' cap',Z38 W' k room L A' cap'∧From A W.heap.size A')∧Fr (· = k) W W':=fun W' hb=>⟨⟨A,cap,hR.below_ hb,From.refl _ _⟩,Fr.of_new hb⟩;by_cases h0:Z1p L c=0
 · have e0:Z26 room L c=1:=by unfold Z26;rw [if_pos h0]
   (have e1:Z21 room L c=zsym:=by unfold Z21;rw [e0];rfl);(have e2:Z20 room L c=L:=by unfold Z20;rw [e0];rfl);rw [e0,e1,e2];exact (Zek k room L c A cap W hR hbd (by omega) h0).mono fun e W' ⟨h3,h4⟩=>⟨h3,same W' h4⟩
 · by_cases hf:room≤L.length
   · have e0:Z26 room L c=20:=by unfold Z26;rw [if_neg h0,if_pos (.inl hf)]
     (have e1:Z21 room L c=zsym:=by unfold Z21;rw [e0];rfl);(have e2:Z20 room L c=L:=by unfold Z20;rw [e0];rfl);rw [e0,e1,e2];exact (Zcu k room L c A cap W hR hbd (by omega) h0 hf).mono fun e W' ⟨h3,h4⟩=>⟨h3,same W' h4⟩
   · by_cases hn:1048576<Z1p L c
     · have e0:Z26 room L c=20:=by unfold Z26;rw [if_neg h0,if_pos (.inr hn)]
       (have e1:Z21 room L c=zsym:=by unfold Z21;rw [e0];rfl);(have e2:Z20 room L c=L:=by unfold Z20;rw [e0];rfl);rw [e0,e1,e2];exact (Zel k room L c A cap W hR hbd (by omega) h0 hf hn).mono fun e W' ⟨h3,h4⟩=>⟨h3,same W' h4⟩
     · have e0:Z26 room L c=0:=by unfold Z26;rw [if_neg h0,if_neg (fun h=>h.elim hf hn)]
       (have e1:Z21 room L c=⟨1,letB c,Z1p L c⟩:=by unfold Z21;rw [if_pos e0]);(have e2:Z20 room L c=put Z01 L ⟨1,letB c,Z1p L c⟩:=by unfold Z20;rw [if_pos e0]);rw [e0,e1,e2];exact Zem k room L c A cap W hR hbd (by omega) hs h0 hf (by omega)
end
end
section
open Go.RowKit Go.Shelf
attribute [local go_sem] Oper.semAt_some
set_option linter.unusedSimpArgs false
theorem Z95 {e:TypeId} {size n m B:Nat} {w w':World} {A:Option Addr} {c:Nat} {v:Value} {xs news:List Value} (hown:w'.ownsRow 0 e size v (n+m) (xs++news)) (hg:w.grownBy w' (Value.slice A n c).ownBlock) (hat:v.ownBlock=(Value.slice A n c).ownBlock∨v.ownBlock=some w.heap.size) (hA:AIn A (B≤·)) (hB:B≤w.heap.size) :
 ∃A' c',v = .slice A' (n+m) c'∧w'.ownsRow 0 e size (.slice A' (n+m) c') (n+m) (xs++news)∧AIn A' (B≤·)∧AIn A' (fun j=>(∃a,A=some a∧a.block=j)∨j=w.heap.size):=by
 obtain ⟨A',c',rfl,hF,hA',hO⟩:=Z1k (E:=fun j=>∃a,A=some a∧a.block=j) (fun a ha=>⟨a,ha,rfl⟩) hown hg hat;refine ⟨A',c',rfl,hO,fun a ha=>?_,fun a ha=>?_⟩
 · rcases hA' a ha with ⟨b,hb,e⟩ | ⟨h1,_⟩
   · rw [← e];exact hA b hb
   · exact Zlf hB h1
 · subst ha
   rcases hat with h | h
   · cases hAA:A with
     | none=>rw [hAA] at h;simp [Value.ownBlock] at h
     | some b=>rw [hAA] at h;exact .inl ⟨b,rfl,by simpa [Value.ownBlock] using h.symm⟩
   · exact .inr (by simpa [Value.ownBlock] using h)
theorem Zba (l:List Z05) : ∀u∈l.flatMap Z05.cells,u.oneCell'=true:=by
 intro u hu;obtain ⟨b,_,hb⟩:=List.mem_flatMap.1 hu;simp only [Z05.cells,Zl7,Zl9,or_false] at hb;rcases hb with rfl | rfl | rfl | rfl<;>rfl
theorem Zbb (l:List Z17) : ∀u∈l.flatMap Z17.cells,u.oneCell'=true:=by
 intro u hu;obtain ⟨b,_,hb⟩:=List.mem_flatMap.1 hu;simp only [Z17.cells,Zl7,Zl9,or_false] at hb;rcases hb with rfl | rfl | rfl | rfl | rfl | rfl | rfl | rfl | rfl | rfl | rfl | rfl | rfl | rfl | rfl | rfl<;>rfl
def DOk (room:Int) (L:List Sym):Prop:=Srt Z01 L∧(∀s∈L,Z07 s=true)∧(L.length:Int)≤room
theorem DOk.put_ {room:Int} {L Z:List Sym} (h:DOk room L):DOk room (Z10 room L Z):=by
 unfold Z10
 split
 · rename_i hv
   split
   · exact h
   · rename_i hl
     refine ⟨Srt.puts Z1d Z h.1,fun s hs=>?_,by omega⟩;rcases (Z22 _).1 hs with hs | hs
     · exact h.2.1 s hs
     · exact Zlg.1 hv s hs
 · exact h
theorem DOk.fresh {room:Int} {L:List Sym} {c:UInt8} (h:DOk room L) (hg:Z0z c=true) (he:Z26 room L c=0):DOk room (Z20 room L c):=by
 (have el:Z20 room L c=put Z01 L ⟨1,letB c,Z1p L c⟩:=by unfold Z20;rw [if_pos he]);have hnot:=Z84 (L:=L) hg;have hlen:=Z2o Z1d h.1 hnot;unfold Z26 at he
 have hroom:(L.length:Int)<room∧Z1p L c≤1048576:=by
  split at he
  · cases he
  · split at he
    · cases he
    · rename_i h;exact ⟨by omega,by omega⟩
 rw [el];refine ⟨h.1.put Z1d _,fun s hs=>?_,by rw [hlen];have:=hroom.1;omega⟩;rcases Z35.1 hs with hs | hs
 · exact h.2.1 s hs
 · rw [hs]
   have h1:=Z8b (L:=L) hg;(have h2:Z9u Z0z (letB c)=true:=by simp [Z9u,letB,hg]);simp [Z07,Z58,h2,hroom.2,h1]
structure RS (X:World) (k:Nat) (room:Int) (A0:Option Addr) (Li:List Sym) (At:Option Addr) (ct:Nat) (w:World):Prop where
 rt:Z38 w k room Li At ct
 fm:From A0 X.heap.size At
 fr:Fr (· = k) X w
 ok:DOk room Li
 zk:k<X.heap.size
structure OwnK {α:Type} (T size:Nat) (cells:α→List Value) (X:World) (m:List α) (A:Option Addr) (c:Nat) (At:Option Addr) (w:World):Prop where
 own:w.ownsRow 0 T size (.slice A m.length c) m.length (m.flatMap cells)
 ain:AIn A (X.heap.size≤·)
 ap:AIn At (fun j=>AIn A (·≠j))
section
variable {X w w':World} {k:Nat} {room:Int} {A0 At:Option Addr} {Li:List Sym} {ct:Nat}
theorem RS.new_ (h:RS X k room A0 Li At ct w) (hb:Below w.heap.size w w'):RS X k room A0 Li At ct w':=⟨h.rt.below_ hb,h.fm,h.fr.trans (Fr.of_new hb),h.ok,h.zk⟩
theorem RS.tab {Z:List Sym} {At':Option Addr} {ct':Nat} (h:RS X k room A0 Li At ct w) (hR:Z38 w' k room Z At' ct') (hf:From At w.heap.size At') (hF:Fr (· = k) w w') (hk:DOk room Z):RS X k room A0 Z At' ct' w':=by
 refine ⟨hR,fun a ha=>?_,h.fr.trans hF,hk,h.zk⟩;rcases hf a ha with ⟨b,hb,e⟩ | h2
 · rw [← e];exact h.fm b hb
 · exact .inr (Zlf h.fr.size h2)
variable {α:Type} {T size:Nat} {cells:α→List Value} {m:List α} {A:Option Addr} {c:Nat}
theorem Zjm {n:Nat} {xs:List Value} (h:w.ownsRow 0 T size (.slice A n c) n xs):AIn A (· < w.heap.size):=Z3p h
theorem OwnK.new_ (h:OwnK T size cells X m A c At w) (hb:Below w.heap.size w w'):OwnK T size cells X m A c At w':=⟨Z00 h.own hb,h.ain,h.ap⟩
theorem OwnK.tab {At':Option Addr} (h:OwnK T size cells X m A c At w) (hk:k<X.heap.size) (hF:Fr (· = k) w w') (hf:From At w.heap.size At'):OwnK T size cells X m A c At' w':=by
 have hl:=Zjm h.own;refine ⟨Z12 h.own hF (fun g hg e=>?_),h.ain,fun a ha=>?_⟩
 · rcases A with _ | b
   · simp [Value.ownBlock] at hg
   · have e2:b.block=g:=by simpa [Value.ownBlock] using hg
     have h3:X.heap.size≤b.block:=h.ain b rfl;omega
 · rcases hf a ha with ⟨b,hb,e⟩ | h2
   · rw [← e];exact h.ap b hb
   · exact fun d hd e=>by have h4:d.block<w.heap.size:=hl d hd;omega
theorem RS.grown {n:Nat} (h:RS X k room A0 Li At ct w) (ha:AIn A (X.heap.size≤·)) (hap:AIn At (fun j=>AIn A (·≠j))) (hg:w.grownBy w' (Value.slice A n c).ownBlock):RS X k room A0 Li At ct w':=by
 have hne : ∀j,(Value.slice A n c).ownBlock=some j→X.heap.size≤j:=fun j hj=>by
  rcases A with _ | b
  · simp [Value.ownBlock] at hj
  · have e2:b.block=j:=by simpa [Value.ownBlock] using hj
    rw [← e2];exact ha b rfl
 have hF:Fr (fun j=>(Value.slice A n c).ownBlock=some j) w w':=Fr.grown (Fr.refl _ w) hg (fun j hj=>.inl hj);refine ⟨⟨h.rt.1.fr hF (fun e=>by have:=hne k e;have:=h.zk;omega),h.rt.2.1.fr hF (fun a ha2 e=>?_),h.rt.2.2.mono (fun j hj=>⟨hj.1,Zkx hj.2 hF.size⟩)⟩,h.fm,Fr.grown h.fr hg (fun j hj=>.inr (hne j hj)),h.ok,h.zk⟩;rcases A with _ | b
 · simp [Value.ownBlock] at e
 · have e2:b.block=a.block:=by simpa [Value.ownBlock] using e
   exact hap a ha2 b rfl e2
theorem OwnK.put {y:α} {v:Value} (h:OwnK T size cells X m A c At w) (hs:RS X k room A0 Li At ct w) (hown:w'.ownsRow 0 T size v (m.length+1) (m.flatMap cells ++ [y].flatMap cells)) (hg:w.grownBy w' (Value.slice A m.length c).ownBlock) (hat:v.ownBlock=(Value.slice A m.length c).ownBlock∨v.ownBlock=some w.heap.size) :
 ∃(mn:List α) (A':Option Addr) (c':Nat),mn=m ++ [y]∧v = .slice A' mn.length c'∧OwnK T size cells X mn A' c' At w'∧RS X k room A0 Li At ct w':=by
 obtain ⟨A9,c9,hv,hO9,hA9,hB9⟩:=Z95 (B:=X.heap.size) hown hg hat h.ain hs.fr.size;rw [← Zl3] at hO9;(have hl:(m ++ [y]).length=m.length+1:=by simp);refine ⟨m ++ [y],A9,c9,rfl,by rw [hl];exact hv,⟨by rw [hl];exact hO9,hA9,fun a ha d hd e=>?_⟩,hs.grown h.ain h.ap hg⟩;rcases hB9 d hd with ⟨b,hb,e2⟩ | e2
 · exact h.ap a ha b hb (e2.trans e)
 · have h3:=(hs.rt.2.2 a ha).2;omega
theorem OwnK.other {β:Type} {T2 size2:Nat} {cells2:β→List Value} {m2:List β} {B:Option Addr} {d:Nat} (h:OwnK T2 size2 cells2 X m2 B d At w) (h1:w.ownsRow 0 T size (.slice A m.length c) m.length (m.flatMap cells)) (hne:T2≠T) (hg:w.grownBy w' (Value.slice A m.length c).ownBlock):OwnK T2 size2 cells2 X m2 B d At w':=by
 have hF:Fr (fun j=>(Value.slice A m.length c).ownBlock=some j) w w':=Fr.grown (Fr.refl _ w) hg (fun j hj=>.inl hj);exact ⟨Z12 h.own hF (fun g hg2=>Z8k h.own h1 hne hg2),h.ain,h.ap⟩
end
def Z9n (k:Nat) (room:Int) (X:World) (A0:Option Addr) (r:(List Z17×List Z05×Int)×List Sym) (e:Ending) (Y:World):Prop:=
 ∃A c A' c' At ct,e = .returned (.tuple #[.slice A r.1.1.length c,.slice A' r.1.2.1.length c',.int .i64 r.1.2.2])∧Z0k Y 16 Z17.cells A c r.1.1∧Z0k Y 4 Z05.cells A' c' r.1.2.1∧Z38 Y k room r.2 At ct∧From A0 X.heap.size At∧Fr (· = k) X Y
theorem Z9n.bad {k:Nat} {room:Int} {X Y:World} {A0 At:Option Addr} {r:(List Z17×List Z05×Int)×List Sym} {e:Int} {L:List Sym} {ct:Nat} (hr:r=(([],[],e),L)) (h:Z38 Y k room L At ct) (hf:From A0 X.heap.size At) (hF:Fr (· = k) X Y) :
 Z9n k room X A0 r (.returned (.tuple #[.slice none 0 0,.slice none 0 0,.int .i64 e])) Y:=by
 subst hr;exact ⟨none,0,none,0,At,ct,rfl,Z0k.nil _ _ _,Z0k.nil _ _ _,h,hf,hF⟩
theorem RS.back {X w:World} {k:Nat} {room:Int} {A0 At:Option Addr} {Li L:List Sym} {ct c0:Nat} (h:RS X k room A0 Li At ct w) (h0:Z38 X k room L A0 c0):Z38 (w.setCell ⟨k,1,none⟩ (.slice A0 L.length c0)) k room L A0 c0∧Fr (· = k) X (w.setCell ⟨k,1,none⟩ (.slice A0 L.length c0)):=by
 have hF:Fr (· = k) X (w.setCell ⟨k,1,none⟩ (.slice A0 L.length c0)):=h.fr.setCell (p:=⟨k,1,none⟩) (.inl rfl) _;refine ⟨⟨h.rt.1.set_ 1 _,h0.2.1.fr hF (h0.2.2.mono (fun j hj e=>hj.1 e)),h0.2.2.mono (fun j hj=>⟨hj.1,Zkx hj.2 hF.size⟩)⟩,hF⟩
def rdoR (n:Nat) (p:Z31) (l:List Z05) (room:Int) (L:List Sym):(List Z17×List Z05×Int)×List Sym:=if (Z1t n p).2.1≠0 then (([],[],(Z1t n p).2.1),L) else rdoV room l p.acts L
theorem Zjq (v:ByteArray) (h:0<v.size) (W:World):(Instr.index 9 (.string v) (.int .i64 0)).run Tryz.prog W = .ok (.int .u8 (v[0].toNat:Int)) W:=by
 go_simp
theorem Z93 {n:Nat} {p:Z31} (h:(Z1t n p).2.1=0) : ∀a∈p.acts,actB a=true:=by
 refine Z8n (n:=n) (Zlr fun hn=>?_);rw [Z5e hn] at h;exact hn h
end
end Go.Proofs.YtfidcfjcmlgkbaaGreat
