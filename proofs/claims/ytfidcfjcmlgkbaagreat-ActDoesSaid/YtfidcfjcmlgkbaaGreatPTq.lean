/-
  Texts put together: FreshPlain, DoesPlain, KeepTexts, Act3, RefNews.
-/
import Derived.Test.YtfidcfjcmlgkbaaGreatPTp
namespace Go.Proofs.YtfidcfjcmlgkbaaGreat
open Lib (hid)
set_option maxRecDepth 100000
set_option maxHeartbeats 32000000
section
open Go.RowKit Go.Shelf
theorem Z9j {v:ByteArray} (h:Z0n v=true):Z0z (Z1j v)=true∧0<v.size:=by
 obtain ⟨h0,_,h1,_⟩:=Z3v.1 h;simp only [Z30,Zlc,Zlp] at h1;have h2:=Zak v[0] h1.1 h1.2;unfold Z1j;rw [dif_pos h0];simp only [Z0z,Zlc,Zlp];omega
theorem Z6d {room:Int} {l:List Z05} : ∀(vs:List ByteArray) (L:List Sym) (b:List Z05) (v:ByteArray),Z0x room L (vs ++ [v])=0→Z0x room L vs=0∧Z26 room (Z1m room b L vs).2 (Z1j v)=0
 | [],L,b,v,h=>by
   rw [Zl8,Z1i] at h
   split at h
   · rename_i hn;exact absurd h hn
   · rename_i hn;exact ⟨rfl,by simpa [Z1m] using hn⟩
 | u :: vs,L,b,v,h=>by
   rw [Zlh,Z1i] at h;rw [Z1i]
   split at h
   · rename_i hn;exact absurd h hn
   · rename_i hn
     rw [if_neg hn];have:=Z6d (l:=l) vs (Z20 room L (Z1j u)) (b ++ [⟨u,Z21 room L (Z1j u)⟩]) v h;exact ⟨this.1,by simpa [Z1m,frs] using this.2⟩
theorem Zbn {a b c:Sym} (h:Z51 a b c=true):Z07 a=true∧Z07 b=true∧Z07 c=true:=by
 simp only [Z51,Zlc] at h;exact ⟨h.1.1.2,h.1.2,h.2⟩
theorem Zei (b:List Z05) (a:ActT) : ∀s∈putA b a,Z07 s=true:=by
 intro s hs;unfold putA at hs
 cases hp:Z34 b a with
 | none=>rw [hp] at hs;cases hs
 | some x=>
   rw [hp] at hs;dsimp only at hs;unfold Z34 at hp;by_cases h1:(Z29 a.value b).2=false∨Z51 (getB b a.id).1 (Z14 a.attr b).1 (Z29 a.value b).1=false
   · rw [if_pos h1] at hp;cases hp
   rw [if_neg h1] at hp
   have hr:Z51 (getB b a.id).1 (Z14 a.attr b).1 (Z29 a.value b).1=true:=by
    cases hh:Z51 (getB b a.id).1 (Z14 a.attr b).1 (Z29 a.value b).1
    · exact absurd (.inr hh) h1
    · rfl
   obtain ⟨v1,v2,v3⟩:=Zbn hr;by_cases ho:Z1b a.pref=true
   · rw [if_pos ho] at hp hs
     by_cases hv:Z07 (Z14 a.other b).1=false
     · rw [if_pos hv] at hp;cases hp
     · rw [if_neg hv] at hp
       injection hp with hp;subst hp;simp only [Zl7,Zl9,or_false] at hs;rcases hs with rfl | rfl | rfl | rfl
       · simpa using hv
       · exact v1
       · exact v2
       · exact v3
   · rw [if_neg ho] at hp hs
     injection hp with hp;subst hp;simp only [Zl7,Zl9,or_false] at hs;rcases hs with rfl | rfl | rfl
     · exact v1
     · exact v2
     · exact v3
structure NewI (room:Int) (l:List Z05) (L:List Sym) (vs:List ByteArray) (b:List Z05) (L2:List Sym):Prop where
 len:b.length=l.length+vs.length
 pre:b.take l.length=l
 srt:Srt Z01 L2
 room_:(L2.length:Int)≤room
 mono : ∀s∈L,s∈L2
 put:Z6q room L (b.drop l.length)=L2
 at_ : ∀i,(h:i<vs.length)→∃s:Sym,b[l.length+i]? = some ⟨vs[i],s⟩∧s.kind=1∧s.text=letB (Z1j vs[i])∧s ∉ L∧s∈L2
 apart : ∀i k,i<k→k<vs.length→∀x y:Z05,b[l.length+i]? = some x→b[l.length+k]? = some y→x.sym≠y.sym
theorem Zg7 {room:Int} {l:List Z05} {L:List Sym} (hs:Srt Z01 L) (hr:(L.length:Int)≤room) : ∀(n:Nat) (vs:List ByteArray),vs.length=n→(∀v∈vs,Z0n v=true)→Z0x room L vs=0→NewI room l L vs (Z1m room l L vs).1 (Z1m room l L vs).2
 | 0,vs,hn,_,_=>by
   obtain rfl:vs = []:=List.eq_nil_of_length_eq_zero hn;refine ⟨by simp [Z1m],by simp [Z1m],hs,hr,fun s h=>h,by simp [Z1m,Z6q],fun i h=>absurd h (by simp),fun i k _ h=>absurd h (by simp)⟩
 | n+1,vs,hn,hw,he=>by
   obtain ⟨us,v,rfl⟩ : ∃us v,vs=us ++ [v]:=by
    rcases List.eq_nil_or_concat vs with h | ⟨us,v,h⟩
    · rw [h] at hn;cases hn
    · exact ⟨us,v,by rw [h,List.concat_eq_append]⟩
   (have hun:us.length=n:=by simpa using hn);have hwu : ∀u∈us,Z0n u=true:=fun u hu=>hw u (List.mem_append_left _ hu);have hg:=(Z9j (hw v (by simp))).1;obtain ⟨e1,e2⟩:=Z6d (l:=l) us L l v he;have I:=Zg7 (l:=l) hs hr n us hun hwu e1;rw [Z2v];generalize hb:(Z1m room l L us).1=b at I;generalize hL2:(Z1m room l L us).2=L2 at I e2;(have hfr:frs room (Z1m room l L us) v=(b ++ [⟨v,Z21 room L2 (Z1j v)⟩],Z20 room L2 (Z1j v)):=by unfold frs;rw [hb,hL2]);rw [hfr];(have es:Z21 room L2 (Z1j v)=⟨1,letB (Z1j v),Z1p L2 (Z1j v)⟩:=by unfold Z21;rw [if_pos e2]);(have el:Z20 room L2 (Z1j v)=put Z01 L2 ⟨1,letB (Z1j v),Z1p L2 (Z1j v)⟩:=by unfold Z20;rw [if_pos e2]);rw [es,el];obtain ⟨s,hsd⟩ : ∃s:Sym,s=⟨1,letB (Z1j v),Z1p L2 (Z1j v)⟩:=⟨_,rfl⟩;have hnot:=Z84 (L:=L2) hg;rw [← hsd] at hnot ⊢;have hnm:s ∉ L2:=Z98.1 hnot;have hlen:=Z2o Z1d I.srt hnot;have e2':=e2;unfold Z26 at e2'
   have hroom:(L2.length:Int)<room∧Z1p L2 (Z1j v)≤1048576:=by
    split at e2'
    · cases e2'
    · split at e2'
      · cases e2'
      · rename_i h;exact ⟨by omega,by omega⟩
   have hval:Z07 s=true:=by
    have h1:=Z8b (L:=L2) hg;rw [hsd];(have h2:Z9u Z0z (letB (Z1j v))=true:=by simp [Z9u,letB,hg]);simp [Z07,Z58,h2,hroom.2,h1]
   have hpl:Z10 room L2 [s]=put Z01 L2 s:=by
    unfold Z10;rw [if_pos (by simp [hval]),if_neg (by show ¬room<((put Z01 L2 s).length:Int);omega)];rfl
   have hold : ∀i,i<us.length→(b ++ [⟨v,s⟩])[l.length+i]? = b[l.length+i]?:=fun i hi=>Zls (by rw [I.len];omega)
   have hnew:(b ++ [(⟨v,s⟩:Z05)])[l.length+us.length]? = some ⟨v,s⟩:=by
    rw [Zlo (by rw [I.len];exact Zkt _),I.len];simp
   refine ⟨by simp [I.len];omega,?_,I.srt.put Z1d s,?_,fun x hx=>Z35.2 (.inl (I.mono x hx)),?_,fun i hi=>?_,fun i k hik hk x y hx hy=>?_⟩
   · rw [List.take_append_of_le_length (by rw [I.len];omega)];exact I.pre
   · rw [hlen];have:=hroom.1;omega
   · rw [List.drop_append_of_le_length (by rw [I.len];omega),Z8f,I.put]
     exact hpl
   · simp at hi
     rcases Nat.lt_or_ge i us.length with h | h
     · obtain ⟨t,a1,a2,a3,a4,a5⟩:=I.at_ i h
       refine ⟨t,?_,a2,?_,a4,Z35.2 (.inl a5)⟩
       · rw [hold i h,a1,List.getElem_append_left h]
       · rw [a3,List.getElem_append_left h]
     · obtain rfl:i=us.length:=by omega
       refine ⟨s,?_,by rw [hsd],?_,fun hm=>hnm (I.mono s hm),Z35.2 (.inr rfl)⟩
       · rw [hnew];simp
       · rw [hsd];simp
   · simp at hk
     rcases Nat.lt_or_ge k us.length with h | h
     · rw [hold i (by omega)] at hx
       rw [hold k h] at hy;exact I.apart i k hik h x y hx hy
     · obtain rfl:k=us.length:=by omega
       rw [hold i hik] at hx;rw [hnew] at hy;injection hy with hy;obtain ⟨t,a1,_,_,_,a5⟩:=I.at_ i hik;rw [a1] at hx;injection hx with hx;rw [← hx,← hy];rintro h;dsimp only at h;exact hnm (h ▸ a5)
def Z15 (b:List Z05) (a:ActT):List (List Sym):=
 if Z5n b a=true then [] else [(getB b a.id).1,(Z14 a.attr b).1,(Z29 a.value b).1] :: (if 8≤a.pref then [[(Z14 a.other b).1]] else [])
def Z44 (b:List Z05) (a:ActT):Option Z17:=
 if Z5n b a=true then none else some ⟨(getB b a.id).1,(Z14 a.attr b).1,(Z29 a.value b).1,if 8≤a.pref then (Z14 a.other b).1 else zS,a.pref,false,0,0⟩
def rdoV (room:Int) (l:List Z05) (acts:List ActT) (L:List Sym):(List Z17×List Z05×Int)×List Sym:=
 if Z0x room L (Z2r l acts)≠0 then (([],[],Z0x room L (Z2r l acts)),L)
 else if (Z3q room (Z1e room l acts L).2 (acts.flatMap (Z15 (Z1e room l acts L).1))).1≠0 then (([],[],(Z3q room (Z1e room l acts L).2 (acts.flatMap (Z15 (Z1e room l acts L).1))).1),L)
 else ((acts.filterMap (Z44 (Z1e room l acts L).1),(Z1e room l acts L).1,0),(Z3q room (Z1e room l acts L).2 (acts.flatMap (Z15 (Z1e room l acts L).1))).2)
theorem Z9o {a:ActT} (h:actB a=true):1≤a.pref∧a.pref≤10:=by
 unfold actB at h;by_cases h1:Z0n a.id=false∨Z25 a.attr=false∨Z2d a.value=false∨a.pref<1∨10<a.pref
 · rw [if_pos h1] at h;cases h
 · exact ⟨by omega,by omega⟩
theorem Zeg {b:List Z05} {a:ActT} (h1:1≤a.pref) (h:a.pref≤10) (s:Sym):s∈(Z15 b a).flatten↔s∈putA b a:=by
 have ho:Z1b a.pref=decide (8≤a.pref):=by
  unfold Z1b;rw [Zly];simp only [Zmc,Zlp];omega
 unfold putA;rw [Zbp h,ho];unfold Z15;by_cases hs:Z5n b a=true
 · rw [if_pos hs,if_pos hs];rfl
 · rw [if_neg hs,if_neg hs]
   by_cases h8:8≤a.pref
   · simp only [h8,if_true,decide_true,List.flatten_cons,List.flatten_nil,Zmd,Zlv,Zl7,Zl9,or_false]
     constructor
     · rintro ((h | h | h) | h)<;>simp [h]
     · rintro (h | h | h | h)<;>simp [h]
   · simp [h8]
theorem Z9e {b:List Z05} : ∀{acts:List ActT},(∀a∈acts,actB a=true)→∀s,s∈(acts.flatMap (Z15 b)).flatten↔s∈acts.flatMap (putA b)
 | [],_,s=>by simp
 | a :: r,h,s=>by
   have ha:=Z9o (h a Zmb);rw [Zlk,List.flatten_append,Zlk,Zlv,Zlv,Zeg ha.1 ha.2,Z9e (fun x hx=>h x (Zm0 _ hx))]
theorem Zbf {b:List Z05} : ∀{acts:List ActT},(∀a∈acts,actB a=true)→acts.filterMap (Z44 b)=acts.filterMap (Z34 b)
 | [],_=>rfl
 | a :: r,h=>by
   have ha:=Z9o (h a Zmb);rw [Zl2,Zl2,Zbf (fun x hx=>h x (Zm0 _ hx)),Zbp ha.2];rfl
theorem Zkk {room:Int} {l:List Z05} {acts:List ActT} {L:List Sym} (ha : ∀a∈acts,actB a=true) (hs:Srt Z01 L) (hr:(L.length:Int)≤room):rdoV room l acts L=doV room l acts L:=by
 unfold rdoV doV;by_cases h1:Z0x room L (Z2r l acts)=0
 · have n1 : ¬Z0x room L (Z2r l acts)≠0:=by rw [h1];simp
   rw [if_neg n1,if_neg n1];have I:=Zg7 (l:=l) hs hr _ _ rfl (Z77 (l:=l) ha) h1;have hp:=I.put;have hs2:=I.srt;have hr2:=I.room_;rw [show Z1m room l L (Z2r l acts)=Z1e room l acts L from rfl] at hp hs2 hr2;unfold Z6q at hp;rw [hp];have hm:=Z9e (b:=(Z1e room l acts L).1) ha
   obtain ⟨c1,c2⟩:=Z8l room (acts.flatMap (Z15 (Z1e room l acts L).1)) _ hs2 hr2 (fun Z hZ s hZs=>by
    have:s∈acts.flatMap (putA (Z1e room l acts L).1):=(hm s).1 (List.mem_flatten.2 ⟨Z,hZ,hZs⟩);obtain ⟨a,_,h⟩:=List.mem_flatMap.1 this
    exact Zei _ a s h)
   obtain ⟨d1,d2⟩:=Zbg (room:=room) hs2 hm;rw [c1,d1];by_cases h2:Z16 room (Z1e room l acts L).2 (acts.flatMap (putA (Z1e room l acts L).1))=0
   · have n2 : ¬Z16 room (Z1e room l acts L).2 (acts.flatMap (putA (Z1e room l acts L).1))≠0:=by rw [h2];simp
     rw [if_neg n2,if_neg n2,c2 (by rw [c1,d1,h2]),d2,Zbf ha]
   · rw [if_pos h2,if_pos h2]
 · rw [if_pos h1,if_pos h1]
def strC (s:ByteArray):List Value:=[.string s]
theorem Zai (s:ByteArray):(strC s).length=1:=rfl
theorem Zjt (l:List ByteArray) : ∀u∈l.flatMap strC,u.oneCell'=true:=by
 intro u hu;obtain ⟨s,_,h⟩:=List.mem_flatMap.1 hu;simp only [strC,Zl7,Zl9,or_false] at h;subst h;rfl
theorem Zdd:(Tryz.prog.info? 9).map (fun i=>(i.zero,i.size,i.bytes))=some (some (.string ⟨#[]⟩),1,16):=by kernel_rfl
def Zk8 (W:World) (xs:List ByteArray) (e:Ending) (W':World):Prop:=
 ∃A c,e = .returned (.slice A xs.length c)∧W'.ownsRow 0 9 1 (.slice A xs.length c) xs.length (xs.flatMap strC)∧AIn A (W.heap.size≤·)∧Below W.heap.size W W'
theorem Zip {D:Nat→Prop} {w:World} {A:Option Addr} {c k:Nat} {l:List ByteArray} (h:RowR Z42 D w A c l) (hk:k<l.length) : ∃g off,A=some ⟨g,off,none⟩∧g<w.heap.size∧w.cell? ⟨g,off+k,none⟩=some (.string l[k]):=by
 obtain ⟨g,off,cs,hA,hD,hg,hr,hc⟩:=h.at_ hk;have hr2:cs = [.string l[k]]:=hr;subst hr2;exact ⟨g,off,hA,hg,by simpa [Z42,RepT.flat] using hc 0 _ rfl⟩
theorem Z3i {w:World} {A:Option Addr} {c n:Nat} {l:List ByteArray} (hn:l.length=n) (h:w.ownsRow 0 9 1 (.slice A n c) n (l.flatMap strC)):RowR Z42 (fun _=>True) w A c l:=by
 subst hn;exact RowR.of_rd (Z0j Zai h) (fun _ _=>trivial)
def inB (l:List ByteArray) (v:ByteArray):Bool:=l.any fun s=>decide (s.toList=v.toList)
theorem Zdc {D:Nat→Prop} {A:Option Addr} {c:Nat} (l:List ByteArray) (v:ByteArray) (w:World) (h:RowR Z42 D w A c l):Calls Tryz.prog 99 #[.slice A l.length c,.string v] w fun e w'=>e = .returned (.bool (inB l v))∧w=w':=by
 have H:=hid h;have hlc:=h.cap;clear h;go_enter Tryz.func99,Tryz.ntmps99;go_wp2_with fail
 go_loopw [5] (fun s wr=>∃i:Nat,s = .int .i64 i∧i≤l.length∧(∀k,(h:k<l.length)→k<i→¬l[k].toList=v.toList)∧wr=w) (fun s wr=>l.length - (intOf s).toNat)
 case atStart=>exact ⟨0,rfl,Nat.zero_le _,fun k _ h=>absurd h (by omega),rfl⟩
 case round=>
  obtain ⟨i,rfl,hi,hall,rfl⟩:=hrel;have HALL:=hid hall;clear hall;by_cases hlt:i<l.length
  · obtain ⟨x,hx⟩ : ∃x,x=l[i]:=⟨_,rfl⟩
    obtain ⟨g,off,rfl,hgs,q0⟩:=Zip H.out hlt;rw [← hx] at q0;(have b1:(0:Int)≤(i:Int):=by omega);(have b2:(i:Int)<(l.length:Int):=by omega);have HX:=hid hx;clear hx;by_cases he:x.toList=v.toList
    · have t1:(x.toList == v.toList)=true:=by simp [he]
      (have t2:decide (x.toList=v.toList)=true:=by simp [he]);have HN:=hid (show inB l v=true from Zma.2 ⟨x,by rw [HX.out];exact Zlj hlt,t2⟩);clear he;(go_wp2_with fail);go_ret;exact ⟨by rw [HN.out];rfl,rfl⟩
    · have t1:(x.toList == v.toList)=false:=by simp [he]
      (have t2:decide (x.toList=v.toList)=false:=by simp [he]);have HE:=hid he;clear he;(go_wp2_with fail);go_roundw
      case rel=>
       refine ⟨i+1,by go_num,by omega,fun k h hk=>?_,by trivial⟩;rcases Nat.lt_or_ge k i with h3 | h3
       · exact HALL.out k h h3
       · obtain rfl:k=i:=by omega
         rw [← HX.out];exact HE.out
      case measure=>simp [intOf]<;>omega
  · have hie:i=l.length:=by omega
    subst hie
    have HN:=hid (show inB l v=false by
     unfold inB;rw [List.any_eq_false];intro x hx;obtain ⟨k,hk,rfl⟩:=List.getElem_of_mem hx
     simpa using HALL.out k hk hk)
    (go_wp2_with fail);go_ret;exact ⟨by rw [HN.out];rfl,rfl⟩
theorem Ziq {a:Sym} {k:Int} (h:a.kind=k) : ∃x y,a=⟨k,x,y⟩:=by
 obtain ⟨k',x,y⟩:=a;simp only at h;subst h;exact ⟨x,y,rfl⟩
def Zec (s:Sym) (ok:Bool):Sym×Bool:=if ok=true then (s,true) else (zS,false)
theorem Za8 (s:Sym) (ok:Bool) (w:World):Calls Tryz.prog 101 #[.agg #[.int .i64 s.kind,.string s.text,.int .i64 s.n],.bool ok] w (Z2k w (Zec s ok)):=by
 cases ok
 · skip
   go_enter Tryz.func101,Tryz.ntmps101;(go_upto_region 1 with fail);obtain ⟨w1,hw1⟩ : ∃w1,w1=((w.alloc (.cells #[.int .i64 s.kind,.string s.text,.int .i64 s.n] 38)).alloc (.cells #[.int .i64 0,.string ⟨#[]⟩,.int .i64 0] 38)):=⟨_,rfl⟩;rw [← hw1];have HB:=hid (show Below w.heap.size w w1 by rw [hw1];exact (by repeat (first | exact Zks _ _ | refine Below.drew ?_ | refine Below.al ?_ _ | refine Below.sc ?_ _)));have Ks:=hid (show Blk w1 (w.heap.size) 38 #[.int .i64 s.kind,.string s.text,.int .i64 s.n] by rw [hw1];exact ((Blk.new w 38 #[.int .i64 s.kind,.string s.text,.int .i64 s.n]).alloc (.cells #[.int .i64 0,.string ⟨#[]⟩,.int .i64 0] 38)));have Kr:=hid (show Blk w1 (w.heap.size+1) 38 #[.int .i64 0,.string ⟨#[]⟩,.int .i64 0] by rw [hw1];have hh:=(Blk.new (w.alloc (.cells #[.int .i64 s.kind,.string s.text,.int .i64 s.n] 38)) 38 #[.int .i64 0,.string ⟨#[]⟩,.int .i64 0]);simp only [Zld] at hh;exact hh);clear hw1;obtain ⟨s0,s1,s2⟩:=Ks.out.c3;have sz:=Ks.out.lt;obtain ⟨r0,r1,r2⟩:=Kr.out.c3;have rf0:=Kr.out.frozen 0;have rf1:=Kr.out.frozen 1;have rf2:=Kr.out.frozen 2;have rz:=Kr.out.lt;(go_wp2_with fail);unfold Z2k;exact bodyPost_ret (v:=.tuple #[.agg #[.int .i64 0,.string ⟨#[]⟩,.int .i64 0],.bool false]) (by simp [results,Tryz.results101,go_sem, *]) rfl ⟨rfl,by (repeat (first | exact Zks _ _ | exact HB.out | refine Below.drew ?_ | refine Below.al ?_ _ | refine Below.sc ?_ _))⟩
 · skip
   go_enter Tryz.func101,Tryz.ntmps101;(go_upto_region 1 with fail);obtain ⟨w1,hw1⟩ : ∃w1,w1=((w.alloc (.cells #[.int .i64 s.kind,.string s.text,.int .i64 s.n] 38)).alloc (.cells #[.int .i64 0,.string ⟨#[]⟩,.int .i64 0] 38)):=⟨_,rfl⟩;rw [← hw1];have HB:=hid (show Below w.heap.size w w1 by rw [hw1];exact (by repeat (first | exact Zks _ _ | refine Below.drew ?_ | refine Below.al ?_ _ | refine Below.sc ?_ _)));have Ks:=hid (show Blk w1 (w.heap.size) 38 #[.int .i64 s.kind,.string s.text,.int .i64 s.n] by rw [hw1];exact ((Blk.new w 38 #[.int .i64 s.kind,.string s.text,.int .i64 s.n]).alloc (.cells #[.int .i64 0,.string ⟨#[]⟩,.int .i64 0] 38)));have Kr:=hid (show Blk w1 (w.heap.size+1) 38 #[.int .i64 0,.string ⟨#[]⟩,.int .i64 0] by rw [hw1];have hh:=(Blk.new (w.alloc (.cells #[.int .i64 s.kind,.string s.text,.int .i64 s.n] 38)) 38 #[.int .i64 0,.string ⟨#[]⟩,.int .i64 0]);simp only [Zld] at hh;exact hh);clear hw1;obtain ⟨s0,s1,s2⟩:=Ks.out.c3;have sz:=Ks.out.lt;obtain ⟨r0,r1,r2⟩:=Kr.out.c3;have rf0:=Kr.out.frozen 0;have rf1:=Kr.out.frozen 1;have rf2:=Kr.out.frozen 2;have rz:=Kr.out.lt;(go_wp2_with fail);unfold Z2k;exact bodyPost_ret (v:=.tuple #[.agg #[.int .i64 s.kind,.string s.text,.int .i64 s.n],.bool true]) (by simp [results,Tryz.results101,go_sem, *]) rfl ⟨rfl,by (repeat (first | exact Zks _ _ | exact HB.out | refine Below.drew ?_ | refine Below.al ?_ _ | refine Below.sc ?_ _))⟩
def bigB (n:Int):Bool:=decide (2147483647<n) || decide (n < -2147483647)
theorem Zf3 (n:Int) (w:World):Calls Tryz.prog 102 #[.int .i64 n] w fun e w'=>e = .returned (.bool (bigB n))∧w=w':=by
 have HV:=hid (show bigB n=(decide (2147483647<n) || decide (n < -2147483647)) from rfl);go_enter Tryz.func102,Tryz.ntmps102;go_wp2_with fail
 all_goals
  go_ret;refine ⟨?_,rfl⟩;rw [HV.out];refine Z0v ?_;simp_all
theorem Z8e (n:Int):Zec ⟨2,⟨#[]⟩,n⟩ (!bigB n)=numR n:=by
 unfold Zec numR bigB;by_cases h1:n < -2147483647
 · simp [h1]
 · by_cases h2:2147483647<n
   · simp [h2]
   · simp [h1,h2]
theorem Zgo {D:Nat→Prop} {A:Option Addr} {c:Nat} (t:Z5m) (l:List Z05) (w:World) (h:RowR Z0s D w A c l) :
 Calls Tryz.prog 54 #[.agg #[.int .i64 t.op,.string t.a.var,.int .i64 t.a.sym.kind,.string t.a.sym.text,.int .i64 t.a.sym.n,.string t.b.var,.int .i64 t.b.sym.kind,.string t.b.sym.text,.int .i64 t.b.sym.n],.slice A l.length c] w (Z2k w (Z29 t l)):=by
 have H0:=hid h;clear h;obtain ⟨⟨a,oa⟩,ha⟩ : ∃r,r=Z14 t.a l:=⟨_,rfl⟩;obtain ⟨⟨b,ob⟩,hb0⟩ : ∃r,r=Z14 t.b l:=⟨_,rfl⟩;obtain ⟨R,hR⟩ : ∃R,R=Z29 t l:=⟨_,rfl⟩;rw [← hR];unfold Z29 at hR;rw [← ha,← hb0] at hR;dsimp only at hR;have HV:=hid hR;have HA:=hid ha;have HBB:=hid hb0;clear ha hb0 hR;go_enter Tryz.func54,Tryz.ntmps54;(go_upto_region 1 with fail);obtain ⟨w1,hw1⟩ : ∃w1,w1=((w.alloc (.cells #[.int .i64 t.op,.string t.a.var,.int .i64 t.a.sym.kind,.string t.a.sym.text,.int .i64 t.a.sym.n,.string t.b.var,.int .i64 t.b.sym.kind,.string t.b.sym.text,.int .i64 t.b.sym.n] 93)).alloc (.cells #[.int .i64 0,.string ⟨#[]⟩,.int .i64 0] 38)):=⟨_,rfl⟩;rw [← hw1];have HB:=hid (show Below w.heap.size w w1 by rw [hw1];exact (by repeat (first | exact Zks _ _ | refine Below.drew ?_ | refine Below.al ?_ _ | refine Below.sc ?_ _)));have Kt:=hid (show Blk w1 (w.heap.size) 93 #[.int .i64 t.op,.string t.a.var,.int .i64 t.a.sym.kind,.string t.a.sym.text,.int .i64 t.a.sym.n,.string t.b.var,.int .i64 t.b.sym.kind,.string t.b.sym.text,.int .i64 t.b.sym.n] by rw [hw1];exact ((Blk.new w 93 #[.int .i64 t.op,.string t.a.var,.int .i64 t.a.sym.kind,.string t.a.sym.text,.int .i64 t.a.sym.n,.string t.b.var,.int .i64 t.b.sym.kind,.string t.b.sym.text,.int .i64 t.b.sym.n]).alloc (.cells #[.int .i64 0,.string ⟨#[]⟩,.int .i64 0] 38)));have Kr:=hid (show Blk w1 (w.heap.size+1) 38 #[.int .i64 0,.string ⟨#[]⟩,.int .i64 0] by rw [hw1];have hh:=(Blk.new (w.alloc (.cells #[.int .i64 t.op,.string t.a.var,.int .i64 t.a.sym.kind,.string t.a.sym.text,.int .i64 t.a.sym.n,.string t.b.var,.int .i64 t.b.sym.kind,.string t.b.sym.text,.int .i64 t.b.sym.n] 93)) 38 #[.int .i64 0,.string ⟨#[]⟩,.int .i64 0]);simp only [Zld] at hh;exact hh);clear hw1;obtain ⟨t0,t1,t2,t3,t4,t5,t6,t7,t8⟩:=Kt.out.c9;have tz:=Kt.out.lt;obtain ⟨r0,r1,r2⟩:=Kr.out.c3;have rf0:=Kr.out.frozen 0;have rf1:=Kr.out.frozen 1;have rf2:=Kr.out.frozen 2;have rz:=Kr.out.lt;(go_wp2_with fail);have hc:=Z6s t.a l w1 (H0.out.new_ HB.out);rw [← HA.out] at hc;(with_reducible refine (hc).mono ?_);rintro e w2 ⟨rfl,hb⟩;have hbs:=Below.trans (show Below w1.heap.size w1 _ from (by (repeat (first | exact Zks _ _ | refine Below.drew ?_ | refine Below.al ?_ _ | refine Below.sc ?_ _)))) (hb.mono (by simp<;>omega));have Kt:=hid (Kt.out.new_ hbs);have Kr:=hid (Kr.out.new_ hbs);have HB:=hid (HB.out.trans (hbs.mono HB.out.size));have hsz2:=hbs.size;clear t0 t1 t2 t3 t4 t5 t6 t7 t8 tz r0 r1 r2 rf0 rf1 rf2 rz hb hbs;obtain ⟨t0,t1,t2,t3,t4,t5,t6,t7,t8⟩:=Kt.out.c9;have tz:=Kt.out.lt
 obtain ⟨r0,r1,r2⟩:=Kr.out.c3;have rf0:=Kr.out.frozen 0;have rf1:=Kr.out.frozen 1;have rf2:=Kr.out.frozen 2;have rz:=Kr.out.lt;by_cases hop:t.op=0
 · skip
   (have qoa:(t.op == 0)=true:=by simp [hop]);(have qob:decide (t.op=0)=true:=by simp [hop]);have HF:=hid (show R=Zec a oa by rw [HV.out];cases oa<;>simp [hop,Zec]);clear hop;(go_wp2_with fail);(with_reducible refine (Za8 a oa _).mono ?_);rintro e w3 ⟨rfl,hb⟩;have hbs:=Below.trans (show Below w2.heap.size w2 _ from (by (repeat (first | exact Zks _ _ | refine Below.drew ?_ | refine Below.al ?_ _ | refine Below.sc ?_ _)))) (hb.mono (by simp<;>omega));have Kt:=hid (Kt.out.new_ hbs);have Kr:=hid (Kr.out.new_ hbs);have Ka:=hid (show Blk w3 (w2.heap.size) 38 #[.int .i64 a.kind,.string a.text,.int .i64 a.n] from (Blk.new _ _ _).new_ hb);have HB:=hid (HB.out.trans (hbs.mono HB.out.size));have hsz3:=hbs.size;clear t0 t1 t2 t3 t4 t5 t6 t7 t8 tz r0 r1 r2 rf0 rf1 rf2 rz hb hbs;obtain ⟨t0,t1,t2,t3,t4,t5,t6,t7,t8⟩:=Kt.out.c9;have tz:=Kt.out.lt;obtain ⟨r0,r1,r2⟩:=Kr.out.c3;have rf0:=Kr.out.frozen 0;have rf1:=Kr.out.frozen 1;have rf2:=Kr.out.frozen 2;have rz:=Kr.out.lt;obtain ⟨a0,a1,a2⟩:=Ka.out.c3;have az:=Ka.out.lt;obtain ⟨⟨ax,ox⟩,hx⟩ : ∃r,r=Zec a oa:=⟨_,rfl⟩;rw [← hx] at HF ⊢;clear hx;dsimp only;(go_wp2_with fail);unfold Z2k;rw [HF.out];exact bodyPost_ret (v:=.tuple #[.agg #[.int .i64 ax.kind,.string ax.text,.int .i64 ax.n],.bool ox]) (by simp [results,Tryz.results54,go_sem, *]) rfl ⟨rfl,by (repeat (first | exact Zks _ _ | exact HB.out | refine Below.drew ?_ | refine Below.al ?_ _ | refine Below.sc ?_ _))⟩
 · skip
   (have qoa:(t.op == 0)=false:=by simp [hop]);(have qob:decide (t.op=0)=false:=by simp [hop]);have hc:=fun W (hb:Below w.heap.size w W)=>Z6s t.b l W (H0.out.new_ hb);simp only [← HBB.out] at hc;have HC:=hid hc;clear hc;(go_wp2_with fail);(with_reducible refine (HC.out _ (by (repeat (first | exact Zks _ _ | exact HB.out | refine Below.drew ?_ | refine Below.al ?_ _ | refine Below.sc ?_ _)))).mono ?_);rintro e w3 ⟨rfl,hb⟩;have hbs:=Below.trans (show Below w2.heap.size w2 _ from (by (repeat (first | exact Zks _ _ | refine Below.drew ?_ | refine Below.al ?_ _ | refine Below.sc ?_ _)))) (hb.mono (by simp<;>omega));have Kt:=hid (Kt.out.new_ hbs);have Kr:=hid (Kr.out.new_ hbs);have Ka:=hid (show Blk w3 (w2.heap.size) 38 #[.int .i64 a.kind,.string a.text,.int .i64 a.n] from (Blk.new _ _ _).new_ hb);have HB:=hid (HB.out.trans (hbs.mono HB.out.size));have hsz3:=hbs.size;clear t0 t1 t2 t3 t4 t5 t6 t7 t8 tz r0 r1 r2 rf0 rf1 rf2 rz hb hbs;obtain ⟨t0,t1,t2,t3,t4,t5,t6,t7,t8⟩:=Kt.out.c9;have tz:=Kt.out.lt;obtain ⟨r0,r1,r2⟩:=Kr.out.c3;have rf0:=Kr.out.frozen 0;have rf1:=Kr.out.frozen 1;have rf2:=Kr.out.frozen 2;have rz:=Kr.out.lt;obtain ⟨a0,a1,a2⟩:=Ka.out.c3;have az:=Ka.out.lt;cases oa
   · skip
     have HF:=hid (show R=(zS,false) by rw [HV.out];simp);(go_wp2_with fail);unfold Z2k;rw [HF.out];exact bodyPost_ret (v:=.tuple #[.agg #[.int .i64 0,.string ⟨#[]⟩,.int .i64 0],.bool false]) (by simp [results,Tryz.results54,go_sem, *]) rfl ⟨rfl,by (repeat (first | exact Zks _ _ | exact HB.out | refine Below.drew ?_ | refine Below.al ?_ _ | refine Below.sc ?_ _))⟩
   · skip
     cases ob
     · skip
       have HF:=hid (show R=(zS,false) by rw [HV.out];simp [hop]);(go_wp2_with fail);unfold Z2k;rw [HF.out];exact bodyPost_ret (v:=.tuple #[.agg #[.int .i64 0,.string ⟨#[]⟩,.int .i64 0],.bool false]) (by simp [results,Tryz.results54,go_sem, *]) rfl ⟨rfl,by (repeat (first | exact Zks _ _ | exact HB.out | refine Below.drew ?_ | refine Below.al ?_ _ | refine Below.sc ?_ _))⟩
     · skip
       by_cases hka:a.kind=2
       · skip
         obtain ⟨ta,na,rfl⟩ : ∃x y,a=⟨2,x,y⟩:=Ziq hka;clear hka;by_cases hkb:b.kind=2
         · skip
           obtain ⟨tb,nb,rfl⟩ : ∃x y,b=⟨2,x,y⟩:=Ziq hkb;clear hkb;cases hva:Z07 ⟨2,ta,na⟩
           · skip
             have hc:=fun W=>Z2l ⟨2,ta,na⟩ W;simp only [hva] at hc;have HC:=hid hc;clear hc;(go_wp2_with fail);(with_reducible refine (HC.out _).mono ?_);rintro e w4 ⟨rfl,hb⟩;have hbs:=Below.trans (show Below w3.heap.size w3 _ from (by (repeat (first | exact Zks _ _ | refine Below.drew ?_ | refine Below.al ?_ _ | refine Below.sc ?_ _)))) (hb.mono (by simp<;>omega));have Kt:=hid (Kt.out.new_ hbs);have Kr:=hid (Kr.out.new_ hbs);have Ka:=hid (Ka.out.new_ hbs);have Kb:=hid (show Blk w4 (w3.heap.size) 38 #[.int .i64 2,.string tb,.int .i64 nb] from (Blk.new _ _ _).new_ hb);have HB:=hid (HB.out.trans (hbs.mono HB.out.size));have hsz4:=hbs.size;clear t0 t1 t2 t3 t4 t5 t6 t7 t8 tz r0 r1 r2 rf0 rf1 rf2 rz a0 a1 a2 az hb hbs;obtain ⟨t0,t1,t2,t3,t4,t5,t6,t7,t8⟩:=Kt.out.c9;have tz:=Kt.out.lt;obtain ⟨r0,r1,r2⟩:=Kr.out.c3;have rf0:=Kr.out.frozen 0;have rf1:=Kr.out.frozen 1;have rf2:=Kr.out.frozen 2;have rz:=Kr.out.lt;obtain ⟨a0,a1,a2⟩:=Ka.out.c3;have az:=Ka.out.lt;obtain ⟨b0,b1,b2⟩:=Kb.out.c3;have bz:=Kb.out.lt;have HF:=hid (show R=(zS,false) by rw [HV.out];simp [hop,Z4p,hva]);(go_wp2_with fail);unfold Z2k;rw [HF.out];exact bodyPost_ret (v:=.tuple #[.agg #[.int .i64 0,.string ⟨#[]⟩,.int .i64 0],.bool false]) (by simp [results,Tryz.results54,go_sem, *]) rfl ⟨rfl,by (repeat (first | exact Zks _ _ | exact HB.out | refine Below.drew ?_ | refine Below.al ?_ _ | refine Below.sc ?_ _))⟩
           · skip
             have hc:=fun W=>Z2l ⟨2,ta,na⟩ W;simp only [hva] at hc;have HC:=hid hc;clear hc;(go_wp2_with fail);(with_reducible refine (HC.out _).mono ?_);rintro e w4 ⟨rfl,hb⟩;have hbs:=Below.trans (show Below w3.heap.size w3 _ from (by (repeat (first | exact Zks _ _ | refine Below.drew ?_ | refine Below.al ?_ _ | refine Below.sc ?_ _)))) (hb.mono (by simp<;>omega));have Kt:=hid (Kt.out.new_ hbs);have Kr:=hid (Kr.out.new_ hbs);have Ka:=hid (Ka.out.new_ hbs);have Kb:=hid (show Blk w4 (w3.heap.size) 38 #[.int .i64 2,.string tb,.int .i64 nb] from (Blk.new _ _ _).new_ hb);have HB:=hid (HB.out.trans (hbs.mono HB.out.size));have hsz4:=hbs.size;clear t0 t1 t2 t3 t4 t5 t6 t7 t8 tz r0 r1 r2 rf0 rf1 rf2 rz a0 a1 a2 az hb hbs;obtain ⟨t0,t1,t2,t3,t4,t5,t6,t7,t8⟩:=Kt.out.c9;have tz:=Kt.out.lt;obtain ⟨r0,r1,r2⟩:=Kr.out.c3;have rf0:=Kr.out.frozen 0;have rf1:=Kr.out.frozen 1;have rf2:=Kr.out.frozen 2;have rz:=Kr.out.lt;obtain ⟨a0,a1,a2⟩:=Ka.out.c3;have az:=Ka.out.lt;obtain ⟨b0,b1,b2⟩:=Kb.out.c3;have bz:=Kb.out.lt;cases hvb:Z07 ⟨2,tb,nb⟩
             · skip
               have hc:=fun W=>Z2l ⟨2,tb,nb⟩ W;simp only [hvb] at hc;have HC:=hid hc;clear hc;(go_wp2_with fail);(with_reducible refine (HC.out _).mono ?_);rintro e w5 ⟨rfl,hb⟩;have hbs:=Below.trans (show Below w4.heap.size w4 _ from (by (repeat (first | exact Zks _ _ | refine Below.drew ?_ | refine Below.al ?_ _ | refine Below.sc ?_ _)))) (hb.mono (by simp<;>omega));have Kt:=hid (Kt.out.new_ hbs);have Kr:=hid (Kr.out.new_ hbs);have Ka:=hid (Ka.out.new_ hbs);have Kb:=hid (Kb.out.new_ hbs);have HB:=hid (HB.out.trans (hbs.mono HB.out.size));have hsz5:=hbs.size;clear t0 t1 t2 t3 t4 t5 t6 t7 t8 tz r0 r1 r2 rf0 rf1 rf2 rz a0 a1 a2 az b0 b1 b2 bz hb hbs;obtain ⟨t0,t1,t2,t3,t4,t5,t6,t7,t8⟩:=Kt.out.c9;have tz:=Kt.out.lt;obtain ⟨r0,r1,r2⟩:=Kr.out.c3;have rf0:=Kr.out.frozen 0;have rf1:=Kr.out.frozen 1;have rf2:=Kr.out.frozen 2;have rz:=Kr.out.lt;obtain ⟨a0,a1,a2⟩:=Ka.out.c3;have az:=Ka.out.lt;obtain ⟨b0,b1,b2⟩:=Kb.out.c3;have bz:=Kb.out.lt;have HF:=hid (show R=(zS,false) by rw [HV.out];simp [hop,Z4p,hvb]);(go_wp2_with fail);unfold Z2k;rw [HF.out];exact bodyPost_ret (v:=.tuple #[.agg #[.int .i64 0,.string ⟨#[]⟩,.int .i64 0],.bool false]) (by simp [results,Tryz.results54,go_sem, *]) rfl ⟨rfl,by (repeat (first | exact Zks _ _ | exact HB.out | refine Below.drew ?_ | refine Below.al ?_ _ | refine Below.sc ?_ _))⟩
             · skip
               have hc:=fun W=>Z2l ⟨2,tb,nb⟩ W;simp only [hvb] at hc;have HC:=hid hc;clear hc;(go_wp2_with fail);(with_reducible refine (HC.out _).mono ?_);rintro e w5 ⟨rfl,hb⟩;have hbs:=Below.trans (show Below w4.heap.size w4 _ from (by (repeat (first | exact Zks _ _ | refine Below.drew ?_ | refine Below.al ?_ _ | refine Below.sc ?_ _)))) (hb.mono (by simp<;>omega));have Kt:=hid (Kt.out.new_ hbs);have Kr:=hid (Kr.out.new_ hbs);have Ka:=hid (Ka.out.new_ hbs);have Kb:=hid (Kb.out.new_ hbs);have HB:=hid (HB.out.trans (hbs.mono HB.out.size));have hsz5:=hbs.size;clear t0 t1 t2 t3 t4 t5 t6 t7 t8 tz r0 r1 r2 rf0 rf1 rf2 rz a0 a1 a2 az b0 b1 b2 bz hb hbs;obtain ⟨t0,t1,t2,t3,t4,t5,t6,t7,t8⟩:=Kt.out.c9;have tz:=Kt.out.lt;obtain ⟨r0,r1,r2⟩:=Kr.out.c3;have rf0:=Kr.out.frozen 0;have rf1:=Kr.out.frozen 1;have rf2:=Kr.out.frozen 2;have rz:=Kr.out.lt;obtain ⟨a0,a1,a2⟩:=Ka.out.c3;have az:=Ka.out.lt;obtain ⟨b0,b1,b2⟩:=Kb.out.c3;have bz:=Kb.out.lt;(have hna:Z4p ⟨2,ta,na⟩=true:=by simp [Z4p,hva]);(have hnb:Z4p ⟨2,tb,nb⟩=true:=by simp [Z4p,hvb]);obtain ⟨n1,n2⟩:=Z7p hna;obtain ⟨n3,n4⟩:=Z7p hnb;dsimp only at n1 n2 n3 n4;obtain ⟨n5,n6⟩:=Zdh n1 n2 n3 n4;have v7:=Ziy n5 n6;by_cases h1:t.op=1
               · skip
                 (have j1a:(t.op == 1)=true:=by simp [h1]);(have j1b:decide (t.op=1)=true:=by simp [h1]);have HF:=hid (show R=numR (na+nb) by rw [HV.out];simp [hna,hnb,h1]);clear hop hna hnb h1;(go_wp2_with fail);(with_reducible refine (Zf3 (na+nb) _).mono ?_);rintro e w0 ⟨rfl,rfl⟩;(go_wp2_with fail);(with_reducible refine (Za8 ⟨2,⟨#[]⟩,na+nb⟩ (!bigB (na+nb)) _).mono ?_);rintro e w6 ⟨rfl,hb⟩;have hbs:=Below.trans (show Below w5.heap.size w5 _ from (by (repeat (first | exact Zks _ _ | refine Below.drew ?_ | refine Below.al ?_ _ | refine Below.sc ?_ _)))) (hb.mono (by simp<;>omega));have Kt:=hid (Kt.out.new_ hbs);have Kr:=hid (Kr.out.new_ hbs);have Ka:=hid (Ka.out.new_ hbs);have Kb:=hid (Kb.out.new_ hbs);have HB:=hid (HB.out.trans (hbs.mono HB.out.size));have hsz6:=hbs.size;clear t0 t1 t2 t3 t4 t5 t6 t7 t8 tz r0 r1 r2 rf0 rf1 rf2 rz a0 a1 a2 az b0 b1 b2 bz hb hbs;obtain ⟨t0,t1,t2,t3,t4,t5,t6,t7,t8⟩:=Kt.out.c9;have tz:=Kt.out.lt;obtain ⟨r0,r1,r2⟩:=Kr.out.c3;have rf0:=Kr.out.frozen 0;have rf1:=Kr.out.frozen 1;have rf2:=Kr.out.frozen 2;have rz:=Kr.out.lt;obtain ⟨a0,a1,a2⟩:=Ka.out.c3;have az:=Ka.out.lt;obtain ⟨b0,b1,b2⟩:=Kb.out.c3;have bz:=Kb.out.lt;rw [Z8e];obtain ⟨⟨ax,ox⟩,hx⟩ : ∃r,r=numR (na+nb):=⟨_,rfl⟩;rw [← hx] at HF ⊢;clear hx;dsimp only;(go_wp2_with fail);unfold Z2k;rw [HF.out];exact bodyPost_ret (v:=.tuple #[.agg #[.int .i64 ax.kind,.string ax.text,.int .i64 ax.n],.bool ox]) (by simp [results,Tryz.results54,go_sem, *]) rfl ⟨rfl,by (repeat (first | exact Zks _ _ | exact HB.out | refine Below.drew ?_ | refine Below.al ?_ _ | refine Below.sc ?_ _))⟩
               · skip
                 by_cases h2:t.op=2
                 · skip
                   (have j1a:(t.op == 1)=false:=by simp [h2]);(have j1b:decide (t.op=1)=false:=by simp [h2]);(have j2a:(t.op == 2)=true:=by simp [h2]);(have j2b:decide (t.op=2)=true:=by simp [h2]);have HF:=hid (show R=numR (na - nb) by rw [HV.out];simp [hna,hnb,h2]);clear hop hna hnb h1 h2;(go_wp2_with fail);(with_reducible refine (Zf3 (na - nb) _).mono ?_);rintro e w0 ⟨rfl,rfl⟩;(go_wp2_with fail);(with_reducible refine (Za8 ⟨2,⟨#[]⟩,na - nb⟩ (!bigB (na - nb)) _).mono ?_);rintro e w6 ⟨rfl,hb⟩;have hbs:=Below.trans (show Below w5.heap.size w5 _ from (by (repeat (first | exact Zks _ _ | refine Below.drew ?_ | refine Below.al ?_ _ | refine Below.sc ?_ _)))) (hb.mono (by simp<;>omega));have Kt:=hid (Kt.out.new_ hbs);have Kr:=hid (Kr.out.new_ hbs);have Ka:=hid (Ka.out.new_ hbs);have Kb:=hid (Kb.out.new_ hbs);have HB:=hid (HB.out.trans (hbs.mono HB.out.size));have hsz6:=hbs.size;clear t0 t1 t2 t3 t4 t5 t6 t7 t8 tz r0 r1 r2 rf0 rf1 rf2 rz a0 a1 a2 az b0 b1 b2 bz hb hbs;obtain ⟨t0,t1,t2,t3,t4,t5,t6,t7,t8⟩:=Kt.out.c9;have tz:=Kt.out.lt;obtain ⟨r0,r1,r2⟩:=Kr.out.c3;have rf0:=Kr.out.frozen 0;have rf1:=Kr.out.frozen 1;have rf2:=Kr.out.frozen 2;have rz:=Kr.out.lt;obtain ⟨a0,a1,a2⟩:=Ka.out.c3;have az:=Ka.out.lt;obtain ⟨b0,b1,b2⟩:=Kb.out.c3;have bz:=Kb.out.lt;rw [Z8e];obtain ⟨⟨ax,ox⟩,hx⟩ : ∃r,r=numR (na - nb):=⟨_,rfl⟩;rw [← hx] at HF ⊢;clear hx;dsimp only;(go_wp2_with fail);unfold Z2k;rw [HF.out];exact bodyPost_ret (v:=.tuple #[.agg #[.int .i64 ax.kind,.string ax.text,.int .i64 ax.n],.bool ox]) (by simp [results,Tryz.results54,go_sem, *]) rfl ⟨rfl,by (repeat (first | exact Zks _ _ | exact HB.out | refine Below.drew ?_ | refine Below.al ?_ _ | refine Below.sc ?_ _))⟩
                 · skip
                   by_cases h3:t.op=3
                   · skip
                     (have j1a:(t.op == 1)=false:=by simp [h3]);(have j1b:decide (t.op=1)=false:=by simp [h3]);(have j2a:(t.op == 2)=false:=by simp [h3]);(have j2b:decide (t.op=2)=false:=by simp [h3]);(have j3a:(t.op == 3)=true:=by simp [h3]);(have j3b:decide (t.op=3)=true:=by simp [h3]);have HF:=hid (show R=numR (na*nb) by rw [HV.out];simp [hna,hnb,h3]);clear hop hna hnb h1 h2 h3;(go_wp2_with fail);(with_reducible refine (Zf3 (na*nb) _).mono ?_);rintro e w0 ⟨rfl,rfl⟩;(go_wp2_with fail);(with_reducible refine (Za8 ⟨2,⟨#[]⟩,na*nb⟩ (!bigB (na*nb)) _).mono ?_);rintro e w6 ⟨rfl,hb⟩;have hbs:=Below.trans (show Below w5.heap.size w5 _ from (by (repeat (first | exact Zks _ _ | refine Below.drew ?_ | refine Below.al ?_ _ | refine Below.sc ?_ _)))) (hb.mono (by simp<;>omega));have Kt:=hid (Kt.out.new_ hbs);have Kr:=hid (Kr.out.new_ hbs);have Ka:=hid (Ka.out.new_ hbs);have Kb:=hid (Kb.out.new_ hbs);have HB:=hid (HB.out.trans (hbs.mono HB.out.size));have hsz6:=hbs.size;clear t0 t1 t2 t3 t4 t5 t6 t7 t8 tz r0 r1 r2 rf0 rf1 rf2 rz a0 a1 a2 az b0 b1 b2 bz hb hbs;obtain ⟨t0,t1,t2,t3,t4,t5,t6,t7,t8⟩:=Kt.out.c9;have tz:=Kt.out.lt;obtain ⟨r0,r1,r2⟩:=Kr.out.c3;have rf0:=Kr.out.frozen 0;have rf1:=Kr.out.frozen 1;have rf2:=Kr.out.frozen 2;have rz:=Kr.out.lt;obtain ⟨a0,a1,a2⟩:=Ka.out.c3;have az:=Ka.out.lt;obtain ⟨b0,b1,b2⟩:=Kb.out.c3;have bz:=Kb.out.lt;rw [Z8e];obtain ⟨⟨ax,ox⟩,hx⟩ : ∃r,r=numR (na*nb):=⟨_,rfl⟩;rw [← hx] at HF ⊢;clear hx;dsimp only;(go_wp2_with fail);unfold Z2k;rw [HF.out]
                     exact bodyPost_ret (v:=.tuple #[.agg #[.int .i64 ax.kind,.string ax.text,.int .i64 ax.n],.bool ox]) (by simp [results,Tryz.results54,go_sem, *]) rfl ⟨rfl,by (repeat (first | exact Zks _ _ | exact HB.out | refine Below.drew ?_ | refine Below.al ?_ _ | refine Below.sc ?_ _))⟩
                   · skip
                     (have j1a:(t.op == 1)=false:=by simp [h1]);(have j1b:decide (t.op=1)=false:=by simp [h1]);(have j2a:(t.op == 2)=false:=by simp [h2]);(have j2b:decide (t.op=2)=false:=by simp [h2]);(have j3a:(t.op == 3)=false:=by simp [h3]);(have j3b:decide (t.op=3)=false:=by simp [h3]);have HF:=hid (show R=(zS,false) by rw [HV.out];simp [hop,hna,hnb,h1,h2,h3]);(go_wp2_with fail);unfold Z2k;rw [HF.out];exact bodyPost_ret (v:=.tuple #[.agg #[.int .i64 0,.string ⟨#[]⟩,.int .i64 0],.bool false]) (by simp [results,Tryz.results54,go_sem, *]) rfl ⟨rfl,by (repeat (first | exact Zks _ _ | exact HB.out | refine Below.drew ?_ | refine Below.al ?_ _ | refine Below.sc ?_ _))⟩
         · skip
           (have qba:(b.kind == 2)=false:=by simp [hkb]);(have qbb:decide (b.kind=2)=false:=by simp [hkb]);have HF:=hid (show R=(zS,false) by rw [HV.out];simp [hop,Z4p,hkb]);(go_wp2_with fail);unfold Z2k;rw [HF.out];exact bodyPost_ret (v:=.tuple #[.agg #[.int .i64 0,.string ⟨#[]⟩,.int .i64 0],.bool false]) (by simp [results,Tryz.results54,go_sem, *]) rfl ⟨rfl,by (repeat (first | exact Zks _ _ | exact HB.out | refine Below.drew ?_ | refine Below.al ?_ _ | refine Below.sc ?_ _))⟩
       · skip
         (have qaa:(a.kind == 2)=false:=by simp [hka]);(have qab:decide (a.kind=2)=false:=by simp [hka]);have HF:=hid (show R=(zS,false) by rw [HV.out];simp [hop,Z4p,hka]);(go_wp2_with fail);unfold Z2k;rw [HF.out];exact bodyPost_ret (v:=.tuple #[.agg #[.int .i64 0,.string ⟨#[]⟩,.int .i64 0],.bool false]) (by simp [results,Tryz.results54,go_sem, *]) rfl ⟨rfl,by (repeat (first | exact Zks _ _ | exact HB.out | refine Below.drew ?_ | refine Below.al ?_ _ | refine Below.sc ?_ _))⟩
end
section
open Go.RowKit Go.Shelf
attribute [local go_sem] Oper.semAt_some
def rnV (l:List Z05):List ByteArray→List ByteArray→List ByteArray
 | out,[]=>out
 | out,v :: r=>rnV l (if v.toList≠[]∧(getB l v).2=false∧inB out v=false then out ++ [v] else out) r
theorem Zaf (l:List Z05) (v:ByteArray) : ∀(vs out:List ByteArray),rnV l out (vs ++ [v])=if v.toList≠[]∧(getB l v).2=false∧inB (rnV l out vs) v=false then rnV l out vs ++ [v] else rnV l out vs
 | [],out=>by rw [Zl8,rnV,rnV,rnV]
 | u :: vs,out=>by rw [Zlh,rnV,rnV];exact Zaf l v vs _
theorem Z86 : ∀(l:List Z05) (out:List ByteArray) (v:ByteArray),(getB (l++out.map mkB) v).2=((getB l v).2 || inB out v)
 | [],[],v=>rfl
 | [],u :: out,v=>by
   rw [Zl8,List.map_cons,Z3j];by_cases h:u.toList=v.toList
   · rw [if_pos (show (mkB u).var.toList=v.toList from h)]
     simp [inB,h]
   · rw [if_neg (show ¬(mkB u).var.toList=v.toList from h)]
     have:=Z86 [] out v;rw [Zl8] at this;rw [this];simp [inB,h,getB]
 | b :: l,out,v=>by
   rw [Zlh,Z3j,Z3j];by_cases h:b.var.toList=v.toList
   · rw [if_pos h,if_pos h];simp
   · rw [if_neg h,if_neg h]
     exact Z86 l out v
theorem Zae (l:List Z05) : ∀(vs out:List ByteArray),rnV l out vs=out++Z2w (l++out.map mkB) vs
 | [],out=>by rw [rnV,Z6m,Zmd]
 | v :: r,out=>by
   rw [rnV];have hm:=Z86 l out v;by_cases h:v.toList≠[]∧(getB l v).2=false∧inB out v=false
   · rw [if_pos h,Zae l r,Z5i (by rw [hm,h.2.1,h.2.2];rfl) h.1,Zmg,← Zlx,Zlx out]
     rfl
   · rw [if_neg h,Zae l r,Z3w]
     rw [hm];by_cases h1:v.toList = []
     · exact .inr h1
     · refine .inl ?_
       cases h2:(getB l v).2
       · cases h3:inB out v
         · exact absurd ⟨h1,h2,h3⟩ h
         · rfl
       · rfl
theorem Zkm (l:List Z05) (acts:List ActT):rnV l [] (acts.flatMap Z09)=Z2r l acts:=by
 rw [Zae];simp [Z2r]
theorem Zic {D:Nat→Prop} (l:List Z05) (p:Z31) (A1 A2 Al:Option Addr) (c1 c2 cl:Nat) (w:World) (h2:RowR Z0r D w A2 c2 p.acts) (h3:RowR Z0s D w Al cl l) (hp:p.acts.length≤1000) :
 Calls Tryz.prog 50 #[.agg #[.string p.name,.slice A1 p.conds.length c1,.slice A2 p.acts.length c2],.slice Al l.length cl] w (Zk8 w (Z2r l p.acts)):=by
 obtain ⟨i0,hi0,hz0,hz1,hz2⟩:=info_parts Zdd;have H2:=hid h2;have H3:=hid h3;have hac:=h2.cap;obtain ⟨R,hR⟩ : ∃R,R=Z2r l p.acts:=⟨_,rfl⟩;rw [← hR];have HR:=hid (show R=rnV l [] (p.acts.flatMap Z09) by rw [Zkm,hR]);clear h2 h3 hR;go_enter Tryz.func50,Tryz.ntmps50;(go_upto_region 1 with fail);obtain ⟨w1,hw1⟩ : ∃w1,w1=(w.alloc (.cells #[.string p.name,.slice A1 p.conds.length c1,.slice A2 p.acts.length c2] 25)):=⟨_,rfl⟩;rw [← hw1];have HB:=hid (show Below w.heap.size w w1 by rw [hw1];exact (by repeat (first | exact Zks _ _ | refine Below.drew ?_ | refine Below.al ?_ _ | refine Below.sc ?_ _)));have Kp:=hid (show Blk w1 (w.heap.size) 25 #[.string p.name,.slice A1 p.conds.length c1,.slice A2 p.acts.length c2] by rw [hw1];exact (Blk.new w 25 #[.string p.name,.slice A1 p.conds.length c1,.slice A2 p.acts.length c2]));clear hw1;obtain ⟨p0,p1,p2⟩:=Kp.out.c3;have pz:=Kp.out.lt;go_wp2_with fail
 go_loopw [5,6] (fun so si wr=>∃(i:Nat) (Ao:Option Addr) (co:Nat) (os:List ByteArray),si = .int .i64 i∧so = .slice Ao os.length co∧os=rnV l [] ((p.acts.take i).flatMap Z09)∧i≤p.acts.length∧os.length≤3*i∧Below w1.heap.size w1 wr∧wr.ownsRow 0 9 1 (.slice Ao os.length co) os.length (os.flatMap strC)∧AIn Ao (w1.heap.size≤·)) (fun so si wr=>p.acts.length - (intOf si).toNat)
 case atStart=>exact ⟨0,none,0,[],rfl,rfl,rfl,Nat.zero_le _,Nat.zero_le _,Zks _ _,Z28 _ _ _ _,AIn.none_ _⟩
 case round=>
  obtain ⟨i,Ao,co,os,rfl,rfl,hos,hi,hol,hbr,hro,hao⟩:=hrel;have HOS:=hid hos;have HBR:=hid hbr;have HRO:=hid hro;have HAO:=hid hao;have Kpr:=Kp.out.new_ hbr;have p2:=(Kpr.cell 2).trans rfl;have pz:=Kpr.lt;have hz1r:=hbr.size;clear hos hbr hro hao Kpr p0 p1;by_cases hlt:i<p.acts.length
  · obtain ⟨y,hy⟩ : ∃y,y=p.acts[i]:=⟨_,rfl⟩
    have h2r:=H2.out.new_ (HB.out.trans (HBR.out.mono HB.out.size));obtain ⟨gg,oo,hAA,_,hgg,_⟩:=Z7v h2r hlt
    have hRG:wr.rangeAt gg (oo+i*19) [.string y.id,.string y.attr.var,.int .i64 y.attr.sym.kind,.string y.attr.sym.text,.int .i64 y.attr.sym.n,.int .i64 y.value.op,.string y.value.a.var,.int .i64 y.value.a.sym.kind,.string y.value.a.sym.text,.int .i64 y.value.a.sym.n,.string y.value.b.var,.int .i64 y.value.b.sym.kind,.string y.value.b.sym.text,.int .i64 y.value.b.sym.n,.int .i64 y.pref,.string y.other.var,.int .i64 y.other.sym.kind,.string y.other.sym.text,.int .i64 y.other.sym.n]:=fun j v hv=>by
     obtain ⟨g',off',cs,e1,_,_,hr,hc⟩:=h2r.at_ hlt;rw [hAA] at e1;cases e1;have hr2:cs=ActT.cells p.acts[i]:=hr;subst hr2;rw [← hy] at hc;exact hc j v hv
    have HRG:=hid hRG;have HTK:=hid (show p.acts.take (i+1)=p.acts.take i ++ [y] by rw [List.take_succ_eq_append_getElem hlt,hy]);subst hAA;(have b1:(0:Int)≤(i:Int):=by omega);(have b2:(i:Int)<(p.acts.length:Int):=by omega);obtain ⟨W6,hW6,hth,hrg,hb6,hz6⟩:=Z6g (w:=wr) (t:=96) [.string ⟨#[]⟩,.string ⟨#[]⟩,.int .i64 0,.string ⟨#[]⟩,.int .i64 0,.int .i64 0,.string ⟨#[]⟩,.int .i64 0,.string ⟨#[]⟩,.int .i64 0,.string ⟨#[]⟩,.int .i64 0,.string ⟨#[]⟩,.int .i64 0,.int .i64 0,.string ⟨#[]⟩,.int .i64 0,.string ⟨#[]⟩,.int .i64 0] [.string y.id,.string y.attr.var,.int .i64 y.attr.sym.kind,.string y.attr.sym.text,.int .i64 y.attr.sym.n,.int .i64 y.value.op,.string y.value.a.var,.int .i64 y.value.a.sym.kind,.string y.value.a.sym.text,.int .i64 y.value.a.sym.n,.string y.value.b.var,.int .i64 y.value.b.sym.kind,.string y.value.b.sym.text,.int .i64 y.value.b.sym.n,.int .i64 y.pref,.string y.other.var,.int .i64 y.other.sym.kind,.string y.other.sym.text,.int .i64 y.other.sym.n] rfl;have HW6:=hid hW6;have HTH:=hid hth;have Ky:=hid (show Blk W6 wr.heap.size 96 #[.string y.id,.string y.attr.var,.int .i64 y.attr.sym.kind,.string y.attr.sym.text,.int .i64 y.attr.sym.n,.int .i64 y.value.op,.string y.value.a.var,.int .i64 y.value.a.sym.kind,.string y.value.a.sym.text,.int .i64 y.value.a.sym.n,.string y.value.b.var,.int .i64 y.value.b.sym.kind,.string y.value.b.sym.text,.int .i64 y.value.b.sym.n,.int .i64 y.pref,.string y.other.var,.int .i64 y.other.sym.kind,.string y.other.sym.text,.int .i64 y.other.sym.n] from Z7o (zs:=[.string ⟨#[]⟩,.string ⟨#[]⟩,.int .i64 0,.string ⟨#[]⟩,.int .i64 0,.int .i64 0,.string ⟨#[]⟩,.int .i64 0,.string ⟨#[]⟩,.int .i64 0,.string ⟨#[]⟩,.int .i64 0,.string ⟨#[]⟩,.int .i64 0,.int .i64 0,.string ⟨#[]⟩,.int .i64 0,.string ⟨#[]⟩,.int .i64 0]) (vs:=[.string y.id,.string y.attr.var,.int .i64 y.attr.sym.kind,.string y.attr.sym.text,.int .i64 y.attr.sym.n,.int .i64 y.value.op,.string y.value.a.var,.int .i64 y.value.a.sym.kind,.string y.value.a.sym.text,.int .i64 y.value.a.sym.n,.string y.value.b.var,.int .i64 y.value.b.sym.kind,.string y.value.b.sym.text,.int .i64 y.value.b.sym.n,.int .i64 y.pref,.string y.other.var,.int .i64 y.other.sym.kind,.string y.other.sym.text,.int .i64 y.other.sym.n]) rfl hW6 hrg);have HR_:=hid hb6;clear hW6 hth hrg hb6 hy h2r hRG;obtain ⟨y0,-,-,-,-,y5,y6,-,-,-,-,-,-,-,-,y15,-,-,-⟩:=Ky.out.c19;have yz:=Ky.out.lt
    go_upto_region 7 with (first
     | (with_reducible refine wpList_load_mid rfl 96 _ rfl gg (oo+i*19) rfl _ _ HRG.out Tryz.underlying96 rfl (by kernel_rfl) ?_)
     | ((with_reducible refine wpList_store_mid rfl 96 _ _ rfl wr.heap.size 0 #[.string y.id,.string y.attr.var,.int .i64 y.attr.sym.kind,.string y.attr.sym.text,.int .i64 y.attr.sym.n,.int .i64 y.value.op,.string y.value.a.var,.int .i64 y.value.a.sym.kind,.string y.value.a.sym.text,.int .i64 y.value.a.sym.n,.string y.value.b.var,.int .i64 y.value.b.sym.kind,.string y.value.b.sym.text,.int .i64 y.value.b.sym.n,.int .i64 y.pref,.string y.other.var,.int .i64 y.other.sym.kind,.string y.other.sym.text,.int .i64 y.other.sym.n] rfl rfl HTH.out (by kernel_rfl) (by kernel_rfl) ?_);rw [← HW6.out]))
    by_cases h0:y.value.op=0
    · skip
      (have qoa:(y.value.op == 0)=true:=by simp [h0]);(have qob:decide (y.value.op=0)=true:=by simp [h0]);have HND:=hid (show Z09 y = [y.id,y.value.a.var,y.other.var] by simp [Z09,h0]);clear h0;(go_wp2_with fail);obtain ⟨X7,hX7⟩ : ∃X7,X7=W6.alloc (.cells #[.string y.id,.string y.value.a.var,.string y.other.var] 9):=⟨_,rfl⟩;rw [← hX7];(have hb67:Below W6.heap.size W6 X7:=by rw [hX7];exact (Zks _ _).alloc (Zkt _) _);(have hn7:Blk X7 (wr.heap.size+1) 9 #[.string y.id,.string y.value.a.var,.string y.other.var]:=by rw [hX7,← hz6];exact Blk.new _ _ _);have hB7:Below w1.heap.size w1 X7:=HBR.out.trans ((HR_.out.trans (hb67.mono HR_.out.size)).mono hz1r);have HRO7:=hid (Z00 HRO.out (HR_.out.trans (hb67.mono HR_.out.size)));have hao7:AIn Ao (fun j=>w1.heap.size≤j∧j≠wr.heap.size+1):=fun a ha=>⟨HAO.out a ha,by have:=Z3p HRO.out a ha;omega⟩;have HI7:=hid (show Below w1.heap.size w1 X7∧Blk X7 (wr.heap.size+1) 9 #[.string y.id,.string y.value.a.var,.string y.other.var]∧AIn Ao (fun j=>w1.heap.size≤j∧j≠wr.heap.size+1) from ⟨hB7,hn7,hao7⟩);have hnl:=hn7.lt;clear hX7 hb67 hn7 hB7 hao7;generalize wr.heap.size+1=nb at HI7 hnl ⊢
      go_loopw [5,9] (fun so sk wq=>∃(k:Nat) (Ax:Option Addr) (cx:Nat) (xs:List ByteArray),sk = .int .i64 k∧so = .slice Ax xs.length cx∧xs=rnV l [] ((p.acts.take i).flatMap Z09++(Z09 y).take k)∧k≤3∧xs.length≤3*i+k∧Below w1.heap.size w1 wq∧Blk wq (nb) 9 #[.string y.id,.string y.value.a.var,.string y.other.var]∧wq.ownsRow 0 9 1 (.slice Ax xs.length cx) xs.length (xs.flatMap strC)∧AIn Ax (fun j=>w1.heap.size≤j∧j≠nb)) (fun so sk wq=>3 - (intOf sk).toNat)
      case atStart=>exact ⟨0,Ao,co,os,rfl,rfl,by rw [HOS.out];simp,by omega,by omega,HI7.out.1,HI7.out.2.1,HRO7.out,HI7.out.2.2⟩
      case round=>
       obtain ⟨k,Ax,cx,xs,rfl,rfl,hxs,hk3,hxl,hbq,hnq,hrq,haq⟩:=hrel;have HXS:=hid hxs;have HBQ:=hid hbq;have HNQ:=hid hnq;have HRQ:=hid hrq;have HAQ:=hid haq;have nz:=hnq.lt;have hzq:=hbq.size;clear hxs hbq hnq hrq haq hnl;by_cases hlk:k<3
       · obtain ⟨v,hv⟩ : ∃v,(Z09 y)[k]? = some v:=⟨(Z09 y)[k]'hlk,Zl1 hlk⟩
         have HTV:=hid (show (Z09 y).take (k+1)=(Z09 y).take k ++ [v] by rw [Zm1,hv];rfl)
         have hcell:(#[.string y.id,.string y.value.a.var,.string y.other.var]:Array Value)[k]? = some (.string v):=by
          have:(#[.string y.id,.string y.value.a.var,.string y.other.var]:Array Value)[k]? = ((Z09 y)[k]?).map Value.string:=by
           rw [HND.out];rcases k with _ | _ | _ | k<;>rfl
          rw [this,hv];rfl
         have HVK:=hid (show ∀Y,Blk Y (nb) 9 #[.string y.id,.string y.value.a.var,.string y.other.var]→Y.cell? ⟨nb,k,none⟩=some (.string v) from fun Y hY=>(hY.cell k).trans hcell);obtain ⟨⟨s,ok⟩,hs⟩ : ∃r,r=getB l v:=⟨_,rfl⟩;have hc1:=fun Y (hY:Below w1.heap.size w1 Y)=>Zad l v Y (H3.out.new_ (HB.out.trans (hY.mono HB.out.size)));simp only [← hs] at hc1;have HC1:=hid hc1
         have HNX:=hid (show rnV l [] ((p.acts.take i).flatMap Z09++(Z09 y).take (k+1))=if v.toList≠[]∧ok=false∧inB xs v=false then xs ++ [v] else xs by
          rw [HTV.out,← Zlx,Zaf,← HXS.out,← hs])
         (have k1:(0:Int)≤(k:Int):=by omega);(have k2:(k:Int)<3:=by omega);have vk:=HVK.out _ HNQ.out;clear hv hcell hc1 hs;(go_wp2_with fail);refine (HC1.out _ HBQ.out).mono ?_;rintro e w8 ⟨rfl,hb8⟩;have HN8:=hid (HNQ.out.new_ hb8);have HB8:=hid (HBQ.out.trans (hb8.mono hzq));have HR8:=hid (Z00 HRQ.out hb8);have hz8:=hb8.size;clear hb8 vk;(go_upto_region 13 with fail);obtain ⟨Z,hZ⟩ : ∃Z,Z=w8.alloc (.cells #[.int .i64 s.kind,.string s.text,.int .i64 s.n] 38):=⟨_,rfl⟩;rw [← hZ];(have hbZ:Below w8.heap.size w8 Z:=by rw [hZ];exact (Zks _ _).alloc (Zkt _) _);have HNZ:=hid (HN8.out.new_ hbZ);have HBZ:=hid (HB8.out.trans (hbZ.mono HB8.out.size));have HRZ:=hid (Z00 HR8.out hbZ);have vk:=HVK.out _ HNZ.out;have nz:=HNZ.out.lt;have hzz:=HBZ.out.size;have HRS:=hid (Z3i rfl HRZ.out);clear hZ hbZ;by_cases hve:v.toList = []
         · skip
           (have vaa:(v.toList == [])=true:=by simp [hve]);(have vab:v.toList.isEmpty=true:=by simp [hve]);(have vac:decide (v.toList = [])=true:=by simp [hve]);(have vd:(v.toList != [])=false:=by simp [hve]);have HNN:=hid (show xs=rnV l [] ((p.acts.take i).flatMap Z09++(Z09 y).take (k+1)) by rw [HNX.out,if_neg (by simp [hve])]);clear hve;(go_wp2_with fail);go_roundw
           case rel=>exact ⟨k+1,Ax,cx,xs,by go_num,rfl,HNN.out,by omega,by omega,HBZ.out,HNZ.out,HRZ.out,HAQ.out⟩
           case measure=>simp [intOf]<;>omega
         · skip
           (have vaa:(v.toList == [])=false:=by simp [hve]);(have vab:v.toList.isEmpty=false:=by simp [hve]);(have vac:decide (v.toList = [])=false:=by simp [hve]);(have vd:(v.toList != [])=true:=by simp [hve]);have HVE:=hid hve;clear hve;cases ok
           · skip
             cases hin:inB xs v
             · skip
               have hc:=fun Y (h:RowR Z42 (fun _=>True) Y Ax cx xs)=>Zdc xs v Y h;simp only [hin] at hc;have HC2:=hid hc;clear hc;have HNN:=hid (show xs ++ [v]=rnV l [] ((p.acts.take i).flatMap Z09++(Z09 y).take (k+1)) by rw [HNX.out,if_pos ⟨HVE.out,rfl,hin⟩]);clear hin;(go_wp2_with fail);refine (HC2.out _ HRS.out).mono ?_;rintro e w9 ⟨rfl,rfl⟩;obtain ⟨Y9,hY9⟩ : ∃Y9,Y9=Z.alloc (.cells #[.string v] 9):=⟨_,rfl⟩;(have hb9:Below Z.heap.size Z Y9:=by rw [hY9];exact (Zks _ _).alloc (Zkt _) _);have HY9:=hid hY9;have HB9:=hid hb9;have HO9:=hid (Z00 HRZ.out hb9);have HN9:=hid (show ∀(j:Nat) (u:Value),(strC v)[j]? = some u→Y9.cell? ((⟨Z.heap.size,0,none⟩:Addr).add j)=some u by rw [hY9];exact Z0w rfl);clear hY9 hb9;(go_wp2_with (at_builtin;rw [← HY9.out];refine Z04 Y9 rfl (.tmp 73) (.tmp 78) 114 rfl 9 i0 _ 1 16 Tryz.underlying114 hi0 hz0 hz1 hz2 rfl (by decide) _ xs.length (xs.flatMap strC) rfl HO9.out _ 1 1 (strC v) rfl rfl (fun _=>⟨_,rfl,HN9.out⟩) (by intro u hu;simp only [strC,Zl7,Zl9,or_false] at hu;subst hu;rfl) (by unfold maxLen;omega) (by omega) ?_;intro v' w10 hown hg hnil hat;obtain ⟨A8,c8,rfl,hF8,hA8,hO8⟩:=Z1k (E:=fun k=>∃a,Ax=some a∧a.block=k) (fun a ha=>⟨a,ha,rfl⟩) hown hg hat;have HF8:=hid hF8;have HA8:=hid hA8;have HO8:=hid hO8;clear hown hg hnil hat hF8 hA8 hO8));have hz9:=HB9.out.size
               have hE : ∀j,(∃a,Ax=some a∧a.block=j)→w1.heap.size≤j∧j≠nb:=by
                rintro j ⟨a,ha,rfl⟩;exact HAQ.out a ha
               have hbN:Below w1.heap.size w1 w10:=(HBZ.out.trans (HB9.out.mono hzz)).trans (HF8.out.below (by omega) (fun j hj hn=>by have:=(hE j hn).1;omega));have hnN:Blk w10 (nb) 9 #[.string y.id,.string y.value.a.var,.string y.other.var]:=(HNZ.out.new_ HB9.out).fr HF8.out (fun hn=>(hE _ hn).2 rfl);(have hl9:Y9.heap.size=Z.heap.size+1:=by rw [HY9.out];simp);go_roundw
               case rel=>
                refine ⟨k+1,A8,c8,xs ++ [v],by go_num,by simp,HNN.out,by omega,by simp;omega,hbN,hnN,?_,fun a ha=>?_⟩
                · rw [Zl3]
                  simpa [strC] using HO8.out
                · rcases HA8.out a ha with h | h
                  · exact hE _ h
                  · have h2:=h.1
                    exact ⟨by omega,by omega⟩
               case measure=>simp [intOf]<;>omega
             · skip
               have hc:=fun Y (h:RowR Z42 (fun _=>True) Y Ax cx xs)=>Zdc xs v Y h;simp only [hin] at hc;have HC2:=hid hc;clear hc;have HNN:=hid (show xs=rnV l [] ((p.acts.take i).flatMap Z09++(Z09 y).take (k+1)) by rw [HNX.out,if_neg (by rw [hin];simp)]);clear hin;(go_wp2_with fail);refine (HC2.out _ HRS.out).mono ?_;rintro e w9 ⟨rfl,rfl⟩;(go_wp2_with fail);go_roundw
               case rel=>exact ⟨k+1,Ax,cx,xs,by go_num,rfl,HNN.out,by omega,by omega,HBZ.out,HNZ.out,HRZ.out,HAQ.out⟩
               case measure=>simp [intOf]<;>omega
           · skip
             have HNN:=hid (show xs=rnV l [] ((p.acts.take i).flatMap Z09++(Z09 y).take (k+1)) by rw [HNX.out,if_neg (by simp)]);(go_wp2_with fail);go_roundw
             case rel=>exact ⟨k+1,Ax,cx,xs,by go_num,rfl,HNN.out,by omega,by omega,HBZ.out,HNZ.out,HRZ.out,HAQ.out⟩
             case measure=>simp [intOf]<;>omega
       · have hke:k=3:=by omega
         subst hke;have HNN:=hid (show xs=rnV l [] ((p.acts.take (i+1)).flatMap Z09) by rw [HXS.out,HTK.out,Zl3,List.take_of_length_le (l:=Z09 y) (by rw [Z88];exact Zkt _)];simp);(go_wp2_with fail);go_roundw
         case rel=>exact ⟨i+1,Ax,cx,xs,by go_num,rfl,HNN.out,by omega,by omega,HBQ.out,HRQ.out,HAQ.out.mono (fun _ h=>h.1)⟩
         case measure=>simp [intOf]<;>omega
    · skip
      (have qoa:(y.value.op == 0)=false:=by simp [h0]);(have qob:decide (y.value.op=0)=false:=by simp [h0]);have HND:=hid (show Z09 y = [y.id,⟨#[]⟩,y.other.var] by simp [Z09,h0]);clear h0;(go_wp2_with fail);obtain ⟨X7,hX7⟩ : ∃X7,X7=W6.alloc (.cells #[.string y.id,.string ⟨#[]⟩,.string y.other.var] 9):=⟨_,rfl⟩;rw [← hX7];(have hb67:Below W6.heap.size W6 X7:=by rw [hX7];exact (Zks _ _).alloc (Zkt _) _);(have hn7:Blk X7 (wr.heap.size+1) 9 #[.string y.id,.string ⟨#[]⟩,.string y.other.var]:=by rw [hX7,← hz6];exact Blk.new _ _ _);have hB7:Below w1.heap.size w1 X7:=HBR.out.trans ((HR_.out.trans (hb67.mono HR_.out.size)).mono hz1r);have HRO7:=hid (Z00 HRO.out (HR_.out.trans (hb67.mono HR_.out.size)));have hao7:AIn Ao (fun j=>w1.heap.size≤j∧j≠wr.heap.size+1):=fun a ha=>⟨HAO.out a ha,by have:=Z3p HRO.out a ha;omega⟩;have HI7:=hid (show Below w1.heap.size w1 X7∧Blk X7 (wr.heap.size+1) 9 #[.string y.id,.string ⟨#[]⟩,.string y.other.var]∧AIn Ao (fun j=>w1.heap.size≤j∧j≠wr.heap.size+1) from ⟨hB7,hn7,hao7⟩);have hnl:=hn7.lt;clear hX7 hb67 hn7 hB7 hao7;generalize wr.heap.size+1=nb at HI7 hnl ⊢
      go_loopw [5,9] (fun so sk wq=>∃(k:Nat) (Ax:Option Addr) (cx:Nat) (xs:List ByteArray),sk = .int .i64 k∧so = .slice Ax xs.length cx∧xs=rnV l [] ((p.acts.take i).flatMap Z09++(Z09 y).take k)∧k≤3∧xs.length≤3*i+k∧Below w1.heap.size w1 wq∧Blk wq (nb) 9 #[.string y.id,.string ⟨#[]⟩,.string y.other.var]∧wq.ownsRow 0 9 1 (.slice Ax xs.length cx) xs.length (xs.flatMap strC)∧AIn Ax (fun j=>w1.heap.size≤j∧j≠nb)) (fun so sk wq=>3 - (intOf sk).toNat)
      case atStart=>exact ⟨0,Ao,co,os,rfl,rfl,by rw [HOS.out];simp,by omega,by omega,HI7.out.1,HI7.out.2.1,HRO7.out,HI7.out.2.2⟩
      case round=>
       obtain ⟨k,Ax,cx,xs,rfl,rfl,hxs,hk3,hxl,hbq,hnq,hrq,haq⟩:=hrel;have HXS:=hid hxs;have HBQ:=hid hbq;have HNQ:=hid hnq;have HRQ:=hid hrq;have HAQ:=hid haq;have nz:=hnq.lt;have hzq:=hbq.size;clear hxs hbq hnq hrq haq hnl;by_cases hlk:k<3
       · obtain ⟨v,hv⟩ : ∃v,(Z09 y)[k]? = some v:=⟨(Z09 y)[k]'hlk,Zl1 hlk⟩
         have HTV:=hid (show (Z09 y).take (k+1)=(Z09 y).take k ++ [v] by rw [Zm1,hv];rfl)
         have hcell:(#[.string y.id,.string ⟨#[]⟩,.string y.other.var]:Array Value)[k]? = some (.string v):=by
          have:(#[.string y.id,.string ⟨#[]⟩,.string y.other.var]:Array Value)[k]? = ((Z09 y)[k]?).map Value.string:=by
           rw [HND.out];rcases k with _ | _ | _ | k<;>rfl
          rw [this,hv];rfl
         have HVK:=hid (show ∀Y,Blk Y (nb) 9 #[.string y.id,.string ⟨#[]⟩,.string y.other.var]→Y.cell? ⟨nb,k,none⟩=some (.string v) from fun Y hY=>(hY.cell k).trans hcell);obtain ⟨⟨s,ok⟩,hs⟩ : ∃r,r=getB l v:=⟨_,rfl⟩;have hc1:=fun Y (hY:Below w1.heap.size w1 Y)=>Zad l v Y (H3.out.new_ (HB.out.trans (hY.mono HB.out.size)));simp only [← hs] at hc1;have HC1:=hid hc1
         have HNX:=hid (show rnV l [] ((p.acts.take i).flatMap Z09++(Z09 y).take (k+1))=if v.toList≠[]∧ok=false∧inB xs v=false then xs ++ [v] else xs by
          rw [HTV.out,← Zlx,Zaf,← HXS.out,← hs])
         (have k1:(0:Int)≤(k:Int):=by omega);(have k2:(k:Int)<3:=by omega);have vk:=HVK.out _ HNQ.out;clear hv hcell hc1 hs;(go_wp2_with fail);refine (HC1.out _ HBQ.out).mono ?_;rintro e w8 ⟨rfl,hb8⟩;have HN8:=hid (HNQ.out.new_ hb8);have HB8:=hid (HBQ.out.trans (hb8.mono hzq));have HR8:=hid (Z00 HRQ.out hb8);have hz8:=hb8.size;clear hb8 vk;(go_upto_region 13 with fail);obtain ⟨Z,hZ⟩ : ∃Z,Z=w8.alloc (.cells #[.int .i64 s.kind,.string s.text,.int .i64 s.n] 38):=⟨_,rfl⟩;rw [← hZ];(have hbZ:Below w8.heap.size w8 Z:=by rw [hZ];exact (Zks _ _).alloc (Zkt _) _);have HNZ:=hid (HN8.out.new_ hbZ);have HBZ:=hid (HB8.out.trans (hbZ.mono HB8.out.size));have HRZ:=hid (Z00 HR8.out hbZ);have vk:=HVK.out _ HNZ.out;have nz:=HNZ.out.lt;have hzz:=HBZ.out.size;have HRS:=hid (Z3i rfl HRZ.out);clear hZ hbZ;by_cases hve:v.toList = []
         · skip
           (have vaa:(v.toList == [])=true:=by simp [hve]);(have vab:v.toList.isEmpty=true:=by simp [hve]);(have vac:decide (v.toList = [])=true:=by simp [hve]);(have vd:(v.toList != [])=false:=by simp [hve]);have HNN:=hid (show xs=rnV l [] ((p.acts.take i).flatMap Z09++(Z09 y).take (k+1)) by rw [HNX.out,if_neg (by simp [hve])]);clear hve;(go_wp2_with fail);go_roundw
           case rel=>exact ⟨k+1,Ax,cx,xs,by go_num,rfl,HNN.out,by omega,by omega,HBZ.out,HNZ.out,HRZ.out,HAQ.out⟩
           case measure=>simp [intOf]<;>omega
         · skip
           (have vaa:(v.toList == [])=false:=by simp [hve]);(have vab:v.toList.isEmpty=false:=by simp [hve]);(have vac:decide (v.toList = [])=false:=by simp [hve]);(have vd:(v.toList != [])=true:=by simp [hve]);have HVE:=hid hve;clear hve;cases ok
           · skip
             cases hin:inB xs v
             · skip
               have hc:=fun Y (h:RowR Z42 (fun _=>True) Y Ax cx xs)=>Zdc xs v Y h;simp only [hin] at hc;have HC2:=hid hc;clear hc;have HNN:=hid (show xs ++ [v]=rnV l [] ((p.acts.take i).flatMap Z09++(Z09 y).take (k+1)) by rw [HNX.out,if_pos ⟨HVE.out,rfl,hin⟩]);clear hin;(go_wp2_with fail);refine (HC2.out _ HRS.out).mono ?_;rintro e w9 ⟨rfl,rfl⟩;obtain ⟨Y9,hY9⟩ : ∃Y9,Y9=Z.alloc (.cells #[.string v] 9):=⟨_,rfl⟩;(have hb9:Below Z.heap.size Z Y9:=by rw [hY9];exact (Zks _ _).alloc (Zkt _) _);have HY9:=hid hY9;have HB9:=hid hb9;have HO9:=hid (Z00 HRZ.out hb9);have HN9:=hid (show ∀(j:Nat) (u:Value),(strC v)[j]? = some u→Y9.cell? ((⟨Z.heap.size,0,none⟩:Addr).add j)=some u by rw [hY9];exact Z0w rfl);clear hY9 hb9;(go_wp2_with (at_builtin;rw [← HY9.out];refine Z04 Y9 rfl (.tmp 73) (.tmp 78) 114 rfl 9 i0 _ 1 16 Tryz.underlying114 hi0 hz0 hz1 hz2 rfl (by decide) _ xs.length (xs.flatMap strC) rfl HO9.out _ 1 1 (strC v) rfl rfl (fun _=>⟨_,rfl,HN9.out⟩) (by intro u hu;simp only [strC,Zl7,Zl9,or_false] at hu;subst hu;rfl) (by unfold maxLen;omega) (by omega) ?_;intro v' w10 hown hg hnil hat;obtain ⟨A8,c8,rfl,hF8,hA8,hO8⟩:=Z1k (E:=fun k=>∃a,Ax=some a∧a.block=k) (fun a ha=>⟨a,ha,rfl⟩) hown hg hat;have HF8:=hid hF8;have HA8:=hid hA8;have HO8:=hid hO8;clear hown hg hnil hat hF8 hA8 hO8));have hz9:=HB9.out.size
               have hE : ∀j,(∃a,Ax=some a∧a.block=j)→w1.heap.size≤j∧j≠nb:=by
                rintro j ⟨a,ha,rfl⟩;exact HAQ.out a ha
               have hbN:Below w1.heap.size w1 w10:=(HBZ.out.trans (HB9.out.mono hzz)).trans (HF8.out.below (by omega) (fun j hj hn=>by have:=(hE j hn).1;omega));have hnN:Blk w10 (nb) 9 #[.string y.id,.string ⟨#[]⟩,.string y.other.var]:=(HNZ.out.new_ HB9.out).fr HF8.out (fun hn=>(hE _ hn).2 rfl);(have hl9:Y9.heap.size=Z.heap.size+1:=by rw [HY9.out];simp);go_roundw
               case rel=>
                refine ⟨k+1,A8,c8,xs ++ [v],by go_num,by simp,HNN.out,by omega,by simp;omega,hbN,hnN,?_,fun a ha=>?_⟩
                · rw [Zl3]
                  simpa [strC] using HO8.out
                · rcases HA8.out a ha with h | h
                  · exact hE _ h
                  · have h2:=h.1
                    exact ⟨by omega,by omega⟩
               case measure=>simp [intOf]<;>omega
             · skip
               have hc:=fun Y (h:RowR Z42 (fun _=>True) Y Ax cx xs)=>Zdc xs v Y h;simp only [hin] at hc;have HC2:=hid hc;clear hc;have HNN:=hid (show xs=rnV l [] ((p.acts.take i).flatMap Z09++(Z09 y).take (k+1)) by rw [HNX.out,if_neg (by rw [hin];simp)]);clear hin;(go_wp2_with fail);refine (HC2.out _ HRS.out).mono ?_;rintro e w9 ⟨rfl,rfl⟩;(go_wp2_with fail);go_roundw
               case rel=>exact ⟨k+1,Ax,cx,xs,by go_num,rfl,HNN.out,by omega,by omega,HBZ.out,HNZ.out,HRZ.out,HAQ.out⟩
               case measure=>simp [intOf]<;>omega
           · skip
             have HNN:=hid (show xs=rnV l [] ((p.acts.take i).flatMap Z09++(Z09 y).take (k+1)) by rw [HNX.out,if_neg (by simp)]);(go_wp2_with fail);go_roundw
             case rel=>exact ⟨k+1,Ax,cx,xs,by go_num,rfl,HNN.out,by omega,by omega,HBZ.out,HNZ.out,HRZ.out,HAQ.out⟩
             case measure=>simp [intOf]<;>omega
       · have hke:k=3:=by omega
         subst hke;have HNN:=hid (show xs=rnV l [] ((p.acts.take (i+1)).flatMap Z09) by rw [HXS.out,HTK.out,Zl3,List.take_of_length_le (l:=Z09 y) (by rw [Z88];exact Zkt _)];simp);(go_wp2_with fail);go_roundw
         case rel=>exact ⟨i+1,Ax,cx,xs,by go_num,rfl,HNN.out,by omega,by omega,HBQ.out,HRQ.out,HAQ.out.mono (fun _ h=>h.1)⟩
         case measure=>simp [intOf]<;>omega
  · have hie:i=p.acts.length:=by omega
    subst hie;have HRR:=hid (show R=os by rw [HR.out,HOS.out,Zll]);have hzw:=HB.out.size;(go_wp2_with fail);go_ret;rw [HRR.out];exact ⟨Ao,co,rfl,HRO.out,HAO.out.mono (fun k hk=>Zlf hzw hk),HB.out.trans (HBR.out.mono hzw)⟩
end
end Go.Proofs.YtfidcfjcmlgkbaaGreat
