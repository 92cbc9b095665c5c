/-
  Texts put together: MiscPgS, NewPgS, RangeP, RangeO, Store, RangeO2, EagerT.
-/
import Derived.Test.YtldndkngpdfpfaaGreatPWc
import Derived.Test.YtldndkngpdfpfaaGreatPWb
import Derived.Test.YtldndkngpdfpfaaGreatPWa
import Derived.Deep.MidRow
namespace Go.Proofs.YtldndkngpdfpfaaGreat
open Go.RowKit
set_option maxRecDepth 100000 in
set_option maxHeartbeats 1000000 in
theorem get_no_PgS (b c:Nat) (sn:Bool) (A:Option Addr) (l:List PgS) (x:PgS) (w:World) (hS:PgSSet w b sn A c l) (hs:Srt cmpPgS l) (hl:(l.length:Int)≤1000000000) (hh:has cmpPgS l x=false) :
 Calls Tryz.prog 146 #[.pointer (some ⟨b,0,none⟩),.agg #[.int .i64 x.kk.kind,.string x.kk.text,.int .i64 x.kk.n,.int .i64 x.v]] w fun e w'=>e = .returned (.tuple #[.agg #[.int .i64 0,.string ⟨#[]⟩,.int .i64 0,.int .i64 0],.bool false])∧Below w.heap.size w w':=by
 have HS:=Lib.hid hS
 have HO:=Lib.hid hs
 clear hS hs
 go_enter Tryz.func146,Tryz.ntmps146
 go_wp2_with fail
 refine (find_PgS b c sn A l x _ (HS.out.new_ ((((Below.refl _ _).alloc (Nat.le_refl _) _).alloc (by simp) _).alloc (by simp;omega) _)) HO.out (by omega)).mono ?_
 rintro e w1 ⟨rfl,hb1⟩
 obtain ⟨hc1,hf1⟩:=bcell hb1
 have hz1:w.heap.size+2<w1.heap.size:=by have:=hb1.size;simp at this;omega
 have HB:=Lib.hid ((((((Below.refl w.heap.size w).alloc (Nat.le_refl _) _).alloc (by simp) _).alloc (by simp;omega) _)).trans (hb1.mono (by simp;omega)))
 clear hb1
 go_wp2_with fail
 exact bodyPost_ret (v:=.tuple #[.agg #[.int .i64 0,.string ⟨#[]⟩,.int .i64 0,.int .i64 0],.bool false]) (by simp [results,Tryz.results146,go_sem,hc1]) rfl ⟨rfl,by (repeat (first | exact Below.refl _ _ | exact HB.out | refine Below.drew ?_ | refine Below.al ?_ _ | refine Below.sc ?_ _))⟩
set_option maxRecDepth 100000 in
set_option maxHeartbeats 1000000 in
theorem get_is_PgS (b c:Nat) (sn:Bool) (A:Option Addr) (l:List PgS) (x y:PgS) (w:World) (hS:PgSSet w b sn A c l) (hs:Srt cmpPgS l) (hl:(l.length:Int)≤1000000000) (hh:has cmpPgS l x=true) (hy:l[rank cmpPgS l x]? = some y) :
 Calls Tryz.prog 146 #[.pointer (some ⟨b,0,none⟩),.agg #[.int .i64 x.kk.kind,.string x.kk.text,.int .i64 x.kk.n,.int .i64 x.v]] w fun e w'=>e = .returned (.tuple #[.agg #[.int .i64 y.kk.kind,.string y.kk.text,.int .i64 y.kk.n,.int .i64 y.v],.bool true])∧Below w.heap.size w w':=by
 have HS:=Lib.hid hS
 have HO:=Lib.hid hs
 obtain ⟨hrk,hye⟩:=List.getElem?_eq_some_iff.1 hy
 have hrd:=hS.rd PgS.cells_length
 have s0:=hS.cell0
 have hb:=hS.lt
 clear hS hs hy
 obtain ⟨g,off,rfl,hgs,hcell⟩:=hrd.at_ hrk
 rw [hye] at hcell
 obtain ⟨k,hk⟩ : ∃k,k=rank cmpPgS l x:=⟨_,rfl⟩
 rw [← hk] at hcell hrk
 have q0:w.cell? ⟨g,off+k*4,none⟩=some (.int .i64 y.kk.kind):=by simpa using hcell 0 _ rfl
 have q1:w.cell? ⟨g,off+k*4+1,none⟩=some (.string y.kk.text):=by simpa using hcell 1 _ rfl
 have q2:w.cell? ⟨g,off+k*4+2,none⟩=some (.int .i64 y.kk.n):=by simpa using hcell 2 _ rfl
 have q3:w.cell? ⟨g,off+k*4+3,none⟩=some (.int .i64 y.v):=by simpa using hcell 3 _ rfl
 have b1:(0:Int)≤(k:Int):=by omega
 have b2:(k:Int)<(l.length:Int):=by omega
 have HK:=Lib.hid hk
 clear hcell hrd hye hk
 go_enter Tryz.func146,Tryz.ntmps146
 go_wp2_with fail
 refine (find_PgS b c sn _ l x _ (HS.out.new_ ((((Below.refl _ _).alloc (Nat.le_refl _) _).alloc (by simp) _).alloc (by simp;omega) _)) HO.out (by omega)).mono ?_
 rintro e w1 ⟨rfl,hb1⟩
 rw [← HK.out]
 obtain ⟨hc1,hf1⟩:=bcell hb1
 have hz1:w.heap.size+2<w1.heap.size:=by have:=hb1.size;simp at this;omega
 have HB:=Lib.hid ((((((Below.refl w.heap.size w).alloc (Nat.le_refl _) _).alloc (by simp) _).alloc (by simp;omega) _)).trans (hb1.mono (by simp;omega)))
 clear hb1
 have r0:=(HB.out.cell (p:=⟨b,0,none⟩) hb).trans s0
 have r1:=(HB.out.cell (p:=⟨g,off+k*4,none⟩) hgs).trans q0
 have r2:=(HB.out.cell (p:=⟨g,off+k*4+1,none⟩) hgs).trans q1
 have r3:=(HB.out.cell (p:=⟨g,off+k*4+2,none⟩) hgs).trans q2
 have r4:=(HB.out.cell (p:=⟨g,off+k*4+3,none⟩) hgs).trans q3
 clear s0 q0 q1 q2 q3
 go_wp2_with fail
 exact bodyPost_ret (v:=.tuple #[.agg #[.int .i64 y.kk.kind,.string y.kk.text,.int .i64 y.kk.n,.int .i64 y.v],.bool true]) (by simp [results,Tryz.results146,go_sem,hc1]) rfl ⟨rfl,by (repeat (first | exact Below.refl _ _ | exact HB.out | refine Below.drew ?_ | refine Below.al ?_ _ | refine Below.sc ?_ _))⟩
end Go.Proofs.YtldndkngpdfpfaaGreat
namespace Go.Proofs.YtldndkngpdfpfaaGreat
open Go.RowKit
def NewPostPgS (w:World) (xs:List PgS) (e:Ending) (w':World):Prop:=
 ∃k,e = .returned (.pointer (some ⟨k,0,none⟩))∧w.heap.size≤k∧∃sn A c,PgSSet w' k sn A c (puts cmpPgS [] xs)∧AIn A (w.heap.size≤·)∧Below w.heap.size w w'
set_option maxRecDepth 100000 in
set_option maxHeartbeats 2000000 in
theorem new_PgS (A:Option Addr) (c:Nat) (xs:List PgS) (w:World) (hrd:RowRd w 4 PgS.cells A c xs) (hl:(xs.length:Int)≤10000000) :
 Calls Tryz.prog 140 #[.slice A xs.length c] w (NewPostPgS w xs):=by
 have HRD:=Lib.hid hrd
 clear hrd
 go_enter Tryz.func140,Tryz.ntmps140
 go_wp2_with fail
 obtain ⟨W0,hW0⟩ : ∃W0,W0=w.alloc (.cells #[.slice none 0 0,.bool false] 281):=⟨_,rfl⟩
 have hb0:Below w.heap.size w W0:=by rw [hW0];exact (Below.refl _ _).alloc (Nat.le_refl _) _
 have hS0:PgSSet W0 w.heap.size false none 0 []:=⟨by rw [hW0];exact Blk.new _ _ _,⟨by simp,.inl ⟨rfl,rfl⟩⟩⟩
 rw [← hW0]
 clear hW0
 have HB0:=Lib.hid hb0
 have HS0:=Lib.hid hS0
 clear hb0 hS0
 go_loopw [10] (fun s wr=>∃i:Nat,s = .int .i64 i∧i≤xs.length∧∃sn A' c',PgSSet wr w.heap.size sn A' c' (puts cmpPgS [] (xs.take i))∧AIn A' (w.heap.size≤·)∧Below w.heap.size w wr) (fun s wr=>xs.length - (intOf s).toNat)
 case atStart=>exact ⟨0,rfl,Nat.zero_le _,false,none,0,HS0.out,AIn.none_ _,HB0.out⟩
 case round=>
  obtain ⟨i,rfl,hi,sn,A',c',hS,hA',hB⟩:=hrel
  have HS:=Lib.hid hS
  have HA:=Lib.hid hA'
  have HB:=Lib.hid hB
  clear hS hA' hB
  by_cases hlt:i<xs.length
  · obtain ⟨x,hx⟩ : ∃x,x=xs[i]:=⟨_,rfl⟩
    obtain ⟨g,off,rfl,hgs,hcell⟩:=(HRD.out.fr (Fr.of_new (M:=fun _=>False) HB.out) (fun _ _ h=>h)).at_ hlt
    rw [← hx] at hcell
    have q0:wr.cell? ⟨g,off+i*4,none⟩=some (.int .i64 x.kk.kind):=by simpa using hcell 0 _ rfl
    have q1:wr.cell? ⟨g,off+i*4+1,none⟩=some (.string x.kk.text):=by simpa using hcell 1 _ rfl
    have q2:wr.cell? ⟨g,off+i*4+2,none⟩=some (.int .i64 x.kk.n):=by simpa using hcell 2 _ rfl
    have q3:wr.cell? ⟨g,off+i*4+3,none⟩=some (.int .i64 x.v):=by simpa using hcell 3 _ rfl
    have b1:(0:Int)≤(i:Int):=by omega
    have b2:(i:Int)<(xs.length:Int):=by omega
    have HX:=Lib.hid hx
    clear hcell hx
    go_wp2_with fail
    have hsr:=Srt.puts tc_pgs (xs.take i) (Srt.nil (cmp:=cmpPgS))
    have hlen:(((puts cmpPgS [] (xs.take i)).length:Nat):Int)≤100000000:=by
     have:=length_puts_le tc_pgs (xs.take i) (Srt.nil (cmp:=cmpPgS))
     simp at this
     omega
    refine (put_PgS w.heap.size c' sn A' _ x _ (HS.out.new_ ((Below.refl _ _).alloc (Nat.le_refl _) _)) hsr hlen).mono ?_
    rintro e w1 ⟨rfl,sn2,A2,c2,hS2,hF2,hM2⟩
    have hB1:Below w.heap.size w w1:=(HB.out.alloc HB.out.size _).trans (hF2.below (by have:=HB.out.size;(try simp);omega) (fun k hk hm=>by
     rcases hm with hm | ⟨_,a,ha,hm⟩
     · omega
     · have:=HA.out a ha;omega))
    have hA2:AIn A2 (w.heap.size≤·):=by
     rcases hM2 with ⟨_,rfl⟩ | ⟨_,g2,hg2,rfl⟩
     · exact HA.out
     · intro a ha;cases ha;have:=HB.out.size;(try simp at hg2 ⊢);omega
    have HS2:=Lib.hid hS2
    have HB1:=Lib.hid hB1
    have HA2:=Lib.hid hA2
    clear hS2 hB1 hA2 hF2 hM2 hsr hlen q0 q1 q2 q3
    go_wp2_with fail
    go_roundw
    case rel=>
     refine ⟨i+1,by go_num,by omega,sn2,A2,c2,?_,HA2.out,HB1.out⟩
     rw [List.take_add_one,List.getElem?_eq_getElem hlt,← HX.out]
     simp only [Option.toList_some,puts_snoc]
     exact HS2.out
    case measure=>simp [intOf]<;>omega
  · have hie:i=xs.length:=by omega
    subst hie
    go_wp2_with fail
    go_ret
    refine ⟨w.heap.size,rfl,Nat.le_refl _,sn,A',c',?_,HA.out,HB.out⟩
    have:=HS.out
    rwa [List.take_length] at this
end Go.Proofs.YtldndkngpdfpfaaGreat
namespace Go.Proofs.YtldndkngpdfpfaaGreat
open Go.RowKit
variable {P:Program}
structure Kept (B:Nat) (F X Y:World):Prop where
 from_:KeepsFrom B X Y
 own : ∀k,B≤k→k<F.heap.size→Y.heap[k]? = X.heap[k]?
section
variable {B C:Nat} {F X Y Z:World}
theorem Kept.refl (B:Nat) (F X:World):Kept B F X X:=⟨⟨Nat.le_refl _,fun _ _ _ h _=>h⟩,fun _ _ _=>rfl⟩
theorem Kept.trans (h:Kept B F X Y) (k:Kept B F Y Z):Kept B F X Z:=⟨h.1.trans k.1,fun i h1 h2=>(k.2 i h1 h2).trans (h.2 i h1 h2)⟩
theorem Kept.up (h:Kept B F X Y) (hB:B≤C):Kept C F X Y:=⟨KeepsFrom.up h.1 hB,fun i h1 h2=>h.2 i (by omega) h2⟩
theorem Kept.new_ (h:Below X.heap.size X Y) (hs:F.heap.size≤X.heap.size):Kept B F X Y:=
 ⟨⟨h.size,fun k o _ hk _=>(h.block k (Array.getElem?_eq_some_iff.1 hk).1).trans hk⟩,fun k _ hk=>h.block k (by omega)⟩
end
def IterP {α:Type} (P:Program) (gf:Nat) (lb:Array Value) (encs:α→Array Value) (xs:List α) (W:World) (start Kp:World→World→Prop):Prop:=
 ∀(l:Nat) (J Jx:World→List α→World→Prop),(∀F p X Y,J F p X→Priv W.heap.size X Y→J F p Y)→(∀F p X Y,Jx F p X→Priv W.heap.size X Y→Jx F p Y)→
  (∀F,start W F→J F [] F)→
  (∀F pre x post W1,start W F→xs=pre++x :: post→J F pre W1→YieldAt Fence.wide 0 P l (encs x) W1 fun e W'=>
    (e = .returned (.bool true)∧J F (pre ++ [x]) W'∧Kp W1 W'∧Kept W.heap.size F W1 W')∨(e = .returned (.bool false)∧Jx F (pre ++ [x]) W'∧Kept W.heap.size F W1 W'))→
  CallsIn Fence.wide 0 P gf (#[.func (.yield l) #[] #[]]++lb) W fun e W'=>(∃v,e = .returned v)∧∃F,start W F∧(J F xs W'∨∃pre post,xs=pre++post∧Jx F pre W')
theorem Iter.p {α:Type} {gf:Nat} {lb:Array Value} {encs:α→Array Value} {xs:List α} {W:World} {start Kp:World→World→Prop} (h:Iter P gf lb encs xs W start (fun X Y=>Kp X Y∧KeepsFrom W.heap.size X Y)):IterP P gf lb encs xs W start Kp:=by
 intro l J Jx h1 h2 h3 h4
 refine (h l (fun p X=>∃F,start W F∧J F p X) (fun p X=>∃F,start W F∧Jx F p X) (fun p X Y ⟨F,a,b⟩ hp=>⟨F,a,h1 F p X Y b hp⟩) (fun p X Y ⟨F,a,b⟩ hp=>⟨F,a,h2 F p X Y b hp⟩) (fun F hF=>⟨F,hF,h3 F hF⟩) ?_).mono ?_
 · rintro pre x post W1 hx ⟨F,hF,hJ⟩
   obtain ⟨fn,tmps,assign,body,hy,hR⟩:=h4 F pre x post W1 hF hx hJ
   refine ⟨fn,tmps,assign,body,hy,hR.mono ?_⟩
   rintro e W' (⟨g1,g2,g3,g4⟩ | ⟨g1,g2,_⟩)
   · exact .inl ⟨g1,⟨F,hF,g2⟩,g3,g4.1⟩
   · exact .inr ⟨g1,F,hF,g2⟩
 · rintro e W' ⟨hv,(⟨F,hF,hJ⟩ | ⟨pre,post,hx,F,hF,hJ⟩)⟩
   · exact ⟨hv,F,hF,.inl hJ⟩
   · exact ⟨hv,F,hF,.inr ⟨pre,post,hx,hJ⟩⟩
end Go.Proofs.YtldndkngpdfpfaaGreat
namespace Go.Proofs.YtldndkngpdfpfaaGreat
open Go.RowKit
variable {P:Program}
def Plus (D:Nat→Prop) (X Y:World):Nat→Prop:=fun k=>D k∨(X.heap.size≤k∧k<Y.heap.size)
def FromB (B:Nat) (D:Nat→Prop):Nat→Prop:=fun k=>D k∧B≤k
theorem Plus.same {D:Nat→Prop} {X Y:World} (h:Y.heap.size=X.heap.size):Plus D X Y=D:=by
 funext k;apply propext;unfold Plus;constructor
 · rintro (h | h)
   · exact h
   · omega
 · exact .inl
def Steady {α:Type} (B:Nat) (J:(Nat→Prop)→List α→World→Prop):Prop:=∀D p X Y,J D p X→Fr (FromB B D) X Y→J (Plus D X Y) p Y
theorem Steady.same {α:Type} {B:Nat} {J:(Nat→Prop)→List α→World→Prop} (h:Steady B J) {D:Nat→Prop} {p:List α} {X Y:World} (hJ:J D p X) (hF:Fr (FromB B D) X Y) (hz:Y.heap.size=X.heap.size):J D p Y:=by
 have:=h D p X Y hJ hF
 rwa [Plus.same hz] at this
def RoundsO {α:Type} (P:Program) (l:Nat) (encs:α→Array Value) (xs:List α) (J Jx:(Nat→Prop)→List α→World→Prop):Prop:=
 ∀D pre x post W1,xs=pre++x :: post→J D pre W1→YieldAt Fence.wide 0 P l (encs x) W1 fun e W'=>
  (e = .returned (.bool true)∧J D (pre ++ [x]) W'∧Fr (fun k=>¬D k) W1 W')∨(e = .returned (.bool false)∧Jx D (pre ++ [x]) W'∧Fr (fun k=>¬D k) W1 W')
def ToldO {α:Type} (xs:List α) (J Jx:(Nat→Prop)→List α→World→Prop) (W':World):Prop:=∃D,J D xs W'∨∃pre post,xs=pre++post∧Jx D pre W'
end Go.Proofs.YtldndkngpdfpfaaGreat
namespace Go.Proofs.YtldndkngpdfpfaaGreat
open Go.RowKit
theorem Fr.setCells {M:Nat→Prop} {a:World} {g:Nat} : ∀(vs:List Value) (o:Nat) {b:World},Fr M a b→(M g∨a.heap.size≤g)→Fr M a (b.setCells g o vs)
 | [],_,_,h,_=>h
 | v :: vs,o,_,h,hg=>Fr.setCells vs (o+1) (h.setCell (p:=⟨g,o,none⟩) hg v) hg
theorem ownsRow_setCells {g:Nat} {e:TypeId} {size n cap:Nat} : ∀(vs:List Value) (o:Nat) {w:World} {xs:List Value},w.ownsRow 0 e size (.slice (some ⟨g,0,none⟩) n cap) n xs→(w.setCells g o vs).ownsRow 0 e size (.slice (some ⟨g,0,none⟩) n cap) n ((vs.zipIdx o).foldl (fun l (v,j)=>l.set j v) xs)
 | [],_,_,_,h=>h
 | v :: vs,o,_,_,h=>by
   rw [List.zipIdx_cons,List.foldl_cons]
   exact ownsRow_setCells vs (o+1) ((h.stored o v).1)
theorem zip_shift : ∀(vs:List Value) (o s:Nat) (xs:List Value),(vs.zipIdx (o+s)).foldl (fun l (v,j)=>l.set j v) xs=(vs.zipIdx s).foldl (fun l (v,j)=>l.set (o+j) v) xs
 | [],_,_,_=>rfl
 | v :: vs,o,s,xs=>by
   rw [List.zipIdx_cons,List.zipIdx_cons,List.foldl_cons,List.foldl_cons]
   exact zip_shift vs o (s+1) _
theorem ownsRow_element {α:Type} {cells:α→List Value} {w:World} {g:Nat} {e:TypeId} {size n cap:Nat} (hsz : ∀x,(cells x).length=size) (h0:0<size) {l:List α} (h:w.ownsRow 0 e size (.slice (some ⟨g,0,none⟩) n cap) n (l.flatMap cells)) (k:Nat) (hk:k<l.length) (y:α) :
 (w.setCells g (k*size) (cells y)).ownsRow 0 e size (.slice (some ⟨g,0,none⟩) n cap) n ((l.set k y).flatMap cells):=by
 have h1:=ownsRow_setCells (w:=w) (cells y) (k*size) h
 have h2:=zip_shift (cells y) (k*size) 0 (l.flatMap cells)
 rw [Nat.add_zero] at h2
 rw [h2] at h1
 have h3:=flat_set hsz h0 l k hk y
 unfold setAll at h3
 rw [h3] at h1
 exact h1
theorem step_store_el {P:Program} {ops:Array Oper} {o:Oper} {a:Act} {w:World} {K:Act→World→Prop} {Q:Exit→Act→World→Prop} {E:Prop} (hgd:o.guard=none) (ty:TypeId) (x y:Operand) (ho:o.op = .store ty x y)
 (b off:Nat) (cells:Array Value) (hx:a.eval x = .pointer (some ⟨b,off,none⟩)) (hy:a.eval y = .agg cells)
 (ht:w.there b off cells.size) (hi:(P.info? ty).map (·.size)=some cells.size) (h1:cells.all (·.oneCell')=true)
 (h:K (a.put o.dst undef) (w.setCells b off cells.toList)):if Region.wanted o (yielded ops a.tmps)=true then Oper.wp P o a w K Q else E:=by
 rw [if_pos (by simp [Region.wanted,hgd])]
 exact wp_store_mid ty x y ho b off cells hx hy ht hi h1 h
theorem Blk.farCells {g':Nat} {t:TypeId} {cs:Array Value} {g:Nat} : ∀(vs:List Value) (o:Nat) {w:World},Blk w g' t cs→g'≠g→Blk (w.setCells g o vs) g' t cs
 | [],_,_,h,_=>h
 | v :: vs,o,_,h,hn=>Blk.farCells vs (o+1) (h.far (p:=⟨g,o,none⟩) hn v) hn
theorem Room.there {w:World} {g:Nat} {e:TypeId} {m:Nat} (h:Room w g e m) {o n:Nat} (hn:o+n≤m):w.there g o n:=fun j hj=>by
 obtain ⟨u,hu⟩:=h.cell (i:=o+j) (by omega)
 exact ⟨by rw [hu];rfl,h.frozen _⟩
theorem Blk.range {w:World} {g:Nat} {t:TypeId} {cs:Array Value} (h:Blk w g t cs):w.rangeAt g 0 cs.toList:=fun j v hv=>by
 rw [Nat.zero_add,h.cell];simpa using hv
theorem Blk.there {w:World} {g:Nat} {t:TypeId} {cs:Array Value} (h:Blk w g t cs):w.there g 0 cs.size:=fun j hj=>by
 rw [Nat.zero_add]
 exact ⟨by rw [h.cell,Array.getElem?_eq_getElem hj];rfl,h.frozen j⟩
theorem Below.setCells' {B:Nat} {a:World} {g:Nat} : ∀(vs:List Value) (o:Nat) {b:World},Below B a b→B≤g→Below B a (b.setCells g o vs)
 | [],_,_,h,_=>h
 | v :: vs,o,_,h,hg=>Below.setCells' vs (o+1) (h.setCell (show B≤(⟨g,o,none⟩:Addr).block from hg) v) hg
theorem results_cell_tmp {P:Program} {fn:Func} {t s:Tmp} {T:TypeId} (h:fn.results = #[.cell t T,.tmp s]) (tmps:Array Value) (w:World) (g:Nat) (cs:List Value) (d:TypeDesc) (ht:tmps.getD t undef = .pointer (some ⟨g,0,none⟩)) (hc:w.rangeAt g 0 cs)
 (hu:P.underlying T=some d) (hd:d.isRow=true) (hi:(P.info? T).map (·.size)=some cs.length):(results fn tmps).run P w = .ok (.tuple #[.agg cs.toArray,tmps.getD s undef]) w:=by
 have hl:=run_loadVar_mid (P:=P) w g 0 T cs d hc hu hd hi
 have ht':tmps[t]?.getD undef = .pointer (some ⟨g,0,none⟩):=by simpa using ht
 simp [results,h,ht',asAddr,hl]
theorem results_cell {P:Program} {fn:Func} {t:Tmp} {T:TypeId} (h:fn.results = #[.cell t T]) (tmps:Array Value) (w:World) (g:Nat) (cs:List Value) (d:TypeDesc) (ht:tmps.getD t undef = .pointer (some ⟨g,0,none⟩)) (hc:w.rangeAt g 0 cs)
 (hu:P.underlying T=some d) (hd:d.isRow=true) (hi:(P.info? T).map (·.size)=some cs.length):(results fn tmps).run P w = .ok (.agg cs.toArray) w:=by
 have hl:=run_loadVar_mid (P:=P) w g 0 T cs d hc hu hd hi
 have ht':tmps[t]?.getD undef = .pointer (some ⟨g,0,none⟩):=by simpa using ht
 simp [results,h,ht',asAddr,hl]
theorem RowRd.range {α:Type} {w:World} {size c:Nat} {cells:α→List Value} {A:Option Addr} {l:List α} (h:RowRd w size cells A c l) {k:Nat} (hk:k<l.length) : ∃b off,A=some ⟨b,off,none⟩∧b<w.heap.size∧w.rangeAt b (off+k*size) (cells l[k]):=by
 obtain ⟨b,off,h1,h2,h3⟩:=h.at_ hk
 exact ⟨b,off,h1,h2,fun j v hv=>h3 j v hv⟩
theorem rangeAt_below {w w':World} {B g o:Nat} {cs:List Value} (h:w.rangeAt g o cs) (hb:Below B w w') (hg:g<B):w'.rangeAt g o cs:=fun j v hv=>(hb.cell (p:=⟨g,o+j,none⟩) hg).trans (h j v hv)
end Go.Proofs.YtldndkngpdfpfaaGreat
namespace Go.Proofs.YtldndkngpdfpfaaGreat
open Go.RowKit
variable {P:Program} {α:Type}
def ItSt (J:(Nat→Prop)→List α→World→Prop) (D E:Nat→Prop) (W:World) (pre:List α) (X:World):Prop:=
 ∃D',(∀k,D k→D' k)∧(∀k,E k→D' k)∧J D' pre X∧Fr (fun j=>¬D j) W X∧(∀k,E k→W.heap.size≤k)
section
variable {J Jx:(Nat→Prop)→List α→World→Prop} {D E E':Nat→Prop} {W X Y:World} {pre xs:List α}
theorem ItSt.start (h:J D [] W):ItSt J D (fun _=>False) W [] W:=⟨D,fun _ h=>h,fun _ h=>h.elim,h,Fr.refl _ _,fun _ h=>h.elim⟩
theorem ItSt.fr (h:ItSt J D E W pre X):Fr (fun j=>¬D j) W X:=by
 obtain ⟨_,_,_,_,h,_⟩:=h
 exact h
theorem ItSt.step (h:ItSt J D E W pre X) (hJ:Steady W.heap.size J) (hF:Fr E X Y):ItSt J D (Plus E X Y) W pre Y:=by
 obtain ⟨D',h1,h2,h3,h4,h5⟩:=h
 refine ⟨Plus D' X Y,fun k hk=>.inl (h1 k hk),fun k hk=>hk.imp (h2 k) id,hJ _ _ _ _ h3 (hF.mono (fun k _ hk=>⟨h2 k hk,h5 k hk⟩)),h4.into hF (fun k hk=>.inr (h5 k hk)),fun k hk=>?_⟩
 rcases hk with hk | hk
 · exact h5 k hk
 · exact Nat.le_trans h4.size hk.1
theorem ItSt.new_ (h:ItSt J D E W pre X) (hJ:Steady W.heap.size J) (hb:Below X.heap.size X Y):ItSt J D (Plus E X Y) W pre Y:=h.step hJ (Fr.of_new hb)
theorem ItSt.round {l:Nat} {encs:α→Array Value} {x:α} {post:List α} (h:ItSt J D E W pre X) (hY:RoundsO P l encs xs J Jx) (hx:xs=pre++x :: post) :
 YieldAt Fence.wide 0 P l (encs x) X fun e W'=>(e = .returned (.bool true)∧ItSt J D E W (pre ++ [x]) W'∧Fr (fun k=>¬(D k∨E k)) X W')∨(e = .returned (.bool false)∧ToldO xs J Jx W'∧Fr (fun k=>¬(D k∨E k)) X W'):=by
 obtain ⟨D',h1,h2,h3,h4,h5⟩:=h
 obtain ⟨fn,tmps,assign,body,hy,hR⟩:=hY D' pre x post X hx h3
 refine ⟨fn,tmps,assign,body,hy,hR.mono ?_⟩
 rintro e W' (⟨g1,g2,g3⟩ | ⟨g1,g2,g3⟩)
 · exact .inl ⟨g1,⟨D',h1,h2,g2,h4.trans (g3.mono (fun k _ hk hd=>hk (h1 k hd))),h5⟩,g3.mono (fun k _ hk hd=>hk (hd.elim (h1 k) (h2 k)))⟩
 · exact .inr ⟨g1,⟨D',.inr ⟨pre ++ [x],post,by rw [hx];simp,g2⟩⟩,g3.mono (fun k _ hk hd=>hk (hd.elim (h1 k) (h2 k)))⟩
end
theorem size_setCells (b:Nat) : ∀(vs:List Value) (o:Nat) (w:World),(w.setCells b o vs).heap.size=w.heap.size
 | [],_,_=>rfl
 | v :: r,o,w=>by rw [World.setCells,size_setCells b r (o+1)];simp [World.setCell]
theorem Blk.setCells_ {g:Nat} {t:TypeId} : ∀(vs:List Value) (o:Nat) {w:World} {cs:Array Value},Blk w g t cs→∃cs',Blk (w.setCells g o vs) g t cs'∧cs'.size=cs.size
 | [],_,_,cs,h=>⟨cs,h,rfl⟩
 | v :: vs,o,w,cs,h=>by
   obtain ⟨cs',h1,h2⟩:=Blk.setCells_ vs (o+1) (h.set_ o v)
   exact ⟨cs',h1,by rw [h2];simp⟩
theorem kept_blk {w W:World} {t:TypeId} {zs vs:List Value} (hl:zs.length=vs.length) (hW:W=(w.alloc (.cells zs.toArray t)).setCells w.heap.size 0 vs) (hr:W.rangeAt w.heap.size 0 vs):Blk W w.heap.size t vs.toArray:=by
 obtain ⟨cs',h1,h2⟩:=Blk.setCells_ vs 0 (Blk.new w t zs.toArray)
 rw [← hW] at h1
 have e:cs'=vs.toArray:=by
  apply Array.ext
  · rw [h2];simpa using hl
  · intro i hi hj
    have hj':i<vs.length:=by simpa using hj
    have h3:=hr i vs[i] (List.getElem?_eq_getElem hj')
    rw [show (0+i)=i by omega,h1.cell i,Array.getElem?_eq_getElem hi] at h3
    simpa using h3
 rw [← e];exact h1
theorem grown_own {E:Nat→Prop} {X Y:World} {e:TypeId} {size n m:Nat} {A:Option Addr} {c:Nat} {v':Value} {xs news:List Value} (hA:AIn A E) (hown':Y.ownsRow 0 e size v' (n+m) (xs++news)) (hg:X.grownBy Y (Value.slice A n c).ownBlock)
 (hat:v'.ownBlock=(Value.slice A n c).ownBlock∨v'.ownBlock=some X.heap.size) : ∃A' c',v' = .slice A' (n+m) c'∧Fr E X Y∧AIn A' (Plus E X Y)∧Y.ownsRow 0 e size (.slice A' (n+m) c') (n+m) (xs++news):=by
 obtain ⟨A',c',rfl,hc,_,hz⟩:=own_form2 hown'
 refine ⟨A',c',rfl,(Fr.refl E X).grown hg (fun k hk=>?_),fun a ha=>?_,hown'⟩
 · rcases A with _ | a
   · simp [Value.ownBlock] at hk
   · have e:a.block=k:=by simpa [Value.ownBlock] using hk
     exact .inl (e ▸ hA a rfl)
 · subst ha
   rcases hat with h | h
   · rcases A with _ | b
     · simp [Value.ownBlock] at h
     · have e:a.block=b.block:=by simpa [Value.ownBlock] using h
       exact .inl (e ▸ hA b rfl)
   · have e:a.block=X.heap.size:=by simpa [Value.ownBlock] using h
     refine .inr ⟨by omega,?_⟩
     rcases ownsRow_form hown' with ⟨hv,_⟩ | ⟨g,cap,hv,_,_,hr,_⟩
     · cases hv
     · injection hv with hv
       injection hv with hv
       subst hv
       exact hr.lt
end Go.Proofs.YtldndkngpdfpfaaGreat
namespace Go.Proofs.YtldndkngpdfpfaaGreat
section
variable {P:Program} {ops:Array Oper} {Q:Exit→Act→World→Prop} {S:World→Prop}
inductive Pl where
 | fin (l:List (Nat×Cls))
 | fork (l:List (Nat×Cls)) (i:Nat) (r:Pl) (j:Nat) (s:Pl)
def setL (listed:Array Bool) (l:List (Nat×Cls)):Array Bool:=l.foldl (fun g x=>g.setIfInBounds x.1 true) listed
def okL (ops:Array Oper):List (Nat×Cls)→Array Bool→Bool
 | [],_=>true
 | (k,c) :: rest,listed=>(if c == 2 then Region.ready .any ops listed == [k] else (Region.ready .any ops listed).contains k && Region.free .any ops listed k) && okL ops rest (listed.setIfInBounds k true)
def chkL (qs ls:List Nat) (l:List (Nat×Cls)):Bool:=l.all fun (k,c)=>(c != 2) == qs.contains k && (c != 1 || ls.contains k)
def okPl (ops:Array Oper) (qs ls:List Nat):Pl→Nat→Array Bool→Bool
 | .fin l,n,listed=>n == l.length && chkL qs ls l && okL ops l listed && (Region.ready .any ops (setL listed l)).isEmpty && l.all fun x=>x.1<ops.size
 | .fork l i r j s,n,listed=>decide (l.length+1≤n) && chkL qs ls l && okL ops l listed && (l.all fun x=>x.1<ops.size) && Region.ready .any ops (setL listed l) == [i,j] && !qs.contains i && !qs.contains j &&
  okPl ops qs ls r (n - l.length - 1) ((setL listed l).setIfInBounds i true) && okPl ops qs ls s (n - l.length - 1) ((setL listed l).setIfInBounds j true)
def wpY (P:Program) (ops:Array Oper) (Q:Exit→Act→World→Prop) (S:World→Prop) (ns:Nat→Bool) (R:Act→World→Prop):List (Nat×Cls×Oper)→Act→World→Prop
 | [],a,w=>R a w
 | (i,c,o) :: rest,a,w=>
   if c=2 then (if Region.wanted o (yielded ops a.tmps)=true then o.wp P a w (fun a' w'=>(ns i=true→S w')∧wpY P ops Q S ns R rest a' w') Q else (ns i=true→S w)∧wpY P ops Q S ns R rest (a.put o.dst undef) w)
   else ∃v,(if c=1 then YieldsIf P ops S o v a∧S w else Yields P ops o v a)∧wpY P ops Q S ns R rest (a.put o.dst v) w
def wpPl (P:Program) (ops:Array Oper) (Q:Exit→Act→World→Prop) (S:World→Prop) (ns:Nat→Bool):Pl→Act→World→Prop
 | .fin l,a,w=>wpY P ops Q S ns (fun a w=>Q .normal a w) (beside ops l) a w
 | .fork l i r j s,a,w=>wpY P ops Q S ns (fun a w=>wpOp P ops Q i (fun a' w'=>(ns i=true→S w')∧wpPl P ops Q S ns r a' w') a w∧wpOp P ops Q j (fun a' w'=>(ns j=true→S w')∧wpPl P ops Q S ns s a' w') a w) (beside ops l) a w
theorem closed_setL : ∀(l:List (Nat×Cls)) (listed:Array Bool),Closed ops listed→okL ops l listed=true→Closed ops (setL listed l)
 | [],_,h,_=>h
 | (k,c) :: rest,listed,h,hB=>by
   simp only [okL,Bool.and_eq_true] at hB
   refine closed_setL rest _ (closed_ready h ?_) hB.2
   by_cases hc:c=2
   · subst hc
     have hB1:=hB.1
     simp only [beq_self_eq_true,if_true] at hB1
     have hr:Region.ready .any ops listed = [k]:=by simpa using hB1
     rw [hr];simp
   · have hB1:=hB.1
     rw [if_neg (by simpa using hc)] at hB1
     simp only [Bool.and_eq_true] at hB1
     simpa using hB1.1
theorem wpAnyE_list {qt ns:Nat→Bool} {R:Act→World→Prop} {n:Nat} (hsel:Region.noSelect ops=true) (hQ : ∀c a a' w,Q (.panic c) a w→Q (.panic c) a' w) :
 ∀(rest:List (Nat×Cls)) (listed:Array Bool) (a:Act) (w:World),Closed ops listed→okL ops rest listed=true→(∀x∈rest,x.1<ops.size)→
  (∀k c,(k,c)∈rest→(qt k=true↔c≠2))→(∀k,(k,1)∈rest→∀j,waitsT ops ops.size j k=false→j≠k→j<ops.size→ns j=true)→
  (∀a w,R a w→wpAnyE P ops Q S qt ns n (setL listed rest) a w)→wpY P ops Q S ns R (beside ops rest) a w→wpAnyE P ops Q S qt ns (rest.length+n) listed a w
 | [],listed,a,w,_,_,_,_,_,hR,h=>by
   have:=hR a w h
   simpa [setL] using this
 | (k,c) :: rest,listed,a,w,hcl,hB,hl,hqt,hns,hR,h=>by
   simp only [okL,Bool.and_eq_true] at hB
   obtain ⟨hB1,hB2⟩:=hB
   have hi:k<ops.size:=hl (k,c) (by simp)
   have ho:ops[k]? = some ops[k]:=Array.getElem?_eq_getElem hi
   have hb:beside ops ((k,c) :: rest)=(k,c,ops[k]) :: beside ops rest:=by simp [beside,ho]
   have ih:=fun listed' a w hcl' hB' hR' h'=>wpAnyE_list (R:=R) (n:=n) hsel hQ rest listed' a w hcl' hB' (fun x hx=>hl x (by simp [hx])) (fun k c hk=>hqt k c (by simp [hk])) (fun k hk=>hns k (by simp [hk])) hR' h'
   rw [hb] at h
   simp only [wpY] at h
   have hlen:((k,c) :: rest).length+n=(rest.length+n)+1:=by simp;omega
   rw [hlen]
   by_cases hc:c=2
   · subst hc
     simp only [beq_self_eq_true,if_true] at hB1
     have hr:Region.ready .any ops listed = [k]:=by simpa using hB1
     simp only [if_true] at h
     have hcl2:=closed_ready hcl (i:=k) (by rw [hr];simp)
     refine ⟨fun h0=>(by rw [hr] at h0;cases h0),fun i hi'=>?_⟩
     rw [hr] at hi'
     obtain rfl:i=k:=by simpa using hi'
     have hbh : ∀w',(ns i=true→S w')→behind S qt ns i w w':=fun w' hs=>by
      unfold behind
      rw [if_neg (fun hq=>(hqt i 2 (by simp)).1 hq rfl)]
      exact hs
     unfold wpOp
     simp only [ho]
     split
     · rename_i hw
       rw [if_pos hw] at h
       exact .inl (Oper.wp_mono (fun a' w' h'=>⟨hbh w' h'.1,ih _ a' w' hcl2 hB2 hR h'.2⟩) h)
     · rename_i hw
       rw [if_neg hw] at h
       exact ⟨hbh w h.1,ih _ _ w hcl2 hB2 hR h.2⟩
   · rw [if_neg (by simpa using hc)] at hB1
     simp only [Bool.and_eq_true] at hB1
     rw [if_neg hc] at h
     obtain ⟨v,hy,hk⟩:=h
     have hrdy:k∈Region.ready .any ops listed:=by simpa using hB1.1
     have hrest:=ih _ _ w (closed_ready hcl hrdy) hB2 hR hk
     by_cases h1:c=1
     · subst h1
       rw [if_pos rfl] at hy
       exact wpAnyE_first ho (Region.noSelect_spec hsel) (fun c a w=>hQ c _ _ w) true ((hqt k 1 (by simp)).2 hc) (fun _=>hns k (by simp)) (rest.length+n) listed a w hcl (Region.free_spec ho hB1.2) hrdy
        (hy.1.imp (fun ⟨p,q⟩=>⟨p,fun w' hw'=>q w' (hw' rfl)⟩) id) (fun _=>hy.2) hrest
     · rw [if_neg h1] at hy
       exact wpAnyE_first ho (Region.noSelect_spec hsel) (fun c a w=>hQ c _ _ w) false ((hqt k c (by simp)).2 hc) (fun h=>by cases h) (rest.length+n) listed a w hcl (Region.free_spec ho hB1.2) hrdy
        (hy.imp (fun ⟨p,q⟩=>⟨p,fun w' _=>q w'⟩) id) (fun h=>by cases h) hrest
theorem wpAnyE_pl {qs ls:List Nat} (hsel:Region.noSelect ops=true) (hQ : ∀c a a' w,Q (.panic c) a w→Q (.panic c) a' w) (p:Pl) :
 ∀(n:Nat) (listed:Array Bool) (a:Act) (w:World),Closed ops listed→okPl ops qs ls p n listed=true→
  wpPl P ops Q S (fun j=>ls.any fun k=>k != j && !waitsT ops ops.size j k) p a w→wpAnyE P ops Q S (fun k=>qs.contains k) (fun j=>ls.any fun k=>k != j && !waitsT ops ops.size j k) n listed a w:=by
 have hq : ∀l,chkL qs ls l=true→∀k c,(k,c)∈l→(qs.contains k=true↔c≠2):=fun l hl k c hk=>by
  have:=List.all_eq_true.1 hl (k,c) hk
  simp only [Bool.and_eq_true,beq_iff_eq] at this
  rw [← this.1];simp
 have hn : ∀l,chkL qs ls l=true→∀k,(k,1)∈l→∀j,waitsT ops ops.size j k=false→j≠k→j<ops.size→(ls.any fun k=>k != j && !waitsT ops ops.size j k)=true:=fun l hl k hk j hw hjk _=>by
  have:=List.all_eq_true.1 hl (k,1) hk
  simp only [Bool.and_eq_true] at this
  have h2:ls.contains k=true:=by simpa using this.2
  rw [List.any_eq_true]
  exact ⟨k,by simpa using h2,by rw [hw];simp [Ne.symm hjk]⟩
 induction p with
 | fin l=>
   intro n listed a w hcl hB h
   simp only [okPl,Bool.and_eq_true,beq_iff_eq] at hB
   obtain ⟨⟨⟨⟨rfl,hc⟩,hL⟩,he⟩,hlt⟩:=hB
   have:=wpAnyE_list (P:=P) (Q:=Q) (S:=S) (qt:=fun k=>qs.contains k) (ns:=fun j=>ls.any fun k=>k != j && !waitsT ops ops.size j k) (R:=fun a w=>Q .normal a w) (n:=0) hsel hQ l listed a w hcl hL (by simpa [List.all_eq_true] using hlt) (hq l hc) (hn l hc)
    (fun a w h=>⟨by simpa using he,h⟩) h
   simpa using this
 | fork l i r j s ihr ihs=>
   intro n listed a w hcl hB h
   simp only [okPl,Bool.and_eq_true,beq_iff_eq,decide_eq_true_eq,Bool.not_eq_true'] at hB
   obtain ⟨⟨⟨⟨⟨⟨⟨⟨hlen,hc⟩,hL⟩,hlt⟩,hrd⟩,hqi⟩,hqj⟩,hr⟩,hs⟩:=hB
   obtain ⟨m,rfl⟩ : ∃m,n=l.length+(m+1):=⟨n - l.length - 1,by omega⟩
   have em:l.length+(m+1) - l.length - 1=m:=by omega
   rw [em] at hr hs
   have hcl2:=closed_setL l listed hcl hL
   refine wpAnyE_list (P:=P) (Q:=Q) (S:=S) (qt:=fun k=>qs.contains k) (ns:=fun j=>ls.any fun k=>k != j && !waitsT ops ops.size j k) (n:=m+1) hsel hQ l listed a w hcl hL (by simpa [List.all_eq_true] using hlt) (hq l hc) (hn l hc) (fun a w hR=>?_) h
   refine ⟨fun h0=>(by rw [hrd] at h0;cases h0),fun k hk=>?_⟩
   have hcl3:=closed_ready hcl2 hk
   rw [hrd] at hk
   simp only [List.mem_cons,List.not_mem_nil,or_false] at hk
   rcases hk with rfl | rfl
   · refine wpOp_mono (fun a' w' h'=>⟨?_,ihr m _ a' w' hcl3 hr h'.2⟩) hR.1
     unfold behind
     rw [if_neg (by simp only [hqi];simp)]
     exact h'.1
   · refine wpOp_mono (fun a' w' h'=>⟨?_,ihs m _ a' w' hcl3 hs h'.2⟩) hR.2
     unfold behind
     rw [if_neg (by simp only [hqj];simp)]
     exact h'.1
theorem wp_region_Pl {id:Nat} {l:List Oper} {a:Act} {w:World} (S:World→Prop) (qs ls:List Nat) (p:Pl) (hm:P.follows .mixedOrders=true) (hsel:Region.noSelect l.toArray=true)
 (hB:okPl l.toArray qs ls p l.toArray.size (Array.replicate l.toArray.size false)=true)
 (h : ∀K:Act→World→Prop,(∀a w,Q .normal a w→K a w)→wpPl P l.toArray (OnlyN K) S (fun j=>ls.any fun k=>k != j && !waitsT l.toArray l.toArray.size j k) p a w.drew):(Code.region id l.toArray true).wp P Q a w:=by
 refine Code.wp_mono (Q:=OnlyN fun a w=>Q .normal a w) (fun e a w hq=>by cases e<;>first | exact hq | exact hq.elim) (wp_region_any hm ?_)
 have hcl:Closed l.toArray (Array.replicate l.toArray.size false):=fun m o hm=>by rw [getD_replicate_false] at hm;cases hm
 exact wpAny_of_E _ _ _ _ (wpAnyE_pl (P:=P) (Q:=OnlyN fun a w=>Q .normal a w) (S:=S) hsel (fun c a a' w h=>h) p _ _ a w.drew hcl hB (h _ (fun _ _ h=>h)))
variable {ns:Nat→Bool} {R:Act→World→Prop} {rest:List (Nat×Cls×Oper)} {a:Act} {w:World} {i:Nat} {o:Oper}
theorem wpY_nil (h:R a w):wpY P ops Q S ns R [] a w:=h
theorem wpY_w (v:Value) (hy:Yields P ops o v a) (h:wpY P ops Q S ns R rest (a.put o.dst v) w):wpY P ops Q S ns R ((i,0,o) :: rest) a w:=by
 simp only [wpY]
 exact ⟨v,by simpa using hy,h⟩
theorem wpY_l (v:Value) (hS:S w) (hy:YieldsIf P ops S o v a) (h:wpY P ops Q S ns R rest (a.put o.dst v) w):wpY P ops Q S ns R ((i,1,o) :: rest) a w:=by
 simp only [wpY]
 exact ⟨v,by simpa using ⟨hy,hS⟩,h⟩
theorem wpY_e (hn:ns i=false)
 (h : ∀K:Act→World→Prop,(∀a w,wpY P ops Q S ns R rest a w→K a w)→if Region.wanted o (yielded ops a.tmps)=true then Oper.wp P o a w K Q else K (a.put o.dst undef) w):wpY P ops Q S ns R ((i,2,o) :: rest) a w:=by
 have:=h (fun a' w'=>(ns i=true→S w')∧wpY P ops Q S ns R rest a' w') (fun a w h2=>⟨fun h=>absurd h (by rw [hn];simp),h2⟩)
 simpa only [wpY,if_true] using this
theorem wpY_es
 (h : ∀K:Act→World→Prop,(∀a w,S w→wpY P ops Q S ns R rest a w→K a w)→if Region.wanted o (yielded ops a.tmps)=true then Oper.wp P o a w K Q else K (a.put o.dst undef) w):wpY P ops Q S ns R ((i,2,o) :: rest) a w:=by
 have:=h (fun a' w'=>(ns i=true→S w')∧wpY P ops Q S ns R rest a' w') (fun a w h1 h2=>⟨fun _=>h1,h2⟩)
 simpa only [wpY,if_true] using this
theorem wpOp_c {C:World→Prop} {H:Act→World→Prop} (hC : ∀w,C w) (ho:ops[i]? = some o)
 (h : ∀K:Act→World→Prop,(∀a w,H a w→K a w)→if Region.wanted o (yielded ops a.tmps)=true then Oper.wp P o a w K Q else K (a.put o.dst undef) w) :
 wpOp P ops Q i (fun a' w'=>C w'∧H a' w') a w:=by
 have h2:=h (fun a' w'=>C w'∧H a' w') (fun a w h2=>⟨hC w,h2⟩)
 unfold wpOp
 simp only [ho]
 split
 · rename_i hw
   rw [if_pos hw] at h2
   exact .inl h2
 · rename_i hw
   rw [if_neg hw] at h2
   exact h2
theorem wpOp_cs {C:World→Prop} {H:Act→World→Prop} (ho:ops[i]? = some o)
 (h : ∀K:Act→World→Prop,(∀a w,C w→H a w→K a w)→if Region.wanted o (yielded ops a.tmps)=true then Oper.wp P o a w K Q else K (a.put o.dst undef) w) :
 wpOp P ops Q i (fun a' w'=>C w'∧H a' w') a w:=by
 have h2:=h (fun a' w'=>C w'∧H a' w') (fun a w h1 h2=>⟨h1,h2⟩)
 unfold wpOp
 simp only [ho]
 split
 · rename_i hw
   rw [if_pos hw] at h2
   exact .inl h2
 · rename_i hw
   rw [if_neg hw] at h2
   exact h2
end
end Go.Proofs.YtldndkngpdfpfaaGreat
