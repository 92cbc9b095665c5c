/-
  Texts put together: Spoil1, Spoil2, CopyProd, KeepHeavy, BkSm40, ActsSame, ProdSame.
-/
import Derived.Test.YtfidcfjcmlgkbaaGreatPMr
namespace Go.Proofs.YtfidcfjcmlgkbaaGreat
open Lib (hid)
set_option maxRecDepth 100000
set_option maxHeartbeats 32000000
set_option linter.unusedSimpArgs false
section
open Go.RowKit Go.Shelf
def Sim (W0:World) (g o:Nat) (v u:Value):Prop:=
 u=v∨(∃a b,v = .int .i64 a∧u = .int .i64 b)∨(∃a b,v = .string a∧u = .string b)∨(∃a b,v = .bool a∧u = .bool b)∨((∃A n c,v = .slice A n c)∧u = .slice none 0 0∧∃k a,0<o∧W0.cell? ⟨g,o - 1,none⟩=some (.int k a))
structure SpR (B:Nat) (W0 w:World):Prop where
 le:B≤W0.heap.size
 bel:Below B W0 w
 frz :∀g o,B≤g→g<W0.heap.size→w.frozen? ⟨g,o,none⟩=W0.frozen? ⟨g,o,none⟩
 cel :∀g o,B≤g→g<W0.heap.size→∀v,W0.cell? ⟨g,o,none⟩=some v→∃u,w.cell? ⟨g,o,none⟩=some u∧Sim W0 g o v u
section
variable {B g o:Nat}{W0 w w':World}
theorem SpR.refl {B:Nat}{W0:World}(h:B≤W0.heap.size):SpR B W0 W0:=⟨h,Znk _ _,fun _ _ _ _=>rfl,fun _ _ _ _ v h=>⟨v,h,.inl rfl⟩⟩
theorem SpR.set (h:SpR B W0 w) (hg:B≤g) (hl:g<W0.heap.size){v u:Value}(hv:W0.cell? ⟨g,o,none⟩=some v) (hs:Sim W0 g o v u):SpR B W0 (w.setCell ⟨g,o,none⟩ u):=by
 refine ⟨h.le,h.bel.setCell hg u,fun g' o' hg' hl'=>?_,fun g' o' hg' hl' v' hv'=>?_⟩
 · rw [World.frozen?_setCell];exact h.frz g' o' hg' hl'
 · by_cases e:(⟨g,o,none⟩:Addr)=⟨g',o',none⟩
   · injection e with e1 e2
     subst e1 e2;rw [hv] at hv';injection hv' with hv';subst hv';obtain ⟨u1,h1,_⟩:=h.cel g o hg hl v hv;exact ⟨u,World.cell?_setCell_same _ _ _ h1,hs⟩
   · rw [World.cell?_setCell_other _ _ _ _ e]
     exact h.cel g' o' hg' hl' v' hv'
theorem SpR.sets (hg:B≤g) (hl:g<W0.heap.size):∀(us:List Value) (o:Nat){w:World},SpR B W0 w→(∀j u,us[j]? = some u→∃v,W0.cell? ⟨g,o+j,none⟩=some v∧Sim W0 g (o+j) v u)→SpR B W0 (w.setCells g o us)
 | [],_,_,h,_=>h
 | u :: us,o,w,h,hs=>by
   obtain ⟨v,h1,h2⟩:=hs 0 u rfl
   exact SpR.sets hg hl us (o+1) (h.set hg hl h1 h2) (fun j u' hj=>by
    obtain ⟨v',g1,g2⟩:=hs (j+1) u' (by simpa using hj);rw [show o+(j+1)=o+1+j by omega] at g1 g2
    exact ⟨v',g1,g2⟩)
theorem SpR.slice (h:SpR B W0 w) (hg:B≤g) (hl:g<W0.heap.size){A:Option Addr}{n c:Nat}(hv:W0.cell? ⟨g,o+1,none⟩=some (.slice A n c)){p:Value}(hp:W0.cell? ⟨g,o,none⟩=some p) (hne :∀k a,p≠.int k a):w.cell? ⟨g,o+1,none⟩=some (.slice A n c):=by
 obtain ⟨u,h1,h2⟩:=h.cel g (o+1) hg hl _ hv;rcases h2 with h2|⟨a,b,h2,_⟩|⟨a,b,h2,_⟩|⟨a,b,h2,_⟩|⟨_,_,k,a,_,h3⟩
 · rw [h1,h2]
 · cases h2
 · cases h2
 · cases h2
 · rw [Nat.add_sub_cancel,hp] at h3
   injection h3 with h3;exact absurd h3 (hne k a)
theorem SpR.slice2 (h:SpR B W0 w) (hg:B≤g) (hl:g<W0.heap.size){A:Option Addr}{n c:Nat}(hv:W0.cell? ⟨g,o,none⟩=some (.slice A n c)):w.cell? ⟨g,o,none⟩=some (.slice A n c)∨w.cell? ⟨g,o,none⟩=some (.slice none 0 0):=by
 obtain ⟨u,h1,h2⟩:=h.cel g o hg hl _ hv;rcases h2 with h2|⟨a,b,h2,_⟩|⟨a,b,h2,_⟩|⟨a,b,h2,_⟩|⟨_,h2,_⟩
 · exact .inl (by rw [h1,h2])
 · cases h2
 · cases h2
 · cases h2
 · exact .inr (by rw [h1,h2])
theorem SpR.there (h:SpR B W0 w) (hg:B≤g) (hu:Unf W0 g){cs:List Value}(hc :∀j u,cs[j]? = some u→W0.cell? ⟨g,o+j,none⟩=some u){n:Nat}(hn:n=cs.length):w.there g o n:=fun j hj=>by
 obtain ⟨u,h1,_⟩:=h.cel g (o+j) hg hu.1 _ (hc j _ (Znq (by omega)));exact ⟨by rw [h1];rfl,(h.frz g (o+j) hg hu.1).trans (hu.2 _)⟩
end
theorem RowU.at_ {α:Type}{r:RepT α}{D:Nat→Prop}{w:World}{A:Option Addr}{c k:Nat}{l:List α}(h:RowU r D w A c l) (hk:k<l.length):∃b off cs,A=some ⟨b,off,none⟩∧D b∧Unf w b∧r.rep D w l[k] cs∧∀j u,cs[j]? = some u→w.cell? ⟨b,off+k*r.size+j,none⟩=some u:=by
 obtain ⟨b,off,cs,hA,hD,_,h1,h2⟩:=h.1.at_ hk;exact ⟨b,off,cs,hA,hD,(h.2 _ hA).2,h1,h2⟩
theorem Z9k {B g o:Nat}{W0 w:World}(h:SpR B W0 w) (hg:B≤g) (hl:g<W0.heap.size){y:Sym}(hc :∀j u,(Sym.cells y)[j]? = some u→W0.cell? ⟨g,o+j,none⟩=some u):SpR B W0 (w.setCells g o [.int .i64 0,.string ⟨#[]⟩,.int .i64 0]):=by
 refine SpR.sets hg hl _ o h (fun j u hj=>?_)
 match j,hj with
 | 0,hj=>exact ⟨_,hc 0 _ rfl,.inr (.inl ⟨_,_,rfl,by simpa using hj.symm⟩)⟩
 | 1,hj=>exact ⟨_,hc 1 _ rfl,.inr (.inr (.inl ⟨_,_,rfl,by simpa using hj.symm⟩))⟩
 | 2,hj=>exact ⟨_,hc 2 _ rfl,.inr (.inl ⟨_,_,rfl,by simpa using hj.symm⟩)⟩
theorem Zah {B g o:Nat}{W0 w:World}(h:SpR B W0 w) (hg:B≤g) (hl:g<W0.heap.size){a0 a2 a4:Int}{a1 a3:ByteArray}{A:Option Addr}{n c:Nat}(hc :∀j u,([.int .i64 a0,.string a1,.int .i64 a2,.string a3,.int .i64 a4,.slice A n c]:List Value)[j]? = some u→W0.cell? ⟨g,o+j,none⟩=some u):SpR B W0 (w.setCells g o [.int .i64 (-1),.string ⟨#[]⟩,.int .i64 0,.string ⟨#[]⟩,.int .i64 0,.slice none 0 0]):=by
 refine SpR.sets hg hl _ o h (fun j u hj=>?_)
 match j,hj with
 | 0,hj=>exact ⟨_,hc 0 _ rfl,.inr (.inl ⟨_,_,rfl,by simpa using hj.symm⟩)⟩
 | 1,hj=>exact ⟨_,hc 1 _ rfl,.inr (.inr (.inl ⟨_,_,rfl,by simpa using hj.symm⟩))⟩
 | 2,hj=>exact ⟨_,hc 2 _ rfl,.inr (.inl ⟨_,_,rfl,by simpa using hj.symm⟩)⟩
 | 3,hj=>exact ⟨_,hc 3 _ rfl,.inr (.inr (.inl ⟨_,_,rfl,by simpa using hj.symm⟩))⟩
 | 4,hj=>exact ⟨_,hc 4 _ rfl,.inr (.inl ⟨_,_,rfl,by simpa using hj.symm⟩)⟩
 | 5,hj=>exact ⟨_,hc 5 _ rfl,.inr (.inr (.inr (.inr ⟨⟨_,_,_,rfl⟩,by simpa using hj.symm,.i64,a4,by omega,hc 4 _ rfl⟩)))⟩
end
section
open Go.RowKit Go.Shelf
def Zd7 (n:Nat):Prop:=∀(x:Z0a) (g o B:Nat) (A1:Option Addr) (c1:Nat) (A2:Option Addr) (c2:Nat) (A3:Option Addr) (c3:Nat) (D:Nat→Prop) (W0 w:World),(∀j,D j→B≤j)→B≤g→Unf W0 g→
 (∀j u,([.int .i64 x.kind,.bool x.goal,.string x.id,.slice A1 x.attr.length c1,.slice A2 x.value.length c2,.bool x.acc,.slice A3 x.conds.length c3]:List Value)[j]? = some u→W0.cell? ⟨g,o+j,none⟩=some u)→
 RowU Z1u D W0 A1 c1 x.attr→RowU Z1u D W0 A2 c2 x.value→RowU (Z3j n) D W0 A3 c3 x.conds→SpR B W0 w→
 Calls Tryz.prog 28 #[.pointer (some ⟨g,o,none⟩)] w fun e w'=>e = .returned (.tuple #[])∧SpR B W0 w'
theorem Zk4 {B g:Nat}{W0:World}(h:g<W0.heap.size):∀W,SpR B W0 W→g<W.heap.size:=fun _ hs=>Znn h hs.bel.size
theorem Zag (n:Nat) (ih :∀m,n=m+1→Zd7 m):Zd7 n:=by
 intro x g o B A1 c1 A2 c2 A3 c3 D W0 w hD hg hU hc r1 r2 r3 hs;have HD:=hid hD;have HRattr:=hid r1;have HRvalue:=hid r2;have HR3:=hid r3;have IH:=hid ih;have HS:=hid hs;have HGL:=hid (Zk4 (B:=B) hU.1);have HGT_:=fun (g:Nat) (h:g<W0.heap.size)=>Zk4 (B:=B) h
 have HSL:=hid (show ∀W,SpR B W0 W→W.cell? ⟨g,o+3,none⟩=some (.slice A1 x.attr.length c1)∧W.cell? ⟨g,o+4,none⟩=some (.slice A2 x.value.length c2)∧W.cell? ⟨g,o+6,none⟩=some (.slice A3 x.conds.length c3) from fun W hW=>
  ⟨hW.slice (o:=o+2) hg hU.1 (hc 3 _ rfl) (hc 2 _ rfl) (fun _ _=>by simp),hW.slice (o:=o+3) hg hU.1 (hc 4 _ rfl) (hc 3 _ rfl) (fun _ _=>by simp),hW.slice (o:=o+5) hg hU.1 (hc 6 _ rfl) (hc 5 _ rfl) (fun _ _=>by simp)⟩)
 have HID:=hid (show ∀W,SpR B W0 W→(∃v,W.cell? ⟨g,o+2,none⟩=some v)∧W.frozen? ⟨g,o+2,none⟩=false∧SpR B W0 (W.setCell ⟨g,o+2,none⟩ (.string ⟨#[103,111,110,101]⟩)) from fun W hW=>by
  obtain ⟨u,h1,_⟩:=hW.cel g (o+2) hg hU.1 _ (hc 2 _ rfl)
  exact ⟨⟨u,h1⟩,(hW.frz g (o+2) hg hU.1).trans (hU.2 _),hW.set hg hU.1 (hc 2 _ rfl) (.inr (.inr (.inl ⟨_,_,rfl,rfl⟩)))⟩)
 have hl1:=r1.1.cap;have hl2:=r2.1.cap;have hl3:=r3.1.cap;clear hD hU hc r1 r2 r3 hs ih;go_enter Tryz.func28,Tryz.ntmps28;go_wp2_with fail
 go_loopw [2] (fun s wr=>∃i:Nat,s = .int .i64 i∧i≤x.attr.length∧SpR B W0 wr) (fun s wr=>x.attr.length - (intOf s).toNat)
 case atStart=>exact ⟨0,rfl,Nat.zero_le _,HS.out⟩
 case round=>
  obtain ⟨i,rfl,hi,hs⟩:=hrel;have HS:=hid hs;clear hs;obtain ⟨p3,p4,p6⟩:=HSL.out wr HS.out;have pz:=HGL.out wr HS.out;by_cases hlt:i<x.attr.length
  · obtain ⟨wo,hwo⟩:∃wo,wo=wr:=⟨_,rfl⟩
    rw [←hwo] at HS p3 p4 p6 pz ⊢;clear hwo;obtain ⟨y,hy⟩:∃y,y=x.attr[i]:=⟨_,rfl⟩;obtain ⟨gt,ot,cs,hA,hDt,hUt,hrep,hcs⟩:=HRattr.out.at_ hlt;rw [←hy] at hrep;obtain ⟨E,ec,rfl,hrow⟩:=hrep;have hsz:Z1u.size=6:=rfl;rw [hsz] at hcs;have HCS:=hid hcs;have HUT:=hid hUt;have HBT:=hid (HD.out gt hDt);have HROW:=hid hrow;subst hA;have q5:=HCS.out 5 _ rfl;have hyl:=hrow.1.cap;(have b1:(0:Int)≤(i:Int):=by omega);(have b2:(i:Int)<(x.attr.length:Int):=by omega);have HEC:=hid (show ∃E' n' c',wo.cell? ⟨gt,ot+i*6+5,none⟩=some (.slice E' n' c')∧(n'=0∨E'=E∧n'=y.list.length∧c'=ec) from (HS.out.slice2 HBT.out HUT.out.1 q5).elim (fun h=>⟨_,_,_,h,.inr ⟨rfl,rfl,rfl⟩⟩) (fun h=>⟨_,_,_,h,.inl rfl⟩));obtain ⟨E',n',c',hec,hn'⟩:=HEC.out;have HN':=hid hn';(have hnl:(n':Int)≤9223372036854775807:=by rcases hn' with h|⟨_,h,_⟩<;>omega);have HQ:=hid hec;have hgt:=HGT_ gt HUT.out.1 wo HS.out;clear hy hcs hUt hrow hDt q5 hn' HEC hec;(go_wp2_with fail);clear p3 p4 p6 pz hgt
    go_loopw [3] (fun s wr=>∃k:Nat,s = .int .i64 k∧k≤n'∧SpR B W0 wr∧wr.cell? ⟨gt,ot+i*6+5,none⟩=some (.slice E' n' c')) (fun s wr=>n' - (intOf s).toNat)
    case atStart=>exact ⟨0,rfl,Nat.zero_le _,HS.out,HQ.out⟩
    case round=>
     obtain ⟨k,rfl,hk,hs,hq⟩:=hrel;have HS:=hid hs;have HQ:=hid hq;clear hs hq;obtain ⟨p3,p4,p6⟩:=HSL.out wr HS.out;have pz:=HGL.out wr HS.out;have q5:=HQ.out;have qz:=HGT_ gt HUT.out.1 wr HS.out;by_cases hlk:k<n'
     · obtain ⟨rfl,rfl,rfl⟩:E'=E∧n'=y.list.length∧c'=ec:=HN'.out.elim (fun h=>by omega) id
       obtain ⟨gs,os,cs,hA,hDs,hUs,hrs,hcs⟩:=HROW.out.at_ hlk;have hrs2:cs=Sym.cells y.list[k]:=hrs;subst hrs2;have hsz:Z24.size=3:=rfl;rw [hsz] at hcs;subst hA;have HTH:=hid (show wr.there gs (os+k*3) (#[.int .i64 0,.string ⟨#[]⟩,.int .i64 0]:Array Value).size from HS.out.there (HD.out gs hDs) hUs hcs rfl);have HS2:=hid (Z9k HS.out (HD.out gs hDs) hUs.1 hcs)
       have HQ2:=hid (show (wr.setCells gs (os+k*3) [.int .i64 0,.string ⟨#[]⟩,.int .i64 0]).cell? ⟨gt,ot+i*6+5,none⟩=some (.slice (some ⟨gs,os,none⟩) y.list.length c') by
        rw [World.cell?_setCells_out]
        · exact HQ.out
        · intro e _
          dsimp only at e ⊢;subst e;have q:=HCS.out 5 _ rfl;refine Zoe (fun hne=>?_)
          have h012:ot+i*6+5=os+k*3∨ot+i*6+5=os+k*3+1∨ot+i*6+5=os+k*3+2:=by
           simp only [Zo4,Zon] at hne;omega
          rcases h012 with h|h|h
          · rw [h] at q;have:=hcs 0 _ rfl;rw [Nat.add_zero,q] at this;cases this
          · rw [h] at q;have:=hcs 1 _ rfl;rw [q] at this;cases this
          · rw [h] at q;have:=hcs 2 _ rfl;rw [q] at this;cases this)
       (have j1:(0:Int)≤(k:Int):=by omega);(have j2:(k:Int)<(y.list.length:Int):=by omega);clear hDs hUs hrs hcs;(go_wp2_with (with_reducible refine wpList_store_mid rfl 38 _ _ rfl gs (os+k*3) #[.int .i64 0,.string ⟨#[]⟩,.int .i64 0] rfl rfl HTH.out (by kernel_rfl) (by kernel_rfl) ?_));go_roundw
       case rel=>exact ⟨k+1,by go_num,by omega,HS2.out,HQ2.out⟩
       case measure=>simp [intOf]<;>omega
     · have HTH:=hid (show wr.there gt (ot+i*6) (#[.int .i64 (-1),.string ⟨#[]⟩,.int .i64 0,.string ⟨#[]⟩,.int .i64 0,.slice none 0 0]:Array Value).size from HS.out.there HBT.out HUT.out HCS.out rfl)
       have HS2:=hid (Zah HS.out HBT.out HUT.out.1 HCS.out);(go_wp2_with (with_reducible refine wpList_store_mid rfl 138 _ _ rfl gt (ot+i*6) #[.int .i64 (-1),.string ⟨#[]⟩,.int .i64 0,.string ⟨#[]⟩,.int .i64 0,.slice none 0 0] rfl rfl HTH.out (by kernel_rfl) (by kernel_rfl) ?_));go_roundw
       case rel=>exact ⟨i+1,by go_num,by omega,HS2.out⟩
       case measure=>simp [intOf]<;>omega
  · obtain rfl:i=x.attr.length:=by omega
    (go_wp2_with fail);clear p3 p4 p6 pz
    go_loopw [4] (fun s wr=>∃i:Nat,s = .int .i64 i∧i≤x.value.length∧SpR B W0 wr) (fun s wr=>x.value.length - (intOf s).toNat)
    case atStart=>exact ⟨0,rfl,Nat.zero_le _,HS.out⟩
    case round=>
     obtain ⟨i,rfl,hi,hs⟩:=hrel;have HS:=hid hs;clear hs;obtain ⟨p3,p4,p6⟩:=HSL.out wr HS.out;have pz:=HGL.out wr HS.out;by_cases hlt:i<x.value.length
     · obtain ⟨wo,hwo⟩:∃wo,wo=wr:=⟨_,rfl⟩
       rw [←hwo] at HS p3 p4 p6 pz ⊢;clear hwo;obtain ⟨y,hy⟩:∃y,y=x.value[i]:=⟨_,rfl⟩;obtain ⟨gt,ot,cs,hA,hDt,hUt,hrep,hcs⟩:=HRvalue.out.at_ hlt;rw [←hy] at hrep;obtain ⟨E,ec,rfl,hrow⟩:=hrep;have hsz:Z1u.size=6:=rfl;rw [hsz] at hcs;have HCS:=hid hcs;have HUT:=hid hUt;have HBT:=hid (HD.out gt hDt);have HROW:=hid hrow;subst hA;have q5:=HCS.out 5 _ rfl;have hyl:=hrow.1.cap;(have b1:(0:Int)≤(i:Int):=by omega);(have b2:(i:Int)<(x.value.length:Int):=by omega);have HEC:=hid (show ∃E' n' c',wo.cell? ⟨gt,ot+i*6+5,none⟩=some (.slice E' n' c')∧(n'=0∨E'=E∧n'=y.list.length∧c'=ec) from (HS.out.slice2 HBT.out HUT.out.1 q5).elim (fun h=>⟨_,_,_,h,.inr ⟨rfl,rfl,rfl⟩⟩) (fun h=>⟨_,_,_,h,.inl rfl⟩));obtain ⟨E',n',c',hec,hn'⟩:=HEC.out;have HN':=hid hn';(have hnl:(n':Int)≤9223372036854775807:=by rcases hn' with h|⟨_,h,_⟩<;>omega);have HQ:=hid hec;have hgt:=HGT_ gt HUT.out.1 wo HS.out;clear hy hcs hUt hrow hDt q5 hn' HEC hec;(go_wp2_with fail);clear p3 p4 p6 pz hgt
       go_loopw [5] (fun s wr=>∃k:Nat,s = .int .i64 k∧k≤n'∧SpR B W0 wr∧wr.cell? ⟨gt,ot+i*6+5,none⟩=some (.slice E' n' c')) (fun s wr=>n' - (intOf s).toNat)
       case atStart=>exact ⟨0,rfl,Nat.zero_le _,HS.out,HQ.out⟩
       case round=>
        obtain ⟨k,rfl,hk,hs,hq⟩:=hrel;have HS:=hid hs;have HQ:=hid hq;clear hs hq;obtain ⟨p3,p4,p6⟩:=HSL.out wr HS.out;have pz:=HGL.out wr HS.out;have q5:=HQ.out;have qz:=HGT_ gt HUT.out.1 wr HS.out;by_cases hlk:k<n'
        · obtain ⟨rfl,rfl,rfl⟩:E'=E∧n'=y.list.length∧c'=ec:=HN'.out.elim (fun h=>by omega) id
          obtain ⟨gs,os,cs,hA,hDs,hUs,hrs,hcs⟩:=HROW.out.at_ hlk;have hrs2:cs=Sym.cells y.list[k]:=hrs;subst hrs2;have hsz:Z24.size=3:=rfl;rw [hsz] at hcs;subst hA;have HTH:=hid (show wr.there gs (os+k*3) (#[.int .i64 0,.string ⟨#[]⟩,.int .i64 0]:Array Value).size from HS.out.there (HD.out gs hDs) hUs hcs rfl);have HS2:=hid (Z9k HS.out (HD.out gs hDs) hUs.1 hcs)
          have HQ2:=hid (show (wr.setCells gs (os+k*3) [.int .i64 0,.string ⟨#[]⟩,.int .i64 0]).cell? ⟨gt,ot+i*6+5,none⟩=some (.slice (some ⟨gs,os,none⟩) y.list.length c') by
           rw [World.cell?_setCells_out]
           · exact HQ.out
           · intro e _
             dsimp only at e ⊢;subst e;have q:=HCS.out 5 _ rfl;refine Zoe (fun hne=>?_)
             have h012:ot+i*6+5=os+k*3∨ot+i*6+5=os+k*3+1∨ot+i*6+5=os+k*3+2:=by
              simp only [Zo4,Zon] at hne;omega
             rcases h012 with h|h|h
             · rw [h] at q;have:=hcs 0 _ rfl;rw [Nat.add_zero,q] at this;cases this
             · rw [h] at q;have:=hcs 1 _ rfl;rw [q] at this;cases this
             · rw [h] at q;have:=hcs 2 _ rfl;rw [q] at this;cases this)
          (have j1:(0:Int)≤(k:Int):=by omega);(have j2:(k:Int)<(y.list.length:Int):=by omega);clear hDs hUs hrs hcs;(go_wp2_with (with_reducible refine wpList_store_mid rfl 38 _ _ rfl gs (os+k*3) #[.int .i64 0,.string ⟨#[]⟩,.int .i64 0] rfl rfl HTH.out (by kernel_rfl) (by kernel_rfl) ?_));go_roundw
          case rel=>exact ⟨k+1,by go_num,by omega,HS2.out,HQ2.out⟩
          case measure=>simp [intOf]<;>omega
        · have HTH:=hid (show wr.there gt (ot+i*6) (#[.int .i64 (-1),.string ⟨#[]⟩,.int .i64 0,.string ⟨#[]⟩,.int .i64 0,.slice none 0 0]:Array Value).size from HS.out.there HBT.out HUT.out HCS.out rfl)
          have HS2:=hid (Zah HS.out HBT.out HUT.out.1 HCS.out);(go_wp2_with (with_reducible refine wpList_store_mid rfl 138 _ _ rfl gt (ot+i*6) #[.int .i64 (-1),.string ⟨#[]⟩,.int .i64 0,.string ⟨#[]⟩,.int .i64 0,.slice none 0 0] rfl rfl HTH.out (by kernel_rfl) (by kernel_rfl) ?_));go_roundw
          case rel=>exact ⟨i+1,by go_num,by omega,HS2.out⟩
          case measure=>simp [intOf]<;>omega
     · obtain rfl:i=x.value.length:=by omega
       (go_wp2_with fail);clear p3 p4 p6 pz
       go_loopw [6] (fun s wr=>∃i:Nat,s = .int .i64 i∧i≤x.conds.length∧SpR B W0 wr) (fun s wr=>x.conds.length - (intOf s).toNat)
       case atStart=>exact ⟨0,rfl,Nat.zero_le _,HS.out⟩
       case round=>
        obtain ⟨i,rfl,hi,hs⟩:=hrel;have HS:=hid hs;clear hs;obtain ⟨p3,p4,p6⟩:=HSL.out wr HS.out;have pz:=HGL.out wr HS.out;by_cases hlt:i<x.conds.length
        · obtain ⟨gt,ot,cs,hA,hDt,hUt,hrep,hcs⟩:=HR3.out.at_ hlt
          obtain ⟨m,hnm⟩:∃m,n=m+1:=by
           cases n with
           | zero=>exact hrep.elim
           | succ m=>exact ⟨m,rfl⟩
          subst hnm;obtain ⟨E1,e1,E2,e2,E3,e3,rfl,t1,t2,t3⟩:=hrep;have hsz:(Z3j (m+1)).size=7:=rfl;rw [hsz] at hcs;have HIH:=hid (IH.out m rfl x.conds[i] gt (ot+i*7) B E1 e1 E2 e2 E3 e3 D W0 wr HD.out (HD.out gt hDt) hUt hcs t1 t2 t3 HS.out);subst hA;(have b1:(0:Int)≤(i:Int):=by omega);(have b2:(i:Int)<(x.conds.length:Int):=by omega);clear hDt hUt hcs t1 t2 t3;(go_wp2_with fail);refine HIH.out.mono ?_;rintro e w5 ⟨rfl,hs5⟩;have HS5:=hid hs5;clear hs5 p3 p4 p6 pz;(go_wp2_with fail);go_roundw
          case rel=>exact ⟨i+1,by go_num,by omega,HS5.out⟩
          case measure=>simp [intOf]<;>omega
        · obtain rfl:i=x.conds.length:=by omega
          obtain ⟨⟨v,p2⟩,pf,hs9⟩:=HID.out wr HS.out;have HS9:=hid hs9;clear hs9 p3 p4;(go_wp2_with fail);go_end0;exact ⟨rfl,HS9.out⟩
theorem Z8c :∀n,Zd7 n
 | 0=>Zag 0 (fun m h=>by omega)
 | n+1=>Zag (n+1) (fun m h=>by
    obtain rfl:m=n:=by omega
    exact Z8c m)
def Zmw (n:Nat) (p:Z39) (w:World) (en:Ending) (w':World):Prop:=
 ∃A1 c1 A2 c2,en = .returned (.agg #[.string p.name,.slice A1 p.conds.length c1,.slice A2 p.acts.length c2])∧RowR (Z06 n) (NewD w.heap.size w') w' A1 c1 p.conds∧RowR Z11 (NewD w.heap.size w') w' A2 c2 p.acts∧Below w.heap.size w w'
theorem Zdb {D:Nat→Prop}(n:Nat) (p:Z39) (A1:Option Addr) (c1:Nat) (A2:Option Addr) (c2:Nat) (w:World)
 (h1:RowR (Z06 n) D w A1 c1 p.conds) (h2:RowR Z11 D w A2 c2 p.acts) (hl1:p.conds.length≤1000) (hl2:p.acts.length≤1000) (hs :∀x∈p.conds,SmC n x) :
 Calls Tryz.prog 23 #[.agg #[.string p.name,.slice A1 p.conds.length c1,.slice A2 p.acts.length c2]] w (Zmw n p w):=by
 have HK1:=hid (show ∀W,Below w.heap.size w W→Calls Tryz.prog 62 #[.slice A1 p.conds.length c1] W (Zek (Z06 n) p.conds W) from fun W hW=>Z91 n (fun m _=>Zf0 m) A1 c1 p.conds W (h1.new_ hW) ⟨hl1,hs⟩);have HK2:=hid (show ∀W,Below w.heap.size w W→Calls Tryz.prog 63 #[.slice A2 p.acts.length c2] W _ from fun W hW=>Zn3 A2 c2 p.acts W (RowR.rd (hs:=ActT.cells_length) (h2.new_ hW)) (by omega));clear h1 h2 hs;go_enter Tryz.func23,Tryz.ntmps23;(go_upto_region 1 with fail);obtain ⟨w1,hw1⟩:∃w1,w1=((w.alloc (.cells #[.string p.name,.slice A1 p.conds.length c1,.slice A2 p.acts.length c2] 25)).alloc (.cells #[.string ⟨#[]⟩,.slice none 0 0,.slice none 0 0] 25)):=⟨_,rfl⟩;rw [←hw1];have HB:=hid (show Below w.heap.size w w1 by rw [hw1];exact (by repeat (first|exact Znk _ _|refine Below.drew ?_|refine Below.al ?_ _|refine Below.sc ?_ _)));have Kp:=hid (show Blk w1 (w.heap.size) 25 #[.string p.name,.slice A1 p.conds.length c1,.slice A2 p.acts.length c2] by rw [hw1];exact ((Blk.new w 25 #[.string p.name,.slice A1 p.conds.length c1,.slice A2 p.acts.length c2]).alloc (.cells #[.string ⟨#[]⟩,.slice none 0 0,.slice none 0 0] 25)));have Kr:=hid (show Blk w1 (w.heap.size+1) 25 #[.string ⟨#[]⟩,.slice none 0 0,.slice none 0 0] by rw [hw1];have hh:=(Blk.new (w.alloc (.cells #[.string p.name,.slice A1 p.conds.length c1,.slice A2 p.acts.length c2] 25)) 25 #[.string ⟨#[]⟩,.slice none 0 0,.slice none 0 0]);simp only [Zoj] at hh;exact hh);clear hw1;obtain ⟨p0,p1,p2⟩:=Kp.out.c3;have pz:=Kp.out.lt;obtain ⟨r0,r1,r2⟩:=Kr.out.c3;have rz:=Kr.out.lt;refine Z0c (fun w9=>Below w1.heap.size w1 w9) [(0,0),(1,1),(2,0),(3,1),(5,0),(6,1),(4,2),(7,2),(8,0),(9,2)] (by kernel_rfl) (by kernel_rfl) (fun KK hKK=>?_);simp only [Z0w,Znz,Znt,Znv,Znr,Zns,Zo1];(repeat ((first|(refine Z0m ?_ (Or.inl ⟨by rfl,fun w9=>?_⟩) ?_;rotate_left 1;go_simp;with_reducible rfl)|(refine Z0k ?_ (((Znk _ _).drew)) (Or.inl ⟨by rfl,fun w9 hw9=>?_⟩) ?_;rotate_left 1;obtain ⟨hc9,hf9⟩:=Z1e hw9;go_simp;with_reducible rfl)|refine Z0m undef (Or.inr ⟨by rfl,rfl⟩) ?_|refine Z0k undef (((Znk _ _).drew)) (Or.inr ⟨by rfl,rfl⟩) ?_);go_frame));refine Z2j (fun K9 hK9=>?_);go_simp;refine (HK1.out _ (HB.out.trans (((Znk w1.heap.size w1).drew).mono HB.out.size))).mono ?_;rintro e w31 ⟨B1,d1,rfl,k1,-,hb31⟩;have HB31:=hid (show Below w1.heap.size w1 w31 from ((Znk w1.heap.size w1).drew).trans hb31);have HR1:=hid (show RowR (Z06 n) (NewD w1.heap.size w31) w31 B1 d1 p.conds from k1);clear hb31 k1;refine hK9 _ _ HB31.out ?_;clear hK9 K9;refine Z2j (fun K9 hK9=>?_);go_simp;refine (HK2.out _ (HB.out.trans (HB31.out.mono HB.out.size))).mono ?_;rintro e w32 ⟨B2,d2,rfl,ho,hA,hb32⟩;have HB32:=hid (HB31.out.trans (hb32.mono HB31.out.size));have HR2:=hid (show RowR Z11 (NewD w1.heap.size w32) w32 B2 d2 p.acts from (Z4s.row ActT.cells_length ho hA).newD (Znk _ _) HB31.out.size);have HR1:=hid (HR1.out.newD hb32 (Znl _));have HKR:=hid (Kr.out.new_ HB32.out);clear hb32 ho hA;refine hK9 _ _ HB32.out ?_;clear hK9 K9;(repeat ((first|(refine Z0m ?_ (Or.inl ⟨by rfl,fun w9=>?_⟩) ?_;rotate_left 1;go_simp;with_reducible rfl)|(refine Z0k ?_ (HB32.out) (Or.inl ⟨by rfl,fun w9 hw9=>?_⟩) ?_;rotate_left 1;obtain ⟨hc9,hf9⟩:=Z1e hw9;go_simp;with_reducible rfl)|refine Z0m undef (Or.inr ⟨by rfl,rfl⟩) ?_|refine Z0k undef (HB32.out) (Or.inr ⟨by rfl,rfl⟩) ?_);go_frame));refine Z1y (by kernel_rfl) (fun K9 hK9=>?_);have HTH:=hid (show w32.there (w.heap.size+1) 0 (#[.string p.name,.slice B1 p.conds.length d1,.slice B2 p.acts.length d2]:Array Value).size from HKR.out.there)
 refine Z1p rfl 25 _ _ rfl (w.heap.size+1) 0 #[.string p.name,.slice B1 p.conds.length d1,.slice B2 p.acts.length d2] rfl rfl HTH.out (by kernel_rfl) (by kernel_rfl) ?_;refine hK9 _ _ ?_;clear hK9 K9;refine Z16 ?_;simp only [Z04];refine hKK _ _ ?_;clear hKK KK;(go_wp2_with fail);(try simp only [Exit.inBlock,Exit.then]);have HRZ:=Kr.out.lt;have hB9:Below w.heap.size w (w32.setCells (w.heap.size+1) 0 [.string p.name,.slice B1 p.conds.length d1,.slice B2 p.acts.length d2]):=Below.setCells' _ _ (HB.out.trans (HB32.out.mono HB.out.size)) (by omega);have hz1:=HB.out.size;have hup :∀j,NewD w1.heap.size w32 j→j<w32.heap.size→NewD w.heap.size (w32.setCells (w.heap.size+1) 0 [.string p.name,.slice B1 p.conds.length d1,.slice B2 p.acts.length d2]) j∧(w32.setCells (w.heap.size+1) 0 [.string p.name,.slice B1 p.conds.length d1,.slice B2 p.acts.length d2]).heap[j]? = w32.heap[j]?:=fun j hj hl=>⟨⟨by have:=hj.1;omega,by rw [Z0n];omega⟩,Z1g _ _ _ _ _ (by have:=hj.1;omega)⟩;refine bodyPost_ret (v:=.agg #[.string p.name,.slice B1 p.conds.length d1,.slice B2 p.acts.length d2]) ?_ rfl ⟨B1,d1,B2,d2,rfl,HR1.out.keep (by rw [Z0n];omega) hup,HR2.out.keep (by rw [Z0n];omega) hup,hB9⟩;exact Z1c (t:=2) (T:=25) rfl _ _ (w.heap.size+1) [.string p.name,.slice B1 p.conds.length d1,.slice B2 p.acts.length d2] _ rfl (Znw w32 (w.heap.size+1) 0 [.string p.name,.slice B1 p.conds.length d1,.slice B2 p.acts.length d2] HTH.out) Tryz.underlying25 rfl (by kernel_rfl)
def goK (most:Nat) (f:Z0a→Nat):List Z0a→Nat→Nat
 | [],s=>s
 | c :: l,s=>if s≤most then goK most f l (s+(1+f c)) else s
def Z2a (most:Nat):Nat→Nat→List Z0a→Nat
 | 0,d,l=>if 20<d then most+1 else if l = [] then 0 else most+1
 | n+1,d,l=>if 20<d then most+1 else min (goK most (fun c=>Z2a most n (d+1) c.conds) l 0) (most+1)
theorem Zlb (most:Nat) (f:Z0a→Nat):∀(l:List Z0a) (s:Nat),s≤goK most f l s
 | [],s=>Znl _
 | c :: l,s=>by
   rw [goK]
   split
   · have:=Zlb most f l (s+(1+f c));omega
   · omega
theorem Zaz (most:Nat) (f:Z0a→Nat):∀(l:List Z0a) (s:Nat),goK most f l s≤most→goK most f l s=s+(l.map fun c=>1+f c).sum∧∀c∈l,f c≤most
 | [],s,_=>by simp [goK]
 | c :: l,s,h=>by
   rw [goK] at h ⊢;by_cases hs:s≤most
   · rw [if_pos hs] at h ⊢
     obtain ⟨h1,h2⟩:=Zaz most f l _ h;have:=Zlb most f l (s+(1+f c));refine ⟨by rw [h1,List.map_cons,List.sum_cons];omega,fun x hx=>?_⟩;rcases Zo5.1 hx with rfl|hx
     · omega
     · exact h2 x hx
   · rw [if_neg hs] at h
     omega
theorem Zeq (most:Nat) (f:Z0a→Nat):∀(l:List Z0a) (c:Z0a) (s:Nat),goK most f (l ++ [c]) s=if goK most f l s≤most then goK most f l s+(1+f c) else goK most f l s
 | [],c,s=>rfl
 | x :: l,c,s=>by
   rw [Zog,goK,goK];by_cases hs:s≤most
   · rw [if_pos hs,if_pos hs,Zeq most f l c]
   · rw [if_neg hs,if_neg hs,if_neg hs]
theorem Zer (most:Nat) (f:Z0a→Nat):∀(l m:List Z0a) (s:Nat),¬goK most f l s≤most→goK most f (l++m) s=goK most f l s
 | [],m,s,h=>by
   rw [goK] at h
   cases m with
   | nil=>rfl
   | cons c m=>simp only [Zo3,goK];rw [if_neg h]
 | x :: l,m,s,h=>by
   rw [Zog,goK,goK];rw [goK] at h;by_cases hs:s≤most
   · rw [if_pos hs,if_pos hs]
     rw [if_pos hs] at h;exact Zer most f l m _ h
   · rw [if_neg hs,if_neg hs]
theorem Zd0 {α:Type}(f g:α→Nat):∀l:List α,(∀c∈l,f c≤g c)→(l.map f).sum≤(l.map g).sum
 | [],_=>Znl _
 | c :: l,h=>by
   rw [List.map_cons,List.map_cons,List.sum_cons,List.sum_cons];have h1:=h c List.mem_cons_self;have h2:=Zd0 f g l (fun x hx=>h x (List.mem_cons_of_mem _ hx));omega
theorem Zhg (m d:Nat) (l:List Z0a):(Z0i (m+1) d l).length=(l.map fun c=>1+(Z0i m (d+1) c.conds).length).sum:=by
 rw [Z1t,List.length_flatMap];congr 1;apply List.map_congr_left;intro c _;simp;omega
theorem Zaf (most:Nat):∀(n m d e:Nat) (l:List Z0a),Z2a most n d l≤most→(Z0i m e l).length≤Z2a most n d l
 | 0,m,d,e,l,h=>by
   rw [Z2a] at h;by_cases h1:20<d
   · rw [if_pos h1] at h;omega
   · rw [if_neg h1] at h
     by_cases h2:l = []
     · subst h2;cases m<;>simp [Z0i]
     · rw [if_neg h2] at h;omega
 | n+1,m,d,e,l,h=>by
   rw [Z2a] at h ⊢;by_cases h1:20<d
   · rw [if_pos h1] at h;omega
   · rw [if_neg h1] at h ⊢
     obtain ⟨h2,h3⟩:=Zaz most (fun c=>Z2a most n (d+1) c.conds) l 0 (by omega)
     cases m with
     | zero=>simp [Z0i]
     | succ m=>
       have h4:=Zd0 (fun c:Z0a=>1+(Z0i m (e+1) c.conds).length) (fun c=>1+Z2a most n (d+1) c.conds) l (fun c hc=>by
        have:=Zaf most n m (d+1) (e+1) c.conds (h3 c hc)
        omega)
       rw [Zhg];omega
theorem Z7x (most:Nat):∀(n d:Nat) (l:List Z0a),Z2a most n d l≤most→d≤20∧∀{D:Nat→Prop}{w:World}{A:Option Addr}{c:Nat},RowR (Z06 n) D w A c l→RowR (Z06 (20 - d)) D w A c l
 | 0,d,l,h=>by
   rw [Z2a] at h;by_cases h1:20<d
   · rw [if_pos h1] at h;omega
   · rw [if_neg h1] at h
     by_cases h2:l = []
     · subst h2
       exact ⟨by omega,fun g=>⟨g.1,g.2.1,fun h=>absurd h (by simp)⟩⟩
     · rw [if_neg h2] at h;omega
 | n+1,d,l,h=>by
   rw [Z2a] at h;by_cases h1:20<d
   · rw [if_pos h1] at h;omega
   · rw [if_neg h1] at h
     obtain ⟨_,h3⟩:=Zaz most (fun c=>Z2a most n (d+1) c.conds) l 0 (by omega);refine ⟨by omega,fun {D w A c} g=>?_⟩;refine ⟨g.1,g.2.1,fun h0=>?_⟩;obtain ⟨b,off,g1,g2,g3,g4⟩:=g.2.2 h0;obtain ⟨d1,_⟩:=Z7x most n (d+1) _ (h3 l[0] (Zo8 h0));obtain ⟨k,hk⟩:∃k,20 - d=k+1:=⟨20 - d - 1,by omega⟩;refine ⟨b,off,g1,g2,g3,fun j hj=>?_⟩;obtain ⟨cs,r,hc⟩:=g4 j hj;obtain ⟨A1,c1,A2,c2,A3,c3,e0,e1,e2,e3⟩:=r;have h5:=(Z7x most n (d+1) _ (h3 l[j] (Zo8 hj))).2 e3;rw [hk];rw [show 20 - (d+1)=k by omega] at h5;exact ⟨cs,⟨A1,c1,A2,c2,A3,c3,e0,e1,e2,h5⟩,hc⟩
def Z3o (t:Z1r):Bool:=decide (20<t.list.length) ||(decide (100<t.var.size) ||decide (100<t.sym.text.size))
def Z43 (c:Z0a):Bool:=decide (100<c.id.size) ||(decide (10<c.attr.length) ||(decide (10<c.value.length) ||(c.attr.any Z3o ||c.value.any Z3o)))
def Z3n:Nat→List Z0a→Bool
 | 0,_=>false
 | n+1,l=>l.any fun c=>Z43 c ||Z3n n c.conds
def Z6c (n:Nat) (p:Z39):Bool:=decide (40<Z2a 40 n 0 p.conds) ||(decide (40<p.acts.length) ||(decide (100<p.name.size) ||Z3n n p.conds))
theorem Z2f {D:Nat→Prop}{A:Option Addr}{c:Nat}(l:List Z1r) (w:World) (h:RowR Z03 D w A c l):Calls Tryz.prog 81 #[.slice A l.length c] w fun e w'=>e = .returned (.bool (l.any Z3o))∧w=w':=by
 have H:=hid h;have hlc:=h.cap;clear h;go_enter Tryz.func81,Tryz.ntmps81;go_wp2_with fail
 go_loopw [3] (fun s wr=>∃i:Nat,s = .int .i64 i∧i≤l.length∧(∀k,(h:k<l.length)→k<i→Z3o l[k]=false)∧wr=w) (fun s wr=>l.length - (intOf s).toNat)
 case atStart=>exact ⟨0,rfl,Nat.zero_le _,fun k _ h=>absurd h (by omega),rfl⟩
 case round=>
  obtain ⟨i,rfl,hi,hall,rfl⟩:=hrel;have HALL:=hid hall;clear hall;by_cases hlt:i<l.length
  · obtain ⟨x,hx⟩:∃x,x=l[i]:=⟨_,rfl⟩
    obtain ⟨g,off,A1,c1,rfl,_,hgs,q0,q1,q2,q3,q4,q5,hr⟩:=Z2w H.out hlt;rw [←hx] at q0 q1 q2 q3 q4 q5 hr;have hcap:=hr.cap;(have b1:(0:Int)≤(i:Int):=by omega);(have b2:(i:Int)<(l.length:Int):=by omega);have HX:=hid hx;have HYES:=hid (show Z3o x=true→l.any Z3o=true from fun h=>Zp2.2 ⟨x,by rw [HX.out];exact Zo8 hlt,h⟩);clear hx hr;cases t1:decide (20<x.list.length)
    · cases t2:decide (100<x.var.size)
      · cases t3:decide (100<x.sym.text.size)
        · have s1:decide ((20:Int)<(x.list.length:Int))=false:=by simp at t1 ⊢;omega
          (have s2:decide ((100:Int)<(x.var.size:Int))=false:=by simp at t2 ⊢;omega);(have s3:decide ((100:Int)<(x.sym.text.size:Int))=false:=by simp at t3 ⊢;omega);have HN:=hid (show Z3o x=false by simp [Z3o,t1,t2,t3]);clear t1 t2 t3;(go_wp2_with fail);go_roundw
          case rel=>
           refine ⟨i+1,by go_num,by omega,fun k h hk=>?_,by trivial⟩;rcases Nat.lt_or_ge k i with h3|h3
           · exact HALL.out k h h3
           · obtain rfl:k=i:=by omega
             rw [←HX.out];exact HN.out
          case measure=>simp [intOf]<;>omega
        · have s1:decide ((20:Int)<(x.list.length:Int))=false:=by simp at t1 ⊢;omega
          (have s2:decide ((100:Int)<(x.var.size:Int))=false:=by simp at t2 ⊢;omega);(have s3:decide ((100:Int)<(x.sym.text.size:Int))=true:=by simp at t3 ⊢;omega);have HN:=hid (HYES.out (by simp [Z3o,t3]));clear t1 t2 t3;(go_wp2_with fail);go_ret;exact ⟨by rw [HN.out];rfl,rfl⟩
      · have s1:decide ((20:Int)<(x.list.length:Int))=false:=by simp at t1 ⊢;omega
        (have s2:decide ((100:Int)<(x.var.size:Int))=true:=by simp at t2 ⊢;omega);have HN:=hid (HYES.out (by simp [Z3o,t2]));clear t1 t2;(go_wp2_with fail);go_ret;exact ⟨by rw [HN.out];rfl,rfl⟩
    · have s1:decide ((20:Int)<(x.list.length:Int))=true:=by simp at t1 ⊢;omega
      have HN:=hid (HYES.out (by simp [Z3o,t1]));clear t1;(go_wp2_with fail);go_ret;exact ⟨by rw [HN.out];rfl,rfl⟩
  · have hie:i=l.length:=by omega
    subst hie
    have HN:=hid (show l.any Z3o=false by
     rw [List.any_eq_false];intro x hx;obtain ⟨k,hk,rfl⟩:=List.getElem_of_mem hx
     simp [HALL.out k hk hk])
    (go_wp2_with fail);go_ret;exact ⟨by rw [HN.out];rfl,rfl⟩
theorem Zmp (most:Nat) (hm:most≤1000):∀(n:Nat) (D:Nat→Prop) (A:Option Addr) (c:Nat) (d:Nat) (l:List Z0a) (w:World),RowR (Z06 n) D w A c l→d≤21→
 Calls Tryz.prog 34 #[.slice A l.length c,.int .i64 (most:Int),.int .i64 (d:Int)] w fun e w'=>e = .returned (.int .i64 (Z2a most n d l:Int))∧w=w':=by
 intro n
 induction n with
 | zero=>
   intro D A c d l w h hd
   have hl0:l = []:=by
    cases l with
    | nil=>rfl
    | cons x l=>
      obtain ⟨b,off,cs,_,_,_,hr,_⟩:=h.at_ (k:=0) (by simp);exact hr.elim
   subst hl0;clear h;by_cases h20:20<d
   · have t1:decide ((20:Int)<(d:Int))=true:=by simp;omega
     have v1:IntKind.i64.wrap ((most:Int)+1)=(most:Int)+1:=Znu _ (by omega);have HR:=hid (show ((Z2a most 0 d []:Nat):Int)=(most:Int)+1 by rw [Z2a,if_pos h20];rfl);clear h20;go_enter Tryz.func34,Tryz.ntmps34;(go_wp2_with fail);go_ret;exact ⟨by rw [HR.out];rfl,rfl⟩
   · have t1:decide ((20:Int)<(d:Int))=false:=by simp;omega
     have v1:IntKind.i64.wrap ((most:Int)+1)=(most:Int)+1:=Znu _ (by omega);have HR:=hid (show ((Z2a most 0 d []:Nat):Int)=0 by rw [Z2a,if_neg h20,if_pos rfl];rfl);(have hmin:min (0:Int) ((most:Int)+1)=0:=by omega);clear h20;go_enter Tryz.func34,Tryz.ntmps34;go_wp2_with fail
     go_loopw [7,8] (fun a s wr=>s = .int .i64 0∧a = .int .i64 0∧wr=w) (fun a s wr=>0)
     case atStart=>exact ⟨rfl,rfl,rfl⟩
     case round=>
      obtain ⟨rfl,rfl,rfl⟩:=hrel;(go_wp2_with fail);go_ret;exact ⟨by rw [HR.out];rfl,rfl⟩
 | succ n ih=>
   intro D A c d l w h hd;have IH:=hid ih;have H:=hid h;have hlc:=h.cap;clear h ih;have v1:IntKind.i64.wrap ((most:Int)+1)=(most:Int)+1:=Znu _ (by omega);by_cases h20:20<d
   · have t1:decide ((20:Int)<(d:Int))=true:=by simp;omega
     have HR:=hid (show ((Z2a most (n+1) d l:Nat):Int)=(most:Int)+1 by rw [Z2a,if_pos h20];rfl);clear h20;go_enter Tryz.func34,Tryz.ntmps34;(go_wp2_with fail);go_ret;exact ⟨by rw [HR.out];rfl,rfl⟩
   · have t1:decide ((20:Int)<(d:Int))=false:=by simp;omega
     obtain ⟨f,hf⟩:∃f:Z0a→Nat,f=fun c=>Z2a most n (d+1) c.conds:=⟨_,rfl⟩
     have hfle :∀c,f c≤most+1:=fun c=>by
      rw [hf]
      cases n with
      | zero=>simp only [Z2a];split;omega;split<;>omega
      | succ n=>simp only [Z2a];split;omega;omega
     have HFLE:=hid hfle;have HR:=hid (show ((Z2a most (n+1) d l:Nat):Int)=min ((goK most f l 0:Nat):Int) ((most:Int)+1) by rw [Z2a,if_neg h20,←hf];omega);have HF:=hid hf;(have hd20:d≤20:=by omega);clear h20 hfle hf;go_enter Tryz.func34,Tryz.ntmps34;go_wp2_with fail
     go_loopw [7,8] (fun a s wr=>∃i:Nat,s = .int .i64 i∧i≤l.length∧a = .int .i64 ((goK most f (l.take i) 0:Nat):Int)∧goK most f (l.take i) 0≤2*most+2∧wr=w) (fun a s wr=>l.length - (intOf s).toNat)
     case atStart=>exact ⟨0,rfl,Nat.zero_le _,rfl,by simp [goK],rfl⟩
     case round=>
      obtain ⟨i,rfl,hi,rfl,hle,rfl⟩:=hrel;obtain ⟨s,hs⟩:∃s,s=goK most f (l.take i) 0:=⟨_,rfl⟩;rw [←hs] at hle ⊢;have HS:=hid hs;clear hs;by_cases hlt:i<l.length
      · by_cases hsm:s≤most
        · have t2:decide ((s:Int)≤(most:Int))=true:=by simp;omega
          obtain ⟨x,hx⟩:∃x,x=l[i]:=⟨_,rfl⟩;obtain ⟨g,off,A1,c1,A2,c2,A3,c3,rfl,_,hgs,q0,q1,q2,q3,q4,q5,q6,r1,r2,r3⟩:=Z1j H.out hlt;rw [←hx] at q6 r3;have HR3:=hid r3;have hn3:=r3.cap;(have b1:(0:Int)≤(i:Int):=by omega);(have b2:(i:Int)<(l.length:Int):=by omega);obtain ⟨y,hy⟩:∃y,y=f x:=⟨_,rfl⟩;have hyle:y≤most+1:=by rw [hy];exact HFLE.out x
          have HCL:=hid (show Calls Tryz.prog 34 #[.slice A3 x.conds.length c3,.int .i64 (most:Int),.int .i64 ((d:Int)+1)] wr fun e w'=>e = .returned (.int .i64 (y:Int))∧wr=w' by
           have:=IH.out D A3 c3 (d+1) x.conds wr HR3.out (by omega);rw [hy,HF.out]
           exact this)
          have HN:=hid (show goK most f (l.take (i+1)) 0=s+(1+y) by
           rw [List.take_succ_eq_append_getElem hlt,Zeq,←HS.out,if_pos hsm,←hx,hy])
          have v2:IntKind.i64.wrap ((d:Int)+1)=(d:Int)+1:=Znu _ (by omega);have v3:IntKind.i64.wrap (1+(y:Int))=1+(y:Int):=Znu _ (by omega);have v4:IntKind.i64.wrap ((s:Int)+(1+(y:Int)))=(s:Int)+(1+(y:Int)):=Znu _ (by omega);clear hx hy r1 r2 r3 q0 q1 q2 q3 q4 q5;(go_wp2_with fail);refine HCL.out.mono ?_;rintro e w2 ⟨rfl,rfl⟩;(go_wp2_with fail);go_roundw
          case rel=>exact ⟨i+1,by go_num,by omega,by rw [HN.out];simp,by rw [HN.out];omega,by trivial⟩
          case measure=>simp [intOf]<;>omega
        · have t2:decide ((s:Int)≤(most:Int))=false:=by simp;omega
          (have b2:(i:Int)<(l.length:Int):=by omega);have hmin:min (s:Int) ((most:Int)+1)=(most:Int)+1:=by omega
          have HN:=hid (show goK most f l 0=s by
           have:=Zer most f (l.take i) (l.drop i) 0 (by rw [←HS.out];exact hsm)
           rwa [List.take_append_drop,←HS.out] at this)
          clear hsm;(go_wp2_with fail);go_ret;exact ⟨by rw [HR.out,HN.out,hmin];rfl,rfl⟩
      · have hie:i=l.length:=by omega
        subst hie;have HN:=hid (show goK most f l 0=s by rw [HS.out,Zo6]);obtain ⟨z,hz⟩:∃z,z=min (s:Int) ((most:Int)+1):=⟨_,rfl⟩;have HZ:=hid hz;clear hz;(go_wp2_with fail);go_ret;exact ⟨by rw [HR.out,HN.out];rfl,rfl⟩
theorem Zdh (n:Nat) (l:List Z0a):Z3n (n+1) l=l.any fun c=>Z43 c ||Z3n n c.conds:=rfl
theorem Zb0 :∀(n:Nat) (D:Nat→Prop) (A:Option Addr) (c:Nat) (l:List Z0a) (w:World),RowR (Z06 n) D w A c l→
 Calls Tryz.prog 35 #[.slice A l.length c] w fun e w'=>e = .returned (.bool (Z3n n l))∧Below w.heap.size w w':=by
 intro n
 induction n with
 | zero=>
   intro D A c l w h
   have hl0:l = []:=by
    cases l with
    | nil=>rfl
    | cons x l=>
      obtain ⟨b,off,cs,_,_,_,hr,_⟩:=h.at_ (k:=0) (by simp);exact hr.elim
   subst hl0;clear h;go_enter Tryz.func35,Tryz.ntmps35;go_wp2_with fail
   go_loopw [3] (fun s wr=>s = .int .i64 0∧wr=w) (fun s wr=>0)
   case atStart=>exact ⟨rfl,rfl⟩
   case round=>
    obtain ⟨rfl,rfl⟩:=hrel;(go_wp2_with fail);go_ret;exact ⟨rfl,Znk _ _⟩
 | succ n ih=>
   intro D A c l w h;have IH:=hid ih;have H:=hid h;have hlc:=h.cap;clear h ih;obtain ⟨R,hR⟩:∃R,R=Z3n (n+1) l:=⟨_,rfl⟩;rw [←hR];have HR:=hid (show R=l.any fun c=>Z43 c ||Z3n n c.conds by rw [hR,Zdh]);clear hR;go_enter Tryz.func35,Tryz.ntmps35;go_wp2_with fail
   go_loopw [3] (fun s wr=>∃i:Nat,s = .int .i64 i∧i≤l.length∧(∀k,(h:k<l.length)→k<i→(Z43 l[k] ||Z3n n l[k].conds)=false)∧Below w.heap.size w wr) (fun s wr=>l.length - (intOf s).toNat)
   case atStart=>exact ⟨0,rfl,Nat.zero_le _,fun k _ h=>absurd h (by omega),Znk _ _⟩
   case round=>
    obtain ⟨i,rfl,hi,hall,hB⟩:=hrel;have HALL:=hid hall;have HB0:=hid hB;clear hall hB;by_cases hlt:i<l.length
    · obtain ⟨x,hx⟩:∃x,x=l[i]:=⟨_,rfl⟩
      obtain ⟨g,off,A1,c1,A2,c2,A3,c3,rfl,_,hgs,q0,q1,q2,q3,q4,q5,q6,r1,r2,r3⟩:=Z1j (H.out.new_ HB0.out) hlt;rw [←hx] at q0 q1 q2 q3 q4 q5 q6 r1 r2 r3;have HR1:=hid r1;have HR2:=hid r2;have HR3:=hid r3;have hn1:=r1.cap;have hn2:=r2.cap;have hn3:=r3.cap;(have b1:(0:Int)≤(i:Int):=by omega);(have b2:(i:Int)<(l.length:Int):=by omega);have HX:=hid hx;have HYES:=hid (show (Z43 x ||Z3n n x.conds)=true→R=true from fun h=>by rw [HR.out];exact Zp2.2 ⟨x,by rw [HX.out];exact Zo8 hlt,h⟩);have hsz:=HB0.out.size;clear hx r1 r2 r3;(go_upto_region 5 with fail);obtain ⟨X,hX⟩:∃X,X=wr.alloc (.cells #[.int .i64 x.kind,.bool x.goal,.string x.id,.slice A1 x.attr.length c1,.slice A2 x.value.length c2,.bool x.acc,.slice A3 x.conds.length c3] 59):=⟨_,rfl⟩;rw [←hX];(have hbX:Below wr.heap.size wr X:=by rw [hX];exact (Znk _ _).alloc (Znl _) _);have Kx:=hid (show Blk X wr.heap.size 59 #[.int .i64 x.kind,.bool x.goal,.string x.id,.slice A1 x.attr.length c1,.slice A2 x.value.length c2,.bool x.acc,.slice A3 x.conds.length c3] by rw [hX];exact Blk.new _ _ _);have HB:=hid hbX;have HBW:=hid (HB0.out.trans (hbX.mono hsz));clear hX hbX q0 q1 q2 q3 q4 q5 q6;obtain ⟨-,-,x2,x3,x4,-,x6⟩:=Kx.out.c7;have xz:=Kx.out.lt;cases t1:decide (100<x.id.size)
      · skip
        cases t2:decide (10<x.attr.length)
        · skip
          cases t3:decide (10<x.value.length)
          · skip
            (have s1:decide ((100:Int)<(x.id.size:Int))=false:=by simp at t1 ⊢;omega);(have s2:decide ((10:Int)<(x.attr.length:Int))=false:=by simp at t2 ⊢;omega);(have s3:decide ((10:Int)<(x.value.length:Int))=false:=by simp at t3 ⊢;omega);cases t4:x.attr.any Z3o
            · skip
              cases t5:x.value.any Z3o
              · skip
                cases t6:Z3n n x.conds
                · skip
                  have hc1:=Z2f x.attr X (HR1.out.new_ HB.out);rw [t4] at hc1;have HC1:=hid hc1;clear hc1;have hc2:=Z2f x.value X (HR2.out.new_ HB.out);rw [t5] at hc2;have HC2:=hid hc2;clear hc2;have hc3:=IH.out D A3 c3 x.conds X (HR3.out.new_ HB.out);rw [t6] at hc3;have HC3:=hid hc3;clear hc3;have HN:=hid (show (Z43 x ||Z3n n x.conds)=false by simp [Z43,t1,t2,t3,t4,t5,t6]);clear t1 t2 t3 t4 t5 t6;(go_wp2_with fail);refine HC1.out.mono ?_;rintro e w9 ⟨rfl,rfl⟩;(go_wp2_with fail);refine HC2.out.mono ?_;rintro e w9 ⟨rfl,rfl⟩;(go_wp2_with fail);refine HC3.out.mono ?_;rintro e w5 ⟨rfl,hb5⟩;have HB5:=hid (HBW.out.trans (hb5.mono HBW.out.size));clear hb5;clear x2 x3 x4 x6;(go_wp2_with fail);go_roundw
                  case rel=>
                   refine ⟨i+1,by go_num,by omega,fun k h hk=>?_,HB5.out⟩;rcases Nat.lt_or_ge k i with h3|h3
                   · exact HALL.out k h h3
                   · obtain rfl:k=i:=by omega
                     rw [←HX.out];exact HN.out
                  case measure=>simp [intOf]<;>omega
                · skip
                  have hc1:=Z2f x.attr X (HR1.out.new_ HB.out);rw [t4] at hc1;have HC1:=hid hc1;clear hc1;have hc2:=Z2f x.value X (HR2.out.new_ HB.out);rw [t5] at hc2;have HC2:=hid hc2;clear hc2;have hc3:=IH.out D A3 c3 x.conds X (HR3.out.new_ HB.out);rw [t6] at hc3;have HC3:=hid hc3;clear hc3;have HN:=hid (HYES.out (by simp [t6]));clear t1 t2 t3 t4 t5 t6;(go_wp2_with fail);refine HC1.out.mono ?_;rintro e w9 ⟨rfl,rfl⟩;(go_wp2_with fail);refine HC2.out.mono ?_;rintro e w9 ⟨rfl,rfl⟩;(go_wp2_with fail);refine HC3.out.mono ?_;rintro e w5 ⟨rfl,hb5⟩;have HB5:=hid (HBW.out.trans (hb5.mono HBW.out.size));clear hb5;clear x2 x3 x4 x6;(go_wp2_with fail);go_ret;exact ⟨by rw [HN.out];rfl,HB5.out⟩
              · skip
                have hc1:=Z2f x.attr X (HR1.out.new_ HB.out);rw [t4] at hc1;have HC1:=hid hc1;clear hc1;have hc2:=Z2f x.value X (HR2.out.new_ HB.out);rw [t5] at hc2;have HC2:=hid hc2;clear hc2;have HN:=hid (HYES.out (by simp [Z43,t5]));clear t1 t2 t3 t4 t5;(go_wp2_with fail);refine HC1.out.mono ?_;rintro e w9 ⟨rfl,rfl⟩;(go_wp2_with fail);refine HC2.out.mono ?_;rintro e w9 ⟨rfl,rfl⟩;(go_wp2_with fail);go_ret;exact ⟨by rw [HN.out];rfl,HBW.out⟩
            · skip
              have hc1:=Z2f x.attr X (HR1.out.new_ HB.out);rw [t4] at hc1;have HC1:=hid hc1;clear hc1;have HN:=hid (HYES.out (by simp [Z43,t4]));clear t1 t2 t3 t4;(go_wp2_with fail);refine HC1.out.mono ?_;rintro e w9 ⟨rfl,rfl⟩;(go_wp2_with fail);go_ret;exact ⟨by rw [HN.out];rfl,HBW.out⟩
          · skip
            (have s1:decide ((100:Int)<(x.id.size:Int))=false:=by simp at t1 ⊢;omega);(have s2:decide ((10:Int)<(x.attr.length:Int))=false:=by simp at t2 ⊢;omega);(have s3:decide ((10:Int)<(x.value.length:Int))=true:=by simp at t3 ⊢;omega);have HN:=hid (HYES.out (by simp [Z43,t3]));clear t1 t2 t3;(go_wp2_with fail);go_ret;exact ⟨by rw [HN.out];rfl,HBW.out⟩
        · skip
          (have s1:decide ((100:Int)<(x.id.size:Int))=false:=by simp at t1 ⊢;omega);(have s2:decide ((10:Int)<(x.attr.length:Int))=true:=by simp at t2 ⊢;omega);have HN:=hid (HYES.out (by simp [Z43,t2]));clear t1 t2;(go_wp2_with fail);go_ret;exact ⟨by rw [HN.out];rfl,HBW.out⟩
      · skip
        (have s1:decide ((100:Int)<(x.id.size:Int))=true:=by simp at t1 ⊢;omega);have HN:=hid (HYES.out (by simp [Z43,t1]));clear t1;(go_wp2_with fail);go_ret;exact ⟨by rw [HN.out];rfl,HBW.out⟩
    · have hie:i=l.length:=by omega
      subst hie
      have HN:=hid (show R=false by
       rw [HR.out,List.any_eq_false];intro x hx;obtain ⟨k,hk,rfl⟩:=List.getElem_of_mem hx;have:=HALL.out k hk hk
       simpa using this)
      (go_wp2_with fail);go_ret;exact ⟨by rw [HN.out];rfl,HB0.out⟩
theorem Zju {D:Nat→Prop}(n:Nat) (p:Z39) (A1 A2:Option Addr) (c1 c2:Nat) (w:World) (h1:RowR (Z06 n) D w A1 c1 p.conds) (h2:RowR Z11 D w A2 c2 p.acts) :
 Calls Tryz.prog 6 #[.agg #[.string p.name,.slice A1 p.conds.length c1,.slice A2 p.acts.length c2]] w fun e w'=>e = .returned (.bool (Z6c n p))∧Below w.heap.size w w':=by
 have H1:=hid h1;have hac:=h2.cap;obtain ⟨R,hR⟩:∃R,R=Z6c n p:=⟨_,rfl⟩;rw [←hR];have HR:=hid hR;obtain ⟨s,hs⟩:∃s,s=Z2a 40 n 0 p.conds:=⟨_,rfl⟩;unfold Z6c at hR;rw [←hs] at hR;have HV:=hid hR;clear hR h1 h2;go_enter Tryz.func6,Tryz.ntmps6;(go_upto_region 1 with fail);obtain ⟨w1,hw1⟩:∃w1,w1=(w.alloc (.cells #[.string p.name,.slice A1 p.conds.length c1,.slice A2 p.acts.length c2] 25)):=⟨_,rfl⟩;rw [←hw1];have HB:=hid (show Below w.heap.size w w1 by rw [hw1];exact (by repeat (first|exact Znk _ _|refine Below.drew ?_|refine Below.al ?_ _|refine Below.sc ?_ _)));have Kp:=hid (show Blk w1 (w.heap.size) 25 #[.string p.name,.slice A1 p.conds.length c1,.slice A2 p.acts.length c2] by rw [hw1];exact (Blk.new w 25 #[.string p.name,.slice A1 p.conds.length c1,.slice A2 p.acts.length c2]));clear hw1;obtain ⟨p0,p1,p2⟩:=Kp.out.c3;have pz:=Kp.out.lt;have hc1:Calls Tryz.prog 34 #[.slice A1 p.conds.length c1,.int .i64 40,.int .i64 0] w1 _:=Zmp 40 (by decide) n D A1 c1 0 p.conds w1 (H1.out.new_ HB.out) (by decide);rw [←hs] at hc1;have HC1:=hid hc1;clear hc1 hs;cases t1:decide (40<s)
 · skip
   cases t2:decide (40<p.acts.length)
   · skip
     cases t3:decide (100<p.name.size)
     · skip
       (have s1:decide ((40:Int)<(s:Int))=false:=by simp at t1 ⊢;omega);(have s2:decide ((40:Int)<(p.acts.length:Int))=false:=by simp at t2 ⊢;omega);(have s3:decide ((100:Int)<(p.name.size:Int))=false:=by simp at t3 ⊢;omega);have HN:=hid (show R=Z3n n p.conds by rw [HV.out,t1,t2,t3];simp);clear t1 t2 t3;(go_wp2_with fail);(with_reducible refine (HC1.out).mono ?_);rintro e w0 ⟨rfl,rfl⟩;(go_wp2_with fail);(with_reducible refine (Zb0 n D A1 c1 p.conds _ (H1.out.new_ HB.out)).mono ?_);rintro e w2 ⟨rfl,hb⟩;have hbs:=Below.trans (show Below w1.heap.size w1 _ from (by (repeat (first|exact Znk _ _|refine Below.drew ?_|refine Below.al ?_ _|refine Below.sc ?_ _)))) (hb.mono (by simp<;>omega));have Kp:=hid (Kp.out.new_ hbs);have HB:=hid (HB.out.trans (hbs.mono HB.out.size));have hsz2:=hbs.size;clear p0 p1 p2 pz hb hbs;obtain ⟨p0,p1,p2⟩:=Kp.out.c3;have pz:=Kp.out.lt;(go_wp2_with fail);go_ret;exact ⟨by rw [HN.out];rfl,HB.out⟩
     · skip
       (have s1:decide ((40:Int)<(s:Int))=false:=by simp at t1 ⊢;omega);(have s2:decide ((40:Int)<(p.acts.length:Int))=false:=by simp at t2 ⊢;omega);(have s3:decide ((100:Int)<(p.name.size:Int))=true:=by simp at t3 ⊢;omega);have HN:=hid (show R=true by rw [HV.out,t1,t2,t3];simp);clear t1 t2 t3;(go_wp2_with fail);(with_reducible refine (HC1.out).mono ?_);rintro e w0 ⟨rfl,rfl⟩;(go_wp2_with fail);go_ret;exact ⟨by rw [HN.out];rfl,HB.out⟩
   · skip
     (have s1:decide ((40:Int)<(s:Int))=false:=by simp at t1 ⊢;omega);(have s2:decide ((40:Int)<(p.acts.length:Int))=true:=by simp at t2 ⊢;omega);have HN:=hid (show R=true by rw [HV.out,t1,t2];simp);clear t1 t2;(go_wp2_with fail);(with_reducible refine (HC1.out).mono ?_);rintro e w0 ⟨rfl,rfl⟩;(go_wp2_with fail);go_ret;exact ⟨by rw [HN.out];rfl,HB.out⟩
 · skip
   (have s1:decide ((40:Int)<(s:Int))=true:=by simp at t1 ⊢;omega);have HN:=hid (show R=true by rw [HV.out,t1];simp);clear t1;(go_wp2_with fail);(with_reducible refine (HC1.out).mono ?_);rintro e w0 ⟨rfl,rfl⟩;(go_wp2_with fail);go_ret;exact ⟨by rw [HN.out];rfl,HB.out⟩
theorem Zc6 {n:Nat}{p:Z39}(h:Z6c n p=false):(∀{D:Nat→Prop}{w:World}{A:Option Addr}{c:Nat},RowR (Z06 n) D w A c p.conds→RowR (Z06 20) D w A c p.conds)∧(∀m e,(Z0i m e p.conds).length≤40)∧p.acts.length≤40∧p.name.size≤100:=by
 unfold Z6c at h;simp only [Bool.or_eq_false_iff,decide_eq_false_iff_not] at h;obtain ⟨h1,h2,h3,h4⟩:=h;(have h5:Z2a 40 n 0 p.conds≤40:=by omega);exact ⟨fun g=>(Z7x 40 n 0 p.conds h5).2 g,fun m e=>Zo2 (Zaf 40 n m 0 e p.conds h5) h5,by omega,by omega⟩
theorem Z7y {d:Nat}{l:List Z0a}(h:Z2a 40 0 d l≤40):l = []:=by
 rw [Z2a] at h;by_cases h1:20<d
 · rw [if_pos h1] at h;omega
 · rw [if_neg h1] at h
   by_cases h2:l = []
   · exact h2
   · rw [if_neg h2] at h;omega
theorem Zbj {n d:Nat}{l:List Z0a}(h:Z2a 40 (n+1) d l≤40):Z2a 40 (n+1) d l=(l.map fun c=>1+Z2a 40 n (d+1) c.conds).sum∧∀c∈l,Z2a 40 n (d+1) c.conds≤40:=by
 rw [Z2a] at h ⊢;by_cases h1:20<d
 · rw [if_pos h1] at h;omega
 · rw [if_neg h1] at h ⊢
   obtain ⟨g1,g2⟩:=Zaz 40 (fun c=>Z2a 40 n (d+1) c.conds) l 0 (by omega);exact ⟨by omega,g2⟩
theorem Zhw (f:Z0a→Nat):∀l:List Z0a,l.length≤(l.map fun c=>1+f c).sum
 | []=>by simp
 | c :: l=>by have:=Zhw f l;rw [List.map_cons,List.sum_cons,Zo4];omega
theorem Zcx :∀(n d:Nat) (l:List Z0a),Z2a 40 n d l≤40→l.length≤40
 | 0,d,l,h=>by rw [Z7y h];simp
 | n+1,d,l,h=>by
   obtain ⟨g1,_⟩:=Zbj h;have:=Zhw (fun c=>Z2a 40 n (d+1) c.conds) l;omega
theorem Zew {n:Nat}{l:List Z0a}(h:Z3n (n+1) l=false){c:Z0a}(hc:c∈l):Z43 c=false∧Z3n n c.conds=false:=by
 have h2:=List.any_eq_false.1 (show (l.any fun c=>Z43 c ||Z3n n c.conds)=false from h) c hc;simp only [Zp3,not_or,Bool.not_eq_true] at h2;exact h2
theorem Zc7 {l:List Z1r}(h1:l.length≤10) (h2:l.any Z3o=false):SmT l:=by
 refine ⟨by omega,fun t ht=>?_⟩;have h3:=List.any_eq_false.1 h2 t ht;unfold Z3o at h3;simp only [Zp3,Zp0,not_or] at h3;omega
theorem Zc5 {c:Z0a}(h:Z43 c=false):c.id.size≤100∧c.attr.length≤10∧c.value.length≤10∧SmT c.attr∧SmT c.value∧c.attr.any Z3o=false∧c.value.any Z3o=false:=by
 unfold Z43 at h;simp only [Bool.or_eq_false_iff,decide_eq_false_iff_not] at h;obtain ⟨h1,h2,h3,h4,h5⟩:=h;exact ⟨by omega,by omega,by omega,Zc7 (by omega) h4,Zc7 (by omega) h5,h4,h5⟩
theorem Zfd :∀(n d m:Nat) (l:List Z0a),Z2a 40 n d l≤40→Z3n n l=false→∀c∈l,SmC m c
 | 0,d,m,l,h1,_,c,hc=>by rw [Z7y h1] at hc;cases hc
 | n+1,d,0,l,_,_,c,hc=>trivial
 | n+1,d,m+1,l,h1,h2,c,hc=>by
   obtain ⟨g1,g2⟩:=Zbj h1;obtain ⟨k1,k2⟩:=Zew h2 hc;obtain ⟨-,-,-,s1,s2,-,-⟩:=Zc5 k1;have:=Zcx n (d+1) c.conds (g2 c hc);exact ⟨s1,s2,by omega,Zfd n (d+1) m c.conds (g2 c hc) k2⟩
theorem Za3 {β:Type}(f:Z0a→List β) (g:Z0a→Nat) (k:Nat):∀l:List Z0a,(∀c∈l,(f c).length≤k*g c)→(l.flatMap f).length≤k*(l.map g).sum
 | [],_=>by simp
 | c :: l,h=>by
   have h1:=h c (by simp);have h2:=Za3 f g k l (fun x hx=>h x (by simp [hx]));rw [Zoo,Znp,List.map_cons,List.sum_cons,Nat.mul_add];omega
theorem Z99 :∀(n d m:Nat) (l:List Z0a),Z2a 40 n d l≤40→Z3n n l=false→(l.flatMap (Z0b m)).length≤21*Z2a 40 n d l
 | 0,d,m,l,h1,_=>by rw [Z7y h1];simp
 | n+1,d,0,l,_,_=>by
   have:l.flatMap (Z0b 0) = []:=by
    rw [List.flatMap_eq_nil_iff];intro x _;rfl
   rw [this];simp
 | n+1,d,m+1,l,h1,h2=>by
   obtain ⟨g1,g2⟩:=Zbj h1;rw [g1];refine Za3 (Z0b (m+1)) (fun c:Z0a=>1+Z2a 40 n (d+1) c.conds) 21 l (fun c hc=>?_);obtain ⟨k1,k2⟩:=Zew h2 hc;obtain ⟨-,s1,s2,-⟩:=Zc5 k1;have h5:=Z99 n (d+1) m c.conds (g2 c hc) k2;have k1:=Z7f c.attr;have k2:=Z7f c.value;have k3:=Zf4 c.id;rw [Z0b,Znp,Znp,Znp];omega
theorem Zhk {n:Nat}{p:Z39}(h:Z6c n p=false):Z2a 40 n 0 p.conds≤40∧p.acts.length≤40∧p.name.size≤100∧Z3n n p.conds=false:=by
 unfold Z6c at h;simp only [Bool.or_eq_false_iff,decide_eq_false_iff_not] at h;obtain ⟨h1,h2,h3,h4⟩:=h;exact ⟨by omega,by omega,by omega,h4⟩
theorem sm40 {n:Nat}{p:Z39}(h:Z6c n p=false) (m:Nat):p.conds.length≤40∧∀c∈p.conds,SmC m c∧(Z0b m c).length≤100000:=by
 obtain ⟨h1,_,_,h4⟩:=Zhk h;refine ⟨Zcx n 0 p.conds h1,fun c hc=>⟨Zfd n 0 m p.conds h1 h4 c hc,?_⟩⟩;have h5:=Z99 n 0 m p.conds h1 h4
 have h6:(Z0b m c).length≤(p.conds.flatMap (Z0b m)).length:=by
  obtain ⟨s,t,e⟩:=List.append_of_mem hc;rw [e];simp only [Zny,Zoo,Znp];omega
 omega
theorem Zi9 (x:ActT) (W:World):(binOp .neq 96 (.agg #[.string x.id,.string x.attr.var,.int .i64 x.attr.sym.kind,.string x.attr.sym.text,.int .i64 x.attr.sym.n,.int .i64 x.value.op,.string x.value.a.var,.int .i64 x.value.a.sym.kind,.string x.value.a.sym.text,.int .i64 x.value.a.sym.n,.string x.value.b.var,.int .i64 x.value.b.sym.kind,.string x.value.b.sym.text,.int .i64 x.value.b.sym.n,.int .i64 x.pref,.string x.other.var,.int .i64 x.other.sym.kind,.string x.other.sym.text,.int .i64 x.other.sym.n]) (.agg #[.string x.id,.string x.attr.var,.int .i64 x.attr.sym.kind,.string x.attr.sym.text,.int .i64 x.attr.sym.n,.int .i64 x.value.op,.string x.value.a.var,.int .i64 x.value.a.sym.kind,.string x.value.a.sym.text,.int .i64 x.value.a.sym.n,.string x.value.b.var,.int .i64 x.value.b.sym.kind,.string x.value.b.sym.text,.int .i64 x.value.b.sym.n,.int .i64 x.pref,.string x.other.var,.int .i64 x.other.sym.kind,.string x.other.sym.text,.int .i64 x.other.sym.n])).run Tryz.prog W = .ok (.bool false) W:=by
 rw [run_neq_struct];go_simp
theorem Zgy {D D':Nat→Prop}{A B:Option Addr}{c d:Nat}(l:List ActT) (w:World) (hl:RowR Z11 D w A c l) (hm:RowR Z11 D' w B d l) :
 Calls Tryz.prog 75 #[.slice A l.length c,.slice B l.length d] w fun e w'=>e = .returned (.bool true)∧Below w.heap.size w w':=by
 have HL:=hid hl;have HM:=hid hm;have hlc:=hl.cap;clear hl hm;go_enter Tryz.func75,Tryz.ntmps75;go_wp2_with fail
 go_loopw [5] (fun s wr=>∃i:Nat,s = .int .i64 i∧i≤l.length∧Below w.heap.size w wr) (fun s wr=>l.length - (intOf s).toNat)
 case atStart=>exact ⟨0,rfl,Nat.zero_le _,Znk _ _⟩
 case round=>
  obtain ⟨i,rfl,hi,hB⟩:=hrel;have HB:=hid hB;clear hB;by_cases hlt:i<l.length
  · obtain ⟨y,hy⟩:∃y,y=l[i]:=⟨_,rfl⟩
    (have b1:(0:Int)≤(i:Int):=by omega);(have b2:(i:Int)<(l.length:Int):=by omega);have HY:=hid hy;obtain ⟨g,off,hAA,_,hgs,_⟩:=Zaq (HL.out.new_ HB.out) hlt;subst hAA;obtain ⟨g2,off2,hAA,_,hgs2,_⟩:=Zaq (HM.out.new_ HB.out) hlt;subst hAA
    have LA:=hid (show ∀w9,Below wr.heap.size wr w9→w9.rangeAt g (off+i*19) [.string y.id,.string y.attr.var,.int .i64 y.attr.sym.kind,.string y.attr.sym.text,.int .i64 y.attr.sym.n,.int .i64 y.value.op,.string y.value.a.var,.int .i64 y.value.a.sym.kind,.string y.value.a.sym.text,.int .i64 y.value.a.sym.n,.string y.value.b.var,.int .i64 y.value.b.sym.kind,.string y.value.b.sym.text,.int .i64 y.value.b.sym.n,.int .i64 y.pref,.string y.other.var,.int .i64 y.other.sym.kind,.string y.other.sym.text,.int .i64 y.other.sym.n] from fun w9 h9 j v hv=>by
     obtain ⟨g',off',cs,e1,_,_,hr,hc⟩:=(HL.out.new_ (HB.out.trans (h9.mono HB.out.size))).at_ hlt;cases e1;have hr2:cs=ActT.cells l[i]:=hr;subst hr2;rw [←HY.out] at hc
     exact hc j v hv)
    have LB:=hid (show ∀w9,Below wr.heap.size wr w9→w9.rangeAt g2 (off2+i*19) [.string y.id,.string y.attr.var,.int .i64 y.attr.sym.kind,.string y.attr.sym.text,.int .i64 y.attr.sym.n,.int .i64 y.value.op,.string y.value.a.var,.int .i64 y.value.a.sym.kind,.string y.value.a.sym.text,.int .i64 y.value.a.sym.n,.string y.value.b.var,.int .i64 y.value.b.sym.kind,.string y.value.b.sym.text,.int .i64 y.value.b.sym.n,.int .i64 y.pref,.string y.other.var,.int .i64 y.other.sym.kind,.string y.other.sym.text,.int .i64 y.other.sym.n] from fun w9 h9 j v hv=>by
     obtain ⟨g',off',cs,e1,_,_,hr,hc⟩:=(HM.out.new_ (HB.out.trans (h9.mono HB.out.size))).at_ hlt;cases e1;have hr2:cs=ActT.cells l[i]:=hr;subst hr2;rw [←HY.out] at hc
     exact hc j v hv)
    have hbe:=fun W=>Zi9 y W;clear hy;(go_wp2_with fail);refine Z0c (fun w9=>Below wr.heap.size wr w9) [(0,0),(1,0),(2,0),(3,1),(4,0),(5,0),(6,0),(7,1),(8,0)] (by kernel_rfl) (by kernel_rfl) (fun KK hKK=>?_);simp only [Z0w,Znz,Znt,Znv,Znr,Zns,Zo1];(repeat ((first|(refine Z0k _ ((Znk _ _).drew) (yieldsIf_load_mid (by rfl) 96 _ rfl g (off+i*19) rfl [.string y.id,.string y.attr.var,.int .i64 y.attr.sym.kind,.string y.attr.sym.text,.int .i64 y.attr.sym.n,.int .i64 y.value.op,.string y.value.a.var,.int .i64 y.value.a.sym.kind,.string y.value.a.sym.text,.int .i64 y.value.a.sym.n,.string y.value.b.var,.int .i64 y.value.b.sym.kind,.string y.value.b.sym.text,.int .i64 y.value.b.sym.n,.int .i64 y.pref,.string y.other.var,.int .i64 y.other.sym.kind,.string y.other.sym.text,.int .i64 y.other.sym.n] _ LA.out Tryz.underlying96 rfl (by kernel_rfl)) ?_)|(refine Z0k _ ((Znk _ _).drew) (yieldsIf_load_mid (by rfl) 96 _ rfl g2 (off2+i*19) rfl [.string y.id,.string y.attr.var,.int .i64 y.attr.sym.kind,.string y.attr.sym.text,.int .i64 y.attr.sym.n,.int .i64 y.value.op,.string y.value.a.var,.int .i64 y.value.a.sym.kind,.string y.value.a.sym.text,.int .i64 y.value.a.sym.n,.string y.value.b.var,.int .i64 y.value.b.sym.kind,.string y.value.b.sym.text,.int .i64 y.value.b.sym.n,.int .i64 y.pref,.string y.other.var,.int .i64 y.other.sym.kind,.string y.other.sym.text,.int .i64 y.other.sym.n] _ LB.out Tryz.underlying96 rfl (by kernel_rfl)) ?_)|(refine Z0m ?_ (Or.inl ⟨by rfl,fun w9=>?_⟩) ?_;rotate_left 1;go_simp;with_reducible rfl)|(refine Z0k ?_ (((Znk _ _).drew)) (Or.inl ⟨by rfl,fun w9 hw9=>?_⟩) ?_;rotate_left 1;fail;go_simp;with_reducible rfl)|refine Z0m undef (Or.inr ⟨by rfl,rfl⟩) ?_|refine Z0k undef (((Znk _ _).drew)) (Or.inr ⟨by rfl,rfl⟩) ?_);go_frame));refine Z16 ?_;simp only [Z04];refine hKK _ _ ?_;clear hKK KK;have HB2:=hid (HB.out.drew);(go_wp2_with fail);go_roundw
    case rel=>exact ⟨i+1,by go_num,by omega,HB2.out⟩
    case measure=>simp [intOf]<;>omega
  · obtain rfl:i=l.length:=by omega
    (go_wp2_with fail);go_ret;exact ⟨rfl,HB.out⟩
theorem Zij {D D':Nat→Prop}(n:Nat) (p:Z39) (A1:Option Addr) (c1:Nat) (A2:Option Addr) (c2:Nat) (B1:Option Addr) (d1:Nat) (B2:Option Addr) (d2:Nat) (w:World) (g1:RowR (Z06 n) D w A1 c1 p.conds) (g2:RowR Z11 D w A2 c2 p.acts) (k1:RowR (Z06 n) D' w B1 d1 p.conds) (k2:RowR Z11 D' w B2 d2 p.acts) :
 Calls Tryz.prog 30 #[.agg #[.string p.name,.slice A1 p.conds.length c1,.slice A2 p.acts.length c2],.agg #[.string p.name,.slice B1 p.conds.length d1,.slice B2 p.acts.length d2]] w fun e w'=>e = .returned (.bool true)∧Below w.heap.size w w':=by
 have G1:=hid g1;have G2:=hid g2;have K1:=hid k1;have K2:=hid k2;clear g1 g2 k1 k2;go_enter Tryz.func30,Tryz.ntmps30;(go_upto_region 1 with fail);obtain ⟨w1,hw1⟩:∃w1,w1=((w.alloc (.cells #[.string p.name,.slice A1 p.conds.length c1,.slice A2 p.acts.length c2] 25)).alloc (.cells #[.string p.name,.slice B1 p.conds.length d1,.slice B2 p.acts.length d2] 25)):=⟨_,rfl⟩;rw [←hw1];have HB:=hid (show Below w.heap.size w w1 by rw [hw1];exact (by repeat (first|exact Znk _ _|refine Below.drew ?_|refine Below.al ?_ _|refine Below.sc ?_ _)));have Ka:=hid (show Blk w1 (w.heap.size) 25 #[.string p.name,.slice A1 p.conds.length c1,.slice A2 p.acts.length c2] by rw [hw1];exact ((Blk.new w 25 #[.string p.name,.slice A1 p.conds.length c1,.slice A2 p.acts.length c2]).alloc (.cells #[.string p.name,.slice B1 p.conds.length d1,.slice B2 p.acts.length d2] 25)));have Kb:=hid (show Blk w1 (w.heap.size+1) 25 #[.string p.name,.slice B1 p.conds.length d1,.slice B2 p.acts.length d2] by rw [hw1];have hh:=(Blk.new (w.alloc (.cells #[.string p.name,.slice A1 p.conds.length c1,.slice A2 p.acts.length c2] 25)) 25 #[.string p.name,.slice B1 p.conds.length d1,.slice B2 p.acts.length d2]);simp only [Zoj] at hh;exact hh);clear hw1;obtain ⟨a0,a1,a2⟩:=Ka.out.c3;have az:=Ka.out.lt;obtain ⟨b0,b1,b2⟩:=Kb.out.c3;have bz:=Kb.out.lt;(go_wp2_with fail);(with_reducible refine (Z7p n _ _ _ _ _ _ p.conds _ (G1.out.new_ (by (repeat (first|exact Znk _ _|exact HB.out|refine Below.drew ?_|refine Below.al ?_ _|refine Below.sc ?_ _)))) (K1.out.new_ (by (repeat (first|exact Znk _ _|exact HB.out|refine Below.drew ?_|refine Below.al ?_ _|refine Below.sc ?_ _))))).mono ?_);rintro e w2 ⟨rfl,hb⟩;have hbs:=Below.trans (show Below w1.heap.size w1 _ from (by (repeat (first|exact Znk _ _|refine Below.drew ?_|refine Below.al ?_ _|refine Below.sc ?_ _)))) (hb.mono (by simp<;>omega));have Ka:=hid (Ka.out.new_ hbs);have Kb:=hid (Kb.out.new_ hbs);have HB:=hid (HB.out.trans (hbs.mono HB.out.size));have hsz2:=hbs.size;clear a0 a1 a2 az b0 b1 b2 bz hb hbs;obtain ⟨a0,a1,a2⟩:=Ka.out.c3;have az:=Ka.out.lt;obtain ⟨b0,b1,b2⟩:=Kb.out.c3;have bz:=Kb.out.lt;(go_wp2_with fail);(with_reducible refine (Zgy p.acts _ (G2.out.new_ (by (repeat (first|exact Znk _ _|exact HB.out|refine Below.drew ?_|refine Below.al ?_ _|refine Below.sc ?_ _)))) (K2.out.new_ (by (repeat (first|exact Znk _ _|exact HB.out|refine Below.drew ?_|refine Below.al ?_ _|refine Below.sc ?_ _))))).mono ?_);rintro e w3 ⟨rfl,hb⟩;have hbs:=Below.trans (show Below w2.heap.size w2 _ from (by (repeat (first|exact Znk _ _|refine Below.drew ?_|refine Below.al ?_ _|refine Below.sc ?_ _)))) (hb.mono (by simp<;>omega));have Ka:=hid (Ka.out.new_ hbs);have Kb:=hid (Kb.out.new_ hbs);have HB:=hid (HB.out.trans (hbs.mono HB.out.size));have hsz3:=hbs.size;clear a0 a1 a2 az b0 b1 b2 bz hb hbs;obtain ⟨a0,a1,a2⟩:=Ka.out.c3;have az:=Ka.out.lt
 obtain ⟨b0,b1,b2⟩:=Kb.out.c3;have bz:=Kb.out.lt;(go_wp2_with fail);go_ret;exact ⟨rfl,by (repeat (first|exact Znk _ _|exact HB.out|refine Below.drew ?_|refine Below.al ?_ _|refine Below.sc ?_ _))⟩
end
end Go.Proofs.YtfidcfjcmlgkbaaGreat
