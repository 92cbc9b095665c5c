/-
  Texts put together: EagerT, BkSymG, BkSym, VaryN, Own, OwnC, BkInfo.
-/
import Derived.Test.YtldndkngpdfpfaaGreatPGc
namespace Go.Proofs.YtldndkngpdfpfaaGreat
open Lib (hid)
set_option maxRecDepth 100000
set_option maxHeartbeats 32000000
section
section
variable {P:Program} {ops:Array Oper} {Q:Exit→Act→World→Prop} {S:World→Prop}
inductive Pl where
 | fin (l:List (Nat×Cls))
 | fork (l:List (Nat×Cls)) (i:Nat) (r:Pl) (j:Nat) (s:Pl)
def setL (listed:Array Bool) (l:List (Nat×Cls)):Array Bool:=l.foldl (fun g x=>g.setIfInBounds x.1 true) listed
def okL (ops:Array Oper):List (Nat×Cls)→Array Bool→Bool
 | [],_=>true
 | (k,c) :: rest,listed=>(if c == 2 then Region.ready .any ops listed == [k] else (Region.ready .any ops listed).contains k && Region.free .any ops listed k) && okL ops rest (listed.setIfInBounds k true)
def chkL (qs ls:List Nat) (l:List (Nat×Cls)):Bool:=l.all fun (k,c)=>(c != 2) == qs.contains k && (c != 1 || ls.contains k)
def okPl (ops:Array Oper) (qs ls:List Nat):Pl→Nat→Array Bool→Bool
 | .fin l,n,listed=>n == l.length && chkL qs ls l && okL ops l listed && (Region.ready .any ops (setL listed l)).isEmpty && l.all fun x=>x.1<ops.size
 | .fork l i r j s,n,listed=>decide (l.length+1≤n) && chkL qs ls l && okL ops l listed && (l.all fun x=>x.1<ops.size) && Region.ready .any ops (setL listed l) == [i,j] && !qs.contains i && !qs.contains j &&
  okPl ops qs ls r (n - l.length - 1) ((setL listed l).setIfInBounds i true) && okPl ops qs ls s (n - l.length - 1) ((setL listed l).setIfInBounds j true)
def wpY (P:Program) (ops:Array Oper) (Q:Exit→Act→World→Prop) (S:World→Prop) (ns:Nat→Bool) (R:Act→World→Prop):List (Nat×Cls×Oper)→Act→World→Prop
 | [],a,w=>R a w
 | (i,c,o) :: rest,a,w=>
   if c=2 then (if Region.wanted o (yielded ops a.tmps)=true then o.wp P a w (fun a' w'=>(ns i=true→S w')∧wpY P ops Q S ns R rest a' w') Q else (ns i=true→S w)∧wpY P ops Q S ns R rest (a.put o.dst undef) w)
   else ∃v,(if c=1 then YieldsIf P ops S o v a∧S w else Yields P ops o v a)∧wpY P ops Q S ns R rest (a.put o.dst v) w
def wpPl (P:Program) (ops:Array Oper) (Q:Exit→Act→World→Prop) (S:World→Prop) (ns:Nat→Bool):Pl→Act→World→Prop
 | .fin l,a,w=>wpY P ops Q S ns (fun a w=>Q .normal a w) (Z02 ops l) a w
 | .fork l i r j s,a,w=>wpY P ops Q S ns (fun a w=>wpOp P ops Q i (fun a' w'=>(ns i=true→S w')∧wpPl P ops Q S ns r a' w') a w∧wpOp P ops Q j (fun a' w'=>(ns j=true→S w')∧wpPl P ops Q S ns s a' w') a w) (Z02 ops l) a w
theorem Z6a : ∀(l:List (Nat×Cls)) (listed:Array Bool),Z3x ops listed→okL ops l listed=true→Z3x ops (setL listed l)
 | [],_,h,_=>h
 | (k,c) :: rest,listed,h,hB=>by
   simp only [okL,Zir] at hB;refine Z6a rest _ (Z25 h ?_) hB.2;by_cases hc:c=2
   · subst hc
     have hB1:=hB.1;simp only [beq_self_eq_true,if_true] at hB1;(have hr:Region.ready .any ops listed = [k]:=by simpa using hB1);rw [hr];simp
   · have hB1:=hB.1
     rw [if_neg (by simpa using hc)] at hB1;simp only [Zir] at hB1;simpa using hB1.1
theorem Z4u {qt ns:Nat→Bool} {R:Act→World→Prop} {n:Nat} (hsel:Region.noSelect ops=true) (hQ : ∀c a a' w,Q (.panic c) a w→Q (.panic c) a' w) :
 ∀(rest:List (Nat×Cls)) (listed:Array Bool) (a:Act) (w:World),Z3x ops listed→okL ops rest listed=true→(∀x∈rest,x.1<ops.size)→
  (∀k c,(k,c)∈rest→(qt k=true↔c≠2))→(∀k,(k,1)∈rest→∀j,Z31 ops ops.size j k=false→j≠k→j<ops.size→ns j=true)→
  (∀a w,R a w→Z5v P ops Q S qt ns n (setL listed rest) a w)→wpY P ops Q S ns R (Z02 ops rest) a w→Z5v P ops Q S qt ns (rest.length+n) listed a w
 | [],listed,a,w,_,_,_,_,_,hR,h=>by
   have:=hR a w h;simpa [setL] using this
 | (k,c) :: rest,listed,a,w,hcl,hB,hl,hqt,hns,hR,h=>by
   simp only [okL,Zir] at hB;obtain ⟨hB1,hB2⟩:=hB;have hi:k<ops.size:=hl (k,c) (by simp);have ho:ops[k]? = some ops[k]:=Array.getElem?_eq_getElem hi;(have hb:Z02 ops ((k,c) :: rest)=(k,c,ops[k]) :: Z02 ops rest:=by simp [Z02,ho]);have ih:=fun listed' a w hcl' hB' hR' h'=>Z4u (R:=R) (n:=n) hsel hQ rest listed' a w hcl' hB' (fun x hx=>hl x (by simp [hx])) (fun k c hk=>hqt k c (by simp [hk])) (fun k hk=>hns k (by simp [hk])) hR' h';rw [hb] at h;simp only [wpY] at h;(have hlen:((k,c) :: rest).length+n=(rest.length+n)+1:=by simp;omega);rw [hlen];by_cases hc:c=2
   · subst hc
     simp only [beq_self_eq_true,if_true] at hB1;(have hr:Region.ready .any ops listed = [k]:=by simpa using hB1);simp only [if_true] at h;have hcl2:=Z25 hcl (i:=k) (by rw [hr];simp);refine ⟨fun h0=>(by rw [hr] at h0;cases h0),fun i hi'=>?_⟩;rw [hr] at hi';obtain rfl:i=k:=by simpa using hi'
     have hbh : ∀w',(ns i=true→S w')→Z4z S qt ns i w w':=fun w' hs=>by
      unfold Z4z;rw [if_neg (fun hq=>(hqt i 2 (by simp)).1 hq rfl)];exact hs
     unfold wpOp;simp only [ho]
     split
     · rename_i hw
       rw [if_pos hw] at h;exact .inl (Oper.wp_mono (fun a' w' h'=>⟨hbh w' h'.1,ih _ a' w' hcl2 hB2 hR h'.2⟩) h)
     · rename_i hw
       rw [if_neg hw] at h;exact ⟨hbh w h.1,ih _ _ w hcl2 hB2 hR h.2⟩
   · rw [if_neg (by simpa using hc)] at hB1
     simp only [Zir] at hB1;rw [if_neg hc] at h;obtain ⟨v,hy,hk⟩:=h;(have hrdy:k∈Region.ready .any ops listed:=by simpa using hB1.1);have hrest:=ih _ _ w (Z25 hcl hrdy) hB2 hR hk;by_cases h1:c=1
     · subst h1
       rw [if_pos rfl] at hy
       exact Z3g ho (Region.noSelect_spec hsel) (fun c a w=>hQ c _ _ w) true ((hqt k 1 (by simp)).2 hc) (fun _=>hns k (by simp)) (rest.length+n) listed a w hcl (Region.free_spec ho hB1.2) hrdy
        (hy.1.imp (fun ⟨p,q⟩=>⟨p,fun w' hw'=>q w' (hw' rfl)⟩) id) (fun _=>hy.2) hrest
     · rw [if_neg h1] at hy
       exact Z3g ho (Region.noSelect_spec hsel) (fun c a w=>hQ c _ _ w) false ((hqt k c (by simp)).2 hc) (fun h=>by cases h) (rest.length+n) listed a w hcl (Region.free_spec ho hB1.2) hrdy
        (hy.imp (fun ⟨p,q⟩=>⟨p,fun w' _=>q w'⟩) id) (fun h=>by cases h) hrest
theorem Zes {qs ls:List Nat} (hsel:Region.noSelect ops=true) (hQ : ∀c a a' w,Q (.panic c) a w→Q (.panic c) a' w) (p:Pl) :
 ∀(n:Nat) (listed:Array Bool) (a:Act) (w:World),Z3x ops listed→okPl ops qs ls p n listed=true→
  wpPl P ops Q S (fun j=>ls.any fun k=>k != j && !Z31 ops ops.size j k) p a w→Z5v P ops Q S (fun k=>qs.contains k) (fun j=>ls.any fun k=>k != j && !Z31 ops ops.size j k) n listed a w:=by
 have hq : ∀l,chkL qs ls l=true→∀k c,(k,c)∈l→(qs.contains k=true↔c≠2):=fun l hl k c hk=>by
  have:=Zj7.1 hl (k,c) hk;simp only [Zir,beq_iff_eq] at this;rw [← this.1];simp
 have hn : ∀l,chkL qs ls l=true→∀k,(k,1)∈l→∀j,Z31 ops ops.size j k=false→j≠k→j<ops.size→(ls.any fun k=>k != j && !Z31 ops ops.size j k)=true:=fun l hl k hk j hw hjk _=>by
  have:=Zj7.1 hl (k,1) hk;simp only [Zir] at this;(have h2:ls.contains k=true:=by simpa using this.2);rw [Zj2];exact ⟨k,by simpa using h2,by rw [hw];simp [Ne.symm hjk]⟩
 induction p with
 | fin l=>
   intro n listed a w hcl hB h;simp only [okPl,Zir,beq_iff_eq] at hB;obtain ⟨⟨⟨⟨rfl,hc⟩,hL⟩,he⟩,hlt⟩:=hB
   have:=Z4u (P:=P) (Q:=Q) (S:=S) (qt:=fun k=>qs.contains k) (ns:=fun j=>ls.any fun k=>k != j && !Z31 ops ops.size j k) (R:=fun a w=>Q .normal a w) (n:=0) hsel hQ l listed a w hcl hL (by simpa [Zj7] using hlt) (hq l hc) (hn l hc)
    (fun a w h=>⟨by simpa using he,h⟩) h
   simpa using this
 | fork l i r j s ihr ihs=>
   intro n listed a w hcl hB h;simp only [okPl,Zir,beq_iff_eq,Zjc,Bool.not_eq_true'] at hB;obtain ⟨⟨⟨⟨⟨⟨⟨⟨hlen,hc⟩,hL⟩,hlt⟩,hrd⟩,hqi⟩,hqj⟩,hr⟩,hs⟩:=hB;obtain ⟨m,rfl⟩ : ∃m,n=l.length+(m+1):=⟨n - l.length - 1,by omega⟩;(have em:l.length+(m+1) - l.length - 1=m:=by omega);rw [em] at hr hs;have hcl2:=Z6a l listed hcl hL;refine Z4u (P:=P) (Q:=Q) (S:=S) (qt:=fun k=>qs.contains k) (ns:=fun j=>ls.any fun k=>k != j && !Z31 ops ops.size j k) (n:=m+1) hsel hQ l listed a w hcl hL (by simpa [Zj7] using hlt) (hq l hc) (hn l hc) (fun a w hR=>?_) h;refine ⟨fun h0=>(by rw [hrd] at h0;cases h0),fun k hk=>?_⟩;have hcl3:=Z25 hcl2 hk;rw [hrd] at hk;simp only [Zij,Zio,or_false] at hk;rcases hk with rfl | rfl
   · refine wpOp_mono (fun a' w' h'=>⟨?_,ihr m _ a' w' hcl3 hr h'.2⟩) hR.1
     unfold Z4z;rw [if_neg (by simp only [hqi];simp)];exact h'.1
   · refine wpOp_mono (fun a' w' h'=>⟨?_,ihs m _ a' w' hcl3 hs h'.2⟩) hR.2
     unfold Z4z;rw [if_neg (by simp only [hqj];simp)];exact h'.1
theorem Z1b {id:Nat} {l:List Oper} {a:Act} {w:World} (S:World→Prop) (qs ls:List Nat) (p:Pl) (hm:P.follows .mixedOrders=true) (hsel:Region.noSelect l.toArray=true)
 (hB:okPl l.toArray qs ls p l.toArray.size (Array.replicate l.toArray.size false)=true)
 (h : ∀K:Act→World→Prop,(∀a w,Q .normal a w→K a w)→wpPl P l.toArray (Z7o K) S (fun j=>ls.any fun k=>k != j && !Z31 l.toArray l.toArray.size j k) p a w.drew):(Code.region id l.toArray true).wp P Q a w:=by
 refine Code.wp_mono (Q:=Z7o fun a w=>Q .normal a w) (fun e a w hq=>by cases e<;>first | exact hq | exact hq.elim) (wp_region_any hm ?_);(have hcl:Z3x l.toArray (Array.replicate l.toArray.size false):=fun m o hm=>by rw [getD_replicate_false] at hm;cases hm);exact Z5q _ _ _ _ (Zes (P:=P) (Q:=Z7o fun a w=>Q .normal a w) (S:=S) hsel (fun c a a' w h=>h) p _ _ a w.drew hcl hB (h _ (fun _ _ h=>h)))
variable {ns:Nat→Bool} {R:Act→World→Prop} {rest:List (Nat×Cls×Oper)} {a:Act} {w:World} {i:Nat} {o:Oper}
theorem Z0f (h:R a w):wpY P ops Q S ns R [] a w:=h
theorem Z0n (v:Value) (hy:Yields P ops o v a) (h:wpY P ops Q S ns R rest (a.put o.dst v) w):wpY P ops Q S ns R ((i,0,o) :: rest) a w:=by
 simp only [wpY];exact ⟨v,by simpa using hy,h⟩
theorem Z0p (v:Value) (hS:S w) (hy:YieldsIf P ops S o v a) (h:wpY P ops Q S ns R rest (a.put o.dst v) w):wpY P ops Q S ns R ((i,1,o) :: rest) a w:=by
 simp only [wpY];exact ⟨v,by simpa using ⟨hy,hS⟩,h⟩
theorem Z4k (hn:ns i=false)
 (h : ∀K:Act→World→Prop,(∀a w,wpY P ops Q S ns R rest a w→K a w)→if Region.wanted o (yielded ops a.tmps)=true then Oper.wp P o a w K Q else K (a.put o.dst undef) w):wpY P ops Q S ns R ((i,2,o) :: rest) a w:=by
 have:=h (fun a' w'=>(ns i=true→S w')∧wpY P ops Q S ns R rest a' w') (fun a w h2=>⟨fun h=>absurd h (by rw [hn];simp),h2⟩);simpa only [wpY,if_true] using this
theorem Z0s
 (h : ∀K:Act→World→Prop,(∀a w,S w→wpY P ops Q S ns R rest a w→K a w)→if Region.wanted o (yielded ops a.tmps)=true then Oper.wp P o a w K Q else K (a.put o.dst undef) w):wpY P ops Q S ns R ((i,2,o) :: rest) a w:=by
 have:=h (fun a' w'=>(ns i=true→S w')∧wpY P ops Q S ns R rest a' w') (fun a w h1 h2=>⟨fun _=>h1,h2⟩);simpa only [wpY,if_true] using this
theorem Zbf {C:World→Prop} {H:Act→World→Prop} (hC : ∀w,C w) (ho:ops[i]? = some o)
 (h : ∀K:Act→World→Prop,(∀a w,H a w→K a w)→if Region.wanted o (yielded ops a.tmps)=true then Oper.wp P o a w K Q else K (a.put o.dst undef) w) :
 wpOp P ops Q i (fun a' w'=>C w'∧H a' w') a w:=by
 have h2:=h (fun a' w'=>C w'∧H a' w') (fun a w h2=>⟨hC w,h2⟩);unfold wpOp;simp only [ho]
 split
 · rename_i hw
   rw [if_pos hw] at h2;exact .inl h2
 · rename_i hw
   rw [if_neg hw] at h2;exact h2
theorem Z0o {C:World→Prop} {H:Act→World→Prop} (ho:ops[i]? = some o)
 (h : ∀K:Act→World→Prop,(∀a w,C w→H a w→K a w)→if Region.wanted o (yielded ops a.tmps)=true then Oper.wp P o a w K Q else K (a.put o.dst undef) w) :
 wpOp P ops Q i (fun a' w'=>C w'∧H a' w') a w:=by
 have h2:=h (fun a' w'=>C w'∧H a' w') (fun a w h1 h2=>⟨h1,h2⟩);unfold wpOp;simp only [ho]
 split
 · rename_i hw
   rw [if_pos hw] at h2;exact .inl h2
 · rename_i hw
   rw [if_neg hw] at h2;exact h2
end
end
section
open Go.RowKit
abbrev zPgS (k:Sym):PgS:=⟨k,0⟩
theorem Z7r (k:Sym) (w:World):Calls Tryz.prog 147 #[.agg #[.int .i64 k.kind,.string k.text,.int .i64 k.n]] w fun e w'=>e = .returned (.agg #[.int .i64 k.kind,.string k.text,.int .i64 k.n,.int .i64 0])∧Below w.heap.size w w':=by
 obtain ⟨W,hW⟩ : ∃W,W=(w.alloc (.cells #[.int .i64 k.kind,.string k.text,.int .i64 k.n] 23)).alloc (.cells #[.int .i64 0,.string ⟨#[]⟩,.int .i64 0,.int .i64 0] 224):=⟨_,rfl⟩;(have hK:Blk W w.heap.size 23 #[.int .i64 k.kind,.string k.text,.int .i64 k.n]:=by rw [hW];exact (Blk.new _ _ _).alloc _);(have hR:Blk W (w.heap.size+1) 224 #[.int .i64 0,.string ⟨#[]⟩,.int .i64 0,.int .i64 0]:=by rw [hW];have hh:=Blk.new (w.alloc (.cells #[.int .i64 k.kind,.string k.text,.int .i64 k.n] 23)) 224 #[.int .i64 0,.string ⟨#[]⟩,.int .i64 0,.int .i64 0];simp only [Zid] at hh;exact hh);(have hB:Below w.heap.size w W:=by rw [hW];exact ((Zi2 _ _).alloc (Zi3 _) _).alloc (by simp) _);have ht:W.there (w.heap.size+1) 0 (#[.int .i64 k.kind,.string k.text,.int .i64 k.n,.int .i64 0]:Array Value).size:=hR.there;have HT:=hid ht;have HB:=hid hB;obtain ⟨k0,k1,k2⟩:=hK.c3;have kz:=hK.lt;clear ht hR hB hK;go_enter Tryz.func147,Tryz.ntmps147;(go_upto_region 1 with (fail));rw [← hW];clear hW;(go_wp2_with (with_reducible refine wpList_store_mid rfl 224 _ _ rfl (w.heap.size+1) 0 #[.int .i64 k.kind,.string k.text,.int .i64 k.n,.int .i64 0] rfl rfl HT.out (by kernel_rfl) (by kernel_rfl) ?_));(try simp only [Exit.inBlock,Exit.then]);refine bodyPost_ret (v:=.agg #[.int .i64 k.kind,.string k.text,.int .i64 k.n,.int .i64 0]) ?_ rfl ⟨rfl,Below.setCells' _ _ HB.out (by omega)⟩;exact Z2f (t:=2) (T:=224) rfl _ _ (w.heap.size+1) [.int .i64 k.kind,.string k.text,.int .i64 k.n,.int .i64 0] _ rfl (Zi6 W (w.heap.size+1) 0 [.int .i64 k.kind,.string k.text,.int .i64 k.n,.int .i64 0] HT.out) Tryz.underlying224 rfl (by kernel_rfl)
theorem Zco (w:World):Calls Tryz.prog 100 #[] w fun e w'=>∃bm bp sn A c,e = .returned (.pointer (some ⟨bm,0,none⟩))∧w.heap.size≤bm∧w.heap.size≤bp∧AIn A (w.heap.size≤·)∧Blk w' bm 226 #[.pointer (some ⟨bp,0,none⟩)]∧Z23 w' bp sn A c []∧Below w.heap.size w w':=by
 go_enter Tryz.func100,Tryz.ntmps100;(go_wp2_with fail);refine (Zh3 none 0 [] _ (Z0h.nil _ _ _) (by simp)).mono ?_;rintro e w1 ⟨bp,rfl,hbp,sn,A,c,hS,hA,hB⟩;have HS:=hid hS;have HB:=hid hB;clear hS hB;(go_wp2_with fail);go_ret;have hb9:Below w1.heap.size w1 (w1.alloc (.cells #[.pointer (some ⟨bp,0,none⟩)] 226)):=(Zi2 _ _).alloc (Zi3 _) _;exact ⟨w1.heap.size,bp,sn,A,c,rfl,HB.out.size,hbp,hA,Blk.new _ _ _,HS.out.new_ hb9,HB.out.trans (hb9.mono HB.out.size)⟩
theorem Z8i (bm bp cc:Nat) (sn:Bool) (A:Option Addr) (m:List PgS) (k:Sym) (w:World) (hM:Blk w bm 226 #[.pointer (some ⟨bp,0,none⟩)]) (hS:Z23 w bp sn A cc m) (hs:Srt Z0r m) (hl:(m.length:Int)≤1000000) (hh:has Z0r m (zPgS k)=false) :
 Calls Tryz.prog 103 #[.pointer (some ⟨bm,0,none⟩),.agg #[.int .i64 k.kind,.string k.text,.int .i64 k.n]] w fun e w'=>e = .returned (.tuple #[.int .i64 0,.bool false])∧Below w.heap.size w w':=by
 have s0:=hM.c1;have hml:=hM.lt;have HS:=hid hS;have HO:=hid hs;have HM:=hid hM;have HH:=hid hh;clear hS hs hM hh;go_enter Tryz.func103,Tryz.ntmps103;(go_upto_region 4 with (fail));obtain ⟨W0,hW0⟩ : ∃W0,W0=w.alloc (.cells #[.int .i64 k.kind,.string k.text,.int .i64 k.n] 23):=⟨_,rfl⟩;(have hB0:Below w.heap.size w W0:=by rw [hW0];exact (Zi2 _ _).alloc (Zi3 _) _);(have hbx:Blk W0 w.heap.size 23 #[.int .i64 k.kind,.string k.text,.int .i64 k.n]:=by rw [hW0];exact Blk.new _ _ _);have hz0:w.heap.size<W0.heap.size:=hbx.lt;rw [← hW0];clear hW0;have s1:=(hB0.cell (p:=⟨bm,0,none⟩) hml).trans s0;clear s0;obtain ⟨k0,k1,k2⟩:=hbx.c3;have HS0:=hid (HS.out.new_ hB0);have HM0:=hid (HM.out.new_ hB0);have HX0:=hid hbx;have HB0:=hid hB0;(have hml0:bm<W0.heap.size:=by omega);clear hB0 hbx HS HM
 go_cut [7,8] from 12 (fun p b wc=>b = .bool false∧Below W0.heap.size W0 wc∧∃g,p = .pointer (some ⟨g,0,none⟩)∧W0.heap.size≤g∧g<wc.heap.size∧wc.rangeAt g 0 [.int .i64 0,.string ⟨#[]⟩,.int .i64 0,.int .i64 0])
 case first=>
  refine Z1b (fun w9=>Below W0.heap.size W0 w9) [0,1,2,3,4,7,8,9,12] [3,4] (.fork [(0,0),(1,0),(2,0),(3,1),(4,1)] 5 (.fork [] 6 (.fin [(7,0),(8,0),(9,0),(10,2),(11,2),(12,0)]) 10 (.fin [(6,2),(7,0),(8,0),(9,0),(11,2),(12,0)])) 10 (.fin [(5,2),(6,2),(7,0),(8,0),(9,0),(11,2),(12,0)])) (by kernel_rfl) (by kernel_rfl) (by kernel_rfl) (fun KK hKK=>?_);simp only [wpPl,Z02,Zib,Zi5,Zi9,Zi8,Zi7,Zif];have HB:=hid (Zi2 W0.heap.size W0).drew;obtain ⟨V,hV⟩ : ∃V,V=W0.drew:=⟨_,rfl⟩;rw [← hV] at HB ⊢;clear hV
  repeat' (first
   | ((first | (refine Z0n ?_ (Or.inl ⟨by rfl,fun w9=>?_⟩) ?_;rotate_left 1;go_simp;with_reducible rfl) | (refine Z0p ?_ (HB.out) (Or.inl ⟨by rfl,fun w9 hw9=>?_⟩) ?_;rotate_left 1;obtain ⟨hc9,hf9⟩:=Z0e hw9;go_simp;with_reducible rfl) | refine Z0n undef (Or.inr ⟨by rfl,rfl⟩) ?_ | refine Z0p undef (HB.out) (Or.inr ⟨by rfl,rfl⟩) ?_);go_frame)
   | ((first | refine Z0s (fun K9 hK9=>?_) | refine Z0o rfl (fun K9 hK9=>?_));refine Z09 rfl 224 _ _ rfl g 0 #[.int .i64 0,.string ⟨#[]⟩,.int .i64 0,.int .i64 0] rfl rfl (show _ from HK.out.there) (by kernel_rfl) (by kernel_rfl) ?_;show K9 _ (V.setCells g 0 [.int .i64 0,.string ⟨#[]⟩,.int .i64 0,.int .i64 0]);have HR:=hid (Zi6 V g 0 [.int .i64 0,.string ⟨#[]⟩,.int .i64 0,.int .i64 0] (show _ from HK.out.there));have HB:=hid (Below.setCells' [.int .i64 0,.string ⟨#[]⟩,.int .i64 0,.int .i64 0] 0 HB.out HG.out);obtain ⟨V,hV⟩ : ∃V9,V9=V.setCells g 0 [.int .i64 0,.string ⟨#[]⟩,.int .i64 0,.int .i64 0]:=⟨_,rfl⟩;rw [← hV] at HR HB;rw [← hV];have HL:=hid (show g<V.heap.size from Ziy _ _ (HR.out 0 _ rfl));clear hV;(first | refine hK9 _ _ (HB.out) ?_ | refine hK9 _ _ (fun _=>HB.out) ?_);clear hK9 K9;(try go_frame);try simp only [Z02,Zi5])
   | ((first | refine Z0s (fun K9 hK9=>?_) | refine Z0o rfl (fun K9 hK9=>?_));go_simp;(first
     | (refine (Z7r k _).mono ?_;rintro e V ⟨rfl,hb⟩;have HB:=hid (HB.out.trans (hb.mono HB.out.size));(try have HK:=hid (HK.out.new_ hb));clear hb)
     | (refine (Z7d bp cc sn A m (zPgS k) _ (HS0.out.new_ (HB.out)) HO.out (by omega) HH.out).mono ?_;rintro e V ⟨rfl,hb⟩;have HB:=hid (HB.out.trans (hb.mono HB.out.size));(try have HK:=hid (HK.out.new_ hb));clear hb)
     | (obtain ⟨g,hg⟩ : ∃g,g=V.heap.size:=⟨_,rfl⟩;have hk:=Blk.new V 224 #[.int .i64 0,.string ⟨#[]⟩,.int .i64 0,.int .i64 0];have HG:=hid (show W0.heap.size≤g by rw [hg];exact HB.out.size);have HB:=hid (HB.out.alloc HB.out.size (.cells #[.int .i64 0,.string ⟨#[]⟩,.int .i64 0,.int .i64 0] 224));obtain ⟨V,hV⟩ : ∃V9,V9=V.alloc (.cells #[.int .i64 0,.string ⟨#[]⟩,.int .i64 0,.int .i64 0] 224):=⟨_,rfl⟩;rw [← hV,← hg] at hk;rw [← hV] at HB;have HK:=hid hk;rw [← hV,← hg];clear hV hk hg) | fail);(first | refine hK9 _ _ (HB.out) ?_ | refine hK9 _ _ (fun _=>HB.out) ?_);clear hK9 K9;(try go_frame);try simp only [Z02,Zi5])
   | (refine Z0f ⟨?_,?_⟩) | fail)
  all_goals
   refine Z0f ?_;simp only [Z00];refine hKK _ _ ?_;clear hKK KK;(go_wp2_with fail);go_meet
   case rel=>exact ⟨rfl,HB.out,g,rfl,HG.out,HL.out,HR.out⟩
 case rest=>
  obtain ⟨rfl,hB,g,rfl,hg,hgl,hr⟩:=hcut;have HB:=hid hB;have g1:wc.cell? ⟨g,3,none⟩=some (.int .i64 0):=hr 3 _ rfl;clear hB hr s1 k0 k1 k2;(go_wp2_with fail);go_ret2;exact ⟨rfl,HB0.out.trans (HB.out.mono (by omega))⟩
theorem Z8h (bm bp cc:Nat) (sn:Bool) (A:Option Addr) (m:List PgS) (k:Sym) (y:PgS) (w:World) (hM:Blk w bm 226 #[.pointer (some ⟨bp,0,none⟩)]) (hS:Z23 w bp sn A cc m) (hs:Srt Z0r m) (hl:(m.length:Int)≤1000000) (hh:has Z0r m (zPgS k)=true) (hy:m[rank Z0r m (zPgS k)]? = some y) :
 Calls Tryz.prog 103 #[.pointer (some ⟨bm,0,none⟩),.agg #[.int .i64 k.kind,.string k.text,.int .i64 k.n]] w fun e w'=>e = .returned (.tuple #[.int .i64 y.v,.bool true])∧Below w.heap.size w w':=by
 have s0:=hM.c1;have hml:=hM.lt;have HS:=hid hS;have HO:=hid hs;have HM:=hid hM;have HH:=hid hh;have HY:=hid hy;clear hy;clear hS hs hM hh;go_enter Tryz.func103,Tryz.ntmps103;(go_upto_region 4 with (fail));obtain ⟨W0,hW0⟩ : ∃W0,W0=w.alloc (.cells #[.int .i64 k.kind,.string k.text,.int .i64 k.n] 23):=⟨_,rfl⟩;(have hB0:Below w.heap.size w W0:=by rw [hW0];exact (Zi2 _ _).alloc (Zi3 _) _);(have hbx:Blk W0 w.heap.size 23 #[.int .i64 k.kind,.string k.text,.int .i64 k.n]:=by rw [hW0];exact Blk.new _ _ _);have hz0:w.heap.size<W0.heap.size:=hbx.lt;rw [← hW0];clear hW0;have s1:=(hB0.cell (p:=⟨bm,0,none⟩) hml).trans s0;clear s0;obtain ⟨k0,k1,k2⟩:=hbx.c3;have HS0:=hid (HS.out.new_ hB0);have HM0:=hid (HM.out.new_ hB0);have HX0:=hid hbx;have HB0:=hid hB0;(have hml0:bm<W0.heap.size:=by omega);clear hB0 hbx HS HM
 go_cut [7,8] from 12 (fun p b wc=>b = .bool true∧Below W0.heap.size W0 wc∧∃g,p = .pointer (some ⟨g,0,none⟩)∧W0.heap.size≤g∧g<wc.heap.size∧wc.rangeAt g 0 [.int .i64 y.kk.kind,.string y.kk.text,.int .i64 y.kk.n,.int .i64 y.v])
 case first=>
  refine Z1b (fun w9=>Below W0.heap.size W0 w9) [0,1,2,3,4,7,8,9,12] [3,4] (.fork [(0,0),(1,0),(2,0),(3,1),(4,1)] 5 (.fork [] 6 (.fin [(7,0),(8,0),(9,0),(10,2),(11,2),(12,0)]) 10 (.fin [(6,2),(7,0),(8,0),(9,0),(11,2),(12,0)])) 10 (.fin [(5,2),(6,2),(7,0),(8,0),(9,0),(11,2),(12,0)])) (by kernel_rfl) (by kernel_rfl) (by kernel_rfl) (fun KK hKK=>?_);simp only [wpPl,Z02,Zib,Zi5,Zi9,Zi8,Zi7,Zif];have HB:=hid (Zi2 W0.heap.size W0).drew;obtain ⟨V,hV⟩ : ∃V,V=W0.drew:=⟨_,rfl⟩;rw [← hV] at HB ⊢;clear hV
  repeat' (first
   | ((first | (refine Z0n ?_ (Or.inl ⟨by rfl,fun w9=>?_⟩) ?_;rotate_left 1;go_simp;with_reducible rfl) | (refine Z0p ?_ (HB.out) (Or.inl ⟨by rfl,fun w9 hw9=>?_⟩) ?_;rotate_left 1;obtain ⟨hc9,hf9⟩:=Z0e hw9;go_simp;with_reducible rfl) | refine Z0n undef (Or.inr ⟨by rfl,rfl⟩) ?_ | refine Z0p undef (HB.out) (Or.inr ⟨by rfl,rfl⟩) ?_);go_frame)
   | ((first | refine Z0s (fun K9 hK9=>?_) | refine Z0o rfl (fun K9 hK9=>?_));refine Z09 rfl 224 _ _ rfl g 0 #[.int .i64 y.kk.kind,.string y.kk.text,.int .i64 y.kk.n,.int .i64 y.v] rfl rfl (show _ from HK.out.there) (by kernel_rfl) (by kernel_rfl) ?_;show K9 _ (V.setCells g 0 [.int .i64 y.kk.kind,.string y.kk.text,.int .i64 y.kk.n,.int .i64 y.v]);have HR:=hid (Zi6 V g 0 [.int .i64 y.kk.kind,.string y.kk.text,.int .i64 y.kk.n,.int .i64 y.v] (show _ from HK.out.there));have HB:=hid (Below.setCells' [.int .i64 y.kk.kind,.string y.kk.text,.int .i64 y.kk.n,.int .i64 y.v] 0 HB.out HG.out);obtain ⟨V,hV⟩ : ∃V9,V9=V.setCells g 0 [.int .i64 y.kk.kind,.string y.kk.text,.int .i64 y.kk.n,.int .i64 y.v]:=⟨_,rfl⟩;rw [← hV] at HR HB;rw [← hV];have HL:=hid (show g<V.heap.size from Ziy _ _ (HR.out 0 _ rfl));clear hV;(first | refine hK9 _ _ (HB.out) ?_ | refine hK9 _ _ (fun _=>HB.out) ?_);clear hK9 K9;(try go_frame);try simp only [Z02,Zi5])
   | ((first | refine Z0s (fun K9 hK9=>?_) | refine Z0o rfl (fun K9 hK9=>?_));go_simp;(first
     | (refine (Z7r k _).mono ?_;rintro e V ⟨rfl,hb⟩;have HB:=hid (HB.out.trans (hb.mono HB.out.size));(try have HK:=hid (HK.out.new_ hb));clear hb)
     | (refine (Zbu bp cc sn A m (zPgS k) y _ (HS0.out.new_ (HB.out)) HO.out (by omega) HH.out HY.out).mono ?_;rintro e V ⟨rfl,hb⟩;have HB:=hid (HB.out.trans (hb.mono HB.out.size));(try have HK:=hid (HK.out.new_ hb));clear hb)
     | (obtain ⟨g,hg⟩ : ∃g,g=V.heap.size:=⟨_,rfl⟩;have hk:=Blk.new V 224 #[.int .i64 0,.string ⟨#[]⟩,.int .i64 0,.int .i64 0];have HG:=hid (show W0.heap.size≤g by rw [hg];exact HB.out.size);have HB:=hid (HB.out.alloc HB.out.size (.cells #[.int .i64 0,.string ⟨#[]⟩,.int .i64 0,.int .i64 0] 224));obtain ⟨V,hV⟩ : ∃V9,V9=V.alloc (.cells #[.int .i64 0,.string ⟨#[]⟩,.int .i64 0,.int .i64 0] 224):=⟨_,rfl⟩;rw [← hV,← hg] at hk;rw [← hV] at HB;have HK:=hid hk;rw [← hV,← hg];clear hV hk hg) | fail);(first | refine hK9 _ _ (HB.out) ?_ | refine hK9 _ _ (fun _=>HB.out) ?_);clear hK9 K9;(try go_frame);try simp only [Z02,Zi5])
   | (refine Z0f ⟨?_,?_⟩) | fail)
  all_goals
   refine Z0f ?_;simp only [Z00];refine hKK _ _ ?_;clear hKK KK;(go_wp2_with fail);go_meet
   case rel=>exact ⟨rfl,HB.out,g,rfl,HG.out,HL.out,HR.out⟩
 case rest=>
  obtain ⟨rfl,hB,g,rfl,hg,hgl,hr⟩:=hcut;have HB:=hid hB;have g1:wc.cell? ⟨g,3,none⟩=some (.int .i64 y.v):=hr 3 _ rfl;clear hB hr s1 k0 k1 k2;(go_wp2_with fail);go_ret2;exact ⟨rfl,HB0.out.trans (HB.out.mono (by omega))⟩
theorem Z5e.of_PgS {a b:World} (h:Below a.heap.size a b) {sn sn':Bool} {A A':Option Addr} (hm:Z5e b sn A sn' A'):Z5e a sn A sn' A':=
 hm.imp id (fun ⟨h1,g,h2,h3⟩=>⟨h1,g,by have:=h.size;omega,h3⟩)
theorem Zcp (bm bp cc:Nat) (sn:Bool) (A:Option Addr) (m:List PgS) (k:Sym) (xv:Int) (w:World) (hM:Blk w bm 226 #[.pointer (some ⟨bp,0,none⟩)]) (hS:Z23 w bp sn A cc m) (hs:Srt Z0r m) (hl:(m.length:Int)≤1000000) (hh:has Z0r m (zPgS k)=false) :
 Calls Tryz.prog 145 #[.pointer (some ⟨bm,0,none⟩),.agg #[.int .i64 k.kind,.string k.text,.int .i64 k.n],.int .i64 xv] w fun e w'=>e = .returned (.bool true)∧∃sn' A' c',Z23 w' bp sn' A' c' (put Z0r m ⟨k,xv⟩)∧Fr (Z2i bp sn A) w w'∧Z5e w sn A sn' A':=by
 have hh0:has Z0r m ⟨k,xv⟩=false:=hh;have s0:=hM.c1;have hml:=hM.lt;have HS:=hid hS;have HO:=hid hs;have HM:=hid hM;have HH:=hid hh;have HH0:=hid hh0;clear hS hs hM hh hh0;go_enter Tryz.func145,Tryz.ntmps145;(go_upto_region 3 with (fail));obtain ⟨W0,hW0⟩ : ∃W0,W0=w.alloc (.cells #[.int .i64 k.kind,.string k.text,.int .i64 k.n] 23):=⟨_,rfl⟩;(have hB0:Below w.heap.size w W0:=by rw [hW0];exact (Zi2 _ _).alloc (Zi3 _) _);(have hbx:Blk W0 w.heap.size 23 #[.int .i64 k.kind,.string k.text,.int .i64 k.n]:=by rw [hW0];exact Blk.new _ _ _);have hz0:w.heap.size<W0.heap.size:=hbx.lt;rw [← hW0];clear hW0;have s1:=(hB0.cell (p:=⟨bm,0,none⟩) hml).trans s0;clear s0;obtain ⟨k0,k1,k2⟩:=hbx.c3;have HS0:=hid (HS.out.new_ hB0);have HM0:=hid (HM.out.new_ hB0);have HX0:=hid hbx;have HB0:=hid hB0;(have hml0:bm<W0.heap.size:=by omega);clear hB0 hbx HS HM
 go_cut [8] from 11 (fun b wc=>b = .bool false∧Below W0.heap.size W0 wc)
 case first=>
  refine Z1b (fun w9=>Below W0.heap.size W0 w9) [0,1,2,3,4,7,8,9,12] [3,4] (.fork [(0,0),(1,0),(2,0),(3,1),(4,1)] 5 (.fork [] 6 (.fin [(7,0),(8,0),(9,0),(10,2),(11,2),(12,0)]) 10 (.fin [(6,2),(7,0),(8,0),(9,0),(11,2),(12,0)])) 10 (.fin [(5,2),(6,2),(7,0),(8,0),(9,0),(11,2),(12,0)])) (by kernel_rfl) (by kernel_rfl) (by kernel_rfl) (fun KK hKK=>?_);simp only [wpPl,Z02,Zib,Zi5,Zi9,Zi8,Zi7,Zif];have HB:=hid (Zi2 W0.heap.size W0).drew;obtain ⟨V,hV⟩ : ∃V,V=W0.drew:=⟨_,rfl⟩;rw [← hV] at HB ⊢;clear hV
  repeat' (first
   | ((first | (refine Z0n ?_ (Or.inl ⟨by rfl,fun w9=>?_⟩) ?_;rotate_left 1;go_simp;with_reducible rfl) | (refine Z0p ?_ (HB.out) (Or.inl ⟨by rfl,fun w9 hw9=>?_⟩) ?_;rotate_left 1;obtain ⟨hc9,hf9⟩:=Z0e hw9;go_simp;with_reducible rfl) | refine Z0n undef (Or.inr ⟨by rfl,rfl⟩) ?_ | refine Z0p undef (HB.out) (Or.inr ⟨by rfl,rfl⟩) ?_);go_frame)
   | ((first | refine Z0s (fun K9 hK9=>?_) | refine Z0o rfl (fun K9 hK9=>?_));refine Z09 rfl 224 _ _ rfl g 0 #[.int .i64 0,.string ⟨#[]⟩,.int .i64 0,.int .i64 0] rfl rfl (show _ from HK.out.there) (by kernel_rfl) (by kernel_rfl) ?_;show K9 _ (V.setCells g 0 [.int .i64 0,.string ⟨#[]⟩,.int .i64 0,.int .i64 0]);have HR:=hid (Zi6 V g 0 [.int .i64 0,.string ⟨#[]⟩,.int .i64 0,.int .i64 0] (show _ from HK.out.there));have HB:=hid (Below.setCells' [.int .i64 0,.string ⟨#[]⟩,.int .i64 0,.int .i64 0] 0 HB.out HG.out);obtain ⟨V,hV⟩ : ∃V9,V9=V.setCells g 0 [.int .i64 0,.string ⟨#[]⟩,.int .i64 0,.int .i64 0]:=⟨_,rfl⟩;rw [← hV] at HR HB;rw [← hV];have HL:=hid (show g<V.heap.size from Ziy _ _ (HR.out 0 _ rfl));clear hV;(first | refine hK9 _ _ (HB.out) ?_ | refine hK9 _ _ (fun _=>HB.out) ?_);clear hK9 K9;(try go_frame);try simp only [Z02,Zi5])
   | ((first | refine Z0s (fun K9 hK9=>?_) | refine Z0o rfl (fun K9 hK9=>?_));go_simp;(first
     | (refine (Z7r k _).mono ?_;rintro e V ⟨rfl,hb⟩;have HB:=hid (HB.out.trans (hb.mono HB.out.size));(try have HK:=hid (HK.out.new_ hb));clear hb)
     | (refine (Z7d bp cc sn A m (zPgS k) _ (HS0.out.new_ (HB.out)) HO.out (by omega) HH.out).mono ?_;rintro e V ⟨rfl,hb⟩;have HB:=hid (HB.out.trans (hb.mono HB.out.size));(try have HK:=hid (HK.out.new_ hb));clear hb)
     | (obtain ⟨g,hg⟩ : ∃g,g=V.heap.size:=⟨_,rfl⟩;have hk:=Blk.new V 224 #[.int .i64 0,.string ⟨#[]⟩,.int .i64 0,.int .i64 0];have HG:=hid (show W0.heap.size≤g by rw [hg];exact HB.out.size);have HB:=hid (HB.out.alloc HB.out.size (.cells #[.int .i64 0,.string ⟨#[]⟩,.int .i64 0,.int .i64 0] 224));obtain ⟨V,hV⟩ : ∃V9,V9=V.alloc (.cells #[.int .i64 0,.string ⟨#[]⟩,.int .i64 0,.int .i64 0] 224):=⟨_,rfl⟩;rw [← hV,← hg] at hk;rw [← hV] at HB;have HK:=hid hk;rw [← hV,← hg];clear hV hk hg) | fail);(first | refine hK9 _ _ (HB.out) ?_ | refine hK9 _ _ (fun _=>HB.out) ?_);clear hK9 K9;(try go_frame);try simp only [Z02,Zi5])
   | (refine Z0f ⟨?_,?_⟩) | fail)
  all_goals
   refine Z0f ?_;simp only [Z00];refine hKK _ _ ?_;clear hKK KK;(go_wp2_with fail);go_meet
   case rel=>exact ⟨rfl,HB.out⟩
 case rest=>
  obtain ⟨rfl,hB⟩:=hcut;have r0:=(HM0.out.new_ hB).c1;have hX:=HX0.out.new_ hB;have hml2:=(HM0.out.new_ hB).lt;have hxl2:=hX.lt;have HB:=hid hB;have HS2:=hid (HS0.out.new_ hB);clear s1 k0 k1 k2;obtain ⟨k0,k1,k2⟩:=hX.c3;clear hB hX;(go_wp2_with fail);refine Z05 (fun w9=>Below wc.heap.size wc w9) [(0,0),(1,0),(2,0),(3,1),(4,1),(5,0),(6,0),(7,2),(8,0)] (by kernel_rfl) (by kernel_rfl) (fun KK hKK=>?_);simp only [Z02,Zib,Zi5,Zi9,Zi8,Zi7,Zif];(repeat ((first | (refine Z0a ?_ (Or.inl ⟨by rfl,fun w9=>?_⟩) ?_;rotate_left 1;go_simp;with_reducible rfl) | (refine Z06 ?_ (((Zi2 _ _).drew)) (Or.inl ⟨by rfl,fun w9 hw9=>?_⟩) ?_;rotate_left 1;obtain ⟨hc9,hf9⟩:=Z0e hw9;go_simp;with_reducible rfl) | refine Z0a undef (Or.inr ⟨by rfl,rfl⟩) ?_ | refine Z06 undef (((Zi2 _ _).drew)) (Or.inr ⟨by rfl,rfl⟩) ?_);go_frame));refine Z2p (by kernel_rfl) (fun K9 hK9=>?_);go_simp;refine (Ze3 bp cc sn A m ⟨k,xv⟩ _ (HS2.out.new_ ((Zi2 _ _).drew)) HO.out (by omega)).mono ?_;rintro e w5 ⟨rfl,hch⟩;have HP:=hid hch;clear hch;refine hK9 _ _ ?_;clear hK9 K9;(repeat ((first | (refine Z0a ?_ (Or.inl ⟨by rfl,fun w9=>?_⟩) ?_;rotate_left 1;go_simp;with_reducible rfl) | (refine Z06 ?_ (((Zi2 _ _).drew)) (Or.inl ⟨by rfl,fun w9 hw9=>?_⟩) ?_;rotate_left 1;obtain ⟨hc9,hf9⟩:=Z0e hw9;go_simp;with_reducible rfl) | refine Z0a undef (Or.inr ⟨by rfl,rfl⟩) ?_ | refine Z06 undef (((Zi2 _ _).drew)) (Or.inr ⟨by rfl,rfl⟩) ?_);go_frame));refine Z0z ?_;simp only [Z00];refine hKK _ _ ?_;clear hKK KK;(go_wp2_with fail);go_ret;have hBB:Below w.heap.size w wc:=HB0.out.trans (HB.out.mono (by omega));obtain ⟨sn',A',c',g1,g2,g3⟩:=HP.out;refine ⟨by rw [HH0.out]<;>rfl,sn',A',c',g1,(Fr.of_new hBB).trans ((Fr.refl _ wc).drew.trans g2),Z5e.of_PgS hBB g3⟩
end
section
open Go.RowKit Go.Shelf
attribute [local go_sem] Oper.semAt_some
theorem Z96 : ∀{ns:List Sym},ns.Nodup→∀{i:Nat} {s:Sym},ns[i]? = some s→plV ns s=i+1
 | [],_,i,s,h=>by simp at h
 | x :: l,hn,0,s,h=>by rw [plV,if_pos (by simpa using h)]
 | x :: l,hn,i+1,s,h=>by
   obtain ⟨h1,h2⟩:=List.nodup_cons.1 hn;(have e2:l[i]? = some s:=by simpa using h);have hne:x≠s:=fun e=>h1 (by rw [e];exact List.mem_of_getElem? e2);have ih:=Z96 h2 e2;rw [plV,if_neg hne,ih,if_neg (by omega)]
structure MapN (mm:List PgS) (ns:List Sym):Prop where
 srt:Srt Z0r mm
 len:mm.length=ns.length
 nodup:ns.Nodup
 mem : ∀y,y∈mm↔∃i:Nat,ns[i]? = some y.kk∧y.v=(i:Int)+1
theorem MapN.nil:MapN [] []:=⟨Srt.nil,rfl,.nil,fun y=>by simp⟩
theorem MapN.has {mm:List PgS} {ns:List Sym} (h:MapN mm ns) (s:Sym) (z:Int):has Z0r mm ⟨s,z⟩=decide (s∈ns):=by
 by_cases hv:s∈ns
 · rw [Zie hv,Za2]
   obtain ⟨i,hi,e⟩:=List.getElem_of_mem hv;exact ⟨⟨s,(i:Int)+1⟩,(h.mem _).2 ⟨i,by rw [Zic hi,e],rfl⟩,Z6c.2 rfl⟩
 · rw [Zi4 hv,Z6h]
   intro y hy e;obtain ⟨i,hi,_⟩:=(h.mem y).1 hy;have e3:y.kk=s:=Z6c.1 e;exact hv (by rw [← e3];exact List.mem_of_getElem? hi)
theorem MapN.get {mm:List PgS} {ns:List Sym} (h:MapN mm ns) {s:Sym} {z:Int} (hv:s∈ns) : ∃y,mm[rank Z0r mm ⟨s,z⟩]? = some y∧y.v=(plV ns s:Int):=by
 (have hh:Go.Proofs.YtldndkngpdfpfaaGreat.has Z0r mm ⟨s,z⟩=true:=by rw [h.has,Zie hv]);obtain ⟨_,_,hk,e⟩:=Zh0 Z3e h.srt hh;refine ⟨_,Zic hk,?_⟩;obtain ⟨i,hi,e2⟩:=(h.mem _).1 (Zin hk);have e3:_=s:=Z6c.1 e;rw [e3] at hi;rw [e2,Z96 h.nodup hi];omega
theorem MapN.put {mm:List PgS} {ns:List Sym} (h:MapN mm ns) {s:Sym} (hv : ¬s∈ns):MapN (put Z0r mm ⟨s,(ns.length:Int)+1⟩) (ns ++ [s]):=by
 (have hh:Go.Proofs.YtldndkngpdfpfaaGreat.has Z0r mm ⟨s,(ns.length:Int)+1⟩=false:=by rw [h.has,Zi4 hv]);refine ⟨h.srt.put Z3e _,by rw [Z4h Z3e h.srt hh,h.len];simp,List.nodup_append.2 ⟨h.nodup,by simp,fun a ha b hb=>by rw [Zit.1 hb];exact fun e=>hv (e ▸ ha)⟩,fun y=>?_⟩
 have hm:y∈Go.Proofs.YtldndkngpdfpfaaGreat.put Z0r mm ⟨s,(ns.length:Int)+1⟩↔y=⟨s,(ns.length:Int)+1⟩∨y∈mm:=by
  rw [Zb8 Z3e h.srt hh,Zj0,Zij];constructor
  · rintro (g | g | g)
    · exact .inr (List.mem_of_mem_take g)
    · exact .inl g
    · exact .inr (List.mem_of_mem_drop g)
  · rintro (g | g)
    · exact .inr (.inl g)
    · rw [← List.take_append_drop (rank Z0r mm ⟨s,(ns.length:Int)+1⟩) mm,Zj0] at g
      exact g.elim .inl (fun g=>.inr (.inr g))
 rw [hm,h.mem y];constructor
 · rintro (e | ⟨i,hi,e⟩)
   · subst e
     exact ⟨ns.length,by simp,rfl⟩
   · have hl:i<ns.length:=(Zig.1 hi).1
     exact ⟨i,by rw [Ziz hl];exact hi,e⟩
 · rintro ⟨i,hi,e⟩
   by_cases hl:i<ns.length
   · exact .inr ⟨i,by rwa [Ziz hl] at hi,e⟩
   · have hi2:i=ns.length:=by
      have:=(Zig.1 hi).1;simp at this;omega
     subst hi2;rw [Zj3 (Zi3 _)] at hi;simp at hi;obtain ⟨yk,yv⟩:=y;simp only at hi e;subst hi;subst e;exact .inl rfl
theorem Z1m {w:World} {b1 b2:Nat} {e1 e2:TypeId} {s1 s2 n m k:Nat} {v u:Value} {xs ys:List Value} (h1:w.ownsRow b1 e1 s1 v n xs) (h2:w.ownsRow b2 e2 s2 u m ys) (hne:e1≠e2) (hk:v.ownBlock=some k):u.ownBlock≠some k:=by
 rcases h2.2 with ⟨rfl,_⟩ | ⟨g,cap,cur,rfl,_,hg,_⟩
 · simp [Value.ownBlock]
 · intro e
   (have:g=k:=by simpa [Value.ownBlock] using e);subst this;exact Z04 h1 (show Blk w g e2 cur from hg) hne hk
structure NM (D:Nat→Prop) (w:World) (nb:Nat) (ns:List Sym) (bm bp:Nat) (sn:Bool) (A:Option Addr) (cc:Nat) (mm:List PgS) (L:Option Addr) (cl:Nat):Prop where
 blk:Blk w nb 148 #[.pointer (some ⟨bm,0,none⟩),.slice L ns.length cl]
 map:Blk w bm 226 #[.pointer (some ⟨bp,0,none⟩)]
 set:Z23 w bp sn A cc mm
 ok:MapN mm ns
 row:w.ownsRow 0 23 3 (.slice L ns.length cl) ns.length (ns.flatMap Sym.cells)
 dn:D nb
 dm:D bm
 dp:D bp
 da:AIn A D
 dl:AIn L D
 lt : ∀k,D k→k<w.heap.size
def Nm (D:Nat→Prop) (w:World) (nb:Nat) (ns:List Sym):Prop:=∃bm bp sn A cc mm L cl,NM D w nb ns bm bp sn A cc mm L cl
section
variable {D:Nat→Prop} {w w':World} {nb:Nat} {ns:List Sym} {bm bp:Nat} {sn:Bool} {A:Option Addr} {cc:Nat} {mm:List PgS} {L:Option Addr} {cl:Nat}
theorem NM.new_ (h:NM D w nb ns bm bp sn A cc mm L cl) (hb:Below w.heap.size w w'):NM D w' nb ns bm bp sn A cc mm L cl:=
 ⟨h.blk.new_ hb,h.map.new_ hb,h.set.new_ hb,h.ok,Z01 h.row hb,h.dn,h.dm,h.dp,h.da,h.dl,fun k hk=>Zia (h.lt k hk) hb.size⟩
theorem Nm.new_ (h:Nm D w nb ns) (hb:Below w.heap.size w w'):Nm D w' nb ns:=by
 obtain ⟨bm,bp,sn,A,cc,mm,L,cl,h⟩:=h;exact ⟨bm,bp,sn,A,cc,mm,L,cl,h.new_ hb⟩
theorem NM.fr {M:Nat→Prop} (h:NM D w nb ns bm bp sn A cc mm L cl) (hF:Fr M w w') (hM : ∀k,D k→¬M k):NM D w' nb ns bm bp sn A cc mm L cl:=by
 refine ⟨h.blk.fr hF (hM _ h.dn),h.map.fr hF (hM _ h.dm),h.set.fr hF (hM _ h.dp) (h.da.mono hM),h.ok,⟨h.row.1,h.row.2.imp id fun ⟨g,cap,cur,hv,h0,hg,hr⟩=>⟨g,cap,cur,hv,h0,?_,hr⟩⟩,h.dn,h.dm,h.dp,h.da,h.dl,fun k hk=>Zia (h.lt k hk) hF.size⟩;injection hv with hv;exact Blk.fr (t:=23) hg hF (hM _ (h.dl ⟨g,0,none⟩ hv))
theorem Nm.fr {M:Nat→Prop} (h:Nm D w nb ns) (hF:Fr M w w') (hM : ∀k,D k→¬M k):Nm D w' nb ns:=by
 obtain ⟨bm,bp,sn,A,cc,mm,L,cl,h⟩:=h;exact ⟨bm,bp,sn,A,cc,mm,L,cl,h.fr hF hM⟩
theorem Nm.lt (h:Nm D w nb ns) : ∀k,D k→k<w.heap.size:=by
 obtain ⟨bm,bp,sn,A,cc,mm,L,cl,h⟩:=h;exact h.lt
end
theorem Zfn {mm:List PgS} {ns:List Sym} {bm bp cc:Nat} {sn:Bool} {A:Option Addr} (s:Sym) (w:World) (h1:Blk w bm 226 #[.pointer (some ⟨bp,0,none⟩)]) (h2:Z23 w bp sn A cc mm) (h3:MapN mm ns) (hl:ns.length≤1000000) :
 Calls Tryz.prog 103 #[.pointer (some ⟨bm,0,none⟩),.agg #[.int .i64 s.kind,.string s.text,.int .i64 s.n]] w fun e w'=>e = .returned (.tuple #[.int .i64 (plV ns s:Int),.bool (decide (s∈ns))])∧Below w.heap.size w w':=by
 (have hlm:(mm.length:Int)≤1000000:=by rw [h3.len];omega);by_cases hv:s∈ns
 · obtain ⟨y,g1,g2⟩:=h3.get (z:=0) hv
   have:=Z8h bm bp cc sn A mm s y w h1 h2 h3.srt hlm (by rw [h3.has,Zie hv]) g1;rw [g2] at this;rw [Zie hv];exact this
 · have:=Z8i bm bp cc sn A mm s w h1 h2 h3.srt hlm (by rw [h3.has,Zi4 hv])
   rw [Zi4 hv,Z3d.2 hv];exact this
theorem Z2m {D:Nat→Prop} {nb:Nat} {ns:List Sym} (s:Sym) (w:World) (h:Nm D w nb ns) (hl:ns.length≤100000):Calls Tryz.prog 62 #[.pointer (some ⟨nb,0,none⟩),.agg #[.int .i64 s.kind,.string s.text,.int .i64 s.n]] w fun e w'=>e = .returned (.int .i64 (plV ns s:Int))∧Below w.heap.size w w':=by
 obtain ⟨bm,bp,sn,A,cc,mm,L,cl,h⟩:=h;have HG:=hid (show ∀W,Below w.heap.size w W→_ from fun W hW=>Zfn s W (h.map.new_ hW) (h.set.new_ hW) h.ok (by omega));have m0:=(h.blk.cell 0).trans rfl;have mz:=h.blk.lt;obtain ⟨r,hr⟩ : ∃r,r=(plV ns s:Int):=⟨_,rfl⟩;obtain ⟨b,hb0⟩ : ∃b,b=decide (s∈ns):=⟨_,rfl⟩;rw [← hr,← hb0] at HG;rw [← hr];clear h hr hb0 hl;go_enter Tryz.func62,Tryz.ntmps62;(go_upto_region 1 with fail);obtain ⟨w1,hw1⟩ : ∃w1,w1=w.alloc (.cells #[.int .i64 s.kind,.string s.text,.int .i64 s.n] 23):=⟨_,rfl⟩;have HB:=hid (show Below w.heap.size w w1 by rw [hw1];exact (Zi2 _ _).alloc (Zi3 _) _);(have hk:=show Blk w1 w.heap.size 23 #[.int .i64 s.kind,.string s.text,.int .i64 s.n] by rw [hw1];exact Blk.new _ _ _);rw [← hw1];clear hw1;obtain ⟨k0,k1,k2⟩:=hk.c3;have kz:=hk.lt;have m1:=(HB.out.cell (p:=⟨nb,0,none⟩) mz).trans m0;have mz1:=Zia mz HB.out.size;clear hk m0;refine Z05 (fun w9=>Below w1.heap.size w1 w9) [(0,0),(1,0),(2,0),(3,1),(4,1),(5,2),(6,0),(7,0),(8,0),(9,0),(10,0)] (by kernel_rfl) (by kernel_rfl) (fun KK hKK=>?_);simp only [Z02,Zib,Zi5,Zi9,Zi8,Zi7,Zif];(repeat ((first | (refine Z0a ?_ (Or.inl ⟨by rfl,fun w9=>?_⟩) ?_;rotate_left 1;go_simp;with_reducible rfl) | (refine Z06 ?_ (((Zi2 _ _).drew)) (Or.inl ⟨by rfl,fun w9 hw9=>?_⟩) ?_;rotate_left 1;obtain ⟨hc9,hf9⟩:=Z0e hw9;go_simp;with_reducible rfl) | refine Z0a undef (Or.inr ⟨by rfl,rfl⟩) ?_ | refine Z06 undef (((Zi2 _ _).drew)) (Or.inr ⟨by rfl,rfl⟩) ?_);go_frame));refine Z2p (by kernel_rfl) (fun K9 hK9=>?_);go_simp;refine (HG.out _ (HB.out.trans (((Zi2 w1.heap.size w1).drew).mono HB.out.size))).mono ?_;rintro e w31 ⟨rfl,hb31⟩;have HB31:=hid (((Zi2 w1.heap.size w1).drew).trans (hb31.mono (by simp)));clear hb31;refine hK9 _ _ ?_;clear hK9 K9;(repeat ((first | (refine Z0a ?_ (Or.inl ⟨by rfl,fun w9=>?_⟩) ?_;rotate_left 1;go_simp;with_reducible rfl) | (refine Z06 ?_ (((Zi2 _ _).drew)) (Or.inl ⟨by rfl,fun w9 hw9=>?_⟩) ?_;rotate_left 1;obtain ⟨hc9,hf9⟩:=Z0e hw9;go_simp;with_reducible rfl) | refine Z0a undef (Or.inr ⟨by rfl,rfl⟩) ?_ | refine Z06 undef (((Zi2 _ _).drew)) (Or.inr ⟨by rfl,rfl⟩) ?_);go_frame));refine Z0z ?_;simp only [Z00];refine hKK _ _ ?_;clear hKK KK;clear k0 k1 k2 m1;(go_wp2_with fail);go_ret;exact ⟨rfl,HB.out.trans (HB31.out.mono HB.out.size)⟩
theorem Z89 (a b:Int) (w:World):Calls Tryz.prog 141 #[.int .i64 a,.int .i64 b] w fun e w'=>e = .returned (.int .i64 (Z12 a b))∧w=w':=by
 go_enter Tryz.func141,Tryz.ntmps141;go_wp2
 all_goals (go_ret;refine ⟨?_,rfl⟩;unfold Z12;(repeat' split)<;>first | rfl | (exfalso;omega))
theorem Zfv {D:Nat→Prop} {nb:Nat} {ns:List Sym} (s:Sym) (w:World) (h:Nm D w nb ns) (hl:ns.length≤100000):Calls Tryz.prog 144 #[.pointer (some ⟨nb,0,none⟩),.agg #[.int .i64 s.kind,.string s.text,.int .i64 s.n]] w fun e w'=>e = .returned (.int .i64 (rkN ns s))∧Below w.heap.size w w':=by
 have HP:=hid (fun W (hW:Below w.heap.size w W)=>Z2m s W (h.new_ hW) hl);have HA:=hid ((Zi2 w.heap.size w).alloc (Zi3 _) (.cells #[.int .i64 s.kind,.string s.text,.int .i64 s.n] 23));clear h hl;by_cases hk:s.kind=1
 · have HR:=hid (show rkN ns s=if plV ns s=0 then 2 else 1 by rw [rkN,if_neg (by omega)])
   (have e1:(s.kind != 1)=false:=by simp [hk]);by_cases hp:plV ns s=0
   · have HR:=hid (show rkN ns s=2 by rw [HR.out,if_pos hp])
     rw [hp] at HP;clear hk hp;go_enter Tryz.func144,Tryz.ntmps144;(go_wp2_with fail);refine (HP.out _ HA.out).mono ?_;rintro e w2 ⟨rfl,hb⟩;have HB:=hid (HA.out.trans (hb.mono (by simp)));clear hb;(go_wp2_with fail);go_ret;exact ⟨by rw [HR.out]<;>rfl,HB.out⟩
   · have HR:=hid (show rkN ns s=1 by rw [HR.out,if_neg hp])
     obtain ⟨r,hr⟩ : ∃r,r=plV ns s:=⟨_,rfl⟩;rw [← hr] at HP;(have r1:(0:Int)<(r:Int):=by omega);(have r2:0<r:=by omega);clear hk hp hr;go_enter Tryz.func144,Tryz.ntmps144;(go_wp2_with fail);refine (HP.out _ HA.out).mono ?_;rintro e w2 ⟨rfl,hb⟩;have HB:=hid (HA.out.trans (hb.mono (by simp)));clear hb;(go_wp2_with fail);go_ret;exact ⟨by rw [HR.out]<;>rfl,HB.out⟩
 · have HR:=hid (show rkN ns s=0 by rw [rkN,if_pos hk])
   (have e1:(s.kind != 1)=true:=by simp [hk]);clear hk;go_enter Tryz.func144,Tryz.ntmps144;(go_wp2_with fail);go_ret;exact ⟨by rw [HR.out]<;>rfl,HA.out⟩
theorem Zhq {D:Nat→Prop} {nb:Nat} {ns:List Sym} (s:Sym) (w:World) (h:Nm D w nb ns) (hl:ns.length≤100000):Calls Tryz.prog 142 #[.pointer (some ⟨nb,0,none⟩),.agg #[.int .i64 s.kind,.string s.text,.int .i64 s.n]] w fun e w'=>e = .returned (.int .i64 (idN ns s))∧Below w.heap.size w w':=by
 have HP:=hid (fun W (hW:Below w.heap.size w W)=>Z2m s W (h.new_ hW) hl);have HA:=hid ((Zi2 w.heap.size w).alloc (Zi3 _) (.cells #[.int .i64 s.kind,.string s.text,.int .i64 s.n] 23));by_cases hp:plV ns s=0
 · have HR:=hid (show idN ns s=(ns.length:Int)+1 by rw [idN,if_pos hp])
   obtain ⟨bm,bp,sn,A,cc,mm,L,cl,h⟩:=h;have HN:=hid h.blk;have v1:IntKind.i64.wrap ((ns.length:Int)+1)=(ns.length:Int)+1:=Zih _ (by omega);rw [hp] at HP;clear hp h;go_enter Tryz.func142,Tryz.ntmps142;(go_wp2_with fail);refine (HP.out _ HA.out).mono ?_;rintro e w2 ⟨rfl,hb⟩;have HB:=hid (HA.out.trans (hb.mono (by simp)));have hn:=HN.out.new_ HB.out;have n1:=(hn.cell 1).trans rfl;have nz:=hn.lt;clear hb hn;(go_wp2_with fail);go_ret;exact ⟨by rw [HR.out]<;>rfl,HB.out⟩
 · have HR:=hid (show idN ns s=(plV ns s:Int) by rw [idN,if_neg hp])
   obtain ⟨r,hr⟩ : ∃r,r=plV ns s:=⟨_,rfl⟩;rw [← hr] at HP HR;(have r1:(0:Int)<(r:Int):=by omega);(have r2:0<r:=by omega);clear hp hr h;go_enter Tryz.func142,Tryz.ntmps142;(go_wp2_with fail);refine (HP.out _ HA.out).mono ?_;rintro e w2 ⟨rfl,hb⟩;have HB:=hid (HA.out.trans (hb.mono (by simp)));clear hb;(go_wp2_with fail);go_ret;exact ⟨by rw [HR.out]<;>rfl,HB.out⟩
end
section
open Go.RowKit
inductive Z3l {α β:Type} (R:α→β→Prop):List α→List β→Prop
 | nil:Z3l R [] []
 | cons {a:α} {b:β} {l:List α} {m:List β}:R a b→Z3l R l m→Z3l R (a :: l) (b :: m)
section
variable {α β:Type} {R R':α→β→Prop}
theorem Z3l.length : ∀{l:List α} {m:List β},Z3l R l m→l.length=m.length
 | _,_,.nil=>rfl
 | _,_,.cons _ h=>by simp [h.length]
theorem Z3l.imp (hr : ∀a b,R a b→R' a b) : ∀{l:List α} {m:List β},Z3l R l m→Z3l R' l m
 | _,_,.nil=>.nil
 | _,_,.cons h t=>.cons (hr _ _ h) (t.imp hr)
theorem Z3l.append : ∀{l l':List α} {m m':List β},Z3l R l m→Z3l R l' m'→Z3l R (l++l') (m++m')
 | _,_,_,_,.nil,h=>h
 | _,_,_,_,.cons h t,k=>.cons h (t.append k)
theorem Z3l.get : ∀{l:List α} {m:List β},Z3l R l m→∀k,(h:k<l.length)→∃h':k<m.length,R l[k] m[k]
 | _,_,.nil,_,h=>absurd h (by simp)
 | _,_,.cons h _,0,_=>⟨by simp,h⟩
 | _,_,.cons _ t,k+1,h=>by
   obtain ⟨h1,h2⟩:=t.get k (by simpa using h);exact ⟨by simpa using h1,by simpa using h2⟩
end
theorem Z6f {size:Nat} : ∀(css:List (List Value)),(∀cs∈css,cs.length=size)→∀k,(h:k<css.length)→∀j,j<size→css.flatten[k*size+j]? = css[k][j]?
 | [],_,_,h,_,_=>absurd h (by simp)
 | c :: css,hs,0,_,j,hj=>by
   rw [List.flatten_cons,Ziz (by rw [hs c (by simp)];omega)];simp
 | c :: css,hs,k+1,h,j,hj=>by
   have hc:=hs c (by simp);rw [List.flatten_cons,Zj3 (by rw [hc,Nat.add_mul];omega),hc];rw [show (k+1)*size+j - size=k*size+j by rw [Nat.add_mul];omega];exact Z6f css (fun cs h=>hs cs (by simp [h])) k (by simpa using h) j hj
theorem Z9g {α:Type} (n:Nat) : ∀l:List α,(l.map fun _=>n).sum=l.length*n
 | []=>by simp
 | _ :: l=>by simp only [List.map_cons,List.sum_cons,Zj1,Z9g n l,Nat.add_mul];omega
section
variable {α:Type} {r:RepT α} {e:TypeId} {base:Nat} {w w':World} {v:Value} {l:List α}
end
section
variable {P:Program} (w:World)
theorem Z6s (t ty e:TypeId) (i:TypeInfo) (z:Value) (size bytes:Nat) (ht:P.underlying t=some (.slice e)) (hi:P.info? e=some i) (hz:i.zero=some z)
 (hsize:i.size=size) (hby:i.bytes=bytes) (hzs:z.cells.size=size) (hsz:0<size)
 (base:Nat) (hbase:base≤w.heap.size) (v:Value) (n:Nat) (xs:List Value) (hown:w.ownsRow base e size v n xs) (A:Option Addr) (m c:Nat) (news:List Value) (hl:news.length=m*size)
 (hnews:0<m→∃ad,A=some ad∧∀j u,news[j]? = some u→w.cell? (ad.add j)=some u) (h1 : ∀u∈news,u.oneCell'=true)
 (h63:n+m≤maxLen) (hbytes:(n+m)*bytes≤140737488355328) :
 ∃v' w',(Builtin.append_ #[t,t] ty #[v,.slice A m c]).run P w = .ok v' w'∧w'.ownsRow base e size v' (n+m) (xs++news)∧w.grownBy w' v.ownBlock∧
  (v' = .slice none 0 0↔v = .slice none 0 0∧m=0)∧(v'.ownBlock=v.ownBlock∨v'.ownBlock=some w.heap.size):=by
 rcases Nat.eq_zero_or_pos m with rfl | hm
 · have hn:news = []:=List.eq_nil_of_length_eq_zero (by simpa using hl)
   subst hn;rcases A with _ | ad
   · refine ⟨v,w,?_,by simpa using hown,World.grownBy.refl w _,by simp,.inl rfl⟩
     rcases hown.2 with ⟨rfl,rfl⟩ | ⟨g,cap,cur,rfl,_,_,hnc,_⟩
     · simp [Builtin.append_,run_underlying ht,sizeOf,typeInfo,hi,Builtin.lenOf,Builtin.firstCells]
     · simp [Builtin.append_,run_underlying ht,sizeOf,typeInfo,hi,Builtin.lenOf,Builtin.firstCells,hnc,storeCells]
   · exact run_append_own_at w base t ty e i z size bytes ht hi hz hsize hby hzs hsz v n xs hown ad 0 c [] (by simp) (by simp) (by simp) h63 hbytes hbase
 · obtain ⟨ad,rfl,hc⟩:=hnews hm
   exact run_append_own_at w base t ty e i z size bytes ht hi hz hsize hby hzs hsz v n xs hown ad m c news hl hc h1 h63 hbytes hbase
theorem Z4m {o:Oper} {a:Act} {K:Act→World→Prop} {Q:Exit→Act→World→Prop} (s x:Operand) (t:TypeId)
 (ho:o.op = .call { callee:=.builtin .append,args:=#[s,x],argTypes:=#[t,t] })
 (e:TypeId) (i:TypeInfo) (z:Value) (size bytes:Nat) (ht:P.underlying t=some (.slice e)) (hi:P.info? e=some i) (hz:i.zero=some z)
 (hsize:i.size=size) (hby:i.bytes=bytes) (hzs:z.cells.size=size) (hsz:0<size)
 (base:Nat) (hbase:base≤w.heap.size) (v:Value) (n:Nat) (xs:List Value) (hs:a.eval s=v) (hown:w.ownsRow base e size v n xs)
 (A:Option Addr) (m c:Nat) (news:List Value) (hx:a.eval x = .slice A m c) (hl:news.length=m*size)
 (hnews:0<m→∃ad,A=some ad∧∀j u,news[j]? = some u→w.cell? (ad.add j)=some u) (h1 : ∀u∈news,u.oneCell'=true)
 (h63:n+m≤maxLen) (hbytes:(n+m)*bytes≤140737488355328)
 (h : ∀v' w',w'.ownsRow base e size v' (n+m) (xs++news)→w.grownBy w' v.ownBlock→(v' = .slice none 0 0↔v = .slice none 0 0∧m=0)→(v'.ownBlock=v.ownBlock∨v'.ownBlock=some w.heap.size)→K (a.put o.dst v') w') :
 Oper.wp P o a w K Q:=by
 obtain ⟨v',w',hr,h2,h3,h4,h5⟩:=Z6s (P:=P) w t o.type e i z size bytes ht hi hz hsize hby hzs hsz base hbase v n xs hown A m c news hl hnews h1 h63 hbytes;unfold Oper.wp execOp;simp only [ho,resolve,invoke,builtin,Sem.run_bind,Sem.run_pure,Result.andThen_ok,List.map_toArray,List.map_cons,List.map_nil,hs,hx,hr];exact h v' w' h2 h3 h4 h5
theorem Z5y {ops:Array Oper} {o:Oper} {a:Act} {K:Act→World→Prop} {Q:Exit→Act→World→Prop} {E:Prop} (hgd:o.guard=none) (s x:Operand) (t:TypeId)
 (ho:o.op = .call { callee:=.builtin .append,args:=#[s,x],argTypes:=#[t,t] })
 (e:TypeId) (i:TypeInfo) (z:Value) (size bytes:Nat) (ht:P.underlying t=some (.slice e)) (hi:P.info? e=some i) (hz:i.zero=some z)
 (hsize:i.size=size) (hby:i.bytes=bytes) (hzs:z.cells.size=size) (hsz:0<size)
 (base:Nat) (hbase:base≤w.heap.size) (v:Value) (n:Nat) (xs:List Value) (hs:a.eval s=v) (hown:w.ownsRow base e size v n xs)
 (A:Option Addr) (m c:Nat) (news:List Value) (hx:a.eval x = .slice A m c) (hl:news.length=m*size)
 (hnews:0<m→∃ad,A=some ad∧∀j u,news[j]? = some u→w.cell? (ad.add j)=some u) (h1 : ∀u∈news,u.oneCell'=true)
 (h63:n+m≤maxLen) (hbytes:(n+m)*bytes≤140737488355328)
 (h : ∀v' w',w'.ownsRow base e size v' (n+m) (xs++news)→w.grownBy w' v.ownBlock→(v' = .slice none 0 0↔v = .slice none 0 0∧m=0)→(v'.ownBlock=v.ownBlock∨v'.ownBlock=some w.heap.size)→K (a.put o.dst v') w') :
 if Region.wanted o (yielded ops a.tmps)=true then Oper.wp P o a w K Q else E:=by
 rw [if_pos (by simp [Region.wanted,hgd])];exact Z4m w s x t ho e i z size bytes ht hi hz hsize hby hzs hsz base hbase v n xs hs hown A m c news hx hl hnews h1 h63 hbytes h
theorem Z5c {ops:Array Oper} {rest:List Oper} {o:Oper} {a:Act} {Q:Exit→Act→World→Prop} (hgd:o.guard=none) (s x:Operand) (t:TypeId)
 (ho:o.op = .call { callee:=.builtin .append,args:=#[s,x],argTypes:=#[t,t] })
 (e:TypeId) (i:TypeInfo) (z:Value) (size bytes:Nat) (ht:P.underlying t=some (.slice e)) (hi:P.info? e=some i) (hz:i.zero=some z)
 (hsize:i.size=size) (hby:i.bytes=bytes) (hzs:z.cells.size=size) (hsz:0<size)
 (base:Nat) (hbase:base≤w.heap.size) (v:Value) (n:Nat) (xs:List Value) (hs:a.eval s=v) (hown:w.ownsRow base e size v n xs)
 (A:Option Addr) (m c:Nat) (news:List Value) (hx:a.eval x = .slice A m c) (hl:news.length=m*size)
 (hnews:0<m→∃ad,A=some ad∧∀j u,news[j]? = some u→w.cell? (ad.add j)=some u) (h1 : ∀u∈news,u.oneCell'=true)
 (h63:n+m≤maxLen) (hbytes:(n+m)*bytes≤140737488355328)
 (h : ∀v' w',w'.ownsRow base e size v' (n+m) (xs++news)→w.grownBy w' v.ownBlock→(v' = .slice none 0 0↔v = .slice none 0 0∧m=0)→(v'.ownBlock=v.ownBlock∨v'.ownBlock=some w.heap.size)→wpList P ops Q rest (a.put o.dst v') w') :
 wpList P ops Q (o :: rest) a w:=
 wpList_plain hgd fun _ hK=>Z4m w s x t ho e i z size bytes ht hi hz hsize hby hzs hsz base hbase v n xs hs hown A m c news hx hl hnews h1 h63 hbytes (fun v' w' a b c d=>hK _ _ (h v' w' a b c d))
end
section
variable {P:Program} {α:Type} {r:RepT α} (w:World)
end
end
section
open Go.RowKit
def NewD (B:Nat) (w:World):Nat→Prop:=fun k=>B≤k∧k<w.heap.size
def OwnC {α:Type} (r:RepT α) (e:TypeId) (C:Nat→Prop) (w:World) (v:Value) (l:List α):Prop:=
 ∃css,w.ownsRow 0 e r.size v l.length css.flatten∧Z3l (fun a cs=>r.rep C w a cs) l css∧∀k,v.ownBlock=some k→¬C k
theorem Z6n {w:World} {e:TypeId} {size n:Nat} {v:Value} {xs:List Value} (h:w.ownsRow 0 e size v n xs) : ∀k,v.ownBlock=some k→k<w.heap.size:=by
 intro k hk;rcases h.2 with ⟨rfl,_⟩ | ⟨g,cap,cur,rfl,_,hg,_⟩
 · cases hk
 · simp only [Value.ownBlock,Option.some.injEq] at hk
   subst hk;exact Blk.lt (t:=e) hg
section
variable {α:Type} {r:RepT α} {e:TypeId} {C C':Nat→Prop} {w w':World} {v:Value} {l:List α}
theorem OwnC.nil (r:RepT α) (e:TypeId) (C:Nat→Prop) (w:World):OwnC r e C w (.slice none 0 0) []:=⟨[],⟨by simp,.inl ⟨rfl,rfl⟩⟩,.nil,fun _ h=>by cases h⟩
theorem OwnC.form (h:OwnC r e C w v l) : ∃A c,v = .slice A l.length c∧l.length≤c∧c≤maxLen∧AIn A (fun j=>j<w.heap.size∧¬C j):=by
 obtain ⟨css,hown,_,hC⟩:=h;have hlt:=Z6n hown;obtain ⟨A,c,rfl,h1,h2,_⟩:=Z2w hown;exact ⟨A,c,rfl,h1,h2,fun a ha=>by subst ha;exact ⟨hlt _ rfl,hC _ rfl⟩⟩
theorem OwnC.lt (h:OwnC r e C w v l) : ∀k,v.ownBlock=some k→k<w.heap.size:=by
 obtain ⟨css,hown,_⟩:=h;exact Z6n hown
theorem OwnC.off (h:OwnC r e C w v l) : ∀k,v.ownBlock=some k→¬C k:=by
 obtain ⟨_,_,_,h⟩:=h;exact h
theorem OwnC.keep (h:OwnC r e C w v l) (hs:w.heap.size≤w'.heap.size) (hk : ∀k,C k→k<w.heap.size→C' k∧w'.heap[k]? = w.heap[k]?) (hv : ∀k,v.ownBlock=some k→w'.heap[k]? = w.heap[k]?∧¬C' k):OwnC r e C' w' v l:=by
 obtain ⟨css,hown,he,hC⟩:=h;refine ⟨css,⟨hown.1,hown.2.imp id fun ⟨g,cap,cur,hv',h0,hg,hr⟩=>⟨g,cap,cur,hv',h0,(hv g (by rw [hv'];rfl)).1.trans hg,hr⟩⟩,he.imp fun a cs hr=>r.keep hs hk hr,fun k hk=>(hv k hk).2⟩
theorem OwnC.plus (h:OwnC r e C w v l) (hb:Below w.heap.size w w'):OwnC r e (Plus C w w') w' v l:=
 h.keep hb.size (fun k hk hl=>⟨.inl hk,hb.block k hl⟩) (fun k hk=>⟨hb.block k (h.lt k hk),fun hp=>hp.elim (h.off k hk) (fun hp=>by have:=h.lt k hk;omega)⟩)
theorem OwnC.fr {M:Nat→Prop} (h:OwnC r e C w v l) (hF:Fr M w w') (hC : ∀k,C k→¬M k) (hv : ∀k,v.ownBlock=some k→¬M k):OwnC r e C w' v l:=
 h.keep hF.size (fun k hk hl=>⟨hk,hF.block k hl (hC k hk)⟩) (fun k hk=>⟨hF.block k (h.lt k hk) (hv k hk),h.off k hk⟩)
theorem OwnC.row {A:Option Addr} {n c:Nat} (h:OwnC r e C w (.slice A n c) l) (hC : ∀k,C k→C' k) (hA:AIn A C'):RowR r C' w A c l:=by
 obtain ⟨A',c',hv,h1,h2,_⟩:=h.form;injection hv with hA' hn hc;subst hA';subst hc;obtain ⟨css,hown,he,_⟩:=h;refine ⟨h1,h2,fun h0=>?_⟩
 have hsz : ∀cs∈css,cs.length=r.size:=fun cs hcs=>by
  obtain ⟨k,hk,rfl⟩:=List.getElem_of_mem hcs;obtain ⟨_,h3⟩:=he.get k (by rw [he.length];exact hk);exact r.len h3
 rcases hown.2 with ⟨hv,hn0⟩ | ⟨g,cap,cur,hv,_,hg,hn2,hc2,hs2,ht⟩
 · omega
 · injection hv with hA' _ hc
   subst hA';have hgl:g<w.heap.size:=Blk.lt (t:=e) hg;refine ⟨g,0,rfl,hA _ rfl,hgl,fun k hk=>?_⟩;obtain ⟨hk2,hrep⟩:=he.get k hk;refine ⟨css[k],r.keep (Zi3 _) (fun j hj _=>⟨hC j hj,rfl⟩) hrep,fun j u hu=>?_⟩;(have hj:j<r.size:=by rw [← r.len hrep];exact (Zig.1 hu).1);have hf:=Z6f css hsz k hk2 j hj;rw [hu,← ht] at hf;rw [Ziu,Blk.cell (t:=e) hg]
   have hlt:k*r.size+j<l.length*r.size:=by
    have:(k+1)*r.size≤l.length*r.size:=Nat.mul_le_mul_right _ hk;rw [Nat.add_mul] at this;omega
   rw [List.getElem?_take_of_lt hlt] at hf;rw [← hf];simp
theorem OwnC.grown {v':Value} {l2:List α} {css css2:List (List Value)} (he:Z3l (fun a cs=>r.rep C w a cs) l css) (hC : ∀k,v.ownBlock=some k→¬C k) (hCl : ∀k,C k→k<w.heap.size)
 (hown:w'.ownsRow 0 e r.size v' (l++l2).length (css.flatten++css2.flatten)) (hg:w.grownBy w' v.ownBlock)
 (hv:v'.ownBlock=v.ownBlock∨v'.ownBlock=some w.heap.size) (he2:Z3l (fun a cs=>r.rep C w a cs) l2 css2):OwnC r e C w' v' (l++l2):=by
 have up : ∀a cs,r.rep C w a cs→r.rep C w' a cs:=fun a cs hr=>r.keep hg.size (fun k hd hl=>⟨hd,hg.block k hl (fun hk=>hC k hk.symm hd)⟩) hr;refine ⟨css++css2,by rw [List.flatten_append];exact hown,(he.imp up).append (he2.imp up),fun k hk=>?_⟩;rcases hv with hv | hv
 · exact hC k (hv ▸ hk)
 · rw [hv] at hk;injection hk with hk;intro h;have:=hCl k h;omega
theorem Zcw {l2:List α} {css2:List (List Value)} {D:Nat→Prop} {m:Nat} (hm:m=l2.length) (he2:Z3l (fun a cs=>r.rep D w a cs) l2 css2):css2.flatten.length=m*r.size:=by
 have hall : ∀cs∈css2,cs.length=r.size:=fun cs hcs=>by
  obtain ⟨k,hk,rfl⟩:=List.getElem_of_mem hcs;obtain ⟨_,h3⟩:=he2.get k (by rw [he2.length];exact hk);exact r.len h3
 rw [hm,he2.length,List.length_flatten,List.map_congr_left hall];exact Z9g _ _
theorem Zfc (cs:List Value) : [cs].flatten=cs:=by simp
end
def Z4v {α:Type} (r:RepT α) (e:TypeId) (C:Nat→Prop) (w:World) (v:Value) (l:List α) (v':Value) (w':World):Prop:=
 OwnC r e C w' v' l∧w.grownBy w' v.ownBlock∧(v'.ownBlock=v.ownBlock∨v'.ownBlock=some w.heap.size)
section
variable {P:Program} {α:Type} {r:RepT α} (w:World)
theorem Z4d {ops:Array Oper} {rest:List Oper} {o:Oper} {a:Act} {Q:Exit→Act→World→Prop} (hgd:o.guard=none) (s x:Operand) (t:TypeId)
 (ho:o.op = .call { callee:=.builtin .append,args:=#[s,x],argTypes:=#[t,t] })
 (e:TypeId) (i:TypeInfo) (z:Value) (size bytes:Nat) (ht:P.underlying t=some (.slice e)) (hi:P.info? e=some i) (hz:i.zero=some z)
 (hsize:i.size=size) (hby:i.bytes=bytes) (hzs:z.cells.size=size) (hrs:r.size=size) (hsz:0<size)
 (C:Nat→Prop) (hCl : ∀k,C k→k<w.heap.size) (v:Value) (l:List α) (hs:a.eval s=v) (hown:OwnC r e C w v l)
 (ad:Addr) (c:Nat) (y:α) (cs:List Value) (hx:a.eval x = .slice (some ad) 1 c)
 (hnews : ∀j u,cs[j]? = some u→w.cell? (ad.add j)=some u) (h1 : ∀u∈cs,u.oneCell'=true)
 (he2:r.rep C w y cs)
 (h63:l.length+1≤maxLen) (hbytes:(l.length+1)*bytes≤140737488355328)
 (h : ∀v' w',Z4v r e C w v (l ++ [y]) v' w'→wpList P ops Q rest (a.put o.dst v') w') :
 wpList P ops Q (o :: rest) a w:=by
 obtain ⟨css,h2,h3,h4⟩:=hown;subst hrs;have he3:Z3l (fun a cs=>r.rep C w a cs) [y] [cs]:=.cons he2 .nil;refine Z5c w hgd s x t ho e i z r.size bytes ht hi hz hsize hby hzs hsz 0 (Nat.zero_le _) v l.length _ hs h2 (some ad) 1 c [cs].flatten hx (Zcw (l2:=[y]) rfl he3) (fun _=>⟨ad,rfl,by rw [Zfc];exact hnews⟩) (by rw [Zfc];exact h1) h63 hbytes (fun v' w' g1 g2 g3 g4=>h v' w' ⟨?_,g2,g4⟩);exact OwnC.grown h3 h4 hCl (by rw [Zim];exact g1) g2 g4 he3
theorem Z8b {ops:Array Oper} {o:Oper} {a:Act} {K:Act→World→Prop} {Q:Exit→Act→World→Prop} {E:Prop} (hgd:o.guard=none) (s x:Operand) (t:TypeId)
 (ho:o.op = .call { callee:=.builtin .append,args:=#[s,x],argTypes:=#[t,t] })
 (e:TypeId) (i:TypeInfo) (z:Value) (size bytes:Nat) (ht:P.underlying t=some (.slice e)) (hi:P.info? e=some i) (hz:i.zero=some z)
 (hsize:i.size=size) (hby:i.bytes=bytes) (hzs:z.cells.size=size) (hrs:r.size=size) (hsz:0<size)
 (C:Nat→Prop) (hCl : ∀k,C k→k<w.heap.size) (v:Value) (l:List α) (hs:a.eval s=v) (hown:OwnC r e C w v l)
 (ad:Addr) (c:Nat) (y:α) (cs:List Value) (hx:a.eval x = .slice (some ad) 1 c)
 (hnews : ∀j u,cs[j]? = some u→w.cell? (ad.add j)=some u) (h1 : ∀u∈cs,u.oneCell'=true)
 (he2:r.rep C w y cs)
 (h63:l.length+1≤maxLen) (hbytes:(l.length+1)*bytes≤140737488355328)
 (h : ∀v' w',Z4v r e C w v (l ++ [y]) v' w'→K (a.put o.dst v') w') :
 if Region.wanted o (yielded ops a.tmps)=true then Oper.wp P o a w K Q else E:=by
 obtain ⟨css,h2,h3,h4⟩:=hown;subst hrs;have he3:Z3l (fun a cs=>r.rep C w a cs) [y] [cs]:=.cons he2 .nil;refine Z5y w hgd s x t ho e i z r.size bytes ht hi hz hsize hby hzs hsz 0 (Nat.zero_le _) v l.length _ hs h2 (some ad) 1 c [cs].flatten hx (Zcw (l2:=[y]) rfl he3) (fun _=>⟨ad,rfl,by rw [Zfc];exact hnews⟩) (by rw [Zfc];exact h1) h63 hbytes (fun v' w' g1 g2 g3 g4=>h v' w' ⟨?_,g2,g4⟩);exact OwnC.grown h3 h4 hCl (by rw [Zim];exact g1) g2 g4 he3
end
end
section
open Go.RowKit
def Int.cells1 (n:Int):List Value:=[.int .i64 n]
theorem Int.cells1_length (n:Int):(Int.cells1 n).length=1:=rfl
theorem Za3:(Tryz.prog.info? 23).map (fun i=>(i.zero,i.size,i.bytes))=some (some (.agg #[.int .i64 0,.string ⟨#[]⟩,.int .i64 0]),3,32):=by kernel_rfl
theorem Zh5 (l:List Sym) : ∀u∈l.flatMap Sym.cells,u.oneCell'=true:=by
 intro u hu;obtain ⟨b,_,hb⟩:=List.mem_flatMap.1 hu;simp only [Sym.cells,Zij,Zio,or_false] at hb;rcases hb with rfl | rfl | rfl<;>rfl
theorem Zfh:(Tryz.prog.info? 176).map (fun i=>(i.zero,i.size,i.bytes))=some (some (.agg #[.string ⟨#[]⟩,.int .i64 0,.string ⟨#[]⟩,.int .i64 0]),4,48):=by kernel_rfl
theorem Zfw (l:List Z0w) : ∀u∈l.flatMap Z0w.cells,u.oneCell'=true:=by
 intro u hu;obtain ⟨b,_,hb⟩:=List.mem_flatMap.1 hu;simp only [Z0w.cells,Zij,Zio,or_false] at hb;rcases hb with rfl | rfl | rfl | rfl<;>rfl
theorem Zd8:(Tryz.prog.info? 57).map (fun i=>(i.zero,i.size,i.bytes))=some (some (.agg #[.int .i64 0,.string ⟨#[]⟩,.int .i64 0,.int .i64 0,.string ⟨#[]⟩,.int .i64 0,.int .i64 0,.string ⟨#[]⟩,.int .i64 0,.bool false,.bool false,.int .i64 0,.int .i64 0,.int .i64 0]),14,128):=by kernel_rfl
theorem Zdv (l:List Z07) : ∀u∈l.flatMap Z07.cells,u.oneCell'=true:=by
 intro u hu;obtain ⟨b,_,hb⟩:=List.mem_flatMap.1 hu;simp only [Z07.cells,Zij,Zio,or_false] at hb;rcases hb with rfl | rfl | rfl | rfl | rfl | rfl | rfl | rfl | rfl | rfl | rfl | rfl | rfl | rfl<;>rfl
theorem Z8s:(Tryz.prog.info? 34).map (fun i=>(i.zero,i.size,i.bytes))=some (some (.agg #[.int .i64 0,.string ⟨#[]⟩,.int .i64 0,.int .i64 0,.string ⟨#[]⟩,.int .i64 0,.int .i64 0]),7,72):=by kernel_rfl
theorem Z91 (l:List Z0j) : ∀u∈l.flatMap Z0j.cells,u.oneCell'=true:=by
 intro u hu;obtain ⟨b,_,hb⟩:=List.mem_flatMap.1 hu;simp only [Z0j.cells,Zij,Zio,or_false] at hb;rcases hb with rfl | rfl | rfl | rfl | rfl | rfl | rfl<;>rfl
theorem Zd5:(Tryz.prog.info? 80).map (fun i=>(i.zero,i.size,i.bytes))=some (some (.agg #[.string ⟨#[]⟩,.string ⟨#[]⟩,.int .i64 0,.string ⟨#[]⟩,.int .i64 0,.int .i64 0,.string ⟨#[]⟩,.int .i64 0,.string ⟨#[]⟩,.int .i64 0,.string ⟨#[]⟩,.int .i64 0,.string ⟨#[]⟩,.int .i64 0,.int .i64 0,.string ⟨#[]⟩,.int .i64 0,.string ⟨#[]⟩,.int .i64 0]),19,224):=by kernel_rfl
theorem Zds (l:List ActT) : ∀u∈l.flatMap ActT.cells,u.oneCell'=true:=by
 intro u hu;obtain ⟨b,_,hb⟩:=List.mem_flatMap.1 hu;simp only [ActT.cells,Zij,Zio,or_false] at hb;rcases hb with rfl | rfl | rfl | rfl | rfl | rfl | rfl | rfl | rfl | rfl | rfl | rfl | rfl | rfl | rfl | rfl | rfl | rfl | rfl<;>rfl
theorem Z48:(Tryz.prog.info? 3).map (fun i=>(i.zero,i.size,i.bytes))=some (some (.int .i64 0),1,8):=by kernel_rfl
theorem Z4a (l:List Int) : ∀u∈l.flatMap Int.cells1,u.oneCell'=true:=by
 intro u hu;obtain ⟨b,_,hb⟩:=List.mem_flatMap.1 hu;simp only [Int.cells1,Zij,Zio,or_false] at hb;subst hb;rfl
theorem Zfj:(Tryz.prog.info? 142).map (fun i=>(i.zero,i.size,i.bytes))=some (some (.agg #[.int .i64 0,.string ⟨#[]⟩,.int .i64 0,.string ⟨#[]⟩,.int .i64 0,.slice none 0 0]),6,80):=by kernel_rfl
theorem Zb0:(Tryz.prog.info? 62).map (fun i=>(i.zero,i.size,i.bytes))=some (some (.agg #[.int .i64 0,.bool false,.string ⟨#[]⟩,.slice none 0 0,.slice none 0 0,.bool false,.slice none 0 0]),7,112):=by kernel_rfl
theorem Zfi:(Tryz.prog.info? 134).map (fun i=>(i.zero,i.size,i.bytes))=some (some (.agg #[.int .i64 0,.bool false,.string ⟨#[]⟩,.slice none 0 0,.slice none 0 0,.bool false,.slice none 0 0,.slice none 0 0]),8,136):=by kernel_rfl
theorem infp {P:Program} {t:TypeId} {z:Value} {s b:Nat} (h:(P.info? t).map (fun i=>(i.zero,i.size,i.bytes))=some (some z,s,b)) : ∃i,P.info? t=some i∧i.zero=some z∧i.size=s∧i.bytes=b:=by
 cases hq:P.info? t with
 | none=>rw [hq] at h;cases h
 | some i=>
   rw [hq] at h;simp only [Zif,Option.some.injEq,Prod.mk.injEq] at h;exact ⟨i,rfl,h.1,h.2.1,h.2.2⟩
end
end Go.Proofs.YtldndkngpdfpfaaGreat
