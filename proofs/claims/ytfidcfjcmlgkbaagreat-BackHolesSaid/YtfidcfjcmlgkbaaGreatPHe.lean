/-
  Texts put together: EagerT, SymValid, LeafName, ShapePlain, KitSyms, BkGet, MadeP, BkSet, Own, OwnC, BkInfo, BkCopy1, OwnG.
-/
import Derived.Test.YtfidcfjcmlgkbaaGreatPHd
namespace Go.Proofs.YtfidcfjcmlgkbaaGreat
open Lib (hid)
set_option maxRecDepth 100000
set_option maxHeartbeats 32000000
set_option linter.unusedSimpArgs false
section
section
variable {P:Program} {ops:Array Oper} {Q:Exit→Act→World→Prop} {S:World→Prop}
inductive Pl where
 | fin (l:List (Nat×Cls))
 | fork (l:List (Nat×Cls)) (i:Nat) (r:Pl) (j:Nat) (s:Pl)
def setL (listed:Array Bool) (l:List (Nat×Cls)):Array Bool:=l.foldl (fun g x=>g.setIfInBounds x.1 true) listed
def okL (ops:Array Oper):List (Nat×Cls)→Array Bool→Bool
 | [],_=>true
 | (k,c) :: rest,listed=>(if c == 2 then Region.ready .any ops listed == [k] else (Region.ready .any ops listed).contains k && Region.free .any ops listed k) && okL ops rest (listed.setIfInBounds k true)
def chkL (qs ls:List Nat) (l:List (Nat×Cls)):Bool:=l.all fun (k,c)=>(c != 2) == qs.contains k && (c != 1 || ls.contains k)
def okPl (ops:Array Oper) (qs ls:List Nat):Pl→Nat→Array Bool→Bool
 | .fin l,n,listed=>n == l.length && chkL qs ls l && okL ops l listed && (Region.ready .any ops (setL listed l)).isEmpty && l.all fun x=>x.1<ops.size
 | .fork l i r j s,n,listed=>decide (l.length+1≤n) && chkL qs ls l && okL ops l listed && (l.all fun x=>x.1<ops.size) && Region.ready .any ops (setL listed l) == [i,j] && !qs.contains i && !qs.contains j &&
  okPl ops qs ls r (n - l.length - 1) ((setL listed l).setIfInBounds i true) && okPl ops qs ls s (n - l.length - 1) ((setL listed l).setIfInBounds j true)
def wpY (P:Program) (ops:Array Oper) (Q:Exit→Act→World→Prop) (S:World→Prop) (ns:Nat→Bool) (R:Act→World→Prop):List (Nat×Cls×Oper)→Act→World→Prop
 | [],a,w=>R a w
 | (i,c,o) :: rest,a,w=>
   if c=2 then (if Region.wanted o (yielded ops a.tmps)=true then o.wp P a w (fun a' w'=>(ns i=true→S w')∧wpY P ops Q S ns R rest a' w') Q else (ns i=true→S w)∧wpY P ops Q S ns R rest (a.put o.dst undef) w)
   else ∃v,(if c=1 then YieldsIf P ops S o v a∧S w else Yields P ops o v a)∧wpY P ops Q S ns R rest (a.put o.dst v) w
def wpPl (P:Program) (ops:Array Oper) (Q:Exit→Act→World→Prop) (S:World→Prop) (ns:Nat→Bool):Pl→Act→World→Prop
 | .fin l,a,w=>wpY P ops Q S ns (fun a w=>Q .normal a w) (Z0v ops l) a w
 | .fork l i r j s,a,w=>wpY P ops Q S ns (fun a w=>wpOp P ops Q i (fun a' w'=>(ns i=true→S w')∧wpPl P ops Q S ns r a' w') a w∧wpOp P ops Q j (fun a' w'=>(ns j=true→S w')∧wpPl P ops Q S ns s a' w') a w) (Z0v ops l) a w
theorem Z87 : ∀(l:List (Nat×Cls)) (listed:Array Bool),Z53 ops listed→okL ops l listed=true→Z53 ops (setL listed l)
 | [],_,h,_=>h
 | (k,c) :: rest,listed,h,hB=>by
   simp only [okL,Zmy] at hB;refine Z87 rest _ (Z2m h ?_) hB.2;by_cases hc:c=2
   · subst hc
     have hB1:=hB.1;simp only [beq_self_eq_true,if_true] at hB1;(have hr:Region.ready .any ops listed = [k]:=by simpa using hB1);rw [hr];simp
   · have hB1:=hB.1
     rw [if_neg (by simpa using hc)] at hB1;simp only [Zmy] at hB1;simpa using hB1.1
theorem Z6d {qt ns:Nat→Bool} {R:Act→World→Prop} {n:Nat} (hsel:Region.noSelect ops=true) (hQ : ∀c a a' w,Q (.panic c) a w→Q (.panic c) a' w) :
 ∀(rest:List (Nat×Cls)) (listed:Array Bool) (a:Act) (w:World),Z53 ops listed→okL ops rest listed=true→(∀x∈rest,x.1<ops.size)→
  (∀k c,(k,c)∈rest→(qt k=true↔c≠2))→(∀k,(k,1)∈rest→∀j,Z3x ops ops.size j k=false→j≠k→j<ops.size→ns j=true)→
  (∀a w,R a w→Z7s P ops Q S qt ns n (setL listed rest) a w)→wpY P ops Q S ns R (Z0v ops rest) a w→Z7s P ops Q S qt ns (rest.length+n) listed a w
 | [],listed,a,w,_,_,_,_,_,hR,h=>by
   have:=hR a w h;simpa [setL] using this
 | (k,c) :: rest,listed,a,w,hcl,hB,hl,hqt,hns,hR,h=>by
   simp only [okL,Zmy] at hB;obtain ⟨hB1,hB2⟩:=hB;have hi:k<ops.size:=hl (k,c) (by simp);have ho:ops[k]? = some ops[k]:=Array.getElem?_eq_getElem hi;(have hb:Z0v ops ((k,c) :: rest)=(k,c,ops[k]) :: Z0v ops rest:=by simp [Z0v,ho]);have ih:=fun listed' a w hcl' hB' hR' h'=>Z6d (R:=R) (n:=n) hsel hQ rest listed' a w hcl' hB' (fun x hx=>hl x (by simp [hx])) (fun k c hk=>hqt k c (by simp [hk])) (fun k hk=>hns k (by simp [hk])) hR' h';rw [hb] at h;simp only [wpY] at h;(have hlen:((k,c) :: rest).length+n=(rest.length+n)+1:=by simp;omega);rw [hlen];by_cases hc:c=2
   · subst hc
     simp only [beq_self_eq_true,if_true] at hB1;(have hr:Region.ready .any ops listed = [k]:=by simpa using hB1);simp only [if_true] at h;have hcl2:=Z2m hcl (i:=k) (by rw [hr];simp);refine ⟨fun h0=>(by rw [hr] at h0;cases h0),fun i hi'=>?_⟩;rw [hr] at hi';obtain rfl:i=k:=by simpa using hi'
     have hbh : ∀w',(ns i=true→S w')→Z6i S qt ns i w w':=fun w' hs=>by
      unfold Z6i;rw [if_neg (fun hq=>(hqt i 2 (by simp)).1 hq rfl)];exact hs
     unfold wpOp;simp only [ho]
     split
     · rename_i hw
       rw [if_pos hw] at h;exact .inl (Oper.wp_mono (fun a' w' h'=>⟨hbh w' h'.1,ih _ a' w' hcl2 hB2 hR h'.2⟩) h)
     · rename_i hw
       rw [if_neg hw] at h;exact ⟨hbh w h.1,ih _ _ w hcl2 hB2 hR h.2⟩
   · rw [if_neg (by simpa using hc)] at hB1
     simp only [Zmy] at hB1;rw [if_neg hc] at h;obtain ⟨v,hy,hk⟩:=h;(have hrdy:k∈Region.ready .any ops listed:=by simpa using hB1.1);have hrest:=ih _ _ w (Z2m hcl hrdy) hB2 hR hk;by_cases h1:c=1
     · subst h1
       rw [if_pos rfl] at hy
       exact Z4i ho (Region.noSelect_spec hsel) (fun c a w=>hQ c _ _ w) true ((hqt k 1 (by simp)).2 hc) (fun _=>hns k (by simp)) (rest.length+n) listed a w hcl (Region.free_spec ho hB1.2) hrdy
        (hy.1.imp (fun ⟨p,q⟩=>⟨p,fun w' hw'=>q w' (hw' rfl)⟩) id) (fun _=>hy.2) hrest
     · rw [if_neg h1] at hy
       exact Z4i ho (Region.noSelect_spec hsel) (fun c a w=>hQ c _ _ w) false ((hqt k c (by simp)).2 hc) (fun h=>by cases h) (rest.length+n) listed a w hcl (Region.free_spec ho hB1.2) hrdy
        (hy.imp (fun ⟨p,q⟩=>⟨p,fun w' _=>q w'⟩) id) (fun h=>by cases h) hrest
theorem Zii {qs ls:List Nat} (hsel:Region.noSelect ops=true) (hQ : ∀c a a' w,Q (.panic c) a w→Q (.panic c) a' w) (p:Pl) :
 ∀(n:Nat) (listed:Array Bool) (a:Act) (w:World),Z53 ops listed→okPl ops qs ls p n listed=true→
  wpPl P ops Q S (fun j=>ls.any fun k=>k != j && !Z3x ops ops.size j k) p a w→Z7s P ops Q S (fun k=>qs.contains k) (fun j=>ls.any fun k=>k != j && !Z3x ops ops.size j k) n listed a w:=by
 have hq : ∀l,chkL qs ls l=true→∀k c,(k,c)∈l→(qs.contains k=true↔c≠2):=fun l hl k c hk=>by
  have:=Zne.1 hl (k,c) hk;simp only [Zmy,beq_iff_eq] at this;rw [← this.1];simp
 have hn : ∀l,chkL qs ls l=true→∀k,(k,1)∈l→∀j,Z3x ops ops.size j k=false→j≠k→j<ops.size→(ls.any fun k=>k != j && !Z3x ops ops.size j k)=true:=fun l hl k hk j hw hjk _=>by
  have:=Zne.1 hl (k,1) hk;simp only [Zmy] at this;(have h2:ls.contains k=true:=by simpa using this.2);rw [Znr];exact ⟨k,by simpa using h2,by rw [hw];simp [Ne.symm hjk]⟩
 induction p with
 | fin l=>
   intro n listed a w hcl hB h;simp only [okPl,Zmy,beq_iff_eq] at hB;obtain ⟨⟨⟨⟨rfl,hc⟩,hL⟩,he⟩,hlt⟩:=hB
   have:=Z6d (P:=P) (Q:=Q) (S:=S) (qt:=fun k=>qs.contains k) (ns:=fun j=>ls.any fun k=>k != j && !Z3x ops ops.size j k) (R:=fun a w=>Q .normal a w) (n:=0) hsel hQ l listed a w hcl hL (by simpa [Zne] using hlt) (hq l hc) (hn l hc)
    (fun a w h=>⟨by simpa using he,h⟩) h
   simpa using this
 | fork l i r j s ihr ihs=>
   intro n listed a w hcl hB h;simp only [okPl,Zmy,beq_iff_eq,Zno,Bool.not_eq_true'] at hB;obtain ⟨⟨⟨⟨⟨⟨⟨⟨hlen,hc⟩,hL⟩,hlt⟩,hrd⟩,hqi⟩,hqj⟩,hr⟩,hs⟩:=hB;obtain ⟨m,rfl⟩ : ∃m,n=l.length+(m+1):=⟨n - l.length - 1,by omega⟩;(have em:l.length+(m+1) - l.length - 1=m:=by omega);rw [em] at hr hs;have hcl2:=Z87 l listed hcl hL;refine Z6d (P:=P) (Q:=Q) (S:=S) (qt:=fun k=>qs.contains k) (ns:=fun j=>ls.any fun k=>k != j && !Z3x ops ops.size j k) (n:=m+1) hsel hQ l listed a w hcl hL (by simpa [Zne] using hlt) (hq l hc) (hn l hc) (fun a w hR=>?_) h;refine ⟨fun h0=>(by rw [hrd] at h0;cases h0),fun k hk=>?_⟩;have hcl3:=Z2m hcl2 hk;rw [hrd] at hk;simp only [Zms,Zmw,or_false] at hk;rcases hk with rfl | rfl
   · refine wpOp_mono (fun a' w' h'=>⟨?_,ihr m _ a' w' hcl3 hr h'.2⟩) hR.1
     unfold Z6i;rw [if_neg (by simp only [hqi];simp)];exact h'.1
   · refine wpOp_mono (fun a' w' h'=>⟨?_,ihs m _ a' w' hcl3 hs h'.2⟩) hR.2
     unfold Z6i;rw [if_neg (by simp only [hqj];simp)];exact h'.1
theorem Z3t {id:Nat} {l:List Oper} {a:Act} {w:World} (S:World→Prop) (qs ls:List Nat) (p:Pl) (hm:P.follows .mixedOrders=true) (hsel:Region.noSelect l.toArray=true)
 (hB:okPl l.toArray qs ls p l.toArray.size (Array.replicate l.toArray.size false)=true)
 (h : ∀K:Act→World→Prop,(∀a w,Q .normal a w→K a w)→wpPl P l.toArray (Z71 K) S (fun j=>ls.any fun k=>k != j && !Z3x l.toArray l.toArray.size j k) p a w.drew):(Code.region id l.toArray true).wp P Q a w:=by
 refine Code.wp_mono (Q:=Z71 fun a w=>Q .normal a w) (fun e a w hq=>by cases e<;>first | exact hq | exact hq.elim) (wp_region_any hm ?_);(have hcl:Z53 l.toArray (Array.replicate l.toArray.size false):=fun m o hm=>by rw [getD_replicate_false] at hm;cases hm);exact Z7j _ _ _ _ (Zii (P:=P) (Q:=Z71 fun a w=>Q .normal a w) (S:=S) hsel (fun c a a' w h=>h) p _ _ a w.drew hcl hB (h _ (fun _ _ h=>h)))
variable {ns:Nat→Bool} {R:Act→World→Prop} {rest:List (Nat×Cls×Oper)} {a:Act} {w:World} {i:Nat} {o:Oper}
theorem Z33 (h:R a w):wpY P ops Q S ns R [] a w:=h
theorem Z5d (v:Value) (hy:Yields P ops o v a) (h:wpY P ops Q S ns R rest (a.put o.dst v) w):wpY P ops Q S ns R ((i,0,o) :: rest) a w:=by
 simp only [wpY];exact ⟨v,by simpa using hy,h⟩
theorem Z5c (v:Value) (hS:S w) (hy:YieldsIf P ops S o v a) (h:wpY P ops Q S ns R rest (a.put o.dst v) w):wpY P ops Q S ns R ((i,1,o) :: rest) a w:=by
 simp only [wpY];exact ⟨v,by simpa using ⟨hy,hS⟩,h⟩
theorem Z3g
 (h : ∀K:Act→World→Prop,(∀a w,S w→wpY P ops Q S ns R rest a w→K a w)→if Region.wanted o (yielded ops a.tmps)=true then Oper.wp P o a w K Q else K (a.put o.dst undef) w):wpY P ops Q S ns R ((i,2,o) :: rest) a w:=by
 have:=h (fun a' w'=>(ns i=true→S w')∧wpY P ops Q S ns R rest a' w') (fun a w h1 h2=>⟨fun _=>h1,h2⟩);simpa only [wpY,if_true] using this
theorem Z3f {C:World→Prop} {H:Act→World→Prop} (ho:ops[i]? = some o)
 (h : ∀K:Act→World→Prop,(∀a w,C w→H a w→K a w)→if Region.wanted o (yielded ops a.tmps)=true then Oper.wp P o a w K Q else K (a.put o.dst undef) w) :
 wpOp P ops Q i (fun a' w'=>C w'∧H a' w') a w:=by
 have h2:=h (fun a' w'=>C w'∧H a' w') (fun a w h1 h2=>⟨h1,h2⟩);unfold wpOp;simp only [ho]
 split
 · rename_i hw
   rw [if_pos hw] at h2;exact .inl h2
 · rename_i hw
   rw [if_neg hw] at h2;exact h2
end
end
section
open Go.RowKit
def Zkr (f:UInt8→Bool) (t:ByteArray):Bool:=t.data.toList.head?.any f
theorem Ze7 {f:UInt8→Bool} {t:ByteArray} (h:0<t.size):Zkr f t=f t[0]:=by
 have hs:t.data.toList.length=t.size:=Array.length_toList;unfold Zkr;rw [List.head?_eq_getElem?,Zmc (by omega),Option.any_some,Array.getElem_toList];rfl
def Z2e (s:Sym):Bool:=
 if s.kind=1 then decide (s.text.size=1) && Zkr Z2u s.text && decide (1≤s.n) && decide (s.n≤1048576)
 else if s.kind=2 then decide (s.text.toList = []) && decide (-2147483647≤s.n) && decide (s.n≤2147483647)
 else if s.kind=3 then decide (s.n=0) && Z15 s.text else false
theorem Z13 {a b:Bool} (h:a=b):Ending.returned (.bool a) = .returned (.bool b):=by rw [h]
theorem Zk4 (s:Sym) (w:World):Calls Tryz.prog 49 #[.agg #[.int .i64 s.kind,.string s.text,.int .i64 s.n]] w fun e w'=>e = .returned (.bool (Z2e s))∧Below w.heap.size w w':=by
 obtain ⟨k,t,n⟩:=s;dsimp only;by_cases k1:k=1
 · subst k1
   by_cases a1:t.size=1
   · have h0:0<t.size:=by omega
     (have t1:((t.size:Int) == 1)=true:=by simp;omega);have HV:=hid (show Z2e ⟨1,t,n⟩=(Z2u t[0] && decide (1≤n) && decide (n≤1048576)) by simp [Z2e,a1,Ze7 h0]);go_enter Tryz.func49,Tryz.ntmps49;go_wp2_with (go_at_call 96;refine (Zj4 _ _).mono ?_;rintro e w' ⟨rfl,rfl⟩)
     all_goals
      go_ret;refine ⟨?_,(Zm7 _ _).alloc (Zm8 _) _⟩;rw [HV.out]
      first | rfl | (refine Z13 ?_;simp_all;done) | (refine Z13 ?_;simp_all;omega) | (refine Z13 ?_;simp_all [Z2u];done) | (refine Z13 ?_;simp_all [Z2u];omega)
   · have t1:((t.size:Int) == 1)=false:=by simp;omega
     have HV:=hid (show Z2e ⟨1,t,n⟩=false by simp [Z2e,a1]);go_enter Tryz.func49,Tryz.ntmps49;go_wp2_with fail
     all_goals
      go_ret;refine ⟨?_,(Zm7 _ _).alloc (Zm8 _) _⟩;rw [HV.out];rfl
 · by_cases k2:k=2
   · subst k2
     have HV:=hid (show Z2e ⟨2,t,n⟩=(decide (t.toList = []) && decide (-2147483647≤n) && decide (n≤2147483647)) by simp [Z2e]);clear k1;go_enter Tryz.func49,Tryz.ntmps49;go_wp2_with fail
     all_goals
      go_ret;refine ⟨?_,(Zm7 _ _).alloc (Zm8 _) _⟩;rw [HV.out]
      first | rfl | (refine Z13 ?_;simp_all;done) | (refine Z13 ?_;simp_all;omega) | (refine Z13 ?_;simp_all [Z2u];done) | (refine Z13 ?_;simp_all [Z2u];omega)
   · by_cases k3:k=3
     · subst k3
       have HV:=hid (show Z2e ⟨3,t,n⟩=(decide (n=0) && Z15 t) by simp [Z2e]);clear k1 k2;go_enter Tryz.func49,Tryz.ntmps49;go_wp2_with (go_at_call 98;refine (Z3p _ _).mono ?_;rintro e w' ⟨rfl,rfl⟩)
       all_goals
        go_ret;refine ⟨?_,(Zm7 _ _).alloc (Zm8 _) _⟩;rw [HV.out]
        first | rfl | (refine Z13 ?_;simp_all;done) | (refine Z13 ?_;simp_all;omega) | (refine Z13 ?_;simp_all [Z2u];done) | (refine Z13 ?_;simp_all [Z2u];omega)
     · have HV:=hid (show Z2e ⟨k,t,n⟩=false by simp [Z2e,k1,k2,k3])
       (have t1:(k == 1)=false:=by simp [k1]);(have t2:(k == 2)=false:=by simp [k2]);(have t3:(k == 3)=false:=by simp [k3]);clear k1 k2 k3;go_enter Tryz.func49,Tryz.ntmps49;go_wp2_with fail
       all_goals
        go_ret;refine ⟨?_,(Zm7 _ _).alloc (Zm8 _) _⟩;rw [HV.out];rfl
theorem Z6x (s:Sym) (w:World):Calls Tryz.prog 55 #[.agg #[.int .i64 s.kind,.string s.text,.int .i64 s.n]] w fun e w'=>e = .returned (.bool (Z2e s))∧Below w.heap.size w w':=by
 obtain ⟨k,t,n⟩:=s;dsimp only;by_cases k1:k=1
 · subst k1
   by_cases a1:t.size=1
   · have h0:0<t.size:=by omega
     (have t1:((t.size:Int) == 1)=true:=by simp;omega);have HV:=hid (show Z2e ⟨1,t,n⟩=(Z2u t[0] && decide (1≤n) && decide (n≤1048576)) by simp [Z2e,a1,Ze7 h0]);go_enter Tryz.func55,Tryz.ntmps55;go_wp2_with (fail)
     all_goals
      go_ret;refine ⟨?_,(Zm7 _ _).alloc (Zm8 _) _⟩;rw [HV.out]
      first | rfl | (refine Z13 ?_;simp_all;done) | (refine Z13 ?_;simp_all;omega) | (refine Z13 ?_;simp_all [Z2u];done) | (refine Z13 ?_;simp_all [Z2u];omega)
   · have t1:((t.size:Int) == 1)=false:=by simp;omega
     have HV:=hid (show Z2e ⟨1,t,n⟩=false by simp [Z2e,a1]);go_enter Tryz.func55,Tryz.ntmps55;go_wp2_with fail
     all_goals
      go_ret;refine ⟨?_,(Zm7 _ _).alloc (Zm8 _) _⟩;rw [HV.out];rfl
 · by_cases k2:k=2
   · subst k2
     have HV:=hid (show Z2e ⟨2,t,n⟩=(decide (t.toList = []) && decide (-2147483647≤n) && decide (n≤2147483647)) by simp [Z2e]);clear k1;go_enter Tryz.func55,Tryz.ntmps55;go_wp2_with fail
     all_goals
      go_ret;refine ⟨?_,(Zm7 _ _).alloc (Zm8 _) _⟩;rw [HV.out]
      first | rfl | (refine Z13 ?_;simp_all;done) | (refine Z13 ?_;simp_all;omega) | (refine Z13 ?_;simp_all [Z2u];done) | (refine Z13 ?_;simp_all [Z2u];omega)
   · by_cases k3:k=3
     · subst k3
       have HV:=hid (show Z2e ⟨3,t,n⟩=(decide (n=0) && Z15 t) by simp [Z2e]);clear k1 k2;go_enter Tryz.func55,Tryz.ntmps55;go_wp2_with (go_at_call 103;refine (Z41 _ _).mono ?_;rintro e w' ⟨rfl,rfl⟩)
       all_goals
        go_ret;refine ⟨?_,(Zm7 _ _).alloc (Zm8 _) _⟩;rw [HV.out]
        first | rfl | (refine Z13 ?_;simp_all;done) | (refine Z13 ?_;simp_all;omega) | (refine Z13 ?_;simp_all [Z2u];done) | (refine Z13 ?_;simp_all [Z2u];omega)
     · have HV:=hid (show Z2e ⟨k,t,n⟩=false by simp [Z2e,k1,k2,k3])
       (have t1:(k == 1)=false:=by simp [k1]);(have t2:(k == 2)=false:=by simp [k2]);(have t3:(k == 3)=false:=by simp [k3]);clear k1 k2 k3;go_enter Tryz.func55,Tryz.ntmps55;go_wp2_with fail
       all_goals
        go_ret;refine ⟨?_,(Zm7 _ _).alloc (Zm8 _) _⟩;rw [HV.out];rfl
abbrev Name:=ByteArray
def Name.cells (n:Name):List Value:=[.string n]
theorem Name.cells_length (n:Name):(Name.cells n).length=1:=rfl
def Z0g (a b:Name):Int:=Z2c a b
theorem Z3o:TC Z0g:=Zie
theorem Z4m {a b:Name}:Z0g a b=0↔a=b:=Z88
theorem Ziu (a b:Name) (w:World):Calls Tryz.prog 265 #[.string a,.string b] w fun e w'=>e = .returned (.int .i64 (Z0g a b))∧Below w.heap.size w w':=by
 go_enter Tryz.func265,Tryz.ntmps265;go_wp2
 all_goals (go_ret;refine ⟨?_,Zm7 _ _⟩;unfold Z0g Z2c;simp_all)
end
section
def zS:Sym:=⟨0,⟨#[]⟩,0⟩
def Z4o (s:Sym):Bool:=decide (s=zS)
def Z2n (a:Z2j):Bool:=decide (a.var.toList = []) && Z4o a.sym
def Z21 (s:Sym):Bool:=decide (s.kind≠1) && Z2e s
def Z16 (t:Z1t):Bool:=
 if t.rel=8 then decide (t.var.toList = []) && Z4o t.sym && decide (1≤t.list.length) && decide (t.list.length≤8) && t.list.all Z21
 else if t.rel<1∨7<t.rel∨0<t.list.length then false
 else if t.var.toList = [] then Z21 t.sym else Z15 t.var && Z4o t.sym
def Z24 (a:Z2j):Bool:=if a.var.toList = [] then Z21 a.sym else Z15 a.var && Z4o a.sym
def Z0e (c:Z08) (deep:Nat):Int:=
 if c.kind=3 then (if c.goal=true∨c.id.toList≠[]∨0<c.attr.length∨0<c.value.length∨c.acc=true∨c.conds.length=0 then 9 else if 3≤deep then 8 else 0)
 else if c.kind=1∨c.kind=2 then
  (if 0<c.conds.length∨Z15 c.id=false∨c.attr.length=0 then 9 else if 4<c.attr.length∨4<c.value.length then 7 else if (c.attr.all Z16 && c.value.all Z16)=false then 9 else 0)
 else 9
def Z4h (a:Z2j):Bool:=decide (a.var.toList = []) && decide (a.sym.kind=3)
def Z2i (t:Z7v):Bool:=
 if t.op<0∨3<t.op∨Z24 t.a=false then false
 else if t.op=0 then Z2n t.b else Z24 t.b && !Z4h t.a && !Z4h t.b
def Z2h (k:Int):Bool:=decide (k=8) || decide (k=9) || decide (k=10)
def actB (a:ActT):Bool:=
 if Z15 a.id=false∨Z24 a.attr=false∨Z2i a.value=false∨a.pref<1∨10<a.pref then false
 else if Z2h a.pref=true then Z24 a.other else Z2n a.other
def Z0h:Nat→Nat→List Z08→List (Nat×Z08)
 | 0,_,_=>[]
 | n+1,d,l=>l.flatMap fun c=>(d,c) :: Z0h n (d+1) c.conds
def Z1m (n:Nat) (p:Z3y):Int×Int:=
 if Z15 p.name=false then (-1,2)
 else if (Z0h n 0 p.conds).length<1∨16<(Z0h n 0 p.conds).length∨p.acts.length<1∨16<p.acts.length then (-1,7)
 else match (Z0h n 0 p.conds).findIdx? (fun c=>decide (Z0e c.2 c.1≠0)) with
  | some k=>(k,(((Z0h n 0 p.conds)[k]?).map fun c=>Z0e c.2 c.1).getD 0)
  | none=>match p.acts.findIdx? (fun a=>!actB a) with
    | some i=>((Z0h n 0 p.conds).length+i,9)
    | none=>(-1,0)
abbrev Kn:=List ByteArray×List ByteArray
def metK (k:Kn) (v:ByteArray):Kn:=(put Z0g k.1 v,if has Z0g k.1 v=true then k.2 else k.2 ++ [v])
def hasK (k:Kn) (v:ByteArray):Bool:=has Z0g k.1 v
def Z0u:Kn→List Z1t→Bool×Kn
 | k,[]=>(true,k)
 | k,t :: l=>if t.rel=8∨t.var.toList = [] then Z0u k l else if t.rel=1 then Z0u (metK k t.var) l else if hasK k t.var=true then Z0u k l else (false,k)
def oneK (k:Kn) (c:Z08):Bool×Kn:=
 let k1:=if c.goal=true then metK k c.id else k
 if hasK k1 c.id=true then (match Z0u k1 c.attr with | (true,k2)=>Z0u k2 c.value | (false,k2)=>(false,k2)) else (false,k1)
def Z1g:Nat→Kn→List Z08→Int→Bool×Int×Kn
 | 0,k,_,at_=>(true,at_,k)
 | _+1,k,[],at_=>(true,at_,k)
 | n+1,k,c :: l,at_=>
   if c.kind=3 then
    (match Z1g n (k.1,[]) c.conds (at_+1) with
      | (true,a2,_)=>Z1g (n+1) k l a2
      | (false,a2,_)=>(false,a2,k))
   else
    (match oneK (if c.kind=1 then k else (k.1,[])) c with
      | (true,k2)=>Z1g (n+1) (if c.kind=1 then k2 else k) l (at_+1)
      | (false,_)=>(false,at_,k))
termination_by n _ l _=>(n,l.length)
def Z2y (k:Kn) (a:Z2j):Bool:=decide (a.var.toList≠[]) && !hasK k a.var
def actV (k:Kn) (a:ActT):Bool:=Z2y k a.attr || (decide (a.value.op≠0) && (Z2y k a.value.a || Z2y k a.value.b))
def Z2b (n:Nat) (p:Z3y):Int×Int×List ByteArray:=
 if (Z1m n p).2≠0 then ((Z1m n p).1,(Z1m n p).2,[])
 else if (p.conds.head?.map Z08.kind).getD 0≠1 then (0,9,[])
 else match Z1g n ([],[]) p.conds 0 with
  | (false,a,_)=>(a,6,[])
  | (true,a,k)=>match p.acts.findIdx? (actV k) with
    | some i=>(a+i,6,[])
    | none=>(-1,0,k.2)
end
section
open Go.RowKit
theorem Zcx (x y:Sym) (W:World):(binOp .eql 38 (.agg #[.int .i64 x.kind,.string x.text,.int .i64 x.n]) (.agg #[.int .i64 y.kind,.string y.text,.int .i64 y.n])).run Tryz.prog W = .ok (.bool (decide (x=y))) W:=by
 rw [run_eql_struct];go_simp;by_cases h:x=y
 · subst h;simp
 · have h2 : ¬(x.kind=y.kind∧x.text.toList=y.text.toList∧x.n=y.n):=fun ⟨h1,h2,h3⟩=>h (Sym.ext' h1 (toList_inj h2) h3)
   rw [Zm9 h]
   split
   · split
     · split
       · exact absurd ⟨by assumption,by assumption,by assumption⟩ h2
       · rfl
     · rfl
   · rfl
theorem Zhm (x y:Sym) (W:World):(binOp .neq 38 (.agg #[.int .i64 x.kind,.string x.text,.int .i64 x.n]) (.agg #[.int .i64 y.kind,.string y.text,.int .i64 y.n])).run Tryz.prog W = .ok (.bool (!decide (x=y))) W:=by
 rw [run_neq_struct];go_simp;by_cases h:x=y
 · subst h;simp
 · have h2 : ¬(x.kind=y.kind∧x.text.toList=y.text.toList∧x.n=y.n):=fun ⟨h1,h2,h3⟩=>h (Sym.ext' h1 (toList_inj h2) h3)
   rw [Zm9 h]
   split
   · split
     · split
       · exact absurd ⟨by assumption,by assumption,by assumption⟩ h2
       · rfl
     · rfl
   · rfl
attribute [local go_sem] Zcx Zhm
theorem Zic {w:World} {A:Option Addr} {c k:Nat} {l:List Sym} (h:Z18 w 3 Sym.cells A c l) (hk:k<l.length) : ∃g off,A=some ⟨g,off,none⟩∧g<w.heap.size∧
 w.cell? ⟨g,off+k*3,none⟩=some (.int .i64 l[k].kind)∧w.cell? ⟨g,off+k*3+1,none⟩=some (.string l[k].text)∧w.cell? ⟨g,off+k*3+2,none⟩=some (.int .i64 l[k].n):=by
 obtain ⟨g,off,hA,hg,hc⟩:=h.at_ hk;exact ⟨g,off,hA,hg,by simpa using hc 0 _ rfl,by simpa using hc 1 _ rfl,by simpa using hc 2 _ rfl⟩
end
section
open Go.RowKit Go.Shelf
def getB:List Z17→ByteArray→Sym×Bool
 | [],_=>(zS,false)
 | b :: l,v=>if b.var.toList=v.toList then (b.sym,true) else getB l v
theorem Zbj (b:Z17) (l:List Z17) (v:ByteArray):getB (b :: l) v=if b.var.toList=v.toList then (b.sym,true) else getB l v:=rfl
def Zkh (W:World) (r:Sym×Bool) (e:Ending) (W':World):Prop:=e = .returned (.tuple #[.agg #[.int .i64 r.1.kind,.string r.1.text,.int .i64 r.1.n],.bool r.2])∧Below W.heap.size W W'
theorem Blk.z3 {w:World} {g:Nat} {t:TypeId} (h:Blk w g t #[.int .i64 0,.string ⟨#[]⟩,.int .i64 0]):w.cell? ⟨g,0,none⟩=some (.int .i64 0)∧w.cell? ⟨g,1,none⟩=some (.string ⟨#[]⟩)∧w.cell? ⟨g,2,none⟩=some (.int .i64 0)∧w.frozen? ⟨g,0,none⟩=false∧w.frozen? ⟨g,1,none⟩=false∧w.frozen? ⟨g,2,none⟩=false∧g<w.heap.size:=
 ⟨(h.cell 0).trans rfl,(h.cell 1).trans rfl,(h.cell 2).trans rfl,h.frozen 0,h.frozen 1,h.frozen 2,h.lt⟩
theorem Zls {D:Nat→Prop} {A:Option Addr} {c:Nat} (l:List Z17) (v:ByteArray) (w:World) (h:RowR Z29 D w A c l) :
 Calls Tryz.prog 123 #[.slice A l.length c,.string v] w (Zkh w (getB l v)):=by
 have H0:=hid h;have hlc:=h.cap;clear h;go_enter Tryz.func123,Tryz.ntmps123;(go_upto_region 1 with fail);obtain ⟨W1,hW1⟩ : ∃W1,W1=w.alloc (.cells #[.int .i64 0,.string ⟨#[]⟩,.int .i64 0] 38):=⟨_,rfl⟩;rw [← hW1];have HB1:=hid (show Below w.heap.size w W1 by rw [hW1];exact (Zm7 _ _).alloc (Zm8 _) _);have HK1:=hid (show Blk W1 w.heap.size 38 #[.int .i64 0,.string ⟨#[]⟩,.int .i64 0] by rw [hW1];exact Blk.new _ _ _);clear hW1;go_wp2_with fail
 go_loopw [10] (fun s wr=>∃i:Nat,s = .int .i64 i∧i≤l.length∧getB l v=getB (l.drop i) v∧Below W1.heap.size W1 wr) (fun s wr=>l.length - (intOf s).toNat)
 case atStart=>exact ⟨0,rfl,Nat.zero_le _,rfl,Zm7 _ _⟩
 case round=>
  obtain ⟨i,rfl,hi,hG,hBr⟩:=hrel;have HG:=hid hG;have HBr:=hid (HB1.out.trans (hBr.mono HB1.out.size));have HBw:=hid hBr;obtain ⟨u0,u1,u2,f0,f1,f2,hu⟩:=(HK1.out.new_ hBr).z3;have hszw:=hBr.size;have hszw2:=HBr.out.size;clear hG hBr;by_cases hlt:i<l.length
  · obtain ⟨y,hy⟩ : ∃y,y=l[i]:=⟨_,rfl⟩
    have hdr:l.drop i=l[i] :: l.drop (i+1):=Znj hlt;rw [← hy] at hdr;obtain ⟨g,off,rfl,_,hg,q0,q1,q2,q3⟩:=Z7x (H0.out.new_ HBr.out) hlt;rw [← hy] at q0 q1 q2 q3;have HDR:=hid hdr;(have b1:(0:Int)≤(i:Int):=by omega);(have b2:(i:Int)<(l.length:Int):=by omega);clear hy hdr;by_cases hv:y.var.toList=v.toList
    · have HR:=hid (show getB l v=(y.sym,true) by rw [HG.out,HDR.out,Zbj,if_pos hv])
      (have v1:(y.var.toList == v.toList)=true:=by simp [hv]);(have v2:decide (y.var.toList=v.toList)=true:=by simp [hv]);clear hv;(go_wp2_with fail);unfold Zkh;rw [HR.out];exact bodyPost_ret (v:=.tuple #[.agg #[.int .i64 y.sym.kind,.string y.sym.text,.int .i64 y.sym.n],.bool true]) (by simp [results,Tryz.results123,go_sem, *]) rfl ⟨rfl,by (repeat (first | exact Zm7 _ _ | exact HB1.out | exact (HBr.out) | refine Below.drew ?_ | refine Below.al ?_ _ | refine Below.sc ?_ _))⟩
    · have HR:=hid (show getB l v=getB (l.drop (i+1)) v by rw [HG.out,HDR.out,Zbj,if_neg hv])
      (have v1:(y.var.toList == v.toList)=false:=by simp [hv]);(have v2:decide (y.var.toList=v.toList)=false:=by simp [hv]);clear hv;(go_wp2_with fail);go_roundw
      case rel=>exact ⟨i+1,by go_num,by omega,HR.out,by (repeat (first | exact Zm7 _ _ | exact HBw.out | refine Below.drew ?_ | refine Below.al ?_ _ | refine Below.sc ?_ _))⟩
      case measure=>simp [intOf]<;>omega
  · have hie:i=l.length:=by omega
    subst hie;have HR:=hid (show getB l v=(zS,false) by rw [HG.out,Zni];rfl);(go_wp2_with fail);unfold Zkh;rw [HR.out];exact bodyPost_ret (v:=.tuple #[.agg #[.int .i64 0,.string ⟨#[]⟩,.int .i64 0],.bool false]) (by simp [results,Tryz.results123,go_sem, *]) rfl ⟨rfl,by (repeat (first | exact Zm7 _ _ | exact HB1.out | exact (HBr.out) | refine Below.drew ?_ | refine Below.al ?_ _ | refine Below.sc ?_ _))⟩
end
section
instance memText (v:ByteArray) (l:List ByteArray):Decidable (v∈l):=decidable_of_iff (l.any (fun u=>decide (u=v))=true) (by simp)
def Z5w (P:ByteArray→Bool):List ByteArray→List Z17→List Z17
 | _,[]=>[]
 | seen,b :: l=>if P b.var=true∧b.var ∉ seen then b :: Z5w P (b.var :: seen) l else Z5w P seen l
theorem Z8j (P:ByteArray→Bool) : ∀(l:List Z17) (seen:List ByteArray),(Z5w P seen l).length≤l.length
 | [],_=>Zm8 _
 | b :: l,seen=>by
   rw [Z5w]
   split
   · have:=Z8j P l (b.var :: seen);simp only [Zmp];omega
   · have:=Z8j P l seen;simp only [Zmp];omega
theorem Z8k (P:ByteArray→Bool) : ∀(l:List Z17) (seen:List ByteArray) {b:Z17},b∈Z5w P seen l→b∈l∧P b.var=true∧b.var ∉ seen
 | [],_,b,h=>by cases h
 | a :: l,seen,b,h=>by
   rw [Z5w] at h
   split at h
   · rename_i h1
     rcases Zms.1 h with h | h
     · subst h;exact ⟨Znw,h1.1,h1.2⟩
     · obtain ⟨h2,h3,h4⟩:=Z8k P l _ h
       exact ⟨Znq _ h2,h3,fun h5=>h4 (Znq _ h5)⟩
   · obtain ⟨h2,h3,h4⟩:=Z8k P l _ h
     exact ⟨Znq _ h2,h3,h4⟩
theorem Z69 (P:ByteArray→Bool) : ∀(l:List Z17) (seen:List ByteArray),(Z5w P seen l).Pairwise (fun a b=>a.var≠b.var)
 | [],_=>.nil
 | a :: l,seen=>by
   rw [Z5w]
   split
   · exact .cons (fun b hb e=>(Z8k P l _ hb).2.2 (by rw [← e];exact Znw)) (Z69 P l _)
   · exact Z69 P l _
def symT (l:List Z17) (t:Z1t):Sym×Bool:=if t.var.toList = [] then (t.sym,true) else getB l t.var
def Z4l (a:Sym) (l:List Z17) (t:Z1t):List Z0n:=
 if t.rel≠2∧t.rel≠7 then [] else if (symT l t).2=true∧(a.kind=1∨(symT l t).1.kind=1) then [⟨a,(symT l t).1,t.rel⟩] else []
def Z2x (ts:List Z1t) (a:Sym) (l:List Z17):List Z0n:=ts.flatMap (Z4l a l)
theorem Zf6 (a:Sym) (l:List Z17) (t:Z1t):(Z4l a l t).length≤1:=by
 unfold Z4l
 split
 · simp
 · split<;>simp
theorem Z67 (ts:List Z1t) (a:Sym) (l:List Z17):(Z2x ts a l).length≤ts.length:=by
 unfold Z2x
 induction ts with
 | nil=>simp
 | cons t ts ih=>have:=Zf6 a l t;rw [Zn7,Zmd,Zmp];omega
theorem Zb3 {ts:List Z1t} {k:Nat} (hk:k<ts.length) (a:Sym) (l:List Z17):Z2x (ts.take (k+1)) a l=Z2x (ts.take k) a l++Z4l a l ts[k]:=by
 unfold Z2x;rw [Zn8,Zmc hk,Zmq];simp
def Z2t (ts:List Z1t):List ByteArray:=(ts.filter fun t=>decide (t.rel=1∧¬t.var.toList = [])).map Z1t.var
structure Zio where
 known:List ByteArray
 holes:List Z5b
 aparts:List Z0n
 n:Nat
def Z4x (names:Z08→List ByteArray) (es:List Z09) (l:List Z17) (s:Zio) (c:Z08):Zio:=
 if c.kind=1 then
  ⟨s.known++c.id :: (Z2t c.attr++Z2t c.value),s.holes,s.aparts++(match es[s.n]? with | none=>[] | some e=>Z2x c.attr e.elem.attr l++Z2x c.value e.elem.value l),s.n+1⟩
 else ⟨s.known,s.holes ++ [⟨c,Z5w (fun v=>decide (v∈names c) && decide (v∈s.known)) [] l⟩],s.aparts,s.n⟩
def Z57 (names:Z08→List ByteArray) (es:List Z09) (l:List Z17) (cs:List Z08):Zio:=cs.foldl (Z4x names es l) ⟨[],[],[],0⟩
theorem Z6a (names:Z08→List ByteArray) (es:List Z09) (l:List Z17) {cs:List Z08} {k:Nat} (hk:k<cs.length):Z57 names es l (cs.take (k+1))=Z4x names es l (Z57 names es l (cs.take k)) cs[k]:=by
 unfold Z57;rw [Zn8,Zmc hk,List.foldl_append];rfl
def posN (cs:List Z08):Nat:=(cs.filter fun c=>decide (c.kind=1)).length
def negs (cs:List Z08):List Z08:=cs.filter fun c=>decide (¬c.kind=1)
theorem Z6t {cs:List Z08} {k:Nat} (hk:k<cs.length):posN (cs.take (k+1))=posN (cs.take k)+if cs[k].kind=1 then 1 else 0:=by
 unfold posN;rw [Zn8,Zmc hk,List.filter_append,Zmd];by_cases h:cs[k].kind=1<;>simp [h]
theorem Z8q {cs:List Z08} {k:Nat} (hk:k<cs.length):negs (cs.take (k+1))=negs (cs.take k)++if cs[k].kind=1 then [] else [cs[k]]:=by
 unfold negs;rw [Zn8,Zmc hk,List.filter_append];by_cases h:cs[k].kind=1<;>simp [h]
theorem Zef (names:Z08→List ByteArray) (es:List Z09) (l:List Z17) (cs:List Z08) : ∀k,k≤cs.length→(Z57 names es l (cs.take k)).n=posN (cs.take k)
 | 0,_=>rfl
 | k+1,h=>by
   rw [Z6a names es l (by omega),Z6t (by omega),← Zef names es l cs k (by omega),Z4x]
   split<;>simp [*]
theorem Z7o (names:Z08→List ByteArray) (es:List Z09) (l:List Z17) (cs:List Z08) : ∀k,k≤cs.length→(Z57 names es l (cs.take k)).holes.map Z5b.cond=negs (cs.take k)∧
 ∀h∈(Z57 names es l (cs.take k)).holes,h.binds.length≤l.length∧h.binds.Pairwise (fun a b=>a.var≠b.var)
 | 0,_=>⟨rfl,fun h hh=>by cases hh⟩
 | k+1,hk=>by
   obtain ⟨h1,h2⟩:=Z7o names es l cs k (by omega);rw [Z6a names es l (by omega),Z8q (by omega),Z4x]
   split
   · exact ⟨by simpa using h1,h2⟩
   · refine ⟨by simp [h1],fun h hh=>?_⟩
     rcases Znh.1 hh with hh | hh
     · exact h2 h hh
     · rw [List.mem_singleton.1 hh]
       exact ⟨Z8j _ _ _,Z69 _ _ _⟩
def Zd1 (names:Z08→List ByteArray) (num level:Int) (cs:List Z08) (es more:List Z09) (l:List Z17) (news:List Sym):Z0d:=
 ⟨num,level,es++more,(Z57 names es l cs).holes,(Z57 names es l cs).aparts,news⟩
end
section
open Go.RowKit Go.Shelf
attribute [local go_sem] Oper.semAt_some
def NM (D:Nat→Prop) (X:World) (S:Nat→Option (List Z0i)):Prop:=∃σ,Zgc D X S σ∧∀q,D q→Off q S σ
section
variable {D D':Nat→Prop} {X Y:World} {S:Nat→Option (List Z0i)} {b:Nat} {l:List Z0i}
theorem NM.low (h:NM D X S) : ∀k,D k→k<X.heap.size:=by obtain ⟨σ,h1,_⟩:=h;exact h1.low
theorem NM.weaken (h:NM D X S) (hD : ∀k,D' k→D k):NM D' X S:=by obtain ⟨σ,h1,h2⟩:=h;exact ⟨σ,h1.weaken hD,fun q hq=>h2 q (hD q hq)⟩
theorem NM.own (h:NM D X S) (hF:Fr D X Y):NM (Plus D X Y) Y S:=by
 obtain ⟨σ,h,ho⟩:=h;exact ⟨σ,Sets.widen (D:=D) ⟨fun b l hb=>(h.at_ b l hb).fr hF (fun hd=>(ho b hd b l hb).1 rfl) (fun a ha hd=>(ho _ hd b l hb).2 a ha rfl),h.srt,h.out,h.apart,fun k hk=>Zma (h.low k hk) hF.size⟩ X.heap.size (fun b l hb=>⟨h.lt hb,fun _ a ha=>(h.at_ b l hb).row_lt a ha⟩),fun q hq=>hq.elim (ho q) (fun hq=>Off.new_ h hq.1)⟩
theorem NM.new_ (h:NM D X S) (hb:Below X.heap.size X Y):NM (Plus D X Y) Y S:=h.own (Fr.of_new hb)
theorem NM.srt (h:NM D X S) (hb:S b=some l):Srt Z00 l:=by obtain ⟨σ,h1,_⟩:=h;exact h1.srt b l hb
theorem NM.outD (h:NM D X S) (hb:S b=some l) : ¬D b∧b<X.heap.size:=by obtain ⟨σ,h1,_⟩:=h;exact ⟨(h1.out b l hb).1,h1.lt hb⟩
theorem NM.start (hD : ∀k,D k→k<X.heap.size):NM D X (fun _=>none):=⟨_,(Sets.start _ _ _ _ _ X).weaken hD,fun _ _ _ _ h=>by cases h⟩
theorem Zkb (h:NM D X S):Calls Tryz.prog 64 #[.slice none 0 0] X fun e Y=>∃k,e = .returned (.pointer (some ⟨k,0,none⟩))∧X.heap.size≤k∧NM D Y (upd S k (some []))∧Below X.heap.size X Y:=by
 obtain ⟨σ,h,ho⟩:=h;refine (Zho none 0 [] X (Z18.nil _ _ _) (by simp)).mono ?_;rintro e w' ⟨k,he,hk,sn,A',c',h1,hA,hB⟩;refine ⟨k,he,hk,⟨_,h.add hk h1 (Srt.puts Z2a [] Srt.nil) (.inl hA) hB,fun q hq b l hb=>?_⟩,hB⟩;have hq2:=h.low q hq;by_cases e:b=k
 · subst e
   rw [Z0o];exact ⟨by omega,fun a ha=>by have:=hA a ha;omega⟩
 · rw [Z1p _ _ e] at hb ⊢
   exact ho q hq b l hb
theorem Zlu (v:ByteArray) (h:NM D X S) (hb:S b=some l) (hl:(l.length:Int)≤1000000000):Calls Tryz.prog 121 #[.pointer (some ⟨b,0,none⟩),.string v] X fun e Y=>e = .returned (.bool (has Z00 l v))∧Below X.heap.size X Y:=by
 obtain ⟨σ,h,_⟩:=h;have HP:=hid (Zdm b _ _ _ l v X (h.at_ b l hb) (h.srt b l hb) hl);clear h hb;go_enter Tryz.func121,Tryz.ntmps121;(go_wp2_with fail);refine HP.out.mono ?_;rintro e w1 ⟨rfl,hb1⟩;have HB:=hid hb1;clear hb1;(go_wp2_with fail);go_ret;exact ⟨rfl,HB.out⟩
theorem Zhp (x:ByteArray) (h:NM D X S) (hb:S b=some l) (hl:(l.length:Int)≤100000000):Calls Tryz.prog 67 #[.pointer (some ⟨b,0,none⟩),.string x] X fun e Y=>e = .returned (.bool (!has Z00 l x))∧NM D Y (upd S b (some (put Z00 l x)))∧Fr (fun k=>¬D k) X Y:=by
 obtain ⟨σ,h,ho⟩:=h;refine (Zc6 b _ _ _ l x X (h.at_ b l hb) (h.srt b l hb) hl).mono ?_;rintro e w' ⟨he,sn',A',c',h1,hF,hM⟩;exact ⟨he,⟨_,h.moved (by decide) hb h1 ((h.srt b l hb).put Z2a x) hF hM,fun q hq=>(ho q hq).moved (st:=⟨sn',A',c'⟩) hb hM (h.low q hq)⟩,h.mod hb hF⟩
theorem Zl3 (x:ByteArray) (h:NM D X S) (hb:S b=some l) (hl:(l.length:Int)≤100000000):Calls Tryz.prog 122 #[.pointer (some ⟨b,0,none⟩),.string x] X fun e Y=>e = .returned (.bool (has Z00 l x))∧NM D Y (upd S b (some (drop Z00 l x)))∧Fr (fun k=>¬D k) X Y:=by
 obtain ⟨σ,h,ho⟩:=h;refine (Zfm b _ _ _ l x X (h.at_ b l hb) (h.srt b l hb) hl).mono ?_;rintro e w' ⟨he,sn',A',c',h1,hF,hM⟩;exact ⟨he,⟨_,h.moved (by decide) hb h1 ((h.srt b l hb).drop x) hF hM,fun q hq=>(ho q hq).moved (st:=⟨sn',A',c'⟩) hb hM (h.low q hq)⟩,h.mod hb hF⟩
end
theorem Z82 {l:List Z0i} {v:ByteArray}:has Z00 l v=true↔v∈l:=by
 rw [Z4w];exact ⟨fun ⟨y,h1,h2⟩=>Z4v.1 h2 ▸ h1,fun h=>⟨v,h,Z4v.2 rfl⟩⟩
theorem Zaf {l:List Z0i} {v x:ByteArray}:v∈put Z00 l x↔v∈l∨v=x:=by
 cases h:has Z00 l x
 · unfold put
   rw [h,if_neg (by simp),Znh,Zms,Z3r,Z3q];have hn : ∀y∈l,Z00 y x≠0:=Z38.1 h;constructor
   · rintro (h1 | h1 | h1)
     · exact .inl h1.1
     · exact .inr h1
     · exact .inl h1.1
   · rintro (h1 | h1)
     · have:=hn v h1
       rcases (by omega:Z00 v x<0∨0<Z00 v x) with h2 | h2
       · exact .inl ⟨h1,h2⟩
       · exact .inr (.inr ⟨h1,h2⟩)
     · exact .inr (.inl h1)
 · rw [Z4b h]
   exact ⟨.inl,fun h2=>h2.elim id (fun e=>by rw [e];exact Z82.1 h)⟩
theorem Zhg {l:List Z0i} {v x:ByteArray}:v∈drop Z00 l x↔v∈l∧v≠x:=by
 rw [Zjh];exact ⟨fun h=>⟨h.1,fun e=>h.2 (Z4v.2 e)⟩,fun h=>⟨h.1,fun e=>h.2 (Z4v.1 e)⟩⟩
def goB:List Z0i→List Z17→List Z17
 | _,[]=>[]
 | S,b :: l=>if has Z00 S b.var=true then b :: goB (drop Z00 S b.var) l else goB S l
theorem Za9 (P:ByteArray→Bool) : ∀(l:List Z17) (S:List Z0i) (seen:List ByteArray),(∀v,v∈S↔P v=true∧v ∉ seen)→goB S l=Z5w P seen l
 | [],_,_,_=>rfl
 | b :: l,S,seen,h=>by
   rw [goB,Z5w];by_cases hb:b.var∈S
   · rw [if_pos (Z82.2 hb),if_pos ((h _).1 hb)]
     congr 1;refine Za9 P l _ _ (fun v=>?_);rw [Zhg,h v,Zms];exact ⟨fun ⟨⟨h1,h2⟩,h3⟩=>⟨h1,fun h4=>h4.elim h3 h2⟩,fun ⟨h1,h2⟩=>⟨⟨h1,fun h3=>h2 (.inr h3)⟩,fun h3=>h2 (.inl h3)⟩⟩
   · rw [if_neg (fun h2=>hb (Z82.1 h2)),if_neg (fun h2=>hb ((h _).2 h2))]
     exact Za9 P l _ _ h
def inL (L:List Z0i) (q:List ByteArray):List Z0i:=puts Z00 [] (q.filter (fun v=>has Z00 L v))
theorem Zkt {L:List Z0i} {q:List ByteArray} {v:ByteArray} (h:has Z00 L v=true):inL L (q ++ [v])=put Z00 (inL L q) v:=by
 unfold inL;rw [List.filter_append,List.filter_cons,if_pos h,List.filter_nil,Z2q]
theorem Zlt {L:List Z0i} {q:List ByteArray} {v:ByteArray} (h:has Z00 L v=false):inL L (q ++ [v])=inL L q:=by
 unfold inL;rw [List.filter_append,List.filter_cons,if_neg (by rw [h];simp),List.filter_nil,Zn9]
theorem Zh4 (L:List Z0i) (q:List ByteArray):(inL L q).length≤q.length:=by
 unfold inL;have h1:=Z12 Z2a (q.filter (fun v=>has Z00 L v)) (Srt.nil (cmp:=Z00));have h2:=List.length_filter_le (fun v=>has Z00 L v) q;rw [Znc] at h1;omega
theorem Zbs : ∀(xs:List ByteArray) (l:List Z0i) (v:ByteArray),v∈puts Z00 l xs↔v∈l∨v∈xs
 | [],l,v=>by simp [puts]
 | x :: xs,l,v=>by
   rw [show puts Z00 l (x :: xs)=puts Z00 (put Z00 l x) xs from rfl,Zbs xs,Zaf,Zms,or_assoc]
theorem Zkz {L:List Z0i} {q:List ByteArray} {v:ByteArray}:v∈inL L q↔v∈q∧v∈L:=by
 unfold inL;rw [Zbs,List.mem_filter,Z82];simp
end
section
open Go.RowKit
inductive Z36 {α β:Type} (R:α→β→Prop):List α→List β→Prop
 | nil:Z36 R [] []
 | cons {a:α} {b:β} {l:List α} {m:List β}:R a b→Z36 R l m→Z36 R (a :: l) (b :: m)
section
variable {α β:Type} {R R':α→β→Prop}
theorem Z36.length : ∀{l:List α} {m:List β},Z36 R l m→l.length=m.length
 | _,_,.nil=>rfl
 | _,_,.cons _ h=>by simp [h.length]
theorem Z36.imp (hr : ∀a b,R a b→R' a b) : ∀{l:List α} {m:List β},Z36 R l m→Z36 R' l m
 | _,_,.nil=>.nil
 | _,_,.cons h t=>.cons (hr _ _ h) (t.imp hr)
theorem Z36.append : ∀{l l':List α} {m m':List β},Z36 R l m→Z36 R l' m'→Z36 R (l++l') (m++m')
 | _,_,_,_,.nil,h=>h
 | _,_,_,_,.cons h t,k=>.cons h (t.append k)
theorem Z36.get : ∀{l:List α} {m:List β},Z36 R l m→∀k,(h:k<l.length)→∃h':k<m.length,R l[k] m[k]
 | _,_,.nil,_,h=>absurd h (by simp)
 | _,_,.cons h _,0,_=>⟨by simp,h⟩
 | _,_,.cons _ t,k+1,h=>by
   obtain ⟨h1,h2⟩:=t.get k (by simpa using h);exact ⟨by simpa using h1,by simpa using h2⟩
end
theorem Z8h {size:Nat} : ∀(css:List (List Value)),(∀cs∈css,cs.length=size)→∀k,(h:k<css.length)→∀j,j<size→css.flatten[k*size+j]? = css[k][j]?
 | [],_,_,h,_,_=>absurd h (by simp)
 | c :: css,hs,0,_,j,hj=>by
   rw [List.flatten_cons,Zn1 (by rw [hs c (by simp)];omega)];simp
 | c :: css,hs,k+1,h,j,hj=>by
   have hc:=hs c (by simp);rw [List.flatten_cons,Zn0 (by rw [hc,Nat.add_mul];omega),hc];rw [show (k+1)*size+j - size=k*size+j by rw [Nat.add_mul];omega];exact Z8h css (fun cs h=>hs cs (by simp [h])) k (by simpa using h) j hj
theorem Zce {α:Type} (n:Nat) : ∀l:List α,(l.map fun _=>n).sum=l.length*n
 | []=>by simp
 | _ :: l=>by simp only [List.map_cons,List.sum_cons,Zmp,Zce n l,Nat.add_mul];omega
section
variable {α:Type} {r:RepT α} {e:TypeId} {base:Nat} {w w':World} {v:Value} {l:List α}
end
section
variable {P:Program} (w:World)
theorem Z8z (t ty e:TypeId) (i:TypeInfo) (z:Value) (size bytes:Nat) (ht:P.underlying t=some (.slice e)) (hi:P.info? e=some i) (hz:i.zero=some z)
 (hsize:i.size=size) (hby:i.bytes=bytes) (hzs:z.cells.size=size) (hsz:0<size)
 (base:Nat) (hbase:base≤w.heap.size) (v:Value) (n:Nat) (xs:List Value) (hown:w.ownsRow base e size v n xs) (A:Option Addr) (m c:Nat) (news:List Value) (hl:news.length=m*size)
 (hnews:0<m→∃ad,A=some ad∧∀j u,news[j]? = some u→w.cell? (ad.add j)=some u) (h1 : ∀u∈news,u.oneCell'=true)
 (h63:n+m≤maxLen) (hbytes:(n+m)*bytes≤140737488355328) :
 ∃v' w',(Builtin.append_ #[t,t] ty #[v,.slice A m c]).run P w = .ok v' w'∧w'.ownsRow base e size v' (n+m) (xs++news)∧w.grownBy w' v.ownBlock∧
  (v' = .slice none 0 0↔v = .slice none 0 0∧m=0)∧(v'.ownBlock=v.ownBlock∨v'.ownBlock=some w.heap.size):=by
 rcases Nat.eq_zero_or_pos m with rfl | hm
 · have hn:news = []:=List.eq_nil_of_length_eq_zero (by simpa using hl)
   subst hn;rcases A with _ | ad
   · refine ⟨v,w,?_,by simpa using hown,World.grownBy.refl w _,by simp,.inl rfl⟩
     rcases hown.2 with ⟨rfl,rfl⟩ | ⟨g,cap,cur,rfl,_,_,hnc,_⟩
     · simp [Builtin.append_,run_underlying ht,sizeOf,typeInfo,hi,Builtin.lenOf,Builtin.firstCells]
     · simp [Builtin.append_,run_underlying ht,sizeOf,typeInfo,hi,Builtin.lenOf,Builtin.firstCells,hnc,storeCells]
   · exact run_append_own_at w base t ty e i z size bytes ht hi hz hsize hby hzs hsz v n xs hown ad 0 c [] (by simp) (by simp) (by simp) h63 hbytes hbase
 · obtain ⟨ad,rfl,hc⟩:=hnews hm
   exact run_append_own_at w base t ty e i z size bytes ht hi hz hsize hby hzs hsz v n xs hown ad m c news hl hc h1 h63 hbytes hbase
theorem Z61 {o:Oper} {a:Act} {K:Act→World→Prop} {Q:Exit→Act→World→Prop} (s x:Operand) (t:TypeId)
 (ho:o.op = .call { callee:=.builtin .append,args:=#[s,x],argTypes:=#[t,t] })
 (e:TypeId) (i:TypeInfo) (z:Value) (size bytes:Nat) (ht:P.underlying t=some (.slice e)) (hi:P.info? e=some i) (hz:i.zero=some z)
 (hsize:i.size=size) (hby:i.bytes=bytes) (hzs:z.cells.size=size) (hsz:0<size)
 (base:Nat) (hbase:base≤w.heap.size) (v:Value) (n:Nat) (xs:List Value) (hs:a.eval s=v) (hown:w.ownsRow base e size v n xs)
 (A:Option Addr) (m c:Nat) (news:List Value) (hx:a.eval x = .slice A m c) (hl:news.length=m*size)
 (hnews:0<m→∃ad,A=some ad∧∀j u,news[j]? = some u→w.cell? (ad.add j)=some u) (h1 : ∀u∈news,u.oneCell'=true)
 (h63:n+m≤maxLen) (hbytes:(n+m)*bytes≤140737488355328)
 (h : ∀v' w',w'.ownsRow base e size v' (n+m) (xs++news)→w.grownBy w' v.ownBlock→(v' = .slice none 0 0↔v = .slice none 0 0∧m=0)→(v'.ownBlock=v.ownBlock∨v'.ownBlock=some w.heap.size)→K (a.put o.dst v') w') :
 Oper.wp P o a w K Q:=by
 obtain ⟨v',w',hr,h2,h3,h4,h5⟩:=Z8z (P:=P) w t o.type e i z size bytes ht hi hz hsize hby hzs hsz base hbase v n xs hown A m c news hl hnews h1 h63 hbytes;unfold Oper.wp execOp;simp only [ho,resolve,invoke,builtin,Sem.run_bind,Sem.run_pure,Result.andThen_ok,List.map_toArray,List.map_cons,List.map_nil,hs,hx,hr];exact h v' w' h2 h3 h4 h5
theorem Z7w {ops:Array Oper} {o:Oper} {a:Act} {K:Act→World→Prop} {Q:Exit→Act→World→Prop} {E:Prop} (hgd:o.guard=none) (s x:Operand) (t:TypeId)
 (ho:o.op = .call { callee:=.builtin .append,args:=#[s,x],argTypes:=#[t,t] })
 (e:TypeId) (i:TypeInfo) (z:Value) (size bytes:Nat) (ht:P.underlying t=some (.slice e)) (hi:P.info? e=some i) (hz:i.zero=some z)
 (hsize:i.size=size) (hby:i.bytes=bytes) (hzs:z.cells.size=size) (hsz:0<size)
 (base:Nat) (hbase:base≤w.heap.size) (v:Value) (n:Nat) (xs:List Value) (hs:a.eval s=v) (hown:w.ownsRow base e size v n xs)
 (A:Option Addr) (m c:Nat) (news:List Value) (hx:a.eval x = .slice A m c) (hl:news.length=m*size)
 (hnews:0<m→∃ad,A=some ad∧∀j u,news[j]? = some u→w.cell? (ad.add j)=some u) (h1 : ∀u∈news,u.oneCell'=true)
 (h63:n+m≤maxLen) (hbytes:(n+m)*bytes≤140737488355328)
 (h : ∀v' w',w'.ownsRow base e size v' (n+m) (xs++news)→w.grownBy w' v.ownBlock→(v' = .slice none 0 0↔v = .slice none 0 0∧m=0)→(v'.ownBlock=v.ownBlock∨v'.ownBlock=some w.heap.size)→K (a.put o.dst v') w') :
 if Region.wanted o (yielded ops a.tmps)=true then Oper.wp P o a w K Q else E:=by
 rw [if_pos (by simp [Region.wanted,hgd])];exact Z61 w s x t ho e i z size bytes ht hi hz hsize hby hzs hsz base hbase v n xs hs hown A m c news hx hl hnews h1 h63 hbytes h
theorem Z6z {ops:Array Oper} {rest:List Oper} {o:Oper} {a:Act} {Q:Exit→Act→World→Prop} (hgd:o.guard=none) (s x:Operand) (t:TypeId)
 (ho:o.op = .call { callee:=.builtin .append,args:=#[s,x],argTypes:=#[t,t] })
 (e:TypeId) (i:TypeInfo) (z:Value) (size bytes:Nat) (ht:P.underlying t=some (.slice e)) (hi:P.info? e=some i) (hz:i.zero=some z)
 (hsize:i.size=size) (hby:i.bytes=bytes) (hzs:z.cells.size=size) (hsz:0<size)
 (base:Nat) (hbase:base≤w.heap.size) (v:Value) (n:Nat) (xs:List Value) (hs:a.eval s=v) (hown:w.ownsRow base e size v n xs)
 (A:Option Addr) (m c:Nat) (news:List Value) (hx:a.eval x = .slice A m c) (hl:news.length=m*size)
 (hnews:0<m→∃ad,A=some ad∧∀j u,news[j]? = some u→w.cell? (ad.add j)=some u) (h1 : ∀u∈news,u.oneCell'=true)
 (h63:n+m≤maxLen) (hbytes:(n+m)*bytes≤140737488355328)
 (h : ∀v' w',w'.ownsRow base e size v' (n+m) (xs++news)→w.grownBy w' v.ownBlock→(v' = .slice none 0 0↔v = .slice none 0 0∧m=0)→(v'.ownBlock=v.ownBlock∨v'.ownBlock=some w.heap.size)→wpList P ops Q rest (a.put o.dst v') w') :
 wpList P ops Q (o :: rest) a w:=
 wpList_plain hgd fun _ hK=>Z61 w s x t ho e i z size bytes ht hi hz hsize hby hzs hsz base hbase v n xs hs hown A m c news hx hl hnews h1 h63 hbytes (fun v' w' a b c d=>hK _ _ (h v' w' a b c d))
end
section
variable {P:Program} {α:Type} {r:RepT α} (w:World)
end
end
section
open Go.RowKit
def NewD (B:Nat) (w:World):Nat→Prop:=fun k=>B≤k∧k<w.heap.size
def OwnC {α:Type} (r:RepT α) (e:TypeId) (C:Nat→Prop) (w:World) (v:Value) (l:List α):Prop:=
 ∃css,w.ownsRow 0 e r.size v l.length css.flatten∧Z36 (fun a cs=>r.rep C w a cs) l css∧∀k,v.ownBlock=some k→¬C k
theorem Z4p {w:World} {e:TypeId} {size n:Nat} {v:Value} {xs:List Value} (h:w.ownsRow 0 e size v n xs) : ∀k,v.ownBlock=some k→k<w.heap.size:=by
 intro k hk;rcases h.2 with ⟨rfl,_⟩ | ⟨g,cap,cur,rfl,_,hg,_⟩
 · cases hk
 · simp only [Value.ownBlock,Option.some.injEq] at hk
   subst hk;exact Blk.lt (t:=e) hg
section
variable {α:Type} {r:RepT α} {e:TypeId} {C C':Nat→Prop} {w w':World} {v:Value} {l:List α}
theorem OwnC.nil (r:RepT α) (e:TypeId) (C:Nat→Prop) (w:World):OwnC r e C w (.slice none 0 0) []:=⟨[],⟨by simp,.inl ⟨rfl,rfl⟩⟩,.nil,fun _ h=>by cases h⟩
theorem OwnC.form (h:OwnC r e C w v l) : ∃A c,v = .slice A l.length c∧l.length≤c∧c≤maxLen∧AIn A (fun j=>j<w.heap.size∧¬C j):=by
 obtain ⟨css,hown,_,hC⟩:=h;have hlt:=Z4p hown;obtain ⟨A,c,rfl,h1,h2,_⟩:=Z0y hown;exact ⟨A,c,rfl,h1,h2,fun a ha=>by subst ha;exact ⟨hlt _ rfl,hC _ rfl⟩⟩
theorem OwnC.lt (h:OwnC r e C w v l) : ∀k,v.ownBlock=some k→k<w.heap.size:=by
 obtain ⟨css,hown,_⟩:=h;exact Z4p hown
theorem OwnC.off (h:OwnC r e C w v l) : ∀k,v.ownBlock=some k→¬C k:=by
 obtain ⟨_,_,_,h⟩:=h;exact h
theorem OwnC.keep (h:OwnC r e C w v l) (hs:w.heap.size≤w'.heap.size) (hk : ∀k,C k→k<w.heap.size→C' k∧w'.heap[k]? = w.heap[k]?) (hv : ∀k,v.ownBlock=some k→w'.heap[k]? = w.heap[k]?∧¬C' k):OwnC r e C' w' v l:=by
 obtain ⟨css,hown,he,hC⟩:=h;refine ⟨css,⟨hown.1,hown.2.imp id fun ⟨g,cap,cur,hv',h0,hg,hr⟩=>⟨g,cap,cur,hv',h0,(hv g (by rw [hv'];rfl)).1.trans hg,hr⟩⟩,he.imp fun a cs hr=>r.keep hs hk hr,fun k hk=>(hv k hk).2⟩
theorem OwnC.new_ (h:OwnC r e C w v l) (hb:Below w.heap.size w w'):OwnC r e C w' v l:=
 h.keep hb.size (fun k hk hl=>⟨hk,hb.block k hl⟩) (fun k hk=>⟨hb.block k (h.lt k hk),h.off k hk⟩)
theorem OwnC.plus (h:OwnC r e C w v l) (hb:Below w.heap.size w w'):OwnC r e (Plus C w w') w' v l:=
 h.keep hb.size (fun k hk hl=>⟨.inl hk,hb.block k hl⟩) (fun k hk=>⟨hb.block k (h.lt k hk),fun hp=>hp.elim (h.off k hk) (fun hp=>by have:=h.lt k hk;omega)⟩)
theorem OwnC.fr {M:Nat→Prop} (h:OwnC r e C w v l) (hF:Fr M w w') (hC : ∀k,C k→¬M k) (hv : ∀k,v.ownBlock=some k→¬M k):OwnC r e C w' v l:=
 h.keep hF.size (fun k hk hl=>⟨hk,hF.block k hl (hC k hk)⟩) (fun k hk=>⟨hF.block k (h.lt k hk) (hv k hk),h.off k hk⟩)
theorem OwnC.row {A:Option Addr} {n c:Nat} (h:OwnC r e C w (.slice A n c) l) (hC : ∀k,C k→C' k) (hA:AIn A C'):RowR r C' w A c l:=by
 obtain ⟨A',c',hv,h1,h2,_⟩:=h.form;injection hv with hA' hn hc;subst hA';subst hc;obtain ⟨css,hown,he,_⟩:=h;refine ⟨h1,h2,fun h0=>?_⟩
 have hsz : ∀cs∈css,cs.length=r.size:=fun cs hcs=>by
  obtain ⟨k,hk,rfl⟩:=List.getElem_of_mem hcs;obtain ⟨_,h3⟩:=he.get k (by rw [he.length];exact hk);exact r.len h3
 rcases hown.2 with ⟨hv,hn0⟩ | ⟨g,cap,cur,hv,_,hg,hn2,hc2,hs2,ht⟩
 · omega
 · injection hv with hA' _ hc
   subst hA';have hgl:g<w.heap.size:=Blk.lt (t:=e) hg;refine ⟨g,0,rfl,hA _ rfl,hgl,fun k hk=>?_⟩;obtain ⟨hk2,hrep⟩:=he.get k hk;refine ⟨css[k],r.keep (Zm8 _) (fun j hj _=>⟨hC j hj,rfl⟩) hrep,fun j u hu=>?_⟩;(have hj:j<r.size:=by rw [← r.len hrep];exact (Zn5.1 hu).1);have hf:=Z8h css hsz k hk2 j hj;rw [hu,← ht] at hf;rw [Zmz,Blk.cell (t:=e) hg]
   have hlt:k*r.size+j<l.length*r.size:=by
    have:(k+1)*r.size≤l.length*r.size:=Nat.mul_le_mul_right _ hk;rw [Nat.add_mul] at this;omega
   rw [List.getElem?_take_of_lt hlt] at hf;rw [← hf];simp
theorem OwnC.grown {v':Value} {l2:List α} {css css2:List (List Value)} (he:Z36 (fun a cs=>r.rep C w a cs) l css) (hC : ∀k,v.ownBlock=some k→¬C k) (hCl : ∀k,C k→k<w.heap.size)
 (hown:w'.ownsRow 0 e r.size v' (l++l2).length (css.flatten++css2.flatten)) (hg:w.grownBy w' v.ownBlock)
 (hv:v'.ownBlock=v.ownBlock∨v'.ownBlock=some w.heap.size) (he2:Z36 (fun a cs=>r.rep C w a cs) l2 css2):OwnC r e C w' v' (l++l2):=by
 have up : ∀a cs,r.rep C w a cs→r.rep C w' a cs:=fun a cs hr=>r.keep hg.size (fun k hd hl=>⟨hd,hg.block k hl (fun hk=>hC k hk.symm hd)⟩) hr;refine ⟨css++css2,by rw [List.flatten_append];exact hown,(he.imp up).append (he2.imp up),fun k hk=>?_⟩;rcases hv with hv | hv
 · exact hC k (hv ▸ hk)
 · rw [hv] at hk;injection hk with hk;intro h;have:=hCl k h;omega
theorem Zgy {l2:List α} {css2:List (List Value)} {D:Nat→Prop} {m:Nat} (hm:m=l2.length) (he2:Z36 (fun a cs=>r.rep D w a cs) l2 css2):css2.flatten.length=m*r.size:=by
 have hall : ∀cs∈css2,cs.length=r.size:=fun cs hcs=>by
  obtain ⟨k,hk,rfl⟩:=List.getElem_of_mem hcs;obtain ⟨_,h3⟩:=he2.get k (by rw [he2.length];exact hk);exact r.len h3
 rw [hm,he2.length,List.length_flatten,List.map_congr_left hall];exact Zce _ _
theorem Zj0 (cs:List Value) : [cs].flatten=cs:=by simp
end
def Z4t {α:Type} (r:RepT α) (e:TypeId) (C:Nat→Prop) (w:World) (v:Value) (l:List α) (v':Value) (w':World):Prop:=
 OwnC r e C w' v' l∧w.grownBy w' v.ownBlock∧(v'.ownBlock=v.ownBlock∨v'.ownBlock=some w.heap.size)
section
variable {P:Program} {α:Type} {r:RepT α} (w:World)
theorem Z3e {ops:Array Oper} {rest:List Oper} {o:Oper} {a:Act} {Q:Exit→Act→World→Prop} (hgd:o.guard=none) (s x:Operand) (t:TypeId)
 (ho:o.op = .call { callee:=.builtin .append,args:=#[s,x],argTypes:=#[t,t] })
 (e:TypeId) (i:TypeInfo) (z:Value) (size bytes:Nat) (ht:P.underlying t=some (.slice e)) (hi:P.info? e=some i) (hz:i.zero=some z)
 (hsize:i.size=size) (hby:i.bytes=bytes) (hzs:z.cells.size=size) (hrs:r.size=size) (hsz:0<size)
 (C:Nat→Prop) (hCl : ∀k,C k→k<w.heap.size) (v:Value) (l:List α) (hs:a.eval s=v) (hown:OwnC r e C w v l)
 (ad:Addr) (c:Nat) (y:α) (cs:List Value) (hx:a.eval x = .slice (some ad) 1 c)
 (hnews : ∀j u,cs[j]? = some u→w.cell? (ad.add j)=some u) (h1 : ∀u∈cs,u.oneCell'=true)
 (he2:r.rep C w y cs)
 (h63:l.length+1≤maxLen) (hbytes:(l.length+1)*bytes≤140737488355328)
 (h : ∀v' w',Z4t r e C w v (l ++ [y]) v' w'→wpList P ops Q rest (a.put o.dst v') w') :
 wpList P ops Q (o :: rest) a w:=by
 obtain ⟨css,h2,h3,h4⟩:=hown;subst hrs;have he3:Z36 (fun a cs=>r.rep C w a cs) [y] [cs]:=.cons he2 .nil;refine Z6z w hgd s x t ho e i z r.size bytes ht hi hz hsize hby hzs hsz 0 (Nat.zero_le _) v l.length _ hs h2 (some ad) 1 c [cs].flatten hx (Zgy (l2:=[y]) rfl he3) (fun _=>⟨ad,rfl,by rw [Zj0];exact hnews⟩) (by rw [Zj0];exact h1) h63 hbytes (fun v' w' g1 g2 g3 g4=>h v' w' ⟨?_,g2,g4⟩);exact OwnC.grown h3 h4 hCl (by rw [Zmd];exact g1) g2 g4 he3
theorem Z50 {ops:Array Oper} {o:Oper} {a:Act} {K:Act→World→Prop} {Q:Exit→Act→World→Prop} {E:Prop} (hgd:o.guard=none) (s x:Operand) (t:TypeId)
 (ho:o.op = .call { callee:=.builtin .append,args:=#[s,x],argTypes:=#[t,t] })
 (e:TypeId) (i:TypeInfo) (z:Value) (size bytes:Nat) (ht:P.underlying t=some (.slice e)) (hi:P.info? e=some i) (hz:i.zero=some z)
 (hsize:i.size=size) (hby:i.bytes=bytes) (hzs:z.cells.size=size) (hrs:r.size=size) (hsz:0<size)
 (C:Nat→Prop) (hCl : ∀k,C k→k<w.heap.size) (v:Value) (l:List α) (hs:a.eval s=v) (hown:OwnC r e C w v l)
 (ad:Addr) (c:Nat) (y:α) (cs:List Value) (hx:a.eval x = .slice (some ad) 1 c)
 (hnews : ∀j u,cs[j]? = some u→w.cell? (ad.add j)=some u) (h1 : ∀u∈cs,u.oneCell'=true)
 (he2:r.rep C w y cs)
 (h63:l.length+1≤maxLen) (hbytes:(l.length+1)*bytes≤140737488355328)
 (h : ∀v' w',Z4t r e C w v (l ++ [y]) v' w'→K (a.put o.dst v') w') :
 if Region.wanted o (yielded ops a.tmps)=true then Oper.wp P o a w K Q else E:=by
 obtain ⟨css,h2,h3,h4⟩:=hown;subst hrs;have he3:Z36 (fun a cs=>r.rep C w a cs) [y] [cs]:=.cons he2 .nil;refine Z7w w hgd s x t ho e i z r.size bytes ht hi hz hsize hby hzs hsz 0 (Nat.zero_le _) v l.length _ hs h2 (some ad) 1 c [cs].flatten hx (Zgy (l2:=[y]) rfl he3) (fun _=>⟨ad,rfl,by rw [Zj0];exact hnews⟩) (by rw [Zj0];exact h1) h63 hbytes (fun v' w' g1 g2 g3 g4=>h v' w' ⟨?_,g2,g4⟩);exact OwnC.grown h3 h4 hCl (by rw [Zmd];exact g1) g2 g4 he3
end
end
section
open Go.RowKit
def Int.cells1 (n:Int):List Value:=[.int .i64 n]
theorem Int.cells1_length (n:Int):(Int.cells1 n).length=1:=rfl
theorem Z8l:(Tryz.prog.info? 38).map (fun i=>(i.zero,i.size,i.bytes))=some (some (.agg #[.int .i64 0,.string ⟨#[]⟩,.int .i64 0]),3,32):=by kernel_rfl
theorem Zd9 (l:List Sym) : ∀u∈l.flatMap Sym.cells,u.oneCell'=true:=by
 intro u hu;obtain ⟨b,_,hb⟩:=List.mem_flatMap.1 hu;simp only [Sym.cells,Zms,Zmw,or_false] at hb;rcases hb with rfl | rfl | rfl<;>rfl
theorem Zac:(Tryz.prog.info? 40).map (fun i=>(i.zero,i.size,i.bytes))=some (some (.agg #[.string ⟨#[]⟩,.int .i64 0,.string ⟨#[]⟩,.int .i64 0]),4,48):=by kernel_rfl
theorem Zel (l:List Z17) : ∀u∈l.flatMap Z17.cells,u.oneCell'=true:=by
 intro u hu;obtain ⟨b,_,hb⟩:=List.mem_flatMap.1 hu;simp only [Z17.cells,Zms,Zmw,or_false] at hb;rcases hb with rfl | rfl | rfl | rfl<;>rfl
theorem Z6o:(Tryz.prog.info? 64).map (fun i=>(i.zero,i.size,i.bytes))=some (some (.agg #[.int .i64 0,.string ⟨#[]⟩,.int .i64 0,.int .i64 0,.string ⟨#[]⟩,.int .i64 0,.int .i64 0,.string ⟨#[]⟩,.int .i64 0,.bool false,.bool false,.int .i64 0,.int .i64 0,.int .i64 0]),14,128):=by kernel_rfl
theorem Zc0 (l:List Z09) : ∀u∈l.flatMap Z09.cells,u.oneCell'=true:=by
 intro u hu;obtain ⟨b,_,hb⟩:=List.mem_flatMap.1 hu;simp only [Z09.cells,Zms,Zmw,or_false] at hb;rcases hb with rfl | rfl | rfl | rfl | rfl | rfl | rfl | rfl | rfl | rfl | rfl | rfl | rfl | rfl<;>rfl
theorem Z6n:(Tryz.prog.info? 195).map (fun i=>(i.zero,i.size,i.bytes))=some (some (.agg #[.int .i64 0,.string ⟨#[]⟩,.int .i64 0,.int .i64 0,.string ⟨#[]⟩,.int .i64 0,.int .i64 0]),7,72):=by kernel_rfl
theorem Zbz (l:List Z0n) : ∀u∈l.flatMap Z0n.cells,u.oneCell'=true:=by
 intro u hu;obtain ⟨b,_,hb⟩:=List.mem_flatMap.1 hu;simp only [Z0n.cells,Zms,Zmw,or_false] at hb;rcases hb with rfl | rfl | rfl | rfl | rfl | rfl | rfl<;>rfl
theorem Zku:(Tryz.prog.info? 3).map (fun i=>(i.zero,i.size,i.bytes))=some (some (.int .i64 0),1,8):=by kernel_rfl
theorem Zl4 (l:List Int) : ∀u∈l.flatMap Int.cells1,u.oneCell'=true:=by
 intro u hu;obtain ⟨b,_,hb⟩:=List.mem_flatMap.1 hu;simp only [Int.cells1,Zms,Zmw,or_false] at hb;subst hb;rfl
theorem Ze9:(Tryz.prog.info? 138).map (fun i=>(i.zero,i.size,i.bytes))=some (some (.agg #[.int .i64 0,.string ⟨#[]⟩,.int .i64 0,.string ⟨#[]⟩,.int .i64 0,.slice none 0 0]),6,80):=by kernel_rfl
theorem Zad:(Tryz.prog.info? 59).map (fun i=>(i.zero,i.size,i.bytes))=some (some (.agg #[.int .i64 0,.bool false,.string ⟨#[]⟩,.slice none 0 0,.slice none 0 0,.bool false,.slice none 0 0]),7,112):=by kernel_rfl
theorem Zae:(Tryz.prog.info? 78).map (fun i=>(i.zero,i.size,i.bytes))=some (some (.agg #[.int .i64 0,.bool false,.string ⟨#[]⟩,.slice none 0 0,.slice none 0 0,.bool false,.slice none 0 0,.slice none 0 0]),8,136):=by kernel_rfl
theorem infp {P:Program} {t:TypeId} {z:Value} {s b:Nat} (h:(P.info? t).map (fun i=>(i.zero,i.size,i.bytes))=some (some z,s,b)) : ∃i,P.info? t=some i∧i.zero=some z∧i.size=s∧i.bytes=b:=by
 cases hq:P.info? t with
 | none=>rw [hq] at h;cases h
 | some i=>
   rw [hq] at h;simp only [Zmo,Option.some.injEq,Prod.mk.injEq] at h;exact ⟨i,rfl,h.1,h.2.1,h.2.2⟩
def Z6f {α:Type} (e size:Nat) (cells:α→List Value) (l:List α) (w:World) (en:Ending) (w':World):Prop:=
 ∃A c,en = .returned (.slice A l.length c)∧w'.ownsRow 0 e size (.slice A l.length c) l.length (l.flatMap cells)∧AIn A (NewD w.heap.size w')∧Below w.heap.size w w'
theorem Z48 {α:Type} {e size:Nat} {cells:α→List Value} {l:List α} {w w':World} {v v0:Value} (hown:w'.ownsRow 0 e size v l.length (l.flatMap cells)) (hat:v.ownBlock=v0.ownBlock∨v.ownBlock=some w.heap.size) (h0:v0.ownBlock=none) (hg:w.grownBy w' v0.ownBlock) :
 ∃A c,v = .slice A l.length c∧w'.ownsRow 0 e size (.slice A l.length c) l.length (l.flatMap cells)∧AIn A (NewD w.heap.size w')∧Below w.heap.size w w':=by
 have hlt:=Z4p hown;obtain ⟨A,c,rfl,_,_,_⟩:=Z0y hown;refine ⟨A,c,rfl,hown,fun a ha=>?_,(Zm7 w.heap.size w).grown hg (Zm8 _) (fun k hk=>by rw [h0] at hk;cases hk)⟩;subst ha;rcases hat with h | h
 · rw [h0] at h;cases h
 · have:=hlt a.block rfl
   simp only [Value.ownBlock,Option.some.injEq] at h;exact ⟨by omega,this⟩
theorem Z2p (W:World) (e size:Nat):W.ownsRow 0 e size (.slice none 0 0) 0 []:=⟨by simp,.inl ⟨rfl,rfl⟩⟩
theorem Z6f.row {α:Type} {e size:Nat} {cells:α→List Value} (hs : ∀a,(cells a).length=size) {l:List α} {A:Option Addr} {c B:Nat} {w':World} (h:w'.ownsRow 0 e size (.slice A l.length c) l.length (l.flatMap cells)) (hA:AIn A (NewD B w')):RowR (RepT.flat size cells hs) (NewD B w') w' A c l:=RowR.of_rd (Z0x hs h) hA
theorem Zbc (A:Option Addr) (c:Nat) (l:List Sym) (w:World) (hrd:Z18 w 3 Sym.cells A c l) (hl:(l.length:Int)≤100000) :
 Calls Tryz.prog 24 #[.slice A l.length c] w (Z6f 38 3 Sym.cells l w):=by
 obtain ⟨i0,hi0,hz0,hz1,hz2⟩:=infp Z8l;have HRD:=hid hrd;have hlc:=hrd.cap;have hlcc:=hrd.1;clear hrd;go_enter Tryz.func24,Tryz.ntmps24;(go_wp2_with (at_builtin;refine Z07 w rfl (.const (.slice none 0 0)) (.tmp 3) 27 rfl 38 i0 _ 3 32 Tryz.underlying27 hi0 hz0 hz1 hz2 rfl (by omega) (.slice none 0 0) 0 [] rfl (Z2p w _ _) A l.length c (l.flatMap Sym.cells) rfl (Z0f Sym.cells_length _) (HRD.out.news Sym.cells_length (by omega)) (Zd9 _) (by unfold maxLen;omega) (by omega) ?_;intro v1 w2 hown1 hg1 hnil1 hat1));go_ret;rw [Zmz,Zmr] at hown1;obtain ⟨A',c',rfl,h1,h2,h3⟩:=Z48 hown1 hat1 rfl hg1;exact ⟨A',c',rfl,h1,h2,h3⟩
theorem Zkp (A:Option Addr) (c:Nat) (l:List Z17) (w:World) (hrd:Z18 w 4 Z17.cells A c l) (hl:(l.length:Int)≤100000) :
 Calls Tryz.prog 11 #[.slice A l.length c] w (Z6f 40 4 Z17.cells l w):=by
 obtain ⟨i0,hi0,hz0,hz1,hz2⟩:=infp Zac;have HRD:=hid hrd;have hlc:=hrd.cap;have hlcc:=hrd.1;clear hrd;go_enter Tryz.func11,Tryz.ntmps11;(go_wp2_with (at_builtin;refine Z07 w rfl (.const (.slice none 0 0)) (.tmp 3) 26 rfl 40 i0 _ 4 48 Tryz.underlying26 hi0 hz0 hz1 hz2 rfl (by omega) (.slice none 0 0) 0 [] rfl (Z2p w _ _) A l.length c (l.flatMap Z17.cells) rfl (Z0f Z17.cells_length _) (HRD.out.news Z17.cells_length (by omega)) (Zel _) (by unfold maxLen;omega) (by omega) ?_;intro v1 w2 hown1 hg1 hnil1 hat1));go_ret;rw [Zmz,Zmr] at hown1;obtain ⟨A',c',rfl,h1,h2,h3⟩:=Z48 hown1 hat1 rfl hg1;exact ⟨A',c',rfl,h1,h2,h3⟩
theorem Ze1 (A:Option Addr) (c:Nat) (l:List Z09) (w:World) (hrd:Z18 w 14 Z09.cells A c l) (hl:(l.length:Int)≤100000) :
 Calls Tryz.prog 20 #[.slice A l.length c] w (Z6f 64 14 Z09.cells l w):=by
 obtain ⟨i0,hi0,hz0,hz1,hz2⟩:=infp Z6o;have HRD:=hid hrd;have hlc:=hrd.cap;have hlcc:=hrd.1;clear hrd;go_enter Tryz.func20,Tryz.ntmps20;(go_wp2_with (at_builtin;refine Z07 w rfl (.const (.slice none 0 0)) (.tmp 3) 56 rfl 64 i0 _ 14 128 Tryz.underlying56 hi0 hz0 hz1 hz2 rfl (by omega) (.slice none 0 0) 0 [] rfl (Z2p w _ _) A l.length c (l.flatMap Z09.cells) rfl (Z0f Z09.cells_length _) (HRD.out.news Z09.cells_length (by omega)) (Zc0 _) (by unfold maxLen;omega) (by omega) ?_;intro v1 w2 hown1 hg1 hnil1 hat1));go_ret;rw [Zmz,Zmr] at hown1;obtain ⟨A',c',rfl,h1,h2,h3⟩:=Z48 hown1 hat1 rfl hg1;exact ⟨A',c',rfl,h1,h2,h3⟩
theorem Za4 (A:Option Addr) (c:Nat) (l:List Z0n) (w:World) (hrd:Z18 w 7 Z0n.cells A c l) (hl:(l.length:Int)≤100000) :
 Calls Tryz.prog 163 #[.slice A l.length c] w (Z6f 195 7 Z0n.cells l w):=by
 obtain ⟨i0,hi0,hz0,hz1,hz2⟩:=infp Z6n;have HRD:=hid hrd;have hlc:=hrd.cap;have hlcc:=hrd.1;clear hrd;go_enter Tryz.func163,Tryz.ntmps163;(go_wp2_with (at_builtin;refine Z07 w rfl (.const (.slice none 0 0)) (.tmp 3) 70 rfl 195 i0 _ 7 72 Tryz.underlying70 hi0 hz0 hz1 hz2 rfl (by omega) (.slice none 0 0) 0 [] rfl (Z2p w _ _) A l.length c (l.flatMap Z0n.cells) rfl (Z0f Z0n.cells_length _) (HRD.out.news Z0n.cells_length (by omega)) (Zbz _) (by unfold maxLen;omega) (by omega) ?_;intro v1 w2 hown1 hg1 hnil1 hat1));go_ret;rw [Zmz,Zmr] at hown1;obtain ⟨A',c',rfl,h1,h2,h3⟩:=Z48 hown1 hat1 rfl hg1;exact ⟨A',c',rfl,h1,h2,h3⟩
end
section
open Go.RowKit Go.Shelf
attribute [local go_sem] Oper.semAt_some
theorem Z6m {e:TypeId} {size n m B:Nat} {w w':World} {A:Option Addr} {c:Nat} {v:Value} {xs news:List Value} (hown:w'.ownsRow 0 e size v (n+m) (xs++news)) (hg:w.grownBy w' (Value.slice A n c).ownBlock) (hat:v.ownBlock=(Value.slice A n c).ownBlock∨v.ownBlock=some w.heap.size) (hA:AIn A (B≤·)) (hB:B≤w.heap.size) :
 ∃A' c',v = .slice A' (n+m) c'∧w'.ownsRow 0 e size (.slice A' (n+m) c') (n+m) (xs++news)∧AIn A' (B≤·)∧Below B w w':=by
 obtain ⟨A',c',rfl,hF,hA',hO⟩:=Z49 (E:=fun j=>∃a,A=some a∧a.block=j) (fun a ha=>⟨a,ha,rfl⟩) hown hg hat;refine ⟨A',c',rfl,hO,fun a ha=>?_,hF.below hB (fun k hk ⟨a,ha,e⟩=>by have:B≤a.block:=hA a ha;omega)⟩;rcases hA' a ha with ⟨b,hb,e⟩ | ⟨h1,_⟩
 · rw [← e];exact hA b hb
 · exact Zmk hB h1
structure OwnG {α:Type} (T size:Nat) (cells:α→List Value) (X:World) (m:List α) (A:Option Addr) (c:Nat) (w:World):Prop where
 own:w.ownsRow 0 T size (.slice A m.length c) m.length (m.flatMap cells)
 ain:AIn A (X.heap.size≤·)
 bel:Below X.heap.size X w
section
variable {α:Type} {T size:Nat} {cells:α→List Value} {X:World} {m:List α} {A:Option Addr} {c:Nat} {w w':World}
theorem OwnG.start (hb:Below X.heap.size X w):OwnG T size cells X [] none 0 w:=⟨⟨by simp,.inl ⟨rfl,rfl⟩⟩,AIn.none_ _,hb⟩
theorem OwnG.new_ (h:OwnG T size cells X m A c w) (hb:Below w.heap.size w w'):OwnG T size cells X m A c w':=⟨Z04 h.own hb,h.ain,h.bel.trans (hb.mono h.bel.size)⟩
theorem OwnG.put {y:α} {v:Value} (h:OwnG T size cells X m A c w) (hown:w'.ownsRow 0 T size v (m.length+1) (m.flatMap cells ++ [y].flatMap cells)) (hg:w.grownBy w' (Value.slice A m.length c).ownBlock) (hat:v.ownBlock=(Value.slice A m.length c).ownBlock∨v.ownBlock=some w.heap.size) :
 ∃(mn:List α) (A':Option Addr) (c':Nat),mn=m ++ [y]∧v = .slice A' mn.length c'∧OwnG T size cells X mn A' c' w':=by
 obtain ⟨A9,c9,hv,hO9,hA9,hb9⟩:=Z6m (B:=X.heap.size) hown hg hat h.ain h.bel.size;rw [← Zmq] at hO9;(have hl:(m ++ [y]).length=m.length+1:=by simp);exact ⟨m ++ [y],A9,c9,rfl,by rw [hl];exact hv,by rw [hl];exact hO9,hA9,h.bel.trans hb9⟩
end
theorem Blk.setAllG {w:World} {g:Nat} {t:TypeId} {cs:Array Value} {vs:List Value} (h:Blk w g t cs) (hl:cs.size=vs.length):Blk (w.setCells g 0 vs) g t vs.toArray:=by
 have hr:=Zmm w g 0 vs (by have:=h.there;rwa [hl] at this);obtain ⟨cs',h1,h2⟩:=Blk.setCells_ vs 0 h
 have e:cs'=vs.toArray:=by
  apply Array.ext
  · rw [h2];simpa using hl
  · intro i hi hj
    (have hj':i<vs.length:=by simpa using hj);have h3:=hr i vs[i] (Zmc hj');rw [show (0+i)=i by omega,h1.cell i,Array.getElem?_eq_getElem hi] at h3;simpa using h3
 rw [← e];exact h1
theorem Z7g {W:World} {e size n:Nat} {A:Option Addr} {c:Nat} {xs:List Value} (h:W.ownsRow 0 e size (.slice A n c) n xs):AIn A (· < W.heap.size):=by
 intro a ha;subst ha;rcases Z0b h with ⟨hv,_⟩ | ⟨g,cap,hv,_,_,hr,_⟩
 · cases hv
 · injection hv with hv
   injection hv with hv;subst hv;exact hr.lt
theorem OwnG.fresh {α:Type} {T size:Nat} {cells:α→List Value} {X:World} {m:List α} {A:Option Addr} {c:Nat} {w:World} (h:OwnG T size cells X m A c w):Z6f T size cells m X (.returned (.slice A m.length c)) w:=
 ⟨A,c,rfl,h.own,fun a ha=>⟨h.ain a ha,Z7g h.own a ha⟩,h.bel⟩
end
end Go.Proofs.YtfidcfjcmlgkbaaGreat
