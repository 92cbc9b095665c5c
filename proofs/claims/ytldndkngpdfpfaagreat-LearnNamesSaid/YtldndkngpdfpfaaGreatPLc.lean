/-
  Texts put together: EagerT, SymDigits, LearnP, VaryP, VaryP2, SymValid, Scal, LeafName, ShapePlain, VaryP3, Sets, LeafLword, FindLword, OpsLword.
-/
import Derived.Test.YtldndkngpdfpfaaGreatPLa
import Derived.Test.YtldndkngpdfpfaaGreatPLb
import Derived.Lib.SlBytesRow
import Derived.Deep.Cut
import Derived.Maps.RangeWalk
namespace Go.Proofs.YtldndkngpdfpfaaGreat
set_option maxRecDepth 100000
set_option maxHeartbeats 32000000
section
section
variable {P:Program} {ops:Array Oper} {Q:Exit→Act→World→Prop} {S:World→Prop}
inductive Pl where
 | fin (l:List (Nat×Cls))
 | fork (l:List (Nat×Cls)) (i:Nat) (r:Pl) (j:Nat) (s:Pl)
def setL (listed:Array Bool) (l:List (Nat×Cls)):Array Bool:=l.foldl (fun g x=>g.setIfInBounds x.1 true) listed
def okL (ops:Array Oper):List (Nat×Cls)→Array Bool→Bool
 | [],_=>true
 | (k,c) :: rest,listed=>(if c == 2 then Region.ready .any ops listed == [k] else (Region.ready .any ops listed).contains k && Region.free .any ops listed k) && okL ops rest (listed.setIfInBounds k true)
def chkL (qs ls:List Nat) (l:List (Nat×Cls)):Bool:=l.all fun (k,c)=>(c != 2) == qs.contains k && (c != 1 || ls.contains k)
def okPl (ops:Array Oper) (qs ls:List Nat):Pl→Nat→Array Bool→Bool
 | .fin l,n,listed=>n == l.length && chkL qs ls l && okL ops l listed && (Region.ready .any ops (setL listed l)).isEmpty && l.all fun x=>x.1<ops.size
 | .fork l i r j s,n,listed=>decide (l.length+1≤n) && chkL qs ls l && okL ops l listed && (l.all fun x=>x.1<ops.size) && Region.ready .any ops (setL listed l) == [i,j] && !qs.contains i && !qs.contains j &&
  okPl ops qs ls r (n - l.length - 1) ((setL listed l).setIfInBounds i true) && okPl ops qs ls s (n - l.length - 1) ((setL listed l).setIfInBounds j true)
def wpY (P:Program) (ops:Array Oper) (Q:Exit→Act→World→Prop) (S:World→Prop) (ns:Nat→Bool) (R:Act→World→Prop):List (Nat×Cls×Oper)→Act→World→Prop
 | [],a,w=>R a w
 | (i,c,o) :: rest,a,w=>
   if c=2 then (if Region.wanted o (yielded ops a.tmps)=true then o.wp P a w (fun a' w'=>(ns i=true→S w')∧wpY P ops Q S ns R rest a' w') Q else (ns i=true→S w)∧wpY P ops Q S ns R rest (a.put o.dst undef) w)
   else ∃v,(if c=1 then YieldsIf P ops S o v a∧S w else Yields P ops o v a)∧wpY P ops Q S ns R rest (a.put o.dst v) w
def wpPl (P:Program) (ops:Array Oper) (Q:Exit→Act→World→Prop) (S:World→Prop) (ns:Nat→Bool):Pl→Act→World→Prop
 | .fin l,a,w=>wpY P ops Q S ns (fun a w=>Q .normal a w) (beside ops l) a w
 | .fork l i r j s,a,w=>wpY P ops Q S ns (fun a w=>wpOp P ops Q i (fun a' w'=>(ns i=true→S w')∧wpPl P ops Q S ns r a' w') a w∧wpOp P ops Q j (fun a' w'=>(ns j=true→S w')∧wpPl P ops Q S ns s a' w') a w) (beside ops l) a w
theorem closed_setL : ∀(l:List (Nat×Cls)) (listed:Array Bool),Closed ops listed→okL ops l listed=true→Closed ops (setL listed l)
 | [],_,h,_=>h
 | (k,c) :: rest,listed,h,hB=>by
   simp only [okL,Bool.and_eq_true] at hB;refine closed_setL rest _ (closed_ready h ?_) hB.2;by_cases hc:c=2
   · subst hc
     have hB1:=hB.1;simp only [beq_self_eq_true,if_true] at hB1;(have hr:Region.ready .any ops listed = [k]:=by simpa using hB1);rw [hr];simp
   · have hB1:=hB.1
     rw [if_neg (by simpa using hc)] at hB1;simp only [Bool.and_eq_true] at hB1;simpa using hB1.1
theorem wpAnyE_list {qt ns:Nat→Bool} {R:Act→World→Prop} {n:Nat} (hsel:Region.noSelect ops=true) (hQ : ∀c a a' w,Q (.panic c) a w→Q (.panic c) a' w) :
 ∀(rest:List (Nat×Cls)) (listed:Array Bool) (a:Act) (w:World),Closed ops listed→okL ops rest listed=true→(∀x∈rest,x.1<ops.size)→
  (∀k c,(k,c)∈rest→(qt k=true↔c≠2))→(∀k,(k,1)∈rest→∀j,waitsT ops ops.size j k=false→j≠k→j<ops.size→ns j=true)→
  (∀a w,R a w→wpAnyE P ops Q S qt ns n (setL listed rest) a w)→wpY P ops Q S ns R (beside ops rest) a w→wpAnyE P ops Q S qt ns (rest.length+n) listed a w
 | [],listed,a,w,_,_,_,_,_,hR,h=>by
   have:=hR a w h;simpa [setL] using this
 | (k,c) :: rest,listed,a,w,hcl,hB,hl,hqt,hns,hR,h=>by
   simp only [okL,Bool.and_eq_true] at hB;obtain ⟨hB1,hB2⟩:=hB;have hi:k<ops.size:=hl (k,c) (by simp);have ho:ops[k]? = some ops[k]:=Array.getElem?_eq_getElem hi;(have hb:beside ops ((k,c) :: rest)=(k,c,ops[k]) :: beside ops rest:=by simp [beside,ho]);have ih:=fun listed' a w hcl' hB' hR' h'=>wpAnyE_list (R:=R) (n:=n) hsel hQ rest listed' a w hcl' hB' (fun x hx=>hl x (by simp [hx])) (fun k c hk=>hqt k c (by simp [hk])) (fun k hk=>hns k (by simp [hk])) hR' h';rw [hb] at h;simp only [wpY] at h;(have hlen:((k,c) :: rest).length+n=(rest.length+n)+1:=by simp;omega);rw [hlen];by_cases hc:c=2
   · subst hc
     simp only [beq_self_eq_true,if_true] at hB1;(have hr:Region.ready .any ops listed = [k]:=by simpa using hB1);simp only [if_true] at h;have hcl2:=closed_ready hcl (i:=k) (by rw [hr];simp);refine ⟨fun h0=>(by rw [hr] at h0;cases h0),fun i hi'=>?_⟩;rw [hr] at hi';obtain rfl:i=k:=by simpa using hi'
     have hbh : ∀w',(ns i=true→S w')→behind S qt ns i w w':=fun w' hs=>by
      unfold behind;rw [if_neg (fun hq=>(hqt i 2 (by simp)).1 hq rfl)];exact hs
     unfold wpOp;simp only [ho]
     split
     · rename_i hw
       rw [if_pos hw] at h;exact .inl (Oper.wp_mono (fun a' w' h'=>⟨hbh w' h'.1,ih _ a' w' hcl2 hB2 hR h'.2⟩) h)
     · rename_i hw
       rw [if_neg hw] at h;exact ⟨hbh w h.1,ih _ _ w hcl2 hB2 hR h.2⟩
   · rw [if_neg (by simpa using hc)] at hB1
     simp only [Bool.and_eq_true] at hB1;rw [if_neg hc] at h;obtain ⟨v,hy,hk⟩:=h;(have hrdy:k∈Region.ready .any ops listed:=by simpa using hB1.1);have hrest:=ih _ _ w (closed_ready hcl hrdy) hB2 hR hk;by_cases h1:c=1
     · subst h1
       rw [if_pos rfl] at hy
       exact wpAnyE_first ho (Region.noSelect_spec hsel) (fun c a w=>hQ c _ _ w) true ((hqt k 1 (by simp)).2 hc) (fun _=>hns k (by simp)) (rest.length+n) listed a w hcl (Region.free_spec ho hB1.2) hrdy
        (hy.1.imp (fun ⟨p,q⟩=>⟨p,fun w' hw'=>q w' (hw' rfl)⟩) id) (fun _=>hy.2) hrest
     · rw [if_neg h1] at hy
       exact wpAnyE_first ho (Region.noSelect_spec hsel) (fun c a w=>hQ c _ _ w) false ((hqt k c (by simp)).2 hc) (fun h=>by cases h) (rest.length+n) listed a w hcl (Region.free_spec ho hB1.2) hrdy
        (hy.imp (fun ⟨p,q⟩=>⟨p,fun w' _=>q w'⟩) id) (fun h=>by cases h) hrest
theorem wpAnyE_pl {qs ls:List Nat} (hsel:Region.noSelect ops=true) (hQ : ∀c a a' w,Q (.panic c) a w→Q (.panic c) a' w) (p:Pl) :
 ∀(n:Nat) (listed:Array Bool) (a:Act) (w:World),Closed ops listed→okPl ops qs ls p n listed=true→
  wpPl P ops Q S (fun j=>ls.any fun k=>k != j && !waitsT ops ops.size j k) p a w→wpAnyE P ops Q S (fun k=>qs.contains k) (fun j=>ls.any fun k=>k != j && !waitsT ops ops.size j k) n listed a w:=by
 have hq : ∀l,chkL qs ls l=true→∀k c,(k,c)∈l→(qs.contains k=true↔c≠2):=fun l hl k c hk=>by
  have:=List.all_eq_true.1 hl (k,c) hk;simp only [Bool.and_eq_true,beq_iff_eq] at this;rw [← this.1];simp
 have hn : ∀l,chkL qs ls l=true→∀k,(k,1)∈l→∀j,waitsT ops ops.size j k=false→j≠k→j<ops.size→(ls.any fun k=>k != j && !waitsT ops ops.size j k)=true:=fun l hl k hk j hw hjk _=>by
  have:=List.all_eq_true.1 hl (k,1) hk;simp only [Bool.and_eq_true] at this;(have h2:ls.contains k=true:=by simpa using this.2);rw [List.any_eq_true];exact ⟨k,by simpa using h2,by rw [hw];simp [Ne.symm hjk]⟩
 induction p with
 | fin l=>
   intro n listed a w hcl hB h;simp only [okPl,Bool.and_eq_true,beq_iff_eq] at hB;obtain ⟨⟨⟨⟨rfl,hc⟩,hL⟩,he⟩,hlt⟩:=hB
   have:=wpAnyE_list (P:=P) (Q:=Q) (S:=S) (qt:=fun k=>qs.contains k) (ns:=fun j=>ls.any fun k=>k != j && !waitsT ops ops.size j k) (R:=fun a w=>Q .normal a w) (n:=0) hsel hQ l listed a w hcl hL (by simpa [List.all_eq_true] using hlt) (hq l hc) (hn l hc)
    (fun a w h=>⟨by simpa using he,h⟩) h
   simpa using this
 | fork l i r j s ihr ihs=>
   intro n listed a w hcl hB h;simp only [okPl,Bool.and_eq_true,beq_iff_eq,decide_eq_true_eq,Bool.not_eq_true'] at hB;obtain ⟨⟨⟨⟨⟨⟨⟨⟨hlen,hc⟩,hL⟩,hlt⟩,hrd⟩,hqi⟩,hqj⟩,hr⟩,hs⟩:=hB;obtain ⟨m,rfl⟩ : ∃m,n=l.length+(m+1):=⟨n - l.length - 1,by omega⟩;(have em:l.length+(m+1) - l.length - 1=m:=by omega);rw [em] at hr hs;have hcl2:=closed_setL l listed hcl hL;refine wpAnyE_list (P:=P) (Q:=Q) (S:=S) (qt:=fun k=>qs.contains k) (ns:=fun j=>ls.any fun k=>k != j && !waitsT ops ops.size j k) (n:=m+1) hsel hQ l listed a w hcl hL (by simpa [List.all_eq_true] using hlt) (hq l hc) (hn l hc) (fun a w hR=>?_) h;refine ⟨fun h0=>(by rw [hrd] at h0;cases h0),fun k hk=>?_⟩;have hcl3:=closed_ready hcl2 hk;rw [hrd] at hk;simp only [List.mem_cons,List.not_mem_nil,or_false] at hk;rcases hk with rfl | rfl
   · refine wpOp_mono (fun a' w' h'=>⟨?_,ihr m _ a' w' hcl3 hr h'.2⟩) hR.1
     unfold behind;rw [if_neg (by simp only [hqi];simp)];exact h'.1
   · refine wpOp_mono (fun a' w' h'=>⟨?_,ihs m _ a' w' hcl3 hs h'.2⟩) hR.2
     unfold behind;rw [if_neg (by simp only [hqj];simp)];exact h'.1
theorem wp_region_Pl {id:Nat} {l:List Oper} {a:Act} {w:World} (S:World→Prop) (qs ls:List Nat) (p:Pl) (hm:P.follows .mixedOrders=true) (hsel:Region.noSelect l.toArray=true)
 (hB:okPl l.toArray qs ls p l.toArray.size (Array.replicate l.toArray.size false)=true)
 (h : ∀K:Act→World→Prop,(∀a w,Q .normal a w→K a w)→wpPl P l.toArray (OnlyN K) S (fun j=>ls.any fun k=>k != j && !waitsT l.toArray l.toArray.size j k) p a w.drew):(Code.region id l.toArray true).wp P Q a w:=by
 refine Code.wp_mono (Q:=OnlyN fun a w=>Q .normal a w) (fun e a w hq=>by cases e<;>first | exact hq | exact hq.elim) (wp_region_any hm ?_);(have hcl:Closed l.toArray (Array.replicate l.toArray.size false):=fun m o hm=>by rw [getD_replicate_false] at hm;cases hm);exact wpAny_of_E _ _ _ _ (wpAnyE_pl (P:=P) (Q:=OnlyN fun a w=>Q .normal a w) (S:=S) hsel (fun c a a' w h=>h) p _ _ a w.drew hcl hB (h _ (fun _ _ h=>h)))
variable {ns:Nat→Bool} {R:Act→World→Prop} {rest:List (Nat×Cls×Oper)} {a:Act} {w:World} {i:Nat} {o:Oper}
theorem wpY_nil (h:R a w):wpY P ops Q S ns R [] a w:=h
theorem wpY_w (v:Value) (hy:Yields P ops o v a) (h:wpY P ops Q S ns R rest (a.put o.dst v) w):wpY P ops Q S ns R ((i,0,o) :: rest) a w:=by
 simp only [wpY];exact ⟨v,by simpa using hy,h⟩
theorem wpY_l (v:Value) (hS:S w) (hy:YieldsIf P ops S o v a) (h:wpY P ops Q S ns R rest (a.put o.dst v) w):wpY P ops Q S ns R ((i,1,o) :: rest) a w:=by
 simp only [wpY];exact ⟨v,by simpa using ⟨hy,hS⟩,h⟩
theorem wpY_e (hn:ns i=false)
 (h : ∀K:Act→World→Prop,(∀a w,wpY P ops Q S ns R rest a w→K a w)→if Region.wanted o (yielded ops a.tmps)=true then Oper.wp P o a w K Q else K (a.put o.dst undef) w):wpY P ops Q S ns R ((i,2,o) :: rest) a w:=by
 have:=h (fun a' w'=>(ns i=true→S w')∧wpY P ops Q S ns R rest a' w') (fun a w h2=>⟨fun h=>absurd h (by rw [hn];simp),h2⟩);simpa only [wpY,if_true] using this
theorem wpY_es
 (h : ∀K:Act→World→Prop,(∀a w,S w→wpY P ops Q S ns R rest a w→K a w)→if Region.wanted o (yielded ops a.tmps)=true then Oper.wp P o a w K Q else K (a.put o.dst undef) w):wpY P ops Q S ns R ((i,2,o) :: rest) a w:=by
 have:=h (fun a' w'=>(ns i=true→S w')∧wpY P ops Q S ns R rest a' w') (fun a w h1 h2=>⟨fun _=>h1,h2⟩);simpa only [wpY,if_true] using this
theorem wpOp_c {C:World→Prop} {H:Act→World→Prop} (hC : ∀w,C w) (ho:ops[i]? = some o)
 (h : ∀K:Act→World→Prop,(∀a w,H a w→K a w)→if Region.wanted o (yielded ops a.tmps)=true then Oper.wp P o a w K Q else K (a.put o.dst undef) w) :
 wpOp P ops Q i (fun a' w'=>C w'∧H a' w') a w:=by
 have h2:=h (fun a' w'=>C w'∧H a' w') (fun a w h2=>⟨hC w,h2⟩);unfold wpOp;simp only [ho]
 split
 · rename_i hw
   rw [if_pos hw] at h2;exact .inl h2
 · rename_i hw
   rw [if_neg hw] at h2;exact h2
theorem wpOp_cs {C:World→Prop} {H:Act→World→Prop} (ho:ops[i]? = some o)
 (h : ∀K:Act→World→Prop,(∀a w,C w→H a w→K a w)→if Region.wanted o (yielded ops a.tmps)=true then Oper.wp P o a w K Q else K (a.put o.dst undef) w) :
 wpOp P ops Q i (fun a' w'=>C w'∧H a' w') a w:=by
 have h2:=h (fun a' w'=>C w'∧H a' w') (fun a w h1 h2=>⟨h1,h2⟩);unfold wpOp;simp only [ho]
 split
 · rename_i hw
   rw [if_pos hw] at h2;exact .inl h2
 · rename_i hw
   rw [if_neg hw] at h2;exact h2
end
end
section
open Go.RowKit
def byte1 (n:Nat):ByteArray:=⟨#[UInt8.ofNat (48+n)]⟩
theorem conv1 (n:Nat) (h:n<10) (W:World) (g:Nat) (hc:W.cell? ⟨g,0,none⟩=some (.int .u8 (48+(n:Int)))):(convert 118 9 (.slice (some ⟨g,0,none⟩) 1 1)).run Tryz.prog W = .ok (.string (byte1 n)) W:=
 Lib.run_convert_whole (P:=Tryz.prog) W 118 5 9 Tryz.underlying118 Tryz.underlying5 Tryz.underlying9 g 0 (byte1 n) (fun i hi=>by
  (have:i=0:=by have:(byte1 n).size=1:=rfl;omega);subst this;rw [Nat.add_zero,hc];(have e:(byte1 n)[0].toNat=48+n:=by show (UInt8.ofNat (48+n)).toNat=48+n;simp;omega);rw [e]
  simp) 1
def decB (n:Nat):ByteArray:=if n<10 then byte1 n else decB (n / 10)++byte1 (n % 10)
theorem byte1_size (n:Nat):(byte1 n).size=1:=rfl
end
section
def chunkB (n:Nat):ByteArray:=⟨#[99,104,117,110,107,45]⟩++decB n
def valL (l:List UInt8):Nat:=l.foldl (fun n c=>10*n+(c.toNat - 48)) 0
theorem byte1_toNatL {n:Nat} (h:n<10):(UInt8.ofNat (48+n)).toNat=48+n:=by simp;omega
theorem decB_val : ∀(n:Nat),valL (decB n).data.toList=n:=by
 intro n
 induction n using Nat.strongRecOn with
 | _ n ih=>
   by_cases h:n<10
   · have e:decB n=byte1 n:=by rw [decB,if_pos h]
     rw [e];show valL [UInt8.ofNat (48+n)]=n;simp only [valL,List.foldl_cons,List.foldl_nil,byte1_toNatL h];omega
   · have e:decB n=decB (n / 10)++byte1 (n % 10):=by rw [decB,if_neg h]
     have h2:=ih (n / 10) (by omega);have hm:n % 10<10:=by omega
     have e2:(decB (n / 10)++byte1 (n % 10)).data.toList=(decB (n / 10)).data.toList ++ [UInt8.ofNat (48+n % 10)]:=by
      simp only [ByteArray.data_append,Array.toList_append];rfl
     rw [e,e2];unfold valL at h2 ⊢;rw [List.foldl_append,h2,List.foldl_cons,List.foldl_nil,byte1_toNatL hm];omega
theorem app_inj {a b c:ByteArray} (h:a++b=a++c):b=c:=by
 have h1:=congrArg (fun x=>x.data.toList) h;simp only [ByteArray.data_append,Array.toList_append] at h1;have h2:=List.append_cancel_left h1;cases b;cases c;congr 1;exact Array.toList_inj.1 h2
theorem chunkB_inj {a b:Nat} (h:chunkB a=chunkB b):a=b:=by
 have h2:decB a=decB b:=app_inj h;rw [← decB_val a,← decB_val b,h2]
theorem nodup_sub_len {α:Type} [DecidableEq α] : ∀{l m:List α},l.Nodup→(∀x∈l,x∈m)→l.length≤m.length
 | [],_,_,_=>Nat.zero_le _
 | a :: l,m,hn,hs=>by
   obtain ⟨h1,h2⟩:=List.nodup_cons.1 hn;have ha:a∈m:=hs a List.mem_cons_self;have h3:=nodup_sub_len (m:=m.erase a) h2 (fun x hx=>(List.mem_erase_of_ne (fun e=>h1 (by rw [← e];exact hx))).2 (hs x (List.mem_cons_of_mem _ hx)));rw [List.length_erase_of_mem ha] at h3;have h4:0<m.length:=List.length_pos_of_mem ha;rw [List.length_cons];omega
theorem chunk_le {l:List ByteArray} {n:Nat} (h : ∀k,1≤k→k≤n→chunkB k∈l):n≤l.length:=by
 have h1:=nodup_sub_len (l:=(List.range n).map fun k=>chunkB (k+1)) (m:=l) ?_ ?_
 · simpa using h1
 · rw [List.nodup_iff_pairwise_ne,List.pairwise_map]
   exact (List.nodup_iff_pairwise_ne.1 List.nodup_range).imp fun hne e=>hne (by have:=chunkB_inj e;omega)
 · intro x hx
   obtain ⟨k,hk,rfl⟩:=List.mem_map.1 hx;have:=List.mem_range.1 hk;exact h _ (by omega) (by omega)
def NextN (l:List ByteArray) (n:Nat):Prop:=1≤n∧chunkB n ∉ l∧∀k,1≤k→k<n→chunkB k∈l
theorem NextN.one {l:List ByteArray} {a b:Nat} (ha:NextN l a) (hb:NextN l b):a=b:=by
 rcases Nat.lt_trichotomy a b with h | h | h
 · exact absurd (hb.2.2 a ha.1 h) ha.2.1
 · exact h
 · exact absurd (ha.2.2 b hb.1 h) hb.2.1
theorem next_le {l:List ByteArray} {n:Nat} (h : ∀k,1≤k→k<n+1→chunkB k∈l):n≤l.length:=chunk_le fun k h1 h2=>h k h1 (by omega)
end
section
def plV:List Sym→Sym→Nat
 | [],_=>0
 | x :: l,s=>if x=s then 1 else if plV l s=0 then 0 else plV l s+1
theorem plV_zero {s:Sym} : ∀{l:List Sym},plV l s=0↔s ∉ l
 | []=>by simp [plV]
 | x :: l=>by
   have ih:=plV_zero (s:=s) (l:=l);rw [plV];by_cases h:x=s
   · rw [if_pos h];subst h;simp
   · rw [if_neg h,List.mem_cons]
     by_cases h2:plV l s=0
     · rw [if_pos h2]
       have h3:=ih.1 h2;refine ⟨fun _ e=>e.elim (fun e=>h e.symm) h3,fun _=>rfl⟩
     · rw [if_neg h2]
       refine ⟨fun e=>by omega,fun e=>absurd (ih.2 (fun h4=>e (.inr h4))) h2⟩
theorem plV_le (s:Sym) : ∀l:List Sym,plV l s≤l.length
 | []=>Nat.le_refl _
 | x :: l=>by
   have ih:=plV_le s l;rw [plV,List.length_cons]
   split
   · omega
   · split<;>omega
def putN (ns:List Sym) (s:Sym):List Sym:=if plV ns s=0 then ns ++ [s] else ns
def namesE (ns:List Sym) (e:Elem):List Sym:=if e.value.kind=1 then putN (putN ns e.id) e.value else putN ns e.id
theorem putN_len (ns:List Sym) (s:Sym):(putN ns s).length≤ns.length+1:=by unfold putN;split<;>simp
theorem namesE_len (ns:List Sym) (e:Elem):(namesE ns e).length≤ns.length+2:=by
 unfold namesE;have h1:=putN_len ns e.id;have h2:=putN_len (putN ns e.id) e.value
 split<;>omega
theorem putN_nodup {ns:List Sym} (h:ns.Nodup) (s:Sym):(putN ns s).Nodup:=by
 unfold putN
 split
 · rename_i h2
   rw [List.nodup_append];refine ⟨h,by simp,fun a ha b hb e=>?_⟩;rw [List.mem_singleton] at hb;subst hb e;exact plV_zero.1 h2 ha
 · exact h
theorem namesE_nodup {ns:List Sym} (h:ns.Nodup) (e:Elem):(namesE ns e).Nodup:=by
 unfold namesE
 split
 · exact putN_nodup (putN_nodup h _) _
 · exact putN_nodup h _
theorem mem_putN {ns:List Sym} {s t:Sym}:t∈putN ns s↔t∈ns∨t=s:=by
 unfold putN
 split
 · simp
 · rename_i h
   refine ⟨.inl,fun h2=>h2.elim id fun e=>?_⟩;subst e;exact Classical.byContradiction fun h3=>h (plV_zero.2 h3)
def idN (ns:List Sym) (s:Sym):Int:=if plV ns s=0 then ns.length+1 else plV ns s
def rkN (ns:List Sym) (s:Sym):Int:=if s.kind≠1 then 0 else if plV ns s=0 then 2 else 1
def cmpAcc (a b:Bool):Int:=if a=b then 0 else if b=true then -1 else 1
theorem tc_acc:TC cmpAcc:=by
 constructor
 · intro x;simp [cmpAcc]
 · intro x y;cases x<;>cases y<;>simp [cmpAcc]
 · intro x y z;cases x<;>cases y<;>cases z<;>simp [cmpAcc]
def cmpV (ns:List Sym) (a b:Sym):Int:=
 if rkN ns a=0 then cmpSym a b else if rkN ns a=1 then cmpInt (plV ns a) (plV ns b) else 0
def aheadC (ns:List Sym) (a b:Elem):Int:=
 andThen (cmpInt (idN ns a.id) (idN ns b.id)) (andThen (cmpSym a.attr b.attr) (andThen (cmpAcc a.acc b.acc) (andThen (cmpInt (rkN ns a.value) (rkN ns b.value)) (andThen (cmpV ns a.value b.value) (cmpInt a.tag b.tag)))))
def keyS (ns:List Sym) (s:Sym):Sym:=if rkN ns s=0 then s else ⟨0,⟨#[]⟩,0⟩
def keyP (ns:List Sym) (s:Sym):Int:=if rkN ns s=1 then plV ns s else 0
theorem cmpV_key {ns:List Sym} {a b:Sym} (h:rkN ns a=rkN ns b):cmpV ns a b=andThen (cmpSym (keyS ns a) (keyS ns b)) (cmpInt (keyP ns a) (keyP ns b)):=by
 have hr : ∀x,cmpInt x x=0:=tc_int.refl;have hs : ∀x,cmpSym x x=0:=tc_sym.refl;unfold cmpV keyS keyP;rw [← h];by_cases h0:rkN ns a=0
 · simp only [h0,if_true]
   rw [if_neg (by decide),if_neg (by decide),hr];unfold andThen
   split<;>simp [*]
 · by_cases h1:rkN ns a=1
   · simp only [h1,if_true]
     rw [if_neg (by decide),if_neg (by decide),if_neg (by decide),hs];simp [andThen]
   · simp [h0,h1,hr,hs,andThen]
def aheadK (ns:List Sym) (a b:Elem):Int:=
 andThen (cmpInt (idN ns a.id) (idN ns b.id)) (andThen (cmpSym a.attr b.attr) (andThen (cmpAcc a.acc b.acc) (andThen (cmpInt (rkN ns a.value) (rkN ns b.value)) (andThen (cmpSym (keyS ns a.value) (keyS ns b.value)) (andThen (cmpInt (keyP ns a.value) (keyP ns b.value)) (cmpInt a.tag b.tag))))))
theorem andThen_assoc (a b c:Int):andThen (andThen a b) c=andThen a (andThen b c):=by
 unfold andThen
 split<;>simp_all
theorem aheadC_K (ns:List Sym) (a b:Elem):aheadC ns a b=aheadK ns a b:=by
 unfold aheadC aheadK;congr 3;by_cases h:cmpInt (rkN ns a.value) (rkN ns b.value)=0
 · rw [cmpV_key (cmpInt_eq.1 h),andThen_assoc]
 · simp only [andThen,if_neg h]
theorem tc_ahead (ns:List Sym):TC (aheadC ns):=by
 (have h:aheadC ns=aheadK ns:=by funext a b;exact aheadC_K ns a b);rw [h]
 exact tc_andThen (f:=fun e:Elem=>idN ns e.id) (g:=fun e:Elem=>e) (c2:=fun a b:Elem=>andThen (cmpSym a.attr b.attr) (andThen (cmpAcc a.acc b.acc) (andThen (cmpInt (rkN ns a.value) (rkN ns b.value)) (andThen (cmpSym (keyS ns a.value) (keyS ns b.value)) (andThen (cmpInt (keyP ns a.value) (keyP ns b.value)) (cmpInt a.tag b.tag)))))) tc_int
  (tc_andThen (f:=fun e:Elem=>e.attr) (g:=fun e:Elem=>e) (c2:=fun a b:Elem=>andThen (cmpAcc a.acc b.acc) (andThen (cmpInt (rkN ns a.value) (rkN ns b.value)) (andThen (cmpSym (keyS ns a.value) (keyS ns b.value)) (andThen (cmpInt (keyP ns a.value) (keyP ns b.value)) (cmpInt a.tag b.tag))))) tc_sym
  (tc_andThen (f:=fun e:Elem=>e.acc) (g:=fun e:Elem=>e) (c2:=fun a b:Elem=>andThen (cmpInt (rkN ns a.value) (rkN ns b.value)) (andThen (cmpSym (keyS ns a.value) (keyS ns b.value)) (andThen (cmpInt (keyP ns a.value) (keyP ns b.value)) (cmpInt a.tag b.tag)))) tc_acc
  (tc_andThen (f:=fun e:Elem=>rkN ns e.value) (g:=fun e:Elem=>e) (c2:=fun a b:Elem=>andThen (cmpSym (keyS ns a.value) (keyS ns b.value)) (andThen (cmpInt (keyP ns a.value) (keyP ns b.value)) (cmpInt a.tag b.tag))) tc_int
  (tc_andThen (f:=fun e:Elem=>keyS ns e.value) (g:=fun e:Elem=>e) (c2:=fun a b:Elem=>andThen (cmpInt (keyP ns a.value) (keyP ns b.value)) (cmpInt a.tag b.tag)) tc_sym
  (tc_andThen (f:=fun e:Elem=>keyP ns e.value) (g:=fun e:Elem=>e.tag) (c2:=cmpInt) tc_int tc_int)))))
def aheadV (ns:List Sym) (a b:Elem):Bool:=decide (aheadC ns a b<0)
def canN (ns:List Sym) (e:Elem):Bool:=e.goal || !decide (plV ns e.id=0)
def bestS (ns:List Sym) (left:List Elem):Nat→Option Nat
 | 0=>none
 | i+1=>match left[i]? with
   | none=>bestS ns left i
   | some e=>if canN ns e=true then (match bestS ns left i with
    | none=>some i
    | some k=>match left[k]? with
      | none=>some i
      | some b=>if aheadV ns e b=true then some i else some k) else bestS ns left i
theorem bestS_lt {ns:List Sym} {left:List Elem} : ∀{i k:Nat},bestS ns left i=some k→k<i∧k<left.length
 | 0,_,h=>by cases h
 | i+1,k,h=>by
   rw [bestS] at h
   split at h
   · have:=bestS_lt h;omega
   · rename_i e he
     have hi:=(List.getElem?_eq_some_iff.1 he).1
     split at h
     · split at h
       · injection h with h;omega
       · rename_i j hj
         have:=bestS_lt hj
         split at h
         · injection h with h;omega
         · split at h
           · injection h with h;omega
           · injection h with h;omega
     · have:=bestS_lt h;omega
theorem bestS_best {ns:List Sym} {left:List Elem} : ∀{i k:Nat},bestS ns left i=some k→∃e,left[k]? = some e∧canN ns e=true∧∀j x,j<i→left[j]? = some x→canN ns x=true→aheadC ns e x≤0
 | 0,_,h=>by cases h
 | i+1,k,h=>by
   have T:=tc_ahead ns;rw [bestS] at h
   cases he:left[i]? with
   | none=>
     rw [he] at h;obtain ⟨e,h1,h2,h3⟩:=bestS_best h;refine ⟨e,h1,h2,fun j x hj hx hc=>?_⟩;by_cases h4:j=i
     · subst h4;rw [he] at hx;cases hx
     · exact h3 j x (by omega) hx hc
   | some y=>
     rw [he] at h;simp only at h;by_cases hy:canN ns y=true
     · rw [if_pos hy] at h
       cases hb:bestS ns left i with
       | none=>
         rw [hb] at h;injection h with h;subst h;refine ⟨y,he,hy,fun j x hj hx hc=>?_⟩;by_cases h4:j=i
         · subst h4;rw [he] at hx;injection hx with hx;subst hx;rw [T.refl];exact Int.le_refl _
         · exact absurd (bestS_none hb j x (by omega) hx) (by rw [hc];decide)
       | some m=>
         rw [hb] at h;simp only at h;obtain ⟨b,h1,h2,h3⟩:=bestS_best hb;rw [h1] at h;simp only at h;by_cases hd:aheadV ns y b=true
         · rw [if_pos hd] at h
           injection h with h;subst h;have hd2:aheadC ns y b<0:=of_decide_eq_true hd;refine ⟨y,he,hy,fun j x hj hx hc=>?_⟩;by_cases h4:j=i
           · subst h4;rw [he] at hx;injection hx with hx;subst hx;rw [T.refl];exact Int.le_refl _
           · exact T.trans y b x (by omega) (h3 j x (by omega) hx hc)
         · rw [if_neg hd] at h
           injection h with h;subst h;have hd2 : ¬aheadC ns y b<0:=fun e=>hd (decide_eq_true e);refine ⟨b,h1,h2,fun j x hj hx hc=>?_⟩;by_cases h4:j=i
           · subst h4
             rw [he] at hx;injection hx with hx;subst hx;have h5:=T.symm y b;omega
           · exact h3 j x (by omega) hx hc
     · rw [if_neg hy] at h
       obtain ⟨e,h1,h2,h3⟩:=bestS_best h;refine ⟨e,h1,h2,fun j x hj hx hc=>?_⟩;by_cases h4:j=i
       · subst h4;rw [he] at hx;injection hx with hx;subst hx;exact absurd hc hy
       · exact h3 j x (by omega) hx hc
where
 bestS_none {ns:List Sym} {left:List Elem} : ∀{i:Nat},bestS ns left i=none→∀j x,j<i→left[j]? = some x→canN ns x=false
 | 0,_,j,_,h,_=>by omega
 | i+1,hb,j,x,hj,hx=>by
   rw [bestS] at hb
   cases he:left[i]? with
   | none=>
     rw [he] at hb;by_cases h4:j=i
     · subst h4;rw [he] at hx;cases hx
     · exact bestS_none hb j x (by omega) hx
   | some y=>
     rw [he] at hb;simp only at hb
     split at hb
     · exfalso
       split at hb
       · cases hb
       · split at hb
         · cases hb
         · split at hb<;>cases hb
     · rename_i hy
       by_cases h4:j=i
       · subst h4;rw [he] at hx;injection hx with hx;subst hx;simpa using hy
       · exact bestS_none hb j x (by omega) hx
def bestV (ns:List Sym) (left:List Elem):Option Nat:=bestS ns left left.length
def laidV:Nat→List Sym→List Elem→List Elem→Option (List Elem×List Sym)
 | 0,ns,_,out=>some (out,ns)
 | f+1,ns,left,out=>if left = [] then some (out,ns) else
   match bestV ns left with
   | none=>none
   | some k=>match left[k]? with
     | none=>none
     | some e=>laidV f (namesE ns e) (left.eraseIdx k) (out ++ [e])
def orderV (l:List Elem):Option (List Elem×List Sym):=laidV l.length [] l []
end
section
theorem laidV_step {f:Nat} {ns:List Sym} {left out:List Elem} {k:Nat} {e:Elem} (hb:bestV ns left=some k) (he:left[k]? = some e):laidV (f+1) ns left out=laidV f (namesE ns e) (left.eraseIdx k) (out ++ [e]):=by
 (have hl:left≠[]:=by intro h;subst h;simp at he);rw [laidV,if_neg hl,hb];simp only;rw [he]
theorem laidV_none {f:Nat} {ns:List Sym} {left out:List Elem} (hl:left≠[]) (hb:bestV ns left=none):laidV (f+1) ns left out=none:=by
 rw [laidV,if_neg hl,hb]
theorem laidV_nil {f:Nat} {ns:List Sym} {out:List Elem}:laidV f ns [] out=some (out,ns):=by
 cases f with
 | zero=>rfl
 | succ f=>rw [laidV,if_pos rfl]
theorem best_at {ns:List Sym} {left:List Elem} {k:Nat} (h:bestV ns left=some k) : ∃e,left[k]? = some e∧canN ns e=true∧∀x∈left,canN ns x=true→aheadC ns e x≤0:=by
 obtain ⟨e,h1,h2,h3⟩:=bestS_best h;refine ⟨e,h1,h2,fun x hx hc=>?_⟩;obtain ⟨j,hj,rfl⟩:=List.getElem_of_mem hx;exact h3 j _ hj (List.getElem?_eq_getElem hj) hc
theorem erase_perm : ∀{l:List Elem} {k:Nat} {e:Elem},l[k]? = some e→(e :: l.eraseIdx k).Perm l
 | [],_,_,h=>by simp at h
 | x :: l,0,e,h=>by simp at h;subst h;exact .refl _
 | x :: l,k+1,e,h=>by
   have:=erase_perm (l:=l) (k:=k) (e:=e) (by simpa using h);rw [List.eraseIdx_cons_succ];exact (List.Perm.swap x e _).trans (this.cons x)
theorem erase_len {l:List Elem} {k:Nat} {e:Elem} (h:l[k]? = some e):(l.eraseIdx k).length+1=l.length:=by
 have:=(erase_perm h).length_eq;simpa using this
theorem laidV_told : ∀(f:Nat) (ns:List Sym) (l out:List Elem),l.length≤f→ns.Nodup→∀o n,laidV f ns l out=some (o,n)→
 o.Perm (out++l)∧n.Nodup∧n.length≤ns.length+2*l.length∧∀s,s∈n↔s∈ns∨∃e∈l,s=e.id∨(s=e.value∧e.value.kind=1)
 | 0,ns,l,out,hf,hn,o,n,h=>by
   obtain rfl:l = []:=List.length_eq_zero_iff.1 (by omega);injection h with h;injection h with h1 h2;subst h1 h2;exact ⟨by simp,hn,by simp,fun s=>by simp⟩
 | f+1,ns,l,out,hf,hn,o,n,h=>by
   by_cases hl:l = []
   · subst hl
     rw [laidV_nil] at h;injection h with h;injection h with h1 h2;subst h1 h2;exact ⟨by simp,hn,by simp,fun s=>by simp⟩
   · cases hb:bestV ns l with
     | none=>rw [laidV_none hl hb] at h;cases h
     | some k=>
       obtain ⟨e,h1,_,_⟩:=best_at hb;rw [laidV_step hb h1] at h;have hlen:=erase_len h1;obtain ⟨g1,g2,g3,g4⟩:=laidV_told f _ _ _ (by omega) (namesE_nodup hn e) o n h;have p1:=erase_perm h1;have hnl:=namesE_len ns e;refine ⟨?_,g2,by omega,fun s=>?_⟩
       · refine g1.trans ?_
         rw [List.append_assoc];exact List.Perm.append_left _ p1
       · rw [g4 s]
         have hm : ∀x,x∈l↔x=e∨x∈l.eraseIdx k:=fun x=>by rw [← p1.mem_iff,List.mem_cons]
         have hs:s∈namesE ns e↔s∈ns∨s=e.id∨(s=e.value∧e.value.kind=1):=by
          unfold namesE;by_cases hk:e.value.kind=1
          · rw [if_pos hk,mem_putN,mem_putN,or_assoc];simp [hk]
          · rw [if_neg hk,mem_putN];simp [hk]
         rw [hs];constructor
         · rintro ((q | q) | ⟨x,hx,q⟩)
           · exact .inl q
           · exact .inr ⟨e,(hm e).2 (.inl rfl),q⟩
           · exact .inr ⟨x,(hm x).2 (.inr hx),q⟩
         · rintro (q | ⟨x,hx,q⟩)
           · exact .inl (.inl q)
           · rcases (hm x).1 hx with rfl | hx
             · exact .inl (.inr q)
             · exact .inr ⟨x,hx,q⟩
theorem orderV_told {l o:List Elem} {n:List Sym} (h:orderV l=some (o,n)):o.Perm l∧n.Nodup∧n.length≤2*l.length∧∀s,s∈n↔∃e∈l,s=e.id∨(s=e.value∧e.value.kind=1):=by
 obtain ⟨h1,h2,h3,h4⟩:=laidV_told l.length [] l [] (Nat.le_refl _) .nil o n h;exact ⟨by simpa using h1,h2,by simpa using h3,fun s=>by rw [h4 s];simp⟩
theorem andThen_ne {a:Int} (b:Int) (h:a≠0):andThen a b=a:=if_neg h
theorem andThen_eq {a:Int} (b:Int) (h:a=0):andThen a b=b:=if_pos h
end
section
open Go.RowKit
def headB (f:UInt8→Bool) (t:ByteArray):Bool:=t.data.toList.head?.any f
theorem headB_eq {f:UInt8→Bool} {t:ByteArray} (h:0<t.size):headB f t=f t[0]:=by
 have hs:t.data.toList.length=t.size:=Array.length_toList;unfold headB;rw [List.head?_eq_getElem?,List.getElem?_eq_getElem (by omega),Option.any_some,Array.getElem_toList];rfl
def validB (s:Sym):Bool:=
 if s.kind=1 then decide (s.text.size=1) && headB greatB s.text && decide (1≤s.n) && decide (s.n≤1048576)
 else if s.kind=2 then decide (s.text.toList = []) && decide (-2147483647≤s.n) && decide (s.n≤2147483647)
 else if s.kind=3 then decide (s.n=0) && isWord s.text else false
theorem ret_bool {a b:Bool} (h:a=b):Ending.returned (.bool a) = .returned (.bool b):=by rw [h]
theorem valid_is (s:Sym) (w:World):Calls Tryz.prog 242 #[.agg #[.int .i64 s.kind,.string s.text,.int .i64 s.n]] w fun e w'=>e = .returned (.bool (validB s))∧Below w.heap.size w w':=by
 obtain ⟨k,t,n⟩:=s;dsimp only;by_cases k1:k=1
 · subst k1
   by_cases a1:t.size=1
   · have h0:0<t.size:=by omega
     (have t1:((t.size:Int) == 1)=true:=by simp;omega);have HV:=Lib.hid (show validB ⟨1,t,n⟩=(greatB t[0] && decide (1≤n) && decide (n≤1048576)) by simp [validB,a1,headB_eq h0]);go_enter Tryz.func242,Tryz.ntmps242;go_wp2_with (go_at_call 253;refine (great_is _ _).mono ?_;rintro e w' ⟨rfl,rfl⟩)
     all_goals
      go_ret;refine ⟨?_,(Below.refl _ _).alloc (Nat.le_refl _) _⟩;rw [HV.out]
      first | rfl | (refine ret_bool ?_;simp_all;done) | (refine ret_bool ?_;simp_all;omega) | (refine ret_bool ?_;simp_all [greatB];done) | (refine ret_bool ?_;simp_all [greatB];omega)
   · have t1:((t.size:Int) == 1)=false:=by simp;omega
     have HV:=Lib.hid (show validB ⟨1,t,n⟩=false by simp [validB,a1]);go_enter Tryz.func242,Tryz.ntmps242;go_wp2_with fail
     all_goals
      go_ret;refine ⟨?_,(Below.refl _ _).alloc (Nat.le_refl _) _⟩;rw [HV.out];rfl
 · by_cases k2:k=2
   · subst k2
     have HV:=Lib.hid (show validB ⟨2,t,n⟩=(decide (t.toList = []) && decide (-2147483647≤n) && decide (n≤2147483647)) by simp [validB]);clear k1;go_enter Tryz.func242,Tryz.ntmps242;go_wp2_with fail
     all_goals
      go_ret;refine ⟨?_,(Below.refl _ _).alloc (Nat.le_refl _) _⟩;rw [HV.out]
      first | rfl | (refine ret_bool ?_;simp_all;done) | (refine ret_bool ?_;simp_all;omega) | (refine ret_bool ?_;simp_all [greatB];done) | (refine ret_bool ?_;simp_all [greatB];omega)
   · by_cases k3:k=3
     · subst k3
       have HV:=Lib.hid (show validB ⟨3,t,n⟩=(decide (n=0) && isWord t) by simp [validB]);clear k1 k2;go_enter Tryz.func242,Tryz.ntmps242;go_wp2_with (go_at_call 154;refine (word_is _ _).mono ?_;rintro e w' ⟨rfl,rfl⟩)
       all_goals
        go_ret;refine ⟨?_,(Below.refl _ _).alloc (Nat.le_refl _) _⟩;rw [HV.out]
        first | rfl | (refine ret_bool ?_;simp_all;done) | (refine ret_bool ?_;simp_all;omega) | (refine ret_bool ?_;simp_all [greatB];done) | (refine ret_bool ?_;simp_all [greatB];omega)
     · have HV:=Lib.hid (show validB ⟨k,t,n⟩=false by simp [validB,k1,k2,k3])
       (have t1:(k == 1)=false:=by simp [k1]);(have t2:(k == 2)=false:=by simp [k2]);(have t3:(k == 3)=false:=by simp [k3]);clear k1 k2 k3;go_enter Tryz.func242,Tryz.ntmps242;go_wp2_with fail
       all_goals
        go_ret;refine ⟨?_,(Below.refl _ _).alloc (Nat.le_refl _) _⟩;rw [HV.out];rfl
end
section
open Go.RowKit
theorem flat_set1 {α:Type} {cells:α→List Value} (hsz : ∀x,(cells x).length=1) (_h0:0<1) (l:List α) (k:Nat) (hk:k<l.length) (y:α) :
 setAll (l.flatMap cells) k (cells y)=(l.set k y).flatMap cells:=by
 have h:=flat_set hsz (by omega) l k hk y;rwa [Nat.mul_one] at h
end
section
open Go.RowKit
abbrev Name:=ByteArray
def Name.cells (n:Name):List Value:=[.string n]
theorem Name.cells_length (n:Name):(Name.cells n).length=1:=rfl
def cmpName (a b:Name):Int:=cmpStr a b
theorem tc_name:TC cmpName:=tc_str
theorem cmp_name (a b:Name) (w:World):Calls Tryz.prog 316 #[.string a,.string b] w fun e w'=>e = .returned (.int .i64 (cmpName a b))∧Below w.heap.size w w':=by
 go_enter Tryz.func316,Tryz.ntmps316;go_wp2
 all_goals (go_ret;refine ⟨?_,Below.refl _ _⟩;unfold cmpName cmpStr;simp_all)
end
section
def zS:Sym:=⟨0,⟨#[]⟩,0⟩
def noneB (s:Sym):Bool:=decide (s=zS)
def emptyB (a:AtomT):Bool:=decide (a.var.toList = []) && noneB a.sym
def constB (s:Sym):Bool:=decide (s.kind≠1) && validB s
def testB (t:TestT):Bool:=
 if t.rel=8 then decide (t.var.toList = []) && noneB t.sym && decide (1≤t.list.length) && decide (t.list.length≤8) && t.list.all constB
 else if t.rel<1∨7<t.rel∨0<t.list.length then false
 else if t.var.toList = [] then constB t.sym else isWord t.var && noneB t.sym
def atomB (a:AtomT):Bool:=if a.var.toList = [] then constB a.sym else isWord a.var && noneB a.sym
def condE (c:CondT) (deep:Nat):Int:=
 if c.kind=3 then (if c.goal=true∨c.id.toList≠[]∨0<c.attr.length∨0<c.value.length∨c.acc=true∨c.conds.length=0 then 9 else if 3≤deep then 8 else 0)
 else if c.kind=1∨c.kind=2 then
  (if 0<c.conds.length∨isWord c.id=false∨c.attr.length=0 then 9 else if 4<c.attr.length∨4<c.value.length then 7 else if (c.attr.all testB && c.value.all testB)=false then 9 else 0)
 else 9
def wordAB (a:AtomT):Bool:=decide (a.var.toList = []) && decide (a.sym.kind=3)
def termB (t:TermT):Bool:=
 if t.op<0∨3<t.op∨atomB t.a=false then false
 else if t.op=0 then emptyB t.b else atomB t.b && !wordAB t.a && !wordAB t.b
def otherB (k:Int):Bool:=decide (k=8) || decide (k=9) || decide (k=10)
def actB (a:ActT):Bool:=
 if isWord a.id=false∨atomB a.attr=false∨termB a.value=false∨a.pref<1∨10<a.pref then false
 else if otherB a.pref=true then atomB a.other else emptyB a.other
def flatC:Nat→Nat→List CondT→List (Nat×CondT)
 | 0,_,_=>[]
 | n+1,d,l=>l.flatMap fun c=>(d,c) :: flatC n (d+1) c.conds
def shapeP (n:Nat) (p:ProdT):Int×Int:=
 if isWord p.name=false then (-1,2)
 else if (flatC n 0 p.conds).length<1∨16<(flatC n 0 p.conds).length∨p.acts.length<1∨16<p.acts.length then (-1,7)
 else match (flatC n 0 p.conds).findIdx? (fun c=>decide (condE c.2 c.1≠0)) with
  | some k=>(k,(((flatC n 0 p.conds)[k]?).map fun c=>condE c.2 c.1).getD 0)
  | none=>match p.acts.findIdx? (fun a=>!actB a) with
    | some i=>((flatC n 0 p.conds).length+i,9)
    | none=>(-1,0)
abbrev Kn:=List ByteArray×List ByteArray
def metK (k:Kn) (v:ByteArray):Kn:=(put cmpName k.1 v,if has cmpName k.1 v=true then k.2 else k.2 ++ [v])
def hasK (k:Kn) (v:ByteArray):Bool:=has cmpName k.1 v
def fieldK:Kn→List TestT→Bool×Kn
 | k,[]=>(true,k)
 | k,t :: l=>if t.rel=8∨t.var.toList = [] then fieldK k l else if t.rel=1 then fieldK (metK k t.var) l else if hasK k t.var=true then fieldK k l else (false,k)
def oneK (k:Kn) (c:CondT):Bool×Kn:=
 let k1:=if c.goal=true then metK k c.id else k
 if hasK k1 c.id=true then (match fieldK k1 c.attr with | (true,k2)=>fieldK k2 c.value | (false,k2)=>(false,k2)) else (false,k1)
def condsK:Nat→Kn→List CondT→Int→Bool×Int×Kn
 | 0,k,_,at_=>(true,at_,k)
 | _+1,k,[],at_=>(true,at_,k)
 | n+1,k,c :: l,at_=>
   if c.kind=3 then
    (match condsK n (k.1,[]) c.conds (at_+1) with
      | (true,a2,_)=>condsK (n+1) k l a2
      | (false,a2,_)=>(false,a2,k))
   else
    (match oneK (if c.kind=1 then k else (k.1,[])) c with
      | (true,k2)=>condsK (n+1) (if c.kind=1 then k2 else k) l (at_+1)
      | (false,_)=>(false,at_,k))
termination_by n _ l _=>(n,l.length)
def lacksB (k:Kn) (a:AtomT):Bool:=decide (a.var.toList≠[]) && !hasK k a.var
def actV (k:Kn) (a:ActT):Bool:=lacksB k a.attr || (decide (a.value.op≠0) && (lacksB k a.value.a || lacksB k a.value.b))
def checkP (n:Nat) (p:ProdT):Int×Int×List ByteArray:=
 if (shapeP n p).2≠0 then ((shapeP n p).1,(shapeP n p).2,[])
 else if (p.conds.head?.map CondT.kind).getD 0≠1 then (0,9,[])
 else match condsK n ([],[]) p.conds 0 with
  | (false,a,_)=>(a,6,[])
  | (true,a,k)=>match p.acts.findIdx? (actV k) with
    | some i=>(a+i,6,[])
    | none=>(-1,0,k.2)
end
section
def decF:Nat→Nat→ByteArray
 | 0,n=>byte1 n
 | f+1,n=>if n<10 then byte1 n else decF f (n / 10)++byte1 (n % 10)
theorem decF_is : ∀(f n:Nat),n<10 ^ (f+1)→decF f n=decB n
 | 0,n,h=>by rw [decB,if_pos (by simpa using h)];rfl
 | f+1,n,h=>by
   rw [decF,decB]
   split
   · rfl
   · rw [decF_is f (n / 10)]
     rw [Nat.div_lt_iff_lt_mul (by decide)];rw [Nat.pow_succ] at h;exact h
theorem decB_pow : ∀(k n:Nat),n<10 ^ (k+1)→(decB n).size≤k+1
 | 0,n,h=>by rw [decB,if_pos (by simpa using h)];exact Nat.le_refl _
 | k+1,n,h=>by
   rw [decB]
   split
   · rw [byte1_size];omega
   · have h2:n / 10<10 ^ (k+1):=by
      rw [Nat.div_lt_iff_lt_mul (by decide)];rw [Nat.pow_succ] at h;exact h
     have:=decB_pow k (n / 10) h2;rw [ByteArray.size_append,byte1_size];omega
theorem decB_long {n:Nat} (h:n<9223372036854775808):(decB n).size≤19:=decB_pow 18 n (Nat.lt_of_lt_of_le h (by decide))
theorem decF_long {n:Nat} (h:n<9223372036854775808):decF 18 n=decB n:=decF_is 18 n (Nat.lt_of_lt_of_le h (by decide))
def letV (s:Sym):Option UInt8:=if s.kind=1∧s.text.size=1∧65≤(s.text.toList[0]!).toNat∧(s.text.toList[0]!).toNat≤90 then some s.text.toList[0]! else none
def nameV (s:Sym) (n:Int):ByteArray:=if n<1 then ⟨#[]⟩ else match letV s with
 | none=>⟨#[]⟩
 | some c=>⟨#[c - 65+97]⟩++decF 18 n.toNat
def symZ:Sym:=⟨0,⟨#[]⟩,0⟩
def atomZ:AtomT:=⟨⟨#[]⟩,symZ⟩
def testV (ns:List Sym) (rel:Int) (s:Sym):TestT:=if s.kind=1 then ⟨rel,nameV s (plV ns s),symZ,[]⟩ else ⟨rel,⟨#[]⟩,s,[]⟩
def posV (ns:List Sym) (e:Elem):CondT:=.mk 1 e.goal (nameV e.id (plV ns e.id)) [⟨1,⟨#[]⟩,e.attr,[]⟩] [testV ns 1 e.value] e.acc []
def atomV (old:Sym→Bool) (ns:List Sym) (s:Sym):Option (AtomT×List Sym):=
 if s.kind≠1 then some (⟨⟨#[]⟩,s⟩,ns)
 else if plV ns s=0∧old s=true then none
 else some (⟨nameV s (plV (putN ns s) s),symZ⟩,putN ns s)
def actV3 (old:Sym→Bool) (ns:List Sym) (p:PrefT):Option (ActT×List Sym):=
 match atomV old ns p.id with
 | none=>none
 | some (i,n1)=>match atomV old n1 p.value with
   | none=>none
   | some (v,n2)=>match atomV old n2 p.other with
     | none=>none
     | some (o,n3)=>some (⟨i.var,⟨⟨#[]⟩,p.attr⟩,⟨0,v,atomZ⟩,p.kind,o⟩,n3)
instance:DecidableEq AtomT:=fun a b=>decidable_of_iff (a.var=b.var∧a.sym=b.sym) ⟨fun ⟨h1,h2⟩=>by cases a;cases b;simp_all,fun h=>by subst h;exact ⟨rfl,rfl⟩⟩
instance:DecidableEq TermT:=fun a b=>decidable_of_iff (a.op=b.op∧a.a=b.a∧a.b=b.b) ⟨fun ⟨h1,h2,h3⟩=>by cases a;cases b;simp_all,fun h=>by subst h;exact ⟨rfl,rfl,rfl⟩⟩
instance:DecidableEq ActT:=fun a b=>decidable_of_iff (a.id=b.id∧a.attr=b.attr∧a.value=b.value∧a.pref=b.pref∧a.other=b.other) ⟨fun ⟨h1,h2,h3,h4,h5⟩=>by cases a;cases b;simp_all,fun h=>by subst h;exact ⟨rfl,rfl,rfl,rfl,rfl⟩⟩
def addA (acts:List ActT) (a:ActT):List ActT:=if a∈acts then acts else acts ++ [a]
def actsV3 (old:Sym→Bool):List PrefT→List Sym→List ActT→Option (List ActT×List Sym)
 | [],ns,acts=>some (acts,ns)
 | p :: l,ns,acts=>match actV3 old ns p with
   | none=>none
   | some (a,n)=>actsV3 old l n (addA acts a)
def prodW (m:Nat) (name:ByteArray) (cs:List CondT) (tags:List Int) (old:Sym→Bool) (ns:List Sym) (l:List PrefT):Option (ProdT×List Int):=
 match actsV3 old l ns [] with
 | none=>none
 | some (acts,_)=>if (checkP m ⟨name,cs,acts⟩).2.1=0 then some (⟨name,cs,acts⟩,tags) else none
def prodV (m:Nat) (name:ByteArray) (es:List Elem) (old:Sym→Bool) (news:List Sym) (l:List PrefT):Option (ProdT×List Int):=
 match orderV es with
 | none=>none
 | some (o,ns)=>if o = [] then none else if (news.any fun s=>!decide (plV ns s=0))=true then none
   else prodW m name (o.map (posV ns)) (o.map Elem.tag) old ns l
theorem condsK_oneV (n:Nat) (k k2:Kn) (c:CondT) (l:List CondT) (at_:Int) (h:c.kind=1) (h2:oneK k c=(true,k2)):condsK (n+1) k (c :: l) at_=condsK (n+1) k2 l (at_+1):=by
 rw [condsK,if_neg (by omega),if_pos h,h2];simp only [if_pos h]
theorem checkP_V {n:Nat} {p:ProdT} {c:CondT} {l:List CondT} {k1 k2:Kn} {at_:Int} (h0:(shapeP (n+1) p).2=0) (hc:p.conds=c :: l) (hk:c.kind=1) (h1:oneK ([],[]) c=(true,k1)) (h2:condsK (n+1) k1 l 1=(true,at_,k2)) (h3:p.acts.findIdx? (actV k2)=none):(checkP (n+1) p).2.1=0:=by
 unfold checkP;rw [if_neg (by rw [h0];simp),hc,if_neg (by simp [hk]),condsK_oneV n _ k1 c l 0 hk h1,show (0:Int)+1=1 from rfl,h2];simp only [h3]
theorem condsK_nilV (n:Nat) (k:Kn) (at_:Int):condsK (n+1) k [] at_=(true,at_,k):=by rw [condsK]
def sSym:Sym:=⟨1,⟨#[83]⟩,1⟩
def wSym (c:UInt8):Sym:=⟨3,⟨#[c]⟩,0⟩
end
section
open Go.RowKit
structure St where
 sn:Bool
 A:Option Addr
 c:Nat
def upd {β:Type} (S:Nat→β) (b:Nat) (l:β):Nat→β:=fun k=>if k=b then l else S k
theorem upd_same {β:Type} (S:Nat→β) (b:Nat) (l:β):upd S b l b=l:=by simp [upd]
theorem upd_ne {β:Type} (S:Nat→β) {b k:Nat} (l:β) (h:k≠b):upd S b l k=S k:=by simp [upd,h]
theorem upd_id {β:Type} (S:Nat→β) (b:Nat) (l:β) (h:S b=l):upd S b l=S:=by funext k;simp only [upd];split<;>simp_all
structure Sets {α:Type} (tSet tE size:Nat) (cells:α→List Value) (cmp:α→α→Int) (D:Nat→Prop) (w:World) (S:Nat→Option (List α)) (σ:Nat→St):Prop where
 at_ : ∀b l,S b=some l→SetAt tSet tE size cells w b (σ b).sn (σ b).A (σ b).c l
 srt : ∀b l,S b=some l→Srt cmp l
 out : ∀b l,S b=some l→¬D b∧((σ b).sn=false→AIn (σ b).A (fun k=>¬D k))
 apart : ∀b l b' l',S b=some l→S b'=some l'→b≠b'→(σ b).sn=false→∀a a',(σ b).A=some a→(σ b').A=some a'→a.block≠a'.block
 low : ∀k,D k→k<w.heap.size
section
variable {α:Type} {tSet tE size:Nat} {cells:α→List Value} {cmp:α→α→Int} {D D':Nat→Prop} {w w':World} {S:Nat→Option (List α)} {σ:Nat→St} {b b':Nat} {l l':List α}
theorem SetAt.far {sn:Bool} {A:Option Addr} {c:Nat} (h:SetAt tSet tE size cells w b sn A c l) {sn':Bool} {A':Option Addr} {c':Nat} (h':SetAt tSet tE size cells w b' sn' A' c' l') (hne:tE≠tSet):AIn A (·≠b'):=by
 intro a e hb;have:=own_blk_ne h.row h'.blk hne;subst e;exact this (by simp [Value.ownBlock,hb])
theorem Sets.start (tSet tE size:Nat) (cells:α→List Value) (cmp:α→α→Int) (w:World):Sets tSet tE size cells cmp (· < w.heap.size) w (fun _=>none) (fun _=>⟨false,none,0⟩):=
 ⟨fun _ _ h=>by simp at h,fun _ _ h=>by simp at h,fun _ _ h=>by simp at h,fun _ _ _ _ h=>by simp at h,fun _ h=>h⟩
theorem Sets.lt (h:Sets tSet tE size cells cmp D w S σ) (hb:S b=some l):b<w.heap.size:=(h.at_ b l hb).lt
theorem Sets.below (h:Sets tSet tE size cells cmp D w S σ) (hw:Below w.heap.size w w'):Sets tSet tE size cells cmp D w' S σ:=
 ⟨fun b l hb=>(h.at_ b l hb).new_ hw,h.srt,h.out,h.apart,fun k hk=>Nat.lt_of_lt_of_le (h.low k hk) hw.size⟩
theorem Sets.weaken (h:Sets tSet tE size cells cmp D w S σ) (hD : ∀k,D' k→D k):Sets tSet tE size cells cmp D' w S σ:=
 ⟨h.at_,h.srt,fun b l hb=>⟨fun hk=>(h.out b l hb).1 (hD _ hk),fun hs=>((h.out b l hb).2 hs).mono (fun _ hk hd=>hk (hD _ hd))⟩,h.apart,fun k hk=>h.low k (hD k hk)⟩
theorem Sets.widen (h:Sets tSet tE size cells cmp D w S σ) (n:Nat) (hn : ∀b l,S b=some l→b<n∧((σ b).sn=false→AIn (σ b).A (· < n))):Sets tSet tE size cells cmp (fun k=>D k∨(n≤k∧k<w.heap.size)) w S σ:=
 ⟨h.at_,h.srt,fun b l hb=>⟨fun hk=>by
  rcases hk with hk | hk
  · exact (h.out b l hb).1 hk
  · have:=(hn b l hb).1;omega,fun hs a ha hk=>by
  rcases hk with hk | hk
  · exact (h.out b l hb).2 hs a ha hk
  · have:=(hn b l hb).2 hs a ha;omega⟩,h.apart,fun k hk=>by
  rcases hk with hk | hk
  · exact h.low k hk
  · exact hk.2⟩
theorem Sets.protect (h:Sets tSet tE size cells cmp D w S σ) (hw:Below w.heap.size w w'):Sets tSet tE size cells cmp (fun k=>D k∨(w.heap.size≤k∧k<w'.heap.size)) w' S σ:=
 (h.below hw).widen w.heap.size (fun b l hb=>⟨h.lt hb,fun _=>(h.at_ b l hb).row_lt⟩)
theorem Sets.mod (h:Sets tSet tE size cells cmp D w S σ) (hb:S b=some l) (hF:Fr (SetMod b (σ b).sn (σ b).A) w w'):Fr (fun k=>¬D k) w w':=
 hF.mono (fun k _ hk=>by
  rcases hk with rfl | ⟨hs,a,ha,rfl⟩
  · exact (h.out _ l hb).1
  · exact (h.out b l hb).2 hs a ha)
theorem Sets.moved (h:Sets tSet tE size cells cmp D w S σ) (hne:tE≠tSet) (hb:S b=some l) {sn':Bool} {A':Option Addr} {c':Nat} (h1:SetAt tSet tE size cells w' b sn' A' c' l') (hs:Srt cmp l')
 (hF:Fr (SetMod b (σ b).sn (σ b).A) w w') (hM:Moved w (σ b).sn (σ b).A sn' A'):Sets tSet tE size cells cmp D w' (upd S b (some l')) (upd σ b ⟨sn',A',c'⟩):=by
 have hB:=h.at_ b l hb;refine ⟨fun k m hk=>?_,fun k m hk=>?_,fun k m hk=>?_,fun k m k' m' hk hk' hkk hsk a a' ha ha'=>?_,fun k hk=>Nat.lt_of_lt_of_le (h.low k hk) hF.size⟩
 · by_cases e:k=b
   · subst e;rw [upd_same] at hk ⊢;cases hk;exact h1
   · rw [upd_ne _ _ e] at hk ⊢
     have hK:=h.at_ k m hk;refine hK.fr hF ?_ ?_
     · rintro (hx | ⟨hx,a,ha,hx2⟩)
       · exact e hx
       · exact hB.far hK hne a ha hx2
     · intro a ha hx
       rcases hx with hx | ⟨hx,a2,ha2,hx2⟩
       · exact hK.far hB hne a ha hx
       · exact h.apart b l k m hb hk (Ne.symm e) hx a2 a ha2 ha hx2
 · by_cases e:k=b
   · subst e;rw [upd_same] at hk;cases hk;exact hs
   · rw [upd_ne _ _ e] at hk;exact h.srt k m hk
 · by_cases e:k=b
   · subst e;rw [upd_same] at hk ⊢;cases hk
     refine ⟨(h.out _ _ hb).1,fun hs2=>?_⟩;rcases hM with ⟨e1,e2⟩ | ⟨_,g,hg,e2⟩
     · simp only at hs2 ⊢;rw [e2];exact (h.out _ _ hb).2 (by rw [← e1];exact hs2)
     · simp only;rw [e2];intro a ha hd;cases ha;have:=h.low _ hd;simp at this;omega
   · rw [upd_ne _ _ e] at hk ⊢;exact h.out k m hk
 · by_cases e:k=b
   · subst e
     have e':k'≠k:=Ne.symm hkk;rw [upd_ne _ _ e'] at hk' ha';rw [upd_same] at hsk ha;simp only at hsk ha;rcases hM with ⟨e1,e2⟩ | ⟨_,g,hg,e2⟩
     · exact h.apart k l k' m' hb hk' hkk (by rw [← e1];exact hsk) a a' (by rw [← e2];exact ha) ha'
     · rw [e2] at ha;cases ha
       have:=(h.at_ k' m' hk').row_lt a' ha';simp only;omega
   · rw [upd_ne _ _ e] at hk hsk ha
     by_cases e2:k'=b
     · subst e2
       rw [upd_same] at ha';simp only at ha';rcases hM with ⟨_,e3⟩ | ⟨_,g,hg,e3⟩
       · exact h.apart k m k' l hk hb hkk hsk a a' ha (by rw [← e3];exact ha')
       · rw [e3] at ha';cases ha'
         have:=(h.at_ k m hk).row_lt a ha;simp only;omega
     · rw [upd_ne _ _ e2] at hk' ha'
       exact h.apart k m k' m' hk hk' hkk hsk a a' ha ha'
theorem Sets.seen (h:Sets tSet tE size cells cmp D w S σ) (hne:tE≠tSet) (hb:S b=some l) (h1:SetAt tSet tE size cells w' b true (σ b).A (σ b).c l) (hF:Fr (· = b) w w') :
 Sets tSet tE size cells cmp D w' S (upd σ b ⟨true,(σ b).A,(σ b).c⟩):=by
 have hB:=h.at_ b l hb;refine ⟨fun k m hk=>?_,h.srt,fun k m hk=>?_,fun k m k' m' hk hk' hkk hsk a a' ha ha'=>?_,fun k hk=>Nat.lt_of_lt_of_le (h.low k hk) hF.size⟩
 · by_cases e:k=b
   · subst e;rw [upd_same];rw [hb] at hk;cases hk;exact h1
   · rw [upd_ne _ _ e]
     exact (h.at_ k m hk).fr hF e (fun a ha hx=>(h.at_ k m hk).far hB hne a ha hx)
 · refine ⟨(h.out k m hk).1,fun hs=>?_⟩
   by_cases e:k=b
   · subst e;rw [upd_same] at hs;cases hs
   · rw [upd_ne _ _ e] at hs ⊢;exact (h.out k m hk).2 hs
 · by_cases e:k=b
   · subst e;rw [upd_same] at hsk;cases hsk
   · rw [upd_ne _ _ e] at hsk ha
     by_cases e2:k'=b
     · subst e2;rw [upd_same] at ha';exact h.apart k m k' m' hk hk' hkk hsk a a' ha ha'
     · rw [upd_ne _ _ e2] at ha';exact h.apart k m k' m' hk hk' hkk hsk a a' ha ha'
theorem Sets.add (h:Sets tSet tE size cells cmp D w S σ) {k:Nat} {sn':Bool} {A':Option Addr} {c':Nat} (hk:w.heap.size≤k) (h1:SetAt tSet tE size cells w' k sn' A' c' l') (hs:Srt cmp l')
 (hA:AIn A' (w.heap.size≤·)∨(sn'=true∧∃b l,S b=some l∧(σ b).sn=true∧(σ b).A=A')) (hF:Below w.heap.size w w'):Sets tSet tE size cells cmp D w' (upd S k (some l')) (upd σ k ⟨sn',A',c'⟩):=by
 (have hnk : ∀b l,S b=some l→b≠k:=fun b l hb e=>by have:=h.lt hb;omega);refine ⟨fun b m hb=>?_,fun b m hb=>?_,fun b m hb=>?_,fun b m b' m' hb hb' hkk hsk a a' ha ha'=>?_,fun k hk=>Nat.lt_of_lt_of_le (h.low k hk) hF.size⟩
 · by_cases e:b=k
   · subst e;rw [upd_same] at hb ⊢;cases hb;exact h1
   · rw [upd_ne _ _ e] at hb ⊢;exact (h.at_ b m hb).new_ hF
 · by_cases e:b=k
   · subst e;rw [upd_same] at hb;cases hb;exact hs
   · rw [upd_ne _ _ e] at hb;exact h.srt b m hb
 · by_cases e:b=k
   · subst e;rw [upd_same] at hb ⊢;cases hb
     refine ⟨fun hd=>by have:=h.low _ hd;omega,fun hs2 a ha hd=>?_⟩;have h3:=h.low _ hd;rcases hA with hA | ⟨hA,_⟩
     · have:=hA a ha;omega
     · simp only at hs2;rw [hA] at hs2;cases hs2
   · rw [upd_ne _ _ e] at hb ⊢;exact h.out b m hb
 · by_cases e:b=k
   · subst e
     rw [upd_ne _ _ (Ne.symm hkk)] at hb' ha';rw [upd_same] at hsk ha;simp only at hsk ha;have h3:=(h.at_ b' m' hb').row_lt a' ha';rcases hA with hA | ⟨hA,_⟩
     · have:=hA a ha;omega
     · rw [hA] at hsk;cases hsk
   · rw [upd_ne _ _ e] at hb hsk ha
     have h3:=(h.at_ b m hb).row_lt a ha;by_cases e2:b'=k
     · subst e2
       rw [upd_same] at ha';simp only at ha';rcases hA with hA | ⟨_,b2,l2,hb2,hs2,hA⟩
       · have:=hA a' ha';omega
       · by_cases e3:b=b2
         · subst e3;rw [hsk] at hs2;cases hs2
         · exact h.apart b m b2 l2 hb hb2 e3 hsk a a' ha (hA.trans ha')
     · rw [upd_ne _ _ e2] at hb' ha'
       exact h.apart b m b' m' hb hb' hkk hsk a a' ha ha'
end
end
section
open Go.RowKit
abbrev Lword:=ByteArray
def Lword.cells (n:Lword):List Value:=[.string n]
theorem Lword.cells_length (n:Lword):(Lword.cells n).length=1:=rfl
def cmpLword (a b:Lword):Int:=cmpStr a b
theorem tc_lword:TC cmpLword:=tc_str
theorem cmpLword_eq {a b:Lword}:cmpLword a b=0↔a=b:=cmpStr_eq
theorem cmp_lword (a b:Lword) (w:World):Calls Tryz.prog 303 #[.string a,.string b] w fun e w'=>e = .returned (.int .i64 (cmpLword a b))∧Below w.heap.size w w':=by
 go_enter Tryz.func303,Tryz.ntmps303;go_wp2
 all_goals (go_ret;refine ⟨?_,Below.refl _ _⟩;unfold cmpLword cmpStr;simp_all)
end
section
open Go.RowKit
abbrev LwordSet:=SetAt (α:=Lword) 214 158 1 Lword.cells
theorem nilAhead_Lword (k0 : ByteArray) (w : World) : (nilAhead 555 158 (.string k0) "Compare").run Tryz.prog w = .ok (some false) w := by kernel_rfl
theorem method_Lword (k0 : ByteArray) (w : World) : (method 555 158 (.string k0) "Compare").run Tryz.prog w = .ok (303, .string k0) w := by kernel_rfl
def FoundLword (l:List Lword) (x:Lword) (w:World) (e:Ending) (w':World):Prop:=
 e = .returned (.tuple #[.int .i64 (rank cmpLword l x),.bool (has cmpLword l x)])∧Below w.heap.size w w'
theorem find_Lword (b c:Nat) (sn:Bool) (A:Option Addr) (l:List Lword) (x:Lword) (w:World) (hS:LwordSet w b sn A c l) (hs:Srt cmpLword l) (hl:(l.length:Int)≤4611686018427387904) :
 Calls Tryz.prog 132 #[.pointer (some ⟨b,0,none⟩),.string x] w (FoundLword l x w):=by
 have hrd:=hS.rd Lword.cells_length;have h0:=hS.cell0;have hb:=hS.lt;clear hS;have HS:=Lib.hid hs;have HRD:=Lib.hid hrd;clear hs hrd;go_enter Tryz.func132,Tryz.ntmps132;(go_wp2_with fail);go_quiet (fail);(go_wp2_with fail);obtain ⟨W0,hW0⟩ : ∃W0,W0=(w.drewN nq):=⟨_,rfl⟩;(have hB0:Below w.heap.size w W0:=by rw [hW0];exact Below.drewN' (Below.refl _ _) _);rw [← hW0];clear hW0;have HB0:=Lib.hid hB0;clear hB0
 go_loopw [6,7] (fun lo hi wr=>∃i j:Nat,lo = .int .i64 i∧hi = .int .i64 j∧i≤j∧j≤l.length∧(∀k,(h:k<l.length)→k<i→cmpLword l[k] x<0)∧(∀k,(h:k<l.length)→j≤k→0<cmpLword l[k] x)∧Below W0.heap.size W0 wr) (fun lo hi wr=>(intOf hi).toNat - (intOf lo).toNat)
 case atStart=>exact ⟨0,l.length,rfl,rfl,Nat.zero_le _,Nat.le_refl _,fun k _ h=>absurd h (by omega),fun k h h'=>absurd h (by omega),Below.refl _ _⟩
 case round=>
  obtain ⟨i,j,rfl,rfl,hij,hj,hlo,hhi,hB⟩:=hrel;have HLO:=Lib.hid hlo;have HHI:=Lib.hid hhi;clear hlo hhi;have hsz:w.heap.size≤W0.heap.size:=HB0.out.size;by_cases hlt:i<j
  · obtain ⟨m,hm⟩ : ∃m,m=i+(j - i) / 2:=⟨_,rfl⟩
    (have hml:m<l.length:=by omega);(have hmj:m<j:=by omega);(have hmi:i≤m:=by omega);(have e1:((i:Int)+((j:Int) - (i:Int)) / 2)=(m:Int):=by omega);have E1:=Lib.hid e1;clear e1 hm;obtain ⟨g,off,rfl,hgs,hcell⟩:=HRD.out.at_ hml;have low : ∀(p:Addr),p.block<w.heap.size→wr.cell? p=w.cell? p:=fun p hp=>(hB.cell (p:=p) (by omega)).trans (HB0.out.cell (p:=p) hp);have r0:=(low ⟨b,0,none⟩ hb).trans h0;have q0:wr.cell? ⟨g,off+m,none⟩=some (.string l[m]):=(low ⟨g,off+m,none⟩ hgs).trans (by simpa using hcell 0 _ rfl);(have b1:(0:Int)≤(m:Int):=by omega);(have b2:(m:Int)<(l.length:Int):=by omega);have hsw:W0.heap.size≤wr.heap.size:=hB.size;have N:=nilAhead_Lword;have M:=method_Lword;clear low hcell h0;have HB:=Lib.hid hB;clear hB;obtain ⟨y,hy⟩ : ∃y,y=l[m]:=⟨_,rfl⟩;rw [← hy] at q0;have HY:=Lib.hid hy;clear hy;(have hbw:b<wr.heap.size:=by omega);(have hgw:g<wr.heap.size:=by omega);(go_upto_region 4 with (fail));rw [E1.out];(go_wp2_with fail);refine (cmp_lword y x _).mono ?_;rintro e w1 ⟨rfl,hb1⟩;have HB1:Below W0.heap.size W0 w1:=HB.out.trans (hb1.mono hsw);clear r0 q0 N M;have HB1':=Lib.hid HB1;clear HB1;by_cases hc:cmpLword y x=0
    · have HC:=Lib.hid hc
      (have t1:(cmpLword y x == 0)=true:=by simp [hc]);clear hc;(go_wp2_with fail);go_ret2;have e:=HC.out;rw [HY.out] at e;refine ⟨?_,HB0.out.trans (HB1'.out.mono (by omega))⟩;rw [rank_some tc_lword HS.out hml e,(at_some tc_lword HS.out hml e).2.2.1];rfl
    · have t1:(cmpLword y x == 0)=false:=by simp [hc]
      by_cases hc2:cmpLword y x<0
      · have HC:=Lib.hid hc2
        (have t2:decide (cmpLword y x<0)=true:=by simpa using hc2);clear hc hc2;(go_wp2_with fail);go_roundw
        case rel=>
         refine ⟨m+1,j,by go_num,rfl,by omega,hj,fun k h1 h2=>?_,HHI.out,HB1'.out⟩;have e:=HC.out;rw [HY.out] at e;rcases Nat.lt_or_ge k m with h3 | h3
         · exact tc_lword.lt_of_lt_of_le (HS.out.lt h3 hml) (by omega)
         · obtain rfl:k=m:=by omega
           exact e
        case measure=>simp [intOf];omega
      · have t2:decide (cmpLword y x<0)=false:=by simpa using hc2
        (have hc3:0<cmpLword y x:=by omega);have HC:=Lib.hid hc3;clear hc hc2 hc3;(go_wp2_with fail);go_roundw
        case rel=>
         refine ⟨i,m,rfl,rfl,by omega,by omega,HLO.out,fun k h1 h2=>?_,HB1'.out⟩;have e:=HC.out;rw [HY.out] at e;rcases Nat.lt_or_ge m k with h3 | h3
         · exact (tc_lword.symm _ _).1 (tc_lword.lt_trans ((tc_lword.symm _ _).2 e) (HS.out.lt h3 h1))
         · obtain rfl:k=m:=by omega
           exact e
        case measure=>simp [intOf];omega
  · obtain rfl:i=j:=by omega
    have HB:=Lib.hid hB;clear hB;(go_wp2_with fail);go_ret2;refine ⟨?_,HB0.out.trans (HB.out.mono (by omega))⟩;rw [rank_none hj HLO.out HHI.out,(at_none HLO.out HHI.out).2.2];rfl
end
section
open Go.RowKit
theorem info_Lword:(Tryz.prog.info? 158).map (fun i=>(i.zero,i.size,i.bytes))=some (some (.string ⟨#[]⟩),1,16):=by kernel_rfl
theorem Lword.one (x:Lword) : ∀u∈Lword.cells x,u.oneCell'=true:=by intro u hu;simp [Lword.cells] at hu;rcases hu with rfl<;>rfl
theorem Lword.oneAll (l:List Lword) : ∀u∈l.flatMap Lword.cells,u.oneCell'=true:=by intro u hu;obtain ⟨x,_,hx⟩:=List.mem_flatMap.1 hu;exact Lword.one x u hx
def OwnPostLword (w:World) (b:Nat) (sn:Bool) (A:Option Addr) (l:List Lword) (e:Ending) (w':World):Prop:=
 e = .returned (.tuple #[])∧∃A' c',LwordSet w' b false A' c' l∧Fr (· = b) w w'∧Moved w sn A false A'
theorem own_no_Lword (b c:Nat) (A:Option Addr) (l:List Lword) (w:World) (hS:LwordSet w b false A c l) :
 Calls Tryz.prog 133 #[.pointer (some ⟨b,0,none⟩)] w (OwnPostLword w b false A l):=by
 have h1:=hS.cell1;have HS:=Lib.hid hS;clear hS;go_enter Tryz.func133,Tryz.ntmps133;go_wp2;go_end0;exact ⟨rfl,A,c,HS.out,Fr.refl _ _,.inl ⟨rfl,rfl⟩⟩
theorem own_yes_Lword (b c:Nat) (A:Option Addr) (l:List Lword) (w:World) (hS:LwordSet w b true A c l) (hl:(l.length:Int)≤1000000000) :
 Calls Tryz.prog 133 #[.pointer (some ⟨b,0,none⟩)] w (OwnPostLword w b true A l):=by
 obtain ⟨i0,hi,hz0,hz1,hz2⟩:=info_parts info_Lword;have h0:=hS.cell0;have h1:=hS.cell1;have hb:=hS.lt;have f0:=hS.blk.frozen 0;have f1:=hS.blk.frozen 1;have hrd:=hS.rd Lword.cells_length;have HB:=Lib.hid hS.blk;have HRD:=Lib.hid hrd;clear hS hrd;have e1:IntKind.i64.wrap ((l.length:Int)+1)=(l.length:Int)+1:=IntWalk.i64_in _ (by omega)
 have hmk : ∀W:World,(Instr.makeSlice 212 (.int .i64 0) (.int .i64 ((l.length:Int)+1))).run Tryz.prog W = .ok (.slice (some ⟨W.heap.size,0,none⟩) 0 (l.length+1)) (W.alloc (.cells (madeCells (Value.cells (.string ⟨#[]⟩)) ((l.length+1))) 158)):=fun W=>by
  have h:=run_make (P:=Tryz.prog) W 212 158 i0 _ Tryz.underlying212 hi hz0 .i64 .i64 0 ((l.length:Int)+1) (by omega) (by omega) (by rw [hz2];omega) (by omega);rw [hz1] at h;simpa [show ((l.length:Int)+1).toNat=l.length+1 by omega] using h
 go_enter Tryz.func133,Tryz.ntmps133;(go_wp2_with fail);refine wp_region_E (fun w9=>Below w.heap.size w w9) [(0,0),(1,0),(2,0),(3,0),(4,1),(5,0),(6,0),(8,0),(9,0),(10,0),(11,1),(7,2),(12,2),(13,0),(14,0),(15,2)] (by kernel_rfl) (by kernel_rfl) (fun KK hKK=>?_);simp only [beside,List.filterMap_cons,List.filterMap_nil,List.getElem?_toArray,List.getElem?_cons_zero,List.getElem?_cons_succ,Option.map_some];(repeat ((first | (refine wpX_w ?_ (Or.inl ⟨by rfl,fun w9=>?_⟩) ?_;rotate_left 1;go_simp;with_reducible rfl) | (refine wpX_l ?_ (((Below.refl _ _).drew)) (Or.inl ⟨by rfl,fun w9 hw9=>?_⟩) ?_;rotate_left 1;obtain ⟨hc9,hf9⟩:=bcell hw9;go_simp;with_reducible rfl) | refine wpX_w undef (Or.inr ⟨by rfl,rfl⟩) ?_ | refine wpX_l undef (((Below.refl _ _).drew)) (Or.inr ⟨by rfl,rfl⟩) ?_);go_frame));refine wpX_es (fun K9 hK9=>?_);go_simp;refine hK9 _ _ (((Below.refl _ _).drew).alloc (Nat.le_refl _) _) ?_;clear hK9 K9;refine wpX_e (by kernel_rfl) (fun K9 hK9=>?_)
 refine step_append_src _ (by rfl) _ _ _ (by rfl) 158 i0 _ 1 16 Tryz.underlying212 hi hz0 hz1 hz2 rfl (by omega) _ 0 [] (by rfl) (World.ownsRow_made _ _ _ (Nat.zero_le _) (by unfold maxLen;omega) (by simp [madeCells])) A l.length c (l.flatMap Lword.cells) (by rfl) (flat_length Lword.cells_length l)
  ((HRD.out.drew.alloc _).news Lword.cells_length (by omega)) (Lword.oneAll l) (by unfold maxLen;omega) (by omega) ?_
 intro v2 w2 hown hgr hnil hat;refine hK9 _ _ ?_;clear hK9 K9;rw [Nat.zero_add,List.nil_append] at hown;obtain ⟨A',c',rfl,_,_,hz⟩:=own_form2 hown;have HB1:=(HB.out.drew.alloc (.cells (madeCells (Value.cells (.string ⟨#[]⟩)) ((l.length+1))) 158)).grown hgr (by simp [Value.ownBlock];omega);have c0:=(HB1.cell 0).trans rfl;have c1:=(HB1.cell 1).trans rfl;have z0:=HB1.frozen 0;have z1:=HB1.frozen 1;have HB2:=Lib.hid HB1;clear HB1;(repeat ((first | (refine wpX_w ?_ (Or.inl ⟨by rfl,fun w9=>?_⟩) ?_;rotate_left 1;go_simp;with_reducible rfl) | (refine wpX_l ?_ (((Below.refl _ _).drew).alloc (Nat.le_refl _) _) (Or.inl ⟨by rfl,fun w9 hw9=>?_⟩) ?_;rotate_left 1;obtain ⟨hc9,hf9⟩:=bcell hw9;go_simp;with_reducible rfl) | refine wpX_w undef (Or.inr ⟨by rfl,rfl⟩) ?_ | refine wpX_l undef (((Below.refl _ _).drew).alloc (Nat.le_refl _) _) (Or.inr ⟨by rfl,rfl⟩) ?_);go_frame));refine wpX_e (by kernel_rfl) (fun K9 hK9=>?_);go_simp;refine hK9 _ _ ?_;clear hK9 K9;refine wpX_nil ?_;simp only [OnlyN_normal];refine hKK _ _ ?_;clear hKK KK;go_wp2;go_end0
 have hb2:(Value.slice A' l.length c').ownBlock=some w.heap.size∨(Value.slice A' l.length c').ownBlock=some (w.heap.size+1):=by
  rcases hat with h | h
  · left;rw [h];rfl
  · right;rw [h];simp
 have hA : ∃g,w.heap.size≤g∧A'=some ⟨g,0,none⟩:=by
  rcases A' with _ | a
  · exfalso;simp [Value.ownBlock] at hb2
  · obtain ⟨g,rfl⟩:=hz a rfl
    refine ⟨g,?_,rfl⟩;simp [Value.ownBlock] at hb2;omega
 obtain ⟨g,hg,rfl⟩:=hA;have HB1:=HB2.out;have HF:Fr (· = b) w w2:=((Fr.refl (· = b) w).drew.alloc _).grown hgr (fun k e=>by simp [Value.ownBlock] at e;right;omega);refine ⟨rfl,some ⟨g,0,none⟩,c',⟨(HB1.set_ 0 _).set_ 1 _,?_⟩,(HF.setCell (p:=⟨b,0,none⟩) (.inl rfl) _).setCell (p:=⟨b,1,none⟩) (.inl rfl) _,.inr ⟨rfl,g,hg,rfl⟩⟩;(have hne:(Value.slice (some ⟨g,0,none⟩) l.length c').ownBlock≠some b:=by simp [Value.ownBlock];omega);exact ownsRow_setCell_other (a:=⟨b,1,none⟩) (ownsRow_setCell_other (a:=⟨b,0,none⟩) hown hne _) hne _
theorem own_Lword (b c:Nat) (sn:Bool) (A:Option Addr) (l:List Lword) (w:World) (hS:LwordSet w b sn A c l) (hl:(l.length:Int)≤1000000000) :
 Calls Tryz.prog 133 #[.pointer (some ⟨b,0,none⟩)] w (OwnPostLword w b sn A l):=by
 cases sn
 · exact own_no_Lword b c A l w hS
 · exact own_yes_Lword b c A l w hS hl
end
end Go.Proofs.YtldndkngpdfpfaaGreat
