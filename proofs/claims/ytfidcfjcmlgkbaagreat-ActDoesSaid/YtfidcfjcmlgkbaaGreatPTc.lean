/-
  Texts put together: SymWord, EagerT, SymValid, Scal, LeafName, ShapePlain, Sets, FindSym, OpsSym.
-/
import Derived.Test.YtfidcfjcmlgkbaaGreatPTb
namespace Go.Proofs.YtfidcfjcmlgkbaaGreat
open Lib (hid)
set_option maxRecDepth 100000
set_option maxHeartbeats 32000000
section
open Go.RowKit
def Z30 (c:UInt8):Bool:=decide (97≤c.toNat) && decide (c.toNat≤122)
def Z0z (c:UInt8):Bool:=decide (65≤c.toNat) && decide (c.toNat≤90)
def Z5p (c:UInt8):Bool:=decide (48≤c.toNat) && decide (c.toNat≤57)
def Z8x (c:UInt8):Bool:=Z30 c || Z5p c || c.toNat == 45 || c.toNat == 95
def Z0n (t:ByteArray):Bool:=decide (1≤t.size) && decide (t.size≤32) && t.data.toList.head?.any Z30 && t.data.toList.all Z8x
theorem Z3v {t:ByteArray}:Z0n t=true↔∃h:0<t.size,t.size≤32∧Z30 t[0]=true∧∀k,(h:k<t.size)→Z8x t[k]=true:=by
 unfold Z0n;rw [Zlc,Zlc,Zlc,decide_eq_true_iff,decide_eq_true_iff,Zlg];have hs:t.data.toList.length=t.size:=Array.length_toList;constructor
 · rintro ⟨⟨⟨h1,h2⟩,h3⟩,h4⟩
   refine ⟨h1,h2,?_,fun k h=>h4 _ ?_⟩
   · rw [List.head?_eq_getElem?,Zl1 (by omega)] at h3
     exact (by simpa only [Option.any_some,Array.getElem_toList] using h3:Z30 t.data[0]=true)
   · have:t[k]=t.data.toList[k]'(by omega):=by rw [Array.getElem_toList];rfl
     rw [this];exact Zlj _
 · rintro ⟨h1,h2,h3,h4⟩
   refine ⟨⟨⟨h1,h2⟩,?_⟩,fun x hx=>?_⟩
   · rw [List.head?_eq_getElem?,Zl1 (by omega)]
     rw [Option.any_some,Array.getElem_toList];exact h3
   · obtain ⟨k,hk,rfl⟩:=List.getElem_of_mem hx
     have:=h4 k (by omega);rw [Array.getElem_toList];exact this
theorem Z3a {t:ByteArray} (h : ¬∃h:0<t.size,t.size≤32∧Z30 t[0]=true∧∀k,(h:k<t.size)→Z8x t[k]=true):Z0n t=false:=by
 cases e:Z0n t
 · rfl
 · exact absurd (Z3v.1 e) h
theorem Zag (c:UInt8) (w:World):Calls Tryz.prog 142 #[.int .u8 (c.toNat:Int)] w fun e w'=>e = .returned (.bool (Z30 c))∧w=w':=by
 by_cases h1:97≤c.toNat
 · have t1:decide ((97:Int)≤(c.toNat:Int))=true:=by simp;omega
   by_cases h2:c.toNat≤122
   · have t2:decide ((c.toNat:Int)≤122)=true:=by simp;omega
     (have HF:Hid (Z30 c=true):=by simp [Hid,Z30,h1,h2]);clear h1 h2;go_enter Tryz.func142,Tryz.ntmps142;go_wp2;go_ret;exact ⟨by rw [HF.out];rfl,rfl⟩
   · have t2:decide ((c.toNat:Int)≤122)=false:=by simp;omega
     (have HF:Hid (Z30 c=false):=by simp [Hid,Z30,h2]);clear h1 h2;go_enter Tryz.func142,Tryz.ntmps142;go_wp2;go_ret;exact ⟨by rw [HF.out];rfl,rfl⟩
 · have t1:decide ((97:Int)≤(c.toNat:Int))=false:=by simp;omega
   (have HF:Hid (Z30 c=false):=by simp [Hid,Z30,h1]);clear h1;go_enter Tryz.func142,Tryz.ntmps142;go_wp2;go_ret;exact ⟨by rw [HF.out];rfl,rfl⟩
theorem Z45 (c:UInt8) (w:World):Calls Tryz.prog 96 #[.int .u8 (c.toNat:Int)] w fun e w'=>e = .returned (.bool (Z0z c))∧w=w':=by
 by_cases h1:65≤c.toNat
 · have t1:decide ((65:Int)≤(c.toNat:Int))=true:=by simp;omega
   by_cases h2:c.toNat≤90
   · have t2:decide ((c.toNat:Int)≤90)=true:=by simp;omega
     (have HF:Hid (Z0z c=true):=by simp [Hid,Z0z,h1,h2]);clear h1 h2;go_enter Tryz.func96,Tryz.ntmps96;go_wp2;go_ret;exact ⟨by rw [HF.out];rfl,rfl⟩
   · have t2:decide ((c.toNat:Int)≤90)=false:=by simp;omega
     (have HF:Hid (Z0z c=false):=by simp [Hid,Z0z,h2]);clear h1 h2;go_enter Tryz.func96,Tryz.ntmps96;go_wp2;go_ret;exact ⟨by rw [HF.out];rfl,rfl⟩
 · have t1:decide ((65:Int)≤(c.toNat:Int))=false:=by simp;omega
   (have HF:Hid (Z0z c=false):=by simp [Hid,Z0z,h1]);clear h1;go_enter Tryz.func96,Tryz.ntmps96;go_wp2;go_ret;exact ⟨by rw [HF.out];rfl,rfl⟩
theorem Zha (c:UInt8) (w:World):Calls Tryz.prog 143 #[.int .u8 (c.toNat:Int)] w fun e w'=>e = .returned (.bool (Z5p c))∧w=w':=by
 by_cases h1:48≤c.toNat
 · have t1:decide ((48:Int)≤(c.toNat:Int))=true:=by simp;omega
   by_cases h2:c.toNat≤57
   · have t2:decide ((c.toNat:Int)≤57)=true:=by simp;omega
     (have HF:Hid (Z5p c=true):=by simp [Hid,Z5p,h1,h2]);clear h1 h2;go_enter Tryz.func143,Tryz.ntmps143;go_wp2;go_ret;exact ⟨by rw [HF.out];rfl,rfl⟩
   · have t2:decide ((c.toNat:Int)≤57)=false:=by simp;omega
     (have HF:Hid (Z5p c=false):=by simp [Hid,Z5p,h2]);clear h1 h2;go_enter Tryz.func143,Tryz.ntmps143;go_wp2;go_ret;exact ⟨by rw [HF.out];rfl,rfl⟩
 · have t1:decide ((48:Int)≤(c.toNat:Int))=false:=by simp;omega
   (have HF:Hid (Z5p c=false):=by simp [Hid,Z5p,h1]);clear h1;go_enter Tryz.func143,Tryz.ntmps143;go_wp2;go_ret;exact ⟨by rw [HF.out];rfl,rfl⟩
theorem Zgc (c:UInt8) (w:World):Calls Tryz.prog 144 #[.int .u8 (c.toNat:Int)] w fun e w'=>e = .returned (.bool (Z8x c))∧w=w':=by
 have HF:Hid (Z8x c=(((decide (97≤c.toNat) && decide (c.toNat≤122)) || (decide (48≤c.toNat) && decide (c.toNat≤57))) || decide (c.toNat=45) || decide (c.toNat=95))):=rfl;(have t1:decide ((97:Int)≤(c.toNat:Int))=decide (97≤c.toNat):=by apply decide_eq_decide.2;omega);(have t2:decide ((c.toNat:Int)≤122)=decide (c.toNat≤122):=by apply decide_eq_decide.2;omega);(have t3:decide ((48:Int)≤(c.toNat:Int))=decide (48≤c.toNat):=by apply decide_eq_decide.2;omega);(have t4:decide ((c.toNat:Int)≤57)=decide (c.toNat≤57):=by apply decide_eq_decide.2;omega);(have t5:((c.toNat:Int) == 45)=decide (c.toNat=45):=by rw [Zly];simp;omega);(have t6:((c.toNat:Int) == 95)=decide (c.toNat=95):=by rw [Zly];simp;omega);cases h1:decide (97≤c.toNat)<;>cases h2:decide (c.toNat≤122)<;>cases h3:decide (48≤c.toNat)<;>cases h4:decide (c.toNat≤57)<;>cases h5:decide (c.toNat=45)<;>cases h6:decide (c.toNat=95)
 all_goals
  rw [h1] at t1;rw [h2] at t2;rw [h3] at t3;rw [h4] at t4;rw [h5] at t5;rw [h6] at t6;have HF2:=HF.out;rw [h1,h2,h3,h4,h5,h6] at HF2;have HF3:=hid HF2;clear h1 h2 h3 h4 h5 h6 HF HF2;go_enter Tryz.func144,Tryz.ntmps144;go_wp2;go_ret;exact ⟨by rw [HF3.out];rfl,rfl⟩
theorem Z3h (t:ByteArray) (w:World):Calls Tryz.prog 98 #[.string t] w fun e w'=>e = .returned (.bool (Z0n t))∧w=w':=by
 by_cases h1:t.size<1
 · have t1:decide ((t.size:Int)<1)=true:=by simp;omega
   have HF:=hid (Z3a (t:=t) (fun ⟨h,_⟩=>by omega));clear h1;go_enter Tryz.func98,Tryz.ntmps98;go_wp2;go_ret;exact ⟨by rw [HF.out];rfl,rfl⟩
 (have t1:decide ((t.size:Int)<1)=false:=by simp;omega);by_cases h2:32<t.size
 · have t2:decide ((32:Int)<(t.size:Int))=true:=by simp;omega
   have HF:=hid (Z3a (t:=t) (fun ⟨h,h3,_⟩=>by omega));clear h1 h2;go_enter Tryz.func98,Tryz.ntmps98;go_wp2;go_ret;exact ⟨by rw [HF.out];rfl,rfl⟩
 (have t2:decide ((32:Int)<(t.size:Int))=false:=by simp;omega);(have h0:0<t.size:=by omega);(have h32:t.size≤32:=by omega);clear h1 h2;cases h3:Z30 t[0]
 · have HF:=hid (Z3a (t:=t) (fun ⟨h,_,h4,_⟩=>by rw [h3] at h4;cases h4))
   go_enter Tryz.func98,Tryz.ntmps98;(go_wp2_with (go_at_call 142;refine (Zag _ _).mono ?_;rintro e w' ⟨rfl,rfl⟩));go_ret;exact ⟨by rw [HF.out];rfl,rfl⟩
 go_enter Tryz.func98,Tryz.ntmps98;(go_wp2_with (go_at_call 142;refine (Zag _ _).mono ?_;rintro e w' ⟨rfl,rfl⟩));have H3:=hid h3;clear h3 t1 t2
 go_loop [3] (fun s=>∃i:Nat,s = .int .i64 i∧1≤i∧i≤t.size∧∀k,(h:k<t.size)→k<i→Z8x t[k]=true) (fun s=>t.size - (intOf s).toNat)
 case atStart=>exact ⟨1,rfl,Zkt _,h0,fun k h hk=>by obtain rfl:k=0:=by omega
                                                    simp [Z8x,H3.out]⟩
 case round=>
  obtain ⟨i,rfl,hi1,hi,hall⟩:=hrel;have HALL:=hid hall;clear hall;by_cases hlt:i<t.size
  · have HP:Hid (Z8x t[i]=(Z30 t[i] || Z5p t[i] || decide (t[i].toNat=45) || decide (t[i].toNat=95))):=rfl
    (have t5:((t[i].toNat:Int) != 45) = !decide (t[i].toNat=45):=by rw [Zly];simp;omega);(have t6:((t[i].toNat:Int) != 95) = !decide (t[i].toNat=95):=by rw [Zly];simp;omega);cases hs:Z30 t[i]<;>cases hd:Z5p t[i]<;>cases h5:decide (t[i].toNat=45)<;>cases h6:decide (t[i].toNat=95)
    all_goals
     rw [h5] at t5;rw [h6] at t6;simp only [Bool.not_true,Bool.not_false] at t5 t6;have HF1:=HP.out;rw [hs,hd,h5,h6] at HF1;have HF2:=hid HF1;clear h5 h6 HP HF1;go_wp2_with (first | (go_at_call 142;refine (Zag _ _).mono ?_;rintro e w' ⟨rfl,rfl⟩) | (go_at_call 143;refine (Zha _ _).mono ?_;rintro e w' ⟨rfl,rfl⟩))
     first
      | (go_ret
         refine ⟨?_,rfl⟩
         rw [Z3a (t:=t) (fun ⟨_,_,_,h⟩=>by have h2:=h i hlt;rw [HF2.out] at h2;exact absurd h2 (by decide))];rfl)
      | (go_round
         case rel=>exact ⟨i+1,by go_num,by omega,by omega,fun k h hk=>by
          rcases Nat.lt_or_ge k i with h3 | h3
          · exact HALL.out k h h3
          · obtain rfl:k=i:=by omega
            rw [HF2.out];rfl⟩
         case measure=>simp [intOf]<;>omega)
  · have hie:i=t.size:=by omega
    subst hie;go_wp2;go_ret;exact ⟨by rw [Z3v.2 ⟨h0,h32,H3.out,fun k h=>HALL.out k h h⟩];rfl,rfl⟩
theorem Z3t (t:ByteArray) (w:World):Calls Tryz.prog 103 #[.string t] w fun e w'=>e = .returned (.bool (Z0n t))∧w=w':=by
 by_cases h1:t.size<1
 · have t1:decide ((t.size:Int)<1)=true:=by simp;omega
   have HF:=hid (Z3a (t:=t) (fun ⟨h,_⟩=>by omega));clear h1;go_enter Tryz.func103,Tryz.ntmps103;go_wp2;go_ret;exact ⟨by rw [HF.out];rfl,rfl⟩
 (have t1:decide ((t.size:Int)<1)=false:=by simp;omega);by_cases h2:32<t.size
 · have t2:decide ((32:Int)<(t.size:Int))=true:=by simp;omega
   have HF:=hid (Z3a (t:=t) (fun ⟨h,h3,_⟩=>by omega));clear h1 h2;go_enter Tryz.func103,Tryz.ntmps103;go_wp2;go_ret;exact ⟨by rw [HF.out];rfl,rfl⟩
 (have t2:decide ((32:Int)<(t.size:Int))=false:=by simp;omega);(have h0:0<t.size:=by omega);(have h32:t.size≤32:=by omega);clear h1 h2;by_cases h3:t[0].toNat<97
 · have t3:decide ((t[0].toNat:Int)<97)=true:=by simp;omega
   have HF:=hid (Z3a (t:=t) (fun ⟨h,_,h4,_⟩=>by simp [Z30] at h4;omega));clear h3;go_enter Tryz.func103,Tryz.ntmps103;go_wp2;go_ret;exact ⟨by rw [HF.out];rfl,rfl⟩
 (have t3:decide ((t[0].toNat:Int)<97)=false:=by simp;omega);by_cases h4:122<t[0].toNat
 · have t4:decide ((122:Int)<(t[0].toNat:Int))=true:=by simp;omega
   have HF:=hid (Z3a (t:=t) (fun ⟨h,_,h4,_⟩=>by simp [Z30] at h4;omega));clear h3 h4;go_enter Tryz.func103,Tryz.ntmps103;go_wp2;go_ret;exact ⟨by rw [HF.out];rfl,rfl⟩
 (have t4:decide ((122:Int)<(t[0].toNat:Int))=false:=by simp;omega);(have h5:Z30 t[0]=true:=by simp [Z30];omega);have H5:=hid h5;clear h3 h4 h5;go_enter Tryz.func103,Tryz.ntmps103;go_wp2;clear t1 t2 t3 t4
 go_loop [3] (fun s=>∃i:Nat,s = .int .i64 i∧i≤t.size∧∀k,(h:k<t.size)→k<i→Z8x t[k]=true) (fun s=>t.size - (intOf s).toNat)
 case atStart=>exact ⟨0,rfl,Nat.zero_le _,fun k h hk=>by omega⟩
 case round=>
  obtain ⟨i,rfl,hi,hall⟩:=hrel;have HALL:=hid hall;clear hall;by_cases hlt:i<t.size
  · cases hp:Z8x t[i]
    · go_wp2_with (go_at_call 144;refine (Zgc _ _).mono ?_;rintro e w' ⟨rfl,rfl⟩)
      go_ret;refine ⟨?_,rfl⟩;rw [Z3a (t:=t) (fun ⟨_,_,_,h⟩=>by have h2:=h i hlt;rw [hp] at h2;cases h2)];rfl
    · have HP:=hid hp
      go_wp2_with (go_at_call 144;refine (Zgc _ _).mono ?_;rintro e w' ⟨rfl,rfl⟩)
      go_round
      case rel=>exact ⟨i+1,by go_num,by omega,fun k h hk=>by
              rcases Nat.lt_or_ge k i with h3 | h3
              · exact HALL.out k h h3
              · obtain rfl:k=i:=by omega
                exact HP.out⟩
      case measure=>simp [intOf]<;>omega
  · have hie:i=t.size:=by omega
    subst hie;go_wp2;go_ret;exact ⟨by rw [Z3v.2 ⟨h0,h32,H5.out,fun k h=>HALL.out k h h⟩];rfl,rfl⟩
end
section
section
variable {P:Program} {ops:Array Oper} {Q:Exit→Act→World→Prop} {S:World→Prop}
inductive Pl where
 | fin (l:List (Nat×Cls))
 | fork (l:List (Nat×Cls)) (i:Nat) (r:Pl) (j:Nat) (s:Pl)
def setL (listed:Array Bool) (l:List (Nat×Cls)):Array Bool:=l.foldl (fun g x=>g.setIfInBounds x.1 true) listed
def okL (ops:Array Oper):List (Nat×Cls)→Array Bool→Bool
 | [],_=>true
 | (k,c) :: rest,listed=>(if c == 2 then Region.ready .any ops listed == [k] else (Region.ready .any ops listed).contains k && Region.free .any ops listed k) && okL ops rest (listed.setIfInBounds k true)
def chkL (qs ls:List Nat) (l:List (Nat×Cls)):Bool:=l.all fun (k,c)=>(c != 2) == qs.contains k && (c != 1 || ls.contains k)
def okPl (ops:Array Oper) (qs ls:List Nat):Pl→Nat→Array Bool→Bool
 | .fin l,n,listed=>n == l.length && chkL qs ls l && okL ops l listed && (Region.ready .any ops (setL listed l)).isEmpty && l.all fun x=>x.1<ops.size
 | .fork l i r j s,n,listed=>decide (l.length+1≤n) && chkL qs ls l && okL ops l listed && (l.all fun x=>x.1<ops.size) && Region.ready .any ops (setL listed l) == [i,j] && !qs.contains i && !qs.contains j &&
  okPl ops qs ls r (n - l.length - 1) ((setL listed l).setIfInBounds i true) && okPl ops qs ls s (n - l.length - 1) ((setL listed l).setIfInBounds j true)
def wpY (P:Program) (ops:Array Oper) (Q:Exit→Act→World→Prop) (S:World→Prop) (ns:Nat→Bool) (R:Act→World→Prop):List (Nat×Cls×Oper)→Act→World→Prop
 | [],a,w=>R a w
 | (i,c,o) :: rest,a,w=>
   if c=2 then (if Region.wanted o (yielded ops a.tmps)=true then o.wp P a w (fun a' w'=>(ns i=true→S w')∧wpY P ops Q S ns R rest a' w') Q else (ns i=true→S w)∧wpY P ops Q S ns R rest (a.put o.dst undef) w)
   else ∃v,(if c=1 then YieldsIf P ops S o v a∧S w else Yields P ops o v a)∧wpY P ops Q S ns R rest (a.put o.dst v) w
def wpPl (P:Program) (ops:Array Oper) (Q:Exit→Act→World→Prop) (S:World→Prop) (ns:Nat→Bool):Pl→Act→World→Prop
 | .fin l,a,w=>wpY P ops Q S ns (fun a w=>Q .normal a w) (Z0h ops l) a w
 | .fork l i r j s,a,w=>wpY P ops Q S ns (fun a w=>wpOp P ops Q i (fun a' w'=>(ns i=true→S w')∧wpPl P ops Q S ns r a' w') a w∧wpOp P ops Q j (fun a' w'=>(ns j=true→S w')∧wpPl P ops Q S ns s a' w') a w) (Z0h ops l) a w
theorem Z80 : ∀(l:List (Nat×Cls)) (listed:Array Bool),Z4g ops listed→okL ops l listed=true→Z4g ops (setL listed l)
 | [],_,h,_=>h
 | (k,c) :: rest,listed,h,hB=>by
   simp only [okL,Zlc] at hB;refine Z80 rest _ (Z2u h ?_) hB.2;by_cases hc:c=2
   · subst hc
     have hB1:=hB.1;simp only [beq_self_eq_true,if_true] at hB1;(have hr:Region.ready .any ops listed = [k]:=by simpa using hB1);rw [hr];simp
   · have hB1:=hB.1
     rw [if_neg (by simpa using hc)] at hB1;simp only [Zlc] at hB1;simpa using hB1.1
theorem Z63 {qt ns:Nat→Bool} {R:Act→World→Prop} {n:Nat} (hsel:Region.noSelect ops=true) (hQ : ∀c a a' w,Q (.panic c) a w→Q (.panic c) a' w) :
 ∀(rest:List (Nat×Cls)) (listed:Array Bool) (a:Act) (w:World),Z4g ops listed→okL ops rest listed=true→(∀x∈rest,x.1<ops.size)→
  (∀k c,(k,c)∈rest→(qt k=true↔c≠2))→(∀k,(k,1)∈rest→∀j,Z3m ops ops.size j k=false→j≠k→j<ops.size→ns j=true)→
  (∀a w,R a w→Z7k P ops Q S qt ns n (setL listed rest) a w)→wpY P ops Q S ns R (Z0h ops rest) a w→Z7k P ops Q S qt ns (rest.length+n) listed a w
 | [],listed,a,w,_,_,_,_,_,hR,h=>by
   have:=hR a w h;simpa [setL] using this
 | (k,c) :: rest,listed,a,w,hcl,hB,hl,hqt,hns,hR,h=>by
   simp only [okL,Zlc] at hB;obtain ⟨hB1,hB2⟩:=hB;have hi:k<ops.size:=hl (k,c) (by simp);have ho:ops[k]? = some ops[k]:=Array.getElem?_eq_getElem hi;(have hb:Z0h ops ((k,c) :: rest)=(k,c,ops[k]) :: Z0h ops rest:=by simp [Z0h,ho]);have ih:=fun listed' a w hcl' hB' hR' h'=>Z63 (R:=R) (n:=n) hsel hQ rest listed' a w hcl' hB' (fun x hx=>hl x (by simp [hx])) (fun k c hk=>hqt k c (by simp [hk])) (fun k hk=>hns k (by simp [hk])) hR' h';rw [hb] at h;simp only [wpY] at h;(have hlen:((k,c) :: rest).length+n=(rest.length+n)+1:=by simp;omega);rw [hlen];by_cases hc:c=2
   · subst hc
     simp only [beq_self_eq_true,if_true] at hB1;(have hr:Region.ready .any ops listed = [k]:=by simpa using hB1);simp only [if_true] at h;have hcl2:=Z2u hcl (i:=k) (by rw [hr];simp);refine ⟨fun h0=>(by rw [hr] at h0;cases h0),fun i hi'=>?_⟩;rw [hr] at hi';obtain rfl:i=k:=by simpa using hi'
     have hbh : ∀w',(ns i=true→S w')→Z67 S qt ns i w w':=fun w' hs=>by
      unfold Z67;rw [if_neg (fun hq=>(hqt i 2 (by simp)).1 hq rfl)];exact hs
     unfold wpOp;simp only [ho]
     split
     · rename_i hw
       rw [if_pos hw] at h;exact .inl (Oper.wp_mono (fun a' w' h'=>⟨hbh w' h'.1,ih _ a' w' hcl2 hB2 hR h'.2⟩) h)
     · rename_i hw
       rw [if_neg hw] at h;exact ⟨hbh w h.1,ih _ _ w hcl2 hB2 hR h.2⟩
   · rw [if_neg (by simpa using hc)] at hB1
     simp only [Zlc] at hB1;rw [if_neg hc] at h;obtain ⟨v,hy,hk⟩:=h;(have hrdy:k∈Region.ready .any ops listed:=by simpa using hB1.1);have hrest:=ih _ _ w (Z2u hcl hrdy) hB2 hR hk;by_cases h1:c=1
     · subst h1
       rw [if_pos rfl] at hy
       exact Z4a ho (Region.noSelect_spec hsel) (fun c a w=>hQ c _ _ w) true ((hqt k 1 (by simp)).2 hc) (fun _=>hns k (by simp)) (rest.length+n) listed a w hcl (Region.free_spec ho hB1.2) hrdy
        (hy.1.imp (fun ⟨p,q⟩=>⟨p,fun w' hw'=>q w' (hw' rfl)⟩) id) (fun _=>hy.2) hrest
     · rw [if_neg h1] at hy
       exact Z4a ho (Region.noSelect_spec hsel) (fun c a w=>hQ c _ _ w) false ((hqt k c (by simp)).2 hc) (fun h=>by cases h) (rest.length+n) listed a w hcl (Region.free_spec ho hB1.2) hrdy
        (hy.imp (fun ⟨p,q⟩=>⟨p,fun w' _=>q w'⟩) id) (fun h=>by cases h) hrest
theorem Zbu {qs ls:List Nat} (hsel:Region.noSelect ops=true) (hQ : ∀c a a' w,Q (.panic c) a w→Q (.panic c) a' w) (p:Pl) :
 ∀(n:Nat) (listed:Array Bool) (a:Act) (w:World),Z4g ops listed→okPl ops qs ls p n listed=true→
  wpPl P ops Q S (fun j=>ls.any fun k=>k != j && !Z3m ops ops.size j k) p a w→Z7k P ops Q S (fun k=>qs.contains k) (fun j=>ls.any fun k=>k != j && !Z3m ops ops.size j k) n listed a w:=by
 have hq : ∀l,chkL qs ls l=true→∀k c,(k,c)∈l→(qs.contains k=true↔c≠2):=fun l hl k c hk=>by
  have:=Zlg.1 hl (k,c) hk;simp only [Zlc,beq_iff_eq] at this;rw [← this.1];simp
 have hn : ∀l,chkL qs ls l=true→∀k,(k,1)∈l→∀j,Z3m ops ops.size j k=false→j≠k→j<ops.size→(ls.any fun k=>k != j && !Z3m ops ops.size j k)=true:=fun l hl k hk j hw hjk _=>by
  have:=Zlg.1 hl (k,1) hk;simp only [Zlc] at this;(have h2:ls.contains k=true:=by simpa using this.2);rw [Zma];exact ⟨k,by simpa using h2,by rw [hw];simp [Ne.symm hjk]⟩
 induction p with
 | fin l=>
   intro n listed a w hcl hB h;simp only [okPl,Zlc,beq_iff_eq] at hB;obtain ⟨⟨⟨⟨rfl,hc⟩,hL⟩,he⟩,hlt⟩:=hB
   have:=Z63 (P:=P) (Q:=Q) (S:=S) (qt:=fun k=>qs.contains k) (ns:=fun j=>ls.any fun k=>k != j && !Z3m ops ops.size j k) (R:=fun a w=>Q .normal a w) (n:=0) hsel hQ l listed a w hcl hL (by simpa [Zlg] using hlt) (hq l hc) (hn l hc)
    (fun a w h=>⟨by simpa using he,h⟩) h
   simpa using this
 | fork l i r j s ihr ihs=>
   intro n listed a w hcl hB h;simp only [okPl,Zlc,beq_iff_eq,Zlp,Bool.not_eq_true'] at hB;obtain ⟨⟨⟨⟨⟨⟨⟨⟨hlen,hc⟩,hL⟩,hlt⟩,hrd⟩,hqi⟩,hqj⟩,hr⟩,hs⟩:=hB;obtain ⟨m,rfl⟩ : ∃m,n=l.length+(m+1):=⟨n - l.length - 1,by omega⟩;(have em:l.length+(m+1) - l.length - 1=m:=by omega);rw [em] at hr hs;have hcl2:=Z80 l listed hcl hL;refine Z63 (P:=P) (Q:=Q) (S:=S) (qt:=fun k=>qs.contains k) (ns:=fun j=>ls.any fun k=>k != j && !Z3m ops ops.size j k) (n:=m+1) hsel hQ l listed a w hcl hL (by simpa [Zlg] using hlt) (hq l hc) (hn l hc) (fun a w hR=>?_) h;refine ⟨fun h0=>(by rw [hrd] at h0;cases h0),fun k hk=>?_⟩;have hcl3:=Z2u hcl2 hk;rw [hrd] at hk;simp only [Zl7,Zl9,or_false] at hk;rcases hk with rfl | rfl
   · refine wpOp_mono (fun a' w' h'=>⟨?_,ihr m _ a' w' hcl3 hr h'.2⟩) hR.1
     unfold Z67;rw [if_neg (by simp only [hqi];simp)];exact h'.1
   · refine wpOp_mono (fun a' w' h'=>⟨?_,ihs m _ a' w' hcl3 hs h'.2⟩) hR.2
     unfold Z67;rw [if_neg (by simp only [hqj];simp)];exact h'.1
theorem Z4c {id:Nat} {l:List Oper} {a:Act} {w:World} (S:World→Prop) (qs ls:List Nat) (p:Pl) (hm:P.follows .mixedOrders=true) (hsel:Region.noSelect l.toArray=true)
 (hB:okPl l.toArray qs ls p l.toArray.size (Array.replicate l.toArray.size false)=true)
 (h : ∀K:Act→World→Prop,(∀a w,Q .normal a w→K a w)→wpPl P l.toArray (Z65 K) S (fun j=>ls.any fun k=>k != j && !Z3m l.toArray l.toArray.size j k) p a w.drew):(Code.region id l.toArray true).wp P Q a w:=by
 refine Code.wp_mono (Q:=Z65 fun a w=>Q .normal a w) (fun e a w hq=>by cases e<;>first | exact hq | exact hq.elim) (wp_region_any hm ?_);(have hcl:Z4g l.toArray (Array.replicate l.toArray.size false):=fun m o hm=>by rw [getD_replicate_false] at hm;cases hm);exact Z5l _ _ _ _ (Zbu (P:=P) (Q:=Z65 fun a w=>Q .normal a w) (S:=S) hsel (fun c a a' w h=>h) p _ _ a w.drew hcl hB (h _ (fun _ _ h=>h)))
variable {ns:Nat→Bool} {R:Act→World→Prop} {rest:List (Nat×Cls×Oper)} {a:Act} {w:World} {i:Nat} {o:Oper}
theorem Z1x (h:R a w):wpY P ops Q S ns R [] a w:=h
theorem Z1c (v:Value) (hy:Yields P ops o v a) (h:wpY P ops Q S ns R rest (a.put o.dst v) w):wpY P ops Q S ns R ((i,0,o) :: rest) a w:=by
 simp only [wpY];exact ⟨v,by simpa using hy,h⟩
theorem Z1n (v:Value) (hS:S w) (hy:YieldsIf P ops S o v a) (h:wpY P ops Q S ns R rest (a.put o.dst v) w):wpY P ops Q S ns R ((i,1,o) :: rest) a w:=by
 simp only [wpY];exact ⟨v,by simpa using ⟨hy,hS⟩,h⟩
theorem Z1s
 (h : ∀K:Act→World→Prop,(∀a w,S w→wpY P ops Q S ns R rest a w→K a w)→if Region.wanted o (yielded ops a.tmps)=true then Oper.wp P o a w K Q else K (a.put o.dst undef) w):wpY P ops Q S ns R ((i,2,o) :: rest) a w:=by
 have:=h (fun a' w'=>(ns i=true→S w')∧wpY P ops Q S ns R rest a' w') (fun a w h1 h2=>⟨fun _=>h1,h2⟩);simpa only [wpY,if_true] using this
theorem Z2e {C:World→Prop} {H:Act→World→Prop} (ho:ops[i]? = some o)
 (h : ∀K:Act→World→Prop,(∀a w,C w→H a w→K a w)→if Region.wanted o (yielded ops a.tmps)=true then Oper.wp P o a w K Q else K (a.put o.dst undef) w) :
 wpOp P ops Q i (fun a' w'=>C w'∧H a' w') a w:=by
 have h2:=h (fun a' w'=>C w'∧H a' w') (fun a w h1 h2=>⟨h1,h2⟩);unfold wpOp;simp only [ho]
 split
 · rename_i hw
   rw [if_pos hw] at h2;exact .inl h2
 · rename_i hw
   rw [if_neg hw] at h2;exact h2
end
end
section
open Go.RowKit
def Z9u (f:UInt8→Bool) (t:ByteArray):Bool:=t.data.toList.head?.any f
theorem Z7n {f:UInt8→Bool} {t:ByteArray} (h:0<t.size):Z9u f t=f t[0]:=by
 have hs:t.data.toList.length=t.size:=Array.length_toList;unfold Z9u;rw [List.head?_eq_getElem?,Zl1 (by omega),Option.any_some,Array.getElem_toList];rfl
def Z07 (s:Sym):Bool:=
 if s.kind=1 then decide (s.text.size=1) && Z9u Z0z s.text && decide (1≤s.n) && decide (s.n≤1048576)
 else if s.kind=2 then decide (s.text.toList = []) && decide (-2147483647≤s.n) && decide (s.n≤2147483647)
 else if s.kind=3 then decide (s.n=0) && Z0n s.text else false
theorem Z0v {a b:Bool} (h:a=b):Ending.returned (.bool a) = .returned (.bool b):=by rw [h]
theorem Z8q {t:ByteArray} {n:Int} (h:Z07 ⟨1,t,n⟩=true):t.size=1∧Z9u Z0z t=true∧1≤n∧n≤1048576:=by
 simp only [Z07,if_true,Zlc,Zlp] at h;exact ⟨h.1.1.1,h.1.1.2,h.1.2,h.2⟩
theorem Zes {t:ByteArray} {n:Int} (h:Z07 ⟨2,t,n⟩=true):t.toList = []∧-2147483647≤n∧n≤2147483647:=by
 simp [Z07] at h;exact ⟨h.1.1,h.1.2,h.2⟩
theorem Z2j (s:Sym) (w:World):Calls Tryz.prog 49 #[.agg #[.int .i64 s.kind,.string s.text,.int .i64 s.n]] w fun e w'=>e = .returned (.bool (Z07 s))∧Below w.heap.size w w':=by
 obtain ⟨k,t,n⟩:=s;dsimp only;by_cases k1:k=1
 · subst k1
   by_cases a1:t.size=1
   · have h0:0<t.size:=by omega
     (have t1:((t.size:Int) == 1)=true:=by simp;omega);have HV:=hid (show Z07 ⟨1,t,n⟩=(Z0z t[0] && decide (1≤n) && decide (n≤1048576)) by simp [Z07,a1,Z7n h0]);go_enter Tryz.func49,Tryz.ntmps49;go_wp2_with (go_at_call 96;refine (Z45 _ _).mono ?_;rintro e w' ⟨rfl,rfl⟩)
     all_goals
      go_ret;refine ⟨?_,(Zks _ _).alloc (Zkt _) _⟩;rw [HV.out]
      first | rfl | (refine Z0v ?_;simp_all;done) | (refine Z0v ?_;simp_all;omega) | (refine Z0v ?_;simp_all [Z0z];done) | (refine Z0v ?_;simp_all [Z0z];omega)
   · have t1:((t.size:Int) == 1)=false:=by simp;omega
     have HV:=hid (show Z07 ⟨1,t,n⟩=false by simp [Z07,a1]);go_enter Tryz.func49,Tryz.ntmps49;go_wp2_with fail
     all_goals
      go_ret;refine ⟨?_,(Zks _ _).alloc (Zkt _) _⟩;rw [HV.out];rfl
 · by_cases k2:k=2
   · subst k2
     have HV:=hid (show Z07 ⟨2,t,n⟩=(decide (t.toList = []) && decide (-2147483647≤n) && decide (n≤2147483647)) by simp [Z07]);clear k1;go_enter Tryz.func49,Tryz.ntmps49;go_wp2_with fail
     all_goals
      go_ret;refine ⟨?_,(Zks _ _).alloc (Zkt _) _⟩;rw [HV.out]
      first | rfl | (refine Z0v ?_;simp_all;done) | (refine Z0v ?_;simp_all;omega) | (refine Z0v ?_;simp_all [Z0z];done) | (refine Z0v ?_;simp_all [Z0z];omega)
   · by_cases k3:k=3
     · subst k3
       have HV:=hid (show Z07 ⟨3,t,n⟩=(decide (n=0) && Z0n t) by simp [Z07]);clear k1 k2;go_enter Tryz.func49,Tryz.ntmps49;go_wp2_with (go_at_call 98;refine (Z3h _ _).mono ?_;rintro e w' ⟨rfl,rfl⟩)
       all_goals
        go_ret;refine ⟨?_,(Zks _ _).alloc (Zkt _) _⟩;rw [HV.out]
        first | rfl | (refine Z0v ?_;simp_all;done) | (refine Z0v ?_;simp_all;omega) | (refine Z0v ?_;simp_all [Z0z];done) | (refine Z0v ?_;simp_all [Z0z];omega)
     · have HV:=hid (show Z07 ⟨k,t,n⟩=false by simp [Z07,k1,k2,k3])
       (have t1:(k == 1)=false:=by simp [k1]);(have t2:(k == 2)=false:=by simp [k2]);(have t3:(k == 3)=false:=by simp [k3]);clear k1 k2 k3;go_enter Tryz.func49,Tryz.ntmps49;go_wp2_with fail
       all_goals
        go_ret;refine ⟨?_,(Zks _ _).alloc (Zkt _) _⟩;rw [HV.out];rfl
theorem Z2l (s:Sym) (w:World):Calls Tryz.prog 55 #[.agg #[.int .i64 s.kind,.string s.text,.int .i64 s.n]] w fun e w'=>e = .returned (.bool (Z07 s))∧Below w.heap.size w w':=by
 obtain ⟨k,t,n⟩:=s;dsimp only;by_cases k1:k=1
 · subst k1
   by_cases a1:t.size=1
   · have h0:0<t.size:=by omega
     (have t1:((t.size:Int) == 1)=true:=by simp;omega);have HV:=hid (show Z07 ⟨1,t,n⟩=(Z0z t[0] && decide (1≤n) && decide (n≤1048576)) by simp [Z07,a1,Z7n h0]);go_enter Tryz.func55,Tryz.ntmps55;go_wp2_with (fail)
     all_goals
      go_ret;refine ⟨?_,(Zks _ _).alloc (Zkt _) _⟩;rw [HV.out]
      first | rfl | (refine Z0v ?_;simp_all;done) | (refine Z0v ?_;simp_all;omega) | (refine Z0v ?_;simp_all [Z0z];done) | (refine Z0v ?_;simp_all [Z0z];omega)
   · have t1:((t.size:Int) == 1)=false:=by simp;omega
     have HV:=hid (show Z07 ⟨1,t,n⟩=false by simp [Z07,a1]);go_enter Tryz.func55,Tryz.ntmps55;go_wp2_with fail
     all_goals
      go_ret;refine ⟨?_,(Zks _ _).alloc (Zkt _) _⟩;rw [HV.out];rfl
 · by_cases k2:k=2
   · subst k2
     have HV:=hid (show Z07 ⟨2,t,n⟩=(decide (t.toList = []) && decide (-2147483647≤n) && decide (n≤2147483647)) by simp [Z07]);clear k1;go_enter Tryz.func55,Tryz.ntmps55;go_wp2_with fail
     all_goals
      go_ret;refine ⟨?_,(Zks _ _).alloc (Zkt _) _⟩;rw [HV.out]
      first | rfl | (refine Z0v ?_;simp_all;done) | (refine Z0v ?_;simp_all;omega) | (refine Z0v ?_;simp_all [Z0z];done) | (refine Z0v ?_;simp_all [Z0z];omega)
   · by_cases k3:k=3
     · subst k3
       have HV:=hid (show Z07 ⟨3,t,n⟩=(decide (n=0) && Z0n t) by simp [Z07]);clear k1 k2;go_enter Tryz.func55,Tryz.ntmps55;go_wp2_with (go_at_call 103;refine (Z3t _ _).mono ?_;rintro e w' ⟨rfl,rfl⟩)
       all_goals
        go_ret;refine ⟨?_,(Zks _ _).alloc (Zkt _) _⟩;rw [HV.out]
        first | rfl | (refine Z0v ?_;simp_all;done) | (refine Z0v ?_;simp_all;omega) | (refine Z0v ?_;simp_all [Z0z];done) | (refine Z0v ?_;simp_all [Z0z];omega)
     · have HV:=hid (show Z07 ⟨k,t,n⟩=false by simp [Z07,k1,k2,k3])
       (have t1:(k == 1)=false:=by simp [k1]);(have t2:(k == 2)=false:=by simp [k2]);(have t3:(k == 3)=false:=by simp [k3]);clear k1 k2 k3;go_enter Tryz.func55,Tryz.ntmps55;go_wp2_with fail
       all_goals
        go_ret;refine ⟨?_,(Zks _ _).alloc (Zkt _) _⟩;rw [HV.out];rfl
theorem Zay {α:Type} {cells:α→List Value} (hsz : ∀x,(cells x).length=1) (_h0:0<1) (l:List α) (k:Nat) (hk:k<l.length) (y:α) :
 Z5s (l.flatMap cells) k (cells y)=(l.set k y).flatMap cells:=by
 have h:=Z5h hsz (by omega) l k hk y;rwa [Nat.mul_one] at h
abbrev Name:=ByteArray
def Name.cells (n:Name):List Value:=[.string n]
theorem Name.cells_length (n:Name):(Name.cells n).length=1:=rfl
def Z0e (a b:Name):Int:=Z2c a b
theorem Z3g:TC Z0e:=Zit
theorem Z4h {a b:Name}:Z0e a b=0↔a=b:=Z6a
theorem Zh7 (a b:Name) (w:World):Calls Tryz.prog 265 #[.string a,.string b] w fun e w'=>e = .returned (.int .i64 (Z0e a b))∧Below w.heap.size w w':=by
 go_enter Tryz.func265,Tryz.ntmps265;go_wp2
 all_goals (go_ret;refine ⟨?_,Zks _ _⟩;unfold Z0e Z2c;simp_all)
end
section
def zS:Sym:=⟨0,⟨#[]⟩,0⟩
def Z4m (s:Sym):Bool:=decide (s=zS)
def Z2s (a:Z2f):Bool:=decide (a.var.toList = []) && Z4m a.sym
def Z1z (s:Sym):Bool:=decide (s.kind≠1) && Z07 s
def Z0y (t:Z3n):Bool:=
 if t.rel=8 then decide (t.var.toList = []) && Z4m t.sym && decide (1≤t.list.length) && decide (t.list.length≤8) && t.list.all Z1z
 else if t.rel<1∨7<t.rel∨0<t.list.length then false
 else if t.var.toList = [] then Z1z t.sym else Z0n t.var && Z4m t.sym
def Z25 (a:Z2f):Bool:=if a.var.toList = [] then Z1z a.sym else Z0n a.var && Z4m a.sym
def Z0c (c:Z0o) (deep:Nat):Int:=
 if c.kind=3 then (if c.goal=true∨c.id.toList≠[]∨0<c.attr.length∨0<c.value.length∨c.acc=true∨c.conds.length=0 then 9 else if 3≤deep then 8 else 0)
 else if c.kind=1∨c.kind=2 then
  (if 0<c.conds.length∨Z0n c.id=false∨c.attr.length=0 then 9 else if 4<c.attr.length∨4<c.value.length then 7 else if (c.attr.all Z0y && c.value.all Z0y)=false then 9 else 0)
 else 9
def Z49 (a:Z2f):Bool:=decide (a.var.toList = []) && decide (a.sym.kind=3)
def Z2d (t:Z5m):Bool:=
 if t.op<0∨3<t.op∨Z25 t.a=false then false
 else if t.op=0 then Z2s t.b else Z25 t.b && !Z49 t.a && !Z49 t.b
def Z1b (k:Int):Bool:=decide (k=8) || decide (k=9) || decide (k=10)
def actB (a:ActT):Bool:=
 if Z0n a.id=false∨Z25 a.attr=false∨Z2d a.value=false∨a.pref<1∨10<a.pref then false
 else if Z1b a.pref=true then Z25 a.other else Z2s a.other
def Z0f:Nat→Nat→List Z0o→List (Nat×Z0o)
 | 0,_,_=>[]
 | n+1,d,l=>l.flatMap fun c=>(d,c) :: Z0f n (d+1) c.conds
def Z19 (n:Nat) (p:Z31):Int×Int:=
 if Z0n p.name=false then (-1,2)
 else if (Z0f n 0 p.conds).length<1∨16<(Z0f n 0 p.conds).length∨p.acts.length<1∨16<p.acts.length then (-1,7)
 else match (Z0f n 0 p.conds).findIdx? (fun c=>decide (Z0c c.2 c.1≠0)) with
  | some k=>(k,(((Z0f n 0 p.conds)[k]?).map fun c=>Z0c c.2 c.1).getD 0)
  | none=>match p.acts.findIdx? (fun a=>!actB a) with
    | some i=>((Z0f n 0 p.conds).length+i,9)
    | none=>(-1,0)
abbrev Kn:=List ByteArray×List ByteArray
def metK (k:Kn) (v:ByteArray):Kn:=(put Z0e k.1 v,if has Z0e k.1 v=true then k.2 else k.2 ++ [v])
def hasK (k:Kn) (v:ByteArray):Bool:=has Z0e k.1 v
def Z0l:Kn→List Z3n→Bool×Kn
 | k,[]=>(true,k)
 | k,t :: l=>if t.rel=8∨t.var.toList = [] then Z0l k l else if t.rel=1 then Z0l (metK k t.var) l else if hasK k t.var=true then Z0l k l else (false,k)
def oneK (k:Kn) (c:Z0o):Bool×Kn:=
 let k1:=if c.goal=true then metK k c.id else k
 if hasK k1 c.id=true then (match Z0l k1 c.attr with | (true,k2)=>Z0l k2 c.value | (false,k2)=>(false,k2)) else (false,k1)
def Z18:Nat→Kn→List Z0o→Int→Bool×Int×Kn
 | 0,k,_,at_=>(true,at_,k)
 | _+1,k,[],at_=>(true,at_,k)
 | n+1,k,c :: l,at_=>
   if c.kind=3 then
    (match Z18 n (k.1,[]) c.conds (at_+1) with
      | (true,a2,_)=>Z18 (n+1) k l a2
      | (false,a2,_)=>(false,a2,k))
   else
    (match oneK (if c.kind=1 then k else (k.1,[])) c with
      | (true,k2)=>Z18 (n+1) (if c.kind=1 then k2 else k) l (at_+1)
      | (false,_)=>(false,at_,k))
termination_by n _ l _=>(n,l.length)
def Z33 (k:Kn) (a:Z2f):Bool:=decide (a.var.toList≠[]) && !hasK k a.var
def actV (k:Kn) (a:ActT):Bool:=Z33 k a.attr || (decide (a.value.op≠0) && (Z33 k a.value.a || Z33 k a.value.b))
def Z1t (n:Nat) (p:Z31):Int×Int×List ByteArray:=
 if (Z19 n p).2≠0 then ((Z19 n p).1,(Z19 n p).2,[])
 else if (p.conds.head?.map Z0o.kind).getD 0≠1 then (0,9,[])
 else match Z18 n ([],[]) p.conds 0 with
  | (false,a,_)=>(a,6,[])
  | (true,a,k)=>match p.acts.findIdx? (actV k) with
    | some i=>(a+i,6,[])
    | none=>(-1,0,k.2)
end
section
open Go.RowKit
structure St where
 sn:Bool
 A:Option Addr
 c:Nat
def upd {β:Type} (S:Nat→β) (b:Nat) (l:β):Nat→β:=fun k=>if k=b then l else S k
theorem Z06 {β:Type} (S:Nat→β) (b:Nat) (l:β):upd S b l b=l:=by simp [upd]
theorem Z0q {β:Type} (S:Nat→β) {b k:Nat} (l:β) (h:k≠b):upd S b l k=S k:=by simp [upd,h]
theorem Zd1 {β:Type} (S:Nat→β) (b:Nat) (l l':β):upd (upd S b l) b l'=upd S b l':=by funext k;simp only [upd];split<;>rfl
theorem Z52 {β:Type} (S:Nat→β) (b:Nat) (l:β) (h:S b=l):upd S b l=S:=by funext k;simp only [upd];split<;>simp_all
structure Sets {α:Type} (tSet tE size:Nat) (cells:α→List Value) (cmp:α→α→Int) (D:Nat→Prop) (w:World) (S:Nat→Option (List α)) (σ:Nat→St):Prop where
 at_ : ∀b l,S b=some l→Z2g tSet tE size cells w b (σ b).sn (σ b).A (σ b).c l
 srt : ∀b l,S b=some l→Srt cmp l
 out : ∀b l,S b=some l→¬D b∧((σ b).sn=false→AIn (σ b).A (fun k=>¬D k))
 apart : ∀b l b' l',S b=some l→S b'=some l'→b≠b'→(σ b).sn=false→∀a a',(σ b).A=some a→(σ b').A=some a'→a.block≠a'.block
 low : ∀k,D k→k<w.heap.size
section
variable {α:Type} {tSet tE size:Nat} {cells:α→List Value} {cmp:α→α→Int} {D D':Nat→Prop} {w w':World} {S:Nat→Option (List α)} {σ:Nat→St} {b b':Nat} {l l':List α}
theorem Z2g.far {sn:Bool} {A:Option Addr} {c:Nat} (h:Z2g tSet tE size cells w b sn A c l) {sn':Bool} {A':Option Addr} {c':Nat} (h':Z2g tSet tE size cells w b' sn' A' c' l') (hne:tE≠tSet):AIn A (·≠b'):=by
 intro a e hb;have:=Z0d h.row h'.blk hne;subst e;exact this (by simp [Value.ownBlock,hb])
theorem Sets.start (tSet tE size:Nat) (cells:α→List Value) (cmp:α→α→Int) (w:World):Sets tSet tE size cells cmp (· < w.heap.size) w (fun _=>none) (fun _=>⟨false,none,0⟩):=
 ⟨fun _ _ h=>by simp at h,fun _ _ h=>by simp at h,fun _ _ h=>by simp at h,fun _ _ _ _ h=>by simp at h,fun _ h=>h⟩
theorem Sets.lt (h:Sets tSet tE size cells cmp D w S σ) (hb:S b=some l):b<w.heap.size:=(h.at_ b l hb).lt
theorem Sets.below (h:Sets tSet tE size cells cmp D w S σ) (hw:Below w.heap.size w w'):Sets tSet tE size cells cmp D w' S σ:=
 ⟨fun b l hb=>(h.at_ b l hb).new_ hw,h.srt,h.out,h.apart,fun k hk=>Zkx (h.low k hk) hw.size⟩
theorem Sets.weaken (h:Sets tSet tE size cells cmp D w S σ) (hD : ∀k,D' k→D k):Sets tSet tE size cells cmp D' w S σ:=
 ⟨h.at_,h.srt,fun b l hb=>⟨fun hk=>(h.out b l hb).1 (hD _ hk),fun hs=>((h.out b l hb).2 hs).mono (fun _ hk hd=>hk (hD _ hd))⟩,h.apart,fun k hk=>h.low k (hD k hk)⟩
theorem Sets.widen (h:Sets tSet tE size cells cmp D w S σ) (n:Nat) (hn : ∀b l,S b=some l→b<n∧((σ b).sn=false→AIn (σ b).A (· < n))):Sets tSet tE size cells cmp (fun k=>D k∨(n≤k∧k<w.heap.size)) w S σ:=
 ⟨h.at_,h.srt,fun b l hb=>⟨fun hk=>by
  rcases hk with hk | hk
  · exact (h.out b l hb).1 hk
  · have:=(hn b l hb).1;omega,fun hs a ha hk=>by
  rcases hk with hk | hk
  · exact (h.out b l hb).2 hs a ha hk
  · have:=(hn b l hb).2 hs a ha;omega⟩,h.apart,fun k hk=>by
  rcases hk with hk | hk
  · exact h.low k hk
  · exact hk.2⟩
theorem Sets.protect (h:Sets tSet tE size cells cmp D w S σ) (hw:Below w.heap.size w w'):Sets tSet tE size cells cmp (fun k=>D k∨(w.heap.size≤k∧k<w'.heap.size)) w' S σ:=
 (h.below hw).widen w.heap.size (fun b l hb=>⟨h.lt hb,fun _=>(h.at_ b l hb).row_lt⟩)
theorem Sets.mod (h:Sets tSet tE size cells cmp D w S σ) (hb:S b=some l) (hF:Fr (Z1g b (σ b).sn (σ b).A) w w'):Fr (fun k=>¬D k) w w':=
 hF.mono (fun k _ hk=>by
  rcases hk with rfl | ⟨hs,a,ha,rfl⟩
  · exact (h.out _ l hb).1
  · exact (h.out b l hb).2 hs a ha)
theorem Sets.moved (h:Sets tSet tE size cells cmp D w S σ) (hne:tE≠tSet) (hb:S b=some l) {sn':Bool} {A':Option Addr} {c':Nat} (h1:Z2g tSet tE size cells w' b sn' A' c' l') (hs:Srt cmp l')
 (hF:Fr (Z1g b (σ b).sn (σ b).A) w w') (hM:Z5u w (σ b).sn (σ b).A sn' A'):Sets tSet tE size cells cmp D w' (upd S b (some l')) (upd σ b ⟨sn',A',c'⟩):=by
 have hB:=h.at_ b l hb;refine ⟨fun k m hk=>?_,fun k m hk=>?_,fun k m hk=>?_,fun k m k' m' hk hk' hkk hsk a a' ha ha'=>?_,fun k hk=>Zkx (h.low k hk) hF.size⟩
 · by_cases e:k=b
   · subst e;rw [Z06] at hk ⊢;cases hk;exact h1
   · rw [Z0q _ _ e] at hk ⊢
     have hK:=h.at_ k m hk;refine hK.fr hF ?_ ?_
     · rintro (hx | ⟨hx,a,ha,hx2⟩)
       · exact e hx
       · exact hB.far hK hne a ha hx2
     · intro a ha hx
       rcases hx with hx | ⟨hx,a2,ha2,hx2⟩
       · exact hK.far hB hne a ha hx
       · exact h.apart b l k m hb hk (Ne.symm e) hx a2 a ha2 ha hx2
 · by_cases e:k=b
   · subst e;rw [Z06] at hk;cases hk;exact hs
   · rw [Z0q _ _ e] at hk;exact h.srt k m hk
 · by_cases e:k=b
   · subst e;rw [Z06] at hk ⊢;cases hk
     refine ⟨(h.out _ _ hb).1,fun hs2=>?_⟩;rcases hM with ⟨e1,e2⟩ | ⟨_,g,hg,e2⟩
     · simp only at hs2 ⊢;rw [e2];exact (h.out _ _ hb).2 (by rw [← e1];exact hs2)
     · simp only;rw [e2];intro a ha hd;cases ha;have:=h.low _ hd;simp at this;omega
   · rw [Z0q _ _ e] at hk ⊢;exact h.out k m hk
 · by_cases e:k=b
   · subst e
     have e':k'≠k:=Ne.symm hkk;rw [Z0q _ _ e'] at hk' ha';rw [Z06] at hsk ha;simp only at hsk ha;rcases hM with ⟨e1,e2⟩ | ⟨_,g,hg,e2⟩
     · exact h.apart k l k' m' hb hk' hkk (by rw [← e1];exact hsk) a a' (by rw [← e2];exact ha) ha'
     · rw [e2] at ha;cases ha
       have:=(h.at_ k' m' hk').row_lt a' ha';simp only;omega
   · rw [Z0q _ _ e] at hk hsk ha
     by_cases e2:k'=b
     · subst e2
       rw [Z06] at ha';simp only at ha';rcases hM with ⟨_,e3⟩ | ⟨_,g,hg,e3⟩
       · exact h.apart k m k' l hk hb hkk hsk a a' ha (by rw [← e3];exact ha')
       · rw [e3] at ha';cases ha'
         have:=(h.at_ k m hk).row_lt a ha;simp only;omega
     · rw [Z0q _ _ e2] at hk' ha'
       exact h.apart k m k' m' hk hk' hkk hsk a a' ha ha'
theorem Sets.seen (h:Sets tSet tE size cells cmp D w S σ) (hne:tE≠tSet) (hb:S b=some l) (h1:Z2g tSet tE size cells w' b true (σ b).A (σ b).c l) (hF:Fr (· = b) w w') :
 Sets tSet tE size cells cmp D w' S (upd σ b ⟨true,(σ b).A,(σ b).c⟩):=by
 have hB:=h.at_ b l hb;refine ⟨fun k m hk=>?_,h.srt,fun k m hk=>?_,fun k m k' m' hk hk' hkk hsk a a' ha ha'=>?_,fun k hk=>Zkx (h.low k hk) hF.size⟩
 · by_cases e:k=b
   · subst e;rw [Z06];rw [hb] at hk;cases hk;exact h1
   · rw [Z0q _ _ e]
     exact (h.at_ k m hk).fr hF e (fun a ha hx=>(h.at_ k m hk).far hB hne a ha hx)
 · refine ⟨(h.out k m hk).1,fun hs=>?_⟩
   by_cases e:k=b
   · subst e;rw [Z06] at hs;cases hs
   · rw [Z0q _ _ e] at hs ⊢;exact (h.out k m hk).2 hs
 · by_cases e:k=b
   · subst e;rw [Z06] at hsk;cases hsk
   · rw [Z0q _ _ e] at hsk ha
     by_cases e2:k'=b
     · subst e2;rw [Z06] at ha';exact h.apart k m k' m' hk hk' hkk hsk a a' ha ha'
     · rw [Z0q _ _ e2] at ha';exact h.apart k m k' m' hk hk' hkk hsk a a' ha ha'
theorem Sets.add (h:Sets tSet tE size cells cmp D w S σ) {k:Nat} {sn':Bool} {A':Option Addr} {c':Nat} (hk:w.heap.size≤k) (h1:Z2g tSet tE size cells w' k sn' A' c' l') (hs:Srt cmp l')
 (hA:AIn A' (w.heap.size≤·)∨(sn'=true∧∃b l,S b=some l∧(σ b).sn=true∧(σ b).A=A')) (hF:Below w.heap.size w w'):Sets tSet tE size cells cmp D w' (upd S k (some l')) (upd σ k ⟨sn',A',c'⟩):=by
 (have hnk : ∀b l,S b=some l→b≠k:=fun b l hb e=>by have:=h.lt hb;omega);refine ⟨fun b m hb=>?_,fun b m hb=>?_,fun b m hb=>?_,fun b m b' m' hb hb' hkk hsk a a' ha ha'=>?_,fun k hk=>Zkx (h.low k hk) hF.size⟩
 · by_cases e:b=k
   · subst e;rw [Z06] at hb ⊢;cases hb;exact h1
   · rw [Z0q _ _ e] at hb ⊢;exact (h.at_ b m hb).new_ hF
 · by_cases e:b=k
   · subst e;rw [Z06] at hb;cases hb;exact hs
   · rw [Z0q _ _ e] at hb;exact h.srt b m hb
 · by_cases e:b=k
   · subst e;rw [Z06] at hb ⊢;cases hb
     refine ⟨fun hd=>by have:=h.low _ hd;omega,fun hs2 a ha hd=>?_⟩;have h3:=h.low _ hd;rcases hA with hA | ⟨hA,_⟩
     · have:=hA a ha;omega
     · simp only at hs2;rw [hA] at hs2;cases hs2
   · rw [Z0q _ _ e] at hb ⊢;exact h.out b m hb
 · by_cases e:b=k
   · subst e
     rw [Z0q _ _ (Ne.symm hkk)] at hb' ha';rw [Z06] at hsk ha;simp only at hsk ha;have h3:=(h.at_ b' m' hb').row_lt a' ha';rcases hA with hA | ⟨hA,_⟩
     · have:=hA a ha;omega
     · rw [hA] at hsk;cases hsk
   · rw [Z0q _ _ e] at hb hsk ha
     have h3:=(h.at_ b m hb).row_lt a ha;by_cases e2:b'=k
     · subst e2
       rw [Z06] at ha';simp only at ha';rcases hA with hA | ⟨_,b2,l2,hb2,hs2,hA⟩
       · have:=hA a' ha';omega
       · by_cases e3:b=b2
         · subst e3;rw [hsk] at hs2;cases hs2
         · exact h.apart b m b2 l2 hb hb2 e3 hsk a a' ha (hA.trans ha')
     · rw [Z0q _ _ e2] at hb' ha'
       exact h.apart b m b' m' hb hb' hkk hsk a a' ha ha'
end
end
section
open Go.RowKit
abbrev Z2b:=Z2g (α:=Sym) 203 38 3 Sym.cells
theorem Zb9 (k0 : Int) (k1 : ByteArray) (k2 : Int) (w : World) : (nilAhead 442 38 (.agg #[.int .i64 k0, .string k1, .int .i64 k2]) "Compare").run Tryz.prog w = .ok (some false) w := by kernel_rfl
theorem Ze9 (k0 : Int) (k1 : ByteArray) (k2 : Int) (w : World) : (method 442 38 (.agg #[.int .i64 k0, .string k1, .int .i64 k2]) "Compare").run Tryz.prog w = .ok (226, .agg #[.int .i64 k0, .string k1, .int .i64 k2]) w := by kernel_rfl
def Zd3 (l:List Sym) (x:Sym) (w:World) (e:Ending) (w':World):Prop:=
 e = .returned (.tuple #[.int .i64 (rank Z01 l x),.bool (has Z01 l x)])∧Below w.heap.size w w'
theorem Z9s (b c:Nat) (sn:Bool) (A:Option Addr) (l:List Sym) (x:Sym) (w:World) (hS:Z2b w b sn A c l) (hs:Srt Z01 l) (hl:(l.length:Int)≤4611686018427387904) :
 Calls Tryz.prog 132 #[.pointer (some ⟨b,0,none⟩),.agg #[.int .i64 x.kind,.string x.text,.int .i64 x.n]] w (Zd3 l x w):=by
 have hrd:=hS.rd Sym.cells_length;have h0:=hS.cell0;have hb:=hS.lt;clear hS;have HS:=hid hs;have HRD:=hid hrd;clear hs hrd;go_enter Tryz.func132,Tryz.ntmps132;(go_wp2_with fail);go_quiet (fail);(go_wp2_with fail);obtain ⟨W0,hW0⟩ : ∃W0,W0=((w.alloc (Obj.cells #[.int .i64 x.kind,.string x.text,.int .i64 x.n] 38)).drewN nq):=⟨_,rfl⟩;(have hB0:Below w.heap.size w W0:=by rw [hW0];exact Below.drewN' ((Zks _ _).alloc (Zkt _) _) _);(have hx0:W0.cell? ⟨w.heap.size,0,none⟩=some (.int .i64 x.kind):=by rw [hW0];go_simp);(have hx1:W0.cell? ⟨w.heap.size,1,none⟩=some (.string x.text):=by rw [hW0];go_simp);(have hx2:W0.cell? ⟨w.heap.size,2,none⟩=some (.int .i64 x.n):=by rw [hW0];go_simp);rw [← hW0];clear hW0;have HB0:=hid hB0;clear hB0
 go_loopw [6,7] (fun lo hi wr=>∃i j:Nat,lo = .int .i64 i∧hi = .int .i64 j∧i≤j∧j≤l.length∧(∀k,(h:k<l.length)→k<i→Z01 l[k] x<0)∧(∀k,(h:k<l.length)→j≤k→0<Z01 l[k] x)∧Below W0.heap.size W0 wr) (fun lo hi wr=>(intOf hi).toNat - (intOf lo).toNat)
 case atStart=>exact ⟨0,l.length,rfl,rfl,Nat.zero_le _,Zkt _,fun k _ h=>absurd h (by omega),fun k h h'=>absurd h (by omega),Zks _ _⟩
 case round=>
  obtain ⟨i,j,rfl,rfl,hij,hj,hlo,hhi,hB⟩:=hrel;have HLO:=hid hlo;have HHI:=hid hhi;clear hlo hhi;have hsz:w.heap.size<W0.heap.size:=Zla W0 _ hx0;by_cases hlt:i<j
  · obtain ⟨m,hm⟩ : ∃m,m=i+(j - i) / 2:=⟨_,rfl⟩
    (have hml:m<l.length:=by omega);(have hmj:m<j:=by omega);(have hmi:i≤m:=by omega);(have e1:((i:Int)+((j:Int) - (i:Int)) / 2)=(m:Int):=by omega);have E1:=hid e1;clear e1 hm;obtain ⟨g,off,rfl,hgs,hcell⟩:=HRD.out.at_ hml;have low : ∀(p:Addr),p.block<w.heap.size→wr.cell? p=w.cell? p:=fun p hp=>(hB.cell (p:=p) (by omega)).trans (HB0.out.cell (p:=p) hp);have r0:=(low ⟨b,0,none⟩ hb).trans h0;have q0:=(low ⟨g,off+m*3,none⟩ hgs).trans (hcell 0 _ rfl);have q1:=(low ⟨g,off+m*3+1,none⟩ hgs).trans (hcell 1 _ rfl);have q2:=(low ⟨g,off+m*3+2,none⟩ hgs).trans (hcell 2 _ rfl);have y0:=(hB.cell (p:=⟨w.heap.size,0,none⟩) hsz).trans hx0;have y1:=(hB.cell (p:=⟨w.heap.size,1,none⟩) hsz).trans hx1;have y2:=(hB.cell (p:=⟨w.heap.size,2,none⟩) hsz).trans hx2;(have b1:(0:Int)≤(m:Int):=by omega);(have b2:(m:Int)<(l.length:Int):=by omega);have hsw:W0.heap.size≤wr.heap.size:=hB.size;have N:=Zb9;have M:=Ze9;clear low hcell hx0 hx1 hx2 h0;have HB:=hid hB;clear hB;obtain ⟨y,hy⟩ : ∃y,y=l[m]:=⟨_,rfl⟩;rw [← hy] at q0 q1 q2;have HY:=hid hy;clear hy;(have hbw:b<wr.heap.size:=by omega);(have hgw:g<wr.heap.size:=by omega);(have hww:w.heap.size<wr.heap.size:=by omega);(go_wp2_with fail);rw [E1.out]
    go_region_held3 (fun w'=>w'.cell? ⟨b,0,none⟩=some (.slice (some ⟨g,off,none⟩) l.length c)∧w'.cell? ⟨g,off+m*3,none⟩=some (.int .i64 y.kind)∧w'.cell? ⟨g,off+m*3+1,none⟩=some (.string y.text)∧w'.cell? ⟨g,off+m*3+2,none⟩=some (.int .i64 y.n)∧w'.cell? ⟨w.heap.size,0,none⟩=some (.int .i64 x.kind)∧w'.cell? ⟨w.heap.size,1,none⟩=some (.string x.text)∧w'.cell? ⟨w.heap.size,2,none⟩=some (.int .i64 x.n))
     (first | go_keep | (refine ⟨?_,?_,?_,?_,?_,?_,?_⟩<;>exact (hb1.cell (by simpa using by assumption)).trans (by simp [*])))
     ((go_at_call 226;refine (Zj6 y x _).mono ?_;rintro e w1 ⟨rfl,hb1⟩))
    have HB1:Below W0.heap.size W0 w1:=HB.out.drew.trans (hb1.mono hsw);clear r0 q0 q1 q2 y0 y1 y2 N M;by_cases hc:Z01 y x=0
    · have HC:=hid hc
      (have t1:(Z01 y x == 0)=true:=by simp [hc]);clear hc;(go_wp2_with fail);go_ret2;have e:=HC.out;rw [HY.out] at e;refine ⟨?_,HB0.out.trans (HB1.mono (by omega))⟩;rw [Z8g Z1d HS.out hml e,(Z7x Z1d HS.out hml e).2.2.1];rfl
    · have t1:(Z01 y x == 0)=false:=by simp [hc]
      by_cases hc2:Z01 y x<0
      · have HC:=hid hc2
        (have t2:decide (Z01 y x<0)=true:=by simpa using hc2);clear hc hc2;(go_wp2_with fail);go_roundw
        case rel=>
         refine ⟨m+1,j,by go_num,rfl,by omega,hj,fun k h1 h2=>?_,HHI.out,HB1⟩;have e:=HC.out;rw [HY.out] at e;rcases Nat.lt_or_ge k m with h3 | h3
         · exact Z1d.lt_of_lt_of_le (HS.out.lt h3 hml) (by omega)
         · obtain rfl:k=m:=by omega
           exact e
        case measure=>simp [intOf];omega
      · have t2:decide (Z01 y x<0)=false:=by simpa using hc2
        (have hc3:0<Z01 y x:=by omega);have HC:=hid hc3;clear hc hc2 hc3;(go_wp2_with fail);go_roundw
        case rel=>
         refine ⟨i,m,rfl,rfl,by omega,by omega,HLO.out,fun k h1 h2=>?_,HB1⟩;have e:=HC.out;rw [HY.out] at e;rcases Nat.lt_or_ge m k with h3 | h3
         · exact (Z1d.symm _ _).1 (Z1d.lt_trans ((Z1d.symm _ _).2 e) (HS.out.lt h3 h1))
         · obtain rfl:k=m:=by omega
           exact e
        case measure=>simp [intOf];omega
  · obtain rfl:i=j:=by omega
    have HB:=hid hB;clear hB;(go_wp2_with fail);go_ret2;refine ⟨?_,HB0.out.trans (HB.out.mono (by omega))⟩;rw [Z6r hj HLO.out HHI.out,(Z7w HLO.out HHI.out).2.2];rfl
theorem Z6f:(Tryz.prog.info? 38).map (fun i=>(i.zero,i.size,i.bytes))=some (some (.agg #[.int .i64 0,.string ⟨#[]⟩,.int .i64 0]),3,32):=by kernel_rfl
theorem Sym.one (x:Sym) : ∀u∈Sym.cells x,u.oneCell'=true:=by intro u hu;simp [Sym.cells] at hu;rcases hu with rfl | rfl | rfl<;>rfl
theorem Sym.oneAll (l:List Sym) : ∀u∈l.flatMap Sym.cells,u.oneCell'=true:=by intro u hu;obtain ⟨x,_,hx⟩:=List.mem_flatMap.1 hu;exact Sym.one x u hx
def Z6z (w:World) (b:Nat) (sn:Bool) (A:Option Addr) (l:List Sym) (e:Ending) (w':World):Prop:=
 e = .returned (.tuple #[])∧∃A' c',Z2b w' b false A' c' l∧Fr (· = b) w w'∧Z5u w sn A false A'
theorem Zee (b c:Nat) (A:Option Addr) (l:List Sym) (w:World) (hS:Z2b w b false A c l) :
 Calls Tryz.prog 133 #[.pointer (some ⟨b,0,none⟩)] w (Z6z w b false A l):=by
 have h1:=hS.cell1;have HS:=hid hS;clear hS;go_enter Tryz.func133,Tryz.ntmps133;go_wp2;go_end0;exact ⟨rfl,A,c,HS.out,Fr.refl _ _,.inl ⟨rfl,rfl⟩⟩
theorem Zcr (b c:Nat) (A:Option Addr) (l:List Sym) (w:World) (hS:Z2b w b true A c l) (hl:(l.length:Int)≤1000000000) :
 Calls Tryz.prog 133 #[.pointer (some ⟨b,0,none⟩)] w (Z6z w b true A l):=by
 obtain ⟨i0,hi,hz0,hz1,hz2⟩:=info_parts Z6f;have h0:=hS.cell0;have h1:=hS.cell1;have hb:=hS.lt;have f0:=hS.blk.frozen 0;have f1:=hS.blk.frozen 1;have hrd:=hS.rd Sym.cells_length;have HB:=hid hS.blk;have HRD:=hid hrd;clear hS hrd;have e1:IntKind.i64.wrap ((l.length:Int)+1)=(l.length:Int)+1:=Zl5 _ (by omega)
 have hmk : ∀W:World,(Instr.makeSlice 27 (.int .i64 0) (.int .i64 ((l.length:Int)+1))).run Tryz.prog W = .ok (.slice (some ⟨W.heap.size,0,none⟩) 0 (l.length+1)) (W.alloc (.cells (madeCells (Value.cells (.agg #[.int .i64 0,.string ⟨#[]⟩,.int .i64 0])) ((l.length+1)*3)) 38)):=fun W=>by
  have h:=run_make (P:=Tryz.prog) W 27 38 i0 _ Tryz.underlying27 hi hz0 .i64 .i64 0 ((l.length:Int)+1) (by omega) (by omega) (by rw [hz2];omega) (by omega);rw [hz1] at h;simpa [show ((l.length:Int)+1).toNat=l.length+1 by omega] using h
 go_enter Tryz.func133,Tryz.ntmps133;(go_wp2_with fail);refine Z08 (fun w9=>Below w.heap.size w w9) [(0,0),(1,0),(2,0),(3,0),(4,1),(5,0),(6,0),(8,0),(9,0),(10,0),(11,1),(7,2),(12,2),(13,0),(14,0),(15,2)] (by kernel_rfl) (by kernel_rfl) (fun KK hKK=>?_);simp only [Z0h,Zl2,Zl0,Zkz,Zkv,Zky,Zl4];(repeat ((first | (refine Z0b ?_ (Or.inl ⟨by rfl,fun w9=>?_⟩) ?_;rotate_left 1;go_simp;with_reducible rfl) | (refine Z0a ?_ (((Zks _ _).drew)) (Or.inl ⟨by rfl,fun w9 hw9=>?_⟩) ?_;rotate_left 1;obtain ⟨hc9,hf9⟩:=Z0p hw9;go_simp;with_reducible rfl) | refine Z0b undef (Or.inr ⟨by rfl,rfl⟩) ?_ | refine Z0a undef (((Zks _ _).drew)) (Or.inr ⟨by rfl,rfl⟩) ?_);go_frame));refine Z27 (fun K9 hK9=>?_);go_simp;refine hK9 _ _ (((Zks _ _).drew).alloc (Zkt _) _) ?_;clear hK9 K9;refine Z2m (by kernel_rfl) (fun K9 hK9=>?_)
 refine Z1a _ (by rfl) _ _ _ (by rfl) 38 i0 _ 3 32 Tryz.underlying27 hi hz0 hz1 hz2 rfl (by omega) _ 0 [] (by rfl) (World.ownsRow_made _ _ _ (Nat.zero_le _) (by unfold maxLen;omega) (by simp [madeCells])) A l.length c (l.flatMap Sym.cells) (by rfl) (Z0m Sym.cells_length l)
  ((HRD.out.drew.alloc _).news Sym.cells_length (by omega)) (Sym.oneAll l) (by unfold maxLen;omega) (by omega) ?_
 intro v2 w2 hown hgr hnil hat;refine hK9 _ _ ?_;clear hK9 K9;rw [Zlm,Zl8] at hown;obtain ⟨A',c',rfl,_,_,hz⟩:=Z1y hown;have HB1:=(HB.out.drew.alloc (.cells (madeCells (Value.cells (.agg #[.int .i64 0,.string ⟨#[]⟩,.int .i64 0])) ((l.length+1)*3)) 38)).grown hgr (by simp [Value.ownBlock];omega);have c0:=(HB1.cell 0).trans rfl;have c1:=(HB1.cell 1).trans rfl;have z0:=HB1.frozen 0;have z1:=HB1.frozen 1;have HB2:=hid HB1;clear HB1;(repeat ((first | (refine Z0b ?_ (Or.inl ⟨by rfl,fun w9=>?_⟩) ?_;rotate_left 1;go_simp;with_reducible rfl) | (refine Z0a ?_ (((Zks _ _).drew).alloc (Zkt _) _) (Or.inl ⟨by rfl,fun w9 hw9=>?_⟩) ?_;rotate_left 1;obtain ⟨hc9,hf9⟩:=Z0p hw9;go_simp;with_reducible rfl) | refine Z0b undef (Or.inr ⟨by rfl,rfl⟩) ?_ | refine Z0a undef (((Zks _ _).drew).alloc (Zkt _) _) (Or.inr ⟨by rfl,rfl⟩) ?_);go_frame));refine Z2m (by kernel_rfl) (fun K9 hK9=>?_);go_simp;refine hK9 _ _ ?_;clear hK9 K9;refine Z0u ?_;simp only [Z02];refine hKK _ _ ?_;clear hKK KK;go_wp2;go_end0
 have hb2:(Value.slice A' l.length c').ownBlock=some w.heap.size∨(Value.slice A' l.length c').ownBlock=some (w.heap.size+1):=by
  rcases hat with h | h
  · left;rw [h];rfl
  · right;rw [h];simp
 have hA : ∃g,w.heap.size≤g∧A'=some ⟨g,0,none⟩:=by
  rcases A' with _ | a
  · exfalso;simp [Value.ownBlock] at hb2
  · obtain ⟨g,rfl⟩:=hz a rfl
    refine ⟨g,?_,rfl⟩;simp [Value.ownBlock] at hb2;omega
 obtain ⟨g,hg,rfl⟩:=hA;have HB1:=HB2.out;have HF:Fr (· = b) w w2:=((Fr.refl (· = b) w).drew.alloc _).grown hgr (fun k e=>by simp [Value.ownBlock] at e;right;omega);refine ⟨rfl,some ⟨g,0,none⟩,c',⟨(HB1.set_ 0 _).set_ 1 _,?_⟩,(HF.setCell (p:=⟨b,0,none⟩) (.inl rfl) _).setCell (p:=⟨b,1,none⟩) (.inl rfl) _,.inr ⟨rfl,g,hg,rfl⟩⟩;(have hne:(Value.slice (some ⟨g,0,none⟩) l.length c').ownBlock≠some b:=by simp [Value.ownBlock];omega);exact ownsRow_setCell_other (a:=⟨b,1,none⟩) (ownsRow_setCell_other (a:=⟨b,0,none⟩) hown hne _) hne _
theorem Zjl (b c:Nat) (sn:Bool) (A:Option Addr) (l:List Sym) (w:World) (hS:Z2b w b sn A c l) (hl:(l.length:Int)≤1000000000) :
 Calls Tryz.prog 133 #[.pointer (some ⟨b,0,none⟩)] w (Z6z w b sn A l):=by
 cases sn
 · exact Zee b c A l w hS
 · exact Zcr b c A l w hS hl
end
end Go.Proofs.YtfidcfjcmlgkbaaGreat
