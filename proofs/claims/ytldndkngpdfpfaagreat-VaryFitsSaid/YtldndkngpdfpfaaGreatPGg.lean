/-
  Texts put together: VaryP3, VaryN5, VaryN6, VaryC.
-/
import Derived.Test.YtldndkngpdfpfaaGreatPGf
namespace Go.Proofs.YtldndkngpdfpfaaGreat
open Lib (hid)
set_option maxRecDepth 100000
set_option maxHeartbeats 32000000
section
def decF:Nat→Nat→ByteArray
 | 0,n=>Z5h n
 | f+1,n=>if n<10 then Z5h n else decF f (n / 10)++Z5h (n % 10)
theorem Zcx : ∀(f n:Nat),n<10 ^ (f+1)→decF f n=decB n
 | 0,n,h=>by rw [decB,if_pos (by simpa using h)];rfl
 | f+1,n,h=>by
   rw [decF,decB]
   split
   · rfl
   · rw [Zcx f (n / 10)]
     rw [Nat.div_lt_iff_lt_mul (by decide)];rw [Nat.pow_succ] at h;exact h
theorem Zas : ∀(k n:Nat),n<10 ^ (k+1)→(decB n).size≤k+1
 | 0,n,h=>by rw [decB,if_pos (by simpa using h)];exact Zi3 _
 | k+1,n,h=>by
   rw [decB]
   split
   · rw [Z5i];omega
   · have h2:n / 10<10 ^ (k+1):=by
      rw [Nat.div_lt_iff_lt_mul (by decide)];rw [Nat.pow_succ] at h;exact h
     have:=Zas k (n / 10) h2;rw [ByteArray.size_append,Z5i];omega
theorem Z8m {n:Nat} (h:n<9223372036854775808):(decB n).size≤19:=Zas 18 n (Zia h (by decide))
theorem Zcy {n:Nat} (h:n<9223372036854775808):decF 18 n=decB n:=Zcx 18 n (Zia h (by decide))
def letV (s:Sym):Option UInt8:=if s.kind=1∧s.text.size=1∧65≤(s.text.toList[0]!).toNat∧(s.text.toList[0]!).toNat≤90 then some s.text.toList[0]! else none
def Z2c (s:Sym) (n:Int):ByteArray:=if n<1 then ⟨#[]⟩ else match letV s with
 | none=>⟨#[]⟩
 | some c=>⟨#[c - 65+97]⟩++decF 18 n.toNat
def symZ:Sym:=⟨0,⟨#[]⟩,0⟩
def Z5w:Z3t:=⟨⟨#[]⟩,symZ⟩
def Z1c (ns:List Sym) (rel:Int) (s:Sym):Z0i:=if s.kind=1 then ⟨rel,Z2c s (plV ns s),symZ,[]⟩ else ⟨rel,⟨#[]⟩,s,[]⟩
def posV (ns:List Sym) (e:Elem):Z0m:=.mk 1 e.goal (Z2c e.id (plV ns e.id)) [⟨1,⟨#[]⟩,e.attr,[]⟩] [Z1c ns 1 e.value] e.acc []
def Z44 (old:Sym→Bool) (ns:List Sym) (s:Sym):Option (Z3t×List Sym):=
 if s.kind≠1 then some (⟨⟨#[]⟩,s⟩,ns)
 else if plV ns s=0∧old s=true then none
 else some (⟨Z2c s (plV (putN ns s) s),symZ⟩,putN ns s)
def Z4w (old:Sym→Bool) (ns:List Sym) (p:Z1x):Option (ActT×List Sym):=
 match Z44 old ns p.id with
 | none=>none
 | some (i,n1)=>match Z44 old n1 p.value with
   | none=>none
   | some (v,n2)=>match Z44 old n2 p.other with
     | none=>none
     | some (o,n3)=>some (⟨i.var,⟨⟨#[]⟩,p.attr⟩,⟨0,v,Z5w⟩,p.kind,o⟩,n3)
instance:DecidableEq Z3t:=fun a b=>decidable_of_iff (a.var=b.var∧a.sym=b.sym) ⟨fun ⟨h1,h2⟩=>by cases a;cases b;simp_all,fun h=>by subst h;exact ⟨rfl,rfl⟩⟩
instance:DecidableEq Zcg:=fun a b=>decidable_of_iff (a.op=b.op∧a.a=b.a∧a.b=b.b) ⟨fun ⟨h1,h2,h3⟩=>by cases a;cases b;simp_all,fun h=>by subst h;exact ⟨rfl,rfl,rfl⟩⟩
instance:DecidableEq ActT:=fun a b=>decidable_of_iff (a.id=b.id∧a.attr=b.attr∧a.value=b.value∧a.pref=b.pref∧a.other=b.other) ⟨fun ⟨h1,h2,h3,h4,h5⟩=>by cases a;cases b;simp_all,fun h=>by subst h;exact ⟨rfl,rfl,rfl,rfl,rfl⟩⟩
def addA (acts:List ActT) (a:ActT):List ActT:=if a∈acts then acts else acts ++ [a]
def Z2j (old:Sym→Bool):List Z1x→List Sym→List ActT→Option (List ActT×List Sym)
 | [],ns,acts=>some (acts,ns)
 | p :: l,ns,acts=>match Z4w old ns p with
   | none=>none
   | some (a,n)=>Z2j old l n (addA acts a)
def Z5m (m:Nat) (name:ByteArray) (cs:List Z0m) (tags:List Int) (old:Sym→Bool) (ns:List Sym) (l:List Z1x):Option (Z35×List Int):=
 match Z2j old l ns [] with
 | none=>none
 | some (acts,_)=>if (Z24 m ⟨name,cs,acts⟩).2.1=0 then some (⟨name,cs,acts⟩,tags) else none
def Z4s (m:Nat) (name:ByteArray) (es:List Elem) (old:Sym→Bool) (news:List Sym) (l:List Z1x):Option (Z35×List Int):=
 match Z2v es with
 | none=>none
 | some (o,ns)=>if o = [] then none else if (news.any fun s=>!decide (plV ns s=0))=true then none
   else Z5m m name (o.map (posV ns)) (o.map Elem.tag) old ns l
theorem Z6d (n:Nat) (k k2:Kn) (c:Z0m) (l:List Z0m) (at_:Int) (h:c.kind=1) (h2:oneK k c=(true,k2)):Z1e (n+1) k (c :: l) at_=Z1e (n+1) k2 l (at_+1):=by
 rw [Z1e,if_neg (by omega),if_pos h,h2];simp only [if_pos h]
theorem Zf6 {n:Nat} {p:Z35} {c:Z0m} {l:List Z0m} {k1 k2:Kn} {at_:Int} (h0:(Z1v (n+1) p).2=0) (hc:p.conds=c :: l) (hk:c.kind=1) (h1:oneK ([],[]) c=(true,k1)) (h2:Z1e (n+1) k1 l 1=(true,at_,k2)) (h3:p.acts.findIdx? (actV k2)=none):(Z24 (n+1) p).2.1=0:=by
 unfold Z24;rw [if_neg (by rw [h0];simp),hc,if_neg (by simp [hk]),Z6d n _ k1 c l 0 hk h1,show (0:Int)+1=1 from rfl,h2];simp only [h3]
theorem Z9y (n:Nat) (k:Kn) (at_:Int):Z1e (n+1) k [] at_=(true,at_,k):=by rw [Z1e]
def sSym:Sym:=⟨1,⟨#[83]⟩,1⟩
def aSym:Sym:=⟨1,⟨#[65]⟩,1⟩
def wSym (c:UInt8):Sym:=⟨3,⟨#[c]⟩,0⟩
def e22a:Elem:=⟨sSym,wSym 120,aSym,false,true,1⟩
def e22b:Elem:=⟨aSym,wSym 121,⟨2,⟨#[]⟩,3⟩,false,false,2⟩
def p22:Z1x:=⟨aSym,wSym 122,sSym,symZ,1,false,2,1⟩
def c22a:Z0m:=.mk 1 true ⟨#[115,49]⟩ [⟨1,⟨#[]⟩,wSym 120,[]⟩] [⟨1,⟨#[97,50]⟩,symZ,[]⟩] false []
def c22b:Z0m:=.mk 1 false ⟨#[97,50]⟩ [⟨1,⟨#[]⟩,wSym 121,[]⟩] [⟨1,⟨#[]⟩,⟨2,⟨#[]⟩,3⟩,[]⟩] false []
def a22:ActT:=⟨⟨#[97,50]⟩,⟨⟨#[]⟩,wSym 122⟩,⟨0,⟨⟨#[115,49]⟩,symZ⟩,Z5w⟩,1,Z5w⟩
theorem Zcd:Z2v [e22a,e22b]=some ([e22a,e22b],[sSym,aSym]):=by kernel_rfl
theorem Zcc : [e22a,e22b].map (posV [sSym,aSym]) = [c22a,c22b]:=by kernel_rfl
theorem Zer:Z2j (fun _=>false) [p22] [sSym,aSym] []=some ([a22],[sSym,aSym]):=by kernel_rfl
theorem Zcb:(Z24 1 ⟨⟨#[99]⟩,[c22a,c22b],[a22]⟩).2.1=0:=
 Zf6 (n:=0) (c:=c22a) (l:=[c22b]) (k1:=(oneK ([],[]) c22a).2) (k2:=(oneK (oneK ([],[]) c22a).2 c22b).2) (at_:=2) (by kernel_rfl) rfl rfl (by kernel_rfl)
  (by rw [Z6d 0 _ (oneK (oneK ([],[]) c22a).2 c22b).2 c22b [] 1 rfl (by kernel_rfl),Z9y];rfl) (by kernel_rfl)
theorem Z5a:Z4s 1 ⟨#[99]⟩ [e22a,e22b] (fun _=>false) [] [p22]=some (⟨⟨#[99]⟩,[c22a,c22b],[a22]⟩,[1,2]):=by
 unfold Z4s;rw [Zcd];simp only;rw [if_neg (by simp),if_neg (by simp),Zcc];unfold Z5m;rw [Zer];simp only;rw [if_pos Zcb];rfl
end
section
open Go.RowKit Go.Shelf
attribute [local go_sem] Oper.semAt_some
set_option linter.unusedSimpArgs false
theorem Z9i (n:Nat) (h : ¬n<10) (hn:n<9223372036854775808) (ih : ∀w,Calls Tryz.prog 57 #[.int .i64 ((n / 10:Nat):Int)] w fun e w'=>e = .returned (.string (decB (n / 10)))∧Below w.heap.size w w') (w:World):Calls Tryz.prog 57 #[.int .i64 n] w fun e w'=>e = .returned (.string (decB n))∧Below w.heap.size w w':=by
 (have t1:decide ((n:Int)<10)=false:=by simp;omega);(have b0:(0:Int)≤(n:Int):=by omega);(have b1:(n:Int)<9223372036854775808:=by omega);have hc:=Zho (n % 10) (by omega);(have e1:((n:Int) / 10)=((n / 10:Nat):Int):=by omega);(have e2:((n:Int) % 10)=((n % 10:Nat):Int):=by omega);(have m0:(0:Int)≤((n % 10:Nat):Int):=by omega);(have m1:((n % 10:Nat):Int)≤9:=by omega);obtain ⟨m,hm⟩ : ∃m,m=n % 10:=⟨_,rfl⟩;obtain ⟨q,hq⟩ : ∃q,q=n / 10:=⟨_,rfl⟩;rw [← hm] at hc e2 m0 m1;rw [← hq] at e1 ih;(have HD:Hid (decB n=decB q++Z5h m):=by rw [decB,if_neg h,hm,hq];rfl);have v1:IntKind.i64.wrap (q:Int)=(q:Int):=Zih _ (by omega);(have v2:((n:Int)).tmod 10=(m:Int):=by rw [Int.tmod_eq_emod_of_nonneg b0,e2]);have v3:IntKind.i64.wrap (48+(m:Int))=48+(m:Int):=Zih _ (by omega);(have v4:IntKind.u8.wrap (48+(m:Int))=48+(m:Int):=by simp [IntKind.wrap,IntKind.signed,IntKind.bits];omega);(have hz : ¬9223372036854775807<(decB q).size+(Z5h m).size:=by have:=Z8m (n:=q) (by omega);rw [Z5i];omega);clear e2;have IH:=hid ih;have HC:=hid hc;clear ih h hm hq hc;go_enter Tryz.func57,Tryz.ntmps57;(go_wp2_with fail);refine Z1b (fun _=>True) [0,1,3,4,5,6,9,10] [] (.fork [(0,0),(1,0),(3,0),(4,0),(5,0),(6,0)] 2 (.fin [(7,2),(8,2),(9,0),(10,0)]) 7 (.fork [] 2 (.fin [(8,2),(9,0),(10,0)]) 8 (.fin [(2,2),(9,0),(10,0)]))) (by kernel_rfl) (by kernel_rfl) (by kernel_rfl) (fun KK hKK=>?_);simp only [wpPl,Z02,Zib,Zi5,Zi9,Zi8,Zi7,Zif,List.any_nil];(repeat (refine Z0n ?_ (Or.inl ⟨by rfl,fun w9=>?_⟩) ?_;rotate_left 1;go_simp;with_reducible rfl;go_frame));refine Z0f ⟨?_,?_⟩
 · refine Zbf (fun _=>by simp) rfl (fun K9 hK9=>?_)
   go_simp;refine (IH.out _).mono ?_;rintro e w1 ⟨rfl,hb1⟩;refine hK9 _ _ ?_;clear hK9 K9;(try go_frame);refine Z4k (by rfl) (fun K9 hK9=>?_);go_simp;refine hK9 _ _ ?_;clear hK9 K9;(try go_frame);refine Z4k (by rfl) (fun K9 hK9=>?_);have hc:=HC.out (w1.alloc (.cells #[.int .u8 (48+(m:Int))] 5)) w1.heap.size ((Blk.new _ _ _).cell 0);go_simp;refine hK9 _ _ ?_;clear hK9 K9 hc;(try go_frame);(repeat (refine Z0n ?_ (Or.inl ⟨by rfl,fun w9=>?_⟩) ?_;rotate_left 1;go_simp;with_reducible rfl;go_frame));refine Z0f ?_;simp only [Z00];refine hKK _ _ ?_;clear hKK KK;(go_wp2_with fail);go_ret;exact ⟨by rw [HD.out];rfl,((Zi2 _ _).drew.trans (hb1.mono (by simp))).alloc (by have:=hb1.size;simpa using this) _⟩
 · refine Zbf (fun _=>by simp) rfl (fun K9 hK9=>?_)
   go_simp;refine hK9 _ _ ?_;clear hK9 K9;(try go_frame);(try simp only [Z02]);refine Z0f ⟨?_,?_⟩
   · refine Zbf (fun _=>by simp) rfl (fun K9 hK9=>?_)
     go_simp;refine (IH.out _).mono ?_;rintro e w1 ⟨rfl,hb1⟩;refine hK9 _ _ ?_;clear hK9 K9;(try go_frame);refine Z4k (by rfl) (fun K9 hK9=>?_);have hc:=HC.out w1 w.heap.size ((hb1.cell (by simp)).trans ((Blk.new w.drew 5 #[.int .u8 (48+(m:Int))]).cell 0));go_simp;refine hK9 _ _ ?_;clear hK9 K9 hc;(try go_frame);(repeat (refine Z0n ?_ (Or.inl ⟨by rfl,fun w9=>?_⟩) ?_;rotate_left 1;go_simp;with_reducible rfl;go_frame));refine Z0f ?_;simp only [Z00];refine hKK _ _ ?_;clear hKK KK;(go_wp2_with fail);go_ret;exact ⟨by rw [HD.out];rfl,((Zi2 _ _).drew.alloc (by simp) _).trans (hb1.mono (by simp))⟩
   · refine Zbf (fun _=>by simp) rfl (fun K9 hK9=>?_)
     have hc:=HC.out (w.alloc (.cells #[.int .u8 (48+(m:Int))] 5)).drew w.heap.size (((Blk.new w 5 #[.int .u8 (48+(m:Int))]).drew.cell 0).trans rfl);go_simp;refine hK9 _ _ ?_;clear hK9 K9 hc;(try go_frame);refine Z4k (by rfl) (fun K9 hK9=>?_);go_simp;refine (IH.out _).mono ?_;rintro e w1 ⟨rfl,hb1⟩;refine hK9 _ _ ?_;clear hK9 K9;(try go_frame);(repeat (refine Z0n ?_ (Or.inl ⟨by rfl,fun w9=>?_⟩) ?_;rotate_left 1;go_simp;with_reducible rfl;go_frame));refine Z0f ?_;simp only [Z00];refine hKK _ _ ?_;clear hKK KK;(go_wp2_with fail);go_ret;exact ⟨by rw [HD.out];rfl,((Zi2 _ _).drew.alloc (by simp) _).trans (hb1.mono (by simp))⟩
theorem Z9h (n:Nat) (h:n<10) (w:World):Calls Tryz.prog 57 #[.int .i64 n] w fun e w'=>e = .returned (.string (decB n))∧Below w.heap.size w w':=by
 (have t1:decide ((n:Int)<10)=true:=by simp;omega);(have b0:(0:Int)≤(n:Int):=by omega);(have b1:(n:Int)≤9:=by omega);have hc:=Zho n h (w.alloc (.cells #[.int .u8 (48+(n:Int))] 5)) w.heap.size ((Blk.new _ _ _).cell 0);(have HD:Hid (decB n=Z5h n):=by rw [decB,if_pos h];rfl);clear h;go_enter Tryz.func57,Tryz.ntmps57;(go_wp2_with fail);go_ret;exact ⟨by rw [HD.out];rfl,(Zi2 _ _).alloc (Zi3 _) _⟩
theorem Zc7 (n:Nat) (hn:n<9223372036854775808) (w:World):Calls Tryz.prog 57 #[.int .i64 n] w fun e w'=>e = .returned (.string (decB n))∧Below w.heap.size w w':=by
 induction n using Nat.strongRecOn generalizing w with
 | _ n ih=>
   by_cases h:n<10
   · exact Z9h n h w
   · exact Z9i n h hn (fun w=>ih (n / 10) (by omega) (by omega) w) w
theorem tl1 (c:UInt8):(⟨#[c]⟩:ByteArray).toList = [c]:=by kernel_rfl
theorem Z55 {t:ByteArray} (h:t.size=1):t.toList = [t[0]]:=by
 obtain ⟨⟨l⟩⟩:=t
 match l,h with
 | [c],_=>exact tl1 c
def chB (d:Nat):ByteArray:=⟨#[UInt8.ofNat d]⟩
theorem Zf5 (d:Nat):(chB d).size=1:=rfl
theorem Zi1 (d:Nat) (h:d<256) (W:World) (g:Nat) (hc:W.cell? ⟨g,0,none⟩=some (.int .u8 (d:Int))):(convert 118 9 (.slice (some ⟨g,0,none⟩) 1 1)).run Tryz.prog W = .ok (.string (chB d)) W:=
 Lib.run_convert_whole (P:=Tryz.prog) W 118 5 9 Tryz.underlying118 Tryz.underlying5 Tryz.underlying9 g 0 (chB d) (fun i hi=>by
  (have:i=0:=by have:(chB d).size=1:=rfl;omega);subst this;rw [Nat.add_zero,hc];have e:(chB d)[0].toNat=d:=by show (UInt8.ofNat d).toNat=d;simp;omega
  rw [e]) 1
theorem Z4i {s:Sym} {n:Int} (h:letV s=none):Z2c s n=⟨#[]⟩:=by
 unfold Z2c;split;rfl;rw [h]
theorem Zdo {s:Sym} {n:Int} (h:n<1):Z2c s n=⟨#[]⟩:=by unfold Z2c;rw [if_pos h]
theorem Zdi {s:Sym} (h:s.kind≠1):letV s=none:=by unfold letV;rw [if_neg (fun e=>h e.1)]
theorem Zdj {s:Sym} (h:s.text.size≠1):letV s=none:=by unfold letV;rw [if_neg (fun e=>h e.2.1)]
theorem Zfl {s:Sym} (h:s.text.size=1) (h2:s.text[0].toNat<65):letV s=none:=by
 unfold letV;rw [if_neg];rintro ⟨_,_,e,_⟩;rw [Z55 h] at e;simp at e;omega
theorem Zdh {s:Sym} (h:s.text.size=1) (h2:90<s.text[0].toNat):letV s=none:=by
 unfold letV;rw [if_neg];rintro ⟨_,_,_,e⟩;rw [Z55 h] at e;simp at e;omega
theorem Zdp {s:Sym} {k:Nat} (hk:s.kind=1) (h:s.text.size=1) (h1:65≤s.text[0].toNat) (h2:s.text[0].toNat≤90) (hn:1≤k) (hm:k<9223372036854775808):Z2c s (k:Int)=chB (s.text[0].toNat+32)++decB k:=by
 have e:letV s=some s.text[0]:=by
  unfold letV;rw [if_pos ⟨hk,h,by rw [Z55 h];simpa using h1,by rw [Z55 h];simpa using h2⟩,Z55 h];rfl
 unfold Z2c;rw [if_neg (by omega),e];simp only;rw [show (k:Int).toNat=k from rfl,Zcy hm];congr 1;unfold chB
 have e2:(s.text[0]'(by omega):UInt8) - (65:UInt8)+(97:UInt8)=UInt8.ofNat (s.text[0].toNat+32):=by
  apply UInt8.toNat_inj.1;rw [UInt8.toNat_add,UInt8.toNat_sub];simp;omega
 rw [e2]
theorem Zgf (s:Sym) (n:Int) (hn:n<9223372036854775808) (w:World):Calls Tryz.prog 14 #[.agg #[.int .i64 s.kind,.string s.text,.int .i64 s.n],.int .i64 n] w fun e w'=>e = .returned (.string (Z2c s n))∧Below w.heap.size w w':=by
 have HA:=hid ((Zi2 w.heap.size w).alloc (Zi3 _) (.cells #[.int .i64 s.kind,.string s.text,.int .i64 s.n] 23));obtain ⟨v,hv⟩ : ∃v,v=Z2c s n:=⟨_,rfl⟩;rw [← hv];by_cases k1:s.kind=1
 case neg=>
  have HV:=hid (show v=⟨#[]⟩ from hv.trans (Z4i (Zdi k1)));(have e1:(s.kind != 1)=true:=by simp [k1]);clear hv k1;go_enter Tryz.func14,Tryz.ntmps14;go_wp2_with fail
  all_goals (go_ret;exact ⟨by rw [HV.out]<;>rfl,HA.out⟩)
 by_cases k2:s.text.size=1
 case neg=>
  have HV:=hid (show v=⟨#[]⟩ from hv.trans (Z4i (Zdj k2)));(have e1:(s.kind != 1)=false:=by simp [k1]);(have e2:((s.text.size:Int) != 1)=true:=by simp;omega);clear hv k1;go_enter Tryz.func14,Tryz.ntmps14;go_wp2_with fail
  all_goals (go_ret;exact ⟨by rw [HV.out]<;>rfl,HA.out⟩)
 (have e1:(s.kind != 1)=false:=by simp [k1]);(have e2:((s.text.size:Int) != 1)=false:=by simp;omega);(have h0:0<s.text.size:=by omega);by_cases k3:s.text[0].toNat<65
 case pos=>
  have HV:=hid (show v=⟨#[]⟩ from hv.trans (Z4i (Zfl k2 k3)));(have e3:decide ((s.text[0].toNat:Int)<65)=true:=by simp;omega);(have e4:(s.text[0].toNat:Int)<65:=by omega);clear hv k1;go_enter Tryz.func14,Tryz.ntmps14;go_wp2_with fail
  all_goals (go_ret;exact ⟨by rw [HV.out]<;>rfl,HA.out⟩)
 (have e3:decide ((s.text[0].toNat:Int)<65)=false:=by simp;omega);(have e4 : ¬(s.text[0].toNat:Int)<65:=by omega);by_cases k4:90<s.text[0].toNat
 case pos=>
  have HV:=hid (show v=⟨#[]⟩ from hv.trans (Z4i (Zdh k2 k4)));(have e5:decide (90<(s.text[0].toNat:Int))=true:=by simp;omega);(have e6:90<(s.text[0].toNat:Int):=by omega);clear hv k1;go_enter Tryz.func14,Tryz.ntmps14;go_wp2_with fail
  all_goals (go_ret;exact ⟨by rw [HV.out]<;>rfl,HA.out⟩)
 (have e5:decide (90<(s.text[0].toNat:Int))=false:=by simp;omega);(have e6 : ¬90<(s.text[0].toNat:Int):=by omega);by_cases k5:n<1
 case pos=>
  have HV:=hid (show v=⟨#[]⟩ from hv.trans (Zdo k5));(have e7:decide (n<1)=true:=by simpa using k5);clear hv k1;go_enter Tryz.func14,Tryz.ntmps14;go_wp2_with fail
  all_goals (go_ret;exact ⟨by rw [HV.out]<;>rfl,HA.out⟩)
 (have e7:decide (n<1)=false:=by simpa using k5);obtain ⟨k,hkn⟩ : ∃k:Nat,n=(k:Int):=⟨n.toNat,by omega⟩;have HKN:=hid hkn;have HV:=hid (show v=chB (s.text[0].toNat+32)++decB k from hv.trans (by rw [hkn];exact Zdp k1 k2 (by omega) (by omega) (by omega) (by omega)));obtain ⟨d,hd⟩ : ∃d,d=s.text[0].toNat+32:=⟨_,rfl⟩;rw [← hd] at HV;(have v3:IntKind.u8.wrap ((s.text[0].toNat:Int) - 65)=(s.text[0].toNat:Int) - 65:=by simp [IntKind.wrap,IntKind.signed,IntKind.bits];omega);(have v4:IntKind.u8.wrap ((s.text[0].toNat:Int) - 65+97)=(d:Int):=by simp [IntKind.wrap,IntKind.signed,IntKind.bits];omega);have HC:=hid (Zi1 d (by omega));(have hz : ¬9223372036854775807<(chB d).size+(decB k).size:=by have:=Z8m (n:=k) (by omega);rw [Zf5];omega);have HDG:=hid (Zc7 k (by omega));have HX:=hid (And.intro v3 (And.intro v4 hz));clear hv k1 k2 k3 k4 hd v3 v4 hz hkn;go_enter Tryz.func14,Tryz.ntmps14;(go_upto_region 3 with fail);obtain ⟨w1,hw1⟩ : ∃w1,w1=w.alloc (.cells #[.int .i64 s.kind,.string s.text,.int .i64 s.n] 23):=⟨_,rfl⟩;rw [← hw1] at HA;have HK:=hid (show Blk w1 w.heap.size 23 #[.int .i64 s.kind,.string s.text,.int .i64 s.n] by rw [hw1];exact Blk.new _ _ _);obtain ⟨c0,c1,c2⟩:=HK.out.c3;have cz:=HK.out.lt;rw [← hw1];obtain ⟨v3,v4,hz⟩:=HX.out;have hkn:=HKN.out;subst hkn;clear hw1 e1 e2 e3 e4 e5 e6 e7 HX HKN k5;refine Z1b (fun w9=>Below w1.heap.size w1 w9) [0,1,2,3,4,7,9,10] [1] (.fork [(0,0),(1,1),(2,0),(3,0),(4,0),(7,0)] 5 (.fork [] 6 (.fin [(8,2),(9,0),(10,0)]) 8 (.fin [(6,2),(9,0),(10,0)])) 8 (.fin [(5,2),(6,2),(9,0),(10,0)])) (by kernel_rfl) (by kernel_rfl) (by kernel_rfl) (fun KK hKK=>?_);simp only [wpPl,Z02,Zib,Zi5,Zi9,Zi8,Zi7,Zif];(repeat ((first | (refine Z0n ?_ (Or.inl ⟨by rfl,fun w9=>?_⟩) ?_;rotate_left 1;go_simp;with_reducible rfl) | (refine Z0p ?_ ((Zi2 _ _).drew) (Or.inl ⟨by rfl,fun w9 hw9=>?_⟩) ?_;rotate_left 1;obtain ⟨hc9,hf9⟩:=Z0e hw9;go_simp;with_reducible rfl) | refine Z0n undef (Or.inr ⟨by rfl,rfl⟩) ?_ | refine Z0p undef ((Zi2 _ _).drew) (Or.inr ⟨by rfl,rfl⟩) ?_);go_frame));refine Z0f ⟨?_,?_⟩
 · refine Z0o rfl (fun K9 hK9=>?_)
   go_simp;obtain ⟨V2,hV⟩ : ∃V,V=(w1.alloc (.cells #[.int .u8 (d:Int)] 5)).drew:=⟨_,rfl⟩;(have hb2:Below w1.heap.size w1 V2:=by rw [hV];exact ((Zi2 w1.heap.size w1).alloc (Zi3 _) _).drew);(have KA:Blk V2 w1.heap.size 5 #[.int .u8 (d:Int)]:=by rw [hV];exact Blk.new _ _ _);have KAc:=KA.c1;have KAH:=hid KA;rw [← hV];clear hV KA;have hc:=HC.out V2 _ KAc;refine hK9 _ _ (fun _=>hb2) ?_;clear hK9 K9;(try go_frame);(try simp only [Z02,Zi5]);refine Z0f ⟨?_,?_⟩
   · refine Z0o rfl (fun K9 hK9=>?_)
     go_simp;refine hK9 _ _ (fun _=>hb2) ?_;clear hK9 K9;(try go_frame);(try simp only [Z02,Zi5]);refine Z0s (fun K9 hK9=>?_);go_simp;refine (HDG.out _).mono ?_;rintro e V3 ⟨rfl,hb⟩;have hb3:Below w1.heap.size w1 V3:=(hb2).trans (hb.mono (hb2).size);have hc:=HC.out V3 _ (KAH.out.new_ hb).c1;clear hb;refine hK9 _ _ (hb3) ?_;clear hK9 K9;(try go_frame);(repeat ((first | (refine Z0n ?_ (Or.inl ⟨by rfl,fun w9=>?_⟩) ?_;rotate_left 1;go_simp;with_reducible rfl) | (refine Z0p ?_ ((Zi2 _ _).drew) (Or.inl ⟨by rfl,fun w9 hw9=>?_⟩) ?_;rotate_left 1;obtain ⟨hc9,hf9⟩:=Z0e hw9;go_simp;with_reducible rfl) | refine Z0n undef (Or.inr ⟨by rfl,rfl⟩) ?_ | refine Z0p undef ((Zi2 _ _).drew) (Or.inr ⟨by rfl,rfl⟩) ?_);go_frame));refine Z0f ?_;simp only [Z00];refine hKK _ _ ?_;clear hKK KK;clear c0 c1 c2;(go_wp2_with fail);go_ret;exact ⟨by rw [HV.out]<;>rfl,HA.out.trans ((hb3).mono HA.out.size)⟩
   · refine Z0o rfl (fun K9 hK9=>?_)
     go_simp;refine (HDG.out _).mono ?_;rintro e V3 ⟨rfl,hb⟩;have hb3:Below w1.heap.size w1 V3:=(hb2).trans (hb.mono (hb2).size);have hc:=HC.out V3 _ (KAH.out.new_ hb).c1;clear hb;refine hK9 _ _ (fun _=>hb3) ?_;clear hK9 K9;(try go_frame);(try simp only [Z02,Zi5]);refine Z0s (fun K9 hK9=>?_);go_simp;refine hK9 _ _ (hb3) ?_;clear hK9 K9;(try go_frame);(repeat ((first | (refine Z0n ?_ (Or.inl ⟨by rfl,fun w9=>?_⟩) ?_;rotate_left 1;go_simp;with_reducible rfl) | (refine Z0p ?_ ((Zi2 _ _).drew) (Or.inl ⟨by rfl,fun w9 hw9=>?_⟩) ?_;rotate_left 1;obtain ⟨hc9,hf9⟩:=Z0e hw9;go_simp;with_reducible rfl) | refine Z0n undef (Or.inr ⟨by rfl,rfl⟩) ?_ | refine Z0p undef ((Zi2 _ _).drew) (Or.inr ⟨by rfl,rfl⟩) ?_);go_frame));refine Z0f ?_;simp only [Z00];refine hKK _ _ ?_;clear hKK KK;clear c0 c1 c2;(go_wp2_with fail);go_ret;exact ⟨by rw [HV.out]<;>rfl,HA.out.trans ((hb3).mono HA.out.size)⟩
 · refine Z0o rfl (fun K9 hK9=>?_)
   go_simp;refine (HDG.out _).mono ?_;rintro e V2 ⟨rfl,hb⟩;have hb2:Below w1.heap.size w1 V2:=((Zi2 w1.heap.size w1).drew).trans (hb.mono ((Zi2 w1.heap.size w1).drew).size);clear hb;refine hK9 _ _ (fun _=>hb2) ?_;clear hK9 K9;(try go_frame);(try simp only [Z02,Zi5]);refine Z0s (fun K9 hK9=>?_);go_simp;obtain ⟨V3,hV⟩ : ∃V,V=V2.alloc (.cells #[.int .u8 (d:Int)] 5):=⟨_,rfl⟩;(have hb3:Below w1.heap.size w1 V3:=by rw [hV];exact (hb2).alloc (hb2).size _);(have KA:Blk V3 V2.heap.size 5 #[.int .u8 (d:Int)]:=by rw [hV];exact Blk.new _ _ _);have KAc:=KA.c1;have KAH:=hid KA;rw [← hV];clear hV KA;have hc:=HC.out V3 _ KAc;refine hK9 _ _ (hb3) ?_;clear hK9 K9;(try go_frame);refine Z0s (fun K9 hK9=>?_);go_simp;refine hK9 _ _ (hb3) ?_;clear hK9 K9;(try go_frame);(repeat ((first | (refine Z0n ?_ (Or.inl ⟨by rfl,fun w9=>?_⟩) ?_;rotate_left 1;go_simp;with_reducible rfl) | (refine Z0p ?_ ((Zi2 _ _).drew) (Or.inl ⟨by rfl,fun w9 hw9=>?_⟩) ?_;rotate_left 1;obtain ⟨hc9,hf9⟩:=Z0e hw9;go_simp;with_reducible rfl) | refine Z0n undef (Or.inr ⟨by rfl,rfl⟩) ?_ | refine Z0p undef ((Zi2 _ _).drew) (Or.inr ⟨by rfl,rfl⟩) ?_);go_frame));refine Z0f ?_;simp only [Z00];refine hKK _ _ ?_;clear hKK KK;clear c0 c1 c2;(go_wp2_with fail);go_ret;exact ⟨by rw [HV.out]<;>rfl,HA.out.trans ((hb3).mono HA.out.size)⟩
theorem Zhn {B:Nat} {W w1:World} (hb:Below B W w1):(∀b o,b<B→w1.cell? ⟨b,o,none⟩=W.cell? ⟨b,o,none⟩)∧(∀b o,b<B→w1.frozen? ⟨b,o,none⟩=W.frozen? ⟨b,o,none⟩):=
 ⟨fun b o h=>hb.cell (p:=⟨b,o,none⟩) h,fun b o h=>hb.frozen (p:=⟨b,o,none⟩) h⟩
def MK (w:World) (mb nb:Nat):Prop:=w.cell? ⟨mb,0,none⟩=some (.pointer (some ⟨nb,0,none⟩))∧mb<w.heap.size
theorem MK.new_ {w w':World} {mb nb:Nat} (h:MK w mb nb) (hb:Below w.heap.size w w'):MK w' mb nb:=⟨(hb.cell (p:=⟨mb,0,none⟩) h.2).trans h.1,Zia h.2 hb.size⟩
theorem MK.fr {M:Nat→Prop} {w w':World} {mb nb:Nat} (h:MK w mb nb) (hb:Fr M w w') (hm : ¬M mb):MK w' mb nb:=⟨(hb.cell (p:=⟨mb,0,none⟩) h.2 hm).trans h.1,Zia h.2 hb.size⟩
theorem Z63 {D:Nat→Prop} {nb mb:Nat} {ns:List Sym} (s:Sym) (w:World) (h:Nm D w nb ns) (hm:MK w mb nb) (hl:ns.length≤1000):Calls Tryz.prog 104 #[.pointer (some ⟨mb,0,none⟩),.agg #[.int .i64 s.kind,.string s.text,.int .i64 s.n]] w fun e w'=>e = .returned (.string (Z2c s (plV ns s:Int)))∧Below w.heap.size w w':=by
 have HP:=hid (fun W (hW:Below w.heap.size w W)=>Z2m s W (h.new_ hW) (by omega));have HV:=hid (show ∀W,Calls Tryz.prog 14 #[.agg #[.int .i64 s.kind,.string s.text,.int .i64 s.n],.int .i64 (plV ns s:Int)] W fun e w'=>e = .returned (.string (Z2c s (plV ns s:Int)))∧Below W.heap.size W w' from fun W=>Zgf s _ (by have:=Zb6 s ns;omega) W);obtain ⟨r,hr⟩ : ∃r,r=(plV ns s:Int):=⟨_,rfl⟩;rw [← hr] at HP HV ⊢;have HM:=hid hm;obtain ⟨m0,mz⟩:=hm;clear h hl hr;go_enter Tryz.func104,Tryz.ntmps104;(go_upto_region 1 with fail);obtain ⟨w1,hw1⟩ : ∃w1,w1=(w.alloc (.cells #[.int .i64 s.kind,.string s.text,.int .i64 s.n] 23)):=⟨_,rfl⟩;rw [← hw1];have HB:=hid (show Below w.heap.size w w1 by rw [hw1];exact (by repeat (first | exact Zi2 _ _ | refine Below.drew ?_ | refine Below.al ?_ _ | refine Below.sc ?_ _)));have Kk:=hid (show Blk w1 (w.heap.size) 23 #[.int .i64 s.kind,.string s.text,.int .i64 s.n] by rw [hw1];exact (Blk.new w 23 #[.int .i64 s.kind,.string s.text,.int .i64 s.n]));clear hw1;obtain ⟨k0,k1,k2⟩:=Kk.out.c3;have kz:=Kk.out.lt;have m1:=(HM.out.new_ HB.out).1;have mz1:=(HM.out.new_ HB.out).2;clear m0 mz;refine Z05 (fun w9=>Below w1.heap.size w1 w9) [(0,1),(1,0),(2,0),(3,0),(4,1),(5,1),(6,2),(7,2),(8,0)] (by kernel_rfl) (by kernel_rfl) (fun KK hKK=>?_);simp only [Z02,Zib,Zi5,Zi9,Zi8,Zi7,Zif];(repeat ((first | (refine Z0a ?_ (Or.inl ⟨by rfl,fun w9=>?_⟩) ?_;rotate_left 1;go_simp;with_reducible rfl) | (refine Z06 ?_ (((Zi2 _ _).drew)) (Or.inl ⟨by rfl,fun w9 hw9=>?_⟩) ?_;rotate_left 1;obtain ⟨hc9,hf9⟩:=Z0e hw9;go_simp;with_reducible rfl) | refine Z0a undef (Or.inr ⟨by rfl,rfl⟩) ?_ | refine Z06 undef (((Zi2 _ _).drew)) (Or.inr ⟨by rfl,rfl⟩) ?_);go_frame));refine Z1f (fun K9 hK9=>?_);go_simp;refine (HP.out _ (HB.out.trans (((Zi2 w1.heap.size w1).drew).mono HB.out.size))).mono ?_;rintro e w5 ⟨rfl,hb5⟩;have HB5:=hid (((Zi2 w1.heap.size w1).drew).trans (hb5.mono (by simp)));clear hb5;refine hK9 _ _ HB5.out ?_;clear hK9 K9;refine Z2p (by kernel_rfl) (fun K9 hK9=>?_);go_simp;refine (HV.out _).mono ?_;rintro e w6 ⟨rfl,hb6⟩;have HB6:=hid (HB5.out.trans (hb6.mono HB5.out.size));clear hb6;refine hK9 _ _ ?_;clear hK9 K9;(repeat ((first | (refine Z0a ?_ (Or.inl ⟨by rfl,fun w9=>?_⟩) ?_;rotate_left 1;go_simp;with_reducible rfl) | (refine Z06 ?_ (HB5.out) (Or.inl ⟨by rfl,fun w9 hw9=>?_⟩) ?_;rotate_left 1;obtain ⟨hc9,hf9⟩:=Z0e hw9;go_simp;with_reducible rfl) | refine Z0a undef (Or.inr ⟨by rfl,rfl⟩) ?_ | refine Z06 undef (HB5.out) (Or.inr ⟨by rfl,rfl⟩) ?_);go_frame));refine Z0z ?_;simp only [Z00]
 refine hKK _ _ ?_;clear hKK KK;clear k0 k1 k2 m1;(go_wp2_with fail);go_ret;exact ⟨rfl,HB.out.trans (HB6.out.mono HB.out.size)⟩
theorem Z7y {D:Nat→Prop} {nb mb:Nat} {ns:List Sym} (rel:Int) (s:Sym) (w:World) (h:Nm D w nb ns) (hm:MK w mb nb) (hl:ns.length≤1000):Calls Tryz.prog 105 #[.pointer (some ⟨mb,0,none⟩),.int .i64 rel,.agg #[.int .i64 s.kind,.string s.text,.int .i64 s.n]] w fun e w'=>e = .returned (.agg #[.int .i64 (Z1c ns rel s).rel,.string (Z1c ns rel s).var,.int .i64 (Z1c ns rel s).sym.kind,.string (Z1c ns rel s).sym.text,.int .i64 (Z1c ns rel s).sym.n,.slice none 0 0])∧Below w.heap.size w w':=by
 obtain ⟨t,ht⟩ : ∃t,t=Z1c ns rel s:=⟨_,rfl⟩;rw [← ht];have HV:=hid (show ∀W,Below w.heap.size w W→Calls Tryz.prog 104 #[.pointer (some ⟨mb,0,none⟩),.agg #[.int .i64 s.kind,.string s.text,.int .i64 s.n]] W fun e w'=>e = .returned (.string (Z2c s (plV ns s:Int)))∧Below W.heap.size W w' from fun W hW=>Z63 s W (h.new_ hW) (hm.new_ hW) hl);obtain ⟨W1,hW1⟩ : ∃W,W=(w.alloc (.cells #[.int .i64 s.kind,.string s.text,.int .i64 s.n] 23)).alloc (.cells #[.int .i64 0,.string ⟨#[]⟩,.int .i64 0,.string ⟨#[]⟩,.int .i64 0,.slice none 0 0] 142):=⟨_,rfl⟩;(have hK:Blk W1 w.heap.size 23 #[.int .i64 s.kind,.string s.text,.int .i64 s.n]:=by rw [hW1];exact (Blk.new _ _ _).alloc _);(have hR:Blk W1 (w.heap.size+1) 142 #[.int .i64 0,.string ⟨#[]⟩,.int .i64 0,.string ⟨#[]⟩,.int .i64 0,.slice none 0 0]:=by rw [hW1];have hh:=Blk.new (w.alloc (.cells #[.int .i64 s.kind,.string s.text,.int .i64 s.n] 23)) 142 #[.int .i64 0,.string ⟨#[]⟩,.int .i64 0,.string ⟨#[]⟩,.int .i64 0,.slice none 0 0];simp only [Zid] at hh;exact hh);(have hB:Below w.heap.size w W1:=by rw [hW1];exact ((Zi2 _ _).alloc (Zi3 _) _).alloc (by simp) _);have HB:=hid hB;have HK:=hid hK;have HR:=hid hR;obtain ⟨k0,k1,k2⟩:=hK.c3;have kz:=hK.lt;clear hR hB hK h hm hl;by_cases h1:s.kind=1
 · skip
   obtain ⟨nv,hnv⟩ : ∃nv,nv=Z2c s (plV ns s:Int):=⟨_,rfl⟩;have HTV:=hid (show t=⟨rel,nv,symZ,[]⟩ by rw [ht,Z1c,if_pos h1,hnv]);rw [← hnv] at HV;(have e1:(s.kind == 1)=true:=by simp [h1]);(have e2:decide (s.kind=1)=true:=by simp [h1]);clear h1 ht hnv;go_enter Tryz.func105,Tryz.ntmps105;(go_upto_region 1 with fail);rw [← hW1];clear hW1;(go_wp2_with fail);refine (HV.out _ HB.out).mono ?_;rintro e w5 ⟨rfl,hb5⟩;have HT:=hid (show w5.there (w.heap.size+1) 0 (#[.int .i64 rel,.string nv,.int .i64 0,.string ⟨#[]⟩,.int .i64 0,.slice none 0 0]:Array Value).size from (HR.out.new_ hb5).there);have HB5:=hid (HB.out.trans (hb5.mono HB.out.size));clear hb5 k0 k1 k2 kz;(go_wp2_with (with_reducible refine wpList_store_mid rfl 142 _ _ rfl (w.heap.size+1) 0 #[.int .i64 rel,.string nv,.int .i64 0,.string ⟨#[]⟩,.int .i64 0,.slice none 0 0] rfl rfl HT.out (by kernel_rfl) (by kernel_rfl) ?_));(try simp only [Exit.inBlock,Exit.then]);refine bodyPost_ret (v:=.agg #[.int .i64 rel,.string nv,.int .i64 0,.string ⟨#[]⟩,.int .i64 0,.slice none 0 0]) ?_ rfl ⟨by rw [HTV.out]<;>rfl,Below.setCells' _ _ (HB5.out) (by omega)⟩;exact Z2f (t:=6) (T:=142) rfl _ _ (w.heap.size+1) [.int .i64 rel,.string nv,.int .i64 0,.string ⟨#[]⟩,.int .i64 0,.slice none 0 0] _ rfl (Zi6 w5 (w.heap.size+1) 0 [.int .i64 rel,.string nv,.int .i64 0,.string ⟨#[]⟩,.int .i64 0,.slice none 0 0] HT.out) Tryz.underlying142 rfl (by kernel_rfl)
 · skip
   have HTV:=hid (show t=⟨rel,⟨#[]⟩,s,[]⟩ by rw [ht,Z1c,if_neg h1]);(have e1:(s.kind == 1)=false:=by simp [h1]);(have e2:decide (s.kind=1)=false:=by simp [h1]);have HT:=hid (show W1.there (w.heap.size+1) 0 (#[.int .i64 rel,.string ⟨#[]⟩,.int .i64 s.kind,.string s.text,.int .i64 s.n,.slice none 0 0]:Array Value).size from HR.out.there);clear h1 ht;go_enter Tryz.func105,Tryz.ntmps105;(go_upto_region 1 with fail);rw [← hW1];clear hW1;(go_wp2_with (with_reducible refine wpList_store_mid rfl 142 _ _ rfl (w.heap.size+1) 0 #[.int .i64 rel,.string ⟨#[]⟩,.int .i64 s.kind,.string s.text,.int .i64 s.n,.slice none 0 0] rfl rfl HT.out (by kernel_rfl) (by kernel_rfl) ?_));(try simp only [Exit.inBlock,Exit.then]);refine bodyPost_ret (v:=.agg #[.int .i64 rel,.string ⟨#[]⟩,.int .i64 s.kind,.string s.text,.int .i64 s.n,.slice none 0 0]) ?_ rfl ⟨by rw [HTV.out]<;>rfl,Below.setCells' _ _ (HB.out) (by omega)⟩;exact Z2f (t:=6) (T:=142) rfl _ _ (w.heap.size+1) [.int .i64 rel,.string ⟨#[]⟩,.int .i64 s.kind,.string s.text,.int .i64 s.n,.slice none 0 0] _ rfl (Zi6 W1 (w.heap.size+1) 0 [.int .i64 rel,.string ⟨#[]⟩,.int .i64 s.kind,.string s.text,.int .i64 s.n,.slice none 0 0] HT.out) Tryz.underlying142 rfl (by kernel_rfl)
def Zbj (ns:List Sym) (x:Elem) (w:World) (e:Ending) (w':World):Prop:=
 ∃ga gv,e = .returned (.agg #[.int .i64 1,.bool x.goal,.string (Z2c x.id (plV ns x.id:Int)),.slice (some ⟨ga,0,none⟩) 1 1,.slice (some ⟨gv,0,none⟩) 1 1,.bool x.acc,.slice none 0 0])∧Blk w' ga 142 #[.int .i64 1,.string ⟨#[]⟩,.int .i64 x.attr.kind,.string x.attr.text,.int .i64 x.attr.n,.slice none 0 0]∧Blk w' gv 142 #[.int .i64 (Z1c ns 1 x.value).rel,.string (Z1c ns 1 x.value).var,.int .i64 (Z1c ns 1 x.value).sym.kind,.string (Z1c ns 1 x.value).sym.text,.int .i64 (Z1c ns 1 x.value).sym.n,.slice none 0 0]∧w.heap.size≤ga∧w.heap.size≤gv∧ga≠gv∧Below w.heap.size w w'
theorem Zdn {D:Nat→Prop} {nb mb:Nat} {ns:List Sym} (x:Elem) (w:World) (h:Nm D w nb ns) (hm:MK w mb nb) (hl:ns.length≤1000):Calls Tryz.prog 63 #[.pointer (some ⟨mb,0,none⟩),.agg #[.int .i64 x.id.kind,.string x.id.text,.int .i64 x.id.n,.int .i64 x.attr.kind,.string x.attr.text,.int .i64 x.attr.n,.int .i64 x.value.kind,.string x.value.text,.int .i64 x.value.n,.bool x.acc,.bool x.goal,.int .i64 x.tag]] w (Zbj ns x w):=by
 have HN:=hid (show ∀W,Below w.heap.size w W→Calls Tryz.prog 104 #[.pointer (some ⟨mb,0,none⟩),.agg #[.int .i64 x.id.kind,.string x.id.text,.int .i64 x.id.n]] W fun e w'=>e = .returned (.string (Z2c x.id (plV ns x.id:Int)))∧Below W.heap.size W w' from fun W hW=>Z63 x.id W (h.new_ hW) (hm.new_ hW) hl);have HV:=hid (show ∀W,Below w.heap.size w W→Calls Tryz.prog 105 #[.pointer (some ⟨mb,0,none⟩),.int .i64 1,.agg #[.int .i64 x.value.kind,.string x.value.text,.int .i64 x.value.n]] W fun e w'=>e = .returned (.agg #[.int .i64 (Z1c ns 1 x.value).rel,.string (Z1c ns 1 x.value).var,.int .i64 (Z1c ns 1 x.value).sym.kind,.string (Z1c ns 1 x.value).sym.text,.int .i64 (Z1c ns 1 x.value).sym.n,.slice none 0 0])∧Below W.heap.size W w' from fun W hW=>Z7y 1 x.value W (h.new_ hW) (hm.new_ hW) hl);unfold Zbj;obtain ⟨t,ht⟩ : ∃t,t=Z1c ns 1 x.value:=⟨_,rfl⟩;obtain ⟨nv,hnv⟩ : ∃nv,nv=Z2c x.id (plV ns x.id:Int):=⟨_,rfl⟩;rw [← ht] at HV ⊢;rw [← hnv] at HN ⊢;clear h hm hl ht hnv;go_enter Tryz.func63,Tryz.ntmps63;(go_upto_region 1 with fail);obtain ⟨w1,hw1⟩ : ∃w1,w1=((w.alloc (.cells #[.int .i64 x.id.kind,.string x.id.text,.int .i64 x.id.n,.int .i64 x.attr.kind,.string x.attr.text,.int .i64 x.attr.n,.int .i64 x.value.kind,.string x.value.text,.int .i64 x.value.n,.bool x.acc,.bool x.goal,.int .i64 x.tag] 55)).alloc (.cells #[.int .i64 0,.bool false,.string ⟨#[]⟩,.slice none 0 0,.slice none 0 0,.bool false,.slice none 0 0] 62)):=⟨_,rfl⟩;rw [← hw1];have HB:=hid (show Below w.heap.size w w1 by rw [hw1];exact (by repeat (first | exact Zi2 _ _ | refine Below.drew ?_ | refine Below.al ?_ _ | refine Below.sc ?_ _)));have Kk:=hid (show Blk w1 (w.heap.size) 55 #[.int .i64 x.id.kind,.string x.id.text,.int .i64 x.id.n,.int .i64 x.attr.kind,.string x.attr.text,.int .i64 x.attr.n,.int .i64 x.value.kind,.string x.value.text,.int .i64 x.value.n,.bool x.acc,.bool x.goal,.int .i64 x.tag] by rw [hw1];exact ((Blk.new w 55 #[.int .i64 x.id.kind,.string x.id.text,.int .i64 x.id.n,.int .i64 x.attr.kind,.string x.attr.text,.int .i64 x.attr.n,.int .i64 x.value.kind,.string x.value.text,.int .i64 x.value.n,.bool x.acc,.bool x.goal,.int .i64 x.tag]).alloc (.cells #[.int .i64 0,.bool false,.string ⟨#[]⟩,.slice none 0 0,.slice none 0 0,.bool false,.slice none 0 0] 62)));have Kr:=hid (show Blk w1 (w.heap.size+1) 62 #[.int .i64 0,.bool false,.string ⟨#[]⟩,.slice none 0 0,.slice none 0 0,.bool false,.slice none 0 0] by rw [hw1];have hh:=(Blk.new (w.alloc (.cells #[.int .i64 x.id.kind,.string x.id.text,.int .i64 x.id.n,.int .i64 x.attr.kind,.string x.attr.text,.int .i64 x.attr.n,.int .i64 x.value.kind,.string x.value.text,.int .i64 x.value.n,.bool x.acc,.bool x.goal,.int .i64 x.tag] 55)) 62 #[.int .i64 0,.bool false,.string ⟨#[]⟩,.slice none 0 0,.slice none 0 0,.bool false,.slice none 0 0]);simp only [Zid] at hh;exact hh);clear hw1;obtain ⟨k0,k1,k2,k3,k4,k5,k6,k7,k8,k9,k10,k11⟩:=Kk.out.c12;have kz:=Kk.out.lt;obtain ⟨r0,r1,r2,r3,r4,r5,r6⟩:=Kr.out.c7;have rz:=Kr.out.lt;clear k0 k1 k2 k3 k4 k5 k6 k7 k8 k9 k10 k11 kz r0 r1 r2 r3 r4 r5 r6 rz;obtain ⟨k0,k1,k2,k3,k4,k5,k6,k7,k8,k9,k10,k11⟩:=Kk.out.c12;have kz:=Kk.out.lt;have HR1:=hid Kr.out.lt;have HX1:=hid (show w.heap.size+1≤w1.heap.size from Nat.le_of_lt HR1.out);have kz9:w.heap.size<w.heap.size+1:=Nat.lt_succ_self _;have HW:=HB;refine Z1b (fun w9=>Below (w.heap.size+1) w1 w9) [0,1,2,3,4,5,6,8,9,10,12,13,14,17] [1,3,6,9,14] (.fork [(0,0),(1,1),(2,0),(3,1),(4,0),(5,0),(6,1),(8,0),(9,1),(10,0),(12,0),(13,0),(14,1)] 7 (.fork [] 11 (.fin [(15,2),(16,2),(17,0),(18,2)]) 15 (.fork [] 11 (.fin [(16,2),(17,0),(18,2)]) 16 (.fin [(11,2),(17,0),(18,2)]))) 11 (.fin [(7,2),(15,2),(16,2),(17,0),(18,2)])) (by kernel_rfl) (by kernel_rfl) (by kernel_rfl) (fun KK hKK=>?_);simp only [wpPl,Z02,Zib,Zi5,Zi9,Zi8,Zi7,Zif];have HB:=hid (Zi2 w1.heap.size w1).drew;obtain ⟨V,hV⟩ : ∃V,V=w1.drew:=⟨_,rfl⟩;have Kr:=hid Kr.out.drew;rw [← hV] at HB Kr ⊢;clear hV
 repeat' (first
  | ((first | (refine Z0n ?_ (Or.inl ⟨by rfl,fun w9=>?_⟩) ?_;rotate_left 1;go_simp;with_reducible rfl) | (refine Z0p ?_ (HB.out.mono HX1.out) (Or.inl ⟨by rfl,fun w9 hw9=>?_⟩) ?_;rotate_left 1;obtain ⟨hc9,hf9⟩:=Zhn hw9;go_simp;with_reducible rfl) | refine Z0n undef (Or.inr ⟨by rfl,rfl⟩) ?_ | refine Z0p undef (HB.out.mono HX1.out) (Or.inr ⟨by rfl,rfl⟩) ?_);go_frame)
  | ((first | refine Z0s (fun K9 hK9=>?_) | refine Z0o rfl (fun K9 hK9=>?_));refine Z09 rfl 62 _ _ rfl (w.heap.size+1) 0 #[.int .i64 1,.bool x.goal,.string nv,.slice (some ⟨ga,0,none⟩) 1 1,.slice (some ⟨gv,0,none⟩) 1 1,.bool x.acc,.slice none 0 0] rfl rfl (show _ from Kr.out.there) (by kernel_rfl) (by kernel_rfl) ?_;(first | refine hK9 _ _ (Below.setCells' _ _ (HB.out.mono HX1.out) (Zi3 _)) ?_ | refine hK9 _ _ (fun _=>Below.setCells' _ _ (HB.out.mono HX1.out) (Zi3 _)) ?_);clear hK9 K9;(try go_frame);try simp only [Z02,Zi5])
  | ((first | refine Z0s (fun K9 hK9=>?_) | refine Z0o rfl (fun K9 hK9=>?_));go_simp;(first
    | (refine (HN.out _ (HW.out.trans (HB.out.mono HW.out.size))).mono ?_;rintro e V ⟨rfl,hb⟩;(try have Kr:=hid (Kr.out.new_ hb));(try have Kga:=hid (Kga.out.new_ hb));(try have Kgv:=hid (Kgv.out.new_ hb));(try have LT:=hid (Zia LT.out hb.size));have HB:=hid (HB.out.trans (hb.mono HB.out.size));clear hb)
    | (refine (HV.out _ (HW.out.trans (HB.out.mono HW.out.size))).mono ?_;rintro e V ⟨rfl,hb⟩;(try have Kr:=hid (Kr.out.new_ hb));(try have Kga:=hid (Kga.out.new_ hb));(try have Kgv:=hid (Kgv.out.new_ hb));(try have LT:=hid (Zia LT.out hb.size));have HB:=hid (HB.out.trans (hb.mono HB.out.size));clear hb)
    | (obtain ⟨ga,hg⟩ : ∃g,g=V.heap.size:=⟨_,rfl⟩;have hk:=Blk.new V 142 #[.int .i64 1,.string ⟨#[]⟩,.int .i64 x.attr.kind,.string x.attr.text,.int .i64 x.attr.n,.slice none 0 0];have hb:Below V.heap.size V (V.alloc (.cells #[.int .i64 1,.string ⟨#[]⟩,.int .i64 x.attr.kind,.string x.attr.text,.int .i64 x.attr.n,.slice none 0 0] 142)):=(Zi2 _ _).alloc (Zi3 _) _;have Nga:=hid (show w1.heap.size≤ga by rw [hg];exact HB.out.size);(try have NE:=hid (show ga≠gv by rw [hg];exact (Nat.ne_of_lt LT.out).symm));obtain ⟨V,hV⟩ : ∃V9,V9=V.alloc (.cells #[.int .i64 1,.string ⟨#[]⟩,.int .i64 x.attr.kind,.string x.attr.text,.int .i64 x.attr.n,.slice none 0 0] 142):=⟨_,rfl⟩;rw [← hV] at hb;rw [← hV,← hg] at hk;(try have Kr:=hid (Kr.out.new_ hb));(try have Kga:=hid (Kga.out.new_ hb));(try have Kgv:=hid (Kgv.out.new_ hb));(try have LT:=hid (Zia LT.out hb.size));have HB:=hid (HB.out.trans (hb.mono HB.out.size));have Kga:=hid hk;have LT:=hid (show ga<V.heap.size from Kga.out.lt);rw [← hV,← hg];clear hV hg hb hk)
    | (obtain ⟨gv,hg⟩ : ∃g,g=V.heap.size:=⟨_,rfl⟩;have hk:=Blk.new V 142 #[.int .i64 t.rel,.string t.var,.int .i64 t.sym.kind,.string t.sym.text,.int .i64 t.sym.n,.slice none 0 0];have hb:Below V.heap.size V (V.alloc (.cells #[.int .i64 t.rel,.string t.var,.int .i64 t.sym.kind,.string t.sym.text,.int .i64 t.sym.n,.slice none 0 0] 142)):=(Zi2 _ _).alloc (Zi3 _) _;have Ngv:=hid (show w1.heap.size≤gv by rw [hg];exact HB.out.size);(try have NE:=hid (show ga≠gv by rw [hg];exact Nat.ne_of_lt LT.out));obtain ⟨V,hV⟩ : ∃V9,V9=V.alloc (.cells #[.int .i64 t.rel,.string t.var,.int .i64 t.sym.kind,.string t.sym.text,.int .i64 t.sym.n,.slice none 0 0] 142):=⟨_,rfl⟩;rw [← hV] at hb;rw [← hV,← hg] at hk;(try have Kr:=hid (Kr.out.new_ hb));(try have Kga:=hid (Kga.out.new_ hb));(try have Kgv:=hid (Kgv.out.new_ hb));(try have LT:=hid (Zia LT.out hb.size));have HB:=hid (HB.out.trans (hb.mono HB.out.size));have Kgv:=hid hk;have LT:=hid (show gv<V.heap.size from Kgv.out.lt);rw [← hV,← hg];clear hV hg hb hk) | fail);(first | refine hK9 _ _ (HB.out.mono HX1.out) ?_ | refine hK9 _ _ (fun _=>HB.out.mono HX1.out) ?_);clear hK9 K9;(try go_frame);try simp only [Z02,Zi5])
  | (refine Z0f ⟨?_,?_⟩) | fail)
 all_goals
  refine Z0f ?_;simp only [Z00];refine hKK _ _ ?_;clear hKK KK;have HT:=hid (show V.there (w.heap.size+1) 0 (#[.int .i64 1,.bool x.goal,.string nv,.slice (some ⟨ga,0,none⟩) 1 1,.slice (some ⟨gv,0,none⟩) 1 1,.bool x.acc,.slice none 0 0]:Array Value).size from Kr.out.there);have HF:=hid (show Below w.heap.size w V from HW.out.trans ((HB.out).mono HW.out.size));have HZ:=hid (show w.heap.size+1<w1.heap.size from HR1.out);clear k0 k1 k2 k3 k4 k5 k6 k7 k8 k9 k10 k11;(go_wp2_with fail);(try simp only [Exit.inBlock,Exit.then]);refine bodyPost_ret (v:=.agg #[.int .i64 1,.bool x.goal,.string nv,.slice (some ⟨ga,0,none⟩) 1 1,.slice (some ⟨gv,0,none⟩) 1 1,.bool x.acc,.slice none 0 0]) ?_ rfl ⟨ga,gv,rfl,Blk.farCells _ _ Kga.out (by have:=Nga.out;have:=HZ.out;omega),Blk.farCells _ _ Kgv.out (by have:=Ngv.out;have:=HZ.out;omega),by have:=Nga.out;have:=HW.out.size;omega,by have:=Ngv.out;have:=HW.out.size;omega,NE.out,Below.setCells' _ _ HF.out (by omega)⟩;exact Z2f (t:=4) (T:=62) rfl _ _ (w.heap.size+1) [.int .i64 1,.bool x.goal,.string nv,.slice (some ⟨ga,0,none⟩) 1 1,.slice (some ⟨gv,0,none⟩) 1 1,.bool x.acc,.slice none 0 0] _ rfl (Zi6 V (w.heap.size+1) 0 [.int .i64 1,.bool x.goal,.string nv,.slice (some ⟨ga,0,none⟩) 1 1,.slice (some ⟨gv,0,none⟩) 1 1,.bool x.acc,.slice none 0 0] HT.out) Tryz.underlying62 rfl (by kernel_rfl)
end
section
open Go.RowKit Go.Shelf
theorem Z8t:(Tryz.prog.info? 62).map (fun i=>(i.zero,i.size,i.bytes))=some (some (.agg #[.int .i64 0,.bool false,.string ⟨#[]⟩,.slice none 0 0,.slice none 0 0,.bool false,.slice none 0 0]),7,112):=by kernel_rfl
theorem Zd7:(Tryz.prog.info? 142).map (fun i=>(i.zero,i.size,i.bytes))=some (some (.agg #[.int .i64 0,.string ⟨#[]⟩,.int .i64 0,.string ⟨#[]⟩,.int .i64 0,.slice none 0 0]),6,80):=by kernel_rfl
def Z0i.cell0 (t:Z0i):List Value:=[.int .i64 t.rel,.string t.var,.int .i64 t.sym.kind,.string t.sym.text,.int .i64 t.sym.n,.slice none 0 0]
theorem Z0i.cell0_length (t:Z0i):t.cell0.length=6:=rfl
theorem Zdu (l:List Z0i) : ∀u∈l.flatMap Z0i.cell0,u.oneCell'=true:=by
 intro u hu;obtain ⟨b,_,hb⟩:=List.mem_flatMap.1 hu;simp only [Z0i.cell0,Zij,Zio,or_false] at hb;rcases hb with rfl | rfl | rfl | rfl | rfl | rfl<;>rfl
structure Z4j where
 kind:Int
 goal:Bool
 id:ByteArray
 A1:Option Addr
 n1:Nat
 c1:Nat
 A2:Option Addr
 n2:Nat
 c2:Nat
 acc:Bool
 A3:Option Addr
 n3:Nat
 c3:Nat
def Z4j.cells (c:Z4j):List Value:=[.int .i64 c.kind,.bool c.goal,.string c.id,.slice c.A1 c.n1 c.c1,.slice c.A2 c.n2 c.c2,.bool c.acc,.slice c.A3 c.n3 c.c3]
theorem Z4j.cells_length (c:Z4j):c.cells.length=7:=rfl
def Z3y:Z4j:=⟨0,false,⟨#[]⟩,none,0,0,none,0,0,false,none,0,0⟩
theorem Zdt (l:List Z4j) : ∀u∈l.flatMap Z4j.cells,u.oneCell'=true:=by
 intro u hu;obtain ⟨b,_,hb⟩:=List.mem_flatMap.1 hu;simp only [Z4j.cells,Zij,Zio,or_false] at hb;rcases hb with rfl | rfl | rfl | rfl | rfl | rfl | rfl<;>rfl
structure VCo where
 goal:Bool
 id:ByteArray
 at_:Z0i
 vs:List Z0i
 acc:Bool
 ga:Nat
 gv:Nat
 cap:Nat
def VCo.raw (v:VCo):Z4j:=⟨1,v.goal,v.id,some ⟨v.ga,0,none⟩,1,1,some ⟨v.gv,0,none⟩,v.vs.length,v.cap,v.acc,none,0,0⟩
def VCo.cells (v:VCo):List Value:=v.raw.cells
theorem VCo.cells_length (v:VCo):v.cells.length=7:=rfl
def VCo.cond (v:VCo):Z0m:=.mk 1 v.goal v.id [v.at_] v.vs v.acc []
structure VCo.Ok (w:World) (v:VCo):Prop where
 at_:Blk w v.ga 142 #[.int .i64 v.at_.rel,.string v.at_.var,.int .i64 v.at_.sym.kind,.string v.at_.sym.text,.int .i64 v.at_.sym.n,.slice none 0 0]
 vr:w.ownsRow 0 142 6 (.slice (some ⟨v.gv,0,none⟩) v.vs.length v.cap) v.vs.length (v.vs.flatMap Z0i.cell0)
 la:v.at_.list = []
 lv : ∀t∈v.vs,t.list = []
theorem VCo.Ok.fr {M:Nat→Prop} {w w':World} {v:VCo} (h:v.Ok w) (hF:Fr M w w') (h1 : ¬M v.ga) (h2 : ¬M v.gv):v.Ok w':=
 ⟨h.at_.fr hF h1,Z16 h.vr hF (fun g hg=>by injection hg with hg;exact hg ▸ h2),h.la,h.lv⟩
theorem Z9c (l:List VCo):l.flatMap VCo.cells=(l.map VCo.raw).flatMap Z4j.cells:=by rw [List.flatMap_map];rfl
structure CS (X:World) (nb mb:Nat) (ns:List Sym) (es:List Elem) (AO:Option Addr) (cO:Nat) (vcs:List VCo) (AC:Option Addr) (cC:Nat) (D:Nat→Prop) (w:World):Prop where
 nm:Nm D w nb ns
 dn : ∀k,D k→X.heap.size≤k
 mkb:Blk w mb 130 #[.pointer (some ⟨nb,0,none⟩),.slice AO es.length cO,.slice AC vcs.length cC]
 mge:X.heap.size≤mb
 mnd : ¬D mb
 eo:w.ownsRow 0 55 12 (.slice AO es.length cO) es.length (es.flatMap Elem.cells)
 ea:AIn AO (fun k=>X.heap.size≤k∧¬D k)
 co:w.ownsRow 0 62 7 (.slice AC vcs.length cC) vcs.length (vcs.flatMap VCo.cells)
 ca:AIn AC (fun k=>X.heap.size≤k∧¬D k)
 ok : ∀v∈vcs,v.Ok w
 bl : ∀v∈vcs,(X.heap.size≤v.ga∧¬D v.ga)∧X.heap.size≤v.gv∧¬D v.gv
 nd:(vcs.flatMap fun v=>[v.ga,v.gv]).Nodup
 bel:Below X.heap.size X w
theorem VCo.Ok.ltv {w:World} {v:VCo} (h:v.Ok w):v.gv<w.heap.size:=Z6n h.vr v.gv rfl
section
variable {X w w':World} {nb mb:Nat} {ns:List Sym} {es:List Elem} {AO:Option Addr} {cO:Nat} {vcs:List VCo} {AC:Option Addr} {cC:Nat} {D:Nat→Prop}
theorem CS.mk_ (h:CS X nb mb ns es AO cO vcs AC cC D w):MK w mb nb:=⟨(h.mkb.cell 0).trans rfl,h.mkb.lt⟩
theorem CS.new_ (h:CS X nb mb ns es AO cO vcs AC cC D w) (hb:Below w.heap.size w w'):CS X nb mb ns es AO cO vcs AC cC D w':=
 ⟨h.nm.new_ hb,h.dn,h.mkb.new_ hb,h.mge,h.mnd,Z01 h.eo hb,h.ea,Z01 h.co hb,h.ca,fun v hv=>⟨(h.ok v hv).at_.new_ hb,Z01 (h.ok v hv).vr hb,(h.ok v hv).la,(h.ok v hv).lv⟩,h.bl,h.nd,h.bel.trans (hb.mono h.bel.size)⟩
theorem CS.row (h:CS X nb mb ns es AO cO vcs AC cC D w) (n:Nat):RowR (Z0g (n+1)) (fun k=>(X.heap.size≤k∧¬D k)∧∃t cur,Blk w k t cur∧(t=62∨t=142)) w AC cC (vcs.map VCo.cond):=by
 have own_b : ∀{e:TypeId} {size n c g:Nat} {xs:List Value},w.ownsRow 0 e size (.slice (some ⟨g,0,none⟩) n c) n xs→∃cur,Blk w g e cur:=fun h=>by
  obtain ⟨⟨cur,hb,_⟩,_⟩:=Z2x h;exact ⟨cur,hb⟩
 have hr:=Z08 VCo.cells_length h.co;refine ⟨by simpa using hr.1,hr.2.1,fun h0=>?_⟩;rw [Ziq] at h0;obtain ⟨b,off,rfl,hb,hc⟩:=hr.2.2 h0
 have hcb : ∃cur,Blk w b 62 cur:=by
  rcases Z14 h.co with ⟨_,h0',_⟩ | ⟨g,cap,hv,_,_,⟨cur,hbk,_⟩,_⟩
  · omega
  · injection hv with hv;injection hv with hv;injection hv with hv;subst hv;exact ⟨cur,hbk⟩
 refine ⟨b,off,rfl,⟨h.ca _ rfl,62,hcb.elim fun cur hb=>⟨cur,hb,.inl rfl⟩⟩,hb,fun k hk=>?_⟩;rw [Ziq] at hk;have hm:vcs[k]∈vcs:=Zin hk;have hok:=h.ok _ hm;have hbl:=h.bl _ hm;refine ⟨vcs[k].cells,?_,fun j u hu=>by rw [Z87];exact hc k hk j u hu⟩;rw [List.getElem_map];refine ⟨some ⟨vcs[k].ga,0,none⟩,1,some ⟨vcs[k].gv,0,none⟩,vcs[k].cap,none,0,rfl,?_,?_,RowR.nil _ _ _⟩
 · refine ⟨Zi3 _,by unfold maxLen;decide,fun _=>⟨vcs[k].ga,0,rfl,⟨hbl.1,142,_,hok.at_,.inr rfl⟩,hok.at_.lt,fun i hi=>?_⟩⟩
   (obtain rfl:i=0:=by simp [VCo.cond,Z0m.attr] at hi;exact hi);refine ⟨_,⟨none,0,rfl,?_⟩,fun j u hu=>?_⟩
   · show RowR Z3r _ w none 0 vcs[k].at_.list
     rw [hok.la];exact RowR.nil _ _ _
   · rw [show (0:Nat)+0*Z0d.size+j=j by omega,hok.at_.cell]
     (have e:((vcs[k].cond).attr[0]'hi).list.length=0:=by show vcs[k].at_.list.length=0;rw [hok.la];rfl);rw [e] at hu;have hu2:vcs[k].at_.cell0[j]? = some u:=hu;simpa [Z0i.cell0] using hu2
 · have hv:=Z08 Z0i.cell0_length hok.vr
   refine ⟨hv.1,hv.2.1,fun h1=>?_⟩;obtain ⟨b2,off2,hb2,hlt2,hc2⟩:=hv.2.2 h1;injection hb2 with hb2;injection hb2 with e1 e2;subst e1;subst e2;refine ⟨_,_,rfl,⟨hbl.2,142,(own_b hok.vr).elim fun cur hb=>⟨cur,hb,.inr rfl⟩⟩,hlt2,fun i hi=>⟨_,⟨none,0,rfl,?_⟩,fun j u hu=>?_⟩⟩
   · have e:=hok.lv _ (Zin hi)
     show RowR Z3r _ w none 0 ((vcs[k].cond).value[i]'hi).list;rw [e];exact RowR.nil _ _ _
   · refine hc2 i hi j u ?_
     have e:=hok.lv _ (Zin hi);(have e2:((vcs[k].cond).value[i]'hi).list.length=0:=by rw [e];rfl);rw [e2] at hu;exact hu
theorem CS.push {v:VCo} {V W1:World} {AC':Option Addr} {cC':Nat} (h:CS X nb mb ns es AO cO vcs AC cC D w) (hb:Below w.heap.size w W1)
 (hva:w.heap.size≤v.ga) (hvv:w.heap.size≤v.gv) (hne:v.ga≠v.gv) (hok:v.Ok W1)
 (hF:Fr (fun k=>k=mb∨∃a,AC=some a∧a.block=k) W1 V) (hM:Blk V mb 130 #[.pointer (some ⟨nb,0,none⟩),.slice AO es.length cO,.slice AC' (vcs ++ [v]).length cC'])
 (hO:V.ownsRow 0 62 7 (.slice AC' (vcs ++ [v]).length cC') (vcs ++ [v]).length ((vcs ++ [v]).flatMap VCo.cells)) (hA:AIn AC' (fun k=>(∃a,AC=some a∧a.block=k)∨W1.heap.size≤k)) :
 CS X nb mb ns es AO cO (vcs ++ [v]) AC' cC' D V:=by
 have h1:=h.new_ hb;have hz:=hb.size;have hx:=h.bel.size;have hlt:=h.nm.lt;have hmb:=h1.mkb
 have nT : ∀{g:Nat} {cs:Array Value},Blk W1 g 142 cs→¬(g=mb∨∃a,AC=some a∧a.block=g):=by
  rintro g cs hg (e | ⟨a,ha,e⟩)
  · subst e;exact hg.ne_ hmb (by decide) rfl
  · exact Z04 h1.co hg (by decide) (by subst ha;subst e;rfl)
 have nR : ∀{g n c:Nat} {xs:List Value},W1.ownsRow 0 142 6 (.slice (some ⟨g,0,none⟩) n c) n xs→¬(g=mb∨∃a,AC=some a∧a.block=g):=by
  rintro g n c xs hg (e | ⟨a,ha,e⟩)
  · subst e;exact Z04 hg hmb (by decide) rfl
  · exact Z1m hg h1.co (by decide) (k:=g) rfl (by subst ha;subst e;rfl)
 have hall : ∀u∈vcs ++ [v],u.Ok W1:=fun u hu=>by
  rcases Zj0.1 hu with hu | hu
  · exact h1.ok u hu
  · rw [Zit.1 hu];exact hok
 refine ⟨h1.nm.fr hF (fun k hk hm=>?_),h.dn,hM,h.mge,h.mnd,Z16 h1.eo hF (fun g hg hm=>?_),h.ea,hO,fun a ha=>?_,fun u hu=>(hall u hu).fr hF (nT (hall u hu).at_) (nR (hall u hu).vr),fun u hu=>?_,?_,h1.bel.trans (hF.below h1.bel.size (fun k hk hm=>?_))⟩
 · rcases hm with e | ⟨a,ha,e⟩
   · exact h.mnd (e ▸ hk)
   · exact (h.ca a ha).2 (e ▸ hk)
 · rcases hm with e | ⟨a,ha,e⟩
   · subst e;exact Z04 h1.eo hmb (by decide) hg
   · exact Z1m h1.eo h1.co (by decide) hg (by subst ha;subst e;rfl)
 · rcases hA a ha with ⟨b,hb2,e⟩ | h2
   · rw [← e];exact h.ca b hb2
   · exact ⟨by omega,fun hd=>by have:=hlt _ hd;omega⟩
 · rcases Zj0.1 hu with hu | hu
   · exact h.bl u hu
   · rw [Zit.1 hu]
     exact ⟨⟨by omega,fun hd=>by have:=hlt _ hd;omega⟩,by omega,fun hd=>by have:=hlt _ hd;omega⟩
 · rw [Zik,List.nodup_append]
   refine ⟨h.nd,by simp [hne],fun a ha b hb2 e=>?_⟩;obtain ⟨u,hu,hau⟩:=List.mem_flatMap.1 ha;have l1:=(h.ok u hu).at_.lt;have l2:=(h.ok u hu).ltv;simp only [Zij,Zio,or_false] at hau;simp only [Zj5,List.flatMap_nil,List.append_nil,Zij,Zio,or_false] at hb2;rcases hau with rfl | rfl<;>rcases hb2 with rfl | rfl<;>omega
 · rcases hm with e | ⟨a,ha,e⟩
   · subst e;have:=h.mge;omega
   · have:=(h.ca a ha).1;omega
theorem Zhu {v:VCo} {W1 Y:World} {g c':Nat} (h:CS X nb mb ns es AO cO vcs AC cC D W1) (hY:Fr (fun k=>∃a,AC=some a∧a.block=k) W1 Y) (hO:Y.ownsRow 0 62 7 (.slice (some ⟨g,0,none⟩) (vcs.length+1) c') (vcs.length+1) (vcs.flatMap VCo.cells++Z3y.cells)) (hA:AIn (some ⟨g,0,none⟩) (Plus (fun k=>∃a,AC=some a∧a.block=k) W1 Y)) :
 Fr (fun k=>k=mb∨∃a,AC=some a∧a.block=k) W1 ((Y.setCells g (vcs.length*7) v.cells).setCell ⟨mb,2,none⟩ (.slice (some ⟨g,0,none⟩) (vcs ++ [v]).length c'))∧
 Blk ((Y.setCells g (vcs.length*7) v.cells).setCell ⟨mb,2,none⟩ (.slice (some ⟨g,0,none⟩) (vcs ++ [v]).length c')) mb 130 #[.pointer (some ⟨nb,0,none⟩),.slice AO es.length cO,.slice (some ⟨g,0,none⟩) (vcs ++ [v]).length c']∧
 ((Y.setCells g (vcs.length*7) v.cells).setCell ⟨mb,2,none⟩ (.slice (some ⟨g,0,none⟩) (vcs ++ [v]).length c')).ownsRow 0 62 7 (.slice (some ⟨g,0,none⟩) (vcs ++ [v]).length c') (vcs ++ [v]).length ((vcs ++ [v]).flatMap VCo.cells)∧
 AIn (some ⟨g,0,none⟩) (fun k=>(∃a,AC=some a∧a.block=k)∨W1.heap.size≤k)∧
 Y.there g (vcs.length*7) 7∧Y.cell? ⟨mb,2,none⟩=some (.slice AC vcs.length cC)∧Y.frozen? ⟨mb,2,none⟩=false∧mb<Y.heap.size∧mb≠g:=by
 have hmY:Blk Y mb 130 _:=h.mkb.fr hY (fun ⟨a,ha,e⟩=>Z04 h.co h.mkb (by decide) (by subst ha;subst e;rfl));have hne:mb≠g:=fun e=>Z04 hO hmY (by decide) (by rw [e];rfl);(have hl:(vcs ++ [v]).length=vcs.length+1:=by simp);(have e0:vcs.flatMap VCo.cells++Z3y.cells=(vcs.map VCo.raw ++ [Z3y]).flatMap Z4j.cells:=by rw [Zik,Z9c];simp);have hO2:Y.ownsRow 0 62 7 (.slice (some ⟨g,0,none⟩) (vcs.length+1) c') (vcs.length+1) ((vcs.map VCo.raw ++ [Z3y]).flatMap Z4j.cells):=e0 ▸ hO;have h3:=Z6o Z4j.cells_length (by decide) hO2 vcs.length (by simp) v.raw
 have e1:((vcs.map VCo.raw ++ [Z3y]).set vcs.length v.raw).flatMap Z4j.cells=(vcs ++ [v]).flatMap VCo.cells:=by
  rw [Z9c,List.set_append_right _ _ (by simp)];simp
 rw [e1] at h3;have hr:=Z2x hO
 have hgf:(∃a,AC=some a∧a.block=g)∨W1.heap.size≤g:=by
  rcases hA _ rfl with h4 | h4
  · exact .inl h4
  · exact .inr h4.1
 have hY2:Fr (fun k=>k=mb∨∃a,AC=some a∧a.block=k) W1 Y:=hY.mono (fun k _ hk=>.inr hk);refine ⟨(Fr.setCells v.cells _ hY2 (hgf.imp (fun h4=>.inr h4) id)).setCell (p:=⟨mb,2,none⟩) (.inl (.inl rfl)) _,?_,?_,fun a ha=>?_,hr.1.there (by have:=hr.2.1;omega),(hmY.cell 2).trans rfl,hmY.frozen 2,hmY.lt,hne⟩
 · exact (Blk.farCells _ _ hmY hne).set_ 2 _
 · rw [hl]
   exact ownsRow_setCell_other h3 (by simp [Value.ownBlock];exact fun e=>hne e.symm) _
 · injection ha with ha;subst ha;exact hgf
theorem Z9f {w:World} {a b:Nat} (hne:a≠b) (o k:Nat) (u v:Value):(w.setCell ⟨a,o,none⟩ u).setCell ⟨b,k,none⟩ v=(w.setCell ⟨b,k,none⟩ v).setCell ⟨a,o,none⟩ u:=by
 simp only [World.setCell];congr 1;apply Array.ext_getElem?;intro i;simp only [Array.getElem?_modify];by_cases h1:a=i
 · by_cases h2:b=i
   · exact absurd (h1.trans h2.symm) hne
   · simp [h1,h2]
 · by_cases h2:b=i<;>simp [h1,h2]
theorem Z64 {w:World} {a b:Nat} (hne:a≠b) (o:Nat) (u:Value) : ∀(vs:List Value) (k:Nat),(w.setCell ⟨a,o,none⟩ u).setCells b k vs=(w.setCells b k vs).setCell ⟨a,o,none⟩ u:=by
 intro vs
 induction vs generalizing w with
 | nil=>intro k;rfl
 | cons v l ih=>
   intro k;show ((w.setCell ⟨a,o,none⟩ u).setCell ⟨b,k,none⟩ v).setCells b (k+1) l=((w.setCell ⟨b,k,none⟩ v).setCells b (k+1) l).setCell ⟨a,o,none⟩ u;rw [← ih];congr 1;exact Z9f hne _ _ _ _
end
end
end Go.Proofs.YtldndkngpdfpfaaGreat
