/-
  Texts put together: SymValid, LeafName, ShapePlain, KitSyms, BkGet, MadeP, BkSet, Own, OwnC, BkInfo, BkCopy1, OwnG, BkSame1.
-/
import Derived.Test.YtfidcfjcmlgkbaaGreatPMd
namespace Go.Proofs.YtfidcfjcmlgkbaaGreat
open Lib (hid)
set_option maxRecDepth 100000
set_option maxHeartbeats 32000000
set_option linter.unusedSimpArgs false
section
open Go.RowKit
def Zlw (f:UInt8→Bool) (t:ByteArray):Bool:=t.data.toList.head?.any f
theorem Zev {f:UInt8→Bool}{t:ByteArray}(h:0<t.size):Zlw f t=f t[0]:=by
 have hs:t.data.toList.length=t.size:=Array.length_toList;unfold Zlw;rw [List.head?_eq_getElem?,Znq (by omega),Option.any_some,Array.getElem_toList];rfl
def Z2i (s:Sym):Bool:=
 if s.kind=1 then decide (s.text.size=1) && Zlw Z31 s.text && decide (1≤s.n) && decide (s.n≤1048576)
 else if s.kind=2 then decide (s.text.toList = []) && decide (-2147483647≤s.n) && decide (s.n≤2147483647)
 else if s.kind=3 then decide (s.n=0) && Z17 s.text else false
theorem Z18 {a b:Bool}(h:a=b):Ending.returned (.bool a) = .returned (.bool b):=by rw [h]
theorem Zl5 (s:Sym) (w:World):Calls Tryz.prog 49 #[.agg #[.int .i64 s.kind,.string s.text,.int .i64 s.n]] w fun e w'=>e = .returned (.bool (Z2i s))∧Below w.heap.size w w':=by
 obtain ⟨k,t,n⟩:=s;dsimp only;by_cases k1:k=1
 · subst k1
   by_cases a1:t.size=1
   · have h0:0<t.size:=by omega
     (have t1:((t.size:Int) == 1)=true:=by simp;omega);have HV:=hid (show Z2i ⟨1,t,n⟩=(Z31 t[0] && decide (1≤n) && decide (n≤1048576)) by simp [Z2i,a1,Zev h0]);go_enter Tryz.func49,Tryz.ntmps49;go_wp2_with (go_at_call 96;refine (Zjs _ _).mono ?_;rintro e w' ⟨rfl,rfl⟩)
     all_goals
      go_ret;refine ⟨?_,(Znk _ _).alloc (Znl _) _⟩;rw [HV.out]
      first|rfl|(refine Z18 ?_;simp_all;done)|(refine Z18 ?_;simp_all;omega)|(refine Z18 ?_;simp_all [Z31];done)|(refine Z18 ?_;simp_all [Z31];omega)
   · have t1:((t.size:Int) == 1)=false:=by simp;omega
     have HV:=hid (show Z2i ⟨1,t,n⟩=false by simp [Z2i,a1]);go_enter Tryz.func49,Tryz.ntmps49;go_wp2_with fail
     all_goals
      go_ret;refine ⟨?_,(Znk _ _).alloc (Znl _) _⟩;rw [HV.out];rfl
 · by_cases k2:k=2
   · subst k2
     have HV:=hid (show Z2i ⟨2,t,n⟩=(decide (t.toList = []) && decide (-2147483647≤n) && decide (n≤2147483647)) by simp [Z2i]);clear k1;go_enter Tryz.func49,Tryz.ntmps49;go_wp2_with fail
     all_goals
      go_ret;refine ⟨?_,(Znk _ _).alloc (Znl _) _⟩;rw [HV.out]
      first|rfl|(refine Z18 ?_;simp_all;done)|(refine Z18 ?_;simp_all;omega)|(refine Z18 ?_;simp_all [Z31];done)|(refine Z18 ?_;simp_all [Z31];omega)
   · by_cases k3:k=3
     · subst k3
       have HV:=hid (show Z2i ⟨3,t,n⟩=(decide (n=0) && Z17 t) by simp [Z2i]);clear k1 k2;go_enter Tryz.func49,Tryz.ntmps49;go_wp2_with (go_at_call 98;refine (Z3v _ _).mono ?_;rintro e w' ⟨rfl,rfl⟩)
       all_goals
        go_ret;refine ⟨?_,(Znk _ _).alloc (Znl _) _⟩;rw [HV.out]
        first|rfl|(refine Z18 ?_;simp_all;done)|(refine Z18 ?_;simp_all;omega)|(refine Z18 ?_;simp_all [Z31];done)|(refine Z18 ?_;simp_all [Z31];omega)
     · have HV:=hid (show Z2i ⟨k,t,n⟩=false by simp [Z2i,k1,k2,k3])
       (have t1:(k == 1)=false:=by simp [k1]);(have t2:(k == 2)=false:=by simp [k2]);(have t3:(k == 3)=false:=by simp [k3]);clear k1 k2 k3;go_enter Tryz.func49,Tryz.ntmps49;go_wp2_with fail
       all_goals
        go_ret;refine ⟨?_,(Znk _ _).alloc (Znl _) _⟩;rw [HV.out];rfl
theorem Z7d (s:Sym) (w:World):Calls Tryz.prog 55 #[.agg #[.int .i64 s.kind,.string s.text,.int .i64 s.n]] w fun e w'=>e = .returned (.bool (Z2i s))∧Below w.heap.size w w':=by
 obtain ⟨k,t,n⟩:=s;dsimp only;by_cases k1:k=1
 · subst k1
   by_cases a1:t.size=1
   · have h0:0<t.size:=by omega
     (have t1:((t.size:Int) == 1)=true:=by simp;omega);have HV:=hid (show Z2i ⟨1,t,n⟩=(Z31 t[0] && decide (1≤n) && decide (n≤1048576)) by simp [Z2i,a1,Zev h0]);go_enter Tryz.func55,Tryz.ntmps55;go_wp2_with (fail)
     all_goals
      go_ret;refine ⟨?_,(Znk _ _).alloc (Znl _) _⟩;rw [HV.out]
      first|rfl|(refine Z18 ?_;simp_all;done)|(refine Z18 ?_;simp_all;omega)|(refine Z18 ?_;simp_all [Z31];done)|(refine Z18 ?_;simp_all [Z31];omega)
   · have t1:((t.size:Int) == 1)=false:=by simp;omega
     have HV:=hid (show Z2i ⟨1,t,n⟩=false by simp [Z2i,a1]);go_enter Tryz.func55,Tryz.ntmps55;go_wp2_with fail
     all_goals
      go_ret;refine ⟨?_,(Znk _ _).alloc (Znl _) _⟩;rw [HV.out];rfl
 · by_cases k2:k=2
   · subst k2
     have HV:=hid (show Z2i ⟨2,t,n⟩=(decide (t.toList = []) && decide (-2147483647≤n) && decide (n≤2147483647)) by simp [Z2i]);clear k1;go_enter Tryz.func55,Tryz.ntmps55;go_wp2_with fail
     all_goals
      go_ret;refine ⟨?_,(Znk _ _).alloc (Znl _) _⟩;rw [HV.out]
      first|rfl|(refine Z18 ?_;simp_all;done)|(refine Z18 ?_;simp_all;omega)|(refine Z18 ?_;simp_all [Z31];done)|(refine Z18 ?_;simp_all [Z31];omega)
   · by_cases k3:k=3
     · subst k3
       have HV:=hid (show Z2i ⟨3,t,n⟩=(decide (n=0) && Z17 t) by simp [Z2i]);clear k1 k2;go_enter Tryz.func55,Tryz.ntmps55;go_wp2_with (go_at_call 103;refine (Z49 _ _).mono ?_;rintro e w' ⟨rfl,rfl⟩)
       all_goals
        go_ret;refine ⟨?_,(Znk _ _).alloc (Znl _) _⟩;rw [HV.out]
        first|rfl|(refine Z18 ?_;simp_all;done)|(refine Z18 ?_;simp_all;omega)|(refine Z18 ?_;simp_all [Z31];done)|(refine Z18 ?_;simp_all [Z31];omega)
     · have HV:=hid (show Z2i ⟨k,t,n⟩=false by simp [Z2i,k1,k2,k3])
       (have t1:(k == 1)=false:=by simp [k1]);(have t2:(k == 2)=false:=by simp [k2]);(have t3:(k == 3)=false:=by simp [k3]);clear k1 k2 k3;go_enter Tryz.func55,Tryz.ntmps55;go_wp2_with fail
       all_goals
        go_ret;refine ⟨?_,(Znk _ _).alloc (Znl _) _⟩;rw [HV.out];rfl
abbrev Name:=ByteArray
def Name.cells (n:Name):List Value:=[.string n]
theorem Name.cells_length (n:Name):(Name.cells n).length=1:=rfl
def Z0o (a b:Name):Int:=Z2h a b
theorem Z3u:TC Z0o:=Zj3
theorem Z3q {a b:Name}:Z0o a b=0↔a=b:=Zbx
theorem Zjj (a b:Name) (w:World):Calls Tryz.prog 265 #[.string a,.string b] w fun e w'=>e = .returned (.int .i64 (Z0o a b))∧Below w.heap.size w w':=by
 go_enter Tryz.func265,Tryz.ntmps265;go_wp2
 all_goals (go_ret;refine ⟨?_,Znk _ _⟩;unfold Z0o Z2h;simp_all)
end
section
def zS:Sym:=⟨0,⟨#[]⟩,0⟩
def Z57 (s:Sym):Bool:=decide (s=zS)
def Z2t (a:Z2o):Bool:=decide (a.var.toList = []) && Z57 a.sym
def Z28 (s:Sym):Bool:=decide (s.kind≠1) && Z2i s
def Z1a (t:Z1r):Bool:=
 if t.rel=8 then decide (t.var.toList = []) && Z57 t.sym && decide (1≤t.list.length) && decide (t.list.length≤8) && t.list.all Z28
 else if t.rel<1∨7<t.rel∨0<t.list.length then false
 else if t.var.toList = [] then Z28 t.sym else Z17 t.var && Z57 t.sym
def Z2c (a:Z2o):Bool:=if a.var.toList = [] then Z28 a.sym else Z17 a.var && Z57 a.sym
def Z0l (c:Z0a) (deep:Nat):Int:=
 if c.kind=3 then (if c.goal=true∨c.id.toList≠[]∨0<c.attr.length∨0<c.value.length∨c.acc=true∨c.conds.length=0 then 9 else if 3≤deep then 8 else 0)
 else if c.kind=1∨c.kind=2 then
  (if 0<c.conds.length∨Z17 c.id=false∨c.attr.length=0 then 9 else if 4<c.attr.length∨4<c.value.length then 7 else if (c.attr.all Z1a && c.value.all Z1a)=false then 9 else 0)
 else 9
def Z4v (a:Z2o):Bool:=decide (a.var.toList = []) && decide (a.sym.kind=3)
def Z2n (t:Z8j):Bool:=
 if t.op<0∨3<t.op∨Z2c t.a=false then false
 else if t.op=0 then Z2t t.b else Z2c t.b && !Z4v t.a && !Z4v t.b
def Z2m (k:Int):Bool:=decide (k=8) ||decide (k=9) ||decide (k=10)
def actB (a:ActT):Bool:=
 if Z17 a.id=false∨Z2c a.attr=false∨Z2n a.value=false∨a.pref<1∨10<a.pref then false
 else if Z2m a.pref=true then Z2c a.other else Z2t a.other
def Z0i:Nat→Nat→List Z0a→List (Nat×Z0a)
 | 0,_,_=>[]
 | n+1,d,l=>l.flatMap fun c=>(d,c) :: Z0i n (d+1) c.conds
def Z1i (n:Nat) (p:Z39):Int×Int:=
 if Z17 p.name=false then (-1,2)
 else if (Z0i n 0 p.conds).length<1∨16<(Z0i n 0 p.conds).length∨p.acts.length<1∨16<p.acts.length then (-1,7)
 else match (Z0i n 0 p.conds).findIdx? (fun c=>decide (Z0l c.2 c.1≠0)) with
  | some k=>(k,(((Z0i n 0 p.conds)[k]?).map fun c=>Z0l c.2 c.1).getD 0)
  | none=>match p.acts.findIdx? (fun a=>!actB a) with
    | some i=>((Z0i n 0 p.conds).length+i,9)
    | none=>(-1,0)
abbrev Kn:=List ByteArray×List ByteArray
def metK (k:Kn) (v:ByteArray):Kn:=(put Z0o k.1 v,if has Z0o k.1 v=true then k.2 else k.2 ++ [v])
def hasK (k:Kn) (v:ByteArray):Bool:=has Z0o k.1 v
def Z0u:Kn→List Z1r→Bool×Kn
 | k,[]=>(true,k)
 | k,t :: l=>if t.rel=8∨t.var.toList = [] then Z0u k l else if t.rel=1 then Z0u (metK k t.var) l else if hasK k t.var=true then Z0u k l else (false,k)
def oneK (k:Kn) (c:Z0a):Bool×Kn:=
 let k1:=if c.goal=true then metK k c.id else k
 if hasK k1 c.id=true then (match Z0u k1 c.attr with|(true,k2)=>Z0u k2 c.value|(false,k2)=>(false,k2)) else (false,k1)
def Z12:Nat→Kn→List Z0a→Int→Bool×Int×Kn
 | 0,k,_,at_=>(true,at_,k)
 | _+1,k,[],at_=>(true,at_,k)
 | n+1,k,c :: l,at_=>
   if c.kind=3 then
    (match Z12 n (k.1,[]) c.conds (at_+1) with
      | (true,a2,_)=>Z12 (n+1) k l a2
      | (false,a2,_)=>(false,a2,k))
   else
    (match oneK (if c.kind=1 then k else (k.1,[])) c with
      | (true,k2)=>Z12 (n+1) (if c.kind=1 then k2 else k) l (at_+1)
      | (false,_)=>(false,at_,k))
termination_by n _ l _=>(n,l.length)
def Z34 (k:Kn) (a:Z2o):Bool:=decide (a.var.toList≠[]) && !hasK k a.var
def actV (k:Kn) (a:ActT):Bool:=Z34 k a.attr ||(decide (a.value.op≠0) && (Z34 k a.value.a ||Z34 k a.value.b))
def Z22 (n:Nat) (p:Z39):Int×Int×List ByteArray:=
 if (Z1i n p).2≠0 then ((Z1i n p).1,(Z1i n p).2,[])
 else if (p.conds.head?.map Z0a.kind).getD 0≠1 then (0,9,[])
 else match Z12 n ([],[]) p.conds 0 with
  | (false,a,_)=>(a,6,[])
  | (true,a,k)=>match p.acts.findIdx? (actV k) with
    | some i=>(a+i,6,[])
    | none=>(-1,0,k.2)
end
section
open Go.RowKit
theorem Zdg (x y:Sym) (W:World):(binOp .eql 38 (.agg #[.int .i64 x.kind,.string x.text,.int .i64 x.n]) (.agg #[.int .i64 y.kind,.string y.text,.int .i64 y.n])).run Tryz.prog W = .ok (.bool (decide (x=y))) W:=by
 rw [run_eql_struct];go_simp;by_cases h:x=y
 · subst h;simp
 · have h2 :¬(x.kind=y.kind∧x.text.toList=y.text.toList∧x.n=y.n):=fun ⟨h1,h2,h3⟩=>h (Sym.ext' h1 (toList_inj h2) h3)
   rw [Znm h]
   split
   · split
     · split
       · exact absurd ⟨by assumption,by assumption,by assumption⟩ h2
       · rfl
     · rfl
   · rfl
theorem Zi8 (x y:Sym) (W:World):(binOp .neq 38 (.agg #[.int .i64 x.kind,.string x.text,.int .i64 x.n]) (.agg #[.int .i64 y.kind,.string y.text,.int .i64 y.n])).run Tryz.prog W = .ok (.bool (!decide (x=y))) W:=by
 rw [run_neq_struct];go_simp;by_cases h:x=y
 · subst h;simp
 · have h2 :¬(x.kind=y.kind∧x.text.toList=y.text.toList∧x.n=y.n):=fun ⟨h1,h2,h3⟩=>h (Sym.ext' h1 (toList_inj h2) h3)
   rw [Znm h]
   split
   · split
     · split
       · exact absurd ⟨by assumption,by assumption,by assumption⟩ h2
       · rfl
     · rfl
   · rfl
attribute [local go_sem] Zdg Zi8
theorem Zlf {w:World}{A:Option Addr}{c k:Nat}{l:List Sym}(h:Z0z w 3 Sym.cells A c l) (hk:k<l.length):∃g off,A=some ⟨g,off,none⟩∧g<w.heap.size∧
 w.cell? ⟨g,off+k*3,none⟩=some (.int .i64 l[k].kind)∧w.cell? ⟨g,off+k*3+1,none⟩=some (.string l[k].text)∧w.cell? ⟨g,off+k*3+2,none⟩=some (.int .i64 l[k].n):=by
 obtain ⟨g,off,hA,hg,hc⟩:=h.at_ hk;exact ⟨g,off,hA,hg,by simpa using hc 0 _ rfl,by simpa using hc 1 _ rfl,by simpa using hc 2 _ rfl⟩
end
section
open Go.RowKit Go.Shelf
def getB:List Z13→ByteArray→Sym×Bool
 | [],_=>(zS,false)
 | b :: l,v=>if b.var.toList=v.toList then (b.sym,true) else getB l v
theorem Z72 (b:Z13) (l:List Z13) (v:ByteArray):getB (b :: l) v=if b.var.toList=v.toList then (b.sym,true) else getB l v:=rfl
def Zfn (W:World) (r:Sym×Bool) (e:Ending) (W':World):Prop:=e = .returned (.tuple #[.agg #[.int .i64 r.1.kind,.string r.1.text,.int .i64 r.1.n],.bool r.2])∧Below W.heap.size W W'
theorem Blk.z3 {w:World}{g:Nat}{t:TypeId}(h:Blk w g t #[.int .i64 0,.string ⟨#[]⟩,.int .i64 0]):w.cell? ⟨g,0,none⟩=some (.int .i64 0)∧w.cell? ⟨g,1,none⟩=some (.string ⟨#[]⟩)∧w.cell? ⟨g,2,none⟩=some (.int .i64 0)∧w.frozen? ⟨g,0,none⟩=false∧w.frozen? ⟨g,1,none⟩=false∧w.frozen? ⟨g,2,none⟩=false∧g<w.heap.size:=
 ⟨(h.cell 0).trans rfl,(h.cell 1).trans rfl,(h.cell 2).trans rfl,h.frozen 0,h.frozen 1,h.frozen 2,h.lt⟩
theorem Zn4 {D:Nat→Prop}{A:Option Addr}{c:Nat}(l:List Z13) (v:ByteArray) (w:World) (h:RowR Z1n D w A c l) :
 Calls Tryz.prog 123 #[.slice A l.length c,.string v] w (Zfn w (getB l v)):=by
 have H0:=hid h;have hlc:=h.cap;clear h;go_enter Tryz.func123,Tryz.ntmps123;(go_upto_region 1 with fail);obtain ⟨W1,hW1⟩:∃W1,W1=w.alloc (.cells #[.int .i64 0,.string ⟨#[]⟩,.int .i64 0] 38):=⟨_,rfl⟩;rw [←hW1];have HB1:=hid (show Below w.heap.size w W1 by rw [hW1];exact (Znk _ _).alloc (Znl _) _);have HK1:=hid (show Blk W1 w.heap.size 38 #[.int .i64 0,.string ⟨#[]⟩,.int .i64 0] by rw [hW1];exact Blk.new _ _ _);clear hW1;go_wp2_with fail
 go_loopw [10] (fun s wr=>∃i:Nat,s = .int .i64 i∧i≤l.length∧getB l v=getB (l.drop i) v∧Below W1.heap.size W1 wr) (fun s wr=>l.length - (intOf s).toNat)
 case atStart=>exact ⟨0,rfl,Nat.zero_le _,rfl,Znk _ _⟩
 case round=>
  obtain ⟨i,rfl,hi,hG,hBr⟩:=hrel;have HG:=hid hG;have HBr:=hid (HB1.out.trans (hBr.mono HB1.out.size));have HBw:=hid hBr;obtain ⟨u0,u1,u2,f0,f1,f2,hu⟩:=(HK1.out.new_ hBr).z3;have hszw:=hBr.size;have hszw2:=HBr.out.size;clear hG hBr;by_cases hlt:i<l.length
  · obtain ⟨y,hy⟩:∃y,y=l[i]:=⟨_,rfl⟩
    have hdr:l.drop i=l[i] :: l.drop (i+1):=Zol hlt;rw [←hy] at hdr;obtain ⟨g,off,rfl,_,hg,q0,q1,q2,q3⟩:=Z5d (H0.out.new_ HBr.out) hlt;rw [←hy] at q0 q1 q2 q3;have HDR:=hid hdr;(have b1:(0:Int)≤(i:Int):=by omega);(have b2:(i:Int)<(l.length:Int):=by omega);clear hy hdr;by_cases hv:y.var.toList=v.toList
    · have HR:=hid (show getB l v=(y.sym,true) by rw [HG.out,HDR.out,Z72,if_pos hv])
      (have v1:(y.var.toList == v.toList)=true:=by simp [hv]);(have v2:decide (y.var.toList=v.toList)=true:=by simp [hv]);clear hv;(go_wp2_with fail);unfold Zfn;rw [HR.out];exact bodyPost_ret (v:=.tuple #[.agg #[.int .i64 y.sym.kind,.string y.sym.text,.int .i64 y.sym.n],.bool true]) (by simp [results,Tryz.results123,go_sem, *]) rfl ⟨rfl,by (repeat (first|exact Znk _ _|exact HB1.out|exact (HBr.out)|refine Below.drew ?_|refine Below.al ?_ _|refine Below.sc ?_ _))⟩
    · have HR:=hid (show getB l v=getB (l.drop (i+1)) v by rw [HG.out,HDR.out,Z72,if_neg hv])
      (have v1:(y.var.toList == v.toList)=false:=by simp [hv]);(have v2:decide (y.var.toList=v.toList)=false:=by simp [hv]);clear hv;(go_wp2_with fail);go_roundw
      case rel=>exact ⟨i+1,by go_num,by omega,HR.out,by (repeat (first|exact Znk _ _|exact HBw.out|refine Below.drew ?_|refine Below.al ?_ _|refine Below.sc ?_ _))⟩
      case measure=>simp [intOf]<;>omega
  · have hie:i=l.length:=by omega
    subst hie;have HR:=hid (show getB l v=(zS,false) by rw [HG.out,Zoq];rfl);(go_wp2_with fail);unfold Zfn;rw [HR.out];exact bodyPost_ret (v:=.tuple #[.agg #[.int .i64 0,.string ⟨#[]⟩,.int .i64 0],.bool false]) (by simp [results,Tryz.results123,go_sem, *]) rfl ⟨rfl,by (repeat (first|exact Znk _ _|exact HB1.out|exact (HBr.out)|refine Below.drew ?_|refine Below.al ?_ _|refine Below.sc ?_ _))⟩
theorem Zml {D:Nat→Prop}{A:Option Addr}{c:Nat}(l:List Z13) (v:ByteArray) (w:World) (h:RowR Z1n D w A c l) :
 Calls Tryz.prog 52 #[.slice A l.length c,.string v] w (Zfn w (getB l v)):=by
 have H0:=hid h;have hlc:=h.cap;clear h;go_enter Tryz.func52,Tryz.ntmps52;(go_upto_region 1 with fail);obtain ⟨W1,hW1⟩:∃W1,W1=w.alloc (.cells #[.int .i64 0,.string ⟨#[]⟩,.int .i64 0] 38):=⟨_,rfl⟩;rw [←hW1];have HB1:=hid (show Below w.heap.size w W1 by rw [hW1];exact (Znk _ _).alloc (Znl _) _);have HK1:=hid (show Blk W1 w.heap.size 38 #[.int .i64 0,.string ⟨#[]⟩,.int .i64 0] by rw [hW1];exact Blk.new _ _ _);clear hW1;go_wp2_with fail
 go_loopw [6] (fun s wr=>∃i:Nat,s = .int .i64 i∧i≤l.length∧getB l v=getB (l.drop i) v∧Below W1.heap.size W1 wr) (fun s wr=>l.length - (intOf s).toNat)
 case atStart=>exact ⟨0,rfl,Nat.zero_le _,rfl,Znk _ _⟩
 case round=>
  obtain ⟨i,rfl,hi,hG,hBr⟩:=hrel;have HG:=hid hG;have HBr:=hid (HB1.out.trans (hBr.mono HB1.out.size));have HBw:=hid hBr;obtain ⟨u0,u1,u2,f0,f1,f2,hu⟩:=(HK1.out.new_ hBr).z3;have hszw:=hBr.size;have hszw2:=HBr.out.size;clear hG hBr;by_cases hlt:i<l.length
  · obtain ⟨y,hy⟩:∃y,y=l[i]:=⟨_,rfl⟩
    have hdr:l.drop i=l[i] :: l.drop (i+1):=Zol hlt;rw [←hy] at hdr;obtain ⟨g,off,rfl,_,hg,q0,q1,q2,q3⟩:=Z5d (H0.out.new_ HBr.out) hlt;rw [←hy] at q0 q1 q2 q3;have HDR:=hid hdr;(have b1:(0:Int)≤(i:Int):=by omega);(have b2:(i:Int)<(l.length:Int):=by omega);clear hy hdr;by_cases hv:y.var.toList=v.toList
    · have HR:=hid (show getB l v=(y.sym,true) by rw [HG.out,HDR.out,Z72,if_pos hv])
      (have v1:(y.var.toList == v.toList)=true:=by simp [hv]);(have v2:decide (y.var.toList=v.toList)=true:=by simp [hv]);clear hv;(go_wp2_with fail);unfold Zfn;rw [HR.out];exact bodyPost_ret (v:=.tuple #[.agg #[.int .i64 y.sym.kind,.string y.sym.text,.int .i64 y.sym.n],.bool true]) (by simp [results,Tryz.results52,go_sem, *]) rfl ⟨rfl,by (repeat (first|exact Znk _ _|exact HB1.out|exact (HBr.out)|refine Below.drew ?_|refine Below.al ?_ _|refine Below.sc ?_ _))⟩
    · have HR:=hid (show getB l v=getB (l.drop (i+1)) v by rw [HG.out,HDR.out,Z72,if_neg hv])
      (have v1:(y.var.toList == v.toList)=false:=by simp [hv]);(have v2:decide (y.var.toList=v.toList)=false:=by simp [hv]);clear hv;(go_wp2_with fail);go_roundw
      case rel=>exact ⟨i+1,by go_num,by omega,HR.out,by (repeat (first|exact Znk _ _|exact HBw.out|refine Below.drew ?_|refine Below.al ?_ _|refine Below.sc ?_ _))⟩
      case measure=>simp [intOf]<;>omega
  · have hie:i=l.length:=by omega
    subst hie;have HR:=hid (show getB l v=(zS,false) by rw [HG.out,Zoq];rfl);(go_wp2_with fail);unfold Zfn;rw [HR.out];exact bodyPost_ret (v:=.tuple #[.agg #[.int .i64 0,.string ⟨#[]⟩,.int .i64 0],.bool false]) (by simp [results,Tryz.results52,go_sem, *]) rfl ⟨rfl,by (repeat (first|exact Znk _ _|exact HB1.out|exact (HBr.out)|refine Below.drew ?_|refine Below.al ?_ _|refine Below.sc ?_ _))⟩
end
section
instance memText (v:ByteArray) (l:List ByteArray):Decidable (v∈l):=decidable_of_iff (l.any (fun u=>decide (u=v))=true) (by simp)
def Z54 (P:ByteArray→Bool):List ByteArray→List Z13→List Z13
 | _,[]=>[]
 | seen,b :: l=>if P b.var=true∧b.var ∉ seen then b :: Z54 P (b.var :: seen) l else Z54 P seen l
def symT (l:List Z13) (t:Z1r):Sym×Bool:=if t.var.toList = [] then (t.sym,true) else getB l t.var
def Z2z (a:Sym) (l:List Z13) (t:Z1r):List Z09:=
 if t.rel≠2∧t.rel≠7 then [] else if (symT l t).2=true∧(a.kind=1∨(symT l t).1.kind=1) then [⟨a,(symT l t).1,t.rel⟩] else []
def Z1v (ts:List Z1r) (a:Sym) (l:List Z13):List Z09:=ts.flatMap (Z2z a l)
theorem Zfo (a:Sym) (l:List Z13) (t:Z1r):(Z2z a l t).length≤1:=by
 unfold Z2z
 split
 · simp
 · split<;>simp
theorem Z3p (ts:List Z1r) (a:Sym) (l:List Z13):(Z1v ts a l).length≤ts.length:=by
 unfold Z1v
 induction ts with
 | nil=>simp
 | cons t ts ih=>have:=Zfo a l t;rw [Zoo,Znp,Zo4];omega
theorem Z81 {ts:List Z1r}{k:Nat}(hk:k<ts.length) (a:Sym) (l:List Z13):Z1v (ts.take (k+1)) a l=Z1v (ts.take k) a l++Z2z a l ts[k]:=by
 unfold Z1v;rw [Zor,Znq hk,Zny];simp
def Z1l (ts:List Z1r):List ByteArray:=(ts.filter fun t=>decide (t.rel=1∧¬t.var.toList = [])).map Z1r.var
structure Zfj where
 known:List ByteArray
 holes:List Z4y
 aparts:List Z09
 n:Nat
def Z38 (names:Z0a→List ByteArray) (es:List Z07) (l:List Z13) (s:Zfj) (c:Z0a):Zfj:=
 if c.kind=1 then
  ⟨s.known++c.id :: (Z1l c.attr++Z1l c.value),s.holes,s.aparts++(match es[s.n]? with|none=>[]|some e=>Z1v c.attr e.elem.attr l++Z1v c.value e.elem.value l),s.n+1⟩
 else ⟨s.known,s.holes ++ [⟨c,Z54 (fun v=>decide (v∈names c) && decide (v∈s.known)) [] l⟩],s.aparts,s.n⟩
def Z3x (names:Z0a→List ByteArray) (es:List Z07) (l:List Z13) (cs:List Z0a):Zfj:=cs.foldl (Z38 names es l) ⟨[],[],[],0⟩
theorem Z6o (names:Z0a→List ByteArray) (es:List Z07) (l:List Z13){cs:List Z0a}{k:Nat}(hk:k<cs.length):Z3x names es l (cs.take (k+1))=Z38 names es l (Z3x names es l (cs.take k)) cs[k]:=by
 unfold Z3x;rw [Zor,Znq hk,List.foldl_append];rfl
def posN (cs:List Z0a):Nat:=(cs.filter fun c=>decide (c.kind=1)).length
theorem Z59 {cs:List Z0a}{k:Nat}(hk:k<cs.length):posN (cs.take (k+1))=posN (cs.take k)+if cs[k].kind=1 then 1 else 0:=by
 unfold posN;rw [Zor,Znq hk,List.filter_append,Znp];by_cases h:cs[k].kind=1<;>simp [h]
theorem Zb4 (names:Z0a→List ByteArray) (es:List Z07) (l:List Z13) (cs:List Z0a):∀k,k≤cs.length→(Z3x names es l (cs.take k)).n=posN (cs.take k)
 | 0,_=>rfl
 | k+1,h=>by
   rw [Z6o names es l (by omega),Z59 (by omega),←Zb4 names es l cs k (by omega),Z38]
   split<;>simp [*]
def Zb5 (names:Z0a→List ByteArray) (num level:Int) (cs:List Z0a) (es more:List Z07) (l:List Z13) (news:List Sym):Z0e:=
 ⟨num,level,es++more,(Z3x names es l cs).holes,(Z3x names es l cs).aparts,news⟩
end
section
open Go.RowKit Go.Shelf
attribute [local go_sem] Oper.semAt_some
def NM (D:Nat→Prop) (X:World) (S:Nat→Option (List Z0p)):Prop:=∃σ,Zgq D X S σ∧∀q,D q→Off q S σ
section
variable {D D':Nat→Prop}{X Y:World}{S:Nat→Option (List Z0p)}{b:Nat}{l:List Z0p}
theorem NM.low (h:NM D X S):∀k,D k→k<X.heap.size:=by obtain ⟨σ,h1,_⟩:=h;exact h1.low
theorem NM.weaken (h:NM D X S) (hD :∀k,D' k→D k):NM D' X S:=by obtain ⟨σ,h1,h2⟩:=h;exact ⟨σ,h1.weaken hD,fun q hq=>h2 q (hD q hq)⟩
theorem NM.own (h:NM D X S) (hF:Fr D X Y):NM (Plus D X Y) Y S:=by
 obtain ⟨σ,h,ho⟩:=h;exact ⟨σ,Sets.widen (D:=D) ⟨fun b l hb=>(h.at_ b l hb).fr hF (fun hd=>(ho b hd b l hb).1 rfl) (fun a ha hd=>(ho _ hd b l hb).2 a ha rfl),h.srt,h.out,h.apart,fun k hk=>Znn (h.low k hk) hF.size⟩ X.heap.size (fun b l hb=>⟨h.lt hb,fun _ a ha=>(h.at_ b l hb).row_lt a ha⟩),fun q hq=>hq.elim (ho q) (fun hq=>Off.new_ h hq.1)⟩
theorem NM.new_ (h:NM D X S) (hb:Below X.heap.size X Y):NM (Plus D X Y) Y S:=h.own (Fr.of_new hb)
theorem NM.srt (h:NM D X S) (hb:S b=some l):Srt Z01 l:=by obtain ⟨σ,h1,_⟩:=h;exact h1.srt b l hb
theorem NM.outD (h:NM D X S) (hb:S b=some l):¬D b∧b<X.heap.size:=by obtain ⟨σ,h1,_⟩:=h;exact ⟨(h1.out b l hb).1,h1.lt hb⟩
theorem NM.start (hD :∀k,D k→k<X.heap.size):NM D X (fun _=>none):=⟨_,(Sets.start _ _ _ _ _ X).weaken hD,fun _ _ _ _ h=>by cases h⟩
theorem Zld (h:NM D X S):Calls Tryz.prog 64 #[.slice none 0 0] X fun e Y=>∃k,e = .returned (.pointer (some ⟨k,0,none⟩))∧X.heap.size≤k∧NM D Y (upd S k (some []))∧Below X.heap.size X Y:=by
 obtain ⟨σ,h,ho⟩:=h;refine (Zib none 0 [] X (Z0z.nil _ _ _) (by simp)).mono ?_;rintro e w' ⟨k,he,hk,sn,A',c',h1,hA,hB⟩;refine ⟨k,he,hk,⟨_,h.add hk h1 (Srt.puts Z2g [] Srt.nil) (.inl hA) hB,fun q hq b l hb=>?_⟩,hB⟩;have hq2:=h.low q hq;by_cases e:b=k
 · subst e
   rw [Z0r];exact ⟨by omega,fun a ha=>by have:=hA a ha;omega⟩
 · rw [Z1q _ _ e] at hb ⊢
   exact ho q hq b l hb
theorem Zn6 (v:ByteArray) (h:NM D X S) (hb:S b=some l) (hl:(l.length:Int)≤1000000000):Calls Tryz.prog 121 #[.pointer (some ⟨b,0,none⟩),.string v] X fun e Y=>e = .returned (.bool (has Z01 l v))∧Below X.heap.size X Y:=by
 obtain ⟨σ,h,_⟩:=h;have HP:=hid (Ze5 b _ _ _ l v X (h.at_ b l hb) (h.srt b l hb) hl);clear h hb;go_enter Tryz.func121,Tryz.ntmps121;(go_wp2_with fail);refine HP.out.mono ?_;rintro e w1 ⟨rfl,hb1⟩;have HB:=hid hb1;clear hb1;(go_wp2_with fail);go_ret;exact ⟨rfl,HB.out⟩
theorem Zic (x:ByteArray) (h:NM D X S) (hb:S b=some l) (hl:(l.length:Int)≤100000000):Calls Tryz.prog 67 #[.pointer (some ⟨b,0,none⟩),.string x] X fun e Y=>e = .returned (.bool (!has Z01 l x))∧NM D Y (upd S b (some (put Z01 l x)))∧Fr (fun k=>¬D k) X Y:=by
 obtain ⟨σ,h,ho⟩:=h;refine (Zcr b _ _ _ l x X (h.at_ b l hb) (h.srt b l hb) hl).mono ?_;rintro e w' ⟨he,sn',A',c',h1,hF,hM⟩;exact ⟨he,⟨_,h.moved (by decide) hb h1 ((h.srt b l hb).put Z2g x) hF hM,fun q hq=>(ho q hq).moved (st:=⟨sn',A',c'⟩) hb hM (h.low q hq)⟩,h.mod hb hF⟩
theorem Zm9 (x:ByteArray) (h:NM D X S) (hb:S b=some l) (hl:(l.length:Int)≤100000000):Calls Tryz.prog 122 #[.pointer (some ⟨b,0,none⟩),.string x] X fun e Y=>e = .returned (.bool (has Z01 l x))∧NM D Y (upd S b (some (drop Z01 l x)))∧Fr (fun k=>¬D k) X Y:=by
 obtain ⟨σ,h,ho⟩:=h;refine (Zfw b _ _ _ l x X (h.at_ b l hb) (h.srt b l hb) hl).mono ?_;rintro e w' ⟨he,sn',A',c',h1,hF,hM⟩;exact ⟨he,⟨_,h.moved (by decide) hb h1 ((h.srt b l hb).drop x) hF hM,fun q hq=>(ho q hq).moved (st:=⟨sn',A',c'⟩) hb hM (h.low q hq)⟩,h.mod hb hF⟩
end
theorem Z8q {l:List Z0p}{v:ByteArray}:has Z01 l v=true↔v∈l:=by
 rw [Z6n];exact ⟨fun ⟨y,h1,h2⟩=>Z5e.1 h2 ▸ h1,fun h=>⟨v,h,Z5e.2 rfl⟩⟩
theorem Zb6 {l:List Z0p}{v x:ByteArray}:v∈put Z01 l x↔v∈l∨v=x:=by
 cases h:has Z01 l x
 · unfold put
   rw [h,if_neg (by simp),Zoz,Zo5,Z4m,Z4l];have hn :∀y∈l,Z01 y x≠0:=Z4k.1 h;constructor
   · rintro (h1|h1|h1)
     · exact .inl h1.1
     · exact .inr h1
     · exact .inl h1.1
   · rintro (h1|h1)
     · have:=hn v h1
       rcases (by omega:Z01 v x<0∨0<Z01 v x) with h2|h2
       · exact .inl ⟨h1,h2⟩
       · exact .inr (.inr ⟨h1,h2⟩)
     · exact .inr (.inl h1)
 · rw [Z4z h]
   exact ⟨.inl,fun h2=>h2.elim id (fun e=>by rw [e];exact Z8q.1 h)⟩
theorem Zi2 {l:List Z0p}{v x:ByteArray}:v∈drop Z01 l x↔v∈l∧v≠x:=by
 rw [Zke];exact ⟨fun h=>⟨h.1,fun e=>h.2 (Z5e.2 e)⟩,fun h=>⟨h.1,fun e=>h.2 (Z5e.1 e)⟩⟩
def goB:List Z0p→List Z13→List Z13
 | _,[]=>[]
 | S,b :: l=>if has Z01 S b.var=true then b :: goB (drop Z01 S b.var) l else goB S l
theorem Zay (P:ByteArray→Bool):∀(l:List Z13) (S:List Z0p) (seen:List ByteArray),(∀v,v∈S↔P v=true∧v ∉ seen)→goB S l=Z54 P seen l
 | [],_,_,_=>rfl
 | b :: l,S,seen,h=>by
   rw [goB,Z54];by_cases hb:b.var∈S
   · rw [if_pos (Z8q.2 hb),if_pos ((h _).1 hb)]
     congr 1;refine Zay P l _ _ (fun v=>?_);rw [Zi2,h v,Zo5];exact ⟨fun ⟨⟨h1,h2⟩,h3⟩=>⟨h1,fun h4=>h4.elim h3 h2⟩,fun ⟨h1,h2⟩=>⟨⟨h1,fun h3=>h2 (.inr h3)⟩,fun h3=>h2 (.inl h3)⟩⟩
   · rw [if_neg (fun h2=>hb (Z8q.1 h2)),if_neg (fun h2=>hb ((h _).2 h2))]
     exact Zay P l _ _ h
def inL (L:List Z0p) (q:List ByteArray):List Z0p:=puts Z01 [] (q.filter (fun v=>has Z01 L v))
theorem Zlx {L:List Z0p}{q:List ByteArray}{v:ByteArray}(h:has Z01 L v=true):inL L (q ++ [v])=put Z01 (inL L q) v:=by
 unfold inL;rw [List.filter_append,List.filter_cons,if_pos h,List.filter_nil,Z36]
theorem Zn5 {L:List Z0p}{q:List ByteArray}{v:ByteArray}(h:has Z01 L v=false):inL L (q ++ [v])=inL L q:=by
 unfold inL;rw [List.filter_append,List.filter_cons,if_neg (by rw [h];simp),List.filter_nil,Zof]
theorem Zhm (L:List Z0p) (q:List ByteArray):(inL L q).length≤q.length:=by
 unfold inL;have h1:=Z1d Z2g (q.filter (fun v=>has Z01 L v)) (Srt.nil (cmp:=Z01));have h2:=List.length_filter_le (fun v=>has Z01 L v) q;rw [Zon] at h1;omega
theorem Zcd :∀(xs:List ByteArray) (l:List Z0p) (v:ByteArray),v∈puts Z01 l xs↔v∈l∨v∈xs
 | [],l,v=>by simp [puts]
 | x :: xs,l,v=>by
   rw [show puts Z01 l (x :: xs)=puts Z01 (put Z01 l x) xs from rfl,Zcd xs,Zb6,Zo5,or_assoc]
theorem Zm5 {L:List Z0p}{q:List ByteArray}{v:ByteArray}:v∈inL L q↔v∈q∧v∈L:=by
 unfold inL;rw [Zcd,List.mem_filter,Z8q];simp
end
section
open Go.RowKit
inductive Z3c {α β:Type}(R:α→β→Prop):List α→List β→Prop
 | nil:Z3c R [] []
 | cons {a:α}{b:β}{l:List α}{m:List β}:R a b→Z3c R l m→Z3c R (a :: l) (b :: m)
section
variable {α β:Type}{R R':α→β→Prop}
theorem Z3c.length :∀{l:List α}{m:List β},Z3c R l m→l.length=m.length
 | _,_,.nil=>rfl
 | _,_,.cons _ h=>by simp [h.length]
theorem Z3c.imp (hr :∀a b,R a b→R' a b):∀{l:List α}{m:List β},Z3c R l m→Z3c R' l m
 | _,_,.nil=>.nil
 | _,_,.cons h t=>.cons (hr _ _ h) (t.imp hr)
theorem Z3c.append :∀{l l':List α}{m m':List β},Z3c R l m→Z3c R l' m'→Z3c R (l++l') (m++m')
 | _,_,_,_,.nil,h=>h
 | _,_,_,_,.cons h t,k=>.cons h (t.append k)
theorem Z3c.get :∀{l:List α}{m:List β},Z3c R l m→∀k,(h:k<l.length)→∃h':k<m.length,R l[k] m[k]
 | _,_,.nil,_,h=>absurd h (by simp)
 | _,_,.cons h _,0,_=>⟨by simp,h⟩
 | _,_,.cons _ t,k+1,h=>by
   obtain ⟨h1,h2⟩:=t.get k (by simpa using h);exact ⟨by simpa using h1,by simpa using h2⟩
end
theorem Z95 {size:Nat} :∀(css:List (List Value)),(∀cs∈css,cs.length=size)→∀k,(h:k<css.length)→∀j,j<size→css.flatten[k*size+j]? = css[k][j]?
 | [],_,_,h,_,_=>absurd h (by simp)
 | c :: css,hs,0,_,j,hj=>by
   rw [List.flatten_cons,Zoi (by rw [hs c (by simp)];omega)];simp
 | c :: css,hs,k+1,h,j,hj=>by
   have hc:=hs c (by simp);rw [List.flatten_cons,Zoh (by rw [hc,Nat.add_mul];omega),hc];rw [show (k+1)*size+j - size=k*size+j by rw [Nat.add_mul];omega];exact Z95 css (fun cs h=>hs cs (by simp [h])) k (by simpa using h) j hj
theorem Zcz {α:Type}(n:Nat):∀l:List α,(l.map fun _=>n).sum=l.length*n
 | []=>by simp
 | _ :: l=>by simp only [List.map_cons,List.sum_cons,Zo4,Zcz n l,Nat.add_mul];omega
section
variable {α:Type}{r:RepT α}{e:TypeId}{base:Nat}{w w':World}{v:Value}{l:List α}
end
section
variable {P:Program}(w:World)
theorem Z9j (t ty e:TypeId) (i:TypeInfo) (z:Value) (size bytes:Nat) (ht:P.underlying t=some (.slice e)) (hi:P.info? e=some i) (hz:i.zero=some z)
 (hsize:i.size=size) (hby:i.bytes=bytes) (hzs:z.cells.size=size) (hsz:0<size)
 (base:Nat) (hbase:base≤w.heap.size) (v:Value) (n:Nat) (xs:List Value) (hown:w.ownsRow base e size v n xs) (A:Option Addr) (m c:Nat) (news:List Value) (hl:news.length=m*size)
 (hnews:0<m→∃ad,A=some ad∧∀j u,news[j]? = some u→w.cell? (ad.add j)=some u) (h1 :∀u∈news,u.oneCell'=true)
 (h63:n+m≤maxLen) (hbytes:(n+m)*bytes≤140737488355328) :
 ∃v' w',(Builtin.append_ #[t,t] ty #[v,.slice A m c]).run P w = .ok v' w'∧w'.ownsRow base e size v' (n+m) (xs++news)∧w.grownBy w' v.ownBlock∧
  (v' = .slice none 0 0↔v = .slice none 0 0∧m=0)∧(v'.ownBlock=v.ownBlock∨v'.ownBlock=some w.heap.size):=by
 rcases Nat.eq_zero_or_pos m with rfl|hm
 · have hn:news = []:=List.eq_nil_of_length_eq_zero (by simpa using hl)
   subst hn;rcases A with _|ad
   · refine ⟨v,w,?_,by simpa using hown,World.grownBy.refl w _,by simp,.inl rfl⟩
     rcases hown.2 with ⟨rfl,rfl⟩|⟨g,cap,cur,rfl,_,_,hnc,_⟩
     · simp [Builtin.append_,run_underlying ht,sizeOf,typeInfo,hi,Builtin.lenOf,Builtin.firstCells]
     · simp [Builtin.append_,run_underlying ht,sizeOf,typeInfo,hi,Builtin.lenOf,Builtin.firstCells,hnc,storeCells]
   · exact run_append_own_at w base t ty e i z size bytes ht hi hz hsize hby hzs hsz v n xs hown ad 0 c [] (by simp) (by simp) (by simp) h63 hbytes hbase
 · obtain ⟨ad,rfl,hc⟩:=hnews hm
   exact run_append_own_at w base t ty e i z size bytes ht hi hz hsize hby hzs hsz v n xs hown ad m c news hl hc h1 h63 hbytes hbase
theorem Z6g {o:Oper}{a:Act}{K:Act→World→Prop}{Q:Exit→Act→World→Prop}(s x:Operand) (t:TypeId)
 (ho:o.op = .call { callee:=.builtin .append,args:=#[s,x],argTypes:=#[t,t] })
 (e:TypeId) (i:TypeInfo) (z:Value) (size bytes:Nat) (ht:P.underlying t=some (.slice e)) (hi:P.info? e=some i) (hz:i.zero=some z)
 (hsize:i.size=size) (hby:i.bytes=bytes) (hzs:z.cells.size=size) (hsz:0<size)
 (base:Nat) (hbase:base≤w.heap.size) (v:Value) (n:Nat) (xs:List Value) (hs:a.eval s=v) (hown:w.ownsRow base e size v n xs)
 (A:Option Addr) (m c:Nat) (news:List Value) (hx:a.eval x = .slice A m c) (hl:news.length=m*size)
 (hnews:0<m→∃ad,A=some ad∧∀j u,news[j]? = some u→w.cell? (ad.add j)=some u) (h1 :∀u∈news,u.oneCell'=true)
 (h63:n+m≤maxLen) (hbytes:(n+m)*bytes≤140737488355328)
 (h :∀v' w',w'.ownsRow base e size v' (n+m) (xs++news)→w.grownBy w' v.ownBlock→(v' = .slice none 0 0↔v = .slice none 0 0∧m=0)→(v'.ownBlock=v.ownBlock∨v'.ownBlock=some w.heap.size)→K (a.put o.dst v') w') :
 Oper.wp P o a w K Q:=by
 obtain ⟨v',w',hr,h2,h3,h4,h5⟩:=Z9j (P:=P) w t o.type e i z size bytes ht hi hz hsize hby hzs hsz base hbase v n xs hown A m c news hl hnews h1 h63 hbytes;unfold Oper.wp execOp;simp only [ho,resolve,invoke,builtin,Sem.run_bind,Sem.run_pure,Result.andThen_ok,List.map_toArray,List.map_cons,List.map_nil,hs,hx,hr];exact h v' w' h2 h3 h4 h5
theorem Z8k {ops:Array Oper}{o:Oper}{a:Act}{K:Act→World→Prop}{Q:Exit→Act→World→Prop}{E:Prop}(hgd:o.guard=none) (s x:Operand) (t:TypeId)
 (ho:o.op = .call { callee:=.builtin .append,args:=#[s,x],argTypes:=#[t,t] })
 (e:TypeId) (i:TypeInfo) (z:Value) (size bytes:Nat) (ht:P.underlying t=some (.slice e)) (hi:P.info? e=some i) (hz:i.zero=some z)
 (hsize:i.size=size) (hby:i.bytes=bytes) (hzs:z.cells.size=size) (hsz:0<size)
 (base:Nat) (hbase:base≤w.heap.size) (v:Value) (n:Nat) (xs:List Value) (hs:a.eval s=v) (hown:w.ownsRow base e size v n xs)
 (A:Option Addr) (m c:Nat) (news:List Value) (hx:a.eval x = .slice A m c) (hl:news.length=m*size)
 (hnews:0<m→∃ad,A=some ad∧∀j u,news[j]? = some u→w.cell? (ad.add j)=some u) (h1 :∀u∈news,u.oneCell'=true)
 (h63:n+m≤maxLen) (hbytes:(n+m)*bytes≤140737488355328)
 (h :∀v' w',w'.ownsRow base e size v' (n+m) (xs++news)→w.grownBy w' v.ownBlock→(v' = .slice none 0 0↔v = .slice none 0 0∧m=0)→(v'.ownBlock=v.ownBlock∨v'.ownBlock=some w.heap.size)→K (a.put o.dst v') w') :
 if Region.wanted o (yielded ops a.tmps)=true then Oper.wp P o a w K Q else E:=by
 rw [if_pos (by simp [Region.wanted,hgd])];exact Z6g w s x t ho e i z size bytes ht hi hz hsize hby hzs hsz base hbase v n xs hs hown A m c news hx hl hnews h1 h63 hbytes h
theorem Z7g {ops:Array Oper}{rest:List Oper}{o:Oper}{a:Act}{Q:Exit→Act→World→Prop}(hgd:o.guard=none) (s x:Operand) (t:TypeId)
 (ho:o.op = .call { callee:=.builtin .append,args:=#[s,x],argTypes:=#[t,t] })
 (e:TypeId) (i:TypeInfo) (z:Value) (size bytes:Nat) (ht:P.underlying t=some (.slice e)) (hi:P.info? e=some i) (hz:i.zero=some z)
 (hsize:i.size=size) (hby:i.bytes=bytes) (hzs:z.cells.size=size) (hsz:0<size)
 (base:Nat) (hbase:base≤w.heap.size) (v:Value) (n:Nat) (xs:List Value) (hs:a.eval s=v) (hown:w.ownsRow base e size v n xs)
 (A:Option Addr) (m c:Nat) (news:List Value) (hx:a.eval x = .slice A m c) (hl:news.length=m*size)
 (hnews:0<m→∃ad,A=some ad∧∀j u,news[j]? = some u→w.cell? (ad.add j)=some u) (h1 :∀u∈news,u.oneCell'=true)
 (h63:n+m≤maxLen) (hbytes:(n+m)*bytes≤140737488355328)
 (h :∀v' w',w'.ownsRow base e size v' (n+m) (xs++news)→w.grownBy w' v.ownBlock→(v' = .slice none 0 0↔v = .slice none 0 0∧m=0)→(v'.ownBlock=v.ownBlock∨v'.ownBlock=some w.heap.size)→wpList P ops Q rest (a.put o.dst v') w') :
 wpList P ops Q (o :: rest) a w:=
 wpList_plain hgd fun _ hK=>Z6g w s x t ho e i z size bytes ht hi hz hsize hby hzs hsz base hbase v n xs hs hown A m c news hx hl hnews h1 h63 hbytes (fun v' w' a b c d=>hK _ _ (h v' w' a b c d))
end
section
variable {P:Program}{α:Type}{r:RepT α}(w:World)
end
end
section
open Go.RowKit
def NewD (B:Nat) (w:World):Nat→Prop:=fun k=>B≤k∧k<w.heap.size
def OwnC {α:Type}(r:RepT α) (e:TypeId) (C:Nat→Prop) (w:World) (v:Value) (l:List α):Prop:=
 ∃css,w.ownsRow 0 e r.size v l.length css.flatten∧Z3c (fun a cs=>r.rep C w a cs) l css∧∀k,v.ownBlock=some k→¬C k
theorem Z77 {w:World}{e:TypeId}{size n:Nat}{v:Value}{xs:List Value}(h:w.ownsRow 0 e size v n xs):∀k,v.ownBlock=some k→k<w.heap.size:=by
 intro k hk;rcases h.2 with ⟨rfl,_⟩|⟨g,cap,cur,rfl,_,hg,_⟩
 · cases hk
 · simp only [Value.ownBlock,Option.some.injEq] at hk
   subst hk;exact Blk.lt (t:=e) hg
section
variable {α:Type}{r:RepT α}{e:TypeId}{C C':Nat→Prop}{w w':World}{v:Value}{l:List α}
theorem OwnC.nil (r:RepT α) (e:TypeId) (C:Nat→Prop) (w:World):OwnC r e C w (.slice none 0 0) []:=⟨[],⟨by simp,.inl ⟨rfl,rfl⟩⟩,.nil,fun _ h=>by cases h⟩
theorem OwnC.form (h:OwnC r e C w v l):∃A c,v = .slice A l.length c∧l.length≤c∧c≤maxLen∧AIn A (fun j=>j<w.heap.size∧¬C j):=by
 obtain ⟨css,hown,_,hC⟩:=h;have hlt:=Z77 hown;obtain ⟨A,c,rfl,h1,h2,_⟩:=Z0v hown;exact ⟨A,c,rfl,h1,h2,fun a ha=>by subst ha;exact ⟨hlt _ rfl,hC _ rfl⟩⟩
theorem OwnC.lt (h:OwnC r e C w v l):∀k,v.ownBlock=some k→k<w.heap.size:=by
 obtain ⟨css,hown,_⟩:=h;exact Z77 hown
theorem OwnC.off (h:OwnC r e C w v l):∀k,v.ownBlock=some k→¬C k:=by
 obtain ⟨_,_,_,h⟩:=h;exact h
theorem OwnC.keep (h:OwnC r e C w v l) (hs:w.heap.size≤w'.heap.size) (hk :∀k,C k→k<w.heap.size→C' k∧w'.heap[k]? = w.heap[k]?) (hv :∀k,v.ownBlock=some k→w'.heap[k]? = w.heap[k]?∧¬C' k):OwnC r e C' w' v l:=by
 obtain ⟨css,hown,he,hC⟩:=h;refine ⟨css,⟨hown.1,hown.2.imp id fun ⟨g,cap,cur,hv',h0,hg,hr⟩=>⟨g,cap,cur,hv',h0,(hv g (by rw [hv'];rfl)).1.trans hg,hr⟩⟩,he.imp fun a cs hr=>r.keep hs hk hr,fun k hk=>(hv k hk).2⟩
theorem OwnC.plus (h:OwnC r e C w v l) (hb:Below w.heap.size w w'):OwnC r e (Plus C w w') w' v l:=
 h.keep hb.size (fun k hk hl=>⟨.inl hk,hb.block k hl⟩) (fun k hk=>⟨hb.block k (h.lt k hk),fun hp=>hp.elim (h.off k hk) (fun hp=>by have:=h.lt k hk;omega)⟩)
theorem OwnC.fr {M:Nat→Prop}(h:OwnC r e C w v l) (hF:Fr M w w') (hC :∀k,C k→¬M k) (hv :∀k,v.ownBlock=some k→¬M k):OwnC r e C w' v l:=
 h.keep hF.size (fun k hk hl=>⟨hk,hF.block k hl (hC k hk)⟩) (fun k hk=>⟨hF.block k (h.lt k hk) (hv k hk),h.off k hk⟩)
theorem OwnC.row {A:Option Addr}{n c:Nat}(h:OwnC r e C w (.slice A n c) l) (hC :∀k,C k→C' k) (hA:AIn A C'):RowR r C' w A c l:=by
 obtain ⟨A',c',hv,h1,h2,_⟩:=h.form;injection hv with hA' hn hc;subst hA';subst hc;obtain ⟨css,hown,he,_⟩:=h;refine ⟨h1,h2,fun h0=>?_⟩
 have hsz :∀cs∈css,cs.length=r.size:=fun cs hcs=>by
  obtain ⟨k,hk,rfl⟩:=List.getElem_of_mem hcs;obtain ⟨_,h3⟩:=he.get k (by rw [he.length];exact hk);exact r.len h3
 rcases hown.2 with ⟨hv,hn0⟩|⟨g,cap,cur,hv,_,hg,hn2,hc2,hs2,ht⟩
 · omega
 · injection hv with hA' _ hc
   subst hA';have hgl:g<w.heap.size:=Blk.lt (t:=e) hg;refine ⟨g,0,rfl,hA _ rfl,hgl,fun k hk=>?_⟩;obtain ⟨hk2,hrep⟩:=he.get k hk;refine ⟨css[k],r.keep (Znl _) (fun j hj _=>⟨hC j hj,rfl⟩) hrep,fun j u hu=>?_⟩;(have hj:j<r.size:=by rw [←r.len hrep];exact (Zom.1 hu).1);have hf:=Z95 css hsz k hk2 j hj;rw [hu,←ht] at hf;rw [Zoa,Blk.cell (t:=e) hg]
   have hlt:k*r.size+j<l.length*r.size:=by
    have:(k+1)*r.size≤l.length*r.size:=Nat.mul_le_mul_right _ hk;rw [Nat.add_mul] at this;omega
   rw [List.getElem?_take_of_lt hlt] at hf;rw [←hf];simp
theorem OwnC.grown {v':Value}{l2:List α}{css css2:List (List Value)}(he:Z3c (fun a cs=>r.rep C w a cs) l css) (hC :∀k,v.ownBlock=some k→¬C k) (hCl :∀k,C k→k<w.heap.size)
 (hown:w'.ownsRow 0 e r.size v' (l++l2).length (css.flatten++css2.flatten)) (hg:w.grownBy w' v.ownBlock)
 (hv:v'.ownBlock=v.ownBlock∨v'.ownBlock=some w.heap.size) (he2:Z3c (fun a cs=>r.rep C w a cs) l2 css2):OwnC r e C w' v' (l++l2):=by
 have up :∀a cs,r.rep C w a cs→r.rep C w' a cs:=fun a cs hr=>r.keep hg.size (fun k hd hl=>⟨hd,hg.block k hl (fun hk=>hC k hk.symm hd)⟩) hr;refine ⟨css++css2,by rw [List.flatten_append];exact hown,(he.imp up).append (he2.imp up),fun k hk=>?_⟩;rcases hv with hv|hv
 · exact hC k (hv ▸ hk)
 · rw [hv] at hk;injection hk with hk;intro h;have:=hCl k h;omega
theorem Zhd {l2:List α}{css2:List (List Value)}{D:Nat→Prop}{m:Nat}(hm:m=l2.length) (he2:Z3c (fun a cs=>r.rep D w a cs) l2 css2):css2.flatten.length=m*r.size:=by
 have hall :∀cs∈css2,cs.length=r.size:=fun cs hcs=>by
  obtain ⟨k,hk,rfl⟩:=List.getElem_of_mem hcs;obtain ⟨_,h3⟩:=he2.get k (by rw [he2.length];exact hk);exact r.len h3
 rw [hm,he2.length,List.length_flatten,List.map_congr_left hall];exact Zcz _ _
theorem Zjo (cs:List Value): [cs].flatten=cs:=by simp
end
def Z6u {α:Type}(r:RepT α) (e:TypeId) (C:Nat→Prop) (w:World) (v:Value) (l:List α) (v':Value) (w':World):Prop:=
 OwnC r e C w' v' l∧w.grownBy w' v.ownBlock∧(v'.ownBlock=v.ownBlock∨v'.ownBlock=some w.heap.size)
section
variable {P:Program}{α:Type}{r:RepT α}(w:World)
theorem Z2v {ops:Array Oper}{rest:List Oper}{o:Oper}{a:Act}{Q:Exit→Act→World→Prop}(hgd:o.guard=none) (s x:Operand) (t:TypeId)
 (ho:o.op = .call { callee:=.builtin .append,args:=#[s,x],argTypes:=#[t,t] })
 (e:TypeId) (i:TypeInfo) (z:Value) (size bytes:Nat) (ht:P.underlying t=some (.slice e)) (hi:P.info? e=some i) (hz:i.zero=some z)
 (hsize:i.size=size) (hby:i.bytes=bytes) (hzs:z.cells.size=size) (hrs:r.size=size) (hsz:0<size)
 (C:Nat→Prop) (hCl :∀k,C k→k<w.heap.size) (v:Value) (l:List α) (hs:a.eval s=v) (hown:OwnC r e C w v l)
 (ad:Addr) (c:Nat) (y:α) (cs:List Value) (hx:a.eval x = .slice (some ad) 1 c)
 (hnews :∀j u,cs[j]? = some u→w.cell? (ad.add j)=some u) (h1 :∀u∈cs,u.oneCell'=true)
 (he2:r.rep C w y cs)
 (h63:l.length+1≤maxLen) (hbytes:(l.length+1)*bytes≤140737488355328)
 (h :∀v' w',Z6u r e C w v (l ++ [y]) v' w'→wpList P ops Q rest (a.put o.dst v') w') :
 wpList P ops Q (o :: rest) a w:=by
 obtain ⟨css,h2,h3,h4⟩:=hown;subst hrs;have he3:Z3c (fun a cs=>r.rep C w a cs) [y] [cs]:=.cons he2 .nil;refine Z7g w hgd s x t ho e i z r.size bytes ht hi hz hsize hby hzs hsz 0 (Nat.zero_le _) v l.length _ hs h2 (some ad) 1 c [cs].flatten hx (Zhd (l2:=[y]) rfl he3) (fun _=>⟨ad,rfl,by rw [Zjo];exact hnews⟩) (by rw [Zjo];exact h1) h63 hbytes (fun v' w' g1 g2 g3 g4=>h v' w' ⟨?_,g2,g4⟩);exact OwnC.grown h3 h4 hCl (by rw [Znp];exact g1) g2 g4 he3
theorem Zbl {ops:Array Oper}{o:Oper}{a:Act}{K:Act→World→Prop}{Q:Exit→Act→World→Prop}{E:Prop}(hgd:o.guard=none) (s x:Operand) (t:TypeId)
 (ho:o.op = .call { callee:=.builtin .append,args:=#[s,x],argTypes:=#[t,t] })
 (e:TypeId) (i:TypeInfo) (z:Value) (size bytes:Nat) (ht:P.underlying t=some (.slice e)) (hi:P.info? e=some i) (hz:i.zero=some z)
 (hsize:i.size=size) (hby:i.bytes=bytes) (hzs:z.cells.size=size) (hrs:r.size=size) (hsz:0<size)
 (C:Nat→Prop) (hCl :∀k,C k→k<w.heap.size) (v:Value) (l:List α) (hs:a.eval s=v) (hown:OwnC r e C w v l)
 (ad:Addr) (c:Nat) (y:α) (cs:List Value) (hx:a.eval x = .slice (some ad) 1 c)
 (hnews :∀j u,cs[j]? = some u→w.cell? (ad.add j)=some u) (h1 :∀u∈cs,u.oneCell'=true)
 (he2:r.rep C w y cs)
 (h63:l.length+1≤maxLen) (hbytes:(l.length+1)*bytes≤140737488355328)
 (h :∀v' w',Z6u r e C w v (l ++ [y]) v' w'→K (a.put o.dst v') w') :
 if Region.wanted o (yielded ops a.tmps)=true then Oper.wp P o a w K Q else E:=by
 obtain ⟨css,h2,h3,h4⟩:=hown;subst hrs;have he3:Z3c (fun a cs=>r.rep C w a cs) [y] [cs]:=.cons he2 .nil;refine Z8k w hgd s x t ho e i z r.size bytes ht hi hz hsize hby hzs hsz 0 (Nat.zero_le _) v l.length _ hs h2 (some ad) 1 c [cs].flatten hx (Zhd (l2:=[y]) rfl he3) (fun _=>⟨ad,rfl,by rw [Zjo];exact hnews⟩) (by rw [Zjo];exact h1) h63 hbytes (fun v' w' g1 g2 g3 g4=>h v' w' ⟨?_,g2,g4⟩);exact OwnC.grown h3 h4 hCl (by rw [Znp];exact g1) g2 g4 he3
end
end
section
open Go.RowKit
def Int.cells1 (n:Int):List Value:=[.int .i64 n]
theorem Int.cells1_length (n:Int):(Int.cells1 n).length=1:=rfl
theorem Z7s:(Tryz.prog.info? 38).map (fun i=>(i.zero,i.size,i.bytes))=some (some (.agg #[.int .i64 0,.string ⟨#[]⟩,.int .i64 0]),3,32):=by kernel_rfl
theorem Zid (l:List Sym):∀u∈l.flatMap Sym.cells,u.oneCell'=true:=by
 intro u hu;obtain ⟨b,_,hb⟩:=List.mem_flatMap.1 hu;simp only [Sym.cells,Zo5,Zo9,or_false] at hb;rcases hb with rfl|rfl|rfl<;>rfl
theorem Z8r:(Tryz.prog.info? 40).map (fun i=>(i.zero,i.size,i.bytes))=some (some (.agg #[.string ⟨#[]⟩,.int .i64 0,.string ⟨#[]⟩,.int .i64 0]),4,48):=by kernel_rfl
theorem Zko (l:List Z13):∀u∈l.flatMap Z13.cells,u.oneCell'=true:=by
 intro u hu;obtain ⟨b,_,hb⟩:=List.mem_flatMap.1 hu;simp only [Z13.cells,Zo5,Zo9,or_false] at hb;rcases hb with rfl|rfl|rfl|rfl<;>rfl
theorem Z5z:(Tryz.prog.info? 64).map (fun i=>(i.zero,i.size,i.bytes))=some (some (.agg #[.int .i64 0,.string ⟨#[]⟩,.int .i64 0,.int .i64 0,.string ⟨#[]⟩,.int .i64 0,.int .i64 0,.string ⟨#[]⟩,.int .i64 0,.bool false,.bool false,.int .i64 0,.int .i64 0,.int .i64 0]),14,128):=by kernel_rfl
theorem Zcl (l:List Z07):∀u∈l.flatMap Z07.cells,u.oneCell'=true:=by
 intro u hu;obtain ⟨b,_,hb⟩:=List.mem_flatMap.1 hu;simp only [Z07.cells,Zo5,Zo9,or_false] at hb;rcases hb with rfl|rfl|rfl|rfl|rfl|rfl|rfl|rfl|rfl|rfl|rfl|rfl|rfl|rfl<;>rfl
theorem Z55:(Tryz.prog.info? 195).map (fun i=>(i.zero,i.size,i.bytes))=some (some (.agg #[.int .i64 0,.string ⟨#[]⟩,.int .i64 0,.int .i64 0,.string ⟨#[]⟩,.int .i64 0,.int .i64 0]),7,72):=by kernel_rfl
theorem Zcj (l:List Z09):∀u∈l.flatMap Z09.cells,u.oneCell'=true:=by
 intro u hu;obtain ⟨b,_,hb⟩:=List.mem_flatMap.1 hu;simp only [Z09.cells,Zo5,Zo9,or_false] at hb;rcases hb with rfl|rfl|rfl|rfl|rfl|rfl|rfl<;>rfl
theorem Zly:(Tryz.prog.info? 96).map (fun i=>(i.zero,i.size,i.bytes))=some (some (.agg #[.string ⟨#[]⟩,.string ⟨#[]⟩,.int .i64 0,.string ⟨#[]⟩,.int .i64 0,.int .i64 0,.string ⟨#[]⟩,.int .i64 0,.string ⟨#[]⟩,.int .i64 0,.string ⟨#[]⟩,.int .i64 0,.string ⟨#[]⟩,.int .i64 0,.int .i64 0,.string ⟨#[]⟩,.int .i64 0,.string ⟨#[]⟩,.int .i64 0]),19,224):=by kernel_rfl
theorem Zmb (l:List ActT):∀u∈l.flatMap ActT.cells,u.oneCell'=true:=by
 intro u hu;obtain ⟨b,_,hb⟩:=List.mem_flatMap.1 hu;simp only [ActT.cells,Zo5,Zo9,or_false] at hb;rcases hb with rfl|rfl|rfl|rfl|rfl|rfl|rfl|rfl|rfl|rfl|rfl|rfl|rfl|rfl|rfl|rfl|rfl|rfl|rfl<;>rfl
theorem Zlz:(Tryz.prog.info? 3).map (fun i=>(i.zero,i.size,i.bytes))=some (some (.int .i64 0),1,8):=by kernel_rfl
theorem Zmc (l:List Int):∀u∈l.flatMap Int.cells1,u.oneCell'=true:=by
 intro u hu;obtain ⟨b,_,hb⟩:=List.mem_flatMap.1 hu;simp only [Int.cells1,Zo5,Zo9,or_false] at hb;subst hb;rfl
theorem Zb2:(Tryz.prog.info? 138).map (fun i=>(i.zero,i.size,i.bytes))=some (some (.agg #[.int .i64 0,.string ⟨#[]⟩,.int .i64 0,.string ⟨#[]⟩,.int .i64 0,.slice none 0 0]),6,80):=by kernel_rfl
theorem Zb1:(Tryz.prog.info? 59).map (fun i=>(i.zero,i.size,i.bytes))=some (some (.agg #[.int .i64 0,.bool false,.string ⟨#[]⟩,.slice none 0 0,.slice none 0 0,.bool false,.slice none 0 0]),7,112):=by kernel_rfl
theorem Z8s:(Tryz.prog.info? 78).map (fun i=>(i.zero,i.size,i.bytes))=some (some (.agg #[.int .i64 0,.bool false,.string ⟨#[]⟩,.slice none 0 0,.slice none 0 0,.bool false,.slice none 0 0,.slice none 0 0]),8,136):=by kernel_rfl
theorem infp {P:Program}{t:TypeId}{z:Value}{s b:Nat}(h:(P.info? t).map (fun i=>(i.zero,i.size,i.bytes))=some (some z,s,b)):∃i,P.info? t=some i∧i.zero=some z∧i.size=s∧i.bytes=b:=by
 cases hq:P.info? t with
 | none=>rw [hq] at h;cases h
 | some i=>
   rw [hq] at h;simp only [Zo1,Option.some.injEq,Prod.mk.injEq] at h;exact ⟨i,rfl,h.1,h.2.1,h.2.2⟩
def Z4s {α:Type}(e size:Nat) (cells:α→List Value) (l:List α) (w:World) (en:Ending) (w':World):Prop:=
 ∃A c,en = .returned (.slice A l.length c)∧w'.ownsRow 0 e size (.slice A l.length c) l.length (l.flatMap cells)∧AIn A (NewD w.heap.size w')∧Below w.heap.size w w'
theorem Z4i {α:Type}{e size:Nat}{cells:α→List Value}{l:List α}{w w':World}{v v0:Value}(hown:w'.ownsRow 0 e size v l.length (l.flatMap cells)) (hat:v.ownBlock=v0.ownBlock∨v.ownBlock=some w.heap.size) (h0:v0.ownBlock=none) (hg:w.grownBy w' v0.ownBlock) :
 ∃A c,v = .slice A l.length c∧w'.ownsRow 0 e size (.slice A l.length c) l.length (l.flatMap cells)∧AIn A (NewD w.heap.size w')∧Below w.heap.size w w':=by
 have hlt:=Z77 hown;obtain ⟨A,c,rfl,_,_,_⟩:=Z0v hown;refine ⟨A,c,rfl,hown,fun a ha=>?_,(Znk w.heap.size w).grown hg (Znl _) (fun k hk=>by rw [h0] at hk;cases hk)⟩;subst ha;rcases hat with h|h
 · rw [h0] at h;cases h
 · have:=hlt a.block rfl
   simp only [Value.ownBlock,Option.some.injEq] at h;exact ⟨by omega,this⟩
theorem Z23 (W:World) (e size:Nat):W.ownsRow 0 e size (.slice none 0 0) 0 []:=⟨by simp,.inl ⟨rfl,rfl⟩⟩
theorem Z4s.row {α:Type}{e size:Nat}{cells:α→List Value}(hs :∀a,(cells a).length=size){l:List α}{A:Option Addr}{c B:Nat}{w':World}(h:w'.ownsRow 0 e size (.slice A l.length c) l.length (l.flatMap cells)) (hA:AIn A (NewD B w')):RowR (RepT.flat size cells hs) (NewD B w') w' A c l:=RowR.of_rd (Z0d hs h) hA
theorem Zhb (A:Option Addr) (c:Nat) (l:List Sym) (w:World) (hrd:Z0z w 3 Sym.cells A c l) (hl:(l.length:Int)≤100000) :
 Calls Tryz.prog 24 #[.slice A l.length c] w (Z4s 38 3 Sym.cells l w):=by
 obtain ⟨i0,hi0,hz0,hz1,hz2⟩:=infp Z7s;have HRD:=hid hrd;have hlc:=hrd.cap;have hlcc:=hrd.1;clear hrd;go_enter Tryz.func24,Tryz.ntmps24;(go_wp2_with (at_builtin;refine Z00 w rfl (.const (.slice none 0 0)) (.tmp 3) 27 rfl 38 i0 _ 3 32 Tryz.underlying27 hi0 hz0 hz1 hz2 rfl (by omega) (.slice none 0 0) 0 [] rfl (Z23 w _ _) A l.length c (l.flatMap Sym.cells) rfl (Z08 Sym.cells_length _) (HRD.out.news Sym.cells_length (by omega)) (Zid _) (by unfold maxLen;omega) (by omega) ?_;intro v1 w2 hown1 hg1 hnil1 hat1));go_ret;rw [Zoa,Zo3] at hown1;obtain ⟨A',c',rfl,h1,h2,h3⟩:=Z4i hown1 hat1 rfl hg1;exact ⟨A',c',rfl,h1,h2,h3⟩
theorem Zlu (A:Option Addr) (c:Nat) (l:List Z13) (w:World) (hrd:Z0z w 4 Z13.cells A c l) (hl:(l.length:Int)≤100000) :
 Calls Tryz.prog 11 #[.slice A l.length c] w (Z4s 40 4 Z13.cells l w):=by
 obtain ⟨i0,hi0,hz0,hz1,hz2⟩:=infp Z8r;have HRD:=hid hrd;have hlc:=hrd.cap;have hlcc:=hrd.1;clear hrd;go_enter Tryz.func11,Tryz.ntmps11;(go_wp2_with (at_builtin;refine Z00 w rfl (.const (.slice none 0 0)) (.tmp 3) 26 rfl 40 i0 _ 4 48 Tryz.underlying26 hi0 hz0 hz1 hz2 rfl (by omega) (.slice none 0 0) 0 [] rfl (Z23 w _ _) A l.length c (l.flatMap Z13.cells) rfl (Z08 Z13.cells_length _) (HRD.out.news Z13.cells_length (by omega)) (Zko _) (by unfold maxLen;omega) (by omega) ?_;intro v1 w2 hown1 hg1 hnil1 hat1));go_ret;rw [Zoa,Zo3] at hown1;obtain ⟨A',c',rfl,h1,h2,h3⟩:=Z4i hown1 hat1 rfl hg1;exact ⟨A',c',rfl,h1,h2,h3⟩
theorem Z8n (A:Option Addr) (c:Nat) (l:List Z07) (w:World) (hrd:Z0z w 14 Z07.cells A c l) (hl:(l.length:Int)≤100000) :
 Calls Tryz.prog 20 #[.slice A l.length c] w (Z4s 64 14 Z07.cells l w):=by
 obtain ⟨i0,hi0,hz0,hz1,hz2⟩:=infp Z5z;have HRD:=hid hrd;have hlc:=hrd.cap;have hlcc:=hrd.1;clear hrd;go_enter Tryz.func20,Tryz.ntmps20;(go_wp2_with (at_builtin;refine Z00 w rfl (.const (.slice none 0 0)) (.tmp 3) 56 rfl 64 i0 _ 14 128 Tryz.underlying56 hi0 hz0 hz1 hz2 rfl (by omega) (.slice none 0 0) 0 [] rfl (Z23 w _ _) A l.length c (l.flatMap Z07.cells) rfl (Z08 Z07.cells_length _) (HRD.out.news Z07.cells_length (by omega)) (Zcl _) (by unfold maxLen;omega) (by omega) ?_;intro v1 w2 hown1 hg1 hnil1 hat1));go_ret;rw [Zoa,Zo3] at hown1;obtain ⟨A',c',rfl,h1,h2,h3⟩:=Z4i hown1 hat1 rfl hg1;exact ⟨A',c',rfl,h1,h2,h3⟩
theorem Zjl (A:Option Addr) (c:Nat) (l:List Z09) (w:World) (hrd:Z0z w 7 Z09.cells A c l) (hl:(l.length:Int)≤100000) :
 Calls Tryz.prog 163 #[.slice A l.length c] w (Z4s 195 7 Z09.cells l w):=by
 obtain ⟨i0,hi0,hz0,hz1,hz2⟩:=infp Z55;have HRD:=hid hrd;have hlc:=hrd.cap;have hlcc:=hrd.1;clear hrd;go_enter Tryz.func163,Tryz.ntmps163;(go_wp2_with (at_builtin;refine Z00 w rfl (.const (.slice none 0 0)) (.tmp 3) 70 rfl 195 i0 _ 7 72 Tryz.underlying70 hi0 hz0 hz1 hz2 rfl (by omega) (.slice none 0 0) 0 [] rfl (Z23 w _ _) A l.length c (l.flatMap Z09.cells) rfl (Z08 Z09.cells_length _) (HRD.out.news Z09.cells_length (by omega)) (Zcj _) (by unfold maxLen;omega) (by omega) ?_;intro v1 w2 hown1 hg1 hnil1 hat1));go_ret;rw [Zoa,Zo3] at hown1;obtain ⟨A',c',rfl,h1,h2,h3⟩:=Z4i hown1 hat1 rfl hg1;exact ⟨A',c',rfl,h1,h2,h3⟩
theorem Zn3 (A:Option Addr) (c:Nat) (l:List ActT) (w:World) (hrd:Z0z w 19 ActT.cells A c l) (hl:(l.length:Int)≤100000) :
 Calls Tryz.prog 63 #[.slice A l.length c] w (Z4s 96 19 ActT.cells l w):=by
 obtain ⟨i0,hi0,hz0,hz1,hz2⟩:=infp Zly;have HRD:=hid hrd;have hlc:=hrd.cap;have hlcc:=hrd.1;clear hrd;go_enter Tryz.func63,Tryz.ntmps63;(go_wp2_with (at_builtin;refine Z00 w rfl (.const (.slice none 0 0)) (.tmp 3) 23 rfl 96 i0 _ 19 224 Tryz.underlying23 hi0 hz0 hz1 hz2 rfl (by omega) (.slice none 0 0) 0 [] rfl (Z23 w _ _) A l.length c (l.flatMap ActT.cells) rfl (Z08 ActT.cells_length _) (HRD.out.news ActT.cells_length (by omega)) (Zmb _) (by unfold maxLen;omega) (by omega) ?_;intro v1 w2 hown1 hg1 hnil1 hat1));go_ret;rw [Zoa,Zo3] at hown1;obtain ⟨A',c',rfl,h1,h2,h3⟩:=Z4i hown1 hat1 rfl hg1;exact ⟨A',c',rfl,h1,h2,h3⟩
end
section
open Go.RowKit Go.Shelf
attribute [local go_sem] Oper.semAt_some
theorem Z4j {e:TypeId}{size n m B:Nat}{w w':World}{A:Option Addr}{c:Nat}{v:Value}{xs news:List Value}(hown:w'.ownsRow 0 e size v (n+m) (xs++news)) (hg:w.grownBy w' (Value.slice A n c).ownBlock) (hat:v.ownBlock=(Value.slice A n c).ownBlock∨v.ownBlock=some w.heap.size) (hA:AIn A (B≤·)) (hB:B≤w.heap.size) :
 ∃A' c',v = .slice A' (n+m) c'∧w'.ownsRow 0 e size (.slice A' (n+m) c') (n+m) (xs++news)∧AIn A' (B≤·)∧Below B w w':=by
 obtain ⟨A',c',rfl,hF,hA',hO⟩:=Z33 (E:=fun j=>∃a,A=some a∧a.block=j) (fun a ha=>⟨a,ha,rfl⟩) hown hg hat;refine ⟨A',c',rfl,hO,fun a ha=>?_,hF.below hB (fun k hk ⟨a,ha,e⟩=>by have:B≤a.block:=hA a ha;omega)⟩;rcases hA' a ha with ⟨b,hb,e⟩|⟨h1,_⟩
 · rw [←e];exact hA b hb
 · exact Zo2 hB h1
structure OwnG {α:Type}(T size:Nat) (cells:α→List Value) (X:World) (m:List α) (A:Option Addr) (c:Nat) (w:World):Prop where
 own:w.ownsRow 0 T size (.slice A m.length c) m.length (m.flatMap cells)
 ain:AIn A (X.heap.size≤·)
 bel:Below X.heap.size X w
section
variable {α:Type}{T size:Nat}{cells:α→List Value}{X:World}{m:List α}{A:Option Addr}{c:Nat}{w w':World}
theorem OwnG.start (hb:Below X.heap.size X w):OwnG T size cells X [] none 0 w:=⟨⟨by simp,.inl ⟨rfl,rfl⟩⟩,AIn.none_ _,hb⟩
theorem OwnG.new_ (h:OwnG T size cells X m A c w) (hb:Below w.heap.size w w'):OwnG T size cells X m A c w':=⟨Z05 h.own hb,h.ain,h.bel.trans (hb.mono h.bel.size)⟩
theorem OwnG.put {y:α}{v:Value}(h:OwnG T size cells X m A c w) (hown:w'.ownsRow 0 T size v (m.length+1) (m.flatMap cells ++ [y].flatMap cells)) (hg:w.grownBy w' (Value.slice A m.length c).ownBlock) (hat:v.ownBlock=(Value.slice A m.length c).ownBlock∨v.ownBlock=some w.heap.size) :
 ∃(mn:List α) (A':Option Addr) (c':Nat),mn=m ++ [y]∧v = .slice A' mn.length c'∧OwnG T size cells X mn A' c' w':=by
 obtain ⟨A9,c9,hv,hO9,hA9,hb9⟩:=Z4j (B:=X.heap.size) hown hg hat h.ain h.bel.size;rw [←Zny] at hO9;(have hl:(m ++ [y]).length=m.length+1:=by simp);exact ⟨m ++ [y],A9,c9,rfl,by rw [hl];exact hv,by rw [hl];exact hO9,hA9,h.bel.trans hb9⟩
end
theorem Blk.setAllG {w:World}{g:Nat}{t:TypeId}{cs:Array Value}{vs:List Value}(h:Blk w g t cs) (hl:cs.size=vs.length):Blk (w.setCells g 0 vs) g t vs.toArray:=by
 have hr:=Znw w g 0 vs (by have:=h.there;rwa [hl] at this);obtain ⟨cs',h1,h2⟩:=Blk.setCells_ vs 0 h
 have e:cs'=vs.toArray:=by
  apply Array.ext
  · rw [h2];simpa using hl
  · intro i hi hj
    (have hj':i<vs.length:=by simpa using hj);have h3:=hr i vs[i] (Znq hj');rw [show (0+i)=i by omega,h1.cell i,Array.getElem?_eq_getElem hi] at h3;simpa using h3
 rw [←e];exact h1
theorem Z4p {W:World}{e size n:Nat}{A:Option Addr}{c:Nat}{xs:List Value}(h:W.ownsRow 0 e size (.slice A n c) n xs):AIn A (· < W.heap.size):=by
 intro a ha;subst ha;rcases Z0h h with ⟨hv,_⟩|⟨g,cap,hv,_,_,hr,_⟩
 · cases hv
 · injection hv with hv
   injection hv with hv;subst hv;exact hr.lt
theorem OwnG.fresh {α:Type}{T size:Nat}{cells:α→List Value}{X:World}{m:List α}{A:Option Addr}{c:Nat}{w:World}(h:OwnG T size cells X m A c w):Z4s T size cells m X (.returned (.slice A m.length c)) w:=
 ⟨A,c,rfl,h.own,fun a ha=>⟨h.ain a ha,Z4p h.own a ha⟩,h.bel⟩
end
section
open Go.RowKit Go.Shelf
theorem Zds (x:Z07) (W:World):(binOp .neq 64 (.agg #[.int .i64 x.elem.id.kind,.string x.elem.id.text,.int .i64 x.elem.id.n,.int .i64 x.elem.attr.kind,.string x.elem.attr.text,.int .i64 x.elem.attr.n,.int .i64 x.elem.value.kind,.string x.elem.value.text,.int .i64 x.elem.value.n,.bool x.elem.acc,.bool x.elem.goal,.int .i64 x.elem.tag,.int .i64 x.level,.int .i64 x.cause]) (.agg #[.int .i64 x.elem.id.kind,.string x.elem.id.text,.int .i64 x.elem.id.n,.int .i64 x.elem.attr.kind,.string x.elem.attr.text,.int .i64 x.elem.attr.n,.int .i64 x.elem.value.kind,.string x.elem.value.text,.int .i64 x.elem.value.n,.bool x.elem.acc,.bool x.elem.goal,.int .i64 x.elem.tag,.int .i64 x.level,.int .i64 x.cause])).run Tryz.prog W = .ok (.bool false) W:=by
 rw [run_neq_struct];go_simp
theorem Z6s {D D':Nat→Prop}{A B:Option Addr}{c d:Nat}(l:List Z07) (w:World) (hl:RowR Z0j D w A c l) (hm:RowR Z0j D' w B d l) :
 Calls Tryz.prog 29 #[.slice A l.length c,.slice B l.length d] w fun e w'=>e = .returned (.bool true)∧Below w.heap.size w w':=by
 have HL:=hid hl;have HM:=hid hm;have hlc:=hl.cap;clear hl hm;go_enter Tryz.func29,Tryz.ntmps29;go_wp2_with fail
 go_loopw [5] (fun s wr=>∃i:Nat,s = .int .i64 i∧i≤l.length∧Below w.heap.size w wr) (fun s wr=>l.length - (intOf s).toNat)
 case atStart=>exact ⟨0,rfl,Nat.zero_le _,Znk _ _⟩
 case round=>
  obtain ⟨i,rfl,hi,hB⟩:=hrel;have HB:=hid hB;clear hB;by_cases hlt:i<l.length
  · obtain ⟨x,hx⟩:∃x,x=l[i]:=⟨_,rfl⟩
    obtain ⟨g,off,rfl,_,hgs,q0,q1,q2,q3,q4,q5,q6,q7,q8,q9,q10,q11,q12,q13⟩:=Z3w (HL.out.new_ HB.out) hlt;obtain ⟨g2,off2,rfl,_,hgs2,p0,p1,p2,p3,p4,p5,p6,p7,p8,p9,p10,p11,p12,p13⟩:=Z3w (HM.out.new_ HB.out) hlt;rw [←hx] at q0 q1 q2 q3 q4 q5 q6 q7 q8 q9 q10 q11 q12 q13 p0 p1 p2 p3 p4 p5 p6 p7 p8 p9 p10 p11 p12 p13;(have b1:(0:Int)≤(i:Int):=by omega);(have b2:(i:Int)<(l.length:Int):=by omega);have hbe:=fun W=>Zds x W;clear hx;(go_wp2_with fail);go_quiet (fail);have HB2:=hid (Below.drewN' HB.out nq);clear q0 q1 q2 q3 q4 q5 q6 q7 q8 q9 q10 q11 q12 q13 p0 p1 p2 p3 p4 p5 p6 p7 p8 p9 p10 p11 p12 p13;(go_wp2_with fail);go_roundw
    case rel=>exact ⟨i+1,by go_num,by omega,HB2.out⟩
    case measure=>simp [intOf]<;>omega
  · obtain rfl:i=l.length:=by omega
    (go_wp2_with fail);go_ret;exact ⟨rfl,HB.out⟩
theorem Zdr (x:Z09) (W:World):(binOp .neq 195 (.agg #[.int .i64 x.a.kind,.string x.a.text,.int .i64 x.a.n,.int .i64 x.b.kind,.string x.b.text,.int .i64 x.b.n,.int .i64 x.rel]) (.agg #[.int .i64 x.a.kind,.string x.a.text,.int .i64 x.a.n,.int .i64 x.b.kind,.string x.b.text,.int .i64 x.b.n,.int .i64 x.rel])).run Tryz.prog W = .ok (.bool false) W:=by
 rw [run_neq_struct];go_simp
theorem Zd8 {D D':Nat→Prop}{A B:Option Addr}{c d:Nat}(l:List Z09) (w:World) (hl:RowR Z1o D w A c l) (hm:RowR Z1o D' w B d l) :
 Calls Tryz.prog 73 #[.slice A l.length c,.slice B l.length d] w fun e w'=>e = .returned (.bool true)∧Below w.heap.size w w':=by
 have HL:=hid hl;have HM:=hid hm;have hlc:=hl.cap;clear hl hm;go_enter Tryz.func73,Tryz.ntmps73;go_wp2_with fail
 go_loopw [5] (fun s wr=>∃i:Nat,s = .int .i64 i∧i≤l.length∧Below w.heap.size w wr) (fun s wr=>l.length - (intOf s).toNat)
 case atStart=>exact ⟨0,rfl,Nat.zero_le _,Znk _ _⟩
 case round=>
  obtain ⟨i,rfl,hi,hB⟩:=hrel;have HB:=hid hB;clear hB;by_cases hlt:i<l.length
  · obtain ⟨x,hx⟩:∃x,x=l[i]:=⟨_,rfl⟩
    obtain ⟨g,off,rfl,_,hgs,q0,q1,q2,q3,q4,q5,q6⟩:=Zbs (HL.out.new_ HB.out) hlt;obtain ⟨g2,off2,rfl,_,hgs2,p0,p1,p2,p3,p4,p5,p6⟩:=Zbs (HM.out.new_ HB.out) hlt;rw [←hx] at q0 q1 q2 q3 q4 q5 q6 p0 p1 p2 p3 p4 p5 p6;(have b1:(0:Int)≤(i:Int):=by omega);(have b2:(i:Int)<(l.length:Int):=by omega);have hbe:=fun W=>Zdr x W;clear hx;(go_wp2_with fail);go_quiet (fail);have HB2:=hid (Below.drewN' HB.out nq);clear q0 q1 q2 q3 q4 q5 q6 p0 p1 p2 p3 p4 p5 p6;(go_wp2_with fail);go_roundw
    case rel=>exact ⟨i+1,by go_num,by omega,HB2.out⟩
    case measure=>simp [intOf]<;>omega
  · obtain rfl:i=l.length:=by omega
    (go_wp2_with fail);go_ret;exact ⟨rfl,HB.out⟩
theorem Zgd (x:Z13) (W:World):(binOp .neq 40 (.agg #[.string x.var,.int .i64 x.sym.kind,.string x.sym.text,.int .i64 x.sym.n]) (.agg #[.string x.var,.int .i64 x.sym.kind,.string x.sym.text,.int .i64 x.sym.n])).run Tryz.prog W = .ok (.bool false) W:=by
 rw [run_neq_struct];go_simp
theorem Za0 {D D':Nat→Prop}{A B:Option Addr}{c d:Nat}(l:List Z13) (w:World) (hl:RowR Z1n D w A c l) (hm:RowR Z1n D' w B d l) :
 Calls Tryz.prog 15 #[.slice A l.length c,.slice B l.length d] w fun e w'=>e = .returned (.bool true)∧Below w.heap.size w w':=by
 have HL:=hid hl;have HM:=hid hm;have hlc:=hl.cap;clear hl hm;go_enter Tryz.func15,Tryz.ntmps15;go_wp2_with fail
 go_loopw [5] (fun s wr=>∃i:Nat,s = .int .i64 i∧i≤l.length∧Below w.heap.size w wr) (fun s wr=>l.length - (intOf s).toNat)
 case atStart=>exact ⟨0,rfl,Nat.zero_le _,Znk _ _⟩
 case round=>
  obtain ⟨i,rfl,hi,hB⟩:=hrel;have HB:=hid hB;clear hB;by_cases hlt:i<l.length
  · obtain ⟨x,hx⟩:∃x,x=l[i]:=⟨_,rfl⟩
    obtain ⟨g,off,rfl,_,hgs,q0,q1,q2,q3⟩:=Z5d (HL.out.new_ HB.out) hlt;obtain ⟨g2,off2,rfl,_,hgs2,p0,p1,p2,p3⟩:=Z5d (HM.out.new_ HB.out) hlt;rw [←hx] at q0 q1 q2 q3 p0 p1 p2 p3;(have b1:(0:Int)≤(i:Int):=by omega);(have b2:(i:Int)<(l.length:Int):=by omega);have hbe:=fun W=>Zgd x W;clear hx;(go_wp2_with fail);go_quiet (fail);have HB2:=hid (Below.drewN' HB.out nq);clear q0 q1 q2 q3 p0 p1 p2 p3;(go_wp2_with fail);go_roundw
    case rel=>exact ⟨i+1,by go_num,by omega,HB2.out⟩
    case measure=>simp [intOf]<;>omega
  · obtain rfl:i=l.length:=by omega
    (go_wp2_with fail);go_ret;exact ⟨rfl,HB.out⟩
theorem Zf3 (x:Sym) (W:World):(binOp .neq 38 (.agg #[.int .i64 x.kind,.string x.text,.int .i64 x.n]) (.agg #[.int .i64 x.kind,.string x.text,.int .i64 x.n])).run Tryz.prog W = .ok (.bool false) W:=by
 rw [run_neq_struct];go_simp
theorem Z9l {D D':Nat→Prop}{A B:Option Addr}{c d:Nat}(l:List Sym) (w:World) (hl:RowR Z24 D w A c l) (hm:RowR Z24 D' w B d l) :
 Calls Tryz.prog 16 #[.slice A l.length c,.slice B l.length d] w fun e w'=>e = .returned (.bool true)∧Below w.heap.size w w':=by
 have HL:=hid hl;have HM:=hid hm;have hlc:=hl.cap;clear hl hm;go_enter Tryz.func16,Tryz.ntmps16;go_wp2_with fail
 go_loopw [5] (fun s wr=>∃i:Nat,s = .int .i64 i∧i≤l.length∧Below w.heap.size w wr) (fun s wr=>l.length - (intOf s).toNat)
 case atStart=>exact ⟨0,rfl,Nat.zero_le _,Znk _ _⟩
 case round=>
  obtain ⟨i,rfl,hi,hB⟩:=hrel;have HB:=hid hB;clear hB;by_cases hlt:i<l.length
  · obtain ⟨x,hx⟩:∃x,x=l[i]:=⟨_,rfl⟩
    obtain ⟨g,off,rfl,_,hgs,q0,q1,q2⟩:=Zla (HL.out.new_ HB.out) hlt;obtain ⟨g2,off2,rfl,_,hgs2,p0,p1,p2⟩:=Zla (HM.out.new_ HB.out) hlt;rw [←hx] at q0 q1 q2 p0 p1 p2;(have b1:(0:Int)≤(i:Int):=by omega);(have b2:(i:Int)<(l.length:Int):=by omega);have hbe:=fun W=>Zf3 x W;clear hx;(go_wp2_with fail);go_quiet (fail);have HB2:=hid (Below.drewN' HB.out nq);clear q0 q1 q2 p0 p1 p2;(go_wp2_with fail);go_roundw
    case rel=>exact ⟨i+1,by go_num,by omega,HB2.out⟩
    case measure=>simp [intOf]<;>omega
  · obtain rfl:i=l.length:=by omega
    (go_wp2_with fail);go_ret;exact ⟨rfl,HB.out⟩
end
end Go.Proofs.YtfidcfjcmlgkbaaGreat
