/-
  Texts put together: ShowPlain, Show1, Show2, Show3, Show4, Show5.
-/
import Derived.Test.YtffemfglngikbaaOd
import Derived.Test.YtffemfglngikbaaOe
import Derived.Test.YtffemfglngikbaaOb
import Derived.Maps.RangeWalk
namespace Go.Proofs.Ytffemfglngikbaa
abbrev MAXS:Nat:=9223372036854775807
theorem fold_le {α:Type} {f:ByteArray→α→ByteArray} (hf : ∀s x,s.size≤(f s x).size) : ∀(l:List α) (s:ByteArray),s.size≤(l.foldl f s).size
 | [],_=>Nat.le_refl _
 | x :: l,s=>Nat.le_trans (hf s x) (fold_le hf l _)
theorem fold_snoc {α:Type} (f:ByteArray→α→ByteArray) {l:List α} {i:Nat} (h:i<l.length) (s:ByteArray):(l.take (i+1)).foldl f s=f ((l.take i).foldl f s) l[i]:=by
 rw [List.take_add_one,List.getElem?_eq_getElem h,List.foldl_append];rfl
theorem fold_take {α:Type} {f:ByteArray→α→ByteArray} (hf : ∀s x,s.size≤(f s x).size) {l:List α} {i:Nat} (h:i<l.length) (s:ByteArray):(f ((l.take i).foldl f s) l[i]).size≤(l.foldl f s).size:=by
 rw [← fold_snoc f h]
 have:=fold_le hf (l.drop (i+1)) ((l.take (i+1)).foldl f s)
 rwa [← List.foldl_append,List.take_append_drop] at this
def atomX (v:ByteArray) (s:Sym):ByteArray:=if v.toList = [] then textB s else (⟨#[60]⟩:ByteArray)++v++(⟨#[62]⟩:ByteArray)
def relX (k:Int):ByteArray:=if k=2 then (⟨#[60,62]⟩:ByteArray) else if k=3 then (⟨#[60]⟩:ByteArray) else if k=4 then (⟨#[60,61]⟩:ByteArray) else if k=5 then (⟨#[62]⟩:ByteArray) else if k=6 then (⟨#[62,61]⟩:ByteArray) else if k=7 then (⟨#[60,61,62]⟩:ByteArray) else ⟨#[]⟩
def listX (s:ByteArray) (x:Sym):ByteArray:=s++(⟨#[32]⟩:ByteArray)++textB x
def testX (t:TestT):ByteArray:=
 if t.rel=8 then t.list.foldl listX (⟨#[60,60]⟩:ByteArray)++(⟨#[32,62,62]⟩:ByteArray)
 else if (relX t.rel).toList = [] then atomX t.var t.sym else relX t.rel++(⟨#[32]⟩:ByteArray)++atomX t.var t.sym
def fieldF (s:ByteArray) (t:TestT):ByteArray:=s++(⟨#[32]⟩:ByteArray)++testX t
def fieldX (l:List TestT):ByteArray:=if l.length=0 then ⟨#[]⟩ else if h:l.length=1 then testX l[0] else l.foldl fieldF (⟨#[123]⟩:ByteArray)++(⟨#[32,125]⟩:ByteArray)
def allF (f:CondT→ByteArray) (p:Nat×ByteArray) (x:CondT):Nat×ByteArray:=(p.1+1,(if 0<p.1 then p.2++(⟨#[32]⟩:ByteArray) else p.2)++f x)
def leaf1 (c:CondT):ByteArray:=if c.kind=2 then (⟨#[45,40]⟩:ByteArray) else (⟨#[40]⟩:ByteArray)
def leaf2 (c:CondT):ByteArray:=if c.goal=true then leaf1 c++(⟨#[115,116,97,116,101,32]⟩:ByteArray) else leaf1 c
def leaf3 (c:CondT):ByteArray:=leaf2 c++(⟨#[60]⟩:ByteArray)++c.id++(⟨#[62,32,94]⟩:ByteArray)++fieldX c.attr
def leaf4 (c:CondT):ByteArray:=if 0<c.value.length then leaf3 c++(⟨#[32]⟩:ByteArray)++fieldX c.value else leaf3 c
def leaf5 (c:CondT):ByteArray:=if c.acc=true then leaf4 c++(⟨#[32,43]⟩:ByteArray) else leaf4 c
def leafX (c:CondT):ByteArray:=leaf5 c++(⟨#[41]⟩:ByteArray)
def condX:Nat→CondT→ByteArray
 | 0,_=>⟨#[]⟩
 | n+1,c=>if c.kind=3 then (c.conds.foldl (allF (condX n)) (0,(⟨#[45,123]⟩:ByteArray))).2++(⟨#[125]⟩:ByteArray) else leafX c
def signX (k:Int):ByteArray:=if k=1 then (⟨#[43]⟩:ByteArray) else if k=2 then (⟨#[45]⟩:ByteArray) else if k=3 then (⟨#[33]⟩:ByteArray) else if k=4 then (⟨#[126]⟩:ByteArray) else if k=5 then (⟨#[62]⟩:ByteArray) else if k=8 then (⟨#[62]⟩:ByteArray) else if k=6 then (⟨#[60]⟩:ByteArray) else if k=9 then (⟨#[60]⟩:ByteArray) else (⟨#[61]⟩:ByteArray)
def opX (k:Int):ByteArray:=if k=1 then (⟨#[43]⟩:ByteArray) else if k=2 then (⟨#[45]⟩:ByteArray) else (⟨#[42]⟩:ByteArray)
def termX (t:TermT):ByteArray:=if t.op=1∨t.op=2∨t.op=3 then (⟨#[40]⟩:ByteArray)++opX t.op++(⟨#[32]⟩:ByteArray)++atomX t.a.var t.a.sym++(⟨#[32]⟩:ByteArray)++atomX t.b.var t.b.sym++(⟨#[41]⟩:ByteArray) else atomX t.a.var t.a.sym
def actX (a:ActT):ByteArray:=
 let s:=(⟨#[40,60]⟩:ByteArray)++a.id++(⟨#[62,32,94]⟩:ByteArray)++atomX a.attr.var a.attr.sym++(⟨#[32]⟩:ByteArray)++termX a.value++(⟨#[32]⟩:ByteArray)++signX a.pref
 (if otherB a.pref=true then s++(⟨#[32]⟩:ByteArray)++atomX a.other.var a.other.sym else s)++(⟨#[41]⟩:ByteArray)
def lineC (n:Nat) (s:ByteArray) (c:CondT):ByteArray:=s++(⟨#[32,32]⟩:ByteArray)++condX n c++(⟨#[10]⟩:ByteArray)
def lineA (s:ByteArray) (a:ActT):ByteArray:=s++(⟨#[32,32]⟩:ByteArray)++actX a++(⟨#[10]⟩:ByteArray)
def prodX (n:Nat) (p:ProdT):ByteArray:=p.acts.foldl lineA (p.conds.foldl (lineC n) ((⟨#[115,112,32,123]⟩:ByteArray)++p.name++(⟨#[10]⟩:ByteArray))++(⟨#[45,45,62,10]⟩:ByteArray))++(⟨#[125,10]⟩:ByteArray)
theorem listX_le (s:ByteArray) (x:Sym):s.size≤(listX s x).size:=by unfold listX;rw [ByteArray.size_append,ByteArray.size_append];omega
theorem fieldF_le (s:ByteArray) (x:TestT):s.size≤(fieldF s x).size:=by unfold fieldF;rw [ByteArray.size_append,ByteArray.size_append];omega
theorem lineC_le (n:Nat) (s:ByteArray) (x:CondT):s.size≤(lineC n s x).size:=by unfold lineC;rw [ByteArray.size_append,ByteArray.size_append,ByteArray.size_append];omega
theorem lineA_le (s:ByteArray) (x:ActT):s.size≤(lineA s x).size:=by unfold lineA;rw [ByteArray.size_append,ByteArray.size_append,ByteArray.size_append];omega
theorem allF_le (f:CondT→ByteArray) : ∀(l:List CondT) (p:Nat×ByteArray),p.2.size≤(l.foldl (allF f) p).2.size
 | [],_=>Nat.le_refl _
 | x :: l,p=>by
   refine Nat.le_trans ?_ (allF_le f l _)
   unfold allF
   dsimp only
   rw [ByteArray.size_append]
   split
   · rw [ByteArray.size_append];omega
   · omega
theorem allF_n (f:CondT→ByteArray) : ∀(l:List CondT) (p:Nat×ByteArray),(l.foldl (allF f) p).1=p.1+l.length
 | [],_=>rfl
 | x :: l,p=>by rw [List.foldl_cons,allF_n f l,List.length_cons];unfold allF;dsimp only;omega
theorem allF_snoc (f:CondT→ByteArray) {l:List CondT} {i:Nat} (h:i<l.length) (s:ByteArray):((l.take (i+1)).foldl (allF f) (0,s)).2=(if 0<i then ((l.take i).foldl (allF f) (0,s)).2++(⟨#[32]⟩:ByteArray) else ((l.take i).foldl (allF f) (0,s)).2)++f l[i]:=by
 rw [List.take_add_one,List.getElem?_eq_getElem h,List.foldl_append]
 have h1:((l.take i).foldl (allF f) (0,s)).1=i:=by rw [allF_n,List.length_take];simp;omega
 generalize (l.take i).foldl (allF f) (0,s)=P at h1 ⊢
 show (allF f P l[i]).2=_
 unfold allF
 rw [h1]
theorem allF_take (f:CondT→ByteArray) {l:List CondT} {i:Nat} (s:ByteArray):((l.take i).foldl (allF f) (0,s)).2.size≤(l.foldl (allF f) (0,s)).2.size:=by
 have:=allF_le f (l.drop i) ((l.take i).foldl (allF f) (0,s))
 rwa [← List.foldl_append,List.take_append_drop] at this
end Go.Proofs.Ytffemfglngikbaa
namespace Go.Proofs.Ytffemfglngikbaa
open Go.RowKit Go.Shelf
attribute [local go_sem] Oper.semAt_some
set_option linter.unusedSimpArgs false
set_option maxRecDepth 100000 in
set_option maxHeartbeats 8000000 in
theorem satom_is (v:ByteArray) (s:Sym) (w:World) (hz:(atomX v s).size≤MAXS):Calls Try.prog 93 #[.string v,.agg #[.int .i64 s.kind,.string s.text,.int .i64 s.n]] w fun e w'=>e = .returned (.string (atomX v s))∧Below w.heap.size w w':=by
 by_cases hv:v.toList = []
 · skip
   have va:(v.toList == [])=true:=by simp [hv]
   have vb:v.toList.isEmpty=true:=by simp [hv]
   have vc:decide (v.toList = [])=true:=by simp [hv]
   have HR:=Lib.hid (show atomX v s=textB s by unfold atomX;rw [if_pos hv])
   clear hv hz
   go_enter Try.func93,Try.ntmps93
   go_upto_region 1 with fail
   obtain ⟨w1,hw1⟩ : ∃w1,w1=(w.alloc (.cells #[.int .i64 s.kind,.string s.text,.int .i64 s.n] 52)):=⟨_,rfl⟩
   rw [← hw1]
   have HB:=Lib.hid (show Below w.heap.size w w1 by rw [hw1];exact (by repeat (first | exact Below.refl _ _ | refine Below.drew ?_ | refine Below.al ?_ _ | refine Below.sc ?_ _)))
   have Ks:=Lib.hid (show Blk w1 (w.heap.size) 52 #[.int .i64 s.kind,.string s.text,.int .i64 s.n] by rw [hw1];exact (Blk.new w 52 #[.int .i64 s.kind,.string s.text,.int .i64 s.n]))
   clear hw1
   obtain ⟨s0,s1,s2⟩:=Ks.out.c3
   have sz:=Ks.out.lt
   go_wp2_with fail
   with_reducible refine (text_is s _).mono ?_
   rintro e w2 ⟨rfl,hb⟩
   have hbs:=Below.trans (show Below w1.heap.size w1 _ from (by (repeat (first | exact Below.refl _ _ | refine Below.drew ?_ | refine Below.al ?_ _ | refine Below.sc ?_ _)))) (hb.mono (by simp<;>omega))
   have Ks:=Lib.hid (Ks.out.new_ hbs)
   have HB:=Lib.hid (HB.out.trans (hbs.mono HB.out.size))
   have hsz2:=hbs.size
   clear s0 s1 s2 sz hb hbs
   obtain ⟨s0,s1,s2⟩:=Ks.out.c3
   have sz:=Ks.out.lt
   go_wp2_with fail
   go_ret
   exact ⟨by rw [HR.out]<;>rfl,by (repeat (first | exact Below.refl _ _ | exact HB.out | refine Below.drew ?_ | refine Below.al ?_ _ | refine Below.sc ?_ _))⟩
 · skip
   have va:(v.toList == [])=false:=by simp [hv]
   have vb:v.toList.isEmpty=false:=by simp [hv]
   have vc:decide (v.toList = [])=false:=by simp [hv]
   have HR:=Lib.hid (show atomX v s=(⟨#[60]⟩:ByteArray)++v++(⟨#[62]⟩:ByteArray) by unfold atomX;rw [if_neg hv])
   rw [HR.out,ByteArray.size_append,ByteArray.size_append] at hz
   have hz1 : ¬MAXS<1+v.size+1:=Nat.not_lt.2 hz
   have hz0 : ¬MAXS<1+v.size:=by unfold MAXS at hz1 ⊢;omega
   clear hv hz
   go_enter Try.func93,Try.ntmps93
   go_upto_region 1 with fail
   obtain ⟨w1,hw1⟩ : ∃w1,w1=(w.alloc (.cells #[.int .i64 s.kind,.string s.text,.int .i64 s.n] 52)):=⟨_,rfl⟩
   rw [← hw1]
   have HB:=Lib.hid (show Below w.heap.size w w1 by rw [hw1];exact (by repeat (first | exact Below.refl _ _ | refine Below.drew ?_ | refine Below.al ?_ _ | refine Below.sc ?_ _)))
   have Ks:=Lib.hid (show Blk w1 (w.heap.size) 52 #[.int .i64 s.kind,.string s.text,.int .i64 s.n] by rw [hw1];exact (Blk.new w 52 #[.int .i64 s.kind,.string s.text,.int .i64 s.n]))
   clear hw1
   obtain ⟨s0,s1,s2⟩:=Ks.out.c3
   have sz:=Ks.out.lt
   go_wp2_with fail
   go_ret
   exact ⟨by rw [HR.out]<;>rfl,by (repeat (first | exact Below.refl _ _ | exact HB.out | refine Below.drew ?_ | refine Below.al ?_ _ | refine Below.sc ?_ _))⟩
set_option maxRecDepth 100000 in
set_option maxHeartbeats 8000000 in
theorem srel_is (k:Int) (w:World):Calls Try.prog 109 #[.int .i64 k] w fun e w'=>e = .returned (.string (relX k))∧w=w':=by
 go_enter Try.func109,Try.ntmps109
 go_wp2_with fail
 all_goals
  go_ret
  refine ⟨?_,rfl⟩
  simp_all [relX]
set_option maxRecDepth 100000 in
set_option maxHeartbeats 8000000 in
theorem ssign_is (k:Int) (w:World):Calls Try.prog 95 #[.int .i64 k] w fun e w'=>e = .returned (.string (signX k))∧w=w':=by
 go_enter Try.func95,Try.ntmps95
 go_wp2_with fail
 all_goals
  go_ret
  refine ⟨?_,rfl⟩
  simp_all [signX]
end Go.Proofs.Ytffemfglngikbaa
namespace Go.Proofs.Ytffemfglngikbaa
open Go.RowKit Go.Shelf
attribute [local go_sem] Oper.semAt_some
set_option linter.unusedSimpArgs false
set_option maxRecDepth 100000 in
set_option maxHeartbeats 8000000 in
theorem stest_is {D:Nat→Prop} {A:Option Addr} {c:Nat} (t:TestT) (w:World) (h:RowR repSym D w A c t.list) (hz:(testX t).size≤MAXS):Calls Try.prog 103 #[.agg #[.int .i64 t.rel,.string t.var,.int .i64 t.sym.kind,.string t.sym.text,.int .i64 t.sym.n,.slice A t.list.length c]] w fun e w'=>e = .returned (.string (testX t))∧Below w.heap.size w w':=by
 have H:=Lib.hid h
 have hlc:=h.cap
 clear h
 by_cases h8:t.rel=8
 · skip
   have ka:(t.rel == 8)=true:=by simp [h8]
   have kb:decide (t.rel=8)=true:=by simp [h8]
   have HR:=Lib.hid (show testX t=t.list.foldl listX (⟨#[60,60]⟩:ByteArray)++(⟨#[32,62,62]⟩:ByteArray) by unfold testX;rw [if_pos h8])
   rw [HR.out,ByteArray.size_append] at hz
   obtain ⟨T,hT⟩ : ∃T,T=t.list.foldl listX (⟨#[60,60]⟩:ByteArray):=⟨_,rfl⟩
   rw [← hT] at HR hz
   have HT:=Lib.hid hT
   have hz9 : ¬MAXS<T.size+3:=Nat.not_lt.2 hz
   have hzz:T.size≤MAXS:=by unfold MAXS at hz9 ⊢;omega
   clear h8 hz hT
   go_enter Try.func103,Try.ntmps103
   go_upto_region 1 with fail
   obtain ⟨w1,hw1⟩ : ∃w1,w1=(w.alloc (.cells #[.int .i64 t.rel,.string t.var,.int .i64 t.sym.kind,.string t.sym.text,.int .i64 t.sym.n,.slice A t.list.length c] 65)):=⟨_,rfl⟩
   rw [← hw1]
   have HB:=Lib.hid (show Below w.heap.size w w1 by rw [hw1];exact (by repeat (first | exact Below.refl _ _ | refine Below.drew ?_ | refine Below.al ?_ _ | refine Below.sc ?_ _)))
   have Kt:=Lib.hid (show Blk w1 (w.heap.size) 65 #[.int .i64 t.rel,.string t.var,.int .i64 t.sym.kind,.string t.sym.text,.int .i64 t.sym.n,.slice A t.list.length c] by rw [hw1];exact (Blk.new w 65 #[.int .i64 t.rel,.string t.var,.int .i64 t.sym.kind,.string t.sym.text,.int .i64 t.sym.n,.slice A t.list.length c]))
   clear hw1
   obtain ⟨t0,t1,t2,t3,t4,t5⟩:=Kt.out.c6
   have tz:=Kt.out.lt
   go_wp2_with fail
   clear t0 t1 t2 t3 t4 t5 tz 
   go_loopw [3,13] (fun s i wr=>∃k:Nat,i = .int .i64 k∧k≤t.list.length∧s = .string ((t.list.take k).foldl listX (⟨#[60,60]⟩:ByteArray))∧Below w1.heap.size w1 wr) (fun s i wr=>t.list.length - (intOf i).toNat)
   case atStart=>exact ⟨0,rfl,Nat.zero_le _,rfl,Below.refl _ _⟩
   case round=>
    obtain ⟨k,rfl,hk,rfl,hb⟩:=hrel
    have HBR:=Lib.hid hb
    clear hb
    by_cases hlt:k<t.list.length
    · obtain ⟨x,hx⟩ : ∃x,x=t.list[k]:=⟨_,rfl⟩
      obtain ⟨S,hS⟩ : ∃S,S=(t.list.take k).foldl listX (⟨#[60,60]⟩:ByteArray):=⟨_,rfl⟩
      have h1:=fold_take listX_le hlt (⟨#[60,60]⟩:ByteArray)
      rw [← hS,← hx,← HT.out] at h1
      unfold listX at h1
      rw [ByteArray.size_append,ByteArray.size_append] at h1
      have h2:S.size+1+(textB x).size≤MAXS:=Nat.le_trans h1 hzz
      have hz1 : ¬MAXS<S.size+1:=by unfold MAXS at h2 ⊢;omega
      have hz2 : ¬MAXS<S.size+1+(textB x).size:=Nat.not_lt.2 h2
      have HS:=Lib.hid (show (t.list.take (k+1)).foldl listX (⟨#[60,60]⟩:ByteArray)=S++(⟨#[32]⟩:ByteArray)++textB x by rw [fold_snoc listX hlt,← hS,← hx];rfl)
      obtain ⟨g,off,rfl,_,hgs,q0,q1,q2⟩:=at_Sym (H.out.new_ (HB.out.trans (HBR.out.mono HB.out.size))) hlt
      rw [← hx] at q0 q1 q2
      have b1:(0:Int)≤(k:Int):=by omega
      have b2:(k:Int)<(t.list.length:Int):=by omega
      rw [← hS]
      clear hx h1 h2 hS hz9 hzz
      go_wp2_with fail
      refine (text_is x _).mono ?_
      rintro e w5 ⟨rfl,hb5⟩
      have HB5:=Lib.hid (HBR.out.trans (((Below.refl wr.heap.size wr).alloc (Nat.le_refl _) _ |>.trans (hb5.mono (by simp))).mono HBR.out.size))
      clear hb5 q0 q1 q2
      go_wp2_with fail
      go_roundw
      case rel=>exact ⟨k+1,by go_num,by omega,by rw [HS.out],HB5.out⟩
      case measure=>simp [intOf]<;>omega
    · obtain rfl:k=t.list.length:=by omega
      rw [List.take_length,← HT.out]
      go_wp2_with fail
      go_ret
      exact ⟨by rw [HR.out]<;>rfl,HB.out.trans (HBR.out.mono HB.out.size)⟩
 · skip
   have ka:(t.rel == 8)=false:=by simp [h8]
   have kb:decide (t.rel=8)=false:=by simp [h8]
   by_cases hr:(relX t.rel).toList = []
   · skip
     have ra:((relX t.rel).toList == [])=true:=by simp [hr]
     have rb:(relX t.rel).toList.isEmpty=true:=by simp [hr]
     have rc:decide ((relX t.rel).toList = [])=true:=by simp [hr]
     have HR:=Lib.hid (show testX t=atomX t.var t.sym by unfold testX;rw [if_neg h8,if_pos hr])
     rw [HR.out] at hz
     have HZ:=Lib.hid hz
     clear h8 hr hz
     go_enter Try.func103,Try.ntmps103
     go_upto_region 1 with fail
     obtain ⟨w1,hw1⟩ : ∃w1,w1=(w.alloc (.cells #[.int .i64 t.rel,.string t.var,.int .i64 t.sym.kind,.string t.sym.text,.int .i64 t.sym.n,.slice A t.list.length c] 65)):=⟨_,rfl⟩
     rw [← hw1]
     have HB:=Lib.hid (show Below w.heap.size w w1 by rw [hw1];exact (by repeat (first | exact Below.refl _ _ | refine Below.drew ?_ | refine Below.al ?_ _ | refine Below.sc ?_ _)))
     have Kt:=Lib.hid (show Blk w1 (w.heap.size) 65 #[.int .i64 t.rel,.string t.var,.int .i64 t.sym.kind,.string t.sym.text,.int .i64 t.sym.n,.slice A t.list.length c] by rw [hw1];exact (Blk.new w 65 #[.int .i64 t.rel,.string t.var,.int .i64 t.sym.kind,.string t.sym.text,.int .i64 t.sym.n,.slice A t.list.length c]))
     clear hw1
     obtain ⟨t0,t1,t2,t3,t4,t5⟩:=Kt.out.c6
     have tz:=Kt.out.lt
     go_wp2_with fail
     with_reducible refine (srel_is t.rel _).mono ?_
     rintro e w0 ⟨rfl,rfl⟩
     go_wp2_with fail
     with_reducible refine (satom_is t.var t.sym _ HZ.out).mono ?_
     rintro e w2 ⟨rfl,hb⟩
     have hbs:=Below.trans (show Below w1.heap.size w1 _ from (by (repeat (first | exact Below.refl _ _ | refine Below.drew ?_ | refine Below.al ?_ _ | refine Below.sc ?_ _)))) (hb.mono (by simp<;>omega))
     have Kt:=Lib.hid (Kt.out.new_ hbs)
     have HB:=Lib.hid (HB.out.trans (hbs.mono HB.out.size))
     have hsz2:=hbs.size
     clear t0 t1 t2 t3 t4 t5 tz hb hbs
     obtain ⟨t0,t1,t2,t3,t4,t5⟩:=Kt.out.c6
     have tz:=Kt.out.lt
     go_wp2_with fail
     go_ret
     exact ⟨by rw [HR.out]<;>rfl,by (repeat (first | exact Below.refl _ _ | exact HB.out | refine Below.drew ?_ | refine Below.al ?_ _ | refine Below.sc ?_ _))⟩
   · skip
     have ra:((relX t.rel).toList == [])=false:=by simp [hr]
     have rb:(relX t.rel).toList.isEmpty=false:=by simp [hr]
     have rc:decide ((relX t.rel).toList = [])=false:=by simp [hr]
     have HR:=Lib.hid (show testX t=relX t.rel++(⟨#[32]⟩:ByteArray)++atomX t.var t.sym by unfold testX;rw [if_neg h8,if_neg hr])
     rw [HR.out,ByteArray.size_append,ByteArray.size_append] at hz
     have hz2 : ¬MAXS<(relX t.rel).size+1+(atomX t.var t.sym).size:=Nat.not_lt.2 hz
     have hz1 : ¬MAXS<(relX t.rel).size+1:=by unfold MAXS at hz2 ⊢;omega
     have HZ:=Lib.hid (show (atomX t.var t.sym).size≤MAXS by unfold MAXS at hz2 ⊢;omega)
     clear h8 hr hz
     go_enter Try.func103,Try.ntmps103
     go_upto_region 1 with fail
     obtain ⟨w1,hw1⟩ : ∃w1,w1=(w.alloc (.cells #[.int .i64 t.rel,.string t.var,.int .i64 t.sym.kind,.string t.sym.text,.int .i64 t.sym.n,.slice A t.list.length c] 65)):=⟨_,rfl⟩
     rw [← hw1]
     have HB:=Lib.hid (show Below w.heap.size w w1 by rw [hw1];exact (by repeat (first | exact Below.refl _ _ | refine Below.drew ?_ | refine Below.al ?_ _ | refine Below.sc ?_ _)))
     have Kt:=Lib.hid (show Blk w1 (w.heap.size) 65 #[.int .i64 t.rel,.string t.var,.int .i64 t.sym.kind,.string t.sym.text,.int .i64 t.sym.n,.slice A t.list.length c] by rw [hw1];exact (Blk.new w 65 #[.int .i64 t.rel,.string t.var,.int .i64 t.sym.kind,.string t.sym.text,.int .i64 t.sym.n,.slice A t.list.length c]))
     clear hw1
     obtain ⟨t0,t1,t2,t3,t4,t5⟩:=Kt.out.c6
     have tz:=Kt.out.lt
     go_wp2_with fail
     with_reducible refine (srel_is t.rel _).mono ?_
     rintro e w0 ⟨rfl,rfl⟩
     go_wp2_with fail
     with_reducible refine (satom_is t.var t.sym _ HZ.out).mono ?_
     rintro e w2 ⟨rfl,hb⟩
     have hbs:=Below.trans (show Below w1.heap.size w1 _ from (by (repeat (first | exact Below.refl _ _ | refine Below.drew ?_ | refine Below.al ?_ _ | refine Below.sc ?_ _)))) (hb.mono (by simp<;>omega))
     have Kt:=Lib.hid (Kt.out.new_ hbs)
     have HB:=Lib.hid (HB.out.trans (hbs.mono HB.out.size))
     have hsz2:=hbs.size
     clear t0 t1 t2 t3 t4 t5 tz hb hbs
     obtain ⟨t0,t1,t2,t3,t4,t5⟩:=Kt.out.c6
     have tz:=Kt.out.lt
     go_wp2_with fail
     go_ret
     exact ⟨by rw [HR.out]<;>rfl,by (repeat (first | exact Below.refl _ _ | exact HB.out | refine Below.drew ?_ | refine Below.al ?_ _ | refine Below.sc ?_ _))⟩
set_option maxRecDepth 100000 in
set_option maxHeartbeats 8000000 in
theorem sfield_is {D:Nat→Prop} {A:Option Addr} {c:Nat} (l:List TestT) (w:World) (h:RowR repTestT D w A c l) (hz:(fieldX l).size≤MAXS):Calls Try.prog 92 #[.slice A l.length c] w fun e w'=>e = .returned (.string (fieldX l))∧Below w.heap.size w w':=by
 have H:=Lib.hid h
 have hlc:=h.cap
 clear h
 by_cases h0:l.length=0
 · have t0:((l.length:Int) == 0)=true:=by simp [h0]
   have t1:decide ((l.length:Int)=0)=true:=by simp [h0]
   have HR:=Lib.hid (show fieldX l=⟨#[]⟩ by unfold fieldX;rw [if_pos h0])
   clear h0 hz
   go_enter Try.func92,Try.ntmps92
   go_wp2_with fail
   go_ret
   exact ⟨by rw [HR.out]<;>rfl,Below.refl _ _⟩
 by_cases h1:l.length=1
 · have t0:((l.length:Int) == 0)=false:=by simp [h0]
   have t1:decide ((l.length:Int)=0)=false:=by simp [h0]
   have t2:((l.length:Int) == 1)=true:=by simp [h1]
   have t3:decide ((l.length:Int)=1)=true:=by simp [h1]
   have hlt:0<l.length:=by omega
   obtain ⟨x,hx⟩ : ∃x,x=l[0]:=⟨_,rfl⟩
   have HR:=Lib.hid (show fieldX l=testX x by unfold fieldX;rw [if_neg h0,dif_pos h1,hx])
   have b2:(0:Int)<(l.length:Int):=by omega
   rw [HR.out] at hz
   have HZ:=Lib.hid hz
   obtain ⟨g,off,A1,c1,rfl,_,hgs,q0,q1,q2,q3,q4,q5,hl⟩:=at_TestT H.out hlt
   rw [← hx] at q0 q1 q2 q3 q4 q5 hl
   rw [Nat.zero_mul,Nat.add_zero] at q0 q1 q2 q3 q4 q5
   have HL:=Lib.hid hl
   clear hl h0 h1 hx hz
   go_enter Try.func92,Try.ntmps92
   go_wp2_with fail
   refine (stest_is x _ HL.out HZ.out).mono ?_
   rintro e w5 ⟨rfl,hb5⟩
   have HB5:=Lib.hid hb5
   clear hb5 q0 q1 q2 q3 q4 q5
   go_wp2_with fail
   go_ret
   exact ⟨by rw [HR.out]<;>rfl,HB5.out⟩
 have t0:((l.length:Int) == 0)=false:=by simp [h0]
 have t1:decide ((l.length:Int)=0)=false:=by simp [h0]
 have t2:((l.length:Int) == 1)=false:=by simp;omega
 have t3:decide ((l.length:Int)=1)=false:=by simp;omega
 have HR:=Lib.hid (show fieldX l=l.foldl fieldF (⟨#[123]⟩:ByteArray)++(⟨#[32,125]⟩:ByteArray) by unfold fieldX;rw [if_neg h0,dif_neg h1])
 rw [HR.out,ByteArray.size_append] at hz
 obtain ⟨T,hT⟩ : ∃T,T=l.foldl fieldF (⟨#[123]⟩:ByteArray):=⟨_,rfl⟩
 rw [← hT] at HR hz
 have HT:=Lib.hid hT
 have hz9 : ¬MAXS<T.size+2:=Nat.not_lt.2 hz
 have hzz:T.size≤MAXS:=by unfold MAXS at hz9 ⊢;omega
 clear h0 h1 hz hT
 go_enter Try.func92,Try.ntmps92
 go_wp2_with fail
 clear t0 t1 t2 t3
 go_loopw [3,18] (fun s i wr=>∃k:Nat,i = .int .i64 k∧k≤l.length∧s = .string ((l.take k).foldl fieldF (⟨#[123]⟩:ByteArray))∧Below w.heap.size w wr) (fun s i wr=>l.length - (intOf i).toNat)
 case atStart=>exact ⟨0,rfl,Nat.zero_le _,rfl,Below.refl _ _⟩
 case round=>
  obtain ⟨k,rfl,hk,rfl,hb⟩:=hrel
  have HBR:=Lib.hid hb
  clear hb
  by_cases hlt:k<l.length
  · obtain ⟨x,hx⟩ : ∃x,x=l[k]:=⟨_,rfl⟩
    obtain ⟨S,hS⟩ : ∃S,S=(l.take k).foldl fieldF (⟨#[123]⟩:ByteArray):=⟨_,rfl⟩
    have h1:=fold_take fieldF_le hlt (⟨#[123]⟩:ByteArray)
    rw [← hS,← hx,← HT.out] at h1
    unfold fieldF at h1
    rw [ByteArray.size_append,ByteArray.size_append] at h1
    have h2:S.size+1+(testX x).size≤MAXS:=Nat.le_trans h1 hzz
    have hz1 : ¬MAXS<S.size+1:=by unfold MAXS at h2 ⊢;omega
    have hz2 : ¬MAXS<S.size+1+(testX x).size:=Nat.not_lt.2 h2
    have HZX:=Lib.hid (show (testX x).size≤MAXS by unfold MAXS at h2 ⊢;omega)
    have HS:=Lib.hid (show (l.take (k+1)).foldl fieldF (⟨#[123]⟩:ByteArray)=S++(⟨#[32]⟩:ByteArray)++testX x by rw [fold_snoc fieldF hlt,← hS,← hx];rfl)
    obtain ⟨g,off,A1,c1,rfl,_,hgs,q0,q1,q2,q3,q4,q5,hl⟩:=at_TestT (H.out.new_ HBR.out) hlt
    rw [← hx] at q0 q1 q2 q3 q4 q5 hl
    have HL:=Lib.hid hl
    have b1:(0:Int)≤(k:Int):=by omega
    have b2:(k:Int)<(l.length:Int):=by omega
    rw [← hS]
    clear hx h1 h2 hS hz9 hzz hl
    go_wp2_with fail
    refine (stest_is x _ (HL.out.new_ ((Below.refl _ _).alloc (Nat.le_refl _) _)) HZX.out).mono ?_
    rintro e w5 ⟨rfl,hb5⟩
    have HB5:=Lib.hid (HBR.out.trans (((Below.refl wr.heap.size wr).alloc (Nat.le_refl _) _ |>.trans (hb5.mono (by simp))).mono HBR.out.size))
    clear hb5 q0 q1 q2 q3 q4 q5
    go_wp2_with fail
    go_roundw
    case rel=>exact ⟨k+1,by go_num,by omega,by rw [HS.out],HB5.out⟩
    case measure=>simp [intOf]<;>omega
  · obtain rfl:k=l.length:=by omega
    rw [List.take_length,← HT.out]
    go_wp2_with fail
    go_ret
    exact ⟨by rw [HR.out]<;>rfl,HBR.out⟩
end Go.Proofs.Ytffemfglngikbaa
namespace Go.Proofs.Ytffemfglngikbaa
open Go.RowKit Go.Shelf
attribute [local go_sem] Oper.semAt_some
set_option linter.unusedSimpArgs false
def SCond (n:Nat):Prop:=∀(c:CondT) (A1:Option Addr) (c1:Nat) (A2:Option Addr) (c2:Nat) (A3:Option Addr) (c3:Nat) (D:Nat→Prop) (w:World),RowR repTestT D w A1 c1 c.attr→RowR repTestT D w A2 c2 c.value→RowR (repCondT n) D w A3 c3 c.conds→(condX (n+1) c).size≤MAXS→
    Calls Try.prog 80 #[.agg #[.int .i64 c.kind,.bool c.goal,.string c.id,.slice A1 c.attr.length c1,.slice A2 c.value.length c2,.bool c.acc,.slice A3 c.conds.length c3]] w fun e w'=>e = .returned (.string (condX (n+1) c))∧Below w.heap.size w w'
set_option maxRecDepth 100000 in
set_option maxHeartbeats 8000000 in
theorem scond_leaf {D:Nat→Prop} (c:CondT) (A1:Option Addr) (c1:Nat) (A2:Option Addr) (c2:Nat) (A3:Option Addr) (c3:Nat) (w:World) (h1:RowR repTestT D w A1 c1 c.attr) (h2:RowR repTestT D w A2 c2 c.value) (hk : ¬c.kind=3) (hz:(leafX c).size≤MAXS) :
 Calls Try.prog 80 #[.agg #[.int .i64 c.kind,.bool c.goal,.string c.id,.slice A1 c.attr.length c1,.slice A2 c.value.length c2,.bool c.acc,.slice A3 c.conds.length c3]] w fun e w'=>e = .returned (.string (leafX c))∧Below w.heap.size w w':=by
 have H1:=Lib.hid h1
 have H2:=Lib.hid h2
 have hc1:=h1.cap
 have hc2:=h2.cap
 obtain ⟨S1,hS1⟩ : ∃S,S=leaf1 c:=⟨_,rfl⟩
 obtain ⟨S2,hS2⟩ : ∃S,S=leaf2 c:=⟨_,rfl⟩
 obtain ⟨S3,hS3⟩ : ∃S,S=leaf3 c:=⟨_,rfl⟩
 obtain ⟨S4,hS4⟩ : ∃S,S=leaf4 c:=⟨_,rfl⟩
 obtain ⟨S5,hS5⟩ : ∃S,S=leaf5 c:=⟨_,rfl⟩
 have HR:=Lib.hid (show leafX c=S5++(⟨#[41]⟩:ByteArray) by unfold leafX;rw [hS5])
 rw [HR.out,ByteArray.size_append] at hz
 have z5:S5.size+1≤MAXS:=hz
 have HS1:=Lib.hid hS1
 have E2:=Lib.hid (show S2=if c.goal=true then S1++(⟨#[115,116,97,116,101,32]⟩:ByteArray) else S1 by rw [hS2,hS1];rfl)
 have E3:=Lib.hid (show S3=S2++(⟨#[60]⟩:ByteArray)++c.id++(⟨#[62,32,94]⟩:ByteArray)++fieldX c.attr by rw [hS3,hS2];rfl)
 have E4:=Lib.hid (show S4=if 0<c.value.length then S3++(⟨#[32]⟩:ByteArray)++fieldX c.value else S3 by rw [hS4,hS3];rfl)
 have E5:=Lib.hid (show S5=if c.acc=true then S4++(⟨#[32,43]⟩:ByteArray) else S4 by rw [hS5,hS4];rfl)
 have z4:S4.size≤MAXS:=by
  have:=congrArg ByteArray.size E5.out
  split at this
  · rw [ByteArray.size_append] at this;omega
  · omega
 have z3:S3.size≤MAXS:=by
  have:=congrArg ByteArray.size E4.out
  split at this
  · rw [ByteArray.size_append,ByteArray.size_append] at this;omega
  · omega
 have z2:S2.size+1+c.id.size+3+(fieldX c.attr).size≤MAXS:=by
  have:=congrArg ByteArray.size E3.out
  rw [ByteArray.size_append,ByteArray.size_append,ByteArray.size_append,ByteArray.size_append] at this
  have e1:((⟨#[60]⟩:ByteArray)).size=1:=rfl
  have e3:((⟨#[62,32,94]⟩:ByteArray)).size=3:=rfl
  omega
 have Z1:=Lib.hid (show c.goal=true→S1.size+6≤MAXS from fun h=>by
  have:=congrArg ByteArray.size E2.out
  rw [if_pos h,ByteArray.size_append] at this
  have e6:((⟨#[115,116,97,116,101,32]⟩:ByteArray)).size=6:=rfl
  omega)
 have Z4:=Lib.hid (show 0<c.value.length→S3.size+1+(fieldX c.value).size≤MAXS from fun h=>by
  have:=congrArg ByteArray.size E4.out
  rw [if_pos h,ByteArray.size_append,ByteArray.size_append] at this
  have e1:((⟨#[32]⟩:ByteArray)).size=1:=rfl
  omega)
 have Z5:=Lib.hid (show c.acc=true→S4.size+2≤MAXS from fun h=>by
  have:=congrArg ByteArray.size E5.out
  rw [if_pos h,ByteArray.size_append] at this
  have e1:((⟨#[32,43]⟩:ByteArray)).size=2:=rfl
  omega)
 have y5 : ¬MAXS<S5.size+1:=Nat.not_lt.2 z5
 have y1 : ¬MAXS<S2.size+1:=by unfold MAXS at *;omega
 have y2 : ¬MAXS<S2.size+1+c.id.size:=by unfold MAXS at *;omega
 have y3 : ¬MAXS<S2.size+1+c.id.size+3:=by unfold MAXS at *;omega
 have y4 : ¬MAXS<S2.size+1+c.id.size+3+(fieldX c.attr).size:=Nat.not_lt.2 z2
 have HF1:=Lib.hid (show (fieldX c.attr).size≤MAXS by omega)
 have HY:=Lib.hid (And.intro y5 (And.intro y1 (And.intro y2 (And.intro y3 y4))))
 clear h1 h2 hS1 hS2 hS3 hS4 hS5 hz z5 z4 z3 z2 y5 y1 y2 y3 y4
 have ka:(c.kind == 3)=false:=by simp [hk]
 have kb:decide (c.kind=3)=false:=by simp [hk]
 clear hk
 go_enter Try.func80,Try.ntmps80
 go_upto_region 1 with fail
 obtain ⟨w1,hw1⟩ : ∃w1,w1=(w.alloc (.cells #[.int .i64 c.kind,.bool c.goal,.string c.id,.slice A1 c.attr.length c1,.slice A2 c.value.length c2,.bool c.acc,.slice A3 c.conds.length c3] 50)):=⟨_,rfl⟩
 rw [← hw1]
 have HB:=Lib.hid (show Below w.heap.size w w1 by rw [hw1];exact (by repeat (first | exact Below.refl _ _ | refine Below.drew ?_ | refine Below.al ?_ _ | refine Below.sc ?_ _)))
 have Kb:=Lib.hid (show Blk w1 (w.heap.size) 50 #[.int .i64 c.kind,.bool c.goal,.string c.id,.slice A1 c.attr.length c1,.slice A2 c.value.length c2,.bool c.acc,.slice A3 c.conds.length c3] by rw [hw1];exact (Blk.new w 50 #[.int .i64 c.kind,.bool c.goal,.string c.id,.slice A1 c.attr.length c1,.slice A2 c.value.length c2,.bool c.acc,.slice A3 c.conds.length c3]))
 clear hw1
 obtain ⟨b0,b1,b2,b3,b4,b5,b6⟩:=Kb.out.c7
 have bz:=Kb.out.lt
 obtain ⟨vg,hvg⟩ : ∃v,v=c.goal:=⟨_,rfl⟩
 rw [← hvg] at b1
 have HVG:=Lib.hid hvg
 obtain ⟨va,hva⟩ : ∃v,v=c.acc:=⟨_,rfl⟩
 rw [← hva] at b5
 have HVA:=Lib.hid hva
 clear hvg hva
 go_upto_if 31 with fail
 go_cut [6] from 29 (fun s wc=>s = .string S1∧wc=w1)
 case first=>
  by_cases h2:c.kind=2
  · have k2a:(c.kind == 2)=true:=by simp [h2]
    have k2b:decide (c.kind=2)=true:=by simp [h2]
    have HV:=Lib.hid (show S1=(⟨#[45,40]⟩:ByteArray) by rw [HS1.out];unfold leaf1;rw [if_pos h2])
    clear h2
    go_wp2_with fail
    go_meet
    case rel=>exact ⟨by rw [HV.out],rfl⟩
  · have k2a:(c.kind == 2)=false:=by simp [h2]
    have k2b:decide (c.kind=2)=false:=by simp [h2]
    have HV:=Lib.hid (show S1=(⟨#[40]⟩:ByteArray) by rw [HS1.out];unfold leaf1;rw [if_neg h2])
    clear h2
    go_wp2_with fail
    go_meet
    case rel=>exact ⟨by rw [HV.out],rfl⟩
 case rest=>
  obtain ⟨rfl,rfl⟩:=hcut
  go_upto_if 33 with fail
  go_cut [6] from 29 (fun s w0=>s = .string S2∧w0=wc)
  case first=>
   cases vg
   · have HV:=Lib.hid (show S2=S1 by rw [E2.out,← HVG.out];rfl)
     go_wp2_with fail
     go_meet
     case rel=>exact ⟨by rw [HV.out],rfl⟩
   · have HV:=Lib.hid (show S2=S1++(⟨#[115,116,97,116,101,32]⟩:ByteArray) by rw [E2.out,← HVG.out];rfl)
     have y6 : ¬MAXS<S1.size+6:=Nat.not_lt.2 (Z1.out HVG.out.symm)
     go_wp2_with fail
     go_meet
     case rel=>exact ⟨by rw [HV.out],rfl⟩
  case rest=>
   obtain ⟨rfl,rfl⟩:=hcut
   obtain ⟨y5,y1,y2,y3,y4⟩:=HY.out
   go_upto_region 16 with fail
   refine wp_region_E (fun w9=>Below wc.heap.size wc w9) [(0,0),(1,0),(2,0),(3,1),(4,0),(5,0),(6,0),(7,1),(8,2),(9,0),(10,0)] (by kernel_rfl) (by kernel_rfl) (fun KK hKK=>?_)
   simp only [beside,List.filterMap_cons,List.filterMap_nil,List.getElem?_toArray,List.getElem?_cons_zero,List.getElem?_cons_succ,Option.map_some]
   repeat ((first | (refine wpX_w ?_ (Or.inl ⟨by rfl,fun w9=>?_⟩) ?_;rotate_left 1;go_simp;with_reducible rfl) | (refine wpX_l ?_ (((Below.refl _ _).drew)) (Or.inl ⟨by rfl,fun w9 hw9=>?_⟩) ?_;rotate_left 1;obtain ⟨hc9,hf9⟩:=bcell hw9;go_simp;with_reducible rfl) | refine wpX_w undef (Or.inr ⟨by rfl,rfl⟩) ?_ | refine wpX_l undef (((Below.refl _ _).drew)) (Or.inr ⟨by rfl,rfl⟩) ?_);go_frame)
   refine wpX_es (fun K9 hK9=>?_)
   go_simp
   refine (sfield_is c.attr _ ((H1.out.new_ HB.out).new_ ((Below.refl _ _).drew)) HF1.out).mono ?_
   rintro e w5 ⟨rfl,hb5⟩
   have HB5:=Lib.hid (show Below wc.heap.size wc w5 from ((Below.refl wc.heap.size wc).drew).trans hb5)
   have HK5:=Lib.hid (Kb.out.new_ HB5.out)
   clear hb5
   refine hK9 _ _ HB5.out ?_
   clear hK9 K9
   repeat ((first | (refine wpX_w ?_ (Or.inl ⟨by rfl,fun w9=>?_⟩) ?_;rotate_left 1;go_simp;with_reducible rfl) | (refine wpX_l ?_ (HB5.out) (Or.inl ⟨by rfl,fun w9 hw9=>?_⟩) ?_;rotate_left 1;obtain ⟨hc9,hf9⟩:=bcell hw9;go_simp;with_reducible rfl) | refine wpX_w undef (Or.inr ⟨by rfl,rfl⟩) ?_ | refine wpX_l undef (HB5.out) (Or.inr ⟨by rfl,rfl⟩) ?_);go_frame)
   refine wpX_nil ?_
   simp only [OnlyN_normal]
   refine hKK _ _ ?_
   clear hKK KK
   rw [← E3.out]
   clear y1 y2 y3 y4 b0 b1 b2 b3 b4 b5 b6 bz
   have b4:w5.cell? ⟨w.heap.size,4,none⟩=some (.slice A2 c.value.length c2):=(HK5.out.cell 4).trans rfl
   have b5:w5.cell? ⟨w.heap.size,5,none⟩=some (.bool c.acc):=(HK5.out.cell 5).trans rfl
   rw [← HVA.out] at b5
   have bz:=HK5.out.lt
   have HBW:=Lib.hid (HB.out.trans (HB5.out.mono HB.out.size))
   go_upto_if 49 with fail
   go_cut [6] from 29 (fun s wd=>s = .string S4∧Below w5.heap.size w5 wd)
   case first=>
    by_cases hv:0<c.value.length
    · have g1:decide ((0:Int)<(c.value.length:Int))=true:=decide_eq_true (by omega)
      have g2:decide (0<c.value.length)=true:=decide_eq_true hv
      have HV:=Lib.hid (show S4=S3++(⟨#[32]⟩:ByteArray)++fieldX c.value by rw [E4.out,if_pos hv])
      have z4:=Z4.out hv
      have y6 : ¬MAXS<S3.size+1:=by unfold MAXS at *;omega
      have y7 : ¬MAXS<S3.size+1+(fieldX c.value).size:=Nat.not_lt.2 z4
      have HF2:=Lib.hid (show (fieldX c.value).size≤MAXS by omega)
      clear z4 y5
      go_wp2_with fail
      refine (sfield_is c.value _ (H2.out.new_ HBW.out) HF2.out).mono ?_
      rintro e w6 ⟨rfl,hb6⟩
      have HB6:=Lib.hid hb6
      clear hb6 b4 b5 bz
      go_wp2_with fail
      go_meet
      case rel=>exact ⟨by rw [HV.out],HB6.out⟩
    · have g1:decide ((0:Int)<(c.value.length:Int))=false:=decide_eq_false (by omega)
      have g2:decide (0<c.value.length)=false:=decide_eq_false hv
      have HV:=Lib.hid (show S4=S3 by rw [E4.out,if_neg hv])
      clear y5
      go_wp2_with fail
      go_meet
      case rel=>exact ⟨by rw [HV.out],Below.refl _ _⟩
   case rest=>
    obtain ⟨rfl,hbd⟩:=hcut
    have HBD:=Lib.hid hbd
    have HK7:=HK5.out.new_ hbd
    clear hbd b4 b5 bz
    have b5:wc.cell? ⟨w.heap.size,5,none⟩=some (.bool c.acc):=(HK7.cell 5).trans rfl
    rw [← HVA.out] at b5
    have bz:=HK7.lt
    clear HK7
    go_upto_if 57 with fail
    go_cut [6] from 29 (fun s we=>s = .string S5∧we=wc)
    case first=>
     cases va
     · have HV:=Lib.hid (show S5=S4 by rw [E5.out,← HVA.out];rfl)
       go_wp2_with fail
       go_meet
       case rel=>exact ⟨by rw [HV.out],rfl⟩
     · have HV:=Lib.hid (show S5=S4++(⟨#[32,43]⟩:ByteArray) by rw [E5.out,← HVA.out];rfl)
       have y6 : ¬MAXS<S4.size+2:=Nat.not_lt.2 (Z5.out HVA.out.symm)
       go_wp2_with fail
       go_meet
       case rel=>exact ⟨by rw [HV.out],rfl⟩
    case rest=>
     obtain ⟨rfl,rfl⟩:=hcut
     go_wp2_with fail
     go_ret
     exact ⟨by rw [HR.out]<;>rfl,HBW.out.trans (HBD.out.mono HBW.out.size)⟩
end Go.Proofs.Ytffemfglngikbaa
namespace Go.Proofs.Ytffemfglngikbaa
open Go.RowKit Go.Shelf
attribute [local go_sem] Oper.semAt_some
set_option linter.unusedSimpArgs false
set_option maxRecDepth 100000 in
set_option maxHeartbeats 8000000 in
theorem scond_body (n:Nat) (ih : ∀m,n=m+1→SCond m):SCond n:=by
 intro c A1 c1 A2 c2 A3 c3 D w h1 h2 h3 hz
 by_cases hk:c.kind=3
 case neg=>
  have e:condX (n+1) c=leafX c:=by rw [condX,if_neg hk]
  rw [e] at hz ⊢
  exact scond_leaf c A1 c1 A2 c2 A3 c3 w h1 h2 hk hz
 have HR:=Lib.hid (show condX (n+1) c=(c.conds.foldl (allF (condX n)) (0,(⟨#[45,123]⟩:ByteArray))).2++(⟨#[125]⟩:ByteArray) by rw [condX,if_pos hk])
 rw [HR.out,ByteArray.size_append] at hz
 obtain ⟨T,hT⟩ : ∃T,T=(c.conds.foldl (allF (condX n)) (0,(⟨#[45,123]⟩:ByteArray))).2:=⟨_,rfl⟩
 rw [← hT] at HR hz
 have HT:=Lib.hid hT
 have hz9 : ¬MAXS<T.size+1:=Nat.not_lt.2 hz
 have hzz:T.size≤MAXS:=by unfold MAXS at hz9 ⊢;omega
 have H3:=Lib.hid h3
 have IH:=Lib.hid ih
 have hc1:=h1.cap
 have hc2:=h2.cap
 have hc3:=h3.cap
 have ka:(c.kind == 3)=true:=by simp [hk]
 have kb:decide (c.kind=3)=true:=by simp [hk]
 clear hk h1 h2 h3 ih hz hT
 go_enter Try.func80,Try.ntmps80
 go_upto_region 1 with fail
 obtain ⟨w1,hw1⟩ : ∃w1,w1=(w.alloc (.cells #[.int .i64 c.kind,.bool c.goal,.string c.id,.slice A1 c.attr.length c1,.slice A2 c.value.length c2,.bool c.acc,.slice A3 c.conds.length c3] 50)):=⟨_,rfl⟩
 rw [← hw1]
 have HB:=Lib.hid (show Below w.heap.size w w1 by rw [hw1];exact (by repeat (first | exact Below.refl _ _ | refine Below.drew ?_ | refine Below.al ?_ _ | refine Below.sc ?_ _)))
 have Kb:=Lib.hid (show Blk w1 (w.heap.size) 50 #[.int .i64 c.kind,.bool c.goal,.string c.id,.slice A1 c.attr.length c1,.slice A2 c.value.length c2,.bool c.acc,.slice A3 c.conds.length c3] by rw [hw1];exact (Blk.new w 50 #[.int .i64 c.kind,.bool c.goal,.string c.id,.slice A1 c.attr.length c1,.slice A2 c.value.length c2,.bool c.acc,.slice A3 c.conds.length c3]))
 clear hw1
 obtain ⟨b0,b1,b2,b3,b4,b5,b6⟩:=Kb.out.c7
 have bz:=Kb.out.lt
 go_wp2_with fail
 clear b0 b1 b2 b3 b4 b5 b6 bz 
 go_loopw [3,13] (fun s i wr=>∃k:Nat,i = .int .i64 k∧k≤c.conds.length∧s = .string ((c.conds.take k).foldl (allF (condX n)) (0,(⟨#[45,123]⟩:ByteArray))).2∧Below w1.heap.size w1 wr) (fun s i wr=>c.conds.length - (intOf i).toNat)
 case atStart=>exact ⟨0,rfl,Nat.zero_le _,rfl,Below.refl _ _⟩
 case round=>
  obtain ⟨k,rfl,hk,rfl,hb⟩:=hrel
  have HBR:=Lib.hid hb
  have HBW:=Lib.hid (HB.out.trans (hb.mono HB.out.size))
  clear hb
  by_cases hlt:k<c.conds.length
  · have hrw:=H3.out.new_ HBW.out
    obtain ⟨m,hnm⟩ : ∃m,n=m+1:=by
     cases n with
     | zero=>rw [row0 hrw] at hlt;simp at hlt
     | succ m=>exact ⟨m,rfl⟩
    subst hnm
    obtain ⟨g,off,B1,d1,B2,d2,B3,d3,hA0,_,hg,q0,q1,q2,q3,q4,q5,q6,hy1,hy2,hy3⟩:=at_CondT hrw hlt
    subst hA0
    obtain ⟨y,hy⟩ : ∃y,y=c.conds[k]:=⟨_,rfl⟩
    obtain ⟨S,hS⟩ : ∃S,S=((c.conds.take k).foldl (allF (condX (m+1))) (0,(⟨#[45,123]⟩:ByteArray))).2:=⟨_,rfl⟩
    have HN:=Lib.hid (show ((c.conds.take (k+1)).foldl (allF (condX (m+1))) (0,(⟨#[45,123]⟩:ByteArray))).2=(if 0<k then S++(⟨#[32]⟩:ByteArray) else S)++condX (m+1) y by rw [allF_snoc _ hlt,← hS,← hy])
    have hle:=allF_take (condX (m+1)) (l:=c.conds) (i:=k+1) (⟨#[45,123]⟩:ByteArray)
    rw [HN.out,← HT.out,ByteArray.size_append] at hle
    rw [← hy] at q0 q1 q2 q3 q4 q5 q6 hy1 hy2 hy3
    have HZY:=Lib.hid (show (condX (m+1) y).size≤MAXS by omega)
    have bh:Below wr.heap.size wr (wr.alloc (.cells #[.int .i64 y.kind,.bool y.goal,.string y.id,.slice B1 y.attr.length d1,.slice B2 y.value.length d2,.bool y.acc,.slice B3 y.conds.length d3] 50)):=(Below.refl _ _).alloc (Nat.le_refl _) _
    have HIH:=Lib.hid (IH.out m rfl y B1 d1 B2 d2 B3 d3 D (wr.alloc (.cells #[.int .i64 y.kind,.bool y.goal,.string y.id,.slice B1 y.attr.length d1,.slice B2 y.value.length d2,.bool y.acc,.slice B3 y.conds.length d3] 50)) (hy1.new_ bh) (hy2.new_ bh) (hy3.new_ bh) HZY.out)
    have b1_:(0:Int)≤(k:Int):=by omega
    have b2_:(k:Int)<(c.conds.length:Int):=by omega
    rw [← hS]
    by_cases hk0:0<k
    · have g1:decide ((0:Int)<(k:Int))=true:=decide_eq_true (by omega)
      have g2:decide (0<k)=true:=decide_eq_true hk0
      rw [if_pos hk0] at HN hle
      rw [ByteArray.size_append] at hle
      have y1 : ¬MAXS<S.size+1:=Nat.not_lt.2 (by have e:((⟨#[32]⟩:ByteArray)).size=1:=rfl;unfold MAXS at *;omega)
      have y2 : ¬MAXS<S.size+1+(condX (m+1) y).size:=Nat.not_lt.2 (by have e:((⟨#[32]⟩:ByteArray)).size=1:=rfl;unfold MAXS at *;omega)
      clear hy hS hle hrw hy1 hy2 hy3 hz9 hzz
      go_wp2_with fail
      refine HIH.out.mono ?_
      rintro e w5 ⟨rfl,hb5⟩
      have HB5:=Lib.hid (HBR.out.trans ((bh.trans (hb5.mono bh.size)).mono HBR.out.size))
      clear hb5 bh q0 q1 q2 q3 q4 q5 q6
      go_wp2_with fail
      go_roundw
      case rel=>exact ⟨k+1,by go_num,by omega,by rw [HN.out],HB5.out⟩
      case measure=>simp [intOf]<;>omega
    · have g1:decide ((0:Int)<(k:Int))=false:=decide_eq_false (by omega)
      have g2:decide (0<k)=false:=decide_eq_false hk0
      rw [if_neg hk0] at HN hle
      have y2 : ¬MAXS<S.size+(condX (m+1) y).size:=Nat.not_lt.2 (by unfold MAXS at *;omega)
      clear hy hS hle hrw hy1 hy2 hy3 hz9 hzz
      go_wp2_with fail
      refine HIH.out.mono ?_
      rintro e w5 ⟨rfl,hb5⟩
      have HB5:=Lib.hid (HBR.out.trans ((bh.trans (hb5.mono bh.size)).mono HBR.out.size))
      clear hb5 bh q0 q1 q2 q3 q4 q5 q6
      go_wp2_with fail
      go_roundw
      case rel=>exact ⟨k+1,by go_num,by omega,by rw [HN.out],HB5.out⟩
      case measure=>simp [intOf]<;>omega
  · obtain rfl:k=c.conds.length:=by omega
    rw [List.take_length,← HT.out]
    go_wp2_with fail
    go_ret
    exact ⟨by rw [HR.out]<;>rfl,HBW.out⟩
theorem scond_is : ∀n,SCond n
 | 0=>scond_body 0 (fun m h=>by omega)
 | n+1=>scond_body (n+1) (fun m h=>by obtain rfl:m=n:=by omega
                                      exact scond_is m)
set_option maxRecDepth 100000 in
set_option maxHeartbeats 8000000 in
theorem sterm_is (t:TermT) (w:World) (hz:(termX t).size≤MAXS):Calls Try.prog 94 #[.agg #[.int .i64 t.op,.string t.a.var,.int .i64 t.a.sym.kind,.string t.a.sym.text,.int .i64 t.a.sym.n,.string t.b.var,.int .i64 t.b.sym.kind,.string t.b.sym.text,.int .i64 t.b.sym.n]] w fun e w'=>e = .returned (.string (termX t))∧Below w.heap.size w w':=by
 by_cases h1:t.op=1
 · skip
   have oa:(t.op == 1)=true:=by simp [h1]
   have ob:decide (t.op=1)=true:=by simp [h1]
   have HR:=Lib.hid (show termX t=(⟨#[40]⟩:ByteArray)++(⟨#[43]⟩:ByteArray)++(⟨#[32]⟩:ByteArray)++atomX t.a.var t.a.sym++(⟨#[32]⟩:ByteArray)++atomX t.b.var t.b.sym++(⟨#[41]⟩:ByteArray) by
    unfold termX
    rw [if_pos (by omega),show opX t.op=(⟨#[43]⟩:ByteArray) by unfold opX;simp [h1]])
   rw [HR.out] at hz
   simp only [ByteArray.size_append] at hz
   have ez:((⟨#[40]⟩:ByteArray)).size=1:=rfl
   have eg:((⟨#[43]⟩:ByteArray)).size=1:=rfl
   have es:((⟨#[32]⟩:ByteArray)).size=1:=rfl
   have ec:((⟨#[41]⟩:ByteArray)).size=1:=rfl
   rw [ez,eg,es,ec] at hz
   have y1 : ¬MAXS<1+1+1+(atomX t.a.var t.a.sym).size:=by unfold MAXS at *;omega
   have y2 : ¬MAXS<1+1+1+(atomX t.a.var t.a.sym).size+1:=by unfold MAXS at *;omega
   have y3 : ¬MAXS<1+1+1+(atomX t.a.var t.a.sym).size+1+(atomX t.b.var t.b.sym).size:=by unfold MAXS at *;omega
   have y4 : ¬MAXS<1+1+1+(atomX t.a.var t.a.sym).size+1+(atomX t.b.var t.b.sym).size+1:=by unfold MAXS at *;omega
   have x1 : ¬MAXS<3+(atomX t.a.var t.a.sym).size:=y1
   have x2 : ¬MAXS<3+(atomX t.a.var t.a.sym).size+1:=y2
   have x3 : ¬MAXS<3+(atomX t.a.var t.a.sym).size+1+(atomX t.b.var t.b.sym).size:=y3
   have x4 : ¬MAXS<3+(atomX t.a.var t.a.sym).size+1+(atomX t.b.var t.b.sym).size+1:=y4
   have HA:=Lib.hid (show (atomX t.a.var t.a.sym).size≤MAXS by unfold MAXS at *;omega)
   have HBB:=Lib.hid (show (atomX t.b.var t.b.sym).size≤MAXS by unfold MAXS at *;omega)
   clear hz ez eg es ec h1
   go_enter Try.func94,Try.ntmps94
   go_upto_region 1 with fail
   obtain ⟨w1,hw1⟩ : ∃w1,w1=(w.alloc (.cells #[.int .i64 t.op,.string t.a.var,.int .i64 t.a.sym.kind,.string t.a.sym.text,.int .i64 t.a.sym.n,.string t.b.var,.int .i64 t.b.sym.kind,.string t.b.sym.text,.int .i64 t.b.sym.n] 56)):=⟨_,rfl⟩
   rw [← hw1]
   have HB:=Lib.hid (show Below w.heap.size w w1 by rw [hw1];exact (by repeat (first | exact Below.refl _ _ | refine Below.drew ?_ | refine Below.al ?_ _ | refine Below.sc ?_ _)))
   have Kb:=Lib.hid (show Blk w1 (w.heap.size) 56 #[.int .i64 t.op,.string t.a.var,.int .i64 t.a.sym.kind,.string t.a.sym.text,.int .i64 t.a.sym.n,.string t.b.var,.int .i64 t.b.sym.kind,.string t.b.sym.text,.int .i64 t.b.sym.n] by rw [hw1];exact (Blk.new w 56 #[.int .i64 t.op,.string t.a.var,.int .i64 t.a.sym.kind,.string t.a.sym.text,.int .i64 t.a.sym.n,.string t.b.var,.int .i64 t.b.sym.kind,.string t.b.sym.text,.int .i64 t.b.sym.n]))
   clear hw1
   obtain ⟨b0,b1,b2,b3,b4,b5,b6,b7,b8⟩:=Kb.out.c9
   have bz:=Kb.out.lt
   go_upto_region 10 with fail
   refine wp_region_E (fun w9=>Below w1.heap.size w1 w9) [(0,0),(1,0),(2,0),(3,0),(4,0),(5,1),(6,0),(7,0),(8,1),(12,0),(13,0),(14,1),(15,0),(16,0),(17,1),(9,2),(10,0),(11,0),(18,2),(19,0),(20,0),(21,0)] (by kernel_rfl) (by kernel_rfl) (fun KK hKK=>?_)
   simp only [beside,List.filterMap_cons,List.filterMap_nil,List.getElem?_toArray,List.getElem?_cons_zero,List.getElem?_cons_succ,Option.map_some]
   repeat ((first | (refine wpX_w ?_ (Or.inl ⟨by rfl,fun w9=>?_⟩) ?_;rotate_left 1;go_simp;with_reducible rfl) | (refine wpX_l ?_ (((Below.refl _ _).drew)) (Or.inl ⟨by rfl,fun w9 hw9=>?_⟩) ?_;rotate_left 1;obtain ⟨hc9,hf9⟩:=bcell hw9;go_simp;with_reducible rfl) | refine wpX_w undef (Or.inr ⟨by rfl,rfl⟩) ?_ | refine wpX_l undef (((Below.refl _ _).drew)) (Or.inr ⟨by rfl,rfl⟩) ?_);go_frame)
   refine wpX_es (fun K9 hK9=>?_)
   go_simp
   refine (satom_is t.a.var t.a.sym _ HA.out).mono ?_
   rintro e w5 ⟨rfl,hb5⟩
   have HBa:=Lib.hid (show Below w1.heap.size w1 w5 from ((Below.refl w1.heap.size w1).drew).trans (hb5.mono (by first | exact Nat.le_refl _ | (have:=HBa.out.size;omega))))
   clear hb5
   refine hK9 _ _ HBa.out ?_
   clear hK9 K9
   repeat ((first | (refine wpX_w ?_ (Or.inl ⟨by rfl,fun w9=>?_⟩) ?_;rotate_left 1;go_simp;with_reducible rfl) | (refine wpX_l ?_ (HBa.out) (Or.inl ⟨by rfl,fun w9 hw9=>?_⟩) ?_;rotate_left 1;obtain ⟨hc9,hf9⟩:=bcell hw9;go_simp;with_reducible rfl) | refine wpX_w undef (Or.inr ⟨by rfl,rfl⟩) ?_ | refine wpX_l undef (HBa.out) (Or.inr ⟨by rfl,rfl⟩) ?_);go_frame)
   refine wpX_es (fun K9 hK9=>?_)
   go_simp
   refine (satom_is t.b.var t.b.sym _ HBB.out).mono ?_
   rintro e w6 ⟨rfl,hb5⟩
   have HBb:=Lib.hid (show Below w1.heap.size w1 w6 from (HBa.out).trans (hb5.mono (by first | exact Nat.le_refl _ | (have:=HBa.out.size;omega))))
   clear hb5
   refine hK9 _ _ HBb.out ?_
   clear hK9 K9
   repeat ((first | (refine wpX_w ?_ (Or.inl ⟨by rfl,fun w9=>?_⟩) ?_;rotate_left 1;go_simp;with_reducible rfl) | (refine wpX_l ?_ (HBa.out) (Or.inl ⟨by rfl,fun w9 hw9=>?_⟩) ?_;rotate_left 1;obtain ⟨hc9,hf9⟩:=bcell hw9;go_simp;with_reducible rfl) | refine wpX_w undef (Or.inr ⟨by rfl,rfl⟩) ?_ | refine wpX_l undef (HBa.out) (Or.inr ⟨by rfl,rfl⟩) ?_);go_frame)
   refine wpX_nil ?_
   simp only [OnlyN_normal]
   refine hKK _ _ ?_
   clear hKK KK
   go_wp2_with fail
   go_ret
   exact ⟨by rw [HR.out]<;>rfl,HB.out.trans (HBb.out.mono HB.out.size)⟩
 · skip
   by_cases h2:t.op=2
   · skip
     have u1:(t.op == 1)=false:=by simp [h2]
     have v1:decide (t.op=1)=false:=by simp [h2]
     have oa:(t.op == 2)=true:=by simp [h2]
     have ob:decide (t.op=2)=true:=by simp [h2]
     have HR:=Lib.hid (show termX t=(⟨#[40]⟩:ByteArray)++(⟨#[45]⟩:ByteArray)++(⟨#[32]⟩:ByteArray)++atomX t.a.var t.a.sym++(⟨#[32]⟩:ByteArray)++atomX t.b.var t.b.sym++(⟨#[41]⟩:ByteArray) by
      unfold termX
      rw [if_pos (by omega),show opX t.op=(⟨#[45]⟩:ByteArray) by unfold opX;simp [h2]])
     rw [HR.out] at hz
     simp only [ByteArray.size_append] at hz
     have ez:((⟨#[40]⟩:ByteArray)).size=1:=rfl
     have eg:((⟨#[45]⟩:ByteArray)).size=1:=rfl
     have es:((⟨#[32]⟩:ByteArray)).size=1:=rfl
     have ec:((⟨#[41]⟩:ByteArray)).size=1:=rfl
     rw [ez,eg,es,ec] at hz
     have y1 : ¬MAXS<1+1+1+(atomX t.a.var t.a.sym).size:=by unfold MAXS at *;omega
     have y2 : ¬MAXS<1+1+1+(atomX t.a.var t.a.sym).size+1:=by unfold MAXS at *;omega
     have y3 : ¬MAXS<1+1+1+(atomX t.a.var t.a.sym).size+1+(atomX t.b.var t.b.sym).size:=by unfold MAXS at *;omega
     have y4 : ¬MAXS<1+1+1+(atomX t.a.var t.a.sym).size+1+(atomX t.b.var t.b.sym).size+1:=by unfold MAXS at *;omega
     have x1 : ¬MAXS<3+(atomX t.a.var t.a.sym).size:=y1
     have x2 : ¬MAXS<3+(atomX t.a.var t.a.sym).size+1:=y2
     have x3 : ¬MAXS<3+(atomX t.a.var t.a.sym).size+1+(atomX t.b.var t.b.sym).size:=y3
     have x4 : ¬MAXS<3+(atomX t.a.var t.a.sym).size+1+(atomX t.b.var t.b.sym).size+1:=y4
     have HA:=Lib.hid (show (atomX t.a.var t.a.sym).size≤MAXS by unfold MAXS at *;omega)
     have HBB:=Lib.hid (show (atomX t.b.var t.b.sym).size≤MAXS by unfold MAXS at *;omega)
     clear hz ez eg es ec h1 h2
     go_enter Try.func94,Try.ntmps94
     go_upto_region 1 with fail
     obtain ⟨w1,hw1⟩ : ∃w1,w1=(w.alloc (.cells #[.int .i64 t.op,.string t.a.var,.int .i64 t.a.sym.kind,.string t.a.sym.text,.int .i64 t.a.sym.n,.string t.b.var,.int .i64 t.b.sym.kind,.string t.b.sym.text,.int .i64 t.b.sym.n] 56)):=⟨_,rfl⟩
     rw [← hw1]
     have HB:=Lib.hid (show Below w.heap.size w w1 by rw [hw1];exact (by repeat (first | exact Below.refl _ _ | refine Below.drew ?_ | refine Below.al ?_ _ | refine Below.sc ?_ _)))
     have Kb:=Lib.hid (show Blk w1 (w.heap.size) 56 #[.int .i64 t.op,.string t.a.var,.int .i64 t.a.sym.kind,.string t.a.sym.text,.int .i64 t.a.sym.n,.string t.b.var,.int .i64 t.b.sym.kind,.string t.b.sym.text,.int .i64 t.b.sym.n] by rw [hw1];exact (Blk.new w 56 #[.int .i64 t.op,.string t.a.var,.int .i64 t.a.sym.kind,.string t.a.sym.text,.int .i64 t.a.sym.n,.string t.b.var,.int .i64 t.b.sym.kind,.string t.b.sym.text,.int .i64 t.b.sym.n]))
     clear hw1
     obtain ⟨b0,b1,b2,b3,b4,b5,b6,b7,b8⟩:=Kb.out.c9
     have bz:=Kb.out.lt
     go_upto_region 10 with fail
     refine wp_region_E (fun w9=>Below w1.heap.size w1 w9) [(0,0),(1,0),(2,0),(3,0),(4,0),(5,1),(6,0),(7,0),(8,1),(12,0),(13,0),(14,1),(15,0),(16,0),(17,1),(9,2),(10,0),(11,0),(18,2),(19,0),(20,0),(21,0)] (by kernel_rfl) (by kernel_rfl) (fun KK hKK=>?_)
     simp only [beside,List.filterMap_cons,List.filterMap_nil,List.getElem?_toArray,List.getElem?_cons_zero,List.getElem?_cons_succ,Option.map_some]
     repeat ((first | (refine wpX_w ?_ (Or.inl ⟨by rfl,fun w9=>?_⟩) ?_;rotate_left 1;go_simp;with_reducible rfl) | (refine wpX_l ?_ (((Below.refl _ _).drew)) (Or.inl ⟨by rfl,fun w9 hw9=>?_⟩) ?_;rotate_left 1;obtain ⟨hc9,hf9⟩:=bcell hw9;go_simp;with_reducible rfl) | refine wpX_w undef (Or.inr ⟨by rfl,rfl⟩) ?_ | refine wpX_l undef (((Below.refl _ _).drew)) (Or.inr ⟨by rfl,rfl⟩) ?_);go_frame)
     refine wpX_es (fun K9 hK9=>?_)
     go_simp
     refine (satom_is t.a.var t.a.sym _ HA.out).mono ?_
     rintro e w5 ⟨rfl,hb5⟩
     have HBa:=Lib.hid (show Below w1.heap.size w1 w5 from ((Below.refl w1.heap.size w1).drew).trans (hb5.mono (by first | exact Nat.le_refl _ | (have:=HBa.out.size;omega))))
     clear hb5
     refine hK9 _ _ HBa.out ?_
     clear hK9 K9
     repeat ((first | (refine wpX_w ?_ (Or.inl ⟨by rfl,fun w9=>?_⟩) ?_;rotate_left 1;go_simp;with_reducible rfl) | (refine wpX_l ?_ (HBa.out) (Or.inl ⟨by rfl,fun w9 hw9=>?_⟩) ?_;rotate_left 1;obtain ⟨hc9,hf9⟩:=bcell hw9;go_simp;with_reducible rfl) | refine wpX_w undef (Or.inr ⟨by rfl,rfl⟩) ?_ | refine wpX_l undef (HBa.out) (Or.inr ⟨by rfl,rfl⟩) ?_);go_frame)
     refine wpX_es (fun K9 hK9=>?_)
     go_simp
     refine (satom_is t.b.var t.b.sym _ HBB.out).mono ?_
     rintro e w6 ⟨rfl,hb5⟩
     have HBb:=Lib.hid (show Below w1.heap.size w1 w6 from (HBa.out).trans (hb5.mono (by first | exact Nat.le_refl _ | (have:=HBa.out.size;omega))))
     clear hb5
     refine hK9 _ _ HBb.out ?_
     clear hK9 K9
     repeat ((first | (refine wpX_w ?_ (Or.inl ⟨by rfl,fun w9=>?_⟩) ?_;rotate_left 1;go_simp;with_reducible rfl) | (refine wpX_l ?_ (HBa.out) (Or.inl ⟨by rfl,fun w9 hw9=>?_⟩) ?_;rotate_left 1;obtain ⟨hc9,hf9⟩:=bcell hw9;go_simp;with_reducible rfl) | refine wpX_w undef (Or.inr ⟨by rfl,rfl⟩) ?_ | refine wpX_l undef (HBa.out) (Or.inr ⟨by rfl,rfl⟩) ?_);go_frame)
     refine wpX_nil ?_
     simp only [OnlyN_normal]
     refine hKK _ _ ?_
     clear hKK KK
     go_wp2_with fail
     go_ret
     exact ⟨by rw [HR.out]<;>rfl,HB.out.trans (HBb.out.mono HB.out.size)⟩
   · skip
     by_cases h3:t.op=3
     · skip
       have u1:(t.op == 1)=false:=by simp [h3]
       have v1:decide (t.op=1)=false:=by simp [h3]
       have u2:(t.op == 2)=false:=by simp [h3]
       have v2:decide (t.op=2)=false:=by simp [h3]
       have oa:(t.op == 3)=true:=by simp [h3]
       have ob:decide (t.op=3)=true:=by simp [h3]
       have HR:=Lib.hid (show termX t=(⟨#[40]⟩:ByteArray)++(⟨#[42]⟩:ByteArray)++(⟨#[32]⟩:ByteArray)++atomX t.a.var t.a.sym++(⟨#[32]⟩:ByteArray)++atomX t.b.var t.b.sym++(⟨#[41]⟩:ByteArray) by
        unfold termX
        rw [if_pos (by omega),show opX t.op=(⟨#[42]⟩:ByteArray) by unfold opX;simp [h3]])
       rw [HR.out] at hz
       simp only [ByteArray.size_append] at hz
       have ez:((⟨#[40]⟩:ByteArray)).size=1:=rfl
       have eg:((⟨#[42]⟩:ByteArray)).size=1:=rfl
       have es:((⟨#[32]⟩:ByteArray)).size=1:=rfl
       have ec:((⟨#[41]⟩:ByteArray)).size=1:=rfl
       rw [ez,eg,es,ec] at hz
       have y1 : ¬MAXS<1+1+1+(atomX t.a.var t.a.sym).size:=by unfold MAXS at *;omega
       have y2 : ¬MAXS<1+1+1+(atomX t.a.var t.a.sym).size+1:=by unfold MAXS at *;omega
       have y3 : ¬MAXS<1+1+1+(atomX t.a.var t.a.sym).size+1+(atomX t.b.var t.b.sym).size:=by unfold MAXS at *;omega
       have y4 : ¬MAXS<1+1+1+(atomX t.a.var t.a.sym).size+1+(atomX t.b.var t.b.sym).size+1:=by unfold MAXS at *;omega
       have x1 : ¬MAXS<3+(atomX t.a.var t.a.sym).size:=y1
       have x2 : ¬MAXS<3+(atomX t.a.var t.a.sym).size+1:=y2
       have x3 : ¬MAXS<3+(atomX t.a.var t.a.sym).size+1+(atomX t.b.var t.b.sym).size:=y3
       have x4 : ¬MAXS<3+(atomX t.a.var t.a.sym).size+1+(atomX t.b.var t.b.sym).size+1:=y4
       have HA:=Lib.hid (show (atomX t.a.var t.a.sym).size≤MAXS by unfold MAXS at *;omega)
       have HBB:=Lib.hid (show (atomX t.b.var t.b.sym).size≤MAXS by unfold MAXS at *;omega)
       clear hz ez eg es ec h1 h2 h3
       go_enter Try.func94,Try.ntmps94
       go_upto_region 1 with fail
       obtain ⟨w1,hw1⟩ : ∃w1,w1=(w.alloc (.cells #[.int .i64 t.op,.string t.a.var,.int .i64 t.a.sym.kind,.string t.a.sym.text,.int .i64 t.a.sym.n,.string t.b.var,.int .i64 t.b.sym.kind,.string t.b.sym.text,.int .i64 t.b.sym.n] 56)):=⟨_,rfl⟩
       rw [← hw1]
       have HB:=Lib.hid (show Below w.heap.size w w1 by rw [hw1];exact (by repeat (first | exact Below.refl _ _ | refine Below.drew ?_ | refine Below.al ?_ _ | refine Below.sc ?_ _)))
       have Kb:=Lib.hid (show Blk w1 (w.heap.size) 56 #[.int .i64 t.op,.string t.a.var,.int .i64 t.a.sym.kind,.string t.a.sym.text,.int .i64 t.a.sym.n,.string t.b.var,.int .i64 t.b.sym.kind,.string t.b.sym.text,.int .i64 t.b.sym.n] by rw [hw1];exact (Blk.new w 56 #[.int .i64 t.op,.string t.a.var,.int .i64 t.a.sym.kind,.string t.a.sym.text,.int .i64 t.a.sym.n,.string t.b.var,.int .i64 t.b.sym.kind,.string t.b.sym.text,.int .i64 t.b.sym.n]))
       clear hw1
       obtain ⟨b0,b1,b2,b3,b4,b5,b6,b7,b8⟩:=Kb.out.c9
       have bz:=Kb.out.lt
       go_upto_region 10 with fail
       refine wp_region_E (fun w9=>Below w1.heap.size w1 w9) [(0,0),(1,0),(2,0),(3,0),(4,0),(5,1),(6,0),(7,0),(8,1),(12,0),(13,0),(14,1),(15,0),(16,0),(17,1),(9,2),(10,0),(11,0),(18,2),(19,0),(20,0),(21,0)] (by kernel_rfl) (by kernel_rfl) (fun KK hKK=>?_)
       simp only [beside,List.filterMap_cons,List.filterMap_nil,List.getElem?_toArray,List.getElem?_cons_zero,List.getElem?_cons_succ,Option.map_some]
       repeat ((first | (refine wpX_w ?_ (Or.inl ⟨by rfl,fun w9=>?_⟩) ?_;rotate_left 1;go_simp;with_reducible rfl) | (refine wpX_l ?_ (((Below.refl _ _).drew)) (Or.inl ⟨by rfl,fun w9 hw9=>?_⟩) ?_;rotate_left 1;obtain ⟨hc9,hf9⟩:=bcell hw9;go_simp;with_reducible rfl) | refine wpX_w undef (Or.inr ⟨by rfl,rfl⟩) ?_ | refine wpX_l undef (((Below.refl _ _).drew)) (Or.inr ⟨by rfl,rfl⟩) ?_);go_frame)
       refine wpX_es (fun K9 hK9=>?_)
       go_simp
       refine (satom_is t.a.var t.a.sym _ HA.out).mono ?_
       rintro e w5 ⟨rfl,hb5⟩
       have HBa:=Lib.hid (show Below w1.heap.size w1 w5 from ((Below.refl w1.heap.size w1).drew).trans (hb5.mono (by first | exact Nat.le_refl _ | (have:=HBa.out.size;omega))))
       clear hb5
       refine hK9 _ _ HBa.out ?_
       clear hK9 K9
       repeat ((first | (refine wpX_w ?_ (Or.inl ⟨by rfl,fun w9=>?_⟩) ?_;rotate_left 1;go_simp;with_reducible rfl) | (refine wpX_l ?_ (HBa.out) (Or.inl ⟨by rfl,fun w9 hw9=>?_⟩) ?_;rotate_left 1;obtain ⟨hc9,hf9⟩:=bcell hw9;go_simp;with_reducible rfl) | refine wpX_w undef (Or.inr ⟨by rfl,rfl⟩) ?_ | refine wpX_l undef (HBa.out) (Or.inr ⟨by rfl,rfl⟩) ?_);go_frame)
       refine wpX_es (fun K9 hK9=>?_)
       go_simp
       refine (satom_is t.b.var t.b.sym _ HBB.out).mono ?_
       rintro e w6 ⟨rfl,hb5⟩
       have HBb:=Lib.hid (show Below w1.heap.size w1 w6 from (HBa.out).trans (hb5.mono (by first | exact Nat.le_refl _ | (have:=HBa.out.size;omega))))
       clear hb5
       refine hK9 _ _ HBb.out ?_
       clear hK9 K9
       repeat ((first | (refine wpX_w ?_ (Or.inl ⟨by rfl,fun w9=>?_⟩) ?_;rotate_left 1;go_simp;with_reducible rfl) | (refine wpX_l ?_ (HBa.out) (Or.inl ⟨by rfl,fun w9 hw9=>?_⟩) ?_;rotate_left 1;obtain ⟨hc9,hf9⟩:=bcell hw9;go_simp;with_reducible rfl) | refine wpX_w undef (Or.inr ⟨by rfl,rfl⟩) ?_ | refine wpX_l undef (HBa.out) (Or.inr ⟨by rfl,rfl⟩) ?_);go_frame)
       refine wpX_nil ?_
       simp only [OnlyN_normal]
       refine hKK _ _ ?_
       clear hKK KK
       go_wp2_with fail
       go_ret
       exact ⟨by rw [HR.out]<;>rfl,HB.out.trans (HBb.out.mono HB.out.size)⟩
     · skip
       have u1:(t.op == 1)=false:=by simp [h1]
       have v1:decide (t.op=1)=false:=by simp [h1]
       have u2:(t.op == 2)=false:=by simp [h2]
       have v2:decide (t.op=2)=false:=by simp [h2]
       have u3:(t.op == 3)=false:=by simp [h3]
       have v3:decide (t.op=3)=false:=by simp [h3]
       have HR:=Lib.hid (show termX t=atomX t.a.var t.a.sym by unfold termX;rw [if_neg (by omega)])
       rw [HR.out] at hz
       have HZ:=Lib.hid hz
       clear h1 h2 h3 hz
       go_enter Try.func94,Try.ntmps94
       go_upto_region 1 with fail
       obtain ⟨w1,hw1⟩ : ∃w1,w1=(w.alloc (.cells #[.int .i64 t.op,.string t.a.var,.int .i64 t.a.sym.kind,.string t.a.sym.text,.int .i64 t.a.sym.n,.string t.b.var,.int .i64 t.b.sym.kind,.string t.b.sym.text,.int .i64 t.b.sym.n] 56)):=⟨_,rfl⟩
       rw [← hw1]
       have HB:=Lib.hid (show Below w.heap.size w w1 by rw [hw1];exact (by repeat (first | exact Below.refl _ _ | refine Below.drew ?_ | refine Below.al ?_ _ | refine Below.sc ?_ _)))
       have Kb:=Lib.hid (show Blk w1 (w.heap.size) 56 #[.int .i64 t.op,.string t.a.var,.int .i64 t.a.sym.kind,.string t.a.sym.text,.int .i64 t.a.sym.n,.string t.b.var,.int .i64 t.b.sym.kind,.string t.b.sym.text,.int .i64 t.b.sym.n] by rw [hw1];exact (Blk.new w 56 #[.int .i64 t.op,.string t.a.var,.int .i64 t.a.sym.kind,.string t.a.sym.text,.int .i64 t.a.sym.n,.string t.b.var,.int .i64 t.b.sym.kind,.string t.b.sym.text,.int .i64 t.b.sym.n]))
       clear hw1
       obtain ⟨b0,b1,b2,b3,b4,b5,b6,b7,b8⟩:=Kb.out.c9
       have bz:=Kb.out.lt
       go_wp2_with fail
       with_reducible refine (satom_is t.a.var t.a.sym _ HZ.out).mono ?_
       rintro e w2 ⟨rfl,hb⟩
       have hbs:=Below.trans (show Below w1.heap.size w1 _ from (by (repeat (first | exact Below.refl _ _ | refine Below.drew ?_ | refine Below.al ?_ _ | refine Below.sc ?_ _)))) (hb.mono (by simp<;>omega))
       have Kb:=Lib.hid (Kb.out.new_ hbs)
       have HB:=Lib.hid (HB.out.trans (hbs.mono HB.out.size))
       have hsz2:=hbs.size
       clear b0 b1 b2 b3 b4 b5 b6 b7 b8 bz hb hbs
       obtain ⟨b0,b1,b2,b3,b4,b5,b6,b7,b8⟩:=Kb.out.c9
       have bz:=Kb.out.lt
       go_wp2_with fail
       go_ret
       exact ⟨by rw [HR.out]<;>rfl,by (repeat (first | exact Below.refl _ _ | exact HB.out | refine Below.drew ?_ | refine Below.al ?_ _ | refine Below.sc ?_ _))⟩
end Go.Proofs.Ytffemfglngikbaa
namespace Go.Proofs.Ytffemfglngikbaa
open Go.RowKit Go.Shelf
attribute [local go_sem] Oper.semAt_some
set_option linter.unusedSimpArgs false
set_option maxRecDepth 100000 in
set_option maxHeartbeats 8000000 in
theorem sact_is (a:ActT) (w:World) (hz:(actX a).size≤MAXS):Calls Try.prog 81 #[.agg #[.string a.id,.string a.attr.var,.int .i64 a.attr.sym.kind,.string a.attr.sym.text,.int .i64 a.attr.sym.n,.int .i64 a.value.op,.string a.value.a.var,.int .i64 a.value.a.sym.kind,.string a.value.a.sym.text,.int .i64 a.value.a.sym.n,.string a.value.b.var,.int .i64 a.value.b.sym.kind,.string a.value.b.sym.text,.int .i64 a.value.b.sym.n,.int .i64 a.pref,.string a.other.var,.int .i64 a.other.sym.kind,.string a.other.sym.text,.int .i64 a.other.sym.n]] w fun e w'=>e = .returned (.string (actX a))∧Below w.heap.size w w':=by
 obtain ⟨S,hS⟩ : ∃S,S=(⟨#[40,60]⟩:ByteArray)++a.id++(⟨#[62,32,94]⟩:ByteArray)++atomX a.attr.var a.attr.sym++(⟨#[32]⟩:ByteArray)++termX a.value++(⟨#[32]⟩:ByteArray)++signX a.pref:=⟨_,rfl⟩
 have HS:=Lib.hid hS
 have HX:=Lib.hid (show actX a=(if otherB a.pref=true then S++(⟨#[32]⟩:ByteArray)++atomX a.other.var a.other.sym else S)++(⟨#[41]⟩:ByteArray) by rw [hS];rfl)
 have hle:S.size+1≤MAXS:=by
  rw [HX.out,ByteArray.size_append] at hz
  have ec:((⟨#[41]⟩:ByteArray)).size=1:=rfl
  split at hz
  · rw [ByteArray.size_append,ByteArray.size_append] at hz;omega
  · omega
 have hsz:=congrArg ByteArray.size hS
 simp only [ByteArray.size_append] at hsz
 have ep:((⟨#[40,60]⟩:ByteArray)).size=2:=rfl
 have eg:((⟨#[62,32,94]⟩:ByteArray)).size=3:=rfl
 have es:((⟨#[32]⟩:ByteArray)).size=1:=rfl
 rw [ep,eg,es] at hsz
 have y1 : ¬MAXS<2+a.id.size:=by unfold MAXS at *;omega
 have y2 : ¬MAXS<2+a.id.size+3:=by unfold MAXS at *;omega
 have y3 : ¬MAXS<2+a.id.size+3+(atomX a.attr.var a.attr.sym).size:=by unfold MAXS at *;omega
 have y4 : ¬MAXS<2+a.id.size+3+(atomX a.attr.var a.attr.sym).size+1:=by unfold MAXS at *;omega
 have y5 : ¬MAXS<2+a.id.size+3+(atomX a.attr.var a.attr.sym).size+1+(termX a.value).size:=by unfold MAXS at *;omega
 have y6 : ¬MAXS<2+a.id.size+3+(atomX a.attr.var a.attr.sym).size+1+(termX a.value).size+1:=by unfold MAXS at *;omega
 have y7 : ¬MAXS<2+a.id.size+3+(atomX a.attr.var a.attr.sym).size+1+(termX a.value).size+1+(signX a.pref).size:=by unfold MAXS at *;omega
 have y8 : ¬MAXS<S.size+1:=Nat.not_lt.2 hle
 have HA:=Lib.hid (show (atomX a.attr.var a.attr.sym).size≤MAXS by unfold MAXS at *;omega)
 have HT:=Lib.hid (show (termX a.value).size≤MAXS by unfold MAXS at *;omega)
 clear hS hsz ep eg es
 by_cases h8:a.pref=8
 · skip
   have oa:(a.pref == 8)=true:=by simp [h8]
   have ob:decide (a.pref=8)=true:=by simp [h8]
   have HR:=Lib.hid (show actX a=S++(⟨#[32]⟩:ByteArray)++atomX a.other.var a.other.sym++(⟨#[41]⟩:ByteArray) by rw [HX.out,if_pos (by simp [otherB,h8])])
   rw [HR.out] at hz
   simp only [ByteArray.size_append] at hz
   have es:((⟨#[32]⟩:ByteArray)).size=1:=rfl
   have ec:((⟨#[41]⟩:ByteArray)).size=1:=rfl
   rw [es,ec] at hz
   have x1 : ¬MAXS<S.size+1+(atomX a.other.var a.other.sym).size:=by unfold MAXS at *;omega
   have x2 : ¬MAXS<S.size+1+(atomX a.other.var a.other.sym).size+1:=by unfold MAXS at *;omega
   have HO:=Lib.hid (show (atomX a.other.var a.other.sym).size≤MAXS by unfold MAXS at *;omega)
   clear hz es ec hle h8
   go_enter Try.func81,Try.ntmps81
   go_upto_region 1 with fail
   obtain ⟨w1,hw1⟩ : ∃w1,w1=(w.alloc (.cells #[.string a.id,.string a.attr.var,.int .i64 a.attr.sym.kind,.string a.attr.sym.text,.int .i64 a.attr.sym.n,.int .i64 a.value.op,.string a.value.a.var,.int .i64 a.value.a.sym.kind,.string a.value.a.sym.text,.int .i64 a.value.a.sym.n,.string a.value.b.var,.int .i64 a.value.b.sym.kind,.string a.value.b.sym.text,.int .i64 a.value.b.sym.n,.int .i64 a.pref,.string a.other.var,.int .i64 a.other.sym.kind,.string a.other.sym.text,.int .i64 a.other.sym.n] 58)):=⟨_,rfl⟩
   rw [← hw1]
   have HB:=Lib.hid (show Below w.heap.size w w1 by rw [hw1];exact (by repeat (first | exact Below.refl _ _ | refine Below.drew ?_ | refine Below.al ?_ _ | refine Below.sc ?_ _)))
   have Kb:=Lib.hid (show Blk w1 (w.heap.size) 58 #[.string a.id,.string a.attr.var,.int .i64 a.attr.sym.kind,.string a.attr.sym.text,.int .i64 a.attr.sym.n,.int .i64 a.value.op,.string a.value.a.var,.int .i64 a.value.a.sym.kind,.string a.value.a.sym.text,.int .i64 a.value.a.sym.n,.string a.value.b.var,.int .i64 a.value.b.sym.kind,.string a.value.b.sym.text,.int .i64 a.value.b.sym.n,.int .i64 a.pref,.string a.other.var,.int .i64 a.other.sym.kind,.string a.other.sym.text,.int .i64 a.other.sym.n] by rw [hw1];exact (Blk.new w 58 #[.string a.id,.string a.attr.var,.int .i64 a.attr.sym.kind,.string a.attr.sym.text,.int .i64 a.attr.sym.n,.int .i64 a.value.op,.string a.value.a.var,.int .i64 a.value.a.sym.kind,.string a.value.a.sym.text,.int .i64 a.value.a.sym.n,.string a.value.b.var,.int .i64 a.value.b.sym.kind,.string a.value.b.sym.text,.int .i64 a.value.b.sym.n,.int .i64 a.pref,.string a.other.var,.int .i64 a.other.sym.kind,.string a.other.sym.text,.int .i64 a.other.sym.n]))
   clear hw1
   obtain ⟨b0,b1,b2,b3,b4,b5,b6,b7,b8,b9,b10,b11,b12,b13,b14,b15,b16,b17,b18⟩:=Kb.out.c19
   have bz:=Kb.out.lt
   go_upto_region 1 with fail
   refine wp_region_E (fun w9=>Below w1.heap.size w1 w9) [(0,0),(1,1),(2,0),(3,0),(4,0),(5,0),(6,1),(7,0),(8,0),(9,1),(13,0),(14,1),(18,0),(19,1),(10,2),(11,0),(12,0),(15,2),(16,0),(17,0),(20,2),(21,0),(22,0)] (by kernel_rfl) (by kernel_rfl) (fun KK hKK=>?_)
   simp only [beside,List.filterMap_cons,List.filterMap_nil,List.getElem?_toArray,List.getElem?_cons_zero,List.getElem?_cons_succ,Option.map_some]
   repeat ((first | (refine wpX_w ?_ (Or.inl ⟨by rfl,fun w9=>?_⟩) ?_;rotate_left 1;go_simp;with_reducible rfl) | (refine wpX_l ?_ (((Below.refl _ _).drew)) (Or.inl ⟨by rfl,fun w9 hw9=>?_⟩) ?_;rotate_left 1;obtain ⟨hc9,hf9⟩:=bcell hw9;go_simp;with_reducible rfl) | refine wpX_w undef (Or.inr ⟨by rfl,rfl⟩) ?_ | refine wpX_l undef (((Below.refl _ _).drew)) (Or.inr ⟨by rfl,rfl⟩) ?_);go_frame)
   refine wpX_es (fun K9 hK9=>?_)
   go_simp
   refine (satom_is a.attr.var a.attr.sym _ HA.out).mono ?_
   rintro e w5 ⟨rfl,hb5⟩
   have HBa:=Lib.hid (show Below w1.heap.size w1 w5 from ((Below.refl w1.heap.size w1).drew).trans (hb5.mono (by simp)))
   clear hb5
   refine hK9 _ _ HBa.out ?_
   clear hK9 K9
   repeat ((first | (refine wpX_w ?_ (Or.inl ⟨by rfl,fun w9=>?_⟩) ?_;rotate_left 1;go_simp;with_reducible rfl) | (refine wpX_l ?_ (HBa.out) (Or.inl ⟨by rfl,fun w9 hw9=>?_⟩) ?_;rotate_left 1;obtain ⟨hc9,hf9⟩:=bcell hw9;go_simp;with_reducible rfl) | refine wpX_w undef (Or.inr ⟨by rfl,rfl⟩) ?_ | refine wpX_l undef (HBa.out) (Or.inr ⟨by rfl,rfl⟩) ?_);go_frame)
   refine wpX_es (fun K9 hK9=>?_)
   go_simp
   refine (sterm_is a.value _ HT.out).mono ?_
   rintro e w6 ⟨rfl,hb5⟩
   have HBb:=Lib.hid (show Below w1.heap.size w1 w6 from (HBa.out).trans (hb5.mono (HBa.out.size)))
   clear hb5
   refine hK9 _ _ HBb.out ?_
   clear hK9 K9
   repeat ((first | (refine wpX_w ?_ (Or.inl ⟨by rfl,fun w9=>?_⟩) ?_;rotate_left 1;go_simp;with_reducible rfl) | (refine wpX_l ?_ (HBb.out) (Or.inl ⟨by rfl,fun w9 hw9=>?_⟩) ?_;rotate_left 1;obtain ⟨hc9,hf9⟩:=bcell hw9;go_simp;with_reducible rfl) | refine wpX_w undef (Or.inr ⟨by rfl,rfl⟩) ?_ | refine wpX_l undef (HBb.out) (Or.inr ⟨by rfl,rfl⟩) ?_);go_frame)
   refine wpX_es (fun K9 hK9=>?_)
   go_simp
   refine (ssign_is a.pref _).mono ?_
   rintro e w7 ⟨rfl,rfl⟩
   refine hK9 _ _ HBb.out ?_
   clear hK9 K9
   repeat ((first | (refine wpX_w ?_ (Or.inl ⟨by rfl,fun w9=>?_⟩) ?_;rotate_left 1;go_simp;with_reducible rfl) | (refine wpX_l ?_ (HBb.out) (Or.inl ⟨by rfl,fun w9 hw9=>?_⟩) ?_;rotate_left 1;obtain ⟨hc9,hf9⟩:=bcell hw9;go_simp;with_reducible rfl) | refine wpX_w undef (Or.inr ⟨by rfl,rfl⟩) ?_ | refine wpX_l undef (HBb.out) (Or.inr ⟨by rfl,rfl⟩) ?_);go_frame)
   refine wpX_nil ?_
   simp only [OnlyN_normal]
   refine hKK _ _ ?_
   clear hKK KK
   rw [← HS.out]
   have Kb:=Lib.hid (Kb.out.new_ HBb.out)
   have HB:=Lib.hid (HB.out.trans (HBb.out.mono HB.out.size))
   clear b0 b1 b2 b3 b4 b5 b6 b7 b8 b9 b10 b11 b12 b13 b14 b15 b16 b17 b18 bz y1 y2 y3 y4 y5 y6 y7
   obtain ⟨b0,b1,b2,b3,b4,b5,b6,b7,b8,b9,b10,b11,b12,b13,b14,b15,b16,b17,b18⟩:=Kb.out.c19
   have bz:=Kb.out.lt
   go_wp2_with fail
   with_reducible refine (satom_is a.other.var a.other.sym _ HO.out).mono ?_
   rintro e w2 ⟨rfl,hb⟩
   have hbs:=Below.trans (show Below w6.heap.size w6 _ from (by (repeat (first | exact Below.refl _ _ | refine Below.drew ?_ | refine Below.al ?_ _ | refine Below.sc ?_ _)))) (hb.mono (by simp<;>omega))
   have Kb:=Lib.hid (Kb.out.new_ hbs)
   have HB:=Lib.hid (HB.out.trans (hbs.mono HB.out.size))
   have hsz2:=hbs.size
   clear b0 b1 b2 b3 b4 b5 b6 b7 b8 b9 b10 b11 b12 b13 b14 b15 b16 b17 b18 bz hb hbs
   obtain ⟨b0,b1,b2,b3,b4,b5,b6,b7,b8,b9,b10,b11,b12,b13,b14,b15,b16,b17,b18⟩:=Kb.out.c19
   have bz:=Kb.out.lt
   go_wp2_with fail
   go_ret
   exact ⟨by rw [HR.out]<;>rfl,by (repeat (first | exact Below.refl _ _ | exact HB.out | refine Below.drew ?_ | refine Below.al ?_ _ | refine Below.sc ?_ _))⟩
 · skip
   by_cases h9:a.pref=9
   · skip
     have u8:(a.pref == 8)=false:=by simp [h9]
     have v8:decide (a.pref=8)=false:=by simp [h9]
     have oa:(a.pref == 9)=true:=by simp [h9]
     have ob:decide (a.pref=9)=true:=by simp [h9]
     have HR:=Lib.hid (show actX a=S++(⟨#[32]⟩:ByteArray)++atomX a.other.var a.other.sym++(⟨#[41]⟩:ByteArray) by rw [HX.out,if_pos (by simp [otherB,h9])])
     rw [HR.out] at hz
     simp only [ByteArray.size_append] at hz
     have es:((⟨#[32]⟩:ByteArray)).size=1:=rfl
     have ec:((⟨#[41]⟩:ByteArray)).size=1:=rfl
     rw [es,ec] at hz
     have x1 : ¬MAXS<S.size+1+(atomX a.other.var a.other.sym).size:=by unfold MAXS at *;omega
     have x2 : ¬MAXS<S.size+1+(atomX a.other.var a.other.sym).size+1:=by unfold MAXS at *;omega
     have HO:=Lib.hid (show (atomX a.other.var a.other.sym).size≤MAXS by unfold MAXS at *;omega)
     clear hz es ec hle h8 h9
     go_enter Try.func81,Try.ntmps81
     go_upto_region 1 with fail
     obtain ⟨w1,hw1⟩ : ∃w1,w1=(w.alloc (.cells #[.string a.id,.string a.attr.var,.int .i64 a.attr.sym.kind,.string a.attr.sym.text,.int .i64 a.attr.sym.n,.int .i64 a.value.op,.string a.value.a.var,.int .i64 a.value.a.sym.kind,.string a.value.a.sym.text,.int .i64 a.value.a.sym.n,.string a.value.b.var,.int .i64 a.value.b.sym.kind,.string a.value.b.sym.text,.int .i64 a.value.b.sym.n,.int .i64 a.pref,.string a.other.var,.int .i64 a.other.sym.kind,.string a.other.sym.text,.int .i64 a.other.sym.n] 58)):=⟨_,rfl⟩
     rw [← hw1]
     have HB:=Lib.hid (show Below w.heap.size w w1 by rw [hw1];exact (by repeat (first | exact Below.refl _ _ | refine Below.drew ?_ | refine Below.al ?_ _ | refine Below.sc ?_ _)))
     have Kb:=Lib.hid (show Blk w1 (w.heap.size) 58 #[.string a.id,.string a.attr.var,.int .i64 a.attr.sym.kind,.string a.attr.sym.text,.int .i64 a.attr.sym.n,.int .i64 a.value.op,.string a.value.a.var,.int .i64 a.value.a.sym.kind,.string a.value.a.sym.text,.int .i64 a.value.a.sym.n,.string a.value.b.var,.int .i64 a.value.b.sym.kind,.string a.value.b.sym.text,.int .i64 a.value.b.sym.n,.int .i64 a.pref,.string a.other.var,.int .i64 a.other.sym.kind,.string a.other.sym.text,.int .i64 a.other.sym.n] by rw [hw1];exact (Blk.new w 58 #[.string a.id,.string a.attr.var,.int .i64 a.attr.sym.kind,.string a.attr.sym.text,.int .i64 a.attr.sym.n,.int .i64 a.value.op,.string a.value.a.var,.int .i64 a.value.a.sym.kind,.string a.value.a.sym.text,.int .i64 a.value.a.sym.n,.string a.value.b.var,.int .i64 a.value.b.sym.kind,.string a.value.b.sym.text,.int .i64 a.value.b.sym.n,.int .i64 a.pref,.string a.other.var,.int .i64 a.other.sym.kind,.string a.other.sym.text,.int .i64 a.other.sym.n]))
     clear hw1
     obtain ⟨b0,b1,b2,b3,b4,b5,b6,b7,b8,b9,b10,b11,b12,b13,b14,b15,b16,b17,b18⟩:=Kb.out.c19
     have bz:=Kb.out.lt
     go_upto_region 1 with fail
     refine wp_region_E (fun w9=>Below w1.heap.size w1 w9) [(0,0),(1,1),(2,0),(3,0),(4,0),(5,0),(6,1),(7,0),(8,0),(9,1),(13,0),(14,1),(18,0),(19,1),(10,2),(11,0),(12,0),(15,2),(16,0),(17,0),(20,2),(21,0),(22,0)] (by kernel_rfl) (by kernel_rfl) (fun KK hKK=>?_)
     simp only [beside,List.filterMap_cons,List.filterMap_nil,List.getElem?_toArray,List.getElem?_cons_zero,List.getElem?_cons_succ,Option.map_some]
     repeat ((first | (refine wpX_w ?_ (Or.inl ⟨by rfl,fun w9=>?_⟩) ?_;rotate_left 1;go_simp;with_reducible rfl) | (refine wpX_l ?_ (((Below.refl _ _).drew)) (Or.inl ⟨by rfl,fun w9 hw9=>?_⟩) ?_;rotate_left 1;obtain ⟨hc9,hf9⟩:=bcell hw9;go_simp;with_reducible rfl) | refine wpX_w undef (Or.inr ⟨by rfl,rfl⟩) ?_ | refine wpX_l undef (((Below.refl _ _).drew)) (Or.inr ⟨by rfl,rfl⟩) ?_);go_frame)
     refine wpX_es (fun K9 hK9=>?_)
     go_simp
     refine (satom_is a.attr.var a.attr.sym _ HA.out).mono ?_
     rintro e w5 ⟨rfl,hb5⟩
     have HBa:=Lib.hid (show Below w1.heap.size w1 w5 from ((Below.refl w1.heap.size w1).drew).trans (hb5.mono (by simp)))
     clear hb5
     refine hK9 _ _ HBa.out ?_
     clear hK9 K9
     repeat ((first | (refine wpX_w ?_ (Or.inl ⟨by rfl,fun w9=>?_⟩) ?_;rotate_left 1;go_simp;with_reducible rfl) | (refine wpX_l ?_ (HBa.out) (Or.inl ⟨by rfl,fun w9 hw9=>?_⟩) ?_;rotate_left 1;obtain ⟨hc9,hf9⟩:=bcell hw9;go_simp;with_reducible rfl) | refine wpX_w undef (Or.inr ⟨by rfl,rfl⟩) ?_ | refine wpX_l undef (HBa.out) (Or.inr ⟨by rfl,rfl⟩) ?_);go_frame)
     refine wpX_es (fun K9 hK9=>?_)
     go_simp
     refine (sterm_is a.value _ HT.out).mono ?_
     rintro e w6 ⟨rfl,hb5⟩
     have HBb:=Lib.hid (show Below w1.heap.size w1 w6 from (HBa.out).trans (hb5.mono (HBa.out.size)))
     clear hb5
     refine hK9 _ _ HBb.out ?_
     clear hK9 K9
     repeat ((first | (refine wpX_w ?_ (Or.inl ⟨by rfl,fun w9=>?_⟩) ?_;rotate_left 1;go_simp;with_reducible rfl) | (refine wpX_l ?_ (HBb.out) (Or.inl ⟨by rfl,fun w9 hw9=>?_⟩) ?_;rotate_left 1;obtain ⟨hc9,hf9⟩:=bcell hw9;go_simp;with_reducible rfl) | refine wpX_w undef (Or.inr ⟨by rfl,rfl⟩) ?_ | refine wpX_l undef (HBb.out) (Or.inr ⟨by rfl,rfl⟩) ?_);go_frame)
     refine wpX_es (fun K9 hK9=>?_)
     go_simp
     refine (ssign_is a.pref _).mono ?_
     rintro e w7 ⟨rfl,rfl⟩
     refine hK9 _ _ HBb.out ?_
     clear hK9 K9
     repeat ((first | (refine wpX_w ?_ (Or.inl ⟨by rfl,fun w9=>?_⟩) ?_;rotate_left 1;go_simp;with_reducible rfl) | (refine wpX_l ?_ (HBb.out) (Or.inl ⟨by rfl,fun w9 hw9=>?_⟩) ?_;rotate_left 1;obtain ⟨hc9,hf9⟩:=bcell hw9;go_simp;with_reducible rfl) | refine wpX_w undef (Or.inr ⟨by rfl,rfl⟩) ?_ | refine wpX_l undef (HBb.out) (Or.inr ⟨by rfl,rfl⟩) ?_);go_frame)
     refine wpX_nil ?_
     simp only [OnlyN_normal]
     refine hKK _ _ ?_
     clear hKK KK
     rw [← HS.out]
     have Kb:=Lib.hid (Kb.out.new_ HBb.out)
     have HB:=Lib.hid (HB.out.trans (HBb.out.mono HB.out.size))
     clear b0 b1 b2 b3 b4 b5 b6 b7 b8 b9 b10 b11 b12 b13 b14 b15 b16 b17 b18 bz y1 y2 y3 y4 y5 y6 y7
     obtain ⟨b0,b1,b2,b3,b4,b5,b6,b7,b8,b9,b10,b11,b12,b13,b14,b15,b16,b17,b18⟩:=Kb.out.c19
     have bz:=Kb.out.lt
     go_wp2_with fail
     with_reducible refine (satom_is a.other.var a.other.sym _ HO.out).mono ?_
     rintro e w2 ⟨rfl,hb⟩
     have hbs:=Below.trans (show Below w6.heap.size w6 _ from (by (repeat (first | exact Below.refl _ _ | refine Below.drew ?_ | refine Below.al ?_ _ | refine Below.sc ?_ _)))) (hb.mono (by simp<;>omega))
     have Kb:=Lib.hid (Kb.out.new_ hbs)
     have HB:=Lib.hid (HB.out.trans (hbs.mono HB.out.size))
     have hsz2:=hbs.size
     clear b0 b1 b2 b3 b4 b5 b6 b7 b8 b9 b10 b11 b12 b13 b14 b15 b16 b17 b18 bz hb hbs
     obtain ⟨b0,b1,b2,b3,b4,b5,b6,b7,b8,b9,b10,b11,b12,b13,b14,b15,b16,b17,b18⟩:=Kb.out.c19
     have bz:=Kb.out.lt
     go_wp2_with fail
     go_ret
     exact ⟨by rw [HR.out]<;>rfl,by (repeat (first | exact Below.refl _ _ | exact HB.out | refine Below.drew ?_ | refine Below.al ?_ _ | refine Below.sc ?_ _))⟩
   · skip
     by_cases h10:a.pref=10
     · skip
       have u8:(a.pref == 8)=false:=by simp [h10]
       have v8:decide (a.pref=8)=false:=by simp [h10]
       have u9:(a.pref == 9)=false:=by simp [h10]
       have v9:decide (a.pref=9)=false:=by simp [h10]
       have oa:(a.pref == 10)=true:=by simp [h10]
       have ob:decide (a.pref=10)=true:=by simp [h10]
       have HR:=Lib.hid (show actX a=S++(⟨#[32]⟩:ByteArray)++atomX a.other.var a.other.sym++(⟨#[41]⟩:ByteArray) by rw [HX.out,if_pos (by simp [otherB,h10])])
       rw [HR.out] at hz
       simp only [ByteArray.size_append] at hz
       have es:((⟨#[32]⟩:ByteArray)).size=1:=rfl
       have ec:((⟨#[41]⟩:ByteArray)).size=1:=rfl
       rw [es,ec] at hz
       have x1 : ¬MAXS<S.size+1+(atomX a.other.var a.other.sym).size:=by unfold MAXS at *;omega
       have x2 : ¬MAXS<S.size+1+(atomX a.other.var a.other.sym).size+1:=by unfold MAXS at *;omega
       have HO:=Lib.hid (show (atomX a.other.var a.other.sym).size≤MAXS by unfold MAXS at *;omega)
       clear hz es ec hle h8 h9 h10
       go_enter Try.func81,Try.ntmps81
       go_upto_region 1 with fail
       obtain ⟨w1,hw1⟩ : ∃w1,w1=(w.alloc (.cells #[.string a.id,.string a.attr.var,.int .i64 a.attr.sym.kind,.string a.attr.sym.text,.int .i64 a.attr.sym.n,.int .i64 a.value.op,.string a.value.a.var,.int .i64 a.value.a.sym.kind,.string a.value.a.sym.text,.int .i64 a.value.a.sym.n,.string a.value.b.var,.int .i64 a.value.b.sym.kind,.string a.value.b.sym.text,.int .i64 a.value.b.sym.n,.int .i64 a.pref,.string a.other.var,.int .i64 a.other.sym.kind,.string a.other.sym.text,.int .i64 a.other.sym.n] 58)):=⟨_,rfl⟩
       rw [← hw1]
       have HB:=Lib.hid (show Below w.heap.size w w1 by rw [hw1];exact (by repeat (first | exact Below.refl _ _ | refine Below.drew ?_ | refine Below.al ?_ _ | refine Below.sc ?_ _)))
       have Kb:=Lib.hid (show Blk w1 (w.heap.size) 58 #[.string a.id,.string a.attr.var,.int .i64 a.attr.sym.kind,.string a.attr.sym.text,.int .i64 a.attr.sym.n,.int .i64 a.value.op,.string a.value.a.var,.int .i64 a.value.a.sym.kind,.string a.value.a.sym.text,.int .i64 a.value.a.sym.n,.string a.value.b.var,.int .i64 a.value.b.sym.kind,.string a.value.b.sym.text,.int .i64 a.value.b.sym.n,.int .i64 a.pref,.string a.other.var,.int .i64 a.other.sym.kind,.string a.other.sym.text,.int .i64 a.other.sym.n] by rw [hw1];exact (Blk.new w 58 #[.string a.id,.string a.attr.var,.int .i64 a.attr.sym.kind,.string a.attr.sym.text,.int .i64 a.attr.sym.n,.int .i64 a.value.op,.string a.value.a.var,.int .i64 a.value.a.sym.kind,.string a.value.a.sym.text,.int .i64 a.value.a.sym.n,.string a.value.b.var,.int .i64 a.value.b.sym.kind,.string a.value.b.sym.text,.int .i64 a.value.b.sym.n,.int .i64 a.pref,.string a.other.var,.int .i64 a.other.sym.kind,.string a.other.sym.text,.int .i64 a.other.sym.n]))
       clear hw1
       obtain ⟨b0,b1,b2,b3,b4,b5,b6,b7,b8,b9,b10,b11,b12,b13,b14,b15,b16,b17,b18⟩:=Kb.out.c19
       have bz:=Kb.out.lt
       go_upto_region 1 with fail
       refine wp_region_E (fun w9=>Below w1.heap.size w1 w9) [(0,0),(1,1),(2,0),(3,0),(4,0),(5,0),(6,1),(7,0),(8,0),(9,1),(13,0),(14,1),(18,0),(19,1),(10,2),(11,0),(12,0),(15,2),(16,0),(17,0),(20,2),(21,0),(22,0)] (by kernel_rfl) (by kernel_rfl) (fun KK hKK=>?_)
       simp only [beside,List.filterMap_cons,List.filterMap_nil,List.getElem?_toArray,List.getElem?_cons_zero,List.getElem?_cons_succ,Option.map_some]
       repeat ((first | (refine wpX_w ?_ (Or.inl ⟨by rfl,fun w9=>?_⟩) ?_;rotate_left 1;go_simp;with_reducible rfl) | (refine wpX_l ?_ (((Below.refl _ _).drew)) (Or.inl ⟨by rfl,fun w9 hw9=>?_⟩) ?_;rotate_left 1;obtain ⟨hc9,hf9⟩:=bcell hw9;go_simp;with_reducible rfl) | refine wpX_w undef (Or.inr ⟨by rfl,rfl⟩) ?_ | refine wpX_l undef (((Below.refl _ _).drew)) (Or.inr ⟨by rfl,rfl⟩) ?_);go_frame)
       refine wpX_es (fun K9 hK9=>?_)
       go_simp
       refine (satom_is a.attr.var a.attr.sym _ HA.out).mono ?_
       rintro e w5 ⟨rfl,hb5⟩
       have HBa:=Lib.hid (show Below w1.heap.size w1 w5 from ((Below.refl w1.heap.size w1).drew).trans (hb5.mono (by simp)))
       clear hb5
       refine hK9 _ _ HBa.out ?_
       clear hK9 K9
       repeat ((first | (refine wpX_w ?_ (Or.inl ⟨by rfl,fun w9=>?_⟩) ?_;rotate_left 1;go_simp;with_reducible rfl) | (refine wpX_l ?_ (HBa.out) (Or.inl ⟨by rfl,fun w9 hw9=>?_⟩) ?_;rotate_left 1;obtain ⟨hc9,hf9⟩:=bcell hw9;go_simp;with_reducible rfl) | refine wpX_w undef (Or.inr ⟨by rfl,rfl⟩) ?_ | refine wpX_l undef (HBa.out) (Or.inr ⟨by rfl,rfl⟩) ?_);go_frame)
       refine wpX_es (fun K9 hK9=>?_)
       go_simp
       refine (sterm_is a.value _ HT.out).mono ?_
       rintro e w6 ⟨rfl,hb5⟩
       have HBb:=Lib.hid (show Below w1.heap.size w1 w6 from (HBa.out).trans (hb5.mono (HBa.out.size)))
       clear hb5
       refine hK9 _ _ HBb.out ?_
       clear hK9 K9
       repeat ((first | (refine wpX_w ?_ (Or.inl ⟨by rfl,fun w9=>?_⟩) ?_;rotate_left 1;go_simp;with_reducible rfl) | (refine wpX_l ?_ (HBb.out) (Or.inl ⟨by rfl,fun w9 hw9=>?_⟩) ?_;rotate_left 1;obtain ⟨hc9,hf9⟩:=bcell hw9;go_simp;with_reducible rfl) | refine wpX_w undef (Or.inr ⟨by rfl,rfl⟩) ?_ | refine wpX_l undef (HBb.out) (Or.inr ⟨by rfl,rfl⟩) ?_);go_frame)
       refine wpX_es (fun K9 hK9=>?_)
       go_simp
       refine (ssign_is a.pref _).mono ?_
       rintro e w7 ⟨rfl,rfl⟩
       refine hK9 _ _ HBb.out ?_
       clear hK9 K9
       repeat ((first | (refine wpX_w ?_ (Or.inl ⟨by rfl,fun w9=>?_⟩) ?_;rotate_left 1;go_simp;with_reducible rfl) | (refine wpX_l ?_ (HBb.out) (Or.inl ⟨by rfl,fun w9 hw9=>?_⟩) ?_;rotate_left 1;obtain ⟨hc9,hf9⟩:=bcell hw9;go_simp;with_reducible rfl) | refine wpX_w undef (Or.inr ⟨by rfl,rfl⟩) ?_ | refine wpX_l undef (HBb.out) (Or.inr ⟨by rfl,rfl⟩) ?_);go_frame)
       refine wpX_nil ?_
       simp only [OnlyN_normal]
       refine hKK _ _ ?_
       clear hKK KK
       rw [← HS.out]
       have Kb:=Lib.hid (Kb.out.new_ HBb.out)
       have HB:=Lib.hid (HB.out.trans (HBb.out.mono HB.out.size))
       clear b0 b1 b2 b3 b4 b5 b6 b7 b8 b9 b10 b11 b12 b13 b14 b15 b16 b17 b18 bz y1 y2 y3 y4 y5 y6 y7
       obtain ⟨b0,b1,b2,b3,b4,b5,b6,b7,b8,b9,b10,b11,b12,b13,b14,b15,b16,b17,b18⟩:=Kb.out.c19
       have bz:=Kb.out.lt
       go_wp2_with fail
       with_reducible refine (satom_is a.other.var a.other.sym _ HO.out).mono ?_
       rintro e w2 ⟨rfl,hb⟩
       have hbs:=Below.trans (show Below w6.heap.size w6 _ from (by (repeat (first | exact Below.refl _ _ | refine Below.drew ?_ | refine Below.al ?_ _ | refine Below.sc ?_ _)))) (hb.mono (by simp<;>omega))
       have Kb:=Lib.hid (Kb.out.new_ hbs)
       have HB:=Lib.hid (HB.out.trans (hbs.mono HB.out.size))
       have hsz2:=hbs.size
       clear b0 b1 b2 b3 b4 b5 b6 b7 b8 b9 b10 b11 b12 b13 b14 b15 b16 b17 b18 bz hb hbs
       obtain ⟨b0,b1,b2,b3,b4,b5,b6,b7,b8,b9,b10,b11,b12,b13,b14,b15,b16,b17,b18⟩:=Kb.out.c19
       have bz:=Kb.out.lt
       go_wp2_with fail
       go_ret
       exact ⟨by rw [HR.out]<;>rfl,by (repeat (first | exact Below.refl _ _ | exact HB.out | refine Below.drew ?_ | refine Below.al ?_ _ | refine Below.sc ?_ _))⟩
     · skip
       have u8:(a.pref == 8)=false:=by simp [h8]
       have v8:decide (a.pref=8)=false:=by simp [h8]
       have u9:(a.pref == 9)=false:=by simp [h9]
       have v9:decide (a.pref=9)=false:=by simp [h9]
       have u10:(a.pref == 10)=false:=by simp [h10]
       have v10:decide (a.pref=10)=false:=by simp [h10]
       have HR:=Lib.hid (show actX a=S++(⟨#[41]⟩:ByteArray) by rw [HX.out,if_neg (by simp [otherB,h8,h9,h10])])
       clear h8 h9 h10 hz hle
       go_enter Try.func81,Try.ntmps81
       go_upto_region 1 with fail
       obtain ⟨w1,hw1⟩ : ∃w1,w1=(w.alloc (.cells #[.string a.id,.string a.attr.var,.int .i64 a.attr.sym.kind,.string a.attr.sym.text,.int .i64 a.attr.sym.n,.int .i64 a.value.op,.string a.value.a.var,.int .i64 a.value.a.sym.kind,.string a.value.a.sym.text,.int .i64 a.value.a.sym.n,.string a.value.b.var,.int .i64 a.value.b.sym.kind,.string a.value.b.sym.text,.int .i64 a.value.b.sym.n,.int .i64 a.pref,.string a.other.var,.int .i64 a.other.sym.kind,.string a.other.sym.text,.int .i64 a.other.sym.n] 58)):=⟨_,rfl⟩
       rw [← hw1]
       have HB:=Lib.hid (show Below w.heap.size w w1 by rw [hw1];exact (by repeat (first | exact Below.refl _ _ | refine Below.drew ?_ | refine Below.al ?_ _ | refine Below.sc ?_ _)))
       have Kb:=Lib.hid (show Blk w1 (w.heap.size) 58 #[.string a.id,.string a.attr.var,.int .i64 a.attr.sym.kind,.string a.attr.sym.text,.int .i64 a.attr.sym.n,.int .i64 a.value.op,.string a.value.a.var,.int .i64 a.value.a.sym.kind,.string a.value.a.sym.text,.int .i64 a.value.a.sym.n,.string a.value.b.var,.int .i64 a.value.b.sym.kind,.string a.value.b.sym.text,.int .i64 a.value.b.sym.n,.int .i64 a.pref,.string a.other.var,.int .i64 a.other.sym.kind,.string a.other.sym.text,.int .i64 a.other.sym.n] by rw [hw1];exact (Blk.new w 58 #[.string a.id,.string a.attr.var,.int .i64 a.attr.sym.kind,.string a.attr.sym.text,.int .i64 a.attr.sym.n,.int .i64 a.value.op,.string a.value.a.var,.int .i64 a.value.a.sym.kind,.string a.value.a.sym.text,.int .i64 a.value.a.sym.n,.string a.value.b.var,.int .i64 a.value.b.sym.kind,.string a.value.b.sym.text,.int .i64 a.value.b.sym.n,.int .i64 a.pref,.string a.other.var,.int .i64 a.other.sym.kind,.string a.other.sym.text,.int .i64 a.other.sym.n]))
       clear hw1
       obtain ⟨b0,b1,b2,b3,b4,b5,b6,b7,b8,b9,b10,b11,b12,b13,b14,b15,b16,b17,b18⟩:=Kb.out.c19
       have bz:=Kb.out.lt
       go_upto_region 1 with fail
       refine wp_region_E (fun w9=>Below w1.heap.size w1 w9) [(0,0),(1,1),(2,0),(3,0),(4,0),(5,0),(6,1),(7,0),(8,0),(9,1),(13,0),(14,1),(18,0),(19,1),(10,2),(11,0),(12,0),(15,2),(16,0),(17,0),(20,2),(21,0),(22,0)] (by kernel_rfl) (by kernel_rfl) (fun KK hKK=>?_)
       simp only [beside,List.filterMap_cons,List.filterMap_nil,List.getElem?_toArray,List.getElem?_cons_zero,List.getElem?_cons_succ,Option.map_some]
       repeat ((first | (refine wpX_w ?_ (Or.inl ⟨by rfl,fun w9=>?_⟩) ?_;rotate_left 1;go_simp;with_reducible rfl) | (refine wpX_l ?_ (((Below.refl _ _).drew)) (Or.inl ⟨by rfl,fun w9 hw9=>?_⟩) ?_;rotate_left 1;obtain ⟨hc9,hf9⟩:=bcell hw9;go_simp;with_reducible rfl) | refine wpX_w undef (Or.inr ⟨by rfl,rfl⟩) ?_ | refine wpX_l undef (((Below.refl _ _).drew)) (Or.inr ⟨by rfl,rfl⟩) ?_);go_frame)
       refine wpX_es (fun K9 hK9=>?_)
       go_simp
       refine (satom_is a.attr.var a.attr.sym _ HA.out).mono ?_
       rintro e w5 ⟨rfl,hb5⟩
       have HBa:=Lib.hid (show Below w1.heap.size w1 w5 from ((Below.refl w1.heap.size w1).drew).trans (hb5.mono (by simp)))
       clear hb5
       refine hK9 _ _ HBa.out ?_
       clear hK9 K9
       repeat ((first | (refine wpX_w ?_ (Or.inl ⟨by rfl,fun w9=>?_⟩) ?_;rotate_left 1;go_simp;with_reducible rfl) | (refine wpX_l ?_ (HBa.out) (Or.inl ⟨by rfl,fun w9 hw9=>?_⟩) ?_;rotate_left 1;obtain ⟨hc9,hf9⟩:=bcell hw9;go_simp;with_reducible rfl) | refine wpX_w undef (Or.inr ⟨by rfl,rfl⟩) ?_ | refine wpX_l undef (HBa.out) (Or.inr ⟨by rfl,rfl⟩) ?_);go_frame)
       refine wpX_es (fun K9 hK9=>?_)
       go_simp
       refine (sterm_is a.value _ HT.out).mono ?_
       rintro e w6 ⟨rfl,hb5⟩
       have HBb:=Lib.hid (show Below w1.heap.size w1 w6 from (HBa.out).trans (hb5.mono (HBa.out.size)))
       clear hb5
       refine hK9 _ _ HBb.out ?_
       clear hK9 K9
       repeat ((first | (refine wpX_w ?_ (Or.inl ⟨by rfl,fun w9=>?_⟩) ?_;rotate_left 1;go_simp;with_reducible rfl) | (refine wpX_l ?_ (HBb.out) (Or.inl ⟨by rfl,fun w9 hw9=>?_⟩) ?_;rotate_left 1;obtain ⟨hc9,hf9⟩:=bcell hw9;go_simp;with_reducible rfl) | refine wpX_w undef (Or.inr ⟨by rfl,rfl⟩) ?_ | refine wpX_l undef (HBb.out) (Or.inr ⟨by rfl,rfl⟩) ?_);go_frame)
       refine wpX_es (fun K9 hK9=>?_)
       go_simp
       refine (ssign_is a.pref _).mono ?_
       rintro e w7 ⟨rfl,rfl⟩
       refine hK9 _ _ HBb.out ?_
       clear hK9 K9
       repeat ((first | (refine wpX_w ?_ (Or.inl ⟨by rfl,fun w9=>?_⟩) ?_;rotate_left 1;go_simp;with_reducible rfl) | (refine wpX_l ?_ (HBb.out) (Or.inl ⟨by rfl,fun w9 hw9=>?_⟩) ?_;rotate_left 1;obtain ⟨hc9,hf9⟩:=bcell hw9;go_simp;with_reducible rfl) | refine wpX_w undef (Or.inr ⟨by rfl,rfl⟩) ?_ | refine wpX_l undef (HBb.out) (Or.inr ⟨by rfl,rfl⟩) ?_);go_frame)
       refine wpX_nil ?_
       simp only [OnlyN_normal]
       refine hKK _ _ ?_
       clear hKK KK
       rw [← HS.out]
       have Kb:=Lib.hid (Kb.out.new_ HBb.out)
       have HB:=Lib.hid (HB.out.trans (HBb.out.mono HB.out.size))
       clear b0 b1 b2 b3 b4 b5 b6 b7 b8 b9 b10 b11 b12 b13 b14 b15 b16 b17 b18 bz y1 y2 y3 y4 y5 y6 y7
       obtain ⟨b0,b1,b2,b3,b4,b5,b6,b7,b8,b9,b10,b11,b12,b13,b14,b15,b16,b17,b18⟩:=Kb.out.c19
       have bz:=Kb.out.lt
       go_wp2_with fail
       go_ret
       exact ⟨by rw [HR.out]<;>rfl,by (repeat (first | exact Below.refl _ _ | exact HB.out | refine Below.drew ?_ | refine Below.al ?_ _ | refine Below.sc ?_ _))⟩
end Go.Proofs.Ytffemfglngikbaa
