/-
  Texts put together: Canon6P, KitSyms, BkSame3, BkNames, BkNames2, RangeM, SymValid, ShapePlain.
-/
import Derived.Test.YtffemfglngikbaaOb
import Derived.Test.YtffemfglngikbaaOc
import Derived.Test.YtffemfglngikbaaOa
import Derived.Laws.EntriesVeiled
import Derived.Maps.RangeWalk
namespace Go.Proofs.Ytffemfglngikbaa
instance memTxt (v:ByteArray) (l:List ByteArray):Decidable (v∈l):=decidable_of_iff (l.any (fun u=>decide (u=v))=true) (by simp)
def uqStep (u:List ByteArray) (v:ByteArray):List ByteArray:=if v∈u then u else u ++ [v]
def uq (q:List ByteArray):List ByteArray:=q.foldl uqStep []
theorem uq_snoc (q:List ByteArray) (v:ByteArray):uq (q ++ [v])=uqStep (uq q) v:=by unfold uq;rw [List.foldl_append];rfl
theorem uqStep_len (u:List ByteArray) (v:ByteArray):(uqStep u v).length≤u.length+1:=by unfold uqStep;split<;>simp
theorem uq_fold_len : ∀(q u:List ByteArray),(q.foldl uqStep u).length≤u.length+q.length
 | [],_=>by simp
 | v :: q,u=>by have h1:=uq_fold_len q (uqStep u v);have h2:=uqStep_len u v;rw [List.foldl_cons,List.length_cons];omega
theorem uq_len (q:List ByteArray):(uq q).length≤q.length:=by have:=uq_fold_len q [];simpa [uq] using this
def nameW (k:Nat):ByteArray:=⟨#[118]⟩++decB k
def ixOf (v:ByteArray):List ByteArray→Nat
 | []=>0
 | u :: l=>if u=v then 0 else ixOf v l+1
theorem ixOf_lt {v:ByteArray} : ∀{l:List ByteArray},v∈l→ixOf v l<l.length∧l[ixOf v l]? = some v
 | u :: l,h=>by
   rw [ixOf]
   by_cases e:u=v
   · rw [if_pos e];exact ⟨by simp,by simp [e]⟩
   · rw [if_neg e]
     have h2:v∈l:=by rcases List.mem_cons.1 h with h | h;exact absurd h.symm e;exact h
     obtain ⟨g1,g2⟩:=ixOf_lt h2
     exact ⟨by simpa using g1,by simpa using g2⟩
theorem ixOf_nodup {v:ByteArray} : ∀{l:List ByteArray},l.Nodup→∀i,l[i]? = some v→ixOf v l=i
 | u :: l,h,0,e=>by
   rw [ixOf,if_pos (by simpa using e)]
 | u :: l,h,i+1,e=>by
   obtain ⟨h1,h2⟩:=List.nodup_cons.1 h
   have e2:l[i]? = some v:=by simpa using e
   have hne:u≠v:=fun hh=>h1 (by rw [hh];exact List.mem_of_getElem? e2)
   rw [ixOf,if_neg hne,ixOf_nodup h2 i e2]
 | [],_,i,e=>by simp at e
def numT (us:List ByteArray) (v:ByteArray):ByteArray:=if v∈us then nameW (ixOf v us+1) else ⟨#[]⟩
def plainP (n:Nat) (p:ProdT):ProdT:=⟨⟨#[120]⟩,p.conds.map (condR (numT (uq (varsP n p))) n),p.acts.map (actR (numT (uq (varsP n p))))⟩
structure MapOk (mm:List PgW) (us:List ByteArray):Prop where
 srt:Srt cmpPgW mm
 len:mm.length=us.length
 nodup:us.Nodup
 mem : ∀y,y∈mm↔∃i:Nat,us[i]? = some y.kk∧y.v=nameW (i+1)
theorem MapOk.nil:MapOk [] []:=⟨Srt.nil,rfl,.nil,fun y=>by simp⟩
theorem MapOk.has {mm:List PgW} {us:List ByteArray} (h:MapOk mm us) (v z:ByteArray):has cmpPgW mm ⟨v,z⟩=decide (v∈us):=by
 by_cases hv:v∈us
 · rw [decide_eq_true hv,has_iff]
   obtain ⟨i,hi,e⟩:=List.getElem_of_mem hv
   exact ⟨⟨v,nameW (i+1)⟩,(h.mem _).2 ⟨i,by rw [List.getElem?_eq_getElem hi,e],rfl⟩,cmpPgW_eq.2 rfl⟩
 · rw [decide_eq_false hv,has_false]
   intro y hy e
   obtain ⟨i,hi,_⟩:=(h.mem y).1 hy
   have e3:y.kk=v:=cmpPgW_eq.1 e
   exact hv (by rw [← e3];exact List.mem_of_getElem? hi)
theorem MapOk.get {mm:List PgW} {us:List ByteArray} (h:MapOk mm us) {v z:ByteArray} (hv:v∈us) : ∃y,mm[rank cmpPgW mm ⟨v,z⟩]? = some y∧y.v=numT us v:=by
 have hh:Go.Proofs.Ytffemfglngikbaa.has cmpPgW mm ⟨v,z⟩=true:=by rw [h.has,decide_eq_true hv]
 obtain ⟨_,_,hk,e⟩:=drop_eq tc_pgw h.srt hh
 refine ⟨_,List.getElem?_eq_getElem hk,?_⟩
 obtain ⟨i,hi,e2⟩:=(h.mem _).1 (List.getElem_mem hk)
 have e3:_=v:=cmpPgW_eq.1 e
 rw [e3] at hi
 rw [e2,numT,if_pos hv,ixOf_nodup h.nodup i hi]
theorem MapOk.put {mm:List PgW} {us:List ByteArray} (h:MapOk mm us) {v:ByteArray} (hv : ¬v∈us):MapOk (put cmpPgW mm ⟨v,nameW (mm.length+1)⟩) (us ++ [v]):=by
 have hh:Go.Proofs.Ytffemfglngikbaa.has cmpPgW mm ⟨v,nameW (mm.length+1)⟩=false:=by rw [h.has,decide_eq_false hv]
 refine ⟨h.srt.put tc_pgw _,by rw [length_put tc_pgw h.srt hh,h.len];simp,List.nodup_append.2 ⟨h.nodup,by simp,fun a ha b hb=>by rw [List.mem_singleton.1 hb];exact fun e=>hv (e ▸ ha)⟩,fun y=>?_⟩
 have hm:y∈Go.Proofs.Ytffemfglngikbaa.put cmpPgW mm ⟨v,nameW (mm.length+1)⟩↔y=⟨v,nameW (mm.length+1)⟩∨y∈mm:=by
  rw [put_eq tc_pgw h.srt hh,List.mem_append,List.mem_cons]
  constructor
  · rintro (g | g | g)
    · exact .inr (List.mem_of_mem_take g)
    · exact .inl g
    · exact .inr (List.mem_of_mem_drop g)
  · rintro (g | g)
    · exact .inr (.inl g)
    · rw [← List.take_append_drop (rank cmpPgW mm ⟨v,nameW (mm.length+1)⟩) mm,List.mem_append] at g
      exact g.elim .inl (fun g=>.inr (.inr g))
 rw [hm,h.mem y]
 constructor
 · rintro (e | ⟨i,hi,e⟩)
   · subst e
     exact ⟨us.length,by simp,by rw [h.len]⟩
   · have hl:i<us.length:=(List.getElem?_eq_some_iff.1 hi).1
     exact ⟨i,by rw [List.getElem?_append_left hl];exact hi,e⟩
 · rintro ⟨i,hi,e⟩
   by_cases hl:i<us.length
   · exact .inr ⟨i,by rwa [List.getElem?_append_left hl] at hi,e⟩
   · have hi2:i=us.length:=by
      have:=(List.getElem?_eq_some_iff.1 hi).1
      simp at this;omega
     subst hi2
     rw [List.getElem?_append_right (Nat.le_refl _)] at hi
     simp at hi
     obtain ⟨yk,yv⟩:=y
     simp only at hi e
     subst hi;subst e
     exact .inl (by rw [h.len])
end Go.Proofs.Ytffemfglngikbaa
namespace Go.Proofs.Ytffemfglngikbaa
open Go.RowKit
theorem eql_sym (x y:Sym) (W:World):(binOp .eql 52 (.agg #[.int .i64 x.kind,.string x.text,.int .i64 x.n]) (.agg #[.int .i64 y.kind,.string y.text,.int .i64 y.n])).run Try.prog W = .ok (.bool (decide (x=y))) W:=by
 rw [run_eql_struct]
 go_simp
 by_cases h:x=y
 · subst h;simp
 · have h2 : ¬(x.kind=y.kind∧x.text.toList=y.text.toList∧x.n=y.n):=fun ⟨h1,h2,h3⟩=>h (Sym.ext' h1 (toList_inj h2) h3)
   rw [decide_eq_false h]
   split
   · split
     · split
       · exact absurd ⟨by assumption,by assumption,by assumption⟩ h2
       · rfl
     · rfl
   · rfl
theorem neq_sym (x y:Sym) (W:World):(binOp .neq 52 (.agg #[.int .i64 x.kind,.string x.text,.int .i64 x.n]) (.agg #[.int .i64 y.kind,.string y.text,.int .i64 y.n])).run Try.prog W = .ok (.bool (!decide (x=y))) W:=by
 rw [run_neq_struct]
 go_simp
 by_cases h:x=y
 · subst h;simp
 · have h2 : ¬(x.kind=y.kind∧x.text.toList=y.text.toList∧x.n=y.n):=fun ⟨h1,h2,h3⟩=>h (Sym.ext' h1 (toList_inj h2) h3)
   rw [decide_eq_false h]
   split
   · split
     · split
       · exact absurd ⟨by assumption,by assumption,by assumption⟩ h2
       · rfl
     · rfl
   · rfl
attribute [local go_sem] eql_sym neq_sym
def within (v n:Int):Int:=if n<1 then 0 else v % n
theorem sym_at {w:World} {A:Option Addr} {c k:Nat} {l:List Sym} (h:RowRd w 3 Sym.cells A c l) (hk:k<l.length) : ∃g off,A=some ⟨g,off,none⟩∧g<w.heap.size∧
 w.cell? ⟨g,off+k*3,none⟩=some (.int .i64 l[k].kind)∧w.cell? ⟨g,off+k*3+1,none⟩=some (.string l[k].text)∧w.cell? ⟨g,off+k*3+2,none⟩=some (.int .i64 l[k].n):=by
 obtain ⟨g,off,hA,hg,hc⟩:=h.at_ hk
 exact ⟨g,off,hA,hg,by simpa using hc 0 _ rfl,by simpa using hc 1 _ rfl,by simpa using hc 2 _ rfl⟩
theorem within_nat (v:Int) {n:Nat} (h:0<n) : ∃j:Nat,within v n=j∧j<n:=by
 have h1 : ¬(n:Int)<1:=by omega
 have h2:=Int.emod_nonneg v (show (n:Int)≠0 by omega)
 have h3:=Int.emod_lt_of_pos v (show (0:Int)<n by omega)
 refine ⟨(v % (n:Int)).toNat,?_,by omega⟩
 simp only [within,if_neg h1]
 omega
set_option maxHeartbeats 1000000 in
theorem within_is (v n:Int) (w:World) (hn:n≤9223372036854775807) :
 Calls Try.prog 10 #[.int .i64 v,.int .i64 n] w fun e w'=>e = .returned (.int .i64 (within v n))∧w=w':=by
 by_cases h:n<1
 · have hw:within v n=0:=by simp [within,h]
   rw [hw]
   go_enter Try.func10,Try.ntmps10
   go_wp2_with fail
   go_ret
   exact ⟨rfl,rfl⟩
 · have hw:within v n=v % n:=by simp [within,h]
   rw [hw]
   have e0:n≠0:=by omega
   have h1:v.tmod n<n:=Int.tmod_lt_of_pos v (by omega)
   have h2 : -n<v.tmod n:=by
    have:=Int.lt_tmod_of_pos v (show 0<n by omega)
    omega
   have e1:IntKind.i64.wrap (v.tmod n)=v.tmod n:=IntWalk.i64_in _ (by omega)
   have e2:v.tmod n<0→v % n=v.tmod n+n:=fun h3=>by
    have h4:=Int.emod_emod_of_dvd v (Int.dvd_refl n)
    have h5:(v.tmod n) % n=v % n:=by
     have:=Int.mul_tdiv_add_tmod v n
     have h6:v % n=(v.tmod n+n*v.tdiv n) % n:=by congr 1;omega
     rw [h6,Int.add_mul_emod_self_left]
    have h7:(v.tmod n+n) % n=v.tmod n % n:=by simp
    rw [← h5,← h7,Int.emod_eq_of_lt (by omega) (by omega)]
   have e3 : ¬v.tmod n<0→v % n=v.tmod n:=fun h3=>by
    have h5:(v.tmod n) % n=v % n:=by
     have:=Int.mul_tdiv_add_tmod v n
     have h6:v % n=(v.tmod n+n*v.tdiv n) % n:=by congr 1;omega
     rw [h6,Int.add_mul_emod_self_left]
    rw [← h5,Int.emod_eq_of_lt (by omega) (by omega)]
   have E2:=Lib.hid e2
   have E3:=Lib.hid e3
   clear e2 e3
   go_enter Try.func10,Try.ntmps10
   by_cases h3:v.tmod n<0
   · have E:=Lib.hid (E2.out h3)
     have e4:IntKind.i64.wrap (v.tmod n+n)=v.tmod n+n:=IntWalk.i64_in _ (by omega)
     clear E2 E3
     go_wp2_with fail
     go_ret
     exact ⟨by rw [E.out];rfl,rfl⟩
   · have E:=Lib.hid (E3.out h3)
     clear E2 E3
     go_wp2_with fail
     go_ret
     exact ⟨by rw [E.out];rfl,rfl⟩
end Go.Proofs.Ytffemfglngikbaa
namespace Go.Proofs.Ytffemfglngikbaa
open Go.RowKit Go.Shelf
theorem row_zero {D:Nat→Prop} {w:World} {A:Option Addr} {c:Nat} {l:List CondT} (h:RowR (repCondT 0) D w A c l):l = []:=by
 cases l with
 | nil=>rfl
 | cons y l=>
   obtain ⟨b,off,cs,_,_,_,hr,_⟩:=h.at_ (k:=0) (by simp)
   exact hr.elim
end Go.Proofs.Ytffemfglngikbaa
namespace Go.Proofs.Ytffemfglngikbaa
open Go.RowKit Go.Shelf
attribute [local go_sem] Oper.semAt_some
def restN (c:CondT):Nat→List ByteArray
 | 0=>varsT c.attr++varsT c.value
 | 1=>varsT c.value
 | _=>[]
def NamesPost (xs:List ByteArray) (J Jx:(Nat→Prop)→List ByteArray→World→Prop) (D E:Nat→Prop) (W X:World) (pre:List ByteArray) (e:Ending) (X':World):Prop:=
 (e = .returned (.bool true)∧(∃E',(∀k,E k→E' k)∧ItSt J D E' W pre X')∧Fr (fun k=>¬(D k∨E k)) X X')∨(e = .returned (.bool false)∧ToldO xs J Jx X')
def NamesSpec (n lo:Nat) (xs:List ByteArray) (J Jx:(Nat→Prop)→List ByteArray→World→Prop) (D:Nat→Prop) (W:World):Prop:=
 ∀(c:CondT) (A1:Option Addr) (a1:Nat) (A2:Option Addr) (a2:Nat) (A3:Option Addr) (a3:Nat) (E:Nat→Prop) (pre post:List ByteArray) (X:World),xs=pre++(namesN (n+1) c++post)→RowR repTestT D X A1 a1 c.attr→RowR repTestT D X A2 a2 c.value→RowR (repCondT n) D X A3 a3 c.conds→ItSt J D E W pre X→
  CallsIn Fence.wide 0 Try.prog 72 #[.agg #[.int .i64 c.kind,.bool c.goal,.string c.id,.slice A1 c.attr.length a1,.slice A2 c.value.length a2,.bool c.acc,.slice A3 c.conds.length a3],.func (.yield lo) #[] #[]] X (NamesPost xs J Jx D E W X (pre++namesN (n+1) c))
set_option maxRecDepth 100000 in
set_option maxHeartbeats 16000000 in
theorem names_step (n lo:Nat) (xs:List ByteArray) (J Jx:(Nat→Prop)→List ByteArray→World→Prop) (D:Nat→Prop) (W:World) (hJ:Steady W.heap.size J) (hY:RoundsO Try.prog lo encStr xs J Jx)
 (ih : ∀m,n=m+1→NamesSpec m lo xs J Jx D W):NamesSpec n lo xs J Jx D W:=by
 intro c A1 a1 A2 a2 A3 a3 E pre post X hx h1 h2 h3 hit
 have HJ:=Lib.hid hJ
 have HY:=Lib.hid hY
 have IH:=Lib.hid ih
 have H1:=Lib.hid h1
 have H2:=Lib.hid h2
 have H3:=Lib.hid h3
 have hac:=h3.cap
 have HX:=Lib.hid hx
 have HXX:=Lib.hid hx
 have HI:=Lib.hid hit
 obtain ⟨rc,hrc⟩ : ∃rc,rc=c.conds.flatMap (namesN n)++post:=⟨_,rfl⟩
 have HRC:=Lib.hid hrc
 have hbX:Below X.heap.size X (X.alloc (.cells #[.int .i64 c.kind,.bool c.goal,.string c.id,.slice A1 c.attr.length a1,.slice A2 c.value.length a2,.bool c.acc,.slice A3 c.conds.length a3] 50)):=(Below.refl _ _).alloc (Nat.le_refl _) _
 have HIX:=Lib.hid (HI.out.new_ HJ.out hbX)
 have KCX:=Lib.hid (show Blk (X.alloc (.cells #[.int .i64 c.kind,.bool c.goal,.string c.id,.slice A1 c.attr.length a1,.slice A2 c.value.length a2,.bool c.acc,.slice A3 c.conds.length a3] 50)) X.heap.size 50 #[.int .i64 c.kind,.bool c.goal,.string c.id,.slice A1 c.attr.length a1,.slice A2 c.value.length a2,.bool c.acc,.slice A3 c.conds.length a3] from Blk.new _ _ _)
 have HFX:=Lib.hid (show Fr (fun k=>¬(D k∨E k)) X (X.alloc (.cells #[.int .i64 c.kind,.bool c.goal,.string c.id,.slice A1 c.attr.length a1,.slice A2 c.value.length a2,.bool c.acc,.slice A3 c.conds.length a3] 50)) from Fr.of_new hbX)
 clear hJ hY ih h1 h2 h3 hx hit hrc hbX
 refine callsIn_of_wp Try.func72 rfl trivial ?_
 simp only [Try.ntmps72,List.size_toArray,List.length_cons,List.length_nil,Nat.reduceAdd,Nat.reduceSub,Array.replicate_succ,Array.replicate_zero,List.push_toArray,List.append_toArray,List.nil_append,List.cons_append]
 by_cases hid:c.id.toList = []
 · have ia:(c.id.toList == [])=true:=by simp [hid]
   have ib:c.id.toList.isEmpty=true:=by simp [hid]
   have ic:decide (c.id.toList = [])=true:=by simp [hid]
   have HX0:=Lib.hid (show xs=pre++(restN c 0++rc) by rw [HX.out,namesN,oneN_no hid,HRC.out];simp [restN])
   have HI0:=HIX
   have HC0:=Lib.hid (show Plus E X (X.alloc (.cells #[.int .i64 c.kind,.bool c.goal,.string c.id,.slice A1 c.attr.length a1,.slice A2 c.value.length a2,.bool c.acc,.slice A3 c.conds.length a3] 50)) X.heap.size from .inr ⟨Nat.le_refl _,by simp⟩)
   have KC0:=KCX
   have HE0:=Lib.hid (show ∀k,E k→Plus E X (X.alloc (.cells #[.int .i64 c.kind,.bool c.goal,.string c.id,.slice A1 c.attr.length a1,.slice A2 c.value.length a2,.bool c.acc,.slice A3 c.conds.length a3] 50)) k from fun k hk=>.inl hk)
   have HF0:=HFX
   clear hid HX
   gi_wp2_with fail
   refine ⟨(fun f h=>by cases h),?_⟩
   gi_wp2_with fail
   gi_loopw [26] (fun s wr=>∃(j:Nat) (E1:Nat→Prop) (p1:List ByteArray),s = .int .i64 j∧j≤2∧xs=p1++(restN c j++rc)∧ItSt J D E1 W p1 wr∧E1 X.heap.size∧Blk wr X.heap.size 50 #[.int .i64 c.kind,.bool c.goal,.string c.id,.slice A1 c.attr.length a1,.slice A2 c.value.length a2,.bool c.acc,.slice A3 c.conds.length a3]∧(∀k,E k→E1 k)∧Fr (fun k=>¬(D k∨E k)) X wr) (fun s wr=>2 - (intOf s).toNat)
   case atStart=>exact ⟨0,_,_,rfl,by omega,HX0.out,HI0.out,HC0.out,KC0.out,HE0.out,HF0.out⟩
   case round=>
    obtain ⟨j,E1,p1,rfl,hj,hx1,hit1,hc1,hk1,he1,hf1⟩:=hrel
    have HX1:=Lib.hid hx1
    have HI1:=Lib.hid hit1
    have HC1:=Lib.hid hc1
    have KC1:=Lib.hid hk1
    have HE1:=Lib.hid he1
    have HF1:=Lib.hid hf1
    clear hx1 hit1 hc1 hk1 he1 hf1
    by_cases hlt:j<2
    · obtain ⟨lj,Al,al,hix,hlj,hrj⟩ : ∃(lj:List TestT) (Al:Option Addr) (al:Nat),(∀V,(Instr.index 127 (.agg #[.slice A1 c.attr.length a1,.slice A2 c.value.length a2]) (.int .i64 (j:Int))).run Try.prog V = .ok (.slice Al lj.length al) V)∧RowR repTestT D X Al al lj∧restN c j=varsT lj++restN c (j+1):=by
       match j,hlt with
       | 0,_=>exact ⟨c.attr,A1,a1,fun V=>by rfl,H1.out,rfl⟩
       | 1,_=>exact ⟨c.value,A2,a2,fun V=>by rfl,H2.out,by simp [restN]⟩
      have HLJ:=Lib.hid hlj
      have hljc:=hlj.cap
      have jj1:(0:Int)≤(j:Int):=by omega
      have jj2:(j:Int)<2:=by omega
      obtain ⟨rj,hrjd⟩ : ∃rj,rj=restN c (j+1)++rc:=⟨_,rfl⟩
      have HX2:=Lib.hid (show xs=p1++(varsT (lj.drop 0)++rj) by rw [HX1.out,hrj,hrjd,List.drop_zero];simp)
      have HRJ:=Lib.hid hrjd
      clear hlj hrj hrjd HX1
      gi_wp2_with fail
      gi_loopw [31] (fun s wr=>∃(i:Nat) (E1:Nat→Prop) (p1:List ByteArray),s = .int .i64 i∧i≤lj.length∧xs=p1++(varsT (lj.drop i)++rj)∧ItSt J D E1 W p1 wr∧E1 X.heap.size∧Blk wr X.heap.size 50 #[.int .i64 c.kind,.bool c.goal,.string c.id,.slice A1 c.attr.length a1,.slice A2 c.value.length a2,.bool c.acc,.slice A3 c.conds.length a3]∧(∀k,E k→E1 k)∧Fr (fun k=>¬(D k∨E k)) X wr) (fun s wr=>lj.length - (intOf s).toNat)
      case atStart=>exact ⟨0,_,_,rfl,Nat.zero_le _,HX2.out,HI1.out,HC1.out,KC1.out,HE1.out,HF1.out⟩
      case round=>
       clear HX2 HI1 HC1 KC1 HE1 HF1
       obtain ⟨i,E1,p1,rfl,hi,hx1,hit1,hc1,hk1,he1,hf1⟩:=hrel
       have HX1:=Lib.hid hx1
       have HI1:=Lib.hid hit1
       have HC1:=Lib.hid hc1
       have KC1:=Lib.hid hk1
       have HE1:=Lib.hid he1
       have HF1:=Lib.hid hf1
       clear hx1 hit1 hc1 hk1 he1 hf1
       by_cases hlt2:i<lj.length
       · skip
         obtain ⟨y,hy0⟩ : ∃y,y=lj[i]:=⟨_,rfl⟩
         have htr:=HLJ.out.fr HF1.out (fun k hk hn=>hn (.inl hk))
         obtain ⟨gt,ot,At,at_,hA,_,hgt,q0,q1,q2,q3,q4,q5,_⟩:=at_TestT htr hlt2
         subst hA
         rw [← hy0] at q0 q1 q2 q3 q4 q5
         have HVD:=Lib.hid (show varsT (lj.drop i)=oneN y.var++varsT (lj.drop (i+1)) by rw [hy0];exact varsT_drop hlt2)
         have j1:(0:Int)≤(i:Int):=by omega
         have j2:(i:Int)<(lj.length:Int):=by omega
         clear hy0 htr
         have hbY:Below wr.heap.size wr (wr.alloc (.cells #[.int .i64 y.rel,.string y.var,.int .i64 y.sym.kind,.string y.sym.text,.int .i64 y.sym.n,.slice At y.list.length at_] 65)):=(Below.refl _ _).alloc (Nat.le_refl _) _
         have HIY:=Lib.hid (HI1.out.new_ HJ.out hbY)
         have HBY:=Lib.hid hbY
         have KCY:=Lib.hid (KC1.out.new_ hbY)
         have HFY:=Lib.hid (HF1.out.trans (Fr.of_new hbY))
         clear hbY
         by_cases hve:y.var.toList = []
         · have va:(y.var.toList == [])=true:=by simp [hve]
           have vb:y.var.toList.isEmpty=true:=by simp [hve]
           have vc:decide (y.var.toList = [])=true:=by simp [hve]
           have HXN:=Lib.hid (show xs=p1++(varsT (lj.drop (i+1))++rj) by rw [HX1.out,HVD.out,oneN_no hve,List.nil_append])
           have HIN:=HIY
           have HCN:=Lib.hid (show Plus E1 wr (wr.alloc (.cells #[.int .i64 y.rel,.string y.var,.int .i64 y.sym.kind,.string y.sym.text,.int .i64 y.sym.n,.slice At y.list.length at_] 65)) X.heap.size from .inl HC1.out)
           have KCN:=KCY
           have HEN:=Lib.hid (show ∀k,E k→Plus E1 wr (wr.alloc (.cells #[.int .i64 y.rel,.string y.var,.int .i64 y.sym.kind,.string y.sym.text,.int .i64 y.sym.n,.slice At y.list.length at_] 65)) k from fun k hk=>.inl (HE1.out k hk))
           have HFN:=HFY
           clear hve
           gi_wp2_with fail
           refine ⟨(fun f h=>by cases h),?_⟩
           gi_wp2_with fail
           go_roundw
           case rel=>exact ⟨i+1,_,_,by go_num,by omega,HXN.out,HIN.out,HCN.out,KCN.out,HEN.out,HFN.out⟩
           case measure=>simp [intOf]<;>omega
         · have va:(y.var.toList == [])=false:=by simp [hve]
           have vb:y.var.toList.isEmpty=false:=by simp [hve]
           have vc:decide (y.var.toList = [])=false:=by simp [hve]
           have HXV:=Lib.hid (show xs=p1++y.var :: (varsT (lj.drop (i+1))++rj) by rw [HX1.out,HVD.out,oneN_yes hve];simp)
           clear hve
           obtain ⟨fy,ty,ay,by_,hy,hR⟩:=(HIY.out).round HY.out (HXV.out)
           dsimp only [encStr] at hy
           have HRR:=Lib.hid hR
           clear hR
           gi_wp2_with fail
           refine ⟨rfl,HRR.out.mono ?_⟩
           rintro e W3 (⟨rfl,hi3,hk3⟩ | ⟨rfl,hT,-⟩)
           · have HI3:=Lib.hid hi3
             have HK3:=Lib.hid hk3
             clear hi3 hk3 hy
             have HXN:=Lib.hid (show xs=(p1 ++ [y.var])++(varsT (lj.drop (i+1))++rj) by rw [HXV.out];simp)
             have HIN:=HI3
             have HCN:=Lib.hid (show Plus E1 wr (wr.alloc (.cells #[.int .i64 y.rel,.string y.var,.int .i64 y.sym.kind,.string y.sym.text,.int .i64 y.sym.n,.slice At y.list.length at_] 65)) X.heap.size from .inl HC1.out)
             have KCN:=Lib.hid (KCY.out.fr HK3.out (fun hn=>hn (.inr (.inl HC1.out))))
             have HEN:=Lib.hid (show ∀k,E k→Plus E1 wr (wr.alloc (.cells #[.int .i64 y.rel,.string y.var,.int .i64 y.sym.kind,.string y.sym.text,.int .i64 y.sym.n,.slice At y.list.length at_] 65)) k from fun k hk=>.inl (HE1.out k hk))
             have HFN:=Lib.hid (HFY.out.trans (HK3.out.mono (fun k _ hk hd=>hk (hd.imp id (HEN.out k)))))
             gi_wp2_with fail
             go_roundw
             case rel=>exact ⟨i+1,_,_,by go_num,by omega,HXN.out,HIN.out,HCN.out,KCN.out,HEN.out,HFN.out⟩
             case measure=>simp [intOf]<;>omega
           · have HT:=Lib.hid hT
             clear hT hy
             gi_wp2_with fail
             go_ret
             exact .inr ⟨rfl,HT.out⟩
       · obtain rfl:i=lj.length:=by omega
         have HX3:=Lib.hid (show xs=p1++(restN c (j+1)++rc) by rw [HX1.out,List.drop_length,HRJ.out];simp [varsT])
         gi_wp2_with fail
         go_roundw
         case rel=>exact ⟨j+1,_,_,by go_num,by omega,HX3.out,HI1.out,HC1.out,KC1.out,HE1.out,HF1.out⟩
         case measure=>simp [intOf]<;>omega
    · have HJ2:=Lib.hid (show j=2 by omega)
      have HX2:=Lib.hid (show xs=p1++((c.conds.drop 0).flatMap (namesN n)++post) by rw [HX1.out,HRC.out,HJ2.out,List.drop_zero];rfl)
      have jn:decide ((j:Int)<2)=false:=by simp;omega
      have k6:=(KC1.out.cell 6).trans rfl
      have kz:=KC1.out.lt
      clear HX1
      gi_wp2_with fail
      clear k6 kz
      gi_loopw [50] (fun s wr=>∃(i:Nat) (E1:Nat→Prop) (p1:List ByteArray),s = .int .i64 i∧i≤c.conds.length∧xs=p1++((c.conds.drop i).flatMap (namesN n)++post)∧ItSt J D E1 W p1 wr∧E1 X.heap.size∧Blk wr X.heap.size 50 #[.int .i64 c.kind,.bool c.goal,.string c.id,.slice A1 c.attr.length a1,.slice A2 c.value.length a2,.bool c.acc,.slice A3 c.conds.length a3]∧(∀k,E k→E1 k)∧Fr (fun k=>¬(D k∨E k)) X wr) (fun s wr=>c.conds.length - (intOf s).toNat)
      case atStart=>exact ⟨0,_,_,rfl,Nat.zero_le _,HX2.out,HI1.out,HC1.out,KC1.out,HE1.out,HF1.out⟩
      case round=>
       clear HX2 HI1 HC1 KC1 HE1 HF1
       obtain ⟨i,E1,p1,rfl,hi,hx1,hit1,hc1,hk1,he1,hf1⟩:=hrel
       have HX1:=Lib.hid hx1
       have HI1:=Lib.hid hit1
       have HC1:=Lib.hid hc1
       have KC1:=Lib.hid hk1
       have HE1:=Lib.hid he1
       have HF1:=Lib.hid hf1
       clear hx1 hit1 hc1 hk1 he1 hf1
       by_cases hlt2:i<c.conds.length
       · obtain ⟨m,hnm⟩ : ∃m,n=m+1:=by
          cases n with
          | zero=>have:=row_zero H3.out;rw [this] at hlt2;simp at hlt2
          | succ m=>exact ⟨m,rfl⟩
         subst hnm
         obtain ⟨y,hy0⟩ : ∃y,y=c.conds[i]:=⟨_,rfl⟩
         have hcr:=H3.out.fr HF1.out (fun k hk hn=>hn (.inl hk))
         obtain ⟨gt,ot,B1,b1_,B2,b2_,B3,b3_,hA,_,hgt,q0,q1,q2,q3,q4,q5,q6,-,-,-⟩:=at_CondT hcr hlt2
         have HDC:=Lib.hid (show (c.conds.drop i).flatMap (namesN (m+1))=namesN (m+1) y++(c.conds.drop (i+1)).flatMap (namesN (m+1)) by rw [hy0,List.drop_eq_getElem_cons hlt2,List.flatMap_cons])
         subst hA
         rw [← hy0] at q0 q1 q2 q3 q4 q5 q6
         obtain ⟨_,_,_,_,_,_,_,_,hA9,_,_,_,_,_,q3',q4',_,q6',r1,r2,r3⟩:=at_CondT hcr hlt2
         injection hA9 with hA9
         injection hA9 with e1 e2
         subst e1
         subst e2
         rw [← hy0] at q3' q4' q6' r1 r2 r3
         rw [q3] at q3'
         rw [q4] at q4'
         rw [q6] at q6'
         injection q3' with q3';injection q3' with s1 s2 s3;subst s1;subst s3
         injection q4' with q4';injection q4' with s4 s5 s6;subst s4;subst s6
         injection q6' with q6';injection q6' with s7 s8 s9;subst s7;subst s9
         have j1:(0:Int)≤(i:Int):=by omega
         have j2:(i:Int)<(c.conds.length:Int):=by omega
         have hbY:Below wr.heap.size wr (wr.alloc (.cells #[.int .i64 y.kind,.bool y.goal,.string y.id,.slice B1 y.attr.length b1_,.slice B2 y.value.length b2_,.bool y.acc,.slice B3 y.conds.length b3_] 50)):=(Below.refl _ _).alloc (Nat.le_refl _) _
         have HXY:=Lib.hid (show xs=p1++(namesN (m+1) y++((c.conds.drop (i+1)).flatMap (namesN (m+1))++post)) by rw [HX1.out,HDC.out,List.append_assoc])
         have HIH:=Lib.hid (IH.out m rfl y B1 b1_ B2 b2_ B3 b3_ (Plus E1 wr (wr.alloc (.cells #[.int .i64 y.kind,.bool y.goal,.string y.id,.slice B1 y.attr.length b1_,.slice B2 y.value.length b2_,.bool y.acc,.slice B3 y.conds.length b3_] 50))) p1 _ (wr.alloc (.cells #[.int .i64 y.kind,.bool y.goal,.string y.id,.slice B1 y.attr.length b1_,.slice B2 y.value.length b2_,.bool y.acc,.slice B3 y.conds.length b3_] 50)) HXY.out (r1.new_ hbY) (r2.new_ hbY) (r3.new_ hbY) (HI1.out.new_ HJ.out hbY))
         have KCY:=Lib.hid (KC1.out.new_ hbY)
         have HFY:=Lib.hid (HF1.out.trans (Fr.of_new hbY))
         clear hy0 hcr r1 r2 r3 hbY s2 s5 s8
         gi_wp2_with fail
         refine ⟨trivial,rfl,?_⟩
         refine HIH.out.mono ?_
         rintro e w5 (⟨rfl,⟨E5,he5,hi5⟩,hf5⟩ | ⟨rfl,hT⟩)
         · have HXN:=Lib.hid (show xs=(p1++namesN (m+1) y)++((c.conds.drop (i+1)).flatMap (namesN (m+1))++post) by rw [HXY.out];simp)
           have HI5:=Lib.hid hi5
           have HC5:=Lib.hid (he5 _ (.inl HC1.out))
           have KC5:=Lib.hid (KCY.out.fr hf5 (fun hn=>hn (.inr (.inl HC1.out))))
           have HE5:=Lib.hid (show ∀k,E k→E5 k from fun k hk=>he5 k (.inl (HE1.out k hk)))
           have HF5:=Lib.hid (HFY.out.trans (hf5.mono (fun k _ hk hd=>hk (hd.imp id (fun h=>.inl (HE1.out k h))))))
           clear he5 hi5 hf5 q0 q1 q2 q3 q4 q5 q6
           gi_wp2_with fail
           go_roundw
           case rel=>exact ⟨i+1,_,_,by go_num,by omega,HXN.out,HI5.out,HC5.out,KC5.out,HE5.out,HF5.out⟩
           case measure=>simp [intOf]<;>omega
         · have HT:=Lib.hid hT
           clear hT q0 q1 q2 q3 q4 q5 q6
           gi_wp2_with fail
           go_ret
           exact .inr ⟨rfl,HT.out⟩
       · obtain rfl:i=c.conds.length:=by omega
         have HXE:=Lib.hid (show p1=pre++namesN (n+1) c by
          have h:=HX1.out
          rw [List.drop_length,List.flatMap_nil,List.nil_append,HXX.out,← List.append_assoc] at h
          exact (List.append_cancel_right h).symm)
         gi_wp2_with fail
         go_ret
         exact .inl ⟨rfl,⟨E1,HE1.out,by have:=HI1.out;rw [HXE.out] at this;exact this⟩,HF1.out⟩
 · have ia:(c.id.toList == [])=false:=by simp [hid]
   have ib:c.id.toList.isEmpty=false:=by simp [hid]
   have ic:decide (c.id.toList = [])=false:=by simp [hid]
   have HXV:=Lib.hid (show xs=pre++c.id :: (restN c 0++rc) by rw [HX.out,namesN,oneN_yes hid,HRC.out];simp [restN])
   clear hid HX
   obtain ⟨fy,ty,ay,by_,hy,hR⟩:=(HIX.out).round HY.out (HXV.out)
   dsimp only [encStr] at hy
   have HRR:=Lib.hid hR
   clear hR
   gi_wp2_with fail
   refine ⟨rfl,HRR.out.mono ?_⟩
   rintro e W3 (⟨rfl,hi3,hk3⟩ | ⟨rfl,hT,-⟩)
   · have HI3:=Lib.hid hi3
     have HK3:=Lib.hid hk3
     clear hi3 hk3 hy
     have HX0:=Lib.hid (show xs=(pre ++ [c.id])++(restN c 0++rc) by rw [HXV.out];simp)
     have HI0:=HI3
     have HC0:=Lib.hid (show Plus E X (X.alloc (.cells #[.int .i64 c.kind,.bool c.goal,.string c.id,.slice A1 c.attr.length a1,.slice A2 c.value.length a2,.bool c.acc,.slice A3 c.conds.length a3] 50)) X.heap.size from .inr ⟨Nat.le_refl _,by simp⟩)
     have KC0:=Lib.hid (KCX.out.fr HK3.out (fun hn=>hn (.inr HC0.out)))
     have HE0:=Lib.hid (show ∀k,E k→Plus E X (X.alloc (.cells #[.int .i64 c.kind,.bool c.goal,.string c.id,.slice A1 c.attr.length a1,.slice A2 c.value.length a2,.bool c.acc,.slice A3 c.conds.length a3] 50)) k from fun k hk=>.inl hk)
     have HF0:=Lib.hid (HFX.out.trans (HK3.out.mono (fun k _ hk hd=>hk (hd.imp id (HE0.out k)))))
     have x3:=(KC0.out.cell 3).trans rfl
     have x4:=(KC0.out.cell 4).trans rfl
     have xz:=KC0.out.lt
     gi_wp2_with fail
     clear x3 x4 xz
     gi_loopw [26] (fun s wr=>∃(j:Nat) (E1:Nat→Prop) (p1:List ByteArray),s = .int .i64 j∧j≤2∧xs=p1++(restN c j++rc)∧ItSt J D E1 W p1 wr∧E1 X.heap.size∧Blk wr X.heap.size 50 #[.int .i64 c.kind,.bool c.goal,.string c.id,.slice A1 c.attr.length a1,.slice A2 c.value.length a2,.bool c.acc,.slice A3 c.conds.length a3]∧(∀k,E k→E1 k)∧Fr (fun k=>¬(D k∨E k)) X wr) (fun s wr=>2 - (intOf s).toNat)
     case atStart=>exact ⟨0,_,_,rfl,by omega,HX0.out,HI0.out,HC0.out,KC0.out,HE0.out,HF0.out⟩
     case round=>
      obtain ⟨j,E1,p1,rfl,hj,hx1,hit1,hc1,hk1,he1,hf1⟩:=hrel
      have HX1:=Lib.hid hx1
      have HI1:=Lib.hid hit1
      have HC1:=Lib.hid hc1
      have KC1:=Lib.hid hk1
      have HE1:=Lib.hid he1
      have HF1:=Lib.hid hf1
      clear hx1 hit1 hc1 hk1 he1 hf1
      by_cases hlt:j<2
      · obtain ⟨lj,Al,al,hix,hlj,hrj⟩ : ∃(lj:List TestT) (Al:Option Addr) (al:Nat),(∀V,(Instr.index 127 (.agg #[.slice A1 c.attr.length a1,.slice A2 c.value.length a2]) (.int .i64 (j:Int))).run Try.prog V = .ok (.slice Al lj.length al) V)∧RowR repTestT D X Al al lj∧restN c j=varsT lj++restN c (j+1):=by
         match j,hlt with
         | 0,_=>exact ⟨c.attr,A1,a1,fun V=>by rfl,H1.out,rfl⟩
         | 1,_=>exact ⟨c.value,A2,a2,fun V=>by rfl,H2.out,by simp [restN]⟩
        have HLJ:=Lib.hid hlj
        have hljc:=hlj.cap
        have jj1:(0:Int)≤(j:Int):=by omega
        have jj2:(j:Int)<2:=by omega
        obtain ⟨rj,hrjd⟩ : ∃rj,rj=restN c (j+1)++rc:=⟨_,rfl⟩
        have HX2:=Lib.hid (show xs=p1++(varsT (lj.drop 0)++rj) by rw [HX1.out,hrj,hrjd,List.drop_zero];simp)
        have HRJ:=Lib.hid hrjd
        clear hlj hrj hrjd HX1
        gi_wp2_with fail
        gi_loopw [31] (fun s wr=>∃(i:Nat) (E1:Nat→Prop) (p1:List ByteArray),s = .int .i64 i∧i≤lj.length∧xs=p1++(varsT (lj.drop i)++rj)∧ItSt J D E1 W p1 wr∧E1 X.heap.size∧Blk wr X.heap.size 50 #[.int .i64 c.kind,.bool c.goal,.string c.id,.slice A1 c.attr.length a1,.slice A2 c.value.length a2,.bool c.acc,.slice A3 c.conds.length a3]∧(∀k,E k→E1 k)∧Fr (fun k=>¬(D k∨E k)) X wr) (fun s wr=>lj.length - (intOf s).toNat)
        case atStart=>exact ⟨0,_,_,rfl,Nat.zero_le _,HX2.out,HI1.out,HC1.out,KC1.out,HE1.out,HF1.out⟩
        case round=>
         clear HX2 HI1 HC1 KC1 HE1 HF1
         obtain ⟨i,E1,p1,rfl,hi,hx1,hit1,hc1,hk1,he1,hf1⟩:=hrel
         have HX1:=Lib.hid hx1
         have HI1:=Lib.hid hit1
         have HC1:=Lib.hid hc1
         have KC1:=Lib.hid hk1
         have HE1:=Lib.hid he1
         have HF1:=Lib.hid hf1
         clear hx1 hit1 hc1 hk1 he1 hf1
         by_cases hlt2:i<lj.length
         · skip
           obtain ⟨y,hy0⟩ : ∃y,y=lj[i]:=⟨_,rfl⟩
           have htr:=HLJ.out.fr HF1.out (fun k hk hn=>hn (.inl hk))
           obtain ⟨gt,ot,At,at_,hA,_,hgt,q0,q1,q2,q3,q4,q5,_⟩:=at_TestT htr hlt2
           subst hA
           rw [← hy0] at q0 q1 q2 q3 q4 q5
           have HVD:=Lib.hid (show varsT (lj.drop i)=oneN y.var++varsT (lj.drop (i+1)) by rw [hy0];exact varsT_drop hlt2)
           have j1:(0:Int)≤(i:Int):=by omega
           have j2:(i:Int)<(lj.length:Int):=by omega
           clear hy0 htr
           have hbY:Below wr.heap.size wr (wr.alloc (.cells #[.int .i64 y.rel,.string y.var,.int .i64 y.sym.kind,.string y.sym.text,.int .i64 y.sym.n,.slice At y.list.length at_] 65)):=(Below.refl _ _).alloc (Nat.le_refl _) _
           have HIY:=Lib.hid (HI1.out.new_ HJ.out hbY)
           have HBY:=Lib.hid hbY
           have KCY:=Lib.hid (KC1.out.new_ hbY)
           have HFY:=Lib.hid (HF1.out.trans (Fr.of_new hbY))
           clear hbY
           by_cases hve:y.var.toList = []
           · have va:(y.var.toList == [])=true:=by simp [hve]
             have vb:y.var.toList.isEmpty=true:=by simp [hve]
             have vc:decide (y.var.toList = [])=true:=by simp [hve]
             have HXN:=Lib.hid (show xs=p1++(varsT (lj.drop (i+1))++rj) by rw [HX1.out,HVD.out,oneN_no hve,List.nil_append])
             have HIN:=HIY
             have HCN:=Lib.hid (show Plus E1 wr (wr.alloc (.cells #[.int .i64 y.rel,.string y.var,.int .i64 y.sym.kind,.string y.sym.text,.int .i64 y.sym.n,.slice At y.list.length at_] 65)) X.heap.size from .inl HC1.out)
             have KCN:=KCY
             have HEN:=Lib.hid (show ∀k,E k→Plus E1 wr (wr.alloc (.cells #[.int .i64 y.rel,.string y.var,.int .i64 y.sym.kind,.string y.sym.text,.int .i64 y.sym.n,.slice At y.list.length at_] 65)) k from fun k hk=>.inl (HE1.out k hk))
             have HFN:=HFY
             clear hve
             gi_wp2_with fail
             refine ⟨(fun f h=>by cases h),?_⟩
             gi_wp2_with fail
             go_roundw
             case rel=>exact ⟨i+1,_,_,by go_num,by omega,HXN.out,HIN.out,HCN.out,KCN.out,HEN.out,HFN.out⟩
             case measure=>simp [intOf]<;>omega
           · have va:(y.var.toList == [])=false:=by simp [hve]
             have vb:y.var.toList.isEmpty=false:=by simp [hve]
             have vc:decide (y.var.toList = [])=false:=by simp [hve]
             have HXV:=Lib.hid (show xs=p1++y.var :: (varsT (lj.drop (i+1))++rj) by rw [HX1.out,HVD.out,oneN_yes hve];simp)
             clear hve
             obtain ⟨fy,ty,ay,by_,hy,hR⟩:=(HIY.out).round HY.out (HXV.out)
             dsimp only [encStr] at hy
             have HRR:=Lib.hid hR
             clear hR
             gi_wp2_with fail
             refine ⟨rfl,HRR.out.mono ?_⟩
             rintro e W3 (⟨rfl,hi3,hk3⟩ | ⟨rfl,hT,-⟩)
             · have HI3:=Lib.hid hi3
               have HK3:=Lib.hid hk3
               clear hi3 hk3 hy
               have HXN:=Lib.hid (show xs=(p1 ++ [y.var])++(varsT (lj.drop (i+1))++rj) by rw [HXV.out];simp)
               have HIN:=HI3
               have HCN:=Lib.hid (show Plus E1 wr (wr.alloc (.cells #[.int .i64 y.rel,.string y.var,.int .i64 y.sym.kind,.string y.sym.text,.int .i64 y.sym.n,.slice At y.list.length at_] 65)) X.heap.size from .inl HC1.out)
               have KCN:=Lib.hid (KCY.out.fr HK3.out (fun hn=>hn (.inr (.inl HC1.out))))
               have HEN:=Lib.hid (show ∀k,E k→Plus E1 wr (wr.alloc (.cells #[.int .i64 y.rel,.string y.var,.int .i64 y.sym.kind,.string y.sym.text,.int .i64 y.sym.n,.slice At y.list.length at_] 65)) k from fun k hk=>.inl (HE1.out k hk))
               have HFN:=Lib.hid (HFY.out.trans (HK3.out.mono (fun k _ hk hd=>hk (hd.imp id (HEN.out k)))))
               gi_wp2_with fail
               go_roundw
               case rel=>exact ⟨i+1,_,_,by go_num,by omega,HXN.out,HIN.out,HCN.out,KCN.out,HEN.out,HFN.out⟩
               case measure=>simp [intOf]<;>omega
             · have HT:=Lib.hid hT
               clear hT hy
               gi_wp2_with fail
               go_ret
               exact .inr ⟨rfl,HT.out⟩
         · obtain rfl:i=lj.length:=by omega
           have HX3:=Lib.hid (show xs=p1++(restN c (j+1)++rc) by rw [HX1.out,List.drop_length,HRJ.out];simp [varsT])
           gi_wp2_with fail
           go_roundw
           case rel=>exact ⟨j+1,_,_,by go_num,by omega,HX3.out,HI1.out,HC1.out,KC1.out,HE1.out,HF1.out⟩
           case measure=>simp [intOf]<;>omega
      · have HJ2:=Lib.hid (show j=2 by omega)
        have HX2:=Lib.hid (show xs=p1++((c.conds.drop 0).flatMap (namesN n)++post) by rw [HX1.out,HRC.out,HJ2.out,List.drop_zero];rfl)
        have jn:decide ((j:Int)<2)=false:=by simp;omega
        have k6:=(KC1.out.cell 6).trans rfl
        have kz:=KC1.out.lt
        clear HX1
        gi_wp2_with fail
        clear k6 kz
        gi_loopw [50] (fun s wr=>∃(i:Nat) (E1:Nat→Prop) (p1:List ByteArray),s = .int .i64 i∧i≤c.conds.length∧xs=p1++((c.conds.drop i).flatMap (namesN n)++post)∧ItSt J D E1 W p1 wr∧E1 X.heap.size∧Blk wr X.heap.size 50 #[.int .i64 c.kind,.bool c.goal,.string c.id,.slice A1 c.attr.length a1,.slice A2 c.value.length a2,.bool c.acc,.slice A3 c.conds.length a3]∧(∀k,E k→E1 k)∧Fr (fun k=>¬(D k∨E k)) X wr) (fun s wr=>c.conds.length - (intOf s).toNat)
        case atStart=>exact ⟨0,_,_,rfl,Nat.zero_le _,HX2.out,HI1.out,HC1.out,KC1.out,HE1.out,HF1.out⟩
        case round=>
         clear HX2 HI1 HC1 KC1 HE1 HF1
         obtain ⟨i,E1,p1,rfl,hi,hx1,hit1,hc1,hk1,he1,hf1⟩:=hrel
         have HX1:=Lib.hid hx1
         have HI1:=Lib.hid hit1
         have HC1:=Lib.hid hc1
         have KC1:=Lib.hid hk1
         have HE1:=Lib.hid he1
         have HF1:=Lib.hid hf1
         clear hx1 hit1 hc1 hk1 he1 hf1
         by_cases hlt2:i<c.conds.length
         · obtain ⟨m,hnm⟩ : ∃m,n=m+1:=by
            cases n with
            | zero=>have:=row_zero H3.out;rw [this] at hlt2;simp at hlt2
            | succ m=>exact ⟨m,rfl⟩
           subst hnm
           obtain ⟨y,hy0⟩ : ∃y,y=c.conds[i]:=⟨_,rfl⟩
           have hcr:=H3.out.fr HF1.out (fun k hk hn=>hn (.inl hk))
           obtain ⟨gt,ot,B1,b1_,B2,b2_,B3,b3_,hA,_,hgt,q0,q1,q2,q3,q4,q5,q6,-,-,-⟩:=at_CondT hcr hlt2
           have HDC:=Lib.hid (show (c.conds.drop i).flatMap (namesN (m+1))=namesN (m+1) y++(c.conds.drop (i+1)).flatMap (namesN (m+1)) by rw [hy0,List.drop_eq_getElem_cons hlt2,List.flatMap_cons])
           subst hA
           rw [← hy0] at q0 q1 q2 q3 q4 q5 q6
           obtain ⟨_,_,_,_,_,_,_,_,hA9,_,_,_,_,_,q3',q4',_,q6',r1,r2,r3⟩:=at_CondT hcr hlt2
           injection hA9 with hA9
           injection hA9 with e1 e2
           subst e1
           subst e2
           rw [← hy0] at q3' q4' q6' r1 r2 r3
           rw [q3] at q3'
           rw [q4] at q4'
           rw [q6] at q6'
           injection q3' with q3';injection q3' with s1 s2 s3;subst s1;subst s3
           injection q4' with q4';injection q4' with s4 s5 s6;subst s4;subst s6
           injection q6' with q6';injection q6' with s7 s8 s9;subst s7;subst s9
           have j1:(0:Int)≤(i:Int):=by omega
           have j2:(i:Int)<(c.conds.length:Int):=by omega
           have hbY:Below wr.heap.size wr (wr.alloc (.cells #[.int .i64 y.kind,.bool y.goal,.string y.id,.slice B1 y.attr.length b1_,.slice B2 y.value.length b2_,.bool y.acc,.slice B3 y.conds.length b3_] 50)):=(Below.refl _ _).alloc (Nat.le_refl _) _
           have HXY:=Lib.hid (show xs=p1++(namesN (m+1) y++((c.conds.drop (i+1)).flatMap (namesN (m+1))++post)) by rw [HX1.out,HDC.out,List.append_assoc])
           have HIH:=Lib.hid (IH.out m rfl y B1 b1_ B2 b2_ B3 b3_ (Plus E1 wr (wr.alloc (.cells #[.int .i64 y.kind,.bool y.goal,.string y.id,.slice B1 y.attr.length b1_,.slice B2 y.value.length b2_,.bool y.acc,.slice B3 y.conds.length b3_] 50))) p1 _ (wr.alloc (.cells #[.int .i64 y.kind,.bool y.goal,.string y.id,.slice B1 y.attr.length b1_,.slice B2 y.value.length b2_,.bool y.acc,.slice B3 y.conds.length b3_] 50)) HXY.out (r1.new_ hbY) (r2.new_ hbY) (r3.new_ hbY) (HI1.out.new_ HJ.out hbY))
           have KCY:=Lib.hid (KC1.out.new_ hbY)
           have HFY:=Lib.hid (HF1.out.trans (Fr.of_new hbY))
           clear hy0 hcr r1 r2 r3 hbY s2 s5 s8
           gi_wp2_with fail
           refine ⟨trivial,rfl,?_⟩
           refine HIH.out.mono ?_
           rintro e w5 (⟨rfl,⟨E5,he5,hi5⟩,hf5⟩ | ⟨rfl,hT⟩)
           · have HXN:=Lib.hid (show xs=(p1++namesN (m+1) y)++((c.conds.drop (i+1)).flatMap (namesN (m+1))++post) by rw [HXY.out];simp)
             have HI5:=Lib.hid hi5
             have HC5:=Lib.hid (he5 _ (.inl HC1.out))
             have KC5:=Lib.hid (KCY.out.fr hf5 (fun hn=>hn (.inr (.inl HC1.out))))
             have HE5:=Lib.hid (show ∀k,E k→E5 k from fun k hk=>he5 k (.inl (HE1.out k hk)))
             have HF5:=Lib.hid (HFY.out.trans (hf5.mono (fun k _ hk hd=>hk (hd.imp id (fun h=>.inl (HE1.out k h))))))
             clear he5 hi5 hf5 q0 q1 q2 q3 q4 q5 q6
             gi_wp2_with fail
             go_roundw
             case rel=>exact ⟨i+1,_,_,by go_num,by omega,HXN.out,HI5.out,HC5.out,KC5.out,HE5.out,HF5.out⟩
             case measure=>simp [intOf]<;>omega
           · have HT:=Lib.hid hT
             clear hT q0 q1 q2 q3 q4 q5 q6
             gi_wp2_with fail
             go_ret
             exact .inr ⟨rfl,HT.out⟩
         · obtain rfl:i=c.conds.length:=by omega
           have HXE:=Lib.hid (show p1=pre++namesN (n+1) c by
            have h:=HX1.out
            rw [List.drop_length,List.flatMap_nil,List.nil_append,HXX.out,← List.append_assoc] at h
            exact (List.append_cancel_right h).symm)
           gi_wp2_with fail
           go_ret
           exact .inl ⟨rfl,⟨E1,HE1.out,by have:=HI1.out;rw [HXE.out] at this;exact this⟩,HF1.out⟩
   · have HT:=Lib.hid hT
     clear hT hy
     gi_wp2_with fail
     go_ret
     exact .inr ⟨rfl,HT.out⟩
end Go.Proofs.Ytffemfglngikbaa
namespace Go.Proofs.Ytffemfglngikbaa
open Go.RowKit Go.Shelf
attribute [local go_sem] Oper.semAt_some
theorem names_is (n lo:Nat) (xs:List ByteArray) (J Jx:(Nat→Prop)→List ByteArray→World→Prop) (D:Nat→Prop) (W:World) (hJ:Steady W.heap.size J) (hY:RoundsO Try.prog lo encStr xs J Jx):NamesSpec n lo xs J Jx D W:=by
 induction n with
 | zero=>exact names_step 0 lo xs J Jx D W hJ hY (fun m h=>by omega)
 | succ n ih=>exact names_step (n+1) lo xs J Jx D W hJ hY (fun m h=>by obtain rfl:n=m:=by omega
                                                                       exact ih)
set_option maxRecDepth 100000 in
set_option maxHeartbeats 4000000 in
theorem namesI_is {D:Nat→Prop} (n:Nat) (c:CondT) (kb:Nat) (A1 A2 A3:Option Addr) (a1 a2 a3:Nat) (W:World) (hkb:Blk W kb 50 #[.int .i64 c.kind,.bool c.goal,.string c.id,.slice A1 c.attr.length a1,.slice A2 c.value.length a2,.bool c.acc,.slice A3 c.conds.length a3]) (_:D kb)
 (h1:RowR repTestT D W A1 a1 c.attr) (h2:RowR repTestT D W A2 a2 c.value) (h3:RowR (repCondT n) D W A3 a3 c.conds) :
 IterO Try.prog 71 #[.pointer (some ⟨kb,0,none⟩)] encStr (namesN (n+1) c) W D:=by
 intro lo J Jx hJ hJx h0 hY
 have hc:=names_is n lo (namesN (n+1) c) J Jx D W hJ hY c A1 a1 A2 a2 A3 a3 (fun _=>False) [] [] W (by simp) h1 h2 h3 (ItSt.start h0)
 obtain ⟨ns,hns⟩ : ∃ns,ns=namesN (n+1) c:=⟨_,rfl⟩
 rw [← hns] at hc ⊢
 have HC:=Lib.hid hc
 obtain ⟨q0,q1,q2,q3,q4,q5,q6⟩:=hkb.c7
 have hkl:=hkb.lt
 clear hc hns h0 hJ hJx hY h1 h2 h3 hkb
 refine callsIn_of_wp Try.func71 rfl trivial ?_
 simp only [Try.ntmps71,List.size_toArray,List.length_cons,List.length_nil,Nat.reduceAdd,Nat.reduceSub,Array.replicate_succ,Array.replicate_zero,List.push_toArray,List.append_toArray,List.nil_append,List.cons_append]
 gi_wp2_with fail
 refine ⟨trivial,rfl,?_⟩
 refine HC.out.mono ?_
 rintro e w5 (⟨rfl,⟨E5,_,hi5⟩,_⟩ | ⟨rfl,hT⟩)
 · have HI5:=Lib.hid hi5
   clear hi5 q0 q1 q2 q3 q4 q5 q6
   gi_wp2_with fail
   go_end0
   refine ⟨⟨_,rfl⟩,?_⟩
   have:=HI5.out
   rw [List.nil_append] at this
   exact this.told
 · have HT:=Lib.hid hT
   clear hT q0 q1 q2 q3 q4 q5 q6
   gi_wp2_with fail
   go_end0
   exact ⟨⟨_,rfl⟩,HT.out⟩
set_option maxHeartbeats 400000 in
theorem mknames_is (c:CondT) (A1 A2 A3:Option Addr) (a1 a2 a3:Nat) (w:World) :
 Calls Try.prog 56 #[.agg #[.int .i64 c.kind,.bool c.goal,.string c.id,.slice A1 c.attr.length a1,.slice A2 c.value.length a2,.bool c.acc,.slice A3 c.conds.length a3]] w fun e w'=>e = .returned (.func (.func 71) #[] #[.pointer (some ⟨w.heap.size,0,none⟩)])∧Blk w' w.heap.size 50 #[.int .i64 c.kind,.bool c.goal,.string c.id,.slice A1 c.attr.length a1,.slice A2 c.value.length a2,.bool c.acc,.slice A3 c.conds.length a3]∧Below w.heap.size w w':=by
 go_enter Try.func56,Try.ntmps56
 go_wp2_with fail
 go_ret
 exact ⟨rfl,Blk.new _ _ _,(Below.refl _ _).alloc (Nat.le_refl _) _⟩
end Go.Proofs.Ytffemfglngikbaa
namespace Go.Proofs.Ytffemfglngikbaa
open Go.RowKit
variable {P:Program} {α:Type}
def StopSt (Jx:(Nat→Prop)→List α→World→Prop) (D E:Nat→Prop) (W:World) (xs:List α) (X:World):Prop:=
 ∃D' pre post,(∀k,D k→D' k)∧(∀k,E k→D' k)∧xs=pre++post∧Jx D' pre X∧(∀k,E k→W.heap.size≤k)∧W.heap.size≤X.heap.size
section
variable {J Jx:(Nat→Prop)→List α→World→Prop} {D E E':Nat→Prop} {W X Y:World} {pre xs:List α}
theorem StopSt.step (h:StopSt Jx D E W xs X) (hJ:Steady W.heap.size Jx) (hF:Fr E X Y):StopSt Jx D (Plus E X Y) W xs Y:=by
 obtain ⟨D',p,q,h1,h2,h3,h4,h5,h6⟩:=h
 refine ⟨Plus D' X Y,p,q,fun k hk=>.inl (h1 k hk),fun k hk=>hk.imp (h2 k) id,h3,hJ _ _ _ _ h4 (hF.mono (fun k _ hk=>⟨h2 k hk,h5 k hk⟩)),fun k hk=>?_,Nat.le_trans h6 hF.size⟩
 rcases hk with hk | hk
 · exact h5 k hk
 · exact Nat.le_trans h6 hk.1
theorem StopSt.same (h:StopSt Jx D E W xs X) (hJ:Steady W.heap.size Jx) (hF:Fr E X Y) (hz:Y.heap.size=X.heap.size):StopSt Jx D E W xs Y:=by
 have:=h.step hJ hF
 rwa [Plus.same hz] at this
theorem StopSt.told (h:StopSt Jx D E W xs X):ToldO xs J Jx X:=by
 obtain ⟨D',p,q,_,_,h3,h4,_⟩:=h
 exact ⟨D',.inr ⟨p,q,h3,h4⟩⟩
theorem ItSt.same (h:ItSt J D E W pre X) (hJ:Steady W.heap.size J) (hF:Fr E X Y) (hz:Y.heap.size=X.heap.size):ItSt J D E W pre Y:=by
 have:=h.step hJ hF
 rwa [Plus.same hz] at this
theorem ItSt.roundS {l:Nat} {encs:α→Array Value} {x:α} {post:List α} (h:ItSt J D E W pre X) (hY:RoundsO P l encs xs J Jx) (hx:xs=pre++x :: post) :
 YieldAt Fence.wide 0 P l (encs x) X fun e W'=>(e = .returned (.bool true)∧ItSt J D E W (pre ++ [x]) W'∧Fr (fun k=>¬(D k∨E k)) X W')∨(e = .returned (.bool false)∧StopSt Jx D E W xs W'∧Fr (fun k=>¬(D k∨E k)) X W'):=by
 obtain ⟨D',h1,h2,h3,h4,h5⟩:=h
 obtain ⟨fn,tmps,assign,body,hy,hR⟩:=hY D' pre x post X hx h3
 refine ⟨fn,tmps,assign,body,hy,hR.mono ?_⟩
 rintro e W' (⟨g1,g2,g3⟩ | ⟨g1,g2,g3⟩)
 · exact .inl ⟨g1,⟨D',h1,h2,g2,h4.trans (g3.mono (fun k _ hk hd=>hk (h1 k hd))),h5⟩,g3.mono (fun k _ hk hd=>hk (hd.elim (h1 k) (h2 k)))⟩
 · exact .inr ⟨g1,⟨D',pre ++ [x],post,h1,h2,by rw [hx];simp,g2,h5,Nat.le_trans h4.size g3.size⟩,g3.mono (fun k _ hk hd=>hk (hd.elim (h1 k) (h2 k)))⟩
end
def Marks (E:Nat→Prop):List Deferred→World→Prop
 | [],_=>True
 | d :: ds,w=>(∃r,d = { target:=.collected r,args:=#[] }∧E r∧w.heap[r]? = some (.deferred (some []))∧∀d'∈ds,d'.target≠.collected r)∧Marks E ds w
section
variable {E E':Nat→Prop} {ds:List Deferred} {w w':World}
theorem Marks.mono (h:Marks E ds w) (hE : ∀k,E k→E' k):Marks E' ds w:=by
 induction ds with
 | nil=>trivial
 | cons d ds ih=>
   obtain ⟨⟨r,h1,h2,h3,h4⟩,h5⟩:=h
   exact ⟨⟨r,h1,hE r h2,h3,h4⟩,ih h5⟩
theorem Marks.fr {M:Nat→Prop} (h:Marks E ds w) (hF:Fr M w w') (hM : ∀k,E k→¬M k):Marks E ds w':=by
 induction ds with
 | nil=>trivial
 | cons d ds ih=>
   obtain ⟨⟨r,h1,h2,h3,h4⟩,h5⟩:=h
   exact ⟨⟨r,h1,h2,(hF.block r (Array.getElem?_eq_some_iff.1 h3).1 (hM r h2)).trans h3,h4⟩,ih h5⟩
theorem Marks.of (h:Marks E ds w):Marks (fun k=>E k∧k<w.heap.size) ds w:=by
 induction ds with
 | nil=>trivial
 | cons d ds ih=>
   obtain ⟨⟨r,h1,h2,h3,h4⟩,h5⟩:=h
   exact ⟨⟨r,h1,⟨h2,(Array.getElem?_eq_some_iff.1 h3).1⟩,h3,h4⟩,ih h5⟩
theorem Marks.in_ (h:Marks E ds w) : ∀d∈ds,∀r,d.target = .collected r→E r:=by
 induction ds with
 | nil=>intro d hd;cases hd
 | cons d ds ih=>
   obtain ⟨⟨r,h1,h2,h3,h4⟩,h5⟩:=h
   intro d' hd r' hr
   rcases List.mem_cons.1 hd with e | hd
   · subst e;subst h1
     injection hr with hr
     subst hr
     exact h2
   · exact ih h5 d' hd r' hr
theorem Marks.cons {d:Nat} (h:Marks E ds w) (hE : ∀k,E k→E' k) (hd:E' d) (hk:w.heap[d]? = some (.deferred (some []))) (hn : ¬E d):Marks E' ({ target:=.collected d,args:=#[] } :: ds) w:=
 ⟨⟨d,rfl,hd,hk,fun d' hd' e=>hn (h.in_ d' hd' d e)⟩,h.mono hE⟩
theorem leaves_marks {F:Fence} {n:Nat} {fn:Func} {tmps:Array Value} {R:Ending→World→Prop} : ∀(ds:List Deferred) (w:World),Marks E ds w→(∀w',Fr E w w'→w'.heap.size=w.heap.size→LeavesInM F n P fn tmps R [] .returning w')→LeavesInM F n P fn tmps R ds .returning w
 | [],w,_,hR=>hR w (Fr.refl _ _) rfl
 | d :: ds,w,⟨⟨r,h1,h2,h3,h4⟩,h5⟩,hR=>by
   subst h1
   have hput:Fr (· = r) w (w.putObj r (.deferred none)):=(Fr.refl (· = r) w).putObj (.inl rfl) _
   have hm:Marks E ds (w.putObj r (.deferred none)):=by
    clear hR
    induction ds with
    | nil=>trivial
    | cons d ds ih=>
      obtain ⟨⟨r',g1,g2,g3,g4⟩,g5⟩:=h5
      refine ⟨⟨r',g1,g2,(hput.block r' (Array.getElem?_eq_some_iff.1 g3).1 (fun e=>h4 d (by simp) (by rw [g1,e]))).trans g3,g4⟩,ih (fun d' hd'=>h4 d' (by simp [hd'])) g5⟩
   exact ⟨by simp,.inl ⟨_,_,rfl,run_takeDeferred h3,leaves_marks ds _ hm (fun w' hF hz=>hR w' ((hput.mono (fun k _ e=>by rw [e];exact h2)).trans hF) (by rw [hz];simp))⟩⟩
end
end Go.Proofs.Ytffemfglngikbaa
namespace Go.Proofs.Ytffemfglngikbaa
open Go.RowKit
def headB (f:UInt8→Bool) (t:ByteArray):Bool:=t.data.toList.head?.any f
theorem headB_eq {f:UInt8→Bool} {t:ByteArray} (h:0<t.size):headB f t=f t[0]:=by
 have hs:t.data.toList.length=t.size:=Array.length_toList
 unfold headB
 rw [List.head?_eq_getElem?,List.getElem?_eq_getElem (by omega),Option.any_some,Array.getElem_toList]
 rfl
def validB (s:Sym):Bool:=
 if s.kind=1 then decide (s.text.size=1) && headB greatB s.text && decide (1≤s.n) && decide (s.n≤1048576)
 else if s.kind=2 then decide (s.text.toList = []) && decide (-2147483647≤s.n) && decide (s.n≤2147483647)
 else if s.kind=3 then decide (s.n=0) && isWord s.text else false
theorem ret_bool {a b:Bool} (h:a=b):Ending.returned (.bool a) = .returned (.bool b):=by rw [h]
theorem validB_id {t:ByteArray} {n:Int} (h:validB ⟨1,t,n⟩=true):t.size=1∧headB greatB t=true∧1≤n∧n≤1048576:=by
 simp only [validB,if_true,Bool.and_eq_true,decide_eq_true_eq] at h
 exact ⟨h.1.1.1,h.1.1.2,h.1.2,h.2⟩
theorem validB_int {t:ByteArray} {n:Int} (h:validB ⟨2,t,n⟩=true):t.toList = []∧-2147483647≤n∧n≤2147483647:=by
 simp [validB] at h
 exact ⟨h.1.1,h.1.2,h.2⟩
theorem validB_kind {k n:Int} {t:ByteArray} (h:validB ⟨k,t,n⟩=true):k=1∨k=2∨k=3:=by
 unfold validB at h
 dsimp only at h
 split at h
 · exact .inl ‹_›
 · split at h
   · exact .inr (.inl ‹_›)
   · split at h
     · exact .inr (.inr ‹_›)
     · cases h
def textB (s:Sym):ByteArray:=if validB s=true then (if s.kind=1 then s.text++numB s.n else if s.kind=2 then numB s.n else s.text) else ⟨#[]⟩
theorem numB_nat (k:Nat):numB (k:Int)=decB k:=by unfold numB;rw [if_neg (by omega)];simp
theorem numB_neg (k:Nat) (h:0<k):numB (-(k:Int))=⟨#[45]⟩++decB k:=by unfold numB;rw [if_pos (by omega)];simp
theorem textB_no {s:Sym} (h:validB s=false):textB s=⟨#[]⟩:=by unfold textB;rw [h];simp
set_option maxRecDepth 100000 in
set_option maxHeartbeats 4000000 in
theorem valid_is (s:Sym) (w:World):Calls Try.prog 110 #[.agg #[.int .i64 s.kind,.string s.text,.int .i64 s.n]] w fun e w'=>e = .returned (.bool (validB s))∧Below w.heap.size w w':=by
 obtain ⟨k,t,n⟩:=s
 dsimp only
 by_cases k1:k=1
 · subst k1
   by_cases a1:t.size=1
   · have h0:0<t.size:=by omega
     have t1:((t.size:Int) == 1)=true:=by simp;omega
     have HV:=Lib.hid (show validB ⟨1,t,n⟩=(greatB t[0] && decide (1≤n) && decide (n≤1048576)) by simp [validB,a1,headB_eq h0])
     go_enter Try.func110,Try.ntmps110
     go_wp2_with (go_at_call 112;refine (great_is _ _).mono ?_;rintro e w' ⟨rfl,rfl⟩)
     all_goals
      go_ret
      refine ⟨?_,(Below.refl _ _).alloc (Nat.le_refl _) _⟩
      rw [HV.out]
      first | rfl | (refine ret_bool ?_;simp_all;done) | (refine ret_bool ?_;simp_all;omega) | (refine ret_bool ?_;simp_all [greatB];done) | (refine ret_bool ?_;simp_all [greatB];omega)
   · have t1:((t.size:Int) == 1)=false:=by simp;omega
     have HV:=Lib.hid (show validB ⟨1,t,n⟩=false by simp [validB,a1])
     go_enter Try.func110,Try.ntmps110
     go_wp2_with fail
     all_goals
      go_ret
      refine ⟨?_,(Below.refl _ _).alloc (Nat.le_refl _) _⟩
      rw [HV.out]
      rfl
 · by_cases k2:k=2
   · subst k2
     have HV:=Lib.hid (show validB ⟨2,t,n⟩=(decide (t.toList = []) && decide (-2147483647≤n) && decide (n≤2147483647)) by simp [validB])
     clear k1
     go_enter Try.func110,Try.ntmps110
     go_wp2_with fail
     all_goals
      go_ret
      refine ⟨?_,(Below.refl _ _).alloc (Nat.le_refl _) _⟩
      rw [HV.out]
      first | rfl | (refine ret_bool ?_;simp_all;done) | (refine ret_bool ?_;simp_all;omega) | (refine ret_bool ?_;simp_all [greatB];done) | (refine ret_bool ?_;simp_all [greatB];omega)
   · by_cases k3:k=3
     · subst k3
       have HV:=Lib.hid (show validB ⟨3,t,n⟩=(decide (n=0) && isWord t) by simp [validB])
       clear k1 k2
       go_enter Try.func110,Try.ntmps110
       go_wp2_with (go_at_call 86;refine (word_is _ _).mono ?_;rintro e w' ⟨rfl,rfl⟩)
       all_goals
        go_ret
        refine ⟨?_,(Below.refl _ _).alloc (Nat.le_refl _) _⟩
        rw [HV.out]
        first | rfl | (refine ret_bool ?_;simp_all;done) | (refine ret_bool ?_;simp_all;omega) | (refine ret_bool ?_;simp_all [greatB];done) | (refine ret_bool ?_;simp_all [greatB];omega)
     · have HV:=Lib.hid (show validB ⟨k,t,n⟩=false by simp [validB,k1,k2,k3])
       have t1:(k == 1)=false:=by simp [k1]
       have t2:(k == 2)=false:=by simp [k2]
       have t3:(k == 3)=false:=by simp [k3]
       clear k1 k2 k3
       go_enter Try.func110,Try.ntmps110
       go_wp2_with fail
       all_goals
        go_ret
        refine ⟨?_,(Below.refl _ _).alloc (Nat.le_refl _) _⟩
        rw [HV.out]
        rfl
set_option maxRecDepth 100000 in
set_option maxHeartbeats 4000000 in
theorem rvalid_is (s:Sym) (w:World):Calls Try.prog 85 #[.agg #[.int .i64 s.kind,.string s.text,.int .i64 s.n]] w fun e w'=>e = .returned (.bool (validB s))∧Below w.heap.size w w':=by
 obtain ⟨k,t,n⟩:=s
 dsimp only
 by_cases k1:k=1
 · subst k1
   by_cases a1:t.size=1
   · have h0:0<t.size:=by omega
     have t1:((t.size:Int) == 1)=true:=by simp;omega
     have HV:=Lib.hid (show validB ⟨1,t,n⟩=(greatB t[0] && decide (1≤n) && decide (n≤1048576)) by simp [validB,a1,headB_eq h0])
     go_enter Try.func85,Try.ntmps85
     go_wp2_with (fail)
     all_goals
      go_ret
      refine ⟨?_,(Below.refl _ _).alloc (Nat.le_refl _) _⟩
      rw [HV.out]
      first | rfl | (refine ret_bool ?_;simp_all;done) | (refine ret_bool ?_;simp_all;omega) | (refine ret_bool ?_;simp_all [greatB];done) | (refine ret_bool ?_;simp_all [greatB];omega)
   · have t1:((t.size:Int) == 1)=false:=by simp;omega
     have HV:=Lib.hid (show validB ⟨1,t,n⟩=false by simp [validB,a1])
     go_enter Try.func85,Try.ntmps85
     go_wp2_with fail
     all_goals
      go_ret
      refine ⟨?_,(Below.refl _ _).alloc (Nat.le_refl _) _⟩
      rw [HV.out]
      rfl
 · by_cases k2:k=2
   · subst k2
     have HV:=Lib.hid (show validB ⟨2,t,n⟩=(decide (t.toList = []) && decide (-2147483647≤n) && decide (n≤2147483647)) by simp [validB])
     clear k1
     go_enter Try.func85,Try.ntmps85
     go_wp2_with fail
     all_goals
      go_ret
      refine ⟨?_,(Below.refl _ _).alloc (Nat.le_refl _) _⟩
      rw [HV.out]
      first | rfl | (refine ret_bool ?_;simp_all;done) | (refine ret_bool ?_;simp_all;omega) | (refine ret_bool ?_;simp_all [greatB];done) | (refine ret_bool ?_;simp_all [greatB];omega)
   · by_cases k3:k=3
     · subst k3
       have HV:=Lib.hid (show validB ⟨3,t,n⟩=(decide (n=0) && isWord t) by simp [validB])
       clear k1 k2
       go_enter Try.func85,Try.ntmps85
       go_wp2_with (go_at_call 48;refine (rword_is _ _).mono ?_;rintro e w' ⟨rfl,rfl⟩)
       all_goals
        go_ret
        refine ⟨?_,(Below.refl _ _).alloc (Nat.le_refl _) _⟩
        rw [HV.out]
        first | rfl | (refine ret_bool ?_;simp_all;done) | (refine ret_bool ?_;simp_all;omega) | (refine ret_bool ?_;simp_all [greatB];done) | (refine ret_bool ?_;simp_all [greatB];omega)
     · have HV:=Lib.hid (show validB ⟨k,t,n⟩=false by simp [validB,k1,k2,k3])
       have t1:(k == 1)=false:=by simp [k1]
       have t2:(k == 2)=false:=by simp [k2]
       have t3:(k == 3)=false:=by simp [k3]
       clear k1 k2 k3
       go_enter Try.func85,Try.ntmps85
       go_wp2_with fail
       all_goals
        go_ret
        refine ⟨?_,(Below.refl _ _).alloc (Nat.le_refl _) _⟩
        rw [HV.out]
        rfl
set_option maxRecDepth 100000 in
set_option maxHeartbeats 4000000 in
theorem text_is (s:Sym) (w:World):Calls Try.prog 104 #[.agg #[.int .i64 s.kind,.string s.text,.int .i64 s.n]] w fun e w'=>e = .returned (.string (textB s))∧Below w.heap.size w w':=by
 cases hv:validB s
 · have HT:=Lib.hid (textB_no hv)
   go_enter Try.func104,Try.ntmps104
   go_wp2_with fail
   refine (valid_is s _).mono ?_
   rintro e w1 ⟨rfl,hb1⟩
   have HB:=Lib.hid (((Below.refl w.heap.size w).alloc (Nat.le_refl _) _).trans (hb1.mono (by simp)))
   clear hb1
   go_wp2_with fail
   go_ret
   exact ⟨by rw [HT.out]<;>rfl,HB.out⟩
 obtain ⟨k,t,n⟩:=s
 dsimp only
 have HT0:Hid (textB ⟨k,t,n⟩=if k=1 then t++numB n else if k=2 then numB n else t):=Lib.hid (by unfold textB;rw [hv];rfl)
 rcases validB_kind hv with rfl | rfl | rfl
 · obtain ⟨h1,_,h3,h4⟩:=validB_id hv
   obtain ⟨m,rfl⟩ : ∃m:Nat,n=(m:Int):=⟨n.toNat,by omega⟩
   have HT:=Lib.hid (show textB ⟨1,t,m⟩=t++decB m by rw [HT0.out,numB_nat];rfl)
   have hz : ¬9223372036854775807<t.size+(decB m).size:=by have:=decB_size m;omega
   have hm:m≤4000000000:=by omega
   clear h1 h3 h4 HT0
   go_enter Try.func104,Try.ntmps104
   go_wp2_with fail
   refine (valid_is ⟨1,t,m⟩ _).mono ?_
   rintro e w1 ⟨rfl,hb1⟩
   have hx1:=(Blk.new w 52 #[.int .i64 1,.string t,.int .i64 m]).new_ hb1
   have y0:=(hx1.cell 0).trans rfl
   have y1:=(hx1.cell 1).trans rfl
   have y2:=(hx1.cell 2).trans rfl
   have hxl:=hx1.lt
   have HB:=Lib.hid (((Below.refl w.heap.size w).alloc (Nat.le_refl _) _).trans (hb1.mono (by simp)))
   clear hb1 hx1
   go_wp2_with fail
   refine wp_region_E (fun w9=>Below w1.heap.size w1 w9) [(0,0),(1,1),(2,0),(3,1),(4,2),(5,0),(6,0)] (by kernel_rfl) (by kernel_rfl) (fun KK hKK=>?_)
   simp only [beside,List.filterMap_cons,List.filterMap_nil,List.getElem?_toArray,List.getElem?_cons_zero,List.getElem?_cons_succ,Option.map_some]
   repeat ((first | (refine wpX_w ?_ (Or.inl ⟨by rfl,fun w9=>?_⟩) ?_;rotate_left 1;go_simp;with_reducible rfl) | (refine wpX_l ?_ (((Below.refl _ _).drew)) (Or.inl ⟨by rfl,fun w9 hw9=>?_⟩) ?_;rotate_left 1;obtain ⟨hc9,hf9⟩:=bcell hw9;go_simp;with_reducible rfl) | refine wpX_w undef (Or.inr ⟨by rfl,rfl⟩) ?_ | refine wpX_l undef (((Below.refl _ _).drew)) (Or.inr ⟨by rfl,rfl⟩) ?_);go_frame)
   refine wpX_es (fun K9 hK9=>?_)
   go_simp
   refine (digits_is m hm _).mono ?_
   rintro e w2 ⟨rfl,hb2⟩
   have HB2:=Lib.hid ((Below.refl w1.heap.size w1).drew.trans (hb2.mono (by simp)))
   clear hb2
   refine hK9 _ _ HB2.out ?_
   clear hK9 K9
   repeat ((first | (refine wpX_w ?_ (Or.inl ⟨by rfl,fun w9=>?_⟩) ?_;rotate_left 1;go_simp;with_reducible rfl) | (refine wpX_l ?_ (HB2.out) (Or.inl ⟨by rfl,fun w9 hw9=>?_⟩) ?_;rotate_left 1;obtain ⟨hc9,hf9⟩:=bcell hw9;go_simp;with_reducible rfl) | refine wpX_w undef (Or.inr ⟨by rfl,rfl⟩) ?_ | refine wpX_l undef (HB2.out) (Or.inr ⟨by rfl,rfl⟩) ?_);go_frame)
   refine wpX_nil ?_
   simp only [OnlyN_normal]
   refine hKK _ _ ?_
   clear hKK KK
   go_wp2_with fail
   go_ret
   exact ⟨by rw [HT.out]<;>rfl,HB.out.trans (HB2.out.mono HB.out.size)⟩
 · obtain ⟨h1,h3,h4⟩:=validB_int hv
   by_cases hn:n<0
   · obtain ⟨m,rfl⟩ : ∃m:Nat,n = -(m:Int):=⟨(-n).toNat,by omega⟩
     have HT:=Lib.hid (show textB ⟨2,t,-(m:Int)⟩=⟨#[45]⟩++decB m by rw [HT0.out,numB_neg m (by omega)];rfl)
     have hz : ¬9223372036854775807<1+(decB m).size:=by have:=decB_size m;omega
     have hz2 : ¬9223372036854775807<(⟨#[45]⟩:ByteArray).size+(decB m).size:=by have:=decB_size m;have e:(⟨#[45]⟩:ByteArray).size=1:=rfl;omega
     have hm:m≤4000000000:=by omega
     have v1:IntKind.i64.wrap (-(-(m:Int)))=(m:Int):=by rw [IntWalk.i64_in _ (by omega)];omega
     have v2:IntKind.i64.wrap (m:Int)=(m:Int):=IntWalk.i64_in _ (by omega)
     have t1:decide (-(m:Int)<0)=true:=by simpa using hn
     clear h1 h3 h4 HT0
     go_enter Try.func104,Try.ntmps104
     go_wp2_with fail
     refine (valid_is ⟨2,t,-(m:Int)⟩ _).mono ?_
     rintro e w1 ⟨rfl,hb1⟩
     have hx1:=(Blk.new w 52 #[.int .i64 2,.string t,.int .i64 (-(m:Int))]).new_ hb1
     have y0:=(hx1.cell 0).trans rfl
     have y1:=(hx1.cell 1).trans rfl
     have y2:=(hx1.cell 2).trans rfl
     have HB:=Lib.hid (((Below.refl w.heap.size w).alloc (Nat.le_refl _) _).trans (hb1.mono (by simp)))
     clear hb1 hx1
     go_wp2_with fail
     refine (digits_is m hm _).mono ?_
     rintro e w2 ⟨rfl,hb2⟩
     have HB2:=Lib.hid (HB.out.trans (hb2.mono HB.out.size))
     clear hb2
     go_wp2_with fail
     go_ret
     exact ⟨by rw [HT.out]<;>rfl,HB2.out⟩
   · obtain ⟨m,rfl⟩ : ∃m:Nat,n=(m:Int):=⟨n.toNat,by omega⟩
     have HT:=Lib.hid (show textB ⟨2,t,m⟩=decB m by rw [HT0.out,numB_nat];rfl)
     have hm:m≤4000000000:=by omega
     have t1:decide ((m:Int)<0)=false:=by simp
     clear h1 h3 h4 HT0 hn
     go_enter Try.func104,Try.ntmps104
     go_wp2_with fail
     refine (valid_is ⟨2,t,m⟩ _).mono ?_
     rintro e w1 ⟨rfl,hb1⟩
     have hx1:=(Blk.new w 52 #[.int .i64 2,.string t,.int .i64 m]).new_ hb1
     have y0:=(hx1.cell 0).trans rfl
     have y1:=(hx1.cell 1).trans rfl
     have y2:=(hx1.cell 2).trans rfl
     have HB:=Lib.hid (((Below.refl w.heap.size w).alloc (Nat.le_refl _) _).trans (hb1.mono (by simp)))
     clear hb1 hx1
     go_wp2_with fail
     refine (digits_is m hm _).mono ?_
     rintro e w2 ⟨rfl,hb2⟩
     have HB2:=Lib.hid (HB.out.trans (hb2.mono HB.out.size))
     clear hb2
     go_wp2_with fail
     go_ret
     exact ⟨by rw [HT.out]<;>rfl,HB2.out⟩
 · have HT:=Lib.hid (show textB ⟨3,t,n⟩=t by rw [HT0.out];rfl)
   clear HT0
   go_enter Try.func104,Try.ntmps104
   go_wp2_with fail
   refine (valid_is ⟨3,t,n⟩ _).mono ?_
   rintro e w1 ⟨rfl,hb1⟩
   have hx1:=(Blk.new w 52 #[.int .i64 3,.string t,.int .i64 n]).new_ hb1
   have y0:=(hx1.cell 0).trans rfl
   have y1:=(hx1.cell 1).trans rfl
   have y2:=(hx1.cell 2).trans rfl
   have HB:=Lib.hid (((Below.refl w.heap.size w).alloc (Nat.le_refl _) _).trans (hb1.mono (by simp)))
   clear hb1 hx1
   go_wp2_with fail
   go_ret
   exact ⟨by rw [HT.out]<;>rfl,HB.out⟩
end Go.Proofs.Ytffemfglngikbaa
namespace Go.Proofs.Ytffemfglngikbaa
def zS:Sym:=⟨0,⟨#[]⟩,0⟩
def noneB (s:Sym):Bool:=decide (s=zS)
def emptyB (a:AtomT):Bool:=decide (a.var.toList = []) && noneB a.sym
def constB (s:Sym):Bool:=decide (s.kind≠1) && validB s
def testB (t:TestT):Bool:=
 if t.rel=8 then decide (t.var.toList = []) && noneB t.sym && decide (1≤t.list.length) && decide (t.list.length≤8) && t.list.all constB
 else if t.rel<1∨7<t.rel∨0<t.list.length then false
 else if t.var.toList = [] then constB t.sym else isWord t.var && noneB t.sym
def atomB (a:AtomT):Bool:=if a.var.toList = [] then constB a.sym else isWord a.var && noneB a.sym
def condE (c:CondT) (deep:Nat):Int:=
 if c.kind=3 then (if c.goal=true∨c.id.toList≠[]∨0<c.attr.length∨0<c.value.length∨c.acc=true∨c.conds.length=0 then 9 else if 3≤deep then 8 else 0)
 else if c.kind=1∨c.kind=2 then
  (if 0<c.conds.length∨isWord c.id=false∨c.attr.length=0 then 9 else if 4<c.attr.length∨4<c.value.length then 7 else if (c.attr.all testB && c.value.all testB)=false then 9 else 0)
 else 9
def wordAB (a:AtomT):Bool:=decide (a.var.toList = []) && decide (a.sym.kind=3)
def termB (t:TermT):Bool:=
 if t.op<0∨3<t.op∨atomB t.a=false then false
 else if t.op=0 then emptyB t.b else atomB t.b && !wordAB t.a && !wordAB t.b
def otherB (k:Int):Bool:=decide (k=8) || decide (k=9) || decide (k=10)
def actB (a:ActT):Bool:=
 if isWord a.id=false∨atomB a.attr=false∨termB a.value=false∨a.pref<1∨10<a.pref then false
 else if otherB a.pref=true then atomB a.other else emptyB a.other
def flatC:Nat→Nat→List CondT→List (Nat×CondT)
 | 0,_,_=>[]
 | n+1,d,l=>l.flatMap fun c=>(d,c) :: flatC n (d+1) c.conds
def shapeP (n:Nat) (p:ProdT):Int×Int:=
 if isWord p.name=false then (-1,2)
 else if (flatC n 0 p.conds).length<1∨16<(flatC n 0 p.conds).length∨p.acts.length<1∨16<p.acts.length then (-1,7)
 else match (flatC n 0 p.conds).findIdx? (fun c=>decide (condE c.2 c.1≠0)) with
  | some k=>(k,(((flatC n 0 p.conds)[k]?).map fun c=>condE c.2 c.1).getD 0)
  | none=>match p.acts.findIdx? (fun a=>!actB a) with
    | some i=>((flatC n 0 p.conds).length+i,9)
    | none=>(-1,0)
end Go.Proofs.Ytffemfglngikbaa
