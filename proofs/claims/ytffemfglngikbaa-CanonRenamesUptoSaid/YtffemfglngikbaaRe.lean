/-
  Texts put together: RangeM, SymValid, ShapePlain, Shape1, Canon1, Canon2.
-/
import Derived.Test.YtffemfglngikbaaRa
import Derived.Test.YtffemfglngikbaaRd
import Derived.Test.YtffemfglngikbaaRb
import Derived.Test.YtffemfglngikbaaRc
import Derived.Laws.EntriesVeiled
import Derived.Maps.RangeWalk
namespace Go.Proofs.Ytffemfglngikbaa
open Go.RowKit
variable {P:Program} {α:Type}
def StopSt (Jx:(Nat→Prop)→List α→World→Prop) (D E:Nat→Prop) (W:World) (xs:List α) (X:World):Prop:=
 ∃D' pre post,(∀k,D k→D' k)∧(∀k,E k→D' k)∧xs=pre++post∧Jx D' pre X∧(∀k,E k→W.heap.size≤k)∧W.heap.size≤X.heap.size
section
variable {J Jx:(Nat→Prop)→List α→World→Prop} {D E E':Nat→Prop} {W X Y:World} {pre xs:List α}
theorem StopSt.step (h:StopSt Jx D E W xs X) (hJ:Steady W.heap.size Jx) (hF:Fr E X Y):StopSt Jx D (Plus E X Y) W xs Y:=by
 obtain ⟨D',p,q,h1,h2,h3,h4,h5,h6⟩:=h
 refine ⟨Plus D' X Y,p,q,fun k hk=>.inl (h1 k hk),fun k hk=>hk.imp (h2 k) id,h3,hJ _ _ _ _ h4 (hF.mono (fun k _ hk=>⟨h2 k hk,h5 k hk⟩)),fun k hk=>?_,Nat.le_trans h6 hF.size⟩
 rcases hk with hk | hk
 · exact h5 k hk
 · exact Nat.le_trans h6 hk.1
theorem StopSt.same (h:StopSt Jx D E W xs X) (hJ:Steady W.heap.size Jx) (hF:Fr E X Y) (hz:Y.heap.size=X.heap.size):StopSt Jx D E W xs Y:=by
 have:=h.step hJ hF
 rwa [Plus.same hz] at this
theorem StopSt.told (h:StopSt Jx D E W xs X):ToldO xs J Jx X:=by
 obtain ⟨D',p,q,_,_,h3,h4,_⟩:=h
 exact ⟨D',.inr ⟨p,q,h3,h4⟩⟩
theorem ItSt.same (h:ItSt J D E W pre X) (hJ:Steady W.heap.size J) (hF:Fr E X Y) (hz:Y.heap.size=X.heap.size):ItSt J D E W pre Y:=by
 have:=h.step hJ hF
 rwa [Plus.same hz] at this
theorem ItSt.roundS {l:Nat} {encs:α→Array Value} {x:α} {post:List α} (h:ItSt J D E W pre X) (hY:RoundsO P l encs xs J Jx) (hx:xs=pre++x :: post) :
 YieldAt Fence.wide 0 P l (encs x) X fun e W'=>(e = .returned (.bool true)∧ItSt J D E W (pre ++ [x]) W'∧Fr (fun k=>¬(D k∨E k)) X W')∨(e = .returned (.bool false)∧StopSt Jx D E W xs W'∧Fr (fun k=>¬(D k∨E k)) X W'):=by
 obtain ⟨D',h1,h2,h3,h4,h5⟩:=h
 obtain ⟨fn,tmps,assign,body,hy,hR⟩:=hY D' pre x post X hx h3
 refine ⟨fn,tmps,assign,body,hy,hR.mono ?_⟩
 rintro e W' (⟨g1,g2,g3⟩ | ⟨g1,g2,g3⟩)
 · exact .inl ⟨g1,⟨D',h1,h2,g2,h4.trans (g3.mono (fun k _ hk hd=>hk (h1 k hd))),h5⟩,g3.mono (fun k _ hk hd=>hk (hd.elim (h1 k) (h2 k)))⟩
 · exact .inr ⟨g1,⟨D',pre ++ [x],post,h1,h2,by rw [hx];simp,g2,h5,Nat.le_trans h4.size g3.size⟩,g3.mono (fun k _ hk hd=>hk (hd.elim (h1 k) (h2 k)))⟩
end
def Marks (E:Nat→Prop):List Deferred→World→Prop
 | [],_=>True
 | d :: ds,w=>(∃r,d = { target:=.collected r,args:=#[] }∧E r∧w.heap[r]? = some (.deferred (some []))∧∀d'∈ds,d'.target≠.collected r)∧Marks E ds w
section
variable {E E':Nat→Prop} {ds:List Deferred} {w w':World}
theorem Marks.mono (h:Marks E ds w) (hE : ∀k,E k→E' k):Marks E' ds w:=by
 induction ds with
 | nil=>trivial
 | cons d ds ih=>
   obtain ⟨⟨r,h1,h2,h3,h4⟩,h5⟩:=h
   exact ⟨⟨r,h1,hE r h2,h3,h4⟩,ih h5⟩
theorem Marks.fr {M:Nat→Prop} (h:Marks E ds w) (hF:Fr M w w') (hM : ∀k,E k→¬M k):Marks E ds w':=by
 induction ds with
 | nil=>trivial
 | cons d ds ih=>
   obtain ⟨⟨r,h1,h2,h3,h4⟩,h5⟩:=h
   exact ⟨⟨r,h1,h2,(hF.block r (Array.getElem?_eq_some_iff.1 h3).1 (hM r h2)).trans h3,h4⟩,ih h5⟩
theorem Marks.of (h:Marks E ds w):Marks (fun k=>E k∧k<w.heap.size) ds w:=by
 induction ds with
 | nil=>trivial
 | cons d ds ih=>
   obtain ⟨⟨r,h1,h2,h3,h4⟩,h5⟩:=h
   exact ⟨⟨r,h1,⟨h2,(Array.getElem?_eq_some_iff.1 h3).1⟩,h3,h4⟩,ih h5⟩
theorem Marks.in_ (h:Marks E ds w) : ∀d∈ds,∀r,d.target = .collected r→E r:=by
 induction ds with
 | nil=>intro d hd;cases hd
 | cons d ds ih=>
   obtain ⟨⟨r,h1,h2,h3,h4⟩,h5⟩:=h
   intro d' hd r' hr
   rcases List.mem_cons.1 hd with e | hd
   · subst e;subst h1
     injection hr with hr
     subst hr
     exact h2
   · exact ih h5 d' hd r' hr
theorem Marks.cons {d:Nat} (h:Marks E ds w) (hE : ∀k,E k→E' k) (hd:E' d) (hk:w.heap[d]? = some (.deferred (some []))) (hn : ¬E d):Marks E' ({ target:=.collected d,args:=#[] } :: ds) w:=
 ⟨⟨d,rfl,hd,hk,fun d' hd' e=>hn (h.in_ d' hd' d e)⟩,h.mono hE⟩
theorem leaves_marks {F:Fence} {n:Nat} {fn:Func} {tmps:Array Value} {R:Ending→World→Prop} : ∀(ds:List Deferred) (w:World),Marks E ds w→(∀w',Fr E w w'→w'.heap.size=w.heap.size→LeavesInM F n P fn tmps R [] .returning w')→LeavesInM F n P fn tmps R ds .returning w
 | [],w,_,hR=>hR w (Fr.refl _ _) rfl
 | d :: ds,w,⟨⟨r,h1,h2,h3,h4⟩,h5⟩,hR=>by
   subst h1
   have hput:Fr (· = r) w (w.putObj r (.deferred none)):=(Fr.refl (· = r) w).putObj (.inl rfl) _
   have hm:Marks E ds (w.putObj r (.deferred none)):=by
    clear hR
    induction ds with
    | nil=>trivial
    | cons d ds ih=>
      obtain ⟨⟨r',g1,g2,g3,g4⟩,g5⟩:=h5
      refine ⟨⟨r',g1,g2,(hput.block r' (Array.getElem?_eq_some_iff.1 g3).1 (fun e=>h4 d (by simp) (by rw [g1,e]))).trans g3,g4⟩,ih (fun d' hd'=>h4 d' (by simp [hd'])) g5⟩
   exact ⟨by simp,.inl ⟨_,_,rfl,run_takeDeferred h3,leaves_marks ds _ hm (fun w' hF hz=>hR w' ((hput.mono (fun k _ e=>by rw [e];exact h2)).trans hF) (by rw [hz];simp))⟩⟩
end
end Go.Proofs.Ytffemfglngikbaa
namespace Go.Proofs.Ytffemfglngikbaa
open Go.RowKit
def headB (f:UInt8→Bool) (t:ByteArray):Bool:=t.data.toList.head?.any f
theorem headB_eq {f:UInt8→Bool} {t:ByteArray} (h:0<t.size):headB f t=f t[0]:=by
 have hs:t.data.toList.length=t.size:=Array.length_toList
 unfold headB
 rw [List.head?_eq_getElem?,List.getElem?_eq_getElem (by omega),Option.any_some,Array.getElem_toList]
 rfl
def validB (s:Sym):Bool:=
 if s.kind=1 then decide (s.text.size=1) && headB greatB s.text && decide (1≤s.n) && decide (s.n≤1048576)
 else if s.kind=2 then decide (s.text.toList = []) && decide (-2147483647≤s.n) && decide (s.n≤2147483647)
 else if s.kind=3 then decide (s.n=0) && isWord s.text else false
theorem ret_bool {a b:Bool} (h:a=b):Ending.returned (.bool a) = .returned (.bool b):=by rw [h]
theorem validB_id {t:ByteArray} {n:Int} (h:validB ⟨1,t,n⟩=true):t.size=1∧headB greatB t=true∧1≤n∧n≤1048576:=by
 simp only [validB,if_true,Bool.and_eq_true,decide_eq_true_eq] at h
 exact ⟨h.1.1.1,h.1.1.2,h.1.2,h.2⟩
theorem validB_int {t:ByteArray} {n:Int} (h:validB ⟨2,t,n⟩=true):t.toList = []∧-2147483647≤n∧n≤2147483647:=by
 simp [validB] at h
 exact ⟨h.1.1,h.1.2,h.2⟩
theorem validB_kind {k n:Int} {t:ByteArray} (h:validB ⟨k,t,n⟩=true):k=1∨k=2∨k=3:=by
 unfold validB at h
 dsimp only at h
 split at h
 · exact .inl ‹_›
 · split at h
   · exact .inr (.inl ‹_›)
   · split at h
     · exact .inr (.inr ‹_›)
     · cases h
def textB (s:Sym):ByteArray:=if validB s=true then (if s.kind=1 then s.text++numB s.n else if s.kind=2 then numB s.n else s.text) else ⟨#[]⟩
theorem numB_nat (k:Nat):numB (k:Int)=decB k:=by unfold numB;rw [if_neg (by omega)];simp
theorem numB_neg (k:Nat) (h:0<k):numB (-(k:Int))=⟨#[45]⟩++decB k:=by unfold numB;rw [if_pos (by omega)];simp
theorem textB_no {s:Sym} (h:validB s=false):textB s=⟨#[]⟩:=by unfold textB;rw [h];simp
set_option maxRecDepth 100000 in
set_option maxHeartbeats 4000000 in
theorem valid_is (s:Sym) (w:World):Calls Try.prog 110 #[.agg #[.int .i64 s.kind,.string s.text,.int .i64 s.n]] w fun e w'=>e = .returned (.bool (validB s))∧Below w.heap.size w w':=by
 obtain ⟨k,t,n⟩:=s
 dsimp only
 by_cases k1:k=1
 · subst k1
   by_cases a1:t.size=1
   · have h0:0<t.size:=by omega
     have t1:((t.size:Int) == 1)=true:=by simp;omega
     have HV:=Lib.hid (show validB ⟨1,t,n⟩=(greatB t[0] && decide (1≤n) && decide (n≤1048576)) by simp [validB,a1,headB_eq h0])
     go_enter Try.func110,Try.ntmps110
     go_wp2_with (go_at_call 112;refine (great_is _ _).mono ?_;rintro e w' ⟨rfl,rfl⟩)
     all_goals
      go_ret
      refine ⟨?_,(Below.refl _ _).alloc (Nat.le_refl _) _⟩
      rw [HV.out]
      first | rfl | (refine ret_bool ?_;simp_all;done) | (refine ret_bool ?_;simp_all;omega) | (refine ret_bool ?_;simp_all [greatB];done) | (refine ret_bool ?_;simp_all [greatB];omega)
   · have t1:((t.size:Int) == 1)=false:=by simp;omega
     have HV:=Lib.hid (show validB ⟨1,t,n⟩=false by simp [validB,a1])
     go_enter Try.func110,Try.ntmps110
     go_wp2_with fail
     all_goals
      go_ret
      refine ⟨?_,(Below.refl _ _).alloc (Nat.le_refl _) _⟩
      rw [HV.out]
      rfl
 · by_cases k2:k=2
   · subst k2
     have HV:=Lib.hid (show validB ⟨2,t,n⟩=(decide (t.toList = []) && decide (-2147483647≤n) && decide (n≤2147483647)) by simp [validB])
     clear k1
     go_enter Try.func110,Try.ntmps110
     go_wp2_with fail
     all_goals
      go_ret
      refine ⟨?_,(Below.refl _ _).alloc (Nat.le_refl _) _⟩
      rw [HV.out]
      first | rfl | (refine ret_bool ?_;simp_all;done) | (refine ret_bool ?_;simp_all;omega) | (refine ret_bool ?_;simp_all [greatB];done) | (refine ret_bool ?_;simp_all [greatB];omega)
   · by_cases k3:k=3
     · subst k3
       have HV:=Lib.hid (show validB ⟨3,t,n⟩=(decide (n=0) && isWord t) by simp [validB])
       clear k1 k2
       go_enter Try.func110,Try.ntmps110
       go_wp2_with (go_at_call 86;refine (word_is _ _).mono ?_;rintro e w' ⟨rfl,rfl⟩)
       all_goals
        go_ret
        refine ⟨?_,(Below.refl _ _).alloc (Nat.le_refl _) _⟩
        rw [HV.out]
        first | rfl | (refine ret_bool ?_;simp_all;done) | (refine ret_bool ?_;simp_all;omega) | (refine ret_bool ?_;simp_all [greatB];done) | (refine ret_bool ?_;simp_all [greatB];omega)
     · have HV:=Lib.hid (show validB ⟨k,t,n⟩=false by simp [validB,k1,k2,k3])
       have t1:(k == 1)=false:=by simp [k1]
       have t2:(k == 2)=false:=by simp [k2]
       have t3:(k == 3)=false:=by simp [k3]
       clear k1 k2 k3
       go_enter Try.func110,Try.ntmps110
       go_wp2_with fail
       all_goals
        go_ret
        refine ⟨?_,(Below.refl _ _).alloc (Nat.le_refl _) _⟩
        rw [HV.out]
        rfl
set_option maxRecDepth 100000 in
set_option maxHeartbeats 4000000 in
theorem text_is (s:Sym) (w:World):Calls Try.prog 104 #[.agg #[.int .i64 s.kind,.string s.text,.int .i64 s.n]] w fun e w'=>e = .returned (.string (textB s))∧Below w.heap.size w w':=by
 cases hv:validB s
 · have HT:=Lib.hid (textB_no hv)
   go_enter Try.func104,Try.ntmps104
   go_wp2_with fail
   refine (valid_is s _).mono ?_
   rintro e w1 ⟨rfl,hb1⟩
   have HB:=Lib.hid (((Below.refl w.heap.size w).alloc (Nat.le_refl _) _).trans (hb1.mono (by simp)))
   clear hb1
   go_wp2_with fail
   go_ret
   exact ⟨by rw [HT.out]<;>rfl,HB.out⟩
 obtain ⟨k,t,n⟩:=s
 dsimp only
 have HT0:Hid (textB ⟨k,t,n⟩=if k=1 then t++numB n else if k=2 then numB n else t):=Lib.hid (by unfold textB;rw [hv];rfl)
 rcases validB_kind hv with rfl | rfl | rfl
 · obtain ⟨h1,_,h3,h4⟩:=validB_id hv
   obtain ⟨m,rfl⟩ : ∃m:Nat,n=(m:Int):=⟨n.toNat,by omega⟩
   have HT:=Lib.hid (show textB ⟨1,t,m⟩=t++decB m by rw [HT0.out,numB_nat];rfl)
   have hz : ¬9223372036854775807<t.size+(decB m).size:=by have:=decB_size m;omega
   have hm:m≤4000000000:=by omega
   clear h1 h3 h4 HT0
   go_enter Try.func104,Try.ntmps104
   go_wp2_with fail
   refine (valid_is ⟨1,t,m⟩ _).mono ?_
   rintro e w1 ⟨rfl,hb1⟩
   have hx1:=(Blk.new w 52 #[.int .i64 1,.string t,.int .i64 m]).new_ hb1
   have y0:=(hx1.cell 0).trans rfl
   have y1:=(hx1.cell 1).trans rfl
   have y2:=(hx1.cell 2).trans rfl
   have hxl:=hx1.lt
   have HB:=Lib.hid (((Below.refl w.heap.size w).alloc (Nat.le_refl _) _).trans (hb1.mono (by simp)))
   clear hb1 hx1
   go_wp2_with fail
   refine wp_region_E (fun w9=>Below w1.heap.size w1 w9) [(0,0),(1,1),(2,0),(3,1),(4,2),(5,0),(6,0)] (by kernel_rfl) (by kernel_rfl) (fun KK hKK=>?_)
   simp only [beside,List.filterMap_cons,List.filterMap_nil,List.getElem?_toArray,List.getElem?_cons_zero,List.getElem?_cons_succ,Option.map_some]
   repeat ((first | (refine wpX_w ?_ (Or.inl ⟨by rfl,fun w9=>?_⟩) ?_;rotate_left 1;go_simp;with_reducible rfl) | (refine wpX_l ?_ (((Below.refl _ _).drew)) (Or.inl ⟨by rfl,fun w9 hw9=>?_⟩) ?_;rotate_left 1;obtain ⟨hc9,hf9⟩:=bcell hw9;go_simp;with_reducible rfl) | refine wpX_w undef (Or.inr ⟨by rfl,rfl⟩) ?_ | refine wpX_l undef (((Below.refl _ _).drew)) (Or.inr ⟨by rfl,rfl⟩) ?_);go_frame)
   refine wpX_es (fun K9 hK9=>?_)
   go_simp
   refine (digits_is m hm _).mono ?_
   rintro e w2 ⟨rfl,hb2⟩
   have HB2:=Lib.hid ((Below.refl w1.heap.size w1).drew.trans (hb2.mono (by simp)))
   clear hb2
   refine hK9 _ _ HB2.out ?_
   clear hK9 K9
   repeat ((first | (refine wpX_w ?_ (Or.inl ⟨by rfl,fun w9=>?_⟩) ?_;rotate_left 1;go_simp;with_reducible rfl) | (refine wpX_l ?_ (HB2.out) (Or.inl ⟨by rfl,fun w9 hw9=>?_⟩) ?_;rotate_left 1;obtain ⟨hc9,hf9⟩:=bcell hw9;go_simp;with_reducible rfl) | refine wpX_w undef (Or.inr ⟨by rfl,rfl⟩) ?_ | refine wpX_l undef (HB2.out) (Or.inr ⟨by rfl,rfl⟩) ?_);go_frame)
   refine wpX_nil ?_
   simp only [OnlyN_normal]
   refine hKK _ _ ?_
   clear hKK KK
   go_wp2_with fail
   go_ret
   exact ⟨by rw [HT.out]<;>rfl,HB.out.trans (HB2.out.mono HB.out.size)⟩
 · obtain ⟨h1,h3,h4⟩:=validB_int hv
   by_cases hn:n<0
   · obtain ⟨m,rfl⟩ : ∃m:Nat,n = -(m:Int):=⟨(-n).toNat,by omega⟩
     have HT:=Lib.hid (show textB ⟨2,t,-(m:Int)⟩=⟨#[45]⟩++decB m by rw [HT0.out,numB_neg m (by omega)];rfl)
     have hz : ¬9223372036854775807<1+(decB m).size:=by have:=decB_size m;omega
     have hz2 : ¬9223372036854775807<(⟨#[45]⟩:ByteArray).size+(decB m).size:=by have:=decB_size m;have e:(⟨#[45]⟩:ByteArray).size=1:=rfl;omega
     have hm:m≤4000000000:=by omega
     have v1:IntKind.i64.wrap (-(-(m:Int)))=(m:Int):=by rw [IntWalk.i64_in _ (by omega)];omega
     have v2:IntKind.i64.wrap (m:Int)=(m:Int):=IntWalk.i64_in _ (by omega)
     have t1:decide (-(m:Int)<0)=true:=by simpa using hn
     clear h1 h3 h4 HT0
     go_enter Try.func104,Try.ntmps104
     go_wp2_with fail
     refine (valid_is ⟨2,t,-(m:Int)⟩ _).mono ?_
     rintro e w1 ⟨rfl,hb1⟩
     have hx1:=(Blk.new w 52 #[.int .i64 2,.string t,.int .i64 (-(m:Int))]).new_ hb1
     have y0:=(hx1.cell 0).trans rfl
     have y1:=(hx1.cell 1).trans rfl
     have y2:=(hx1.cell 2).trans rfl
     have HB:=Lib.hid (((Below.refl w.heap.size w).alloc (Nat.le_refl _) _).trans (hb1.mono (by simp)))
     clear hb1 hx1
     go_wp2_with fail
     refine (digits_is m hm _).mono ?_
     rintro e w2 ⟨rfl,hb2⟩
     have HB2:=Lib.hid (HB.out.trans (hb2.mono HB.out.size))
     clear hb2
     go_wp2_with fail
     go_ret
     exact ⟨by rw [HT.out]<;>rfl,HB2.out⟩
   · obtain ⟨m,rfl⟩ : ∃m:Nat,n=(m:Int):=⟨n.toNat,by omega⟩
     have HT:=Lib.hid (show textB ⟨2,t,m⟩=decB m by rw [HT0.out,numB_nat];rfl)
     have hm:m≤4000000000:=by omega
     have t1:decide ((m:Int)<0)=false:=by simp
     clear h1 h3 h4 HT0 hn
     go_enter Try.func104,Try.ntmps104
     go_wp2_with fail
     refine (valid_is ⟨2,t,m⟩ _).mono ?_
     rintro e w1 ⟨rfl,hb1⟩
     have hx1:=(Blk.new w 52 #[.int .i64 2,.string t,.int .i64 m]).new_ hb1
     have y0:=(hx1.cell 0).trans rfl
     have y1:=(hx1.cell 1).trans rfl
     have y2:=(hx1.cell 2).trans rfl
     have HB:=Lib.hid (((Below.refl w.heap.size w).alloc (Nat.le_refl _) _).trans (hb1.mono (by simp)))
     clear hb1 hx1
     go_wp2_with fail
     refine (digits_is m hm _).mono ?_
     rintro e w2 ⟨rfl,hb2⟩
     have HB2:=Lib.hid (HB.out.trans (hb2.mono HB.out.size))
     clear hb2
     go_wp2_with fail
     go_ret
     exact ⟨by rw [HT.out]<;>rfl,HB2.out⟩
 · have HT:=Lib.hid (show textB ⟨3,t,n⟩=t by rw [HT0.out];rfl)
   clear HT0
   go_enter Try.func104,Try.ntmps104
   go_wp2_with fail
   refine (valid_is ⟨3,t,n⟩ _).mono ?_
   rintro e w1 ⟨rfl,hb1⟩
   have hx1:=(Blk.new w 52 #[.int .i64 3,.string t,.int .i64 n]).new_ hb1
   have y0:=(hx1.cell 0).trans rfl
   have y1:=(hx1.cell 1).trans rfl
   have y2:=(hx1.cell 2).trans rfl
   have HB:=Lib.hid (((Below.refl w.heap.size w).alloc (Nat.le_refl _) _).trans (hb1.mono (by simp)))
   clear hb1 hx1
   go_wp2_with fail
   go_ret
   exact ⟨by rw [HT.out]<;>rfl,HB.out⟩
end Go.Proofs.Ytffemfglngikbaa
namespace Go.Proofs.Ytffemfglngikbaa
def zS:Sym:=⟨0,⟨#[]⟩,0⟩
def noneB (s:Sym):Bool:=decide (s=zS)
def emptyB (a:AtomT):Bool:=decide (a.var.toList = []) && noneB a.sym
def constB (s:Sym):Bool:=decide (s.kind≠1) && validB s
def testB (t:TestT):Bool:=
 if t.rel=8 then decide (t.var.toList = []) && noneB t.sym && decide (1≤t.list.length) && decide (t.list.length≤8) && t.list.all constB
 else if t.rel<1∨7<t.rel∨0<t.list.length then false
 else if t.var.toList = [] then constB t.sym else isWord t.var && noneB t.sym
def atomB (a:AtomT):Bool:=if a.var.toList = [] then constB a.sym else isWord a.var && noneB a.sym
def condE (c:CondT) (deep:Nat):Int:=
 if c.kind=3 then (if c.goal=true∨c.id.toList≠[]∨0<c.attr.length∨0<c.value.length∨c.acc=true∨c.conds.length=0 then 9 else if 3≤deep then 8 else 0)
 else if c.kind=1∨c.kind=2 then
  (if 0<c.conds.length∨isWord c.id=false∨c.attr.length=0 then 9 else if 4<c.attr.length∨4<c.value.length then 7 else if (c.attr.all testB && c.value.all testB)=false then 9 else 0)
 else 9
def wordAB (a:AtomT):Bool:=decide (a.var.toList = []) && decide (a.sym.kind=3)
def termB (t:TermT):Bool:=
 if t.op<0∨3<t.op∨atomB t.a=false then false
 else if t.op=0 then emptyB t.b else atomB t.b && !wordAB t.a && !wordAB t.b
def otherB (k:Int):Bool:=decide (k=8) || decide (k=9) || decide (k=10)
def actB (a:ActT):Bool:=
 if isWord a.id=false∨atomB a.attr=false∨termB a.value=false∨a.pref<1∨10<a.pref then false
 else if otherB a.pref=true then atomB a.other else emptyB a.other
def flatC:Nat→Nat→List CondT→List (Nat×CondT)
 | 0,_,_=>[]
 | n+1,d,l=>l.flatMap fun c=>(d,c) :: flatC n (d+1) c.conds
def shapeP (n:Nat) (p:ProdT):Int×Int:=
 if isWord p.name=false then (-1,2)
 else if (flatC n 0 p.conds).length<1∨16<(flatC n 0 p.conds).length∨p.acts.length<1∨16<p.acts.length then (-1,7)
 else match (flatC n 0 p.conds).findIdx? (fun c=>decide (condE c.2 c.1≠0)) with
  | some k=>(k,(((flatC n 0 p.conds)[k]?).map fun c=>condE c.2 c.1).getD 0)
  | none=>match p.acts.findIdx? (fun a=>!actB a) with
    | some i=>((flatC n 0 p.conds).length+i,9)
    | none=>(-1,0)
end Go.Proofs.Ytffemfglngikbaa
namespace Go.Proofs.Ytffemfglngikbaa
open Go.RowKit Go.Shelf
set_option maxHeartbeats 1000000 in
theorem none_is (s:Sym) (w:World):Calls Try.prog 106 #[.agg #[.int .i64 s.kind,.string s.text,.int .i64 s.n]] w fun e w'=>e = .returned (.bool (noneB s))∧Below w.heap.size w w':=by
 have hq : ∀W:World,(binOp .eql 52 (.agg #[.int .i64 s.kind,.string s.text,.int .i64 s.n]) (.agg #[.int .i64 0,.string ⟨#[]⟩,.int .i64 0])).run Try.prog W = .ok (.bool (noneB s)) W:=fun W=>eql_sym s zS W
 go_enter Try.func106,Try.ntmps106
 go_wp2_with fail
 go_ret
 exact ⟨rfl,(Below.refl _ _).alloc (Nat.le_refl _) _⟩
theorem other_is (k:Int) (w:World):Calls Try.prog 101 #[.int .i64 k] w fun e w'=>e = .returned (.bool (otherB k))∧w=w':=by
 have HV:=Lib.hid (show otherB k=(k == 8 || k == 9 || k == 10) from rfl)
 go_enter Try.func101,Try.ntmps101
 go_wp2_with fail
 all_goals
  go_ret
  refine ⟨?_,rfl⟩
  rw [HV.out]
  refine ret_bool ?_
  simp_all
set_option maxRecDepth 100000 in
set_option maxHeartbeats 8000000 in
theorem constant_is (s:Sym) (w:World):Calls Try.prog 107 #[.agg #[.int .i64 s.kind,.string s.text,.int .i64 s.n]] w fun e w'=>e = .returned (.bool (constB s))∧Below w.heap.size w w':=by
 obtain ⟨r,hr⟩ : ∃r,r=constB s:=⟨_,rfl⟩
 rw [← hr]
 have HR:=Lib.hid hr
 clear hr
 have HB:=Lib.hid ((Below.refl w.heap.size w).alloc (Nat.le_refl _) (.cells #[.int .i64 s.kind,.string s.text,.int .i64 s.n] 52))
 go_enter Try.func107,Try.ntmps107
 obtain ⟨W1,hW1⟩ : ∃W1,W1=w.alloc (.cells #[.int .i64 s.kind,.string s.text,.int .i64 s.n] 52):=⟨_,rfl⟩
 go_wp2_with (first
  | (go_at_call 110;refine (valid_is s _).mono ?_;rintro e w9 ⟨rfl,hb9⟩;have HB:=Lib.hid (HB.out.trans (hb9.mono HB.out.size));clear hb9))
 all_goals
  go_ret
  refine ⟨?_,by (first | exact HB.out | (exact (Below.refl _ _).alloc (Nat.le_refl _) _) | (simpa using HB.out))⟩
  rw [HR.out]
  refine ret_bool ?_
  first | (simp_all [constB];done) | (simp_all [constB];rfl)
set_option maxRecDepth 100000 in
set_option maxHeartbeats 8000000 in
theorem empty_is (a:AtomT) (w:World):Calls Try.prog 102 #[.agg #[.string a.var,.int .i64 a.sym.kind,.string a.sym.text,.int .i64 a.sym.n]] w fun e w'=>e = .returned (.bool (emptyB a))∧Below w.heap.size w w':=by
 obtain ⟨r,hr⟩ : ∃r,r=emptyB a:=⟨_,rfl⟩
 rw [← hr]
 have HR:=Lib.hid hr
 clear hr
 have HB:=Lib.hid ((Below.refl w.heap.size w).alloc (Nat.le_refl _) (.cells #[.string a.var,.int .i64 a.sym.kind,.string a.sym.text,.int .i64 a.sym.n] 54))
 go_enter Try.func102,Try.ntmps102
 obtain ⟨W1,hW1⟩ : ∃W1,W1=w.alloc (.cells #[.string a.var,.int .i64 a.sym.kind,.string a.sym.text,.int .i64 a.sym.n] 54):=⟨_,rfl⟩
 go_wp2_with (first
  | (go_at_call 106;refine (none_is a.sym _).mono ?_;rintro e w9 ⟨rfl,hb9⟩;have HB:=Lib.hid (HB.out.trans (hb9.mono HB.out.size));clear hb9))
 all_goals
  go_ret
  refine ⟨?_,by (first | exact HB.out | (exact (Below.refl _ _).alloc (Nat.le_refl _) _) | (simpa using HB.out))⟩
  rw [HR.out]
  refine ret_bool ?_
  first | (simp_all [emptyB];done) | (simp_all [emptyB];rfl)
set_option maxRecDepth 100000 in
set_option maxHeartbeats 8000000 in
theorem wordA_is (a:AtomT) (w:World):Calls Try.prog 108 #[.agg #[.string a.var,.int .i64 a.sym.kind,.string a.sym.text,.int .i64 a.sym.n]] w fun e w'=>e = .returned (.bool (wordAB a))∧Below w.heap.size w w':=by
 obtain ⟨r,hr⟩ : ∃r,r=wordAB a:=⟨_,rfl⟩
 rw [← hr]
 have HR:=Lib.hid hr
 clear hr
 have HB:=Lib.hid ((Below.refl w.heap.size w).alloc (Nat.le_refl _) (.cells #[.string a.var,.int .i64 a.sym.kind,.string a.sym.text,.int .i64 a.sym.n] 54))
 go_enter Try.func108,Try.ntmps108
 obtain ⟨W1,hW1⟩ : ∃W1,W1=w.alloc (.cells #[.string a.var,.int .i64 a.sym.kind,.string a.sym.text,.int .i64 a.sym.n] 54):=⟨_,rfl⟩
 go_wp2_with (first
  | fail)
 all_goals
  go_ret
  refine ⟨?_,by (first | exact HB.out | (exact (Below.refl _ _).alloc (Nat.le_refl _) _) | (simpa using HB.out))⟩
  rw [HR.out]
  refine ret_bool ?_
  first | (simp_all [wordAB];done) | (simp_all [wordAB];rfl)
set_option maxRecDepth 100000 in
set_option maxHeartbeats 8000000 in
theorem atomS_is (a:AtomT) (w:World):Calls Try.prog 99 #[.agg #[.string a.var,.int .i64 a.sym.kind,.string a.sym.text,.int .i64 a.sym.n]] w fun e w'=>e = .returned (.bool (atomB a))∧Below w.heap.size w w':=by
 obtain ⟨r,hr⟩ : ∃r,r=atomB a:=⟨_,rfl⟩
 rw [← hr]
 have HR:=Lib.hid hr
 clear hr
 have HB:=Lib.hid ((Below.refl w.heap.size w).alloc (Nat.le_refl _) (.cells #[.string a.var,.int .i64 a.sym.kind,.string a.sym.text,.int .i64 a.sym.n] 54))
 go_enter Try.func99,Try.ntmps99
 obtain ⟨W1,hW1⟩ : ∃W1,W1=w.alloc (.cells #[.string a.var,.int .i64 a.sym.kind,.string a.sym.text,.int .i64 a.sym.n] 54):=⟨_,rfl⟩
 go_wp2_with (first
  | (go_at_call 106;refine (none_is a.sym _).mono ?_;rintro e w9 ⟨rfl,hb9⟩;have HB:=Lib.hid (HB.out.trans (hb9.mono HB.out.size));clear hb9)
  | (go_at_call 107;refine (constant_is a.sym _).mono ?_;rintro e w9 ⟨rfl,hb9⟩;have HB:=Lib.hid (HB.out.trans (hb9.mono HB.out.size));clear hb9)
  | (go_at_call 86;refine (word_is a.var _).mono ?_;rintro e w9 ⟨rfl,rfl⟩))
 all_goals
  go_ret
  refine ⟨?_,by (first | exact HB.out | (exact (Below.refl _ _).alloc (Nat.le_refl _) _) | (simpa using HB.out))⟩
  rw [HR.out]
  refine ret_bool ?_
  first | (simp_all [atomB];done) | (simp_all [atomB];rfl)
set_option maxRecDepth 100000 in
set_option maxHeartbeats 8000000 in
theorem term_is (t:TermT) (w:World):Calls Try.prog 100 #[.agg #[.int .i64 t.op,.string t.a.var,.int .i64 t.a.sym.kind,.string t.a.sym.text,.int .i64 t.a.sym.n,.string t.b.var,.int .i64 t.b.sym.kind,.string t.b.sym.text,.int .i64 t.b.sym.n]] w fun e w'=>e = .returned (.bool (termB t))∧Below w.heap.size w w':=by
 by_cases c0:t.op<0
 · have t0:decide (t.op<0)=true:=by simp [*]
   have HR:=Lib.hid (show termB t=false by simp [termB, *])
   clear c0
   go_enter Try.func100,Try.ntmps100
   go_upto_region 1 with fail
   obtain ⟨W1,hW1⟩ : ∃W1,W1=w.alloc (.cells #[.int .i64 t.op,.string t.a.var,.int .i64 t.a.sym.kind,.string t.a.sym.text,.int .i64 t.a.sym.n,.string t.b.var,.int .i64 t.b.sym.kind,.string t.b.sym.text,.int .i64 t.b.sym.n] 56):=⟨_,rfl⟩
   rw [← hW1]
   have hBk:Blk W1 w.heap.size 56 #[.int .i64 t.op,.string t.a.var,.int .i64 t.a.sym.kind,.string t.a.sym.text,.int .i64 t.a.sym.n,.string t.b.var,.int .i64 t.b.sym.kind,.string t.b.sym.text,.int .i64 t.b.sym.n]:=by rw [hW1];exact Blk.new _ _ _
   have HB:=Lib.hid (show Below w.heap.size w W1 by rw [hW1];exact (Below.refl _ _).alloc (Nat.le_refl _) _)
   have e0:W1.cell? ⟨w.heap.size,0,none⟩=some (.int .i64 t.op):=(hBk.cell 0).trans rfl
   have e1:W1.cell? ⟨w.heap.size,1,none⟩=some (.string t.a.var):=(hBk.cell 1).trans rfl
   have e2:W1.cell? ⟨w.heap.size,2,none⟩=some (.int .i64 t.a.sym.kind):=(hBk.cell 2).trans rfl
   have e3:W1.cell? ⟨w.heap.size,3,none⟩=some (.string t.a.sym.text):=(hBk.cell 3).trans rfl
   have e4:W1.cell? ⟨w.heap.size,4,none⟩=some (.int .i64 t.a.sym.n):=(hBk.cell 4).trans rfl
   have e5:W1.cell? ⟨w.heap.size,5,none⟩=some (.string t.b.var):=(hBk.cell 5).trans rfl
   have e6:W1.cell? ⟨w.heap.size,6,none⟩=some (.int .i64 t.b.sym.kind):=(hBk.cell 6).trans rfl
   have e7:W1.cell? ⟨w.heap.size,7,none⟩=some (.string t.b.sym.text):=(hBk.cell 7).trans rfl
   have e8:W1.cell? ⟨w.heap.size,8,none⟩=some (.int .i64 t.b.sym.n):=(hBk.cell 8).trans rfl
   have hbl:=hBk.lt
   clear hW1 hBk
   go_wp2_with (first
    | (go_at_call 102;refine (empty_is t.b _).mono ?_;rintro e w9 ⟨rfl,hb9⟩;have HB:=Lib.hid (HB.out.trans (hb9.mono HB.out.size));replace e0:=(hb9.cell (p:=⟨w.heap.size,0,none⟩) hbl).trans e0;replace e1:=(hb9.cell (p:=⟨w.heap.size,1,none⟩) hbl).trans e1;replace e2:=(hb9.cell (p:=⟨w.heap.size,2,none⟩) hbl).trans e2;replace e3:=(hb9.cell (p:=⟨w.heap.size,3,none⟩) hbl).trans e3;replace e4:=(hb9.cell (p:=⟨w.heap.size,4,none⟩) hbl).trans e4;replace e5:=(hb9.cell (p:=⟨w.heap.size,5,none⟩) hbl).trans e5;replace e6:=(hb9.cell (p:=⟨w.heap.size,6,none⟩) hbl).trans e6;replace e7:=(hb9.cell (p:=⟨w.heap.size,7,none⟩) hbl).trans e7;replace e8:=(hb9.cell (p:=⟨w.heap.size,8,none⟩) hbl).trans e8;replace hbl:=Nat.lt_of_lt_of_le hbl hb9.size;clear hb9)
    | (go_at_call 99;(first | (with_reducible refine (atomS_is t.a _).mono ?_) | (with_reducible refine (atomS_is t.b _).mono ?_));rintro e w9 ⟨rfl,hb9⟩;have HB:=Lib.hid (HB.out.trans (hb9.mono HB.out.size));replace e0:=(hb9.cell (p:=⟨w.heap.size,0,none⟩) hbl).trans e0;replace e1:=(hb9.cell (p:=⟨w.heap.size,1,none⟩) hbl).trans e1;replace e2:=(hb9.cell (p:=⟨w.heap.size,2,none⟩) hbl).trans e2;replace e3:=(hb9.cell (p:=⟨w.heap.size,3,none⟩) hbl).trans e3;replace e4:=(hb9.cell (p:=⟨w.heap.size,4,none⟩) hbl).trans e4;replace e5:=(hb9.cell (p:=⟨w.heap.size,5,none⟩) hbl).trans e5;replace e6:=(hb9.cell (p:=⟨w.heap.size,6,none⟩) hbl).trans e6;replace e7:=(hb9.cell (p:=⟨w.heap.size,7,none⟩) hbl).trans e7;replace e8:=(hb9.cell (p:=⟨w.heap.size,8,none⟩) hbl).trans e8;replace hbl:=Nat.lt_of_lt_of_le hbl hb9.size;clear hb9)
    | (go_at_call 108;(first | (with_reducible refine (wordA_is t.a _).mono ?_) | (with_reducible refine (wordA_is t.b _).mono ?_));rintro e w9 ⟨rfl,hb9⟩;have HB:=Lib.hid (HB.out.trans (hb9.mono HB.out.size));replace e0:=(hb9.cell (p:=⟨w.heap.size,0,none⟩) hbl).trans e0;replace e1:=(hb9.cell (p:=⟨w.heap.size,1,none⟩) hbl).trans e1;replace e2:=(hb9.cell (p:=⟨w.heap.size,2,none⟩) hbl).trans e2;replace e3:=(hb9.cell (p:=⟨w.heap.size,3,none⟩) hbl).trans e3;replace e4:=(hb9.cell (p:=⟨w.heap.size,4,none⟩) hbl).trans e4;replace e5:=(hb9.cell (p:=⟨w.heap.size,5,none⟩) hbl).trans e5;replace e6:=(hb9.cell (p:=⟨w.heap.size,6,none⟩) hbl).trans e6;replace e7:=(hb9.cell (p:=⟨w.heap.size,7,none⟩) hbl).trans e7;replace e8:=(hb9.cell (p:=⟨w.heap.size,8,none⟩) hbl).trans e8;replace hbl:=Nat.lt_of_lt_of_le hbl hb9.size;clear hb9))
   go_ret
   exact ⟨by rw [HR.out]<;>rfl,by (first | exact HB.out | (exact (Below.refl _ _).alloc (Nat.le_refl _) _) | (simpa using HB.out))⟩
 by_cases c1:3<t.op
 · have t0:decide (t.op<0)=false:=by simp;omega
   have t1:decide (3<t.op)=true:=by simp [*]
   have HR:=Lib.hid (show termB t=false by simp [termB, *])
   clear c0 c1
   go_enter Try.func100,Try.ntmps100
   go_upto_region 1 with fail
   obtain ⟨W1,hW1⟩ : ∃W1,W1=w.alloc (.cells #[.int .i64 t.op,.string t.a.var,.int .i64 t.a.sym.kind,.string t.a.sym.text,.int .i64 t.a.sym.n,.string t.b.var,.int .i64 t.b.sym.kind,.string t.b.sym.text,.int .i64 t.b.sym.n] 56):=⟨_,rfl⟩
   rw [← hW1]
   have hBk:Blk W1 w.heap.size 56 #[.int .i64 t.op,.string t.a.var,.int .i64 t.a.sym.kind,.string t.a.sym.text,.int .i64 t.a.sym.n,.string t.b.var,.int .i64 t.b.sym.kind,.string t.b.sym.text,.int .i64 t.b.sym.n]:=by rw [hW1];exact Blk.new _ _ _
   have HB:=Lib.hid (show Below w.heap.size w W1 by rw [hW1];exact (Below.refl _ _).alloc (Nat.le_refl _) _)
   have e0:W1.cell? ⟨w.heap.size,0,none⟩=some (.int .i64 t.op):=(hBk.cell 0).trans rfl
   have e1:W1.cell? ⟨w.heap.size,1,none⟩=some (.string t.a.var):=(hBk.cell 1).trans rfl
   have e2:W1.cell? ⟨w.heap.size,2,none⟩=some (.int .i64 t.a.sym.kind):=(hBk.cell 2).trans rfl
   have e3:W1.cell? ⟨w.heap.size,3,none⟩=some (.string t.a.sym.text):=(hBk.cell 3).trans rfl
   have e4:W1.cell? ⟨w.heap.size,4,none⟩=some (.int .i64 t.a.sym.n):=(hBk.cell 4).trans rfl
   have e5:W1.cell? ⟨w.heap.size,5,none⟩=some (.string t.b.var):=(hBk.cell 5).trans rfl
   have e6:W1.cell? ⟨w.heap.size,6,none⟩=some (.int .i64 t.b.sym.kind):=(hBk.cell 6).trans rfl
   have e7:W1.cell? ⟨w.heap.size,7,none⟩=some (.string t.b.sym.text):=(hBk.cell 7).trans rfl
   have e8:W1.cell? ⟨w.heap.size,8,none⟩=some (.int .i64 t.b.sym.n):=(hBk.cell 8).trans rfl
   have hbl:=hBk.lt
   clear hW1 hBk
   go_wp2_with (first
    | (go_at_call 102;refine (empty_is t.b _).mono ?_;rintro e w9 ⟨rfl,hb9⟩;have HB:=Lib.hid (HB.out.trans (hb9.mono HB.out.size));replace e0:=(hb9.cell (p:=⟨w.heap.size,0,none⟩) hbl).trans e0;replace e1:=(hb9.cell (p:=⟨w.heap.size,1,none⟩) hbl).trans e1;replace e2:=(hb9.cell (p:=⟨w.heap.size,2,none⟩) hbl).trans e2;replace e3:=(hb9.cell (p:=⟨w.heap.size,3,none⟩) hbl).trans e3;replace e4:=(hb9.cell (p:=⟨w.heap.size,4,none⟩) hbl).trans e4;replace e5:=(hb9.cell (p:=⟨w.heap.size,5,none⟩) hbl).trans e5;replace e6:=(hb9.cell (p:=⟨w.heap.size,6,none⟩) hbl).trans e6;replace e7:=(hb9.cell (p:=⟨w.heap.size,7,none⟩) hbl).trans e7;replace e8:=(hb9.cell (p:=⟨w.heap.size,8,none⟩) hbl).trans e8;replace hbl:=Nat.lt_of_lt_of_le hbl hb9.size;clear hb9)
    | (go_at_call 99;(first | (with_reducible refine (atomS_is t.a _).mono ?_) | (with_reducible refine (atomS_is t.b _).mono ?_));rintro e w9 ⟨rfl,hb9⟩;have HB:=Lib.hid (HB.out.trans (hb9.mono HB.out.size));replace e0:=(hb9.cell (p:=⟨w.heap.size,0,none⟩) hbl).trans e0;replace e1:=(hb9.cell (p:=⟨w.heap.size,1,none⟩) hbl).trans e1;replace e2:=(hb9.cell (p:=⟨w.heap.size,2,none⟩) hbl).trans e2;replace e3:=(hb9.cell (p:=⟨w.heap.size,3,none⟩) hbl).trans e3;replace e4:=(hb9.cell (p:=⟨w.heap.size,4,none⟩) hbl).trans e4;replace e5:=(hb9.cell (p:=⟨w.heap.size,5,none⟩) hbl).trans e5;replace e6:=(hb9.cell (p:=⟨w.heap.size,6,none⟩) hbl).trans e6;replace e7:=(hb9.cell (p:=⟨w.heap.size,7,none⟩) hbl).trans e7;replace e8:=(hb9.cell (p:=⟨w.heap.size,8,none⟩) hbl).trans e8;replace hbl:=Nat.lt_of_lt_of_le hbl hb9.size;clear hb9)
    | (go_at_call 108;(first | (with_reducible refine (wordA_is t.a _).mono ?_) | (with_reducible refine (wordA_is t.b _).mono ?_));rintro e w9 ⟨rfl,hb9⟩;have HB:=Lib.hid (HB.out.trans (hb9.mono HB.out.size));replace e0:=(hb9.cell (p:=⟨w.heap.size,0,none⟩) hbl).trans e0;replace e1:=(hb9.cell (p:=⟨w.heap.size,1,none⟩) hbl).trans e1;replace e2:=(hb9.cell (p:=⟨w.heap.size,2,none⟩) hbl).trans e2;replace e3:=(hb9.cell (p:=⟨w.heap.size,3,none⟩) hbl).trans e3;replace e4:=(hb9.cell (p:=⟨w.heap.size,4,none⟩) hbl).trans e4;replace e5:=(hb9.cell (p:=⟨w.heap.size,5,none⟩) hbl).trans e5;replace e6:=(hb9.cell (p:=⟨w.heap.size,6,none⟩) hbl).trans e6;replace e7:=(hb9.cell (p:=⟨w.heap.size,7,none⟩) hbl).trans e7;replace e8:=(hb9.cell (p:=⟨w.heap.size,8,none⟩) hbl).trans e8;replace hbl:=Nat.lt_of_lt_of_le hbl hb9.size;clear hb9))
   go_ret
   exact ⟨by rw [HR.out]<;>rfl,by (first | exact HB.out | (exact (Below.refl _ _).alloc (Nat.le_refl _) _) | (simpa using HB.out))⟩
 by_cases c2:atomB t.a=false
 · have t0:decide (t.op<0)=false:=by simp;omega
   have t1:decide (3<t.op)=false:=by simp;omega
   have t2:=c2
   have HR:=Lib.hid (show termB t=false by simp [termB, *])
   clear c0 c1 c2
   go_enter Try.func100,Try.ntmps100
   go_upto_region 1 with fail
   obtain ⟨W1,hW1⟩ : ∃W1,W1=w.alloc (.cells #[.int .i64 t.op,.string t.a.var,.int .i64 t.a.sym.kind,.string t.a.sym.text,.int .i64 t.a.sym.n,.string t.b.var,.int .i64 t.b.sym.kind,.string t.b.sym.text,.int .i64 t.b.sym.n] 56):=⟨_,rfl⟩
   rw [← hW1]
   have hBk:Blk W1 w.heap.size 56 #[.int .i64 t.op,.string t.a.var,.int .i64 t.a.sym.kind,.string t.a.sym.text,.int .i64 t.a.sym.n,.string t.b.var,.int .i64 t.b.sym.kind,.string t.b.sym.text,.int .i64 t.b.sym.n]:=by rw [hW1];exact Blk.new _ _ _
   have HB:=Lib.hid (show Below w.heap.size w W1 by rw [hW1];exact (Below.refl _ _).alloc (Nat.le_refl _) _)
   have e0:W1.cell? ⟨w.heap.size,0,none⟩=some (.int .i64 t.op):=(hBk.cell 0).trans rfl
   have e1:W1.cell? ⟨w.heap.size,1,none⟩=some (.string t.a.var):=(hBk.cell 1).trans rfl
   have e2:W1.cell? ⟨w.heap.size,2,none⟩=some (.int .i64 t.a.sym.kind):=(hBk.cell 2).trans rfl
   have e3:W1.cell? ⟨w.heap.size,3,none⟩=some (.string t.a.sym.text):=(hBk.cell 3).trans rfl
   have e4:W1.cell? ⟨w.heap.size,4,none⟩=some (.int .i64 t.a.sym.n):=(hBk.cell 4).trans rfl
   have e5:W1.cell? ⟨w.heap.size,5,none⟩=some (.string t.b.var):=(hBk.cell 5).trans rfl
   have e6:W1.cell? ⟨w.heap.size,6,none⟩=some (.int .i64 t.b.sym.kind):=(hBk.cell 6).trans rfl
   have e7:W1.cell? ⟨w.heap.size,7,none⟩=some (.string t.b.sym.text):=(hBk.cell 7).trans rfl
   have e8:W1.cell? ⟨w.heap.size,8,none⟩=some (.int .i64 t.b.sym.n):=(hBk.cell 8).trans rfl
   have hbl:=hBk.lt
   clear hW1 hBk
   go_wp2_with (first
    | (go_at_call 102;refine (empty_is t.b _).mono ?_;rintro e w9 ⟨rfl,hb9⟩;have HB:=Lib.hid (HB.out.trans (hb9.mono HB.out.size));replace e0:=(hb9.cell (p:=⟨w.heap.size,0,none⟩) hbl).trans e0;replace e1:=(hb9.cell (p:=⟨w.heap.size,1,none⟩) hbl).trans e1;replace e2:=(hb9.cell (p:=⟨w.heap.size,2,none⟩) hbl).trans e2;replace e3:=(hb9.cell (p:=⟨w.heap.size,3,none⟩) hbl).trans e3;replace e4:=(hb9.cell (p:=⟨w.heap.size,4,none⟩) hbl).trans e4;replace e5:=(hb9.cell (p:=⟨w.heap.size,5,none⟩) hbl).trans e5;replace e6:=(hb9.cell (p:=⟨w.heap.size,6,none⟩) hbl).trans e6;replace e7:=(hb9.cell (p:=⟨w.heap.size,7,none⟩) hbl).trans e7;replace e8:=(hb9.cell (p:=⟨w.heap.size,8,none⟩) hbl).trans e8;replace hbl:=Nat.lt_of_lt_of_le hbl hb9.size;clear hb9)
    | (go_at_call 99;(first | (with_reducible refine (atomS_is t.a _).mono ?_) | (with_reducible refine (atomS_is t.b _).mono ?_));rintro e w9 ⟨rfl,hb9⟩;have HB:=Lib.hid (HB.out.trans (hb9.mono HB.out.size));replace e0:=(hb9.cell (p:=⟨w.heap.size,0,none⟩) hbl).trans e0;replace e1:=(hb9.cell (p:=⟨w.heap.size,1,none⟩) hbl).trans e1;replace e2:=(hb9.cell (p:=⟨w.heap.size,2,none⟩) hbl).trans e2;replace e3:=(hb9.cell (p:=⟨w.heap.size,3,none⟩) hbl).trans e3;replace e4:=(hb9.cell (p:=⟨w.heap.size,4,none⟩) hbl).trans e4;replace e5:=(hb9.cell (p:=⟨w.heap.size,5,none⟩) hbl).trans e5;replace e6:=(hb9.cell (p:=⟨w.heap.size,6,none⟩) hbl).trans e6;replace e7:=(hb9.cell (p:=⟨w.heap.size,7,none⟩) hbl).trans e7;replace e8:=(hb9.cell (p:=⟨w.heap.size,8,none⟩) hbl).trans e8;replace hbl:=Nat.lt_of_lt_of_le hbl hb9.size;clear hb9)
    | (go_at_call 108;(first | (with_reducible refine (wordA_is t.a _).mono ?_) | (with_reducible refine (wordA_is t.b _).mono ?_));rintro e w9 ⟨rfl,hb9⟩;have HB:=Lib.hid (HB.out.trans (hb9.mono HB.out.size));replace e0:=(hb9.cell (p:=⟨w.heap.size,0,none⟩) hbl).trans e0;replace e1:=(hb9.cell (p:=⟨w.heap.size,1,none⟩) hbl).trans e1;replace e2:=(hb9.cell (p:=⟨w.heap.size,2,none⟩) hbl).trans e2;replace e3:=(hb9.cell (p:=⟨w.heap.size,3,none⟩) hbl).trans e3;replace e4:=(hb9.cell (p:=⟨w.heap.size,4,none⟩) hbl).trans e4;replace e5:=(hb9.cell (p:=⟨w.heap.size,5,none⟩) hbl).trans e5;replace e6:=(hb9.cell (p:=⟨w.heap.size,6,none⟩) hbl).trans e6;replace e7:=(hb9.cell (p:=⟨w.heap.size,7,none⟩) hbl).trans e7;replace e8:=(hb9.cell (p:=⟨w.heap.size,8,none⟩) hbl).trans e8;replace hbl:=Nat.lt_of_lt_of_le hbl hb9.size;clear hb9))
   go_ret
   exact ⟨by rw [HR.out]<;>rfl,by (first | exact HB.out | (exact (Below.refl _ _).alloc (Nat.le_refl _) _) | (simpa using HB.out))⟩
 by_cases c3:t.op=0
 · have t0:decide (t.op<0)=false:=by simp;omega
   have t1:decide (3<t.op)=false:=by simp;omega
   have t2:atomB t.a=true:=by simpa using c2
   have t3:decide (t.op=0)=true:=by simp [*]
   have t3b:(t.op == 0)=true:=by simp [*]
   have HR:=Lib.hid (show termB t=emptyB t.b by simp [termB, *])
   clear c0 c1 c2 c3
   go_enter Try.func100,Try.ntmps100
   go_upto_region 1 with fail
   obtain ⟨W1,hW1⟩ : ∃W1,W1=w.alloc (.cells #[.int .i64 t.op,.string t.a.var,.int .i64 t.a.sym.kind,.string t.a.sym.text,.int .i64 t.a.sym.n,.string t.b.var,.int .i64 t.b.sym.kind,.string t.b.sym.text,.int .i64 t.b.sym.n] 56):=⟨_,rfl⟩
   rw [← hW1]
   have hBk:Blk W1 w.heap.size 56 #[.int .i64 t.op,.string t.a.var,.int .i64 t.a.sym.kind,.string t.a.sym.text,.int .i64 t.a.sym.n,.string t.b.var,.int .i64 t.b.sym.kind,.string t.b.sym.text,.int .i64 t.b.sym.n]:=by rw [hW1];exact Blk.new _ _ _
   have HB:=Lib.hid (show Below w.heap.size w W1 by rw [hW1];exact (Below.refl _ _).alloc (Nat.le_refl _) _)
   have e0:W1.cell? ⟨w.heap.size,0,none⟩=some (.int .i64 t.op):=(hBk.cell 0).trans rfl
   have e1:W1.cell? ⟨w.heap.size,1,none⟩=some (.string t.a.var):=(hBk.cell 1).trans rfl
   have e2:W1.cell? ⟨w.heap.size,2,none⟩=some (.int .i64 t.a.sym.kind):=(hBk.cell 2).trans rfl
   have e3:W1.cell? ⟨w.heap.size,3,none⟩=some (.string t.a.sym.text):=(hBk.cell 3).trans rfl
   have e4:W1.cell? ⟨w.heap.size,4,none⟩=some (.int .i64 t.a.sym.n):=(hBk.cell 4).trans rfl
   have e5:W1.cell? ⟨w.heap.size,5,none⟩=some (.string t.b.var):=(hBk.cell 5).trans rfl
   have e6:W1.cell? ⟨w.heap.size,6,none⟩=some (.int .i64 t.b.sym.kind):=(hBk.cell 6).trans rfl
   have e7:W1.cell? ⟨w.heap.size,7,none⟩=some (.string t.b.sym.text):=(hBk.cell 7).trans rfl
   have e8:W1.cell? ⟨w.heap.size,8,none⟩=some (.int .i64 t.b.sym.n):=(hBk.cell 8).trans rfl
   have hbl:=hBk.lt
   clear hW1 hBk
   go_wp2_with (first
    | (go_at_call 102;refine (empty_is t.b _).mono ?_;rintro e w9 ⟨rfl,hb9⟩;have HB:=Lib.hid (HB.out.trans (hb9.mono HB.out.size));replace e0:=(hb9.cell (p:=⟨w.heap.size,0,none⟩) hbl).trans e0;replace e1:=(hb9.cell (p:=⟨w.heap.size,1,none⟩) hbl).trans e1;replace e2:=(hb9.cell (p:=⟨w.heap.size,2,none⟩) hbl).trans e2;replace e3:=(hb9.cell (p:=⟨w.heap.size,3,none⟩) hbl).trans e3;replace e4:=(hb9.cell (p:=⟨w.heap.size,4,none⟩) hbl).trans e4;replace e5:=(hb9.cell (p:=⟨w.heap.size,5,none⟩) hbl).trans e5;replace e6:=(hb9.cell (p:=⟨w.heap.size,6,none⟩) hbl).trans e6;replace e7:=(hb9.cell (p:=⟨w.heap.size,7,none⟩) hbl).trans e7;replace e8:=(hb9.cell (p:=⟨w.heap.size,8,none⟩) hbl).trans e8;replace hbl:=Nat.lt_of_lt_of_le hbl hb9.size;clear hb9)
    | (go_at_call 99;(first | (with_reducible refine (atomS_is t.a _).mono ?_) | (with_reducible refine (atomS_is t.b _).mono ?_));rintro e w9 ⟨rfl,hb9⟩;have HB:=Lib.hid (HB.out.trans (hb9.mono HB.out.size));replace e0:=(hb9.cell (p:=⟨w.heap.size,0,none⟩) hbl).trans e0;replace e1:=(hb9.cell (p:=⟨w.heap.size,1,none⟩) hbl).trans e1;replace e2:=(hb9.cell (p:=⟨w.heap.size,2,none⟩) hbl).trans e2;replace e3:=(hb9.cell (p:=⟨w.heap.size,3,none⟩) hbl).trans e3;replace e4:=(hb9.cell (p:=⟨w.heap.size,4,none⟩) hbl).trans e4;replace e5:=(hb9.cell (p:=⟨w.heap.size,5,none⟩) hbl).trans e5;replace e6:=(hb9.cell (p:=⟨w.heap.size,6,none⟩) hbl).trans e6;replace e7:=(hb9.cell (p:=⟨w.heap.size,7,none⟩) hbl).trans e7;replace e8:=(hb9.cell (p:=⟨w.heap.size,8,none⟩) hbl).trans e8;replace hbl:=Nat.lt_of_lt_of_le hbl hb9.size;clear hb9)
    | (go_at_call 108;(first | (with_reducible refine (wordA_is t.a _).mono ?_) | (with_reducible refine (wordA_is t.b _).mono ?_));rintro e w9 ⟨rfl,hb9⟩;have HB:=Lib.hid (HB.out.trans (hb9.mono HB.out.size));replace e0:=(hb9.cell (p:=⟨w.heap.size,0,none⟩) hbl).trans e0;replace e1:=(hb9.cell (p:=⟨w.heap.size,1,none⟩) hbl).trans e1;replace e2:=(hb9.cell (p:=⟨w.heap.size,2,none⟩) hbl).trans e2;replace e3:=(hb9.cell (p:=⟨w.heap.size,3,none⟩) hbl).trans e3;replace e4:=(hb9.cell (p:=⟨w.heap.size,4,none⟩) hbl).trans e4;replace e5:=(hb9.cell (p:=⟨w.heap.size,5,none⟩) hbl).trans e5;replace e6:=(hb9.cell (p:=⟨w.heap.size,6,none⟩) hbl).trans e6;replace e7:=(hb9.cell (p:=⟨w.heap.size,7,none⟩) hbl).trans e7;replace e8:=(hb9.cell (p:=⟨w.heap.size,8,none⟩) hbl).trans e8;replace hbl:=Nat.lt_of_lt_of_le hbl hb9.size;clear hb9))
   go_ret
   exact ⟨by rw [HR.out]<;>rfl,by (first | exact HB.out | (exact (Below.refl _ _).alloc (Nat.le_refl _) _) | (simpa using HB.out))⟩
 by_cases c4:atomB t.b=false
 · have t0:decide (t.op<0)=false:=by simp;omega
   have t1:decide (3<t.op)=false:=by simp;omega
   have t2:atomB t.a=true:=by simpa using c2
   have t3:decide (t.op=0)=false:=by simp [*]
   have t3b:(t.op == 0)=false:=by simp [*]
   have t4:=c4
   have HR:=Lib.hid (show termB t=false by simp [termB, *])
   clear c0 c1 c2 c3 c4
   go_enter Try.func100,Try.ntmps100
   go_upto_region 1 with fail
   obtain ⟨W1,hW1⟩ : ∃W1,W1=w.alloc (.cells #[.int .i64 t.op,.string t.a.var,.int .i64 t.a.sym.kind,.string t.a.sym.text,.int .i64 t.a.sym.n,.string t.b.var,.int .i64 t.b.sym.kind,.string t.b.sym.text,.int .i64 t.b.sym.n] 56):=⟨_,rfl⟩
   rw [← hW1]
   have hBk:Blk W1 w.heap.size 56 #[.int .i64 t.op,.string t.a.var,.int .i64 t.a.sym.kind,.string t.a.sym.text,.int .i64 t.a.sym.n,.string t.b.var,.int .i64 t.b.sym.kind,.string t.b.sym.text,.int .i64 t.b.sym.n]:=by rw [hW1];exact Blk.new _ _ _
   have HB:=Lib.hid (show Below w.heap.size w W1 by rw [hW1];exact (Below.refl _ _).alloc (Nat.le_refl _) _)
   have e0:W1.cell? ⟨w.heap.size,0,none⟩=some (.int .i64 t.op):=(hBk.cell 0).trans rfl
   have e1:W1.cell? ⟨w.heap.size,1,none⟩=some (.string t.a.var):=(hBk.cell 1).trans rfl
   have e2:W1.cell? ⟨w.heap.size,2,none⟩=some (.int .i64 t.a.sym.kind):=(hBk.cell 2).trans rfl
   have e3:W1.cell? ⟨w.heap.size,3,none⟩=some (.string t.a.sym.text):=(hBk.cell 3).trans rfl
   have e4:W1.cell? ⟨w.heap.size,4,none⟩=some (.int .i64 t.a.sym.n):=(hBk.cell 4).trans rfl
   have e5:W1.cell? ⟨w.heap.size,5,none⟩=some (.string t.b.var):=(hBk.cell 5).trans rfl
   have e6:W1.cell? ⟨w.heap.size,6,none⟩=some (.int .i64 t.b.sym.kind):=(hBk.cell 6).trans rfl
   have e7:W1.cell? ⟨w.heap.size,7,none⟩=some (.string t.b.sym.text):=(hBk.cell 7).trans rfl
   have e8:W1.cell? ⟨w.heap.size,8,none⟩=some (.int .i64 t.b.sym.n):=(hBk.cell 8).trans rfl
   have hbl:=hBk.lt
   clear hW1 hBk
   go_wp2_with (first
    | (go_at_call 102;refine (empty_is t.b _).mono ?_;rintro e w9 ⟨rfl,hb9⟩;have HB:=Lib.hid (HB.out.trans (hb9.mono HB.out.size));replace e0:=(hb9.cell (p:=⟨w.heap.size,0,none⟩) hbl).trans e0;replace e1:=(hb9.cell (p:=⟨w.heap.size,1,none⟩) hbl).trans e1;replace e2:=(hb9.cell (p:=⟨w.heap.size,2,none⟩) hbl).trans e2;replace e3:=(hb9.cell (p:=⟨w.heap.size,3,none⟩) hbl).trans e3;replace e4:=(hb9.cell (p:=⟨w.heap.size,4,none⟩) hbl).trans e4;replace e5:=(hb9.cell (p:=⟨w.heap.size,5,none⟩) hbl).trans e5;replace e6:=(hb9.cell (p:=⟨w.heap.size,6,none⟩) hbl).trans e6;replace e7:=(hb9.cell (p:=⟨w.heap.size,7,none⟩) hbl).trans e7;replace e8:=(hb9.cell (p:=⟨w.heap.size,8,none⟩) hbl).trans e8;replace hbl:=Nat.lt_of_lt_of_le hbl hb9.size;clear hb9)
    | (go_at_call 99;(first | (with_reducible refine (atomS_is t.a _).mono ?_) | (with_reducible refine (atomS_is t.b _).mono ?_));rintro e w9 ⟨rfl,hb9⟩;have HB:=Lib.hid (HB.out.trans (hb9.mono HB.out.size));replace e0:=(hb9.cell (p:=⟨w.heap.size,0,none⟩) hbl).trans e0;replace e1:=(hb9.cell (p:=⟨w.heap.size,1,none⟩) hbl).trans e1;replace e2:=(hb9.cell (p:=⟨w.heap.size,2,none⟩) hbl).trans e2;replace e3:=(hb9.cell (p:=⟨w.heap.size,3,none⟩) hbl).trans e3;replace e4:=(hb9.cell (p:=⟨w.heap.size,4,none⟩) hbl).trans e4;replace e5:=(hb9.cell (p:=⟨w.heap.size,5,none⟩) hbl).trans e5;replace e6:=(hb9.cell (p:=⟨w.heap.size,6,none⟩) hbl).trans e6;replace e7:=(hb9.cell (p:=⟨w.heap.size,7,none⟩) hbl).trans e7;replace e8:=(hb9.cell (p:=⟨w.heap.size,8,none⟩) hbl).trans e8;replace hbl:=Nat.lt_of_lt_of_le hbl hb9.size;clear hb9)
    | (go_at_call 108;(first | (with_reducible refine (wordA_is t.a _).mono ?_) | (with_reducible refine (wordA_is t.b _).mono ?_));rintro e w9 ⟨rfl,hb9⟩;have HB:=Lib.hid (HB.out.trans (hb9.mono HB.out.size));replace e0:=(hb9.cell (p:=⟨w.heap.size,0,none⟩) hbl).trans e0;replace e1:=(hb9.cell (p:=⟨w.heap.size,1,none⟩) hbl).trans e1;replace e2:=(hb9.cell (p:=⟨w.heap.size,2,none⟩) hbl).trans e2;replace e3:=(hb9.cell (p:=⟨w.heap.size,3,none⟩) hbl).trans e3;replace e4:=(hb9.cell (p:=⟨w.heap.size,4,none⟩) hbl).trans e4;replace e5:=(hb9.cell (p:=⟨w.heap.size,5,none⟩) hbl).trans e5;replace e6:=(hb9.cell (p:=⟨w.heap.size,6,none⟩) hbl).trans e6;replace e7:=(hb9.cell (p:=⟨w.heap.size,7,none⟩) hbl).trans e7;replace e8:=(hb9.cell (p:=⟨w.heap.size,8,none⟩) hbl).trans e8;replace hbl:=Nat.lt_of_lt_of_le hbl hb9.size;clear hb9))
   go_ret
   exact ⟨by rw [HR.out]<;>rfl,by (first | exact HB.out | (exact (Below.refl _ _).alloc (Nat.le_refl _) _) | (simpa using HB.out))⟩
 by_cases c5:wordAB t.a=true
 · have t0:decide (t.op<0)=false:=by simp;omega
   have t1:decide (3<t.op)=false:=by simp;omega
   have t2:atomB t.a=true:=by simpa using c2
   have t3:decide (t.op=0)=false:=by simp [*]
   have t3b:(t.op == 0)=false:=by simp [*]
   have t4:atomB t.b=true:=by simpa using c4
   have t5:=c5
   have HR:=Lib.hid (show termB t=false by simp [termB, *])
   clear c0 c1 c2 c3 c4 c5
   go_enter Try.func100,Try.ntmps100
   go_upto_region 1 with fail
   obtain ⟨W1,hW1⟩ : ∃W1,W1=w.alloc (.cells #[.int .i64 t.op,.string t.a.var,.int .i64 t.a.sym.kind,.string t.a.sym.text,.int .i64 t.a.sym.n,.string t.b.var,.int .i64 t.b.sym.kind,.string t.b.sym.text,.int .i64 t.b.sym.n] 56):=⟨_,rfl⟩
   rw [← hW1]
   have hBk:Blk W1 w.heap.size 56 #[.int .i64 t.op,.string t.a.var,.int .i64 t.a.sym.kind,.string t.a.sym.text,.int .i64 t.a.sym.n,.string t.b.var,.int .i64 t.b.sym.kind,.string t.b.sym.text,.int .i64 t.b.sym.n]:=by rw [hW1];exact Blk.new _ _ _
   have HB:=Lib.hid (show Below w.heap.size w W1 by rw [hW1];exact (Below.refl _ _).alloc (Nat.le_refl _) _)
   have e0:W1.cell? ⟨w.heap.size,0,none⟩=some (.int .i64 t.op):=(hBk.cell 0).trans rfl
   have e1:W1.cell? ⟨w.heap.size,1,none⟩=some (.string t.a.var):=(hBk.cell 1).trans rfl
   have e2:W1.cell? ⟨w.heap.size,2,none⟩=some (.int .i64 t.a.sym.kind):=(hBk.cell 2).trans rfl
   have e3:W1.cell? ⟨w.heap.size,3,none⟩=some (.string t.a.sym.text):=(hBk.cell 3).trans rfl
   have e4:W1.cell? ⟨w.heap.size,4,none⟩=some (.int .i64 t.a.sym.n):=(hBk.cell 4).trans rfl
   have e5:W1.cell? ⟨w.heap.size,5,none⟩=some (.string t.b.var):=(hBk.cell 5).trans rfl
   have e6:W1.cell? ⟨w.heap.size,6,none⟩=some (.int .i64 t.b.sym.kind):=(hBk.cell 6).trans rfl
   have e7:W1.cell? ⟨w.heap.size,7,none⟩=some (.string t.b.sym.text):=(hBk.cell 7).trans rfl
   have e8:W1.cell? ⟨w.heap.size,8,none⟩=some (.int .i64 t.b.sym.n):=(hBk.cell 8).trans rfl
   have hbl:=hBk.lt
   clear hW1 hBk
   go_wp2_with (first
    | (go_at_call 102;refine (empty_is t.b _).mono ?_;rintro e w9 ⟨rfl,hb9⟩;have HB:=Lib.hid (HB.out.trans (hb9.mono HB.out.size));replace e0:=(hb9.cell (p:=⟨w.heap.size,0,none⟩) hbl).trans e0;replace e1:=(hb9.cell (p:=⟨w.heap.size,1,none⟩) hbl).trans e1;replace e2:=(hb9.cell (p:=⟨w.heap.size,2,none⟩) hbl).trans e2;replace e3:=(hb9.cell (p:=⟨w.heap.size,3,none⟩) hbl).trans e3;replace e4:=(hb9.cell (p:=⟨w.heap.size,4,none⟩) hbl).trans e4;replace e5:=(hb9.cell (p:=⟨w.heap.size,5,none⟩) hbl).trans e5;replace e6:=(hb9.cell (p:=⟨w.heap.size,6,none⟩) hbl).trans e6;replace e7:=(hb9.cell (p:=⟨w.heap.size,7,none⟩) hbl).trans e7;replace e8:=(hb9.cell (p:=⟨w.heap.size,8,none⟩) hbl).trans e8;replace hbl:=Nat.lt_of_lt_of_le hbl hb9.size;clear hb9)
    | (go_at_call 99;(first | (with_reducible refine (atomS_is t.a _).mono ?_) | (with_reducible refine (atomS_is t.b _).mono ?_));rintro e w9 ⟨rfl,hb9⟩;have HB:=Lib.hid (HB.out.trans (hb9.mono HB.out.size));replace e0:=(hb9.cell (p:=⟨w.heap.size,0,none⟩) hbl).trans e0;replace e1:=(hb9.cell (p:=⟨w.heap.size,1,none⟩) hbl).trans e1;replace e2:=(hb9.cell (p:=⟨w.heap.size,2,none⟩) hbl).trans e2;replace e3:=(hb9.cell (p:=⟨w.heap.size,3,none⟩) hbl).trans e3;replace e4:=(hb9.cell (p:=⟨w.heap.size,4,none⟩) hbl).trans e4;replace e5:=(hb9.cell (p:=⟨w.heap.size,5,none⟩) hbl).trans e5;replace e6:=(hb9.cell (p:=⟨w.heap.size,6,none⟩) hbl).trans e6;replace e7:=(hb9.cell (p:=⟨w.heap.size,7,none⟩) hbl).trans e7;replace e8:=(hb9.cell (p:=⟨w.heap.size,8,none⟩) hbl).trans e8;replace hbl:=Nat.lt_of_lt_of_le hbl hb9.size;clear hb9)
    | (go_at_call 108;(first | (with_reducible refine (wordA_is t.a _).mono ?_) | (with_reducible refine (wordA_is t.b _).mono ?_));rintro e w9 ⟨rfl,hb9⟩;have HB:=Lib.hid (HB.out.trans (hb9.mono HB.out.size));replace e0:=(hb9.cell (p:=⟨w.heap.size,0,none⟩) hbl).trans e0;replace e1:=(hb9.cell (p:=⟨w.heap.size,1,none⟩) hbl).trans e1;replace e2:=(hb9.cell (p:=⟨w.heap.size,2,none⟩) hbl).trans e2;replace e3:=(hb9.cell (p:=⟨w.heap.size,3,none⟩) hbl).trans e3;replace e4:=(hb9.cell (p:=⟨w.heap.size,4,none⟩) hbl).trans e4;replace e5:=(hb9.cell (p:=⟨w.heap.size,5,none⟩) hbl).trans e5;replace e6:=(hb9.cell (p:=⟨w.heap.size,6,none⟩) hbl).trans e6;replace e7:=(hb9.cell (p:=⟨w.heap.size,7,none⟩) hbl).trans e7;replace e8:=(hb9.cell (p:=⟨w.heap.size,8,none⟩) hbl).trans e8;replace hbl:=Nat.lt_of_lt_of_le hbl hb9.size;clear hb9))
   go_ret
   exact ⟨by rw [HR.out]<;>rfl,by (first | exact HB.out | (exact (Below.refl _ _).alloc (Nat.le_refl _) _) | (simpa using HB.out))⟩
 have t0:decide (t.op<0)=false:=by simp;omega
 have t1:decide (3<t.op)=false:=by simp;omega
 have t2:atomB t.a=true:=by simpa using c2
 have t3:decide (t.op=0)=false:=by simp [*]
 have t3b:(t.op == 0)=false:=by simp [*]
 have t4:atomB t.b=true:=by simpa using c4
 have t5:wordAB t.a=false:=by simpa using c5
 have HR:=Lib.hid (show termB t=(!wordAB t.b) by simp [termB, *])
 clear c0 c1 c2 c3 c4 c5
 go_enter Try.func100,Try.ntmps100
 go_upto_region 1 with fail
 obtain ⟨W1,hW1⟩ : ∃W1,W1=w.alloc (.cells #[.int .i64 t.op,.string t.a.var,.int .i64 t.a.sym.kind,.string t.a.sym.text,.int .i64 t.a.sym.n,.string t.b.var,.int .i64 t.b.sym.kind,.string t.b.sym.text,.int .i64 t.b.sym.n] 56):=⟨_,rfl⟩
 rw [← hW1]
 have hBk:Blk W1 w.heap.size 56 #[.int .i64 t.op,.string t.a.var,.int .i64 t.a.sym.kind,.string t.a.sym.text,.int .i64 t.a.sym.n,.string t.b.var,.int .i64 t.b.sym.kind,.string t.b.sym.text,.int .i64 t.b.sym.n]:=by rw [hW1];exact Blk.new _ _ _
 have HB:=Lib.hid (show Below w.heap.size w W1 by rw [hW1];exact (Below.refl _ _).alloc (Nat.le_refl _) _)
 have e0:W1.cell? ⟨w.heap.size,0,none⟩=some (.int .i64 t.op):=(hBk.cell 0).trans rfl
 have e1:W1.cell? ⟨w.heap.size,1,none⟩=some (.string t.a.var):=(hBk.cell 1).trans rfl
 have e2:W1.cell? ⟨w.heap.size,2,none⟩=some (.int .i64 t.a.sym.kind):=(hBk.cell 2).trans rfl
 have e3:W1.cell? ⟨w.heap.size,3,none⟩=some (.string t.a.sym.text):=(hBk.cell 3).trans rfl
 have e4:W1.cell? ⟨w.heap.size,4,none⟩=some (.int .i64 t.a.sym.n):=(hBk.cell 4).trans rfl
 have e5:W1.cell? ⟨w.heap.size,5,none⟩=some (.string t.b.var):=(hBk.cell 5).trans rfl
 have e6:W1.cell? ⟨w.heap.size,6,none⟩=some (.int .i64 t.b.sym.kind):=(hBk.cell 6).trans rfl
 have e7:W1.cell? ⟨w.heap.size,7,none⟩=some (.string t.b.sym.text):=(hBk.cell 7).trans rfl
 have e8:W1.cell? ⟨w.heap.size,8,none⟩=some (.int .i64 t.b.sym.n):=(hBk.cell 8).trans rfl
 have hbl:=hBk.lt
 clear hW1 hBk
 go_wp2_with (first
  | (go_at_call 102;refine (empty_is t.b _).mono ?_;rintro e w9 ⟨rfl,hb9⟩;have HB:=Lib.hid (HB.out.trans (hb9.mono HB.out.size));replace e0:=(hb9.cell (p:=⟨w.heap.size,0,none⟩) hbl).trans e0;replace e1:=(hb9.cell (p:=⟨w.heap.size,1,none⟩) hbl).trans e1;replace e2:=(hb9.cell (p:=⟨w.heap.size,2,none⟩) hbl).trans e2;replace e3:=(hb9.cell (p:=⟨w.heap.size,3,none⟩) hbl).trans e3;replace e4:=(hb9.cell (p:=⟨w.heap.size,4,none⟩) hbl).trans e4;replace e5:=(hb9.cell (p:=⟨w.heap.size,5,none⟩) hbl).trans e5;replace e6:=(hb9.cell (p:=⟨w.heap.size,6,none⟩) hbl).trans e6;replace e7:=(hb9.cell (p:=⟨w.heap.size,7,none⟩) hbl).trans e7;replace e8:=(hb9.cell (p:=⟨w.heap.size,8,none⟩) hbl).trans e8;replace hbl:=Nat.lt_of_lt_of_le hbl hb9.size;clear hb9)
  | (go_at_call 99;(first | (with_reducible refine (atomS_is t.a _).mono ?_) | (with_reducible refine (atomS_is t.b _).mono ?_));rintro e w9 ⟨rfl,hb9⟩;have HB:=Lib.hid (HB.out.trans (hb9.mono HB.out.size));replace e0:=(hb9.cell (p:=⟨w.heap.size,0,none⟩) hbl).trans e0;replace e1:=(hb9.cell (p:=⟨w.heap.size,1,none⟩) hbl).trans e1;replace e2:=(hb9.cell (p:=⟨w.heap.size,2,none⟩) hbl).trans e2;replace e3:=(hb9.cell (p:=⟨w.heap.size,3,none⟩) hbl).trans e3;replace e4:=(hb9.cell (p:=⟨w.heap.size,4,none⟩) hbl).trans e4;replace e5:=(hb9.cell (p:=⟨w.heap.size,5,none⟩) hbl).trans e5;replace e6:=(hb9.cell (p:=⟨w.heap.size,6,none⟩) hbl).trans e6;replace e7:=(hb9.cell (p:=⟨w.heap.size,7,none⟩) hbl).trans e7;replace e8:=(hb9.cell (p:=⟨w.heap.size,8,none⟩) hbl).trans e8;replace hbl:=Nat.lt_of_lt_of_le hbl hb9.size;clear hb9)
  | (go_at_call 108;(first | (with_reducible refine (wordA_is t.a _).mono ?_) | (with_reducible refine (wordA_is t.b _).mono ?_));rintro e w9 ⟨rfl,hb9⟩;have HB:=Lib.hid (HB.out.trans (hb9.mono HB.out.size));replace e0:=(hb9.cell (p:=⟨w.heap.size,0,none⟩) hbl).trans e0;replace e1:=(hb9.cell (p:=⟨w.heap.size,1,none⟩) hbl).trans e1;replace e2:=(hb9.cell (p:=⟨w.heap.size,2,none⟩) hbl).trans e2;replace e3:=(hb9.cell (p:=⟨w.heap.size,3,none⟩) hbl).trans e3;replace e4:=(hb9.cell (p:=⟨w.heap.size,4,none⟩) hbl).trans e4;replace e5:=(hb9.cell (p:=⟨w.heap.size,5,none⟩) hbl).trans e5;replace e6:=(hb9.cell (p:=⟨w.heap.size,6,none⟩) hbl).trans e6;replace e7:=(hb9.cell (p:=⟨w.heap.size,7,none⟩) hbl).trans e7;replace e8:=(hb9.cell (p:=⟨w.heap.size,8,none⟩) hbl).trans e8;replace hbl:=Nat.lt_of_lt_of_le hbl hb9.size;clear hb9))
 go_ret
 exact ⟨by rw [HR.out]<;>rfl,by (first | exact HB.out | (exact (Below.refl _ _).alloc (Nat.le_refl _) _) | (simpa using HB.out))⟩
end Go.Proofs.Ytffemfglngikbaa
namespace Go.Proofs.Ytffemfglngikbaa
open Go.RowKit Go.Shelf
attribute [local go_sem] Oper.semAt_some
set_option maxRecDepth 100000 in
set_option maxHeartbeats 8000000 in
theorem one_is {gf:Nat} {lb:Array Value} {w0:World} {Q:ByteArray→Prop} {t:ByteArray→ByteArray} (hN:NamerOk gf lb w0 Q t) (v:ByteArray) (w:World) (hw:Below w0.heap.size w0 w) (hq:QV Q v) :
 Calls Try.prog 34 #[.func (.func gf) #[] lb,.string v] w fun e w'=>e = .returned (.string (oneR t v))∧Below w.heap.size w w':=by
 by_cases hv:v.toList = []
 · skip
   have va:(v.toList == [])=true:=by simp [hv]
   have vb:v.toList.isEmpty=true:=by simp [hv]
   have vc:decide (v.toList = [])=true:=by simp [hv]
   have HR:=Lib.hid (show oneR t v=⟨#[]⟩ by unfold oneR;rw [if_pos hv])
   clear hv hq
   go_enter Try.func34,Try.ntmps34
   go_wp2_with fail
   go_ret
   exact ⟨by rw [HR.out]<;>rfl,Below.refl _ _⟩
 · skip
   have va:(v.toList == [])=false:=by simp [hv]
   have vb:v.toList.isEmpty=false:=by simp [hv]
   have vc:decide (v.toList = [])=false:=by simp [hv]
   have HR:=Lib.hid (show oneR t v=t v by unfold oneR;rw [if_neg hv])
   have HC:=Lib.hid (hN.call v w hw (hq hv))
   have hent:=hN.ent
   clear hv hq hN hw
   go_enter Try.func34,Try.ntmps34
   go_wp2_with fail
   refine HC.out.mono ?_
   rintro e w5 ⟨rfl,hb5⟩
   have HB5:=Lib.hid hb5
   clear hb5 hent
   go_wp2_with fail
   go_ret
   exact ⟨by rw [HR.out]<;>rfl,HB5.out⟩
set_option maxRecDepth 100000 in
set_option maxHeartbeats 8000000 in
theorem catom_is {gf:Nat} {lb:Array Value} {w0:World} {Q:ByteArray→Prop} {t:ByteArray→ByteArray} (hN:NamerOk gf lb w0 Q t) (a:AtomT) (w:World) (hw:Below w0.heap.size w0 w) (hq:QV Q a.var) :
 Calls Try.prog 35 #[.func (.func gf) #[] lb,.agg #[.string a.var,.int .i64 a.sym.kind,.string a.sym.text,.int .i64 a.sym.n]] w fun e w'=>e = .returned (.agg #[.string (oneR t a.var),.int .i64 a.sym.kind,.string a.sym.text,.int .i64 a.sym.n])∧Below w.heap.size w w':=by
 have HON:=Lib.hid (show ∀W,Below w.heap.size w W→_ from fun W hW=>one_is hN a.var W (hw.trans (hW.mono hw.size)) hq)
 clear hN hw hq
 go_enter Try.func35,Try.ntmps35
 go_upto_region 1 with fail
 obtain ⟨w1,hw1⟩ : ∃w1,w1=((w.alloc (.cells #[.string a.var,.int .i64 a.sym.kind,.string a.sym.text,.int .i64 a.sym.n] 54)).alloc (.cells #[.string ⟨#[]⟩,.int .i64 0,.string ⟨#[]⟩,.int .i64 0] 54)):=⟨_,rfl⟩
 rw [← hw1]
 have HB:=Lib.hid (show Below w.heap.size w w1 by rw [hw1];exact (by repeat (first | exact Below.refl _ _ | refine Below.drew ?_ | refine Below.al ?_ _ | refine Below.sc ?_ _)))
 have Ka:=Lib.hid (show Blk w1 (w.heap.size) 54 #[.string a.var,.int .i64 a.sym.kind,.string a.sym.text,.int .i64 a.sym.n] by rw [hw1];exact ((Blk.new w 54 #[.string a.var,.int .i64 a.sym.kind,.string a.sym.text,.int .i64 a.sym.n]).alloc (.cells #[.string ⟨#[]⟩,.int .i64 0,.string ⟨#[]⟩,.int .i64 0] 54)))
 have Kr:=Lib.hid (show Blk w1 (w.heap.size+1) 54 #[.string ⟨#[]⟩,.int .i64 0,.string ⟨#[]⟩,.int .i64 0] by rw [hw1];have hh:=(Blk.new (w.alloc (.cells #[.string a.var,.int .i64 a.sym.kind,.string a.sym.text,.int .i64 a.sym.n] 54)) 54 #[.string ⟨#[]⟩,.int .i64 0,.string ⟨#[]⟩,.int .i64 0]);simp only [World.size_alloc] at hh;exact hh)
 clear hw1
 obtain ⟨a0,a1,a2,a3⟩:=Ka.out.c4
 have az:=Ka.out.lt
 obtain ⟨r0,r1,r2,r3⟩:=Kr.out.c4
 have rf0:=Kr.out.frozen 0
 have rf1:=Kr.out.frozen 1
 have rf2:=Kr.out.frozen 2
 have rf3:=Kr.out.frozen 3
 have rz:=Kr.out.lt
 go_upto_region 1 with fail
 refine wp_region_E (fun w9=>Below w1.heap.size w1 w9) [(0,0),(1,0),(2,1),(4,0),(5,1),(3,2),(6,0),(7,2)] (by kernel_rfl) (by kernel_rfl) (fun KK hKK=>?_)
 simp only [beside,List.filterMap_cons,List.filterMap_nil,List.getElem?_toArray,List.getElem?_cons_zero,List.getElem?_cons_succ,Option.map_some]
 repeat ((first | (refine wpX_w ?_ (Or.inl ⟨by rfl,fun w9=>?_⟩) ?_;rotate_left 1;go_simp;with_reducible rfl) | (refine wpX_l ?_ (((Below.refl _ _).drew)) (Or.inl ⟨by rfl,fun w9 hw9=>?_⟩) ?_;rotate_left 1;obtain ⟨hc9,hf9⟩:=bcell hw9;go_simp;with_reducible rfl) | refine wpX_w undef (Or.inr ⟨by rfl,rfl⟩) ?_ | refine wpX_l undef (((Below.refl _ _).drew)) (Or.inr ⟨by rfl,rfl⟩) ?_);go_frame)
 refine wpX_es (fun K9 hK9=>?_)
 go_simp
 refine (HON.out _ (HB.out.drew)).mono ?_
 rintro e w5 ⟨rfl,hb5⟩
 have HB5:=Lib.hid (show Below w1.heap.size w1 w5 from ((Below.refl w1.heap.size w1).drew).trans hb5)
 have Kr:=Lib.hid (Kr.out.new_ HB5.out)
 clear hb5
 refine hK9 _ _ HB5.out ?_
 clear hK9 K9
 repeat ((first | (refine wpX_w ?_ (Or.inl ⟨by rfl,fun w9=>?_⟩) ?_;rotate_left 1;go_simp;with_reducible rfl) | (refine wpX_l ?_ (HB5.out) (Or.inl ⟨by rfl,fun w9 hw9=>?_⟩) ?_;rotate_left 1;obtain ⟨hc9,hf9⟩:=bcell hw9;go_simp;with_reducible rfl) | refine wpX_w undef (Or.inr ⟨by rfl,rfl⟩) ?_ | refine wpX_l undef (HB5.out) (Or.inr ⟨by rfl,rfl⟩) ?_);go_frame)
 refine wpX_e (by kernel_rfl) (fun K9 hK9=>?_)
 refine step_store_el rfl 54 _ _ rfl (w.heap.size+1) 0 #[Value.string (oneR t a.var),Value.int IntKind.i64 a.sym.kind,Value.string a.sym.text,Value.int IntKind.i64 a.sym.n] rfl rfl (show _ from Kr.out.there) (by kernel_rfl) (by kernel_rfl) ?_
 refine hK9 _ _ ?_
 clear hK9 K9
 refine wpX_nil ?_
 simp only [OnlyN_normal]
 refine hKK _ _ ?_
 clear hKK KK
 have HT9:=Lib.hid (show w5.there (w.heap.size+1) 0 (#[Value.string (oneR t a.var),Value.int IntKind.i64 a.sym.kind,Value.string a.sym.text,Value.int IntKind.i64 a.sym.n]:Array Value).size from Kr.out.there)
 go_wp2_with fail
 try simp only [Exit.inBlock,Exit.then]
 refine bodyPost_ret (v:=.agg #[.string (oneR t a.var),.int .i64 a.sym.kind,.string a.sym.text,.int .i64 a.sym.n]) ?_ rfl ⟨rfl,Below.setCells' _ _ (HB.out.trans (HB5.out.mono HB.out.size)) (by omega)⟩
 exact results_cell (t:=4) (T:=54) rfl _ _ (w.heap.size+1) [Value.string (oneR t a.var),Value.int IntKind.i64 a.sym.kind,Value.string a.sym.text,Value.int IntKind.i64 a.sym.n] _ rfl (World.rangeAt_setCells_same w5 (w.heap.size+1) 0 [Value.string (oneR t a.var),Value.int IntKind.i64 a.sym.kind,Value.string a.sym.text,Value.int IntKind.i64 a.sym.n] HT9.out) Try.underlying54 rfl (by kernel_rfl)
end Go.Proofs.Ytffemfglngikbaa
namespace Go.Proofs.Ytffemfglngikbaa
open Go.RowKit Go.Shelf
set_option maxRecDepth 100000 in
set_option maxHeartbeats 8000000 in
theorem ctests_is {gf:Nat} {lb:Array Value} {w0:World} {Q:ByteArray→Prop} {t:ByteArray→ByteArray} (hN:NamerOk gf lb w0 Q t) (A:Option Addr) (c:Nat) (l:List TestT) {D:Nat→Prop} (w:World) (hw:Below w0.heap.size w0 w) (hrd:RowR repTestT D w A c l) (hs:SmT l) (hq:QT Q l) :
 Calls Try.prog 58 #[.func (.func gf) #[] lb,.slice A l.length c] w (FreshR repTestT (l.map (testR t)) w):=by
 obtain ⟨i0,hi0,hz0,hz1,hz2⟩:=infp inf_Sym
 obtain ⟨j0,hj0,hy0,hy1,hy2⟩:=infp inf_Test
 have hlc:=hrd.cap
 have hl1:=hs.1
 have HRD:=Lib.hid hrd
 have HS:=Lib.hid hs
 have HQ:=Lib.hid hq
 have HON:=Lib.hid (show ∀v W,Below w.heap.size w W→QV Q v→_ from fun v W hW hv=>one_is hN v W (hw.trans (hW.mono hw.size)) hv)
 obtain ⟨L,hL⟩ : ∃L,L=l.map (testR t):=⟨_,rfl⟩
 rw [← hL]
 have HLL:=Lib.hid (show L.length=l.length by rw [hL,List.length_map])
 have HLG:=Lib.hid (show ∀k,(h:k<l.length)→∃h':k<L.length,L[k]=testR t l[k] from fun k h=>⟨by rw [hL,List.length_map];exact h,by simp [hL]⟩)
 clear hrd hs hq hN hw hL
 go_enter Try.func58,Try.ntmps58
 go_wp2_with fail
 go_loopw [5,10] (fun v i wr=>∃k:Nat,i = .int .i64 k∧k≤l.length∧Copies repTestT 65 w (L.take k) v wr) (fun v i wr=>l.length - (intOf i).toNat)
 case atStart=>exact ⟨0,rfl,Nat.zero_le _,Copies.nil _ _ _ (Below.refl _ _)⟩
 case round=>
  obtain ⟨k,rfl,hk,hC⟩:=hrel
  obtain ⟨C,A1,c1,rfl,h1,h2,h3,h4⟩:=hC
  have hkL:(L.take k).length=k:=take_len (by rw [HLL.out];exact hk)
  rw [hkL]
  by_cases hlt:k<l.length
  · have hrw:=HRD.out.keep (D':=D) h4.size (fun j hj hl=>⟨hj,h4.block j hl⟩)
    obtain ⟨g,off,A3,c3,rfl,hDg,hg,q0,q1,q2,q3,q4,q5,hr3⟩:=at_TestT hrw hlt
    obtain ⟨y,hy⟩ : ∃y,y=l[k]:=⟨_,rfl⟩
    have hy3:y.list.length≤1000:=by rw [hy];exact HS.out.2 _ (List.getElem_mem hlt)
    have HQY:=Lib.hid (show QV Q y.var from fun h=>by rw [hy] at h ⊢;exact HQ.out _ (List.getElem_mem hlt) h)
    rw [← hy] at q0 q1 q2 q3 q4 q5 hr3
    have hr4:=RowR.rd (hs:=Sym.cells_length) hr3
    have hl3:=hr3.cap
    have b1:(0:Int)≤(k:Int):=by omega
    have b2:(k:Int)<(l.length:Int):=by omega
    have HZ:=Lib.hid (show L.take k ++ [testR t y]=L.take (k+1) by
     obtain ⟨h',e⟩:=HLG.out k hlt
     rw [hy,← e]
     exact take_snoc h')
    have H1:=Lib.hid h1
    have H2:=Lib.hid h2
    have H3:=Lib.hid h3
    have H4:=Lib.hid h4
    have HR4:=Lib.hid hr4
    have HKL:=Lib.hid hkL
    clear hy hrw h1 h2 h3 h4 hr3 hr4 hkL
    go_upto_region 5 with fail
    obtain ⟨W2,hW2⟩ : ∃W2,W2=wr.alloc (.cells #[.int .i64 y.rel,.string y.var,.int .i64 y.sym.kind,.string y.sym.text,.int .i64 y.sym.n,.slice A3 y.list.length c3] 65):=⟨_,rfl⟩
    have hB2:Below wr.heap.size wr W2:=by rw [hW2];exact (Below.refl _ _).alloc (Nat.le_refl _) _
    have hX2:Blk W2 wr.heap.size 65 #[.int .i64 y.rel,.string y.var,.int .i64 y.sym.kind,.string y.sym.text,.int .i64 y.sym.n,.slice A3 y.list.length c3]:=by rw [hW2];exact Blk.new _ _ _
    rw [← hW2]
    clear hW2 q0 q1 q2 q3 q4 q5
    have HB2:=Lib.hid hB2
    have HX2:=Lib.hid hX2
    have hxl2:=hX2.lt
    have x1:W2.cell? ⟨wr.heap.size,1,none⟩=some (.string y.var):=(hX2.cell 1).trans rfl
    clear hX2 hB2
    go_wp2_with fail
    refine (HON.out y.var W2 (H4.out.trans (HB2.out.mono H4.out.size)) HQY.out).mono ?_
    rintro e w3 ⟨rfl,hb3⟩
    obtain ⟨v,hv⟩ : ∃v,v=oneR t y.var:=⟨_,rfl⟩
    rw [← hv]
    have HV:=Lib.hid hv
    obtain ⟨W4,hW4⟩ : ∃W4,W4=w3.setCell ⟨wr.heap.size,1,none⟩ (.string v):=⟨_,rfl⟩
    have hX3:=HX2.out.new_ hb3
    have x1:w3.cell? ⟨wr.heap.size,1,none⟩=some (.string y.var):=(hX3.cell 1).trans rfl
    have g1:=hX3.frozen 1
    have hxl3:=hX3.lt
    have hX4:Blk W4 wr.heap.size 65 #[.int .i64 y.rel,.string v,.int .i64 y.sym.kind,.string y.sym.text,.int .i64 y.sym.n,.slice A3 y.list.length c3]:=by rw [hW4];exact hX3.set_ 1 _
    have hB4:Below wr.heap.size wr W4:=by rw [hW4];exact (HB2.out.trans (hb3.mono HB2.out.size)).setCell (Nat.le_refl _) _
    have HB4:=Lib.hid hB4
    have HX4:=Lib.hid hX4
    have hxl4:=hX4.lt
    have HTT:=Lib.hid (show testR t y=⟨y.rel,v,y.sym,y.list⟩ by rw [hv];rfl)
    clear hb3 hX3 hX4 hB4 hv
    go_upto_region 6 with fail
    rw [← hW4]
    clear hW4 g1 hxl3 hxl2
    have x5:W4.cell? ⟨wr.heap.size,5,none⟩=some (.slice A3 y.list.length c3):=(HX4.out.cell 5).trans rfl
    go_upto_region 7 with (at_builtin;refine wpList_append_src W4 rfl (.const (.slice none 0 0)) (.tmp 20) 63 rfl 52 i0 _ 3 32 Try.underlying63 hi0 hz0 hz1 hz2 rfl (by omega) (.slice none 0 0) 0 [] rfl (owns_nilC _ _ _) A3 y.list.length c3 (y.list.flatMap Sym.cells) rfl (flat_length Sym.cells_length _) ((HR4.out.new_ HB4.out).news Sym.cells_length (by omega)) (one_Sym _) (by unfold maxLen;omega) (by omega) ?_;intro v1 w5 hown1 hg1 hnil1 hat1;rw [Nat.zero_add,List.nil_append] at hown1;obtain ⟨A5,c5,rfl,ho5,hA5,hB5⟩:=fresh1_of hown1 hat1 rfl hg1;have hX5:=HX4.out.new_ hB5;have u5:=(hX5.cell 5).trans rfl;have g5:=hX5.frozen 5;have hxl5:=hX5.lt;have HB5:=Lib.hid hB5;have HO5:=Lib.hid ho5;have HA5:=Lib.hid hA5;have HX5:=Lib.hid hX5;clear hX5 hB5 ho5 hA5 hown1 hat1 hg1 hnil1 x5)
    obtain ⟨W6,hW6⟩ : ∃W6,W6=w5.setCell ⟨wr.heap.size,5,none⟩ (.slice A5 y.list.length c5):=⟨_,rfl⟩
    have hX5:=HX5.out
    have hB6:Below wr.heap.size wr W6:=by rw [hW6];exact (HB4.out.trans (HB5.out.mono (by omega))).setCell (Nat.le_refl _) _
    have hX6:Blk W6 wr.heap.size 65 #[.int .i64 y.rel,.string v,.int .i64 y.sym.kind,.string y.sym.text,.int .i64 y.sym.n,.slice A5 y.list.length c5]:=by rw [hW6];exact hX5.set_ 5 _
    have hO6:W6.ownsRow 0 52 3 (.slice A5 y.list.length c5) y.list.length (y.list.flatMap Sym.cells):=by rw [hW6];exact ownsRow_setCell_other (a:=⟨wr.heap.size,5,none⟩) HO5.out (own_blk_ne HO5.out hX5 (by decide)) _
    have hA6:AIn A5 (NewD wr.heap.size W6):=HA5.out.mono (fun j hj=>⟨by have:=hj.1;omega,by rw [hW6];simpa using hj.2⟩)
    rw [← hW6]
    clear hW6 hX5
    have hB7:Below wr.heap.size wr (W6.alloc (.cells #[.int .i64 y.rel,.string v,.int .i64 y.sym.kind,.string y.sym.text,.int .i64 y.sym.n,.slice A5 y.list.length c5] 65)):=hB6.alloc hB6.size _
    have hrow:RowR repSym (Plus C wr (W6.alloc (.cells #[.int .i64 y.rel,.string v,.int .i64 y.sym.kind,.string y.sym.text,.int .i64 y.sym.n,.slice A5 y.list.length c5] 65))) (W6.alloc (.cells #[.int .i64 y.rel,.string v,.int .i64 y.sym.kind,.string y.sym.text,.int .i64 y.sym.n,.slice A5 y.list.length c5] 65)) A5 c5 y.list:=(Fresh1.row Sym.cells_length hO6 hA6).keep (by simp) (fun j hj hl=>⟨.inr ⟨hj.1,by simp;have:=hj.2;omega⟩,((Below.refl W6.heap.size W6).alloc (Nat.le_refl _) _).block j hl⟩)
    have hown7:=H1.out.plus hB7
    have hrep7:repTestT.rep (Plus C wr (W6.alloc (.cells #[.int .i64 y.rel,.string v,.int .i64 y.sym.kind,.string y.sym.text,.int .i64 y.sym.n,.slice A5 y.list.length c5] 65))) (W6.alloc (.cells #[.int .i64 y.rel,.string v,.int .i64 y.sym.kind,.string y.sym.text,.int .i64 y.sym.n,.slice A5 y.list.length c5] 65)) (testR t y) [.int .i64 y.rel,.string v,.int .i64 y.sym.kind,.string y.sym.text,.int .i64 y.sym.n,.slice A5 y.list.length c5]:=by
     rw [HTT.out]
     exact rep_test (y:=⟨y.rel,v,y.sym,y.list⟩) hrow
    have hcl : ∀j,Plus C wr (W6.alloc (.cells #[.int .i64 y.rel,.string v,.int .i64 y.sym.kind,.string y.sym.text,.int .i64 y.sym.n,.slice A5 y.list.length c5] 65)) j→j<(W6.alloc (.cells #[.int .i64 y.rel,.string v,.int .i64 y.sym.kind,.string y.sym.text,.int .i64 y.sym.n,.slice A5 y.list.length c5] 65)).heap.size:=fun j hj=>by
     rcases hj with hj | hj
     · have:=(H2.out j hj).2;have:=hB7.size;omega
     · exact hj.2
    obtain ⟨u0,u1,u2,u3,u4,u5⟩:=hX6.c6
    have hxl6:=hX6.lt
    have HB7:=Lib.hid hB7
    have HOW:=Lib.hid hown7
    have HRE:=Lib.hid hrep7
    have HCL:=Lib.hid hcl
    have h63:(L.take k).length+1≤maxLen:=by rw [HKL.out];unfold maxLen;omega
    have hby:((L.take k).length+1)*80≤140737488355328:=by rw [HKL.out];omega
    have H63:=Lib.hid h63
    have HBY:=Lib.hid hby
    clear hB6 hB7 hX6 hO6 hA6 hrow hown7 hrep7 hcl h63 hby
    have HVV:=Lib.hid (show Value.slice A1 k c1 = .slice A1 (L.take k).length c1 by rw [HKL.out])
    go_wp2_with (at_builtin;refine wpList_append_C _ rfl _ _ 48 rfl 65 j0 _ 6 80 Try.underlying48 hj0 hy0 hy1 hy2 rfl rfl (by omega) (Plus C wr (W6.alloc (.cells #[.int .i64 y.rel,.string v,.int .i64 y.sym.kind,.string y.sym.text,.int .i64 y.sym.n,.slice A5 y.list.length c5] 65))) HCL.out (.slice A1 (L.take k).length c1) (L.take k) HVV.out HOW.out ⟨W6.heap.size,0,none⟩ 1 (testR t y) [.int .i64 y.rel,.string v,.int .i64 y.sym.kind,.string y.sym.text,.int .i64 y.sym.n,.slice A5 y.list.length c5] rfl (World.news_of_block (heap_alloc_new _ _)) (by intro u hu;simp only [List.mem_cons,List.not_mem_nil,or_false] at hu;rcases hu with rfl | rfl | rfl | rfl | rfl | rfl<;>rfl) HRE.out H63.out HBY.out ?_;intro v' w7 hap)
    have hfin:Copies repTestT 65 w (L.take k ++ [testR t y]) v' w7:=Copies.snoc H2.out H3.out H4.out HB7.out hap
    rw [HZ.out] at hfin
    go_roundw
    case rel=>exact ⟨k+1,by go_num,by omega,hfin⟩
    case measure=>simp [intOf];omega
  · obtain rfl:k=l.length:=by omega
    have hfin:=Copies.done ⟨C,A1,c1,rfl,h1,h2,h3,h4⟩
    rw [show l.length=L.length from HLL.out.symm,List.take_length,HLL.out] at hfin
    have HF:=Lib.hid hfin
    clear h1 h2 h3 h4 hfin
    go_wp2_with fail
    go_ret
    exact HF.out
end Go.Proofs.Ytffemfglngikbaa
