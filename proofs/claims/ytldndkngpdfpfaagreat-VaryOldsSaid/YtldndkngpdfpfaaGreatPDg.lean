/-
  Texts put together: Known2, OpsSym, KitSyms, Known4, Known5, Shape1.
-/
import Derived.Test.YtldndkngpdfpfaaGreatPDf
import Derived.Test.YtldndkngpdfpfaaGreatPDa
import Derived.Test.YtldndkngpdfpfaaGreatPDb
import Derived.Test.YtldndkngpdfpfaaGreatPDd
namespace Go.Proofs.YtldndkngpdfpfaaGreat
open Go.RowKit Go.Shelf
theorem Sets.off_of {α:Type} {tSet tE size:Nat} {cells:α→List Value} {cmp:α→α→Int} {D:Nat→Prop} {w:World} {S:Nat→Option (List α)} {σ:Nat→St} {k:Nat} {t:TypeId} {cs:Array Value} (h:Sets tSet tE size cells cmp D w S σ) (hB:Blk w k t cs) (n1:t≠tSet) (n2:t≠tE):Off k S σ:=
 fun b l hb=>⟨fun e=>hB.ne_ (h.at_ b l hb).blk n1 e.symm,fun a ha e=>by
  have:=own_blk_ne (h.at_ b l hb).row hB (Ne.symm n2)
  rw [ha] at this
  exact this (by simp [Value.ownBlock,e])⟩
theorem Sets.offM {α:Type} {tSet tE size:Nat} {cells:α→List Value} {cmp:α→α→Int} {D M:Nat→Prop} {w w':World} {S:Nat→Option (List α)} {σ:Nat→St} (h:Sets tSet tE size cells cmp D w S σ) (ho : ∀q,M q→Off q S σ) (hF:Fr M w w'):Sets tSet tE size cells cmp D w' S σ:=
 ⟨fun b l hb=>(h.at_ b l hb).fr hF (fun hd=>(ho b hd b l hb).1 rfl) (fun a ha hd=>(ho _ hd b l hb).2 a ha rfl),h.srt,h.out,h.apart,fun k hk=>Nat.lt_of_lt_of_le (h.low k hk) hF.size⟩
theorem owns_far {α:Type} {tSet tE size:Nat} {cells:α→List Value} {w w':World} {b:Nat} {sn:Bool} {A:Option Addr} {c:Nat} {l:List α} {e sz n:Nat} {v:Value} {xs:List Value} (hS:SetAt tSet tE size cells w b sn A c l) (h:w.ownsRow 0 e sz v n xs) (n1:e≠tSet) (n2:e≠tE) (hF:Fr (SetMod b sn A) w w'):w'.ownsRow 0 e sz v n xs:=
 ⟨h.1,h.2.imp id fun ⟨g,cap,cur,hv,h0,hg,hr⟩=>⟨g,cap,cur,hv,h0,Blk.fr (t:=e) hg hF (blk_far hS hg n1 n2),hr⟩⟩
theorem news_one {Y:World} {t:TypeId} {cs:List Value} {k:Nat} (hk:Y.heap.size=k) : ∀(j:Nat) (u:Value),cs[j]? = some u→(Y.alloc (.cells cs.toArray t)).cell? ((⟨k,0,none⟩:Addr).add j)=some u:=by
 subst hk
 exact World.news_of_block (heap_alloc_new _ _)
def MetTo (D:Nat→Prop) (W:World) (S:Nat→Option (List Name)) (kb sb:Nat) (K:Kn) (v:ByteArray) (W':World):Prop:=
 ∃σ' A' c',NameSets D W' (upd S sb (some (metK K v).1)) σ'∧KnS W' (upd S sb (some (metK K v).1)) kb sb (metK K v) A' c'∧AIn A' (fun j=>¬D j)∧Fr (fun j=>¬D j) W W'
theorem info_str:(Tryz.prog.info? 9).map (fun i=>(i.zero,i.size,i.bytes))=some (some (.string ⟨#[]⟩),1,16):=by kernel_rfl
set_option maxRecDepth 100000 in
set_option maxHeartbeats 4000000 in
theorem kmet_is {D:Nat→Prop} {W:World} {S:Nat→Option (List Name)} {σ:Nat→St} {kb sb:Nat} {K:Kn} {A:Option Addr} {c:Nat} (v:ByteArray) (hN:NameSets D W S σ) (hK:KnS W S kb sb K A c) (hkD : ¬D kb) (hAD:AIn A (fun j=>¬D j)) (hl:(K.1.length:Int)≤1000000) (hl2:(K.2.length:Int)≤1000000) :
 Calls Tryz.prog 201 #[.pointer (some ⟨kb,0,none⟩),.string v] W fun e W'=>e = .returned (.tuple #[])∧MetTo D W S kb sb K v W':=by
 obtain ⟨i0,hi0,hz0,hz1,hz2⟩:=info_parts info_str
 have s0:W.cell? ⟨kb,0,none⟩=some (.pointer (some ⟨sb,0,none⟩)):=(hK.blk.cell 0).trans rfl
 have hkl:=hK.blk.lt
 have HN:=Lib.hid hN
 have HK:=Lib.hid hK
 have HAD:=Lib.hid hAD
 have HKD:=Lib.hid hkD
 have HSA:=Lib.hid (hN.at_ sb K.1 hK.set)
 clear hN hK hAD hkD
 go_enter Tryz.func201,Tryz.ntmps201
 go_wp2_with fail
 refine (sPut_Name v HN.out HK.out.set (by omega)).mono ?_
 rintro e w1 ⟨rfl,σ',h1,_,hF,hFb⟩
 have hkb1:=HK.out.blk.fr hFb (blk_far HSA.out HK.out.blk (by decide) (by decide))
 have hrw1:=owns_far HSA.out HK.out.row (by decide) (by decide) hFb
 have H1:=Lib.hid h1
 have HF:=Lib.hid hF
 have HKB:=Lib.hid hkb1
 have HRW:=Lib.hid hrw1
 clear h1 hF hFb
 cases hh:has cmpName K.1 v
 · have hm:metK K v=(put cmpName K.1 v,K.2 ++ [v]):=by unfold metK;rw [hh];rfl
   have HM:=Lib.hid hm
   have s1:w1.cell? ⟨kb,1,none⟩=some (.slice A K.2.length c):=(hkb1.cell 1).trans rfl
   have f1:=hkb1.frozen 1
   have hkl1:=hkb1.lt
   have hlt1:=HF.out.size
   clear hm hh hkb1 hrw1 s0
   go_wp2_with (at_builtin;refine wpList_append_src _ rfl (.tmp 14) (.tmp 16) 94 rfl 9 i0 _ 1 16 Tryz.underlying94 hi0 hz0 hz1 hz2 rfl (by omega) (.slice A K.2.length c) K.2.length (K.2.map Value.string) rfl (ownsRow_new HRW.out ((Below.refl _ _).alloc (Nat.le_refl _) _)) _ 1 1 [Value.string v] rfl rfl (fun _=>⟨_,rfl,news_one (by simp)⟩) (by intro u hu;simp at hu;subst hu;rfl) (by unfold maxLen;omega) (by omega) ?_;intro v' w4 hown hg hnil hat;obtain ⟨A',c',rfl,_,_,_⟩:=own_form2 hown;have hkb4:=(HKB.out.alloc (.cells #[.string v] 9)).grown hg (own_blk_ne HRW.out HKB.out (by decide));have s1:=(hkb4.cell 1).trans rfl;have f1:=hkb4.frozen 1;have hkl1:=hkb4.lt;have HKB4:=Lib.hid hkb4;have HO4:=Lib.hid hown;have HG4:=Lib.hid hg;have HAT:=Lib.hid hat;clear hkb4 hown hg hnil hat)
   go_end0
   refine ⟨rfl,?_⟩
   unfold MetTo
   rw [HM.out]
   have hfr:Fr (fun j=>(Value.slice A K.2.length c).ownBlock=some j∨j=kb) w1 (w4.setCell ⟨kb,1,none⟩ (.slice A' (K.2.length+1) c')):=(((Fr.refl _ w1).alloc _).grown HG4.out (fun k hk=>.inl (.inl hk))).setCell (p:=⟨kb,1,none⟩) (.inl (.inr rfl)) _
   have hoff : ∀k,((Value.slice A K.2.length c).ownBlock=some k∨k=kb)→Off k (upd S sb (some (put cmpName K.1 v))) σ':=by
    intro k hk
    rcases hk with hk | rfl
    · rcases HRW.out.2 with ⟨hv,_⟩ | ⟨g,cap,cur,hv,_,hg,_⟩
      · rw [hv] at hk;simp [Value.ownBlock] at hk
      · rw [hv] at hk
        have e:g=k:=by simpa [Value.ownBlock] using hk
        subst e
        exact H1.out.off_of (t:=9) hg (by decide) (by decide)
    · exact H1.out.off_of HKB.out (by decide) (by decide)
   refine ⟨σ',A',c',H1.out.offM hoff hfr,⟨?_,?_,upd_same _ _ _⟩,?_,HF.out.trans (hfr.mono (fun j _ hj=>?_))⟩
   · have:=HKB4.out.set_ 1 (.slice A' (K.2.length+1) c')
     rw [List.length_append]
     exact this
   · have h9:=ownsRow_setCell_other (a:=⟨kb,1,none⟩) HO4.out (own_blk_ne HO4.out HKB4.out (by decide)) (.slice A' (K.2.length+1) c')
     rw [List.length_append,List.map_append]
     exact h9
   · intro a ha hd
     subst ha
     have hlow:=H1.out.low _ hd
     rcases HAT.out with h | h
     · rcases A with _ | b
       · simp [Value.ownBlock] at h
       · have e:a.block=b.block:=by simpa [Value.ownBlock] using h
         exact HAD.out b rfl (e ▸ hd)
     · have e:a.block=w1.heap.size+1:=by simpa [Value.ownBlock] using h
       omega
   · rcases hj with hj | rfl
     · rcases A with _ | b
       · simp [Value.ownBlock] at hj
       · have e:b.block=j:=by simpa [Value.ownBlock] using hj
         exact fun hd=>HAD.out b rfl (e ▸ hd)
     · exact HKD.out
 · have hm:metK K v=(put cmpName K.1 v,K.2):=by unfold metK;rw [hh];rfl
   have HM:=Lib.hid hm
   clear hm hh
   go_wp2_with fail
   go_end0
   refine ⟨rfl,?_⟩
   unfold MetTo
   rw [HM.out]
   exact ⟨σ',A,c,H1.out,⟨HKB.out,HRW.out,upd_same _ _ _⟩,HAD.out,HF.out⟩
end Go.Proofs.YtldndkngpdfpfaaGreat
namespace Go.Proofs.YtldndkngpdfpfaaGreat
open Go.RowKit
theorem Sym.one (x:Sym) : ∀u∈Sym.cells x,u.oneCell'=true:=by intro u hu;simp [Sym.cells] at hu;rcases hu with rfl | rfl | rfl<;>rfl
theorem Sym.oneAll (l:List Sym) : ∀u∈l.flatMap Sym.cells,u.oneCell'=true:=by intro u hu;obtain ⟨x,_,hx⟩:=List.mem_flatMap.1 hu;exact Sym.one x u hx
end Go.Proofs.YtldndkngpdfpfaaGreat
namespace Go.Proofs.YtldndkngpdfpfaaGreat
open Go.RowKit
theorem eql_sym (x y:Sym) (W:World):(binOp .eql 23 (.agg #[.int .i64 x.kind,.string x.text,.int .i64 x.n]) (.agg #[.int .i64 y.kind,.string y.text,.int .i64 y.n])).run Tryz.prog W = .ok (.bool (decide (x=y))) W:=by
 rw [run_eql_struct]
 go_simp
 by_cases h:x=y
 · subst h;simp
 · have h2 : ¬(x.kind=y.kind∧x.text.toList=y.text.toList∧x.n=y.n):=fun ⟨h1,h2,h3⟩=>h (Sym.ext' h1 (toList_inj h2) h3)
   rw [decide_eq_false h]
   split
   · split
     · split
       · exact absurd ⟨by assumption,by assumption,by assumption⟩ h2
       · rfl
     · rfl
   · rfl
theorem neq_sym (x y:Sym) (W:World):(binOp .neq 23 (.agg #[.int .i64 x.kind,.string x.text,.int .i64 x.n]) (.agg #[.int .i64 y.kind,.string y.text,.int .i64 y.n])).run Tryz.prog W = .ok (.bool (!decide (x=y))) W:=by
 rw [run_neq_struct]
 go_simp
 by_cases h:x=y
 · subst h;simp
 · have h2 : ¬(x.kind=y.kind∧x.text.toList=y.text.toList∧x.n=y.n):=fun ⟨h1,h2,h3⟩=>h (Sym.ext' h1 (toList_inj h2) h3)
   rw [decide_eq_false h]
   split
   · split
     · split
       · exact absurd ⟨by assumption,by assumption,by assumption⟩ h2
       · rfl
     · rfl
   · rfl
attribute [local go_sem] eql_sym neq_sym
def within (v n:Int):Int:=if n<1 then 0 else v % n
theorem sym_at {w:World} {A:Option Addr} {c k:Nat} {l:List Sym} (h:RowRd w 3 Sym.cells A c l) (hk:k<l.length) : ∃g off,A=some ⟨g,off,none⟩∧g<w.heap.size∧
 w.cell? ⟨g,off+k*3,none⟩=some (.int .i64 l[k].kind)∧w.cell? ⟨g,off+k*3+1,none⟩=some (.string l[k].text)∧w.cell? ⟨g,off+k*3+2,none⟩=some (.int .i64 l[k].n):=by
 obtain ⟨g,off,hA,hg,hc⟩:=h.at_ hk
 exact ⟨g,off,hA,hg,by simpa using hc 0 _ rfl,by simpa using hc 1 _ rfl,by simpa using hc 2 _ rfl⟩
theorem within_nat (v:Int) {n:Nat} (h:0<n) : ∃j:Nat,within v n=j∧j<n:=by
 have h1 : ¬(n:Int)<1:=by omega
 have h2:=Int.emod_nonneg v (show (n:Int)≠0 by omega)
 have h3:=Int.emod_lt_of_pos v (show (0:Int)<n by omega)
 refine ⟨(v % (n:Int)).toNat,?_,by omega⟩
 simp only [within,if_neg h1]
 omega
set_option maxHeartbeats 1000000 in
theorem within_is (v n:Int) (w:World) (hn:n≤9223372036854775807) :
 Calls Tryz.prog 25 #[.int .i64 v,.int .i64 n] w fun e w'=>e = .returned (.int .i64 (within v n))∧w=w':=by
 by_cases h:n<1
 · have hw:within v n=0:=by simp [within,h]
   rw [hw]
   go_enter Tryz.func25,Tryz.ntmps25
   go_wp2_with fail
   go_ret
   exact ⟨rfl,rfl⟩
 · have hw:within v n=v % n:=by simp [within,h]
   rw [hw]
   have e0:n≠0:=by omega
   have h1:v.tmod n<n:=Int.tmod_lt_of_pos v (by omega)
   have h2 : -n<v.tmod n:=by
    have:=Int.lt_tmod_of_pos v (show 0<n by omega)
    omega
   have e1:IntKind.i64.wrap (v.tmod n)=v.tmod n:=IntWalk.i64_in _ (by omega)
   have e2:v.tmod n<0→v % n=v.tmod n+n:=fun h3=>by
    have h4:=Int.emod_emod_of_dvd v (Int.dvd_refl n)
    have h5:(v.tmod n) % n=v % n:=by
     have:=Int.mul_tdiv_add_tmod v n
     have h6:v % n=(v.tmod n+n*v.tdiv n) % n:=by congr 1;omega
     rw [h6,Int.add_mul_emod_self_left]
    have h7:(v.tmod n+n) % n=v.tmod n % n:=by simp
    rw [← h5,← h7,Int.emod_eq_of_lt (by omega) (by omega)]
   have e3 : ¬v.tmod n<0→v % n=v.tmod n:=fun h3=>by
    have h5:(v.tmod n) % n=v % n:=by
     have:=Int.mul_tdiv_add_tmod v n
     have h6:v % n=(v.tmod n+n*v.tdiv n) % n:=by congr 1;omega
     rw [h6,Int.add_mul_emod_self_left]
    rw [← h5,Int.emod_eq_of_lt (by omega) (by omega)]
   have E2:=Lib.hid e2
   have E3:=Lib.hid e3
   clear e2 e3
   go_enter Tryz.func25,Tryz.ntmps25
   by_cases h3:v.tmod n<0
   · have E:=Lib.hid (E2.out h3)
     have e4:IntKind.i64.wrap (v.tmod n+n)=v.tmod n+n:=IntWalk.i64_in _ (by omega)
     clear E2 E3
     go_wp2_with fail
     go_ret
     exact ⟨by rw [E.out];rfl,rfl⟩
   · have E:=Lib.hid (E3.out h3)
     clear E2 E3
     go_wp2_with fail
     go_ret
     exact ⟨by rw [E.out];rfl,rfl⟩
end Go.Proofs.YtldndkngpdfpfaaGreat
namespace Go.Proofs.YtldndkngpdfpfaaGreat
open Go.RowKit Go.Shelf
theorem upd_twice {α:Type} (S:Nat→α) (b:Nat) (x y:α):upd (upd S b x) b y=upd S b y:=by
 funext k
 by_cases e:k=b
 · subst e;rw [upd_same,upd_same]
 · rw [upd_ne _ _ e,upd_ne _ _ e,upd_ne _ _ e]
def KSt (D:Nat→Prop) (W:World) (S:Nat→Option (List Name)) (kb sb:Nat) (K:Kn) (W':World):Prop:=
 ∃σ' A' c',NameSets D W' (upd S sb (some K.1)) σ'∧KnS W' (upd S sb (some K.1)) kb sb K A' c'∧AIn A' (fun j=>¬D j)∧Fr (fun j=>¬D j) W W'
theorem KSt.below {D:Nat→Prop} {W W1 W2:World} {S:Nat→Option (List Name)} {kb sb:Nat} {K:Kn} (h:KSt D W S kb sb K W1) (hb:Below W1.heap.size W1 W2):KSt D W S kb sb K W2:=by
 obtain ⟨σ',A',c',h1,h2,h3,h4⟩:=h
 exact ⟨σ',A',c',h1.below hb,⟨h2.blk.new_ hb,ownsRow_new h2.row hb,h2.set⟩,h3,h4.trans (Fr.of_new hb)⟩
theorem metK_len (K:Kn) (v:ByteArray) (hs:Srt cmpName K.1):(metK K v).1.length≤K.1.length+1∧(metK K v).2.length≤K.2.length+1:=by
 unfold metK
 cases h:has cmpName K.1 v
 · simp [length_put tc_name hs h]
 · simp [put_has h]
theorem KSt.met {D:Nat→Prop} {W W1:World} {S:Nat→Option (List Name)} {kb sb:Nat} {K:Kn} (v:ByteArray) (h:KSt D W S kb sb K W1) (hkD : ¬D kb) (hl:(K.1.length:Int)≤1000000) (hl2:(K.2.length:Int)≤1000000) :
 Calls Tryz.prog 201 #[.pointer (some ⟨kb,0,none⟩),.string v] W1 fun e W'=>e = .returned (.tuple #[])∧KSt D W S kb sb (metK K v) W'∧(metK K v).1.length≤K.1.length+1∧(metK K v).2.length≤K.2.length+1:=by
 obtain ⟨σ',A',c',h1,h2,h3,h4⟩:=h
 refine (kmet_is v h1 h2 hkD h3 hl hl2).mono ?_
 rintro e W' ⟨he,σ2,A2,c2,g1,g2,g3,g4⟩
 rw [upd_twice] at g1 g2
 exact ⟨he,⟨σ2,A2,c2,g1,g2,g3,h4.trans g4⟩,metK_len K v (h1.srt sb _ (upd_same _ _ _))⟩
theorem KSt.has_ {D:Nat→Prop} {W W1:World} {S:Nat→Option (List Name)} {kb sb:Nat} {K:Kn} (v:ByteArray) (h:KSt D W S kb sb K W1) (hl:(K.1.length:Int)≤1000000) :
 Calls Tryz.prog 163 #[.pointer (some ⟨kb,0,none⟩),.string v] W1 fun e W'=>e = .returned (.bool (hasK K v))∧Below W1.heap.size W1 W':=by
 obtain ⟨σ',A',c',h1,h2,h3,h4⟩:=h
 exact khas_is v h1 h2 hl
theorem drop_one {α:Type} {l:List α} {i:Nat} (h:i<l.length):l.drop i=l[i] :: l.drop (i+1):=List.drop_eq_getElem_cons h
theorem fieldK_cons (k:Kn) (t:TestT) (l:List TestT):fieldK k (t :: l)=if t.rel=8∨t.var.toList = [] then fieldK k l else if t.rel=1 then fieldK (metK k t.var) l else if hasK k t.var=true then fieldK k l else (false,k):=rfl
set_option maxRecDepth 100000 in
set_option maxHeartbeats 8000000 in
theorem kfield_is {D:Nat→Prop} {W:World} {S:Nat→Option (List Name)} {kb sb:Nat} {K:Kn} {A:Option Addr} {c:Nat} (l:List TestT) (h:KSt D W S kb sb K W) (hkD : ¬D kb) (hrd:RowR repTestT D W A c l) (hl:(K.1.length:Int)+l.length≤1000000) (hl2:(K.2.length:Int)+l.length≤1000000) :
 Calls Tryz.prog 202 #[.pointer (some ⟨kb,0,none⟩),.slice A l.length c] W fun e W'=>e = .returned (.bool (fieldK K l).1)∧KSt D W S kb sb (fieldK K l).2 W'∧(fieldK K l).2.1.length≤K.1.length+l.length∧(fieldK K l).2.2.length≤K.2.length+l.length:=by
 have H0:=Lib.hid h
 have HR:=Lib.hid hrd
 have HKD:=Lib.hid hkD
 have hlc:=hrd.cap
 clear h hrd hkD
 go_enter Tryz.func202,Tryz.ntmps202
 go_wp2_with fail
 go_loopw [9] (fun s wr=>∃(i:Nat) (K':Kn),s = .int .i64 i∧i≤l.length∧fieldK K l=fieldK K' (l.drop i)∧KSt D W S kb sb K' wr∧K'.1.length≤K.1.length+i∧K'.2.length≤K.2.length+i) (fun s wr=>l.length - (intOf s).toNat)
 case atStart=>exact ⟨0,K,rfl,Nat.zero_le _,rfl,H0.out,Nat.le_refl _,Nat.le_refl _⟩
 case round=>
  obtain ⟨i,K',rfl,hi,hfk,hst,hk1,hk2⟩:=hrel
  have HFK:=Lib.hid hfk
  have HST:=Lib.hid hst
  have HF:=Lib.hid (show Fr (fun j=>¬D j) W wr from by obtain ⟨_,_,_,_,_,_,h4⟩:=hst;exact h4)
  clear hfk hst
  by_cases hlt:i<l.length
  · obtain ⟨y,hy⟩ : ∃y,y=l[i]:=⟨_,rfl⟩
    have hdr:=drop_one hlt
    rw [← hy] at hdr
    obtain ⟨g,off,A1,c1,rfl,_,hg,q0,q1,q2,q3,q4,q5,hrow⟩:=at_TestT (HR.out.fr HF.out (fun j hd hn=>hn hd)) hlt
    rw [← hy] at q0 q1 q2 q3 q4 q5
    have HDR:=Lib.hid hdr
    have b1:(0:Int)≤(i:Int):=by omega
    have b2:(i:Int)<(l.length:Int):=by omega
    clear hy hrow hdr
    by_cases h8:y.rel=8
    · have r1:(y.rel == 8)=true:=by simp [h8]
      have r2:decide (y.rel=8)=true:=by simp [h8]
      have HS:=Lib.hid (show fieldK K' (y :: l.drop (i+1))=fieldK K' (l.drop (i+1)) by rw [fieldK_cons,if_pos (.inl h8)])
      clear h8
      go_wp2_with fail
      go_roundw
      case rel=>exact ⟨i+1,K',by go_num,by omega,by rw [HFK.out,HDR.out,HS.out],HST.out.below (by (repeat (first | exact Below.refl _ _ | refine Below.drew ?_ | refine Below.al ?_ _ | refine Below.sc ?_ _))),by omega,by omega⟩
      case measure=>simp [intOf]<;>omega
    have r1:(y.rel == 8)=false:=by simp [h8]
    have r2:decide (y.rel=8)=false:=by simp [h8]
    by_cases hv:y.var.toList = []
    · have v1:(y.var.toList == [])=true:=by simp [hv]
      have v2:y.var.toList.isEmpty=true:=by simp [hv]
      have v3:decide (y.var.toList = [])=true:=by simp [hv]
      have HS:=Lib.hid (show fieldK K' (y :: l.drop (i+1))=fieldK K' (l.drop (i+1)) by rw [fieldK_cons,if_pos (.inr hv)])
      clear h8 hv
      go_wp2_with fail
      go_roundw
      case rel=>exact ⟨i+1,K',by go_num,by omega,by rw [HFK.out,HDR.out,HS.out],HST.out.below (by (repeat (first | exact Below.refl _ _ | refine Below.drew ?_ | refine Below.al ?_ _ | refine Below.sc ?_ _))),by omega,by omega⟩
      case measure=>simp [intOf]<;>omega
    have v1:(y.var.toList == [])=false:=by simp [hv]
    have v2:y.var.toList.isEmpty=false:=by simp [hv]
    have v3:decide (y.var.toList = [])=false:=by simp [hv]
    have hnot : ¬(y.rel=8∨y.var.toList = []):=fun h=>h.elim h8 hv
    by_cases h1:y.rel=1
    · have s1:(y.rel == 1)=true:=by simp [h1]
      have s2:decide (y.rel=1)=true:=by simp [h1]
      have HS:=Lib.hid (show fieldK K' (y :: l.drop (i+1))=fieldK (metK K' y.var) (l.drop (i+1)) by rw [fieldK_cons,if_neg hnot,if_pos h1])
      clear h8 hv hnot h1
      go_wp2_with fail
      refine (KSt.met y.var (HST.out.below (by (repeat (first | exact Below.refl _ _ | refine Below.drew ?_ | refine Below.al ?_ _ | refine Below.sc ?_ _)))) HKD.out (by omega) (by omega)).mono ?_
      rintro e w5 ⟨rfl,hst5,hl5,hl6⟩
      have HST5:=Lib.hid hst5
      clear hst5 q0 q1 q2 q3 q4 q5
      go_wp2_with fail
      go_roundw
      case rel=>exact ⟨i+1,metK K' y.var,by go_num,by omega,by rw [HFK.out,HDR.out,HS.out],HST5.out,by omega,by omega⟩
      case measure=>simp [intOf]<;>omega
    have s1:(y.rel == 1)=false:=by simp [h1]
    have s2:decide (y.rel=1)=false:=by simp [h1]
    cases hh:hasK K' y.var
    · have HS:=Lib.hid (show fieldK K' (y :: l.drop (i+1))=(false,K') by rw [fieldK_cons,if_neg hnot,if_neg h1,hh];rfl)
      clear h8 hv hnot h1
      go_wp2_with fail
      refine (KSt.has_ y.var (HST.out.below (by (repeat (first | exact Below.refl _ _ | refine Below.drew ?_ | refine Below.al ?_ _ | refine Below.sc ?_ _)))) (by omega)).mono ?_
      rintro e w5 ⟨rfl,hb5⟩
      rw [hh]
      have hb5':=Below.trans (show Below wr.heap.size wr _ from (by (repeat (first | exact Below.refl _ _ | refine Below.drew ?_ | refine Below.al ?_ _ | refine Below.sc ?_ _)))) (hb5.mono (by simp))
      have HST5:=Lib.hid (HST.out.below hb5')
      have HE:=Lib.hid (show fieldK K l=(false,K') by rw [HFK.out,HDR.out,HS.out])
      clear hb5 hb5' hh q0 q1 q2 q3 q4 q5
      go_wp2_with fail
      go_ret
      rw [HE.out]
      exact ⟨rfl,HST5.out,by dsimp only;omega,by dsimp only;omega⟩
    · have HS:=Lib.hid (show fieldK K' (y :: l.drop (i+1))=fieldK K' (l.drop (i+1)) by rw [fieldK_cons,if_neg hnot,if_neg h1,hh];rfl)
      clear h8 hv hnot h1
      go_wp2_with fail
      refine (KSt.has_ y.var (HST.out.below (by (repeat (first | exact Below.refl _ _ | refine Below.drew ?_ | refine Below.al ?_ _ | refine Below.sc ?_ _)))) (by omega)).mono ?_
      rintro e w5 ⟨rfl,hb5⟩
      rw [hh]
      have hb5':=Below.trans (show Below wr.heap.size wr _ from (by (repeat (first | exact Below.refl _ _ | refine Below.drew ?_ | refine Below.al ?_ _ | refine Below.sc ?_ _)))) (hb5.mono (by simp))
      have HST5:=Lib.hid (HST.out.below hb5')
      clear hb5 hb5' hh q0 q1 q2 q3 q4 q5
      go_wp2_with fail
      go_roundw
      case rel=>exact ⟨i+1,K',by go_num,by omega,by rw [HFK.out,HDR.out,HS.out],HST5.out,by omega,by omega⟩
      case measure=>simp [intOf]<;>omega
  · have hie:i=l.length:=by omega
    subst hie
    have hend:fieldK K l=(true,K'):=by rw [HFK.out,List.drop_length];rfl
    have HE:=Lib.hid hend
    clear hend
    go_wp2_with fail
    go_ret
    rw [HE.out]
    exact ⟨rfl,HST.out,hk1,hk2⟩
end Go.Proofs.YtldndkngpdfpfaaGreat
namespace Go.Proofs.YtldndkngpdfpfaaGreat
open Go.RowKit Go.Shelf
theorem KSt.fr_ {D:Nat→Prop} {W W1:World} {S:Nat→Option (List Name)} {kb sb:Nat} {K:Kn} (h:KSt D W S kb sb K W1):Fr (fun j=>¬D j) W W1:=by
 obtain ⟨_,_,_,_,_,_,h4⟩:=h
 exact h4
theorem KSt.start {D:Nat→Prop} {W:World} {S:Nat→Option (List Name)} {σ:Nat→St} {kb sb:Nat} {K:Kn} {A:Option Addr} {c:Nat} (hN:NameSets D W S σ) (hK:KnS W S kb sb K A c) (hA:AIn A (fun j=>¬D j)):KSt D W S kb sb K W:=by
 have e:upd S sb (some K.1)=S:=upd_id _ _ _ hK.set
 exact ⟨σ,A,c,by rw [e];exact hN,by rw [e];exact hK,hA,Fr.refl _ _⟩
theorem KSt.lt {D:Nat→Prop} {W W1:World} {S:Nat→Option (List Name)} {kb sb:Nat} {K:Kn} (h:KSt D W S kb sb K W1):kb<W1.heap.size:=by
 obtain ⟨_,_,_,_,h2,_,_⟩:=h
 exact h2.blk.lt
theorem row_low {W:World} {e size n:Nat} {A:Option Addr} {c:Nat} {xs:List Value} (h:W.ownsRow 0 e size (.slice A n c) n xs):AIn A (· < W.heap.size):=by
 intro a ha
 rcases h.2 with ⟨hv,_⟩ | ⟨g,cap,cur,hv,_,hg,_⟩
 · simp only [Value.slice.injEq] at hv;rw [hv.1] at ha;cases ha
 · simp only [Value.slice.injEq] at hv;rw [hv.1] at ha;cases ha
   exact Blk.lt (t:=e) (cs:=cur) hg
theorem KSt.prot {D:Nat→Prop} {W W1 W2:World} {S:Nat→Option (List Name)} {kb sb:Nat} {K:Kn} (h:KSt D W S kb sb K W1) (hb:Below W1.heap.size W1 W2) :
 KSt (fun k=>D k∨(W1.heap.size≤k∧k<W2.heap.size)) W2 S kb sb K W2:=by
 obtain ⟨σ',A',c',h1,h2,h3,_⟩:=h
 refine ⟨σ',A',c',h1.protect hb,⟨h2.blk.new_ hb,ownsRow_new h2.row hb,h2.set⟩,fun a ha hd=>?_,Fr.refl _ _⟩
 rcases hd with hd | hd
 · exact h3 a ha hd
 · have:=row_low h2.row a ha;omega
theorem KSt.unprot {D D':Nat→Prop} {W W1 W2:World} {S:Nat→Option (List Name)} {kb sb:Nat} {K:Kn} (h:KSt D' W1 S kb sb K W2) (hF:Fr (fun j=>¬D j) W W1) (hD : ∀k,D k→D' k):KSt D W S kb sb K W2:=by
 obtain ⟨σ',A',c',h1,h2,h3,h4⟩:=h
 exact ⟨σ',A',c',h1.weaken hD,h2,h3.mono (fun k hk hd=>hk (hD k hd)),hF.trans (h4.mono (fun k _ hk hd=>hk (hD k hd)))⟩
theorem KSt.prot0 {D:Nat→Prop} {W W1:World} {S:Nat→Option (List Name)} {kb sb:Nat} {K:Kn} (h:KSt D W S kb sb K W1):KSt D W1 S kb sb K W1:=by
 obtain ⟨σ',A',c',h1,h2,h3,_⟩:=h
 exact ⟨σ',A',c',h1,h2,h3,Fr.refl _ _⟩
theorem KSt.join {D:Nat→Prop} {W W1 W2:World} {S:Nat→Option (List Name)} {kb sb:Nat} {K K':Kn} (h:KSt D W1 S kb sb K W2) (h0:KSt D W S kb sb K' W1):KSt D W S kb sb K W2:=by
 obtain ⟨σ',A',c',h1,h2,h3,h4⟩:=h
 exact ⟨σ',A',c',h1,h2,h3,h0.fr_.trans h4⟩
set_option maxRecDepth 100000 in
set_option maxHeartbeats 8000000 in
theorem kone_is {D:Nat→Prop} {W:World} {S:Nat→Option (List Name)} {kb sb:Nat} {K:Kn} {A1 A2 A3:Option Addr} {c1 c2 c3:Nat} (x:CondT) (h:KSt D W S kb sb K W) (hkD : ¬D kb) (h1:RowR repTestT D W A1 c1 x.attr) (h2:RowR repTestT D W A2 c2 x.value) (hl:(K.1.length:Int)+(1+x.attr.length+x.value.length)≤1000000) (hl2:(K.2.length:Int)+(1+x.attr.length+x.value.length)≤1000000) :
 Calls Tryz.prog 162 #[.pointer (some ⟨kb,0,none⟩),.agg #[.int .i64 x.kind,.bool x.goal,.string x.id,.slice A1 x.attr.length c1,.slice A2 x.value.length c2,.bool x.acc,.slice A3 x.conds.length c3]] W fun e W'=>e = .returned (.bool (oneK K x).1)∧KSt D W S kb sb (oneK K x).2 W'∧(oneK K x).2.1.length≤K.1.length+(1+x.attr.length+x.value.length)∧(oneK K x).2.2.length≤K.2.length+(1+x.attr.length+x.value.length):=by
 have H0:=Lib.hid h
 have HKD:=Lib.hid hkD
 have H1:=Lib.hid h1
 have H2:=Lib.hid h2
 have hl1c:=h1.cap
 have hl2c:=h2.cap
 clear h hkD h1 h2
 by_cases hg:x.goal=true
 · have g1:=hg
   have hgk:(if x.goal=true then metK K x.id else K)=metK K x.id:=if_pos hg
   have H_g:=Lib.hid g1
   have HG:=Lib.hid hgk
   clear g1 hg hgk
   go_enter Tryz.func162,Tryz.ntmps162
   go_upto_region 1 with fail
   obtain ⟨W1,hW1⟩ : ∃W1,W1=W.alloc (.cells #[.int .i64 x.kind,.bool x.goal,.string x.id,.slice A1 x.attr.length c1,.slice A2 x.value.length c2,.bool x.acc,.slice A3 x.conds.length c3] 62):=⟨_,rfl⟩
   rw [← hW1]
   have hbk:Blk W1 W.heap.size 62 #[.int .i64 x.kind,.bool x.goal,.string x.id,.slice A1 x.attr.length c1,.slice A2 x.value.length c2,.bool x.acc,.slice A3 x.conds.length c3]:=by rw [hW1];exact Blk.new _ _ _
   have hB:Below W.heap.size W W1:=by rw [hW1];exact (Below.refl _ _).alloc (Nat.le_refl _) _
   have hsz:W1.heap.size=W.heap.size+1:=by rw [hW1,World.size_alloc]
   have hst1:=H0.out.prot hB
   have hbD:(fun k=>D k∨(W.heap.size≤k∧k<W1.heap.size)) W.heap.size:=.inr ⟨Nat.le_refl _,by omega⟩
   have hkD1 : ¬(fun k=>D k∨(W.heap.size≤k∧k<W1.heap.size)) kb:=fun hd=>hd.elim HKD.out (fun hd=>by have:=H0.out.lt;omega)
   obtain ⟨D1,hD1⟩ : ∃D1,D1=(fun k=>D k∨(W.heap.size≤k∧k<W1.heap.size)):=⟨_,rfl⟩
   rw [← hD1] at hst1 hbD hkD1
   have HR1:=Lib.hid (show RowR repTestT D1 W1 A1 c1 x.attr from (H1.out.new_ hB).weaken (fun k hk=>by rw [hD1];exact .inl hk))
   have HR2:=Lib.hid (show RowR repTestT D1 W1 A2 c2 x.value from (H2.out.new_ hB).weaken (fun k hk=>by rw [hD1];exact .inl hk))
   have HDD:=Lib.hid (show ∀k,D k→D1 k from fun k hk=>by rw [hD1];exact .inl hk)
   have HFB:=Lib.hid (show Fr (fun j=>¬D j) W W1 from Fr.of_new hB)
   have HST:=Lib.hid hst1
   have HBD:=Lib.hid hbD
   have HK1:=Lib.hid hkD1
   have HBK:=Lib.hid hbk
   have hlo:=hbk.lt
   have e1:W1.cell? ⟨W.heap.size,1,none⟩=some (.bool x.goal):=(hbk.cell 1).trans rfl
   have e2:W1.cell? ⟨W.heap.size,2,none⟩=some (.string x.id):=(hbk.cell 2).trans rfl
   have e3:W1.cell? ⟨W.heap.size,3,none⟩=some (.slice A1 x.attr.length c1):=(hbk.cell 3).trans rfl
   have e4:W1.cell? ⟨W.heap.size,4,none⟩=some (.slice A2 x.value.length c2):=(hbk.cell 4).trans rfl
   clear hW1 hbk hB hsz hst1 hbD hkD1 hD1
   have g1:=H_g.out
   go_wp2_with fail
   refine (KSt.met x.id HST.out HK1.out (by omega) (by omega)).mono ?_
   rintro e w4 ⟨rfl,hst4,hl4,hl5⟩
   have HST4:=Lib.hid hst4
   clear hst4 e1 e2 e3 e4 hlo
   have hbk:=HBK.out.fr (HST4.out).fr_ (fun hn=>hn HBD.out)
   have hlo:=hbk.lt
   have hzw:W.heap.size≤w4.heap.size:=Nat.le_trans HFB.out.size (HST4.out).fr_.size
   have e2:w4.cell? ⟨W.heap.size,2,none⟩=some (.string x.id):=(hbk.cell 2).trans rfl
   have e3:w4.cell? ⟨W.heap.size,3,none⟩=some (.slice A1 x.attr.length c1):=(hbk.cell 3).trans rfl
   have e4:w4.cell? ⟨W.heap.size,4,none⟩=some (.slice A2 x.value.length c2):=(hbk.cell 4).trans rfl
   clear hbk
   go_wp2_with fail
   cases hh:hasK (metK K x.id) x.id
   · skip
     have hhx:=KSt.has_ x.id (HST4.out) (by omega)
     rw [hh] at hhx
     refine hhx.mono ?_
     rintro e w5 ⟨rfl,hb5⟩
     have HST5:=Lib.hid ((HST4.out).below (hb5))
     clear hhx hb5
     have HA:=Lib.hid (show oneK K x=(false,metK K x.id) by unfold oneK;simp only [HG.out];simp [hh])
     clear hh
     go_wp2_with fail
     go_ret
     rw [HA.out]
     exact ⟨rfl,(HST5.out).unprot HFB.out HDD.out,by dsimp only;omega,by dsimp only;omega⟩
   · skip
     have hhx:=KSt.has_ x.id (HST4.out) (by omega)
     rw [hh] at hhx
     refine hhx.mono ?_
     rintro e w5 ⟨rfl,hb5⟩
     have HST5:=Lib.hid ((HST4.out).below (hb5))
     clear hhx hb5
     have hbk:=HBK.out.fr (HST5.out).fr_ (fun hn=>hn HBD.out)
     have hlo:=hbk.lt
     have hzw:W.heap.size≤w5.heap.size:=Nat.le_trans HFB.out.size (HST5.out).fr_.size
     have e2:w5.cell? ⟨W.heap.size,2,none⟩=some (.string x.id):=(hbk.cell 2).trans rfl
     have e3:w5.cell? ⟨W.heap.size,3,none⟩=some (.slice A1 x.attr.length c1):=(hbk.cell 3).trans rfl
     have e4:w5.cell? ⟨W.heap.size,4,none⟩=some (.slice A2 x.value.length c2):=(hbk.cell 4).trans rfl
     clear hbk
     obtain ⟨b2,k2,hf⟩ : ∃b k,fieldK (metK K x.id) x.attr=(b,k):=⟨_,_,rfl⟩
     have hfa:=kfield_is x.attr (A:=A1) (c:=c1) (HST5.out.prot0) HK1.out (HR1.out.fr HST5.out.fr_ (fun k hk hn=>hn hk)) (by omega) (by omega)
     rw [hf] at hfa
     have HFA:=Lib.hid hfa
     clear hfa
     cases b2
     · skip
       have HA:=Lib.hid (show oneK K x=(false,k2) by unfold oneK;simp only [HG.out];simp [hh,hf])
       clear hh hf
       go_wp2_with fail
       refine HFA.out.mono ?_
       rintro e w6 ⟨rfl,hst6,hl6,hl7⟩
       have HST6:=Lib.hid (hst6.join HST5.out)
       clear hst6
       go_wp2_with fail
       go_ret
       rw [HA.out]
       exact ⟨rfl,(HST6.out).unprot HFB.out HDD.out,by dsimp only;omega,by dsimp only;omega⟩
     · skip
       obtain ⟨b3,k3,hf3⟩ : ∃b k,fieldK k2 x.value=(b,k):=⟨_,_,rfl⟩
       have HA:=Lib.hid (show oneK K x=(b3,k3) by unfold oneK;simp only [HG.out];simp [hh,hf,hf3])
       clear hh hf
       go_wp2_with fail
       refine HFA.out.mono ?_
       rintro e w6 ⟨rfl,hst6,hl6,hl7⟩
       have HST6:=Lib.hid (hst6.join HST5.out)
       clear hst6
       have hbk:=HBK.out.fr (HST6.out).fr_ (fun hn=>hn HBD.out)
       have hlo:=hbk.lt
       have hzw:W.heap.size≤w6.heap.size:=Nat.le_trans HFB.out.size (HST6.out).fr_.size
       have e2:w6.cell? ⟨W.heap.size,2,none⟩=some (.string x.id):=(hbk.cell 2).trans rfl
       have e3:w6.cell? ⟨W.heap.size,3,none⟩=some (.slice A1 x.attr.length c1):=(hbk.cell 3).trans rfl
       have e4:w6.cell? ⟨W.heap.size,4,none⟩=some (.slice A2 x.value.length c2):=(hbk.cell 4).trans rfl
       clear hbk
       have hfa:=kfield_is x.value (A:=A2) (c:=c2) (HST6.out.prot0) HK1.out (HR2.out.fr HST6.out.fr_ (fun k hk hn=>hn hk)) (by omega) (by omega)
       rw [hf3] at hfa
       have HFA:=Lib.hid hfa
       clear hfa hf3
       go_wp2_with fail
       refine HFA.out.mono ?_
       rintro e w7 ⟨rfl,hst7,hl8,hl9⟩
       have HST7:=Lib.hid (hst7.join HST6.out)
       clear hst7
       go_wp2_with fail
       go_ret
       rw [HA.out]
       exact ⟨rfl,(HST7.out).unprot HFB.out HDD.out,by dsimp only;omega,by dsimp only;omega⟩
 · have g1:x.goal=false:=by simpa using hg
   have hgk:(if x.goal=true then metK K x.id else K)=K:=if_neg hg
   have H_g:=Lib.hid g1
   have HG:=Lib.hid hgk
   clear g1 hg hgk
   go_enter Tryz.func162,Tryz.ntmps162
   go_upto_region 1 with fail
   obtain ⟨W1,hW1⟩ : ∃W1,W1=W.alloc (.cells #[.int .i64 x.kind,.bool x.goal,.string x.id,.slice A1 x.attr.length c1,.slice A2 x.value.length c2,.bool x.acc,.slice A3 x.conds.length c3] 62):=⟨_,rfl⟩
   rw [← hW1]
   have hbk:Blk W1 W.heap.size 62 #[.int .i64 x.kind,.bool x.goal,.string x.id,.slice A1 x.attr.length c1,.slice A2 x.value.length c2,.bool x.acc,.slice A3 x.conds.length c3]:=by rw [hW1];exact Blk.new _ _ _
   have hB:Below W.heap.size W W1:=by rw [hW1];exact (Below.refl _ _).alloc (Nat.le_refl _) _
   have hsz:W1.heap.size=W.heap.size+1:=by rw [hW1,World.size_alloc]
   have hst1:=H0.out.prot hB
   have hbD:(fun k=>D k∨(W.heap.size≤k∧k<W1.heap.size)) W.heap.size:=.inr ⟨Nat.le_refl _,by omega⟩
   have hkD1 : ¬(fun k=>D k∨(W.heap.size≤k∧k<W1.heap.size)) kb:=fun hd=>hd.elim HKD.out (fun hd=>by have:=H0.out.lt;omega)
   obtain ⟨D1,hD1⟩ : ∃D1,D1=(fun k=>D k∨(W.heap.size≤k∧k<W1.heap.size)):=⟨_,rfl⟩
   rw [← hD1] at hst1 hbD hkD1
   have HR1:=Lib.hid (show RowR repTestT D1 W1 A1 c1 x.attr from (H1.out.new_ hB).weaken (fun k hk=>by rw [hD1];exact .inl hk))
   have HR2:=Lib.hid (show RowR repTestT D1 W1 A2 c2 x.value from (H2.out.new_ hB).weaken (fun k hk=>by rw [hD1];exact .inl hk))
   have HDD:=Lib.hid (show ∀k,D k→D1 k from fun k hk=>by rw [hD1];exact .inl hk)
   have HFB:=Lib.hid (show Fr (fun j=>¬D j) W W1 from Fr.of_new hB)
   have HST:=Lib.hid hst1
   have HBD:=Lib.hid hbD
   have HK1:=Lib.hid hkD1
   have HBK:=Lib.hid hbk
   have hlo:=hbk.lt
   have e1:W1.cell? ⟨W.heap.size,1,none⟩=some (.bool x.goal):=(hbk.cell 1).trans rfl
   have e2:W1.cell? ⟨W.heap.size,2,none⟩=some (.string x.id):=(hbk.cell 2).trans rfl
   have e3:W1.cell? ⟨W.heap.size,3,none⟩=some (.slice A1 x.attr.length c1):=(hbk.cell 3).trans rfl
   have e4:W1.cell? ⟨W.heap.size,4,none⟩=some (.slice A2 x.value.length c2):=(hbk.cell 4).trans rfl
   clear hW1 hbk hB hsz hst1 hbD hkD1 hD1
   have g1:=H_g.out
   go_wp2_with fail
   cases hh:hasK (K) x.id
   · skip
     have hhx:=KSt.has_ x.id (HST.out) (by omega)
     rw [hh] at hhx
     refine hhx.mono ?_
     rintro e w5 ⟨rfl,hb5⟩
     have HST5:=Lib.hid ((HST.out).below (hb5))
     clear hhx hb5
     have HA:=Lib.hid (show oneK K x=(false,K) by unfold oneK;simp only [HG.out];simp [hh])
     clear hh
     go_wp2_with fail
     go_ret
     rw [HA.out]
     exact ⟨rfl,(HST5.out).unprot HFB.out HDD.out,by dsimp only;omega,by dsimp only;omega⟩
   · skip
     have hhx:=KSt.has_ x.id (HST.out) (by omega)
     rw [hh] at hhx
     refine hhx.mono ?_
     rintro e w5 ⟨rfl,hb5⟩
     have HST5:=Lib.hid ((HST.out).below (hb5))
     clear hhx hb5
     have hbk:=HBK.out.fr (HST5.out).fr_ (fun hn=>hn HBD.out)
     have hlo:=hbk.lt
     have hzw:W.heap.size≤w5.heap.size:=Nat.le_trans HFB.out.size (HST5.out).fr_.size
     have e2:w5.cell? ⟨W.heap.size,2,none⟩=some (.string x.id):=(hbk.cell 2).trans rfl
     have e3:w5.cell? ⟨W.heap.size,3,none⟩=some (.slice A1 x.attr.length c1):=(hbk.cell 3).trans rfl
     have e4:w5.cell? ⟨W.heap.size,4,none⟩=some (.slice A2 x.value.length c2):=(hbk.cell 4).trans rfl
     clear hbk
     obtain ⟨b2,k2,hf⟩ : ∃b k,fieldK (K) x.attr=(b,k):=⟨_,_,rfl⟩
     have hfa:=kfield_is x.attr (A:=A1) (c:=c1) (HST5.out.prot0) HK1.out (HR1.out.fr HST5.out.fr_ (fun k hk hn=>hn hk)) (by omega) (by omega)
     rw [hf] at hfa
     have HFA:=Lib.hid hfa
     clear hfa
     cases b2
     · skip
       have HA:=Lib.hid (show oneK K x=(false,k2) by unfold oneK;simp only [HG.out];simp [hh,hf])
       clear hh hf
       go_wp2_with fail
       refine HFA.out.mono ?_
       rintro e w6 ⟨rfl,hst6,hl6,hl7⟩
       have HST6:=Lib.hid (hst6.join HST5.out)
       clear hst6
       go_wp2_with fail
       go_ret
       rw [HA.out]
       exact ⟨rfl,(HST6.out).unprot HFB.out HDD.out,by dsimp only;omega,by dsimp only;omega⟩
     · skip
       obtain ⟨b3,k3,hf3⟩ : ∃b k,fieldK k2 x.value=(b,k):=⟨_,_,rfl⟩
       have HA:=Lib.hid (show oneK K x=(b3,k3) by unfold oneK;simp only [HG.out];simp [hh,hf,hf3])
       clear hh hf
       go_wp2_with fail
       refine HFA.out.mono ?_
       rintro e w6 ⟨rfl,hst6,hl6,hl7⟩
       have HST6:=Lib.hid (hst6.join HST5.out)
       clear hst6
       have hbk:=HBK.out.fr (HST6.out).fr_ (fun hn=>hn HBD.out)
       have hlo:=hbk.lt
       have hzw:W.heap.size≤w6.heap.size:=Nat.le_trans HFB.out.size (HST6.out).fr_.size
       have e2:w6.cell? ⟨W.heap.size,2,none⟩=some (.string x.id):=(hbk.cell 2).trans rfl
       have e3:w6.cell? ⟨W.heap.size,3,none⟩=some (.slice A1 x.attr.length c1):=(hbk.cell 3).trans rfl
       have e4:w6.cell? ⟨W.heap.size,4,none⟩=some (.slice A2 x.value.length c2):=(hbk.cell 4).trans rfl
       clear hbk
       have hfa:=kfield_is x.value (A:=A2) (c:=c2) (HST6.out.prot0) HK1.out (HR2.out.fr HST6.out.fr_ (fun k hk hn=>hn hk)) (by omega) (by omega)
       rw [hf3] at hfa
       have HFA:=Lib.hid hfa
       clear hfa hf3
       go_wp2_with fail
       refine HFA.out.mono ?_
       rintro e w7 ⟨rfl,hst7,hl8,hl9⟩
       have HST7:=Lib.hid (hst7.join HST6.out)
       clear hst7
       go_wp2_with fail
       go_ret
       rw [HA.out]
       exact ⟨rfl,(HST7.out).unprot HFB.out HDD.out,by dsimp only;omega,by dsimp only;omega⟩
end Go.Proofs.YtldndkngpdfpfaaGreat
namespace Go.Proofs.YtldndkngpdfpfaaGreat
open Go.RowKit Go.Shelf
set_option maxHeartbeats 1000000 in
theorem none_is (s:Sym) (w:World):Calls Tryz.prog 229 #[.agg #[.int .i64 s.kind,.string s.text,.int .i64 s.n]] w fun e w'=>e = .returned (.bool (noneB s))∧Below w.heap.size w w':=by
 have hq : ∀W:World,(binOp .eql 23 (.agg #[.int .i64 s.kind,.string s.text,.int .i64 s.n]) (.agg #[.int .i64 0,.string ⟨#[]⟩,.int .i64 0])).run Tryz.prog W = .ok (.bool (noneB s)) W:=fun W=>eql_sym s zS W
 go_enter Tryz.func229,Tryz.ntmps229
 go_wp2_with fail
 go_ret
 exact ⟨rfl,(Below.refl _ _).alloc (Nat.le_refl _) _⟩
theorem other_is (k:Int) (w:World):Calls Tryz.prog 196 #[.int .i64 k] w fun e w'=>e = .returned (.bool (otherB k))∧w=w':=by
 have HV:=Lib.hid (show otherB k=(k == 8 || k == 9 || k == 10) from rfl)
 go_enter Tryz.func196,Tryz.ntmps196
 go_wp2_with fail
 all_goals
  go_ret
  refine ⟨?_,rfl⟩
  rw [HV.out]
  refine ret_bool ?_
  simp_all
set_option maxRecDepth 100000 in
set_option maxHeartbeats 8000000 in
theorem constant_is (s:Sym) (w:World):Calls Tryz.prog 230 #[.agg #[.int .i64 s.kind,.string s.text,.int .i64 s.n]] w fun e w'=>e = .returned (.bool (constB s))∧Below w.heap.size w w':=by
 obtain ⟨r,hr⟩ : ∃r,r=constB s:=⟨_,rfl⟩
 rw [← hr]
 have HR:=Lib.hid hr
 clear hr
 have HB:=Lib.hid ((Below.refl w.heap.size w).alloc (Nat.le_refl _) (.cells #[.int .i64 s.kind,.string s.text,.int .i64 s.n] 23))
 go_enter Tryz.func230,Tryz.ntmps230
 obtain ⟨W1,hW1⟩ : ∃W1,W1=w.alloc (.cells #[.int .i64 s.kind,.string s.text,.int .i64 s.n] 23):=⟨_,rfl⟩
 go_wp2_with (first
  | (go_at_call 242;refine (valid_is s _).mono ?_;rintro e w9 ⟨rfl,hb9⟩;have HB:=Lib.hid (HB.out.trans (hb9.mono HB.out.size));clear hb9))
 all_goals
  go_ret
  refine ⟨?_,by (first | exact HB.out | (exact (Below.refl _ _).alloc (Nat.le_refl _) _) | (simpa using HB.out))⟩
  rw [HR.out]
  refine ret_bool ?_
  first | (simp_all [constB];done) | (simp_all [constB];rfl)
set_option maxRecDepth 100000 in
set_option maxHeartbeats 8000000 in
theorem empty_is (a:AtomT) (w:World):Calls Tryz.prog 197 #[.agg #[.string a.var,.int .i64 a.sym.kind,.string a.sym.text,.int .i64 a.sym.n]] w fun e w'=>e = .returned (.bool (emptyB a))∧Below w.heap.size w w':=by
 obtain ⟨r,hr⟩ : ∃r,r=emptyB a:=⟨_,rfl⟩
 rw [← hr]
 have HR:=Lib.hid hr
 clear hr
 have HB:=Lib.hid ((Below.refl w.heap.size w).alloc (Nat.le_refl _) (.cells #[.string a.var,.int .i64 a.sym.kind,.string a.sym.text,.int .i64 a.sym.n] 76))
 go_enter Tryz.func197,Tryz.ntmps197
 obtain ⟨W1,hW1⟩ : ∃W1,W1=w.alloc (.cells #[.string a.var,.int .i64 a.sym.kind,.string a.sym.text,.int .i64 a.sym.n] 76):=⟨_,rfl⟩
 go_wp2_with (first
  | (go_at_call 229;refine (none_is a.sym _).mono ?_;rintro e w9 ⟨rfl,hb9⟩;have HB:=Lib.hid (HB.out.trans (hb9.mono HB.out.size));clear hb9))
 all_goals
  go_ret
  refine ⟨?_,by (first | exact HB.out | (exact (Below.refl _ _).alloc (Nat.le_refl _) _) | (simpa using HB.out))⟩
  rw [HR.out]
  refine ret_bool ?_
  first | (simp_all [emptyB];done) | (simp_all [emptyB];rfl)
set_option maxRecDepth 100000 in
set_option maxHeartbeats 8000000 in
theorem wordA_is (a:AtomT) (w:World):Calls Tryz.prog 231 #[.agg #[.string a.var,.int .i64 a.sym.kind,.string a.sym.text,.int .i64 a.sym.n]] w fun e w'=>e = .returned (.bool (wordAB a))∧Below w.heap.size w w':=by
 obtain ⟨r,hr⟩ : ∃r,r=wordAB a:=⟨_,rfl⟩
 rw [← hr]
 have HR:=Lib.hid hr
 clear hr
 have HB:=Lib.hid ((Below.refl w.heap.size w).alloc (Nat.le_refl _) (.cells #[.string a.var,.int .i64 a.sym.kind,.string a.sym.text,.int .i64 a.sym.n] 76))
 go_enter Tryz.func231,Tryz.ntmps231
 obtain ⟨W1,hW1⟩ : ∃W1,W1=w.alloc (.cells #[.string a.var,.int .i64 a.sym.kind,.string a.sym.text,.int .i64 a.sym.n] 76):=⟨_,rfl⟩
 go_wp2_with (first
  | fail)
 all_goals
  go_ret
  refine ⟨?_,by (first | exact HB.out | (exact (Below.refl _ _).alloc (Nat.le_refl _) _) | (simpa using HB.out))⟩
  rw [HR.out]
  refine ret_bool ?_
  first | (simp_all [wordAB];done) | (simp_all [wordAB];rfl)
set_option maxRecDepth 100000 in
set_option maxHeartbeats 8000000 in
theorem atomS_is (a:AtomT) (w:World):Calls Tryz.prog 194 #[.agg #[.string a.var,.int .i64 a.sym.kind,.string a.sym.text,.int .i64 a.sym.n]] w fun e w'=>e = .returned (.bool (atomB a))∧Below w.heap.size w w':=by
 obtain ⟨r,hr⟩ : ∃r,r=atomB a:=⟨_,rfl⟩
 rw [← hr]
 have HR:=Lib.hid hr
 clear hr
 have HB:=Lib.hid ((Below.refl w.heap.size w).alloc (Nat.le_refl _) (.cells #[.string a.var,.int .i64 a.sym.kind,.string a.sym.text,.int .i64 a.sym.n] 76))
 go_enter Tryz.func194,Tryz.ntmps194
 obtain ⟨W1,hW1⟩ : ∃W1,W1=w.alloc (.cells #[.string a.var,.int .i64 a.sym.kind,.string a.sym.text,.int .i64 a.sym.n] 76):=⟨_,rfl⟩
 go_wp2_with (first
  | (go_at_call 229;refine (none_is a.sym _).mono ?_;rintro e w9 ⟨rfl,hb9⟩;have HB:=Lib.hid (HB.out.trans (hb9.mono HB.out.size));clear hb9)
  | (go_at_call 230;refine (constant_is a.sym _).mono ?_;rintro e w9 ⟨rfl,hb9⟩;have HB:=Lib.hid (HB.out.trans (hb9.mono HB.out.size));clear hb9)
  | (go_at_call 154;refine (word_is a.var _).mono ?_;rintro e w9 ⟨rfl,rfl⟩))
 all_goals
  go_ret
  refine ⟨?_,by (first | exact HB.out | (exact (Below.refl _ _).alloc (Nat.le_refl _) _) | (simpa using HB.out))⟩
  rw [HR.out]
  refine ret_bool ?_
  first | (simp_all [atomB];done) | (simp_all [atomB];rfl)
set_option maxRecDepth 100000 in
set_option maxHeartbeats 8000000 in
theorem term_is (t:TermT) (w:World):Calls Tryz.prog 195 #[.agg #[.int .i64 t.op,.string t.a.var,.int .i64 t.a.sym.kind,.string t.a.sym.text,.int .i64 t.a.sym.n,.string t.b.var,.int .i64 t.b.sym.kind,.string t.b.sym.text,.int .i64 t.b.sym.n]] w fun e w'=>e = .returned (.bool (termB t))∧Below w.heap.size w w':=by
 by_cases c0:t.op<0
 · have t0:decide (t.op<0)=true:=by simp [*]
   have HR:=Lib.hid (show termB t=false by simp [termB, *])
   clear c0
   go_enter Tryz.func195,Tryz.ntmps195
   go_upto_region 1 with fail
   obtain ⟨W1,hW1⟩ : ∃W1,W1=w.alloc (.cells #[.int .i64 t.op,.string t.a.var,.int .i64 t.a.sym.kind,.string t.a.sym.text,.int .i64 t.a.sym.n,.string t.b.var,.int .i64 t.b.sym.kind,.string t.b.sym.text,.int .i64 t.b.sym.n] 78):=⟨_,rfl⟩
   rw [← hW1]
   have hBk:Blk W1 w.heap.size 78 #[.int .i64 t.op,.string t.a.var,.int .i64 t.a.sym.kind,.string t.a.sym.text,.int .i64 t.a.sym.n,.string t.b.var,.int .i64 t.b.sym.kind,.string t.b.sym.text,.int .i64 t.b.sym.n]:=by rw [hW1];exact Blk.new _ _ _
   have HB:=Lib.hid (show Below w.heap.size w W1 by rw [hW1];exact (Below.refl _ _).alloc (Nat.le_refl _) _)
   have e0:W1.cell? ⟨w.heap.size,0,none⟩=some (.int .i64 t.op):=(hBk.cell 0).trans rfl
   have e1:W1.cell? ⟨w.heap.size,1,none⟩=some (.string t.a.var):=(hBk.cell 1).trans rfl
   have e2:W1.cell? ⟨w.heap.size,2,none⟩=some (.int .i64 t.a.sym.kind):=(hBk.cell 2).trans rfl
   have e3:W1.cell? ⟨w.heap.size,3,none⟩=some (.string t.a.sym.text):=(hBk.cell 3).trans rfl
   have e4:W1.cell? ⟨w.heap.size,4,none⟩=some (.int .i64 t.a.sym.n):=(hBk.cell 4).trans rfl
   have e5:W1.cell? ⟨w.heap.size,5,none⟩=some (.string t.b.var):=(hBk.cell 5).trans rfl
   have e6:W1.cell? ⟨w.heap.size,6,none⟩=some (.int .i64 t.b.sym.kind):=(hBk.cell 6).trans rfl
   have e7:W1.cell? ⟨w.heap.size,7,none⟩=some (.string t.b.sym.text):=(hBk.cell 7).trans rfl
   have e8:W1.cell? ⟨w.heap.size,8,none⟩=some (.int .i64 t.b.sym.n):=(hBk.cell 8).trans rfl
   have hbl:=hBk.lt
   clear hW1 hBk
   go_wp2_with (first
    | (go_at_call 197;refine (empty_is t.b _).mono ?_;rintro e w9 ⟨rfl,hb9⟩;have HB:=Lib.hid (HB.out.trans (hb9.mono HB.out.size));replace e0:=(hb9.cell (p:=⟨w.heap.size,0,none⟩) hbl).trans e0;replace e1:=(hb9.cell (p:=⟨w.heap.size,1,none⟩) hbl).trans e1;replace e2:=(hb9.cell (p:=⟨w.heap.size,2,none⟩) hbl).trans e2;replace e3:=(hb9.cell (p:=⟨w.heap.size,3,none⟩) hbl).trans e3;replace e4:=(hb9.cell (p:=⟨w.heap.size,4,none⟩) hbl).trans e4;replace e5:=(hb9.cell (p:=⟨w.heap.size,5,none⟩) hbl).trans e5;replace e6:=(hb9.cell (p:=⟨w.heap.size,6,none⟩) hbl).trans e6;replace e7:=(hb9.cell (p:=⟨w.heap.size,7,none⟩) hbl).trans e7;replace e8:=(hb9.cell (p:=⟨w.heap.size,8,none⟩) hbl).trans e8;replace hbl:=Nat.lt_of_lt_of_le hbl hb9.size;clear hb9)
    | (go_at_call 194;(first | (with_reducible refine (atomS_is t.a _).mono ?_) | (with_reducible refine (atomS_is t.b _).mono ?_));rintro e w9 ⟨rfl,hb9⟩;have HB:=Lib.hid (HB.out.trans (hb9.mono HB.out.size));replace e0:=(hb9.cell (p:=⟨w.heap.size,0,none⟩) hbl).trans e0;replace e1:=(hb9.cell (p:=⟨w.heap.size,1,none⟩) hbl).trans e1;replace e2:=(hb9.cell (p:=⟨w.heap.size,2,none⟩) hbl).trans e2;replace e3:=(hb9.cell (p:=⟨w.heap.size,3,none⟩) hbl).trans e3;replace e4:=(hb9.cell (p:=⟨w.heap.size,4,none⟩) hbl).trans e4;replace e5:=(hb9.cell (p:=⟨w.heap.size,5,none⟩) hbl).trans e5;replace e6:=(hb9.cell (p:=⟨w.heap.size,6,none⟩) hbl).trans e6;replace e7:=(hb9.cell (p:=⟨w.heap.size,7,none⟩) hbl).trans e7;replace e8:=(hb9.cell (p:=⟨w.heap.size,8,none⟩) hbl).trans e8;replace hbl:=Nat.lt_of_lt_of_le hbl hb9.size;clear hb9)
    | (go_at_call 231;(first | (with_reducible refine (wordA_is t.a _).mono ?_) | (with_reducible refine (wordA_is t.b _).mono ?_));rintro e w9 ⟨rfl,hb9⟩;have HB:=Lib.hid (HB.out.trans (hb9.mono HB.out.size));replace e0:=(hb9.cell (p:=⟨w.heap.size,0,none⟩) hbl).trans e0;replace e1:=(hb9.cell (p:=⟨w.heap.size,1,none⟩) hbl).trans e1;replace e2:=(hb9.cell (p:=⟨w.heap.size,2,none⟩) hbl).trans e2;replace e3:=(hb9.cell (p:=⟨w.heap.size,3,none⟩) hbl).trans e3;replace e4:=(hb9.cell (p:=⟨w.heap.size,4,none⟩) hbl).trans e4;replace e5:=(hb9.cell (p:=⟨w.heap.size,5,none⟩) hbl).trans e5;replace e6:=(hb9.cell (p:=⟨w.heap.size,6,none⟩) hbl).trans e6;replace e7:=(hb9.cell (p:=⟨w.heap.size,7,none⟩) hbl).trans e7;replace e8:=(hb9.cell (p:=⟨w.heap.size,8,none⟩) hbl).trans e8;replace hbl:=Nat.lt_of_lt_of_le hbl hb9.size;clear hb9))
   go_ret
   exact ⟨by rw [HR.out]<;>rfl,by (first | exact HB.out | (exact (Below.refl _ _).alloc (Nat.le_refl _) _) | (simpa using HB.out))⟩
 by_cases c1:3<t.op
 · have t0:decide (t.op<0)=false:=by simp;omega
   have t1:decide (3<t.op)=true:=by simp [*]
   have HR:=Lib.hid (show termB t=false by simp [termB, *])
   clear c0 c1
   go_enter Tryz.func195,Tryz.ntmps195
   go_upto_region 1 with fail
   obtain ⟨W1,hW1⟩ : ∃W1,W1=w.alloc (.cells #[.int .i64 t.op,.string t.a.var,.int .i64 t.a.sym.kind,.string t.a.sym.text,.int .i64 t.a.sym.n,.string t.b.var,.int .i64 t.b.sym.kind,.string t.b.sym.text,.int .i64 t.b.sym.n] 78):=⟨_,rfl⟩
   rw [← hW1]
   have hBk:Blk W1 w.heap.size 78 #[.int .i64 t.op,.string t.a.var,.int .i64 t.a.sym.kind,.string t.a.sym.text,.int .i64 t.a.sym.n,.string t.b.var,.int .i64 t.b.sym.kind,.string t.b.sym.text,.int .i64 t.b.sym.n]:=by rw [hW1];exact Blk.new _ _ _
   have HB:=Lib.hid (show Below w.heap.size w W1 by rw [hW1];exact (Below.refl _ _).alloc (Nat.le_refl _) _)
   have e0:W1.cell? ⟨w.heap.size,0,none⟩=some (.int .i64 t.op):=(hBk.cell 0).trans rfl
   have e1:W1.cell? ⟨w.heap.size,1,none⟩=some (.string t.a.var):=(hBk.cell 1).trans rfl
   have e2:W1.cell? ⟨w.heap.size,2,none⟩=some (.int .i64 t.a.sym.kind):=(hBk.cell 2).trans rfl
   have e3:W1.cell? ⟨w.heap.size,3,none⟩=some (.string t.a.sym.text):=(hBk.cell 3).trans rfl
   have e4:W1.cell? ⟨w.heap.size,4,none⟩=some (.int .i64 t.a.sym.n):=(hBk.cell 4).trans rfl
   have e5:W1.cell? ⟨w.heap.size,5,none⟩=some (.string t.b.var):=(hBk.cell 5).trans rfl
   have e6:W1.cell? ⟨w.heap.size,6,none⟩=some (.int .i64 t.b.sym.kind):=(hBk.cell 6).trans rfl
   have e7:W1.cell? ⟨w.heap.size,7,none⟩=some (.string t.b.sym.text):=(hBk.cell 7).trans rfl
   have e8:W1.cell? ⟨w.heap.size,8,none⟩=some (.int .i64 t.b.sym.n):=(hBk.cell 8).trans rfl
   have hbl:=hBk.lt
   clear hW1 hBk
   go_wp2_with (first
    | (go_at_call 197;refine (empty_is t.b _).mono ?_;rintro e w9 ⟨rfl,hb9⟩;have HB:=Lib.hid (HB.out.trans (hb9.mono HB.out.size));replace e0:=(hb9.cell (p:=⟨w.heap.size,0,none⟩) hbl).trans e0;replace e1:=(hb9.cell (p:=⟨w.heap.size,1,none⟩) hbl).trans e1;replace e2:=(hb9.cell (p:=⟨w.heap.size,2,none⟩) hbl).trans e2;replace e3:=(hb9.cell (p:=⟨w.heap.size,3,none⟩) hbl).trans e3;replace e4:=(hb9.cell (p:=⟨w.heap.size,4,none⟩) hbl).trans e4;replace e5:=(hb9.cell (p:=⟨w.heap.size,5,none⟩) hbl).trans e5;replace e6:=(hb9.cell (p:=⟨w.heap.size,6,none⟩) hbl).trans e6;replace e7:=(hb9.cell (p:=⟨w.heap.size,7,none⟩) hbl).trans e7;replace e8:=(hb9.cell (p:=⟨w.heap.size,8,none⟩) hbl).trans e8;replace hbl:=Nat.lt_of_lt_of_le hbl hb9.size;clear hb9)
    | (go_at_call 194;(first | (with_reducible refine (atomS_is t.a _).mono ?_) | (with_reducible refine (atomS_is t.b _).mono ?_));rintro e w9 ⟨rfl,hb9⟩;have HB:=Lib.hid (HB.out.trans (hb9.mono HB.out.size));replace e0:=(hb9.cell (p:=⟨w.heap.size,0,none⟩) hbl).trans e0;replace e1:=(hb9.cell (p:=⟨w.heap.size,1,none⟩) hbl).trans e1;replace e2:=(hb9.cell (p:=⟨w.heap.size,2,none⟩) hbl).trans e2;replace e3:=(hb9.cell (p:=⟨w.heap.size,3,none⟩) hbl).trans e3;replace e4:=(hb9.cell (p:=⟨w.heap.size,4,none⟩) hbl).trans e4;replace e5:=(hb9.cell (p:=⟨w.heap.size,5,none⟩) hbl).trans e5;replace e6:=(hb9.cell (p:=⟨w.heap.size,6,none⟩) hbl).trans e6;replace e7:=(hb9.cell (p:=⟨w.heap.size,7,none⟩) hbl).trans e7;replace e8:=(hb9.cell (p:=⟨w.heap.size,8,none⟩) hbl).trans e8;replace hbl:=Nat.lt_of_lt_of_le hbl hb9.size;clear hb9)
    | (go_at_call 231;(first | (with_reducible refine (wordA_is t.a _).mono ?_) | (with_reducible refine (wordA_is t.b _).mono ?_));rintro e w9 ⟨rfl,hb9⟩;have HB:=Lib.hid (HB.out.trans (hb9.mono HB.out.size));replace e0:=(hb9.cell (p:=⟨w.heap.size,0,none⟩) hbl).trans e0;replace e1:=(hb9.cell (p:=⟨w.heap.size,1,none⟩) hbl).trans e1;replace e2:=(hb9.cell (p:=⟨w.heap.size,2,none⟩) hbl).trans e2;replace e3:=(hb9.cell (p:=⟨w.heap.size,3,none⟩) hbl).trans e3;replace e4:=(hb9.cell (p:=⟨w.heap.size,4,none⟩) hbl).trans e4;replace e5:=(hb9.cell (p:=⟨w.heap.size,5,none⟩) hbl).trans e5;replace e6:=(hb9.cell (p:=⟨w.heap.size,6,none⟩) hbl).trans e6;replace e7:=(hb9.cell (p:=⟨w.heap.size,7,none⟩) hbl).trans e7;replace e8:=(hb9.cell (p:=⟨w.heap.size,8,none⟩) hbl).trans e8;replace hbl:=Nat.lt_of_lt_of_le hbl hb9.size;clear hb9))
   go_ret
   exact ⟨by rw [HR.out]<;>rfl,by (first | exact HB.out | (exact (Below.refl _ _).alloc (Nat.le_refl _) _) | (simpa using HB.out))⟩
 by_cases c2:atomB t.a=false
 · have t0:decide (t.op<0)=false:=by simp;omega
   have t1:decide (3<t.op)=false:=by simp;omega
   have t2:=c2
   have HR:=Lib.hid (show termB t=false by simp [termB, *])
   clear c0 c1 c2
   go_enter Tryz.func195,Tryz.ntmps195
   go_upto_region 1 with fail
   obtain ⟨W1,hW1⟩ : ∃W1,W1=w.alloc (.cells #[.int .i64 t.op,.string t.a.var,.int .i64 t.a.sym.kind,.string t.a.sym.text,.int .i64 t.a.sym.n,.string t.b.var,.int .i64 t.b.sym.kind,.string t.b.sym.text,.int .i64 t.b.sym.n] 78):=⟨_,rfl⟩
   rw [← hW1]
   have hBk:Blk W1 w.heap.size 78 #[.int .i64 t.op,.string t.a.var,.int .i64 t.a.sym.kind,.string t.a.sym.text,.int .i64 t.a.sym.n,.string t.b.var,.int .i64 t.b.sym.kind,.string t.b.sym.text,.int .i64 t.b.sym.n]:=by rw [hW1];exact Blk.new _ _ _
   have HB:=Lib.hid (show Below w.heap.size w W1 by rw [hW1];exact (Below.refl _ _).alloc (Nat.le_refl _) _)
   have e0:W1.cell? ⟨w.heap.size,0,none⟩=some (.int .i64 t.op):=(hBk.cell 0).trans rfl
   have e1:W1.cell? ⟨w.heap.size,1,none⟩=some (.string t.a.var):=(hBk.cell 1).trans rfl
   have e2:W1.cell? ⟨w.heap.size,2,none⟩=some (.int .i64 t.a.sym.kind):=(hBk.cell 2).trans rfl
   have e3:W1.cell? ⟨w.heap.size,3,none⟩=some (.string t.a.sym.text):=(hBk.cell 3).trans rfl
   have e4:W1.cell? ⟨w.heap.size,4,none⟩=some (.int .i64 t.a.sym.n):=(hBk.cell 4).trans rfl
   have e5:W1.cell? ⟨w.heap.size,5,none⟩=some (.string t.b.var):=(hBk.cell 5).trans rfl
   have e6:W1.cell? ⟨w.heap.size,6,none⟩=some (.int .i64 t.b.sym.kind):=(hBk.cell 6).trans rfl
   have e7:W1.cell? ⟨w.heap.size,7,none⟩=some (.string t.b.sym.text):=(hBk.cell 7).trans rfl
   have e8:W1.cell? ⟨w.heap.size,8,none⟩=some (.int .i64 t.b.sym.n):=(hBk.cell 8).trans rfl
   have hbl:=hBk.lt
   clear hW1 hBk
   go_wp2_with (first
    | (go_at_call 197;refine (empty_is t.b _).mono ?_;rintro e w9 ⟨rfl,hb9⟩;have HB:=Lib.hid (HB.out.trans (hb9.mono HB.out.size));replace e0:=(hb9.cell (p:=⟨w.heap.size,0,none⟩) hbl).trans e0;replace e1:=(hb9.cell (p:=⟨w.heap.size,1,none⟩) hbl).trans e1;replace e2:=(hb9.cell (p:=⟨w.heap.size,2,none⟩) hbl).trans e2;replace e3:=(hb9.cell (p:=⟨w.heap.size,3,none⟩) hbl).trans e3;replace e4:=(hb9.cell (p:=⟨w.heap.size,4,none⟩) hbl).trans e4;replace e5:=(hb9.cell (p:=⟨w.heap.size,5,none⟩) hbl).trans e5;replace e6:=(hb9.cell (p:=⟨w.heap.size,6,none⟩) hbl).trans e6;replace e7:=(hb9.cell (p:=⟨w.heap.size,7,none⟩) hbl).trans e7;replace e8:=(hb9.cell (p:=⟨w.heap.size,8,none⟩) hbl).trans e8;replace hbl:=Nat.lt_of_lt_of_le hbl hb9.size;clear hb9)
    | (go_at_call 194;(first | (with_reducible refine (atomS_is t.a _).mono ?_) | (with_reducible refine (atomS_is t.b _).mono ?_));rintro e w9 ⟨rfl,hb9⟩;have HB:=Lib.hid (HB.out.trans (hb9.mono HB.out.size));replace e0:=(hb9.cell (p:=⟨w.heap.size,0,none⟩) hbl).trans e0;replace e1:=(hb9.cell (p:=⟨w.heap.size,1,none⟩) hbl).trans e1;replace e2:=(hb9.cell (p:=⟨w.heap.size,2,none⟩) hbl).trans e2;replace e3:=(hb9.cell (p:=⟨w.heap.size,3,none⟩) hbl).trans e3;replace e4:=(hb9.cell (p:=⟨w.heap.size,4,none⟩) hbl).trans e4;replace e5:=(hb9.cell (p:=⟨w.heap.size,5,none⟩) hbl).trans e5;replace e6:=(hb9.cell (p:=⟨w.heap.size,6,none⟩) hbl).trans e6;replace e7:=(hb9.cell (p:=⟨w.heap.size,7,none⟩) hbl).trans e7;replace e8:=(hb9.cell (p:=⟨w.heap.size,8,none⟩) hbl).trans e8;replace hbl:=Nat.lt_of_lt_of_le hbl hb9.size;clear hb9)
    | (go_at_call 231;(first | (with_reducible refine (wordA_is t.a _).mono ?_) | (with_reducible refine (wordA_is t.b _).mono ?_));rintro e w9 ⟨rfl,hb9⟩;have HB:=Lib.hid (HB.out.trans (hb9.mono HB.out.size));replace e0:=(hb9.cell (p:=⟨w.heap.size,0,none⟩) hbl).trans e0;replace e1:=(hb9.cell (p:=⟨w.heap.size,1,none⟩) hbl).trans e1;replace e2:=(hb9.cell (p:=⟨w.heap.size,2,none⟩) hbl).trans e2;replace e3:=(hb9.cell (p:=⟨w.heap.size,3,none⟩) hbl).trans e3;replace e4:=(hb9.cell (p:=⟨w.heap.size,4,none⟩) hbl).trans e4;replace e5:=(hb9.cell (p:=⟨w.heap.size,5,none⟩) hbl).trans e5;replace e6:=(hb9.cell (p:=⟨w.heap.size,6,none⟩) hbl).trans e6;replace e7:=(hb9.cell (p:=⟨w.heap.size,7,none⟩) hbl).trans e7;replace e8:=(hb9.cell (p:=⟨w.heap.size,8,none⟩) hbl).trans e8;replace hbl:=Nat.lt_of_lt_of_le hbl hb9.size;clear hb9))
   go_ret
   exact ⟨by rw [HR.out]<;>rfl,by (first | exact HB.out | (exact (Below.refl _ _).alloc (Nat.le_refl _) _) | (simpa using HB.out))⟩
 by_cases c3:t.op=0
 · have t0:decide (t.op<0)=false:=by simp;omega
   have t1:decide (3<t.op)=false:=by simp;omega
   have t2:atomB t.a=true:=by simpa using c2
   have t3:decide (t.op=0)=true:=by simp [*]
   have t3b:(t.op == 0)=true:=by simp [*]
   have HR:=Lib.hid (show termB t=emptyB t.b by simp [termB, *])
   clear c0 c1 c2 c3
   go_enter Tryz.func195,Tryz.ntmps195
   go_upto_region 1 with fail
   obtain ⟨W1,hW1⟩ : ∃W1,W1=w.alloc (.cells #[.int .i64 t.op,.string t.a.var,.int .i64 t.a.sym.kind,.string t.a.sym.text,.int .i64 t.a.sym.n,.string t.b.var,.int .i64 t.b.sym.kind,.string t.b.sym.text,.int .i64 t.b.sym.n] 78):=⟨_,rfl⟩
   rw [← hW1]
   have hBk:Blk W1 w.heap.size 78 #[.int .i64 t.op,.string t.a.var,.int .i64 t.a.sym.kind,.string t.a.sym.text,.int .i64 t.a.sym.n,.string t.b.var,.int .i64 t.b.sym.kind,.string t.b.sym.text,.int .i64 t.b.sym.n]:=by rw [hW1];exact Blk.new _ _ _
   have HB:=Lib.hid (show Below w.heap.size w W1 by rw [hW1];exact (Below.refl _ _).alloc (Nat.le_refl _) _)
   have e0:W1.cell? ⟨w.heap.size,0,none⟩=some (.int .i64 t.op):=(hBk.cell 0).trans rfl
   have e1:W1.cell? ⟨w.heap.size,1,none⟩=some (.string t.a.var):=(hBk.cell 1).trans rfl
   have e2:W1.cell? ⟨w.heap.size,2,none⟩=some (.int .i64 t.a.sym.kind):=(hBk.cell 2).trans rfl
   have e3:W1.cell? ⟨w.heap.size,3,none⟩=some (.string t.a.sym.text):=(hBk.cell 3).trans rfl
   have e4:W1.cell? ⟨w.heap.size,4,none⟩=some (.int .i64 t.a.sym.n):=(hBk.cell 4).trans rfl
   have e5:W1.cell? ⟨w.heap.size,5,none⟩=some (.string t.b.var):=(hBk.cell 5).trans rfl
   have e6:W1.cell? ⟨w.heap.size,6,none⟩=some (.int .i64 t.b.sym.kind):=(hBk.cell 6).trans rfl
   have e7:W1.cell? ⟨w.heap.size,7,none⟩=some (.string t.b.sym.text):=(hBk.cell 7).trans rfl
   have e8:W1.cell? ⟨w.heap.size,8,none⟩=some (.int .i64 t.b.sym.n):=(hBk.cell 8).trans rfl
   have hbl:=hBk.lt
   clear hW1 hBk
   go_wp2_with (first
    | (go_at_call 197;refine (empty_is t.b _).mono ?_;rintro e w9 ⟨rfl,hb9⟩;have HB:=Lib.hid (HB.out.trans (hb9.mono HB.out.size));replace e0:=(hb9.cell (p:=⟨w.heap.size,0,none⟩) hbl).trans e0;replace e1:=(hb9.cell (p:=⟨w.heap.size,1,none⟩) hbl).trans e1;replace e2:=(hb9.cell (p:=⟨w.heap.size,2,none⟩) hbl).trans e2;replace e3:=(hb9.cell (p:=⟨w.heap.size,3,none⟩) hbl).trans e3;replace e4:=(hb9.cell (p:=⟨w.heap.size,4,none⟩) hbl).trans e4;replace e5:=(hb9.cell (p:=⟨w.heap.size,5,none⟩) hbl).trans e5;replace e6:=(hb9.cell (p:=⟨w.heap.size,6,none⟩) hbl).trans e6;replace e7:=(hb9.cell (p:=⟨w.heap.size,7,none⟩) hbl).trans e7;replace e8:=(hb9.cell (p:=⟨w.heap.size,8,none⟩) hbl).trans e8;replace hbl:=Nat.lt_of_lt_of_le hbl hb9.size;clear hb9)
    | (go_at_call 194;(first | (with_reducible refine (atomS_is t.a _).mono ?_) | (with_reducible refine (atomS_is t.b _).mono ?_));rintro e w9 ⟨rfl,hb9⟩;have HB:=Lib.hid (HB.out.trans (hb9.mono HB.out.size));replace e0:=(hb9.cell (p:=⟨w.heap.size,0,none⟩) hbl).trans e0;replace e1:=(hb9.cell (p:=⟨w.heap.size,1,none⟩) hbl).trans e1;replace e2:=(hb9.cell (p:=⟨w.heap.size,2,none⟩) hbl).trans e2;replace e3:=(hb9.cell (p:=⟨w.heap.size,3,none⟩) hbl).trans e3;replace e4:=(hb9.cell (p:=⟨w.heap.size,4,none⟩) hbl).trans e4;replace e5:=(hb9.cell (p:=⟨w.heap.size,5,none⟩) hbl).trans e5;replace e6:=(hb9.cell (p:=⟨w.heap.size,6,none⟩) hbl).trans e6;replace e7:=(hb9.cell (p:=⟨w.heap.size,7,none⟩) hbl).trans e7;replace e8:=(hb9.cell (p:=⟨w.heap.size,8,none⟩) hbl).trans e8;replace hbl:=Nat.lt_of_lt_of_le hbl hb9.size;clear hb9)
    | (go_at_call 231;(first | (with_reducible refine (wordA_is t.a _).mono ?_) | (with_reducible refine (wordA_is t.b _).mono ?_));rintro e w9 ⟨rfl,hb9⟩;have HB:=Lib.hid (HB.out.trans (hb9.mono HB.out.size));replace e0:=(hb9.cell (p:=⟨w.heap.size,0,none⟩) hbl).trans e0;replace e1:=(hb9.cell (p:=⟨w.heap.size,1,none⟩) hbl).trans e1;replace e2:=(hb9.cell (p:=⟨w.heap.size,2,none⟩) hbl).trans e2;replace e3:=(hb9.cell (p:=⟨w.heap.size,3,none⟩) hbl).trans e3;replace e4:=(hb9.cell (p:=⟨w.heap.size,4,none⟩) hbl).trans e4;replace e5:=(hb9.cell (p:=⟨w.heap.size,5,none⟩) hbl).trans e5;replace e6:=(hb9.cell (p:=⟨w.heap.size,6,none⟩) hbl).trans e6;replace e7:=(hb9.cell (p:=⟨w.heap.size,7,none⟩) hbl).trans e7;replace e8:=(hb9.cell (p:=⟨w.heap.size,8,none⟩) hbl).trans e8;replace hbl:=Nat.lt_of_lt_of_le hbl hb9.size;clear hb9))
   go_ret
   exact ⟨by rw [HR.out]<;>rfl,by (first | exact HB.out | (exact (Below.refl _ _).alloc (Nat.le_refl _) _) | (simpa using HB.out))⟩
 by_cases c4:atomB t.b=false
 · have t0:decide (t.op<0)=false:=by simp;omega
   have t1:decide (3<t.op)=false:=by simp;omega
   have t2:atomB t.a=true:=by simpa using c2
   have t3:decide (t.op=0)=false:=by simp [*]
   have t3b:(t.op == 0)=false:=by simp [*]
   have t4:=c4
   have HR:=Lib.hid (show termB t=false by simp [termB, *])
   clear c0 c1 c2 c3 c4
   go_enter Tryz.func195,Tryz.ntmps195
   go_upto_region 1 with fail
   obtain ⟨W1,hW1⟩ : ∃W1,W1=w.alloc (.cells #[.int .i64 t.op,.string t.a.var,.int .i64 t.a.sym.kind,.string t.a.sym.text,.int .i64 t.a.sym.n,.string t.b.var,.int .i64 t.b.sym.kind,.string t.b.sym.text,.int .i64 t.b.sym.n] 78):=⟨_,rfl⟩
   rw [← hW1]
   have hBk:Blk W1 w.heap.size 78 #[.int .i64 t.op,.string t.a.var,.int .i64 t.a.sym.kind,.string t.a.sym.text,.int .i64 t.a.sym.n,.string t.b.var,.int .i64 t.b.sym.kind,.string t.b.sym.text,.int .i64 t.b.sym.n]:=by rw [hW1];exact Blk.new _ _ _
   have HB:=Lib.hid (show Below w.heap.size w W1 by rw [hW1];exact (Below.refl _ _).alloc (Nat.le_refl _) _)
   have e0:W1.cell? ⟨w.heap.size,0,none⟩=some (.int .i64 t.op):=(hBk.cell 0).trans rfl
   have e1:W1.cell? ⟨w.heap.size,1,none⟩=some (.string t.a.var):=(hBk.cell 1).trans rfl
   have e2:W1.cell? ⟨w.heap.size,2,none⟩=some (.int .i64 t.a.sym.kind):=(hBk.cell 2).trans rfl
   have e3:W1.cell? ⟨w.heap.size,3,none⟩=some (.string t.a.sym.text):=(hBk.cell 3).trans rfl
   have e4:W1.cell? ⟨w.heap.size,4,none⟩=some (.int .i64 t.a.sym.n):=(hBk.cell 4).trans rfl
   have e5:W1.cell? ⟨w.heap.size,5,none⟩=some (.string t.b.var):=(hBk.cell 5).trans rfl
   have e6:W1.cell? ⟨w.heap.size,6,none⟩=some (.int .i64 t.b.sym.kind):=(hBk.cell 6).trans rfl
   have e7:W1.cell? ⟨w.heap.size,7,none⟩=some (.string t.b.sym.text):=(hBk.cell 7).trans rfl
   have e8:W1.cell? ⟨w.heap.size,8,none⟩=some (.int .i64 t.b.sym.n):=(hBk.cell 8).trans rfl
   have hbl:=hBk.lt
   clear hW1 hBk
   go_wp2_with (first
    | (go_at_call 197;refine (empty_is t.b _).mono ?_;rintro e w9 ⟨rfl,hb9⟩;have HB:=Lib.hid (HB.out.trans (hb9.mono HB.out.size));replace e0:=(hb9.cell (p:=⟨w.heap.size,0,none⟩) hbl).trans e0;replace e1:=(hb9.cell (p:=⟨w.heap.size,1,none⟩) hbl).trans e1;replace e2:=(hb9.cell (p:=⟨w.heap.size,2,none⟩) hbl).trans e2;replace e3:=(hb9.cell (p:=⟨w.heap.size,3,none⟩) hbl).trans e3;replace e4:=(hb9.cell (p:=⟨w.heap.size,4,none⟩) hbl).trans e4;replace e5:=(hb9.cell (p:=⟨w.heap.size,5,none⟩) hbl).trans e5;replace e6:=(hb9.cell (p:=⟨w.heap.size,6,none⟩) hbl).trans e6;replace e7:=(hb9.cell (p:=⟨w.heap.size,7,none⟩) hbl).trans e7;replace e8:=(hb9.cell (p:=⟨w.heap.size,8,none⟩) hbl).trans e8;replace hbl:=Nat.lt_of_lt_of_le hbl hb9.size;clear hb9)
    | (go_at_call 194;(first | (with_reducible refine (atomS_is t.a _).mono ?_) | (with_reducible refine (atomS_is t.b _).mono ?_));rintro e w9 ⟨rfl,hb9⟩;have HB:=Lib.hid (HB.out.trans (hb9.mono HB.out.size));replace e0:=(hb9.cell (p:=⟨w.heap.size,0,none⟩) hbl).trans e0;replace e1:=(hb9.cell (p:=⟨w.heap.size,1,none⟩) hbl).trans e1;replace e2:=(hb9.cell (p:=⟨w.heap.size,2,none⟩) hbl).trans e2;replace e3:=(hb9.cell (p:=⟨w.heap.size,3,none⟩) hbl).trans e3;replace e4:=(hb9.cell (p:=⟨w.heap.size,4,none⟩) hbl).trans e4;replace e5:=(hb9.cell (p:=⟨w.heap.size,5,none⟩) hbl).trans e5;replace e6:=(hb9.cell (p:=⟨w.heap.size,6,none⟩) hbl).trans e6;replace e7:=(hb9.cell (p:=⟨w.heap.size,7,none⟩) hbl).trans e7;replace e8:=(hb9.cell (p:=⟨w.heap.size,8,none⟩) hbl).trans e8;replace hbl:=Nat.lt_of_lt_of_le hbl hb9.size;clear hb9)
    | (go_at_call 231;(first | (with_reducible refine (wordA_is t.a _).mono ?_) | (with_reducible refine (wordA_is t.b _).mono ?_));rintro e w9 ⟨rfl,hb9⟩;have HB:=Lib.hid (HB.out.trans (hb9.mono HB.out.size));replace e0:=(hb9.cell (p:=⟨w.heap.size,0,none⟩) hbl).trans e0;replace e1:=(hb9.cell (p:=⟨w.heap.size,1,none⟩) hbl).trans e1;replace e2:=(hb9.cell (p:=⟨w.heap.size,2,none⟩) hbl).trans e2;replace e3:=(hb9.cell (p:=⟨w.heap.size,3,none⟩) hbl).trans e3;replace e4:=(hb9.cell (p:=⟨w.heap.size,4,none⟩) hbl).trans e4;replace e5:=(hb9.cell (p:=⟨w.heap.size,5,none⟩) hbl).trans e5;replace e6:=(hb9.cell (p:=⟨w.heap.size,6,none⟩) hbl).trans e6;replace e7:=(hb9.cell (p:=⟨w.heap.size,7,none⟩) hbl).trans e7;replace e8:=(hb9.cell (p:=⟨w.heap.size,8,none⟩) hbl).trans e8;replace hbl:=Nat.lt_of_lt_of_le hbl hb9.size;clear hb9))
   go_ret
   exact ⟨by rw [HR.out]<;>rfl,by (first | exact HB.out | (exact (Below.refl _ _).alloc (Nat.le_refl _) _) | (simpa using HB.out))⟩
 by_cases c5:wordAB t.a=true
 · have t0:decide (t.op<0)=false:=by simp;omega
   have t1:decide (3<t.op)=false:=by simp;omega
   have t2:atomB t.a=true:=by simpa using c2
   have t3:decide (t.op=0)=false:=by simp [*]
   have t3b:(t.op == 0)=false:=by simp [*]
   have t4:atomB t.b=true:=by simpa using c4
   have t5:=c5
   have HR:=Lib.hid (show termB t=false by simp [termB, *])
   clear c0 c1 c2 c3 c4 c5
   go_enter Tryz.func195,Tryz.ntmps195
   go_upto_region 1 with fail
   obtain ⟨W1,hW1⟩ : ∃W1,W1=w.alloc (.cells #[.int .i64 t.op,.string t.a.var,.int .i64 t.a.sym.kind,.string t.a.sym.text,.int .i64 t.a.sym.n,.string t.b.var,.int .i64 t.b.sym.kind,.string t.b.sym.text,.int .i64 t.b.sym.n] 78):=⟨_,rfl⟩
   rw [← hW1]
   have hBk:Blk W1 w.heap.size 78 #[.int .i64 t.op,.string t.a.var,.int .i64 t.a.sym.kind,.string t.a.sym.text,.int .i64 t.a.sym.n,.string t.b.var,.int .i64 t.b.sym.kind,.string t.b.sym.text,.int .i64 t.b.sym.n]:=by rw [hW1];exact Blk.new _ _ _
   have HB:=Lib.hid (show Below w.heap.size w W1 by rw [hW1];exact (Below.refl _ _).alloc (Nat.le_refl _) _)
   have e0:W1.cell? ⟨w.heap.size,0,none⟩=some (.int .i64 t.op):=(hBk.cell 0).trans rfl
   have e1:W1.cell? ⟨w.heap.size,1,none⟩=some (.string t.a.var):=(hBk.cell 1).trans rfl
   have e2:W1.cell? ⟨w.heap.size,2,none⟩=some (.int .i64 t.a.sym.kind):=(hBk.cell 2).trans rfl
   have e3:W1.cell? ⟨w.heap.size,3,none⟩=some (.string t.a.sym.text):=(hBk.cell 3).trans rfl
   have e4:W1.cell? ⟨w.heap.size,4,none⟩=some (.int .i64 t.a.sym.n):=(hBk.cell 4).trans rfl
   have e5:W1.cell? ⟨w.heap.size,5,none⟩=some (.string t.b.var):=(hBk.cell 5).trans rfl
   have e6:W1.cell? ⟨w.heap.size,6,none⟩=some (.int .i64 t.b.sym.kind):=(hBk.cell 6).trans rfl
   have e7:W1.cell? ⟨w.heap.size,7,none⟩=some (.string t.b.sym.text):=(hBk.cell 7).trans rfl
   have e8:W1.cell? ⟨w.heap.size,8,none⟩=some (.int .i64 t.b.sym.n):=(hBk.cell 8).trans rfl
   have hbl:=hBk.lt
   clear hW1 hBk
   go_wp2_with (first
    | (go_at_call 197;refine (empty_is t.b _).mono ?_;rintro e w9 ⟨rfl,hb9⟩;have HB:=Lib.hid (HB.out.trans (hb9.mono HB.out.size));replace e0:=(hb9.cell (p:=⟨w.heap.size,0,none⟩) hbl).trans e0;replace e1:=(hb9.cell (p:=⟨w.heap.size,1,none⟩) hbl).trans e1;replace e2:=(hb9.cell (p:=⟨w.heap.size,2,none⟩) hbl).trans e2;replace e3:=(hb9.cell (p:=⟨w.heap.size,3,none⟩) hbl).trans e3;replace e4:=(hb9.cell (p:=⟨w.heap.size,4,none⟩) hbl).trans e4;replace e5:=(hb9.cell (p:=⟨w.heap.size,5,none⟩) hbl).trans e5;replace e6:=(hb9.cell (p:=⟨w.heap.size,6,none⟩) hbl).trans e6;replace e7:=(hb9.cell (p:=⟨w.heap.size,7,none⟩) hbl).trans e7;replace e8:=(hb9.cell (p:=⟨w.heap.size,8,none⟩) hbl).trans e8;replace hbl:=Nat.lt_of_lt_of_le hbl hb9.size;clear hb9)
    | (go_at_call 194;(first | (with_reducible refine (atomS_is t.a _).mono ?_) | (with_reducible refine (atomS_is t.b _).mono ?_));rintro e w9 ⟨rfl,hb9⟩;have HB:=Lib.hid (HB.out.trans (hb9.mono HB.out.size));replace e0:=(hb9.cell (p:=⟨w.heap.size,0,none⟩) hbl).trans e0;replace e1:=(hb9.cell (p:=⟨w.heap.size,1,none⟩) hbl).trans e1;replace e2:=(hb9.cell (p:=⟨w.heap.size,2,none⟩) hbl).trans e2;replace e3:=(hb9.cell (p:=⟨w.heap.size,3,none⟩) hbl).trans e3;replace e4:=(hb9.cell (p:=⟨w.heap.size,4,none⟩) hbl).trans e4;replace e5:=(hb9.cell (p:=⟨w.heap.size,5,none⟩) hbl).trans e5;replace e6:=(hb9.cell (p:=⟨w.heap.size,6,none⟩) hbl).trans e6;replace e7:=(hb9.cell (p:=⟨w.heap.size,7,none⟩) hbl).trans e7;replace e8:=(hb9.cell (p:=⟨w.heap.size,8,none⟩) hbl).trans e8;replace hbl:=Nat.lt_of_lt_of_le hbl hb9.size;clear hb9)
    | (go_at_call 231;(first | (with_reducible refine (wordA_is t.a _).mono ?_) | (with_reducible refine (wordA_is t.b _).mono ?_));rintro e w9 ⟨rfl,hb9⟩;have HB:=Lib.hid (HB.out.trans (hb9.mono HB.out.size));replace e0:=(hb9.cell (p:=⟨w.heap.size,0,none⟩) hbl).trans e0;replace e1:=(hb9.cell (p:=⟨w.heap.size,1,none⟩) hbl).trans e1;replace e2:=(hb9.cell (p:=⟨w.heap.size,2,none⟩) hbl).trans e2;replace e3:=(hb9.cell (p:=⟨w.heap.size,3,none⟩) hbl).trans e3;replace e4:=(hb9.cell (p:=⟨w.heap.size,4,none⟩) hbl).trans e4;replace e5:=(hb9.cell (p:=⟨w.heap.size,5,none⟩) hbl).trans e5;replace e6:=(hb9.cell (p:=⟨w.heap.size,6,none⟩) hbl).trans e6;replace e7:=(hb9.cell (p:=⟨w.heap.size,7,none⟩) hbl).trans e7;replace e8:=(hb9.cell (p:=⟨w.heap.size,8,none⟩) hbl).trans e8;replace hbl:=Nat.lt_of_lt_of_le hbl hb9.size;clear hb9))
   go_ret
   exact ⟨by rw [HR.out]<;>rfl,by (first | exact HB.out | (exact (Below.refl _ _).alloc (Nat.le_refl _) _) | (simpa using HB.out))⟩
 have t0:decide (t.op<0)=false:=by simp;omega
 have t1:decide (3<t.op)=false:=by simp;omega
 have t2:atomB t.a=true:=by simpa using c2
 have t3:decide (t.op=0)=false:=by simp [*]
 have t3b:(t.op == 0)=false:=by simp [*]
 have t4:atomB t.b=true:=by simpa using c4
 have t5:wordAB t.a=false:=by simpa using c5
 have HR:=Lib.hid (show termB t=(!wordAB t.b) by simp [termB, *])
 clear c0 c1 c2 c3 c4 c5
 go_enter Tryz.func195,Tryz.ntmps195
 go_upto_region 1 with fail
 obtain ⟨W1,hW1⟩ : ∃W1,W1=w.alloc (.cells #[.int .i64 t.op,.string t.a.var,.int .i64 t.a.sym.kind,.string t.a.sym.text,.int .i64 t.a.sym.n,.string t.b.var,.int .i64 t.b.sym.kind,.string t.b.sym.text,.int .i64 t.b.sym.n] 78):=⟨_,rfl⟩
 rw [← hW1]
 have hBk:Blk W1 w.heap.size 78 #[.int .i64 t.op,.string t.a.var,.int .i64 t.a.sym.kind,.string t.a.sym.text,.int .i64 t.a.sym.n,.string t.b.var,.int .i64 t.b.sym.kind,.string t.b.sym.text,.int .i64 t.b.sym.n]:=by rw [hW1];exact Blk.new _ _ _
 have HB:=Lib.hid (show Below w.heap.size w W1 by rw [hW1];exact (Below.refl _ _).alloc (Nat.le_refl _) _)
 have e0:W1.cell? ⟨w.heap.size,0,none⟩=some (.int .i64 t.op):=(hBk.cell 0).trans rfl
 have e1:W1.cell? ⟨w.heap.size,1,none⟩=some (.string t.a.var):=(hBk.cell 1).trans rfl
 have e2:W1.cell? ⟨w.heap.size,2,none⟩=some (.int .i64 t.a.sym.kind):=(hBk.cell 2).trans rfl
 have e3:W1.cell? ⟨w.heap.size,3,none⟩=some (.string t.a.sym.text):=(hBk.cell 3).trans rfl
 have e4:W1.cell? ⟨w.heap.size,4,none⟩=some (.int .i64 t.a.sym.n):=(hBk.cell 4).trans rfl
 have e5:W1.cell? ⟨w.heap.size,5,none⟩=some (.string t.b.var):=(hBk.cell 5).trans rfl
 have e6:W1.cell? ⟨w.heap.size,6,none⟩=some (.int .i64 t.b.sym.kind):=(hBk.cell 6).trans rfl
 have e7:W1.cell? ⟨w.heap.size,7,none⟩=some (.string t.b.sym.text):=(hBk.cell 7).trans rfl
 have e8:W1.cell? ⟨w.heap.size,8,none⟩=some (.int .i64 t.b.sym.n):=(hBk.cell 8).trans rfl
 have hbl:=hBk.lt
 clear hW1 hBk
 go_wp2_with (first
  | (go_at_call 197;refine (empty_is t.b _).mono ?_;rintro e w9 ⟨rfl,hb9⟩;have HB:=Lib.hid (HB.out.trans (hb9.mono HB.out.size));replace e0:=(hb9.cell (p:=⟨w.heap.size,0,none⟩) hbl).trans e0;replace e1:=(hb9.cell (p:=⟨w.heap.size,1,none⟩) hbl).trans e1;replace e2:=(hb9.cell (p:=⟨w.heap.size,2,none⟩) hbl).trans e2;replace e3:=(hb9.cell (p:=⟨w.heap.size,3,none⟩) hbl).trans e3;replace e4:=(hb9.cell (p:=⟨w.heap.size,4,none⟩) hbl).trans e4;replace e5:=(hb9.cell (p:=⟨w.heap.size,5,none⟩) hbl).trans e5;replace e6:=(hb9.cell (p:=⟨w.heap.size,6,none⟩) hbl).trans e6;replace e7:=(hb9.cell (p:=⟨w.heap.size,7,none⟩) hbl).trans e7;replace e8:=(hb9.cell (p:=⟨w.heap.size,8,none⟩) hbl).trans e8;replace hbl:=Nat.lt_of_lt_of_le hbl hb9.size;clear hb9)
  | (go_at_call 194;(first | (with_reducible refine (atomS_is t.a _).mono ?_) | (with_reducible refine (atomS_is t.b _).mono ?_));rintro e w9 ⟨rfl,hb9⟩;have HB:=Lib.hid (HB.out.trans (hb9.mono HB.out.size));replace e0:=(hb9.cell (p:=⟨w.heap.size,0,none⟩) hbl).trans e0;replace e1:=(hb9.cell (p:=⟨w.heap.size,1,none⟩) hbl).trans e1;replace e2:=(hb9.cell (p:=⟨w.heap.size,2,none⟩) hbl).trans e2;replace e3:=(hb9.cell (p:=⟨w.heap.size,3,none⟩) hbl).trans e3;replace e4:=(hb9.cell (p:=⟨w.heap.size,4,none⟩) hbl).trans e4;replace e5:=(hb9.cell (p:=⟨w.heap.size,5,none⟩) hbl).trans e5;replace e6:=(hb9.cell (p:=⟨w.heap.size,6,none⟩) hbl).trans e6;replace e7:=(hb9.cell (p:=⟨w.heap.size,7,none⟩) hbl).trans e7;replace e8:=(hb9.cell (p:=⟨w.heap.size,8,none⟩) hbl).trans e8;replace hbl:=Nat.lt_of_lt_of_le hbl hb9.size;clear hb9)
  | (go_at_call 231;(first | (with_reducible refine (wordA_is t.a _).mono ?_) | (with_reducible refine (wordA_is t.b _).mono ?_));rintro e w9 ⟨rfl,hb9⟩;have HB:=Lib.hid (HB.out.trans (hb9.mono HB.out.size));replace e0:=(hb9.cell (p:=⟨w.heap.size,0,none⟩) hbl).trans e0;replace e1:=(hb9.cell (p:=⟨w.heap.size,1,none⟩) hbl).trans e1;replace e2:=(hb9.cell (p:=⟨w.heap.size,2,none⟩) hbl).trans e2;replace e3:=(hb9.cell (p:=⟨w.heap.size,3,none⟩) hbl).trans e3;replace e4:=(hb9.cell (p:=⟨w.heap.size,4,none⟩) hbl).trans e4;replace e5:=(hb9.cell (p:=⟨w.heap.size,5,none⟩) hbl).trans e5;replace e6:=(hb9.cell (p:=⟨w.heap.size,6,none⟩) hbl).trans e6;replace e7:=(hb9.cell (p:=⟨w.heap.size,7,none⟩) hbl).trans e7;replace e8:=(hb9.cell (p:=⟨w.heap.size,8,none⟩) hbl).trans e8;replace hbl:=Nat.lt_of_lt_of_le hbl hb9.size;clear hb9))
 go_ret
 exact ⟨by rw [HR.out]<;>rfl,by (first | exact HB.out | (exact (Below.refl _ _).alloc (Nat.le_refl _) _) | (simpa using HB.out))⟩
end Go.Proofs.YtldndkngpdfpfaaGreat
