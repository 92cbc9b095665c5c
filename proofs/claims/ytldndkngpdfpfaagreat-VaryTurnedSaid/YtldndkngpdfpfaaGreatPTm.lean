/-
  For every input VaryTurned answers true, and leaves its arguments and all that was there as they were. No conditions.
-/
import Derived.Test.YtldndkngpdfpfaaGreatPTl
import Derived.Maps.RangeWalk
namespace Go.Proofs.YtldndkngpdfpfaaGreat
open Go.RowKit Go.Shelf
attribute [local go_sem] Oper.semAt_some
set_option linter.unusedSimpArgs false
theorem take_snocT {α:Type} {l:List α} {i:Nat} (h:i<l.length):l.take (i+1)=l.take i ++ [l[i]]:=by rw [List.take_add_one,List.getElem?_eq_getElem h];rfl
structure T1 (X:World) (m:List Elem) (A:Option Addr) (c:Nat) (w:World):Prop where
 own:w.ownsRow 0 55 12 (.slice A m.length c) m.length (m.flatMap Elem.cells)
 ain:AIn A (X.heap.size≤·)
 bel:Below X.heap.size X w
theorem T1.new_ {X w w':World} {m:List Elem} {A:Option Addr} {c:Nat} (h:T1 X m A c w) (hb:Below w.heap.size w w'):T1 X m A c w':=⟨ownsRow_new h.own hb,h.ain,h.bel.trans (hb.mono h.bel.size)⟩
theorem nodup_take_new {l:List Int} (h:l.Nodup) {i:Nat} (hi:i<l.length):l[i] ∉ l.take i:=by
 intro hm
 obtain ⟨j,hj,e⟩:=List.getElem_of_mem hm
 rw [List.length_take] at hj
 rw [List.getElem_take] at e
 exact absurd ((List.getElem_inj h).1 e) (by omega)
theorem nodup_take_newS {l:List Sym} (h:l.Nodup) {i:Nat} (hi:i<l.length):l[i] ∉ l.take i:=by
 intro hm
 obtain ⟨j,hj,e⟩:=List.getElem_of_mem hm
 rw [List.length_take] at hj
 rw [List.getElem_take] at e
 exact absurd ((List.getElem_inj h).1 e) (by omega)
set_option maxRecDepth 100000 in
set_option maxHeartbeats 16000000 in
theorem vturned_walk (A:Option Addr) (c:Nat) (l:List Elem) (tn:Int) (w:World) (h:RowRd w 12 Elem.cells A c l):Calls Tryz.prog 9 #[.slice A l.length c,.int .i64 tn] w fun e w'=>e = .returned (.bool true)∧Below w.heap.size w w':=by
 obtain ⟨i0,hi0,hz0,hz1,hz2⟩:=infp inf_Elem
 have H:=Lib.hid h
 have hlc:=h.cap
 clear h
 go_enter Tryz.func9,Tryz.ntmps9
 go_wp2_with fail
 refine (light22_is A c l 24 w H.out).mono ?_
 rintro e w1 ⟨b,rfl,hb,hb1⟩
 have HB1:=Lib.hid hb1
 have HL:=Lib.hid hb
 clear hb hb1
 cases b
 · go_wp2_with fail
   refine (wakes22_is _).mono ?_
   rintro e w2 ⟨rfl,hb2⟩
   have HB:=Lib.hid (HB1.out.trans (hb2.mono HB1.out.size))
   clear hb2
   go_wp2_with fail
   go_ret
   exact ⟨rfl,HB.out⟩
 have hl24:l.length≤24:=HL.out rfl
 go_upto_region 5 with fail
 go_loopw [5,6] (fun vm vi wr=>∃(i:Nat) (m:List Elem) (Am:Option Addr) (cm:Nat),vi = .int .i64 (i:Int)∧i≤l.length∧vm = .slice Am m.length cm∧m=retagF 1 (l.take i)∧T1 w m Am cm wr) (fun vm vi wr=>l.length - (intOf vi).toNat)
 case atStart=>exact ⟨0,[],none,0,rfl,Nat.zero_le _,rfl,rfl,⟨by simp,.inl ⟨rfl,rfl⟩⟩,AIn.none_ _,HB1.out⟩
 case round=>
  obtain ⟨i,m,Am,cm,rfl,hi,rfl,hm,ht⟩:=hrel
  have HM:=Lib.hid hm
  have HT:=Lib.hid ht
  have hml:m.length≤24:=by rw [hm,retagF_len,List.length_take];omega
  clear hm ht
  by_cases hlt:i<l.length
  · skip
    obtain ⟨y,hy⟩ : ∃y,y=l[i]:=⟨_,rfl⟩
    have HY:=Lib.hid hy
    obtain ⟨g,off,hAA,hgl,hrg⟩:=(H.out.new_ HT.out.bel).range hlt
    rw [← hy] at hrg
    subst hAA
    have HRG:=Lib.hid (show wr.rangeAt g (off+i*12) [.int .i64 y.id.kind,.string y.id.text,.int .i64 y.id.n,.int .i64 y.attr.kind,.string y.attr.text,.int .i64 y.attr.n,.int .i64 y.value.kind,.string y.value.text,.int .i64 y.value.n,.bool y.acc,.bool y.goal,.int .i64 y.tag] from hrg)
    have HTH:=Lib.hid (show (wr.alloc (.cells #[.int .i64 0,.string ⟨#[]⟩,.int .i64 0,.int .i64 0,.string ⟨#[]⟩,.int .i64 0,.int .i64 0,.string ⟨#[]⟩,.int .i64 0,.bool false,.bool false,.int .i64 0] 55)).there wr.heap.size 0 (#[.int .i64 y.id.kind,.string y.id.text,.int .i64 y.id.n,.int .i64 y.attr.kind,.string y.attr.text,.int .i64 y.attr.n,.int .i64 y.value.kind,.string y.value.text,.int .i64 y.value.n,.bool y.acc,.bool y.goal,.int .i64 y.tag]:Array Value).size from (Blk.new wr 55 #[.int .i64 0,.string ⟨#[]⟩,.int .i64 0,.int .i64 0,.string ⟨#[]⟩,.int .i64 0,.int .i64 0,.string ⟨#[]⟩,.int .i64 0,.bool false,.bool false,.int .i64 0]).there)
    obtain ⟨W5,hW5⟩ : ∃W5,W5=(wr.alloc (.cells #[.int .i64 0,.string ⟨#[]⟩,.int .i64 0,.int .i64 0,.string ⟨#[]⟩,.int .i64 0,.int .i64 0,.string ⟨#[]⟩,.int .i64 0,.bool false,.bool false,.int .i64 0] 55)).setCells wr.heap.size 0 [.int .i64 y.id.kind,.string y.id.text,.int .i64 y.id.n,.int .i64 y.attr.kind,.string y.attr.text,.int .i64 y.attr.n,.int .i64 y.value.kind,.string y.value.text,.int .i64 y.value.n,.bool y.acc,.bool y.goal,.int .i64 y.tag]:=⟨_,rfl⟩
    have HW5:=Lib.hid hW5
    have HK5:=Lib.hid (show Blk W5 wr.heap.size 55 #[.int .i64 y.id.kind,.string y.id.text,.int .i64 y.id.n,.int .i64 y.attr.kind,.string y.attr.text,.int .i64 y.attr.n,.int .i64 y.value.kind,.string y.value.text,.int .i64 y.value.n,.bool y.acc,.bool y.goal,.int .i64 y.tag] from kept_blk (zs:=[.int .i64 0,.string ⟨#[]⟩,.int .i64 0,.int .i64 0,.string ⟨#[]⟩,.int .i64 0,.int .i64 0,.string ⟨#[]⟩,.int .i64 0,.bool false,.bool false,.int .i64 0]) (vs:=[.int .i64 y.id.kind,.string y.id.text,.int .i64 y.id.n,.int .i64 y.attr.kind,.string y.attr.text,.int .i64 y.attr.n,.int .i64 y.value.kind,.string y.value.text,.int .i64 y.value.n,.bool y.acc,.bool y.goal,.int .i64 y.tag]) rfl hW5 (by rw [hW5];exact World.rangeAt_setCells_same _ _ _ _ HTH.out))
    have HB5:=Lib.hid (show Below wr.heap.size wr W5 by rw [hW5];exact Below.setCells' _ _ ((Below.refl _ _).alloc (Nat.le_refl _) _) (Nat.le_refl _))
    have j1:(0:Int)≤(i:Int):=by omega
    have j2:(i:Int)<(l.length:Int):=by omega
    have v1:IntKind.i64.wrap ((i:Int)+1)=(i:Int)+1:=IntWalk.i64_in _ (by omega)
    clear hW5 hrg hy
    go_upto_region 8 with (first
    | (with_reducible refine wpList_load_mid rfl 55 _ rfl g (off+i*12) rfl [.int .i64 y.id.kind,.string y.id.text,.int .i64 y.id.n,.int .i64 y.attr.kind,.string y.attr.text,.int .i64 y.attr.n,.int .i64 y.value.kind,.string y.value.text,.int .i64 y.value.n,.bool y.acc,.bool y.goal,.int .i64 y.tag] _ HRG.out Tryz.underlying55 rfl (by kernel_rfl) ?_)
    | ((with_reducible refine wpList_store_mid rfl 55 _ _ rfl wr.heap.size 0 #[.int .i64 y.id.kind,.string y.id.text,.int .i64 y.id.n,.int .i64 y.attr.kind,.string y.attr.text,.int .i64 y.attr.n,.int .i64 y.value.kind,.string y.value.text,.int .i64 y.value.n,.bool y.acc,.bool y.goal,.int .i64 y.tag] rfl rfl HTH.out (by kernel_rfl) (by kernel_rfl) ?_);rw [← HW5.out]))
    obtain ⟨bx,hbx⟩ : ∃b,b=wr.heap.size:=⟨_,rfl⟩
    rw [← hbx] at HK5 ⊢
    have HBXE:=Lib.hid hbx
    clear hbx
    have k11:=(HK5.out.cell 11).trans rfl
    have f11:=HK5.out.frozen 11
    have kz:=HK5.out.lt
    go_upto_region 9 with fail
    obtain ⟨W6,hW6⟩ : ∃W,W=W5.setCell ⟨bx,11,none⟩ (.int .i64 ((i:Int)+1)):=⟨_,rfl⟩
    have HK6:=Lib.hid (show Blk W6 bx 55 #[.int .i64 y.id.kind,.string y.id.text,.int .i64 y.id.n,.int .i64 y.attr.kind,.string y.attr.text,.int .i64 y.attr.n,.int .i64 y.value.kind,.string y.value.text,.int .i64 y.value.n,.bool y.acc,.bool y.goal,.int .i64 ((i:Int)+1)] by rw [hW6];have:=HK5.out.set_ 11 (.int .i64 ((i:Int)+1));simpa using this)
    have HB6:=Lib.hid (show Below wr.heap.size wr W6 by rw [hW6];exact Below.sc HB5.out _ (by have:=HBXE.out;show wr.heap.size≤bx;omega))
    rw [← hW6]
    have HRX:=Lib.hid (show W6.rangeAt bx 0 [.int .i64 y.id.kind,.string y.id.text,.int .i64 y.id.n,.int .i64 y.attr.kind,.string y.attr.text,.int .i64 y.attr.n,.int .i64 y.value.kind,.string y.value.text,.int .i64 y.value.n,.bool y.acc,.bool y.goal,.int .i64 ((i:Int)+1)] from HK6.out.range)
    obtain ⟨y2,hy2⟩ : ∃y2:Elem,y2 = { y with tag:=(i:Int)+1 }:=⟨_,rfl⟩
    have HY2:=Lib.hid hy2
    have HC2:=Lib.hid (show [y2].flatMap Elem.cells = [.int .i64 y.id.kind,.string y.id.text,.int .i64 y.id.n,.int .i64 y.attr.kind,.string y.attr.text,.int .i64 y.attr.n,.int .i64 y.value.kind,.string y.value.text,.int .i64 y.value.n,.bool y.acc,.bool y.goal,.int .i64 ((i:Int)+1)] by rw [hy2];rfl)
    obtain ⟨W7,hW7⟩ : ∃W,W=W6.alloc (.cells #[.int .i64 y.id.kind,.string y.id.text,.int .i64 y.id.n,.int .i64 y.attr.kind,.string y.attr.text,.int .i64 y.attr.n,.int .i64 y.value.kind,.string y.value.text,.int .i64 y.value.n,.bool y.acc,.bool y.goal,.int .i64 ((i:Int)+1)] 55):=⟨_,rfl⟩
    have HW7:=Lib.hid hW7
    have hb7:Below W6.heap.size W6 W7:=by rw [hW7];exact (Below.refl _ _).alloc (Nat.le_refl _) _
    have HT7:=Lib.hid (HT.out.new_ (HB6.out.trans (hb7.mono HB6.out.size)))
    have HN7:=Lib.hid (show 0<1→∃ad,(some (⟨W6.heap.size,0,none⟩:Addr))=some ad∧∀j u,([y2].flatMap Elem.cells)[j]? = some u→W7.cell? (ad.add j)=some u from fun _=>⟨_,rfl,by rw [HC2.out,hW7];exact World.news_of_block (heap_alloc_new _ _)⟩)
    clear hW6 hy2 hW7 hb7 k11 f11 kz
    go_wp2_with (first
    | (with_reducible refine wpList_load_mid rfl 55 _ rfl bx 0 rfl [.int .i64 y.id.kind,.string y.id.text,.int .i64 y.id.n,.int .i64 y.attr.kind,.string y.attr.text,.int .i64 y.attr.n,.int .i64 y.value.kind,.string y.value.text,.int .i64 y.value.n,.bool y.acc,.bool y.goal,.int .i64 ((i:Int)+1)] _ HRX.out Tryz.underlying55 rfl (by kernel_rfl) ?_)
    | (at_builtin;rw [← HW7.out];refine wpList_append_src W7 rfl (.tmp 36) (.tmp 38) 84 rfl 55 i0 _ 12 112 Tryz.underlying84 hi0 hz0 hz1 hz2 rfl (by omega) (.slice Am m.length cm) m.length (m.flatMap Elem.cells) rfl HT7.out.own (some ⟨W6.heap.size,0,none⟩) 1 1 ([y2].flatMap Elem.cells) rfl rfl HN7.out (one_Elem _) (by unfold maxLen;omega) (by omega) ?_;intro v3 w9 hown1 hg1 hnil1 hat1;obtain ⟨A9,c9,rfl,hO9,hA9,hb9⟩:=fresh_any (B:=w.heap.size) hown1 hg1 hat1 HT7.out.ain HT7.out.bel.size;obtain ⟨mn,hmn⟩ : ∃mn,mn=m ++ [y2]:=⟨_,rfl⟩;have hkk:m.length+1=mn.length:=(by rw [hmn];simp);rw [← List.flatMap_append,← hmn,hkk] at hO9;rw [hkk];have HMN:=Lib.hid hmn;have HT9:=Lib.hid (show T1 w mn A9 c9 w9 from ⟨hO9,hA9,HT7.out.bel.trans hb9⟩);clear hown1 hg1 hnil1 hat1 hO9 hA9 hb9 hkk hmn))
    go_roundw
    case rel=>exact ⟨i+1,mn,A9,c9,by go_num,by omega,rfl,by
     rw [HMN.out,HM.out,HY2.out,take_snocT hlt,retagF_snoc,HY.out]
     congr 3
     simp only [List.length_take];omega,HT9.out⟩
    case measure=>simp [intOf]<;>omega
  · skip
    obtain rfl:i=l.length:=by omega
    have HMM:=Lib.hid (show m=retagF 1 l by rw [HM.out,List.take_length])
    have jz : ¬(l.length:Int)<(l.length:Int):=by omega
    have hmz:=(ownsRow_rd Elem.cells_length HT.out.own).cap
    obtain ⟨k,hk,hkl⟩:=within_nat tn (n:=m.length+1) (Nat.succ_pos _)
    have v1:IntKind.i64.wrap ((m.length:Int)+1)=(m.length:Int)+1:=IntWalk.i64_in _ (by omega)
    have HWI:=Lib.hid (show ∀W,Calls Tryz.prog 25 #[.int .i64 tn,.int .i64 ((m.length:Int)+1)] W fun e w'=>e = .returned (.int .i64 (k:Int))∧W=w' from fun W=>by have:=within_is tn ((m.length:Int)+1) W (by omega);rw [← hk];exact this)
    have HKL:=Lib.hid hkl
    clear hk hkl HM hi hlt
    go_upto_region 10 with fail
    clear jz
    go_wp2_with fail
    refine (HWI.out _).mono ?_
    rintro e w0 ⟨rfl,rfl⟩
    have hkm:k≤m.length:=by have:=HKL.out;omega
    obtain ⟨tk,htk⟩ : ∃x,x=m.take k:=⟨_,rfl⟩
    obtain ⟨dk,hdk⟩ : ∃x,x=m.drop k:=⟨_,rfl⟩
    obtain ⟨As,hAs⟩ : ∃As:Option Addr,As=(if cm=k then Am else Option.map (fun a:Addr=>a.add (k*12)) Am):=⟨_,rfl⟩
    have htl:k=tk.length:=by rw [htk,List.length_take];omega
    have hdl:m.length - k=dk.length:=by rw [hdk,List.length_drop]
    have hcm:m.length≤cm:=(ownsRow_rd Elem.cells_length HT.out.own).1
    have hsl1 : ∀Y,(Instr.slice 84 (.slice Am m.length cm) none (some (.int .i64 (k:Int))) none).run Tryz.prog Y = .ok (.slice Am tk.length cm) Y:=fun Y=>by rw [← htl];exact run_slE_to _ (by omega) Y
    have hsl2 : ∀Y,(Instr.slice 84 (.slice Am m.length cm) (some (.int .i64 (k:Int))) none none).run Tryz.prog Y = .ok (.slice As dk.length (cm - k)) Y:=fun Y=>by rw [← hdl,hAs];exact run_slE_from _ hkm Y
    have HTK:=Lib.hid (show RowRd wr 12 Elem.cells Am cm tk by rw [htk];exact (ownsRow_rd Elem.cells_length HT.out.own).prefix_ k)
    have HDK:=Lib.hid (show RowRd wr 12 Elem.cells As (cm - k) dk by rw [hdk,hAs];exact (ownsRow_rd Elem.cells_length HT.out.own).suffixE k hkm)
    have HTB:=Lib.hid (show dk++tk=turnB m k by rw [htk,hdk];rfl)
    have hz1':dk.length≤24:=by omega
    have hz2':tk.length≤24:=by omega
    clear htk hdk hAs htl hdl
    go_upto_region 11 with fail
    refine wp_region_E (fun w9=>Below wr.heap.size wr w9) [(0,0),(1,0),(2,0),(4,0),(5,0),(6,0),(3,2),(7,2),(8,0)] (by kernel_rfl) (by kernel_rfl) (fun KK hKK=>?_)
    simp only [beside,List.filterMap_cons,List.filterMap_nil,List.getElem?_toArray,List.getElem?_cons_zero,List.getElem?_cons_succ,Option.map_some]
    repeat ((first | (refine wpX_w ?_ (Or.inl ⟨by rfl,fun w9=>?_⟩) ?_;rotate_left 1;go_simp;with_reducible rfl) | (refine wpX_l ?_ (((Below.refl _ _).drew)) (Or.inl ⟨by rfl,fun w9 hw9=>?_⟩) ?_;rotate_left 1;obtain ⟨hc9,hf9⟩:=bcell hw9;go_simp;with_reducible rfl) | refine wpX_w undef (Or.inr ⟨by rfl,rfl⟩) ?_ | refine wpX_l undef (((Below.refl _ _).drew)) (Or.inr ⟨by rfl,rfl⟩) ?_);go_frame)
    refine wpX_es (fun K9 hK9=>?_)
    refine step_append_src _ (by rfl) _ _ _ (by rfl) 55 i0 _ 12 112 Tryz.underlying84 hi0 hz0 hz1 hz2 rfl (by omega) (.slice none 0 0) 0 [] (by rfl) ⟨by simp,.inl ⟨rfl,rfl⟩⟩ As dk.length (cm - k) (dk.flatMap Elem.cells) (by rfl) (flat_length Elem.cells_length _) ((HDK.out.drew).news Elem.cells_length (by omega)) (one_Elem _) (by unfold maxLen;omega) (by omega) ?_
    intro v2 w7 hown hgr hnil hat
    obtain ⟨A7,c7,rfl,hO7,hA7,hb7⟩:=fresh_any (B:=wr.heap.size) (A:=none) (n:=0) (c:=0) hown hgr hat (AIn.none_ _) (Nat.le_refl _)
    rw [Nat.zero_add,List.nil_append] at hO7
    rw [Nat.zero_add]
    have HB7:=Lib.hid (show Below wr.heap.size wr w7 from ((Below.refl wr.heap.size wr).drew).trans hb7)
    have HO7:=Lib.hid (And.intro hO7 hA7)
    have HTK7:=Lib.hid (HTK.out.new_ HB7.out)
    clear hown hgr hnil hat hO7 hA7 hb7
    refine hK9 _ _ HB7.out ?_
    clear hK9 K9
    refine wpX_e (by kernel_rfl) (fun K9 hK9=>?_)
    refine step_append_src _ (by rfl) _ _ _ (by rfl) 55 i0 _ 12 112 Tryz.underlying84 hi0 hz0 hz1 hz2 rfl (by omega) (.slice A7 dk.length c7) dk.length (dk.flatMap Elem.cells) (by rfl) HO7.out.1 Am tk.length cm (tk.flatMap Elem.cells) (by rfl) (flat_length Elem.cells_length _) (HTK7.out.news Elem.cells_length (by omega)) (one_Elem _) (by unfold maxLen;omega) (by omega) ?_
    intro v2 w8 hown hgr hnil hat
    obtain ⟨A8,c8,rfl,hO8,hA8,hb8⟩:=fresh_any (B:=wr.heap.size) hown hgr hat HO7.out.2 HB7.out.size
    obtain ⟨tb,htb⟩ : ∃tb,tb=turnB m k:=⟨_,rfl⟩
    have hkk:dk.length+tk.length=tb.length:=by rw [htb,← HTB.out,List.length_append]
    rw [← List.flatMap_append,HTB.out,← htb,hkk] at hO8
    rw [hkk]
    have HTBE:=Lib.hid htb
    have HR8:=Lib.hid (ownsRow_rd Elem.cells_length hO8)
    have HB8:=Lib.hid (HB7.out.trans hb8)
    have htbz:tb.length≤48:=by omega
    clear hown hgr hnil hat hO8 hA8 hb8 hkk htb
    refine hK9 _ _ ?_
    clear hK9 K9
    repeat ((first | (refine wpX_w ?_ (Or.inl ⟨by rfl,fun w9=>?_⟩) ?_;rotate_left 1;go_simp;with_reducible rfl) | (refine wpX_l ?_ (HB7.out) (Or.inl ⟨by rfl,fun w9 hw9=>?_⟩) ?_;rotate_left 1;obtain ⟨hc9,hf9⟩:=bcell hw9;go_simp;with_reducible rfl) | refine wpX_w undef (Or.inr ⟨by rfl,rfl⟩) ?_ | refine wpX_l undef (HB7.out) (Or.inr ⟨by rfl,rfl⟩) ?_);go_frame)
    refine wpX_nil ?_
    simp only [OnlyN_normal]
    refine hKK _ _ ?_
    clear hKK KK
    have HRM:=Lib.hid ((ownsRow_rd Elem.cells_length HT.out.own).new_ HB8.out)
    have HB:=Lib.hid (HT.out.bel.trans (HB8.out.mono HT.out.bel.size))
    have HOE:=Lib.hid (show orderV tb=orderV m by rw [HTBE.out,HMM.out];exact turned_same l k)
    clear hsl1 hsl2 v1
    cases hOV:orderV m with
    | none=>
      have HOV:=Lib.hid hOV
      clear hOV
      go_wp2_with fail
      refine order_no HOV.out (order22_is m Am cm w8 HRM.out (by omega)) (fun w3 hb3=>?_)
      have HB3:=Lib.hid (HB.out.trans (hb3.mono HB.out.size))
      have HR3:=Lib.hid (HR8.out.new_ hb3)
      clear hb3
      go_wp2_with fail
      refine order_no (HOE.out.trans HOV.out) (order22_is tb A8 c8 w3 HR3.out (by omega)) (fun w4 hb4=>?_)
      have HB4:=Lib.hid (HB3.out.trans (hb4.mono HB3.out.size))
      clear hb4
      have HE:=Lib.hid (elems_is none none 0 0 [] [] w4 (RowRd.nil _ _ _) (RowRd.nil _ _ _))
      rw [decide_eq_true rfl] at HE
      go_wp2_with fail
      refine HE.out.mono ?_
      rintro e w5 ⟨rfl,hb5⟩
      have HB5:=Lib.hid (HB4.out.trans (hb5.mono HB4.out.size))
      clear hb5
      have HS:=Lib.hid (syms_is none none 0 0 [] [] w5 (RowRd.nil _ _ _) (RowRd.nil _ _ _))
      rw [decide_eq_true rfl] at HS
      go_wp2_with fail
      refine HS.out.mono ?_
      rintro e w6 ⟨rfl,hb6⟩
      have HB6:=Lib.hid (HB5.out.trans (hb6.mono HB5.out.size))
      clear hb6
      go_wp2_with fail
      refine (wakes22_is _).mono ?_
      rintro e w7' ⟨rfl,hb7⟩
      have HBF:=Lib.hid (HB6.out.trans (hb7.mono HB6.out.size))
      clear hb7
      go_wp2_with fail
      go_ret
      exact ⟨rfl,HBF.out⟩
    | some z=>
      obtain ⟨o,ns⟩:=z
      obtain ⟨tnd,tln,tns⟩:=turned_tags (HMM.out ▸ hOV)
      have HOV:=Lib.hid hOV
      have HTD:=Lib.hid (And.intro tnd tns)
      have HLN:=Lib.hid (show o.length=m.length by rw [tln,HMM.out,retagF_len])
      have olz:o.length≤24:=by omega
      clear hOV tnd tln tns
      go_wp2_with fail
      refine order_yes HOV.out (order22_is m Am cm w8 HRM.out (by omega)) (fun w3 A3 c3 B3 d3 hb3 g1 g2=>?_)
      have HB3:=Lib.hid (HB.out.trans (hb3.mono HB.out.size))
      have HR3:=Lib.hid (HR8.out.new_ hb3)
      have HG1:=Lib.hid g1
      have HG2:=Lib.hid g2
      have hol:=g1.cap
      have hnl:=g2.cap
      have hnc:ns.length≤d3:=g2.1
      clear hb3 g1 g2
      go_wp2_with fail
      refine order_yes (HOE.out.trans HOV.out) (order22_is tb A8 c8 w3 HR3.out (by omega)) (fun w4 A4 c4 B4 d4 hb4 g3 g4=>?_)
      have HB4:=Lib.hid (HB3.out.trans (hb4.mono HB3.out.size))
      have HE:=Lib.hid (elems_is A3 A4 c3 c4 o o w4 (HG1.out.new_ hb4) g3)
      have HG1:=Lib.hid (HG1.out.new_ hb4)
      have HG2:=Lib.hid (HG2.out.new_ hb4)
      have HG4:=Lib.hid g4
      clear hb4 g3 g4
      rw [decide_eq_true rfl] at HE
      go_wp2_with fail
      refine HE.out.mono ?_
      rintro e w5 ⟨rfl,hb5⟩
      have HB5:=Lib.hid (HB4.out.trans (hb5.mono HB4.out.size))
      have HS:=Lib.hid (syms_is B3 B4 d3 d4 ns ns w5 (HG2.out.new_ hb5) (HG4.out.new_ hb5))
      have HG1:=Lib.hid (HG1.out.new_ hb5)
      have HG2:=Lib.hid (HG2.out.new_ hb5)
      clear hb5
      rw [decide_eq_true rfl] at HS
      go_wp2_with fail
      refine HS.out.mono ?_
      rintro e w6 ⟨rfl,hb6⟩
      have HB6:=Lib.hid (HB5.out.trans (hb6.mono HB5.out.size))
      have HG1:=Lib.hid (HG1.out.new_ hb6)
      have HG2:=Lib.hid (HG2.out.new_ hb6)
      clear hb6
      go_upto_region 20 with fail
      go_loopw [16,17] (fun vt vi W=>∃(i:Nat) (tl:List Int) (At:Option Addr) (ct:Nat),vi = .int .i64 (i:Int)∧i≤o.length∧vt = .slice At tl.length ct∧RowRd W 1 Int.cells1 At ct tl∧tl.length=i∧(∀x,x∈tl↔x∈(o.map Elem.tag).take i)∧Below w6.heap.size w6 W) (fun vt vi W=>o.length - (intOf vi).toNat)
      case atStart=>exact ⟨0,[],none,0,rfl,Nat.zero_le _,rfl,RowRd.nil _ _ _,rfl,fun x=>by simp,Below.refl _ _⟩
      case round=>
       obtain ⟨i,tl,At,ct,rfl,hi,rfl,hr,htl,hmem,hbw⟩:=hrel
       have HR:=Lib.hid hr
       have HTL:=Lib.hid (And.intro htl hmem)
       have HBW:=Lib.hid hbw
       have htz:tl.length≤24:=by omega
       clear hr htl hmem hbw
       by_cases hlt:i<o.length
       · obtain ⟨y,hy⟩ : ∃y,y=o[i]:=⟨_,rfl⟩
         have HY:=Lib.hid hy
         obtain ⟨g,off,hAA,hgl,hrg⟩:=(HG1.out.new_ HBW.out).range hlt
         rw [← hy] at hrg
         have q11:=hrg 11 _ rfl
         subst hAA
         have j1:(0:Int)≤(i:Int):=by omega
         have j2:(i:Int)<(o.length:Int):=by omega
         have HRI:=Lib.hid (rise_is At ct tl y.tag wr HR.out (by omega))
         have hilt:i<(o.map Elem.tag).length:=by rw [List.length_map];exact hlt
         have HNI:=Lib.hid (show y.tag ∉ tl by
          rw [HTL.out.2,HY.out]
          have:=nodup_take_new HTD.out.1 hilt
          rwa [List.getElem_map] at this)
         have HTS:=Lib.hid (show (o.map Elem.tag).take (i+1)=(o.map Elem.tag).take i ++ [y.tag] by rw [take_snocT hilt,List.getElem_map,← HY.out])
         clear hy hrg hgl hilt
         go_wp2_with fail
         refine HRI.out.mono ?_
         rintro e w9 ⟨l',A',c',rfl,hr9,hl9,hm9,hb9⟩
         have HR9:=Lib.hid hr9
         have HX9:=Lib.hid (show l'.length=i+1∧∀x,x∈l'↔x∈(o.map Elem.tag).take (i+1) from ⟨by rw [hl9 HNI.out,HTL.out.1],fun x=>by rw [hm9,HTS.out,List.mem_append,List.mem_singleton,HTL.out.2]⟩)
         have HB9:=Lib.hid (HBW.out.trans (hb9.mono HBW.out.size))
         clear hr9 hl9 hm9 hb9
         go_wp2_with fail
         go_roundw
         case rel=>exact ⟨i+1,l',A',c',by go_num,by omega,rfl,HR9.out,HX9.out.1,HX9.out.2,HB9.out⟩
         case measure=>simp [intOf]<;>omega
       · skip
         obtain rfl:i=o.length:=by omega
         have jz : ¬(o.length:Int)<(o.length:Int):=by omega
         have HG2:=Lib.hid (HG2.out.new_ HBW.out)
         have HBX:=Lib.hid (HB6.out.trans (HBW.out.mono HB6.out.size))
         have HTLN:=Lib.hid HTL.out.1
         clear HTL HR hi hlt
         go_upto_region 24 with fail
         clear jz
         go_loopw [18] (fun vi W=>∃i:Nat,vi = .int .i64 (i:Int)∧i≤ns.length∧Below w.heap.size w W∧RowRd W 3 Sym.cells B3 d3 ns) (fun vi W=>ns.length - (intOf vi).toNat)
         case atStart=>exact ⟨0,rfl,Nat.zero_le _,HBX.out,HG2.out⟩
         case round=>
          clear HBX HG2
          obtain ⟨i,rfl,hi,hbx,hg2⟩:=hrel
          have HBX:=Lib.hid hbx
          have HG2:=Lib.hid hg2
          clear hbx hg2
          by_cases hlt:i<ns.length
          · obtain ⟨y,hy⟩ : ∃y,y=ns[i]:=⟨_,rfl⟩
            obtain ⟨g,off,hAA,hg,q0,q1,q2⟩:=sym_at HG2.out hlt
            rw [← hy] at q0 q1 q2
            subst hAA
            have j1:(0:Int)≤(i:Int):=by omega
            have j2:(i:Int)<(ns.length:Int):=by omega
            obtain ⟨tk,htk⟩ : ∃x,x=ns.take i:=⟨_,rfl⟩
            have htl:i=tk.length:=by rw [htk,List.length_take];omega
            have hsl1 : ∀Y,(Instr.slice 36 (.slice (some ⟨g,off,none⟩) ns.length d3) none (some (.int .i64 (i:Int))) none).run Tryz.prog Y = .ok (.slice (some ⟨g,off,none⟩) tk.length d3) Y:=fun Y=>by rw [← htl];exact run_slS_to _ (by omega) Y
            have HHS:=Lib.hid (show ∀W,Below wr.heap.size wr W→Calls Tryz.prog 44 #[.slice (some ⟨g,off,none⟩) tk.length d3,.agg #[.int .i64 y.kind,.string y.text,.int .i64 y.n]] W fun e w'=>e = .returned (.bool false)∧Below W.heap.size W w' from fun W hW=>by
             have h1:RowRd W 3 Sym.cells (some ⟨g,off,none⟩) d3 tk:=by rw [htk];exact (HG2.out.new_ hW).prefix_ i
             have h2:=has_is (some ⟨g,off,none⟩) d3 tk y W h1
             have h3:has cmpSym tk y=false:=has_false.2 (fun z hz e=>by
              have e2:z=y:=cmpSym_eq.1 e
              rw [e2,hy,htk] at hz
              exact nodup_take_newS HTD.out.2 hlt hz)
             rw [h3] at h2
             exact h2)
            clear hy htk htl
            go_upto_region 26 with fail
            refine wp_region_E (fun w9=>Below wr.heap.size wr w9) [(0,0),(1,0),(2,0),(3,0),(4,0),(5,0),(6,1),(7,2)] (by kernel_rfl) (by kernel_rfl) (fun KK hKK=>?_)
            simp only [beside,List.filterMap_cons,List.filterMap_nil,List.getElem?_toArray,List.getElem?_cons_zero,List.getElem?_cons_succ,Option.map_some]
            repeat ((first | (refine wpX_w ?_ (Or.inl ⟨by rfl,fun w9=>?_⟩) ?_;rotate_left 1;go_simp;with_reducible rfl) | (refine wpX_l ?_ (((Below.refl _ _).drew)) (Or.inl ⟨by rfl,fun w9 hw9=>?_⟩) ?_;rotate_left 1;obtain ⟨hc9,hf9⟩:=bcell hw9;go_simp;with_reducible rfl) | refine wpX_w undef (Or.inr ⟨by rfl,rfl⟩) ?_ | refine wpX_l undef (((Below.refl _ _).drew)) (Or.inr ⟨by rfl,rfl⟩) ?_);go_frame)
            refine wpX_e (by kernel_rfl) (fun K9 hK9=>?_)
            go_simp
            refine (HHS.out _ ((Below.refl wr.heap.size wr).drew)).mono ?_
            rintro e w9 ⟨rfl,hb9⟩
            have HB3':=Lib.hid (((Below.refl wr.heap.size wr).drew).trans (hb9.mono (by simp)))
            clear hb9
            refine hK9 _ _ ?_
            clear hK9 K9
            refine wpX_nil ?_
            simp only [OnlyN_normal]
            refine hKK _ _ ?_
            clear hKK KK
            have HBX:=Lib.hid (HBX.out.trans (HB3'.out.mono HBX.out.size))
            have HG2:=Lib.hid (HG2.out.new_ HB3'.out)
            clear q0 q1 q2 hsl1
            go_wp2_with fail
            go_roundw
            case rel=>exact ⟨i+1,by go_num,by omega,HBX.out,HG2.out⟩
            case measure=>simp [intOf]<;>omega
          · obtain rfl:i=ns.length:=by omega
            have jz : ¬(ns.length:Int)<(ns.length:Int):=by omega
            have e1:((tl.length:Int) == (m.length:Int))=true:=by have h1:=HTLN.out;have h2:=HLN.out;simp;omega
            have e2:((o.length:Int) == (m.length:Int))=true:=by have h2:=HLN.out;simp;omega
            go_wp2_with fail
            refine (wakes22_is _).mono ?_
            rintro e w9 ⟨rfl,hb9⟩
            have HBF:=Lib.hid (HBX.out.trans (hb9.mono HBX.out.size))
            clear hb9
            go_wp2_with fail
            go_ret
            exact ⟨rfl,HBF.out⟩
end Go.Proofs.YtldndkngpdfpfaaGreat
namespace Go.Proofs.YtldndkngpdfpfaaGreat
open Go.ChangeShapes Go.WideShapes Go.ChangeAt Go.RowKit Go.Deep
theorem own_vturned:ownKnob Tryz.prog.godebug=none:=by kernel_rfl
theorem laid_vturned:laidOutB Tryz.prog=true:=by kernel_rfl
set_option maxRecDepth 100000 in
theorem vturned_lifted (os:Os) (started:os.Started) (H:Type) (enc:TypeId×Value→H) :
 ReturnsInHanded {} Tryz.checked os 9 .any (Rows.varyTurnedSpec.pre6 enc Tryz.prog Tryz.f9 Rows.varyTurnedRow.domain false) (Rows.varyTurnedSpec.post enc Tryz.prog Tryz.f9 false true false false):=by
 refine returnsInHanded_of_change (C:=Tryz.checked) own_vturned started (by kernel_rfl) Tryz.func9
  (ChangeSpec.witness6 (enc:=enc) (C:=Tryz.checked) false ⟨#[],#[.slice none 0 0,.int .i64 0],[]⟩ 8 (by kernel_rfl) (by kernel_rfl) (by kernel_rfl) (by kernel_rfl)) ?_
 intro W base args ds gs before hval0 hW hcnd _
 have hval : ∀(j:Nat) t v,Tryz.f9.params[j]? = some t→args[j]? = some v→Value.okWide Tryz.prog W .any base t v:=hval0
 have hW':=hW
 obtain ⟨p,q,hA0,hV,rfl,hfz,hnd⟩:=hW
 have hA:DataW.TrodAll enc Tryz.prog W 0 (fun _=>true) true Tryz.f9.params.toList args.toList ds p:=hA0
 rw [Tryz.params9] at hA hval
 obtain ⟨v0,v1,d0,d1,p0,p1,rfl,rfl,rfl,h0,h1⟩:=trodAll_two hA
 obtain ⟨rfl,rfl⟩:=trodVars_none hV
 obtain ⟨A0,c0,l0,rfl,r0⟩:=open_rowR Tryz.underlying84 (by decide) opens_Elem (hval 0 84 v0 rfl rfl) h0
 obtain ⟨n1,rfl,_,_,_⟩:=open_int Tryz.underlying3 (hval 1 3 v1 rfl rfl) h1
 clear hA0 hval0
 refine (vturned_walk A0 c0 l0 n1 W r0.rd).mono fun e W' ⟨he,hb⟩=>?_
 subst he
 exact ⟨_,rfl,post_true (tb:=4) laid_vturned rfl hW' (by kernel_rfl) Tryz.underlying4 (fun t ht=>by
  have ht':t∈[84,3]:=by
   have e:Tryz.f9.params.toList = [84,3]:=by rw [Tryz.params9]
   rwa [e] at ht
  simp only [List.mem_cons,List.not_mem_nil,or_false] at ht'
  rcases ht' with rfl | rfl<;>exact ⟨by kernel_rfl,of_decide_eq_true (by kernel_rfl)⟩) rfl rfl rfl hb⟩
theorem vturned_named:Tryz.pinned.checked.prog.funcNamed Rows.varyTurnedRow.func=some 9:=by kernel_rfl
theorem vturned_closed:joinedFacts Tryz.pinned.checked.prog 9 Tryz.f9 Rows.varyTurnedSpec Rows.varyTurnedRow=true:=by kernel_rfl
theorem vturned_holds:Rows.VaryTurnedSaid:=
 OpenClaim.holds_of_wide 9 Tryz.f9 rfl rfl rfl rfl rfl rfl rfl ⟨rfl,rfl,rfl,rfl,rfl⟩ rfl rfl rfl rfl rfl vturned_named Tryz.func9 vturned_closed
  (of_decide_eq_true (by kernel_rfl)) (by unfold Func.isWrapper;first | (rw [if_pos (by decide +kernel)];kernel_rfl) | (rw [if_neg (by decide +kernel)];exact ⟨rfl,rfl⟩))
  (fun os started H enc _=>vturned_lifted os started H enc)
end Go.Proofs.YtldndkngpdfpfaaGreat
