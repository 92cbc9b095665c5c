/-
  Texts put together: VaryRo, SymWord, SymDigits, SymValid, Scal, LeafName, ShapePlain, VaryP3.
-/
import Derived.Test.YtldndkngpdfpfaaGreatPOe
import Derived.Test.YtldndkngpdfpfaaGreatPOa
import Derived.Deep.Cut
import Derived.Test.YtldndkngpdfpfaaGreatPOb
import Derived.Lib.SlBytesRow
import Derived.Maps.RangeWalk
namespace Go.Proofs.YtldndkngpdfpfaaGreat
open Go.RowKit Go.Shelf
attribute [local go_sem] Oper.semAt_some
set_option linter.unusedSimpArgs false
structure RS (X:World) (ns:List Sym) (left out:List Elem) (AL:Option Addr) (cL:Nat) (AO:Option Addr) (cO:Nat) (AN:Option Addr) (cN:Nat) (w:World):Prop where
 lo:w.ownsRow 0 55 12 (.slice AL left.length cL) left.length (left.flatMap Elem.cells)
 la:AIn AL (X.heap.size≤·)
 oo:w.ownsRow 0 55 12 (.slice AO out.length cO) out.length (out.flatMap Elem.cells)
 oa:AIn AO (X.heap.size≤·)
 no:w.ownsRow 0 23 3 (.slice AN ns.length cN) ns.length (ns.flatMap Sym.cells)
 na:AIn AN (X.heap.size≤·)
 ne : ∀a b,AL=some a→AO=some b→a.block≠b.block
 bel:Below X.heap.size X w
section
variable {X w w':World} {ns:List Sym} {left out:List Elem} {AL:Option Addr} {cL:Nat} {AO:Option Addr} {cO:Nat} {AN:Option Addr} {cN:Nat}
theorem RS.new_ (h:RS X ns left out AL cL AO cO AN cN w) (hb:Below w.heap.size w w'):RS X ns left out AL cL AO cO AN cN w':=
 ⟨ownsRow_new h.lo hb,h.la,ownsRow_new h.oo hb,h.oa,ownsRow_new h.no hb,h.na,h.ne,h.bel.trans (hb.mono h.bel.size)⟩
theorem RS.left_ {left2:List Elem} {A2:Option Addr} {c2:Nat} (h:RS X ns left out AL cL AO cO AN cN w) (hb:Below w.heap.size w w') (hO:w'.ownsRow 0 55 12 (.slice A2 left2.length c2) left2.length (left2.flatMap Elem.cells)) (hA:AIn A2 (w.heap.size≤·)):RS X ns left2 out A2 c2 AO cO AN cN w':=by
 have h1:=h.new_ hb
 refine ⟨hO,fun a ha=>Nat.le_trans h.bel.size (hA a ha),h1.oo,h1.oa,h1.no,h1.na,fun a b ha hb2 e=>?_,h1.bel⟩
 have l1:=ain_lt h.oo b hb2
 have l2:w.heap.size≤a.block:=hA a ha
 omega
theorem RS.more (h:RS X ns left out AL cL AO cO AN cN w) {e:Elem} {v:Value} (hown:w'.ownsRow 0 55 12 v (out.length+1) (out.flatMap Elem.cells ++ [e].flatMap Elem.cells))
 (hg:w.grownBy w' (Value.slice AO out.length cO).ownBlock) (hat:v.ownBlock=(Value.slice AO out.length cO).ownBlock∨v.ownBlock=some w.heap.size) : ∃A' c',v = .slice A' (out ++ [e]).length c'∧RS X ns left (out ++ [e]) AL cL A' c' AN cN w'∧Fr (fun j=>∃a,AO=some a∧a.block=j) w w':=by
 obtain ⟨A',c',rfl,hF,hA,hO⟩:=grown_own (E:=fun j=>∃a,AO=some a∧a.block=j) (fun a ha=>⟨a,ha,rfl⟩) hown hg hat
 have e2:(out ++ [e]).length=out.length+1:=by simp
 have hsz:=h.bel.size
 refine ⟨A',c',by rw [e2],⟨ownsRow_fr h.lo hF (fun g hg ⟨a,ha,e⟩=>?_),h.la,by rw [e2,List.flatMap_append];exact hO,fun a ha=>?_,ownsRow_fr h.no hF (fun g hg ⟨a,ha,e⟩=>own_own_ne h.no h.oo (by decide) hg (by subst ha;subst e;rfl)),h.na,fun a b ha hb=>?_,h.bel.trans (hF.below hsz (fun j hj ⟨a,ha,e⟩=>by have:X.heap.size≤a.block:=h.oa a ha;omega))⟩,hF⟩
 · cases AL with
   | none=>cases hg
   | some b=>injection hg with hg;exact h.ne b a rfl ha (hg.trans e.symm)
 · rcases hA a ha with ⟨b,hb,e⟩ | ⟨h1,_⟩
   · rw [← e];exact h.oa b hb
   · exact Nat.le_trans hsz h1
 · rcases hA b hb with ⟨b',hb',e⟩ | ⟨h1,_⟩
   · rw [← e];exact h.ne a b' ha hb'
   · have:=ain_lt h.lo a ha;omega
theorem RS.name (h:RS X ns left out AL cL AO cO AN cN w) {s:Sym} {v:Value} (hown:w'.ownsRow 0 23 3 v (ns.length+1) (ns.flatMap Sym.cells ++ [s].flatMap Sym.cells))
 (hg:w.grownBy w' (Value.slice AN ns.length cN).ownBlock) (hat:v.ownBlock=(Value.slice AN ns.length cN).ownBlock∨v.ownBlock=some w.heap.size) : ∃A' c',v = .slice A' (ns ++ [s]).length c'∧RS X (ns ++ [s]) left out AL cL AO cO A' c' w'∧(∀g t cs,t≠23→Blk w g t cs→Blk w' g t cs):=by
 obtain ⟨A',c',rfl,hF,hA,hO⟩:=grown_own (E:=fun j=>∃a,AN=some a∧a.block=j) (fun a ha=>⟨a,ha,rfl⟩) hown hg hat
 have e2:(ns ++ [s]).length=ns.length+1:=by simp
 have hsz:=h.bel.size
 have nR : ∀{n c:Nat} {A:Option Addr} {xs:List Value},w.ownsRow 0 55 12 (.slice A n c) n xs→w'.ownsRow 0 55 12 (.slice A n c) n xs:=fun ho=>ownsRow_fr ho hF (fun g hg ⟨a,ha,e⟩=>own_own_ne ho h.no (by decide) hg (by subst ha;subst e;rfl))
 refine ⟨A',c',by rw [e2],⟨nR h.lo,h.la,nR h.oo,h.oa,by rw [e2,List.flatMap_append];exact hO,fun a ha=>?_,h.ne,h.bel.trans (hF.below hsz (fun j hj ⟨a,ha,e⟩=>by have:X.heap.size≤a.block:=h.na a ha;omega))⟩,fun g t cs ht hb=>hb.fr hF (fun ⟨a,ha,e⟩=>own_blk_ne h.no hb (Ne.symm ht) (by subst ha;subst e;rfl))⟩
 rcases hA a ha with ⟨b,hb,e⟩ | ⟨h1,_⟩
 · rw [← e];exact h.na b hb
 · exact Nat.le_trans hsz h1
theorem RS.at_ (h:RS X ns left out AL cL AO cO AN cN w) {i:Nat} (hi:i<left.length) : ∃g off,AL=some ⟨g,off,none⟩∧g<w.heap.size∧w.rangeAt g (off+i*12) (Elem.cells left[i]):=by
 obtain ⟨b,off,h1,h2,h3⟩:=(ownsRow_rd Elem.cells_length h.lo).at_ hi
 exact ⟨b,off,h1,h2,fun j u hu=>h3 j u hu⟩
end
theorem OrderTo.no {l:List Elem} {w w':World} (h:orderV l=none) (hb:Below w.heap.size w w'):OrderTo l w (.returned (.tuple #[.slice none 0 0,.slice none 0 0,.bool false])) w':=by
 refine ⟨hb,?_⟩
 rw [h]
theorem OrderTo.yes {X w:World} {l:List Elem} {ns:List Sym} {left out:List Elem} {AL:Option Addr} {cL:Nat} {AO:Option Addr} {cO:Nat} {AN:Option Addr} {cN:Nat} (h:orderV l=some (out,ns)) (hs:RS X ns left out AL cL AO cO AN cN w):OrderTo l X (.returned (.tuple #[.slice AO out.length cO,.slice AN ns.length cN,.bool true])) w:=by
 refine ⟨hs.bel,?_⟩
 rw [h]
 exact ⟨AO,cO,AN,cN,rfl,ownsRow_rd Elem.cells_length hs.oo,ownsRow_rd Sym.cells_length hs.no⟩
theorem inf_SymR:(Tryz.prog.info? 23).map (fun i=>(i.zero,i.size,i.bytes))=some (some (.agg #[.int .i64 0,.string ⟨#[]⟩,.int .i64 0]),3,32):=by kernel_rfl
set_option maxRecDepth 100000 in
set_option maxHeartbeats 16000000 in
theorem rorder_is (l:List Elem) (A:Option Addr) (c:Nat) (X:World) (h:RowRd X 12 Elem.cells A c l) (hl:l.length≤300):Calls Tryz.prog 40 #[.slice A l.length c] X (OrderTo l X):=by
 obtain ⟨i0,hi0,hz0,hz1,hz2⟩:=infp inf_Elem
 obtain ⟨i1,hi1,hy0,hy1,hy2⟩:=infp inf_SymR
 have HR:=Lib.hid h
 have hc1:=h.cap
 clear h
 go_enter Tryz.func40,Tryz.ntmps40
 go_upto_region 2 with (at_builtin;refine wpList_append_src X rfl (.const (.slice none 0 0)) (.tmp 11) 84 rfl 55 i0 _ 12 112 Tryz.underlying84 hi0 hz0 hz1 hz2 rfl (by omega) (.slice none 0 0) 0 [] rfl ⟨by simp,.inl ⟨rfl,rfl⟩⟩ A l.length c (l.flatMap Elem.cells) rfl (flat_length Elem.cells_length _) (HR.out.news Elem.cells_length (by omega)) (one_Elem _) (by unfold maxLen;omega) (by omega) ?_;intro v1 w3 hown1 hg1 hnil1 hat1;obtain ⟨AL0,cL0,rfl,hF1,hA1,hO1⟩:=grown_own (E:=fun _=>False) (A:=none) (c:=0) (n:=0) (fun a ha=>by cases ha) hown1 hg1 hat1;rw [Nat.zero_add,List.nil_append] at hO1;rw [Nat.zero_add];have HO1:=Lib.hid (And.intro hF1 (And.intro hA1 hO1));clear hown1 hg1 hnil1 hat1 hF1 hA1 hO1)
 have HLS:=Lib.hid (show RS X [] l [] AL0 cL0 none 0 none 0 w3 by
  obtain ⟨hF,hA,hO⟩:=HO1.out
  refine ⟨hO,fun a ha=>?_,⟨by simp,.inl ⟨rfl,rfl⟩⟩,AIn.none_ _,⟨by simp,.inl ⟨rfl,rfl⟩⟩,AIn.none_ _,fun _ _ _ hb=>(by cases hb),hF.below (Nat.le_refl _) (fun _ _ h=>h)⟩
  rcases hA a ha with h | ⟨h1,_⟩
  · exact h.elim
  · exact h1)
 clear HO1 HR
 go_upto_region 4 with fail
 go_loopw [5,6,7] (fun vl vo vn wr=>∃(left out:List Elem) (ns:List Sym) (AL:Option Addr) (cL:Nat) (AO:Option Addr) (cO:Nat) (AN:Option Addr) (cN:Nat),vl = .slice AL left.length cL∧vo = .slice AO out.length cO∧vn = .slice AN ns.length cN∧RS X ns left out AL cL AO cO AN cN wr∧left.length+out.length≤300∧ns.length≤2*out.length∧laidV left.length ns left out=orderV l) (fun vl vo vn wr=>lenV vl)
 case atStart=>exact ⟨l,[],[],AL0,cL0,none,0,none,0,rfl,rfl,rfl,HLS.out,by simpa using hl,by simp,rfl⟩
 case round=>
  clear HLS
  obtain ⟨left,out,ns,AL,cL,AO,cO,AN,cN,rfl,rfl,rfl,hls,hlen,hns,hlv⟩:=hrel
  have HS0:=Lib.hid hls
  have HLV:=Lib.hid hlv
  have hcl:=(ownsRow_rd Elem.cells_length hls.lo).cap
  have hcm:left.length≤cL:=(ownsRow_rd Elem.cells_length hls.lo).1
  clear hls hlv
  by_cases he:left.length=0
  · have hl0:left = []:=List.length_eq_zero_iff.1 he
    have HOV:=Lib.hid (show orderV l=some (out,ns) by rw [← HLV.out,hl0];exact laidV_nil)
    clear HLV
    go_wp2_with fail
    exact bodyPost_ret (v:=.tuple #[.slice AO out.length cO,.slice AN ns.length cN,.bool true]) (by simp [results,Tryz.results40,go_sem, *]) rfl (OrderTo.yes HOV.out HS0.out)
  · have hl1:(0:Int)<(left.length:Int):=by omega
    have hl2:0<left.length:=by omega
    go_upto_region 7 with fail
    go_loopw [8,9] (fun vb vi W=>∃i:Nat,vi = .int .i64 (i:Int)∧i≤left.length∧vb = .int .i64 (bestZ (bestS ns left i))∧RS X ns left out AL cL AO cO AN cN W) (fun vb vi W=>left.length - (intOf vi).toNat)
    case atStart=>exact ⟨0,rfl,Nat.zero_le _,rfl,HS0.out⟩
    case round=>
     obtain ⟨i,rfl,hi,rfl,hls⟩:=hrel
     have HS:=Lib.hid hls
     clear hls
     by_cases hlt:i<left.length
     · skip
       obtain ⟨y,hy⟩ : ∃y,y=left[i]:=⟨_,rfl⟩
       have HY:=Lib.hid hy
       obtain ⟨g,off,hAA,hgl,hrg⟩:=HS.out.at_ hlt
       rw [← hy] at hrg
       subst hAA
       have HRG:=Lib.hid (show wr.rangeAt g (off+i*12) [.int .i64 y.id.kind,.string y.id.text,.int .i64 y.id.n,.int .i64 y.attr.kind,.string y.attr.text,.int .i64 y.attr.n,.int .i64 y.value.kind,.string y.value.text,.int .i64 y.value.n,.bool y.acc,.bool y.goal,.int .i64 y.tag] from hrg)
       clear hy
       have HYI:=Lib.hid (show left[i]? = some y by rw [HY.out];exact List.getElem?_eq_getElem hlt)
       have j1:(0:Int)≤(i:Int):=by omega
       have j2:(i:Int)<(left.length:Int):=by omega
       have q0:=hrg 0 _ rfl
       have q1:=hrg 1 _ rfl
       have q2:=hrg 2 _ rfl
       have q10:=hrg 10 _ rfl
       rw [Nat.add_zero] at q0
       have hgz:=hgl
       clear hrg hgl
       obtain ⟨bs,hbs⟩ : ∃bs,bs=bestS ns left i:=⟨_,rfl⟩
       have HBS:=Lib.hid hbs.symm
       rw [← hbs]
       clear hbs
       obtain ⟨p,hp⟩ : ∃p,p=(plV ns y.id:Int) - 1:=⟨_,rfl⟩
       have HPC:=Lib.hid (show ∀W,Below wr.heap.size wr W→Calls Tryz.prog 74 #[.slice AN ns.length cN,.agg #[.int .i64 y.id.kind,.string y.id.text,.int .i64 y.id.n]] W fun e w'=>e = .returned (.int .i64 p)∧Below W.heap.size W w' from fun W hW=>by rw [hp];exact rplace_is AN cN ns y.id W (ownsRow_rd Sym.cells_length (ownsRow_new HS.out.no hW)))
       have HGO:=Lib.hid (show canN ns y=(y.goal || !decide (plV ns y.id=0)) from rfl)
       obtain ⟨gb,hgb⟩ : ∃gb,gb=y.goal:=⟨_,rfl⟩
       have HGB:=Lib.hid hgb
       rw [← hgb] at q10 HGO
       have HPP:=Lib.hid hp
       clear hp hgb
       by_cases hp0:0≤p
       · skip
         have HCAN:=Lib.hid (show canN ns y=true by have h1:=HPP.out;have h2:plV ns y.id≠0:=(by omega);rw [HGO.out];simp [h2])
         have r1:decide (0≤p)=true:=by simpa using hp0
         cases bs with
         | none=>
           have HBN:=Lib.hid (bestS_first HYI.out HCAN.out HBS.out)
           dsimp only [bestZ]
           go_upto_region 9 with fail
           refine wp_region_E (fun w9=>Below wr.heap.size wr w9) [(0,0),(1,0),(2,0),(3,0),(4,0),(5,1),(6,2),(7,0),(8,0),(9,0),(10,0),(11,0),(12,0),(13,1),(14,0),(15,0),(16,0),(17,0),(18,0),(19,0),(20,0),(21,0),(22,0),(23,1),(24,0),(25,0),(26,0),(27,1),(28,2),(29,0),(30,0)] (by kernel_rfl) (by kernel_rfl) (fun KK hKK=>?_)
           simp only [beside,List.filterMap_cons,List.filterMap_nil,List.getElem?_toArray,List.getElem?_cons_zero,List.getElem?_cons_succ,Option.map_some]
           repeat ((first | (refine wpX_l _ (HB6.out) (yieldsIf_load_mid (by rfl) 55 _ rfl g (off+i*12) rfl [.int .i64 y.id.kind,.string y.id.text,.int .i64 y.id.n,.int .i64 y.attr.kind,.string y.attr.text,.int .i64 y.attr.n,.int .i64 y.value.kind,.string y.value.text,.int .i64 y.value.n,.bool y.acc,.bool y.goal,.int .i64 y.tag] _ (fun w9 hw9=>rangeAt_below HRG.out hw9 hgz) Tryz.underlying55 rfl (by kernel_rfl)) ?_) | (refine wpX_l _ (HB6.out) (yieldsIf_load_mid (by rfl) 55 _ rfl g (off+k*12) rfl [.int .i64 b.id.kind,.string b.id.text,.int .i64 b.id.n,.int .i64 b.attr.kind,.string b.attr.text,.int .i64 b.attr.n,.int .i64 b.value.kind,.string b.value.text,.int .i64 b.value.n,.bool b.acc,.bool b.goal,.int .i64 b.tag] _ (fun w9 hw9=>rangeAt_below HRB.out hw9 hgz) Tryz.underlying55 rfl (by kernel_rfl)) ?_) | (refine wpX_w ?_ (Or.inl ⟨by rfl,fun w9=>?_⟩) ?_;rotate_left 1;go_simp;with_reducible rfl) | (refine wpX_l ?_ (((Below.refl _ _).drew)) (Or.inl ⟨by rfl,fun w9 hw9=>?_⟩) ?_;rotate_left 1;obtain ⟨hc9,hf9⟩:=bcell hw9;go_simp;with_reducible rfl) | refine wpX_w undef (Or.inr ⟨by rfl,rfl⟩) ?_ | refine wpX_l undef (((Below.refl _ _).drew)) (Or.inr ⟨by rfl,rfl⟩) ?_);go_frame)
           refine wpX_es (fun K9 hK9=>?_)
           go_simp
           refine (HPC.out _ ((Below.refl wr.heap.size wr).drew)).mono ?_
           rintro e w6 ⟨rfl,hb6⟩
           have HB6:=Lib.hid (((Below.refl wr.heap.size wr).drew).trans (hb6.mono (by simp)))
           clear hb6
           refine hK9 _ _ HB6.out ?_
           clear hK9 K9
           repeat ((first | (refine wpX_l _ (HB6.out) (yieldsIf_load_mid (by rfl) 55 _ rfl g (off+i*12) rfl [.int .i64 y.id.kind,.string y.id.text,.int .i64 y.id.n,.int .i64 y.attr.kind,.string y.attr.text,.int .i64 y.attr.n,.int .i64 y.value.kind,.string y.value.text,.int .i64 y.value.n,.bool y.acc,.bool y.goal,.int .i64 y.tag] _ (fun w9 hw9=>rangeAt_below HRG.out hw9 hgz) Tryz.underlying55 rfl (by kernel_rfl)) ?_) | (refine wpX_l _ (HB6.out) (yieldsIf_load_mid (by rfl) 55 _ rfl g (off+k*12) rfl [.int .i64 b.id.kind,.string b.id.text,.int .i64 b.id.n,.int .i64 b.attr.kind,.string b.attr.text,.int .i64 b.attr.n,.int .i64 b.value.kind,.string b.value.text,.int .i64 b.value.n,.bool b.acc,.bool b.goal,.int .i64 b.tag] _ (fun w9 hw9=>rangeAt_below HRB.out hw9 hgz) Tryz.underlying55 rfl (by kernel_rfl)) ?_) | (refine wpX_w ?_ (Or.inl ⟨by rfl,fun w9=>?_⟩) ?_;rotate_left 1;go_simp;with_reducible rfl) | (refine wpX_l ?_ (HB6.out) (Or.inl ⟨by rfl,fun w9 hw9=>?_⟩) ?_;rotate_left 1;obtain ⟨hc9,hf9⟩:=bcell hw9;go_simp;with_reducible rfl) | refine wpX_w undef (Or.inr ⟨by rfl,rfl⟩) ?_ | refine wpX_l undef (HB6.out) (Or.inr ⟨by rfl,rfl⟩) ?_);go_frame)
           refine wpX_es (fun K9 hK9=>?_)
           go_simp
           refine hK9 _ _ (HB6.out) ?_
           clear hK9 K9
           repeat ((first | (refine wpX_l _ (HB6.out) (yieldsIf_load_mid (by rfl) 55 _ rfl g (off+i*12) rfl [.int .i64 y.id.kind,.string y.id.text,.int .i64 y.id.n,.int .i64 y.attr.kind,.string y.attr.text,.int .i64 y.attr.n,.int .i64 y.value.kind,.string y.value.text,.int .i64 y.value.n,.bool y.acc,.bool y.goal,.int .i64 y.tag] _ (fun w9 hw9=>rangeAt_below HRG.out hw9 hgz) Tryz.underlying55 rfl (by kernel_rfl)) ?_) | (refine wpX_l _ (HB6.out) (yieldsIf_load_mid (by rfl) 55 _ rfl g (off+k*12) rfl [.int .i64 b.id.kind,.string b.id.text,.int .i64 b.id.n,.int .i64 b.attr.kind,.string b.attr.text,.int .i64 b.attr.n,.int .i64 b.value.kind,.string b.value.text,.int .i64 b.value.n,.bool b.acc,.bool b.goal,.int .i64 b.tag] _ (fun w9 hw9=>rangeAt_below HRB.out hw9 hgz) Tryz.underlying55 rfl (by kernel_rfl)) ?_) | (refine wpX_w ?_ (Or.inl ⟨by rfl,fun w9=>?_⟩) ?_;rotate_left 1;go_simp;with_reducible rfl) | (refine wpX_l ?_ (HB6.out) (Or.inl ⟨by rfl,fun w9 hw9=>?_⟩) ?_;rotate_left 1;obtain ⟨hc9,hf9⟩:=bcell hw9;go_simp;with_reducible rfl) | refine wpX_w undef (Or.inr ⟨by rfl,rfl⟩) ?_ | refine wpX_l undef (HB6.out) (Or.inr ⟨by rfl,rfl⟩) ?_);go_frame)
           refine wpX_nil ?_
           simp only [OnlyN_normal]
           refine hKK _ _ ?_
           clear hKK KK
           have HS6:=Lib.hid (HS.out.new_ HB6.out)
           go_wp2_with fail
           go_roundw
           case rel=>exact ⟨i+1,by go_num,by omega,by rw [HBN.out]<;>rfl,HS6.out⟩
           case measure=>simp [intOf]<;>omega
         | some k=>
           have hkl:=bestS_lt HBS.out
           obtain ⟨b,hb⟩ : ∃b,b=left[k]'hkl.2:=⟨_,rfl⟩
           have HBI:=Lib.hid (show left[k]? = some b by rw [hb];exact List.getElem?_eq_getElem hkl.2)
           obtain ⟨g2,off2,hA2,hgl2,hrg2⟩:=HS.out.at_ hkl.2
           rw [← hb] at hrg2
           injection hA2 with hA2
           injection hA2 with hA2 hA3
           subst hA2;subst hA3
           have HRB:=Lib.hid (show wr.rangeAt g (off+k*12) [.int .i64 b.id.kind,.string b.id.text,.int .i64 b.id.n,.int .i64 b.attr.kind,.string b.attr.text,.int .i64 b.attr.n,.int .i64 b.value.kind,.string b.value.text,.int .i64 b.value.n,.bool b.acc,.bool b.goal,.int .i64 b.tag] from hrg2)
           obtain ⟨va,hva⟩ : ∃va,va=aheadV ns y b:=⟨_,rfl⟩
           have HBM:=Lib.hid (bestS_more HYI.out HCAN.out HBS.out HBI.out va hva.symm)
           have HAH:=Lib.hid (show ∀W,Below wr.heap.size wr W→Calls Tryz.prog 75 #[.slice AN ns.length cN,.agg #[.int .i64 y.id.kind,.string y.id.text,.int .i64 y.id.n,.int .i64 y.attr.kind,.string y.attr.text,.int .i64 y.attr.n,.int .i64 y.value.kind,.string y.value.text,.int .i64 y.value.n,.bool y.acc,.bool y.goal,.int .i64 y.tag],.agg #[.int .i64 b.id.kind,.string b.id.text,.int .i64 b.id.n,.int .i64 b.attr.kind,.string b.attr.text,.int .i64 b.attr.n,.int .i64 b.value.kind,.string b.value.text,.int .i64 b.value.n,.bool b.acc,.bool b.goal,.int .i64 b.tag]] W fun e w'=>e = .returned (.bool va)∧Below W.heap.size W w' from fun W hW=>by rw [hva];exact rahead_is AN cN ns y b W (ownsRow_rd Sym.cells_length (ownsRow_new HS.out.no hW)))
           have hk1:(0:Int)≤(k:Int):=by omega
           have hk2:(k:Int)<(left.length:Int):=by omega
           have hk3 : ¬(k:Int)<0:=by omega
           have hk4:decide ((k:Int)<0)=false:=by simp
           clear hva hb hrg2 hgl2 hkl
           dsimp only [bestZ]
           go_upto_region 9 with fail
           refine wp_region_E (fun w9=>Below wr.heap.size wr w9) [(0,0),(1,0),(2,0),(3,0),(4,0),(5,1),(6,2),(7,0),(8,0),(9,0),(10,0),(11,0),(12,0),(13,1),(14,0),(15,0),(16,0),(17,0),(18,0),(19,0),(20,0),(21,0),(22,0),(23,1),(24,0),(25,0),(26,0),(27,1),(28,2),(29,0),(30,0)] (by kernel_rfl) (by kernel_rfl) (fun KK hKK=>?_)
           simp only [beside,List.filterMap_cons,List.filterMap_nil,List.getElem?_toArray,List.getElem?_cons_zero,List.getElem?_cons_succ,Option.map_some]
           repeat ((first | (refine wpX_l _ (HB6.out) (yieldsIf_load_mid (by rfl) 55 _ rfl g (off+i*12) rfl [.int .i64 y.id.kind,.string y.id.text,.int .i64 y.id.n,.int .i64 y.attr.kind,.string y.attr.text,.int .i64 y.attr.n,.int .i64 y.value.kind,.string y.value.text,.int .i64 y.value.n,.bool y.acc,.bool y.goal,.int .i64 y.tag] _ (fun w9 hw9=>rangeAt_below HRG.out hw9 hgz) Tryz.underlying55 rfl (by kernel_rfl)) ?_) | (refine wpX_l _ (HB6.out) (yieldsIf_load_mid (by rfl) 55 _ rfl g (off+k*12) rfl [.int .i64 b.id.kind,.string b.id.text,.int .i64 b.id.n,.int .i64 b.attr.kind,.string b.attr.text,.int .i64 b.attr.n,.int .i64 b.value.kind,.string b.value.text,.int .i64 b.value.n,.bool b.acc,.bool b.goal,.int .i64 b.tag] _ (fun w9 hw9=>rangeAt_below HRB.out hw9 hgz) Tryz.underlying55 rfl (by kernel_rfl)) ?_) | (refine wpX_w ?_ (Or.inl ⟨by rfl,fun w9=>?_⟩) ?_;rotate_left 1;go_simp;with_reducible rfl) | (refine wpX_l ?_ (((Below.refl _ _).drew)) (Or.inl ⟨by rfl,fun w9 hw9=>?_⟩) ?_;rotate_left 1;obtain ⟨hc9,hf9⟩:=bcell hw9;go_simp;with_reducible rfl) | refine wpX_w undef (Or.inr ⟨by rfl,rfl⟩) ?_ | refine wpX_l undef (((Below.refl _ _).drew)) (Or.inr ⟨by rfl,rfl⟩) ?_);go_frame)
           refine wpX_es (fun K9 hK9=>?_)
           go_simp
           refine (HPC.out _ ((Below.refl wr.heap.size wr).drew)).mono ?_
           rintro e w6 ⟨rfl,hb6⟩
           have HB6:=Lib.hid (((Below.refl wr.heap.size wr).drew).trans (hb6.mono (by simp)))
           clear hb6
           refine hK9 _ _ HB6.out ?_
           clear hK9 K9
           repeat ((first | (refine wpX_l _ (HB6.out) (yieldsIf_load_mid (by rfl) 55 _ rfl g (off+i*12) rfl [.int .i64 y.id.kind,.string y.id.text,.int .i64 y.id.n,.int .i64 y.attr.kind,.string y.attr.text,.int .i64 y.attr.n,.int .i64 y.value.kind,.string y.value.text,.int .i64 y.value.n,.bool y.acc,.bool y.goal,.int .i64 y.tag] _ (fun w9 hw9=>rangeAt_below HRG.out hw9 hgz) Tryz.underlying55 rfl (by kernel_rfl)) ?_) | (refine wpX_l _ (HB6.out) (yieldsIf_load_mid (by rfl) 55 _ rfl g (off+k*12) rfl [.int .i64 b.id.kind,.string b.id.text,.int .i64 b.id.n,.int .i64 b.attr.kind,.string b.attr.text,.int .i64 b.attr.n,.int .i64 b.value.kind,.string b.value.text,.int .i64 b.value.n,.bool b.acc,.bool b.goal,.int .i64 b.tag] _ (fun w9 hw9=>rangeAt_below HRB.out hw9 hgz) Tryz.underlying55 rfl (by kernel_rfl)) ?_) | (refine wpX_w ?_ (Or.inl ⟨by rfl,fun w9=>?_⟩) ?_;rotate_left 1;go_simp;with_reducible rfl) | (refine wpX_l ?_ (HB6.out) (Or.inl ⟨by rfl,fun w9 hw9=>?_⟩) ?_;rotate_left 1;obtain ⟨hc9,hf9⟩:=bcell hw9;go_simp;with_reducible rfl) | refine wpX_w undef (Or.inr ⟨by rfl,rfl⟩) ?_ | refine wpX_l undef (HB6.out) (Or.inr ⟨by rfl,rfl⟩) ?_);go_frame)
           refine wpX_es (fun K9 hK9=>?_)
           go_simp
           refine (HAH.out _ HB6.out).mono ?_
           rintro e w7 ⟨rfl,hb7⟩
           have HB7:=Lib.hid (HB6.out.trans (hb7.mono HB6.out.size))
           clear hb7
           refine hK9 _ _ HB7.out ?_
           clear hK9 K9
           repeat ((first | (refine wpX_l _ (HB6.out) (yieldsIf_load_mid (by rfl) 55 _ rfl g (off+i*12) rfl [.int .i64 y.id.kind,.string y.id.text,.int .i64 y.id.n,.int .i64 y.attr.kind,.string y.attr.text,.int .i64 y.attr.n,.int .i64 y.value.kind,.string y.value.text,.int .i64 y.value.n,.bool y.acc,.bool y.goal,.int .i64 y.tag] _ (fun w9 hw9=>rangeAt_below HRG.out hw9 hgz) Tryz.underlying55 rfl (by kernel_rfl)) ?_) | (refine wpX_l _ (HB6.out) (yieldsIf_load_mid (by rfl) 55 _ rfl g (off+k*12) rfl [.int .i64 b.id.kind,.string b.id.text,.int .i64 b.id.n,.int .i64 b.attr.kind,.string b.attr.text,.int .i64 b.attr.n,.int .i64 b.value.kind,.string b.value.text,.int .i64 b.value.n,.bool b.acc,.bool b.goal,.int .i64 b.tag] _ (fun w9 hw9=>rangeAt_below HRB.out hw9 hgz) Tryz.underlying55 rfl (by kernel_rfl)) ?_) | (refine wpX_w ?_ (Or.inl ⟨by rfl,fun w9=>?_⟩) ?_;rotate_left 1;go_simp;with_reducible rfl) | (refine wpX_l ?_ (HB7.out) (Or.inl ⟨by rfl,fun w9 hw9=>?_⟩) ?_;rotate_left 1;obtain ⟨hc9,hf9⟩:=bcell hw9;go_simp;with_reducible rfl) | refine wpX_w undef (Or.inr ⟨by rfl,rfl⟩) ?_ | refine wpX_l undef (HB7.out) (Or.inr ⟨by rfl,rfl⟩) ?_);go_frame)
           refine wpX_nil ?_
           simp only [OnlyN_normal]
           refine hKK _ _ ?_
           clear hKK KK
           have HS7:=Lib.hid (HS.out.new_ HB7.out)
           cases va
           · go_wp2_with fail
             go_roundw
             case rel=>exact ⟨i+1,by go_num,by omega,by rw [HBM.out]<;>rfl,HS7.out⟩
             case measure=>simp [intOf]<;>omega
           · go_wp2_with fail
             go_roundw
             case rel=>exact ⟨i+1,by go_num,by omega,by rw [HBM.out]<;>rfl,HS7.out⟩
             case measure=>simp [intOf]<;>omega
       · skip
         have r1:decide (0≤p)=false:=by simpa using hp0
         have r2:p<0:=by omega
         cases gb
         · skip
           have HBK:=Lib.hid (bestS_skip HYI.out (show canN ns y=false by rw [HGO.out];have:=HPP.out;simp;omega))
           go_upto_region 9 with fail
           refine wp_region_E (fun w9=>Below wr.heap.size wr w9) [(0,0),(1,0),(2,0),(3,0),(4,0),(5,1),(6,2),(7,0),(8,0),(9,0),(10,0),(11,0),(12,0),(13,1),(14,0),(15,0),(16,0),(17,0),(18,0),(19,0),(20,0),(21,0),(22,0),(23,1),(24,0),(25,0),(26,0),(27,1),(28,2),(29,0),(30,0)] (by kernel_rfl) (by kernel_rfl) (fun KK hKK=>?_)
           simp only [beside,List.filterMap_cons,List.filterMap_nil,List.getElem?_toArray,List.getElem?_cons_zero,List.getElem?_cons_succ,Option.map_some]
           repeat ((first | (refine wpX_l _ (HB6.out) (yieldsIf_load_mid (by rfl) 55 _ rfl g (off+i*12) rfl [.int .i64 y.id.kind,.string y.id.text,.int .i64 y.id.n,.int .i64 y.attr.kind,.string y.attr.text,.int .i64 y.attr.n,.int .i64 y.value.kind,.string y.value.text,.int .i64 y.value.n,.bool y.acc,.bool y.goal,.int .i64 y.tag] _ (fun w9 hw9=>rangeAt_below HRG.out hw9 hgz) Tryz.underlying55 rfl (by kernel_rfl)) ?_) | (refine wpX_l _ (HB6.out) (yieldsIf_load_mid (by rfl) 55 _ rfl g (off+k*12) rfl [.int .i64 b.id.kind,.string b.id.text,.int .i64 b.id.n,.int .i64 b.attr.kind,.string b.attr.text,.int .i64 b.attr.n,.int .i64 b.value.kind,.string b.value.text,.int .i64 b.value.n,.bool b.acc,.bool b.goal,.int .i64 b.tag] _ (fun w9 hw9=>rangeAt_below HRB.out hw9 hgz) Tryz.underlying55 rfl (by kernel_rfl)) ?_) | (refine wpX_w ?_ (Or.inl ⟨by rfl,fun w9=>?_⟩) ?_;rotate_left 1;go_simp;with_reducible rfl) | (refine wpX_l ?_ (((Below.refl _ _).drew)) (Or.inl ⟨by rfl,fun w9 hw9=>?_⟩) ?_;rotate_left 1;obtain ⟨hc9,hf9⟩:=bcell hw9;go_simp;with_reducible rfl) | refine wpX_w undef (Or.inr ⟨by rfl,rfl⟩) ?_ | refine wpX_l undef (((Below.refl _ _).drew)) (Or.inr ⟨by rfl,rfl⟩) ?_);go_frame)
           refine wpX_es (fun K9 hK9=>?_)
           go_simp
           refine (HPC.out _ ((Below.refl wr.heap.size wr).drew)).mono ?_
           rintro e w6 ⟨rfl,hb6⟩
           have HB6:=Lib.hid (((Below.refl wr.heap.size wr).drew).trans (hb6.mono (by simp)))
           clear hb6
           refine hK9 _ _ HB6.out ?_
           clear hK9 K9
           repeat ((first | (refine wpX_l _ (HB6.out) (yieldsIf_load_mid (by rfl) 55 _ rfl g (off+i*12) rfl [.int .i64 y.id.kind,.string y.id.text,.int .i64 y.id.n,.int .i64 y.attr.kind,.string y.attr.text,.int .i64 y.attr.n,.int .i64 y.value.kind,.string y.value.text,.int .i64 y.value.n,.bool y.acc,.bool y.goal,.int .i64 y.tag] _ (fun w9 hw9=>rangeAt_below HRG.out hw9 hgz) Tryz.underlying55 rfl (by kernel_rfl)) ?_) | (refine wpX_l _ (HB6.out) (yieldsIf_load_mid (by rfl) 55 _ rfl g (off+k*12) rfl [.int .i64 b.id.kind,.string b.id.text,.int .i64 b.id.n,.int .i64 b.attr.kind,.string b.attr.text,.int .i64 b.attr.n,.int .i64 b.value.kind,.string b.value.text,.int .i64 b.value.n,.bool b.acc,.bool b.goal,.int .i64 b.tag] _ (fun w9 hw9=>rangeAt_below HRB.out hw9 hgz) Tryz.underlying55 rfl (by kernel_rfl)) ?_) | (refine wpX_w ?_ (Or.inl ⟨by rfl,fun w9=>?_⟩) ?_;rotate_left 1;go_simp;with_reducible rfl) | (refine wpX_l ?_ (HB6.out) (Or.inl ⟨by rfl,fun w9 hw9=>?_⟩) ?_;rotate_left 1;obtain ⟨hc9,hf9⟩:=bcell hw9;go_simp;with_reducible rfl) | refine wpX_w undef (Or.inr ⟨by rfl,rfl⟩) ?_ | refine wpX_l undef (HB6.out) (Or.inr ⟨by rfl,rfl⟩) ?_);go_frame)
           refine wpX_es (fun K9 hK9=>?_)
           go_simp
           refine hK9 _ _ (HB6.out) ?_
           clear hK9 K9
           repeat ((first | (refine wpX_l _ (HB6.out) (yieldsIf_load_mid (by rfl) 55 _ rfl g (off+i*12) rfl [.int .i64 y.id.kind,.string y.id.text,.int .i64 y.id.n,.int .i64 y.attr.kind,.string y.attr.text,.int .i64 y.attr.n,.int .i64 y.value.kind,.string y.value.text,.int .i64 y.value.n,.bool y.acc,.bool y.goal,.int .i64 y.tag] _ (fun w9 hw9=>rangeAt_below HRG.out hw9 hgz) Tryz.underlying55 rfl (by kernel_rfl)) ?_) | (refine wpX_l _ (HB6.out) (yieldsIf_load_mid (by rfl) 55 _ rfl g (off+k*12) rfl [.int .i64 b.id.kind,.string b.id.text,.int .i64 b.id.n,.int .i64 b.attr.kind,.string b.attr.text,.int .i64 b.attr.n,.int .i64 b.value.kind,.string b.value.text,.int .i64 b.value.n,.bool b.acc,.bool b.goal,.int .i64 b.tag] _ (fun w9 hw9=>rangeAt_below HRB.out hw9 hgz) Tryz.underlying55 rfl (by kernel_rfl)) ?_) | (refine wpX_w ?_ (Or.inl ⟨by rfl,fun w9=>?_⟩) ?_;rotate_left 1;go_simp;with_reducible rfl) | (refine wpX_l ?_ (HB6.out) (Or.inl ⟨by rfl,fun w9 hw9=>?_⟩) ?_;rotate_left 1;obtain ⟨hc9,hf9⟩:=bcell hw9;go_simp;with_reducible rfl) | refine wpX_w undef (Or.inr ⟨by rfl,rfl⟩) ?_ | refine wpX_l undef (HB6.out) (Or.inr ⟨by rfl,rfl⟩) ?_);go_frame)
           refine wpX_nil ?_
           simp only [OnlyN_normal]
           refine hKK _ _ ?_
           clear hKK KK
           have HS6:=Lib.hid (HS.out.new_ HB6.out)
           go_wp2_with fail
           go_roundw
           case rel=>exact ⟨i+1,by go_num,by omega,by rw [HBK.out,HBS.out],HS6.out⟩
           case measure=>simp [intOf]<;>omega
         · skip
           have HCAN:=Lib.hid (show canN ns y=true by rw [HGO.out];rfl)
           cases bs with
           | none=>
             have HBN:=Lib.hid (bestS_first HYI.out HCAN.out HBS.out)
             dsimp only [bestZ]
             go_upto_region 9 with fail
             refine wp_region_E (fun w9=>Below wr.heap.size wr w9) [(0,0),(1,0),(2,0),(3,0),(4,0),(5,1),(6,2),(7,0),(8,0),(9,0),(10,0),(11,0),(12,0),(13,1),(14,0),(15,0),(16,0),(17,0),(18,0),(19,0),(20,0),(21,0),(22,0),(23,1),(24,0),(25,0),(26,0),(27,1),(28,2),(29,0),(30,0)] (by kernel_rfl) (by kernel_rfl) (fun KK hKK=>?_)
             simp only [beside,List.filterMap_cons,List.filterMap_nil,List.getElem?_toArray,List.getElem?_cons_zero,List.getElem?_cons_succ,Option.map_some]
             repeat ((first | (refine wpX_l _ (HB6.out) (yieldsIf_load_mid (by rfl) 55 _ rfl g (off+i*12) rfl [.int .i64 y.id.kind,.string y.id.text,.int .i64 y.id.n,.int .i64 y.attr.kind,.string y.attr.text,.int .i64 y.attr.n,.int .i64 y.value.kind,.string y.value.text,.int .i64 y.value.n,.bool y.acc,.bool y.goal,.int .i64 y.tag] _ (fun w9 hw9=>rangeAt_below HRG.out hw9 hgz) Tryz.underlying55 rfl (by kernel_rfl)) ?_) | (refine wpX_l _ (HB6.out) (yieldsIf_load_mid (by rfl) 55 _ rfl g (off+k*12) rfl [.int .i64 b.id.kind,.string b.id.text,.int .i64 b.id.n,.int .i64 b.attr.kind,.string b.attr.text,.int .i64 b.attr.n,.int .i64 b.value.kind,.string b.value.text,.int .i64 b.value.n,.bool b.acc,.bool b.goal,.int .i64 b.tag] _ (fun w9 hw9=>rangeAt_below HRB.out hw9 hgz) Tryz.underlying55 rfl (by kernel_rfl)) ?_) | (refine wpX_w ?_ (Or.inl ⟨by rfl,fun w9=>?_⟩) ?_;rotate_left 1;go_simp;with_reducible rfl) | (refine wpX_l ?_ (((Below.refl _ _).drew)) (Or.inl ⟨by rfl,fun w9 hw9=>?_⟩) ?_;rotate_left 1;obtain ⟨hc9,hf9⟩:=bcell hw9;go_simp;with_reducible rfl) | refine wpX_w undef (Or.inr ⟨by rfl,rfl⟩) ?_ | refine wpX_l undef (((Below.refl _ _).drew)) (Or.inr ⟨by rfl,rfl⟩) ?_);go_frame)
             refine wpX_es (fun K9 hK9=>?_)
             go_simp
             refine (HPC.out _ ((Below.refl wr.heap.size wr).drew)).mono ?_
             rintro e w6 ⟨rfl,hb6⟩
             have HB6:=Lib.hid (((Below.refl wr.heap.size wr).drew).trans (hb6.mono (by simp)))
             clear hb6
             refine hK9 _ _ HB6.out ?_
             clear hK9 K9
             repeat ((first | (refine wpX_l _ (HB6.out) (yieldsIf_load_mid (by rfl) 55 _ rfl g (off+i*12) rfl [.int .i64 y.id.kind,.string y.id.text,.int .i64 y.id.n,.int .i64 y.attr.kind,.string y.attr.text,.int .i64 y.attr.n,.int .i64 y.value.kind,.string y.value.text,.int .i64 y.value.n,.bool y.acc,.bool y.goal,.int .i64 y.tag] _ (fun w9 hw9=>rangeAt_below HRG.out hw9 hgz) Tryz.underlying55 rfl (by kernel_rfl)) ?_) | (refine wpX_l _ (HB6.out) (yieldsIf_load_mid (by rfl) 55 _ rfl g (off+k*12) rfl [.int .i64 b.id.kind,.string b.id.text,.int .i64 b.id.n,.int .i64 b.attr.kind,.string b.attr.text,.int .i64 b.attr.n,.int .i64 b.value.kind,.string b.value.text,.int .i64 b.value.n,.bool b.acc,.bool b.goal,.int .i64 b.tag] _ (fun w9 hw9=>rangeAt_below HRB.out hw9 hgz) Tryz.underlying55 rfl (by kernel_rfl)) ?_) | (refine wpX_w ?_ (Or.inl ⟨by rfl,fun w9=>?_⟩) ?_;rotate_left 1;go_simp;with_reducible rfl) | (refine wpX_l ?_ (HB6.out) (Or.inl ⟨by rfl,fun w9 hw9=>?_⟩) ?_;rotate_left 1;obtain ⟨hc9,hf9⟩:=bcell hw9;go_simp;with_reducible rfl) | refine wpX_w undef (Or.inr ⟨by rfl,rfl⟩) ?_ | refine wpX_l undef (HB6.out) (Or.inr ⟨by rfl,rfl⟩) ?_);go_frame)
             refine wpX_es (fun K9 hK9=>?_)
             go_simp
             refine hK9 _ _ (HB6.out) ?_
             clear hK9 K9
             repeat ((first | (refine wpX_l _ (HB6.out) (yieldsIf_load_mid (by rfl) 55 _ rfl g (off+i*12) rfl [.int .i64 y.id.kind,.string y.id.text,.int .i64 y.id.n,.int .i64 y.attr.kind,.string y.attr.text,.int .i64 y.attr.n,.int .i64 y.value.kind,.string y.value.text,.int .i64 y.value.n,.bool y.acc,.bool y.goal,.int .i64 y.tag] _ (fun w9 hw9=>rangeAt_below HRG.out hw9 hgz) Tryz.underlying55 rfl (by kernel_rfl)) ?_) | (refine wpX_l _ (HB6.out) (yieldsIf_load_mid (by rfl) 55 _ rfl g (off+k*12) rfl [.int .i64 b.id.kind,.string b.id.text,.int .i64 b.id.n,.int .i64 b.attr.kind,.string b.attr.text,.int .i64 b.attr.n,.int .i64 b.value.kind,.string b.value.text,.int .i64 b.value.n,.bool b.acc,.bool b.goal,.int .i64 b.tag] _ (fun w9 hw9=>rangeAt_below HRB.out hw9 hgz) Tryz.underlying55 rfl (by kernel_rfl)) ?_) | (refine wpX_w ?_ (Or.inl ⟨by rfl,fun w9=>?_⟩) ?_;rotate_left 1;go_simp;with_reducible rfl) | (refine wpX_l ?_ (HB6.out) (Or.inl ⟨by rfl,fun w9 hw9=>?_⟩) ?_;rotate_left 1;obtain ⟨hc9,hf9⟩:=bcell hw9;go_simp;with_reducible rfl) | refine wpX_w undef (Or.inr ⟨by rfl,rfl⟩) ?_ | refine wpX_l undef (HB6.out) (Or.inr ⟨by rfl,rfl⟩) ?_);go_frame)
             refine wpX_nil ?_
             simp only [OnlyN_normal]
             refine hKK _ _ ?_
             clear hKK KK
             have HS6:=Lib.hid (HS.out.new_ HB6.out)
             go_wp2_with fail
             go_roundw
             case rel=>exact ⟨i+1,by go_num,by omega,by rw [HBN.out]<;>rfl,HS6.out⟩
             case measure=>simp [intOf]<;>omega
           | some k=>
             have hkl:=bestS_lt HBS.out
             obtain ⟨b,hb⟩ : ∃b,b=left[k]'hkl.2:=⟨_,rfl⟩
             have HBI:=Lib.hid (show left[k]? = some b by rw [hb];exact List.getElem?_eq_getElem hkl.2)
             obtain ⟨g2,off2,hA2,hgl2,hrg2⟩:=HS.out.at_ hkl.2
             rw [← hb] at hrg2
             injection hA2 with hA2
             injection hA2 with hA2 hA3
             subst hA2;subst hA3
             have HRB:=Lib.hid (show wr.rangeAt g (off+k*12) [.int .i64 b.id.kind,.string b.id.text,.int .i64 b.id.n,.int .i64 b.attr.kind,.string b.attr.text,.int .i64 b.attr.n,.int .i64 b.value.kind,.string b.value.text,.int .i64 b.value.n,.bool b.acc,.bool b.goal,.int .i64 b.tag] from hrg2)
             obtain ⟨va,hva⟩ : ∃va,va=aheadV ns y b:=⟨_,rfl⟩
             have HBM:=Lib.hid (bestS_more HYI.out HCAN.out HBS.out HBI.out va hva.symm)
             have HAH:=Lib.hid (show ∀W,Below wr.heap.size wr W→Calls Tryz.prog 75 #[.slice AN ns.length cN,.agg #[.int .i64 y.id.kind,.string y.id.text,.int .i64 y.id.n,.int .i64 y.attr.kind,.string y.attr.text,.int .i64 y.attr.n,.int .i64 y.value.kind,.string y.value.text,.int .i64 y.value.n,.bool y.acc,.bool y.goal,.int .i64 y.tag],.agg #[.int .i64 b.id.kind,.string b.id.text,.int .i64 b.id.n,.int .i64 b.attr.kind,.string b.attr.text,.int .i64 b.attr.n,.int .i64 b.value.kind,.string b.value.text,.int .i64 b.value.n,.bool b.acc,.bool b.goal,.int .i64 b.tag]] W fun e w'=>e = .returned (.bool va)∧Below W.heap.size W w' from fun W hW=>by rw [hva];exact rahead_is AN cN ns y b W (ownsRow_rd Sym.cells_length (ownsRow_new HS.out.no hW)))
             have hk1:(0:Int)≤(k:Int):=by omega
             have hk2:(k:Int)<(left.length:Int):=by omega
             have hk3 : ¬(k:Int)<0:=by omega
             have hk4:decide ((k:Int)<0)=false:=by simp
             clear hva hb hrg2 hgl2 hkl
             dsimp only [bestZ]
             go_upto_region 9 with fail
             refine wp_region_E (fun w9=>Below wr.heap.size wr w9) [(0,0),(1,0),(2,0),(3,0),(4,0),(5,1),(6,2),(7,0),(8,0),(9,0),(10,0),(11,0),(12,0),(13,1),(14,0),(15,0),(16,0),(17,0),(18,0),(19,0),(20,0),(21,0),(22,0),(23,1),(24,0),(25,0),(26,0),(27,1),(28,2),(29,0),(30,0)] (by kernel_rfl) (by kernel_rfl) (fun KK hKK=>?_)
             simp only [beside,List.filterMap_cons,List.filterMap_nil,List.getElem?_toArray,List.getElem?_cons_zero,List.getElem?_cons_succ,Option.map_some]
             repeat ((first | (refine wpX_l _ (HB6.out) (yieldsIf_load_mid (by rfl) 55 _ rfl g (off+i*12) rfl [.int .i64 y.id.kind,.string y.id.text,.int .i64 y.id.n,.int .i64 y.attr.kind,.string y.attr.text,.int .i64 y.attr.n,.int .i64 y.value.kind,.string y.value.text,.int .i64 y.value.n,.bool y.acc,.bool y.goal,.int .i64 y.tag] _ (fun w9 hw9=>rangeAt_below HRG.out hw9 hgz) Tryz.underlying55 rfl (by kernel_rfl)) ?_) | (refine wpX_l _ (HB6.out) (yieldsIf_load_mid (by rfl) 55 _ rfl g (off+k*12) rfl [.int .i64 b.id.kind,.string b.id.text,.int .i64 b.id.n,.int .i64 b.attr.kind,.string b.attr.text,.int .i64 b.attr.n,.int .i64 b.value.kind,.string b.value.text,.int .i64 b.value.n,.bool b.acc,.bool b.goal,.int .i64 b.tag] _ (fun w9 hw9=>rangeAt_below HRB.out hw9 hgz) Tryz.underlying55 rfl (by kernel_rfl)) ?_) | (refine wpX_w ?_ (Or.inl ⟨by rfl,fun w9=>?_⟩) ?_;rotate_left 1;go_simp;with_reducible rfl) | (refine wpX_l ?_ (((Below.refl _ _).drew)) (Or.inl ⟨by rfl,fun w9 hw9=>?_⟩) ?_;rotate_left 1;obtain ⟨hc9,hf9⟩:=bcell hw9;go_simp;with_reducible rfl) | refine wpX_w undef (Or.inr ⟨by rfl,rfl⟩) ?_ | refine wpX_l undef (((Below.refl _ _).drew)) (Or.inr ⟨by rfl,rfl⟩) ?_);go_frame)
             refine wpX_es (fun K9 hK9=>?_)
             go_simp
             refine (HPC.out _ ((Below.refl wr.heap.size wr).drew)).mono ?_
             rintro e w6 ⟨rfl,hb6⟩
             have HB6:=Lib.hid (((Below.refl wr.heap.size wr).drew).trans (hb6.mono (by simp)))
             clear hb6
             refine hK9 _ _ HB6.out ?_
             clear hK9 K9
             repeat ((first | (refine wpX_l _ (HB6.out) (yieldsIf_load_mid (by rfl) 55 _ rfl g (off+i*12) rfl [.int .i64 y.id.kind,.string y.id.text,.int .i64 y.id.n,.int .i64 y.attr.kind,.string y.attr.text,.int .i64 y.attr.n,.int .i64 y.value.kind,.string y.value.text,.int .i64 y.value.n,.bool y.acc,.bool y.goal,.int .i64 y.tag] _ (fun w9 hw9=>rangeAt_below HRG.out hw9 hgz) Tryz.underlying55 rfl (by kernel_rfl)) ?_) | (refine wpX_l _ (HB6.out) (yieldsIf_load_mid (by rfl) 55 _ rfl g (off+k*12) rfl [.int .i64 b.id.kind,.string b.id.text,.int .i64 b.id.n,.int .i64 b.attr.kind,.string b.attr.text,.int .i64 b.attr.n,.int .i64 b.value.kind,.string b.value.text,.int .i64 b.value.n,.bool b.acc,.bool b.goal,.int .i64 b.tag] _ (fun w9 hw9=>rangeAt_below HRB.out hw9 hgz) Tryz.underlying55 rfl (by kernel_rfl)) ?_) | (refine wpX_w ?_ (Or.inl ⟨by rfl,fun w9=>?_⟩) ?_;rotate_left 1;go_simp;with_reducible rfl) | (refine wpX_l ?_ (HB6.out) (Or.inl ⟨by rfl,fun w9 hw9=>?_⟩) ?_;rotate_left 1;obtain ⟨hc9,hf9⟩:=bcell hw9;go_simp;with_reducible rfl) | refine wpX_w undef (Or.inr ⟨by rfl,rfl⟩) ?_ | refine wpX_l undef (HB6.out) (Or.inr ⟨by rfl,rfl⟩) ?_);go_frame)
             refine wpX_es (fun K9 hK9=>?_)
             go_simp
             refine (HAH.out _ HB6.out).mono ?_
             rintro e w7 ⟨rfl,hb7⟩
             have HB7:=Lib.hid (HB6.out.trans (hb7.mono HB6.out.size))
             clear hb7
             refine hK9 _ _ HB7.out ?_
             clear hK9 K9
             repeat ((first | (refine wpX_l _ (HB6.out) (yieldsIf_load_mid (by rfl) 55 _ rfl g (off+i*12) rfl [.int .i64 y.id.kind,.string y.id.text,.int .i64 y.id.n,.int .i64 y.attr.kind,.string y.attr.text,.int .i64 y.attr.n,.int .i64 y.value.kind,.string y.value.text,.int .i64 y.value.n,.bool y.acc,.bool y.goal,.int .i64 y.tag] _ (fun w9 hw9=>rangeAt_below HRG.out hw9 hgz) Tryz.underlying55 rfl (by kernel_rfl)) ?_) | (refine wpX_l _ (HB6.out) (yieldsIf_load_mid (by rfl) 55 _ rfl g (off+k*12) rfl [.int .i64 b.id.kind,.string b.id.text,.int .i64 b.id.n,.int .i64 b.attr.kind,.string b.attr.text,.int .i64 b.attr.n,.int .i64 b.value.kind,.string b.value.text,.int .i64 b.value.n,.bool b.acc,.bool b.goal,.int .i64 b.tag] _ (fun w9 hw9=>rangeAt_below HRB.out hw9 hgz) Tryz.underlying55 rfl (by kernel_rfl)) ?_) | (refine wpX_w ?_ (Or.inl ⟨by rfl,fun w9=>?_⟩) ?_;rotate_left 1;go_simp;with_reducible rfl) | (refine wpX_l ?_ (HB7.out) (Or.inl ⟨by rfl,fun w9 hw9=>?_⟩) ?_;rotate_left 1;obtain ⟨hc9,hf9⟩:=bcell hw9;go_simp;with_reducible rfl) | refine wpX_w undef (Or.inr ⟨by rfl,rfl⟩) ?_ | refine wpX_l undef (HB7.out) (Or.inr ⟨by rfl,rfl⟩) ?_);go_frame)
             refine wpX_nil ?_
             simp only [OnlyN_normal]
             refine hKK _ _ ?_
             clear hKK KK
             have HS7:=Lib.hid (HS.out.new_ HB7.out)
             cases va
             · go_wp2_with fail
               go_roundw
               case rel=>exact ⟨i+1,by go_num,by omega,by rw [HBM.out]<;>rfl,HS7.out⟩
               case measure=>simp [intOf]<;>omega
             · go_wp2_with fail
               go_roundw
               case rel=>exact ⟨i+1,by go_num,by omega,by rw [HBM.out]<;>rfl,HS7.out⟩
               case measure=>simp [intOf]<;>omega
     · skip
       obtain rfl:i=left.length:=by omega
       obtain ⟨bs,hbs⟩ : ∃bs,bs=bestS ns left left.length:=⟨_,rfl⟩
       have HBS:=Lib.hid (show bestV ns left=bs from hbs.symm)
       rw [← hbs]
       clear hbs
       have jz : ¬(left.length:Int)<(left.length:Int):=by omega
       cases bs with
       | none=>
         have HOV:=Lib.hid (show orderV l=none by
          rw [← HLV.out]
          obtain ⟨q,hq⟩ : ∃q,left.length=q+1:=⟨left.length - 1,by omega⟩
          rw [hq]
          exact laidV_none (by intro e;rw [e] at he;exact he rfl) HBS.out)
         dsimp only [bestZ]
         go_wp2_with fail
         exact bodyPost_ret (v:=.tuple #[.slice none 0 0,.slice none 0 0,.bool false]) (by simp [results,Tryz.results40,go_sem, *]) rfl (OrderTo.no HOV.out HS.out.bel)
       | some k=>
         have hkl:=bestS_lt HBS.out
         dsimp only [bestZ]
         have hlt:=hkl.2
         obtain ⟨y,hy⟩ : ∃y,y=left[k]:=⟨_,rfl⟩
         have HY:=Lib.hid hy
         obtain ⟨g,off,hAA,hgl,hrg⟩:=HS.out.at_ hlt
         rw [← hy] at hrg
         subst hAA
         have HRG:=Lib.hid (show wr.rangeAt g (off+k*12) [.int .i64 y.id.kind,.string y.id.text,.int .i64 y.id.n,.int .i64 y.attr.kind,.string y.attr.text,.int .i64 y.attr.n,.int .i64 y.value.kind,.string y.value.text,.int .i64 y.value.n,.bool y.acc,.bool y.goal,.int .i64 y.tag] from hrg)
         clear hy
         have HTH:=Lib.hid (show (wr.alloc (.cells #[.int .i64 0,.string ⟨#[]⟩,.int .i64 0,.int .i64 0,.string ⟨#[]⟩,.int .i64 0,.int .i64 0,.string ⟨#[]⟩,.int .i64 0,.bool false,.bool false,.int .i64 0] 55)).there wr.heap.size 0 (#[.int .i64 y.id.kind,.string y.id.text,.int .i64 y.id.n,.int .i64 y.attr.kind,.string y.attr.text,.int .i64 y.attr.n,.int .i64 y.value.kind,.string y.value.text,.int .i64 y.value.n,.bool y.acc,.bool y.goal,.int .i64 y.tag]:Array Value).size from (Blk.new wr 55 #[.int .i64 0,.string ⟨#[]⟩,.int .i64 0,.int .i64 0,.string ⟨#[]⟩,.int .i64 0,.int .i64 0,.string ⟨#[]⟩,.int .i64 0,.bool false,.bool false,.int .i64 0]).there)
         obtain ⟨W5,hW5⟩ : ∃W5,W5=(wr.alloc (.cells #[.int .i64 0,.string ⟨#[]⟩,.int .i64 0,.int .i64 0,.string ⟨#[]⟩,.int .i64 0,.int .i64 0,.string ⟨#[]⟩,.int .i64 0,.bool false,.bool false,.int .i64 0] 55)).setCells wr.heap.size 0 [.int .i64 y.id.kind,.string y.id.text,.int .i64 y.id.n,.int .i64 y.attr.kind,.string y.attr.text,.int .i64 y.attr.n,.int .i64 y.value.kind,.string y.value.text,.int .i64 y.value.n,.bool y.acc,.bool y.goal,.int .i64 y.tag]:=⟨_,rfl⟩
         have HW5:=Lib.hid hW5
         have HK5:=Lib.hid (show Blk W5 wr.heap.size 55 #[.int .i64 y.id.kind,.string y.id.text,.int .i64 y.id.n,.int .i64 y.attr.kind,.string y.attr.text,.int .i64 y.attr.n,.int .i64 y.value.kind,.string y.value.text,.int .i64 y.value.n,.bool y.acc,.bool y.goal,.int .i64 y.tag] from kept_blk (zs:=[.int .i64 0,.string ⟨#[]⟩,.int .i64 0,.int .i64 0,.string ⟨#[]⟩,.int .i64 0,.int .i64 0,.string ⟨#[]⟩,.int .i64 0,.bool false,.bool false,.int .i64 0]) (vs:=[.int .i64 y.id.kind,.string y.id.text,.int .i64 y.id.n,.int .i64 y.attr.kind,.string y.attr.text,.int .i64 y.attr.n,.int .i64 y.value.kind,.string y.value.text,.int .i64 y.value.n,.bool y.acc,.bool y.goal,.int .i64 y.tag]) rfl hW5 (by rw [hW5];exact World.rangeAt_setCells_same _ _ _ _ HTH.out))
         have HB5:=Lib.hid (show Below wr.heap.size wr W5 by rw [hW5];exact Below.setCells' _ _ ((Below.refl _ _).alloc (Nat.le_refl _) _) (Nat.le_refl _))
         clear hW5 hrg hgl
         have HYI:=Lib.hid (show left[k]? = some y by rw [HY.out];exact List.getElem?_eq_getElem hlt)
         have hk1:(0:Int)≤(k:Int):=by omega
         have hk2:(k:Int)<(left.length:Int):=by omega
         have hk3 : ¬(k:Int)<0:=by omega
         go_upto_region 14 with (first
         | (with_reducible refine wpList_load_mid rfl 55 _ rfl g (off+k*12) rfl [.int .i64 y.id.kind,.string y.id.text,.int .i64 y.id.n,.int .i64 y.attr.kind,.string y.attr.text,.int .i64 y.attr.n,.int .i64 y.value.kind,.string y.value.text,.int .i64 y.value.n,.bool y.acc,.bool y.goal,.int .i64 y.tag] _ HRG.out Tryz.underlying55 rfl (by kernel_rfl) ?_)
         | ((with_reducible refine wpList_store_mid rfl 55 _ _ rfl wr.heap.size 0 #[.int .i64 y.id.kind,.string y.id.text,.int .i64 y.id.n,.int .i64 y.attr.kind,.string y.attr.text,.int .i64 y.attr.n,.int .i64 y.value.kind,.string y.value.text,.int .i64 y.value.n,.bool y.acc,.bool y.goal,.int .i64 y.tag] rfl rfl HTH.out (by kernel_rfl) (by kernel_rfl) ?_);rw [← HW5.out]))
         obtain ⟨tk,htk⟩ : ∃x,x=left.take k:=⟨_,rfl⟩
         obtain ⟨dk,hdk⟩ : ∃x,x=left.drop (k+1):=⟨_,rfl⟩
         obtain ⟨As,hAs⟩ : ∃As:Option Addr,As=(if cL=k+1 then some ⟨g,off,none⟩ else (some (⟨g,off,none⟩:Addr)).map (·.add ((k+1)*12))):=⟨_,rfl⟩
         have htl:k=tk.length:=by rw [htk,List.length_take];omega
         have hdl:left.length - (k+1)=dk.length:=by rw [hdk,List.length_drop]
         have hsl1 : ∀Y,(Instr.slice 84 (.slice (some ⟨g,off,none⟩) left.length cL) none (some (.int .i64 (k:Int))) none).run Tryz.prog Y = .ok (.slice (some ⟨g,off,none⟩) tk.length cL) Y:=fun Y=>by rw [← htl];exact run_slE_to _ (by omega) Y
         have hsl2 : ∀Y,(Instr.slice 84 (.slice (some ⟨g,off,none⟩) left.length cL) (some (.int .i64 ((k:Int)+1))) none none).run Tryz.prog Y = .ok (.slice As dk.length (cL - (k+1))) Y:=fun Y=>by rw [← hdl,hAs];exact run_slE_from (j:=k+1) _ (by omega) Y
         have v1:IntKind.i64.wrap ((k:Int)+1)=(k:Int)+1:=IntWalk.i64_in _ (by omega)
         have HS5:=Lib.hid (HS.out.new_ (HB5.out.drew))
         have HDK:=Lib.hid (show RowRd W5.drew 12 Elem.cells As (cL - (k+1)) dk by rw [hdk,hAs];exact (ownsRow_rd Elem.cells_length HS5.out.lo).suffixE (k+1) (by omega))
         have HTK:=Lib.hid (show RowRd W5.drew 12 Elem.cells (some ⟨g,off,none⟩) cL tk by rw [htk];exact (ownsRow_rd Elem.cells_length HS5.out.lo).prefix_ k)
         have HLE:=Lib.hid (show left.eraseIdx k=tk++dk by rw [htk,hdk];exact List.eraseIdx_eq_take_drop_succ left k)
         have HLL0:=Lib.hid (show (left.eraseIdx k).length+1=left.length from erase_len HYI.out)
         have hdl1:dk.length≤300:=by omega
         have htl1:tk.length≤300:=by omega
         clear hdk htk hAs hdl htl hkl
         refine wp_region_E (fun w9=>Below W5.heap.size W5 w9) [(0,0),(1,0),(2,0),(4,0),(5,0),(6,0),(7,0),(3,2),(8,2),(9,0)] (by kernel_rfl) (by kernel_rfl) (fun KK hKK=>?_)
         simp only [beside,List.filterMap_cons,List.filterMap_nil,List.getElem?_toArray,List.getElem?_cons_zero,List.getElem?_cons_succ,Option.map_some]
         repeat ((first | (refine wpX_w ?_ (Or.inl ⟨by rfl,fun w9=>?_⟩) ?_;rotate_left 1;go_simp;with_reducible rfl) | (refine wpX_l ?_ (((Below.refl _ _).drew)) (Or.inl ⟨by rfl,fun w9 hw9=>?_⟩) ?_;rotate_left 1;obtain ⟨hc9,hf9⟩:=bcell hw9;go_simp;with_reducible rfl) | refine wpX_w undef (Or.inr ⟨by rfl,rfl⟩) ?_ | refine wpX_l undef (((Below.refl _ _).drew)) (Or.inr ⟨by rfl,rfl⟩) ?_);go_frame)
         refine wpX_es (fun K9 hK9=>?_)
         refine step_append_src _ (by rfl) _ _ _ (by rfl) 55 i0 _ 12 112 Tryz.underlying84 hi0 hz0 hz1 hz2 rfl (by omega) (.slice none 0 0) 0 [] (by rfl) ⟨by simp,.inl ⟨rfl,rfl⟩⟩ (some ⟨g,off,none⟩) tk.length cL (tk.flatMap Elem.cells) (by rfl) (flat_length Elem.cells_length _) (HTK.out.news Elem.cells_length (by omega)) (one_Elem _) (by unfold maxLen;omega) (by omega) ?_
         intro v2 w7 hown hgr hnil hat
         obtain ⟨A7,c7,rfl,hF7,hA7,hO7⟩:=grown_own (E:=fun _=>False) (A:=none) (c:=0) (n:=0) (fun a ha=>by cases ha) hown hgr hat
         rw [Nat.zero_add,List.nil_append] at hO7
         rw [Nat.zero_add]
         have HB7:=Lib.hid (show Below W5.heap.size W5 w7 from ((Below.refl W5.heap.size W5).drew).trans (hF7.below (Nat.le_refl _) (fun _ _ h=>h)))
         have HO7:=Lib.hid (And.intro hO7 (show AIn A7 (W5.heap.size≤·) from fun a ha=>(hA7 a ha).elim (fun h=>h.elim) (fun h=>h.1)))
         have HDK7:=Lib.hid (HDK.out.fr hF7 (fun _ _ h=>h))
         clear hown hgr hnil hat hF7 hA7 hO7
         refine hK9 _ _ HB7.out ?_
         clear hK9 K9
         refine wpX_e (by kernel_rfl) (fun K9 hK9=>?_)
         refine step_append_src _ (by rfl) _ _ _ (by rfl) 55 i0 _ 12 112 Tryz.underlying84 hi0 hz0 hz1 hz2 rfl (by omega) (.slice A7 tk.length c7) tk.length (tk.flatMap Elem.cells) (by rfl) HO7.out.1 As dk.length (cL - (k+1)) (dk.flatMap Elem.cells) (by rfl) (flat_length Elem.cells_length _) (HDK7.out.news Elem.cells_length (by omega)) (one_Elem _) (by unfold maxLen;omega) (by omega) ?_
         intro v2 w8 hown hgr hnil hat
         obtain ⟨A8,c8,rfl,hF8,hA8,hO8⟩:=grown_own (E:=fun j=>∃a,A7=some a∧a.block=j) (fun a ha=>⟨a,ha,rfl⟩) hown hgr hat
         have hb8:Below W5.heap.size W5 w8:=HB7.out.trans (hF8.below HB7.out.size (fun j hj ⟨a,ha,e⟩=>by have:W5.heap.size≤a.block:=HO7.out.2 a ha;omega))
         obtain ⟨lk,hlk⟩ : ∃lk,lk=left.eraseIdx k:=⟨_,rfl⟩
         have hkk:tk.length+dk.length=lk.length:=by rw [hlk,HLE.out,List.length_append]
         rw [← List.flatMap_append,← HLE.out,← hlk,hkk] at hO8
         rw [hkk]
         have HS8:=Lib.hid ((HS.out.new_ HB5.out).left_ hb8 hO8 (fun a ha=>by
          rcases hA8 a ha with ⟨b,hb,e⟩ | ⟨h1,_⟩
          · have:W5.heap.size≤b.block:=HO7.out.2 b hb
            show W5.heap.size≤a.block;omega
          · have:=HB7.out.size;show W5.heap.size≤a.block;omega))
         have HK8:=Lib.hid (HK5.out.new_ hb8)
         have HLK:=Lib.hid hlk
         clear hown hgr hnil hat hF8 hA8 hO8 hb8 hlk hkk
         refine hK9 _ _ ?_
         clear hK9 K9
         repeat ((first | (refine wpX_w ?_ (Or.inl ⟨by rfl,fun w9=>?_⟩) ?_;rotate_left 1;go_simp;with_reducible rfl) | (refine wpX_l ?_ (HB7.out) (Or.inl ⟨by rfl,fun w9 hw9=>?_⟩) ?_;rotate_left 1;obtain ⟨hc9,hf9⟩:=bcell hw9;go_simp;with_reducible rfl) | refine wpX_w undef (Or.inr ⟨by rfl,rfl⟩) ?_ | refine wpX_l undef (HB7.out) (Or.inr ⟨by rfl,rfl⟩) ?_);go_frame)
         refine wpX_nil ?_
         simp only [OnlyN_normal]
         refine hKK _ _ ?_
         clear hKK KK
         have HRX:=Lib.hid (show w8.rangeAt wr.heap.size 0 [.int .i64 y.id.kind,.string y.id.text,.int .i64 y.id.n,.int .i64 y.attr.kind,.string y.attr.text,.int .i64 y.attr.n,.int .i64 y.value.kind,.string y.value.text,.int .i64 y.value.n,.bool y.acc,.bool y.goal,.int .i64 y.tag] from HK8.out.range)
         obtain ⟨W9,hW9⟩ : ∃W,W=w8.alloc (.cells #[.int .i64 y.id.kind,.string y.id.text,.int .i64 y.id.n,.int .i64 y.attr.kind,.string y.attr.text,.int .i64 y.attr.n,.int .i64 y.value.kind,.string y.value.text,.int .i64 y.value.n,.bool y.acc,.bool y.goal,.int .i64 y.tag] 55):=⟨_,rfl⟩
         have HW9:=Lib.hid hW9
         have hb9:Below w8.heap.size w8 W9:=by rw [hW9];exact (Below.refl _ _).alloc (Nat.le_refl _) _
         have HS9:=Lib.hid (HS8.out.new_ hb9)
         have HK9:=Lib.hid (HK8.out.new_ hb9)
         have HN9:=Lib.hid (show 0<1→∃ad,(some (⟨w8.heap.size,0,none⟩:Addr))=some ad∧∀j u,([y].flatMap Elem.cells)[j]? = some u→W9.cell? (ad.add j)=some u from fun _=>⟨_,rfl,by rw [hW9];exact World.news_of_block (heap_alloc_new _ _)⟩)
         have ho8:out.length≤300:=by omega
         clear hW9 hb9 v1 hsl1 hsl2
         go_upto_region 16 with (first
         | (with_reducible refine wpList_load_mid rfl 55 _ rfl wr.heap.size 0 rfl [.int .i64 y.id.kind,.string y.id.text,.int .i64 y.id.n,.int .i64 y.attr.kind,.string y.attr.text,.int .i64 y.attr.n,.int .i64 y.value.kind,.string y.value.text,.int .i64 y.value.n,.bool y.acc,.bool y.goal,.int .i64 y.tag] _ HRX.out Tryz.underlying55 rfl (by kernel_rfl) ?_)
         | (at_builtin;rw [← HW9.out];refine wpList_append_src W9 rfl (.tmp 69) (.tmp 71) 84 rfl 55 i0 _ 12 112 Tryz.underlying84 hi0 hz0 hz1 hz2 rfl (by omega) (.slice AO out.length cO) out.length (out.flatMap Elem.cells) rfl HS9.out.oo (some ⟨w8.heap.size,0,none⟩) 1 1 ([y].flatMap Elem.cells) rfl rfl HN9.out (one_Elem _) (by unfold maxLen;omega) (by omega) ?_;intro v1 w10 hown1 hg1 hnil1 hat1;obtain ⟨A9,c9,rfl,hs9,hf9⟩:=HS9.out.more hown1 hg1 hat1;obtain ⟨ol,hol⟩ : ∃ol,ol=out ++ [y]:=⟨_,rfl⟩;rw [← hol] at hs9 ⊢;have HOL:=Lib.hid hol;have HSA:=Lib.hid hs9;have HF9:=Lib.hid hf9;clear hown1 hg1 hnil1 hat1 hs9 hf9 hol))
         have HKA:=Lib.hid (show Blk w10 wr.heap.size 55 #[.int .i64 y.id.kind,.string y.id.text,.int .i64 y.id.n,.int .i64 y.attr.kind,.string y.attr.text,.int .i64 y.attr.n,.int .i64 y.value.kind,.string y.value.text,.int .i64 y.value.n,.bool y.acc,.bool y.goal,.int .i64 y.tag] from HK9.out.fr HF9.out (fun ⟨a,ha,e⟩=>by have h1:=ain_lt HS.out.oo a ha;omega))
         have HLL:=Lib.hid (show lk.length+1=left.length by rw [HLK.out];exact HLL0.out)
         have HOO:=Lib.hid (show ol.length=out.length+1 by rw [HOL.out];simp)
         have HNX:=Lib.hid (show ∀nn,nn=namesE ns y→lk.length+ol.length≤300∧nn.length≤2*ol.length∧laidV lk.length nn lk ol=orderV l from fun nn hnn=>by
          have h1:=HLL.out
          have h2:=HOO.out
          have h3:=namesE_len ns y
          refine ⟨by omega,by rw [hnn];omega,?_⟩
          rw [← HLV.out,show left.length=lk.length+1 from h1.symm,laidV_step HBS.out HYI.out,hnn,HLK.out,HOL.out])
         have nsz:ns.length≤600:=by omega
         have k0:w10.cell? ⟨wr.heap.size,0,none⟩=some (.int .i64 y.id.kind):=(HKA.out.cell 0).trans rfl
         have k1:w10.cell? ⟨wr.heap.size,1,none⟩=some (.string y.id.text):=(HKA.out.cell 1).trans rfl
         have k2:w10.cell? ⟨wr.heap.size,2,none⟩=some (.int .i64 y.id.n):=(HKA.out.cell 2).trans rfl
         have kz:=HKA.out.lt
         obtain ⟨p,hp⟩ : ∃p,p=(plV ns y.id:Int) - 1:=⟨_,rfl⟩
         have HPC:=Lib.hid (show Calls Tryz.prog 74 #[.slice AN ns.length cN,.agg #[.int .i64 y.id.kind,.string y.id.text,.int .i64 y.id.n]] w10 fun e w'=>e = .returned (.int .i64 p)∧Below w10.heap.size w10 w' from by rw [hp];exact rplace_is AN cN ns y.id w10 (ownsRow_rd Sym.cells_length HSA.out.no))
         have HPP:=Lib.hid hp
         clear hp
         go_wp2_with fail
         refine HPC.out.mono ?_
         rintro e w11 ⟨rfl,hb11⟩
         have HSB:=Lib.hid (HSA.out.new_ hb11)
         have HKB:=Lib.hid (HKA.out.new_ hb11)
         clear hb11 k0 k1 k2 kz
         by_cases hp0:p<0
         · skip
           have HPN0:=Lib.hid (show putN ns y.id=ns ++ [y.id] by rw [putN,if_pos (by have:=HPP.out;omega)])
           have k0:w11.cell? ⟨wr.heap.size,0,none⟩=some (.int .i64 y.id.kind):=(HKB.out.cell 0).trans rfl
           have k1:w11.cell? ⟨wr.heap.size,1,none⟩=some (.string y.id.text):=(HKB.out.cell 1).trans rfl
           have k2:w11.cell? ⟨wr.heap.size,2,none⟩=some (.int .i64 y.id.n):=(HKB.out.cell 2).trans rfl
           have kz:=HKB.out.lt
           obtain ⟨W12,hW12⟩ : ∃W,W=w11.alloc (.cells #[.int .i64 y.id.kind,.string y.id.text,.int .i64 y.id.n] 23):=⟨_,rfl⟩
           have HW12:=Lib.hid hW12
           have hb12:Below w11.heap.size w11 W12:=by rw [hW12];exact (Below.refl _ _).alloc (Nat.le_refl _) _
           have HSC:=Lib.hid (HSB.out.new_ hb12)
           have HKC:=Lib.hid (HKB.out.new_ hb12)
           have HN12:=Lib.hid (show 0<1→∃ad,(some (⟨w11.heap.size,0,none⟩:Addr))=some ad∧∀j u,([y.id].flatMap Sym.cells)[j]? = some u→W12.cell? (ad.add j)=some u from fun _=>⟨_,rfl,by rw [hW12];exact World.news_of_block (heap_alloc_new _ _)⟩)
           clear hW12 hb12
           go_upto_region 18 with (at_builtin;rw [← HW12.out];refine wpList_append_src W12 rfl (.tmp 78) (.tmp 81) 36 rfl 23 i1 _ 3 32 Tryz.underlying36 hi1 hy0 hy1 hy2 rfl (by omega) (.slice AN ns.length cN) ns.length (ns.flatMap Sym.cells) rfl HSC.out.no (some ⟨w11.heap.size,0,none⟩) 1 1 ([y.id].flatMap Sym.cells) rfl rfl HN12.out (one_Sym _) (by unfold maxLen;omega) (by omega) ?_;intro v1 w13 hown1 hg1 hnil1 hat1;obtain ⟨A5,c5,rfl,hs5,hk5⟩:=HSC.out.name hown1 hg1 hat1;obtain ⟨n5,hn5⟩ : ∃n5,n5=ns ++ [y.id]:=⟨_,rfl⟩;rw [← hn5] at hs5 ⊢;have HN5:=Lib.hid hn5;have HSD:=Lib.hid hs5;have HKD:=Lib.hid (hk5 _ _ _ (by decide) HKC.out);clear hown1 hg1 hnil1 hat1 hs5 hn5 hk5)
           have n5z:n5.length≤601:=by rw [HN5.out,List.length_append];simp;omega
           have HPG:=Lib.hid (show putN ns y.id=n5 by rw [HPN0.out,HN5.out])
           clear k0 k1 k2 kz
           have k6:w13.cell? ⟨wr.heap.size,6,none⟩=some (.int .i64 y.value.kind):=(HKD.out.cell 6).trans rfl
           have k7:w13.cell? ⟨wr.heap.size,7,none⟩=some (.string y.value.text):=(HKD.out.cell 7).trans rfl
           have k8:w13.cell? ⟨wr.heap.size,8,none⟩=some (.int .i64 y.value.n):=(HKD.out.cell 8).trans rfl
           have kz:=HKD.out.lt
           by_cases hv1:y.value.kind=1
           case neg=>
            have HNE:=Lib.hid (HNX.out n5 (by rw [namesE,if_neg hv1];exact HPG.out.symm))
            have e1:(y.value.kind == 1)=false:=by simp [hv1]
            have e2:decide (y.value.kind=1)=false:=by simp [hv1]
            clear hv1
            go_wp2_with fail
            go_roundw
            case rel=>exact ⟨lk,ol,n5,A8,c8,A9,c9,A5,c5,rfl,rfl,rfl,HSD.out,HNE.out⟩
            case measure=>have:=HLL.out;show lk.length<left.length;omega
           have e1:(y.value.kind == 1)=true:=by simp [hv1]
           have e2:decide (y.value.kind=1)=true:=by simp [hv1]
           obtain ⟨q,hq⟩ : ∃q,q=(plV n5 y.value:Int) - 1:=⟨_,rfl⟩
           have HQC:=Lib.hid (show Calls Tryz.prog 74 #[.slice A5 n5.length c5,.agg #[.int .i64 y.value.kind,.string y.value.text,.int .i64 y.value.n]] w13 fun e w'=>e = .returned (.int .i64 q)∧Below w13.heap.size w13 w' from by rw [hq];exact rplace_is A5 c5 n5 y.value w13 (ownsRow_rd Sym.cells_length HSD.out.no))
           have HQQ:=Lib.hid hq
           have HV1:=Lib.hid hv1
           clear hq hv1
           go_wp2_with fail
           refine HQC.out.mono ?_
           rintro e w14 ⟨rfl,hb14⟩
           have HSE:=Lib.hid (HSD.out.new_ hb14)
           have HKE:=Lib.hid (HKD.out.new_ hb14)
           clear hb14 k6 k7 k8 kz
           by_cases hq0:q<0
           case neg=>
            have HNE:=Lib.hid (HNX.out n5 (by rw [namesE,if_pos HV1.out,HPG.out,putN,if_neg (by have:=HQQ.out;omega)]))
            go_wp2_with fail
            go_roundw
            case rel=>exact ⟨lk,ol,n5,A8,c8,A9,c9,A5,c5,rfl,rfl,rfl,HSE.out,HNE.out⟩
            case measure=>have:=HLL.out;show lk.length<left.length;omega
           have HPN:=Lib.hid (show putN n5 y.value=n5 ++ [y.value] by rw [putN,if_pos (by have:=HQQ.out;omega)])
           have k6:w14.cell? ⟨wr.heap.size,6,none⟩=some (.int .i64 y.value.kind):=(HKE.out.cell 6).trans rfl
           have k7:w14.cell? ⟨wr.heap.size,7,none⟩=some (.string y.value.text):=(HKE.out.cell 7).trans rfl
           have k8:w14.cell? ⟨wr.heap.size,8,none⟩=some (.int .i64 y.value.n):=(HKE.out.cell 8).trans rfl
           have kz:=HKE.out.lt
           obtain ⟨W15,hW15⟩ : ∃W,W=w14.alloc (.cells #[.int .i64 y.value.kind,.string y.value.text,.int .i64 y.value.n] 23):=⟨_,rfl⟩
           have HW15:=Lib.hid hW15
           have hb15:Below w14.heap.size w14 W15:=by rw [hW15];exact (Below.refl _ _).alloc (Nat.le_refl _) _
           have HSF:=Lib.hid (HSE.out.new_ hb15)
           have HN15:=Lib.hid (show 0<1→∃ad,(some (⟨w14.heap.size,0,none⟩:Addr))=some ad∧∀j u,([y.value].flatMap Sym.cells)[j]? = some u→W15.cell? (ad.add j)=some u from fun _=>⟨_,rfl,by rw [hW15];exact World.news_of_block (heap_alloc_new _ _)⟩)
           clear hW15 hb15
           go_wp2_with (at_builtin;rw [← HW15.out];refine wpList_append_src W15 rfl (.tmp 94) (.tmp 97) 36 rfl 23 i1 _ 3 32 Tryz.underlying36 hi1 hy0 hy1 hy2 rfl (by omega) (.slice A5 n5.length c5) n5.length (n5.flatMap Sym.cells) rfl HSF.out.no (some ⟨w14.heap.size,0,none⟩) 1 1 ([y.value].flatMap Sym.cells) rfl rfl HN15.out (one_Sym _) (by unfold maxLen;omega) (by omega) ?_;intro v1 w16 hown1 hg1 hnil1 hat1;obtain ⟨A6,c6,rfl,hs6,_⟩:=HSF.out.name hown1 hg1 hat1;obtain ⟨n6,hn6⟩ : ∃n6,n6=n5 ++ [y.value]:=⟨_,rfl⟩;rw [← hn6] at hs6 ⊢;have HN6:=Lib.hid hn6;have HSG:=Lib.hid hs6;clear hown1 hg1 hnil1 hat1 hs6 hn6)
           have HNE:=Lib.hid (HNX.out n6 (by rw [namesE,if_pos HV1.out,HPG.out,HPN.out,HN6.out]))
           go_roundw
           case rel=>exact ⟨lk,ol,n6,A8,c8,A9,c9,A6,c6,rfl,rfl,rfl,HSG.out,HNE.out⟩
           case measure=>have:=HLL.out;show lk.length<left.length;omega
         · skip
           have HPG:=Lib.hid (show putN ns y.id=ns by rw [putN,if_neg (by have:=HPP.out;omega)])
           have HSD:=Lib.hid HSB.out
           have HKD:=Lib.hid HKB.out
           have k6:w11.cell? ⟨wr.heap.size,6,none⟩=some (.int .i64 y.value.kind):=(HKD.out.cell 6).trans rfl
           have k7:w11.cell? ⟨wr.heap.size,7,none⟩=some (.string y.value.text):=(HKD.out.cell 7).trans rfl
           have k8:w11.cell? ⟨wr.heap.size,8,none⟩=some (.int .i64 y.value.n):=(HKD.out.cell 8).trans rfl
           have kz:=HKD.out.lt
           by_cases hv1:y.value.kind=1
           case neg=>
            have HNE:=Lib.hid (HNX.out ns (by rw [namesE,if_neg hv1];exact HPG.out.symm))
            have e1:(y.value.kind == 1)=false:=by simp [hv1]
            have e2:decide (y.value.kind=1)=false:=by simp [hv1]
            clear hv1
            go_wp2_with fail
            go_roundw
            case rel=>exact ⟨lk,ol,ns,A8,c8,A9,c9,AN,cN,rfl,rfl,rfl,HSD.out,HNE.out⟩
            case measure=>have:=HLL.out;show lk.length<left.length;omega
           have e1:(y.value.kind == 1)=true:=by simp [hv1]
           have e2:decide (y.value.kind=1)=true:=by simp [hv1]
           obtain ⟨q,hq⟩ : ∃q,q=(plV ns y.value:Int) - 1:=⟨_,rfl⟩
           have HQC:=Lib.hid (show Calls Tryz.prog 74 #[.slice AN ns.length cN,.agg #[.int .i64 y.value.kind,.string y.value.text,.int .i64 y.value.n]] w11 fun e w'=>e = .returned (.int .i64 q)∧Below w11.heap.size w11 w' from by rw [hq];exact rplace_is AN cN ns y.value w11 (ownsRow_rd Sym.cells_length HSD.out.no))
           have HQQ:=Lib.hid hq
           have HV1:=Lib.hid hv1
           clear hq hv1
           go_wp2_with fail
           refine HQC.out.mono ?_
           rintro e w14 ⟨rfl,hb14⟩
           have HSE:=Lib.hid (HSD.out.new_ hb14)
           have HKE:=Lib.hid (HKD.out.new_ hb14)
           clear hb14 k6 k7 k8 kz
           by_cases hq0:q<0
           case neg=>
            have HNE:=Lib.hid (HNX.out ns (by rw [namesE,if_pos HV1.out,HPG.out,putN,if_neg (by have:=HQQ.out;omega)]))
            go_wp2_with fail
            go_roundw
            case rel=>exact ⟨lk,ol,ns,A8,c8,A9,c9,AN,cN,rfl,rfl,rfl,HSE.out,HNE.out⟩
            case measure=>have:=HLL.out;show lk.length<left.length;omega
           have HPN:=Lib.hid (show putN ns y.value=ns ++ [y.value] by rw [putN,if_pos (by have:=HQQ.out;omega)])
           have k6:w14.cell? ⟨wr.heap.size,6,none⟩=some (.int .i64 y.value.kind):=(HKE.out.cell 6).trans rfl
           have k7:w14.cell? ⟨wr.heap.size,7,none⟩=some (.string y.value.text):=(HKE.out.cell 7).trans rfl
           have k8:w14.cell? ⟨wr.heap.size,8,none⟩=some (.int .i64 y.value.n):=(HKE.out.cell 8).trans rfl
           have kz:=HKE.out.lt
           obtain ⟨W15,hW15⟩ : ∃W,W=w14.alloc (.cells #[.int .i64 y.value.kind,.string y.value.text,.int .i64 y.value.n] 23):=⟨_,rfl⟩
           have HW15:=Lib.hid hW15
           have hb15:Below w14.heap.size w14 W15:=by rw [hW15];exact (Below.refl _ _).alloc (Nat.le_refl _) _
           have HSF:=Lib.hid (HSE.out.new_ hb15)
           have HN15:=Lib.hid (show 0<1→∃ad,(some (⟨w14.heap.size,0,none⟩:Addr))=some ad∧∀j u,([y.value].flatMap Sym.cells)[j]? = some u→W15.cell? (ad.add j)=some u from fun _=>⟨_,rfl,by rw [hW15];exact World.news_of_block (heap_alloc_new _ _)⟩)
           clear hW15 hb15
           go_wp2_with (at_builtin;rw [← HW15.out];refine wpList_append_src W15 rfl (.tmp 94) (.tmp 97) 36 rfl 23 i1 _ 3 32 Tryz.underlying36 hi1 hy0 hy1 hy2 rfl (by omega) (.slice AN ns.length cN) ns.length (ns.flatMap Sym.cells) rfl HSF.out.no (some ⟨w14.heap.size,0,none⟩) 1 1 ([y.value].flatMap Sym.cells) rfl rfl HN15.out (one_Sym _) (by unfold maxLen;omega) (by omega) ?_;intro v1 w16 hown1 hg1 hnil1 hat1;obtain ⟨A6,c6,rfl,hs6,_⟩:=HSF.out.name hown1 hg1 hat1;obtain ⟨n6,hn6⟩ : ∃n6,n6=ns ++ [y.value]:=⟨_,rfl⟩;rw [← hn6] at hs6 ⊢;have HN6:=Lib.hid hn6;have HSG:=Lib.hid hs6;clear hown1 hg1 hnil1 hat1 hs6 hn6)
           have HNE:=Lib.hid (HNX.out n6 (by rw [namesE,if_pos HV1.out,HPG.out,HPN.out,HN6.out]))
           go_roundw
           case rel=>exact ⟨lk,ol,n6,A8,c8,A9,c9,A6,c6,rfl,rfl,rfl,HSG.out,HNE.out⟩
           case measure=>have:=HLL.out;show lk.length<left.length;omega
end Go.Proofs.YtldndkngpdfpfaaGreat
namespace Go.Proofs.YtldndkngpdfpfaaGreat
open Go.RowKit
def smallB (c:UInt8):Bool:=decide (97≤c.toNat) && decide (c.toNat≤122)
def greatB (c:UInt8):Bool:=decide (65≤c.toNat) && decide (c.toNat≤90)
def digitB (c:UInt8):Bool:=decide (48≤c.toNat) && decide (c.toNat≤57)
def partB (c:UInt8):Bool:=smallB c || digitB c || c.toNat == 45 || c.toNat == 95
def isWord (t:ByteArray):Bool:=decide (1≤t.size) && decide (t.size≤32) && t.data.toList.head?.any smallB && t.data.toList.all partB
theorem isWord_iff {t:ByteArray}:isWord t=true↔∃h:0<t.size,t.size≤32∧smallB t[0]=true∧∀k,(h:k<t.size)→partB t[k]=true:=by
 unfold isWord
 rw [Bool.and_eq_true,Bool.and_eq_true,Bool.and_eq_true,decide_eq_true_iff,decide_eq_true_iff,List.all_eq_true]
 have hs:t.data.toList.length=t.size:=Array.length_toList
 constructor
 · rintro ⟨⟨⟨h1,h2⟩,h3⟩,h4⟩
   refine ⟨h1,h2,?_,fun k h=>h4 _ ?_⟩
   · rw [List.head?_eq_getElem?,List.getElem?_eq_getElem (by omega)] at h3
     exact (by simpa only [Option.any_some,Array.getElem_toList] using h3:smallB t.data[0]=true)
   · have:t[k]=t.data.toList[k]'(by omega):=by rw [Array.getElem_toList];rfl
     rw [this];exact List.getElem_mem _
 · rintro ⟨h1,h2,h3,h4⟩
   refine ⟨⟨⟨h1,h2⟩,?_⟩,fun x hx=>?_⟩
   · rw [List.head?_eq_getElem?,List.getElem?_eq_getElem (by omega)]
     rw [Option.any_some,Array.getElem_toList]
     exact h3
   · obtain ⟨k,hk,rfl⟩:=List.getElem_of_mem hx
     have:=h4 k (by omega)
     rw [Array.getElem_toList]
     exact this
theorem isWord_no {t:ByteArray} (h : ¬∃h:0<t.size,t.size≤32∧smallB t[0]=true∧∀k,(h:k<t.size)→partB t[k]=true):isWord t=false:=by
 cases e:isWord t
 · rfl
 · exact absurd (isWord_iff.1 e) h
set_option maxHeartbeats 400000 in
theorem small_is (c:UInt8) (w:World):Calls Tryz.prog 191 #[.int .u8 (c.toNat:Int)] w fun e w'=>e = .returned (.bool (smallB c))∧w=w':=by
 by_cases h1:97≤c.toNat
 · have t1:decide ((97:Int)≤(c.toNat:Int))=true:=by simp;omega
   by_cases h2:c.toNat≤122
   · have t2:decide ((c.toNat:Int)≤122)=true:=by simp;omega
     have HF:Hid (smallB c=true):=by simp [Hid,smallB,h1,h2]
     clear h1 h2
     go_enter Tryz.func191,Tryz.ntmps191
     go_wp2
     go_ret
     exact ⟨by rw [HF.out];rfl,rfl⟩
   · have t2:decide ((c.toNat:Int)≤122)=false:=by simp;omega
     have HF:Hid (smallB c=false):=by simp [Hid,smallB,h2]
     clear h1 h2
     go_enter Tryz.func191,Tryz.ntmps191
     go_wp2
     go_ret
     exact ⟨by rw [HF.out];rfl,rfl⟩
 · have t1:decide ((97:Int)≤(c.toNat:Int))=false:=by simp;omega
   have HF:Hid (smallB c=false):=by simp [Hid,smallB,h1]
   clear h1
   go_enter Tryz.func191,Tryz.ntmps191
   go_wp2
   go_ret
   exact ⟨by rw [HF.out];rfl,rfl⟩
set_option maxHeartbeats 400000 in
theorem great_is (c:UInt8) (w:World):Calls Tryz.prog 253 #[.int .u8 (c.toNat:Int)] w fun e w'=>e = .returned (.bool (greatB c))∧w=w':=by
 by_cases h1:65≤c.toNat
 · have t1:decide ((65:Int)≤(c.toNat:Int))=true:=by simp;omega
   by_cases h2:c.toNat≤90
   · have t2:decide ((c.toNat:Int)≤90)=true:=by simp;omega
     have HF:Hid (greatB c=true):=by simp [Hid,greatB,h1,h2]
     clear h1 h2
     go_enter Tryz.func253,Tryz.ntmps253
     go_wp2
     go_ret
     exact ⟨by rw [HF.out];rfl,rfl⟩
   · have t2:decide ((c.toNat:Int)≤90)=false:=by simp;omega
     have HF:Hid (greatB c=false):=by simp [Hid,greatB,h2]
     clear h1 h2
     go_enter Tryz.func253,Tryz.ntmps253
     go_wp2
     go_ret
     exact ⟨by rw [HF.out];rfl,rfl⟩
 · have t1:decide ((65:Int)≤(c.toNat:Int))=false:=by simp;omega
   have HF:Hid (greatB c=false):=by simp [Hid,greatB,h1]
   clear h1
   go_enter Tryz.func253,Tryz.ntmps253
   go_wp2
   go_ret
   exact ⟨by rw [HF.out];rfl,rfl⟩
set_option maxHeartbeats 400000 in
theorem digit_is (c:UInt8) (w:World):Calls Tryz.prog 192 #[.int .u8 (c.toNat:Int)] w fun e w'=>e = .returned (.bool (digitB c))∧w=w':=by
 by_cases h1:48≤c.toNat
 · have t1:decide ((48:Int)≤(c.toNat:Int))=true:=by simp;omega
   by_cases h2:c.toNat≤57
   · have t2:decide ((c.toNat:Int)≤57)=true:=by simp;omega
     have HF:Hid (digitB c=true):=by simp [Hid,digitB,h1,h2]
     clear h1 h2
     go_enter Tryz.func192,Tryz.ntmps192
     go_wp2
     go_ret
     exact ⟨by rw [HF.out];rfl,rfl⟩
   · have t2:decide ((c.toNat:Int)≤57)=false:=by simp;omega
     have HF:Hid (digitB c=false):=by simp [Hid,digitB,h2]
     clear h1 h2
     go_enter Tryz.func192,Tryz.ntmps192
     go_wp2
     go_ret
     exact ⟨by rw [HF.out];rfl,rfl⟩
 · have t1:decide ((48:Int)≤(c.toNat:Int))=false:=by simp;omega
   have HF:Hid (digitB c=false):=by simp [Hid,digitB,h1]
   clear h1
   go_enter Tryz.func192,Tryz.ntmps192
   go_wp2
   go_ret
   exact ⟨by rw [HF.out];rfl,rfl⟩
set_option maxRecDepth 100000 in
set_option maxHeartbeats 2000000 in
theorem word_is (t:ByteArray) (w:World):Calls Tryz.prog 154 #[.string t] w fun e w'=>e = .returned (.bool (isWord t))∧w=w':=by
 by_cases h1:t.size<1
 · have t1:decide ((t.size:Int)<1)=true:=by simp;omega
   have HF:=Lib.hid (isWord_no (t:=t) (fun ⟨h,_⟩=>by omega))
   clear h1
   go_enter Tryz.func154,Tryz.ntmps154
   go_wp2
   go_ret
   exact ⟨by rw [HF.out];rfl,rfl⟩
 have t1:decide ((t.size:Int)<1)=false:=by simp;omega
 by_cases h2:32<t.size
 · have t2:decide ((32:Int)<(t.size:Int))=true:=by simp;omega
   have HF:=Lib.hid (isWord_no (t:=t) (fun ⟨h,h3,_⟩=>by omega))
   clear h1 h2
   go_enter Tryz.func154,Tryz.ntmps154
   go_wp2
   go_ret
   exact ⟨by rw [HF.out];rfl,rfl⟩
 have t2:decide ((32:Int)<(t.size:Int))=false:=by simp;omega
 have h0:0<t.size:=by omega
 have h32:t.size≤32:=by omega
 clear h1 h2
 cases h3:smallB t[0]
 · have HF:=Lib.hid (isWord_no (t:=t) (fun ⟨h,_,h4,_⟩=>by rw [h3] at h4;cases h4))
   go_enter Tryz.func154,Tryz.ntmps154
   go_wp2_with (go_at_call 191;refine (small_is _ _).mono ?_;rintro e w' ⟨rfl,rfl⟩)
   go_ret
   exact ⟨by rw [HF.out];rfl,rfl⟩
 go_enter Tryz.func154,Tryz.ntmps154
 go_wp2_with (go_at_call 191;refine (small_is _ _).mono ?_;rintro e w' ⟨rfl,rfl⟩)
 have H3:=Lib.hid h3
 clear h3 t1 t2
 go_loop [3] (fun s=>∃i:Nat,s = .int .i64 i∧1≤i∧i≤t.size∧∀k,(h:k<t.size)→k<i→partB t[k]=true) (fun s=>t.size - (intOf s).toNat)
 case atStart=>exact ⟨1,rfl,Nat.le_refl _,h0,fun k h hk=>by obtain rfl:k=0:=by omega
                                                            simp [partB,H3.out]⟩
 case round=>
  obtain ⟨i,rfl,hi1,hi,hall⟩:=hrel
  have HALL:=Lib.hid hall
  clear hall
  by_cases hlt:i<t.size
  · have HP:Hid (partB t[i]=(smallB t[i] || digitB t[i] || decide (t[i].toNat=45) || decide (t[i].toNat=95))):=rfl
    have t5:((t[i].toNat:Int) != 45) = !decide (t[i].toNat=45):=by rw [Bool.eq_iff_iff];simp;omega
    have t6:((t[i].toNat:Int) != 95) = !decide (t[i].toNat=95):=by rw [Bool.eq_iff_iff];simp;omega
    cases hs:smallB t[i]<;>cases hd:digitB t[i]<;>cases h5:decide (t[i].toNat=45)<;>cases h6:decide (t[i].toNat=95)
    all_goals
     rw [h5] at t5;rw [h6] at t6
     simp only [Bool.not_true,Bool.not_false] at t5 t6
     have HF1:=HP.out
     rw [hs,hd,h5,h6] at HF1
     have HF2:=Lib.hid HF1
     clear h5 h6 HP HF1
     go_wp2_with (first | (go_at_call 191;refine (small_is _ _).mono ?_;rintro e w' ⟨rfl,rfl⟩) | (go_at_call 192;refine (digit_is _ _).mono ?_;rintro e w' ⟨rfl,rfl⟩))
     first
      | (go_ret
         refine ⟨?_,rfl⟩
         rw [isWord_no (t:=t) (fun ⟨_,_,_,h⟩=>by have h2:=h i hlt;rw [HF2.out] at h2;exact absurd h2 (by decide))];rfl)
      | (go_round
         case rel=>exact ⟨i+1,by go_num,by omega,by omega,fun k h hk=>by
          rcases Nat.lt_or_ge k i with h3 | h3
          · exact HALL.out k h h3
          · obtain rfl:k=i:=by omega
            rw [HF2.out];rfl⟩
         case measure=>simp [intOf]<;>omega)
  · have hie:i=t.size:=by omega
    subst hie
    go_wp2
    go_ret
    exact ⟨by rw [isWord_iff.2 ⟨h0,h32,H3.out,fun k h=>HALL.out k h h⟩];rfl,rfl⟩
end Go.Proofs.YtldndkngpdfpfaaGreat
namespace Go.Proofs.YtldndkngpdfpfaaGreat
open Go.RowKit
def byte1 (n:Nat):ByteArray:=⟨#[UInt8.ofNat (48+n)]⟩
theorem conv1 (n:Nat) (h:n<10) (W:World) (g:Nat) (hc:W.cell? ⟨g,0,none⟩=some (.int .u8 (48+(n:Int)))):(convert 118 9 (.slice (some ⟨g,0,none⟩) 1 1)).run Tryz.prog W = .ok (.string (byte1 n)) W:=
 Lib.run_convert_whole (P:=Tryz.prog) W 118 5 9 Tryz.underlying118 Tryz.underlying5 Tryz.underlying9 g 0 (byte1 n) (fun i hi=>by
  have:i=0:=by have:(byte1 n).size=1:=rfl;omega
  subst this
  rw [Nat.add_zero,hc]
  have e:(byte1 n)[0].toNat=48+n:=by show (UInt8.ofNat (48+n)).toNat=48+n;simp;omega
  rw [e]
  simp) 1
def decB (n:Nat):ByteArray:=if n<10 then byte1 n else decB (n / 10)++byte1 (n % 10)
theorem byte1_size (n:Nat):(byte1 n).size=1:=rfl
end Go.Proofs.YtldndkngpdfpfaaGreat
namespace Go.Proofs.YtldndkngpdfpfaaGreat
open Go.RowKit
def headB (f:UInt8→Bool) (t:ByteArray):Bool:=t.data.toList.head?.any f
theorem headB_eq {f:UInt8→Bool} {t:ByteArray} (h:0<t.size):headB f t=f t[0]:=by
 have hs:t.data.toList.length=t.size:=Array.length_toList
 unfold headB
 rw [List.head?_eq_getElem?,List.getElem?_eq_getElem (by omega),Option.any_some,Array.getElem_toList]
 rfl
def validB (s:Sym):Bool:=
 if s.kind=1 then decide (s.text.size=1) && headB greatB s.text && decide (1≤s.n) && decide (s.n≤1048576)
 else if s.kind=2 then decide (s.text.toList = []) && decide (-2147483647≤s.n) && decide (s.n≤2147483647)
 else if s.kind=3 then decide (s.n=0) && isWord s.text else false
theorem ret_bool {a b:Bool} (h:a=b):Ending.returned (.bool a) = .returned (.bool b):=by rw [h]
set_option maxRecDepth 100000 in
set_option maxHeartbeats 4000000 in
theorem valid_is (s:Sym) (w:World):Calls Tryz.prog 242 #[.agg #[.int .i64 s.kind,.string s.text,.int .i64 s.n]] w fun e w'=>e = .returned (.bool (validB s))∧Below w.heap.size w w':=by
 obtain ⟨k,t,n⟩:=s
 dsimp only
 by_cases k1:k=1
 · subst k1
   by_cases a1:t.size=1
   · have h0:0<t.size:=by omega
     have t1:((t.size:Int) == 1)=true:=by simp;omega
     have HV:=Lib.hid (show validB ⟨1,t,n⟩=(greatB t[0] && decide (1≤n) && decide (n≤1048576)) by simp [validB,a1,headB_eq h0])
     go_enter Tryz.func242,Tryz.ntmps242
     go_wp2_with (go_at_call 253;refine (great_is _ _).mono ?_;rintro e w' ⟨rfl,rfl⟩)
     all_goals
      go_ret
      refine ⟨?_,(Below.refl _ _).alloc (Nat.le_refl _) _⟩
      rw [HV.out]
      first | rfl | (refine ret_bool ?_;simp_all;done) | (refine ret_bool ?_;simp_all;omega) | (refine ret_bool ?_;simp_all [greatB];done) | (refine ret_bool ?_;simp_all [greatB];omega)
   · have t1:((t.size:Int) == 1)=false:=by simp;omega
     have HV:=Lib.hid (show validB ⟨1,t,n⟩=false by simp [validB,a1])
     go_enter Tryz.func242,Tryz.ntmps242
     go_wp2_with fail
     all_goals
      go_ret
      refine ⟨?_,(Below.refl _ _).alloc (Nat.le_refl _) _⟩
      rw [HV.out]
      rfl
 · by_cases k2:k=2
   · subst k2
     have HV:=Lib.hid (show validB ⟨2,t,n⟩=(decide (t.toList = []) && decide (-2147483647≤n) && decide (n≤2147483647)) by simp [validB])
     clear k1
     go_enter Tryz.func242,Tryz.ntmps242
     go_wp2_with fail
     all_goals
      go_ret
      refine ⟨?_,(Below.refl _ _).alloc (Nat.le_refl _) _⟩
      rw [HV.out]
      first | rfl | (refine ret_bool ?_;simp_all;done) | (refine ret_bool ?_;simp_all;omega) | (refine ret_bool ?_;simp_all [greatB];done) | (refine ret_bool ?_;simp_all [greatB];omega)
   · by_cases k3:k=3
     · subst k3
       have HV:=Lib.hid (show validB ⟨3,t,n⟩=(decide (n=0) && isWord t) by simp [validB])
       clear k1 k2
       go_enter Tryz.func242,Tryz.ntmps242
       go_wp2_with (go_at_call 154;refine (word_is _ _).mono ?_;rintro e w' ⟨rfl,rfl⟩)
       all_goals
        go_ret
        refine ⟨?_,(Below.refl _ _).alloc (Nat.le_refl _) _⟩
        rw [HV.out]
        first | rfl | (refine ret_bool ?_;simp_all;done) | (refine ret_bool ?_;simp_all;omega) | (refine ret_bool ?_;simp_all [greatB];done) | (refine ret_bool ?_;simp_all [greatB];omega)
     · have HV:=Lib.hid (show validB ⟨k,t,n⟩=false by simp [validB,k1,k2,k3])
       have t1:(k == 1)=false:=by simp [k1]
       have t2:(k == 2)=false:=by simp [k2]
       have t3:(k == 3)=false:=by simp [k3]
       clear k1 k2 k3
       go_enter Tryz.func242,Tryz.ntmps242
       go_wp2_with fail
       all_goals
        go_ret
        refine ⟨?_,(Below.refl _ _).alloc (Nat.le_refl _) _⟩
        rw [HV.out]
        rfl
end Go.Proofs.YtldndkngpdfpfaaGreat
namespace Go.Proofs.YtldndkngpdfpfaaGreat
open Go.RowKit
theorem flat_set1 {α:Type} {cells:α→List Value} (hsz : ∀x,(cells x).length=1) (_h0:0<1) (l:List α) (k:Nat) (hk:k<l.length) (y:α) :
 setAll (l.flatMap cells) k (cells y)=(l.set k y).flatMap cells:=by
 have h:=flat_set hsz (by omega) l k hk y
 rwa [Nat.mul_one] at h
end Go.Proofs.YtldndkngpdfpfaaGreat
namespace Go.Proofs.YtldndkngpdfpfaaGreat
open Go.RowKit
abbrev Name:=ByteArray
def Name.cells (n:Name):List Value:=[.string n]
theorem Name.cells_length (n:Name):(Name.cells n).length=1:=rfl
def cmpName (a b:Name):Int:=cmpStr a b
theorem tc_name:TC cmpName:=tc_str
set_option maxHeartbeats 400000 in
theorem cmp_name (a b:Name) (w:World):Calls Tryz.prog 316 #[.string a,.string b] w fun e w'=>e = .returned (.int .i64 (cmpName a b))∧Below w.heap.size w w':=by
 go_enter Tryz.func316,Tryz.ntmps316
 go_wp2
 all_goals (go_ret;refine ⟨?_,Below.refl _ _⟩;unfold cmpName cmpStr;simp_all)
end Go.Proofs.YtldndkngpdfpfaaGreat
namespace Go.Proofs.YtldndkngpdfpfaaGreat
def zS:Sym:=⟨0,⟨#[]⟩,0⟩
def noneB (s:Sym):Bool:=decide (s=zS)
def emptyB (a:AtomT):Bool:=decide (a.var.toList = []) && noneB a.sym
def constB (s:Sym):Bool:=decide (s.kind≠1) && validB s
def testB (t:TestT):Bool:=
 if t.rel=8 then decide (t.var.toList = []) && noneB t.sym && decide (1≤t.list.length) && decide (t.list.length≤8) && t.list.all constB
 else if t.rel<1∨7<t.rel∨0<t.list.length then false
 else if t.var.toList = [] then constB t.sym else isWord t.var && noneB t.sym
def atomB (a:AtomT):Bool:=if a.var.toList = [] then constB a.sym else isWord a.var && noneB a.sym
def condE (c:CondT) (deep:Nat):Int:=
 if c.kind=3 then (if c.goal=true∨c.id.toList≠[]∨0<c.attr.length∨0<c.value.length∨c.acc=true∨c.conds.length=0 then 9 else if 3≤deep then 8 else 0)
 else if c.kind=1∨c.kind=2 then
  (if 0<c.conds.length∨isWord c.id=false∨c.attr.length=0 then 9 else if 4<c.attr.length∨4<c.value.length then 7 else if (c.attr.all testB && c.value.all testB)=false then 9 else 0)
 else 9
def wordAB (a:AtomT):Bool:=decide (a.var.toList = []) && decide (a.sym.kind=3)
def termB (t:TermT):Bool:=
 if t.op<0∨3<t.op∨atomB t.a=false then false
 else if t.op=0 then emptyB t.b else atomB t.b && !wordAB t.a && !wordAB t.b
def otherB (k:Int):Bool:=decide (k=8) || decide (k=9) || decide (k=10)
def actB (a:ActT):Bool:=
 if isWord a.id=false∨atomB a.attr=false∨termB a.value=false∨a.pref<1∨10<a.pref then false
 else if otherB a.pref=true then atomB a.other else emptyB a.other
def flatC:Nat→Nat→List CondT→List (Nat×CondT)
 | 0,_,_=>[]
 | n+1,d,l=>l.flatMap fun c=>(d,c) :: flatC n (d+1) c.conds
def shapeP (n:Nat) (p:ProdT):Int×Int:=
 if isWord p.name=false then (-1,2)
 else if (flatC n 0 p.conds).length<1∨16<(flatC n 0 p.conds).length∨p.acts.length<1∨16<p.acts.length then (-1,7)
 else match (flatC n 0 p.conds).findIdx? (fun c=>decide (condE c.2 c.1≠0)) with
  | some k=>(k,(((flatC n 0 p.conds)[k]?).map fun c=>condE c.2 c.1).getD 0)
  | none=>match p.acts.findIdx? (fun a=>!actB a) with
    | some i=>((flatC n 0 p.conds).length+i,9)
    | none=>(-1,0)
abbrev Kn:=List ByteArray×List ByteArray
def metK (k:Kn) (v:ByteArray):Kn:=(put cmpName k.1 v,if has cmpName k.1 v=true then k.2 else k.2 ++ [v])
def hasK (k:Kn) (v:ByteArray):Bool:=has cmpName k.1 v
def fieldK:Kn→List TestT→Bool×Kn
 | k,[]=>(true,k)
 | k,t :: l=>if t.rel=8∨t.var.toList = [] then fieldK k l else if t.rel=1 then fieldK (metK k t.var) l else if hasK k t.var=true then fieldK k l else (false,k)
def oneK (k:Kn) (c:CondT):Bool×Kn:=
 let k1:=if c.goal=true then metK k c.id else k
 if hasK k1 c.id=true then (match fieldK k1 c.attr with | (true,k2)=>fieldK k2 c.value | (false,k2)=>(false,k2)) else (false,k1)
def condsK:Nat→Kn→List CondT→Int→Bool×Int×Kn
 | 0,k,_,at_=>(true,at_,k)
 | _+1,k,[],at_=>(true,at_,k)
 | n+1,k,c :: l,at_=>
   if c.kind=3 then
    (match condsK n (k.1,[]) c.conds (at_+1) with
      | (true,a2,_)=>condsK (n+1) k l a2
      | (false,a2,_)=>(false,a2,k))
   else
    (match oneK (if c.kind=1 then k else (k.1,[])) c with
      | (true,k2)=>condsK (n+1) (if c.kind=1 then k2 else k) l (at_+1)
      | (false,_)=>(false,at_,k))
termination_by n _ l _=>(n,l.length)
def lacksB (k:Kn) (a:AtomT):Bool:=decide (a.var.toList≠[]) && !hasK k a.var
def actV (k:Kn) (a:ActT):Bool:=lacksB k a.attr || (decide (a.value.op≠0) && (lacksB k a.value.a || lacksB k a.value.b))
def checkP (n:Nat) (p:ProdT):Int×Int×List ByteArray:=
 if (shapeP n p).2≠0 then ((shapeP n p).1,(shapeP n p).2,[])
 else if (p.conds.head?.map CondT.kind).getD 0≠1 then (0,9,[])
 else match condsK n ([],[]) p.conds 0 with
  | (false,a,_)=>(a,6,[])
  | (true,a,k)=>match p.acts.findIdx? (actV k) with
    | some i=>(a+i,6,[])
    | none=>(-1,0,k.2)
end Go.Proofs.YtldndkngpdfpfaaGreat
namespace Go.Proofs.YtldndkngpdfpfaaGreat
def decF:Nat→Nat→ByteArray
 | 0,n=>byte1 n
 | f+1,n=>if n<10 then byte1 n else decF f (n / 10)++byte1 (n % 10)
theorem decF_is : ∀(f n:Nat),n<10 ^ (f+1)→decF f n=decB n
 | 0,n,h=>by rw [decB,if_pos (by simpa using h)];rfl
 | f+1,n,h=>by
   rw [decF,decB]
   split
   · rfl
   · rw [decF_is f (n / 10)]
     rw [Nat.div_lt_iff_lt_mul (by decide)]
     rw [Nat.pow_succ] at h
     exact h
theorem decB_pow : ∀(k n:Nat),n<10 ^ (k+1)→(decB n).size≤k+1
 | 0,n,h=>by rw [decB,if_pos (by simpa using h)];exact Nat.le_refl _
 | k+1,n,h=>by
   rw [decB]
   split
   · rw [byte1_size];omega
   · have h2:n / 10<10 ^ (k+1):=by
      rw [Nat.div_lt_iff_lt_mul (by decide)]
      rw [Nat.pow_succ] at h
      exact h
     have:=decB_pow k (n / 10) h2
     rw [ByteArray.size_append,byte1_size]
     omega
theorem decB_long {n:Nat} (h:n<9223372036854775808):(decB n).size≤19:=decB_pow 18 n (Nat.lt_of_lt_of_le h (by decide))
theorem decF_long {n:Nat} (h:n<9223372036854775808):decF 18 n=decB n:=decF_is 18 n (Nat.lt_of_lt_of_le h (by decide))
def letV (s:Sym):Option UInt8:=if s.kind=1∧s.text.size=1∧65≤(s.text.toList[0]!).toNat∧(s.text.toList[0]!).toNat≤90 then some s.text.toList[0]! else none
def nameV (s:Sym) (n:Int):ByteArray:=if n<1 then ⟨#[]⟩ else match letV s with
 | none=>⟨#[]⟩
 | some c=>⟨#[c - 65+97]⟩++decF 18 n.toNat
def symZ:Sym:=⟨0,⟨#[]⟩,0⟩
def atomZ:AtomT:=⟨⟨#[]⟩,symZ⟩
def testV (ns:List Sym) (rel:Int) (s:Sym):TestT:=if s.kind=1 then ⟨rel,nameV s (plV ns s),symZ,[]⟩ else ⟨rel,⟨#[]⟩,s,[]⟩
def posV (ns:List Sym) (e:Elem):CondT:=.mk 1 e.goal (nameV e.id (plV ns e.id)) [⟨1,⟨#[]⟩,e.attr,[]⟩] [testV ns 1 e.value] e.acc []
def atomV (old:Sym→Bool) (ns:List Sym) (s:Sym):Option (AtomT×List Sym):=
 if s.kind≠1 then some (⟨⟨#[]⟩,s⟩,ns)
 else if plV ns s=0∧old s=true then none
 else some (⟨nameV s (plV (putN ns s) s),symZ⟩,putN ns s)
def actV3 (old:Sym→Bool) (ns:List Sym) (p:PrefT):Option (ActT×List Sym):=
 match atomV old ns p.id with
 | none=>none
 | some (i,n1)=>match atomV old n1 p.value with
   | none=>none
   | some (v,n2)=>match atomV old n2 p.other with
     | none=>none
     | some (o,n3)=>some (⟨i.var,⟨⟨#[]⟩,p.attr⟩,⟨0,v,atomZ⟩,p.kind,o⟩,n3)
instance:DecidableEq AtomT:=fun a b=>decidable_of_iff (a.var=b.var∧a.sym=b.sym) ⟨fun ⟨h1,h2⟩=>by cases a;cases b;simp_all,fun h=>by subst h;exact ⟨rfl,rfl⟩⟩
instance:DecidableEq TermT:=fun a b=>decidable_of_iff (a.op=b.op∧a.a=b.a∧a.b=b.b) ⟨fun ⟨h1,h2,h3⟩=>by cases a;cases b;simp_all,fun h=>by subst h;exact ⟨rfl,rfl,rfl⟩⟩
instance:DecidableEq ActT:=fun a b=>decidable_of_iff (a.id=b.id∧a.attr=b.attr∧a.value=b.value∧a.pref=b.pref∧a.other=b.other) ⟨fun ⟨h1,h2,h3,h4,h5⟩=>by cases a;cases b;simp_all,fun h=>by subst h;exact ⟨rfl,rfl,rfl,rfl,rfl⟩⟩
def addA (acts:List ActT) (a:ActT):List ActT:=if a∈acts then acts else acts ++ [a]
def actsV3 (old:Sym→Bool):List PrefT→List Sym→List ActT→Option (List ActT×List Sym)
 | [],ns,acts=>some (acts,ns)
 | p :: l,ns,acts=>match actV3 old ns p with
   | none=>none
   | some (a,n)=>actsV3 old l n (addA acts a)
def prodW (m:Nat) (name:ByteArray) (cs:List CondT) (tags:List Int) (old:Sym→Bool) (ns:List Sym) (l:List PrefT):Option (ProdT×List Int):=
 match actsV3 old l ns [] with
 | none=>none
 | some (acts,_)=>if (checkP m ⟨name,cs,acts⟩).2.1=0 then some (⟨name,cs,acts⟩,tags) else none
def prodV (m:Nat) (name:ByteArray) (es:List Elem) (old:Sym→Bool) (news:List Sym) (l:List PrefT):Option (ProdT×List Int):=
 match orderV es with
 | none=>none
 | some (o,ns)=>if o = [] then none else if (news.any fun s=>!decide (plV ns s=0))=true then none
   else prodW m name (o.map (posV ns)) (o.map Elem.tag) old ns l
theorem condsK_oneV (n:Nat) (k k2:Kn) (c:CondT) (l:List CondT) (at_:Int) (h:c.kind=1) (h2:oneK k c=(true,k2)):condsK (n+1) k (c :: l) at_=condsK (n+1) k2 l (at_+1):=by
 rw [condsK,if_neg (by omega),if_pos h,h2]
 simp only [if_pos h]
theorem checkP_V {n:Nat} {p:ProdT} {c:CondT} {l:List CondT} {k1 k2:Kn} {at_:Int} (h0:(shapeP (n+1) p).2=0) (hc:p.conds=c :: l) (hk:c.kind=1) (h1:oneK ([],[]) c=(true,k1)) (h2:condsK (n+1) k1 l 1=(true,at_,k2)) (h3:p.acts.findIdx? (actV k2)=none):(checkP (n+1) p).2.1=0:=by
 unfold checkP
 rw [if_neg (by rw [h0];simp),hc,if_neg (by simp [hk]),condsK_oneV n _ k1 c l 0 hk h1,show (0:Int)+1=1 from rfl,h2]
 simp only [h3]
theorem condsK_nilV (n:Nat) (k:Kn) (at_:Int):condsK (n+1) k [] at_=(true,at_,k):=by rw [condsK]
def sSym:Sym:=⟨1,⟨#[83]⟩,1⟩
def aSym:Sym:=⟨1,⟨#[65]⟩,1⟩
def wSym (c:UInt8):Sym:=⟨3,⟨#[c]⟩,0⟩
def e22a:Elem:=⟨sSym,wSym 120,aSym,false,true,1⟩
def e22b:Elem:=⟨aSym,wSym 121,⟨2,⟨#[]⟩,3⟩,false,false,2⟩
def p22:PrefT:=⟨aSym,wSym 122,sSym,symZ,1,false,2,1⟩
def c22a:CondT:=.mk 1 true ⟨#[115,49]⟩ [⟨1,⟨#[]⟩,wSym 120,[]⟩] [⟨1,⟨#[97,50]⟩,symZ,[]⟩] false []
def c22b:CondT:=.mk 1 false ⟨#[97,50]⟩ [⟨1,⟨#[]⟩,wSym 121,[]⟩] [⟨1,⟨#[]⟩,⟨2,⟨#[]⟩,3⟩,[]⟩] false []
def a22:ActT:=⟨⟨#[97,50]⟩,⟨⟨#[]⟩,wSym 122⟩,⟨0,⟨⟨#[115,49]⟩,symZ⟩,atomZ⟩,1,atomZ⟩
theorem wk22_order:orderV [e22a,e22b]=some ([e22a,e22b],[sSym,aSym]):=by kernel_rfl
theorem wk22_conds : [e22a,e22b].map (posV [sSym,aSym]) = [c22a,c22b]:=by kernel_rfl
theorem wk22_acts:actsV3 (fun _=>false) [p22] [sSym,aSym] []=some ([a22],[sSym,aSym]):=by kernel_rfl
theorem wk22_check:(checkP 1 ⟨⟨#[99]⟩,[c22a,c22b],[a22]⟩).2.1=0:=
 checkP_V (n:=0) (c:=c22a) (l:=[c22b]) (k1:=(oneK ([],[]) c22a).2) (k2:=(oneK (oneK ([],[]) c22a).2 c22b).2) (at_:=2) (by kernel_rfl) rfl rfl (by kernel_rfl)
  (by rw [condsK_oneV 0 _ (oneK (oneK ([],[]) c22a).2 c22b).2 c22b [] 1 rfl (by kernel_rfl),condsK_nilV];rfl) (by kernel_rfl)
theorem wk22_prod:prodV 1 ⟨#[99]⟩ [e22a,e22b] (fun _=>false) [] [p22]=some (⟨⟨#[99]⟩,[c22a,c22b],[a22]⟩,[1,2]):=by
 unfold prodV
 rw [wk22_order]
 simp only
 rw [if_neg (by simp),if_neg (by simp),wk22_conds]
 unfold prodW
 rw [wk22_acts]
 simp only
 rw [if_pos wk22_check]
 rfl
end Go.Proofs.YtldndkngpdfpfaaGreat
