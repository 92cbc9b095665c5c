/-
  Texts put together: VaryN4, OpsSym, KitSyms, RefBefore, KeepNeq, VaryEl, VaryRef, VaryRo.
-/
import Derived.Test.YtldndkngpdfpfaaGreatPWf
import Derived.Deep.MidRow
import Derived.Test.YtldndkngpdfpfaaGreatPWb
import Derived.Test.YtldndkngpdfpfaaGreatPWc
import Derived.Maps.RangeWalk
namespace Go.Proofs.YtldndkngpdfpfaaGreat
open Go.RowKit Go.Shelf
attribute [local go_sem] Oper.semAt_some
set_option linter.unusedSimpArgs false
theorem inf_Elem:(Tryz.prog.info? 55).map (fun i=>(i.zero,i.size,i.bytes))=some (some (.agg #[.int .i64 0,.string ⟨#[]⟩,.int .i64 0,.int .i64 0,.string ⟨#[]⟩,.int .i64 0,.int .i64 0,.string ⟨#[]⟩,.int .i64 0,.bool false,.bool false,.int .i64 0]),12,112):=by kernel_rfl
theorem one_Elem (l:List Elem) : ∀u∈l.flatMap Elem.cells,u.oneCell'=true:=by
 intro u hu
 obtain ⟨b,_,hb⟩:=List.mem_flatMap.1 hu
 simp only [Elem.cells,List.mem_cons,List.not_mem_nil,or_false] at hb
 rcases hb with rfl | rfl | rfl | rfl | rfl | rfl | rfl | rfl | rfl | rfl | rfl | rfl<;>rfl
theorem run_slE_from {n c j:Nat} (A:Option Addr) (hj:j≤n) (Y:World):(Instr.slice 84 (.slice A n c) (some (.int .i64 (j:Int))) none none).run Tryz.prog Y = .ok (.slice (if c=j then A else A.map (·.add (j*12))) (n - j) (c - j)) Y:=by
 have hl0:(0:Int)≤(j:Int):=by omega
 have hl1:(j:Int)≤(n:Int):=by omega
 go_simp
theorem run_slE_to {n c j:Nat} (A:Option Addr) (hj:j≤c) (Y:World):(Instr.slice 84 (.slice A n c) none (some (.int .i64 (j:Int))) none).run Tryz.prog Y = .ok (.slice A j c) Y:=by
 have hl0:(0:Int)≤(j:Int):=by omega
 have hl1:(j:Int)≤(c:Int):=by omega
 go_simp
theorem owns_drew {w:World} {b e s n:Nat} {v:Value} {xs:List Value} (h:w.ownsRow b e s v n xs):w.drew.ownsRow b e s v n xs:=h
theorem own_takeE {w:World} {n c k:Nat} {A:Option Addr} {l:List Elem} (h:w.ownsRow 0 55 12 (.slice A n c) n (l.flatMap Elem.cells)) (hl:l.length=n) (hk:k<n):w.ownsRow 0 55 12 (.slice A k c) k ((l.take k).flatMap Elem.cells):=by
 rcases ownsRow_form h with ⟨hv,hn,_⟩ | ⟨g,cap,hv,_⟩
 · omega
 · injection hv with hA _ hc
   subst hA;subst hc
   exact ownsRow_prefix Elem.cells_length (by decide) h (by omega) hl
theorem RowRd.suffixE {α:Type} {w:World} {size c:Nat} {cells:α→List Value} {A:Option Addr} {l:List α} (h:RowRd w size cells A c l) (i:Nat) (hi:i≤l.length) :
 RowRd w size cells (if c=i then A else A.map (·.add (i*size))) (c - i) (l.drop i):=by
 refine ⟨by simp;have:=h.1;omega,by have:=h.2.1;omega,fun h0=>?_⟩
 rw [List.length_drop] at h0
 obtain ⟨b,off,rfl,hb,hc⟩:=h.2.2 (by omega)
 have h1:=h.1
 rw [if_neg (by omega)]
 refine ⟨b,off+i*size,by simp [Go.WideShapes.add_plain],hb,fun k hk j u hu=>?_⟩
 rw [List.length_drop] at hk
 have:=hc (i+k) (by omega) j u (by rw [← hu];simp)
 rw [Nat.add_mul] at this
 rw [← this]
 congr 2
 omega
def bestZ:Option Nat→Int
 | none=>-1
 | some k=>(k:Int)
theorem bestS_skip {ns:List Sym} {left:List Elem} {i:Nat} {y:Elem} (hy:left[i]? = some y) (h:canN ns y=false):bestS ns left (i+1)=bestS ns left i:=by
 rw [bestS,hy];simp only;rw [if_neg (by rw [h];decide)]
theorem bestS_first {ns:List Sym} {left:List Elem} {i:Nat} {y:Elem} (hy:left[i]? = some y) (h:canN ns y=true) (hb:bestS ns left i=none):bestS ns left (i+1)=some i:=by
 rw [bestS,hy];simp only;rw [if_pos h,hb]
theorem bestS_more {ns:List Sym} {left:List Elem} {i k:Nat} {y b:Elem} (hy:left[i]? = some y) (h:canN ns y=true) (hb:bestS ns left i=some k) (hk:left[k]? = some b) (v:Bool) (hv:aheadV ns y b=v):bestS ns left (i+1)=some (if v=true then i else k):=by
 rw [bestS,hy];simp only;rw [if_pos h,hb];simp only;rw [hk];simp only;rw [hv];cases v<;>rfl
def lenV:Value→Nat
 | .slice _ n _=>n
 | _=>0
structure LS (X:World) (nb:Nat) (ns:List Sym) (left out:List Elem) (AL:Option Addr) (cL:Nat) (AO:Option Addr) (cO:Nat) (D:Nat→Prop) (w:World):Prop where
 nm:Nm D w nb ns
 dn : ∀k,D k→X.heap.size≤k
 lo:w.ownsRow 0 55 12 (.slice AL left.length cL) left.length (left.flatMap Elem.cells)
 la:AIn AL (fun k=>X.heap.size≤k∧¬D k)
 oo:w.ownsRow 0 55 12 (.slice AO out.length cO) out.length (out.flatMap Elem.cells)
 oa:AIn AO (fun k=>X.heap.size≤k∧¬D k)
 ne : ∀a b,AL=some a→AO=some b→a.block≠b.block
 bel:Below X.heap.size X w
section
variable {X w w':World} {nb:Nat} {ns ns':List Sym} {left out:List Elem} {AL:Option Addr} {cL:Nat} {AO:Option Addr} {cO:Nat} {D:Nat→Prop}
theorem ain_lt {e:TypeId} {size n c:Nat} {A:Option Addr} {xs:List Value} (h:w.ownsRow 0 e size (.slice A n c) n xs) : ∀a,A=some a→a.block<w.heap.size:=fun a ha=>own_lt h a.block (by subst ha;rfl)
theorem LS.new_ (h:LS X nb ns left out AL cL AO cO D w) (hb:Below w.heap.size w w'):LS X nb ns left out AL cL AO cO D w':=
 ⟨h.nm.new_ hb,h.dn,ownsRow_new h.lo hb,h.la,ownsRow_new h.oo hb,h.oa,h.ne,h.bel.trans (hb.mono h.bel.size)⟩
theorem LS.put (h:LS X nb ns left out AL cL AO cO D w) (hp:PutTo D w nb ns' w') : ∃D',LS X nb ns' left out AL cL AO cO D' w':=by
 obtain ⟨D',h1,h2,h3,h4⟩:=hp
 have hsz:=h.bel.size
 have far : ∀{A:Option Addr} {n c:Nat} {xs:List Value},w.ownsRow 0 55 12 (.slice A n c) n xs→AIn A (fun k=>X.heap.size≤k∧¬D k)→AIn A (fun k=>X.heap.size≤k∧¬D' k):=fun ho hA a ha=>⟨(hA a ha).1,fun hd=>(h3 _ hd).elim (hA a ha).2 (fun h5=>by have:=ain_lt ho a ha;omega)⟩
 have hown : ∀{A:Option Addr} {n c:Nat} {xs:List Value},w.ownsRow 0 55 12 (.slice A n c) n xs→AIn A (fun k=>X.heap.size≤k∧¬D k)→w'.ownsRow 0 55 12 (.slice A n c) n xs:=fun {A} {n c xs} ho hA=>ownsRow_fr ho h4 (fun g hg hd=>by
  cases A with
  | none=>cases hg
  | some a=>injection hg with hg;exact (hA a rfl).2 (hg ▸ hd))
 exact ⟨D',h1,fun k hk=>(h3 k hk).elim (h.dn k) (fun h5=>by omega),hown h.lo h.la,far h.lo h.la,hown h.oo h.oa,far h.oo h.oa,h.ne,h.bel.trans (h4.below hsz (fun k hk hd=>by have:=h.dn k hd;omega))⟩
theorem LS.cut (h:LS X nb ns left out AL cL AO cO D w) {k:Nat} (hk:k<left.length) {v:Value} (hown:w'.ownsRow 0 55 12 v (k+(left.drop (k+1)).length) ((left.take k).flatMap Elem.cells++(left.drop (k+1)).flatMap Elem.cells))
 (hg:w.grownBy w' (Value.slice AL k cL).ownBlock) (hat:v.ownBlock=(Value.slice AL k cL).ownBlock∨v.ownBlock=some w.heap.size) : ∃A' c',v = .slice A' (left.eraseIdx k).length c'∧LS X nb ns (left.eraseIdx k) out A' c' AO cO D w'∧Fr (fun j=>∃a,AL=some a∧a.block=j) w w':=by
 obtain ⟨A',c',rfl,hF,hA,hO⟩:=grown_own (E:=fun j=>∃a,AL=some a∧a.block=j) (fun a ha=>⟨a,ha,rfl⟩) hown hg hat
 have e1:left.eraseIdx k=left.take k++left.drop (k+1):=List.eraseIdx_eq_take_drop_succ left k
 have e2:(left.eraseIdx k).length=k+(left.drop (k+1)).length:=by rw [e1,List.length_append,List.length_take,Nat.min_eq_left (by omega)]
 have hsz:=h.bel.size
 refine ⟨A',c',by rw [e2],⟨h.nm.fr hF (fun j hj ⟨a,ha,e⟩=>(h.la a ha).2 (e ▸ hj)),h.dn,by rw [e2,e1,List.flatMap_append];exact hO,fun a ha=>?_,ownsRow_fr h.oo hF (fun g hg ⟨a,ha,e⟩=>?_),h.oa,fun a b ha hb=>?_,h.bel.trans (hF.below hsz (fun j hj ⟨a,ha,e⟩=>by have:=(h.la a ha).1;omega))⟩,hF⟩
 · rcases hA a ha with ⟨b,hb,e⟩ | ⟨h1,_⟩
   · rw [← e];exact h.la b hb
   · exact ⟨by omega,fun hd=>by have:=h.nm.lt _ hd;omega⟩
 · cases AO with
   | none=>cases hg
   | some b=>injection hg with hg;exact h.ne a b ha rfl (e.trans hg.symm)
 · rcases hA a ha with ⟨b',hb',e⟩ | ⟨h1,_⟩
   · rw [← e];exact h.ne b' b hb' hb
   · have:=ain_lt h.oo b hb;omega
theorem LS.more (h:LS X nb ns left out AL cL AO cO D w) {e:Elem} {v:Value} (hown:w'.ownsRow 0 55 12 v (out.length+1) (out.flatMap Elem.cells ++ [e].flatMap Elem.cells))
 (hg:w.grownBy w' (Value.slice AO out.length cO).ownBlock) (hat:v.ownBlock=(Value.slice AO out.length cO).ownBlock∨v.ownBlock=some w.heap.size) : ∃A' c',v = .slice A' (out ++ [e]).length c'∧LS X nb ns left (out ++ [e]) AL cL A' c' D w'∧Fr (fun j=>∃a,AO=some a∧a.block=j) w w':=by
 obtain ⟨A',c',rfl,hF,hA,hO⟩:=grown_own (E:=fun j=>∃a,AO=some a∧a.block=j) (fun a ha=>⟨a,ha,rfl⟩) hown hg hat
 have e2:(out ++ [e]).length=out.length+1:=by simp
 have hsz:=h.bel.size
 refine ⟨A',c',by rw [e2],⟨h.nm.fr hF (fun j hj ⟨a,ha,e⟩=>(h.oa a ha).2 (e ▸ hj)),h.dn,ownsRow_fr h.lo hF (fun g hg ⟨a,ha,e⟩=>?_),h.la,by rw [e2,List.flatMap_append];exact hO,fun a ha=>?_,fun a b ha hb=>?_,h.bel.trans (hF.below hsz (fun j hj ⟨a,ha,e⟩=>by have:=(h.oa a ha).1;omega))⟩,hF⟩
 · cases AL with
   | none=>cases hg
   | some b=>injection hg with hg;exact h.ne b a rfl ha (hg.trans e.symm)
 · rcases hA a ha with ⟨b,hb,e⟩ | ⟨h1,_⟩
   · rw [← e];exact h.oa b hb
   · exact ⟨by omega,fun hd=>by have:=h.nm.lt _ hd;omega⟩
 · rcases hA b hb with ⟨b',hb',e⟩ | ⟨h1,_⟩
   · rw [← e];exact h.ne a b' ha hb'
   · have:=ain_lt h.lo a ha;omega
theorem LS.at_ (h:LS X nb ns left out AL cL AO cO D w) {i:Nat} (hi:i<left.length) : ∃g off,AL=some ⟨g,off,none⟩∧g<w.heap.size∧w.rangeAt g (off+i*12) (Elem.cells left[i]):=by
 obtain ⟨b,off,h1,h2,h3⟩:=(ownsRow_rd Elem.cells_length h.lo).at_ hi
 exact ⟨b,off,h1,h2,fun j u hu=>h3 j u hu⟩
end
def LaidTo (l:List Elem) (w:World) (e:Ending) (w':World):Prop:=Below w.heap.size w w'∧
 match orderV l with
 | none=>e = .returned (.tuple #[.slice none 0 0,.pointer none,.bool false])
 | some (o,ns)=>∃A c nb D,e = .returned (.tuple #[.slice A o.length c,.pointer (some ⟨nb,0,none⟩),.bool true])∧w'.ownsRow 0 55 12 (.slice A o.length c) o.length (o.flatMap Elem.cells)∧AIn A (fun k=>w.heap.size≤k∧¬D k)∧Nm D w' nb ns∧∀k,D k→w.heap.size≤k
theorem LaidTo.no {l:List Elem} {w w':World} (h:orderV l=none) (hb:Below w.heap.size w w'):LaidTo l w (.returned (.tuple #[.slice none 0 0,.pointer none,.bool false])) w':=by
 refine ⟨hb,?_⟩
 rw [h]
theorem LaidTo.yes {l o left:List Elem} {X w:World} {nb:Nat} {ns:List Sym} {AL:Option Addr} {cL:Nat} {AO:Option Addr} {cO:Nat} {D:Nat→Prop} (h:orderV l=some (o,ns)) (hs:LS X nb ns left o AL cL AO cO D w):LaidTo l X (.returned (.tuple #[.slice AO o.length cO,.pointer (some ⟨nb,0,none⟩),.bool true])) w:=by
 refine ⟨hs.bel,?_⟩
 rw [h]
 exact ⟨AO,cO,nb,D,rfl,hs.oo,hs.oa,hs.nm,hs.dn⟩
set_option maxRecDepth 100000 in
set_option maxHeartbeats 16000000 in
theorem laid_is (l:List Elem) (A:Option Addr) (c:Nat) (X:World) (h:RowRd X 12 Elem.cells A c l) (hl:l.length≤300):Calls Tryz.prog 61 #[.slice A l.length c] X (LaidTo l X):=by
 obtain ⟨i0,hi0,hz0,hz1,hz2⟩:=infp inf_Elem
 have HR:=Lib.hid h
 have hc1:=h.cap
 clear h
 go_enter Tryz.func61,Tryz.ntmps61
 go_wp2_with fail
 refine (bknew_PgS _).mono ?_
 rintro e w1 ⟨bm,bp,sn,AM,cM,rfl,hbm,hbp,hAM,hM,hS,hb1⟩
 have HK:=Lib.hid (And.intro hbm (And.intro hbp (And.intro hAM (And.intro hM (And.intro hS hb1)))))
 clear hbm hbp hAM hM hS hb1
 go_upto_region 2 with fail
 obtain ⟨w2,hw2⟩ : ∃w2,w2=w1.alloc (.cells #[.pointer (some ⟨bm,0,none⟩),.slice none 0 0] 148):=⟨_,rfl⟩
 obtain ⟨nb,hnb⟩ : ∃nb,nb=w1.heap.size:=⟨_,rfl⟩
 have hb2:Below w1.heap.size w1 w2:=by rw [hw2];exact (Below.refl _ _).alloc (Nat.le_refl _) _
 have hs2:w2.heap.size=w1.heap.size+1:=by rw [hw2];simp
 have HN2:=Lib.hid (show Nm (fun k=>X.heap.size≤k∧k<w2.heap.size) w2 nb [] by
  obtain ⟨hbm,hbp,hAM,hM,hS,hb1⟩:=HK.out
  have hz:=hb1.size
  refine ⟨bm,bp,sn,AM,cM,[],none,0,by rw [hw2,hnb];exact Blk.new _ _ _,hM.new_ hb2,hS.new_ hb2,MapN.nil,⟨by simp,.inl ⟨rfl,rfl⟩⟩,⟨by omega,by omega⟩,⟨hbm,by have:=hM.lt;omega⟩,⟨hbp,by have:=hS.lt;omega⟩,fun a ha=>⟨hAM a ha,by have:=hS.row_lt a ha;omega⟩,AIn.none_ _,fun k hk=>hk.2⟩)
 have HB2:=Lib.hid (HK.out.2.2.2.2.2.trans (hb2.mono HK.out.2.2.2.2.2.size))
 rw [← hnb,← hw2]
 clear hnb hw2 hb2 hs2
 go_upto_region 3 with (at_builtin;refine wpList_append_src w2 rfl (.const (.slice none 0 0)) (.tmp 15) 84 rfl 55 i0 _ 12 112 Tryz.underlying84 hi0 hz0 hz1 hz2 rfl (by omega) (.slice none 0 0) 0 [] rfl ⟨by simp,.inl ⟨rfl,rfl⟩⟩ A l.length c (l.flatMap Elem.cells) rfl (flat_length Elem.cells_length _) ((HR.out.new_ HB2.out).news Elem.cells_length (by omega)) (one_Elem _) (by unfold maxLen;omega) (by omega) ?_;intro v1 w3 hown1 hg1 hnil1 hat1;obtain ⟨AL0,cL0,rfl,hF1,hA1,hO1⟩:=grown_own (E:=fun _=>False) (A:=none) (c:=0) (n:=0) (fun a ha=>by cases ha) hown1 hg1 hat1;rw [Nat.zero_add,List.nil_append] at hO1;rw [Nat.zero_add];have HO1:=Lib.hid (And.intro hF1 (And.intro hA1 hO1));clear hown1 hg1 hnil1 hat1 hF1 hA1 hO1)
 have HLS:=Lib.hid (show LS X nb [] l [] AL0 cL0 none 0 (fun k=>X.heap.size≤k∧k<w2.heap.size) w3 by
  obtain ⟨hF,hA,hO⟩:=HO1.out
  have hb3:Below w2.heap.size w2 w3:=hF.below (Nat.le_refl _) (fun _ _ h=>h)
  have hz2:=HB2.out.size
  refine ⟨HN2.out.new_ hb3,fun k hk=>hk.1,hO,fun a ha=>?_,⟨by simp,.inl ⟨rfl,rfl⟩⟩,AIn.none_ _,fun _ _ _ hb=>(by cases hb),HB2.out.trans (hb3.mono hz2)⟩
  rcases hA a ha with h | ⟨h1,_⟩
  · exact h.elim
  · exact ⟨by omega,fun h=>by omega⟩)
 clear HN2 HB2 HO1 HK HR
 go_wp2_with fail
 go_loopw [6,7] (fun vl vo wr=>∃(left out:List Elem) (ns:List Sym) (AL:Option Addr) (cL:Nat) (AO:Option Addr) (cO:Nat) (D:Nat→Prop),vl = .slice AL left.length cL∧vo = .slice AO out.length cO∧LS X nb ns left out AL cL AO cO D wr∧left.length+out.length≤300∧ns.length≤2*out.length∧laidV left.length ns left out=orderV l) (fun vl vo wr=>lenV vl)
 case atStart=>exact ⟨l,[],[],AL0,cL0,none,0,_,rfl,rfl,HLS.out,by simpa using hl,by simp,rfl⟩
 case round=>
  clear HLS
  obtain ⟨left,out,ns,AL,cL,AO,cO,D,rfl,rfl,hls,hlen,hns,hlv⟩:=hrel
  have HS0:=Lib.hid hls
  have HLV:=Lib.hid hlv
  have hcl:=(ownsRow_rd Elem.cells_length hls.lo).cap
  have hcm:left.length≤cL:=(ownsRow_rd Elem.cells_length hls.lo).1
  clear hls hlv
  by_cases he:left.length=0
  · have hl0:left = []:=List.length_eq_zero_iff.1 he
    have HOV:=Lib.hid (show orderV l=some (out,ns) by rw [← HLV.out,hl0];exact laidV_nil)
    clear HLV
    go_wp2_with fail
    exact bodyPost_ret (v:=.tuple #[.slice AO out.length cO,.pointer (some ⟨nb,0,none⟩),.bool true]) (by simp [results,Tryz.results61,go_sem, *]) rfl (LaidTo.yes HOV.out HS0.out)
  · have hl1:(0:Int)<(left.length:Int):=by omega
    have hl2:0<left.length:=by omega
    go_upto_region 7 with fail
    go_loopw [8,22] (fun vb vi W=>∃i:Nat,vi = .int .i64 (i:Int)∧i≤left.length∧vb = .int .i64 (bestZ (bestS ns left i))∧LS X nb ns left out AL cL AO cO D W) (fun vb vi W=>left.length - (intOf vi).toNat)
    case atStart=>exact ⟨0,rfl,Nat.zero_le _,rfl,HS0.out⟩
    case round=>
     obtain ⟨i,rfl,hi,rfl,hls⟩:=hrel
     have HS:=Lib.hid hls
     clear hls
     by_cases hlt:i<left.length
     · skip
       obtain ⟨y,hy⟩ : ∃y,y=left[i]:=⟨_,rfl⟩
       have HY:=Lib.hid hy
       obtain ⟨g,off,hAA,hgl,hrg⟩:=HS.out.at_ hlt
       rw [← hy] at hrg
       subst hAA
       have HRG:=Lib.hid (show wr.rangeAt g (off+i*12) [.int .i64 y.id.kind,.string y.id.text,.int .i64 y.id.n,.int .i64 y.attr.kind,.string y.attr.text,.int .i64 y.attr.n,.int .i64 y.value.kind,.string y.value.text,.int .i64 y.value.n,.bool y.acc,.bool y.goal,.int .i64 y.tag] from hrg)
       have HTH:=Lib.hid (show (wr.alloc (.cells #[.int .i64 0,.string ⟨#[]⟩,.int .i64 0,.int .i64 0,.string ⟨#[]⟩,.int .i64 0,.int .i64 0,.string ⟨#[]⟩,.int .i64 0,.bool false,.bool false,.int .i64 0] 55)).there wr.heap.size 0 (#[.int .i64 y.id.kind,.string y.id.text,.int .i64 y.id.n,.int .i64 y.attr.kind,.string y.attr.text,.int .i64 y.attr.n,.int .i64 y.value.kind,.string y.value.text,.int .i64 y.value.n,.bool y.acc,.bool y.goal,.int .i64 y.tag]:Array Value).size from (Blk.new wr 55 #[.int .i64 0,.string ⟨#[]⟩,.int .i64 0,.int .i64 0,.string ⟨#[]⟩,.int .i64 0,.int .i64 0,.string ⟨#[]⟩,.int .i64 0,.bool false,.bool false,.int .i64 0]).there)
       obtain ⟨W5,hW5⟩ : ∃W5,W5=(wr.alloc (.cells #[.int .i64 0,.string ⟨#[]⟩,.int .i64 0,.int .i64 0,.string ⟨#[]⟩,.int .i64 0,.int .i64 0,.string ⟨#[]⟩,.int .i64 0,.bool false,.bool false,.int .i64 0] 55)).setCells wr.heap.size 0 [.int .i64 y.id.kind,.string y.id.text,.int .i64 y.id.n,.int .i64 y.attr.kind,.string y.attr.text,.int .i64 y.attr.n,.int .i64 y.value.kind,.string y.value.text,.int .i64 y.value.n,.bool y.acc,.bool y.goal,.int .i64 y.tag]:=⟨_,rfl⟩
       have HW5:=Lib.hid hW5
       have HRG5:=Lib.hid (show W5.rangeAt wr.heap.size 0 [.int .i64 y.id.kind,.string y.id.text,.int .i64 y.id.n,.int .i64 y.attr.kind,.string y.attr.text,.int .i64 y.attr.n,.int .i64 y.value.kind,.string y.value.text,.int .i64 y.value.n,.bool y.acc,.bool y.goal,.int .i64 y.tag] by rw [hW5];exact World.rangeAt_setCells_same _ _ _ _ HTH.out)
       have HK5:=Lib.hid (show Blk W5 wr.heap.size 55 #[.int .i64 y.id.kind,.string y.id.text,.int .i64 y.id.n,.int .i64 y.attr.kind,.string y.attr.text,.int .i64 y.attr.n,.int .i64 y.value.kind,.string y.value.text,.int .i64 y.value.n,.bool y.acc,.bool y.goal,.int .i64 y.tag] from kept_blk (zs:=[.int .i64 0,.string ⟨#[]⟩,.int .i64 0,.int .i64 0,.string ⟨#[]⟩,.int .i64 0,.int .i64 0,.string ⟨#[]⟩,.int .i64 0,.bool false,.bool false,.int .i64 0]) (vs:=[.int .i64 y.id.kind,.string y.id.text,.int .i64 y.id.n,.int .i64 y.attr.kind,.string y.attr.text,.int .i64 y.attr.n,.int .i64 y.value.kind,.string y.value.text,.int .i64 y.value.n,.bool y.acc,.bool y.goal,.int .i64 y.tag]) rfl hW5 HRG5.out)
       have HB5:=Lib.hid (show Below wr.heap.size wr W5 by rw [hW5];exact Below.setCells' _ _ ((Below.refl _ _).alloc (Nat.le_refl _) _) (Nat.le_refl _))
       clear hW5 hrg hy
       have HYI:=Lib.hid (show left[i]? = some y by rw [HY.out];exact List.getElem?_eq_getElem hlt)
       have j1:(0:Int)≤(i:Int):=by omega
       have j2:(i:Int)<(left.length:Int):=by omega
       obtain ⟨bs,hbs⟩ : ∃bs,bs=bestS ns left i:=⟨_,rfl⟩
       have HBS:=Lib.hid hbs.symm
       rw [← hbs]
       clear hbs
       go_upto_region 9 with (first
       | (with_reducible refine wpList_load_mid rfl 55 _ rfl g (off+i*12) rfl [.int .i64 y.id.kind,.string y.id.text,.int .i64 y.id.n,.int .i64 y.attr.kind,.string y.attr.text,.int .i64 y.attr.n,.int .i64 y.value.kind,.string y.value.text,.int .i64 y.value.n,.bool y.acc,.bool y.goal,.int .i64 y.tag] _ HRG.out Tryz.underlying55 rfl (by kernel_rfl) ?_)
       | ((with_reducible refine wpList_store_mid rfl 55 _ _ rfl wr.heap.size 0 #[.int .i64 y.id.kind,.string y.id.text,.int .i64 y.id.n,.int .i64 y.attr.kind,.string y.attr.text,.int .i64 y.attr.n,.int .i64 y.value.kind,.string y.value.text,.int .i64 y.value.n,.bool y.acc,.bool y.goal,.int .i64 y.tag] rfl rfl HTH.out (by kernel_rfl) (by kernel_rfl) ?_);rw [← HW5.out]))
       have HS5:=Lib.hid (HS.out.new_ HB5.out)
       have HP5:=Lib.hid (show ∀W,Below W5.heap.size W5 W→Calls Tryz.prog 62 #[.pointer (some ⟨nb,0,none⟩),.agg #[.int .i64 y.id.kind,.string y.id.text,.int .i64 y.id.n]] W fun e w'=>e = .returned (.int .i64 (plV ns y.id:Int))∧Below W.heap.size W w' from fun W hW=>place_is y.id W (HS5.out.nm.new_ hW) (by omega))
       have HGO:=Lib.hid (show canN ns y=(y.goal || !decide (plV ns y.id=0)) from rfl)
       have k10:W5.cell? ⟨wr.heap.size,10,none⟩=some (.bool y.goal):=(HK5.out.cell 10).trans rfl
       have k0:W5.cell? ⟨wr.heap.size,0,none⟩=some (.int .i64 y.id.kind):=(HK5.out.cell 0).trans rfl
       have k1:W5.cell? ⟨wr.heap.size,1,none⟩=some (.string y.id.text):=(HK5.out.cell 1).trans rfl
       have k2:W5.cell? ⟨wr.heap.size,2,none⟩=some (.int .i64 y.id.n):=(HK5.out.cell 2).trans rfl
       have kz:=HK5.out.lt
       obtain ⟨p,hp⟩ : ∃p,p=plV ns y.id:=⟨_,rfl⟩
       obtain ⟨gb,hgb⟩ : ∃gb,gb=y.goal:=⟨_,rfl⟩
       rw [← hp] at HP5 HGO
       rw [← hgb] at k10 HGO
       clear hp hgb
       have HSZ:=Lib.hid HB5.out.size
       cases gb
       · skip
         by_cases hp0:p=0
         · skip
           subst hp0
           have HBK:=Lib.hid (bestS_skip HYI.out (show canN ns y=false by rw [HGO.out];rfl))
           go_wp2_with fail
           refine (HP5.out _ (Below.refl _ _)).mono ?_
           rintro e w6 ⟨rfl,hb6⟩
           have HS6:=Lib.hid (HS5.out.new_ hb6)
           clear hb6
           go_wp2_with fail
           go_roundw
           case rel=>exact ⟨i+1,by go_num,by omega,by rw [HBK.out,HBS.out],HS6.out⟩
           case measure=>simp [intOf]<;>omega
         · skip
           have r1:((p:Int) == 0)=false:=by simp;omega
           have r2 : ¬(p:Int)=0:=by omega
           have r3:decide ((p:Int)=0)=false:=by simp;omega
           have HCAN:=Lib.hid (show canN ns y=true by rw [HGO.out];simp [hp0])
           clear hp0
           go_upto_region 10 with fail
           refine (HP5.out _ (Below.refl _ _)).mono ?_
           rintro e WK ⟨rfl,hb6⟩
           have HSK:=Lib.hid (HS5.out.new_ hb6)
           have HKK:=Lib.hid (HK5.out.new_ hb6)
           clear hb6 k0 k1 k2 k10 kz
           go_upto_region 10 with fail
           cases bs with
           | none=>
             have HBN:=Lib.hid (bestS_first HYI.out HCAN.out HBS.out)
             dsimp only [bestZ]
             go_upto_region 10 with fail
             refine wp_region_E (fun w9=>Below WK.heap.size WK w9) [(0,0),(1,0),(2,0),(3,0),(4,1),(5,0),(6,0),(7,0),(8,1),(9,2),(10,0)] (by kernel_rfl) (by kernel_rfl) (fun KK hKK=>?_)
             simp only [beside,List.filterMap_cons,List.filterMap_nil,List.getElem?_toArray,List.getElem?_cons_zero,List.getElem?_cons_succ,Option.map_some]
             repeat ((first | (refine wpX_w ?_ (Or.inl ⟨by rfl,fun w9=>?_⟩) ?_;rotate_left 1;go_simp;with_reducible rfl) | (refine wpX_l ?_ (((Below.refl _ _).drew)) (Or.inl ⟨by rfl,fun w9 hw9=>?_⟩) ?_;rotate_left 1;obtain ⟨hc9,hf9⟩:=bcell hw9;go_simp;with_reducible rfl) | refine wpX_w undef (Or.inr ⟨by rfl,rfl⟩) ?_ | refine wpX_l undef (((Below.refl _ _).drew)) (Or.inr ⟨by rfl,rfl⟩) ?_);go_frame)
             refine wpX_es (fun K9 hK9=>?_)
             go_simp
             refine hK9 _ _ ((Below.refl _ _).drew) ?_
             clear hK9 K9
             repeat ((first | (refine wpX_w ?_ (Or.inl ⟨by rfl,fun w9=>?_⟩) ?_;rotate_left 1;go_simp;with_reducible rfl) | (refine wpX_l ?_ (((Below.refl _ _).drew)) (Or.inl ⟨by rfl,fun w9 hw9=>?_⟩) ?_;rotate_left 1;obtain ⟨hc9,hf9⟩:=bcell hw9;go_simp;with_reducible rfl) | refine wpX_w undef (Or.inr ⟨by rfl,rfl⟩) ?_ | refine wpX_l undef (((Below.refl _ _).drew)) (Or.inr ⟨by rfl,rfl⟩) ?_);go_frame)
             refine wpX_nil ?_
             simp only [OnlyN_normal]
             refine hKK _ _ ?_
             clear hKK KK
             have HSL:=Lib.hid (HSK.out.new_ ((Below.refl WK.heap.size WK).drew))
             go_wp2_with fail
             go_roundw
             case rel=>exact ⟨i+1,by go_num,by omega,by rw [HBN.out];rfl,HSL.out⟩
             case measure=>simp [intOf]<;>omega
           | some k=>
             have hkl:=bestS_lt HBS.out
             obtain ⟨b,hb⟩ : ∃b,b=left[k]'hkl.2:=⟨_,rfl⟩
             have HBI:=Lib.hid (show left[k]? = some b by rw [hb];exact List.getElem?_eq_getElem hkl.2)
             obtain ⟨g2,off2,hA2,hgl2,hrg2⟩:=HSK.out.at_ hkl.2
             rw [← hb] at hrg2
             injection hA2 with hA2
             injection hA2 with hA2 hA3
             subst hA2;subst hA3
             have HRB:=Lib.hid (show WK.rangeAt g (off+k*12) [.int .i64 b.id.kind,.string b.id.text,.int .i64 b.id.n,.int .i64 b.attr.kind,.string b.attr.text,.int .i64 b.attr.n,.int .i64 b.value.kind,.string b.value.text,.int .i64 b.value.n,.bool b.acc,.bool b.goal,.int .i64 b.tag] from hrg2)
             have HRY:=Lib.hid (show WK.rangeAt wr.heap.size 0 [.int .i64 y.id.kind,.string y.id.text,.int .i64 y.id.n,.int .i64 y.attr.kind,.string y.attr.text,.int .i64 y.attr.n,.int .i64 y.value.kind,.string y.value.text,.int .i64 y.value.n,.bool y.acc,.bool y.goal,.int .i64 y.tag] from (HKK.out.range))
             obtain ⟨va,hva⟩ : ∃va,va=aheadV ns y b:=⟨_,rfl⟩
             have HBM:=Lib.hid (bestS_more HYI.out HCAN.out HBS.out HBI.out va hva.symm)
             have HAH:=Lib.hid (show ∀W,Below WK.heap.size WK W→Calls Tryz.prog 101 #[.pointer (some ⟨nb,0,none⟩),.agg #[.int .i64 y.id.kind,.string y.id.text,.int .i64 y.id.n,.int .i64 y.attr.kind,.string y.attr.text,.int .i64 y.attr.n,.int .i64 y.value.kind,.string y.value.text,.int .i64 y.value.n,.bool y.acc,.bool y.goal,.int .i64 y.tag],.agg #[.int .i64 b.id.kind,.string b.id.text,.int .i64 b.id.n,.int .i64 b.attr.kind,.string b.attr.text,.int .i64 b.attr.n,.int .i64 b.value.kind,.string b.value.text,.int .i64 b.value.n,.bool b.acc,.bool b.goal,.int .i64 b.tag]] W fun e w'=>e = .returned (.bool va)∧Below W.heap.size W w' from fun W hW=>by rw [hva];exact ahead_is y b W (HSK.out.nm.new_ hW) (by omega))
             have hk1:(0:Int)≤(k:Int):=by omega
             have hk2:(k:Int)<(left.length:Int):=by omega
             have hk3 : ¬(k:Int)<0:=by omega
             have hk4:decide ((k:Int)<0)=false:=by simp
             have hgz:g<WK.heap.size:=hgl2
             have hwz:=HKK.out.lt
             clear hva hb hrg2 hgl2 hkl
             dsimp only [bestZ]
             go_upto_region 10 with fail
             refine wp_region_E (fun w9=>Below WK.heap.size WK w9) [(0,0),(1,0),(2,0),(3,0),(4,1),(5,0),(6,0),(7,0),(8,1),(9,2),(10,0)] (by kernel_rfl) (by kernel_rfl) (fun KK hKK=>?_)
             simp only [beside,List.filterMap_cons,List.filterMap_nil,List.getElem?_toArray,List.getElem?_cons_zero,List.getElem?_cons_succ,Option.map_some]
             repeat ((first | (refine wpX_l _ ((Below.refl _ _).drew) (yieldsIf_load_mid (by rfl) 55 _ rfl wr.heap.size (0) rfl [.int .i64 y.id.kind,.string y.id.text,.int .i64 y.id.n,.int .i64 y.attr.kind,.string y.attr.text,.int .i64 y.attr.n,.int .i64 y.value.kind,.string y.value.text,.int .i64 y.value.n,.bool y.acc,.bool y.goal,.int .i64 y.tag] _ (fun w9 hw9=>rangeAt_below HRY.out hw9 hwz) Tryz.underlying55 rfl (by kernel_rfl)) ?_) | (refine wpX_l _ ((Below.refl _ _).drew) (yieldsIf_load_mid (by rfl) 55 _ rfl g (off+k*12) rfl [.int .i64 b.id.kind,.string b.id.text,.int .i64 b.id.n,.int .i64 b.attr.kind,.string b.attr.text,.int .i64 b.attr.n,.int .i64 b.value.kind,.string b.value.text,.int .i64 b.value.n,.bool b.acc,.bool b.goal,.int .i64 b.tag] _ (fun w9 hw9=>rangeAt_below HRB.out hw9 hgz) Tryz.underlying55 rfl (by kernel_rfl)) ?_) | (refine wpX_w ?_ (Or.inl ⟨by rfl,fun w9=>?_⟩) ?_;rotate_left 1;go_simp;with_reducible rfl) | (refine wpX_l ?_ (((Below.refl _ _).drew)) (Or.inl ⟨by rfl,fun w9 hw9=>?_⟩) ?_;rotate_left 1;obtain ⟨hc9,hf9⟩:=bcell hw9;go_simp;with_reducible rfl) | refine wpX_w undef (Or.inr ⟨by rfl,rfl⟩) ?_ | refine wpX_l undef (((Below.refl _ _).drew)) (Or.inr ⟨by rfl,rfl⟩) ?_);go_frame)
             refine wpX_e (by kernel_rfl) (fun K9 hK9=>?_)
             go_simp
             refine (HAH.out _ ((Below.refl _ _).drew)).mono ?_
             rintro e w9 ⟨rfl,hb9⟩
             have HB9:=Lib.hid (((Below.refl WK.heap.size WK).drew).trans (hb9.mono (by simp)))
             clear hb9
             refine hK9 _ _ ?_
             clear hK9 K9
             repeat ((first | (refine wpX_l _ ((Below.refl _ _).drew) (yieldsIf_load_mid (by rfl) 55 _ rfl wr.heap.size (0) rfl [.int .i64 y.id.kind,.string y.id.text,.int .i64 y.id.n,.int .i64 y.attr.kind,.string y.attr.text,.int .i64 y.attr.n,.int .i64 y.value.kind,.string y.value.text,.int .i64 y.value.n,.bool y.acc,.bool y.goal,.int .i64 y.tag] _ (fun w9 hw9=>rangeAt_below HRY.out hw9 hwz) Tryz.underlying55 rfl (by kernel_rfl)) ?_) | (refine wpX_l _ ((Below.refl _ _).drew) (yieldsIf_load_mid (by rfl) 55 _ rfl g (off+k*12) rfl [.int .i64 b.id.kind,.string b.id.text,.int .i64 b.id.n,.int .i64 b.attr.kind,.string b.attr.text,.int .i64 b.attr.n,.int .i64 b.value.kind,.string b.value.text,.int .i64 b.value.n,.bool b.acc,.bool b.goal,.int .i64 b.tag] _ (fun w9 hw9=>rangeAt_below HRB.out hw9 hgz) Tryz.underlying55 rfl (by kernel_rfl)) ?_) | (refine wpX_w ?_ (Or.inl ⟨by rfl,fun w9=>?_⟩) ?_;rotate_left 1;go_simp;with_reducible rfl) | (refine wpX_l ?_ (((Below.refl _ _).drew)) (Or.inl ⟨by rfl,fun w9 hw9=>?_⟩) ?_;rotate_left 1;obtain ⟨hc9,hf9⟩:=bcell hw9;go_simp;with_reducible rfl) | refine wpX_w undef (Or.inr ⟨by rfl,rfl⟩) ?_ | refine wpX_l undef (((Below.refl _ _).drew)) (Or.inr ⟨by rfl,rfl⟩) ?_);go_frame)
             refine wpX_nil ?_
             simp only [OnlyN_normal]
             refine hKK _ _ ?_
             clear hKK KK
             have HSL:=Lib.hid (HSK.out.new_ HB9.out)
             cases va
             · go_wp2_with fail
               go_roundw
               case rel=>exact ⟨i+1,by go_num,by omega,by rw [HBM.out];rfl,HSL.out⟩
               case measure=>simp [intOf]<;>omega
             · go_wp2_with fail
               go_roundw
               case rel=>exact ⟨i+1,by go_num,by omega,by rw [HBM.out];rfl,HSL.out⟩
               case measure=>simp [intOf]<;>omega
       · skip
         have HCAN:=Lib.hid (show canN ns y=true by rw [HGO.out];rfl)
         go_upto_region 10 with fail
         obtain ⟨WK,hWK⟩ : ∃WK,WK=W5:=⟨_,rfl⟩
         rw [← hWK] at HS5 HK5 ⊢
         have HSK:=Lib.hid HS5.out
         have HKK:=Lib.hid HK5.out
         clear hWK k0 k1 k2 k10 kz
         cases bs with
         | none=>
           have HBN:=Lib.hid (bestS_first HYI.out HCAN.out HBS.out)
           dsimp only [bestZ]
           go_upto_region 10 with fail
           refine wp_region_E (fun w9=>Below WK.heap.size WK w9) [(0,0),(1,0),(2,0),(3,0),(4,1),(5,0),(6,0),(7,0),(8,1),(9,2),(10,0)] (by kernel_rfl) (by kernel_rfl) (fun KK hKK=>?_)
           simp only [beside,List.filterMap_cons,List.filterMap_nil,List.getElem?_toArray,List.getElem?_cons_zero,List.getElem?_cons_succ,Option.map_some]
           repeat ((first | (refine wpX_w ?_ (Or.inl ⟨by rfl,fun w9=>?_⟩) ?_;rotate_left 1;go_simp;with_reducible rfl) | (refine wpX_l ?_ (((Below.refl _ _).drew)) (Or.inl ⟨by rfl,fun w9 hw9=>?_⟩) ?_;rotate_left 1;obtain ⟨hc9,hf9⟩:=bcell hw9;go_simp;with_reducible rfl) | refine wpX_w undef (Or.inr ⟨by rfl,rfl⟩) ?_ | refine wpX_l undef (((Below.refl _ _).drew)) (Or.inr ⟨by rfl,rfl⟩) ?_);go_frame)
           refine wpX_es (fun K9 hK9=>?_)
           go_simp
           refine hK9 _ _ ((Below.refl _ _).drew) ?_
           clear hK9 K9
           repeat ((first | (refine wpX_w ?_ (Or.inl ⟨by rfl,fun w9=>?_⟩) ?_;rotate_left 1;go_simp;with_reducible rfl) | (refine wpX_l ?_ (((Below.refl _ _).drew)) (Or.inl ⟨by rfl,fun w9 hw9=>?_⟩) ?_;rotate_left 1;obtain ⟨hc9,hf9⟩:=bcell hw9;go_simp;with_reducible rfl) | refine wpX_w undef (Or.inr ⟨by rfl,rfl⟩) ?_ | refine wpX_l undef (((Below.refl _ _).drew)) (Or.inr ⟨by rfl,rfl⟩) ?_);go_frame)
           refine wpX_nil ?_
           simp only [OnlyN_normal]
           refine hKK _ _ ?_
           clear hKK KK
           have HSL:=Lib.hid (HSK.out.new_ ((Below.refl WK.heap.size WK).drew))
           go_wp2_with fail
           go_roundw
           case rel=>exact ⟨i+1,by go_num,by omega,by rw [HBN.out];rfl,HSL.out⟩
           case measure=>simp [intOf]<;>omega
         | some k=>
           have hkl:=bestS_lt HBS.out
           obtain ⟨b,hb⟩ : ∃b,b=left[k]'hkl.2:=⟨_,rfl⟩
           have HBI:=Lib.hid (show left[k]? = some b by rw [hb];exact List.getElem?_eq_getElem hkl.2)
           obtain ⟨g2,off2,hA2,hgl2,hrg2⟩:=HSK.out.at_ hkl.2
           rw [← hb] at hrg2
           injection hA2 with hA2
           injection hA2 with hA2 hA3
           subst hA2;subst hA3
           have HRB:=Lib.hid (show WK.rangeAt g (off+k*12) [.int .i64 b.id.kind,.string b.id.text,.int .i64 b.id.n,.int .i64 b.attr.kind,.string b.attr.text,.int .i64 b.attr.n,.int .i64 b.value.kind,.string b.value.text,.int .i64 b.value.n,.bool b.acc,.bool b.goal,.int .i64 b.tag] from hrg2)
           have HRY:=Lib.hid (show WK.rangeAt wr.heap.size 0 [.int .i64 y.id.kind,.string y.id.text,.int .i64 y.id.n,.int .i64 y.attr.kind,.string y.attr.text,.int .i64 y.attr.n,.int .i64 y.value.kind,.string y.value.text,.int .i64 y.value.n,.bool y.acc,.bool y.goal,.int .i64 y.tag] from (HKK.out.range))
           obtain ⟨va,hva⟩ : ∃va,va=aheadV ns y b:=⟨_,rfl⟩
           have HBM:=Lib.hid (bestS_more HYI.out HCAN.out HBS.out HBI.out va hva.symm)
           have HAH:=Lib.hid (show ∀W,Below WK.heap.size WK W→Calls Tryz.prog 101 #[.pointer (some ⟨nb,0,none⟩),.agg #[.int .i64 y.id.kind,.string y.id.text,.int .i64 y.id.n,.int .i64 y.attr.kind,.string y.attr.text,.int .i64 y.attr.n,.int .i64 y.value.kind,.string y.value.text,.int .i64 y.value.n,.bool y.acc,.bool y.goal,.int .i64 y.tag],.agg #[.int .i64 b.id.kind,.string b.id.text,.int .i64 b.id.n,.int .i64 b.attr.kind,.string b.attr.text,.int .i64 b.attr.n,.int .i64 b.value.kind,.string b.value.text,.int .i64 b.value.n,.bool b.acc,.bool b.goal,.int .i64 b.tag]] W fun e w'=>e = .returned (.bool va)∧Below W.heap.size W w' from fun W hW=>by rw [hva];exact ahead_is y b W (HSK.out.nm.new_ hW) (by omega))
           have hk1:(0:Int)≤(k:Int):=by omega
           have hk2:(k:Int)<(left.length:Int):=by omega
           have hk3 : ¬(k:Int)<0:=by omega
           have hk4:decide ((k:Int)<0)=false:=by simp
           have hgz:g<WK.heap.size:=hgl2
           have hwz:=HKK.out.lt
           clear hva hb hrg2 hgl2 hkl
           dsimp only [bestZ]
           go_upto_region 10 with fail
           refine wp_region_E (fun w9=>Below WK.heap.size WK w9) [(0,0),(1,0),(2,0),(3,0),(4,1),(5,0),(6,0),(7,0),(8,1),(9,2),(10,0)] (by kernel_rfl) (by kernel_rfl) (fun KK hKK=>?_)
           simp only [beside,List.filterMap_cons,List.filterMap_nil,List.getElem?_toArray,List.getElem?_cons_zero,List.getElem?_cons_succ,Option.map_some]
           repeat ((first | (refine wpX_l _ ((Below.refl _ _).drew) (yieldsIf_load_mid (by rfl) 55 _ rfl wr.heap.size (0) rfl [.int .i64 y.id.kind,.string y.id.text,.int .i64 y.id.n,.int .i64 y.attr.kind,.string y.attr.text,.int .i64 y.attr.n,.int .i64 y.value.kind,.string y.value.text,.int .i64 y.value.n,.bool y.acc,.bool y.goal,.int .i64 y.tag] _ (fun w9 hw9=>rangeAt_below HRY.out hw9 hwz) Tryz.underlying55 rfl (by kernel_rfl)) ?_) | (refine wpX_l _ ((Below.refl _ _).drew) (yieldsIf_load_mid (by rfl) 55 _ rfl g (off+k*12) rfl [.int .i64 b.id.kind,.string b.id.text,.int .i64 b.id.n,.int .i64 b.attr.kind,.string b.attr.text,.int .i64 b.attr.n,.int .i64 b.value.kind,.string b.value.text,.int .i64 b.value.n,.bool b.acc,.bool b.goal,.int .i64 b.tag] _ (fun w9 hw9=>rangeAt_below HRB.out hw9 hgz) Tryz.underlying55 rfl (by kernel_rfl)) ?_) | (refine wpX_w ?_ (Or.inl ⟨by rfl,fun w9=>?_⟩) ?_;rotate_left 1;go_simp;with_reducible rfl) | (refine wpX_l ?_ (((Below.refl _ _).drew)) (Or.inl ⟨by rfl,fun w9 hw9=>?_⟩) ?_;rotate_left 1;obtain ⟨hc9,hf9⟩:=bcell hw9;go_simp;with_reducible rfl) | refine wpX_w undef (Or.inr ⟨by rfl,rfl⟩) ?_ | refine wpX_l undef (((Below.refl _ _).drew)) (Or.inr ⟨by rfl,rfl⟩) ?_);go_frame)
           refine wpX_e (by kernel_rfl) (fun K9 hK9=>?_)
           go_simp
           refine (HAH.out _ ((Below.refl _ _).drew)).mono ?_
           rintro e w9 ⟨rfl,hb9⟩
           have HB9:=Lib.hid (((Below.refl WK.heap.size WK).drew).trans (hb9.mono (by simp)))
           clear hb9
           refine hK9 _ _ ?_
           clear hK9 K9
           repeat ((first | (refine wpX_l _ ((Below.refl _ _).drew) (yieldsIf_load_mid (by rfl) 55 _ rfl wr.heap.size (0) rfl [.int .i64 y.id.kind,.string y.id.text,.int .i64 y.id.n,.int .i64 y.attr.kind,.string y.attr.text,.int .i64 y.attr.n,.int .i64 y.value.kind,.string y.value.text,.int .i64 y.value.n,.bool y.acc,.bool y.goal,.int .i64 y.tag] _ (fun w9 hw9=>rangeAt_below HRY.out hw9 hwz) Tryz.underlying55 rfl (by kernel_rfl)) ?_) | (refine wpX_l _ ((Below.refl _ _).drew) (yieldsIf_load_mid (by rfl) 55 _ rfl g (off+k*12) rfl [.int .i64 b.id.kind,.string b.id.text,.int .i64 b.id.n,.int .i64 b.attr.kind,.string b.attr.text,.int .i64 b.attr.n,.int .i64 b.value.kind,.string b.value.text,.int .i64 b.value.n,.bool b.acc,.bool b.goal,.int .i64 b.tag] _ (fun w9 hw9=>rangeAt_below HRB.out hw9 hgz) Tryz.underlying55 rfl (by kernel_rfl)) ?_) | (refine wpX_w ?_ (Or.inl ⟨by rfl,fun w9=>?_⟩) ?_;rotate_left 1;go_simp;with_reducible rfl) | (refine wpX_l ?_ (((Below.refl _ _).drew)) (Or.inl ⟨by rfl,fun w9 hw9=>?_⟩) ?_;rotate_left 1;obtain ⟨hc9,hf9⟩:=bcell hw9;go_simp;with_reducible rfl) | refine wpX_w undef (Or.inr ⟨by rfl,rfl⟩) ?_ | refine wpX_l undef (((Below.refl _ _).drew)) (Or.inr ⟨by rfl,rfl⟩) ?_);go_frame)
           refine wpX_nil ?_
           simp only [OnlyN_normal]
           refine hKK _ _ ?_
           clear hKK KK
           have HSL:=Lib.hid (HSK.out.new_ HB9.out)
           cases va
           · go_wp2_with fail
             go_roundw
             case rel=>exact ⟨i+1,by go_num,by omega,by rw [HBM.out];rfl,HSL.out⟩
             case measure=>simp [intOf]<;>omega
           · go_wp2_with fail
             go_roundw
             case rel=>exact ⟨i+1,by go_num,by omega,by rw [HBM.out];rfl,HSL.out⟩
             case measure=>simp [intOf]<;>omega
     · skip
       obtain rfl:i=left.length:=by omega
       obtain ⟨bs,hbs⟩ : ∃bs,bs=bestS ns left left.length:=⟨_,rfl⟩
       have HBS:=Lib.hid (show bestV ns left=bs from hbs.symm)
       rw [← hbs]
       clear hbs
       have jz : ¬(left.length:Int)<(left.length:Int):=by omega
       cases bs with
       | none=>
         have HOV:=Lib.hid (show orderV l=none by
          rw [← HLV.out]
          obtain ⟨q,hq⟩ : ∃q,left.length=q+1:=⟨left.length - 1,by omega⟩
          rw [hq]
          exact laidV_none (by intro e;rw [e] at he;exact he rfl) HBS.out)
         dsimp only [bestZ]
         go_wp2_with fail
         exact bodyPost_ret (v:=.tuple #[.slice none 0 0,.pointer none,.bool false]) (by simp [results,Tryz.results61,go_sem, *]) rfl (LaidTo.no HOV.out HS.out.bel)
       | some k=>
         have hkl:=bestS_lt HBS.out
         dsimp only [bestZ]
         have hlt:=hkl.2
         obtain ⟨y,hy⟩ : ∃y,y=left[k]:=⟨_,rfl⟩
         have HY:=Lib.hid hy
         obtain ⟨g,off,hAA,hgl,hrg⟩:=HS.out.at_ hlt
         rw [← hy] at hrg
         subst hAA
         have HRG:=Lib.hid (show wr.rangeAt g (off+k*12) [.int .i64 y.id.kind,.string y.id.text,.int .i64 y.id.n,.int .i64 y.attr.kind,.string y.attr.text,.int .i64 y.attr.n,.int .i64 y.value.kind,.string y.value.text,.int .i64 y.value.n,.bool y.acc,.bool y.goal,.int .i64 y.tag] from hrg)
         have HTH:=Lib.hid (show (wr.alloc (.cells #[.int .i64 0,.string ⟨#[]⟩,.int .i64 0,.int .i64 0,.string ⟨#[]⟩,.int .i64 0,.int .i64 0,.string ⟨#[]⟩,.int .i64 0,.bool false,.bool false,.int .i64 0] 55)).there wr.heap.size 0 (#[.int .i64 y.id.kind,.string y.id.text,.int .i64 y.id.n,.int .i64 y.attr.kind,.string y.attr.text,.int .i64 y.attr.n,.int .i64 y.value.kind,.string y.value.text,.int .i64 y.value.n,.bool y.acc,.bool y.goal,.int .i64 y.tag]:Array Value).size from (Blk.new wr 55 #[.int .i64 0,.string ⟨#[]⟩,.int .i64 0,.int .i64 0,.string ⟨#[]⟩,.int .i64 0,.int .i64 0,.string ⟨#[]⟩,.int .i64 0,.bool false,.bool false,.int .i64 0]).there)
         obtain ⟨W5,hW5⟩ : ∃W5,W5=(wr.alloc (.cells #[.int .i64 0,.string ⟨#[]⟩,.int .i64 0,.int .i64 0,.string ⟨#[]⟩,.int .i64 0,.int .i64 0,.string ⟨#[]⟩,.int .i64 0,.bool false,.bool false,.int .i64 0] 55)).setCells wr.heap.size 0 [.int .i64 y.id.kind,.string y.id.text,.int .i64 y.id.n,.int .i64 y.attr.kind,.string y.attr.text,.int .i64 y.attr.n,.int .i64 y.value.kind,.string y.value.text,.int .i64 y.value.n,.bool y.acc,.bool y.goal,.int .i64 y.tag]:=⟨_,rfl⟩
         have HW5:=Lib.hid hW5
         have HRG5:=Lib.hid (show W5.rangeAt wr.heap.size 0 [.int .i64 y.id.kind,.string y.id.text,.int .i64 y.id.n,.int .i64 y.attr.kind,.string y.attr.text,.int .i64 y.attr.n,.int .i64 y.value.kind,.string y.value.text,.int .i64 y.value.n,.bool y.acc,.bool y.goal,.int .i64 y.tag] by rw [hW5];exact World.rangeAt_setCells_same _ _ _ _ HTH.out)
         have HK5:=Lib.hid (show Blk W5 wr.heap.size 55 #[.int .i64 y.id.kind,.string y.id.text,.int .i64 y.id.n,.int .i64 y.attr.kind,.string y.attr.text,.int .i64 y.attr.n,.int .i64 y.value.kind,.string y.value.text,.int .i64 y.value.n,.bool y.acc,.bool y.goal,.int .i64 y.tag] from kept_blk (zs:=[.int .i64 0,.string ⟨#[]⟩,.int .i64 0,.int .i64 0,.string ⟨#[]⟩,.int .i64 0,.int .i64 0,.string ⟨#[]⟩,.int .i64 0,.bool false,.bool false,.int .i64 0]) (vs:=[.int .i64 y.id.kind,.string y.id.text,.int .i64 y.id.n,.int .i64 y.attr.kind,.string y.attr.text,.int .i64 y.attr.n,.int .i64 y.value.kind,.string y.value.text,.int .i64 y.value.n,.bool y.acc,.bool y.goal,.int .i64 y.tag]) rfl hW5 HRG5.out)
         have HB5:=Lib.hid (show Below wr.heap.size wr W5 by rw [hW5];exact Below.setCells' _ _ ((Below.refl _ _).alloc (Nat.le_refl _) _) (Nat.le_refl _))
         clear hW5 hrg hy
         have HYI:=Lib.hid (show left[k]? = some y by rw [HY.out];exact List.getElem?_eq_getElem hlt)
         have hk1:(0:Int)≤(k:Int):=by omega
         have hk2:(k:Int)<(left.length:Int):=by omega
         have hk3 : ¬(k:Int)<0:=by omega
         go_upto_region 16 with (first
         | (with_reducible refine wpList_load_mid rfl 55 _ rfl g (off+k*12) rfl [.int .i64 y.id.kind,.string y.id.text,.int .i64 y.id.n,.int .i64 y.attr.kind,.string y.attr.text,.int .i64 y.attr.n,.int .i64 y.value.kind,.string y.value.text,.int .i64 y.value.n,.bool y.acc,.bool y.goal,.int .i64 y.tag] _ HRG.out Tryz.underlying55 rfl (by kernel_rfl) ?_)
         | ((with_reducible refine wpList_store_mid rfl 55 _ _ rfl wr.heap.size 0 #[.int .i64 y.id.kind,.string y.id.text,.int .i64 y.id.n,.int .i64 y.attr.kind,.string y.attr.text,.int .i64 y.attr.n,.int .i64 y.value.kind,.string y.value.text,.int .i64 y.value.n,.bool y.acc,.bool y.goal,.int .i64 y.tag] rfl rfl HTH.out (by kernel_rfl) (by kernel_rfl) ?_);rw [← HW5.out]))
         have HSE:=Lib.hid hlt
         obtain ⟨dk,hdk⟩ : ∃x,x=left.drop (k+1):=⟨_,rfl⟩
         obtain ⟨As,hAs⟩ : ∃As:Option Addr,As=(if cL=k+1 then some ⟨g,off,none⟩ else (some (⟨g,off,none⟩:Addr)).map (·.add ((k+1)*12))):=⟨_,rfl⟩
         have hdl:left.length - (k+1)=dk.length:=by rw [hdk,List.length_drop]
         have hcl2:k<cL:=by omega
         have hsl1 : ∀Y,(Instr.slice 84 (.slice (some ⟨g,off,none⟩) left.length cL) none (some (.int .i64 (k:Int))) none).run Tryz.prog Y = .ok (.slice (some ⟨g,off,none⟩) k cL) Y:=fun Y=>run_slE_to _ (by omega) Y
         have hsl2 : ∀Y,(Instr.slice 84 (.slice (some ⟨g,off,none⟩) left.length cL) (some (.int .i64 ((k:Int)+1))) none none).run Tryz.prog Y = .ok (.slice As dk.length (cL - (k+1))) Y:=fun Y=>by rw [← hdl,hAs];exact run_slE_from (j:=k+1) _ (by omega) Y
         have v1:IntKind.i64.wrap ((k:Int)+1)=(k:Int)+1:=IntWalk.i64_in _ (by omega)
         have HS5:=Lib.hid (HS.out.new_ HB5.out)
         have HDK:=Lib.hid (show RowRd W5 12 Elem.cells As (cL - (k+1)) dk by rw [hdk,hAs];exact (ownsRow_rd Elem.cells_length HS5.out.lo).suffixE (k+1) (by omega))
         have HTK:=Lib.hid (show W5.ownsRow 0 55 12 (.slice (some ⟨g,off,none⟩) k cL) k ((left.take k).flatMap Elem.cells) from own_takeE HS5.out.lo rfl hlt)
         have HDE:=Lib.hid hdk
         have hdl1:dk.length≤300:=by omega
         have hkl1:k≤300:=by omega
         clear hdk hAs hdl hkl
         have HS5D:=Lib.hid (HS5.out.new_ ((Below.refl W5.heap.size W5).drew))
         refine wp_region_E (fun w9=>Below W5.heap.size W5 w9) [(0,0),(1,0),(2,0),(3,0),(4,0),(5,0),(6,0),(7,2),(8,0)] (by kernel_rfl) (by kernel_rfl) (fun KK hKK=>?_)
         simp only [beside,List.filterMap_cons,List.filterMap_nil,List.getElem?_toArray,List.getElem?_cons_zero,List.getElem?_cons_succ,Option.map_some]
         repeat ((first | (refine wpX_w ?_ (Or.inl ⟨by rfl,fun w9=>?_⟩) ?_;rotate_left 1;go_simp;with_reducible rfl) | (refine wpX_l ?_ (((Below.refl _ _).drew)) (Or.inl ⟨by rfl,fun w9 hw9=>?_⟩) ?_;rotate_left 1;obtain ⟨hc9,hf9⟩:=bcell hw9;go_simp;with_reducible rfl) | refine wpX_w undef (Or.inr ⟨by rfl,rfl⟩) ?_ | refine wpX_l undef (((Below.refl _ _).drew)) (Or.inr ⟨by rfl,rfl⟩) ?_);go_frame)
         refine wpX_e (by kernel_rfl) (fun K9 hK9=>?_)
         refine step_append_src _ (by rfl) _ _ _ (by rfl) 55 i0 _ 12 112 Tryz.underlying84 hi0 hz0 hz1 hz2 rfl (by omega) (.slice (some ⟨g,off,none⟩) k cL) k ((left.take k).flatMap Elem.cells) (by rfl) (owns_drew HTK.out) As dk.length (cL - (k+1)) (dk.flatMap Elem.cells) (by rfl) (flat_length Elem.cells_length _) ((HDK.out.drew).news Elem.cells_length (by omega)) (one_Elem _) (by unfold maxLen;omega) (by omega) ?_
         intro v2 w7 hown hgr hnil hat
         rw [HDE.out] at hown
         obtain ⟨A7,c7,rfl,hs7,hf7⟩:=HS5D.out.cut hlt hown hgr hat
         obtain ⟨lk,hlk⟩ : ∃lk,lk=left.eraseIdx k:=⟨_,rfl⟩
         rw [← hlk] at hs7 ⊢
         have HLK:=Lib.hid hlk
         have HS7:=Lib.hid hs7
         have HF7:=Lib.hid hf7
         clear hown hgr hnil hat hs7 hf7 hlk
         refine hK9 _ _ ?_
         clear hK9 K9
         repeat ((first | (refine wpX_w ?_ (Or.inl ⟨by rfl,fun w9=>?_⟩) ?_;rotate_left 1;go_simp;with_reducible rfl) | (refine wpX_l ?_ (((Below.refl _ _).drew)) (Or.inl ⟨by rfl,fun w9 hw9=>?_⟩) ?_;rotate_left 1;obtain ⟨hc9,hf9⟩:=bcell hw9;go_simp;with_reducible rfl) | refine wpX_w undef (Or.inr ⟨by rfl,rfl⟩) ?_ | refine wpX_l undef (((Below.refl _ _).drew)) (Or.inr ⟨by rfl,rfl⟩) ?_);go_frame)
         refine wpX_nil ?_
         simp only [OnlyN_normal]
         refine hKK _ _ ?_
         clear hKK KK
         have HKX:=Lib.hid (show w7.heap.size≥W5.heap.size∧Blk w7 wr.heap.size 55 #[.int .i64 y.id.kind,.string y.id.text,.int .i64 y.id.n,.int .i64 y.attr.kind,.string y.attr.text,.int .i64 y.attr.n,.int .i64 y.value.kind,.string y.value.text,.int .i64 y.value.n,.bool y.acc,.bool y.goal,.int .i64 y.tag] from ⟨HF7.out.size,(HK5.out.drew).fr HF7.out (fun ⟨a,ha,e⟩=>by cases ha;dsimp only at e;omega)⟩)
         have HDX:=Lib.hid (show ¬D wr.heap.size from fun hd=>by have:=HS.out.nm.lt _ hd;omega)
         have HRX:=Lib.hid (show w7.rangeAt wr.heap.size 0 [.int .i64 y.id.kind,.string y.id.text,.int .i64 y.id.n,.int .i64 y.attr.kind,.string y.attr.text,.int .i64 y.attr.n,.int .i64 y.value.kind,.string y.value.text,.int .i64 y.value.n,.bool y.acc,.bool y.goal,.int .i64 y.tag] from HKX.out.2.range)
         obtain ⟨W8,hW8⟩ : ∃W8,W8=w7.alloc (.cells #[.int .i64 y.id.kind,.string y.id.text,.int .i64 y.id.n,.int .i64 y.attr.kind,.string y.attr.text,.int .i64 y.attr.n,.int .i64 y.value.kind,.string y.value.text,.int .i64 y.value.n,.bool y.acc,.bool y.goal,.int .i64 y.tag] 55):=⟨_,rfl⟩
         have HW8:=Lib.hid hW8
         have hb8:Below w7.heap.size w7 W8:=by rw [hW8];exact (Below.refl _ _).alloc (Nat.le_refl _) _
         have HS8:=Lib.hid (HS7.out.new_ hb8)
         have HK8:=Lib.hid (HKX.out.2.new_ hb8)
         have HN8:=Lib.hid (show 0<1→∃ad,(some (⟨w7.heap.size,0,none⟩:Addr))=some ad∧∀j u,([y].flatMap Elem.cells)[j]? = some u→W8.cell? (ad.add j)=some u from fun _=>⟨_,rfl,by rw [hW8];exact World.news_of_block (heap_alloc_new _ _)⟩)
         have ho8:out.length≤300:=by omega
         clear hW8 hb8 v1 hsl1 hsl2
         go_upto_region 18 with (first
         | (with_reducible refine wpList_load_mid rfl 55 _ rfl wr.heap.size 0 rfl [.int .i64 y.id.kind,.string y.id.text,.int .i64 y.id.n,.int .i64 y.attr.kind,.string y.attr.text,.int .i64 y.attr.n,.int .i64 y.value.kind,.string y.value.text,.int .i64 y.value.n,.bool y.acc,.bool y.goal,.int .i64 y.tag] _ HRX.out Tryz.underlying55 rfl (by kernel_rfl) ?_)
         | (at_builtin;rw [← HW8.out];refine wpList_append_src W8 rfl (.tmp 64) (.tmp 66) 84 rfl 55 i0 _ 12 112 Tryz.underlying84 hi0 hz0 hz1 hz2 rfl (by omega) (.slice AO out.length cO) out.length (out.flatMap Elem.cells) rfl HS8.out.oo (some ⟨w7.heap.size,0,none⟩) 1 1 ([y].flatMap Elem.cells) rfl rfl HN8.out (one_Elem _) (by unfold maxLen;omega) (by omega) ?_;intro v1 w9 hown1 hg1 hnil1 hat1;obtain ⟨A9,c9,rfl,hs9,hf9⟩:=HS8.out.more hown1 hg1 hat1;obtain ⟨ol,hol⟩ : ∃ol,ol=out ++ [y]:=⟨_,rfl⟩;rw [← hol] at hs9 ⊢;have HOL:=Lib.hid hol;have HS9:=Lib.hid hs9;have HF9:=Lib.hid hf9;clear hown1 hg1 hnil1 hat1 hs9 hf9 hol))
         have HK9:=Lib.hid (show Blk w9 wr.heap.size 55 #[.int .i64 y.id.kind,.string y.id.text,.int .i64 y.id.n,.int .i64 y.attr.kind,.string y.attr.text,.int .i64 y.attr.n,.int .i64 y.value.kind,.string y.value.text,.int .i64 y.value.n,.bool y.acc,.bool y.goal,.int .i64 y.tag] from HK8.out.fr HF9.out (fun ⟨a,ha,e⟩=>by have h1:=ain_lt HS.out.oo a ha;omega))
         have HP1:=Lib.hid (nput_is y.id w9 HS9.out.nm (by omega))
         have k0:w9.cell? ⟨wr.heap.size,0,none⟩=some (.int .i64 y.id.kind):=(HK9.out.cell 0).trans rfl
         have k1:w9.cell? ⟨wr.heap.size,1,none⟩=some (.string y.id.text):=(HK9.out.cell 1).trans rfl
         have k2:w9.cell? ⟨wr.heap.size,2,none⟩=some (.int .i64 y.id.n):=(HK9.out.cell 2).trans rfl
         have kz:=HK9.out.lt
         go_wp2_with fail
         refine HP1.out.mono ?_
         rintro e w10 ⟨rfl,hp10⟩
         have HK10:=Lib.hid (show Blk w10 wr.heap.size 55 #[.int .i64 y.id.kind,.string y.id.text,.int .i64 y.id.n,.int .i64 y.attr.kind,.string y.attr.text,.int .i64 y.attr.n,.int .i64 y.value.kind,.string y.value.text,.int .i64 y.value.n,.bool y.acc,.bool y.goal,.int .i64 y.tag] by
          obtain ⟨_,_,_,_,hf⟩:=hp10
          exact HK9.out.fr hf HDX.out)
         obtain ⟨D2,hs10⟩:=HS9.out.put hp10
         have HS10:=Lib.hid hs10
         clear hp10 hs10 k0 k1 k2 kz
         have k6:w10.cell? ⟨wr.heap.size,6,none⟩=some (.int .i64 y.value.kind):=(HK10.out.cell 6).trans rfl
         have k7:w10.cell? ⟨wr.heap.size,7,none⟩=some (.string y.value.text):=(HK10.out.cell 7).trans rfl
         have k8:w10.cell? ⟨wr.heap.size,8,none⟩=some (.int .i64 y.value.n):=(HK10.out.cell 8).trans rfl
         have kz:=HK10.out.lt
         have HLL:=Lib.hid (show lk.length+1=left.length by rw [HLK.out];exact erase_len HYI.out)
         have HOO:=Lib.hid (show ol.length=out.length+1 by rw [HOL.out];simp)
         have HNX:=Lib.hid (show ∀nn,nn=namesE ns y→lk.length+ol.length≤300∧nn.length≤2*ol.length∧laidV lk.length nn lk ol=orderV l from fun nn hnn=>by
          have h1:=HLL.out
          have h2:=HOO.out
          have h3:=namesE_len ns y
          refine ⟨by omega,by rw [hnn];omega,?_⟩
          rw [← HLV.out,show left.length=lk.length+1 from h1.symm,laidV_step HBS.out HYI.out,hnn,HLK.out,HOL.out])
         have hpl:=putN_len ns y.id
         by_cases hv1:y.value.kind=1
         · have HP2:=Lib.hid (nput_is y.value w10 HS10.out.nm (by omega))
           have HNE:=Lib.hid (HNX.out (putN (putN ns y.id) y.value) (by rw [namesE,if_pos hv1]))
           have e1:(y.value.kind == 1)=true:=by simp [hv1]
           have e2:decide (y.value.kind=1)=true:=by simp [hv1]
           clear hv1
           go_wp2_with fail
           refine HP2.out.mono ?_
           rintro e w11 ⟨rfl,hp11⟩
           obtain ⟨D3,hs11⟩:=HS10.out.put hp11
           have HS11:=Lib.hid hs11
           clear hp11 hs11 k6 k7 k8 kz
           go_wp2_with fail
           go_roundw
           case rel=>exact ⟨lk,ol,_,A7,c7,A9,c9,D3,rfl,rfl,HS11.out,HNE.out⟩
           case measure=>have:=HLL.out;show lk.length<left.length;omega
         · have HNE:=Lib.hid (HNX.out (putN ns y.id) (by rw [namesE,if_neg hv1]))
           have e1:(y.value.kind == 1)=false:=by simp [hv1]
           have e2:decide (y.value.kind=1)=false:=by simp [hv1]
           go_wp2_with fail
           go_roundw
           case rel=>exact ⟨lk,ol,_,A7,c7,A9,c9,D2,rfl,rfl,HS10.out,HNE.out⟩
           case measure=>have:=HLL.out;show lk.length<left.length;omega
end Go.Proofs.YtldndkngpdfpfaaGreat
namespace Go.Proofs.YtldndkngpdfpfaaGreat
open Go.RowKit
theorem Sym.one (x:Sym) : ∀u∈Sym.cells x,u.oneCell'=true:=by intro u hu;simp [Sym.cells] at hu;rcases hu with rfl | rfl | rfl<;>rfl
theorem Sym.oneAll (l:List Sym) : ∀u∈l.flatMap Sym.cells,u.oneCell'=true:=by intro u hu;obtain ⟨x,_,hx⟩:=List.mem_flatMap.1 hu;exact Sym.one x u hx
end Go.Proofs.YtldndkngpdfpfaaGreat
namespace Go.Proofs.YtldndkngpdfpfaaGreat
open Go.RowKit
theorem eql_sym (x y:Sym) (W:World):(binOp .eql 23 (.agg #[.int .i64 x.kind,.string x.text,.int .i64 x.n]) (.agg #[.int .i64 y.kind,.string y.text,.int .i64 y.n])).run Tryz.prog W = .ok (.bool (decide (x=y))) W:=by
 rw [run_eql_struct]
 go_simp
 by_cases h:x=y
 · subst h;simp
 · have h2 : ¬(x.kind=y.kind∧x.text.toList=y.text.toList∧x.n=y.n):=fun ⟨h1,h2,h3⟩=>h (Sym.ext' h1 (toList_inj h2) h3)
   rw [decide_eq_false h]
   split
   · split
     · split
       · exact absurd ⟨by assumption,by assumption,by assumption⟩ h2
       · rfl
     · rfl
   · rfl
theorem neq_sym (x y:Sym) (W:World):(binOp .neq 23 (.agg #[.int .i64 x.kind,.string x.text,.int .i64 x.n]) (.agg #[.int .i64 y.kind,.string y.text,.int .i64 y.n])).run Tryz.prog W = .ok (.bool (!decide (x=y))) W:=by
 rw [run_neq_struct]
 go_simp
 by_cases h:x=y
 · subst h;simp
 · have h2 : ¬(x.kind=y.kind∧x.text.toList=y.text.toList∧x.n=y.n):=fun ⟨h1,h2,h3⟩=>h (Sym.ext' h1 (toList_inj h2) h3)
   rw [decide_eq_false h]
   split
   · split
     · split
       · exact absurd ⟨by assumption,by assumption,by assumption⟩ h2
       · rfl
     · rfl
   · rfl
attribute [local go_sem] eql_sym neq_sym
theorem sym_at {w:World} {A:Option Addr} {c k:Nat} {l:List Sym} (h:RowRd w 3 Sym.cells A c l) (hk:k<l.length) : ∃g off,A=some ⟨g,off,none⟩∧g<w.heap.size∧
 w.cell? ⟨g,off+k*3,none⟩=some (.int .i64 l[k].kind)∧w.cell? ⟨g,off+k*3+1,none⟩=some (.string l[k].text)∧w.cell? ⟨g,off+k*3+2,none⟩=some (.int .i64 l[k].n):=by
 obtain ⟨g,off,hA,hg,hc⟩:=h.at_ hk
 exact ⟨g,off,hA,hg,by simpa using hc 0 _ rfl,by simpa using hc 1 _ rfl,by simpa using hc 2 _ rfl⟩
end Go.Proofs.YtldndkngpdfpfaaGreat
namespace Go.Proofs.YtldndkngpdfpfaaGreat
open Go.RowKit
attribute [local go_sem] eql_sym neq_sym
end Go.Proofs.YtldndkngpdfpfaaGreat
namespace Go.Proofs.YtldndkngpdfpfaaGreat
open Go.RowKit
theorem Elem.ext' : ∀{x y:Elem},x.id=y.id→x.attr=y.attr→x.value=y.value→x.acc=y.acc→x.goal=y.goal→x.tag=y.tag→x=y
 | ⟨_,_,_,_,_,_⟩,⟨_,_,_,_,_,_⟩,rfl,rfl,rfl,rfl,rfl,rfl=>rfl
instance decElem22:DecidableEq Elem:=fun a b=>decidable_of_iff (a.id=b.id∧a.attr=b.attr∧a.value=b.value∧a.acc=b.acc∧a.goal=b.goal∧a.tag=b.tag) ⟨fun ⟨h1,h2,h3,h4,h5,h6⟩=>Elem.ext' h1 h2 h3 h4 h5 h6,fun h=>by subst h;exact ⟨rfl,rfl,rfl,rfl,rfl,rfl⟩⟩
end Go.Proofs.YtldndkngpdfpfaaGreat
namespace Go.Proofs.YtldndkngpdfpfaaGreat
open Go.RowKit Go.Shelf
attribute [local go_sem] Oper.semAt_some
set_option linter.unusedSimpArgs false
def OrderTo (l:List Elem) (w:World) (e:Ending) (w':World):Prop:=Below w.heap.size w w'∧
 match orderV l with
 | none=>e = .returned (.tuple #[.slice none 0 0,.slice none 0 0,.bool false])
 | some (o,ns)=>∃A c B d,e = .returned (.tuple #[.slice A o.length c,.slice B ns.length d,.bool true])∧RowRd w' 12 Elem.cells A c o∧RowRd w' 3 Sym.cells B d ns
end Go.Proofs.YtldndkngpdfpfaaGreat
namespace Go.Proofs.YtldndkngpdfpfaaGreat
open Go.RowKit Go.Shelf
attribute [local go_sem] Oper.semAt_some
set_option linter.unusedSimpArgs false
end Go.Proofs.YtldndkngpdfpfaaGreat
namespace Go.Proofs.YtldndkngpdfpfaaGreat
open Go.RowKit Go.Shelf
attribute [local go_sem] Oper.semAt_some
set_option linter.unusedSimpArgs false
structure RS (X:World) (ns:List Sym) (left out:List Elem) (AL:Option Addr) (cL:Nat) (AO:Option Addr) (cO:Nat) (AN:Option Addr) (cN:Nat) (w:World):Prop where
 lo:w.ownsRow 0 55 12 (.slice AL left.length cL) left.length (left.flatMap Elem.cells)
 la:AIn AL (X.heap.size≤·)
 oo:w.ownsRow 0 55 12 (.slice AO out.length cO) out.length (out.flatMap Elem.cells)
 oa:AIn AO (X.heap.size≤·)
 no:w.ownsRow 0 23 3 (.slice AN ns.length cN) ns.length (ns.flatMap Sym.cells)
 na:AIn AN (X.heap.size≤·)
 ne : ∀a b,AL=some a→AO=some b→a.block≠b.block
 bel:Below X.heap.size X w
section
variable {X w w':World} {ns:List Sym} {left out:List Elem} {AL:Option Addr} {cL:Nat} {AO:Option Addr} {cO:Nat} {AN:Option Addr} {cN:Nat}
theorem RS.new_ (h:RS X ns left out AL cL AO cO AN cN w) (hb:Below w.heap.size w w'):RS X ns left out AL cL AO cO AN cN w':=
 ⟨ownsRow_new h.lo hb,h.la,ownsRow_new h.oo hb,h.oa,ownsRow_new h.no hb,h.na,h.ne,h.bel.trans (hb.mono h.bel.size)⟩
theorem RS.more (h:RS X ns left out AL cL AO cO AN cN w) {e:Elem} {v:Value} (hown:w'.ownsRow 0 55 12 v (out.length+1) (out.flatMap Elem.cells ++ [e].flatMap Elem.cells))
 (hg:w.grownBy w' (Value.slice AO out.length cO).ownBlock) (hat:v.ownBlock=(Value.slice AO out.length cO).ownBlock∨v.ownBlock=some w.heap.size) : ∃A' c',v = .slice A' (out ++ [e]).length c'∧RS X ns left (out ++ [e]) AL cL A' c' AN cN w'∧Fr (fun j=>∃a,AO=some a∧a.block=j) w w':=by
 obtain ⟨A',c',rfl,hF,hA,hO⟩:=grown_own (E:=fun j=>∃a,AO=some a∧a.block=j) (fun a ha=>⟨a,ha,rfl⟩) hown hg hat
 have e2:(out ++ [e]).length=out.length+1:=by simp
 have hsz:=h.bel.size
 refine ⟨A',c',by rw [e2],⟨ownsRow_fr h.lo hF (fun g hg ⟨a,ha,e⟩=>?_),h.la,by rw [e2,List.flatMap_append];exact hO,fun a ha=>?_,ownsRow_fr h.no hF (fun g hg ⟨a,ha,e⟩=>own_own_ne h.no h.oo (by decide) hg (by subst ha;subst e;rfl)),h.na,fun a b ha hb=>?_,h.bel.trans (hF.below hsz (fun j hj ⟨a,ha,e⟩=>by have:X.heap.size≤a.block:=h.oa a ha;omega))⟩,hF⟩
 · cases AL with
   | none=>cases hg
   | some b=>injection hg with hg;exact h.ne b a rfl ha (hg.trans e.symm)
 · rcases hA a ha with ⟨b,hb,e⟩ | ⟨h1,_⟩
   · rw [← e];exact h.oa b hb
   · exact Nat.le_trans hsz h1
 · rcases hA b hb with ⟨b',hb',e⟩ | ⟨h1,_⟩
   · rw [← e];exact h.ne a b' ha hb'
   · have:=ain_lt h.lo a ha;omega
theorem RS.name (h:RS X ns left out AL cL AO cO AN cN w) {s:Sym} {v:Value} (hown:w'.ownsRow 0 23 3 v (ns.length+1) (ns.flatMap Sym.cells ++ [s].flatMap Sym.cells))
 (hg:w.grownBy w' (Value.slice AN ns.length cN).ownBlock) (hat:v.ownBlock=(Value.slice AN ns.length cN).ownBlock∨v.ownBlock=some w.heap.size) : ∃A' c',v = .slice A' (ns ++ [s]).length c'∧RS X (ns ++ [s]) left out AL cL AO cO A' c' w'∧(∀g t cs,t≠23→Blk w g t cs→Blk w' g t cs):=by
 obtain ⟨A',c',rfl,hF,hA,hO⟩:=grown_own (E:=fun j=>∃a,AN=some a∧a.block=j) (fun a ha=>⟨a,ha,rfl⟩) hown hg hat
 have e2:(ns ++ [s]).length=ns.length+1:=by simp
 have hsz:=h.bel.size
 have nR : ∀{n c:Nat} {A:Option Addr} {xs:List Value},w.ownsRow 0 55 12 (.slice A n c) n xs→w'.ownsRow 0 55 12 (.slice A n c) n xs:=fun ho=>ownsRow_fr ho hF (fun g hg ⟨a,ha,e⟩=>own_own_ne ho h.no (by decide) hg (by subst ha;subst e;rfl))
 refine ⟨A',c',by rw [e2],⟨nR h.lo,h.la,nR h.oo,h.oa,by rw [e2,List.flatMap_append];exact hO,fun a ha=>?_,h.ne,h.bel.trans (hF.below hsz (fun j hj ⟨a,ha,e⟩=>by have:X.heap.size≤a.block:=h.na a ha;omega))⟩,fun g t cs ht hb=>hb.fr hF (fun ⟨a,ha,e⟩=>own_blk_ne h.no hb (Ne.symm ht) (by subst ha;subst e;rfl))⟩
 rcases hA a ha with ⟨b,hb,e⟩ | ⟨h1,_⟩
 · rw [← e];exact h.na b hb
 · exact Nat.le_trans hsz h1
theorem RS.at_ (h:RS X ns left out AL cL AO cO AN cN w) {i:Nat} (hi:i<left.length) : ∃g off,AL=some ⟨g,off,none⟩∧g<w.heap.size∧w.rangeAt g (off+i*12) (Elem.cells left[i]):=by
 obtain ⟨b,off,h1,h2,h3⟩:=(ownsRow_rd Elem.cells_length h.lo).at_ hi
 exact ⟨b,off,h1,h2,fun j u hu=>h3 j u hu⟩
end
theorem OrderTo.no {l:List Elem} {w w':World} (h:orderV l=none) (hb:Below w.heap.size w w'):OrderTo l w (.returned (.tuple #[.slice none 0 0,.slice none 0 0,.bool false])) w':=by
 refine ⟨hb,?_⟩
 rw [h]
theorem OrderTo.yes {X w:World} {l:List Elem} {ns:List Sym} {left out:List Elem} {AL:Option Addr} {cL:Nat} {AO:Option Addr} {cO:Nat} {AN:Option Addr} {cN:Nat} (h:orderV l=some (out,ns)) (hs:RS X ns left out AL cL AO cO AN cN w):OrderTo l X (.returned (.tuple #[.slice AO out.length cO,.slice AN ns.length cN,.bool true])) w:=by
 refine ⟨hs.bel,?_⟩
 rw [h]
 exact ⟨AO,cO,AN,cN,rfl,ownsRow_rd Elem.cells_length hs.oo,ownsRow_rd Sym.cells_length hs.no⟩
end Go.Proofs.YtldndkngpdfpfaaGreat
