/-
  Texts put together: LrnCk, BkRec, BkFind, Queue, LeafBnum, LeafPgR, LeafPgT, BkPlain, BkReach.
-/
import Derived.Test.YtldndkngpdfpfaaGreatPFp
namespace Go.Proofs.YtldndkngpdfpfaaGreat
open Lib (hid)
set_option maxRecDepth 100000
set_option maxHeartbeats 32000000
section
open Go.RowKit Go.Shelf
attribute [local go_sem] Oper.semAt_some
set_option linter.unusedSimpArgs false
theorem Z9t.new_ {gf:Nat} {lb:Array Value} {w w':World} {old:Sym→Bool} (h:Z9t gf lb w old) (hb:Below w.heap.size w w'):Z9t gf lb w' old:=⟨h.ent,fun s W hW=>h.call s W (hb.trans (hW.mono hb.size))⟩
abbrev Zim:RepT Int:=RepT.flat 1 Int.cells1 Int.cells1_length
theorem Znx {w:World} {A:Option Addr} {c B:Nat} {l:List Int} (h:Z0p w 1 Int.cells1 A c l) (hA:AIn A (B≤·)):RowR Zim (fun k=>B≤k∧k<w.heap.size) w A c l:=by
 refine ⟨h.1,h.2.1,fun h0=>?_⟩;obtain ⟨b,off,hA2,hb,hc⟩:=h.2.2 h0;exact ⟨b,off,hA2,⟨hA _ hA2,hb⟩,hb,fun k hk=>⟨_,rfl,fun j u hu=>hc k hk j u hu⟩⟩
def PU (m:Nat) (r:Option (Z4u×List Int)) (B:Nat) (D:Nat→Prop) (w':World) (nm:ByteArray) (A1:Option Addr) (n1 c1:Nat) (A2:Option Addr) (n2 c2:Nat) (A3:Option Addr) (n3 c3:Nat):Prop:=
 match r with
 | none=>True
 | some (p,tags)=>nm=p.name∧n1=p.conds.length∧n2=p.acts.length∧n3=tags.length∧RowR (Z0x (m+1)) D w' A1 c1 p.conds∧RowR Z1j D w' A2 c2 p.acts∧RowR Zim D w' A3 c3 tags∧AIn A3 (B≤·)
theorem PU.keep {m B:Nat} {r:Option (Z4u×List Int)} {D D':Nat→Prop} {w w':World} {nm:ByteArray} {A1:Option Addr} {n1 c1:Nat} {A2:Option Addr} {n2 c2:Nat} {A3:Option Addr} {n3 c3:Nat} (h:PU m r B D w nm A1 n1 c1 A2 n2 c2 A3 n3 c3) (hs:w.heap.size≤w'.heap.size) (hk : ∀k,D k→k<w.heap.size→D' k∧w'.heap[k]? = w.heap[k]?):PU m r B D' w' nm A1 n1 c1 A2 n2 c2 A3 n3 c3:=by
 cases r with
 | none=>trivial
 | some pt=>exact ⟨h.1,h.2.1,h.2.2.1,h.2.2.2.1,h.2.2.2.2.1.keep hs hk,h.2.2.2.2.2.1.keep hs hk,h.2.2.2.2.2.2.1.keep hs hk,h.2.2.2.2.2.2.2⟩
theorem Zl2 {m:Nat} {r:Option (Z4u×List Int)} {X w':World} {e:Ending} (h:Z48 m r X e w'):Below X.heap.size X w'∧∃nm A1 n1 c1 A2 n2 c2 A3 n3 c3,e = .returned (.tuple #[.agg #[.string nm,.slice A1 n1 c1,.slice A2 n2 c2],.slice A3 n3 c3,.bool r.isSome])∧PU m r X.heap.size (fun k=>X.heap.size≤k∧k<w'.heap.size) w' nm A1 n1 c1 A2 n2 c2 A3 n3 c3:=by
 obtain ⟨hb,h⟩:=h
 cases r with
 | none=>exact ⟨hb,_,none,0,0,none,0,0,none,0,0,h,trivial⟩
 | some pt=>
   obtain ⟨p,tags⟩:=pt;obtain ⟨A1,c1,A2,c2,A3,c3,he,h1,h2,h3,h4⟩:=h;exact ⟨hb,p.name,A1,_,c1,A2,_,c2,A3,_,c3,he,rfl,rfl,rfl,rfl,h1,h2,Znx h3 h4,h4⟩
theorem PU.prodTo {m B:Nat} {r:Option (Z4u×List Int)} {D:Nat→Prop} {X w w':World} {nm:ByteArray} {A1:Option Addr} {n1 c1:Nat} {A2:Option Addr} {n2 c2:Nat} {A3:Option Addr} {n3 c3:Nat} (h:PU m r B D w nm A1 n1 c1 A2 n2 c2 A3 n3 c3) (hr:r.isSome=true) (hB:X.heap.size≤B) (hb:Below X.heap.size X w') (hs:w.heap.size≤w'.heap.size) (hk : ∀k,D k→k<w.heap.size→X.heap.size≤k∧w'.heap[k]? = w.heap[k]?) :
 Z48 m r X (.returned (.tuple #[.agg #[.string nm,.slice A1 n1 c1,.slice A2 n2 c2],.slice A3 n3 c3,.bool true])) w':=by
 cases r with
 | none=>cases hr
 | some pt=>
   obtain ⟨p,tags⟩:=pt;obtain ⟨rfl,rfl,rfl,rfl,h1,h2,h3,h4⟩:=h;have hk2 : ∀k,D k→k<w.heap.size→(X.heap.size≤k∧k<w'.heap.size)∧w'.heap[k]? = w.heap[k]?:=fun k h1 h2=>⟨⟨(hk k h1 h2).1,by omega⟩,(hk k h1 h2).2⟩;exact ⟨hb,A1,c1,A2,c2,A3,c3,rfl,h1.keep hs hk2,h2.keep hs hk2,RowR.rd (hs:=Int.cells1_length) (h3.keep hs hk2),fun a ha=>Zod hB (h4 a ha)⟩
theorem Zfa (m:Nat) (room:Int) (hroom:1≤room) (tr:List Z0e) (AE:Option Addr) (cE:Nat) (AH:Option Addr) (cH:Nat) (AA:Option Addr) (cA:Nat) (news:List Sym) (AN:Option Addr) (cN:Nat) (tv tl:Int) {gf:Nat} {lb:Array Value} {old:Sym→Bool} (prefs:List Z04) (AP:Option Addr) (cP:Nat) {gs:Nat} {ls:Array Value} {Kp:World→World→Prop} (X:World)
 (hO:Z9t gf lb X old) (h1:Z0p X 14 Z0e.cells AE cE tr) (h2:Z0p X 3 Sym.cells AN cN news) (h3:Z0p X 16 Z04.cells AP cP prefs) (hl1:tr.length≤1) (hl3:prefs.length≤60) (hm:m≤1000) (hq:Seq gs ls Zb7 [] X (fun X Y=>Y=X) Kp) :
 Calls Tryz.prog 130 #[.int .i64 room,.agg #[.slice AE tr.length cE,.slice AH 0 cH,.slice AA 0 cA,.slice AN news.length cN,.int .i64 tv,.int .i64 tl],.func (.func gf) #[] lb,.slice AP prefs.length cP,.func (.func gs) #[] ls] X (Z48 m (Z62 (m+1) (Z6m 1) (tr.map Z0e.elem) old news prefs) X):=by
 have HO:=hid hO;have H1:=hid h1;have H2:=hid h2;have H3:=hid h3;have HQ:=hid hq;(have d0:decide (room≤0)=false:=by simp;omega);(have d1 : ¬room≤0:=by omega);clear hO h1 h2 h3 hq;refine (callsIn_wide (n:=0)).1 ?_;refine callsIn_of_wp_marks Tryz.func130 rfl trivial ?_;simp only [Tryz.ntmps130,Zp6,Zol,Zp3,Nat.reduceAdd,Nat.reduceSub,Zow,Zox,Zp5,Zp0,Zom,Zp1];(gi_wp2_with fail);simp only [Zpo,Nat.reduceAdd];obtain ⟨W1,hW1⟩ : ∃W,W=(((((X.alloc (.cells #[.slice AE tr.length cE,.slice AH 0 cH,.slice AA 0 cA,.slice AN news.length cN,.int .i64 tv,.int .i64 tl] 38)).alloc (.cells #[.string ⟨#[]⟩,.slice none 0 0,.slice none 0 0] 45)).alloc (.cells #[.slice none 0 0] 46)).alloc (.cells #[.bool false] 4)).alloc (.cells #[.int .i64 0] 3)):=⟨_,rfl⟩;rw [← hW1];obtain ⟨bx,hbx⟩ : ∃b,b=X.heap.size:=⟨_,rfl⟩;have HB1:=hid (show Below X.heap.size X W1 by rw [hW1];exact (by repeat (first | exact Znz _ _ | refine Below.drew ?_ | refine Below.al ?_ _ | refine Below.sc ?_ _)));have K6:=hid (show Blk W1 (bx) 38 #[.slice AE tr.length cE,.slice AH 0 cH,.slice AA 0 cA,.slice AN news.length cN,.int .i64 tv,.int .i64 tl] by rw [hW1,hbx];have hh:=Blk.new X 38 #[.slice AE tr.length cE,.slice AH 0 cH,.slice AA 0 cA,.slice AN news.length cN,.int .i64 tv,.int .i64 tl];exact ((((hh.alloc _).alloc _).alloc _).alloc _));have K10:=hid (show Blk W1 (bx+1) 45 #[.string ⟨#[]⟩,.slice none 0 0,.slice none 0 0] by rw [hW1,hbx];have hh:=Blk.new (X.alloc (.cells #[.slice AE tr.length cE,.slice AH 0 cH,.slice AA 0 cA,.slice AN news.length cN,.int .i64 tv,.int .i64 tl] 38)) 45 #[.string ⟨#[]⟩,.slice none 0 0,.slice none 0 0];simp only [Zos,Zpo,Nat.reduceAdd] at hh;exact (((hh.alloc _).alloc _).alloc _));have K11:=hid (show Blk W1 (bx+2) 46 #[.slice none 0 0] by rw [hW1,hbx];have hh:=Blk.new ((X.alloc (.cells #[.slice AE tr.length cE,.slice AH 0 cH,.slice AA 0 cA,.slice AN news.length cN,.int .i64 tv,.int .i64 tl] 38)).alloc (.cells #[.string ⟨#[]⟩,.slice none 0 0,.slice none 0 0] 45)) 46 #[.slice none 0 0];simp only [Zos,Zpo,Nat.reduceAdd] at hh;exact ((hh.alloc _).alloc _));have K12:=hid (show Blk W1 (bx+3) 4 #[.bool false] by rw [hW1,hbx];have hh:=Blk.new (((X.alloc (.cells #[.slice AE tr.length cE,.slice AH 0 cH,.slice AA 0 cA,.slice AN news.length cN,.int .i64 tv,.int .i64 tl] 38)).alloc (.cells #[.string ⟨#[]⟩,.slice none 0 0,.slice none 0 0] 45)).alloc (.cells #[.slice none 0 0] 46)) 4 #[.bool false];simp only [Zos,Zpo,Nat.reduceAdd] at hh;exact (hh.alloc _));have K13:=hid (show Blk W1 (bx+4) 3 #[.int .i64 0] by rw [hW1,hbx];have hh:=Blk.new ((((X.alloc (.cells #[.slice AE tr.length cE,.slice AH 0 cH,.slice AA 0 cA,.slice AN news.length cN,.int .i64 tv,.int .i64 tl] 38)).alloc (.cells #[.string ⟨#[]⟩,.slice none 0 0,.slice none 0 0] 45)).alloc (.cells #[.slice none 0 0] 46)).alloc (.cells #[.bool false] 4)) 3 #[.int .i64 0];simp only [Zos,Zpo,Nat.reduceAdd] at hh;exact hh);have HBX:=hid hbx;rw [← hbx];clear hW1 hbx;refine Z6g (by rfl) (HQ.out.new_ HB1.out) (fun x=>by rfl) (fun D1 Wr hD1 hbr hK1=>?_);have HD1:=hid (show X.heap.size+5≤D1 by have:=K13.out.lt;have:=HBX.out;omega);have HKD:=hid hK1;have K6:=hid (K6.out.new_ hbr);have K10:=hid (K10.out.new_ hbr);have K11:=hid (K11.out.new_ hbr);have K12:=hid (K12.out.new_ hbr);have HB1:=hid (HB1.out.trans (hbr.mono HB1.out.size));have n0:=(K13.out.new_ hbr).c1;have nz:=(K13.out.new_ hbr).lt;clear hD1 hbr hK1 K13;(gi_wp2_with fail);obtain ⟨t0_,t1_,t2_,t3_,t4_,t5_⟩:=K6.out.c6;have tz:=K6.out.lt;obtain ⟨r,hr⟩ : ∃r,r=Z62 (m+1) (Z6m 1) (tr.map Z0e.elem) old news prefs:=⟨_,rfl⟩;have HPC:=hid (show ∀W,Below X.heap.size X W→Calls Tryz.prog 20 #[.string (Z6m 1),.agg #[.slice AE tr.length cE,.slice AH 0 cH,.slice AA 0 cA,.slice AN news.length cN,.int .i64 tv,.int .i64 tl],.func (.func gf) #[] lb,.slice AP prefs.length cP] W (Z48 m r W) from fun W hW=>by rw [hr];exact Zl1 m (Z6m 1) tr AE cE AH cH AA cA news AN cN tv tl prefs AP cP W (HO.out.new_ hW) (H1.out.new_ hW) (H2.out.new_ hW) (H3.out.new_ hW) (by omega) hl3 hm (fun A c V h=>Zkc _ A c V h (by rw [Zoz];exact hl1)))
 rw [← hr];have HRE:=hid hr;have HBR:=hid (show bx+5≤Wr.heap.size from nz);clear hr n0 d0 d1;refine wpIn_wide.2 ?_;refine Z17 (fun w9=>Below Wr.heap.size Wr w9) [0,2,3,4,6,7,8,9,12,13] [2] (.fork [(0,0),(2,1),(3,0),(4,0)] 1 (.fork [] 5 (.fin [(6,0),(7,0),(8,0),(9,0),(10,2),(11,2),(12,0),(13,0)]) 10 (.fin [(5,2),(6,0),(7,0),(8,0),(9,0),(11,2),(12,0),(13,0)])) 10 (.fin [(1,2),(5,2),(6,0),(7,0),(8,0),(9,0),(11,2),(12,0),(13,0)])) (by kernel_rfl) (by kernel_rfl) (by kernel_rfl) (fun KK hKK=>?_);simp only [wpPl,Z05,Zo9,Zo2,Zo7,Zo5,Zo6,Zoc];have HB:=hid (Znz Wr.heap.size Wr).drew;obtain ⟨V,hV⟩ : ∃V,V=Wr.drew:=⟨_,rfl⟩;have K10:=hid K10.out.drew;have K11:=hid K11.out.drew;have K12:=hid K12.out.drew;rw [← hV] at HB K10 K11 K12 ⊢;clear hV
 repeat' (first
  | ((first | (refine Z1s ?_ (Or.inl ⟨by rfl,fun w9=>?_⟩) ?_;rotate_left 1;go_simp;with_reducible rfl) | (refine Z2c ?_ (HB.out) (Or.inl ⟨by rfl,fun w9 hw9=>?_⟩) ?_;rotate_left 1;obtain ⟨hc9,hf9⟩:=Z0q hw9;go_simp;with_reducible rfl) | refine Z1s undef (Or.inr ⟨by rfl,rfl⟩) ?_ | refine Z2c undef (HB.out) (Or.inr ⟨by rfl,rfl⟩) ?_);go_frame)
  | ((first | refine Z1v (fun K9 hK9=>?_) | refine Z1a rfl (fun K9 hK9=>?_));refine Z0n rfl 45 _ _ rfl b14 0 #[.string nm,.slice A1 n1 c1,.slice A2 n2 c2] rfl rfl (show _ from K14.out.there) (by kernel_rfl) (by kernel_rfl) ?_;show K9 _ (V.setCells b14 0 [.string nm,.slice A1 n1 c1,.slice A2 n2 c2]);obtain ⟨VS,hVS⟩ : ∃V9,V9=V.setCells b14 0 [.string nm,.slice A1 n1 c1,.slice A2 n2 c2]:=⟨_,rfl⟩;have K14:=hid (show Blk VS b14 45 #[.string nm,.slice A1 n1 c1,.slice A2 n2 c2] by rw [hVS];exact K14.out.setAllD rfl);have K10:=hid (show Blk VS (bx+1) 45 #[.string ⟨#[]⟩,.slice none 0 0,.slice none 0 0] by rw [hVS];exact Blk.farCells _ _ K10.out (by have:=G14.out;have:=HBR.out;omega));have K11:=hid (show Blk VS (bx+2) 46 #[.slice none 0 0] by rw [hVS];exact Blk.farCells _ _ K11.out (by have:=G14.out;have:=HBR.out;omega));have K12:=hid (show Blk VS (bx+3) 4 #[.bool false] by rw [hVS];exact Blk.farCells _ _ K12.out (by have:=G14.out;have:=HBR.out;omega));have HBS:=hid (show Below Wr.heap.size Wr VS by rw [hVS];exact Below.setCells' _ _ HB.out G14.out);have HPU:=hid (show PU m r _ (fun k=>Wr.heap.size≤k∧k≠b14) VS nm A1 n1 c1 A2 n2 c2 A3 n3 c3 by rw [hVS];exact HPU.out.keep (by rw [Z0m];exact Zo0 _) (fun k hk _=>⟨hk,Z1k _ _ _ _ _ hk.2⟩));rw [← hVS];have HB:=HBS;clear hVS;(first | refine hK9 _ _ (HB.out) ?_ | refine hK9 _ _ (fun _=>HB.out) ?_);clear hK9 K9;(try go_frame);try simp only [Z05,Zo2])
  | ((first | refine Z1v (fun K9 hK9=>?_) | refine Z1a rfl (fun K9 hK9=>?_));go_simp;(first
    | (refine (Zhx _ (HQ.out.new_ (HB1.out.trans (Below.mono HB.out HB1.out.size)))).mono ?_;rintro e V ⟨rfl,hb⟩;(try have K10:=hid (K10.out.new_ hb));(try have K11:=hid (K11.out.new_ hb));(try have K12:=hid (K12.out.new_ hb));(try have K14:=hid (K14.out.new_ hb));(try have L14:=hid (Zo3 L14.out hb.size));have HB:=hid (HB.out.trans (hb.mono HB.out.size));clear hb)
    | (have HBB:=hid (show X.heap.size≤V.heap.size from Zod HB1.out.size HB.out.size);have HBC:=hid (show Wr.heap.size≤V.heap.size from HB.out.size);refine (HPC.out _ (HB1.out.trans (Below.mono HB.out HB1.out.size))).mono ?_;intro e V hp;obtain ⟨hb,nm,A1,n1,c1,A2,n2,c2,A3,n3,c3,rfl,hpt⟩:=Zl2 hp;have HPT:=hid hpt;obtain ⟨o1,ho⟩ : ∃o,o=r.isSome:=⟨_,rfl⟩;have HO1:=hid ho;rw [← ho];(try have HPU:=hid (HPT.out.keep (D':=fun k=>Wr.heap.size≤k∧k≠b14) (Zo0 _) (fun k hk _=>⟨⟨by have:=hk.1;have h1:=HBC.out;omega,by have:=hk.1;have h3:=L14.out;omega⟩,rfl⟩)));(try have K10:=hid (K10.out.new_ hb));(try have K11:=hid (K11.out.new_ hb));(try have K12:=hid (K12.out.new_ hb));(try have K14:=hid (K14.out.new_ hb));(try have L14:=hid (Zo3 L14.out hb.size));have HB:=hid (HB.out.trans (hb.mono HB.out.size));clear hb hp hpt ho)
    | (obtain ⟨b14,hg⟩ : ∃g,g=V.heap.size:=⟨_,rfl⟩;have hk:=Blk.new V 45 #[.string ⟨#[]⟩,.slice none 0 0,.slice none 0 0];have hb:Below V.heap.size V (V.alloc (.cells #[.string ⟨#[]⟩,.slice none 0 0,.slice none 0 0] 45)):=(Znz _ _).alloc (Zo0 _) _;have G14:=hid (show Wr.heap.size≤b14 by rw [hg];exact HB.out.size);obtain ⟨V,hV⟩ : ∃V9,V9=V.alloc (.cells #[.string ⟨#[]⟩,.slice none 0 0,.slice none 0 0] 45):=⟨_,rfl⟩;rw [← hV] at hb;rw [← hV,← hg] at hk;(try have K10:=hid (K10.out.new_ hb));(try have K11:=hid (K11.out.new_ hb));(try have K12:=hid (K12.out.new_ hb));(try have K14:=hid (K14.out.new_ hb));(try have L14:=hid (Zo3 L14.out hb.size));have HB:=hid (HB.out.trans (hb.mono HB.out.size));have K14:=hid hk;have L14:=hid (show b14<V.heap.size from K14.out.lt);(try have HPU:=hid (HPT.out.keep (D':=fun k=>Wr.heap.size≤k∧k≠b14) hb.size (fun k hk hl=>⟨⟨by have:=hk.1;have h1:=HBC.out;omega,by have:=hk.2;omega⟩,hb.block k hl⟩)));rw [← hV,← hg];clear hV hg hb hk) | fail);(first | refine hK9 _ _ (HB.out) ?_ | refine hK9 _ _ (fun _=>HB.out) ?_);clear hK9 K9;(try go_frame);try simp only [Z05,Zo2])
  | (refine Z0u ⟨?_,?_⟩) | fail)
 all_goals
  refine Z0u ?_;simp only [Z00];refine hKK _ _ ?_;clear hKK KK;cases o1
  · have HBY:=hid (HB1.out.trans (HBS.out.mono HB1.out.size))
    obtain ⟨u0,u1,u2⟩:=K10.out.c3;have uf0:=K10.out.frozen 0;have uf1:=K10.out.frozen 1;have uf2:=K10.out.frozen 2;have uz:=K10.out.lt;have v0:=K11.out.c1;have vf0:=K11.out.frozen 0;have vz:=K11.out.lt;have y0:=K12.out.c1;have yf0:=K12.out.frozen 0;have yz:=K12.out.lt;(gi_wp2_with fail);clear u0 u1 u2 uf0 uf1 uf2 uz v0 vf0 vz y0 yf0 yz;obtain ⟨VF,hVF⟩ : ∃V,V=(((((VS.setCell ⟨bx+1,0,none⟩ (Value.string ⟨#[]⟩)).setCell ⟨bx+1,1,none⟩ (Value.slice none 0 0)).setCell ⟨bx+1,2,none⟩ (Value.slice none 0 0)).setCell ⟨bx+2,0,none⟩ (Value.slice none 0 0)).setCell ⟨bx+3,0,none⟩ (.bool false)):=⟨_,rfl⟩;have FF:=hid (show Fr (fun k=>k=bx+1∨k=bx+2∨k=bx+3) VS VF by rw [hVF];exact ((((((Fr.refl _ _).setCell (p:=⟨bx+1,0,none⟩) (.inl (.inl rfl)) _).setCell (p:=⟨bx+1,1,none⟩) (.inl (.inl rfl)) _).setCell (p:=⟨bx+1,2,none⟩) (.inl (.inl rfl)) _).setCell (p:=⟨bx+2,0,none⟩) (.inl (.inr (.inl rfl))) _).setCell (p:=⟨bx+3,0,none⟩) (.inl (.inr (.inr rfl))) _));have F10:=hid (show Blk VF (bx+1) 45 #[.string ⟨#[]⟩,.slice none 0 0,.slice none 0 0] by rw [hVF];have:=(((((K10.out.set_ 0 (Value.string ⟨#[]⟩)).set_ 1 (Value.slice none 0 0)).set_ 2 (Value.slice none 0 0)).far (p:=⟨bx+2,0,none⟩) (by simp) (Value.slice none 0 0)).far (p:=⟨bx+3,0,none⟩) (by simp) (.bool false));simpa using this);have F11:=hid (show Blk VF (bx+2) 46 #[.slice none 0 0] by rw [hVF];have:=(((((K11.out.far (p:=⟨bx+1,0,none⟩) (by simp) (Value.string ⟨#[]⟩)).far (p:=⟨bx+1,1,none⟩) (by simp) (Value.slice none 0 0)).far (p:=⟨bx+1,2,none⟩) (by simp) (Value.slice none 0 0)).set_ 0 (Value.slice none 0 0)).far (p:=⟨bx+3,0,none⟩) (by simp) (.bool false));simpa using this);have F12:=hid (show Blk VF (bx+3) 4 #[.bool false] by rw [hVF];have:=(((((K12.out.far (p:=⟨bx+1,0,none⟩) (by simp) (Value.string ⟨#[]⟩)).far (p:=⟨bx+1,1,none⟩) (by simp) (Value.slice none 0 0)).far (p:=⟨bx+1,2,none⟩) (by simp) (Value.slice none 0 0)).far (p:=⟨bx+2,0,none⟩) (by simp) (Value.slice none 0 0)).set_ 0 (.bool false));simpa using this);have HBF:=hid (show Below X.heap.size X VF from HBY.out.trans (FF.out.below HBY.out.size (fun k hk hm=>by have:=HBX.out;omega)));rw [← hVF];clear hVF;have hl1:D1<Wr.heap.size:=(Zob.1 HKD.out).1;have HKV:VF.heap[D1]? = some (.deferred (some [])):=(FF.out.block D1 (Zo3 hl1 HBS.out.size) (fun hm=>by have:=HD1.out;have:=HBX.out;omega)).trans ((HBS.out.block D1 hl1).trans HKD.out);refine ⟨by simp,.inl ⟨_,_,rfl,run_takeDeferred HKV,?_⟩⟩;have hpv:Priv X.heap.size VF (VF.putObj D1 (.deferred none)):=(Priv.refl _ _).putObj (by have:=HD1.out;omega) HKV rfl _;obtain ⟨VP,hVP⟩ : ∃V,V=VF.putObj D1 (.deferred none):=⟨_,rfl⟩;rw [← hVP] at hpv ⊢;obtain ⟨u0,u1,u2⟩:=(F10.out.priv hpv).c3;have v0:=(F11.out.priv hpv).c1;have y0:=(F12.out.priv hpv).c1;have hrn:r=none:=Option.not_isSome_iff_eq_none.1 (by rw [← HO1.out];simp);refine ⟨.tuple #[.agg #[.string ⟨#[]⟩,.slice none 0 0,.slice none 0 0],.slice none 0 0,.bool false],?_,Z48.no (HRE.out.symm.trans hrn) (Below.priv' HBF.out hpv (Zo0 _) HBF.out.size)⟩;simp [results,Tryz.results130,go_sem,u0,u1,u2,v0,y0]
  · gi_wp2_with fail
    refine Z6g (by rfl) (HQ.out.new_ (HB1.out.trans (HBS.out.mono HB1.out.size))) (fun x=>by rfl) (fun D2 Wq hD2 hbq hK2=>?_);have HD2:=hid (show VS.heap.size≤D2 from hD2);have HKE:=hid hK2;have K10:=hid (K10.out.new_ hbq);have K11:=hid (K11.out.new_ hbq);have K12:=hid (K12.out.new_ hbq);have K14:=hid (K14.out.new_ hbq);have HPU:=hid (HPU.out.keep (D':=fun k=>Wr.heap.size≤k∧k<VS.heap.size) hbq.size (fun k hk hl=>⟨⟨hk.1,hl⟩,hbq.block k hl⟩));have HBY:=hid (HB1.out.trans ((HBS.out.trans (hbq.mono HBS.out.size)).mono HB1.out.size));have HBQ:=hid (HBS.out.trans (hbq.mono HBS.out.size));clear hD2 hbq hK2;obtain ⟨p0,p1,p2⟩:=K14.out.c3;have pz:=K14.out.lt;obtain ⟨u0,u1,u2⟩:=K10.out.c3;have uf0:=K10.out.frozen 0;have uf1:=K10.out.frozen 1;have uf2:=K10.out.frozen 2;have uz:=K10.out.lt;have v0:=K11.out.c1;have vf0:=K11.out.frozen 0;have vz:=K11.out.lt;have y0:=K12.out.c1;have yf0:=K12.out.frozen 0;have yz:=K12.out.lt;(gi_wp2_with fail);clear u0 u1 u2 uf0 uf1 uf2 uz v0 vf0 vz y0 yf0 yz;clear p0 p1 p2 pz;obtain ⟨VF,hVF⟩ : ∃V,V=(((((Wq.setCell ⟨bx+1,0,none⟩ (Value.string nm)).setCell ⟨bx+1,1,none⟩ (Value.slice A1 n1 c1)).setCell ⟨bx+1,2,none⟩ (Value.slice A2 n2 c2)).setCell ⟨bx+2,0,none⟩ (Value.slice A3 n3 c3)).setCell ⟨bx+3,0,none⟩ (.bool true)):=⟨_,rfl⟩;have FF:=hid (show Fr (fun k=>k=bx+1∨k=bx+2∨k=bx+3) Wq VF by rw [hVF];exact ((((((Fr.refl _ _).setCell (p:=⟨bx+1,0,none⟩) (.inl (.inl rfl)) _).setCell (p:=⟨bx+1,1,none⟩) (.inl (.inl rfl)) _).setCell (p:=⟨bx+1,2,none⟩) (.inl (.inl rfl)) _).setCell (p:=⟨bx+2,0,none⟩) (.inl (.inr (.inl rfl))) _).setCell (p:=⟨bx+3,0,none⟩) (.inl (.inr (.inr rfl))) _));have F10:=hid (show Blk VF (bx+1) 45 #[.string nm,.slice A1 n1 c1,.slice A2 n2 c2] by rw [hVF];have:=(((((K10.out.set_ 0 (Value.string nm)).set_ 1 (Value.slice A1 n1 c1)).set_ 2 (Value.slice A2 n2 c2)).far (p:=⟨bx+2,0,none⟩) (by simp) (Value.slice A3 n3 c3)).far (p:=⟨bx+3,0,none⟩) (by simp) (.bool true));simpa using this);have F11:=hid (show Blk VF (bx+2) 46 #[.slice A3 n3 c3] by rw [hVF];have:=(((((K11.out.far (p:=⟨bx+1,0,none⟩) (by simp) (Value.string nm)).far (p:=⟨bx+1,1,none⟩) (by simp) (Value.slice A1 n1 c1)).far (p:=⟨bx+1,2,none⟩) (by simp) (Value.slice A2 n2 c2)).set_ 0 (Value.slice A3 n3 c3)).far (p:=⟨bx+3,0,none⟩) (by simp) (.bool true));simpa using this);have F12:=hid (show Blk VF (bx+3) 4 #[.bool true] by rw [hVF];have:=(((((K12.out.far (p:=⟨bx+1,0,none⟩) (by simp) (Value.string nm)).far (p:=⟨bx+1,1,none⟩) (by simp) (Value.slice A1 n1 c1)).far (p:=⟨bx+1,2,none⟩) (by simp) (Value.slice A2 n2 c2)).far (p:=⟨bx+2,0,none⟩) (by simp) (Value.slice A3 n3 c3)).set_ 0 (.bool true));simpa using this);have HBF:=hid (show Below X.heap.size X VF from HBY.out.trans (FF.out.below HBY.out.size (fun k hk hm=>by have:=HBX.out;omega)));rw [← hVF];clear hVF;have hl1:D1<Wr.heap.size:=(Zob.1 HKD.out).1;have hz1:=HBS.out.size;have hz2:=HBR.out;have hz3:=HD2.out;have hz4:=HBX.out;have HKV:VF.heap[D2]? = some (.deferred (some [])):=(FF.out.block D2 (Zob.1 HKE.out).1 (fun hm=>by omega)).trans HKE.out
    refine ⟨by simp,.inl ⟨_,_,rfl,run_takeDeferred HKV,?_⟩⟩;have hpv:Priv X.heap.size VF (VF.putObj D2 (.deferred none)):=(Priv.refl _ _).putObj (by omega) HKV rfl _;have HK1:(VF.putObj D2 (.deferred none)).heap[D1]? = some (.deferred (some [])):=(Zon (by omega)).trans ((FF.out.block D1 (Zo3 hl1 HBQ.out.size) (fun hm=>by have:=HD1.out;omega)).trans ((HBQ.out.block D1 hl1).trans HKD.out));refine ⟨by simp,.inl ⟨_,_,rfl,run_takeDeferred HK1,?_⟩⟩;have hpv2:=hpv.putObj (l:=D1) (by have:=HD1.out;omega) HK1 rfl (.deferred none);have hsame : ∀k,Wr.heap.size≤k∧k<VS.heap.size→k<Wq.heap.size→X.heap.size≤k∧((VF.putObj D2 (.deferred none)).putObj D1 (.deferred none)).heap[k]? = Wq.heap[k]?:=fun k hk hl=>⟨by omega,(Zon (by omega)).trans ((Zon (by omega)).trans (FF.out.block k hl (fun hm=>by omega)))⟩;obtain ⟨VP,hVP⟩ : ∃V,V=(VF.putObj D2 (.deferred none)).putObj D1 (.deferred none):=⟨_,rfl⟩;rw [← hVP] at hpv2 hsame ⊢;obtain ⟨u0,u1,u2⟩:=(F10.out.priv hpv2).c3;have v0:=(F11.out.priv hpv2).c1;have y0:=(F12.out.priv hpv2).c1;rw [← HRE.out];refine ⟨.tuple #[.agg #[.string nm,.slice A1 n1 c1,.slice A2 n2 c2],.slice A3 n3 c3,.bool true],?_,HPU.out.prodTo HO1.out.symm HBB.out (Below.priv' HBF.out hpv2 (Zo0 _) HBF.out.size) (Zod FF.out.size hpv2.size) hsame⟩;simp [results,Tryz.results130,go_sem,u0,u1,u2,v0,y0]
end
section
open Go.RowKit
def SmH (n:Nat) (h:Z90):Prop:=SmC (n+1) h.cond∧h.binds.length≤1000
def SmR (n:Nat) (r:Z0f):Prop:=r.elems.length≤1000∧r.holes.length≤1000∧r.aparts.length≤1000∧r.news.length≤1000∧∀h∈r.holes,SmH n h
theorem Zl5 {n:Nat} {D:Nat→Prop} {w:World} {y:Z90} {Ay1 Ay2 Ay3 Ay4:Option Addr} {cy1 cy2 cy3 cy4:Nat} (h1:RowR Z0g D w Ay1 cy1 y.cond.attr) (h2:RowR Z0g D w Ay2 cy2 y.cond.value) (h3:RowR (Z0x n) D w Ay3 cy3 y.cond.conds) (h4:RowR Zan D w Ay4 cy4 y.binds) :
 (Z15 n).rep D w y [.int .i64 y.cond.kind,.bool y.cond.goal,.string y.cond.id,.slice Ay1 y.cond.attr.length cy1,.slice Ay2 y.cond.value.length cy2,.bool y.cond.acc,.slice Ay3 y.cond.conds.length cy3,.slice Ay4 y.binds.length cy4]:=⟨Ay1,cy1,Ay2,cy2,Ay3,cy3,Ay4,cy4,rfl,h1,h2,h3,h4⟩
def Z7f (n:Nat) (D:Nat→Prop) (w:World) (r:Z0f) (A1:Option Addr) (c1:Nat) (A2:Option Addr) (c2:Nat) (A3:Option Addr) (c3:Nat) (A4:Option Addr) (c4:Nat):Prop:=
 RowR Z1b D w A1 c1 r.elems∧RowR (Z15 n) D w A2 c2 r.holes∧RowR Z4q D w A3 c3 r.aparts∧RowR Z4r D w A4 c4 r.news
theorem Z7f.keep {n:Nat} {D D':Nat→Prop} {w w':World} {r:Z0f} {A1:Option Addr} {c1:Nat} {A2:Option Addr} {c2:Nat} {A3:Option Addr} {c3:Nat} {A4:Option Addr} {c4:Nat} (h:Z7f n D w r A1 c1 A2 c2 A3 c3 A4 c4) (hs:w.heap.size≤w'.heap.size) (hk : ∀k,D k→k<w.heap.size→D' k∧w'.heap[k]? = w.heap[k]?):Z7f n D' w' r A1 c1 A2 c2 A3 c3 A4 c4:=
 ⟨h.1.keep hs hk,h.2.1.keep hs hk,h.2.2.1.keep hs hk,h.2.2.2.keep hs hk⟩
def Zja (n:Nat) (r:Z0f) (w:World) (en:Ending) (w':World):Prop:=
 ∃A1 c1 A2 c2 A3 c3 A4 c4,en = .returned (.agg #[.int .i64 r.num,.int .i64 r.level,.slice A1 r.elems.length c1,.slice A2 r.holes.length c2,.slice A3 r.aparts.length c3,.slice A4 r.news.length c4])∧Z7f n (NewD w.heap.size w') w' r A1 c1 A2 c2 A3 c3 A4 c4∧Below w.heap.size w w'
theorem Blk.setAll {w:World} {g:Nat} {t:TypeId} {cs:Array Value} {vs:List Value} (h:Blk w g t cs) (hl:cs.size=vs.length):Blk (w.setCells g 0 vs) g t vs.toArray:=by
 have hr:=Zo4 w g 0 vs (by have:=h.there;rwa [hl] at this);obtain ⟨cs',h1,h2⟩:=Blk.setCells_ vs 0 h
 have e:cs'=vs.toArray:=by
  apply Array.ext
  · rw [h2];simpa using hl
  · intro i hi hj
    (have hj':i<vs.length:=by simpa using hj);have h3:=hr i vs[i] (Zo8 hj');rw [show (0+i)=i by omega,h1.cell i,Array.getElem?_eq_getElem hi] at h3;simpa using h3
 rw [← e];exact h1
theorem Zgp {w:World} {e:TypeId} {size n c:Nat} {A:Option Addr} {xs:List Value} {g:Nat} {t:TypeId} {cs:Array Value} {D:Nat→Prop} (h:w.ownsRow 0 e size (.slice A n c) n xs) (hg:Blk w g t cs) (hne:e≠t) (hA:AIn A D):AIn A (fun j=>D j∧j≠g):=by
 intro a ha;refine ⟨hA a ha,fun hb=>?_⟩;subst ha;exact Z01 h hg hne (by simp [Value.ownBlock,hb])
theorem Z5n {w:World} {e:TypeId} {size n:Nat} {v:Value} {xs:List Value} {g:Nat} {t:TypeId} {cs:Array Value} (h:w.ownsRow 0 e size v n xs) (hg:Blk w g t cs) (hne:e≠t) (o:Nat) (vs:List Value):(w.setCells g o vs).ownsRow 0 e size v n xs:=
 Z0s h (Fr.setCells vs o (Fr.refl (· = g) w) (.inl rfl)) (fun j hj ej=>Z01 h hg hne (by rw [← ej];exact hj))
def RH (n g:Nat) (r:Z0f) (W1:World) (E1:Option Addr) (d1:Nat) (E3:Option Addr) (d3:Nat) (E4:Option Addr) (d4:Nat) (k:Nat) (A:Option Addr) (c:Nat) (wr:World):Prop:=
 Blk wr g 121 #[.int .i64 r.num,.int .i64 r.level,.slice E1 r.elems.length d1,.slice A k c,.slice E3 r.aparts.length d3,.slice E4 r.news.length d4]∧∃C:Nat→Prop,¬C g∧(∀j,C j→NewD W1.heap.size wr j)∧W1.heap.size≤g∧RowR Z1b C wr E1 d1 r.elems∧RowR Z4q C wr E3 d3 r.aparts∧RowR Z4r C wr E4 d4 r.news∧
  OwnC (Z15 n) 134 C wr (.slice A (r.holes.take k).length c) (r.holes.take k)∧AIn A (NewD W1.heap.size wr)∧Below W1.heap.size W1 wr
section
variable {n g:Nat} {r:Z0f} {W1 wr:World} {E1:Option Addr} {d1:Nat} {E3:Option Addr} {d3:Nat} {E4:Option Addr} {d4:Nat} {k:Nat} {A:Option Addr} {c:Nat} {C:Nat→Prop}
theorem RH.fin (hk:k=r.holes.length) (hC : ∀j,C j→NewD W1.heap.size wr j) (t1:RowR Z1b C wr E1 d1 r.elems) (t3:RowR Z4q C wr E3 d3 r.aparts) (t4:RowR Z4r C wr E4 d4 r.news)
 (hO:OwnC (Z15 n) 134 C wr (.slice A (r.holes.take k).length c) (r.holes.take k)) (hA:AIn A (NewD W1.heap.size wr)):Z7f n (NewD W1.heap.size wr) wr r E1 d1 A c E3 d3 E4 d4:=by
 subst hk;rw [Zop] at hO;exact ⟨t1.weaken hC,hO.row hC hA,t3.weaken hC,t4.weaken hC⟩
end
end
section
open Go.RowKit
def zRec:Z0f:=⟨0,0,[],[],[],[]⟩
def Z3r (l:List Z0f) (k:Int):Z0f×Bool:=match l.find? (fun r=>r.num == k) with | some r=>(r,true) | none=>(zRec,false)
theorem Zkj {l:List Z0f} {k:Int} {i:Nat} (hi:i<l.length) (hk:l[i].num=k) (hj : ∀j,(h:j<l.length)→j<i→l[j].num≠k):Z3r l k=(l[i],true):=by
 have:l.find? (fun r=>r.num == k)=some l[i]:=by
  rw [List.find?_eq_some_iff_getElem];exact ⟨by simpa using hk,i,hi,rfl,fun j h=>by simpa using hj j (by omega) h⟩
 unfold Z3r;rw [this]
theorem Zkk {l:List Z0f} {k:Int} (hj : ∀j,(h:j<l.length)→l[j].num≠k):Z3r l k=(zRec,false):=by
 have:l.find? (fun r=>r.num == k)=none:=by
  rw [List.find?_eq_none];intro x hx;obtain ⟨j,h,rfl⟩:=List.getElem_of_mem hx;simpa using hj j h
 unfold Z3r;rw [this]
theorem Zbn {l:List Z0f} {k:Int} (h:(Z3r l k).2=true):(Z3r l k).1∈l∧(Z3r l k).1.num=k:=by
 unfold Z3r at h ⊢
 cases hf:l.find? (fun r=>r.num == k) with
 | none=>rw [hf] at h;cases h
 | some r=>exact ⟨List.mem_of_find?_eq_some hf,by simpa using List.find?_some hf⟩
theorem Zfh {l:List Z0f} {k:Int} (h:(Z3r l k).2=false):(Z3r l k).1=zRec:=by
 unfold Z3r at h ⊢
 cases hf:l.find? (fun r=>r.num == k) with
 | none=>rfl
 | some r=>rw [hf] at h;cases h
def Ans (n:Nat) (x:Z0f×Bool) (D:Nat→Prop) (e:Ending) (w':World):Prop:=
 ∃A1 c1 A2 c2 A3 c3 A4 c4,e = .returned (.tuple #[.agg #[.int .i64 x.1.num,.int .i64 x.1.level,.slice A1 x.1.elems.length c1,.slice A2 x.1.holes.length c2,.slice A3 x.1.aparts.length c3,.slice A4 x.1.news.length c4],.bool x.2])∧Z7f n D w' x.1 A1 c1 A2 c2 A3 c3 A4 c4
structure Z47 (n B:Nat) (gf:Nat) (lb:Array Value) (look:Int→Z0f×Bool) (G:(Nat→Prop)→List Int→World→Prop):Prop where
 enter : ∀args w,(callFunc gf args).run Tryz.prog w = .ok (.enter gf args) w
 lt : ∀{E ks w},G E ks w→∀k,E k→k<w.heap.size
 steady : ∀{E:Nat→Prop} {ks:List Int} {w w':World} {M:Nat→Prop},G E ks w→Fr M w w'→(∀k,M k→¬E k∧B≤k)→G E ks w'
 call : ∀{E ks w} (k:Int),ks.length≤100000→k ∉ ks→G E ks w→Calls Tryz.prog gf (#[.int .i64 k]++lb) w fun e w'=>∃E',G E' (ks ++ [k]) w'∧(∀j,E' j→Plus E w w' j)∧Fr E w w'∧Ans n (look k) (fun j=>NewD w.heap.size w' j∧¬E' j) e w'
theorem Z47.up {n B B' gf:Nat} {lb:Array Value} {look:Int→Z0f×Bool} {G:(Nat→Prop)→List Int→World→Prop} (h:Z47 n B gf lb look G) (hB:B≤B'):Z47 n B' gf lb look G:=
 ⟨h.enter,h.lt,fun hG hF hM=>h.steady hG hF (fun k hk=>⟨(hM k hk).1,Zod hB (hM k hk).2⟩),h.call⟩
theorem Znl {n:Nat} (D:Nat→Prop) (w:World):Z7f n D w zRec none 0 none 0 none 0 none 0:=⟨RowR.nil _ _ _,RowR.nil _ _ _,RowR.nil _ _ _,RowR.nil _ _ _⟩
theorem Zi1 (l:List Z0f) (A:Option Addr) (c:Nat) (w:World) :
 Calls Tryz.prog 78 #[.slice A l.length c] w fun e w'=>e = .returned (.func (.func 131) #[] #[.pointer (some ⟨w.heap.size,0,none⟩)])∧Below w.heap.size w w'∧Blk w' w.heap.size 122 #[.slice A l.length c]:=by
 go_enter Tryz.func78,Tryz.ntmps78;go_wp2;go_ret;exact ⟨rfl,(Znz _ _).alloc (Zo0 _) _,Blk.new _ _ _⟩
def QRow (w:World) (e:TypeId) (size:Nat) (v:Value) (n:Nat) (xs:List Value):Prop:=
 ∃A cap,v = .slice A n cap∧n≤cap∧cap≤maxLen∧xs.length=n*size∧(A=none→cap=0)∧
  ∀b,A=some b→b.spot=none∧(cap=0∨∃cur,Blk w b.block e cur∧b.off+cap*size≤cur.size)∧∀j u,xs[j]? = some u→w.cell? ⟨b.block,b.off+j,none⟩=some u
section
variable {w w':World} {e:TypeId} {size n:Nat} {v:Value} {xs:List Value}
theorem QRow.form (h:QRow w e size v n xs) : ∃A cap,v = .slice A n cap∧n≤cap∧cap≤maxLen:=by
 obtain ⟨A,cap,rfl,h1,h2,_⟩:=h;exact ⟨A,cap,rfl,h1,h2⟩
theorem QRow.of_own (h:w.ownsRow 0 e size v n xs):QRow w e size v n xs:=by
 rcases Z07 h with ⟨rfl,rfl,rfl⟩ | ⟨g,cap,rfl,h1,h2,⟨cur,hb,hs⟩,h3,h4⟩
 · exact ⟨none,0,rfl,Zo0 _,Nat.zero_le _,by simp,fun _=>rfl,fun b hb=>by cases hb⟩
 · exact ⟨_,cap,rfl,h1,h2,h3,fun h=>by (cases h),fun b hb'=>by cases hb';exact ⟨rfl,.inr ⟨cur,hb,by simp [hs]⟩,fun j u hu=>by simpa using h4 j u hu⟩⟩
theorem QRow.keep {M:Nat→Prop} (h:QRow w e size v n xs) (hF:Fr M w w') (hm : ∀k,v.ownBlock=some k→¬M k) (hlt : ∀k,v.ownBlock=some k→k<w.heap.size):QRow w' e size v n xs:=by
 obtain ⟨A,cap,rfl,h1,h2,h3,h4,h5⟩:=h;refine ⟨A,cap,rfl,h1,h2,h3,h4,fun b hb=>?_⟩;subst hb;obtain ⟨g1,g2,g3⟩:=h5 b rfl;have hk:=hm b.block rfl;have hl:=hlt b.block rfl;exact ⟨g1,g2.imp id (fun ⟨cur,hc,hs⟩=>⟨cur,hc.fr hF hk,hs⟩),fun j u hu=>(hF.cell (p:=⟨b.block,b.off+j,none⟩) hl hk).trans (g3 j u hu)⟩
theorem QRow.new_ (h:QRow w e size v n xs) (hb:Below w.heap.size w w') (hlt : ∀k,v.ownBlock=some k→k<w.heap.size):QRow w' e size v n xs:=
 h.keep (M:=fun _=>False) (Fr.of_new hb) (fun _ _ h=>h) hlt
theorem QRow.head {A:Option Addr} {m cap:Nat} (h:QRow w e 1 (.slice A (m+1) cap) (m+1) xs) : ∃b off x,A=some ⟨b,off,none⟩∧m+1≤cap∧xs[0]? = some x∧w.cell? ⟨b,off,none⟩=some x:=by
 obtain ⟨A',cap',hv,h1,h2,h3,h4,h5⟩:=h;injection hv with e1 e2 e3;subst e1;subst e3
 cases A with
 | none=>have:=h4 rfl;omega
 | some b=>
   obtain ⟨g1,g2,g3⟩:=h5 b rfl;obtain ⟨bb,off,sp⟩:=b;dsimp only at g1;subst g1
   cases xs with
   | nil=>simp at h3
   | cons x xs=>exact ⟨bb,off,x,rfl,h1,rfl,by simpa using g3 0 x rfl⟩
theorem QRow.tail {b off m cap:Nat} {x:Value} (h:QRow w e 1 (.slice (some ⟨b,off,none⟩) (m+1) cap) (m+1) (x :: xs)):QRow w e 1 (.slice (if cap=1 then some ⟨b,off,none⟩ else some ⟨b,off+1,none⟩) m (cap - 1)) m xs:=by
 obtain ⟨A',cap',hv,h1,h2,h3,h4,h5⟩:=h;injection hv with e1 e2 e3;subst e1;subst e3;obtain ⟨_,g2,g3⟩:=h5 _ rfl;(have hx:xs.length=m*1:=by simp at h3 ⊢;omega);by_cases hc:cap=1
 · rw [if_pos hc]
   (have hm:m=0:=by omega);have:xs = []:=List.eq_nil_of_length_eq_zero (by omega);subst this;exact ⟨_,cap - 1,rfl,by omega,by omega,hx,fun h=>(by cases h),fun b' hb'=>by cases hb';exact ⟨rfl,.inl (by omega),fun j u hu=>by simp at hu⟩⟩
 · rw [if_neg hc]
   refine ⟨_,cap - 1,rfl,by omega,by omega,hx,fun h=>(by cases h),fun b' hb'=>?_⟩;injection hb' with hb';subst hb';refine ⟨rfl,.inr ?_,fun j u hu=>?_⟩
   · rcases g2 with g2 | ⟨cur,hc,hs⟩
     · omega
     · exact ⟨cur,hc,by dsimp only at hs ⊢;omega⟩
   · have:=g3 (j+1) u (by simpa using hu)
     dsimp only at this ⊢;rwa [show off+1+j=off+(j+1) by omega]
end
section
variable {P:Program} (w:World)
theorem Z8z {ops:Array Oper} {rest:List Oper} {o:Oper} {a:Act} {Q:Exit→Act→World→Prop} (hgd:o.guard=none) (s x:Operand) (t:TypeId)
 (ho:o.op = .call { callee:=.builtin .append,args:=#[s,x],argTypes:=#[t,t] })
 (e:TypeId) (i:TypeInfo) (z:Value) (size bytes:Nat) (ht:P.underlying t=some (.slice e)) (hi:P.info? e=some i) (hz:i.zero=some z)
 (hsize:i.size=size) (hby:i.bytes=bytes) (hzs:z.cells.size=size) (hsz:0<size)
 (v:Value) (n:Nat) (xs:List Value) (hs:a.eval s=v) (hown:QRow w e size v n xs)
 (ad:Addr) (c:Nat) (news:List Value) (hx:a.eval x = .slice (some ad) 1 c) (hn:news.length=size)
 (hnews : ∀j u,news[j]? = some u→w.cell? (ad.add j)=some u) (h1 : ∀u∈news,u.oneCell'=true)
 (h63:n+1≤maxLen) (hbytes:(n+1)*bytes≤140737488355328)
 (h : ∀v' w',QRow w' e size v' (n+1) (xs++news)→Fr (fun k=>v.ownBlock=some k) w w'→(∀g t cs,t≠e→Blk w g t cs→Blk w' g t cs)→(v'.ownBlock=v.ownBlock∨∀k,v'.ownBlock=some k→w.heap.size≤k∧k<w'.heap.size)→wpList P ops Q rest (a.put o.dst v') w') :
 wpList P ops Q (o :: rest) a w:=by
 have fin : ∀v' w',w'.ownsRow w.heap.size e size v' (n+1) (xs++news)→w.grownBy w' none→wpList P ops Q rest (a.put o.dst v') w':=fun v' w' g1 g2=>by
  have g0:w'.ownsRow 0 e size v' (n+1) (xs++news):=⟨g1.1,g1.2.imp id fun ⟨g,cap,cur,hv,h0,hr⟩=>⟨g,cap,cur,hv,Nat.zero_le _,hr⟩⟩;have hF:Fr (fun k=>v.ownBlock=some k) w w':=(Fr.refl _ w).grown g2 (fun k hk=>by cases hk);refine h v' w' (.of_own g0) hF (fun g t cs _ hb=>hb.grown g2 (by simp)) (.inr fun k hk=>⟨?_,Z3q g0 k hk⟩);rcases g1.2 with ⟨rfl,hn0⟩ | ⟨g,cap,cur,rfl,hb,_⟩
  · omega
  · simp only [Value.ownBlock,Option.some.injEq] at hk
    omega
 obtain ⟨A,cap,rfl,q1,q2,q3,q4,q5⟩:=hown;by_cases hr:n+1≤cap
 · cases A with
   | none=>have:=q4 rfl;omega
   | some b=>
     obtain ⟨b,off,sp⟩:=b;obtain ⟨g1,g2,g3⟩:=q5 _ rfl;dsimp only at g1;subst g1
     obtain ⟨cur,hcur,hcs⟩ : ∃cur,Blk w b e cur∧off+cap*size≤cur.size:=by
      rcases g2 with g2 | g2
      · omega
      · exact g2
     have hmul:(n+1)*size≤cap*size:=Nat.mul_le_mul_right _ hr;rw [Nat.add_mul] at hmul;refine wpList_append_arg w hgd s x t ho e i z size bytes ht hi hz hsize hby hzs hsz b off n cap xs hs q3 (fun j u hu=>by simpa using g3 j u hu) ad 1 c news hx (by omega) hnews h1 (fun _ j hj=>?_) h63 hbytes (fun _=>?_) (fun hc=>by omega)
     · rw [hcur.cell]
       exact ⟨by rw [Array.getElem?_eq_getElem (by omega)];rfl,hcur.frozen _⟩
     · have hF:Fr (fun k=>(Value.slice (some ⟨b,off,none⟩) n cap).ownBlock=some k) w (w.setCells b (off+n*size) news):=Fr.setCells news _ (Fr.refl _ w) (.inl rfl)
       obtain ⟨cur',hb',hz'⟩:=Blk.setCells_ news (off+n*size) hcur;refine h _ _ ⟨some ⟨b,off,none⟩,cap,rfl,hr,q2,by rw [Zoi,q3,hn,Nat.add_mul];omega,fun h=>(by cases h),fun b2 hb2=>?_⟩ hF (fun g t cs hne hb=>?_) (.inl rfl)
       · injection hb2 with hb2
         subst hb2;refine ⟨rfl,.inr ⟨cur',hb',by rw [hz'];exact hcs⟩,fun j u hu=>?_⟩;dsimp only;rcases Nat.lt_or_ge j xs.length with hj | hj
         · rw [Zot hj] at hu
           have hra:w.rangeAt b off xs:=fun j v hv=>g3 j v hv;exact World.rangeAt_setCells_apart hra b (off+n*size) news (.inr (.inl (by rw [q3];omega))) j u hu
         · rw [Zp8 hj] at hu
           have hth:w.there b (off+n*size) news.length:=fun k hk=>by
            rw [hcur.cell];exact ⟨by rw [Array.getElem?_eq_getElem (by omega)];rfl,hcur.frozen _⟩
           have:=Zo4 w b (off+n*size) news hth (j - xs.length) u hu;rwa [show off+n*size+(j - xs.length)=off+j by omega] at this
       · exact Blk.farCells news _ hb (fun e2=>by subst e2;exact hb.ne_ hcur hne rfl)
 · have hA : ∀b,A=some b→b=⟨b.block,b.off,none⟩:=fun b hb=>by
    have:=(q5 b hb).1;obtain ⟨_,_,_⟩:=b;dsimp only at this;subst this;rfl
   refine wpList_append_grows w hgd s x t ho e i z size bytes ht hi hz hsize hby hzs hsz A n cap xs hs (fun hn=>by have:=q4 hn;exact ⟨by omega,this⟩) q3 (fun b hb j u hu=>?_) ad 1 c news hx (by omega) hnews h1 (by omega) h63 hbytes fin;rw [hA b hb];have:=(q5 b hb).2.2 j u hu;rwa [Go.WideShapes.add_plain]
end
end
section
open Go.RowKit
abbrev Bnum:=Int
def Bnum.cells (n:Bnum):List Value:=[.int .i64 n]
theorem Bnum.cells_length (n:Bnum):(Bnum.cells n).length=1:=rfl
def Z0k (a b:Bnum):Int:=Z14 a b
theorem Z3n:TC Z0k:=Z31
theorem Z9y (a b:Bnum) (w:World):Calls Tryz.prog 334 #[.int .i64 a,.int .i64 b] w fun e w'=>e = .returned (.int .i64 (Z0k a b))∧Below w.heap.size w w':=by
 go_enter Tryz.func334,Tryz.ntmps334;go_wp2
 all_goals (go_ret;refine ⟨?_,Znz _ _⟩;unfold Z0k Z14;(repeat' split)<;>first | rfl | (exfalso;omega))
structure Sl where
 A:Option Addr
 n:Nat
 c:Nat
structure PgR where
 kk:Int
 num:Int
 level:Int
 elems:Sl
 holes:Sl
 aparts:Sl
 news:Sl
def PgR.cells (x:PgR):List Value:=[.int .i64 x.kk,.int .i64 x.num,.int .i64 x.level,.slice x.elems.A x.elems.n x.elems.c,.slice x.holes.A x.holes.n x.holes.c,.slice x.aparts.A x.aparts.n x.aparts.c,.slice x.news.A x.news.n x.news.c]
theorem PgR.cells_length (x:PgR):x.cells.length=7:=rfl
def Z16 (a b:PgR):Int:=Z14 a.kk b.kk
theorem Z5q:TC Z16:=⟨fun _=>Z31.refl _,fun _ _=>Z31.symm _ _,fun _ _ _=>Z31.trans _ _ _⟩
theorem Za9 (k : Int) (w : World) : (nilAhead 555 259 (.int .i64 k) "Compare").run Tryz.prog w = .ok (some false) w := by kernel_rfl
theorem Zcy (k : Int) (w : World) : (method 555 259 (.int .i64 k) "Compare").run Tryz.prog w = .ok (334, .int .i64 k) w := by kernel_rfl
theorem Zly (a b:PgR) (w:World):Calls Tryz.prog 345 #[.agg #[.int .i64 a.kk,.int .i64 a.num,.int .i64 a.level,.slice a.elems.A a.elems.n a.elems.c,.slice a.holes.A a.holes.n a.holes.c,.slice a.aparts.A a.aparts.n a.aparts.c,.slice a.news.A a.news.n a.news.c],.agg #[.int .i64 b.kk,.int .i64 b.num,.int .i64 b.level,.slice b.elems.A b.elems.n b.elems.c,.slice b.holes.A b.holes.n b.holes.c,.slice b.aparts.A b.aparts.n b.aparts.c,.slice b.news.A b.news.n b.news.c]] w fun e w'=>e = .returned (.int .i64 (Z16 a b))∧Below w.heap.size w w':=by
 have N:=Za9;have M:=Zcy;go_enter Tryz.func345,Tryz.ntmps345;(go_wp2_with fail);refine (Z9y a.kk b.kk _).mono ?_;rintro e w1 ⟨rfl,hb1⟩;have HB1:=hid ((((Znz w.heap.size w).alloc (Zo0 _) _).alloc (by simp) _).trans (hb1.mono (by simp;omega)));clear hb1;(go_wp2_with fail);go_ret;exact ⟨rfl,HB1.out⟩
structure PgT where
 kk:Int
 tr:Z0e
def PgT.cells (x:PgT):List Value:=[.int .i64 x.kk,.int .i64 x.tr.elem.id.kind,.string x.tr.elem.id.text,.int .i64 x.tr.elem.id.n,.int .i64 x.tr.elem.attr.kind,.string x.tr.elem.attr.text,.int .i64 x.tr.elem.attr.n,.int .i64 x.tr.elem.value.kind,.string x.tr.elem.value.text,.int .i64 x.tr.elem.value.n,.bool x.tr.elem.acc,.bool x.tr.elem.goal,.int .i64 x.tr.elem.tag,.int .i64 x.tr.level,.int .i64 x.tr.cause]
theorem PgT.cells_length (x:PgT):x.cells.length=15:=rfl
def Z0l (a b:PgT):Int:=Z14 a.kk b.kk
theorem Z45:TC Z0l:=⟨fun _=>Z31.refl _,fun _ _=>Z31.symm _ _,fun _ _ _=>Z31.trans _ _ _⟩
theorem Zaa (k : Int) (w : World) : (nilAhead 555 259 (.int .i64 k) "Compare").run Tryz.prog w = .ok (some false) w := by kernel_rfl
theorem Zcz (k : Int) (w : World) : (method 555 259 (.int .i64 k) "Compare").run Tryz.prog w = .ok (334, .int .i64 k) w := by kernel_rfl
theorem Zm0 (a b:PgT) (w:World):Calls Tryz.prog 349 #[.agg #[.int .i64 a.kk,.int .i64 a.tr.elem.id.kind,.string a.tr.elem.id.text,.int .i64 a.tr.elem.id.n,.int .i64 a.tr.elem.attr.kind,.string a.tr.elem.attr.text,.int .i64 a.tr.elem.attr.n,.int .i64 a.tr.elem.value.kind,.string a.tr.elem.value.text,.int .i64 a.tr.elem.value.n,.bool a.tr.elem.acc,.bool a.tr.elem.goal,.int .i64 a.tr.elem.tag,.int .i64 a.tr.level,.int .i64 a.tr.cause],.agg #[.int .i64 b.kk,.int .i64 b.tr.elem.id.kind,.string b.tr.elem.id.text,.int .i64 b.tr.elem.id.n,.int .i64 b.tr.elem.attr.kind,.string b.tr.elem.attr.text,.int .i64 b.tr.elem.attr.n,.int .i64 b.tr.elem.value.kind,.string b.tr.elem.value.text,.int .i64 b.tr.elem.value.n,.bool b.tr.elem.acc,.bool b.tr.elem.goal,.int .i64 b.tr.elem.tag,.int .i64 b.tr.level,.int .i64 b.tr.cause]] w fun e w'=>e = .returned (.int .i64 (Z0l a b))∧Below w.heap.size w w':=by
 have N:=Zaa;have M:=Zcz;go_enter Tryz.func349,Tryz.ntmps349;(go_wp2_with fail);refine (Z9y a.kk b.kk _).mono ?_;rintro e w1 ⟨rfl,hb1⟩;have HB1:=hid ((((Znz w.heap.size w).alloc (Zo0 _) _).alloc (by simp) _).trans (hb1.mono (by simp;omega)));clear hb1;(go_wp2_with fail);go_ret;exact ⟨rfl,HB1.out⟩
def Z5p (lv:Int) (r:Z0f):List Int:=(r.elems.filter fun e=>decide (lv≤e.level) && decide (0<e.cause)).map Z0e.cause
section
variable (look:Int→Z0f×Bool) (lv:Int) (keys:List Int)
def bfs:Nat→List Int→List Int→List Int
 | 0,_,done=>done
 | _+1,[],done=>done
 | f+1,k :: todo,done=>if k∈done then bfs f todo done else if (look k).2=true then bfs f (todo++Z5p lv (look k).1) (done ++ [k]) else bfs f todo (done ++ [k])
def left (done:List Int):Nat:=((keys.filter fun k=>decide (k ∉ done)).map fun k=>(Z5p lv (look k).1).length).sum
def cost (todo done:List Int):Nat:=todo.length+left look lv keys done
theorem Z8k (done:List Int) (k:Int):left look lv keys (done ++ [k])≤left look lv keys done:=by
 unfold left
 induction keys with
 | nil=>simp
 | cons x keys ih=>
   by_cases h:x∈done
   · have h2:x∈done ++ [k]:=by simp [h]
     simp only [List.filter_cons,h,h2,not_true_eq_false,decide_false,Bool.false_eq_true,if_false];exact ih
   · by_cases h2:x∈done ++ [k]
     · simp only [List.filter_cons,h,h2,not_true_eq_false,not_false_eq_true,decide_false,decide_true,Bool.false_eq_true,if_false,if_true,List.map_cons,List.sum_cons]
       omega
     · simp only [List.filter_cons,h,h2,not_false_eq_true,decide_true,if_true,List.map_cons,List.sum_cons]
       omega
theorem Zm6 {done:List Int} {k:Int} (hk:k∈keys) (hd:k ∉ done):left look lv keys (done ++ [k])+(Z5p lv (look k).1).length≤left look lv keys done:=by
 induction keys with
 | nil=>cases hk
 | cons x keys ih=>
   have hle:=Z8k look lv keys done k;unfold left at ih hle ⊢;by_cases hxk:x=k
   · subst hxk
     (have h2:x∈done ++ [x]:=by simp);simp only [List.filter_cons,hd,h2,not_true_eq_false,not_false_eq_true,decide_false,decide_true,Bool.false_eq_true,if_false,if_true,List.map_cons,List.sum_cons];omega
   · have hk':k∈keys:=by
      rcases Zoj.1 hk with h | h
      · exact absurd h.symm hxk
      · exact h
     have:=ih hk';by_cases h:x∈done
     · have h2:x∈done ++ [k]:=by simp [h]
       simp only [List.filter_cons,h,h2,not_true_eq_false,decide_false,Bool.false_eq_true,if_false];exact this
     · have h2:x ∉ done ++ [k]:=by simp [h,hxk]
       simp only [List.filter_cons,h,h2,not_false_eq_true,decide_true,if_true,List.map_cons,List.sum_cons];omega
variable (hkeys : ∀k,(look k).2=true→k∈keys)
include hkeys
theorem Z85 {todo done:List Int} {k:Int} (hd:k ∉ done) (hl:(look k).2=true):cost look lv keys (todo++Z5p lv (look k).1) (done ++ [k])+1≤cost look lv keys (k :: todo) done:=by
 have:=Zm6 look lv keys (hkeys k hl) hd;unfold cost;simp only [Zoi,Zol];omega
theorem Zdy : ∀(f f':Nat) (todo done:List Int),cost look lv keys todo done≤f→cost look lv keys todo done≤f'→bfs look lv f todo done=bfs look lv f' todo done:=by
 intro f
 induction f with
 | zero=>
   intro f' todo done h _;have:todo = []:=List.eq_nil_of_length_eq_zero (by unfold cost at h;omega);subst this;cases f'<;>rfl
 | succ f ih=>
   intro f' todo done h h'
   cases todo with
   | nil=>cases f'<;>rfl
   | cons k todo=>
     cases f' with
     | zero=>unfold cost at h';simp at h'
     | succ f'=>
       (have hsk:cost look lv keys todo done+1≤cost look lv keys (k :: todo) done:=by unfold cost;simp;omega);unfold bfs;by_cases hd:k∈done
       · rw [if_pos hd,if_pos hd];exact ih f' todo done (by omega) (by omega)
       · rw [if_neg hd,if_neg hd]
         by_cases hl:(look k).2=true
         · rw [if_pos hl,if_pos hl]
           have:=Z85 look lv keys hkeys (todo:=todo) hd hl;exact ih f' _ _ (by omega) (by omega)
         · rw [if_neg hl,if_neg hl]
           have h9:cost look lv keys todo (done ++ [k])+1≤cost look lv keys (k :: todo) done:=by
            have:=Z8k look lv keys done k;unfold cost;simp;omega
           exact ih f' _ _ (by omega) (by omega)
omit hkeys in
def Z4i (todo done:List Int):List Int:=bfs look lv (cost look lv keys todo done) todo done
omit hkeys in
theorem Zik (done:List Int):Z4i look lv keys [] done=done:=by unfold Z4i;cases cost look lv keys [] done<;>rfl
omit hkeys in
theorem Zg4 {k:Int} {todo done:List Int} (h:k∈done):Z4i look lv keys (k :: todo) done=Z4i look lv keys todo done:=by
 (have hc:cost look lv keys (k :: todo) done=cost look lv keys todo done+1:=by unfold cost;simp;omega);(have e:Z4i look lv keys (k :: todo) done=bfs look lv (cost look lv keys todo done+1) (k :: todo) done:=by unfold Z4i;rw [hc]);rw [e,bfs,if_pos h];rfl
theorem Zg3 {k:Int} {todo done:List Int} (h:k ∉ done) (hl:(look k).2=false):Z4i look lv keys (k :: todo) done=Z4i look lv keys todo (done ++ [k]):=by
 (have hc:cost look lv keys (k :: todo) done=cost look lv keys todo done+1:=by unfold cost;simp;omega);(have e:Z4i look lv keys (k :: todo) done=bfs look lv (cost look lv keys todo done+1) (k :: todo) done:=by unfold Z4i;rw [hc]);rw [e,bfs,if_neg h,if_neg (by rw [hl];simp)];have:=Z8k look lv keys done k;exact Zdy look lv keys hkeys _ _ _ _ (by unfold cost;omega) (Zo0 _)
theorem Zij {k:Int} {todo done:List Int} (h:k ∉ done) (hl:(look k).2=true):Z4i look lv keys (k :: todo) done=Z4i look lv keys (todo++Z5p lv (look k).1) (done ++ [k]):=by
 (have hc:cost look lv keys (k :: todo) done=cost look lv keys todo done+1:=by unfold cost;simp;omega);(have e:Z4i look lv keys (k :: todo) done=bfs look lv (cost look lv keys todo done+1) (k :: todo) done:=by unfold Z4i;rw [hc]);rw [e,bfs,if_neg h,if_pos hl];have:=Z85 look lv keys hkeys (todo:=todo) h hl;exact Zdy look lv keys hkeys _ _ _ _ (by omega) (Zo0 _)
end
abbrev KR:=Int×Z0f
def Z5f (a b:KR):Int:=Z14 a.1 b.1
theorem Zn0:TC Z5f:=⟨fun _=>Z31.refl _,fun _ _=>Z31.symm _ _,fun _ _ _=>Z31.trans _ _ _⟩
def addR (look:Int→Z0f×Bool) (R:List KR) (k:Int):List KR:=if (look k).2=true then put Z5f R (k,(look k).1) else R
def Z2w (look:Int→Z0f×Bool) (done:List Int):List KR:=done.foldl (addR look) []
def Z25 (look:Int→Z0f×Bool) (done:List Int):Nat:=(done.filter fun k=>!(look k).2).length
theorem Z8t (look:Int→Z0f×Bool) (done:List Int) (k:Int):Z2w look (done ++ [k])=addR look (Z2w look done) k:=by unfold Z2w;rw [List.foldl_append];rfl
theorem Z8l (look:Int→Z0f×Bool) (done:List Int) (k:Int):Z25 look (done ++ [k])=Z25 look done+(if (look k).2=true then 0 else 1):=by
 unfold Z25;rw [List.filter_append,Zoi];cases h:(look k).2<;>simp [h]
theorem Zcu {α:Type} {cmp:α→α→Int} {l:List α} {x y:α} (h:y∈put cmp l x):y∈l∨y=x:=by
 unfold put at h
 split at h
 · exact .inl h
 · simp only [Zp7,Zoj] at h
   rcases h with h | h | h
   · exact .inl (Z4p.1 h).1
   · exact .inr h
   · exact .inl (Z4o.1 h).1
theorem Za6 {look:Int→Z0f×Bool} {done:List Int} {p:KR} (h:p∈Z2w look done):p.1∈done∧(look p.1).2=true∧p.2=(look p.1).1:=by
 have : ∀(done:List Int) (R:List KR) (D:List Int),(∀p∈R,p.1∈D∧(look p.1).2=true∧p.2=(look p.1).1)→(∀k∈done,k∈D)→∀p∈done.foldl (addR look) R,p.1∈D∧(look p.1).2=true∧p.2=(look p.1).1:=by
  intro done
  induction done with
  | nil=>intro R D h _ p hp;exact h p hp
  | cons k done ih=>
    intro R D h hd p hp;refine ih (addR look R k) D (fun q hq=>?_) (fun j hj=>hd j (by simp [hj])) p hp;unfold addR at hq
    split at hq
    · rename_i hl
      rcases Zcu hq with hq | rfl
      · exact h q hq
      · exact ⟨hd k (by simp),hl,rfl⟩
    · exact h q hq
 exact this done [] done (fun p hp=>by cases hp) (fun k hk=>hk) p h
theorem Zk6 {look:Int→Z0f×Bool} {done:List Int} {k:Int} (h:k ∉ done) (r:Z0f):has Z5f (Z2w look done) (k,r)=false:=by
 rw [Z35];intro y hy e;have:=(Za6 hy).1;rw [Z3h.1 e] at this;exact h this
theorem Zlc (look:Int→Z0f×Bool) (done:List Int):Srt Z5f (Z2w look done):=by
 have : ∀(done:List Int) (R:List KR),Srt Z5f R→Srt Z5f (done.foldl (addR look) R):=by
  intro done
  induction done with
  | nil=>intro R h;exact h
  | cons k done ih=>
    intro R h;refine ih _ ?_;unfold addR
    split
    · exact h.put Zn0 _
    · exact h
 exact this done [] Srt.nil
theorem Zke (look:Int→Z0f×Bool) (done:List Int):(Z2w look done).length≤done.length:=by
 have : ∀(done:List Int) (R:List KR),Srt Z5f R→(done.foldl (addR look) R).length≤R.length+done.length:=by
  intro done
  induction done with
  | nil=>intro R _;simp
  | cons k done ih=>
    intro R h
    have h1:Srt Z5f (addR look R k):=by
     unfold addR
     split
     · exact h.put Zn0 _
     · exact h
    have h2:(addR look R k).length≤R.length+1:=by
     unfold addR
     split
     · exact Z6s Zn0 h _
     · omega
    have:=ih _ h1;simp only [List.foldl_cons,Zol];omega
 have:=this done [] Srt.nil;simpa [Z2w] using this
def Ze0 (a b:Z0e):Int:=Z14 a.elem.tag b.elem.tag
def bare (e:Z0e):Z0e:={ e with cause:=0 }
def lows (lv:Int) (r:Z0f):List Z0e:=(r.elems.filter fun e=>decide (e.level<lv)).map bare
def Z5h (lv:Int) (R:List KR):List Z0e:=puts Ze0 [] (R.flatMap fun p=>lows lv p.2)
def once (l:List Sym) (s:Sym):List Sym:=if s∈l then l else l ++ [s]
def Z2u (R:List KR):List Sym:=(R.flatMap fun p=>p.2.news).foldl once []
structure Zn7 where
 elems:List Z0e
 holes:List Z90
 aparts:List Z1i
 news:List Sym
 visited:Nat
 lost:Nat
def Z55 (look:Int→Z0f×Bool) (lv:Int) (done:List Int):Zn7:=
 ⟨Z5h lv (Z2w look done),(Z2w look done).flatMap fun p=>p.2.holes,(Z2w look done).flatMap fun p=>p.2.aparts,Z2u (Z2w look done),(Z2w look done).length,Z25 look done⟩
def Zgk (n:Nat) (D:Nat→Prop) (w:World) (p:KR) (x:PgR):Prop:=
 x.kk=p.1∧x.num=p.2.num∧x.level=p.2.level∧x.elems.n=p.2.elems.length∧x.holes.n=p.2.holes.length∧x.aparts.n=p.2.aparts.length∧x.news.n=p.2.news.length∧Z7f n D w p.2 x.elems.A x.elems.c x.holes.A x.holes.c x.aparts.A x.aparts.c x.news.A x.news.c
theorem Zgk.keep {n:Nat} {D D':Nat→Prop} {w w':World} {p:KR} {x:PgR} (h:Zgk n D w p x) (hs:w.heap.size≤w'.heap.size) (hk : ∀k,D k→k<w.heap.size→D' k∧w'.heap[k]? = w.heap[k]?):Zgk n D' w' p x:=by
 obtain ⟨h1,h2,h3,h4,h5,h6,h7,h8⟩:=h;exact ⟨h1,h2,h3,h4,h5,h6,h7,h8.keep hs hk⟩
theorem Z32.filter {α β:Type} {R:α→β→Prop} {f:α→Bool} {g:β→Bool} (hr : ∀a b,R a b→f a=g b) : ∀{l:List α} {m:List β},Z32 R l m→Z32 R (l.filter f) (m.filter g)
 | _,_,.nil=>.nil
 | _,_,.cons (a:=a) (b:=b) h t=>by
   rw [List.filter_cons,List.filter_cons,hr a b h]
   split
   · exact .cons h (t.filter hr)
   · exact t.filter hr
theorem Z32.any {α β:Type} {R:α→β→Prop} {f:α→Bool} {g:β→Bool} (hr : ∀a b,R a b→f a=g b) : ∀{l:List α} {m:List β},Z32 R l m→l.any f=m.any g
 | _,_,.nil=>rfl
 | _,_,.cons (a:=a) (b:=b) h t=>by rw [List.any_cons,List.any_cons,hr a b h,t.any hr]
theorem Z32.put {R:KR→PgR→Prop} (hr : ∀a b,R a b→b.kk=a.1) {l:List KR} {m:List PgR} (h:Z32 R l m) {a:KR} {b:PgR} (hab:R a b):has Z5f l a=has Z16 m b∧Z32 R (put Z5f l a) (put Z16 m b):=by
 (have hc : ∀x y,R x y→Z5f x a=Z16 y b:=fun x y hxy=>by unfold Z5f Z16;rw [hr _ _ hxy,hr _ _ hab]);have hh:has Z5f l a=has Z16 m b:=h.any (fun x y hxy=>by rw [hc x y hxy]);refine ⟨hh,?_⟩;unfold YtldndkngpdfpfaaGreat.put;rw [hh]
 split
 · exact h
 · exact (h.filter (fun x y hxy=>by rw [hc x y hxy])).append (.cons hab (h.filter (fun x y hxy=>by rw [hc x y hxy])))
theorem Zef {done:List Int} {l:List Int} {k:Int}:k∈puts Z0k l done↔k∈l∨k∈done:=by
 induction done generalizing l with
 | nil=>simp [puts]
 | cons x done ih=>
   have e:puts Z0k l (x :: done)=puts Z0k (put Z0k l x) done:=rfl;rw [e,ih,Zoj]
   have hp:k∈put Z0k l x↔k∈l∨k=x:=by
    constructor
    · exact Zcu
    · intro h
      unfold put
      split
      · rename_i hh
        rcases h with h | h
        · exact h
        · obtain ⟨y,hy,e⟩:=Z4y.1 hh
          rw [h,← Z3h.1 e];exact hy
      · rename_i hh
        simp only [Zp7,Zoj];rcases h with h | h
        · have:=Z35.1 (by simpa using hh) k h
          rcases Int.lt_trichotomy (Z0k k x) 0 with h2 | h2 | h2
          · exact .inl (Z4p.2 ⟨h,h2⟩)
          · exact absurd h2 this
          · exact .inr (.inr (Z4o.2 ⟨h,h2⟩))
        · exact .inr (.inl h)
   rw [hp];constructor
   · rintro ((h | h) | h)
     · exact .inl h
     · exact .inr (.inl h)
     · exact .inr (.inr h)
   · rintro (h | h | h)
     · exact .inl (.inl h)
     · exact .inl (.inr h)
     · exact .inr h
theorem Ze5 (done:List Int) (k:Int):has Z0k (puts Z0k [] done) k=decide (k∈done):=by
 by_cases h:k∈done
 · rw [Zoe h]
   exact Z4y.2 ⟨k,Zef.2 (.inr h),Z3h.2 rfl⟩
 · rw [Zo1 h,Z35]
   intro y hy e;rcases Zef.1 hy with h2 | h2
   · cases h2
   · exact h (by rw [← Z3h.1 e];exact h2)
end
section
theorem Zbw {α:Type} [DecidableEq α] : ∀{l m:List α},l.Nodup→(∀x∈l,x∈m)→l.length≤m.length
 | [],_,_,_=>by simp
 | x :: l,m,hn,hs=>by
   have hx:x∈m:=hs x (by simp)
   have:=Zbw (l:=l) (m:=m.erase x) (List.nodup_cons.1 hn).2 (fun y hy=>by
    have:y≠x:=fun e=>(List.nodup_cons.1 hn).1 (e ▸ hy)
    exact (List.mem_erase_of_ne this).2 (hs y (by simp [hy])))
   rw [List.length_erase_of_mem hx] at this;have:=List.length_pos_of_mem hx;simp only [Zol];omega
section
variable {look:Int→Z0f×Bool} {lv:Int} {keys:List Int} (hkeys : ∀k,(look k).2=true→k∈keys)
include hkeys
omit hkeys in
theorem Zfc {m:Nat} (hm : ∀k,(look k).1.elems.length≤m) (done:List Int):left look lv keys done≤keys.length*m:=by
 unfold left
 induction keys with
 | nil=>simp
 | cons x keys ih=>
   (have h1:(Z5p lv (look x).1).length≤m:=by unfold Z5p;rw [Zoz];exact Zod (List.length_filter_le _ _) (hm x));(have h2:(keys.length+1)*m=keys.length*m+m:=by rw [Nat.add_mul];simp);rw [List.filter_cons]
   split
   · simp only [List.map_cons,List.sum_cons,Zol];omega
   · simp only [Zol];omega
omit hkeys in
theorem Zf3 {m:Nat} (hm : ∀k,(look k).1.elems.length≤m) (nums:List Int):cost look lv keys nums []≤nums.length+keys.length*m:=by
 have:=Zfc (lv:=lv) (keys:=keys) hm [];unfold cost;omega
omit hkeys in
omit hkeys in
omit hkeys in
omit hkeys in
theorem Zcd : ∀{l:List KR},Srt Z5f l→(l.map (·.1)).Nodup
 | [],_=>by simp
 | p :: l,h=>by
   obtain ⟨h1,h2⟩:=List.pairwise_cons.1 h;rw [List.map_cons,List.nodup_cons];refine ⟨fun hm=>?_,Zcd h2⟩;obtain ⟨q,hq,e⟩:=List.mem_map.1 hm;have:=h1 q hq;have:=Z3h.2 e.symm;unfold Z5f at *;omega
theorem Zmy (done:List Int):(Z2w look done).length≤keys.length:=by
 have:=Zbw (Zcd (Zlc look done)) (m:=keys) (fun k hk=>by
  obtain ⟨p,hp,rfl⟩:=List.mem_map.1 hk
  exact hkeys _ (Za6 hp).2.1)
 simpa using this
omit hkeys in
end
theorem Z9j (l:List Z0f) : ∀k,(Z3r l k).2=true→k∈l.map Z0f.num:=fun k h=>by
 obtain ⟨h1,h2⟩:=Zbn h;exact List.mem_map.2 ⟨_,h1,h2⟩
theorem Zbm {l:List Z0f} {Q:Z0f→Prop} (h0:Q zRec) (h : ∀r∈l,Q r) (k:Int):Q (Z3r l k).1:=by
 cases hb:(Z3r l k).2 with
 | true=>exact h _ (Zbn hb).1
 | false=>rw [Zfh hb];exact h0
theorem Zlb (n:Nat):SmR n zRec:=⟨by simp [zRec],by simp [zRec],by simp [zRec],by simp [zRec],fun h hh=>by simp [zRec] at hh⟩
theorem Zfg {l:List Z0f} (h0:l.length≤20) (h : ∀r∈l,r.elems.length≤20) (lv:Int) (nums:List Int) (hn:nums.length≤100):cost (Z3r l) lv (l.map Z0f.num) nums []≤100000∧(Z2w (Z3r l) (Z4i (Z3r l) lv (l.map Z0f.num) nums [])).length≤500:=by
 have h1:=Zf3 (look:=Z3r l) (lv:=lv) (keys:=l.map Z0f.num) (m:=20) (Zbm (Q:=fun r=>r.elems.length≤20) (by simp [zRec]) h) nums;have h2:=Zmy (Z9j l) (Z4i (Z3r l) lv (l.map Z0f.num) nums []);rw [Zoz] at h1 h2;have:l.length*20≤20*20:=Nat.mul_le_mul_right 20 h0;exact ⟨by omega,by omega⟩
end
end Go.Proofs.YtldndkngpdfpfaaGreat
