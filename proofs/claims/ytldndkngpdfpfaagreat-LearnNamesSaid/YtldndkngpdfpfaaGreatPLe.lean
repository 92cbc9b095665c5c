/-
  Texts put together: MiscPgS, NewPgS, RangeP, RangeO, Store, RangeO2, BkSymG, BkSym, VaryN.
-/
import Derived.Test.YtldndkngpdfpfaaGreatPLd
import Derived.Test.YtldndkngpdfpfaaGreatPLa
import Derived.Deep.MidRow
import Derived.Test.YtldndkngpdfpfaaGreatPLc
import Derived.Deep.Cut
import Derived.Test.YtldndkngpdfpfaaGreatPLb
import Derived.IntWalk
import Derived.Maps.RangeWalk
namespace Go.Proofs.YtldndkngpdfpfaaGreat
set_option maxRecDepth 100000
set_option maxHeartbeats 32000000
section
open Go.RowKit
theorem get_no_PgS (b c:Nat) (sn:Bool) (A:Option Addr) (l:List PgS) (x:PgS) (w:World) (hS:PgSSet w b sn A c l) (hs:Srt cmpPgS l) (hl:(l.length:Int)≤1000000000) (hh:has cmpPgS l x=false) :
 Calls Tryz.prog 146 #[.pointer (some ⟨b,0,none⟩),.agg #[.int .i64 x.kk.kind,.string x.kk.text,.int .i64 x.kk.n,.int .i64 x.v]] w fun e w'=>e = .returned (.tuple #[.agg #[.int .i64 0,.string ⟨#[]⟩,.int .i64 0,.int .i64 0],.bool false])∧Below w.heap.size w w':=by
 have HS:=Lib.hid hS;have HO:=Lib.hid hs;clear hS hs;go_enter Tryz.func146,Tryz.ntmps146;(go_wp2_with fail);refine (find_PgS b c sn A l x _ (HS.out.new_ ((((Below.refl _ _).alloc (Nat.le_refl _) _).alloc (by simp) _).alloc (by simp;omega) _)) HO.out (by omega)).mono ?_;rintro e w1 ⟨rfl,hb1⟩;obtain ⟨hc1,hf1⟩:=bcell hb1;(have hz1:w.heap.size+2<w1.heap.size:=by have:=hb1.size;simp at this;omega);have HB:=Lib.hid ((((((Below.refl w.heap.size w).alloc (Nat.le_refl _) _).alloc (by simp) _).alloc (by simp;omega) _)).trans (hb1.mono (by simp;omega)));clear hb1;(go_wp2_with fail);exact bodyPost_ret (v:=.tuple #[.agg #[.int .i64 0,.string ⟨#[]⟩,.int .i64 0,.int .i64 0],.bool false]) (by simp [results,Tryz.results146,go_sem,hc1]) rfl ⟨rfl,by (repeat (first | exact Below.refl _ _ | exact HB.out | refine Below.drew ?_ | refine Below.al ?_ _ | refine Below.sc ?_ _))⟩
theorem get_is_PgS (b c:Nat) (sn:Bool) (A:Option Addr) (l:List PgS) (x y:PgS) (w:World) (hS:PgSSet w b sn A c l) (hs:Srt cmpPgS l) (hl:(l.length:Int)≤1000000000) (hh:has cmpPgS l x=true) (hy:l[rank cmpPgS l x]? = some y) :
 Calls Tryz.prog 146 #[.pointer (some ⟨b,0,none⟩),.agg #[.int .i64 x.kk.kind,.string x.kk.text,.int .i64 x.kk.n,.int .i64 x.v]] w fun e w'=>e = .returned (.tuple #[.agg #[.int .i64 y.kk.kind,.string y.kk.text,.int .i64 y.kk.n,.int .i64 y.v],.bool true])∧Below w.heap.size w w':=by
 have HS:=Lib.hid hS;have HO:=Lib.hid hs;obtain ⟨hrk,hye⟩:=List.getElem?_eq_some_iff.1 hy;have hrd:=hS.rd PgS.cells_length;have s0:=hS.cell0;have hb:=hS.lt;clear hS hs hy;obtain ⟨g,off,rfl,hgs,hcell⟩:=hrd.at_ hrk;rw [hye] at hcell;obtain ⟨k,hk⟩ : ∃k,k=rank cmpPgS l x:=⟨_,rfl⟩;rw [← hk] at hcell hrk;(have q0:w.cell? ⟨g,off+k*4,none⟩=some (.int .i64 y.kk.kind):=by simpa using hcell 0 _ rfl);(have q1:w.cell? ⟨g,off+k*4+1,none⟩=some (.string y.kk.text):=by simpa using hcell 1 _ rfl);(have q2:w.cell? ⟨g,off+k*4+2,none⟩=some (.int .i64 y.kk.n):=by simpa using hcell 2 _ rfl);(have q3:w.cell? ⟨g,off+k*4+3,none⟩=some (.int .i64 y.v):=by simpa using hcell 3 _ rfl);(have b1:(0:Int)≤(k:Int):=by omega);(have b2:(k:Int)<(l.length:Int):=by omega);have HK:=Lib.hid hk;clear hcell hrd hye hk;go_enter Tryz.func146,Tryz.ntmps146;(go_wp2_with fail);refine (find_PgS b c sn _ l x _ (HS.out.new_ ((((Below.refl _ _).alloc (Nat.le_refl _) _).alloc (by simp) _).alloc (by simp;omega) _)) HO.out (by omega)).mono ?_;rintro e w1 ⟨rfl,hb1⟩;rw [← HK.out];obtain ⟨hc1,hf1⟩:=bcell hb1;(have hz1:w.heap.size+2<w1.heap.size:=by have:=hb1.size;simp at this;omega);have HB:=Lib.hid ((((((Below.refl w.heap.size w).alloc (Nat.le_refl _) _).alloc (by simp) _).alloc (by simp;omega) _)).trans (hb1.mono (by simp;omega)));clear hb1;have r0:=(HB.out.cell (p:=⟨b,0,none⟩) hb).trans s0;have r1:=(HB.out.cell (p:=⟨g,off+k*4,none⟩) hgs).trans q0;have r2:=(HB.out.cell (p:=⟨g,off+k*4+1,none⟩) hgs).trans q1;have r3:=(HB.out.cell (p:=⟨g,off+k*4+2,none⟩) hgs).trans q2;have r4:=(HB.out.cell (p:=⟨g,off+k*4+3,none⟩) hgs).trans q3;clear s0 q0 q1 q2 q3;(go_wp2_with fail);exact bodyPost_ret (v:=.tuple #[.agg #[.int .i64 y.kk.kind,.string y.kk.text,.int .i64 y.kk.n,.int .i64 y.v],.bool true]) (by simp [results,Tryz.results146,go_sem,hc1]) rfl ⟨rfl,by (repeat (first | exact Below.refl _ _ | exact HB.out | refine Below.drew ?_ | refine Below.al ?_ _ | refine Below.sc ?_ _))⟩
end
section
open Go.RowKit
def NewPostPgS (w:World) (xs:List PgS) (e:Ending) (w':World):Prop:=
 ∃k,e = .returned (.pointer (some ⟨k,0,none⟩))∧w.heap.size≤k∧∃sn A c,PgSSet w' k sn A c (puts cmpPgS [] xs)∧AIn A (w.heap.size≤·)∧Below w.heap.size w w'
theorem new_PgS (A:Option Addr) (c:Nat) (xs:List PgS) (w:World) (hrd:RowRd w 4 PgS.cells A c xs) (hl:(xs.length:Int)≤10000000) :
 Calls Tryz.prog 140 #[.slice A xs.length c] w (NewPostPgS w xs):=by
 have HRD:=Lib.hid hrd;clear hrd;go_enter Tryz.func140,Tryz.ntmps140;(go_wp2_with fail);obtain ⟨W0,hW0⟩ : ∃W0,W0=w.alloc (.cells #[.slice none 0 0,.bool false] 281):=⟨_,rfl⟩;(have hb0:Below w.heap.size w W0:=by rw [hW0];exact (Below.refl _ _).alloc (Nat.le_refl _) _);have hS0:PgSSet W0 w.heap.size false none 0 []:=⟨by rw [hW0];exact Blk.new _ _ _,⟨by simp,.inl ⟨rfl,rfl⟩⟩⟩;rw [← hW0];clear hW0;have HB0:=Lib.hid hb0;have HS0:=Lib.hid hS0;clear hb0 hS0
 go_loopw [10] (fun s wr=>∃i:Nat,s = .int .i64 i∧i≤xs.length∧∃sn A' c',PgSSet wr w.heap.size sn A' c' (puts cmpPgS [] (xs.take i))∧AIn A' (w.heap.size≤·)∧Below w.heap.size w wr) (fun s wr=>xs.length - (intOf s).toNat)
 case atStart=>exact ⟨0,rfl,Nat.zero_le _,false,none,0,HS0.out,AIn.none_ _,HB0.out⟩
 case round=>
  obtain ⟨i,rfl,hi,sn,A',c',hS,hA',hB⟩:=hrel;have HS:=Lib.hid hS;have HA:=Lib.hid hA';have HB:=Lib.hid hB;clear hS hA' hB;by_cases hlt:i<xs.length
  · obtain ⟨x,hx⟩ : ∃x,x=xs[i]:=⟨_,rfl⟩
    obtain ⟨g,off,rfl,hgs,hcell⟩:=(HRD.out.fr (Fr.of_new (M:=fun _=>False) HB.out) (fun _ _ h=>h)).at_ hlt;rw [← hx] at hcell;(have q0:wr.cell? ⟨g,off+i*4,none⟩=some (.int .i64 x.kk.kind):=by simpa using hcell 0 _ rfl);(have q1:wr.cell? ⟨g,off+i*4+1,none⟩=some (.string x.kk.text):=by simpa using hcell 1 _ rfl);(have q2:wr.cell? ⟨g,off+i*4+2,none⟩=some (.int .i64 x.kk.n):=by simpa using hcell 2 _ rfl);(have q3:wr.cell? ⟨g,off+i*4+3,none⟩=some (.int .i64 x.v):=by simpa using hcell 3 _ rfl);(have b1:(0:Int)≤(i:Int):=by omega);(have b2:(i:Int)<(xs.length:Int):=by omega);have HX:=Lib.hid hx;clear hcell hx;(go_wp2_with fail);have hsr:=Srt.puts tc_pgs (xs.take i) (Srt.nil (cmp:=cmpPgS))
    have hlen:(((puts cmpPgS [] (xs.take i)).length:Nat):Int)≤100000000:=by
     have:=length_puts_le tc_pgs (xs.take i) (Srt.nil (cmp:=cmpPgS));simp at this;omega
    refine (put_PgS w.heap.size c' sn A' _ x _ (HS.out.new_ ((Below.refl _ _).alloc (Nat.le_refl _) _)) hsr hlen).mono ?_;rintro e w1 ⟨rfl,sn2,A2,c2,hS2,hF2,hM2⟩
    have hB1:Below w.heap.size w w1:=(HB.out.alloc HB.out.size _).trans (hF2.below (by have:=HB.out.size;(try simp);omega) (fun k hk hm=>by
     rcases hm with hm | ⟨_,a,ha,hm⟩
     · omega
     · have:=HA.out a ha;omega))
    have hA2:AIn A2 (w.heap.size≤·):=by
     rcases hM2 with ⟨_,rfl⟩ | ⟨_,g2,hg2,rfl⟩
     · exact HA.out
     · intro a ha;cases ha;have:=HB.out.size;(try simp at hg2 ⊢);omega
    have HS2:=Lib.hid hS2;have HB1:=Lib.hid hB1;have HA2:=Lib.hid hA2;clear hS2 hB1 hA2 hF2 hM2 hsr hlen q0 q1 q2 q3;(go_wp2_with fail);go_roundw
    case rel=>
     refine ⟨i+1,by go_num,by omega,sn2,A2,c2,?_,HA2.out,HB1.out⟩;rw [List.take_add_one,List.getElem?_eq_getElem hlt,← HX.out];simp only [Option.toList_some,puts_snoc];exact HS2.out
    case measure=>simp [intOf]<;>omega
  · have hie:i=xs.length:=by omega
    subst hie;(go_wp2_with fail);go_ret;refine ⟨w.heap.size,rfl,Nat.le_refl _,sn,A',c',?_,HA.out,HB.out⟩;have:=HS.out;rwa [List.take_length] at this
end
section
open Go.RowKit
variable {P:Program}
structure Kept (B:Nat) (F X Y:World):Prop where
 from_:KeepsFrom B X Y
 own : ∀k,B≤k→k<F.heap.size→Y.heap[k]? = X.heap[k]?
section
variable {B C:Nat} {F X Y Z:World}
theorem Kept.trans (h:Kept B F X Y) (k:Kept B F Y Z):Kept B F X Z:=⟨h.1.trans k.1,fun i h1 h2=>(k.2 i h1 h2).trans (h.2 i h1 h2)⟩
theorem Kept.up (h:Kept B F X Y) (hB:B≤C):Kept C F X Y:=⟨KeepsFrom.up h.1 hB,fun i h1 h2=>h.2 i (by omega) h2⟩
theorem Kept.put_ {l:Nat} (h:Kept B F X Y) (hl:l<B) (o:Obj):Kept B F X (Y.putObj l o):=⟨KeepsFrom.put_ h.1 hl o,fun i h1 h2=>(World.putObj_heap_other (by omega)).trans (h.2 i h1 h2)⟩
theorem Kept.new_ (h:Below X.heap.size X Y) (hs:F.heap.size≤X.heap.size):Kept B F X Y:=
 ⟨⟨h.size,fun k o _ hk _=>(h.block k (Array.getElem?_eq_some_iff.1 hk).1).trans hk⟩,fun k _ hk=>h.block k (by omega)⟩
end
def IterP {α:Type} (P:Program) (gf:Nat) (lb:Array Value) (encs:α→Array Value) (xs:List α) (W:World) (start Kp:World→World→Prop):Prop:=
 ∀(l:Nat) (J Jx:World→List α→World→Prop),(∀F p X Y,J F p X→Priv W.heap.size X Y→J F p Y)→(∀F p X Y,Jx F p X→Priv W.heap.size X Y→Jx F p Y)→
  (∀F,start W F→J F [] F)→
  (∀F pre x post W1,start W F→xs=pre++x :: post→J F pre W1→YieldAt Fence.wide 0 P l (encs x) W1 fun e W'=>
    (e = .returned (.bool true)∧J F (pre ++ [x]) W'∧Kp W1 W'∧Kept W.heap.size F W1 W')∨(e = .returned (.bool false)∧Jx F (pre ++ [x]) W'∧Kept W.heap.size F W1 W'))→
  CallsIn Fence.wide 0 P gf (#[.func (.yield l) #[] #[]]++lb) W fun e W'=>(∃v,e = .returned v)∧∃F,start W F∧(J F xs W'∨∃pre post,xs=pre++post∧Jx F pre W')
theorem Iter.p {α:Type} {gf:Nat} {lb:Array Value} {encs:α→Array Value} {xs:List α} {W:World} {start Kp:World→World→Prop} (h:Iter P gf lb encs xs W start (fun X Y=>Kp X Y∧KeepsFrom W.heap.size X Y)):IterP P gf lb encs xs W start Kp:=by
 intro l J Jx h1 h2 h3 h4;refine (h l (fun p X=>∃F,start W F∧J F p X) (fun p X=>∃F,start W F∧Jx F p X) (fun p X Y ⟨F,a,b⟩ hp=>⟨F,a,h1 F p X Y b hp⟩) (fun p X Y ⟨F,a,b⟩ hp=>⟨F,a,h2 F p X Y b hp⟩) (fun F hF=>⟨F,hF,h3 F hF⟩) ?_).mono ?_
 · rintro pre x post W1 hx ⟨F,hF,hJ⟩
   obtain ⟨fn,tmps,assign,body,hy,hR⟩:=h4 F pre x post W1 hF hx hJ;refine ⟨fn,tmps,assign,body,hy,hR.mono ?_⟩;rintro e W' (⟨g1,g2,g3,g4⟩ | ⟨g1,g2,_⟩)
   · exact .inl ⟨g1,⟨F,hF,g2⟩,g3,g4.1⟩
   · exact .inr ⟨g1,F,hF,g2⟩
 · rintro e W' ⟨hv,(⟨F,hF,hJ⟩ | ⟨pre,post,hx,F,hF,hJ⟩)⟩
   · exact ⟨hv,F,hF,.inl hJ⟩
   · exact ⟨hv,F,hF,.inr ⟨pre,post,hx,hJ⟩⟩
def rPostP {α:Type} (KpW:World→Prop) (B:Nat) (F:World) (I:World→List α→World→Prop) (Ix:World→Code→List α→World→Prop) (p:List α) (W:World):Exit→Act→World→Prop
 | .normal,_,W'=>Kept B F W W'∧KpW W'∧I F p W'
 | .ret,_,W'=>Kept B F W W'∧Ix F .ret p W'
 | .exit id,_,W'=>Kept B F W W'∧Ix F (.exit id) p W'
 | .goto t,_,W'=>Kept B F W W'∧Ix F (.goto t) p W'
 | .panic _,_,_=>False
 | .outgrown,_,_=>False
theorem wpIn_rangeP {α:Type} {g:Operand} {ps:Array Tmp} {assign body:Code} {Q:Exit→Act→World→Prop} {a:Act} {w:World} {gf:Nat} {lb:Array Value}
 (hg:a.eval g = .func (.func gf) #[] lb) (eg : ∀args w,(callFunc gf args).run P w = .ok (.enter gf args) w)
 {encs:α→Array Value} {xs:List α} {start Kp:World→World→Prop} (hseq : ∀W,Below w.heap.size w W→IterP P gf lb encs xs W start Kp)
 (hps : ∀x,(encs x).size=ps.size) (hKt : ∀A B C,Kp A B→Kp B C→Kp A C) (hKp : ∀A B,Priv w.heap.size A B→Kp A B) (hst : ∀W W1,start W W1→KeepsFrom w.heap.size W W1)
 (I:World→List α→World→Prop) (Ix:World→Code→List α→World→Prop) (hI : ∀F p X Y,I F p X→Priv w.heap.size X Y→I F p Y) (hIx : ∀F c p X Y,Ix F c p X→Priv w.heap.size X Y→Ix F c p Y)
 (h0 : ∀W F,Below w.heap.size w W→start W F→I F [] F)
 (hround : ∀(F:World) (l:Nat) (pre:List α) (x:α) (post:List α) (W:World),xs=pre++x :: post→w.heap.size≤l→I F pre W→
   assign.wpIn (Fence.wide.inRound l) 0 P (Exit.then (fun a1 W1=>Kept w.heap.size F W W1∧∀W2,Priv w.heap.size W1 W2→W2.heap.size=W1.heap.size→(∃r,W2.heap[l]? = some (.loop r))→
    body.wpIn (Fence.wide.inRound l) 0 P (rPostP (Kp W) w.heap.size F I Ix (pre ++ [x]) W2) a1 W2) (fun _ _ _=>False))
    { tmps:=(ps.zip (encs x)).foldl (fun t (p,v)=>t.setIfInBounds p v) a.tmps,defers:=[] } W)
 (hdone : ∀(F:World) (D:Nat) (W:World),w.heap.size≤D→I F xs W→W.heap[D]? = some (.deferred (some []))→Q .normal { a with defers:={ target:=.collected D,args:=#[] } :: a.defers } W)
 (hstop : ∀(F:World) (D:Nat) (c:Code) (pre post:List α) (W:World),w.heap.size≤D→xs=pre++post→Ix F c pre W→W.heap[D]? = some (.deferred (some []))→c.wpIn Fence.wide 0 P Q { a with defers:={ target:=.collected D,args:=#[] } :: a.defers } W) :
 (Code.rangeFunc g ps assign body).wpIn Fence.wide 0 P Q a w:=by
 refine wpIn_rangeFunc ?_;intro fn hfn;obtain ⟨rec,hrec⟩ : ∃rec:LoopState→Option Code→Loop,rec=fun st pe=>{ state:=st,pending:=pe,fn,tmps:=a.tmps,params:=ps,assign,body,defers:=w.heap.size }:=⟨_,rfl⟩;obtain ⟨W1,hW1⟩ : ∃W1,(w.alloc (.deferred (some []))).alloc (.loop (rec .ready none))=W1:=⟨_,rfl⟩
 have hL1:W1.heap[w.heap.size+1]? = some (.loop (rec .ready none)):=by
  rw [← hW1];have:=World.alloc_heap_new (w.alloc (.deferred (some []))) (.loop (rec .ready none));rwa [World.size_alloc] at this
 have hK1:W1.heap[w.heap.size]? = some (.deferred (some [])):=by
  rw [← hW1];exact (Below.heap_alloc _ _ _ (by simp)).trans (World.alloc_heap_new w _)
 have hb1:Below w.heap.size w W1:=by
  rw [← hW1];exact ((Below.refl _ w).alloc (Nat.le_refl _) _).alloc (by simp) _
 have hz1:W1.heap.size=w.heap.size+2:=by rw [← hW1];simp
 refine ⟨w.heap.size+1,[{ target:=.collected w.heap.size,args:=#[] }],W1,{ target:=.fn (.func gf) lb,args:=#[.func (.yield (w.heap.size+1)) #[] #[]] },W1,gf,
  #[.func (.yield (w.heap.size+1)) #[] #[]]++lb,W1,?_,?_,fun _ _=>trivial,?_,fun h=>by simp [Fence.wide] at h,?_⟩
 · rw [← hW1,hrec];exact run_enterLoop_outer _ _ _ _ _
 · simp only [resolve,hg]
   simp [go_sem]
 · simp [invoke,go_sem,eg]
 · have keep : ∀{X Y:World} {k:Nat} {o:Obj},Priv W1.heap.size X Y→X.heap[k]? = some o→k<W1.heap.size→Y.heap[k]? = some o:=fun hp hk hlt=>
    (hp.block _ (Array.getElem?_eq_some_iff.1 hk).1 (.inl hlt)).trans hk
   refine (hseq W1 hb1 (w.heap.size+1)
    (fun F pre W=>(∃W0,Below w.heap.size w W0∧start W0 F)∧I F pre W∧W.heap[w.heap.size+1]? = some (.loop (rec .ready none))∧W.heap[w.heap.size]? = some (.deferred (some [])))
    (fun F pre W=>∃c,Ix F c pre W∧W.heap[w.heap.size+1]? = some (.loop (rec .done (some c)))∧W.heap[w.heap.size]? = some (.deferred (some [])))
    (fun F p X Y ⟨h0,h1,h2,h3⟩ hp=>⟨h0,hI F p X Y h1 (hp.mono (by omega)),keep hp h2 (by omega),keep hp h3 (by omega)⟩)
    (fun F p X Y ⟨c,h1,h2,h3⟩ hp=>⟨c,hIx F c p X Y h1 (hp.mono (by omega)),keep hp h2 (by omega),keep hp h3 (by omega)⟩)
    (fun W2 hs=>⟨⟨W1,hb1,hs⟩,h0 W1 W2 hb1 hs,(hst _ _ hs).same _ _ (by omega) hL1 rfl,(hst _ _ hs).same _ _ (by omega) hK1 rfl⟩) ?_).mono ?_
   · rintro F pre x post W hst0 hx ⟨hw0,hi,hl,hk⟩
     have hy:=run_yield (P:=P) (args:=encs x) hl (by rw [hrec];exact hps x);rw [hrec] at hy;refine ⟨fn,_,assign,body,hy,roundIn_of_wpIn hfn ?_⟩;refine wpIn_mono (hround F (w.heap.size+1) pre x post W hx (by omega) hi) ?_;rintro e a1 Wa hp
     cases e with
     | normal=>
       obtain ⟨hka,hbody⟩:=hp;have hla:=hka.1.same _ _ (by omega) hl rfl;have hkd:=hka.1.same _ _ (by omega) hk rfl;have hlt:w.heap.size+1<Wa.heap.size:=(Array.getElem?_eq_some_iff.1 hla).1;have hbr:=run_beginRound (P:=P) hla (by rw [hrec]);refine ⟨_,hbr,?_⟩;have hl2:(Wa.putObj (w.heap.size+1) (.loop { rec .ready none with state:=.busy })).heap[w.heap.size+1]? = some (.loop { rec .ready none with state:=.busy }):=World.putObj_heap_same hlt;have hk2:(Wa.putObj (w.heap.size+1) (.loop { rec .ready none with state:=.busy })).heap[w.heap.size]? = some (.deferred (some [])):=(World.putObj_heap_other (by omega)).trans hkd;refine wpIn_mono (hbody _ ((Priv.refl _ Wa).putObj (by omega) hla rfl _) (by simp) ⟨_,hl2⟩) ?_
       have fin : ∀(jump:Option Code) (W3:World),Kept w.heap.size F (Wa.putObj (w.heap.size+1) (.loop { rec .ready none with state:=.busy })) W3→
        (Instr.endRound (w.heap.size+1) jump).run P W3 = .ok (.bool jump.isNone) (W3.putObj (w.heap.size+1) (.loop (rec (if jump.isNone then .ready else .done) jump)))∧
        Priv w.heap.size W3 (W3.putObj (w.heap.size+1) (.loop (rec (if jump.isNone then .ready else .done) jump)))∧
        (W3.putObj (w.heap.size+1) (.loop (rec (if jump.isNone then .ready else .done) jump))).heap[w.heap.size+1]? = some (.loop (rec (if jump.isNone then .ready else .done) jump))∧
        (W3.putObj (w.heap.size+1) (.loop (rec (if jump.isNone then .ready else .done) jump))).heap[w.heap.size]? = some (.deferred (some [])):=fun jump W3 hk3=>by
        have hl3:=hk3.1.same _ _ (by omega) hl2 rfl;have:=run_endRound (P:=P) jump hl3;rw [hrec] at this ⊢;exact ⟨this,(Priv.refl _ _).putObj (by omega) hl3 rfl _,World.putObj_heap_same (Array.getElem?_eq_some_iff.1 hl3).1,(World.putObj_heap_other (by omega)).trans (hk3.1.same _ _ (Nat.le_refl _) hk2 rfl)⟩
       rintro e a3 W3 hp
       cases e with
       | normal=>
         obtain ⟨hk3,hkp3,hi3⟩:=hp;obtain ⟨hr,hpv,hl4,hk4⟩:=fin none W3 hk3;refine ⟨_,_,hr,.inl ⟨rfl,⟨hw0,hI _ _ _ _ hi3 hpv,hl4,hk4⟩,hKt _ _ _ hkp3 (hKp _ _ hpv),?_⟩⟩;exact (((hka.up (by omega)).put_ (by omega) _).trans (hk3.up (by omega))).put_ (by omega) _
       | ret=>
         obtain ⟨hk3,hi3⟩:=hp;obtain ⟨hr,hpv,hl4,hk4⟩:=fin (some .ret) W3 hk3;exact ⟨_,_,hr,.inr ⟨rfl,⟨.ret,hIx _ _ _ _ _ hi3 hpv,hl4,hk4⟩,(((hka.up (by omega)).put_ (by omega) _).trans (hk3.up (by omega))).put_ (by omega) _⟩⟩
       | exit id=>
         obtain ⟨hk3,hi3⟩:=hp;obtain ⟨hr,hpv,hl4,hk4⟩:=fin (some (.exit id)) W3 hk3;exact ⟨_,_,hr,.inr ⟨rfl,⟨.exit id,hIx _ _ _ _ _ hi3 hpv,hl4,hk4⟩,(((hka.up (by omega)).put_ (by omega) _).trans (hk3.up (by omega))).put_ (by omega) _⟩⟩
       | goto t=>
         obtain ⟨hk3,hi3⟩:=hp;obtain ⟨hr,hpv,hl4,hk4⟩:=fin (some (.goto t)) W3 hk3;exact ⟨_,_,hr,.inr ⟨rfl,⟨.goto t,hIx _ _ _ _ _ hi3 hpv,hl4,hk4⟩,(((hka.up (by omega)).put_ (by omega) _).trans (hk3.up (by omega))).put_ (by omega) _⟩⟩
       | panic ch=>exact hp.elim
       | outgrown=>exact hp.elim
     | exit id=>exact hp.elim
     | goto l=>exact hp.elim
     | ret=>exact hp.elim
     | panic ch=>exact hp.elim
     | outgrown=>exact hp.elim
   · rintro e W2 ⟨⟨v,rfl⟩,F,_,(⟨_,hi,hl,hk⟩ | ⟨pre,post,hS,c,hi,hl,hk⟩)⟩
     · exact ⟨none,_,by have:=run_endLoop (P:=P) hl (by rw [hrec];simp);rw [hrec] at this;exact this,hdone F _ _ (Nat.le_refl _) (hI _ _ _ _ hi ((Priv.refl _ _).putObj (by omega) hl rfl _)) ((World.putObj_heap_other (by omega)).trans hk)⟩
     · exact ⟨some c,_,by have:=run_endLoop (P:=P) hl (by rw [hrec];simp);rw [hrec] at this;exact this,hstop F _ c pre post _ (Nat.le_refl _) hS (hIx _ c _ _ _ hi ((Priv.refl _ _).putObj (by omega) hl rfl _)) ((World.putObj_heap_other (by omega)).trans hk)⟩
end
section
open Go.RowKit
variable {P:Program}
def Plus (D:Nat→Prop) (X Y:World):Nat→Prop:=fun k=>D k∨(X.heap.size≤k∧k<Y.heap.size)
theorem Fr.putObj {M:Nat→Prop} {X Y:World} (h:Fr M X Y) {l:Nat} (hl:M l∨X.heap.size≤l) (o:Obj):Fr M X (Y.putObj l o):=
 ⟨h.os,h.tape,h.output,by simpa using h.size,fun k hk hn=>(World.putObj_heap_other (by
  rintro rfl;rcases hl with hl | hl
  · exact hn hl
  · omega)).trans (h.block k hk hn)⟩
end
section
open Go.RowKit
theorem Fr.setCells {M:Nat→Prop} {a:World} {g:Nat} : ∀(vs:List Value) (o:Nat) {b:World},Fr M a b→(M g∨a.heap.size≤g)→Fr M a (b.setCells g o vs)
 | [],_,_,h,_=>h
 | v :: vs,o,_,h,hg=>Fr.setCells vs (o+1) (h.setCell (p:=⟨g,o,none⟩) hg v) hg
theorem ownsRow_setCells {g:Nat} {e:TypeId} {size n cap:Nat} : ∀(vs:List Value) (o:Nat) {w:World} {xs:List Value},w.ownsRow 0 e size (.slice (some ⟨g,0,none⟩) n cap) n xs→(w.setCells g o vs).ownsRow 0 e size (.slice (some ⟨g,0,none⟩) n cap) n ((vs.zipIdx o).foldl (fun l (v,j)=>l.set j v) xs)
 | [],_,_,_,h=>h
 | v :: vs,o,_,_,h=>by
   rw [List.zipIdx_cons,List.foldl_cons];exact ownsRow_setCells vs (o+1) ((h.stored o v).1)
theorem zip_shift : ∀(vs:List Value) (o s:Nat) (xs:List Value),(vs.zipIdx (o+s)).foldl (fun l (v,j)=>l.set j v) xs=(vs.zipIdx s).foldl (fun l (v,j)=>l.set (o+j) v) xs
 | [],_,_,_=>rfl
 | v :: vs,o,s,xs=>by
   rw [List.zipIdx_cons,List.zipIdx_cons,List.foldl_cons,List.foldl_cons];exact zip_shift vs o (s+1) _
theorem ownsRow_element {α:Type} {cells:α→List Value} {w:World} {g:Nat} {e:TypeId} {size n cap:Nat} (hsz : ∀x,(cells x).length=size) (h0:0<size) {l:List α} (h:w.ownsRow 0 e size (.slice (some ⟨g,0,none⟩) n cap) n (l.flatMap cells)) (k:Nat) (hk:k<l.length) (y:α) :
 (w.setCells g (k*size) (cells y)).ownsRow 0 e size (.slice (some ⟨g,0,none⟩) n cap) n ((l.set k y).flatMap cells):=by
 have h1:=ownsRow_setCells (w:=w) (cells y) (k*size) h;have h2:=zip_shift (cells y) (k*size) 0 (l.flatMap cells);rw [Nat.add_zero] at h2;rw [h2] at h1;have h3:=flat_set hsz h0 l k hk y;unfold setAll at h3;rw [h3] at h1;exact h1
theorem step_store_el {P:Program} {ops:Array Oper} {o:Oper} {a:Act} {w:World} {K:Act→World→Prop} {Q:Exit→Act→World→Prop} {E:Prop} (hgd:o.guard=none) (ty:TypeId) (x y:Operand) (ho:o.op = .store ty x y)
 (b off:Nat) (cells:Array Value) (hx:a.eval x = .pointer (some ⟨b,off,none⟩)) (hy:a.eval y = .agg cells)
 (ht:w.there b off cells.size) (hi:(P.info? ty).map (·.size)=some cells.size) (h1:cells.all (·.oneCell')=true)
 (h:K (a.put o.dst undef) (w.setCells b off cells.toList)):if Region.wanted o (yielded ops a.tmps)=true then Oper.wp P o a w K Q else E:=by
 rw [if_pos (by simp [Region.wanted,hgd])];exact wp_store_mid ty x y ho b off cells hx hy ht hi h1 h
theorem Blk.farCells {g':Nat} {t:TypeId} {cs:Array Value} {g:Nat} : ∀(vs:List Value) (o:Nat) {w:World},Blk w g' t cs→g'≠g→Blk (w.setCells g o vs) g' t cs
 | [],_,_,h,_=>h
 | v :: vs,o,_,h,hn=>Blk.farCells vs (o+1) (h.far (p:=⟨g,o,none⟩) hn v) hn
theorem Room.there {w:World} {g:Nat} {e:TypeId} {m:Nat} (h:Room w g e m) {o n:Nat} (hn:o+n≤m):w.there g o n:=fun j hj=>by
 obtain ⟨u,hu⟩:=h.cell (i:=o+j) (by omega);exact ⟨by rw [hu];rfl,h.frozen _⟩
theorem Blk.range {w:World} {g:Nat} {t:TypeId} {cs:Array Value} (h:Blk w g t cs):w.rangeAt g 0 cs.toList:=fun j v hv=>by
 rw [Nat.zero_add,h.cell];simpa using hv
theorem Blk.there {w:World} {g:Nat} {t:TypeId} {cs:Array Value} (h:Blk w g t cs):w.there g 0 cs.size:=fun j hj=>by
 rw [Nat.zero_add];exact ⟨by rw [h.cell,Array.getElem?_eq_getElem hj];rfl,h.frozen j⟩
theorem Below.setCells' {B:Nat} {a:World} {g:Nat} : ∀(vs:List Value) (o:Nat) {b:World},Below B a b→B≤g→Below B a (b.setCells g o vs)
 | [],_,_,h,_=>h
 | v :: vs,o,_,h,hg=>Below.setCells' vs (o+1) (h.setCell (show B≤(⟨g,o,none⟩:Addr).block from hg) v) hg
theorem results_cell_tmp {P:Program} {fn:Func} {t s:Tmp} {T:TypeId} (h:fn.results = #[.cell t T,.tmp s]) (tmps:Array Value) (w:World) (g:Nat) (cs:List Value) (d:TypeDesc) (ht:tmps.getD t undef = .pointer (some ⟨g,0,none⟩)) (hc:w.rangeAt g 0 cs)
 (hu:P.underlying T=some d) (hd:d.isRow=true) (hi:(P.info? T).map (·.size)=some cs.length):(results fn tmps).run P w = .ok (.tuple #[.agg cs.toArray,tmps.getD s undef]) w:=by
 have hl:=run_loadVar_mid (P:=P) w g 0 T cs d hc hu hd hi;(have ht':tmps[t]?.getD undef = .pointer (some ⟨g,0,none⟩):=by simpa using ht);simp [results,h,ht',asAddr,hl]
theorem results_cell {P:Program} {fn:Func} {t:Tmp} {T:TypeId} (h:fn.results = #[.cell t T]) (tmps:Array Value) (w:World) (g:Nat) (cs:List Value) (d:TypeDesc) (ht:tmps.getD t undef = .pointer (some ⟨g,0,none⟩)) (hc:w.rangeAt g 0 cs)
 (hu:P.underlying T=some d) (hd:d.isRow=true) (hi:(P.info? T).map (·.size)=some cs.length):(results fn tmps).run P w = .ok (.agg cs.toArray) w:=by
 have hl:=run_loadVar_mid (P:=P) w g 0 T cs d hc hu hd hi;(have ht':tmps[t]?.getD undef = .pointer (some ⟨g,0,none⟩):=by simpa using ht);simp [results,h,ht',asAddr,hl]
theorem RowRd.range {α:Type} {w:World} {size c:Nat} {cells:α→List Value} {A:Option Addr} {l:List α} (h:RowRd w size cells A c l) {k:Nat} (hk:k<l.length) : ∃b off,A=some ⟨b,off,none⟩∧b<w.heap.size∧w.rangeAt b (off+k*size) (cells l[k]):=by
 obtain ⟨b,off,h1,h2,h3⟩:=h.at_ hk;exact ⟨b,off,h1,h2,fun j v hv=>h3 j v hv⟩
theorem rangeAt_below {w w':World} {B g o:Nat} {cs:List Value} (h:w.rangeAt g o cs) (hb:Below B w w') (hg:g<B):w'.rangeAt g o cs:=fun j v hv=>(hb.cell (p:=⟨g,o+j,none⟩) hg).trans (h j v hv)
end
section
open Go.RowKit
variable {P:Program} {α:Type}
section
variable {J Jx:(Nat→Prop)→List α→World→Prop} {D E E':Nat→Prop} {W X Y:World} {pre xs:List α}
end
theorem wpListIn_app {F:Fence} {n1:Nat} (w:World) {ops:Array Oper} {rest:List Oper} {o:Oper} {a:Go.Act} {Q:Exit→Go.Act→World→Prop} (hgd:o.guard=none) (s x:Operand) (t:TypeId)
 (ho:o.op = .call { callee:=.builtin .append,args:=#[s,x],argTypes:=#[t,t] })
 (e:TypeId) (i:TypeInfo) (z:Value) (size bytes:Nat) (ht:P.underlying t=some (.slice e)) (hi:P.info? e=some i) (hz:i.zero=some z)
 (hsize:i.size=size) (hby:i.bytes=bytes) (hzs:z.cells.size=size) (hsz:0<size)
 (v:Value) (n:Nat) (xs:List Value) (hs:a.eval s=v) (hown:w.ownsRow 0 e size v n xs)
 (A:Option Addr) (m c:Nat) (news:List Value) (hx:a.eval x = .slice A m c) (hl:news.length=m*size)
 (hnews:0<m→∃ad,A=some ad∧∀j u,news[j]? = some u→w.cell? (ad.add j)=some u) (h1 : ∀u∈news,u.oneCell'=true)
 (h63:n+m≤maxLen) (hbytes:(n+m)*bytes≤140737488355328)
 (h : ∀v' w',w'.ownsRow 0 e size v' (n+m) (xs++news)→w.grownBy w' v.ownBlock→(v' = .slice none 0 0↔v = .slice none 0 0∧m=0)→(v'.ownBlock=v.ownBlock∨v'.ownBlock=some w.heap.size)→wpListIn F n1 P ops Q rest (a.put o.dst v') w') :
 wpListIn F n1 P ops Q (o :: rest) a w:=by
 refine wpListIn_plain hgd fun K hK'=>?_;obtain ⟨v',w',hrun,r1,r2,r3,r4⟩:=run_append_src (P:=P) w t o.type e i z size bytes ht hi hz hsize hby hzs hsz v n xs hown A m c news hl hnews h1 h63 hbytes;unfold Oper.wpIn;refine ⟨?_,?_⟩
 · simp [Oper.about,ho,resolve,Target.leads,Sem.run_pure]
 · rw [Oper.semAt_plain F _ _ (by rw [ho];intro c hc';cases hc')]
   simp [execOp,ho,resolve,invoke,builtin,hs,hx,hrun,Result.andThen];exact hK' _ _ (h v' w' r1 r2 r3 r4)
theorem size_setCells (b:Nat) : ∀(vs:List Value) (o:Nat) (w:World),(w.setCells b o vs).heap.size=w.heap.size
 | [],_,_=>rfl
 | v :: r,o,w=>by rw [World.setCells,size_setCells b r (o+1)];simp [World.setCell]
theorem Blk.setCells_ {g:Nat} {t:TypeId} : ∀(vs:List Value) (o:Nat) {w:World} {cs:Array Value},Blk w g t cs→∃cs',Blk (w.setCells g o vs) g t cs'∧cs'.size=cs.size
 | [],_,_,cs,h=>⟨cs,h,rfl⟩
 | v :: vs,o,w,cs,h=>by
   obtain ⟨cs',h1,h2⟩:=Blk.setCells_ vs (o+1) (h.set_ o v);exact ⟨cs',h1,by rw [h2];simp⟩
theorem kept_blk {w W:World} {t:TypeId} {zs vs:List Value} (hl:zs.length=vs.length) (hW:W=(w.alloc (.cells zs.toArray t)).setCells w.heap.size 0 vs) (hr:W.rangeAt w.heap.size 0 vs):Blk W w.heap.size t vs.toArray:=by
 obtain ⟨cs',h1,h2⟩:=Blk.setCells_ vs 0 (Blk.new w t zs.toArray);rw [← hW] at h1
 have e:cs'=vs.toArray:=by
  apply Array.ext
  · rw [h2];simpa using hl
  · intro i hi hj
    (have hj':i<vs.length:=by simpa using hj);have h3:=hr i vs[i] (List.getElem?_eq_getElem hj');rw [show (0+i)=i by omega,h1.cell i,Array.getElem?_eq_getElem hi] at h3;simpa using h3
 rw [← e];exact h1
theorem grown_own {E:Nat→Prop} {X Y:World} {e:TypeId} {size n m:Nat} {A:Option Addr} {c:Nat} {v':Value} {xs news:List Value} (hA:AIn A E) (hown':Y.ownsRow 0 e size v' (n+m) (xs++news)) (hg:X.grownBy Y (Value.slice A n c).ownBlock)
 (hat:v'.ownBlock=(Value.slice A n c).ownBlock∨v'.ownBlock=some X.heap.size) : ∃A' c',v' = .slice A' (n+m) c'∧Fr E X Y∧AIn A' (Plus E X Y)∧Y.ownsRow 0 e size (.slice A' (n+m) c') (n+m) (xs++news):=by
 obtain ⟨A',c',rfl,hc,_,hz⟩:=own_form2 hown';refine ⟨A',c',rfl,(Fr.refl E X).grown hg (fun k hk=>?_),fun a ha=>?_,hown'⟩
 · rcases A with _ | a
   · simp [Value.ownBlock] at hk
   · have e:a.block=k:=by simpa [Value.ownBlock] using hk
     exact .inl (e ▸ hA a rfl)
 · subst ha
   rcases hat with h | h
   · rcases A with _ | b
     · simp [Value.ownBlock] at h
     · have e:a.block=b.block:=by simpa [Value.ownBlock] using h
       exact .inl (e ▸ hA b rfl)
   · have e:a.block=X.heap.size:=by simpa [Value.ownBlock] using h
     refine .inr ⟨by omega,?_⟩;rcases ownsRow_form hown' with ⟨hv,_⟩ | ⟨g,cap,hv,_,_,hr,_⟩
     · cases hv
     · injection hv with hv
       injection hv with hv;subst hv;exact hr.lt
end
section
open Go.RowKit
abbrev zPgS (k:Sym):PgS:=⟨k,0⟩
theorem bkat_PgS (k:Sym) (w:World):Calls Tryz.prog 147 #[.agg #[.int .i64 k.kind,.string k.text,.int .i64 k.n]] w fun e w'=>e = .returned (.agg #[.int .i64 k.kind,.string k.text,.int .i64 k.n,.int .i64 0])∧Below w.heap.size w w':=by
 obtain ⟨W,hW⟩ : ∃W,W=(w.alloc (.cells #[.int .i64 k.kind,.string k.text,.int .i64 k.n] 23)).alloc (.cells #[.int .i64 0,.string ⟨#[]⟩,.int .i64 0,.int .i64 0] 224):=⟨_,rfl⟩;(have hK:Blk W w.heap.size 23 #[.int .i64 k.kind,.string k.text,.int .i64 k.n]:=by rw [hW];exact (Blk.new _ _ _).alloc _);(have hR:Blk W (w.heap.size+1) 224 #[.int .i64 0,.string ⟨#[]⟩,.int .i64 0,.int .i64 0]:=by rw [hW];have hh:=Blk.new (w.alloc (.cells #[.int .i64 k.kind,.string k.text,.int .i64 k.n] 23)) 224 #[.int .i64 0,.string ⟨#[]⟩,.int .i64 0,.int .i64 0];simp only [World.size_alloc] at hh;exact hh);(have hB:Below w.heap.size w W:=by rw [hW];exact ((Below.refl _ _).alloc (Nat.le_refl _) _).alloc (by simp) _);have ht:W.there (w.heap.size+1) 0 (#[.int .i64 k.kind,.string k.text,.int .i64 k.n,.int .i64 0]:Array Value).size:=hR.there;have HT:=Lib.hid ht;have HB:=Lib.hid hB;obtain ⟨k0,k1,k2⟩:=hK.c3;have kz:=hK.lt;clear ht hR hB hK;go_enter Tryz.func147,Tryz.ntmps147;(go_upto_region 1 with (fail));rw [← hW];clear hW;(go_wp2_with (with_reducible refine wpList_store_mid rfl 224 _ _ rfl (w.heap.size+1) 0 #[.int .i64 k.kind,.string k.text,.int .i64 k.n,.int .i64 0] rfl rfl HT.out (by kernel_rfl) (by kernel_rfl) ?_));(try simp only [Exit.inBlock,Exit.then]);refine bodyPost_ret (v:=.agg #[.int .i64 k.kind,.string k.text,.int .i64 k.n,.int .i64 0]) ?_ rfl ⟨rfl,Below.setCells' _ _ HB.out (by omega)⟩;exact results_cell (t:=2) (T:=224) rfl _ _ (w.heap.size+1) [.int .i64 k.kind,.string k.text,.int .i64 k.n,.int .i64 0] _ rfl (World.rangeAt_setCells_same W (w.heap.size+1) 0 [.int .i64 k.kind,.string k.text,.int .i64 k.n,.int .i64 0] HT.out) Tryz.underlying224 rfl (by kernel_rfl)
theorem bknew_PgS (w:World):Calls Tryz.prog 100 #[] w fun e w'=>∃bm bp sn A c,e = .returned (.pointer (some ⟨bm,0,none⟩))∧w.heap.size≤bm∧w.heap.size≤bp∧AIn A (w.heap.size≤·)∧Blk w' bm 226 #[.pointer (some ⟨bp,0,none⟩)]∧PgSSet w' bp sn A c []∧Below w.heap.size w w':=by
 go_enter Tryz.func100,Tryz.ntmps100;(go_wp2_with fail);refine (new_PgS none 0 [] _ (RowRd.nil _ _ _) (by simp)).mono ?_;rintro e w1 ⟨bp,rfl,hbp,sn,A,c,hS,hA,hB⟩;have HS:=Lib.hid hS;have HB:=Lib.hid hB;clear hS hB;(go_wp2_with fail);go_ret;have hb9:Below w1.heap.size w1 (w1.alloc (.cells #[.pointer (some ⟨bp,0,none⟩)] 226)):=(Below.refl _ _).alloc (Nat.le_refl _) _;exact ⟨w1.heap.size,bp,sn,A,c,rfl,HB.out.size,hbp,hA,Blk.new _ _ _,HS.out.new_ hb9,HB.out.trans (hb9.mono HB.out.size)⟩
theorem bkget_no_PgS (bm bp cc:Nat) (sn:Bool) (A:Option Addr) (m:List PgS) (k:Sym) (w:World) (hM:Blk w bm 226 #[.pointer (some ⟨bp,0,none⟩)]) (hS:PgSSet w bp sn A cc m) (hs:Srt cmpPgS m) (hl:(m.length:Int)≤1000000) (hh:has cmpPgS m (zPgS k)=false) :
 Calls Tryz.prog 103 #[.pointer (some ⟨bm,0,none⟩),.agg #[.int .i64 k.kind,.string k.text,.int .i64 k.n]] w fun e w'=>e = .returned (.tuple #[.int .i64 0,.bool false])∧Below w.heap.size w w':=by
 have s0:=hM.c1;have hml:=hM.lt;have HS:=Lib.hid hS;have HO:=Lib.hid hs;have HM:=Lib.hid hM;have HH:=Lib.hid hh;clear hS hs hM hh;go_enter Tryz.func103,Tryz.ntmps103;(go_upto_region 4 with (fail));obtain ⟨W0,hW0⟩ : ∃W0,W0=w.alloc (.cells #[.int .i64 k.kind,.string k.text,.int .i64 k.n] 23):=⟨_,rfl⟩;(have hB0:Below w.heap.size w W0:=by rw [hW0];exact (Below.refl _ _).alloc (Nat.le_refl _) _);(have hbx:Blk W0 w.heap.size 23 #[.int .i64 k.kind,.string k.text,.int .i64 k.n]:=by rw [hW0];exact Blk.new _ _ _);have hz0:w.heap.size<W0.heap.size:=hbx.lt;rw [← hW0];clear hW0;have s1:=(hB0.cell (p:=⟨bm,0,none⟩) hml).trans s0;clear s0;obtain ⟨k0,k1,k2⟩:=hbx.c3;have HS0:=Lib.hid (HS.out.new_ hB0);have HM0:=Lib.hid (HM.out.new_ hB0);have HX0:=Lib.hid hbx;have HB0:=Lib.hid hB0;(have hml0:bm<W0.heap.size:=by omega);clear hB0 hbx HS HM
 go_cut [7,8] from 12 (fun p b wc=>b = .bool false∧Below W0.heap.size W0 wc∧∃g,p = .pointer (some ⟨g,0,none⟩)∧W0.heap.size≤g∧g<wc.heap.size∧wc.rangeAt g 0 [.int .i64 0,.string ⟨#[]⟩,.int .i64 0,.int .i64 0])
 case first=>
  refine wp_region_Pl (fun w9=>Below W0.heap.size W0 w9) [0,1,2,3,4,7,8,9,12] [3,4] (.fork [(0,0),(1,0),(2,0),(3,1),(4,1)] 5 (.fork [] 6 (.fin [(7,0),(8,0),(9,0),(10,2),(11,2),(12,0)]) 10 (.fin [(6,2),(7,0),(8,0),(9,0),(11,2),(12,0)])) 10 (.fin [(5,2),(6,2),(7,0),(8,0),(9,0),(11,2),(12,0)])) (by kernel_rfl) (by kernel_rfl) (by kernel_rfl) (fun KK hKK=>?_);simp only [wpPl,beside,List.filterMap_cons,List.filterMap_nil,List.getElem?_toArray,List.getElem?_cons_zero,List.getElem?_cons_succ,Option.map_some];have HB:=Lib.hid (Below.refl W0.heap.size W0).drew;obtain ⟨V,hV⟩ : ∃V,V=W0.drew:=⟨_,rfl⟩;rw [← hV] at HB ⊢;clear hV
  repeat' (first
   | ((first | (refine wpY_w ?_ (Or.inl ⟨by rfl,fun w9=>?_⟩) ?_;rotate_left 1;go_simp;with_reducible rfl) | (refine wpY_l ?_ (HB.out) (Or.inl ⟨by rfl,fun w9 hw9=>?_⟩) ?_;rotate_left 1;obtain ⟨hc9,hf9⟩:=bcell hw9;go_simp;with_reducible rfl) | refine wpY_w undef (Or.inr ⟨by rfl,rfl⟩) ?_ | refine wpY_l undef (HB.out) (Or.inr ⟨by rfl,rfl⟩) ?_);go_frame)
   | ((first | refine wpY_es (fun K9 hK9=>?_) | refine wpOp_cs rfl (fun K9 hK9=>?_));refine step_store_el rfl 224 _ _ rfl g 0 #[.int .i64 0,.string ⟨#[]⟩,.int .i64 0,.int .i64 0] rfl rfl (show _ from HK.out.there) (by kernel_rfl) (by kernel_rfl) ?_;show K9 _ (V.setCells g 0 [.int .i64 0,.string ⟨#[]⟩,.int .i64 0,.int .i64 0]);have HR:=Lib.hid (World.rangeAt_setCells_same V g 0 [.int .i64 0,.string ⟨#[]⟩,.int .i64 0,.int .i64 0] (show _ from HK.out.there));have HB:=Lib.hid (Below.setCells' [.int .i64 0,.string ⟨#[]⟩,.int .i64 0,.int .i64 0] 0 HB.out HG.out);obtain ⟨V,hV⟩ : ∃V9,V9=V.setCells g 0 [.int .i64 0,.string ⟨#[]⟩,.int .i64 0,.int .i64 0]:=⟨_,rfl⟩;rw [← hV] at HR HB;rw [← hV];have HL:=Lib.hid (show g<V.heap.size from World.block_lt_of_cell? _ _ (HR.out 0 _ rfl));clear hV;(first | refine hK9 _ _ (HB.out) ?_ | refine hK9 _ _ (fun _=>HB.out) ?_);clear hK9 K9;(try go_frame);try simp only [beside,List.filterMap_nil])
   | ((first | refine wpY_es (fun K9 hK9=>?_) | refine wpOp_cs rfl (fun K9 hK9=>?_));go_simp;(first
     | (refine (bkat_PgS k _).mono ?_;rintro e V ⟨rfl,hb⟩;have HB:=Lib.hid (HB.out.trans (hb.mono HB.out.size));(try have HK:=Lib.hid (HK.out.new_ hb));clear hb)
     | (refine (get_no_PgS bp cc sn A m (zPgS k) _ (HS0.out.new_ (HB.out)) HO.out (by omega) HH.out).mono ?_;rintro e V ⟨rfl,hb⟩;have HB:=Lib.hid (HB.out.trans (hb.mono HB.out.size));(try have HK:=Lib.hid (HK.out.new_ hb));clear hb)
     | (obtain ⟨g,hg⟩ : ∃g,g=V.heap.size:=⟨_,rfl⟩;have hk:=Blk.new V 224 #[.int .i64 0,.string ⟨#[]⟩,.int .i64 0,.int .i64 0];have HG:=Lib.hid (show W0.heap.size≤g by rw [hg];exact HB.out.size);have HB:=Lib.hid (HB.out.alloc HB.out.size (.cells #[.int .i64 0,.string ⟨#[]⟩,.int .i64 0,.int .i64 0] 224));obtain ⟨V,hV⟩ : ∃V9,V9=V.alloc (.cells #[.int .i64 0,.string ⟨#[]⟩,.int .i64 0,.int .i64 0] 224):=⟨_,rfl⟩;rw [← hV,← hg] at hk;rw [← hV] at HB;have HK:=Lib.hid hk;rw [← hV,← hg];clear hV hk hg) | fail);(first | refine hK9 _ _ (HB.out) ?_ | refine hK9 _ _ (fun _=>HB.out) ?_);clear hK9 K9;(try go_frame);try simp only [beside,List.filterMap_nil])
   | (refine wpY_nil ⟨?_,?_⟩) | fail)
  all_goals
   refine wpY_nil ?_;simp only [OnlyN_normal];refine hKK _ _ ?_;clear hKK KK;(go_wp2_with fail);go_meet
   case rel=>exact ⟨rfl,HB.out,g,rfl,HG.out,HL.out,HR.out⟩
 case rest=>
  obtain ⟨rfl,hB,g,rfl,hg,hgl,hr⟩:=hcut;have HB:=Lib.hid hB;have g1:wc.cell? ⟨g,3,none⟩=some (.int .i64 0):=hr 3 _ rfl;clear hB hr s1 k0 k1 k2;(go_wp2_with fail);go_ret2;exact ⟨rfl,HB0.out.trans (HB.out.mono (by omega))⟩
theorem bkget_is_PgS (bm bp cc:Nat) (sn:Bool) (A:Option Addr) (m:List PgS) (k:Sym) (y:PgS) (w:World) (hM:Blk w bm 226 #[.pointer (some ⟨bp,0,none⟩)]) (hS:PgSSet w bp sn A cc m) (hs:Srt cmpPgS m) (hl:(m.length:Int)≤1000000) (hh:has cmpPgS m (zPgS k)=true) (hy:m[rank cmpPgS m (zPgS k)]? = some y) :
 Calls Tryz.prog 103 #[.pointer (some ⟨bm,0,none⟩),.agg #[.int .i64 k.kind,.string k.text,.int .i64 k.n]] w fun e w'=>e = .returned (.tuple #[.int .i64 y.v,.bool true])∧Below w.heap.size w w':=by
 have s0:=hM.c1;have hml:=hM.lt;have HS:=Lib.hid hS;have HO:=Lib.hid hs;have HM:=Lib.hid hM;have HH:=Lib.hid hh;have HY:=Lib.hid hy;clear hy;clear hS hs hM hh;go_enter Tryz.func103,Tryz.ntmps103;(go_upto_region 4 with (fail));obtain ⟨W0,hW0⟩ : ∃W0,W0=w.alloc (.cells #[.int .i64 k.kind,.string k.text,.int .i64 k.n] 23):=⟨_,rfl⟩;(have hB0:Below w.heap.size w W0:=by rw [hW0];exact (Below.refl _ _).alloc (Nat.le_refl _) _);(have hbx:Blk W0 w.heap.size 23 #[.int .i64 k.kind,.string k.text,.int .i64 k.n]:=by rw [hW0];exact Blk.new _ _ _);have hz0:w.heap.size<W0.heap.size:=hbx.lt;rw [← hW0];clear hW0;have s1:=(hB0.cell (p:=⟨bm,0,none⟩) hml).trans s0;clear s0;obtain ⟨k0,k1,k2⟩:=hbx.c3;have HS0:=Lib.hid (HS.out.new_ hB0);have HM0:=Lib.hid (HM.out.new_ hB0);have HX0:=Lib.hid hbx;have HB0:=Lib.hid hB0;(have hml0:bm<W0.heap.size:=by omega);clear hB0 hbx HS HM
 go_cut [7,8] from 12 (fun p b wc=>b = .bool true∧Below W0.heap.size W0 wc∧∃g,p = .pointer (some ⟨g,0,none⟩)∧W0.heap.size≤g∧g<wc.heap.size∧wc.rangeAt g 0 [.int .i64 y.kk.kind,.string y.kk.text,.int .i64 y.kk.n,.int .i64 y.v])
 case first=>
  refine wp_region_Pl (fun w9=>Below W0.heap.size W0 w9) [0,1,2,3,4,7,8,9,12] [3,4] (.fork [(0,0),(1,0),(2,0),(3,1),(4,1)] 5 (.fork [] 6 (.fin [(7,0),(8,0),(9,0),(10,2),(11,2),(12,0)]) 10 (.fin [(6,2),(7,0),(8,0),(9,0),(11,2),(12,0)])) 10 (.fin [(5,2),(6,2),(7,0),(8,0),(9,0),(11,2),(12,0)])) (by kernel_rfl) (by kernel_rfl) (by kernel_rfl) (fun KK hKK=>?_);simp only [wpPl,beside,List.filterMap_cons,List.filterMap_nil,List.getElem?_toArray,List.getElem?_cons_zero,List.getElem?_cons_succ,Option.map_some];have HB:=Lib.hid (Below.refl W0.heap.size W0).drew;obtain ⟨V,hV⟩ : ∃V,V=W0.drew:=⟨_,rfl⟩;rw [← hV] at HB ⊢;clear hV
  repeat' (first
   | ((first | (refine wpY_w ?_ (Or.inl ⟨by rfl,fun w9=>?_⟩) ?_;rotate_left 1;go_simp;with_reducible rfl) | (refine wpY_l ?_ (HB.out) (Or.inl ⟨by rfl,fun w9 hw9=>?_⟩) ?_;rotate_left 1;obtain ⟨hc9,hf9⟩:=bcell hw9;go_simp;with_reducible rfl) | refine wpY_w undef (Or.inr ⟨by rfl,rfl⟩) ?_ | refine wpY_l undef (HB.out) (Or.inr ⟨by rfl,rfl⟩) ?_);go_frame)
   | ((first | refine wpY_es (fun K9 hK9=>?_) | refine wpOp_cs rfl (fun K9 hK9=>?_));refine step_store_el rfl 224 _ _ rfl g 0 #[.int .i64 y.kk.kind,.string y.kk.text,.int .i64 y.kk.n,.int .i64 y.v] rfl rfl (show _ from HK.out.there) (by kernel_rfl) (by kernel_rfl) ?_;show K9 _ (V.setCells g 0 [.int .i64 y.kk.kind,.string y.kk.text,.int .i64 y.kk.n,.int .i64 y.v]);have HR:=Lib.hid (World.rangeAt_setCells_same V g 0 [.int .i64 y.kk.kind,.string y.kk.text,.int .i64 y.kk.n,.int .i64 y.v] (show _ from HK.out.there));have HB:=Lib.hid (Below.setCells' [.int .i64 y.kk.kind,.string y.kk.text,.int .i64 y.kk.n,.int .i64 y.v] 0 HB.out HG.out);obtain ⟨V,hV⟩ : ∃V9,V9=V.setCells g 0 [.int .i64 y.kk.kind,.string y.kk.text,.int .i64 y.kk.n,.int .i64 y.v]:=⟨_,rfl⟩;rw [← hV] at HR HB;rw [← hV];have HL:=Lib.hid (show g<V.heap.size from World.block_lt_of_cell? _ _ (HR.out 0 _ rfl));clear hV;(first | refine hK9 _ _ (HB.out) ?_ | refine hK9 _ _ (fun _=>HB.out) ?_);clear hK9 K9;(try go_frame);try simp only [beside,List.filterMap_nil])
   | ((first | refine wpY_es (fun K9 hK9=>?_) | refine wpOp_cs rfl (fun K9 hK9=>?_));go_simp;(first
     | (refine (bkat_PgS k _).mono ?_;rintro e V ⟨rfl,hb⟩;have HB:=Lib.hid (HB.out.trans (hb.mono HB.out.size));(try have HK:=Lib.hid (HK.out.new_ hb));clear hb)
     | (refine (get_is_PgS bp cc sn A m (zPgS k) y _ (HS0.out.new_ (HB.out)) HO.out (by omega) HH.out HY.out).mono ?_;rintro e V ⟨rfl,hb⟩;have HB:=Lib.hid (HB.out.trans (hb.mono HB.out.size));(try have HK:=Lib.hid (HK.out.new_ hb));clear hb)
     | (obtain ⟨g,hg⟩ : ∃g,g=V.heap.size:=⟨_,rfl⟩;have hk:=Blk.new V 224 #[.int .i64 0,.string ⟨#[]⟩,.int .i64 0,.int .i64 0];have HG:=Lib.hid (show W0.heap.size≤g by rw [hg];exact HB.out.size);have HB:=Lib.hid (HB.out.alloc HB.out.size (.cells #[.int .i64 0,.string ⟨#[]⟩,.int .i64 0,.int .i64 0] 224));obtain ⟨V,hV⟩ : ∃V9,V9=V.alloc (.cells #[.int .i64 0,.string ⟨#[]⟩,.int .i64 0,.int .i64 0] 224):=⟨_,rfl⟩;rw [← hV,← hg] at hk;rw [← hV] at HB;have HK:=Lib.hid hk;rw [← hV,← hg];clear hV hk hg) | fail);(first | refine hK9 _ _ (HB.out) ?_ | refine hK9 _ _ (fun _=>HB.out) ?_);clear hK9 K9;(try go_frame);try simp only [beside,List.filterMap_nil])
   | (refine wpY_nil ⟨?_,?_⟩) | fail)
  all_goals
   refine wpY_nil ?_;simp only [OnlyN_normal];refine hKK _ _ ?_;clear hKK KK;(go_wp2_with fail);go_meet
   case rel=>exact ⟨rfl,HB.out,g,rfl,HG.out,HL.out,HR.out⟩
 case rest=>
  obtain ⟨rfl,hB,g,rfl,hg,hgl,hr⟩:=hcut;have HB:=Lib.hid hB;have g1:wc.cell? ⟨g,3,none⟩=some (.int .i64 y.v):=hr 3 _ rfl;clear hB hr s1 k0 k1 k2;(go_wp2_with fail);go_ret2;exact ⟨rfl,HB0.out.trans (HB.out.mono (by omega))⟩
end
section
open Go.RowKit
theorem Moved.of_PgS {a b:World} (h:Below a.heap.size a b) {sn sn':Bool} {A A':Option Addr} (hm:Moved b sn A sn' A'):Moved a sn A sn' A':=
 hm.imp id (fun ⟨h1,g,h2,h3⟩=>⟨h1,g,by have:=h.size;omega,h3⟩)
theorem bkput_PgS (bm bp cc:Nat) (sn:Bool) (A:Option Addr) (m:List PgS) (k:Sym) (xv:Int) (w:World) (hM:Blk w bm 226 #[.pointer (some ⟨bp,0,none⟩)]) (hS:PgSSet w bp sn A cc m) (hs:Srt cmpPgS m) (hl:(m.length:Int)≤1000000) (hh:has cmpPgS m (zPgS k)=false) :
 Calls Tryz.prog 145 #[.pointer (some ⟨bm,0,none⟩),.agg #[.int .i64 k.kind,.string k.text,.int .i64 k.n],.int .i64 xv] w fun e w'=>e = .returned (.bool true)∧∃sn' A' c',PgSSet w' bp sn' A' c' (put cmpPgS m ⟨k,xv⟩)∧Fr (SetMod bp sn A) w w'∧Moved w sn A sn' A':=by
 have hh0:has cmpPgS m ⟨k,xv⟩=false:=hh;have s0:=hM.c1;have hml:=hM.lt;have HS:=Lib.hid hS;have HO:=Lib.hid hs;have HM:=Lib.hid hM;have HH:=Lib.hid hh;have HH0:=Lib.hid hh0;clear hS hs hM hh hh0;go_enter Tryz.func145,Tryz.ntmps145;(go_upto_region 3 with (fail));obtain ⟨W0,hW0⟩ : ∃W0,W0=w.alloc (.cells #[.int .i64 k.kind,.string k.text,.int .i64 k.n] 23):=⟨_,rfl⟩;(have hB0:Below w.heap.size w W0:=by rw [hW0];exact (Below.refl _ _).alloc (Nat.le_refl _) _);(have hbx:Blk W0 w.heap.size 23 #[.int .i64 k.kind,.string k.text,.int .i64 k.n]:=by rw [hW0];exact Blk.new _ _ _);have hz0:w.heap.size<W0.heap.size:=hbx.lt;rw [← hW0];clear hW0;have s1:=(hB0.cell (p:=⟨bm,0,none⟩) hml).trans s0;clear s0;obtain ⟨k0,k1,k2⟩:=hbx.c3;have HS0:=Lib.hid (HS.out.new_ hB0);have HM0:=Lib.hid (HM.out.new_ hB0);have HX0:=Lib.hid hbx;have HB0:=Lib.hid hB0;(have hml0:bm<W0.heap.size:=by omega);clear hB0 hbx HS HM
 go_cut [8] from 11 (fun b wc=>b = .bool false∧Below W0.heap.size W0 wc)
 case first=>
  refine wp_region_Pl (fun w9=>Below W0.heap.size W0 w9) [0,1,2,3,4,7,8,9,12] [3,4] (.fork [(0,0),(1,0),(2,0),(3,1),(4,1)] 5 (.fork [] 6 (.fin [(7,0),(8,0),(9,0),(10,2),(11,2),(12,0)]) 10 (.fin [(6,2),(7,0),(8,0),(9,0),(11,2),(12,0)])) 10 (.fin [(5,2),(6,2),(7,0),(8,0),(9,0),(11,2),(12,0)])) (by kernel_rfl) (by kernel_rfl) (by kernel_rfl) (fun KK hKK=>?_);simp only [wpPl,beside,List.filterMap_cons,List.filterMap_nil,List.getElem?_toArray,List.getElem?_cons_zero,List.getElem?_cons_succ,Option.map_some];have HB:=Lib.hid (Below.refl W0.heap.size W0).drew;obtain ⟨V,hV⟩ : ∃V,V=W0.drew:=⟨_,rfl⟩;rw [← hV] at HB ⊢;clear hV
  repeat' (first
   | ((first | (refine wpY_w ?_ (Or.inl ⟨by rfl,fun w9=>?_⟩) ?_;rotate_left 1;go_simp;with_reducible rfl) | (refine wpY_l ?_ (HB.out) (Or.inl ⟨by rfl,fun w9 hw9=>?_⟩) ?_;rotate_left 1;obtain ⟨hc9,hf9⟩:=bcell hw9;go_simp;with_reducible rfl) | refine wpY_w undef (Or.inr ⟨by rfl,rfl⟩) ?_ | refine wpY_l undef (HB.out) (Or.inr ⟨by rfl,rfl⟩) ?_);go_frame)
   | ((first | refine wpY_es (fun K9 hK9=>?_) | refine wpOp_cs rfl (fun K9 hK9=>?_));refine step_store_el rfl 224 _ _ rfl g 0 #[.int .i64 0,.string ⟨#[]⟩,.int .i64 0,.int .i64 0] rfl rfl (show _ from HK.out.there) (by kernel_rfl) (by kernel_rfl) ?_;show K9 _ (V.setCells g 0 [.int .i64 0,.string ⟨#[]⟩,.int .i64 0,.int .i64 0]);have HR:=Lib.hid (World.rangeAt_setCells_same V g 0 [.int .i64 0,.string ⟨#[]⟩,.int .i64 0,.int .i64 0] (show _ from HK.out.there));have HB:=Lib.hid (Below.setCells' [.int .i64 0,.string ⟨#[]⟩,.int .i64 0,.int .i64 0] 0 HB.out HG.out);obtain ⟨V,hV⟩ : ∃V9,V9=V.setCells g 0 [.int .i64 0,.string ⟨#[]⟩,.int .i64 0,.int .i64 0]:=⟨_,rfl⟩;rw [← hV] at HR HB;rw [← hV];have HL:=Lib.hid (show g<V.heap.size from World.block_lt_of_cell? _ _ (HR.out 0 _ rfl));clear hV;(first | refine hK9 _ _ (HB.out) ?_ | refine hK9 _ _ (fun _=>HB.out) ?_);clear hK9 K9;(try go_frame);try simp only [beside,List.filterMap_nil])
   | ((first | refine wpY_es (fun K9 hK9=>?_) | refine wpOp_cs rfl (fun K9 hK9=>?_));go_simp;(first
     | (refine (bkat_PgS k _).mono ?_;rintro e V ⟨rfl,hb⟩;have HB:=Lib.hid (HB.out.trans (hb.mono HB.out.size));(try have HK:=Lib.hid (HK.out.new_ hb));clear hb)
     | (refine (get_no_PgS bp cc sn A m (zPgS k) _ (HS0.out.new_ (HB.out)) HO.out (by omega) HH.out).mono ?_;rintro e V ⟨rfl,hb⟩;have HB:=Lib.hid (HB.out.trans (hb.mono HB.out.size));(try have HK:=Lib.hid (HK.out.new_ hb));clear hb)
     | (obtain ⟨g,hg⟩ : ∃g,g=V.heap.size:=⟨_,rfl⟩;have hk:=Blk.new V 224 #[.int .i64 0,.string ⟨#[]⟩,.int .i64 0,.int .i64 0];have HG:=Lib.hid (show W0.heap.size≤g by rw [hg];exact HB.out.size);have HB:=Lib.hid (HB.out.alloc HB.out.size (.cells #[.int .i64 0,.string ⟨#[]⟩,.int .i64 0,.int .i64 0] 224));obtain ⟨V,hV⟩ : ∃V9,V9=V.alloc (.cells #[.int .i64 0,.string ⟨#[]⟩,.int .i64 0,.int .i64 0] 224):=⟨_,rfl⟩;rw [← hV,← hg] at hk;rw [← hV] at HB;have HK:=Lib.hid hk;rw [← hV,← hg];clear hV hk hg) | fail);(first | refine hK9 _ _ (HB.out) ?_ | refine hK9 _ _ (fun _=>HB.out) ?_);clear hK9 K9;(try go_frame);try simp only [beside,List.filterMap_nil])
   | (refine wpY_nil ⟨?_,?_⟩) | fail)
  all_goals
   refine wpY_nil ?_;simp only [OnlyN_normal];refine hKK _ _ ?_;clear hKK KK;(go_wp2_with fail);go_meet
   case rel=>exact ⟨rfl,HB.out⟩
 case rest=>
  obtain ⟨rfl,hB⟩:=hcut;have r0:=(HM0.out.new_ hB).c1;have hX:=HX0.out.new_ hB;have hml2:=(HM0.out.new_ hB).lt;have hxl2:=hX.lt;have HB:=Lib.hid hB;have HS2:=Lib.hid (HS0.out.new_ hB);clear s1 k0 k1 k2;obtain ⟨k0,k1,k2⟩:=hX.c3;clear hB hX;(go_wp2_with fail);refine wp_region_E (fun w9=>Below wc.heap.size wc w9) [(0,0),(1,0),(2,0),(3,1),(4,1),(5,0),(6,0),(7,2),(8,0)] (by kernel_rfl) (by kernel_rfl) (fun KK hKK=>?_);simp only [beside,List.filterMap_cons,List.filterMap_nil,List.getElem?_toArray,List.getElem?_cons_zero,List.getElem?_cons_succ,Option.map_some];(repeat ((first | (refine wpX_w ?_ (Or.inl ⟨by rfl,fun w9=>?_⟩) ?_;rotate_left 1;go_simp;with_reducible rfl) | (refine wpX_l ?_ (((Below.refl _ _).drew)) (Or.inl ⟨by rfl,fun w9 hw9=>?_⟩) ?_;rotate_left 1;obtain ⟨hc9,hf9⟩:=bcell hw9;go_simp;with_reducible rfl) | refine wpX_w undef (Or.inr ⟨by rfl,rfl⟩) ?_ | refine wpX_l undef (((Below.refl _ _).drew)) (Or.inr ⟨by rfl,rfl⟩) ?_);go_frame));refine wpX_e (by kernel_rfl) (fun K9 hK9=>?_);go_simp;refine (put_PgS bp cc sn A m ⟨k,xv⟩ _ (HS2.out.new_ ((Below.refl _ _).drew)) HO.out (by omega)).mono ?_;rintro e w5 ⟨rfl,hch⟩;have HP:=Lib.hid hch;clear hch;refine hK9 _ _ ?_;clear hK9 K9;(repeat ((first | (refine wpX_w ?_ (Or.inl ⟨by rfl,fun w9=>?_⟩) ?_;rotate_left 1;go_simp;with_reducible rfl) | (refine wpX_l ?_ (((Below.refl _ _).drew)) (Or.inl ⟨by rfl,fun w9 hw9=>?_⟩) ?_;rotate_left 1;obtain ⟨hc9,hf9⟩:=bcell hw9;go_simp;with_reducible rfl) | refine wpX_w undef (Or.inr ⟨by rfl,rfl⟩) ?_ | refine wpX_l undef (((Below.refl _ _).drew)) (Or.inr ⟨by rfl,rfl⟩) ?_);go_frame));refine wpX_nil ?_;simp only [OnlyN_normal];refine hKK _ _ ?_;clear hKK KK;(go_wp2_with fail);go_ret;have hBB:Below w.heap.size w wc:=HB0.out.trans (HB.out.mono (by omega));obtain ⟨sn',A',c',g1,g2,g3⟩:=HP.out;refine ⟨by rw [HH0.out]<;>rfl,sn',A',c',g1,(Fr.of_new hBB).trans ((Fr.refl _ wc).drew.trans g2),Moved.of_PgS hBB g3⟩
end
section
open Go.RowKit Go.Shelf
attribute [local go_sem] Oper.semAt_some
theorem plV_nodup : ∀{ns:List Sym},ns.Nodup→∀{i:Nat} {s:Sym},ns[i]? = some s→plV ns s=i+1
 | [],_,i,s,h=>by simp at h
 | x :: l,hn,0,s,h=>by rw [plV,if_pos (by simpa using h)]
 | x :: l,hn,i+1,s,h=>by
   obtain ⟨h1,h2⟩:=List.nodup_cons.1 hn;(have e2:l[i]? = some s:=by simpa using h);have hne:x≠s:=fun e=>h1 (by rw [e];exact List.mem_of_getElem? e2);have ih:=plV_nodup h2 e2;rw [plV,if_neg hne,ih,if_neg (by omega)]
structure MapN (mm:List PgS) (ns:List Sym):Prop where
 srt:Srt cmpPgS mm
 len:mm.length=ns.length
 nodup:ns.Nodup
 mem : ∀y,y∈mm↔∃i:Nat,ns[i]? = some y.kk∧y.v=(i:Int)+1
theorem MapN.nil:MapN [] []:=⟨Srt.nil,rfl,.nil,fun y=>by simp⟩
theorem MapN.has {mm:List PgS} {ns:List Sym} (h:MapN mm ns) (s:Sym) (z:Int):has cmpPgS mm ⟨s,z⟩=decide (s∈ns):=by
 by_cases hv:s∈ns
 · rw [decide_eq_true hv,has_iff]
   obtain ⟨i,hi,e⟩:=List.getElem_of_mem hv;exact ⟨⟨s,(i:Int)+1⟩,(h.mem _).2 ⟨i,by rw [List.getElem?_eq_getElem hi,e],rfl⟩,cmpPgS_eq.2 rfl⟩
 · rw [decide_eq_false hv,has_false]
   intro y hy e;obtain ⟨i,hi,_⟩:=(h.mem y).1 hy;have e3:y.kk=s:=cmpPgS_eq.1 e;exact hv (by rw [← e3];exact List.mem_of_getElem? hi)
theorem MapN.get {mm:List PgS} {ns:List Sym} (h:MapN mm ns) {s:Sym} {z:Int} (hv:s∈ns) : ∃y,mm[rank cmpPgS mm ⟨s,z⟩]? = some y∧y.v=(plV ns s:Int):=by
 (have hh:Go.Proofs.YtldndkngpdfpfaaGreat.has cmpPgS mm ⟨s,z⟩=true:=by rw [h.has,decide_eq_true hv]);obtain ⟨_,_,hk,e⟩:=drop_eq tc_pgs h.srt hh;refine ⟨_,List.getElem?_eq_getElem hk,?_⟩;obtain ⟨i,hi,e2⟩:=(h.mem _).1 (List.getElem_mem hk);have e3:_=s:=cmpPgS_eq.1 e;rw [e3] at hi;rw [e2,plV_nodup h.nodup hi];omega
theorem MapN.put {mm:List PgS} {ns:List Sym} (h:MapN mm ns) {s:Sym} (hv : ¬s∈ns):MapN (put cmpPgS mm ⟨s,(ns.length:Int)+1⟩) (ns ++ [s]):=by
 (have hh:Go.Proofs.YtldndkngpdfpfaaGreat.has cmpPgS mm ⟨s,(ns.length:Int)+1⟩=false:=by rw [h.has,decide_eq_false hv]);refine ⟨h.srt.put tc_pgs _,by rw [length_put tc_pgs h.srt hh,h.len];simp,List.nodup_append.2 ⟨h.nodup,by simp,fun a ha b hb=>by rw [List.mem_singleton.1 hb];exact fun e=>hv (e ▸ ha)⟩,fun y=>?_⟩
 have hm:y∈Go.Proofs.YtldndkngpdfpfaaGreat.put cmpPgS mm ⟨s,(ns.length:Int)+1⟩↔y=⟨s,(ns.length:Int)+1⟩∨y∈mm:=by
  rw [put_eq tc_pgs h.srt hh,List.mem_append,List.mem_cons];constructor
  · rintro (g | g | g)
    · exact .inr (List.mem_of_mem_take g)
    · exact .inl g
    · exact .inr (List.mem_of_mem_drop g)
  · rintro (g | g)
    · exact .inr (.inl g)
    · rw [← List.take_append_drop (rank cmpPgS mm ⟨s,(ns.length:Int)+1⟩) mm,List.mem_append] at g
      exact g.elim .inl (fun g=>.inr (.inr g))
 rw [hm,h.mem y];constructor
 · rintro (e | ⟨i,hi,e⟩)
   · subst e
     exact ⟨ns.length,by simp,rfl⟩
   · have hl:i<ns.length:=(List.getElem?_eq_some_iff.1 hi).1
     exact ⟨i,by rw [List.getElem?_append_left hl];exact hi,e⟩
 · rintro ⟨i,hi,e⟩
   by_cases hl:i<ns.length
   · exact .inr ⟨i,by rwa [List.getElem?_append_left hl] at hi,e⟩
   · have hi2:i=ns.length:=by
      have:=(List.getElem?_eq_some_iff.1 hi).1;simp at this;omega
     subst hi2;rw [List.getElem?_append_right (Nat.le_refl _)] at hi;simp at hi;obtain ⟨yk,yv⟩:=y;simp only at hi e;subst hi;subst e;exact .inl rfl
theorem own_own_ne {w:World} {b1 b2:Nat} {e1 e2:TypeId} {s1 s2 n m k:Nat} {v u:Value} {xs ys:List Value} (h1:w.ownsRow b1 e1 s1 v n xs) (h2:w.ownsRow b2 e2 s2 u m ys) (hne:e1≠e2) (hk:v.ownBlock=some k):u.ownBlock≠some k:=by
 rcases h2.2 with ⟨rfl,_⟩ | ⟨g,cap,cur,rfl,_,hg,_⟩
 · simp [Value.ownBlock]
 · intro e
   (have:g=k:=by simpa [Value.ownBlock] using e);subst this;exact own_blk_ne h1 (show Blk w g e2 cur from hg) hne hk
structure NM (D:Nat→Prop) (w:World) (nb:Nat) (ns:List Sym) (bm bp:Nat) (sn:Bool) (A:Option Addr) (cc:Nat) (mm:List PgS) (L:Option Addr) (cl:Nat):Prop where
 blk:Blk w nb 148 #[.pointer (some ⟨bm,0,none⟩),.slice L ns.length cl]
 map:Blk w bm 226 #[.pointer (some ⟨bp,0,none⟩)]
 set:PgSSet w bp sn A cc mm
 ok:MapN mm ns
 row:w.ownsRow 0 23 3 (.slice L ns.length cl) ns.length (ns.flatMap Sym.cells)
 dn:D nb
 dm:D bm
 dp:D bp
 da:AIn A D
 dl:AIn L D
 lt : ∀k,D k→k<w.heap.size
def Nm (D:Nat→Prop) (w:World) (nb:Nat) (ns:List Sym):Prop:=∃bm bp sn A cc mm L cl,NM D w nb ns bm bp sn A cc mm L cl
section
variable {D:Nat→Prop} {w w':World} {nb:Nat} {ns:List Sym} {bm bp:Nat} {sn:Bool} {A:Option Addr} {cc:Nat} {mm:List PgS} {L:Option Addr} {cl:Nat}
theorem NM.new_ (h:NM D w nb ns bm bp sn A cc mm L cl) (hb:Below w.heap.size w w'):NM D w' nb ns bm bp sn A cc mm L cl:=
 ⟨h.blk.new_ hb,h.map.new_ hb,h.set.new_ hb,h.ok,ownsRow_new h.row hb,h.dn,h.dm,h.dp,h.da,h.dl,fun k hk=>Nat.lt_of_lt_of_le (h.lt k hk) hb.size⟩
theorem Nm.new_ (h:Nm D w nb ns) (hb:Below w.heap.size w w'):Nm D w' nb ns:=by
 obtain ⟨bm,bp,sn,A,cc,mm,L,cl,h⟩:=h;exact ⟨bm,bp,sn,A,cc,mm,L,cl,h.new_ hb⟩
theorem NM.fr {M:Nat→Prop} (h:NM D w nb ns bm bp sn A cc mm L cl) (hF:Fr M w w') (hM : ∀k,D k→¬M k):NM D w' nb ns bm bp sn A cc mm L cl:=by
 refine ⟨h.blk.fr hF (hM _ h.dn),h.map.fr hF (hM _ h.dm),h.set.fr hF (hM _ h.dp) (h.da.mono hM),h.ok,⟨h.row.1,h.row.2.imp id fun ⟨g,cap,cur,hv,h0,hg,hr⟩=>⟨g,cap,cur,hv,h0,?_,hr⟩⟩,h.dn,h.dm,h.dp,h.da,h.dl,fun k hk=>Nat.lt_of_lt_of_le (h.lt k hk) hF.size⟩;injection hv with hv;exact Blk.fr (t:=23) hg hF (hM _ (h.dl ⟨g,0,none⟩ hv))
theorem Nm.fr {M:Nat→Prop} (h:Nm D w nb ns) (hF:Fr M w w') (hM : ∀k,D k→¬M k):Nm D w' nb ns:=by
 obtain ⟨bm,bp,sn,A,cc,mm,L,cl,h⟩:=h;exact ⟨bm,bp,sn,A,cc,mm,L,cl,h.fr hF hM⟩
theorem Nm.lt (h:Nm D w nb ns) : ∀k,D k→k<w.heap.size:=by
 obtain ⟨bm,bp,sn,A,cc,mm,L,cl,h⟩:=h;exact h.lt
end
theorem mapn_get {mm:List PgS} {ns:List Sym} {bm bp cc:Nat} {sn:Bool} {A:Option Addr} (s:Sym) (w:World) (h1:Blk w bm 226 #[.pointer (some ⟨bp,0,none⟩)]) (h2:PgSSet w bp sn A cc mm) (h3:MapN mm ns) (hl:ns.length≤1000000) :
 Calls Tryz.prog 103 #[.pointer (some ⟨bm,0,none⟩),.agg #[.int .i64 s.kind,.string s.text,.int .i64 s.n]] w fun e w'=>e = .returned (.tuple #[.int .i64 (plV ns s:Int),.bool (decide (s∈ns))])∧Below w.heap.size w w':=by
 (have hlm:(mm.length:Int)≤1000000:=by rw [h3.len];omega);by_cases hv:s∈ns
 · obtain ⟨y,g1,g2⟩:=h3.get (z:=0) hv
   have:=bkget_is_PgS bm bp cc sn A mm s y w h1 h2 h3.srt hlm (by rw [h3.has,decide_eq_true hv]) g1;rw [g2] at this;rw [decide_eq_true hv];exact this
 · have:=bkget_no_PgS bm bp cc sn A mm s w h1 h2 h3.srt hlm (by rw [h3.has,decide_eq_false hv])
   rw [decide_eq_false hv,plV_zero.2 hv];exact this
theorem place_is {D:Nat→Prop} {nb:Nat} {ns:List Sym} (s:Sym) (w:World) (h:Nm D w nb ns) (hl:ns.length≤100000):Calls Tryz.prog 62 #[.pointer (some ⟨nb,0,none⟩),.agg #[.int .i64 s.kind,.string s.text,.int .i64 s.n]] w fun e w'=>e = .returned (.int .i64 (plV ns s:Int))∧Below w.heap.size w w':=by
 obtain ⟨bm,bp,sn,A,cc,mm,L,cl,h⟩:=h;have HG:=Lib.hid (show ∀W,Below w.heap.size w W→_ from fun W hW=>mapn_get s W (h.map.new_ hW) (h.set.new_ hW) h.ok (by omega));have m0:=(h.blk.cell 0).trans rfl;have mz:=h.blk.lt;obtain ⟨r,hr⟩ : ∃r,r=(plV ns s:Int):=⟨_,rfl⟩;obtain ⟨b,hb0⟩ : ∃b,b=decide (s∈ns):=⟨_,rfl⟩;rw [← hr,← hb0] at HG;rw [← hr];clear h hr hb0 hl;go_enter Tryz.func62,Tryz.ntmps62;(go_upto_region 1 with fail);obtain ⟨w1,hw1⟩ : ∃w1,w1=w.alloc (.cells #[.int .i64 s.kind,.string s.text,.int .i64 s.n] 23):=⟨_,rfl⟩;have HB:=Lib.hid (show Below w.heap.size w w1 by rw [hw1];exact (Below.refl _ _).alloc (Nat.le_refl _) _);(have hk:=show Blk w1 w.heap.size 23 #[.int .i64 s.kind,.string s.text,.int .i64 s.n] by rw [hw1];exact Blk.new _ _ _);rw [← hw1];clear hw1;obtain ⟨k0,k1,k2⟩:=hk.c3;have kz:=hk.lt;have m1:=(HB.out.cell (p:=⟨nb,0,none⟩) mz).trans m0;have mz1:=Nat.lt_of_lt_of_le mz HB.out.size;clear hk m0;refine wp_region_E (fun w9=>Below w1.heap.size w1 w9) [(0,0),(1,0),(2,0),(3,1),(4,1),(5,2),(6,0),(7,0),(8,0),(9,0),(10,0)] (by kernel_rfl) (by kernel_rfl) (fun KK hKK=>?_);simp only [beside,List.filterMap_cons,List.filterMap_nil,List.getElem?_toArray,List.getElem?_cons_zero,List.getElem?_cons_succ,Option.map_some];(repeat ((first | (refine wpX_w ?_ (Or.inl ⟨by rfl,fun w9=>?_⟩) ?_;rotate_left 1;go_simp;with_reducible rfl) | (refine wpX_l ?_ (((Below.refl _ _).drew)) (Or.inl ⟨by rfl,fun w9 hw9=>?_⟩) ?_;rotate_left 1;obtain ⟨hc9,hf9⟩:=bcell hw9;go_simp;with_reducible rfl) | refine wpX_w undef (Or.inr ⟨by rfl,rfl⟩) ?_ | refine wpX_l undef (((Below.refl _ _).drew)) (Or.inr ⟨by rfl,rfl⟩) ?_);go_frame));refine wpX_e (by kernel_rfl) (fun K9 hK9=>?_);go_simp;refine (HG.out _ (HB.out.trans (((Below.refl w1.heap.size w1).drew).mono HB.out.size))).mono ?_;rintro e w31 ⟨rfl,hb31⟩;have HB31:=Lib.hid (((Below.refl w1.heap.size w1).drew).trans (hb31.mono (by simp)));clear hb31;refine hK9 _ _ ?_;clear hK9 K9;(repeat ((first | (refine wpX_w ?_ (Or.inl ⟨by rfl,fun w9=>?_⟩) ?_;rotate_left 1;go_simp;with_reducible rfl) | (refine wpX_l ?_ (((Below.refl _ _).drew)) (Or.inl ⟨by rfl,fun w9 hw9=>?_⟩) ?_;rotate_left 1;obtain ⟨hc9,hf9⟩:=bcell hw9;go_simp;with_reducible rfl) | refine wpX_w undef (Or.inr ⟨by rfl,rfl⟩) ?_ | refine wpX_l undef (((Below.refl _ _).drew)) (Or.inr ⟨by rfl,rfl⟩) ?_);go_frame));refine wpX_nil ?_;simp only [OnlyN_normal];refine hKK _ _ ?_;clear hKK KK;clear k0 k1 k2 m1;(go_wp2_with fail);go_ret;exact ⟨rfl,HB.out.trans (HB31.out.mono HB.out.size)⟩
theorem sign_is (a b:Int) (w:World):Calls Tryz.prog 141 #[.int .i64 a,.int .i64 b] w fun e w'=>e = .returned (.int .i64 (cmpInt a b))∧w=w':=by
 go_enter Tryz.func141,Tryz.ntmps141;go_wp2
 all_goals (go_ret;refine ⟨?_,rfl⟩;unfold cmpInt;(repeat' split)<;>first | rfl | (exfalso;omega))
theorem nrank_is {D:Nat→Prop} {nb:Nat} {ns:List Sym} (s:Sym) (w:World) (h:Nm D w nb ns) (hl:ns.length≤100000):Calls Tryz.prog 144 #[.pointer (some ⟨nb,0,none⟩),.agg #[.int .i64 s.kind,.string s.text,.int .i64 s.n]] w fun e w'=>e = .returned (.int .i64 (rkN ns s))∧Below w.heap.size w w':=by
 have HP:=Lib.hid (fun W (hW:Below w.heap.size w W)=>place_is s W (h.new_ hW) hl);have HA:=Lib.hid ((Below.refl w.heap.size w).alloc (Nat.le_refl _) (.cells #[.int .i64 s.kind,.string s.text,.int .i64 s.n] 23));clear h hl;by_cases hk:s.kind=1
 · have HR:=Lib.hid (show rkN ns s=if plV ns s=0 then 2 else 1 by rw [rkN,if_neg (by omega)])
   (have e1:(s.kind != 1)=false:=by simp [hk]);by_cases hp:plV ns s=0
   · have HR:=Lib.hid (show rkN ns s=2 by rw [HR.out,if_pos hp])
     rw [hp] at HP;clear hk hp;go_enter Tryz.func144,Tryz.ntmps144;(go_wp2_with fail);refine (HP.out _ HA.out).mono ?_;rintro e w2 ⟨rfl,hb⟩;have HB:=Lib.hid (HA.out.trans (hb.mono (by simp)));clear hb;(go_wp2_with fail);go_ret;exact ⟨by rw [HR.out]<;>rfl,HB.out⟩
   · have HR:=Lib.hid (show rkN ns s=1 by rw [HR.out,if_neg hp])
     obtain ⟨r,hr⟩ : ∃r,r=plV ns s:=⟨_,rfl⟩;rw [← hr] at HP;(have r1:(0:Int)<(r:Int):=by omega);(have r2:0<r:=by omega);clear hk hp hr;go_enter Tryz.func144,Tryz.ntmps144;(go_wp2_with fail);refine (HP.out _ HA.out).mono ?_;rintro e w2 ⟨rfl,hb⟩;have HB:=Lib.hid (HA.out.trans (hb.mono (by simp)));clear hb;(go_wp2_with fail);go_ret;exact ⟨by rw [HR.out]<;>rfl,HB.out⟩
 · have HR:=Lib.hid (show rkN ns s=0 by rw [rkN,if_pos hk])
   (have e1:(s.kind != 1)=true:=by simp [hk]);clear hk;go_enter Tryz.func144,Tryz.ntmps144;(go_wp2_with fail);go_ret;exact ⟨by rw [HR.out]<;>rfl,HA.out⟩
theorem nid_is {D:Nat→Prop} {nb:Nat} {ns:List Sym} (s:Sym) (w:World) (h:Nm D w nb ns) (hl:ns.length≤100000):Calls Tryz.prog 142 #[.pointer (some ⟨nb,0,none⟩),.agg #[.int .i64 s.kind,.string s.text,.int .i64 s.n]] w fun e w'=>e = .returned (.int .i64 (idN ns s))∧Below w.heap.size w w':=by
 have HP:=Lib.hid (fun W (hW:Below w.heap.size w W)=>place_is s W (h.new_ hW) hl);have HA:=Lib.hid ((Below.refl w.heap.size w).alloc (Nat.le_refl _) (.cells #[.int .i64 s.kind,.string s.text,.int .i64 s.n] 23));by_cases hp:plV ns s=0
 · have HR:=Lib.hid (show idN ns s=(ns.length:Int)+1 by rw [idN,if_pos hp])
   obtain ⟨bm,bp,sn,A,cc,mm,L,cl,h⟩:=h;have HN:=Lib.hid h.blk;have v1:IntKind.i64.wrap ((ns.length:Int)+1)=(ns.length:Int)+1:=IntWalk.i64_in _ (by omega);rw [hp] at HP;clear hp h;go_enter Tryz.func142,Tryz.ntmps142;(go_wp2_with fail);refine (HP.out _ HA.out).mono ?_;rintro e w2 ⟨rfl,hb⟩;have HB:=Lib.hid (HA.out.trans (hb.mono (by simp)));have hn:=HN.out.new_ HB.out;have n1:=(hn.cell 1).trans rfl;have nz:=hn.lt;clear hb hn;(go_wp2_with fail);go_ret;exact ⟨by rw [HR.out]<;>rfl,HB.out⟩
 · have HR:=Lib.hid (show idN ns s=(plV ns s:Int) by rw [idN,if_neg hp])
   obtain ⟨r,hr⟩ : ∃r,r=plV ns s:=⟨_,rfl⟩;rw [← hr] at HP HR;(have r1:(0:Int)<(r:Int):=by omega);(have r2:0<r:=by omega);clear hp hr h;go_enter Tryz.func142,Tryz.ntmps142;(go_wp2_with fail);refine (HP.out _ HA.out).mono ?_;rintro e w2 ⟨rfl,hb⟩;have HB:=Lib.hid (HA.out.trans (hb.mono (by simp)));clear hb;(go_wp2_with fail);go_ret;exact ⟨by rw [HR.out]<;>rfl,HB.out⟩
end
end Go.Proofs.YtldndkngpdfpfaaGreat
