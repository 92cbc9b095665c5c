/-
  Texts put together: Sets, LeafPgS, FindPgS, OpsPgS, PutPgS, MiscPgS, NewPgS, RangeO, Store, RangeO2.
-/
import Derived.Test.YtldndkngpdfpfaaGreatPGb
namespace Go.Proofs.YtldndkngpdfpfaaGreat
open Lib (hid)
set_option maxRecDepth 100000
set_option maxHeartbeats 32000000
section
open Go.RowKit
structure St where
 sn:Bool
 A:Option Addr
 c:Nat
def upd {β:Type} (S:Nat→β) (b:Nat) (l:β):Nat→β:=fun k=>if k=b then l else S k
theorem Z0t {β:Type} (S:Nat→β) (b:Nat) (l:β):upd S b l b=l:=by simp [upd]
theorem Z1l {β:Type} (S:Nat→β) {b k:Nat} (l:β) (h:k≠b):upd S b l k=S k:=by simp [upd,h]
theorem Zhx {β:Type} (S:Nat→β) (b:Nat) (l:β) (h:S b=l):upd S b l=S:=by funext k;simp only [upd];split<;>simp_all
structure Sets {α:Type} (tSet tE size:Nat) (cells:α→List Value) (cmp:α→α→Int) (D:Nat→Prop) (w:World) (S:Nat→Option (List α)) (σ:Nat→St):Prop where
 at_ : ∀b l,S b=some l→Z2h tSet tE size cells w b (σ b).sn (σ b).A (σ b).c l
 srt : ∀b l,S b=some l→Srt cmp l
 out : ∀b l,S b=some l→¬D b∧((σ b).sn=false→AIn (σ b).A (fun k=>¬D k))
 apart : ∀b l b' l',S b=some l→S b'=some l'→b≠b'→(σ b).sn=false→∀a a',(σ b).A=some a→(σ b').A=some a'→a.block≠a'.block
 low : ∀k,D k→k<w.heap.size
section
variable {α:Type} {tSet tE size:Nat} {cells:α→List Value} {cmp:α→α→Int} {D D':Nat→Prop} {w w':World} {S:Nat→Option (List α)} {σ:Nat→St} {b b':Nat} {l l':List α}
theorem Z2h.far {sn:Bool} {A:Option Addr} {c:Nat} (h:Z2h tSet tE size cells w b sn A c l) {sn':Bool} {A':Option Addr} {c':Nat} (h':Z2h tSet tE size cells w b' sn' A' c' l') (hne:tE≠tSet):AIn A (·≠b'):=by
 intro a e hb;have:=Z04 h.row h'.blk hne;subst e;exact this (by simp [Value.ownBlock,hb])
theorem Sets.start (tSet tE size:Nat) (cells:α→List Value) (cmp:α→α→Int) (w:World):Sets tSet tE size cells cmp (· < w.heap.size) w (fun _=>none) (fun _=>⟨false,none,0⟩):=
 ⟨fun _ _ h=>by simp at h,fun _ _ h=>by simp at h,fun _ _ h=>by simp at h,fun _ _ _ _ h=>by simp at h,fun _ h=>h⟩
theorem Sets.lt (h:Sets tSet tE size cells cmp D w S σ) (hb:S b=some l):b<w.heap.size:=(h.at_ b l hb).lt
theorem Sets.below (h:Sets tSet tE size cells cmp D w S σ) (hw:Below w.heap.size w w'):Sets tSet tE size cells cmp D w' S σ:=
 ⟨fun b l hb=>(h.at_ b l hb).new_ hw,h.srt,h.out,h.apart,fun k hk=>Zia (h.low k hk) hw.size⟩
theorem Sets.weaken (h:Sets tSet tE size cells cmp D w S σ) (hD : ∀k,D' k→D k):Sets tSet tE size cells cmp D' w S σ:=
 ⟨h.at_,h.srt,fun b l hb=>⟨fun hk=>(h.out b l hb).1 (hD _ hk),fun hs=>((h.out b l hb).2 hs).mono (fun _ hk hd=>hk (hD _ hd))⟩,h.apart,fun k hk=>h.low k (hD k hk)⟩
theorem Sets.widen (h:Sets tSet tE size cells cmp D w S σ) (n:Nat) (hn : ∀b l,S b=some l→b<n∧((σ b).sn=false→AIn (σ b).A (· < n))):Sets tSet tE size cells cmp (fun k=>D k∨(n≤k∧k<w.heap.size)) w S σ:=
 ⟨h.at_,h.srt,fun b l hb=>⟨fun hk=>by
  rcases hk with hk | hk
  · exact (h.out b l hb).1 hk
  · have:=(hn b l hb).1;omega,fun hs a ha hk=>by
  rcases hk with hk | hk
  · exact (h.out b l hb).2 hs a ha hk
  · have:=(hn b l hb).2 hs a ha;omega⟩,h.apart,fun k hk=>by
  rcases hk with hk | hk
  · exact h.low k hk
  · exact hk.2⟩
theorem Sets.protect (h:Sets tSet tE size cells cmp D w S σ) (hw:Below w.heap.size w w'):Sets tSet tE size cells cmp (fun k=>D k∨(w.heap.size≤k∧k<w'.heap.size)) w' S σ:=
 (h.below hw).widen w.heap.size (fun b l hb=>⟨h.lt hb,fun _=>(h.at_ b l hb).row_lt⟩)
theorem Sets.mod (h:Sets tSet tE size cells cmp D w S σ) (hb:S b=some l) (hF:Fr (Z2i b (σ b).sn (σ b).A) w w'):Fr (fun k=>¬D k) w w':=
 hF.mono (fun k _ hk=>by
  rcases hk with rfl | ⟨hs,a,ha,rfl⟩
  · exact (h.out _ l hb).1
  · exact (h.out b l hb).2 hs a ha)
theorem Sets.moved (h:Sets tSet tE size cells cmp D w S σ) (hne:tE≠tSet) (hb:S b=some l) {sn':Bool} {A':Option Addr} {c':Nat} (h1:Z2h tSet tE size cells w' b sn' A' c' l') (hs:Srt cmp l')
 (hF:Fr (Z2i b (σ b).sn (σ b).A) w w') (hM:Z5e w (σ b).sn (σ b).A sn' A'):Sets tSet tE size cells cmp D w' (upd S b (some l')) (upd σ b ⟨sn',A',c'⟩):=by
 have hB:=h.at_ b l hb;refine ⟨fun k m hk=>?_,fun k m hk=>?_,fun k m hk=>?_,fun k m k' m' hk hk' hkk hsk a a' ha ha'=>?_,fun k hk=>Zia (h.low k hk) hF.size⟩
 · by_cases e:k=b
   · subst e;rw [Z0t] at hk ⊢;cases hk;exact h1
   · rw [Z1l _ _ e] at hk ⊢
     have hK:=h.at_ k m hk;refine hK.fr hF ?_ ?_
     · rintro (hx | ⟨hx,a,ha,hx2⟩)
       · exact e hx
       · exact hB.far hK hne a ha hx2
     · intro a ha hx
       rcases hx with hx | ⟨hx,a2,ha2,hx2⟩
       · exact hK.far hB hne a ha hx
       · exact h.apart b l k m hb hk (Ne.symm e) hx a2 a ha2 ha hx2
 · by_cases e:k=b
   · subst e;rw [Z0t] at hk;cases hk;exact hs
   · rw [Z1l _ _ e] at hk;exact h.srt k m hk
 · by_cases e:k=b
   · subst e;rw [Z0t] at hk ⊢;cases hk
     refine ⟨(h.out _ _ hb).1,fun hs2=>?_⟩;rcases hM with ⟨e1,e2⟩ | ⟨_,g,hg,e2⟩
     · simp only at hs2 ⊢;rw [e2];exact (h.out _ _ hb).2 (by rw [← e1];exact hs2)
     · simp only;rw [e2];intro a ha hd;cases ha;have:=h.low _ hd;simp at this;omega
   · rw [Z1l _ _ e] at hk ⊢;exact h.out k m hk
 · by_cases e:k=b
   · subst e
     have e':k'≠k:=Ne.symm hkk;rw [Z1l _ _ e'] at hk' ha';rw [Z0t] at hsk ha;simp only at hsk ha;rcases hM with ⟨e1,e2⟩ | ⟨_,g,hg,e2⟩
     · exact h.apart k l k' m' hb hk' hkk (by rw [← e1];exact hsk) a a' (by rw [← e2];exact ha) ha'
     · rw [e2] at ha;cases ha
       have:=(h.at_ k' m' hk').row_lt a' ha';simp only;omega
   · rw [Z1l _ _ e] at hk hsk ha
     by_cases e2:k'=b
     · subst e2
       rw [Z0t] at ha';simp only at ha';rcases hM with ⟨_,e3⟩ | ⟨_,g,hg,e3⟩
       · exact h.apart k m k' l hk hb hkk hsk a a' ha (by rw [← e3];exact ha')
       · rw [e3] at ha';cases ha'
         have:=(h.at_ k m hk).row_lt a ha;simp only;omega
     · rw [Z1l _ _ e2] at hk' ha'
       exact h.apart k m k' m' hk hk' hkk hsk a a' ha ha'
theorem Sets.seen (h:Sets tSet tE size cells cmp D w S σ) (hne:tE≠tSet) (hb:S b=some l) (h1:Z2h tSet tE size cells w' b true (σ b).A (σ b).c l) (hF:Fr (· = b) w w') :
 Sets tSet tE size cells cmp D w' S (upd σ b ⟨true,(σ b).A,(σ b).c⟩):=by
 have hB:=h.at_ b l hb;refine ⟨fun k m hk=>?_,h.srt,fun k m hk=>?_,fun k m k' m' hk hk' hkk hsk a a' ha ha'=>?_,fun k hk=>Zia (h.low k hk) hF.size⟩
 · by_cases e:k=b
   · subst e;rw [Z0t];rw [hb] at hk;cases hk;exact h1
   · rw [Z1l _ _ e]
     exact (h.at_ k m hk).fr hF e (fun a ha hx=>(h.at_ k m hk).far hB hne a ha hx)
 · refine ⟨(h.out k m hk).1,fun hs=>?_⟩
   by_cases e:k=b
   · subst e;rw [Z0t] at hs;cases hs
   · rw [Z1l _ _ e] at hs ⊢;exact (h.out k m hk).2 hs
 · by_cases e:k=b
   · subst e;rw [Z0t] at hsk;cases hsk
   · rw [Z1l _ _ e] at hsk ha
     by_cases e2:k'=b
     · subst e2;rw [Z0t] at ha';exact h.apart k m k' m' hk hk' hkk hsk a a' ha ha'
     · rw [Z1l _ _ e2] at ha';exact h.apart k m k' m' hk hk' hkk hsk a a' ha ha'
theorem Sets.add (h:Sets tSet tE size cells cmp D w S σ) {k:Nat} {sn':Bool} {A':Option Addr} {c':Nat} (hk:w.heap.size≤k) (h1:Z2h tSet tE size cells w' k sn' A' c' l') (hs:Srt cmp l')
 (hA:AIn A' (w.heap.size≤·)∨(sn'=true∧∃b l,S b=some l∧(σ b).sn=true∧(σ b).A=A')) (hF:Below w.heap.size w w'):Sets tSet tE size cells cmp D w' (upd S k (some l')) (upd σ k ⟨sn',A',c'⟩):=by
 (have hnk : ∀b l,S b=some l→b≠k:=fun b l hb e=>by have:=h.lt hb;omega);refine ⟨fun b m hb=>?_,fun b m hb=>?_,fun b m hb=>?_,fun b m b' m' hb hb' hkk hsk a a' ha ha'=>?_,fun k hk=>Zia (h.low k hk) hF.size⟩
 · by_cases e:b=k
   · subst e;rw [Z0t] at hb ⊢;cases hb;exact h1
   · rw [Z1l _ _ e] at hb ⊢;exact (h.at_ b m hb).new_ hF
 · by_cases e:b=k
   · subst e;rw [Z0t] at hb;cases hb;exact hs
   · rw [Z1l _ _ e] at hb;exact h.srt b m hb
 · by_cases e:b=k
   · subst e;rw [Z0t] at hb ⊢;cases hb
     refine ⟨fun hd=>by have:=h.low _ hd;omega,fun hs2 a ha hd=>?_⟩;have h3:=h.low _ hd;rcases hA with hA | ⟨hA,_⟩
     · have:=hA a ha;omega
     · simp only at hs2;rw [hA] at hs2;cases hs2
   · rw [Z1l _ _ e] at hb ⊢;exact h.out b m hb
 · by_cases e:b=k
   · subst e
     rw [Z1l _ _ (Ne.symm hkk)] at hb' ha';rw [Z0t] at hsk ha;simp only at hsk ha;have h3:=(h.at_ b' m' hb').row_lt a' ha';rcases hA with hA | ⟨hA,_⟩
     · have:=hA a ha;omega
     · rw [hA] at hsk;cases hsk
   · rw [Z1l _ _ e] at hb hsk ha
     have h3:=(h.at_ b m hb).row_lt a ha;by_cases e2:b'=k
     · subst e2
       rw [Z0t] at ha';simp only at ha';rcases hA with hA | ⟨_,b2,l2,hb2,hs2,hA⟩
       · have:=hA a' ha';omega
       · by_cases e3:b=b2
         · subst e3;rw [hsk] at hs2;cases hs2
         · exact h.apart b m b2 l2 hb hb2 e3 hsk a a' ha (hA.trans ha')
     · rw [Z1l _ _ e2] at hb' ha'
       exact h.apart b m b' m' hb hb' hkk hsk a a' ha ha'
end
end
section
open Go.RowKit
structure PgS where
 kk:Sym
 v:Int
 deriving DecidableEq
def PgS.cells (x:PgS):List Value:=[.int .i64 x.kk.kind,.string x.kk.text,.int .i64 x.kk.n,.int .i64 x.v]
theorem PgS.cells_length (x:PgS):x.cells.length=4:=rfl
def Z0r (a b:PgS):Int:=Z1z a.kk b.kk
theorem Z3e:TC Z0r:=⟨fun _=>Z6x.refl _,fun _ _=>Z6x.symm _ _,fun _ _ _=>Z6x.trans _ _ _⟩
theorem Z6c {a b:PgS}:Z0r a b=0↔a.kk=b.kk:=Zct
theorem Z80 (a : Int) (b : ByteArray) (c : Int) (w : World) : (nilAhead 555 23 (.agg #[.int .i64 a, .string b, .int .i64 c]) "Compare").run Tryz.prog w = .ok (some false) w := by kernel_rfl
theorem Za5 (a : Int) (b : ByteArray) (c : Int) (w : World) : (method 555 23 (.agg #[.int .i64 a, .string b, .int .i64 c]) "Compare").run Tryz.prog w = .ok (143, .agg #[.int .i64 a, .string b, .int .i64 c]) w := by kernel_rfl
theorem Zgx (a b:PgS) (w:World):Calls Tryz.prog 326 #[.agg #[.int .i64 a.kk.kind,.string a.kk.text,.int .i64 a.kk.n,.int .i64 a.v],.agg #[.int .i64 b.kk.kind,.string b.kk.text,.int .i64 b.kk.n,.int .i64 b.v]] w fun e w'=>e = .returned (.int .i64 (Z0r a b))∧Below w.heap.size w w':=by
 have N:=Z80;have M:=Za5;go_enter Tryz.func326,Tryz.ntmps326;(go_wp2_with fail);refine (Z9w a.kk b.kk _).mono ?_;rintro e w1 ⟨rfl,hb1⟩;have HB1:=hid ((((Zi2 w.heap.size w).alloc (Zi3 _) _).alloc (by simp) _).trans (hb1.mono (by simp;omega)));clear hb1;(go_wp2_with fail);go_ret;exact ⟨rfl,HB1.out⟩
abbrev Z23:=Z2h (α:=PgS) 281 224 4 PgS.cells
theorem Z90 (k0 : Int) (k1 : ByteArray) (k2 : Int) (k3 : Int) (w : World) : (nilAhead 555 224 (.agg #[.int .i64 k0, .string k1, .int .i64 k2, .int .i64 k3]) "Compare").run Tryz.prog w = .ok (some false) w := by kernel_rfl
theorem Zbx (k0 : Int) (k1 : ByteArray) (k2 : Int) (k3 : Int) (w : World) : (method 555 224 (.agg #[.int .i64 k0, .string k1, .int .i64 k2, .int .i64 k3]) "Compare").run Tryz.prog w = .ok (326, .agg #[.int .i64 k0, .string k1, .int .i64 k2, .int .i64 k3]) w := by kernel_rfl
def Zet (l:List PgS) (x:PgS) (w:World) (e:Ending) (w':World):Prop:=
 e = .returned (.tuple #[.int .i64 (rank Z0r l x),.bool (has Z0r l x)])∧Below w.heap.size w w'
theorem Z61 (b c:Nat) (sn:Bool) (A:Option Addr) (l:List PgS) (x:PgS) (w:World) (hS:Z23 w b sn A c l) (hs:Srt Z0r l) (hl:(l.length:Int)≤4611686018427387904) :
 Calls Tryz.prog 187 #[.pointer (some ⟨b,0,none⟩),.agg #[.int .i64 x.kk.kind,.string x.kk.text,.int .i64 x.kk.n,.int .i64 x.v]] w (Zet l x w):=by
 have hrd:=hS.rd PgS.cells_length;have h0:=hS.cell0;have hb:=hS.lt;clear hS;have HS:=hid hs;have HRD:=hid hrd;clear hs hrd;go_enter Tryz.func187,Tryz.ntmps187;(go_wp2_with fail);go_quiet (fail);(go_wp2_with fail);obtain ⟨W0,hW0⟩ : ∃W0,W0=((w.alloc (Obj.cells #[.int .i64 x.kk.kind,.string x.kk.text,.int .i64 x.kk.n,.int .i64 x.v] 224)).drewN nq):=⟨_,rfl⟩;(have hB0:Below w.heap.size w W0:=by rw [hW0];exact Below.drewN' ((Zi2 _ _).alloc (Zi3 _) _) _);(have hx0:W0.cell? ⟨w.heap.size,0,none⟩=some (.int .i64 x.kk.kind):=by rw [hW0];go_simp);(have hx1:W0.cell? ⟨w.heap.size,1,none⟩=some (.string x.kk.text):=by rw [hW0];go_simp);(have hx2:W0.cell? ⟨w.heap.size,2,none⟩=some (.int .i64 x.kk.n):=by rw [hW0];go_simp);(have hx3:W0.cell? ⟨w.heap.size,3,none⟩=some (.int .i64 x.v):=by rw [hW0];go_simp);rw [← hW0];clear hW0;have HB0:=hid hB0;clear hB0
 go_loopw [6,7] (fun lo hi wr=>∃i j:Nat,lo = .int .i64 i∧hi = .int .i64 j∧i≤j∧j≤l.length∧(∀k,(h:k<l.length)→k<i→Z0r l[k] x<0)∧(∀k,(h:k<l.length)→j≤k→0<Z0r l[k] x)∧Below W0.heap.size W0 wr) (fun lo hi wr=>(intOf hi).toNat - (intOf lo).toNat)
 case atStart=>exact ⟨0,l.length,rfl,rfl,Nat.zero_le _,Zi3 _,fun k _ h=>absurd h (by omega),fun k h h'=>absurd h (by omega),Zi2 _ _⟩
 case round=>
  obtain ⟨i,j,rfl,rfl,hij,hj,hlo,hhi,hB⟩:=hrel;have HLO:=hid hlo;have HHI:=hid hhi;clear hlo hhi;have hsz:w.heap.size<W0.heap.size:=Ziy W0 _ hx0;by_cases hlt:i<j
  · obtain ⟨m,hm⟩ : ∃m,m=i+(j - i) / 2:=⟨_,rfl⟩
    (have hml:m<l.length:=by omega);(have hmj:m<j:=by omega);(have hmi:i≤m:=by omega);(have e1:((i:Int)+((j:Int) - (i:Int)) / 2)=(m:Int):=by omega);have E1:=hid e1;clear e1 hm;obtain ⟨g,off,rfl,hgs,hcell⟩:=HRD.out.at_ hml;have low : ∀(p:Addr),p.block<w.heap.size→wr.cell? p=w.cell? p:=fun p hp=>(hB.cell (p:=p) (by omega)).trans (HB0.out.cell (p:=p) hp);have r0:=(low ⟨b,0,none⟩ hb).trans h0;have q0:=(low ⟨g,off+m*4,none⟩ hgs).trans (hcell 0 _ rfl);have q1:=(low ⟨g,off+m*4+1,none⟩ hgs).trans (hcell 1 _ rfl);have q2:=(low ⟨g,off+m*4+2,none⟩ hgs).trans (hcell 2 _ rfl);have q3:=(low ⟨g,off+m*4+3,none⟩ hgs).trans (hcell 3 _ rfl);have y0:=(hB.cell (p:=⟨w.heap.size,0,none⟩) hsz).trans hx0;have y1:=(hB.cell (p:=⟨w.heap.size,1,none⟩) hsz).trans hx1;have y2:=(hB.cell (p:=⟨w.heap.size,2,none⟩) hsz).trans hx2;have y3:=(hB.cell (p:=⟨w.heap.size,3,none⟩) hsz).trans hx3;(have b1:(0:Int)≤(m:Int):=by omega);(have b2:(m:Int)<(l.length:Int):=by omega);have hsw:W0.heap.size≤wr.heap.size:=hB.size;have N:=Z90;have M:=Zbx;clear low hcell hx0 hx1 hx2 hx3 h0;have HB:=hid hB;clear hB;obtain ⟨y,hy⟩ : ∃y,y=l[m]:=⟨_,rfl⟩;rw [← hy] at q0 q1 q2 q3;have HY:=hid hy;clear hy;(have hbw:b<wr.heap.size:=by omega);(have hgw:g<wr.heap.size:=by omega);(have hww:w.heap.size<wr.heap.size:=by omega);(go_wp2_with fail);rw [E1.out]
    go_region_held3 (fun w'=>w'.cell? ⟨b,0,none⟩=some (.slice (some ⟨g,off,none⟩) l.length c)∧w'.cell? ⟨g,off+m*4,none⟩=some (.int .i64 y.kk.kind)∧w'.cell? ⟨g,off+m*4+1,none⟩=some (.string y.kk.text)∧w'.cell? ⟨g,off+m*4+2,none⟩=some (.int .i64 y.kk.n)∧w'.cell? ⟨g,off+m*4+3,none⟩=some (.int .i64 y.v)∧w'.cell? ⟨w.heap.size,0,none⟩=some (.int .i64 x.kk.kind)∧w'.cell? ⟨w.heap.size,1,none⟩=some (.string x.kk.text)∧w'.cell? ⟨w.heap.size,2,none⟩=some (.int .i64 x.kk.n)∧w'.cell? ⟨w.heap.size,3,none⟩=some (.int .i64 x.v))
     (first | go_keep | (refine ⟨?_,?_,?_,?_,?_,?_,?_,?_,?_⟩<;>exact (hb1.cell (by simpa using by assumption)).trans (by simp [*])))
     ((go_at_call 326;refine (Zgx y x _).mono ?_;rintro e w1 ⟨rfl,hb1⟩))
    have HB1:Below W0.heap.size W0 w1:=HB.out.drew.trans (hb1.mono hsw);clear r0 q0 q1 q2 q3 y0 y1 y2 y3 N M;by_cases hc:Z0r y x=0
    · have HC:=hid hc
      (have t1:(Z0r y x == 0)=true:=by simp [hc]);clear hc;(go_wp2_with fail);go_ret2;have e:=HC.out;rw [HY.out] at e;refine ⟨?_,HB0.out.trans (HB1.mono (by omega))⟩;rw [Z9b Z3e HS.out hml e,(Z7q Z3e HS.out hml e).2.2.1];rfl
    · have t1:(Z0r y x == 0)=false:=by simp [hc]
      by_cases hc2:Z0r y x<0
      · have HC:=hid hc2
        (have t2:decide (Z0r y x<0)=true:=by simpa using hc2);clear hc hc2;(go_wp2_with fail);go_roundw
        case rel=>
         refine ⟨m+1,j,by go_num,rfl,by omega,hj,fun k h1 h2=>?_,HHI.out,HB1⟩;have e:=HC.out;rw [HY.out] at e;rcases Nat.lt_or_ge k m with h3 | h3
         · exact Z3e.lt_of_lt_of_le (HS.out.lt h3 hml) (by omega)
         · obtain rfl:k=m:=by omega
           exact e
        case measure=>simp [intOf];omega
      · have t2:decide (Z0r y x<0)=false:=by simpa using hc2
        (have hc3:0<Z0r y x:=by omega);have HC:=hid hc3;clear hc hc2 hc3;(go_wp2_with fail);go_roundw
        case rel=>
         refine ⟨i,m,rfl,rfl,by omega,by omega,HLO.out,fun k h1 h2=>?_,HB1⟩;have e:=HC.out;rw [HY.out] at e;rcases Nat.lt_or_ge m k with h3 | h3
         · exact (Z3e.symm _ _).1 (Z3e.lt_trans ((Z3e.symm _ _).2 e) (HS.out.lt h3 h1))
         · obtain rfl:k=m:=by omega
           exact e
        case measure=>simp [intOf];omega
  · obtain rfl:i=j:=by omega
    have HB:=hid hB;clear hB;(go_wp2_with fail);go_ret2;refine ⟨?_,HB0.out.trans (HB.out.mono (by omega))⟩;rw [Z9a hj HLO.out HHI.out,(Z9s HLO.out HHI.out).2.2];rfl
theorem Zb1:(Tryz.prog.info? 224).map (fun i=>(i.zero,i.size,i.bytes))=some (some (.agg #[.int .i64 0,.string ⟨#[]⟩,.int .i64 0,.int .i64 0]),4,40):=by kernel_rfl
theorem PgS.one (x:PgS) : ∀u∈PgS.cells x,u.oneCell'=true:=by intro u hu;simp [PgS.cells] at hu;rcases hu with rfl | rfl | rfl | rfl<;>rfl
theorem PgS.oneAll (l:List PgS) : ∀u∈l.flatMap PgS.cells,u.oneCell'=true:=by intro u hu;obtain ⟨x,_,hx⟩:=List.mem_flatMap.1 hu;exact PgS.one x u hx
def Z5f (w:World) (b:Nat) (sn:Bool) (A:Option Addr) (l:List PgS) (e:Ending) (w':World):Prop:=
 e = .returned (.tuple #[])∧∃A' c',Z23 w' b false A' c' l∧Fr (· = b) w w'∧Z5e w sn A false A'
theorem Zc0 (b c:Nat) (A:Option Addr) (l:List PgS) (w:World) (hS:Z23 w b false A c l) :
 Calls Tryz.prog 225 #[.pointer (some ⟨b,0,none⟩)] w (Z5f w b false A l):=by
 have h1:=hS.cell1;have HS:=hid hS;clear hS;go_enter Tryz.func225,Tryz.ntmps225;go_wp2;go_end0;exact ⟨rfl,A,c,HS.out,Fr.refl _ _,.inl ⟨rfl,rfl⟩⟩
theorem Zab (b c:Nat) (A:Option Addr) (l:List PgS) (w:World) (hS:Z23 w b true A c l) (hl:(l.length:Int)≤1000000000) :
 Calls Tryz.prog 225 #[.pointer (some ⟨b,0,none⟩)] w (Z5f w b true A l):=by
 obtain ⟨i0,hi,hz0,hz1,hz2⟩:=info_parts Zb1;have h0:=hS.cell0;have h1:=hS.cell1;have hb:=hS.lt;have f0:=hS.blk.frozen 0;have f1:=hS.blk.frozen 1;have hrd:=hS.rd PgS.cells_length;have HB:=hid hS.blk;have HRD:=hid hrd;clear hS hrd;have e1:IntKind.i64.wrap ((l.length:Int)+1)=(l.length:Int)+1:=Zih _ (by omega)
 have hmk : ∀W:World,(Instr.makeSlice 279 (.int .i64 0) (.int .i64 ((l.length:Int)+1))).run Tryz.prog W = .ok (.slice (some ⟨W.heap.size,0,none⟩) 0 (l.length+1)) (W.alloc (.cells (madeCells (Value.cells (.agg #[.int .i64 0,.string ⟨#[]⟩,.int .i64 0,.int .i64 0])) ((l.length+1)*4)) 224)):=fun W=>by
  have h:=run_make (P:=Tryz.prog) W 279 224 i0 _ Tryz.underlying279 hi hz0 .i64 .i64 0 ((l.length:Int)+1) (by omega) (by omega) (by rw [hz2];omega) (by omega);rw [hz1] at h;simpa [show ((l.length:Int)+1).toNat=l.length+1 by omega] using h
 go_enter Tryz.func225,Tryz.ntmps225;(go_wp2_with fail);refine Z05 (fun w9=>Below w.heap.size w w9) [(0,0),(1,0),(2,0),(3,0),(4,1),(5,0),(6,0),(8,0),(9,0),(10,0),(11,1),(7,2),(12,2),(13,0),(14,0),(15,2)] (by kernel_rfl) (by kernel_rfl) (fun KK hKK=>?_);simp only [Z02,Zib,Zi5,Zi9,Zi8,Zi7,Zif];(repeat ((first | (refine Z0a ?_ (Or.inl ⟨by rfl,fun w9=>?_⟩) ?_;rotate_left 1;go_simp;with_reducible rfl) | (refine Z06 ?_ (((Zi2 _ _).drew)) (Or.inl ⟨by rfl,fun w9 hw9=>?_⟩) ?_;rotate_left 1;obtain ⟨hc9,hf9⟩:=Z0e hw9;go_simp;with_reducible rfl) | refine Z0a undef (Or.inr ⟨by rfl,rfl⟩) ?_ | refine Z06 undef (((Zi2 _ _).drew)) (Or.inr ⟨by rfl,rfl⟩) ?_);go_frame));refine Z1f (fun K9 hK9=>?_);go_simp;refine hK9 _ _ (((Zi2 _ _).drew).alloc (Zi3 _) _) ?_;clear hK9 K9;refine Z2p (by kernel_rfl) (fun K9 hK9=>?_)
 refine Z0q _ (by rfl) _ _ _ (by rfl) 224 i0 _ 4 40 Tryz.underlying279 hi hz0 hz1 hz2 rfl (by omega) _ 0 [] (by rfl) (World.ownsRow_made _ _ _ (Nat.zero_le _) (by unfold maxLen;omega) (by simp [madeCells])) A l.length c (l.flatMap PgS.cells) (by rfl) (Z13 PgS.cells_length l)
  ((HRD.out.drew.alloc _).news PgS.cells_length (by omega)) (PgS.oneAll l) (by unfold maxLen;omega) (by omega) ?_
 intro v2 w2 hown hgr hnil hat;refine hK9 _ _ ?_;clear hK9 K9;rw [Ziu,Zj6] at hown;obtain ⟨A',c',rfl,_,_,hz⟩:=Z2w hown;have HB1:=(HB.out.drew.alloc (.cells (madeCells (Value.cells (.agg #[.int .i64 0,.string ⟨#[]⟩,.int .i64 0,.int .i64 0])) ((l.length+1)*4)) 224)).grown hgr (by simp [Value.ownBlock];omega);have c0:=(HB1.cell 0).trans rfl;have c1:=(HB1.cell 1).trans rfl;have z0:=HB1.frozen 0;have z1:=HB1.frozen 1;have HB2:=hid HB1;clear HB1;(repeat ((first | (refine Z0a ?_ (Or.inl ⟨by rfl,fun w9=>?_⟩) ?_;rotate_left 1;go_simp;with_reducible rfl) | (refine Z06 ?_ (((Zi2 _ _).drew).alloc (Zi3 _) _) (Or.inl ⟨by rfl,fun w9 hw9=>?_⟩) ?_;rotate_left 1;obtain ⟨hc9,hf9⟩:=Z0e hw9;go_simp;with_reducible rfl) | refine Z0a undef (Or.inr ⟨by rfl,rfl⟩) ?_ | refine Z06 undef (((Zi2 _ _).drew).alloc (Zi3 _) _) (Or.inr ⟨by rfl,rfl⟩) ?_);go_frame));refine Z2p (by kernel_rfl) (fun K9 hK9=>?_);go_simp;refine hK9 _ _ ?_;clear hK9 K9;refine Z0z ?_;simp only [Z00];refine hKK _ _ ?_;clear hKK KK;go_wp2;go_end0
 have hb2:(Value.slice A' l.length c').ownBlock=some w.heap.size∨(Value.slice A' l.length c').ownBlock=some (w.heap.size+1):=by
  rcases hat with h | h
  · left;rw [h];rfl
  · right;rw [h];simp
 have hA : ∃g,w.heap.size≤g∧A'=some ⟨g,0,none⟩:=by
  rcases A' with _ | a
  · exfalso;simp [Value.ownBlock] at hb2
  · obtain ⟨g,rfl⟩:=hz a rfl
    refine ⟨g,?_,rfl⟩;simp [Value.ownBlock] at hb2;omega
 obtain ⟨g,hg,rfl⟩:=hA;have HB1:=HB2.out;have HF:Fr (· = b) w w2:=((Fr.refl (· = b) w).drew.alloc _).grown hgr (fun k e=>by simp [Value.ownBlock] at e;right;omega);refine ⟨rfl,some ⟨g,0,none⟩,c',⟨(HB1.set_ 0 _).set_ 1 _,?_⟩,(HF.setCell (p:=⟨b,0,none⟩) (.inl rfl) _).setCell (p:=⟨b,1,none⟩) (.inl rfl) _,.inr ⟨rfl,g,hg,rfl⟩⟩;(have hne:(Value.slice (some ⟨g,0,none⟩) l.length c').ownBlock≠some b:=by simp [Value.ownBlock];omega);exact ownsRow_setCell_other (a:=⟨b,1,none⟩) (ownsRow_setCell_other (a:=⟨b,0,none⟩) hown hne _) hne _
theorem Zh6 (b c:Nat) (sn:Bool) (A:Option Addr) (l:List PgS) (w:World) (hS:Z23 w b sn A c l) (hl:(l.length:Int)≤1000000000) :
 Calls Tryz.prog 225 #[.pointer (some ⟨b,0,none⟩)] w (Z5f w b sn A l):=by
 cases sn
 · exact Zc0 b c A l w hS
 · exact Zab b c A l w hS hl
def Z5g (w:World) (b:Nat) (sn:Bool) (A:Option Addr) (l:List PgS) (x:PgS) (e:Ending) (w':World):Prop:=
 e = .returned (.bool (!has Z0r l x))∧∃sn' A' c',Z23 w' b sn' A' c' (put Z0r l x)∧Fr (Z2i b sn A) w w'∧Z5e w sn A sn' A'
theorem Z86 (b c:Nat) (sn:Bool) (A:Option Addr) (l:List PgS) (x:PgS) (w:World) (hS:Z23 w b sn A c l) (hs:Srt Z0r l) (hl:(l.length:Int)≤100000000) (hh:has Z0r l x=true) :
 Calls Tryz.prog 183 #[.pointer (some ⟨b,0,none⟩),.agg #[.int .i64 x.kk.kind,.string x.kk.text,.int .i64 x.kk.n,.int .i64 x.v]] w (Z5g w b sn A l x):=by
 have HS:=hid hS;have HO:=hid hs;clear hS hs;go_enter Tryz.func183,Tryz.ntmps183;(go_wp2_with fail);refine (Z61 b c sn A l x _ (HS.out.new_ ((Zi2 _ _).alloc (Zi3 _) _)) HO.out (by omega)).mono ?_;rintro e w1 ⟨rfl,hb1⟩;(go_wp2_with fail);go_ret;refine ⟨by rw [hh];rfl,sn,A,c,?_,Fr.of_new (((Zi2 _ _).alloc (Zi3 _) _).trans (hb1.mono (by simp))),.inl ⟨rfl,rfl⟩⟩;rw [Zad hh];exact HS.out.new_ (((Zi2 _ _).alloc (Zi3 _) _).trans (hb1.mono (by simp)))
theorem Zae (b c:Nat) (sn:Bool) (A:Option Addr) (l:List PgS) (x:PgS) (w:World) (hS:Z23 w b sn A c l) (hs:Srt Z0r l) (hl:(l.length:Int)≤100000000) (hh:has Z0r l x=false) :
 Calls Tryz.prog 183 #[.pointer (some ⟨b,0,none⟩),.agg #[.int .i64 x.kk.kind,.string x.kk.text,.int .i64 x.kk.n,.int .i64 x.v]] w (Z5g w b sn A l x):=by
 obtain ⟨i0,hi,hz0,hz1,hz2⟩:=info_parts Zb1;have HS:=hid hS;have HO:=hid hs;have hb:=hS.lt;clear hS hs;have hrk:=Zaf (cmp:=Z0r) l x;go_enter Tryz.func183,Tryz.ntmps183;(go_wp2_with fail);have hSa:=HS.out.new_ ((Zi2 w.heap.size w).alloc (Zi3 _) (.cells #[.int .i64 x.kk.kind,.string x.kk.text,.int .i64 x.kk.n,.int .i64 x.v] 224));have HSa:=hid hSa;clear hSa;refine (Z61 b c sn A l x _ HSa.out HO.out (by omega)).mono ?_;rintro e w1 ⟨rfl,hb1⟩;have HS1:=hid (HSa.out.new_ hb1);(have hsz1:w.heap.size+1≤w1.heap.size:=by have:=hb1.size;(try simp at this);omega);have y0:=(hb1.cell (p:=⟨w.heap.size,0,none⟩) (by simp)).trans ((Blk.new w 224 #[.int .i64 x.kk.kind,.string x.kk.text,.int .i64 x.kk.n,.int .i64 x.v]).cell 0);have y1:=(hb1.cell (p:=⟨w.heap.size,1,none⟩) (by simp)).trans ((Blk.new w 224 #[.int .i64 x.kk.kind,.string x.kk.text,.int .i64 x.kk.n,.int .i64 x.v]).cell 1);have y2:=(hb1.cell (p:=⟨w.heap.size,2,none⟩) (by simp)).trans ((Blk.new w 224 #[.int .i64 x.kk.kind,.string x.kk.text,.int .i64 x.kk.n,.int .i64 x.v]).cell 2);have y3:=(hb1.cell (p:=⟨w.heap.size,3,none⟩) (by simp)).trans ((Blk.new w 224 #[.int .i64 x.kk.kind,.string x.kk.text,.int .i64 x.kk.n,.int .i64 x.v]).cell 3);have HB1:=hid hb1;clear hb1;(go_wp2_with fail);refine (Zh6 b c sn A l _ HS1.out (by omega)).mono ?_;rintro e w2 ⟨rfl,A1,c1,hS2,hF2,hM2⟩;have hsz2:w1.heap.size≤w2.heap.size:=hF2.size;have x0:w2.cell? ⟨w.heap.size,0,none⟩=some (.int .i64 x.kk.kind):=(hF2.cell (p:=⟨w.heap.size,0,none⟩) (by dsimp only;omega) (by dsimp only;omega)).trans y0;have x1:w2.cell? ⟨w.heap.size,1,none⟩=some (.string x.kk.text):=(hF2.cell (p:=⟨w.heap.size,1,none⟩) (by dsimp only;omega) (by dsimp only;omega)).trans y1;have x2:w2.cell? ⟨w.heap.size,2,none⟩=some (.int .i64 x.kk.n):=(hF2.cell (p:=⟨w.heap.size,2,none⟩) (by dsimp only;omega) (by dsimp only;omega)).trans y2;have x3:w2.cell? ⟨w.heap.size,3,none⟩=some (.int .i64 x.v):=(hF2.cell (p:=⟨w.heap.size,3,none⟩) (by dsimp only;omega) (by dsimp only;omega)).trans y3;have s0:=hS2.cell0;have f0:=hS2.blk.frozen 0;(have hb2:b<w2.heap.size:=by omega);(have hk2:w.heap.size<w2.heap.size:=by omega);have HS2:=hid hS2;have HF2:=hid hF2;have HM2:=hid hM2;clear hS2 hF2 hM2 y0 y1 y2 y3;(go_wp2_with fail);refine Z05 (fun w9=>Below w2.heap.size w2 w9) [(0,0),(1,0),(2,0),(3,0),(4,1),(5,1),(6,2),(7,2),(8,0),(9,0),(10,2)] (by kernel_rfl) (by kernel_rfl) (fun KK hKK=>?_);simp only [Z02,Zib,Zi5,Zi9,Zi8,Zi7,Zif];repeat ((first | (refine Z0a ?_ (Or.inl ⟨by rfl,fun w9=>?_⟩) ?_;rotate_left 1;go_simp;with_reducible rfl) | (refine Z06 ?_ (((Zi2 _ _).drew)) (Or.inl ⟨by rfl,fun w9 hw9=>?_⟩) ?_;rotate_left 1;obtain ⟨hc9,hf9⟩:=Z0e hw9;go_simp;with_reducible rfl) | refine Z0a undef (Or.inr ⟨by rfl,rfl⟩) ?_ | refine Z06 undef (((Zi2 _ _).drew)) (Or.inr ⟨by rfl,rfl⟩) ?_);go_frame)
 refine Z1f (fun K9 hK9=>?_);go_simp;refine hK9 _ _ (((Zi2 _ _).drew).alloc (Zi3 _) _) ?_;clear hK9 K9;refine Z2p (by kernel_rfl) (fun K9 hK9=>?_)
 refine Z0q _ (by rfl) _ _ _ (by rfl) 224 i0 _ 4 40 Tryz.underlying279 hi hz0 hz1 hz2 rfl (by omega) _ l.length (l.flatMap PgS.cells) (by rfl) (Z01 HS2.out.row (((Zi2 _ _).drew).alloc (Zi3 _) _)) (some ⟨w2.heap.size,0,none⟩) 1 1 (PgS.cells x) (by rfl) (by rfl)
  (fun _=>⟨_,rfl,Zii (heap_alloc_new _ _)⟩) (PgS.one x) (by unfold maxLen;omega) (by omega) ?_
 intro v2 w3 hown hgr hnil hat;refine hK9 _ _ ?_;clear hK9 K9
 obtain ⟨g,c2,rfl⟩ : ∃g c2,v2 = .slice (some ⟨g,0,none⟩) (l.length+1) c2:=by
  rcases Z14 hown with ⟨_,h0,_⟩ | ⟨g,c2,h,_⟩
  · omega
  · exact ⟨g,c2,h⟩
 have HXN:(Value.slice A1 l.length c1).ownBlock≠some w.heap.size:=by
  intro h;rcases HM2.out with ⟨hsn,hA⟩ | ⟨_,g2,hg2,hA⟩
  · rcases A1 with _ | a1
    · cases h
    · have h1:=HS.out.row_lt _ hA.symm
      simp only [Value.ownBlock,Option.some.injEq] at h;omega
  · subst hA
    simp only [Value.ownBlock,Option.some.injEq] at h;omega
 have HB3':=(HS2.out.blk.drew.alloc (.cells #[.int .i64 x.kk.kind,.string x.kk.text,.int .i64 x.kk.n,.int .i64 x.v] 224)).grown hgr (Z04 HS2.out.row HS2.out.blk (by decide));have c0:=(HB3'.cell 0).trans rfl;have z0:=HB3'.frozen 0;have HB3:=hid HB3';have HOWN:=hid hown;have HGR:=hid hgr;clear HB3' hown hgr;(repeat ((first | (refine Z0a ?_ (Or.inl ⟨by rfl,fun w9=>?_⟩) ?_;rotate_left 1;go_simp;with_reducible rfl) | (refine Z06 ?_ (((Zi2 _ _).drew).alloc (Zi3 _) _) (Or.inl ⟨by rfl,fun w9 hw9=>?_⟩) ?_;rotate_left 1;obtain ⟨hc9,hf9⟩:=Z0e hw9;go_simp;with_reducible rfl) | refine Z0a undef (Or.inr ⟨by rfl,rfl⟩) ?_ | refine Z06 undef (((Zi2 _ _).drew).alloc (Zi3 _) _) (Or.inr ⟨by rfl,rfl⟩) ?_);go_frame));refine Z2p (by kernel_rfl) (fun K9 hK9=>?_);go_simp;refine hK9 _ _ ?_;clear hK9 K9;refine Z0z ?_;simp only [Z00];refine hKK _ _ ?_;clear hKK KK;have hlg:((l.length+1:Nat):Int)=(l.length:Int)+1:=by omega
 have hG:(Z2i b sn A g∨w.heap.size≤g)∧Z5e w sn A false (some ⟨g,0,none⟩)∧g≠w.heap.size∧g≠b:=by
  rcases hat with h | h
  · rcases A1 with _ | a1
    · simp [Value.ownBlock] at h
    · obtain ⟨A',c',hv,_,_,hz⟩:=Z2w HS2.out.row
      injection hv with hv _ _;obtain ⟨g',rfl⟩:=hz a1 hv.symm;(have hgg:g'=g:=by simpa [Value.ownBlock] using h.symm);subst hgg;have hne:g'≠b:=HS2.out.row_ne (by decide) _ rfl;rcases HM2.out with ⟨hsn,hA⟩ | ⟨_,g2,hg2,hA⟩
      · have h1:=HS.out.row_lt _ hA.symm
        exact ⟨.inl (.inr ⟨hsn.symm,_,hA.symm,rfl⟩),.inl ⟨hsn,hA⟩,by dsimp only at h1;omega,hne⟩
      · injection hA with hA
        injection hA with hA;subst hA;exact ⟨.inr (by omega),.inr ⟨rfl,_,by omega,rfl⟩,by omega,hne⟩
  · have hgg:g=w2.heap.size+1:=by simpa [Value.ownBlock] using h
    subst hgg;exact ⟨.inr (by omega),.inr ⟨rfl,_,by omega,rfl⟩,by omega,by omega⟩
 obtain ⟨hgM,hgMv,hgk1,hgb⟩:=hG;obtain ⟨w4,hw4⟩ : ∃w4,w4=w3.setCell ⟨b,0,none⟩ (.slice (some ⟨g,0,none⟩) (l.length+1) c2):=⟨_,rfl⟩;have hB4:Blk w4 b 281 #[.slice (some ⟨g,0,none⟩) (l.length+1) c2,.bool false]:=by rw [hw4];exact HB3.out.set_ 0 _
 have hR4:w4.ownsRow 0 224 4 (.slice (some ⟨g,0,none⟩) (l.length+1) c2) (l.length+1) ((Z1g l x l.length).flatMap PgS.cells):=by
  rw [hw4,Z58];refine ownsRow_setCell_other (a:=⟨b,0,none⟩) ?_ (by simpa [Value.ownBlock] using hgb) _;rw [Zik,List.flatMap_singleton];exact HOWN.out
 have hF4:Fr (Z2i b sn A) w w4:=by
  rw [hw4];have h1:Fr (Z2i b sn A) w w1:=Fr.of_new (((Zi2 _ _).alloc (Zi3 _) _).trans (HB1.out.mono (by simp)));have h2:Fr (Z2i b sn A) w w2:=h1.trans (HF2.out.mono (fun k _ h=>.inl h));refine ((h2.drew.alloc _).grown HGR.out (fun k hk=>?_)).setCell (p:=⟨b,0,none⟩) (.inl (.inl rfl)) _;rcases A1 with _ | a1
  · cases hk
  · simp only [Value.ownBlock,Option.some.injEq] at hk
    subst hk;rcases HM2.out with ⟨hsn,hA⟩ | ⟨_,g',hg',hA⟩
    · left;right;exact ⟨hsn.symm,a1,hA.symm,rfl⟩
    · injection hA with hA
      subst hA;right;dsimp only;omega
 have z0:w4.cell? ⟨w.heap.size,0,none⟩=some (.int .i64 x.kk.kind):=by
  rw [hw4,World.cell?_setCell_other _ _ _ _ (by intro h;injection h;omega)];refine HGR.out.cell ((World.cell?_alloc_lt w2.drew _ ⟨w.heap.size,0,none⟩ hk2).trans x0) ?_;intro h;exact HXN (by simpa using h.symm)
 have z1:w4.cell? ⟨w.heap.size,1,none⟩=some (.string x.kk.text):=by
  rw [hw4,World.cell?_setCell_other _ _ _ _ (by intro h;injection h;omega)];refine HGR.out.cell ((World.cell?_alloc_lt w2.drew _ ⟨w.heap.size,1,none⟩ hk2).trans x1) ?_;intro h;exact HXN (by simpa using h.symm)
 have z2:w4.cell? ⟨w.heap.size,2,none⟩=some (.int .i64 x.kk.n):=by
  rw [hw4,World.cell?_setCell_other _ _ _ _ (by intro h;injection h;omega)];refine HGR.out.cell ((World.cell?_alloc_lt w2.drew _ ⟨w.heap.size,2,none⟩ hk2).trans x2) ?_;intro h;exact HXN (by simpa using h.symm)
 have z3:w4.cell? ⟨w.heap.size,3,none⟩=some (.int .i64 x.v):=by
  rw [hw4,World.cell?_setCell_other _ _ _ _ (by intro h;injection h;omega)];refine HGR.out.cell ((World.cell?_alloc_lt w2.drew _ ⟨w.heap.size,3,none⟩ hk2).trans x3) ?_;intro h;exact HXN (by simpa using h.symm)
 (have hk4:w.heap.size<w4.heap.size:=by rw [hw4];have:=HGR.out.size;simp at this ⊢;omega);rw [← hw4];have HgM:=hid hgM;have HgMv:=hid hgMv;have HB4:=hid hB4;have HR4:=hid hR4;have HF4:=hid hF4;have s4:=hB4.cell 0;have s4':w4.cell? ⟨b,0,none⟩=some (.slice (some ⟨g,0,none⟩) (l.length+1) c2):=s4;clear s4 hw4 hB4 hR4 hF4 hat hgM hgMv hnil x0 x1 x2 x3 s0 f0;go_wp2_with fail
 go_loopw [7] (fun s wr=>∃i:Nat,s = .int .i64 i∧rank Z0r l x≤i∧i≤l.length∧wr.ownsRow 0 224 4 (.slice (some ⟨g,0,none⟩) (l.length+1) c2) (l.length+1) ((Z1g l x i).flatMap PgS.cells)∧Fr (· = g) w4 wr) (fun s wr=>(intOf s).toNat)
 case atStart=>exact ⟨l.length,by go_num,hrk,Zi3 _,HR4.out,Fr.refl _ _⟩
 case round=>
  obtain ⟨i,rfl,hi1,hi2,hown,hfr⟩:=hrel;have hgw:g<wr.heap.size:=(hown.lt g rfl).2;have r0:wr.cell? ⟨b,0,none⟩=some (.slice (some ⟨g,0,none⟩) (l.length+1) c2):=(hfr.cell (p:=⟨b,0,none⟩) HB4.out.lt (fun h=>hgb h.symm)).trans s4';have fz : ∀o,wr.frozen? ⟨g,o,none⟩=false:=fun o=>hown.frozenAt o;have HOW:=hid hown;have HFR:=hid hfr;clear hown hfr;by_cases hlt:rank Z0r l x<i
  · obtain ⟨j,rfl⟩ : ∃j,i=j+1:=⟨i - 1,by omega⟩
    (have hj:j<l.length:=by omega);have hrd:=Z08 (A:=some ⟨g,0,none⟩) (c:=c2) (l:=Z1g l x (j+1)) PgS.cells_length (by rw [Z1h l x hi2];exact HOW.out);obtain ⟨g',o',hgo,_,hcell⟩:=hrd.at_ (k:=j) (by rw [Z1h l x hi2];omega);injection hgo with hgo;injection hgo with hg1 hg2;subst hg1;subst hg2;rw [Z5t l x hj] at hcell;(have q0:wr.cell? ⟨g,j*4,none⟩=some (.int .i64 l[j].kk.kind):=by simpa using hcell 0 _ rfl);(have q1:wr.cell? ⟨g,j*4+1,none⟩=some (.string l[j].kk.text):=by simpa using hcell 1 _ rfl);(have q2:wr.cell? ⟨g,j*4+2,none⟩=some (.int .i64 l[j].kk.n):=by simpa using hcell 2 _ rfl);have q3:wr.cell? ⟨g,j*4+3,none⟩=some (.int .i64 l[j].v):=by simpa using hcell 3 _ rfl
    have rmj:Room wr g 224 (c2*4)∧l.length+1≤c2:=by
     rcases Z14 HOW.out with ⟨hv,_⟩ | ⟨g',cap,hv,hn,_,hr,_⟩
     · cases hv
     · injection hv with hA _ hc
       injection hA with hA;injection hA with hA;subst hA;subst hc;exact ⟨hr,hn⟩
    obtain ⟨hrm,hcap⟩:=rmj;obtain ⟨u0,t0⟩:=hrm.cell (i:=(j+1)*4) (by omega);obtain ⟨u1,t1⟩:=hrm.cell (i:=(j+1)*4+1) (by omega);obtain ⟨u2,t2⟩:=hrm.cell (i:=(j+1)*4+2) (by omega);obtain ⟨u3,t3⟩:=hrm.cell (i:=(j+1)*4+3) (by omega);(have b0:(0:Int)≤(j:Int)+1:=by omega);(have b1:(0:Int)≤(j:Int):=by omega);(have b4:(j:Int)<(l.length:Int):=by omega);(have b2:(j:Int)<(l.length:Int)+1:=by omega);(have b3:(j:Int)+1<(l.length:Int)+1:=by omega);have w1:IntKind.i64.wrap ((j:Int))=(j:Int):=Zih _ (by omega);(have w2:IntKind.i64.wrap ((j:Int)+1 - 1)=(j:Int):=by rw [Zih _ (by omega)];omega);clear hcell hrd hrm;obtain ⟨y,hy⟩ : ∃y,y=l[j]:=⟨_,rfl⟩;rw [← hy] at q0 q1 q2 q3;have HY:=hid hy;have hbw:b<wr.heap.size:=Ziy wr _ r0;clear hy;(go_wp2_with fail);refine Z05 (fun w9=>Below wr.heap.size wr w9) [(0,0),(1,0),(2,0),(3,1),(4,0),(5,0),(6,0),(7,0),(8,1),(9,0),(10,0),(11,0),(12,1),(13,0),(14,2)] (by kernel_rfl) (by kernel_rfl) (fun KK hKK=>?_);simp only [Z02,Zib,Zi5,Zi9,Zi8,Zi7,Zif];(repeat ((first | (refine Z0a ?_ (Or.inl ⟨by rfl,fun w9=>?_⟩) ?_;rotate_left 1;go_simp;with_reducible rfl) | (refine Z06 ?_ (((Zi2 _ _).drew)) (Or.inl ⟨by rfl,fun w9 hw9=>?_⟩) ?_;rotate_left 1;obtain ⟨hc9,hf9⟩:=Z0e hw9;go_simp;with_reducible rfl) | refine Z0a undef (Or.inr ⟨by rfl,rfl⟩) ?_ | refine Z06 undef (((Zi2 _ _).drew)) (Or.inr ⟨by rfl,rfl⟩) ?_);go_frame));refine Z2p (by kernel_rfl) (fun K9 hK9=>?_);go_simp;refine hK9 _ _ ?_;clear hK9 K9;refine Z0z ?_;simp only [Z00];refine hKK _ _ ?_;clear hKK KK;(go_wp2_with fail);go_roundw
    case rel=>
     refine ⟨j,by go_num,by omega,by omega,?_,Fr.drew (((((HFR.out).setCell (p:=⟨g,(j+1)*4,none⟩) (.inl rfl) (_)).setCell (p:=⟨g,(j+1)*4+1,none⟩) (.inl rfl) (_)).setCell (p:=⟨g,(j+1)*4+2,none⟩) (.inl rfl) (_)).setCell (p:=⟨g,(j+1)*4+3,none⟩) (.inl rfl) (_))⟩;have hst:=((((((((HOW.out).stored ((j+1)*4) (.int .i64 y.kk.kind)).1).stored ((j+1)*4+1) (.string y.kk.text)).1).stored ((j+1)*4+2) (.int .i64 y.kk.n)).1).stored ((j+1)*4+3) (.int .i64 y.v)).1
     have he:setAll ((Z1g l x (j+1)).flatMap PgS.cells) ((j+1)*4) (PgS.cells y)=(Z1g l x j).flatMap PgS.cells:=by
      rw [Z62 PgS.cells_length (by omega) _ (j+1) (by rw [Z1h l x hi2];omega),HY.out,Z5u l x hj]
     rw [← he];exact hst
    case measure=>simp [intOf]<;>omega
  · obtain rfl:i=rank Z0r l x:=by omega
    have rmj:Room wr g 224 (c2*4)∧l.length+1≤c2:=by
     rcases Z14 HOW.out with ⟨hv,_⟩ | ⟨g',cap,hv,hn,_,hr,_⟩
     · cases hv
     · injection hv with hA _ hc
       injection hA with hA;injection hA with hA;subst hA;subst hc;exact ⟨hr,hn⟩
    obtain ⟨hrm,hcap⟩:=rmj;obtain ⟨k,hk⟩ : ∃k,k=rank Z0r l x:=⟨_,rfl⟩;rw [← hk] at hi2 hlt ⊢;obtain ⟨u0,t0⟩:=hrm.cell (i:=k*4) (by omega);obtain ⟨u1,t1⟩:=hrm.cell (i:=k*4+1) (by omega);obtain ⟨u2,t2⟩:=hrm.cell (i:=k*4+2) (by omega);obtain ⟨u3,t3⟩:=hrm.cell (i:=k*4+3) (by omega);have x0:=(HFR.out.cell (p:=⟨w.heap.size,0,none⟩) hk4 (fun h=>hgk1 h.symm)).trans z0;have x1:=(HFR.out.cell (p:=⟨w.heap.size,1,none⟩) hk4 (fun h=>hgk1 h.symm)).trans z1;have x2:=(HFR.out.cell (p:=⟨w.heap.size,2,none⟩) hk4 (fun h=>hgk1 h.symm)).trans z2;have x3:=(HFR.out.cell (p:=⟨w.heap.size,3,none⟩) hk4 (fun h=>hgk1 h.symm)).trans z3;(have b1:(0:Int)≤(k:Int):=by omega);(have b2:(k:Int)<(l.length:Int)+1:=by omega);have HK:=hid hk;(have hkw:w.heap.size<wr.heap.size:=by have:=HFR.out.size;omega);have hbw:b<wr.heap.size:=Ziy wr _ r0;clear hrm hk z0 z1 z2 z3;(go_wp2_with fail);refine Z05 (fun w9=>Below wr.heap.size wr w9) [(0,0),(1,0),(2,0),(3,1),(4,0),(5,1),(6,0),(7,2)] (by kernel_rfl) (by kernel_rfl) (fun KK hKK=>?_);simp only [Z02,Zib,Zi5,Zi9,Zi8,Zi7,Zif];(repeat ((first | (refine Z0a ?_ (Or.inl ⟨by rfl,fun w9=>?_⟩) ?_;rotate_left 1;go_simp;with_reducible rfl) | (refine Z06 ?_ (((Zi2 _ _).drew)) (Or.inl ⟨by rfl,fun w9 hw9=>?_⟩) ?_;rotate_left 1;obtain ⟨hc9,hf9⟩:=Z0e hw9;go_simp;with_reducible rfl) | refine Z0a undef (Or.inr ⟨by rfl,rfl⟩) ?_ | refine Z06 undef (((Zi2 _ _).drew)) (Or.inr ⟨by rfl,rfl⟩) ?_);go_frame));refine Z2p (by kernel_rfl) (fun K9 hK9=>?_);go_simp;refine hK9 _ _ ?_;clear hK9 K9;refine Z0z ?_;simp only [Z00];refine hKK _ _ ?_;clear hKK KK;(go_wp2_with fail);go_ret;have HOWk:=HOW.out;rw [← HK.out] at HOWk;have hst:=((((((((HOWk).stored (k*4) (.int .i64 x.kk.kind)).1).stored (k*4+1) (.string x.kk.text)).1).stored (k*4+2) (.int .i64 x.kk.n)).1).stored (k*4+3) (.int .i64 x.v)).1
    have he:setAll ((Z1g l x k).flatMap PgS.cells) (k*4) (PgS.cells x)=(put Z0r l x).flatMap PgS.cells:=by
     rw [Z62 PgS.cells_length (by omega) _ k (by rw [Z1h l x hi2];omega),Z6u l x hi2,Zb8 Z3e HO.out hh,HK.out]
    have hln:=Z4h Z3e HO.out hh;refine ⟨by rw [hh];rfl,false,some ⟨g,0,none⟩,c2,⟨?_,?_⟩,?_,?_⟩
    · rw [hln]
      exact ((((HB4.out.fr HFR.out (fun h=>hgb h.symm)).far (p:=⟨g,k*4,none⟩) (fun h=>hgb h.symm) _).far (p:=⟨g,k*4+1,none⟩) (fun h=>hgb h.symm) _).far (p:=⟨g,k*4+2,none⟩) (fun h=>hgb h.symm) _).far (p:=⟨g,k*4+3,none⟩) (fun h=>hgb h.symm) _
    · rw [hln,← he]
      exact hst
    · exact HF4.out.into (Fr.drew (((((HFR.out).setCell (p:=⟨g,k*4,none⟩) (.inl rfl) (_)).setCell (p:=⟨g,k*4+1,none⟩) (.inl rfl) (_)).setCell (p:=⟨g,k*4+2,none⟩) (.inl rfl) (_)).setCell (p:=⟨g,k*4+3,none⟩) (.inl rfl) (_))) (fun k hk=>by subst hk;exact HgM.out)
    · exact HgMv.out
theorem Ze3 (b c:Nat) (sn:Bool) (A:Option Addr) (l:List PgS) (x:PgS) (w:World) (hS:Z23 w b sn A c l) (hs:Srt Z0r l) (hl:(l.length:Int)≤100000000) :
 Calls Tryz.prog 183 #[.pointer (some ⟨b,0,none⟩),.agg #[.int .i64 x.kk.kind,.string x.kk.text,.int .i64 x.kk.n,.int .i64 x.v]] w (Z5g w b sn A l x):=by
 cases hh:has Z0r l x
 · exact Zae b c sn A l x w hS hs hl hh
 · exact Z86 b c sn A l x w hS hs hl hh
theorem Z7d (b c:Nat) (sn:Bool) (A:Option Addr) (l:List PgS) (x:PgS) (w:World) (hS:Z23 w b sn A c l) (hs:Srt Z0r l) (hl:(l.length:Int)≤1000000000) (hh:has Z0r l x=false) :
 Calls Tryz.prog 146 #[.pointer (some ⟨b,0,none⟩),.agg #[.int .i64 x.kk.kind,.string x.kk.text,.int .i64 x.kk.n,.int .i64 x.v]] w fun e w'=>e = .returned (.tuple #[.agg #[.int .i64 0,.string ⟨#[]⟩,.int .i64 0,.int .i64 0],.bool false])∧Below w.heap.size w w':=by
 have HS:=hid hS;have HO:=hid hs;clear hS hs;go_enter Tryz.func146,Tryz.ntmps146;(go_wp2_with fail);refine (Z61 b c sn A l x _ (HS.out.new_ ((((Zi2 _ _).alloc (Zi3 _) _).alloc (by simp) _).alloc (by simp;omega) _)) HO.out (by omega)).mono ?_;rintro e w1 ⟨rfl,hb1⟩;obtain ⟨hc1,hf1⟩:=Z0e hb1;(have hz1:w.heap.size+2<w1.heap.size:=by have:=hb1.size;simp at this;omega);have HB:=hid ((((((Zi2 w.heap.size w).alloc (Zi3 _) _).alloc (by simp) _).alloc (by simp;omega) _)).trans (hb1.mono (by simp;omega)));clear hb1;(go_wp2_with fail);exact bodyPost_ret (v:=.tuple #[.agg #[.int .i64 0,.string ⟨#[]⟩,.int .i64 0,.int .i64 0],.bool false]) (by simp [results,Tryz.results146,go_sem,hc1]) rfl ⟨rfl,by (repeat (first | exact Zi2 _ _ | exact HB.out | refine Below.drew ?_ | refine Below.al ?_ _ | refine Below.sc ?_ _))⟩
theorem Zbu (b c:Nat) (sn:Bool) (A:Option Addr) (l:List PgS) (x y:PgS) (w:World) (hS:Z23 w b sn A c l) (hs:Srt Z0r l) (hl:(l.length:Int)≤1000000000) (hh:has Z0r l x=true) (hy:l[rank Z0r l x]? = some y) :
 Calls Tryz.prog 146 #[.pointer (some ⟨b,0,none⟩),.agg #[.int .i64 x.kk.kind,.string x.kk.text,.int .i64 x.kk.n,.int .i64 x.v]] w fun e w'=>e = .returned (.tuple #[.agg #[.int .i64 y.kk.kind,.string y.kk.text,.int .i64 y.kk.n,.int .i64 y.v],.bool true])∧Below w.heap.size w w':=by
 have HS:=hid hS;have HO:=hid hs;obtain ⟨hrk,hye⟩:=Zig.1 hy;have hrd:=hS.rd PgS.cells_length;have s0:=hS.cell0;have hb:=hS.lt;clear hS hs hy;obtain ⟨g,off,rfl,hgs,hcell⟩:=hrd.at_ hrk;rw [hye] at hcell;obtain ⟨k,hk⟩ : ∃k,k=rank Z0r l x:=⟨_,rfl⟩;rw [← hk] at hcell hrk;(have q0:w.cell? ⟨g,off+k*4,none⟩=some (.int .i64 y.kk.kind):=by simpa using hcell 0 _ rfl);(have q1:w.cell? ⟨g,off+k*4+1,none⟩=some (.string y.kk.text):=by simpa using hcell 1 _ rfl);(have q2:w.cell? ⟨g,off+k*4+2,none⟩=some (.int .i64 y.kk.n):=by simpa using hcell 2 _ rfl);(have q3:w.cell? ⟨g,off+k*4+3,none⟩=some (.int .i64 y.v):=by simpa using hcell 3 _ rfl);(have b1:(0:Int)≤(k:Int):=by omega);(have b2:(k:Int)<(l.length:Int):=by omega);have HK:=hid hk;clear hcell hrd hye hk;go_enter Tryz.func146,Tryz.ntmps146;(go_wp2_with fail);refine (Z61 b c sn _ l x _ (HS.out.new_ ((((Zi2 _ _).alloc (Zi3 _) _).alloc (by simp) _).alloc (by simp;omega) _)) HO.out (by omega)).mono ?_;rintro e w1 ⟨rfl,hb1⟩;rw [← HK.out];obtain ⟨hc1,hf1⟩:=Z0e hb1;(have hz1:w.heap.size+2<w1.heap.size:=by have:=hb1.size;simp at this;omega);have HB:=hid ((((((Zi2 w.heap.size w).alloc (Zi3 _) _).alloc (by simp) _).alloc (by simp;omega) _)).trans (hb1.mono (by simp;omega)));clear hb1;have r0:=(HB.out.cell (p:=⟨b,0,none⟩) hb).trans s0;have r1:=(HB.out.cell (p:=⟨g,off+k*4,none⟩) hgs).trans q0;have r2:=(HB.out.cell (p:=⟨g,off+k*4+1,none⟩) hgs).trans q1;have r3:=(HB.out.cell (p:=⟨g,off+k*4+2,none⟩) hgs).trans q2;have r4:=(HB.out.cell (p:=⟨g,off+k*4+3,none⟩) hgs).trans q3;clear s0 q0 q1 q2 q3;(go_wp2_with fail);exact bodyPost_ret (v:=.tuple #[.agg #[.int .i64 y.kk.kind,.string y.kk.text,.int .i64 y.kk.n,.int .i64 y.v],.bool true]) (by simp [results,Tryz.results146,go_sem,hc1]) rfl ⟨rfl,by (repeat (first | exact Zi2 _ _ | exact HB.out | refine Below.drew ?_ | refine Below.al ?_ _ | refine Below.sc ?_ _))⟩
def Zbi (w:World) (xs:List PgS) (e:Ending) (w':World):Prop:=
 ∃k,e = .returned (.pointer (some ⟨k,0,none⟩))∧w.heap.size≤k∧∃sn A c,Z23 w' k sn A c (puts Z0r [] xs)∧AIn A (w.heap.size≤·)∧Below w.heap.size w w'
theorem Zh3 (A:Option Addr) (c:Nat) (xs:List PgS) (w:World) (hrd:Z0h w 4 PgS.cells A c xs) (hl:(xs.length:Int)≤10000000) :
 Calls Tryz.prog 140 #[.slice A xs.length c] w (Zbi w xs):=by
 have HRD:=hid hrd;clear hrd;go_enter Tryz.func140,Tryz.ntmps140;(go_wp2_with fail);obtain ⟨W0,hW0⟩ : ∃W0,W0=w.alloc (.cells #[.slice none 0 0,.bool false] 281):=⟨_,rfl⟩;(have hb0:Below w.heap.size w W0:=by rw [hW0];exact (Zi2 _ _).alloc (Zi3 _) _);have hS0:Z23 W0 w.heap.size false none 0 []:=⟨by rw [hW0];exact Blk.new _ _ _,⟨by simp,.inl ⟨rfl,rfl⟩⟩⟩;rw [← hW0];clear hW0;have HB0:=hid hb0;have HS0:=hid hS0;clear hb0 hS0
 go_loopw [10] (fun s wr=>∃i:Nat,s = .int .i64 i∧i≤xs.length∧∃sn A' c',Z23 wr w.heap.size sn A' c' (puts Z0r [] (xs.take i))∧AIn A' (w.heap.size≤·)∧Below w.heap.size w wr) (fun s wr=>xs.length - (intOf s).toNat)
 case atStart=>exact ⟨0,rfl,Nat.zero_le _,false,none,0,HS0.out,AIn.none_ _,HB0.out⟩
 case round=>
  obtain ⟨i,rfl,hi,sn,A',c',hS,hA',hB⟩:=hrel;have HS:=hid hS;have HA:=hid hA';have HB:=hid hB;clear hS hA' hB;by_cases hlt:i<xs.length
  · obtain ⟨x,hx⟩ : ∃x,x=xs[i]:=⟨_,rfl⟩
    obtain ⟨g,off,rfl,hgs,hcell⟩:=(HRD.out.fr (Fr.of_new (M:=fun _=>False) HB.out) (fun _ _ h=>h)).at_ hlt;rw [← hx] at hcell;(have q0:wr.cell? ⟨g,off+i*4,none⟩=some (.int .i64 x.kk.kind):=by simpa using hcell 0 _ rfl);(have q1:wr.cell? ⟨g,off+i*4+1,none⟩=some (.string x.kk.text):=by simpa using hcell 1 _ rfl);(have q2:wr.cell? ⟨g,off+i*4+2,none⟩=some (.int .i64 x.kk.n):=by simpa using hcell 2 _ rfl);(have q3:wr.cell? ⟨g,off+i*4+3,none⟩=some (.int .i64 x.v):=by simpa using hcell 3 _ rfl);(have b1:(0:Int)≤(i:Int):=by omega);(have b2:(i:Int)<(xs.length:Int):=by omega);have HX:=hid hx;clear hcell hx;(go_wp2_with fail);have hsr:=Srt.puts Z3e (xs.take i) (Srt.nil (cmp:=Z0r))
    have hlen:(((puts Z0r [] (xs.take i)).length:Nat):Int)≤100000000:=by
     have:=Z3i Z3e (xs.take i) (Srt.nil (cmp:=Z0r));simp at this;omega
    refine (Ze3 w.heap.size c' sn A' _ x _ (HS.out.new_ ((Zi2 _ _).alloc (Zi3 _) _)) hsr hlen).mono ?_;rintro e w1 ⟨rfl,sn2,A2,c2,hS2,hF2,hM2⟩
    have hB1:Below w.heap.size w w1:=(HB.out.alloc HB.out.size _).trans (hF2.below (by have:=HB.out.size;(try simp);omega) (fun k hk hm=>by
     rcases hm with hm | ⟨_,a,ha,hm⟩
     · omega
     · have:=HA.out a ha;omega))
    have hA2:AIn A2 (w.heap.size≤·):=by
     rcases hM2 with ⟨_,rfl⟩ | ⟨_,g2,hg2,rfl⟩
     · exact HA.out
     · intro a ha;cases ha;have:=HB.out.size;(try simp at hg2 ⊢);omega
    have HS2:=hid hS2;have HB1:=hid hB1;have HA2:=hid hA2;clear hS2 hB1 hA2 hF2 hM2 hsr hlen q0 q1 q2 q3;(go_wp2_with fail);go_roundw
    case rel=>
     refine ⟨i+1,by go_num,by omega,sn2,A2,c2,?_,HA2.out,HB1.out⟩;rw [Zj9,Zic hlt,← HX.out];simp only [Option.toList_some,Z99];exact HS2.out
    case measure=>simp [intOf]<;>omega
  · have hie:i=xs.length:=by omega
    subst hie;(go_wp2_with fail);go_ret;refine ⟨w.heap.size,rfl,Zi3 _,sn,A',c',?_,HA.out,HB.out⟩;have:=HS.out;rwa [Zis] at this
variable {P:Program}
def Plus (D:Nat→Prop) (X Y:World):Nat→Prop:=fun k=>D k∨(X.heap.size≤k∧k<Y.heap.size)
end
section
open Go.RowKit
theorem Fr.setCells {M:Nat→Prop} {a:World} {g:Nat} : ∀(vs:List Value) (o:Nat) {b:World},Fr M a b→(M g∨a.heap.size≤g)→Fr M a (b.setCells g o vs)
 | [],_,_,h,_=>h
 | v :: vs,o,_,h,hg=>Fr.setCells vs (o+1) (h.setCell (p:=⟨g,o,none⟩) hg v) hg
theorem Z43 {g:Nat} {e:TypeId} {size n cap:Nat} : ∀(vs:List Value) (o:Nat) {w:World} {xs:List Value},w.ownsRow 0 e size (.slice (some ⟨g,0,none⟩) n cap) n xs→(w.setCells g o vs).ownsRow 0 e size (.slice (some ⟨g,0,none⟩) n cap) n ((vs.zipIdx o).foldl (fun l (v,j)=>l.set j v) xs)
 | [],_,_,_,h=>h
 | v :: vs,o,_,_,h=>by
   rw [List.zipIdx_cons,List.foldl_cons];exact Z43 vs (o+1) ((h.stored o v).1)
theorem Z9l : ∀(vs:List Value) (o s:Nat) (xs:List Value),(vs.zipIdx (o+s)).foldl (fun l (v,j)=>l.set j v) xs=(vs.zipIdx s).foldl (fun l (v,j)=>l.set (o+j) v) xs
 | [],_,_,_=>rfl
 | v :: vs,o,s,xs=>by
   rw [List.zipIdx_cons,List.zipIdx_cons,List.foldl_cons,List.foldl_cons];exact Z9l vs o (s+1) _
theorem Z6o {α:Type} {cells:α→List Value} {w:World} {g:Nat} {e:TypeId} {size n cap:Nat} (hsz : ∀x,(cells x).length=size) (h0:0<size) {l:List α} (h:w.ownsRow 0 e size (.slice (some ⟨g,0,none⟩) n cap) n (l.flatMap cells)) (k:Nat) (hk:k<l.length) (y:α) :
 (w.setCells g (k*size) (cells y)).ownsRow 0 e size (.slice (some ⟨g,0,none⟩) n cap) n ((l.set k y).flatMap cells):=by
 have h1:=Z43 (w:=w) (cells y) (k*size) h;have h2:=Z9l (cells y) (k*size) 0 (l.flatMap cells);rw [Nat.add_zero] at h2;rw [h2] at h1;have h3:=Z62 hsz h0 l k hk y;unfold setAll at h3;rw [h3] at h1;exact h1
theorem Z09 {P:Program} {ops:Array Oper} {o:Oper} {a:Act} {w:World} {K:Act→World→Prop} {Q:Exit→Act→World→Prop} {E:Prop} (hgd:o.guard=none) (ty:TypeId) (x y:Operand) (ho:o.op = .store ty x y)
 (b off:Nat) (cells:Array Value) (hx:a.eval x = .pointer (some ⟨b,off,none⟩)) (hy:a.eval y = .agg cells)
 (ht:w.there b off cells.size) (hi:(P.info? ty).map (·.size)=some cells.size) (h1:cells.all (·.oneCell')=true)
 (h:K (a.put o.dst undef) (w.setCells b off cells.toList)):if Region.wanted o (yielded ops a.tmps)=true then Oper.wp P o a w K Q else E:=by
 rw [if_pos (by simp [Region.wanted,hgd])];exact wp_store_mid ty x y ho b off cells hx hy ht hi h1 h
theorem Blk.farCells {g':Nat} {t:TypeId} {cs:Array Value} {g:Nat} : ∀(vs:List Value) (o:Nat) {w:World},Blk w g' t cs→g'≠g→Blk (w.setCells g o vs) g' t cs
 | [],_,_,h,_=>h
 | v :: vs,o,_,h,hn=>Blk.farCells vs (o+1) (h.far (p:=⟨g,o,none⟩) hn v) hn
theorem Room.there {w:World} {g:Nat} {e:TypeId} {m:Nat} (h:Room w g e m) {o n:Nat} (hn:o+n≤m):w.there g o n:=fun j hj=>by
 obtain ⟨u,hu⟩:=h.cell (i:=o+j) (by omega);exact ⟨by rw [hu];rfl,h.frozen _⟩
theorem Blk.range {w:World} {g:Nat} {t:TypeId} {cs:Array Value} (h:Blk w g t cs):w.rangeAt g 0 cs.toList:=fun j v hv=>by
 rw [Ziu,h.cell];simpa using hv
theorem Blk.there {w:World} {g:Nat} {t:TypeId} {cs:Array Value} (h:Blk w g t cs):w.there g 0 cs.size:=fun j hj=>by
 rw [Ziu];exact ⟨by rw [h.cell,Array.getElem?_eq_getElem hj];rfl,h.frozen j⟩
theorem Below.setCells' {B:Nat} {a:World} {g:Nat} : ∀(vs:List Value) (o:Nat) {b:World},Below B a b→B≤g→Below B a (b.setCells g o vs)
 | [],_,_,h,_=>h
 | v :: vs,o,_,h,hg=>Below.setCells' vs (o+1) (h.setCell (show B≤(⟨g,o,none⟩:Addr).block from hg) v) hg
theorem Z1a {P:Program} {fn:Func} {t s:Tmp} {T:TypeId} (h:fn.results = #[.cell t T,.tmp s]) (tmps:Array Value) (w:World) (g:Nat) (cs:List Value) (d:TypeDesc) (ht:tmps.getD t undef = .pointer (some ⟨g,0,none⟩)) (hc:w.rangeAt g 0 cs)
 (hu:P.underlying T=some d) (hd:d.isRow=true) (hi:(P.info? T).map (·.size)=some cs.length):(results fn tmps).run P w = .ok (.tuple #[.agg cs.toArray,tmps.getD s undef]) w:=by
 have hl:=run_loadVar_mid (P:=P) w g 0 T cs d hc hu hd hi;(have ht':tmps[t]?.getD undef = .pointer (some ⟨g,0,none⟩):=by simpa using ht);simp [results,h,ht',asAddr,hl]
theorem Z2f {P:Program} {fn:Func} {t:Tmp} {T:TypeId} (h:fn.results = #[.cell t T]) (tmps:Array Value) (w:World) (g:Nat) (cs:List Value) (d:TypeDesc) (ht:tmps.getD t undef = .pointer (some ⟨g,0,none⟩)) (hc:w.rangeAt g 0 cs)
 (hu:P.underlying T=some d) (hd:d.isRow=true) (hi:(P.info? T).map (·.size)=some cs.length):(results fn tmps).run P w = .ok (.agg cs.toArray) w:=by
 have hl:=run_loadVar_mid (P:=P) w g 0 T cs d hc hu hd hi;(have ht':tmps[t]?.getD undef = .pointer (some ⟨g,0,none⟩):=by simpa using ht);simp [results,h,ht',asAddr,hl]
theorem Z0h.range {α:Type} {w:World} {size c:Nat} {cells:α→List Value} {A:Option Addr} {l:List α} (h:Z0h w size cells A c l) {k:Nat} (hk:k<l.length) : ∃b off,A=some ⟨b,off,none⟩∧b<w.heap.size∧w.rangeAt b (off+k*size) (cells l[k]):=by
 obtain ⟨b,off,h1,h2,h3⟩:=h.at_ hk;exact ⟨b,off,h1,h2,fun j v hv=>h3 j v hv⟩
theorem Z1o {w w':World} {B g o:Nat} {cs:List Value} (h:w.rangeAt g o cs) (hb:Below B w w') (hg:g<B):w'.rangeAt g o cs:=fun j v hv=>(hb.cell (p:=⟨g,o+j,none⟩) hg).trans (h j v hv)
variable {P:Program} {α:Type}
section
variable {J Jx:(Nat→Prop)→List α→World→Prop} {D E E':Nat→Prop} {W X Y:World} {pre xs:List α}
end
theorem Z0b (b:Nat) : ∀(vs:List Value) (o:Nat) (w:World),(w.setCells b o vs).heap.size=w.heap.size
 | [],_,_=>rfl
 | v :: r,o,w=>by rw [World.setCells,Z0b b r (o+1)];simp [World.setCell]
theorem Z4g {w:World} {t:TypeId} (zs vs:List Value) (hl:zs.length=vs.length) :
 ∃W,W=(w.alloc (.cells zs.toArray t)).setCells w.heap.size 0 vs∧(w.alloc (.cells zs.toArray t)).there w.heap.size 0 vs.toArray.size∧W.rangeAt w.heap.size 0 vs∧Below w.heap.size w W∧W.heap.size=w.heap.size+1:=by
 have ht:(w.alloc (.cells zs.toArray t)).there w.heap.size 0 vs.length:=by
  have:=(Blk.new w t zs.toArray).there;rwa [show zs.toArray.size=vs.length by simpa using hl] at this
 refine ⟨_,rfl,by simpa using ht,Zi6 _ _ _ _ ht,Below.setCells' _ _ ((Zi2 _ _).alloc (Zi3 _) _) (Zi3 _),?_⟩;rw [Z0b,Zid]
theorem Blk.setCells_ {g:Nat} {t:TypeId} : ∀(vs:List Value) (o:Nat) {w:World} {cs:Array Value},Blk w g t cs→∃cs',Blk (w.setCells g o vs) g t cs'∧cs'.size=cs.size
 | [],_,_,cs,h=>⟨cs,h,rfl⟩
 | v :: vs,o,w,cs,h=>by
   obtain ⟨cs',h1,h2⟩:=Blk.setCells_ vs (o+1) (h.set_ o v);exact ⟨cs',h1,by rw [h2];simp⟩
theorem Z1n {w W:World} {t:TypeId} {zs vs:List Value} (hl:zs.length=vs.length) (hW:W=(w.alloc (.cells zs.toArray t)).setCells w.heap.size 0 vs) (hr:W.rangeAt w.heap.size 0 vs):Blk W w.heap.size t vs.toArray:=by
 obtain ⟨cs',h1,h2⟩:=Blk.setCells_ vs 0 (Blk.new w t zs.toArray);rw [← hW] at h1
 have e:cs'=vs.toArray:=by
  apply Array.ext
  · rw [h2];simpa using hl
  · intro i hi hj
    (have hj':i<vs.length:=by simpa using hj);have h3:=hr i vs[i] (Zic hj');rw [show (0+i)=i by omega,h1.cell i,Array.getElem?_eq_getElem hi] at h3;simpa using h3
 rw [← e];exact h1
theorem Z1r {E:Nat→Prop} {X Y:World} {e:TypeId} {size n m:Nat} {A:Option Addr} {c:Nat} {v':Value} {xs news:List Value} (hA:AIn A E) (hown':Y.ownsRow 0 e size v' (n+m) (xs++news)) (hg:X.grownBy Y (Value.slice A n c).ownBlock)
 (hat:v'.ownBlock=(Value.slice A n c).ownBlock∨v'.ownBlock=some X.heap.size) : ∃A' c',v' = .slice A' (n+m) c'∧Fr E X Y∧AIn A' (Plus E X Y)∧Y.ownsRow 0 e size (.slice A' (n+m) c') (n+m) (xs++news):=by
 obtain ⟨A',c',rfl,hc,_,hz⟩:=Z2w hown';refine ⟨A',c',rfl,(Fr.refl E X).grown hg (fun k hk=>?_),fun a ha=>?_,hown'⟩
 · rcases A with _ | a
   · simp [Value.ownBlock] at hk
   · have e:a.block=k:=by simpa [Value.ownBlock] using hk
     exact .inl (e ▸ hA a rfl)
 · subst ha
   rcases hat with h | h
   · rcases A with _ | b
     · simp [Value.ownBlock] at h
     · have e:a.block=b.block:=by simpa [Value.ownBlock] using h
       exact .inl (e ▸ hA b rfl)
   · have e:a.block=X.heap.size:=by simpa [Value.ownBlock] using h
     refine .inr ⟨by omega,?_⟩;rcases Z14 hown' with ⟨hv,_⟩ | ⟨g,cap,hv,_,_,hr,_⟩
     · cases hv
     · injection hv with hv
       injection hv with hv;subst hv;exact hr.lt
end
end Go.Proofs.YtldndkngpdfpfaaGreat
