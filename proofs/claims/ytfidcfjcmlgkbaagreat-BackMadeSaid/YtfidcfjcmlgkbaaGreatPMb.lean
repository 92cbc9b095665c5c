/-
  Texts put together: Sets, SetLeaf, Scal, LeafBname, FindBname, OpsBname, PutBname, DropBname, MiscBname, NewBname, WorkBname, FindSym, OpsSym.
-/
import Derived.Test.YtfidcfjcmlgkbaaGreatPMa
import Derived.Test.YtfidcfjcmlgkbaaGreatRows
namespace Go.Proofs.YtfidcfjcmlgkbaaGreat
open Lib (hid)
set_option maxRecDepth 100000
set_option maxHeartbeats 32000000
set_option linter.unusedSimpArgs false
section
open Go.RowKit
structure St where
 sn:Bool
 A:Option Addr
 c:Nat
def upd {β:Type}(S:Nat→β) (b:Nat) (l:β):Nat→β:=fun k=>if k=b then l else S k
theorem Z0r {β:Type}(S:Nat→β) (b:Nat) (l:β):upd S b l b=l:=by simp [upd]
theorem Z1q {β:Type}(S:Nat→β){b k:Nat}(l:β) (h:k≠b):upd S b l k=S k:=by simp [upd,h]
theorem Zne {β:Type}(S:Nat→β) (b:Nat) (l:β) (h:S b=l):upd S b l=S:=by funext k;simp only [upd];split<;>simp_all
structure Sets {α:Type}(tSet tE size:Nat) (cells:α→List Value) (cmp:α→α→Int) (D:Nat→Prop) (w:World) (S:Nat→Option (List α)) (σ:Nat→St):Prop where
 at_ :∀b l,S b=some l→Z25 tSet tE size cells w b (σ b).sn (σ b).A (σ b).c l
 srt :∀b l,S b=some l→Srt cmp l
 out :∀b l,S b=some l→¬D b∧((σ b).sn=false→AIn (σ b).A (fun k=>¬D k))
 apart :∀b l b' l',S b=some l→S b'=some l'→b≠b'→(σ b).sn=false→∀a a',(σ b).A=some a→(σ b').A=some a'→a.block≠a'.block
 low :∀k,D k→k<w.heap.size
section
variable {α:Type}{tSet tE size:Nat}{cells:α→List Value}{cmp:α→α→Int}{D D':Nat→Prop}{w w':World}{S:Nat→Option (List α)}{σ:Nat→St}{b b':Nat}{l l':List α}
theorem Z25.far {sn:Bool}{A:Option Addr}{c:Nat}(h:Z25 tSet tE size cells w b sn A c l){sn':Bool}{A':Option Addr}{c':Nat}(h':Z25 tSet tE size cells w b' sn' A' c' l') (hne:tE≠tSet):AIn A (·≠b'):=by
 intro a e hb;have:=Z02 h.row h'.blk hne;subst e;exact this (by simp [Value.ownBlock,hb])
theorem Sets.start (tSet tE size:Nat) (cells:α→List Value) (cmp:α→α→Int) (w:World):Sets tSet tE size cells cmp (· < w.heap.size) w (fun _=>none) (fun _=>⟨false,none,0⟩):=
 ⟨fun _ _ h=>by simp at h,fun _ _ h=>by simp at h,fun _ _ h=>by simp at h,fun _ _ _ _ h=>by simp at h,fun _ h=>h⟩
theorem Sets.lt (h:Sets tSet tE size cells cmp D w S σ) (hb:S b=some l):b<w.heap.size:=(h.at_ b l hb).lt
theorem Sets.below (h:Sets tSet tE size cells cmp D w S σ) (hw:Below w.heap.size w w'):Sets tSet tE size cells cmp D w' S σ:=
 ⟨fun b l hb=>(h.at_ b l hb).new_ hw,h.srt,h.out,h.apart,fun k hk=>Znn (h.low k hk) hw.size⟩
theorem Sets.weaken (h:Sets tSet tE size cells cmp D w S σ) (hD :∀k,D' k→D k):Sets tSet tE size cells cmp D' w S σ:=
 ⟨h.at_,h.srt,fun b l hb=>⟨fun hk=>(h.out b l hb).1 (hD _ hk),fun hs=>((h.out b l hb).2 hs).mono (fun _ hk hd=>hk (hD _ hd))⟩,h.apart,fun k hk=>h.low k (hD k hk)⟩
theorem Sets.widen (h:Sets tSet tE size cells cmp D w S σ) (n:Nat) (hn :∀b l,S b=some l→b<n∧((σ b).sn=false→AIn (σ b).A (· < n))):Sets tSet tE size cells cmp (fun k=>D k∨(n≤k∧k<w.heap.size)) w S σ:=
 ⟨h.at_,h.srt,fun b l hb=>⟨fun hk=>by
  rcases hk with hk|hk
  · exact (h.out b l hb).1 hk
  · have:=(hn b l hb).1;omega,fun hs a ha hk=>by
  rcases hk with hk|hk
  · exact (h.out b l hb).2 hs a ha hk
  · have:=(hn b l hb).2 hs a ha;omega⟩,h.apart,fun k hk=>by
  rcases hk with hk|hk
  · exact h.low k hk
  · exact hk.2⟩
theorem Sets.protect (h:Sets tSet tE size cells cmp D w S σ) (hw:Below w.heap.size w w'):Sets tSet tE size cells cmp (fun k=>D k∨(w.heap.size≤k∧k<w'.heap.size)) w' S σ:=
 (h.below hw).widen w.heap.size (fun b l hb=>⟨h.lt hb,fun _=>(h.at_ b l hb).row_lt⟩)
theorem Sets.mod (h:Sets tSet tE size cells cmp D w S σ) (hb:S b=some l) (hF:Fr (Z1f b (σ b).sn (σ b).A) w w'):Fr (fun k=>¬D k) w w':=
 hF.mono (fun k _ hk=>by
  rcases hk with rfl|⟨hs,a,ha,rfl⟩
  · exact (h.out _ l hb).1
  · exact (h.out b l hb).2 hs a ha)
theorem Sets.moved (h:Sets tSet tE size cells cmp D w S σ) (hne:tE≠tSet) (hb:S b=some l){sn':Bool}{A':Option Addr}{c':Nat}(h1:Z25 tSet tE size cells w' b sn' A' c' l') (hs:Srt cmp l')
 (hF:Fr (Z1f b (σ b).sn (σ b).A) w w') (hM:Z32 w (σ b).sn (σ b).A sn' A'):Sets tSet tE size cells cmp D w' (upd S b (some l')) (upd σ b ⟨sn',A',c'⟩):=by
 have hB:=h.at_ b l hb;refine ⟨fun k m hk=>?_,fun k m hk=>?_,fun k m hk=>?_,fun k m k' m' hk hk' hkk hsk a a' ha ha'=>?_,fun k hk=>Znn (h.low k hk) hF.size⟩
 · by_cases e:k=b
   · subst e;rw [Z0r] at hk ⊢;cases hk;exact h1
   · rw [Z1q _ _ e] at hk ⊢
     have hK:=h.at_ k m hk;refine hK.fr hF ?_ ?_
     · rintro (hx|⟨hx,a,ha,hx2⟩)
       · exact e hx
       · exact hB.far hK hne a ha hx2
     · intro a ha hx
       rcases hx with hx|⟨hx,a2,ha2,hx2⟩
       · exact hK.far hB hne a ha hx
       · exact h.apart b l k m hb hk (Ne.symm e) hx a2 a ha2 ha hx2
 · by_cases e:k=b
   · subst e;rw [Z0r] at hk;cases hk;exact hs
   · rw [Z1q _ _ e] at hk;exact h.srt k m hk
 · by_cases e:k=b
   · subst e;rw [Z0r] at hk ⊢;cases hk
     refine ⟨(h.out _ _ hb).1,fun hs2=>?_⟩;rcases hM with ⟨e1,e2⟩|⟨_,g,hg,e2⟩
     · simp only at hs2 ⊢;rw [e2];exact (h.out _ _ hb).2 (by rw [←e1];exact hs2)
     · simp only;rw [e2];intro a ha hd;cases ha;have:=h.low _ hd;simp at this;omega
   · rw [Z1q _ _ e] at hk ⊢;exact h.out k m hk
 · by_cases e:k=b
   · subst e
     have e':k'≠k:=Ne.symm hkk;rw [Z1q _ _ e'] at hk' ha';rw [Z0r] at hsk ha;simp only at hsk ha;rcases hM with ⟨e1,e2⟩|⟨_,g,hg,e2⟩
     · exact h.apart k l k' m' hb hk' hkk (by rw [←e1];exact hsk) a a' (by rw [←e2];exact ha) ha'
     · rw [e2] at ha;cases ha
       have:=(h.at_ k' m' hk').row_lt a' ha';simp only;omega
   · rw [Z1q _ _ e] at hk hsk ha
     by_cases e2:k'=b
     · subst e2
       rw [Z0r] at ha';simp only at ha';rcases hM with ⟨_,e3⟩|⟨_,g,hg,e3⟩
       · exact h.apart k m k' l hk hb hkk hsk a a' ha (by rw [←e3];exact ha')
       · rw [e3] at ha';cases ha'
         have:=(h.at_ k m hk).row_lt a ha;simp only;omega
     · rw [Z1q _ _ e2] at hk' ha'
       exact h.apart k m k' m' hk hk' hkk hsk a a' ha ha'
theorem Sets.seen (h:Sets tSet tE size cells cmp D w S σ) (hne:tE≠tSet) (hb:S b=some l) (h1:Z25 tSet tE size cells w' b true (σ b).A (σ b).c l) (hF:Fr (· = b) w w') :
 Sets tSet tE size cells cmp D w' S (upd σ b ⟨true,(σ b).A,(σ b).c⟩):=by
 have hB:=h.at_ b l hb;refine ⟨fun k m hk=>?_,h.srt,fun k m hk=>?_,fun k m k' m' hk hk' hkk hsk a a' ha ha'=>?_,fun k hk=>Znn (h.low k hk) hF.size⟩
 · by_cases e:k=b
   · subst e;rw [Z0r];rw [hb] at hk;cases hk;exact h1
   · rw [Z1q _ _ e]
     exact (h.at_ k m hk).fr hF e (fun a ha hx=>(h.at_ k m hk).far hB hne a ha hx)
 · refine ⟨(h.out k m hk).1,fun hs=>?_⟩
   by_cases e:k=b
   · subst e;rw [Z0r] at hs;cases hs
   · rw [Z1q _ _ e] at hs ⊢;exact (h.out k m hk).2 hs
 · by_cases e:k=b
   · subst e;rw [Z0r] at hsk;cases hsk
   · rw [Z1q _ _ e] at hsk ha
     by_cases e2:k'=b
     · subst e2;rw [Z0r] at ha';exact h.apart k m k' m' hk hk' hkk hsk a a' ha ha'
     · rw [Z1q _ _ e2] at ha';exact h.apart k m k' m' hk hk' hkk hsk a a' ha ha'
theorem Sets.add (h:Sets tSet tE size cells cmp D w S σ){k:Nat}{sn':Bool}{A':Option Addr}{c':Nat}(hk:w.heap.size≤k) (h1:Z25 tSet tE size cells w' k sn' A' c' l') (hs:Srt cmp l')
 (hA:AIn A' (w.heap.size≤·)∨(sn'=true∧∃b l,S b=some l∧(σ b).sn=true∧(σ b).A=A')) (hF:Below w.heap.size w w'):Sets tSet tE size cells cmp D w' (upd S k (some l')) (upd σ k ⟨sn',A',c'⟩):=by
 (have hnk :∀b l,S b=some l→b≠k:=fun b l hb e=>by have:=h.lt hb;omega);refine ⟨fun b m hb=>?_,fun b m hb=>?_,fun b m hb=>?_,fun b m b' m' hb hb' hkk hsk a a' ha ha'=>?_,fun k hk=>Znn (h.low k hk) hF.size⟩
 · by_cases e:b=k
   · subst e;rw [Z0r] at hb ⊢;cases hb;exact h1
   · rw [Z1q _ _ e] at hb ⊢;exact (h.at_ b m hb).new_ hF
 · by_cases e:b=k
   · subst e;rw [Z0r] at hb;cases hb;exact hs
   · rw [Z1q _ _ e] at hb;exact h.srt b m hb
 · by_cases e:b=k
   · subst e;rw [Z0r] at hb ⊢;cases hb
     refine ⟨fun hd=>by have:=h.low _ hd;omega,fun hs2 a ha hd=>?_⟩;have h3:=h.low _ hd;rcases hA with hA|⟨hA,_⟩
     · have:=hA a ha;omega
     · simp only at hs2;rw [hA] at hs2;cases hs2
   · rw [Z1q _ _ e] at hb ⊢;exact h.out b m hb
 · by_cases e:b=k
   · subst e
     rw [Z1q _ _ (Ne.symm hkk)] at hb' ha';rw [Z0r] at hsk ha;simp only at hsk ha;have h3:=(h.at_ b' m' hb').row_lt a' ha';rcases hA with hA|⟨hA,_⟩
     · have:=hA a ha;omega
     · rw [hA] at hsk;cases hsk
   · rw [Z1q _ _ e] at hb hsk ha
     have h3:=(h.at_ b m hb).row_lt a ha;by_cases e2:b'=k
     · subst e2
       rw [Z0r] at ha';simp only at ha';rcases hA with hA|⟨_,b2,l2,hb2,hs2,hA⟩
       · have:=hA a' ha';omega
       · by_cases e3:b=b2
         · subst e3;rw [hsk] at hs2;cases hs2
         · exact h.apart b m b2 l2 hb hb2 e3 hsk a a' ha (hA.trans ha')
     · rw [Z1q _ _ e2] at hb' ha'
       exact h.apart b m b' m' hb hb' hkk hsk a a' ha ha'
end
end
section
open Go.RowKit
def Sym.cells (s:Sym):List Value:=[.int .i64 s.kind,.string s.text,.int .i64 s.n]
theorem Sym.cells_length (s:Sym):s.cells.length=3:=rfl
theorem Zho (a:Int) (w:World):Calls Tryz.prog 229 #[.int .i64 a] w fun e w'=>e = .returned (.bool false)∧w=w':=by
 go_enter Tryz.func229,Tryz.ntmps229;go_wp2;go_ret;exact ⟨by simp,rfl⟩
theorem Zhp (a:ByteArray) (w:World):Calls Tryz.prog 230 #[.string a] w fun e w'=>e = .returned (.bool false)∧w=w':=by
 go_enter Tryz.func230,Tryz.ntmps230;go_wp2;go_ret;exact ⟨by simp,rfl⟩
theorem Zd9 (a b:Int) (w:World):Calls Tryz.prog 227 #[.int .i64 a,.int .i64 b] w fun e w'=>e = .returned (.int .i64 (Z30 a b))∧w=w':=by
 go_enter Tryz.func227,Tryz.ntmps227;go_wp2_with (go_at_call 229;refine (Zho _ _).mono ?_;rintro e w' ⟨rfl,rfl⟩)
 all_goals (go_ret;refine ⟨?_,rfl⟩;unfold Z30;(repeat' split)<;>first|rfl|(exfalso;omega))
theorem Zda (a b:ByteArray) (w:World):Calls Tryz.prog 228 #[.string a,.string b] w fun e w'=>e = .returned (.int .i64 (Z2h a b))∧w=w':=by
 go_enter Tryz.func228,Tryz.ntmps228;go_wp2_with (go_at_call 230;refine (Zhp _ _).mono ?_;rintro e w' ⟨rfl,rfl⟩)
 all_goals (go_ret;refine ⟨?_,rfl⟩;unfold Z2h;(repeat' split)<;>first|rfl|(exfalso;simp_all))
theorem Zls (a b:Sym) (w:World) :
 Calls Tryz.prog 226 #[.agg #[.int .i64 a.kind,.string a.text,.int .i64 a.n],.agg #[.int .i64 b.kind,.string b.text,.int .i64 b.n]] w fun e w'=>e = .returned (.int .i64 (Z1h a b))∧Below w.heap.size w w':=by
 obtain ⟨ak,at_,an⟩:=a;obtain ⟨bk,bt,bn⟩:=b;by_cases h1:Z30 ak bk=0
 · have n1:(Z30 ak bk != 0)=false:=by simp [h1]
   by_cases h2:Z2h at_ bt=0
   · have n2:(Z2h at_ bt != 0)=false:=by simp [h2]
     (have HF:Hid (Z1h ⟨ak,at_,an⟩ ⟨bk,bt,bn⟩=Z30 an bn):=by simp [Hid,Z1h,andThen,h1,h2]);clear h1 h2;go_enter Tryz.func226,Tryz.ntmps226;(go_wp2_with (first|(go_at_call 227;refine (Zd9 _ _ _).mono ?_;rintro e w' ⟨rfl,rfl⟩)|(go_at_call 228;refine (Zda _ _ _).mono ?_;rintro e w' ⟨rfl,rfl⟩)));go_ret;exact ⟨by rw [HF.out];rfl,((Znk _ _).alloc (Znl _) _).alloc (by simp) _⟩
   · have n2:(Z2h at_ bt != 0)=true:=by simp [h2]
     (have HF:Hid (Z1h ⟨ak,at_,an⟩ ⟨bk,bt,bn⟩=Z2h at_ bt):=by simp [Hid,Z1h,andThen,h1,h2]);clear h1 h2;go_enter Tryz.func226,Tryz.ntmps226;(go_wp2_with (first|(go_at_call 227;refine (Zd9 _ _ _).mono ?_;rintro e w' ⟨rfl,rfl⟩)|(go_at_call 228;refine (Zda _ _ _).mono ?_;rintro e w' ⟨rfl,rfl⟩)));go_ret;exact ⟨by rw [HF.out];rfl,((Znk _ _).alloc (Znl _) _).alloc (by simp) _⟩
 · have n1:(Z30 ak bk != 0)=true:=by simp [h1]
   (have HF:Hid (Z1h ⟨ak,at_,an⟩ ⟨bk,bt,bn⟩=Z30 ak bk):=by simp [Hid,Z1h,andThen,h1]);clear h1;go_enter Tryz.func226,Tryz.ntmps226;(go_wp2_with (first|(go_at_call 227;refine (Zd9 _ _ _).mono ?_;rintro e w' ⟨rfl,rfl⟩)|(go_at_call 228;refine (Zda _ _ _).mono ?_;rintro e w' ⟨rfl,rfl⟩)));go_ret;exact ⟨by rw [HF.out];rfl,((Znk _ _).alloc (Znl _) _).alloc (by simp) _⟩
theorem Z4h {α:Type}{cells:α→List Value}(hsz :∀x,(cells x).length=1) (_h0:0<1) (l:List α) (k:Nat) (hk:k<l.length) (y:α) :
 setAll (l.flatMap cells) k (cells y)=(l.set k y).flatMap cells:=by
 have h:=Z8p hsz (by omega) l k hk y;rwa [Nat.mul_one] at h
abbrev Z0p:=ByteArray
def Z0p.cells (n:Z0p):List Value:=[.string n]
theorem Z0p.cells_length (n:Z0p):(Z0p.cells n).length=1:=rfl
def Z01 (a b:Z0p):Int:=Z2h a b
theorem Z2g:TC Z01:=Zj3
theorem Z5e {a b:Z0p}:Z01 a b=0↔a=b:=Zbx
theorem Zh8 (a b:Z0p) (w:World):Calls Tryz.prog 241 #[.string a,.string b] w fun e w'=>e = .returned (.int .i64 (Z01 a b))∧Below w.heap.size w w':=by
 go_enter Tryz.func241,Tryz.ntmps241;go_wp2
 all_goals (go_ret;refine ⟨?_,Znk _ _⟩;unfold Z01 Z2h;simp_all)
abbrev Z21:=Z25 (α:=Z0p) 191 132 1 Z0p.cells
theorem Z9r (k0 : ByteArray) (w : World) : (nilAhead 442 132 (.string k0) "Compare").run Tryz.prog w = .ok (some false) w := by kernel_rfl
theorem Zce (k0 : ByteArray) (w : World) : (method 442 132 (.string k0) "Compare").run Tryz.prog w = .ok (241, .string k0) w := by kernel_rfl
def Z9z (l:List Z0p) (x:Z0p) (w:World) (e:Ending) (w':World):Prop:=
 e = .returned (.tuple #[.int .i64 (rank Z01 l x),.bool (has Z01 l x)])∧Below w.heap.size w w'
theorem Z53 (b c:Nat) (sn:Bool) (A:Option Addr) (l:List Z0p) (x:Z0p) (w:World) (hS:Z21 w b sn A c l) (hs:Srt Z01 l) (hl:(l.length:Int)≤4611686018427387904) :
 Calls Tryz.prog 124 #[.pointer (some ⟨b,0,none⟩),.string x] w (Z9z l x w):=by
 have hrd:=hS.rd Z0p.cells_length;have h0:=hS.cell0;have hb:=hS.lt;clear hS;have HS:=hid hs;have HRD:=hid hrd;clear hs hrd;go_enter Tryz.func124,Tryz.ntmps124;(go_wp2_with fail);go_quiet (fail);(go_wp2_with fail);obtain ⟨W0,hW0⟩:∃W0,W0=(w.drewN nq):=⟨_,rfl⟩;(have hB0:Below w.heap.size w W0:=by rw [hW0];exact Below.drewN' (Znk _ _) _);rw [←hW0];clear hW0;have HB0:=hid hB0;clear hB0
 go_loopw [6,7] (fun lo hi wr=>∃i j:Nat,lo = .int .i64 i∧hi = .int .i64 j∧i≤j∧j≤l.length∧(∀k,(h:k<l.length)→k<i→Z01 l[k] x<0)∧(∀k,(h:k<l.length)→j≤k→0<Z01 l[k] x)∧Below W0.heap.size W0 wr) (fun lo hi wr=>(intOf hi).toNat - (intOf lo).toNat)
 case atStart=>exact ⟨0,l.length,rfl,rfl,Nat.zero_le _,Znl _,fun k _ h=>absurd h (by omega),fun k h h'=>absurd h (by omega),Znk _ _⟩
 case round=>
  obtain ⟨i,j,rfl,rfl,hij,hj,hlo,hhi,hB⟩:=hrel;have HLO:=hid hlo;have HHI:=hid hhi;clear hlo hhi;have hsz:w.heap.size≤W0.heap.size:=HB0.out.size;by_cases hlt:i<j
  · obtain ⟨m,hm⟩:∃m,m=i+(j - i) / 2:=⟨_,rfl⟩
    (have hml:m<l.length:=by omega);(have hmj:m<j:=by omega);(have hmi:i≤m:=by omega);(have e1:((i:Int)+((j:Int) - (i:Int)) / 2)=(m:Int):=by omega);have E1:=hid e1;clear e1 hm;obtain ⟨g,off,rfl,hgs,hcell⟩:=HRD.out.at_ hml;have low :∀(p:Addr),p.block<w.heap.size→wr.cell? p=w.cell? p:=fun p hp=>(hB.cell (p:=p) (by omega)).trans (HB0.out.cell (p:=p) hp);have r0:=(low ⟨b,0,none⟩ hb).trans h0;have q0:wr.cell? ⟨g,off+m,none⟩=some (.string l[m]):=(low ⟨g,off+m,none⟩ hgs).trans (by simpa using hcell 0 _ rfl);(have b1:(0:Int)≤(m:Int):=by omega);(have b2:(m:Int)<(l.length:Int):=by omega);have hsw:W0.heap.size≤wr.heap.size:=hB.size;have N:=Z9r;have M:=Zce;clear low hcell h0;have HB:=hid hB;clear hB;obtain ⟨y,hy⟩:∃y,y=l[m]:=⟨_,rfl⟩;rw [←hy] at q0;have HY:=hid hy;clear hy;(have hbw:b<wr.heap.size:=by omega);(have hgw:g<wr.heap.size:=by omega);(go_upto_region 4 with (fail));rw [E1.out];(go_wp2_with fail);refine (Zh8 y x _).mono ?_;rintro e w1 ⟨rfl,hb1⟩;have HB1:Below W0.heap.size W0 w1:=HB.out.trans (hb1.mono hsw);clear r0 q0 N M;have HB1':=hid HB1;clear HB1;by_cases hc:Z01 y x=0
    · have HC:=hid hc
      (have t1:(Z01 y x == 0)=true:=by simp [hc]);clear hc;(go_wp2_with fail);go_ret2;have e:=HC.out;rw [HY.out] at e;refine ⟨?_,HB0.out.trans (HB1'.out.mono (by omega))⟩;rw [Z5b Z2g HS.out hml e,(Z5t Z2g HS.out hml e).2.2.1];rfl
    · have t1:(Z01 y x == 0)=false:=by simp [hc]
      by_cases hc2:Z01 y x<0
      · have HC:=hid hc2
        (have t2:decide (Z01 y x<0)=true:=by simpa using hc2);clear hc hc2;(go_wp2_with fail);go_roundw
        case rel=>
         refine ⟨m+1,j,by go_num,rfl,by omega,hj,fun k h1 h2=>?_,HHI.out,HB1'.out⟩;have e:=HC.out;rw [HY.out] at e;rcases Nat.lt_or_ge k m with h3|h3
         · exact Z2g.lt_of_lt_of_le (HS.out.lt h3 hml) (by omega)
         · obtain rfl:k=m:=by omega
           exact e
        case measure=>simp [intOf];omega
      · have t2:decide (Z01 y x<0)=false:=by simpa using hc2
        (have hc3:0<Z01 y x:=by omega);have HC:=hid hc3;clear hc hc2 hc3;(go_wp2_with fail);go_roundw
        case rel=>
         refine ⟨i,m,rfl,rfl,by omega,by omega,HLO.out,fun k h1 h2=>?_,HB1'.out⟩;have e:=HC.out;rw [HY.out] at e;rcases Nat.lt_or_ge m k with h3|h3
         · exact (Z2g.symm _ _).1 (Z2g.lt_trans ((Z2g.symm _ _).2 e) (HS.out.lt h3 h1))
         · obtain rfl:k=m:=by omega
           exact e
        case measure=>simp [intOf];omega
  · obtain rfl:i=j:=by omega
    have HB:=hid hB;clear hB;(go_wp2_with fail);go_ret2;refine ⟨?_,HB0.out.trans (HB.out.mono (by omega))⟩;rw [Z5a hj HLO.out HHI.out,(Z6m HLO.out HHI.out).2.2];rfl
theorem Za6:(Tryz.prog.info? 132).map (fun i=>(i.zero,i.size,i.bytes))=some (some (.string ⟨#[]⟩),1,16):=by kernel_rfl
theorem Z0p.one (x:Z0p):∀u∈Z0p.cells x,u.oneCell'=true:=by intro u hu;simp [Z0p.cells] at hu;rcases hu with rfl<;>rfl
theorem Z0p.oneAll (l:List Z0p):∀u∈l.flatMap Z0p.cells,u.oneCell'=true:=by intro u hu;obtain ⟨x,_,hx⟩:=List.mem_flatMap.1 hu;exact Z0p.one x u hx
def Z5r (w:World) (b:Nat) (sn:Bool) (A:Option Addr) (l:List Z0p) (e:Ending) (w':World):Prop:=
 e = .returned (.tuple #[])∧∃A' c',Z21 w' b false A' c' l∧Fr (· = b) w w'∧Z32 w sn A false A'
theorem Zcn (b c:Nat) (A:Option Addr) (l:List Z0p) (w:World) (hS:Z21 w b false A c l) :
 Calls Tryz.prog 125 #[.pointer (some ⟨b,0,none⟩)] w (Z5r w b false A l):=by
 have h1:=hS.cell1;have HS:=hid hS;clear hS;go_enter Tryz.func125,Tryz.ntmps125;go_wp2;go_end0;exact ⟨rfl,A,c,HS.out,Fr.refl _ _,.inl ⟨rfl,rfl⟩⟩
theorem Zbb (b c:Nat) (A:Option Addr) (l:List Z0p) (w:World) (hS:Z21 w b true A c l) (hl:(l.length:Int)≤1000000000) :
 Calls Tryz.prog 125 #[.pointer (some ⟨b,0,none⟩)] w (Z5r w b true A l):=by
 obtain ⟨i0,hi,hz0,hz1,hz2⟩:=info_parts Za6;have h0:=hS.cell0;have h1:=hS.cell1;have hb:=hS.lt;have f0:=hS.blk.frozen 0;have f1:=hS.blk.frozen 1;have hrd:=hS.rd Z0p.cells_length;have HB:=hid hS.blk;have HRD:=hid hrd;clear hS hrd;have e1:IntKind.i64.wrap ((l.length:Int)+1)=(l.length:Int)+1:=Znu _ (by omega)
 have hmk :∀W:World,(Instr.makeSlice 189 (.int .i64 0) (.int .i64 ((l.length:Int)+1))).run Tryz.prog W = .ok (.slice (some ⟨W.heap.size,0,none⟩) 0 (l.length+1)) (W.alloc (.cells (madeCells (Value.cells (.string ⟨#[]⟩)) ((l.length+1))) 132)):=fun W=>by
  have h:=run_make (P:=Tryz.prog) W 189 132 i0 _ Tryz.underlying189 hi hz0 .i64 .i64 0 ((l.length:Int)+1) (by omega) (by omega) (by rw [hz2];omega) (by omega);rw [hz1] at h;simpa [show ((l.length:Int)+1).toNat=l.length+1 by omega] using h
 go_enter Tryz.func125,Tryz.ntmps125;(go_wp2_with fail);refine Z0c (fun w9=>Below w.heap.size w w9) [(0,0),(1,0),(2,0),(3,0),(4,1),(5,0),(6,0),(8,0),(9,0),(10,0),(11,1),(7,2),(12,2),(13,0),(14,0),(15,2)] (by kernel_rfl) (by kernel_rfl) (fun KK hKK=>?_);simp only [Z0w,Znz,Znt,Znv,Znr,Zns,Zo1];(repeat ((first|(refine Z0m ?_ (Or.inl ⟨by rfl,fun w9=>?_⟩) ?_;rotate_left 1;go_simp;with_reducible rfl)|(refine Z0k ?_ (((Znk _ _).drew)) (Or.inl ⟨by rfl,fun w9 hw9=>?_⟩) ?_;rotate_left 1;obtain ⟨hc9,hf9⟩:=Z1e hw9;go_simp;with_reducible rfl)|refine Z0m undef (Or.inr ⟨by rfl,rfl⟩) ?_|refine Z0k undef (((Znk _ _).drew)) (Or.inr ⟨by rfl,rfl⟩) ?_);go_frame));refine Z2j (fun K9 hK9=>?_);go_simp;refine hK9 _ _ (((Znk _ _).drew).alloc (Znl _) _) ?_;clear hK9 K9;refine Z1y (by kernel_rfl) (fun K9 hK9=>?_)
 refine Z0f _ (by rfl) _ _ _ (by rfl) 132 i0 _ 1 16 Tryz.underlying189 hi hz0 hz1 hz2 rfl (by omega) _ 0 [] (by rfl) (World.ownsRow_made _ _ _ (Nat.zero_le _) (by unfold maxLen;omega) (by simp [madeCells])) A l.length c (l.flatMap Z0p.cells) (by rfl) (Z08 Z0p.cells_length l)
  ((HRD.out.drew.alloc _).news Z0p.cells_length (by omega)) (Z0p.oneAll l) (by unfold maxLen;omega) (by omega) ?_
 intro v2 w2 hown hgr hnil hat;refine hK9 _ _ ?_;clear hK9 K9;rw [Zoa,Zo3] at hown;obtain ⟨A',c',rfl,_,_,hz⟩:=Z0v hown;have HB1:=(HB.out.drew.alloc (.cells (madeCells (Value.cells (.string ⟨#[]⟩)) ((l.length+1))) 132)).grown hgr (by simp [Value.ownBlock];omega);have c0:=(HB1.cell 0).trans rfl;have c1:=(HB1.cell 1).trans rfl;have z0:=HB1.frozen 0;have z1:=HB1.frozen 1;have HB2:=hid HB1;clear HB1;(repeat ((first|(refine Z0m ?_ (Or.inl ⟨by rfl,fun w9=>?_⟩) ?_;rotate_left 1;go_simp;with_reducible rfl)|(refine Z0k ?_ (((Znk _ _).drew).alloc (Znl _) _) (Or.inl ⟨by rfl,fun w9 hw9=>?_⟩) ?_;rotate_left 1;obtain ⟨hc9,hf9⟩:=Z1e hw9;go_simp;with_reducible rfl)|refine Z0m undef (Or.inr ⟨by rfl,rfl⟩) ?_|refine Z0k undef (((Znk _ _).drew).alloc (Znl _) _) (Or.inr ⟨by rfl,rfl⟩) ?_);go_frame));refine Z1y (by kernel_rfl) (fun K9 hK9=>?_);go_simp;refine hK9 _ _ ?_;clear hK9 K9;refine Z16 ?_;simp only [Z04];refine hKK _ _ ?_;clear hKK KK;go_wp2;go_end0
 have hb2:(Value.slice A' l.length c').ownBlock=some w.heap.size∨(Value.slice A' l.length c').ownBlock=some (w.heap.size+1):=by
  rcases hat with h|h
  · left;rw [h];rfl
  · right;rw [h];simp
 have hA :∃g,w.heap.size≤g∧A'=some ⟨g,0,none⟩:=by
  rcases A' with _|a
  · exfalso;simp [Value.ownBlock] at hb2
  · obtain ⟨g,rfl⟩:=hz a rfl
    refine ⟨g,?_,rfl⟩;simp [Value.ownBlock] at hb2;omega
 obtain ⟨g,hg,rfl⟩:=hA;have HB1:=HB2.out;have HF:Fr (· = b) w w2:=((Fr.refl (· = b) w).drew.alloc _).grown hgr (fun k e=>by simp [Value.ownBlock] at e;right;omega);refine ⟨rfl,some ⟨g,0,none⟩,c',⟨(HB1.set_ 0 _).set_ 1 _,?_⟩,(HF.setCell (p:=⟨b,0,none⟩) (.inl rfl) _).setCell (p:=⟨b,1,none⟩) (.inl rfl) _,.inr ⟨rfl,g,hg,rfl⟩⟩;(have hne:(Value.slice (some ⟨g,0,none⟩) l.length c').ownBlock≠some b:=by simp [Value.ownBlock];omega);exact ownsRow_setCell_other (a:=⟨b,1,none⟩) (ownsRow_setCell_other (a:=⟨b,0,none⟩) hown hne _) hne _
theorem Zcm (b c:Nat) (sn:Bool) (A:Option Addr) (l:List Z0p) (w:World) (hS:Z21 w b sn A c l) (hl:(l.length:Int)≤1000000000) :
 Calls Tryz.prog 125 #[.pointer (some ⟨b,0,none⟩)] w (Z5r w b sn A l):=by
 cases sn
 · exact Zcn b c A l w hS
 · exact Zbb b c A l w hS hl
def Z5s (w:World) (b:Nat) (sn:Bool) (A:Option Addr) (l:List Z0p) (x:Z0p) (e:Ending) (w':World):Prop:=
 e = .returned (.bool (!has Z01 l x))∧∃sn' A' c',Z21 w' b sn' A' c' (put Z01 l x)∧Fr (Z1f b sn A) w w'∧Z32 w sn A sn' A'
theorem Z9c (b c:Nat) (sn:Bool) (A:Option Addr) (l:List Z0p) (x:Z0p) (w:World) (hS:Z21 w b sn A c l) (hs:Srt Z01 l) (hl:(l.length:Int)≤100000000) (hh:has Z01 l x=true) :
 Calls Tryz.prog 67 #[.pointer (some ⟨b,0,none⟩),.string x] w (Z5s w b sn A l x):=by
 have HS:=hid hS;have HO:=hid hs;clear hS hs;go_enter Tryz.func67,Tryz.ntmps67;(go_wp2_with fail);refine (Z53 b c sn A l x _ (HS.out.new_ (Znk _ _)) HO.out (by omega)).mono ?_;rintro e w1 ⟨rfl,hb1⟩;(go_wp2_with fail);go_ret;refine ⟨by rw [hh];rfl,sn,A,c,?_,Fr.of_new ((Znk _ _).trans (hb1.mono (by simp))),.inl ⟨rfl,rfl⟩⟩;rw [Z4z hh];exact HS.out.new_ ((Znk _ _).trans (hb1.mono (by simp)))
theorem Zbe (b c:Nat) (sn:Bool) (A:Option Addr) (l:List Z0p) (x:Z0p) (w:World) (hS:Z21 w b sn A c l) (hs:Srt Z01 l) (hl:(l.length:Int)≤100000000) (hh:has Z01 l x=false) :
 Calls Tryz.prog 67 #[.pointer (some ⟨b,0,none⟩),.string x] w (Z5s w b sn A l x):=by
 obtain ⟨i0,hi,hz0,hz1,hz2⟩:=info_parts Za6;have HS:=hid hS;have HO:=hid hs;have hb:=hS.lt;clear hS hs;have hrk:=Z6p (cmp:=Z01) l x;go_enter Tryz.func67,Tryz.ntmps67;(go_wp2_with fail);have hSa:=HS.out.new_ (Znk w.heap.size w);have HSa:=hid hSa;clear hSa;refine (Z53 b c sn A l x _ HSa.out HO.out (by omega)).mono ?_;rintro e w1 ⟨rfl,hb1⟩;have HS1:=hid (HSa.out.new_ hb1);(have hsz1:w.heap.size≤w1.heap.size:=by have:=hb1.size;(try simp at this);omega);have HB1:=hid hb1;clear hb1;(go_wp2_with fail);refine (Zcm b c sn A l _ HS1.out (by omega)).mono ?_;rintro e w2 ⟨rfl,A1,c1,hS2,hF2,hM2⟩;have hsz2:w1.heap.size≤w2.heap.size:=hF2.size;have s0:=hS2.cell0;have f0:=hS2.blk.frozen 0;(have hb2:b<w2.heap.size:=by omega);have HS2:=hid hS2;have HF2:=hid hF2;have HM2:=hid hM2;clear hS2 hF2 hM2
 go_upto_region 8 with
  (at_builtin;refine Z00 (w2.alloc (.cells #[.string x] 132)) rfl (.tmp 23) (.tmp 25) 189 rfl 132 i0 _ 1 16 Tryz.underlying189 hi hz0 hz1 hz2 rfl (by omega) (.slice A1 l.length c1) l.length (l.flatMap Z0p.cells) rfl (Z05 HS2.out.row ((Znk _ _).alloc (Znl _) _)) (some ⟨w2.heap.size,0,none⟩) 1 1 (Z0p.cells x) rfl rfl (fun _=>⟨_,rfl,Zo7 (heap_alloc_new _ _)⟩) (Z0p.one x) (by unfold maxLen;omega) (by omega) ?_;
   intro v2 w3 hown hgr hnil hat;
   obtain ⟨g,c2,rfl⟩:∃g c2,v2 = .slice (some ⟨g,0,none⟩) (l.length+1) c2:=(by
    rcases Z0h hown with ⟨_,h0,_⟩|⟨g,c2,h,_⟩
    · omega
    · exact ⟨g,c2,h⟩);
   have HB3':=(HS2.out.blk.alloc (.cells #[.string x] 132)).grown hgr (Z02 HS2.out.row HS2.out.blk (by decide));
   have c0:=(HB3'.cell 0).trans rfl;
   have z0:=HB3'.frozen 0;
   have HB3:=hid HB3';
   have HOWN:=hid hown;
   have HGR:=hid hgr;
   clear HB3' hown hgr)
 have hlg:((l.length+1:Nat):Int)=(l.length:Int)+1:=by omega
 have hG:(Z1f b sn A g∨w.heap.size≤g)∧Z32 w sn A false (some ⟨g,0,none⟩)∧True∧g≠b:=by
  rcases hat with h|h
  · rcases A1 with _|a1
    · simp [Value.ownBlock] at h
    · obtain ⟨A',c',hv,_,_,hz⟩:=Z0v HS2.out.row
      injection hv with hv _ _;obtain ⟨g',rfl⟩:=hz a1 hv.symm;(have hgg:g'=g:=by simpa [Value.ownBlock] using h.symm);subst hgg;have hne:g'≠b:=HS2.out.row_ne (by decide) _ rfl;rcases HM2.out with ⟨hsn,hA⟩|⟨_,g2,hg2,hA⟩
      · have h1:=HS.out.row_lt _ hA.symm
        exact ⟨.inl (.inr ⟨hsn.symm,_,hA.symm,rfl⟩),.inl ⟨hsn,hA⟩,True.intro,hne⟩
      · injection hA with hA
        injection hA with hA;subst hA;exact ⟨.inr (by omega),.inr ⟨rfl,_,by omega,rfl⟩,True.intro,hne⟩
  · have hgg:g=w2.heap.size+1:=by simpa [Value.ownBlock] using h
    subst hgg;exact ⟨.inr (by omega),.inr ⟨rfl,_,by omega,rfl⟩,True.intro,by omega⟩
 obtain ⟨hgM,hgMv,hgk1,hgb⟩:=hG;obtain ⟨w4,hw4⟩:∃w4,w4=w3.setCell ⟨b,0,none⟩ (.slice (some ⟨g,0,none⟩) (l.length+1) c2):=⟨_,rfl⟩;have hB4:Blk w4 b 191 #[.slice (some ⟨g,0,none⟩) (l.length+1) c2,.bool false]:=by rw [hw4];exact HB3.out.set_ 0 _
 have hR4:w4.ownsRow 0 132 1 (.slice (some ⟨g,0,none⟩) (l.length+1) c2) (l.length+1) ((Z0s l x l.length).flatMap Z0p.cells):=by
  rw [hw4,Z2y];refine ownsRow_setCell_other (a:=⟨b,0,none⟩) ?_ (by simpa [Value.ownBlock] using hgb) _;rw [Zny,List.flatMap_singleton];exact HOWN.out
 have hF4:Fr (Z1f b sn A) w w4:=by
  rw [hw4];have h1:Fr (Z1f b sn A) w w1:=Fr.of_new ((Znk _ _).trans (HB1.out.mono (by simp)));have h2:Fr (Z1f b sn A) w w2:=h1.trans (HF2.out.mono (fun k _ h=>.inl h));refine ((h2.alloc _).grown HGR.out (fun k hk=>?_)).setCell (p:=⟨b,0,none⟩) (.inl (.inl rfl)) _;rcases A1 with _|a1
  · cases hk
  · simp only [Value.ownBlock,Option.some.injEq] at hk
    subst hk;rcases HM2.out with ⟨hsn,hA⟩|⟨_,g',hg',hA⟩
    · left;right;exact ⟨hsn.symm,a1,hA.symm,rfl⟩
    · injection hA with hA
      subst hA;right;dsimp only;omega
 rw [←hw4];have HgM:=hid hgM;have HgMv:=hid hgMv;have HB4:=hid hB4;have HR4:=hid hR4;have HF4:=hid hF4;have s4:=hB4.cell 0;have s4':w4.cell? ⟨b,0,none⟩=some (.slice (some ⟨g,0,none⟩) (l.length+1) c2):=s4;clear s4 hw4 hB4 hR4 hF4 hat hgM hgMv hnil  s0 f0;go_wp2_with fail
 go_loopw [7] (fun s wr=>∃i:Nat,s = .int .i64 i∧rank Z01 l x≤i∧i≤l.length∧wr.ownsRow 0 132 1 (.slice (some ⟨g,0,none⟩) (l.length+1) c2) (l.length+1) ((Z0s l x i).flatMap Z0p.cells)∧Fr (· = g) w4 wr) (fun s wr=>(intOf s).toNat)
 case atStart=>exact ⟨l.length,by go_num,hrk,Znl _,HR4.out,Fr.refl _ _⟩
 case round=>
  obtain ⟨i,rfl,hi1,hi2,hown,hfr⟩:=hrel;have hgw:g<wr.heap.size:=(hown.lt g rfl).2;have r0:wr.cell? ⟨b,0,none⟩=some (.slice (some ⟨g,0,none⟩) (l.length+1) c2):=(hfr.cell (p:=⟨b,0,none⟩) HB4.out.lt (fun h=>hgb h.symm)).trans s4';have fz :∀o,wr.frozen? ⟨g,o,none⟩=false:=fun o=>hown.frozenAt o;have HOW:=hid hown;have HFR:=hid hfr;clear hown hfr;by_cases hlt:rank Z01 l x<i
  · obtain ⟨j,rfl⟩:∃j,i=j+1:=⟨i - 1,by omega⟩
    (have hj:j<l.length:=by omega);have hrd:=Z0d (A:=some ⟨g,0,none⟩) (c:=c2) (l:=Z0s l x (j+1)) Z0p.cells_length (by rw [Z0g l x hi2];exact HOW.out);obtain ⟨g',o',hgo,_,hcell⟩:=hrd.at_ (k:=j) (by rw [Z0g l x hi2];omega);injection hgo with hgo;injection hgo with hg1 hg2;subst hg1;subst hg2;rw [Z3a l x hj] at hcell;have q0:wr.cell? ⟨g,j,none⟩=some (.string l[j]):=by simpa using hcell 0 _ rfl
    have rmj:Room wr g 132 (c2*1)∧l.length+1≤c2:=by
     rcases Z0h HOW.out with ⟨hv,_⟩|⟨g',cap,hv,hn,_,hr,_⟩
     · cases hv
     · injection hv with hA _ hc
       injection hA with hA;injection hA with hA;subst hA;subst hc;exact ⟨hr,hn⟩
    obtain ⟨hrm,hcap⟩:=rmj;obtain ⟨u0,t0⟩:=hrm.cell (i:=(j+1)) (by omega);(have b0:(0:Int)≤(j:Int)+1:=by omega);(have b1:(0:Int)≤(j:Int):=by omega);(have b4:(j:Int)<(l.length:Int):=by omega);(have b2:(j:Int)<(l.length:Int)+1:=by omega);(have b3:(j:Int)+1<(l.length:Int)+1:=by omega);have w1:IntKind.i64.wrap ((j:Int))=(j:Int):=Znu _ (by omega);(have w2:IntKind.i64.wrap ((j:Int)+1 - 1)=(j:Int):=by rw [Znu _ (by omega)];omega);clear hcell hrd hrm;obtain ⟨y,hy⟩:∃y,y=l[j]:=⟨_,rfl⟩;rw [←hy] at q0;have HY:=hid hy;have hbw:b<wr.heap.size:=Znx wr _ r0;clear hy;(go_wp2_with fail);refine Z0c (fun w9=>Below wr.heap.size wr w9) [(0,0),(1,0),(2,0),(3,1),(4,0),(5,0),(6,0),(7,0),(8,1),(9,0),(10,0),(11,0),(12,1),(13,0),(14,2)] (by kernel_rfl) (by kernel_rfl) (fun KK hKK=>?_);simp only [Z0w,Znz,Znt,Znv,Znr,Zns,Zo1];(repeat ((first|(refine Z0m ?_ (Or.inl ⟨by rfl,fun w9=>?_⟩) ?_;rotate_left 1;go_simp;with_reducible rfl)|(refine Z0k ?_ (((Znk _ _).drew)) (Or.inl ⟨by rfl,fun w9 hw9=>?_⟩) ?_;rotate_left 1;obtain ⟨hc9,hf9⟩:=Z1e hw9;go_simp;with_reducible rfl)|refine Z0m undef (Or.inr ⟨by rfl,rfl⟩) ?_|refine Z0k undef (((Znk _ _).drew)) (Or.inr ⟨by rfl,rfl⟩) ?_);go_frame));refine Z1y (by kernel_rfl) (fun K9 hK9=>?_);go_simp;refine hK9 _ _ ?_;clear hK9 K9;refine Z16 ?_;simp only [Z04];refine hKK _ _ ?_;clear hKK KK;(go_wp2_with fail);go_roundw
    case rel=>
     refine ⟨j,by go_num,by omega,by omega,?_,Fr.drew ((HFR.out).setCell (p:=⟨g,(j+1),none⟩) (.inl rfl) (_))⟩;have hst:=((HOW.out).stored ((j+1)) (.string y)).1
     have he:setAll ((Z0s l x (j+1)).flatMap Z0p.cells) ((j+1)) (Z0p.cells y)=(Z0s l x j).flatMap Z0p.cells:=by
      rw [Z4h Z0p.cells_length (by omega) _ (j+1) (by rw [Z0g l x hi2];omega),HY.out,Z3b l x hj]
     rw [←he];exact hst
    case measure=>simp [intOf]<;>omega
  · obtain rfl:i=rank Z01 l x:=by omega
    have rmj:Room wr g 132 (c2*1)∧l.length+1≤c2:=by
     rcases Z0h HOW.out with ⟨hv,_⟩|⟨g',cap,hv,hn,_,hr,_⟩
     · cases hv
     · injection hv with hA _ hc
       injection hA with hA;injection hA with hA;subst hA;subst hc;exact ⟨hr,hn⟩
    obtain ⟨hrm,hcap⟩:=rmj;obtain ⟨k,hk⟩:∃k,k=rank Z01 l x:=⟨_,rfl⟩;rw [←hk] at hi2 hlt ⊢;obtain ⟨u0,t0⟩:=hrm.cell (i:=k) (by omega);(have b1:(0:Int)≤(k:Int):=by omega);(have b2:(k:Int)<(l.length:Int)+1:=by omega);have HK:=hid hk;have hbw:b<wr.heap.size:=Znx wr _ r0;clear hrm hk;(go_wp2_with fail);go_ret;have HOWk:=HOW.out;rw [←HK.out] at HOWk;have hst:=((HOWk).stored (k) (.string x)).1
    have he:setAll ((Z0s l x k).flatMap Z0p.cells) (k) (Z0p.cells x)=(put Z01 l x).flatMap Z0p.cells:=by
     rw [Z4h Z0p.cells_length (by omega) _ k (by rw [Z0g l x hi2];omega),Z3t l x hi2,Z9b Z2g HO.out hh,HK.out]
    have hln:=Z3s Z2g HO.out hh;refine ⟨by rw [hh];rfl,false,some ⟨g,0,none⟩,c2,⟨?_,?_⟩,?_,?_⟩
    · rw [hln]
      exact (HB4.out.fr HFR.out (fun h=>hgb h.symm)).far (p:=⟨g,k,none⟩) (fun h=>hgb h.symm) _
    · rw [hln,←he]
      exact hst
    · exact HF4.out.into (((HFR.out).setCell (p:=⟨g,k,none⟩) (.inl rfl) (_))) (fun k hk=>by subst hk;exact HgM.out)
    · exact HgMv.out
theorem Zcr (b c:Nat) (sn:Bool) (A:Option Addr) (l:List Z0p) (x:Z0p) (w:World) (hS:Z21 w b sn A c l) (hs:Srt Z01 l) (hl:(l.length:Int)≤100000000) :
 Calls Tryz.prog 67 #[.pointer (some ⟨b,0,none⟩),.string x] w (Z5s w b sn A l x):=by
 cases hh:has Z01 l x
 · exact Zbe b c sn A l x w hS hs hl hh
 · exact Z9c b c sn A l x w hS hs hl hh
def Z5c (w:World) (b:Nat) (sn:Bool) (A:Option Addr) (l:List Z0p) (x:Z0p) (e:Ending) (w':World):Prop:=
 e = .returned (.bool (has Z01 l x))∧∃sn' A' c',Z21 w' b sn' A' c' (drop Z01 l x)∧Fr (Z1f b sn A) w w'∧Z32 w sn A sn' A'
theorem Z9p (b c:Nat) (sn:Bool) (A:Option Addr) (l:List Z0p) (x:Z0p) (w:World) (hS:Z21 w b sn A c l) (hs:Srt Z01 l) (hl:(l.length:Int)≤100000000) (hh:has Z01 l x=false) :
 Calls Tryz.prog 122 #[.pointer (some ⟨b,0,none⟩),.string x] w (Z5c w b sn A l x):=by
 have HS:=hid hS;have HO:=hid hs;clear hS hs;go_enter Tryz.func122,Tryz.ntmps122;(go_wp2_with fail);refine (Z53 b c sn A l x _ (HS.out.new_ (Znk _ _)) HO.out (by omega)).mono ?_;rintro e w1 ⟨rfl,hb1⟩;(go_wp2_with fail);go_ret;refine ⟨by rw [hh];rfl,sn,A,c,?_,Fr.of_new ((Znk _ _).trans (hb1.mono (by simp))),.inl ⟨rfl,rfl⟩⟩;rw [Zc1 hh];exact HS.out.new_ ((Znk _ _).trans (hb1.mono (by simp)))
theorem Zat (b c:Nat) (sn:Bool) (A:Option Addr) (l:List Z0p) (x:Z0p) (w:World) (hS:Z21 w b sn A c l) (hs:Srt Z01 l) (hl:(l.length:Int)≤100000000) (hh:has Z01 l x=true) :
 Calls Tryz.prog 122 #[.pointer (some ⟨b,0,none⟩),.string x] w (Z5c w b sn A l x):=by
 obtain ⟨hrk,hde,_,_⟩:=Zhe Z2g hs hh;have HDE:=hid hde;have HS:=hid hS;have HO:=hid hs;have hb:=hS.lt;clear hS hs hde;go_enter Tryz.func122,Tryz.ntmps122;(go_wp2_with fail);have hSa:=HS.out.new_ (Znk w.heap.size w);have HSa:=hid hSa;clear hSa;refine (Z53 b c sn A l x _ HSa.out HO.out (by omega)).mono ?_;rintro e w1 ⟨rfl,hb1⟩;have HS1:=hid (HSa.out.new_ hb1);(have hsz1:w.heap.size≤w1.heap.size:=by have:=hb1.size;first|omega|(simp at this;omega));have HB1:=hid hb1;clear hb1;(go_wp2_with fail);refine (Zcm b c sn A l _ HS1.out (by omega)).mono ?_;rintro e w2 ⟨rfl,A1,c1,hS2,hF2,hM2⟩;have hsz2:w1.heap.size≤w2.heap.size:=hF2.size
 obtain ⟨g,rfl⟩:∃g,A1=some ⟨g,0,none⟩:=by
  rcases Z0h hS2.row with ⟨_,h0,_⟩|⟨g,cap,hv,_⟩
  · omega
  · injection hv with hv;exact ⟨g,hv⟩
 have hgb:g≠b:=hS2.row_ne (by decide) _ rfl;obtain ⟨hroom,hcap,hcm⟩:=Z89 hS2.row;unfold maxLen at hcm
 have hgM:Z1f b sn A g∨w.heap.size≤g:=by
  rcases hM2 with ⟨hsn,hA⟩|⟨_,g',hg',hA⟩
  · exact .inl (.inr ⟨hsn.symm,_,hA.symm,rfl⟩)
  · injection hA with hA
    injection hA with hA;subst hA;exact .inr (by omega)
 have hgMv:Z32 w sn A false (some ⟨g,0,none⟩):=by
  rcases hM2 with ⟨hsn,hA⟩|⟨_,g',hg',hA⟩
  · exact .inl ⟨hsn,hA⟩
  · injection hA with hA
    injection hA with hA;subst hA;exact .inr ⟨rfl,_,by omega,rfl⟩
 have hF:Fr (Z1f b sn A) w w2:=(Fr.of_new ((Znk _ _).trans (HB1.out.mono (by simp)))).into hF2 (fun k hk=>.inl (.inl hk));have s0:=hS2.cell0;have HgM:=hid hgM;have HgMv:=hid hgMv;have HF:=hid hF;have HBk:=hid hS2.blk;have HRo:=hid hS2.row;(have hb2:b<w2.heap.size:=by omega);clear hgM hgMv hF hS2 hF2 hM2 hroom;go_wp2_with fail
 go_loopw [7] (fun s wr=>∃i:Nat,s = .int .i64 i∧rank Z01 l x≤i∧i<l.length∧wr.ownsRow 0 132 1 (.slice (some ⟨g,0,none⟩) l.length c1) l.length ((Z3m l (rank Z01 l x) i).flatMap Z0p.cells)∧Fr (· = g) w2 wr) (fun s wr=>l.length - (intOf s).toNat)
 case atStart=>exact ⟨rank Z01 l x,rfl,Znl _,hrk,by rw [Zc0];exact HRo.out,Fr.refl _ _⟩
 case round=>
  obtain ⟨i,rfl,hi1,hi2,hown,hfr⟩:=hrel;have hgw:g<wr.heap.size:=(hown.lt g rfl).2;have r0:wr.cell? ⟨b,0,none⟩=some (.slice (some ⟨g,0,none⟩) l.length c1):=(hfr.cell (p:=⟨b,0,none⟩) hb2 (fun h=>hgb h.symm)).trans s0;have fz :∀o,wr.frozen? ⟨g,o,none⟩=false:=fun o=>hown.frozenAt o;have hbw:b<wr.heap.size:=Znx wr _ r0;obtain ⟨hrm,_,_⟩:=Z89 hown;have HOW:=hid hown;have HFR:=hid hfr;clear hown hfr;by_cases hlt:i+1<l.length
  · have hrd:=Z0d (A:=some ⟨g,0,none⟩) (c:=c1) (l:=Z3m l (rank Z01 l x) i) Z0p.cells_length (by rw [Z3e l hi1 hi2];exact HOW.out)
    obtain ⟨g',o',hgo,_,hcell⟩:=hrd.at_ (k:=i+1) (by rw [Z3e l hi1 hi2];omega);injection hgo with hgo;injection hgo with hg1 hg2;subst hg1;subst hg2;rw [Zdc l hi1 hlt] at hcell;(have q0:wr.cell? ⟨g,(i+1),none⟩=some (.string l[i+1]):=by simpa using hcell 0 _ rfl);obtain ⟨u0,t0⟩:=hrm.cell (i:=i) (by omega);(have b0:(0:Int)≤(i:Int)+1:=by omega);(have b1:(0:Int)≤(i:Int):=by omega);(have b2:(i:Int)<(l.length:Int):=by omega);(have b3:(i:Int)+1<(l.length:Int):=by omega);have v1:IntKind.i64.wrap ((i:Int)+1)=(i:Int)+1:=Znu _ (by omega);clear hcell hrd hrm;obtain ⟨y,hy⟩:∃y,y=l[i+1]:=⟨_,rfl⟩;rw [←hy] at q0;have HY:=hid hy;clear hy;(go_wp2_with fail);refine Z0c (fun w9=>Below wr.heap.size wr w9) [(0,0),(1,0),(2,0),(3,1),(4,0),(5,0),(6,0),(7,0),(8,1),(9,0),(10,0),(11,0),(12,1),(13,0),(14,2)] (by kernel_rfl) (by kernel_rfl) (fun KK hKK=>?_);simp only [Z0w,Znz,Znt,Znv,Znr,Zns,Zo1];(repeat ((first|(refine Z0m ?_ (Or.inl ⟨by rfl,fun w9=>?_⟩) ?_;rotate_left 1;go_simp;with_reducible rfl)|(refine Z0k ?_ (((Znk _ _).drew)) (Or.inl ⟨by rfl,fun w9 hw9=>?_⟩) ?_;rotate_left 1;obtain ⟨hc9,hf9⟩:=Z1e hw9;go_simp;with_reducible rfl)|refine Z0m undef (Or.inr ⟨by rfl,rfl⟩) ?_|refine Z0k undef (((Znk _ _).drew)) (Or.inr ⟨by rfl,rfl⟩) ?_);go_frame));refine Z1y (by kernel_rfl) (fun K9 hK9=>?_);go_simp;refine hK9 _ _ ?_;clear hK9 K9;refine Z16 ?_;simp only [Z04];refine hKK _ _ ?_;clear hKK KK;(go_wp2_with fail);go_roundw
    case rel=>
     refine ⟨i+1,by go_num,by omega,by omega,?_,Fr.drew ((HFR.out).setCell (p:=⟨g,i,none⟩) (.inl rfl) (_))⟩;have hst:=((HOW.out).stored (i) (.string y)).1
     have he:setAll ((Z3m l (rank Z01 l x) i).flatMap Z0p.cells) (i) (Z0p.cells y)=(Z3m l (rank Z01 l x) (i+1)).flatMap Z0p.cells:=by
      rw [Z4h Z0p.cells_length (by omega) _ i (by rw [Z3e l hi1 hi2];omega),HY.out,Zdd l hi1 hlt]
     rw [←he];exact hst
    case measure=>simp [intOf]<;>omega
  · have hin:i=l.length - 1:=by omega
    have HIN:=hid hin;(have b1:(0:Int)≤(l.length:Int) - 1:=by omega);(have b2:(l.length:Int) - 1≤(c1:Int):=by omega);(have b3 :¬c1=0:=by omega);have v1:IntKind.i64.wrap ((l.length:Int) - 1)=(l.length:Int) - 1:=Znu _ (by omega);(have v2:((l.length:Int) - 1).toNat=l.length - 1:=by omega);(have b4:(1:Int)≤(l.length:Int):=by omega);(have b5:l.length - 1≤c1:=by omega);have f0:wr.frozen? ⟨b,0,none⟩=false:=(HBk.out.fr HFR.out (fun h=>hgb h.symm)).frozen 0;clear hin hrm;(go_wp2_with fail);refine Z0c (fun w9=>Below wr.heap.size wr w9) [(0,0),(1,0),(2,0),(3,0),(4,1),(5,0),(6,0),(7,0),(8,1),(9,0),(10,0),(11,0),(12,0),(13,0),(14,2)] (by kernel_rfl) (by kernel_rfl) (fun KK hKK=>?_);simp only [Z0w,Znz,Znt,Znv,Znr,Zns,Zo1];(repeat ((first|(refine Z0m ?_ (Or.inl ⟨by rfl,fun w9=>?_⟩) ?_;rotate_left 1;go_simp;with_reducible rfl)|(refine Z0k ?_ (((Znk _ _).drew)) (Or.inl ⟨by rfl,fun w9 hw9=>?_⟩) ?_;rotate_left 1;obtain ⟨hc9,hf9⟩:=Z1e hw9;go_simp;with_reducible rfl)|refine Z0m undef (Or.inr ⟨by rfl,rfl⟩) ?_|refine Z0k undef (((Znk _ _).drew)) (Or.inr ⟨by rfl,rfl⟩) ?_);go_frame));refine Z1y (by kernel_rfl) (fun K9 hK9=>?_);go_simp;refine hK9 _ _ ?_;clear hK9 K9;refine Z16 ?_;simp only [Z04];refine hKK _ _ ?_;clear hKK KK;(go_wp2_with fail);go_ret;(have hdl:(drop Z01 l x).length=l.length - 1:=by rw [HDE.out];simp;omega);refine ⟨by rw [hh];rfl,false,some ⟨g,0,none⟩,c1,⟨?_,?_⟩,?_,HgMv.out⟩
    · rw [hdl]
      exact (HBk.out.fr HFR.out (fun h=>hgb h.symm)).set_ 0 _
    · rw [hdl]
      refine ownsRow_setCell_other (a:=⟨b,0,none⟩) ?_ (by simpa [Value.ownBlock] using hgb) _;have h1:=HOW.out;rw [HIN.out] at h1;have h2:=Z9t Z0p.cells_length (by omega) h1 (m:=l.length - 1) (by omega) (Z3e l (by omega) (by omega));rw [Zfv l hrk,←HDE.out] at h2;exact h2
    · exact (HF.out.into HFR.out (fun k hk=>by subst hk;exact HgM.out)).drew.setCell (p:=⟨b,0,none⟩) (.inl (.inl rfl)) _
theorem Zfw (b c:Nat) (sn:Bool) (A:Option Addr) (l:List Z0p) (x:Z0p) (w:World) (hS:Z21 w b sn A c l) (hs:Srt Z01 l) (hl:(l.length:Int)≤100000000) :
 Calls Tryz.prog 122 #[.pointer (some ⟨b,0,none⟩),.string x] w (Z5c w b sn A l x):=by
 cases hh:has Z01 l x
 · exact Z9p b c sn A l x w hS hs hl hh
 · exact Zat b c sn A l x w hS hs hl hh
theorem Ze5 (b c:Nat) (sn:Bool) (A:Option Addr) (l:List Z0p) (x:Z0p) (w:World) (hS:Z21 w b sn A c l) (hs:Srt Z01 l) (hl:(l.length:Int)≤1000000000) :
 Calls Tryz.prog 167 #[.pointer (some ⟨b,0,none⟩),.string x] w (Z9z l x w):=by
 have HS:=hid hS;have HO:=hid hs;clear hS hs;go_enter Tryz.func167,Tryz.ntmps167;(go_wp2_with fail);refine (Z53 b c sn A l x _ (HS.out.new_ (Znk _ _)) HO.out (by omega)).mono ?_;rintro e w1 ⟨rfl,hb1⟩;(go_wp2_with fail);go_ret2;exact ⟨rfl,(Znk _ _).trans (hb1.mono (by simp))⟩
def Zbp (w:World) (xs:List Z0p) (e:Ending) (w':World):Prop:=
 ∃k,e = .returned (.pointer (some ⟨k,0,none⟩))∧w.heap.size≤k∧∃sn A c,Z21 w' k sn A c (puts Z01 [] xs)∧AIn A (w.heap.size≤·)∧Below w.heap.size w w'
theorem Zib (A:Option Addr) (c:Nat) (xs:List Z0p) (w:World) (hrd:Z0z w 1 Z0p.cells A c xs) (hl:(xs.length:Int)≤10000000) :
 Calls Tryz.prog 64 #[.slice A xs.length c] w (Zbp w xs):=by
 have HRD:=hid hrd;clear hrd;go_enter Tryz.func64,Tryz.ntmps64;(go_wp2_with fail);obtain ⟨W0,hW0⟩:∃W0,W0=w.alloc (.cells #[.slice none 0 0,.bool false] 191):=⟨_,rfl⟩;(have hb0:Below w.heap.size w W0:=by rw [hW0];exact (Znk _ _).alloc (Znl _) _);have hS0:Z21 W0 w.heap.size false none 0 []:=⟨by rw [hW0];exact Blk.new _ _ _,⟨by simp,.inl ⟨rfl,rfl⟩⟩⟩;rw [←hW0];clear hW0;have HB0:=hid hb0;have HS0:=hid hS0;clear hb0 hS0
 go_loopw [10] (fun s wr=>∃i:Nat,s = .int .i64 i∧i≤xs.length∧∃sn A' c',Z21 wr w.heap.size sn A' c' (puts Z01 [] (xs.take i))∧AIn A' (w.heap.size≤·)∧Below w.heap.size w wr) (fun s wr=>xs.length - (intOf s).toNat)
 case atStart=>exact ⟨0,rfl,Nat.zero_le _,false,none,0,HS0.out,AIn.none_ _,HB0.out⟩
 case round=>
  obtain ⟨i,rfl,hi,sn,A',c',hS,hA',hB⟩:=hrel;have HS:=hid hS;have HA:=hid hA';have HB:=hid hB;clear hS hA' hB;by_cases hlt:i<xs.length
  · obtain ⟨x,hx⟩:∃x,x=xs[i]:=⟨_,rfl⟩
    obtain ⟨g,off,rfl,hgs,hcell⟩:=(HRD.out.fr (Fr.of_new (M:=fun _=>False) HB.out) (fun _ _ h=>h)).at_ hlt;rw [←hx] at hcell;(have q0:wr.cell? ⟨g,off+i,none⟩=some (.string x):=by simpa using hcell 0 _ rfl);(have b1:(0:Int)≤(i:Int):=by omega);(have b2:(i:Int)<(xs.length:Int):=by omega);have HX:=hid hx;clear hcell hx;(go_wp2_with fail);have hsr:=Srt.puts Z2g (xs.take i) (Srt.nil (cmp:=Z01))
    have hlen:(((puts Z01 [] (xs.take i)).length:Nat):Int)≤100000000:=by
     have:=Z1d Z2g (xs.take i) (Srt.nil (cmp:=Z01));simp at this;omega
    refine (Zcr w.heap.size c' sn A' _ x _ (HS.out.new_ (Znk _ _)) hsr hlen).mono ?_;rintro e w1 ⟨rfl,sn2,A2,c2,hS2,hF2,hM2⟩
    have hB1:Below w.heap.size w w1:=(HB.out).trans (hF2.below (by have:=HB.out.size;(try simp);omega) (fun k hk hm=>by
     rcases hm with hm|⟨_,a,ha,hm⟩
     · omega
     · have:=HA.out a ha;omega))
    have hA2:AIn A2 (w.heap.size≤·):=by
     rcases hM2 with ⟨_,rfl⟩|⟨_,g2,hg2,rfl⟩
     · exact HA.out
     · intro a ha;cases ha;have:=HB.out.size;(try simp at hg2 ⊢);omega
    have HS2:=hid hS2;have HB1:=hid hB1;have HA2:=hid hA2;clear hS2 hB1 hA2 hF2 hM2 hsr hlen q0;(go_wp2_with fail);go_roundw
    case rel=>
     refine ⟨i+1,by go_num,by omega,sn2,A2,c2,?_,HA2.out,HB1.out⟩;rw [Zor,Znq hlt,←HX.out];simp only [Option.toList_some,Z36];exact HS2.out
    case measure=>simp [intOf]<;>omega
  · have hie:i=xs.length:=by omega
    subst hie;(go_wp2_with fail);go_ret;refine ⟨w.heap.size,rfl,Znl _,sn,A',c',?_,HA.out,HB.out⟩;have:=HS.out;rwa [Zo6] at this
abbrev Zgq:=Sets (α:=Z0p) 191 132 1 Z0p.cells Z01
section
variable {D:Nat→Prop}{w:World}{S:Nat→Option (List Z0p)}{σ:Nat→St}{b:Nat}{l:List Z0p}
end
end
section
open Go.RowKit
abbrev Z5l:=Z25 (α:=Sym) 203 38 3 Sym.cells
theorem Zch (k0 : Int) (k1 : ByteArray) (k2 : Int) (w : World) : (nilAhead 442 38 (.agg #[.int .i64 k0, .string k1, .int .i64 k2]) "Compare").run Tryz.prog w = .ok (some false) w := by kernel_rfl
theorem Zgb (k0 : Int) (k1 : ByteArray) (k2 : Int) (w : World) : (method 442 38 (.agg #[.int .i64 k0, .string k1, .int .i64 k2]) "Compare").run Tryz.prog w = .ok (226, .agg #[.int .i64 k0, .string k1, .int .i64 k2]) w := by kernel_rfl
def Zjc (l:List Sym) (x:Sym) (w:World) (e:Ending) (w':World):Prop:=
 e = .returned (.tuple #[.int .i64 (rank Z1h l x),.bool (has Z1h l x)])∧Below w.heap.size w w'
theorem Zep (b c:Nat) (sn:Bool) (A:Option Addr) (l:List Sym) (x:Sym) (w:World) (hS:Z5l w b sn A c l) (hs:Srt Z1h l) (hl:(l.length:Int)≤4611686018427387904) :
 Calls Tryz.prog 132 #[.pointer (some ⟨b,0,none⟩),.agg #[.int .i64 x.kind,.string x.text,.int .i64 x.n]] w (Zjc l x w):=by
 have hrd:=hS.rd Sym.cells_length;have h0:=hS.cell0;have hb:=hS.lt;clear hS;have HS:=hid hs;have HRD:=hid hrd;clear hs hrd;go_enter Tryz.func132,Tryz.ntmps132;(go_wp2_with fail);go_quiet (fail);(go_wp2_with fail);obtain ⟨W0,hW0⟩:∃W0,W0=((w.alloc (Obj.cells #[.int .i64 x.kind,.string x.text,.int .i64 x.n] 38)).drewN nq):=⟨_,rfl⟩;(have hB0:Below w.heap.size w W0:=by rw [hW0];exact Below.drewN' ((Znk _ _).alloc (Znl _) _) _);(have hx0:W0.cell? ⟨w.heap.size,0,none⟩=some (.int .i64 x.kind):=by rw [hW0];go_simp);(have hx1:W0.cell? ⟨w.heap.size,1,none⟩=some (.string x.text):=by rw [hW0];go_simp);(have hx2:W0.cell? ⟨w.heap.size,2,none⟩=some (.int .i64 x.n):=by rw [hW0];go_simp);rw [←hW0];clear hW0;have HB0:=hid hB0;clear hB0
 go_loopw [6,7] (fun lo hi wr=>∃i j:Nat,lo = .int .i64 i∧hi = .int .i64 j∧i≤j∧j≤l.length∧(∀k,(h:k<l.length)→k<i→Z1h l[k] x<0)∧(∀k,(h:k<l.length)→j≤k→0<Z1h l[k] x)∧Below W0.heap.size W0 wr) (fun lo hi wr=>(intOf hi).toNat - (intOf lo).toNat)
 case atStart=>exact ⟨0,l.length,rfl,rfl,Nat.zero_le _,Znl _,fun k _ h=>absurd h (by omega),fun k h h'=>absurd h (by omega),Znk _ _⟩
 case round=>
  obtain ⟨i,j,rfl,rfl,hij,hj,hlo,hhi,hB⟩:=hrel;have HLO:=hid hlo;have HHI:=hid hhi;clear hlo hhi;have hsz:w.heap.size<W0.heap.size:=Znx W0 _ hx0;by_cases hlt:i<j
  · obtain ⟨m,hm⟩:∃m,m=i+(j - i) / 2:=⟨_,rfl⟩
    (have hml:m<l.length:=by omega);(have hmj:m<j:=by omega);(have hmi:i≤m:=by omega);(have e1:((i:Int)+((j:Int) - (i:Int)) / 2)=(m:Int):=by omega);have E1:=hid e1;clear e1 hm;obtain ⟨g,off,rfl,hgs,hcell⟩:=HRD.out.at_ hml;have low :∀(p:Addr),p.block<w.heap.size→wr.cell? p=w.cell? p:=fun p hp=>(hB.cell (p:=p) (by omega)).trans (HB0.out.cell (p:=p) hp);have r0:=(low ⟨b,0,none⟩ hb).trans h0;have q0:=(low ⟨g,off+m*3,none⟩ hgs).trans (hcell 0 _ rfl);have q1:=(low ⟨g,off+m*3+1,none⟩ hgs).trans (hcell 1 _ rfl);have q2:=(low ⟨g,off+m*3+2,none⟩ hgs).trans (hcell 2 _ rfl);have y0:=(hB.cell (p:=⟨w.heap.size,0,none⟩) hsz).trans hx0;have y1:=(hB.cell (p:=⟨w.heap.size,1,none⟩) hsz).trans hx1;have y2:=(hB.cell (p:=⟨w.heap.size,2,none⟩) hsz).trans hx2;(have b1:(0:Int)≤(m:Int):=by omega);(have b2:(m:Int)<(l.length:Int):=by omega);have hsw:W0.heap.size≤wr.heap.size:=hB.size;have N:=Zch;have M:=Zgb;clear low hcell hx0 hx1 hx2 h0;have HB:=hid hB;clear hB;obtain ⟨y,hy⟩:∃y,y=l[m]:=⟨_,rfl⟩;rw [←hy] at q0 q1 q2;have HY:=hid hy;clear hy;(have hbw:b<wr.heap.size:=by omega);(have hgw:g<wr.heap.size:=by omega);(have hww:w.heap.size<wr.heap.size:=by omega);(go_wp2_with fail);rw [E1.out]
    go_region_held3 (fun w'=>w'.cell? ⟨b,0,none⟩=some (.slice (some ⟨g,off,none⟩) l.length c)∧w'.cell? ⟨g,off+m*3,none⟩=some (.int .i64 y.kind)∧w'.cell? ⟨g,off+m*3+1,none⟩=some (.string y.text)∧w'.cell? ⟨g,off+m*3+2,none⟩=some (.int .i64 y.n)∧w'.cell? ⟨w.heap.size,0,none⟩=some (.int .i64 x.kind)∧w'.cell? ⟨w.heap.size,1,none⟩=some (.string x.text)∧w'.cell? ⟨w.heap.size,2,none⟩=some (.int .i64 x.n))
     (first|go_keep|(refine ⟨?_,?_,?_,?_,?_,?_,?_⟩<;>exact (hb1.cell (by simpa using by assumption)).trans (by simp [*])))
     ((go_at_call 226;refine (Zls y x _).mono ?_;rintro e w1 ⟨rfl,hb1⟩))
    have HB1:Below W0.heap.size W0 w1:=HB.out.drew.trans (hb1.mono hsw);clear r0 q0 q1 q2 y0 y1 y2 N M;by_cases hc:Z1h y x=0
    · have HC:=hid hc
      (have t1:(Z1h y x == 0)=true:=by simp [hc]);clear hc;(go_wp2_with fail);go_ret2;have e:=HC.out;rw [HY.out] at e;refine ⟨?_,HB0.out.trans (HB1.mono (by omega))⟩;rw [Z5b Z6e HS.out hml e,(Z5t Z6e HS.out hml e).2.2.1];rfl
    · have t1:(Z1h y x == 0)=false:=by simp [hc]
      by_cases hc2:Z1h y x<0
      · have HC:=hid hc2
        (have t2:decide (Z1h y x<0)=true:=by simpa using hc2);clear hc hc2;(go_wp2_with fail);go_roundw
        case rel=>
         refine ⟨m+1,j,by go_num,rfl,by omega,hj,fun k h1 h2=>?_,HHI.out,HB1⟩;have e:=HC.out;rw [HY.out] at e;rcases Nat.lt_or_ge k m with h3|h3
         · exact Z6e.lt_of_lt_of_le (HS.out.lt h3 hml) (by omega)
         · obtain rfl:k=m:=by omega
           exact e
        case measure=>simp [intOf];omega
      · have t2:decide (Z1h y x<0)=false:=by simpa using hc2
        (have hc3:0<Z1h y x:=by omega);have HC:=hid hc3;clear hc hc2 hc3;(go_wp2_with fail);go_roundw
        case rel=>
         refine ⟨i,m,rfl,rfl,by omega,by omega,HLO.out,fun k h1 h2=>?_,HB1⟩;have e:=HC.out;rw [HY.out] at e;rcases Nat.lt_or_ge m k with h3|h3
         · exact (Z6e.symm _ _).1 (Z6e.lt_trans ((Z6e.symm _ _).2 e) (HS.out.lt h3 h1))
         · obtain rfl:k=m:=by omega
           exact e
        case measure=>simp [intOf];omega
  · obtain rfl:i=j:=by omega
    have HB:=hid hB;clear hB;(go_wp2_with fail);go_ret2;refine ⟨?_,HB0.out.trans (HB.out.mono (by omega))⟩;rw [Z5a hj HLO.out HHI.out,(Z6m HLO.out HHI.out).2.2];rfl
theorem Zez:(Tryz.prog.info? 38).map (fun i=>(i.zero,i.size,i.bytes))=some (some (.agg #[.int .i64 0,.string ⟨#[]⟩,.int .i64 0]),3,32):=by kernel_rfl
theorem Sym.one (x:Sym):∀u∈Sym.cells x,u.oneCell'=true:=by intro u hu;simp [Sym.cells] at hu;rcases hu with rfl|rfl|rfl<;>rfl
theorem Sym.oneAll (l:List Sym):∀u∈l.flatMap Sym.cells,u.oneCell'=true:=by intro u hu;obtain ⟨x,_,hx⟩:=List.mem_flatMap.1 hu;exact Sym.one x u hx
def Z7k (w:World) (b:Nat) (sn:Bool) (A:Option Addr) (l:List Sym) (e:Ending) (w':World):Prop:=
 e = .returned (.tuple #[])∧∃A' c',Z5l w' b false A' c' l∧Fr (· = b) w w'∧Z32 w sn A false A'
theorem Zgk (b c:Nat) (A:Option Addr) (l:List Sym) (w:World) (hS:Z5l w b false A c l) :
 Calls Tryz.prog 133 #[.pointer (some ⟨b,0,none⟩)] w (Z7k w b false A l):=by
 have h1:=hS.cell1;have HS:=hid hS;clear hS;go_enter Tryz.func133,Tryz.ntmps133;go_wp2;go_end0;exact ⟨rfl,A,c,HS.out,Fr.refl _ _,.inl ⟨rfl,rfl⟩⟩
theorem Ze4 (b c:Nat) (A:Option Addr) (l:List Sym) (w:World) (hS:Z5l w b true A c l) (hl:(l.length:Int)≤1000000000) :
 Calls Tryz.prog 133 #[.pointer (some ⟨b,0,none⟩)] w (Z7k w b true A l):=by
 obtain ⟨i0,hi,hz0,hz1,hz2⟩:=info_parts Zez;have h0:=hS.cell0;have h1:=hS.cell1;have hb:=hS.lt;have f0:=hS.blk.frozen 0;have f1:=hS.blk.frozen 1;have hrd:=hS.rd Sym.cells_length;have HB:=hid hS.blk;have HRD:=hid hrd;clear hS hrd;have e1:IntKind.i64.wrap ((l.length:Int)+1)=(l.length:Int)+1:=Znu _ (by omega)
 have hmk :∀W:World,(Instr.makeSlice 27 (.int .i64 0) (.int .i64 ((l.length:Int)+1))).run Tryz.prog W = .ok (.slice (some ⟨W.heap.size,0,none⟩) 0 (l.length+1)) (W.alloc (.cells (madeCells (Value.cells (.agg #[.int .i64 0,.string ⟨#[]⟩,.int .i64 0])) ((l.length+1)*3)) 38)):=fun W=>by
  have h:=run_make (P:=Tryz.prog) W 27 38 i0 _ Tryz.underlying27 hi hz0 .i64 .i64 0 ((l.length:Int)+1) (by omega) (by omega) (by rw [hz2];omega) (by omega);rw [hz1] at h;simpa [show ((l.length:Int)+1).toNat=l.length+1 by omega] using h
 go_enter Tryz.func133,Tryz.ntmps133;(go_wp2_with fail);refine Z0c (fun w9=>Below w.heap.size w w9) [(0,0),(1,0),(2,0),(3,0),(4,1),(5,0),(6,0),(8,0),(9,0),(10,0),(11,1),(7,2),(12,2),(13,0),(14,0),(15,2)] (by kernel_rfl) (by kernel_rfl) (fun KK hKK=>?_);simp only [Z0w,Znz,Znt,Znv,Znr,Zns,Zo1];(repeat ((first|(refine Z0m ?_ (Or.inl ⟨by rfl,fun w9=>?_⟩) ?_;rotate_left 1;go_simp;with_reducible rfl)|(refine Z0k ?_ (((Znk _ _).drew)) (Or.inl ⟨by rfl,fun w9 hw9=>?_⟩) ?_;rotate_left 1;obtain ⟨hc9,hf9⟩:=Z1e hw9;go_simp;with_reducible rfl)|refine Z0m undef (Or.inr ⟨by rfl,rfl⟩) ?_|refine Z0k undef (((Znk _ _).drew)) (Or.inr ⟨by rfl,rfl⟩) ?_);go_frame));refine Z2j (fun K9 hK9=>?_);go_simp;refine hK9 _ _ (((Znk _ _).drew).alloc (Znl _) _) ?_;clear hK9 K9;refine Z1y (by kernel_rfl) (fun K9 hK9=>?_)
 refine Z0f _ (by rfl) _ _ _ (by rfl) 38 i0 _ 3 32 Tryz.underlying27 hi hz0 hz1 hz2 rfl (by omega) _ 0 [] (by rfl) (World.ownsRow_made _ _ _ (Nat.zero_le _) (by unfold maxLen;omega) (by simp [madeCells])) A l.length c (l.flatMap Sym.cells) (by rfl) (Z08 Sym.cells_length l)
  ((HRD.out.drew.alloc _).news Sym.cells_length (by omega)) (Sym.oneAll l) (by unfold maxLen;omega) (by omega) ?_
 intro v2 w2 hown hgr hnil hat;refine hK9 _ _ ?_;clear hK9 K9;rw [Zoa,Zo3] at hown;obtain ⟨A',c',rfl,_,_,hz⟩:=Z0v hown;have HB1:=(HB.out.drew.alloc (.cells (madeCells (Value.cells (.agg #[.int .i64 0,.string ⟨#[]⟩,.int .i64 0])) ((l.length+1)*3)) 38)).grown hgr (by simp [Value.ownBlock];omega);have c0:=(HB1.cell 0).trans rfl;have c1:=(HB1.cell 1).trans rfl;have z0:=HB1.frozen 0;have z1:=HB1.frozen 1;have HB2:=hid HB1;clear HB1;(repeat ((first|(refine Z0m ?_ (Or.inl ⟨by rfl,fun w9=>?_⟩) ?_;rotate_left 1;go_simp;with_reducible rfl)|(refine Z0k ?_ (((Znk _ _).drew).alloc (Znl _) _) (Or.inl ⟨by rfl,fun w9 hw9=>?_⟩) ?_;rotate_left 1;obtain ⟨hc9,hf9⟩:=Z1e hw9;go_simp;with_reducible rfl)|refine Z0m undef (Or.inr ⟨by rfl,rfl⟩) ?_|refine Z0k undef (((Znk _ _).drew).alloc (Znl _) _) (Or.inr ⟨by rfl,rfl⟩) ?_);go_frame));refine Z1y (by kernel_rfl) (fun K9 hK9=>?_);go_simp;refine hK9 _ _ ?_;clear hK9 K9;refine Z16 ?_;simp only [Z04];refine hKK _ _ ?_;clear hKK KK;go_wp2;go_end0
 have hb2:(Value.slice A' l.length c').ownBlock=some w.heap.size∨(Value.slice A' l.length c').ownBlock=some (w.heap.size+1):=by
  rcases hat with h|h
  · left;rw [h];rfl
  · right;rw [h];simp
 have hA :∃g,w.heap.size≤g∧A'=some ⟨g,0,none⟩:=by
  rcases A' with _|a
  · exfalso;simp [Value.ownBlock] at hb2
  · obtain ⟨g,rfl⟩:=hz a rfl
    refine ⟨g,?_,rfl⟩;simp [Value.ownBlock] at hb2;omega
 obtain ⟨g,hg,rfl⟩:=hA;have HB1:=HB2.out;have HF:Fr (· = b) w w2:=((Fr.refl (· = b) w).drew.alloc _).grown hgr (fun k e=>by simp [Value.ownBlock] at e;right;omega);refine ⟨rfl,some ⟨g,0,none⟩,c',⟨(HB1.set_ 0 _).set_ 1 _,?_⟩,(HF.setCell (p:=⟨b,0,none⟩) (.inl rfl) _).setCell (p:=⟨b,1,none⟩) (.inl rfl) _,.inr ⟨rfl,g,hg,rfl⟩⟩;(have hne:(Value.slice (some ⟨g,0,none⟩) l.length c').ownBlock≠some b:=by simp [Value.ownBlock];omega);exact ownsRow_setCell_other (a:=⟨b,1,none⟩) (ownsRow_setCell_other (a:=⟨b,0,none⟩) hown hne _) hne _
theorem Zmf (b c:Nat) (sn:Bool) (A:Option Addr) (l:List Sym) (w:World) (hS:Z5l w b sn A c l) (hl:(l.length:Int)≤1000000000) :
 Calls Tryz.prog 133 #[.pointer (some ⟨b,0,none⟩)] w (Z7k w b sn A l):=by
 cases sn
 · exact Zgk b c A l w hS
 · exact Ze4 b c A l w hS hl
end
end Go.Proofs.YtfidcfjcmlgkbaaGreat
