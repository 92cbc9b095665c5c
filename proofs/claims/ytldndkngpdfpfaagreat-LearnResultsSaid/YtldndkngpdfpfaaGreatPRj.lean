/-
  Texts put together: LrnRe, LrnN0, VaryN3, VaryN4A.
-/
import Derived.Test.YtldndkngpdfpfaaGreatPRi
namespace Go.Proofs.YtldndkngpdfpfaaGreat
open Lib (hid)
set_option maxRecDepth 100000
set_option maxHeartbeats 32000000
section
open Go.RowKit Go.Shelf
attribute [local go_sem] Oper.semAt_some
set_option linter.unusedSimpArgs false
theorem Zkk:(Tryz.prog.info? 23).map (fun i=>(i.zero,i.size,i.bytes))=some (some (.agg #[.int .i64 0,.string ⟨#[]⟩,.int .i64 0]),3,32):=by kernel_rfl
theorem Zl6 (l:List Sym) : ∀u∈l.flatMap Sym.cells,u.oneCell'=true:=by
 intro u hu;obtain ⟨b,_,hb⟩:=List.mem_flatMap.1 hu;simp only [Sym.cells,Zov,Zp1,or_false] at hb;rcases hb with rfl | rfl | rfl<;>rfl
theorem Zkd (l:List Sym) (s:Sym):has Z09 l s=decide (s∈l):=by
 rw [Bool.eq_iff_iff,Zhq,Zps]
theorem Zdu (lv:Int) (l all:List Z05) (lvs:List LevT) (AL:Option Addr) (cL:Nat) (AV:Option Addr) (cV:Nat) (AA:Option Addr) (cA:Nat) (X:World) (hl:Z0l X 16 Z05.cells AL cL l) (hv:Z0l X 4 LevT.cells AV cV lvs) (ha:Z0l X 16 Z05.cells AA cA all) (hnn : ∀s,0≤lvD lvs s) (h1:l.length≤20) (h2:all.length≤40) :
 Calls Tryz.prog 55 #[.int .i64 lv,.slice AL l.length cL,.slice AV lvs.length cV,.slice AA all.length cA] X (Zng (lvD lvs) lv l all X):=by
 have HL:=hid hl;have HV:=hid hv;have HA:=hid ha;have hlc:=hl.cap;have hac:=ha.cap;clear hl hv ha;obtain ⟨of,hof⟩ : ∃of,of=lvD lvs:=⟨_,rfl⟩;have HOF:=hid (show ∀s W,Below X.heap.size X W→Calls Tryz.prog 89 #[.slice AV lvs.length cV,.agg #[.int .i64 s.kind,.string s.text,.int .i64 s.n]] W fun e w'=>e = .returned (.int .i64 (of s))∧Below W.heap.size W w' from fun s W hW=>by rw [hof];exact Zny AV cV lvs s W (HV.out.new_ hW));rw [← hof] at hnn ⊢;have HNN:=hid hnn;clear hof hnn;obtain ⟨i0,hi0,hz0,hz1,hz2⟩:=infp Zkk;go_enter Tryz.func55,Tryz.ntmps55;go_wp2_with fail
 go_loopw [9,10] (fun vo s wr=>∃(i:Nat) (o:List Z05) (A:Option Addr) (c:Nat),s = .int .i64 (i:Int)∧i≤l.length∧vo = .slice A o.length c∧o=Z3k of lv [] (l.take i)∧o.length≤i∧LrD X o A c [] none 0 wr) (fun vo s wr=>l.length - (intOf s).toNat)
 case atStart=>exact ⟨0,[],none,0,rfl,Nat.zero_le _,rfl,rfl,Zoc _,⟨⟨by simp,.inl ⟨rfl,rfl⟩⟩,AIn.none_ _,⟨by simp,.inl ⟨rfl,rfl⟩⟩,AIn.none_ _,Zob _ _⟩⟩
 case round=>
  obtain ⟨i,o,A,c,rfl,hi,rfl,ho,hol,hrs⟩:=hrel;have HR:=hid hrs;have HOE:=hid ho;clear hrs ho;by_cases hlt:i<l.length
  · skip
    obtain ⟨y,hy⟩ : ∃y,y=l[i]:=⟨_,rfl⟩;obtain ⟨g,off,hAA,hgl,hrg⟩:=(HL.out.new_ HR.out.bel).range hlt;rw [← hy] at hrg;subst hAA;have HTK:=hid (show l.take (i+1)=l.take i ++ [y] by rw [Zp2,Zok hlt,hy];rfl);have q0:wr.cell? ⟨g,off+i*16,none⟩=some (.int .i64 y.id.kind):=hrg 0 _ rfl;have q1:wr.cell? ⟨g,off+i*16+1,none⟩=some (.string y.id.text):=hrg 1 _ rfl;have q2:wr.cell? ⟨g,off+i*16+2,none⟩=some (.int .i64 y.id.n):=hrg 2 _ rfl;have HLX:=hid (HL.out);have HIL:=hid hlt;have HYE:=hid hy;(have j1:(0:Int)≤(i:Int):=by omega);(have j2:(i:Int)<(l.length:Int):=by omega);have v1:IntKind.i64.wrap ((i:Int)+1)=(i:Int)+1:=Zoq _ (by omega);have HLC:=hid (HOF.out y.id wr HR.out.bel);clear hrg hy;(go_wp2_with fail);refine HLC.out.mono ?_;rintro e w6 ⟨rfl,hb6⟩;have HR6:=hid (HR.out.new_ hb6);obtain ⟨n,hn⟩ : ∃n,n=of y.id:=⟨_,rfl⟩;rw [← hn];have HN:=hid (show Z2u lv n=Z2u lv (of y.id) by rw [hn]);clear hb6 hn q0 q1 q2 HLC;have HNO:=hid (show Z2u lv n=false→Z3k of lv [] (l.take (i+1))=o from fun h=>by rw [HTK.out,Z51,← HN.out,h,← HOE.out];simp);have HYEP:=hid (show Z2u lv n=true→Z3k of lv [] (l.take (i+1))=addP o y from fun h=>by rw [HTK.out,Z51,← HN.out,h,← HOE.out];simp);clear HN HOE HTK;by_cases g1:1≤n
    case neg=>
     (have d1:decide (1≤n)=false:=by simpa using g1);have HOX:=hid (HNO.out (by unfold Z2u;simp;omega));(go_wp2_with fail);go_roundw
     case rel=>exact ⟨i+1,o,A,c,by go_num,by omega,rfl,HOX.out.symm,by omega,HR6.out⟩
     case measure=>simp [intOf]<;>omega
    (have d1:decide (1≤n)=true:=by simpa using g1);by_cases g2:n<lv
    case neg=>
     (have d2:decide (n<lv)=false:=by simpa using g2);have HOX:=hid (HNO.out (by unfold Z2u;simp;omega));(go_wp2_with fail);go_roundw
     case rel=>exact ⟨i+1,o,A,c,by go_num,by omega,rfl,HOX.out.symm,by omega,HR6.out⟩
     case measure=>simp [intOf]<;>omega
    (have d2:decide (n<lv)=true:=by simpa using g2);have HG:=hid (show Z2u lv n=true by unfold Z2u;simp [g1,g2]);clear g1 g2
    have HRG:=hid (show w6.rangeAt g (off+i*16) [.int .i64 y.id.kind,.string y.id.text,.int .i64 y.id.n,.int .i64 y.attr.kind,.string y.attr.text,.int .i64 y.attr.n,.int .i64 y.value.kind,.string y.value.text,.int .i64 y.value.n,.int .i64 y.other.kind,.string y.other.text,.int .i64 y.other.n,.int .i64 y.kind,.bool y.o,.int .i64 y.level,.int .i64 y.by_] by
     obtain ⟨g',off',e1,_,h3⟩:=(HL.out.new_ HR6.out.bel).range HIL.out;injection e1 with e1;injection e1 with e1 e2;subst e1;subst e2
     rw [← HYE.out] at h3;exact h3)
    have HRC:=hid (Z9p o A c [] none 0 y w6 HR6.out (by omega));(have hal:(addP o y).length≤i+1:=by unfold addP;split<;>(try simp)<;>omega);obtain ⟨on,hon⟩ : ∃on,on=addP o y:=⟨_,rfl⟩;rw [← hon] at HRC hal;have HON:=hid hon;clear hon;(go_wp2_with (with_reducible refine wpList_load_mid rfl 68 _ rfl g (off+i*16) rfl _ _ HRG.out Tryz.underlying68 rfl (by kernel_rfl) ?_));refine HRC.out.mono ?_;rintro e w7 ⟨A7,c7,rfl,hr7,_,_⟩;have HR7:=hid hr7;clear hr7;(go_wp2_with fail);go_roundw
    case rel=>exact ⟨i+1,on,A7,c7,by go_num,by omega,rfl,by rw [HYEP.out HG.out,HON.out],hal,HR7.out⟩
    case measure=>simp [intOf]<;>omega
  · skip
    (obtain rfl:i=l.length:=by omega);have HOL:=hid (show o=Z3k of lv [] l by have:=HOE.out;rwa [Zoy] at this);(have jz : ¬(l.length:Int)<(l.length:Int):=by omega);clear HOE hi hlt;go_wp2_with fail
    go_loopw [9,12,13] (fun vo vd s wr=>∃(i:Nat) (st:List Z05×List Sym) (A:Option Addr) (c:Nat) (Ad:Option Addr) (cd:Nat),s = .int .i64 (i:Int)∧vo = .slice A st.1.length c∧vd = .slice Ad st.2.length cd∧RunR of lv l all i st∧i≤st.1.length∧LrD X st.1 A c st.2 Ad cd wr) (fun vo vd s wr=>(l.length+all.length) - (intOf s).toNat)
    case atStart=>exact ⟨0,(Z3k of lv [] l,[]),A,c,none,0,rfl,by rw [HOL.out],rfl,.start,Nat.zero_le _,by rw [← HOL.out];exact HR.out⟩
    case round=>
     clear HOL HR hol;obtain ⟨i,st,A,c,Ad,cd,rfl,rfl,rfl,hrun,hil,hrd⟩:=hrel;have HRUN:=hid hrun;have HR:=hid hrd;have HFR:=hid (Z8g hrun);have HRG:=hid (Zeq hrun);have hbound:=(Z8g hrun).len;clear hrun hrd;by_cases hlt:i<st.1.length
     · skip
       obtain ⟨y,hy⟩ : ∃y,y=st.1[i]:=⟨_,rfl⟩;have HYE:=hid (show st.1[i]? = some y by rw [Zok hlt,hy]);obtain ⟨g,off,hAA,hgl,hcell⟩:=(Z0c Z05.cells_length HR.out.o1).at_ hlt;rw [← hy] at hcell;subst hAA;(have q6:wr.cell? ⟨g,off+i*16+6,none⟩=some (.int .i64 y.value.kind):=by simpa using hcell 6 _ rfl);(have q7:wr.cell? ⟨g,off+i*16+7,none⟩=some (.string y.value.text):=by simpa using hcell 7 _ rfl);(have q8:wr.cell? ⟨g,off+i*16+8,none⟩=some (.int .i64 y.value.n):=by simpa using hcell 8 _ rfl);(have q9:wr.cell? ⟨g,off+i*16+9,none⟩=some (.int .i64 y.other.kind):=by simpa using hcell 9 _ rfl);(have q10:wr.cell? ⟨g,off+i*16+10,none⟩=some (.string y.other.text):=by simpa using hcell 10 _ rfl);(have q11:wr.cell? ⟨g,off+i*16+11,none⟩=some (.int .i64 y.other.n):=by simpa using hcell 11 _ rfl);(have j1:(0:Int)≤(i:Int):=by omega);(have j2:(i:Int)<(st.1.length:Int):=by omega);clear hcell hy;(go_wp2_with fail);refine Z04 (fun w9=>Below wr.heap.size wr w9) [(0,0),(1,0),(2,0),(3,0),(4,1),(5,0),(6,0),(7,0),(8,0),(9,1),(10,2),(11,0)] (by kernel_rfl) (by kernel_rfl) (fun KK hKK=>?_);simp only [Z06,Zol,Zoe,Zoj,Zoh,Zoi,Zoo];(repeat ((first | (refine Z0b ?_ (Or.inl ⟨by rfl,fun w9=>?_⟩) ?_;rotate_left 1;go_simp;with_reducible rfl) | (refine Z0a ?_ (((Zob _ _).drew)) (Or.inl ⟨by rfl,fun w9 hw9=>?_⟩) ?_;rotate_left 1;obtain ⟨hc9,hf9⟩:=Z0r hw9;go_simp;with_reducible rfl) | refine Z0b undef (Or.inr ⟨by rfl,rfl⟩) ?_ | refine Z0a undef (((Zob _ _).drew)) (Or.inr ⟨by rfl,rfl⟩) ?_);go_frame));refine Z24 (fun K9 hK9=>?_);go_simp;have HB5:=hid (show Below wr.heap.size wr _ from ((Zob wr.heap.size wr).drew.alloc (Zoc _) (.cells #[.int .i64 y.value.kind,.string y.value.text,.int .i64 y.value.n,.int .i64 y.other.kind,.string y.other.text,.int .i64 y.other.n] 23)));refine hK9 _ _ HB5.out ?_;clear hK9 K9;(repeat ((first | (refine Z0b ?_ (Or.inl ⟨by rfl,fun w9=>?_⟩) ?_;rotate_left 1;go_simp;with_reducible rfl) | (refine Z0a ?_ (HB5.out) (Or.inl ⟨by rfl,fun w9 hw9=>?_⟩) ?_;rotate_left 1;obtain ⟨hc9,hf9⟩:=Z0r hw9;go_simp;with_reducible rfl) | refine Z0b undef (Or.inr ⟨by rfl,rfl⟩) ?_ | refine Z0a undef (HB5.out) (Or.inr ⟨by rfl,rfl⟩) ?_);go_frame));refine Z11 ?_;simp only [Z00];refine hKK _ _ ?_;clear hKK KK;have HB5:=hid HB5.out;obtain ⟨W5,hW5⟩ : ∃W,W=(wr.alloc (.cells #[.int .i64 y.value.kind,.string y.value.text,.int .i64 y.value.n,.int .i64 y.other.kind,.string y.other.text,.int .i64 y.other.n] 23)).drew:=⟨_,rfl⟩;obtain ⟨tb,htb⟩ : ∃b,b=wr.heap.size:=⟨_,rfl⟩;have HT5:=hid (show Blk W5 tb 23 #[.int .i64 y.value.kind,.string y.value.text,.int .i64 y.value.n,.int .i64 y.other.kind,.string y.other.text,.int .i64 y.other.n] by rw [hW5,htb];exact (Blk.new wr 23 #[.int .i64 y.value.kind,.string y.value.text,.int .i64 y.value.n,.int .i64 y.other.kind,.string y.other.text,.int .i64 y.other.n]).new_ (Zob _ _).drew);have HR5:=hid (show LrD X st.1 (some ⟨g,off,none⟩) c st.2 Ad cd W5 by rw [hW5];exact HR.out.new_ (((Zob _ _).alloc (Zoc _) _).drew));have HNE:=hid (show ∀a,Ad=some a→a.block≠tb from fun a h e=>by have:=Z3a HR.out.o2 a.block (by rw [h];rfl);omega);(try rw [← hW5]);(try rw [← htb]);clear hW5 htb q6 q7 q8 q9 q10 q11 HB5 HR;go_wp2_with fail
       go_loopw [9,12,15] (fun vo vd s wr=>∃(k:Nat) (A:Option Addr) (c:Nat) (Ad:Option Addr) (cd:Nat),s = .int .i64 (k:Int)∧k≤2∧vo = .slice A (Z33 of lv all st y k).1.length c∧vd = .slice Ad (Z33 of lv all st y k).2.length cd∧LrD X (Z33 of lv all st y k).1 A c (Z33 of lv all st y k).2 Ad cd wr∧Blk wr tb 23 #[.int .i64 y.value.kind,.string y.value.text,.int .i64 y.value.n,.int .i64 y.other.kind,.string y.other.text,.int .i64 y.other.n]∧(∀a,Ad=some a→a.block≠tb)) (fun vo vd s wr=>2 - (intOf s).toNat)
       case atStart=>exact ⟨0,some ⟨g,off,none⟩,c,Ad,cd,rfl,by omega,rfl,rfl,HR5.out,HT5.out,HNE.out⟩
       case round=>
        clear HR5 HT5 HNE;obtain ⟨k,A,c,Ad,cd,rfl,hk2,rfl,rfl,hrd,htb,hne⟩:=hrel;have HR:=hid hrd;have HT:=hid htb;have HNE:=hid hne;have HFK:=hid (Z3w (of:=of) (lv:=lv) (p:=y) HFR.out k);have hkb:=(Z3w (of:=of) (lv:=lv) (p:=y) HFR.out k).len;have hgl:=Z7t (of:=of) (lv:=lv) (all:=all) (st:=st) (p:=y) k;obtain ⟨sk,hsk⟩ : ∃sk,sk=Z33 of lv all st y k:=⟨_,rfl⟩;rw [← hsk] at HR hkb hgl ⊢;have HSK:=hid hsk;have HGL:=hid hgl;clear hrd htb hne hsk hgl;by_cases hlt3:k<2
        · skip
          obtain ⟨s,hs,hix⟩ : ∃s,(twoS y)[k]? = some s∧wr.cell? ⟨tb,k*3,none⟩=some (.int .i64 s.kind)∧wr.cell? ⟨tb,k*3+1,none⟩=some (.string s.text)∧wr.cell? ⟨tb,k*3+2,none⟩=some (.int .i64 s.n):=by
           rcases (show k=0∨k=1 by omega) with rfl | rfl
           · exact ⟨y.value,rfl,(HT.out.cell 0).trans rfl,(HT.out.cell 1).trans rfl,(HT.out.cell 2).trans rfl⟩
           · exact ⟨y.other,rfl,(HT.out.cell 3).trans rfl,(HT.out.cell 4).trans rfl,(HT.out.cell 5).trans rfl⟩
          obtain ⟨q0,q1,q2⟩:=hix;have HSN:=hid (show Z33 of lv all st y (k+1)=stepS of lv all sk s by rw [HSK.out];exact Z4v hs);obtain ⟨W5,hW5,hth,hrg5,hb5,hz5⟩:=Z6r (w:=wr) (t:=23) [.int .i64 0,.string ⟨#[]⟩,.int .i64 0] [.int .i64 s.kind,.string s.text,.int .i64 s.n] rfl;have HW5:=hid hW5;have HTH:=hid hth;have HKS:=hid (show Blk W5 wr.heap.size 23 #[.int .i64 s.kind,.string s.text,.int .i64 s.n] from Z2t (zs:=[.int .i64 0,.string ⟨#[]⟩,.int .i64 0]) (vs:=[.int .i64 s.kind,.string s.text,.int .i64 s.n]) rfl hW5 hrg5);have HR5:=hid (HR.out.new_ hb5);have HT5:=hid (HT.out.new_ hb5);have HNS:=hid (show ∀a,Ad=some a→a.block≠wr.heap.size from fun a h e=>by have:=Z3a HR.out.o2 a.block (by rw [h];rfl);omega);(have j1:(0:Int)≤(k:Int):=by omega);(have j2:(k:Int)<2:=by omega);have v1:IntKind.i64.wrap ((k:Int)+1)=(k:Int)+1:=Zoq _ (by omega);have k0:=(HKS.out.cell 0).trans rfl;have k1:=(HKS.out.cell 1).trans rfl;have k2:=(HKS.out.cell 2).trans rfl;have kz:=HKS.out.lt;clear hW5 hth hrg5 hb5 hz5 hs;by_cases hsk1:s.kind=1
          case neg=>
           (have e1:(s.kind == 1)=false:=by simp [hsk1]);(have e2:decide (s.kind=1)=false:=by simp [hsk1]);(have e3:(s.kind != 1)=true:=by simp [hsk1]);have HSO:=hid (HSN.out.trans (show stepS of lv all sk s=sk by rw [stepS,if_neg (fun h=>hsk1 h.1)]));clear hsk1;(go_wp2_with ((with_reducible refine wpList_store_mid rfl 23 _ _ rfl wr.heap.size 0 #[.int .i64 s.kind,.string s.text,.int .i64 s.n] rfl rfl HTH.out (by kernel_rfl) (by kernel_rfl) ?_);rw [← HW5.out]));go_roundw
           case rel=>exact ⟨k+1,A,c,Ad,cd,by go_num,by omega,by rw [HSO.out],by rw [HSO.out],by rw [HSO.out];exact HR5.out,HT5.out,HNE.out⟩
           case measure=>simp [intOf]<;>omega
          (have e1:(s.kind == 1)=true:=by simp [hsk1]);(have e2:decide (s.kind=1)=true:=by simp [hsk1]);(have e3:(s.kind != 1)=false:=by simp [hsk1]);have HLC:=hid (HOF.out s W5 HR5.out.bel);have HS1:=hid hsk1;clear hsk1;(go_wp2_with ((with_reducible refine wpList_store_mid rfl 23 _ _ rfl wr.heap.size 0 #[.int .i64 s.kind,.string s.text,.int .i64 s.n] rfl rfl HTH.out (by kernel_rfl) (by kernel_rfl) ?_);rw [← HW5.out]));refine HLC.out.mono ?_;rintro e w6 ⟨rfl,hb6⟩;have HR6:=hid (HR5.out.new_ hb6);have HT6:=hid (HT5.out.new_ hb6);have HKS6:=hid (HKS.out.new_ hb6);have hnz:=HNN.out s;obtain ⟨n,hn⟩ : ∃n,n=of s:=⟨_,rfl⟩;rw [← hn] at hnz ⊢;have HNE1:=hid (show Z2u lv (of s)=Z2u lv n by rw [hn]);clear hb6 hn k0 k1 k2 kz HLC HTH HW5 HR5 HT5 HKS q0 q1 q2 HT HR;have k0:=(HKS6.out.cell 0).trans rfl;have k1:=(HKS6.out.cell 1).trans rfl;have k2:=(HKS6.out.cell 2).trans rfl;have kz:=HKS6.out.lt;have HHC:=hid (Znn Ad cd sk.2 s w6 (Z0c Sym.cells_length HR6.out.o2));by_cases hgood:Z2u lv n=true
          · skip
            (have h1n:1≤n∧n<lv:=by unfold Z2u at hgood;simpa using hgood);obtain ⟨g1,g2⟩:=h1n;(have d1:(n != 0)=true:=by simp;omega);(have d2:decide (n<lv)=true:=by simpa using g2);have HSO:=hid (HSN.out.trans (show stepS of lv all sk s=sk by rw [stepS,if_neg (fun h=>by have:=h.2.1;rw [HNE1.out,hgood] at this;cases this)]));clear hgood g1 g2;(go_wp2_with fail);go_roundw
            case rel=>exact ⟨k+1,A,c,Ad,cd,by go_num,by omega,by rw [HSO.out],by rw [HSO.out],by rw [HSO.out];exact HR6.out,HT6.out,HNE.out⟩
            case measure=>simp [intOf]<;>omega
          · skip
            have HBAD:=hid (show Z2u lv (of s)=false by rw [HNE1.out];simpa using hgood)
            obtain ⟨d,hd1,hd⟩ : ∃d:Bool,(n != 0)=d∧(d=true→decide (n<lv)=false):=⟨_,rfl,fun h=>by
             cases h2:decide (n<lv) with
             | false=>rfl
             | true=>exact absurd (by unfold Z2u;rw [h2];have:n≠0:=by simpa using h
                                      simp;omega) hgood⟩
            clear hgood HNE1 hnz;cases d
            all_goals
             (try have hd2:=hd rfl)
             clear hd;(go_wp2_with fail);refine HHC.out.mono ?_;rintro e w7 ⟨rfl,hb7⟩;have HR7:=hid (HR6.out.new_ hb7);have HT7:=hid (HT6.out.new_ hb7);have HKS7:=hid (HKS6.out.new_ hb7);rw [Zkd];obtain ⟨hh,hhe⟩ : ∃hh,hh=decide (s∈sk.2):=⟨_,rfl⟩;rw [← hhe];have HIN:=hid hhe;clear hb7 hhe k0 k1 k2 kz HHC HR6 HT6 HKS6;have k0:=(HKS7.out.cell 0).trans rfl;have k1:=(HKS7.out.cell 1).trans rfl;have k2:=(HKS7.out.cell 2).trans rfl;have kz:=HKS7.out.lt;cases hh
             case true=>
              have HSO:=hid (HSN.out.trans (show stepS of lv all sk s=sk by rw [stepS,if_neg (fun h=>h.2.2 (Zpt HIN.out.symm))]));(go_wp2_with fail);go_roundw
              case rel=>exact ⟨k+1,A,c,Ad,cd,by go_num,by omega,by rw [HSO.out],by rw [HSO.out],by rw [HSO.out];exact HR7.out,HT7.out,HNE.out⟩
              case measure=>simp [intOf]<;>omega
             have HSO:=hid (HSN.out.trans (show stepS of lv all sk s=(Z63 s lv sk.1 all,sk.2 ++ [s]) by rw [stepS,if_pos ⟨HS1.out,HBAD.out,Zpw HIN.out.symm⟩]));clear HIN HBAD;(have hdl:sk.2.length≤200:=by have:=HGL.out;have:=HRG.out;omega);obtain ⟨W8,hW8⟩ : ∃W,W=w7.alloc (.cells #[.int .i64 s.kind,.string s.text,.int .i64 s.n] 23):=⟨_,rfl⟩;have HW8:=hid hW8;(have hb8:Below w7.heap.size w7 W8:=by rw [hW8];exact (Zob _ _).alloc (Zoc _) _);have HR8:=hid (HR7.out.new_ hb8);have HT8:=hid (HT7.out.new_ hb8);have HKS8:=hid (HKS7.out.new_ hb8);have HN8:=hid (show 0<1→∃ad,(some (⟨w7.heap.size,0,none⟩:Addr))=some ad∧∀j u,([s].flatMap Sym.cells)[j]? = some u→W8.cell? (ad.add j)=some u from fun _=>⟨_,rfl,by rw [hW8];exact Zou (heap_alloc_new _ _)⟩);clear hW8 hb8;(go_wp2_with (at_builtin;rw [← HW8.out];refine Z08 W8 rfl (.tmp 93) (.tmp 95) 36 rfl 23 i0 _ 3 32 Tryz.underlying36 hi0 hz0 hz1 hz2 rfl (by omega) (.slice Ad sk.2.length cd) sk.2.length (sk.2.flatMap Sym.cells) rfl HR8.out.o2 (some ⟨w7.heap.size,0,none⟩) 1 1 ([s].flatMap Sym.cells) rfl rfl HN8.out (Zl6 _) (by unfold maxLen;omega) (by omega) ?_;intro v3 Y hown1 hg1 hnil1 hat1;obtain ⟨A9,c9,rfl,hr9,hb9,hk9⟩:=HR8.out.more2 hown1 hg1 hat1;obtain ⟨dn,hdn⟩ : ∃dn,dn=sk.2 ++ [s]:=⟨_,rfl⟩;rw [← hdn] at hr9 ⊢;have HDN:=hid hdn;have HR9:=hid hr9;have HT9:=hid (hk9 _ _ _ HT8.out HNE.out);have HK9:=hid (hk9 _ _ _ HKS8.out HNS.out);have HNE9:=hid (show ∀a,A9=some a→a.block≠tb from fun a h e=>(hb9 a h).elim (fun ⟨b,h1,h2⟩=>HNE.out b h1 (h2.trans e)) (fun h1=>by have:=HT8.out.lt;omega));clear hown1 hg1 hnil1 hat1 hr9 hb9 hk9 hdn));obtain ⟨bs,hbs⟩ : ∃b,b=wr.heap.size:=⟨_,rfl⟩;rw [← hbs] at HK9 ⊢;clear hbs HR8 HT8 HKS8 HN8 HR7 HT7 HKS7 HNS k0 k1 k2 kz
             go_loopw [9,18] (fun vo vj wr=>∃(j:Nat) (o:List Z05) (A:Option Addr) (c:Nat),vj = .int .i64 (j:Int)∧j≤all.length∧vo = .slice A o.length c∧o=Z63 s lv sk.1 (all.take j)∧LrD X o A c dn A9 c9 wr∧Blk wr tb 23 #[.int .i64 y.value.kind,.string y.value.text,.int .i64 y.value.n,.int .i64 y.other.kind,.string y.other.text,.int .i64 y.other.n]∧Blk wr bs 23 #[.int .i64 s.kind,.string s.text,.int .i64 s.n]) (fun vo vj wr=>all.length - (intOf vj).toNat)
             case atStart=>exact ⟨0,sk.1,A,c,rfl,Nat.zero_le _,rfl,rfl,HR9.out,HT9.out,HK9.out⟩
             case round=>
              clear HR9 HT9 HK9;obtain ⟨j,o,A,c,rfl,hj,rfl,ho,hrd,htb,hkb2⟩:=hrel;have HR:=hid hrd;have HT:=hid htb;have HK:=hid hkb2;have HO:=hid ho
              have hol:o.length≤l.length+all.length:=by
               rw [ho];have h:=HFK.out;rw [← HSK.out] at h;exact (h.more (fun p hp=>.inr (List.mem_of_mem_take hp))).len
              clear hrd htb hkb2 ho;have k0:=(HK.out.cell 0).trans rfl;have k1:=(HK.out.cell 1).trans rfl;have k2:=(HK.out.cell 2).trans rfl;have kz:=HK.out.lt;by_cases hltj:j<all.length
              · skip
                obtain ⟨z,hz⟩ : ∃z,z=all[j]:=⟨_,rfl⟩;obtain ⟨gz,oz,hAA,hgl,hrg⟩:=(HA.out.new_ HR.out.bel).range hltj;rw [← hz] at hrg;have HTK:=hid (show all.take (j+1)=all.take j ++ [z] by rw [Zp2,Zok hltj,hz];rfl);subst hAA;have HRZ:=hid (show wr.rangeAt gz (oz+j*16) [.int .i64 z.id.kind,.string z.id.text,.int .i64 z.id.n,.int .i64 z.attr.kind,.string z.attr.text,.int .i64 z.attr.n,.int .i64 z.value.kind,.string z.value.text,.int .i64 z.value.n,.int .i64 z.other.kind,.string z.other.text,.int .i64 z.other.n,.int .i64 z.kind,.bool z.o,.int .i64 z.level,.int .i64 z.by_] from hrg);have q0:wr.cell? ⟨gz,oz+j*16,none⟩=some (.int .i64 z.id.kind):=hrg 0 _ rfl;have q1:wr.cell? ⟨gz,oz+j*16+1,none⟩=some (.string z.id.text):=hrg 1 _ rfl;have q2:wr.cell? ⟨gz,oz+j*16+2,none⟩=some (.int .i64 z.id.n):=hrg 2 _ rfl;have q14:wr.cell? ⟨gz,oz+j*16+14,none⟩=some (.int .i64 z.level):=hrg 14 _ rfl;(have j1:(0:Int)≤(j:Int):=by omega);(have j2:(j:Int)<(all.length:Int):=by omega);have v1:IntKind.i64.wrap ((j:Int)+1)=(j:Int)+1:=Zoq _ (by omega);have HSNC:=hid (show Z63 s lv sk.1 (all.take (j+1))=if z.id=s∧z.level≤lv then addP o z else o by rw [HTK.out,Z9l,← HO.out]);have heq:=Z50 z.id s;clear hrg hz HTK;by_cases he:z.id=s
                case neg=>
                 (have t1:decide (z.id=s)=false:=by simpa using he);rw [t1] at heq;have HEN:=hid he;clear he t1;have HOX:=hid (HSNC.out.trans (if_neg (fun h=>HEN.out h.1)));clear HSNC HO;(go_wp2_with fail);go_quiet (fail);have HBN:=hid (Below.drewN' (Zob wr.heap.size wr) nq);clear q0 q1 q2 q14 k0 k1 k2 kz;(go_wp2_with fail);go_roundw
                 case rel=>exact ⟨j+1,o,A,c,by go_num,by omega,rfl,HOX.out.symm,HR.out.new_ HBN.out,HT.out.new_ HBN.out,HK.out.new_ HBN.out⟩
                 case measure=>simp [intOf]<;>omega
                (have t1:decide (z.id=s)=true:=by simpa using he);rw [t1] at heq;have HE:=hid he;clear he t1;by_cases hle:z.level≤lv
                case neg=>
                 (have d3:decide (z.level≤lv)=false:=by simpa using hle);have HLE:=hid hle;clear hle;have HOX:=hid (HSNC.out.trans (if_neg (fun h=>HLE.out h.2)));clear HSNC HO;(go_wp2_with fail);go_quiet (fail);have HBN:=hid (Below.drewN' (Zob wr.heap.size wr) nq);clear q0 q1 q2 q14 k0 k1 k2 kz;(go_wp2_with fail);go_roundw
                 case rel=>exact ⟨j+1,o,A,c,by go_num,by omega,rfl,HOX.out.symm,HR.out.new_ HBN.out,HT.out.new_ HBN.out,HK.out.new_ HBN.out⟩
                 case measure=>simp [intOf]<;>omega
                (have d3:decide (z.level≤lv)=true:=by simpa using hle);have HYES:=hid (HSNC.out.trans (if_pos ⟨HE.out,hle⟩));clear hle HSNC HO;(go_wp2_with fail);go_quiet (fail);have HBN:=hid (Below.drewN' (Zob wr.heap.size wr) nq);have HRN:=hid (HR.out.new_ HBN.out);have HTN:=hid (HT.out.new_ HBN.out);have HKN:=hid (HK.out.new_ HBN.out);have HZN:=hid (show (wr.drewN nq).rangeAt gz (oz+j*16) [.int .i64 z.id.kind,.string z.id.text,.int .i64 z.id.n,.int .i64 z.attr.kind,.string z.attr.text,.int .i64 z.attr.n,.int .i64 z.value.kind,.string z.value.text,.int .i64 z.value.n,.int .i64 z.other.kind,.string z.other.text,.int .i64 z.other.n,.int .i64 z.kind,.bool z.o,.int .i64 z.level,.int .i64 z.by_] from HRZ.out);have HRC:=hid (Z9p o A c dn A9 c9 z _ HRN.out (by omega));clear q0 q1 q2 q14 k0 k1 k2 kz HR HT HK HBN;obtain ⟨on,hon⟩ : ∃on,on=addP o z:=⟨_,rfl⟩;rw [← hon] at HRC;have HON:=hid hon;clear hon;(go_wp2_with (with_reducible refine wpList_load_mid rfl 68 _ rfl gz (oz+j*16) rfl _ _ HZN.out Tryz.underlying68 rfl (by kernel_rfl) ?_));refine HRC.out.mono ?_;rintro e wz ⟨A7,c7,rfl,hr7,hs7,hk7⟩;have HR7:=hid hr7;have HT7:=hid (hk7 _ _ _ HTN.out (by decide));have HK7:=hid (hk7 _ _ _ HKN.out (by decide));clear hr7 hs7 hk7;(go_wp2_with fail);go_roundw
                case rel=>exact ⟨j+1,on,A7,c7,by go_num,by omega,rfl,by rw [HYES.out,HON.out],HR7.out,HT7.out,HK7.out⟩
                case measure=>simp [intOf]<;>omega
              · skip
                (obtain rfl:j=all.length:=by omega);(have jz : ¬(all.length:Int)<(all.length:Int):=by omega);have HSP:=hid (show Z33 of lv all st y (k+1)=(o,dn) by rw [HSO.out,HDN.out,HO.out,Zoy]);clear hltj hj k0 k1 k2 kz HO;(go_wp2_with fail);go_roundw
                case rel=>exact ⟨k+1,A,c,A9,c9,by go_num,by omega,by rw [HSP.out],by rw [HSP.out],by rw [HSP.out];exact HR.out,HT.out,HNE9.out⟩
                case measure=>simp [intOf]<;>omega
        · skip
          (obtain rfl:k=2:=by omega);(have jz : ¬((2:Nat):Int)<(2:Int):=by omega);have HRN:=hid (show RunR of lv l all (i+1) sk by rw [HSK.out,Zcd];exact .step HRUN.out HYE.out);have v1:IntKind.i64.wrap ((i:Int)+1)=(i:Int)+1:=Zoq _ (by omega)
          have HLE:=hid (show i+1≤sk.1.length by
           have:=(Zoz.1 (Z73 (of:=of) (lv:=lv) (all:=all) (p:=y) HYE.out 2)).1
           rw [HSK.out];omega)
          have hlt:=hid hlt;clear hlt3 hk2;(go_wp2_with fail);go_roundw
          case rel=>exact ⟨i+1,sk,A,c,Ad,cd,by go_num,rfl,rfl,HRN.out,HLE.out,HR.out⟩
          case measure=>simp [intOf];have:=hlt.out;omega
     · skip
       have HEND:=hid (show EndR of lv l all st.1 from ⟨i,st.2,HRUN.out,by omega⟩);(have jz : ¬(i:Int)<(st.1.length:Int):=by omega);clear hlt;(go_wp2_with fail);go_ret;exact ⟨st.1,A,c,HEND.out,hbound,rfl,Z0c Z05.cells_length HR.out.o1,HR.out.a1,HR.out.bel⟩
theorem Z6i {α:Type} {g:Operand} {ps:Array Tmp} {assign body:Code} {Q:Exit→Act→World→Prop} {a:Act} {w:World} {gf:Nat} {lb:Array Value} {encs:α→Array Value} {Kp:World→World→Prop} (hg:a.eval g = .func (.func gf) #[] lb) (hq:Seq gf lb encs [] w (fun X Y=>Y=X) Kp) (hps : ∀x,(encs x).size=ps.size)
 (hdone : ∀(D:Nat) (W:World),w.heap.size≤D→Below w.heap.size w W→W.heap[D]? = some (.deferred (some []))→Q .normal { a with defers:={ target:=.collected D,args:=#[] } :: a.defers } W) :
 (Code.rangeFunc g ps assign body).wpIn Fence.wide 0 Tryz.prog Q a w:=by
 refine Z9s (w:=w) hg hq.enter hq.iter hps hq.trans hq.keep (fun W W1 h=>Z25 (hq.mods W W1 h)) (fun p W=>Below w.heap.size w W) (fun _ _ _=>False) ?_ (fun _ _ _ _ h=>h.elim) ?_ ?_ ?_ ?_
 · intro p X Y h hp;exact Below.priv' h hp (Zoc _) h.size
 · intro W W1 hW hs;subst hs;exact hW
 · intro l pre x post W hx;simp at hx
 · exact fun D W h1 h2 h3=>hdone D W h1 h2 h3
 · intro D c pre post W _ _ h;exact h.elim
theorem Zi4 {gf:Nat} {lb:Array Value} {Kp:World→World→Prop} (w:World) (hq:Seq gf lb Zb9 [] w (fun X Y=>Y=X) Kp) :
 Calls Tryz.prog 46 #[.func (.func gf) #[] lb] w fun e w'=>e = .returned (.string (Z6o 1))∧Below w.heap.size w w':=by
 have HQ:=hid hq;clear hq;refine (callsIn_wide (n:=0)).1 ?_;refine callsIn_of_wp_marks Tryz.func46 rfl trivial ?_;simp only [Tryz.ntmps46,Zpj,Zow,Zpf,Nat.reduceAdd,Nat.reduceSub,Zp8,Zp9,Zpi,Zpb,Zox,Zpc];(gi_wp2_with fail);refine ⟨trivial,rfl,?_⟩;refine (callsIn_wide.2 (Zie none 0 [] _ (Z0l.nil _ _ _) (by simp))).mono ?_;rintro e w1 ⟨bp,rfl,hbp,sn,A,c,hS,hA,hB⟩;have HS:=hid hS;have HB:=hid hB;clear hS hA hB;(gi_wp2_with fail);obtain ⟨w3,hw3⟩ : ∃W,W=w1.alloc (.cells #[.pointer (some ⟨bp,0,none⟩)] 156):=⟨_,rfl⟩;obtain ⟨bb,hbb⟩ : ∃b,b=w1.heap.size:=⟨_,rfl⟩;have KB:=hid (show Blk w3 bb 156 #[.pointer (some ⟨bp,0,none⟩)] by rw [hw3,hbb];exact Blk.new _ _ _);(have hb3:Below w1.heap.size w1 w3:=by rw [hw3];exact (Zob _ _).alloc (Zoc _) _);have HB3:=hid (HB.out.trans (hb3.mono HB.out.size));have HS:=hid (HS.out.new_ hb3);rw [← hw3,← hbb];clear hw3 hbb hb3;refine Z6i (by rfl) (HQ.out.new_ HB3.out) (fun x=>by rfl) (fun Dd W hDd hbw hK=>?_);have HB1:=hid (HB3.out.trans (hbw.mono HB3.out.size));have S1:=hid (HS.out.new_ hbw);have K1:=hid (KB.out.new_ hbw);have HK:=hid hK;have HDd:=hid (Zop HB3.out.size hDd);clear hbw hK hDd;gi_wp2_with fail
 gi_loopw [5] (fun s wr=>s = .int .i64 1∧Below W.heap.size W wr) (fun s wr=>0)
 case atStart=>exact ⟨rfl,Zob _ _⟩
 case round=>
  obtain ⟨rfl,hbw⟩:=hrel;have HBW:=hid hbw;clear hbw;obtain ⟨dg,hdg⟩ : ∃d,d=decB 1:=⟨_,rfl⟩;have HD:=hid (show ∀W,Calls Tryz.prog 81 #[.int .i64 1] W fun e w'=>e = .returned (.string dg)∧Below W.heap.size W w' from fun W=>by rw [hdg];exact Zfi 1 (by omega) W);(have hds : ¬9223372036854775807<6+dg.size:=by have:=Z6p (n:=1) (by omega);rw [← hdg] at this;omega);have HDG:=hid hdg;clear hdg;(gi_wp2_with fail);refine ⟨trivial,rfl,?_⟩;refine (callsIn_wide.2 (HD.out _)).mono ?_;rintro e w5 ⟨rfl,hb5⟩;have HBW:=hid (HBW.out.trans (hb5.mono HBW.out.size));have S5:=hid (S1.out.new_ HBW.out);have b0:=(K1.out.new_ HBW.out).c1;have bz:=(K1.out.new_ HBW.out).lt;clear hb5;(gi_wp2_with fail);refine ⟨trivial,rfl,?_⟩;refine (callsIn_wide.2 (Zdj bp c sn A [] ((⟨#[99,104,117,110,107,45]⟩:ByteArray)++dg) w5 S5.out Srt.nil (by simp))).mono ?_;rintro e w6 ⟨rfl,hb6⟩;have HBW:=hid (HBW.out.trans (hb6.mono HBW.out.size));have HCH:=hid (show Z6o 1=⟨#[99,104,117,110,107,45]⟩++dg by rw [HDG.out];rfl);rw [show has Z0w [] ((⟨#[99,104,117,110,107,45]⟩:ByteArray)++dg)=false from rfl];clear hb6 b0 bz;have HKW:=hid ((HBW.out.block Dd (Zon.1 HK.out).1).trans HK.out);(gi_wp2_with fail);refine ⟨by simp,.inl ⟨_,_,rfl,run_takeDeferred HKW.out,?_⟩⟩;have hpv:Priv w.heap.size w6 (w6.putObj Dd (.deferred none)):=(Priv.refl _ _).putObj HDd.out HKW.out rfl _;exact ⟨_,results_tmp rfl _ _ _,by rw [HCH.out]<;>rfl,Below.priv' (HB1.out.trans (HBW.out.mono HB1.out.size)) hpv (Zoc _) (Zop HB1.out.size HBW.out.size)⟩
def Z34 (D:Nat→Prop) (w:World) (nb:Nat) (ns:List Sym) (w':World):Prop:=∃D':Nat→Prop,Nm D' w' nb ns∧(∀k,D k→D' k)∧(∀k,D' k→D k∨w.heap.size≤k)∧Fr D w w'
theorem Z34.same {D:Nat→Prop} {w w':World} {nb:Nat} {ns:List Sym} (h:Nm D w nb ns) (hb:Below w.heap.size w w'):Z34 D w nb ns w':=⟨D,h.new_ hb,fun _ h=>h,fun _ h=>.inl h,Fr.of_new hb⟩
theorem NM.more {D:Nat→Prop} {w X Y V Z:World} {nb:Nat} {ns:List Sym} {bm bp:Nat} {sn sn':Bool} {A A':Option Addr} {cc cc':Nat} {mm:List PgS} {L L':Option Addr} {cl cl':Nat} {s:Sym} (h:NM D w nb ns bm bp sn A cc mm L cl) (hs:s ∉ ns)
 (hX:Below w.heap.size w X) (hY:Fr (fun j=>∃a,L=some a∧a.block=j) X Y) (hL:AIn L' (Plus (fun j=>∃a,L=some a∧a.block=j) X Y)) (hO:Y.ownsRow 0 23 3 (.slice L' (ns.length+1) cl') (ns.length+1) (ns.flatMap Sym.cells ++ [.int .i64 s.kind,.string s.text,.int .i64 s.n]))
 (hV:V=Y.setCell ⟨nb,1,none⟩ (.slice L' (ns.length+1) cl')) (hS:Z2p Z bp sn' A' cc' (put Z10 mm ⟨s,(ns.length:Int)+1⟩)) (hZ:Fr (Z0y bp sn A) V Z) (hM:Z1q V sn A sn' A'):Z34 D w nb (ns ++ [s]) Z:=by
 have hnb:=h.blk.new_ hX;have hmb:=h.map.new_ hX;have hst:=h.set.new_ hX;have hrw:=Z02 h.row hX;have nL : ∀{t:TypeId} {cs:Array Value} {g:Nat},Blk X g t cs→23≠t→¬(∃a,L=some a∧a.block=g):=fun hg hne ⟨a,ha,e⟩=>Z01 hrw hg hne (by subst ha;subst e;rfl);have n1:=nL hnb (by decide);have n2:=nL hmb (by decide);have n3:=nL hst.blk (by decide);have n4 : ∀a,A=some a→¬(∃b,L=some b∧b.block=a.block):=fun a ha ⟨b,hb,e⟩=>Z26 hrw hst.row (by decide) (k:=a.block) (by subst hb;rw [← e];rfl) (by subst ha;rfl);have dnm:=hnb.ne_ hmb (by decide);have dnp:=hnb.ne_ hst.blk (by decide);have dmp:=hmb.ne_ hst.blk (by decide);have dna : ∀a,A=some a→a.block≠nb:=fun a ha e=>Z01 hst.row hnb (by decide) (by subst ha;subst e;rfl);have dma : ∀a,A=some a→a.block≠bm:=fun a ha e=>Z01 hst.row hmb (by decide) (by subst ha;subst e;rfl);have la:=hst.row_lt;have mz : ∀k,k<X.heap.size→k≠bp→(∀a,A=some a→a.block≠k)→¬Z0y bp sn A k:=fun k _ h1 h2 hm=>hm.elim h1 (fun ⟨_,a,ha,e⟩=>h2 a ha e);have hsz:=hX.size;have hyz:=hY.size;(have hb1:Blk V nb 148 #[.pointer (some ⟨bm,0,none⟩),.slice L' (ns.length+1) cl']:=by rw [hV];exact (hnb.fr hY n1).set_ 1 _);(have hm1:Blk V bm 226 #[.pointer (some ⟨bp,0,none⟩)]:=by rw [hV];exact (hmb.fr hY n2).far (p:=⟨nb,1,none⟩) (Ne.symm dnm) _);(have ho1:V.ownsRow 0 23 3 (.slice L' (ns.length+1) cl') (ns.length+1) (ns.flatMap Sym.cells ++ [.int .i64 s.kind,.string s.text,.int .i64 s.n]):=by rw [hV];exact ownsRow_setCell_other (a:=⟨nb,1,none⟩) hO (Z01 hO (hnb.fr hY n1) (by decide)) _);(have hvs:V.heap.size=Y.heap.size:=by rw [hV];simp);have hzz:=hZ.size
 have ha':AIn A' (fun k=>D k∨(w.heap.size≤k∧k<Z.heap.size)):=fun a ha=>by
  rcases hM with ⟨_,e⟩ | ⟨_,g,hg,e⟩
  · exact .inl (h.da a (e ▸ ha))
  · have hlt:=hS.row_lt a ha
    rw [e] at ha;injection ha with ha;subst ha;exact .inr ⟨by dsimp only;omega,hlt⟩
 have hl' : ∀a,L'=some a→¬Z0y bp sn A a.block:=fun a ha hm=>by
  rcases hL a ha with hE | ⟨h1,_⟩
  · rcases hm with e | ⟨_,b,hb,e⟩
    · exact n3 (e ▸ hE)
    · exact n4 b hb (e ▸ hE)
  · rcases hm with e | ⟨_,b,hb,e⟩
    · have:=hst.lt;omega
    · have:=la b hb;omega
 refine ⟨fun k=>D k∨(w.heap.size≤k∧k<Z.heap.size),⟨bm,bp,sn',A',cc',_,L',cl',?_,hm1.fr hZ (mz _ hmb.lt dmp dma),hS,h.ok.put hs,?_,.inl h.dn,.inl h.dm,.inl h.dp,ha',fun a ha=>?_,fun k hk=>?_⟩,fun k hk=>.inl hk,fun k hk=>hk.imp id (·.1),?_⟩
 · have:=hb1.fr hZ (mz _ hnb.lt dnp dna)
   rwa [show (ns ++ [s]).length=ns.length+1 by simp]
 · have e1:(ns ++ [s]).flatMap Sym.cells=ns.flatMap Sym.cells ++ [.int .i64 s.kind,.string s.text,.int .i64 s.n]:=by rw [Zos];rfl
   rw [show (ns ++ [s]).length=ns.length+1 by simp,e1];refine ⟨ho1.1,ho1.2.imp id fun ⟨g,cap,cur,hv,h0,hg,hr⟩=>⟨g,cap,cur,hv,h0,?_,hr⟩⟩;injection hv with hv;exact Blk.fr (t:=23) hg hZ (hl' ⟨g,0,none⟩ hv)
 · rcases hL a ha with ⟨b,hb,e⟩ | ⟨h1,h2⟩
   · exact .inl (e ▸ h.dl b hb)
   · exact .inr ⟨by omega,by omega⟩
 · rcases hk with hk | hk
   · have:=h.lt k hk;omega
   · exact hk.2
 · have f1:Fr D w Y:=(Fr.of_new hX).into hY (fun k ⟨a,ha,e⟩=>.inl (e ▸ h.dl a ha))
   have f2:Fr D w V:=by rw [hV];exact f1.setCell (p:=⟨nb,1,none⟩) (.inl h.dn) _
   exact f2.into hZ (fun k hm=>by
    rcases hm with e | ⟨_,a,ha,e⟩
    · exact .inl (e ▸ h.dp)
    · exact .inl (e ▸ h.da a ha))
theorem Zd7 {D:Nat→Prop} {nb:Nat} {ns:List Sym} (s:Sym) (w:World) (h:Nm D w nb ns) (hl:ns.length≤1000):Calls Tryz.prog 102 #[.pointer (some ⟨nb,0,none⟩),.agg #[.int .i64 s.kind,.string s.text,.int .i64 s.n]] w fun e w'=>e = .returned (.tuple #[])∧Z34 D w nb (putN ns s) w':=by
 have HP:=hid (fun W (hW:Below w.heap.size w W)=>Z70 s W (h.new_ hW) (by omega));have HA:=hid ((Zob w.heap.size w).alloc (Zoc _) (.cells #[.int .i64 s.kind,.string s.text,.int .i64 s.n] 23));have HN:=hid h;by_cases hp:plV ns s=0
 · have HR:=hid (show putN ns s=ns ++ [s] by rw [putN,if_pos hp])
   have HNI:=hid (Z6z.1 hp);rw [hp] at HP;clear hp h;obtain ⟨j0,hj0,hy0,hy1,hy2⟩:=infp Za5;obtain ⟨bm,bp,sn,A,cc,mm,L,cl,hnm⟩:=HN.out;have HM:=hid hnm;clear HN hnm;go_enter Tryz.func102,Tryz.ntmps102;(go_wp2_with fail);refine (HP.out _ HA.out).mono ?_;rintro e w2 ⟨rfl,hb⟩;have HB:=hid (HA.out.trans (hb.mono (by simp)));have hk:Blk w2 w.heap.size 23 #[.int .i64 s.kind,.string s.text,.int .i64 s.n]:=(Blk.new _ _ _).new_ hb;have HK:=hid hk;obtain ⟨k0,k1,k2⟩:=hk.c3;have kz:=hk.lt;have hn2:=HM.out.blk.new_ HB.out;have m0:=(hn2.cell 0).trans rfl;have m1:=(hn2.cell 1).trans rfl;have mf:=hn2.frozen 1;have mz:=hn2.lt;have hnl:0≤ns.length:=Nat.zero_le _;clear hb hk hn2;(go_upto_region 2 with fail);refine Z04 (fun w9=>Below w2.heap.size w2 w9) [(0,0),(1,0),(2,0),(3,0),(4,1),(5,1),(6,2),(7,2),(8,0),(9,0),(10,2)] (by kernel_rfl) (by kernel_rfl) (fun KK hKK=>?_);simp only [Z06,Zol,Zoe,Zoj,Zoh,Zoi,Zoo];(repeat ((first | (refine Z0b ?_ (Or.inl ⟨by rfl,fun w9=>?_⟩) ?_;rotate_left 1;go_simp;with_reducible rfl) | (refine Z0a ?_ (((Zob _ _).drew)) (Or.inl ⟨by rfl,fun w9 hw9=>?_⟩) ?_;rotate_left 1;obtain ⟨hc9,hf9⟩:=Z0r hw9;go_simp;with_reducible rfl) | refine Z0b undef (Or.inr ⟨by rfl,rfl⟩) ?_ | refine Z0a undef (((Zob _ _).drew)) (Or.inr ⟨by rfl,rfl⟩) ?_);go_frame));refine Z24 (fun K9 hK9=>?_);go_simp;obtain ⟨Y9,hY9⟩ : ∃Y9,Y9=(w2.alloc (.cells #[.int .i64 s.kind,.string s.text,.int .i64 s.n] 23)).drew:=⟨_,rfl⟩;(have hb9:Below w2.heap.size w2 Y9:=by rw [hY9];exact ((Zob _ _).alloc (Zoc _) _).drew);have HB23:=hid hb9;have HN9:=hid (show ∀(j:Nat) (u:Value),([.int .i64 s.kind,.string s.text,.int .i64 s.n]:List Value)[j]? = some u→Y9.cell? ((⟨w2.heap.size,0,none⟩:Addr).add j)=some u by rw [hY9];exact Zou (heap_alloc_new _ _));rw [← hY9];clear hY9 hb9;refine hK9 _ _ HB23.out ?_;clear hK9 K9;refine Z1m (by kernel_rfl) (fun K9 hK9=>?_);refine Z0g _ (by rfl) _ _ _ (by rfl) 23 j0 _ 3 32 Tryz.underlying36 hj0 hy0 hy1 hy2 rfl (by omega) (.slice L ns.length cl) ns.length (ns.flatMap Sym.cells) (by rfl) (Z02 HM.out.row (HB.out.trans (HB23.out.mono HB.out.size))) _ 1 1 [.int .i64 s.kind,.string s.text,.int .i64 s.n] (by rfl) (by rfl) (fun _=>⟨_,rfl,HN9.out⟩) (by intro u hu;simp only [Zov,Zp1,or_false] at hu;rcases hu with rfl | rfl | rfl<;>rfl) (by unfold maxLen;omega) (by omega) ?_;intro v2 w23 hown hgr hnil hat;obtain ⟨E2,x2,rfl,hF3,hA3,hO3⟩:=Z1t (E:=fun j=>∃a,L=some a∧a.block=j) (fun a ha=>⟨a,ha,rfl⟩) hown hgr hat
   have HF3:=hid hF3;have HA3:=hid hA3;have HO3:=hid hO3;have hp3:=(HM.out.blk.new_ (HB.out.trans (HB23.out.mono HB.out.size))).fr hF3 (fun ⟨a,ha,e⟩=>Z01 (Z02 HM.out.row (HB.out.trans (HB23.out.mono HB.out.size))) (HM.out.blk.new_ (HB.out.trans (HB23.out.mono HB.out.size))) (by decide) (by subst ha;subst e;rfl));have HP3:=hid hp3;have g1:=(hp3.cell 1).trans rfl;have pf:=hp3.frozen 1;have gz:=hp3.lt;clear hown hgr hnil hat hp3 hF3 hA3 hO3;refine hK9 _ _ ?_;clear hK9 K9;(repeat ((first | (refine Z0b ?_ (Or.inl ⟨by rfl,fun w9=>?_⟩) ?_;rotate_left 1;go_simp;with_reducible rfl) | (refine Z0a ?_ (HB23.out) (Or.inl ⟨by rfl,fun w9 hw9=>?_⟩) ?_;rotate_left 1;obtain ⟨hc9,hf9⟩:=Z0r hw9;go_simp;with_reducible rfl) | refine Z0b undef (Or.inr ⟨by rfl,rfl⟩) ?_ | refine Z0a undef (HB23.out) (Or.inr ⟨by rfl,rfl⟩) ?_);go_frame));refine Z1m (by kernel_rfl) (fun K9 hK9=>?_);go_simp;refine hK9 _ _ ?_;clear hK9 K9;refine Z11 ?_;simp only [Z00];refine hKK _ _ ?_;clear hKK KK;obtain ⟨V,hV⟩ : ∃V,V=w23.setCell ⟨nb,1,none⟩ (.slice E2 (ns.length+1) x2):=⟨_,rfl⟩;rw [← hV];have HV:=hid hV;have hX:=HB.out.trans (HB23.out.mono HB.out.size);(have hkV:Blk V w.heap.size 23 #[.int .i64 s.kind,.string s.text,.int .i64 s.n]:=by rw [hV];exact ((HK.out.new_ HB23.out).fr HF3.out (fun ⟨a,ha,e⟩=>by have h1:=HM.out.lt _ (HM.out.dl a ha);omega)).far (p:=⟨nb,1,none⟩) (by have h1:=HM.out.lt _ HM.out.dn;dsimp only;omega) _);(have hnV:Blk V nb 148 #[.pointer (some ⟨bm,0,none⟩),.slice E2 (ns.length+1) x2]:=by rw [hV];exact HP3.out.set_ 1 _);have hxm:=HM.out.map.new_ hX;have hxs:=HM.out.set.new_ hX;have hxr:=Z02 HM.out.row hX;have q2 : ¬(∃a,L=some a∧a.block=bm):=fun ⟨a,ha,e⟩=>Z01 hxr hxm (by decide) (by subst ha;subst e;rfl);have q3 : ¬(∃a,L=some a∧a.block=bp):=fun ⟨a,ha,e⟩=>Z01 hxr hxs.blk (by decide) (by subst ha;subst e;rfl);have q4 : ∀a,A=some a→¬(∃b,L=some b∧b.block=a.block):=fun a ha ⟨b,hb,e⟩=>Z26 hxr hxs.row (by decide) (k:=a.block) (by subst hb;rw [← e];rfl) (by subst ha;rfl);have hmV:Blk V bm 226 #[.pointer (some ⟨bp,0,none⟩)]:=by rw [hV];exact (hxm.fr HF3.out q2).far (p:=⟨nb,1,none⟩) (Ne.symm ((HM.out.blk.new_ hX).ne_ hxm (by decide))) _
   have hsV:Z2p V bp sn A cc mm:=by
    (have f9:Fr (fun j=>(∃a,L=some a∧a.block=j)∨j=nb) Y9 V:=by rw [hV];exact (HF3.out.mono (fun k _ hk=>.inl hk)).setCell (p:=⟨nb,1,none⟩) (.inl (.inr rfl)) _);exact hxs.fr f9 (fun e=>e.elim q3 (fun e=>((HM.out.blk.new_ hX).ne_ hxs.blk (by decide)) e.symm)) (fun a ha e=>e.elim (q4 a ha) (fun e=>Z01 hxs.row (HM.out.blk.new_ hX) (by decide) (by subst ha;rw [← e];rfl)))
   have HPUT:=hid (show ∀W,Below V.heap.size V W→Calls Tryz.prog 145 #[.pointer (some ⟨bm,0,none⟩),.agg #[.int .i64 s.kind,.string s.text,.int .i64 s.n],.int .i64 ((ns.length:Int)+1)] W _ from fun W hW=>Zh9 bm bp cc sn A mm s ((ns.length:Int)+1) W (hmV.new_ hW) (hsV.new_ hW) HM.out.ok.srt (by rw [HM.out.ok.len];omega) (by rw [HM.out.ok.has];exact Zod HNI.out));obtain ⟨k0,k1,k2⟩:=hkV.c3;have kz:=hkV.lt;have m0:=(hnV.cell 0).trans rfl;have m1:=(hnV.cell 1).trans rfl;have mz:=hnV.lt;clear hV hX hkV hnV hxm hxs hxr q2 q3 q4 hmV hsV g1 pf gz mf;(go_upto_region 3 with fail);refine Z04 (fun w9=>Below V.heap.size V w9) [(0,0),(1,0),(2,0),(3,1),(4,1),(5,0),(6,0),(7,0),(8,1),(9,0),(10,2)] (by kernel_rfl) (by kernel_rfl) (fun KK hKK=>?_);simp only [Z06,Zol,Zoe,Zoj,Zoh,Zoi,Zoo];(repeat ((first | (refine Z0b ?_ (Or.inl ⟨by rfl,fun w9=>?_⟩) ?_;rotate_left 1;go_simp;with_reducible rfl) | (refine Z0a ?_ (((Zob _ _).drew)) (Or.inl ⟨by rfl,fun w9 hw9=>?_⟩) ?_;rotate_left 1;obtain ⟨hc9,hf9⟩:=Z0r hw9;go_simp;with_reducible rfl) | refine Z0b undef (Or.inr ⟨by rfl,rfl⟩) ?_ | refine Z0a undef (((Zob _ _).drew)) (Or.inr ⟨by rfl,rfl⟩) ?_);go_frame));refine Z1m (by kernel_rfl) (fun K9 hK9=>?_);go_simp;refine (HPUT.out _ ((Zob V.heap.size V).drew)).mono ?_;rintro e w5 ⟨rfl,sn',A',cc',g1,g2,g3⟩;have HG:=hid (And.intro g1 (And.intro g2 g3));clear g1 g2 g3;refine hK9 _ _ ?_;clear hK9 K9;refine Z11 ?_;simp only [Z00];refine hKK _ _ ?_;clear hKK KK;(go_wp2_with fail);go_end0;rw [HR.out];obtain ⟨g1,g2,g3⟩:=HG.out;exact ⟨rfl,HM.out.more HNI.out (HB.out.trans (HB23.out.mono HB.out.size)) HF3.out HA3.out HO3.out HV.out g1 ((Fr.refl _ V).drew.trans g2) g3⟩
 · have HR:=hid (show putN ns s=ns by rw [putN,if_neg hp])
   obtain ⟨r,hr⟩ : ∃r,r=plV ns s:=⟨_,rfl⟩;rw [← hr] at HP;(have r1:((r:Int) == 0)=false:=by simp;omega);(have r2 : ¬(r:Int)=0:=by omega);(have r3 : ¬r=0:=by omega);clear hp hr h;go_enter Tryz.func102,Tryz.ntmps102;(go_wp2_with fail);refine (HP.out _ HA.out).mono ?_;rintro e w2 ⟨rfl,hb⟩;have HB:=hid (HA.out.trans (hb.mono (by simp)));clear hb;(go_wp2_with fail);go_end0;exact ⟨rfl,by rw [HR.out];exact Z34.same HN.out HB.out⟩
theorem Zeb:(Tryz.prog.info? 55).map (fun i=>(i.zero,i.size,i.bytes))=some (some (.agg #[.int .i64 0,.string ⟨#[]⟩,.int .i64 0,.int .i64 0,.string ⟨#[]⟩,.int .i64 0,.int .i64 0,.string ⟨#[]⟩,.int .i64 0,.bool false,.bool false,.int .i64 0]),12,112):=by kernel_rfl
theorem Z8f (l:List Elem) : ∀u∈l.flatMap Elem.cells,u.oneCell'=true:=by
 intro u hu;obtain ⟨b,_,hb⟩:=List.mem_flatMap.1 hu;simp only [Elem.cells,Zov,Zp1,or_false] at hb;rcases hb with rfl | rfl | rfl | rfl | rfl | rfl | rfl | rfl | rfl | rfl | rfl | rfl<;>rfl
theorem Zca {n c j:Nat} (A:Option Addr) (hj:j≤n) (Y:World):(Instr.slice 84 (.slice A n c) (some (.int .i64 (j:Int))) none none).run Tryz.prog Y = .ok (.slice (if c=j then A else A.map (·.add (j*12))) (n - j) (c - j)) Y:=by
 (have hl0:(0:Int)≤(j:Int):=by omega);(have hl1:(j:Int)≤(n:Int):=by omega);go_simp
theorem Zgc {n c j:Nat} (A:Option Addr) (hj:j≤c) (Y:World):(Instr.slice 84 (.slice A n c) none (some (.int .i64 (j:Int))) none).run Tryz.prog Y = .ok (.slice A j c) Y:=by
 (have hl0:(0:Int)≤(j:Int):=by omega);(have hl1:(j:Int)≤(c:Int):=by omega);go_simp
theorem Zil {w:World} {b e s n:Nat} {v:Value} {xs:List Value} (h:w.ownsRow b e s v n xs):w.drew.ownsRow b e s v n xs:=h
theorem Zik {w:World} {n c k:Nat} {A:Option Addr} {l:List Elem} (h:w.ownsRow 0 55 12 (.slice A n c) n (l.flatMap Elem.cells)) (hl:l.length=n) (hk:k<n):w.ownsRow 0 55 12 (.slice A k c) k ((l.take k).flatMap Elem.cells):=by
 rcases Z07 h with ⟨hv,hn,_⟩ | ⟨g,cap,hv,_⟩
 · omega
 · injection hv with hA _ hc
   subst hA;subst hc;exact Z95 Elem.cells_length (by decide) h (by omega) hl
theorem Z0l.suffixE {α:Type} {w:World} {size c:Nat} {cells:α→List Value} {A:Option Addr} {l:List α} (h:Z0l w size cells A c l) (i:Nat) (hi:i≤l.length) :
 Z0l w size cells (if c=i then A else A.map (·.add (i*size))) (c - i) (l.drop i):=by
 refine ⟨by simp;have:=h.1;omega,by have:=h.2.1;omega,fun h0=>?_⟩;rw [List.length_drop] at h0;obtain ⟨b,off,rfl,hb,hc⟩:=h.2.2 (by omega);have h1:=h.1;rw [if_neg (by omega)];refine ⟨b,off+i*size,by simp [Go.WideShapes.add_plain],hb,fun k hk j u hu=>?_⟩;rw [List.length_drop] at hk;have:=hc (i+k) (by omega) j u (by rw [← hu];simp);rw [Nat.add_mul] at this;rw [← this];congr 2;omega
def Zjp:Option Nat→Int
 | none=>-1
 | some k=>(k:Int)
theorem Zf3 {ns:List Sym} {left:List Elem} {i:Nat} {y:Elem} (hy:left[i]? = some y) (h:canN ns y=false):Z4k ns left (i+1)=Z4k ns left i:=by
 rw [Z4k,hy];simp only;rw [if_neg (by rw [h];decide)]
theorem Zcp {ns:List Sym} {left:List Elem} {i:Nat} {y:Elem} (hy:left[i]? = some y) (h:canN ns y=true) (hb:Z4k ns left i=none):Z4k ns left (i+1)=some i:=by
 rw [Z4k,hy];simp only;rw [if_pos h,hb]
def lenV:Value→Nat
 | .slice _ n _=>n
 | _=>0
structure LS (X:World) (nb:Nat) (ns:List Sym) (left out:List Elem) (AL:Option Addr) (cL:Nat) (AO:Option Addr) (cO:Nat) (D:Nat→Prop) (w:World):Prop where
 nm:Nm D w nb ns
 dn : ∀k,D k→X.heap.size≤k
 lo:w.ownsRow 0 55 12 (.slice AL left.length cL) left.length (left.flatMap Elem.cells)
 la:AIn AL (fun k=>X.heap.size≤k∧¬D k)
 oo:w.ownsRow 0 55 12 (.slice AO out.length cO) out.length (out.flatMap Elem.cells)
 oa:AIn AO (fun k=>X.heap.size≤k∧¬D k)
 ne : ∀a b,AL=some a→AO=some b→a.block≠b.block
 bel:Below X.heap.size X w
section
variable {X w w':World} {nb:Nat} {ns ns':List Sym} {left out:List Elem} {AL:Option Addr} {cL:Nat} {AO:Option Addr} {cO:Nat} {D:Nat→Prop}
theorem Z7w {e:TypeId} {size n c:Nat} {A:Option Addr} {xs:List Value} (h:w.ownsRow 0 e size (.slice A n c) n xs) : ∀a,A=some a→a.block<w.heap.size:=fun a ha=>Z3a h a.block (by subst ha;rfl)
theorem LS.new_ (h:LS X nb ns left out AL cL AO cO D w) (hb:Below w.heap.size w w'):LS X nb ns left out AL cL AO cO D w':=
 ⟨h.nm.new_ hb,h.dn,Z02 h.lo hb,h.la,Z02 h.oo hb,h.oa,h.ne,h.bel.trans (hb.mono h.bel.size)⟩
theorem LS.put (h:LS X nb ns left out AL cL AO cO D w) (hp:Z34 D w nb ns' w') : ∃D',LS X nb ns' left out AL cL AO cO D' w':=by
 obtain ⟨D',h1,h2,h3,h4⟩:=hp;have hsz:=h.bel.size;have far : ∀{A:Option Addr} {n c:Nat} {xs:List Value},w.ownsRow 0 55 12 (.slice A n c) n xs→AIn A (fun k=>X.heap.size≤k∧¬D k)→AIn A (fun k=>X.heap.size≤k∧¬D' k):=fun ho hA a ha=>⟨(hA a ha).1,fun hd=>(h3 _ hd).elim (hA a ha).2 (fun h5=>by have:=Z7w ho a ha;omega)⟩
 have hown : ∀{A:Option Addr} {n c:Nat} {xs:List Value},w.ownsRow 0 55 12 (.slice A n c) n xs→AIn A (fun k=>X.heap.size≤k∧¬D k)→w'.ownsRow 0 55 12 (.slice A n c) n xs:=fun {A} {n c xs} ho hA=>Z0n ho h4 (fun g hg hd=>by
  cases A with
  | none=>cases hg
  | some a=>injection hg with hg;exact (hA a rfl).2 (hg ▸ hd))
 exact ⟨D',h1,fun k hk=>(h3 k hk).elim (h.dn k) (fun h5=>by omega),hown h.lo h.la,far h.lo h.la,hown h.oo h.oa,far h.oo h.oa,h.ne,h.bel.trans (h4.below hsz (fun k hk hd=>by have:=h.dn k hd;omega))⟩
theorem LS.cut (h:LS X nb ns left out AL cL AO cO D w) {k:Nat} (hk:k<left.length) {v:Value} (hown:w'.ownsRow 0 55 12 v (k+(left.drop (k+1)).length) ((left.take k).flatMap Elem.cells++(left.drop (k+1)).flatMap Elem.cells))
 (hg:w.grownBy w' (Value.slice AL k cL).ownBlock) (hat:v.ownBlock=(Value.slice AL k cL).ownBlock∨v.ownBlock=some w.heap.size) : ∃A' c',v = .slice A' (left.eraseIdx k).length c'∧LS X nb ns (left.eraseIdx k) out A' c' AO cO D w'∧Fr (fun j=>∃a,AL=some a∧a.block=j) w w':=by
 obtain ⟨A',c',rfl,hF,hA,hO⟩:=Z1t (E:=fun j=>∃a,AL=some a∧a.block=j) (fun a ha=>⟨a,ha,rfl⟩) hown hg hat;have e1:left.eraseIdx k=left.take k++left.drop (k+1):=List.eraseIdx_eq_take_drop_succ left k;(have e2:(left.eraseIdx k).length=k+(left.drop (k+1)).length:=by rw [e1,Zot,Zpp,Nat.min_eq_left (by omega)]);have hsz:=h.bel.size;refine ⟨A',c',by rw [e2],⟨h.nm.fr hF (fun j hj ⟨a,ha,e⟩=>(h.la a ha).2 (e ▸ hj)),h.dn,by rw [e2,e1,Zos];exact hO,fun a ha=>?_,Z0n h.oo hF (fun g hg ⟨a,ha,e⟩=>?_),h.oa,fun a b ha hb=>?_,h.bel.trans (hF.below hsz (fun j hj ⟨a,ha,e⟩=>by have:=(h.la a ha).1;omega))⟩,hF⟩
 · rcases hA a ha with ⟨b,hb,e⟩ | ⟨h1,_⟩
   · rw [← e];exact h.la b hb
   · exact ⟨by omega,fun hd=>by have:=h.nm.lt _ hd;omega⟩
 · cases AO with
   | none=>cases hg
   | some b=>injection hg with hg;exact h.ne a b ha rfl (e.trans hg.symm)
 · rcases hA a ha with ⟨b',hb',e⟩ | ⟨h1,_⟩
   · rw [← e];exact h.ne b' b hb' hb
   · have:=Z7w h.oo b hb;omega
theorem LS.more (h:LS X nb ns left out AL cL AO cO D w) {e:Elem} {v:Value} (hown:w'.ownsRow 0 55 12 v (out.length+1) (out.flatMap Elem.cells ++ [e].flatMap Elem.cells))
 (hg:w.grownBy w' (Value.slice AO out.length cO).ownBlock) (hat:v.ownBlock=(Value.slice AO out.length cO).ownBlock∨v.ownBlock=some w.heap.size) : ∃A' c',v = .slice A' (out ++ [e]).length c'∧LS X nb ns left (out ++ [e]) AL cL A' c' D w'∧Fr (fun j=>∃a,AO=some a∧a.block=j) w w':=by
 obtain ⟨A',c',rfl,hF,hA,hO⟩:=Z1t (E:=fun j=>∃a,AO=some a∧a.block=j) (fun a ha=>⟨a,ha,rfl⟩) hown hg hat;(have e2:(out ++ [e]).length=out.length+1:=by simp);have hsz:=h.bel.size;refine ⟨A',c',by rw [e2],⟨h.nm.fr hF (fun j hj ⟨a,ha,e⟩=>(h.oa a ha).2 (e ▸ hj)),h.dn,Z0n h.lo hF (fun g hg ⟨a,ha,e⟩=>?_),h.la,by rw [e2,Zos];exact hO,fun a ha=>?_,fun a b ha hb=>?_,h.bel.trans (hF.below hsz (fun j hj ⟨a,ha,e⟩=>by have:=(h.oa a ha).1;omega))⟩,hF⟩
 · cases AL with
   | none=>cases hg
   | some b=>injection hg with hg;exact h.ne b a rfl ha (hg.trans e.symm)
 · rcases hA a ha with ⟨b,hb,e⟩ | ⟨h1,_⟩
   · rw [← e];exact h.oa b hb
   · exact ⟨by omega,fun hd=>by have:=h.nm.lt _ hd;omega⟩
 · rcases hA b hb with ⟨b',hb',e⟩ | ⟨h1,_⟩
   · rw [← e];exact h.ne a b' ha hb'
   · have:=Z7w h.lo a ha;omega
theorem LS.at_ (h:LS X nb ns left out AL cL AO cO D w) {i:Nat} (hi:i<left.length) : ∃g off,AL=some ⟨g,off,none⟩∧g<w.heap.size∧w.rangeAt g (off+i*12) (Elem.cells left[i]):=by
 obtain ⟨b,off,h1,h2,h3⟩:=(Z0c Elem.cells_length h.lo).at_ hi;exact ⟨b,off,h1,h2,fun j u hu=>h3 j u hu⟩
end
def Z65 (l:List Elem) (w:World) (e:Ending) (w':World):Prop:=Below w.heap.size w w'∧
 match Z5o l with
 | none=>e = .returned (.tuple #[.slice none 0 0,.pointer none,.bool false])
 | some (o,ns)=>∃A c nb D,e = .returned (.tuple #[.slice A o.length c,.pointer (some ⟨nb,0,none⟩),.bool true])∧w'.ownsRow 0 55 12 (.slice A o.length c) o.length (o.flatMap Elem.cells)∧AIn A (fun k=>w.heap.size≤k∧¬D k)∧Nm D w' nb ns∧∀k,D k→w.heap.size≤k
theorem Z65.no {l:List Elem} {w w':World} (h:Z5o l=none) (hb:Below w.heap.size w w'):Z65 l w (.returned (.tuple #[.slice none 0 0,.pointer none,.bool false])) w':=by
 refine ⟨hb,?_⟩;rw [h]
theorem Z65.yes {l o left:List Elem} {X w:World} {nb:Nat} {ns:List Sym} {AL:Option Addr} {cL:Nat} {AO:Option Addr} {cO:Nat} {D:Nat→Prop} (h:Z5o l=some (o,ns)) (hs:LS X nb ns left o AL cL AO cO D w):Z65 l X (.returned (.tuple #[.slice AO o.length cO,.pointer (some ⟨nb,0,none⟩),.bool true])) w:=by
 refine ⟨hs.bel,?_⟩;rw [h];exact ⟨AO,cO,nb,D,rfl,hs.oo,hs.oa,hs.nm,hs.dn⟩
end
end Go.Proofs.YtldndkngpdfpfaaGreat
