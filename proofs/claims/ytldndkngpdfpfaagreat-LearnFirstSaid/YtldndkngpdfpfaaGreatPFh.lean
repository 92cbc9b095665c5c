/-
  Texts put together: LrnRs, LrnHv, LrnFsP, LrnN0.
-/
import Derived.Test.YtldndkngpdfpfaaGreatPFg
namespace Go.Proofs.YtldndkngpdfpfaaGreat
open Lib (hid)
set_option maxRecDepth 100000
set_option maxHeartbeats 32000000
section
open Go.RowKit Go.Shelf
attribute [local go_sem] Oper.semAt_some
set_option linter.unusedSimpArgs false
theorem Zg5 {gl:Nat} {ll:Array Value} {of:Sym→Int} {ga:Nat} {la:Array Value} {Kp:World→World→Prop} (lv:Int) (l all:List Z04) (AL:Option Addr) (cL:Nat) (X:World) (hO:LvOk gl ll X of) (hl:Z0p X 16 Z04.cells AL cL l) (hq:Seq ga la Z3y all X (fun X Y=>Y=X) Kp) (h1:l.length≤20) (h2:all.length≤40) :
 Calls Tryz.prog 50 #[.int .i64 lv,.slice AL l.length cL,.func (.func gl) #[] ll,.func (.func ga) #[] la] X (Znr of lv l all X):=by
 have HO:=hid hO;have HL:=hid hl;have HQ:=hid hq;have hlc:=hl.cap;have hent:=hO.ent;clear hO hl hq;obtain ⟨i0,hi0,hz0,hz1,hz2⟩:=infp Zhj;refine (callsIn_wide (n:=0)).1 ?_;refine callsIn_of_wp_marks Tryz.func50 rfl trivial ?_;simp only [Tryz.ntmps50,Zp6,Zol,Zp3,Nat.reduceAdd,Nat.reduceSub,Zow,Zox,Zp5,Zp0,Zom,Zp1];(gi_wp2_with fail);obtain ⟨W1,hW1⟩ : ∃W,W=(X.alloc (.cells #[.int .i64 lv] 3)).alloc (.cells #[.slice none 0 0] 29):=⟨_,rfl⟩;obtain ⟨bl,hbl⟩ : ∃b,b=X.heap.size:=⟨_,rfl⟩;obtain ⟨bo,hbo⟩ : ∃b,b=X.heap.size+1:=⟨_,rfl⟩
 have HR1:=hid (show LrS X lv bl bo [] none 0 W1 by
  subst hW1;subst hbl;subst hbo;have hh:=Blk.new (X.alloc (.cells #[.int .i64 lv] 3)) 29 #[.slice none 0 0];simp only [Zos] at hh
  exact ⟨(Blk.new _ _ _).alloc _,hh,⟨by simp,.inl ⟨rfl,rfl⟩⟩,AIn.none_ _,⟨by omega,by omega⟩,((Znz _ _).alloc (Zo0 _) _).alloc (by simp) _⟩)
 (try simp only [Zos]);rw [← hW1];(try rw [← hbo]);(try rw [← hbl]);clear hW1 hbl hbo
 gi_loopw [21] (fun s wr=>∃(i:Nat) (o:List Z04) (A:Option Addr) (c:Nat),s = .int .i64 (i:Int)∧i≤l.length∧o=Z2t of lv [] (l.take i)∧o.length≤i∧LrS X lv bl bo o A c wr) (fun s wr=>l.length - (intOf s).toNat)
 case atStart=>exact ⟨0,[],none,0,rfl,Nat.zero_le _,rfl,Zo0 _,HR1.out⟩
 case round=>
  clear HR1;obtain ⟨i,o,A,c,rfl,hi,ho,hol,hrs⟩:=hrel;have HR:=hid hrs;have HOE:=hid ho;clear hrs ho;by_cases hlt:i<l.length
  · skip
    obtain ⟨y,hy⟩ : ∃y,y=l[i]:=⟨_,rfl⟩;obtain ⟨g,off,hAA,hgl,hrg⟩:=(HL.out.new_ HR.out.bel).range hlt;rw [← hy] at hrg;subst hAA;have HTK:=hid (show l.take (i+1)=l.take i ++ [y] by rw [Zou,Zo8 hlt,hy];rfl);have HRG:=hid (show wr.rangeAt g (off+i*16) [.int .i64 y.id.kind,.string y.id.text,.int .i64 y.id.n,.int .i64 y.attr.kind,.string y.attr.text,.int .i64 y.attr.n,.int .i64 y.value.kind,.string y.value.text,.int .i64 y.value.n,.int .i64 y.other.kind,.string y.other.text,.int .i64 y.other.n,.int .i64 y.kind,.bool y.o,.int .i64 y.level,.int .i64 y.by_] from hrg);obtain ⟨W5,hW5,hth,hrg5,hb5,hz5⟩:=Z88 (w:=wr) (t:=68) [.int .i64 0,.string ⟨#[]⟩,.int .i64 0,.int .i64 0,.string ⟨#[]⟩,.int .i64 0,.int .i64 0,.string ⟨#[]⟩,.int .i64 0,.int .i64 0,.string ⟨#[]⟩,.int .i64 0,.int .i64 0,.bool false,.int .i64 0,.int .i64 0] [.int .i64 y.id.kind,.string y.id.text,.int .i64 y.id.n,.int .i64 y.attr.kind,.string y.attr.text,.int .i64 y.attr.n,.int .i64 y.value.kind,.string y.value.text,.int .i64 y.value.n,.int .i64 y.other.kind,.string y.other.text,.int .i64 y.other.n,.int .i64 y.kind,.bool y.o,.int .i64 y.level,.int .i64 y.by_] rfl;have HW5:=hid hW5;have HTH:=hid hth;have HKP:=hid (show Blk W5 wr.heap.size 68 #[.int .i64 y.id.kind,.string y.id.text,.int .i64 y.id.n,.int .i64 y.attr.kind,.string y.attr.text,.int .i64 y.attr.n,.int .i64 y.value.kind,.string y.value.text,.int .i64 y.value.n,.int .i64 y.other.kind,.string y.other.text,.int .i64 y.other.n,.int .i64 y.kind,.bool y.o,.int .i64 y.level,.int .i64 y.by_] from Z2y (zs:=[.int .i64 0,.string ⟨#[]⟩,.int .i64 0,.int .i64 0,.string ⟨#[]⟩,.int .i64 0,.int .i64 0,.string ⟨#[]⟩,.int .i64 0,.int .i64 0,.string ⟨#[]⟩,.int .i64 0,.int .i64 0,.bool false,.int .i64 0,.int .i64 0]) (vs:=[.int .i64 y.id.kind,.string y.id.text,.int .i64 y.id.n,.int .i64 y.attr.kind,.string y.attr.text,.int .i64 y.attr.n,.int .i64 y.value.kind,.string y.value.text,.int .i64 y.value.n,.int .i64 y.other.kind,.string y.other.text,.int .i64 y.other.n,.int .i64 y.kind,.bool y.o,.int .i64 y.level,.int .i64 y.by_]) rfl hW5 hrg5);have HR5:=hid (HR.out.new_ hb5);have HZ5:=hid hz5;(have j1:(0:Int)≤(i:Int):=by omega);(have j2:(i:Int)<(l.length:Int):=by omega);have v1:IntKind.i64.wrap ((i:Int)+1)=(i:Int)+1:=Zof _ (by omega);clear hW5 hth hrg5 hb5 hz5 hrg hy;have hp:=HKP.out.range;have k0:=(HKP.out.cell 0).trans rfl;have k1:=(HKP.out.cell 1).trans rfl;have k2:=(HKP.out.cell 2).trans rfl;have kz:=HKP.out.lt;have HLC:=hid (HO.out.call y.id W5 HR5.out.bel)
    gi_wp2_with (first
     | (with_reducible refine Z3f rfl 68 _ rfl g (off+i*16) rfl _ _ HRG.out Tryz.underlying68 rfl (by kernel_rfl) ?_)
     | ((with_reducible refine Z2j rfl 68 _ _ rfl wr.heap.size 0 #[.int .i64 y.id.kind,.string y.id.text,.int .i64 y.id.n,.int .i64 y.attr.kind,.string y.attr.text,.int .i64 y.attr.n,.int .i64 y.value.kind,.string y.value.text,.int .i64 y.value.n,.int .i64 y.other.kind,.string y.other.text,.int .i64 y.other.n,.int .i64 y.kind,.bool y.o,.int .i64 y.level,.int .i64 y.by_] rfl rfl HTH.out (by kernel_rfl) (by kernel_rfl) ?_);rw [← HW5.out]))
    refine ⟨trivial,rfl,?_⟩;refine (callsIn_wide.2 HLC.out).mono ?_;rintro e w6 ⟨rfl,hb6⟩;have HR6:=hid (HR5.out.new_ hb6);have HKP:=hid (HKP.out.new_ hb6);obtain ⟨n,hn⟩ : ∃n,n=of y.id:=⟨_,rfl⟩;rw [← hn];have HN:=hid (show Z2k lv n=Z2k lv (of y.id) by rw [hn]);clear hb6 hn hp k0 k1 k2 kz HLC HRG HTH HW5 HZ5;have l0:=HR6.out.lvb.c1;have lz:=HR6.out.lvb.lt;have o0:=HR6.out.ob.c1;have oz:=HR6.out.ob.lt;have HNO:=hid (show Z2k lv n=false→Z2t of lv [] (l.take (i+1))=o from fun h=>by rw [HTK.out,Z8g,← HN.out,h,← HOE.out];simp);have HYE:=hid (show Z2k lv n=true→Z2t of lv [] (l.take (i+1))=addP o y from fun h=>by rw [HTK.out,Z8g,← HN.out,h,← HOE.out];simp);clear HN HOE HTK;by_cases g1:1≤n
    case neg=>
     (have d1:decide (1≤n)=false:=by simpa using g1);have HOF:=hid (HNO.out (by unfold Z2k;simp;omega));(gi_wp2_with fail);refine ⟨trivial,?_⟩;(gi_wp2_with fail);go_roundw
     case rel=>exact ⟨i+1,o,A,c,by go_num,by omega,HOF.out.symm,by omega,HR6.out⟩
     case measure=>simp [intOf]<;>omega
    (have d1:decide (1≤n)=true:=by simpa using g1);by_cases g2:n<lv
    case neg=>
     (have d2:decide (n<lv)=false:=by simpa using g2);have HOF:=hid (HNO.out (by unfold Z2k;simp;omega));(gi_wp2_with fail);refine ⟨trivial,?_⟩;(gi_wp2_with fail);go_roundw
     case rel=>exact ⟨i+1,o,A,c,by go_num,by omega,HOF.out.symm,by omega,HR6.out⟩
     case measure=>simp [intOf]<;>omega
    (have d2:decide (n<lv)=true:=by simpa using g2);have HG:=hid (show Z2k lv n=true by unfold Z2k;simp [g1,g2]);clear g1 g2;have hp:=HKP.out.range;have HTH:=hid (Zel o A c y w6 (Z0d Z04.cells_length HR6.out.own));(gi_wp2_with ((with_reducible refine Z4e ?_ 68 _ rfl wr.heap.size 0 rfl _ _ hp Tryz.underlying68 rfl (by kernel_rfl) ?_);exact rfl));refine ⟨trivial,rfl,?_⟩;refine (callsIn_wide.2 HTH.out).mono ?_;rintro e w7 ⟨rfl,hb7⟩;have HR7:=hid (HR6.out.new_ hb7);have HKP:=hid (HKP.out.new_ hb7);obtain ⟨th,hth⟩ : ∃th,th=decide (y∈o):=⟨_,rfl⟩;rw [← hth];have HTD:=hid hth;clear hb7 hth hp l0 lz o0 oz HTH;cases th
    case true=>
     have HOF:=hid ((HYE.out HG.out).trans (by rw [addP,if_pos (Zpi HTD.out.symm)]));(gi_wp2_with fail);go_roundw
     case rel=>exact ⟨i+1,o,A,c,by go_num,by omega,HOF.out.symm,by omega,HR7.out⟩
     case measure=>simp [intOf]<;>omega
    have HOF:=hid (show addP o y=o ++ [y] by rw [addP,if_neg (Zpp HTD.out.symm)]);have o0:=HR7.out.ob.c1;have oz:=HR7.out.ob.lt;have hp:=HKP.out.range;obtain ⟨W8,hW8⟩ : ∃W,W=w7.alloc (.cells #[.int .i64 y.id.kind,.string y.id.text,.int .i64 y.id.n,.int .i64 y.attr.kind,.string y.attr.text,.int .i64 y.attr.n,.int .i64 y.value.kind,.string y.value.text,.int .i64 y.value.n,.int .i64 y.other.kind,.string y.other.text,.int .i64 y.other.n,.int .i64 y.kind,.bool y.o,.int .i64 y.level,.int .i64 y.by_] 68):=⟨_,rfl⟩;have HW8:=hid hW8;(have hb8:Below w7.heap.size w7 W8:=by rw [hW8];exact (Znz _ _).alloc (Zo0 _) _);have HR8:=hid (HR7.out.new_ hb8);have HB8:=hid hb8;have HN8:=hid (show 0<1→∃ad,(some (⟨w7.heap.size,0,none⟩:Addr))=some ad∧∀j u,([y].flatMap Z04.cells)[j]? = some u→W8.cell? (ad.add j)=some u from fun _=>⟨_,rfl,by rw [hW8];exact Zok (heap_alloc_new _ _)⟩);clear hW8 hb8
    gi_wp2_with (first
     | (with_reducible refine Z3f rfl 68 _ rfl wr.heap.size 0 rfl _ _ hp Tryz.underlying68 rfl (by kernel_rfl) ?_)
     | (gi_at_builtin;rw [← HW8.out];refine Z3k W8 rfl (.tmp 42) (.tmp 44) 29 rfl 68 i0 _ 16 160 Tryz.underlying29 hi0 hz0 hz1 hz2 rfl (by omega) (.slice A o.length c) o.length (o.flatMap Z04.cells) rfl HR8.out.own (some ⟨w7.heap.size,0,none⟩) 1 1 ([y].flatMap Z04.cells) rfl rfl HN8.out (Zby _) (by unfold maxLen;omega) (by omega) ?_;intro v3 Y hown1 hg1 hnil1 hat1;obtain ⟨A9,c9,rfl,hobY,hr9,hF9,hM9⟩:=HR8.out.more hown1 hg1 hat1;obtain ⟨on,hon⟩ : ∃on,on=o ++ [y]:=⟨_,rfl⟩;rw [← hon] at hr9 hF9 ⊢;have HON:=hid hon;have HR9:=hid hr9;have HF9:=hid hF9;have HM9:=hid hM9;have oy0:=hobY.c1;have oyf:=hobY.frozen 0;have oyz:=hobY.lt;clear hown1 hg1 hnil1 hat1 hobY hr9 hF9 hM9 hon))
    go_roundw
    case rel=>exact ⟨i+1,on,A9,c9,by go_num,by omega,by rw [HYE.out HG.out,HOF.out,HON.out],by rw [HON.out];simp;omega,HR9.out⟩
    case measure=>simp [intOf]<;>omega
  · skip
    (obtain rfl:i=l.length:=by omega);have HOF:=hid (show o=Z2t of lv [] l by have:=HOE.out;rwa [Zop] at this);(have jz : ¬(l.length:Int)<(l.length:Int):=by omega);clear HOE hi hlt;(gi_wp2_with fail);refine ⟨trivial,rfl,?_⟩;refine (callsIn_wide.2 (Zi6 none 0 [] _ (Z0p.nil _ _ _) (by simp))).mono ?_;rintro e w1 ⟨bp,rfl,hbp,sn,Ag,cg,hS,hA,hB⟩;have HR2:=hid (HR.out.new_ hB);have HG2:=hid (show LrG X bp sn Ag cg [] w1 from ⟨hS,fun a ha=>Zod HR.out.bel.size (hA a ha),Zod HR.out.bel.size hbp⟩);clear hS hA hB hbp jz hol HR;(gi_wp2_with fail);obtain ⟨I,hI⟩ : ∃I:Act→World→Prop,I=fun a w=>∃(i:Nat) (st:List Z04×List Sym) (A:Option Addr) (c:Nat) (sn:Bool) (Ag:Option Addr) (cg:Nat) (ds:List Deferred) (u:Nat→Value),RunR of lv l all i st∧i≤st.1.length∧LrS X lv bl bo st.1 A c w∧LrG X bp sn Ag cg st.2 w∧Z33 (X.heap.size≤·) ds w∧a=⟨#[.int .i64 lv,.slice AL l.length cL,.func (.func gl) #[] ll,.func (.func ga) #[] la,.pointer (some ⟨bl,0,none⟩),u 5,u 6,u 7,.slice none 0 0,.pointer (some ⟨bo,0,none⟩),u 10,u 11,u 12,.pointer (some ⟨bp,0,none⟩),.int .i64 (i:Int),u 15,u 16,u 17,u 18,u 19,u 20,u 21,u 22,u 23,u 24,u 25,u 26,u 27,u 28,u 29,u 30,u 31,u 32,u 33,u 34,u 35,u 36,u 37,u 38,u 39,u 40,u 41,u 42,u 43,u 44,u 45,u 46,u 47,u 48,u 49,u 50,u 51,u 52,u 53,u 54,u 55,u 56,u 57,u 58,u 59,u 60,u 61,u 62,u 63,u 64,u 65,u 66,u 67,u 68,u 69,u 70,u 71,u 72,u 73,u 74,u 75,u 76,u 77,u 78,u 79,u 80,u 81,u 82,u 83,u 84,u 85,u 86,u 87,u 88,u 89,u 90,u 91,u 92,u 93,u 94,u 95,u 96,u 97,u 98,u 99,u 100,u 101,u 102,u 103,u 104,u 105,u 106,u 107,u 108,u 109,u 110],ds⟩:=⟨_,rfl⟩
    have keyI : ∀(t:Array Value) (i:Nat) (st:List Z04×List Sym) (A:Option Addr) (c:Nat) (sn:Bool) (Ag:Option Addr) (cg:Nat) (ds:List Deferred) (w:World),RunR of lv l all i st→i≤st.1.length→LrS X lv bl bo st.1 A c w→LrG X bp sn Ag cg st.2 w→Z33 (X.heap.size≤·) ds w→t=(#[.int .i64 lv,.slice AL l.length cL,.func (.func gl) #[] ll,.func (.func ga) #[] la,.pointer (some ⟨bl,0,none⟩),t.getD 5 undef,t.getD 6 undef,t.getD 7 undef,.slice none 0 0,.pointer (some ⟨bo,0,none⟩),t.getD 10 undef,t.getD 11 undef,t.getD 12 undef,.pointer (some ⟨bp,0,none⟩),.int .i64 (i:Int),t.getD 15 undef,t.getD 16 undef,t.getD 17 undef,t.getD 18 undef,t.getD 19 undef,t.getD 20 undef,t.getD 21 undef,t.getD 22 undef,t.getD 23 undef,t.getD 24 undef,t.getD 25 undef,t.getD 26 undef,t.getD 27 undef,t.getD 28 undef,t.getD 29 undef,t.getD 30 undef,t.getD 31 undef,t.getD 32 undef,t.getD 33 undef,t.getD 34 undef,t.getD 35 undef,t.getD 36 undef,t.getD 37 undef,t.getD 38 undef,t.getD 39 undef,t.getD 40 undef,t.getD 41 undef,t.getD 42 undef,t.getD 43 undef,t.getD 44 undef,t.getD 45 undef,t.getD 46 undef,t.getD 47 undef,t.getD 48 undef,t.getD 49 undef,t.getD 50 undef,t.getD 51 undef,t.getD 52 undef,t.getD 53 undef,t.getD 54 undef,t.getD 55 undef,t.getD 56 undef,t.getD 57 undef,t.getD 58 undef,t.getD 59 undef,t.getD 60 undef,t.getD 61 undef,t.getD 62 undef,t.getD 63 undef,t.getD 64 undef,t.getD 65 undef,t.getD 66 undef,t.getD 67 undef,t.getD 68 undef,t.getD 69 undef,t.getD 70 undef,t.getD 71 undef,t.getD 72 undef,t.getD 73 undef,t.getD 74 undef,t.getD 75 undef,t.getD 76 undef,t.getD 77 undef,t.getD 78 undef,t.getD 79 undef,t.getD 80 undef,t.getD 81 undef,t.getD 82 undef,t.getD 83 undef,t.getD 84 undef,t.getD 85 undef,t.getD 86 undef,t.getD 87 undef,t.getD 88 undef,t.getD 89 undef,t.getD 90 undef,t.getD 91 undef,t.getD 92 undef,t.getD 93 undef,t.getD 94 undef,t.getD 95 undef,t.getD 96 undef,t.getD 97 undef,t.getD 98 undef,t.getD 99 undef,t.getD 100 undef,t.getD 101 undef,t.getD 102 undef,t.getD 103 undef,t.getD 104 undef,t.getD 105 undef,t.getD 106 undef,t.getD 107 undef,t.getD 108 undef,t.getD 109 undef,t.getD 110 undef])→I ⟨t,ds⟩ w:=fun t i st A c sn Ag cg ds w g1 g2 g3 g4 g5 g6=>by
     rw [hI];exact ⟨i,st,A,c,sn,Ag,cg,ds,fun j=>t.getD j undef,g1,g2,g3,g4,g5,congrArg (fun x=>(⟨x,ds⟩:Act)) g6⟩
    refine wpIn_loop I (fun a _=>(l.length+all.length) - (intOf (a.tmps.getD 14 undef)).toNat) ?_ ?_
    · exact keyI _ 0 (Z2t of lv [] l,[]) A c sn Ag cg [] _ .start (Nat.zero_le _) (by rw [← HOF.out];exact HR2.out) HG2.out trivial (by rfl)
    intro a wr hIa;have HKI:=hid keyI;rw [hI] at hIa;obtain ⟨i,st,A,c,sn,Ag,cg,ds,u,hrun,hil,hr,hg,hm,rfl⟩:=hIa;have HRUN:=hid hrun;have HR:=hid hr;have HG:=hid hg;have HM:=hid hm;have HFR:=hid (Zao hrun);have hbound:=(Zao hrun).len;have HRG:=hid (Zl7 hrun);have o0:=hr.ob.c1;have oz:=hr.ob.lt;clear hrun hr hg hm hI keyI HR2 HG2 HOF;by_cases hlt:i<st.1.length
    · skip
      obtain ⟨y,hy⟩ : ∃y,y=st.1[i]:=⟨_,rfl⟩;have HYE:=hid (show st.1[i]? = some y by rw [Zo8 hlt,hy]);obtain ⟨g,off,hAA,hgl,hcell⟩:=(Z0d Z04.cells_length HR.out.own).at_ hlt;rw [← hy] at hcell;subst hAA;(have q6:wr.cell? ⟨g,off+i*16+6,none⟩=some (.int .i64 y.value.kind):=by simpa using hcell 6 _ rfl);(have q7:wr.cell? ⟨g,off+i*16+7,none⟩=some (.string y.value.text):=by simpa using hcell 7 _ rfl);(have q8:wr.cell? ⟨g,off+i*16+8,none⟩=some (.int .i64 y.value.n):=by simpa using hcell 8 _ rfl);(have q9:wr.cell? ⟨g,off+i*16+9,none⟩=some (.int .i64 y.other.kind):=by simpa using hcell 9 _ rfl);(have q10:wr.cell? ⟨g,off+i*16+10,none⟩=some (.string y.other.text):=by simpa using hcell 10 _ rfl);(have q11:wr.cell? ⟨g,off+i*16+11,none⟩=some (.int .i64 y.other.n):=by simpa using hcell 11 _ rfl);(have j1:(0:Int)≤(i:Int):=by omega);(have j2:(i:Int)<(st.1.length:Int):=by omega);clear hcell hy;(gi_wp2_with fail);refine wpIn_wide.2 ?_;go_quiet (fail);have HBN:=hid (Below.drewN' (Znz wr.heap.size wr) nq);clear q6 q7 q8 q9 q10 q11 o0 oz;(gi_wp2_with fail);obtain ⟨I3,hI3⟩ : ∃I3:Act→World→Prop,I3=fun a w=>∃(k:Nat) (A:Option Addr) (c:Nat) (sn:Bool) (Ag:Option Addr) (cg:Nat) (ds:List Deferred) (u:Nat→Value),k≤2∧LrS X lv bl bo (Z44 of lv all st y k).1 A c w∧LrG X bp sn Ag cg (Z44 of lv all st y k).2 w∧Z33 (X.heap.size≤·) ds w∧a=⟨#[.int .i64 lv,.slice AL l.length cL,.func (.func gl) #[] ll,.func (.func ga) #[] la,.pointer (some ⟨bl,0,none⟩),u 5,u 6,u 7,.slice none 0 0,.pointer (some ⟨bo,0,none⟩),u 10,u 11,u 12,.pointer (some ⟨bp,0,none⟩),.int .i64 (i:Int),u 15,u 16,u 17,u 18,u 19,u 20,u 21,u 22,u 23,u 24,u 25,u 26,u 27,u 28,u 29,u 30,u 31,u 32,u 33,u 34,u 35,u 36,u 37,u 38,u 39,u 40,u 41,u 42,u 43,u 44,u 45,u 46,u 47,u 48,u 49,u 50,u 51,u 52,u 53,u 54,u 55,u 56,u 57,u 58,u 59,u 60,u 61,u 62,u 63,.agg #[.int .i64 y.value.kind,.string y.value.text,.int .i64 y.value.n,.int .i64 y.other.kind,.string y.other.text,.int .i64 y.other.n],.int .i64 (k:Int),u 66,u 67,u 68,u 69,u 70,u 71,u 72,u 73,u 74,u 75,u 76,u 77,u 78,u 79,u 80,u 81,u 82,u 83,u 84,u 85,u 86,u 87,u 88,u 89,u 90,u 91,u 92,u 93,u 94,u 95,u 96,u 97,u 98,u 99,u 100,u 101,u 102,u 103,u 104,u 105,u 106,u 107,u 108,u 109,u 110],ds⟩:=⟨_,rfl⟩
      have keyJ : ∀(t:Array Value) (k:Nat) (A:Option Addr) (c:Nat) (sn:Bool) (Ag:Option Addr) (cg:Nat) (ds:List Deferred) (w:World),k≤2→LrS X lv bl bo (Z44 of lv all st y k).1 A c w→LrG X bp sn Ag cg (Z44 of lv all st y k).2 w→Z33 (X.heap.size≤·) ds w→t=(#[.int .i64 lv,.slice AL l.length cL,.func (.func gl) #[] ll,.func (.func ga) #[] la,.pointer (some ⟨bl,0,none⟩),t.getD 5 undef,t.getD 6 undef,t.getD 7 undef,.slice none 0 0,.pointer (some ⟨bo,0,none⟩),t.getD 10 undef,t.getD 11 undef,t.getD 12 undef,.pointer (some ⟨bp,0,none⟩),.int .i64 (i:Int),t.getD 15 undef,t.getD 16 undef,t.getD 17 undef,t.getD 18 undef,t.getD 19 undef,t.getD 20 undef,t.getD 21 undef,t.getD 22 undef,t.getD 23 undef,t.getD 24 undef,t.getD 25 undef,t.getD 26 undef,t.getD 27 undef,t.getD 28 undef,t.getD 29 undef,t.getD 30 undef,t.getD 31 undef,t.getD 32 undef,t.getD 33 undef,t.getD 34 undef,t.getD 35 undef,t.getD 36 undef,t.getD 37 undef,t.getD 38 undef,t.getD 39 undef,t.getD 40 undef,t.getD 41 undef,t.getD 42 undef,t.getD 43 undef,t.getD 44 undef,t.getD 45 undef,t.getD 46 undef,t.getD 47 undef,t.getD 48 undef,t.getD 49 undef,t.getD 50 undef,t.getD 51 undef,t.getD 52 undef,t.getD 53 undef,t.getD 54 undef,t.getD 55 undef,t.getD 56 undef,t.getD 57 undef,t.getD 58 undef,t.getD 59 undef,t.getD 60 undef,t.getD 61 undef,t.getD 62 undef,t.getD 63 undef,.agg #[.int .i64 y.value.kind,.string y.value.text,.int .i64 y.value.n,.int .i64 y.other.kind,.string y.other.text,.int .i64 y.other.n],.int .i64 (k:Int),t.getD 66 undef,t.getD 67 undef,t.getD 68 undef,t.getD 69 undef,t.getD 70 undef,t.getD 71 undef,t.getD 72 undef,t.getD 73 undef,t.getD 74 undef,t.getD 75 undef,t.getD 76 undef,t.getD 77 undef,t.getD 78 undef,t.getD 79 undef,t.getD 80 undef,t.getD 81 undef,t.getD 82 undef,t.getD 83 undef,t.getD 84 undef,t.getD 85 undef,t.getD 86 undef,t.getD 87 undef,t.getD 88 undef,t.getD 89 undef,t.getD 90 undef,t.getD 91 undef,t.getD 92 undef,t.getD 93 undef,t.getD 94 undef,t.getD 95 undef,t.getD 96 undef,t.getD 97 undef,t.getD 98 undef,t.getD 99 undef,t.getD 100 undef,t.getD 101 undef,t.getD 102 undef,t.getD 103 undef,t.getD 104 undef,t.getD 105 undef,t.getD 106 undef,t.getD 107 undef,t.getD 108 undef,t.getD 109 undef,t.getD 110 undef])→I3 ⟨t,ds⟩ w:=fun t k A c sn Ag cg ds w g2 g3 g4 g5 g6=>by
       rw [hI3];exact ⟨k,A,c,sn,Ag,cg,ds,fun j=>t.getD j undef,g2,g3,g4,g5,congrArg (fun x=>(⟨x,ds⟩:Act)) g6⟩
      refine wpIn_loop I3 (fun a _=>2 - (intOf (a.tmps.getD 65 undef)).toNat) ?_ ?_
      · exact keyJ _ 0 (some ⟨g,off,none⟩) c sn Ag cg ds _ (by omega) (HR.out.new_ HBN.out) (HG.out.new_ HBN.out) (HM.out.new_ HBN.out) (by rfl)
      intro a wk hIa;have HKJ:=hid keyJ;rw [hI3] at hIa;obtain ⟨k,A,c,sn,Ag,cg,ds,u,hk2,hr,hg,hm,rfl⟩:=hIa;have HR:=hid hr;have HG:=hid hg;have HM:=hid hm;have HFK:=hid (Z5x (of:=of) (lv:=lv) (p:=y) HFR.out k);have hkb:=(Z5x (of:=of) (lv:=lv) (p:=y) HFR.out k).len;obtain ⟨sk,hsk⟩ : ∃sk,sk=Z44 of lv all st y k:=⟨_,rfl⟩;rw [← hsk] at HR HG hkb;have HSK:=hid hsk;clear hr hg hm hI3 keyJ hsk;by_cases hlt3:k<2
      · skip
        obtain ⟨s,hs,hix⟩ : ∃s,(twoS y)[k]? = some s∧∀V,(Instr.index 166 (.agg #[.int .i64 y.value.kind,.string y.value.text,.int .i64 y.value.n,.int .i64 y.other.kind,.string y.other.text,.int .i64 y.other.n]) (.int .i64 (k:Int))).run Tryz.prog V = .ok (.agg #[.int .i64 s.kind,.string s.text,.int .i64 s.n]) V:=by
         rcases (show k=0∨k=1 by omega) with rfl | rfl
         · exact ⟨y.value,rfl,fun V=>by rfl⟩
         · exact ⟨y.other,rfl,fun V=>by rfl⟩
        have HSN:=hid (show Z44 of lv all st y (k+1)=stepS of lv all sk s by rw [HSK.out];exact Z5y hs);obtain ⟨W5,hW5,hth,hrg5,hb5,hz5⟩:=Z88 (w:=wk) (t:=23) [.int .i64 0,.string ⟨#[]⟩,.int .i64 0] [.int .i64 s.kind,.string s.text,.int .i64 s.n] rfl;have HW5:=hid hW5;have HTH:=hid hth;have HKS:=hid (show Blk W5 wk.heap.size 23 #[.int .i64 s.kind,.string s.text,.int .i64 s.n] from Z2y (zs:=[.int .i64 0,.string ⟨#[]⟩,.int .i64 0]) (vs:=[.int .i64 s.kind,.string s.text,.int .i64 s.n]) rfl hW5 hrg5);have HR5:=hid (HR.out.new_ hb5);have HG5:=hid (HG.out.new_ hb5);have HM5:=hid (HM.out.new_ hb5);(have j1:(0:Int)≤(k:Int):=by omega);(have j2:(k:Int)<2:=by omega);have v1:IntKind.i64.wrap ((k:Int)+1)=(k:Int)+1:=Zof _ (by omega);have k0:=(HKS.out.cell 0).trans rfl;have k1:=(HKS.out.cell 1).trans rfl;have k2:=(HKS.out.cell 2).trans rfl;have kz:=HKS.out.lt;clear hW5 hth hrg5 hb5 hz5 hs;by_cases hsk1:s.kind=1
        case neg=>
         (have e1:(s.kind != 1)=true:=by simp [hsk1]);(have e2:decide (s.kind=1)=false:=by simp [hsk1]);have HSO:=hid (HSN.out.trans (show stepS of lv all sk s=sk by rw [stepS,if_neg (fun h=>hsk1 h.1)]));clear hsk1;(gi_wp2_with ((with_reducible refine Z2j rfl 23 _ _ rfl wk.heap.size 0 #[.int .i64 s.kind,.string s.text,.int .i64 s.n] rfl rfl HTH.out (by kernel_rfl) (by kernel_rfl) ?_);rw [← HW5.out]));refine ⟨HKJ.out _ (k+1) A c sn Ag cg ds _ (by omega) (by rw [HSO.out];exact HR5.out) (by rw [HSO.out];exact HG5.out) HM5.out (by rfl),by simp [intOf];omega⟩
        (have e1:(s.kind != 1)=false:=by simp [hsk1]);(have e2:decide (s.kind=1)=true:=by simp [hsk1]);have HLC:=hid (HO.out.call s W5 HR5.out.bel);have HS1:=hid hsk1;clear hsk1;(gi_wp2_with ((with_reducible refine Z2j rfl 23 _ _ rfl wk.heap.size 0 #[.int .i64 s.kind,.string s.text,.int .i64 s.n] rfl rfl HTH.out (by kernel_rfl) (by kernel_rfl) ?_);rw [← HW5.out]));refine ⟨trivial,rfl,?_⟩;refine (callsIn_wide.2 HLC.out).mono ?_;rintro e w6 ⟨rfl,hb6⟩;have HR6:=hid (HR5.out.new_ hb6);have HG6:=hid (HG5.out.new_ hb6);have HM6:=hid (HM5.out.new_ hb6);have HKS6:=hid (HKS.out.new_ hb6);obtain ⟨n,hn⟩ : ∃n,n=of s:=⟨_,rfl⟩;rw [← hn];have HNE:=hid (show Z2k lv (of s)=Z2k lv n by rw [hn]);clear hb6 hn k0 k1 k2 kz HLC HTH HW5 HR5 HG5 HM5 HKS e1 e2 hix;have l0:=HR6.out.lvb.c1;have lz:=HR6.out.lvb.lt;have k0:=(HKS6.out.cell 0).trans rfl;have k1:=(HKS6.out.cell 1).trans rfl;have k2:=(HKS6.out.cell 2).trans rfl;have kz:=HKS6.out.lt
        have hpl:((puts Z08 [] sk.2).length:Int)≤100000000:=by
         have:=Z13 Z2x sk.2 (Srt.nil (cmp:=Z08));have hgl:=Z9p (of:=of) (lv:=lv) (all:=all) (st:=st) (p:=y) k;rw [← HSK.out] at hgl;have hrg:=HRG.out;simp at this;omega
        have HPU:=hid (Zdi bp cg sn Ag (puts Z08 [] sk.2) s w6 HG6.out.set (Srt.puts Z2x _ Srt.nil) hpl);clear hpl;by_cases hgood:Z2k lv n=true
        · skip
          (have h1n:1≤n∧n<lv:=by unfold Z2k at hgood;simpa using hgood);obtain ⟨g1,g2⟩:=h1n;(have d1:decide (1≤n)=true:=by simpa using g1);(have d2:decide (n<lv)=true:=by simpa using g2);have HSO:=hid (HSN.out.trans (show stepS of lv all sk s=sk by rw [stepS,if_neg (fun h=>by have:=h.2.1;rw [HNE.out,hgood] at this;cases this)]));clear hgood g1 g2;(gi_wp2_with fail);refine ⟨trivial,?_⟩;(gi_wp2_with fail);refine ⟨HKJ.out _ (k+1) A c sn Ag cg ds _ (by omega) (by rw [HSO.out];exact HR6.out) (by rw [HSO.out];exact HG6.out) HM6.out (by rfl),by simp [intOf];omega⟩
        · skip
          have HBAD:=hid (show Z2k lv (of s)=false by rw [HNE.out];simpa using hgood);have hreg : ∀b:Bool,True:=fun _=>trivial
          obtain ⟨d,hd1,hd⟩ : ∃d:Bool,decide (1≤n)=d∧(d=true→decide (n<lv)=false):=⟨_,rfl,fun h=>by
           cases h2:decide (n<lv) with
           | false=>rfl
           | true=>exact absurd (by unfold Z2k;rw [h,h2];rfl) hgood⟩
          clear hgood;cases d
          all_goals
           (try have hd2:=hd rfl)
           clear hd;(gi_wp2_with fail);refine ⟨trivial,rfl,?_⟩;refine (callsIn_wide.2 HPU.out).mono ?_;rintro e w7 ⟨rfl,sn7,A7,c7,hS7,hF7,hM7⟩;obtain ⟨hg7,hr7,hcl7,hge7⟩:=HG6.out.put_ HR6.out hS7 hF7 hM7;have HR7:=hid hr7;have HG7:=hid hg7;have HM7:=hid (HM6.out.at_ hF7 (fun k hk _=>hcl7 k hk))
           have HKS7:=hid (HKS6.out.fr hF7 (by
            rintro (e | ⟨_,a,ha,e⟩)
            · have:=HG.out.set.blk.lt;omega
            · have:=Z3q HG.out.set.row a.block (by rw [ha];rfl);omega))
           obtain ⟨hh,hhe⟩ : ∃hh,hh=has Z08 (puts Z08 [] sk.2) s:=⟨_,rfl⟩;rw [← hhe];have HHE:=hid hhe;have HS7:=hid hS7;clear hS7 hF7 hM7 hg7 hr7 hcl7 hge7 hhe k0 k1 k2 kz l0 lz HPU;have HIN:=hid (show hh=true↔s∈sk.2 by rw [HHE.out,Zm2,Z7t];simp);cases hh
           case true=>
            have HSO:=hid (HSN.out.trans (show stepS of lv all sk s=sk by rw [stepS,if_neg (fun h=>h.2.2 (HIN.out.1 rfl))]));have HG8:=hid (show LrG X bp sn7 A7 c7 sk.2 w7 from ⟨by have h:=HS7.out;rwa [put,if_pos HHE.out.symm] at h,HG7.out.ain,HG7.out.ge⟩);(gi_wp2_with fail);refine ⟨HKJ.out _ (k+1) A c sn7 A7 c7 ds _ (by omega) (by rw [HSO.out];exact HR7.out) (by rw [HSO.out];exact HG8.out) HM7.out (by rfl),by simp [intOf];omega⟩
           have HSO:=hid (HSN.out.trans (show stepS of lv all sk s=(Z5j s lv sk.1 all,sk.2 ++ [s]) by rw [stepS,if_pos ⟨HS1.out,HBAD.out,fun h=>by have:=HIN.out.2 h;cases this⟩]));clear HIN HS7 HHE HBAD;(gi_wp2_with fail);have HMQ:=hid (show Z33 (fun k=>X.heap.size≤k∧k<w7.heap.size) ds w7 from HM7.out.of);have HQ7:=hid (HQ.out.new_ HR7.out.bel);have hxz:X.heap.size≤w7.heap.size:=HR7.out.bel.size;obtain ⟨bs,hbs⟩ : ∃b,b=wk.heap.size:=⟨_,rfl⟩;rw [← hbs] at HKS7 ⊢;obtain ⟨I4,hI4⟩ : ∃I4:List Z04→World→Prop,I4=fun p W=>∃A c,LrS X lv bl bo (Z5j s lv sk.1 p) A c W∧LrG X bp sn7 A7 c7 (sk.2 ++ [s]) W∧Blk W bs 23 #[.int .i64 s.kind,.string s.text,.int .i64 s.n]∧Z33 (fun k=>X.heap.size≤k∧k<w7.heap.size) ds W∧w7.heap.size≤W.heap.size:=⟨_,rfl⟩;clear hbs;refine Z9q (w:=w7) (by rfl) HQ7.out.enter HQ7.out.iter (fun x=>by rfl) HQ7.out.trans HQ7.out.keep (fun W W1 h=>Z22 (HQ7.out.mods W W1 h)) I4 (fun _ _ _=>False) ?_ (fun _ _ _ _ h=>h.elim) ?_ ?_ ?_ ?_
           · subst hI4
             rintro p X1 Y ⟨A,c,g1,g2,g3,g4,g5⟩ hp;exact ⟨A,c,g1.priv hp hxz,g2.priv hp,g3.priv hp,g4.priv hp (fun k hk=>hk.2),Zod g5 hp.size⟩
           · intro W W1 hW hs
             subst hI4;subst hs;exact ⟨A,c,HR7.out.new_ hW,HG7.out.new_ hW,HKS7.out.new_ hW,HMQ.out.new_ hW,hW.size⟩
           · intro lo pre x post W hx hlo hIW
             have HFP:=hid (show Z3t l all (Z5j s lv sk.1 pre) from (HSK.out ▸ HFK.out).more (fun p hp=>.inr (by rw [hx];exact List.mem_append_left _ hp)));rw [hI4] at hIW;obtain ⟨A,c,g1,g2,g3,g4,g5⟩:=hIW;have HI:=hid hI4;have HSNC:=hid (Zfr s lv sk.1 pre x);have hol:=HFP.out.len;obtain ⟨o,ho⟩ : ∃o,o=Z5j s lv sk.1 pre:=⟨_,rfl⟩;rw [← ho] at g1 HSNC hol;have HR:=hid g1;have HG:=hid g2;have HS:=hid g3;have HM:=hid g4;clear g1 g2 g3 g4 hI4 hx HM7 HR7 HG7 HKS7 HMQ HR6 HG6 HM6 HKS6 HFP ho;obtain ⟨W5,hW5,hth,hrg5,hb5,hz5⟩:=Z88 (w:=W) (t:=68) [.int .i64 0,.string ⟨#[]⟩,.int .i64 0,.int .i64 0,.string ⟨#[]⟩,.int .i64 0,.int .i64 0,.string ⟨#[]⟩,.int .i64 0,.int .i64 0,.string ⟨#[]⟩,.int .i64 0,.int .i64 0,.bool false,.int .i64 0,.int .i64 0] [.int .i64 x.id.kind,.string x.id.text,.int .i64 x.id.n,.int .i64 x.attr.kind,.string x.attr.text,.int .i64 x.attr.n,.int .i64 x.value.kind,.string x.value.text,.int .i64 x.value.n,.int .i64 x.other.kind,.string x.other.text,.int .i64 x.other.n,.int .i64 x.kind,.bool x.o,.int .i64 x.level,.int .i64 x.by_] rfl;have HW5:=hid hW5;have HTH:=hid hth;have HB5:=hid hb5;have HK5:=hid (show Blk W5 W.heap.size 68 #[.int .i64 x.id.kind,.string x.id.text,.int .i64 x.id.n,.int .i64 x.attr.kind,.string x.attr.text,.int .i64 x.attr.n,.int .i64 x.value.kind,.string x.value.text,.int .i64 x.value.n,.int .i64 x.other.kind,.string x.other.text,.int .i64 x.other.n,.int .i64 x.kind,.bool x.o,.int .i64 x.level,.int .i64 x.by_] from Z2y (zs:=[.int .i64 0,.string ⟨#[]⟩,.int .i64 0,.int .i64 0,.string ⟨#[]⟩,.int .i64 0,.int .i64 0,.string ⟨#[]⟩,.int .i64 0,.int .i64 0,.string ⟨#[]⟩,.int .i64 0,.int .i64 0,.bool false,.int .i64 0,.int .i64 0]) (vs:=[.int .i64 x.id.kind,.string x.id.text,.int .i64 x.id.n,.int .i64 x.attr.kind,.string x.attr.text,.int .i64 x.attr.n,.int .i64 x.value.kind,.string x.value.text,.int .i64 x.value.n,.int .i64 x.other.kind,.string x.other.text,.int .i64 x.other.n,.int .i64 x.kind,.bool x.o,.int .i64 x.level,.int .i64 x.by_]) rfl hW5 hrg5);clear hW5 hth hrg5 hb5 hz5;simp only [Z3y,Array.zip];(gi_wp2_with ((with_reducible refine Z2j rfl 68 _ _ rfl W.heap.size 0 #[.int .i64 x.id.kind,.string x.id.text,.int .i64 x.id.n,.int .i64 x.attr.kind,.string x.attr.text,.int .i64 x.attr.n,.int .i64 x.value.kind,.string x.value.text,.int .i64 x.value.n,.int .i64 x.other.kind,.string x.other.text,.int .i64 x.other.n,.int .i64 x.kind,.bool x.o,.int .i64 x.level,.int .i64 x.by_] rfl rfl HTH.out (by kernel_rfl) (by kernel_rfl) ?_);rw [← HW5.out]));refine ⟨KeepsFrom.of_fr (Fr.of_new (M:=fun _=>False) HB5.out) (fun _ h=>h.elim) _,fun W3 hp3 hz3 _=>?_⟩;have HWB:=hid (show Below X.heap.size W W3 from Below.priv' (HB5.out.mono HR.out.bel.size) hp3 hxz (Zod HR.out.bel.size HB5.out.size));have HR3:=hid ((HR.out.new_ HB5.out).priv hp3 hxz);have HG3:=hid ((HG.out.new_ HB5.out).priv hp3);have HS3:=hid ((HS.out.new_ HB5.out).priv hp3);have HM3:=hid ((HM.out.new_ HB5.out).priv hp3 (fun k hk=>hk.2));have HK3:=hid (HK5.out.priv hp3);have HZ3:=hid (show w7.heap.size≤W3.heap.size from Zod g5 (Zod HB5.out.size hp3.size));clear hp3 hz3 g5 HR HG HS HM HK5 HW5 HTH HB5;have q0:=(HK3.out.cell 0).trans rfl;have q1:=(HK3.out.cell 1).trans rfl;have q2:=(HK3.out.cell 2).trans rfl;have q14:=(HK3.out.cell 14).trans rfl;have qz:=HK3.out.lt;have s0:=(HS3.out.cell 0).trans rfl;have s1:=(HS3.out.cell 1).trans rfl;have s2:=(HS3.out.cell 2).trans rfl;have sz:=HS3.out.lt;have l0:=HR3.out.lvb.c1;have lz:=HR3.out.lvb.lt
             have o0:=HR3.out.ob.c1;have oz:=HR3.out.ob.lt;have heq:=Z5g x.id s;by_cases he:x.id=s
             case neg=>
              (have t1:decide (x.id=s)=false:=by simpa using he);rw [t1] at heq;have HOF:=hid (HSNC.out.trans (if_neg (fun h=>he h.1)));clear he t1 HSNC;(gi_wp2_with fail);refine ⟨trivial,?_⟩;(gi_wp2_with fail);have hI:=HI.out;subst hI;refine ⟨Z5i _ _,HQ.out.below _ _ HWB.out,A,c,?_,HG3.out,HS3.out,HM3.out,HZ3.out⟩;rw [HOF.out];exact HR3.out
             (have t1:decide (x.id=s)=true:=by simpa using he);rw [t1] at heq;have HE:=hid he;clear he t1;by_cases hle:x.level≤lv
             case neg=>
              (have d2:decide (x.level≤lv)=false:=by simpa using hle);have HOF:=hid (HSNC.out.trans (if_neg (fun h=>hle h.2)));clear hle HSNC;(gi_wp2_with fail);refine ⟨trivial,?_⟩;(gi_wp2_with fail);have hI:=HI.out;subst hI;refine ⟨Z5i _ _,HQ.out.below _ _ HWB.out,A,c,?_,HG3.out,HS3.out,HM3.out,HZ3.out⟩;rw [HOF.out];exact HR3.out
             (have d2:decide (x.level≤lv)=true:=by simpa using hle);have HYES:=hid (HSNC.out.trans (if_pos ⟨HE.out,hle⟩));clear hle HSNC;have hp:=HK3.out.range;have HTC:=hid (Zel o A c x W3 (Z0d Z04.cells_length HR3.out.own));(gi_wp2_with ((with_reducible refine Z4e ?_ 68 _ rfl W.heap.size 0 rfl _ _ hp Tryz.underlying68 rfl (by kernel_rfl) ?_);exact rfl));refine ⟨trivial,rfl,?_⟩;refine (callsIn_wide.2 HTC.out).mono ?_;rintro e W7 ⟨rfl,hb7⟩;have HR7:=hid (HR3.out.new_ hb7);have HK7:=hid (HK3.out.new_ hb7);have HB7:=hid hb7;obtain ⟨th,hth⟩ : ∃th,th=decide (x∈o):=⟨_,rfl⟩;rw [← hth];have HTD:=hid hth;clear hb7 hth hp q0 q1 q2 q14 qz s0 s1 s2 sz l0 lz o0 oz HTC heq d2;cases th
             case true=>
              have HOF:=hid (HYES.out.trans (by rw [addP,if_pos (Zpi HTD.out.symm)]));(gi_wp2_with fail);have hI:=HI.out;subst hI;refine ⟨KeepsFrom.of_fr (Fr.of_new (M:=fun _=>False) HB7.out) (fun _ h=>h.elim) _,HQ.out.below _ _ (HWB.out.trans (HB7.out.mono HR3.out.bel.size)),A,c,?_,HG3.out.new_ HB7.out,HS3.out.new_ HB7.out,HM3.out.new_ HB7.out,Zod HZ3.out HB7.out.size⟩;rw [HOF.out];exact HR7.out
             have HOF:=hid (show addP o x=o ++ [x] by rw [addP,if_neg (Zpp HTD.out.symm)]);have o0:=HR7.out.ob.c1;have oz:=HR7.out.ob.lt;have hp:=HK7.out.range;obtain ⟨W8,hW8⟩ : ∃W,W=W7.alloc (.cells #[.int .i64 x.id.kind,.string x.id.text,.int .i64 x.id.n,.int .i64 x.attr.kind,.string x.attr.text,.int .i64 x.attr.n,.int .i64 x.value.kind,.string x.value.text,.int .i64 x.value.n,.int .i64 x.other.kind,.string x.other.text,.int .i64 x.other.n,.int .i64 x.kind,.bool x.o,.int .i64 x.level,.int .i64 x.by_] 68):=⟨_,rfl⟩;have HW8:=hid hW8;(have hb8:Below W7.heap.size W7 W8:=by rw [hW8];exact (Znz _ _).alloc (Zo0 _) _);have HR8:=hid (HR7.out.new_ hb8);have HB8:=hid hb8;have HN8:=hid (show 0<1→∃ad,(some (⟨W7.heap.size,0,none⟩:Addr))=some ad∧∀j u,([x].flatMap Z04.cells)[j]? = some u→W8.cell? (ad.add j)=some u from fun _=>⟨_,rfl,by rw [hW8];exact Zok (heap_alloc_new _ _)⟩);clear hW8 hb8
             gi_wp2_with (first
              | (with_reducible refine Z3f rfl 68 _ rfl W.heap.size 0 rfl _ _ hp Tryz.underlying68 rfl (by kernel_rfl) ?_)
              | (gi_at_builtin;rw [← HW8.out];refine Z3k W8 rfl (.tmp 105) (.tmp 107) 29 rfl 68 i0 _ 16 160 Tryz.underlying29 hi0 hz0 hz1 hz2 rfl (by omega) (.slice A o.length c) o.length (o.flatMap Z04.cells) rfl HR8.out.own (some ⟨W7.heap.size,0,none⟩) 1 1 ([x].flatMap Z04.cells) rfl rfl HN8.out (Zby _) (by unfold maxLen;omega) (by omega) ?_;intro v3 Y hown1 hg1 hnil1 hat1;obtain ⟨A9,c9,rfl,hobY,hr9,hF9,hM9⟩:=HR8.out.more hown1 hg1 hat1;obtain ⟨on,hon⟩ : ∃on,on=o ++ [x]:=⟨_,rfl⟩;rw [← hon] at hr9 hF9 ⊢;have HON:=hid hon;have HR9:=hid hr9;have HF9:=hid hF9;have HM9:=hid hM9;have oy0:=hobY.c1;have oyf:=hobY.frozen 0;have oyz:=hobY.lt;clear hown1 hg1 hnil1 hat1 hobY hr9 hF9 hM9 hon))
             have hI:=HI.out;subst hI;have hF:=(Fr.of_new (M:=LrM bo A) HB7.out).trans ((Fr.of_new HB8.out).trans HF9.out);have hfb:Below X.heap.size W3 _:=hF.below HR3.out.bel.size (fun k hk hm=>by have:=HR3.out.geM k hm;omega);refine ⟨KeepsFrom.of_fr hF (fun k hk _=>HR3.out.cells k hk) _,HQ.out.below _ _ (HWB.out.trans hfb),A9,c9,?_,HG3.out.off HR3.out hF,HS3.out.fr hF (HR3.out.neB HS3.out),HM3.out.at_ hF (fun k hk _=>HR3.out.cells k hk),Zod HZ3.out hF.size⟩;rw [HYES.out,HOF.out,← HON.out];exact HR9.out
           · intro Dd W hDd hIW hK
             subst hI4;obtain ⟨A,c,g1,g2,g3,g4,g5⟩:=hIW;have HM8:=hid (show Z33 (X.heap.size≤·) ({ target:=.collected Dd,args:=#[] } :: ds) W from g4.cons (fun k hk=>hk.1) (show X.heap.size≤Dd by omega) hK (fun h=>by have:=h.2;omega));have HR8:=hid g1;have HG8:=hid g2;clear g1 g2 g3 g4 g5 hK;(gi_wp2_with fail);refine ⟨HKJ.out _ (k+1) A c sn7 A7 c7 _ _ (by omega) (by rw [HSO.out];exact HR8.out) (by rw [HSO.out];exact HG8.out) HM8.out (by rfl),by simp [intOf];omega⟩
           · intro Dd c pre post W _ _ h
             exact h.elim
      · skip
        (obtain rfl:k=2:=by omega);(have jz : ¬((2:Nat):Int)<(2:Int):=by omega);have HRN:=hid (show RunR of lv l all (i+1) sk by rw [HSK.out,Ziu];exact .step HRUN.out HYE.out);have v1:IntKind.i64.wrap ((i:Int)+1)=(i:Int)+1:=Zof _ (by omega)
        have HLE:=hid (show i+1≤sk.1.length by
         have:=(Zoh.1 (Z8v (of:=of) (lv:=lv) (all:=all) (p:=y) HYE.out 2)).1
         rw [HSK.out];omega)
        clear hlt3 hk2;(gi_wp2_with fail);refine ⟨HKI.out _ (i+1) sk A c sn Ag cg ds _ HRN.out HLE.out HR.out HG.out HM.out (by rfl),by simp [intOf];omega⟩
    · skip
      have HEND:=hid (show EndR of lv l all st.1 from ⟨i,st.2,HRUN.out,by omega⟩);(have jz : ¬(i:Int)<(st.1.length:Int):=by omega);clear hlt;(gi_wp2_with fail);refine Z6q _ _ HM.out (fun w' hp=>?_);exact ⟨_,results_tmp rfl _ _ _,st.1,A,c,HEND.out,hbound,rfl,Z0d Z04.cells_length (Z1z HR.out.own hp),HR.out.ain,Below.priv' HR.out.bel hp (Zo0 _) HR.out.bel.size⟩
def Znq (n most:Int) (w:World) (e:Ending) (w':World):Prop:=∃b,e = .returned (.bool b)∧(b=true→n≤most)∧Below w.heap.size w w'
theorem Z9m (A:Option Addr) (c:Nat) (l:List Z04) (most:Int) (w:World) (h:Z0p w 16 Z04.cells A c l) :
 Calls Tryz.prog 49 #[.slice A l.length c,.int .i64 most] w (Znq l.length most w):=by
 have HR:=hid h;have hlc:=h.cap;clear h;by_cases hm:most<(l.length:Int)
 · have d0:decide (most<(l.length:Int))=true:=by simpa using hm
   clear hm;go_enter Tryz.func49,Tryz.ntmps49;(go_wp2_with fail);go_ret;exact ⟨false,rfl,fun h=>(by cases h),Znz _ _⟩
 (have d0:decide (most<(l.length:Int))=false:=by simpa using hm);have HM:=hid (show (l.length:Int)≤most by omega);clear hm;go_enter Tryz.func49,Tryz.ntmps49;go_wp2_with fail
 go_loopw [5] (fun s wr=>∃i:Nat,s = .int .i64 (i:Int)∧i≤l.length∧Below w.heap.size w wr) (fun s wr=>l.length - (intOf s).toNat)
 case atStart=>exact ⟨0,rfl,Nat.zero_le _,Znz _ _⟩
 case round=>
  obtain ⟨i,rfl,hi,hB⟩:=hrel;have HB:=hid hB;clear hB;by_cases hlt:i<l.length
  · obtain ⟨y,hy⟩ : ∃y,y=l[i]:=⟨_,rfl⟩
    obtain ⟨g,off,hAA,hgl,hrg⟩:=(HR.out.new_ HB.out).range hlt;rw [← hy] at hrg;subst hAA;have HRG:=hid (show wr.rangeAt g (off+i*16) [.int .i64 y.id.kind,.string y.id.text,.int .i64 y.id.n,.int .i64 y.attr.kind,.string y.attr.text,.int .i64 y.attr.n,.int .i64 y.value.kind,.string y.value.text,.int .i64 y.value.n,.int .i64 y.other.kind,.string y.other.text,.int .i64 y.other.n,.int .i64 y.kind,.bool y.o,.int .i64 y.level,.int .i64 y.by_] from hrg);obtain ⟨W5,hW5,hth,hrg5,hb5,hz5⟩:=Z88 (w:=wr) (t:=68) [.int .i64 0,.string ⟨#[]⟩,.int .i64 0,.int .i64 0,.string ⟨#[]⟩,.int .i64 0,.int .i64 0,.string ⟨#[]⟩,.int .i64 0,.int .i64 0,.string ⟨#[]⟩,.int .i64 0,.int .i64 0,.bool false,.int .i64 0,.int .i64 0] [.int .i64 y.id.kind,.string y.id.text,.int .i64 y.id.n,.int .i64 y.attr.kind,.string y.attr.text,.int .i64 y.attr.n,.int .i64 y.value.kind,.string y.value.text,.int .i64 y.value.n,.int .i64 y.other.kind,.string y.other.text,.int .i64 y.other.n,.int .i64 y.kind,.bool y.o,.int .i64 y.level,.int .i64 y.by_] rfl;have HW5:=hid hW5;have HTH:=hid hth;have HB5:=hid (HB.out.trans (hb5.mono HB.out.size));have q1:W5.cell? ⟨wr.heap.size,1,none⟩=some (.string y.id.text):=hrg5 1 _ rfl;have q4:W5.cell? ⟨wr.heap.size,4,none⟩=some (.string y.attr.text):=hrg5 4 _ rfl;have q7:W5.cell? ⟨wr.heap.size,7,none⟩=some (.string y.value.text):=hrg5 7 _ rfl;have q10:W5.cell? ⟨wr.heap.size,10,none⟩=some (.string y.other.text):=hrg5 10 _ rfl;(have qz:wr.heap.size<W5.heap.size:=by omega);(have b1:(0:Int)≤(i:Int):=by omega);(have b2:(i:Int)<(l.length:Int):=by omega);have v1:IntKind.i64.wrap ((i:Int)+1)=(i:Int)+1:=Zof _ (by omega);clear hy hrg hW5 hth hrg5 hb5 hz5;obtain ⟨d,hd⟩ : ∃d:Bool,d=(decide ((100:Int)<(y.id.text.size:Int)) || decide ((100:Int)<(y.attr.text.size:Int)) || decide ((100:Int)<(y.value.text.size:Int)) || decide ((100:Int)<(y.other.text.size:Int))):=⟨_,rfl⟩;cases d1:decide ((100:Int)<(y.id.text.size:Int))<;>cases d2:decide ((100:Int)<(y.attr.text.size:Int))<;>cases d3:decide ((100:Int)<(y.value.text.size:Int))<;>cases d4:decide ((100:Int)<(y.other.text.size:Int))
    all_goals
     clear hd
     go_wp2_with (first
      | (with_reducible refine wpList_load_mid rfl 68 _ rfl g (off+i*16) rfl _ _ HRG.out Tryz.underlying68 rfl (by kernel_rfl) ?_)
      | ((with_reducible refine wpList_store_mid rfl 68 _ _ rfl wr.heap.size 0 #[.int .i64 y.id.kind,.string y.id.text,.int .i64 y.id.n,.int .i64 y.attr.kind,.string y.attr.text,.int .i64 y.attr.n,.int .i64 y.value.kind,.string y.value.text,.int .i64 y.value.n,.int .i64 y.other.kind,.string y.other.text,.int .i64 y.other.n,.int .i64 y.kind,.bool y.o,.int .i64 y.level,.int .i64 y.by_] rfl rfl HTH.out (by kernel_rfl) (by kernel_rfl) ?_);rw [← HW5.out]))
     first
      | (go_ret;exact ⟨false,rfl,fun h=>(by cases h),HB5.out⟩)
      | (go_roundw
         case rel=>exact ⟨i+1,by go_num,by omega,HB5.out⟩
         case measure=>simp [intOf]<;>omega)
  · obtain rfl:i=l.length:=by omega
    (have jz : ¬(l.length:Int)<(l.length:Int):=by omega);(go_wp2_with fail);go_ret;exact ⟨true,rfl,fun _=>HM.out,HB.out⟩
theorem Zi7 (kb:Nat) (A:Option Addr) (c:Nat) (W:World) (hb:Blk W kb 29 #[.slice A 0 c]) :
 Iter Tryz.prog 88 #[.pointer (some ⟨kb,0,none⟩)] Z3y [] W (fun X Y=>Y=X) (Zav kb none):=by
 intro lo J Jx _ _ h0 hY;have H0:=hid (h0 W rfl);have HB:=hid hb;clear h0 hY hb;refine callsIn_of_wp Tryz.func88 rfl trivial ?_;simp only [Tryz.ntmps88,Zp6,Zol,Zp3,Nat.reduceAdd,Nat.reduceSub,Zow,Zox,Zp5,Zp0,Zom,Zp1];gi_wp2
 gi_loopw [3] (fun s wr=>s = .int .i64 0∧J [] wr∧Blk wr kb 29 #[.slice A 0 c]) (fun s wr=>0)
 case atStart=>exact ⟨rfl,H0.out,HB.out⟩
 case round=>
  obtain ⟨rfl,hJ,hbk⟩:=hrel;have HJ:=hid hJ;have k0:=hbk.c1;have kz:=hbk.lt;clear hJ hbk;gi_wp2;go_end0;exact ⟨⟨_,rfl⟩,.inl HJ.out⟩
theorem Zas (P:Nat→Prop):AIn none P:=fun a e=>by cases e
theorem Zcb (kb:Nat) (A:Option Addr) (c:Nat) (l:List Z04) (w:World) (hb:Blk w kb 29 #[.slice A l.length c]) (hrd:Z0p w 16 Z04.cells A c l) :
 ∃Kp,Seq 88 #[.pointer (some ⟨kb,0,none⟩)] Z3y l w (fun X Y=>Y=X) Kp:=by
 by_cases hl:l = []
 · subst hl
   exact ⟨Zav kb none,⟨by intro args w;kernel_rfl,fun W hW=>(Zi7 kb A c W (hb.new_ hW)).weak (fun _ _ h=>h.1),fun _ _ _ h k=>⟨h.1.trans k.1,h.2.trans k.2⟩,
    fun _ _ h=>⟨Z0h.of_priv (Zas _) h,Z0h.of_priv (AIn.one hb.lt) h⟩,fun _ _ h=>⟨Z0h.of_below (Zas _) h,Z0h.of_below (AIn.one hb.lt) h⟩,fun _ _ h=>h ▸ Fr.refl _ _⟩⟩
 · obtain ⟨b,off,hA,hlt,_⟩:=hrd.2.2 (List.length_pos_iff.2 hl)
   exact ⟨_,Zdu kb A c l w hb hrd (fun a ha=>by rw [hA] at ha;injection ha with ha;subst ha;exact hlt)⟩
theorem Zfd (A:Option Addr) (c n:Nat) (w:World) :
 Calls Tryz.prog 52 #[.slice A n c] w fun e w'=>e = .returned (.func (.func 87) #[] #[.pointer (some ⟨w.heap.size,0,none⟩)])∧Below w.heap.size w w'∧Blk w' w.heap.size 102 #[.slice A n c]:=by
 go_enter Tryz.func52,Tryz.ntmps52;go_wp2;go_ret;exact ⟨rfl,(Znz _ _).alloc (Zo0 _) _,Blk.new _ _ _⟩
theorem Zmg (kb:Nat) (A:Option Addr) (c:Nat) (l:List LevT) (w:World) (hb:Blk w kb 102 #[.slice A l.length c]) (h:Z0p w 4 LevT.cells A c l):LvOk 87 #[.pointer (some ⟨kb,0,none⟩)] w (lvO l):=
 ⟨by intro args W;kernel_rfl,fun s W hW=>Znd kb A c l s W (hb.new_ hW) (h.new_ hW)⟩
end
section
def Z2z (of:Sym→Int) (lv:Int) (o:List Z04):Prop:=∀(j:Nat) (p:Z04),o[j]? = some p→Z2k lv (of p.id)=true∨∃(k:Nat) (q:Z04),k<j∧o[k]? = some q∧(q.value=p.id∨q.other=p.id)
def SrcR (o:List Z04) (s:Sym):Prop:=∃(k:Nat) (q:Z04),o[k]? = some q∧(q.value=s∨q.other=s)
theorem Zdx {o:List Z04} (p:Z04) {k:Nat} {q:Z04} (h:o[k]? = some q):(addP o p)[k]? = some q:=by
 unfold addP
 split
 · exact h
 · rw [Zot (Zoh.1 h).1];exact h
theorem SrcR.add {o:List Z04} {s:Sym} (h:SrcR o s) (p:Z04):SrcR (addP o p) s:=by
 obtain ⟨k,q,h1,h2⟩:=h;exact ⟨k,q,Zdx p h1,h2⟩
theorem Z2z.add {of:Sym→Int} {lv:Int} {o:List Z04} {p:Z04} (h:Z2z of lv o) (hp:Z2k lv (of p.id)=true∨SrcR o p.id):Z2z of lv (addP o p):=by
 unfold addP
 split
 · exact h
 · intro j q hq
   rcases Nat.lt_or_ge j o.length with hj | hj
   · rw [Zot hj] at hq
     rcases h j q hq with h1 | ⟨k,r,h1,h2,h3⟩
     · exact .inl h1
     · exact .inr ⟨k,r,h1,by rw [Zot (Zoh.1 h2).1];exact h2,h3⟩
   · rw [Zp8 hj] at hq
     have hz:j - o.length=0:=by
      have:=(Zoh.1 hq).1;simp at this;omega
     rw [hz] at hq;simp at hq;subst hq;rcases hp with h1 | ⟨k,r,h1,h2⟩
     · exact .inl h1
     · have hk:=(Zoh.1 h1).1
       exact .inr ⟨k,r,by omega,by rw [Zot hk];exact h1,h2⟩
theorem Z2z.first {of:Sym→Int} {lv:Int} : ∀{m o:List Z04},Z2z of lv o→Z2z of lv (Z2t of lv o m)
 | [],_,h=>h
 | p :: m,o,h=>by
   show Z2z of lv (Z2t of lv (if Z2k lv (of p.id)=true then addP o p else o) m);refine Z2z.first ?_
   split
   · rename_i hg;exact h.add (.inl hg)
   · exact h
theorem Z2z.more {of:Sym→Int} {lv:Int} {s:Sym} : ∀{m o:List Z04},Z2z of lv o→SrcR o s→Z2z of lv (Z5j s lv o m)
 | [],_,h,_=>h
 | p :: m,o,h,hs=>by
   show Z2z of lv (Z5j s lv (if p.id=s∧p.level≤lv then addP o p else o) m)
   split
   · rename_i hg;exact Z2z.more (h.add (.inr (by rw [hg.1];exact hs))) (hs.add p)
   · exact Z2z.more h hs
theorem Z8m {s:Sym} {lv:Int} : ∀{m o:List Z04} {k:Nat} {q:Z04},o[k]? = some q→(Z5j s lv o m)[k]? = some q
 | [],_,_,_,h=>h
 | p :: m,o,k,q,h=>by
   show (Z5j s lv (if p.id=s∧p.level≤lv then addP o p else o) m)[k]? = some q
   split
   · exact Z8m (Zdx p h)
   · exact Z8m h
theorem Z8w {of:Sym→Int} {lv:Int} {all:List Z04} {st:List Z04×List Sym} {s:Sym} {k:Nat} {q:Z04} (h:st.1[k]? = some q):(stepS of lv all st s).1[k]? = some q:=by
 unfold stepS
 split
 · exact Z8m h
 · exact h
theorem Z2z.stepS {of:Sym→Int} {lv:Int} {all:List Z04} {st:List Z04×List Sym} {s:Sym} (h:Z2z of lv st.1) (hs:SrcR st.1 s):Z2z of lv (stepS of lv all st s).1:=by
 unfold Go.Proofs.YtldndkngpdfpfaaGreat.stepS
 split
 · exact h.more hs
 · exact h
theorem Zin {of:Sym→Int} {lv:Int} {l all:List Z04} {i:Nat} {st:List Z04×List Sym} (h:RunR of lv l all i st):Z2z of lv st.1:=by
 induction h with
 | start=>exact Z2z.first (fun j p hj=>by simp at hj)
 | step _ h2 ih=>
   rename_i k st p _;exact (ih.stepS ⟨k,p,h2,.inl rfl⟩).stepS ⟨k,p,Z8w h2,.inr rfl⟩
theorem Z99 {of:Sym→Int} {lv:Int} : ∀{m o:List Z04},Z2t of lv o m = []→o = []∧∀p∈m,Z2k lv (of p.id)=false
 | [],o,h=>⟨h,fun p hp=>by cases hp⟩
 | p :: m,o,h=>by
   have h2:Z2t of lv (if Z2k lv (of p.id)=true then addP o p else o) m = []:=h;obtain ⟨h3,h4⟩:=Z99 h2
   split at h3
   · exfalso
     unfold addP at h3
     split at h3
     · rename_i hm;rw [h3] at hm;cases hm
     · simp at h3
   · rename_i hg
     refine ⟨h3,fun q hq=>?_⟩;rcases Zoj.1 hq with rfl | hq
     · simpa using hg
     · exact h4 q hq
theorem Z8f {of:Sym→Int} {lv:Int} : ∀{m:List Z04},(∀p∈m,Z2k lv (of p.id)=false)→Z2t of lv [] m = []
 | [],_=>rfl
 | p :: m,h=>by
   show Z2t of lv (if Z2k lv (of p.id)=true then addP [] p else []) m = [];rw [if_neg (by rw [h p Zpl];simp)];exact Z8f (fun q hq=>h q (Zpk _ hq))
theorem Zl8 {of:Sym→Int} {lv:Int} {l all:List Z04} {i:Nat} {st:List Z04×List Sym} (h:RunR of lv l all i st) : ∀{k:Nat} {q:Z04},(Z2t of lv [] l)[k]? = some q→st.1[k]? = some q:=by
 induction h with
 | start=>exact fun h=>h
 | step _ _ ih=>exact fun h=>Z8w (Z8w (ih h))
theorem Zjy {of:Sym→Int} {lv:Int} {l all r:List Z04} (h:EndR of lv l all r):(l.any fun p=>Z2k lv (of p.id))=decide (0<r.length):=by
 obtain ⟨i,gone,hr,hi⟩:=h;rw [Bool.eq_iff_iff,Zpg,Zph];constructor
 · rintro ⟨p,hp,hg⟩
   have hn:Z2t of lv [] l≠[]:=fun h0=>by
    have:=(Z99 h0).2 p hp;rw [hg] at this;cases this
   obtain ⟨q,t,e⟩:=List.exists_cons_of_ne_nil hn;have:=Zl8 hr (k:=0) (q:=q) (by rw [e];rfl);exact (Zoh.1 this).1
 · intro h0
   refine Zp9 fun hn=>?_
   have h1:Z2t of lv [] l = []:=Z8f (fun p hp=>by
    cases hg:Z2k lv (of p.id) with
    | false=>rfl
    | true=>exact absurd ⟨p,hp,hg⟩ hn)
   have h2 : ∀{i st},RunR of lv l all i st→st.1 = []:=fun {i st} h=>by
    induction h with
    | start=>exact h1
    | step _ g2 ih=>rw [ih] at g2;simp at g2
   have:=h2 hr;simp only at this;rw [this] at h0;simp at h0
end
section
open Go.RowKit Go.Shelf
attribute [local go_sem] Oper.semAt_some
set_option linter.unusedSimpArgs false
theorem Z6g {α:Type} {g:Operand} {ps:Array Tmp} {assign body:Code} {Q:Exit→Act→World→Prop} {a:Act} {w:World} {gf:Nat} {lb:Array Value} {encs:α→Array Value} {Kp:World→World→Prop} (hg:a.eval g = .func (.func gf) #[] lb) (hq:Seq gf lb encs [] w (fun X Y=>Y=X) Kp) (hps : ∀x,(encs x).size=ps.size)
 (hdone : ∀(D:Nat) (W:World),w.heap.size≤D→Below w.heap.size w W→W.heap[D]? = some (.deferred (some []))→Q .normal { a with defers:={ target:=.collected D,args:=#[] } :: a.defers } W) :
 (Code.rangeFunc g ps assign body).wpIn Fence.wide 0 Tryz.prog Q a w:=by
 refine Z9q (w:=w) hg hq.enter hq.iter hps hq.trans hq.keep (fun W W1 h=>Z22 (hq.mods W W1 h)) (fun p W=>Below w.heap.size w W) (fun _ _ _=>False) ?_ (fun _ _ _ _ h=>h.elim) ?_ ?_ ?_ ?_
 · intro p X Y h hp;exact Below.priv' h hp (Zo0 _) h.size
 · intro W W1 hW hs;subst hs;exact hW
 · intro l pre x post W hx;simp at hx
 · exact fun D W h1 h2 h3=>hdone D W h1 h2 h3
 · intro D c pre post W _ _ h;exact h.elim
theorem Zhx {gf:Nat} {lb:Array Value} {Kp:World→World→Prop} (w:World) (hq:Seq gf lb Zb7 [] w (fun X Y=>Y=X) Kp) :
 Calls Tryz.prog 46 #[.func (.func gf) #[] lb] w fun e w'=>e = .returned (.string (Z6m 1))∧Below w.heap.size w w':=by
 have HQ:=hid hq;clear hq;refine (callsIn_wide (n:=0)).1 ?_;refine callsIn_of_wp_marks Tryz.func46 rfl trivial ?_;simp only [Tryz.ntmps46,Zp6,Zol,Zp3,Nat.reduceAdd,Nat.reduceSub,Zow,Zox,Zp5,Zp0,Zom,Zp1];(gi_wp2_with fail);refine ⟨trivial,rfl,?_⟩;refine (callsIn_wide.2 (Zi5 none 0 [] _ (Z0p.nil _ _ _) (by simp))).mono ?_;rintro e w1 ⟨bp,rfl,hbp,sn,A,c,hS,hA,hB⟩;have HS:=hid hS;have HB:=hid hB;clear hS hA hB;(gi_wp2_with fail);obtain ⟨w3,hw3⟩ : ∃W,W=w1.alloc (.cells #[.pointer (some ⟨bp,0,none⟩)] 156):=⟨_,rfl⟩;obtain ⟨bb,hbb⟩ : ∃b,b=w1.heap.size:=⟨_,rfl⟩;have KB:=hid (show Blk w3 bb 156 #[.pointer (some ⟨bp,0,none⟩)] by rw [hw3,hbb];exact Blk.new _ _ _);(have hb3:Below w1.heap.size w1 w3:=by rw [hw3];exact (Znz _ _).alloc (Zo0 _) _);have HB3:=hid (HB.out.trans (hb3.mono HB.out.size));have HS:=hid (HS.out.new_ hb3);rw [← hw3,← hbb];clear hw3 hbb hb3;refine Z6g (by rfl) (HQ.out.new_ HB3.out) (fun x=>by rfl) (fun Dd W hDd hbw hK=>?_);have HB1:=hid (HB3.out.trans (hbw.mono HB3.out.size));have S1:=hid (HS.out.new_ hbw);have K1:=hid (KB.out.new_ hbw);have HK:=hid hK;have HDd:=hid (Zod HB3.out.size hDd);clear hbw hK hDd;gi_wp2_with fail
 gi_loopw [5] (fun s wr=>s = .int .i64 1∧Below W.heap.size W wr) (fun s wr=>0)
 case atStart=>exact ⟨rfl,Znz _ _⟩
 case round=>
  obtain ⟨rfl,hbw⟩:=hrel;have HBW:=hid hbw;clear hbw;obtain ⟨dg,hdg⟩ : ∃d,d=decB 1:=⟨_,rfl⟩;have HD:=hid (show ∀W,Calls Tryz.prog 81 #[.int .i64 1] W fun e w'=>e = .returned (.string dg)∧Below W.heap.size W w' from fun W=>by rw [hdg];exact Zfb 1 (by omega) W);(have hds : ¬9223372036854775807<6+dg.size:=by have:=Z6n (n:=1) (by omega);rw [← hdg] at this;omega);have HDG:=hid hdg;clear hdg;(gi_wp2_with fail);refine ⟨trivial,rfl,?_⟩;refine (callsIn_wide.2 (HD.out _)).mono ?_;rintro e w5 ⟨rfl,hb5⟩;have HBW:=hid (HBW.out.trans (hb5.mono HBW.out.size));have S5:=hid (S1.out.new_ HBW.out);have b0:=(K1.out.new_ HBW.out).c1;have bz:=(K1.out.new_ HBW.out).lt;clear hb5;(gi_wp2_with fail);refine ⟨trivial,rfl,?_⟩;refine (callsIn_wide.2 (Zdg bp c sn A [] ((⟨#[99,104,117,110,107,45]⟩:ByteArray)++dg) w5 S5.out Srt.nil (by simp))).mono ?_;rintro e w6 ⟨rfl,hb6⟩;have HBW:=hid (HBW.out.trans (hb6.mono HBW.out.size));have HCH:=hid (show Z6m 1=⟨#[99,104,117,110,107,45]⟩++dg by rw [HDG.out];rfl);rw [show has Z0w [] ((⟨#[99,104,117,110,107,45]⟩:ByteArray)++dg)=false from rfl];clear hb6 b0 bz;have HKW:=hid ((HBW.out.block Dd (Zob.1 HK.out).1).trans HK.out);(gi_wp2_with fail);refine ⟨by simp,.inl ⟨_,_,rfl,run_takeDeferred HKW.out,?_⟩⟩;have hpv:Priv w.heap.size w6 (w6.putObj Dd (.deferred none)):=(Priv.refl _ _).putObj HDd.out HKW.out rfl _;exact ⟨_,results_tmp rfl _ _ _,by rw [HCH.out]<;>rfl,Below.priv' (HB1.out.trans (HBW.out.mono HB1.out.size)) hpv (Zo0 _) (Zod HB1.out.size HBW.out.size)⟩
end
end Go.Proofs.YtldndkngpdfpfaaGreat
