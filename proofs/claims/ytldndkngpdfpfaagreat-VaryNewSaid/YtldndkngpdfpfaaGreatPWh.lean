/-
  Texts put together: SymWord, SymDigits, SymValid, Scal, LeafName, ShapePlain, VaryP3, VaryN5.
-/
import Derived.Test.YtldndkngpdfpfaaGreatPWb
import Derived.Deep.Cut
import Derived.Test.YtldndkngpdfpfaaGreatPWd
import Derived.Lib.SlBytesRow
import Derived.Test.YtldndkngpdfpfaaGreatPWa
import Derived.Test.YtldndkngpdfpfaaGreatPWc
import Derived.IntWalk
import Derived.Maps.RangeWalk
namespace Go.Proofs.YtldndkngpdfpfaaGreat
open Go.RowKit
def smallB (c:UInt8):Bool:=decide (97≤c.toNat) && decide (c.toNat≤122)
def greatB (c:UInt8):Bool:=decide (65≤c.toNat) && decide (c.toNat≤90)
def digitB (c:UInt8):Bool:=decide (48≤c.toNat) && decide (c.toNat≤57)
def partB (c:UInt8):Bool:=smallB c || digitB c || c.toNat == 45 || c.toNat == 95
def isWord (t:ByteArray):Bool:=decide (1≤t.size) && decide (t.size≤32) && t.data.toList.head?.any smallB && t.data.toList.all partB
theorem isWord_iff {t:ByteArray}:isWord t=true↔∃h:0<t.size,t.size≤32∧smallB t[0]=true∧∀k,(h:k<t.size)→partB t[k]=true:=by
 unfold isWord
 rw [Bool.and_eq_true,Bool.and_eq_true,Bool.and_eq_true,decide_eq_true_iff,decide_eq_true_iff,List.all_eq_true]
 have hs:t.data.toList.length=t.size:=Array.length_toList
 constructor
 · rintro ⟨⟨⟨h1,h2⟩,h3⟩,h4⟩
   refine ⟨h1,h2,?_,fun k h=>h4 _ ?_⟩
   · rw [List.head?_eq_getElem?,List.getElem?_eq_getElem (by omega)] at h3
     exact (by simpa only [Option.any_some,Array.getElem_toList] using h3:smallB t.data[0]=true)
   · have:t[k]=t.data.toList[k]'(by omega):=by rw [Array.getElem_toList];rfl
     rw [this];exact List.getElem_mem _
 · rintro ⟨h1,h2,h3,h4⟩
   refine ⟨⟨⟨h1,h2⟩,?_⟩,fun x hx=>?_⟩
   · rw [List.head?_eq_getElem?,List.getElem?_eq_getElem (by omega)]
     rw [Option.any_some,Array.getElem_toList]
     exact h3
   · obtain ⟨k,hk,rfl⟩:=List.getElem_of_mem hx
     have:=h4 k (by omega)
     rw [Array.getElem_toList]
     exact this
theorem isWord_no {t:ByteArray} (h : ¬∃h:0<t.size,t.size≤32∧smallB t[0]=true∧∀k,(h:k<t.size)→partB t[k]=true):isWord t=false:=by
 cases e:isWord t
 · rfl
 · exact absurd (isWord_iff.1 e) h
set_option maxHeartbeats 400000 in
theorem small_is (c:UInt8) (w:World):Calls Tryz.prog 191 #[.int .u8 (c.toNat:Int)] w fun e w'=>e = .returned (.bool (smallB c))∧w=w':=by
 by_cases h1:97≤c.toNat
 · have t1:decide ((97:Int)≤(c.toNat:Int))=true:=by simp;omega
   by_cases h2:c.toNat≤122
   · have t2:decide ((c.toNat:Int)≤122)=true:=by simp;omega
     have HF:Hid (smallB c=true):=by simp [Hid,smallB,h1,h2]
     clear h1 h2
     go_enter Tryz.func191,Tryz.ntmps191
     go_wp2
     go_ret
     exact ⟨by rw [HF.out];rfl,rfl⟩
   · have t2:decide ((c.toNat:Int)≤122)=false:=by simp;omega
     have HF:Hid (smallB c=false):=by simp [Hid,smallB,h2]
     clear h1 h2
     go_enter Tryz.func191,Tryz.ntmps191
     go_wp2
     go_ret
     exact ⟨by rw [HF.out];rfl,rfl⟩
 · have t1:decide ((97:Int)≤(c.toNat:Int))=false:=by simp;omega
   have HF:Hid (smallB c=false):=by simp [Hid,smallB,h1]
   clear h1
   go_enter Tryz.func191,Tryz.ntmps191
   go_wp2
   go_ret
   exact ⟨by rw [HF.out];rfl,rfl⟩
set_option maxHeartbeats 400000 in
theorem great_is (c:UInt8) (w:World):Calls Tryz.prog 253 #[.int .u8 (c.toNat:Int)] w fun e w'=>e = .returned (.bool (greatB c))∧w=w':=by
 by_cases h1:65≤c.toNat
 · have t1:decide ((65:Int)≤(c.toNat:Int))=true:=by simp;omega
   by_cases h2:c.toNat≤90
   · have t2:decide ((c.toNat:Int)≤90)=true:=by simp;omega
     have HF:Hid (greatB c=true):=by simp [Hid,greatB,h1,h2]
     clear h1 h2
     go_enter Tryz.func253,Tryz.ntmps253
     go_wp2
     go_ret
     exact ⟨by rw [HF.out];rfl,rfl⟩
   · have t2:decide ((c.toNat:Int)≤90)=false:=by simp;omega
     have HF:Hid (greatB c=false):=by simp [Hid,greatB,h2]
     clear h1 h2
     go_enter Tryz.func253,Tryz.ntmps253
     go_wp2
     go_ret
     exact ⟨by rw [HF.out];rfl,rfl⟩
 · have t1:decide ((65:Int)≤(c.toNat:Int))=false:=by simp;omega
   have HF:Hid (greatB c=false):=by simp [Hid,greatB,h1]
   clear h1
   go_enter Tryz.func253,Tryz.ntmps253
   go_wp2
   go_ret
   exact ⟨by rw [HF.out];rfl,rfl⟩
set_option maxHeartbeats 400000 in
theorem digit_is (c:UInt8) (w:World):Calls Tryz.prog 192 #[.int .u8 (c.toNat:Int)] w fun e w'=>e = .returned (.bool (digitB c))∧w=w':=by
 by_cases h1:48≤c.toNat
 · have t1:decide ((48:Int)≤(c.toNat:Int))=true:=by simp;omega
   by_cases h2:c.toNat≤57
   · have t2:decide ((c.toNat:Int)≤57)=true:=by simp;omega
     have HF:Hid (digitB c=true):=by simp [Hid,digitB,h1,h2]
     clear h1 h2
     go_enter Tryz.func192,Tryz.ntmps192
     go_wp2
     go_ret
     exact ⟨by rw [HF.out];rfl,rfl⟩
   · have t2:decide ((c.toNat:Int)≤57)=false:=by simp;omega
     have HF:Hid (digitB c=false):=by simp [Hid,digitB,h2]
     clear h1 h2
     go_enter Tryz.func192,Tryz.ntmps192
     go_wp2
     go_ret
     exact ⟨by rw [HF.out];rfl,rfl⟩
 · have t1:decide ((48:Int)≤(c.toNat:Int))=false:=by simp;omega
   have HF:Hid (digitB c=false):=by simp [Hid,digitB,h1]
   clear h1
   go_enter Tryz.func192,Tryz.ntmps192
   go_wp2
   go_ret
   exact ⟨by rw [HF.out];rfl,rfl⟩
set_option maxHeartbeats 1000000 in
theorem part_is (c:UInt8) (w:World):Calls Tryz.prog 182 #[.int .u8 (c.toNat:Int)] w fun e w'=>e = .returned (.bool (partB c))∧w=w':=by
 have HF:Hid (partB c=(((decide (97≤c.toNat) && decide (c.toNat≤122)) || (decide (48≤c.toNat) && decide (c.toNat≤57))) || decide (c.toNat=45) || decide (c.toNat=95))):=rfl
 have t1:decide ((97:Int)≤(c.toNat:Int))=decide (97≤c.toNat):=by apply decide_eq_decide.2;omega
 have t2:decide ((c.toNat:Int)≤122)=decide (c.toNat≤122):=by apply decide_eq_decide.2;omega
 have t3:decide ((48:Int)≤(c.toNat:Int))=decide (48≤c.toNat):=by apply decide_eq_decide.2;omega
 have t4:decide ((c.toNat:Int)≤57)=decide (c.toNat≤57):=by apply decide_eq_decide.2;omega
 have t5:((c.toNat:Int) == 45)=decide (c.toNat=45):=by rw [Bool.eq_iff_iff];simp;omega
 have t6:((c.toNat:Int) == 95)=decide (c.toNat=95):=by rw [Bool.eq_iff_iff];simp;omega
 cases h1:decide (97≤c.toNat)<;>cases h2:decide (c.toNat≤122)<;>cases h3:decide (48≤c.toNat)<;>cases h4:decide (c.toNat≤57)<;>cases h5:decide (c.toNat=45)<;>cases h6:decide (c.toNat=95)
 all_goals
  rw [h1] at t1;rw [h2] at t2;rw [h3] at t3;rw [h4] at t4;rw [h5] at t5;rw [h6] at t6
  have HF2:=HF.out
  rw [h1,h2,h3,h4,h5,h6] at HF2
  have HF3:=Lib.hid HF2
  clear h1 h2 h3 h4 h5 h6 HF HF2
  go_enter Tryz.func182,Tryz.ntmps182
  go_wp2
  go_ret
  exact ⟨by rw [HF3.out];rfl,rfl⟩
set_option maxRecDepth 100000 in
set_option maxHeartbeats 2000000 in
theorem word_is (t:ByteArray) (w:World):Calls Tryz.prog 154 #[.string t] w fun e w'=>e = .returned (.bool (isWord t))∧w=w':=by
 by_cases h1:t.size<1
 · have t1:decide ((t.size:Int)<1)=true:=by simp;omega
   have HF:=Lib.hid (isWord_no (t:=t) (fun ⟨h,_⟩=>by omega))
   clear h1
   go_enter Tryz.func154,Tryz.ntmps154
   go_wp2
   go_ret
   exact ⟨by rw [HF.out];rfl,rfl⟩
 have t1:decide ((t.size:Int)<1)=false:=by simp;omega
 by_cases h2:32<t.size
 · have t2:decide ((32:Int)<(t.size:Int))=true:=by simp;omega
   have HF:=Lib.hid (isWord_no (t:=t) (fun ⟨h,h3,_⟩=>by omega))
   clear h1 h2
   go_enter Tryz.func154,Tryz.ntmps154
   go_wp2
   go_ret
   exact ⟨by rw [HF.out];rfl,rfl⟩
 have t2:decide ((32:Int)<(t.size:Int))=false:=by simp;omega
 have h0:0<t.size:=by omega
 have h32:t.size≤32:=by omega
 clear h1 h2
 cases h3:smallB t[0]
 · have HF:=Lib.hid (isWord_no (t:=t) (fun ⟨h,_,h4,_⟩=>by rw [h3] at h4;cases h4))
   go_enter Tryz.func154,Tryz.ntmps154
   go_wp2_with (go_at_call 191;refine (small_is _ _).mono ?_;rintro e w' ⟨rfl,rfl⟩)
   go_ret
   exact ⟨by rw [HF.out];rfl,rfl⟩
 go_enter Tryz.func154,Tryz.ntmps154
 go_wp2_with (go_at_call 191;refine (small_is _ _).mono ?_;rintro e w' ⟨rfl,rfl⟩)
 have H3:=Lib.hid h3
 clear h3 t1 t2
 go_loop [3] (fun s=>∃i:Nat,s = .int .i64 i∧1≤i∧i≤t.size∧∀k,(h:k<t.size)→k<i→partB t[k]=true) (fun s=>t.size - (intOf s).toNat)
 case atStart=>exact ⟨1,rfl,Nat.le_refl _,h0,fun k h hk=>by obtain rfl:k=0:=by omega
                                                            simp [partB,H3.out]⟩
 case round=>
  obtain ⟨i,rfl,hi1,hi,hall⟩:=hrel
  have HALL:=Lib.hid hall
  clear hall
  by_cases hlt:i<t.size
  · have HP:Hid (partB t[i]=(smallB t[i] || digitB t[i] || decide (t[i].toNat=45) || decide (t[i].toNat=95))):=rfl
    have t5:((t[i].toNat:Int) != 45) = !decide (t[i].toNat=45):=by rw [Bool.eq_iff_iff];simp;omega
    have t6:((t[i].toNat:Int) != 95) = !decide (t[i].toNat=95):=by rw [Bool.eq_iff_iff];simp;omega
    cases hs:smallB t[i]<;>cases hd:digitB t[i]<;>cases h5:decide (t[i].toNat=45)<;>cases h6:decide (t[i].toNat=95)
    all_goals
     rw [h5] at t5;rw [h6] at t6
     simp only [Bool.not_true,Bool.not_false] at t5 t6
     have HF1:=HP.out
     rw [hs,hd,h5,h6] at HF1
     have HF2:=Lib.hid HF1
     clear h5 h6 HP HF1
     go_wp2_with (first | (go_at_call 191;refine (small_is _ _).mono ?_;rintro e w' ⟨rfl,rfl⟩) | (go_at_call 192;refine (digit_is _ _).mono ?_;rintro e w' ⟨rfl,rfl⟩))
     first
      | (go_ret
         refine ⟨?_,rfl⟩
         rw [isWord_no (t:=t) (fun ⟨_,_,_,h⟩=>by have h2:=h i hlt;rw [HF2.out] at h2;exact absurd h2 (by decide))];rfl)
      | (go_round
         case rel=>exact ⟨i+1,by go_num,by omega,by omega,fun k h hk=>by
          rcases Nat.lt_or_ge k i with h3 | h3
          · exact HALL.out k h h3
          · obtain rfl:k=i:=by omega
            rw [HF2.out];rfl⟩
         case measure=>simp [intOf]<;>omega)
  · have hie:i=t.size:=by omega
    subst hie
    go_wp2
    go_ret
    exact ⟨by rw [isWord_iff.2 ⟨h0,h32,H3.out,fun k h=>HALL.out k h h⟩];rfl,rfl⟩
set_option maxRecDepth 100000 in
set_option maxHeartbeats 2000000 in
theorem rword_is (t:ByteArray) (w:World):Calls Tryz.prog 137 #[.string t] w fun e w'=>e = .returned (.bool (isWord t))∧w=w':=by
 by_cases h1:t.size<1
 · have t1:decide ((t.size:Int)<1)=true:=by simp;omega
   have HF:=Lib.hid (isWord_no (t:=t) (fun ⟨h,_⟩=>by omega))
   clear h1
   go_enter Tryz.func137,Tryz.ntmps137
   go_wp2
   go_ret
   exact ⟨by rw [HF.out];rfl,rfl⟩
 have t1:decide ((t.size:Int)<1)=false:=by simp;omega
 by_cases h2:32<t.size
 · have t2:decide ((32:Int)<(t.size:Int))=true:=by simp;omega
   have HF:=Lib.hid (isWord_no (t:=t) (fun ⟨h,h3,_⟩=>by omega))
   clear h1 h2
   go_enter Tryz.func137,Tryz.ntmps137
   go_wp2
   go_ret
   exact ⟨by rw [HF.out];rfl,rfl⟩
 have t2:decide ((32:Int)<(t.size:Int))=false:=by simp;omega
 have h0:0<t.size:=by omega
 have h32:t.size≤32:=by omega
 clear h1 h2
 by_cases h3:t[0].toNat<97
 · have t3:decide ((t[0].toNat:Int)<97)=true:=by simp;omega
   have HF:=Lib.hid (isWord_no (t:=t) (fun ⟨h,_,h4,_⟩=>by simp [smallB] at h4;omega))
   clear h3
   go_enter Tryz.func137,Tryz.ntmps137
   go_wp2
   go_ret
   exact ⟨by rw [HF.out];rfl,rfl⟩
 have t3:decide ((t[0].toNat:Int)<97)=false:=by simp;omega
 by_cases h4:122<t[0].toNat
 · have t4:decide ((122:Int)<(t[0].toNat:Int))=true:=by simp;omega
   have HF:=Lib.hid (isWord_no (t:=t) (fun ⟨h,_,h4,_⟩=>by simp [smallB] at h4;omega))
   clear h3 h4
   go_enter Tryz.func137,Tryz.ntmps137
   go_wp2
   go_ret
   exact ⟨by rw [HF.out];rfl,rfl⟩
 have t4:decide ((122:Int)<(t[0].toNat:Int))=false:=by simp;omega
 have h5:smallB t[0]=true:=by simp [smallB];omega
 have H5:=Lib.hid h5
 clear h3 h4 h5
 go_enter Tryz.func137,Tryz.ntmps137
 go_wp2
 clear t1 t2 t3 t4
 go_loop [3] (fun s=>∃i:Nat,s = .int .i64 i∧i≤t.size∧∀k,(h:k<t.size)→k<i→partB t[k]=true) (fun s=>t.size - (intOf s).toNat)
 case atStart=>exact ⟨0,rfl,Nat.zero_le _,fun k h hk=>by omega⟩
 case round=>
  obtain ⟨i,rfl,hi,hall⟩:=hrel
  have HALL:=Lib.hid hall
  clear hall
  by_cases hlt:i<t.size
  · cases hp:partB t[i]
    · go_wp2_with (go_at_call 182;refine (part_is _ _).mono ?_;rintro e w' ⟨rfl,rfl⟩)
      go_ret
      refine ⟨?_,rfl⟩
      rw [isWord_no (t:=t) (fun ⟨_,_,_,h⟩=>by have h2:=h i hlt;rw [hp] at h2;cases h2)];rfl
    · have HP:=Lib.hid hp
      go_wp2_with (go_at_call 182;refine (part_is _ _).mono ?_;rintro e w' ⟨rfl,rfl⟩)
      go_round
      case rel=>exact ⟨i+1,by go_num,by omega,fun k h hk=>by
              rcases Nat.lt_or_ge k i with h3 | h3
              · exact HALL.out k h h3
              · obtain rfl:k=i:=by omega
                exact HP.out⟩
      case measure=>simp [intOf]<;>omega
  · have hie:i=t.size:=by omega
    subst hie
    go_wp2
    go_ret
    exact ⟨by rw [isWord_iff.2 ⟨h0,h32,H5.out,fun k h=>HALL.out k h h⟩];rfl,rfl⟩
end Go.Proofs.YtldndkngpdfpfaaGreat
namespace Go.Proofs.YtldndkngpdfpfaaGreat
open Go.RowKit
def byte1 (n:Nat):ByteArray:=⟨#[UInt8.ofNat (48+n)]⟩
theorem conv1 (n:Nat) (h:n<10) (W:World) (g:Nat) (hc:W.cell? ⟨g,0,none⟩=some (.int .u8 (48+(n:Int)))):(convert 118 9 (.slice (some ⟨g,0,none⟩) 1 1)).run Tryz.prog W = .ok (.string (byte1 n)) W:=
 Lib.run_convert_whole (P:=Tryz.prog) W 118 5 9 Tryz.underlying118 Tryz.underlying5 Tryz.underlying9 g 0 (byte1 n) (fun i hi=>by
  have:i=0:=by have:(byte1 n).size=1:=rfl;omega
  subst this
  rw [Nat.add_zero,hc]
  have e:(byte1 n)[0].toNat=48+n:=by show (UInt8.ofNat (48+n)).toNat=48+n;simp;omega
  rw [e]
  simp) 1
def decB (n:Nat):ByteArray:=if n<10 then byte1 n else decB (n / 10)++byte1 (n % 10)
theorem byte1_size (n:Nat):(byte1 n).size=1:=rfl
end Go.Proofs.YtldndkngpdfpfaaGreat
namespace Go.Proofs.YtldndkngpdfpfaaGreat
open Go.RowKit
def headB (f:UInt8→Bool) (t:ByteArray):Bool:=t.data.toList.head?.any f
theorem headB_eq {f:UInt8→Bool} {t:ByteArray} (h:0<t.size):headB f t=f t[0]:=by
 have hs:t.data.toList.length=t.size:=Array.length_toList
 unfold headB
 rw [List.head?_eq_getElem?,List.getElem?_eq_getElem (by omega),Option.any_some,Array.getElem_toList]
 rfl
def validB (s:Sym):Bool:=
 if s.kind=1 then decide (s.text.size=1) && headB greatB s.text && decide (1≤s.n) && decide (s.n≤1048576)
 else if s.kind=2 then decide (s.text.toList = []) && decide (-2147483647≤s.n) && decide (s.n≤2147483647)
 else if s.kind=3 then decide (s.n=0) && isWord s.text else false
theorem ret_bool {a b:Bool} (h:a=b):Ending.returned (.bool a) = .returned (.bool b):=by rw [h]
set_option maxRecDepth 100000 in
set_option maxHeartbeats 4000000 in
theorem valid_is (s:Sym) (w:World):Calls Tryz.prog 242 #[.agg #[.int .i64 s.kind,.string s.text,.int .i64 s.n]] w fun e w'=>e = .returned (.bool (validB s))∧Below w.heap.size w w':=by
 obtain ⟨k,t,n⟩:=s
 dsimp only
 by_cases k1:k=1
 · subst k1
   by_cases a1:t.size=1
   · have h0:0<t.size:=by omega
     have t1:((t.size:Int) == 1)=true:=by simp;omega
     have HV:=Lib.hid (show validB ⟨1,t,n⟩=(greatB t[0] && decide (1≤n) && decide (n≤1048576)) by simp [validB,a1,headB_eq h0])
     go_enter Tryz.func242,Tryz.ntmps242
     go_wp2_with (go_at_call 253;refine (great_is _ _).mono ?_;rintro e w' ⟨rfl,rfl⟩)
     all_goals
      go_ret
      refine ⟨?_,(Below.refl _ _).alloc (Nat.le_refl _) _⟩
      rw [HV.out]
      first | rfl | (refine ret_bool ?_;simp_all;done) | (refine ret_bool ?_;simp_all;omega) | (refine ret_bool ?_;simp_all [greatB];done) | (refine ret_bool ?_;simp_all [greatB];omega)
   · have t1:((t.size:Int) == 1)=false:=by simp;omega
     have HV:=Lib.hid (show validB ⟨1,t,n⟩=false by simp [validB,a1])
     go_enter Tryz.func242,Tryz.ntmps242
     go_wp2_with fail
     all_goals
      go_ret
      refine ⟨?_,(Below.refl _ _).alloc (Nat.le_refl _) _⟩
      rw [HV.out]
      rfl
 · by_cases k2:k=2
   · subst k2
     have HV:=Lib.hid (show validB ⟨2,t,n⟩=(decide (t.toList = []) && decide (-2147483647≤n) && decide (n≤2147483647)) by simp [validB])
     clear k1
     go_enter Tryz.func242,Tryz.ntmps242
     go_wp2_with fail
     all_goals
      go_ret
      refine ⟨?_,(Below.refl _ _).alloc (Nat.le_refl _) _⟩
      rw [HV.out]
      first | rfl | (refine ret_bool ?_;simp_all;done) | (refine ret_bool ?_;simp_all;omega) | (refine ret_bool ?_;simp_all [greatB];done) | (refine ret_bool ?_;simp_all [greatB];omega)
   · by_cases k3:k=3
     · subst k3
       have HV:=Lib.hid (show validB ⟨3,t,n⟩=(decide (n=0) && isWord t) by simp [validB])
       clear k1 k2
       go_enter Tryz.func242,Tryz.ntmps242
       go_wp2_with (go_at_call 154;refine (word_is _ _).mono ?_;rintro e w' ⟨rfl,rfl⟩)
       all_goals
        go_ret
        refine ⟨?_,(Below.refl _ _).alloc (Nat.le_refl _) _⟩
        rw [HV.out]
        first | rfl | (refine ret_bool ?_;simp_all;done) | (refine ret_bool ?_;simp_all;omega) | (refine ret_bool ?_;simp_all [greatB];done) | (refine ret_bool ?_;simp_all [greatB];omega)
     · have HV:=Lib.hid (show validB ⟨k,t,n⟩=false by simp [validB,k1,k2,k3])
       have t1:(k == 1)=false:=by simp [k1]
       have t2:(k == 2)=false:=by simp [k2]
       have t3:(k == 3)=false:=by simp [k3]
       clear k1 k2 k3
       go_enter Tryz.func242,Tryz.ntmps242
       go_wp2_with fail
       all_goals
        go_ret
        refine ⟨?_,(Below.refl _ _).alloc (Nat.le_refl _) _⟩
        rw [HV.out]
        rfl
set_option maxRecDepth 100000 in
set_option maxHeartbeats 4000000 in
theorem rvalid_is (s:Sym) (w:World):Calls Tryz.prog 93 #[.agg #[.int .i64 s.kind,.string s.text,.int .i64 s.n]] w fun e w'=>e = .returned (.bool (validB s))∧Below w.heap.size w w':=by
 obtain ⟨k,t,n⟩:=s
 dsimp only
 by_cases k1:k=1
 · subst k1
   by_cases a1:t.size=1
   · have h0:0<t.size:=by omega
     have t1:((t.size:Int) == 1)=true:=by simp;omega
     have HV:=Lib.hid (show validB ⟨1,t,n⟩=(greatB t[0] && decide (1≤n) && decide (n≤1048576)) by simp [validB,a1,headB_eq h0])
     go_enter Tryz.func93,Tryz.ntmps93
     go_wp2_with (fail)
     all_goals
      go_ret
      refine ⟨?_,(Below.refl _ _).alloc (Nat.le_refl _) _⟩
      rw [HV.out]
      first | rfl | (refine ret_bool ?_;simp_all;done) | (refine ret_bool ?_;simp_all;omega) | (refine ret_bool ?_;simp_all [greatB];done) | (refine ret_bool ?_;simp_all [greatB];omega)
   · have t1:((t.size:Int) == 1)=false:=by simp;omega
     have HV:=Lib.hid (show validB ⟨1,t,n⟩=false by simp [validB,a1])
     go_enter Tryz.func93,Tryz.ntmps93
     go_wp2_with fail
     all_goals
      go_ret
      refine ⟨?_,(Below.refl _ _).alloc (Nat.le_refl _) _⟩
      rw [HV.out]
      rfl
 · by_cases k2:k=2
   · subst k2
     have HV:=Lib.hid (show validB ⟨2,t,n⟩=(decide (t.toList = []) && decide (-2147483647≤n) && decide (n≤2147483647)) by simp [validB])
     clear k1
     go_enter Tryz.func93,Tryz.ntmps93
     go_wp2_with fail
     all_goals
      go_ret
      refine ⟨?_,(Below.refl _ _).alloc (Nat.le_refl _) _⟩
      rw [HV.out]
      first | rfl | (refine ret_bool ?_;simp_all;done) | (refine ret_bool ?_;simp_all;omega) | (refine ret_bool ?_;simp_all [greatB];done) | (refine ret_bool ?_;simp_all [greatB];omega)
   · by_cases k3:k=3
     · subst k3
       have HV:=Lib.hid (show validB ⟨3,t,n⟩=(decide (n=0) && isWord t) by simp [validB])
       clear k1 k2
       go_enter Tryz.func93,Tryz.ntmps93
       go_wp2_with (go_at_call 137;refine (rword_is _ _).mono ?_;rintro e w' ⟨rfl,rfl⟩)
       all_goals
        go_ret
        refine ⟨?_,(Below.refl _ _).alloc (Nat.le_refl _) _⟩
        rw [HV.out]
        first | rfl | (refine ret_bool ?_;simp_all;done) | (refine ret_bool ?_;simp_all;omega) | (refine ret_bool ?_;simp_all [greatB];done) | (refine ret_bool ?_;simp_all [greatB];omega)
     · have HV:=Lib.hid (show validB ⟨k,t,n⟩=false by simp [validB,k1,k2,k3])
       have t1:(k == 1)=false:=by simp [k1]
       have t2:(k == 2)=false:=by simp [k2]
       have t3:(k == 3)=false:=by simp [k3]
       clear k1 k2 k3
       go_enter Tryz.func93,Tryz.ntmps93
       go_wp2_with fail
       all_goals
        go_ret
        refine ⟨?_,(Below.refl _ _).alloc (Nat.le_refl _) _⟩
        rw [HV.out]
        rfl
end Go.Proofs.YtldndkngpdfpfaaGreat
namespace Go.Proofs.YtldndkngpdfpfaaGreat
open Go.RowKit
theorem flat_set1 {α:Type} {cells:α→List Value} (hsz : ∀x,(cells x).length=1) (_h0:0<1) (l:List α) (k:Nat) (hk:k<l.length) (y:α) :
 setAll (l.flatMap cells) k (cells y)=(l.set k y).flatMap cells:=by
 have h:=flat_set hsz (by omega) l k hk y
 rwa [Nat.mul_one] at h
end Go.Proofs.YtldndkngpdfpfaaGreat
namespace Go.Proofs.YtldndkngpdfpfaaGreat
open Go.RowKit
abbrev Name:=ByteArray
def Name.cells (n:Name):List Value:=[.string n]
theorem Name.cells_length (n:Name):(Name.cells n).length=1:=rfl
def cmpName (a b:Name):Int:=cmpStr a b
theorem tc_name:TC cmpName:=tc_str
set_option maxHeartbeats 400000 in
theorem cmp_name (a b:Name) (w:World):Calls Tryz.prog 316 #[.string a,.string b] w fun e w'=>e = .returned (.int .i64 (cmpName a b))∧Below w.heap.size w w':=by
 go_enter Tryz.func316,Tryz.ntmps316
 go_wp2
 all_goals (go_ret;refine ⟨?_,Below.refl _ _⟩;unfold cmpName cmpStr;simp_all)
end Go.Proofs.YtldndkngpdfpfaaGreat
namespace Go.Proofs.YtldndkngpdfpfaaGreat
def zS:Sym:=⟨0,⟨#[]⟩,0⟩
def noneB (s:Sym):Bool:=decide (s=zS)
def emptyB (a:AtomT):Bool:=decide (a.var.toList = []) && noneB a.sym
def constB (s:Sym):Bool:=decide (s.kind≠1) && validB s
def testB (t:TestT):Bool:=
 if t.rel=8 then decide (t.var.toList = []) && noneB t.sym && decide (1≤t.list.length) && decide (t.list.length≤8) && t.list.all constB
 else if t.rel<1∨7<t.rel∨0<t.list.length then false
 else if t.var.toList = [] then constB t.sym else isWord t.var && noneB t.sym
def atomB (a:AtomT):Bool:=if a.var.toList = [] then constB a.sym else isWord a.var && noneB a.sym
def condE (c:CondT) (deep:Nat):Int:=
 if c.kind=3 then (if c.goal=true∨c.id.toList≠[]∨0<c.attr.length∨0<c.value.length∨c.acc=true∨c.conds.length=0 then 9 else if 3≤deep then 8 else 0)
 else if c.kind=1∨c.kind=2 then
  (if 0<c.conds.length∨isWord c.id=false∨c.attr.length=0 then 9 else if 4<c.attr.length∨4<c.value.length then 7 else if (c.attr.all testB && c.value.all testB)=false then 9 else 0)
 else 9
def wordAB (a:AtomT):Bool:=decide (a.var.toList = []) && decide (a.sym.kind=3)
def termB (t:TermT):Bool:=
 if t.op<0∨3<t.op∨atomB t.a=false then false
 else if t.op=0 then emptyB t.b else atomB t.b && !wordAB t.a && !wordAB t.b
def otherB (k:Int):Bool:=decide (k=8) || decide (k=9) || decide (k=10)
def actB (a:ActT):Bool:=
 if isWord a.id=false∨atomB a.attr=false∨termB a.value=false∨a.pref<1∨10<a.pref then false
 else if otherB a.pref=true then atomB a.other else emptyB a.other
def flatC:Nat→Nat→List CondT→List (Nat×CondT)
 | 0,_,_=>[]
 | n+1,d,l=>l.flatMap fun c=>(d,c) :: flatC n (d+1) c.conds
def shapeP (n:Nat) (p:ProdT):Int×Int:=
 if isWord p.name=false then (-1,2)
 else if (flatC n 0 p.conds).length<1∨16<(flatC n 0 p.conds).length∨p.acts.length<1∨16<p.acts.length then (-1,7)
 else match (flatC n 0 p.conds).findIdx? (fun c=>decide (condE c.2 c.1≠0)) with
  | some k=>(k,(((flatC n 0 p.conds)[k]?).map fun c=>condE c.2 c.1).getD 0)
  | none=>match p.acts.findIdx? (fun a=>!actB a) with
    | some i=>((flatC n 0 p.conds).length+i,9)
    | none=>(-1,0)
abbrev Kn:=List ByteArray×List ByteArray
def metK (k:Kn) (v:ByteArray):Kn:=(put cmpName k.1 v,if has cmpName k.1 v=true then k.2 else k.2 ++ [v])
def hasK (k:Kn) (v:ByteArray):Bool:=has cmpName k.1 v
def fieldK:Kn→List TestT→Bool×Kn
 | k,[]=>(true,k)
 | k,t :: l=>if t.rel=8∨t.var.toList = [] then fieldK k l else if t.rel=1 then fieldK (metK k t.var) l else if hasK k t.var=true then fieldK k l else (false,k)
def oneK (k:Kn) (c:CondT):Bool×Kn:=
 let k1:=if c.goal=true then metK k c.id else k
 if hasK k1 c.id=true then (match fieldK k1 c.attr with | (true,k2)=>fieldK k2 c.value | (false,k2)=>(false,k2)) else (false,k1)
def condsK:Nat→Kn→List CondT→Int→Bool×Int×Kn
 | 0,k,_,at_=>(true,at_,k)
 | _+1,k,[],at_=>(true,at_,k)
 | n+1,k,c :: l,at_=>
   if c.kind=3 then
    (match condsK n (k.1,[]) c.conds (at_+1) with
      | (true,a2,_)=>condsK (n+1) k l a2
      | (false,a2,_)=>(false,a2,k))
   else
    (match oneK (if c.kind=1 then k else (k.1,[])) c with
      | (true,k2)=>condsK (n+1) (if c.kind=1 then k2 else k) l (at_+1)
      | (false,_)=>(false,at_,k))
termination_by n _ l _=>(n,l.length)
def lacksB (k:Kn) (a:AtomT):Bool:=decide (a.var.toList≠[]) && !hasK k a.var
def actV (k:Kn) (a:ActT):Bool:=lacksB k a.attr || (decide (a.value.op≠0) && (lacksB k a.value.a || lacksB k a.value.b))
def checkP (n:Nat) (p:ProdT):Int×Int×List ByteArray:=
 if (shapeP n p).2≠0 then ((shapeP n p).1,(shapeP n p).2,[])
 else if (p.conds.head?.map CondT.kind).getD 0≠1 then (0,9,[])
 else match condsK n ([],[]) p.conds 0 with
  | (false,a,_)=>(a,6,[])
  | (true,a,k)=>match p.acts.findIdx? (actV k) with
    | some i=>(a+i,6,[])
    | none=>(-1,0,k.2)
end Go.Proofs.YtldndkngpdfpfaaGreat
namespace Go.Proofs.YtldndkngpdfpfaaGreat
def decF:Nat→Nat→ByteArray
 | 0,n=>byte1 n
 | f+1,n=>if n<10 then byte1 n else decF f (n / 10)++byte1 (n % 10)
theorem decF_is : ∀(f n:Nat),n<10 ^ (f+1)→decF f n=decB n
 | 0,n,h=>by rw [decB,if_pos (by simpa using h)];rfl
 | f+1,n,h=>by
   rw [decF,decB]
   split
   · rfl
   · rw [decF_is f (n / 10)]
     rw [Nat.div_lt_iff_lt_mul (by decide)]
     rw [Nat.pow_succ] at h
     exact h
theorem decB_pow : ∀(k n:Nat),n<10 ^ (k+1)→(decB n).size≤k+1
 | 0,n,h=>by rw [decB,if_pos (by simpa using h)];exact Nat.le_refl _
 | k+1,n,h=>by
   rw [decB]
   split
   · rw [byte1_size];omega
   · have h2:n / 10<10 ^ (k+1):=by
      rw [Nat.div_lt_iff_lt_mul (by decide)]
      rw [Nat.pow_succ] at h
      exact h
     have:=decB_pow k (n / 10) h2
     rw [ByteArray.size_append,byte1_size]
     omega
theorem decB_long {n:Nat} (h:n<9223372036854775808):(decB n).size≤19:=decB_pow 18 n (Nat.lt_of_lt_of_le h (by decide))
theorem decF_long {n:Nat} (h:n<9223372036854775808):decF 18 n=decB n:=decF_is 18 n (Nat.lt_of_lt_of_le h (by decide))
def letV (s:Sym):Option UInt8:=if s.kind=1∧s.text.size=1∧65≤(s.text.toList[0]!).toNat∧(s.text.toList[0]!).toNat≤90 then some s.text.toList[0]! else none
def nameV (s:Sym) (n:Int):ByteArray:=if n<1 then ⟨#[]⟩ else match letV s with
 | none=>⟨#[]⟩
 | some c=>⟨#[c - 65+97]⟩++decF 18 n.toNat
def symZ:Sym:=⟨0,⟨#[]⟩,0⟩
def atomZ:AtomT:=⟨⟨#[]⟩,symZ⟩
def testV (ns:List Sym) (rel:Int) (s:Sym):TestT:=if s.kind=1 then ⟨rel,nameV s (plV ns s),symZ,[]⟩ else ⟨rel,⟨#[]⟩,s,[]⟩
def posV (ns:List Sym) (e:Elem):CondT:=.mk 1 e.goal (nameV e.id (plV ns e.id)) [⟨1,⟨#[]⟩,e.attr,[]⟩] [testV ns 1 e.value] e.acc []
def atomV (old:Sym→Bool) (ns:List Sym) (s:Sym):Option (AtomT×List Sym):=
 if s.kind≠1 then some (⟨⟨#[]⟩,s⟩,ns)
 else if plV ns s=0∧old s=true then none
 else some (⟨nameV s (plV (putN ns s) s),symZ⟩,putN ns s)
def actV3 (old:Sym→Bool) (ns:List Sym) (p:PrefT):Option (ActT×List Sym):=
 match atomV old ns p.id with
 | none=>none
 | some (i,n1)=>match atomV old n1 p.value with
   | none=>none
   | some (v,n2)=>match atomV old n2 p.other with
     | none=>none
     | some (o,n3)=>some (⟨i.var,⟨⟨#[]⟩,p.attr⟩,⟨0,v,atomZ⟩,p.kind,o⟩,n3)
instance:DecidableEq AtomT:=fun a b=>decidable_of_iff (a.var=b.var∧a.sym=b.sym) ⟨fun ⟨h1,h2⟩=>by cases a;cases b;simp_all,fun h=>by subst h;exact ⟨rfl,rfl⟩⟩
instance:DecidableEq TermT:=fun a b=>decidable_of_iff (a.op=b.op∧a.a=b.a∧a.b=b.b) ⟨fun ⟨h1,h2,h3⟩=>by cases a;cases b;simp_all,fun h=>by subst h;exact ⟨rfl,rfl,rfl⟩⟩
instance:DecidableEq ActT:=fun a b=>decidable_of_iff (a.id=b.id∧a.attr=b.attr∧a.value=b.value∧a.pref=b.pref∧a.other=b.other) ⟨fun ⟨h1,h2,h3,h4,h5⟩=>by cases a;cases b;simp_all,fun h=>by subst h;exact ⟨rfl,rfl,rfl,rfl,rfl⟩⟩
def addA (acts:List ActT) (a:ActT):List ActT:=if a∈acts then acts else acts ++ [a]
def actsV3 (old:Sym→Bool):List PrefT→List Sym→List ActT→Option (List ActT×List Sym)
 | [],ns,acts=>some (acts,ns)
 | p :: l,ns,acts=>match actV3 old ns p with
   | none=>none
   | some (a,n)=>actsV3 old l n (addA acts a)
def prodW (m:Nat) (name:ByteArray) (cs:List CondT) (tags:List Int) (old:Sym→Bool) (ns:List Sym) (l:List PrefT):Option (ProdT×List Int):=
 match actsV3 old l ns [] with
 | none=>none
 | some (acts,_)=>if (checkP m ⟨name,cs,acts⟩).2.1=0 then some (⟨name,cs,acts⟩,tags) else none
def prodV (m:Nat) (name:ByteArray) (es:List Elem) (old:Sym→Bool) (news:List Sym) (l:List PrefT):Option (ProdT×List Int):=
 match orderV es with
 | none=>none
 | some (o,ns)=>if o = [] then none else if (news.any fun s=>!decide (plV ns s=0))=true then none
   else prodW m name (o.map (posV ns)) (o.map Elem.tag) old ns l
theorem condsK_oneV (n:Nat) (k k2:Kn) (c:CondT) (l:List CondT) (at_:Int) (h:c.kind=1) (h2:oneK k c=(true,k2)):condsK (n+1) k (c :: l) at_=condsK (n+1) k2 l (at_+1):=by
 rw [condsK,if_neg (by omega),if_pos h,h2]
 simp only [if_pos h]
theorem checkP_V {n:Nat} {p:ProdT} {c:CondT} {l:List CondT} {k1 k2:Kn} {at_:Int} (h0:(shapeP (n+1) p).2=0) (hc:p.conds=c :: l) (hk:c.kind=1) (h1:oneK ([],[]) c=(true,k1)) (h2:condsK (n+1) k1 l 1=(true,at_,k2)) (h3:p.acts.findIdx? (actV k2)=none):(checkP (n+1) p).2.1=0:=by
 unfold checkP
 rw [if_neg (by rw [h0];simp),hc,if_neg (by simp [hk]),condsK_oneV n _ k1 c l 0 hk h1,show (0:Int)+1=1 from rfl,h2]
 simp only [h3]
theorem condsK_nilV (n:Nat) (k:Kn) (at_:Int):condsK (n+1) k [] at_=(true,at_,k):=by rw [condsK]
def sSym:Sym:=⟨1,⟨#[83]⟩,1⟩
def aSym:Sym:=⟨1,⟨#[65]⟩,1⟩
def wSym (c:UInt8):Sym:=⟨3,⟨#[c]⟩,0⟩
def e22a:Elem:=⟨sSym,wSym 120,aSym,false,true,1⟩
def e22b:Elem:=⟨aSym,wSym 121,⟨2,⟨#[]⟩,3⟩,false,false,2⟩
def p22:PrefT:=⟨aSym,wSym 122,sSym,symZ,1,false,2,1⟩
def c22a:CondT:=.mk 1 true ⟨#[115,49]⟩ [⟨1,⟨#[]⟩,wSym 120,[]⟩] [⟨1,⟨#[97,50]⟩,symZ,[]⟩] false []
def c22b:CondT:=.mk 1 false ⟨#[97,50]⟩ [⟨1,⟨#[]⟩,wSym 121,[]⟩] [⟨1,⟨#[]⟩,⟨2,⟨#[]⟩,3⟩,[]⟩] false []
def a22:ActT:=⟨⟨#[97,50]⟩,⟨⟨#[]⟩,wSym 122⟩,⟨0,⟨⟨#[115,49]⟩,symZ⟩,atomZ⟩,1,atomZ⟩
theorem wk22_order:orderV [e22a,e22b]=some ([e22a,e22b],[sSym,aSym]):=by kernel_rfl
theorem wk22_conds : [e22a,e22b].map (posV [sSym,aSym]) = [c22a,c22b]:=by kernel_rfl
theorem wk22_acts:actsV3 (fun _=>false) [p22] [sSym,aSym] []=some ([a22],[sSym,aSym]):=by kernel_rfl
theorem wk22_check:(checkP 1 ⟨⟨#[99]⟩,[c22a,c22b],[a22]⟩).2.1=0:=
 checkP_V (n:=0) (c:=c22a) (l:=[c22b]) (k1:=(oneK ([],[]) c22a).2) (k2:=(oneK (oneK ([],[]) c22a).2 c22b).2) (at_:=2) (by kernel_rfl) rfl rfl (by kernel_rfl)
  (by rw [condsK_oneV 0 _ (oneK (oneK ([],[]) c22a).2 c22b).2 c22b [] 1 rfl (by kernel_rfl),condsK_nilV];rfl) (by kernel_rfl)
theorem wk22_prod:prodV 1 ⟨#[99]⟩ [e22a,e22b] (fun _=>false) [] [p22]=some (⟨⟨#[99]⟩,[c22a,c22b],[a22]⟩,[1,2]):=by
 unfold prodV
 rw [wk22_order]
 simp only
 rw [if_neg (by simp),if_neg (by simp),wk22_conds]
 unfold prodW
 rw [wk22_acts]
 simp only
 rw [if_pos wk22_check]
 rfl
end Go.Proofs.YtldndkngpdfpfaaGreat
namespace Go.Proofs.YtldndkngpdfpfaaGreat
open Go.RowKit Go.Shelf
attribute [local go_sem] Oper.semAt_some
set_option linter.unusedSimpArgs false
set_option maxRecDepth 100000 in
set_option maxHeartbeats 4000000 in
theorem vdigits_step (n:Nat) (h : ¬n<10) (hn:n<9223372036854775808) (ih : ∀w,Calls Tryz.prog 57 #[.int .i64 ((n / 10:Nat):Int)] w fun e w'=>e = .returned (.string (decB (n / 10)))∧Below w.heap.size w w') (w:World):Calls Tryz.prog 57 #[.int .i64 n] w fun e w'=>e = .returned (.string (decB n))∧Below w.heap.size w w':=by
 have t1:decide ((n:Int)<10)=false:=by simp;omega
 have b0:(0:Int)≤(n:Int):=by omega
 have b1:(n:Int)<9223372036854775808:=by omega
 have hc:=conv1 (n % 10) (by omega)
 have e1:((n:Int) / 10)=((n / 10:Nat):Int):=by omega
 have e2:((n:Int) % 10)=((n % 10:Nat):Int):=by omega
 have m0:(0:Int)≤((n % 10:Nat):Int):=by omega
 have m1:((n % 10:Nat):Int)≤9:=by omega
 obtain ⟨m,hm⟩ : ∃m,m=n % 10:=⟨_,rfl⟩
 obtain ⟨q,hq⟩ : ∃q,q=n / 10:=⟨_,rfl⟩
 rw [← hm] at hc e2 m0 m1
 rw [← hq] at e1 ih
 have HD:Hid (decB n=decB q++byte1 m):=by rw [decB,if_neg h,hm,hq];rfl
 have v1:IntKind.i64.wrap (q:Int)=(q:Int):=IntWalk.i64_in _ (by omega)
 have v2:((n:Int)).tmod 10=(m:Int):=by rw [Int.tmod_eq_emod_of_nonneg b0,e2]
 have v3:IntKind.i64.wrap (48+(m:Int))=48+(m:Int):=IntWalk.i64_in _ (by omega)
 have v4:IntKind.u8.wrap (48+(m:Int))=48+(m:Int):=by simp [IntKind.wrap,IntKind.signed,IntKind.bits];omega
 have hz : ¬9223372036854775807<(decB q).size+(byte1 m).size:=by have:=decB_long (n:=q) (by omega);rw [byte1_size];omega
 clear e2
 have IH:=Lib.hid ih
 have HC:=Lib.hid hc
 clear ih h hm hq hc
 go_enter Tryz.func57,Tryz.ntmps57
 go_wp2_with fail
 refine wp_region_Pl (fun _=>True) [0,1,3,4,5,6,9,10] [] (.fork [(0,0),(1,0),(3,0),(4,0),(5,0),(6,0)] 2 (.fin [(7,2),(8,2),(9,0),(10,0)]) 7 (.fork [] 2 (.fin [(8,2),(9,0),(10,0)]) 8 (.fin [(2,2),(9,0),(10,0)]))) (by kernel_rfl) (by kernel_rfl) (by kernel_rfl) (fun KK hKK=>?_)
 simp only [wpPl,beside,List.filterMap_cons,List.filterMap_nil,List.getElem?_toArray,List.getElem?_cons_zero,List.getElem?_cons_succ,Option.map_some,List.any_nil]
 repeat (refine wpY_w ?_ (Or.inl ⟨by rfl,fun w9=>?_⟩) ?_;rotate_left 1;go_simp;with_reducible rfl;go_frame)
 refine wpY_nil ⟨?_,?_⟩
 · refine wpOp_c (fun _=>by simp) rfl (fun K9 hK9=>?_)
   go_simp
   refine (IH.out _).mono ?_
   rintro e w1 ⟨rfl,hb1⟩
   refine hK9 _ _ ?_
   clear hK9 K9
   try go_frame
   refine wpY_e (by rfl) (fun K9 hK9=>?_)
   go_simp
   refine hK9 _ _ ?_
   clear hK9 K9
   try go_frame
   refine wpY_e (by rfl) (fun K9 hK9=>?_)
   have hc:=HC.out (w1.alloc (.cells #[.int .u8 (48+(m:Int))] 5)) w1.heap.size ((Blk.new _ _ _).cell 0)
   go_simp
   refine hK9 _ _ ?_
   clear hK9 K9 hc
   try go_frame
   repeat (refine wpY_w ?_ (Or.inl ⟨by rfl,fun w9=>?_⟩) ?_;rotate_left 1;go_simp;with_reducible rfl;go_frame)
   refine wpY_nil ?_
   simp only [OnlyN_normal]
   refine hKK _ _ ?_
   clear hKK KK
   go_wp2_with fail
   go_ret
   exact ⟨by rw [HD.out];rfl,((Below.refl _ _).drew.trans (hb1.mono (by simp))).alloc (by have:=hb1.size;simpa using this) _⟩
 · refine wpOp_c (fun _=>by simp) rfl (fun K9 hK9=>?_)
   go_simp
   refine hK9 _ _ ?_
   clear hK9 K9
   try go_frame
   try simp only [beside]
   refine wpY_nil ⟨?_,?_⟩
   · refine wpOp_c (fun _=>by simp) rfl (fun K9 hK9=>?_)
     go_simp
     refine (IH.out _).mono ?_
     rintro e w1 ⟨rfl,hb1⟩
     refine hK9 _ _ ?_
     clear hK9 K9
     try go_frame
     refine wpY_e (by rfl) (fun K9 hK9=>?_)
     have hc:=HC.out w1 w.heap.size ((hb1.cell (by simp)).trans ((Blk.new w.drew 5 #[.int .u8 (48+(m:Int))]).cell 0))
     go_simp
     refine hK9 _ _ ?_
     clear hK9 K9 hc
     try go_frame
     repeat (refine wpY_w ?_ (Or.inl ⟨by rfl,fun w9=>?_⟩) ?_;rotate_left 1;go_simp;with_reducible rfl;go_frame)
     refine wpY_nil ?_
     simp only [OnlyN_normal]
     refine hKK _ _ ?_
     clear hKK KK
     go_wp2_with fail
     go_ret
     exact ⟨by rw [HD.out];rfl,((Below.refl _ _).drew.alloc (by simp) _).trans (hb1.mono (by simp))⟩
   · refine wpOp_c (fun _=>by simp) rfl (fun K9 hK9=>?_)
     have hc:=HC.out (w.alloc (.cells #[.int .u8 (48+(m:Int))] 5)).drew w.heap.size (((Blk.new w 5 #[.int .u8 (48+(m:Int))]).drew.cell 0).trans rfl)
     go_simp
     refine hK9 _ _ ?_
     clear hK9 K9 hc
     try go_frame
     refine wpY_e (by rfl) (fun K9 hK9=>?_)
     go_simp
     refine (IH.out _).mono ?_
     rintro e w1 ⟨rfl,hb1⟩
     refine hK9 _ _ ?_
     clear hK9 K9
     try go_frame
     repeat (refine wpY_w ?_ (Or.inl ⟨by rfl,fun w9=>?_⟩) ?_;rotate_left 1;go_simp;with_reducible rfl;go_frame)
     refine wpY_nil ?_
     simp only [OnlyN_normal]
     refine hKK _ _ ?_
     clear hKK KK
     go_wp2_with fail
     go_ret
     exact ⟨by rw [HD.out];rfl,((Below.refl _ _).drew.alloc (by simp) _).trans (hb1.mono (by simp))⟩
set_option maxRecDepth 100000 in
set_option maxHeartbeats 1000000 in
theorem vdigits_base (n:Nat) (h:n<10) (w:World):Calls Tryz.prog 57 #[.int .i64 n] w fun e w'=>e = .returned (.string (decB n))∧Below w.heap.size w w':=by
 have t1:decide ((n:Int)<10)=true:=by simp;omega
 have b0:(0:Int)≤(n:Int):=by omega
 have b1:(n:Int)≤9:=by omega
 have hc:=conv1 n h (w.alloc (.cells #[.int .u8 (48+(n:Int))] 5)) w.heap.size ((Blk.new _ _ _).cell 0)
 have HD:Hid (decB n=byte1 n):=by rw [decB,if_pos h];rfl
 clear h
 go_enter Tryz.func57,Tryz.ntmps57
 go_wp2_with fail
 go_ret
 exact ⟨by rw [HD.out];rfl,(Below.refl _ _).alloc (Nat.le_refl _) _⟩
theorem vdigits_is (n:Nat) (hn:n<9223372036854775808) (w:World):Calls Tryz.prog 57 #[.int .i64 n] w fun e w'=>e = .returned (.string (decB n))∧Below w.heap.size w w':=by
 induction n using Nat.strongRecOn generalizing w with
 | _ n ih=>
   by_cases h:n<10
   · exact vdigits_base n h w
   · exact vdigits_step n h hn (fun w=>ih (n / 10) (by omega) (by omega) w) w
theorem tl1 (c:UInt8):(⟨#[c]⟩:ByteArray).toList = [c]:=by kernel_rfl
theorem one_byte {t:ByteArray} (h:t.size=1):t.toList = [t[0]]:=by
 obtain ⟨⟨l⟩⟩:=t
 match l,h with
 | [c],_=>exact tl1 c
def chB (d:Nat):ByteArray:=⟨#[UInt8.ofNat d]⟩
theorem chB_size (d:Nat):(chB d).size=1:=rfl
theorem convC (d:Nat) (h:d<256) (W:World) (g:Nat) (hc:W.cell? ⟨g,0,none⟩=some (.int .u8 (d:Int))):(convert 118 9 (.slice (some ⟨g,0,none⟩) 1 1)).run Tryz.prog W = .ok (.string (chB d)) W:=
 Lib.run_convert_whole (P:=Tryz.prog) W 118 5 9 Tryz.underlying118 Tryz.underlying5 Tryz.underlying9 g 0 (chB d) (fun i hi=>by
  have:i=0:=by have:(chB d).size=1:=rfl;omega
  subst this
  rw [Nat.add_zero,hc]
  have e:(chB d)[0].toNat=d:=by show (UInt8.ofNat d).toNat=d;simp;omega
  rw [e]) 1
theorem nameV_none {s:Sym} {n:Int} (h:letV s=none):nameV s n=⟨#[]⟩:=by
 unfold nameV;split;rfl;rw [h]
theorem nameV_low {s:Sym} {n:Int} (h:n<1):nameV s n=⟨#[]⟩:=by unfold nameV;rw [if_pos h]
theorem letV_kind {s:Sym} (h:s.kind≠1):letV s=none:=by unfold letV;rw [if_neg (fun e=>h e.1)]
theorem letV_size {s:Sym} (h:s.text.size≠1):letV s=none:=by unfold letV;rw [if_neg (fun e=>h e.2.1)]
theorem letV_low {s:Sym} (h:s.text.size=1) (h2:s.text[0].toNat<65):letV s=none:=by
 unfold letV;rw [if_neg];rintro ⟨_,_,e,_⟩;rw [one_byte h] at e;simp at e;omega
theorem letV_high {s:Sym} (h:s.text.size=1) (h2:90<s.text[0].toNat):letV s=none:=by
 unfold letV;rw [if_neg];rintro ⟨_,_,_,e⟩;rw [one_byte h] at e;simp at e;omega
theorem nameV_yes {s:Sym} {k:Nat} (hk:s.kind=1) (h:s.text.size=1) (h1:65≤s.text[0].toNat) (h2:s.text[0].toNat≤90) (hn:1≤k) (hm:k<9223372036854775808):nameV s (k:Int)=chB (s.text[0].toNat+32)++decB k:=by
 have e:letV s=some s.text[0]:=by
  unfold letV
  rw [if_pos ⟨hk,h,by rw [one_byte h];simpa using h1,by rw [one_byte h];simpa using h2⟩,one_byte h];rfl
 unfold nameV
 rw [if_neg (by omega),e]
 simp only
 rw [show (k:Int).toNat=k from rfl,decF_long hm]
 congr 1
 unfold chB
 have e2:(s.text[0]'(by omega):UInt8) - (65:UInt8)+(97:UInt8)=UInt8.ofNat (s.text[0].toNat+32):=by
  apply UInt8.toNat_inj.1
  rw [UInt8.toNat_add,UInt8.toNat_sub]
  simp
  omega
 rw [e2]
set_option maxRecDepth 100000 in
set_option maxHeartbeats 8000000 in
theorem vname_is (s:Sym) (n:Int) (hn:n<9223372036854775808) (w:World):Calls Tryz.prog 14 #[.agg #[.int .i64 s.kind,.string s.text,.int .i64 s.n],.int .i64 n] w fun e w'=>e = .returned (.string (nameV s n))∧Below w.heap.size w w':=by
 have HA:=Lib.hid ((Below.refl w.heap.size w).alloc (Nat.le_refl _) (.cells #[.int .i64 s.kind,.string s.text,.int .i64 s.n] 23))
 obtain ⟨v,hv⟩ : ∃v,v=nameV s n:=⟨_,rfl⟩
 rw [← hv]
 by_cases k1:s.kind=1
 case neg=>
  have HV:=Lib.hid (show v=⟨#[]⟩ from hv.trans (nameV_none (letV_kind k1)))
  have e1:(s.kind != 1)=true:=by simp [k1]
  clear hv k1
  go_enter Tryz.func14,Tryz.ntmps14
  go_wp2_with fail
  all_goals (go_ret;exact ⟨by rw [HV.out]<;>rfl,HA.out⟩)
 by_cases k2:s.text.size=1
 case neg=>
  have HV:=Lib.hid (show v=⟨#[]⟩ from hv.trans (nameV_none (letV_size k2)))
  have e1:(s.kind != 1)=false:=by simp [k1]
  have e2:((s.text.size:Int) != 1)=true:=by simp;omega
  clear hv k1
  go_enter Tryz.func14,Tryz.ntmps14
  go_wp2_with fail
  all_goals (go_ret;exact ⟨by rw [HV.out]<;>rfl,HA.out⟩)
 have e1:(s.kind != 1)=false:=by simp [k1]
 have e2:((s.text.size:Int) != 1)=false:=by simp;omega
 have h0:0<s.text.size:=by omega
 by_cases k3:s.text[0].toNat<65
 case pos=>
  have HV:=Lib.hid (show v=⟨#[]⟩ from hv.trans (nameV_none (letV_low k2 k3)))
  have e3:decide ((s.text[0].toNat:Int)<65)=true:=by simp;omega
  have e4:(s.text[0].toNat:Int)<65:=by omega
  clear hv k1
  go_enter Tryz.func14,Tryz.ntmps14
  go_wp2_with fail
  all_goals (go_ret;exact ⟨by rw [HV.out]<;>rfl,HA.out⟩)
 have e3:decide ((s.text[0].toNat:Int)<65)=false:=by simp;omega
 have e4 : ¬(s.text[0].toNat:Int)<65:=by omega
 by_cases k4:90<s.text[0].toNat
 case pos=>
  have HV:=Lib.hid (show v=⟨#[]⟩ from hv.trans (nameV_none (letV_high k2 k4)))
  have e5:decide (90<(s.text[0].toNat:Int))=true:=by simp;omega
  have e6:90<(s.text[0].toNat:Int):=by omega
  clear hv k1
  go_enter Tryz.func14,Tryz.ntmps14
  go_wp2_with fail
  all_goals (go_ret;exact ⟨by rw [HV.out]<;>rfl,HA.out⟩)
 have e5:decide (90<(s.text[0].toNat:Int))=false:=by simp;omega
 have e6 : ¬90<(s.text[0].toNat:Int):=by omega
 by_cases k5:n<1
 case pos=>
  have HV:=Lib.hid (show v=⟨#[]⟩ from hv.trans (nameV_low k5))
  have e7:decide (n<1)=true:=by simpa using k5
  clear hv k1
  go_enter Tryz.func14,Tryz.ntmps14
  go_wp2_with fail
  all_goals (go_ret;exact ⟨by rw [HV.out]<;>rfl,HA.out⟩)
 have e7:decide (n<1)=false:=by simpa using k5
 obtain ⟨k,hkn⟩ : ∃k:Nat,n=(k:Int):=⟨n.toNat,by omega⟩
 have HKN:=Lib.hid hkn
 have HV:=Lib.hid (show v=chB (s.text[0].toNat+32)++decB k from hv.trans (by rw [hkn];exact nameV_yes k1 k2 (by omega) (by omega) (by omega) (by omega)))
 obtain ⟨d,hd⟩ : ∃d,d=s.text[0].toNat+32:=⟨_,rfl⟩
 rw [← hd] at HV
 have v3:IntKind.u8.wrap ((s.text[0].toNat:Int) - 65)=(s.text[0].toNat:Int) - 65:=by simp [IntKind.wrap,IntKind.signed,IntKind.bits];omega
 have v4:IntKind.u8.wrap ((s.text[0].toNat:Int) - 65+97)=(d:Int):=by simp [IntKind.wrap,IntKind.signed,IntKind.bits];omega
 have HC:=Lib.hid (convC d (by omega))
 have hz : ¬9223372036854775807<(chB d).size+(decB k).size:=by have:=decB_long (n:=k) (by omega);rw [chB_size];omega
 have HDG:=Lib.hid (vdigits_is k (by omega))
 have HX:=Lib.hid (And.intro v3 (And.intro v4 hz))
 clear hv k1 k2 k3 k4 hd v3 v4 hz hkn
 go_enter Tryz.func14,Tryz.ntmps14
 go_upto_region 3 with fail
 obtain ⟨w1,hw1⟩ : ∃w1,w1=w.alloc (.cells #[.int .i64 s.kind,.string s.text,.int .i64 s.n] 23):=⟨_,rfl⟩
 rw [← hw1] at HA
 have HK:=Lib.hid (show Blk w1 w.heap.size 23 #[.int .i64 s.kind,.string s.text,.int .i64 s.n] by rw [hw1];exact Blk.new _ _ _)
 obtain ⟨c0,c1,c2⟩:=HK.out.c3
 have cz:=HK.out.lt
 rw [← hw1]
 obtain ⟨v3,v4,hz⟩:=HX.out
 have hkn:=HKN.out
 subst hkn
 clear hw1 e1 e2 e3 e4 e5 e6 e7 HX HKN k5
 refine wp_region_Pl (fun w9=>Below w1.heap.size w1 w9) [0,1,2,3,4,7,9,10] [1] (.fork [(0,0),(1,1),(2,0),(3,0),(4,0),(7,0)] 5 (.fork [] 6 (.fin [(8,2),(9,0),(10,0)]) 8 (.fin [(6,2),(9,0),(10,0)])) 8 (.fin [(5,2),(6,2),(9,0),(10,0)])) (by kernel_rfl) (by kernel_rfl) (by kernel_rfl) (fun KK hKK=>?_)
 simp only [wpPl,beside,List.filterMap_cons,List.filterMap_nil,List.getElem?_toArray,List.getElem?_cons_zero,List.getElem?_cons_succ,Option.map_some]
 repeat ((first | (refine wpY_w ?_ (Or.inl ⟨by rfl,fun w9=>?_⟩) ?_;rotate_left 1;go_simp;with_reducible rfl) | (refine wpY_l ?_ ((Below.refl _ _).drew) (Or.inl ⟨by rfl,fun w9 hw9=>?_⟩) ?_;rotate_left 1;obtain ⟨hc9,hf9⟩:=bcell hw9;go_simp;with_reducible rfl) | refine wpY_w undef (Or.inr ⟨by rfl,rfl⟩) ?_ | refine wpY_l undef ((Below.refl _ _).drew) (Or.inr ⟨by rfl,rfl⟩) ?_);go_frame)
 refine wpY_nil ⟨?_,?_⟩
 · refine wpOp_cs rfl (fun K9 hK9=>?_)
   go_simp
   obtain ⟨V2,hV⟩ : ∃V,V=(w1.alloc (.cells #[.int .u8 (d:Int)] 5)).drew:=⟨_,rfl⟩
   have hb2:Below w1.heap.size w1 V2:=by rw [hV];exact ((Below.refl w1.heap.size w1).alloc (Nat.le_refl _) _).drew
   have KA:Blk V2 w1.heap.size 5 #[.int .u8 (d:Int)]:=by rw [hV];exact Blk.new _ _ _
   have KAc:=KA.c1
   have KAH:=Lib.hid KA
   rw [← hV]
   clear hV KA
   have hc:=HC.out V2 _ KAc
   refine hK9 _ _ (fun _=>hb2) ?_
   clear hK9 K9
   try go_frame
   try simp only [beside,List.filterMap_nil]
   refine wpY_nil ⟨?_,?_⟩
   · refine wpOp_cs rfl (fun K9 hK9=>?_)
     go_simp
     refine hK9 _ _ (fun _=>hb2) ?_
     clear hK9 K9
     try go_frame
     try simp only [beside,List.filterMap_nil]
     refine wpY_es (fun K9 hK9=>?_)
     go_simp
     refine (HDG.out _).mono ?_
     rintro e V3 ⟨rfl,hb⟩
     have hb3:Below w1.heap.size w1 V3:=(hb2).trans (hb.mono (hb2).size)
     have hc:=HC.out V3 _ (KAH.out.new_ hb).c1
     clear hb
     refine hK9 _ _ (hb3) ?_
     clear hK9 K9
     try go_frame
     repeat ((first | (refine wpY_w ?_ (Or.inl ⟨by rfl,fun w9=>?_⟩) ?_;rotate_left 1;go_simp;with_reducible rfl) | (refine wpY_l ?_ ((Below.refl _ _).drew) (Or.inl ⟨by rfl,fun w9 hw9=>?_⟩) ?_;rotate_left 1;obtain ⟨hc9,hf9⟩:=bcell hw9;go_simp;with_reducible rfl) | refine wpY_w undef (Or.inr ⟨by rfl,rfl⟩) ?_ | refine wpY_l undef ((Below.refl _ _).drew) (Or.inr ⟨by rfl,rfl⟩) ?_);go_frame)
     refine wpY_nil ?_
     simp only [OnlyN_normal]
     refine hKK _ _ ?_
     clear hKK KK
     clear c0 c1 c2
     go_wp2_with fail
     go_ret
     exact ⟨by rw [HV.out]<;>rfl,HA.out.trans ((hb3).mono HA.out.size)⟩
   · refine wpOp_cs rfl (fun K9 hK9=>?_)
     go_simp
     refine (HDG.out _).mono ?_
     rintro e V3 ⟨rfl,hb⟩
     have hb3:Below w1.heap.size w1 V3:=(hb2).trans (hb.mono (hb2).size)
     have hc:=HC.out V3 _ (KAH.out.new_ hb).c1
     clear hb
     refine hK9 _ _ (fun _=>hb3) ?_
     clear hK9 K9
     try go_frame
     try simp only [beside,List.filterMap_nil]
     refine wpY_es (fun K9 hK9=>?_)
     go_simp
     refine hK9 _ _ (hb3) ?_
     clear hK9 K9
     try go_frame
     repeat ((first | (refine wpY_w ?_ (Or.inl ⟨by rfl,fun w9=>?_⟩) ?_;rotate_left 1;go_simp;with_reducible rfl) | (refine wpY_l ?_ ((Below.refl _ _).drew) (Or.inl ⟨by rfl,fun w9 hw9=>?_⟩) ?_;rotate_left 1;obtain ⟨hc9,hf9⟩:=bcell hw9;go_simp;with_reducible rfl) | refine wpY_w undef (Or.inr ⟨by rfl,rfl⟩) ?_ | refine wpY_l undef ((Below.refl _ _).drew) (Or.inr ⟨by rfl,rfl⟩) ?_);go_frame)
     refine wpY_nil ?_
     simp only [OnlyN_normal]
     refine hKK _ _ ?_
     clear hKK KK
     clear c0 c1 c2
     go_wp2_with fail
     go_ret
     exact ⟨by rw [HV.out]<;>rfl,HA.out.trans ((hb3).mono HA.out.size)⟩
 · refine wpOp_cs rfl (fun K9 hK9=>?_)
   go_simp
   refine (HDG.out _).mono ?_
   rintro e V2 ⟨rfl,hb⟩
   have hb2:Below w1.heap.size w1 V2:=((Below.refl w1.heap.size w1).drew).trans (hb.mono ((Below.refl w1.heap.size w1).drew).size)
   clear hb
   refine hK9 _ _ (fun _=>hb2) ?_
   clear hK9 K9
   try go_frame
   try simp only [beside,List.filterMap_nil]
   refine wpY_es (fun K9 hK9=>?_)
   go_simp
   obtain ⟨V3,hV⟩ : ∃V,V=V2.alloc (.cells #[.int .u8 (d:Int)] 5):=⟨_,rfl⟩
   have hb3:Below w1.heap.size w1 V3:=by rw [hV];exact (hb2).alloc (hb2).size _
   have KA:Blk V3 V2.heap.size 5 #[.int .u8 (d:Int)]:=by rw [hV];exact Blk.new _ _ _
   have KAc:=KA.c1
   have KAH:=Lib.hid KA
   rw [← hV]
   clear hV KA
   have hc:=HC.out V3 _ KAc
   refine hK9 _ _ (hb3) ?_
   clear hK9 K9
   try go_frame
   refine wpY_es (fun K9 hK9=>?_)
   go_simp
   refine hK9 _ _ (hb3) ?_
   clear hK9 K9
   try go_frame
   repeat ((first | (refine wpY_w ?_ (Or.inl ⟨by rfl,fun w9=>?_⟩) ?_;rotate_left 1;go_simp;with_reducible rfl) | (refine wpY_l ?_ ((Below.refl _ _).drew) (Or.inl ⟨by rfl,fun w9 hw9=>?_⟩) ?_;rotate_left 1;obtain ⟨hc9,hf9⟩:=bcell hw9;go_simp;with_reducible rfl) | refine wpY_w undef (Or.inr ⟨by rfl,rfl⟩) ?_ | refine wpY_l undef ((Below.refl _ _).drew) (Or.inr ⟨by rfl,rfl⟩) ?_);go_frame)
   refine wpY_nil ?_
   simp only [OnlyN_normal]
   refine hKK _ _ ?_
   clear hKK KK
   clear c0 c1 c2
   go_wp2_with fail
   go_ret
   exact ⟨by rw [HV.out]<;>rfl,HA.out.trans ((hb3).mono HA.out.size)⟩
end Go.Proofs.YtldndkngpdfpfaaGreat
