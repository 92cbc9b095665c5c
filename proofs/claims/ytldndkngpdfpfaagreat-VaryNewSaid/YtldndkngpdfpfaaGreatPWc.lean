/-
  Texts put together: VaryP, VaryP2, Sets, LeafPgS, FindPgS, OpsPgS, PutPgS.
-/
import Derived.Test.YtldndkngpdfpfaaGreatPWa
import Derived.Test.YtldndkngpdfpfaaGreatPWb
import Derived.Maps.RangeWalk
namespace Go.Proofs.YtldndkngpdfpfaaGreat
def plV:List Sym→Sym→Nat
 | [],_=>0
 | x :: l,s=>if x=s then 1 else if plV l s=0 then 0 else plV l s+1
theorem plV_zero {s:Sym} : ∀{l:List Sym},plV l s=0↔s ∉ l
 | []=>by simp [plV]
 | x :: l=>by
   have ih:=plV_zero (s:=s) (l:=l)
   rw [plV]
   by_cases h:x=s
   · rw [if_pos h];subst h;simp
   · rw [if_neg h,List.mem_cons]
     by_cases h2:plV l s=0
     · rw [if_pos h2]
       have h3:=ih.1 h2
       refine ⟨fun _ e=>e.elim (fun e=>h e.symm) h3,fun _=>rfl⟩
     · rw [if_neg h2]
       refine ⟨fun e=>by omega,fun e=>absurd (ih.2 (fun h4=>e (.inr h4))) h2⟩
theorem plV_le (s:Sym) : ∀l:List Sym,plV l s≤l.length
 | []=>Nat.le_refl _
 | x :: l=>by
   have ih:=plV_le s l
   rw [plV,List.length_cons]
   split
   · omega
   · split<;>omega
def putN (ns:List Sym) (s:Sym):List Sym:=if plV ns s=0 then ns ++ [s] else ns
def namesE (ns:List Sym) (e:Elem):List Sym:=if e.value.kind=1 then putN (putN ns e.id) e.value else putN ns e.id
theorem putN_len (ns:List Sym) (s:Sym):(putN ns s).length≤ns.length+1:=by unfold putN;split<;>simp
theorem namesE_len (ns:List Sym) (e:Elem):(namesE ns e).length≤ns.length+2:=by
 unfold namesE
 have h1:=putN_len ns e.id
 have h2:=putN_len (putN ns e.id) e.value
 split<;>omega
theorem putN_nodup {ns:List Sym} (h:ns.Nodup) (s:Sym):(putN ns s).Nodup:=by
 unfold putN
 split
 · rename_i h2
   rw [List.nodup_append]
   refine ⟨h,by simp,fun a ha b hb e=>?_⟩
   rw [List.mem_singleton] at hb
   subst hb e
   exact plV_zero.1 h2 ha
 · exact h
theorem namesE_nodup {ns:List Sym} (h:ns.Nodup) (e:Elem):(namesE ns e).Nodup:=by
 unfold namesE
 split
 · exact putN_nodup (putN_nodup h _) _
 · exact putN_nodup h _
theorem mem_putN {ns:List Sym} {s t:Sym}:t∈putN ns s↔t∈ns∨t=s:=by
 unfold putN
 split
 · simp
 · rename_i h
   refine ⟨.inl,fun h2=>h2.elim id fun e=>?_⟩
   subst e
   exact Classical.byContradiction fun h3=>h (plV_zero.2 h3)
def idN (ns:List Sym) (s:Sym):Int:=if plV ns s=0 then ns.length+1 else plV ns s
def rkN (ns:List Sym) (s:Sym):Int:=if s.kind≠1 then 0 else if plV ns s=0 then 2 else 1
def cmpAcc (a b:Bool):Int:=if a=b then 0 else if b=true then -1 else 1
theorem tc_acc:TC cmpAcc:=by
 constructor
 · intro x;simp [cmpAcc]
 · intro x y;cases x<;>cases y<;>simp [cmpAcc]
 · intro x y z;cases x<;>cases y<;>cases z<;>simp [cmpAcc]
def cmpV (ns:List Sym) (a b:Sym):Int:=
 if rkN ns a=0 then cmpSym a b else if rkN ns a=1 then cmpInt (plV ns a) (plV ns b) else 0
def aheadC (ns:List Sym) (a b:Elem):Int:=
 andThen (cmpInt (idN ns a.id) (idN ns b.id)) (andThen (cmpSym a.attr b.attr) (andThen (cmpAcc a.acc b.acc) (andThen (cmpInt (rkN ns a.value) (rkN ns b.value)) (andThen (cmpV ns a.value b.value) (cmpInt a.tag b.tag)))))
def keyS (ns:List Sym) (s:Sym):Sym:=if rkN ns s=0 then s else ⟨0,⟨#[]⟩,0⟩
def keyP (ns:List Sym) (s:Sym):Int:=if rkN ns s=1 then plV ns s else 0
theorem cmpV_key {ns:List Sym} {a b:Sym} (h:rkN ns a=rkN ns b):cmpV ns a b=andThen (cmpSym (keyS ns a) (keyS ns b)) (cmpInt (keyP ns a) (keyP ns b)):=by
 have hr : ∀x,cmpInt x x=0:=tc_int.refl
 have hs : ∀x,cmpSym x x=0:=tc_sym.refl
 unfold cmpV keyS keyP
 rw [← h]
 by_cases h0:rkN ns a=0
 · simp only [h0,if_true]
   rw [if_neg (by decide),if_neg (by decide),hr]
   unfold andThen
   split<;>simp [*]
 · by_cases h1:rkN ns a=1
   · simp only [h1,if_true]
     rw [if_neg (by decide),if_neg (by decide),if_neg (by decide),hs]
     simp [andThen]
   · simp [h0,h1,hr,hs,andThen]
def aheadK (ns:List Sym) (a b:Elem):Int:=
 andThen (cmpInt (idN ns a.id) (idN ns b.id)) (andThen (cmpSym a.attr b.attr) (andThen (cmpAcc a.acc b.acc) (andThen (cmpInt (rkN ns a.value) (rkN ns b.value)) (andThen (cmpSym (keyS ns a.value) (keyS ns b.value)) (andThen (cmpInt (keyP ns a.value) (keyP ns b.value)) (cmpInt a.tag b.tag))))))
theorem andThen_assoc (a b c:Int):andThen (andThen a b) c=andThen a (andThen b c):=by
 unfold andThen
 split<;>simp_all
theorem aheadC_K (ns:List Sym) (a b:Elem):aheadC ns a b=aheadK ns a b:=by
 unfold aheadC aheadK
 congr 3
 by_cases h:cmpInt (rkN ns a.value) (rkN ns b.value)=0
 · rw [cmpV_key (cmpInt_eq.1 h),andThen_assoc]
 · simp only [andThen,if_neg h]
theorem tc_ahead (ns:List Sym):TC (aheadC ns):=by
 have h:aheadC ns=aheadK ns:=by funext a b;exact aheadC_K ns a b
 rw [h]
 exact tc_andThen (f:=fun e:Elem=>idN ns e.id) (g:=fun e:Elem=>e) (c2:=fun a b:Elem=>andThen (cmpSym a.attr b.attr) (andThen (cmpAcc a.acc b.acc) (andThen (cmpInt (rkN ns a.value) (rkN ns b.value)) (andThen (cmpSym (keyS ns a.value) (keyS ns b.value)) (andThen (cmpInt (keyP ns a.value) (keyP ns b.value)) (cmpInt a.tag b.tag)))))) tc_int
  (tc_andThen (f:=fun e:Elem=>e.attr) (g:=fun e:Elem=>e) (c2:=fun a b:Elem=>andThen (cmpAcc a.acc b.acc) (andThen (cmpInt (rkN ns a.value) (rkN ns b.value)) (andThen (cmpSym (keyS ns a.value) (keyS ns b.value)) (andThen (cmpInt (keyP ns a.value) (keyP ns b.value)) (cmpInt a.tag b.tag))))) tc_sym
  (tc_andThen (f:=fun e:Elem=>e.acc) (g:=fun e:Elem=>e) (c2:=fun a b:Elem=>andThen (cmpInt (rkN ns a.value) (rkN ns b.value)) (andThen (cmpSym (keyS ns a.value) (keyS ns b.value)) (andThen (cmpInt (keyP ns a.value) (keyP ns b.value)) (cmpInt a.tag b.tag)))) tc_acc
  (tc_andThen (f:=fun e:Elem=>rkN ns e.value) (g:=fun e:Elem=>e) (c2:=fun a b:Elem=>andThen (cmpSym (keyS ns a.value) (keyS ns b.value)) (andThen (cmpInt (keyP ns a.value) (keyP ns b.value)) (cmpInt a.tag b.tag))) tc_int
  (tc_andThen (f:=fun e:Elem=>keyS ns e.value) (g:=fun e:Elem=>e) (c2:=fun a b:Elem=>andThen (cmpInt (keyP ns a.value) (keyP ns b.value)) (cmpInt a.tag b.tag)) tc_sym
  (tc_andThen (f:=fun e:Elem=>keyP ns e.value) (g:=fun e:Elem=>e.tag) (c2:=cmpInt) tc_int tc_int)))))
def aheadV (ns:List Sym) (a b:Elem):Bool:=decide (aheadC ns a b<0)
def canN (ns:List Sym) (e:Elem):Bool:=e.goal || !decide (plV ns e.id=0)
def bestS (ns:List Sym) (left:List Elem):Nat→Option Nat
 | 0=>none
 | i+1=>match left[i]? with
   | none=>bestS ns left i
   | some e=>if canN ns e=true then (match bestS ns left i with
    | none=>some i
    | some k=>match left[k]? with
      | none=>some i
      | some b=>if aheadV ns e b=true then some i else some k) else bestS ns left i
theorem bestS_lt {ns:List Sym} {left:List Elem} : ∀{i k:Nat},bestS ns left i=some k→k<i∧k<left.length
 | 0,_,h=>by cases h
 | i+1,k,h=>by
   rw [bestS] at h
   split at h
   · have:=bestS_lt h;omega
   · rename_i e he
     have hi:=(List.getElem?_eq_some_iff.1 he).1
     split at h
     · split at h
       · injection h with h;omega
       · rename_i j hj
         have:=bestS_lt hj
         split at h
         · injection h with h;omega
         · split at h
           · injection h with h;omega
           · injection h with h;omega
     · have:=bestS_lt h;omega
theorem bestS_best {ns:List Sym} {left:List Elem} : ∀{i k:Nat},bestS ns left i=some k→∃e,left[k]? = some e∧canN ns e=true∧∀j x,j<i→left[j]? = some x→canN ns x=true→aheadC ns e x≤0
 | 0,_,h=>by cases h
 | i+1,k,h=>by
   have T:=tc_ahead ns
   rw [bestS] at h
   cases he:left[i]? with
   | none=>
     rw [he] at h
     obtain ⟨e,h1,h2,h3⟩:=bestS_best h
     refine ⟨e,h1,h2,fun j x hj hx hc=>?_⟩
     by_cases h4:j=i
     · subst h4;rw [he] at hx;cases hx
     · exact h3 j x (by omega) hx hc
   | some y=>
     rw [he] at h
     simp only at h
     by_cases hy:canN ns y=true
     · rw [if_pos hy] at h
       cases hb:bestS ns left i with
       | none=>
         rw [hb] at h
         injection h with h
         subst h
         refine ⟨y,he,hy,fun j x hj hx hc=>?_⟩
         by_cases h4:j=i
         · subst h4;rw [he] at hx;injection hx with hx;subst hx;rw [T.refl];exact Int.le_refl _
         · exact absurd (bestS_none hb j x (by omega) hx) (by rw [hc];decide)
       | some m=>
         rw [hb] at h
         simp only at h
         obtain ⟨b,h1,h2,h3⟩:=bestS_best hb
         rw [h1] at h
         simp only at h
         by_cases hd:aheadV ns y b=true
         · rw [if_pos hd] at h
           injection h with h
           subst h
           have hd2:aheadC ns y b<0:=of_decide_eq_true hd
           refine ⟨y,he,hy,fun j x hj hx hc=>?_⟩
           by_cases h4:j=i
           · subst h4;rw [he] at hx;injection hx with hx;subst hx;rw [T.refl];exact Int.le_refl _
           · exact T.trans y b x (by omega) (h3 j x (by omega) hx hc)
         · rw [if_neg hd] at h
           injection h with h
           subst h
           have hd2 : ¬aheadC ns y b<0:=fun e=>hd (decide_eq_true e)
           refine ⟨b,h1,h2,fun j x hj hx hc=>?_⟩
           by_cases h4:j=i
           · subst h4
             rw [he] at hx
             injection hx with hx
             subst hx
             have h5:=T.symm y b
             omega
           · exact h3 j x (by omega) hx hc
     · rw [if_neg hy] at h
       obtain ⟨e,h1,h2,h3⟩:=bestS_best h
       refine ⟨e,h1,h2,fun j x hj hx hc=>?_⟩
       by_cases h4:j=i
       · subst h4;rw [he] at hx;injection hx with hx;subst hx;exact absurd hc hy
       · exact h3 j x (by omega) hx hc
where
 bestS_none {ns:List Sym} {left:List Elem} : ∀{i:Nat},bestS ns left i=none→∀j x,j<i→left[j]? = some x→canN ns x=false
 | 0,_,j,_,h,_=>by omega
 | i+1,hb,j,x,hj,hx=>by
   rw [bestS] at hb
   cases he:left[i]? with
   | none=>
     rw [he] at hb
     by_cases h4:j=i
     · subst h4;rw [he] at hx;cases hx
     · exact bestS_none hb j x (by omega) hx
   | some y=>
     rw [he] at hb
     simp only at hb
     split at hb
     · exfalso
       split at hb
       · cases hb
       · split at hb
         · cases hb
         · split at hb<;>cases hb
     · rename_i hy
       by_cases h4:j=i
       · subst h4;rw [he] at hx;injection hx with hx;subst hx;simpa using hy
       · exact bestS_none hb j x (by omega) hx
theorem bestS_none {ns:List Sym} {left:List Elem} {i:Nat} (h:bestS ns left i=none) : ∀j x,j<i→left[j]? = some x→canN ns x=false:=bestS_best.bestS_none h
def bestV (ns:List Sym) (left:List Elem):Option Nat:=bestS ns left left.length
def laidV:Nat→List Sym→List Elem→List Elem→Option (List Elem×List Sym)
 | 0,ns,_,out=>some (out,ns)
 | f+1,ns,left,out=>if left = [] then some (out,ns) else
   match bestV ns left with
   | none=>none
   | some k=>match left[k]? with
     | none=>none
     | some e=>laidV f (namesE ns e) (left.eraseIdx k) (out ++ [e])
def orderV (l:List Elem):Option (List Elem×List Sym):=laidV l.length [] l []
end Go.Proofs.YtldndkngpdfpfaaGreat
namespace Go.Proofs.YtldndkngpdfpfaaGreat
theorem laidV_step {f:Nat} {ns:List Sym} {left out:List Elem} {k:Nat} {e:Elem} (hb:bestV ns left=some k) (he:left[k]? = some e):laidV (f+1) ns left out=laidV f (namesE ns e) (left.eraseIdx k) (out ++ [e]):=by
 have hl:left≠[]:=by intro h;subst h;simp at he
 rw [laidV,if_neg hl,hb]
 simp only
 rw [he]
theorem laidV_none {f:Nat} {ns:List Sym} {left out:List Elem} (hl:left≠[]) (hb:bestV ns left=none):laidV (f+1) ns left out=none:=by
 rw [laidV,if_neg hl,hb]
theorem laidV_nil {f:Nat} {ns:List Sym} {out:List Elem}:laidV f ns [] out=some (out,ns):=by
 cases f with
 | zero=>rfl
 | succ f=>rw [laidV,if_pos rfl]
theorem best_at {ns:List Sym} {left:List Elem} {k:Nat} (h:bestV ns left=some k) : ∃e,left[k]? = some e∧canN ns e=true∧∀x∈left,canN ns x=true→aheadC ns e x≤0:=by
 obtain ⟨e,h1,h2,h3⟩:=bestS_best h
 refine ⟨e,h1,h2,fun x hx hc=>?_⟩
 obtain ⟨j,hj,rfl⟩:=List.getElem_of_mem hx
 exact h3 j _ hj (List.getElem?_eq_getElem hj) hc
theorem erase_perm : ∀{l:List Elem} {k:Nat} {e:Elem},l[k]? = some e→(e :: l.eraseIdx k).Perm l
 | [],_,_,h=>by simp at h
 | x :: l,0,e,h=>by simp at h;subst h;exact .refl _
 | x :: l,k+1,e,h=>by
   have:=erase_perm (l:=l) (k:=k) (e:=e) (by simpa using h)
   rw [List.eraseIdx_cons_succ]
   exact (List.Perm.swap x e _).trans (this.cons x)
theorem erase_len {l:List Elem} {k:Nat} {e:Elem} (h:l[k]? = some e):(l.eraseIdx k).length+1=l.length:=by
 have:=(erase_perm h).length_eq
 simpa using this
theorem laidV_told : ∀(f:Nat) (ns:List Sym) (l out:List Elem),l.length≤f→ns.Nodup→∀o n,laidV f ns l out=some (o,n)→
 o.Perm (out++l)∧n.Nodup∧n.length≤ns.length+2*l.length∧∀s,s∈n↔s∈ns∨∃e∈l,s=e.id∨(s=e.value∧e.value.kind=1)
 | 0,ns,l,out,hf,hn,o,n,h=>by
   obtain rfl:l = []:=List.length_eq_zero_iff.1 (by omega)
   injection h with h
   injection h with h1 h2
   subst h1 h2
   exact ⟨by simp,hn,by simp,fun s=>by simp⟩
 | f+1,ns,l,out,hf,hn,o,n,h=>by
   by_cases hl:l = []
   · subst hl
     rw [laidV_nil] at h
     injection h with h
     injection h with h1 h2
     subst h1 h2
     exact ⟨by simp,hn,by simp,fun s=>by simp⟩
   · cases hb:bestV ns l with
     | none=>rw [laidV_none hl hb] at h;cases h
     | some k=>
       obtain ⟨e,h1,_,_⟩:=best_at hb
       rw [laidV_step hb h1] at h
       have hlen:=erase_len h1
       obtain ⟨g1,g2,g3,g4⟩:=laidV_told f _ _ _ (by omega) (namesE_nodup hn e) o n h
       have p1:=erase_perm h1
       have hnl:=namesE_len ns e
       refine ⟨?_,g2,by omega,fun s=>?_⟩
       · refine g1.trans ?_
         rw [List.append_assoc]
         exact List.Perm.append_left _ p1
       · rw [g4 s]
         have hm : ∀x,x∈l↔x=e∨x∈l.eraseIdx k:=fun x=>by rw [← p1.mem_iff,List.mem_cons]
         have hs:s∈namesE ns e↔s∈ns∨s=e.id∨(s=e.value∧e.value.kind=1):=by
          unfold namesE
          by_cases hk:e.value.kind=1
          · rw [if_pos hk,mem_putN,mem_putN,or_assoc];simp [hk]
          · rw [if_neg hk,mem_putN];simp [hk]
         rw [hs]
         constructor
         · rintro ((q | q) | ⟨x,hx,q⟩)
           · exact .inl q
           · exact .inr ⟨e,(hm e).2 (.inl rfl),q⟩
           · exact .inr ⟨x,(hm x).2 (.inr hx),q⟩
         · rintro (q | ⟨x,hx,q⟩)
           · exact .inl (.inl q)
           · rcases (hm x).1 hx with rfl | hx
             · exact .inl (.inr q)
             · exact .inr ⟨x,hx,q⟩
theorem orderV_told {l o:List Elem} {n:List Sym} (h:orderV l=some (o,n)):o.Perm l∧n.Nodup∧n.length≤2*l.length∧∀s,s∈n↔∃e∈l,s=e.id∨(s=e.value∧e.value.kind=1):=by
 obtain ⟨h1,h2,h3,h4⟩:=laidV_told l.length [] l [] (Nat.le_refl _) .nil o n h
 exact ⟨by simpa using h1,h2,by simpa using h3,fun s=>by rw [h4 s];simp⟩
theorem andThen_ne {a:Int} (b:Int) (h:a≠0):andThen a b=a:=if_neg h
theorem andThen_eq {a:Int} (b:Int) (h:a=0):andThen a b=b:=if_pos h
end Go.Proofs.YtldndkngpdfpfaaGreat
namespace Go.Proofs.YtldndkngpdfpfaaGreat
open Go.RowKit
structure St where
 sn:Bool
 A:Option Addr
 c:Nat
def upd {β:Type} (S:Nat→β) (b:Nat) (l:β):Nat→β:=fun k=>if k=b then l else S k
theorem upd_same {β:Type} (S:Nat→β) (b:Nat) (l:β):upd S b l b=l:=by simp [upd]
theorem upd_ne {β:Type} (S:Nat→β) {b k:Nat} (l:β) (h:k≠b):upd S b l k=S k:=by simp [upd,h]
theorem upd_id {β:Type} (S:Nat→β) (b:Nat) (l:β) (h:S b=l):upd S b l=S:=by funext k;simp only [upd];split<;>simp_all
structure Sets {α:Type} (tSet tE size:Nat) (cells:α→List Value) (cmp:α→α→Int) (D:Nat→Prop) (w:World) (S:Nat→Option (List α)) (σ:Nat→St):Prop where
 at_ : ∀b l,S b=some l→SetAt tSet tE size cells w b (σ b).sn (σ b).A (σ b).c l
 srt : ∀b l,S b=some l→Srt cmp l
 out : ∀b l,S b=some l→¬D b∧((σ b).sn=false→AIn (σ b).A (fun k=>¬D k))
 apart : ∀b l b' l',S b=some l→S b'=some l'→b≠b'→(σ b).sn=false→∀a a',(σ b).A=some a→(σ b').A=some a'→a.block≠a'.block
 low : ∀k,D k→k<w.heap.size
section
variable {α:Type} {tSet tE size:Nat} {cells:α→List Value} {cmp:α→α→Int} {D D':Nat→Prop} {w w':World} {S:Nat→Option (List α)} {σ:Nat→St} {b b':Nat} {l l':List α}
theorem SetAt.far {sn:Bool} {A:Option Addr} {c:Nat} (h:SetAt tSet tE size cells w b sn A c l) {sn':Bool} {A':Option Addr} {c':Nat} (h':SetAt tSet tE size cells w b' sn' A' c' l') (hne:tE≠tSet):AIn A (·≠b'):=by
 intro a e hb
 have:=own_blk_ne h.row h'.blk hne
 subst e
 exact this (by simp [Value.ownBlock,hb])
theorem Sets.start (tSet tE size:Nat) (cells:α→List Value) (cmp:α→α→Int) (w:World):Sets tSet tE size cells cmp (· < w.heap.size) w (fun _=>none) (fun _=>⟨false,none,0⟩):=
 ⟨fun _ _ h=>by simp at h,fun _ _ h=>by simp at h,fun _ _ h=>by simp at h,fun _ _ _ _ h=>by simp at h,fun _ h=>h⟩
theorem Sets.lt (h:Sets tSet tE size cells cmp D w S σ) (hb:S b=some l):b<w.heap.size:=(h.at_ b l hb).lt
theorem Sets.below (h:Sets tSet tE size cells cmp D w S σ) (hw:Below w.heap.size w w'):Sets tSet tE size cells cmp D w' S σ:=
 ⟨fun b l hb=>(h.at_ b l hb).new_ hw,h.srt,h.out,h.apart,fun k hk=>Nat.lt_of_lt_of_le (h.low k hk) hw.size⟩
theorem Sets.weaken (h:Sets tSet tE size cells cmp D w S σ) (hD : ∀k,D' k→D k):Sets tSet tE size cells cmp D' w S σ:=
 ⟨h.at_,h.srt,fun b l hb=>⟨fun hk=>(h.out b l hb).1 (hD _ hk),fun hs=>((h.out b l hb).2 hs).mono (fun _ hk hd=>hk (hD _ hd))⟩,h.apart,fun k hk=>h.low k (hD k hk)⟩
theorem Sets.widen (h:Sets tSet tE size cells cmp D w S σ) (n:Nat) (hn : ∀b l,S b=some l→b<n∧((σ b).sn=false→AIn (σ b).A (· < n))):Sets tSet tE size cells cmp (fun k=>D k∨(n≤k∧k<w.heap.size)) w S σ:=
 ⟨h.at_,h.srt,fun b l hb=>⟨fun hk=>by
  rcases hk with hk | hk
  · exact (h.out b l hb).1 hk
  · have:=(hn b l hb).1;omega,fun hs a ha hk=>by
  rcases hk with hk | hk
  · exact (h.out b l hb).2 hs a ha hk
  · have:=(hn b l hb).2 hs a ha;omega⟩,h.apart,fun k hk=>by
  rcases hk with hk | hk
  · exact h.low k hk
  · exact hk.2⟩
theorem Sets.protect (h:Sets tSet tE size cells cmp D w S σ) (hw:Below w.heap.size w w'):Sets tSet tE size cells cmp (fun k=>D k∨(w.heap.size≤k∧k<w'.heap.size)) w' S σ:=
 (h.below hw).widen w.heap.size (fun b l hb=>⟨h.lt hb,fun _=>(h.at_ b l hb).row_lt⟩)
theorem Sets.mod (h:Sets tSet tE size cells cmp D w S σ) (hb:S b=some l) (hF:Fr (SetMod b (σ b).sn (σ b).A) w w'):Fr (fun k=>¬D k) w w':=
 hF.mono (fun k _ hk=>by
  rcases hk with rfl | ⟨hs,a,ha,rfl⟩
  · exact (h.out _ l hb).1
  · exact (h.out b l hb).2 hs a ha)
theorem Sets.moved (h:Sets tSet tE size cells cmp D w S σ) (hne:tE≠tSet) (hb:S b=some l) {sn':Bool} {A':Option Addr} {c':Nat} (h1:SetAt tSet tE size cells w' b sn' A' c' l') (hs:Srt cmp l')
 (hF:Fr (SetMod b (σ b).sn (σ b).A) w w') (hM:Moved w (σ b).sn (σ b).A sn' A'):Sets tSet tE size cells cmp D w' (upd S b (some l')) (upd σ b ⟨sn',A',c'⟩):=by
 have hB:=h.at_ b l hb
 refine ⟨fun k m hk=>?_,fun k m hk=>?_,fun k m hk=>?_,fun k m k' m' hk hk' hkk hsk a a' ha ha'=>?_,fun k hk=>Nat.lt_of_lt_of_le (h.low k hk) hF.size⟩
 · by_cases e:k=b
   · subst e;rw [upd_same] at hk ⊢;cases hk;exact h1
   · rw [upd_ne _ _ e] at hk ⊢
     have hK:=h.at_ k m hk
     refine hK.fr hF ?_ ?_
     · rintro (hx | ⟨hx,a,ha,hx2⟩)
       · exact e hx
       · exact hB.far hK hne a ha hx2
     · intro a ha hx
       rcases hx with hx | ⟨hx,a2,ha2,hx2⟩
       · exact hK.far hB hne a ha hx
       · exact h.apart b l k m hb hk (Ne.symm e) hx a2 a ha2 ha hx2
 · by_cases e:k=b
   · subst e;rw [upd_same] at hk;cases hk;exact hs
   · rw [upd_ne _ _ e] at hk;exact h.srt k m hk
 · by_cases e:k=b
   · subst e;rw [upd_same] at hk ⊢;cases hk
     refine ⟨(h.out _ _ hb).1,fun hs2=>?_⟩
     rcases hM with ⟨e1,e2⟩ | ⟨_,g,hg,e2⟩
     · simp only at hs2 ⊢;rw [e2];exact (h.out _ _ hb).2 (by rw [← e1];exact hs2)
     · simp only;rw [e2];intro a ha hd;cases ha;have:=h.low _ hd;simp at this;omega
   · rw [upd_ne _ _ e] at hk ⊢;exact h.out k m hk
 · by_cases e:k=b
   · subst e
     have e':k'≠k:=Ne.symm hkk
     rw [upd_ne _ _ e'] at hk' ha'
     rw [upd_same] at hsk ha
     simp only at hsk ha
     rcases hM with ⟨e1,e2⟩ | ⟨_,g,hg,e2⟩
     · exact h.apart k l k' m' hb hk' hkk (by rw [← e1];exact hsk) a a' (by rw [← e2];exact ha) ha'
     · rw [e2] at ha;cases ha
       have:=(h.at_ k' m' hk').row_lt a' ha'
       simp only;omega
   · rw [upd_ne _ _ e] at hk hsk ha
     by_cases e2:k'=b
     · subst e2
       rw [upd_same] at ha'
       simp only at ha'
       rcases hM with ⟨_,e3⟩ | ⟨_,g,hg,e3⟩
       · exact h.apart k m k' l hk hb hkk hsk a a' ha (by rw [← e3];exact ha')
       · rw [e3] at ha';cases ha'
         have:=(h.at_ k m hk).row_lt a ha
         simp only;omega
     · rw [upd_ne _ _ e2] at hk' ha'
       exact h.apart k m k' m' hk hk' hkk hsk a a' ha ha'
theorem Sets.seen (h:Sets tSet tE size cells cmp D w S σ) (hne:tE≠tSet) (hb:S b=some l) (h1:SetAt tSet tE size cells w' b true (σ b).A (σ b).c l) (hF:Fr (· = b) w w') :
 Sets tSet tE size cells cmp D w' S (upd σ b ⟨true,(σ b).A,(σ b).c⟩):=by
 have hB:=h.at_ b l hb
 refine ⟨fun k m hk=>?_,h.srt,fun k m hk=>?_,fun k m k' m' hk hk' hkk hsk a a' ha ha'=>?_,fun k hk=>Nat.lt_of_lt_of_le (h.low k hk) hF.size⟩
 · by_cases e:k=b
   · subst e;rw [upd_same];rw [hb] at hk;cases hk;exact h1
   · rw [upd_ne _ _ e]
     exact (h.at_ k m hk).fr hF e (fun a ha hx=>(h.at_ k m hk).far hB hne a ha hx)
 · refine ⟨(h.out k m hk).1,fun hs=>?_⟩
   by_cases e:k=b
   · subst e;rw [upd_same] at hs;cases hs
   · rw [upd_ne _ _ e] at hs ⊢;exact (h.out k m hk).2 hs
 · by_cases e:k=b
   · subst e;rw [upd_same] at hsk;cases hsk
   · rw [upd_ne _ _ e] at hsk ha
     by_cases e2:k'=b
     · subst e2;rw [upd_same] at ha';exact h.apart k m k' m' hk hk' hkk hsk a a' ha ha'
     · rw [upd_ne _ _ e2] at ha';exact h.apart k m k' m' hk hk' hkk hsk a a' ha ha'
theorem Sets.add (h:Sets tSet tE size cells cmp D w S σ) {k:Nat} {sn':Bool} {A':Option Addr} {c':Nat} (hk:w.heap.size≤k) (h1:SetAt tSet tE size cells w' k sn' A' c' l') (hs:Srt cmp l')
 (hA:AIn A' (w.heap.size≤·)∨(sn'=true∧∃b l,S b=some l∧(σ b).sn=true∧(σ b).A=A')) (hF:Below w.heap.size w w'):Sets tSet tE size cells cmp D w' (upd S k (some l')) (upd σ k ⟨sn',A',c'⟩):=by
 have hnk : ∀b l,S b=some l→b≠k:=fun b l hb e=>by have:=h.lt hb;omega
 refine ⟨fun b m hb=>?_,fun b m hb=>?_,fun b m hb=>?_,fun b m b' m' hb hb' hkk hsk a a' ha ha'=>?_,fun k hk=>Nat.lt_of_lt_of_le (h.low k hk) hF.size⟩
 · by_cases e:b=k
   · subst e;rw [upd_same] at hb ⊢;cases hb;exact h1
   · rw [upd_ne _ _ e] at hb ⊢;exact (h.at_ b m hb).new_ hF
 · by_cases e:b=k
   · subst e;rw [upd_same] at hb;cases hb;exact hs
   · rw [upd_ne _ _ e] at hb;exact h.srt b m hb
 · by_cases e:b=k
   · subst e;rw [upd_same] at hb ⊢;cases hb
     refine ⟨fun hd=>by have:=h.low _ hd;omega,fun hs2 a ha hd=>?_⟩
     have h3:=h.low _ hd
     rcases hA with hA | ⟨hA,_⟩
     · have:=hA a ha;omega
     · simp only at hs2;rw [hA] at hs2;cases hs2
   · rw [upd_ne _ _ e] at hb ⊢;exact h.out b m hb
 · by_cases e:b=k
   · subst e
     rw [upd_ne _ _ (Ne.symm hkk)] at hb' ha'
     rw [upd_same] at hsk ha
     simp only at hsk ha
     have h3:=(h.at_ b' m' hb').row_lt a' ha'
     rcases hA with hA | ⟨hA,_⟩
     · have:=hA a ha;omega
     · rw [hA] at hsk;cases hsk
   · rw [upd_ne _ _ e] at hb hsk ha
     have h3:=(h.at_ b m hb).row_lt a ha
     by_cases e2:b'=k
     · subst e2
       rw [upd_same] at ha'
       simp only at ha'
       rcases hA with hA | ⟨_,b2,l2,hb2,hs2,hA⟩
       · have:=hA a' ha';omega
       · by_cases e3:b=b2
         · subst e3;rw [hsk] at hs2;cases hs2
         · exact h.apart b m b2 l2 hb hb2 e3 hsk a a' ha (hA.trans ha')
     · rw [upd_ne _ _ e2] at hb' ha'
       exact h.apart b m b' m' hb hb' hkk hsk a a' ha ha'
end
end Go.Proofs.YtldndkngpdfpfaaGreat
namespace Go.Proofs.YtldndkngpdfpfaaGreat
open Go.RowKit
structure PgS where
 kk:Sym
 v:Int
 deriving DecidableEq
def PgS.cells (x:PgS):List Value:=[.int .i64 x.kk.kind,.string x.kk.text,.int .i64 x.kk.n,.int .i64 x.v]
theorem PgS.cells_length (x:PgS):x.cells.length=4:=rfl
def cmpPgS (a b:PgS):Int:=cmpSym a.kk b.kk
theorem tc_pgs:TC cmpPgS:=⟨fun _=>tc_sym.refl _,fun _ _=>tc_sym.symm _ _,fun _ _ _=>tc_sym.trans _ _ _⟩
theorem cmpPgS_eq {a b:PgS}:cmpPgS a b=0↔a.kk=b.kk:=cmpSym_eq
theorem nilAhead_ksym (a : Int) (b : ByteArray) (c : Int) (w : World) : (nilAhead 555 23 (.agg #[.int .i64 a, .string b, .int .i64 c]) "Compare").run Tryz.prog w = .ok (some false) w := by kernel_rfl
theorem method_ksym (a : Int) (b : ByteArray) (c : Int) (w : World) : (method 555 23 (.agg #[.int .i64 a, .string b, .int .i64 c]) "Compare").run Tryz.prog w = .ok (143, .agg #[.int .i64 a, .string b, .int .i64 c]) w := by kernel_rfl
set_option maxRecDepth 100000 in
set_option maxHeartbeats 4000000 in
theorem cmp_pgs (a b:PgS) (w:World):Calls Tryz.prog 326 #[.agg #[.int .i64 a.kk.kind,.string a.kk.text,.int .i64 a.kk.n,.int .i64 a.v],.agg #[.int .i64 b.kk.kind,.string b.kk.text,.int .i64 b.kk.n,.int .i64 b.v]] w fun e w'=>e = .returned (.int .i64 (cmpPgS a b))∧Below w.heap.size w w':=by
 have N:=nilAhead_ksym
 have M:=method_ksym
 go_enter Tryz.func326,Tryz.ntmps326
 go_wp2_with fail
 refine (cmp_sym a.kk b.kk _).mono ?_
 rintro e w1 ⟨rfl,hb1⟩
 have HB1:=Lib.hid ((((Below.refl w.heap.size w).alloc (Nat.le_refl _) _).alloc (by simp) _).trans (hb1.mono (by simp;omega)))
 clear hb1
 go_wp2_with fail
 go_ret
 exact ⟨rfl,HB1.out⟩
end Go.Proofs.YtldndkngpdfpfaaGreat
namespace Go.Proofs.YtldndkngpdfpfaaGreat
open Go.RowKit
abbrev PgSSet:=SetAt (α:=PgS) 281 224 4 PgS.cells
theorem nilAhead_PgS (k0 : Int) (k1 : ByteArray) (k2 : Int) (k3 : Int) (w : World) : (nilAhead 555 224 (.agg #[.int .i64 k0, .string k1, .int .i64 k2, .int .i64 k3]) "Compare").run Tryz.prog w = .ok (some false) w := by kernel_rfl
theorem method_PgS (k0 : Int) (k1 : ByteArray) (k2 : Int) (k3 : Int) (w : World) : (method 555 224 (.agg #[.int .i64 k0, .string k1, .int .i64 k2, .int .i64 k3]) "Compare").run Tryz.prog w = .ok (326, .agg #[.int .i64 k0, .string k1, .int .i64 k2, .int .i64 k3]) w := by kernel_rfl
def FoundPgS (l:List PgS) (x:PgS) (w:World) (e:Ending) (w':World):Prop:=
 e = .returned (.tuple #[.int .i64 (rank cmpPgS l x),.bool (has cmpPgS l x)])∧Below w.heap.size w w'
set_option maxRecDepth 100000 in
set_option maxHeartbeats 4000000 in
theorem find_PgS (b c:Nat) (sn:Bool) (A:Option Addr) (l:List PgS) (x:PgS) (w:World) (hS:PgSSet w b sn A c l) (hs:Srt cmpPgS l) (hl:(l.length:Int)≤4611686018427387904) :
 Calls Tryz.prog 187 #[.pointer (some ⟨b,0,none⟩),.agg #[.int .i64 x.kk.kind,.string x.kk.text,.int .i64 x.kk.n,.int .i64 x.v]] w (FoundPgS l x w):=by
 have hrd:=hS.rd PgS.cells_length
 have h0:=hS.cell0
 have hb:=hS.lt
 clear hS
 have HS:=Lib.hid hs
 have HRD:=Lib.hid hrd
 clear hs hrd
 go_enter Tryz.func187,Tryz.ntmps187
 go_wp2_with fail
 go_quiet (fail)
 go_wp2_with fail
 obtain ⟨W0,hW0⟩ : ∃W0,W0=((w.alloc (Obj.cells #[Value.int IntKind.i64 x.kk.kind,Value.string x.kk.text,Value.int IntKind.i64 x.kk.n,Value.int IntKind.i64 x.v] 224)).drewN nq):=⟨_,rfl⟩
 have hB0:Below w.heap.size w W0:=by rw [hW0];exact Below.drewN' ((Below.refl _ _).alloc (Nat.le_refl _) _) _
 have hx0:W0.cell? ⟨w.heap.size,0,none⟩=some (.int .i64 x.kk.kind):=by rw [hW0];go_simp
 have hx1:W0.cell? ⟨w.heap.size,1,none⟩=some (.string x.kk.text):=by rw [hW0];go_simp
 have hx2:W0.cell? ⟨w.heap.size,2,none⟩=some (.int .i64 x.kk.n):=by rw [hW0];go_simp
 have hx3:W0.cell? ⟨w.heap.size,3,none⟩=some (.int .i64 x.v):=by rw [hW0];go_simp
 rw [← hW0]
 clear hW0
 have HB0:=Lib.hid hB0
 clear hB0
 go_loopw [6,7] (fun lo hi wr=>∃i j:Nat,lo = .int .i64 i∧hi = .int .i64 j∧i≤j∧j≤l.length∧(∀k,(h:k<l.length)→k<i→cmpPgS l[k] x<0)∧(∀k,(h:k<l.length)→j≤k→0<cmpPgS l[k] x)∧Below W0.heap.size W0 wr) (fun lo hi wr=>(intOf hi).toNat - (intOf lo).toNat)
 case atStart=>exact ⟨0,l.length,rfl,rfl,Nat.zero_le _,Nat.le_refl _,fun k _ h=>absurd h (by omega),fun k h h'=>absurd h (by omega),Below.refl _ _⟩
 case round=>
  obtain ⟨i,j,rfl,rfl,hij,hj,hlo,hhi,hB⟩:=hrel
  have HLO:=Lib.hid hlo
  have HHI:=Lib.hid hhi
  clear hlo hhi
  have hsz:w.heap.size<W0.heap.size:=World.block_lt_of_cell? W0 _ hx0
  by_cases hlt:i<j
  · obtain ⟨m,hm⟩ : ∃m,m=i+(j - i) / 2:=⟨_,rfl⟩
    have hml:m<l.length:=by omega
    have hmj:m<j:=by omega
    have hmi:i≤m:=by omega
    have e1:((i:Int)+((j:Int) - (i:Int)) / 2)=(m:Int):=by omega
    have E1:=Lib.hid e1
    clear e1 hm
    obtain ⟨g,off,rfl,hgs,hcell⟩:=HRD.out.at_ hml
    have low : ∀(p:Addr),p.block<w.heap.size→wr.cell? p=w.cell? p:=fun p hp=>(hB.cell (p:=p) (by omega)).trans (HB0.out.cell (p:=p) hp)
    have r0:=(low ⟨b,0,none⟩ hb).trans h0
    have q0:=(low ⟨g,off+m*4,none⟩ hgs).trans (hcell 0 _ rfl)
    have q1:=(low ⟨g,off+m*4+1,none⟩ hgs).trans (hcell 1 _ rfl)
    have q2:=(low ⟨g,off+m*4+2,none⟩ hgs).trans (hcell 2 _ rfl)
    have q3:=(low ⟨g,off+m*4+3,none⟩ hgs).trans (hcell 3 _ rfl)
    have y0:=(hB.cell (p:=⟨w.heap.size,0,none⟩) hsz).trans hx0
    have y1:=(hB.cell (p:=⟨w.heap.size,1,none⟩) hsz).trans hx1
    have y2:=(hB.cell (p:=⟨w.heap.size,2,none⟩) hsz).trans hx2
    have y3:=(hB.cell (p:=⟨w.heap.size,3,none⟩) hsz).trans hx3
    have b1:(0:Int)≤(m:Int):=by omega
    have b2:(m:Int)<(l.length:Int):=by omega
    have hsw:W0.heap.size≤wr.heap.size:=hB.size
    have N:=nilAhead_PgS
    have M:=method_PgS
    clear low hcell hx0 hx1 hx2 hx3 h0
    have HB:=Lib.hid hB
    clear hB
    obtain ⟨y,hy⟩ : ∃y,y=l[m]:=⟨_,rfl⟩
    rw [← hy] at q0 q1 q2 q3
    have HY:=Lib.hid hy
    clear hy
    have hbw:b<wr.heap.size:=by omega
    have hgw:g<wr.heap.size:=by omega
    have hww:w.heap.size<wr.heap.size:=by omega
    go_wp2_with fail
    rw [E1.out]
    go_region_held3 (fun w'=>w'.cell? ⟨b,0,none⟩=some (.slice (some ⟨g,off,none⟩) l.length c)∧w'.cell? ⟨g,off+m*4,none⟩=some (.int .i64 y.kk.kind)∧w'.cell? ⟨g,off+m*4+1,none⟩=some (.string y.kk.text)∧w'.cell? ⟨g,off+m*4+2,none⟩=some (.int .i64 y.kk.n)∧w'.cell? ⟨g,off+m*4+3,none⟩=some (.int .i64 y.v)∧w'.cell? ⟨w.heap.size,0,none⟩=some (.int .i64 x.kk.kind)∧w'.cell? ⟨w.heap.size,1,none⟩=some (.string x.kk.text)∧w'.cell? ⟨w.heap.size,2,none⟩=some (.int .i64 x.kk.n)∧w'.cell? ⟨w.heap.size,3,none⟩=some (.int .i64 x.v))
     (first | go_keep | (refine ⟨?_,?_,?_,?_,?_,?_,?_,?_,?_⟩<;>exact (hb1.cell (by simpa using by assumption)).trans (by simp [*])))
     ((go_at_call 326;refine (cmp_pgs y x _).mono ?_;rintro e w1 ⟨rfl,hb1⟩))
    have HB1:Below W0.heap.size W0 w1:=HB.out.drew.trans (hb1.mono hsw)
    clear r0 q0 q1 q2 q3 y0 y1 y2 y3 N M
    by_cases hc:cmpPgS y x=0
    · have HC:=Lib.hid hc
      have t1:(cmpPgS y x == 0)=true:=by simp [hc]
      clear hc
      go_wp2_with fail
      go_ret2
      have e:=HC.out
      rw [HY.out] at e
      refine ⟨?_,HB0.out.trans (HB1.mono (by omega))⟩
      rw [rank_some tc_pgs HS.out hml e,(at_some tc_pgs HS.out hml e).2.2.1]
      rfl
    · have t1:(cmpPgS y x == 0)=false:=by simp [hc]
      by_cases hc2:cmpPgS y x<0
      · have HC:=Lib.hid hc2
        have t2:decide (cmpPgS y x<0)=true:=by simpa using hc2
        clear hc hc2
        go_wp2_with fail
        go_roundw
        case rel=>
         refine ⟨m+1,j,by go_num,rfl,by omega,hj,fun k h1 h2=>?_,HHI.out,HB1⟩
         have e:=HC.out
         rw [HY.out] at e
         rcases Nat.lt_or_ge k m with h3 | h3
         · exact tc_pgs.lt_of_lt_of_le (HS.out.lt h3 hml) (by omega)
         · obtain rfl:k=m:=by omega
           exact e
        case measure=>simp [intOf];omega
      · have t2:decide (cmpPgS y x<0)=false:=by simpa using hc2
        have hc3:0<cmpPgS y x:=by omega
        have HC:=Lib.hid hc3
        clear hc hc2 hc3
        go_wp2_with fail
        go_roundw
        case rel=>
         refine ⟨i,m,rfl,rfl,by omega,by omega,HLO.out,fun k h1 h2=>?_,HB1⟩
         have e:=HC.out
         rw [HY.out] at e
         rcases Nat.lt_or_ge m k with h3 | h3
         · exact (tc_pgs.symm _ _).1 (tc_pgs.lt_trans ((tc_pgs.symm _ _).2 e) (HS.out.lt h3 h1))
         · obtain rfl:k=m:=by omega
           exact e
        case measure=>simp [intOf];omega
  · obtain rfl:i=j:=by omega
    have HB:=Lib.hid hB
    clear hB
    go_wp2_with fail
    go_ret2
    refine ⟨?_,HB0.out.trans (HB.out.mono (by omega))⟩
    rw [rank_none hj HLO.out HHI.out,(at_none HLO.out HHI.out).2.2]
    rfl
end Go.Proofs.YtldndkngpdfpfaaGreat
namespace Go.Proofs.YtldndkngpdfpfaaGreat
open Go.RowKit
theorem info_PgS:(Tryz.prog.info? 224).map (fun i=>(i.zero,i.size,i.bytes))=some (some (.agg #[.int .i64 0,.string ⟨#[]⟩,.int .i64 0,.int .i64 0]),4,40):=by kernel_rfl
theorem PgS.one (x:PgS) : ∀u∈PgS.cells x,u.oneCell'=true:=by intro u hu;simp [PgS.cells] at hu;rcases hu with rfl | rfl | rfl | rfl<;>rfl
theorem PgS.oneAll (l:List PgS) : ∀u∈l.flatMap PgS.cells,u.oneCell'=true:=by intro u hu;obtain ⟨x,_,hx⟩:=List.mem_flatMap.1 hu;exact PgS.one x u hx
def OwnPostPgS (w:World) (b:Nat) (sn:Bool) (A:Option Addr) (l:List PgS) (e:Ending) (w':World):Prop:=
 e = .returned (.tuple #[])∧∃A' c',PgSSet w' b false A' c' l∧Fr (· = b) w w'∧Moved w sn A false A'
set_option maxRecDepth 100000 in
set_option maxHeartbeats 1000000 in
theorem own_no_PgS (b c:Nat) (A:Option Addr) (l:List PgS) (w:World) (hS:PgSSet w b false A c l) :
 Calls Tryz.prog 225 #[.pointer (some ⟨b,0,none⟩)] w (OwnPostPgS w b false A l):=by
 have h1:=hS.cell1
 have HS:=Lib.hid hS
 clear hS
 go_enter Tryz.func225,Tryz.ntmps225
 go_wp2
 go_end0
 exact ⟨rfl,A,c,HS.out,Fr.refl _ _,.inl ⟨rfl,rfl⟩⟩
set_option maxRecDepth 100000 in
set_option maxHeartbeats 1000000 in
theorem own_yes_PgS (b c:Nat) (A:Option Addr) (l:List PgS) (w:World) (hS:PgSSet w b true A c l) (hl:(l.length:Int)≤1000000000) :
 Calls Tryz.prog 225 #[.pointer (some ⟨b,0,none⟩)] w (OwnPostPgS w b true A l):=by
 obtain ⟨i0,hi,hz0,hz1,hz2⟩:=info_parts info_PgS
 have h0:=hS.cell0
 have h1:=hS.cell1
 have hb:=hS.lt
 have f0:=hS.blk.frozen 0
 have f1:=hS.blk.frozen 1
 have hrd:=hS.rd PgS.cells_length
 have HB:=Lib.hid hS.blk
 have HRD:=Lib.hid hrd
 clear hS hrd
 have e1:IntKind.i64.wrap ((l.length:Int)+1)=(l.length:Int)+1:=IntWalk.i64_in _ (by omega)
 have hmk : ∀W:World,(Instr.makeSlice 279 (.int .i64 0) (.int .i64 ((l.length:Int)+1))).run Tryz.prog W = .ok (.slice (some ⟨W.heap.size,0,none⟩) 0 (l.length+1)) (W.alloc (.cells (madeCells (Value.cells (.agg #[.int .i64 0,.string ⟨#[]⟩,.int .i64 0,.int .i64 0])) ((l.length+1)*4)) 224)):=fun W=>by
  have h:=run_make (P:=Tryz.prog) W 279 224 i0 _ Tryz.underlying279 hi hz0 .i64 .i64 0 ((l.length:Int)+1) (by omega) (by omega) (by rw [hz2];omega) (by omega)
  rw [hz1] at h
  simpa [show ((l.length:Int)+1).toNat=l.length+1 by omega] using h
 go_enter Tryz.func225,Tryz.ntmps225
 go_wp2_with fail
 refine wp_region_E (fun w9=>Below w.heap.size w w9) [(0,0),(1,0),(2,0),(3,0),(4,1),(5,0),(6,0),(8,0),(9,0),(10,0),(11,1),(7,2),(12,2),(13,0),(14,0),(15,2)] (by kernel_rfl) (by kernel_rfl) (fun KK hKK=>?_)
 simp only [beside,List.filterMap_cons,List.filterMap_nil,List.getElem?_toArray,List.getElem?_cons_zero,List.getElem?_cons_succ,Option.map_some]
 repeat ((first | (refine wpX_w ?_ (Or.inl ⟨by rfl,fun w9=>?_⟩) ?_;rotate_left 1;go_simp;with_reducible rfl) | (refine wpX_l ?_ (((Below.refl _ _).drew)) (Or.inl ⟨by rfl,fun w9 hw9=>?_⟩) ?_;rotate_left 1;obtain ⟨hc9,hf9⟩:=bcell hw9;go_simp;with_reducible rfl) | refine wpX_w undef (Or.inr ⟨by rfl,rfl⟩) ?_ | refine wpX_l undef (((Below.refl _ _).drew)) (Or.inr ⟨by rfl,rfl⟩) ?_);go_frame)
 refine wpX_es (fun K9 hK9=>?_)
 go_simp
 refine hK9 _ _ (((Below.refl _ _).drew).alloc (Nat.le_refl _) _) ?_
 clear hK9 K9
 refine wpX_e (by kernel_rfl) (fun K9 hK9=>?_)
 refine step_append_src _ (by rfl) _ _ _ (by rfl) 224 i0 _ 4 40 Tryz.underlying279 hi hz0 hz1 hz2 rfl (by omega) _ 0 [] (by rfl) (World.ownsRow_made _ _ _ (Nat.zero_le _) (by unfold maxLen;omega) (by simp [madeCells])) A l.length c (l.flatMap PgS.cells) (by rfl) (flat_length PgS.cells_length l)
  ((HRD.out.drew.alloc _).news PgS.cells_length (by omega)) (PgS.oneAll l) (by unfold maxLen;omega) (by omega) ?_
 intro v2 w2 hown hgr hnil hat
 refine hK9 _ _ ?_
 clear hK9 K9
 rw [Nat.zero_add,List.nil_append] at hown
 obtain ⟨A',c',rfl,_,_,hz⟩:=own_form2 hown
 have HB1:=(HB.out.drew.alloc (.cells (madeCells (Value.cells (.agg #[.int .i64 0,.string ⟨#[]⟩,.int .i64 0,.int .i64 0])) ((l.length+1)*4)) 224)).grown hgr (by simp [Value.ownBlock];omega)
 have c0:=(HB1.cell 0).trans rfl
 have c1:=(HB1.cell 1).trans rfl
 have z0:=HB1.frozen 0
 have z1:=HB1.frozen 1
 have HB2:=Lib.hid HB1
 clear HB1
 repeat ((first | (refine wpX_w ?_ (Or.inl ⟨by rfl,fun w9=>?_⟩) ?_;rotate_left 1;go_simp;with_reducible rfl) | (refine wpX_l ?_ (((Below.refl _ _).drew).alloc (Nat.le_refl _) _) (Or.inl ⟨by rfl,fun w9 hw9=>?_⟩) ?_;rotate_left 1;obtain ⟨hc9,hf9⟩:=bcell hw9;go_simp;with_reducible rfl) | refine wpX_w undef (Or.inr ⟨by rfl,rfl⟩) ?_ | refine wpX_l undef (((Below.refl _ _).drew).alloc (Nat.le_refl _) _) (Or.inr ⟨by rfl,rfl⟩) ?_);go_frame)
 refine wpX_e (by kernel_rfl) (fun K9 hK9=>?_)
 go_simp
 refine hK9 _ _ ?_
 clear hK9 K9
 refine wpX_nil ?_
 simp only [OnlyN_normal]
 refine hKK _ _ ?_
 clear hKK KK
 go_wp2
 go_end0
 have hb2:(Value.slice A' l.length c').ownBlock=some w.heap.size∨(Value.slice A' l.length c').ownBlock=some (w.heap.size+1):=by
  rcases hat with h | h
  · left;rw [h];rfl
  · right;rw [h];simp
 have hA : ∃g,w.heap.size≤g∧A'=some ⟨g,0,none⟩:=by
  rcases A' with _ | a
  · exfalso;simp [Value.ownBlock] at hb2
  · obtain ⟨g,rfl⟩:=hz a rfl
    refine ⟨g,?_,rfl⟩
    simp [Value.ownBlock] at hb2
    omega
 obtain ⟨g,hg,rfl⟩:=hA
 have HB1:=HB2.out
 have HF:Fr (· = b) w w2:=((Fr.refl (· = b) w).drew.alloc _).grown hgr (fun k e=>by simp [Value.ownBlock] at e;right;omega)
 refine ⟨rfl,some ⟨g,0,none⟩,c',⟨(HB1.set_ 0 _).set_ 1 _,?_⟩,(HF.setCell (p:=⟨b,0,none⟩) (.inl rfl) _).setCell (p:=⟨b,1,none⟩) (.inl rfl) _,.inr ⟨rfl,g,hg,rfl⟩⟩
 have hne:(Value.slice (some ⟨g,0,none⟩) l.length c').ownBlock≠some b:=by simp [Value.ownBlock];omega
 exact ownsRow_setCell_other (a:=⟨b,1,none⟩) (ownsRow_setCell_other (a:=⟨b,0,none⟩) hown hne _) hne _
theorem own_PgS (b c:Nat) (sn:Bool) (A:Option Addr) (l:List PgS) (w:World) (hS:PgSSet w b sn A c l) (hl:(l.length:Int)≤1000000000) :
 Calls Tryz.prog 225 #[.pointer (some ⟨b,0,none⟩)] w (OwnPostPgS w b sn A l):=by
 cases sn
 · exact own_no_PgS b c A l w hS
 · exact own_yes_PgS b c A l w hS hl
end Go.Proofs.YtldndkngpdfpfaaGreat
namespace Go.Proofs.YtldndkngpdfpfaaGreat
open Go.RowKit
def PutPostPgS (w:World) (b:Nat) (sn:Bool) (A:Option Addr) (l:List PgS) (x:PgS) (e:Ending) (w':World):Prop:=
 e = .returned (.bool (!has cmpPgS l x))∧∃sn' A' c',PgSSet w' b sn' A' c' (put cmpPgS l x)∧Fr (SetMod b sn A) w w'∧Moved w sn A sn' A'
set_option maxRecDepth 100000 in
set_option maxHeartbeats 1000000 in
theorem put_there_PgS (b c:Nat) (sn:Bool) (A:Option Addr) (l:List PgS) (x:PgS) (w:World) (hS:PgSSet w b sn A c l) (hs:Srt cmpPgS l) (hl:(l.length:Int)≤100000000) (hh:has cmpPgS l x=true) :
 Calls Tryz.prog 183 #[.pointer (some ⟨b,0,none⟩),.agg #[.int .i64 x.kk.kind,.string x.kk.text,.int .i64 x.kk.n,.int .i64 x.v]] w (PutPostPgS w b sn A l x):=by
 have HS:=Lib.hid hS
 have HO:=Lib.hid hs
 clear hS hs
 go_enter Tryz.func183,Tryz.ntmps183
 go_wp2_with fail
 refine (find_PgS b c sn A l x _ (HS.out.new_ ((Below.refl _ _).alloc (Nat.le_refl _) _)) HO.out (by omega)).mono ?_
 rintro e w1 ⟨rfl,hb1⟩
 go_wp2_with fail
 go_ret
 refine ⟨by rw [hh];rfl,sn,A,c,?_,Fr.of_new (((Below.refl _ _).alloc (Nat.le_refl _) _).trans (hb1.mono (by simp))),.inl ⟨rfl,rfl⟩⟩
 rw [put_has hh]
 exact HS.out.new_ (((Below.refl _ _).alloc (Nat.le_refl _) _).trans (hb1.mono (by simp)))
set_option maxRecDepth 100000 in
set_option maxHeartbeats 4000000 in
theorem put_new_PgS (b c:Nat) (sn:Bool) (A:Option Addr) (l:List PgS) (x:PgS) (w:World) (hS:PgSSet w b sn A c l) (hs:Srt cmpPgS l) (hl:(l.length:Int)≤100000000) (hh:has cmpPgS l x=false) :
 Calls Tryz.prog 183 #[.pointer (some ⟨b,0,none⟩),.agg #[.int .i64 x.kk.kind,.string x.kk.text,.int .i64 x.kk.n,.int .i64 x.v]] w (PutPostPgS w b sn A l x):=by
 obtain ⟨i0,hi,hz0,hz1,hz2⟩:=info_parts info_PgS
 have HS:=Lib.hid hS
 have HO:=Lib.hid hs
 have hb:=hS.lt
 clear hS hs
 have hrk:=rank_le (cmp:=cmpPgS) l x
 go_enter Tryz.func183,Tryz.ntmps183
 go_wp2_with fail
 have hSa:=HS.out.new_ ((Below.refl w.heap.size w).alloc (Nat.le_refl _) (.cells #[Value.int IntKind.i64 x.kk.kind,Value.string x.kk.text,Value.int IntKind.i64 x.kk.n,Value.int IntKind.i64 x.v] 224))
 have HSa:=Lib.hid hSa
 clear hSa
 refine (find_PgS b c sn A l x _ HSa.out HO.out (by omega)).mono ?_
 rintro e w1 ⟨rfl,hb1⟩
 have HS1:=Lib.hid (HSa.out.new_ hb1)
 have hsz1:w.heap.size+1≤w1.heap.size:=by have:=hb1.size;(try simp at this);omega
 have y0:=(hb1.cell (p:=⟨w.heap.size,0,none⟩) (by simp)).trans ((Blk.new w 224 #[Value.int IntKind.i64 x.kk.kind,Value.string x.kk.text,Value.int IntKind.i64 x.kk.n,Value.int IntKind.i64 x.v]).cell 0)
 have y1:=(hb1.cell (p:=⟨w.heap.size,1,none⟩) (by simp)).trans ((Blk.new w 224 #[Value.int IntKind.i64 x.kk.kind,Value.string x.kk.text,Value.int IntKind.i64 x.kk.n,Value.int IntKind.i64 x.v]).cell 1)
 have y2:=(hb1.cell (p:=⟨w.heap.size,2,none⟩) (by simp)).trans ((Blk.new w 224 #[Value.int IntKind.i64 x.kk.kind,Value.string x.kk.text,Value.int IntKind.i64 x.kk.n,Value.int IntKind.i64 x.v]).cell 2)
 have y3:=(hb1.cell (p:=⟨w.heap.size,3,none⟩) (by simp)).trans ((Blk.new w 224 #[Value.int IntKind.i64 x.kk.kind,Value.string x.kk.text,Value.int IntKind.i64 x.kk.n,Value.int IntKind.i64 x.v]).cell 3)
 have HB1:=Lib.hid hb1
 clear hb1
 go_wp2_with fail
 refine (own_PgS b c sn A l _ HS1.out (by omega)).mono ?_
 rintro e w2 ⟨rfl,A1,c1,hS2,hF2,hM2⟩
 have hsz2:w1.heap.size≤w2.heap.size:=hF2.size
 have x0:w2.cell? ⟨w.heap.size,0,none⟩=some (.int .i64 x.kk.kind):=(hF2.cell (p:=⟨w.heap.size,0,none⟩) (by dsimp only;omega) (by dsimp only;omega)).trans y0
 have x1:w2.cell? ⟨w.heap.size,1,none⟩=some (.string x.kk.text):=(hF2.cell (p:=⟨w.heap.size,1,none⟩) (by dsimp only;omega) (by dsimp only;omega)).trans y1
 have x2:w2.cell? ⟨w.heap.size,2,none⟩=some (.int .i64 x.kk.n):=(hF2.cell (p:=⟨w.heap.size,2,none⟩) (by dsimp only;omega) (by dsimp only;omega)).trans y2
 have x3:w2.cell? ⟨w.heap.size,3,none⟩=some (.int .i64 x.v):=(hF2.cell (p:=⟨w.heap.size,3,none⟩) (by dsimp only;omega) (by dsimp only;omega)).trans y3
 have s0:=hS2.cell0
 have f0:=hS2.blk.frozen 0
 have hb2:b<w2.heap.size:=by omega
 have hk2:w.heap.size<w2.heap.size:=by omega
 have HS2:=Lib.hid hS2
 have HF2:=Lib.hid hF2
 have HM2:=Lib.hid hM2
 clear hS2 hF2 hM2 y0 y1 y2 y3
 go_wp2_with fail
 refine wp_region_E (fun w9=>Below w2.heap.size w2 w9) [(0,0),(1,0),(2,0),(3,0),(4,1),(5,1),(6,2),(7,2),(8,0),(9,0),(10,2)] (by kernel_rfl) (by kernel_rfl) (fun KK hKK=>?_)
 simp only [beside,List.filterMap_cons,List.filterMap_nil,List.getElem?_toArray,List.getElem?_cons_zero,List.getElem?_cons_succ,Option.map_some]
 repeat ((first | (refine wpX_w ?_ (Or.inl ⟨by rfl,fun w9=>?_⟩) ?_;rotate_left 1;go_simp;with_reducible rfl) | (refine wpX_l ?_ (((Below.refl _ _).drew)) (Or.inl ⟨by rfl,fun w9 hw9=>?_⟩) ?_;rotate_left 1;obtain ⟨hc9,hf9⟩:=bcell hw9;go_simp;with_reducible rfl) | refine wpX_w undef (Or.inr ⟨by rfl,rfl⟩) ?_ | refine wpX_l undef (((Below.refl _ _).drew)) (Or.inr ⟨by rfl,rfl⟩) ?_);go_frame)
 refine wpX_es (fun K9 hK9=>?_)
 go_simp
 refine hK9 _ _ (((Below.refl _ _).drew).alloc (Nat.le_refl _) _) ?_
 clear hK9 K9
 refine wpX_e (by kernel_rfl) (fun K9 hK9=>?_)
 refine step_append_src _ (by rfl) _ _ _ (by rfl) 224 i0 _ 4 40 Tryz.underlying279 hi hz0 hz1 hz2 rfl (by omega) _ l.length (l.flatMap PgS.cells) (by rfl) (ownsRow_new HS2.out.row (((Below.refl _ _).drew).alloc (Nat.le_refl _) _)) (some ⟨w2.heap.size,0,none⟩) 1 1 (PgS.cells x) (by rfl) (by rfl)
  (fun _=>⟨_,rfl,World.news_of_block (heap_alloc_new _ _)⟩) (PgS.one x) (by unfold maxLen;omega) (by omega) ?_
 intro v2 w3 hown hgr hnil hat
 refine hK9 _ _ ?_
 clear hK9 K9
 obtain ⟨g,c2,rfl⟩ : ∃g c2,v2 = .slice (some ⟨g,0,none⟩) (l.length+1) c2:=by
  rcases ownsRow_form hown with ⟨_,h0,_⟩ | ⟨g,c2,h,_⟩
  · omega
  · exact ⟨g,c2,h⟩
 have HXN:(Value.slice A1 l.length c1).ownBlock≠some w.heap.size:=by
  intro h
  rcases HM2.out with ⟨hsn,hA⟩ | ⟨_,g2,hg2,hA⟩
  · rcases A1 with _ | a1
    · cases h
    · have h1:=HS.out.row_lt _ hA.symm
      simp only [Value.ownBlock,Option.some.injEq] at h
      omega
  · subst hA
    simp only [Value.ownBlock,Option.some.injEq] at h
    omega
 have HB3':=(HS2.out.blk.drew.alloc (.cells #[Value.int IntKind.i64 x.kk.kind,Value.string x.kk.text,Value.int IntKind.i64 x.kk.n,Value.int IntKind.i64 x.v] 224)).grown hgr (own_blk_ne HS2.out.row HS2.out.blk (by decide))
 have c0:=(HB3'.cell 0).trans rfl
 have z0:=HB3'.frozen 0
 have HB3:=Lib.hid HB3'
 have HOWN:=Lib.hid hown
 have HGR:=Lib.hid hgr
 clear HB3' hown hgr
 repeat ((first | (refine wpX_w ?_ (Or.inl ⟨by rfl,fun w9=>?_⟩) ?_;rotate_left 1;go_simp;with_reducible rfl) | (refine wpX_l ?_ (((Below.refl _ _).drew).alloc (Nat.le_refl _) _) (Or.inl ⟨by rfl,fun w9 hw9=>?_⟩) ?_;rotate_left 1;obtain ⟨hc9,hf9⟩:=bcell hw9;go_simp;with_reducible rfl) | refine wpX_w undef (Or.inr ⟨by rfl,rfl⟩) ?_ | refine wpX_l undef (((Below.refl _ _).drew).alloc (Nat.le_refl _) _) (Or.inr ⟨by rfl,rfl⟩) ?_);go_frame)
 refine wpX_e (by kernel_rfl) (fun K9 hK9=>?_)
 go_simp
 refine hK9 _ _ ?_
 clear hK9 K9
 refine wpX_nil ?_
 simp only [OnlyN_normal]
 refine hKK _ _ ?_
 clear hKK KK
 have hlg:((l.length+1:Nat):Int)=(l.length:Int)+1:=by omega
 have hG:(SetMod b sn A g∨w.heap.size≤g)∧Moved w sn A false (some ⟨g,0,none⟩)∧g≠w.heap.size∧g≠b:=by
  rcases hat with h | h
  · rcases A1 with _ | a1
    · simp [Value.ownBlock] at h
    · obtain ⟨A',c',hv,_,_,hz⟩:=own_form2 HS2.out.row
      injection hv with hv _ _
      obtain ⟨g',rfl⟩:=hz a1 hv.symm
      have hgg:g'=g:=by simpa [Value.ownBlock] using h.symm
      subst hgg
      have hne:g'≠b:=HS2.out.row_ne (by decide) _ rfl
      rcases HM2.out with ⟨hsn,hA⟩ | ⟨_,g2,hg2,hA⟩
      · have h1:=HS.out.row_lt _ hA.symm
        exact ⟨.inl (.inr ⟨hsn.symm,_,hA.symm,rfl⟩),.inl ⟨hsn,hA⟩,by dsimp only at h1;omega,hne⟩
      · injection hA with hA
        injection hA with hA
        subst hA
        exact ⟨.inr (by omega),.inr ⟨rfl,_,by omega,rfl⟩,by omega,hne⟩
  · have hgg:g=w2.heap.size+1:=by simpa [Value.ownBlock] using h
    subst hgg
    exact ⟨.inr (by omega),.inr ⟨rfl,_,by omega,rfl⟩,by omega,by omega⟩
 obtain ⟨hgM,hgMv,hgk1,hgb⟩:=hG
 obtain ⟨w4,hw4⟩ : ∃w4,w4=w3.setCell ⟨b,0,none⟩ (.slice (some ⟨g,0,none⟩) (l.length+1) c2):=⟨_,rfl⟩
 have hB4:Blk w4 b 281 #[.slice (some ⟨g,0,none⟩) (l.length+1) c2,.bool false]:=by rw [hw4];exact HB3.out.set_ 0 _
 have hR4:w4.ownsRow 0 224 4 (.slice (some ⟨g,0,none⟩) (l.length+1) c2) (l.length+1) ((shiftAt l x l.length).flatMap PgS.cells):=by
  rw [hw4,shiftAt_start]
  refine ownsRow_setCell_other (a:=⟨b,0,none⟩) ?_ (by simpa [Value.ownBlock] using hgb) _
  rw [List.flatMap_append,List.flatMap_singleton]
  exact HOWN.out
 have hF4:Fr (SetMod b sn A) w w4:=by
  rw [hw4]
  have h1:Fr (SetMod b sn A) w w1:=Fr.of_new (((Below.refl _ _).alloc (Nat.le_refl _) _).trans (HB1.out.mono (by simp)))
  have h2:Fr (SetMod b sn A) w w2:=h1.trans (HF2.out.mono (fun k _ h=>.inl h))
  refine ((h2.drew.alloc _).grown HGR.out (fun k hk=>?_)).setCell (p:=⟨b,0,none⟩) (.inl (.inl rfl)) _
  rcases A1 with _ | a1
  · cases hk
  · simp only [Value.ownBlock,Option.some.injEq] at hk
    subst hk
    rcases HM2.out with ⟨hsn,hA⟩ | ⟨_,g',hg',hA⟩
    · left;right;exact ⟨hsn.symm,a1,hA.symm,rfl⟩
    · injection hA with hA
      subst hA
      right;dsimp only;omega
 have z0:w4.cell? ⟨w.heap.size,0,none⟩=some (.int .i64 x.kk.kind):=by
  rw [hw4,World.cell?_setCell_other _ _ _ _ (by intro h;injection h;omega)]
  refine HGR.out.cell ((World.cell?_alloc_lt w2.drew _ ⟨w.heap.size,0,none⟩ hk2).trans x0) ?_
  intro h
  exact HXN (by simpa using h.symm)
 have z1:w4.cell? ⟨w.heap.size,1,none⟩=some (.string x.kk.text):=by
  rw [hw4,World.cell?_setCell_other _ _ _ _ (by intro h;injection h;omega)]
  refine HGR.out.cell ((World.cell?_alloc_lt w2.drew _ ⟨w.heap.size,1,none⟩ hk2).trans x1) ?_
  intro h
  exact HXN (by simpa using h.symm)
 have z2:w4.cell? ⟨w.heap.size,2,none⟩=some (.int .i64 x.kk.n):=by
  rw [hw4,World.cell?_setCell_other _ _ _ _ (by intro h;injection h;omega)]
  refine HGR.out.cell ((World.cell?_alloc_lt w2.drew _ ⟨w.heap.size,2,none⟩ hk2).trans x2) ?_
  intro h
  exact HXN (by simpa using h.symm)
 have z3:w4.cell? ⟨w.heap.size,3,none⟩=some (.int .i64 x.v):=by
  rw [hw4,World.cell?_setCell_other _ _ _ _ (by intro h;injection h;omega)]
  refine HGR.out.cell ((World.cell?_alloc_lt w2.drew _ ⟨w.heap.size,3,none⟩ hk2).trans x3) ?_
  intro h
  exact HXN (by simpa using h.symm)
 have hk4:w.heap.size<w4.heap.size:=by rw [hw4];have:=HGR.out.size;simp at this ⊢;omega
 rw [← hw4]
 have HgM:=Lib.hid hgM
 have HgMv:=Lib.hid hgMv
 have HB4:=Lib.hid hB4
 have HR4:=Lib.hid hR4
 have HF4:=Lib.hid hF4
 have s4:=hB4.cell 0
 have s4':w4.cell? ⟨b,0,none⟩=some (.slice (some ⟨g,0,none⟩) (l.length+1) c2):=s4
 clear s4 hw4 hB4 hR4 hF4 hat hgM hgMv hnil x0 x1 x2 x3 s0 f0
 go_wp2_with fail
 go_loopw [7] (fun s wr=>∃i:Nat,s = .int .i64 i∧rank cmpPgS l x≤i∧i≤l.length∧wr.ownsRow 0 224 4 (.slice (some ⟨g,0,none⟩) (l.length+1) c2) (l.length+1) ((shiftAt l x i).flatMap PgS.cells)∧Fr (· = g) w4 wr) (fun s wr=>(intOf s).toNat)
 case atStart=>exact ⟨l.length,by go_num,hrk,Nat.le_refl _,HR4.out,Fr.refl _ _⟩
 case round=>
  obtain ⟨i,rfl,hi1,hi2,hown,hfr⟩:=hrel
  have hgw:g<wr.heap.size:=(hown.lt g rfl).2
  have r0:wr.cell? ⟨b,0,none⟩=some (.slice (some ⟨g,0,none⟩) (l.length+1) c2):=(hfr.cell (p:=⟨b,0,none⟩) HB4.out.lt (fun h=>hgb h.symm)).trans s4'
  have fz : ∀o,wr.frozen? ⟨g,o,none⟩=false:=fun o=>hown.frozenAt o
  have HOW:=Lib.hid hown
  have HFR:=Lib.hid hfr
  clear hown hfr
  by_cases hlt:rank cmpPgS l x<i
  · obtain ⟨j,rfl⟩ : ∃j,i=j+1:=⟨i - 1,by omega⟩
    have hj:j<l.length:=by omega
    have hrd:=ownsRow_rd (A:=some ⟨g,0,none⟩) (c:=c2) (l:=shiftAt l x (j+1)) PgS.cells_length (by rw [shiftAt_length l x hi2];exact HOW.out)
    obtain ⟨g',o',hgo,_,hcell⟩:=hrd.at_ (k:=j) (by rw [shiftAt_length l x hi2];omega)
    injection hgo with hgo
    injection hgo with hg1 hg2
    subst hg1;subst hg2
    rw [shiftAt_read l x hj] at hcell
    have q0:wr.cell? ⟨g,j*4,none⟩=some (.int .i64 l[j].kk.kind):=by simpa using hcell 0 _ rfl
    have q1:wr.cell? ⟨g,j*4+1,none⟩=some (.string l[j].kk.text):=by simpa using hcell 1 _ rfl
    have q2:wr.cell? ⟨g,j*4+2,none⟩=some (.int .i64 l[j].kk.n):=by simpa using hcell 2 _ rfl
    have q3:wr.cell? ⟨g,j*4+3,none⟩=some (.int .i64 l[j].v):=by simpa using hcell 3 _ rfl
    have rmj:Room wr g 224 (c2*4)∧l.length+1≤c2:=by
     rcases ownsRow_form HOW.out with ⟨hv,_⟩ | ⟨g',cap,hv,hn,_,hr,_⟩
     · cases hv
     · injection hv with hA _ hc
       injection hA with hA
       injection hA with hA
       subst hA;subst hc
       exact ⟨hr,hn⟩
    obtain ⟨hrm,hcap⟩:=rmj
    obtain ⟨u0,t0⟩:=hrm.cell (i:=(j+1)*4) (by omega)
    obtain ⟨u1,t1⟩:=hrm.cell (i:=(j+1)*4+1) (by omega)
    obtain ⟨u2,t2⟩:=hrm.cell (i:=(j+1)*4+2) (by omega)
    obtain ⟨u3,t3⟩:=hrm.cell (i:=(j+1)*4+3) (by omega)
    have b0:(0:Int)≤(j:Int)+1:=by omega
    have b1:(0:Int)≤(j:Int):=by omega
    have b4:(j:Int)<(l.length:Int):=by omega
    have b2:(j:Int)<(l.length:Int)+1:=by omega
    have b3:(j:Int)+1<(l.length:Int)+1:=by omega
    have w1:IntKind.i64.wrap ((j:Int))=(j:Int):=IntWalk.i64_in _ (by omega)
    have w2:IntKind.i64.wrap ((j:Int)+1 - 1)=(j:Int):=by rw [IntWalk.i64_in _ (by omega)];omega
    clear hcell hrd hrm
    obtain ⟨y,hy⟩ : ∃y,y=l[j]:=⟨_,rfl⟩
    rw [← hy] at q0 q1 q2 q3
    have HY:=Lib.hid hy
    have hbw:b<wr.heap.size:=World.block_lt_of_cell? wr _ r0
    clear hy
    go_wp2_with fail
    refine wp_region_E (fun w9=>Below wr.heap.size wr w9) [(0,0),(1,0),(2,0),(3,1),(4,0),(5,0),(6,0),(7,0),(8,1),(9,0),(10,0),(11,0),(12,1),(13,0),(14,2)] (by kernel_rfl) (by kernel_rfl) (fun KK hKK=>?_)
    simp only [beside,List.filterMap_cons,List.filterMap_nil,List.getElem?_toArray,List.getElem?_cons_zero,List.getElem?_cons_succ,Option.map_some]
    repeat ((first | (refine wpX_w ?_ (Or.inl ⟨by rfl,fun w9=>?_⟩) ?_;rotate_left 1;go_simp;with_reducible rfl) | (refine wpX_l ?_ (((Below.refl _ _).drew)) (Or.inl ⟨by rfl,fun w9 hw9=>?_⟩) ?_;rotate_left 1;obtain ⟨hc9,hf9⟩:=bcell hw9;go_simp;with_reducible rfl) | refine wpX_w undef (Or.inr ⟨by rfl,rfl⟩) ?_ | refine wpX_l undef (((Below.refl _ _).drew)) (Or.inr ⟨by rfl,rfl⟩) ?_);go_frame)
    refine wpX_e (by kernel_rfl) (fun K9 hK9=>?_)
    go_simp
    refine hK9 _ _ ?_
    clear hK9 K9
    refine wpX_nil ?_
    simp only [OnlyN_normal]
    refine hKK _ _ ?_
    clear hKK KK
    go_wp2_with fail
    go_roundw
    case rel=>
     refine ⟨j,by go_num,by omega,by omega,?_,Fr.drew (((((HFR.out).setCell (p:=⟨g,(j+1)*4,none⟩) (.inl rfl) (_)).setCell (p:=⟨g,(j+1)*4+1,none⟩) (.inl rfl) (_)).setCell (p:=⟨g,(j+1)*4+2,none⟩) (.inl rfl) (_)).setCell (p:=⟨g,(j+1)*4+3,none⟩) (.inl rfl) (_))⟩
     have hst:=((((((((HOW.out).stored ((j+1)*4) (.int .i64 y.kk.kind)).1).stored ((j+1)*4+1) (.string y.kk.text)).1).stored ((j+1)*4+2) (.int .i64 y.kk.n)).1).stored ((j+1)*4+3) (.int .i64 y.v)).1
     have he:setAll ((shiftAt l x (j+1)).flatMap PgS.cells) ((j+1)*4) (PgS.cells y)=(shiftAt l x j).flatMap PgS.cells:=by
      rw [flat_set PgS.cells_length (by omega) _ (j+1) (by rw [shiftAt_length l x hi2];omega),HY.out,shiftAt_step l x hj]
     rw [← he]
     exact hst
    case measure=>simp [intOf]<;>omega
  · obtain rfl:i=rank cmpPgS l x:=by omega
    have rmj:Room wr g 224 (c2*4)∧l.length+1≤c2:=by
     rcases ownsRow_form HOW.out with ⟨hv,_⟩ | ⟨g',cap,hv,hn,_,hr,_⟩
     · cases hv
     · injection hv with hA _ hc
       injection hA with hA
       injection hA with hA
       subst hA;subst hc
       exact ⟨hr,hn⟩
    obtain ⟨hrm,hcap⟩:=rmj
    obtain ⟨k,hk⟩ : ∃k,k=rank cmpPgS l x:=⟨_,rfl⟩
    rw [← hk] at hi2 hlt ⊢
    obtain ⟨u0,t0⟩:=hrm.cell (i:=k*4) (by omega)
    obtain ⟨u1,t1⟩:=hrm.cell (i:=k*4+1) (by omega)
    obtain ⟨u2,t2⟩:=hrm.cell (i:=k*4+2) (by omega)
    obtain ⟨u3,t3⟩:=hrm.cell (i:=k*4+3) (by omega)
    have x0:=(HFR.out.cell (p:=⟨w.heap.size,0,none⟩) hk4 (fun h=>hgk1 h.symm)).trans z0
    have x1:=(HFR.out.cell (p:=⟨w.heap.size,1,none⟩) hk4 (fun h=>hgk1 h.symm)).trans z1
    have x2:=(HFR.out.cell (p:=⟨w.heap.size,2,none⟩) hk4 (fun h=>hgk1 h.symm)).trans z2
    have x3:=(HFR.out.cell (p:=⟨w.heap.size,3,none⟩) hk4 (fun h=>hgk1 h.symm)).trans z3
    have b1:(0:Int)≤(k:Int):=by omega
    have b2:(k:Int)<(l.length:Int)+1:=by omega
    have HK:=Lib.hid hk
    have hkw:w.heap.size<wr.heap.size:=by have:=HFR.out.size;omega
    have hbw:b<wr.heap.size:=World.block_lt_of_cell? wr _ r0
    clear hrm hk z0 z1 z2 z3
    go_wp2_with fail
    refine wp_region_E (fun w9=>Below wr.heap.size wr w9) [(0,0),(1,0),(2,0),(3,1),(4,0),(5,1),(6,0),(7,2)] (by kernel_rfl) (by kernel_rfl) (fun KK hKK=>?_)
    simp only [beside,List.filterMap_cons,List.filterMap_nil,List.getElem?_toArray,List.getElem?_cons_zero,List.getElem?_cons_succ,Option.map_some]
    repeat ((first | (refine wpX_w ?_ (Or.inl ⟨by rfl,fun w9=>?_⟩) ?_;rotate_left 1;go_simp;with_reducible rfl) | (refine wpX_l ?_ (((Below.refl _ _).drew)) (Or.inl ⟨by rfl,fun w9 hw9=>?_⟩) ?_;rotate_left 1;obtain ⟨hc9,hf9⟩:=bcell hw9;go_simp;with_reducible rfl) | refine wpX_w undef (Or.inr ⟨by rfl,rfl⟩) ?_ | refine wpX_l undef (((Below.refl _ _).drew)) (Or.inr ⟨by rfl,rfl⟩) ?_);go_frame)
    refine wpX_e (by kernel_rfl) (fun K9 hK9=>?_)
    go_simp
    refine hK9 _ _ ?_
    clear hK9 K9
    refine wpX_nil ?_
    simp only [OnlyN_normal]
    refine hKK _ _ ?_
    clear hKK KK
    go_wp2_with fail
    go_ret
    have HOWk:=HOW.out
    rw [← HK.out] at HOWk
    have hst:=((((((((HOWk).stored (k*4) (.int .i64 x.kk.kind)).1).stored (k*4+1) (.string x.kk.text)).1).stored (k*4+2) (.int .i64 x.kk.n)).1).stored (k*4+3) (.int .i64 x.v)).1
    have he:setAll ((shiftAt l x k).flatMap PgS.cells) (k*4) (PgS.cells x)=(put cmpPgS l x).flatMap PgS.cells:=by
     rw [flat_set PgS.cells_length (by omega) _ k (by rw [shiftAt_length l x hi2];omega),shiftAt_end l x hi2,put_eq tc_pgs HO.out hh,HK.out]
    have hln:=length_put tc_pgs HO.out hh
    refine ⟨by rw [hh];rfl,false,some ⟨g,0,none⟩,c2,⟨?_,?_⟩,?_,?_⟩
    · rw [hln]
      exact ((((HB4.out.fr HFR.out (fun h=>hgb h.symm)).far (p:=⟨g,k*4,none⟩) (fun h=>hgb h.symm) _).far (p:=⟨g,k*4+1,none⟩) (fun h=>hgb h.symm) _).far (p:=⟨g,k*4+2,none⟩) (fun h=>hgb h.symm) _).far (p:=⟨g,k*4+3,none⟩) (fun h=>hgb h.symm) _
    · rw [hln,← he]
      exact hst
    · exact HF4.out.into (Fr.drew (((((HFR.out).setCell (p:=⟨g,k*4,none⟩) (.inl rfl) (_)).setCell (p:=⟨g,k*4+1,none⟩) (.inl rfl) (_)).setCell (p:=⟨g,k*4+2,none⟩) (.inl rfl) (_)).setCell (p:=⟨g,k*4+3,none⟩) (.inl rfl) (_))) (fun k hk=>by subst hk;exact HgM.out)
    · exact HgMv.out
theorem put_PgS (b c:Nat) (sn:Bool) (A:Option Addr) (l:List PgS) (x:PgS) (w:World) (hS:PgSSet w b sn A c l) (hs:Srt cmpPgS l) (hl:(l.length:Int)≤100000000) :
 Calls Tryz.prog 183 #[.pointer (some ⟨b,0,none⟩),.agg #[.int .i64 x.kk.kind,.string x.kk.text,.int .i64 x.kk.n,.int .i64 x.v]] w (PutPostPgS w b sn A l x):=by
 cases hh:has cmpPgS l x
 · exact put_new_PgS b c sn A l x w hS hs hl hh
 · exact put_there_PgS b c sn A l x w hS hs hl hh
end Go.Proofs.YtldndkngpdfpfaaGreat
