/-
  Texts put together: VaryP, VaryP2, Sets, LeafPgS, FindPgS, OpsPgS, PutPgS, MiscPgS, NewPgS, RangeP, RangeO, Store, RangeO2, EagerT.
-/
import Derived.Test.YtldndkngpdfpfaaGreatPDa
import Derived.Deep.MidRow
import Derived.Maps.RangeWalk
namespace Go.Proofs.YtldndkngpdfpfaaGreat
def plV:List Sym→Sym→Nat
 | [],_=>0
 | x :: l,s=>if x=s then 1 else if plV l s=0 then 0 else plV l s+1
theorem plV_zero {s:Sym} : ∀{l:List Sym},plV l s=0↔s ∉ l
 | []=>by simp [plV]
 | x :: l=>by
   have ih:=plV_zero (s:=s) (l:=l)
   rw [plV]
   by_cases h:x=s
   · rw [if_pos h];subst h;simp
   · rw [if_neg h,List.mem_cons]
     by_cases h2:plV l s=0
     · rw [if_pos h2]
       have h3:=ih.1 h2
       refine ⟨fun _ e=>e.elim (fun e=>h e.symm) h3,fun _=>rfl⟩
     · rw [if_neg h2]
       refine ⟨fun e=>by omega,fun e=>absurd (ih.2 (fun h4=>e (.inr h4))) h2⟩
theorem plV_le (s:Sym) : ∀l:List Sym,plV l s≤l.length
 | []=>Nat.le_refl _
 | x :: l=>by
   have ih:=plV_le s l
   rw [plV,List.length_cons]
   split
   · omega
   · split<;>omega
def putN (ns:List Sym) (s:Sym):List Sym:=if plV ns s=0 then ns ++ [s] else ns
def namesE (ns:List Sym) (e:Elem):List Sym:=if e.value.kind=1 then putN (putN ns e.id) e.value else putN ns e.id
theorem putN_len (ns:List Sym) (s:Sym):(putN ns s).length≤ns.length+1:=by unfold putN;split<;>simp
theorem namesE_len (ns:List Sym) (e:Elem):(namesE ns e).length≤ns.length+2:=by
 unfold namesE
 have h1:=putN_len ns e.id
 have h2:=putN_len (putN ns e.id) e.value
 split<;>omega
theorem putN_nodup {ns:List Sym} (h:ns.Nodup) (s:Sym):(putN ns s).Nodup:=by
 unfold putN
 split
 · rename_i h2
   rw [List.nodup_append]
   refine ⟨h,by simp,fun a ha b hb e=>?_⟩
   rw [List.mem_singleton] at hb
   subst hb e
   exact plV_zero.1 h2 ha
 · exact h
theorem namesE_nodup {ns:List Sym} (h:ns.Nodup) (e:Elem):(namesE ns e).Nodup:=by
 unfold namesE
 split
 · exact putN_nodup (putN_nodup h _) _
 · exact putN_nodup h _
theorem mem_putN {ns:List Sym} {s t:Sym}:t∈putN ns s↔t∈ns∨t=s:=by
 unfold putN
 split
 · simp
 · rename_i h
   refine ⟨.inl,fun h2=>h2.elim id fun e=>?_⟩
   subst e
   exact Classical.byContradiction fun h3=>h (plV_zero.2 h3)
def idN (ns:List Sym) (s:Sym):Int:=if plV ns s=0 then ns.length+1 else plV ns s
def rkN (ns:List Sym) (s:Sym):Int:=if s.kind≠1 then 0 else if plV ns s=0 then 2 else 1
def cmpAcc (a b:Bool):Int:=if a=b then 0 else if b=true then -1 else 1
theorem tc_acc:TC cmpAcc:=by
 constructor
 · intro x;simp [cmpAcc]
 · intro x y;cases x<;>cases y<;>simp [cmpAcc]
 · intro x y z;cases x<;>cases y<;>cases z<;>simp [cmpAcc]
def cmpV (ns:List Sym) (a b:Sym):Int:=
 if rkN ns a=0 then cmpSym a b else if rkN ns a=1 then cmpInt (plV ns a) (plV ns b) else 0
def aheadC (ns:List Sym) (a b:Elem):Int:=
 andThen (cmpInt (idN ns a.id) (idN ns b.id)) (andThen (cmpSym a.attr b.attr) (andThen (cmpAcc a.acc b.acc) (andThen (cmpInt (rkN ns a.value) (rkN ns b.value)) (andThen (cmpV ns a.value b.value) (cmpInt a.tag b.tag)))))
def keyS (ns:List Sym) (s:Sym):Sym:=if rkN ns s=0 then s else ⟨0,⟨#[]⟩,0⟩
def keyP (ns:List Sym) (s:Sym):Int:=if rkN ns s=1 then plV ns s else 0
theorem cmpV_key {ns:List Sym} {a b:Sym} (h:rkN ns a=rkN ns b):cmpV ns a b=andThen (cmpSym (keyS ns a) (keyS ns b)) (cmpInt (keyP ns a) (keyP ns b)):=by
 have hr : ∀x,cmpInt x x=0:=tc_int.refl
 have hs : ∀x,cmpSym x x=0:=tc_sym.refl
 unfold cmpV keyS keyP
 rw [← h]
 by_cases h0:rkN ns a=0
 · simp only [h0,if_true]
   rw [if_neg (by decide),if_neg (by decide),hr]
   unfold andThen
   split<;>simp [*]
 · by_cases h1:rkN ns a=1
   · simp only [h1,if_true]
     rw [if_neg (by decide),if_neg (by decide),if_neg (by decide),hs]
     simp [andThen]
   · simp [h0,h1,hr,hs,andThen]
def aheadK (ns:List Sym) (a b:Elem):Int:=
 andThen (cmpInt (idN ns a.id) (idN ns b.id)) (andThen (cmpSym a.attr b.attr) (andThen (cmpAcc a.acc b.acc) (andThen (cmpInt (rkN ns a.value) (rkN ns b.value)) (andThen (cmpSym (keyS ns a.value) (keyS ns b.value)) (andThen (cmpInt (keyP ns a.value) (keyP ns b.value)) (cmpInt a.tag b.tag))))))
theorem andThen_assoc (a b c:Int):andThen (andThen a b) c=andThen a (andThen b c):=by
 unfold andThen
 split<;>simp_all
theorem aheadC_K (ns:List Sym) (a b:Elem):aheadC ns a b=aheadK ns a b:=by
 unfold aheadC aheadK
 congr 3
 by_cases h:cmpInt (rkN ns a.value) (rkN ns b.value)=0
 · rw [cmpV_key (cmpInt_eq.1 h),andThen_assoc]
 · simp only [andThen,if_neg h]
theorem tc_ahead (ns:List Sym):TC (aheadC ns):=by
 have h:aheadC ns=aheadK ns:=by funext a b;exact aheadC_K ns a b
 rw [h]
 exact tc_andThen (f:=fun e:Elem=>idN ns e.id) (g:=fun e:Elem=>e) (c2:=fun a b:Elem=>andThen (cmpSym a.attr b.attr) (andThen (cmpAcc a.acc b.acc) (andThen (cmpInt (rkN ns a.value) (rkN ns b.value)) (andThen (cmpSym (keyS ns a.value) (keyS ns b.value)) (andThen (cmpInt (keyP ns a.value) (keyP ns b.value)) (cmpInt a.tag b.tag)))))) tc_int
  (tc_andThen (f:=fun e:Elem=>e.attr) (g:=fun e:Elem=>e) (c2:=fun a b:Elem=>andThen (cmpAcc a.acc b.acc) (andThen (cmpInt (rkN ns a.value) (rkN ns b.value)) (andThen (cmpSym (keyS ns a.value) (keyS ns b.value)) (andThen (cmpInt (keyP ns a.value) (keyP ns b.value)) (cmpInt a.tag b.tag))))) tc_sym
  (tc_andThen (f:=fun e:Elem=>e.acc) (g:=fun e:Elem=>e) (c2:=fun a b:Elem=>andThen (cmpInt (rkN ns a.value) (rkN ns b.value)) (andThen (cmpSym (keyS ns a.value) (keyS ns b.value)) (andThen (cmpInt (keyP ns a.value) (keyP ns b.value)) (cmpInt a.tag b.tag)))) tc_acc
  (tc_andThen (f:=fun e:Elem=>rkN ns e.value) (g:=fun e:Elem=>e) (c2:=fun a b:Elem=>andThen (cmpSym (keyS ns a.value) (keyS ns b.value)) (andThen (cmpInt (keyP ns a.value) (keyP ns b.value)) (cmpInt a.tag b.tag))) tc_int
  (tc_andThen (f:=fun e:Elem=>keyS ns e.value) (g:=fun e:Elem=>e) (c2:=fun a b:Elem=>andThen (cmpInt (keyP ns a.value) (keyP ns b.value)) (cmpInt a.tag b.tag)) tc_sym
  (tc_andThen (f:=fun e:Elem=>keyP ns e.value) (g:=fun e:Elem=>e.tag) (c2:=cmpInt) tc_int tc_int)))))
def aheadV (ns:List Sym) (a b:Elem):Bool:=decide (aheadC ns a b<0)
def canN (ns:List Sym) (e:Elem):Bool:=e.goal || !decide (plV ns e.id=0)
def bestS (ns:List Sym) (left:List Elem):Nat→Option Nat
 | 0=>none
 | i+1=>match left[i]? with
   | none=>bestS ns left i
   | some e=>if canN ns e=true then (match bestS ns left i with
    | none=>some i
    | some k=>match left[k]? with
      | none=>some i
      | some b=>if aheadV ns e b=true then some i else some k) else bestS ns left i
theorem bestS_lt {ns:List Sym} {left:List Elem} : ∀{i k:Nat},bestS ns left i=some k→k<i∧k<left.length
 | 0,_,h=>by cases h
 | i+1,k,h=>by
   rw [bestS] at h
   split at h
   · have:=bestS_lt h;omega
   · rename_i e he
     have hi:=(List.getElem?_eq_some_iff.1 he).1
     split at h
     · split at h
       · injection h with h;omega
       · rename_i j hj
         have:=bestS_lt hj
         split at h
         · injection h with h;omega
         · split at h
           · injection h with h;omega
           · injection h with h;omega
     · have:=bestS_lt h;omega
theorem bestS_best {ns:List Sym} {left:List Elem} : ∀{i k:Nat},bestS ns left i=some k→∃e,left[k]? = some e∧canN ns e=true∧∀j x,j<i→left[j]? = some x→canN ns x=true→aheadC ns e x≤0
 | 0,_,h=>by cases h
 | i+1,k,h=>by
   have T:=tc_ahead ns
   rw [bestS] at h
   cases he:left[i]? with
   | none=>
     rw [he] at h
     obtain ⟨e,h1,h2,h3⟩:=bestS_best h
     refine ⟨e,h1,h2,fun j x hj hx hc=>?_⟩
     by_cases h4:j=i
     · subst h4;rw [he] at hx;cases hx
     · exact h3 j x (by omega) hx hc
   | some y=>
     rw [he] at h
     simp only at h
     by_cases hy:canN ns y=true
     · rw [if_pos hy] at h
       cases hb:bestS ns left i with
       | none=>
         rw [hb] at h
         injection h with h
         subst h
         refine ⟨y,he,hy,fun j x hj hx hc=>?_⟩
         by_cases h4:j=i
         · subst h4;rw [he] at hx;injection hx with hx;subst hx;rw [T.refl];exact Int.le_refl _
         · exact absurd (bestS_none hb j x (by omega) hx) (by rw [hc];decide)
       | some m=>
         rw [hb] at h
         simp only at h
         obtain ⟨b,h1,h2,h3⟩:=bestS_best hb
         rw [h1] at h
         simp only at h
         by_cases hd:aheadV ns y b=true
         · rw [if_pos hd] at h
           injection h with h
           subst h
           have hd2:aheadC ns y b<0:=of_decide_eq_true hd
           refine ⟨y,he,hy,fun j x hj hx hc=>?_⟩
           by_cases h4:j=i
           · subst h4;rw [he] at hx;injection hx with hx;subst hx;rw [T.refl];exact Int.le_refl _
           · exact T.trans y b x (by omega) (h3 j x (by omega) hx hc)
         · rw [if_neg hd] at h
           injection h with h
           subst h
           have hd2 : ¬aheadC ns y b<0:=fun e=>hd (decide_eq_true e)
           refine ⟨b,h1,h2,fun j x hj hx hc=>?_⟩
           by_cases h4:j=i
           · subst h4
             rw [he] at hx
             injection hx with hx
             subst hx
             have h5:=T.symm y b
             omega
           · exact h3 j x (by omega) hx hc
     · rw [if_neg hy] at h
       obtain ⟨e,h1,h2,h3⟩:=bestS_best h
       refine ⟨e,h1,h2,fun j x hj hx hc=>?_⟩
       by_cases h4:j=i
       · subst h4;rw [he] at hx;injection hx with hx;subst hx;exact absurd hc hy
       · exact h3 j x (by omega) hx hc
where
 bestS_none {ns:List Sym} {left:List Elem} : ∀{i:Nat},bestS ns left i=none→∀j x,j<i→left[j]? = some x→canN ns x=false
 | 0,_,j,_,h,_=>by omega
 | i+1,hb,j,x,hj,hx=>by
   rw [bestS] at hb
   cases he:left[i]? with
   | none=>
     rw [he] at hb
     by_cases h4:j=i
     · subst h4;rw [he] at hx;cases hx
     · exact bestS_none hb j x (by omega) hx
   | some y=>
     rw [he] at hb
     simp only at hb
     split at hb
     · exfalso
       split at hb
       · cases hb
       · split at hb
         · cases hb
         · split at hb<;>cases hb
     · rename_i hy
       by_cases h4:j=i
       · subst h4;rw [he] at hx;injection hx with hx;subst hx;simpa using hy
       · exact bestS_none hb j x (by omega) hx
theorem bestS_none {ns:List Sym} {left:List Elem} {i:Nat} (h:bestS ns left i=none) : ∀j x,j<i→left[j]? = some x→canN ns x=false:=bestS_best.bestS_none h
def bestV (ns:List Sym) (left:List Elem):Option Nat:=bestS ns left left.length
def laidV:Nat→List Sym→List Elem→List Elem→Option (List Elem×List Sym)
 | 0,ns,_,out=>some (out,ns)
 | f+1,ns,left,out=>if left = [] then some (out,ns) else
   match bestV ns left with
   | none=>none
   | some k=>match left[k]? with
     | none=>none
     | some e=>laidV f (namesE ns e) (left.eraseIdx k) (out ++ [e])
def orderV (l:List Elem):Option (List Elem×List Sym):=laidV l.length [] l []
end Go.Proofs.YtldndkngpdfpfaaGreat
namespace Go.Proofs.YtldndkngpdfpfaaGreat
theorem laidV_step {f:Nat} {ns:List Sym} {left out:List Elem} {k:Nat} {e:Elem} (hb:bestV ns left=some k) (he:left[k]? = some e):laidV (f+1) ns left out=laidV f (namesE ns e) (left.eraseIdx k) (out ++ [e]):=by
 have hl:left≠[]:=by intro h;subst h;simp at he
 rw [laidV,if_neg hl,hb]
 simp only
 rw [he]
theorem laidV_none {f:Nat} {ns:List Sym} {left out:List Elem} (hl:left≠[]) (hb:bestV ns left=none):laidV (f+1) ns left out=none:=by
 rw [laidV,if_neg hl,hb]
theorem laidV_nil {f:Nat} {ns:List Sym} {out:List Elem}:laidV f ns [] out=some (out,ns):=by
 cases f with
 | zero=>rfl
 | succ f=>rw [laidV,if_pos rfl]
theorem best_at {ns:List Sym} {left:List Elem} {k:Nat} (h:bestV ns left=some k) : ∃e,left[k]? = some e∧canN ns e=true∧∀x∈left,canN ns x=true→aheadC ns e x≤0:=by
 obtain ⟨e,h1,h2,h3⟩:=bestS_best h
 refine ⟨e,h1,h2,fun x hx hc=>?_⟩
 obtain ⟨j,hj,rfl⟩:=List.getElem_of_mem hx
 exact h3 j _ hj (List.getElem?_eq_getElem hj) hc
theorem erase_perm : ∀{l:List Elem} {k:Nat} {e:Elem},l[k]? = some e→(e :: l.eraseIdx k).Perm l
 | [],_,_,h=>by simp at h
 | x :: l,0,e,h=>by simp at h;subst h;exact .refl _
 | x :: l,k+1,e,h=>by
   have:=erase_perm (l:=l) (k:=k) (e:=e) (by simpa using h)
   rw [List.eraseIdx_cons_succ]
   exact (List.Perm.swap x e _).trans (this.cons x)
theorem erase_len {l:List Elem} {k:Nat} {e:Elem} (h:l[k]? = some e):(l.eraseIdx k).length+1=l.length:=by
 have:=(erase_perm h).length_eq
 simpa using this
theorem laidV_told : ∀(f:Nat) (ns:List Sym) (l out:List Elem),l.length≤f→ns.Nodup→∀o n,laidV f ns l out=some (o,n)→
 o.Perm (out++l)∧n.Nodup∧n.length≤ns.length+2*l.length∧∀s,s∈n↔s∈ns∨∃e∈l,s=e.id∨(s=e.value∧e.value.kind=1)
 | 0,ns,l,out,hf,hn,o,n,h=>by
   obtain rfl:l = []:=List.length_eq_zero_iff.1 (by omega)
   injection h with h
   injection h with h1 h2
   subst h1 h2
   exact ⟨by simp,hn,by simp,fun s=>by simp⟩
 | f+1,ns,l,out,hf,hn,o,n,h=>by
   by_cases hl:l = []
   · subst hl
     rw [laidV_nil] at h
     injection h with h
     injection h with h1 h2
     subst h1 h2
     exact ⟨by simp,hn,by simp,fun s=>by simp⟩
   · cases hb:bestV ns l with
     | none=>rw [laidV_none hl hb] at h;cases h
     | some k=>
       obtain ⟨e,h1,_,_⟩:=best_at hb
       rw [laidV_step hb h1] at h
       have hlen:=erase_len h1
       obtain ⟨g1,g2,g3,g4⟩:=laidV_told f _ _ _ (by omega) (namesE_nodup hn e) o n h
       have p1:=erase_perm h1
       have hnl:=namesE_len ns e
       refine ⟨?_,g2,by omega,fun s=>?_⟩
       · refine g1.trans ?_
         rw [List.append_assoc]
         exact List.Perm.append_left _ p1
       · rw [g4 s]
         have hm : ∀x,x∈l↔x=e∨x∈l.eraseIdx k:=fun x=>by rw [← p1.mem_iff,List.mem_cons]
         have hs:s∈namesE ns e↔s∈ns∨s=e.id∨(s=e.value∧e.value.kind=1):=by
          unfold namesE
          by_cases hk:e.value.kind=1
          · rw [if_pos hk,mem_putN,mem_putN,or_assoc];simp [hk]
          · rw [if_neg hk,mem_putN];simp [hk]
         rw [hs]
         constructor
         · rintro ((q | q) | ⟨x,hx,q⟩)
           · exact .inl q
           · exact .inr ⟨e,(hm e).2 (.inl rfl),q⟩
           · exact .inr ⟨x,(hm x).2 (.inr hx),q⟩
         · rintro (q | ⟨x,hx,q⟩)
           · exact .inl (.inl q)
           · rcases (hm x).1 hx with rfl | hx
             · exact .inl (.inr q)
             · exact .inr ⟨x,hx,q⟩
theorem orderV_told {l o:List Elem} {n:List Sym} (h:orderV l=some (o,n)):o.Perm l∧n.Nodup∧n.length≤2*l.length∧∀s,s∈n↔∃e∈l,s=e.id∨(s=e.value∧e.value.kind=1):=by
 obtain ⟨h1,h2,h3,h4⟩:=laidV_told l.length [] l [] (Nat.le_refl _) .nil o n h
 exact ⟨by simpa using h1,h2,by simpa using h3,fun s=>by rw [h4 s];simp⟩
theorem andThen_ne {a:Int} (b:Int) (h:a≠0):andThen a b=a:=if_neg h
theorem andThen_eq {a:Int} (b:Int) (h:a=0):andThen a b=b:=if_pos h
end Go.Proofs.YtldndkngpdfpfaaGreat
namespace Go.Proofs.YtldndkngpdfpfaaGreat
open Go.RowKit
structure St where
 sn:Bool
 A:Option Addr
 c:Nat
def upd {β:Type} (S:Nat→β) (b:Nat) (l:β):Nat→β:=fun k=>if k=b then l else S k
theorem upd_same {β:Type} (S:Nat→β) (b:Nat) (l:β):upd S b l b=l:=by simp [upd]
theorem upd_ne {β:Type} (S:Nat→β) {b k:Nat} (l:β) (h:k≠b):upd S b l k=S k:=by simp [upd,h]
theorem upd_id {β:Type} (S:Nat→β) (b:Nat) (l:β) (h:S b=l):upd S b l=S:=by funext k;simp only [upd];split<;>simp_all
structure Sets {α:Type} (tSet tE size:Nat) (cells:α→List Value) (cmp:α→α→Int) (D:Nat→Prop) (w:World) (S:Nat→Option (List α)) (σ:Nat→St):Prop where
 at_ : ∀b l,S b=some l→SetAt tSet tE size cells w b (σ b).sn (σ b).A (σ b).c l
 srt : ∀b l,S b=some l→Srt cmp l
 out : ∀b l,S b=some l→¬D b∧((σ b).sn=false→AIn (σ b).A (fun k=>¬D k))
 apart : ∀b l b' l',S b=some l→S b'=some l'→b≠b'→(σ b).sn=false→∀a a',(σ b).A=some a→(σ b').A=some a'→a.block≠a'.block
 low : ∀k,D k→k<w.heap.size
section
variable {α:Type} {tSet tE size:Nat} {cells:α→List Value} {cmp:α→α→Int} {D D':Nat→Prop} {w w':World} {S:Nat→Option (List α)} {σ:Nat→St} {b b':Nat} {l l':List α}
theorem SetAt.far {sn:Bool} {A:Option Addr} {c:Nat} (h:SetAt tSet tE size cells w b sn A c l) {sn':Bool} {A':Option Addr} {c':Nat} (h':SetAt tSet tE size cells w b' sn' A' c' l') (hne:tE≠tSet):AIn A (·≠b'):=by
 intro a e hb
 have:=own_blk_ne h.row h'.blk hne
 subst e
 exact this (by simp [Value.ownBlock,hb])
theorem Sets.start (tSet tE size:Nat) (cells:α→List Value) (cmp:α→α→Int) (w:World):Sets tSet tE size cells cmp (· < w.heap.size) w (fun _=>none) (fun _=>⟨false,none,0⟩):=
 ⟨fun _ _ h=>by simp at h,fun _ _ h=>by simp at h,fun _ _ h=>by simp at h,fun _ _ _ _ h=>by simp at h,fun _ h=>h⟩
theorem Sets.lt (h:Sets tSet tE size cells cmp D w S σ) (hb:S b=some l):b<w.heap.size:=(h.at_ b l hb).lt
theorem Sets.below (h:Sets tSet tE size cells cmp D w S σ) (hw:Below w.heap.size w w'):Sets tSet tE size cells cmp D w' S σ:=
 ⟨fun b l hb=>(h.at_ b l hb).new_ hw,h.srt,h.out,h.apart,fun k hk=>Nat.lt_of_lt_of_le (h.low k hk) hw.size⟩
theorem Sets.weaken (h:Sets tSet tE size cells cmp D w S σ) (hD : ∀k,D' k→D k):Sets tSet tE size cells cmp D' w S σ:=
 ⟨h.at_,h.srt,fun b l hb=>⟨fun hk=>(h.out b l hb).1 (hD _ hk),fun hs=>((h.out b l hb).2 hs).mono (fun _ hk hd=>hk (hD _ hd))⟩,h.apart,fun k hk=>h.low k (hD k hk)⟩
theorem Sets.widen (h:Sets tSet tE size cells cmp D w S σ) (n:Nat) (hn : ∀b l,S b=some l→b<n∧((σ b).sn=false→AIn (σ b).A (· < n))):Sets tSet tE size cells cmp (fun k=>D k∨(n≤k∧k<w.heap.size)) w S σ:=
 ⟨h.at_,h.srt,fun b l hb=>⟨fun hk=>by
  rcases hk with hk | hk
  · exact (h.out b l hb).1 hk
  · have:=(hn b l hb).1;omega,fun hs a ha hk=>by
  rcases hk with hk | hk
  · exact (h.out b l hb).2 hs a ha hk
  · have:=(hn b l hb).2 hs a ha;omega⟩,h.apart,fun k hk=>by
  rcases hk with hk | hk
  · exact h.low k hk
  · exact hk.2⟩
theorem Sets.protect (h:Sets tSet tE size cells cmp D w S σ) (hw:Below w.heap.size w w'):Sets tSet tE size cells cmp (fun k=>D k∨(w.heap.size≤k∧k<w'.heap.size)) w' S σ:=
 (h.below hw).widen w.heap.size (fun b l hb=>⟨h.lt hb,fun _=>(h.at_ b l hb).row_lt⟩)
theorem Sets.mod (h:Sets tSet tE size cells cmp D w S σ) (hb:S b=some l) (hF:Fr (SetMod b (σ b).sn (σ b).A) w w'):Fr (fun k=>¬D k) w w':=
 hF.mono (fun k _ hk=>by
  rcases hk with rfl | ⟨hs,a,ha,rfl⟩
  · exact (h.out _ l hb).1
  · exact (h.out b l hb).2 hs a ha)
theorem Sets.moved (h:Sets tSet tE size cells cmp D w S σ) (hne:tE≠tSet) (hb:S b=some l) {sn':Bool} {A':Option Addr} {c':Nat} (h1:SetAt tSet tE size cells w' b sn' A' c' l') (hs:Srt cmp l')
 (hF:Fr (SetMod b (σ b).sn (σ b).A) w w') (hM:Moved w (σ b).sn (σ b).A sn' A'):Sets tSet tE size cells cmp D w' (upd S b (some l')) (upd σ b ⟨sn',A',c'⟩):=by
 have hB:=h.at_ b l hb
 refine ⟨fun k m hk=>?_,fun k m hk=>?_,fun k m hk=>?_,fun k m k' m' hk hk' hkk hsk a a' ha ha'=>?_,fun k hk=>Nat.lt_of_lt_of_le (h.low k hk) hF.size⟩
 · by_cases e:k=b
   · subst e;rw [upd_same] at hk ⊢;cases hk;exact h1
   · rw [upd_ne _ _ e] at hk ⊢
     have hK:=h.at_ k m hk
     refine hK.fr hF ?_ ?_
     · rintro (hx | ⟨hx,a,ha,hx2⟩)
       · exact e hx
       · exact hB.far hK hne a ha hx2
     · intro a ha hx
       rcases hx with hx | ⟨hx,a2,ha2,hx2⟩
       · exact hK.far hB hne a ha hx
       · exact h.apart b l k m hb hk (Ne.symm e) hx a2 a ha2 ha hx2
 · by_cases e:k=b
   · subst e;rw [upd_same] at hk;cases hk;exact hs
   · rw [upd_ne _ _ e] at hk;exact h.srt k m hk
 · by_cases e:k=b
   · subst e;rw [upd_same] at hk ⊢;cases hk
     refine ⟨(h.out _ _ hb).1,fun hs2=>?_⟩
     rcases hM with ⟨e1,e2⟩ | ⟨_,g,hg,e2⟩
     · simp only at hs2 ⊢;rw [e2];exact (h.out _ _ hb).2 (by rw [← e1];exact hs2)
     · simp only;rw [e2];intro a ha hd;cases ha;have:=h.low _ hd;simp at this;omega
   · rw [upd_ne _ _ e] at hk ⊢;exact h.out k m hk
 · by_cases e:k=b
   · subst e
     have e':k'≠k:=Ne.symm hkk
     rw [upd_ne _ _ e'] at hk' ha'
     rw [upd_same] at hsk ha
     simp only at hsk ha
     rcases hM with ⟨e1,e2⟩ | ⟨_,g,hg,e2⟩
     · exact h.apart k l k' m' hb hk' hkk (by rw [← e1];exact hsk) a a' (by rw [← e2];exact ha) ha'
     · rw [e2] at ha;cases ha
       have:=(h.at_ k' m' hk').row_lt a' ha'
       simp only;omega
   · rw [upd_ne _ _ e] at hk hsk ha
     by_cases e2:k'=b
     · subst e2
       rw [upd_same] at ha'
       simp only at ha'
       rcases hM with ⟨_,e3⟩ | ⟨_,g,hg,e3⟩
       · exact h.apart k m k' l hk hb hkk hsk a a' ha (by rw [← e3];exact ha')
       · rw [e3] at ha';cases ha'
         have:=(h.at_ k m hk).row_lt a ha
         simp only;omega
     · rw [upd_ne _ _ e2] at hk' ha'
       exact h.apart k m k' m' hk hk' hkk hsk a a' ha ha'
theorem Sets.seen (h:Sets tSet tE size cells cmp D w S σ) (hne:tE≠tSet) (hb:S b=some l) (h1:SetAt tSet tE size cells w' b true (σ b).A (σ b).c l) (hF:Fr (· = b) w w') :
 Sets tSet tE size cells cmp D w' S (upd σ b ⟨true,(σ b).A,(σ b).c⟩):=by
 have hB:=h.at_ b l hb
 refine ⟨fun k m hk=>?_,h.srt,fun k m hk=>?_,fun k m k' m' hk hk' hkk hsk a a' ha ha'=>?_,fun k hk=>Nat.lt_of_lt_of_le (h.low k hk) hF.size⟩
 · by_cases e:k=b
   · subst e;rw [upd_same];rw [hb] at hk;cases hk;exact h1
   · rw [upd_ne _ _ e]
     exact (h.at_ k m hk).fr hF e (fun a ha hx=>(h.at_ k m hk).far hB hne a ha hx)
 · refine ⟨(h.out k m hk).1,fun hs=>?_⟩
   by_cases e:k=b
   · subst e;rw [upd_same] at hs;cases hs
   · rw [upd_ne _ _ e] at hs ⊢;exact (h.out k m hk).2 hs
 · by_cases e:k=b
   · subst e;rw [upd_same] at hsk;cases hsk
   · rw [upd_ne _ _ e] at hsk ha
     by_cases e2:k'=b
     · subst e2;rw [upd_same] at ha';exact h.apart k m k' m' hk hk' hkk hsk a a' ha ha'
     · rw [upd_ne _ _ e2] at ha';exact h.apart k m k' m' hk hk' hkk hsk a a' ha ha'
theorem Sets.add (h:Sets tSet tE size cells cmp D w S σ) {k:Nat} {sn':Bool} {A':Option Addr} {c':Nat} (hk:w.heap.size≤k) (h1:SetAt tSet tE size cells w' k sn' A' c' l') (hs:Srt cmp l')
 (hA:AIn A' (w.heap.size≤·)∨(sn'=true∧∃b l,S b=some l∧(σ b).sn=true∧(σ b).A=A')) (hF:Below w.heap.size w w'):Sets tSet tE size cells cmp D w' (upd S k (some l')) (upd σ k ⟨sn',A',c'⟩):=by
 have hnk : ∀b l,S b=some l→b≠k:=fun b l hb e=>by have:=h.lt hb;omega
 refine ⟨fun b m hb=>?_,fun b m hb=>?_,fun b m hb=>?_,fun b m b' m' hb hb' hkk hsk a a' ha ha'=>?_,fun k hk=>Nat.lt_of_lt_of_le (h.low k hk) hF.size⟩
 · by_cases e:b=k
   · subst e;rw [upd_same] at hb ⊢;cases hb;exact h1
   · rw [upd_ne _ _ e] at hb ⊢;exact (h.at_ b m hb).new_ hF
 · by_cases e:b=k
   · subst e;rw [upd_same] at hb;cases hb;exact hs
   · rw [upd_ne _ _ e] at hb;exact h.srt b m hb
 · by_cases e:b=k
   · subst e;rw [upd_same] at hb ⊢;cases hb
     refine ⟨fun hd=>by have:=h.low _ hd;omega,fun hs2 a ha hd=>?_⟩
     have h3:=h.low _ hd
     rcases hA with hA | ⟨hA,_⟩
     · have:=hA a ha;omega
     · simp only at hs2;rw [hA] at hs2;cases hs2
   · rw [upd_ne _ _ e] at hb ⊢;exact h.out b m hb
 · by_cases e:b=k
   · subst e
     rw [upd_ne _ _ (Ne.symm hkk)] at hb' ha'
     rw [upd_same] at hsk ha
     simp only at hsk ha
     have h3:=(h.at_ b' m' hb').row_lt a' ha'
     rcases hA with hA | ⟨hA,_⟩
     · have:=hA a ha;omega
     · rw [hA] at hsk;cases hsk
   · rw [upd_ne _ _ e] at hb hsk ha
     have h3:=(h.at_ b m hb).row_lt a ha
     by_cases e2:b'=k
     · subst e2
       rw [upd_same] at ha'
       simp only at ha'
       rcases hA with hA | ⟨_,b2,l2,hb2,hs2,hA⟩
       · have:=hA a' ha';omega
       · by_cases e3:b=b2
         · subst e3;rw [hsk] at hs2;cases hs2
         · exact h.apart b m b2 l2 hb hb2 e3 hsk a a' ha (hA.trans ha')
     · rw [upd_ne _ _ e2] at hb' ha'
       exact h.apart b m b' m' hb hb' hkk hsk a a' ha ha'
end
end Go.Proofs.YtldndkngpdfpfaaGreat
namespace Go.Proofs.YtldndkngpdfpfaaGreat
open Go.RowKit
structure PgS where
 kk:Sym
 v:Int
 deriving DecidableEq
def PgS.cells (x:PgS):List Value:=[.int .i64 x.kk.kind,.string x.kk.text,.int .i64 x.kk.n,.int .i64 x.v]
theorem PgS.cells_length (x:PgS):x.cells.length=4:=rfl
def cmpPgS (a b:PgS):Int:=cmpSym a.kk b.kk
theorem tc_pgs:TC cmpPgS:=⟨fun _=>tc_sym.refl _,fun _ _=>tc_sym.symm _ _,fun _ _ _=>tc_sym.trans _ _ _⟩
theorem cmpPgS_eq {a b:PgS}:cmpPgS a b=0↔a.kk=b.kk:=cmpSym_eq
theorem nilAhead_ksym (a : Int) (b : ByteArray) (c : Int) (w : World) : (nilAhead 555 23 (.agg #[.int .i64 a, .string b, .int .i64 c]) "Compare").run Tryz.prog w = .ok (some false) w := by kernel_rfl
theorem method_ksym (a : Int) (b : ByteArray) (c : Int) (w : World) : (method 555 23 (.agg #[.int .i64 a, .string b, .int .i64 c]) "Compare").run Tryz.prog w = .ok (143, .agg #[.int .i64 a, .string b, .int .i64 c]) w := by kernel_rfl
set_option maxRecDepth 100000 in
set_option maxHeartbeats 4000000 in
theorem cmp_pgs (a b:PgS) (w:World):Calls Tryz.prog 326 #[.agg #[.int .i64 a.kk.kind,.string a.kk.text,.int .i64 a.kk.n,.int .i64 a.v],.agg #[.int .i64 b.kk.kind,.string b.kk.text,.int .i64 b.kk.n,.int .i64 b.v]] w fun e w'=>e = .returned (.int .i64 (cmpPgS a b))∧Below w.heap.size w w':=by
 have N:=nilAhead_ksym
 have M:=method_ksym
 go_enter Tryz.func326,Tryz.ntmps326
 go_wp2_with fail
 refine (cmp_sym a.kk b.kk _).mono ?_
 rintro e w1 ⟨rfl,hb1⟩
 have HB1:=Lib.hid ((((Below.refl w.heap.size w).alloc (Nat.le_refl _) _).alloc (by simp) _).trans (hb1.mono (by simp;omega)))
 clear hb1
 go_wp2_with fail
 go_ret
 exact ⟨rfl,HB1.out⟩
end Go.Proofs.YtldndkngpdfpfaaGreat
namespace Go.Proofs.YtldndkngpdfpfaaGreat
open Go.RowKit
abbrev PgSSet:=SetAt (α:=PgS) 281 224 4 PgS.cells
theorem nilAhead_PgS (k0 : Int) (k1 : ByteArray) (k2 : Int) (k3 : Int) (w : World) : (nilAhead 555 224 (.agg #[.int .i64 k0, .string k1, .int .i64 k2, .int .i64 k3]) "Compare").run Tryz.prog w = .ok (some false) w := by kernel_rfl
theorem method_PgS (k0 : Int) (k1 : ByteArray) (k2 : Int) (k3 : Int) (w : World) : (method 555 224 (.agg #[.int .i64 k0, .string k1, .int .i64 k2, .int .i64 k3]) "Compare").run Tryz.prog w = .ok (326, .agg #[.int .i64 k0, .string k1, .int .i64 k2, .int .i64 k3]) w := by kernel_rfl
def FoundPgS (l:List PgS) (x:PgS) (w:World) (e:Ending) (w':World):Prop:=
 e = .returned (.tuple #[.int .i64 (rank cmpPgS l x),.bool (has cmpPgS l x)])∧Below w.heap.size w w'
set_option maxRecDepth 100000 in
set_option maxHeartbeats 4000000 in
theorem find_PgS (b c:Nat) (sn:Bool) (A:Option Addr) (l:List PgS) (x:PgS) (w:World) (hS:PgSSet w b sn A c l) (hs:Srt cmpPgS l) (hl:(l.length:Int)≤4611686018427387904) :
 Calls Tryz.prog 187 #[.pointer (some ⟨b,0,none⟩),.agg #[.int .i64 x.kk.kind,.string x.kk.text,.int .i64 x.kk.n,.int .i64 x.v]] w (FoundPgS l x w):=by
 have hrd:=hS.rd PgS.cells_length
 have h0:=hS.cell0
 have hb:=hS.lt
 clear hS
 have HS:=Lib.hid hs
 have HRD:=Lib.hid hrd
 clear hs hrd
 go_enter Tryz.func187,Tryz.ntmps187
 go_wp2_with fail
 go_quiet (fail)
 go_wp2_with fail
 obtain ⟨W0,hW0⟩ : ∃W0,W0=((w.alloc (Obj.cells #[Value.int IntKind.i64 x.kk.kind,Value.string x.kk.text,Value.int IntKind.i64 x.kk.n,Value.int IntKind.i64 x.v] 224)).drewN nq):=⟨_,rfl⟩
 have hB0:Below w.heap.size w W0:=by rw [hW0];exact Below.drewN' ((Below.refl _ _).alloc (Nat.le_refl _) _) _
 have hx0:W0.cell? ⟨w.heap.size,0,none⟩=some (.int .i64 x.kk.kind):=by rw [hW0];go_simp
 have hx1:W0.cell? ⟨w.heap.size,1,none⟩=some (.string x.kk.text):=by rw [hW0];go_simp
 have hx2:W0.cell? ⟨w.heap.size,2,none⟩=some (.int .i64 x.kk.n):=by rw [hW0];go_simp
 have hx3:W0.cell? ⟨w.heap.size,3,none⟩=some (.int .i64 x.v):=by rw [hW0];go_simp
 rw [← hW0]
 clear hW0
 have HB0:=Lib.hid hB0
 clear hB0
 go_loopw [6,7] (fun lo hi wr=>∃i j:Nat,lo = .int .i64 i∧hi = .int .i64 j∧i≤j∧j≤l.length∧(∀k,(h:k<l.length)→k<i→cmpPgS l[k] x<0)∧(∀k,(h:k<l.length)→j≤k→0<cmpPgS l[k] x)∧Below W0.heap.size W0 wr) (fun lo hi wr=>(intOf hi).toNat - (intOf lo).toNat)
 case atStart=>exact ⟨0,l.length,rfl,rfl,Nat.zero_le _,Nat.le_refl _,fun k _ h=>absurd h (by omega),fun k h h'=>absurd h (by omega),Below.refl _ _⟩
 case round=>
  obtain ⟨i,j,rfl,rfl,hij,hj,hlo,hhi,hB⟩:=hrel
  have HLO:=Lib.hid hlo
  have HHI:=Lib.hid hhi
  clear hlo hhi
  have hsz:w.heap.size<W0.heap.size:=World.block_lt_of_cell? W0 _ hx0
  by_cases hlt:i<j
  · obtain ⟨m,hm⟩ : ∃m,m=i+(j - i) / 2:=⟨_,rfl⟩
    have hml:m<l.length:=by omega
    have hmj:m<j:=by omega
    have hmi:i≤m:=by omega
    have e1:((i:Int)+((j:Int) - (i:Int)) / 2)=(m:Int):=by omega
    have E1:=Lib.hid e1
    clear e1 hm
    obtain ⟨g,off,rfl,hgs,hcell⟩:=HRD.out.at_ hml
    have low : ∀(p:Addr),p.block<w.heap.size→wr.cell? p=w.cell? p:=fun p hp=>(hB.cell (p:=p) (by omega)).trans (HB0.out.cell (p:=p) hp)
    have r0:=(low ⟨b,0,none⟩ hb).trans h0
    have q0:=(low ⟨g,off+m*4,none⟩ hgs).trans (hcell 0 _ rfl)
    have q1:=(low ⟨g,off+m*4+1,none⟩ hgs).trans (hcell 1 _ rfl)
    have q2:=(low ⟨g,off+m*4+2,none⟩ hgs).trans (hcell 2 _ rfl)
    have q3:=(low ⟨g,off+m*4+3,none⟩ hgs).trans (hcell 3 _ rfl)
    have y0:=(hB.cell (p:=⟨w.heap.size,0,none⟩) hsz).trans hx0
    have y1:=(hB.cell (p:=⟨w.heap.size,1,none⟩) hsz).trans hx1
    have y2:=(hB.cell (p:=⟨w.heap.size,2,none⟩) hsz).trans hx2
    have y3:=(hB.cell (p:=⟨w.heap.size,3,none⟩) hsz).trans hx3
    have b1:(0:Int)≤(m:Int):=by omega
    have b2:(m:Int)<(l.length:Int):=by omega
    have hsw:W0.heap.size≤wr.heap.size:=hB.size
    have N:=nilAhead_PgS
    have M:=method_PgS
    clear low hcell hx0 hx1 hx2 hx3 h0
    have HB:=Lib.hid hB
    clear hB
    obtain ⟨y,hy⟩ : ∃y,y=l[m]:=⟨_,rfl⟩
    rw [← hy] at q0 q1 q2 q3
    have HY:=Lib.hid hy
    clear hy
    have hbw:b<wr.heap.size:=by omega
    have hgw:g<wr.heap.size:=by omega
    have hww:w.heap.size<wr.heap.size:=by omega
    go_wp2_with fail
    rw [E1.out]
    go_region_held3 (fun w'=>w'.cell? ⟨b,0,none⟩=some (.slice (some ⟨g,off,none⟩) l.length c)∧w'.cell? ⟨g,off+m*4,none⟩=some (.int .i64 y.kk.kind)∧w'.cell? ⟨g,off+m*4+1,none⟩=some (.string y.kk.text)∧w'.cell? ⟨g,off+m*4+2,none⟩=some (.int .i64 y.kk.n)∧w'.cell? ⟨g,off+m*4+3,none⟩=some (.int .i64 y.v)∧w'.cell? ⟨w.heap.size,0,none⟩=some (.int .i64 x.kk.kind)∧w'.cell? ⟨w.heap.size,1,none⟩=some (.string x.kk.text)∧w'.cell? ⟨w.heap.size,2,none⟩=some (.int .i64 x.kk.n)∧w'.cell? ⟨w.heap.size,3,none⟩=some (.int .i64 x.v))
     (first | go_keep | (refine ⟨?_,?_,?_,?_,?_,?_,?_,?_,?_⟩<;>exact (hb1.cell (by simpa using by assumption)).trans (by simp [*])))
     ((go_at_call 326;refine (cmp_pgs y x _).mono ?_;rintro e w1 ⟨rfl,hb1⟩))
    have HB1:Below W0.heap.size W0 w1:=HB.out.drew.trans (hb1.mono hsw)
    clear r0 q0 q1 q2 q3 y0 y1 y2 y3 N M
    by_cases hc:cmpPgS y x=0
    · have HC:=Lib.hid hc
      have t1:(cmpPgS y x == 0)=true:=by simp [hc]
      clear hc
      go_wp2_with fail
      go_ret2
      have e:=HC.out
      rw [HY.out] at e
      refine ⟨?_,HB0.out.trans (HB1.mono (by omega))⟩
      rw [rank_some tc_pgs HS.out hml e,(at_some tc_pgs HS.out hml e).2.2.1]
      rfl
    · have t1:(cmpPgS y x == 0)=false:=by simp [hc]
      by_cases hc2:cmpPgS y x<0
      · have HC:=Lib.hid hc2
        have t2:decide (cmpPgS y x<0)=true:=by simpa using hc2
        clear hc hc2
        go_wp2_with fail
        go_roundw
        case rel=>
         refine ⟨m+1,j,by go_num,rfl,by omega,hj,fun k h1 h2=>?_,HHI.out,HB1⟩
         have e:=HC.out
         rw [HY.out] at e
         rcases Nat.lt_or_ge k m with h3 | h3
         · exact tc_pgs.lt_of_lt_of_le (HS.out.lt h3 hml) (by omega)
         · obtain rfl:k=m:=by omega
           exact e
        case measure=>simp [intOf];omega
      · have t2:decide (cmpPgS y x<0)=false:=by simpa using hc2
        have hc3:0<cmpPgS y x:=by omega
        have HC:=Lib.hid hc3
        clear hc hc2 hc3
        go_wp2_with fail
        go_roundw
        case rel=>
         refine ⟨i,m,rfl,rfl,by omega,by omega,HLO.out,fun k h1 h2=>?_,HB1⟩
         have e:=HC.out
         rw [HY.out] at e
         rcases Nat.lt_or_ge m k with h3 | h3
         · exact (tc_pgs.symm _ _).1 (tc_pgs.lt_trans ((tc_pgs.symm _ _).2 e) (HS.out.lt h3 h1))
         · obtain rfl:k=m:=by omega
           exact e
        case measure=>simp [intOf];omega
  · obtain rfl:i=j:=by omega
    have HB:=Lib.hid hB
    clear hB
    go_wp2_with fail
    go_ret2
    refine ⟨?_,HB0.out.trans (HB.out.mono (by omega))⟩
    rw [rank_none hj HLO.out HHI.out,(at_none HLO.out HHI.out).2.2]
    rfl
end Go.Proofs.YtldndkngpdfpfaaGreat
namespace Go.Proofs.YtldndkngpdfpfaaGreat
open Go.RowKit
theorem info_PgS:(Tryz.prog.info? 224).map (fun i=>(i.zero,i.size,i.bytes))=some (some (.agg #[.int .i64 0,.string ⟨#[]⟩,.int .i64 0,.int .i64 0]),4,40):=by kernel_rfl
theorem PgS.one (x:PgS) : ∀u∈PgS.cells x,u.oneCell'=true:=by intro u hu;simp [PgS.cells] at hu;rcases hu with rfl | rfl | rfl | rfl<;>rfl
theorem PgS.oneAll (l:List PgS) : ∀u∈l.flatMap PgS.cells,u.oneCell'=true:=by intro u hu;obtain ⟨x,_,hx⟩:=List.mem_flatMap.1 hu;exact PgS.one x u hx
def OwnPostPgS (w:World) (b:Nat) (sn:Bool) (A:Option Addr) (l:List PgS) (e:Ending) (w':World):Prop:=
 e = .returned (.tuple #[])∧∃A' c',PgSSet w' b false A' c' l∧Fr (· = b) w w'∧Moved w sn A false A'
set_option maxRecDepth 100000 in
set_option maxHeartbeats 1000000 in
theorem own_no_PgS (b c:Nat) (A:Option Addr) (l:List PgS) (w:World) (hS:PgSSet w b false A c l) :
 Calls Tryz.prog 225 #[.pointer (some ⟨b,0,none⟩)] w (OwnPostPgS w b false A l):=by
 have h1:=hS.cell1
 have HS:=Lib.hid hS
 clear hS
 go_enter Tryz.func225,Tryz.ntmps225
 go_wp2
 go_end0
 exact ⟨rfl,A,c,HS.out,Fr.refl _ _,.inl ⟨rfl,rfl⟩⟩
set_option maxRecDepth 100000 in
set_option maxHeartbeats 1000000 in
theorem own_yes_PgS (b c:Nat) (A:Option Addr) (l:List PgS) (w:World) (hS:PgSSet w b true A c l) (hl:(l.length:Int)≤1000000000) :
 Calls Tryz.prog 225 #[.pointer (some ⟨b,0,none⟩)] w (OwnPostPgS w b true A l):=by
 obtain ⟨i0,hi,hz0,hz1,hz2⟩:=info_parts info_PgS
 have h0:=hS.cell0
 have h1:=hS.cell1
 have hb:=hS.lt
 have f0:=hS.blk.frozen 0
 have f1:=hS.blk.frozen 1
 have hrd:=hS.rd PgS.cells_length
 have HB:=Lib.hid hS.blk
 have HRD:=Lib.hid hrd
 clear hS hrd
 have e1:IntKind.i64.wrap ((l.length:Int)+1)=(l.length:Int)+1:=IntWalk.i64_in _ (by omega)
 have hmk : ∀W:World,(Instr.makeSlice 279 (.int .i64 0) (.int .i64 ((l.length:Int)+1))).run Tryz.prog W = .ok (.slice (some ⟨W.heap.size,0,none⟩) 0 (l.length+1)) (W.alloc (.cells (madeCells (Value.cells (.agg #[.int .i64 0,.string ⟨#[]⟩,.int .i64 0,.int .i64 0])) ((l.length+1)*4)) 224)):=fun W=>by
  have h:=run_make (P:=Tryz.prog) W 279 224 i0 _ Tryz.underlying279 hi hz0 .i64 .i64 0 ((l.length:Int)+1) (by omega) (by omega) (by rw [hz2];omega) (by omega)
  rw [hz1] at h
  simpa [show ((l.length:Int)+1).toNat=l.length+1 by omega] using h
 go_enter Tryz.func225,Tryz.ntmps225
 go_wp2_with fail
 refine wp_region_E (fun w9=>Below w.heap.size w w9) [(0,0),(1,0),(2,0),(3,0),(4,1),(5,0),(6,0),(8,0),(9,0),(10,0),(11,1),(7,2),(12,2),(13,0),(14,0),(15,2)] (by kernel_rfl) (by kernel_rfl) (fun KK hKK=>?_)
 simp only [beside,List.filterMap_cons,List.filterMap_nil,List.getElem?_toArray,List.getElem?_cons_zero,List.getElem?_cons_succ,Option.map_some]
 repeat ((first | (refine wpX_w ?_ (Or.inl ⟨by rfl,fun w9=>?_⟩) ?_;rotate_left 1;go_simp;with_reducible rfl) | (refine wpX_l ?_ (((Below.refl _ _).drew)) (Or.inl ⟨by rfl,fun w9 hw9=>?_⟩) ?_;rotate_left 1;obtain ⟨hc9,hf9⟩:=bcell hw9;go_simp;with_reducible rfl) | refine wpX_w undef (Or.inr ⟨by rfl,rfl⟩) ?_ | refine wpX_l undef (((Below.refl _ _).drew)) (Or.inr ⟨by rfl,rfl⟩) ?_);go_frame)
 refine wpX_es (fun K9 hK9=>?_)
 go_simp
 refine hK9 _ _ (((Below.refl _ _).drew).alloc (Nat.le_refl _) _) ?_
 clear hK9 K9
 refine wpX_e (by kernel_rfl) (fun K9 hK9=>?_)
 refine step_append_src _ (by rfl) _ _ _ (by rfl) 224 i0 _ 4 40 Tryz.underlying279 hi hz0 hz1 hz2 rfl (by omega) _ 0 [] (by rfl) (World.ownsRow_made _ _ _ (Nat.zero_le _) (by unfold maxLen;omega) (by simp [madeCells])) A l.length c (l.flatMap PgS.cells) (by rfl) (flat_length PgS.cells_length l)
  ((HRD.out.drew.alloc _).news PgS.cells_length (by omega)) (PgS.oneAll l) (by unfold maxLen;omega) (by omega) ?_
 intro v2 w2 hown hgr hnil hat
 refine hK9 _ _ ?_
 clear hK9 K9
 rw [Nat.zero_add,List.nil_append] at hown
 obtain ⟨A',c',rfl,_,_,hz⟩:=own_form2 hown
 have HB1:=(HB.out.drew.alloc (.cells (madeCells (Value.cells (.agg #[.int .i64 0,.string ⟨#[]⟩,.int .i64 0,.int .i64 0])) ((l.length+1)*4)) 224)).grown hgr (by simp [Value.ownBlock];omega)
 have c0:=(HB1.cell 0).trans rfl
 have c1:=(HB1.cell 1).trans rfl
 have z0:=HB1.frozen 0
 have z1:=HB1.frozen 1
 have HB2:=Lib.hid HB1
 clear HB1
 repeat ((first | (refine wpX_w ?_ (Or.inl ⟨by rfl,fun w9=>?_⟩) ?_;rotate_left 1;go_simp;with_reducible rfl) | (refine wpX_l ?_ (((Below.refl _ _).drew).alloc (Nat.le_refl _) _) (Or.inl ⟨by rfl,fun w9 hw9=>?_⟩) ?_;rotate_left 1;obtain ⟨hc9,hf9⟩:=bcell hw9;go_simp;with_reducible rfl) | refine wpX_w undef (Or.inr ⟨by rfl,rfl⟩) ?_ | refine wpX_l undef (((Below.refl _ _).drew).alloc (Nat.le_refl _) _) (Or.inr ⟨by rfl,rfl⟩) ?_);go_frame)
 refine wpX_e (by kernel_rfl) (fun K9 hK9=>?_)
 go_simp
 refine hK9 _ _ ?_
 clear hK9 K9
 refine wpX_nil ?_
 simp only [OnlyN_normal]
 refine hKK _ _ ?_
 clear hKK KK
 go_wp2
 go_end0
 have hb2:(Value.slice A' l.length c').ownBlock=some w.heap.size∨(Value.slice A' l.length c').ownBlock=some (w.heap.size+1):=by
  rcases hat with h | h
  · left;rw [h];rfl
  · right;rw [h];simp
 have hA : ∃g,w.heap.size≤g∧A'=some ⟨g,0,none⟩:=by
  rcases A' with _ | a
  · exfalso;simp [Value.ownBlock] at hb2
  · obtain ⟨g,rfl⟩:=hz a rfl
    refine ⟨g,?_,rfl⟩
    simp [Value.ownBlock] at hb2
    omega
 obtain ⟨g,hg,rfl⟩:=hA
 have HB1:=HB2.out
 have HF:Fr (· = b) w w2:=((Fr.refl (· = b) w).drew.alloc _).grown hgr (fun k e=>by simp [Value.ownBlock] at e;right;omega)
 refine ⟨rfl,some ⟨g,0,none⟩,c',⟨(HB1.set_ 0 _).set_ 1 _,?_⟩,(HF.setCell (p:=⟨b,0,none⟩) (.inl rfl) _).setCell (p:=⟨b,1,none⟩) (.inl rfl) _,.inr ⟨rfl,g,hg,rfl⟩⟩
 have hne:(Value.slice (some ⟨g,0,none⟩) l.length c').ownBlock≠some b:=by simp [Value.ownBlock];omega
 exact ownsRow_setCell_other (a:=⟨b,1,none⟩) (ownsRow_setCell_other (a:=⟨b,0,none⟩) hown hne _) hne _
theorem own_PgS (b c:Nat) (sn:Bool) (A:Option Addr) (l:List PgS) (w:World) (hS:PgSSet w b sn A c l) (hl:(l.length:Int)≤1000000000) :
 Calls Tryz.prog 225 #[.pointer (some ⟨b,0,none⟩)] w (OwnPostPgS w b sn A l):=by
 cases sn
 · exact own_no_PgS b c A l w hS
 · exact own_yes_PgS b c A l w hS hl
end Go.Proofs.YtldndkngpdfpfaaGreat
namespace Go.Proofs.YtldndkngpdfpfaaGreat
open Go.RowKit
def PutPostPgS (w:World) (b:Nat) (sn:Bool) (A:Option Addr) (l:List PgS) (x:PgS) (e:Ending) (w':World):Prop:=
 e = .returned (.bool (!has cmpPgS l x))∧∃sn' A' c',PgSSet w' b sn' A' c' (put cmpPgS l x)∧Fr (SetMod b sn A) w w'∧Moved w sn A sn' A'
set_option maxRecDepth 100000 in
set_option maxHeartbeats 1000000 in
theorem put_there_PgS (b c:Nat) (sn:Bool) (A:Option Addr) (l:List PgS) (x:PgS) (w:World) (hS:PgSSet w b sn A c l) (hs:Srt cmpPgS l) (hl:(l.length:Int)≤100000000) (hh:has cmpPgS l x=true) :
 Calls Tryz.prog 183 #[.pointer (some ⟨b,0,none⟩),.agg #[.int .i64 x.kk.kind,.string x.kk.text,.int .i64 x.kk.n,.int .i64 x.v]] w (PutPostPgS w b sn A l x):=by
 have HS:=Lib.hid hS
 have HO:=Lib.hid hs
 clear hS hs
 go_enter Tryz.func183,Tryz.ntmps183
 go_wp2_with fail
 refine (find_PgS b c sn A l x _ (HS.out.new_ ((Below.refl _ _).alloc (Nat.le_refl _) _)) HO.out (by omega)).mono ?_
 rintro e w1 ⟨rfl,hb1⟩
 go_wp2_with fail
 go_ret
 refine ⟨by rw [hh];rfl,sn,A,c,?_,Fr.of_new (((Below.refl _ _).alloc (Nat.le_refl _) _).trans (hb1.mono (by simp))),.inl ⟨rfl,rfl⟩⟩
 rw [put_has hh]
 exact HS.out.new_ (((Below.refl _ _).alloc (Nat.le_refl _) _).trans (hb1.mono (by simp)))
set_option maxRecDepth 100000 in
set_option maxHeartbeats 4000000 in
theorem put_new_PgS (b c:Nat) (sn:Bool) (A:Option Addr) (l:List PgS) (x:PgS) (w:World) (hS:PgSSet w b sn A c l) (hs:Srt cmpPgS l) (hl:(l.length:Int)≤100000000) (hh:has cmpPgS l x=false) :
 Calls Tryz.prog 183 #[.pointer (some ⟨b,0,none⟩),.agg #[.int .i64 x.kk.kind,.string x.kk.text,.int .i64 x.kk.n,.int .i64 x.v]] w (PutPostPgS w b sn A l x):=by
 obtain ⟨i0,hi,hz0,hz1,hz2⟩:=info_parts info_PgS
 have HS:=Lib.hid hS
 have HO:=Lib.hid hs
 have hb:=hS.lt
 clear hS hs
 have hrk:=rank_le (cmp:=cmpPgS) l x
 go_enter Tryz.func183,Tryz.ntmps183
 go_wp2_with fail
 have hSa:=HS.out.new_ ((Below.refl w.heap.size w).alloc (Nat.le_refl _) (.cells #[Value.int IntKind.i64 x.kk.kind,Value.string x.kk.text,Value.int IntKind.i64 x.kk.n,Value.int IntKind.i64 x.v] 224))
 have HSa:=Lib.hid hSa
 clear hSa
 refine (find_PgS b c sn A l x _ HSa.out HO.out (by omega)).mono ?_
 rintro e w1 ⟨rfl,hb1⟩
 have HS1:=Lib.hid (HSa.out.new_ hb1)
 have hsz1:w.heap.size+1≤w1.heap.size:=by have:=hb1.size;(try simp at this);omega
 have y0:=(hb1.cell (p:=⟨w.heap.size,0,none⟩) (by simp)).trans ((Blk.new w 224 #[Value.int IntKind.i64 x.kk.kind,Value.string x.kk.text,Value.int IntKind.i64 x.kk.n,Value.int IntKind.i64 x.v]).cell 0)
 have y1:=(hb1.cell (p:=⟨w.heap.size,1,none⟩) (by simp)).trans ((Blk.new w 224 #[Value.int IntKind.i64 x.kk.kind,Value.string x.kk.text,Value.int IntKind.i64 x.kk.n,Value.int IntKind.i64 x.v]).cell 1)
 have y2:=(hb1.cell (p:=⟨w.heap.size,2,none⟩) (by simp)).trans ((Blk.new w 224 #[Value.int IntKind.i64 x.kk.kind,Value.string x.kk.text,Value.int IntKind.i64 x.kk.n,Value.int IntKind.i64 x.v]).cell 2)
 have y3:=(hb1.cell (p:=⟨w.heap.size,3,none⟩) (by simp)).trans ((Blk.new w 224 #[Value.int IntKind.i64 x.kk.kind,Value.string x.kk.text,Value.int IntKind.i64 x.kk.n,Value.int IntKind.i64 x.v]).cell 3)
 have HB1:=Lib.hid hb1
 clear hb1
 go_wp2_with fail
 refine (own_PgS b c sn A l _ HS1.out (by omega)).mono ?_
 rintro e w2 ⟨rfl,A1,c1,hS2,hF2,hM2⟩
 have hsz2:w1.heap.size≤w2.heap.size:=hF2.size
 have x0:w2.cell? ⟨w.heap.size,0,none⟩=some (.int .i64 x.kk.kind):=(hF2.cell (p:=⟨w.heap.size,0,none⟩) (by dsimp only;omega) (by dsimp only;omega)).trans y0
 have x1:w2.cell? ⟨w.heap.size,1,none⟩=some (.string x.kk.text):=(hF2.cell (p:=⟨w.heap.size,1,none⟩) (by dsimp only;omega) (by dsimp only;omega)).trans y1
 have x2:w2.cell? ⟨w.heap.size,2,none⟩=some (.int .i64 x.kk.n):=(hF2.cell (p:=⟨w.heap.size,2,none⟩) (by dsimp only;omega) (by dsimp only;omega)).trans y2
 have x3:w2.cell? ⟨w.heap.size,3,none⟩=some (.int .i64 x.v):=(hF2.cell (p:=⟨w.heap.size,3,none⟩) (by dsimp only;omega) (by dsimp only;omega)).trans y3
 have s0:=hS2.cell0
 have f0:=hS2.blk.frozen 0
 have hb2:b<w2.heap.size:=by omega
 have hk2:w.heap.size<w2.heap.size:=by omega
 have HS2:=Lib.hid hS2
 have HF2:=Lib.hid hF2
 have HM2:=Lib.hid hM2
 clear hS2 hF2 hM2 y0 y1 y2 y3
 go_wp2_with fail
 refine wp_region_E (fun w9=>Below w2.heap.size w2 w9) [(0,0),(1,0),(2,0),(3,0),(4,1),(5,1),(6,2),(7,2),(8,0),(9,0),(10,2)] (by kernel_rfl) (by kernel_rfl) (fun KK hKK=>?_)
 simp only [beside,List.filterMap_cons,List.filterMap_nil,List.getElem?_toArray,List.getElem?_cons_zero,List.getElem?_cons_succ,Option.map_some]
 repeat ((first | (refine wpX_w ?_ (Or.inl ⟨by rfl,fun w9=>?_⟩) ?_;rotate_left 1;go_simp;with_reducible rfl) | (refine wpX_l ?_ (((Below.refl _ _).drew)) (Or.inl ⟨by rfl,fun w9 hw9=>?_⟩) ?_;rotate_left 1;obtain ⟨hc9,hf9⟩:=bcell hw9;go_simp;with_reducible rfl) | refine wpX_w undef (Or.inr ⟨by rfl,rfl⟩) ?_ | refine wpX_l undef (((Below.refl _ _).drew)) (Or.inr ⟨by rfl,rfl⟩) ?_);go_frame)
 refine wpX_es (fun K9 hK9=>?_)
 go_simp
 refine hK9 _ _ (((Below.refl _ _).drew).alloc (Nat.le_refl _) _) ?_
 clear hK9 K9
 refine wpX_e (by kernel_rfl) (fun K9 hK9=>?_)
 refine step_append_src _ (by rfl) _ _ _ (by rfl) 224 i0 _ 4 40 Tryz.underlying279 hi hz0 hz1 hz2 rfl (by omega) _ l.length (l.flatMap PgS.cells) (by rfl) (ownsRow_new HS2.out.row (((Below.refl _ _).drew).alloc (Nat.le_refl _) _)) (some ⟨w2.heap.size,0,none⟩) 1 1 (PgS.cells x) (by rfl) (by rfl)
  (fun _=>⟨_,rfl,World.news_of_block (heap_alloc_new _ _)⟩) (PgS.one x) (by unfold maxLen;omega) (by omega) ?_
 intro v2 w3 hown hgr hnil hat
 refine hK9 _ _ ?_
 clear hK9 K9
 obtain ⟨g,c2,rfl⟩ : ∃g c2,v2 = .slice (some ⟨g,0,none⟩) (l.length+1) c2:=by
  rcases ownsRow_form hown with ⟨_,h0,_⟩ | ⟨g,c2,h,_⟩
  · omega
  · exact ⟨g,c2,h⟩
 have HXN:(Value.slice A1 l.length c1).ownBlock≠some w.heap.size:=by
  intro h
  rcases HM2.out with ⟨hsn,hA⟩ | ⟨_,g2,hg2,hA⟩
  · rcases A1 with _ | a1
    · cases h
    · have h1:=HS.out.row_lt _ hA.symm
      simp only [Value.ownBlock,Option.some.injEq] at h
      omega
  · subst hA
    simp only [Value.ownBlock,Option.some.injEq] at h
    omega
 have HB3':=(HS2.out.blk.drew.alloc (.cells #[Value.int IntKind.i64 x.kk.kind,Value.string x.kk.text,Value.int IntKind.i64 x.kk.n,Value.int IntKind.i64 x.v] 224)).grown hgr (own_blk_ne HS2.out.row HS2.out.blk (by decide))
 have c0:=(HB3'.cell 0).trans rfl
 have z0:=HB3'.frozen 0
 have HB3:=Lib.hid HB3'
 have HOWN:=Lib.hid hown
 have HGR:=Lib.hid hgr
 clear HB3' hown hgr
 repeat ((first | (refine wpX_w ?_ (Or.inl ⟨by rfl,fun w9=>?_⟩) ?_;rotate_left 1;go_simp;with_reducible rfl) | (refine wpX_l ?_ (((Below.refl _ _).drew).alloc (Nat.le_refl _) _) (Or.inl ⟨by rfl,fun w9 hw9=>?_⟩) ?_;rotate_left 1;obtain ⟨hc9,hf9⟩:=bcell hw9;go_simp;with_reducible rfl) | refine wpX_w undef (Or.inr ⟨by rfl,rfl⟩) ?_ | refine wpX_l undef (((Below.refl _ _).drew).alloc (Nat.le_refl _) _) (Or.inr ⟨by rfl,rfl⟩) ?_);go_frame)
 refine wpX_e (by kernel_rfl) (fun K9 hK9=>?_)
 go_simp
 refine hK9 _ _ ?_
 clear hK9 K9
 refine wpX_nil ?_
 simp only [OnlyN_normal]
 refine hKK _ _ ?_
 clear hKK KK
 have hlg:((l.length+1:Nat):Int)=(l.length:Int)+1:=by omega
 have hG:(SetMod b sn A g∨w.heap.size≤g)∧Moved w sn A false (some ⟨g,0,none⟩)∧g≠w.heap.size∧g≠b:=by
  rcases hat with h | h
  · rcases A1 with _ | a1
    · simp [Value.ownBlock] at h
    · obtain ⟨A',c',hv,_,_,hz⟩:=own_form2 HS2.out.row
      injection hv with hv _ _
      obtain ⟨g',rfl⟩:=hz a1 hv.symm
      have hgg:g'=g:=by simpa [Value.ownBlock] using h.symm
      subst hgg
      have hne:g'≠b:=HS2.out.row_ne (by decide) _ rfl
      rcases HM2.out with ⟨hsn,hA⟩ | ⟨_,g2,hg2,hA⟩
      · have h1:=HS.out.row_lt _ hA.symm
        exact ⟨.inl (.inr ⟨hsn.symm,_,hA.symm,rfl⟩),.inl ⟨hsn,hA⟩,by dsimp only at h1;omega,hne⟩
      · injection hA with hA
        injection hA with hA
        subst hA
        exact ⟨.inr (by omega),.inr ⟨rfl,_,by omega,rfl⟩,by omega,hne⟩
  · have hgg:g=w2.heap.size+1:=by simpa [Value.ownBlock] using h
    subst hgg
    exact ⟨.inr (by omega),.inr ⟨rfl,_,by omega,rfl⟩,by omega,by omega⟩
 obtain ⟨hgM,hgMv,hgk1,hgb⟩:=hG
 obtain ⟨w4,hw4⟩ : ∃w4,w4=w3.setCell ⟨b,0,none⟩ (.slice (some ⟨g,0,none⟩) (l.length+1) c2):=⟨_,rfl⟩
 have hB4:Blk w4 b 281 #[.slice (some ⟨g,0,none⟩) (l.length+1) c2,.bool false]:=by rw [hw4];exact HB3.out.set_ 0 _
 have hR4:w4.ownsRow 0 224 4 (.slice (some ⟨g,0,none⟩) (l.length+1) c2) (l.length+1) ((shiftAt l x l.length).flatMap PgS.cells):=by
  rw [hw4,shiftAt_start]
  refine ownsRow_setCell_other (a:=⟨b,0,none⟩) ?_ (by simpa [Value.ownBlock] using hgb) _
  rw [List.flatMap_append,List.flatMap_singleton]
  exact HOWN.out
 have hF4:Fr (SetMod b sn A) w w4:=by
  rw [hw4]
  have h1:Fr (SetMod b sn A) w w1:=Fr.of_new (((Below.refl _ _).alloc (Nat.le_refl _) _).trans (HB1.out.mono (by simp)))
  have h2:Fr (SetMod b sn A) w w2:=h1.trans (HF2.out.mono (fun k _ h=>.inl h))
  refine ((h2.drew.alloc _).grown HGR.out (fun k hk=>?_)).setCell (p:=⟨b,0,none⟩) (.inl (.inl rfl)) _
  rcases A1 with _ | a1
  · cases hk
  · simp only [Value.ownBlock,Option.some.injEq] at hk
    subst hk
    rcases HM2.out with ⟨hsn,hA⟩ | ⟨_,g',hg',hA⟩
    · left;right;exact ⟨hsn.symm,a1,hA.symm,rfl⟩
    · injection hA with hA
      subst hA
      right;dsimp only;omega
 have z0:w4.cell? ⟨w.heap.size,0,none⟩=some (.int .i64 x.kk.kind):=by
  rw [hw4,World.cell?_setCell_other _ _ _ _ (by intro h;injection h;omega)]
  refine HGR.out.cell ((World.cell?_alloc_lt w2.drew _ ⟨w.heap.size,0,none⟩ hk2).trans x0) ?_
  intro h
  exact HXN (by simpa using h.symm)
 have z1:w4.cell? ⟨w.heap.size,1,none⟩=some (.string x.kk.text):=by
  rw [hw4,World.cell?_setCell_other _ _ _ _ (by intro h;injection h;omega)]
  refine HGR.out.cell ((World.cell?_alloc_lt w2.drew _ ⟨w.heap.size,1,none⟩ hk2).trans x1) ?_
  intro h
  exact HXN (by simpa using h.symm)
 have z2:w4.cell? ⟨w.heap.size,2,none⟩=some (.int .i64 x.kk.n):=by
  rw [hw4,World.cell?_setCell_other _ _ _ _ (by intro h;injection h;omega)]
  refine HGR.out.cell ((World.cell?_alloc_lt w2.drew _ ⟨w.heap.size,2,none⟩ hk2).trans x2) ?_
  intro h
  exact HXN (by simpa using h.symm)
 have z3:w4.cell? ⟨w.heap.size,3,none⟩=some (.int .i64 x.v):=by
  rw [hw4,World.cell?_setCell_other _ _ _ _ (by intro h;injection h;omega)]
  refine HGR.out.cell ((World.cell?_alloc_lt w2.drew _ ⟨w.heap.size,3,none⟩ hk2).trans x3) ?_
  intro h
  exact HXN (by simpa using h.symm)
 have hk4:w.heap.size<w4.heap.size:=by rw [hw4];have:=HGR.out.size;simp at this ⊢;omega
 rw [← hw4]
 have HgM:=Lib.hid hgM
 have HgMv:=Lib.hid hgMv
 have HB4:=Lib.hid hB4
 have HR4:=Lib.hid hR4
 have HF4:=Lib.hid hF4
 have s4:=hB4.cell 0
 have s4':w4.cell? ⟨b,0,none⟩=some (.slice (some ⟨g,0,none⟩) (l.length+1) c2):=s4
 clear s4 hw4 hB4 hR4 hF4 hat hgM hgMv hnil x0 x1 x2 x3 s0 f0
 go_wp2_with fail
 go_loopw [7] (fun s wr=>∃i:Nat,s = .int .i64 i∧rank cmpPgS l x≤i∧i≤l.length∧wr.ownsRow 0 224 4 (.slice (some ⟨g,0,none⟩) (l.length+1) c2) (l.length+1) ((shiftAt l x i).flatMap PgS.cells)∧Fr (· = g) w4 wr) (fun s wr=>(intOf s).toNat)
 case atStart=>exact ⟨l.length,by go_num,hrk,Nat.le_refl _,HR4.out,Fr.refl _ _⟩
 case round=>
  obtain ⟨i,rfl,hi1,hi2,hown,hfr⟩:=hrel
  have hgw:g<wr.heap.size:=(hown.lt g rfl).2
  have r0:wr.cell? ⟨b,0,none⟩=some (.slice (some ⟨g,0,none⟩) (l.length+1) c2):=(hfr.cell (p:=⟨b,0,none⟩) HB4.out.lt (fun h=>hgb h.symm)).trans s4'
  have fz : ∀o,wr.frozen? ⟨g,o,none⟩=false:=fun o=>hown.frozenAt o
  have HOW:=Lib.hid hown
  have HFR:=Lib.hid hfr
  clear hown hfr
  by_cases hlt:rank cmpPgS l x<i
  · obtain ⟨j,rfl⟩ : ∃j,i=j+1:=⟨i - 1,by omega⟩
    have hj:j<l.length:=by omega
    have hrd:=ownsRow_rd (A:=some ⟨g,0,none⟩) (c:=c2) (l:=shiftAt l x (j+1)) PgS.cells_length (by rw [shiftAt_length l x hi2];exact HOW.out)
    obtain ⟨g',o',hgo,_,hcell⟩:=hrd.at_ (k:=j) (by rw [shiftAt_length l x hi2];omega)
    injection hgo with hgo
    injection hgo with hg1 hg2
    subst hg1;subst hg2
    rw [shiftAt_read l x hj] at hcell
    have q0:wr.cell? ⟨g,j*4,none⟩=some (.int .i64 l[j].kk.kind):=by simpa using hcell 0 _ rfl
    have q1:wr.cell? ⟨g,j*4+1,none⟩=some (.string l[j].kk.text):=by simpa using hcell 1 _ rfl
    have q2:wr.cell? ⟨g,j*4+2,none⟩=some (.int .i64 l[j].kk.n):=by simpa using hcell 2 _ rfl
    have q3:wr.cell? ⟨g,j*4+3,none⟩=some (.int .i64 l[j].v):=by simpa using hcell 3 _ rfl
    have rmj:Room wr g 224 (c2*4)∧l.length+1≤c2:=by
     rcases ownsRow_form HOW.out with ⟨hv,_⟩ | ⟨g',cap,hv,hn,_,hr,_⟩
     · cases hv
     · injection hv with hA _ hc
       injection hA with hA
       injection hA with hA
       subst hA;subst hc
       exact ⟨hr,hn⟩
    obtain ⟨hrm,hcap⟩:=rmj
    obtain ⟨u0,t0⟩:=hrm.cell (i:=(j+1)*4) (by omega)
    obtain ⟨u1,t1⟩:=hrm.cell (i:=(j+1)*4+1) (by omega)
    obtain ⟨u2,t2⟩:=hrm.cell (i:=(j+1)*4+2) (by omega)
    obtain ⟨u3,t3⟩:=hrm.cell (i:=(j+1)*4+3) (by omega)
    have b0:(0:Int)≤(j:Int)+1:=by omega
    have b1:(0:Int)≤(j:Int):=by omega
    have b4:(j:Int)<(l.length:Int):=by omega
    have b2:(j:Int)<(l.length:Int)+1:=by omega
    have b3:(j:Int)+1<(l.length:Int)+1:=by omega
    have w1:IntKind.i64.wrap ((j:Int))=(j:Int):=IntWalk.i64_in _ (by omega)
    have w2:IntKind.i64.wrap ((j:Int)+1 - 1)=(j:Int):=by rw [IntWalk.i64_in _ (by omega)];omega
    clear hcell hrd hrm
    obtain ⟨y,hy⟩ : ∃y,y=l[j]:=⟨_,rfl⟩
    rw [← hy] at q0 q1 q2 q3
    have HY:=Lib.hid hy
    have hbw:b<wr.heap.size:=World.block_lt_of_cell? wr _ r0
    clear hy
    go_wp2_with fail
    refine wp_region_E (fun w9=>Below wr.heap.size wr w9) [(0,0),(1,0),(2,0),(3,1),(4,0),(5,0),(6,0),(7,0),(8,1),(9,0),(10,0),(11,0),(12,1),(13,0),(14,2)] (by kernel_rfl) (by kernel_rfl) (fun KK hKK=>?_)
    simp only [beside,List.filterMap_cons,List.filterMap_nil,List.getElem?_toArray,List.getElem?_cons_zero,List.getElem?_cons_succ,Option.map_some]
    repeat ((first | (refine wpX_w ?_ (Or.inl ⟨by rfl,fun w9=>?_⟩) ?_;rotate_left 1;go_simp;with_reducible rfl) | (refine wpX_l ?_ (((Below.refl _ _).drew)) (Or.inl ⟨by rfl,fun w9 hw9=>?_⟩) ?_;rotate_left 1;obtain ⟨hc9,hf9⟩:=bcell hw9;go_simp;with_reducible rfl) | refine wpX_w undef (Or.inr ⟨by rfl,rfl⟩) ?_ | refine wpX_l undef (((Below.refl _ _).drew)) (Or.inr ⟨by rfl,rfl⟩) ?_);go_frame)
    refine wpX_e (by kernel_rfl) (fun K9 hK9=>?_)
    go_simp
    refine hK9 _ _ ?_
    clear hK9 K9
    refine wpX_nil ?_
    simp only [OnlyN_normal]
    refine hKK _ _ ?_
    clear hKK KK
    go_wp2_with fail
    go_roundw
    case rel=>
     refine ⟨j,by go_num,by omega,by omega,?_,Fr.drew (((((HFR.out).setCell (p:=⟨g,(j+1)*4,none⟩) (.inl rfl) (_)).setCell (p:=⟨g,(j+1)*4+1,none⟩) (.inl rfl) (_)).setCell (p:=⟨g,(j+1)*4+2,none⟩) (.inl rfl) (_)).setCell (p:=⟨g,(j+1)*4+3,none⟩) (.inl rfl) (_))⟩
     have hst:=((((((((HOW.out).stored ((j+1)*4) (.int .i64 y.kk.kind)).1).stored ((j+1)*4+1) (.string y.kk.text)).1).stored ((j+1)*4+2) (.int .i64 y.kk.n)).1).stored ((j+1)*4+3) (.int .i64 y.v)).1
     have he:setAll ((shiftAt l x (j+1)).flatMap PgS.cells) ((j+1)*4) (PgS.cells y)=(shiftAt l x j).flatMap PgS.cells:=by
      rw [flat_set PgS.cells_length (by omega) _ (j+1) (by rw [shiftAt_length l x hi2];omega),HY.out,shiftAt_step l x hj]
     rw [← he]
     exact hst
    case measure=>simp [intOf]<;>omega
  · obtain rfl:i=rank cmpPgS l x:=by omega
    have rmj:Room wr g 224 (c2*4)∧l.length+1≤c2:=by
     rcases ownsRow_form HOW.out with ⟨hv,_⟩ | ⟨g',cap,hv,hn,_,hr,_⟩
     · cases hv
     · injection hv with hA _ hc
       injection hA with hA
       injection hA with hA
       subst hA;subst hc
       exact ⟨hr,hn⟩
    obtain ⟨hrm,hcap⟩:=rmj
    obtain ⟨k,hk⟩ : ∃k,k=rank cmpPgS l x:=⟨_,rfl⟩
    rw [← hk] at hi2 hlt ⊢
    obtain ⟨u0,t0⟩:=hrm.cell (i:=k*4) (by omega)
    obtain ⟨u1,t1⟩:=hrm.cell (i:=k*4+1) (by omega)
    obtain ⟨u2,t2⟩:=hrm.cell (i:=k*4+2) (by omega)
    obtain ⟨u3,t3⟩:=hrm.cell (i:=k*4+3) (by omega)
    have x0:=(HFR.out.cell (p:=⟨w.heap.size,0,none⟩) hk4 (fun h=>hgk1 h.symm)).trans z0
    have x1:=(HFR.out.cell (p:=⟨w.heap.size,1,none⟩) hk4 (fun h=>hgk1 h.symm)).trans z1
    have x2:=(HFR.out.cell (p:=⟨w.heap.size,2,none⟩) hk4 (fun h=>hgk1 h.symm)).trans z2
    have x3:=(HFR.out.cell (p:=⟨w.heap.size,3,none⟩) hk4 (fun h=>hgk1 h.symm)).trans z3
    have b1:(0:Int)≤(k:Int):=by omega
    have b2:(k:Int)<(l.length:Int)+1:=by omega
    have HK:=Lib.hid hk
    have hkw:w.heap.size<wr.heap.size:=by have:=HFR.out.size;omega
    have hbw:b<wr.heap.size:=World.block_lt_of_cell? wr _ r0
    clear hrm hk z0 z1 z2 z3
    go_wp2_with fail
    refine wp_region_E (fun w9=>Below wr.heap.size wr w9) [(0,0),(1,0),(2,0),(3,1),(4,0),(5,1),(6,0),(7,2)] (by kernel_rfl) (by kernel_rfl) (fun KK hKK=>?_)
    simp only [beside,List.filterMap_cons,List.filterMap_nil,List.getElem?_toArray,List.getElem?_cons_zero,List.getElem?_cons_succ,Option.map_some]
    repeat ((first | (refine wpX_w ?_ (Or.inl ⟨by rfl,fun w9=>?_⟩) ?_;rotate_left 1;go_simp;with_reducible rfl) | (refine wpX_l ?_ (((Below.refl _ _).drew)) (Or.inl ⟨by rfl,fun w9 hw9=>?_⟩) ?_;rotate_left 1;obtain ⟨hc9,hf9⟩:=bcell hw9;go_simp;with_reducible rfl) | refine wpX_w undef (Or.inr ⟨by rfl,rfl⟩) ?_ | refine wpX_l undef (((Below.refl _ _).drew)) (Or.inr ⟨by rfl,rfl⟩) ?_);go_frame)
    refine wpX_e (by kernel_rfl) (fun K9 hK9=>?_)
    go_simp
    refine hK9 _ _ ?_
    clear hK9 K9
    refine wpX_nil ?_
    simp only [OnlyN_normal]
    refine hKK _ _ ?_
    clear hKK KK
    go_wp2_with fail
    go_ret
    have HOWk:=HOW.out
    rw [← HK.out] at HOWk
    have hst:=((((((((HOWk).stored (k*4) (.int .i64 x.kk.kind)).1).stored (k*4+1) (.string x.kk.text)).1).stored (k*4+2) (.int .i64 x.kk.n)).1).stored (k*4+3) (.int .i64 x.v)).1
    have he:setAll ((shiftAt l x k).flatMap PgS.cells) (k*4) (PgS.cells x)=(put cmpPgS l x).flatMap PgS.cells:=by
     rw [flat_set PgS.cells_length (by omega) _ k (by rw [shiftAt_length l x hi2];omega),shiftAt_end l x hi2,put_eq tc_pgs HO.out hh,HK.out]
    have hln:=length_put tc_pgs HO.out hh
    refine ⟨by rw [hh];rfl,false,some ⟨g,0,none⟩,c2,⟨?_,?_⟩,?_,?_⟩
    · rw [hln]
      exact ((((HB4.out.fr HFR.out (fun h=>hgb h.symm)).far (p:=⟨g,k*4,none⟩) (fun h=>hgb h.symm) _).far (p:=⟨g,k*4+1,none⟩) (fun h=>hgb h.symm) _).far (p:=⟨g,k*4+2,none⟩) (fun h=>hgb h.symm) _).far (p:=⟨g,k*4+3,none⟩) (fun h=>hgb h.symm) _
    · rw [hln,← he]
      exact hst
    · exact HF4.out.into (Fr.drew (((((HFR.out).setCell (p:=⟨g,k*4,none⟩) (.inl rfl) (_)).setCell (p:=⟨g,k*4+1,none⟩) (.inl rfl) (_)).setCell (p:=⟨g,k*4+2,none⟩) (.inl rfl) (_)).setCell (p:=⟨g,k*4+3,none⟩) (.inl rfl) (_))) (fun k hk=>by subst hk;exact HgM.out)
    · exact HgMv.out
theorem put_PgS (b c:Nat) (sn:Bool) (A:Option Addr) (l:List PgS) (x:PgS) (w:World) (hS:PgSSet w b sn A c l) (hs:Srt cmpPgS l) (hl:(l.length:Int)≤100000000) :
 Calls Tryz.prog 183 #[.pointer (some ⟨b,0,none⟩),.agg #[.int .i64 x.kk.kind,.string x.kk.text,.int .i64 x.kk.n,.int .i64 x.v]] w (PutPostPgS w b sn A l x):=by
 cases hh:has cmpPgS l x
 · exact put_new_PgS b c sn A l x w hS hs hl hh
 · exact put_there_PgS b c sn A l x w hS hs hl hh
end Go.Proofs.YtldndkngpdfpfaaGreat
namespace Go.Proofs.YtldndkngpdfpfaaGreat
open Go.RowKit
set_option maxRecDepth 100000 in
set_option maxHeartbeats 1000000 in
theorem get_no_PgS (b c:Nat) (sn:Bool) (A:Option Addr) (l:List PgS) (x:PgS) (w:World) (hS:PgSSet w b sn A c l) (hs:Srt cmpPgS l) (hl:(l.length:Int)≤1000000000) (hh:has cmpPgS l x=false) :
 Calls Tryz.prog 146 #[.pointer (some ⟨b,0,none⟩),.agg #[.int .i64 x.kk.kind,.string x.kk.text,.int .i64 x.kk.n,.int .i64 x.v]] w fun e w'=>e = .returned (.tuple #[.agg #[.int .i64 0,.string ⟨#[]⟩,.int .i64 0,.int .i64 0],.bool false])∧Below w.heap.size w w':=by
 have HS:=Lib.hid hS
 have HO:=Lib.hid hs
 clear hS hs
 go_enter Tryz.func146,Tryz.ntmps146
 go_wp2_with fail
 refine (find_PgS b c sn A l x _ (HS.out.new_ ((((Below.refl _ _).alloc (Nat.le_refl _) _).alloc (by simp) _).alloc (by simp;omega) _)) HO.out (by omega)).mono ?_
 rintro e w1 ⟨rfl,hb1⟩
 obtain ⟨hc1,hf1⟩:=bcell hb1
 have hz1:w.heap.size+2<w1.heap.size:=by have:=hb1.size;simp at this;omega
 have HB:=Lib.hid ((((((Below.refl w.heap.size w).alloc (Nat.le_refl _) _).alloc (by simp) _).alloc (by simp;omega) _)).trans (hb1.mono (by simp;omega)))
 clear hb1
 go_wp2_with fail
 exact bodyPost_ret (v:=.tuple #[.agg #[.int .i64 0,.string ⟨#[]⟩,.int .i64 0,.int .i64 0],.bool false]) (by simp [results,Tryz.results146,go_sem,hc1]) rfl ⟨rfl,by (repeat (first | exact Below.refl _ _ | exact HB.out | refine Below.drew ?_ | refine Below.al ?_ _ | refine Below.sc ?_ _))⟩
set_option maxRecDepth 100000 in
set_option maxHeartbeats 1000000 in
theorem get_is_PgS (b c:Nat) (sn:Bool) (A:Option Addr) (l:List PgS) (x y:PgS) (w:World) (hS:PgSSet w b sn A c l) (hs:Srt cmpPgS l) (hl:(l.length:Int)≤1000000000) (hh:has cmpPgS l x=true) (hy:l[rank cmpPgS l x]? = some y) :
 Calls Tryz.prog 146 #[.pointer (some ⟨b,0,none⟩),.agg #[.int .i64 x.kk.kind,.string x.kk.text,.int .i64 x.kk.n,.int .i64 x.v]] w fun e w'=>e = .returned (.tuple #[.agg #[.int .i64 y.kk.kind,.string y.kk.text,.int .i64 y.kk.n,.int .i64 y.v],.bool true])∧Below w.heap.size w w':=by
 have HS:=Lib.hid hS
 have HO:=Lib.hid hs
 obtain ⟨hrk,hye⟩:=List.getElem?_eq_some_iff.1 hy
 have hrd:=hS.rd PgS.cells_length
 have s0:=hS.cell0
 have hb:=hS.lt
 clear hS hs hy
 obtain ⟨g,off,rfl,hgs,hcell⟩:=hrd.at_ hrk
 rw [hye] at hcell
 obtain ⟨k,hk⟩ : ∃k,k=rank cmpPgS l x:=⟨_,rfl⟩
 rw [← hk] at hcell hrk
 have q0:w.cell? ⟨g,off+k*4,none⟩=some (.int .i64 y.kk.kind):=by simpa using hcell 0 _ rfl
 have q1:w.cell? ⟨g,off+k*4+1,none⟩=some (.string y.kk.text):=by simpa using hcell 1 _ rfl
 have q2:w.cell? ⟨g,off+k*4+2,none⟩=some (.int .i64 y.kk.n):=by simpa using hcell 2 _ rfl
 have q3:w.cell? ⟨g,off+k*4+3,none⟩=some (.int .i64 y.v):=by simpa using hcell 3 _ rfl
 have b1:(0:Int)≤(k:Int):=by omega
 have b2:(k:Int)<(l.length:Int):=by omega
 have HK:=Lib.hid hk
 clear hcell hrd hye hk
 go_enter Tryz.func146,Tryz.ntmps146
 go_wp2_with fail
 refine (find_PgS b c sn _ l x _ (HS.out.new_ ((((Below.refl _ _).alloc (Nat.le_refl _) _).alloc (by simp) _).alloc (by simp;omega) _)) HO.out (by omega)).mono ?_
 rintro e w1 ⟨rfl,hb1⟩
 rw [← HK.out]
 obtain ⟨hc1,hf1⟩:=bcell hb1
 have hz1:w.heap.size+2<w1.heap.size:=by have:=hb1.size;simp at this;omega
 have HB:=Lib.hid ((((((Below.refl w.heap.size w).alloc (Nat.le_refl _) _).alloc (by simp) _).alloc (by simp;omega) _)).trans (hb1.mono (by simp;omega)))
 clear hb1
 have r0:=(HB.out.cell (p:=⟨b,0,none⟩) hb).trans s0
 have r1:=(HB.out.cell (p:=⟨g,off+k*4,none⟩) hgs).trans q0
 have r2:=(HB.out.cell (p:=⟨g,off+k*4+1,none⟩) hgs).trans q1
 have r3:=(HB.out.cell (p:=⟨g,off+k*4+2,none⟩) hgs).trans q2
 have r4:=(HB.out.cell (p:=⟨g,off+k*4+3,none⟩) hgs).trans q3
 clear s0 q0 q1 q2 q3
 go_wp2_with fail
 exact bodyPost_ret (v:=.tuple #[.agg #[.int .i64 y.kk.kind,.string y.kk.text,.int .i64 y.kk.n,.int .i64 y.v],.bool true]) (by simp [results,Tryz.results146,go_sem,hc1]) rfl ⟨rfl,by (repeat (first | exact Below.refl _ _ | exact HB.out | refine Below.drew ?_ | refine Below.al ?_ _ | refine Below.sc ?_ _))⟩
end Go.Proofs.YtldndkngpdfpfaaGreat
namespace Go.Proofs.YtldndkngpdfpfaaGreat
open Go.RowKit
def NewPostPgS (w:World) (xs:List PgS) (e:Ending) (w':World):Prop:=
 ∃k,e = .returned (.pointer (some ⟨k,0,none⟩))∧w.heap.size≤k∧∃sn A c,PgSSet w' k sn A c (puts cmpPgS [] xs)∧AIn A (w.heap.size≤·)∧Below w.heap.size w w'
set_option maxRecDepth 100000 in
set_option maxHeartbeats 2000000 in
theorem new_PgS (A:Option Addr) (c:Nat) (xs:List PgS) (w:World) (hrd:RowRd w 4 PgS.cells A c xs) (hl:(xs.length:Int)≤10000000) :
 Calls Tryz.prog 140 #[.slice A xs.length c] w (NewPostPgS w xs):=by
 have HRD:=Lib.hid hrd
 clear hrd
 go_enter Tryz.func140,Tryz.ntmps140
 go_wp2_with fail
 obtain ⟨W0,hW0⟩ : ∃W0,W0=w.alloc (.cells #[.slice none 0 0,.bool false] 281):=⟨_,rfl⟩
 have hb0:Below w.heap.size w W0:=by rw [hW0];exact (Below.refl _ _).alloc (Nat.le_refl _) _
 have hS0:PgSSet W0 w.heap.size false none 0 []:=⟨by rw [hW0];exact Blk.new _ _ _,⟨by simp,.inl ⟨rfl,rfl⟩⟩⟩
 rw [← hW0]
 clear hW0
 have HB0:=Lib.hid hb0
 have HS0:=Lib.hid hS0
 clear hb0 hS0
 go_loopw [10] (fun s wr=>∃i:Nat,s = .int .i64 i∧i≤xs.length∧∃sn A' c',PgSSet wr w.heap.size sn A' c' (puts cmpPgS [] (xs.take i))∧AIn A' (w.heap.size≤·)∧Below w.heap.size w wr) (fun s wr=>xs.length - (intOf s).toNat)
 case atStart=>exact ⟨0,rfl,Nat.zero_le _,false,none,0,HS0.out,AIn.none_ _,HB0.out⟩
 case round=>
  obtain ⟨i,rfl,hi,sn,A',c',hS,hA',hB⟩:=hrel
  have HS:=Lib.hid hS
  have HA:=Lib.hid hA'
  have HB:=Lib.hid hB
  clear hS hA' hB
  by_cases hlt:i<xs.length
  · obtain ⟨x,hx⟩ : ∃x,x=xs[i]:=⟨_,rfl⟩
    obtain ⟨g,off,rfl,hgs,hcell⟩:=(HRD.out.fr (Fr.of_new (M:=fun _=>False) HB.out) (fun _ _ h=>h)).at_ hlt
    rw [← hx] at hcell
    have q0:wr.cell? ⟨g,off+i*4,none⟩=some (.int .i64 x.kk.kind):=by simpa using hcell 0 _ rfl
    have q1:wr.cell? ⟨g,off+i*4+1,none⟩=some (.string x.kk.text):=by simpa using hcell 1 _ rfl
    have q2:wr.cell? ⟨g,off+i*4+2,none⟩=some (.int .i64 x.kk.n):=by simpa using hcell 2 _ rfl
    have q3:wr.cell? ⟨g,off+i*4+3,none⟩=some (.int .i64 x.v):=by simpa using hcell 3 _ rfl
    have b1:(0:Int)≤(i:Int):=by omega
    have b2:(i:Int)<(xs.length:Int):=by omega
    have HX:=Lib.hid hx
    clear hcell hx
    go_wp2_with fail
    have hsr:=Srt.puts tc_pgs (xs.take i) (Srt.nil (cmp:=cmpPgS))
    have hlen:(((puts cmpPgS [] (xs.take i)).length:Nat):Int)≤100000000:=by
     have:=length_puts_le tc_pgs (xs.take i) (Srt.nil (cmp:=cmpPgS))
     simp at this
     omega
    refine (put_PgS w.heap.size c' sn A' _ x _ (HS.out.new_ ((Below.refl _ _).alloc (Nat.le_refl _) _)) hsr hlen).mono ?_
    rintro e w1 ⟨rfl,sn2,A2,c2,hS2,hF2,hM2⟩
    have hB1:Below w.heap.size w w1:=(HB.out.alloc HB.out.size _).trans (hF2.below (by have:=HB.out.size;(try simp);omega) (fun k hk hm=>by
     rcases hm with hm | ⟨_,a,ha,hm⟩
     · omega
     · have:=HA.out a ha;omega))
    have hA2:AIn A2 (w.heap.size≤·):=by
     rcases hM2 with ⟨_,rfl⟩ | ⟨_,g2,hg2,rfl⟩
     · exact HA.out
     · intro a ha;cases ha;have:=HB.out.size;(try simp at hg2 ⊢);omega
    have HS2:=Lib.hid hS2
    have HB1:=Lib.hid hB1
    have HA2:=Lib.hid hA2
    clear hS2 hB1 hA2 hF2 hM2 hsr hlen q0 q1 q2 q3
    go_wp2_with fail
    go_roundw
    case rel=>
     refine ⟨i+1,by go_num,by omega,sn2,A2,c2,?_,HA2.out,HB1.out⟩
     rw [List.take_add_one,List.getElem?_eq_getElem hlt,← HX.out]
     simp only [Option.toList_some,puts_snoc]
     exact HS2.out
    case measure=>simp [intOf]<;>omega
  · have hie:i=xs.length:=by omega
    subst hie
    go_wp2_with fail
    go_ret
    refine ⟨w.heap.size,rfl,Nat.le_refl _,sn,A',c',?_,HA.out,HB.out⟩
    have:=HS.out
    rwa [List.take_length] at this
end Go.Proofs.YtldndkngpdfpfaaGreat
namespace Go.Proofs.YtldndkngpdfpfaaGreat
open Go.RowKit
variable {P:Program}
structure Kept (B:Nat) (F X Y:World):Prop where
 from_:KeepsFrom B X Y
 own : ∀k,B≤k→k<F.heap.size→Y.heap[k]? = X.heap[k]?
section
variable {B C:Nat} {F X Y Z:World}
theorem Kept.refl (B:Nat) (F X:World):Kept B F X X:=⟨⟨Nat.le_refl _,fun _ _ _ h _=>h⟩,fun _ _ _=>rfl⟩
theorem Kept.trans (h:Kept B F X Y) (k:Kept B F Y Z):Kept B F X Z:=⟨h.1.trans k.1,fun i h1 h2=>(k.2 i h1 h2).trans (h.2 i h1 h2)⟩
theorem Kept.up (h:Kept B F X Y) (hB:B≤C):Kept C F X Y:=⟨KeepsFrom.up h.1 hB,fun i h1 h2=>h.2 i (by omega) h2⟩
theorem Kept.new_ (h:Below X.heap.size X Y) (hs:F.heap.size≤X.heap.size):Kept B F X Y:=
 ⟨⟨h.size,fun k o _ hk _=>(h.block k (Array.getElem?_eq_some_iff.1 hk).1).trans hk⟩,fun k _ hk=>h.block k (by omega)⟩
end
def IterP {α:Type} (P:Program) (gf:Nat) (lb:Array Value) (encs:α→Array Value) (xs:List α) (W:World) (start Kp:World→World→Prop):Prop:=
 ∀(l:Nat) (J Jx:World→List α→World→Prop),(∀F p X Y,J F p X→Priv W.heap.size X Y→J F p Y)→(∀F p X Y,Jx F p X→Priv W.heap.size X Y→Jx F p Y)→
  (∀F,start W F→J F [] F)→
  (∀F pre x post W1,start W F→xs=pre++x :: post→J F pre W1→YieldAt Fence.wide 0 P l (encs x) W1 fun e W'=>
    (e = .returned (.bool true)∧J F (pre ++ [x]) W'∧Kp W1 W'∧Kept W.heap.size F W1 W')∨(e = .returned (.bool false)∧Jx F (pre ++ [x]) W'∧Kept W.heap.size F W1 W'))→
  CallsIn Fence.wide 0 P gf (#[.func (.yield l) #[] #[]]++lb) W fun e W'=>(∃v,e = .returned v)∧∃F,start W F∧(J F xs W'∨∃pre post,xs=pre++post∧Jx F pre W')
theorem Iter.p {α:Type} {gf:Nat} {lb:Array Value} {encs:α→Array Value} {xs:List α} {W:World} {start Kp:World→World→Prop} (h:Iter P gf lb encs xs W start (fun X Y=>Kp X Y∧KeepsFrom W.heap.size X Y)):IterP P gf lb encs xs W start Kp:=by
 intro l J Jx h1 h2 h3 h4
 refine (h l (fun p X=>∃F,start W F∧J F p X) (fun p X=>∃F,start W F∧Jx F p X) (fun p X Y ⟨F,a,b⟩ hp=>⟨F,a,h1 F p X Y b hp⟩) (fun p X Y ⟨F,a,b⟩ hp=>⟨F,a,h2 F p X Y b hp⟩) (fun F hF=>⟨F,hF,h3 F hF⟩) ?_).mono ?_
 · rintro pre x post W1 hx ⟨F,hF,hJ⟩
   obtain ⟨fn,tmps,assign,body,hy,hR⟩:=h4 F pre x post W1 hF hx hJ
   refine ⟨fn,tmps,assign,body,hy,hR.mono ?_⟩
   rintro e W' (⟨g1,g2,g3,g4⟩ | ⟨g1,g2,_⟩)
   · exact .inl ⟨g1,⟨F,hF,g2⟩,g3,g4.1⟩
   · exact .inr ⟨g1,F,hF,g2⟩
 · rintro e W' ⟨hv,(⟨F,hF,hJ⟩ | ⟨pre,post,hx,F,hF,hJ⟩)⟩
   · exact ⟨hv,F,hF,.inl hJ⟩
   · exact ⟨hv,F,hF,.inr ⟨pre,post,hx,hJ⟩⟩
end Go.Proofs.YtldndkngpdfpfaaGreat
namespace Go.Proofs.YtldndkngpdfpfaaGreat
open Go.RowKit
variable {P:Program}
def Plus (D:Nat→Prop) (X Y:World):Nat→Prop:=fun k=>D k∨(X.heap.size≤k∧k<Y.heap.size)
def FromB (B:Nat) (D:Nat→Prop):Nat→Prop:=fun k=>D k∧B≤k
theorem Plus.same {D:Nat→Prop} {X Y:World} (h:Y.heap.size=X.heap.size):Plus D X Y=D:=by
 funext k;apply propext;unfold Plus;constructor
 · rintro (h | h)
   · exact h
   · omega
 · exact .inl
def Steady {α:Type} (B:Nat) (J:(Nat→Prop)→List α→World→Prop):Prop:=∀D p X Y,J D p X→Fr (FromB B D) X Y→J (Plus D X Y) p Y
theorem Steady.same {α:Type} {B:Nat} {J:(Nat→Prop)→List α→World→Prop} (h:Steady B J) {D:Nat→Prop} {p:List α} {X Y:World} (hJ:J D p X) (hF:Fr (FromB B D) X Y) (hz:Y.heap.size=X.heap.size):J D p Y:=by
 have:=h D p X Y hJ hF
 rwa [Plus.same hz] at this
def RoundsO {α:Type} (P:Program) (l:Nat) (encs:α→Array Value) (xs:List α) (J Jx:(Nat→Prop)→List α→World→Prop):Prop:=
 ∀D pre x post W1,xs=pre++x :: post→J D pre W1→YieldAt Fence.wide 0 P l (encs x) W1 fun e W'=>
  (e = .returned (.bool true)∧J D (pre ++ [x]) W'∧Fr (fun k=>¬D k) W1 W')∨(e = .returned (.bool false)∧Jx D (pre ++ [x]) W'∧Fr (fun k=>¬D k) W1 W')
def ToldO {α:Type} (xs:List α) (J Jx:(Nat→Prop)→List α→World→Prop) (W':World):Prop:=∃D,J D xs W'∨∃pre post,xs=pre++post∧Jx D pre W'
end Go.Proofs.YtldndkngpdfpfaaGreat
namespace Go.Proofs.YtldndkngpdfpfaaGreat
open Go.RowKit
theorem Fr.setCells {M:Nat→Prop} {a:World} {g:Nat} : ∀(vs:List Value) (o:Nat) {b:World},Fr M a b→(M g∨a.heap.size≤g)→Fr M a (b.setCells g o vs)
 | [],_,_,h,_=>h
 | v :: vs,o,_,h,hg=>Fr.setCells vs (o+1) (h.setCell (p:=⟨g,o,none⟩) hg v) hg
theorem ownsRow_setCells {g:Nat} {e:TypeId} {size n cap:Nat} : ∀(vs:List Value) (o:Nat) {w:World} {xs:List Value},w.ownsRow 0 e size (.slice (some ⟨g,0,none⟩) n cap) n xs→(w.setCells g o vs).ownsRow 0 e size (.slice (some ⟨g,0,none⟩) n cap) n ((vs.zipIdx o).foldl (fun l (v,j)=>l.set j v) xs)
 | [],_,_,_,h=>h
 | v :: vs,o,_,_,h=>by
   rw [List.zipIdx_cons,List.foldl_cons]
   exact ownsRow_setCells vs (o+1) ((h.stored o v).1)
theorem zip_shift : ∀(vs:List Value) (o s:Nat) (xs:List Value),(vs.zipIdx (o+s)).foldl (fun l (v,j)=>l.set j v) xs=(vs.zipIdx s).foldl (fun l (v,j)=>l.set (o+j) v) xs
 | [],_,_,_=>rfl
 | v :: vs,o,s,xs=>by
   rw [List.zipIdx_cons,List.zipIdx_cons,List.foldl_cons,List.foldl_cons]
   exact zip_shift vs o (s+1) _
theorem ownsRow_element {α:Type} {cells:α→List Value} {w:World} {g:Nat} {e:TypeId} {size n cap:Nat} (hsz : ∀x,(cells x).length=size) (h0:0<size) {l:List α} (h:w.ownsRow 0 e size (.slice (some ⟨g,0,none⟩) n cap) n (l.flatMap cells)) (k:Nat) (hk:k<l.length) (y:α) :
 (w.setCells g (k*size) (cells y)).ownsRow 0 e size (.slice (some ⟨g,0,none⟩) n cap) n ((l.set k y).flatMap cells):=by
 have h1:=ownsRow_setCells (w:=w) (cells y) (k*size) h
 have h2:=zip_shift (cells y) (k*size) 0 (l.flatMap cells)
 rw [Nat.add_zero] at h2
 rw [h2] at h1
 have h3:=flat_set hsz h0 l k hk y
 unfold setAll at h3
 rw [h3] at h1
 exact h1
theorem step_store_el {P:Program} {ops:Array Oper} {o:Oper} {a:Act} {w:World} {K:Act→World→Prop} {Q:Exit→Act→World→Prop} {E:Prop} (hgd:o.guard=none) (ty:TypeId) (x y:Operand) (ho:o.op = .store ty x y)
 (b off:Nat) (cells:Array Value) (hx:a.eval x = .pointer (some ⟨b,off,none⟩)) (hy:a.eval y = .agg cells)
 (ht:w.there b off cells.size) (hi:(P.info? ty).map (·.size)=some cells.size) (h1:cells.all (·.oneCell')=true)
 (h:K (a.put o.dst undef) (w.setCells b off cells.toList)):if Region.wanted o (yielded ops a.tmps)=true then Oper.wp P o a w K Q else E:=by
 rw [if_pos (by simp [Region.wanted,hgd])]
 exact wp_store_mid ty x y ho b off cells hx hy ht hi h1 h
theorem Blk.farCells {g':Nat} {t:TypeId} {cs:Array Value} {g:Nat} : ∀(vs:List Value) (o:Nat) {w:World},Blk w g' t cs→g'≠g→Blk (w.setCells g o vs) g' t cs
 | [],_,_,h,_=>h
 | v :: vs,o,_,h,hn=>Blk.farCells vs (o+1) (h.far (p:=⟨g,o,none⟩) hn v) hn
theorem Room.there {w:World} {g:Nat} {e:TypeId} {m:Nat} (h:Room w g e m) {o n:Nat} (hn:o+n≤m):w.there g o n:=fun j hj=>by
 obtain ⟨u,hu⟩:=h.cell (i:=o+j) (by omega)
 exact ⟨by rw [hu];rfl,h.frozen _⟩
theorem Blk.range {w:World} {g:Nat} {t:TypeId} {cs:Array Value} (h:Blk w g t cs):w.rangeAt g 0 cs.toList:=fun j v hv=>by
 rw [Nat.zero_add,h.cell];simpa using hv
theorem Blk.there {w:World} {g:Nat} {t:TypeId} {cs:Array Value} (h:Blk w g t cs):w.there g 0 cs.size:=fun j hj=>by
 rw [Nat.zero_add]
 exact ⟨by rw [h.cell,Array.getElem?_eq_getElem hj];rfl,h.frozen j⟩
theorem Below.setCells' {B:Nat} {a:World} {g:Nat} : ∀(vs:List Value) (o:Nat) {b:World},Below B a b→B≤g→Below B a (b.setCells g o vs)
 | [],_,_,h,_=>h
 | v :: vs,o,_,h,hg=>Below.setCells' vs (o+1) (h.setCell (show B≤(⟨g,o,none⟩:Addr).block from hg) v) hg
theorem results_cell_tmp {P:Program} {fn:Func} {t s:Tmp} {T:TypeId} (h:fn.results = #[.cell t T,.tmp s]) (tmps:Array Value) (w:World) (g:Nat) (cs:List Value) (d:TypeDesc) (ht:tmps.getD t undef = .pointer (some ⟨g,0,none⟩)) (hc:w.rangeAt g 0 cs)
 (hu:P.underlying T=some d) (hd:d.isRow=true) (hi:(P.info? T).map (·.size)=some cs.length):(results fn tmps).run P w = .ok (.tuple #[.agg cs.toArray,tmps.getD s undef]) w:=by
 have hl:=run_loadVar_mid (P:=P) w g 0 T cs d hc hu hd hi
 have ht':tmps[t]?.getD undef = .pointer (some ⟨g,0,none⟩):=by simpa using ht
 simp [results,h,ht',asAddr,hl]
theorem results_cell {P:Program} {fn:Func} {t:Tmp} {T:TypeId} (h:fn.results = #[.cell t T]) (tmps:Array Value) (w:World) (g:Nat) (cs:List Value) (d:TypeDesc) (ht:tmps.getD t undef = .pointer (some ⟨g,0,none⟩)) (hc:w.rangeAt g 0 cs)
 (hu:P.underlying T=some d) (hd:d.isRow=true) (hi:(P.info? T).map (·.size)=some cs.length):(results fn tmps).run P w = .ok (.agg cs.toArray) w:=by
 have hl:=run_loadVar_mid (P:=P) w g 0 T cs d hc hu hd hi
 have ht':tmps[t]?.getD undef = .pointer (some ⟨g,0,none⟩):=by simpa using ht
 simp [results,h,ht',asAddr,hl]
theorem RowRd.range {α:Type} {w:World} {size c:Nat} {cells:α→List Value} {A:Option Addr} {l:List α} (h:RowRd w size cells A c l) {k:Nat} (hk:k<l.length) : ∃b off,A=some ⟨b,off,none⟩∧b<w.heap.size∧w.rangeAt b (off+k*size) (cells l[k]):=by
 obtain ⟨b,off,h1,h2,h3⟩:=h.at_ hk
 exact ⟨b,off,h1,h2,fun j v hv=>h3 j v hv⟩
theorem rangeAt_below {w w':World} {B g o:Nat} {cs:List Value} (h:w.rangeAt g o cs) (hb:Below B w w') (hg:g<B):w'.rangeAt g o cs:=fun j v hv=>(hb.cell (p:=⟨g,o+j,none⟩) hg).trans (h j v hv)
end Go.Proofs.YtldndkngpdfpfaaGreat
namespace Go.Proofs.YtldndkngpdfpfaaGreat
open Go.RowKit
variable {P:Program} {α:Type}
def ItSt (J:(Nat→Prop)→List α→World→Prop) (D E:Nat→Prop) (W:World) (pre:List α) (X:World):Prop:=
 ∃D',(∀k,D k→D' k)∧(∀k,E k→D' k)∧J D' pre X∧Fr (fun j=>¬D j) W X∧(∀k,E k→W.heap.size≤k)
section
variable {J Jx:(Nat→Prop)→List α→World→Prop} {D E E':Nat→Prop} {W X Y:World} {pre xs:List α}
theorem ItSt.start (h:J D [] W):ItSt J D (fun _=>False) W [] W:=⟨D,fun _ h=>h,fun _ h=>h.elim,h,Fr.refl _ _,fun _ h=>h.elim⟩
theorem ItSt.fr (h:ItSt J D E W pre X):Fr (fun j=>¬D j) W X:=by
 obtain ⟨_,_,_,_,h,_⟩:=h
 exact h
theorem ItSt.step (h:ItSt J D E W pre X) (hJ:Steady W.heap.size J) (hF:Fr E X Y):ItSt J D (Plus E X Y) W pre Y:=by
 obtain ⟨D',h1,h2,h3,h4,h5⟩:=h
 refine ⟨Plus D' X Y,fun k hk=>.inl (h1 k hk),fun k hk=>hk.imp (h2 k) id,hJ _ _ _ _ h3 (hF.mono (fun k _ hk=>⟨h2 k hk,h5 k hk⟩)),h4.into hF (fun k hk=>.inr (h5 k hk)),fun k hk=>?_⟩
 rcases hk with hk | hk
 · exact h5 k hk
 · exact Nat.le_trans h4.size hk.1
theorem ItSt.new_ (h:ItSt J D E W pre X) (hJ:Steady W.heap.size J) (hb:Below X.heap.size X Y):ItSt J D (Plus E X Y) W pre Y:=h.step hJ (Fr.of_new hb)
theorem ItSt.round {l:Nat} {encs:α→Array Value} {x:α} {post:List α} (h:ItSt J D E W pre X) (hY:RoundsO P l encs xs J Jx) (hx:xs=pre++x :: post) :
 YieldAt Fence.wide 0 P l (encs x) X fun e W'=>(e = .returned (.bool true)∧ItSt J D E W (pre ++ [x]) W'∧Fr (fun k=>¬(D k∨E k)) X W')∨(e = .returned (.bool false)∧ToldO xs J Jx W'∧Fr (fun k=>¬(D k∨E k)) X W'):=by
 obtain ⟨D',h1,h2,h3,h4,h5⟩:=h
 obtain ⟨fn,tmps,assign,body,hy,hR⟩:=hY D' pre x post X hx h3
 refine ⟨fn,tmps,assign,body,hy,hR.mono ?_⟩
 rintro e W' (⟨g1,g2,g3⟩ | ⟨g1,g2,g3⟩)
 · exact .inl ⟨g1,⟨D',h1,h2,g2,h4.trans (g3.mono (fun k _ hk hd=>hk (h1 k hd))),h5⟩,g3.mono (fun k _ hk hd=>hk (hd.elim (h1 k) (h2 k)))⟩
 · exact .inr ⟨g1,⟨D',.inr ⟨pre ++ [x],post,by rw [hx];simp,g2⟩⟩,g3.mono (fun k _ hk hd=>hk (hd.elim (h1 k) (h2 k)))⟩
end
theorem size_setCells (b:Nat) : ∀(vs:List Value) (o:Nat) (w:World),(w.setCells b o vs).heap.size=w.heap.size
 | [],_,_=>rfl
 | v :: r,o,w=>by rw [World.setCells,size_setCells b r (o+1)];simp [World.setCell]
theorem Blk.setCells_ {g:Nat} {t:TypeId} : ∀(vs:List Value) (o:Nat) {w:World} {cs:Array Value},Blk w g t cs→∃cs',Blk (w.setCells g o vs) g t cs'∧cs'.size=cs.size
 | [],_,_,cs,h=>⟨cs,h,rfl⟩
 | v :: vs,o,w,cs,h=>by
   obtain ⟨cs',h1,h2⟩:=Blk.setCells_ vs (o+1) (h.set_ o v)
   exact ⟨cs',h1,by rw [h2];simp⟩
theorem kept_blk {w W:World} {t:TypeId} {zs vs:List Value} (hl:zs.length=vs.length) (hW:W=(w.alloc (.cells zs.toArray t)).setCells w.heap.size 0 vs) (hr:W.rangeAt w.heap.size 0 vs):Blk W w.heap.size t vs.toArray:=by
 obtain ⟨cs',h1,h2⟩:=Blk.setCells_ vs 0 (Blk.new w t zs.toArray)
 rw [← hW] at h1
 have e:cs'=vs.toArray:=by
  apply Array.ext
  · rw [h2];simpa using hl
  · intro i hi hj
    have hj':i<vs.length:=by simpa using hj
    have h3:=hr i vs[i] (List.getElem?_eq_getElem hj')
    rw [show (0+i)=i by omega,h1.cell i,Array.getElem?_eq_getElem hi] at h3
    simpa using h3
 rw [← e];exact h1
theorem grown_own {E:Nat→Prop} {X Y:World} {e:TypeId} {size n m:Nat} {A:Option Addr} {c:Nat} {v':Value} {xs news:List Value} (hA:AIn A E) (hown':Y.ownsRow 0 e size v' (n+m) (xs++news)) (hg:X.grownBy Y (Value.slice A n c).ownBlock)
 (hat:v'.ownBlock=(Value.slice A n c).ownBlock∨v'.ownBlock=some X.heap.size) : ∃A' c',v' = .slice A' (n+m) c'∧Fr E X Y∧AIn A' (Plus E X Y)∧Y.ownsRow 0 e size (.slice A' (n+m) c') (n+m) (xs++news):=by
 obtain ⟨A',c',rfl,hc,_,hz⟩:=own_form2 hown'
 refine ⟨A',c',rfl,(Fr.refl E X).grown hg (fun k hk=>?_),fun a ha=>?_,hown'⟩
 · rcases A with _ | a
   · simp [Value.ownBlock] at hk
   · have e:a.block=k:=by simpa [Value.ownBlock] using hk
     exact .inl (e ▸ hA a rfl)
 · subst ha
   rcases hat with h | h
   · rcases A with _ | b
     · simp [Value.ownBlock] at h
     · have e:a.block=b.block:=by simpa [Value.ownBlock] using h
       exact .inl (e ▸ hA b rfl)
   · have e:a.block=X.heap.size:=by simpa [Value.ownBlock] using h
     refine .inr ⟨by omega,?_⟩
     rcases ownsRow_form hown' with ⟨hv,_⟩ | ⟨g,cap,hv,_,_,hr,_⟩
     · cases hv
     · injection hv with hv
       injection hv with hv
       subst hv
       exact hr.lt
end Go.Proofs.YtldndkngpdfpfaaGreat
namespace Go.Proofs.YtldndkngpdfpfaaGreat
section
variable {P:Program} {ops:Array Oper} {Q:Exit→Act→World→Prop} {S:World→Prop}
inductive Pl where
 | fin (l:List (Nat×Cls))
 | fork (l:List (Nat×Cls)) (i:Nat) (r:Pl) (j:Nat) (s:Pl)
def setL (listed:Array Bool) (l:List (Nat×Cls)):Array Bool:=l.foldl (fun g x=>g.setIfInBounds x.1 true) listed
def okL (ops:Array Oper):List (Nat×Cls)→Array Bool→Bool
 | [],_=>true
 | (k,c) :: rest,listed=>(if c == 2 then Region.ready .any ops listed == [k] else (Region.ready .any ops listed).contains k && Region.free .any ops listed k) && okL ops rest (listed.setIfInBounds k true)
def chkL (qs ls:List Nat) (l:List (Nat×Cls)):Bool:=l.all fun (k,c)=>(c != 2) == qs.contains k && (c != 1 || ls.contains k)
def okPl (ops:Array Oper) (qs ls:List Nat):Pl→Nat→Array Bool→Bool
 | .fin l,n,listed=>n == l.length && chkL qs ls l && okL ops l listed && (Region.ready .any ops (setL listed l)).isEmpty && l.all fun x=>x.1<ops.size
 | .fork l i r j s,n,listed=>decide (l.length+1≤n) && chkL qs ls l && okL ops l listed && (l.all fun x=>x.1<ops.size) && Region.ready .any ops (setL listed l) == [i,j] && !qs.contains i && !qs.contains j &&
  okPl ops qs ls r (n - l.length - 1) ((setL listed l).setIfInBounds i true) && okPl ops qs ls s (n - l.length - 1) ((setL listed l).setIfInBounds j true)
def wpY (P:Program) (ops:Array Oper) (Q:Exit→Act→World→Prop) (S:World→Prop) (ns:Nat→Bool) (R:Act→World→Prop):List (Nat×Cls×Oper)→Act→World→Prop
 | [],a,w=>R a w
 | (i,c,o) :: rest,a,w=>
   if c=2 then (if Region.wanted o (yielded ops a.tmps)=true then o.wp P a w (fun a' w'=>(ns i=true→S w')∧wpY P ops Q S ns R rest a' w') Q else (ns i=true→S w)∧wpY P ops Q S ns R rest (a.put o.dst undef) w)
   else ∃v,(if c=1 then YieldsIf P ops S o v a∧S w else Yields P ops o v a)∧wpY P ops Q S ns R rest (a.put o.dst v) w
def wpPl (P:Program) (ops:Array Oper) (Q:Exit→Act→World→Prop) (S:World→Prop) (ns:Nat→Bool):Pl→Act→World→Prop
 | .fin l,a,w=>wpY P ops Q S ns (fun a w=>Q .normal a w) (beside ops l) a w
 | .fork l i r j s,a,w=>wpY P ops Q S ns (fun a w=>wpOp P ops Q i (fun a' w'=>(ns i=true→S w')∧wpPl P ops Q S ns r a' w') a w∧wpOp P ops Q j (fun a' w'=>(ns j=true→S w')∧wpPl P ops Q S ns s a' w') a w) (beside ops l) a w
theorem closed_setL : ∀(l:List (Nat×Cls)) (listed:Array Bool),Closed ops listed→okL ops l listed=true→Closed ops (setL listed l)
 | [],_,h,_=>h
 | (k,c) :: rest,listed,h,hB=>by
   simp only [okL,Bool.and_eq_true] at hB
   refine closed_setL rest _ (closed_ready h ?_) hB.2
   by_cases hc:c=2
   · subst hc
     have hB1:=hB.1
     simp only [beq_self_eq_true,if_true] at hB1
     have hr:Region.ready .any ops listed = [k]:=by simpa using hB1
     rw [hr];simp
   · have hB1:=hB.1
     rw [if_neg (by simpa using hc)] at hB1
     simp only [Bool.and_eq_true] at hB1
     simpa using hB1.1
theorem wpAnyE_list {qt ns:Nat→Bool} {R:Act→World→Prop} {n:Nat} (hsel:Region.noSelect ops=true) (hQ : ∀c a a' w,Q (.panic c) a w→Q (.panic c) a' w) :
 ∀(rest:List (Nat×Cls)) (listed:Array Bool) (a:Act) (w:World),Closed ops listed→okL ops rest listed=true→(∀x∈rest,x.1<ops.size)→
  (∀k c,(k,c)∈rest→(qt k=true↔c≠2))→(∀k,(k,1)∈rest→∀j,waitsT ops ops.size j k=false→j≠k→j<ops.size→ns j=true)→
  (∀a w,R a w→wpAnyE P ops Q S qt ns n (setL listed rest) a w)→wpY P ops Q S ns R (beside ops rest) a w→wpAnyE P ops Q S qt ns (rest.length+n) listed a w
 | [],listed,a,w,_,_,_,_,_,hR,h=>by
   have:=hR a w h
   simpa [setL] using this
 | (k,c) :: rest,listed,a,w,hcl,hB,hl,hqt,hns,hR,h=>by
   simp only [okL,Bool.and_eq_true] at hB
   obtain ⟨hB1,hB2⟩:=hB
   have hi:k<ops.size:=hl (k,c) (by simp)
   have ho:ops[k]? = some ops[k]:=Array.getElem?_eq_getElem hi
   have hb:beside ops ((k,c) :: rest)=(k,c,ops[k]) :: beside ops rest:=by simp [beside,ho]
   have ih:=fun listed' a w hcl' hB' hR' h'=>wpAnyE_list (R:=R) (n:=n) hsel hQ rest listed' a w hcl' hB' (fun x hx=>hl x (by simp [hx])) (fun k c hk=>hqt k c (by simp [hk])) (fun k hk=>hns k (by simp [hk])) hR' h'
   rw [hb] at h
   simp only [wpY] at h
   have hlen:((k,c) :: rest).length+n=(rest.length+n)+1:=by simp;omega
   rw [hlen]
   by_cases hc:c=2
   · subst hc
     simp only [beq_self_eq_true,if_true] at hB1
     have hr:Region.ready .any ops listed = [k]:=by simpa using hB1
     simp only [if_true] at h
     have hcl2:=closed_ready hcl (i:=k) (by rw [hr];simp)
     refine ⟨fun h0=>(by rw [hr] at h0;cases h0),fun i hi'=>?_⟩
     rw [hr] at hi'
     obtain rfl:i=k:=by simpa using hi'
     have hbh : ∀w',(ns i=true→S w')→behind S qt ns i w w':=fun w' hs=>by
      unfold behind
      rw [if_neg (fun hq=>(hqt i 2 (by simp)).1 hq rfl)]
      exact hs
     unfold wpOp
     simp only [ho]
     split
     · rename_i hw
       rw [if_pos hw] at h
       exact .inl (Oper.wp_mono (fun a' w' h'=>⟨hbh w' h'.1,ih _ a' w' hcl2 hB2 hR h'.2⟩) h)
     · rename_i hw
       rw [if_neg hw] at h
       exact ⟨hbh w h.1,ih _ _ w hcl2 hB2 hR h.2⟩
   · rw [if_neg (by simpa using hc)] at hB1
     simp only [Bool.and_eq_true] at hB1
     rw [if_neg hc] at h
     obtain ⟨v,hy,hk⟩:=h
     have hrdy:k∈Region.ready .any ops listed:=by simpa using hB1.1
     have hrest:=ih _ _ w (closed_ready hcl hrdy) hB2 hR hk
     by_cases h1:c=1
     · subst h1
       rw [if_pos rfl] at hy
       exact wpAnyE_first ho (Region.noSelect_spec hsel) (fun c a w=>hQ c _ _ w) true ((hqt k 1 (by simp)).2 hc) (fun _=>hns k (by simp)) (rest.length+n) listed a w hcl (Region.free_spec ho hB1.2) hrdy
        (hy.1.imp (fun ⟨p,q⟩=>⟨p,fun w' hw'=>q w' (hw' rfl)⟩) id) (fun _=>hy.2) hrest
     · rw [if_neg h1] at hy
       exact wpAnyE_first ho (Region.noSelect_spec hsel) (fun c a w=>hQ c _ _ w) false ((hqt k c (by simp)).2 hc) (fun h=>by cases h) (rest.length+n) listed a w hcl (Region.free_spec ho hB1.2) hrdy
        (hy.imp (fun ⟨p,q⟩=>⟨p,fun w' _=>q w'⟩) id) (fun h=>by cases h) hrest
theorem wpAnyE_pl {qs ls:List Nat} (hsel:Region.noSelect ops=true) (hQ : ∀c a a' w,Q (.panic c) a w→Q (.panic c) a' w) (p:Pl) :
 ∀(n:Nat) (listed:Array Bool) (a:Act) (w:World),Closed ops listed→okPl ops qs ls p n listed=true→
  wpPl P ops Q S (fun j=>ls.any fun k=>k != j && !waitsT ops ops.size j k) p a w→wpAnyE P ops Q S (fun k=>qs.contains k) (fun j=>ls.any fun k=>k != j && !waitsT ops ops.size j k) n listed a w:=by
 have hq : ∀l,chkL qs ls l=true→∀k c,(k,c)∈l→(qs.contains k=true↔c≠2):=fun l hl k c hk=>by
  have:=List.all_eq_true.1 hl (k,c) hk
  simp only [Bool.and_eq_true,beq_iff_eq] at this
  rw [← this.1];simp
 have hn : ∀l,chkL qs ls l=true→∀k,(k,1)∈l→∀j,waitsT ops ops.size j k=false→j≠k→j<ops.size→(ls.any fun k=>k != j && !waitsT ops ops.size j k)=true:=fun l hl k hk j hw hjk _=>by
  have:=List.all_eq_true.1 hl (k,1) hk
  simp only [Bool.and_eq_true] at this
  have h2:ls.contains k=true:=by simpa using this.2
  rw [List.any_eq_true]
  exact ⟨k,by simpa using h2,by rw [hw];simp [Ne.symm hjk]⟩
 induction p with
 | fin l=>
   intro n listed a w hcl hB h
   simp only [okPl,Bool.and_eq_true,beq_iff_eq] at hB
   obtain ⟨⟨⟨⟨rfl,hc⟩,hL⟩,he⟩,hlt⟩:=hB
   have:=wpAnyE_list (P:=P) (Q:=Q) (S:=S) (qt:=fun k=>qs.contains k) (ns:=fun j=>ls.any fun k=>k != j && !waitsT ops ops.size j k) (R:=fun a w=>Q .normal a w) (n:=0) hsel hQ l listed a w hcl hL (by simpa [List.all_eq_true] using hlt) (hq l hc) (hn l hc)
    (fun a w h=>⟨by simpa using he,h⟩) h
   simpa using this
 | fork l i r j s ihr ihs=>
   intro n listed a w hcl hB h
   simp only [okPl,Bool.and_eq_true,beq_iff_eq,decide_eq_true_eq,Bool.not_eq_true'] at hB
   obtain ⟨⟨⟨⟨⟨⟨⟨⟨hlen,hc⟩,hL⟩,hlt⟩,hrd⟩,hqi⟩,hqj⟩,hr⟩,hs⟩:=hB
   obtain ⟨m,rfl⟩ : ∃m,n=l.length+(m+1):=⟨n - l.length - 1,by omega⟩
   have em:l.length+(m+1) - l.length - 1=m:=by omega
   rw [em] at hr hs
   have hcl2:=closed_setL l listed hcl hL
   refine wpAnyE_list (P:=P) (Q:=Q) (S:=S) (qt:=fun k=>qs.contains k) (ns:=fun j=>ls.any fun k=>k != j && !waitsT ops ops.size j k) (n:=m+1) hsel hQ l listed a w hcl hL (by simpa [List.all_eq_true] using hlt) (hq l hc) (hn l hc) (fun a w hR=>?_) h
   refine ⟨fun h0=>(by rw [hrd] at h0;cases h0),fun k hk=>?_⟩
   have hcl3:=closed_ready hcl2 hk
   rw [hrd] at hk
   simp only [List.mem_cons,List.not_mem_nil,or_false] at hk
   rcases hk with rfl | rfl
   · refine wpOp_mono (fun a' w' h'=>⟨?_,ihr m _ a' w' hcl3 hr h'.2⟩) hR.1
     unfold behind
     rw [if_neg (by simp only [hqi];simp)]
     exact h'.1
   · refine wpOp_mono (fun a' w' h'=>⟨?_,ihs m _ a' w' hcl3 hs h'.2⟩) hR.2
     unfold behind
     rw [if_neg (by simp only [hqj];simp)]
     exact h'.1
theorem wp_region_Pl {id:Nat} {l:List Oper} {a:Act} {w:World} (S:World→Prop) (qs ls:List Nat) (p:Pl) (hm:P.follows .mixedOrders=true) (hsel:Region.noSelect l.toArray=true)
 (hB:okPl l.toArray qs ls p l.toArray.size (Array.replicate l.toArray.size false)=true)
 (h : ∀K:Act→World→Prop,(∀a w,Q .normal a w→K a w)→wpPl P l.toArray (OnlyN K) S (fun j=>ls.any fun k=>k != j && !waitsT l.toArray l.toArray.size j k) p a w.drew):(Code.region id l.toArray true).wp P Q a w:=by
 refine Code.wp_mono (Q:=OnlyN fun a w=>Q .normal a w) (fun e a w hq=>by cases e<;>first | exact hq | exact hq.elim) (wp_region_any hm ?_)
 have hcl:Closed l.toArray (Array.replicate l.toArray.size false):=fun m o hm=>by rw [getD_replicate_false] at hm;cases hm
 exact wpAny_of_E _ _ _ _ (wpAnyE_pl (P:=P) (Q:=OnlyN fun a w=>Q .normal a w) (S:=S) hsel (fun c a a' w h=>h) p _ _ a w.drew hcl hB (h _ (fun _ _ h=>h)))
variable {ns:Nat→Bool} {R:Act→World→Prop} {rest:List (Nat×Cls×Oper)} {a:Act} {w:World} {i:Nat} {o:Oper}
theorem wpY_nil (h:R a w):wpY P ops Q S ns R [] a w:=h
theorem wpY_w (v:Value) (hy:Yields P ops o v a) (h:wpY P ops Q S ns R rest (a.put o.dst v) w):wpY P ops Q S ns R ((i,0,o) :: rest) a w:=by
 simp only [wpY]
 exact ⟨v,by simpa using hy,h⟩
theorem wpY_l (v:Value) (hS:S w) (hy:YieldsIf P ops S o v a) (h:wpY P ops Q S ns R rest (a.put o.dst v) w):wpY P ops Q S ns R ((i,1,o) :: rest) a w:=by
 simp only [wpY]
 exact ⟨v,by simpa using ⟨hy,hS⟩,h⟩
theorem wpY_e (hn:ns i=false)
 (h : ∀K:Act→World→Prop,(∀a w,wpY P ops Q S ns R rest a w→K a w)→if Region.wanted o (yielded ops a.tmps)=true then Oper.wp P o a w K Q else K (a.put o.dst undef) w):wpY P ops Q S ns R ((i,2,o) :: rest) a w:=by
 have:=h (fun a' w'=>(ns i=true→S w')∧wpY P ops Q S ns R rest a' w') (fun a w h2=>⟨fun h=>absurd h (by rw [hn];simp),h2⟩)
 simpa only [wpY,if_true] using this
theorem wpY_es
 (h : ∀K:Act→World→Prop,(∀a w,S w→wpY P ops Q S ns R rest a w→K a w)→if Region.wanted o (yielded ops a.tmps)=true then Oper.wp P o a w K Q else K (a.put o.dst undef) w):wpY P ops Q S ns R ((i,2,o) :: rest) a w:=by
 have:=h (fun a' w'=>(ns i=true→S w')∧wpY P ops Q S ns R rest a' w') (fun a w h1 h2=>⟨fun _=>h1,h2⟩)
 simpa only [wpY,if_true] using this
theorem wpOp_c {C:World→Prop} {H:Act→World→Prop} (hC : ∀w,C w) (ho:ops[i]? = some o)
 (h : ∀K:Act→World→Prop,(∀a w,H a w→K a w)→if Region.wanted o (yielded ops a.tmps)=true then Oper.wp P o a w K Q else K (a.put o.dst undef) w) :
 wpOp P ops Q i (fun a' w'=>C w'∧H a' w') a w:=by
 have h2:=h (fun a' w'=>C w'∧H a' w') (fun a w h2=>⟨hC w,h2⟩)
 unfold wpOp
 simp only [ho]
 split
 · rename_i hw
   rw [if_pos hw] at h2
   exact .inl h2
 · rename_i hw
   rw [if_neg hw] at h2
   exact h2
theorem wpOp_cs {C:World→Prop} {H:Act→World→Prop} (ho:ops[i]? = some o)
 (h : ∀K:Act→World→Prop,(∀a w,C w→H a w→K a w)→if Region.wanted o (yielded ops a.tmps)=true then Oper.wp P o a w K Q else K (a.put o.dst undef) w) :
 wpOp P ops Q i (fun a' w'=>C w'∧H a' w') a w:=by
 have h2:=h (fun a' w'=>C w'∧H a' w') (fun a w h1 h2=>⟨h1,h2⟩)
 unfold wpOp
 simp only [ho]
 split
 · rename_i hw
   rw [if_pos hw] at h2
   exact .inl h2
 · rename_i hw
   rw [if_neg hw] at h2
   exact h2
end
end Go.Proofs.YtldndkngpdfpfaaGreat
