/-
  Texts put together: Types, SymWord, EagerT, SymDigits, SymValid, LeafName, ShapePlain, Sets, OpsSym, IterBase, Seq, IterSym, ListSym, KitSyms, Act1, Act4P, NamesP, VarsP.
-/
import Derived.Test.YtffemfglngikbaaGreatDa
import Derived.Deep.Cut
import Derived.Lib.SlBytesRow
import Derived.Test.YtffemfglngikbaaGreatRows
import Derived.Maps.RangeWalk
namespace Go.Proofs.YtffemfglngikbaaGreat
open Go.RowKit Go.ChangeShapes Go.WideShapes Go.Deep
def repStr:RepT ByteArray:=RepT.flat 1 (fun s:ByteArray=>[Value.string s]) (fun _=>rfl)
def repSym:RepT Sym:=RepT.flat 3 Sym.cells Sym.cells_length
theorem opens_Sym:Opens Tryz.prog 38 repSym:=opens_of_reads Sym.cells_length reads_Sym
theorem at_Sym {D:Nat→Prop} {w:World} {A:Option Addr} {c k:Nat} {l:List Sym} (h:RowR repSym D w A c l) (hk:k<l.length) : ∃g off,A=some ⟨g,off,none⟩∧D g∧g<w.heap.size∧w.cell? ⟨g,off+k*3,none⟩=some (.int .i64 l[k].kind)∧w.cell? ⟨g,off+k*3+1,none⟩=some (.string l[k].text)∧w.cell? ⟨g,off+k*3+2,none⟩=some (.int .i64 l[k].n):=by
 obtain ⟨g,off,cs,hA,hD,hg,hr,hc⟩:=h.at_ hk
 have hr2:cs=Sym.cells l[k]:=hr
 subst hr2
 refine ⟨g,off,hA,hD,hg,by simpa [repSym,RepT.flat] using hc 0 _ rfl,by simpa [repSym,RepT.flat] using hc 1 _ rfl,by simpa [repSym,RepT.flat] using hc 2 _ rfl⟩
structure Elem where
 id:Sym
 attr:Sym
 value:Sym
 acc:Bool
 goal:Bool
 tag:Int
def Elem.cells (x:Elem):List Value:=[.int .i64 x.id.kind,.string x.id.text,.int .i64 x.id.n,.int .i64 x.attr.kind,.string x.attr.text,.int .i64 x.attr.n,.int .i64 x.value.kind,.string x.value.text,.int .i64 x.value.n,.bool x.acc,.bool x.goal,.int .i64 x.tag]
theorem Elem.cells_length (x:Elem):x.cells.length=12:=rfl
structure TestT where
 rel:Int
 var:ByteArray
 sym:Sym
 list:List Sym
def repTestT:RepT TestT:=
 { size:=6,rep:=fun D w x cs=>∃A1 c1,cs = [.int .i64 x.rel,.string x.var,.int .i64 x.sym.kind,.string x.sym.text,.int .i64 x.sym.n,.slice A1 x.list.length c1]∧RowR repSym D w A1 c1 x.list,
   len:=by rintro _ _ _ _ ⟨_,_,rfl,_⟩;rfl,
   keep:=by
    rintro _ _ _ _ _ _ hs hk ⟨A1,c1,h0,h1⟩
    exact ⟨A1,c1,h0,h1.keep hs hk⟩ }
theorem at_TestT {D:Nat→Prop} {w:World} {A:Option Addr} {c k:Nat} {l:List TestT} (h:RowR repTestT D w A c l) (hk:k<l.length) : ∃g off A1 c1,A=some ⟨g,off,none⟩∧D g∧g<w.heap.size∧w.cell? ⟨g,off+k*6,none⟩=some (.int .i64 l[k].rel)∧w.cell? ⟨g,off+k*6+1,none⟩=some (.string l[k].var)∧w.cell? ⟨g,off+k*6+2,none⟩=some (.int .i64 l[k].sym.kind)∧w.cell? ⟨g,off+k*6+3,none⟩=some (.string l[k].sym.text)∧w.cell? ⟨g,off+k*6+4,none⟩=some (.int .i64 l[k].sym.n)∧w.cell? ⟨g,off+k*6+5,none⟩=some (.slice A1 l[k].list.length c1)∧RowR repSym D w A1 c1 l[k].list:=by
 obtain ⟨g,off,cs,hA,hD,hg,⟨A1,c1,rfl,hrs⟩,hc⟩:=h.at_ hk
 exact ⟨g,off,A1,c1,hA,hD,hg,by simpa [repTestT] using hc 0 _ rfl,by simpa [repTestT] using hc 1 _ rfl,by simpa [repTestT] using hc 2 _ rfl,by simpa [repTestT] using hc 3 _ rfl,by simpa [repTestT] using hc 4 _ rfl,by simpa [repTestT] using hc 5 _ rfl,hrs⟩
theorem opens_TestT:Opens Tryz.prog 141 repTestT:=
 ⟨by kernel_rfl,fun H enc w base spare held n cs x h=>by
  have hl2:cs.length=6:=(trod_len Tryz.underlying141 h).trans (by kernel_rfl)
  obtain ⟨m0,y0,h0⟩:=trod_field Tryz.underlying141 h 0 rfl 3 0 1 rfl rfl (by kernel_rfl)
  obtain ⟨m1,y1,h1⟩:=trod_field Tryz.underlying141 h 1 rfl 9 1 1 rfl rfl (by kernel_rfl)
  obtain ⟨m2,y2,h2⟩:=trod_field Tryz.underlying141 h 2 rfl 38 2 3 rfl rfl (by kernel_rfl)
  obtain ⟨m3,y3,h3⟩:=trod_field Tryz.underlying141 h 3 rfl 27 5 1 rfl rfl (by kernel_rfl)
  match cs,hl2 with
  | [v0,v1,v2,v3,v4,v5],_=>
    simp at h0 h1 h2 h3
    obtain ⟨a0,e0,_⟩:=DataW.trod_int Tryz.underlying3 h0
    simp at e0
    obtain ⟨a1,e1,_⟩:=DataW.trod_string Tryz.underlying9 h1
    simp at e1
    obtain ⟨a2,e2⟩:=opens_Sym.2 H enc w base spare held _ _ _ h2
    have e2:_=Sym.cells a2:=e2
    simp [Sym.cells] at e2
    obtain ⟨a3,A3,c3,e3,r3⟩:=(opens_slice Tryz.underlying27 (by kernel_rfl) (by decide) opens_Sym).2 H enc w base spare held _ _ _ h3
    simp at e3
    subst e0
    subst e1
    obtain ⟨rfl,rfl,rfl⟩:=e2
    subst e3
    exact ⟨⟨a0,a1,a2,a3⟩,A3,c3,rfl,r3⟩⟩
inductive CondT where
 | mk (kind:Int) (goal:Bool) (id:ByteArray) (attr:List TestT) (value:List TestT) (acc:Bool) (conds:List CondT)
def CondT.kind:CondT→Int
 | .mk x _ _ _ _ _ _=>x
def CondT.goal:CondT→Bool
 | .mk _ x _ _ _ _ _=>x
def CondT.id:CondT→ByteArray
 | .mk _ _ x _ _ _ _=>x
def CondT.attr:CondT→List TestT
 | .mk _ _ _ x _ _ _=>x
def CondT.value:CondT→List TestT
 | .mk _ _ _ _ x _ _=>x
def CondT.acc:CondT→Bool
 | .mk _ _ _ _ _ x _=>x
def CondT.conds:CondT→List CondT
 | .mk _ _ _ _ _ _ x=>x
def repCondT:Nat→RepT CondT
 | 0=>{ size:=7,rep:=fun _ _ _ _=>False,len:=fun h=>h.elim,keep:=fun _ _ h=>h }
 | n+1=>
 { size:=7,rep:=fun D w x cs=>∃A1 c1 A2 c2 A3 c3,cs = [.int .i64 x.kind,.bool x.goal,.string x.id,.slice A1 x.attr.length c1,.slice A2 x.value.length c2,.bool x.acc,.slice A3 x.conds.length c3]∧RowR repTestT D w A1 c1 x.attr∧RowR repTestT D w A2 c2 x.value∧RowR (repCondT n) D w A3 c3 x.conds,
   len:=by rintro _ _ _ _ ⟨_,_,_,_,_,_,rfl,_⟩;rfl,
   keep:=by
    rintro _ _ _ _ _ _ hs hk ⟨A1,c1,A2,c2,A3,c3,h0,h1,h2,h3⟩
    exact ⟨A1,c1,A2,c2,A3,c3,h0,h1.keep hs hk,h2.keep hs hk,h3.keep hs hk⟩ }
theorem repCondT_size (n:Nat):(repCondT n).size=7:=by cases n<;>rfl
theorem at_CondT {n:Nat} {D:Nat→Prop} {w:World} {A:Option Addr} {c k:Nat} {l:List CondT} (h:RowR (repCondT (n+1)) D w A c l) (hk:k<l.length) : ∃g off A1 c1 A2 c2 A3 c3,A=some ⟨g,off,none⟩∧D g∧g<w.heap.size∧w.cell? ⟨g,off+k*7,none⟩=some (.int .i64 l[k].kind)∧w.cell? ⟨g,off+k*7+1,none⟩=some (.bool l[k].goal)∧w.cell? ⟨g,off+k*7+2,none⟩=some (.string l[k].id)∧w.cell? ⟨g,off+k*7+3,none⟩=some (.slice A1 l[k].attr.length c1)∧w.cell? ⟨g,off+k*7+4,none⟩=some (.slice A2 l[k].value.length c2)∧w.cell? ⟨g,off+k*7+5,none⟩=some (.bool l[k].acc)∧w.cell? ⟨g,off+k*7+6,none⟩=some (.slice A3 l[k].conds.length c3)∧RowR repTestT D w A1 c1 l[k].attr∧RowR repTestT D w A2 c2 l[k].value∧RowR (repCondT n) D w A3 c3 l[k].conds:=by
 obtain ⟨g,off,cs,hA,hD,hg,⟨A1,c1,A2,c2,A3,c3,rfl,hrs⟩,hc⟩:=h.at_ hk
 exact ⟨g,off,A1,c1,A2,c2,A3,c3,hA,hD,hg,by simpa [repCondT] using hc 0 _ rfl,by simpa [repCondT] using hc 1 _ rfl,by simpa [repCondT] using hc 2 _ rfl,by simpa [repCondT] using hc 3 _ rfl,by simpa [repCondT] using hc 4 _ rfl,by simpa [repCondT] using hc 5 _ rfl,by simpa [repCondT] using hc 6 _ rfl,hrs⟩
theorem repCondT_mono : ∀(n:Nat) {D:Nat→Prop} {w:World} {a:CondT} {cs:List Value},(repCondT n).rep D w a cs→(repCondT (n+1)).rep D w a cs
 | 0,_,_,_,_,h=>h.elim
 | n+1,_,_,_,_,h=>by
   obtain ⟨A1,c1,A2,c2,A3,c3,h0,h1,h2,h3⟩:=h
   exact ⟨A1,c1,A2,c2,A3,c3,h0,h1,h2,h3.imp (by rw [repCondT_size,repCondT_size]) (fun _ _ g=>repCondT_mono n g)⟩
theorem repCondT_le {m n:Nat} (h:m≤n) {D:Nat→Prop} {w:World} {a:CondT} {cs:List Value} (g:(repCondT m).rep D w a cs):(repCondT n).rep D w a cs:=by
 induction n with
 | zero=>obtain rfl:m=0:=by omega
         exact g
 | succ n ih=>
   by_cases e:m=n+1
   · subst e;exact g
   · exact repCondT_mono n (ih (by omega))
theorem lenCondT {cs:List Value} (h:cs.length=7) : ∃v0 v1 v2 v3 v4 v5 v6,cs = [v0,v1,v2,v3,v4,v5,v6]:=by
 match cs,h with
 | [v0,v1,v2,v3,v4,v5,v6],_=>exact ⟨v0,v1,v2,v3,v4,v5,v6,rfl⟩
theorem openN_CondT {H:Type} (enc:TypeId×Value→H) (w:World) (base:Nat) (spare:Nat→Bool) (held:Bool) : ∀(fuel:Nat) (cs:List Value) (x:DataW H×List MemPlace),DataW.trod enc Tryz.prog w base spare held fuel 59 cs=some x→∃a:CondT,(repCondT fuel).rep (· < w.heap.size) w a cs:=by
 intro fuel
 induction fuel using Nat.strongRecOn with
 | _ fuel ih=>
   intro cs x h
   obtain ⟨n,rfl⟩ : ∃n,fuel=n+1:=⟨fuel - 1,by have:=trod_pos h;omega⟩
   have hl2:cs.length=7:=(trod_len Tryz.underlying59 h).trans (by kernel_rfl)
   obtain ⟨y0,h0⟩:=trod_fieldN Tryz.underlying59 h 0 rfl 3 0 1 rfl rfl (by kernel_rfl)
   obtain ⟨y1,h1⟩:=trod_fieldN Tryz.underlying59 h 1 rfl 4 1 1 rfl rfl (by kernel_rfl)
   obtain ⟨y2,h2⟩:=trod_fieldN Tryz.underlying59 h 2 rfl 9 2 1 rfl rfl (by kernel_rfl)
   obtain ⟨y3,h3⟩:=trod_fieldN Tryz.underlying59 h 3 rfl 57 3 1 rfl rfl (by kernel_rfl)
   obtain ⟨y4,h4⟩:=trod_fieldN Tryz.underlying59 h 4 rfl 57 4 1 rfl rfl (by kernel_rfl)
   obtain ⟨y5,h5⟩:=trod_fieldN Tryz.underlying59 h 5 rfl 4 5 1 rfl rfl (by kernel_rfl)
   obtain ⟨y6,h6⟩:=trod_fieldN Tryz.underlying59 h 6 rfl 22 6 1 rfl rfl (by kernel_rfl)
   obtain ⟨v0,v1,v2,v3,v4,v5,v6,rfl⟩:=lenCondT hl2
   simp at h0 h1 h2 h3 h4 h5 h6
   obtain ⟨a0,e0,_⟩:=DataW.trod_int Tryz.underlying3 h0
   simp at e0
   obtain ⟨a1,e1,_⟩:=DataW.trod_bool Tryz.underlying4 h1
   simp at e1
   obtain ⟨a2,e2,_⟩:=DataW.trod_string Tryz.underlying9 h2
   simp at e2
   obtain ⟨A3,c3,a3,e3,r3⟩:=row_of_trod (r:=repTestT) Tryz.underlying57 (by decide) opens_TestT.1 (fun n cs x hx=>opens_TestT.2 H enc w base spare held n cs x hx) h3
   simp at e3
   obtain ⟨A4,c4,a4,e4,r4⟩:=row_of_trod (r:=repTestT) Tryz.underlying57 (by decide) opens_TestT.1 (fun n cs x hx=>opens_TestT.2 H enc w base spare held n cs x hx) h4
   simp at e4
   obtain ⟨a5,e5,_⟩:=DataW.trod_bool Tryz.underlying4 h5
   simp at e5
   obtain ⟨A6,c6,a6,e6,r6⟩:=row_of_trodN (r:=repCondT n) Tryz.underlying22 (by rw [repCondT_size];decide) (by rw [repCondT_size];kernel_rfl) (fun m hm cs x hx=>(ih m (by omega) cs x hx).imp fun _ g=>repCondT_le (by omega) g) h6
   simp at e6
   subst e0
   subst e1
   subst e2
   subst e3
   subst e4
   subst e5
   subst e6
   exact ⟨⟨a0,a1,a2,a3,a4,a5,a6⟩,A3,c3,A4,c4,A6,c6,rfl,r3,r4,r6⟩
structure AtomT where
 var:ByteArray
 sym:Sym
def AtomT.cells (x:AtomT):List Value:=[.string x.var,.int .i64 x.sym.kind,.string x.sym.text,.int .i64 x.sym.n]
theorem AtomT.cells_length (x:AtomT):x.cells.length=4:=rfl
def repAtomT:RepT AtomT:=RepT.flat 4 AtomT.cells AtomT.cells_length
theorem opens_AtomT:Opens Tryz.prog 94 repAtomT:=
 ⟨by kernel_rfl,fun H enc w base spare held n cs x h=>by
  have hl2:cs.length=4:=(trod_len Tryz.underlying94 h).trans (by kernel_rfl)
  obtain ⟨m0,y0,h0⟩:=trod_field Tryz.underlying94 h 0 rfl 9 0 1 rfl rfl (by kernel_rfl)
  obtain ⟨m1,y1,h1⟩:=trod_field Tryz.underlying94 h 1 rfl 38 1 3 rfl rfl (by kernel_rfl)
  match cs,hl2 with
  | [v0,v1,v2,v3],_=>
    simp at h0 h1
    obtain ⟨a0,e0,_⟩:=DataW.trod_string Tryz.underlying9 h0
    simp at e0
    obtain ⟨a1,e1⟩:=opens_Sym.2 H enc w base spare held _ _ _ h1
    have e1:_=Sym.cells a1:=e1
    simp [Sym.cells] at e1
    subst e0
    obtain ⟨rfl,rfl,rfl⟩:=e1
    exact ⟨⟨a0,a1⟩,rfl⟩⟩
structure TermT where
 op:Int
 a:AtomT
 b:AtomT
def TermT.cells (x:TermT):List Value:=[.int .i64 x.op,.string x.a.var,.int .i64 x.a.sym.kind,.string x.a.sym.text,.int .i64 x.a.sym.n,.string x.b.var,.int .i64 x.b.sym.kind,.string x.b.sym.text,.int .i64 x.b.sym.n]
theorem TermT.cells_length (x:TermT):x.cells.length=9:=rfl
def repTermT:RepT TermT:=RepT.flat 9 TermT.cells TermT.cells_length
theorem opens_TermT:Opens Tryz.prog 96 repTermT:=
 ⟨by kernel_rfl,fun H enc w base spare held n cs x h=>by
  have hl2:cs.length=9:=(trod_len Tryz.underlying96 h).trans (by kernel_rfl)
  obtain ⟨m0,y0,h0⟩:=trod_field Tryz.underlying96 h 0 rfl 3 0 1 rfl rfl (by kernel_rfl)
  obtain ⟨m1,y1,h1⟩:=trod_field Tryz.underlying96 h 1 rfl 94 1 4 rfl rfl (by kernel_rfl)
  obtain ⟨m2,y2,h2⟩:=trod_field Tryz.underlying96 h 2 rfl 94 5 4 rfl rfl (by kernel_rfl)
  match cs,hl2 with
  | [v0,v1,v2,v3,v4,v5,v6,v7,v8],_=>
    simp at h0 h1 h2
    obtain ⟨a0,e0,_⟩:=DataW.trod_int Tryz.underlying3 h0
    simp at e0
    obtain ⟨a1,e1⟩:=opens_AtomT.2 H enc w base spare held _ _ _ h1
    have e1:_=AtomT.cells a1:=e1
    simp [AtomT.cells] at e1
    obtain ⟨a2,e2⟩:=opens_AtomT.2 H enc w base spare held _ _ _ h2
    have e2:_=AtomT.cells a2:=e2
    simp [AtomT.cells] at e2
    subst e0
    obtain ⟨rfl,rfl,rfl,rfl⟩:=e1
    obtain ⟨rfl,rfl,rfl,rfl⟩:=e2
    exact ⟨⟨a0,a1,a2⟩,rfl⟩⟩
structure ActT where
 id:ByteArray
 attr:AtomT
 value:TermT
 pref:Int
 other:AtomT
def ActT.cells (x:ActT):List Value:=[.string x.id,.string x.attr.var,.int .i64 x.attr.sym.kind,.string x.attr.sym.text,.int .i64 x.attr.sym.n,.int .i64 x.value.op,.string x.value.a.var,.int .i64 x.value.a.sym.kind,.string x.value.a.sym.text,.int .i64 x.value.a.sym.n,.string x.value.b.var,.int .i64 x.value.b.sym.kind,.string x.value.b.sym.text,.int .i64 x.value.b.sym.n,.int .i64 x.pref,.string x.other.var,.int .i64 x.other.sym.kind,.string x.other.sym.text,.int .i64 x.other.sym.n]
theorem ActT.cells_length (x:ActT):x.cells.length=19:=rfl
def repActT:RepT ActT:=RepT.flat 19 ActT.cells ActT.cells_length
theorem at_ActT {D:Nat→Prop} {w:World} {A:Option Addr} {c k:Nat} {l:List ActT} (h:RowR repActT D w A c l) (hk:k<l.length) : ∃g off,A=some ⟨g,off,none⟩∧D g∧g<w.heap.size∧w.cell? ⟨g,off+k*19,none⟩=some (.string l[k].id)∧w.cell? ⟨g,off+k*19+1,none⟩=some (.string l[k].attr.var)∧w.cell? ⟨g,off+k*19+2,none⟩=some (.int .i64 l[k].attr.sym.kind)∧w.cell? ⟨g,off+k*19+3,none⟩=some (.string l[k].attr.sym.text)∧w.cell? ⟨g,off+k*19+4,none⟩=some (.int .i64 l[k].attr.sym.n)∧w.cell? ⟨g,off+k*19+5,none⟩=some (.int .i64 l[k].value.op)∧w.cell? ⟨g,off+k*19+6,none⟩=some (.string l[k].value.a.var)∧w.cell? ⟨g,off+k*19+7,none⟩=some (.int .i64 l[k].value.a.sym.kind)∧w.cell? ⟨g,off+k*19+8,none⟩=some (.string l[k].value.a.sym.text)∧w.cell? ⟨g,off+k*19+9,none⟩=some (.int .i64 l[k].value.a.sym.n)∧w.cell? ⟨g,off+k*19+10,none⟩=some (.string l[k].value.b.var)∧w.cell? ⟨g,off+k*19+11,none⟩=some (.int .i64 l[k].value.b.sym.kind)∧w.cell? ⟨g,off+k*19+12,none⟩=some (.string l[k].value.b.sym.text)∧w.cell? ⟨g,off+k*19+13,none⟩=some (.int .i64 l[k].value.b.sym.n)∧w.cell? ⟨g,off+k*19+14,none⟩=some (.int .i64 l[k].pref)∧w.cell? ⟨g,off+k*19+15,none⟩=some (.string l[k].other.var)∧w.cell? ⟨g,off+k*19+16,none⟩=some (.int .i64 l[k].other.sym.kind)∧w.cell? ⟨g,off+k*19+17,none⟩=some (.string l[k].other.sym.text)∧w.cell? ⟨g,off+k*19+18,none⟩=some (.int .i64 l[k].other.sym.n):=by
 obtain ⟨g,off,cs,hA,hD,hg,hr,hc⟩:=h.at_ hk
 have hr2:cs=ActT.cells l[k]:=hr
 subst hr2
 refine ⟨g,off,hA,hD,hg,by simpa [repActT,RepT.flat] using hc 0 _ rfl,by simpa [repActT,RepT.flat] using hc 1 _ rfl,by simpa [repActT,RepT.flat] using hc 2 _ rfl,by simpa [repActT,RepT.flat] using hc 3 _ rfl,by simpa [repActT,RepT.flat] using hc 4 _ rfl,by simpa [repActT,RepT.flat] using hc 5 _ rfl,by simpa [repActT,RepT.flat] using hc 6 _ rfl,by simpa [repActT,RepT.flat] using hc 7 _ rfl,by simpa [repActT,RepT.flat] using hc 8 _ rfl,by simpa [repActT,RepT.flat] using hc 9 _ rfl,by simpa [repActT,RepT.flat] using hc 10 _ rfl,by simpa [repActT,RepT.flat] using hc 11 _ rfl,by simpa [repActT,RepT.flat] using hc 12 _ rfl,by simpa [repActT,RepT.flat] using hc 13 _ rfl,by simpa [repActT,RepT.flat] using hc 14 _ rfl,by simpa [repActT,RepT.flat] using hc 15 _ rfl,by simpa [repActT,RepT.flat] using hc 16 _ rfl,by simpa [repActT,RepT.flat] using hc 17 _ rfl,by simpa [repActT,RepT.flat] using hc 18 _ rfl⟩
theorem opens_ActT:Opens Tryz.prog 99 repActT:=
 ⟨by kernel_rfl,fun H enc w base spare held n cs x h=>by
  have hl2:cs.length=19:=(trod_len Tryz.underlying99 h).trans (by kernel_rfl)
  obtain ⟨m0,y0,h0⟩:=trod_field Tryz.underlying99 h 0 rfl 9 0 1 rfl rfl (by kernel_rfl)
  obtain ⟨m1,y1,h1⟩:=trod_field Tryz.underlying99 h 1 rfl 94 1 4 rfl rfl (by kernel_rfl)
  obtain ⟨m2,y2,h2⟩:=trod_field Tryz.underlying99 h 2 rfl 96 5 9 rfl rfl (by kernel_rfl)
  obtain ⟨m3,y3,h3⟩:=trod_field Tryz.underlying99 h 3 rfl 3 14 1 rfl rfl (by kernel_rfl)
  obtain ⟨m4,y4,h4⟩:=trod_field Tryz.underlying99 h 4 rfl 94 15 4 rfl rfl (by kernel_rfl)
  match cs,hl2 with
  | [v0,v1,v2,v3,v4,v5,v6,v7,v8,v9,v10,v11,v12,v13,v14,v15,v16,v17,v18],_=>
    simp at h0 h1 h2 h3 h4
    obtain ⟨a0,e0,_⟩:=DataW.trod_string Tryz.underlying9 h0
    simp at e0
    obtain ⟨a1,e1⟩:=opens_AtomT.2 H enc w base spare held _ _ _ h1
    have e1:_=AtomT.cells a1:=e1
    simp [AtomT.cells] at e1
    obtain ⟨a2,e2⟩:=opens_TermT.2 H enc w base spare held _ _ _ h2
    have e2:_=TermT.cells a2:=e2
    simp [TermT.cells] at e2
    obtain ⟨a3,e3,_⟩:=DataW.trod_int Tryz.underlying3 h3
    simp at e3
    obtain ⟨a4,e4⟩:=opens_AtomT.2 H enc w base spare held _ _ _ h4
    have e4:_=AtomT.cells a4:=e4
    simp [AtomT.cells] at e4
    subst e0
    obtain ⟨rfl,rfl,rfl,rfl⟩:=e1
    obtain ⟨rfl,rfl,rfl,rfl,rfl,rfl,rfl,rfl,rfl⟩:=e2
    subst e3
    obtain ⟨rfl,rfl,rfl,rfl⟩:=e4
    exact ⟨⟨a0,a1,a2,a3,a4⟩,rfl⟩⟩
structure ProdT where
 name:ByteArray
 conds:List CondT
 acts:List ActT
def repProdT (n:Nat):RepT ProdT:=
 { size:=3,rep:=fun D w x cs=>∃A1 c1 A2 c2,cs = [.string x.name,.slice A1 x.conds.length c1,.slice A2 x.acts.length c2]∧RowR (repCondT n) D w A1 c1 x.conds∧RowR repActT D w A2 c2 x.acts,
   len:=by rintro _ _ _ _ ⟨_,_,_,_,rfl,_⟩;rfl,
   keep:=by
    rintro _ _ _ _ _ _ hs hk ⟨A1,c1,A2,c2,h0,h1,h2⟩
    exact ⟨A1,c1,A2,c2,h0,h1.keep hs hk,h2.keep hs hk⟩ }
theorem lenProdT {cs:List Value} (h:cs.length=3) : ∃v0 v1 v2,cs = [v0,v1,v2]:=by
 match cs,h with
 | [v0,v1,v2],_=>exact ⟨v0,v1,v2,rfl⟩
theorem openN_ProdT {H:Type} (enc:TypeId×Value→H) (w:World) (base:Nat) (spare:Nat→Bool) (held:Bool) : ∀(fuel:Nat) (cs:List Value) (x:DataW H×List MemPlace),DataW.trod enc Tryz.prog w base spare held fuel 25 cs=some x→∃a:ProdT,(repProdT fuel).rep (· < w.heap.size) w a cs:=by
 intro fuel
 induction fuel using Nat.strongRecOn with
 | _ fuel ih=>
   intro cs x h
   obtain ⟨n,rfl⟩ : ∃n,fuel=n+1:=⟨fuel - 1,by have:=trod_pos h;omega⟩
   have hl2:cs.length=3:=(trod_len Tryz.underlying25 h).trans (by kernel_rfl)
   obtain ⟨y0,h0⟩:=trod_fieldN Tryz.underlying25 h 0 rfl 9 0 1 rfl rfl (by kernel_rfl)
   obtain ⟨y1,h1⟩:=trod_fieldN Tryz.underlying25 h 1 rfl 22 1 1 rfl rfl (by kernel_rfl)
   obtain ⟨y2,h2⟩:=trod_fieldN Tryz.underlying25 h 2 rfl 23 2 1 rfl rfl (by kernel_rfl)
   obtain ⟨v0,v1,v2,rfl⟩:=lenProdT hl2
   simp at h0 h1 h2
   obtain ⟨a0,e0,_⟩:=DataW.trod_string Tryz.underlying9 h0
   simp at e0
   obtain ⟨A1,c1,a1,e1,r1⟩:=row_of_trodN (r:=repCondT (n+1)) Tryz.underlying22 (by rw [repCondT_size];decide) (by rw [repCondT_size];kernel_rfl) (fun m hm cs x hx=>(openN_CondT enc w base spare held m cs x hx).imp fun _ g=>repCondT_le (by omega) g) h1
   simp at e1
   obtain ⟨A2,c2,a2,e2,r2⟩:=row_of_trod (r:=repActT) Tryz.underlying23 (by decide) opens_ActT.1 (fun n cs x hx=>opens_ActT.2 H enc w base spare held n cs x hx) h2
   simp at e2
   subst e0
   subst e1
   subst e2
   exact ⟨⟨a0,a1,a2⟩,A1,c1,A2,c2,rfl,r1,r2⟩
structure BindT where
 var:ByteArray
 sym:Sym
def BindT.cells (x:BindT):List Value:=[.string x.var,.int .i64 x.sym.kind,.string x.sym.text,.int .i64 x.sym.n]
theorem BindT.cells_length (x:BindT):x.cells.length=4:=rfl
structure PrefT where
 id:Sym
 attr:Sym
 value:Sym
 other:Sym
 kind:Int
 o:Bool
 level:Int
 by_:Int
def PrefT.cells (x:PrefT):List Value:=[.int .i64 x.id.kind,.string x.id.text,.int .i64 x.id.n,.int .i64 x.attr.kind,.string x.attr.text,.int .i64 x.attr.n,.int .i64 x.value.kind,.string x.value.text,.int .i64 x.value.n,.int .i64 x.other.kind,.string x.other.text,.int .i64 x.other.n,.int .i64 x.kind,.bool x.o,.int .i64 x.level,.int .i64 x.by_]
theorem PrefT.cells_length (x:PrefT):x.cells.length=16:=rfl
structure TraceT where
 elem:Elem
 level:Int
 cause:Int
def TraceT.cells (x:TraceT):List Value:=[.int .i64 x.elem.id.kind,.string x.elem.id.text,.int .i64 x.elem.id.n,.int .i64 x.elem.attr.kind,.string x.elem.attr.text,.int .i64 x.elem.attr.n,.int .i64 x.elem.value.kind,.string x.elem.value.text,.int .i64 x.elem.value.n,.bool x.elem.acc,.bool x.elem.goal,.int .i64 x.elem.tag,.int .i64 x.level,.int .i64 x.cause]
theorem TraceT.cells_length (x:TraceT):x.cells.length=14:=rfl
structure HoleT where
 cond:CondT
 binds:List BindT
structure ApartT where
 a:Sym
 b:Sym
 rel:Int
def ApartT.cells (x:ApartT):List Value:=[.int .i64 x.a.kind,.string x.a.text,.int .i64 x.a.n,.int .i64 x.b.kind,.string x.b.text,.int .i64 x.b.n,.int .i64 x.rel]
theorem ApartT.cells_length (x:ApartT):x.cells.length=7:=rfl
structure RecordT where
 num:Int
 level:Int
 elems:List TraceT
 holes:List HoleT
 aparts:List ApartT
 news:List Sym
end Go.Proofs.YtffemfglngikbaaGreat
namespace Go.Proofs.YtffemfglngikbaaGreat
open Go.RowKit
def smallB (c:UInt8):Bool:=decide (97≤c.toNat) && decide (c.toNat≤122)
def greatB (c:UInt8):Bool:=decide (65≤c.toNat) && decide (c.toNat≤90)
def digitB (c:UInt8):Bool:=decide (48≤c.toNat) && decide (c.toNat≤57)
def partB (c:UInt8):Bool:=smallB c || digitB c || c.toNat == 45 || c.toNat == 95
def isWord (t:ByteArray):Bool:=decide (1≤t.size) && decide (t.size≤32) && t.data.toList.head?.any smallB && t.data.toList.all partB
theorem isWord_iff {t:ByteArray}:isWord t=true↔∃h:0<t.size,t.size≤32∧smallB t[0]=true∧∀k,(h:k<t.size)→partB t[k]=true:=by
 unfold isWord
 rw [Bool.and_eq_true,Bool.and_eq_true,Bool.and_eq_true,decide_eq_true_iff,decide_eq_true_iff,List.all_eq_true]
 have hs:t.data.toList.length=t.size:=Array.length_toList
 constructor
 · rintro ⟨⟨⟨h1,h2⟩,h3⟩,h4⟩
   refine ⟨h1,h2,?_,fun k h=>h4 _ ?_⟩
   · rw [List.head?_eq_getElem?,List.getElem?_eq_getElem (by omega)] at h3
     exact (by simpa only [Option.any_some,Array.getElem_toList] using h3:smallB t.data[0]=true)
   · have:t[k]=t.data.toList[k]'(by omega):=by rw [Array.getElem_toList];rfl
     rw [this];exact List.getElem_mem _
 · rintro ⟨h1,h2,h3,h4⟩
   refine ⟨⟨⟨h1,h2⟩,?_⟩,fun x hx=>?_⟩
   · rw [List.head?_eq_getElem?,List.getElem?_eq_getElem (by omega)]
     rw [Option.any_some,Array.getElem_toList]
     exact h3
   · obtain ⟨k,hk,rfl⟩:=List.getElem_of_mem hx
     have:=h4 k (by omega)
     rw [Array.getElem_toList]
     exact this
theorem isWord_no {t:ByteArray} (h : ¬∃h:0<t.size,t.size≤32∧smallB t[0]=true∧∀k,(h:k<t.size)→partB t[k]=true):isWord t=false:=by
 cases e:isWord t
 · rfl
 · exact absurd (isWord_iff.1 e) h
set_option maxHeartbeats 400000 in
theorem small_is (c:UInt8) (w:World):Calls Tryz.prog 189 #[.int .u8 (c.toNat:Int)] w fun e w'=>e = .returned (.bool (smallB c))∧w=w':=by
 by_cases h1:97≤c.toNat
 · have t1:decide ((97:Int)≤(c.toNat:Int))=true:=by simp;omega
   by_cases h2:c.toNat≤122
   · have t2:decide ((c.toNat:Int)≤122)=true:=by simp;omega
     have HF:Hid (smallB c=true):=by simp [Hid,smallB,h1,h2]
     clear h1 h2
     go_enter Tryz.func189,Tryz.ntmps189
     go_wp2
     go_ret
     exact ⟨by rw [HF.out];rfl,rfl⟩
   · have t2:decide ((c.toNat:Int)≤122)=false:=by simp;omega
     have HF:Hid (smallB c=false):=by simp [Hid,smallB,h2]
     clear h1 h2
     go_enter Tryz.func189,Tryz.ntmps189
     go_wp2
     go_ret
     exact ⟨by rw [HF.out];rfl,rfl⟩
 · have t1:decide ((97:Int)≤(c.toNat:Int))=false:=by simp;omega
   have HF:Hid (smallB c=false):=by simp [Hid,smallB,h1]
   clear h1
   go_enter Tryz.func189,Tryz.ntmps189
   go_wp2
   go_ret
   exact ⟨by rw [HF.out];rfl,rfl⟩
set_option maxHeartbeats 400000 in
theorem great_is (c:UInt8) (w:World):Calls Tryz.prog 124 #[.int .u8 (c.toNat:Int)] w fun e w'=>e = .returned (.bool (greatB c))∧w=w':=by
 by_cases h1:65≤c.toNat
 · have t1:decide ((65:Int)≤(c.toNat:Int))=true:=by simp;omega
   by_cases h2:c.toNat≤90
   · have t2:decide ((c.toNat:Int)≤90)=true:=by simp;omega
     have HF:Hid (greatB c=true):=by simp [Hid,greatB,h1,h2]
     clear h1 h2
     go_enter Tryz.func124,Tryz.ntmps124
     go_wp2
     go_ret
     exact ⟨by rw [HF.out];rfl,rfl⟩
   · have t2:decide ((c.toNat:Int)≤90)=false:=by simp;omega
     have HF:Hid (greatB c=false):=by simp [Hid,greatB,h2]
     clear h1 h2
     go_enter Tryz.func124,Tryz.ntmps124
     go_wp2
     go_ret
     exact ⟨by rw [HF.out];rfl,rfl⟩
 · have t1:decide ((65:Int)≤(c.toNat:Int))=false:=by simp;omega
   have HF:Hid (greatB c=false):=by simp [Hid,greatB,h1]
   clear h1
   go_enter Tryz.func124,Tryz.ntmps124
   go_wp2
   go_ret
   exact ⟨by rw [HF.out];rfl,rfl⟩
set_option maxHeartbeats 400000 in
theorem digit_is (c:UInt8) (w:World):Calls Tryz.prog 190 #[.int .u8 (c.toNat:Int)] w fun e w'=>e = .returned (.bool (digitB c))∧w=w':=by
 by_cases h1:48≤c.toNat
 · have t1:decide ((48:Int)≤(c.toNat:Int))=true:=by simp;omega
   by_cases h2:c.toNat≤57
   · have t2:decide ((c.toNat:Int)≤57)=true:=by simp;omega
     have HF:Hid (digitB c=true):=by simp [Hid,digitB,h1,h2]
     clear h1 h2
     go_enter Tryz.func190,Tryz.ntmps190
     go_wp2
     go_ret
     exact ⟨by rw [HF.out];rfl,rfl⟩
   · have t2:decide ((c.toNat:Int)≤57)=false:=by simp;omega
     have HF:Hid (digitB c=false):=by simp [Hid,digitB,h2]
     clear h1 h2
     go_enter Tryz.func190,Tryz.ntmps190
     go_wp2
     go_ret
     exact ⟨by rw [HF.out];rfl,rfl⟩
 · have t1:decide ((48:Int)≤(c.toNat:Int))=false:=by simp;omega
   have HF:Hid (digitB c=false):=by simp [Hid,digitB,h1]
   clear h1
   go_enter Tryz.func190,Tryz.ntmps190
   go_wp2
   go_ret
   exact ⟨by rw [HF.out];rfl,rfl⟩
set_option maxHeartbeats 1000000 in
theorem part_is (c:UInt8) (w:World):Calls Tryz.prog 175 #[.int .u8 (c.toNat:Int)] w fun e w'=>e = .returned (.bool (partB c))∧w=w':=by
 have HF:Hid (partB c=(((decide (97≤c.toNat) && decide (c.toNat≤122)) || (decide (48≤c.toNat) && decide (c.toNat≤57))) || decide (c.toNat=45) || decide (c.toNat=95))):=rfl
 have t1:decide ((97:Int)≤(c.toNat:Int))=decide (97≤c.toNat):=by apply decide_eq_decide.2;omega
 have t2:decide ((c.toNat:Int)≤122)=decide (c.toNat≤122):=by apply decide_eq_decide.2;omega
 have t3:decide ((48:Int)≤(c.toNat:Int))=decide (48≤c.toNat):=by apply decide_eq_decide.2;omega
 have t4:decide ((c.toNat:Int)≤57)=decide (c.toNat≤57):=by apply decide_eq_decide.2;omega
 have t5:((c.toNat:Int) == 45)=decide (c.toNat=45):=by rw [Bool.eq_iff_iff];simp;omega
 have t6:((c.toNat:Int) == 95)=decide (c.toNat=95):=by rw [Bool.eq_iff_iff];simp;omega
 cases h1:decide (97≤c.toNat)<;>cases h2:decide (c.toNat≤122)<;>cases h3:decide (48≤c.toNat)<;>cases h4:decide (c.toNat≤57)<;>cases h5:decide (c.toNat=45)<;>cases h6:decide (c.toNat=95)
 all_goals
  rw [h1] at t1;rw [h2] at t2;rw [h3] at t3;rw [h4] at t4;rw [h5] at t5;rw [h6] at t6
  have HF2:=HF.out
  rw [h1,h2,h3,h4,h5,h6] at HF2
  have HF3:=Lib.hid HF2
  clear h1 h2 h3 h4 h5 h6 HF HF2
  go_enter Tryz.func175,Tryz.ntmps175
  go_wp2
  go_ret
  exact ⟨by rw [HF3.out];rfl,rfl⟩
set_option maxRecDepth 100000 in
set_option maxHeartbeats 2000000 in
theorem word_is (t:ByteArray) (w:World):Calls Tryz.prog 126 #[.string t] w fun e w'=>e = .returned (.bool (isWord t))∧w=w':=by
 by_cases h1:t.size<1
 · have t1:decide ((t.size:Int)<1)=true:=by simp;omega
   have HF:=Lib.hid (isWord_no (t:=t) (fun ⟨h,_⟩=>by omega))
   clear h1
   go_enter Tryz.func126,Tryz.ntmps126
   go_wp2
   go_ret
   exact ⟨by rw [HF.out];rfl,rfl⟩
 have t1:decide ((t.size:Int)<1)=false:=by simp;omega
 by_cases h2:32<t.size
 · have t2:decide ((32:Int)<(t.size:Int))=true:=by simp;omega
   have HF:=Lib.hid (isWord_no (t:=t) (fun ⟨h,h3,_⟩=>by omega))
   clear h1 h2
   go_enter Tryz.func126,Tryz.ntmps126
   go_wp2
   go_ret
   exact ⟨by rw [HF.out];rfl,rfl⟩
 have t2:decide ((32:Int)<(t.size:Int))=false:=by simp;omega
 have h0:0<t.size:=by omega
 have h32:t.size≤32:=by omega
 clear h1 h2
 cases h3:smallB t[0]
 · have HF:=Lib.hid (isWord_no (t:=t) (fun ⟨h,_,h4,_⟩=>by rw [h3] at h4;cases h4))
   go_enter Tryz.func126,Tryz.ntmps126
   go_wp2_with (go_at_call 189;refine (small_is _ _).mono ?_;rintro e w' ⟨rfl,rfl⟩)
   go_ret
   exact ⟨by rw [HF.out];rfl,rfl⟩
 go_enter Tryz.func126,Tryz.ntmps126
 go_wp2_with (go_at_call 189;refine (small_is _ _).mono ?_;rintro e w' ⟨rfl,rfl⟩)
 have H3:=Lib.hid h3
 clear h3 t1 t2
 go_loop [3] (fun s=>∃i:Nat,s = .int .i64 i∧1≤i∧i≤t.size∧∀k,(h:k<t.size)→k<i→partB t[k]=true) (fun s=>t.size - (intOf s).toNat)
 case atStart=>exact ⟨1,rfl,Nat.le_refl _,h0,fun k h hk=>by obtain rfl:k=0:=by omega
                                                            simp [partB,H3.out]⟩
 case round=>
  obtain ⟨i,rfl,hi1,hi,hall⟩:=hrel
  have HALL:=Lib.hid hall
  clear hall
  by_cases hlt:i<t.size
  · have HP:Hid (partB t[i]=(smallB t[i] || digitB t[i] || decide (t[i].toNat=45) || decide (t[i].toNat=95))):=rfl
    have t5:((t[i].toNat:Int) != 45) = !decide (t[i].toNat=45):=by rw [Bool.eq_iff_iff];simp;omega
    have t6:((t[i].toNat:Int) != 95) = !decide (t[i].toNat=95):=by rw [Bool.eq_iff_iff];simp;omega
    cases hs:smallB t[i]<;>cases hd:digitB t[i]<;>cases h5:decide (t[i].toNat=45)<;>cases h6:decide (t[i].toNat=95)
    all_goals
     rw [h5] at t5;rw [h6] at t6
     simp only [Bool.not_true,Bool.not_false] at t5 t6
     have HF1:=HP.out
     rw [hs,hd,h5,h6] at HF1
     have HF2:=Lib.hid HF1
     clear h5 h6 HP HF1
     go_wp2_with (first | (go_at_call 189;refine (small_is _ _).mono ?_;rintro e w' ⟨rfl,rfl⟩) | (go_at_call 190;refine (digit_is _ _).mono ?_;rintro e w' ⟨rfl,rfl⟩))
     first
      | (go_ret
         refine ⟨?_,rfl⟩
         rw [isWord_no (t:=t) (fun ⟨_,_,_,h⟩=>by have h2:=h i hlt;rw [HF2.out] at h2;exact absurd h2 (by decide))];rfl)
      | (go_round
         case rel=>exact ⟨i+1,by go_num,by omega,by omega,fun k h hk=>by
          rcases Nat.lt_or_ge k i with h3 | h3
          · exact HALL.out k h h3
          · obtain rfl:k=i:=by omega
            rw [HF2.out];rfl⟩
         case measure=>simp [intOf]<;>omega)
  · have hie:i=t.size:=by omega
    subst hie
    go_wp2
    go_ret
    exact ⟨by rw [isWord_iff.2 ⟨h0,h32,H3.out,fun k h=>HALL.out k h h⟩];rfl,rfl⟩
set_option maxRecDepth 100000 in
set_option maxHeartbeats 2000000 in
theorem rword_is (t:ByteArray) (w:World):Calls Tryz.prog 104 #[.string t] w fun e w'=>e = .returned (.bool (isWord t))∧w=w':=by
 by_cases h1:t.size<1
 · have t1:decide ((t.size:Int)<1)=true:=by simp;omega
   have HF:=Lib.hid (isWord_no (t:=t) (fun ⟨h,_⟩=>by omega))
   clear h1
   go_enter Tryz.func104,Tryz.ntmps104
   go_wp2
   go_ret
   exact ⟨by rw [HF.out];rfl,rfl⟩
 have t1:decide ((t.size:Int)<1)=false:=by simp;omega
 by_cases h2:32<t.size
 · have t2:decide ((32:Int)<(t.size:Int))=true:=by simp;omega
   have HF:=Lib.hid (isWord_no (t:=t) (fun ⟨h,h3,_⟩=>by omega))
   clear h1 h2
   go_enter Tryz.func104,Tryz.ntmps104
   go_wp2
   go_ret
   exact ⟨by rw [HF.out];rfl,rfl⟩
 have t2:decide ((32:Int)<(t.size:Int))=false:=by simp;omega
 have h0:0<t.size:=by omega
 have h32:t.size≤32:=by omega
 clear h1 h2
 by_cases h3:t[0].toNat<97
 · have t3:decide ((t[0].toNat:Int)<97)=true:=by simp;omega
   have HF:=Lib.hid (isWord_no (t:=t) (fun ⟨h,_,h4,_⟩=>by simp [smallB] at h4;omega))
   clear h3
   go_enter Tryz.func104,Tryz.ntmps104
   go_wp2
   go_ret
   exact ⟨by rw [HF.out];rfl,rfl⟩
 have t3:decide ((t[0].toNat:Int)<97)=false:=by simp;omega
 by_cases h4:122<t[0].toNat
 · have t4:decide ((122:Int)<(t[0].toNat:Int))=true:=by simp;omega
   have HF:=Lib.hid (isWord_no (t:=t) (fun ⟨h,_,h4,_⟩=>by simp [smallB] at h4;omega))
   clear h3 h4
   go_enter Tryz.func104,Tryz.ntmps104
   go_wp2
   go_ret
   exact ⟨by rw [HF.out];rfl,rfl⟩
 have t4:decide ((122:Int)<(t[0].toNat:Int))=false:=by simp;omega
 have h5:smallB t[0]=true:=by simp [smallB];omega
 have H5:=Lib.hid h5
 clear h3 h4 h5
 go_enter Tryz.func104,Tryz.ntmps104
 go_wp2
 clear t1 t2 t3 t4
 go_loop [3] (fun s=>∃i:Nat,s = .int .i64 i∧i≤t.size∧∀k,(h:k<t.size)→k<i→partB t[k]=true) (fun s=>t.size - (intOf s).toNat)
 case atStart=>exact ⟨0,rfl,Nat.zero_le _,fun k h hk=>by omega⟩
 case round=>
  obtain ⟨i,rfl,hi,hall⟩:=hrel
  have HALL:=Lib.hid hall
  clear hall
  by_cases hlt:i<t.size
  · cases hp:partB t[i]
    · go_wp2_with (go_at_call 175;refine (part_is _ _).mono ?_;rintro e w' ⟨rfl,rfl⟩)
      go_ret
      refine ⟨?_,rfl⟩
      rw [isWord_no (t:=t) (fun ⟨_,_,_,h⟩=>by have h2:=h i hlt;rw [hp] at h2;cases h2)];rfl
    · have HP:=Lib.hid hp
      go_wp2_with (go_at_call 175;refine (part_is _ _).mono ?_;rintro e w' ⟨rfl,rfl⟩)
      go_round
      case rel=>exact ⟨i+1,by go_num,by omega,fun k h hk=>by
              rcases Nat.lt_or_ge k i with h3 | h3
              · exact HALL.out k h h3
              · obtain rfl:k=i:=by omega
                exact HP.out⟩
      case measure=>simp [intOf]<;>omega
  · have hie:i=t.size:=by omega
    subst hie
    go_wp2
    go_ret
    exact ⟨by rw [isWord_iff.2 ⟨h0,h32,H5.out,fun k h=>HALL.out k h h⟩];rfl,rfl⟩
end Go.Proofs.YtffemfglngikbaaGreat
namespace Go.Proofs.YtffemfglngikbaaGreat
section
variable {P:Program} {ops:Array Oper} {Q:Exit→Act→World→Prop} {S:World→Prop}
inductive Pl where
 | fin (l:List (Nat×Cls))
 | fork (l:List (Nat×Cls)) (i:Nat) (r:Pl) (j:Nat) (s:Pl)
def setL (listed:Array Bool) (l:List (Nat×Cls)):Array Bool:=l.foldl (fun g x=>g.setIfInBounds x.1 true) listed
def okL (ops:Array Oper):List (Nat×Cls)→Array Bool→Bool
 | [],_=>true
 | (k,c) :: rest,listed=>(if c == 2 then Region.ready .any ops listed == [k] else (Region.ready .any ops listed).contains k && Region.free .any ops listed k) && okL ops rest (listed.setIfInBounds k true)
def chkL (qs ls:List Nat) (l:List (Nat×Cls)):Bool:=l.all fun (k,c)=>(c != 2) == qs.contains k && (c != 1 || ls.contains k)
def okPl (ops:Array Oper) (qs ls:List Nat):Pl→Nat→Array Bool→Bool
 | .fin l,n,listed=>n == l.length && chkL qs ls l && okL ops l listed && (Region.ready .any ops (setL listed l)).isEmpty && l.all fun x=>x.1<ops.size
 | .fork l i r j s,n,listed=>decide (l.length+1≤n) && chkL qs ls l && okL ops l listed && (l.all fun x=>x.1<ops.size) && Region.ready .any ops (setL listed l) == [i,j] && !qs.contains i && !qs.contains j &&
  okPl ops qs ls r (n - l.length - 1) ((setL listed l).setIfInBounds i true) && okPl ops qs ls s (n - l.length - 1) ((setL listed l).setIfInBounds j true)
def wpY (P:Program) (ops:Array Oper) (Q:Exit→Act→World→Prop) (S:World→Prop) (ns:Nat→Bool) (R:Act→World→Prop):List (Nat×Cls×Oper)→Act→World→Prop
 | [],a,w=>R a w
 | (i,c,o) :: rest,a,w=>
   if c=2 then (if Region.wanted o (yielded ops a.tmps)=true then o.wp P a w (fun a' w'=>(ns i=true→S w')∧wpY P ops Q S ns R rest a' w') Q else (ns i=true→S w)∧wpY P ops Q S ns R rest (a.put o.dst undef) w)
   else ∃v,(if c=1 then YieldsIf P ops S o v a∧S w else Yields P ops o v a)∧wpY P ops Q S ns R rest (a.put o.dst v) w
def wpPl (P:Program) (ops:Array Oper) (Q:Exit→Act→World→Prop) (S:World→Prop) (ns:Nat→Bool):Pl→Act→World→Prop
 | .fin l,a,w=>wpY P ops Q S ns (fun a w=>Q .normal a w) (beside ops l) a w
 | .fork l i r j s,a,w=>wpY P ops Q S ns (fun a w=>wpOp P ops Q i (fun a' w'=>(ns i=true→S w')∧wpPl P ops Q S ns r a' w') a w∧wpOp P ops Q j (fun a' w'=>(ns j=true→S w')∧wpPl P ops Q S ns s a' w') a w) (beside ops l) a w
theorem closed_setL : ∀(l:List (Nat×Cls)) (listed:Array Bool),Closed ops listed→okL ops l listed=true→Closed ops (setL listed l)
 | [],_,h,_=>h
 | (k,c) :: rest,listed,h,hB=>by
   simp only [okL,Bool.and_eq_true] at hB
   refine closed_setL rest _ (closed_ready h ?_) hB.2
   by_cases hc:c=2
   · subst hc
     have hB1:=hB.1
     simp only [beq_self_eq_true,if_true] at hB1
     have hr:Region.ready .any ops listed = [k]:=by simpa using hB1
     rw [hr];simp
   · have hB1:=hB.1
     rw [if_neg (by simpa using hc)] at hB1
     simp only [Bool.and_eq_true] at hB1
     simpa using hB1.1
theorem wpAnyE_list {qt ns:Nat→Bool} {R:Act→World→Prop} {n:Nat} (hsel:Region.noSelect ops=true) (hQ : ∀c a a' w,Q (.panic c) a w→Q (.panic c) a' w) :
 ∀(rest:List (Nat×Cls)) (listed:Array Bool) (a:Act) (w:World),Closed ops listed→okL ops rest listed=true→(∀x∈rest,x.1<ops.size)→
  (∀k c,(k,c)∈rest→(qt k=true↔c≠2))→(∀k,(k,1)∈rest→∀j,waitsT ops ops.size j k=false→j≠k→j<ops.size→ns j=true)→
  (∀a w,R a w→wpAnyE P ops Q S qt ns n (setL listed rest) a w)→wpY P ops Q S ns R (beside ops rest) a w→wpAnyE P ops Q S qt ns (rest.length+n) listed a w
 | [],listed,a,w,_,_,_,_,_,hR,h=>by
   have:=hR a w h
   simpa [setL] using this
 | (k,c) :: rest,listed,a,w,hcl,hB,hl,hqt,hns,hR,h=>by
   simp only [okL,Bool.and_eq_true] at hB
   obtain ⟨hB1,hB2⟩:=hB
   have hi:k<ops.size:=hl (k,c) (by simp)
   have ho:ops[k]? = some ops[k]:=Array.getElem?_eq_getElem hi
   have hb:beside ops ((k,c) :: rest)=(k,c,ops[k]) :: beside ops rest:=by simp [beside,ho]
   have ih:=fun listed' a w hcl' hB' hR' h'=>wpAnyE_list (R:=R) (n:=n) hsel hQ rest listed' a w hcl' hB' (fun x hx=>hl x (by simp [hx])) (fun k c hk=>hqt k c (by simp [hk])) (fun k hk=>hns k (by simp [hk])) hR' h'
   rw [hb] at h
   simp only [wpY] at h
   have hlen:((k,c) :: rest).length+n=(rest.length+n)+1:=by simp;omega
   rw [hlen]
   by_cases hc:c=2
   · subst hc
     simp only [beq_self_eq_true,if_true] at hB1
     have hr:Region.ready .any ops listed = [k]:=by simpa using hB1
     simp only [if_true] at h
     have hcl2:=closed_ready hcl (i:=k) (by rw [hr];simp)
     refine ⟨fun h0=>(by rw [hr] at h0;cases h0),fun i hi'=>?_⟩
     rw [hr] at hi'
     obtain rfl:i=k:=by simpa using hi'
     have hbh : ∀w',(ns i=true→S w')→behind S qt ns i w w':=fun w' hs=>by
      unfold behind
      rw [if_neg (fun hq=>(hqt i 2 (by simp)).1 hq rfl)]
      exact hs
     unfold wpOp
     simp only [ho]
     split
     · rename_i hw
       rw [if_pos hw] at h
       exact .inl (Oper.wp_mono (fun a' w' h'=>⟨hbh w' h'.1,ih _ a' w' hcl2 hB2 hR h'.2⟩) h)
     · rename_i hw
       rw [if_neg hw] at h
       exact ⟨hbh w h.1,ih _ _ w hcl2 hB2 hR h.2⟩
   · rw [if_neg (by simpa using hc)] at hB1
     simp only [Bool.and_eq_true] at hB1
     rw [if_neg hc] at h
     obtain ⟨v,hy,hk⟩:=h
     have hrdy:k∈Region.ready .any ops listed:=by simpa using hB1.1
     have hrest:=ih _ _ w (closed_ready hcl hrdy) hB2 hR hk
     by_cases h1:c=1
     · subst h1
       rw [if_pos rfl] at hy
       exact wpAnyE_first ho (Region.noSelect_spec hsel) (fun c a w=>hQ c _ _ w) true ((hqt k 1 (by simp)).2 hc) (fun _=>hns k (by simp)) (rest.length+n) listed a w hcl (Region.free_spec ho hB1.2) hrdy
        (hy.1.imp (fun ⟨p,q⟩=>⟨p,fun w' hw'=>q w' (hw' rfl)⟩) id) (fun _=>hy.2) hrest
     · rw [if_neg h1] at hy
       exact wpAnyE_first ho (Region.noSelect_spec hsel) (fun c a w=>hQ c _ _ w) false ((hqt k c (by simp)).2 hc) (fun h=>by cases h) (rest.length+n) listed a w hcl (Region.free_spec ho hB1.2) hrdy
        (hy.imp (fun ⟨p,q⟩=>⟨p,fun w' _=>q w'⟩) id) (fun h=>by cases h) hrest
theorem wpAnyE_pl {qs ls:List Nat} (hsel:Region.noSelect ops=true) (hQ : ∀c a a' w,Q (.panic c) a w→Q (.panic c) a' w) (p:Pl) :
 ∀(n:Nat) (listed:Array Bool) (a:Act) (w:World),Closed ops listed→okPl ops qs ls p n listed=true→
  wpPl P ops Q S (fun j=>ls.any fun k=>k != j && !waitsT ops ops.size j k) p a w→wpAnyE P ops Q S (fun k=>qs.contains k) (fun j=>ls.any fun k=>k != j && !waitsT ops ops.size j k) n listed a w:=by
 have hq : ∀l,chkL qs ls l=true→∀k c,(k,c)∈l→(qs.contains k=true↔c≠2):=fun l hl k c hk=>by
  have:=List.all_eq_true.1 hl (k,c) hk
  simp only [Bool.and_eq_true,beq_iff_eq] at this
  rw [← this.1];simp
 have hn : ∀l,chkL qs ls l=true→∀k,(k,1)∈l→∀j,waitsT ops ops.size j k=false→j≠k→j<ops.size→(ls.any fun k=>k != j && !waitsT ops ops.size j k)=true:=fun l hl k hk j hw hjk _=>by
  have:=List.all_eq_true.1 hl (k,1) hk
  simp only [Bool.and_eq_true] at this
  have h2:ls.contains k=true:=by simpa using this.2
  rw [List.any_eq_true]
  exact ⟨k,by simpa using h2,by rw [hw];simp [Ne.symm hjk]⟩
 induction p with
 | fin l=>
   intro n listed a w hcl hB h
   simp only [okPl,Bool.and_eq_true,beq_iff_eq] at hB
   obtain ⟨⟨⟨⟨rfl,hc⟩,hL⟩,he⟩,hlt⟩:=hB
   have:=wpAnyE_list (P:=P) (Q:=Q) (S:=S) (qt:=fun k=>qs.contains k) (ns:=fun j=>ls.any fun k=>k != j && !waitsT ops ops.size j k) (R:=fun a w=>Q .normal a w) (n:=0) hsel hQ l listed a w hcl hL (by simpa [List.all_eq_true] using hlt) (hq l hc) (hn l hc)
    (fun a w h=>⟨by simpa using he,h⟩) h
   simpa using this
 | fork l i r j s ihr ihs=>
   intro n listed a w hcl hB h
   simp only [okPl,Bool.and_eq_true,beq_iff_eq,decide_eq_true_eq,Bool.not_eq_true'] at hB
   obtain ⟨⟨⟨⟨⟨⟨⟨⟨hlen,hc⟩,hL⟩,hlt⟩,hrd⟩,hqi⟩,hqj⟩,hr⟩,hs⟩:=hB
   obtain ⟨m,rfl⟩ : ∃m,n=l.length+(m+1):=⟨n - l.length - 1,by omega⟩
   have em:l.length+(m+1) - l.length - 1=m:=by omega
   rw [em] at hr hs
   have hcl2:=closed_setL l listed hcl hL
   refine wpAnyE_list (P:=P) (Q:=Q) (S:=S) (qt:=fun k=>qs.contains k) (ns:=fun j=>ls.any fun k=>k != j && !waitsT ops ops.size j k) (n:=m+1) hsel hQ l listed a w hcl hL (by simpa [List.all_eq_true] using hlt) (hq l hc) (hn l hc) (fun a w hR=>?_) h
   refine ⟨fun h0=>(by rw [hrd] at h0;cases h0),fun k hk=>?_⟩
   have hcl3:=closed_ready hcl2 hk
   rw [hrd] at hk
   simp only [List.mem_cons,List.not_mem_nil,or_false] at hk
   rcases hk with rfl | rfl
   · refine wpOp_mono (fun a' w' h'=>⟨?_,ihr m _ a' w' hcl3 hr h'.2⟩) hR.1
     unfold behind
     rw [if_neg (by simp only [hqi];simp)]
     exact h'.1
   · refine wpOp_mono (fun a' w' h'=>⟨?_,ihs m _ a' w' hcl3 hs h'.2⟩) hR.2
     unfold behind
     rw [if_neg (by simp only [hqj];simp)]
     exact h'.1
theorem wp_region_Pl {id:Nat} {l:List Oper} {a:Act} {w:World} (S:World→Prop) (qs ls:List Nat) (p:Pl) (hm:P.follows .mixedOrders=true) (hsel:Region.noSelect l.toArray=true)
 (hB:okPl l.toArray qs ls p l.toArray.size (Array.replicate l.toArray.size false)=true)
 (h : ∀K:Act→World→Prop,(∀a w,Q .normal a w→K a w)→wpPl P l.toArray (OnlyN K) S (fun j=>ls.any fun k=>k != j && !waitsT l.toArray l.toArray.size j k) p a w.drew):(Code.region id l.toArray true).wp P Q a w:=by
 refine Code.wp_mono (Q:=OnlyN fun a w=>Q .normal a w) (fun e a w hq=>by cases e<;>first | exact hq | exact hq.elim) (wp_region_any hm ?_)
 have hcl:Closed l.toArray (Array.replicate l.toArray.size false):=fun m o hm=>by rw [getD_replicate_false] at hm;cases hm
 exact wpAny_of_E _ _ _ _ (wpAnyE_pl (P:=P) (Q:=OnlyN fun a w=>Q .normal a w) (S:=S) hsel (fun c a a' w h=>h) p _ _ a w.drew hcl hB (h _ (fun _ _ h=>h)))
variable {ns:Nat→Bool} {R:Act→World→Prop} {rest:List (Nat×Cls×Oper)} {a:Act} {w:World} {i:Nat} {o:Oper}
theorem wpY_nil (h:R a w):wpY P ops Q S ns R [] a w:=h
theorem wpY_w (v:Value) (hy:Yields P ops o v a) (h:wpY P ops Q S ns R rest (a.put o.dst v) w):wpY P ops Q S ns R ((i,0,o) :: rest) a w:=by
 simp only [wpY]
 exact ⟨v,by simpa using hy,h⟩
theorem wpY_l (v:Value) (hS:S w) (hy:YieldsIf P ops S o v a) (h:wpY P ops Q S ns R rest (a.put o.dst v) w):wpY P ops Q S ns R ((i,1,o) :: rest) a w:=by
 simp only [wpY]
 exact ⟨v,by simpa using ⟨hy,hS⟩,h⟩
theorem wpY_e (hn:ns i=false)
 (h : ∀K:Act→World→Prop,(∀a w,wpY P ops Q S ns R rest a w→K a w)→if Region.wanted o (yielded ops a.tmps)=true then Oper.wp P o a w K Q else K (a.put o.dst undef) w):wpY P ops Q S ns R ((i,2,o) :: rest) a w:=by
 have:=h (fun a' w'=>(ns i=true→S w')∧wpY P ops Q S ns R rest a' w') (fun a w h2=>⟨fun h=>absurd h (by rw [hn];simp),h2⟩)
 simpa only [wpY,if_true] using this
theorem wpY_es
 (h : ∀K:Act→World→Prop,(∀a w,S w→wpY P ops Q S ns R rest a w→K a w)→if Region.wanted o (yielded ops a.tmps)=true then Oper.wp P o a w K Q else K (a.put o.dst undef) w):wpY P ops Q S ns R ((i,2,o) :: rest) a w:=by
 have:=h (fun a' w'=>(ns i=true→S w')∧wpY P ops Q S ns R rest a' w') (fun a w h1 h2=>⟨fun _=>h1,h2⟩)
 simpa only [wpY,if_true] using this
theorem wpOp_c {C:World→Prop} {H:Act→World→Prop} (hC : ∀w,C w) (ho:ops[i]? = some o)
 (h : ∀K:Act→World→Prop,(∀a w,H a w→K a w)→if Region.wanted o (yielded ops a.tmps)=true then Oper.wp P o a w K Q else K (a.put o.dst undef) w) :
 wpOp P ops Q i (fun a' w'=>C w'∧H a' w') a w:=by
 have h2:=h (fun a' w'=>C w'∧H a' w') (fun a w h2=>⟨hC w,h2⟩)
 unfold wpOp
 simp only [ho]
 split
 · rename_i hw
   rw [if_pos hw] at h2
   exact .inl h2
 · rename_i hw
   rw [if_neg hw] at h2
   exact h2
theorem wpOp_cs {C:World→Prop} {H:Act→World→Prop} (ho:ops[i]? = some o)
 (h : ∀K:Act→World→Prop,(∀a w,C w→H a w→K a w)→if Region.wanted o (yielded ops a.tmps)=true then Oper.wp P o a w K Q else K (a.put o.dst undef) w) :
 wpOp P ops Q i (fun a' w'=>C w'∧H a' w') a w:=by
 have h2:=h (fun a' w'=>C w'∧H a' w') (fun a w h1 h2=>⟨h1,h2⟩)
 unfold wpOp
 simp only [ho]
 split
 · rename_i hw
   rw [if_pos hw] at h2
   exact .inl h2
 · rename_i hw
   rw [if_neg hw] at h2
   exact h2
end
end Go.Proofs.YtffemfglngikbaaGreat
namespace Go.Proofs.YtffemfglngikbaaGreat
open Go.RowKit
def byte1 (n:Nat):ByteArray:=⟨#[UInt8.ofNat (48+n)]⟩
theorem conv1 (n:Nat) (h:n<10) (W:World) (g:Nat) (hc:W.cell? ⟨g,0,none⟩=some (.int .u8 (48+(n:Int)))):(convert 184 9 (.slice (some ⟨g,0,none⟩) 1 1)).run Tryz.prog W = .ok (.string (byte1 n)) W:=
 Lib.run_convert_whole (P:=Tryz.prog) W 184 5 9 Tryz.underlying184 Tryz.underlying5 Tryz.underlying9 g 0 (byte1 n) (fun i hi=>by
  have:i=0:=by have:(byte1 n).size=1:=rfl;omega
  subst this
  rw [Nat.add_zero,hc]
  have e:(byte1 n)[0].toNat=48+n:=by show (UInt8.ofNat (48+n)).toNat=48+n;simp;omega
  rw [e]
  simp) 1
def decB (n:Nat):ByteArray:=if n<10 then byte1 n else decB (n / 10)++byte1 (n % 10)
theorem byte1_size (n:Nat):(byte1 n).size=1:=rfl
theorem decB_size (n:Nat):(decB n).size≤n+1:=by
 induction n using Nat.strongRecOn with
 | _ n ih=>
   rw [decB]
   split
   · rw [byte1_size];omega
   · have h1:=ih (n / 10) (by omega)
     rw [ByteArray.size_append,byte1_size];omega
set_option maxRecDepth 100000 in
set_option maxHeartbeats 4000000 in
theorem digits_step (n:Nat) (h : ¬n<10) (hn:n≤4000000000) (ih : ∀w,Calls Tryz.prog 270 #[.int .i64 ((n / 10:Nat):Int)] w fun e w'=>e = .returned (.string (decB (n / 10)))∧Below w.heap.size w w') (w:World):Calls Tryz.prog 270 #[.int .i64 n] w fun e w'=>e = .returned (.string (decB n))∧Below w.heap.size w w':=by
 have t1:decide ((n:Int)<10)=false:=by simp;omega
 have b0:(0:Int)≤(n:Int):=by omega
 have b1:(n:Int)≤4000000000:=by omega
 have hc:=conv1 (n % 10) (by omega)
 have e1:((n:Int) / 10)=((n / 10:Nat):Int):=by omega
 have e2:((n:Int) % 10)=((n % 10:Nat):Int):=by omega
 have m0:(0:Int)≤((n % 10:Nat):Int):=by omega
 have m1:((n % 10:Nat):Int)≤9:=by omega
 obtain ⟨m,hm⟩ : ∃m,m=n % 10:=⟨_,rfl⟩
 obtain ⟨q,hq⟩ : ∃q,q=n / 10:=⟨_,rfl⟩
 rw [← hm] at hc e2 m0 m1
 rw [← hq] at e1 ih
 have HD:Hid (decB n=decB q++byte1 m):=by rw [decB,if_neg h,hm,hq];rfl
 have v1:IntKind.i64.wrap (q:Int)=(q:Int):=IntWalk.i64_in _ (by omega)
 have v2:((n:Int)).tmod 10=(m:Int):=by rw [Int.tmod_eq_emod_of_nonneg b0,e2]
 have v3:IntKind.i64.wrap (48+(m:Int))=48+(m:Int):=IntWalk.i64_in _ (by omega)
 have v4:IntKind.u8.wrap (48+(m:Int))=48+(m:Int):=by simp [IntKind.wrap,IntKind.signed,IntKind.bits];omega
 have hz : ¬9223372036854775807<(decB q).size+(byte1 m).size:=by have:=decB_size q;rw [byte1_size];omega
 clear e2
 have IH:=Lib.hid ih
 have HC:=Lib.hid hc
 clear ih h hm hq hc
 go_enter Tryz.func270,Tryz.ntmps270
 go_wp2_with fail
 refine wp_region_Pl (fun _=>True) [0,1,3,4,5,6,9,10] [] (.fork [(0,0),(1,0),(3,0),(4,0),(5,0),(6,0)] 2 (.fin [(7,2),(8,2),(9,0),(10,0)]) 7 (.fork [] 2 (.fin [(8,2),(9,0),(10,0)]) 8 (.fin [(2,2),(9,0),(10,0)]))) (by kernel_rfl) (by kernel_rfl) (by kernel_rfl) (fun KK hKK=>?_)
 simp only [wpPl,beside,List.filterMap_cons,List.filterMap_nil,List.getElem?_toArray,List.getElem?_cons_zero,List.getElem?_cons_succ,Option.map_some,List.any_nil]
 repeat (refine wpY_w ?_ (Or.inl ⟨by rfl,fun w9=>?_⟩) ?_;rotate_left 1;go_simp;with_reducible rfl;go_frame)
 refine wpY_nil ⟨?_,?_⟩
 · refine wpOp_c (fun _=>by simp) rfl (fun K9 hK9=>?_)
   go_simp
   refine (IH.out _).mono ?_
   rintro e w1 ⟨rfl,hb1⟩
   refine hK9 _ _ ?_
   clear hK9 K9
   try go_frame
   refine wpY_e (by rfl) (fun K9 hK9=>?_)
   go_simp
   refine hK9 _ _ ?_
   clear hK9 K9
   try go_frame
   refine wpY_e (by rfl) (fun K9 hK9=>?_)
   have hc:=HC.out (w1.alloc (.cells #[.int .u8 (48+(m:Int))] 5)) w1.heap.size ((Blk.new _ _ _).cell 0)
   go_simp
   refine hK9 _ _ ?_
   clear hK9 K9 hc
   try go_frame
   repeat (refine wpY_w ?_ (Or.inl ⟨by rfl,fun w9=>?_⟩) ?_;rotate_left 1;go_simp;with_reducible rfl;go_frame)
   refine wpY_nil ?_
   simp only [OnlyN_normal]
   refine hKK _ _ ?_
   clear hKK KK
   go_wp2_with fail
   go_ret
   exact ⟨by rw [HD.out];rfl,((Below.refl _ _).drew.trans (hb1.mono (by simp))).alloc (by have:=hb1.size;simpa using this) _⟩
 · refine wpOp_c (fun _=>by simp) rfl (fun K9 hK9=>?_)
   go_simp
   refine hK9 _ _ ?_
   clear hK9 K9
   try go_frame
   try simp only [beside]
   refine wpY_nil ⟨?_,?_⟩
   · refine wpOp_c (fun _=>by simp) rfl (fun K9 hK9=>?_)
     go_simp
     refine (IH.out _).mono ?_
     rintro e w1 ⟨rfl,hb1⟩
     refine hK9 _ _ ?_
     clear hK9 K9
     try go_frame
     refine wpY_e (by rfl) (fun K9 hK9=>?_)
     have hc:=HC.out w1 w.heap.size ((hb1.cell (by simp)).trans ((Blk.new w.drew 5 #[.int .u8 (48+(m:Int))]).cell 0))
     go_simp
     refine hK9 _ _ ?_
     clear hK9 K9 hc
     try go_frame
     repeat (refine wpY_w ?_ (Or.inl ⟨by rfl,fun w9=>?_⟩) ?_;rotate_left 1;go_simp;with_reducible rfl;go_frame)
     refine wpY_nil ?_
     simp only [OnlyN_normal]
     refine hKK _ _ ?_
     clear hKK KK
     go_wp2_with fail
     go_ret
     exact ⟨by rw [HD.out];rfl,((Below.refl _ _).drew.alloc (by simp) _).trans (hb1.mono (by simp))⟩
   · refine wpOp_c (fun _=>by simp) rfl (fun K9 hK9=>?_)
     have hc:=HC.out (w.alloc (.cells #[.int .u8 (48+(m:Int))] 5)).drew w.heap.size (((Blk.new w 5 #[.int .u8 (48+(m:Int))]).drew.cell 0).trans rfl)
     go_simp
     refine hK9 _ _ ?_
     clear hK9 K9 hc
     try go_frame
     refine wpY_e (by rfl) (fun K9 hK9=>?_)
     go_simp
     refine (IH.out _).mono ?_
     rintro e w1 ⟨rfl,hb1⟩
     refine hK9 _ _ ?_
     clear hK9 K9
     try go_frame
     repeat (refine wpY_w ?_ (Or.inl ⟨by rfl,fun w9=>?_⟩) ?_;rotate_left 1;go_simp;with_reducible rfl;go_frame)
     refine wpY_nil ?_
     simp only [OnlyN_normal]
     refine hKK _ _ ?_
     clear hKK KK
     go_wp2_with fail
     go_ret
     exact ⟨by rw [HD.out];rfl,((Below.refl _ _).drew.alloc (by simp) _).trans (hb1.mono (by simp))⟩
set_option maxRecDepth 100000 in
set_option maxHeartbeats 1000000 in
theorem digits_base (n:Nat) (h:n<10) (w:World):Calls Tryz.prog 270 #[.int .i64 n] w fun e w'=>e = .returned (.string (decB n))∧Below w.heap.size w w':=by
 have t1:decide ((n:Int)<10)=true:=by simp;omega
 have b0:(0:Int)≤(n:Int):=by omega
 have b1:(n:Int)≤9:=by omega
 have hc:=conv1 n h (w.alloc (.cells #[.int .u8 (48+(n:Int))] 5)) w.heap.size ((Blk.new _ _ _).cell 0)
 have HD:Hid (decB n=byte1 n):=by rw [decB,if_pos h];rfl
 clear h
 go_enter Tryz.func270,Tryz.ntmps270
 go_wp2_with fail
 go_ret
 exact ⟨by rw [HD.out];rfl,(Below.refl _ _).alloc (Nat.le_refl _) _⟩
theorem digits_is (n:Nat) (hn:n≤4000000000) (w:World):Calls Tryz.prog 270 #[.int .i64 n] w fun e w'=>e = .returned (.string (decB n))∧Below w.heap.size w w':=by
 induction n using Nat.strongRecOn generalizing w with
 | _ n ih=>
   by_cases h:n<10
   · exact digits_base n h w
   · exact digits_step n h hn (fun w=>ih (n / 10) (by omega) (by omega) w) w
set_option maxRecDepth 100000 in
set_option maxHeartbeats 4000000 in
theorem cdigits_step (n:Nat) (h : ¬n<10) (hn:n≤4000000000) (ih : ∀w,Calls Tryz.prog 95 #[.int .i64 ((n / 10:Nat):Int)] w fun e w'=>e = .returned (.string (decB (n / 10)))∧Below w.heap.size w w') (w:World):Calls Tryz.prog 95 #[.int .i64 n] w fun e w'=>e = .returned (.string (decB n))∧Below w.heap.size w w':=by
 have t1:decide ((n:Int)<10)=false:=by simp;omega
 have b0:(0:Int)≤(n:Int):=by omega
 have b1:(n:Int)≤4000000000:=by omega
 have hc:=conv1 (n % 10) (by omega)
 have e1:((n:Int) / 10)=((n / 10:Nat):Int):=by omega
 have e2:((n:Int) % 10)=((n % 10:Nat):Int):=by omega
 have m0:(0:Int)≤((n % 10:Nat):Int):=by omega
 have m1:((n % 10:Nat):Int)≤9:=by omega
 obtain ⟨m,hm⟩ : ∃m,m=n % 10:=⟨_,rfl⟩
 obtain ⟨q,hq⟩ : ∃q,q=n / 10:=⟨_,rfl⟩
 rw [← hm] at hc e2 m0 m1
 rw [← hq] at e1 ih
 have HD:Hid (decB n=decB q++byte1 m):=by rw [decB,if_neg h,hm,hq];rfl
 have v1:IntKind.i64.wrap (q:Int)=(q:Int):=IntWalk.i64_in _ (by omega)
 have v2:((n:Int)).tmod 10=(m:Int):=by rw [Int.tmod_eq_emod_of_nonneg b0,e2]
 have v3:IntKind.i64.wrap (48+(m:Int))=48+(m:Int):=IntWalk.i64_in _ (by omega)
 have v4:IntKind.u8.wrap (48+(m:Int))=48+(m:Int):=by simp [IntKind.wrap,IntKind.signed,IntKind.bits];omega
 have hz : ¬9223372036854775807<(decB q).size+(byte1 m).size:=by have:=decB_size q;rw [byte1_size];omega
 clear e2
 have IH:=Lib.hid ih
 have HC:=Lib.hid hc
 clear ih h hm hq hc
 go_enter Tryz.func95,Tryz.ntmps95
 go_wp2_with fail
 refine wp_region_Pl (fun _=>True) [0,1,3,4,5,6,9,10] [] (.fork [(0,0),(1,0),(3,0),(4,0),(5,0),(6,0)] 2 (.fin [(7,2),(8,2),(9,0),(10,0)]) 7 (.fork [] 2 (.fin [(8,2),(9,0),(10,0)]) 8 (.fin [(2,2),(9,0),(10,0)]))) (by kernel_rfl) (by kernel_rfl) (by kernel_rfl) (fun KK hKK=>?_)
 simp only [wpPl,beside,List.filterMap_cons,List.filterMap_nil,List.getElem?_toArray,List.getElem?_cons_zero,List.getElem?_cons_succ,Option.map_some,List.any_nil]
 repeat (refine wpY_w ?_ (Or.inl ⟨by rfl,fun w9=>?_⟩) ?_;rotate_left 1;go_simp;with_reducible rfl;go_frame)
 refine wpY_nil ⟨?_,?_⟩
 · refine wpOp_c (fun _=>by simp) rfl (fun K9 hK9=>?_)
   go_simp
   refine (IH.out _).mono ?_
   rintro e w1 ⟨rfl,hb1⟩
   refine hK9 _ _ ?_
   clear hK9 K9
   try go_frame
   refine wpY_e (by rfl) (fun K9 hK9=>?_)
   go_simp
   refine hK9 _ _ ?_
   clear hK9 K9
   try go_frame
   refine wpY_e (by rfl) (fun K9 hK9=>?_)
   have hc:=HC.out (w1.alloc (.cells #[.int .u8 (48+(m:Int))] 5)) w1.heap.size ((Blk.new _ _ _).cell 0)
   go_simp
   refine hK9 _ _ ?_
   clear hK9 K9 hc
   try go_frame
   repeat (refine wpY_w ?_ (Or.inl ⟨by rfl,fun w9=>?_⟩) ?_;rotate_left 1;go_simp;with_reducible rfl;go_frame)
   refine wpY_nil ?_
   simp only [OnlyN_normal]
   refine hKK _ _ ?_
   clear hKK KK
   go_wp2_with fail
   go_ret
   exact ⟨by rw [HD.out];rfl,((Below.refl _ _).drew.trans (hb1.mono (by simp))).alloc (by have:=hb1.size;simpa using this) _⟩
 · refine wpOp_c (fun _=>by simp) rfl (fun K9 hK9=>?_)
   go_simp
   refine hK9 _ _ ?_
   clear hK9 K9
   try go_frame
   try simp only [beside]
   refine wpY_nil ⟨?_,?_⟩
   · refine wpOp_c (fun _=>by simp) rfl (fun K9 hK9=>?_)
     go_simp
     refine (IH.out _).mono ?_
     rintro e w1 ⟨rfl,hb1⟩
     refine hK9 _ _ ?_
     clear hK9 K9
     try go_frame
     refine wpY_e (by rfl) (fun K9 hK9=>?_)
     have hc:=HC.out w1 w.heap.size ((hb1.cell (by simp)).trans ((Blk.new w.drew 5 #[.int .u8 (48+(m:Int))]).cell 0))
     go_simp
     refine hK9 _ _ ?_
     clear hK9 K9 hc
     try go_frame
     repeat (refine wpY_w ?_ (Or.inl ⟨by rfl,fun w9=>?_⟩) ?_;rotate_left 1;go_simp;with_reducible rfl;go_frame)
     refine wpY_nil ?_
     simp only [OnlyN_normal]
     refine hKK _ _ ?_
     clear hKK KK
     go_wp2_with fail
     go_ret
     exact ⟨by rw [HD.out];rfl,((Below.refl _ _).drew.alloc (by simp) _).trans (hb1.mono (by simp))⟩
   · refine wpOp_c (fun _=>by simp) rfl (fun K9 hK9=>?_)
     have hc:=HC.out (w.alloc (.cells #[.int .u8 (48+(m:Int))] 5)).drew w.heap.size (((Blk.new w 5 #[.int .u8 (48+(m:Int))]).drew.cell 0).trans rfl)
     go_simp
     refine hK9 _ _ ?_
     clear hK9 K9 hc
     try go_frame
     refine wpY_e (by rfl) (fun K9 hK9=>?_)
     go_simp
     refine (IH.out _).mono ?_
     rintro e w1 ⟨rfl,hb1⟩
     refine hK9 _ _ ?_
     clear hK9 K9
     try go_frame
     repeat (refine wpY_w ?_ (Or.inl ⟨by rfl,fun w9=>?_⟩) ?_;rotate_left 1;go_simp;with_reducible rfl;go_frame)
     refine wpY_nil ?_
     simp only [OnlyN_normal]
     refine hKK _ _ ?_
     clear hKK KK
     go_wp2_with fail
     go_ret
     exact ⟨by rw [HD.out];rfl,((Below.refl _ _).drew.alloc (by simp) _).trans (hb1.mono (by simp))⟩
set_option maxRecDepth 100000 in
set_option maxHeartbeats 1000000 in
theorem cdigits_base (n:Nat) (h:n<10) (w:World):Calls Tryz.prog 95 #[.int .i64 n] w fun e w'=>e = .returned (.string (decB n))∧Below w.heap.size w w':=by
 have t1:decide ((n:Int)<10)=true:=by simp;omega
 have b0:(0:Int)≤(n:Int):=by omega
 have b1:(n:Int)≤9:=by omega
 have hc:=conv1 n h (w.alloc (.cells #[.int .u8 (48+(n:Int))] 5)) w.heap.size ((Blk.new _ _ _).cell 0)
 have HD:Hid (decB n=byte1 n):=by rw [decB,if_pos h];rfl
 clear h
 go_enter Tryz.func95,Tryz.ntmps95
 go_wp2_with fail
 go_ret
 exact ⟨by rw [HD.out];rfl,(Below.refl _ _).alloc (Nat.le_refl _) _⟩
theorem cdigits_is (n:Nat) (hn:n≤4000000000) (w:World):Calls Tryz.prog 95 #[.int .i64 n] w fun e w'=>e = .returned (.string (decB n))∧Below w.heap.size w w':=by
 induction n using Nat.strongRecOn generalizing w with
 | _ n ih=>
   by_cases h:n<10
   · exact cdigits_base n h w
   · exact cdigits_step n h hn (fun w=>ih (n / 10) (by omega) (by omega) w) w
set_option maxRecDepth 100000 in
set_option maxHeartbeats 2000000 in
theorem rdigits_is (n:Nat) (hn:n≤4000000000) (w:World):Calls Tryz.prog 166 #[.int .i64 n] w fun e w'=>e = .returned (.string (decB n))∧Below w.heap.size w w':=by
 have hsz:=decB_size n
 go_enter Tryz.func166,Tryz.ntmps166
 go_wp2_with fail
 go_loopw [0,3] (fun a b wr=>∃(q:Nat) (t:ByteArray),a = .int .i64 q∧b = .string t∧q≤n∧decB q++t=decB n∧Below w.heap.size w wr) (fun a b wr=>(intOf a).toNat)
 case atStart=>exact ⟨n,⟨#[]⟩,rfl,rfl,Nat.le_refl _,ByteArray.append_empty,Below.refl _ _⟩
 case round=>
  obtain ⟨q,t,rfl,rfl,hq,he,hB⟩:=hrel
  have hts:t.size≤n+1:=by have:=congrArg ByteArray.size he;rw [ByteArray.size_append] at this;omega
  have HB:=Lib.hid hB
  clear hB hsz
  by_cases h9:9<q
  · obtain ⟨m,hm⟩ : ∃m,m=q % 10:=⟨_,rfl⟩
    obtain ⟨p,hp⟩ : ∃p,p=q / 10:=⟨_,rfl⟩
    have hpq:p<q:=by omega
    have HE:Hid (decB p++(byte1 m++t)=decB n):=by
     have e:=he
     rw [decB,if_neg (by omega),← hm,← hp,ByteArray.append_assoc] at e
     exact e
    have hc:=conv1 m (by omega) (wr.alloc (.cells #[.int .u8 (48+(m:Int))] 5)) wr.heap.size ((Blk.new _ _ _).cell 0)
    have t1:decide ((9:Int)<(q:Int))=true:=by simp;omega
    have v2:((q:Int)).tmod 10=(m:Int):=by rw [Int.tmod_eq_emod_of_nonneg (by omega)];omega
    have v5:((q:Int)) % 10=(m:Int):=by omega
    have v6:((q:Int)) / 10=(p:Int):=by omega
    have v7:((q:Int)).tdiv 10=(p:Int):=by rw [Int.tdiv_eq_ediv_of_nonneg (by omega)];omega
    have v3:IntKind.i64.wrap (48+(m:Int))=48+(m:Int):=IntWalk.i64_in _ (by omega)
    have v4:IntKind.u8.wrap (48+(m:Int))=48+(m:Int):=by simp [IntKind.wrap,IntKind.signed,IntKind.bits];omega
    have hz : ¬9223372036854775807<(byte1 m).size+t.size:=by rw [byte1_size];omega
    have hpn:p≤n:=by omega
    have HPQ:=Lib.hid hpq
    clear he hm hp h9 hpq
    go_wp2_with fail
    go_roundw
    case rel=>exact ⟨p,byte1 m++t,by first | rfl | go_num,rfl,hpn,HE.out,HB.out.alloc HB.out.size _⟩
    case measure=>have:=HPQ.out;simp [intOf]<;>omega
  · have t1:decide ((9:Int)<(q:Int))=false:=by simp;omega
    have hc:=conv1 q (by omega) (wr.alloc (.cells #[.int .u8 (48+(q:Int))] 5)) wr.heap.size ((Blk.new _ _ _).cell 0)
    have HE:Hid (byte1 q++t=decB n):=by
     have e:=he
     rw [decB,if_pos (by omega)] at e
     exact e
    have v3:IntKind.i64.wrap (48+(q:Int))=48+(q:Int):=IntWalk.i64_in _ (by omega)
    have v4:IntKind.u8.wrap (48+(q:Int))=48+(q:Int):=by simp [IntKind.wrap,IntKind.signed,IntKind.bits];omega
    have hz : ¬9223372036854775807<(byte1 q).size+t.size:=by rw [byte1_size];omega
    clear he h9
    go_wp2_with fail
    go_ret
    exact ⟨by rw [HE.out];rfl,HB.out.alloc HB.out.size _⟩
def numB (n:Int):ByteArray:=if n<0 then ⟨#[45]⟩++decB (-n).toNat else decB n.toNat
set_option maxRecDepth 100000 in
set_option maxHeartbeats 2000000 in
theorem rnumber_is (n:Int) (h1 : -4000000000≤n) (h2:n≤4000000000) (w:World):Calls Tryz.prog 100 #[.int .i64 n] w fun e w'=>e = .returned (.string (numB n))∧Below w.heap.size w w':=by
 by_cases h:n<0
 · obtain ⟨k,rfl⟩ : ∃k:Nat,n = -(k:Int):=⟨(-n).toNat,by omega⟩
   have HN:=Lib.hid (show numB (-(k:Int))=⟨#[45]⟩++decB k by unfold numB;rw [if_pos h];simp)
   have t1:decide (-(k:Int)<0)=true:=by simpa using h
   have v1:IntKind.i64.wrap (-(-(k:Int)))=(k:Int):=by rw [IntWalk.i64_in _ (by omega)];omega
   have v2:IntKind.i64.wrap (k:Int)=(k:Int):=IntWalk.i64_in _ (by omega)
   have hz : ¬9223372036854775807<1+(decB k).size:=by have:=decB_size k;omega
   have hz2 : ¬9223372036854775807<(⟨#[45]⟩:ByteArray).size+(decB k).size:=by have:=decB_size k;have e:(⟨#[45]⟩:ByteArray).size=1:=rfl;omega
   go_enter Tryz.func100,Tryz.ntmps100
   go_wp2_with fail
   refine (rdigits_is k (by omega) _).mono ?_
   rintro e w1 ⟨rfl,hb1⟩
   have HB:=Lib.hid hb1
   clear hb1
   go_wp2_with fail
   go_ret
   exact ⟨by rw [HN.out];rfl,HB.out⟩
 · obtain ⟨k,rfl⟩ : ∃k:Nat,n=(k:Int):=⟨n.toNat,by omega⟩
   have HN:=Lib.hid (show numB (k:Int)=decB k by unfold numB;rw [if_neg h];simp)
   have t1:decide ((k:Int)<0)=false:=by simp
   go_enter Tryz.func100,Tryz.ntmps100
   go_wp2_with fail
   refine (rdigits_is k (by omega) _).mono ?_
   rintro e w1 ⟨rfl,hb1⟩
   have HB:=Lib.hid hb1
   clear hb1
   go_wp2_with fail
   go_ret
   exact ⟨by rw [HN.out];rfl,HB.out⟩
end Go.Proofs.YtffemfglngikbaaGreat
namespace Go.Proofs.YtffemfglngikbaaGreat
open Go.RowKit
def headB (f:UInt8→Bool) (t:ByteArray):Bool:=t.data.toList.head?.any f
theorem headB_eq {f:UInt8→Bool} {t:ByteArray} (h:0<t.size):headB f t=f t[0]:=by
 have hs:t.data.toList.length=t.size:=Array.length_toList
 unfold headB
 rw [List.head?_eq_getElem?,List.getElem?_eq_getElem (by omega),Option.any_some,Array.getElem_toList]
 rfl
def validB (s:Sym):Bool:=
 if s.kind=1 then decide (s.text.size=1) && headB greatB s.text && decide (1≤s.n) && decide (s.n≤1048576)
 else if s.kind=2 then decide (s.text.toList = []) && decide (-2147483647≤s.n) && decide (s.n≤2147483647)
 else if s.kind=3 then decide (s.n=0) && isWord s.text else false
theorem ret_bool {a b:Bool} (h:a=b):Ending.returned (.bool a) = .returned (.bool b):=by rw [h]
theorem validB_id {t:ByteArray} {n:Int} (h:validB ⟨1,t,n⟩=true):t.size=1∧headB greatB t=true∧1≤n∧n≤1048576:=by
 simp only [validB,if_true,Bool.and_eq_true,decide_eq_true_eq] at h
 exact ⟨h.1.1.1,h.1.1.2,h.1.2,h.2⟩
theorem validB_int {t:ByteArray} {n:Int} (h:validB ⟨2,t,n⟩=true):t.toList = []∧-2147483647≤n∧n≤2147483647:=by
 simp [validB] at h
 exact ⟨h.1.1,h.1.2,h.2⟩
theorem validB_kind {k n:Int} {t:ByteArray} (h:validB ⟨k,t,n⟩=true):k=1∨k=2∨k=3:=by
 unfold validB at h
 dsimp only at h
 split at h
 · exact .inl ‹_›
 · split at h
   · exact .inr (.inl ‹_›)
   · split at h
     · exact .inr (.inr ‹_›)
     · cases h
def textB (s:Sym):ByteArray:=if validB s=true then (if s.kind=1 then s.text++numB s.n else if s.kind=2 then numB s.n else s.text) else ⟨#[]⟩
theorem numB_nat (k:Nat):numB (k:Int)=decB k:=by unfold numB;rw [if_neg (by omega)];simp
theorem numB_neg (k:Nat) (h:0<k):numB (-(k:Int))=⟨#[45]⟩++decB k:=by unfold numB;rw [if_pos (by omega)];simp
theorem textB_no {s:Sym} (h:validB s=false):textB s=⟨#[]⟩:=by unfold textB;rw [h];simp
set_option maxRecDepth 100000 in
set_option maxHeartbeats 4000000 in
theorem valid_is (s:Sym) (w:World):Calls Tryz.prog 60 #[.agg #[.int .i64 s.kind,.string s.text,.int .i64 s.n]] w fun e w'=>e = .returned (.bool (validB s))∧Below w.heap.size w w':=by
 obtain ⟨k,t,n⟩:=s
 dsimp only
 by_cases k1:k=1
 · subst k1
   by_cases a1:t.size=1
   · have h0:0<t.size:=by omega
     have t1:((t.size:Int) == 1)=true:=by simp;omega
     have HV:=Lib.hid (show validB ⟨1,t,n⟩=(greatB t[0] && decide (1≤n) && decide (n≤1048576)) by simp [validB,a1,headB_eq h0])
     go_enter Tryz.func60,Tryz.ntmps60
     go_wp2_with (go_at_call 124;refine (great_is _ _).mono ?_;rintro e w' ⟨rfl,rfl⟩)
     all_goals
      go_ret
      refine ⟨?_,(Below.refl _ _).alloc (Nat.le_refl _) _⟩
      rw [HV.out]
      first | rfl | (refine ret_bool ?_;simp_all;done) | (refine ret_bool ?_;simp_all;omega) | (refine ret_bool ?_;simp_all [greatB];done) | (refine ret_bool ?_;simp_all [greatB];omega)
   · have t1:((t.size:Int) == 1)=false:=by simp;omega
     have HV:=Lib.hid (show validB ⟨1,t,n⟩=false by simp [validB,a1])
     go_enter Tryz.func60,Tryz.ntmps60
     go_wp2_with fail
     all_goals
      go_ret
      refine ⟨?_,(Below.refl _ _).alloc (Nat.le_refl _) _⟩
      rw [HV.out]
      rfl
 · by_cases k2:k=2
   · subst k2
     have HV:=Lib.hid (show validB ⟨2,t,n⟩=(decide (t.toList = []) && decide (-2147483647≤n) && decide (n≤2147483647)) by simp [validB])
     clear k1
     go_enter Tryz.func60,Tryz.ntmps60
     go_wp2_with fail
     all_goals
      go_ret
      refine ⟨?_,(Below.refl _ _).alloc (Nat.le_refl _) _⟩
      rw [HV.out]
      first | rfl | (refine ret_bool ?_;simp_all;done) | (refine ret_bool ?_;simp_all;omega) | (refine ret_bool ?_;simp_all [greatB];done) | (refine ret_bool ?_;simp_all [greatB];omega)
   · by_cases k3:k=3
     · subst k3
       have HV:=Lib.hid (show validB ⟨3,t,n⟩=(decide (n=0) && isWord t) by simp [validB])
       clear k1 k2
       go_enter Tryz.func60,Tryz.ntmps60
       go_wp2_with (go_at_call 126;refine (word_is _ _).mono ?_;rintro e w' ⟨rfl,rfl⟩)
       all_goals
        go_ret
        refine ⟨?_,(Below.refl _ _).alloc (Nat.le_refl _) _⟩
        rw [HV.out]
        first | rfl | (refine ret_bool ?_;simp_all;done) | (refine ret_bool ?_;simp_all;omega) | (refine ret_bool ?_;simp_all [greatB];done) | (refine ret_bool ?_;simp_all [greatB];omega)
     · have HV:=Lib.hid (show validB ⟨k,t,n⟩=false by simp [validB,k1,k2,k3])
       have t1:(k == 1)=false:=by simp [k1]
       have t2:(k == 2)=false:=by simp [k2]
       have t3:(k == 3)=false:=by simp [k3]
       clear k1 k2 k3
       go_enter Tryz.func60,Tryz.ntmps60
       go_wp2_with fail
       all_goals
        go_ret
        refine ⟨?_,(Below.refl _ _).alloc (Nat.le_refl _) _⟩
        rw [HV.out]
        rfl
set_option maxRecDepth 100000 in
set_option maxHeartbeats 4000000 in
theorem rvalid_is (s:Sym) (w:World):Calls Tryz.prog 66 #[.agg #[.int .i64 s.kind,.string s.text,.int .i64 s.n]] w fun e w'=>e = .returned (.bool (validB s))∧Below w.heap.size w w':=by
 obtain ⟨k,t,n⟩:=s
 dsimp only
 by_cases k1:k=1
 · subst k1
   by_cases a1:t.size=1
   · have h0:0<t.size:=by omega
     have t1:((t.size:Int) == 1)=true:=by simp;omega
     have HV:=Lib.hid (show validB ⟨1,t,n⟩=(greatB t[0] && decide (1≤n) && decide (n≤1048576)) by simp [validB,a1,headB_eq h0])
     go_enter Tryz.func66,Tryz.ntmps66
     go_wp2_with (fail)
     all_goals
      go_ret
      refine ⟨?_,(Below.refl _ _).alloc (Nat.le_refl _) _⟩
      rw [HV.out]
      first | rfl | (refine ret_bool ?_;simp_all;done) | (refine ret_bool ?_;simp_all;omega) | (refine ret_bool ?_;simp_all [greatB];done) | (refine ret_bool ?_;simp_all [greatB];omega)
   · have t1:((t.size:Int) == 1)=false:=by simp;omega
     have HV:=Lib.hid (show validB ⟨1,t,n⟩=false by simp [validB,a1])
     go_enter Tryz.func66,Tryz.ntmps66
     go_wp2_with fail
     all_goals
      go_ret
      refine ⟨?_,(Below.refl _ _).alloc (Nat.le_refl _) _⟩
      rw [HV.out]
      rfl
 · by_cases k2:k=2
   · subst k2
     have HV:=Lib.hid (show validB ⟨2,t,n⟩=(decide (t.toList = []) && decide (-2147483647≤n) && decide (n≤2147483647)) by simp [validB])
     clear k1
     go_enter Tryz.func66,Tryz.ntmps66
     go_wp2_with fail
     all_goals
      go_ret
      refine ⟨?_,(Below.refl _ _).alloc (Nat.le_refl _) _⟩
      rw [HV.out]
      first | rfl | (refine ret_bool ?_;simp_all;done) | (refine ret_bool ?_;simp_all;omega) | (refine ret_bool ?_;simp_all [greatB];done) | (refine ret_bool ?_;simp_all [greatB];omega)
   · by_cases k3:k=3
     · subst k3
       have HV:=Lib.hid (show validB ⟨3,t,n⟩=(decide (n=0) && isWord t) by simp [validB])
       clear k1 k2
       go_enter Tryz.func66,Tryz.ntmps66
       go_wp2_with (go_at_call 104;refine (rword_is _ _).mono ?_;rintro e w' ⟨rfl,rfl⟩)
       all_goals
        go_ret
        refine ⟨?_,(Below.refl _ _).alloc (Nat.le_refl _) _⟩
        rw [HV.out]
        first | rfl | (refine ret_bool ?_;simp_all;done) | (refine ret_bool ?_;simp_all;omega) | (refine ret_bool ?_;simp_all [greatB];done) | (refine ret_bool ?_;simp_all [greatB];omega)
     · have HV:=Lib.hid (show validB ⟨k,t,n⟩=false by simp [validB,k1,k2,k3])
       have t1:(k == 1)=false:=by simp [k1]
       have t2:(k == 2)=false:=by simp [k2]
       have t3:(k == 3)=false:=by simp [k3]
       clear k1 k2 k3
       go_enter Tryz.func66,Tryz.ntmps66
       go_wp2_with fail
       all_goals
        go_ret
        refine ⟨?_,(Below.refl _ _).alloc (Nat.le_refl _) _⟩
        rw [HV.out]
        rfl
set_option maxRecDepth 100000 in
set_option maxHeartbeats 4000000 in
theorem text_is (s:Sym) (w:World):Calls Tryz.prog 253 #[.agg #[.int .i64 s.kind,.string s.text,.int .i64 s.n]] w fun e w'=>e = .returned (.string (textB s))∧Below w.heap.size w w':=by
 cases hv:validB s
 · have HT:=Lib.hid (textB_no hv)
   go_enter Tryz.func253,Tryz.ntmps253
   go_wp2_with fail
   refine (valid_is s _).mono ?_
   rintro e w1 ⟨rfl,hb1⟩
   have HB:=Lib.hid (((Below.refl w.heap.size w).alloc (Nat.le_refl _) _).trans (hb1.mono (by simp)))
   clear hb1
   go_wp2_with fail
   go_ret
   exact ⟨by rw [HT.out]<;>rfl,HB.out⟩
 obtain ⟨k,t,n⟩:=s
 dsimp only
 have HT0:Hid (textB ⟨k,t,n⟩=if k=1 then t++numB n else if k=2 then numB n else t):=Lib.hid (by unfold textB;rw [hv];rfl)
 rcases validB_kind hv with rfl | rfl | rfl
 · obtain ⟨h1,_,h3,h4⟩:=validB_id hv
   obtain ⟨m,rfl⟩ : ∃m:Nat,n=(m:Int):=⟨n.toNat,by omega⟩
   have HT:=Lib.hid (show textB ⟨1,t,m⟩=t++decB m by rw [HT0.out,numB_nat];rfl)
   have hz : ¬9223372036854775807<t.size+(decB m).size:=by have:=decB_size m;omega
   have hm:m≤4000000000:=by omega
   clear h1 h3 h4 HT0
   go_enter Tryz.func253,Tryz.ntmps253
   go_wp2_with fail
   refine (valid_is ⟨1,t,m⟩ _).mono ?_
   rintro e w1 ⟨rfl,hb1⟩
   have hx1:=(Blk.new w 38 #[.int .i64 1,.string t,.int .i64 m]).new_ hb1
   have y0:=(hx1.cell 0).trans rfl
   have y1:=(hx1.cell 1).trans rfl
   have y2:=(hx1.cell 2).trans rfl
   have hxl:=hx1.lt
   have HB:=Lib.hid (((Below.refl w.heap.size w).alloc (Nat.le_refl _) _).trans (hb1.mono (by simp)))
   clear hb1 hx1
   go_wp2_with fail
   refine wp_region_E (fun w9=>Below w1.heap.size w1 w9) [(0,0),(1,1),(2,0),(3,1),(4,2),(5,0),(6,0)] (by kernel_rfl) (by kernel_rfl) (fun KK hKK=>?_)
   simp only [beside,List.filterMap_cons,List.filterMap_nil,List.getElem?_toArray,List.getElem?_cons_zero,List.getElem?_cons_succ,Option.map_some]
   repeat ((first | (refine wpX_w ?_ (Or.inl ⟨by rfl,fun w9=>?_⟩) ?_;rotate_left 1;go_simp;with_reducible rfl) | (refine wpX_l ?_ (((Below.refl _ _).drew)) (Or.inl ⟨by rfl,fun w9 hw9=>?_⟩) ?_;rotate_left 1;obtain ⟨hc9,hf9⟩:=bcell hw9;go_simp;with_reducible rfl) | refine wpX_w undef (Or.inr ⟨by rfl,rfl⟩) ?_ | refine wpX_l undef (((Below.refl _ _).drew)) (Or.inr ⟨by rfl,rfl⟩) ?_);go_frame)
   refine wpX_es (fun K9 hK9=>?_)
   go_simp
   refine (digits_is m hm _).mono ?_
   rintro e w2 ⟨rfl,hb2⟩
   have HB2:=Lib.hid ((Below.refl w1.heap.size w1).drew.trans (hb2.mono (by simp)))
   clear hb2
   refine hK9 _ _ HB2.out ?_
   clear hK9 K9
   repeat ((first | (refine wpX_w ?_ (Or.inl ⟨by rfl,fun w9=>?_⟩) ?_;rotate_left 1;go_simp;with_reducible rfl) | (refine wpX_l ?_ (HB2.out) (Or.inl ⟨by rfl,fun w9 hw9=>?_⟩) ?_;rotate_left 1;obtain ⟨hc9,hf9⟩:=bcell hw9;go_simp;with_reducible rfl) | refine wpX_w undef (Or.inr ⟨by rfl,rfl⟩) ?_ | refine wpX_l undef (HB2.out) (Or.inr ⟨by rfl,rfl⟩) ?_);go_frame)
   refine wpX_nil ?_
   simp only [OnlyN_normal]
   refine hKK _ _ ?_
   clear hKK KK
   go_wp2_with fail
   go_ret
   exact ⟨by rw [HT.out]<;>rfl,HB.out.trans (HB2.out.mono HB.out.size)⟩
 · obtain ⟨h1,h3,h4⟩:=validB_int hv
   by_cases hn:n<0
   · obtain ⟨m,rfl⟩ : ∃m:Nat,n = -(m:Int):=⟨(-n).toNat,by omega⟩
     have HT:=Lib.hid (show textB ⟨2,t,-(m:Int)⟩=⟨#[45]⟩++decB m by rw [HT0.out,numB_neg m (by omega)];rfl)
     have hz : ¬9223372036854775807<1+(decB m).size:=by have:=decB_size m;omega
     have hz2 : ¬9223372036854775807<(⟨#[45]⟩:ByteArray).size+(decB m).size:=by have:=decB_size m;have e:(⟨#[45]⟩:ByteArray).size=1:=rfl;omega
     have hm:m≤4000000000:=by omega
     have v1:IntKind.i64.wrap (-(-(m:Int)))=(m:Int):=by rw [IntWalk.i64_in _ (by omega)];omega
     have v2:IntKind.i64.wrap (m:Int)=(m:Int):=IntWalk.i64_in _ (by omega)
     have t1:decide (-(m:Int)<0)=true:=by simpa using hn
     clear h1 h3 h4 HT0
     go_enter Tryz.func253,Tryz.ntmps253
     go_wp2_with fail
     refine (valid_is ⟨2,t,-(m:Int)⟩ _).mono ?_
     rintro e w1 ⟨rfl,hb1⟩
     have hx1:=(Blk.new w 38 #[.int .i64 2,.string t,.int .i64 (-(m:Int))]).new_ hb1
     have y0:=(hx1.cell 0).trans rfl
     have y1:=(hx1.cell 1).trans rfl
     have y2:=(hx1.cell 2).trans rfl
     have HB:=Lib.hid (((Below.refl w.heap.size w).alloc (Nat.le_refl _) _).trans (hb1.mono (by simp)))
     clear hb1 hx1
     go_wp2_with fail
     refine (digits_is m hm _).mono ?_
     rintro e w2 ⟨rfl,hb2⟩
     have HB2:=Lib.hid (HB.out.trans (hb2.mono HB.out.size))
     clear hb2
     go_wp2_with fail
     go_ret
     exact ⟨by rw [HT.out]<;>rfl,HB2.out⟩
   · obtain ⟨m,rfl⟩ : ∃m:Nat,n=(m:Int):=⟨n.toNat,by omega⟩
     have HT:=Lib.hid (show textB ⟨2,t,m⟩=decB m by rw [HT0.out,numB_nat];rfl)
     have hm:m≤4000000000:=by omega
     have t1:decide ((m:Int)<0)=false:=by simp
     clear h1 h3 h4 HT0 hn
     go_enter Tryz.func253,Tryz.ntmps253
     go_wp2_with fail
     refine (valid_is ⟨2,t,m⟩ _).mono ?_
     rintro e w1 ⟨rfl,hb1⟩
     have hx1:=(Blk.new w 38 #[.int .i64 2,.string t,.int .i64 m]).new_ hb1
     have y0:=(hx1.cell 0).trans rfl
     have y1:=(hx1.cell 1).trans rfl
     have y2:=(hx1.cell 2).trans rfl
     have HB:=Lib.hid (((Below.refl w.heap.size w).alloc (Nat.le_refl _) _).trans (hb1.mono (by simp)))
     clear hb1 hx1
     go_wp2_with fail
     refine (digits_is m hm _).mono ?_
     rintro e w2 ⟨rfl,hb2⟩
     have HB2:=Lib.hid (HB.out.trans (hb2.mono HB.out.size))
     clear hb2
     go_wp2_with fail
     go_ret
     exact ⟨by rw [HT.out]<;>rfl,HB2.out⟩
 · have HT:=Lib.hid (show textB ⟨3,t,n⟩=t by rw [HT0.out];rfl)
   clear HT0
   go_enter Tryz.func253,Tryz.ntmps253
   go_wp2_with fail
   refine (valid_is ⟨3,t,n⟩ _).mono ?_
   rintro e w1 ⟨rfl,hb1⟩
   have hx1:=(Blk.new w 38 #[.int .i64 3,.string t,.int .i64 n]).new_ hb1
   have y0:=(hx1.cell 0).trans rfl
   have y1:=(hx1.cell 1).trans rfl
   have y2:=(hx1.cell 2).trans rfl
   have HB:=Lib.hid (((Below.refl w.heap.size w).alloc (Nat.le_refl _) _).trans (hb1.mono (by simp)))
   clear hb1 hx1
   go_wp2_with fail
   go_ret
   exact ⟨by rw [HT.out]<;>rfl,HB.out⟩
set_option maxRecDepth 100000 in
set_option maxHeartbeats 4000000 in
theorem rtext_is (s:Sym) (w:World):Calls Tryz.prog 255 #[.agg #[.int .i64 s.kind,.string s.text,.int .i64 s.n]] w fun e w'=>e = .returned (.string (textB s))∧Below w.heap.size w w':=by
 cases hv:validB s
 · have HT:=Lib.hid (textB_no hv)
   go_enter Tryz.func255,Tryz.ntmps255
   go_wp2_with fail
   refine (rvalid_is s _).mono ?_
   rintro e w1 ⟨rfl,hb1⟩
   have HB:=Lib.hid (((Below.refl w.heap.size w).alloc (Nat.le_refl _) _).trans (hb1.mono (by simp)))
   clear hb1
   go_wp2_with fail
   go_ret
   exact ⟨by rw [HT.out]<;>rfl,HB.out⟩
 obtain ⟨k,t,n⟩:=s
 dsimp only
 have HT0:Hid (textB ⟨k,t,n⟩=if k=1 then t++numB n else if k=2 then numB n else t):=Lib.hid (by unfold textB;rw [hv];rfl)
 rcases validB_kind hv with rfl | rfl | rfl
 · obtain ⟨h1,_,h3,h4⟩:=validB_id hv
   obtain ⟨m,rfl⟩ : ∃m:Nat,n=(m:Int):=⟨n.toNat,by omega⟩
   have HT:=Lib.hid (show textB ⟨1,t,m⟩=t++numB (m:Int) by rw [HT0.out];rfl)
   have hz : ¬9223372036854775807<t.size+(numB (m:Int)).size:=by rw [numB_nat];have:=decB_size m;omega
   have hm:(m:Int)≤4000000000:=by omega
   clear h1 h3 h4 HT0
   go_enter Tryz.func255,Tryz.ntmps255
   go_wp2_with fail
   refine (rvalid_is ⟨1,t,m⟩ _).mono ?_
   rintro e w1 ⟨rfl,hb1⟩
   have hx1:=(Blk.new w 38 #[.int .i64 1,.string t,.int .i64 m]).new_ hb1
   have y0:=(hx1.cell 0).trans rfl
   have y1:=(hx1.cell 1).trans rfl
   have y2:=(hx1.cell 2).trans rfl
   have hxl:=hx1.lt
   have HB:=Lib.hid (((Below.refl w.heap.size w).alloc (Nat.le_refl _) _).trans (hb1.mono (by simp)))
   clear hb1 hx1
   go_wp2_with fail
   refine wp_region_E (fun w9=>Below w1.heap.size w1 w9) [(0,0),(1,1),(2,0),(3,1),(4,2),(5,0),(6,0)] (by kernel_rfl) (by kernel_rfl) (fun KK hKK=>?_)
   simp only [beside,List.filterMap_cons,List.filterMap_nil,List.getElem?_toArray,List.getElem?_cons_zero,List.getElem?_cons_succ,Option.map_some]
   repeat ((first | (refine wpX_w ?_ (Or.inl ⟨by rfl,fun w9=>?_⟩) ?_;rotate_left 1;go_simp;with_reducible rfl) | (refine wpX_l ?_ (((Below.refl _ _).drew)) (Or.inl ⟨by rfl,fun w9 hw9=>?_⟩) ?_;rotate_left 1;obtain ⟨hc9,hf9⟩:=bcell hw9;go_simp;with_reducible rfl) | refine wpX_w undef (Or.inr ⟨by rfl,rfl⟩) ?_ | refine wpX_l undef (((Below.refl _ _).drew)) (Or.inr ⟨by rfl,rfl⟩) ?_);go_frame)
   refine wpX_es (fun K9 hK9=>?_)
   go_simp
   refine (rnumber_is (m:Int) (by omega) hm _).mono ?_
   rintro e w2 ⟨rfl,hb2⟩
   have HB2:=Lib.hid ((Below.refl w1.heap.size w1).drew.trans (hb2.mono (by simp)))
   clear hb2
   refine hK9 _ _ HB2.out ?_
   clear hK9 K9
   repeat ((first | (refine wpX_w ?_ (Or.inl ⟨by rfl,fun w9=>?_⟩) ?_;rotate_left 1;go_simp;with_reducible rfl) | (refine wpX_l ?_ (HB2.out) (Or.inl ⟨by rfl,fun w9 hw9=>?_⟩) ?_;rotate_left 1;obtain ⟨hc9,hf9⟩:=bcell hw9;go_simp;with_reducible rfl) | refine wpX_w undef (Or.inr ⟨by rfl,rfl⟩) ?_ | refine wpX_l undef (HB2.out) (Or.inr ⟨by rfl,rfl⟩) ?_);go_frame)
   refine wpX_nil ?_
   simp only [OnlyN_normal]
   refine hKK _ _ ?_
   clear hKK KK
   go_wp2_with fail
   go_ret
   exact ⟨by rw [HT.out]<;>rfl,HB.out.trans (HB2.out.mono HB.out.size)⟩
 · obtain ⟨h1,h3,h4⟩:=validB_int hv
   have HT:=Lib.hid (show textB ⟨2,t,n⟩=numB n by rw [HT0.out];rfl)
   have h5 : -4000000000≤n:=by omega
   have h6:n≤4000000000:=by omega
   clear h1 h3 h4 HT0
   go_enter Tryz.func255,Tryz.ntmps255
   go_wp2_with fail
   refine (rvalid_is ⟨2,t,n⟩ _).mono ?_
   rintro e w1 ⟨rfl,hb1⟩
   have hx1:=(Blk.new w 38 #[.int .i64 2,.string t,.int .i64 n]).new_ hb1
   have y0:=(hx1.cell 0).trans rfl
   have y1:=(hx1.cell 1).trans rfl
   have y2:=(hx1.cell 2).trans rfl
   have HB:=Lib.hid (((Below.refl w.heap.size w).alloc (Nat.le_refl _) _).trans (hb1.mono (by simp)))
   clear hb1 hx1
   go_wp2_with fail
   refine (rnumber_is n h5 h6 _).mono ?_
   rintro e w2 ⟨rfl,hb2⟩
   have HB2:=Lib.hid (HB.out.trans (hb2.mono HB.out.size))
   clear hb2
   go_wp2_with fail
   go_ret
   exact ⟨by rw [HT.out]<;>rfl,HB2.out⟩
 · have HT:=Lib.hid (show textB ⟨3,t,n⟩=t by rw [HT0.out];rfl)
   clear HT0
   go_enter Tryz.func255,Tryz.ntmps255
   go_wp2_with fail
   refine (rvalid_is ⟨3,t,n⟩ _).mono ?_
   rintro e w1 ⟨rfl,hb1⟩
   have hx1:=(Blk.new w 38 #[.int .i64 3,.string t,.int .i64 n]).new_ hb1
   have y0:=(hx1.cell 0).trans rfl
   have y1:=(hx1.cell 1).trans rfl
   have y2:=(hx1.cell 2).trans rfl
   have HB:=Lib.hid (((Below.refl w.heap.size w).alloc (Nat.le_refl _) _).trans (hb1.mono (by simp)))
   clear hb1 hx1
   go_wp2_with fail
   go_ret
   exact ⟨by rw [HT.out]<;>rfl,HB.out⟩
end Go.Proofs.YtffemfglngikbaaGreat
namespace Go.Proofs.YtffemfglngikbaaGreat
open Go.RowKit
abbrev Name:=ByteArray
def Name.cells (n:Name):List Value:=[.string n]
theorem Name.cells_length (n:Name):(Name.cells n).length=1:=rfl
end Go.Proofs.YtffemfglngikbaaGreat
namespace Go.Proofs.YtffemfglngikbaaGreat
def zS:Sym:=⟨0,⟨#[]⟩,0⟩
def noneB (s:Sym):Bool:=decide (s=zS)
def emptyB (a:AtomT):Bool:=decide (a.var.toList = []) && noneB a.sym
def constB (s:Sym):Bool:=decide (s.kind≠1) && validB s
def testB (t:TestT):Bool:=
 if t.rel=8 then decide (t.var.toList = []) && noneB t.sym && decide (1≤t.list.length) && decide (t.list.length≤8) && t.list.all constB
 else if t.rel<1∨7<t.rel∨0<t.list.length then false
 else if t.var.toList = [] then constB t.sym else isWord t.var && noneB t.sym
def atomB (a:AtomT):Bool:=if a.var.toList = [] then constB a.sym else isWord a.var && noneB a.sym
def condE (c:CondT) (deep:Nat):Int:=
 if c.kind=3 then (if c.goal=true∨c.id.toList≠[]∨0<c.attr.length∨0<c.value.length∨c.acc=true∨c.conds.length=0 then 9 else if 3≤deep then 8 else 0)
 else if c.kind=1∨c.kind=2 then
  (if 0<c.conds.length∨isWord c.id=false∨c.attr.length=0 then 9 else if 4<c.attr.length∨4<c.value.length then 7 else if (c.attr.all testB && c.value.all testB)=false then 9 else 0)
 else 9
def wordAB (a:AtomT):Bool:=decide (a.var.toList = []) && decide (a.sym.kind=3)
def termB (t:TermT):Bool:=
 if t.op<0∨3<t.op∨atomB t.a=false then false
 else if t.op=0 then emptyB t.b else atomB t.b && !wordAB t.a && !wordAB t.b
def otherB (k:Int):Bool:=decide (k=8) || decide (k=9) || decide (k=10)
def actB (a:ActT):Bool:=
 if isWord a.id=false∨atomB a.attr=false∨termB a.value=false∨a.pref<1∨10<a.pref then false
 else if otherB a.pref=true then atomB a.other else emptyB a.other
def flatC:Nat→Nat→List CondT→List (Nat×CondT)
 | 0,_,_=>[]
 | n+1,d,l=>l.flatMap fun c=>(d,c) :: flatC n (d+1) c.conds
def shapeP (n:Nat) (p:ProdT):Int×Int:=
 if isWord p.name=false then (-1,2)
 else if (flatC n 0 p.conds).length<1∨16<(flatC n 0 p.conds).length∨p.acts.length<1∨16<p.acts.length then (-1,7)
 else match (flatC n 0 p.conds).findIdx? (fun c=>decide (condE c.2 c.1≠0)) with
  | some k=>(k,(((flatC n 0 p.conds)[k]?).map fun c=>condE c.2 c.1).getD 0)
  | none=>match p.acts.findIdx? (fun a=>!actB a) with
    | some i=>((flatC n 0 p.conds).length+i,9)
    | none=>(-1,0)
end Go.Proofs.YtffemfglngikbaaGreat
namespace Go.Proofs.YtffemfglngikbaaGreat
open Go.RowKit
structure St where
 sn:Bool
 A:Option Addr
 c:Nat
def upd {β:Type} (S:Nat→β) (b:Nat) (l:β):Nat→β:=fun k=>if k=b then l else S k
theorem upd_same {β:Type} (S:Nat→β) (b:Nat) (l:β):upd S b l b=l:=by simp [upd]
theorem upd_ne {β:Type} (S:Nat→β) {b k:Nat} (l:β) (h:k≠b):upd S b l k=S k:=by simp [upd,h]
structure Sets {α:Type} (tSet tE size:Nat) (cells:α→List Value) (cmp:α→α→Int) (D:Nat→Prop) (w:World) (S:Nat→Option (List α)) (σ:Nat→St):Prop where
 at_ : ∀b l,S b=some l→SetAt tSet tE size cells w b (σ b).sn (σ b).A (σ b).c l
 srt : ∀b l,S b=some l→Srt cmp l
 out : ∀b l,S b=some l→¬D b∧((σ b).sn=false→AIn (σ b).A (fun k=>¬D k))
 apart : ∀b l b' l',S b=some l→S b'=some l'→b≠b'→(σ b).sn=false→∀a a',(σ b).A=some a→(σ b').A=some a'→a.block≠a'.block
 low : ∀k,D k→k<w.heap.size
section
variable {α:Type} {tSet tE size:Nat} {cells:α→List Value} {cmp:α→α→Int} {D D':Nat→Prop} {w w':World} {S:Nat→Option (List α)} {σ:Nat→St} {b b':Nat} {l l':List α}
theorem SetAt.far {sn:Bool} {A:Option Addr} {c:Nat} (h:SetAt tSet tE size cells w b sn A c l) {sn':Bool} {A':Option Addr} {c':Nat} (h':SetAt tSet tE size cells w b' sn' A' c' l') (hne:tE≠tSet):AIn A (·≠b'):=by
 intro a e hb
 have:=own_blk_ne h.row h'.blk hne
 subst e
 exact this (by simp [Value.ownBlock,hb])
theorem Sets.start (tSet tE size:Nat) (cells:α→List Value) (cmp:α→α→Int) (w:World):Sets tSet tE size cells cmp (· < w.heap.size) w (fun _=>none) (fun _=>⟨false,none,0⟩):=
 ⟨fun _ _ h=>by simp at h,fun _ _ h=>by simp at h,fun _ _ h=>by simp at h,fun _ _ _ _ h=>by simp at h,fun _ h=>h⟩
theorem Sets.lt (h:Sets tSet tE size cells cmp D w S σ) (hb:S b=some l):b<w.heap.size:=(h.at_ b l hb).lt
theorem Sets.below (h:Sets tSet tE size cells cmp D w S σ) (hw:Below w.heap.size w w'):Sets tSet tE size cells cmp D w' S σ:=
 ⟨fun b l hb=>(h.at_ b l hb).new_ hw,h.srt,h.out,h.apart,fun k hk=>Nat.lt_of_lt_of_le (h.low k hk) hw.size⟩
theorem Sets.weaken (h:Sets tSet tE size cells cmp D w S σ) (hD : ∀k,D' k→D k):Sets tSet tE size cells cmp D' w S σ:=
 ⟨h.at_,h.srt,fun b l hb=>⟨fun hk=>(h.out b l hb).1 (hD _ hk),fun hs=>((h.out b l hb).2 hs).mono (fun _ hk hd=>hk (hD _ hd))⟩,h.apart,fun k hk=>h.low k (hD k hk)⟩
theorem Sets.add (h:Sets tSet tE size cells cmp D w S σ) {k:Nat} {sn':Bool} {A':Option Addr} {c':Nat} (hk:w.heap.size≤k) (h1:SetAt tSet tE size cells w' k sn' A' c' l') (hs:Srt cmp l')
 (hA:AIn A' (w.heap.size≤·)∨(sn'=true∧∃b l,S b=some l∧(σ b).sn=true∧(σ b).A=A')) (hF:Below w.heap.size w w'):Sets tSet tE size cells cmp D w' (upd S k (some l')) (upd σ k ⟨sn',A',c'⟩):=by
 have hnk : ∀b l,S b=some l→b≠k:=fun b l hb e=>by have:=h.lt hb;omega
 refine ⟨fun b m hb=>?_,fun b m hb=>?_,fun b m hb=>?_,fun b m b' m' hb hb' hkk hsk a a' ha ha'=>?_,fun k hk=>Nat.lt_of_lt_of_le (h.low k hk) hF.size⟩
 · by_cases e:b=k
   · subst e;rw [upd_same] at hb ⊢;cases hb;exact h1
   · rw [upd_ne _ _ e] at hb ⊢;exact (h.at_ b m hb).new_ hF
 · by_cases e:b=k
   · subst e;rw [upd_same] at hb;cases hb;exact hs
   · rw [upd_ne _ _ e] at hb;exact h.srt b m hb
 · by_cases e:b=k
   · subst e;rw [upd_same] at hb ⊢;cases hb
     refine ⟨fun hd=>by have:=h.low _ hd;omega,fun hs2 a ha hd=>?_⟩
     have h3:=h.low _ hd
     rcases hA with hA | ⟨hA,_⟩
     · have:=hA a ha;omega
     · simp only at hs2;rw [hA] at hs2;cases hs2
   · rw [upd_ne _ _ e] at hb ⊢;exact h.out b m hb
 · by_cases e:b=k
   · subst e
     rw [upd_ne _ _ (Ne.symm hkk)] at hb' ha'
     rw [upd_same] at hsk ha
     simp only at hsk ha
     have h3:=(h.at_ b' m' hb').row_lt a' ha'
     rcases hA with hA | ⟨hA,_⟩
     · have:=hA a ha;omega
     · rw [hA] at hsk;cases hsk
   · rw [upd_ne _ _ e] at hb hsk ha
     have h3:=(h.at_ b m hb).row_lt a ha
     by_cases e2:b'=k
     · subst e2
       rw [upd_same] at ha'
       simp only at ha'
       rcases hA with hA | ⟨_,b2,l2,hb2,hs2,hA⟩
       · have:=hA a' ha';omega
       · by_cases e3:b=b2
         · subst e3;rw [hsk] at hs2;cases hs2
         · exact h.apart b m b2 l2 hb hb2 e3 hsk a a' ha (hA.trans ha')
     · rw [upd_ne _ _ e2] at hb' ha'
       exact h.apart b m b' m' hb hb' hkk hsk a a' ha ha'
end
end Go.Proofs.YtffemfglngikbaaGreat
namespace Go.Proofs.YtffemfglngikbaaGreat
open Go.RowKit
theorem Sym.one (x:Sym) : ∀u∈Sym.cells x,u.oneCell'=true:=by intro u hu;simp [Sym.cells] at hu;rcases hu with rfl | rfl | rfl<;>rfl
theorem Sym.oneAll (l:List Sym) : ∀u∈l.flatMap Sym.cells,u.oneCell'=true:=by intro u hu;obtain ⟨x,_,hx⟩:=List.mem_flatMap.1 hu;exact Sym.one x u hx
end Go.Proofs.YtffemfglngikbaaGreat
namespace Go.Proofs.YtffemfglngikbaaGreat
open Go.RowKit Go.Shelf
def RowKeep (A:Option Addr) (W W':World):Prop:=W.heap.size≤W'.heap.size∧∀a,A=some a→a.block<W.heap.size→W'.heap[a.block]? = W.heap[a.block]?
theorem RowKeep.trans {A:Option Addr} {X Y Z:World} (h:RowKeep A X Y) (k:RowKeep A Y Z):RowKeep A X Z:=⟨Nat.le_trans h.1 k.1,fun a e hl=>(k.2 a e (Nat.lt_of_lt_of_le hl h.1)).trans (h.2 a e hl)⟩
theorem RowKeep.of_below {A:Option Addr} {B:Nat} {X Y:World} (hA:AIn A (· < B)) (h:Below B X Y):RowKeep A X Y:=⟨h.size,fun a e _=>h.block _ (hA a e)⟩
theorem RowKeep.rd {α:Type} {size c:Nat} {cells:α→List Value} {A:Option Addr} {l:List α} {W W':World} (hk:RowKeep A W W') (h:RowRd W size cells A c l):RowRd W' size cells A c l:=
 h.keep hk.1 (fun p hp ⟨a,ha,hb⟩=>World.cell?_of_block (by rw [← hb];exact hk.2 a ha (by rw [hb];exact hp)))
def SeenStart (b:Nat) (X Y:World):Prop:=∃X1,Below X.heap.size X X1∧Y=X1.setCell ⟨b,1,none⟩ (.bool true)
theorem SeenStart.set_ {α:Type} {tSet tE size:Nat} {cells:α→List Value} {W W1:World} {b:Nat} {sn:Bool} {A:Option Addr} {c:Nat} {l:List α} (h:SeenStart b W W1) (hS:SetAt tSet tE size cells W b sn A c l) (hne:tE≠tSet):SetAt tSet tE size cells W1 b true A c l:=by
 obtain ⟨X1,hb,rfl⟩:=h
 refine ⟨(hS.new_ hb).blk.set_ 1 _,ownsRow_setCell_other (hS.new_ hb).row ?_ _⟩
 exact own_blk_ne hS.row hS.blk hne
theorem SeenStart.fr {b:Nat} {W W1:World} (h:SeenStart b W W1):Fr (· = b) W W1:=by
 obtain ⟨X1,hb,rfl⟩:=h
 exact (Fr.of_new (M:=(· = b)) hb).setCell (p:=⟨b,1,none⟩) (.inl rfl) _
end Go.Proofs.YtffemfglngikbaaGreat
namespace Go.Proofs.YtffemfglngikbaaGreat
open Go.RowKit Go.Shelf
attribute [local go_sem] Oper.semAt_some
structure Seq {α:Type} (gf:Nat) (lb:Array Value) (encs:α→Array Value) (xs:List α) (w:World) (start Kp:World→World→Prop):Prop where
 enter : ∀args w,(callFunc gf args).run Tryz.prog w = .ok (.enter gf args) w
 iter : ∀W,Below w.heap.size w W→Iter Tryz.prog gf lb encs xs W start (fun X Y=>Kp X Y∧KeepsFrom W.heap.size X Y)
 trans : ∀A B C,Kp A B→Kp B C→Kp A C
 keep : ∀A B,Priv w.heap.size A B→Kp A B
 below : ∀A B,Below w.heap.size A B→Kp A B
 mods : ∀W W1,start W W1→Fr (· < w.heap.size) W W1
theorem Seq.new_ {α:Type} {gf:Nat} {lb:Array Value} {encs:α→Array Value} {xs:List α} {w w':World} {start Kp:World→World→Prop} (h:Seq gf lb encs xs w start Kp) (hb:Below w.heap.size w w'):Seq gf lb encs xs w' start Kp:=
 ⟨h.enter,fun W hW=>h.iter W (hb.trans (hW.mono hb.size)),h.trans,fun A B hp=>h.keep A B (hp.mono hb.size),fun A B hp=>h.below A B (hp.mono hb.size),fun W W1 hs=>(h.mods W W1 hs).mono (fun _ _ hk=>Nat.lt_of_lt_of_le hk hb.size)⟩
end Go.Proofs.YtffemfglngikbaaGreat
namespace Go.Proofs.YtffemfglngikbaaGreat
open Go.RowKit Go.Shelf
attribute [local go_sem] Oper.semAt_some
end Go.Proofs.YtffemfglngikbaaGreat
namespace Go.Proofs.YtffemfglngikbaaGreat
open Go.RowKit Go.Shelf
attribute [local go_sem] Oper.semAt_some
end Go.Proofs.YtffemfglngikbaaGreat
namespace Go.Proofs.YtffemfglngikbaaGreat
open Go.RowKit
theorem eql_sym (x y:Sym) (W:World):(binOp .eql 38 (.agg #[.int .i64 x.kind,.string x.text,.int .i64 x.n]) (.agg #[.int .i64 y.kind,.string y.text,.int .i64 y.n])).run Tryz.prog W = .ok (.bool (decide (x=y))) W:=by
 rw [run_eql_struct]
 go_simp
 by_cases h:x=y
 · subst h;simp
 · have h2 : ¬(x.kind=y.kind∧x.text.toList=y.text.toList∧x.n=y.n):=fun ⟨h1,h2,h3⟩=>h (Sym.ext' h1 (toList_inj h2) h3)
   rw [decide_eq_false h]
   split
   · split
     · split
       · exact absurd ⟨by assumption,by assumption,by assumption⟩ h2
       · rfl
     · rfl
   · rfl
theorem neq_sym (x y:Sym) (W:World):(binOp .neq 38 (.agg #[.int .i64 x.kind,.string x.text,.int .i64 x.n]) (.agg #[.int .i64 y.kind,.string y.text,.int .i64 y.n])).run Tryz.prog W = .ok (.bool (!decide (x=y))) W:=by
 rw [run_neq_struct]
 go_simp
 by_cases h:x=y
 · subst h;simp
 · have h2 : ¬(x.kind=y.kind∧x.text.toList=y.text.toList∧x.n=y.n):=fun ⟨h1,h2,h3⟩=>h (Sym.ext' h1 (toList_inj h2) h3)
   rw [decide_eq_false h]
   split
   · split
     · split
       · exact absurd ⟨by assumption,by assumption,by assumption⟩ h2
       · rfl
     · rfl
   · rfl
attribute [local go_sem] eql_sym neq_sym
theorem sym_at {w:World} {A:Option Addr} {c k:Nat} {l:List Sym} (h:RowRd w 3 Sym.cells A c l) (hk:k<l.length) : ∃g off,A=some ⟨g,off,none⟩∧g<w.heap.size∧
 w.cell? ⟨g,off+k*3,none⟩=some (.int .i64 l[k].kind)∧w.cell? ⟨g,off+k*3+1,none⟩=some (.string l[k].text)∧w.cell? ⟨g,off+k*3+2,none⟩=some (.int .i64 l[k].n):=by
 obtain ⟨g,off,hA,hg,hc⟩:=h.at_ hk
 exact ⟨g,off,hA,hg,by simpa using hc 0 _ rfl,by simpa using hc 1 _ rfl,by simpa using hc 2 _ rfl⟩
end Go.Proofs.YtffemfglngikbaaGreat
namespace Go.Proofs.YtffemfglngikbaaGreat
open Go.RowKit Go.Shelf
theorem Blk.z3 {w:World} {g:Nat} {t:TypeId} (h:Blk w g t #[.int .i64 0,.string ⟨#[]⟩,.int .i64 0]):w.cell? ⟨g,0,none⟩=some (.int .i64 0)∧w.cell? ⟨g,1,none⟩=some (.string ⟨#[]⟩)∧w.cell? ⟨g,2,none⟩=some (.int .i64 0)∧w.frozen? ⟨g,0,none⟩=false∧w.frozen? ⟨g,1,none⟩=false∧w.frozen? ⟨g,2,none⟩=false∧g<w.heap.size:=
 ⟨(h.cell 0).trans rfl,(h.cell 1).trans rfl,(h.cell 2).trans rfl,h.frozen 0,h.frozen 1,h.frozen 2,h.lt⟩
theorem Blk.s3 {w:World} {g:Nat} {t:TypeId} {s:Sym} (h:Blk w g t #[.int .i64 s.kind,.string s.text,.int .i64 s.n]):w.cell? ⟨g,0,none⟩=some (.int .i64 s.kind)∧w.cell? ⟨g,1,none⟩=some (.string s.text)∧w.cell? ⟨g,2,none⟩=some (.int .i64 s.n)∧w.frozen? ⟨g,0,none⟩=false∧w.frozen? ⟨g,1,none⟩=false∧w.frozen? ⟨g,2,none⟩=false∧g<w.heap.size:=
 ⟨(h.cell 0).trans rfl,(h.cell 1).trans rfl,(h.cell 2).trans rfl,h.frozen 0,h.frozen 1,h.frozen 2,h.lt⟩
end Go.Proofs.YtffemfglngikbaaGreat
namespace Go.Proofs.YtffemfglngikbaaGreat
def encStr (v:ByteArray):Array Value:=#[.string v]
end Go.Proofs.YtffemfglngikbaaGreat
namespace Go.Proofs.YtffemfglngikbaaGreat
def oneN (s:ByteArray):List ByteArray:=if s.toList = [] then [] else [s]
theorem oneN_no {s:ByteArray} (h:s.toList = []):oneN s = []:=by rw [oneN,if_pos h]
theorem oneN_yes {s:ByteArray} (h : ¬s.toList = []):oneN s = [s]:=by rw [oneN,if_neg h]
def varsT (l:List TestT):List ByteArray:=l.flatMap fun t=>oneN t.var
def namesN:Nat→CondT→List ByteArray
 | 0,_=>[]
 | n+1,c=>oneN c.id++(varsT c.attr++(varsT c.value++c.conds.flatMap (namesN n)))
theorem oneN_len (s:ByteArray):(oneN s).length≤1:=by unfold oneN;split<;>simp
theorem varsT_len (l:List TestT):(varsT l).length≤l.length:=by
 unfold varsT
 induction l with
 | nil=>simp
 | cons t l ih=>have:=oneN_len t.var;rw [List.flatMap_cons,List.length_append,List.length_cons];omega
theorem varsT_drop {l:List TestT} {i:Nat} (h:i<l.length):varsT (l.drop i)=oneN l[i].var++varsT (l.drop (i+1)):=by
 unfold varsT
 rw [List.drop_eq_getElem_cons h,List.flatMap_cons]
end Go.Proofs.YtffemfglngikbaaGreat
namespace Go.Proofs.YtffemfglngikbaaGreat
def fives (a:ActT):List ByteArray:=[a.id,a.attr.var,a.value.a.var,a.value.b.var,a.other.var]
def varsA (a:ActT):List ByteArray:=(fives a).flatMap oneN
def varsP (n:Nat) (p:ProdT):List ByteArray:=p.conds.flatMap (namesN n)++p.acts.flatMap varsA
end Go.Proofs.YtffemfglngikbaaGreat
