/-
  Texts put together: Types, NamesP, VarsP, Own, RangeP, RangeO, Store, RangeO2, OwnC, BkInfo, BkCopy1, BkTests, BkCopyP, CanonP, Sets, LeafPgW, FindPgW, OpsPgW.
-/
import Derived.Test.YtffemfglngikbaaOa
import Derived.Deep.MidRow
import Derived.Deep.Cut
import Derived.Maps.RangeWalk
namespace Go.Proofs.Ytffemfglngikbaa
open Go.RowKit Go.ChangeShapes Go.WideShapes Go.Deep
def repStr:RepT ByteArray:=RepT.flat 1 (fun s:ByteArray=>[Value.string s]) (fun _=>rfl)
def repSym:RepT Sym:=RepT.flat 3 Sym.cells Sym.cells_length
theorem opens_Sym:Opens Try.prog 52 repSym:=opens_of_reads Sym.cells_length reads_Sym
theorem at_Sym {D:Nat→Prop} {w:World} {A:Option Addr} {c k:Nat} {l:List Sym} (h:RowR repSym D w A c l) (hk:k<l.length) : ∃g off,A=some ⟨g,off,none⟩∧D g∧g<w.heap.size∧w.cell? ⟨g,off+k*3,none⟩=some (.int .i64 l[k].kind)∧w.cell? ⟨g,off+k*3+1,none⟩=some (.string l[k].text)∧w.cell? ⟨g,off+k*3+2,none⟩=some (.int .i64 l[k].n):=by
 obtain ⟨g,off,cs,hA,hD,hg,hr,hc⟩:=h.at_ hk
 have hr2:cs=Sym.cells l[k]:=hr
 subst hr2
 refine ⟨g,off,hA,hD,hg,by simpa [repSym,RepT.flat] using hc 0 _ rfl,by simpa [repSym,RepT.flat] using hc 1 _ rfl,by simpa [repSym,RepT.flat] using hc 2 _ rfl⟩
structure TestT where
 rel:Int
 var:ByteArray
 sym:Sym
 list:List Sym
def repTestT:RepT TestT:=
 { size:=6,rep:=fun D w x cs=>∃A1 c1,cs = [.int .i64 x.rel,.string x.var,.int .i64 x.sym.kind,.string x.sym.text,.int .i64 x.sym.n,.slice A1 x.list.length c1]∧RowR repSym D w A1 c1 x.list,
   len:=by rintro _ _ _ _ ⟨_,_,rfl,_⟩;rfl,
   keep:=by
    rintro _ _ _ _ _ _ hs hk ⟨A1,c1,h0,h1⟩
    exact ⟨A1,c1,h0,h1.keep hs hk⟩ }
theorem at_TestT {D:Nat→Prop} {w:World} {A:Option Addr} {c k:Nat} {l:List TestT} (h:RowR repTestT D w A c l) (hk:k<l.length) : ∃g off A1 c1,A=some ⟨g,off,none⟩∧D g∧g<w.heap.size∧w.cell? ⟨g,off+k*6,none⟩=some (.int .i64 l[k].rel)∧w.cell? ⟨g,off+k*6+1,none⟩=some (.string l[k].var)∧w.cell? ⟨g,off+k*6+2,none⟩=some (.int .i64 l[k].sym.kind)∧w.cell? ⟨g,off+k*6+3,none⟩=some (.string l[k].sym.text)∧w.cell? ⟨g,off+k*6+4,none⟩=some (.int .i64 l[k].sym.n)∧w.cell? ⟨g,off+k*6+5,none⟩=some (.slice A1 l[k].list.length c1)∧RowR repSym D w A1 c1 l[k].list:=by
 obtain ⟨g,off,cs,hA,hD,hg,⟨A1,c1,rfl,hrs⟩,hc⟩:=h.at_ hk
 exact ⟨g,off,A1,c1,hA,hD,hg,by simpa [repTestT] using hc 0 _ rfl,by simpa [repTestT] using hc 1 _ rfl,by simpa [repTestT] using hc 2 _ rfl,by simpa [repTestT] using hc 3 _ rfl,by simpa [repTestT] using hc 4 _ rfl,by simpa [repTestT] using hc 5 _ rfl,hrs⟩
theorem opens_TestT:Opens Try.prog 65 repTestT:=
 ⟨by kernel_rfl,fun H enc w base spare held n cs x h=>by
  have hl2:cs.length=6:=(trod_len Try.underlying65 h).trans (by kernel_rfl)
  obtain ⟨m0,y0,h0⟩:=trod_field Try.underlying65 h 0 rfl 3 0 1 rfl rfl (by kernel_rfl)
  obtain ⟨m1,y1,h1⟩:=trod_field Try.underlying65 h 1 rfl 9 1 1 rfl rfl (by kernel_rfl)
  obtain ⟨m2,y2,h2⟩:=trod_field Try.underlying65 h 2 rfl 52 2 3 rfl rfl (by kernel_rfl)
  obtain ⟨m3,y3,h3⟩:=trod_field Try.underlying65 h 3 rfl 63 5 1 rfl rfl (by kernel_rfl)
  match cs,hl2 with
  | [v0,v1,v2,v3,v4,v5],_=>
    simp at h0 h1 h2 h3
    obtain ⟨a0,e0,_⟩:=DataW.trod_int Try.underlying3 h0
    simp at e0
    obtain ⟨a1,e1,_⟩:=DataW.trod_string Try.underlying9 h1
    simp at e1
    obtain ⟨a2,e2⟩:=opens_Sym.2 H enc w base spare held _ _ _ h2
    have e2:_=Sym.cells a2:=e2
    simp [Sym.cells] at e2
    obtain ⟨a3,A3,c3,e3,r3⟩:=(opens_slice Try.underlying63 (by kernel_rfl) (by decide) opens_Sym).2 H enc w base spare held _ _ _ h3
    simp at e3
    subst e0
    subst e1
    obtain ⟨rfl,rfl,rfl⟩:=e2
    subst e3
    exact ⟨⟨a0,a1,a2,a3⟩,A3,c3,rfl,r3⟩⟩
inductive CondT where
 | mk (kind:Int) (goal:Bool) (id:ByteArray) (attr:List TestT) (value:List TestT) (acc:Bool) (conds:List CondT)
def CondT.kind:CondT→Int
 | .mk x _ _ _ _ _ _=>x
def CondT.goal:CondT→Bool
 | .mk _ x _ _ _ _ _=>x
def CondT.id:CondT→ByteArray
 | .mk _ _ x _ _ _ _=>x
def CondT.attr:CondT→List TestT
 | .mk _ _ _ x _ _ _=>x
def CondT.value:CondT→List TestT
 | .mk _ _ _ _ x _ _=>x
def CondT.acc:CondT→Bool
 | .mk _ _ _ _ _ x _=>x
def CondT.conds:CondT→List CondT
 | .mk _ _ _ _ _ _ x=>x
def repCondT:Nat→RepT CondT
 | 0=>{ size:=7,rep:=fun _ _ _ _=>False,len:=fun h=>h.elim,keep:=fun _ _ h=>h }
 | n+1=>
 { size:=7,rep:=fun D w x cs=>∃A1 c1 A2 c2 A3 c3,cs = [.int .i64 x.kind,.bool x.goal,.string x.id,.slice A1 x.attr.length c1,.slice A2 x.value.length c2,.bool x.acc,.slice A3 x.conds.length c3]∧RowR repTestT D w A1 c1 x.attr∧RowR repTestT D w A2 c2 x.value∧RowR (repCondT n) D w A3 c3 x.conds,
   len:=by rintro _ _ _ _ ⟨_,_,_,_,_,_,rfl,_⟩;rfl,
   keep:=by
    rintro _ _ _ _ _ _ hs hk ⟨A1,c1,A2,c2,A3,c3,h0,h1,h2,h3⟩
    exact ⟨A1,c1,A2,c2,A3,c3,h0,h1.keep hs hk,h2.keep hs hk,h3.keep hs hk⟩ }
theorem repCondT_size (n:Nat):(repCondT n).size=7:=by cases n<;>rfl
theorem at_CondT {n:Nat} {D:Nat→Prop} {w:World} {A:Option Addr} {c k:Nat} {l:List CondT} (h:RowR (repCondT (n+1)) D w A c l) (hk:k<l.length) : ∃g off A1 c1 A2 c2 A3 c3,A=some ⟨g,off,none⟩∧D g∧g<w.heap.size∧w.cell? ⟨g,off+k*7,none⟩=some (.int .i64 l[k].kind)∧w.cell? ⟨g,off+k*7+1,none⟩=some (.bool l[k].goal)∧w.cell? ⟨g,off+k*7+2,none⟩=some (.string l[k].id)∧w.cell? ⟨g,off+k*7+3,none⟩=some (.slice A1 l[k].attr.length c1)∧w.cell? ⟨g,off+k*7+4,none⟩=some (.slice A2 l[k].value.length c2)∧w.cell? ⟨g,off+k*7+5,none⟩=some (.bool l[k].acc)∧w.cell? ⟨g,off+k*7+6,none⟩=some (.slice A3 l[k].conds.length c3)∧RowR repTestT D w A1 c1 l[k].attr∧RowR repTestT D w A2 c2 l[k].value∧RowR (repCondT n) D w A3 c3 l[k].conds:=by
 obtain ⟨g,off,cs,hA,hD,hg,⟨A1,c1,A2,c2,A3,c3,rfl,hrs⟩,hc⟩:=h.at_ hk
 exact ⟨g,off,A1,c1,A2,c2,A3,c3,hA,hD,hg,by simpa [repCondT] using hc 0 _ rfl,by simpa [repCondT] using hc 1 _ rfl,by simpa [repCondT] using hc 2 _ rfl,by simpa [repCondT] using hc 3 _ rfl,by simpa [repCondT] using hc 4 _ rfl,by simpa [repCondT] using hc 5 _ rfl,by simpa [repCondT] using hc 6 _ rfl,hrs⟩
theorem repCondT_mono : ∀(n:Nat) {D:Nat→Prop} {w:World} {a:CondT} {cs:List Value},(repCondT n).rep D w a cs→(repCondT (n+1)).rep D w a cs
 | 0,_,_,_,_,h=>h.elim
 | n+1,_,_,_,_,h=>by
   obtain ⟨A1,c1,A2,c2,A3,c3,h0,h1,h2,h3⟩:=h
   exact ⟨A1,c1,A2,c2,A3,c3,h0,h1,h2,h3.imp (by rw [repCondT_size,repCondT_size]) (fun _ _ g=>repCondT_mono n g)⟩
theorem repCondT_le {m n:Nat} (h:m≤n) {D:Nat→Prop} {w:World} {a:CondT} {cs:List Value} (g:(repCondT m).rep D w a cs):(repCondT n).rep D w a cs:=by
 induction n with
 | zero=>obtain rfl:m=0:=by omega
         exact g
 | succ n ih=>
   by_cases e:m=n+1
   · subst e;exact g
   · exact repCondT_mono n (ih (by omega))
theorem lenCondT {cs:List Value} (h:cs.length=7) : ∃v0 v1 v2 v3 v4 v5 v6,cs = [v0,v1,v2,v3,v4,v5,v6]:=by
 match cs,h with
 | [v0,v1,v2,v3,v4,v5,v6],_=>exact ⟨v0,v1,v2,v3,v4,v5,v6,rfl⟩
theorem openN_CondT {H:Type} (enc:TypeId×Value→H) (w:World) (base:Nat) (spare:Nat→Bool) (held:Bool) : ∀(fuel:Nat) (cs:List Value) (x:DataW H×List MemPlace),DataW.trod enc Try.prog w base spare held fuel 50 cs=some x→∃a:CondT,(repCondT fuel).rep (· < w.heap.size) w a cs:=by
 intro fuel
 induction fuel using Nat.strongRecOn with
 | _ fuel ih=>
   intro cs x h
   obtain ⟨n,rfl⟩ : ∃n,fuel=n+1:=⟨fuel - 1,by have:=trod_pos h;omega⟩
   have hl2:cs.length=7:=(trod_len Try.underlying50 h).trans (by kernel_rfl)
   obtain ⟨y0,h0⟩:=trod_fieldN Try.underlying50 h 0 rfl 3 0 1 rfl rfl (by kernel_rfl)
   obtain ⟨y1,h1⟩:=trod_fieldN Try.underlying50 h 1 rfl 4 1 1 rfl rfl (by kernel_rfl)
   obtain ⟨y2,h2⟩:=trod_fieldN Try.underlying50 h 2 rfl 9 2 1 rfl rfl (by kernel_rfl)
   obtain ⟨y3,h3⟩:=trod_fieldN Try.underlying50 h 3 rfl 48 3 1 rfl rfl (by kernel_rfl)
   obtain ⟨y4,h4⟩:=trod_fieldN Try.underlying50 h 4 rfl 48 4 1 rfl rfl (by kernel_rfl)
   obtain ⟨y5,h5⟩:=trod_fieldN Try.underlying50 h 5 rfl 4 5 1 rfl rfl (by kernel_rfl)
   obtain ⟨y6,h6⟩:=trod_fieldN Try.underlying50 h 6 rfl 22 6 1 rfl rfl (by kernel_rfl)
   obtain ⟨v0,v1,v2,v3,v4,v5,v6,rfl⟩:=lenCondT hl2
   simp at h0 h1 h2 h3 h4 h5 h6
   obtain ⟨a0,e0,_⟩:=DataW.trod_int Try.underlying3 h0
   simp at e0
   obtain ⟨a1,e1,_⟩:=DataW.trod_bool Try.underlying4 h1
   simp at e1
   obtain ⟨a2,e2,_⟩:=DataW.trod_string Try.underlying9 h2
   simp at e2
   obtain ⟨A3,c3,a3,e3,r3⟩:=row_of_trod (r:=repTestT) Try.underlying48 (by decide) opens_TestT.1 (fun n cs x hx=>opens_TestT.2 H enc w base spare held n cs x hx) h3
   simp at e3
   obtain ⟨A4,c4,a4,e4,r4⟩:=row_of_trod (r:=repTestT) Try.underlying48 (by decide) opens_TestT.1 (fun n cs x hx=>opens_TestT.2 H enc w base spare held n cs x hx) h4
   simp at e4
   obtain ⟨a5,e5,_⟩:=DataW.trod_bool Try.underlying4 h5
   simp at e5
   obtain ⟨A6,c6,a6,e6,r6⟩:=row_of_trodN (r:=repCondT n) Try.underlying22 (by rw [repCondT_size];decide) (by rw [repCondT_size];kernel_rfl) (fun m hm cs x hx=>(ih m (by omega) cs x hx).imp fun _ g=>repCondT_le (by omega) g) h6
   simp at e6
   subst e0
   subst e1
   subst e2
   subst e3
   subst e4
   subst e5
   subst e6
   exact ⟨⟨a0,a1,a2,a3,a4,a5,a6⟩,A3,c3,A4,c4,A6,c6,rfl,r3,r4,r6⟩
structure AtomT where
 var:ByteArray
 sym:Sym
def AtomT.cells (x:AtomT):List Value:=[.string x.var,.int .i64 x.sym.kind,.string x.sym.text,.int .i64 x.sym.n]
theorem AtomT.cells_length (x:AtomT):x.cells.length=4:=rfl
def repAtomT:RepT AtomT:=RepT.flat 4 AtomT.cells AtomT.cells_length
theorem opens_AtomT:Opens Try.prog 54 repAtomT:=
 ⟨by kernel_rfl,fun H enc w base spare held n cs x h=>by
  have hl2:cs.length=4:=(trod_len Try.underlying54 h).trans (by kernel_rfl)
  obtain ⟨m0,y0,h0⟩:=trod_field Try.underlying54 h 0 rfl 9 0 1 rfl rfl (by kernel_rfl)
  obtain ⟨m1,y1,h1⟩:=trod_field Try.underlying54 h 1 rfl 52 1 3 rfl rfl (by kernel_rfl)
  match cs,hl2 with
  | [v0,v1,v2,v3],_=>
    simp at h0 h1
    obtain ⟨a0,e0,_⟩:=DataW.trod_string Try.underlying9 h0
    simp at e0
    obtain ⟨a1,e1⟩:=opens_Sym.2 H enc w base spare held _ _ _ h1
    have e1:_=Sym.cells a1:=e1
    simp [Sym.cells] at e1
    subst e0
    obtain ⟨rfl,rfl,rfl⟩:=e1
    exact ⟨⟨a0,a1⟩,rfl⟩⟩
structure TermT where
 op:Int
 a:AtomT
 b:AtomT
def TermT.cells (x:TermT):List Value:=[.int .i64 x.op,.string x.a.var,.int .i64 x.a.sym.kind,.string x.a.sym.text,.int .i64 x.a.sym.n,.string x.b.var,.int .i64 x.b.sym.kind,.string x.b.sym.text,.int .i64 x.b.sym.n]
theorem TermT.cells_length (x:TermT):x.cells.length=9:=rfl
def repTermT:RepT TermT:=RepT.flat 9 TermT.cells TermT.cells_length
theorem opens_TermT:Opens Try.prog 56 repTermT:=
 ⟨by kernel_rfl,fun H enc w base spare held n cs x h=>by
  have hl2:cs.length=9:=(trod_len Try.underlying56 h).trans (by kernel_rfl)
  obtain ⟨m0,y0,h0⟩:=trod_field Try.underlying56 h 0 rfl 3 0 1 rfl rfl (by kernel_rfl)
  obtain ⟨m1,y1,h1⟩:=trod_field Try.underlying56 h 1 rfl 54 1 4 rfl rfl (by kernel_rfl)
  obtain ⟨m2,y2,h2⟩:=trod_field Try.underlying56 h 2 rfl 54 5 4 rfl rfl (by kernel_rfl)
  match cs,hl2 with
  | [v0,v1,v2,v3,v4,v5,v6,v7,v8],_=>
    simp at h0 h1 h2
    obtain ⟨a0,e0,_⟩:=DataW.trod_int Try.underlying3 h0
    simp at e0
    obtain ⟨a1,e1⟩:=opens_AtomT.2 H enc w base spare held _ _ _ h1
    have e1:_=AtomT.cells a1:=e1
    simp [AtomT.cells] at e1
    obtain ⟨a2,e2⟩:=opens_AtomT.2 H enc w base spare held _ _ _ h2
    have e2:_=AtomT.cells a2:=e2
    simp [AtomT.cells] at e2
    subst e0
    obtain ⟨rfl,rfl,rfl,rfl⟩:=e1
    obtain ⟨rfl,rfl,rfl,rfl⟩:=e2
    exact ⟨⟨a0,a1,a2⟩,rfl⟩⟩
structure ActT where
 id:ByteArray
 attr:AtomT
 value:TermT
 pref:Int
 other:AtomT
def ActT.cells (x:ActT):List Value:=[.string x.id,.string x.attr.var,.int .i64 x.attr.sym.kind,.string x.attr.sym.text,.int .i64 x.attr.sym.n,.int .i64 x.value.op,.string x.value.a.var,.int .i64 x.value.a.sym.kind,.string x.value.a.sym.text,.int .i64 x.value.a.sym.n,.string x.value.b.var,.int .i64 x.value.b.sym.kind,.string x.value.b.sym.text,.int .i64 x.value.b.sym.n,.int .i64 x.pref,.string x.other.var,.int .i64 x.other.sym.kind,.string x.other.sym.text,.int .i64 x.other.sym.n]
theorem ActT.cells_length (x:ActT):x.cells.length=19:=rfl
def repActT:RepT ActT:=RepT.flat 19 ActT.cells ActT.cells_length
theorem at_ActT {D:Nat→Prop} {w:World} {A:Option Addr} {c k:Nat} {l:List ActT} (h:RowR repActT D w A c l) (hk:k<l.length) : ∃g off,A=some ⟨g,off,none⟩∧D g∧g<w.heap.size∧w.cell? ⟨g,off+k*19,none⟩=some (.string l[k].id)∧w.cell? ⟨g,off+k*19+1,none⟩=some (.string l[k].attr.var)∧w.cell? ⟨g,off+k*19+2,none⟩=some (.int .i64 l[k].attr.sym.kind)∧w.cell? ⟨g,off+k*19+3,none⟩=some (.string l[k].attr.sym.text)∧w.cell? ⟨g,off+k*19+4,none⟩=some (.int .i64 l[k].attr.sym.n)∧w.cell? ⟨g,off+k*19+5,none⟩=some (.int .i64 l[k].value.op)∧w.cell? ⟨g,off+k*19+6,none⟩=some (.string l[k].value.a.var)∧w.cell? ⟨g,off+k*19+7,none⟩=some (.int .i64 l[k].value.a.sym.kind)∧w.cell? ⟨g,off+k*19+8,none⟩=some (.string l[k].value.a.sym.text)∧w.cell? ⟨g,off+k*19+9,none⟩=some (.int .i64 l[k].value.a.sym.n)∧w.cell? ⟨g,off+k*19+10,none⟩=some (.string l[k].value.b.var)∧w.cell? ⟨g,off+k*19+11,none⟩=some (.int .i64 l[k].value.b.sym.kind)∧w.cell? ⟨g,off+k*19+12,none⟩=some (.string l[k].value.b.sym.text)∧w.cell? ⟨g,off+k*19+13,none⟩=some (.int .i64 l[k].value.b.sym.n)∧w.cell? ⟨g,off+k*19+14,none⟩=some (.int .i64 l[k].pref)∧w.cell? ⟨g,off+k*19+15,none⟩=some (.string l[k].other.var)∧w.cell? ⟨g,off+k*19+16,none⟩=some (.int .i64 l[k].other.sym.kind)∧w.cell? ⟨g,off+k*19+17,none⟩=some (.string l[k].other.sym.text)∧w.cell? ⟨g,off+k*19+18,none⟩=some (.int .i64 l[k].other.sym.n):=by
 obtain ⟨g,off,cs,hA,hD,hg,hr,hc⟩:=h.at_ hk
 have hr2:cs=ActT.cells l[k]:=hr
 subst hr2
 refine ⟨g,off,hA,hD,hg,by simpa [repActT,RepT.flat] using hc 0 _ rfl,by simpa [repActT,RepT.flat] using hc 1 _ rfl,by simpa [repActT,RepT.flat] using hc 2 _ rfl,by simpa [repActT,RepT.flat] using hc 3 _ rfl,by simpa [repActT,RepT.flat] using hc 4 _ rfl,by simpa [repActT,RepT.flat] using hc 5 _ rfl,by simpa [repActT,RepT.flat] using hc 6 _ rfl,by simpa [repActT,RepT.flat] using hc 7 _ rfl,by simpa [repActT,RepT.flat] using hc 8 _ rfl,by simpa [repActT,RepT.flat] using hc 9 _ rfl,by simpa [repActT,RepT.flat] using hc 10 _ rfl,by simpa [repActT,RepT.flat] using hc 11 _ rfl,by simpa [repActT,RepT.flat] using hc 12 _ rfl,by simpa [repActT,RepT.flat] using hc 13 _ rfl,by simpa [repActT,RepT.flat] using hc 14 _ rfl,by simpa [repActT,RepT.flat] using hc 15 _ rfl,by simpa [repActT,RepT.flat] using hc 16 _ rfl,by simpa [repActT,RepT.flat] using hc 17 _ rfl,by simpa [repActT,RepT.flat] using hc 18 _ rfl⟩
theorem opens_ActT:Opens Try.prog 58 repActT:=
 ⟨by kernel_rfl,fun H enc w base spare held n cs x h=>by
  have hl2:cs.length=19:=(trod_len Try.underlying58 h).trans (by kernel_rfl)
  obtain ⟨m0,y0,h0⟩:=trod_field Try.underlying58 h 0 rfl 9 0 1 rfl rfl (by kernel_rfl)
  obtain ⟨m1,y1,h1⟩:=trod_field Try.underlying58 h 1 rfl 54 1 4 rfl rfl (by kernel_rfl)
  obtain ⟨m2,y2,h2⟩:=trod_field Try.underlying58 h 2 rfl 56 5 9 rfl rfl (by kernel_rfl)
  obtain ⟨m3,y3,h3⟩:=trod_field Try.underlying58 h 3 rfl 3 14 1 rfl rfl (by kernel_rfl)
  obtain ⟨m4,y4,h4⟩:=trod_field Try.underlying58 h 4 rfl 54 15 4 rfl rfl (by kernel_rfl)
  match cs,hl2 with
  | [v0,v1,v2,v3,v4,v5,v6,v7,v8,v9,v10,v11,v12,v13,v14,v15,v16,v17,v18],_=>
    simp at h0 h1 h2 h3 h4
    obtain ⟨a0,e0,_⟩:=DataW.trod_string Try.underlying9 h0
    simp at e0
    obtain ⟨a1,e1⟩:=opens_AtomT.2 H enc w base spare held _ _ _ h1
    have e1:_=AtomT.cells a1:=e1
    simp [AtomT.cells] at e1
    obtain ⟨a2,e2⟩:=opens_TermT.2 H enc w base spare held _ _ _ h2
    have e2:_=TermT.cells a2:=e2
    simp [TermT.cells] at e2
    obtain ⟨a3,e3,_⟩:=DataW.trod_int Try.underlying3 h3
    simp at e3
    obtain ⟨a4,e4⟩:=opens_AtomT.2 H enc w base spare held _ _ _ h4
    have e4:_=AtomT.cells a4:=e4
    simp [AtomT.cells] at e4
    subst e0
    obtain ⟨rfl,rfl,rfl,rfl⟩:=e1
    obtain ⟨rfl,rfl,rfl,rfl,rfl,rfl,rfl,rfl,rfl⟩:=e2
    subst e3
    obtain ⟨rfl,rfl,rfl,rfl⟩:=e4
    exact ⟨⟨a0,a1,a2,a3,a4⟩,rfl⟩⟩
structure ProdT where
 name:ByteArray
 conds:List CondT
 acts:List ActT
def repProdT (n:Nat):RepT ProdT:=
 { size:=3,rep:=fun D w x cs=>∃A1 c1 A2 c2,cs = [.string x.name,.slice A1 x.conds.length c1,.slice A2 x.acts.length c2]∧RowR (repCondT n) D w A1 c1 x.conds∧RowR repActT D w A2 c2 x.acts,
   len:=by rintro _ _ _ _ ⟨_,_,_,_,rfl,_⟩;rfl,
   keep:=by
    rintro _ _ _ _ _ _ hs hk ⟨A1,c1,A2,c2,h0,h1,h2⟩
    exact ⟨A1,c1,A2,c2,h0,h1.keep hs hk,h2.keep hs hk⟩ }
theorem lenProdT {cs:List Value} (h:cs.length=3) : ∃v0 v1 v2,cs = [v0,v1,v2]:=by
 match cs,h with
 | [v0,v1,v2],_=>exact ⟨v0,v1,v2,rfl⟩
theorem openN_ProdT {H:Type} (enc:TypeId×Value→H) (w:World) (base:Nat) (spare:Nat→Bool) (held:Bool) : ∀(fuel:Nat) (cs:List Value) (x:DataW H×List MemPlace),DataW.trod enc Try.prog w base spare held fuel 25 cs=some x→∃a:ProdT,(repProdT fuel).rep (· < w.heap.size) w a cs:=by
 intro fuel
 induction fuel using Nat.strongRecOn with
 | _ fuel ih=>
   intro cs x h
   obtain ⟨n,rfl⟩ : ∃n,fuel=n+1:=⟨fuel - 1,by have:=trod_pos h;omega⟩
   have hl2:cs.length=3:=(trod_len Try.underlying25 h).trans (by kernel_rfl)
   obtain ⟨y0,h0⟩:=trod_fieldN Try.underlying25 h 0 rfl 9 0 1 rfl rfl (by kernel_rfl)
   obtain ⟨y1,h1⟩:=trod_fieldN Try.underlying25 h 1 rfl 22 1 1 rfl rfl (by kernel_rfl)
   obtain ⟨y2,h2⟩:=trod_fieldN Try.underlying25 h 2 rfl 23 2 1 rfl rfl (by kernel_rfl)
   obtain ⟨v0,v1,v2,rfl⟩:=lenProdT hl2
   simp at h0 h1 h2
   obtain ⟨a0,e0,_⟩:=DataW.trod_string Try.underlying9 h0
   simp at e0
   obtain ⟨A1,c1,a1,e1,r1⟩:=row_of_trodN (r:=repCondT (n+1)) Try.underlying22 (by rw [repCondT_size];decide) (by rw [repCondT_size];kernel_rfl) (fun m hm cs x hx=>(openN_CondT enc w base spare held m cs x hx).imp fun _ g=>repCondT_le (by omega) g) h1
   simp at e1
   obtain ⟨A2,c2,a2,e2,r2⟩:=row_of_trod (r:=repActT) Try.underlying23 (by decide) opens_ActT.1 (fun n cs x hx=>opens_ActT.2 H enc w base spare held n cs x hx) h2
   simp at e2
   subst e0
   subst e1
   subst e2
   exact ⟨⟨a0,a1,a2⟩,A1,c1,A2,c2,rfl,r1,r2⟩
end Go.Proofs.Ytffemfglngikbaa
namespace Go.Proofs.Ytffemfglngikbaa
def oneN (s:ByteArray):List ByteArray:=if s.toList = [] then [] else [s]
theorem oneN_no {s:ByteArray} (h:s.toList = []):oneN s = []:=by rw [oneN,if_pos h]
theorem oneN_yes {s:ByteArray} (h : ¬s.toList = []):oneN s = [s]:=by rw [oneN,if_neg h]
def varsT (l:List TestT):List ByteArray:=l.flatMap fun t=>oneN t.var
def namesN:Nat→CondT→List ByteArray
 | 0,_=>[]
 | n+1,c=>oneN c.id++(varsT c.attr++(varsT c.value++c.conds.flatMap (namesN n)))
theorem oneN_len (s:ByteArray):(oneN s).length≤1:=by unfold oneN;split<;>simp
theorem varsT_len (l:List TestT):(varsT l).length≤l.length:=by
 unfold varsT
 induction l with
 | nil=>simp
 | cons t l ih=>have:=oneN_len t.var;rw [List.flatMap_cons,List.length_append,List.length_cons];omega
theorem varsT_drop {l:List TestT} {i:Nat} (h:i<l.length):varsT (l.drop i)=oneN l[i].var++varsT (l.drop (i+1)):=by
 unfold varsT
 rw [List.drop_eq_getElem_cons h,List.flatMap_cons]
def encStr (v:ByteArray):Array Value:=#[.string v]
end Go.Proofs.Ytffemfglngikbaa
namespace Go.Proofs.Ytffemfglngikbaa
def fives (a:ActT):List ByteArray:=[a.id,a.attr.var,a.value.a.var,a.value.b.var,a.other.var]
def varsA (a:ActT):List ByteArray:=(fives a).flatMap oneN
def varsP (n:Nat) (p:ProdT):List ByteArray:=p.conds.flatMap (namesN n)++p.acts.flatMap varsA
end Go.Proofs.Ytffemfglngikbaa
namespace Go.Proofs.Ytffemfglngikbaa
open Go.RowKit
inductive Each2 {α β:Type} (R:α→β→Prop):List α→List β→Prop
 | nil:Each2 R [] []
 | cons {a:α} {b:β} {l:List α} {m:List β}:R a b→Each2 R l m→Each2 R (a :: l) (b :: m)
section
variable {α β:Type} {R R':α→β→Prop}
theorem Each2.length : ∀{l:List α} {m:List β},Each2 R l m→l.length=m.length
 | _,_,.nil=>rfl
 | _,_,.cons _ h=>by simp [h.length]
theorem Each2.imp (hr : ∀a b,R a b→R' a b) : ∀{l:List α} {m:List β},Each2 R l m→Each2 R' l m
 | _,_,.nil=>.nil
 | _,_,.cons h t=>.cons (hr _ _ h) (t.imp hr)
theorem Each2.snoc {a:α} {b:β} (hr:R a b) : ∀{l:List α} {m:List β},Each2 R l m→Each2 R (l ++ [a]) (m ++ [b])
 | _,_,.nil=>.cons hr .nil
 | _,_,.cons h t=>.cons h (t.snoc hr)
theorem Each2.append : ∀{l l':List α} {m m':List β},Each2 R l m→Each2 R l' m'→Each2 R (l++l') (m++m')
 | _,_,_,_,.nil,h=>h
 | _,_,_,_,.cons h t,k=>.cons h (t.append k)
theorem Each2.get : ∀{l:List α} {m:List β},Each2 R l m→∀k,(h:k<l.length)→∃h':k<m.length,R l[k] m[k]
 | _,_,.nil,_,h=>absurd h (by simp)
 | _,_,.cons h _,0,_=>⟨by simp,h⟩
 | _,_,.cons _ t,k+1,h=>by
   obtain ⟨h1,h2⟩:=t.get k (by simpa using h)
   exact ⟨by simpa using h1,by simpa using h2⟩
end
theorem flatten_get {size:Nat} : ∀(css:List (List Value)),(∀cs∈css,cs.length=size)→∀k,(h:k<css.length)→∀j,j<size→css.flatten[k*size+j]? = css[k][j]?
 | [],_,_,h,_,_=>absurd h (by simp)
 | c :: css,hs,0,_,j,hj=>by
   rw [List.flatten_cons,List.getElem?_append_left (by rw [hs c (by simp)];omega)];simp
 | c :: css,hs,k+1,h,j,hj=>by
   have hc:=hs c (by simp)
   rw [List.flatten_cons,List.getElem?_append_right (by rw [hc,Nat.add_mul];omega),hc]
   rw [show (k+1)*size+j - size=k*size+j by rw [Nat.add_mul];omega]
   exact flatten_get css (fun cs h=>hs cs (by simp [h])) k (by simpa using h) j hj
theorem sum_const {α:Type} (n:Nat) : ∀l:List α,(l.map fun _=>n).sum=l.length*n
 | []=>by simp
 | _ :: l=>by simp only [List.map_cons,List.sum_cons,List.length_cons,sum_const n l,Nat.add_mul];omega
def Aside (w:World) (v:Value):Nat→Prop:=fun j=>j<w.heap.size∧v.ownBlock≠some j
def OwnR {α:Type} (r:RepT α) (e:TypeId) (base:Nat) (w:World) (v:Value) (l:List α):Prop:=
 ∃css,w.ownsRow base e r.size v l.length css.flatten∧Each2 (fun a cs=>r.rep (Aside w v) w a cs) l css
section
variable {α:Type} {r:RepT α} {e:TypeId} {base:Nat} {w w':World} {v:Value} {l:List α}
theorem OwnR.nil (r:RepT α) (e:TypeId) (base:Nat) (w:World):OwnR r e base w (.slice none 0 0) []:=⟨[],⟨by simp,.inl ⟨rfl,rfl⟩⟩,.nil⟩
theorem OwnR.form (h:OwnR r e base w v l) : ∃A c,v = .slice A l.length c∧l.length≤c∧c≤maxLen∧AIn A (fun j=>base≤j∧j<w.heap.size):=by
 obtain ⟨css,hown,_⟩:=h
 rcases hown.2 with ⟨rfl,hn⟩ | ⟨g,cap,cur,rfl,h0,hg,hn,hc,_⟩
 · exact ⟨none,0,by rw [hn],by omega,Nat.zero_le _,AIn.none_ _⟩
 · exact ⟨_,cap,rfl,hn,hc,fun a ha=>by cases ha;exact ⟨h0,Blk.lt (t:=e) hg⟩⟩
theorem OwnR.block (h:OwnR r e base w v l) : ∀k,v.ownBlock=some k→base≤k∧k<w.heap.size:=by
 obtain ⟨A,c,rfl,_,_,hA⟩:=h.form
 intro k hk
 rcases A with _ | a
 · cases hk
 · simp only [Value.ownBlock,Option.some.injEq] at hk
   subst hk
   exact hA a rfl
theorem OwnR.keep (h:OwnR r e base w v l) (hs:w.heap.size≤w'.heap.size) (hk : ∀k,k<w.heap.size→w'.heap[k]? = w.heap[k]?):OwnR r e base w' v l:=by
 obtain ⟨css,hown,he⟩:=h
 refine ⟨css,⟨hown.1,hown.2.imp id fun ⟨g,cap,cur,hv,h0,hg,hr⟩=>⟨g,cap,cur,hv,h0,(hk g (Blk.lt (t:=e) hg)).trans hg,hr⟩⟩,he.imp fun a cs hr=>r.keep hs (fun k hd hl=>⟨⟨by omega,hd.2⟩,hk k hl⟩) hr⟩
theorem OwnR.new_ (h:OwnR r e base w v l) (hb:Below w.heap.size w w'):OwnR r e base w' v l:=h.keep hb.size hb.block
theorem OwnR.fr {M:Nat→Prop} (h:OwnR r e base w v l) (hF:Fr M w w') (hM : ∀k,¬M k):OwnR r e base w' v l:=h.keep hF.size (fun k hk=>hF.block k hk (hM k))
theorem OwnR.row {A:Option Addr} {n c:Nat} (h:OwnR r e base w (.slice A n c) l):RowR r (· < w.heap.size) w A c l:=by
 obtain ⟨A',c',hv,h1,h2,_⟩:=h.form
 injection hv with hA hn hc
 subst hA;subst hc
 obtain ⟨css,hown,he⟩:=h
 refine ⟨h1,h2,fun h0=>?_⟩
 have hsz : ∀cs∈css,cs.length=r.size:=fun cs hcs=>by
  obtain ⟨k,hk,rfl⟩:=List.getElem_of_mem hcs
  obtain ⟨_,h3⟩:=he.get k (by rw [he.length];exact hk)
  exact r.len h3
 rcases hown.2 with ⟨hv,hn0⟩ | ⟨g,cap,cur,hv,_,hg,hn2,hc2,hs2,ht⟩
 · omega
 · injection hv with hA _ hc
   subst hA
   have hgl:g<w.heap.size:=Blk.lt (t:=e) hg
   refine ⟨g,0,rfl,hgl,hgl,fun k hk=>?_⟩
   obtain ⟨hk2,hrep⟩:=he.get k hk
   refine ⟨css[k],r.keep (Nat.le_refl _) (fun j hj _=>⟨hj.1,rfl⟩) hrep,fun j u hu=>?_⟩
   have hj:j<r.size:=by rw [← r.len hrep];exact (List.getElem?_eq_some_iff.1 hu).1
   have hf:=flatten_get css hsz k hk2 j hj
   rw [hu,← ht] at hf
   rw [Nat.zero_add,Blk.cell (t:=e) hg]
   have hlt:k*r.size+j<l.length*r.size:=by
    have:(k+1)*r.size≤l.length*r.size:=Nat.mul_le_mul_right _ hk
    rw [Nat.add_mul] at this;omega
   rw [List.getElem?_take_of_lt hlt] at hf
   rw [← hf];simp
theorem OwnR.grown {v':Value} {l2:List α} {css2:List (List Value)} (h:OwnR r e base w v l) (hown:w'.ownsRow base e r.size v' (l++l2).length ((Classical.choose h).flatten++css2.flatten)) (hg:w.grownBy w' v.ownBlock)
 (hv:v'.ownBlock=v.ownBlock∨v'.ownBlock=some w.heap.size) (he2:Each2 (fun a cs=>r.rep (Aside w v) w a cs) l2 css2):OwnR r e base w' v' (l++l2):=by
 have hs:=Classical.choose_spec h
 have up : ∀a cs,r.rep (Aside w v) w a cs→r.rep (Aside w' v') w' a cs:=fun a cs hr=>r.keep hg.size (fun k hd hl=>⟨⟨Nat.lt_of_lt_of_le hd.1 hg.size,fun hk=>by
  rcases hv with hv | hv
  · exact hd.2 (hv ▸ hk)
  · rw [hv] at hk;injection hk with hk;omega⟩,hg.block k hl (fun hk=>hd.2 hk.symm)⟩) hr
 exact ⟨Classical.choose h++css2,by rw [List.flatten_append];exact hown,(hs.2.imp up).append (he2.imp up)⟩
end
section
variable {P:Program} (w:World)
theorem run_append_srcB (t ty e:TypeId) (i:TypeInfo) (z:Value) (size bytes:Nat) (ht:P.underlying t=some (.slice e)) (hi:P.info? e=some i) (hz:i.zero=some z)
 (hsize:i.size=size) (hby:i.bytes=bytes) (hzs:z.cells.size=size) (hsz:0<size)
 (base:Nat) (hbase:base≤w.heap.size) (v:Value) (n:Nat) (xs:List Value) (hown:w.ownsRow base e size v n xs) (A:Option Addr) (m c:Nat) (news:List Value) (hl:news.length=m*size)
 (hnews:0<m→∃ad,A=some ad∧∀j u,news[j]? = some u→w.cell? (ad.add j)=some u) (h1 : ∀u∈news,u.oneCell'=true)
 (h63:n+m≤maxLen) (hbytes:(n+m)*bytes≤140737488355328) :
 ∃v' w',(Builtin.append_ #[t,t] ty #[v,.slice A m c]).run P w = .ok v' w'∧w'.ownsRow base e size v' (n+m) (xs++news)∧w.grownBy w' v.ownBlock∧
  (v' = .slice none 0 0↔v = .slice none 0 0∧m=0)∧(v'.ownBlock=v.ownBlock∨v'.ownBlock=some w.heap.size):=by
 rcases Nat.eq_zero_or_pos m with rfl | hm
 · have hn:news = []:=List.eq_nil_of_length_eq_zero (by simpa using hl)
   subst hn
   rcases A with _ | ad
   · refine ⟨v,w,?_,by simpa using hown,World.grownBy.refl w _,by simp,.inl rfl⟩
     rcases hown.2 with ⟨rfl,rfl⟩ | ⟨g,cap,cur,rfl,_,_,hnc,_⟩
     · simp [Builtin.append_,run_underlying ht,sizeOf,typeInfo,hi,Builtin.lenOf,Builtin.firstCells]
     · simp [Builtin.append_,run_underlying ht,sizeOf,typeInfo,hi,Builtin.lenOf,Builtin.firstCells,hnc,storeCells]
   · exact run_append_own_at w base t ty e i z size bytes ht hi hz hsize hby hzs hsz v n xs hown ad 0 c [] (by simp) (by simp) (by simp) h63 hbytes hbase
 · obtain ⟨ad,rfl,hc⟩:=hnews hm
   exact run_append_own_at w base t ty e i z size bytes ht hi hz hsize hby hzs hsz v n xs hown ad m c news hl hc h1 h63 hbytes hbase
theorem wp_append_srcB {o:Oper} {a:Act} {K:Act→World→Prop} {Q:Exit→Act→World→Prop} (s x:Operand) (t:TypeId)
 (ho:o.op = .call { callee:=.builtin .append,args:=#[s,x],argTypes:=#[t,t] })
 (e:TypeId) (i:TypeInfo) (z:Value) (size bytes:Nat) (ht:P.underlying t=some (.slice e)) (hi:P.info? e=some i) (hz:i.zero=some z)
 (hsize:i.size=size) (hby:i.bytes=bytes) (hzs:z.cells.size=size) (hsz:0<size)
 (base:Nat) (hbase:base≤w.heap.size) (v:Value) (n:Nat) (xs:List Value) (hs:a.eval s=v) (hown:w.ownsRow base e size v n xs)
 (A:Option Addr) (m c:Nat) (news:List Value) (hx:a.eval x = .slice A m c) (hl:news.length=m*size)
 (hnews:0<m→∃ad,A=some ad∧∀j u,news[j]? = some u→w.cell? (ad.add j)=some u) (h1 : ∀u∈news,u.oneCell'=true)
 (h63:n+m≤maxLen) (hbytes:(n+m)*bytes≤140737488355328)
 (h : ∀v' w',w'.ownsRow base e size v' (n+m) (xs++news)→w.grownBy w' v.ownBlock→(v' = .slice none 0 0↔v = .slice none 0 0∧m=0)→(v'.ownBlock=v.ownBlock∨v'.ownBlock=some w.heap.size)→K (a.put o.dst v') w') :
 Oper.wp P o a w K Q:=by
 obtain ⟨v',w',hr,h2,h3,h4,h5⟩:=run_append_srcB (P:=P) w t o.type e i z size bytes ht hi hz hsize hby hzs hsz base hbase v n xs hown A m c news hl hnews h1 h63 hbytes
 unfold Oper.wp execOp
 simp only [ho,resolve,invoke,builtin,Sem.run_bind,Sem.run_pure,Result.andThen_ok,List.map_toArray,List.map_cons,List.map_nil,hs,hx,hr]
 exact h v' w' h2 h3 h4 h5
theorem step_append_srcB {ops:Array Oper} {o:Oper} {a:Act} {K:Act→World→Prop} {Q:Exit→Act→World→Prop} {E:Prop} (hgd:o.guard=none) (s x:Operand) (t:TypeId)
 (ho:o.op = .call { callee:=.builtin .append,args:=#[s,x],argTypes:=#[t,t] })
 (e:TypeId) (i:TypeInfo) (z:Value) (size bytes:Nat) (ht:P.underlying t=some (.slice e)) (hi:P.info? e=some i) (hz:i.zero=some z)
 (hsize:i.size=size) (hby:i.bytes=bytes) (hzs:z.cells.size=size) (hsz:0<size)
 (base:Nat) (hbase:base≤w.heap.size) (v:Value) (n:Nat) (xs:List Value) (hs:a.eval s=v) (hown:w.ownsRow base e size v n xs)
 (A:Option Addr) (m c:Nat) (news:List Value) (hx:a.eval x = .slice A m c) (hl:news.length=m*size)
 (hnews:0<m→∃ad,A=some ad∧∀j u,news[j]? = some u→w.cell? (ad.add j)=some u) (h1 : ∀u∈news,u.oneCell'=true)
 (h63:n+m≤maxLen) (hbytes:(n+m)*bytes≤140737488355328)
 (h : ∀v' w',w'.ownsRow base e size v' (n+m) (xs++news)→w.grownBy w' v.ownBlock→(v' = .slice none 0 0↔v = .slice none 0 0∧m=0)→(v'.ownBlock=v.ownBlock∨v'.ownBlock=some w.heap.size)→K (a.put o.dst v') w') :
 if Region.wanted o (yielded ops a.tmps)=true then Oper.wp P o a w K Q else E:=by
 rw [if_pos (by simp [Region.wanted,hgd])]
 exact wp_append_srcB w s x t ho e i z size bytes ht hi hz hsize hby hzs hsz base hbase v n xs hs hown A m c news hx hl hnews h1 h63 hbytes h
theorem wpList_append_srcB {ops:Array Oper} {rest:List Oper} {o:Oper} {a:Act} {Q:Exit→Act→World→Prop} (hgd:o.guard=none) (s x:Operand) (t:TypeId)
 (ho:o.op = .call { callee:=.builtin .append,args:=#[s,x],argTypes:=#[t,t] })
 (e:TypeId) (i:TypeInfo) (z:Value) (size bytes:Nat) (ht:P.underlying t=some (.slice e)) (hi:P.info? e=some i) (hz:i.zero=some z)
 (hsize:i.size=size) (hby:i.bytes=bytes) (hzs:z.cells.size=size) (hsz:0<size)
 (base:Nat) (hbase:base≤w.heap.size) (v:Value) (n:Nat) (xs:List Value) (hs:a.eval s=v) (hown:w.ownsRow base e size v n xs)
 (A:Option Addr) (m c:Nat) (news:List Value) (hx:a.eval x = .slice A m c) (hl:news.length=m*size)
 (hnews:0<m→∃ad,A=some ad∧∀j u,news[j]? = some u→w.cell? (ad.add j)=some u) (h1 : ∀u∈news,u.oneCell'=true)
 (h63:n+m≤maxLen) (hbytes:(n+m)*bytes≤140737488355328)
 (h : ∀v' w',w'.ownsRow base e size v' (n+m) (xs++news)→w.grownBy w' v.ownBlock→(v' = .slice none 0 0↔v = .slice none 0 0∧m=0)→(v'.ownBlock=v.ownBlock∨v'.ownBlock=some w.heap.size)→wpList P ops Q rest (a.put o.dst v') w') :
 wpList P ops Q (o :: rest) a w:=
 wpList_plain hgd fun _ hK=>wp_append_srcB w s x t ho e i z size bytes ht hi hz hsize hby hzs hsz base hbase v n xs hs hown A m c news hx hl hnews h1 h63 hbytes (fun v' w' a b c d=>hK _ _ (h v' w' a b c d))
end
section
variable {P:Program} {α:Type} {r:RepT α} (w:World)
end
end Go.Proofs.Ytffemfglngikbaa
namespace Go.Proofs.Ytffemfglngikbaa
open Go.RowKit
variable {P:Program}
structure Kept (B:Nat) (F X Y:World):Prop where
 from_:KeepsFrom B X Y
 own : ∀k,B≤k→k<F.heap.size→Y.heap[k]? = X.heap[k]?
section
variable {B C:Nat} {F X Y Z:World}
theorem Kept.refl (B:Nat) (F X:World):Kept B F X X:=⟨⟨Nat.le_refl _,fun _ _ _ h _=>h⟩,fun _ _ _=>rfl⟩
theorem Kept.trans (h:Kept B F X Y) (k:Kept B F Y Z):Kept B F X Z:=⟨h.1.trans k.1,fun i h1 h2=>(k.2 i h1 h2).trans (h.2 i h1 h2)⟩
theorem Kept.up (h:Kept B F X Y) (hB:B≤C):Kept C F X Y:=⟨KeepsFrom.up h.1 hB,fun i h1 h2=>h.2 i (by omega) h2⟩
theorem Kept.new_ (h:Below X.heap.size X Y) (hs:F.heap.size≤X.heap.size):Kept B F X Y:=
 ⟨⟨h.size,fun k o _ hk _=>(h.block k (Array.getElem?_eq_some_iff.1 hk).1).trans hk⟩,fun k _ hk=>h.block k (by omega)⟩
end
def IterP {α:Type} (P:Program) (gf:Nat) (lb:Array Value) (encs:α→Array Value) (xs:List α) (W:World) (start Kp:World→World→Prop):Prop:=
 ∀(l:Nat) (J Jx:World→List α→World→Prop),(∀F p X Y,J F p X→Priv W.heap.size X Y→J F p Y)→(∀F p X Y,Jx F p X→Priv W.heap.size X Y→Jx F p Y)→
  (∀F,start W F→J F [] F)→
  (∀F pre x post W1,start W F→xs=pre++x :: post→J F pre W1→YieldAt Fence.wide 0 P l (encs x) W1 fun e W'=>
    (e = .returned (.bool true)∧J F (pre ++ [x]) W'∧Kp W1 W'∧Kept W.heap.size F W1 W')∨(e = .returned (.bool false)∧Jx F (pre ++ [x]) W'∧Kept W.heap.size F W1 W'))→
  CallsIn Fence.wide 0 P gf (#[.func (.yield l) #[] #[]]++lb) W fun e W'=>(∃v,e = .returned v)∧∃F,start W F∧(J F xs W'∨∃pre post,xs=pre++post∧Jx F pre W')
theorem Iter.p {α:Type} {gf:Nat} {lb:Array Value} {encs:α→Array Value} {xs:List α} {W:World} {start Kp:World→World→Prop} (h:Iter P gf lb encs xs W start (fun X Y=>Kp X Y∧KeepsFrom W.heap.size X Y)):IterP P gf lb encs xs W start Kp:=by
 intro l J Jx h1 h2 h3 h4
 refine (h l (fun p X=>∃F,start W F∧J F p X) (fun p X=>∃F,start W F∧Jx F p X) (fun p X Y ⟨F,a,b⟩ hp=>⟨F,a,h1 F p X Y b hp⟩) (fun p X Y ⟨F,a,b⟩ hp=>⟨F,a,h2 F p X Y b hp⟩) (fun F hF=>⟨F,hF,h3 F hF⟩) ?_).mono ?_
 · rintro pre x post W1 hx ⟨F,hF,hJ⟩
   obtain ⟨fn,tmps,assign,body,hy,hR⟩:=h4 F pre x post W1 hF hx hJ
   refine ⟨fn,tmps,assign,body,hy,hR.mono ?_⟩
   rintro e W' (⟨g1,g2,g3,g4⟩ | ⟨g1,g2,_⟩)
   · exact .inl ⟨g1,⟨F,hF,g2⟩,g3,g4.1⟩
   · exact .inr ⟨g1,F,hF,g2⟩
 · rintro e W' ⟨hv,(⟨F,hF,hJ⟩ | ⟨pre,post,hx,F,hF,hJ⟩)⟩
   · exact ⟨hv,F,hF,.inl hJ⟩
   · exact ⟨hv,F,hF,.inr ⟨pre,post,hx,hJ⟩⟩
end Go.Proofs.Ytffemfglngikbaa
namespace Go.Proofs.Ytffemfglngikbaa
open Go.RowKit
variable {P:Program}
def Plus (D:Nat→Prop) (X Y:World):Nat→Prop:=fun k=>D k∨(X.heap.size≤k∧k<Y.heap.size)
def FromB (B:Nat) (D:Nat→Prop):Nat→Prop:=fun k=>D k∧B≤k
theorem Plus.same {D:Nat→Prop} {X Y:World} (h:Y.heap.size=X.heap.size):Plus D X Y=D:=by
 funext k;apply propext;unfold Plus;constructor
 · rintro (h | h)
   · exact h
   · omega
 · exact .inl
def Steady {α:Type} (B:Nat) (J:(Nat→Prop)→List α→World→Prop):Prop:=∀D p X Y,J D p X→Fr (FromB B D) X Y→J (Plus D X Y) p Y
theorem Steady.same {α:Type} {B:Nat} {J:(Nat→Prop)→List α→World→Prop} (h:Steady B J) {D:Nat→Prop} {p:List α} {X Y:World} (hJ:J D p X) (hF:Fr (FromB B D) X Y) (hz:Y.heap.size=X.heap.size):J D p Y:=by
 have:=h D p X Y hJ hF
 rwa [Plus.same hz] at this
def RoundsO {α:Type} (P:Program) (l:Nat) (encs:α→Array Value) (xs:List α) (J Jx:(Nat→Prop)→List α→World→Prop):Prop:=
 ∀D pre x post W1,xs=pre++x :: post→J D pre W1→YieldAt Fence.wide 0 P l (encs x) W1 fun e W'=>
  (e = .returned (.bool true)∧J D (pre ++ [x]) W'∧Fr (fun k=>¬D k) W1 W')∨(e = .returned (.bool false)∧Jx D (pre ++ [x]) W'∧Fr (fun k=>¬D k) W1 W')
def ToldO {α:Type} (xs:List α) (J Jx:(Nat→Prop)→List α→World→Prop) (W':World):Prop:=∃D,J D xs W'∨∃pre post,xs=pre++post∧Jx D pre W'
def IterO {α:Type} (P:Program) (gf:Nat) (lb:Array Value) (encs:α→Array Value) (xs:List α) (W:World) (D:Nat→Prop):Prop:=
 ∀(l:Nat) (J Jx:(Nat→Prop)→List α→World→Prop),Steady W.heap.size J→Steady W.heap.size Jx→J D [] W→RoundsO P l encs xs J Jx→
  CallsIn Fence.wide 0 P gf (#[.func (.yield l) #[] #[]]++lb) W fun e W'=>(∃v,e = .returned v)∧ToldO xs J Jx W'
theorem Fr.putObj {M:Nat→Prop} {X Y:World} (h:Fr M X Y) {l:Nat} (hl:M l∨X.heap.size≤l) (o:Obj):Fr M X (Y.putObj l o):=
 ⟨h.os,h.tape,h.output,by simpa using h.size,fun k hk hn=>(World.putObj_heap_other (by
  rintro rfl
  rcases hl with hl | hl
  · exact hn hl
  · omega)).trans (h.block k hk hn)⟩
def rPostO {α:Type} (D:Nat→Prop) (I:(Nat→Prop)→List α→World→Prop) (Ix:Code→(Nat→Prop)→List α→World→Prop) (p:List α) (W:World):Exit→Act→World→Prop
 | .normal,_,W'=>Fr (fun k=>¬D k) W W'∧I D p W'
 | .ret,_,W'=>Fr (fun k=>¬D k) W W'∧Ix .ret D p W'
 | .exit id,_,W'=>Fr (fun k=>¬D k) W W'∧Ix (.exit id) D p W'
 | .goto t,_,W'=>Fr (fun k=>¬D k) W W'∧Ix (.goto t) D p W'
 | .panic _,_,_=>False
 | .outgrown,_,_=>False
theorem wpIn_rangeO {α:Type} {g:Operand} {ps:Array Tmp} {assign body:Code} {Q:Exit→Act→World→Prop} {a:Act} {w:World} {gf:Nat} {lb:Array Value}
 (hg:a.eval g = .func (.func gf) #[] lb) (eg : ∀args w,(callFunc gf args).run P w = .ok (.enter gf args) w)
 {encs:α→Array Value} {xs:List α} {D:Nat→Prop} (hD : ∀k,D k→k<w.heap.size) (hseq : ∀W,Below w.heap.size w W→IterO P gf lb encs xs W D)
 (hps : ∀x,(encs x).size=ps.size)
 (I:(Nat→Prop)→List α→World→Prop) (Ix:Code→(Nat→Prop)→List α→World→Prop) (hI:Steady w.heap.size I) (hIx : ∀c,Steady w.heap.size (Ix c))
 (h0:I D [] w)
 (hround : ∀(D:Nat→Prop) (l:Nat) (pre:List α) (x:α) (post:List α) (W:World),xs=pre++x :: post→w.heap.size≤l→D l→I D pre W→
   assign.wpIn (Fence.wide.inRound l) 0 P (Exit.then (fun a1 W1=>Fr (fun k=>¬D k) W W1∧∀W2,Fr (· = l) W1 W2→W2.heap.size=W1.heap.size→(∃r,W2.heap[l]? = some (.loop r))→
    body.wpIn (Fence.wide.inRound l) 0 P (rPostO D I Ix (pre ++ [x]) W2) a1 W2) (fun _ _ _=>False))
    { tmps:=(ps.zip (encs x)).foldl (fun t (p,v)=>t.setIfInBounds p v) a.tmps,defers:=[] } W)
 (hdone : ∀(D:Nat→Prop) (d:Nat) (W:World),w.heap.size≤d→D d→I D xs W→W.heap[d]? = some (.deferred (some []))→Q .normal { a with defers:={ target:=.collected d,args:=#[] } :: a.defers } W)
 (hstop : ∀(D:Nat→Prop) (d:Nat) (c:Code) (pre post:List α) (W:World),w.heap.size≤d→D d→xs=pre++post→Ix c D pre W→W.heap[d]? = some (.deferred (some []))→c.wpIn Fence.wide 0 P Q { a with defers:={ target:=.collected d,args:=#[] } :: a.defers } W) :
 (Code.rangeFunc g ps assign body).wpIn Fence.wide 0 P Q a w:=by
 refine wpIn_rangeFunc ?_
 intro fn hfn
 obtain ⟨rec,hrec⟩ : ∃rec:LoopState→Option Code→Loop,rec=fun st pe=>{ state:=st,pending:=pe,fn,tmps:=a.tmps,params:=ps,assign,body,defers:=w.heap.size }:=⟨_,rfl⟩
 obtain ⟨W1,hW1⟩ : ∃W1,(w.alloc (.deferred (some []))).alloc (.loop (rec .ready none))=W1:=⟨_,rfl⟩
 have hL1:W1.heap[w.heap.size+1]? = some (.loop (rec .ready none)):=by
  rw [← hW1];have:=World.alloc_heap_new (w.alloc (.deferred (some []))) (.loop (rec .ready none));rwa [World.size_alloc] at this
 have hK1:W1.heap[w.heap.size]? = some (.deferred (some [])):=by
  rw [← hW1];exact (Below.heap_alloc _ _ _ (by simp)).trans (World.alloc_heap_new w _)
 have hb1:Below w.heap.size w W1:=by
  rw [← hW1];exact ((Below.refl _ w).alloc (Nat.le_refl _) _).alloc (by simp) _
 have hz1:W1.heap.size=w.heap.size+2:=by rw [← hW1];simp
 obtain ⟨U,hU⟩ : ∃U:(Nat→Prop)→Nat→Prop,U=fun D' k=>D' k∨(w.heap.size≤k∧k<w.heap.size+2):=⟨_,rfl⟩
 have u0 : ∀D',U D' w.heap.size:=fun D'=>by rw [hU];exact .inr ⟨by omega,by omega⟩
 have u1 : ∀D',U D' (w.heap.size+1):=fun D'=>by rw [hU];exact .inr ⟨by omega,by omega⟩
 have us : ∀D' k,D' k→U D' k:=fun D' k h=>by rw [hU];exact .inl h
 have up : ∀D' (X Y:World),Plus (U D') X Y=U (Plus D' X Y):=fun D' X Y=>by
  funext k;apply propext;rw [hU];unfold Plus;dsimp only;constructor
  · rintro ((h | h) | h)
    · exact .inl (.inl h)
    · exact .inr h
    · exact .inl (.inr h)
  · rintro ((h | h) | h)
    · exact .inl (.inl h)
    · exact .inr h
    · exact .inl (.inr h)
 have hstart:I (U D) [] W1:=by
  have h9:=hI D [] w W1 h0 (Fr.of_new hb1)
  have e:Plus D w W1=U D:=by funext k;rw [hU];unfold Plus;rw [hz1]
  rwa [e] at h9
 refine ⟨w.heap.size+1,[{ target:=.collected w.heap.size,args:=#[] }],W1,{ target:=.fn (.func gf) lb,args:=#[.func (.yield (w.heap.size+1)) #[] #[]] },W1,gf,
  #[.func (.yield (w.heap.size+1)) #[] #[]]++lb,W1,?_,?_,fun _ _=>trivial,?_,fun h=>by simp [Fence.wide] at h,?_⟩
 · rw [← hW1,hrec];exact run_enterLoop_outer _ _ _ _ _
 · simp only [resolve,hg]
   simp [go_sem]
 · simp [invoke,go_sem,eg]
 · refine (hseq W1 hb1 (w.heap.size+1)
    (fun D' pre W=>I (U D') pre W∧¬D' w.heap.size∧¬D' (w.heap.size+1)∧W.heap[w.heap.size+1]? = some (.loop (rec .ready none))∧W.heap[w.heap.size]? = some (.deferred (some [])))
    (fun D' pre W=>¬D' w.heap.size∧¬D' (w.heap.size+1)∧∃c,Ix c (U D') pre W∧W.heap[w.heap.size+1]? = some (.loop (rec .done (some c)))∧W.heap[w.heap.size]? = some (.deferred (some [])))
    (fun D' p X Y ⟨h1,h2,h3,h4,h5⟩ hF=>?_) (fun D' p X Y ⟨h2,h3,c,h1,h4,h5⟩ hF=>?_)
    ⟨hstart,fun h=>by have:=hD _ h;omega,fun h=>by have:=hD _ h;omega,hL1,hK1⟩ ?_).mono ?_
   · have z4:=(Array.getElem?_eq_some_iff.1 h4).1
     have z5:=(Array.getElem?_eq_some_iff.1 h5).1
     refine ⟨by rw [← up];exact hI _ _ _ _ h1 (hF.mono (fun k _ hk=>⟨us _ _ hk.1,by have:=hk.2;omega⟩)),?_,?_,(hF.block _ z4 (fun hk=>h3 hk.1)).trans h4,(hF.block _ z5 (fun hk=>h2 hk.1)).trans h5⟩
     · rintro (h | h)
       · exact h2 h
       · omega
     · rintro (h | h)
       · exact h3 h
       · omega
   · have z4:=(Array.getElem?_eq_some_iff.1 h4).1
     have z5:=(Array.getElem?_eq_some_iff.1 h5).1
     refine ⟨?_,?_,c,by rw [← up];exact hIx c _ _ _ _ h1 (hF.mono (fun k _ hk=>⟨us _ _ hk.1,by have:=hk.2;omega⟩)),(hF.block _ z4 (fun hk=>h3 hk.1)).trans h4,(hF.block _ z5 (fun hk=>h2 hk.1)).trans h5⟩
     · rintro (h | h)
       · exact h2 h
       · omega
     · rintro (h | h)
       · exact h3 h
       · omega
   · rintro D' pre x post W hx ⟨hi,nd,nl,hl,hk⟩
     have hy:=run_yield (P:=P) (args:=encs x) hl (by rw [hrec];exact hps x)
     rw [hrec] at hy
     refine ⟨fn,_,assign,body,hy,roundIn_of_wpIn hfn ?_⟩
     refine wpIn_mono (hround (U D') (w.heap.size+1) pre x post W hx (by omega) (u1 _) hi) ?_
     rintro e a1 Wa hp
     have lu : ∀{X Y:World},Fr (fun k=>¬U D' k) X Y→Fr (fun k=>¬D' k) X Y:=fun h=>h.mono (fun k _ hk hd=>hk (us _ _ hd))
     cases e with
     | normal=>
       obtain ⟨hfa,hbody⟩:=hp
       have zl:=(Array.getElem?_eq_some_iff.1 hl).1
       have zk:=(Array.getElem?_eq_some_iff.1 hk).1
       have hla:=(hfa.block _ zl (fun hn=>hn (u1 _))).trans hl
       have hkd:=(hfa.block _ zk (fun hn=>hn (u0 _))).trans hk
       have hlt:w.heap.size+1<Wa.heap.size:=(Array.getElem?_eq_some_iff.1 hla).1
       have hbr:=run_beginRound (P:=P) hla (by rw [hrec])
       refine ⟨_,hbr,?_⟩
       have hl2:(Wa.putObj (w.heap.size+1) (.loop { rec .ready none with state:=.busy })).heap[w.heap.size+1]? = some (.loop { rec .ready none with state:=.busy }):=World.putObj_heap_same hlt
       have hk2:(Wa.putObj (w.heap.size+1) (.loop { rec .ready none with state:=.busy })).heap[w.heap.size]? = some (.deferred (some [])):=(World.putObj_heap_other (by omega)).trans hkd
       have hfb:Fr (fun k=>¬D' k) W (Wa.putObj (w.heap.size+1) (.loop { rec .ready none with state:=.busy })):=(lu hfa).trans ((Fr.refl _ Wa).putObj (.inl nl) _)
       refine wpIn_mono (hbody _ ((Fr.refl (· = w.heap.size+1) Wa).putObj (.inl rfl) _) (by simp) ⟨_,hl2⟩) ?_
       have fin : ∀(jump:Option Code) (W3:World),Fr (fun k=>¬U D' k) (Wa.putObj (w.heap.size+1) (.loop { rec .ready none with state:=.busy })) W3→
        (Instr.endRound (w.heap.size+1) jump).run P W3 = .ok (.bool jump.isNone) (W3.putObj (w.heap.size+1) (.loop (rec (if jump.isNone then .ready else .done) jump)))∧
        Fr (FromB w.heap.size (U D')) W3 (W3.putObj (w.heap.size+1) (.loop (rec (if jump.isNone then .ready else .done) jump)))∧
        Fr (fun k=>¬D' k) W (W3.putObj (w.heap.size+1) (.loop (rec (if jump.isNone then .ready else .done) jump)))∧
        (W3.putObj (w.heap.size+1) (.loop (rec (if jump.isNone then .ready else .done) jump))).heap[w.heap.size+1]? = some (.loop (rec (if jump.isNone then .ready else .done) jump))∧
        (W3.putObj (w.heap.size+1) (.loop (rec (if jump.isNone then .ready else .done) jump))).heap[w.heap.size]? = some (.deferred (some [])):=fun jump W3 hk3=>by
        have hl3:=(hk3.block _ (by simpa using hlt) (fun hn=>hn (u1 _))).trans hl2
        have hd3:=(hk3.block _ (by have:=hlt;simp;omega) (fun hn=>hn (u0 _))).trans hk2
        have:=run_endRound (P:=P) jump hl3
        rw [hrec] at this ⊢
        exact ⟨this,(Fr.refl _ W3).putObj (.inl ⟨u1 _,by omega⟩) _,(hfb.trans (lu hk3)).trans ((Fr.refl _ W3).putObj (.inl nl) _),World.putObj_heap_same (Array.getElem?_eq_some_iff.1 hl3).1,(World.putObj_heap_other (by omega)).trans hd3⟩
       rintro e a3 W3 hp
       cases e with
       | normal=>
         obtain ⟨hk3,hi3⟩:=hp
         obtain ⟨hr,hst,hfr,hl4,hk4⟩:=fin none W3 hk3
         exact ⟨_,_,hr,.inl ⟨rfl,⟨hI.same hi3 hst (by simp),nd,nl,hl4,hk4⟩,hfr⟩⟩
       | ret=>
         obtain ⟨hk3,hi3⟩:=hp
         obtain ⟨hr,hst,hfr,hl4,hk4⟩:=fin (some .ret) W3 hk3
         exact ⟨_,_,hr,.inr ⟨rfl,⟨nd,nl,.ret,(hIx .ret).same hi3 hst (by simp),hl4,hk4⟩,hfr⟩⟩
       | exit id=>
         obtain ⟨hk3,hi3⟩:=hp
         obtain ⟨hr,hst,hfr,hl4,hk4⟩:=fin (some (.exit id)) W3 hk3
         exact ⟨_,_,hr,.inr ⟨rfl,⟨nd,nl,.exit id,(hIx (.exit id)).same hi3 hst (by simp),hl4,hk4⟩,hfr⟩⟩
       | goto t=>
         obtain ⟨hk3,hi3⟩:=hp
         obtain ⟨hr,hst,hfr,hl4,hk4⟩:=fin (some (.goto t)) W3 hk3
         exact ⟨_,_,hr,.inr ⟨rfl,⟨nd,nl,.goto t,(hIx (.goto t)).same hi3 hst (by simp),hl4,hk4⟩,hfr⟩⟩
       | panic ch=>exact hp.elim
       | outgrown=>exact hp.elim
     | exit id=>exact hp.elim
     | goto l=>exact hp.elim
     | ret=>exact hp.elim
     | panic ch=>exact hp.elim
     | outgrown=>exact hp.elim
   · have pst : ∀(D':Nat→Prop) (X:World) (o:Obj),Fr (FromB w.heap.size (U D')) X (X.putObj (w.heap.size+1) o):=fun D' X o=>(Fr.refl _ X).putObj (.inl ⟨u1 _,by omega⟩) _
     rintro e W2 ⟨⟨v,rfl⟩,D',(⟨hi,nd,nl,hl,hk⟩ | ⟨pre,post,hS,nd,nl,c,hi,hl,hk⟩)⟩
     · exact ⟨none,_,by have:=run_endLoop (P:=P) hl (by rw [hrec];simp);rw [hrec] at this;exact this,hdone (U D') _ _ (Nat.le_refl _) (u0 _) (hI.same hi (pst _ _ _) (by simp)) ((World.putObj_heap_other (by omega)).trans hk)⟩
     · exact ⟨some c,_,by have:=run_endLoop (P:=P) hl (by rw [hrec];simp);rw [hrec] at this;exact this,hstop (U D') _ c pre post _ (Nat.le_refl _) (u0 _) hS ((hIx c).same hi (pst _ _ _) (by simp)) ((World.putObj_heap_other (by omega)).trans hk)⟩
end Go.Proofs.Ytffemfglngikbaa
namespace Go.Proofs.Ytffemfglngikbaa
open Go.RowKit
theorem Fr.setCells {M:Nat→Prop} {a:World} {g:Nat} : ∀(vs:List Value) (o:Nat) {b:World},Fr M a b→(M g∨a.heap.size≤g)→Fr M a (b.setCells g o vs)
 | [],_,_,h,_=>h
 | v :: vs,o,_,h,hg=>Fr.setCells vs (o+1) (h.setCell (p:=⟨g,o,none⟩) hg v) hg
theorem step_store_el {P:Program} {ops:Array Oper} {o:Oper} {a:Act} {w:World} {K:Act→World→Prop} {Q:Exit→Act→World→Prop} {E:Prop} (hgd:o.guard=none) (ty:TypeId) (x y:Operand) (ho:o.op = .store ty x y)
 (b off:Nat) (cells:Array Value) (hx:a.eval x = .pointer (some ⟨b,off,none⟩)) (hy:a.eval y = .agg cells)
 (ht:w.there b off cells.size) (hi:(P.info? ty).map (·.size)=some cells.size) (h1:cells.all (·.oneCell')=true)
 (h:K (a.put o.dst undef) (w.setCells b off cells.toList)):if Region.wanted o (yielded ops a.tmps)=true then Oper.wp P o a w K Q else E:=by
 rw [if_pos (by simp [Region.wanted,hgd])]
 exact wp_store_mid ty x y ho b off cells hx hy ht hi h1 h
theorem Room.there {w:World} {g:Nat} {e:TypeId} {m:Nat} (h:Room w g e m) {o n:Nat} (hn:o+n≤m):w.there g o n:=fun j hj=>by
 obtain ⟨u,hu⟩:=h.cell (i:=o+j) (by omega)
 exact ⟨by rw [hu];rfl,h.frozen _⟩
theorem Blk.range {w:World} {g:Nat} {t:TypeId} {cs:Array Value} (h:Blk w g t cs):w.rangeAt g 0 cs.toList:=fun j v hv=>by
 rw [Nat.zero_add,h.cell];simpa using hv
theorem Blk.there {w:World} {g:Nat} {t:TypeId} {cs:Array Value} (h:Blk w g t cs):w.there g 0 cs.size:=fun j hj=>by
 rw [Nat.zero_add]
 exact ⟨by rw [h.cell,Array.getElem?_eq_getElem hj];rfl,h.frozen j⟩
theorem Below.setCells' {B:Nat} {a:World} {g:Nat} : ∀(vs:List Value) (o:Nat) {b:World},Below B a b→B≤g→Below B a (b.setCells g o vs)
 | [],_,_,h,_=>h
 | v :: vs,o,_,h,hg=>Below.setCells' vs (o+1) (h.setCell (show B≤(⟨g,o,none⟩:Addr).block from hg) v) hg
theorem results_cell {P:Program} {fn:Func} {t:Tmp} {T:TypeId} (h:fn.results = #[.cell t T]) (tmps:Array Value) (w:World) (g:Nat) (cs:List Value) (d:TypeDesc) (ht:tmps.getD t undef = .pointer (some ⟨g,0,none⟩)) (hc:w.rangeAt g 0 cs)
 (hu:P.underlying T=some d) (hd:d.isRow=true) (hi:(P.info? T).map (·.size)=some cs.length):(results fn tmps).run P w = .ok (.agg cs.toArray) w:=by
 have hl:=run_loadVar_mid (P:=P) w g 0 T cs d hc hu hd hi
 have ht':tmps[t]?.getD undef = .pointer (some ⟨g,0,none⟩):=by simpa using ht
 simp [results,h,ht',asAddr,hl]
theorem RowRd.range {α:Type} {w:World} {size c:Nat} {cells:α→List Value} {A:Option Addr} {l:List α} (h:RowRd w size cells A c l) {k:Nat} (hk:k<l.length) : ∃b off,A=some ⟨b,off,none⟩∧b<w.heap.size∧w.rangeAt b (off+k*size) (cells l[k]):=by
 obtain ⟨b,off,h1,h2,h3⟩:=h.at_ hk
 exact ⟨b,off,h1,h2,fun j v hv=>h3 j v hv⟩
end Go.Proofs.Ytffemfglngikbaa
namespace Go.Proofs.Ytffemfglngikbaa
open Go.RowKit
variable {P:Program} {α:Type}
def ItSt (J:(Nat→Prop)→List α→World→Prop) (D E:Nat→Prop) (W:World) (pre:List α) (X:World):Prop:=
 ∃D',(∀k,D k→D' k)∧(∀k,E k→D' k)∧J D' pre X∧Fr (fun j=>¬D j) W X∧(∀k,E k→W.heap.size≤k)
section
variable {J Jx:(Nat→Prop)→List α→World→Prop} {D E E':Nat→Prop} {W X Y:World} {pre xs:List α}
theorem ItSt.start (h:J D [] W):ItSt J D (fun _=>False) W [] W:=⟨D,fun _ h=>h,fun _ h=>h.elim,h,Fr.refl _ _,fun _ h=>h.elim⟩
theorem ItSt.fr (h:ItSt J D E W pre X):Fr (fun j=>¬D j) W X:=by
 obtain ⟨_,_,_,_,h,_⟩:=h
 exact h
theorem ItSt.step (h:ItSt J D E W pre X) (hJ:Steady W.heap.size J) (hF:Fr E X Y):ItSt J D (Plus E X Y) W pre Y:=by
 obtain ⟨D',h1,h2,h3,h4,h5⟩:=h
 refine ⟨Plus D' X Y,fun k hk=>.inl (h1 k hk),fun k hk=>hk.imp (h2 k) id,hJ _ _ _ _ h3 (hF.mono (fun k _ hk=>⟨h2 k hk,h5 k hk⟩)),h4.into hF (fun k hk=>.inr (h5 k hk)),fun k hk=>?_⟩
 rcases hk with hk | hk
 · exact h5 k hk
 · exact Nat.le_trans h4.size hk.1
theorem ItSt.new_ (h:ItSt J D E W pre X) (hJ:Steady W.heap.size J) (hb:Below X.heap.size X Y):ItSt J D (Plus E X Y) W pre Y:=h.step hJ (Fr.of_new hb)
theorem ItSt.round {l:Nat} {encs:α→Array Value} {x:α} {post:List α} (h:ItSt J D E W pre X) (hY:RoundsO P l encs xs J Jx) (hx:xs=pre++x :: post) :
 YieldAt Fence.wide 0 P l (encs x) X fun e W'=>(e = .returned (.bool true)∧ItSt J D E W (pre ++ [x]) W'∧Fr (fun k=>¬(D k∨E k)) X W')∨(e = .returned (.bool false)∧ToldO xs J Jx W'∧Fr (fun k=>¬(D k∨E k)) X W'):=by
 obtain ⟨D',h1,h2,h3,h4,h5⟩:=h
 obtain ⟨fn,tmps,assign,body,hy,hR⟩:=hY D' pre x post X hx h3
 refine ⟨fn,tmps,assign,body,hy,hR.mono ?_⟩
 rintro e W' (⟨g1,g2,g3⟩ | ⟨g1,g2,g3⟩)
 · exact .inl ⟨g1,⟨D',h1,h2,g2,h4.trans (g3.mono (fun k _ hk hd=>hk (h1 k hd))),h5⟩,g3.mono (fun k _ hk hd=>hk (hd.elim (h1 k) (h2 k)))⟩
 · exact .inr ⟨g1,⟨D',.inr ⟨pre ++ [x],post,by rw [hx];simp,g2⟩⟩,g3.mono (fun k _ hk hd=>hk (hd.elim (h1 k) (h2 k)))⟩
theorem ItSt.told (h:ItSt J D E W xs X):ToldO xs J Jx X:=by
 obtain ⟨D',_,_,h3,_,_⟩:=h
 exact ⟨D',.inl h3⟩
end
theorem wpListIn_load_mid {F:Fence} {n1:Nat} {w:World} {ops:Array Oper} {rest:List Oper} {o:Oper} {a:Go.Act} {Q:Exit→Go.Act→World→Prop} (hgd:o.guard=none) (ty:TypeId) (x:Operand) (ho:o.op = .load ty x)
 (b of:Nat) (hx:a.eval x = .pointer (some ⟨b,of,none⟩)) (cs:List Value) (d:TypeDesc) (hc:w.rangeAt b of cs)
 (hu:P.underlying ty=some d) (hd:d.isRow=true) (hi:(P.info? ty).map (·.size)=some cs.length)
 (h:wpListIn F n1 P ops Q rest (a.put o.dst (.agg cs.toArray)) w):wpListIn F n1 P ops Q (o :: rest) a w:=by
 refine wpListIn_plain hgd fun K hK'=>?_
 unfold Oper.wpIn
 refine ⟨?_,?_⟩
 · simp [Oper.about,ho]
 · rw [Oper.semAt_plain F _ _ (by rw [ho];intro c hc';cases hc')]
   unfold execOp
   simp only [ho,hx,Instr.loadAt,Instr.sureAddr,Sem.run_bind,Sem.run_pure,Result.andThen_ok,run_loadVar_mid w b of ty cs d hc hu hd hi]
   exact hK' _ _ h
theorem wpListIn_store_mid {F:Fence} {n1:Nat} {w:World} {ops:Array Oper} {rest:List Oper} {o:Oper} {a:Go.Act} {Q:Exit→Go.Act→World→Prop} (hgd:o.guard=none) (ty:TypeId) (x y:Operand) (ho:o.op = .store ty x y)
 (b of:Nat) (cells:Array Value) (hx:a.eval x = .pointer (some ⟨b,of,none⟩)) (hy:a.eval y = .agg cells)
 (ht:w.there b of cells.size) (hi:(P.info? ty).map (·.size)=some cells.size) (h1:cells.all (·.oneCell')=true)
 (h:wpListIn F n1 P ops Q rest (a.put o.dst undef) (w.setCells b of cells.toList)):wpListIn F n1 P ops Q (o :: rest) a w:=by
 refine wpListIn_plain hgd fun K hK'=>?_
 unfold Oper.wpIn
 refine ⟨?_,?_⟩
 · simp [Oper.about,ho]
 · rw [Oper.semAt_plain F _ _ (by rw [ho];intro c hc';cases hc')]
   unfold execOp
   simp only [ho,hx,hy,Instr.storeAt,Instr.sureAddr,Sem.run_bind,Sem.run_pure,Result.andThen_ok,run_storeVar_mid w b of ty cells ht hi h1]
   exact hK' _ _ h
theorem size_setCells (b:Nat) : ∀(vs:List Value) (o:Nat) (w:World),(w.setCells b o vs).heap.size=w.heap.size
 | [],_,_=>rfl
 | v :: r,o,w=>by rw [World.setCells,size_setCells b r (o+1)];simp [World.setCell]
theorem kept_new {w:World} {t:TypeId} (zs vs:List Value) (hl:zs.length=vs.length) :
 ∃W,W=(w.alloc (.cells zs.toArray t)).setCells w.heap.size 0 vs∧(w.alloc (.cells zs.toArray t)).there w.heap.size 0 vs.toArray.size∧W.rangeAt w.heap.size 0 vs∧Below w.heap.size w W∧W.heap.size=w.heap.size+1:=by
 have ht:(w.alloc (.cells zs.toArray t)).there w.heap.size 0 vs.length:=by
  have:=(Blk.new w t zs.toArray).there
  rwa [show zs.toArray.size=vs.length by simpa using hl] at this
 refine ⟨_,rfl,by simpa using ht,World.rangeAt_setCells_same _ _ _ _ ht,Below.setCells' _ _ ((Below.refl _ _).alloc (Nat.le_refl _) _) (Nat.le_refl _),?_⟩
 rw [size_setCells,World.size_alloc]
theorem Blk.setCells_ {g:Nat} {t:TypeId} : ∀(vs:List Value) (o:Nat) {w:World} {cs:Array Value},Blk w g t cs→∃cs',Blk (w.setCells g o vs) g t cs'∧cs'.size=cs.size
 | [],_,_,cs,h=>⟨cs,h,rfl⟩
 | v :: vs,o,w,cs,h=>by
   obtain ⟨cs',h1,h2⟩:=Blk.setCells_ vs (o+1) (h.set_ o v)
   exact ⟨cs',h1,by rw [h2];simp⟩
theorem grown_own {E:Nat→Prop} {X Y:World} {e:TypeId} {size n m:Nat} {A:Option Addr} {c:Nat} {v':Value} {xs news:List Value} (hA:AIn A E) (hown':Y.ownsRow 0 e size v' (n+m) (xs++news)) (hg:X.grownBy Y (Value.slice A n c).ownBlock)
 (hat:v'.ownBlock=(Value.slice A n c).ownBlock∨v'.ownBlock=some X.heap.size) : ∃A' c',v' = .slice A' (n+m) c'∧Fr E X Y∧AIn A' (Plus E X Y)∧Y.ownsRow 0 e size (.slice A' (n+m) c') (n+m) (xs++news):=by
 obtain ⟨A',c',rfl,hc,_,hz⟩:=own_form2 hown'
 refine ⟨A',c',rfl,(Fr.refl E X).grown hg (fun k hk=>?_),fun a ha=>?_,hown'⟩
 · rcases A with _ | a
   · simp [Value.ownBlock] at hk
   · have e:a.block=k:=by simpa [Value.ownBlock] using hk
     exact .inl (e ▸ hA a rfl)
 · subst ha
   rcases hat with h | h
   · rcases A with _ | b
     · simp [Value.ownBlock] at h
     · have e:a.block=b.block:=by simpa [Value.ownBlock] using h
       exact .inl (e ▸ hA b rfl)
   · have e:a.block=X.heap.size:=by simpa [Value.ownBlock] using h
     refine .inr ⟨by omega,?_⟩
     rcases ownsRow_form hown' with ⟨hv,_⟩ | ⟨g,cap,hv,_,_,hr,_⟩
     · cases hv
     · injection hv with hv
       injection hv with hv
       subst hv
       exact hr.lt
end Go.Proofs.Ytffemfglngikbaa
namespace Go.Proofs.Ytffemfglngikbaa
open Go.RowKit
def NewD (B:Nat) (w:World):Nat→Prop:=fun k=>B≤k∧k<w.heap.size
def OwnC {α:Type} (r:RepT α) (e:TypeId) (C:Nat→Prop) (w:World) (v:Value) (l:List α):Prop:=
 ∃css,w.ownsRow 0 e r.size v l.length css.flatten∧Each2 (fun a cs=>r.rep C w a cs) l css∧∀k,v.ownBlock=some k→¬C k
theorem own_lt {w:World} {e:TypeId} {size n:Nat} {v:Value} {xs:List Value} (h:w.ownsRow 0 e size v n xs) : ∀k,v.ownBlock=some k→k<w.heap.size:=by
 intro k hk
 rcases h.2 with ⟨rfl,_⟩ | ⟨g,cap,cur,rfl,_,hg,_⟩
 · cases hk
 · simp only [Value.ownBlock,Option.some.injEq] at hk
   subst hk
   exact Blk.lt (t:=e) hg
section
variable {α:Type} {r:RepT α} {e:TypeId} {C C':Nat→Prop} {w w':World} {v:Value} {l:List α}
theorem OwnC.nil (r:RepT α) (e:TypeId) (C:Nat→Prop) (w:World):OwnC r e C w (.slice none 0 0) []:=⟨[],⟨by simp,.inl ⟨rfl,rfl⟩⟩,.nil,fun _ h=>by cases h⟩
theorem OwnC.form (h:OwnC r e C w v l) : ∃A c,v = .slice A l.length c∧l.length≤c∧c≤maxLen∧AIn A (fun j=>j<w.heap.size∧¬C j):=by
 obtain ⟨css,hown,_,hC⟩:=h
 have hlt:=own_lt hown
 obtain ⟨A,c,rfl,h1,h2,_⟩:=own_form2 hown
 exact ⟨A,c,rfl,h1,h2,fun a ha=>by subst ha;exact ⟨hlt _ rfl,hC _ rfl⟩⟩
theorem OwnC.lt (h:OwnC r e C w v l) : ∀k,v.ownBlock=some k→k<w.heap.size:=by
 obtain ⟨css,hown,_⟩:=h
 exact own_lt hown
theorem OwnC.off (h:OwnC r e C w v l) : ∀k,v.ownBlock=some k→¬C k:=by
 obtain ⟨_,_,_,h⟩:=h
 exact h
theorem OwnC.keep (h:OwnC r e C w v l) (hs:w.heap.size≤w'.heap.size) (hk : ∀k,C k→k<w.heap.size→C' k∧w'.heap[k]? = w.heap[k]?) (hv : ∀k,v.ownBlock=some k→w'.heap[k]? = w.heap[k]?∧¬C' k):OwnC r e C' w' v l:=by
 obtain ⟨css,hown,he,hC⟩:=h
 refine ⟨css,⟨hown.1,hown.2.imp id fun ⟨g,cap,cur,hv',h0,hg,hr⟩=>⟨g,cap,cur,hv',h0,(hv g (by rw [hv'];rfl)).1.trans hg,hr⟩⟩,he.imp fun a cs hr=>r.keep hs hk hr,fun k hk=>(hv k hk).2⟩
theorem OwnC.new_ (h:OwnC r e C w v l) (hb:Below w.heap.size w w'):OwnC r e C w' v l:=
 h.keep hb.size (fun k hk hl=>⟨hk,hb.block k hl⟩) (fun k hk=>⟨hb.block k (h.lt k hk),h.off k hk⟩)
theorem OwnC.plus (h:OwnC r e C w v l) (hb:Below w.heap.size w w'):OwnC r e (Plus C w w') w' v l:=
 h.keep hb.size (fun k hk hl=>⟨.inl hk,hb.block k hl⟩) (fun k hk=>⟨hb.block k (h.lt k hk),fun hp=>hp.elim (h.off k hk) (fun hp=>by have:=h.lt k hk;omega)⟩)
theorem OwnC.fr {M:Nat→Prop} (h:OwnC r e C w v l) (hF:Fr M w w') (hC : ∀k,C k→¬M k) (hv : ∀k,v.ownBlock=some k→¬M k):OwnC r e C w' v l:=
 h.keep hF.size (fun k hk hl=>⟨hk,hF.block k hl (hC k hk)⟩) (fun k hk=>⟨hF.block k (h.lt k hk) (hv k hk),h.off k hk⟩)
theorem OwnC.row {A:Option Addr} {n c:Nat} (h:OwnC r e C w (.slice A n c) l) (hC : ∀k,C k→C' k) (hA:AIn A C'):RowR r C' w A c l:=by
 obtain ⟨A',c',hv,h1,h2,_⟩:=h.form
 injection hv with hA' hn hc
 subst hA';subst hc
 obtain ⟨css,hown,he,_⟩:=h
 refine ⟨h1,h2,fun h0=>?_⟩
 have hsz : ∀cs∈css,cs.length=r.size:=fun cs hcs=>by
  obtain ⟨k,hk,rfl⟩:=List.getElem_of_mem hcs
  obtain ⟨_,h3⟩:=he.get k (by rw [he.length];exact hk)
  exact r.len h3
 rcases hown.2 with ⟨hv,hn0⟩ | ⟨g,cap,cur,hv,_,hg,hn2,hc2,hs2,ht⟩
 · omega
 · injection hv with hA' _ hc
   subst hA'
   have hgl:g<w.heap.size:=Blk.lt (t:=e) hg
   refine ⟨g,0,rfl,hA _ rfl,hgl,fun k hk=>?_⟩
   obtain ⟨hk2,hrep⟩:=he.get k hk
   refine ⟨css[k],r.keep (Nat.le_refl _) (fun j hj _=>⟨hC j hj,rfl⟩) hrep,fun j u hu=>?_⟩
   have hj:j<r.size:=by rw [← r.len hrep];exact (List.getElem?_eq_some_iff.1 hu).1
   have hf:=flatten_get css hsz k hk2 j hj
   rw [hu,← ht] at hf
   rw [Nat.zero_add,Blk.cell (t:=e) hg]
   have hlt:k*r.size+j<l.length*r.size:=by
    have:(k+1)*r.size≤l.length*r.size:=Nat.mul_le_mul_right _ hk
    rw [Nat.add_mul] at this;omega
   rw [List.getElem?_take_of_lt hlt] at hf
   rw [← hf];simp
theorem OwnC.grown {v':Value} {l2:List α} {css css2:List (List Value)} (he:Each2 (fun a cs=>r.rep C w a cs) l css) (hC : ∀k,v.ownBlock=some k→¬C k) (hCl : ∀k,C k→k<w.heap.size)
 (hown:w'.ownsRow 0 e r.size v' (l++l2).length (css.flatten++css2.flatten)) (hg:w.grownBy w' v.ownBlock)
 (hv:v'.ownBlock=v.ownBlock∨v'.ownBlock=some w.heap.size) (he2:Each2 (fun a cs=>r.rep C w a cs) l2 css2):OwnC r e C w' v' (l++l2):=by
 have up : ∀a cs,r.rep C w a cs→r.rep C w' a cs:=fun a cs hr=>r.keep hg.size (fun k hd hl=>⟨hd,hg.block k hl (fun hk=>hC k hk.symm hd)⟩) hr
 refine ⟨css++css2,by rw [List.flatten_append];exact hown,(he.imp up).append (he2.imp up),fun k hk=>?_⟩
 rcases hv with hv | hv
 · exact hC k (hv ▸ hk)
 · rw [hv] at hk;injection hk with hk;intro h;have:=hCl k h;omega
theorem css_len {l2:List α} {css2:List (List Value)} {D:Nat→Prop} {m:Nat} (hm:m=l2.length) (he2:Each2 (fun a cs=>r.rep D w a cs) l2 css2):css2.flatten.length=m*r.size:=by
 have hall : ∀cs∈css2,cs.length=r.size:=fun cs hcs=>by
  obtain ⟨k,hk,rfl⟩:=List.getElem_of_mem hcs
  obtain ⟨_,h3⟩:=he2.get k (by rw [he2.length];exact hk)
  exact r.len h3
 rw [hm,he2.length,List.length_flatten,List.map_congr_left hall]
 exact sum_const _ _
theorem flat1 (cs:List Value) : [cs].flatten=cs:=by simp
end
def Appended {α:Type} (r:RepT α) (e:TypeId) (C:Nat→Prop) (w:World) (v:Value) (l:List α) (v':Value) (w':World):Prop:=
 OwnC r e C w' v' l∧w.grownBy w' v.ownBlock∧(v'.ownBlock=v.ownBlock∨v'.ownBlock=some w.heap.size)
section
variable {P:Program} {α:Type} {r:RepT α} (w:World)
theorem wpList_append_C {ops:Array Oper} {rest:List Oper} {o:Oper} {a:Act} {Q:Exit→Act→World→Prop} (hgd:o.guard=none) (s x:Operand) (t:TypeId)
 (ho:o.op = .call { callee:=.builtin .append,args:=#[s,x],argTypes:=#[t,t] })
 (e:TypeId) (i:TypeInfo) (z:Value) (size bytes:Nat) (ht:P.underlying t=some (.slice e)) (hi:P.info? e=some i) (hz:i.zero=some z)
 (hsize:i.size=size) (hby:i.bytes=bytes) (hzs:z.cells.size=size) (hrs:r.size=size) (hsz:0<size)
 (C:Nat→Prop) (hCl : ∀k,C k→k<w.heap.size) (v:Value) (l:List α) (hs:a.eval s=v) (hown:OwnC r e C w v l)
 (ad:Addr) (c:Nat) (y:α) (cs:List Value) (hx:a.eval x = .slice (some ad) 1 c)
 (hnews : ∀j u,cs[j]? = some u→w.cell? (ad.add j)=some u) (h1 : ∀u∈cs,u.oneCell'=true)
 (he2:r.rep C w y cs)
 (h63:l.length+1≤maxLen) (hbytes:(l.length+1)*bytes≤140737488355328)
 (h : ∀v' w',Appended r e C w v (l ++ [y]) v' w'→wpList P ops Q rest (a.put o.dst v') w') :
 wpList P ops Q (o :: rest) a w:=by
 obtain ⟨css,h2,h3,h4⟩:=hown
 subst hrs
 have he3:Each2 (fun a cs=>r.rep C w a cs) [y] [cs]:=.cons he2 .nil
 refine wpList_append_srcB w hgd s x t ho e i z r.size bytes ht hi hz hsize hby hzs hsz 0 (Nat.zero_le _) v l.length _ hs h2 (some ad) 1 c [cs].flatten hx (css_len (l2:=[y]) rfl he3) (fun _=>⟨ad,rfl,by rw [flat1];exact hnews⟩) (by rw [flat1];exact h1) h63 hbytes (fun v' w' g1 g2 g3 g4=>h v' w' ⟨?_,g2,g4⟩)
 exact OwnC.grown h3 h4 hCl (by rw [List.length_append];exact g1) g2 g4 he3
theorem step_append_C {ops:Array Oper} {o:Oper} {a:Act} {K:Act→World→Prop} {Q:Exit→Act→World→Prop} {E:Prop} (hgd:o.guard=none) (s x:Operand) (t:TypeId)
 (ho:o.op = .call { callee:=.builtin .append,args:=#[s,x],argTypes:=#[t,t] })
 (e:TypeId) (i:TypeInfo) (z:Value) (size bytes:Nat) (ht:P.underlying t=some (.slice e)) (hi:P.info? e=some i) (hz:i.zero=some z)
 (hsize:i.size=size) (hby:i.bytes=bytes) (hzs:z.cells.size=size) (hrs:r.size=size) (hsz:0<size)
 (C:Nat→Prop) (hCl : ∀k,C k→k<w.heap.size) (v:Value) (l:List α) (hs:a.eval s=v) (hown:OwnC r e C w v l)
 (ad:Addr) (c:Nat) (y:α) (cs:List Value) (hx:a.eval x = .slice (some ad) 1 c)
 (hnews : ∀j u,cs[j]? = some u→w.cell? (ad.add j)=some u) (h1 : ∀u∈cs,u.oneCell'=true)
 (he2:r.rep C w y cs)
 (h63:l.length+1≤maxLen) (hbytes:(l.length+1)*bytes≤140737488355328)
 (h : ∀v' w',Appended r e C w v (l ++ [y]) v' w'→K (a.put o.dst v') w') :
 if Region.wanted o (yielded ops a.tmps)=true then Oper.wp P o a w K Q else E:=by
 obtain ⟨css,h2,h3,h4⟩:=hown
 subst hrs
 have he3:Each2 (fun a cs=>r.rep C w a cs) [y] [cs]:=.cons he2 .nil
 refine step_append_srcB w hgd s x t ho e i z r.size bytes ht hi hz hsize hby hzs hsz 0 (Nat.zero_le _) v l.length _ hs h2 (some ad) 1 c [cs].flatten hx (css_len (l2:=[y]) rfl he3) (fun _=>⟨ad,rfl,by rw [flat1];exact hnews⟩) (by rw [flat1];exact h1) h63 hbytes (fun v' w' g1 g2 g3 g4=>h v' w' ⟨?_,g2,g4⟩)
 exact OwnC.grown h3 h4 hCl (by rw [List.length_append];exact g1) g2 g4 he3
end
end Go.Proofs.Ytffemfglngikbaa
namespace Go.Proofs.Ytffemfglngikbaa
open Go.RowKit
theorem inf_Sym:(Try.prog.info? 52).map (fun i=>(i.zero,i.size,i.bytes))=some (some (.agg #[.int .i64 0,.string ⟨#[]⟩,.int .i64 0]),3,32):=by kernel_rfl
theorem one_Sym (l:List Sym) : ∀u∈l.flatMap Sym.cells,u.oneCell'=true:=by
 intro u hu
 obtain ⟨b,_,hb⟩:=List.mem_flatMap.1 hu
 simp only [Sym.cells,List.mem_cons,List.not_mem_nil,or_false] at hb
 rcases hb with rfl | rfl | rfl<;>rfl
theorem inf_Act:(Try.prog.info? 58).map (fun i=>(i.zero,i.size,i.bytes))=some (some (.agg #[.string ⟨#[]⟩,.string ⟨#[]⟩,.int .i64 0,.string ⟨#[]⟩,.int .i64 0,.int .i64 0,.string ⟨#[]⟩,.int .i64 0,.string ⟨#[]⟩,.int .i64 0,.string ⟨#[]⟩,.int .i64 0,.string ⟨#[]⟩,.int .i64 0,.int .i64 0,.string ⟨#[]⟩,.int .i64 0,.string ⟨#[]⟩,.int .i64 0]),19,224):=by kernel_rfl
theorem one_Act (l:List ActT) : ∀u∈l.flatMap ActT.cells,u.oneCell'=true:=by
 intro u hu
 obtain ⟨b,_,hb⟩:=List.mem_flatMap.1 hu
 simp only [ActT.cells,List.mem_cons,List.not_mem_nil,or_false] at hb
 rcases hb with rfl | rfl | rfl | rfl | rfl | rfl | rfl | rfl | rfl | rfl | rfl | rfl | rfl | rfl | rfl | rfl | rfl | rfl | rfl<;>rfl
theorem inf_Test:(Try.prog.info? 65).map (fun i=>(i.zero,i.size,i.bytes))=some (some (.agg #[.int .i64 0,.string ⟨#[]⟩,.int .i64 0,.string ⟨#[]⟩,.int .i64 0,.slice none 0 0]),6,80):=by kernel_rfl
theorem inf_Cond:(Try.prog.info? 50).map (fun i=>(i.zero,i.size,i.bytes))=some (some (.agg #[.int .i64 0,.bool false,.string ⟨#[]⟩,.slice none 0 0,.slice none 0 0,.bool false,.slice none 0 0]),7,112):=by kernel_rfl
theorem infp {P:Program} {t:TypeId} {z:Value} {s b:Nat} (h:(P.info? t).map (fun i=>(i.zero,i.size,i.bytes))=some (some z,s,b)) : ∃i,P.info? t=some i∧i.zero=some z∧i.size=s∧i.bytes=b:=by
 cases hq:P.info? t with
 | none=>rw [hq] at h;cases h
 | some i=>
   rw [hq] at h
   simp only [Option.map_some,Option.some.injEq,Prod.mk.injEq] at h
   exact ⟨i,rfl,h.1,h.2.1,h.2.2⟩
end Go.Proofs.Ytffemfglngikbaa
namespace Go.Proofs.Ytffemfglngikbaa
open Go.RowKit
def Fresh1 {α:Type} (e size:Nat) (cells:α→List Value) (l:List α) (w:World) (en:Ending) (w':World):Prop:=
 ∃A c,en = .returned (.slice A l.length c)∧w'.ownsRow 0 e size (.slice A l.length c) l.length (l.flatMap cells)∧AIn A (NewD w.heap.size w')∧Below w.heap.size w w'
theorem fresh1_of {α:Type} {e size:Nat} {cells:α→List Value} {l:List α} {w w':World} {v v0:Value} (hown:w'.ownsRow 0 e size v l.length (l.flatMap cells)) (hat:v.ownBlock=v0.ownBlock∨v.ownBlock=some w.heap.size) (h0:v0.ownBlock=none) (hg:w.grownBy w' v0.ownBlock) :
 ∃A c,v = .slice A l.length c∧w'.ownsRow 0 e size (.slice A l.length c) l.length (l.flatMap cells)∧AIn A (NewD w.heap.size w')∧Below w.heap.size w w':=by
 have hlt:=own_lt hown
 obtain ⟨A,c,rfl,_,_,_⟩:=own_form2 hown
 refine ⟨A,c,rfl,hown,fun a ha=>?_,(Below.refl w.heap.size w).grown hg (Nat.le_refl _) (fun k hk=>by rw [h0] at hk;cases hk)⟩
 subst ha
 rcases hat with h | h
 · rw [h0] at h;cases h
 · have:=hlt a.block rfl
   simp only [Value.ownBlock,Option.some.injEq] at h
   exact ⟨by omega,this⟩
theorem owns_nilC (W:World) (e size:Nat):W.ownsRow 0 e size (.slice none 0 0) 0 []:=⟨by simp,.inl ⟨rfl,rfl⟩⟩
theorem Fresh1.row {α:Type} {e size:Nat} {cells:α→List Value} (hs : ∀a,(cells a).length=size) {l:List α} {A:Option Addr} {c B:Nat} {w':World} (h:w'.ownsRow 0 e size (.slice A l.length c) l.length (l.flatMap cells)) (hA:AIn A (NewD B w')):RowR (RepT.flat size cells hs) (NewD B w') w' A c l:=RowR.of_rd (ownsRow_rd hs h) hA
set_option maxRecDepth 100000 in
set_option maxHeartbeats 4000000 in
theorem cp_Sym (A:Option Addr) (c:Nat) (l:List Sym) (w:World) (hrd:RowRd w 3 Sym.cells A c l) (hl:(l.length:Int)≤100000) :
 Calls Try.prog 82 #[.slice A l.length c] w (Fresh1 52 3 Sym.cells l w):=by
 obtain ⟨i0,hi0,hz0,hz1,hz2⟩:=infp inf_Sym
 have HRD:=Lib.hid hrd
 have hlc:=hrd.cap
 have hlcc:=hrd.1
 clear hrd
 go_enter Try.func82,Try.ntmps82
 go_wp2_with (at_builtin;refine wpList_append_src w rfl (.const (.slice none 0 0)) (.tmp 3) 63 rfl 52 i0 _ 3 32 Try.underlying63 hi0 hz0 hz1 hz2 rfl (by omega) (.slice none 0 0) 0 [] rfl (owns_nilC w _ _) A l.length c (l.flatMap Sym.cells) rfl (flat_length Sym.cells_length _) (HRD.out.news Sym.cells_length (by omega)) (one_Sym _) (by unfold maxLen;omega) (by omega) ?_;intro v1 w2 hown1 hg1 hnil1 hat1)
 go_ret
 rw [Nat.zero_add,List.nil_append] at hown1
 obtain ⟨A',c',rfl,h1,h2,h3⟩:=fresh1_of hown1 hat1 rfl hg1
 exact ⟨A',c',rfl,h1,h2,h3⟩
set_option maxRecDepth 100000 in
set_option maxHeartbeats 4000000 in
theorem cp_Act (A:Option Addr) (c:Nat) (l:List ActT) (w:World) (hrd:RowRd w 19 ActT.cells A c l) (hl:(l.length:Int)≤100000) :
 Calls Try.prog 32 #[.slice A l.length c] w (Fresh1 58 19 ActT.cells l w):=by
 obtain ⟨i0,hi0,hz0,hz1,hz2⟩:=infp inf_Act
 have HRD:=Lib.hid hrd
 have hlc:=hrd.cap
 have hlcc:=hrd.1
 clear hrd
 go_enter Try.func32,Try.ntmps32
 go_wp2_with (at_builtin;refine wpList_append_src w rfl (.const (.slice none 0 0)) (.tmp 3) 23 rfl 58 i0 _ 19 224 Try.underlying23 hi0 hz0 hz1 hz2 rfl (by omega) (.slice none 0 0) 0 [] rfl (owns_nilC w _ _) A l.length c (l.flatMap ActT.cells) rfl (flat_length ActT.cells_length _) (HRD.out.news ActT.cells_length (by omega)) (one_Act _) (by unfold maxLen;omega) (by omega) ?_;intro v1 w2 hown1 hg1 hnil1 hat1)
 go_ret
 rw [Nat.zero_add,List.nil_append] at hown1
 obtain ⟨A',c',rfl,h1,h2,h3⟩:=fresh1_of hown1 hat1 rfl hg1
 exact ⟨A',c',rfl,h1,h2,h3⟩
end Go.Proofs.Ytffemfglngikbaa
namespace Go.Proofs.Ytffemfglngikbaa
open Go.RowKit
def SmT (l:List TestT):Prop:=l.length≤1000∧∀t∈l,t.list.length≤1000
def FreshR {α:Type} (r:RepT α) (l:List α) (w:World) (en:Ending) (w':World):Prop:=
 ∃A c,en = .returned (.slice A l.length c)∧RowR r (NewD w.heap.size w') w' A c l∧AIn A (NewD w.heap.size w')∧Below w.heap.size w w'
theorem NewD.up {B B':Nat} {w w':World} (hB:B'≤B) (hw:w.heap.size≤w'.heap.size) : ∀k,NewD B w k→NewD B' w' k:=fun k hk=>⟨by have:=hk.1;omega,by have:=hk.2;omega⟩
theorem rep_test {D:Nat→Prop} {w:World} {y:TestT} {A:Option Addr} {c:Nat} (h:RowR repSym D w A c y.list):repTestT.rep D w y [.int .i64 y.rel,.string y.var,.int .i64 y.sym.kind,.string y.sym.text,.int .i64 y.sym.n,.slice A y.list.length c]:=⟨A,c,rfl,h⟩
def Copies {α:Type} (r:RepT α) (e:TypeId) (w:World) (l:List α) (v:Value) (wr:World):Prop:=
 ∃C A c,v = .slice A l.length c∧OwnC r e C wr v l∧(∀j,C j→NewD w.heap.size wr j)∧AIn A (NewD w.heap.size wr)∧Below w.heap.size w wr
theorem Copies.nil {α:Type} (r:RepT α) (e:TypeId) (w:World) {wr:World} (hb:Below w.heap.size w wr):Copies r e w [] (.slice none 0 0) wr:=
 ⟨fun _=>False,none,0,rfl,OwnC.nil _ _ _ _,fun _ h=>h.elim,AIn.none_ _,hb⟩
theorem Copies.done {α:Type} {r:RepT α} {e:TypeId} {w wr:World} {l:List α} {v:Value} (h:Copies r e w l v wr):FreshR r l w (.returned v) wr:=by
 obtain ⟨C,A,c,rfl,h1,h2,h3,h4⟩:=h
 exact ⟨A,c,rfl,h1.row h2 h3,h3,h4⟩
theorem Copies.snoc {α:Type} {r:RepT α} {e:TypeId} {w wr W W':World} {C:Nat→Prop} {l:List α} {y:α} {A:Option Addr} {c:Nat} {v':Value} (h2 : ∀j,C j→NewD w.heap.size wr j) (h3:AIn A (NewD w.heap.size wr)) (h4:Below w.heap.size w wr)
 (hb:Below wr.heap.size wr W) (ha:Appended r e (Plus C wr W) W (.slice A l.length c) (l ++ [y]) v' W'):Copies r e w (l ++ [y]) v' W':=by
 obtain ⟨g1,g2,g3⟩:=ha
 have hz:=hb.size
 have hz2:=g2.size
 have hz4:=h4.size
 obtain ⟨A',c',rfl,_,_,hA'⟩:=g1.form
 refine ⟨Plus C wr W,A',c',rfl,g1,fun j hj=>?_,fun a ha=>⟨?_,(hA' a ha).1⟩,(h4.trans (hb.mono hz4)).grown g2 (by omega) (fun k hk=>?_)⟩
 · rcases hj with hj | hj
   · have:=h2 j hj;exact ⟨this.1,by have:=this.2;omega⟩
   · exact ⟨by omega,by omega⟩
 · subst ha
   rcases g3 with g3 | g3
   · rcases A with _ | b
     · simp [Value.ownBlock] at g3
     · simp only [Value.ownBlock,Option.some.injEq] at g3
       have:=(h3 b rfl).1
       omega
   · simp only [Value.ownBlock,Option.some.injEq] at g3
     omega
 · rcases A with _ | b
   · simp [Value.ownBlock] at hk
   · simp only [Value.ownBlock,Option.some.injEq] at hk
     have:=(h3 b rfl).1
     omega
theorem Copies.below {α:Type} {r:RepT α} {e:TypeId} {w wr W:World} {l:List α} {v:Value} (h:Copies r e w l v wr) (hb:Below wr.heap.size wr W):Copies r e w l v W:=by
 obtain ⟨C,A,c,rfl,h1,h2,h3,h4⟩:=h
 exact ⟨C,A,c,rfl,h1.new_ hb,fun j hj=>NewD.up (Nat.le_refl _) hb.size j (h2 j hj),h3.mono (fun j hj=>NewD.up (Nat.le_refl _) hb.size j hj),h4.trans (hb.mono h4.size)⟩
theorem take_snoc {α:Type} {l:List α} {k:Nat} (hk:k<l.length):l.take k ++ [l[k]]=l.take (k+1):=by rw [List.take_add_one,List.getElem?_eq_getElem hk];rfl
theorem take_len {α:Type} {l:List α} {k:Nat} (hk:k≤l.length):(l.take k).length=k:=by simp;omega
end Go.Proofs.Ytffemfglngikbaa
namespace Go.Proofs.Ytffemfglngikbaa
open Go.RowKit
def SmC:Nat→CondT→Prop
 | 0,_=>True
 | n+1,c=>SmT c.attr∧SmT c.value∧c.conds.length≤1000∧∀x∈c.conds,SmC n x
def FreshC (n:Nat) (c:CondT) (w:World) (en:Ending) (w':World):Prop:=
 ∃A1 c1 A2 c2 A3 c3,en = .returned (.agg #[.int .i64 c.kind,.bool c.goal,.string c.id,.slice A1 c.attr.length c1,.slice A2 c.value.length c2,.bool c.acc,.slice A3 c.conds.length c3])∧RowR repTestT (NewD w.heap.size w') w' A1 c1 c.attr∧RowR repTestT (NewD w.heap.size w') w' A2 c2 c.value∧RowR (repCondT n) (NewD w.heap.size w') w' A3 c3 c.conds∧Below w.heap.size w w'
def CopyOk (f n:Nat):Prop:=∀(c:CondT) (A1:Option Addr) (c1:Nat) (A2:Option Addr) (c2:Nat) (A3:Option Addr) (c3:Nat) (D:Nat→Prop) (w:World),
 RowR repTestT D w A1 c1 c.attr→RowR repTestT D w A2 c2 c.value→RowR (repCondT n) D w A3 c3 c.conds→SmC (n+1) c→Calls Try.prog f #[.agg #[.int .i64 c.kind,.bool c.goal,.string c.id,.slice A1 c.attr.length c1,.slice A2 c.value.length c2,.bool c.acc,.slice A3 c.conds.length c3]] w (FreshC n c w)
theorem rep_cond {n:Nat} {D:Nat→Prop} {w:World} {y:CondT} {Ay1 Ay2 Ay3:Option Addr} {cy1 cy2 cy3:Nat} (h1:RowR repTestT D w Ay1 cy1 y.attr) (h2:RowR repTestT D w Ay2 cy2 y.value) (h3:RowR (repCondT n) D w Ay3 cy3 y.conds) :
 (repCondT (n+1)).rep D w y [.int .i64 y.kind,.bool y.goal,.string y.id,.slice Ay1 y.attr.length cy1,.slice Ay2 y.value.length cy2,.bool y.acc,.slice Ay3 y.conds.length cy3]:=⟨Ay1,cy1,Ay2,cy2,Ay3,cy3,rfl,h1,h2,h3⟩
theorem row0 {D:Nat→Prop} {w:World} {A:Option Addr} {c:Nat} {l:List CondT} (h:RowR (repCondT 0) D w A c l):l = []:=by
 cases l with
 | nil=>rfl
 | cons x l=>
   obtain ⟨_,_,_,_,_,_,hr,_⟩:=h.at_ (k:=0) (by simp)
   exact hr.elim
theorem RowR.newD {α:Type} {r:RepT α} {B B':Nat} {w w':World} {A:Option Addr} {c:Nat} {l:List α} (h:RowR r (NewD B w) w A c l) (hb:Below w.heap.size w w') (hB:B'≤B):RowR r (NewD B' w') w' A c l:=
 h.keep hb.size (fun j hj hl=>⟨NewD.up hB hb.size j hj,hb.block j hl⟩)
theorem blk_setCells (b:Nat) : ∀(vs:List Value) (o:Nat) (w:World) (j:Nat),j≠b→(w.setCells b o vs).heap[j]? = w.heap[j]?
 | [],_,_,_,_=>rfl
 | v :: r,o,w,j,h=>by
   rw [World.setCells,blk_setCells b r (o+1) _ j h]
   exact Below.heap_setCell _ _ _ _ h
end Go.Proofs.Ytffemfglngikbaa
namespace Go.Proofs.Ytffemfglngikbaa
open Go.RowKit
def oneR (t:ByteArray→ByteArray) (v:ByteArray):ByteArray:=if v.toList = [] then ⟨#[]⟩ else t v
def testR (t:ByteArray→ByteArray) (x:TestT):TestT:=⟨x.rel,oneR t x.var,x.sym,x.list⟩
def condR (t:ByteArray→ByteArray):Nat→CondT→CondT
 | 0,c=>c
 | n+1,c=>.mk c.kind c.goal (oneR t c.id) (c.attr.map (testR t)) (c.value.map (testR t)) c.acc (c.conds.map (condR t n))
def atomR (t:ByteArray→ByteArray) (a:AtomT):AtomT:=⟨oneR t a.var,a.sym⟩
def actR (t:ByteArray→ByteArray) (a:ActT):ActT:=⟨oneR t a.id,atomR t a.attr,⟨a.value.op,atomR t a.value.a,atomR t a.value.b⟩,a.pref,atomR t a.other⟩
def prodR (t:ByteArray→ByteArray) (n:Nat) (p:ProdT):ProdT:=⟨p.name,p.conds.map (condR t n),p.acts.map (actR t)⟩
structure NamerOk (gf:Nat) (lb:Array Value) (w0:World) (Q:ByteArray→Prop) (t:ByteArray→ByteArray):Prop where
 ent : ∀args w,(callFunc gf args).run Try.prog w = .ok (.enter gf args) w
 call : ∀v W,Below w0.heap.size w0 W→Q v→Calls Try.prog gf (#[.string v]++lb) W fun e W'=>e = .returned (.string (t v))∧Below W.heap.size W W'
def QT (Q:ByteArray→Prop) (l:List TestT):Prop:=∀x∈l,¬x.var.toList = []→Q x.var
def QC (Q:ByteArray→Prop):Nat→CondT→Prop
 | 0,_=>True
 | n+1,c=>(¬c.id.toList = []→Q c.id)∧QT Q c.attr∧QT Q c.value∧∀x∈c.conds,QC Q n x
def QV (Q:ByteArray→Prop) (v:ByteArray):Prop:=¬v.toList = []→Q v
def QA (Q:ByteArray→Prop) (a:ActT):Prop:=QV Q a.id∧QV Q a.attr.var∧QV Q a.value.a.var∧QV Q a.value.b.var∧QV Q a.other.var
end Go.Proofs.Ytffemfglngikbaa
namespace Go.Proofs.Ytffemfglngikbaa
open Go.RowKit
structure St where
 sn:Bool
 A:Option Addr
 c:Nat
def upd {β:Type} (S:Nat→β) (b:Nat) (l:β):Nat→β:=fun k=>if k=b then l else S k
theorem upd_same {β:Type} (S:Nat→β) (b:Nat) (l:β):upd S b l b=l:=by simp [upd]
theorem upd_ne {β:Type} (S:Nat→β) {b k:Nat} (l:β) (h:k≠b):upd S b l k=S k:=by simp [upd,h]
structure Sets {α:Type} (tSet tE size:Nat) (cells:α→List Value) (cmp:α→α→Int) (D:Nat→Prop) (w:World) (S:Nat→Option (List α)) (σ:Nat→St):Prop where
 at_ : ∀b l,S b=some l→SetAt tSet tE size cells w b (σ b).sn (σ b).A (σ b).c l
 srt : ∀b l,S b=some l→Srt cmp l
 out : ∀b l,S b=some l→¬D b∧((σ b).sn=false→AIn (σ b).A (fun k=>¬D k))
 apart : ∀b l b' l',S b=some l→S b'=some l'→b≠b'→(σ b).sn=false→∀a a',(σ b).A=some a→(σ b').A=some a'→a.block≠a'.block
 low : ∀k,D k→k<w.heap.size
section
variable {α:Type} {tSet tE size:Nat} {cells:α→List Value} {cmp:α→α→Int} {D D':Nat→Prop} {w w':World} {S:Nat→Option (List α)} {σ:Nat→St} {b b':Nat} {l l':List α}
theorem SetAt.far {sn:Bool} {A:Option Addr} {c:Nat} (h:SetAt tSet tE size cells w b sn A c l) {sn':Bool} {A':Option Addr} {c':Nat} (h':SetAt tSet tE size cells w b' sn' A' c' l') (hne:tE≠tSet):AIn A (·≠b'):=by
 intro a e hb
 have:=own_blk_ne h.row h'.blk hne
 subst e
 exact this (by simp [Value.ownBlock,hb])
theorem Sets.start (tSet tE size:Nat) (cells:α→List Value) (cmp:α→α→Int) (w:World):Sets tSet tE size cells cmp (· < w.heap.size) w (fun _=>none) (fun _=>⟨false,none,0⟩):=
 ⟨fun _ _ h=>by simp at h,fun _ _ h=>by simp at h,fun _ _ h=>by simp at h,fun _ _ _ _ h=>by simp at h,fun _ h=>h⟩
theorem Sets.lt (h:Sets tSet tE size cells cmp D w S σ) (hb:S b=some l):b<w.heap.size:=(h.at_ b l hb).lt
theorem Sets.below (h:Sets tSet tE size cells cmp D w S σ) (hw:Below w.heap.size w w'):Sets tSet tE size cells cmp D w' S σ:=
 ⟨fun b l hb=>(h.at_ b l hb).new_ hw,h.srt,h.out,h.apart,fun k hk=>Nat.lt_of_lt_of_le (h.low k hk) hw.size⟩
theorem Sets.weaken (h:Sets tSet tE size cells cmp D w S σ) (hD : ∀k,D' k→D k):Sets tSet tE size cells cmp D' w S σ:=
 ⟨h.at_,h.srt,fun b l hb=>⟨fun hk=>(h.out b l hb).1 (hD _ hk),fun hs=>((h.out b l hb).2 hs).mono (fun _ hk hd=>hk (hD _ hd))⟩,h.apart,fun k hk=>h.low k (hD k hk)⟩
theorem Sets.add (h:Sets tSet tE size cells cmp D w S σ) {k:Nat} {sn':Bool} {A':Option Addr} {c':Nat} (hk:w.heap.size≤k) (h1:SetAt tSet tE size cells w' k sn' A' c' l') (hs:Srt cmp l')
 (hA:AIn A' (w.heap.size≤·)∨(sn'=true∧∃b l,S b=some l∧(σ b).sn=true∧(σ b).A=A')) (hF:Below w.heap.size w w'):Sets tSet tE size cells cmp D w' (upd S k (some l')) (upd σ k ⟨sn',A',c'⟩):=by
 have hnk : ∀b l,S b=some l→b≠k:=fun b l hb e=>by have:=h.lt hb;omega
 refine ⟨fun b m hb=>?_,fun b m hb=>?_,fun b m hb=>?_,fun b m b' m' hb hb' hkk hsk a a' ha ha'=>?_,fun k hk=>Nat.lt_of_lt_of_le (h.low k hk) hF.size⟩
 · by_cases e:b=k
   · subst e;rw [upd_same] at hb ⊢;cases hb;exact h1
   · rw [upd_ne _ _ e] at hb ⊢;exact (h.at_ b m hb).new_ hF
 · by_cases e:b=k
   · subst e;rw [upd_same] at hb;cases hb;exact hs
   · rw [upd_ne _ _ e] at hb;exact h.srt b m hb
 · by_cases e:b=k
   · subst e;rw [upd_same] at hb ⊢;cases hb
     refine ⟨fun hd=>by have:=h.low _ hd;omega,fun hs2 a ha hd=>?_⟩
     have h3:=h.low _ hd
     rcases hA with hA | ⟨hA,_⟩
     · have:=hA a ha;omega
     · simp only at hs2;rw [hA] at hs2;cases hs2
   · rw [upd_ne _ _ e] at hb ⊢;exact h.out b m hb
 · by_cases e:b=k
   · subst e
     rw [upd_ne _ _ (Ne.symm hkk)] at hb' ha'
     rw [upd_same] at hsk ha
     simp only at hsk ha
     have h3:=(h.at_ b' m' hb').row_lt a' ha'
     rcases hA with hA | ⟨hA,_⟩
     · have:=hA a ha;omega
     · rw [hA] at hsk;cases hsk
   · rw [upd_ne _ _ e] at hb hsk ha
     have h3:=(h.at_ b m hb).row_lt a ha
     by_cases e2:b'=k
     · subst e2
       rw [upd_same] at ha'
       simp only at ha'
       rcases hA with hA | ⟨_,b2,l2,hb2,hs2,hA⟩
       · have:=hA a' ha';omega
       · by_cases e3:b=b2
         · subst e3;rw [hsk] at hs2;cases hs2
         · exact h.apart b m b2 l2 hb hb2 e3 hsk a a' ha (hA.trans ha')
     · rw [upd_ne _ _ e2] at hb' ha'
       exact h.apart b m b' m' hb hb' hkk hsk a a' ha ha'
end
end Go.Proofs.Ytffemfglngikbaa
namespace Go.Proofs.Ytffemfglngikbaa
open Go.RowKit
structure PgW where
 kk:ByteArray
 v:ByteArray
 deriving DecidableEq
def PgW.cells (x:PgW):List Value:=[.string x.kk,.string x.v]
theorem PgW.cells_length (x:PgW):x.cells.length=2:=rfl
def cmpPgW (a b:PgW):Int:=cmpStr a.kk b.kk
theorem tc_pgw:TC cmpPgW:=⟨fun _=>tc_str.refl _,fun _ _=>tc_str.symm _ _,fun _ _ _=>tc_str.trans _ _ _⟩
theorem cmpPgW_eq {a b:PgW}:cmpPgW a b=0↔a.kk=b.kk:=cmpStr_eq
set_option maxHeartbeats 400000 in
theorem cmp_word (a b:ByteArray) (w:World):Calls Try.prog 133 #[.string a,.string b] w fun e w'=>e = .returned (.int .i64 (cmpStr a b))∧w=w':=by
 go_enter Try.func133,Try.ntmps133
 go_wp2
 all_goals (go_ret;refine ⟨?_,rfl⟩;unfold cmpStr;simp_all)
theorem nilAhead_word (k : ByteArray) (w : World) : (nilAhead 260 83 (.string k) "Compare").run Try.prog w = .ok (some false) w := by kernel_rfl
theorem method_word (k : ByteArray) (w : World) : (method 260 83 (.string k) "Compare").run Try.prog w = .ok (133, .string k) w := by kernel_rfl
set_option maxHeartbeats 1000000 in
theorem cmp_pgw (a b:PgW) (w:World):Calls Try.prog 134 #[.agg #[.string a.kk,.string a.v],.agg #[.string b.kk,.string b.v]] w fun e w'=>e = .returned (.int .i64 (cmpPgW a b))∧Below w.heap.size w w':=by
 have N:=nilAhead_word
 have M:=method_word
 go_enter Try.func134,Try.ntmps134
 go_wp2_with fail
 refine (cmp_word a.kk b.kk _).mono ?_
 rintro e w' ⟨rfl,rfl⟩
 go_wp2_with fail
 go_ret
 exact ⟨rfl,((Below.refl _ _).alloc (Nat.le_refl _) _).alloc (by simp) _⟩
end Go.Proofs.Ytffemfglngikbaa
namespace Go.Proofs.Ytffemfglngikbaa
open Go.RowKit
abbrev PgWSet:=SetAt (α:=PgW) 121 104 2 PgW.cells
theorem nilAhead_PgW (k0 : ByteArray) (k1 : ByteArray) (w : World) : (nilAhead 260 104 (.agg #[.string k0, .string k1]) "Compare").run Try.prog w = .ok (some false) w := by kernel_rfl
theorem method_PgW (k0 : ByteArray) (k1 : ByteArray) (w : World) : (method 260 104 (.agg #[.string k0, .string k1]) "Compare").run Try.prog w = .ok (134, .agg #[.string k0, .string k1]) w := by kernel_rfl
def FoundPgW (l:List PgW) (x:PgW) (w:World) (e:Ending) (w':World):Prop:=
 e = .returned (.tuple #[.int .i64 (rank cmpPgW l x),.bool (has cmpPgW l x)])∧Below w.heap.size w w'
set_option maxRecDepth 100000 in
set_option maxHeartbeats 4000000 in
theorem find_PgW (b c:Nat) (sn:Bool) (A:Option Addr) (l:List PgW) (x:PgW) (w:World) (hS:PgWSet w b sn A c l) (hs:Srt cmpPgW l) (hl:(l.length:Int)≤4611686018427387904) :
 Calls Try.prog 75 #[.pointer (some ⟨b,0,none⟩),.agg #[.string x.kk,.string x.v]] w (FoundPgW l x w):=by
 have hrd:=hS.rd PgW.cells_length
 have h0:=hS.cell0
 have hb:=hS.lt
 clear hS
 have HS:=Lib.hid hs
 have HRD:=Lib.hid hrd
 clear hs hrd
 go_enter Try.func75,Try.ntmps75
 go_wp2_with fail
 go_quiet (fail)
 go_wp2_with fail
 obtain ⟨W0,hW0⟩ : ∃W0,W0=((w.alloc (Obj.cells #[Value.string x.kk,Value.string x.v] 104)).drewN nq):=⟨_,rfl⟩
 have hB0:Below w.heap.size w W0:=by rw [hW0];exact Below.drewN' ((Below.refl _ _).alloc (Nat.le_refl _) _) _
 have hx0:W0.cell? ⟨w.heap.size,0,none⟩=some (.string x.kk):=by rw [hW0];go_simp
 have hx1:W0.cell? ⟨w.heap.size,1,none⟩=some (.string x.v):=by rw [hW0];go_simp
 rw [← hW0]
 clear hW0
 have HB0:=Lib.hid hB0
 clear hB0
 go_loopw [6,7] (fun lo hi wr=>∃i j:Nat,lo = .int .i64 i∧hi = .int .i64 j∧i≤j∧j≤l.length∧(∀k,(h:k<l.length)→k<i→cmpPgW l[k] x<0)∧(∀k,(h:k<l.length)→j≤k→0<cmpPgW l[k] x)∧Below W0.heap.size W0 wr) (fun lo hi wr=>(intOf hi).toNat - (intOf lo).toNat)
 case atStart=>exact ⟨0,l.length,rfl,rfl,Nat.zero_le _,Nat.le_refl _,fun k _ h=>absurd h (by omega),fun k h h'=>absurd h (by omega),Below.refl _ _⟩
 case round=>
  obtain ⟨i,j,rfl,rfl,hij,hj,hlo,hhi,hB⟩:=hrel
  have HLO:=Lib.hid hlo
  have HHI:=Lib.hid hhi
  clear hlo hhi
  have hsz:w.heap.size<W0.heap.size:=World.block_lt_of_cell? W0 _ hx0
  by_cases hlt:i<j
  · obtain ⟨m,hm⟩ : ∃m,m=i+(j - i) / 2:=⟨_,rfl⟩
    have hml:m<l.length:=by omega
    have hmj:m<j:=by omega
    have hmi:i≤m:=by omega
    have e1:((i:Int)+((j:Int) - (i:Int)) / 2)=(m:Int):=by omega
    have E1:=Lib.hid e1
    clear e1 hm
    obtain ⟨g,off,rfl,hgs,hcell⟩:=HRD.out.at_ hml
    have low : ∀(p:Addr),p.block<w.heap.size→wr.cell? p=w.cell? p:=fun p hp=>(hB.cell (p:=p) (by omega)).trans (HB0.out.cell (p:=p) hp)
    have r0:=(low ⟨b,0,none⟩ hb).trans h0
    have q0:=(low ⟨g,off+m*2,none⟩ hgs).trans (hcell 0 _ rfl)
    have q1:=(low ⟨g,off+m*2+1,none⟩ hgs).trans (hcell 1 _ rfl)
    have y0:=(hB.cell (p:=⟨w.heap.size,0,none⟩) hsz).trans hx0
    have y1:=(hB.cell (p:=⟨w.heap.size,1,none⟩) hsz).trans hx1
    have b1:(0:Int)≤(m:Int):=by omega
    have b2:(m:Int)<(l.length:Int):=by omega
    have hsw:W0.heap.size≤wr.heap.size:=hB.size
    have N:=nilAhead_PgW
    have M:=method_PgW
    clear low hcell hx0 hx1 h0
    have HB:=Lib.hid hB
    clear hB
    obtain ⟨y,hy⟩ : ∃y,y=l[m]:=⟨_,rfl⟩
    rw [← hy] at q0 q1
    have HY:=Lib.hid hy
    clear hy
    have hbw:b<wr.heap.size:=by omega
    have hgw:g<wr.heap.size:=by omega
    have hww:w.heap.size<wr.heap.size:=by omega
    go_wp2_with fail
    rw [E1.out]
    go_region_held3 (fun w'=>w'.cell? ⟨b,0,none⟩=some (.slice (some ⟨g,off,none⟩) l.length c)∧w'.cell? ⟨g,off+m*2,none⟩=some (.string y.kk)∧w'.cell? ⟨g,off+m*2+1,none⟩=some (.string y.v)∧w'.cell? ⟨w.heap.size,0,none⟩=some (.string x.kk)∧w'.cell? ⟨w.heap.size,1,none⟩=some (.string x.v))
     (first | go_keep | (refine ⟨?_,?_,?_,?_,?_⟩<;>exact (hb1.cell (by simpa using by assumption)).trans (by simp [*])))
     ((go_at_call 134;refine (cmp_pgw y x _).mono ?_;rintro e w1 ⟨rfl,hb1⟩))
    have HB1:Below W0.heap.size W0 w1:=HB.out.drew.trans (hb1.mono hsw)
    clear r0 q0 q1 y0 y1 N M
    by_cases hc:cmpPgW y x=0
    · have HC:=Lib.hid hc
      have t1:(cmpPgW y x == 0)=true:=by simp [hc]
      clear hc
      go_wp2_with fail
      go_ret2
      have e:=HC.out
      rw [HY.out] at e
      refine ⟨?_,HB0.out.trans (HB1.mono (by omega))⟩
      rw [rank_some tc_pgw HS.out hml e,(at_some tc_pgw HS.out hml e).2.2.1]
      rfl
    · have t1:(cmpPgW y x == 0)=false:=by simp [hc]
      by_cases hc2:cmpPgW y x<0
      · have HC:=Lib.hid hc2
        have t2:decide (cmpPgW y x<0)=true:=by simpa using hc2
        clear hc hc2
        go_wp2_with fail
        go_roundw
        case rel=>
         refine ⟨m+1,j,by go_num,rfl,by omega,hj,fun k h1 h2=>?_,HHI.out,HB1⟩
         have e:=HC.out
         rw [HY.out] at e
         rcases Nat.lt_or_ge k m with h3 | h3
         · exact tc_pgw.lt_of_lt_of_le (HS.out.lt h3 hml) (by omega)
         · obtain rfl:k=m:=by omega
           exact e
        case measure=>simp [intOf];omega
      · have t2:decide (cmpPgW y x<0)=false:=by simpa using hc2
        have hc3:0<cmpPgW y x:=by omega
        have HC:=Lib.hid hc3
        clear hc hc2 hc3
        go_wp2_with fail
        go_roundw
        case rel=>
         refine ⟨i,m,rfl,rfl,by omega,by omega,HLO.out,fun k h1 h2=>?_,HB1⟩
         have e:=HC.out
         rw [HY.out] at e
         rcases Nat.lt_or_ge m k with h3 | h3
         · exact (tc_pgw.symm _ _).1 (tc_pgw.lt_trans ((tc_pgw.symm _ _).2 e) (HS.out.lt h3 h1))
         · obtain rfl:k=m:=by omega
           exact e
        case measure=>simp [intOf];omega
  · obtain rfl:i=j:=by omega
    have HB:=Lib.hid hB
    clear hB
    go_wp2_with fail
    go_ret2
    refine ⟨?_,HB0.out.trans (HB.out.mono (by omega))⟩
    rw [rank_none hj HLO.out HHI.out,(at_none HLO.out HHI.out).2.2]
    rfl
end Go.Proofs.Ytffemfglngikbaa
namespace Go.Proofs.Ytffemfglngikbaa
open Go.RowKit
theorem info_PgW:(Try.prog.info? 104).map (fun i=>(i.zero,i.size,i.bytes))=some (some (.agg #[.string ⟨#[]⟩,.string ⟨#[]⟩]),2,32):=by kernel_rfl
theorem PgW.one (x:PgW) : ∀u∈PgW.cells x,u.oneCell'=true:=by intro u hu;simp [PgW.cells] at hu;rcases hu with rfl | rfl<;>rfl
theorem PgW.oneAll (l:List PgW) : ∀u∈l.flatMap PgW.cells,u.oneCell'=true:=by intro u hu;obtain ⟨x,_,hx⟩:=List.mem_flatMap.1 hu;exact PgW.one x u hx
def OwnPostPgW (w:World) (b:Nat) (sn:Bool) (A:Option Addr) (l:List PgW) (e:Ending) (w':World):Prop:=
 e = .returned (.tuple #[])∧∃A' c',PgWSet w' b false A' c' l∧Fr (· = b) w w'∧Moved w sn A false A'
set_option maxRecDepth 100000 in
set_option maxHeartbeats 1000000 in
theorem own_no_PgW (b c:Nat) (A:Option Addr) (l:List PgW) (w:World) (hS:PgWSet w b false A c l) :
 Calls Try.prog 76 #[.pointer (some ⟨b,0,none⟩)] w (OwnPostPgW w b false A l):=by
 have h1:=hS.cell1
 have HS:=Lib.hid hS
 clear hS
 go_enter Try.func76,Try.ntmps76
 go_wp2
 go_end0
 exact ⟨rfl,A,c,HS.out,Fr.refl _ _,.inl ⟨rfl,rfl⟩⟩
set_option maxRecDepth 100000 in
set_option maxHeartbeats 1000000 in
theorem own_yes_PgW (b c:Nat) (A:Option Addr) (l:List PgW) (w:World) (hS:PgWSet w b true A c l) (hl:(l.length:Int)≤1000000000) :
 Calls Try.prog 76 #[.pointer (some ⟨b,0,none⟩)] w (OwnPostPgW w b true A l):=by
 obtain ⟨i0,hi,hz0,hz1,hz2⟩:=info_parts info_PgW
 have h0:=hS.cell0
 have h1:=hS.cell1
 have hb:=hS.lt
 have f0:=hS.blk.frozen 0
 have f1:=hS.blk.frozen 1
 have hrd:=hS.rd PgW.cells_length
 have HB:=Lib.hid hS.blk
 have HRD:=Lib.hid hrd
 clear hS hrd
 have e1:IntKind.i64.wrap ((l.length:Int)+1)=(l.length:Int)+1:=IntWalk.i64_in _ (by omega)
 have hmk : ∀W:World,(Instr.makeSlice 119 (.int .i64 0) (.int .i64 ((l.length:Int)+1))).run Try.prog W = .ok (.slice (some ⟨W.heap.size,0,none⟩) 0 (l.length+1)) (W.alloc (.cells (madeCells (Value.cells (.agg #[.string ⟨#[]⟩,.string ⟨#[]⟩])) ((l.length+1)*2)) 104)):=fun W=>by
  have h:=run_make (P:=Try.prog) W 119 104 i0 _ Try.underlying119 hi hz0 .i64 .i64 0 ((l.length:Int)+1) (by omega) (by omega) (by rw [hz2];omega) (by omega)
  rw [hz1] at h
  simpa [show ((l.length:Int)+1).toNat=l.length+1 by omega] using h
 go_enter Try.func76,Try.ntmps76
 go_wp2_with fail
 refine wp_region_E (fun w9=>Below w.heap.size w w9) [(0,0),(1,0),(2,0),(3,0),(4,1),(5,0),(6,0),(8,0),(9,0),(10,0),(11,1),(7,2),(12,2),(13,0),(14,0),(15,2)] (by kernel_rfl) (by kernel_rfl) (fun KK hKK=>?_)
 simp only [beside,List.filterMap_cons,List.filterMap_nil,List.getElem?_toArray,List.getElem?_cons_zero,List.getElem?_cons_succ,Option.map_some]
 repeat ((first | (refine wpX_w ?_ (Or.inl ⟨by rfl,fun w9=>?_⟩) ?_;rotate_left 1;go_simp;with_reducible rfl) | (refine wpX_l ?_ (((Below.refl _ _).drew)) (Or.inl ⟨by rfl,fun w9 hw9=>?_⟩) ?_;rotate_left 1;obtain ⟨hc9,hf9⟩:=bcell hw9;go_simp;with_reducible rfl) | refine wpX_w undef (Or.inr ⟨by rfl,rfl⟩) ?_ | refine wpX_l undef (((Below.refl _ _).drew)) (Or.inr ⟨by rfl,rfl⟩) ?_);go_frame)
 refine wpX_es (fun K9 hK9=>?_)
 go_simp
 refine hK9 _ _ (((Below.refl _ _).drew).alloc (Nat.le_refl _) _) ?_
 clear hK9 K9
 refine wpX_e (by kernel_rfl) (fun K9 hK9=>?_)
 refine step_append_src _ (by rfl) _ _ _ (by rfl) 104 i0 _ 2 32 Try.underlying119 hi hz0 hz1 hz2 rfl (by omega) _ 0 [] (by rfl) (World.ownsRow_made _ _ _ (Nat.zero_le _) (by unfold maxLen;omega) (by simp [madeCells])) A l.length c (l.flatMap PgW.cells) (by rfl) (flat_length PgW.cells_length l)
  ((HRD.out.drew.alloc _).news PgW.cells_length (by omega)) (PgW.oneAll l) (by unfold maxLen;omega) (by omega) ?_
 intro v2 w2 hown hgr hnil hat
 refine hK9 _ _ ?_
 clear hK9 K9
 rw [Nat.zero_add,List.nil_append] at hown
 obtain ⟨A',c',rfl,_,_,hz⟩:=own_form2 hown
 have HB1:=(HB.out.drew.alloc (.cells (madeCells (Value.cells (.agg #[.string ⟨#[]⟩,.string ⟨#[]⟩])) ((l.length+1)*2)) 104)).grown hgr (by simp [Value.ownBlock];omega)
 have c0:=(HB1.cell 0).trans rfl
 have c1:=(HB1.cell 1).trans rfl
 have z0:=HB1.frozen 0
 have z1:=HB1.frozen 1
 have HB2:=Lib.hid HB1
 clear HB1
 repeat ((first | (refine wpX_w ?_ (Or.inl ⟨by rfl,fun w9=>?_⟩) ?_;rotate_left 1;go_simp;with_reducible rfl) | (refine wpX_l ?_ (((Below.refl _ _).drew).alloc (Nat.le_refl _) _) (Or.inl ⟨by rfl,fun w9 hw9=>?_⟩) ?_;rotate_left 1;obtain ⟨hc9,hf9⟩:=bcell hw9;go_simp;with_reducible rfl) | refine wpX_w undef (Or.inr ⟨by rfl,rfl⟩) ?_ | refine wpX_l undef (((Below.refl _ _).drew).alloc (Nat.le_refl _) _) (Or.inr ⟨by rfl,rfl⟩) ?_);go_frame)
 refine wpX_e (by kernel_rfl) (fun K9 hK9=>?_)
 go_simp
 refine hK9 _ _ ?_
 clear hK9 K9
 refine wpX_nil ?_
 simp only [OnlyN_normal]
 refine hKK _ _ ?_
 clear hKK KK
 go_wp2
 go_end0
 have hb2:(Value.slice A' l.length c').ownBlock=some w.heap.size∨(Value.slice A' l.length c').ownBlock=some (w.heap.size+1):=by
  rcases hat with h | h
  · left;rw [h];rfl
  · right;rw [h];simp
 have hA : ∃g,w.heap.size≤g∧A'=some ⟨g,0,none⟩:=by
  rcases A' with _ | a
  · exfalso;simp [Value.ownBlock] at hb2
  · obtain ⟨g,rfl⟩:=hz a rfl
    refine ⟨g,?_,rfl⟩
    simp [Value.ownBlock] at hb2
    omega
 obtain ⟨g,hg,rfl⟩:=hA
 have HB1:=HB2.out
 have HF:Fr (· = b) w w2:=((Fr.refl (· = b) w).drew.alloc _).grown hgr (fun k e=>by simp [Value.ownBlock] at e;right;omega)
 refine ⟨rfl,some ⟨g,0,none⟩,c',⟨(HB1.set_ 0 _).set_ 1 _,?_⟩,(HF.setCell (p:=⟨b,0,none⟩) (.inl rfl) _).setCell (p:=⟨b,1,none⟩) (.inl rfl) _,.inr ⟨rfl,g,hg,rfl⟩⟩
 have hne:(Value.slice (some ⟨g,0,none⟩) l.length c').ownBlock≠some b:=by simp [Value.ownBlock];omega
 exact ownsRow_setCell_other (a:=⟨b,1,none⟩) (ownsRow_setCell_other (a:=⟨b,0,none⟩) hown hne _) hne _
theorem own_PgW (b c:Nat) (sn:Bool) (A:Option Addr) (l:List PgW) (w:World) (hS:PgWSet w b sn A c l) (hl:(l.length:Int)≤1000000000) :
 Calls Try.prog 76 #[.pointer (some ⟨b,0,none⟩)] w (OwnPostPgW w b sn A l):=by
 cases sn
 · exact own_no_PgW b c A l w hS
 · exact own_yes_PgW b c A l w hS hl
end Go.Proofs.Ytffemfglngikbaa
