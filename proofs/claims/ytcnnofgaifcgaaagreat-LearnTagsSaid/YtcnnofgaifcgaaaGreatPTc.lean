/-
  Texts put together: Types, Own, RangeP, RangeO, Store, RangeO2.
-/
import Derived.Test.YtcnnofgaifcgaaaGreatPTb
namespace Go.Proofs.YtcnnofgaifcgaaaGreat
set_option maxRecDepth 100000
set_option maxHeartbeats 32000000
set_option linter.unusedSimpArgs false
section
open Go.RowKit Go.ChangeShapes Go.WideShapes Go.Deep
def Z3n:RepT Sym:=RepT.flat 3 Sym.cells Sym.cells_length
theorem Z2c:Z9l Tryz.prog 41 Z3n:=Zao Sym.cells_length Zmp
theorem Zpw {D:Nat→Prop}{w:World}{A:Option Addr}{c k:Nat}{l:List Sym}(h:RowR Z3n D w A c l) (hk:k<l.length):∃g off,A=some ⟨g,off,none⟩∧D g∧g<w.heap.size∧w.cell? ⟨g,off+k*3,none⟩=some (.int .i64 l[k].kind)∧w.cell? ⟨g,off+k*3+1,none⟩=some (.string l[k].text)∧w.cell? ⟨g,off+k*3+2,none⟩=some (.int .i64 l[k].n):=by
 obtain ⟨g,off,cs,hA,hD,hg,hr,hc⟩:=h.at_ hk;have Gz:cs=Sym.cells l[k]:=hr;subst Gz;refine ⟨g,off,hA,hD,hg,by simpa [Z3n,RepT.flat] using hc 0 _ rfl,by simpa [Z3n,RepT.flat] using hc 1 _ rfl,by simpa [Z3n,RepT.flat] using hc 2 _ rfl⟩
structure Elem where
 id:Sym
 attr:Sym
 value:Sym
 acc:Bool
 goal:Bool
 tag:Int
def Elem.cells (x:Elem):List Value:=[.int .i64 x.id.kind,.string x.id.text,.int .i64 x.id.n,.int .i64 x.attr.kind,.string x.attr.text,.int .i64 x.attr.n,.int .i64 x.value.kind,.string x.value.text,.int .i64 x.value.n,.bool x.acc,.bool x.goal,.int .i64 x.tag]
theorem Elem.cells_length (x:Elem):x.cells.length=12:=rfl
def Z39:RepT Elem:=RepT.flat 12 Elem.cells Elem.cells_length
theorem Zqn {D:Nat→Prop}{w:World}{A:Option Addr}{c k:Nat}{l:List Elem}(h:RowR Z39 D w A c l) (hk:k<l.length):∃g off,A=some ⟨g,off,none⟩∧D g∧g<w.heap.size∧w.cell? ⟨g,off+k*12,none⟩=some (.int .i64 l[k].id.kind)∧w.cell? ⟨g,off+k*12+1,none⟩=some (.string l[k].id.text)∧w.cell? ⟨g,off+k*12+2,none⟩=some (.int .i64 l[k].id.n)∧w.cell? ⟨g,off+k*12+3,none⟩=some (.int .i64 l[k].attr.kind)∧w.cell? ⟨g,off+k*12+4,none⟩=some (.string l[k].attr.text)∧w.cell? ⟨g,off+k*12+5,none⟩=some (.int .i64 l[k].attr.n)∧w.cell? ⟨g,off+k*12+6,none⟩=some (.int .i64 l[k].value.kind)∧w.cell? ⟨g,off+k*12+7,none⟩=some (.string l[k].value.text)∧w.cell? ⟨g,off+k*12+8,none⟩=some (.int .i64 l[k].value.n)∧w.cell? ⟨g,off+k*12+9,none⟩=some (.bool l[k].acc)∧w.cell? ⟨g,off+k*12+10,none⟩=some (.bool l[k].goal)∧w.cell? ⟨g,off+k*12+11,none⟩=some (.int .i64 l[k].tag):=by
 obtain ⟨g,off,cs,hA,hD,hg,hr,hc⟩:=h.at_ hk;have Gz:cs=Elem.cells l[k]:=hr;subst Gz;refine ⟨g,off,hA,hD,hg,by simpa [Z39,RepT.flat] using hc 0 _ rfl,by simpa [Z39,RepT.flat] using hc 1 _ rfl,by simpa [Z39,RepT.flat] using hc 2 _ rfl,by simpa [Z39,RepT.flat] using hc 3 _ rfl,by simpa [Z39,RepT.flat] using hc 4 _ rfl,by simpa [Z39,RepT.flat] using hc 5 _ rfl,by simpa [Z39,RepT.flat] using hc 6 _ rfl,by simpa [Z39,RepT.flat] using hc 7 _ rfl,by simpa [Z39,RepT.flat] using hc 8 _ rfl,by simpa [Z39,RepT.flat] using hc 9 _ rfl,by simpa [Z39,RepT.flat] using hc 10 _ rfl,by simpa [Z39,RepT.flat] using hc 11 _ rfl⟩
theorem Zjb:Z9l Tryz.prog 50 Z39:=
 ⟨Yb,fun H enc w base spare held n cs x h=>by
  have Ds:cs.length=12:=(Z4v Tryz.underlying50 h).trans Yb;obtain ⟨m0,y0,h0⟩:=Z13 Tryz.underlying50 h 0 rfl 41 0 3 rfl rfl Yb;obtain ⟨m1,y1,h1⟩:=Z13 Tryz.underlying50 h 1 rfl 41 3 3 rfl rfl Yb;obtain ⟨m2,y2,h2⟩:=Z13 Tryz.underlying50 h 2 rfl 41 6 3 rfl rfl Yb;obtain ⟨m3,y3,h3⟩:=Z13 Tryz.underlying50 h 3 rfl 4 9 1 rfl rfl Yb;obtain ⟨m4,y4,h4⟩:=Z13 Tryz.underlying50 h 4 rfl 4 10 1 rfl rfl Yb;obtain ⟨m5,y5,h5⟩:=Z13 Tryz.underlying50 h 5 rfl 3 11 1 rfl rfl Yb
  match cs,Ds with
  | [v0,v1,v2,v3,v4,v5,v6,v7,v8,v9,v10,v11],_=>
    simp at h0 h1 h2 h3 h4 h5;obtain ⟨a0,e0⟩:=Z2c.2 H enc w base spare held _ _ _ h0;have e0:_=Sym.cells a0:=e0;simp [Sym.cells] at e0;obtain ⟨a1,e1⟩:=Z2c.2 H enc w base spare held _ _ _ h1;have e1:_=Sym.cells a1:=e1;simp [Sym.cells] at e1;obtain ⟨a2,e2⟩:=Z2c.2 H enc w base spare held _ _ _ h2;have e2:_=Sym.cells a2:=e2;simp [Sym.cells] at e2;obtain ⟨a3,e3,_⟩:=DataW.trod_bool Tryz.underlying4 h3;simp at e3;obtain ⟨a4,e4,_⟩:=DataW.trod_bool Tryz.underlying4 h4;simp at e4;obtain ⟨a5,e5,_⟩:=DataW.trod_int Tryz.underlying3 h5;simp at e5;obtain ⟨rfl,rfl,rfl⟩:=e0;obtain ⟨rfl,rfl,rfl⟩:=e1;obtain ⟨rfl,rfl,rfl⟩:=e2;subst e3;subst e4;subst e5
    exact ⟨⟨a0,a1,a2,a3,a4,a5⟩,rfl⟩⟩
structure Z0z where
 rel:Int
 var:ByteArray
 sym:Sym
 list:List Sym
def Z07:RepT Z0z:=
 { size:=6,rep:=fun D w x cs=>∃A1 c1,cs = [.int .i64 x.rel,.string x.var,.int .i64 x.sym.kind,.string x.sym.text,.int .i64 x.sym.n,.slice A1 x.list.length c1]∧RowR Z3n D w A1 c1 x.list,
   len:=by rintro _ _ _ _ ⟨_,_,rfl,_⟩;rfl,
   keep:=by
    rintro _ _ _ _ _ _ hs hk ⟨A1,c1,h0,h1⟩
    exact ⟨A1,c1,h0,h1.keep hs hk⟩ }
theorem Z5a {D:Nat→Prop}{w:World}{A:Option Addr}{c k:Nat}{l:List Z0z}(h:RowR Z07 D w A c l) (hk:k<l.length):∃g off A1 c1,A=some ⟨g,off,none⟩∧D g∧g<w.heap.size∧w.cell? ⟨g,off+k*6,none⟩=some (.int .i64 l[k].rel)∧w.cell? ⟨g,off+k*6+1,none⟩=some (.string l[k].var)∧w.cell? ⟨g,off+k*6+2,none⟩=some (.int .i64 l[k].sym.kind)∧w.cell? ⟨g,off+k*6+3,none⟩=some (.string l[k].sym.text)∧w.cell? ⟨g,off+k*6+4,none⟩=some (.int .i64 l[k].sym.n)∧w.cell? ⟨g,off+k*6+5,none⟩=some (.slice A1 l[k].list.length c1)∧RowR Z3n D w A1 c1 l[k].list:=by
 obtain ⟨g,off,cs,hA,hD,hg,⟨A1,c1,rfl,Tp⟩,hc⟩:=h.at_ hk;exact ⟨g,off,A1,c1,hA,hD,hg,by simpa [Z07] using hc 0 _ rfl,by simpa [Z07] using hc 1 _ rfl,by simpa [Z07] using hc 2 _ rfl,by simpa [Z07] using hc 3 _ rfl,by simpa [Z07] using hc 4 _ rfl,by simpa [Z07] using hc 5 _ rfl,Tp⟩
theorem Z60:Z9l Tryz.prog 196 Z07:=
 ⟨Yb,fun H enc w base spare held n cs x h=>by
  have Ds:cs.length=6:=(Z4v Tryz.underlying196 h).trans Yb;obtain ⟨m0,y0,h0⟩:=Z13 Tryz.underlying196 h 0 rfl 3 0 1 rfl rfl Yb;obtain ⟨m1,y1,h1⟩:=Z13 Tryz.underlying196 h 1 rfl 9 1 1 rfl rfl Yb;obtain ⟨m2,y2,h2⟩:=Z13 Tryz.underlying196 h 2 rfl 41 2 3 rfl rfl Yb;obtain ⟨m3,y3,h3⟩:=Z13 Tryz.underlying196 h 3 rfl 34 5 1 rfl rfl Yb
  match cs,Ds with
  | [v0,v1,v2,v3,v4,v5],_=>
    simp at h0 h1 h2 h3;obtain ⟨a0,e0,_⟩:=DataW.trod_int Tryz.underlying3 h0;simp at e0;obtain ⟨a1,e1,_⟩:=DataW.trod_string Tryz.underlying9 h1;simp at e1;obtain ⟨a2,e2⟩:=Z2c.2 H enc w base spare held _ _ _ h2;have e2:_=Sym.cells a2:=e2;simp [Sym.cells] at e2;obtain ⟨a3,A3,c3,e3,r3⟩:=(Zfz Tryz.underlying34 Yb Yc Z2c).2 H enc w base spare held _ _ _ h3;simp at e3;subst e0;subst e1;obtain ⟨rfl,rfl,rfl⟩:=e2;subst e3
    exact ⟨⟨a0,a1,a2,a3⟩,A3,c3,rfl,r3⟩⟩
inductive Z0a where
 | mk (kind:Int) (goal:Bool) (id:ByteArray) (attr:List Z0z) (value:List Z0z) (acc:Bool) (conds:List Z0a)
def Z0a.kind:Z0a→Int
 | .mk x _ _ _ _ _ _=>x
def Z0a.goal:Z0a→Bool
 | .mk _ x _ _ _ _ _=>x
def Z0a.id:Z0a→ByteArray
 | .mk _ _ x _ _ _ _=>x
def Z0a.attr:Z0a→List Z0z
 | .mk _ _ _ x _ _ _=>x
def Z0a.value:Z0a→List Z0z
 | .mk _ _ _ _ x _ _=>x
def Z0a.acc:Z0a→Bool
 | .mk _ _ _ _ _ x _=>x
def Z0a.conds:Z0a→List Z0a
 | .mk _ _ _ _ _ _ x=>x
def Z09:Nat→RepT Z0a
 | 0=>{ size:=7,rep:=fun _ _ _ _=>False,len:=fun h=>h.elim,keep:=fun _ _ h=>h }
 | n+1=>
 { size:=7,rep:=fun D w x cs=>∃A1 c1 A2 c2 A3 c3,cs = [.int .i64 x.kind,.bool x.goal,.string x.id,.slice A1 x.attr.length c1,.slice A2 x.value.length c2,.bool x.acc,.slice A3 x.conds.length c3]∧RowR Z07 D w A1 c1 x.attr∧RowR Z07 D w A2 c2 x.value∧RowR (Z09 n) D w A3 c3 x.conds,
   len:=by rintro _ _ _ _ ⟨_,_,_,_,_,_,rfl,_⟩;rfl,
   keep:=by
    rintro _ _ _ _ _ _ hs hk ⟨A1,c1,A2,c2,A3,c3,h0,h1,h2,h3⟩
    exact ⟨A1,c1,A2,c2,A3,c3,h0,h1.keep hs hk,h2.keep hs hk,h3.keep hs hk⟩ }
theorem Z23 (n:Nat):(Z09 n).size=7:=by cases n<;>rfl
theorem Z31 {n:Nat}{D:Nat→Prop}{w:World}{A:Option Addr}{c k:Nat}{l:List Z0a}(h:RowR (Z09 (n+1)) D w A c l) (hk:k<l.length):∃g off A1 c1 A2 c2 A3 c3,A=some ⟨g,off,none⟩∧D g∧g<w.heap.size∧w.cell? ⟨g,off+k*7,none⟩=some (.int .i64 l[k].kind)∧w.cell? ⟨g,off+k*7+1,none⟩=some (.bool l[k].goal)∧w.cell? ⟨g,off+k*7+2,none⟩=some (.string l[k].id)∧w.cell? ⟨g,off+k*7+3,none⟩=some (.slice A1 l[k].attr.length c1)∧w.cell? ⟨g,off+k*7+4,none⟩=some (.slice A2 l[k].value.length c2)∧w.cell? ⟨g,off+k*7+5,none⟩=some (.bool l[k].acc)∧w.cell? ⟨g,off+k*7+6,none⟩=some (.slice A3 l[k].conds.length c3)∧RowR Z07 D w A1 c1 l[k].attr∧RowR Z07 D w A2 c2 l[k].value∧RowR (Z09 n) D w A3 c3 l[k].conds:=by
 obtain ⟨g,off,cs,hA,hD,hg,⟨A1,c1,A2,c2,A3,c3,rfl,Tp⟩,hc⟩:=h.at_ hk;exact ⟨g,off,A1,c1,A2,c2,A3,c3,hA,hD,hg,by simpa [Z09] using hc 0 _ rfl,by simpa [Z09] using hc 1 _ rfl,by simpa [Z09] using hc 2 _ rfl,by simpa [Z09] using hc 3 _ rfl,by simpa [Z09] using hc 4 _ rfl,by simpa [Z09] using hc 5 _ rfl,by simpa [Z09] using hc 6 _ rfl,Tp⟩
theorem Z63 :∀(n:Nat){D:Nat→Prop}{w:World}{a:Z0a}{cs:List Value},(Z09 n).rep D w a cs→(Z09 (n+1)).rep D w a cs
 | 0,_,_,_,_,h=>h.elim
 | n+1,_,_,_,_,h=>by
   obtain ⟨A1,c1,A2,c2,A3,c3,h0,h1,h2,h3⟩:=h;exact ⟨A1,c1,A2,c2,A3,c3,h0,h1,h2,h3.imp (by rw [Z23,Z23]) (fun _ _ g=>Z63 n g)⟩
theorem Zad {m n:Nat}(h:m≤n){D:Nat→Prop}{w:World}{a:Z0a}{cs:List Value}(g:(Z09 m).rep D w a cs):(Z09 n).rep D w a cs:=by
 induction n with
 | zero=>obtain rfl:m=0:=by omega
         exact g
 | succ n ih=>
   by_cases e:m=n+1
   · subst e;exact g
   · exact Z63 n (ih Ya)
theorem Zaf {m n:Nat}(h:m≤n){D:Nat→Prop}{w:World}{A:Option Addr}{c:Nat}{l:List Z0a}(g:RowR (Z09 m) D w A c l):RowR (Z09 n) D w A c l:=g.imp (by rw [Z23,Z23]) (fun _ _ q=>Zad h q)
theorem Zos {cs:List Value}(h:cs.length=7):∃v0 v1 v2 v3 v4 v5 v6,cs = [v0,v1,v2,v3,v4,v5,v6]:=by
 match cs,h with
 | [v0,v1,v2,v3,v4,v5,v6],_=>exact ⟨v0,v1,v2,v3,v4,v5,v6,rfl⟩
theorem Zfw {H:Type}(enc:TypeId×Value→H) (w:World) (base:Nat) (spare:Nat→Bool) (held:Bool):∀(fuel:Nat) (cs:List Value) (x:DataW H×List MemPlace),DataW.trod enc Tryz.prog w base spare held fuel 77 cs=some x→∃a:Z0a,(Z09 fuel).rep (· < w.heap.size) w a cs:=by
 intro fuel
 induction fuel using Nat.strongRecOn with
 | _ fuel ih=>
   intro cs x h;obtain ⟨n,rfl⟩:∃n,fuel=n+1:=⟨fuel - 1,by have:=Zcs h;omega⟩;have Ds:cs.length=7:=(Z4v Tryz.underlying77 h).trans Yb;obtain ⟨y0,h0⟩:=Z1o Tryz.underlying77 h 0 rfl 3 0 1 rfl rfl Yb;obtain ⟨y1,h1⟩:=Z1o Tryz.underlying77 h 1 rfl 4 1 1 rfl rfl Yb;obtain ⟨y2,h2⟩:=Z1o Tryz.underlying77 h 2 rfl 9 2 1 rfl rfl Yb;obtain ⟨y3,h3⟩:=Z1o Tryz.underlying77 h 3 rfl 75 3 1 rfl rfl Yb;obtain ⟨y4,h4⟩:=Z1o Tryz.underlying77 h 4 rfl 75 4 1 rfl rfl Yb;obtain ⟨y5,h5⟩:=Z1o Tryz.underlying77 h 5 rfl 4 5 1 rfl rfl Yb;obtain ⟨y6,h6⟩:=Z1o Tryz.underlying77 h 6 rfl 26 6 1 rfl rfl Yb;obtain ⟨v0,v1,v2,v3,v4,v5,v6,rfl⟩:=Zos Ds;simp at h0 h1 h2 h3 h4 h5 h6;obtain ⟨a0,e0,_⟩:=DataW.trod_int Tryz.underlying3 h0;simp at e0;obtain ⟨a1,e1,_⟩:=DataW.trod_bool Tryz.underlying4 h1;simp at e1;obtain ⟨a2,e2,_⟩:=DataW.trod_string Tryz.underlying9 h2;simp at e2;obtain ⟨A3,c3,a3,e3,r3⟩:=Z3a (r:=Z07) Tryz.underlying75 Yc Z60.1 (fun n cs x hx=>Z60.2 H enc w base spare held n cs x hx) h3;simp at e3;obtain ⟨A4,c4,a4,e4,r4⟩:=Z3a (r:=Z07) Tryz.underlying75 Yc Z60.1 (fun n cs x hx=>Z60.2 H enc w base spare held n cs x hx) h4;simp at e4;obtain ⟨a5,e5,_⟩:=DataW.trod_bool Tryz.underlying4 h5;simp at e5;obtain ⟨A6,c6,a6,e6,r6⟩:=Z6v (r:=Z09 n) Tryz.underlying26 (by rw [Z23];decide) (by rw [Z23];kernel_rfl) (fun m hm cs x hx=>(ih m Ya cs x hx).imp fun _ g=>Zad Ya g) h6;simp at e6;subst e0;subst e1;subst e2;subst e3;subst e4;subst e5;subst e6;exact ⟨⟨a0,a1,a2,a3,a4,a5,a6⟩,A3,c3,A4,c4,A6,c6,rfl,r3,r4,r6⟩
structure Z5l where
 var:ByteArray
 sym:Sym
structure Zi6 where
 op:Int
 a:Z5l
 b:Z5l
structure ActT where
 id:ByteArray
 attr:Z5l
 value:Zi6
 pref:Int
 other:Z5l
def ActT.cells (x:ActT):List Value:=[.string x.id,.string x.attr.var,.int .i64 x.attr.sym.kind,.string x.attr.sym.text,.int .i64 x.attr.sym.n,.int .i64 x.value.op,.string x.value.a.var,.int .i64 x.value.a.sym.kind,.string x.value.a.sym.text,.int .i64 x.value.a.sym.n,.string x.value.b.var,.int .i64 x.value.b.sym.kind,.string x.value.b.sym.text,.int .i64 x.value.b.sym.n,.int .i64 x.pref,.string x.other.var,.int .i64 x.other.sym.kind,.string x.other.sym.text,.int .i64 x.other.sym.n]
theorem ActT.cells_length (x:ActT):x.cells.length=19:=rfl
def Z1x:RepT ActT:=RepT.flat 19 ActT.cells ActT.cells_length
theorem Zkc {D:Nat→Prop}{w:World}{A:Option Addr}{c k:Nat}{l:List ActT}(h:RowR Z1x D w A c l) (hk:k<l.length):∃g off,A=some ⟨g,off,none⟩∧D g∧g<w.heap.size∧w.cell? ⟨g,off+k*19,none⟩=some (.string l[k].id)∧w.cell? ⟨g,off+k*19+1,none⟩=some (.string l[k].attr.var)∧w.cell? ⟨g,off+k*19+2,none⟩=some (.int .i64 l[k].attr.sym.kind)∧w.cell? ⟨g,off+k*19+3,none⟩=some (.string l[k].attr.sym.text)∧w.cell? ⟨g,off+k*19+4,none⟩=some (.int .i64 l[k].attr.sym.n)∧w.cell? ⟨g,off+k*19+5,none⟩=some (.int .i64 l[k].value.op)∧w.cell? ⟨g,off+k*19+6,none⟩=some (.string l[k].value.a.var)∧w.cell? ⟨g,off+k*19+7,none⟩=some (.int .i64 l[k].value.a.sym.kind)∧w.cell? ⟨g,off+k*19+8,none⟩=some (.string l[k].value.a.sym.text)∧w.cell? ⟨g,off+k*19+9,none⟩=some (.int .i64 l[k].value.a.sym.n)∧w.cell? ⟨g,off+k*19+10,none⟩=some (.string l[k].value.b.var)∧w.cell? ⟨g,off+k*19+11,none⟩=some (.int .i64 l[k].value.b.sym.kind)∧w.cell? ⟨g,off+k*19+12,none⟩=some (.string l[k].value.b.sym.text)∧w.cell? ⟨g,off+k*19+13,none⟩=some (.int .i64 l[k].value.b.sym.n)∧w.cell? ⟨g,off+k*19+14,none⟩=some (.int .i64 l[k].pref)∧w.cell? ⟨g,off+k*19+15,none⟩=some (.string l[k].other.var)∧w.cell? ⟨g,off+k*19+16,none⟩=some (.int .i64 l[k].other.sym.kind)∧w.cell? ⟨g,off+k*19+17,none⟩=some (.string l[k].other.sym.text)∧w.cell? ⟨g,off+k*19+18,none⟩=some (.int .i64 l[k].other.sym.n):=by
 obtain ⟨g,off,cs,hA,hD,hg,hr,hc⟩:=h.at_ hk;have Gz:cs=ActT.cells l[k]:=hr;subst Gz;refine ⟨g,off,hA,hD,hg,by simpa [Z1x,RepT.flat] using hc 0 _ rfl,by simpa [Z1x,RepT.flat] using hc 1 _ rfl,by simpa [Z1x,RepT.flat] using hc 2 _ rfl,by simpa [Z1x,RepT.flat] using hc 3 _ rfl,by simpa [Z1x,RepT.flat] using hc 4 _ rfl,by simpa [Z1x,RepT.flat] using hc 5 _ rfl,by simpa [Z1x,RepT.flat] using hc 6 _ rfl,by simpa [Z1x,RepT.flat] using hc 7 _ rfl,by simpa [Z1x,RepT.flat] using hc 8 _ rfl,by simpa [Z1x,RepT.flat] using hc 9 _ rfl,by simpa [Z1x,RepT.flat] using hc 10 _ rfl,by simpa [Z1x,RepT.flat] using hc 11 _ rfl,by simpa [Z1x,RepT.flat] using hc 12 _ rfl,by simpa [Z1x,RepT.flat] using hc 13 _ rfl,by simpa [Z1x,RepT.flat] using hc 14 _ rfl,by simpa [Z1x,RepT.flat] using hc 15 _ rfl,by simpa [Z1x,RepT.flat] using hc 16 _ rfl,by simpa [Z1x,RepT.flat] using hc 17 _ rfl,by simpa [Z1x,RepT.flat] using hc 18 _ rfl⟩
structure Z3r where
 name:ByteArray
 conds:List Z0a
 acts:List ActT
structure Z0t where
 var:ByteArray
 sym:Sym
def Z0t.cells (x:Z0t):List Value:=[.string x.var,.int .i64 x.sym.kind,.string x.sym.text,.int .i64 x.sym.n]
theorem Z0t.cells_length (x:Z0t):x.cells.length=4:=rfl
def Z86:RepT Z0t:=RepT.flat 4 Z0t.cells Z0t.cells_length
theorem Za5:Z9l Tryz.prog 126 Z86:=
 ⟨Yb,fun H enc w base spare held n cs x h=>by
  have Ds:cs.length=4:=(Z4v Tryz.underlying126 h).trans Yb;obtain ⟨m0,y0,h0⟩:=Z13 Tryz.underlying126 h 0 rfl 9 0 1 rfl rfl Yb;obtain ⟨m1,y1,h1⟩:=Z13 Tryz.underlying126 h 1 rfl 41 1 3 rfl rfl Yb
  match cs,Ds with
  | [v0,v1,v2,v3],_=>
    simp at h0 h1;obtain ⟨a0,e0,_⟩:=DataW.trod_string Tryz.underlying9 h0;simp at e0;obtain ⟨a1,e1⟩:=Z2c.2 H enc w base spare held _ _ _ h1;have e1:_=Sym.cells a1:=e1;simp [Sym.cells] at e1;subst e0;obtain ⟨rfl,rfl,rfl⟩:=e1
    exact ⟨⟨a0,a1⟩,rfl⟩⟩
structure Z24 where
 id:Sym
 attr:Sym
 value:Sym
 other:Sym
 kind:Int
 o:Bool
 level:Int
 by_:Int
def Z24.cells (x:Z24):List Value:=[.int .i64 x.id.kind,.string x.id.text,.int .i64 x.id.n,.int .i64 x.attr.kind,.string x.attr.text,.int .i64 x.attr.n,.int .i64 x.value.kind,.string x.value.text,.int .i64 x.value.n,.int .i64 x.other.kind,.string x.other.text,.int .i64 x.other.n,.int .i64 x.kind,.bool x.o,.int .i64 x.level,.int .i64 x.by_]
theorem Z24.cells_length (x:Z24):x.cells.length=16:=rfl
def Zpl:RepT Z24:=RepT.flat 16 Z24.cells Z24.cells_length
theorem Zfy:Z9l Tryz.prog 63 Zpl:=
 ⟨Yb,fun H enc w base spare held n cs x h=>by
  have Ds:cs.length=16:=(Z4v Tryz.underlying63 h).trans Yb;obtain ⟨m0,y0,h0⟩:=Z13 Tryz.underlying63 h 0 rfl 41 0 3 rfl rfl Yb;obtain ⟨m1,y1,h1⟩:=Z13 Tryz.underlying63 h 1 rfl 41 3 3 rfl rfl Yb;obtain ⟨m2,y2,h2⟩:=Z13 Tryz.underlying63 h 2 rfl 41 6 3 rfl rfl Yb;obtain ⟨m3,y3,h3⟩:=Z13 Tryz.underlying63 h 3 rfl 41 9 3 rfl rfl Yb;obtain ⟨m4,y4,h4⟩:=Z13 Tryz.underlying63 h 4 rfl 3 12 1 rfl rfl Yb;obtain ⟨m5,y5,h5⟩:=Z13 Tryz.underlying63 h 5 rfl 4 13 1 rfl rfl Yb;obtain ⟨m6,y6,h6⟩:=Z13 Tryz.underlying63 h 6 rfl 3 14 1 rfl rfl Yb;obtain ⟨m7,y7,h7⟩:=Z13 Tryz.underlying63 h 7 rfl 3 15 1 rfl rfl Yb
  match cs,Ds with
  | [v0,v1,v2,v3,v4,v5,v6,v7,v8,v9,v10,v11,v12,v13,v14,v15],_=>
    simp at h0 h1 h2 h3 h4 h5 h6 h7;obtain ⟨a0,e0⟩:=Z2c.2 H enc w base spare held _ _ _ h0;have e0:_=Sym.cells a0:=e0;simp [Sym.cells] at e0;obtain ⟨a1,e1⟩:=Z2c.2 H enc w base spare held _ _ _ h1;have e1:_=Sym.cells a1:=e1;simp [Sym.cells] at e1;obtain ⟨a2,e2⟩:=Z2c.2 H enc w base spare held _ _ _ h2;have e2:_=Sym.cells a2:=e2;simp [Sym.cells] at e2;obtain ⟨a3,e3⟩:=Z2c.2 H enc w base spare held _ _ _ h3;have e3:_=Sym.cells a3:=e3;simp [Sym.cells] at e3;obtain ⟨a4,e4,_⟩:=DataW.trod_int Tryz.underlying3 h4;simp at e4;obtain ⟨a5,e5,_⟩:=DataW.trod_bool Tryz.underlying4 h5;simp at e5;obtain ⟨a6,e6,_⟩:=DataW.trod_int Tryz.underlying3 h6;simp at e6;obtain ⟨a7,e7,_⟩:=DataW.trod_int Tryz.underlying3 h7;simp at e7;obtain ⟨rfl,rfl,rfl⟩:=e0;obtain ⟨rfl,rfl,rfl⟩:=e1;obtain ⟨rfl,rfl,rfl⟩:=e2;obtain ⟨rfl,rfl,rfl⟩:=e3;subst e4;subst e5;subst e6;subst e7
    exact ⟨⟨a0,a1,a2,a3,a4,a5,a6,a7⟩,rfl⟩⟩
structure Z0j where
 elem:Elem
 level:Int
 cause:Int
def Z0j.cells (x:Z0j):List Value:=[.int .i64 x.elem.id.kind,.string x.elem.id.text,.int .i64 x.elem.id.n,.int .i64 x.elem.attr.kind,.string x.elem.attr.text,.int .i64 x.elem.attr.n,.int .i64 x.elem.value.kind,.string x.elem.value.text,.int .i64 x.elem.value.n,.bool x.elem.acc,.bool x.elem.goal,.int .i64 x.elem.tag,.int .i64 x.level,.int .i64 x.cause]
theorem Z0j.cells_length (x:Z0j):x.cells.length=14:=rfl
def Z1f:RepT Z0j:=RepT.flat 14 Z0j.cells Z0j.cells_length
theorem Z9n {D:Nat→Prop}{w:World}{A:Option Addr}{c k:Nat}{l:List Z0j}(h:RowR Z1f D w A c l) (hk:k<l.length):∃g off,A=some ⟨g,off,none⟩∧D g∧g<w.heap.size∧w.cell? ⟨g,off+k*14,none⟩=some (.int .i64 l[k].elem.id.kind)∧w.cell? ⟨g,off+k*14+1,none⟩=some (.string l[k].elem.id.text)∧w.cell? ⟨g,off+k*14+2,none⟩=some (.int .i64 l[k].elem.id.n)∧w.cell? ⟨g,off+k*14+3,none⟩=some (.int .i64 l[k].elem.attr.kind)∧w.cell? ⟨g,off+k*14+4,none⟩=some (.string l[k].elem.attr.text)∧w.cell? ⟨g,off+k*14+5,none⟩=some (.int .i64 l[k].elem.attr.n)∧w.cell? ⟨g,off+k*14+6,none⟩=some (.int .i64 l[k].elem.value.kind)∧w.cell? ⟨g,off+k*14+7,none⟩=some (.string l[k].elem.value.text)∧w.cell? ⟨g,off+k*14+8,none⟩=some (.int .i64 l[k].elem.value.n)∧w.cell? ⟨g,off+k*14+9,none⟩=some (.bool l[k].elem.acc)∧w.cell? ⟨g,off+k*14+10,none⟩=some (.bool l[k].elem.goal)∧w.cell? ⟨g,off+k*14+11,none⟩=some (.int .i64 l[k].elem.tag)∧w.cell? ⟨g,off+k*14+12,none⟩=some (.int .i64 l[k].level)∧w.cell? ⟨g,off+k*14+13,none⟩=some (.int .i64 l[k].cause):=by
 obtain ⟨g,off,cs,hA,hD,hg,hr,hc⟩:=h.at_ hk;have Gz:cs=Z0j.cells l[k]:=hr;subst Gz;refine ⟨g,off,hA,hD,hg,by simpa [Z1f,RepT.flat] using hc 0 _ rfl,by simpa [Z1f,RepT.flat] using hc 1 _ rfl,by simpa [Z1f,RepT.flat] using hc 2 _ rfl,by simpa [Z1f,RepT.flat] using hc 3 _ rfl,by simpa [Z1f,RepT.flat] using hc 4 _ rfl,by simpa [Z1f,RepT.flat] using hc 5 _ rfl,by simpa [Z1f,RepT.flat] using hc 6 _ rfl,by simpa [Z1f,RepT.flat] using hc 7 _ rfl,by simpa [Z1f,RepT.flat] using hc 8 _ rfl,by simpa [Z1f,RepT.flat] using hc 9 _ rfl,by simpa [Z1f,RepT.flat] using hc 10 _ rfl,by simpa [Z1f,RepT.flat] using hc 11 _ rfl,by simpa [Z1f,RepT.flat] using hc 12 _ rfl,by simpa [Z1f,RepT.flat] using hc 13 _ rfl⟩
theorem Z93:Z9l Tryz.prog 52 Z1f:=
 ⟨Yb,fun H enc w base spare held n cs x h=>by
  have Ds:cs.length=14:=(Z4v Tryz.underlying52 h).trans Yb;obtain ⟨m0,y0,h0⟩:=Z13 Tryz.underlying52 h 0 rfl 50 0 12 rfl rfl Yb;obtain ⟨m1,y1,h1⟩:=Z13 Tryz.underlying52 h 1 rfl 3 12 1 rfl rfl Yb;obtain ⟨m2,y2,h2⟩:=Z13 Tryz.underlying52 h 2 rfl 3 13 1 rfl rfl Yb
  match cs,Ds with
  | [v0,v1,v2,v3,v4,v5,v6,v7,v8,v9,v10,v11,v12,v13],_=>
    simp at h0 h1 h2;obtain ⟨a0,e0⟩:=Zjb.2 H enc w base spare held _ _ _ h0;have e0:_=Elem.cells a0:=e0;simp [Elem.cells] at e0;obtain ⟨a1,e1,_⟩:=DataW.trod_int Tryz.underlying3 h1;simp at e1;obtain ⟨a2,e2,_⟩:=DataW.trod_int Tryz.underlying3 h2;simp at e2;obtain ⟨rfl,rfl,rfl,rfl,rfl,rfl,rfl,rfl,rfl,rfl,rfl,rfl⟩:=e0;subst e1;subst e2
    exact ⟨⟨a0,a1,a2⟩,rfl⟩⟩
structure Z43 where
 cond:Z0a
 binds:List Z0t
def Z0v (n:Nat):RepT Z43:=
 { size:=8,rep:=fun D w x cs=>∃A1 c1 A2 c2 A3 c3 A4 c4,cs = [.int .i64 x.cond.kind,.bool x.cond.goal,.string x.cond.id,.slice A1 x.cond.attr.length c1,.slice A2 x.cond.value.length c2,.bool x.cond.acc,.slice A3 x.cond.conds.length c3,.slice A4 x.binds.length c4]∧RowR Z07 D w A1 c1 x.cond.attr∧RowR Z07 D w A2 c2 x.cond.value∧RowR (Z09 n) D w A3 c3 x.cond.conds∧RowR Z86 D w A4 c4 x.binds,
   len:=by rintro _ _ _ _ ⟨_,_,_,_,_,_,_,_,rfl,_⟩;rfl,
   keep:=by
    rintro _ _ _ _ _ _ hs hk ⟨A1,c1,A2,c2,A3,c3,A4,c4,h0,h1,h2,h3,h4⟩
    exact ⟨A1,c1,A2,c2,A3,c3,A4,c4,h0,h1.keep hs hk,h2.keep hs hk,h3.keep hs hk,h4.keep hs hk⟩ }
theorem Z4u (n:Nat):(Z0v n).size=8:=rfl
theorem Zae {m n:Nat}(hmn:m≤n){D:Nat→Prop}{w:World}{a:Z43}{cs:List Value}(g:(Z0v m).rep D w a cs):(Z0v n).rep D w a cs:=by
 obtain ⟨A1,c1,A2,c2,A3,c3,A4,c4,h0,h1,h2,h3,h4⟩:=g;exact ⟨A1,c1,A2,c2,A3,c3,A4,c4,h0,h1,h2,Zaf hmn h3,h4⟩
theorem Zgi {m n:Nat}(h:m≤n){D:Nat→Prop}{w:World}{A:Option Addr}{c:Nat}{l:List Z43}(g:RowR (Z0v m) D w A c l):RowR (Z0v n) D w A c l:=g.imp (by rw [Z4u,Z4u]) (fun _ _ q=>Zae h q)
theorem Zbm {n:Nat}{D:Nat→Prop}{w:World}{A:Option Addr}{c k:Nat}{l:List Z43}(h:RowR (Z0v n) D w A c l) (hk:k<l.length):∃g off A1 c1 A2 c2 A3 c3 A4 c4,A=some ⟨g,off,none⟩∧D g∧g<w.heap.size∧w.cell? ⟨g,off+k*8,none⟩=some (.int .i64 l[k].cond.kind)∧w.cell? ⟨g,off+k*8+1,none⟩=some (.bool l[k].cond.goal)∧w.cell? ⟨g,off+k*8+2,none⟩=some (.string l[k].cond.id)∧w.cell? ⟨g,off+k*8+3,none⟩=some (.slice A1 l[k].cond.attr.length c1)∧w.cell? ⟨g,off+k*8+4,none⟩=some (.slice A2 l[k].cond.value.length c2)∧w.cell? ⟨g,off+k*8+5,none⟩=some (.bool l[k].cond.acc)∧w.cell? ⟨g,off+k*8+6,none⟩=some (.slice A3 l[k].cond.conds.length c3)∧w.cell? ⟨g,off+k*8+7,none⟩=some (.slice A4 l[k].binds.length c4)∧RowR Z07 D w A1 c1 l[k].cond.attr∧RowR Z07 D w A2 c2 l[k].cond.value∧RowR (Z09 n) D w A3 c3 l[k].cond.conds∧RowR Z86 D w A4 c4 l[k].binds:=by
 obtain ⟨g,off,cs,hA,hD,hg,⟨A1,c1,A2,c2,A3,c3,A4,c4,rfl,Tp⟩,hc⟩:=h.at_ hk;exact ⟨g,off,A1,c1,A2,c2,A3,c3,A4,c4,hA,hD,hg,by simpa [Z0v] using hc 0 _ rfl,by simpa [Z0v] using hc 1 _ rfl,by simpa [Z0v] using hc 2 _ rfl,by simpa [Z0v] using hc 3 _ rfl,by simpa [Z0v] using hc 4 _ rfl,by simpa [Z0v] using hc 5 _ rfl,by simpa [Z0v] using hc 6 _ rfl,by simpa [Z0v] using hc 7 _ rfl,Tp⟩
theorem Zot {cs:List Value}(h:cs.length=8):∃v0 v1 v2 v3 v4 v5 v6 v7,cs = [v0,v1,v2,v3,v4,v5,v6,v7]:=by
 match cs,h with
 | [v0,v1,v2,v3,v4,v5,v6,v7],_=>exact ⟨v0,v1,v2,v3,v4,v5,v6,v7,rfl⟩
theorem Zfx {H:Type}(enc:TypeId×Value→H) (w:World) (base:Nat) (spare:Nat→Bool) (held:Bool):∀(fuel:Nat) (cs:List Value) (x:DataW H×List MemPlace),DataW.trod enc Tryz.prog w base spare held fuel 80 cs=some x→∃a:Z43,(Z0v fuel).rep (· < w.heap.size) w a cs:=by
 intro fuel
 induction fuel using Nat.strongRecOn with
 | _ fuel ih=>
   intro cs x h;obtain ⟨n,rfl⟩:∃n,fuel=n+1:=⟨fuel - 1,by have:=Zcs h;omega⟩;have Ds:cs.length=8:=(Z4v Tryz.underlying80 h).trans Yb;obtain ⟨y0,h0⟩:=Z1o Tryz.underlying80 h 0 rfl 77 0 7 rfl rfl Yb;obtain ⟨y1,h1⟩:=Z1o Tryz.underlying80 h 1 rfl 78 7 1 rfl rfl Yb;obtain ⟨v0,v1,v2,v3,v4,v5,v6,v7,rfl⟩:=Zot Ds;simp at h0 h1;obtain ⟨a0,e0⟩:=Zfw enc w base spare held _ _ _ h0;have e0:=Z63 n e0;obtain ⟨A0_0,c0_0,A0_1,c0_1,A0_2,c0_2,q0,r0_0,r0_1,r0_2⟩:=e0;simp at q0;obtain ⟨A1,c1,a1,e1,r1⟩:=Z3a (r:=Z86) Tryz.underlying78 Yc Za5.1 (fun n cs x hx=>Za5.2 H enc w base spare held n cs x hx) h1;simp at e1;obtain ⟨rfl,rfl,rfl,rfl,rfl,rfl,rfl⟩:=q0;subst e1;exact ⟨⟨a0,a1⟩,A0_0,c0_0,A0_1,c0_1,A0_2,c0_2,A1,c1,rfl,r0_0,r0_1,Zaf Ya r0_2,r1⟩
structure Z1a where
 a:Sym
 b:Sym
 rel:Int
def Z1a.cells (x:Z1a):List Value:=[.int .i64 x.a.kind,.string x.a.text,.int .i64 x.a.n,.int .i64 x.b.kind,.string x.b.text,.int .i64 x.b.n,.int .i64 x.rel]
theorem Z1a.cells_length (x:Z1a):x.cells.length=7:=rfl
def Z3j:RepT Z1a:=RepT.flat 7 Z1a.cells Z1a.cells_length
theorem Z92:Z9l Tryz.prog 122 Z3j:=
 ⟨Yb,fun H enc w base spare held n cs x h=>by
  have Ds:cs.length=7:=(Z4v Tryz.underlying122 h).trans Yb;obtain ⟨m0,y0,h0⟩:=Z13 Tryz.underlying122 h 0 rfl 41 0 3 rfl rfl Yb;obtain ⟨m1,y1,h1⟩:=Z13 Tryz.underlying122 h 1 rfl 41 3 3 rfl rfl Yb;obtain ⟨m2,y2,h2⟩:=Z13 Tryz.underlying122 h 2 rfl 3 6 1 rfl rfl Yb
  match cs,Ds with
  | [v0,v1,v2,v3,v4,v5,v6],_=>
    simp at h0 h1 h2;obtain ⟨a0,e0⟩:=Z2c.2 H enc w base spare held _ _ _ h0;have e0:_=Sym.cells a0:=e0;simp [Sym.cells] at e0;obtain ⟨a1,e1⟩:=Z2c.2 H enc w base spare held _ _ _ h1;have e1:_=Sym.cells a1:=e1;simp [Sym.cells] at e1;obtain ⟨a2,e2,_⟩:=DataW.trod_int Tryz.underlying3 h2;simp at e2;obtain ⟨rfl,rfl,rfl⟩:=e0;obtain ⟨rfl,rfl,rfl⟩:=e1;subst e2
    exact ⟨⟨a0,a1,a2⟩,rfl⟩⟩
structure Z0c where
 num:Int
 level:Int
 elems:List Z0j
 holes:List Z43
 aparts:List Z1a
 news:List Sym
def Z18 (n:Nat):RepT Z0c:=
 { size:=6,rep:=fun D w x cs=>∃A1 c1 A2 c2 A3 c3 A4 c4,cs = [.int .i64 x.num,.int .i64 x.level,.slice A1 x.elems.length c1,.slice A2 x.holes.length c2,.slice A3 x.aparts.length c3,.slice A4 x.news.length c4]∧RowR Z1f D w A1 c1 x.elems∧RowR (Z0v n) D w A2 c2 x.holes∧RowR Z3j D w A3 c3 x.aparts∧RowR Z3n D w A4 c4 x.news,
   len:=by rintro _ _ _ _ ⟨_,_,_,_,_,_,_,_,rfl,_⟩;rfl,
   keep:=by
    rintro _ _ _ _ _ _ hs hk ⟨A1,c1,A2,c2,A3,c3,A4,c4,h0,h1,h2,h3,h4⟩
    exact ⟨A1,c1,A2,c2,A3,c3,A4,c4,h0,h1.keep hs hk,h2.keep hs hk,h3.keep hs hk,h4.keep hs hk⟩ }
theorem Z6u (n:Nat):(Z18 n).size=6:=rfl
theorem Zcm {m n:Nat}(hmn:m≤n){D:Nat→Prop}{w:World}{a:Z0c}{cs:List Value}(g:(Z18 m).rep D w a cs):(Z18 n).rep D w a cs:=by
 obtain ⟨A1,c1,A2,c2,A3,c3,A4,c4,h0,h1,h2,h3,h4⟩:=g;exact ⟨A1,c1,A2,c2,A3,c3,A4,c4,h0,h1,Zgi hmn h2,h3,h4⟩
theorem Zav {n:Nat}{D:Nat→Prop}{w:World}{A:Option Addr}{c k:Nat}{l:List Z0c}(h:RowR (Z18 n) D w A c l) (hk:k<l.length):∃g off A1 c1 A2 c2 A3 c3 A4 c4,A=some ⟨g,off,none⟩∧D g∧g<w.heap.size∧w.cell? ⟨g,off+k*6,none⟩=some (.int .i64 l[k].num)∧w.cell? ⟨g,off+k*6+1,none⟩=some (.int .i64 l[k].level)∧w.cell? ⟨g,off+k*6+2,none⟩=some (.slice A1 l[k].elems.length c1)∧w.cell? ⟨g,off+k*6+3,none⟩=some (.slice A2 l[k].holes.length c2)∧w.cell? ⟨g,off+k*6+4,none⟩=some (.slice A3 l[k].aparts.length c3)∧w.cell? ⟨g,off+k*6+5,none⟩=some (.slice A4 l[k].news.length c4)∧RowR Z1f D w A1 c1 l[k].elems∧RowR (Z0v n) D w A2 c2 l[k].holes∧RowR Z3j D w A3 c3 l[k].aparts∧RowR Z3n D w A4 c4 l[k].news:=by
 obtain ⟨g,off,cs,hA,hD,hg,⟨A1,c1,A2,c2,A3,c3,A4,c4,rfl,Tp⟩,hc⟩:=h.at_ hk;exact ⟨g,off,A1,c1,A2,c2,A3,c3,A4,c4,hA,hD,hg,by simpa [Z18] using hc 0 _ rfl,by simpa [Z18] using hc 1 _ rfl,by simpa [Z18] using hc 2 _ rfl,by simpa [Z18] using hc 3 _ rfl,by simpa [Z18] using hc 4 _ rfl,by simpa [Z18] using hc 5 _ rfl,Tp⟩
theorem Ziw {cs:List Value}(h:cs.length=6):∃v0 v1 v2 v3 v4 v5,cs = [v0,v1,v2,v3,v4,v5]:=by
 match cs,h with
 | [v0,v1,v2,v3,v4,v5],_=>exact ⟨v0,v1,v2,v3,v4,v5,rfl⟩
theorem Zcc {H:Type}(enc:TypeId×Value→H) (w:World) (base:Nat) (spare:Nat→Bool) (held:Bool):∀(fuel:Nat) (cs:List Value) (x:DataW H×List MemPlace),DataW.trod enc Tryz.prog w base spare held fuel 61 cs=some x→∃a:Z0c,(Z18 fuel).rep (· < w.heap.size) w a cs:=by
 intro fuel
 induction fuel using Nat.strongRecOn with
 | _ fuel ih=>
   intro cs x h;obtain ⟨n,rfl⟩:∃n,fuel=n+1:=⟨fuel - 1,by have:=Zcs h;omega⟩;have Ds:cs.length=6:=(Z4v Tryz.underlying61 h).trans Yb;obtain ⟨y0,h0⟩:=Z1o Tryz.underlying61 h 0 rfl 3 0 1 rfl rfl Yb;obtain ⟨y1,h1⟩:=Z1o Tryz.underlying61 h 1 rfl 3 1 1 rfl rfl Yb;obtain ⟨y2,h2⟩:=Z1o Tryz.underlying61 h 2 rfl 31 2 1 rfl rfl Yb;obtain ⟨y3,h3⟩:=Z1o Tryz.underlying61 h 3 rfl 32 3 1 rfl rfl Yb;obtain ⟨y4,h4⟩:=Z1o Tryz.underlying61 h 4 rfl 33 4 1 rfl rfl Yb;obtain ⟨y5,h5⟩:=Z1o Tryz.underlying61 h 5 rfl 34 5 1 rfl rfl Yb;obtain ⟨v0,v1,v2,v3,v4,v5,rfl⟩:=Ziw Ds;simp at h0 h1 h2 h3 h4 h5;obtain ⟨a0,e0,_⟩:=DataW.trod_int Tryz.underlying3 h0;simp at e0;obtain ⟨a1,e1,_⟩:=DataW.trod_int Tryz.underlying3 h1;simp at e1;obtain ⟨A2,c2,a2,e2,r2⟩:=Z3a (r:=Z1f) Tryz.underlying31 Yc Z93.1 (fun n cs x hx=>Z93.2 H enc w base spare held n cs x hx) h2;simp at e2;obtain ⟨A3,c3,a3,e3,r3⟩:=Z6v (r:=Z0v (n+1)) Tryz.underlying32 (by rw [Z4u];decide) (by rw [Z4u];kernel_rfl) (fun m hm cs x hx=>(Zfx enc w base spare held m cs x hx).imp fun _ g=>Zae Ya g) h3;simp at e3;obtain ⟨A4,c4,a4,e4,r4⟩:=Z3a (r:=Z3j) Tryz.underlying33 Yc Z92.1 (fun n cs x hx=>Z92.2 H enc w base spare held n cs x hx) h4;simp at e4;obtain ⟨A5,c5,a5,e5,r5⟩:=Z3a (r:=Z3n) Tryz.underlying34 Yc Z2c.1 (fun n cs x hx=>Z2c.2 H enc w base spare held n cs x hx) h5;simp at e5;subst e0;subst e1;subst e2;subst e3;subst e4;subst e5;exact ⟨⟨a0,a1,a2,a3,a4,a5⟩,A2,c2,A3,c3,A4,c4,A5,c5,rfl,r2,r3,r4,r5⟩
abbrev Q0e (x:ActT)  : List Value:=[.string x.id,.string x.attr.var,.int .i64 x.attr.sym.kind,.string x.attr.sym.text,.int .i64 x.attr.sym.n,.int .i64 x.value.op,.string x.value.a.var,.int .i64 x.value.a.sym.kind,.string x.value.a.sym.text,.int .i64 x.value.a.sym.n,.string x.value.b.var,.int .i64 x.value.b.sym.kind,.string x.value.b.sym.text,.int .i64 x.value.b.sym.n,.int .i64 x.pref,.string x.other.var,.int .i64 x.other.sym.kind,.string x.other.sym.text,.int .i64 x.other.sym.n]
abbrev Q0f (x:ActT)  : Array Value:=#[.string x.id,.string x.attr.var,.int .i64 x.attr.sym.kind,.string x.attr.sym.text,.int .i64 x.attr.sym.n,.int .i64 x.value.op,.string x.value.a.var,.int .i64 x.value.a.sym.kind,.string x.value.a.sym.text,.int .i64 x.value.a.sym.n,.string x.value.b.var,.int .i64 x.value.b.sym.kind,.string x.value.b.sym.text,.int .i64 x.value.b.sym.n,.int .i64 x.pref,.string x.other.var,.int .i64 x.other.sym.kind,.string x.other.sym.text,.int .i64 x.other.sym.n]
abbrev Q0g (x:Z0j)  : List Value:=[.int .i64 x.elem.id.kind,.string x.elem.id.text,.int .i64 x.elem.id.n,.int .i64 x.elem.attr.kind,.string x.elem.attr.text,.int .i64 x.elem.attr.n,.int .i64 x.elem.value.kind,.string x.elem.value.text,.int .i64 x.elem.value.n,.bool x.elem.acc,.bool x.elem.goal,.int .i64 x.elem.tag,.int .i64 x.level,.int .i64 x.cause]
abbrev Q0h (x:Z0j)  : Array Value:=#[.int .i64 x.elem.id.kind,.string x.elem.id.text,.int .i64 x.elem.id.n,.int .i64 x.elem.attr.kind,.string x.elem.attr.text,.int .i64 x.elem.attr.n,.int .i64 x.elem.value.kind,.string x.elem.value.text,.int .i64 x.elem.value.n,.bool x.elem.acc,.bool x.elem.goal,.int .i64 x.elem.tag,.int .i64 x.level,.int .i64 x.cause]
abbrev Q0i (x:Elem)  : List Value:=[.int .i64 x.id.kind,.string x.id.text,.int .i64 x.id.n,.int .i64 x.attr.kind,.string x.attr.text,.int .i64 x.attr.n,.int .i64 x.value.kind,.string x.value.text,.int .i64 x.value.n,.bool x.acc,.bool x.goal,.int .i64 x.tag]
abbrev Q0j (x:Elem)  : Array Value:=#[.int .i64 x.id.kind,.string x.id.text,.int .i64 x.id.n,.int .i64 x.attr.kind,.string x.attr.text,.int .i64 x.attr.n,.int .i64 x.value.kind,.string x.value.text,.int .i64 x.value.n,.bool x.acc,.bool x.goal,.int .i64 x.tag]
abbrev Q0l (x:Zi6)  : Array Value:=#[.int .i64 x.op,.string x.a.var,.int .i64 x.a.sym.kind,.string x.a.sym.text,.int .i64 x.a.sym.n,.string x.b.var,.int .i64 x.b.sym.kind,.string x.b.sym.text,.int .i64 x.b.sym.n]
abbrev Q0m (x:Z0z) (A1:Option Addr) (c1:Nat):List Value:=[.int .i64 x.rel,.string x.var,.int .i64 x.sym.kind,.string x.sym.text,.int .i64 x.sym.n,.slice A1 x.list.length c1]
abbrev Q0n (x:Z0z) (A1:Option Addr) (c1:Nat):Array Value:=#[.int .i64 x.rel,.string x.var,.int .i64 x.sym.kind,.string x.sym.text,.int .i64 x.sym.n,.slice A1 x.list.length c1]
abbrev Q0o (x:Z43) (A1:Option Addr) (c1:Nat) (A2:Option Addr) (c2:Nat) (A3:Option Addr) (c3:Nat) (A4:Option Addr) (c4:Nat):List Value:=[.int .i64 x.cond.kind,.bool x.cond.goal,.string x.cond.id,.slice A1 x.cond.attr.length c1,.slice A2 x.cond.value.length c2,.bool x.cond.acc,.slice A3 x.cond.conds.length c3,.slice A4 x.binds.length c4]
abbrev Q0p (x:Z43) (A1:Option Addr) (c1:Nat) (A2:Option Addr) (c2:Nat) (A3:Option Addr) (c3:Nat) (A4:Option Addr) (c4:Nat):Array Value:=#[.int .i64 x.cond.kind,.bool x.cond.goal,.string x.cond.id,.slice A1 x.cond.attr.length c1,.slice A2 x.cond.value.length c2,.bool x.cond.acc,.slice A3 x.cond.conds.length c3,.slice A4 x.binds.length c4]
abbrev Q0q (x:Z0a) (A1:Option Addr) (c1:Nat) (A2:Option Addr) (c2:Nat) (A3:Option Addr) (c3:Nat):List Value:=[.int .i64 x.kind,.bool x.goal,.string x.id,.slice A1 x.attr.length c1,.slice A2 x.value.length c2,.bool x.acc,.slice A3 x.conds.length c3]
abbrev Q0r (x:Z0a) (A1:Option Addr) (c1:Nat) (A2:Option Addr) (c2:Nat) (A3:Option Addr) (c3:Nat):Array Value:=#[.int .i64 x.kind,.bool x.goal,.string x.id,.slice A1 x.attr.length c1,.slice A2 x.value.length c2,.bool x.acc,.slice A3 x.conds.length c3]
abbrev Q0s (x:Z0c) (A1:Option Addr) (c1:Nat) (A2:Option Addr) (c2:Nat) (A3:Option Addr) (c3:Nat) (A4:Option Addr) (c4:Nat):List Value:=[.int .i64 x.num,.int .i64 x.level,.slice A1 x.elems.length c1,.slice A2 x.holes.length c2,.slice A3 x.aparts.length c3,.slice A4 x.news.length c4]
abbrev Q0t (x:Z0c) (A1:Option Addr) (c1:Nat) (A2:Option Addr) (c2:Nat) (A3:Option Addr) (c3:Nat) (A4:Option Addr) (c4:Nat):Array Value:=#[.int .i64 x.num,.int .i64 x.level,.slice A1 x.elems.length c1,.slice A2 x.holes.length c2,.slice A3 x.aparts.length c3,.slice A4 x.news.length c4]
abbrev Q0v (x:Z3r) (A1:Option Addr) (c1:Nat) (A2:Option Addr) (c2:Nat):Array Value:=#[.string x.name,.slice A1 x.conds.length c1,.slice A2 x.acts.length c2]
abbrev Q0w (x:Z24)  : List Value:=[.int .i64 x.id.kind,.string x.id.text,.int .i64 x.id.n,.int .i64 x.attr.kind,.string x.attr.text,.int .i64 x.attr.n,.int .i64 x.value.kind,.string x.value.text,.int .i64 x.value.n,.int .i64 x.other.kind,.string x.other.text,.int .i64 x.other.n,.int .i64 x.kind,.bool x.o,.int .i64 x.level,.int .i64 x.by_]
abbrev Q0x (x:Z24)  : Array Value:=#[.int .i64 x.id.kind,.string x.id.text,.int .i64 x.id.n,.int .i64 x.attr.kind,.string x.attr.text,.int .i64 x.attr.n,.int .i64 x.value.kind,.string x.value.text,.int .i64 x.value.n,.int .i64 x.other.kind,.string x.other.text,.int .i64 x.other.n,.int .i64 x.kind,.bool x.o,.int .i64 x.level,.int .i64 x.by_]
abbrev Q0y (x:Z1a)  : List Value:=[.int .i64 x.a.kind,.string x.a.text,.int .i64 x.a.n,.int .i64 x.b.kind,.string x.b.text,.int .i64 x.b.n,.int .i64 x.rel]
abbrev Q0z (x:Z1a)  : Array Value:=#[.int .i64 x.a.kind,.string x.a.text,.int .i64 x.a.n,.int .i64 x.b.kind,.string x.b.text,.int .i64 x.b.n,.int .i64 x.rel]
end
section
open Go.RowKit
inductive Z32 {α β:Type}(R:α→β→Prop):List α→List β→Prop
 | nil:Z32 R [] []
 | cons {a:α}{b:β}{l:List α}{m:List β}:R a b→Z32 R l m→Z32 R (a :: l) (b :: m)
section
variable {α β:Type}{R R':α→β→Prop}
theorem Z32.length :∀{l:List α}{m:List β},Z32 R l m→l.length=m.length
 | _,_,.nil=>rfl
 | _,_,.cons _ h=>by simp [h.length]
theorem Z32.imp (hr :∀a b,R a b→R' a b):∀{l:List α}{m:List β},Z32 R l m→Z32 R' l m
 | _,_,.nil=>.nil
 | _,_,.cons h t=>.cons (hr _ _ h) (t.imp hr)
theorem Z32.append :∀{l l':List α}{m m':List β},Z32 R l m→Z32 R l' m'→Z32 R (l++l') (m++m')
 | _,_,_,_,.nil,h=>h
 | _,_,_,_,.cons h t,k=>.cons h (t.append k)
theorem Z32.get :∀{l:List α}{m:List β},Z32 R l m→∀k,(h:k<l.length)→∃h':k<m.length,R l[k] m[k]
 | _,_,.nil,_,h=>absurd h Ye
 | _,_,.cons h _,0,_=>⟨Ye,h⟩
 | _,_,.cons _ t,k+1,h=>by
   obtain ⟨h1,h2⟩:=t.get k YIz;exact ⟨by simpa using h1,YT7⟩
end
theorem Z9v {size:Nat} :∀(css:List (List Value)),(∀cs∈css,cs.length=size)→∀k,(h:k<css.length)→∀j,j<size→css.flatten[k*size+j]? = css[k][j]?
 | [],_,_,h,_,_=>absurd h Ye
 | c :: css,hs,0,_,j,hj=>by
   rw [List.flatten_cons,Zto (by rw [hs c Ye];omega)];simp
 | c :: css,hs,k+1,h,j,hj=>by
   have hc:=hs c Ye;rw [List.flatten_cons,Ztn (by rw [hc,Nat.add_mul];omega),hc];rw [show (k+1)*size+j - size=k*size+j by rw [Nat.add_mul];omega];exact Z9v css (fun cs h=>hs cs (by simp [h])) k YIz j hj
theorem Zeq {α:Type}(n:Nat):∀l:List α,(l.map fun _=>n).sum=l.length*n
 | []=>Ye
 | _ :: l=>by simp only [List.map_cons,List.sum_cons,Ztg,Zeq n l,Nat.add_mul];omega
section
variable {α:Type}{r:RepT α}{e:TypeId}{base:Nat}{w w':World}{v:Value}{l:List α}
end
section
variable {P:Program}(w:World)
theorem Zag (t ty e:TypeId) (i:TypeInfo) (z:Value) (size bytes:Nat) (ht:P.underlying t=some (.slice e)) (hi:P.info? e=some i) (hz:i.zero=some z)
 (hsize:i.size=size) (hby:i.bytes=bytes) (hzs:z.cells.size=size) (hsz:0<size)
 (base:Nat) (hbase:base≤w.heap.size) (v:Value) (n:Nat) (xs:List Value) (hown:w.ownsRow base e size v n xs) (A:Option Addr) (m c:Nat) (news:List Value) (hl:news.length=m*size)
 (hnews:0<m→∃ad,A=some ad∧∀j u,news[j]? = some u→w.cell? (ad.add j)=some u) (h1 :∀u∈news,u.oneCell'=true)
 (h63:n+m≤maxLen) (hbytes:(n+m)*bytes≤140737488355328) :
 ∃v' w',(Builtin.append_ #[t,t] ty #[v,.slice A m c]).run P w = .ok v' w'∧w'.ownsRow base e size v' (n+m) (xs++news)∧w.grownBy w' v.ownBlock∧
  (v' = .slice none 0 0↔v = .slice none 0 0∧m=0)∧(v'.ownBlock=v.ownBlock∨v'.ownBlock=some w.heap.size):=by
 rcases Nat.eq_zero_or_pos m with rfl|hm
 · have hn:news = []:=List.eq_nil_of_length_eq_zero YPw
   subst hn;rcases A with _|ad
   · exact Yfw
   · exact run_append_own_at w base t ty e i z size bytes ht hi hz hsize hby hzs hsz v n xs hown ad 0 c [] Ye Ye Ye h63 hbytes hbase
 · obtain ⟨ad,rfl,hc⟩:=hnews hm
   exact run_append_own_at w base t ty e i z size bytes ht hi hz hsize hby hzs hsz v n xs hown ad m c news hl hc h1 h63 hbytes hbase
theorem Z7g {o:Oper}{a:Act}{K:Act→World→Prop}{Q:Exit→Act→World→Prop}(s x:Operand) (t:TypeId)
 (ho:o.op = .call { callee:=.builtin .append,args:=#[s,x],argTypes:=#[t,t] })
 (e:TypeId) (i:TypeInfo) (z:Value) (size bytes:Nat) (ht:P.underlying t=some (.slice e)) (hi:P.info? e=some i) (hz:i.zero=some z)
 (hsize:i.size=size) (hby:i.bytes=bytes) (hzs:z.cells.size=size) (hsz:0<size)
 (base:Nat) (hbase:base≤w.heap.size) (v:Value) (n:Nat) (xs:List Value) (hs:a.eval s=v) (hown:w.ownsRow base e size v n xs)
 (A:Option Addr) (m c:Nat) (news:List Value) (hx:a.eval x = .slice A m c) (hl:news.length=m*size)
 (hnews:0<m→∃ad,A=some ad∧∀j u,news[j]? = some u→w.cell? (ad.add j)=some u) (h1 :∀u∈news,u.oneCell'=true)
 (h63:n+m≤maxLen) (hbytes:(n+m)*bytes≤140737488355328)
 (h :∀v' w',w'.ownsRow base e size v' (n+m) (xs++news)→w.grownBy w' v.ownBlock→(v' = .slice none 0 0↔v = .slice none 0 0∧m=0)→(v'.ownBlock=v.ownBlock∨v'.ownBlock=some w.heap.size)→K (a.put o.dst v') w') :
 Oper.wp P o a w K Q:=by
 obtain ⟨v',w',hr,h2,h3,h4,h5⟩:=Zag (P:=P) w t o.type e i z size bytes ht hi hz hsize hby hzs hsz base hbase v n xs hown A m c news hl hnews h1 h63 hbytes;exact Ypq
theorem Z9a {ops:Array Oper}{o:Oper}{a:Act}{K:Act→World→Prop}{Q:Exit→Act→World→Prop}{E:Prop}(hgd:o.guard=none) (s x:Operand) (t:TypeId)
 (ho:o.op = .call { callee:=.builtin .append,args:=#[s,x],argTypes:=#[t,t] })
 (e:TypeId) (i:TypeInfo) (z:Value) (size bytes:Nat) (ht:P.underlying t=some (.slice e)) (hi:P.info? e=some i) (hz:i.zero=some z)
 (hsize:i.size=size) (hby:i.bytes=bytes) (hzs:z.cells.size=size) (hsz:0<size)
 (base:Nat) (hbase:base≤w.heap.size) (v:Value) (n:Nat) (xs:List Value) (hs:a.eval s=v) (hown:w.ownsRow base e size v n xs)
 (A:Option Addr) (m c:Nat) (news:List Value) (hx:a.eval x = .slice A m c) (hl:news.length=m*size)
 (hnews:0<m→∃ad,A=some ad∧∀j u,news[j]? = some u→w.cell? (ad.add j)=some u) (h1 :∀u∈news,u.oneCell'=true)
 (h63:n+m≤maxLen) (hbytes:(n+m)*bytes≤140737488355328)
 (h :∀v' w',w'.ownsRow base e size v' (n+m) (xs++news)→w.grownBy w' v.ownBlock→(v' = .slice none 0 0↔v = .slice none 0 0∧m=0)→(v'.ownBlock=v.ownBlock∨v'.ownBlock=some w.heap.size)→K (a.put o.dst v') w') :
 if Region.wanted o (yielded ops a.tmps)=true then Oper.wp P o a w K Q else E:=by
 rw [if_pos (by simp [Region.wanted,hgd])];exact Z7g w s x t ho e i z size bytes ht hi hz hsize hby hzs hsz base hbase v n xs hs hown A m c news hx hl hnews h1 h63 hbytes h
theorem Z8b {ops:Array Oper}{rest:List Oper}{o:Oper}{a:Act}{Q:Exit→Act→World→Prop}(hgd:o.guard=none) (s x:Operand) (t:TypeId)
 (ho:o.op = .call { callee:=.builtin .append,args:=#[s,x],argTypes:=#[t,t] })
 (e:TypeId) (i:TypeInfo) (z:Value) (size bytes:Nat) (ht:P.underlying t=some (.slice e)) (hi:P.info? e=some i) (hz:i.zero=some z)
 (hsize:i.size=size) (hby:i.bytes=bytes) (hzs:z.cells.size=size) (hsz:0<size)
 (base:Nat) (hbase:base≤w.heap.size) (v:Value) (n:Nat) (xs:List Value) (hs:a.eval s=v) (hown:w.ownsRow base e size v n xs)
 (A:Option Addr) (m c:Nat) (news:List Value) (hx:a.eval x = .slice A m c) (hl:news.length=m*size)
 (hnews:0<m→∃ad,A=some ad∧∀j u,news[j]? = some u→w.cell? (ad.add j)=some u) (h1 :∀u∈news,u.oneCell'=true)
 (h63:n+m≤maxLen) (hbytes:(n+m)*bytes≤140737488355328)
 (h :∀v' w',w'.ownsRow base e size v' (n+m) (xs++news)→w.grownBy w' v.ownBlock→(v' = .slice none 0 0↔v = .slice none 0 0∧m=0)→(v'.ownBlock=v.ownBlock∨v'.ownBlock=some w.heap.size)→wpList P ops Q rest (a.put o.dst v') w') :
 wpList P ops Q (o :: rest) a w:=
 wpList_plain hgd fun _ hK=>Z7g w s x t ho e i z size bytes ht hi hz hsize hby hzs hsz base hbase v n xs hs hown A m c news hx hl hnews h1 h63 hbytes (fun v' w' a b c d=>hK _ _ (h v' w' a b c d))
end
section
variable {P:Program}{α:Type}{r:RepT α}(w:World)
end
end
section
open Go.RowKit
variable {P:Program}
structure Kept (B:Nat) (F X Y:World):Prop where
 from_:KeepsFrom B X Y
 own :∀k,B≤k→k<F.heap.size→Y.heap[k]? = X.heap[k]?
section
variable {B C:Nat}{F X Y Z:World}
theorem Kept.trans (h:Kept B F X Y) (k:Kept B F Y Z):Kept B F X Z:=⟨h.1.trans k.1,fun i h1 h2=>(k.2 i h1 h2).trans (h.2 i h1 h2)⟩
theorem Kept.up (h:Kept B F X Y) (hB:B≤C):Kept C F X Y:=⟨KeepsFrom.up h.1 hB,fun i h1 h2=>h.2 i Ya h2⟩
theorem Kept.put_ {l:Nat}(h:Kept B F X Y) (hl:l<B) (o:Obj):Kept B F X (Y.putObj l o):=⟨KeepsFrom.put_ h.1 hl o,fun i h1 h2=>(Ztj Ya).trans (h.2 i h1 h2)⟩
theorem Kept.new_ (h:Below X.heap.size X Y) (hs:F.heap.size≤X.heap.size):Kept B F X Y:=
 ⟨⟨h.size,fun k o _ hk _=>(h.block k (Zt7.1 hk).1).trans hk⟩,fun k _ hk=>h.block k Ya⟩
end
def Zk1 {α:Type}(P:Program) (gf:Nat) (lb:Array Value) (encs:α→Array Value) (xs:List α) (W:World) (start Kp:World→World→Prop):Prop:=
 ∀(l:Nat) (J Jx:World→List α→World→Prop),(∀F p X Y,J F p X→Priv W.heap.size X Y→J F p Y)→(∀F p X Y,Jx F p X→Priv W.heap.size X Y→Jx F p Y)→
  (∀F,start W F→J F [] F)→
  (∀F pre x post W1,start W F→xs=pre++x :: post→J F pre W1→YieldAt Fence.wide 0 P l (encs x) W1 fun e W'=>
    (e = .returned (.bool true)∧J F (pre ++ [x]) W'∧Kp W1 W'∧Kept W.heap.size F W1 W')∨(e = .returned (.bool false)∧Jx F (pre ++ [x]) W'∧Kept W.heap.size F W1 W'))→
  CallsIn Fence.wide 0 P gf (#[.func (.yield l) #[] #[]]++lb) W fun e W'=>(∃v,e = .returned v)∧∃F,start W F∧(J F xs W'∨∃pre post,xs=pre++post∧Jx F pre W')
theorem Iter.p {α:Type}{gf:Nat}{lb:Array Value}{encs:α→Array Value}{xs:List α}{W:World}{start Kp:World→World→Prop}(h:Iter P gf lb encs xs W start (fun X Y=>Kp X Y∧KeepsFrom W.heap.size X Y)):Zk1 P gf lb encs xs W start Kp:=by
 intro l J Jx h1 h2 h3 h4;refine (h l (fun p X=>∃F,start W F∧J F p X) (fun p X=>∃F,start W F∧Jx F p X) (fun p X Y ⟨F,a,b⟩ hp=>⟨F,a,h1 F p X Y b hp⟩) (fun p X Y ⟨F,a,b⟩ hp=>⟨F,a,h2 F p X Y b hp⟩) (fun F hF=>⟨F,hF,h3 F hF⟩) ?_).mono ?_
 · rintro pre x post W1 hx ⟨F,hF,hJ⟩
   obtain ⟨fn,tmps,assign,body,hy,hR⟩:=h4 F pre x post W1 hF hx hJ;refine ⟨fn,tmps,assign,body,hy,hR.mono ?_⟩;rintro e W' (⟨g1,g2,g3,g4⟩|⟨g1,g2,_⟩)
   · exact .inl ⟨g1,⟨F,hF,g2⟩,g3,g4.1⟩
   · exact .inr ⟨g1,F,hF,g2⟩
 · rintro e W' ⟨hv,(⟨F,hF,hJ⟩|⟨pre,post,hx,F,hF,hJ⟩)⟩
   · exact ⟨hv,F,hF,.inl hJ⟩
   · exact ⟨hv,F,hF,.inr ⟨pre,post,hx,hJ⟩⟩
def Zsc {α:Type}(KpW:World→Prop) (B:Nat) (F:World) (I:World→List α→World→Prop) (Ix:World→Code→List α→World→Prop) (p:List α) (W:World):Exit→Act→World→Prop
 | .normal,_,W'=>Kept B F W W'∧KpW W'∧I F p W'
 | .ret,_,W'=>Kept B F W W'∧Ix F .ret p W'
 | .exit id,_,W'=>Kept B F W W'∧Ix F (.exit id) p W'
 | .goto t,_,W'=>Kept B F W W'∧Ix F (.goto t) p W'
 | .panic _,_,_=>False
 | .outgrown,_,_=>False
theorem Z66 {α:Type}{g:Operand}{ps:Array Tmp}{assign body:Code}{Q:Exit→Act→World→Prop}{a:Act}{w:World}{gf:Nat}{lb:Array Value}
 (hg:a.eval g = .func (.func gf) #[] lb) (eg :∀args w,(callFunc gf args).run P w = .ok (.enter gf args) w)
 {encs:α→Array Value}{xs:List α}{start Kp:World→World→Prop}(hseq :∀W,Below w.heap.size w W→Zk1 P gf lb encs xs W start Kp)
 (hps :∀x,(encs x).size=ps.size) (hKt :∀A B C,Kp A B→Kp B C→Kp A C) (hKp :∀A B,Priv w.heap.size A B→Kp A B) (hst :∀W W1,start W W1→KeepsFrom w.heap.size W W1)
 (I:World→List α→World→Prop) (Ix:World→Code→List α→World→Prop) (hI :∀F p X Y,I F p X→Priv w.heap.size X Y→I F p Y) (hIx :∀F c p X Y,Ix F c p X→Priv w.heap.size X Y→Ix F c p Y)
 (h0 :∀W F,Below w.heap.size w W→start W F→I F [] F)
 (hround :∀(F:World) (l:Nat) (pre:List α) (x:α) (post:List α) (W:World),xs=pre++x :: post→w.heap.size≤l→I F pre W→
   assign.wpIn (Fence.wide.inRound l) 0 P (Exit.then (fun a1 W1=>Kept w.heap.size F W W1∧∀W2,Priv w.heap.size W1 W2→W2.heap.size=W1.heap.size→(∃r,W2.heap[l]? = some (.loop r))→
    body.wpIn (Fence.wide.inRound l) 0 P (Zsc (Kp W) w.heap.size F I Ix (pre ++ [x]) W2) a1 W2) (fun _ _ _=>False))
    { tmps:=(ps.zip (encs x)).foldl (fun t (p,v)=>t.setIfInBounds p v) a.tmps,defers:=[] } W)
 (hdone :∀(F:World) (D:Nat) (W:World),w.heap.size≤D→I F xs W→W.heap[D]? = some (.deferred (some []))→Q .normal { a with defers:={ target:=.collected D,args:=#[] } :: a.defers } W)
 (hstop :∀(F:World) (D:Nat) (c:Code) (pre post:List α) (W:World),w.heap.size≤D→xs=pre++post→Ix F c pre W→W.heap[D]? = some (.deferred (some []))→c.wpIn Fence.wide 0 P Q { a with defers:={ target:=.collected D,args:=#[] } :: a.defers } W) :
 (Code.rangeFunc g ps assign body).wpIn Fence.wide 0 P Q a w:=by
 refine Y38 ?_;intro fn I0 rec Fv W1 Wo kp N5 Pk
 have hz1:W1.heap.size=w.heap.size+2:=by rw [←Wo];simp
 refine ⟨w.heap.size+1,[{ target:=.collected w.heap.size,args:=#[] }],W1,{ target:=.fn (.func gf) lb,args:=#[.func (.yield (w.heap.size+1)) #[] #[]] },W1,gf,
  #[.func (.yield (w.heap.size+1)) #[] #[]]++lb,W1,?_,?_,fun _ _=>trivial,?_,fun h=>YL7,?_⟩
 · exact Y89
 · simp only [resolve,hg]
   simp [go_sem]
 · simp [invoke,go_sem,eg]
 · refine Ykn ?_;intro keep
   refine (hseq W1 Pk (w.heap.size+1)
    (fun F pre W=>(∃W0,Below w.heap.size w W0∧start W0 F)∧I F pre W∧W.heap[w.heap.size+1]? = some (.loop (rec .ready none))∧W.heap[w.heap.size]? = some (.deferred (some [])))
    (fun F pre W=>∃c,Ix F c pre W∧W.heap[w.heap.size+1]? = some (.loop (rec .done (some c)))∧W.heap[w.heap.size]? = some (.deferred (some [])))
    (fun F p X Y ⟨h0,h1,h2,h3⟩ hp=>⟨h0,hI F p X Y h1 (hp.mono Ya),keep hp h2 Ya,keep hp h3 Ya⟩)
    (fun F p X Y ⟨c,h1,h2,h3⟩ hp=>⟨c,hIx F c p X Y h1 (hp.mono Ya),keep hp h2 Ya,keep hp h3 Ya⟩)
    (fun W2 hs=>⟨⟨W1,Pk,hs⟩,h0 W1 W2 Pk hs,(hst _ _ hs).same _ _ Ya kp rfl,(hst _ _ hs).same _ _ Ya N5 rfl⟩) ?_).mono ?_
   · rintro F pre x post W hst0 hx ⟨hw0,hi,hl,hk⟩
     have hy:=run_yield (P:=P) (args:=encs x) hl (by rw [Fv];exact hps x);rw [Fv] at hy;refine ⟨fn,_,assign,body,hy,roundIn_of_wpIn I0 ?_⟩;refine wpIn_mono (hround F (w.heap.size+1) pre x post W hx Ya hi) ?_;rintro e a1 Wa hp
     cases e with
     | normal=>
       obtain ⟨nl,Ug⟩:=hp;have zj:=nl.1.same _ _ Ya hl rfl;have Tc:=nl.1.same _ _ Ya hk rfl;refine Ypy ?_;intro sd yo Ds L5;refine wpIn_mono (Ug _ ((Priv.refl _ Wa).putObj Ya zj rfl _) Ye ⟨_,Ds⟩) ?_
       have fin :∀(jump:Option Code) (W3:World),Kept w.heap.size F (Wa.putObj (w.heap.size+1) (.loop { rec .ready none with state:=.busy })) W3→
        (Instr.endRound (w.heap.size+1) jump).run P W3 = .ok (.bool jump.isNone) (W3.putObj (w.heap.size+1) (.loop (rec (if jump.isNone then .ready else .done) jump)))∧
        Priv w.heap.size W3 (W3.putObj (w.heap.size+1) (.loop (rec (if jump.isNone then .ready else .done) jump)))∧
        (W3.putObj (w.heap.size+1) (.loop (rec (if jump.isNone then .ready else .done) jump))).heap[w.heap.size+1]? = some (.loop (rec (if jump.isNone then .ready else .done) jump))∧
        (W3.putObj (w.heap.size+1) (.loop (rec (if jump.isNone then .ready else .done) jump))).heap[w.heap.size]? = some (.deferred (some [])):=fun jump W3 um=>by
        have wm:=um.1.same _ _ Ya Ds rfl;have:=run_endRound (P:=P) jump wm;rw [Fv] at this ⊢;exact ⟨this,(Priv.refl _ _).putObj Ya wm rfl _,World.putObj_heap_same (Zt7.1 wm).1,(Ztj Ya).trans (um.1.same _ _ (Zsu _) L5 rfl)⟩
       rintro e a3 W3 hp
       cases e with
       | normal=>
         obtain ⟨um,kw,xu⟩:=hp;obtain ⟨hr,lj,ti,Ku⟩:=fin none W3 um;refine ⟨_,_,hr,.inl ⟨rfl,⟨hw0,hI _ _ _ _ xu lj,ti,Ku⟩,hKt _ _ _ kw (hKp _ _ lj),?_⟩⟩;exact (((nl.up Ya).put_ Ya _).trans (um.up Ya)).put_ Ya _
       | ret=>
         obtain ⟨um,xu⟩:=hp;obtain ⟨hr,lj,ti,Ku⟩:=fin (some .ret) W3 um;exact ⟨_,_,hr,.inr ⟨rfl,⟨.ret,hIx _ _ _ _ _ xu lj,ti,Ku⟩,(((nl.up Ya).put_ Ya _).trans (um.up Ya)).put_ Ya _⟩⟩
       | exit id=>
         obtain ⟨um,xu⟩:=hp;obtain ⟨hr,lj,ti,Ku⟩:=fin (some (.exit id)) W3 um;exact ⟨_,_,hr,.inr ⟨rfl,⟨.exit id,hIx _ _ _ _ _ xu lj,ti,Ku⟩,(((nl.up Ya).put_ Ya _).trans (um.up Ya)).put_ Ya _⟩⟩
       | goto t=>
         obtain ⟨um,xu⟩:=hp;obtain ⟨hr,lj,ti,Ku⟩:=fin (some (.goto t)) W3 um;exact ⟨_,_,hr,.inr ⟨rfl,⟨.goto t,hIx _ _ _ _ _ xu lj,ti,Ku⟩,(((nl.up Ya).put_ Ya _).trans (um.up Ya)).put_ Ya _⟩⟩
       | panic ch=>exact hp.elim
       | outgrown=>exact hp.elim
     | exit id=>exact hp.elim
     | goto l=>exact hp.elim
     | ret=>exact hp.elim
     | panic ch=>exact hp.elim
     | outgrown=>exact hp.elim
   · rintro e W2 ⟨⟨v,rfl⟩,F,_,(⟨_,hi,hl,hk⟩|⟨pre,post,hS,c,hi,hl,hk⟩)⟩
     · exact ⟨none,_,Yx,hdone F _ _ (Zsu _) (hI _ _ _ _ hi ((Priv.refl _ _).putObj Ya hl rfl _)) ((Ztj Ya).trans hk)⟩
     · exact ⟨some c,_,Yx,hstop F _ c pre post _ (Zsu _) hS (hIx _ c _ _ _ hi ((Priv.refl _ _).putObj Ya hl rfl _)) ((Ztj Ya).trans hk)⟩
end
section
open Go.RowKit
variable {P:Program}
def Plus (D:Nat→Prop) (X Y:World):Nat→Prop:=fun k=>D k∨(X.heap.size≤k∧k<Y.heap.size)
theorem Fr.putObj {M:Nat→Prop}{X Y:World}(h:Fr M X Y){l:Nat}(hl:M l∨X.heap.size≤l) (o:Obj):Fr M X (Y.putObj l o):=
 ⟨h.os,h.tape,h.output,by simpa using h.size,fun k hk hn=>(Ztj (by
  rintro rfl;rcases hl with hl|hl
  · exact hn hl
  · omega)).trans (h.block k hk hn)⟩
end
section
open Go.RowKit
theorem Fr.setCells {M:Nat→Prop}{a:World}{g:Nat} :∀(vs:List Value) (o:Nat){b:World},Fr M a b→(M g∨a.heap.size≤g)→Fr M a (b.setCells g o vs)
 | [],_,_,h,_=>h
 | v :: vs,o,_,h,hg=>Fr.setCells vs (o+1) (h.setCell (p:=⟨g,o,none⟩) hg v) hg
theorem Z4k {g:Nat}{e:TypeId}{size n cap:Nat} :∀(vs:List Value) (o:Nat){w:World}{xs:List Value},w.ownsRow 0 e size (.slice (some ⟨g,0,none⟩) n cap) n xs→(w.setCells g o vs).ownsRow 0 e size (.slice (some ⟨g,0,none⟩) n cap) n ((vs.zipIdx o).foldl (fun l (v,j)=>l.set j v) xs)
 | [],_,_,_,h=>h
 | v :: vs,o,_,_,h=>by
   rw [List.zipIdx_cons,List.foldl_cons];exact Z4k vs (o+1) ((h.stored o v).1)
theorem Zex :∀(vs:List Value) (o s:Nat) (xs:List Value),(vs.zipIdx (o+s)).foldl (fun l (v,j)=>l.set j v) xs=(vs.zipIdx s).foldl (fun l (v,j)=>l.set (o+j) v) xs
 | [],_,_,_=>rfl
 | v :: vs,o,s,xs=>by
   rw [List.zipIdx_cons,List.zipIdx_cons,List.foldl_cons,List.foldl_cons];exact Zex vs o (s+1) _
theorem Z37 {α:Type}{cells:α→List Value}{w:World}{g:Nat}{e:TypeId}{size n cap:Nat}(hsz :∀x,(cells x).length=size) (h0:0<size){l:List α}(h:w.ownsRow 0 e size (.slice (some ⟨g,0,none⟩) n cap) n (l.flatMap cells)) (k:Nat) (hk:k<l.length) (y:α) :
 (w.setCells g (k*size) (cells y)).ownsRow 0 e size (.slice (some ⟨g,0,none⟩) n cap) n ((l.set k y).flatMap cells):=by
 have h1:=Z4k (w:=w) (cells y) (k*size) h;have h2:=Zex (cells y) (k*size) 0 (l.flatMap cells);rw [Nat.add_zero] at h2;rw [h2] at h1;have h3:=Z4r hsz h0 l k hk y;unfold setAll at h3;rw [h3] at h1;exact h1
theorem Z0h {P:Program}{ops:Array Oper}{o:Oper}{a:Act}{w:World}{K:Act→World→Prop}{Q:Exit→Act→World→Prop}{E:Prop}(hgd:o.guard=none) (ty:TypeId) (x y:Operand) (ho:o.op = .store ty x y)
 (b off:Nat) (cells:Array Value) (hx:a.eval x = .pointer (some ⟨b,off,none⟩)) (hy:a.eval y = .agg cells)
 (ht:w.there b off cells.size) (hi:(P.info? ty).map (·.size)=some cells.size) (h1:cells.all (·.oneCell')=true)
 (h:K (a.put o.dst undef) (w.setCells b off cells.toList)):if Region.wanted o (yielded ops a.tmps)=true then Oper.wp P o a w K Q else E:=by
 rw [if_pos (by simp [Region.wanted,hgd])];exact wp_store_mid ty x y ho b off cells hx hy ht hi h1 h
theorem Blk.farCells {g':Nat}{t:TypeId}{cs:Array Value}{g:Nat} :∀(vs:List Value) (o:Nat){w:World},Blk w g' t cs→g'≠g→Blk (w.setCells g o vs) g' t cs
 | [],_,_,h,_=>h
 | v :: vs,o,_,h,hn=>Blk.farCells vs (o+1) (h.far (p:=⟨g,o,none⟩) hn v) hn
theorem Room.there {w:World}{g:Nat}{e:TypeId}{m:Nat}(h:Room w g e m){o n:Nat}(hn:o+n≤m):w.there g o n:=fun j hj=>by
 obtain ⟨u,hu⟩:=h.cell (i:=o+j) Ya;exact ⟨by rw [hu];rfl,h.frozen _⟩
theorem Blk.range {w:World}{g:Nat}{t:TypeId}{cs:Array Value}(h:Blk w g t cs):w.rangeAt g 0 cs.toList:=fun j v hv=>by
 rw [Zts,h.cell];simpa using hv
theorem Blk.there {w:World}{g:Nat}{t:TypeId}{cs:Array Value}(h:Blk w g t cs):w.there g 0 cs.size:=fun j hj=>by
 rw [Zts];exact ⟨by rw [h.cell,Array.getElem?_eq_getElem hj];rfl,h.frozen j⟩
theorem Below.setCells' {B:Nat}{a:World}{g:Nat} :∀(vs:List Value) (o:Nat){b:World},Below B a b→B≤g→Below B a (b.setCells g o vs)
 | [],_,_,h,_=>h
 | v :: vs,o,_,h,hg=>Below.setCells' vs (o+1) (h.setCell (show B≤(⟨g,o,none⟩:Addr).block from hg) v) hg
theorem Z0n {P:Program}{fn:Func}{t s:Tmp}{T:TypeId}(h:fn.results = #[.cell t T,.tmp s]) (tmps:Array Value) (w:World) (g:Nat) (cs:List Value) (d:TypeDesc) (ht:tmps.getD t undef = .pointer (some ⟨g,0,none⟩)) (hc:w.rangeAt g 0 cs)
 (hu:P.underlying T=some d) (hd:d.isRow=true) (hi:(P.info? T).map (·.size)=some cs.length):(results fn tmps).run P w = .ok (.tuple #[.agg cs.toArray,tmps.getD s undef]) w:=by
 exact Ygo
theorem Z1j {P:Program}{fn:Func}{t:Tmp}{T:TypeId}(h:fn.results = #[.cell t T]) (tmps:Array Value) (w:World) (g:Nat) (cs:List Value) (d:TypeDesc) (ht:tmps.getD t undef = .pointer (some ⟨g,0,none⟩)) (hc:w.rangeAt g 0 cs)
 (hu:P.underlying T=some d) (hd:d.isRow=true) (hi:(P.info? T).map (·.size)=some cs.length):(results fn tmps).run P w = .ok (.agg cs.toArray) w:=by
 exact Ygo
theorem Z0y.range {α:Type}{w:World}{size c:Nat}{cells:α→List Value}{A:Option Addr}{l:List α}(h:Z0y w size cells A c l){k:Nat}(hk:k<l.length):∃b off,A=some ⟨b,off,none⟩∧b<w.heap.size∧w.rangeAt b (off+k*size) (cells l[k]):=by
 obtain ⟨b,off,h1,h2,h3⟩:=h.at_ hk;exact ⟨b,off,h1,h2,fun j v hv=>h3 j v hv⟩
theorem Z22 {w w':World}{B g o:Nat}{cs:List Value}(h:w.rangeAt g o cs) (hb:Below B w w') (hg:g<B):w'.rangeAt g o cs:=fun j v hv=>(hb.cell (p:=⟨g,o+j,none⟩) hg).trans (h j v hv)
variable {P:Program}{α:Type}
section
variable {J Jx:(Nat→Prop)→List α→World→Prop}{D E E':Nat→Prop}{W X Y:World}{pre xs:List α}
end
theorem Z6x {F:Fence}{n1:Nat}(w:World){ops:Array Oper}{rest:List Oper}{o:Oper}{a:Go.Act}{Q:Exit→Go.Act→World→Prop}(hgd:o.guard=none) (s x:Operand) (t:TypeId)
 (ho:o.op = .call { callee:=.builtin .append,args:=#[s,x],argTypes:=#[t,t] })
 (e:TypeId) (i:TypeInfo) (z:Value) (size bytes:Nat) (ht:P.underlying t=some (.slice e)) (hi:P.info? e=some i) (hz:i.zero=some z)
 (hsize:i.size=size) (hby:i.bytes=bytes) (hzs:z.cells.size=size) (hsz:0<size)
 (v:Value) (n:Nat) (xs:List Value) (hs:a.eval s=v) (hown:w.ownsRow 0 e size v n xs)
 (A:Option Addr) (m c:Nat) (news:List Value) (hx:a.eval x = .slice A m c) (hl:news.length=m*size)
 (hnews:0<m→∃ad,A=some ad∧∀j u,news[j]? = some u→w.cell? (ad.add j)=some u) (h1 :∀u∈news,u.oneCell'=true)
 (h63:n+m≤maxLen) (hbytes:(n+m)*bytes≤140737488355328)
 (h :∀v' w',w'.ownsRow 0 e size v' (n+m) (xs++news)→w.grownBy w' v.ownBlock→(v' = .slice none 0 0↔v = .slice none 0 0∧m=0)→(v'.ownBlock=v.ownBlock∨v'.ownBlock=some w.heap.size)→wpListIn F n1 P ops Q rest (a.put o.dst v') w') :
 wpListIn F n1 P ops Q (o :: rest) a w:=by
 refine wpListIn_plain hgd fun K hK'=>?_;obtain ⟨v',w',hrun,r1,r2,r3,r4⟩:=Z7f (P:=P) w t o.type e i z size bytes ht hi hz hsize hby hzs hsz v n xs hown A m c news hl hnews h1 h63 hbytes;unfold Oper.wpIn;refine ⟨?_,?_⟩
 · simp [Oper.about,ho,resolve,Target.leads,Sem.run_pure]
 · rw [Oper.semAt_plain F _ _ (by rw [ho];intro c hc';cases hc')]
   simp [execOp,ho,resolve,invoke,builtin,hs,hx,hrun,Result.andThen];exact hK' _ _ (h v' w' r1 r2 r3 r4)
theorem Z06 (b:Nat):∀(vs:List Value) (o:Nat) (w:World),(w.setCells b o vs).heap.size=w.heap.size
 | [],_,_=>rfl
 | v :: r,o,w=>by rw [World.setCells,Z06 b r (o+1)];simp [World.setCell]
theorem Z4b {w:World}{t:TypeId}(zs vs:List Value) (hl:zs.length=vs.length) :
 ∃W,W=(w.alloc (.cells zs.toArray t)).setCells w.heap.size 0 vs∧(w.alloc (.cells zs.toArray t)).there w.heap.size 0 vs.toArray.size∧W.rangeAt w.heap.size 0 vs∧Below w.heap.size w W∧W.heap.size=w.heap.size+1:=by
 have ht:(w.alloc (.cells zs.toArray t)).there w.heap.size 0 vs.length:=by
  have:=(Blk.new w t zs.toArray).there;rwa [show zs.toArray.size=vs.length from YPw] at this
 refine ⟨_,rfl,YIw,Zsy _ _ _ _ ht,Below.setCells' _ _ ((Zst _ _).alloc (Zsu _) _) (Zsu _),?_⟩;rw [Z06,Zti]
theorem Blk.setCells_ {g:Nat}{t:TypeId} :∀(vs:List Value) (o:Nat){w:World}{cs:Array Value},Blk w g t cs→∃cs',Blk (w.setCells g o vs) g t cs'∧cs'.size=cs.size
 | [],_,_,cs,h=>⟨cs,h,rfl⟩
 | v :: vs,o,w,cs,h=>by
   obtain ⟨cs',h1,h2⟩:=Blk.setCells_ vs (o+1) (h.set_ o v);exact ⟨cs',h1,by rw [h2];simp⟩
theorem Z3m {w W:World}{t:TypeId}{zs vs:List Value}(hl:zs.length=vs.length) (hW:W=(w.alloc (.cells zs.toArray t)).setCells w.heap.size 0 vs) (hr:W.rangeAt w.heap.size 0 vs):Blk W w.heap.size t vs.toArray:=by
 obtain ⟨cs',h1,h2⟩:=Blk.setCells_ vs 0 (Blk.new w t zs.toArray);rw [←hW] at h1
 exact Yo4
theorem Z2h {E:Nat→Prop}{X Y:World}{e:TypeId}{size n m:Nat}{A:Option Addr}{c:Nat}{v':Value}{xs news:List Value}(hA:AIn A E) (hown':Y.ownsRow 0 e size v' (n+m) (xs++news)) (hg:X.grownBy Y (Value.slice A n c).ownBlock)
 (hat:v'.ownBlock=(Value.slice A n c).ownBlock∨v'.ownBlock=some X.heap.size):∃A' c',v' = .slice A' (n+m) c'∧Fr E X Y∧AIn A' (Plus E X Y)∧Y.ownsRow 0 e size (.slice A' (n+m) c') (n+m) (xs++news):=by
 obtain ⟨A',c',rfl,hc,_,hz⟩:=Z14 hown';refine ⟨A',c',rfl,(Fr.refl E X).grown hg (fun k hk=>?_),fun a ha=>?_,hown'⟩
 · rcases A with _|a
   · simp [Value.ownBlock] at hk
   · have e:a.block=k:=by simpa [Value.ownBlock] using hk
     exact .inl (e ▸ hA a rfl)
 · subst ha
   rcases hat with h|h
   · rcases A with _|b
     · simp [Value.ownBlock] at h
     · have e:a.block=b.block:=by simpa [Value.ownBlock] using h
       exact .inl (e ▸ hA b rfl)
   · have e:a.block=X.heap.size:=by simpa [Value.ownBlock] using h
     refine .inr ⟨Ya,?_⟩;rcases Z0f hown' with ⟨hv,_⟩|⟨g,cap,hv,_,_,hr,_⟩
     · cases hv
     · injection hv with hv
       injection hv with hv;subst hv;exact hr.lt
end
end Go.Proofs.YtcnnofgaifcgaaaGreat
