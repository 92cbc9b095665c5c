/-
  Texts put together: BkPlain, BkReach, BkFind0, FindBnum, OpsBnum, PutBnum, NewBnum, SeenFrom.
-/
import Derived.Test.YtldndkngpdfpfaaGreatPLo
import Derived.Test.YtldndkngpdfpfaaGreatPLa
import Derived.Test.YtldndkngpdfpfaaGreatPLb
import Derived.Maps.RangeWalk
namespace Go.Proofs.YtldndkngpdfpfaaGreat
set_option maxRecDepth 100000
set_option maxHeartbeats 32000000
section
open Go.RowKit
def pushes (lv:Int) (r:RecordT):List Int:=(r.elems.filter fun e=>decide (lv≤e.level) && decide (0<e.cause)).map TraceT.cause
section
variable (look:Int→RecordT×Bool) (lv:Int) (keys:List Int)
def bfs:Nat→List Int→List Int→List Int
 | 0,_,done=>done
 | _+1,[],done=>done
 | f+1,k :: todo,done=>if k∈done then bfs f todo done else if (look k).2=true then bfs f (todo++pushes lv (look k).1) (done ++ [k]) else bfs f todo (done ++ [k])
def left (done:List Int):Nat:=((keys.filter fun k=>decide (k ∉ done)).map fun k=>(pushes lv (look k).1).length).sum
def cost (todo done:List Int):Nat:=todo.length+left look lv keys done
theorem left_le (done:List Int) (k:Int):left look lv keys (done ++ [k])≤left look lv keys done:=by
 unfold left
 induction keys with
 | nil=>simp
 | cons x keys ih=>
   by_cases h:x∈done
   · have h2:x∈done ++ [k]:=by simp [h]
     simp only [List.filter_cons,h,h2,not_true_eq_false,decide_false,Bool.false_eq_true,if_false];exact ih
   · by_cases h2:x∈done ++ [k]
     · simp only [List.filter_cons,h,h2,not_true_eq_false,not_false_eq_true,decide_false,decide_true,Bool.false_eq_true,if_false,if_true,List.map_cons,List.sum_cons]
       omega
     · simp only [List.filter_cons,h,h2,not_false_eq_true,decide_true,if_true,List.map_cons,List.sum_cons]
       omega
theorem left_lt {done:List Int} {k:Int} (hk:k∈keys) (hd:k ∉ done):left look lv keys (done ++ [k])+(pushes lv (look k).1).length≤left look lv keys done:=by
 induction keys with
 | nil=>cases hk
 | cons x keys ih=>
   have hle:=left_le look lv keys done k;unfold left at ih hle ⊢;by_cases hxk:x=k
   · subst hxk
     (have h2:x∈done ++ [x]:=by simp);simp only [List.filter_cons,hd,h2,not_true_eq_false,not_false_eq_true,decide_false,decide_true,Bool.false_eq_true,if_false,if_true,List.map_cons,List.sum_cons];omega
   · have hk':k∈keys:=by
      rcases List.mem_cons.1 hk with h | h
      · exact absurd h.symm hxk
      · exact h
     have:=ih hk';by_cases h:x∈done
     · have h2:x∈done ++ [k]:=by simp [h]
       simp only [List.filter_cons,h,h2,not_true_eq_false,decide_false,Bool.false_eq_true,if_false];exact this
     · have h2:x ∉ done ++ [k]:=by simp [h,hxk]
       simp only [List.filter_cons,h,h2,not_false_eq_true,decide_true,if_true,List.map_cons,List.sum_cons];omega
variable (hkeys : ∀k,(look k).2=true→k∈keys)
include hkeys
theorem cost_new {todo done:List Int} {k:Int} (hd:k ∉ done) (hl:(look k).2=true):cost look lv keys (todo++pushes lv (look k).1) (done ++ [k])+1≤cost look lv keys (k :: todo) done:=by
 have:=left_lt look lv keys (hkeys k hl) hd;unfold cost;simp only [List.length_append,List.length_cons];omega
theorem bfs_fuel : ∀(f f':Nat) (todo done:List Int),cost look lv keys todo done≤f→cost look lv keys todo done≤f'→bfs look lv f todo done=bfs look lv f' todo done:=by
 intro f
 induction f with
 | zero=>
   intro f' todo done h _;have:todo = []:=List.eq_nil_of_length_eq_zero (by unfold cost at h;omega);subst this;cases f'<;>rfl
 | succ f ih=>
   intro f' todo done h h'
   cases todo with
   | nil=>cases f'<;>rfl
   | cons k todo=>
     cases f' with
     | zero=>unfold cost at h';simp at h'
     | succ f'=>
       (have hsk:cost look lv keys todo done+1≤cost look lv keys (k :: todo) done:=by unfold cost;simp;omega);unfold bfs;by_cases hd:k∈done
       · rw [if_pos hd,if_pos hd];exact ih f' todo done (by omega) (by omega)
       · rw [if_neg hd,if_neg hd]
         by_cases hl:(look k).2=true
         · rw [if_pos hl,if_pos hl]
           have:=cost_new look lv keys hkeys (todo:=todo) hd hl;exact ih f' _ _ (by omega) (by omega)
         · rw [if_neg hl,if_neg hl]
           have h9:cost look lv keys todo (done ++ [k])+1≤cost look lv keys (k :: todo) done:=by
            have:=left_le look lv keys done k;unfold cost;simp;omega
           exact ih f' _ _ (by omega) (by omega)
omit hkeys in
def reach (todo done:List Int):List Int:=bfs look lv (cost look lv keys todo done) todo done
omit hkeys in
theorem reach_nil (done:List Int):reach look lv keys [] done=done:=by unfold reach;cases cost look lv keys [] done<;>rfl
omit hkeys in
theorem reach_seen {k:Int} {todo done:List Int} (h:k∈done):reach look lv keys (k :: todo) done=reach look lv keys todo done:=by
 (have hc:cost look lv keys (k :: todo) done=cost look lv keys todo done+1:=by unfold cost;simp;omega);(have e:reach look lv keys (k :: todo) done=bfs look lv (cost look lv keys todo done+1) (k :: todo) done:=by unfold reach;rw [hc]);rw [e,bfs,if_pos h];rfl
theorem reach_lost {k:Int} {todo done:List Int} (h:k ∉ done) (hl:(look k).2=false):reach look lv keys (k :: todo) done=reach look lv keys todo (done ++ [k]):=by
 (have hc:cost look lv keys (k :: todo) done=cost look lv keys todo done+1:=by unfold cost;simp;omega);(have e:reach look lv keys (k :: todo) done=bfs look lv (cost look lv keys todo done+1) (k :: todo) done:=by unfold reach;rw [hc]);rw [e,bfs,if_neg h,if_neg (by rw [hl];simp)];have:=left_le look lv keys done k;exact bfs_fuel look lv keys hkeys _ _ _ _ (by unfold cost;omega) (Nat.le_refl _)
theorem reach_new {k:Int} {todo done:List Int} (h:k ∉ done) (hl:(look k).2=true):reach look lv keys (k :: todo) done=reach look lv keys (todo++pushes lv (look k).1) (done ++ [k]):=by
 (have hc:cost look lv keys (k :: todo) done=cost look lv keys todo done+1:=by unfold cost;simp;omega);(have e:reach look lv keys (k :: todo) done=bfs look lv (cost look lv keys todo done+1) (k :: todo) done:=by unfold reach;rw [hc]);rw [e,bfs,if_neg h,if_pos hl];have:=cost_new look lv keys hkeys (todo:=todo) h hl;exact bfs_fuel look lv keys hkeys _ _ _ _ (by omega) (Nat.le_refl _)
end
abbrev KR:=Int×RecordT
def cmpKR (a b:KR):Int:=cmpInt a.1 b.1
theorem tc_kr:TC cmpKR:=⟨fun _=>tc_int.refl _,fun _ _=>tc_int.symm _ _,fun _ _ _=>tc_int.trans _ _ _⟩
def addR (look:Int→RecordT×Bool) (R:List KR) (k:Int):List KR:=if (look k).2=true then put cmpKR R (k,(look k).1) else R
def recsOf (look:Int→RecordT×Bool) (done:List Int):List KR:=done.foldl (addR look) []
def lostOf (look:Int→RecordT×Bool) (done:List Int):Nat:=(done.filter fun k=>!(look k).2).length
theorem recsOf_snoc (look:Int→RecordT×Bool) (done:List Int) (k:Int):recsOf look (done ++ [k])=addR look (recsOf look done) k:=by unfold recsOf;rw [List.foldl_append];rfl
theorem lostOf_snoc (look:Int→RecordT×Bool) (done:List Int) (k:Int):lostOf look (done ++ [k])=lostOf look done+(if (look k).2=true then 0 else 1):=by
 unfold lostOf;rw [List.filter_append,List.length_append];cases h:(look k).2<;>simp [h]
theorem mem_put {α:Type} {cmp:α→α→Int} {l:List α} {x y:α} (h:y∈put cmp l x):y∈l∨y=x:=by
 unfold put at h
 split at h
 · exact .inl h
 · simp only [List.mem_append,List.mem_cons] at h
   rcases h with h | h | h
   · exact .inl (mem_below.1 h).1
   · exact .inr h
   · exact .inl (mem_above.1 h).1
theorem mem_recs {look:Int→RecordT×Bool} {done:List Int} {p:KR} (h:p∈recsOf look done):p.1∈done∧(look p.1).2=true∧p.2=(look p.1).1:=by
 have : ∀(done:List Int) (R:List KR) (D:List Int),(∀p∈R,p.1∈D∧(look p.1).2=true∧p.2=(look p.1).1)→(∀k∈done,k∈D)→∀p∈done.foldl (addR look) R,p.1∈D∧(look p.1).2=true∧p.2=(look p.1).1:=by
  intro done
  induction done with
  | nil=>intro R D h _ p hp;exact h p hp
  | cons k done ih=>
    intro R D h hd p hp;refine ih (addR look R k) D (fun q hq=>?_) (fun j hj=>hd j (by simp [hj])) p hp;unfold addR at hq
    split at hq
    · rename_i hl
      rcases mem_put hq with hq | rfl
      · exact h q hq
      · exact ⟨hd k (by simp),hl,rfl⟩
    · exact h q hq
 exact this done [] done (fun p hp=>by cases hp) (fun k hk=>hk) p h
theorem has_recs {look:Int→RecordT×Bool} {done:List Int} {k:Int} (h:k ∉ done) (r:RecordT):has cmpKR (recsOf look done) (k,r)=false:=by
 rw [has_false];intro y hy e;have:=(mem_recs hy).1;rw [cmpInt_eq.1 e] at this;exact h this
theorem srt_recs (look:Int→RecordT×Bool) (done:List Int):Srt cmpKR (recsOf look done):=by
 have : ∀(done:List Int) (R:List KR),Srt cmpKR R→Srt cmpKR (done.foldl (addR look) R):=by
  intro done
  induction done with
  | nil=>intro R h;exact h
  | cons k done ih=>
    intro R h;refine ih _ ?_;unfold addR
    split
    · exact h.put tc_kr _
    · exact h
 exact this done [] Srt.nil
theorem len_recs (look:Int→RecordT×Bool) (done:List Int):(recsOf look done).length≤done.length:=by
 have : ∀(done:List Int) (R:List KR),Srt cmpKR R→(done.foldl (addR look) R).length≤R.length+done.length:=by
  intro done
  induction done with
  | nil=>intro R _;simp
  | cons k done ih=>
    intro R h
    have h1:Srt cmpKR (addR look R k):=by
     unfold addR
     split
     · exact h.put tc_kr _
     · exact h
    have h2:(addR look R k).length≤R.length+1:=by
     unfold addR
     split
     · exact length_put_le tc_kr h _
     · omega
    have:=ih _ h1;simp only [List.foldl_cons,List.length_cons];omega
 have:=this done [] Srt.nil;simpa [recsOf] using this
def cmpTag (a b:TraceT):Int:=cmpInt a.elem.tag b.elem.tag
def bare (e:TraceT):TraceT:={ e with cause:=0 }
def lows (lv:Int) (r:RecordT):List TraceT:=(r.elems.filter fun e=>decide (e.level<lv)).map bare
def groundsOf (lv:Int) (R:List KR):List TraceT:=puts cmpTag [] (R.flatMap fun p=>lows lv p.2)
def once (l:List Sym) (s:Sym):List Sym:=if s∈l then l else l ++ [s]
def newsOf (R:List KR):List Sym:=(R.flatMap fun p=>p.2.news).foldl once []
structure TrailV where
 elems:List TraceT
 holes:List HoleT
 aparts:List ApartT
 news:List Sym
 visited:Nat
 lost:Nat
def trailV (look:Int→RecordT×Bool) (lv:Int) (done:List Int):TrailV:=
 ⟨groundsOf lv (recsOf look done),(recsOf look done).flatMap fun p=>p.2.holes,(recsOf look done).flatMap fun p=>p.2.aparts,newsOf (recsOf look done),(recsOf look done).length,lostOf look done⟩
def PgRel (n:Nat) (D:Nat→Prop) (w:World) (p:KR) (x:PgR):Prop:=
 x.kk=p.1∧x.num=p.2.num∧x.level=p.2.level∧x.elems.n=p.2.elems.length∧x.holes.n=p.2.holes.length∧x.aparts.n=p.2.aparts.length∧x.news.n=p.2.news.length∧RecAt n D w p.2 x.elems.A x.elems.c x.holes.A x.holes.c x.aparts.A x.aparts.c x.news.A x.news.c
theorem PgRel.keep {n:Nat} {D D':Nat→Prop} {w w':World} {p:KR} {x:PgR} (h:PgRel n D w p x) (hs:w.heap.size≤w'.heap.size) (hk : ∀k,D k→k<w.heap.size→D' k∧w'.heap[k]? = w.heap[k]?):PgRel n D' w' p x:=by
 obtain ⟨h1,h2,h3,h4,h5,h6,h7,h8⟩:=h;exact ⟨h1,h2,h3,h4,h5,h6,h7,h8.keep hs hk⟩
theorem Each2.filter {α β:Type} {R:α→β→Prop} {f:α→Bool} {g:β→Bool} (hr : ∀a b,R a b→f a=g b) : ∀{l:List α} {m:List β},Each2 R l m→Each2 R (l.filter f) (m.filter g)
 | _,_,.nil=>.nil
 | _,_,.cons (a:=a) (b:=b) h t=>by
   rw [List.filter_cons,List.filter_cons,hr a b h]
   split
   · exact .cons h (t.filter hr)
   · exact t.filter hr
theorem Each2.any {α β:Type} {R:α→β→Prop} {f:α→Bool} {g:β→Bool} (hr : ∀a b,R a b→f a=g b) : ∀{l:List α} {m:List β},Each2 R l m→l.any f=m.any g
 | _,_,.nil=>rfl
 | _,_,.cons (a:=a) (b:=b) h t=>by rw [List.any_cons,List.any_cons,hr a b h,t.any hr]
theorem Each2.put {R:KR→PgR→Prop} (hr : ∀a b,R a b→b.kk=a.1) {l:List KR} {m:List PgR} (h:Each2 R l m) {a:KR} {b:PgR} (hab:R a b):has cmpKR l a=has cmpPgR m b∧Each2 R (put cmpKR l a) (put cmpPgR m b):=by
 (have hc : ∀x y,R x y→cmpKR x a=cmpPgR y b:=fun x y hxy=>by unfold cmpKR cmpPgR;rw [hr _ _ hxy,hr _ _ hab]);have hh:has cmpKR l a=has cmpPgR m b:=h.any (fun x y hxy=>by rw [hc x y hxy]);refine ⟨hh,?_⟩;unfold YtldndkngpdfpfaaGreat.put;rw [hh]
 split
 · exact h
 · exact (h.filter (fun x y hxy=>by rw [hc x y hxy])).append (.cons hab (h.filter (fun x y hxy=>by rw [hc x y hxy])))
theorem mem_puts {done:List Int} {l:List Int} {k:Int}:k∈puts cmpBnum l done↔k∈l∨k∈done:=by
 induction done generalizing l with
 | nil=>simp [puts]
 | cons x done ih=>
   have e:puts cmpBnum l (x :: done)=puts cmpBnum (put cmpBnum l x) done:=rfl;rw [e,ih,List.mem_cons]
   have hp:k∈put cmpBnum l x↔k∈l∨k=x:=by
    constructor
    · exact mem_put
    · intro h
      unfold put
      split
      · rename_i hh
        rcases h with h | h
        · exact h
        · obtain ⟨y,hy,e⟩:=has_iff.1 hh
          rw [h,← cmpInt_eq.1 e];exact hy
      · rename_i hh
        simp only [List.mem_append,List.mem_cons];rcases h with h | h
        · have:=has_false.1 (by simpa using hh) k h
          rcases Int.lt_trichotomy (cmpBnum k x) 0 with h2 | h2 | h2
          · exact .inl (mem_below.2 ⟨h,h2⟩)
          · exact absurd h2 this
          · exact .inr (.inr (mem_above.2 ⟨h,h2⟩))
        · exact .inr (.inl h)
   rw [hp];constructor
   · rintro ((h | h) | h)
     · exact .inl h
     · exact .inr (.inl h)
     · exact .inr (.inr h)
   · rintro (h | h | h)
     · exact .inl (.inl h)
     · exact .inl (.inr h)
     · exact .inr h
theorem has_puts (done:List Int) (k:Int):has cmpBnum (puts cmpBnum [] done) k=decide (k∈done):=by
 by_cases h:k∈done
 · rw [decide_eq_true h]
   exact has_iff.2 ⟨k,mem_puts.2 (.inr h),cmpInt_eq.2 rfl⟩
 · rw [decide_eq_false h,has_false]
   intro y hy e;rcases mem_puts.1 hy with h2 | h2
   · cases h2
   · exact h (by rw [← cmpInt_eq.1 e];exact h2)
end
section
theorem nodup_len {α:Type} [DecidableEq α] : ∀{l m:List α},l.Nodup→(∀x∈l,x∈m)→l.length≤m.length
 | [],_,_,_=>by simp
 | x :: l,m,hn,hs=>by
   have hx:x∈m:=hs x (by simp)
   have:=nodup_len (l:=l) (m:=m.erase x) (List.nodup_cons.1 hn).2 (fun y hy=>by
    have:y≠x:=fun e=>(List.nodup_cons.1 hn).1 (e ▸ hy)
    exact (List.mem_erase_of_ne this).2 (hs y (by simp [hy])))
   rw [List.length_erase_of_mem hx] at this;have:=List.length_pos_of_mem hx;simp only [List.length_cons];omega
section
variable {look:Int→RecordT×Bool} {lv:Int} {keys:List Int} (hkeys : ∀k,(look k).2=true→k∈keys)
include hkeys
omit hkeys in
theorem left_bound {m:Nat} (hm : ∀k,(look k).1.elems.length≤m) (done:List Int):left look lv keys done≤keys.length*m:=by
 unfold left
 induction keys with
 | nil=>simp
 | cons x keys ih=>
   (have h1:(pushes lv (look x).1).length≤m:=by unfold pushes;rw [List.length_map];exact Nat.le_trans (List.length_filter_le _ _) (hm x));(have h2:(keys.length+1)*m=keys.length*m+m:=by rw [Nat.add_mul];simp);rw [List.filter_cons]
   split
   · simp only [List.map_cons,List.sum_cons,List.length_cons];omega
   · simp only [List.length_cons];omega
omit hkeys in
theorem cost_bound {m:Nat} (hm : ∀k,(look k).1.elems.length≤m) (nums:List Int):cost look lv keys nums []≤nums.length+keys.length*m:=by
 have:=left_bound (lv:=lv) (keys:=keys) hm [];unfold cost;omega
omit hkeys in
omit hkeys in
omit hkeys in
omit hkeys in
theorem sub_nodup : ∀{l:List KR},Srt cmpKR l→(l.map (·.1)).Nodup
 | [],_=>by simp
 | p :: l,h=>by
   obtain ⟨h1,h2⟩:=List.pairwise_cons.1 h;rw [List.map_cons,List.nodup_cons];refine ⟨fun hm=>?_,sub_nodup h2⟩;obtain ⟨q,hq,e⟩:=List.mem_map.1 hm;have:=h1 q hq;have:=cmpInt_eq.2 e.symm;unfold cmpKR at *;omega
theorem recs_le (done:List Int):(recsOf look done).length≤keys.length:=by
 have:=nodup_len (sub_nodup (srt_recs look done)) (m:=keys) (fun k hk=>by
  obtain ⟨p,hp,rfl⟩:=List.mem_map.1 hk
  exact hkeys _ (mem_recs hp).2.1)
 simpa using this
omit hkeys in
end
theorem lookR_keys (l:List RecordT) : ∀k,(lookR l k).2=true→k∈l.map RecordT.num:=fun k h=>by
 obtain ⟨h1,h2⟩:=lookR_num h;exact List.mem_map.2 ⟨_,h1,h2⟩
theorem lookR_all {l:List RecordT} {Q:RecordT→Prop} (h0:Q zRec) (h : ∀r∈l,Q r) (k:Int):Q (lookR l k).1:=by
 cases hb:(lookR l k).2 with
 | true=>exact h _ (lookR_num hb).1
 | false=>rw [lookR_none hb];exact h0
theorem smR_zero (n:Nat):SmR n zRec:=⟨by simp [zRec],by simp [zRec],by simp [zRec],by simp [zRec],fun h hh=>by simp [zRec] at hh⟩
theorem light_cost {l:List RecordT} (h0:l.length≤20) (h : ∀r∈l,r.elems.length≤20) (lv:Int) (nums:List Int) (hn:nums.length≤100):cost (lookR l) lv (l.map RecordT.num) nums []≤100000∧(recsOf (lookR l) (reach (lookR l) lv (l.map RecordT.num) nums [])).length≤500:=by
 have h1:=cost_bound (look:=lookR l) (lv:=lv) (keys:=l.map RecordT.num) (m:=20) (lookR_all (Q:=fun r=>r.elems.length≤20) (by simp [zRec]) h) nums;have h2:=recs_le (lookR_keys l) (reach (lookR l) lv (l.map RecordT.num) nums []);rw [List.length_map] at h1 h2;have:l.length*20≤20*20:=Nat.mul_le_mul_right 20 h0;exact ⟨by omega,by omega⟩
end
section
open Go.RowKit
theorem cprec0_is (n:Nat) (r:RecordT) (A1:Option Addr) (c1:Nat) (A2:Option Addr) (c2:Nat) (A3:Option Addr) (c3:Nat) (A4:Option Addr) (c4:Nat) {D:Nat→Prop} (w:World) (hr:RecAt n D w r A1 c1 A2 c2 A3 c3 A4 c4) (hs:SmR n r) (hzh:r.holes = []) :
 Calls Tryz.prog 60 #[.agg #[.int .i64 r.num,.int .i64 r.level,.slice A1 r.elems.length c1,.slice A2 r.holes.length c2,.slice A3 r.aparts.length c3,.slice A4 r.news.length c4]] w (FreshRec n r w):=by
 obtain ⟨j0,hj0,hy0,hyy1,hyy2⟩:=infp inf_Hole;obtain ⟨s1,s2,s3,s4,s5⟩:=hs;obtain ⟨r1,r2,r3,r4⟩:=hr;have hcap2:=r2.cap;have HS:=Lib.hid s5;have HZH:=Lib.hid hzh;clear hzh;have R1:=Lib.hid (RowR.rd (hs:=TraceT.cells_length) r1);have R2:=Lib.hid r2;have R3:=Lib.hid (RowR.rd (hs:=ApartT.cells_length) r3);have R4:=Lib.hid (RowR.rd (hs:=Sym.cells_length) r4);clear s5 r1 r2 r3 r4;go_enter Tryz.func60,Tryz.ntmps60;(go_upto_region 1 with fail);obtain ⟨W1,hW1⟩ : ∃W1,W1=(w.alloc (.cells #[.int .i64 r.num,.int .i64 r.level,.slice A1 r.elems.length c1,.slice A2 r.holes.length c2,.slice A3 r.aparts.length c3,.slice A4 r.news.length c4] 121)).alloc (.cells #[.int .i64 0,.int .i64 0,.slice none 0 0,.slice none 0 0,.slice none 0 0,.slice none 0 0] 121):=⟨_,rfl⟩;(have hB1:Below w.heap.size w W1:=by rw [hW1];exact ((Below.refl _ _).alloc (Nat.le_refl _) _).alloc (by simp) _);(have hX1:Blk W1 w.heap.size 121 #[.int .i64 r.num,.int .i64 r.level,.slice A1 r.elems.length c1,.slice A2 r.holes.length c2,.slice A3 r.aparts.length c3,.slice A4 r.news.length c4]:=by rw [hW1];exact (Blk.new _ _ _).alloc _);(have hR1:Blk W1 (w.heap.size+1) 121 #[.int .i64 0,.int .i64 0,.slice none 0 0,.slice none 0 0,.slice none 0 0,.slice none 0 0]:=by rw [hW1];have:=Blk.new (w.alloc (.cells #[.int .i64 r.num,.int .i64 r.level,.slice A1 r.elems.length c1,.slice A2 r.holes.length c2,.slice A3 r.aparts.length c3,.slice A4 r.news.length c4] 121)) 121 #[.int .i64 0,.int .i64 0,.slice none 0 0,.slice none 0 0,.slice none 0 0,.slice none 0 0];simpa using this);(have hz1:W1.heap.size=w.heap.size+2:=by rw [hW1];simp);rw [← hW1];clear hW1;obtain ⟨p0,p1,p2,p3,p4,p5⟩:=hX1.c6;have HB1:=Lib.hid hB1;have HX1:=Lib.hid hX1;have HR1:=Lib.hid hR1;have HZ1:=Lib.hid hz1;have hxl1:=hX1.lt;clear hB1 hX1 hR1 hz1
 go_cut [3] from 5 (fun p wc=>∃g E1 d1 E3 d3 E4 d4,p = .pointer (some ⟨g,0,none⟩)∧W1.heap.size≤g∧Blk wc g 121 #[.int .i64 r.num,.int .i64 r.level,.slice E1 r.elems.length d1,.slice none 0 0,.slice E3 r.aparts.length d3,.slice E4 r.news.length d4]∧Below W1.heap.size W1 wc∧
  (wc.ownsRow 0 57 14 (.slice E1 r.elems.length d1) r.elems.length (r.elems.flatMap TraceT.cells)∧AIn E1 (NewD W1.heap.size wc))∧
  (wc.ownsRow 0 34 7 (.slice E3 r.aparts.length d3) r.aparts.length (r.aparts.flatMap ApartT.cells)∧AIn E3 (NewD W1.heap.size wc))∧
  (wc.ownsRow 0 23 3 (.slice E4 r.news.length d4) r.news.length (r.news.flatMap Sym.cells)∧AIn E4 (NewD W1.heap.size wc)))
 case first=>
  refine wp_region_Pl (fun w9=>Below W1.heap.size W1 w9) [0,1,2,3,4,5,7,8,10,11,13] [1,3,5,8,11] (.fork [(0,0),(1,1),(2,0),(3,1),(4,0),(5,1),(7,0),(8,1),(10,0),(11,1)] 6 (.fork [] 9 (.fork [] 12 (.fin [(13,0),(14,2),(15,2)]) 14 (.fin [(12,2),(13,0),(15,2)])) 14 (.fin [(9,2),(12,2),(13,0),(15,2)])) 14 (.fin [(6,2),(9,2),(12,2),(13,0),(15,2)])) (by kernel_rfl) (by kernel_rfl) (by kernel_rfl) (fun KK hKK=>?_);simp only [wpPl,beside,List.filterMap_cons,List.filterMap_nil,List.getElem?_toArray,List.getElem?_cons_zero,List.getElem?_cons_succ,Option.map_some];have HB:=Lib.hid (Below.refl W1.heap.size W1).drew;obtain ⟨V,hV⟩ : ∃V,V=W1.drew:=⟨_,rfl⟩;rw [← hV] at HB ⊢;clear hV
  repeat' (first
   | ((first | (refine wpY_w ?_ (Or.inl ⟨by rfl,fun w9=>?_⟩) ?_;rotate_left 1;go_simp;with_reducible rfl) | (refine wpY_l ?_ (HB.out) (Or.inl ⟨by rfl,fun w9 hw9=>?_⟩) ?_;rotate_left 1;obtain ⟨hc9,hf9⟩:=bcell hw9;go_simp;with_reducible rfl) | refine wpY_w undef (Or.inr ⟨by rfl,rfl⟩) ?_ | refine wpY_l undef (HB.out) (Or.inr ⟨by rfl,rfl⟩) ?_);go_frame)
   | ((first | refine wpY_es (fun K9 hK9=>?_) | refine wpOp_cs rfl (fun K9 hK9=>?_));refine step_store_el rfl 121 _ _ rfl g 0 #[.int .i64 r.num,.int .i64 r.level,.slice E1 r.elems.length d1,.slice none 0 0,.slice E3 r.aparts.length d3,.slice E4 r.news.length d4] rfl rfl (show _ from HK.out.there) (by kernel_rfl) (by kernel_rfl) ?_;(first | refine hK9 _ _ (Below.setCells' _ _ HB.out HGE.out) ?_ | refine hK9 _ _ (fun _=>Below.setCells' _ _ HB.out HGE.out) ?_);clear hK9 K9;(try go_frame);try simp only [beside,List.filterMap_nil])
   | ((first | refine wpY_es (fun K9 hK9=>?_) | refine wpOp_cs rfl (fun K9 hK9=>?_));go_simp;(first
     | (have hsz:=HB.out.size;refine (cp_Trace A1 c1 r.elems _ (R1.out.new_ (HB1.out.trans (HB.out.mono (by have:=HZ1.out;omega)))) (by omega)).mono ?_;rintro e V ⟨E1,d1,rfl,ho,hA,hb⟩;(try have HO1:=Lib.hid (ownsRow_new HO1.out hb));(try have HA1:=Lib.hid (HA1.out.mono (fun j hj=>NewD.up (Nat.le_refl _) hb.size j hj)));(try have HO3:=Lib.hid (ownsRow_new HO3.out hb));(try have HA3:=Lib.hid (HA3.out.mono (fun j hj=>NewD.up (Nat.le_refl _) hb.size j hj)));(try have HO4:=Lib.hid (ownsRow_new HO4.out hb));(try have HA4:=Lib.hid (HA4.out.mono (fun j hj=>NewD.up (Nat.le_refl _) hb.size j hj)));(try have HK:=Lib.hid (HK.out.new_ hb));have HB:=Lib.hid (HB.out.trans (hb.mono HB.out.size));have HO1:=Lib.hid ho;have HA1:=Lib.hid (hA.mono (fun j hj=>(⟨Nat.le_trans hsz hj.1,hj.2⟩:NewD W1.heap.size V j)));clear ho hA hb hsz)
     | (have hsz:=HB.out.size;refine (cp_Apart A3 c3 r.aparts _ (R3.out.new_ (HB1.out.trans (HB.out.mono (by have:=HZ1.out;omega)))) (by omega)).mono ?_;rintro e V ⟨E3,d3,rfl,ho,hA,hb⟩;(try have HO1:=Lib.hid (ownsRow_new HO1.out hb));(try have HA1:=Lib.hid (HA1.out.mono (fun j hj=>NewD.up (Nat.le_refl _) hb.size j hj)));(try have HO3:=Lib.hid (ownsRow_new HO3.out hb));(try have HA3:=Lib.hid (HA3.out.mono (fun j hj=>NewD.up (Nat.le_refl _) hb.size j hj)));(try have HO4:=Lib.hid (ownsRow_new HO4.out hb));(try have HA4:=Lib.hid (HA4.out.mono (fun j hj=>NewD.up (Nat.le_refl _) hb.size j hj)));(try have HK:=Lib.hid (HK.out.new_ hb));have HB:=Lib.hid (HB.out.trans (hb.mono HB.out.size));have HO3:=Lib.hid ho;have HA3:=Lib.hid (hA.mono (fun j hj=>(⟨Nat.le_trans hsz hj.1,hj.2⟩:NewD W1.heap.size V j)));clear ho hA hb hsz)
     | (have hsz:=HB.out.size;refine (cp_Sym A4 c4 r.news _ (R4.out.new_ (HB1.out.trans (HB.out.mono (by have:=HZ1.out;omega)))) (by omega)).mono ?_;rintro e V ⟨E4,d4,rfl,ho,hA,hb⟩;(try have HO1:=Lib.hid (ownsRow_new HO1.out hb));(try have HA1:=Lib.hid (HA1.out.mono (fun j hj=>NewD.up (Nat.le_refl _) hb.size j hj)));(try have HO3:=Lib.hid (ownsRow_new HO3.out hb));(try have HA3:=Lib.hid (HA3.out.mono (fun j hj=>NewD.up (Nat.le_refl _) hb.size j hj)));(try have HO4:=Lib.hid (ownsRow_new HO4.out hb));(try have HA4:=Lib.hid (HA4.out.mono (fun j hj=>NewD.up (Nat.le_refl _) hb.size j hj)));(try have HK:=Lib.hid (HK.out.new_ hb));have HB:=Lib.hid (HB.out.trans (hb.mono HB.out.size));have HO4:=Lib.hid ho;have HA4:=Lib.hid (hA.mono (fun j hj=>(⟨Nat.le_trans hsz hj.1,hj.2⟩:NewD W1.heap.size V j)));clear ho hA hb hsz)
     | (obtain ⟨g,hg⟩ : ∃g,g=V.heap.size:=⟨_,rfl⟩;have hk:=Blk.new V 121 #[.int .i64 0,.int .i64 0,.slice none 0 0,.slice none 0 0,.slice none 0 0,.slice none 0 0];have HGE:=Lib.hid (show W1.heap.size≤g by rw [hg];exact HB.out.size);have hb:Below V.heap.size V (V.alloc (.cells #[.int .i64 0,.int .i64 0,.slice none 0 0,.slice none 0 0,.slice none 0 0,.slice none 0 0] 121)):=(Below.refl _ _).alloc (Nat.le_refl _) _;obtain ⟨V,hV⟩ : ∃V9,V9=V.alloc (.cells #[.int .i64 0,.int .i64 0,.slice none 0 0,.slice none 0 0,.slice none 0 0,.slice none 0 0] 121):=⟨_,rfl⟩;rw [← hV] at hb;rw [← hV,← hg] at hk;(try have HO1:=Lib.hid (ownsRow_new HO1.out hb));(try have HA1:=Lib.hid (HA1.out.mono (fun j hj=>NewD.up (Nat.le_refl _) hb.size j hj)));(try have HO3:=Lib.hid (ownsRow_new HO3.out hb));(try have HA3:=Lib.hid (HA3.out.mono (fun j hj=>NewD.up (Nat.le_refl _) hb.size j hj)));(try have HO4:=Lib.hid (ownsRow_new HO4.out hb));(try have HA4:=Lib.hid (HA4.out.mono (fun j hj=>NewD.up (Nat.le_refl _) hb.size j hj)));(try have HK:=Lib.hid (HK.out.new_ hb));have HB:=Lib.hid (HB.out.trans (hb.mono HB.out.size));have HK:=Lib.hid hk;rw [← hV,← hg];clear hV hg hb hk) | fail);(first | refine hK9 _ _ (HB.out) ?_ | refine hK9 _ _ (fun _=>HB.out) ?_);clear hK9 K9;(try go_frame);try simp only [beside,List.filterMap_nil])
   | (refine wpY_nil ⟨?_,?_⟩) | fail)
  all_goals
   refine wpY_nil ?_;simp only [OnlyN_normal];refine hKK _ _ ?_;clear hKK KK;(go_wp2_with fail);go_meet
   case rel=>exact ⟨g,E1,d1,E3,d3,E4,d4,rfl,HGE.out,HK.out.setAll rfl,Below.setCells' _ _ HB.out HGE.out,⟨own_setCells HO1.out HK.out (by decide) _ _,HA1.out.mono (fun j hj=>⟨hj.1,by rw [size_setCells];exact hj.2⟩)⟩,⟨own_setCells HO3.out HK.out (by decide) _ _,HA3.out.mono (fun j hj=>⟨hj.1,by rw [size_setCells];exact hj.2⟩)⟩,⟨own_setCells HO4.out HK.out (by decide) _ _,HA4.out.mono (fun j hj=>⟨hj.1,by rw [size_setCells];exact hj.2⟩)⟩⟩
 case rest=>
  obtain ⟨g,E1,d1,E3,d3,E4,d4,rfl,hg,hG,hB,⟨o1,a1⟩,⟨o3,a3⟩,⟨o4,a4⟩⟩:=hcut;have t1:=RowR.of_rd (hs:=TraceT.cells_length) (ownsRow_rd TraceT.cells_length o1) (ain_ne o1 hG (by decide) a1);have t3:=RowR.of_rd (hs:=ApartT.cells_length) (ownsRow_rd ApartT.cells_length o3) (ain_ne o3 hG (by decide) a3);have t4:=RowR.of_rd (hs:=Sym.cells_length) (ownsRow_rd Sym.cells_length o4) (ain_ne o4 hG (by decide) a4);have h0:RH n g r W1 E1 d1 E3 d3 E4 d4 0 none 0 wc:=⟨hG,_,fun h=>h.2 rfl,fun j hj=>hj.1,hg,t1,t3,t4,OwnC.nil _ _ _ _,AIn.none_ _,hB⟩;have H0:=Lib.hid h0;clear t1 t3 t4 o1 o3 o4 a1 a3 a4 p0 p1 p2 p3 p4 p5 hG hB h0;go_wp2_with fail
  go_loopw [4] (fun i wr=>∃(k:Nat) (A:Option Addr) (c:Nat),i = .int .i64 k∧k≤r.holes.length∧RH n g r W1 E1 d1 E3 d3 E4 d4 k A c wr) (fun i wr=>r.holes.length - (intOf i).toNat)
  case atStart=>exact ⟨0,none,0,rfl,Nat.zero_le _,H0.out⟩
  case round=>
   obtain ⟨k,A,c,rfl,hk,hRH⟩:=hrel;obtain ⟨hG,C,hCg,hC,_,t1,t3,t4,hO,hA,hB⟩:=hRH;have hzr:=hB.size;have hX:=HX1.out.below hB (by have:=HZ1.out;omega);obtain ⟨m0,m1,m2,m3,m4,m5⟩:=hX.c6;obtain ⟨n0,n1,n2,n3,n4,n5⟩:=hG.c6;have hgl:=hG.lt;have hxl:=hX.lt;by_cases hlt:k<r.holes.length
   · exact absurd hlt (by rw [HZH.out];simp)
   · obtain rfl:k=r.holes.length:=by omega
     have hTe:=RH.fin rfl hC t1 t3 t4 hO hA;have hR:=HR1.out.below hB (by have:=HZ1.out;omega);(have hxn:w.heap.size+1≠g:=by have:=HZ1.out;omega);have HB9:=Lib.hid (HB1.out.trans (hB.mono (by have:=HZ1.out;omega)));have HT9:=Lib.hid (show wr.there (w.heap.size+1) 0 (#[.int .i64 r.num,.int .i64 r.level,.slice E1 r.elems.length d1,.slice A r.holes.length c,.slice E3 r.aparts.length d3,.slice E4 r.news.length d4]:Array Value).size from hR.there);have HRG:=Lib.hid (show wr.rangeAt g 0 [.int .i64 r.num,.int .i64 r.level,.slice E1 r.elems.length d1,.slice A r.holes.length c,.slice E3 r.aparts.length d3,.slice E4 r.news.length d4] from by have:=hG.range;exact this);have hrl:=hR.lt;have l9:=hTe.keep (w':=wr.setCells (w.heap.size+1) 0 [.int .i64 r.num,.int .i64 r.level,.slice E1 r.elems.length d1,.slice A r.holes.length c,.slice E3 r.aparts.length d3,.slice E4 r.news.length d4]) (D':=NewD w.heap.size (wr.setCells (w.heap.size+1) 0 [.int .i64 r.num,.int .i64 r.level,.slice E1 r.elems.length d1,.slice A r.holes.length c,.slice E3 r.aparts.length d3,.slice E4 r.news.length d4])) (by rw [size_setCells];omega) (fun j hj hl=>⟨⟨by have:=hj.1;have:=HZ1.out;omega,by rw [size_setCells];omega⟩,blk_setCells _ _ _ _ _ (by have:=hj.1;have:=HZ1.out;omega)⟩);have L9:=Lib.hid l9;clear hTe hR l9 hG hCg hC t1 t3 t4 hO hA hB hX;(go_upto_region 6 with fail);(go_wp2_with (first | (with_reducible refine wpList_load_mid rfl 121 _ rfl g 0 rfl [.int .i64 r.num,.int .i64 r.level,.slice E1 r.elems.length d1,.slice A r.holes.length c,.slice E3 r.aparts.length d3,.slice E4 r.news.length d4] _ HRG.out Tryz.underlying121 rfl (by kernel_rfl) ?_) | (with_reducible refine wpList_store_mid rfl 121 _ _ rfl (w.heap.size+1) 0 #[.int .i64 r.num,.int .i64 r.level,.slice E1 r.elems.length d1,.slice A r.holes.length c,.slice E3 r.aparts.length d3,.slice E4 r.news.length d4] rfl rfl HT9.out (by kernel_rfl) (by kernel_rfl) ?_)));(try simp only [Exit.inBlock,Exit.then]);have hBe:Below w.heap.size w (wr.setCells (w.heap.size+1) 0 [.int .i64 r.num,.int .i64 r.level,.slice E1 r.elems.length d1,.slice A r.holes.length c,.slice E3 r.aparts.length d3,.slice E4 r.news.length d4]):=Below.setCells' _ _ HB9.out (by omega);refine bodyPost_ret (v:=.agg #[.int .i64 r.num,.int .i64 r.level,.slice E1 r.elems.length d1,.slice A r.holes.length c,.slice E3 r.aparts.length d3,.slice E4 r.news.length d4]) ?_ rfl ⟨E1,d1,A,c,E3,d3,E4,d4,rfl,L9.out,hBe⟩;exact results_cell (t:=2) (T:=121) rfl _ _ (w.heap.size+1) [.int .i64 r.num,.int .i64 r.level,.slice E1 r.elems.length d1,.slice A r.holes.length c,.slice E3 r.aparts.length d3,.slice E4 r.news.length d4] _ rfl (World.rangeAt_setCells_same wr (w.heap.size+1) 0 [.int .i64 r.num,.int .i64 r.level,.slice E1 r.elems.length d1,.slice A r.holes.length c,.slice E3 r.aparts.length d3,.slice E4 r.news.length d4] HT9.out) Tryz.underlying121 rfl (by kernel_rfl)
theorem find01_is (n kb:Nat) (l:List RecordT) (A:Option Addr) (c:Nat) {D:Nat→Prop} (k:Int) (w:World) (hkb:Blk w kb 122 #[.slice A l.length c]) (hrd:RowR (repRecordT n) D w A c l) (hs : ∀r∈l,SmR n r∧r.holes = []) :
 Calls Tryz.prog 131 #[.int .i64 k,.pointer (some ⟨kb,0,none⟩)] w fun e w'=>Below w.heap.size w w'∧Ans n (lookR l k) (NewD w.heap.size w') e w':=by
 have hlc:=hrd.cap;have HR:=Lib.hid hrd;have HS:=Lib.hid hs;have HKB:=Lib.hid hkb;have hkl:=hkb.lt;clear hrd hs hkb;go_enter Tryz.func131,Tryz.ntmps131;(go_upto_region 1 with fail);obtain ⟨W1,hW1⟩ : ∃W1,W1=w.alloc (.cells #[.int .i64 0,.int .i64 0,.slice none 0 0,.slice none 0 0,.slice none 0 0,.slice none 0 0] 121):=⟨_,rfl⟩;(have hB1:Below w.heap.size w W1:=by rw [hW1];exact (Below.refl _ _).alloc (Nat.le_refl _) _);(have hX1:Blk W1 w.heap.size 121 #[.int .i64 0,.int .i64 0,.slice none 0 0,.slice none 0 0,.slice none 0 0,.slice none 0 0]:=by rw [hW1];exact Blk.new _ _ _);(have hz1:W1.heap.size=w.heap.size+1:=by rw [hW1];simp);rw [← hW1];clear hW1;have HB1:=Lib.hid hB1;have HX1:=Lib.hid hX1;have HZ1:=Lib.hid hz1;clear hB1 hX1 hz1;go_wp2_with fail
 go_loopw [5] (fun i wr=>∃m:Nat,i = .int .i64 m∧m≤l.length∧(∀j,(h:j<l.length)→j<m→l[j].num≠k)∧Below W1.heap.size W1 wr) (fun i wr=>l.length - (intOf i).toNat)
 case atStart=>exact ⟨0,rfl,Nat.zero_le _,fun j _ h=>absurd h (by omega),Below.refl _ _⟩
 case round=>
  obtain ⟨m,rfl,hm,hno,hB⟩:=hrel;have hzr:=hB.size;have hBB:Below w.heap.size w wr:=HB1.out.trans (hB.mono (by have:=HZ1.out;omega));have x0:=(HKB.out.new_ hBB).c1;have hkl2:=(HKB.out.new_ hBB).lt;have hX:=HX1.out.new_ hB;have hxl:=hX.lt;have HNO:=Lib.hid hno;by_cases hlt:m<l.length
  · obtain ⟨g,off,Ay1,cy1,Ay2,cy2,Ay3,cy3,Ay4,cy4,hA0,hDg,hg,q0,q1,q2,q3,q4,q5,r1,r2,r3,r4⟩:=at_RecordT (HR.out.new_ hBB) hlt
    subst hA0;have hys:SmR n l[m]∧l[m].holes = []:=HS.out _ (List.getElem_mem hlt);obtain ⟨y,hy⟩ : ∃y,y=l[m]:=⟨_,rfl⟩;rw [← hy] at q0 q1 q2 q3 q4 q5 r1 r2 r3 r4 hys;(have b1:(0:Int)≤(m:Int):=by omega);(have b2:(m:Int)<(l.length:Int):=by omega);have HY:=Lib.hid hy;have HRA:=Lib.hid (show RecAt n D wr y Ay1 cy1 Ay2 cy2 Ay3 cy3 Ay4 cy4 from ⟨r1,r2,r3,r4⟩);have HYS:=Lib.hid hys;have HB:=Lib.hid hB;have HBB:=Lib.hid hBB;have HX:=Lib.hid hX;clear hy hys r1 r2 r3 r4 hB hBB hX hno;by_cases hk:y.num=k
    · have t1:(y.num == k)=true:=by simpa using hk
      have HK:=Lib.hid hk;clear hk;(go_wp2_with fail);refine (cprec0_is n y Ay1 cy1 Ay2 cy2 Ay3 cy3 Ay4 cy4 wr HRA.out HYS.out.1 HYS.out.2).mono ?_;rintro e w5 ⟨Az1,cz1,Az2,cz2,Az3,cz3,Az4,cz4,rfl,hra,hB5⟩;have hX5:=HX.out.new_ hB5;have HT:=Lib.hid (show w5.there w.heap.size 0 (#[.int .i64 y.num,.int .i64 y.level,.slice Az1 y.elems.length cz1,.slice Az2 y.holes.length cz2,.slice Az3 y.aparts.length cz3,.slice Az4 y.news.length cz4]:Array Value).size from hX5.there);have hxl5:=hX5.lt;have HB5:=Lib.hid hB5;have hzb:=hB5.size;have HRA5:=Lib.hid hra;clear hB5 hra hX5 x0 q0 q1 q2 q3 q4 q5;(go_wp2_with (with_reducible refine wpList_store_mid rfl 121 _ _ rfl w.heap.size 0 #[.int .i64 y.num,.int .i64 y.level,.slice Az1 y.elems.length cz1,.slice Az2 y.holes.length cz2,.slice Az3 y.aparts.length cz3,.slice Az4 y.news.length cz4] rfl rfl HT.out (by kernel_rfl) (by kernel_rfl) ?_));(try simp only [Exit.inBlock,Exit.then]);refine bodyPost_ret (v:=.tuple #[.agg #[.int .i64 y.num,.int .i64 y.level,.slice Az1 y.elems.length cz1,.slice Az2 y.holes.length cz2,.slice Az3 y.aparts.length cz3,.slice Az4 y.news.length cz4],.bool true]) ?_ rfl ⟨Below.setCells' _ _ (HBB.out.trans (HB5.out.mono (by have:=HBB.out.size;omega))) (Nat.le_refl _),?_⟩
      · exact results_cell_tmp (t:=3) (s:=4) (T:=121) rfl _ _ w.heap.size [.int .i64 y.num,.int .i64 y.level,.slice Az1 y.elems.length cz1,.slice Az2 y.holes.length cz2,.slice Az3 y.aparts.length cz3,.slice Az4 y.news.length cz4] _ rfl (World.rangeAt_setCells_same w5 w.heap.size 0 [.int .i64 y.num,.int .i64 y.level,.slice Az1 y.elems.length cz1,.slice Az2 y.holes.length cz2,.slice Az3 y.aparts.length cz3,.slice Az4 y.news.length cz4] HT.out) Tryz.underlying121 rfl (by kernel_rfl)
      · have e:=HY.out
        rw [lookR_is hlt (by rw [← e];exact HK.out) HNO.out,← e];exact ⟨Az1,cz1,Az2,cz2,Az3,cz3,Az4,cz4,rfl,HRA5.out.keep (by rw [size_setCells];omega) (fun j hj hl=>⟨⟨by have:=hj.1;omega,by rw [size_setCells];omega⟩,blk_setCells _ _ _ _ _ (by have:=hj.1;have:=HZ1.out;omega)⟩)⟩
    · have t1:(y.num == k)=false:=by simpa using hk
      have HK:=Lib.hid hk;clear hk;(go_wp2_with fail);go_roundw
      case rel=>
       refine ⟨m+1,by go_num,by omega,fun j h hj=>?_,HB.out⟩;rcases Nat.lt_or_ge j m with h2 | h2
       · exact HNO.out j h h2
       · obtain rfl:j=m:=by omega
         rw [← HY.out];exact HK.out
      case measure=>simp [intOf];omega
  · obtain rfl:m=l.length:=by omega
    have HT:=Lib.hid (show wr.there w.heap.size 0 (#[.int .i64 0,.int .i64 0,.slice none 0 0,.slice none 0 0,.slice none 0 0,.slice none 0 0]:Array Value).size from hX.there);have HBB:=Lib.hid hBB;clear hB hBB hX hno;(go_wp2_with (with_reducible refine wpList_store_mid rfl 121 _ _ rfl w.heap.size 0 #[.int .i64 0,.int .i64 0,.slice none 0 0,.slice none 0 0,.slice none 0 0,.slice none 0 0] rfl rfl HT.out (by kernel_rfl) (by kernel_rfl) ?_));(try simp only [Exit.inBlock,Exit.then]);refine bodyPost_ret (v:=.tuple #[.agg #[.int .i64 0,.int .i64 0,.slice none 0 0,.slice none 0 0,.slice none 0 0,.slice none 0 0],.bool false]) ?_ rfl ⟨Below.setCells' _ _ HBB.out (Nat.le_refl _),?_⟩
    · exact results_cell_tmp (t:=3) (s:=4) (T:=121) rfl _ _ w.heap.size [.int .i64 0,.int .i64 0,.slice none 0 0,.slice none 0 0,.slice none 0 0,.slice none 0 0] _ rfl (World.rangeAt_setCells_same wr w.heap.size 0 [.int .i64 0,.int .i64 0,.slice none 0 0,.slice none 0 0,.slice none 0 0,.slice none 0 0] HT.out) Tryz.underlying121 rfl (by kernel_rfl)
    · rw [lookR_no (fun j h=>HNO.out j h h)]
      exact ⟨none,0,none,0,none,0,none,0,rfl,recat0 _ _⟩
theorem find0_spec (n kb B:Nat) (l:List RecordT) (A:Option Addr) (c:Nat) (W0:World) (hkb:Blk W0 kb 122 #[.slice A l.length c]) (hrd:RowR (repRecordT n) (· < B) W0 A c l) (hs : ∀r∈l,SmR n r∧r.holes = []) (_:B≤W0.heap.size) (hkB:kb<B) :
 FindSpec n B 131 #[.pointer (some ⟨kb,0,none⟩)] (lookR l) (fun E _ w=>(∀k,¬E k)∧Below B W0 w∧B≤w.heap.size) where
 enter:=by intro args w;kernel_rfl
 lt:=fun h k hk=>absurd hk (h.1 k)
 steady:=fun h hF hM=>⟨h.1,h.2.1.trans ⟨hF.os,hF.tape,hF.output,hF.size,fun k hk=>hF.block k (Nat.lt_of_lt_of_le hk h.2.2) (fun hm=>by have:=(hM k hm).2;omega)⟩,Nat.le_trans h.2.2 hF.size⟩
 call:=fun {E ks w} k _ _ h=>by
  refine (find01_is n kb l A c k w (hkb.below h.2.1 hkB) (hrd.keep h.2.1.size (fun j hj _=>⟨hj,h.2.1.block j hj⟩)) hs).mono ?_;rintro e w' ⟨hb,A1,c1,A2,c2,A3,c3,A4,c4,he,hr⟩;exact ⟨fun _=>False,⟨fun _ h=>h,h.2.1.trans (hb.mono h.2.2),Nat.le_trans h.2.2 hb.size⟩,fun _ h=>h.elim,Fr.of_new hb,A1,c1,A2,c2,A3,c3,A4,c4,he,hr.keep (Nat.le_refl _) (fun j hj _=>⟨⟨hj,fun h=>h⟩,rfl⟩)⟩
end
section
open Go.RowKit
abbrev BnumSet:=SetAt (α:=Bnum) 304 259 1 Bnum.cells
theorem nilAhead_Bnum (k0 : Int) (w : World) : (nilAhead 555 259 (.int .i64 k0) "Compare").run Tryz.prog w = .ok (some false) w := by kernel_rfl
theorem method_Bnum (k0 : Int) (w : World) : (method 555 259 (.int .i64 k0) "Compare").run Tryz.prog w = .ok (334, .int .i64 k0) w := by kernel_rfl
def FoundBnum (l:List Bnum) (x:Bnum) (w:World) (e:Ending) (w':World):Prop:=
 e = .returned (.tuple #[.int .i64 (rank cmpBnum l x),.bool (has cmpBnum l x)])∧Below w.heap.size w w'
theorem find_Bnum (b c:Nat) (sn:Bool) (A:Option Addr) (l:List Bnum) (x:Bnum) (w:World) (hS:BnumSet w b sn A c l) (hs:Srt cmpBnum l) (hl:(l.length:Int)≤4611686018427387904) :
 Calls Tryz.prog 207 #[.pointer (some ⟨b,0,none⟩),.int .i64 x] w (FoundBnum l x w):=by
 have hrd:=hS.rd Bnum.cells_length;have h0:=hS.cell0;have hb:=hS.lt;clear hS;have HS:=Lib.hid hs;have HRD:=Lib.hid hrd;clear hs hrd;go_enter Tryz.func207,Tryz.ntmps207;(go_wp2_with fail);go_quiet (fail);(go_wp2_with fail);obtain ⟨W0,hW0⟩ : ∃W0,W0=(w.drewN nq):=⟨_,rfl⟩;(have hB0:Below w.heap.size w W0:=by rw [hW0];exact Below.drewN' (Below.refl _ _) _);rw [← hW0];clear hW0;have HB0:=Lib.hid hB0;clear hB0
 go_loopw [6,7] (fun lo hi wr=>∃i j:Nat,lo = .int .i64 i∧hi = .int .i64 j∧i≤j∧j≤l.length∧(∀k,(h:k<l.length)→k<i→cmpBnum l[k] x<0)∧(∀k,(h:k<l.length)→j≤k→0<cmpBnum l[k] x)∧Below W0.heap.size W0 wr) (fun lo hi wr=>(intOf hi).toNat - (intOf lo).toNat)
 case atStart=>exact ⟨0,l.length,rfl,rfl,Nat.zero_le _,Nat.le_refl _,fun k _ h=>absurd h (by omega),fun k h h'=>absurd h (by omega),Below.refl _ _⟩
 case round=>
  obtain ⟨i,j,rfl,rfl,hij,hj,hlo,hhi,hB⟩:=hrel;have HLO:=Lib.hid hlo;have HHI:=Lib.hid hhi;clear hlo hhi;have hsz:w.heap.size≤W0.heap.size:=HB0.out.size;by_cases hlt:i<j
  · obtain ⟨m,hm⟩ : ∃m,m=i+(j - i) / 2:=⟨_,rfl⟩
    (have hml:m<l.length:=by omega);(have hmj:m<j:=by omega);(have hmi:i≤m:=by omega);(have e1:((i:Int)+((j:Int) - (i:Int)) / 2)=(m:Int):=by omega);have E1:=Lib.hid e1;clear e1 hm;obtain ⟨g,off,rfl,hgs,hcell⟩:=HRD.out.at_ hml;have low : ∀(p:Addr),p.block<w.heap.size→wr.cell? p=w.cell? p:=fun p hp=>(hB.cell (p:=p) (by omega)).trans (HB0.out.cell (p:=p) hp);have r0:=(low ⟨b,0,none⟩ hb).trans h0;have q0:wr.cell? ⟨g,off+m,none⟩=some (.int .i64 l[m]):=(low ⟨g,off+m,none⟩ hgs).trans (by simpa using hcell 0 _ rfl);(have b1:(0:Int)≤(m:Int):=by omega);(have b2:(m:Int)<(l.length:Int):=by omega);have hsw:W0.heap.size≤wr.heap.size:=hB.size;have N:=nilAhead_Bnum;have M:=method_Bnum;clear low hcell h0;have HB:=Lib.hid hB;clear hB;obtain ⟨y,hy⟩ : ∃y,y=l[m]:=⟨_,rfl⟩;rw [← hy] at q0;have HY:=Lib.hid hy;clear hy;(have hbw:b<wr.heap.size:=by omega);(have hgw:g<wr.heap.size:=by omega);(go_upto_region 4 with (fail));rw [E1.out];(go_wp2_with fail);refine (cmp_bnum y x _).mono ?_;rintro e w1 ⟨rfl,hb1⟩;have HB1:Below W0.heap.size W0 w1:=HB.out.trans (hb1.mono hsw);clear r0 q0 N M;have HB1':=Lib.hid HB1;clear HB1;by_cases hc:cmpBnum y x=0
    · have HC:=Lib.hid hc
      (have t1:(cmpBnum y x == 0)=true:=by simp [hc]);clear hc;(go_wp2_with fail);go_ret2;have e:=HC.out;rw [HY.out] at e;refine ⟨?_,HB0.out.trans (HB1'.out.mono (by omega))⟩;rw [rank_some tc_bnum HS.out hml e,(at_some tc_bnum HS.out hml e).2.2.1];rfl
    · have t1:(cmpBnum y x == 0)=false:=by simp [hc]
      by_cases hc2:cmpBnum y x<0
      · have HC:=Lib.hid hc2
        (have t2:decide (cmpBnum y x<0)=true:=by simpa using hc2);clear hc hc2;(go_wp2_with fail);go_roundw
        case rel=>
         refine ⟨m+1,j,by go_num,rfl,by omega,hj,fun k h1 h2=>?_,HHI.out,HB1'.out⟩;have e:=HC.out;rw [HY.out] at e;rcases Nat.lt_or_ge k m with h3 | h3
         · exact tc_bnum.lt_of_lt_of_le (HS.out.lt h3 hml) (by omega)
         · obtain rfl:k=m:=by omega
           exact e
        case measure=>simp [intOf];omega
      · have t2:decide (cmpBnum y x<0)=false:=by simpa using hc2
        (have hc3:0<cmpBnum y x:=by omega);have HC:=Lib.hid hc3;clear hc hc2 hc3;(go_wp2_with fail);go_roundw
        case rel=>
         refine ⟨i,m,rfl,rfl,by omega,by omega,HLO.out,fun k h1 h2=>?_,HB1'.out⟩;have e:=HC.out;rw [HY.out] at e;rcases Nat.lt_or_ge m k with h3 | h3
         · exact (tc_bnum.symm _ _).1 (tc_bnum.lt_trans ((tc_bnum.symm _ _).2 e) (HS.out.lt h3 h1))
         · obtain rfl:k=m:=by omega
           exact e
        case measure=>simp [intOf];omega
  · obtain rfl:i=j:=by omega
    have HB:=Lib.hid hB;clear hB;(go_wp2_with fail);go_ret2;refine ⟨?_,HB0.out.trans (HB.out.mono (by omega))⟩;rw [rank_none hj HLO.out HHI.out,(at_none HLO.out HHI.out).2.2];rfl
end
section
open Go.RowKit
theorem info_Bnum:(Tryz.prog.info? 259).map (fun i=>(i.zero,i.size,i.bytes))=some (some (.int .i64 0),1,8):=by kernel_rfl
theorem Bnum.one (x:Bnum) : ∀u∈Bnum.cells x,u.oneCell'=true:=by intro u hu;simp [Bnum.cells] at hu;rcases hu with rfl<;>rfl
theorem Bnum.oneAll (l:List Bnum) : ∀u∈l.flatMap Bnum.cells,u.oneCell'=true:=by intro u hu;obtain ⟨x,_,hx⟩:=List.mem_flatMap.1 hu;exact Bnum.one x u hx
def OwnPostBnum (w:World) (b:Nat) (sn:Bool) (A:Option Addr) (l:List Bnum) (e:Ending) (w':World):Prop:=
 e = .returned (.tuple #[])∧∃A' c',BnumSet w' b false A' c' l∧Fr (· = b) w w'∧Moved w sn A false A'
theorem own_no_Bnum (b c:Nat) (A:Option Addr) (l:List Bnum) (w:World) (hS:BnumSet w b false A c l) :
 Calls Tryz.prog 208 #[.pointer (some ⟨b,0,none⟩)] w (OwnPostBnum w b false A l):=by
 have h1:=hS.cell1;have HS:=Lib.hid hS;clear hS;go_enter Tryz.func208,Tryz.ntmps208;go_wp2;go_end0;exact ⟨rfl,A,c,HS.out,Fr.refl _ _,.inl ⟨rfl,rfl⟩⟩
theorem own_yes_Bnum (b c:Nat) (A:Option Addr) (l:List Bnum) (w:World) (hS:BnumSet w b true A c l) (hl:(l.length:Int)≤1000000000) :
 Calls Tryz.prog 208 #[.pointer (some ⟨b,0,none⟩)] w (OwnPostBnum w b true A l):=by
 obtain ⟨i0,hi,hz0,hz1,hz2⟩:=info_parts info_Bnum;have h0:=hS.cell0;have h1:=hS.cell1;have hb:=hS.lt;have f0:=hS.blk.frozen 0;have f1:=hS.blk.frozen 1;have hrd:=hS.rd Bnum.cells_length;have HB:=Lib.hid hS.blk;have HRD:=Lib.hid hrd;clear hS hrd;have e1:IntKind.i64.wrap ((l.length:Int)+1)=(l.length:Int)+1:=IntWalk.i64_in _ (by omega)
 have hmk : ∀W:World,(Instr.makeSlice 302 (.int .i64 0) (.int .i64 ((l.length:Int)+1))).run Tryz.prog W = .ok (.slice (some ⟨W.heap.size,0,none⟩) 0 (l.length+1)) (W.alloc (.cells (madeCells (Value.cells (.int .i64 0)) ((l.length+1))) 259)):=fun W=>by
  have h:=run_make (P:=Tryz.prog) W 302 259 i0 _ Tryz.underlying302 hi hz0 .i64 .i64 0 ((l.length:Int)+1) (by omega) (by omega) (by rw [hz2];omega) (by omega);rw [hz1] at h;simpa [show ((l.length:Int)+1).toNat=l.length+1 by omega] using h
 go_enter Tryz.func208,Tryz.ntmps208;(go_wp2_with fail);refine wp_region_E (fun w9=>Below w.heap.size w w9) [(0,0),(1,0),(2,0),(3,0),(4,1),(5,0),(6,0),(8,0),(9,0),(10,0),(11,1),(7,2),(12,2),(13,0),(14,0),(15,2)] (by kernel_rfl) (by kernel_rfl) (fun KK hKK=>?_);simp only [beside,List.filterMap_cons,List.filterMap_nil,List.getElem?_toArray,List.getElem?_cons_zero,List.getElem?_cons_succ,Option.map_some];(repeat ((first | (refine wpX_w ?_ (Or.inl ⟨by rfl,fun w9=>?_⟩) ?_;rotate_left 1;go_simp;with_reducible rfl) | (refine wpX_l ?_ (((Below.refl _ _).drew)) (Or.inl ⟨by rfl,fun w9 hw9=>?_⟩) ?_;rotate_left 1;obtain ⟨hc9,hf9⟩:=bcell hw9;go_simp;with_reducible rfl) | refine wpX_w undef (Or.inr ⟨by rfl,rfl⟩) ?_ | refine wpX_l undef (((Below.refl _ _).drew)) (Or.inr ⟨by rfl,rfl⟩) ?_);go_frame));refine wpX_es (fun K9 hK9=>?_);go_simp;refine hK9 _ _ (((Below.refl _ _).drew).alloc (Nat.le_refl _) _) ?_;clear hK9 K9;refine wpX_e (by kernel_rfl) (fun K9 hK9=>?_)
 refine step_append_src _ (by rfl) _ _ _ (by rfl) 259 i0 _ 1 8 Tryz.underlying302 hi hz0 hz1 hz2 rfl (by omega) _ 0 [] (by rfl) (World.ownsRow_made _ _ _ (Nat.zero_le _) (by unfold maxLen;omega) (by simp [madeCells])) A l.length c (l.flatMap Bnum.cells) (by rfl) (flat_length Bnum.cells_length l)
  ((HRD.out.drew.alloc _).news Bnum.cells_length (by omega)) (Bnum.oneAll l) (by unfold maxLen;omega) (by omega) ?_
 intro v2 w2 hown hgr hnil hat;refine hK9 _ _ ?_;clear hK9 K9;rw [Nat.zero_add,List.nil_append] at hown;obtain ⟨A',c',rfl,_,_,hz⟩:=own_form2 hown;have HB1:=(HB.out.drew.alloc (.cells (madeCells (Value.cells (.int .i64 0)) ((l.length+1))) 259)).grown hgr (by simp [Value.ownBlock];omega);have c0:=(HB1.cell 0).trans rfl;have c1:=(HB1.cell 1).trans rfl;have z0:=HB1.frozen 0;have z1:=HB1.frozen 1;have HB2:=Lib.hid HB1;clear HB1;(repeat ((first | (refine wpX_w ?_ (Or.inl ⟨by rfl,fun w9=>?_⟩) ?_;rotate_left 1;go_simp;with_reducible rfl) | (refine wpX_l ?_ (((Below.refl _ _).drew).alloc (Nat.le_refl _) _) (Or.inl ⟨by rfl,fun w9 hw9=>?_⟩) ?_;rotate_left 1;obtain ⟨hc9,hf9⟩:=bcell hw9;go_simp;with_reducible rfl) | refine wpX_w undef (Or.inr ⟨by rfl,rfl⟩) ?_ | refine wpX_l undef (((Below.refl _ _).drew).alloc (Nat.le_refl _) _) (Or.inr ⟨by rfl,rfl⟩) ?_);go_frame));refine wpX_e (by kernel_rfl) (fun K9 hK9=>?_);go_simp;refine hK9 _ _ ?_;clear hK9 K9;refine wpX_nil ?_;simp only [OnlyN_normal];refine hKK _ _ ?_;clear hKK KK;go_wp2;go_end0
 have hb2:(Value.slice A' l.length c').ownBlock=some w.heap.size∨(Value.slice A' l.length c').ownBlock=some (w.heap.size+1):=by
  rcases hat with h | h
  · left;rw [h];rfl
  · right;rw [h];simp
 have hA : ∃g,w.heap.size≤g∧A'=some ⟨g,0,none⟩:=by
  rcases A' with _ | a
  · exfalso;simp [Value.ownBlock] at hb2
  · obtain ⟨g,rfl⟩:=hz a rfl
    refine ⟨g,?_,rfl⟩;simp [Value.ownBlock] at hb2;omega
 obtain ⟨g,hg,rfl⟩:=hA;have HB1:=HB2.out;have HF:Fr (· = b) w w2:=((Fr.refl (· = b) w).drew.alloc _).grown hgr (fun k e=>by simp [Value.ownBlock] at e;right;omega);refine ⟨rfl,some ⟨g,0,none⟩,c',⟨(HB1.set_ 0 _).set_ 1 _,?_⟩,(HF.setCell (p:=⟨b,0,none⟩) (.inl rfl) _).setCell (p:=⟨b,1,none⟩) (.inl rfl) _,.inr ⟨rfl,g,hg,rfl⟩⟩;(have hne:(Value.slice (some ⟨g,0,none⟩) l.length c').ownBlock≠some b:=by simp [Value.ownBlock];omega);exact ownsRow_setCell_other (a:=⟨b,1,none⟩) (ownsRow_setCell_other (a:=⟨b,0,none⟩) hown hne _) hne _
theorem own_Bnum (b c:Nat) (sn:Bool) (A:Option Addr) (l:List Bnum) (w:World) (hS:BnumSet w b sn A c l) (hl:(l.length:Int)≤1000000000) :
 Calls Tryz.prog 208 #[.pointer (some ⟨b,0,none⟩)] w (OwnPostBnum w b sn A l):=by
 cases sn
 · exact own_no_Bnum b c A l w hS
 · exact own_yes_Bnum b c A l w hS hl
end
section
open Go.RowKit
def PutPostBnum (w:World) (b:Nat) (sn:Bool) (A:Option Addr) (l:List Bnum) (x:Bnum) (e:Ending) (w':World):Prop:=
 e = .returned (.bool (!has cmpBnum l x))∧∃sn' A' c',BnumSet w' b sn' A' c' (put cmpBnum l x)∧Fr (SetMod b sn A) w w'∧Moved w sn A sn' A'
theorem put_there_Bnum (b c:Nat) (sn:Bool) (A:Option Addr) (l:List Bnum) (x:Bnum) (w:World) (hS:BnumSet w b sn A c l) (hs:Srt cmpBnum l) (hl:(l.length:Int)≤100000000) (hh:has cmpBnum l x=true) :
 Calls Tryz.prog 172 #[.pointer (some ⟨b,0,none⟩),.int .i64 x] w (PutPostBnum w b sn A l x):=by
 have HS:=Lib.hid hS;have HO:=Lib.hid hs;clear hS hs;go_enter Tryz.func172,Tryz.ntmps172;(go_wp2_with fail);refine (find_Bnum b c sn A l x _ (HS.out.new_ (Below.refl _ _)) HO.out (by omega)).mono ?_;rintro e w1 ⟨rfl,hb1⟩;(go_wp2_with fail);go_ret;refine ⟨by rw [hh];rfl,sn,A,c,?_,Fr.of_new ((Below.refl _ _).trans (hb1.mono (by simp))),.inl ⟨rfl,rfl⟩⟩;rw [put_has hh];exact HS.out.new_ ((Below.refl _ _).trans (hb1.mono (by simp)))
theorem put_new_Bnum (b c:Nat) (sn:Bool) (A:Option Addr) (l:List Bnum) (x:Bnum) (w:World) (hS:BnumSet w b sn A c l) (hs:Srt cmpBnum l) (hl:(l.length:Int)≤100000000) (hh:has cmpBnum l x=false) :
 Calls Tryz.prog 172 #[.pointer (some ⟨b,0,none⟩),.int .i64 x] w (PutPostBnum w b sn A l x):=by
 obtain ⟨i0,hi,hz0,hz1,hz2⟩:=info_parts info_Bnum;have HS:=Lib.hid hS;have HO:=Lib.hid hs;have hb:=hS.lt;clear hS hs;have hrk:=rank_le (cmp:=cmpBnum) l x;go_enter Tryz.func172,Tryz.ntmps172;(go_wp2_with fail);have hSa:=HS.out.new_ (Below.refl w.heap.size w);have HSa:=Lib.hid hSa;clear hSa;refine (find_Bnum b c sn A l x _ HSa.out HO.out (by omega)).mono ?_;rintro e w1 ⟨rfl,hb1⟩;have HS1:=Lib.hid (HSa.out.new_ hb1);(have hsz1:w.heap.size≤w1.heap.size:=by have:=hb1.size;(try simp at this);omega);have HB1:=Lib.hid hb1;clear hb1;(go_wp2_with fail);refine (own_Bnum b c sn A l _ HS1.out (by omega)).mono ?_;rintro e w2 ⟨rfl,A1,c1,hS2,hF2,hM2⟩;have hsz2:w1.heap.size≤w2.heap.size:=hF2.size;have s0:=hS2.cell0;have f0:=hS2.blk.frozen 0;(have hb2:b<w2.heap.size:=by omega);have HS2:=Lib.hid hS2;have HF2:=Lib.hid hF2;have HM2:=Lib.hid hM2;clear hS2 hF2 hM2
 go_upto_region 8 with
  (at_builtin;refine wpList_append_src (w2.alloc (.cells #[.int .i64 x] 259)) rfl (.tmp 23) (.tmp 25) 302 rfl 259 i0 _ 1 8 Tryz.underlying302 hi hz0 hz1 hz2 rfl (by omega) (.slice A1 l.length c1) l.length (l.flatMap Bnum.cells) rfl (ownsRow_new HS2.out.row ((Below.refl _ _).alloc (Nat.le_refl _) _)) (some ⟨w2.heap.size,0,none⟩) 1 1 (Bnum.cells x) rfl rfl (fun _=>⟨_,rfl,World.news_of_block (heap_alloc_new _ _)⟩) (Bnum.one x) (by unfold maxLen;omega) (by omega) ?_;
   intro v2 w3 hown hgr hnil hat;
   obtain ⟨g,c2,rfl⟩ : ∃g c2,v2 = .slice (some ⟨g,0,none⟩) (l.length+1) c2:=(by
    rcases ownsRow_form hown with ⟨_,h0,_⟩ | ⟨g,c2,h,_⟩
    · omega
    · exact ⟨g,c2,h⟩);
   have HB3':=(HS2.out.blk.alloc (.cells #[.int .i64 x] 259)).grown hgr (own_blk_ne HS2.out.row HS2.out.blk (by decide));
   have c0:=(HB3'.cell 0).trans rfl;
   have z0:=HB3'.frozen 0;
   have HB3:=Lib.hid HB3';
   have HOWN:=Lib.hid hown;
   have HGR:=Lib.hid hgr;
   clear HB3' hown hgr)
 have hlg:((l.length+1:Nat):Int)=(l.length:Int)+1:=by omega
 have hG:(SetMod b sn A g∨w.heap.size≤g)∧Moved w sn A false (some ⟨g,0,none⟩)∧True∧g≠b:=by
  rcases hat with h | h
  · rcases A1 with _ | a1
    · simp [Value.ownBlock] at h
    · obtain ⟨A',c',hv,_,_,hz⟩:=own_form2 HS2.out.row
      injection hv with hv _ _;obtain ⟨g',rfl⟩:=hz a1 hv.symm;(have hgg:g'=g:=by simpa [Value.ownBlock] using h.symm);subst hgg;have hne:g'≠b:=HS2.out.row_ne (by decide) _ rfl;rcases HM2.out with ⟨hsn,hA⟩ | ⟨_,g2,hg2,hA⟩
      · have h1:=HS.out.row_lt _ hA.symm
        exact ⟨.inl (.inr ⟨hsn.symm,_,hA.symm,rfl⟩),.inl ⟨hsn,hA⟩,True.intro,hne⟩
      · injection hA with hA
        injection hA with hA;subst hA;exact ⟨.inr (by omega),.inr ⟨rfl,_,by omega,rfl⟩,True.intro,hne⟩
  · have hgg:g=w2.heap.size+1:=by simpa [Value.ownBlock] using h
    subst hgg;exact ⟨.inr (by omega),.inr ⟨rfl,_,by omega,rfl⟩,True.intro,by omega⟩
 obtain ⟨hgM,hgMv,hgk1,hgb⟩:=hG;obtain ⟨w4,hw4⟩ : ∃w4,w4=w3.setCell ⟨b,0,none⟩ (.slice (some ⟨g,0,none⟩) (l.length+1) c2):=⟨_,rfl⟩;have hB4:Blk w4 b 304 #[.slice (some ⟨g,0,none⟩) (l.length+1) c2,.bool false]:=by rw [hw4];exact HB3.out.set_ 0 _
 have hR4:w4.ownsRow 0 259 1 (.slice (some ⟨g,0,none⟩) (l.length+1) c2) (l.length+1) ((shiftAt l x l.length).flatMap Bnum.cells):=by
  rw [hw4,shiftAt_start];refine ownsRow_setCell_other (a:=⟨b,0,none⟩) ?_ (by simpa [Value.ownBlock] using hgb) _;rw [List.flatMap_append,List.flatMap_singleton];exact HOWN.out
 have hF4:Fr (SetMod b sn A) w w4:=by
  rw [hw4];have h1:Fr (SetMod b sn A) w w1:=Fr.of_new ((Below.refl _ _).trans (HB1.out.mono (by simp)));have h2:Fr (SetMod b sn A) w w2:=h1.trans (HF2.out.mono (fun k _ h=>.inl h));refine ((h2.alloc _).grown HGR.out (fun k hk=>?_)).setCell (p:=⟨b,0,none⟩) (.inl (.inl rfl)) _;rcases A1 with _ | a1
  · cases hk
  · simp only [Value.ownBlock,Option.some.injEq] at hk
    subst hk;rcases HM2.out with ⟨hsn,hA⟩ | ⟨_,g',hg',hA⟩
    · left;right;exact ⟨hsn.symm,a1,hA.symm,rfl⟩
    · injection hA with hA
      subst hA;right;dsimp only;omega
 rw [← hw4];have HgM:=Lib.hid hgM;have HgMv:=Lib.hid hgMv;have HB4:=Lib.hid hB4;have HR4:=Lib.hid hR4;have HF4:=Lib.hid hF4;have s4:=hB4.cell 0;have s4':w4.cell? ⟨b,0,none⟩=some (.slice (some ⟨g,0,none⟩) (l.length+1) c2):=s4;clear s4 hw4 hB4 hR4 hF4 hat hgM hgMv hnil  s0 f0;go_wp2_with fail
 go_loopw [7] (fun s wr=>∃i:Nat,s = .int .i64 i∧rank cmpBnum l x≤i∧i≤l.length∧wr.ownsRow 0 259 1 (.slice (some ⟨g,0,none⟩) (l.length+1) c2) (l.length+1) ((shiftAt l x i).flatMap Bnum.cells)∧Fr (· = g) w4 wr) (fun s wr=>(intOf s).toNat)
 case atStart=>exact ⟨l.length,by go_num,hrk,Nat.le_refl _,HR4.out,Fr.refl _ _⟩
 case round=>
  obtain ⟨i,rfl,hi1,hi2,hown,hfr⟩:=hrel;have hgw:g<wr.heap.size:=(hown.lt g rfl).2;have r0:wr.cell? ⟨b,0,none⟩=some (.slice (some ⟨g,0,none⟩) (l.length+1) c2):=(hfr.cell (p:=⟨b,0,none⟩) HB4.out.lt (fun h=>hgb h.symm)).trans s4';have fz : ∀o,wr.frozen? ⟨g,o,none⟩=false:=fun o=>hown.frozenAt o;have HOW:=Lib.hid hown;have HFR:=Lib.hid hfr;clear hown hfr;by_cases hlt:rank cmpBnum l x<i
  · obtain ⟨j,rfl⟩ : ∃j,i=j+1:=⟨i - 1,by omega⟩
    (have hj:j<l.length:=by omega);have hrd:=ownsRow_rd (A:=some ⟨g,0,none⟩) (c:=c2) (l:=shiftAt l x (j+1)) Bnum.cells_length (by rw [shiftAt_length l x hi2];exact HOW.out);obtain ⟨g',o',hgo,_,hcell⟩:=hrd.at_ (k:=j) (by rw [shiftAt_length l x hi2];omega);injection hgo with hgo;injection hgo with hg1 hg2;subst hg1;subst hg2;rw [shiftAt_read l x hj] at hcell;have q0:wr.cell? ⟨g,j,none⟩=some (.int .i64 l[j]):=by simpa using hcell 0 _ rfl
    have rmj:Room wr g 259 (c2*1)∧l.length+1≤c2:=by
     rcases ownsRow_form HOW.out with ⟨hv,_⟩ | ⟨g',cap,hv,hn,_,hr,_⟩
     · cases hv
     · injection hv with hA _ hc
       injection hA with hA;injection hA with hA;subst hA;subst hc;exact ⟨hr,hn⟩
    obtain ⟨hrm,hcap⟩:=rmj;obtain ⟨u0,t0⟩:=hrm.cell (i:=(j+1)) (by omega);(have b0:(0:Int)≤(j:Int)+1:=by omega);(have b1:(0:Int)≤(j:Int):=by omega);(have b4:(j:Int)<(l.length:Int):=by omega);(have b2:(j:Int)<(l.length:Int)+1:=by omega);(have b3:(j:Int)+1<(l.length:Int)+1:=by omega);have w1:IntKind.i64.wrap ((j:Int))=(j:Int):=IntWalk.i64_in _ (by omega);(have w2:IntKind.i64.wrap ((j:Int)+1 - 1)=(j:Int):=by rw [IntWalk.i64_in _ (by omega)];omega);clear hcell hrd hrm;obtain ⟨y,hy⟩ : ∃y,y=l[j]:=⟨_,rfl⟩;rw [← hy] at q0;have HY:=Lib.hid hy;have hbw:b<wr.heap.size:=World.block_lt_of_cell? wr _ r0;clear hy;(go_wp2_with fail);refine wp_region_E (fun w9=>Below wr.heap.size wr w9) [(0,0),(1,0),(2,0),(3,1),(4,0),(5,0),(6,0),(7,0),(8,1),(9,0),(10,0),(11,0),(12,1),(13,0),(14,2)] (by kernel_rfl) (by kernel_rfl) (fun KK hKK=>?_);simp only [beside,List.filterMap_cons,List.filterMap_nil,List.getElem?_toArray,List.getElem?_cons_zero,List.getElem?_cons_succ,Option.map_some];(repeat ((first | (refine wpX_w ?_ (Or.inl ⟨by rfl,fun w9=>?_⟩) ?_;rotate_left 1;go_simp;with_reducible rfl) | (refine wpX_l ?_ (((Below.refl _ _).drew)) (Or.inl ⟨by rfl,fun w9 hw9=>?_⟩) ?_;rotate_left 1;obtain ⟨hc9,hf9⟩:=bcell hw9;go_simp;with_reducible rfl) | refine wpX_w undef (Or.inr ⟨by rfl,rfl⟩) ?_ | refine wpX_l undef (((Below.refl _ _).drew)) (Or.inr ⟨by rfl,rfl⟩) ?_);go_frame));refine wpX_e (by kernel_rfl) (fun K9 hK9=>?_);go_simp;refine hK9 _ _ ?_;clear hK9 K9;refine wpX_nil ?_;simp only [OnlyN_normal];refine hKK _ _ ?_;clear hKK KK;(go_wp2_with fail);go_roundw
    case rel=>
     refine ⟨j,by go_num,by omega,by omega,?_,Fr.drew ((HFR.out).setCell (p:=⟨g,(j+1),none⟩) (.inl rfl) (_))⟩;have hst:=((HOW.out).stored ((j+1)) (.int .i64 y)).1
     have he:setAll ((shiftAt l x (j+1)).flatMap Bnum.cells) ((j+1)) (Bnum.cells y)=(shiftAt l x j).flatMap Bnum.cells:=by
      rw [flat_set1 Bnum.cells_length (by omega) _ (j+1) (by rw [shiftAt_length l x hi2];omega),HY.out,shiftAt_step l x hj]
     rw [← he];exact hst
    case measure=>simp [intOf]<;>omega
  · obtain rfl:i=rank cmpBnum l x:=by omega
    have rmj:Room wr g 259 (c2*1)∧l.length+1≤c2:=by
     rcases ownsRow_form HOW.out with ⟨hv,_⟩ | ⟨g',cap,hv,hn,_,hr,_⟩
     · cases hv
     · injection hv with hA _ hc
       injection hA with hA;injection hA with hA;subst hA;subst hc;exact ⟨hr,hn⟩
    obtain ⟨hrm,hcap⟩:=rmj;obtain ⟨k,hk⟩ : ∃k,k=rank cmpBnum l x:=⟨_,rfl⟩;rw [← hk] at hi2 hlt ⊢;obtain ⟨u0,t0⟩:=hrm.cell (i:=k) (by omega);(have b1:(0:Int)≤(k:Int):=by omega);(have b2:(k:Int)<(l.length:Int)+1:=by omega);have HK:=Lib.hid hk;have hbw:b<wr.heap.size:=World.block_lt_of_cell? wr _ r0;clear hrm hk;(go_wp2_with fail);go_ret;have HOWk:=HOW.out;rw [← HK.out] at HOWk;have hst:=((HOWk).stored (k) (.int .i64 x)).1
    have he:setAll ((shiftAt l x k).flatMap Bnum.cells) (k) (Bnum.cells x)=(put cmpBnum l x).flatMap Bnum.cells:=by
     rw [flat_set1 Bnum.cells_length (by omega) _ k (by rw [shiftAt_length l x hi2];omega),shiftAt_end l x hi2,put_eq tc_bnum HO.out hh,HK.out]
    have hln:=length_put tc_bnum HO.out hh;refine ⟨by rw [hh];rfl,false,some ⟨g,0,none⟩,c2,⟨?_,?_⟩,?_,?_⟩
    · rw [hln]
      exact (HB4.out.fr HFR.out (fun h=>hgb h.symm)).far (p:=⟨g,k,none⟩) (fun h=>hgb h.symm) _
    · rw [hln,← he]
      exact hst
    · exact HF4.out.into (((HFR.out).setCell (p:=⟨g,k,none⟩) (.inl rfl) (_))) (fun k hk=>by subst hk;exact HgM.out)
    · exact HgMv.out
theorem put_Bnum (b c:Nat) (sn:Bool) (A:Option Addr) (l:List Bnum) (x:Bnum) (w:World) (hS:BnumSet w b sn A c l) (hs:Srt cmpBnum l) (hl:(l.length:Int)≤100000000) :
 Calls Tryz.prog 172 #[.pointer (some ⟨b,0,none⟩),.int .i64 x] w (PutPostBnum w b sn A l x):=by
 cases hh:has cmpBnum l x
 · exact put_new_Bnum b c sn A l x w hS hs hl hh
 · exact put_there_Bnum b c sn A l x w hS hs hl hh
end
section
open Go.RowKit
def NewPostBnum (w:World) (xs:List Bnum) (e:Ending) (w':World):Prop:=
 ∃k,e = .returned (.pointer (some ⟨k,0,none⟩))∧w.heap.size≤k∧∃sn A c,BnumSet w' k sn A c (puts cmpBnum [] xs)∧AIn A (w.heap.size≤·)∧Below w.heap.size w w'
theorem new_Bnum (A:Option Addr) (c:Nat) (xs:List Bnum) (w:World) (hrd:RowRd w 1 Bnum.cells A c xs) (hl:(xs.length:Int)≤10000000) :
 Calls Tryz.prog 171 #[.slice A xs.length c] w (NewPostBnum w xs):=by
 have HRD:=Lib.hid hrd;clear hrd;go_enter Tryz.func171,Tryz.ntmps171;(go_wp2_with fail);obtain ⟨W0,hW0⟩ : ∃W0,W0=w.alloc (.cells #[.slice none 0 0,.bool false] 304):=⟨_,rfl⟩;(have hb0:Below w.heap.size w W0:=by rw [hW0];exact (Below.refl _ _).alloc (Nat.le_refl _) _);have hS0:BnumSet W0 w.heap.size false none 0 []:=⟨by rw [hW0];exact Blk.new _ _ _,⟨by simp,.inl ⟨rfl,rfl⟩⟩⟩;rw [← hW0];clear hW0;have HB0:=Lib.hid hb0;have HS0:=Lib.hid hS0;clear hb0 hS0
 go_loopw [10] (fun s wr=>∃i:Nat,s = .int .i64 i∧i≤xs.length∧∃sn A' c',BnumSet wr w.heap.size sn A' c' (puts cmpBnum [] (xs.take i))∧AIn A' (w.heap.size≤·)∧Below w.heap.size w wr) (fun s wr=>xs.length - (intOf s).toNat)
 case atStart=>exact ⟨0,rfl,Nat.zero_le _,false,none,0,HS0.out,AIn.none_ _,HB0.out⟩
 case round=>
  obtain ⟨i,rfl,hi,sn,A',c',hS,hA',hB⟩:=hrel;have HS:=Lib.hid hS;have HA:=Lib.hid hA';have HB:=Lib.hid hB;clear hS hA' hB;by_cases hlt:i<xs.length
  · obtain ⟨x,hx⟩ : ∃x,x=xs[i]:=⟨_,rfl⟩
    obtain ⟨g,off,rfl,hgs,hcell⟩:=(HRD.out.fr (Fr.of_new (M:=fun _=>False) HB.out) (fun _ _ h=>h)).at_ hlt;rw [← hx] at hcell;(have q0:wr.cell? ⟨g,off+i,none⟩=some (.int .i64 x):=by simpa using hcell 0 _ rfl);(have b1:(0:Int)≤(i:Int):=by omega);(have b2:(i:Int)<(xs.length:Int):=by omega);have HX:=Lib.hid hx;clear hcell hx;(go_wp2_with fail);have hsr:=Srt.puts tc_bnum (xs.take i) (Srt.nil (cmp:=cmpBnum))
    have hlen:(((puts cmpBnum [] (xs.take i)).length:Nat):Int)≤100000000:=by
     have:=length_puts_le tc_bnum (xs.take i) (Srt.nil (cmp:=cmpBnum));simp at this;omega
    refine (put_Bnum w.heap.size c' sn A' _ x _ (HS.out.new_ (Below.refl _ _)) hsr hlen).mono ?_;rintro e w1 ⟨rfl,sn2,A2,c2,hS2,hF2,hM2⟩
    have hB1:Below w.heap.size w w1:=(HB.out).trans (hF2.below (by have:=HB.out.size;(try simp);omega) (fun k hk hm=>by
     rcases hm with hm | ⟨_,a,ha,hm⟩
     · omega
     · have:=HA.out a ha;omega))
    have hA2:AIn A2 (w.heap.size≤·):=by
     rcases hM2 with ⟨_,rfl⟩ | ⟨_,g2,hg2,rfl⟩
     · exact HA.out
     · intro a ha;cases ha;have:=HB.out.size;(try simp at hg2 ⊢);omega
    have HS2:=Lib.hid hS2;have HB1:=Lib.hid hB1;have HA2:=Lib.hid hA2;clear hS2 hB1 hA2 hF2 hM2 hsr hlen q0;(go_wp2_with fail);go_roundw
    case rel=>
     refine ⟨i+1,by go_num,by omega,sn2,A2,c2,?_,HA2.out,HB1.out⟩;rw [List.take_add_one,List.getElem?_eq_getElem hlt,← HX.out];simp only [Option.toList_some,puts_snoc];exact HS2.out
    case measure=>simp [intOf]<;>omega
  · have hie:i=xs.length:=by omega
    subst hie;(go_wp2_with fail);go_ret;refine ⟨w.heap.size,rfl,Nat.le_refl _,sn,A',c',?_,HA.out,HB.out⟩;have:=HS.out;rwa [List.take_length] at this
end
section
open Go.RowKit
theorem SeenStart.from_ {b:Nat} {W W1 F:World} (h:SeenStart b W1 F) (hb:Below W.heap.size W W1):SeenStart b W F:=by
 obtain ⟨X,hX,rfl⟩:=h;exact ⟨X,hb.trans (hX.mono hb.size),rfl⟩
theorem SeenStart.size {b:Nat} {W F:World} (h:SeenStart b W F):W.heap.size≤F.heap.size:=by
 obtain ⟨X,hX,rfl⟩:=h;simpa using hX.size
end
end Go.Proofs.YtldndkngpdfpfaaGreat
