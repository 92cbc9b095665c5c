/-
  Tactics that stand in several proofs.
-/
import Derived.BigQuiet
import Derived.Deep.AppendLies
import Derived.Deep.CutBlock
import Derived.Deep.RegionHeld3
import Derived.Deep.Strs
import Derived.Laws.EntriesVeiled
import Derived.Lib.Hide
import Derived.Lib.SlBytesRow
import Derived.LoopIn
import Derived.LoopNIn
import Derived.OwnWalkIn
import Derived.ProofKit
import Derived.RangeFuncBound
import Derived.RangeFuncNested
import Derived.Shelf.Abstract
import Derived.StillTailTactics
import Derived.TacticsInMore
import Derived.WalkLawsBesides
import Derived.WalkSpells
namespace Go.Proofs.YtcnnofgaifcgaaaGreat
def Hq(p:Prop):Prop:=p
theorem hU{p:Prop}(h:p):Hq p:=h
theorem Hq.o{p:Prop}(h:Hq p):p:=h
structure Y0(H:Prop):Prop where
 o:H
theorem Ya{G:Prop}(h:G:=by omega):G:=h
theorem Yb{G:Prop}(h:G:=by kernel_rfl):G:=h
theorem Yc{G:Prop}(h:G:=by decide):G:=h
theorem Yd{G:Prop}(h:G:=by rfl):G:=h
theorem Ye{G:Prop}(h:G:=by simp):G:=h
theorem Yf{G:Prop}(h:G:=by (repeat (first|exact Zst _ _|refine Below.drew ?_|refine Below.al ?_ _|refine Below.sc ?_ _))):G:=h
theorem Yg{G:Prop}(h:G:=by dsimp only;omega):G:=h
theorem Yh{G:Prop}(h:G:=by rw [Fg];exact (by repeat (first|exact Zst _ _|refine Below.drew ?_|refine Below.al ?_ _|refine Below.sc ?_ _))):G:=h
theorem Yi{G:Prop}(h:G:=by repeat (first|exact Zst _ _|refine Below.drew ?_|refine Below.al ?_ _|refine Below.sc ?_ _)):G:=h
theorem Yj{G:Prop}(h:G:=by unfold maxLen;omega):G:=h
theorem Yk{G:Prop}(h:G:=by simp;omega):G:=h
theorem Yl{G:Prop}(h:G:=by simp [*]):G:=h
theorem Ym{G:Prop}(h:G:=by intro h;injection h;omega):G:=h
theorem Yn{G:Prop}(h:G:=by go_num):G:=h
theorem Yo{G:Prop}(h:G:=by rw [Wo];exact (Zst _ _).alloc (Zsu _) _):G:=h
theorem Yp{G:Prop}(h:G:=by rw [rp];exact (Zst _ _).alloc (Zsu _) _):G:=h
theorem Yq{G:Prop}(h:G:=by simpa using R9 0 _ rfl):G:=h
theorem Yr{G:Prop}(h:G:=by rw [Rx];exact ((((((Fr.refl _ _).setCell (p:=⟨bx+1,0,none⟩) (.inl (.inl rfl)) _).setCell (p:=⟨bx+1,1,none⟩) (.inl (.inl rfl)) _).setCell (p:=⟨bx+1,2,none⟩) (.inl (.inl rfl)) _).setCell (p:=⟨bx+2,0,none⟩) (.inl (.inr (.inl rfl))) _).setCell (p:=⟨bx+3,0,none⟩) (.inl (.inr (.inr rfl))) _)):G:=h
theorem Ys{G:Prop}(h:G:=by simpa using h.symm):G:=h
theorem Yt{G:Prop}(h:G:=by (repeat (first|exact Zst _ _|exact HB.o|refine Below.drew ?_|refine Below.al ?_ _|refine Below.sc ?_ _))):G:=h
theorem Yu{G:Prop}(h:G:=by rw [Z0b l x ul];omega):G:=h
theorem Yv{G:Prop}(h:G:=by rw [rp];go_simp):G:=h
theorem Yw{G:Prop}(h:G:=by rw [rp];exact Blk.new _ _ _):G:=h
theorem Yx{G:Prop}(h:G:=by have:=run_endLoop (P:=P) hl (by rw [Fv];simp);rw [Fv] at this;exact this):G:=h
theorem Yy{G:Prop}(h:G:=by simp [Value.ownBlock];omega):G:=h
theorem Yz{G:Prop}(h:G:=by (first|exact HB.o|(exact (Zst _ _).alloc (Zsu _) _)|(simpa using HB.o))):G:=h
theorem Y4{G:Prop}(h:G:=by rw [beq_eq_false_iff_ne];omega):G:=h
theorem Y5{G:Prop}(h:G:=by rw [wv];exact Below.setCells' _ _ ((Zst _ _).alloc (Zsu _) _) (Zsu _)):G:=h
theorem Y6{G:Prop}(h:G:=by rw [Wo];exact ((Zst _ _).alloc (Zsu _) _).alloc (by simp) _):G:=h
theorem Y7{G:Prop}(h:G:=by have:=hj.1;have:=ja.o;omega):G:=h
theorem YFl{G:Prop}(h:G:=by rw [Wo];have:=Blk.new (w.alloc (.cells #[.int .i64 x.kind,.bool x.goal,.string x.id,.slice A1 x.attr.length c1,.slice A2 x.value.length c2,.bool x.acc,.slice A3 L.length c3] 77)) 77 Q2g;simpa using this):G:=h
theorem YBr{G:Prop}(h:G:=by subst ha;subst e;rfl):G:=h
theorem YOu{G:Prop}(h:G:=by rw [Fg];have hh:=(Blk.new (w.alloc (.cells (Q1d s) 41)) 177 Q2b);simp only [Zti] at hh;exact hh):G:=h
theorem YO5{G:Prop}(h:G:=by simpa using R9 1 _ rfl):G:=h
theorem YZb{G:Prop}(h:G:=by simp [hv]):G:=h
theorem YE7{G:Prop}(h:G:=by rw [HR.o]<;>rfl):G:=h
theorem YBf{G:Prop}(h:G:=by rw [Wo];exact Blk.new _ _ _):G:=h
theorem YL6{G:Prop}(h:G:=by simp [Z1l, *]):G:=h
theorem YCz{G:Prop}(h:G:=by have:=Pk.size;(try simp at this);omega):G:=h
theorem YXf{G:Prop}(h:G:=by simp [Value.ownBlock] at e;right;omega):G:=h
theorem YWc{G:Prop}(h:G:=by rw [hg];exact HB.o.size):G:=h
theorem YZt{G:Prop}(h:G:=by cases h):G:=h
theorem YFu{G:Prop}(h:G:=by simpa using R9 2 _ rfl):G:=h
theorem YJ0{G:Prop}(h:G:=by rw [HV.o]<;>rfl):G:=h
theorem YPh{G:Prop}(h:G:=by rw [hW];exact (((Zst w.heap.size w).alloc (Zsu _) _).alloc (by simp) _).alloc (by simp;omega) _):G:=h
theorem YQx{G:Prop}(h:G:=by rw [rp];exact Below.drewN' ((Zst _ _).alloc (Zsu _) _) _):G:=h
theorem YP5{G:Prop}(h:G:=by simpa [Value.ownBlock] using h.symm):G:=h
theorem YF6{G:Prop}(h:G:=by simpa [Value.ownBlock] using Dg):G:=h
theorem YJn{G:Prop}(h:G:=by rw [F4];exact (Zst _ _).alloc (Zsu _) _):G:=h
theorem YLf{G:Prop}(h:G:=by rw [Gh];exact (Zst _ _).alloc (Zsu _) _):G:=h
theorem YI3{G:Prop}(h:G:=by have:=HB.o.size;(try simp);omega):G:=h
theorem YNl{G:Prop}(h:G:=by rw [Fg];exact ((Blk.new w 41 (Q1d s)).alloc (.cells Q2b 177))):G:=h
theorem YHw{G:Prop}(h:G:=by rw [hX];exact (Zst _ _).alloc (Zsu _) _):G:=h
theorem YGt{G:Prop}(h:G:=by rw [xy];exact (Zst _ _).alloc (Zsu _) _):G:=h
theorem YX8{G:Prop}(h:G:=by intro args w;kernel_rfl):G:=h
theorem YKk{G:Prop}(h:G:=by rw [N8];have:=yr.o.size;simp at this ⊢;omega):G:=h
theorem YZf{G:Prop}(h:G:=by rw [Z06];exact hj.2):G:=h
theorem YFx{G:Prop}(h:G:=by have:=ja.o;omega):G:=h
theorem YOz{G:Prop}(h:G:=by rw [Z06];omega):G:=h
theorem YLt{G:Prop}(h:G:=by have:=HM.o.2;have:=br.o.fr.size;omega):G:=h
theorem YDu{G:Prop}(h:G:=by rw [N8];exact Ue.o.set_ 0 _):G:=h
theorem YEu{G:Prop}(h:G:=by rw [Zt8 _ (by omega)];omega):G:=h
theorem YKj{G:Prop}(h:G:=by rw [jb];exact (Below.heap_setCell _ _ _ _ (by dsimp only;have:=hj.1;have:=ja.o;omega)).trans (Kh.block j hl)):G:=h
theorem YOa{G:Prop}(h:G:=by rw [wv];exact Blk.new _ _ _):G:=h
theorem YR4{G:Prop}(h:G:=by simp [IntKind.wrap,IntKind.signed,IntKind.bits];omega):G:=h
theorem YCh{G:Prop}(h:G:=by rw [Z0b l x ul];exact Cj.o):G:=h
theorem YNm{G:Prop}(h:G:=by simp [h8]):G:=h
theorem YFf{G:Prop}(h:G:=by rw [wv];exact Below.al (Zst _ _) _):G:=h
theorem YVn{G:Prop}(h:G:=by rw [xy];exact ownsRow_setCell_other (a:=⟨wr.heap.size,5,none⟩) V0.o (Z01 V0.o Tg (by decide)) _):G:=h
theorem YKg{G:Prop}(h:G:=by simpa using R9 3 _ rfl):G:=h
theorem YAq{G:Prop}(h:G:=by rw [HF.o];rfl):G:=h
theorem YF0{G:Prop}(h:G:=by rw [pn];exact (Zst _ _).alloc (Zsu _) _):G:=h
theorem YC0{G:Prop}(h:G:=by rw [jb];exact Below.heap_setCell _ _ _ _ (by dsimp only;have:=hj.1;have:=ja.o;have:=X7.o;omega)):G:=h
theorem YRu{G:Prop}(h:G:=by rw [xy];exact Zte (heap_alloc_new _ _)):G:=h
theorem YOj{G:Prop}(h:G:=by rw [ce.o,Ztm,Rw.o,Z2a hlt,Ztm,←HY.o,Bg.o];rfl):G:=h
theorem YGh{G:Prop}(h:G:=by rw [xc];exact Below.al (Below.al (Zst _ _) _) _):G:=h
theorem YUb{G:Prop}(h:G:=by rw [hh];rfl):G:=h
theorem YZd{G:Prop}(h:G:=by subst hj;exact ⟨hg,fun _=>by rw [show w.heap[j]? = _ from hK];exact BF.not X h1 h2 _ _ _⟩):G:=h
theorem YLa{G:Prop}(h:G:=by rw [Wo];exact (Blk.new _ _ _).alloc _):G:=h
theorem YB3{G:Prop}(h:G:=by simpa using hb):G:=h
theorem YZ0{G:Prop}(h:G:=by rw [wv];exact Zsy _ _ _ _ Nw.o):G:=h
theorem YBk{G:Prop}(h:G:=by have e:Value.slice A1 (l.take k).length c1 = .slice A1 (l.take k).length c1:=rfl;exact Fz):G:=h
theorem YYf{G:Prop}(h:G:=by rw [mp];rfl):G:=h
theorem YJc{G:Prop}(h:G:=by simp [h1]):G:=h
theorem YWh{G:Prop}(h:G:=by subst hk;exact sk.o):G:=h
theorem YV5{G:Prop}(h:G:=by rw [xc];exact Below.heap_setCell _ _ _ _ (by dsimp only;have:=hj.1;have:=ja.o;omega)):G:=h
theorem YHb{G:Prop}(h:G:=by have:=cg.o.nm.lt _ hk;omega):G:=h
theorem YC8{G:Prop}(h:G:=by rw [Gh];exact Blk.new _ _ _):G:=h
theorem YV3{G:Prop}(h:G:=by rw [jb];exact (Un.o.trans (Kh.mono (by have:=Un.o.size;omega))).setCell (Zsu _) _):G:=h
theorem YS7{G:Prop}(h:G:=by simp [j4]):G:=h
theorem YXw{G:Prop}(h:G:=by assumption):G:=h
theorem YFe{G:Prop}(h:G:=by rw [h3];exact BF.not X (by decide) (by decide) _ _ _):G:=h
theorem YIi{G:Prop}(h:G:=by rw [rj];exact (Zst _ _).alloc (Zsu _) _):G:=h
theorem YVx{G:Prop}(h:G:=by rw [wl];exact (Zst _ _).alloc (Zsu _) _):G:=h
theorem YZ4{G:Prop}(h:G:=by rw [Z1u hk];unfold maxLen;omega):G:=h
theorem YTq{G:Prop}(h:G:=by simpa using R9 6 _ rfl):G:=h
theorem YQk{G:Prop}(h:G:=by dsimp only;have:=hj.1;have:=ja.o;omega):G:=h
theorem YQe{G:Prop}(h:G:=by have:=hj.1;have:=ja.o;have:=su.o;omega):G:=h
theorem YSs{G:Prop}(h:G:=by rw [xc];exact (Blk.new _ _ _).alloc _):G:=h
theorem YVs{G:Prop}(h:G:=by have:=HX.o;rw [Zu9] at this;rw [this];exact HJ.o):G:=h
theorem YOy{G:Prop}(h:G:=by have:=congrArg List.length hx;simp at this;omega):G:=h
theorem YTm{G:Prop}(h:G:=by rw [HN.o];rfl):G:=h
theorem YK7{G:Prop}(h:G:=by simp [Z2j, *]):G:=h
theorem YZv{G:Prop}(h:G:=by have:=congrArg (fun p=>p.1.length) hp;simp only [Z4c,Zu3] at this;omega):G:=h
theorem YLy{G:Prop}(h:G:=by rw [Ej.o,Em.o,Z2a hlt,Ztm,HY.o];rfl):G:=h
theorem YL1{G:Prop}(h:G:=by rw [pn];exact Below.setCells' _ _ ((Zst _ _).alloc (Zsu _) _) (Zsu _)):G:=h
theorem YMo{G:Prop}(h:G:=by have:=Uj.o.hs ⟨y.by_,true⟩;rw [hh] at this;simpa using this.symm):G:=h
theorem YUd{G:Prop}(h:G:=by subst hk;exact ⟨by omega,Or.o⟩):G:=h
theorem YJk{G:Prop}(h:G:=by rw [hX];exact Blk.new _ _ _):G:=h
theorem YBj{G:Prop}(h:G:=by rw [xy];exact (Ni.o.trans (Xp.o.mono (by omega))).setCell (Zsu _) _):G:=h
theorem YHs{G:Prop}(h:G:=by simp [Value.ownBlock];exact fun e=>Xf e.symm):G:=h
theorem YI7{G:Prop}(h:G:=by simpa using R9 4 _ rfl):G:=h
theorem YU1{G:Prop}(h:G:=by simpa using R9 5 _ rfl):G:=h
theorem YOh{G:Prop}(h:G:=by have:=U7.o;rw [HM.o.1,Ztc] at this;rw [this,←HM.o.1,HM.o.2,Ztc]):G:=h
theorem YVh{G:Prop}(h:G:=by rw [e];rfl):G:=h
theorem YHh{G:Prop}(h:G:=by rw [xc];exact (Nk.o.trans (Rt.mono (by omega))).setCell (Zsu _) _):G:=h
theorem YIz{G:Prop}(h:G:=by simpa using h):G:=h
theorem YDb{G:Prop}(h:G:=by have:=Pk.size;simp at this;omega):G:=h
theorem YXb{G:Prop}(h:G:=by rw [Gh];exact (Ue.o.trans (wu.mono Ue.o.size)).setCell (Zsu _) _):G:=h
theorem YT1{G:Prop}(h:G:=by rw [hy];exact HS.o.2 _ (Ztf hlt)):G:=h
theorem YFi{G:Prop}(h:G:=by simp [madeCells]):G:=h
theorem YMt{G:Prop}(h:G:=by rw [HM.o,Ztd,List.length_singleton];go_num):G:=h
theorem YZ8{G:Prop}(h:G:=by rw [Ls];exact .inl hk):G:=h
theorem YBy{G:Prop}(h:G:=by simpa using hg):G:=h
theorem YL9{G:Prop}(h:G:=by rw [Zt8 _ (by omega)];rfl):G:=h
theorem YCg{G:Prop}(h:G:=by simpa using by assumption):G:=h
theorem YYj{G:Prop}(h:G:=by rw [Gh];exact Below.heap_setCell _ _ _ _ (by dsimp only;omega)):G:=h
theorem YC2{G:Prop}(h:G:=by show (mapS _ x.conds _).1.length≤1000;rw [Z4c];exact h.2.2.1):G:=h
theorem YM5{G:Prop}(h:G:=by cases a;cases b;simp_all):G:=h
theorem YSh{G:Prop}(h:G:=by have:=h.nm.lt _ hd;omega):G:=h
theorem YY0{G:Prop}(h:G:=by rw [V7.o,Pc.o,twoF,HO.o];exact if_neg (by rw [←hm];decide)):G:=h
theorem YN6{G:Prop}(h:G:=by rw [Wo,Ri];exact Blk.new _ _ _):G:=h
theorem YDn{G:Prop}(h:G:=by rw [getD_replicate_false] at hm;cases hm):G:=h
theorem YDd{G:Prop}(h:G:=by simp at t2 ⊢;omega):G:=h
theorem YQw{G:Prop}(h:G:=by simpa using hc2):G:=h
theorem YZx{G:Prop}(h:G:=by unfold Z8o;rw [ru.o];simp only;rw [Ns.o];simp only;rw [zx.o]):G:=h
theorem YUp{G:Prop}(h:G:=by rw [show w.heap[j]? = _ from hK];exact BF.not X h1 h2 _ _ _):G:=h
theorem YGz{G:Prop}(h:G:=by rw [hV];exact (Zst _ _).alloc (Zsu _) _):G:=h
theorem YZ3{G:Prop}(h:G:=by rw [hW];exact (Zst _ _).alloc (Zsu _) _):G:=h
theorem YU0{G:Prop}(h:G:=by have:=K8.o.bel.size;have:=hk.1.1;omega):G:=h
theorem YQq{G:Prop}(h:G:=by rw [Gh];exact Zte (heap_alloc_new _ _)):G:=h
theorem YKx{G:Prop}(h:G:=by rw [rp];exact Below.drewN' (Zst _ _) _):G:=h
theorem YVa{G:Prop}(h:G:=by simpa using c2):G:=h
theorem YT7{G:Prop}(h:G:=by simpa using h2):G:=h
theorem YRq{G:Prop}(h:G:=by simpa using hc):G:=h
theorem YRm{G:Prop}(h:G:=by dsimp only at h1;omega):G:=h
theorem YL7{G:Prop}(h:G:=by simp [Fence.wide] at h):G:=h
theorem YSj{G:Prop}(h:G:=by rw [Fg];exact (Blk.new w 41 (Q1d s))):G:=h
theorem YCl{G:Prop}(h:G:=by simp [hk]):G:=h
theorem YQ9{G:Prop}(h:G:=by have:=Is.o.size;omega):G:=h
theorem YV8{G:Prop}(h:G:=by rw [Aj];omega):G:=h
theorem YCo{G:Prop}(h:G:=by rw [HD.o];rfl):G:=h
theorem YD4{G:Prop}(h:G:=by rw [Wo];exact Below.al (Zst _ _) _):G:=h
theorem YIu{G:Prop}(h:G:=by rw [Z06];exact Zsu _):G:=h
theorem YB0{G:Prop}(h:G:=by simpa [Zu2] using sd):G:=h
theorem YHd{G:Prop}(h:G:=by simp [actB, *]):G:=h
theorem YI6{G:Prop}(h:G:=by have:=hj.2;omega):G:=h
theorem YX4{G:Prop}(h:G:=by have:=su.o;omega):G:=h
theorem YTp{G:Prop}(h:G:=by rename_i h;simpa using h):G:=h
theorem YJ9{G:Prop}(h:G:=by rw [Ci.o j (by omega) hj];decide):G:=h
theorem YLw{G:Prop}(h:G:=by simp [Op.bytesLess] at h):G:=h
theorem YOc{G:Prop}(h:G:=by simp [Value.ownBlock,hv]):G:=h
theorem YHt{G:Prop}(h:G:=by simp at Vx;omega):G:=h
theorem YJe{G:Prop}(h:G:=by rw [Pi.o,Pc.o,HS.o]):G:=h
theorem YVi{G:Prop}(h:G:=by rw [ha];simp [Value.ownBlock,e]):G:=h
theorem YI8{G:Prop}(h:G:=by simp [Z5k, *]):G:=h
theorem YQr{G:Prop}(h:G:=by have:=h.there;rwa [hl] at this):G:=h
theorem YG3{G:Prop}(h:G:=by rw [hV,Cv];exact Blk.new _ _ _):G:=h
theorem YSi{G:Prop}(h:G:=by simp at h):G:=h
theorem YN7{G:Prop}(h:G:=by simpa using R9 7 _ rfl):G:=h
theorem YQ3{G:Prop}(h:G:=by simpa using R9 8 _ rfl):G:=h
theorem YCd{G:Prop}(h:G:=by unfold cost;simp;omega):G:=h
theorem YY4{G:Prop}(h:G:=by rw [ji.o];unfold maxLen;omega):G:=h
theorem YYe{G:Prop}(h:G:=by rw [Z1u hk];omega):G:=h
theorem YRk{G:Prop}(h:G:=by have h1:=ja.o;subst hk;omega):G:=h
theorem YXq{G:Prop}(h:G:=by rw [HX.o];simp):G:=h
theorem YC5{G:Prop}(h:G:=by rw [hu];exact Ztf hlt):G:=h
theorem YIm{G:Prop}(h:G:=by simpa using c0):G:=h
theorem YPw{G:Prop}(h:G:=by simpa using hl):G:=h
theorem YMk{G:Prop}(h:G:=by simp [hc]):G:=h
theorem YXl{G:Prop}(h:G:=by simp [hx]):G:=h
theorem YEk{G:Prop}(h:G:=by rw [e2,Zta];exact hO):G:=h
theorem YRn{G:Prop}(h:G:=by simp at t1 ⊢;omega):G:=h
theorem YPr{G:Prop}(h:G:=by simp at t3 ⊢;omega):G:=h
theorem YLd{G:Prop}(h:G:=by subst hk;exact hS.lt):G:=h
theorem YAk{G:Prop}(h:G:=by unfold maxLen;decide):G:=h
theorem YSo{G:Prop}(h:G:=by have:=Ct.size;omega):G:=h
theorem YZ2{G:Prop}(h:G:=by have:=h.lt hb;omega):G:=h
theorem YGi{G:Prop}(h:G:=by rw [Fv];simp):G:=h
theorem YHa{G:Prop}(h:G:=by simp [Z17]):G:=h
theorem YK8{G:Prop}(h:G:=by simpa using c1):G:=h
theorem YUq{G:Prop}(h:G:=by simpa using hk):G:=h
theorem YIw{G:Prop}(h:G:=by simpa using ht):G:=h
theorem Yyj{G H:Prop}(k:H)(h:Y0 H→G:=by
 intro zz
 (repeat ((first|(refine Z05 ?_ (Or.inl ⟨Yd,fun w9=>?_⟩) ?_;rotate_left 1;go_simp;with_reducible rfl)|(refine Z04 ?_ (((Zst _ _).drew)) (Or.inl ⟨Yd,fun w9 hw9=>?_⟩) ?_;rotate_left 1;obtain ⟨Do,rr⟩:=Z0i hw9;go_simp;with_reducible rfl)|refine Z05 undef (Or.inr ⟨Yd,rfl⟩) ?_|refine Z04 undef (((Zst _ _).drew)) (Or.inr ⟨Yd,rfl⟩) ?_);go_frame))
 exact zz.o):G:=h ⟨k⟩
theorem Yzw{G:Prop}(h:G:=by
 have c0:=(Nk.cell 0).trans rfl;have c1:=(Nk.cell 1).trans rfl;have z0:=Nk.frozen 0;have z1:=Nk.frozen 1;have Un:=hU Nk;clear Nk;refine Ybt ?_;refine Yll ?_;intro K9 hK9;refine Y8n ?_;clear hK9 K9;refine Yf0 ?_;clear hKK KK;go_wp2;go_end0
 have lg:(Value.slice A' l.length c').ownBlock=some w.heap.size∨(Value.slice A' l.length c').ownBlock=some (w.heap.size+1):=by
  rcases Xd with h|h
  · left;rw [h];rfl
  · right;rw [h];simp
 have hA :∃g,w.heap.size≤g∧A'=some ⟨g,0,none⟩:=by
  rcases A' with _|a
  · exfalso;simp [Value.ownBlock] at lg
  · obtain ⟨g,rfl⟩:=hz a rfl
    refine ⟨g,?_,rfl⟩;simp [Value.ownBlock] at lg;omega
 obtain ⟨g,hg,rfl⟩:=hA;have Nk:=Un.o;have HF:Fr (· = b) w w2:=((Fr.refl (· = b) w).drew.alloc _).grown Cf (fun k e=>YXf);refine ⟨rfl,some ⟨g,0,none⟩,c',⟨(Nk.set_ 0 _).set_ 1 _,?_⟩,(HF.setCell (p:=⟨b,0,none⟩) (.inl rfl) _).setCell (p:=⟨b,1,none⟩) (.inl rfl) _,.inr ⟨rfl,g,hg,rfl⟩⟩;have Xf:(Value.slice (some ⟨g,0,none⟩) l.length c').ownBlock≠some b:=Yy;exact ownsRow_setCell_other (a:=⟨b,1,none⟩) (ownsRow_setCell_other (a:=⟨b,0,none⟩) Od Xf _) Xf _):G:=h
theorem Yjn{G:Prop}(h:G:=by
 go_enter Tryz.func208,Tryz.ntmps208;go_upto_region 1 with fail;refine Yba ?_;intro W1 HB e0 e1 e2 e3 e4 e5 P2;(go_wp2_with (first|(go_at_call 209;refine (Z8u t.sym _).mono ?_;rintro e w9 ⟨rfl,Ct⟩;have HB:=hU (HB.o.trans (Ct.mono HB.o.size));replace e0:=(Ct.cell (p:=⟨w.heap.size,0,none⟩) P2).trans e0;replace e1:=(Ct.cell (p:=⟨w.heap.size,1,none⟩) P2).trans e1;replace e2:=(Ct.cell (p:=⟨w.heap.size,2,none⟩) P2).trans e2;replace e3:=(Ct.cell (p:=⟨w.heap.size,3,none⟩) P2).trans e3;replace e4:=(Ct.cell (p:=⟨w.heap.size,4,none⟩) P2).trans e4;replace e5:=(Ct.cell (p:=⟨w.heap.size,5,none⟩) P2).trans e5;replace P2:=Zsw P2 Ct.size;clear Ct)|(go_at_call 210;refine (Z44 t.sym _).mono ?_;rintro e w9 ⟨rfl,Ct⟩;have HB:=hU (HB.o.trans (Ct.mono HB.o.size));replace e0:=(Ct.cell (p:=⟨w.heap.size,0,none⟩) P2).trans e0;replace e1:=(Ct.cell (p:=⟨w.heap.size,1,none⟩) P2).trans e1;replace e2:=(Ct.cell (p:=⟨w.heap.size,2,none⟩) P2).trans e2;replace e3:=(Ct.cell (p:=⟨w.heap.size,3,none⟩) P2).trans e3;replace e4:=(Ct.cell (p:=⟨w.heap.size,4,none⟩) P2).trans e4;replace e5:=(Ct.cell (p:=⟨w.heap.size,5,none⟩) P2).trans e5;replace P2:=Zsw P2 Ct.size;clear Ct)|(go_at_call 158;refine (Z49 t.var _).mono ?_;rintro e w9 ⟨rfl,rfl⟩)));exact Yyw):G:=h
theorem Yty{G:Prop}(h:G:=by
 rcases Z0f Cj.o with ⟨hv,_⟩|⟨g',cap,hv,hn,_,hr,_⟩
 · cases hv
 · injection hv with hA _ hc
   injection hA with hA;injection hA with hA;subst hA;subst hc;exact ⟨hr,hn⟩):G:=h
theorem Y1l{G H:Prop}(k:H)(h:Y0 H→G:=by
 intro zz
 refine Yll ?_;intro K9 hK9;refine Y8n ?_;clear hK9 K9;refine Z0m ?_;simp only [Z00];refine hKK _ _ ?_
 exact zz.o):G:=h ⟨k⟩
theorem Y1k{G:Prop}(h:G:=by
 rcases Xd with h|h
 · rcases A1 with _|a1
   · simp [Value.ownBlock] at h
   · obtain ⟨A',c',hv,_,_,hz⟩:=Z14 fk.o.row
     injection hv with hv _ _;obtain ⟨g',rfl⟩:=hz a1 hv.symm;have Cc:g'=g:=YP5;subst Cc;have Xf:g'≠b:=fk.o.row_ne Yc _ rfl;rcases Vy.o with ⟨hsn,hA⟩|⟨_,g2,hg2,hA⟩
     · have h1:=HS.o.row_lt _ hA.symm
       exact ⟨.inl (.inr ⟨hsn.symm,_,hA.symm,rfl⟩),.inl ⟨hsn,hA⟩,YRm,Xf⟩
     · injection hA with hA
       injection hA with hA;subst hA;exact ⟨.inr Ya,.inr ⟨rfl,_,Ya,rfl⟩,Ya,Xf⟩
 · have Cc:g=w2.heap.size+1:=by simpa [Value.ownBlock] using h
   subst Cc;exact ⟨.inr Ya,.inr ⟨rfl,_,Ya,rfl⟩,Ya,Ya⟩):G:=h
theorem Ysd{G:Prop}(h:G:=by
 go_wp2_with fail;refine Z1g (fun _=>True) [0,1,3,4,5,6,9,10] [] (.fork [(0,0),(1,0),(3,0),(4,0),(5,0),(6,0)] 2 (.fin [(7,2),(8,2),(9,0),(10,0)]) 7 (.fork [] 2 (.fin [(8,2),(9,0),(10,0)]) 8 (.fin [(2,2),(9,0),(10,0)]))) Yb Yb Yb (fun KK hKK=>?_);simp only [wpPl,Z08,Zt2,Zsv,Zt1,Zt0,Zsz,Zt4,List.any_nil];(repeat (refine Z1r ?_ (Or.inl ⟨Yd,fun w9=>?_⟩) ?_;rotate_left 1;go_simp;with_reducible rfl;go_frame));refine Z0p ⟨?_,?_⟩
 · refine Z95 (fun _=>Ye) rfl (fun K9 hK9=>?_)
   go_simp;refine (IH.o _).mono ?_;rintro e w1 ⟨rfl,Pk⟩;refine Y8n ?_;clear hK9 K9;(try go_frame);refine Z6y Yd (fun K9 hK9=>?_);go_simp;refine Y8n ?_;clear hK9 K9;(try go_frame);refine Z6y Yd (fun K9 hK9=>?_);have hc:=HC.o (w1.alloc (.cells #[.int .u8 (48+(m:Int))] 5)) w1.heap.size ((Blk.new _ _ _).cell 0);go_simp;refine Y8n ?_;clear hK9 K9 hc;refine Yhm ?_;clear hKK KK;go_wp2_with fail;go_ret;exact ⟨YCo,((Zst _ _).drew.trans (Pk.mono Ye)).alloc (by have:=Pk.size;simpa using this) _⟩
 · refine Z95 (fun _=>Ye) rfl (fun K9 hK9=>?_)
   go_simp;refine Y8n ?_;clear hK9 K9;(try go_frame);(try simp only [Z08]);refine Z0p ⟨?_,?_⟩
   · refine Z95 (fun _=>Ye) rfl (fun K9 hK9=>?_)
     go_simp;refine (IH.o _).mono ?_;rintro e w1 ⟨rfl,Pk⟩;refine Y8n ?_;clear hK9 K9;(try go_frame);refine Z6y Yd (fun K9 hK9=>?_);have hc:=HC.o w1 w.heap.size ((Pk.cell Ye).trans ((Blk.new w.drew 5 #[.int .u8 (48+(m:Int))]).cell 0));go_simp;refine Y8n ?_;clear hK9 K9 hc;refine Yhm ?_;exact Yhc
   · refine Z95 (fun _=>Ye) rfl (fun K9 hK9=>?_)
     have hc:=HC.o (w.alloc (.cells #[.int .u8 (48+(m:Int))] 5)).drew w.heap.size (((Blk.new w 5 #[.int .u8 (48+(m:Int))]).drew.cell 0).trans rfl);go_simp;refine Y8n ?_;clear hK9 K9 hc;(try go_frame);refine Z6y Yd (fun K9 hK9=>?_);go_simp;refine (IH.o _).mono ?_;rintro e w1 ⟨rfl,Pk⟩;refine Y8n ?_;clear hK9 K9;refine Yhm ?_;exact Yhc):G:=h
theorem Yh8{G:Prop}(h:G:=by
 rw [N8];have h1:Fr (Z0w b sn A) w w1:=Fr.of_new (((Zst _ _).alloc (Zsu _) _).trans (Nk.o.mono Ye));have h2:Fr (Z0w b sn A) w w2:=h1.trans (qq.o.mono (fun k _ h=>.inl h));refine ((h2.drew.alloc _).grown yr.o (fun k hk=>?_)).setCell (p:=⟨b,0,none⟩) (.inl (.inl rfl)) _;exact Y72):G:=h
theorem Ys2{G:Prop}(h:G:=by
 obtain ⟨W6,xy⟩:∃W6,W6=w5.setCell ⟨wr.heap.size,5,none⟩ (.slice A5 y.list.length c5):=⟨_,rfl⟩;have Tg:=Og.o;have Jp:Below wr.heap.size wr W6:=YBj;(have xg:Blk W6 wr.heap.size 196 (Q0n y A5 c5):=by rw [xy];exact Tg.set_ 5 _);have ud:W6.ownsRow 0 41 3 (.slice A5 y.list.length c5) y.list.length (y.list.flatMap Sym.cells):=YVn;have G8:AIn A5 (NewD wr.heap.size W6):=P4.o.mono (fun j hj=>⟨by have:=hj.1;omega,by rw [xy];simpa using hj.2⟩);rw [←xy];clear xy Tg;have Nz:Below wr.heap.size wr (W6.alloc (.cells (Q0n y A5 c5) 196)):=Jp.alloc Jp.size _;have Xq:RowR Z3n (Plus C wr (W6.alloc (.cells (Q0n y A5 c5) 196))) (W6.alloc (.cells (Q0n y A5 c5) 196)) A5 c5 y.list:=(Z9k.row Sym.cells_length ud G8).keep Ye (fun j hj hl=>⟨.inr ⟨hj.1,by simp;have:=hj.2;omega⟩,((Zst W6.heap.size W6).alloc (Zsu _) _).block j hl⟩);have vd:=H1.o.plus Nz;have Jn:=Z9i Xq
 have O0 :∀j,Plus C wr (W6.alloc (.cells (Q0n y A5 c5) 196)) j→j<(W6.alloc (.cells (Q0n y A5 c5) 196)).heap.size:=fun j hj=>by
  exact Yca
 obtain ⟨u0,u1,u2,u3,u4,u5⟩:=xg.c6;have hxl6:=xg.lt;have ms:=hU Nz;have Cj:=hU vd;have Oo:=hU Jn;have E8:=hU O0;have Uh:(l.take k).length+1≤maxLen:=YZ4;have jj:((l.take k).length+1)*80≤140737488355328:=YYe;have mu:=hU Uh;have U8:=hU jj;have HTL:=hU (Z1u hk);clear Jp Nz xg ud G8 Xq vd Jn O0 Uh jj;have HV:=hU (show Value.slice A1 k c1 = .slice A1 (l.take k).length c1 by rw [Z1u hk]);(go_wp2_with (at_builtin;refine Z3d _ rfl _ _ 75 rfl 196 j0 _ 6 80 Tryz.underlying75 E6 ye J8 Cq rfl rfl Ya (Plus C wr (W6.alloc (.cells (Q0n y A5 c5) 196))) E8.o (.slice A1 (l.take k).length c1) (l.take k) HV.o Cj.o ⟨W6.heap.size,0,none⟩ 1 y (Q0m y A5 c5) rfl (Zte (heap_alloc_new _ _)) (by intro u hu;simp only [Ztb,Zth,or_false] at hu;rcases hu with rfl|rfl|rfl|rfl|rfl|rfl<;>rfl) Oo.o mu.o U8.o ?_;intro v' w7 Fz));have F8:Z2k Z07 196 w (l.take k ++ [y]) v' w7:=Z2k.snoc H2.o H3.o H4.o ms.o YBk;exact Y7i):G:=h
theorem Ydr{G H:Prop}(k:H)(h:Y0 H→G:=by
 intro zz
 (repeat ((first|(refine Z1r ?_ (Or.inl ⟨Yd,fun w9=>?_⟩) ?_;rotate_left 1;go_simp;with_reducible rfl)|(refine Z1y ?_ ((Zst _ _).drew) (Or.inl ⟨Yd,fun w9 hw9=>?_⟩) ?_;rotate_left 1;obtain ⟨Do,rr⟩:=Z0i hw9;go_simp;with_reducible rfl)|refine Z1r undef (Or.inr ⟨Yd,rfl⟩) ?_|refine Z1y undef ((Zst _ _).drew) (Or.inr ⟨Yd,rfl⟩) ?_);go_frame))
 exact zz.o):G:=h ⟨k⟩
theorem Y8p{G H:Prop}(k:H)(h:Y0 H→G:=by
 intro zz
 refine Ywn ?_;intro aa ab;have w1:Z1t x.id=true:=YB3;have dz:((x.attr.length:Int) == 0)=false:=Y4;have dy:decide ((x.attr.length:Int)=0)=false:=Zsx Ya;have fa:decide ((4:Int)<(x.attr.length:Int))=false:=Zsx Ya;have fb:decide (4<x.attr.length)=false:=Zsx Ya
 revert aa ab w1 dz dy fa fb;exact zz.o):G:=h ⟨k⟩
theorem Yul{G H:Prop}(k:H)(h:Y0 H→G:=by
 intro zz
 have hgw:g<wr.heap.size:=(Od.lt g rfl).2;have r0:wr.cell? ⟨b,0,none⟩=some (.slice (some ⟨g,0,none⟩) (l.length+1) c2):=(zp.cell (p:=⟨b,0,none⟩) Ni.o.lt (fun h=>Dg h.symm)).trans E7;have fz :∀o,wr.frozen? ⟨g,o,none⟩=false:=fun o=>Od.frozenAt o;have Cj:=hU Od;have Is:=hU zp
 revert hgw r0 fz Cj Is;exact zz.o):G:=h ⟨k⟩
theorem Yqp{G H:Prop}(k:H)(h:Y0 H→G:=by
 intro zz
 have b0:(0:Int)≤(j:Int)+1:=Ya;have b1:(0:Int)≤(j:Int):=Ya;have b4:(j:Int)<(l.length:Int):=Ya;have b2:(j:Int)<(l.length:Int)+1:=Ya;have b3:(j:Int)+1<(l.length:Int)+1:=Ya;have w1:IntKind.i64.wrap ((j:Int))=(j:Int):=Zt8 _ Ya;have w2:IntKind.i64.wrap ((j:Int)+1 - 1)=(j:Int):=YEu
 revert b0 b1 b4 b2 b3 w1 w2;exact zz.o):G:=h ⟨k⟩
theorem Ywv{G:Prop}(h:G:=by
 have Pu:=Z7z x.attr (A:=A1) (c:=c1) (Bw.o.prot0) zv.o (Nq.o.fr Bw.o.fr_ (fun k hk hn=>hn hk)) Ya Ya;rw [hf] at Pu;have Fd:=hU Pu;clear Pu;cases b2
 · skip
   have HA:=hU (show oneK K x=(false,k2) by unfold oneK;simp only [HG.o];simp [hh,hf]);clear hh hf;go_wp2_with fail;refine Fd.o.mono ?_;rintro e w6 ⟨rfl,xr,lz,xi⟩;have Sa:=hU (xr.join Bw.o);clear xr;go_wp2_with fail;go_ret;rw [HA.o];exact ⟨rfl,(Sa.o).unprot Xs.o mn.o,Yg,Yg⟩
 · skip
   obtain ⟨b3,k3,Pz⟩:∃b k,Z27 k2 x.value=(b,k):=⟨_,_,rfl⟩;have HA:=hU (show oneK K x=(b3,k3) by unfold oneK;simp only [HG.o];simp [hh,hf,Pz]);clear hh hf;go_wp2_with fail;refine Fd.o.mono ?_;rintro e w6 ⟨rfl,xr,lz,xi⟩;have Sa:=hU (xr.join Bw.o);clear xr;have L0:=T7.o.fr (Sa.o).fr_ (fun hn=>hn s9.o);have qv:=L0.lt;have hzw:W.heap.size≤w6.heap.size:=Zt6 Xs.o.size (Sa.o).fr_.size;have e2:w6.cell? ⟨W.heap.size,2,none⟩=some (.string x.id):=(L0.cell 2).trans rfl;have e3:w6.cell? ⟨W.heap.size,3,none⟩=some (.slice A1 x.attr.length c1):=(L0.cell 3).trans rfl;have e4:w6.cell? ⟨W.heap.size,4,none⟩=some (.slice A2 x.value.length c2):=(L0.cell 4).trans rfl;clear L0;have Pu:=Z7z x.value (A:=A2) (c:=c2) (Sa.o.prot0) zv.o (O8.o.fr Sa.o.fr_ (fun k hk hn=>hn hk)) Ya Ya;rw [Pz] at Pu;have Fd:=hU Pu;clear Pu Pz;go_wp2_with fail;refine Fd.o.mono ?_;rintro e w7 ⟨rfl,uv,hl8,hl9⟩;have us:=hU (uv.join Sa.o);clear uv;go_wp2_with fail;go_ret;rw [HA.o];exact ⟨rfl,(us.o).unprot Xs.o mn.o,Yg,Yg⟩):G:=h
theorem Y9j{G H:Prop}(k:H)(h:Y0 H→G:=by
 intro zz
 simp only [Z08,Zt2,Zsv,Zt1,Zt0,Zsz,Zt4]
 exact zz.o):G:=h ⟨k⟩
theorem Y09{G:Prop}(h:G:=by
 (go_wp2_with (first|(go_at_call 158;refine (Z49 x.id _).mono ?_;rintro e w9 ⟨rfl,rfl⟩)|(go_at_call 191;(first|(with_reducible refine (Z5f A1 c1 x.attr _ (H1.o.new_ HB.o)).mono ?_)|(with_reducible refine (Z5f A2 c2 x.value _ (H2.o.new_ HB.o)).mono ?_));rintro e w9 ⟨rfl,Ct⟩;have HB:=hU (HB.o.trans (Ct.mono HB.o.size));have HK:=hU (HK.o.new_ Ct);clear e0 e1 e2 e3 e4 e5 e6 P2 Ct;obtain ⟨e0,e1,e2,e3,e4,e5,e6⟩:=HK.o.c7;have P2:=HK.o.lt)));exact Yyw):G:=h
theorem Yte{G:Prop}(h:G:=by
 rcases Xd with h|h
 · rcases A1 with _|a1
   · simp [Value.ownBlock] at h
   · obtain ⟨A',c',hv,_,_,hz⟩:=Z14 fk.o.row
     injection hv with hv _ _;obtain ⟨g',rfl⟩:=hz a1 hv.symm;have Cc:g'=g:=YP5;subst Cc;have Xf:g'≠b:=fk.o.row_ne Yc _ rfl;rcases Vy.o with ⟨hsn,hA⟩|⟨_,g2,hg2,hA⟩
     · have h1:=HS.o.row_lt _ hA.symm
       exact ⟨.inl (.inr ⟨hsn.symm,_,hA.symm,rfl⟩),.inl ⟨hsn,hA⟩,True.intro,Xf⟩
     · injection hA with hA
       injection hA with hA;subst hA;exact ⟨.inr Ya,.inr ⟨rfl,_,Ya,rfl⟩,True.intro,Xf⟩
 · have Cc:g=w2.heap.size+1:=by simpa [Value.ownBlock] using h
   subst Cc;exact ⟨.inr Ya,.inr ⟨rfl,_,Ya,rfl⟩,True.intro,Ya⟩):G:=h
theorem Yqt{G:Prop}(h:G:=by
 go_wp2_with fail;go_roundw
 case rel=>
  refine ⟨i+1,Yn,Ya,Nf,A2,c2,?_,Ns.o,Nk.o⟩;rw [Ztq,Zt3 hlt,←HX.o];simp only [Option.toList_some,Z2u];exact fk.o
 case measure=>simp [intOf]<;>omega):G:=h
theorem Y8u{G H:Prop}(k:H)(h:Y0 H→G:=by
 intro zz
 (repeat ((first|(refine Z05 ?_ (Or.inl ⟨Yd,fun w9=>?_⟩) ?_;rotate_left 1;go_simp;with_reducible rfl)|(refine Z04 ?_ (Xp.o) (Or.inl ⟨Yd,fun w9 hw9=>?_⟩) ?_;rotate_left 1;obtain ⟨Do,rr⟩:=Z0i hw9;go_simp;with_reducible rfl)|refine Z05 undef (Or.inr ⟨Yd,rfl⟩) ?_|refine Z04 undef (Xp.o) (Or.inr ⟨Yd,rfl⟩) ?_);go_frame))
 exact zz.o):G:=h ⟨k⟩
theorem Y0l{G H:Prop}(k:H)(h:Y0 H→G:=by
 intro zz
 refine Ysm ?_;intro K9 hK9;refine hK9 _ _ (((Zst _ _).drew).alloc (Zsu _) _) ?_;clear hK9 K9;refine Z1m Yb (fun K9 hK9=>?_)
 revert K9 hK9;exact zz.o):G:=h ⟨k⟩
theorem Y38{G H:Prop}(k:H)(h:Y0 H→G:=by
 intro zz
 refine wpIn_rangeFunc ?_;intro fn I0;obtain ⟨rec,Fv⟩:∃rec:LoopState→Option Code→Loop,rec=fun st pe=>{ state:=st,pending:=pe,fn,tmps:=a.tmps,params:=ps,assign,body,defers:=w.heap.size }:=⟨_,rfl⟩;obtain ⟨W1,Wo⟩:∃W1,(w.alloc (.deferred (some []))).alloc (.loop (rec .ready none))=W1:=⟨_,rfl⟩
 have kp:W1.heap[w.heap.size+1]? = some (.loop (rec .ready none)):=by
  rw [←Wo];have:=Zue (w.alloc (.deferred (some []))) (.loop (rec .ready none));rwa [Zti] at this
 have N5:W1.heap[w.heap.size]? = some (.deferred (some [])):=by
  rw [←Wo];exact (Zuh _ _ _ Ye).trans (Zue w _)
 have Pk:Below w.heap.size w W1:=by
  rw [←Wo];exact ((Zst _ w).alloc (Zsu _) _).alloc Ye _
 revert fn I0 rec Fv W1 Wo kp N5 Pk;exact zz.o):G:=h ⟨k⟩
theorem Yj6{G H:Prop}(k:H)(h:Y0 H→G:=by
 intro zz
 refine Ysm ?_;intro K9 hK9;refine (Ve.o _ (HB.o.trans (((Zst w1.heap.size w1).drew).mono HB.o.size))).mono ?_;rintro e w2 ⟨rfl,lg⟩;have Un:=hU (((Zst w1.heap.size w1).drew).trans (lg.mono Ye));clear lg;refine hK9 _ _ Un.o ?_;clear hK9 K9
 (repeat ((first|(refine Z05 ?_ (Or.inl ⟨Yd,fun w9=>?_⟩) ?_;rotate_left 1;go_simp;with_reducible rfl)|(refine Z04 ?_ (Un.o) (Or.inl ⟨Yd,fun w9 hw9=>?_⟩) ?_;rotate_left 1;obtain ⟨Do,rr⟩:=Z0i hw9;go_simp;with_reducible rfl)|refine Z05 undef (Or.inr ⟨Yd,rfl⟩) ?_|refine Z04 undef (Un.o) (Or.inr ⟨Yd,rfl⟩) ?_);go_frame));refine Z0m ?_;simp only [Z00];refine hKK _ _ ?_
 revert w2 Un;exact zz.o):G:=h ⟨k⟩
theorem Ykv{G H:Prop}(k:H)(h:Y0 H→G:=by
 intro zz
 (try simp only [Exit.inBlock,Exit.then])
 exact zz.o):G:=h ⟨k⟩
theorem Yua{G H:Prop}(k:H)(h:Y0 H→G:=by
 intro zz
 refine Yey ?_;intro k3 wh g1 j4 v1 v2 v3;have aa:decide ((0:Int)<(x.attr.length:Int))=false:=Zsx Ya;have ab:decide (0<x.attr.length)=false:=Zsx Ya
 revert k3 wh g1 j4 v1 v2 v3 aa ab;exact zz.o):G:=h ⟨k⟩
theorem Y53{G:Prop}(h:G:=by
 obtain rfl:i=j:=by omega
 have HB:=hU hB;clear hB;go_wp2_with fail;go_ret2;refine ⟨?_,jv.o.trans (HB.o.mono Ya)⟩;rw [Z4h hj sy.o xq.o,(Z5v sy.o xq.o).2.2];rfl):G:=h
theorem Yjw{G H:Prop}(k:H)(h:Y0 H→G:=by
 intro zz
 have k3:(x.kind == 3)=false:=Yl;have wh:decide (x.kind=3)=false:=Yl;have k1:(x.kind == 1)=false:=Yl;have T8:decide (x.kind=1)=false:=Yl;have k2:(x.kind == 2)=true:=Yl;have ot:decide (x.kind=2)=true:=Yl
 revert k3 wh k1 T8 k2 ot;exact zz.o):G:=h ⟨k⟩
theorem Ygb{G H:Prop}(k:H)(h:Y0 H→G:=by
 intro zz
 obtain ⟨m,hm⟩:∃m,m=i+(j - i) / 2:=⟨_,rfl⟩
 have Le:m<l.length:=Ya;have hmj:m<j:=Ya;have hmi:i≤m:=Ya;have e1:((i:Int)+((j:Int) - (i:Int)) / 2)=(m:Int):=Ya;have E1:=hU e1;clear e1 hm
 revert m Le hmj hmi E1;exact zz.o):G:=h ⟨k⟩
theorem Y9b{G:Prop}(h:G:=by
 intro h;rcases Vy.o with ⟨hsn,hA⟩|⟨_,g2,hg2,hA⟩
 · rcases A1 with _|a1
   · cases h
   · have h1:=HS.o.row_lt _ hA.symm
     exact Yhf
 · subst hA
   exact Yhf):G:=h
theorem Yvj{G H:Prop}(k:H)(h:Y0 H→G:=by
 intro zz
 obtain ⟨w1,Fg⟩:∃w1,w1=((w.alloc (.cells (Q1d s) 41)).alloc (.cells Q2b 177)):=⟨_,rfl⟩;refine Yt9 ?_;intro HB;have Kk:=hU (show Blk w1 (w.heap.size) 41 (Q1d s) from YNl);have Kr:=hU (show Blk w1 (w.heap.size+1) 177 Q2b from YOu);clear Fg;refine Yoi ?_;intro k0 k1 k2 kz r0 r1 r2 r3 rz;have ja:=hU (show w.heap.size+1<w1.heap.size from Kr.o.lt)
 revert w1 HB Kk Kr k0 k1 k2 kz r0 r1 r2 r3 rz ja;exact zz.o):G:=h ⟨k⟩
theorem Yev{G:Prop}(h:G:=by
 rw [N8];have h1:Fr (Z0w b sn A) w w1:=Fr.of_new ((Zst _ _).trans (Nk.o.mono Ye));have h2:Fr (Z0w b sn A) w w2:=h1.trans (qq.o.mono (fun k _ h=>.inl h));refine ((h2.alloc _).grown yr.o (fun k hk=>?_)).setCell (p:=⟨b,0,none⟩) (.inl (.inl rfl)) _;exact Y72):G:=h
theorem Yro{G:Prop}(h:G:=by
 have Np:i=xs.length:=by omega
 subst Np;go_wp2_with fail;go_ret;refine ⟨w.heap.size,rfl,Zsu _,sn,A',c',?_,HA.o,HB.o⟩;have:=HS.o;rwa [Ztc] at this):G:=h
theorem Yvv{G H:Prop}(k:H)(h:Y0 H→G:=by
 intro zz
 rw [←N8];have sk:=hU Cr;have Kw:=hU C5;have Ni:=hU Ll;have pq:=hU jy;have ae:=hU uc;have s4:=Ll.cell 0;have E7:w4.cell? ⟨b,0,none⟩=some (.slice (some ⟨g,0,none⟩) (l.length+1) c2):=s4
 revert sk Kw Ni pq ae s4 E7;exact zz.o):G:=h ⟨k⟩
theorem Yiy{G H:Prop}(k:H)(h:Y0 H→G:=by
 intro zz
 (repeat ((first|(refine Z1r ?_ (Or.inl ⟨Yd,fun w9=>?_⟩) ?_;rotate_left 1;go_simp;with_reducible rfl)|(refine Z1y ?_ (Xi.o) (Or.inl ⟨Yd,fun w9 hw9=>?_⟩) ?_;rotate_left 1;obtain ⟨Do,rr⟩:=Z0i hw9;go_simp;with_reducible rfl)|refine Z1r undef (Or.inr ⟨Yd,rfl⟩) ?_|refine Z1y undef (Xi.o) (Or.inr ⟨Yd,rfl⟩) ?_);go_frame));refine Z1n (fun K9 hK9=>?_)
 revert K9 hK9;exact zz.o):G:=h ⟨k⟩
theorem Yu7{G H:Prop}(k:H)(h:Y0 H→G:=by
 intro zz
 have low :∀(p:Addr),p.block<w.heap.size→wr.cell? p=w.cell? p:=fun p hp=>(hB.cell (p:=p) Ya).trans (jv.o.cell (p:=p) hp);have r0:=(low ⟨b,0,none⟩ hb).trans h0
 revert low r0;exact zz.o):G:=h ⟨k⟩
theorem Yhn{G:Prop}(h:G:=by
 rintro e w1 ⟨rfl,Pk⟩;go_wp2_with fail;go_ret;refine ⟨YUb,sn,A,c,?_,Fr.of_new (((Zst _ _).alloc (Zsu _) _).trans (Pk.mono Ye)),.inl ⟨rfl,rfl⟩⟩;rw [Z47 hh];exact HS.o.new_ (((Zst _ _).alloc (Zsu _) _).trans (Pk.mono Ye))):G:=h
theorem Yxb{G:Prop}(h:G:=by
 rcases Uz with ⟨_,rfl⟩|⟨_,g2,hg2,rfl⟩
 · exact HA.o
 · intro a ha;cases ha;have:=HB.o.size;(try simp at hg2 ⊢);omega):G:=h
theorem Y1g{G H:Prop}(k:H)(h:Y0 H→G:=by
 intro zz
 refine Z0p ?_;simp only [Z00];refine hKK _ _ ?_
 exact zz.o):G:=h ⟨k⟩
theorem Yo4{G:Prop}(h:G:=by
 have e:cs'=vs.toArray:=by
  apply Array.ext
  · rw [h2];simpa using hl
  · intro i hi hj
    (have s8:i<vs.length:=by simpa using hj);have h3:=hr i vs[i] (Zt3 s8);rw [show (0+i)=i from Ya,h1.cell i,Array.getElem?_eq_getElem hi] at h3;simpa using h3
 rw [←e];exact h1):G:=h
theorem Ypy{G H:Prop}(k:H)(h:Y0 H→G:=by
 intro zz
 have sd:w.heap.size+1<Wa.heap.size:=(Zt7.1 zj).1;have yo:=run_beginRound (P:=P) zj (by rw [Fv]);refine ⟨_,yo,?_⟩;have Ds:(Wa.putObj (w.heap.size+1) (.loop { rec .ready none with state:=.busy })).heap[w.heap.size+1]? = some (.loop { rec .ready none with state:=.busy }):=World.putObj_heap_same sd;have L5:(Wa.putObj (w.heap.size+1) (.loop { rec .ready none with state:=.busy })).heap[w.heap.size]? = some (.deferred (some [])):=(Ztj Ya).trans Tc
 revert sd yo Ds L5;exact zz.o):G:=h ⟨k⟩
theorem Ybv{G:Prop}(h:G:=by
 have pl:p.acts.findIdx? (actV K3)=some i:=by
  rw [List.findIdx?_eq_some_iff_getElem];exact ⟨hlt,by rw [←HY.o];exact HV.o,fun j hj=>YJ9⟩
 have hR:=HR.o;rw [pl] at hR;have O8:=hU hR;have v1:IntKind.i64.wrap (ka+(i:Int))=ka+(i:Int):=Zt8 _ Ya;clear pl hR;go_wp2_with fail
 go_ret3
 exact Z5h.none_ O8.o (Xp.o.trans (rt.o.mono Ew))):G:=h
theorem Yei{G:Prop}(h:G:=by
 rw [N8,Z2f];refine ownsRow_setCell_other (a:=⟨b,0,none⟩) ?_ YF6 _;rw [Zta,List.flatMap_singleton];exact ss.o):G:=h
theorem Y5b{G H:Prop}(k:H)(h:Y0 H→G:=by
 intro zz
 have El:=hU (Z02 El.o hb);have ru:=hU (ru.o.mono (fun j hj=>NewD.up (Zsu _) (hb).size j hj));have mt:=hU (Z02 mt.o hb);have zx:=hU (zx.o.mono (fun j hj=>NewD.up (Zsu _) (hb).size j hj))
 revert El ru mt zx;exact zz.o):G:=h ⟨k⟩
theorem Y2t{G H:Prop}(k:H)(h:Y0 H→G:=by
 intro zz
 (repeat ((first|(refine Z05 ?_ (Or.inl ⟨Yd,fun w9=>?_⟩) ?_;rotate_left 1;go_simp;with_reducible rfl)|(refine Z04 ?_ (((Zst _ _).drew)) (Or.inl ⟨Yd,fun w9 hw9=>?_⟩) ?_;rotate_left 1;obtain ⟨hc9,hf9⟩:=Z0i hw9;go_simp;with_reducible rfl)|refine Z05 undef (Or.inr ⟨Yd,rfl⟩) ?_|refine Z04 undef (((Zst _ _).drew)) (Or.inr ⟨Yd,rfl⟩) ?_);go_frame))
 exact zz.o):G:=h ⟨k⟩
theorem Ykm{G H:Prop}(k:H)(h:Y0 H→G:=by
 intro zz
 have k3:(x.kind == 3)=false:=Yl;have wh:decide (x.kind=3)=false:=Yl;have k1:(x.kind == 1)=true:=Yl;have T8:decide (x.kind=1)=true:=Yl
 revert k3 wh k1 T8;exact zz.o):G:=h ⟨k⟩
theorem Yuo{G:Prop}(h:G:=by
 (go_wp2_with (at_builtin;refine Z3d _ rfl _ _ 26 rfl 77 j0 _ 7 112 Tryz.underlying26 E6 ye Xh L7 rfl rfl Ya (Plus C wr (w5.alloc (.cells (Q0r y vx j7 lu lr Be Ot) 77))) E8.o (.slice A1 (L.take k).length c1) (L.take k) HV.o Cj.o ⟨w5.heap.size,0,none⟩ 1 y (Q0q y vx j7 lu lr Be Ot) rfl (Zte (heap_alloc_new _ _)) (by intro u hu;simp only [Ztb,Zth,or_false] at hu;rcases hu with rfl|rfl|rfl|rfl|rfl|rfl|rfl<;>rfl) Oo.o mu.o U8.o ?_;intro v' w7 Fz));have F8:Z2k (Z09 (m+1)) 77 W0 (L.take k ++ [y]) v' w7:=Z2k.snoc H2.o H3.o H4.o ms.o Fz;exact Y7i):G:=h
theorem Y9f{G:Prop}(h:G:=by
 obtain ⟨_,Vx,R9⟩:=World.cells?_some c1;rw [hr] at Vx R9
 have Pf:a.spot=none:=by
  have:=R9 0 h0;rw [Zt3 Ya] at this;(have e2:(a.add (0*r.size)).add 0=a:=by simp [Addr.add]);rw [e2] at this;exact World.cell?_spot this
 obtain ⟨b,off,spot⟩:=a;simp only at Pf;subst Pf
 have P2:b<w.heap.size:=by
  have:=R9 0 h0;rw [Zt3 Ya] at this;(have e2:((⟨b,off,none⟩:Addr).add (0*r.size)).add 0=⟨b,off,none⟩:=by simp [Addr.add]);rw [e2] at this;exact Zt5 w _ this
 refine ⟨b,off,rfl,P2,P2,fun k hk=>?_⟩;obtain ⟨cs2,g1,g2⟩:=hq k hk;refine ⟨cs2,g1,fun j u hu=>?_⟩;have:=g2 j u hu;rwa [add_plain,add_plain] at this):G:=h
theorem Yeh{G H:Prop}(k:H)(h:Y0 H→G:=by
 intro zz
 refine Ysm ?_;intro K9 hK9;refine (HP.o _ (HB.o.trans (((Zst w1.heap.size w1).drew).mono HB.o.size))).mono ?_;rintro e w5 ⟨rfl,ww⟩;have Xp:=hU (((Zst w1.heap.size w1).drew).trans (ww.mono Ye));clear ww;refine hK9 _ _ Xp.o ?_;clear hK9 K9
 revert w5 Xp;exact zz.o):G:=h ⟨k⟩
theorem Y61{G:Prop}(h:G:=by
 refine ⟨YUb,false,some ⟨g,0,none⟩,c2,⟨?_,?_⟩,?_,?_⟩
 · rw [ju]
   exact (Ni.o.fr Is.o (fun h=>Dg h.symm)).far (p:=⟨g,k,none⟩) (fun h=>Dg h.symm) _
 · rw [ju,←he]
   exact Ss
 · exact ae.o.into (((Is.o).setCell (p:=⟨g,k,none⟩) (.inl rfl) (_))) (fun k hk=>YWh)
 · exact Kw.o):G:=h
theorem Y07{G:Prop}(h:G:=by
 rw [N8,World.cell?_setCell_other _ _ _ _ Ym];refine yr.o.cell ((World.cell?_alloc_lt w2.drew _ ⟨w.heap.size,0,none⟩ L5).trans x0) ?_;exact Ytz):G:=h
theorem Ysn{G:Prop}(h:G:=by
 rw [N8,World.cell?_setCell_other _ _ _ _ Ym];refine yr.o.cell ((World.cell?_alloc_lt w2.drew _ ⟨w.heap.size,1,none⟩ L5).trans x1) ?_;exact Ytz):G:=h
theorem Yr2{G H:Prop}(k:H)(h:Y0 H→G:=by
 intro zz
 refine Yj7 ?_;intro x0 x1;have x2:=(Is.o.cell (p:=⟨w.heap.size,2,none⟩) Ku (fun h=>Lu h.symm)).trans z2
 revert x0 x1 x2;exact zz.o):G:=h ⟨k⟩
theorem Yhe{G H:Prop}(k:H)(h:Y0 H→G:=by
 intro zz
 obtain ⟨X,hX⟩:∃X,X=wr.alloc (.cells (Q0r y A1 c1 A2 c2 A3 c3) 77):=⟨_,rfl⟩;rw [←hX];have Ol:Below wr.heap.size wr X:=YHw;have D8:Blk X wr.heap.size 77 (Q0r y A1 c1 A2 c2 A3 c3):=YJk;have Uf:=hU Ol;have T7:=hU D8;clear hX Ol D8
 revert X Uf T7;exact zz.o):G:=h ⟨k⟩
theorem Yp0{G H:Prop}(k:H)(h:Y0 H→G:=by
 intro zz
 obtain ⟨w4,N8⟩:∃w4,w4=w3.setCell ⟨b,0,none⟩ (.slice (some ⟨g,0,none⟩) (l.length+1) c2):=⟨_,rfl⟩
 revert w4 N8;exact zz.o):G:=h ⟨k⟩
theorem Y8a{G H:Prop}(k:H)(h:Y0 H→G:=by
 intro zz
 refine Ypt ?_;have HB:=hU (Zst W0.heap.size W0).drew;obtain ⟨V,hV⟩:∃V,V=W0.drew:=⟨_,rfl⟩
 revert HB V hV;exact zz.o):G:=h ⟨k⟩
theorem Yvl{G H:Prop}(k:H)(h:Y0 H→G:=by
 intro zz
 obtain ⟨W1,Wo⟩:∃W1,W1=(w.alloc (.cells #[.int .i64 x.kind,.bool x.goal,.string x.id,.slice A1 x.attr.length c1,.slice A2 x.value.length c2,.bool x.acc,.slice A3 L.length c3] 77)).alloc (.cells Q2g 77):=⟨_,rfl⟩;have Ky:Below w.heap.size w W1:=Y6;have Ia:Blk W1 w.heap.size 77 #[.int .i64 x.kind,.bool x.goal,.string x.id,.slice A1 x.attr.length c1,.slice A2 x.value.length c2,.bool x.acc,.slice A3 L.length c3]:=YLa;have En:Blk W1 (w.heap.size+1) 77 Q2g:=YFl;(have rm:W1.heap.size=w.heap.size+2:=by rw [Wo];simp);rw [←Wo];clear Wo;obtain ⟨-,-,-,x3,-,-,-⟩:=Ia.c7;have Nk:=hU Ky;have Ld:=hU Ia;have Nq:=hU En;have ja:=hU rm;have hxl1:=Ia.lt;clear Ky Ia En rm
 revert W1 x3 Nk Ld Nq ja hxl1;exact zz.o):G:=h ⟨k⟩
theorem Ybx{G H:Prop}(k:H)(h:Y0 H→G:=by
 intro zz
 refine bodyPost_ret (v:=.tuple #[.agg Q2p,.slice none 0 0,.bool false]) ?_ rfl (Z4o.no ef.o (Below.setCells' _ _ n8.o Ya))
 exact zz.o):G:=h ⟨k⟩
theorem Yzs{G:Prop}(h:G:=by
 obtain rfl:k=m:=by omega
 exact e):G:=h
theorem Yy3{G H:Prop}(k:H)(h:Y0 H→G:=by
 intro zz
 refine Y6d ?_;intro b1 b2;have Sq:W0.heap.size≤wr.heap.size:=hB.size
 revert b1 b2 Sq;exact zz.o):G:=h ⟨k⟩
theorem Yy8{G:Prop}(h:G:=by
 go_enter Tryz.func126,Tryz.ntmps126;(go_wp2_with (first|(go_at_call 153;refine (Zf7 _ _ _).mono ?_;rintro e w' ⟨rfl,rfl⟩)|(go_at_call 154;refine (Zf8 _ _ _).mono ?_;rintro e w' ⟨rfl,rfl⟩)));go_ret;exact ⟨YAq,((Zst _ _).alloc (Zsu _) _).alloc Ye _⟩):G:=h
theorem Ygq{G:Prop}(h:G:=by
 have bw:=hU hcb
 clear hcb;go_wp2_with fail;go_roundw
 case rel=>exact ⟨i+1,Yn,Ya,fun k hk hki=>by
  by_cases e:k=i
  · subst e;rw [←HY.o];exact bw.o
  · exact Ci.o k hk Ya,yq.o⟩
 case measure=>simp [intOf]<;>omega):G:=h
theorem Y5v{G H:Prop}(k:H)(h:Y0 H→G:=by
 intro zz
 have q0:wr.cell? ⟨g,off+k*4,none⟩=some (.string u.var):=Gk 0 _ rfl;have q1:wr.cell? ⟨g,off+k*4+1,none⟩=some (.int .i64 u.sym.kind):=Gk 1 _ rfl;have q2:wr.cell? ⟨g,off+k*4+2,none⟩=some (.string u.sym.text):=Gk 2 _ rfl;have q3:wr.cell? ⟨g,off+k*4+3,none⟩=some (.int .i64 u.sym.n):=Gk 3 _ rfl
 revert q0 q1 q2 q3;exact zz.o):G:=h ⟨k⟩
theorem Y2k{G:Prop}(h:G:=by
 rw [rm] at h;simpa [show ((l.length:Int)+1).toNat=l.length+1 from Ya] using h):G:=h
theorem Yvh{G H:Prop}(k:H)(h:Y0 H→G:=by
 intro zz
 have br:=hU (cg.o.new_ Ri);have B7:=hU (B7.o.new_ Ri);have Kp:=hU (Kp.o.new_ Ri);have Lp:=hU Kp.o.lt;have Kr:=hU (Kr.o.new_ Ri);have Lr:=hU Kr.o.lt
 revert br B7 Kp Lp Kr Lr;exact zz.o):G:=h ⟨k⟩
theorem Ylv{G H:Prop}(k:H)(h:Y0 H→G:=by
 intro zz
 have hq :∀l,chkL qs ls l=true→∀k c,(k,c)∈l→(qs.contains k=true↔c≠2):=fun l hl k c hk=>by
  have:=Zu2.1 hl (k,c) hk;simp only [Ztr,beq_iff_eq] at this;rw [←this.1];simp
 have hn :∀l,chkL qs ls l=true→∀k,(k,1)∈l→∀j,Z2p ops ops.size j k=false→j≠k→j<ops.size→(ls.any fun k=>k != j && !Z2p ops ops.size j k)=true:=fun l hl k hk j hw hjk _=>by
  have:=Zu2.1 hl (k,1) hk;simp only [Ztr] at this;(have h2:ls.contains k=true:=by simpa using this.2);rw [Zu7];exact ⟨k,YT7,by rw [hw];simp [Ne.symm hjk]⟩
 revert hq hn;exact zz.o):G:=h ⟨k⟩
theorem Yoh{G:Prop}(h:G:=by
 rw [N8,World.cell?_setCell_other _ _ _ _ Ym];refine yr.o.cell ((World.cell?_alloc_lt w2.drew _ ⟨w.heap.size,2,none⟩ L5).trans x2) ?_;exact Ytz):G:=h
theorem Ydc{G H:Prop}(k:H)(h:Y0 H→G:=by
 intro zz
 refine Y22 ?_;intro r1 r2 r3;have r4:decide (7<t.rel)=false:=Zsx Ya;have l1:decide ((0:Int)<(t.list.length:Int))=false:=Zsx Ya;have l2:decide (0<t.list.length)=false:=Zsx Ya;have l3:t.list.length=0:=Ya;have l9:t.list = []:=Zty.1 l3
 revert r1 r2 r3 r4 l1 l2 l3 l9;exact zz.o):G:=h ⟨k⟩
theorem Ygo{G:Prop}(h:G:=by
 have hl:=run_loadVar_mid (P:=P) w g 0 T cs d hc hu hd hi;have Dn:tmps[t]?.getD undef = .pointer (some ⟨g,0,none⟩):=YIw;simp [results,h,Dn,asAddr,hl]):G:=h
theorem Y3p{G:Prop}(h:G:=by
 go_wp2;go_end0;exact ⟨rfl,A,c,HS.o,Fr.refl _ _,.inl ⟨rfl,rfl⟩⟩):G:=h
theorem Yr1{G:Prop}(h:G:=by
 intro F D c pre post X hD hx j9 hK
 subst Mf;obtain ⟨rfl,Ss,oy⟩:=j9;have Ac:=hU Ss;have Gq:=hU oy;have HK:=hU hK;have HX:=hU hx;clear Ss oy hK hI hx;gi_wp2_with fail;refine Yhg ?_;intro lj;exact ⟨_,results_none rfl _ _ _,⟨_,rfl⟩,F,Ac.o,.inr ⟨pre,post,HX.o,Gv.o F _ _ _ Gq.o lj⟩⟩):G:=h
theorem Ya8{G H:Prop}(k:H)(h:Y0 H→G:=by
 intro zz
 have b1:(0:Int)≤(k:Int):=Ya;have b2:(k:Int)<(l.length:Int)+1:=Ya;have HK:=hU hk;have hkw:w.heap.size<wr.heap.size:=YQ9;have U9:b<wr.heap.size:=Zt5 wr _ r0
 revert b1 b2 HK hkw U9;exact zz.o):G:=h ⟨k⟩
theorem Yus{G:Prop}(h:G:=by
 go_ret;refine ⟨?_,(Zst _ _).alloc (Zsu _) _⟩;rw [HV.o]
 first|rfl|(refine Z2d ?_;simp_all;done)|(refine Z2d ?_;simp_all;omega)|(refine Z2d ?_;simp_all [Z53];done)|(refine Z2d ?_;simp_all [Z53];omega)):G:=h
theorem Yia{G H:Prop}(k:H)(h:Y0 H→G:=by
 intro zz
 have y0:=(hB.cell (p:=⟨w.heap.size,0,none⟩) Sd).trans mj;have y1:=(hB.cell (p:=⟨w.heap.size,1,none⟩) Sd).trans Sg;have y2:=(hB.cell (p:=⟨w.heap.size,2,none⟩) Sd).trans pi
 revert y0 y1 y2;exact zz.o):G:=h ⟨k⟩
theorem Yzd{G:Prop}(h:G:=by
 clear hv k1;go_enter Tryz.func131,Tryz.ntmps131;go_wp2_with fail
 all_goals (go_ret;exact ⟨YJ0,HA.o⟩)):G:=h
theorem Y8h{G H:Prop}(k:H)(h:Y0 H→G:=by
 intro zz
 have h0:=hS.cell0;have h1:=hS.cell1;have hb:=hS.lt;have f0:=hS.blk.frozen 0;have f1:=hS.blk.frozen 1
 revert h0 h1 hb f0 f1;exact zz.o):G:=h ⟨k⟩
theorem Y52{G:Prop}(h:G:=by
 intro F D X hD j9 hK
 subst hI;obtain ⟨⟨Ss,_,_⟩,oy,_⟩:=j9;have Ac:=hU Ss;have Gq:=hU oy;have HK:=hU hK;clear Ss oy hK Mf;gi_wp2_with fail;refine Yhg ?_;intro lj;exact ⟨_,results_none rfl _ _ _,⟨_,rfl⟩,F,Ac.o,.inl (HJ.o F _ _ _ Gq.o lj)⟩):G:=h
theorem Y2r{G:Prop}(h:G:=by
 rintro e w1 ⟨rfl,Pk⟩;go_wp2_with fail;go_ret;refine ⟨YUb,sn,A,c,?_,Fr.of_new ((Zst _ _).trans (Pk.mono Ye)),.inl ⟨rfl,rfl⟩⟩;rw [Z47 hh];exact HS.o.new_ ((Zst _ _).trans (Pk.mono Ye))):G:=h
theorem Ya4{G H:Prop}(k:H)(h:Y0 H→G:=by
 intro zz
 obtain ⟨W0,rp⟩:∃W0,W0=w.alloc (.cells (Q1d k) 41):=⟨_,rfl⟩;have Lg:Below w.heap.size w W0:=Yp;have im:Blk W0 w.heap.size 41 (Q1d k):=Yw;have hz0:w.heap.size<W0.heap.size:=im.lt;rw [←rp];clear rp;have s1:=(Lg.cell (p:=⟨bm,0,none⟩) Le).trans s0
 revert W0 Lg im hz0 s1;exact zz.o):G:=h ⟨k⟩
theorem Y11{G H:Prop}(k:H)(h:Y0 H→G:=by
 intro zz
 have s0:=F7.cell0;have f0:=F7.blk.frozen 0;have hb2:b<w2.heap.size:=Ya;have L5:w.heap.size<w2.heap.size:=Ya;have fk:=hU F7;have qq:=hU Td;have Vy:=hU Uz
 revert s0 f0 hb2 L5 fk qq Vy;exact zz.o):G:=h ⟨k⟩
theorem Ytd{G H:Prop}(k:H)(h:Y0 H→G:=by
 intro zz
 have ga:decide ((4:Int)<(x.value.length:Int))=false:=Zsx Ya;have gb:decide (4<x.value.length)=false:=Zsx Ya
 revert ga gb;exact zz.o):G:=h ⟨k⟩
theorem Y79{G H:Prop}(k:H)(h:Y0 H→G:=by
 intro zz
 have hz3:=Kh.size;(have Sv:W3.heap.size=w3.heap.size:=by rw [jb];simp);have Iw:Below w.heap.size w W3:=YV3;have L5:RowR Z07 (NewD W1.heap.size W3) W3 B2 d2 x.value:=k2.keep Ya (fun j hj hl=>⟨⟨by have:=hj.1;have:=X7.o;omega,YI6⟩,YC0⟩);have zi:RowR Z07 (NewD W1.heap.size W3) W3 B1 d1 x.attr:=zv.o.keep Ya (fun j hj hl=>⟨⟨hj.1,YI6⟩,YKj⟩);have Ue:=hU Iw;have Xy:=hU Eo;have Bn:=hU Ec;have Rp:=hU L5;have Pb:=hU zi;have su:=hU (show W1.heap.size≤W3.heap.size by have:=X7.o;omega);have HQ3:=hU (Q3.o.new_ Ue.o)
 have ub:=Lb.lt
 revert hz3 Sv Iw L5 zi Ue Xy Bn Rp Pb su HQ3 ub;exact zz.o):G:=h ⟨k⟩
theorem Yga{G H:Prop}(k:H)(h:Y0 H→G:=by
 intro zz
 have B7:=hU (B7.o.fr zp F0.o);have F0:=hU (dv _ YLt F0.o);have Op:=hU (dv _ Lp.o Op.o);have Or:=hU (dv _ Lr.o Or.o)
 revert B7 F0 Op Or;exact zz.o):G:=h ⟨k⟩
theorem Yfw{G:Prop}(h:G:=by
 refine ⟨v,w,?_,by simpa using hown,World.grownBy.refl w _,Ye,.inl rfl⟩
 rcases hown.2 with ⟨rfl,rfl⟩|⟨g,cap,cur,rfl,_,_,hnc,_⟩
 · simp [Builtin.append_,run_underlying ht,sizeOf,typeInfo,hi,Builtin.lenOf,Builtin.firstCells]
 · simp [Builtin.append_,run_underlying ht,sizeOf,typeInfo,hi,Builtin.lenOf,Builtin.firstCells,hnc,storeCells]):G:=h
theorem Ytn{G H:Prop}(k:H)(h:Y0 H→G:=by
 intro zz
 have sl:=hU (show ∀j,(∃a,A5=some a∧a.block=j)→(False∨(w.heap.size≤j∧wr.heap.size≤j∧j<W9.heap.size))∧¬BF X j W9.heap[j]? from fun j hj=>by
  obtain ⟨h1,h2,h3⟩:=HE5.o j hj;refine ⟨.inr ⟨Ya,Ya,YSo⟩,?_⟩
  rw [Ct.block j h2];exact h3)
 have Ff:=hU (show w.heap.size≤W9.heap.size by have:=Ct.size;have:=Bx.o.size;omega);have Gg:=hU (HSe.o.new_ Ct);have xx:=hU (Bx.o.trans (Fl.of_new Ct));have Mx:=hU Gh
 revert sl Ff Gg xx Mx;exact zz.o):G:=h ⟨k⟩
theorem Yyx{G H:Prop}(k:H)(h:Y0 H→G:=by
 intro zz
 have b1:(0:Int)≤(i:Int):=Ya;have b2:(i:Int)<(l.length:Int):=Ya
 revert b1 b2;exact zz.o):G:=h ⟨k⟩
theorem Ymm{G H:Prop}(k:H)(h:Y0 H→G:=by
 intro zz
 rw [←Gh];obtain ⟨css,q1,q2,q3⟩:=h.o1;obtain ⟨sn,A,c,g1,g2,g3⟩:=h.set_;have hc :∀k,C k→k<w.heap.size→W9.heap[k]? = w.heap[k]?:=fun k hk hl=>hm.fr.block k hl (fun hn=>hn (h.sub k hk))
 revert css q1 q2 q3 sn A c g1 g2 g3 hc;exact zz.o):G:=h ⟨k⟩
theorem Y0d{G H:Prop}(k:H)(h:Y0 H→G:=by
 intro zz
 obtain ⟨Al,hf1⟩:=Z0i Pk;have hz1:w.heap.size+2<w1.heap.size:=YDb;have HB:=hU ((((((Zst w.heap.size w).alloc (Zsu _) _).alloc Ye _).alloc Yk _)).trans (Pk.mono Yk))
 revert Al hf1 hz1 HB;exact zz.o):G:=h ⟨k⟩
theorem Ytp{G H:Prop}(k:H)(h:Y0 H→G:=by
 intro zz
 obtain ⟨w1,Fg⟩:∃w1,w1=(w.alloc (.cells (Q1d s) 41)):=⟨_,rfl⟩;refine Yt9 ?_;intro HB;have Kk:=hU (show Blk w1 (w.heap.size) 41 (Q1d s) from YSj);clear Fg;obtain ⟨k0,k1,k2⟩:=Kk.o.c3;have kz:=Kk.o.lt
 revert w1 HB Kk k0 k1 k2 kz;exact zz.o):G:=h ⟨k⟩
theorem Yxv{G:Prop}(h:G:=by
 go_wp2_with fail;go_ret;exact ⟨YJ0,HB.o⟩):G:=h
theorem Yav{G:Prop}(h:G:=by
 obtain ⟨⟨⟨⟨rfl,hc⟩,hL⟩,he⟩,sd⟩:=hB
 have:=Z4a (P:=P) (Q:=Q) (S:=S) (qt:=fun k=>qs.contains k) (ns:=fun j=>ls.any fun k=>k != j && !Z2p ops ops.size j k) (R:=fun a w=>Q .normal a w) (n:=0) hsel hQ l listed a w O0 hL YB0 (hq l hc) (hn l hc)
  (fun a w h=>⟨by simpa using he,h⟩) h
 simpa using this):G:=h
theorem Ybj{G H:Prop}(k:H)(h:Y0 H→G:=by
 intro zz
 have v1:(t.var.toList == [])=true:=YZb;have v2:t.var.toList.isEmpty=true:=YZb;have v3:decide (t.var.toList = [])=true:=YZb
 revert v1 v2 v3;exact zz.o):G:=h ⟨k⟩
theorem Ylj{G H:Prop}(k:H)(h:Y0 H→G:=by
 intro zz
 repeat ((first|(refine Z05 ?_ (Or.inl ⟨Yd,fun w9=>?_⟩) ?_;rotate_left 1;go_simp;with_reducible rfl)|(refine Z04 ?_ (((Zst _ _).drew)) (Or.inl ⟨Yd,fun w9 hw9=>?_⟩) ?_;rotate_left 1;obtain ⟨Do,rr⟩:=Z0i hw9;go_simp;with_reducible rfl)|refine Z05 undef (Or.inr ⟨Yd,rfl⟩) ?_|refine Z04 undef (((Zst _ _).drew)) (Or.inr ⟨Yd,rfl⟩) ?_);go_frame)
 exact zz.o):G:=h ⟨k⟩
theorem Ylk{G:Prop}(h:G:=by
 exact ⟨w1.heap.size,bp,sn,A,c,rfl,HB.o.size,iv,hA,Blk.new _ _ _,HS.o.new_ Ct,HB.o.trans (Ct.mono HB.o.size)⟩):G:=h
theorem Ye8{G:Prop}(h:G:=by
 go_wp2_with fail;refine Yis ?_;intro w2 hb HB;clear hb;go_wp2_with fail;exact Yyw):G:=h
theorem Yo9{G:Prop}(h:G:=by
 rintro e w1 ⟨rfl,Pk⟩;have Nk:=hU ((((Zst w.heap.size w).alloc (Zsu _) _).alloc Ye _).trans (Pk.mono Yk));clear Pk;go_wp2_with fail;go_ret;exact ⟨rfl,Nk.o⟩):G:=h
theorem Ypw{G H:Prop}(k:H)(h:Y0 H→G:=by
 intro zz
 have L0:=T7.o.fr (Bw.o).fr_ (fun hn=>hn s9.o);have qv:=L0.lt;have hzw:W.heap.size≤w5.heap.size:=Zt6 Xs.o.size (Bw.o).fr_.size;have e2:w5.cell? ⟨W.heap.size,2,none⟩=some (.string x.id):=(L0.cell 2).trans rfl;have e3:w5.cell? ⟨W.heap.size,3,none⟩=some (.slice A1 x.attr.length c1):=(L0.cell 3).trans rfl;have e4:w5.cell? ⟨W.heap.size,4,none⟩=some (.slice A2 x.value.length c2):=(L0.cell 4).trans rfl;clear L0
 revert qv hzw e2 e3 e4;exact zz.o):G:=h ⟨k⟩
theorem Yfp{G H:Prop}(k:H)(h:Y0 H→G:=by
 intro zz
 have hc:cost look lv keys (k :: todo) done=cost look lv keys todo done+1:=YCd;(have e:Z4l look lv keys (k :: todo) done=bfs look lv (cost look lv keys todo done+1) (k :: todo) done:=by unfold Z4l;rw [hc])
 revert hc e;exact zz.o):G:=h ⟨k⟩
theorem Yhh{G H:Prop}(k:H)(h:Y0 H→G:=by
 intro zz
 have b1:(0:Int)≤(i:Int):=Ya;have b2:(i:Int)<(xs.length:Int):=Ya;have HX:=hU hx
 revert b1 b2 HX;exact zz.o):G:=h ⟨k⟩
theorem Yx0{G:Prop}(h:G:=by
 rw [N8,World.cell?_setCell_other _ _ _ _ Ym];refine yr.o.cell ((World.cell?_alloc_lt w2.drew _ ⟨w.heap.size,3,none⟩ L5).trans x3) ?_;exact Ytz):G:=h
theorem Yxq{G:Prop}(h:G:=by
 go_ret;rw [Zts,Ztk] at rn;obtain ⟨A',c',rfl,h1,h2,h3⟩:=Z4f rn Tt rfl Kg;exact ⟨A',c',rfl,h1,h2,h3⟩):G:=h
theorem Ywa{G H:Prop}(k:H)(h:Y0 H→G:=by
 intro zz
 (repeat ((first|(refine Z05 ?_ (Or.inl ⟨Yd,fun w9=>?_⟩) ?_;rotate_left 1;go_simp;with_reducible rfl)|(refine Z04 ?_ (el.o) (Or.inl ⟨Yd,fun w9 hw9=>?_⟩) ?_;rotate_left 1;obtain ⟨Do,rr⟩:=Z0i hw9;go_simp;with_reducible rfl)|refine Z05 undef (Or.inr ⟨Yd,rfl⟩) ?_|refine Z04 undef (el.o) (Or.inr ⟨Yd,rfl⟩) ?_);go_frame))
 exact zz.o):G:=h ⟨k⟩
theorem Yxt{G H:Prop}(k:H)(h:Y0 H→G:=by
 intro zz
 (repeat ((first|(refine Z05 ?_ (Or.inl ⟨Yd,fun w9=>?_⟩) ?_;rotate_left 1;go_simp;with_reducible rfl)|(refine Z04 ?_ (gi.o) (Or.inl ⟨Yd,fun w9 hw9=>?_⟩) ?_;rotate_left 1;obtain ⟨Do,rr⟩:=Z0i hw9;go_simp;with_reducible rfl)|refine Z05 undef (Or.inr ⟨Yd,rfl⟩) ?_|refine Z04 undef (gi.o) (Or.inr ⟨Yd,rfl⟩) ?_);go_frame))
 exact zz.o):G:=h ⟨k⟩
theorem Y7k{G H:Prop}(k:H)(h:Y0 H→G:=by
 intro zz
 (repeat ((first|(refine Z05 ?_ (Or.inl ⟨Yd,fun w9=>?_⟩) ?_;rotate_left 1;go_simp;with_reducible rfl)|(refine Z04 ?_ (Xu.o) (Or.inl ⟨Yd,fun w9 hw9=>?_⟩) ?_;rotate_left 1;obtain ⟨Do,rr⟩:=Z0i hw9;go_simp;with_reducible rfl)|refine Z05 undef (Or.inr ⟨Yd,rfl⟩) ?_|refine Z04 undef (Xu.o) (Or.inr ⟨Yd,rfl⟩) ?_);go_frame))
 exact zz.o):G:=h ⟨k⟩
theorem Yi2{G:Prop}(h:G:=by
 intro X F hX hs
 subst hI;have gw:=hs.from_ (Ue.o.trans (hX.mono Ya));have hs3:=hs.size;have Iv:=hX.size;refine ⟨⟨gw,Zsu _,Ya⟩,H0.o F gw,?_⟩;have hy:=n7.o.new_ hX;exact ((hs.fr.cell (p:=⟨W.heap.size,0,none⟩) hy.lt (fun e=>by dsimp only at e;omega)).trans ((hy.cell 0).trans rfl))):G:=h
theorem Yrf{G:Prop}(h:G:=by
 refine ⟨YUb,false,some ⟨g,0,none⟩,c2,⟨?_,?_⟩,?_,?_⟩
 · rw [ju]
   exact Blk.farCells _ _ (Ni.o.fr Is.o (fun h=>Dg h.symm)).drew (fun h=>Dg h.symm)
 · rw [ju]
   exact Ss
 · exact ae.o.into (Fr.setCells _ _ (Fr.drew Is.o) (.inl rfl)) (fun k hk=>YWh)
 · exact Kw.o):G:=h
theorem Yn9{G H:Prop}(k:H)(h:Y0 H→G:=by
 intro zz
 have e1:IntKind.i64.wrap ((l.length:Int)+1)=(l.length:Int)+1:=Zt8 _ Ya
 revert e1;exact zz.o):G:=h ⟨k⟩
theorem Yim{G H:Prop}(k:H)(h:Y0 H→G:=by
 intro zz
 have q6:W5.cell? ⟨wr.heap.size,6,none⟩=some (.int .i64 y.value.kind):=oq 6 _ rfl;have q7:W5.cell? ⟨wr.heap.size,7,none⟩=some (.string y.value.text):=oq 7 _ rfl;have q8:W5.cell? ⟨wr.heap.size,8,none⟩=some (.int .i64 y.value.n):=oq 8 _ rfl;have qz:wr.heap.size<W5.heap.size:=Ya;have j1:(0:Int)≤(i:Int):=Ya;have j2:(i:Int)<(es.length:Int):=Ya;have v1:IntKind.i64.wrap ((i:Int)+1)=(i:Int)+1:=Zt8 _ Ya
 revert q6 q7 q8 qz j1 j2 v1;exact zz.o):G:=h ⟨k⟩
theorem Yrs{G:Prop}(h:G:=by
 rcases Z0f Od with ⟨_,h0,_⟩|⟨g,c2,h,_⟩
 · omega
 · exact ⟨g,c2,h⟩):G:=h
theorem Y42{G:Prop}(h:G:=by
 go_simp;by_cases h:x=y
 · subst h;simp
 · have h2 :¬(x.kind=y.kind∧x.text.toList=y.text.toList∧x.n=y.n):=fun ⟨h1,h2,h3⟩=>h (Sym.ext' h1 (toList_inj h2) h3)
   rw [Zsx h]
   split
   · split
     · split
       · exact absurd ⟨YXw,YXw,YXw⟩ h2
       · rfl
     · rfl
   · rfl):G:=h
theorem Ybc{G H:Prop}(k:H)(h:Y0 H→G:=by
 intro zz
 have ly:=hU (show wr.rangeAt g (off+i*12) (Q0i y) from Gk);obtain ⟨W5,wv,Tq,oq,ww,Ew⟩:=Z4b (w:=wr) (t:=50) Q2x (Q0i y) rfl;have o9:=hU wv;have Nw:=hU Tq;have pd:=hU (Jm.o.trans (ww.mono Jm.o.size));have Ov:=hU (Ge.o.trans (ww.mono Ge.o.size))
 revert ly W5 wv Tq oq ww Ew o9 Nw pd Ov;exact zz.o):G:=h ⟨k⟩
theorem Ymp{G H:Prop}(k:H)(h:Y0 H→G:=by
 intro zz
 (try go_frame);(try simp only [Z08,Zsv])
 exact zz.o):G:=h ⟨k⟩
theorem Ydb{G:Prop}(h:G:=by
 obtain ⟨A',c',rfl,g1,g2⟩:=LsC.more hb hd ha (fun j hj=>.inl (h4 j hj)) (fun j hj=>hj.elim (fun hj=>⟨(h5 j hj).1.imp id (fun h=>⟨h.1,Ya⟩),(h5 j hj).2⟩) (fun hj=>⟨(hE j hj).1.imp id (fun h=>⟨h.1,h.2.2⟩),(hE j hj).2⟩)) hB dv hap;exact h A' c' w' g1 g2):G:=h
theorem Y7s{G:Prop}(h:G:=by
 go_roundw
 case rel=>exact ⟨i+1,Yn,Ya,fun k hk hki=>by
  by_cases e:k=i
  · subst e;rw [←HY.o];exact HV.o
  · exact Ci.o k hk Ya,rt.o⟩
 case measure=>simp [intOf]<;>omega):G:=h
theorem Y5a{G:Prop}(h:G:=by
 rcases A with _|a2
 · cases hv
 · simp only [Value.ownBlock,Option.some.injEq] at hv
   have h6:=ha a2 rfl;rw [hv] at h6;rcases hk with hk|hk
   · exact h3.off k YOc hk
   · rcases (hE k hk).1 with h|h
     · exact h3.off k YOc (h4 k h)
     · omega):G:=h
theorem Ysv{G:Prop}(h:G:=by
 go_wp2;go_ret;exact ⟨YAq,rfl⟩):G:=h
theorem Ysj{G H:Prop}(k:H)(h:Y0 H→G:=by
 intro zz
 refine Ywn ?_;intro aa ab;have w1:Z1t x.id=true:=YB3;have dz:((x.attr.length:Int) == 0)=false:=Y4;have dy:decide ((x.attr.length:Int)=0)=false:=Zsx Ya;have fa:decide ((4:Int)<(x.attr.length:Int))=true:=Zt9 Ya;have fb:decide (4<x.attr.length)=true:=Zt9 Ya;have HR:=hU (show Z1l x deep=7 from YL6)
 revert aa ab w1 dz dy fa fb HR;exact zz.o):G:=h ⟨k⟩
theorem Yet{G H:Prop}(k:H)(h:Y0 H→G:=by
 intro zz
 rintro e w2 ⟨rfl,A1,c1,F7,Td,Uz⟩;have hsz2:w1.heap.size≤w2.heap.size:=Td.size
 revert w2 A1 c1 F7 Td Uz hsz2;exact zz.o):G:=h ⟨k⟩
theorem Yqg{G H:Prop}(k:H)(h:Y0 H→G:=by
 intro zz
 have HR:=hU (show Z1l x deep=9 from YL6)
 revert HR;exact zz.o):G:=h ⟨k⟩
theorem Ysw{G H:Prop}(k:H)(h:Y0 H→G:=by
 intro zz
 have s0:=hM.c1;have Le:=hM.lt;have HS:=hU hS;have HO:=hU hs;have HM:=hU hM;have HH:=hU hh
 revert s0 Le HS HO HM HH;exact zz.o):G:=h ⟨k⟩
theorem Ymn{G H:Prop}(k:H)(h:Y0 H→G:=by
 intro zz
 have x3:=(Is.o.cell (p:=⟨w.heap.size,3,none⟩) Ku (fun h=>Lu h.symm)).trans z3;have x4:=(Is.o.cell (p:=⟨w.heap.size,4,none⟩) Ku (fun h=>Lu h.symm)).trans z4;have x5:=(Is.o.cell (p:=⟨w.heap.size,5,none⟩) Ku (fun h=>Lu h.symm)).trans z5;have x6:=(Is.o.cell (p:=⟨w.heap.size,6,none⟩) Ku (fun h=>Lu h.symm)).trans z6
 revert x3 x4 x5 x6;exact zz.o):G:=h ⟨k⟩
theorem Yow{G H:Prop}(k:H)(h:Y0 H→G:=by
 intro zz
 have t1:decide ((n:Int)<10)=false:=Yk;have b0:(0:Int)≤(n:Int):=Ya;have b1:(n:Int)<9223372036854775808:=Ya;have hc:=Zo8 (n % 10) Ya;have e1:((n:Int) / 10)=((n / 10:Nat):Int):=Ya;have e2:((n:Int) % 10)=((n % 10:Nat):Int):=Ya;have m0:(0:Int)≤((n % 10:Nat):Int):=Ya;have m1:((n % 10:Nat):Int)≤9:=Ya;obtain ⟨m,hm⟩:∃m,m=n % 10:=⟨_,rfl⟩;obtain ⟨q,hq⟩:∃q,q=n / 10:=⟨_,rfl⟩
 revert t1 b0 b1 hc e1 e2 m0 m1 m hm q hq;exact zz.o):G:=h ⟨k⟩
theorem Yyc{G H:Prop}(k:H)(h:Y0 H→G:=by
 intro zz
 have v1:IntKind.i64.wrap ((i:Int)+1)=(i:Int)+1:=Zt8 _ Ya
 revert v1;exact zz.o):G:=h ⟨k⟩
theorem Y92{G:Prop}(h:G:=by
 gi_wp2;refine bodyPost_ret (results_none rfl _ _ _) rfl ?_;exact ⟨⟨_,rfl⟩,.inr ⟨pre ++ [x],post,YXq,M9.o⟩⟩):G:=h
theorem Y1q{G:Prop}(h:G:=by
 have HN:=hU (show twoF es x.a x.b 0 es=twoF es x.a x.b (i+1) (es.drop (i+1)) from YY0);clear hm;go_wp2_with fail;go_roundw
 case rel=>exact ⟨i+1,Yn,Ya,HN.o,po.o⟩
 case measure=>simp [intOf]<;>omega):G:=h
theorem Yoj{G:Prop}(h:G:=by
 rw [hp];constructor
 · rintro ((h|h)|h)
   · exact .inl h
   · exact .inr (.inl h)
   · exact .inr (.inr h)
 · rintro (h|h|h)
   · exact .inl (.inl h)
   · exact .inl (.inr h)
   · exact .inr h):G:=h
theorem Yn1{G:Prop}(h:G:=by
 gi_wp2;have hI:=HI.o;subst hI;refine ⟨jk.o.up Ya,Kd.o.trans kl.o,⟨Ac.o,Zt6 s7 kl.o.1,qi⟩,M9.o,?_⟩;exact (World.cell?_of_block (a:=⟨W.heap.size,0,none⟩) (jk.o.own _ (Zsu _) qi)).trans tq.o):G:=h
theorem Y2f{G H:Prop}(k:H)(h:Y0 H→G:=by
 intro zz
 have ba:decide ((0:Int)<(x.value.length:Int))=false:=Zsx Ya;have bb:decide (0<x.value.length)=false:=Zsx Ya
 revert ba bb;exact zz.o):G:=h ⟨k⟩
theorem Yh5{G H:Prop}(k:H)(h:Y0 H→G:=by
 intro zz
 have Aj:=Rt.size;(have Fe:W2.heap.size=w2.heap.size:=by rw [xc];simp);have yt:Below w.heap.size w W2:=YHh;have zi:RowR Z07 (NewD W1.heap.size W2) W2 B1 d1 x.attr:=k1.keep Ya (fun j hj hl=>⟨⟨hj.1,YI6⟩,YV5⟩);have Un:=hU yt;have T0:=hU Fc;have O8:=hU Il;have zv:=hU zi;have X7:=hU (show W1.heap.size≤W2.heap.size from Ya);have Jg:=f8.lt
 revert Aj Fe yt zi Un T0 O8 zv X7 Jg;exact zz.o):G:=h ⟨k⟩
theorem Yal{G H:Prop}(k:H)(h:Y0 H→G:=by
 intro zz
 have zu:=hU ho;have xh:=hU (hA.mono (fun j hj=>(⟨Zt6 (qc.o).size hj.1,hj.2⟩:NewD W1.heap.size w4 j)));have Xi:=hU ((qc.o).trans (hb.mono (qc.o).size))
 revert zu xh Xi;exact zz.o):G:=h ⟨k⟩
theorem Yfh{G:Prop}(h:G:=by
 clear hKK KK;go_wp2_with fail;go_meet
 case rel=>exact ⟨rfl,HB.o⟩):G:=h
theorem Yxj{G:Prop}(h:G:=by
 have Gj:=hU M1;clear hV M1 eh Ob Aj;go_wp2_with fail;go_ret;(have mp:r=some (hs ++ [v]):=by rw [Nr.o];exact Zk7 N9.o);exact ⟨hs ++ [v],_,c2,YYf,YYf,by have:=Gj.o;rw [Zu8] at this;exact this⟩):G:=h
theorem Yu0{G:Prop}(h:G:=by
 clear hKK KK;clear c0 c1 c2;go_wp2_with fail;go_ret;exact ⟨YJ0,HA.o.trans ((Ri).mono HA.o.size)⟩):G:=h
theorem Yyg{G:Prop}(h:G:=by
 go_wp2;go_ret;exact ⟨rfl,(Zst _ _).alloc (Zsu _) _,Blk.new _ _ _⟩):G:=h
theorem Y5p{G H:Prop}(k:H)(h:Y0 H→G:=by
 intro zz
 have hbw:b<wr.heap.size:=Ya;have hgw:g<wr.heap.size:=Ya;have hww:w.heap.size<wr.heap.size:=Ya
 revert hbw hgw hww;exact zz.o):G:=h ⟨k⟩
theorem Yfr{G H:Prop}(k:H)(h:Y0 H→G:=by
 intro zz
 obtain ⟨W,hW⟩:∃W,W=((w.alloc (.cells (Q0b x) 150)).alloc (.cells Q2t 150)).alloc (.cells Q2t 150):=⟨_,rfl⟩
 have hR:Blk W (w.heap.size+1) 150 Q2t:=by
  rw [hW];have:=(Blk.new (w.alloc (.cells (Q0b x) 150)) 150 Q2t).alloc (.cells Q2t 150);simpa using this
 revert W hW hR;exact zz.o):G:=h ⟨k⟩
theorem Ypq{G:Prop}(h:G:=by
 unfold Oper.wp execOp;simp only [ho,resolve,invoke,builtin,Sem.run_bind,Sem.run_pure,Result.andThen_ok,List.map_toArray,List.map_cons,List.map_nil,hs,hx,hr];exact h v' w' h2 h3 h4 h5):G:=h
theorem Ytf{G H:Prop}(k:H)(h:Y0 H→G:=by
 intro zz
 rintro e w1 ⟨rfl,Pk⟩;have M2:=hU (fm.o.new_ Pk);have hsz1:w.heap.size+1≤w1.heap.size:=YCz
 revert w1 Pk M2 hsz1;exact zz.o):G:=h ⟨k⟩
theorem Ync{G H:Prop}(k:H)(h:Y0 H→G:=by
 intro zz
 have HB:=hU ((Zst w.heap.size w).alloc (Zsu _) (.cells #[.string a.var,.int .i64 a.sym.kind,.string a.sym.text,.int .i64 a.sym.n] 177))
 revert HB;exact zz.o):G:=h ⟨k⟩
theorem Y39{G:Prop}(h:G:=by
 refine Fr.into h k (fun i hi=>?_);rcases Nat.lt_or_ge i a.heap.size with hl|hg
 · refine .inl (Ztz fun hn=>hn ?_)
   have:=h.block i hl hn;rw [this] at hi;exact hi
 · exact .inr hg):G:=h
theorem Yq7{G H:Prop}(k:H)(h:Y0 H→G:=by
 intro zz
 have c0:=(pm.cell 0).trans rfl;have z0:=pm.frozen 0;have Ue:=hU pm;have ss:=hU Od;have yr:=hU Cf
 revert c0 z0 Ue ss yr;exact zz.o):G:=h ⟨k⟩
theorem Yhl{G H:Prop}(k:H)(h:Y0 H→G:=by
 intro zz
 have mr:=hU hL
 have Mv:=hU (Gg.o.frT hA (fun j hj=>by
  obtain ⟨h1,h2,cur,h3⟩:=zr.o.obj j hj
  exact ⟨Zt6 HS.o.bel.size h1,fun _=>YFe⟩))
 have Re:=hU (show Fl X w w9 from Fr.into (Ju.o.trans xx.o) hA (fun j hj=>.inr (zr.o.obj j hj).1))
 revert mr Mv Re;exact zz.o):G:=h ⟨k⟩
theorem Yfy{G:Prop}(h:G:=by
 clear hl hl0;go_wp2_with fail;refine (Z75 _).mono ?_;rintro e w9 ⟨rfl,Ct⟩;have Dp:=hU (Xp.o.trans (Ct.mono (Xp.o).size));clear Ct;exact Yil):G:=h
theorem Y1x{G H:Prop}(k:H)(h:Y0 H→G:=by
 intro zz
 have t0:decide (t.op<0)=false:=Yk;have t1:decide (3<t.op)=false:=Yk;have t2:Z4z t.a=true:=YVa;have t3:decide (t.op=0)=false:=Yl;have t3b:(t.op == 0)=false:=Yl
 revert t0 t1 t2 t3 t3b;exact zz.o):G:=h ⟨k⟩
theorem Ymb{G:Prop}(h:G:=by
 clear hKK KK;go_wp2_with fail;go_meet
 case rel=>exact ⟨rfl,HB.o,g,rfl,HG.o,HL.o,HR.o⟩):G:=h
theorem Yq0{G:Prop}(h:G:=by
 obtain ⟨b,off,cs,_,_,_,hr,_⟩:=h.at_ (k:=0) Ye;exact hr.elim):G:=h
theorem Yw8{G H:Prop}(k:H)(h:Y0 H→G:=by
 intro zz
 obtain ⟨W1,hW1⟩:∃W1,W1=w.alloc (.cells #[.string a.var,.int .i64 a.sym.kind,.string a.sym.text,.int .i64 a.sym.n] 177):=⟨_,rfl⟩
 revert W1 hW1;exact zz.o):G:=h ⟨k⟩
theorem Ym7{G:Prop}(h:G:=by
 obtain rfl:k=l.length:=by omega
 have F8:=Z2k.done ⟨C,A1,c1,rfl,h1,h2,h3,h4⟩;rw [Ztc] at F8;have HF:=hU F8;clear h1 h2 h3 h4 F8;go_wp2_with fail;go_ret;exact HF.o):G:=h
theorem Yk9{G H:Prop}(k:H)(h:Y0 H→G:=by
 intro zz
 obtain ⟨W0,rp⟩:∃W0,W0=(w.drewN nq):=⟨_,rfl⟩;have Lg:Below w.heap.size w W0:=YKx;rw [←rp];clear rp;have jv:=hU Lg;clear Lg
 revert W0 jv;exact zz.o):G:=h ⟨k⟩
theorem Ygv{G:Prop}(h:G:=by
 rcases Nat.lt_or_ge k i with h3|h3
 · exact Ci.o k h h3
 · obtain rfl:k=i:=by omega
   rw [←HX.o];exact HN.o):G:=h
theorem Yyy{G:Prop}(h:G:=by
 go_wp2_with fail;go_ret;exact ⟨true,rfl,gi.o,fun h=>YZt⟩):G:=h
theorem Y2m{G H:Prop}(k:H)(h:Y0 H→G:=by
 intro zz
 obtain ⟨u0,t0⟩:=zm.cell (i:=k) Ya;have b1:(0:Int)≤(k:Int):=Ya;have b2:(k:Int)<(l.length:Int)+1:=Ya;have HK:=hU hk;have U9:b<wr.heap.size:=Zt5 wr _ r0
 revert u0 t0 b1 b2 HK U9;exact zz.o):G:=h ⟨k⟩
theorem Y3q{G:Prop}(h:G:=by
 go_wp2_with fail;go_roundw
 case rel=>exact ⟨m+1,Yn,Ya,by rw [Th.o];exact sm.o,gx.o,Oa.o,Gn.o,Mn.o⟩
 case measure=>simp [intOf];omega):G:=h
theorem Yxp{G H:Prop}(k:H)(h:Y0 H→G:=by
 intro zz
 have ms:=hU Nz;have Cj:=hU vd;have Oo:=hU Jn;have E8:=hU O0;have HB5:=hU Ck;have mu:=hU (show (L.take k).length+1≤maxLen from YZ4);have U8:=hU (show ((L.take k).length+1)*112≤140737488355328 from YYe);have HV:=hU (show Value.slice A1 k c1 = .slice A1 (L.take k).length c1 by rw [Z1u hk])
 revert ms Cj Oo E8 HB5 mu U8 HV;exact zz.o):G:=h ⟨k⟩
theorem Ylt{G:Prop}(h:G:=by
 go_wp2_with fail;go_ret;rw [HE.o];exact And.intro rfl ⟨vcs,HP.o _ HB.o,rfl,rfl⟩):G:=h
theorem Y4c{G H:Prop}(k:H)(h:Y0 H→G:=by
 intro zz
 have hlg:((l.length+1:Nat):Int)=(l.length:Int)+1:=Ya
 revert hlg;exact zz.o):G:=h ⟨k⟩
theorem Y48{G:Prop}(h:G:=by
 rw [N8,World.cell?_setCell_other _ _ _ _ Ym];refine yr.o.cell ((World.cell?_alloc_lt w2.drew _ ⟨w.heap.size,4,none⟩ L5).trans x4) ?_;exact Ytz):G:=h
theorem Yhz{G:Prop}(h:G:=by
 rw [N8,World.cell?_setCell_other _ _ _ _ Ym];refine yr.o.cell ((World.cell?_alloc_lt w2.drew _ ⟨w.heap.size,5,none⟩ L5).trans x5) ?_;exact Ytz):G:=h
theorem Y2d{G:Prop}(h:G:=by
 rw [N8,World.cell?_setCell_other _ _ _ _ Ym];refine yr.o.cell ((World.cell?_alloc_lt w2.drew _ ⟨w.heap.size,6,none⟩ L5).trans x6) ?_;exact Ytz):G:=h
theorem Yxo{G H:Prop}(k:H)(h:Y0 H→G:=by
 intro zz
 obtain ⟨W1,Wo⟩:∃W,W=w.alloc (.cells (Q1d s) 41):=⟨_,rfl⟩;obtain ⟨b3,Ri⟩:∃b,b=w.heap.size:=⟨_,rfl⟩;have K3:=hU (show Blk W1 b3 41 (Q1d s) from YN6);refine Ywp ?_;intro HB;rw [←Wo,←Ri];clear Wo Ri
 revert W1 b3 K3 HB;exact zz.o):G:=h ⟨k⟩
theorem Yj5{G H:Prop}(k:H)(h:Y0 H→G:=by
 intro zz
 have y3:=(hB.cell (p:=⟨w.heap.size,3,none⟩) Sd).trans Iv;have y4:=(hB.cell (p:=⟨w.heap.size,4,none⟩) Sd).trans Jd;have y5:=(hB.cell (p:=⟨w.heap.size,5,none⟩) Sd).trans Jj;have y6:=(hB.cell (p:=⟨w.heap.size,6,none⟩) Sd).trans Lj
 revert y3 y4 y5 y6;exact zz.o):G:=h ⟨k⟩
theorem Yp2{G H:Prop}(k:H)(h:Y0 H→G:=by
 intro zz
 have x0:w2.cell? ⟨w.heap.size,0,none⟩=some (.int .i64 x.kk):=(Td.cell (p:=⟨w.heap.size,0,none⟩) Yg Yg).trans y0
 revert x0;exact zz.o):G:=h ⟨k⟩
theorem Ys9{G:Prop}(h:G:=by
 go_wp2_with fail;go_ret;exact ⟨YTm,Jm.o⟩):G:=h
theorem Y2p{G H:Prop}(k:H)(h:Y0 H→G:=by
 intro zz
 obtain ⟨a0,a1,a2,a3,a4,a5,a6,a7,a8,a9,bu,L4⟩:=Ka.o.c12;have az:=Ka.o.lt;obtain ⟨b0,b1,b2,b3,b4,b5,b6,b7,b8,b9,vp,sr⟩:=Kb.o.c12;have bz:=Kb.o.lt
 revert a0 a1 a2 a3 a4 a5 a6 a7 a8 a9 bu L4 az b0 b1 b2 b3 b4 b5 b6 b7 b8 b9 vp sr bz;exact zz.o):G:=h ⟨k⟩
theorem Y76{G H:Prop}(k:H)(h:Y0 H→G:=by
 intro zz
 have v1:IntKind.i64.wrap (q:Int)=(q:Int):=Zt8 _ Ya;(have v2:((n:Int)).tmod 10=(m:Int):=by rw [Int.tmod_eq_emod_of_nonneg b0,e2]);have v3:IntKind.i64.wrap (48+(m:Int))=48+(m:Int):=Zt8 _ Ya;have v4:IntKind.u8.wrap (48+(m:Int))=48+(m:Int):=YR4
 revert v1 v2 v3 v4;exact zz.o):G:=h ⟨k⟩
theorem Yy6{G:Prop}(h:G:=by
 rintro (rfl|⟨_,a,ha,rfl⟩)
 · exact hB.ne_ hS.blk h1 rfl
 · have:=Z01 hS.row hB (Ne.symm h2)
   subst ha;exact this (by simp [Value.ownBlock])):G:=h
theorem Ysh{G H:Prop}(k:H)(h:Y0 H→G:=by
 intro zz
 have b1:(0:Int)≤(k:Int):=Ya;have b2:(k:Int)<(l.length:Int):=Ya
 revert b1 b2;exact zz.o):G:=h ⟨k⟩
theorem Yk4{G H:Prop}(k:H)(h:Y0 H→G:=by
 intro zz
 obtain ⟨W0,rp⟩:∃W0,W0=w.alloc (.cells Q2c 52):=⟨_,rfl⟩;have Lg:Below w.heap.size w W0:=Yp;have im:Blk W0 w.heap.size 52 Q2c:=Yw;have hz0:w.heap.size<W0.heap.size:=im.lt;rw [←rp];clear rp;have s1:=(Lg.cell (p:=⟨bm,0,none⟩) Le).trans s0
 revert W0 Lg im hz0 s1;exact zz.o):G:=h ⟨k⟩
theorem Yg2{G:Prop}(h:G:=by
 rintro e w' ⟨he,sn',A',c',h1,hF,hM⟩;have hm:=Mine.set_ g1 hF g2 g3;exact ⟨he,⟨hm.only _ _ _ Yc hb,L0,OSet.moved hl h1 hM g2 g3⟩,hm⟩):G:=h
theorem Yd5{G:Prop}(h:G:=by
 go_enter Tryz.func213,Tryz.ntmps213;go_wp2_with fail
 all_goals
  go_ret;refine ⟨?_,(Zst _ _).alloc (Zsu _) _⟩;rw [HV.o];rfl):G:=h
theorem Yc3{G H:Prop}(k:H)(h:Y0 H→G:=by
 intro zz
 have v1:(t.var.toList == [])=false:=YZb;have v2:t.var.toList.isEmpty=false:=YZb;have v3:decide (t.var.toList = [])=false:=YZb
 revert v1 v2 v3;exact zz.o):G:=h ⟨k⟩
theorem Yof{G:Prop}(h:G:=by
 exact Z1q (t:=8) (s:=9) (s2:=10) (T:=29) rfl _ _ (X.heap.size+1) Q3d _ rfl (Zsy w3 (X.heap.size+1) 0 Q3d HT.o) Tryz.underlying29 rfl Yb):G:=h
theorem Yvi{G:Prop}(h:G:=by
 exact Z1q (t:=8) (s:=9) (s2:=10) (T:=29) rfl _ _ (X.heap.size+1) Q3d _ rfl (Zsy w6 (X.heap.size+1) 0 Q3d HT.o) Tryz.underlying29 rfl Yb):G:=h
theorem Y1s{G:Prop}(h:G:=by
 exact Z1q (t:=8) (s:=9) (s2:=10) (T:=29) rfl _ _ (X.heap.size+1) Q3d _ rfl (Zsy w2 (X.heap.size+1) 0 Q3d HT.o) Tryz.underlying29 rfl Yb):G:=h
theorem Y9o{G:Prop}(h:G:=by
 unfold wpOp;simp only [ho]
 split
 · rename_i hw
   rw [if_pos hw] at h2;exact .inl h2
 · rename_i hw
   rw [if_neg hw] at h2;exact h2):G:=h
theorem Y03{G H:Prop}(k:H)(h:Y0 H→G:=by
 intro zz
 refine Z1c rfl (fun K9 hK9=>?_)
 go_simp
 revert K9 hK9;exact zz.o):G:=h ⟨k⟩
theorem Y99{G H:Prop}(k:H)(h:Y0 H→G:=by
 intro zz
 refine Yzg ?_;intro W5 wv;have Xp:=hU (show Below wr.heap.size wr W5 from YFf);have Mc:=hU (show Blk W5 wr.heap.size 77 (Q0r u C1 c1 C2 c2 C3 c3) from YOa);rw [←wv]
 revert W5 wv Xp Mc;exact zz.o):G:=h ⟨k⟩
theorem Yd8{G:Prop}(h:G:=by
 go_wp2_with fail;go_roundw
 case rel=>exact ⟨i+1,K',Yn,Ya,YJe,Ac.o.below Yf,Ya,Ya⟩
 case measure=>simp [intOf]<;>omega):G:=h
theorem Yh1{G:Prop}(h:G:=by
 subst hI
 rintro F p X Y ⟨g0,g1,g2⟩ hp;exact ⟨⟨g0.1,Zt6 g0.2.1 hp.size,g0.2.2⟩,HJ.o F p X Y g1 (hp.mono Ya),Z7s g2 hp⟩):G:=h
theorem Y5o{G:Prop}(h:G:=by
 rintro e w2 ⟨rfl,hp⟩;have Oc:=hU hp;clear x0 x1 x2 x3 x4 x5 x6 xz hp;go_wp2_with fail;go_ret;rw [Dj.o];exact And.intro rfl Oc.o):G:=h
theorem Y9z{G H:Prop}(k:H)(h:Y0 H→G:=by
 intro zz
 have s0:W.cell? ⟨kb,0,none⟩=some (.pointer (some ⟨sb,0,none⟩)):=(hK.blk.cell 0).trans rfl;have hkl:=hK.blk.lt
 revert s0 hkl;exact zz.o):G:=h ⟨k⟩
theorem Ywo{G H:Prop}(k:H)(h:Y0 H→G:=by
 intro zz
 have h9:Below w5.heap.size w5 (w5.alloc (.cells (Q0r y vx j7 lu lr Be Ot) 77)):=(Zst _ _).alloc (Zsu _) _;have Nz:Below wr.heap.size wr (w5.alloc (.cells (Q0r y vx j7 lu lr Be Ot) 77)):=Ck.alloc Ck.size _
 revert h9 Nz;exact zz.o):G:=h ⟨k⟩
theorem Y0x{G H:Prop}(k:H)(h:Y0 H→G:=by
 intro zz
 refine ⟨j,Yn,Ya,Ya,?_,Fr.drew ((Is.o).setCell (p:=⟨g,(j+1),none⟩) (.inl rfl) (_))⟩
 exact zz.o):G:=h ⟨k⟩
theorem Yuu{G:Prop}(h:G:=by
 simpa using this):G:=h
theorem Ynr{G H:Prop}(k:H)(h:Y0 H→G:=by
 intro zz
 have V7:=hU vh;have Jm:=hU U9;have Ge:=hU (HB.o.trans (U9.mono HB.o.size))
 revert V7 Jm Ge;exact zz.o):G:=h ⟨k⟩
theorem Yij{G:Prop}(h:G:=by
 gi_wp2;go_roundw
 case rel=>exact ⟨pre ++ [x],post,YMt,YXq,M9.o,kl.o.rd HR.o⟩
 case measure=>simp [intOf]<;>omega):G:=h
theorem Yv3{G H:Prop}(k:H)(h:Y0 H→G:=by
 intro zz
 have Kp:=hU (Kp.o.fr zp Op.o);have Kr:=hU (Kr.o.fr zp Or.o);have qo:=hU (qo.o.fr zp uq.o)
 revert Kp Kr qo;exact zz.o):G:=h ⟨k⟩
theorem Ye1{G:Prop}(h:G:=by
 rw [e1];clear Vx e1;gi_wp2;go_end0;exact ⟨⟨_,rfl⟩,.inl YVs⟩):G:=h
theorem Ybq{G H:Prop}(k:H)(h:Y0 H→G:=by
 intro zz
 have HY:=hU hy;have U9:b<wr.heap.size:=Zt5 wr _ r0
 revert HY U9;exact zz.o):G:=h ⟨k⟩
theorem Yt6{G:Prop}(h:G:=by
 refine Yf0 ?_;clear hKK KK;go_wp2_with fail;go_ret;exact ⟨by rw [Dh.o];rfl,HB.o.drew⟩):G:=h
theorem Yfj{G H:Prop}(k:H)(h:Y0 H→G:=by
 intro zz
 have jq :∀j,C j∨E j→j<w.heap.size:=fun j hj=>hj.elim (fun hj=>(h5 j hj).1.elim (fun h=>Zsw (hd j h) hb) (fun h=>Ya)) (fun hj=>(hE j hj).1.elim (fun h=>Zsw (hd j h) hb) (fun h=>h.2.2))
 revert jq;exact zz.o):G:=h ⟨k⟩
theorem Y0b{G H:Prop}(k:H)(h:Y0 H→G:=by
 intro zz
 refine ⟨m+1,Yn,Ya,?_,HF.o.into (Fr.of_new (M:=fun _=>False) (X5.o.trans ((Zst _ _).alloc (Zsu _) (.cells (Q0h y) 52) |>.mono X5.o.size))) (fun _ h=>h.elim)⟩
 exact zz.o):G:=h ⟨k⟩
theorem Ycn{G:Prop}(h:G:=by
 go_wp2_with fail;go_ret;exact ⟨rfl,(Zst _ _).alloc (Zsu _) _⟩):G:=h
theorem Yud{G:Prop}(h:G:=by
 rintro e W3 ⟨⟨v,rfl⟩,h⟩;rw [List.drop_zero] at h;have H:=hU h;clear h;gi_wp2;go_end0;exact ⟨⟨_,rfl⟩,H.o⟩):G:=h
theorem Y46{G H:Prop}(k:H)(h:Y0 H→G:=by
 intro zz
 have Kk:=hU (Kk.o.new_ Un.o);have Kr:=hU (Kr.o.new_ Un.o);have Nk:=hU HB.o;have HB:=hU (HB.o.trans (Un.o.mono HB.o.size))
 revert Kk Kr Nk HB;exact zz.o):G:=h ⟨k⟩
theorem Y43{G H:Prop}(k:H)(h:Y0 H→G:=by
 intro zz
 refine Ysm ?_;intro K9 hK9;refine hK9 _ _ (((Zst _ _).drew)) ?_;clear hK9 K9
 exact zz.o):G:=h ⟨k⟩
theorem Y1a{G H:Prop}(k:H)(h:Y0 H→G:=by
 intro zz
 have t0:Z1t a.id=true:=YIm;have t1:Z4z a.attr=true:=YK8;have t2:Z5k a.value=true:=YVa;have t3:decide (a.pref<1)=false:=Yk
 revert t0 t1 t2 t3;exact zz.o):G:=h ⟨k⟩
theorem Yqv{G:Prop}(h:G:=by
 go_wp2_with fail;go_ret2;exact ⟨YE7,Un.o⟩):G:=h
theorem Ym2{G H:Prop}(k:H)(h:Y0 H→G:=by
 intro zz
 have Nk:Below W0.heap.size W0 w1:=HB.o.drew.trans (Pk.mono Sq)
 revert Nk;exact zz.o):G:=h ⟨k⟩
theorem Yh2{G:Prop}(h:G:=by
 go_wp2_with fail;go_roundw
 case rel=>exact ⟨k+1,Yn,Ya,HE.o,L6.o⟩
 case measure=>simp [intOf]<;>omega):G:=h
theorem Ykn{G H:Prop}(k:H)(h:Y0 H→G:=by
 intro zz
 have keep :∀{X Y:World}{k:Nat}{o:Obj},Priv W1.heap.size X Y→X.heap[k]? = some o→k<W1.heap.size→Y.heap[k]? = some o:=fun hp hk sd=>
  (hp.block _ (Zt7.1 hk).1 (.inl sd)).trans hk
 revert keep;exact zz.o):G:=h ⟨k⟩
theorem Yi8{G H:Prop}(k:H)(h:Y0 H→G:=by
 intro zz
 refine ⟨trivial,rfl,?_⟩
 exact zz.o):G:=h ⟨k⟩
theorem Y32{G:Prop}(h:G:=by
 go_wp2_with fail;go_roundw
 case rel=>exact ⟨i+1,Yn,Ya,HB.o⟩
 case measure=>simp [intOf]<;>omega):G:=h
theorem Y7g{G H:Prop}(k:H)(h:Y0 H→G:=by
 intro zz
 have x6:w5.cell? ⟨wr.heap.size,6,none⟩=some (.slice A3 y.conds.length c3):=(Gc.cell 6).trans rfl
 revert x6;exact zz.o):G:=h ⟨k⟩
theorem Y7y{G H:Prop}(k:H)(h:Y0 H→G:=by
 intro zz
 have k4:=((KM.o.new_ hB).cell 4).trans rfl;have k5:=((KM.o.new_ hB).cell 5).trans rfl;have kz:=(KM.o.new_ hB).lt
 revert k4 k5 kz;exact zz.o):G:=h ⟨k⟩
theorem Ykq{G:Prop}(h:G:=by
 go_wp2_with fail;go_ret;exact ⟨YTm,rfl⟩):G:=h
theorem Yme{G H:Prop}(k:H)(h:Y0 H→G:=by
 intro zz
 refine (Zd8 A4 c4 r.news _ (R4.o.new_ (Nk.o.trans ((qc.o).mono YFx))) Ya).mono ?_
 exact zz.o):G:=h ⟨k⟩
theorem Ye5{G:Prop}(h:G:=by
 have Oc:=hU hp;clear x0 x1 x2 x3 x4 x5 x6 xz hh hp;go_wp2_with fail;go_ret;rw [HE.o];exact And.intro rfl Oc.o):G:=h
theorem Yt5{G:Prop}(h:G:=by
 simp at this;omega):G:=h
theorem Yuw{G H:Prop}(k:H)(h:Y0 H→G:=by
 intro zz
 have H1:=hU h1;have H2:=hU h2;have H3:=hU h3;have H4:=hU h4
 revert H1 H2 H3 H4;exact zz.o):G:=h ⟨k⟩
theorem Yoq{G H:Prop}(k:H)(h:Y0 H→G:=by
 intro zz
 have Lg:Below w.heap.size w W0:=YQx;have mj:W0.cell? ⟨w.heap.size,0,none⟩=some (.int .i64 x.kk):=Yv
 revert Lg mj;exact zz.o):G:=h ⟨k⟩
theorem Yzk{G:Prop}(h:G:=by
 simp only [List.filter_cons,h,h2,not_false_eq_true,decide_true,if_true,List.map_cons,List.sum_cons]
 omega):G:=h
theorem Yex{G:Prop}(h:G:=by
 go_wp2_with fail;go_ret;exact ⟨by rw [HR.o];rfl,rfl⟩):G:=h
theorem Yb9{G:Prop}(h:G:=by
 rintro e w' ⟨he,sn',A',c',h1,hF,hM⟩;exact ⟨he,OSet.moved hl h1 hM g2 g3,Mine.set_ g1 hF g2 g3⟩):G:=h
theorem Yes{G H:Prop}(k:H)(h:Y0 H→G:=by
 intro zz
 rintro e w1 ⟨rfl,Pk⟩;have M2:=hU (fm.o.new_ Pk);have hsz1:w.heap.size≤w1.heap.size:=YCz;have Nk:=hU Pk;clear Pk
 revert w1 M2 hsz1 Nk;exact zz.o):G:=h ⟨k⟩
theorem Ya9{G:Prop}(h:G:=by
 go_wp2
 all_goals (go_ret;refine ⟨?_,rfl⟩;unfold Z1b;(repeat' split)<;>first|rfl|(exfalso;omega))):G:=h
theorem Yf4{G H:Prop}(k:H)(h:Y0 H→G:=by
 intro zz
 have Gd:=HS.o.new_ ((Zst w.heap.size w).alloc (Zsu _) (.cells #[.int .i64 x.kk,.bool x.v] 86));have fm:=hU Gd;clear Gd;refine (Z7v b c sn A l x _ fm.o HO.o Ya).mono ?_
 revert fm;exact zz.o):G:=h ⟨k⟩
theorem Yzl{G H:Prop}(k:H)(h:Y0 H→G:=by
 intro zz
 refine ⟨m+1,j,Yn,rfl,Ya,hj,fun k h1 h2=>?_,xq.o,Nk⟩;have e:=HC.o
 revert k h1 h2 e;exact zz.o):G:=h ⟨k⟩
theorem Yu1{G H:Prop}(k:H)(h:Y0 H→G:=by
 intro zz
 have t1:decide ((n:Int)<10)=true:=Yk;have b0:(0:Int)≤(n:Int):=Ya;have b1:(n:Int)≤9:=Ya;have hc:=Zo8 n h (w.alloc (.cells #[.int .u8 (48+(n:Int))] 5)) w.heap.size ((Blk.new _ _ _).cell 0)
 revert t1 b0 b1 hc;exact zz.o):G:=h ⟨k⟩
theorem Y9x{G H:Prop}(k:H)(h:Y0 H→G:=by
 intro zz
 obtain ⟨y,hy⟩:∃y,y=l[m]:=⟨_,rfl⟩
 revert y hy;exact zz.o):G:=h ⟨k⟩
theorem Yhu{G:Prop}(h:G:=by
 rw [fq.o];exact ⟨⟨⟨⟨#[]⟩,⟨⟨#[]⟩,symZ⟩,⟨0,Z98,Z98⟩,0,Z98⟩,rfl⟩,_,jf⟩):G:=h
theorem Ykc{G:Prop}(h:G:=by
 (have e9:(Z0k l x (j+1)).set (j+1) y=Z0k l x j:=by rw [HY.o,Z2o l x hj]);rw [e9] at Ss;exact Ss):G:=h
theorem Yb4{G:Prop}(h:G:=by
 rintro e w1 ⟨rfl,Pk⟩;go_wp2_with fail;go_ret2;exact ⟨rfl,(Zst _ _).trans (Pk.mono Ye)⟩):G:=h
theorem Yl0{G H:Prop}(k:H)(h:Y0 H→G:=by
 intro zz
 refine ⟨i,m,rfl,rfl,Ya,Ya,sy.o,fun k h1 h2=>?_,Nk⟩;have e:=HC.o
 revert k h1 h2 e;exact zz.o):G:=h ⟨k⟩
theorem Ynf{G:Prop}(h:G:=by
 subst Mf
 rintro F c p X Y ⟨g0,g1,g2⟩ hp;exact ⟨g0,g1,Gv.o F p X Y g2 (hp.mono Ya)⟩):G:=h
theorem Yjs{G:Prop}(h:G:=by
 exact HS.o.new_ (X5.o.trans ((Zst _ _).alloc (Zsu _) (.cells (Q0h y) 52) |>.mono X5.o.size))):G:=h
theorem Yio{G:Prop}(h:G:=by
 go_wp2_with fail;go_ret;exact ⟨false,rfl,HB.o⟩):G:=h
theorem Y10{G:Prop}(h:G:=by
 exact h.apart k m k' m' hk hk' hkk hsk a a' ha ha'):G:=h
theorem Yvc{G H:Prop}(k:H)(h:Y0 H→G:=by
 intro zz
 have HA:=hU ((Zst w.heap.size w).alloc (Zsu _) (.cells (Q1d s) 41))
 revert HA;exact zz.o):G:=h ⟨k⟩
theorem Y7e{G H:Prop}(k:H)(h:Y0 H→G:=by
 intro zz
 refine (KSt.has_ y.var (Ac.o.below Yf) Ya).mono ?_;rintro e w5 ⟨rfl,ww⟩;rw [hh];have na:=Below.trans (show Below wr.heap.size wr _ from Yf) (ww.mono Ye);have Bw:=hU (Ac.o.below na)
 revert w5 ww na Bw;exact zz.o):G:=h ⟨k⟩
theorem Y9i{G:Prop}(h:G:=by
 clear hB hr s1 k0 k1 k2;go_wp2_with fail;go_ret2;exact ⟨rfl,jv.o.trans (HB.o.mono Ya)⟩):G:=h
theorem Y89{G:Prop}(h:G:=by
 rw [←Wo,Fv];exact run_enterLoop_outer _ _ _ _ _):G:=h
theorem Yaf{G H:Prop}(k:H)(h:Y0 H→G:=by
 intro zz
 have e1:below cmp (a :: r) x=a :: below cmp r x:=by simp [below,h1]
 (have e2:Z4y cmp (a :: r) x=Z4y cmp r x:=by unfold Z4y;rw [List.filter_cons,if_neg Yk])
 revert e1 e2;exact zz.o):G:=h ⟨k⟩
theorem Y7b{G:Prop}(h:G:=by
 go_wp2_with fail;go_ret;exact ⟨true,rfl,gi.o.trans (yq.o.mono gi.o.size),fun h=>YZt⟩):G:=h
theorem Ywe{G:Prop}(h:G:=by
 go_wp2_with fail;go_ret;exact ⟨true,rfl,gi.o.trans (qu.o.mono gi.o.size),fun h=>YZt⟩):G:=h
theorem Y7m{G:Prop}(h:G:=by
 clear hh;go_wp2_with fail;go_ret;rw [HA.o];exact ⟨rfl,(Bw.o).unprot Xs.o mn.o,Yg,Yg⟩):G:=h
theorem Ylx{G:Prop}(h:G:=by
 clear hKK KK;go_wp2_with fail;go_meet
 case rel=>exact ⟨rfl,HB.o,g,rfl,HG.o,HR.o⟩):G:=h
theorem Ymc{G H:Prop}(k:H)(h:Y0 H→G:=by
 intro zz
 rintro e w3 ⟨E3,d3,rfl,ho,hA,hb⟩;have El:=hU (Z02 El.o hb);have ru:=hU (ru.o.mono (fun j hj=>NewD.up (Zsu _) (hb).size j hj))
 revert w3 E3 d3 ho hA hb El ru;exact zz.o):G:=h ⟨k⟩
theorem Ym6{G H:Prop}(k:H)(h:Y0 H→G:=by
 intro zz
 refine yw.mono ?_;rintro e w9 ⟨rfl,Ct⟩;have rt:=hU (Vt.o.trans ((gi.o.trans ((ms.o.trans ((ld.o.trans (Ct.mono ld.o.size)).mono ms.o.size)).mono gi.o.size)).mono Dy))
 revert w9 Ct rt;exact zz.o):G:=h ⟨k⟩
theorem Ycc{G H:Prop}(k:H)(h:Y0 H→G:=by
 intro zz
 obtain ⟨x,hx⟩:∃x,x=xs[i]:=⟨_,rfl⟩
 revert x hx;exact zz.o):G:=h ⟨k⟩
theorem Y5s{G H:Prop}(k:H)(h:Y0 H→G:=by
 intro zz
 have e1:(0:Int)≤(k:Int):=Ya;have e2:(k:Int)<(x.conds.length:Int):=Ya
 revert e1 e2;exact zz.o):G:=h ⟨k⟩
theorem Ynt{G:Prop}(h:G:=by
 exact wpOp_mono (fun a' w' h'=>⟨hb _ Cn _ _ h'.1,ihr m _ a' w' Oz hr h'.2⟩) hR.1):G:=h
theorem Yr0{G H:Prop}(k:H)(h:Y0 H→G:=by
 intro zz
 have Ka:=hU (Ka.o.new_ Xe);have Kb:=hU (Kb.o.new_ Xe);have HB:=hU (HB.o.trans (Xe.mono HB.o.size))
 revert Ka Kb HB;exact zz.o):G:=h ⟨k⟩
theorem Yn6{G H:Prop}(k:H)(h:Y0 H→G:=by
 intro zz
 have Vf:=hU (HS.o.new_ Lg);have Rq:=hU (HM.o.new_ Lg);have jt:=hU im;have jv:=hU Lg;have hml0:bm<W0.heap.size:=Ya
 revert Vf Rq jt jv hml0;exact zz.o):G:=h ⟨k⟩
theorem Yt3{G:Prop}(h:G:=by
 clear hq hz;go_wp2_with fail;go_meet
 case rel=>exact ⟨by rw [M5],rfl⟩):G:=h
theorem Y45{G H:Prop}(k:H)(h:Y0 H→G:=by
 intro zz
 refine ⟨?_,jv.o.trans (Nk.mono Ya)⟩
 exact zz.o):G:=h ⟨k⟩
theorem Y87{G H:Prop}(k:H)(h:Y0 H→G:=by
 intro zz
 have s0:=F7.cell0;have f0:=F7.blk.frozen 0;have hb2:b<w2.heap.size:=Ya;have fk:=hU F7;have qq:=hU Td;have Vy:=hU Uz
 revert s0 f0 hb2 fk qq Vy;exact zz.o):G:=h ⟨k⟩
theorem Yay{G H:Prop}(k:H)(h:Y0 H→G:=by
 intro zz
 obtain ⟨y,hy⟩:∃y,y=l[j]:=⟨_,rfl⟩
 revert y hy;exact zz.o):G:=h ⟨k⟩
theorem Yzt{G H:Prop}(k:H)(h:Y0 H→G:=by
 intro zz
 obtain ⟨W2,xc⟩:∃W2,W2=w2.setCell ⟨w.heap.size,3,none⟩ (.slice B1 x.attr.length d1):=⟨_,rfl⟩;have f8:=Ld.o.new_ Rt
 have u3:=(f8.cell 3).trans rfl;have g3:=f8.frozen 3
 revert W2 xc f8 u3 g3;exact zz.o):G:=h ⟨k⟩
theorem Y5l{G H:Prop}(k:H)(h:Y0 H→G:=by
 intro zz
 obtain ⟨W3,jb⟩:∃W3,W3=w3.setCell ⟨w.heap.size,4,none⟩ (.slice B2 x.value.length d2):=⟨_,rfl⟩;have Lb:=T0.o.new_ Kh;have u4:=(Lb.cell 4).trans rfl;have g4:=Lb.frozen 4
 revert W3 jb Lb u4 g4;exact zz.o):G:=h ⟨k⟩
theorem Ydv{G:Prop}(h:G:=by
 rw [Pr.cell]
 exact ⟨by rw [Array.getElem?_eq_getElem Ya];rfl,Pr.frozen _⟩):G:=h
theorem Yp7{G H:Prop}(k:H)(h:Y0 H→G:=by
 intro zz
 refine (xw.o _).mono ?_;rintro e V3 ⟨rfl,hb⟩;have Ri:Below w1.heap.size w1 V3:=(lg).trans (hb.mono (lg).size);have hc:=HC.o V3 _ (KAH.o.new_ hb).c1;clear hb
 revert V3 Ri hc;exact zz.o):G:=h ⟨k⟩
theorem Y3t{G H:Prop}(k:H)(h:Y0 H→G:=by
 intro zz
 have qp:=HJ.o F pre _ X2 Xz (hp2.mono Ya);have Ie:=Z7s Ep hp2;have pi:=uo.priv hp2;have x0:X2.cell? ⟨X.heap.size,0,none⟩=some (.int .i64 x.kk):=(pi.cell 0).trans rfl
 revert qp Ie pi x0;exact zz.o):G:=h ⟨k⟩
theorem Y77{G:Prop}(h:G:=by
 have:=hr (j+1) v (by simpa using hv);rwa [show 0+(j+1)=1+j from Ya] at this):G:=h
theorem Yf1{G H:Prop}(k:H)(h:Y0 H→G:=by
 intro zz
 have HR:=hU (show Z2j t=false from YK7)
 revert HR;exact zz.o):G:=h ⟨k⟩
theorem Ycw{G H:Prop}(k:H)(h:Y0 H→G:=by
 intro zz
 have Bf:OwnC r e (fun j=>C j∨E j) w (.slice A l.length c) l:=h3.keep (Zsu _) (fun k hk _=>⟨.inl hk,rfl⟩) (fun k hv=>⟨rfl,dv k hv⟩)
 revert Bf;exact zz.o):G:=h ⟨k⟩
theorem Y7w{G H:Prop}(k:H)(h:Y0 H→G:=by
 intro zz
 obtain ⟨x0,x1,x2,x3,x4,x5,x6⟩:=(K3.o.new_ HB.o).c7;have xz:=(K3.o.new_ HB.o).lt
 revert x0 x1 x2 x3 x4 x5 x6 xz;exact zz.o):G:=h ⟨k⟩
theorem Y8l{G:Prop}(h:G:=by
 clear hp Ag Vb;go_wp2_with fail;go_ret;rw [HE.o];exact And.intro rfl HR.o):G:=h
theorem Yc5{G H:Prop}(k:H)(h:Y0 H→G:=by
 intro zz
 have HS:=hU hS;have HO:=hU hs;have hb:=hS.lt
 revert HS HO hb;exact zz.o):G:=h ⟨k⟩
theorem Ys5{G H:Prop}(k:H)(h:Y0 H→G:=by
 intro zz
 have G1:=hU g1;have G2:=hU g2;have G3:=hU g3
 revert G1 G2 G3;exact zz.o):G:=h ⟨k⟩
theorem Yd2{G H:Prop}(k:H)(h:Y0 H→G:=by
 intro zz
 refine F9.o.mono ?_;rintro e w9 ⟨rfl,rfl⟩
 exact zz.o):G:=h ⟨k⟩
theorem Ye0{G H:Prop}(k:H)(h:Y0 H→G:=by
 intro zz
 obtain ⟨W9,Gh⟩:∃W9,W9=wr.alloc (.cells (Q0h e0) 52):=⟨_,rfl⟩;have Ct:Below wr.heap.size wr W9:=YLf;have uo:Blk W9 wr.heap.size 52 (Q0h e0):=YC8;rw [←Gh]
 revert W9 Gh Ct uo;exact zz.o):G:=h ⟨k⟩
theorem Yhi{G H:Prop}(k:H)(h:Y0 H→G:=by
 intro zz
 have mt:=hU ho;have zx:=hU (hA.mono (fun j hj=>(⟨Zt6 (qe.o).size hj.1,hj.2⟩:NewD W1.heap.size w3 j)));have qc:=hU ((qe.o).trans (hb.mono (qe.o).size))
 revert mt zx qc;exact zz.o):G:=h ⟨k⟩
theorem Ydn{G H:Prop}(k:H)(h:Y0 H→G:=by
 intro zz
 have h2:x∈done ++ [k]:=by simp [h]
 simp only [List.filter_cons,h,h2,not_true_eq_false,decide_false,Bool.false_eq_true,if_false]
 revert h2;exact zz.o):G:=h ⟨k⟩
theorem Ybt{G H:Prop}(k:H)(h:Y0 H→G:=by
 intro zz
 (repeat ((first|(refine Z05 ?_ (Or.inl ⟨Yd,fun w9=>?_⟩) ?_;rotate_left 1;go_simp;with_reducible rfl)|(refine Z04 ?_ (((Zst _ _).drew).alloc (Zsu _) _) (Or.inl ⟨Yd,fun w9 hw9=>?_⟩) ?_;rotate_left 1;obtain ⟨Do,rr⟩:=Z0i hw9;go_simp;with_reducible rfl)|refine Z05 undef (Or.inr ⟨Yd,rfl⟩) ?_|refine Z04 undef (((Zst _ _).drew).alloc (Zsu _) _) (Or.inr ⟨Yd,rfl⟩) ?_);go_frame))
 exact zz.o):G:=h ⟨k⟩
theorem Yf0{G H:Prop}(k:H)(h:Y0 H→G:=by
 intro zz
 refine Z0m ?_;simp only [Z00];refine hKK _ _ ?_
 exact zz.o):G:=h ⟨k⟩
theorem Yc0{G:Prop}(h:G:=by
 rintro e w1 ⟨rfl,Nf,A2,c2,F7,Td,Uz⟩
 have Ky:Below w.heap.size w w1:=(HB.o).trans (Td.below YI3 (fun k hk hm=>by
  rcases hm with hm|⟨_,a,ha,hm⟩
  · omega
  · have:=HA.o a ha;omega))
 have jw:AIn A2 (w.heap.size≤·):=by
  exact Yxb
 have fk:=hU F7;have Nk:=hU Ky;have Ns:=hU jw;clear F7 Ky jw Td Uz Nl Vx q0;exact Yqt):G:=h
theorem Ybp{G H:Prop}(k:H)(h:Y0 H→G:=by
 intro zz
 refine Y9j ?_;refine Yyj ?_
 exact zz.o):G:=h ⟨k⟩
theorem Yba{G H:Prop}(k:H)(h:Y0 H→G:=by
 intro zz
 obtain ⟨W1,Wo⟩:∃W1,W1=w.alloc (.cells (Q0n t A c) 196):=⟨_,rfl⟩;rw [←Wo];have D8:Blk W1 w.heap.size 196 (Q0n t A c):=YBf;refine Ywp ?_;intro HB;have e0:W1.cell? ⟨w.heap.size,0,none⟩=some (.int .i64 t.rel):=(D8.cell 0).trans rfl;have e1:W1.cell? ⟨w.heap.size,1,none⟩=some (.string t.var):=(D8.cell 1).trans rfl;have e2:W1.cell? ⟨w.heap.size,2,none⟩=some (.int .i64 t.sym.kind):=(D8.cell 2).trans rfl;have e3:W1.cell? ⟨w.heap.size,3,none⟩=some (.string t.sym.text):=(D8.cell 3).trans rfl;have e4:W1.cell? ⟨w.heap.size,4,none⟩=some (.int .i64 t.sym.n):=(D8.cell 4).trans rfl;have e5:W1.cell? ⟨w.heap.size,5,none⟩=some (.slice A t.list.length c):=(D8.cell 5).trans rfl;have P2:=D8.lt;clear Wo D8
 revert W1 HB e0 e1 e2 e3 e4 e5 P2;exact zz.o):G:=h ⟨k⟩
theorem Ywn{G H:Prop}(k:H)(h:Y0 H→G:=by
 intro zz
 have aa:decide ((0:Int)<(x.conds.length:Int))=false:=Zsx Ya;have ab:decide (0<x.conds.length)=false:=Zsx Ya
 revert aa ab;exact zz.o):G:=h ⟨k⟩
theorem Yhm{G H:Prop}(k:H)(h:Y0 H→G:=by
 intro zz
 (try go_frame);(repeat (refine Z1r ?_ (Or.inl ⟨Yd,fun w9=>?_⟩) ?_;rotate_left 1;go_simp;with_reducible rfl;go_frame));refine Z0p ?_;simp only [Z00];refine hKK _ _ ?_
 exact zz.o):G:=h ⟨k⟩
theorem Y86{G:Prop}(h:G:=by
 have HT:=hU (show w2.there (X.heap.size+1) 0 (Q2p:Array Value).size from Oc.o.pb.r.there);have n8:=hU Oc.o.pb.bel;(go_wp2_with (with_reducible refine wpList_store_mid rfl 29 _ _ rfl (X.heap.size+1) 0 Q2p rfl rfl HT.o Yb Yb ?_));refine Ykv ?_;refine Ybx ?_;exact Y1s):G:=h
theorem Y72{G:Prop}(h:G:=by
 rcases A1 with _|a1
 · cases hk
 · simp only [Value.ownBlock,Option.some.injEq] at hk
   subst hk;rcases Vy.o with ⟨hsn,hA⟩|⟨_,g',hg',hA⟩
   · left;right;exact ⟨hsn.symm,a1,hA.symm,rfl⟩
   · injection hA with hA
     subst hA;right;dsimp only;omega):G:=h
theorem Yww{G:Prop}(h:G:=by
 have HT:=hU (show w3.there (X.heap.size+1) 0 (Q2p:Array Value).size from Bz.o.r.there);have n8:=hU Bz.o.bel;(go_wp2_with (with_reducible refine wpList_store_mid rfl 29 _ _ rfl (X.heap.size+1) 0 Q2p rfl rfl HT.o Yb Yb ?_));refine Ykv ?_;refine Ybx ?_;exact Yof):G:=h
theorem Y8g{G:Prop}(h:G:=by
 have HT:=hU (show w6.there (X.heap.size+1) 0 (Q2p:Array Value).size from Bz.o.r.there);have n8:=hU Bz.o.bel;(go_wp2_with (with_reducible refine wpList_store_mid rfl 29 _ _ rfl (X.heap.size+1) 0 Q2p rfl rfl HT.o Yb Yb ?_));refine Ykv ?_;refine Ybx ?_;exact Yvi):G:=h
theorem Yyi{G:Prop}(h:G:=by
 replace HV:=hU (show v=decide (c7<0) from HV.o);go_wp2_with fail;refine (Su.o _).mono ?_;rintro e w0 ⟨rfl,rfl⟩;exact Yxv):G:=h
theorem Ypt{G H:Prop}(k:H)(h:Y0 H→G:=by
 intro zz
 simp only [wpPl,Z08,Zt2,Zsv,Zt1,Zt0,Zsz,Zt4]
 exact zz.o):G:=h ⟨k⟩
theorem Ysm{G H:Prop}(k:H)(h:Y0 H→G:=by
 intro zz
 refine Z1h (fun K9 hK9=>?_);go_simp
 revert K9 hK9;exact zz.o):G:=h ⟨k⟩
theorem Yoi{G H:Prop}(k:H)(h:Y0 H→G:=by
 intro zz
 obtain ⟨k0,k1,k2⟩:=Kk.o.c3;have kz:=Kk.o.lt;obtain ⟨r0,r1,r2,r3⟩:=Kr.o.c4;have rz:=Kr.o.lt
 revert k0 k1 k2 kz r0 r1 r2 r3 rz;exact zz.o):G:=h ⟨k⟩
theorem Ypu{G:Prop}(h:G:=by
 refine hK9 _ _ (Ri) ?_;clear hK9 K9;(try go_frame);refine Ydr ?_;refine Y1g ?_;exact Yu0):G:=h
theorem Yca{G:Prop}(h:G:=by
 rcases hj with hj|hj
 · have:=(H2.o j hj).2;have:=Nz.size;omega
 · exact hj.2):G:=h
theorem Y8n{G H:Prop}(k:H)(h:Y0 H→G:=by
 intro zz
 refine hK9 _ _ ?_
 exact zz.o):G:=h ⟨k⟩
theorem Y7o{G:Prop}(h:G:=by
 have hr:=Zsy w g 0 vs YQr;obtain ⟨cs',h1,h2⟩:=Blk.setCells_ vs 0 h
 exact Yo4):G:=h
theorem Ytz{G:Prop}(h:G:=by
 intro h;exact uw Ys):G:=h
theorem Yis{G H:Prop}(k:H)(h:Y0 H→G:=by
 intro zz
 refine (HP.o _ HA.o).mono ?_;rintro e w2 ⟨rfl,hb⟩;have HB:=hU (HA.o.trans (hb.mono Ye))
 revert w2 hb HB;exact zz.o):G:=h ⟨k⟩
theorem Yey{G H:Prop}(k:H)(h:Y0 H→G:=by
 intro zz
 have k3:(x.kind == 3)=true:=Yl;have wh:decide (x.kind=3)=true:=Yl;have g1:x.goal=false:=YBy;have j4:x.id.toList = []:=Ztz hv;have v1:(x.id.toList == [])=true:=YS7;have v2:x.id.toList.isEmpty=true:=YS7;have v3:decide (x.id.toList = [])=true:=YS7
 revert k3 wh g1 j4 v1 v2 v3;exact zz.o):G:=h ⟨k⟩
theorem Yml{G H:Prop}(k:H)(h:Y0 H→G:=by
 intro zz
 (try go_frame);refine Z1n (fun K9 hK9=>?_);go_simp;refine Yme ?_;rintro e w4 ⟨E4,d4,rfl,ho,hA,hb⟩;refine Y5b ?_;intro El ru mt zx;have HK:=hU (HK.o.new_ hb);refine Yal ?_;intro zu xh Xi;clear ho hA hb;refine hK9 _ _ (Xi.o) ?_;clear hK9 K9
 (try go_frame);refine Yiy ?_
 revert w4 E4 d4 El ru mt zx HK zu xh Xi;exact zz.o):G:=h ⟨k⟩
theorem Yil{G:Prop}(h:G:=by
 go_wp2_with fail;go_ret;exact ⟨rfl,Dp.o⟩):G:=h
theorem Yt9{G H:Prop}(k:H)(h:Y0 H→G:=by
 intro zz
 rw [←Fg];have HB:=hU (show Below w.heap.size w w1 from Yh)
 revert HB;exact zz.o):G:=h ⟨k⟩
theorem Y6d{G H:Prop}(k:H)(h:Y0 H→G:=by
 intro zz
 have b1:(0:Int)≤(m:Int):=Ya;have b2:(m:Int)<(l.length:Int):=Ya
 revert b1 b2;exact zz.o):G:=h ⟨k⟩
theorem Y7i{G:Prop}(h:G:=by
 rw [HY.o,Z2w hlt] at F8;go_roundw
 case rel=>exact ⟨k+1,Yn,Ya,F8⟩
 case measure=>simp [intOf];omega):G:=h
theorem Yhf{G:Prop}(h:G:=by
 simp only [Value.ownBlock,Option.some.injEq] at h
 omega):G:=h
theorem Y22{G H:Prop}(k:H)(h:Y0 H→G:=by
 intro zz
 have r1:(t.rel == 8)=false:=YNm;have r2:decide (t.rel=8)=false:=YNm;have r3:decide (t.rel<1)=false:=Zsx Ya
 revert r1 r2 r3;exact zz.o):G:=h ⟨k⟩
theorem Y3c{G H:Prop}(k:H)(h:Y0 H→G:=by
 intro zz
 refine Y8p ?_;intro aa ab w1 dz dy fa fb;refine Ytd ?_;intro ga gb;(have t1:x.attr.all Z2j=true:=by simpa using hf)
 revert aa ab w1 dz dy fa fb ga gb t1;exact zz.o):G:=h ⟨k⟩
theorem Yhc{G:Prop}(h:G:=by
 clear hKK KK;go_wp2_with fail;go_ret;exact ⟨YCo,((Zst _ _).drew.alloc Ye _).trans (Pk.mono Ye)⟩):G:=h
theorem Yll{G H:Prop}(k:H)(h:Y0 H→G:=by
 intro zz
 refine Z1m Yb (fun K9 hK9=>?_);go_simp
 revert K9 hK9;exact zz.o):G:=h ⟨k⟩
theorem Yit{G H:Prop}(k:H)(h:Y0 H→G:=by
 intro zz
 refine Ex.o.mono ?_;rintro e qn ⟨rfl,hp⟩;obtain ⟨D3,Ag,dv,zp⟩:=br.o.put hp;refine Yv3 ?_;intro Kp Kr qo;have jd:=hU (jd.o.fr zp ry.o);refine Yga ?_;intro B7 F0 Op Or;have uq:=hU (dv _ I4.o uq.o);have ry:=hU (dv _ zo.o ry.o);have cg:=hU Ag;clear hp Ag dv zp
 revert qn D3 Kp Kr qo jd B7 F0 Op Or uq ry cg;exact zz.o):G:=h ⟨k⟩
theorem Yj7{G H:Prop}(k:H)(h:Y0 H→G:=by
 intro zz
 have x0:=(Is.o.cell (p:=⟨w.heap.size,0,none⟩) Ku (fun h=>Lu h.symm)).trans z0;have x1:=(Is.o.cell (p:=⟨w.heap.size,1,none⟩) Ku (fun h=>Lu h.symm)).trans z1
 revert x0 x1;exact zz.o):G:=h ⟨k⟩
theorem Yhg{G H:Prop}(k:H)(h:Y0 H→G:=by
 intro zz
 refine ⟨Ye,.inl ⟨_,_,rfl,run_takeDeferred HK.o,?_⟩⟩;have lj:Priv W.heap.size X (X.putObj D (.deferred none)):=(Priv.refl _ _).putObj Ya HK.o rfl _
 revert lj;exact zz.o):G:=h ⟨k⟩
theorem Y6a{G H:Prop}(k:H)(h:Y0 H→G:=by
 intro zz
 have r2:decide (t.rel=8)=true:=YNm;refine Ybj ?_;intro v1 v2 v3;(have n1:Za4 t.sym=true:=by simpa using hn);have l1:decide ((t.list.length:Int)<1)=false:=Zsx Ya;have l2:decide (t.list.length<1)=false:=Zsx Ya
 revert r2 v1 v2 v3 n1 l1 l2;exact zz.o):G:=h ⟨k⟩
theorem Yyw{G:Prop}(h:G:=by
 go_ret;exact ⟨YE7,HB.o⟩):G:=h
theorem Y3h{G:Prop}(h:G:=by
 go_enter Tryz.func189,Tryz.ntmps189;exact Ysv):G:=h
theorem Yid{G:Prop}(h:G:=by
 go_enter Tryz.func217,Tryz.ntmps217;exact Ysv):G:=h
theorem Yhd{G:Prop}(h:G:=by
 go_enter Tryz.func190,Tryz.ntmps190;exact Ysv):G:=h
theorem Yn7{G H:Prop}(k:H)(h:Y0 H→G:=by
 intro zz
 have Ku:w.heap.size<w4.heap.size:=YKk;refine Yvv ?_
 revert Ku;exact zz.o):G:=h ⟨k⟩
theorem Yzg{G H:Prop}(k:H)(h:Y0 H→G:=by
 intro zz
 obtain ⟨W5,wv⟩:∃W,W=wr.alloc (.cells (Q0r u C1 c1 C2 c2 C3 c3) 77):=⟨_,rfl⟩
 revert W5 wv;exact zz.o):G:=h ⟨k⟩
theorem Yg8{G H:Prop}(k:H)(h:Y0 H→G:=by
 intro zz
 refine Ybp ?_;refine Y0l ?_
 exact zz.o):G:=h ⟨k⟩
theorem Ywp{G H:Prop}(k:H)(h:Y0 H→G:=by
 intro zz
 have HB:=hU (show Below w.heap.size w W1 from Yo)
 revert HB;exact zz.o):G:=h ⟨k⟩
theorem Yzy{G H:Prop}(k:H)(h:Y0 H→G:=by
 intro zz
 refine Ybp ?_;refine Y1l ?_
 exact zz.o):G:=h ⟨k⟩
theorem Ygs{G H:Prop}(k:H)(h:Y0 H→G:=by
 intro zz
 refine Ybp ?_;refine Yll ?_
 exact zz.o):G:=h ⟨k⟩
end Go.Proofs.YtcnnofgaifcgaaaGreat
