/-
  Texts put together: BkWalk.
-/
import Derived.Test.YtcnnofgaifcgaaaGreatPTo
namespace Go.Proofs.YtcnnofgaifcgaaaGreat
set_option maxRecDepth 100000
set_option maxHeartbeats 32000000
set_option linter.unusedSimpArgs false
section
open Go.RowKit Go.Shelf
attribute [local go_sem] Oper.semAt_some
def Zbk (n:Nat) (G:(Nat→Prop)→List Int→World→Prop) (look:Int→Z0c×Bool) (lv:Int) (E0:Nat→Prop) (done:List Int) (w:World) (e:Ending) (w':World):Prop:=
 ∃A1 c1 A2 c2 A3 c3 A4 c4 E',e = .returned (.agg #[.slice A1 (Z4q look lv done).elems.length c1,.slice A2 (Z4q look lv done).holes.length c2,.slice A3 (Z4q look lv done).aparts.length c3,.slice A4 (Z4q look lv done).news.length c4,.int .i64 ((Z4q look lv done).visited:Nat),.int .i64 ((Z4q look lv done).lost:Nat)])∧
  RowR Z1f (· < w'.heap.size) w' A1 c1 (Z4q look lv done).elems∧RowR (Z0v n) (· < w'.heap.size) w' A2 c2 (Z4q look lv done).holes∧RowR Z3j (· < w'.heap.size) w' A3 c3 (Z4q look lv done).aparts∧RowR Z3n (· < w'.heap.size) w' A4 c4 (Z4q look lv done).news∧
  G E' done w'∧(∀k,E' k→E0 k∨w.heap.size≤k)∧Fr E0 w w'∧w'.ownsRow 0 52 14 (.slice A1 (Z4q look lv done).elems.length c1) (Z4q look lv done).elems.length ((Z4q look lv done).elems.flatMap Z0j.cells)
theorem Zg3 {α:Type}{w:World}{e size:Nat}{cells:α→List Value}(hs :∀a,(cells a).length=size){A:Option Addr}{c:Nat}{l:List α}(h:w.ownsRow 0 e size (.slice A l.length c) l.length (l.flatMap cells)):RowR (RepT.flat size cells hs) (· < w.heap.size) w A c l:=
 RowR.of_rd (Z0e hs h) (fun a ha=>Z3i h a.block (by subst ha;rfl))
theorem Zo0 {n B gf:Nat}{lb:Array Value}{look:Int→Z0c×Bool}{G:(Nat→Prop)→List Int→World→Prop}(hf:Z59 n B gf lb look G) (keys:List Int) (hkeys :∀k,(look k).2=true→k∈keys) (hsm :∀k,SmR n (look k).1) (lv:Int) (nums:List Int) (A0:Option Addr) (c0:Nat){E0:Nat→Prop}(w:World)
 (hG:G E0 [] w) (hB:B≤w.heap.size) (hrd:Z0y w 1 Int.cells1 A0 c0 nums) (hcost:cost look lv keys nums []≤100000) (hRl:(Z2v look (Z4l look lv keys nums [])).length≤500) :
 Calls Tryz.prog 19 #[.int .i64 lv,.slice A0 nums.length c0,.func (.func gf) #[] lb] w (Zbk n G look lv E0 (Z4l look lv keys nums []) w):=by
 obtain ⟨i0,tm,Nc,rm,Aj⟩:=infp Z8r;obtain ⟨ib,ym,hib0,hib1,hib2⟩:=infp Zby;obtain ⟨ia,Im,hia0,hia1,hia2⟩:=infp Zdj;obtain ⟨iy,hiy,hiy0,hiy1,hiy2⟩:=infp Z8s;obtain ⟨it,hit,hit0,hit1,hit2⟩:=infp Zdl;obtain ⟨ih,Ay,hih0,hih1,hih2⟩:=infp Zhc;(have hnl:nums.length≤100000:=by unfold cost at hcost;omega);have hcap0:=hrd.cap;have hE0:=hf.lt hG;have HF:=hU (hf.up hB);have Ww:=hU hrd;have HG:=hU hG;have Dj:=hU hE0;have HKEYS:=hU hkeys;have Lx:=hU hsm;have Ry:=hU hcost;have HRL:=hU hRl;have hent:=hf.enter;clear hf hrd hG hE0 hkeys hsm hcost hRl hB;refine (callsIn_wide (n:=0)).1 ?_;refine callsIn_of_wp_marks Tryz.func19 rfl trivial ?_;refine wpIn_wide.2 ?_;simp only [Tryz.ntmps19,Zu5,Ztg,Zu1,Nat.reduceAdd,Nat.reduceSub,Ztw,Ztx,Zu4,Zu0,Ztk,Ztv];go_upto_region 1 with fail;obtain ⟨W1,Wo⟩:∃W1,W1=(w.alloc (.cells #[.int .i64 lv] 3)).alloc (.cells Q2w 36):=⟨_,rfl⟩;have Ky:Below w.heap.size w W1:=Y6;have Ia:Blk W1 w.heap.size 3 #[.int .i64 lv]:=YLa;(have En:Blk W1 (w.heap.size+1) 36 Q2w:=by rw [Wo];have:=Blk.new (w.alloc (.cells #[.int .i64 lv] 3)) 36 Q2w;simpa using this);(have Xv:W1.heap.size=w.heap.size+2:=by rw [Wo];simp);rw [←Wo];clear Wo;have HZ1E:=hU Xv;clear Xv;have Nk:=hU Ky;have Ld:=hU Ia;have Nq:=hU En;clear Ky Ia En;go_wp2_with fail;refine (Zkj W1).mono ?_;rintro e w2 ⟨bm,bp,Nf,A2,c2,rfl,jl,iv,jw,hMb,F7,Rt⟩;have hz1':=Nk.o.size
 have hzw2:=Rt.size;have Un:=hU (Nk.o.trans (Rt.mono hz1'));have T0:=hU (Ld.o.new_ Rt);have O8:=hU (Nq.o.new_ Rt);have HMb:=hU hMb;have fk:=hU F7;have Ns:=hU jw;clear Rt hMb F7 jw;go_wp2_with fail;refine (Zp6 none 0 [] w2 (Z0y.nil _ _ _) Ye).mono ?_;rintro e w3 ⟨sb,rfl,hsb,sn3,A3,c3,hS3,yw,Kh⟩;have hzw3:=Kh.size;have Ue:=hU (Un.o.trans (Kh.mono Ya));have Xy:=hU (T0.o.new_ Kh);have ll:=hU (O8.o.new_ Kh);have Ii:=hU (HMb.o.new_ Kh);have J6:=hU (fk.o.new_ Kh);have Pj:=hU hS3;have zx:=hU yw;clear Kh hS3 yw HMb fk;(go_upto_region 4 with (at_builtin;refine Z0g w3 rfl (.const (.slice none 0 0)) (.tmp 33) 30 rfl 3 i0 _ 1 8 Tryz.underlying30 tm Nc rm Aj rfl Ya (.slice none 0 0) 0 [] rfl (Z2t w3 _ _) A0 nums.length c0 (nums.flatMap Int.cells1) rfl (Z0u Int.cells1_length _) ((Ww.o.new_ Ue.o).news Int.cells1_length Ya) (Z7o _) Yj Ya ?_;intro v4 w4 vc V6 Ca S7;rw [Zts,Ztk] at vc;obtain ⟨A4,c4,rfl,ho4,O5,Ll⟩:=Z4f vc S7 rfl V6));have hzw4:=Ll.size;obtain ⟨K0,td⟩:∃K0:Nat→Prop,K0=fun k=>k<w.heap.size+1:=⟨_,rfl⟩
 have Ss:St1 n w.heap.size look G K0 E0 [] nums sb bm bp (.slice A4 nums.length c4) w4:=by
  have Xv:=HZ1E.o;(have nk :∀k,w.heap.size+1≤k→¬K0 k:=fun k h hk=>by rw [td] at hk;omega);have hbB:Below w.heap.size w w4:=Ue.o.trans (Ll.mono Ya);refine ⟨⟨HF.o.steady (M:=fun _=>False) HG.o (Fr.of_new hbB) (fun _ h=>h.elim),fun k hk=>by rw [td];exact Nat.lt_succ_of_lt (Dj.o k hk),fun k hk=>by rw [td];exact Nat.lt_succ_of_lt hk,fun k hk=>by rw [td] at hk;omega⟩,?_,?_,?_⟩
  · exact ⟨sn3,A3,c3,Pj.o.new_ Ll,nk _ Ya,zx.o.mono (fun k hk=>nk k Ya)⟩
  · exact ⟨[],⟨Ii.o.new_ Ll,nk _ Ya,Nf,A2,c2,J6.o.new_ Ll,nk _ Ya,Ns.o.mono (fun k hk=>nk k Ya)⟩,Srt.nil,.nil⟩
  · refine ⟨QRow.of_own ho4,fun k hk=>?_⟩
    rcases A4 with _|a
    · simp [Value.ownBlock] at hk
    · simp only [Value.ownBlock,Option.some.injEq] at hk
      have:=O5 a rfl;exact ⟨by rw [←hk];exact this.2,nk _ (by rw [←hk];have:=this.1;omega)⟩
 have HST0:=hU Ss;have Ni:=hU (Ue.o.trans (Ll.mono Ya));have ya:=hU (Xy.o.new_ Ll);have pq:=hU (ll.o.new_ Ll);have HK0:=hU td;obtain ⟨FF,hFF⟩:∃FF,FF=Z4l look lv keys nums []:=⟨_,rfl⟩;rw [←hFF];have Re:=hU hFF;clear Ss vc V6 Ca S7 ho4 O5 Ll Ii J6 Pj Ns zx Ld T0 Xy Nq O8 ll td hFF;go_wp2_with fail
 go_loopg [9,10] (cost look lv keys nums []) (fun gn v lost wr=>∃(done todo:List Int) (K E:Nat→Prop),lost = .int .i64 (Z2l look done:Nat)∧St1 n w.heap.size look G K E done todo sb bm bp v wr∧Z4l look lv keys todo done=FF∧gn=cost look lv keys todo done∧done.length+gn≤100000∧
  Blk wr w.heap.size 3 #[.int .i64 lv]∧Blk wr (w.heap.size+1) 36 Q2w∧Fr E0 w wr∧(∀k,E k→E0 k∨w.heap.size+2≤k)∧K w.heap.size∧¬K (w.heap.size+1))
 case atStart=>exact ⟨[],nums,K0,E0,rfl,HST0.o,Re.o.symm,rfl,by simpa using Ry.o,ya.o,pq.o,Fr.of_new Ni.o,fun k h=>.inl h,by rw [HK0.o];exact Nat.lt_succ_self _,by rw [HK0.o];omega⟩
 case round=>
  obtain ⟨done,todo,K,E,rfl,Ss,nu,hgn,Vx,hx,ht,zp,hEs,zi,L5⟩:=hrel;obtain ⟨A,cap,rfl,C9,ug⟩:=Ss.q.1.form;have HX:=hU hx;have HT:=hU ht;have Is:=hU zp;have Mo:=hU hEs;have zv:=hU zi;have Rp:=hU L5;have Oo:=hU nu;have wt:=hU hgn;have Mr:=hU Vx;clear hx ht zp hEs zi L5 nu hgn Vx
  cases todo with
  | nil=>
    obtain ⟨w5,hw5⟩:∃w5,w5=wr:=⟨_,rfl⟩;subst hw5;have Ja:=HRL.o;(have hdf:done=FF:=by rw [←Oo.o,Zmo]);subst hdf;rw [←Re.o] at Ja;obtain ⟨mm,⟨Da,ze,snA,AA,cA,O9,hpk,hAk⟩,hsm',Wi⟩:=Ss.m;have Le:=Wi.length;have HP:=hU Ss.p;have HEA:=hU Wi;have ft:=hU O9;have HMB:=hU Da;have i8:=O9.row_lt;have ax:=hU i8;have pj:=hU hpk;obtain ⟨R,hR⟩:∃R,R=Z2v look done:=⟨_,rfl⟩;rw [←hR] at Le Ja HEA;have HR:=hU hR;have Xx:=hU Ja
    have hpr :∀p∈R,SmR n p.2:=fun p hp=>by
     rw [HR.o] at hp;rw [(Z9g hp).2.2];exact Lx.o _
    have X3:=hU hpr;clear Ss hsm' Wi O9 Da ze hpk hAk Ja hR hpr i8;go_wp2_with fail;refine (Zkh bm bp cA snA AA mm w5 HMB.o ft.o).mono ?_;rintro e w6 ⟨rfl,hw6⟩;subst hw6;go_upto_region 20 with fail;obtain ⟨W7,pn⟩:∃W7,W7=w5.alloc (.cells #[.slice none 0 0,.slice none 0 0,.slice none 0 0,.slice none 0 0,.int .i64 mm.length,.int .i64 (Z2l look done:Nat)] 36):=⟨_,rfl⟩;have Vn:Below w5.heap.size w5 W7:=YF0;(have ht7:Blk W7 w5.heap.size 36 #[.slice none 0 0,.slice none 0 0,.slice none 0 0,.slice none 0 0,.int .i64 mm.length,.int .i64 (Z2l look done:Nat)]:=by rw [pn];exact Blk.new _ _ _);(have Uk:W7.heap.size=w5.heap.size+1:=by rw [pn];simp);rw [←pn];clear pn;have ms:=hU Vn;have Uv:=hU ht7;have J1:=hU Uk;clear Vn ht7 Uk;go_wp2_with fail;refine (Zkl W7).mono ?_;rintro e w8 ⟨gm,gp,sn8,A8,c8,rfl,Sy,hgp,hA8,hM8,hS8,gl⟩;go_upto_region 21 with fail;obtain ⟨W9,Gh⟩:∃W9,W9=w8.alloc (.cells #[.pointer (some ⟨gm,0,none⟩)] 102):=⟨_,rfl⟩;have Ct:Below w8.heap.size w8 W9:=YLf;have uo:Blk W9 w8.heap.size 102 #[.pointer (some ⟨gm,0,none⟩)]:=YC8;(have Sj:W9.heap.size=w8.heap.size+1:=by rw [Gh];simp);rw [←Gh];clear Gh;have hz8:=gl.size;have yq:=hU ((ms.o.trans (gl.mono ms.o.size)).trans (Ct.mono (by have:=J1.o;omega)));have Oa:=hU ((Uv.o.new_ gl).new_ Ct);have HM9:=hU (hM8.new_ Ct);have Gg:=hU (hS8.new_ Ct);have av:=hU hA8;have gx:=hU uo;have Ff:=hU Sj;have hgl8:=hM8.lt;have ui:=hS8.lt;have HGA:=hU hS8.row_lt;have HGPL:=hU (show w5.heap.size≤gp by have:=J1.o;omega);clear gl hM8 hS8 hA8 Ct uo Sj;go_wp2_with fail
    refine (Zr9 none 0 [] W9 (Z0y.nil _ _ _) Ye).mono ?_;rintro e fo ⟨ns,rfl,hns,sn10,A10,c10,Um,Xg,ic⟩;go_upto_region 22 with fail;obtain ⟨Vg,ql⟩:∃Vg,Vg=fo.alloc (.cells #[.pointer (some ⟨ns,0,none⟩)] 104):=⟨_,rfl⟩;(have mw:Below fo.heap.size fo Vg:=by rw [ql];exact (Zst _ _).alloc (Zsu _) _);(have et:Blk Vg fo.heap.size 104 #[.pointer (some ⟨ns,0,none⟩)]:=by rw [ql];exact Blk.new _ _ _);(have Vl:Vg.heap.size=fo.heap.size+1:=by rw [ql];simp);rw [←ql];clear ql;have Nj:=ic.size;have Ir:=ic.trans (mw.mono Nj);have qu:=hU (yq.o.trans (Ir.mono (by have:=J1.o;have:=Ff.o;omega)));have jo:=hU (Oa.o.new_ Ir);have qk:=hU (HM9.o.new_ Ir);have Om:=hU (Gg.o.new_ Ir);have My:=hU (gx.o.new_ Ir);have ua:=hU et;have Iz:=hU (Um.new_ mw);have zg:=hU Xg;have sw:=hU Vl;have nc:=hU Um.lt;have ec:=hU Um.row_lt;clear ic Um Xg mw et Vl Ir Oa HM9 Gg gx Uv;go_wp2_with fail;refine (Zkf bm Vg).mono ?_;rintro e Rg ⟨rfl,O2,mo⟩;have hz12:=O2.size;have hsq:=Zmz Vg.heap.size cA snA AA bm bp mm Rg ((mo.cell 0).trans rfl) (HMB.o.new_ (qu.o.trans (O2.mono (by have:=qu.o.size;omega)))) (ft.o.new_ (qu.o.trans (O2.mono (by have:=qu.o.size;omega))));have Vo:=hU hsq;obtain ⟨K9,hK9⟩:∃K9:Nat→Prop,K9=fun k=>k<w5.heap.size∨k=w8.heap.size∨k=fo.heap.size∨k=Vg.heap.size:=⟨_,rfl⟩;have hkl:=mo.lt
    have Nl:SR n Rg.heap.size K9 (fun _=>False) Rg w5.heap.size gm gp ns mm.length (Z2l look done:Nat) [] [] [] [] [] (.slice none 0 0) (.slice none 0 0) (.slice none 0 0) (.slice none 0 0):=by
     have z7:=J1.o;have z9:=Ff.o;have z11:=sw.o
     have nK :∀k,w5.heap.size≤k→k≠w8.heap.size→k≠fo.heap.size→k≠Vg.heap.size→¬K9 k:=fun k h1 h2 h3 h4 hk=>by
      rw [hK9] at hk;rcases hk with hk|hk|hk|hk
      · omega
      · exact h2 hk
      · exact h3 hk
      · exact h4 hk
     have gml:=qk.o;have l1:gm<w8.heap.size:=hgl8;have l2:gp<w8.heap.size:=ui;have l3:=nc.o;refine ⟨jo.o.new_ O2,Z2t _ _ _,fun _ h=>YZt,OwnC.nil _ _ _ _,fun _ h=>YZt,Z2t _ _ _,fun _ h=>YZt,Z2t _ _ _,fun _ h=>YZt,?_,?_,Srt.nil,?_,fun _ h=>h.elim,fun k hk=>?_,fun _ h=>h.elim⟩
     · refine ⟨sn10,A10,c10,Iz.o.new_ O2,fun hq=>?_,fun a ha hq=>?_⟩
       · rcases hq with hq|hq
         · exact nK ns Ya Ya Ya Ya hq
         · cases hq
       · rcases hq with hq|hq
         · have h1:=zg.o a ha
           have h2:=ec.o a ha;exact nK a.block Ya Ya Ya Ya hq
         · cases hq
     · refine ⟨qk.o.new_ O2,nK gm Ya Ya Ya Ya,sn8,A8,c8,Om.o.new_ O2,nK gp Ya Ya Ya Ya,fun a ha=>?_⟩
       have h1:=av.o a ha;have h2:=HGA.o a ha;exact nK a.block Ya Ya Ya Ya
     · exact nK _ (Zsu _) Ya Ya Ya
     · rw [hK9] at hk
       rcases hk with hk|hk|hk|hk<;>omega
    have HSR:=hU Nl;have lq:=hU hK9;have HK12:=hU mo;have HB12:=hU (qu.o.trans (O2.mono (by have:=qu.o.size;omega)));have HX12:=hU (My.o.new_ O2);have HY12:=hU (ua.o.new_ O2);have Sk:=hU (show w5.heap.size≤w8.heap.size∧w8.heap.size<W9.heap.size∧W9.heap.size≤fo.heap.size∧fo.heap.size<Vg.heap.size∧Vg.heap.size<Rg.heap.size from by have:=J1.o;have:=Ff.o;have:=sw.o;omega);clear Nl hsq O2 mo hK9 Sy hgp hns jl iv hsb My ua Iz jo qk Om yq av zg;go_wp2_with fail;refine (wpIn_wide (n:=0)).1 ?_
    obtain ⟨I,hI⟩:∃I:World→List PgR→World→Prop,I=fun F p X=>(∃C v0 v1 v2 v3,SR n Rg.heap.size (fun k=>K9 k∨C k∨(Rg.heap.size≤k∧k<F.heap.size)) C X w5.heap.size gm gp ns mm.length (Z2l look done:Nat) [] (gpg lv (R.take p.length)) ((R.take p.length).flatMap fun p=>p.2.holes) ((R.take p.length).flatMap fun p=>p.2.aparts) (Z3h (R.take p.length)) v0 v1 v2 v3∧v0 = .slice none 0 0∧∀k,C k→Rg.heap.size≤k)∧
     Blk X w8.heap.size 102 #[.pointer (some ⟨gm,0,none⟩)]∧Blk X fo.heap.size 104 #[.pointer (some ⟨ns,0,none⟩)]∧Fr (fun k=>k=bp∨w5.heap.size≤k) w5 X∧Rg.heap.size≤F.heap.size∧F.heap.size≤X.heap.size:=⟨_,rfl⟩
    refine Z66 (w:=Rg) Yd Vo.o.enter Vo.o.iter (fun x=>Yd) Vo.o.trans Vo.o.keep (fun W W1 h=>Z36 (Vo.o.mods W W1 h)) I (fun _ _ _ _=>False) ?_ (fun _ _ _ _ _ h=>h.elim) ?_ ?_ ?_ ?_
    · subst hI
      rintro F p X Y ⟨⟨C,v0,v1,v2,v3,h1,An,ai⟩,h2,h3,h4,h5,h6⟩ hp;exact ⟨⟨C,v0,v1,v2,v3,h1.priv hp,An,ai⟩,h2.priv hp,h3.priv hp,h4.priv hp (by have:=Sk.o;omega),h5,Zt6 h6 hp.size⟩
    · intro W F hW hs
      subst hI;have Sd:=hs.size;have hWz:=hW.size;have hF:=hs.fr;have P2:bp<w5.heap.size:=ft.o.lt;(have nb :∀k,w5.heap.size≤k→¬k=bp:=fun k hk e=>Ya);have zb:=Sk.o;refine ⟨⟨fun _=>False,_,_,_,_,HSR.o.theirs ((Fr.of_new (M:=(· = bp)) hW).trans (hF.mono (fun k _ hk=>hk))) (fun k hk=>⟨by rw [lq.o];exact .inl (hk ▸ P2),fun h=>h⟩) (fun k hk=>?_) (fun _ h=>h.elim) (fun k hk=>?_),rfl,fun _ h=>h.elim⟩,(HX12.o.new_ hW).fr hF (nb _ Ya),(HY12.o.new_ hW).fr hF (nb _ Ya),?_,Ya,Zsu _⟩
      · rcases hk with hk|hk|hk
        · exact .inl hk
        · exact hk.elim
        · exact .inr hk.1
      · rcases hk with hk|hk|hk
        · have:=HSR.o.lt k hk;omega
        · exact hk.elim
        · exact hk.2
      · exact ((Fr.of_new (M:=fun k=>k=bp∨w5.heap.size≤k) (HB12.o.trans (hW.mono Ya))).trans (hF.mono (fun k _ hk=>.inl hk)))
    · intro F lo pre x post X hx qv j9
      rw [hI] at j9;obtain ⟨⟨C,v0,v1,v2,v3,hS,An,ai⟩,im,jj,zp,hFw,hFX⟩:=j9;have HV0:=hU An;have HCN:=hU ai;clear An ai;(have hkl:pre.length<mm.length:=by rw [hx];simp);have hkR:pre.length<R.length:=Ya;obtain ⟨_,hrel⟩:=HEA.o.get pre.length hkR;(have hxe:mm[pre.length]=x:=by rw [List.getElem_of_eq hx];simp);rw [hxe] at hrel;have Kq:=hrel.keep (w':=X) (D':=fun j=>K j∧¬E j) zp.size (fun j hj hl=>⟨hj,zp.block j hl (fun h=>h.elim (fun e=>pj.o (e ▸ hj.1)) (fun e=>Ya))⟩);obtain ⟨r,hr⟩:∃r,r=R[pre.length].2:=⟨_,rfl⟩;(have Nl:SmR n r:=by rw [hr];exact X3.o _ (Ztf hkR));obtain ⟨hk0,hn0,I5,e1,e2,e3,e4,O4⟩:=Kq;rw [←hr] at hn0 I5 e1 e2 e3 e4 O4;obtain ⟨xk,xn,xl,⟨A1,n1,c1⟩,⟨A2,n2,c2⟩,⟨A3,n3,c3⟩,⟨A4,n4,c4⟩⟩:=x;dsimp only at hk0 hn0 I5 e1 e2 e3 e4 O4;subst hn0;subst I5;subst e1;subst e2;subst e3;subst e4;have Sn:=hU hr;have Ad:=hU Nl;have HI:=hU hI;have HXX:=hU hx;clear hx hxe hrel hI hk0 hr Nl hkl;simp only [Zbt,Array.zip];gi_wp2_with fail;refine ⟨Kept.new_ ((Zst _ X).alloc (Zsu _) _) hFX,fun X2 hp2 Aj=>?_⟩;intros;obtain ⟨X1,Ia⟩:∃X1,X1=X.alloc (.cells (Q0t r A1 c1 A2 c2 A3 c3 A4 c4) 61):=⟨_,rfl⟩;(have Ol:Below X.heap.size X X1:=by rw [Ia];exact (Zst _ _).alloc (Zsu _) _);(have hrX:Blk X1 X.heap.size 61 (Q0t r A1 c1 A2 c2 A3 c3 A4 c4):=by rw [Ia];exact Blk.new _ _ _);(have hzX:X1.heap.size=X.heap.size+1:=by rw [Ia];simp);rw [←Ia] at hp2 Aj;obtain ⟨KK,qg⟩:∃KK:Nat→Prop,KK=fun k=>((K9 k∨C k∨(Rg.heap.size≤k∧k<F.heap.size))∨k=X.heap.size)∨(k<X2.heap.size∧¬Z26 X2 k):=⟨_,rfl⟩
      have F7:SR n Rg.heap.size KK C X2 w5.heap.size gm gp ns mm.length (Z2l look done:Nat) [] (gpg lv (R.take pre.length)) ((R.take pre.length).flatMap fun p=>p.2.holes) ((R.take pre.length).flatMap fun p=>p.2.aparts) (Z3h (R.take pre.length)) v0 v1 v2 v3:=by
       have h1:=hS.theirs (K':=fun k=>(K9 k∨C k∨(Rg.heap.size≤k∧k<F.heap.size))∨k=X.heap.size) (M:=fun _=>False) (Fr.of_new Ol) (fun _ h=>h.elim) (fun k hk=>hk.imp id (fun e=>Ya)) (fun k hk=>.inl (.inr (.inl hk))) (fun k hk=>hk.elim (fun hk=>by have:=hS.lt k hk;omega) (fun e=>Ya));have h2:=h1.priv hp2;rw [qg];exact h2.cls (fun k hc hk=>hk.elim id (fun hk=>absurd hc hk.2)) (fun k hk=>.inl (.inl (.inr (.inl hk)))) (fun k hk=>hk.elim (fun hk=>h2.lt k hk) (fun hk=>hk.1))
      have Gz:=hrX.priv hp2;have V8:Z8n n (fun j=>K j∧¬E j) X2 r A1 c1 A2 c2 A3 c3 A4 c4:=O4.keep (by have:=hp2.size;omega) (fun j hj hl=>⟨hj,(hp2.block j Ya (.inl (by have:=HP.o.lt j hj.1;have:=Sk.o;omega))).trans (Ol.block j hl)⟩);have dj:=(zp.into (Fr.of_new (M:=fun _=>False) Ol) (fun _ h=>h.elim)).priv hp2 (by have:=Sk.o;omega);(have X0 :∀k,k<w5.heap.size→KK k:=fun k hk=>by rw [qg,lq.o];exact .inl (.inl (.inl (.inl hk))));(have hKx:KK w8.heap.size∧KK fo.heap.size∧KK X.heap.size:=by rw [qg,lq.o];exact ⟨.inl (.inl (.inl (.inr (.inl rfl)))),.inl (.inl (.inl (.inr (.inr (.inl rfl))))),.inl (.inr rfl)⟩);have fk:=hU F7;have O8:=hU Gz;have Iu:=hU V8;have HFR2:=hU dj;have Vm:=hU ((im.new_ Ol).priv hp2);have pw:=hU ((jj.new_ Ol).priv hp2);have ox:=hU (HX.o.fr dj (fun h=>h.elim (fun e=>pj.o (e ▸ zv.o)) (fun e=>by have:=HX.o.lt;omega)));have Bc:=hU qg;have Fy:=hU X0;have gq:=hU hKx;have Oc:=hU hp2;have X7:=hU (show X2.heap.size=X.heap.size+1 from Ya);have P5:w.heap.size<w5.heap.size:=HX.o.lt;have hG2:=V8.1.cap;have HFX:=hU hFX;have HFW:=hU hFw;have HFRo:=hU zp;have fj:=hU Ol;(have hRK:(R.take pre.length).length≤500:=by have:=Xx.o;simp;omega);have Kd:=hU hRK;obtain ⟨x0,x1,x2,x3,x4,x5⟩:=Gz.c6;have Rr:=Gz.lt;clear Ia hrX F7 Gz V8 dj im jj zp hS O4 qg X0 hKx hp2 Aj hRK Ol hzX hFX hFw;gi_wp2_with fail;clear x0 x1 x2 x3 x4 x5 Rr
      gi_loopw [96] (fun i wq=>∃m:Nat,i = .int .i64 m∧m≤r.elems.length∧SR n Rg.heap.size KK C wq w5.heap.size gm gp ns mm.length (Z2l look done:Nat) [] (puts Z0x (gpg lv (R.take pre.length)) ((Z3x lv r.elems m).map pg)) ((R.take pre.length).flatMap fun p=>p.2.holes) ((R.take pre.length).flatMap fun p=>p.2.aparts) (Z3h (R.take pre.length)) v0 v1 v2 v3∧Fr (fun k=>¬KK k) X2 wq) (fun i wq=>r.elems.length - (intOf i).toNat)
      case atStart=>exact ⟨0,rfl,Nat.zero_le _,by rw [Zfl];exact fk.o,Fr.refl _ _⟩
      case round=>
       obtain ⟨m,rfl,hm,hS,hF⟩:=hrel;by_cases sd:m<r.elems.length
       · skip
         obtain ⟨e0,To⟩:∃e0,e0=r.elems[m]:=⟨_,rfl⟩;have Xq:=Iu.o.1.keep (w':=wr) (D':=fun j=>K j∧¬E j) hF.size (fun j hj hl=>⟨hj,hF.block j hl (fun h=>h (Fy.o j (HP.o.lt j hj.1)))⟩);obtain ⟨ge,oe,sf,hDe,l8,q0,q1,q2,q3,q4,q5,q6,q7,q8,q9,Jw,P8,i5,Nb⟩:=Z9n Xq sd;subst sf;rw [←To] at q0 q1 q2 q3 q4 q5 q6 q7 q8 q9 Jw P8 i5 Nb;have b1:(0:Int)≤(m:Int):=Ya;have b2:(m:Int)<(r.elems.length:Int):=Ya;have g0:=(Vm.o.fr hF (fun h=>h gq.o.1)).c1;have bi:=(Vm.o.fr hF (fun h=>h gq.o.1)).lt;have tw:=hU To;have HS:=hU hS;have HF:=hU hF;clear To hS hF Xq;gi_wp2_with fail;refine Yi8 ?_;refine Ye0 ?_;intro W9 Gh Ct uo;clear Gh q0 q1 q2 q3 q4 q5 q6 q7 q8 q9 Jw P8 i5 Nb g0 bi;obtain ⟨gs,Fu⟩:∃gs,gs=puts Z0x (gpg lv (R.take pre.length)) ((Z3x lv r.elems m).map pg):=⟨_,rfl⟩
         have Gb:(gs.length:Int)≤900000:=by
          have h1:=Z1e Z56 ((Z3x lv r.elems m).map pg) (Zn3 lv (R.take pre.length));have h2:=Zlg (lv:=lv) (R:=R.take pre.length) (fun p hp=>(X3.o p (List.mem_of_mem_take hp)).1);have h3:=Zj0 lv r.elems m;have h4:=Ad.o.1;have h5:=Kd.o;rw [←Fu] at h1;simp only [Ztl] at h1;omega
         rw [←Fu] at HS;have Mb:=hU Fu;clear Fu;refine (callsIn_wide.2 (Zs7 e0.elem.tag (HS.o.new_ Ct).map_ HS.o.srt Ya)).mono ?_;rintro e kt ⟨y,rfl,ur⟩;have Sj:=Ct.size;have ix:=Ct.trans (ur.mono Sj);have Wy:=uo.new_ ur;have X5:=hU ix;have HX13:=hU Wy;have l0:=((ox.o.fr HF.o (fun h=>h (Fy.o _ P5))).new_ ix).c1;have l0l:=((ox.o.fr HF.o (fun h=>h (Fy.o _ P5))).new_ ix).lt;have g0:=((Vm.o.fr HF.o (fun h=>h gq.o.1)).new_ ix).c1;have bi:=((Vm.o.fr HF.o (fun h=>h gq.o.1)).new_ ix).lt;have c12:=(Wy.cell 12).trans rfl;have hxl13:=Wy.lt;clear Ct uo ur ix;by_cases hp1:e0.level<lv
         · have d1:decide (e0.level<lv)=true:=by simpa using hp1
           have Dq:=hU (show Z3x lv r.elems (m+1)=Z3x lv r.elems m ++ [bare e0] by rw [tw.o];exact Zj1 sd (by rw [←tw.o];exact hp1));clear hp1
           cases hh:has Z0x gs (zPgT e0.elem.tag) with
           | true=>
             have HH:=hU (show has Z0x gs (pg (bare e0))=true from hh);clear Wy hh;gi_wp2_with fail;go_roundw
             case rel=>
              refine Y0b ?_;rw [Dq.o,Ztm,List.map_cons,List.map_nil,Z2u,←Mb.o,Z47 HH.o];exact Yjs
             case measure=>simp [intOf];omega
           | false=>
             have HH:=hU (show has Z0x gs (pg (bare e0))=false from hh);have p0:=(Wy.cell 0).trans rfl;have p1:=(Wy.cell 1).trans rfl;have p2:=(Wy.cell 2).trans rfl;have p3:=(Wy.cell 3).trans rfl;have p4:=(Wy.cell 4).trans rfl;have p5:=(Wy.cell 5).trans rfl;have p6:=(Wy.cell 6).trans rfl;have p7:=(Wy.cell 7).trans rfl;have p8:=(Wy.cell 8).trans rfl;have p9:=(Wy.cell 9).trans rfl;have li:=(Wy.cell 10).trans rfl;have Gf:=(Wy.cell 11).trans rfl;have zy:=(Wy.cell 12).trans rfl;have Jq:=(Wy.cell 13).trans rfl;have f13:=Wy.frozen 13;clear Wy hh;gi_wp2_with fail;refine Yi8 ?_;obtain ⟨W14,eu⟩:∃W14,W14=(kt.setCell ⟨wr.heap.size,13,none⟩ (.int .i64 0)).alloc (.cells (Q0h y) 52):=⟨_,rfl⟩;(have Af:Below wr.heap.size wr W14:=by rw [eu];exact (X5.o.setCell (p:=⟨wr.heap.size,13,none⟩) (Zsu _) _).alloc (by simpa using X5.o.size) _);rw [←eu];clear eu p0 p1 p2 p3 p4 p5 p6 p7 p8 p9 li Gf zy Jq f13 l0 l0l g0 bi c12;have ku:=HS.o.new_ Af;have dq:=hU ku;have HB14:=hU Af;refine (callsIn_wide.2 (Zs9 (pg (bare e0)) ku.map_ ku.srt ku.lt Ya HH.o)).mono ?_;clear ku Af;rintro e Eu ⟨rfl,g3,g4⟩;have Dw:=dq.o.ground g4 g3 (dq.o.srt.put Z56 _);have HS15:=hU Dw;have HF15:=hU ((HF.o.into (Fr.of_new (M:=fun _=>False) HB14.o) (fun _ h=>h.elim)).trans g4.fr);clear g3 g4 Dw;gi_wp2_with fail;go_roundw
             case rel=>
              refine ⟨m+1,Yn,Ya,?_,HF15.o⟩;rw [Dq.o,Ztm,List.map_cons,List.map_nil,Z2u,←Mb.o];exact HS15.o
             case measure=>simp [intOf];omega
         · have d1:decide (e0.level<lv)=false:=by simpa using hp1
           have Dq:=hU (show Z3x lv r.elems (m+1)=Z3x lv r.elems m by rw [tw.o] at hp1;exact Zlm sd hp1);clear hp1 Wy;gi_wp2_with fail;go_roundw
           case rel=>
            refine Y0b ?_;rw [Dq.o,←Mb.o];exact Yjs
           case measure=>simp [intOf];omega
       · obtain rfl:m=r.elems.length:=by omega
         rw [Ziz] at hS;obtain ⟨Wa,hWa⟩:∃Wa,Wa=wr:=⟨_,rfl⟩;subst hWa;obtain ⟨gs,Fu⟩:∃gs,gs=puts Z0x (gpg lv (R.take pre.length)) ((lows lv r).map pg):=⟨_,rfl⟩;rw [←Fu] at hS;have Mb:=hU Fu;have uo:=O8.o.fr hF (fun h=>h gq.o.2.2);obtain ⟨x0,x1,x2,x3,x4,x5⟩:=uo.c6;have Vd:=uo.lt;have fm:=hU hS;have ek:=hU hF;have hca:=Iu.o.2.1.cap;clear hS hF Fu uo;gi_wp2_with fail;clear x0 x1 x2 x3 x4 x5 Vd
         gi_loopw [127] (fun i wq=>∃m:Nat,i = .int .i64 m∧m≤r.holes.length∧∃KH CH v1',(∀k,KK k→KH k)∧(∀k,KH k→KK k∨Wa.heap.size≤k)∧(∀k,CH k→Rg.heap.size≤k)∧SR n Rg.heap.size KH CH wq w5.heap.size gm gp ns mm.length (Z2l look done:Nat) [] gs (((R.take pre.length).flatMap fun p=>p.2.holes)++r.holes.take m) ((R.take pre.length).flatMap fun p=>p.2.aparts) (Z3h (R.take pre.length)) v0 v1' v2 v3∧Wa.heap.size≤wq.heap.size∧Fr (fun k=>¬KK k) X2 wq) (fun i wq=>r.holes.length - (intOf i).toNat)
         case atStart=>exact ⟨0,rfl,Nat.zero_le _,KK,C,v1,fun _ h=>h,fun _ h=>.inl h,HCN.o,by rw [List.take_zero,Zu9];exact fm.o,Zsu _,ek.o⟩
         case round=>
          obtain ⟨m,rfl,hm,KH,CH,v1',I7,gd,qb,hS,Ek,hF⟩:=hrel;have Nu:=hU qb;clear qb;by_cases sd:m<r.holes.length
          · skip
            obtain ⟨y,hy⟩:∃y,y=r.holes[m]:=⟨_,rfl⟩;have Xq:=Iu.o.2.1.keep (w':=wr) (D':=fun j=>K j∧¬E j) hF.size (fun j hj hl=>⟨hj,hF.block j hl (fun h=>h (Fy.o j (HP.o.lt j hj.1)))⟩);obtain ⟨ge,oe,so,Bv,Xj,qw,qy,Mg,Sm,f7,sf,hDe,l8,q0,q1,q2,q3,q4,q5,q6,q7,J8,Cq,sq,dd⟩:=Zbm Xq sd;subst sf;(have lh:SmH n y:=by rw [hy];exact Ad.o.2.2.2.2 _ (Ztf sd));rw [←hy] at q0 q1 q2 q3 q4 q5 q6 q7 J8 Cq sq dd;have b1:(0:Int)≤(m:Int):=Ya;have b2:(m:Int)<(r.holes.length:Int):=Ya;obtain ⟨L1,kp⟩:∃L1,L1=((R.take pre.length).flatMap fun p=>p.2.holes)++r.holes.take m:=⟨_,rfl⟩;rw [←kp] at hS;obtain ⟨Ah,ch,Ey,-,-,-⟩:=hS.o1.form;subst Ey
            have hLl:L1.length≤501000:=by
             have h1:=Z9u (fun p:KR=>p.2.holes) 1000 (R.take pre.length) (fun p hp=>(X3.o p (List.mem_of_mem_take hp)).2.1);have h2:=Kd.o;have h3:=Ad.o.2.1;rw [kp,Ztd,Zu3];omega
            have HL1:=hU kp;have Py:=hU hLl;have HY:=hU hy;have rv:=hU J8;have dr:=hU Cq;have n7:=hU sq;have HY4:=hU (RowR.rd (hs:=Z0t.cells_length) dd);have hcy4:=dd.cap;have Mk:=hU lh;have HF:=hU hF;have Lv:=hU I7;have ov:=hU gd;have Vf:=hU hS;clear hy Xq J8 Cq sq dd lh hF I7 gd kp hLl hS;gi_wp2_with fail;obtain ⟨W9,Gh⟩:∃W9,W9=wr.alloc (.cells (Q0p y so Bv Xj qw qy Mg Sm f7) 80):=⟨_,rfl⟩;have Ct:Below wr.heap.size wr W9:=YLf;have uo:Blk W9 wr.heap.size 80 (Q0p y so Bv Xj qw qy Mg Sm f7):=YC8;rw [←Gh];clear Gh q0 q1 q2 q3 q4 q5 q6 q7;have Kt:=Vf.o.new_ Ct;have p0:=(uo.cell 0).trans rfl;have p1:=(uo.cell 1).trans rfl;have p2:=(uo.cell 2).trans rfl;have p3:=(uo.cell 3).trans rfl;have p4:=(uo.cell 4).trans rfl;have p5:=(uo.cell 5).trans rfl;have p6:=(uo.cell 6).trans rfl;have p7:=(uo.cell 7).trans rfl;have Vd:=uo.lt;have t1:=(Kt.blk.cell 1).trans rfl;have tl:=Kt.blk.lt;have Gg:=hU Kt;have yq:=hU Ct;have Z1:=hU (rv.o.new_ Ct);have Z2:=hU (dr.o.new_ Ct);have Z3:=hU (n7.o.new_ Ct);have Z4:=hU (HY4.o.new_ Ct);clear Kt Ct uo;refine Zct (fun w9=>Below W9.heap.size W9 w9) [(0,0),(1,1),(2,0),(3,1),(5,0),(6,1),(4,2),(7,2),(8,0),(9,2),(10,2),(11,0),(12,2)] Yb Yb Yd (fun KK qg=>?_);refine Ybp ?_;refine Z1h (fun K9_ hK9_=>?_);go_simp;refine (Zd7 n y.cond so Bv Xj qw qy Mg _ _ (Z1.o.new_ ((Zst _ _).drew)) (Z2.o.new_ ((Zst _ _).drew)) (Z3.o.new_ ((Zst _ _).drew)) Mk.o.1).mono ?_;rintro e wa ⟨vx,j7,lu,lr,Be,Ot,rfl,g1,g2,g3,Cu⟩;have mx:=hU (show Below W9.heap.size W9 wa from ((Zst W9.heap.size W9).drew).trans Cu);refine Ys5 ?_;intro G1 G2 G3;clear g1 g2 g3 Cu;refine hK9_ _ _ mx.o ?_;clear hK9_ K9_;refine Z1h (fun K9_ hK9_=>?_);refine Z0l wa rfl _ _ 78 rfl 126 ib _ 4 48 Tryz.underlying78 ym hib0 hib1 hib2 rfl Ya (.slice none 0 0) 0 [] rfl (Z2t _ _ _) Sm y.binds.length f7 (y.binds.flatMap Z0t.cells) rfl (Z0u Z0t.cells_length _) ((Z4.o.new_ mx.o).news Z0t.cells_length Ya) (Zca _) (by have:=Mk.o.2;unfold maxLen;omega) (by have:=Mk.o.2;omega) ?_;intro vb wb rn Kg E5 Tt;rw [Zts,Ztk] at rn;obtain ⟨Uu,l7,rfl,ho,O5,Oq⟩:=Z4f rn Tt rfl Kg;have el:=hU (mx.o.trans (Oq.mono mx.o.size));have G4:=hU ((RowR.of_rd (hs:=Z0t.cells_length) (Z0e Z0t.cells_length ho) O5).weaken (fun j hj=>(⟨Zt6 mx.o.size hj.1,hj.2⟩:NewD W9.heap.size wb j)));have G1:=hU (G1.o.newD Oq (Zsu _));have G2:=hU (G2.o.newD Oq (Zsu _));have G3:=hU (G3.o.newD Oq (Zsu _));clear ho O5 Oq rn Kg E5 Tt;refine hK9_ _ _ el.o ?_;clear hK9_ K9_;refine Ywa ?_;refine Z1h (fun K9_ hK9_=>?_);go_simp;have we:=hU (el.o.alloc el.o.size (.cells (Q0p y vx j7 lu lr Be Ot Uu l7) 80));refine hK9_ _ _ we.o ?_;clear hK9_ K9_;refine Z1m Yb (fun K9_ hK9_=>?_);have h9:Below wb.heap.size wb (wb.alloc (.cells (Q0p y vx j7 lu lr Be Ot Uu l7) 80)):=(Zst _ _).alloc (Zsu _) _;have Jn:=Zhs (n:=n) (y:=y) (D:=fun j=>CH j∨(NewD W9.heap.size (wb.alloc (.cells (Q0p y vx j7 lu lr Be Ot Uu l7) 80)) j∧Z26 (wb.alloc (.cells (Q0p y vx j7 lu lr Be Ot Uu l7) 80)) j)) (((G1.o.newD h9 (Zsu _)).solid Z74 Yc).weaken (fun j hj=>Or.inr hj)) (((G2.o.newD h9 (Zsu _)).solid Z74 Yc).weaken (fun j hj=>Or.inr hj)) (((G3.o.newD h9 (Zsu _)).solid (Zjq n) (by rw [Z23];decide)).weaken (fun j hj=>Or.inr hj)) (((G4.o.newD h9 (Zsu _)).solid (Zbe _ _ _) Yc).weaken (fun j hj=>Or.inr hj));have vd:OwnC (Z0v n) 80 (fun j=>CH j∨(NewD W9.heap.size (wb.alloc (.cells (Q0p y vx j7 lu lr Be Ot Uu l7) 80)) j∧Z26 (wb.alloc (.cells (Q0p y vx j7 lu lr Be Ot Uu l7) 80)) j)) (wb.alloc (.cells (Q0p y vx j7 lu lr Be Ot Uu l7) 80)) (.slice Ah L1.length ch) L1:=Gg.o.o1.keep we.o.size (fun k hk hl=>⟨.inl hk,we.o.block k hl⟩) (fun k hk=>⟨we.o.block k (Gg.o.o1.lt k hk),fun hp=>hp.elim (Gg.o.o1.off k hk) (fun hp=>by have:=Gg.o.o1.lt k hk;have:=hp.1.1;omega)⟩);have O0 :∀j,(fun j=>CH j∨(NewD W9.heap.size (wb.alloc (.cells (Q0p y vx j7 lu lr Be Ot Uu l7) 80)) j∧Z26 (wb.alloc (.cells (Q0p y vx j7 lu lr Be Ot Uu l7) 80)) j)) j→j<((wb.alloc (.cells (Q0p y vx j7 lu lr Be Ot Uu l7) 80))).heap.size:=fun j hj=>hj.elim (fun hj=>Zsw (Gg.o.lt j (Gg.o.sub j hj)) we.o.size) (fun hj=>hj.1.2);(have Uh:L1.length+1≤maxLen:=by have:=Py.o;unfold maxLen;omega);(have jj:(L1.length+1)*136≤140737488355328:=by have:=Py.o;omega);refine Z65 _ rfl _ _ 32 rfl 80 ih _ 8 136 Tryz.underlying32 Ay hih0 hih1 hih2 rfl rfl Ya _ O0 (.slice Ah L1.length ch) L1 rfl vd ⟨wb.heap.size,0,none⟩ 1 y (Q0o y vx j7 lu lr Be Ot Uu l7) rfl (Zte (heap_alloc_new _ _)) (by intro u hu;simp only [Ztb,Zth,or_false] at hu;rcases hu with rfl|rfl|rfl|rfl|rfl|rfl|rfl|rfl<;>rfl) Jn Uh jj ?_;intro v' w8_ Fz;obtain ⟨Ah',ch',hv',-,-,-⟩:=Fz.1.form
            subst hv';have Xf:=Z01 (Classical.choose_spec Gg.o.o1).1 Gg.o.blk Yc;have zf:=(Gg.o.blk.new_ we.o).grown Fz.2.1 Xf;have Oe:=hU Fz;have u1:=(zf.cell 1).trans rfl;have f1:=zf.frozen 1;have hgl8_:=zf.lt;clear h9 Jn vd O0 Uh jj Fz Xf zf;refine hK9_ _ _ ?_;clear hK9_ K9_;(repeat ((first|(refine Z05 ?_ (Or.inl ⟨Yd,fun w9=>?_⟩) ?_;rotate_left 1;go_simp;with_reducible rfl)|(refine Z04 ?_ (we.o) (Or.inl ⟨Yd,fun w9 hw9=>?_⟩) ?_;rotate_left 1;obtain ⟨Do,rr⟩:=Z0i hw9;go_simp;with_reducible rfl)|refine Z05 undef (Or.inr ⟨Yd,rfl⟩) ?_|refine Z04 undef (we.o) (Or.inr ⟨Yd,rfl⟩) ?_);go_frame));refine Z1m Yb (fun K9_ hK9_=>?_);go_simp;refine hK9_ _ _ ?_;clear hK9_ K9_;refine Z0m ?_;simp only [Z00];refine qg _ _ ?_;clear qg KK;gi_wp2_with fail;go_roundw
            case rel=>
             obtain ⟨sh1,sh2⟩:=Gg.o.hole we.o Oe.o;have Sj:=yq.o.size;have hl9:(L1 ++ [y]).length=L1.length+1:=Ye;rw [hl9] at sh1 sh2;(have hq9:L1 ++ [y]=((R.take pre.length).flatMap fun p=>p.2.holes)++r.holes.take (m+1):=by rw [HL1.o,Zu8,HY.o,Z2w sd]);rw [hq9] at sh1;have r6:Fr (fun k=>¬KK k) X2 _:=(HF.o.into (Fr.of_new (M:=fun _=>False) yq.o) (fun _ h=>False.elim h)).trans (sh2.mono (fun k _ hk hq=>hk (Lv.o k hq)));have r8:Value.int IntKind.i64 ((m:Int)+1) = .int .i64 ((m+1:Nat):Int):=Yn;refine ⟨m+1,r8,Nat.succ_le_of_lt sd,_,_,_,?_,?_,?_,sh1,Zt6 Ek (Zt6 Sj sh2.size),r6⟩
             · intro k hk
               exact Or.inl (Lv.o k hk)
             · intro k hk
               rcases hk with hk|hk
               · exact ov.o k hk
               · exact Or.inr (Zt6 Ek (Zt6 Sj hk.1))
             · intro k hk
               rcases hk with hk|hk
               · exact Nu.o k hk
               · exact Zt6 HFW.o (Zt6 HFX.o (Zt6 (by rw [X7.o];exact Nat.le_succ _) (Zt6 ek.o.size (Zt6 Ek (Zt6 Sj hk.1.1)))))
            case measure=>simp [intOf];omega
          · obtain rfl:m=r.holes.length:=by omega
            rw [Ztc] at hS;obtain ⟨Wb,hWb⟩:∃Wb,Wb=wr:=⟨_,rfl⟩;subst hWb;obtain ⟨L2,hL2⟩:∃L2,L2=(R.take pre.length).flatMap fun p=>p.2.aparts:=⟨_,rfl⟩;rw [←hL2] at hS;obtain ⟨Aq,cq,j4,-,-,-⟩:=Z14 hS.o2;subst j4
            have Cm:L2.length≤500000:=by
             have h1:=Z9u (fun p:KR=>p.2.aparts) 1000 (R.take pre.length) (fun p hp=>(X3.o p (List.mem_of_mem_take hp)).2.2.1);have h2:=Kd.o;rw [hL2];omega
            have HL2:=hU hL2;have ut:=hU Cm;have uo:=O8.o.fr hF (fun h=>h gq.o.2.2);obtain ⟨x0,x1,x2,x3,x4,x5⟩:=uo.c6;have Vd:=uo.lt;have t2:=(hS.blk.cell 2).trans rfl;have t2f:=hS.blk.frozen 2;have t2l:=hS.blk.lt;have ed:=Iu.o.2.2.1.keep (w':=Wb) (D':=fun j=>K j∧¬E j) hF.size (fun j hj hl=>⟨hj,hF.block j hl (fun h=>h (Fy.o j (HP.o.lt j hj.1)))⟩);have fx:=Iu.o.2.2.2.keep (w':=Wb) (D':=fun j=>K j∧¬E j) hF.size (fun j hj hl=>⟨hj,hF.block j hl (fun h=>h (Fy.o j (HP.o.lt j hj.1)))⟩);have ll:=hU (RowR.rd (hs:=Z1a.cells_length) ed);have pq:=hU fx;have hc3:=ed.cap;have hc4:=fx.cap;have Ao:=hU hS;have Fj:=hU hF;have Lv:=hU I7;have ov:=hU gd;clear hS hF hL2 Cm uo ed fx I7 gd;(gi_wp2_with (gi_at_builtin;refine Z6x Wb rfl _ _ 33 rfl 122 ia _ 7 72 Tryz.underlying33 Im hia0 hia1 hia2 rfl Ya (.slice Aq L2.length cq) L2.length (L2.flatMap Z1a.cells) rfl Ao.o.o2 A3 r.aparts.length c3 (r.aparts.flatMap Z1a.cells) rfl (Z0u Z1a.cells_length _) (ll.o.news Z1a.cells_length Ya) (Ze9 _) (by have:=ut.o;have:=Ad.o.2.2.1;unfold maxLen;omega) (by have:=ut.o;have:=Ad.o.2.2.1;omega) ?_;intro vq Wc mq L8 af Ps;obtain ⟨Ap,cp,Wn,-,-,-⟩:=Z14 mq;subst Wn;have gl:=Ao.o.blk.grown L8 (Z01 Ao.o.o2 Ao.o.blk Yc);have u2:=(gl.cell 2).trans rfl;have u2f:=gl.frozen 2;have u2l:=gl.lt;have HQ:=hU (show Wc.ownsRow 0 122 7 (.slice Ap (L2.length+r.aparts.length) cp) (L2.length+r.aparts.length) (L2.flatMap Z1a.cells++r.aparts.flatMap Z1a.cells)∧Wb.grownBy Wc (Value.slice Aq L2.length cq).ownBlock∧_ from ⟨mq,L8,Ps⟩);have Ig:Blk Wc X.heap.size 61 (Q0t r A1 c1 A2 c2 A3 c3 A4 c4):=(O8.o.fr Fj.o (fun h=>h gq.o.2.2)).grown L8 (Z01 Ao.o.o2 (O8.o.fr Fj.o (fun h=>h gq.o.2.2)) Yc);clear x0 x1 x2 x3 x4 x5 Vd;obtain ⟨x0,x1,x2,x3,x4,x5⟩:=Ig.c6;have Vd:=Ig.lt;clear Ig gl mq L8 af Ps t2 t2f t2l));obtain ⟨Wd,hWd⟩:∃Wd,Wd=Wc.setCell ⟨w5.heap.size,2,none⟩ (.slice Ap (L2.length+r.aparts.length) cp):=⟨_,rfl⟩;rw [←hWd];obtain ⟨Kt,rr⟩:=Ao.o.apart (ap':=L2++r.aparts) (Zst _ _) (by rw [Ztd,Zta];exact HQ.o.1) HQ.o.2.1 HQ.o.2.2;rw [←hWd] at Kt rr;have Gg:=hU Kt;have xx:=hU (Fj.o.trans (rr.mono (fun k _ hk hq=>hk (Lv.o k hq))));have HR49:=hU (Iu.o.2.2.2.keep (w':=Wd) (D':=fun j=>K j∧¬E j) (Fj.o.trans (rr.mono (fun k _ hk hq=>hk (Lv.o k hq)))).size (fun j hj hl=>⟨hj,(Fj.o.trans (rr.mono (fun k _ hk hq=>hk (Lv.o k hq)))).block j hl (fun h=>h (Fy.o j (HP.o.lt j hj.1)))⟩));obtain ⟨bj,Na⟩:∃bj,bj=((R.take pre.length).flatMap fun p=>p.2.holes)++r.holes:=⟨_,rfl⟩;obtain ⟨N0,hN0⟩:∃N0,N0=Z3h (R.take pre.length):=⟨_,rfl⟩
            have Ik:N0.length≤500000:=by
             have h1:=Zou (R:=R.take pre.length) (fun p hp=>(X3.o p (List.mem_of_mem_take hp)).2.2.2.1);have h2:=Kd.o;rw [hN0];omega
            rw [←Na,←hN0] at Gg;have HL5:=hU Na;have HN0:=hU hN0;have HN0L:=hU Ik;clear Kt rr x0 x1 x2 x3 x4 x5 Vd u2 u2f u2l hWd Na hN0 Ik
            gi_loopw [153] (fun i wq=>∃m:Nat,i = .int .i64 m∧m≤r.news.length∧∃v3',SR n Rg.heap.size KH CH wq w5.heap.size gm gp ns mm.length (Z2l look done:Nat) [] gs bj (L2++r.aparts) ((r.news.take m).foldl once N0) v0 v1' (.slice Ap (L2.length+r.aparts.length) cp) v3'∧Fr (fun k=>¬KK k) X2 wq) (fun i wq=>r.news.length - (intOf i).toNat)
            case atStart=>exact ⟨0,rfl,Nat.zero_le _,v3,by rw [List.take_zero,List.foldl_nil];exact Gg.o,xx.o⟩
            case round=>
             obtain ⟨m,rfl,hm,v3',hS,hF⟩:=hrel;obtain ⟨Wp,c8_,hv8,-,-,-⟩:=Z14 hS.o3;subst hv8;by_cases sd:m<r.news.length
             · skip
               obtain ⟨y,hy⟩:∃y,y=r.news[m]:=⟨_,rfl⟩;obtain ⟨NN,hNN⟩:∃NN,NN=(r.news.take m).foldl once N0:=⟨_,rfl⟩
               have Gx:NN.length≤501000:=by
                have h1:=Zho (r.news.take m) N0;have h2:=Ad.o.2.2.2.1;have h3:=HN0L.o;rw [hNN];simp only [Zu3] at h1;omega
               (have Sx:(r.news.take (m+1)).foldl once N0=once NN y:=by rw [←Z2w sd,List.foldl_append,hNN,hy];rfl);rw [←hNN] at hS;have Xq:=Iu.o.2.2.2.keep (w':=wr) (D':=fun j=>K j∧¬E j) hF.size (fun j hj hl=>⟨hj,hF.block j hl (fun h=>h (Fy.o j (HP.o.lt j hj.1)))⟩);obtain ⟨ge,oe,sf,l8,q0,q1,q2⟩:=Zq5 (RowR.rd (hs:=Sym.cells_length) Xq) sd;subst sf;rw [←hy] at q0 q1 q2;have b1:(0:Int)≤(m:Int):=Ya;have b2:(m:Int)<(r.news.length:Int):=Ya;have g0:=(pw.o.fr hF (fun h=>h gq.o.2.1)).c1;have bi:=(pw.o.fr hF (fun h=>h gq.o.2.1)).lt;have Je:=hU Sx;have Pd:=hU Gx;have HF:=hU hF;have HS:=hU hS;clear hy hNN Gx Sx hS hF Xq;gi_wp2_with fail;refine Yi8 ?_;obtain ⟨W9,Gh⟩:∃W9,W9=wr.alloc (.cells (Q1d y) 41):=⟨_,rfl⟩;have Ct:Below wr.heap.size wr W9:=YLf;have uo:Blk W9 wr.heap.size 41 (Q1d y):=YC8;have U5:=Gh;rw [←Gh];clear Gh q0 q1 q2 g0 bi;(have Sj:W9.heap.size=wr.heap.size+1:=by rw [U5];simp);have Kt:=HS.o.theirs (K':=fun k=>KH k∨k=wr.heap.size) (M:=fun _=>False) (Fr.of_new Ct) (fun _ h=>h.elim) (fun k hk=>hk.imp id (fun e=>Ya)) (fun k hk=>.inl (HS.o.sub k hk)) (fun k hk=>hk.elim (fun hk=>by have:=HS.o.lt k hk;omega) (fun e=>Ya));have Gg:=hU Kt;have yq:=hU Ct;clear U5;refine (callsIn_wide.2 (Kt.putN y (by have:=Pd.o;omega))).mono ?_;rintro e Eu ⟨rfl,g3,g4⟩;have wx:Fr (fun k=>¬KK k) X2 Eu:=(HF.o.into (Fr.of_new (M:=fun _=>False) yq.o) (fun _ h=>h.elim)).trans (g4.fr.mono (fun k _ hk hq=>hk (.inl (.inl (Lv.o k hq)))));by_cases hin:y∈NN
               · have hh:has Z0o (puts Z0o [] NN) y=true:=by rw [Z9z];simpa using hin
                 obtain ⟨s1,s2⟩:=Gg.o.old hin g3 g4;have HN:=hU (show once NN y=NN by unfold once;rw [if_pos hin]);have S1:=hU (s1.cls (K':=KH) (fun k _ h=>.inl h) HS.o.sub (fun k hk=>s1.lt k (.inl hk)));have Bq:=hU wx;clear g3 g4 s1 s2 Kt Ct uo hin wx;gi_wp2_with fail;go_roundw
                 case rel=>exact ⟨m+1,Yn,Ya,_,by rw [Je.o,HN.o];exact S1.o,Bq.o⟩
                 case measure=>simp [intOf];omega
               · have hh:has Z0o (puts Z0o [] NN) y=false:=by rw [Z9z];simpa using hin
                 have HN:=hU (show once NN y=NN ++ [y] by unfold once;rw [if_neg hin]);have hxK:Blk Eu wr.heap.size 41 (Q1d y):=uo.fr g4.fr (fun hk=>hk (.inl (.inr rfl)));have Cb:Eu.ownsRow 0 41 3 (.slice Wp NN.length c8_) NN.length (NN.flatMap Sym.cells):=Z0s Gg.o.o3 g4.fr (fun k e hk=>hk (.inr e));have nf:=(⟨g4.only,g4.fr.mono (fun k _ hk hq=>hk (.inl hq))⟩:Mine [154,41] (fun k=>KH k∨k=wr.heap.size) W9 Eu).only _ _ _ Yc Gg.o.blk;obtain ⟨y0,y1,y2⟩:=hxK.c3;have D5:=hxK.lt;have t3:=(nf.cell 3).trans rfl;have t3l:=nf.lt;have L6:=hU nf;have Tw:=hU Cb;have G3:=hU g3;have G4:=hU g4;have Bq:=hU wx;clear g3 g4 Kt Ct uo hin wx hxK nf Cb;(gi_wp2_with (gi_at_builtin;refine Z6x (Eu.alloc (.cells (Q1d y) 41)) rfl _ _ 34 rfl 41 iy _ 3 32 Tryz.underlying34 hiy hiy0 hiy1 hiy2 rfl Ya (.slice Wp NN.length c8_) NN.length (NN.flatMap Sym.cells) rfl (Z02 Tw.o ((Zst _ _).alloc (Zsu _) _)) (some ⟨Eu.heap.size,0,none⟩) 1 1 (Sym.cells y) rfl rfl (fun _=>⟨_,rfl,Zte (heap_alloc_new _ _)⟩) (by have:=Zcb [y];simpa using this) (by have:=Pd.o;unfold maxLen;omega) (by have:=Pd.o;omega) ?_;intro vq Wq mq L8 af Ps;obtain ⟨Ln,cp_,Wn,-,-,-⟩:=Z14 mq;subst Wn;have gl:=(L6.o.new_ ((Zst Eu.heap.size Eu).alloc (Zsu _) (.cells (Q1d y) 41))).grown L8 (Z01 Tw.o L6.o Yc);have u3:=(gl.cell 3).trans rfl;have u3f:=gl.frozen 3;have u3l:=gl.lt;have i7:=hU (show Wq.ownsRow 0 41 3 (.slice Ln (NN.length+1) cp_) (NN.length+1) (NN.flatMap Sym.cells++Sym.cells y)∧(Eu.alloc (.cells (Q1d y) 41)).grownBy Wq (Value.slice Wp NN.length c8_).ownBlock∧_ from ⟨mq,L8,Ps⟩);clear gl mq L8 af Ps y0 y1 y2 D5 t3 t3l));obtain ⟨sn1,Nf⟩:=Gg.o.news G3.o G4.o ((Zst Eu.heap.size Eu).alloc (Zsu _) (.cells (Q1d y) 41)) (by rw [Ztd,Zta];simpa using i7.o.1) i7.o.2.1 i7.o.2.2;have SN1:=hU (sn1.cls (K':=KH) (fun k _ h=>.inl h) HS.o.sub (fun k hk=>sn1.lt k (.inl hk)));have R8:=hU ((HF.o.into (Fr.of_new (M:=fun _=>False) yq.o) (fun _ h=>h.elim)).trans (Nf.mono (fun k _ hk hq=>hk (.inl (Lv.o k hq)))));clear sn1 Nf;go_roundw
                 case rel=>exact ⟨m+1,Yn,Ya,_,by rw [Je.o,HN.o];exact SN1.o,R8.o⟩
                 case measure=>simp [intOf];omega
             · obtain rfl:m=r.news.length:=by omega
               rw [Ztc] at hS;have HS:=hU hS;have HF:=hU hF;clear hS hF;gi_wp2_with fail;have hI:=HI.o;subst hI;have hX2z:=X7.o;have rl:=Bc.o;(have hKF :∀k,Rg.heap.size≤k→k<F.heap.size→KK k:=fun k h1 h2=>by rw [rl];exact .inl (.inl (.inr (.inr ⟨h1,h2⟩))));(have hKN :∀k,k<X2.heap.size→¬Z26 X2 k→KK k:=fun k h1 h2=>by rw [rl];exact .inr ⟨h1,h2⟩);have z1:=HF.o.size;have z2:=fj.o.size;have z3:=Oc.o.size;have z4:=Sk.o;have z5:=HFX.o
               have k1:Kept Rg.heap.size F X2 wr:=by
                refine ⟨⟨z1,fun k o hB hk hc=>?_⟩,fun k h1 h2=>HF.o.block k Ya (fun h=>h (hKF k h1 h2))⟩;have ik:=(Zt7.1 hk).1;refine (HF.o.block k ik (fun h=>h (hKN k ik ?_))).trans hk;rintro ⟨c,t,f,hh⟩;rw [hk] at hh;cases hh;cases hc
               have k2:Z10 AA X wr:=by
                refine ⟨Ya,fun a e hl=>?_⟩;have ag:=ax.o a e;have e1:=HF.o.block a.block Ya (fun h=>h (Fy.o _ ag));have e2:=Oc.o.block a.block Ya (.inl Ya);have e3:=fj.o.block a.block hl;exact e1.trans (e2.trans e3)
               have k3:=Vm.o.fr HF.o (fun h=>h gq.o.1);have k4:=pw.o.fr HF.o (fun h=>h gq.o.2.1);have k5:Fr (fun k=>k=bp∨w5.heap.size≤k) w5 wr:=HFR2.o.into HF.o (fun k hk=>.inl (.inr (Nat.le_of_not_lt fun h=>hk (Fy.o k h))));refine ⟨k1,k2,⟨CH,v0,v1',.slice Ap (L2.length+r.aparts.length) cp,.slice Wp (r.news.foldl once N0).length c8_,?_,HV0.o,Nu.o⟩,k3,k4,k5,HFW.o,Ya⟩
               · have Ly:(pre ++ [(⟨xk,r.num,r.level,⟨A1,r.elems.length,c1⟩,⟨A2,r.holes.length,c2⟩,⟨A3,r.aparts.length,c3⟩,⟨A4,r.news.length,c4⟩⟩:PgR)]).length=pre.length+1:=by simp
                 rw [Ly,←Z2w hkR,Zok,Zfu,Zta,Zta];have er:R[pre.length].2=r:=Sn.o.symm;simp only [Zu6,List.flatMap_nil,Zu9];rw [er,←HL2.o,←HL5.o,←HN0.o,←Mb.o];refine HS.o.cls (fun k _ hk=>?_) (fun k hk=>.inr (.inl hk)) (fun k hk=>?_)
                 · rcases hk with hk|hk|hk
                   · exact Lv.o k (by rw [rl];exact .inl (.inl (.inl hk)))
                   · exact HS.o.sub k hk
                   · exact Lv.o k (hKF k hk.1 hk.2)
                 · rcases hk with hk|hk|hk
                   · exact HS.o.lt k (Lv.o k (by rw [rl];exact .inl (.inl (.inl hk))))
                   · exact HS.o.lt k (HS.o.sub k hk)
                   · exact HS.o.lt k (Lv.o k (hKF k hk.1 hk.2))
    · intro F D1 X hD1 j9 hK1d
      subst hI;obtain ⟨⟨C,v0,v1,v2,v3,hS,An,ai⟩,im,jj,zp,hFw,hFX⟩:=j9;have HCN:=hU ai;clear ai;(have hRm:R.take mm.length=R:=by rw [←Le];exact Ztc);rw [hRm] at hS;have HV0:=hU An;obtain ⟨Da,ze,snT,AT,cT,O9,hpk,hAk⟩:=hS.map_;have Gt:=hU hS;have py:=hU zp;have Gb:=(Zn3 lv R);have HGL:=hU (Zlg (lv:=lv) (R:=R) (fun p hp=>(X3.o p hp).1));have fv:=hU hK1d;have g0:=im.c1;have bi:=im.lt;have HMB2:=hU Da;have Ft:=hU O9;clear hS ze hpk hAk zp Gb Da O9 An;go_wp2_with fail;refine (Zkg gm X).mono ?_;rintro e kt ⟨rfl,ur,B0⟩;have hzz:=ur.size;have J9:=Zn0 X.heap.size cT snT AT gm gp (gpg lv R) kt ((B0.cell 0).trans rfl) (HMB2.o.new_ ur) (Ft.o.new_ ur);have dw:=hU J9;have qd:=hU (Gt.o.new_ ur);have Fq:=hU (Ft.o.new_ ur);have X5:=hU ur;have Uq:=hU ((ur.block D1 (Zt7.1 fv.o).1).trans fv.o);clear J9 ur B0 g0 bi im jj;go_wp2_with fail;refine (wpIn_wide (n:=0)).1 ?_;have hgt13:=qd.o.blk.lt;have hATl:=Fq.o.row_lt
      have hATn:AIn AT (fun k=>k≠w5.heap.size):=fun a ha e=>by
       subst ha;exact Z01 Fq.o.row qd.o.blk Yc (by simp [Value.ownBlock,e])
      (have hgpn:gp≠w5.heap.size:=fun e=>by have:=Fq.o.blk;rw [e] at this;exact this.ne_ qd.o.blk Yc rfl);have HATL:=hU hATl;have HATN:=hU hATn;obtain ⟨I2,Bi⟩:∃I2:World→List PgT→World→Prop,I2=fun F2 p Y=>(∃u0,Blk Y w5.heap.size 36 #[u0,v1,v2,v3,.int .i64 mm.length,.int .i64 (Z2l look done:Nat)]∧Y.ownsRow 0 52 14 u0 p.length ((p.map PgT.tr).flatMap Z0j.cells)∧∀k,u0.ownBlock=some k→F2.heap.size≤k∨k<0)∧Fr (fun k=>k=gp∨k=w5.heap.size∨kt.heap.size≤k) kt Y∧kt.heap.size≤F2.heap.size∧F2.heap.size≤Y.heap.size:=⟨_,rfl⟩;refine Z66 (w:=kt) Yd dw.o.enter dw.o.iter (fun x=>Yd) dw.o.trans dw.o.keep (fun W W1 h=>Z36 (dw.o.mods W W1 h)) I2 (fun _ _ _ _=>False) ?_ (fun _ _ _ _ _ h=>h.elim) ?_ ?_ ?_ ?_
      · subst Bi
        rintro F2 p Y Z ⟨⟨u0,h1,h2,h3⟩,h4,h5,h6⟩ hp;exact ⟨⟨u0,h1.priv hp,Z38 h2 hp,h3⟩,h4.priv hp (Zsu _),h5,Zt6 h6 hp.size⟩
      · intro W F2 hW hs
        subst Bi;have Sd:=hs.size;have hWz:=hW.size;have hF:=hs.fr;refine ⟨⟨.slice none 0 0,?_,Z2t _ _ _,fun _ h=>YZt⟩,(Fr.of_new (M:=fun k=>k=gp∨k=w5.heap.size∨kt.heap.size≤k) hW).trans (hF.mono (fun k _ hk=>.inl hk)),Ya,Zsu _⟩;rw [←HV0.o];exact (qd.o.blk.new_ hW).fr hF (fun e=>hgpn e.symm)
      · intro F2 lo2 pre x post Y hx qv j9
        rw [Bi] at j9;obtain ⟨⟨u0,h1,h2,h3⟩,h4,h5,h6⟩:=j9;obtain ⟨Au,cu,hu0,-,-,-⟩:=Z14 h2;subst hu0
        have Ly:pre.length≤500000:=by
         have h9:=HGL.o;(have h8:(gpg lv R).length=pre.length+(post.length+1):=by rw [hx];simp);have:=Xx.o;omega
        have HI2:=hU Bi;refine Yuw ?_;intro H1 H2 H3 H4;have H5:=hU h5;have H6:=hU h6;have Ve:=hU Ly;clear hx Bi h1 h2 h3 h4 Ly;simp only [Zbu,Array.zip];gi_wp2_with fail;refine ⟨Kept.new_ ((Zst _ Y).alloc (Zsu _) _) h6,fun Y2 hp2 Aj=>?_⟩;intros;obtain ⟨Y1,S6⟩:∃Y1,Y1=Y.alloc (.cells (Q0h x.tr) 52):=⟨_,rfl⟩;(have B9:Below Y.heap.size Y Y1:=by rw [S6];exact (Zst _ _).alloc (Zsu _) _);(have hrY:Blk Y1 Y.heap.size 52 (Q0h x.tr):=by rw [S6];exact Blk.new _ _ _);rw [←S6] at hp2 Aj;have T0:=hU (hrY.priv hp2);have lg:=(H1.o.new_ B9).priv hp2;have Ee:=hU lg;have j6:=hU (Z38 (Z02 H2.o B9) hp2);have Ic:=hU B9;have HPY:=hU hp2;have HZY:=hU (show Y2.heap.size=Y.heap.size+1 by rw [Aj,S6];simp);have t0:=(lg.cell 0).trans rfl;have t0l:=lg.lt;have pi:=T0.o;have d0:=(pi.cell 0).trans rfl;have d1:=(pi.cell 1).trans rfl;have d2:=(pi.cell 2).trans rfl;have d3:=(pi.cell 3).trans rfl;have d4:=(pi.cell 4).trans rfl;have d5:=(pi.cell 5).trans rfl;have d6:=(pi.cell 6).trans rfl;have d7:=(pi.cell 7).trans rfl;have d8:=(pi.cell 8).trans rfl;have d9:=(pi.cell 9).trans rfl;have d10:=(pi.cell 10).trans rfl;have d11:=(pi.cell 11).trans rfl;have d12:=(pi.cell 12).trans rfl;have d13:=(pi.cell 13).trans rfl
        have Jg:=pi.lt;clear S6 hrY hp2 Aj B9 lg pi h5 h6;(gi_wp2_with (gi_at_builtin;refine Z6x (Y2.alloc (.cells (Q0h x.tr) 52)) rfl _ _ 31 rfl 52 it _ 14 128 Tryz.underlying31 hit hit0 hit1 hit2 rfl Ya (.slice Au pre.length cu) pre.length ((pre.map PgT.tr).flatMap Z0j.cells) rfl (Z02 j6.o ((Zst _ _).alloc (Zsu _) _)) (some ⟨Y2.heap.size,0,none⟩) 1 1 (Z0j.cells x.tr) rfl rfl (fun _=>⟨_,rfl,Zte (heap_alloc_new _ _)⟩) (by have:=Zea [x.tr];simpa using this) (by have:=Ve.o;unfold maxLen;omega) (by have:=Ve.o;omega) ?_;intro vq Wq mq L8 af Ps;obtain ⟨Ln,cp_,Wn,-,-,-⟩:=Z14 mq;subst Wn;have gl:=(Ee.o.new_ ((Zst Y2.heap.size Y2).alloc (Zsu _) (.cells (Q0h x.tr) 52))).grown L8 (Z01 j6.o Ee.o Yc);have u0:=(gl.cell 0).trans rfl;have u0f:=gl.frozen 0;have u0l:=gl.lt;have i7:=hU (show Wq.ownsRow 0 52 14 (.slice Ln (pre.length+1) cp_) (pre.length+1) ((pre.map PgT.tr).flatMap Z0j.cells++Z0j.cells x.tr)∧(Y2.alloc (.cells (Q0h x.tr) 52)).grownBy Wq (Value.slice Au pre.length cu).ownBlock∧_ from ⟨mq,L8,Ps⟩);have ld:=hU gl;clear gl mq L8 af Ps d0 d1 d2 d3 d4 d5 d6 d7 d8 d9 d10 d11 d12 d13 Jg t0 t0l));have Bi:=HI2.o;subst Bi
        have hF:Fr (fun k=>k=w5.heap.size∨(Value.slice Au pre.length cu).ownBlock=some k) Y2 (Wq.setCell ⟨w5.heap.size,0,none⟩ (.slice Ln (pre.length+1) cp_)):=
         (((Fr.refl _ Y2).alloc _).grown i7.o.2.1 (fun k hk=>.inl (.inr hk))).setCell (p:=⟨w5.heap.size,0,none⟩) (.inl (.inl rfl)) _
        have z1:=hF.size;have z2:=Ic.o.size;have z3:=HPY.o.size;have z4:=HZY.o;have z5:=H5.o;have z6:=H6.o;have how :∀k,(Value.slice Au pre.length cu).ownBlock=some k→F2.heap.size≤k:=fun k hk=>(H3.o k hk).elim id (fun h=>Ya)
        have k1:Kept kt.heap.size F2 Y2 (Wq.setCell ⟨w5.heap.size,0,none⟩ (.slice Ln (pre.length+1) cp_)):=by
         refine ⟨⟨z1,fun k o hB hk hc=>?_⟩,fun k h1 h2=>hF.block k Ya (fun h=>h.elim (fun e=>Ya) (fun e=>by have:=how k e;omega))⟩;have ik:=(Zt7.1 hk).1;refine (hF.block k ik (fun hm=>?_)).trans hk;obtain ⟨c,t,f,hh⟩:Z26 Y2 k:=hm.elim (fun e=>e ▸ Ee.o.at_) (fun e=>Z54 j6.o k e);rw [hk] at hh;cases hh;cases hc
        have k2:Z10 AT Y (Wq.setCell ⟨w5.heap.size,0,none⟩ (.slice Ln (pre.length+1) cp_)):=by
         refine ⟨Ya,fun a e hl=>?_⟩;have ag:=HATL.o a e;have e1:=hF.block a.block Ya (fun h=>h.elim (HATN.o a e) (fun h=>by have:=how _ h;omega));have e2:=HPY.o.block a.block Ya (.inl ag);have e3:=Ic.o.block a.block hl;exact e1.trans (e2.trans e3)
        have k5:Fr (fun k=>k=gp∨k=w5.heap.size∨kt.heap.size≤k) kt (Wq.setCell ⟨w5.heap.size,0,none⟩ (.slice Ln (pre.length+1) cp_)):=
         ((H4.o.into (Fr.of_new (M:=fun _=>False) Ic.o) (fun _ h=>h.elim)).priv HPY.o (Zsu _)).into hF (fun k hk=>hk.elim (fun e=>.inl (.inr (.inl e))) (fun e=>.inr (by have:=how k e;omega)))
        have hpn:(pre ++ [x]).length=pre.length+1:=Ye;refine ⟨k1,k2,⟨.slice Ln (pre.length+1) cp_,ld.o.set_ 0 _,?_,fun k hk=>?_⟩,k5,z5,Ya⟩
        · rw [hpn,Ztm,Zta]
          refine ownsRow_setCell_other (a:=⟨w5.heap.size,0,none⟩) ?_ (Z01 i7.o.1 ld.o Yc) _;simpa using i7.o.1
        · rcases i7.o.2.2 with h|h
          · exact H3.o k (h ▸ hk)
          · rw [h] at hk
            injection hk with hk;simp only [Zti] at hk;exact .inl Ya
      · intro F2 D2 Y hD2 j9 hK2d
        subst Bi;obtain ⟨⟨u0,h1,h2,h3⟩,h4,h5,h6⟩:=j9;(have ff:w.heap.size+1≠bp:=fun e=>by have h7:=ft.o.blk;rw [←e] at h7;exact h7.ne_ HT.o Yc rfl);have Fa:Blk kt (w.heap.size+1) 36 Q2w:=(HT.o.fr py.o (fun h=>h.elim ff (fun h=>by have:=HT.o.lt;omega))).new_ X5.o;(have Eg:w.heap.size+1≠gp:=fun e=>by have h7:=Fq.o.blk;rw [←e] at h7;exact h7.ne_ Fa Yc rfl);have htl:=HT.o.lt;have hzx:=py.o.size;have hzb:=X5.o.size;have htY:Blk Y (w.heap.size+1) 36 Q2w:=Fa.fr h4 (fun h=>h.elim Eg (fun h=>h.elim (fun h=>Ya) (fun h=>Ya)));have HTY:=hU htY;obtain ⟨Ax,cx,e0,-,-,-⟩:=Z14 h2;obtain ⟨rh,Lh,e1,-,-,-⟩:=Gt.o.o1.form;obtain ⟨Fw,Uy,e2,-,-,-⟩:=Z14 Gt.o.o2;obtain ⟨Sz,Nd,e3,-,-,-⟩:=Z14 Gt.o.o3;subst e0;subst e1;subst e2;subst e3;have ly:=hU (show Y.rangeAt w5.heap.size 0 [.slice Ax (gpg lv R).length cx,.slice rh (R.flatMap fun p=>p.2.holes).length Lh,.slice Fw (R.flatMap fun p=>p.2.aparts).length Uy,.slice Sz (Z3h R).length Nd,.int .i64 mm.length,.int .i64 (Z2l look done:Nat)] from h1.range);have Nw:=hU (show Y.there (w.heap.size+1) 0 (#[.slice Ax (gpg lv R).length cx,.slice rh (R.flatMap fun p=>p.2.holes).length Lh,.slice Fw (R.flatMap fun p=>p.2.aparts).length Uy,.slice Sz (Z3h R).length Nd,.int .i64 mm.length,.int .i64 (Z2l look done:Nat)]:Array Value).size from htY.there);have yy:(#[.slice Ax (gpg lv R).length cx,.slice rh (R.flatMap fun p=>p.2.holes).length Lh,.slice Fw (R.flatMap fun p=>p.2.aparts).length Uy,.slice Sz (Z3h R).length Nd,.int .i64 (mm.length:Int),.int .i64 ((Z2l look done:Nat):Int)]:Array Value).all (·.oneCell')=true:=Yb;have HONE:=hU yy;have H1:=hU h1;have H2:=hU h2;have H4:=hU h4;have kd:=hU hK2d;have Vk:D1≠gp∧D1≠w5.heap.size:=⟨fun e=>(by have h7:kt.heap[gp]? = some _:=Fq.o.blk;have h8:=Uq.o;rw [e,h7] at h8;cases h8),fun e=>(by have h7:kt.heap[w5.heap.size]? = some _:=qd.o.blk;have h8:=Uq.o;rw [e,h7] at h8;cases h8)⟩;have kf:=hU ((h4.block D1 (Zt7.1 Uq.o).1 (fun h=>h.elim Vk.1 (fun h=>h.elim Vk.2 (fun h=>by have:=(Zt7.1 Uq.o).1;omega)))).trans Uq.o);have hrl:=htY.lt;clear h1 h2 h3 h4 h6 htY yy Fa ff Eg Vk;(go_wp2_with (first|(with_reducible refine wpList_load_mid rfl 36 _ rfl w5.heap.size 0 rfl _ _ ly.o Tryz.underlying36 rfl Yb ?_)|(with_reducible refine wpList_store_mid rfl 36 _ _ rfl (w.heap.size+1) 0 #[.slice Ax (gpg lv R).length cx,.slice rh (R.flatMap fun p=>p.2.holes).length Lh,.slice Fw (R.flatMap fun p=>p.2.aparts).length Uy,.slice Sz (Z3h R).length Nd,.int .i64 mm.length,.int .i64 (Z2l look done:Nat)] rfl rfl Nw.o Yb HONE.o ?_)));obtain ⟨Wf,Fi⟩:∃Wf,Wf=Y.setCells (w.heap.size+1) 0 [.slice Ax (gpg lv R).length cx,.slice rh (R.flatMap fun p=>p.2.holes).length Lh,.slice Fw (R.flatMap fun p=>p.2.aparts).length Uy,.slice Sz (Z3h R).length Nd,.int .i64 mm.length,.int .i64 (Z2l look done:Nat)]:=⟨_,rfl⟩;have hw1:w.heap.size+1<kt.heap.size:=Ya;(have hd2:Wf.heap[D2]? = some (.deferred (some [])):=by rw [Fi,Z1d _ _ _ _ _ Ya];exact kd.o);have hd1l:D1<kt.heap.size:=(Zt7.1 Uq.o).1;(have hd1:(Wf.putObj D2 (.deferred none)).heap[D1]? = some (.deferred (some [])):=by rw [Ztj Ya,Fi,Z1d _ _ _ _ _ (by have:=Sk.o;omega)];exact kf.o);(have Tp:Wf.rangeAt (w.heap.size+1) 0 [.slice Ax (gpg lv R).length cx,.slice rh (R.flatMap fun p=>p.2.holes).length Lh,.slice Fw (R.flatMap fun p=>p.2.aparts).length Uy,.slice Sz (Z3h R).length Nd,.int .i64 mm.length,.int .i64 (Z2l look done:Nat)]:=by rw [Fi];exact Zsy Y (w.heap.size+1) 0 _ Nw.o);refine Ykv ?_;rw [←Fi];have HWf:=hU Fi;clear Fi;go_simp;simp only [bodyPostM];refine ⟨Ye,.inl ⟨_,_,rfl,run_takeDeferred hd2,?_⟩⟩
        refine ⟨Ye,.inl ⟨_,_,rfl,run_takeDeferred hd1,?_⟩⟩;obtain ⟨WF,hWF⟩:∃WF,WF=(Wf.putObj D2 (.deferred none)).putObj D1 (.deferred none):=⟨_,rfl⟩;rw [←hWF];have hzb0:=Sk.o;have hFYf:Fr (fun k=>k=w.heap.size+1) Y Wf:=by rw [HWf.o];exact Fr.setCells _ _ (Fr.refl _ Y) (.inl rfl)
        have Xn:Fr (fun k=>k=w.heap.size+1∨k=D1∨k=D2) Y WF:=by
         rw [hWF];exact ((hFYf.mono (fun k _ hk=>.inl hk)).putObj (.inl (.inr (.inr rfl))) _).putObj (.inl (.inr (.inl rfl))) _
        have hrF:WF.rangeAt (w.heap.size+1) 0 [.slice Ax (gpg lv R).length cx,.slice rh (R.flatMap fun p=>p.2.holes).length Lh,.slice Fw (R.flatMap fun p=>p.2.aparts).length Uy,.slice Sz (Z3h R).length Nd,.int .i64 mm.length,.int .i64 (Z2l look done:Nat)]:=fun j v hv=>by
         rw [hWF];refine (World.cell?_of_block ?_).trans (Tp j v hv);dsimp only;rw [Ztj Ya,Ztj Ya]
        have nD :∀k,(k=D1∨k=D2)→¬Z26 Y k:=fun k hk=>by
         rintro ⟨c,t,f,hh⟩;rcases hk with rfl|rfl
         · rw [kf.o] at hh;cases hh
         · rw [kd.o] at hh;cases hh
        have o6:Fr (fun k=>k=gp∨k=w5.heap.size∨kt.heap.size≤k) kt Y:=H4.o;have Wy:=X5.o
        have rowY :∀(e size m:Nat) (v:Value) (xs:List Value),e≠205→e≠36→X.ownsRow 0 e size v m xs→WF.ownsRow 0 e size v m xs:=fun e size m v xs n1 n2 h=>by
         have h13:=Z02 h Wy
         have hY:=Z0s h13 o6 (fun k hk hm=>by
          rcases hm with hm|hm|hm
          · subst hm;exact Z01 h13 Fq.o.blk n1 hk
          · subst hm;exact Z01 h13 qd.o.blk n2 hk
          · have:=Z3i h13 k hk;omega)
         exact Z0s hY Xn (fun k hk hm=>by
          rcases hm with hm|hm
          · subst hm;exact Z01 hY HTY.o n2 hk
          · exact nD k hm (Z54 hY k hk))
        have r0:WF.ownsRow 0 52 14 (.slice Ax (gpg lv R).length cx) (gpg lv R).length (((gpg lv R).map PgT.tr).flatMap Z0j.cells):=Z0s H2.o Xn (fun k hk hm=>by
         rcases hm with hm|hm
         · subst hm;exact Z01 H2.o HTY.o Yc hk
         · exact nD k hm (Z54 H2.o k hk))
        (have Cf:(gpg lv R).map PgT.tr=Z5r lv R:=by rw [Zpz,List.map_map];simp [Function.comp_def,pg]);(have uj:(gpg lv R).length=(Z5r lv R).length:=by rw [Zpz,Ztl]);rw [Cf,uj] at r0;have r2:=rowY _ _ _ _ _ Yc Yc Gt.o.o2;have r3:=rowY _ _ _ _ _ Yc Yc Gt.o.o3
        have cw :∀k,C k→WF.heap[k]? = X.heap[k]?:=fun k hk=>by
         have hKk:=Gt.o.sub k hk;have sd:=Gt.o.lt k hKk;have hn:=HCN.o k hk
         have n1:k≠gp:=fun e=>by
          obtain ⟨_,_,_,_,_,_,g,_⟩:=Gt.o.map_;exact g (e ▸ hKk)
         have n2:k≠w5.heap.size:=fun e=>Gt.o.nog (e ▸ hKk);have Mm:=Wy.block k sd;have eY:=o6.block k Ya (fun h=>h.elim n1 (fun h=>h.elim n2 (fun h=>Ya)))
         have hcY:Z26 Y k:=by
          rcases Gt.o.cel k hk with h|⟨c,t,f,hh⟩
          · omega
          · exact ⟨c,t,f,(eY.trans Mm).trans hh⟩
         have eF:=Xn.block k (by have:=o6.size;omega) (fun h=>h.elim (fun e=>Ya) (fun h=>nD k h hcY));exact eF.trans (eY.trans Mm)
        (have Er:X.heap.size≤WF.heap.size:=by have:=o6.size;have:=Xn.size;omega);obtain ⟨css,q1,q2,q3⟩:=Gt.o.o1;have r1':OwnC (Z0v n) 80 C WF (.slice rh (R.flatMap fun p=>p.2.holes).length Lh) (R.flatMap fun p=>p.2.holes):=⟨css,rowY _ _ _ _ _ Yc Yc q1,q2.imp fun a cs hr=>(Z0v n).keep Er (fun k hk hl=>⟨hk,cw k hk⟩) hr,q3⟩;have r1:RowR (Z0v n) (· < WF.heap.size) WF rh Lh (R.flatMap fun p=>p.2.holes):=r1'.row (fun k hk=>Zsw (Gt.o.lt k (Gt.o.sub k hk)) Er) (fun a ha=>r1'.lt a.block (by subst ha;rfl))
        have G0:Fr (fun k=>k=bp∨k=w.heap.size+1∨w5.heap.size≤k) w5 WF:=by
         have f1:Fr (fun k=>k=bp∨k=w.heap.size+1∨w5.heap.size≤k) w5 kt:=(py.o.mono (fun k _ hk=>hk.elim .inl (fun hk=>.inr (.inr hk)))).into (Fr.of_new (M:=fun _=>False) Wy) (fun _ h=>h.elim);have hgpl:w5.heap.size≤gp:=HGPL.o
         have f2:=f1.into o6 (fun k hk=>by
          rcases hk with hk|hk|hk
          · exact .inl (.inr (.inr Ya))
          · exact .inl (.inr (.inr Ya))
          · exact .inl (.inr (.inr Ya)))
         exact f2.into Xn (fun k hk=>by
          rcases hk with hk|hk|hk
          · exact .inl (.inr (.inl hk))
          · exact .inl (.inr (.inr Ya))
          · exact .inl (.inr (.inr Ya)))
        have hGF:G E done WF:=HF.o.steady HP.o.g G0 (fun k hk=>by
         rcases hk with hk|hk|hk
         · subst hk
           exact ⟨fun h=>pj.o (HP.o.sub _ h),Nat.le_of_not_lt fun h=>pj.o (HP.o.low _ h)⟩
         · subst hk
           exact ⟨fun h=>Rp.o (HP.o.sub _ h),Ya⟩
         · exact ⟨fun h=>by have:=HP.o.lt _ (HP.o.sub _ h);omega,Ya⟩)
        have hFE:Fr E0 w WF:=Is.o.into G0 (fun k hk=>by
         rcases hk with hk|hk|hk
         · subst hk
           exact .inr (Nat.le_of_not_lt fun h=>pj.o (HP.o.low _ h))
         · exact .inr Ya
         · exact .inr Ya)
        have F8:Zbk n G look lv E0 done w (.returned (.agg #[.slice Ax (gpg lv R).length cx,.slice rh (R.flatMap fun p=>p.2.holes).length Lh,.slice Fw (R.flatMap fun p=>p.2.aparts).length Uy,.slice Sz (Z3h R).length Nd,.int .i64 mm.length,.int .i64 (Z2l look done:Nat)])) WF:=by
         unfold Zbk Z4q;rw [←HR.o];refine ⟨Ax,cx,rh,Lh,Fw,Uy,Sz,Nd,E,?_,Zg3 Z0j.cells_length r0,r1,Zg3 Z1a.cells_length r2,Zg3 Sym.cells_length r3,hGF,fun k hk=>(Mo.o k hk).imp id (fun h=>Ya),hFE,r0⟩;rw [uj,←Le]
        rw [←Re.o];exact ⟨_,Z1j (t:=6) (T:=36) rfl _ _ (w.heap.size+1) [.slice Ax (gpg lv R).length cx,.slice rh (R.flatMap fun p=>p.2.holes).length Lh,.slice Fw (R.flatMap fun p=>p.2.aparts).length Uy,.slice Sz (Z3h R).length Nd,.int .i64 mm.length,.int .i64 (Z2l look done:Nat)] _ rfl hrF Tryz.underlying36 rfl Yb,F8⟩
      · intro F2 D c pre post Y _ _ h
        exact h.elim
    · intro F D c pre post X _ _ h
      exact h.elim
  | cons k todo=>
    obtain ⟨b,off,x,rfl,hcp,mj,hq0⟩:=Ss.q.1.head;(have Sg:x = .int .i64 k:=by simpa [Int.cells1] using mj.symm);subst Sg;have Vj:=QRow.tail (xs:=todo.flatMap Int.cells1) (by have:=Ss.q.1;simpa [Int.cells1] using this);have Tx:Z97 K wr (.slice (if cap=1 then some ⟨b,off,none⟩ else some ⟨b,off+1,none⟩) todo.length (cap - 1)) todo:=⟨Vj,fun k' hk'=>Ss.q.2 k' (by split at hk'<;>exact hk')⟩;have P2:=Zt5 wr _ hq0;have La:St1 n w.heap.size look G K E done todo sb bm bp (.slice (if cap=1 then some ⟨b,off,none⟩ else some ⟨b,off+1,none⟩) todo.length (cap - 1)) wr:=⟨Ss.p,Ss.s,Ss.m,Tx⟩;have Ac:=hU La;have i1:(0:Int)<((todo.length+1:Nat):Int):=Ya;have i2:(1:Int)≤((todo.length+1:Nat):Int):=Ya;have i3:((todo.length+1:Nat):Int)≤(cap:Int):=Ya;have i4:(1:Int)≤(cap:Int):=Ya;clear Vj Ss La mj Tx;go_upto_region 8 with fail;generalize (if cap=1 then some (⟨b,off,none⟩:Addr) else some ⟨b,off+1,none⟩)=A1 at Ac ⊢;clear hq0 P2 i1 i2 i3 i4;go_wp2_with fail;refine (Zma k Ac.o.s (Srt.puts Z4n done Srt.nil) Ac.o.p.lt (by have:=Z1e Z4n done (l:=[]) Srt.nil;have:=Mr.o;simp at *;omega)).mono ?_;rintro e w5 ⟨rfl,bj,o7⟩;have Og:=hU (o7.only _ _ _ Yc HX.o);have P0:=hU (o7.only _ _ _ Yc HT.o);have Du:=hU (Is.o.into o7.fr (fun j hj=>.inr (Nat.le_of_not_lt fun hl=>hj (Ac.o.p.low j hl))));by_cases hd:k∈done
    · have hh:has Z0r (puts Z0r [] done) k=true:=by rw [Zha];simpa using hd
      have Jz:St1 n w.heap.size look G K E done todo sb bm bp (.slice A1 todo.length (cap - 1)) w5:=⟨Ac.o.p.mine HF.o o7,by rw [Z47 hh] at bj;exact bj,Ac.o.m.mine o7 Yc Yc Yc,Ac.o.q.mine o7 Yc⟩;have Bw:=hU Jz;have HD:=hU hd;clear Jz bj o7 hd;go_wp2_with fail
      go_roundg (cost look lv keys todo done)
      case measure=>rw [wt.o];unfold cost;simp
      case rel=>exact ⟨done,todo,K,E,rfl,Bw.o,by rw [←Oo.o,Zjo look lv keys HD.o],rfl,by have:=Mr.o;rw [wt.o] at this;unfold cost at this ⊢;simp at this;omega,Og.o,P0.o,Du.o,Mo.o,zv.o,Rp.o⟩
    · have hh:has Z0r (puts Z0r [] done) k=false:=by rw [Zha];simpa using hd
      obtain ⟨s1,s2,s3,s4⟩:=Ac.o.seen HF.o bj o7;have S1:=hU s1;have S2:=hU s2;have S3:=hU s3;have S4:=hU s4;have HD:=hU hd;clear bj o7 s1 s2 s3 s4 hd;go_wp2_with fail;refine (HF.o.call k (by have:=Mr.o;omega) HD.o S1.o.g).mono ?_;rintro e w6 ⟨E',g1,g2,g3,vx,j7,lu,lr,Be,Ot,Uu,l7,rfl,O4⟩;obtain ⟨t1,t2,t3,t4⟩:=St1.found S1.o.sub S1.o S2.o S3.o S4.o g1 g2 g3;have hEl:=S1.o.sub;have n1 :¬E w.heap.size:=fun h=>(Mo.o _ h).elim (fun h=>by have:=Dj.o _ h;omega) (fun h=>Ya);have n2 :¬E (w.heap.size+1):=fun h=>Rp.o (hEl _ h);have hx5l:=Og.o.lt;have ht5l:=P0.o.lt;have D0:=hU (Og.o.fr g3 n1);have Ih:=hU (P0.o.fr g3 n2);have ah:=hU (Du.o.into g3 (fun j hj=>(Mo.o j hj).imp id (fun h=>Ya)));have K7:=hU (show ∀j,E' j→E0 j∨w.heap.size+2≤j from fun j hj=>(g2 j hj).elim (Mo.o j) (fun h=>.inr (by have:=h.1;omega)));have xe:=hU (show Plus K w5 w6 w.heap.size from .inl zv.o);have X8:=hU (show ¬Plus K w5 w6 (w.heap.size+1) from fun h=>h.elim Rp.o (fun h=>by have:=h.1;omega));have V8:Z8n n (fun j=>Plus K w5 w6 j∧¬E' j) w6 (look k).1 vx j7 lu lr Be Ot Uu l7:=O4.keep (Zsu _) (fun j hj _=>⟨⟨.inr hj.1,hj.2⟩,rfl⟩);obtain ⟨K6,hK6⟩:∃K6,K6=Plus K w5 w6:=⟨_,rfl⟩;rw [←hK6] at t1 t2 t3 t4 xe X8 V8;clear hK6;obtain ⟨r,hr⟩:∃r,r=(look k).1:=⟨_,rfl⟩;rw [←hr] at V8 ⊢;(have Nl:SmR n r:=by rw [hr];exact Lx.o k);have HR:=hU hr;have HSR:=hU Nl;have T1:=hU t1;have T2:=hU t2;have T3:=hU t3;have T4:=hU t4;have xm:=hU V8;clear O4 g1 g2 g3 t1 t2 t3 t4 V8 hEl n1 n2 hr Nl Ac HX HT Is Og P0 Du S1 S2 S3 S4
      cases ik:(look k).2 with
      | false=>
        have Jr:=hU ik
        have qv:((Z2l look done:Nat):Int)≤100000:=by
         have:Z2l look done≤done.length:=List.length_filter_le _ _;have:=Mr.o;omega
        go_upto_region 11 with fail;obtain ⟨W7,pn⟩:∃W7,W7=w6.alloc (.cells (Q0t r vx j7 lu lr Be Ot Uu l7) 61):=⟨_,rfl⟩;have Vn:Below w6.heap.size w6 W7:=YF0;rw [←pn];clear pn;have uv:St1 n w.heap.size look G K6 E' (done ++ [k]) todo sb bm bp (.slice A1 todo.length (cap - 1)) W7:=St1.new_ HF.o ⟨T1.o,T2.o,by rw [Zac,addR,if_neg (by rw [Jr.o];simp)];exact T3.o,T4.o⟩ Vn;have us:=hU uv;have Xk:=hU (D0.o.new_ Vn);have Uv:=hU (Ih.o.new_ Vn);have Rf:=hU (ah.o.into (Fr.of_new (M:=fun _=>False) Vn) (fun _ h=>h.elim));clear uv Vn ik;go_wp2_with fail
        go_roundg (cost look lv keys todo (done ++ [k]))
        case measure=>
         have:=Za0 look lv keys done k;rw [wt.o];unfold cost;simp;omega
        case rel=>
         have h1:=Za0 look lv keys done k;have h2:=Mr.o;rw [wt.o] at h2;unfold cost at h2;refine ⟨done ++ [k],todo,K6,E',?_,us.o,by rw [←Oo.o,Zjn look lv keys HKEYS.o HD.o Jr.o],rfl,by unfold cost;simp at h2 ⊢;omega,Xk.o,Uv.o,Rf.o,K7.o,xe.o,X8.o⟩;rw [Za2,if_neg (by rw [Jr.o];simp)]
         go_num
      | true=>
        have Jr:=hU ik;go_upto_region 12 with fail;obtain ⟨W7,pn⟩:∃W7,W7=w6.alloc (.cells (Q0t r vx j7 lu lr Be Ot Uu l7) 61):=⟨_,rfl⟩;have Vn:Below w6.heap.size w6 W7:=YF0;(have hr7:Blk W7 w6.heap.size 61 (Q0t r vx j7 lu lr Be Ot Uu l7):=by rw [pn];exact Blk.new _ _ _);rw [←pn];clear pn;have C0:Mine [] K6 w6 W7:=Mine.new_ Vn;have U1:=hU (T1.o.mine HF.o C0);have U2:=hU (T2.o.mine C0 Ye Ye);have U4:=hU (T4.o.mine C0 Ye);have U3:=hU (T3.o.mine C0 Ye Ye Ye);have Xk:=hU (D0.o.new_ Vn);have Uv:=hU (Ih.o.new_ Vn);have Rf:=hU (ah.o.into (Fr.of_new (M:=fun _=>False) Vn) (fun _ h=>h.elim));have Cw:=hU (xm.o.keep Vn.size (fun j hj hl=>⟨hj,Vn.block j hl⟩));(have hnK :¬K6 w6.heap.size:=fun h=>by have:=T1.o.lt _ h;omega);have HNK:=hU hnK;obtain ⟨y0,y1,y2,y3,y4,y5⟩:=hr7.c6;have D5:=hr7.lt;have HR7:=hU hr7;clear ik Vn hr7 C0 hnK T1 T2 T3 T4 D0 Ih ah xm;go_wp2_with fail;refine (Zja (k:=k) (r:=r) U3.o U1.o.lt (by have:=Zov look done;have:=Mr.o;omega) (Zon HD.o _) Cw.o).mono ?_;rintro e w8 ⟨rfl,g3,g4⟩
        have Eh:St1 n w.heap.size look G K6 E' (done ++ [k]) (todo++Z12 lv r.elems 0) sb bm bp (.slice A1 todo.length (cap - 1)) w8:=by
         rw [Z84,Zu9];exact ⟨U1.o.mine HF.o g4,U2.o.mine g4 Yc Yc,by rw [Zac,addR,if_pos Jr.o,←HR.o];exact g3,U4.o.mine g4 Yc⟩
        have zd:=g4.only _ _ _ Yc HR7.o;have HST8:=hU Eh;have HX8:=hU (g4.only _ _ _ Yc Xk.o);have HT8:=hU (g4.only _ _ _ Yc Uv.o);have HFR8:=hU (Rf.o.into g4.fr (fun j hj=>.inr (Nat.le_of_not_lt fun hl=>hj (U1.o.low j hl))));have Rz:=hU (Cw.o.1.keep (D':=fun j=>K6 j∧¬E' j) g4.fr.size (fun j hj hl=>⟨hj,g4.fr.block j hl (fun h=>h hj.1)⟩));have j5:=hU (show r.elems.length≤1000 from HSR.o.1);obtain ⟨y0,y1,y2,y3,y4,y5⟩:=zd.c6;have D5:=zd.lt;have HLV:=hU (show Value.slice A1 todo.length (cap - 1) = .slice A1 (todo++Z12 lv r.elems 0).length (cap - 1) by rw [Z84,Zu9]);clear g3 g4 Eh zd U1 U2 U3 U4 Xk Uv Rf Cw HR7;have hce:=Rz.o.cap;go_wp2_with fail;clear y0 y1 y2 y3 y4 y5 D5
        go_loopw [9,64] (fun v i wr=>∃m:Nat,i = .int .i64 m∧m≤r.elems.length∧St1 n w.heap.size look G K6 E' (done ++ [k]) (todo++Z12 lv r.elems m) sb bm bp v wr∧Blk wr w.heap.size 3 #[.int .i64 lv]∧Blk wr (w.heap.size+1) 36 Q2w∧Fr E0 w wr∧RowR Z1f (fun j=>K6 j∧¬E' j) wr vx j7 r.elems) (fun v i wr=>r.elems.length - (intOf i).toNat)
        case atStart=>exact ⟨0,rfl,Nat.zero_le _,HST8.o,HX8.o,HT8.o,HFR8.o,Rz.o⟩
        case round=>
         obtain ⟨m,rfl,hm,Ss,hx,ht,zp,nu⟩:=hrel;obtain ⟨A,cap,rfl,C9,ug⟩:=Ss.q.1.form;by_cases sd:m<r.elems.length
         · obtain ⟨e0,To⟩:∃e0,e0=r.elems[m]:=⟨_,rfl⟩
           obtain ⟨ge,oe,sf,hDe,l8,q0,q1,q2,q3,q4,q5,q6,q7,q8,q9,Jw,P8,i5,Nb⟩:=Z9n nu sd;subst sf;rw [←To] at q0 q1 q2 q3 q4 q5 q6 q7 q8 q9 Jw P8 i5 Nb;have b1:(0:Int)≤(m:Int):=Ya;have b2:(m:Int)<(r.elems.length:Int):=Ya;have tw:=hU To;have Ac:=hU Ss;have HX:=hU hx;have HT:=hU ht;have m8:=hU zp;have Bo:=hU nu;clear To Ss hx ht zp nu;go_upto_region 16 with fail;refine Ye0 ?_;intro W9 Gh Ct uo;clear Gh q0 q1 q2 q3 q4 q5 q6 q7 q8 q9 Jw P8 i5 Nb;have sm:=hU (St1.new_ HF.o Ac.o Ct);have gx:=hU (HX.o.new_ Ct);have Oa:=hU (HT.o.new_ Ct);have Gn:=hU (m8.o.into (Fr.of_new (M:=fun _=>False) Ct) (fun _ h=>h.elim));have Mn:=hU (Bo.o.new_ Ct);have c12:=(uo.cell 12).trans rfl;have c13:=(uo.cell 13).trans rfl;have l0:=gx.o.c1;have Vd:=uo.lt;have hll9:=gx.o.lt;have hhx9:=hU uo;clear Ct uo Ac HX HT m8 Bo;by_cases hp1:lv≤e0.level
           · have d1:decide (lv≤e0.level)=true:=by simpa using hp1
             by_cases hp2:0<e0.cause
             · have d2:decide (0<e0.cause)=true:=by simpa using hp2
               have Th:=hU (show Z12 lv r.elems (m+1)=Z12 lv r.elems m ++ [e0.cause] by rw [tw.o];exact Zeh sd (by rw [←tw.o];exact hp1) (by rw [←tw.o];exact hp2))
               have Ly:(Z12 lv r.elems m).length≤1000:=by
                have:(Z12 lv r.elems m).length≤r.elems.length:=by
                 unfold Z12;rw [Ztl];exact Zt6 (List.length_filter_le _ _) Yk
                have:=j5.o;omega
               have htl:todo.length≤100000:=by
                have h2:=Mr.o;rw [wt.o] at h2;unfold cost at h2;simp at h2;omega
               (have M3:(todo++Z12 lv r.elems m).length≤110000:=by rw [Ztd];omega);have sv:=hU M3;clear hp1 hp2 Ly htl M3;go_upto_region 17 with fail;(go_upto_region 18 with (at_builtin;refine Zak _ rfl _ _ 30 rfl 3 i0 _ 1 8 Tryz.underlying30 tm Nc rm Aj rfl Ya (.slice A (todo++Z12 lv r.elems m).length cap) (todo++Z12 lv r.elems m).length ((todo++Z12 lv r.elems m).flatMap Int.cells1) rfl (sm.o.q.1.new_ ((Zst _ _).alloc (Zsu _) _) (fun k hk=>(sm.o.q.2 k hk).1)) ⟨W9.heap.size,0,none⟩ 1 [.int .i64 e0.cause] rfl rfl (Zte (heap_alloc_new _ _)) (by intro u hu;simp at hu;subst hu;rfl) (by have:=sv.o;unfold maxLen;omega) (by have:=sv.o;omega) ?_;intro v' fo hq wz qj Bj));obtain ⟨A',cap',rfl,-,-⟩:=hq.form;have ng:Below W9.heap.size W9 (W9.alloc (.cells #[.int .i64 e0.cause] 3)):=(Zst _ _).alloc (Zsu _) _;have u7:Mine [3] K6 W9 fo:=(Mine.new_ ng).trans ⟨fun g t cs hn hb=>qj g t cs (fun e=>hn (by simp [e])) hb,wz.mono (fun k _ hk=>(sm.o.q.2 k hk).2)⟩;have hnx:(Value.slice A (todo++Z12 lv r.elems m).length cap).ownBlock≠some w.heap.size:=fun h=>(sm.o.q.2 _ h).2 xe.o;have Nj:=wz.size
               have Uo:Z97 K6 fo (.slice A' ((todo++Z12 lv r.elems m).length+1) cap') (todo++Z12 lv r.elems (m+1)):=by
                (have e:todo++Z12 lv r.elems (m+1)=(todo++Z12 lv r.elems m) ++ [e0.cause]:=by rw [Th.o,Zu8]);(have e1:((todo++Z12 lv r.elems m) ++ [e0.cause]).length=(todo++Z12 lv r.elems m).length+1:=by rw [Ztd];rfl);rw [e];refine ⟨by rw [e1,Zta];exact hq,fun k hk=>?_⟩;rcases Bj with h|h
                · rw [h] at hk
                  have:=sm.o.q.2 k hk;exact ⟨by have:=this.1;simp at Nj;omega,this.2⟩
                · have h2:=h k hk
                  refine ⟨h2.2,fun hK=>?_⟩;have:=sm.o.p.lt k hK;have:=h2.1;exact Yt5
               (have Bt:(todo++Z12 lv r.elems (m+1)).length=(todo++Z12 lv r.elems m).length+1:=by rw [Th.o];simp;omega);have rx:St1 n w.heap.size look G K6 E' (done ++ [k]) (todo++Z12 lv r.elems (m+1)) sb bm bp (.slice A' ((todo++Z12 lv r.elems m).length+1) cap') fo:=⟨sm.o.p.mine HF.o u7,sm.o.s.mine u7 Yc Yc,sm.o.m.mine u7 Yc Yc Yc,Uo⟩;have aw:=hU rx;have HX10:=hU ((gx.o.new_ ng).fr wz hnx);have HT10:=hU (u7.only _ _ _ Yc Oa.o);have Sw:=hU (Gn.o.into u7.fr (fun j hj=>.inr (Nat.le_of_not_lt fun hl=>hj (sm.o.p.low j hl))));have jn:=hU (Mn.o.keep (D':=fun j=>K6 j∧¬E' j) u7.fr.size (fun j hj hl=>⟨hj,u7.fr.block j hl (fun h=>h hj.1)⟩));clear hq wz qj Bj ng u7 hnx Uo rx Bt sm gx Oa Gn Mn c12 c13 l0;go_wp2_with fail;go_roundw
               case rel=>exact ⟨m+1,Yn,Ya,aw.o,HX10.o,HT10.o,Sw.o,jn.o⟩
               case measure=>simp [intOf];omega
             · have d2:decide (0<e0.cause)=false:=by simpa using hp2
               have Th:=hU (show Z12 lv r.elems (m+1)=Z12 lv r.elems m by rw [tw.o] at hp2;exact Za8 sd (fun h=>hp2 h.2));clear hp1 hp2;exact Y3q
           · have d1:decide (lv≤e0.level)=false:=by simpa using hp1
             have Th:=hU (show Z12 lv r.elems (m+1)=Z12 lv r.elems m by rw [tw.o] at hp1;exact Za8 sd (fun h=>hp1 h.1));clear hp1;exact Y3q
         · obtain rfl:m=r.elems.length:=by omega
           rw [Z94] at Ss;have Ac:=hU Ss;have HX:=hU hx;have HT:=hU ht;have m8:=hU zp;have Ve:=hU (Z94 lv r);clear Ss hx ht zp nu;go_wp2_with fail
           go_roundg (cost look lv keys (todo++Z6t lv r) (done ++ [k]))
           case measure=>
            have:=Z9c look lv keys HKEYS.o (todo:=todo) HD.o Jr.o;rw [←HR.o] at this;rw [wt.o];omega
           case rel=>
            have h1:=Z9c look lv keys HKEYS.o (todo:=todo) HD.o Jr.o;rw [←HR.o] at h1;have h2:=Mr.o;rw [wt.o] at h2;refine ⟨done ++ [k],todo++Z6t lv r,K6,E',?_,by rw [Ve.o];exact Ac.o,by rw [←Oo.o,Zmn look lv keys HKEYS.o HD.o Jr.o,HR.o],rfl,Yk,HX.o,HT.o,m8.o,K7.o,xe.o,X8.o⟩;rw [Za2,if_pos Jr.o];rfl
end
end Go.Proofs.YtcnnofgaifcgaaaGreat
