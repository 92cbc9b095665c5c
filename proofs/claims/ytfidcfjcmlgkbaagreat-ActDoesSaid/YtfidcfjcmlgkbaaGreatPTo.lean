/-
  Texts put together: Known8.
-/
import Derived.Test.YtfidcfjcmlgkbaaGreatPTn
namespace Go.Proofs.YtfidcfjcmlgkbaaGreat
open Lib (hid)
set_option maxRecDepth 100000
set_option maxHeartbeats 32000000
section
open Go.RowKit Go.Shelf
theorem Zh6 {D:Nat→Prop} (p:Z31) (n:Nat) (A1 A2:Option Addr) (c1 c2:Nat) (w:World) (h1:RowR (Z0g n) D w A1 c1 p.conds) (h2:RowR Z0r D w A2 c2 p.acts) (hD : ∀k,D k→k<w.heap.size) (hF:(Z0f n 0 p.conds).length≤1000000000) (hn:n≤1000000000) :
 Calls Tryz.prog 41 #[.agg #[.string p.name,.slice A1 p.conds.length c1,.slice A2 p.acts.length c2]] w fun e W'=>e = .returned (.tuple #[.int .i64 (Z1t n p).1,.int .i64 (Z1t n p).2.1])∧Below w.heap.size w W':=by
 have hb:Below w.heap.size w (w.alloc (.cells #[.string p.name,.slice A1 p.conds.length c1,.slice A2 p.acts.length c2] 25)):=(Zks _ _).alloc (Zkt _) _;have HC:=hid (Zdz p n A1 A2 c1 c2 _ (h1.new_ hb) (h2.new_ hb) (fun k hk=>Zkx (hD k hk) hb.size) hF hn);have HB:=hid hb;clear h1 h2 hD hF hn hb;go_enter Tryz.func41,Tryz.ntmps41;(go_wp2_with fail);refine HC.out.mono ?_;rintro e w2 ⟨A,c,rfl,-,hb2⟩;have HB2:=hid (HB.out.trans (hb2.mono HB.out.size));clear hb2;(go_wp2_with fail);go_ret2;exact ⟨rfl,HB2.out⟩
end
end Go.Proofs.YtfidcfjcmlgkbaaGreat
