/- Part of the proof of topServes_holds. No condition. -/
import Derived.Test.YtjbijdmcceloaaaGreatQS12
set_option linter.unusedVariables false
set_option linter.unusedSimpArgs false
set_option maxHeartbeats 80000000
set_option maxRecDepth 100000
namespace Go.Proofs.YtjbijdmcceloaaaGreat.Top
open Go Go.RowKit Go.Proofs.YtjbijdmcceloaaaGreat Go.Proofs.YtjbijdmcceloaaaGreatW.PrintWords Go.Proofs.YtjbijdmcceloaaaGreatW.PrintLast Go.Proofs.YtjbijdmcceloaaaGreatW.PrintMore
def tkC (c:List Nat) (i:Nat):List Nat:=(c.take i).map (· - 1)++c.drop i
def tkL (c:List Nat) (i:Nat):List Nat:=(List.range i).filter (fun j=>c.getD j 0==1)
def ints (l:List Nat):List Value:=l.map fun n:Nat=>.int .i64 (n:Int)
theorem qck (c:List Nat) (i:Nat):tkL c (i+1)=tkL c i++(if c.getD i 0==1 then [i] else []):=by
 unfold tkL;rw[List.range_succ,List.filter_append];cases hx:c.getD i 0==1
 ·simp[List.filter_cons,-List.getD_eq_getElem?_getD,hx]
 ·simp[List.filter_cons,-List.getD_eq_getElem?_getD,hx]
theorem qbq (c:List Nat) (i:Nat):(tkL c i).length≤i:=Nat.le_trans (List.length_filter_le _ _) (by simp)
theorem qbd (l:List Nat):∀u∈ints l,u.oneCell'=true:=by
 intro u hu;obtain⟨n,_,rfl⟩:=List.mem_map.1 hu;rfl
theorem qp3 (v0 v1 v2 v3 v4 v5 v6 v7:Value) (W:World):(Instr.index 25 (.agg #[v0,v1,v2,v3,v4,v5,v6,v7]) (.int .i64 0)).run Tryz.prog W=.ok v0 W:=by kernel_rfl
theorem qp2 (v0 v1 v2 v3 v4 v5 v6 v7:Value) (W:World):(Instr.index 25 (.agg #[v0,v1,v2,v3,v4,v5,v6,v7]) (.int .i64 1)).run Tryz.prog W=.ok v1 W:=by kernel_rfl
theorem qp1 (v0 v1 v2 v3 v4 v5 v6 v7:Value) (W:World):(Instr.index 25 (.agg #[v0,v1,v2,v3,v4,v5,v6,v7]) (.int .i64 2)).run Tryz.prog W=.ok v2 W:=by kernel_rfl
theorem qp0 (v0 v1 v2 v3 v4 v5 v6 v7:Value) (W:World):(Instr.index 25 (.agg #[v0,v1,v2,v3,v4,v5,v6,v7]) (.int .i64 3)).run Tryz.prog W=.ok v3 W:=by kernel_rfl
theorem qpz (v0 v1 v2 v3 v4 v5 v6 v7:Value) (W:World):(Instr.index 25 (.agg #[v0,v1,v2,v3,v4,v5,v6,v7]) (.int .i64 4)).run Tryz.prog W=.ok v4 W:=by kernel_rfl
theorem qpy (v0 v1 v2 v3 v4 v5 v6 v7:Value) (W:World):(Instr.index 25 (.agg #[v0,v1,v2,v3,v4,v5,v6,v7]) (.int .i64 5)).run Tryz.prog W=.ok v5 W:=by kernel_rfl
theorem qpx (v0 v1 v2 v3 v4 v5 v6 v7:Value) (W:World):(Instr.index 25 (.agg #[v0,v1,v2,v3,v4,v5,v6,v7]) (.int .i64 6)).run Tryz.prog W=.ok v6 W:=by kernel_rfl
theorem qpw (v0 v1 v2 v3 v4 v5 v6 v7:Value) (W:World):(Instr.index 25 (.agg #[v0,v1,v2,v3,v4,v5,v6,v7]) (.int .i64 7)).run Tryz.prog W=.ok v7 W:=by kernel_rfl
theorem qcl {w W:World} {g:Nat} {c:List Nat} {A:Option Addr} {k:Nat} {us:List Value} (hg:g<w.heap.size) (hK:ClockAt W g c) (hR:Rw W (fun k=>w.heap.size≤k) 3 (.slice A us.length k) us) (hO:Only (·=g) w W) (hl:us.length≤8) (h1:∀u∈us,u.oneCell'=true) (u:Value) (hu:u.oneCell'=true) {n:Nat} (hn:W.heap.size=n) :
  ∃A1 n1 c1 w1,(Builtin.append_ #[161,161] 161 #[.slice A us.length k,.slice (some ⟨n,0,none⟩) 1 1]).run Tryz.prog (W.alloc (.cells #[u] 3))=.ok (.slice A1 n1 c1) w1∧ClockAt w1 g c∧Rw w1 (fun k=>w.heap.size≤k) 3 (.slice A1 n1 c1) (us++[u])∧Only (·=g) w w1:=by
 subst hn;have hb:Below W.heap.size W (W.alloc (.cells #[u] 3)):=qaa (Below.refl _ _) _;have b1:=hR.below hb;have hsz:=hO.size;have hsz2:(W.alloc (.cells #[u] 3)).heap.size=W.heap.size+1:=by simp[World.alloc_eq]
 obtain⟨v1,w1,hrun,hR1,hO1,hat⟩:=Rw.append el3 161 b1 (qfg W (fun _=>True) trivial 3 u) (fun q hq=>by rw[List.mem_singleton.1 hq];exact hu) h1 (by simp only[List.length_singleton];omega) (fun k hk=>by omega);obtain⟨A1,c1,rfl,_,_⟩:=hR1.slice;have hbk:∀k',qau (.slice A us.length k)=some k'→w.heap.size≤k':=by
  intro k' hk';obtain⟨A0,c0,e,_,_,h⟩:=hR.slice;exact(h k' hk').1
 have hno:¬qau (.slice A us.length k)=some g:=fun e=>by have:=hbk g e;omega
 refine⟨A1,_,c1,w1,hrun,?_,hR1,?_⟩
 ·exact(hK.only (qag hb) (fun h=>h)).only hO1 hno
 ·refine⟨hO1.os.trans (hb.os.trans hO.os),hO1.tape.trans (hb.tape.trans hO.tape),hO1.output.trans (hb.output.trans hO.output),by have:=hO1.size;omega,fun k' hk' hn'=>?_⟩;exact(hO1.block k' (by omega) (fun e=>by have:=hbk k' e;omega)).trans ((hb.block k' (by omega)).trans (hO.block k' hk' hn'))
theorem qb6 (l:List Nat) (i:Nat):ints l++[.int .i64 (i:Int)]=ints (l++[i]):=by simp[ints]
theorem qgx (g:Nat) (c:List Nat) (w:World) (h:ClockAt w g c) (hc:∀n∈c,n≤4294967296) :
  Calls Tryz.prog 70 #[.pointer (some ⟨g,0,none⟩)] w fun e w'=>∃v,e=.returned v∧ClockAt w' g (Sig.cTick c).1∧Rw w' (fun k=>w.heap.size≤k) 3 v (ints (Sig.cTick c).2)∧Only (·=g) w w':=by
 obtain⟨a0,a1,a2,a3,a4,a5,a6,a7,rfl⟩:=qv4 h.len;have HL:=am (show (a0≤4294967296∧a1≤4294967296∧a2≤4294967296∧a3≤4294967296)∧a4≤4294967296∧a5≤4294967296∧a6≤4294967296∧a7≤4294967296 from ⟨⟨hc _ (by simp),hc _ (by simp),hc _ (by simp),hc _ (by simp)⟩,hc _ (by simp),hc _ (by simp),hc _ (by simp),hc _ (by simp)⟩);have HLT:=am h.blk.lt;have H:=am h;have c0:=h.blk.c 0 (v:=.int .i64 (a0:Nat)) rfl;have c1:=h.blk.c 1 (v:=.int .i64 (a1:Nat)) rfl;have c2:=h.blk.c 2 (v:=.int .i64 (a2:Nat)) rfl;have c3:=h.blk.c 3 (v:=.int .i64 (a3:Nat)) rfl;have c4:=h.blk.c 4 (v:=.int .i64 (a4:Nat)) rfl;have c5:=h.blk.c 5 (v:=.int .i64 (a5:Nat)) rfl;have c6:=h.blk.c 6 (v:=.int .i64 (a6:Nat)) rfl;have c7:=h.blk.c 7 (v:=.int .i64 (a7:Nat)) rfl;clear h hc;go_enter Tryz.func70,Tryz.ntmps70;go_wp2;clear c0 c1 c2 c3 c4 c5 c6 c7;go_loopw [3,13] (fun v3 v13 wr=>∃i:Nat,i≤8∧v13=.int .i64 i∧qac (ClockAt wr g (tkC [a0,a1,a2,a3,a4,a5,a6,a7] i))∧qac (Rw wr (fun k=>w.heap.size≤k) 3 v3 (ints (tkL [a0,a1,a2,a3,a4,a5,a6,a7] i)))∧qac (Only (·=g) w wr)) (fun _ v13 _=>8-(intOf v13).toNat)
 case atStart=>exact⟨0,Nat.zero_le _,rfl,H,⟨Rw.nil _ _ _⟩,⟨Only.refl _ _⟩⟩
 case round =>
  obtain⟨i,hi,rfl,HK,HR,HO⟩:=hrel;clear H;obtain⟨us,hus⟩:∃us,ints (tkL [a0,a1,a2,a3,a4,a5,a6,a7] i)=us:=⟨_,rfl⟩;rw[hus] at HR;obtain⟨A3,k3,hv3,-,-⟩:=HR.out.slice;subst hv3;have HU:=am hus;clear hus;rcases (show i=0∨i=1∨i=2∨i=3∨i=4∨i=5∨i=6∨i=7∨i=8 from by omega) with rfl|rfl|rfl|rfl|rfl|rfl|rfl|rfl|rfl
  ·have hk:ClockAt wr g [a0,a1,a2,a3,a4,a5,a6,a7]:=HK.out;have c0:=hk.blk.c 0 (v:=.int .i64 (a0:Nat)) rfl;have f0:=hk.blk.f 0;have HKK:=am hk;have hx:=qp3;clear hk HK hi;have hs:=qck [a0,a1,a2,a3,a4,a5,a6,a7] 0;rw[show ([a0,a1,a2,a3,a4,a5,a6,a7].getD 0 0)=a0 from rfl] at hs;by_cases h0:a0=0
   ·have b1:decide (0<a0)=false:=decide_eq_false (by omega);have b2:=b_f a0 1 (by omega);have HZ:=am h0;have HS:=am hs;clear h0 hs;go_wp2
    go_roundw
    case rel =>
     refine⟨1,by decide,by first|rfl|(simp;done),⟨?_⟩,⟨?_⟩,HO⟩
     ·have:=HKK.out;rw[show tkC [a0,a1,a2,a3,a4,a5,a6,a7] 1=[a0-1,a1,a2,a3,a4,a5,a6,a7] from rfl,HZ.out];rw[HZ.out] at this;exact this
     ·rw[HS.out,if_neg (by rw[HZ.out];decide),List.append_nil,HU.out];exact HR.out
    case measure=>first|decide|simp[intOf]|(simp[intOf];omega)
   by_cases h1:a0=1
   ·have b1:decide (0<a0)=true:=decide_eq_true (by omega);have b2:=b_t a0 1 (by omega);have ew:IntKind.i64.wrap (((a0:Nat):Int)-1)=((a0-1:Nat):Int):=by have:=HL.out;rw[IntWalk.i64_in _ (by omega)];omega
    have H0:=am h0;have H1:=am h1;have HS:=am hs;clear h0 h1 hs;have HC1:qac (ClockAt (wr.drew.setCell ⟨g,0,none⟩ (.int .i64 (a0-1:Nat))) g [a0-1,a1,a2,a3,a4,a5,a6,a7]):=⟨⟨rfl,HKK.out.blk.drew.set 0 (.int .i64 (a0-1:Nat))⟩⟩;have HO1:qac (Only (·=g) w (wr.drew.setCell ⟨g,0,none⟩ (.int .i64 (a0-1:Nat)))):=⟨(HO.out.drewN 1).set rfl _⟩;have HR1:qac (Rw (wr.drew.setCell ⟨g,0,none⟩ (.int .i64 (a0-1:Nat))) (fun k=>w.heap.size≤k) 3 (.slice A3 us.length k3) us):=⟨HR.out.only ((Only.refl (·=g) wr).drewN 1 |>.set rfl _) (fun k hk _ _ e=>by have:=HLT.out;omega)⟩;have HLU:qac (us.length≤8):=⟨by rw[←HU.out,ints,List.length_map];have:=qbq [a0,a1,a2,a3,a4,a5,a6,a7] 0;omega⟩;have HU1:qac (∀u∈us,u.oneCell'=true):=⟨by rw[←HU.out];exact qbd _⟩;obtain⟨A1,n1,c1,w1,hrun,h1,h2,h3⟩:=qcl HLT.out HC1.out HR1.out HO1.out HLU.out HU1.out (.int .i64 0) rfl (n:=wr.heap.size) (qa0 _ _ _);have HRUN:=am hrun;have G1:=am h1;have G2:=am h2;have G3:=am h3;clear hrun h1 h2 h3
    go_wp2_with fail
    go_still_tail 10,(by kernel_rfl);change wpList _ _ _ _ _ wr.drew
    go_wp2_with ((with_reducible refine qao (b:=.append) (xs:=#[.tmp 31,.tmp 33]) rfl ?_);refine qap rfl (.tmp 31) (.tmp 33) 161 rfl (.slice A3 us.length k3) (.slice (some ⟨wr.heap.size,0,none⟩) 1 1) rfl rfl (.slice A1 n1 c1) w1 HRUN.out ?_)
    go_roundw
    case rel =>
     refine⟨1,by decide,by first|rfl|(simp;done),G1,⟨?_⟩,G3⟩;rw[HS.out,if_pos (by rw[H1.out];decide),←qb6,HU.out];exact G2.out
    case measure=>first|decide|simp[intOf]|(simp[intOf];omega)
   ·have b1:decide (0<a0)=true:=decide_eq_true (by omega);have b2:=b_f a0 1 (by omega);have ew:IntKind.i64.wrap (((a0:Nat):Int)-1)=((a0-1:Nat):Int):=by have:=HL.out;rw[IntWalk.i64_in _ (by omega)];omega
    have H0:=am h0;have H1:=am h1;have HS:=am hs;clear h0 h1 hs;have HC1:qac (ClockAt (wr.drew.setCell ⟨g,0,none⟩ (.int .i64 (a0-1:Nat))) g [a0-1,a1,a2,a3,a4,a5,a6,a7]):=⟨⟨rfl,HKK.out.blk.drew.set 0 (.int .i64 (a0-1:Nat))⟩⟩;have HO1:qac (Only (·=g) w (wr.drew.setCell ⟨g,0,none⟩ (.int .i64 (a0-1:Nat)))):=⟨(HO.out.drewN 1).set rfl _⟩;have HR1:qac (Rw (wr.drew.setCell ⟨g,0,none⟩ (.int .i64 (a0-1:Nat))) (fun k=>w.heap.size≤k) 3 (.slice A3 us.length k3) us):=⟨HR.out.only ((Only.refl (·=g) wr).drewN 1 |>.set rfl _) (fun k hk _ _ e=>by have:=HLT.out;omega)⟩;have HLU:qac (us.length≤8):=⟨by rw[←HU.out,ints,List.length_map];have:=qbq [a0,a1,a2,a3,a4,a5,a6,a7] 0;omega⟩;have HU1:qac (∀u∈us,u.oneCell'=true):=⟨by rw[←HU.out];exact qbd _⟩
    go_wp2_with fail
    go_still_tail 10,(by kernel_rfl);change wpList _ _ _ _ _ wr.drew;go_wp2
    go_roundw
    case rel =>
     refine⟨1,by decide,by first|rfl|(simp;done),HC1,⟨?_⟩,HO1⟩;rw[HS.out,if_neg (by rw[beq_iff_eq];exact H1.out),List.append_nil,HU.out];exact HR1.out
    case measure=>first|decide|simp[intOf]|(simp[intOf];omega)
  ·have hk:ClockAt wr g [a0-1,a1,a2,a3,a4,a5,a6,a7]:=HK.out;have c1:=hk.blk.c 1 (v:=.int .i64 (a1:Nat)) rfl;have f1:=hk.blk.f 1;have HKK:=am hk;have hx:=qp2;clear hk HK hi;have hs:=qck [a0,a1,a2,a3,a4,a5,a6,a7] 1;rw[show ([a0,a1,a2,a3,a4,a5,a6,a7].getD 1 0)=a1 from rfl] at hs;by_cases h0:a1=0
   ·have b1:decide (0<a1)=false:=decide_eq_false (by omega);have b2:=b_f a1 1 (by omega);have HZ:=am h0;have HS:=am hs;clear h0 hs;go_wp2
    go_roundw
    case rel =>
     refine⟨2,by decide,by first|rfl|(simp;done),⟨?_⟩,⟨?_⟩,HO⟩
     ·have:=HKK.out;rw[show tkC [a0,a1,a2,a3,a4,a5,a6,a7] 2=[a0-1,a1-1,a2,a3,a4,a5,a6,a7] from rfl,HZ.out];rw[HZ.out] at this;exact this
     ·rw[HS.out,if_neg (by rw[HZ.out];decide),List.append_nil,HU.out];exact HR.out
    case measure=>first|decide|simp[intOf]|(simp[intOf];omega)
   by_cases h1:a1=1
   ·have b1:decide (0<a1)=true:=decide_eq_true (by omega);have b2:=b_t a1 1 (by omega);have ew:IntKind.i64.wrap (((a1:Nat):Int)-1)=((a1-1:Nat):Int):=by have:=HL.out;rw[IntWalk.i64_in _ (by omega)];omega
    have H0:=am h0;have H1:=am h1;have HS:=am hs;clear h0 h1 hs;have HC1:qac (ClockAt (wr.drew.setCell ⟨g,1,none⟩ (.int .i64 (a1-1:Nat))) g [a0-1,a1-1,a2,a3,a4,a5,a6,a7]):=⟨⟨rfl,HKK.out.blk.drew.set 1 (.int .i64 (a1-1:Nat))⟩⟩;have HO1:qac (Only (·=g) w (wr.drew.setCell ⟨g,1,none⟩ (.int .i64 (a1-1:Nat)))):=⟨(HO.out.drewN 1).set rfl _⟩;have HR1:qac (Rw (wr.drew.setCell ⟨g,1,none⟩ (.int .i64 (a1-1:Nat))) (fun k=>w.heap.size≤k) 3 (.slice A3 us.length k3) us):=⟨HR.out.only ((Only.refl (·=g) wr).drewN 1 |>.set rfl _) (fun k hk _ _ e=>by have:=HLT.out;omega)⟩;have HLU:qac (us.length≤8):=⟨by rw[←HU.out,ints,List.length_map];have:=qbq [a0,a1,a2,a3,a4,a5,a6,a7] 1;omega⟩;have HU1:qac (∀u∈us,u.oneCell'=true):=⟨by rw[←HU.out];exact qbd _⟩;obtain⟨A1,n1,c1,w1,hrun,h1,h2,h3⟩:=qcl HLT.out HC1.out HR1.out HO1.out HLU.out HU1.out (.int .i64 1) rfl (n:=wr.heap.size) (qa0 _ _ _);have HRUN:=am hrun;have G1:=am h1;have G2:=am h2;have G3:=am h3;clear hrun h1 h2 h3
    go_wp2_with fail
    go_still_tail 10,(by kernel_rfl);change wpList _ _ _ _ _ wr.drew
    go_wp2_with ((with_reducible refine qao (b:=.append) (xs:=#[.tmp 31,.tmp 33]) rfl ?_);refine qap rfl (.tmp 31) (.tmp 33) 161 rfl (.slice A3 us.length k3) (.slice (some ⟨wr.heap.size,0,none⟩) 1 1) rfl rfl (.slice A1 n1 c1) w1 HRUN.out ?_)
    go_roundw
    case rel =>
     refine⟨2,by decide,by first|rfl|(simp;done),G1,⟨?_⟩,G3⟩;rw[HS.out,if_pos (by rw[H1.out];decide),←qb6,HU.out];exact G2.out
    case measure=>first|decide|simp[intOf]|(simp[intOf];omega)
   ·have b1:decide (0<a1)=true:=decide_eq_true (by omega);have b2:=b_f a1 1 (by omega);have ew:IntKind.i64.wrap (((a1:Nat):Int)-1)=((a1-1:Nat):Int):=by have:=HL.out;rw[IntWalk.i64_in _ (by omega)];omega
    have H0:=am h0;have H1:=am h1;have HS:=am hs;clear h0 h1 hs;have HC1:qac (ClockAt (wr.drew.setCell ⟨g,1,none⟩ (.int .i64 (a1-1:Nat))) g [a0-1,a1-1,a2,a3,a4,a5,a6,a7]):=⟨⟨rfl,HKK.out.blk.drew.set 1 (.int .i64 (a1-1:Nat))⟩⟩;have HO1:qac (Only (·=g) w (wr.drew.setCell ⟨g,1,none⟩ (.int .i64 (a1-1:Nat)))):=⟨(HO.out.drewN 1).set rfl _⟩;have HR1:qac (Rw (wr.drew.setCell ⟨g,1,none⟩ (.int .i64 (a1-1:Nat))) (fun k=>w.heap.size≤k) 3 (.slice A3 us.length k3) us):=⟨HR.out.only ((Only.refl (·=g) wr).drewN 1 |>.set rfl _) (fun k hk _ _ e=>by have:=HLT.out;omega)⟩;have HLU:qac (us.length≤8):=⟨by rw[←HU.out,ints,List.length_map];have:=qbq [a0,a1,a2,a3,a4,a5,a6,a7] 1;omega⟩;have HU1:qac (∀u∈us,u.oneCell'=true):=⟨by rw[←HU.out];exact qbd _⟩
    go_wp2_with fail
    go_still_tail 10,(by kernel_rfl);change wpList _ _ _ _ _ wr.drew;go_wp2
    go_roundw
    case rel =>
     refine⟨2,by decide,by first|rfl|(simp;done),HC1,⟨?_⟩,HO1⟩;rw[HS.out,if_neg (by rw[beq_iff_eq];exact H1.out),List.append_nil,HU.out];exact HR1.out
    case measure=>first|decide|simp[intOf]|(simp[intOf];omega)
  ·have hk:ClockAt wr g [a0-1,a1-1,a2,a3,a4,a5,a6,a7]:=HK.out;have c2:=hk.blk.c 2 (v:=.int .i64 (a2:Nat)) rfl;have f2:=hk.blk.f 2;have HKK:=am hk;have hx:=qp1;clear hk HK hi;have hs:=qck [a0,a1,a2,a3,a4,a5,a6,a7] 2;rw[show ([a0,a1,a2,a3,a4,a5,a6,a7].getD 2 0)=a2 from rfl] at hs;by_cases h0:a2=0
   ·have b1:decide (0<a2)=false:=decide_eq_false (by omega);have b2:=b_f a2 1 (by omega);have HZ:=am h0;have HS:=am hs;clear h0 hs;go_wp2
    go_roundw
    case rel =>
     refine⟨3,by decide,by first|rfl|(simp;done),⟨?_⟩,⟨?_⟩,HO⟩
     ·have:=HKK.out;rw[show tkC [a0,a1,a2,a3,a4,a5,a6,a7] 3=[a0-1,a1-1,a2-1,a3,a4,a5,a6,a7] from rfl,HZ.out];rw[HZ.out] at this;exact this
     ·rw[HS.out,if_neg (by rw[HZ.out];decide),List.append_nil,HU.out];exact HR.out
    case measure=>first|decide|simp[intOf]|(simp[intOf];omega)
   by_cases h1:a2=1
   ·have b1:decide (0<a2)=true:=decide_eq_true (by omega);have b2:=b_t a2 1 (by omega);have ew:IntKind.i64.wrap (((a2:Nat):Int)-1)=((a2-1:Nat):Int):=by have:=HL.out;rw[IntWalk.i64_in _ (by omega)];omega
    have H0:=am h0;have H1:=am h1;have HS:=am hs;clear h0 h1 hs;have HC1:qac (ClockAt (wr.drew.setCell ⟨g,2,none⟩ (.int .i64 (a2-1:Nat))) g [a0-1,a1-1,a2-1,a3,a4,a5,a6,a7]):=⟨⟨rfl,HKK.out.blk.drew.set 2 (.int .i64 (a2-1:Nat))⟩⟩;have HO1:qac (Only (·=g) w (wr.drew.setCell ⟨g,2,none⟩ (.int .i64 (a2-1:Nat)))):=⟨(HO.out.drewN 1).set rfl _⟩;have HR1:qac (Rw (wr.drew.setCell ⟨g,2,none⟩ (.int .i64 (a2-1:Nat))) (fun k=>w.heap.size≤k) 3 (.slice A3 us.length k3) us):=⟨HR.out.only ((Only.refl (·=g) wr).drewN 1 |>.set rfl _) (fun k hk _ _ e=>by have:=HLT.out;omega)⟩;have HLU:qac (us.length≤8):=⟨by rw[←HU.out,ints,List.length_map];have:=qbq [a0,a1,a2,a3,a4,a5,a6,a7] 2;omega⟩;have HU1:qac (∀u∈us,u.oneCell'=true):=⟨by rw[←HU.out];exact qbd _⟩;obtain⟨A1,n1,c1,w1,hrun,h1,h2,h3⟩:=qcl HLT.out HC1.out HR1.out HO1.out HLU.out HU1.out (.int .i64 2) rfl (n:=wr.heap.size) (qa0 _ _ _);have HRUN:=am hrun;have G1:=am h1;have G2:=am h2;have G3:=am h3;clear hrun h1 h2 h3
    go_wp2_with fail
    go_still_tail 10,(by kernel_rfl);change wpList _ _ _ _ _ wr.drew
    go_wp2_with ((with_reducible refine qao (b:=.append) (xs:=#[.tmp 31,.tmp 33]) rfl ?_);refine qap rfl (.tmp 31) (.tmp 33) 161 rfl (.slice A3 us.length k3) (.slice (some ⟨wr.heap.size,0,none⟩) 1 1) rfl rfl (.slice A1 n1 c1) w1 HRUN.out ?_)
    go_roundw
    case rel =>
     refine⟨3,by decide,by first|rfl|(simp;done),G1,⟨?_⟩,G3⟩;rw[HS.out,if_pos (by rw[H1.out];decide),←qb6,HU.out];exact G2.out
    case measure=>first|decide|simp[intOf]|(simp[intOf];omega)
   ·have b1:decide (0<a2)=true:=decide_eq_true (by omega);have b2:=b_f a2 1 (by omega);have ew:IntKind.i64.wrap (((a2:Nat):Int)-1)=((a2-1:Nat):Int):=by have:=HL.out;rw[IntWalk.i64_in _ (by omega)];omega
    have H0:=am h0;have H1:=am h1;have HS:=am hs;clear h0 h1 hs;have HC1:qac (ClockAt (wr.drew.setCell ⟨g,2,none⟩ (.int .i64 (a2-1:Nat))) g [a0-1,a1-1,a2-1,a3,a4,a5,a6,a7]):=⟨⟨rfl,HKK.out.blk.drew.set 2 (.int .i64 (a2-1:Nat))⟩⟩;have HO1:qac (Only (·=g) w (wr.drew.setCell ⟨g,2,none⟩ (.int .i64 (a2-1:Nat)))):=⟨(HO.out.drewN 1).set rfl _⟩;have HR1:qac (Rw (wr.drew.setCell ⟨g,2,none⟩ (.int .i64 (a2-1:Nat))) (fun k=>w.heap.size≤k) 3 (.slice A3 us.length k3) us):=⟨HR.out.only ((Only.refl (·=g) wr).drewN 1 |>.set rfl _) (fun k hk _ _ e=>by have:=HLT.out;omega)⟩;have HLU:qac (us.length≤8):=⟨by rw[←HU.out,ints,List.length_map];have:=qbq [a0,a1,a2,a3,a4,a5,a6,a7] 2;omega⟩;have HU1:qac (∀u∈us,u.oneCell'=true):=⟨by rw[←HU.out];exact qbd _⟩
    go_wp2_with fail
    go_still_tail 10,(by kernel_rfl);change wpList _ _ _ _ _ wr.drew;go_wp2
    go_roundw
    case rel =>
     refine⟨3,by decide,by first|rfl|(simp;done),HC1,⟨?_⟩,HO1⟩;rw[HS.out,if_neg (by rw[beq_iff_eq];exact H1.out),List.append_nil,HU.out];exact HR1.out
    case measure=>first|decide|simp[intOf]|(simp[intOf];omega)
  ·have hk:ClockAt wr g [a0-1,a1-1,a2-1,a3,a4,a5,a6,a7]:=HK.out;have c3:=hk.blk.c 3 (v:=.int .i64 (a3:Nat)) rfl;have f3:=hk.blk.f 3;have HKK:=am hk;have hx:=qp0;clear hk HK hi;have hs:=qck [a0,a1,a2,a3,a4,a5,a6,a7] 3;rw[show ([a0,a1,a2,a3,a4,a5,a6,a7].getD 3 0)=a3 from rfl] at hs;by_cases h0:a3=0
   ·have b1:decide (0<a3)=false:=decide_eq_false (by omega);have b2:=b_f a3 1 (by omega);have HZ:=am h0;have HS:=am hs;clear h0 hs;go_wp2
    go_roundw
    case rel =>
     refine⟨4,by decide,by first|rfl|(simp;done),⟨?_⟩,⟨?_⟩,HO⟩
     ·have:=HKK.out;rw[show tkC [a0,a1,a2,a3,a4,a5,a6,a7] 4=[a0-1,a1-1,a2-1,a3-1,a4,a5,a6,a7] from rfl,HZ.out];rw[HZ.out] at this;exact this
     ·rw[HS.out,if_neg (by rw[HZ.out];decide),List.append_nil,HU.out];exact HR.out
    case measure=>first|decide|simp[intOf]|(simp[intOf];omega)
   by_cases h1:a3=1
   ·have b1:decide (0<a3)=true:=decide_eq_true (by omega);have b2:=b_t a3 1 (by omega);have ew:IntKind.i64.wrap (((a3:Nat):Int)-1)=((a3-1:Nat):Int):=by have:=HL.out;rw[IntWalk.i64_in _ (by omega)];omega
    have H0:=am h0;have H1:=am h1;have HS:=am hs;clear h0 h1 hs;have HC1:qac (ClockAt (wr.drew.setCell ⟨g,3,none⟩ (.int .i64 (a3-1:Nat))) g [a0-1,a1-1,a2-1,a3-1,a4,a5,a6,a7]):=⟨⟨rfl,HKK.out.blk.drew.set 3 (.int .i64 (a3-1:Nat))⟩⟩;have HO1:qac (Only (·=g) w (wr.drew.setCell ⟨g,3,none⟩ (.int .i64 (a3-1:Nat)))):=⟨(HO.out.drewN 1).set rfl _⟩;have HR1:qac (Rw (wr.drew.setCell ⟨g,3,none⟩ (.int .i64 (a3-1:Nat))) (fun k=>w.heap.size≤k) 3 (.slice A3 us.length k3) us):=⟨HR.out.only ((Only.refl (·=g) wr).drewN 1 |>.set rfl _) (fun k hk _ _ e=>by have:=HLT.out;omega)⟩;have HLU:qac (us.length≤8):=⟨by rw[←HU.out,ints,List.length_map];have:=qbq [a0,a1,a2,a3,a4,a5,a6,a7] 3;omega⟩;have HU1:qac (∀u∈us,u.oneCell'=true):=⟨by rw[←HU.out];exact qbd _⟩;obtain⟨A1,n1,c1,w1,hrun,h1,h2,h3⟩:=qcl HLT.out HC1.out HR1.out HO1.out HLU.out HU1.out (.int .i64 3) rfl (n:=wr.heap.size) (qa0 _ _ _);have HRUN:=am hrun;have G1:=am h1;have G2:=am h2;have G3:=am h3;clear hrun h1 h2 h3
    go_wp2_with fail
    go_still_tail 10,(by kernel_rfl);change wpList _ _ _ _ _ wr.drew
    go_wp2_with ((with_reducible refine qao (b:=.append) (xs:=#[.tmp 31,.tmp 33]) rfl ?_);refine qap rfl (.tmp 31) (.tmp 33) 161 rfl (.slice A3 us.length k3) (.slice (some ⟨wr.heap.size,0,none⟩) 1 1) rfl rfl (.slice A1 n1 c1) w1 HRUN.out ?_)
    go_roundw
    case rel =>
     refine⟨4,by decide,by first|rfl|(simp;done),G1,⟨?_⟩,G3⟩;rw[HS.out,if_pos (by rw[H1.out];decide),←qb6,HU.out];exact G2.out
    case measure=>first|decide|simp[intOf]|(simp[intOf];omega)
   ·have b1:decide (0<a3)=true:=decide_eq_true (by omega);have b2:=b_f a3 1 (by omega);have ew:IntKind.i64.wrap (((a3:Nat):Int)-1)=((a3-1:Nat):Int):=by have:=HL.out;rw[IntWalk.i64_in _ (by omega)];omega
    have H0:=am h0;have H1:=am h1;have HS:=am hs;clear h0 h1 hs;have HC1:qac (ClockAt (wr.drew.setCell ⟨g,3,none⟩ (.int .i64 (a3-1:Nat))) g [a0-1,a1-1,a2-1,a3-1,a4,a5,a6,a7]):=⟨⟨rfl,HKK.out.blk.drew.set 3 (.int .i64 (a3-1:Nat))⟩⟩;have HO1:qac (Only (·=g) w (wr.drew.setCell ⟨g,3,none⟩ (.int .i64 (a3-1:Nat)))):=⟨(HO.out.drewN 1).set rfl _⟩;have HR1:qac (Rw (wr.drew.setCell ⟨g,3,none⟩ (.int .i64 (a3-1:Nat))) (fun k=>w.heap.size≤k) 3 (.slice A3 us.length k3) us):=⟨HR.out.only ((Only.refl (·=g) wr).drewN 1 |>.set rfl _) (fun k hk _ _ e=>by have:=HLT.out;omega)⟩;have HLU:qac (us.length≤8):=⟨by rw[←HU.out,ints,List.length_map];have:=qbq [a0,a1,a2,a3,a4,a5,a6,a7] 3;omega⟩;have HU1:qac (∀u∈us,u.oneCell'=true):=⟨by rw[←HU.out];exact qbd _⟩
    go_wp2_with fail
    go_still_tail 10,(by kernel_rfl);change wpList _ _ _ _ _ wr.drew;go_wp2
    go_roundw
    case rel =>
     refine⟨4,by decide,by first|rfl|(simp;done),HC1,⟨?_⟩,HO1⟩;rw[HS.out,if_neg (by rw[beq_iff_eq];exact H1.out),List.append_nil,HU.out];exact HR1.out
    case measure=>first|decide|simp[intOf]|(simp[intOf];omega)
  ·have hk:ClockAt wr g [a0-1,a1-1,a2-1,a3-1,a4,a5,a6,a7]:=HK.out;have c4:=hk.blk.c 4 (v:=.int .i64 (a4:Nat)) rfl;have f4:=hk.blk.f 4;have HKK:=am hk;have hx:=qpz;clear hk HK hi;have hs:=qck [a0,a1,a2,a3,a4,a5,a6,a7] 4;rw[show ([a0,a1,a2,a3,a4,a5,a6,a7].getD 4 0)=a4 from rfl] at hs;by_cases h0:a4=0
   ·have b1:decide (0<a4)=false:=decide_eq_false (by omega);have b2:=b_f a4 1 (by omega);have HZ:=am h0;have HS:=am hs;clear h0 hs;go_wp2
    go_roundw
    case rel =>
     refine⟨5,by decide,by first|rfl|(simp;done),⟨?_⟩,⟨?_⟩,HO⟩
     ·have:=HKK.out;rw[show tkC [a0,a1,a2,a3,a4,a5,a6,a7] 5=[a0-1,a1-1,a2-1,a3-1,a4-1,a5,a6,a7] from rfl,HZ.out];rw[HZ.out] at this;exact this
     ·rw[HS.out,if_neg (by rw[HZ.out];decide),List.append_nil,HU.out];exact HR.out
    case measure=>first|decide|simp[intOf]|(simp[intOf];omega)
   by_cases h1:a4=1
   ·have b1:decide (0<a4)=true:=decide_eq_true (by omega);have b2:=b_t a4 1 (by omega);have ew:IntKind.i64.wrap (((a4:Nat):Int)-1)=((a4-1:Nat):Int):=by have:=HL.out;rw[IntWalk.i64_in _ (by omega)];omega
    have H0:=am h0;have H1:=am h1;have HS:=am hs;clear h0 h1 hs;have HC1:qac (ClockAt (wr.drew.setCell ⟨g,4,none⟩ (.int .i64 (a4-1:Nat))) g [a0-1,a1-1,a2-1,a3-1,a4-1,a5,a6,a7]):=⟨⟨rfl,HKK.out.blk.drew.set 4 (.int .i64 (a4-1:Nat))⟩⟩;have HO1:qac (Only (·=g) w (wr.drew.setCell ⟨g,4,none⟩ (.int .i64 (a4-1:Nat)))):=⟨(HO.out.drewN 1).set rfl _⟩;have HR1:qac (Rw (wr.drew.setCell ⟨g,4,none⟩ (.int .i64 (a4-1:Nat))) (fun k=>w.heap.size≤k) 3 (.slice A3 us.length k3) us):=⟨HR.out.only ((Only.refl (·=g) wr).drewN 1 |>.set rfl _) (fun k hk _ _ e=>by have:=HLT.out;omega)⟩;have HLU:qac (us.length≤8):=⟨by rw[←HU.out,ints,List.length_map];have:=qbq [a0,a1,a2,a3,a4,a5,a6,a7] 4;omega⟩;have HU1:qac (∀u∈us,u.oneCell'=true):=⟨by rw[←HU.out];exact qbd _⟩;obtain⟨A1,n1,c1,w1,hrun,h1,h2,h3⟩:=qcl HLT.out HC1.out HR1.out HO1.out HLU.out HU1.out (.int .i64 4) rfl (n:=wr.heap.size) (qa0 _ _ _);have HRUN:=am hrun;have G1:=am h1;have G2:=am h2;have G3:=am h3;clear hrun h1 h2 h3
    go_wp2_with fail
    go_still_tail 10,(by kernel_rfl);change wpList _ _ _ _ _ wr.drew
    go_wp2_with ((with_reducible refine qao (b:=.append) (xs:=#[.tmp 31,.tmp 33]) rfl ?_);refine qap rfl (.tmp 31) (.tmp 33) 161 rfl (.slice A3 us.length k3) (.slice (some ⟨wr.heap.size,0,none⟩) 1 1) rfl rfl (.slice A1 n1 c1) w1 HRUN.out ?_)
    go_roundw
    case rel =>
     refine⟨5,by decide,by first|rfl|(simp;done),G1,⟨?_⟩,G3⟩;rw[HS.out,if_pos (by rw[H1.out];decide),←qb6,HU.out];exact G2.out
    case measure=>first|decide|simp[intOf]|(simp[intOf];omega)
   ·have b1:decide (0<a4)=true:=decide_eq_true (by omega);have b2:=b_f a4 1 (by omega);have ew:IntKind.i64.wrap (((a4:Nat):Int)-1)=((a4-1:Nat):Int):=by have:=HL.out;rw[IntWalk.i64_in _ (by omega)];omega
    have H0:=am h0;have H1:=am h1;have HS:=am hs;clear h0 h1 hs;have HC1:qac (ClockAt (wr.drew.setCell ⟨g,4,none⟩ (.int .i64 (a4-1:Nat))) g [a0-1,a1-1,a2-1,a3-1,a4-1,a5,a6,a7]):=⟨⟨rfl,HKK.out.blk.drew.set 4 (.int .i64 (a4-1:Nat))⟩⟩;have HO1:qac (Only (·=g) w (wr.drew.setCell ⟨g,4,none⟩ (.int .i64 (a4-1:Nat)))):=⟨(HO.out.drewN 1).set rfl _⟩;have HR1:qac (Rw (wr.drew.setCell ⟨g,4,none⟩ (.int .i64 (a4-1:Nat))) (fun k=>w.heap.size≤k) 3 (.slice A3 us.length k3) us):=⟨HR.out.only ((Only.refl (·=g) wr).drewN 1 |>.set rfl _) (fun k hk _ _ e=>by have:=HLT.out;omega)⟩;have HLU:qac (us.length≤8):=⟨by rw[←HU.out,ints,List.length_map];have:=qbq [a0,a1,a2,a3,a4,a5,a6,a7] 4;omega⟩;have HU1:qac (∀u∈us,u.oneCell'=true):=⟨by rw[←HU.out];exact qbd _⟩
    go_wp2_with fail
    go_still_tail 10,(by kernel_rfl);change wpList _ _ _ _ _ wr.drew;go_wp2
    go_roundw
    case rel =>
     refine⟨5,by decide,by first|rfl|(simp;done),HC1,⟨?_⟩,HO1⟩;rw[HS.out,if_neg (by rw[beq_iff_eq];exact H1.out),List.append_nil,HU.out];exact HR1.out
    case measure=>first|decide|simp[intOf]|(simp[intOf];omega)
  ·have hk:ClockAt wr g [a0-1,a1-1,a2-1,a3-1,a4-1,a5,a6,a7]:=HK.out;have c5:=hk.blk.c 5 (v:=.int .i64 (a5:Nat)) rfl;have f5:=hk.blk.f 5;have HKK:=am hk;have hx:=qpy;clear hk HK hi;have hs:=qck [a0,a1,a2,a3,a4,a5,a6,a7] 5;rw[show ([a0,a1,a2,a3,a4,a5,a6,a7].getD 5 0)=a5 from rfl] at hs;by_cases h0:a5=0
   ·have b1:decide (0<a5)=false:=decide_eq_false (by omega);have b2:=b_f a5 1 (by omega);have HZ:=am h0;have HS:=am hs;clear h0 hs;go_wp2
    go_roundw
    case rel =>
     refine⟨6,by decide,by first|rfl|(simp;done),⟨?_⟩,⟨?_⟩,HO⟩
     ·have:=HKK.out;rw[show tkC [a0,a1,a2,a3,a4,a5,a6,a7] 6=[a0-1,a1-1,a2-1,a3-1,a4-1,a5-1,a6,a7] from rfl,HZ.out];rw[HZ.out] at this;exact this
     ·rw[HS.out,if_neg (by rw[HZ.out];decide),List.append_nil,HU.out];exact HR.out
    case measure=>first|decide|simp[intOf]|(simp[intOf];omega)
   by_cases h1:a5=1
   ·have b1:decide (0<a5)=true:=decide_eq_true (by omega);have b2:=b_t a5 1 (by omega);have ew:IntKind.i64.wrap (((a5:Nat):Int)-1)=((a5-1:Nat):Int):=by have:=HL.out;rw[IntWalk.i64_in _ (by omega)];omega
    have H0:=am h0;have H1:=am h1;have HS:=am hs;clear h0 h1 hs;have HC1:qac (ClockAt (wr.drew.setCell ⟨g,5,none⟩ (.int .i64 (a5-1:Nat))) g [a0-1,a1-1,a2-1,a3-1,a4-1,a5-1,a6,a7]):=⟨⟨rfl,HKK.out.blk.drew.set 5 (.int .i64 (a5-1:Nat))⟩⟩;have HO1:qac (Only (·=g) w (wr.drew.setCell ⟨g,5,none⟩ (.int .i64 (a5-1:Nat)))):=⟨(HO.out.drewN 1).set rfl _⟩;have HR1:qac (Rw (wr.drew.setCell ⟨g,5,none⟩ (.int .i64 (a5-1:Nat))) (fun k=>w.heap.size≤k) 3 (.slice A3 us.length k3) us):=⟨HR.out.only ((Only.refl (·=g) wr).drewN 1 |>.set rfl _) (fun k hk _ _ e=>by have:=HLT.out;omega)⟩;have HLU:qac (us.length≤8):=⟨by rw[←HU.out,ints,List.length_map];have:=qbq [a0,a1,a2,a3,a4,a5,a6,a7] 5;omega⟩;have HU1:qac (∀u∈us,u.oneCell'=true):=⟨by rw[←HU.out];exact qbd _⟩;obtain⟨A1,n1,c1,w1,hrun,h1,h2,h3⟩:=qcl HLT.out HC1.out HR1.out HO1.out HLU.out HU1.out (.int .i64 5) rfl (n:=wr.heap.size) (qa0 _ _ _);have HRUN:=am hrun;have G1:=am h1;have G2:=am h2;have G3:=am h3;clear hrun h1 h2 h3
    go_wp2_with fail
    go_still_tail 10,(by kernel_rfl);change wpList _ _ _ _ _ wr.drew
    go_wp2_with ((with_reducible refine qao (b:=.append) (xs:=#[.tmp 31,.tmp 33]) rfl ?_);refine qap rfl (.tmp 31) (.tmp 33) 161 rfl (.slice A3 us.length k3) (.slice (some ⟨wr.heap.size,0,none⟩) 1 1) rfl rfl (.slice A1 n1 c1) w1 HRUN.out ?_)
    go_roundw
    case rel =>
     refine⟨6,by decide,by first|rfl|(simp;done),G1,⟨?_⟩,G3⟩;rw[HS.out,if_pos (by rw[H1.out];decide),←qb6,HU.out];exact G2.out
    case measure=>first|decide|simp[intOf]|(simp[intOf];omega)
   ·have b1:decide (0<a5)=true:=decide_eq_true (by omega);have b2:=b_f a5 1 (by omega);have ew:IntKind.i64.wrap (((a5:Nat):Int)-1)=((a5-1:Nat):Int):=by have:=HL.out;rw[IntWalk.i64_in _ (by omega)];omega
    have H0:=am h0;have H1:=am h1;have HS:=am hs;clear h0 h1 hs;have HC1:qac (ClockAt (wr.drew.setCell ⟨g,5,none⟩ (.int .i64 (a5-1:Nat))) g [a0-1,a1-1,a2-1,a3-1,a4-1,a5-1,a6,a7]):=⟨⟨rfl,HKK.out.blk.drew.set 5 (.int .i64 (a5-1:Nat))⟩⟩;have HO1:qac (Only (·=g) w (wr.drew.setCell ⟨g,5,none⟩ (.int .i64 (a5-1:Nat)))):=⟨(HO.out.drewN 1).set rfl _⟩;have HR1:qac (Rw (wr.drew.setCell ⟨g,5,none⟩ (.int .i64 (a5-1:Nat))) (fun k=>w.heap.size≤k) 3 (.slice A3 us.length k3) us):=⟨HR.out.only ((Only.refl (·=g) wr).drewN 1 |>.set rfl _) (fun k hk _ _ e=>by have:=HLT.out;omega)⟩;have HLU:qac (us.length≤8):=⟨by rw[←HU.out,ints,List.length_map];have:=qbq [a0,a1,a2,a3,a4,a5,a6,a7] 5;omega⟩;have HU1:qac (∀u∈us,u.oneCell'=true):=⟨by rw[←HU.out];exact qbd _⟩
    go_wp2_with fail
    go_still_tail 10,(by kernel_rfl);change wpList _ _ _ _ _ wr.drew;go_wp2
    go_roundw
    case rel =>
     refine⟨6,by decide,by first|rfl|(simp;done),HC1,⟨?_⟩,HO1⟩;rw[HS.out,if_neg (by rw[beq_iff_eq];exact H1.out),List.append_nil,HU.out];exact HR1.out
    case measure=>first|decide|simp[intOf]|(simp[intOf];omega)
  ·have hk:ClockAt wr g [a0-1,a1-1,a2-1,a3-1,a4-1,a5-1,a6,a7]:=HK.out;have c6:=hk.blk.c 6 (v:=.int .i64 (a6:Nat)) rfl;have f6:=hk.blk.f 6;have HKK:=am hk;have hx:=qpx;clear hk HK hi;have hs:=qck [a0,a1,a2,a3,a4,a5,a6,a7] 6;rw[show ([a0,a1,a2,a3,a4,a5,a6,a7].getD 6 0)=a6 from rfl] at hs;by_cases h0:a6=0
   ·have b1:decide (0<a6)=false:=decide_eq_false (by omega);have b2:=b_f a6 1 (by omega);have HZ:=am h0;have HS:=am hs;clear h0 hs;go_wp2
    go_roundw
    case rel =>
     refine⟨7,by decide,by first|rfl|(simp;done),⟨?_⟩,⟨?_⟩,HO⟩
     ·have:=HKK.out;rw[show tkC [a0,a1,a2,a3,a4,a5,a6,a7] 7=[a0-1,a1-1,a2-1,a3-1,a4-1,a5-1,a6-1,a7] from rfl,HZ.out];rw[HZ.out] at this;exact this
     ·rw[HS.out,if_neg (by rw[HZ.out];decide),List.append_nil,HU.out];exact HR.out
    case measure=>first|decide|simp[intOf]|(simp[intOf];omega)
   by_cases h1:a6=1
   ·have b1:decide (0<a6)=true:=decide_eq_true (by omega);have b2:=b_t a6 1 (by omega);have ew:IntKind.i64.wrap (((a6:Nat):Int)-1)=((a6-1:Nat):Int):=by have:=HL.out;rw[IntWalk.i64_in _ (by omega)];omega
    have H0:=am h0;have H1:=am h1;have HS:=am hs;clear h0 h1 hs;have HC1:qac (ClockAt (wr.drew.setCell ⟨g,6,none⟩ (.int .i64 (a6-1:Nat))) g [a0-1,a1-1,a2-1,a3-1,a4-1,a5-1,a6-1,a7]):=⟨⟨rfl,HKK.out.blk.drew.set 6 (.int .i64 (a6-1:Nat))⟩⟩;have HO1:qac (Only (·=g) w (wr.drew.setCell ⟨g,6,none⟩ (.int .i64 (a6-1:Nat)))):=⟨(HO.out.drewN 1).set rfl _⟩;have HR1:qac (Rw (wr.drew.setCell ⟨g,6,none⟩ (.int .i64 (a6-1:Nat))) (fun k=>w.heap.size≤k) 3 (.slice A3 us.length k3) us):=⟨HR.out.only ((Only.refl (·=g) wr).drewN 1 |>.set rfl _) (fun k hk _ _ e=>by have:=HLT.out;omega)⟩;have HLU:qac (us.length≤8):=⟨by rw[←HU.out,ints,List.length_map];have:=qbq [a0,a1,a2,a3,a4,a5,a6,a7] 6;omega⟩;have HU1:qac (∀u∈us,u.oneCell'=true):=⟨by rw[←HU.out];exact qbd _⟩;obtain⟨A1,n1,c1,w1,hrun,h1,h2,h3⟩:=qcl HLT.out HC1.out HR1.out HO1.out HLU.out HU1.out (.int .i64 6) rfl (n:=wr.heap.size) (qa0 _ _ _);have HRUN:=am hrun;have G1:=am h1;have G2:=am h2;have G3:=am h3;clear hrun h1 h2 h3
    go_wp2_with fail
    go_still_tail 10,(by kernel_rfl);change wpList _ _ _ _ _ wr.drew
    go_wp2_with ((with_reducible refine qao (b:=.append) (xs:=#[.tmp 31,.tmp 33]) rfl ?_);refine qap rfl (.tmp 31) (.tmp 33) 161 rfl (.slice A3 us.length k3) (.slice (some ⟨wr.heap.size,0,none⟩) 1 1) rfl rfl (.slice A1 n1 c1) w1 HRUN.out ?_)
    go_roundw
    case rel =>
     refine⟨7,by decide,by first|rfl|(simp;done),G1,⟨?_⟩,G3⟩;rw[HS.out,if_pos (by rw[H1.out];decide),←qb6,HU.out];exact G2.out
    case measure=>first|decide|simp[intOf]|(simp[intOf];omega)
   ·have b1:decide (0<a6)=true:=decide_eq_true (by omega);have b2:=b_f a6 1 (by omega);have ew:IntKind.i64.wrap (((a6:Nat):Int)-1)=((a6-1:Nat):Int):=by have:=HL.out;rw[IntWalk.i64_in _ (by omega)];omega
    have H0:=am h0;have H1:=am h1;have HS:=am hs;clear h0 h1 hs;have HC1:qac (ClockAt (wr.drew.setCell ⟨g,6,none⟩ (.int .i64 (a6-1:Nat))) g [a0-1,a1-1,a2-1,a3-1,a4-1,a5-1,a6-1,a7]):=⟨⟨rfl,HKK.out.blk.drew.set 6 (.int .i64 (a6-1:Nat))⟩⟩;have HO1:qac (Only (·=g) w (wr.drew.setCell ⟨g,6,none⟩ (.int .i64 (a6-1:Nat)))):=⟨(HO.out.drewN 1).set rfl _⟩;have HR1:qac (Rw (wr.drew.setCell ⟨g,6,none⟩ (.int .i64 (a6-1:Nat))) (fun k=>w.heap.size≤k) 3 (.slice A3 us.length k3) us):=⟨HR.out.only ((Only.refl (·=g) wr).drewN 1 |>.set rfl _) (fun k hk _ _ e=>by have:=HLT.out;omega)⟩;have HLU:qac (us.length≤8):=⟨by rw[←HU.out,ints,List.length_map];have:=qbq [a0,a1,a2,a3,a4,a5,a6,a7] 6;omega⟩;have HU1:qac (∀u∈us,u.oneCell'=true):=⟨by rw[←HU.out];exact qbd _⟩
    go_wp2_with fail
    go_still_tail 10,(by kernel_rfl);change wpList _ _ _ _ _ wr.drew;go_wp2
    go_roundw
    case rel =>
     refine⟨7,by decide,by first|rfl|(simp;done),HC1,⟨?_⟩,HO1⟩;rw[HS.out,if_neg (by rw[beq_iff_eq];exact H1.out),List.append_nil,HU.out];exact HR1.out
    case measure=>first|decide|simp[intOf]|(simp[intOf];omega)
  ·have hk:ClockAt wr g [a0-1,a1-1,a2-1,a3-1,a4-1,a5-1,a6-1,a7]:=HK.out;have c7:=hk.blk.c 7 (v:=.int .i64 (a7:Nat)) rfl;have f7:=hk.blk.f 7;have HKK:=am hk;have hx:=qpw;clear hk HK hi;have hs:=qck [a0,a1,a2,a3,a4,a5,a6,a7] 7;rw[show ([a0,a1,a2,a3,a4,a5,a6,a7].getD 7 0)=a7 from rfl] at hs;by_cases h0:a7=0
   ·have b1:decide (0<a7)=false:=decide_eq_false (by omega);have b2:=b_f a7 1 (by omega);have HZ:=am h0;have HS:=am hs;clear h0 hs;go_wp2
    go_roundw
    case rel =>
     refine⟨8,by decide,by first|rfl|(simp;done),⟨?_⟩,⟨?_⟩,HO⟩
     ·have:=HKK.out;rw[show tkC [a0,a1,a2,a3,a4,a5,a6,a7] 8=[a0-1,a1-1,a2-1,a3-1,a4-1,a5-1,a6-1,a7-1] from rfl,HZ.out];rw[HZ.out] at this;exact this
     ·rw[HS.out,if_neg (by rw[HZ.out];decide),List.append_nil,HU.out];exact HR.out
    case measure=>first|decide|simp[intOf]|(simp[intOf];omega)
   by_cases h1:a7=1
   ·have b1:decide (0<a7)=true:=decide_eq_true (by omega);have b2:=b_t a7 1 (by omega);have ew:IntKind.i64.wrap (((a7:Nat):Int)-1)=((a7-1:Nat):Int):=by have:=HL.out;rw[IntWalk.i64_in _ (by omega)];omega
    have H0:=am h0;have H1:=am h1;have HS:=am hs;clear h0 h1 hs;have HC1:qac (ClockAt (wr.drew.setCell ⟨g,7,none⟩ (.int .i64 (a7-1:Nat))) g [a0-1,a1-1,a2-1,a3-1,a4-1,a5-1,a6-1,a7-1]):=⟨⟨rfl,HKK.out.blk.drew.set 7 (.int .i64 (a7-1:Nat))⟩⟩;have HO1:qac (Only (·=g) w (wr.drew.setCell ⟨g,7,none⟩ (.int .i64 (a7-1:Nat)))):=⟨(HO.out.drewN 1).set rfl _⟩;have HR1:qac (Rw (wr.drew.setCell ⟨g,7,none⟩ (.int .i64 (a7-1:Nat))) (fun k=>w.heap.size≤k) 3 (.slice A3 us.length k3) us):=⟨HR.out.only ((Only.refl (·=g) wr).drewN 1 |>.set rfl _) (fun k hk _ _ e=>by have:=HLT.out;omega)⟩;have HLU:qac (us.length≤8):=⟨by rw[←HU.out,ints,List.length_map];have:=qbq [a0,a1,a2,a3,a4,a5,a6,a7] 7;omega⟩;have HU1:qac (∀u∈us,u.oneCell'=true):=⟨by rw[←HU.out];exact qbd _⟩;obtain⟨A1,n1,c1,w1,hrun,h1,h2,h3⟩:=qcl HLT.out HC1.out HR1.out HO1.out HLU.out HU1.out (.int .i64 7) rfl (n:=wr.heap.size) (qa0 _ _ _);have HRUN:=am hrun;have G1:=am h1;have G2:=am h2;have G3:=am h3;clear hrun h1 h2 h3
    go_wp2_with fail
    go_still_tail 10,(by kernel_rfl);change wpList _ _ _ _ _ wr.drew
    go_wp2_with ((with_reducible refine qao (b:=.append) (xs:=#[.tmp 31,.tmp 33]) rfl ?_);refine qap rfl (.tmp 31) (.tmp 33) 161 rfl (.slice A3 us.length k3) (.slice (some ⟨wr.heap.size,0,none⟩) 1 1) rfl rfl (.slice A1 n1 c1) w1 HRUN.out ?_)
    go_roundw
    case rel =>
     refine⟨8,by decide,by first|rfl|(simp;done),G1,⟨?_⟩,G3⟩;rw[HS.out,if_pos (by rw[H1.out];decide),←qb6,HU.out];exact G2.out
    case measure=>first|decide|simp[intOf]|(simp[intOf];omega)
   ·have b1:decide (0<a7)=true:=decide_eq_true (by omega);have b2:=b_f a7 1 (by omega);have ew:IntKind.i64.wrap (((a7:Nat):Int)-1)=((a7-1:Nat):Int):=by have:=HL.out;rw[IntWalk.i64_in _ (by omega)];omega
    have H0:=am h0;have H1:=am h1;have HS:=am hs;clear h0 h1 hs;have HC1:qac (ClockAt (wr.drew.setCell ⟨g,7,none⟩ (.int .i64 (a7-1:Nat))) g [a0-1,a1-1,a2-1,a3-1,a4-1,a5-1,a6-1,a7-1]):=⟨⟨rfl,HKK.out.blk.drew.set 7 (.int .i64 (a7-1:Nat))⟩⟩;have HO1:qac (Only (·=g) w (wr.drew.setCell ⟨g,7,none⟩ (.int .i64 (a7-1:Nat)))):=⟨(HO.out.drewN 1).set rfl _⟩;have HR1:qac (Rw (wr.drew.setCell ⟨g,7,none⟩ (.int .i64 (a7-1:Nat))) (fun k=>w.heap.size≤k) 3 (.slice A3 us.length k3) us):=⟨HR.out.only ((Only.refl (·=g) wr).drewN 1 |>.set rfl _) (fun k hk _ _ e=>by have:=HLT.out;omega)⟩;have HLU:qac (us.length≤8):=⟨by rw[←HU.out,ints,List.length_map];have:=qbq [a0,a1,a2,a3,a4,a5,a6,a7] 7;omega⟩;have HU1:qac (∀u∈us,u.oneCell'=true):=⟨by rw[←HU.out];exact qbd _⟩
    go_wp2_with fail
    go_still_tail 10,(by kernel_rfl);change wpList _ _ _ _ _ wr.drew;go_wp2
    go_roundw
    case rel =>
     refine⟨8,by decide,by first|rfl|(simp;done),HC1,⟨?_⟩,HO1⟩;rw[HS.out,if_neg (by rw[beq_iff_eq];exact H1.out),List.append_nil,HU.out];exact HR1.out
    case measure=>first|decide|simp[intOf]|(simp[intOf];omega)
  ·have hk:ClockAt wr g [a0-1,a1-1,a2-1,a3-1,a4-1,a5-1,a6-1,a7-1]:=HK.out;have HKK:=am hk;clear hk HK hi;go_wp2;go_ret;exact⟨_,rfl,HKK.out,by show Rw wr _ 3 (.slice A3 us.length k3) (ints (tkL [a0,a1,a2,a3,a4,a5,a6,a7] 8));rw[HU.out];exact HR.out,HO.out⟩
theorem qrk (x:Sig.Link) (i:Nat):(x.out i).told.length≤x.told.length+1∧(x.out i).fails≤x.fails+1:=by
 have ka:∀y:Sig.Link,(y.aOut i).1.told=y.told∧(y.aOut i).1.fails=y.fails:=by
  intro y;unfold Sig.Link.aOut;split
  ·exact⟨rfl,rfl⟩
  split
  ·exact⟨rfl,rfl⟩
  ·exact⟨rfl,rfl⟩
 have kj:∀y:Sig.Link,(y.jOut i).1.told=y.told∧(y.jOut i).1.fails=y.fails:=by
  intro y;unfold Sig.Link.jOut;split
  ·exact⟨rfl,rfl⟩
  split
  ·exact⟨rfl,rfl⟩
  ·exact⟨rfl,rfl⟩
 unfold Sig.Link.out;split
 ·exact⟨by omega,by omega⟩
 split
 ·simp only;split
  ·obtain⟨p,q,_⟩:=qbs (x.aOut i).1 (x.aOut i).2.2;rw[(ka x).1] at p;rw[(ka x).2] at q;exact⟨p,q⟩
  split
  ·exact⟨by show (x.aOut i).1.told.length≤_;rw[(ka x).1];omega,by show (x.aOut i).1.fails≤_;rw[(ka x).2];omega⟩
  ·exact⟨by rw[(ka x).1];omega,by rw[(ka x).2];omega⟩
 split
 ·exact⟨(qbs x 6).1,(qbs x 6).2.1⟩
 split
 ·exact⟨(qbs x 2).1,(qbs x 2).2.1⟩
 ·simp only;split
  ·obtain⟨p,q,_⟩:=qbs (x.jOut i).1 (x.jOut i).2;rw[(kj x).1] at p;rw[(kj x).2] at q;exact⟨p,q⟩
  ·exact⟨by rw[(kj x).1];omega,by rw[(kj x).2];omega⟩
theorem qkg (l:List Nat):∀x:Sig.Link,(l.foldl Sig.Link.out x).told.length≤x.told.length+l.length∧(l.foldl Sig.Link.out x).fails≤x.fails+l.length∧(l.foldl Sig.Link.out x).w=x.w:=by
 induction l with
 |nil=>intro x;exact⟨Nat.le_refl _,Nat.le_refl _,rfl⟩
 |cons i l ih =>
  intro x;obtain⟨a,b,c⟩:=ih (x.out i);obtain⟨d,e⟩:=qrk x i;simp only[List.foldl_cons,List.length_cons];exact⟨by omega,by omega,c.trans (qvc x i)⟩
theorem ints_len (l:List Nat):(ints l).length=l.length:=by simp[ints]
theorem qkw (c:List Nat):(Sig.cTick c).2.length≤8:=Nat.le_trans (List.length_filter_le _ _) (by simp)
theorem qqt {A:Adr} {O:Nat→Prop} {x:Sig.Link} {vt:Value} {w w1:World} (h:FAt A O w x w1 vt) {k t:Nat} (ht:Typed w1 k t) (hn:t≠54∧t≠152∧t≠62∧t≠177∧t≠184):¬Wr A (qbe O w w1) w1 k:=qby h.lk ht hn
def qwm (A:Adr) (O:Nat→Prop) (w:World) (y:Sig.Link) (l:List Nat) (Al:Option Addr) (cl i:Nat) (wr:World):Prop:=(∃vt',FAt A O w ((l.take i).foldl Sig.Link.out y) wr vt')∧Rw wr (fun k=>w.heap.size≤k) 3 (.slice Al l.length cl) (ints l)
theorem qm6 {A:Adr} {O:Nat→Prop} {x:Sig.Link} {vt:Value} {w:World} (h:Lk w A O x vt) (hw:WayAt w A O x.w) (hf:x.fails<900000) (hl:x.told.length≤700000) (hc:∀n∈x.c,n≤4294967296) :
  Calls Tryz.prog 48 #[.pointer (some ⟨A.s,0,none⟩)] w (qe0 A O w x.tick (.tuple #[])):=by
 have H0:=am (FAt.refl h hw);have HF:=am hf;have HL:=am hl;have HC:=am (qgx A.c x.c w h.core.cl hc);obtain⟨l,hl2⟩:∃l,(Sig.cTick x.c).2=l:=⟨_,rfl⟩;have HLL:=am hl2;have hty:Sig.Link.tick x=l.foldl Sig.Link.out { x with c:=(Sig.cTick x.c).1 }:=by unfold Sig.Link.tick;rw[←HLL.out]
 obtain⟨y,hy⟩:∃y:Sig.Link,{ x with c:=(Sig.cTick x.c).1 }=y:=⟨_,rfl⟩;rw[hy] at hty;rw[hty];have HYY:=am hy;clear hty hy;have HL8:=am (qkw x.c);rw[hl2] at HL8;obtain⟨s0,s14,s15,s16,s17,s18,s19,s20,s21,s22,s23,s24,z0,z18,z19,z20,z21,z22,z23,z24⟩:=h.core.fs;clear h hw hf hl hc hl2;go_enter Tryz.func48,Tryz.ntmps48
 go_wp2_with fail
 refine HC.out.mono ?_;rintro e w1 ⟨v,rfl,hk,hR,hon⟩;rw[HLL.out] at hR;have hq:=H0.out.turn (H0.out.lk.core.clock hon hk) (qrj hon) rfl rfl;rw[HYY.out] at hq;have hyk:y.fails<900000∧y.told.length≤700000:=by rw[←HYY.out];exact⟨HF.out,HL.out⟩
 have HY:=am hyk;have H1:=am hq;obtain⟨Al,cl,rfl,hcl,-,-⟩:=hR.slice;rw[ints_len] at hR hcl ⊢;have HR:=am hR;have HCL:=am hcl;clear hk hR hon hq hyk hcl HC H0 s0 s14 s15 s16 s17 s18 s19 s20 s21 s22 s23 s24 z0 z18 z19 z20 z21 z22 z23 z24
 go_wp2_with fail
 go_loopw [12] (fun v12 wr=>∃i:Nat,i≤l.length∧v12=.int .i64 i∧qac (qwm A O w y l Al cl i wr)) (fun v12 _=>l.length-(intOf v12).toNat)
 case atStart=>exact⟨0,Nat.zero_le _,rfl,⟨⟨_,H1.out⟩,HR.out⟩⟩
 case round =>
  obtain⟨i,hi,rfl,⟨⟨vt',hk'⟩,hr'⟩⟩:=hrel;have HK:=am hk';have HR':=am hr';clear hk' hr';clear H1 HR;by_cases hlt:i<l.length
  ·have hst:(l.take (i+1)).foldl Sig.Link.out y=((l.take i).foldl Sig.Link.out y).out l[i]:=by
    rw[List.take_succ_eq_append_getElem hlt,List.foldl_append];rfl
   have hkp:=qkg (l.take i) y;have hle:(l.take i).length≤8:=by have:=HL8.out;simp only[List.length_take];omega
   have hB:((l.take i).foldl Sig.Link.out y).fails<1000000∧((l.take i).foldl Sig.Link.out y).told.length≤1000000:=by have:=HY.out;omega
   generalize (l.take i).foldl Sig.Link.out y=z at hst hkp hB HK;have HST:=am hst;have HB:=am hB;have HI:=am hlt;obtain⟨g,off,c',e,hgc,hcell⟩:=HR'.out.get i (u:=.int .i64 (l[i]:Nat)) (by simp[ints,List.getElem?_eq_getElem hlt]);simp only[Value.slice.injEq] at e;obtain⟨rfl,-,-⟩:=e;have b1:decide ((i:Int)<(l.length:Int))=true:=decide_eq_true (by omega);have p1:=eq_true (show 0≤(i:Int) by omega);have p2:=eq_true (show (i:Int)<(l.length:Int) by omega);generalize l[i]=q at *;have hl8:=HL8.out;have hw:wrap64 ((i:Int)+1)=((i+1:Nat):Int):=by unfold wrap64;omega
   clear hst hkp hle hB hgc
   go_wp2_with fail
   refine(qpb HK.out.lk HB.out.1 HB.out.2 q).mono ?_;rintro e w2 h';have ho2:=h'.2.2;have HR2:=am (HR'.out.only ho2 (fun k _ ht _=>qqt HK.out ht (by decide)));obtain⟨rfl,vt2,h''⟩:=HK.out.acts h' (qvc z q);have H2:=am h'';clear h' h'' ho2 hcell;go_wp2
   go_roundw
   case rel=>exact⟨i+1,by have:=HI.out;omega,by first|rfl|(simp;done),⟨⟨vt2,by rw[HST.out];exact H2.out⟩,HR2.out⟩⟩
   case measure=>(have:=HI.out;have:=HL8.out;simp[intOf];omega)
  ·obtain rfl:i=l.length:=by omega
   have b1:decide ((l.length:Int)<(l.length:Int))=false:=decide_eq_false (by omega);rw[List.take_length] at HK;go_wp2;go_end0;exact HK.out.fin
theorem qm4 {A:Adr} {O:Nat→Prop} {x:Sig.Link} {vt:Value} {w:World} (h:Lk w A O x vt) (hw:WayAt w A O x.w) :
  Calls Tryz.prog 52 #[.pointer (some ⟨A.s,0,none⟩)] w fun e w'=>e=.returned vt∧Kd.R kT 184 w' 0 (qbe O w w') vt x.told∧∃vt',FAt A O w { x with told:=[] } w' vt':=by
 have H0:=am (FAt.refl h hw);have HT:=am h.told;have HLT:=am h.lt;obtain⟨s0,s14,s15,s16,s17,s18,s19,s20,s21,s22,s23,s24,z0,z18,z19,z20,z21,z22,z23,z24⟩:=h.core.fs;have hA:=h.own_lt A.s (Or.inl rfl);have HA:=am hA;clear h hw hA;obtain⟨At,ct,rfl⟩:=Kd.R_slice HT.out;go_enter Tryz.func52,Tryz.ntmps52;go_wp2;go_ret;have c':=H0.out.lk.core.setS 9 (.slice none 0 0) x.o x.leak (.slice none 0 0) x.fails rfl;have ho:=qaz (A:=A) (w:=w) 23 (.slice none 0 0);have hsz:=qa0 w ⟨A.s,23,none⟩ (.slice none 0 0);have hgrow:∀k,O k→qbe O w (w.setCell ⟨A.s,23,none⟩ (.slice none 0 0)) k:=fun k hk=>Or.inl hk;have hwf:=ho.mono (Q:=WrF A O w) (fun k hk=>Or.inl (Or.inl hk));refine⟨rfl,Kd.R_mono (Kd.R_step HT.out (fun k hk hlt=>ho.block k hlt (HLT.out k hk).2)) hgrow,_,⟨⟨⟨c'.st,c'.cl,c'.al,c'.ja,c'.tl,c'.tk⟩,Kd.R_nil _ _ _ _ _,fun k hk=>?_⟩,?_,hwf⟩⟩
 ·rcases hk with hk|hk
  ·exact⟨by have:=(HLT.out k hk).1;omega,(HLT.out k hk).2⟩
  ·omega
 ·refine(H0.out.way.only ho ?_ ?_ ?_ ?_).mono (fun k hk _=>?_)
  ·rcases H0.out.way.typed.1 with ht|ht
   ·exact fun e=>qby H0.out.lk ht (by decide) (Or.inl e)
   ·exact fun e=>qby H0.out.lk ht (by decide) (Or.inl e)
  ·exact fun e=>qby H0.out.lk H0.out.way.typed.2 (by decide) (Or.inl e)
  ·exact fun k _ ht e=>qby H0.out.lk ht (by decide) (Or.inl e)
  ·exact fun k e ht=>qby H0.out.lk ht (by decide) (Or.inl e)
  ·rcases hk with hk|hk
   ·exact Or.inl hk
   ·omega
theorem blk_new {w:World} {n t:Nat} {cs:List Value} (h:w.heap.size=n):Blk (w.alloc (.cells cs.toArray t)) n t cs:=by
 subst h;exact heap_alloc_new w _
def setA (cyc:Bool) (t0 t1 t2 t3 t4 t5 t6 t7:Nat):Value:=.agg #[.bool cyc,.int .i64 8,.int .i64 300,.int .i64 16,.int .i64 600,.int .i64 t0,.int .i64 t1,.int .i64 t2,.int .i64 t3,.int .i64 t4,.int .i64 t5,.int .i64 t6,.int .i64 t7]
def qe5 (cyc:Bool) (t0 t1 t2 t3 t4 t5 t6 t7:Nat):List Value:=[.bool cyc,.int .i64 8,.int .i64 300,.int .i64 16,.int .i64 600,.int .i64 t0,.int .i64 t1,.int .i64 t2,.int .i64 t3,.int .i64 t4,.int .i64 t5,.int .i64 t6,.int .i64 t7]
def qxt (w:World) (t:Nat) (cs:List Value) (e:Ending) (w':World):Prop:=∃g,e=.returned (.pointer (some ⟨g,0,none⟩))∧Blk w' g t cs∧w.heap.size≤g∧Below w.heap.size w w'
theorem qhj (cyc:Bool) (t0 t1 t2 t3 t4 t5 t6 t7:Nat) (c:Nat) (w:World) :
  Calls Tryz.prog 57 #[setA cyc t0 t1 t2 t3 t4 t5 t6 t7,.pointer (some ⟨c,0,none⟩)] w (qxt w 62 (qe5 cyc t0 t1 t2 t3 t4 t5 t6 t7++[ptr c,.int .u8 0,.bool false,.bool false,.bool false,.int .i64 0,.int .i64 0])):=by
 unfold setA ptr qe5;go_enter Tryz.func57,Tryz.ntmps57
 go_wp2_with fail
 go_wp2;go_ret;exact⟨_,rfl,blk_new (by simp[World.alloc_eq]),by simp[World.alloc_eq],(qaa (Below.refl _ _) _).alloc (by simp[World.alloc_eq]) _⟩
theorem qkl (cyc:Bool) (t0 t1 t2 t3 t4 t5 t6 t7:Nat) (c:Nat) (w:World) :
  Calls Tryz.prog 58 #[setA cyc t0 t1 t2 t3 t4 t5 t6 t7,.pointer (some ⟨c,0,none⟩)] w (qxt w 177 (qe5 cyc t0 t1 t2 t3 t4 t5 t6 t7++[ptr c,.bool false,.bool false,.bool false])):=by
 unfold setA ptr qe5;go_enter Tryz.func58,Tryz.ntmps58
 go_wp2_with fail
 go_wp2;go_ret;exact⟨_,rfl,blk_new (by simp[World.alloc_eq]),by simp[World.alloc_eq],(qaa (Below.refl _ _) _).alloc (by simp[World.alloc_eq]) _⟩
theorem qeu (m o:Nat) (w:World):Calls Tryz.prog 113 #[.int .i64 m,.int .i64 o] w (qxt w 148 [.int .i64 m,.int .i64 o,.slice none 0 0,.int .u8 0,.slice none 0 0]):=by
 go_enter Tryz.func113,Tryz.ntmps113;go_wp2;go_ret;exact⟨_,rfl,heap_alloc_new _ _,Nat.le_refl _,qaa (Below.refl _ _) _⟩
theorem qhh (w:World):Calls Tryz.prog 83 #[.int .i64 16,.int .i64 600] w fun e w'=>∃g h,e=.returned (.pointer (some ⟨g,0,none⟩))∧Blk w' g 205 (qat h ⟨Sig.newHold,true,true,127,false,none,(false,false),(false,false)⟩)∧Blk w' h 148 [.int .i64 16,.int .i64 600,.slice none 0 0,.int .u8 0,.slice none 0 0]∧w.heap.size≤g∧w.heap.size≤h∧Below w.heap.size w w':=by
 go_enter Tryz.func83,Tryz.ntmps83
 go_wp2_with fail
 refine(qeu 16 600 w).mono ?_;rintro e w1 ⟨h,rfl,hB,hg,hb⟩;have HB:=am hB;have HG:=am hg;have HBE:=am hb;clear hB hg hb;go_wp2;go_ret;refine⟨_,h,rfl,heap_alloc_new _ _,HB.out.only ((Only.refl (fun _=>False) w1).alloc _) (fun h=>h),HBE.out.size,HG.out,HBE.out.alloc HBE.out.size _⟩
theorem qgv (w:World):Calls Tryz.prog 82 #[.int .i64 16,.int .i64 600,.int .i64 8,.int .i64 300] w fun e w'=>∃g h,e=.returned (.pointer (some ⟨g,0,none⟩))∧Blk w' g 203 (qa2 h ⟨Sig.newHold,8,300,127,0,false,(false,false)⟩)∧Blk w' h 148 [.int .i64 16,.int .i64 600,.slice none 0 0,.int .u8 0,.slice none 0 0]∧w.heap.size≤g∧w.heap.size≤h∧Below w.heap.size w w':=by
 have m1:∀W:World,(Builtin.max_ #[3,3] 3 #[.int .i64 8,.int .i64 1]).run Tryz.prog W=.ok (.int .i64 8) W:=fun W=>by kernel_rfl
 have m2:∀W:World,(Builtin.max_ #[3,3] 3 #[.int .i64 300,.int .i64 1]).run Tryz.prog W=.ok (.int .i64 300) W:=fun W=>by kernel_rfl
 go_enter Tryz.func82,Tryz.ntmps82
 go_wp2_with fail
 refine(qeu 16 600 w).mono ?_;rintro e w1 ⟨h,rfl,hB,hg,hb⟩;have HB:=am hB;have HG:=am hg;have HBE:=am hb;clear hB hg hb;go_wp2;go_ret;refine⟨_,h,rfl,heap_alloc_new _ _,HB.out.only ((Only.refl (fun _=>False) w1).alloc _) (fun h=>h),HBE.out.size,HG.out,HBE.out.alloc HBE.out.size _⟩
structure qxv (w:World) (A:Adr) (x:Sig.Link) (w':World):Prop where
 lk:Lk w' A (fun _=>False) x (.slice none 0 0)
 way:WayAt w' A (fun _=>False) x.w
 own:∀k,Own A k∨k=A.w∨k=A.h→w.heap.size≤k
 below:Below w.heap.size w w'
structure qwv (w:World) (cyc:Bool) (v:Value) (gw gh:Nat) (w':World):Prop where
 v:v=.iface (if cyc then 178 else 180) (.pointer (some ⟨gw,0,none⟩))
 blk:if cyc then Blk w' gw 203 (qa2 gh ⟨Sig.newHold,8,300,127,0,false,(false,false)⟩) else Blk w' gw 205 (qat gh ⟨Sig.newHold,true,true,127,false,none,(false,false),(false,false)⟩)
 hold:Blk w' gh 148 [.int .i64 16,.int .i64 600,.slice none 0 0,.int .u8 0,.slice none 0 0]
 gw:w.heap.size≤gw
 gh:w.heap.size≤gh
 below:Below w.heap.size w w'
theorem qjm (cyc:Bool) (t0 t1 t2 t3 t4 t5 t6 t7:Nat) (w:World):Calls Tryz.prog 59 #[setA cyc t0 t1 t2 t3 t4 t5 t6 t7] w fun e w'=>∃v gw gh,e=.returned v∧qwv w cyc v gw gh w':=by
 unfold setA;cases cyc
 ·go_enter Tryz.func59,Tryz.ntmps59
  go_wp2_with fail
  refine(qhh _).mono ?_;rintro e w1 ⟨g,h,rfl,h1,h2,h3,h4,h5⟩;have H:qac (qwv w false (.iface 180 (.pointer (some ⟨g,0,none⟩))) g h w1):=⟨⟨rfl,h1,h2,by have:=h3;simp[World.alloc_eq] at this;omega,by have:=h4;simp[World.alloc_eq] at this;omega,(qaa (Below.refl _ _) _).trans (h5.mono (by simp[World.alloc_eq]))⟩⟩;clear h1 h2 h3 h4 h5;go_wp2;go_ret;exact⟨_,g,h,rfl,H.out⟩
 ·go_enter Tryz.func59,Tryz.ntmps59
  go_wp2_with fail
  refine(qgv _).mono ?_;rintro e w1 ⟨g,h,rfl,h1,h2,h3,h4,h5⟩;have H:qac (qwv w true (.iface 178 (.pointer (some ⟨g,0,none⟩))) g h w1):=⟨⟨rfl,h1,h2,by have:=h3;simp[World.alloc_eq] at this;omega,by have:=h4;simp[World.alloc_eq] at this;omega,(qaa (Below.refl _ _) _).trans (h5.mono (by simp[World.alloc_eq]))⟩⟩;clear h1 h2 h3 h4 h5;go_wp2;go_ret;exact⟨_,g,h,rfl,H.out⟩
theorem lnew {cyc:Bool} {t0 t1 t2 t3 t4 t5 t6 t7:Nat} {w w2 w3:World} {C g1 g2 gw gh ty:Nat} (ht:∀n∈[t0,t1,t2,t3,t4,t5,t6,t7],1≤n∧n≤4294967296) (kc:Blk w3 C 152 (qdg Sig.cZero)) (ka:Blk w3 g1 62 (qe5 cyc t0 t1 t2 t3 t4 t5 t6 t7++[ptr C,.int .u8 0,.bool false,.bool false,.bool false,.int .i64 0,.int .i64 0])) (kj:Blk w3 g2 177 (qe5 cyc t0 t1 t2 t3 t4 t5 t6 t7++[ptr C,.bool false,.bool false,.bool false]))
  {v:Value} (hW:qwv w2 cyc v gw gh w3) (hty:(if cyc=true then 178 else 180)=ty) (hb:Below w.heap.size w w3) (hC:w.heap.size≤C) (hg1:w.heap.size≤g1) (hg2:w.heap.size≤g2) (h2:w.heap.size≤w2.heap.size) :
  qxv w ⟨w3.heap.size,C,g1,g2,gw,gh,cyc⟩ (Sig.newLink cyc [t0,t1,t2,t3,t4,t5,t6,t7]) (w3.alloc (.cells #[.int .u8 0,.bool cyc,.int .i64 8,.int .i64 300,.int .i64 16,.int .i64 600,.int .i64 t0,.int .i64 t1,.int .i64 t2,.int .i64 t3,.int .i64 t4,.int .i64 t5,.int .i64 t6,.int .i64 t7,.pointer (some ⟨C,0,none⟩),.pointer (some ⟨g1,0,none⟩),.pointer (some ⟨g2,0,none⟩),.iface ty (.pointer (some ⟨gw,0,none⟩)),.bool false,.bool false,.bool false,.int .i64 0,.int .i64 0,.slice none 0 0,.int .i64 0] 54)):=by
 subst hty;generalize ho:Obj.cells _ 54=o;have hbo:Below w3.heap.size w3 (w3.alloc o):=qaa (Below.refl _ _) o;have up:∀{g t cs},Blk w3 g t cs→Blk (w3.alloc o) g t cs:=fun h=>h.only (qag hbo) (fun h=>h);have hs:=hb.size;refine⟨⟨⟨?_,⟨rfl,up kc⟩,?_,?_,⟨t0,t1,t2,t3,t4,t5,t6,t7,rfl⟩,fun i hi=>?_⟩,Kd.R_nil _ _ _ _ _,fun k hk=>hk.elim⟩,?_,?_,hb.trans (hbo.mono hs)⟩
 ·subst ho;exact heap_alloc_new w3 _
 ·exact up ka
 ·exact up kj
 ·refine ht _ ?_
  match i,hi with
  |0,_=>simp[Sig.newLink,Sig.Link.T]
  |1,_=>simp[Sig.newLink,Sig.Link.T]
  |2,_=>simp[Sig.newLink,Sig.Link.T]
  |3,_=>simp[Sig.newLink,Sig.Link.T]
  |4,_=>simp[Sig.newLink,Sig.Link.T]
  |5,_=>simp[Sig.newLink,Sig.Link.T]
  |6,_=>simp[Sig.newLink,Sig.Link.T]
  |7,_=>simp[Sig.newLink,Sig.Link.T]
 ·have h1:=hW.blk;have h2:=up hW.hold;cases cyc
  ·exact⟨rfl,up h1,_,_,⟨h2,⟨[],Rw.nil _ _ _,trivial⟩,⟨[],Rw.nil _ _ _,trivial⟩,fun k hk=>by simp[qau] at hk⟩⟩
  ·exact⟨rfl,up h1,_,_,⟨h2,⟨[],Rw.nil _ _ _,trivial⟩,⟨[],Rw.nil _ _ _,trivial⟩,fun k hk=>by simp[qau] at hk⟩⟩
 ·have h3:=hW.gw;have h4:=hW.gh;have h5:=hW.below.size;rintro k ((rfl|rfl|rfl|rfl)|rfl|rfl)
  ·show w.heap.size≤w3.heap.size;omega
  ·exact hC
  ·exact hg1
  ·exact hg2
  ·exact Nat.le_trans h2 h3
  ·exact Nat.le_trans h2 h4
theorem qjy {w:World} {g:Nat} {cyc:Bool} {t0 t1 t2 t3 t4 t5 t6 t7:Nat} (h:Blk w g 27 (qe5 cyc t0 t1 t2 t3 t4 t5 t6 t7)):w.cell? ⟨g,0,none⟩=some (.bool cyc)∧w.cell? ⟨g,1,none⟩=some (.int .i64 8)∧w.cell? ⟨g,2,none⟩=some (.int .i64 300)∧w.cell? ⟨g,3,none⟩=some (.int .i64 16)∧w.cell? ⟨g,4,none⟩=some (.int .i64 600)∧w.cell? ⟨g,5,none⟩=some (.int .i64 (t0:Nat))∧w.cell? ⟨g,6,none⟩=some (.int .i64 (t1:Nat))∧w.cell? ⟨g,7,none⟩=some (.int .i64 (t2:Nat))∧w.cell? ⟨g,8,none⟩=some (.int .i64 (t3:Nat))∧w.cell? ⟨g,9,none⟩=some (.int .i64 (t4:Nat))∧w.cell? ⟨g,10,none⟩=some (.int .i64 (t5:Nat))∧w.cell? ⟨g,11,none⟩=some (.int .i64 (t6:Nat))∧w.cell? ⟨g,12,none⟩=some (.int .i64 (t7:Nat)) :=
 ⟨h.c 0 rfl,h.c 1 rfl,h.c 2 rfl,h.c 3 rfl,h.c 4 rfl,h.c 5 rfl,h.c 6 rfl,h.c 7 rfl,h.c 8 rfl,h.c 9 rfl,h.c 10 rfl,h.c 11 rfl,h.c 12 rfl⟩
theorem qg7 (cyc:Bool) (t0 t1 t2 t3 t4 t5 t6 t7:Nat) (w:World) (ht:∀n∈[t0,t1,t2,t3,t4,t5,t6,t7],1≤n∧n≤4294967296) :
  Calls Tryz.prog 45 #[setA cyc t0 t1 t2 t3 t4 t5 t6 t7] w fun e w'=>∃A,e=.returned (ptr A.s)∧A.cyc=cyc∧qxv w A (Sig.newLink cyc [t0,t1,t2,t3,t4,t5,t6,t7]) w':=by
 have HT:=am ht;clear ht;unfold setA;go_enter Tryz.func45,Tryz.ntmps45
 go_wp2_with fail
 have BX:qac (Blk ((w.alloc (.cells #[.bool cyc,.int .i64 8,.int .i64 300,.int .i64 16,.int .i64 600,.int .i64 t0,.int .i64 t1,.int .i64 t2,.int .i64 t3,.int .i64 t4,.int .i64 t5,.int .i64 t6,.int .i64 t7] 27)).alloc (.cells #[.int .i64 0,.int .i64 0,.int .i64 0,.int .i64 0,.int .i64 0,.int .i64 0,.int .i64 0,.int .i64 0] 152)) w.heap.size 27 (qe5 cyc t0 t1 t2 t3 t4 t5 t6 t7)):=⟨(show Blk (w.alloc (.cells #[.bool cyc,.int .i64 8,.int .i64 300,.int .i64 16,.int .i64 600,.int .i64 t0,.int .i64 t1,.int .i64 t2,.int .i64 t3,.int .i64 t4,.int .i64 t5,.int .i64 t6,.int .i64 t7] 27)) w.heap.size 27 (qe5 cyc t0 t1 t2 t3 t4 t5 t6 t7) from heap_alloc_new w _).only ((Only.refl (fun _=>False) _).alloc _) (fun h=>h)⟩;have CX:qac (Blk ((w.alloc (.cells #[.bool cyc,.int .i64 8,.int .i64 300,.int .i64 16,.int .i64 600,.int .i64 t0,.int .i64 t1,.int .i64 t2,.int .i64 t3,.int .i64 t4,.int .i64 t5,.int .i64 t6,.int .i64 t7] 27)).alloc (.cells #[.int .i64 0,.int .i64 0,.int .i64 0,.int .i64 0,.int .i64 0,.int .i64 0,.int .i64 0,.int .i64 0] 152)) (w.heap.size+1) 152 (qdg Sig.cZero)):=⟨blk_new (by simp[World.alloc_eq])⟩;have hb:Below w.heap.size w ((w.alloc (.cells #[.bool cyc,.int .i64 8,.int .i64 300,.int .i64 16,.int .i64 600,.int .i64 t0,.int .i64 t1,.int .i64 t2,.int .i64 t3,.int .i64 t4,.int .i64 t5,.int .i64 t6,.int .i64 t7] 27)).alloc (.cells #[.int .i64 0,.int .i64 0,.int .i64 0,.int .i64 0,.int .i64 0,.int .i64 0,.int .i64 0,.int .i64 0] 152)):=(qaa (Below.refl _ _) _).alloc (by simp[World.alloc_eq]) _;have HB:=am hb;have HS:qac (((w.alloc (.cells #[.bool cyc,.int .i64 8,.int .i64 300,.int .i64 16,.int .i64 600,.int .i64 t0,.int .i64 t1,.int .i64 t2,.int .i64 t3,.int .i64 t4,.int .i64 t5,.int .i64 t6,.int .i64 t7] 27)).alloc (.cells #[.int .i64 0,.int .i64 0,.int .i64 0,.int .i64 0,.int .i64 0,.int .i64 0,.int .i64 0,.int .i64 0] 152)).heap.size=w.heap.size+2):=⟨by simp[World.alloc_eq]⟩;clear hb;generalize ((w.alloc (.cells #[.bool cyc,.int .i64 8,.int .i64 300,.int .i64 16,.int .i64 600,.int .i64 t0,.int .i64 t1,.int .i64 t2,.int .i64 t3,.int .i64 t4,.int .i64 t5,.int .i64 t6,.int .i64 t7] 27)).alloc (.cells #[.int .i64 0,.int .i64 0,.int .i64 0,.int .i64 0,.int .i64 0,.int .i64 0,.int .i64 0,.int .i64 0] 152))=W at BX CX HB HS ⊢;obtain⟨B,hB⟩:∃B,w.heap.size=B:=⟨_,rfl⟩;obtain⟨C,hC⟩:∃C,B+1=C:=⟨_,rfl⟩;have HBB:=am hB;have HCC:=am hC;rw[hB] at BX CX ⊢;rw[hC] at CX ⊢;clear hB hC;refine sr 13 (fun W'=>Blk W' B 27 (qe5 cyc t0 t1 t2 t3 t4 t5 t6 t7)) [11] BX.out.drew (fun hY=>?_);refine pu 1 7 ?_;refine pu 3 9 ?_;refine pu 6 12 ?_;refine take_ (i:=0) (N:=some 6) (v:=?_) (a':=?_) #[true,true,false,true,false,false,true,false,false,false,false,false,false] rfl rfl (by kernel_rfl) (fun _ _ _ h=>h) (Or.inl ⟨by rfl,?_⟩) hY ?_ ?_;rotate_left
 ·intro w' hS';obtain⟨s0_,s1_,s2_,s3_,s4_,s5_,s6_,s7_,s8_,s9_,s10_,s11_,s12_⟩:=qjy hS';go_simp
  with_reducible rfl
 rotate_left
 ·simp only[Act.put,List.setIfInBounds_toArray,List.set_cons_zero,List.set_cons_succ,qed,qet];rfl
 refine take_ (i:=2) (N:=some 8) (v:=?_) (a':=?_) #[true,true,true,true,false,false,true,false,false,false,false,false,false] rfl rfl (by kernel_rfl) (fun _ _ _ h=>h) (Or.inl ⟨by rfl,?_⟩) hY ?_ ?_;rotate_left
 ·intro w' hS';obtain⟨s0_,s1_,s2_,s3_,s4_,s5_,s6_,s7_,s8_,s9_,s10_,s11_,s12_⟩:=qjy hS';go_simp
  with_reducible rfl
 rotate_left
 ·simp only[Act.put,List.setIfInBounds_toArray,List.set_cons_zero,List.set_cons_succ,qed,qet];rfl
 refine take_ (i:=5) (N:=some 11) (v:=?_) (a':=?_) #[true,true,true,true,false,true,true,false,false,false,false,false,false] rfl rfl (by kernel_rfl) (fun _ _ _ h=>h) (Or.inl ⟨by rfl,?_⟩) hY ?_ ?_;rotate_left
 ·intro w' hS';obtain⟨s0_,s1_,s2_,s3_,s4_,s5_,s6_,s7_,s8_,s9_,s10_,s11_,s12_⟩:=qjy hS';go_simp
  with_reducible rfl
 rotate_left
 ·simp only[Act.put,List.setIfInBounds_toArray,List.set_cons_zero,List.set_cons_succ,qed,qet];rfl
 refine take_ (i:=8) (N:=some 14) (v:=?_) (a':=?_) #[true,true,true,true,false,true,true,false,true,false,false,false,false] rfl rfl (by kernel_rfl) (fun _ _ _ h=>h) (Or.inl ⟨by rfl,?_⟩) hY ?_ ?_;rotate_left
 ·intro w' hS';obtain⟨s0_,s1_,s2_,s3_,s4_,s5_,s6_,s7_,s8_,s9_,s10_,s11_,s12_⟩:=qjy hS';go_simp
  with_reducible rfl
 rotate_left
 ·simp only[Act.put,List.setIfInBounds_toArray,List.set_cons_zero,List.set_cons_succ,qed,qet];rfl
 refine on_ 4 10 (fun K hK=>?_);refine gs Tryz.func57 #[setA cyc t0 t1 t2 t3 t4 t5 t6 t7,.pointer (some ⟨C,0,none⟩)] ?_
 with_reducible refine(qhj cyc t0 t1 t2 t3 t4 t5 t6 t7 C W.drew).mono ?_
 rintro e w1 ⟨g1,rfl,hB1,hg1,hb1⟩;refine⟨_,rfl,?_⟩;refine hK.out _ _ (hY.only (qag hb1) (fun h=>h)) (fun hY=>?_);clear hK K;refine nm 10 ?_;refine on_ 7 13 (fun K hK=>?_);refine gs Tryz.func58 #[setA cyc t0 t1 t2 t3 t4 t5 t6 t7,.pointer (some ⟨C,0,none⟩)] ?_
 with_reducible refine(qkl cyc t0 t1 t2 t3 t4 t5 t6 t7 C w1).mono ?_
 rintro e w2 ⟨g2,rfl,hB2,hg2,hb2⟩;refine⟨_,rfl,?_⟩;refine hK.out _ _ (hY.only (qag hb2) (fun h=>h)) (fun hY=>?_);clear hK K;refine nm 13 ?_;refine on_ 9 15 (fun K hK=>?_);refine gs Tryz.func59 #[setA cyc t0 t1 t2 t3 t4 t5 t6 t7] ?_
 with_reducible refine(qjm cyc t0 t1 t2 t3 t4 t5 t6 t7 w2).mono ?_
 rintro e w3 ⟨vw,gw,gh,rfl,hW⟩;refine⟨_,rfl,?_⟩;have hb3:=hW.below;obtain⟨ty,hty⟩:∃ty,(if cyc=true then 178 else 180)=ty:=⟨_,rfl⟩;have hv:=hW.v;rw[hty] at hv;subst hv;have HTY:=am hty;clear hty;refine hK.out _ _ (hY.only (qag hb3) (fun h=>h)) (fun hY=>?_);clear hK K;refine nm 15 ?_;refine pu 10 16 ?_;refine la_ 11 17 (fun K hK=>?_);refine qbf (w1:=?_) (v:=?_) (by rfl) rfl ?_ ?_;rotate_left 2
 ·go_simp;constructor
  ·rfl
  ·rfl
 refine hK.out _ _ ?_;clear hK K;refine nm 17 ?_;refine pu 12 2 ?_;refine qav (by kernel_rfl) ?_;skip;go_wp2;go_ret;refine⟨⟨w3.heap.size,C,g1,g2,gw,gh,cyc⟩,rfl,rfl,?_⟩;have hbW:Below w.heap.size w w3:=HB.out.trans (((qaf (Below.refl _ _)).trans hb1 |>.trans (hb2.mono (by have:=hb1.size;exact this)) |>.trans (hb3.mono (by have:=hb1.size;have:=hb2.size;omega))).mono HB.out.size);have e1:=hb1.size;have e2:=hb2.size;have e3:=hb3.size;have hs:=HS.out;have hw0:=HBB.out;have hc0:=HCC.out;have kc:=(((CX.out.drew).only (qag hb1) (fun h=>h)).only (qag hb2) (fun h=>h)).only (qag hb3) (fun h=>h);have ka:=(hB1.only (qag hb2) (fun h=>h)).only (qag hb3) (fun h=>h);have kj:=hB2.only (qag hb3) (fun h=>h);have d0:W.drew.heap.size=W.heap.size:=rfl;exact lnew HT.out kc ka kj hW HTY.out hbW (by omega) (by omega) (by omega) (by omega)
structure UOk (u:Sig.Unit):Prop where
 bsn:u.bsn<128
 fsn:u.fsn<128
 kind:u.kind=0∨u.kind=1∨u.kind=2
 status:u.kind=1→u.status≤7
 info:u.kind=2→3≤u.info.length∧u.info.length≤273
 oct:∀b∈u.info,b<256
theorem qjo (u:Sig.Unit) (ok:UOk u) (A:Option Addr) (c:Nat) (w:World) :
  Calls Tryz.prog 105 #[qax u (.slice A u.info.length c)] w (qm1 w (.int .i64 0)):=by
 have d1:decide ((128:Int)≤(u.bsn:Int))=false:=decide_eq_false (by have:=ok.bsn;omega);have d2:decide ((128:Int)≤(u.fsn:Int))=false:=decide_eq_false (by have:=ok.fsn;omega);have d3:decide ((2:Int)<(u.kind:Int))=false:=decide_eq_false (by have:=ok.kind;omega);have OK:=am ok;clear ok;unfold qax;by_cases k1:u.kind=1
 ·have e1:=b_t u.kind 1 (by omega);have e2:=b_f u.kind 2 (by omega);have d4:decide ((7:Int)<(u.status:Int))=false:=decide_eq_false (by have:=OK.out.status k1;omega);clear k1;go_enter Tryz.func105,Tryz.ntmps105
  go_wp2_with fail
  go_wp2;go_ret;exact⟨rfl,qaa (Below.refl _ _) _⟩
 by_cases k2:u.kind=2
 ·have e1:=b_f u.kind 1 (by omega);have e2:=b_t u.kind 2 (by omega);have d5:decide ((u.info.length:Int)<3)=false:=decide_eq_false (by have:=OK.out.info k2;omega);have d6:decide ((273:Int)<(u.info.length:Int))=false:=decide_eq_false (by have:=OK.out.info k2;omega);clear k1 k2;go_enter Tryz.func105,Tryz.ntmps105
  go_wp2_with fail
  go_wp2;go_ret;exact⟨rfl,qaa (Below.refl _ _) _⟩
 have e1:=b_f u.kind 1 (by omega);have e2:=b_f u.kind 2 (by omega);clear k1 k2;go_enter Tryz.func105,Tryz.ntmps105
 go_wp2_with fail
 go_wp2;go_ret;exact⟨rfl,qaa (Below.refl _ _) _⟩
theorem qpg (w:World) (cs:List Nat) {k:Nat} (hk:cs.length=k) {n:Nat} (hn:w.heap.size=n) (hl:cs.length≤1000000):Oct (w.alloc (.cells (octs cs).toArray 5)) (.slice (some ⟨n,0,none⟩) k k) cs:=by
 subst hn;subst hk;refine Or.inr ⟨w.heap.size,0,cs.length,(octs cs).toArray,by rw[qbc],by rw[qbc];exact Nat.le_refl _,by simp[maxLen];omega,⟨(0,0),heap_alloc_new w _,fun _=>rfl⟩,by simp[octs],fun j u hj=>?_,trivial⟩
 simpa using hj
theorem qk3 (u:Sig.Unit) (ok:UOk u) (A:Option Addr) (c:Nat) (w:World) (ho:Oct w (.slice A u.info.length c) u.info) :
  Calls Tryz.prog 106 #[qax u (.slice A u.info.length c)] w fun e w'=>∃v,e=.returned v∧Oct w' v u.body∧Below w.heap.size w w':=by
 have OK:=am ok;have HO:=am ho;clear ok ho;unfold qax;by_cases k1:u.kind=1
 ·have e1:=b_t u.kind 1 (by omega);have e2:=b_f u.kind 2 (by omega);obtain⟨wd,hwd⟩:∃b,u.wide=b:=⟨_,rfl⟩;rw[hwd];cases wd
  ·have hb:u.body=[u.status]:=by unfold Sig.Unit.body;rw[if_pos k1,hwd];rfl
   have HB:=am hb;clear hb k1 hwd;go_enter Tryz.func106,Tryz.ntmps106
   go_wp2_with fail
   go_wp2;go_ret;refine⟨_,rfl,?_,(qaa (Below.refl _ _) _).alloc (by simp[World.alloc_eq]) _⟩;rw[HB.out];exact qpg _ [u.status] rfl (by simp[World.alloc_eq]) (by simp)
  ·have hb:u.body=[u.status,0]:=by unfold Sig.Unit.body;rw[if_pos k1,hwd];rfl
   have HB:=am hb;clear hb k1 hwd;go_enter Tryz.func106,Tryz.ntmps106
   go_wp2_with fail
   go_wp2;go_ret;refine⟨_,rfl,?_,(qaa (Below.refl _ _) _).alloc (by simp[World.alloc_eq]) _⟩;rw[HB.out];exact qpg _ [u.status,0] rfl (by simp[World.alloc_eq]) (by simp)
 by_cases k2:u.kind=2
 ·have e1:=b_f u.kind 1 (by omega);have e2:=b_t u.kind 2 (by omega);have hb:u.body=u.info:=by unfold Sig.Unit.body;rw[if_neg k1,if_pos k2]
  have HB:=am hb;clear hb k1 k2;go_enter Tryz.func106,Tryz.ntmps106
  go_wp2_with fail
  go_wp2;go_ret;refine⟨_,rfl,?_,qaa (Below.refl _ _) _⟩;rw[HB.out];exact HO.out.below (qaa (Below.refl _ _) _)
 have e1:=b_f u.kind 1 (by omega);have e2:=b_f u.kind 2 (by omega);have hb:u.body=[]:=by unfold Sig.Unit.body;rw[if_neg k1,if_neg k2]
 have HB:=am hb;clear hb k1 k2;go_enter Tryz.func106,Tryz.ntmps106
 go_wp2_with fail
 go_wp2;go_ret;refine⟨_,rfl,?_,qaa (Below.refl _ _) _⟩;rw[HB.out];exact Rw.nil _ _ _
theorem quj:∀n:Nat,n<128→Go.bits .or .u8 (n:Int) 128=((n ||| 128:Nat):Int):=by decide +kernel
theorem qhk (n:Nat) (hn:n<128) (b:Bool) (w:World):Calls Tryz.prog 107 #[.int .u8 n,.bool b] w fun e w'=>e=.returned (.int .u8 (Sig.ubit n b:Nat))∧w=w':=by
 have hm:Int.tmod (n:Int) 128=(n:Int):=by rw[Int.tmod_eq_emod_of_nonneg (by omega)];omega
 have hu:n%128=n:=Nat.mod_eq_of_lt hn;have ho:=quj n hn;unfold Sig.ubit;rw[hu];clear hu;cases b
 ·go_enter Tryz.func107,Tryz.ntmps107;go_wp2;go_ret;exact⟨rfl,rfl⟩
 ·go_enter Tryz.func107,Tryz.ntmps107;go_wp2;go_ret;exact⟨rfl,rfl⟩
theorem UOk.right {u:Sig.Unit} (ok:UOk u):u.right=0:=by
 have h1:=ok.bsn;have h2:=ok.fsn;have h3:=ok.kind;have h4:=ok.status;have h5:=ok.info;unfold Sig.Unit.right;rw[if_neg (by omega),if_neg (by omega),if_neg (by omega)]
theorem UOk.enc {u:Sig.Unit} (ok:UOk u):u.encode=([Sig.ubit u.bsn u.bib,Sig.ubit u.fsn u.fib,Nat.min u.body.length 63]++u.body,0):=by
 unfold Sig.Unit.encode;rw[if_neg (by rw[ok.right];decide)]
theorem UOk.body_len {u:Sig.Unit} (ok:UOk u):u.body.length≤273:=by
 have h5:=ok.info;unfold Sig.Unit.body;split
 ·split <;> simp
 split
 ·rename_i h;exact(h5 h).2
 ·simp
theorem qpn (n m:Nat) (h:Nat.min n 63=m):∀W:World,(Builtin.min_ #[3,3] 3 #[.int .i64 (n:Int),.int .i64 63]).run Tryz.prog W=.ok (.int .i64 (m:Int)) W:=fun W=>by
 rw[run_min_int2,←h]
 congr 2
 by_cases hg:(63:Int)<(n:Int)
 ·rw[if_pos hg];simp only[Nat.min_def];rw[if_neg (by omega)];rfl
 ·rw[if_neg hg];simp only[Nat.min_def];rw[if_pos (by omega)]
theorem qud {w W:World} {v:Value} {h b:List Nat} (hb:Below w.heap.size w W) (ho:Oct W v b) (hl:b.length≤1000) (hh:h.length=3) {n:Nat} (hn:W.heap.size=n) {cs:Array Value} (hcs:(octs h).toArray=cs) :
  ∃v1 w1,(Builtin.append_ #[23,23] 23 #[.slice (some ⟨n,0,none⟩) 3 3,v]).run Tryz.prog (W.alloc (.cells cs 5))=.ok v1 w1∧Oct w1 v1 (h++b)∧Below w.heap.size w w1:=by
 subst hn;subst hcs;have hba:Below W.heap.size W (W.alloc (.cells (octs h).toArray 5)):=qaa (Below.refl _ _) _;have hsz:(W.alloc (.cells (octs h).toArray 5)).heap.size=W.heap.size+1:=by simp[World.alloc_eq]
 have o1:Rw (W.alloc (.cells (octs h).toArray 5)) (fun k=>W.heap.size≤k) 5 (.slice (some ⟨W.heap.size,0,none⟩) 3 3) (octs h):=by
  refine Or.inr ⟨W.heap.size,0,3,(octs h).toArray,by rw[qbc,hh],by rw[qbc,hh];exact Nat.le_refl _,by simp[maxLen],⟨(0,0),heap_alloc_new W _,fun _=>rfl⟩,by simp[octs,hh],fun j u hj=>?_,Nat.le_refl _⟩
  simpa using hj
 obtain⟨v1,w1,hrun,hR,hO,hat⟩:=Rw.append el5 23 o1 (ho.below hba) (qi2 b) (qi2 h) (by rw[qbc,qbc];omega) (fun k hk=>by omega) (fun _ g off n c cells fr e1 e2=>by
  simp only[Value.slice.injEq,Option.some.injEq,Addr.mk.injEq] at e1;obtain⟨⟨rfl,-,-⟩,-,-⟩:=e1;rw[heap_alloc_new] at e2;simp only[Option.some.injEq,Obj.cells.injEq] at e2;exact e2.2.2.symm)
 refine⟨v1,w1,hrun,?_,hb.trans (Below.mono (B:=W.heap.size) ?_ hb.size)⟩
 ·refine Rw.mono (P:=fun k=>W.heap.size≤k) ?_ (fun _ _ _ _ _=>trivial);rw[show octs (h++b)=octs h++octs b from by simp[octs]];exact hR
 ·refine hba.trans ⟨hO.os,hO.tape,hO.output,by have:=hO.size;omega,fun k hk=>hO.block k (by omega) (fun e=>?_)⟩;simp only[qau,Option.some.injEq] at e;omega
theorem qia (u:Sig.Unit) (ok:UOk u) (A:Option Addr) (c:Nat) (w:World) (ho:Oct w (.slice A u.info.length c) u.info) :
  Calls Tryz.prog 79 #[qax u (.slice A u.info.length c)] w fun e w'=>∃v,e=.returned (.tuple #[v,.int .i64 0])∧Oct w' v u.encode.1∧Below w.heap.size w w':=by
 rw[ok.enc];obtain⟨m,hm⟩:∃m,Nat.min u.body.length 63=m:=⟨_,rfl⟩;rw[hm];have hm63:m≤63:=by rw[←hm];exact Nat.min_le_right _ _
 have HM:=am (qpn _ _ hm);have OK:=am ok;have hb:Below w.heap.size w (w.alloc (.cells #[.int .u8 u.bsn,.int .u8 u.fsn,.bool u.bib,.bool u.fib,.int .u8 u.kind,.int .u8 u.status,.bool u.wide,.slice A u.info.length c] 167)):=qaa (Below.refl _ _) _;have HB:=am hb;have HO:=am (ho.below hb);have HBOX:qac (Blk (w.alloc (.cells #[.int .u8 u.bsn,.int .u8 u.fsn,.bool u.bib,.bool u.fib,.int .u8 u.kind,.int .u8 u.status,.bool u.wide,.slice A u.info.length c] 167)) w.heap.size 167 (qbg u (.slice A u.info.length c))):=⟨heap_alloc_new w _⟩;clear ok ho hb hm;unfold qax;go_enter Tryz.func79,Tryz.ntmps79;refine sq fun K0 J0=>?_
 go_wp2_with fail
 refine J0.out _ _ ?_;clear J0;generalize w.alloc (.cells #[.int .u8 u.bsn,.int .u8 u.fsn,.bool u.bib,.bool u.fib,.int .u8 u.kind,.int .u8 u.status,.bool u.wide,.slice A u.info.length c] 167)=W at *;obtain⟨B,hB⟩:∃B,w.heap.size=B:=⟨_,rfl⟩;have HBB:=am hB;rw[hB] at HBOX ⊢;clear hB;have b0:=HBOX.out.c 0 rfl;have b1:=HBOX.out.c 1 rfl;have b2:=HBOX.out.c 2 rfl;have b3:=HBOX.out.c 3 rfl;have b4:=HBOX.out.c 4 rfl;have b5:=HBOX.out.c 5 rfl;have b6:=HBOX.out.c 6 rfl;have b7:=HBOX.out.c 7 rfl
 go_wp2_with fail
 refine(qjo u OK.out A c W).mono ?_;rintro e w1 ⟨rfl,hb1⟩;have HB1:=am hb1;have HX1:=am (HBOX.out.only (qag hb1) (fun h=>h));have HO1:=am (HO.out.below hb1);clear hb1 b0 b1 b2 b3 b4 b5 b6 b7;have b0:=HX1.out.c 0 rfl;have b1:=HX1.out.c 1 rfl;have b2:=HX1.out.c 2 rfl;have b3:=HX1.out.c 3 rfl;have b4:=HX1.out.c 4 rfl;have b5:=HX1.out.c 5 rfl;have b6:=HX1.out.c 6 rfl;have b7:=HX1.out.c 7 rfl
 go_wp2_with fail
 refine(qk3 u OK.out A c w1 HO1.out).mono ?_;rintro e w2 ⟨vb,rfl,hvb,hb2⟩;obtain⟨Ab,cb,rfl,-,-,-⟩:=hvb.slice;have HB2:=am hb2;have HVB:=am hvb;have HX2:=am (HX1.out.only (qag hb2) (fun h=>h));clear hb2 hvb b0 b1 b2 b3 b4 b5 b6 b7;have b0:=HX2.out.c 0 rfl;have b1:=HX2.out.c 1 rfl;have b2:=HX2.out.c 2 rfl;have b3:=HX2.out.c 3 rfl;obtain⟨bl,hbl⟩:∃l,u.body=l:=⟨_,rfl⟩;have HBL:=am OK.out.body_len;rw[hbl] at HBL HM HVB ⊢;have HBLE:=am hbl;clear hbl
 go_wp2_with fail
 obtain⟨x1,hx1⟩:∃x,Sig.ubit u.bsn u.bib=x:=⟨_,rfl⟩;obtain⟨x2,hx2⟩:∃x,Sig.ubit u.fsn u.fib=x:=⟨_,rfl⟩;have HX:=am (And.intro hx1 hx2);have hbw:Below w.heap.size w w2.drew:=qad (HB.out.trans ((HB1.out.trans (HB2.out.mono HB1.out.size)).mono HB.out.size));obtain⟨v5,w5,hrun,h5,hb5⟩:=qud (h:=[x1,x2,m]) hbw HVB.out (by have:=HBL.out;omega) rfl (n:=w2.heap.size) rfl (cs:=#[.int .u8 x1,.int .u8 x2,.int .u8 m]) rfl;have HRUN:=am hrun;have H5:=am h5;have HB5:=am hb5;have hmr:=HM.out;have hcv:IntKind.u8.wrap ((m:Nat):Int)=(m:Int):=by unfold IntKind.wrap;simp[IntKind.bits,IntKind.signed];omega
 clear hx1 hx2 hbw hrun h5 hb5;refine sr 19 (fun W'=>W'.cell? ⟨B,0,none⟩=some (.int .u8 u.bsn)∧W'.cell? ⟨B,1,none⟩=some (.int .u8 u.fsn)∧W'.cell? ⟨B,2,none⟩=some (.bool u.bib)∧W'.cell? ⟨B,3,none⟩=some (.bool u.fib)) [14,16] (show _∧_∧_∧_ from ⟨b0,b1,b2,b3⟩) (fun hY=>?_);refine pu 0 13 ?_;refine pu 2 15 ?_;refine pu 5 18 ?_;refine pu 7 20 ?_;refine pu 10 23 ?_;refine pu 11 24 ?_;refine pu 12 25 ?_;refine pu 13 26 ?_;refine pu 15 28 ?_;refine tk 1 14 hY ?_;refine tk 3 16 hY ?_;refine tk 6 19 hY ?_;refine tk 8 21 hY ?_;refine on_ 4 17 (fun K hK=>?_);refine gs Tryz.func107 #[.int .u8 u.bsn,.bool u.bib] ?_
 with_reducible refine(qhk u.bsn OK.out.bsn u.bib _).mono ?_
 rintro e w3 ⟨rfl,rfl⟩;refine⟨_,rfl,?_⟩;rw[HX.out.1];refine hK.out _ _ hY (fun hY=>?_);clear hK K;refine nm 17 ?_;refine on_ 9 22 (fun K hK=>?_);refine gs Tryz.func107 #[.int .u8 u.fsn,.bool u.fib] ?_
 with_reducible refine(qhk u.fsn OK.out.fsn u.fib _).mono ?_
 rintro e w4 ⟨rfl,rfl⟩;refine⟨_,rfl,?_⟩;rw[HX.out.2];refine hK.out _ _ hY (fun hY=>?_);clear hK K;refine nm 22 ?_;refine la_ 14 27 (fun K hK=>?_);refine qbf (w1:=?_) (v:=?_) (by rfl) rfl ?_ ?_;rotate_left 2
 ·go_simp;constructor
  ·rfl
  ·rfl
 refine hK.out _ _ ?_;clear hK K;refine nm 27 ?_;refine la_ 16 29 (fun K hK=>?_);refine qbf (by rfl) rfl (qa8 (t:=23) (s:=.tmp 27) (x:=.tmp 28) rfl (vs:=(.slice (some ⟨w2.heap.size,0,none⟩) 3 3)) (vx:=(.slice Ab bl.length cb)) rfl rfl HRUN.out) ?_;refine hK.out _ _ ?_;clear hK K;refine nm 29 ?_;refine pu 17 2 ?_;refine pu 18 3 ?_;refine qav (by kernel_rfl) ?_;go_wp2;go_ret2;exact⟨v5,rfl,by rw[HX.out.1,HX.out.2,HBLE.out];exact H5.out,by have h:=HB5.out;rw[HBB.out] at h;exact h⟩
end Go.Proofs.YtjbijdmcceloaaaGreat.Top
