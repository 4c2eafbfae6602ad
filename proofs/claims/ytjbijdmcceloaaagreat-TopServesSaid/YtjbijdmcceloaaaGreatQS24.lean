/- Part of the proof of topServes_holds. No condition. -/
import Derived.Lib.SmallJoins
import Derived.Test.YtjbijdmcceloaaaGreatQS23
set_option linter.unusedVariables false
set_option linter.unusedSimpArgs false
set_option maxHeartbeats 80000000
set_option maxRecDepth 100000
namespace Go.Proofs.YtjbijdmcceloaaaGreat.Top
open Go Go.RowKit Go.Proofs.YtjbijdmcceloaaaGreat Go.Proofs.YtjbijdmcceloaaaGreatW.PrintWords Go.Proofs.YtjbijdmcceloaaaGreatW.PrintLast Go.Proofs.YtjbijdmcceloaaaGreatW.PrintMore
theorem qmi (k e:Nat):qcs k e []=[]:=by unfold qcs;split <;> rfl
theorem qf8 (x:Sig.Pair) (h:x.out0=[]):Sig.Pair.tell0 x 1 []=x.start0:=by
 obtain⟨p0,p1,w0,w1,n0,n1,o0,o1⟩:=x;have h:o0=[]:=h;subst h;unfold Sig.Pair.tell0;rw[qmi];rfl
theorem qf7 (x:Sig.Pair) (h:x.out1=[]):Sig.Pair.tell1 x 1 []=x.start1:=by
 obtain⟨p0,p1,w0,w1,n0,n1,o0,o1⟩:=x;have h:o1=[]:=h;subst h;unfold Sig.Pair.tell1;rw[qmi];rfl
theorem qm7 (x:Sig.Pair) (p:List Nat):Sig.Pair.tell0 x 5 p=x.send0 p:=by
 unfold Sig.Pair.tell0 qcs;rw[if_neg (by omega)];rfl
theorem qp5 (w:World) (kd:Nat) {W:World} (hW:((w.drewN kd).alloc (.cells #[.int .u8 104,.int .u8 101,.int .u8 108,.int .u8 108,.int .u8 111] 5 (5,6))).alloc (.cells #[.slice (some ⟨w.heap.size,0,none⟩) 5 5] 23)=W):Below w.heap.size w W∧W.cell? ⟨w.heap.size+1,0,none⟩=some (.slice (some ⟨w.heap.size,0,none⟩) 5 5)∧Oct W (.slice (some ⟨w.heap.size,0,none⟩) 5 5) Sig.hello:=by
 subst hW;obtain⟨W1,e1⟩:∃W1,(w.drewN kd).alloc (.cells #[.int .u8 104,.int .u8 101,.int .u8 108,.int .u8 108,.int .u8 111] 5 (5,6))=W1:=⟨_,rfl⟩;have h1:W1.heap[w.heap.size]?=some (.cells #[.int .u8 104,.int .u8 101,.int .u8 108,.int .u8 108,.int .u8 111] 5 (5,6)):=by rw[←e1];exact heap_alloc_new (w.drewN kd) _
 have hs:W1.heap.size=w.heap.size+1:=by rw[←e1];simp[World.alloc_eq]
 have b1:Below w.heap.size w W1:=by rw[←e1];exact(qab (Below.refl _ w) kd).alloc (Nat.le_refl _) _
 rw[e1];have b2:Below W1.heap.size W1 (W1.alloc (.cells #[.slice (some ⟨w.heap.size,0,none⟩) 5 5] 23)):=qaa (Below.refl _ _) _;refine⟨b1.trans (b2.mono (by omega)),?_,Or.inr ⟨w.heap.size,0,5,_,rfl,Nat.le_refl _,by simp[maxLen],⟨(5,6),(b2.block _ (by omega)).trans h1,fun h=>absurd rfl h⟩,Nat.le_refl _,fun j u hj=>?_,trivial⟩⟩
 ·have h2:=heap_alloc_new W1 (.cells #[.slice (some ⟨w.heap.size,0,none⟩) 5 5] 23);rw[hs] at h2;simp[World.cell?,h2]
 ·rw[Nat.zero_add]
  simpa [octs,Sig.hello] using hj
theorem qtf {w:World} {lab:Nat→Nat} {v:Value} {p:List Nat} (h:ORow w lab 13 v [p]) (h0:0<p.length):∃g off c u g5 off5 c5,v=.slice (some ⟨g,off,none⟩) 1 c∧w.cell? ⟨g,off,none⟩=some u∧u=.slice (some ⟨g5,off5,none⟩) p.length c5∧∀j x,(octs p)[j]?=some x→w.cell? ⟨g5,off5+j,none⟩=some x:=by
 obtain⟨us,hr,hu⟩:=h
 match us,hr,hu with
 |[u],hr,hu =>
  obtain⟨g,off,c,ev,_,cu⟩:=hr.get 0 rfl;obtain⟨A,c5,e5,_⟩:=Oct.slice hu.1;have hu1:=hu.1;rw[e5] at hu1;obtain⟨g5,off5,eA,hc⟩:=Rw.cells hu1 (by rw[qbc];exact h0);exact⟨g,off,c,u,g5,off5,c5,ev,by simpa using cu,by rw[e5,eA],hc⟩
theorem qnx (N:Nat) (hN:qi0 45=N):(qiz false 45).p0.x.s=4∧(qiz false 45).p1.x.s=4∧((qiz false 45).p0.x.order 5 Sig.hello).2=0∧(Sig.Pair.ticks 500 (Sig.Pair.tell0 (qiz false 45) 5 Sig.hello)).out1=[Sig.hello]:=by
 have e:qiz false 45=Sig.Pair.ticks N (Sig.newPair false Sig.usualT 45).start0.start1:=by
  unfold qiz;rw[hN];show Sig.Pair.ticks N (Sig.Pair.tell1 (Sig.Pair.ticks 0 (Sig.Pair.tell0 (Sig.newPair false Sig.usualT 45) 1 [])) 1 [])=_;rw[Sig.ticks_zero,qf8 _ rfl,qf7 _ rfl]
 rw[qm7];exact Sig.goes_all N (by rw[←hN];rfl) _ e
theorem qny (w:World) :
  Calls Tryz.prog 6 #[] w fun e w'=>e=.returned (.bool true)∧∃lab',Stps (fun _=>6) w (·≠6) lab' w':=by
 obtain⟨N,hN⟩:∃N,qi0 45=N:=⟨_,rfl⟩;have GP:=am (qnx N hN);have HN:qac (N≤6300):=⟨by rw[←hN];decide⟩;have HNE:=am hN;clear hN;obtain⟨y,ey⟩:∃y,qiz false 45=y:=⟨_,rfl⟩;rw[ey] at GP;have HY:=am ey;clear ey;go_enter Tryz.func6,Tryz.ntmps6;refine sq fun K0 J0=>?_
 go_wp2_with fail
 refine J0.out _ _ ?_;clear J0;refine sq fun K1 J1=>?_
 go_wp2_with fail
 refine(show Calls Tryz.prog 15 #[.bool false,.int .u8 9] w _ from qnk false 9 (by decide) w).mono ?_;rintro e w1 ⟨X,s,t,lab1,V,rfl,hs1,hp1⟩;rw[show 9*5=45 from rfl,HY.out,HNE.out] at hp1;have PS1:=am hp1;have HS1:=am hs1;clear hp1 hs1;unfold wV qmh qe5 ptr
 go_wp2_with fail
 refine J1.out _ _ ?_;clear J1;have hbw:Below w1.heap.size w1 (w1.alloc (.cells #[.pointer (some ⟨X.b,0,none⟩),.pointer (some ⟨s,0,none⟩),.pointer (some ⟨t,0,none⟩),.int .i64 45,.bool false,.int .i64 8,.int .i64 300,.int .i64 16,.int .i64 600,.int .i64 600,.int .i64 12000,.int .i64 8000,.int .i64 4000,.int .i64 1200,.int .i64 100,.int .i64 4000,.int .i64 6000] 67)):=qaa (Below.refl _ _) _;have hs2:Stps lab1 w1 (·=5) (qaj lab1 w1 5) (w1.alloc (.cells #[.pointer (some ⟨X.b,0,none⟩),.pointer (some ⟨s,0,none⟩),.pointer (some ⟨t,0,none⟩),.int .i64 45,.bool false,.int .i64 8,.int .i64 300,.int .i64 16,.int .i64 600,.int .i64 600,.int .i64 12000,.int .i64 8000,.int .i64 4000,.int .i64 1200,.int .i64 100,.int .i64 4000,.int .i64 6000] 67)):=Stps.below hbw rfl;have BX2:qac (Blk (w1.alloc (.cells #[.pointer (some ⟨X.b,0,none⟩),.pointer (some ⟨s,0,none⟩),.pointer (some ⟨t,0,none⟩),.int .i64 45,.bool false,.int .i64 8,.int .i64 300,.int .i64 16,.int .i64 600,.int .i64 600,.int .i64 12000,.int .i64 8000,.int .i64 4000,.int .i64 1200,.int .i64 100,.int .i64 4000,.int .i64 6000] 67)) w1.heap.size 67 [.pointer (some ⟨X.b,0,none⟩),.pointer (some ⟨s,0,none⟩),.pointer (some ⟨t,0,none⟩),.int .i64 45,.bool false,.int .i64 8,.int .i64 300,.int .i64 16,.int .i64 600,.int .i64 600,.int .i64 12000,.int .i64 8000,.int .i64 4000,.int .i64 1200,.int .i64 100,.int .i64 4000,.int .i64 6000]∧qaj lab1 w1 5 w1.heap.size=5):=⟨heap_alloc_new w1 _,qas (Nat.le_refl _)⟩;have HS2:=am (HS1.out.trans (hs2.mono (P':=(·≠6)) (fun i e=>by omega)));have PS2:=am (PS1.out.far5 hs2 (fun i e=>Or.inl e) (ST.far PS1.out.wt hs2 (fun i e=>by omega)));obtain⟨B,eB⟩:∃B,w1.heap.size=B:=⟨_,rfl⟩;rw[eB] at BX2 ⊢;obtain⟨lab2,el2⟩:∃l,qaj lab1 w1 5=l:=⟨_,rfl⟩;rw[el2] at BX2 HS2 PS2;clear hbw hs2 eB el2 PS1 HS1;generalize (w1.alloc (.cells #[.pointer (some ⟨X.b,0,none⟩),.pointer (some ⟨s,0,none⟩),.pointer (some ⟨t,0,none⟩),.int .i64 45,.bool false,.int .i64 8,.int .i64 300,.int .i64 16,.int .i64 600,.int .i64 600,.int .i64 12000,.int .i64 8000,.int .i64 4000,.int .i64 1200,.int .i64 100,.int .i64 4000,.int .i64 6000] 67))=w2 at *;have c0:=BX2.out.1.c 0 rfl;refine sq fun K2 J2=>?_
 go_wp2_with fail
 refine(qd5 (qdu s t) PS2.out GP.out.1 GP.out.2.1).mono ?_;rintro e w3 ⟨rfl,kd,rfl⟩;have hcv:=Go.Joins.run_convert_bytes_const_at (P:=Tryz.prog) (w2.drewN kd) 23 5 #[.int .u8 104,.int .u8 101,.int .u8 108,.int .u8 108,.int .u8 111] 5 5 w2.heap.size rfl Tryz.underlying23 (by kernel_rfl)
 go_wp2_with fail
 obtain⟨w5,ew⟩:∃w5,(((w2.drewN kd).alloc (.cells #[.int .u8 104,.int .u8 101,.int .u8 108,.int .u8 108,.int .u8 111] 5 (5,6))).alloc (.cells #[.slice (some ⟨w2.heap.size,0,none⟩) 5 5] 23))=w5:=⟨_,rfl⟩;obtain⟨hb5,hc5,ho5⟩:=qp5 w2 kd ew;rw[ew];clear ew hcv c0;have hs5:Stps lab2 w2 (·=5) (qaj lab2 w2 5) w5:=Stps.below hb5 rfl;have PS5:=PS2.out.far5 hs5 (fun i e=>Or.inl e) (ST.far PS2.out.wt hs5 (fun i e=>by omega));have HS5:=am (HS2.out.trans (hs5.mono (P':=(·≠6)) (fun i e=>by omega)));have hle:B<w2.heap.size:=BX2.out.1.lt;have BX5:=am (And.intro (BX2.out.1.below hb5) ((qa1 hle:qaj lab2 w2 5 B=lab2 B).trans BX2.out.2));have HSEND:qac (Calls Tryz.prog 21 #[.pointer (some ⟨X.b,0,none⟩),.int .i64 0,.slice (some ⟨w2.heap.size+1,0,none⟩) 1 1] w5 fun e w'=>e=.returned (.int .i64 1)∧qcr (fun i=>i≤4∨8≤i) (quy s t) (stW s t) false w5 (qaj lab2 w2 5) X (Sig.Pair.tell0 y 5 Sig.hello) (N+2+1) (2+1) w'):=⟨qjr (qdu s t) PS5 (gl:=w2.heap.size+1) (cl:=1) (Ap:=some ⟨w2.heap.size,0,none⟩) (cp:=5) (op:=Sig.hello) hc5 ho5 (by decide) (by decide) (by have:=HN.out;omega) (by decide) GP.out.2.2.1⟩;obtain⟨lab5,el5⟩:∃l,qaj lab2 w2 5=l:=⟨_,rfl⟩;rw[el5] at HS5 BX5 HSEND;obtain⟨g5,eg5⟩:∃g,w2.heap.size=g:=⟨_,rfl⟩;rw[eg5] at HSEND ⊢;clear hb5 hc5 ho5 hs5 PS5 hle el5 eg5 PS2 HS2 BX2;refine HSEND.out.mono ?_;rintro e w6 ⟨rfl,lab6,V6,hs6,hp6⟩;have HS6:=am (HS5.out.trans (hs6.mono (P':=(·≠6)) (fun i e=>by omega)));have BX6:=am (And.intro (hs6.blk BX5.out.1 (by rw[BX5.out.2];decide)) ((hs6.lb BX5.out.1).trans BX5.out.2));have PS6:=am hp6;clear hs6 hp6 HS5 BX5 HSEND
 go_wp2_with fail
 refine J2.out _ _ ?_;clear J2;have c0:=BX6.out.1.c 0 rfl;refine sq fun K3 J3=>?_
 go_wp2_with fail
 refine(show Calls Tryz.prog 10 #[.pointer (some ⟨X.b,0,none⟩),.agg #[.int .u8 0,.int .i64 0,.int .i64 500,.slice none 0 0,.int .u8 0,.slice none 0 0]] w6 _ from qc3 (qdu s t) PS6.out 500 (by decide) (by have:=HN.out;omega) (by decide)).mono ?_;rintro e w7 ⟨rfl,lab7,V7,hs7,hp7⟩;have HS7:=am (HS6.out.trans (hs7.mono (P':=(·≠6)) (fun i e=>by omega)));have BX7:=am (And.intro (hs7.blk BX6.out.1 (by rw[BX6.out.2];decide)) ((hs7.lb BX6.out.1).trans BX6.out.2));have PS7:=am hp7;clear hs7 hp7 HS6 BX6 PS6 c0
 go_wp2_with fail
 refine J3.out _ _ ?_;clear J3;have hwt:=PS7.out.wt;rw[GP.out.2.2.2] at hwt;obtain⟨⟨VS,hsc⟩,_⟩:=hwt;obtain⟨g,off,c,u,g5,off5,c5,ev,cu,rfl,hcs⟩:=qtf hsc.o1.1 (by decide);have HBK:=am hsc.blk;have HEV:=am ev;have HCU:=am cu;have HCS:=am hcs;clear hsc ev cu hcs;have c1:=BX7.out.1.c 1 rfl;refine sq fun K7 J7=>?_
 go_wp2_with fail
 refine(qj0 HBK.out HEV.out).mono ?_;rintro e w8 ⟨rfl,rfl⟩;rw[HEV.out]
 go_wp2_with fail
 refine J7.out _ _ ?_;clear J7;have hcv:=run_convert_bytes_back (P:=Tryz.prog) w7 23 9 5 ⟨g5,off5,none⟩ c5 [104,101,108,108,111] Tryz.underlying23 (by kernel_rfl) (by kernel_rfl) (fun j hj=>by
  rw[Addr.add_lit];refine HCS.out j _ ?_
  match j,hj with
  |0,_=>rfl
  |1,_=>rfl
  |2,_=>rfl
  |3,_=>rfl
  |4,_=>rfl)
 have hcu:=HCU.out;clear c1;change (convert 23 9 (.slice (some ⟨g5,off5,none⟩) 5 c5)).run Tryz.prog w7=_ at hcv;change w7.cell? ⟨g,off,none⟩=some (.slice (some ⟨g5,off5,none⟩) 5 c5) at hcu
 go_wp2_with fail
 go_ret;exact⟨rfl,lab7,HS7.out⟩
theorem qqy:MTopTotal.setup_Unit.f (728:Int)=some 876:=by kernel_rfl
theorem qqz:MTopTotal.setup_Unit.f (636:Int)=some 766:=by kernel_rfl
def qfm (cyc:Bool) (d:Nat):Nat:=(if cyc then 1532 else 1752)+3*Sig.wayT d
theorem qmf (d:Nat) (hd:d≤1275):Sig.wayT d≤836:=by unfold Sig.wayT;rw[show Sig.frameT=337 from rfl];omega
theorem qnf (d:Nat) (hd:d≤1275) (w:World) :
  Calls Tryz.prog 43 #[setA true 600 12000 8000 4000 1200 100 4000 6000,.int .i64 (d:Int)] w fun e w'=>e=.returned (.int .i64 ((qfm true d:Nat):Int))∧Below w.heap.size w w':=by
 unfold setA;go_enter Tryz.func43,Tryz.ntmps43;refine sq fun K0 J0=>?_
 go_wp2_with fail
 refine J0.out _ _ ?_;clear J0;have hb:Below w.heap.size w (w.alloc (.cells #[.bool true,.int .i64 8,.int .i64 300,.int .i64 16,.int .i64 600,.int .i64 600,.int .i64 12000,.int .i64 8000,.int .i64 4000,.int .i64 1200,.int .i64 100,.int .i64 4000,.int .i64 6000] 27)):=qaa (Below.refl _ _) _;have hx:Blk (w.alloc (.cells #[.bool true,.int .i64 8,.int .i64 300,.int .i64 16,.int .i64 600,.int .i64 600,.int .i64 12000,.int .i64 8000,.int .i64 4000,.int .i64 1200,.int .i64 100,.int .i64 4000,.int .i64 6000] 27)) w.heap.size 27 (qe5 true 600 12000 8000 4000 1200 100 4000 6000):=heap_alloc_new w _;have c0:=hx.c 0 rfl;have c1:=hx.c 1 rfl;have c2:=hx.c 2 rfl;have c3:=hx.c 3 rfl;have c4:=hx.c 4 rfl;have HB:=am hb;clear hb hx;obtain⟨B,hB⟩:∃B,w.heap.size=B:=⟨_,rfl⟩;rw[hB] at c0 c1 c2 c3 c4 HB ⊢;have HBB:=am hB;clear hB;generalize w.alloc (.cells #[.bool true,.int .i64 8,.int .i64 300,.int .i64 16,.int .i64 600,.int .i64 600,.int .i64 12000,.int .i64 8000,.int .i64 4000,.int .i64 1200,.int .i64 100,.int .i64 4000,.int .i64 6000] 27)=w1 at *;have wb:=qmf d hd;have HW:=am (qmg d (by omega));have hin:qfm true d=1532+3*Sig.wayT d:=rfl;rw[hin];clear hin;generalize Sig.wayT d=wy at *;have e2:wrap64 (3*(wy:Int))=((3*wy:Nat):Int):=by unfold wrap64;omega
 have e3:wrap64 (1532+3*(wy:Int))=((1532+3*wy:Nat):Int):=by unfold wrap64;omega
 go_wp2_with fail
 refine(MTopTotal.setup_Unit.calls (636:Int) (766:Int) _ qqz).mono ?_;rintro e w2 ⟨rfl,hb2⟩;have HB2:=am hb2;clear hb2
 go_wp2_with fail
 refine(MTopTotal.limit_way.calls (d:Int) (wy:Int) _ HW.out).mono ?_;rintro e w3 ⟨rfl,hb3⟩;have HB3:=am hb3;clear hb3;go_wp2;go_ret;refine⟨?_,below_then HB.out HBB.out (((qag HB2.out).trans (qag HB3.out)).mono (fun _ h=>h.elim))⟩
 first|rfl|simp
theorem qlf (d:Nat) (hd:d≤1275) (w:World) :
  Calls Tryz.prog 43 #[setA false 600 12000 8000 4000 1200 100 4000 6000,.int .i64 (d:Int)] w fun e w'=>e=.returned (.int .i64 ((qfm false d:Nat):Int))∧Below w.heap.size w w':=by
 unfold setA;go_enter Tryz.func43,Tryz.ntmps43;refine sq fun K0 J0=>?_
 go_wp2_with fail
 refine J0.out _ _ ?_;clear J0;have hb:Below w.heap.size w (w.alloc (.cells #[.bool false,.int .i64 8,.int .i64 300,.int .i64 16,.int .i64 600,.int .i64 600,.int .i64 12000,.int .i64 8000,.int .i64 4000,.int .i64 1200,.int .i64 100,.int .i64 4000,.int .i64 6000] 27)):=qaa (Below.refl _ _) _;have hx:Blk (w.alloc (.cells #[.bool false,.int .i64 8,.int .i64 300,.int .i64 16,.int .i64 600,.int .i64 600,.int .i64 12000,.int .i64 8000,.int .i64 4000,.int .i64 1200,.int .i64 100,.int .i64 4000,.int .i64 6000] 27)) w.heap.size 27 (qe5 false 600 12000 8000 4000 1200 100 4000 6000):=heap_alloc_new w _;have c0:=hx.c 0 rfl;have c1:=hx.c 1 rfl;have c2:=hx.c 2 rfl;have c3:=hx.c 3 rfl;have c4:=hx.c 4 rfl;have HB:=am hb;clear hb hx;obtain⟨B,hB⟩:∃B,w.heap.size=B:=⟨_,rfl⟩;rw[hB] at c0 c1 c2 c3 c4 HB ⊢;have HBB:=am hB;clear hB;generalize w.alloc (.cells #[.bool false,.int .i64 8,.int .i64 300,.int .i64 16,.int .i64 600,.int .i64 600,.int .i64 12000,.int .i64 8000,.int .i64 4000,.int .i64 1200,.int .i64 100,.int .i64 4000,.int .i64 6000] 27)=w1 at *;have wb:=qmf d hd;have HW:=am (qmg d (by omega));have hin:qfm false d=1752+3*Sig.wayT d:=rfl;rw[hin];clear hin;generalize Sig.wayT d=wy at *;have e2:wrap64 (3*(wy:Int))=((3*wy:Nat):Int):=by unfold wrap64;omega
 have e3:wrap64 (1752+3*(wy:Int))=((1752+3*wy:Nat):Int):=by unfold wrap64;omega
 go_wp2_with fail
 refine(MTopTotal.setup_Unit.calls (728:Int) (876:Int) _ qqy).mono ?_;rintro e w2 ⟨rfl,hb2⟩;have HB2:=am hb2;clear hb2
 go_wp2_with fail
 refine(MTopTotal.limit_way.calls (d:Int) (wy:Int) _ HW.out).mono ?_;rintro e w3 ⟨rfl,hb3⟩;have HB3:=am hb3;clear hb3;go_wp2;go_ret;refine⟨?_,below_then HB.out HBB.out (((qag HB2.out).trans (qag HB3.out)).mono (fun _ h=>h.elim))⟩
 first|rfl|simp
theorem qlg (cyc:Bool) (d:Nat) (hd:d≤1275) (w:World):Calls Tryz.prog 43 #[setA cyc 600 12000 8000 4000 1200 100 4000 6000,.int .i64 (d:Int)] w fun e w'=>e=.returned (.int .i64 ((qfm cyc d:Nat):Int))∧Below w.heap.size w w':=by
 cases cyc
 ·exact qlf d hd w
 ·exact qnf d hd w
theorem qn0 (cyc:Bool) (d:Nat) (hd:d≤1275) (w:World) :
  Calls Tryz.prog 19 #[setA cyc 600 12000 8000 4000 1200 100 4000 6000,.int .i64 (d:Int)] w fun e w'=>e=.returned (.bool true)∧Below w.heap.size w w':=by
 have hrp:qfm cyc d<6000:=by have:=qmf d hd;unfold qfm;split <;> omega
 obtain⟨rp,erp⟩:∃r,qfm cyc d=r:=⟨_,rfl⟩;have HR:qac (∀w:World,Calls Tryz.prog 43 #[.agg #[.bool cyc,.int .i64 8,.int .i64 300,.int .i64 16,.int .i64 600,.int .i64 600,.int .i64 12000,.int .i64 8000,.int .i64 4000,.int .i64 1200,.int .i64 100,.int .i64 4000,.int .i64 6000],.int .i64 (d:Int)] w fun e w'=>e=.returned (.int .i64 (rp:Int))∧Below w.heap.size w w'):=⟨fun w=>by rw[←erp];exact qlg cyc d hd w⟩;rw[erp] at hrp;clear erp;unfold setA;go_enter Tryz.func19,Tryz.ntmps19;refine sq fun K0 J0=>?_
 go_wp2_with fail
 refine J0.out _ _ ?_;clear J0;have hb:Below w.heap.size w (w.alloc (.cells #[.bool cyc,.int .i64 8,.int .i64 300,.int .i64 16,.int .i64 600,.int .i64 600,.int .i64 12000,.int .i64 8000,.int .i64 4000,.int .i64 1200,.int .i64 100,.int .i64 4000,.int .i64 6000] 27)):=qaa (Below.refl _ _) _;have hx:Blk (w.alloc (.cells #[.bool cyc,.int .i64 8,.int .i64 300,.int .i64 16,.int .i64 600,.int .i64 600,.int .i64 12000,.int .i64 8000,.int .i64 4000,.int .i64 1200,.int .i64 100,.int .i64 4000,.int .i64 6000] 27)) w.heap.size 27 (qe5 cyc 600 12000 8000 4000 1200 100 4000 6000):=heap_alloc_new w _;have c0:=hx.c 0 rfl;have c1:=hx.c 1 rfl;have c2:=hx.c 2 rfl;have c3:=hx.c 3 rfl;have c4:=hx.c 4 rfl;have c5:=hx.c 5 rfl;have c6:=hx.c 6 rfl;have c7:=hx.c 7 rfl;have c8:=hx.c 8 rfl;have c9:=hx.c 9 rfl;have c10:=hx.c 10 rfl;have c11:=hx.c 11 rfl;have c12:=hx.c 12 rfl;have HB:=am hb;clear hb hx;obtain⟨B,hB⟩:∃B,w.heap.size=B:=⟨_,rfl⟩;rw[hB] at c0 c1 c2 c3 c4 c5 c6 c7 c8 c9 c10 c11 c12 HB ⊢;have HBB:=am hB;clear hB;generalize w.alloc (.cells #[.bool cyc,.int .i64 8,.int .i64 300,.int .i64 16,.int .i64 600,.int .i64 600,.int .i64 12000,.int .i64 8000,.int .i64 4000,.int .i64 1200,.int .i64 100,.int .i64 4000,.int .i64 6000] 27)=w1 at *;have wb:=qmf d hd;have HW:=am (qmg d (by omega));generalize Sig.wayT d=wy at *;refine sq fun K1 J1=>?_
 go_wp2_with fail
 refine(MTopTotal.limit_way.calls (d:Int) (wy:Int) _ HW.out).mono ?_;rintro e w2 ⟨rfl,hb2⟩;replace c0:=qae hb2 c0;replace c1:=qae hb2 c1;replace c2:=qae hb2 c2;replace c3:=qae hb2 c3;replace c4:=qae hb2 c4;replace c5:=qae hb2 c5;replace c6:=qae hb2 c6;replace c7:=qae hb2 c7;replace c8:=qae hb2 c8;replace c9:=qae hb2 c9;replace c10:=qae hb2 c10;replace c11:=qae hb2 c11;replace c12:=qae hb2 c12;have HB2:=am hb2;clear hb2
 go_wp2_with fail
 refine J1.out _ _ ?_;clear J1;have e1:wrap64 (4*(wy:Int))=((4*wy:Nat):Int):=by unfold wrap64;omega
 have e2:wrap64 (1200+4*(wy:Int))=((1200+4*wy:Nat):Int):=by unfold wrap64;omega
 have d1:decide ((rp:Int)<6000)=true:=decide_eq_true (by omega);have d2:decide ((1200:Int)+4*(wy:Int)<12000)=true:=decide_eq_true (by omega);have d3:decide (4*(wy:Int)<8000)=true:=decide_eq_true (by omega);have d4:decide (4*(wy:Int)<4000)=true:=decide_eq_true (by omega);refine sq fun K2 J2=>?_
 go_wp2_with fail
 refine sr 36 (fun W=>W.cell? ⟨B,0,none⟩=some (.bool cyc)∧W.cell? ⟨B,1,none⟩=some (.int .i64 8)∧W.cell? ⟨B,2,none⟩=some (.int .i64 300)∧W.cell? ⟨B,3,none⟩=some (.int .i64 16)∧W.cell? ⟨B,4,none⟩=some (.int .i64 600)∧W.cell? ⟨B,5,none⟩=some (.int .i64 600)∧W.cell? ⟨B,6,none⟩=some (.int .i64 12000)∧W.cell? ⟨B,7,none⟩=some (.int .i64 8000)∧W.cell? ⟨B,8,none⟩=some (.int .i64 4000)∧W.cell? ⟨B,9,none⟩=some (.int .i64 1200)∧W.cell? ⟨B,10,none⟩=some (.int .i64 100)∧W.cell? ⟨B,11,none⟩=some (.int .i64 4000)∧W.cell? ⟨B,12,none⟩=some (.int .i64 6000)) [] (show _∧_∧_∧_∧_∧_∧_∧_∧_∧_∧_∧_∧_ from ⟨c0,c1,c2,c3,c4,c5,c6,c7,c8,c9,c10,c11,c12⟩) (fun hY=>?_);refine pu 0 8 ?_;refine pu 1 9 ?_;refine pu 4 12 ?_;refine tk 2 10 hY ?_;refine tk 3 11 hY ?_;refine on_ 5 13 (fun K hK=>?_);refine gs Tryz.func43 #[.agg #[.bool cyc,.int .i64 8,.int .i64 300,.int .i64 16,.int .i64 600,.int .i64 600,.int .i64 12000,.int .i64 8000,.int .i64 4000,.int .i64 1200,.int .i64 100,.int .i64 4000,.int .i64 6000],.int .i64 (d:Int)] ?_
 with_reducible refine(HR.out _).mono ?_
 rintro e w3 ⟨rfl,hbw3⟩;refine⟨_,rfl,?_⟩;have HB3:=am hbw3;clear hbw3;refine hK.out _ _ ⟨qae HB3.out (hY.1),qae HB3.out (hY.2.1),qae HB3.out (hY.2.2.1),qae HB3.out (hY.2.2.2.1),qae HB3.out (hY.2.2.2.2.1),qae HB3.out (hY.2.2.2.2.2.1),qae HB3.out (hY.2.2.2.2.2.2.1),qae HB3.out (hY.2.2.2.2.2.2.2.1),qae HB3.out (hY.2.2.2.2.2.2.2.2.1),qae HB3.out (hY.2.2.2.2.2.2.2.2.2.1),qae HB3.out (hY.2.2.2.2.2.2.2.2.2.2.1),qae HB3.out (hY.2.2.2.2.2.2.2.2.2.2.2.1),qae HB3.out (hY.2.2.2.2.2.2.2.2.2.2.2.2)⟩ (fun hY=>?_);clear hK K;refine nm 13 ?_;refine pu 6 14 ?_;refine pu 7 15 ?_;refine pu 8 16 ?_;refine pu 9 17 ?_;refine pu 11 19 ?_;refine pu 12 20 ?_;refine pu 14 22 ?_;refine pu 15 23 ?_;refine tk 10 18 hY ?_;refine tk 13 21 hY ?_;refine pu 16 24 ?_;refine pu 17 25 ?_;refine pu 18 26 ?_;refine pu 19 27 ?_;refine pu 20 28 ?_;refine pu 21 29 ?_;refine pu 23 31 ?_;refine pu 24 32 ?_;refine tk 22 30 hY ?_;refine pu 25 33 ?_;refine pu 26 34 ?_;refine pu 27 35 ?_;refine pu 28 36 ?_;refine pu 29 37 ?_;refine pu 31 39 ?_;refine pu 32 40 ?_;refine tk 30 38 hY ?_;refine pu 33 41 ?_;refine pu 34 42 ?_;refine pu 35 4 ?_;refine qav (by kernel_rfl) ?_;refine J2.out _ _ ?_;go_wp2;go_ret;exact⟨rfl,below_then HB.out HBB.out ((((qag HB2.out).trans ((Only.refl _ _).drewN 1)).trans (qag HB3.out)).mono (fun _ h=>h.elim))⟩
theorem qk5 {lab':Nat→Nat} {w w':World} (h:Stps (fun _=>6) w (·≠6) lab' w'):Below w.heap.size w w':=⟨h.only.os,h.only.tape,h.only.output,h.only.size,fun k hk=>h.only.block k hk (fun e=>e.1 rfl)⟩
theorem qop (x:Sig.Pair) (k:Nat) (hk:k≠1) (p:List Nat):Sig.Pair.tell0 x k p=x.ord0 k p:=by
 unfold Sig.Pair.tell0 qcs;rw[if_neg (fun e=>hk e.2)];rfl
theorem qoo (x:Sig.Pair) (k:Nat) (hk:k≠1) (p:List Nat):Sig.Pair.tell1 x k p=x.ord1 k p:=by
 unfold Sig.Pair.tell1 qcs;rw[if_neg (fun e=>hk e.2)];rfl
theorem qkd {cyc o:Bool} {S:Sig.PhS} {x:Sig.Link} (h:Sig.IsPh cyc o S x) (h5:5≤S.ph) (hle:S.ph≤5):x.s=4:=by
 obtain⟨p,told,fails,_,_,hx⟩:=h;obtain⟨ph,th,v⟩:=S;have e:ph=5:=Nat.le_antisymm hle h5;subst e;rw[hx];rfl
def qoe (o0 o1:Bool) (x:Sig.Pair) (i:Nat):Sig.Pair:=match i with
 |0=>x
 |1=>Sig.hur0 o0 x
 |_=>Sig.hur1 o1 (Sig.hur0 o0 x)
theorem qjz (cyc o0 o1:Bool) (d g N:Nat) (hd:d≤1275) (hg:g≤4499) (hN:N≤10000) (hW:3*((d+145)/8)+1200≤N) :
  (Sig.Pair.ticks N (Sig.Pair.starts (qoe o0 o1 (Sig.newPair cyc Sig.usualT d) 2) g 2)).p0.x.s=4∧(Sig.Pair.ticks N (Sig.Pair.starts (qoe o0 o1 (Sig.newPair cyc Sig.usualT d) 2) g 2)).p1.x.s=4:=by
 obtain⟨Tm,T0,T1,F0,F1,k,k0,k1,-,-⟩:=Sig.serves cyc o0 o1 d g N hd hg hN hW;obtain⟨c,h⟩:=Sig.two_new cyc o0 o1 d;have ho:(Sig.hur1 o1 (Sig.hur0 o0 (Sig.newPair cyc Sig.usualT d))).out0=[]∧(Sig.hur1 o1 (Sig.hur0 o0 (Sig.newPair cyc Sig.usualT d))).start0.out1=[]:=by
  cases o0 <;> cases o1 <;> exact⟨rfl,rfl⟩
 show (Sig.Pair.ticks N (Sig.Pair.tell1 (Sig.Pair.ticks g (Sig.Pair.tell0 (Sig.hur1 o1 (Sig.hur0 o0 (Sig.newPair cyc Sig.usualT d))) 1 [])) 1 [])).p0.x.s=4∧(Sig.Pair.ticks N (Sig.Pair.tell1 (Sig.Pair.ticks g (Sig.Pair.tell0 (Sig.hur1 o1 (Sig.hur0 o0 (Sig.newPair cyc Sig.usualT d))) 1 [])) 1 [])).p1.x.s=4;generalize Sig.hur1 o1 (Sig.hur0 o0 (Sig.newPair cyc Sig.usualT d))=x at *;obtain⟨G0,G1,a,b0,b1⟩:=h.start0.waits g (by omega);rw[qf8 _ ho.1,qf7 _ (b1.trans ho.2)];exact⟨qkd k.two.h0.ph k0 k.two.h0.th.le,qkd k.two.h1.ph k1 k.two.h1.th.le⟩
theorem qvu (o0 o1:Bool) (x:Sig.Pair):qoe o0 o1 x 1=if o0 then Sig.Pair.tell0 (qoe o0 o1 x 0) 3 [] else qoe o0 o1 x 0:=by
 cases o0
 ·rfl
 ·exact(qop x 3 (by decide) []).symm
theorem qvt (o0 o1:Bool) (x:Sig.Pair):qoe o0 o1 x 2=if o1 then Sig.Pair.tell1 (qoe o0 o1 x 1) 3 [] else qoe o0 o1 x 1:=by
 cases o1
 ·rfl
 ·exact(qoo _ 3 (by decide) []).symm
theorem topServes_calls (cyc:Bool) (dl gap hu:Nat) (hdl:dl<256) (hgap:gap<65536) (hhu:hu<256) (w:World) :
  Calls Tryz.prog 5 #[.bool cyc,.int .u8 (dl:Nat),.int .u16 (gap:Nat),.int .u8 (hu:Nat)] w fun e w'=>e=.returned (.bool true)∧Below w.heap.size w w':=by
 obtain⟨d,ed⟩:∃d,dl*5=d:=⟨_,rfl⟩;have HDL:qac (∀w:World,Calls Tryz.prog 9 #[.int .u8 (dl:Nat)] w fun e w'=>e=.returned (.int .i64 (d:Nat))∧w=w'):=⟨fun w=>by rw[←ed];exact qgu dl hdl w⟩;have HD:qac (d≤1275):=⟨by omega⟩;clear hdl ed;obtain⟨g,eg⟩:∃g,gap%4500=g:=⟨_,rfl⟩;have HG:qac (g≤4499):=⟨by omega⟩;have HGI:qac (((gap:Nat):Int).tmod 4500=(g:Nat)):=⟨by rw[Int.tmod_eq_emod_of_nonneg (by omega)];omega⟩;have HGW:qac (wrap64 ((gap:Nat):Int)=(gap:Nat)):=⟨by unfold wrap64;omega⟩;have HGL:qac (gap<65536):=⟨hgap⟩;clear eg hgap;obtain⟨o0,eo0⟩:∃o,decide (hu%2=1)=o:=⟨_,rfl⟩;obtain⟨o1,eo1⟩:∃o,decide (hu/2%2=1)=o:=⟨_,rfl⟩;obtain⟨N,eN⟩:∃N,qi0 d=N:=⟨_,rfl⟩;have hn1:N=1200+6*((d+7)/8+676):=by rw[←eN];show 0+1200+6*((d+7)/8+2*337+2)=_;omega
 have HN:qac (N≤6300):=⟨by have:=HD.out;omega⟩;have SV:=am (qjz cyc o0 o1 d g N HD.out HG.out (by have:=HD.out;omega) (by have:=HD.out;omega));have HIS:qac (∀w:World,Calls Tryz.prog 18 #[.agg #[.bool cyc,.int .i64 8,.int .i64 300,.int .i64 16,.int .i64 600,.int .i64 600,.int .i64 12000,.int .i64 8000,.int .i64 4000,.int .i64 1200,.int .i64 100,.int .i64 4000,.int .i64 6000],.int .i64 (d:Nat),.int .i64 (g:Nat)] w fun e w'=>e=.returned (.int .i64 ((g+N:Nat):Int))∧Below w.heap.size w w'):=⟨fun w=>by
  have e:g+N=Sig.inService [600,12000,8000,4000,1200,100,4000,6000] d g:=by rw[hn1];show _=g+1200+6*((d+7)/8+2*337+2);omega
  rw[e];exact qdp cyc 600 12000 8000 4000 1200 100 4000 6000 d g (by have:=HD.out;omega) (by have:=HG.out;omega) (by decide) w⟩
 have HFT:qac (∀w:World,Calls Tryz.prog 19 #[.agg #[.bool cyc,.int .i64 8,.int .i64 300,.int .i64 16,.int .i64 600,.int .i64 600,.int .i64 12000,.int .i64 8000,.int .i64 4000,.int .i64 1200,.int .i64 100,.int .i64 4000,.int .i64 6000],.int .i64 (d:Nat)] w fun e w'=>e=.returned (.bool true)∧Below w.heap.size w w'):=⟨fun w=>qn0 cyc d HD.out w⟩;clear hn1 eN;have HHU:=am hhu;have HO0:=am eo0;have HO1:=am eo1;clear hhu eo0 eo1;obtain⟨y,ey⟩:∃y,Sig.newPair cyc Sig.usualT d=y:=⟨_,rfl⟩;rw[ey] at SV;have HY:=am ey;clear ey;go_enter Tryz.func5,Tryz.ntmps5;refine sq fun K0 J0=>?_
 go_wp2_with fail
 refine J0.out _ _ ?_;clear J0;refine sq fun K1 J1=>?_
 go_wp2_with fail
 refine(qny w).mono ?_;rintro e w1 ⟨rfl,lab1,hs1⟩;have HS1:=am hs1;clear hs1
 go_wp2_with fail
 refine J1.out _ _ ?_;clear J1;refine sq fun K2 J2=>?_
 go_wp2_with fail
 refine(qf5 cyc w1).mono ?_;rintro e w2 ⟨rfl,hbw⟩;have hs2:Stps lab1 w1 (·=17) (qaj lab1 w1 17) w2:=Stps.below hbw rfl;have HS2:=am (HS1.out.trans (hs2.mono (P':=(·≠6)) (fun i e=>by omega)));obtain⟨lab2,el2⟩:∃l,qaj lab1 w1 17=l:=⟨_,rfl⟩;rw[el2] at HS2;clear hbw hs2 el2 HS1;unfold setA
 go_wp2_with fail
 refine J2.out _ _ ?_;clear J2;have hbw:Below w2.heap.size w2 (w2.alloc (.cells #[.bool cyc,.int .i64 8,.int .i64 300,.int .i64 16,.int .i64 600,.int .i64 600,.int .i64 12000,.int .i64 8000,.int .i64 4000,.int .i64 1200,.int .i64 100,.int .i64 4000,.int .i64 6000] 27)):=qaa (Below.refl _ _) _;have hs3:Stps lab2 w2 (·=5) (qaj lab2 w2 5) (w2.alloc (.cells #[.bool cyc,.int .i64 8,.int .i64 300,.int .i64 16,.int .i64 600,.int .i64 600,.int .i64 12000,.int .i64 8000,.int .i64 4000,.int .i64 1200,.int .i64 100,.int .i64 4000,.int .i64 6000] 27)):=Stps.below hbw rfl;have CX3:qac (Blk (w2.alloc (.cells #[.bool cyc,.int .i64 8,.int .i64 300,.int .i64 16,.int .i64 600,.int .i64 600,.int .i64 12000,.int .i64 8000,.int .i64 4000,.int .i64 1200,.int .i64 100,.int .i64 4000,.int .i64 6000] 27)) w2.heap.size 27 [.bool cyc,.int .i64 8,.int .i64 300,.int .i64 16,.int .i64 600,.int .i64 600,.int .i64 12000,.int .i64 8000,.int .i64 4000,.int .i64 1200,.int .i64 100,.int .i64 4000,.int .i64 6000]∧qaj lab2 w2 5 w2.heap.size=5):=⟨heap_alloc_new w2 _,qas (Nat.le_refl _)⟩;have HS3:=am (HS2.out.trans (hs3.mono (P':=(·≠6)) (fun i e=>by omega)));obtain⟨C,eC⟩:∃C,w2.heap.size=C:=⟨_,rfl⟩;rw[eC] at CX3 ⊢;obtain⟨lab3,el3⟩:∃l,qaj lab2 w2 5=l:=⟨_,rfl⟩;rw[el3] at HS3 CX3;clear hbw hs3 eC el3 HS2;generalize (w2.alloc (.cells #[.bool cyc,.int .i64 8,.int .i64 300,.int .i64 16,.int .i64 600,.int .i64 600,.int .i64 12000,.int .i64 8000,.int .i64 4000,.int .i64 1200,.int .i64 100,.int .i64 4000,.int .i64 6000] 27))=w3 at *;refine sq fun K3 J3=>?_
 go_wp2_with fail
 refine(HDL.out _).mono ?_;rintro e w3' ⟨rfl,rfl⟩
 go_wp2_with fail
 refine J3.out _ _ ?_;clear J3;have hgi:=HGI.out;have hgw:=HGW.out;refine sq fun K4 J4=>?_
 go_wp2_with fail
 refine J4.out _ _ ?_;clear J4;clear hgi hgw;have c0:=CX3.out.1.c 0 rfl;have c1:=CX3.out.1.c 1 rfl;have c2:=CX3.out.1.c 2 rfl;have c3:=CX3.out.1.c 3 rfl;have c4:=CX3.out.1.c 4 rfl;have c5:=CX3.out.1.c 5 rfl;have c6:=CX3.out.1.c 6 rfl;have c7:=CX3.out.1.c 7 rfl;have c8:=CX3.out.1.c 8 rfl;have c9:=CX3.out.1.c 9 rfl;have c10:=CX3.out.1.c 10 rfl;have c11:=CX3.out.1.c 11 rfl;have c12:=CX3.out.1.c 12 rfl;have cf:=CX3.out.1.f;refine sq fun K5 J5=>?_
 go_wp2_with fail
 clear c0 c1 c2 c3 c4 c5 c6 c7 c8 c9 c10 c11 c12 cf;refine(qgh cyc 600 12000 8000 4000 1200 100 4000 6000 qej d (by have:=HD.out;omega) w3 lab3).mono ?_;rintro e w4 ⟨lab4,X0,V4,b4,c4,rfl,hnw⟩;have hps:=qpk qej (by have:=HD.out;omega) hnw;have hs4:=hnw.st;obtain⟨X,eX⟩:∃X:PrA,({ X0 with b:=b4 }:PrA)=X:=⟨_,rfl⟩;have eb:b4=X.b:=by rw[←eX]
 rw[eX] at hps;subst eb;obtain⟨V,eV⟩:∃V:PrV,({ V4 with time:=0,vw:=.slice none 0 0 }:PrV)=V:=⟨_,rfl⟩;rw[eV] at hps;change PSt [] _ cyc w4 lab4 X V (Sig.newPair cyc Sig.usualT d) 0 0 at hps;rw[HY.out] at hps;have PS4:qac (PSt [] (fun _ _ _ _ _=>True) cyc w4 lab4 X V (qoe o0 o1 y 0) 0 0):=⟨hps⟩;have HS4:=am (HS3.out.trans (hs4.mono (P':=(·≠6)) (fun i e=>by omega)));have CX4:=am (And.intro (hs4.blk CX3.out.1 (by rw[CX3.out.2];decide)) ((hs4.lb CX3.out.1).trans CX3.out.2));clear hs4 hnw hps eX eV HS3 CX3 HY
 go_wp2_with fail
 refine J5.out _ _ ?_;clear J5;refine sq fun K6 J6=>?_
 go_wp2_with fail
 go_loopw [14] (fun v14 wr=>∃i:Nat,i≤2∧v14=.int .i64 i∧qac (∃lab' V',Stps (fun _=>6) w (·≠6) lab' wr∧(Blk wr C 27 [.bool cyc,.int .i64 8,.int .i64 300,.int .i64 16,.int .i64 600,.int .i64 600,.int .i64 12000,.int .i64 8000,.int .i64 4000,.int .i64 1200,.int .i64 100,.int .i64 4000,.int .i64 6000]∧lab' C=5)∧PSt [] (fun _ _ _ _ _=>True) cyc wr lab' X V' (qoe o0 o1 y i) i i)) (fun v14 _=>2-(intOf v14).toNat)
 case atStart=>exact⟨0,Nat.zero_le _,rfl,⟨lab4,V,HS4.out,CX4.out,PS4.out⟩⟩
 case round =>
  obtain⟨i,hi,rfl,⟨lab5,V5,hs5,hx5,hp5⟩⟩:=hrel;have HS5:=am hs5;have CX5:=am hx5;have PS5:=am hp5;clear hs5 hx5 hp5 HS4 CX4 PS4;obtain rfl|rfl|rfl:i=0∨i=1∨i=2:=by omega
  ·simp only[show ((0:Nat):Int)=0 from rfl];have hhu:=HHU.out;cases o0
   ·have hb:=HO0.out;have eq:(((hu:Nat):Int)%2==1)=false:=beq_eq_false_iff_ne.2 (by intro e;have:=of_decide_eq_false hb;omega);go_wp2;exact⟨⟨1,by omega,by first|rfl|(simp;done),⟨lab5,V5,HS5.out,CX5.out,by rw[qvu];exact PS5.out.mono qbu⟩⟩,by simp[intOf]⟩
   ·have hb:=HO0.out;have eq:(((hu:Nat):Int)%2==1)=true:=beq_iff_eq.2 (by have:=of_decide_eq_true hb;omega)
    go_wp2_with fail
    refine(qcn qbu PS5.out 0 (by decide) 3 (by decide) (by decide)).mono ?_;rintro e w6 ⟨⟨r,rfl⟩,lab6,V6,hs6,hp6⟩;have HS6:=am (HS5.out.trans (hs6.mono (P':=(·≠6)) (fun i e=>by omega)));have CX6:=am (And.intro (hs6.blk CX5.out.1 (by rw[CX5.out.2];decide)) ((hs6.lb CX5.out.1).trans CX5.out.2));have PS6:qac (PSt [] (fun _ _ _ _ _=>True) cyc w6 lab6 X V6 (qoe true o1 y 1) 1 1):=⟨by rw[qvu];exact hp6⟩;clear hs6 hp6 PS5 HS5 CX5 eq hb;go_wp2;exact⟨⟨1,by omega,by first|rfl|(simp;done),⟨lab6,V6,HS6.out,CX6.out,PS6.out⟩⟩,by simp[intOf]⟩
  ·simp only[show ((1:Nat):Int)=1 from rfl];have hhu:=HHU.out;cases o1
   ·have hb:=HO1.out;have eq:(((hu:Nat):Int)/2%2==1)=false:=beq_eq_false_iff_ne.2 (by intro e;have:=of_decide_eq_false hb;omega);go_wp2;exact⟨⟨2,by omega,by first|rfl|(simp;done),⟨lab5,V5,HS5.out,CX5.out,by rw[qvt];exact PS5.out.mono qbu⟩⟩,by simp[intOf]⟩
   ·have hb:=HO1.out;have eq:(((hu:Nat):Int)/2%2==1)=true:=beq_iff_eq.2 (by have:=of_decide_eq_true hb;omega)
    go_wp2_with fail
    refine(qcn qbu PS5.out 1 (by decide) 3 (by decide) (by decide)).mono ?_;rintro e w6 ⟨⟨r,rfl⟩,lab6,V6,hs6,hp6⟩;have HS6:=am (HS5.out.trans (hs6.mono (P':=(·≠6)) (fun i e=>by omega)));have CX6:=am (And.intro (hs6.blk CX5.out.1 (by rw[CX5.out.2];decide)) ((hs6.lb CX5.out.1).trans CX5.out.2));have PS6:qac (PSt [] (fun _ _ _ _ _=>True) cyc w6 lab6 X V6 (qoe o0 true y 2) 2 2):=⟨by rw[qvt];exact hp6⟩;clear hs6 hp6 PS5 HS5 CX5 eq hb;go_wp2;exact⟨⟨2,by omega,by first|rfl|(simp;done),⟨lab6,V6,HS6.out,CX6.out,PS6.out⟩⟩,by simp[intOf]⟩
  ·simp only[show ((2:Nat):Int)=2 from rfl]
   go_wp2_with fail
   refine J6.out _ _ ?_;clear J6;refine sq fun K7 J7=>?_;have c0:=CX5.out.1.c 0 rfl;have c1:=CX5.out.1.c 1 rfl;have c2:=CX5.out.1.c 2 rfl;have c3:=CX5.out.1.c 3 rfl;have c4:=CX5.out.1.c 4 rfl;have c5:=CX5.out.1.c 5 rfl;have c6:=CX5.out.1.c 6 rfl;have c7:=CX5.out.1.c 7 rfl;have c8:=CX5.out.1.c 8 rfl;have c9:=CX5.out.1.c 9 rfl;have c10:=CX5.out.1.c 10 rfl;have c11:=CX5.out.1.c 11 rfl;have c12:=CX5.out.1.c 12 rfl;have cf:=CX5.out.1.f
   go_wp2_with fail
   clear c0 c1 c2 c3 c4 c5 c6 c7 c8 c9 c10 c11 c12 cf;refine(HIS.out _).mono ?_;rintro e w6 ⟨rfl,hbw⟩;have hps:=PS5.out.below qbu hbw;have PS6:=am hps.1;have HS6:=am (HS5.out.trans (hps.2.mono (P':=(·≠6)) (fun i e=>by omega)));have CX6:=am (And.intro (hps.2.blk CX5.out.1 (by rw[CX5.out.2];decide)) ((hps.2.lb CX5.out.1).trans CX5.out.2));skip;have ew:wrap64 (((g+N:Nat):Int)-((g:Nat):Int))=(N:Nat):=by have:=HN.out;have:=HG.out;unfold wrap64;omega
   have ew':wrap64 ((g:Int)+(N:Int)-(g:Int))=(N:Nat):=by have:=HN.out;have:=HG.out;unfold wrap64;omega
   go_wp2_with fail
   refine(qel qbu PS6.out g N (by have:=HG.out;omega) (by have:=HN.out;omega) (by have:=HN.out;have:=HG.out;omega) (by decide)).mono ?_;rintro e w7 ⟨rfl,lab7,V7,hs7,hp7⟩;have HS7:=am (HS6.out.trans (hs7.mono (P':=(·≠6)) (fun i e=>by omega)));have CX7:=am (And.intro (hs7.blk CX6.out.1 (by rw[CX6.out.2];decide)) ((hs7.lb CX6.out.1).trans CX6.out.2));have PS7:=am hp7;clear hs7 hp7 PS6 HS6 CX6 PS5 HS5 CX5 hps hbw ew ew'
   go_wp2_with fail
   refine J7.out _ _ ?_;clear J7;refine sq fun K8 J8=>?_;have c0:=CX7.out.1.c 0 rfl;have c1:=CX7.out.1.c 1 rfl;have c2:=CX7.out.1.c 2 rfl;have c3:=CX7.out.1.c 3 rfl;have c4:=CX7.out.1.c 4 rfl;have c5:=CX7.out.1.c 5 rfl;have c6:=CX7.out.1.c 6 rfl;have c7:=CX7.out.1.c 7 rfl;have c8:=CX7.out.1.c 8 rfl;have c9:=CX7.out.1.c 9 rfl;have c10:=CX7.out.1.c 10 rfl;have c11:=CX7.out.1.c 11 rfl;have c12:=CX7.out.1.c 12 rfl;have cf:=CX7.out.1.f
   go_wp2_with fail
   clear c0 c1 c2 c3 c4 c5 c6 c7 c8 c9 c10 c11 c12 cf;refine(HFT.out _).mono ?_;rintro e w8 ⟨rfl,hbw⟩;have hps:=PS7.out.below qbu hbw;have PS8:=am hps.1;have HS8:=am (HS7.out.trans (hps.2.mono (P':=(·≠6)) (fun i e=>by omega)));have CX8:=am (And.intro (hps.2.blk CX7.out.1 (by rw[CX7.out.2];decide)) ((hps.2.lb CX7.out.1).trans CX7.out.2))
   go_wp2_with fail
   refine(qd5 qbu PS8.out SV.out.1 SV.out.2).mono ?_;rintro e w9 ⟨rfl,kd,rfl⟩
   go_wp2_with fail
   refine J8.out _ _ ?_;clear J8;go_wp2;go_ret;exact⟨rfl,qab (qk5 HS8.out) kd⟩
end Go.Proofs.YtjbijdmcceloaaaGreat.Top
