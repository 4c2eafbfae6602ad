/- Part of the proof of topServes_holds. No condition. -/
import Derived.Carry
import Derived.Test.YtjbijdmcceloaaaGreatQS20
set_option linter.unusedVariables false
set_option linter.unusedSimpArgs false
set_option maxHeartbeats 80000000
set_option maxRecDepth 100000
namespace Go.Proofs.YtjbijdmcceloaaaGreat.Top
open Go Go.RowKit Go.Proofs.YtjbijdmcceloaaaGreat Go.Proofs.YtjbijdmcceloaaaGreatW.PrintWords Go.Proofs.YtjbijdmcceloaaaGreatW.PrintLast Go.Proofs.YtjbijdmcceloaaaGreatW.PrintMore
theorem qgr {w:World} {v1 v2:Value} {l1 l2:List Nat} (h1:Oct w v1 l1) (h2:Oct w v2 l2) :
  Calls Tryz.prog 159 #[v1,v2] w fun e w'=>∃b n,e=.returned (.bool b)∧w'=w.drewN n:=by
 obtain⟨A1,c1,rfl,q1,q2,-⟩:=h1.slice;have hl:l1.length≤9223372036854775807:=by unfold maxLen at q2;omega
 clear q1 q2;obtain⟨A2,c2,rfl,-,-,-⟩:=h2.slice;have H1:=am h1;have H2:=am h2;have HL:=am hl;clear h1 h2 hl;go_enter Tryz.func159,Tryz.ntmps159;by_cases hn:l1.length=l2.length
 ·have hn0:decide ((l1.length:Int)≠(l2.length:Int))=false:=by simp[hn]
  have hn1:(((l1.length:Nat):Int) != ((l2.length:Nat):Int))=false:=by simp[hn]
  have hn2:(l1.length != l2.length)=false:=by simp[hn]
  have HN:=am hn;clear hn
  go_wp2_with fail
  go_loopw [13] (fun v13 wr=>∃j k:Nat,j≤l1.length∧v13=.int .i64 j∧wr=w.drewN k) (fun v13 _=>l1.length-(intOf v13).toNat)
  case atStart=>exact⟨0,0,Nat.zero_le _,rfl,rfl⟩
  case round =>
   obtain⟨j,k,hj,rfl,rfl⟩:=hrel;by_cases hlt:j<l1.length
   ·have HLT:=am hlt;obtain⟨x,hx⟩:∃x,l1[j]?=some x:=⟨_,List.getElem?_eq_getElem hlt⟩;obtain⟨y,hy⟩:∃y,l2[j]?=some y:=⟨_,List.getElem?_eq_getElem (by rw[←HN.out];exact hlt)⟩;obtain⟨g1,f1,k1,e1,-,d1⟩:=Rw.get (show Rw (w.drewN k) (fun _=>True) 5 _ (octs l1) from H1.out.below (qab (Below.refl _ _) k)) j (u:=.int .u8 x) (by simp[octs,hx]);obtain⟨g2,f2,k2,e2,-,d2⟩:=Rw.get (show Rw (w.drewN k) (fun _=>True) 5 _ (octs l2) from H2.out.below (qab (Below.refl _ _) k)) j (u:=.int .u8 y) (by simp[octs,hy]);have q1:=(Value.slice.inj e1).1;have q2:=(Value.slice.inj e2).1;subst q1 q2;clear e1 e2 hx hy;have b1:decide ((j:Int)<(l1.length:Int))=true:=decide_eq_true (by omega);have p1:=eq_true (show 0≤(j:Int) by omega);have p2:=eq_true (show (j:Int)<(l1.length:Int) by omega);have p3:=eq_true (show (j:Int)<(l2.length:Int) by have:=HN.out;omega);have ew:wrap64 ((j:Int)+1)=((j+1:Nat):Int):=by have:=HL.out;unfold wrap64;omega
    clear hlt;by_cases hxy:x=y
    ·have r1:(((x:Nat):Int) != ((y:Nat):Int))=false:=by simp[hxy]
     have r2:(x != y)=false:=by simp[hxy]
     clear hxy
     go_wp2_with fail
     refine sr 9 (fun W=>W.cell? ⟨g1,f1+j,none⟩=some (.int .u8 x)∧W.cell? ⟨g2,f2+j,none⟩=some (.int .u8 y)) [] (show _∧_ from ⟨d1,d2⟩) (fun hY=>?_);refine pu 0 16 ?_;refine pu 1 17 ?_;refine pu 2 18 ?_;refine pu 4 20 ?_;refine pu 5 21 ?_;refine pu 6 22 ?_;refine tk 3 19 hY ?_;refine tk 7 23 hY ?_;refine pu 8 24 ?_;refine qav (by kernel_rfl) ?_;go_wp2;exact⟨⟨j+1,k+1,by have:=HLT.out;omega,by first|rfl|(simp[ew];done)|(rw[ew];done),rfl⟩,by have:=HLT.out;(try rw[ew]);simp[intOf];omega⟩
    ·have r1:(((x:Nat):Int) != ((y:Nat):Int))=true:=by simp;omega
     have r2:(x != y)=true:=by simp;omega
     clear hxy
     go_wp2_with fail
     refine sr 9 (fun W=>W.cell? ⟨g1,f1+j,none⟩=some (.int .u8 x)∧W.cell? ⟨g2,f2+j,none⟩=some (.int .u8 y)) [] (show _∧_ from ⟨d1,d2⟩) (fun hY=>?_);refine pu 0 16 ?_;refine pu 1 17 ?_;refine pu 2 18 ?_;refine pu 4 20 ?_;refine pu 5 21 ?_;refine pu 6 22 ?_;refine tk 3 19 hY ?_;refine tk 7 23 hY ?_;refine pu 8 24 ?_;refine qav (by kernel_rfl) ?_;go_wp2;go_ret;exact⟨_,k+1,rfl,rfl⟩
   ·obtain rfl:j=l1.length:=by omega
    have b1:decide ((l1.length:Int)<(l1.length:Int))=false:=decide_eq_false (by omega);go_wp2;go_ret;exact⟨_,k,rfl,rfl⟩
 ·have hn1:(((l1.length:Nat):Int) != ((l2.length:Nat):Int))=true:=by simp;omega
  have hn2:(l1.length != l2.length)=true:=by simp;omega
  go_wp2;go_ret;exact⟨_,0,rfl,rfl⟩
theorem qk4 (w:World) (lab:Nat→Nat) (d:Nat) (hd:d≤100000) :
  Calls Tryz.prog 35 #[.int .i64 d] w fun e w'=>∃t V lab',e=.returned (.pointer (some ⟨t,0,none⟩))∧TrIs w' lab' t V 0∧Stps lab w (fun k=>k=9∨16≤k) lab' w':=by
 have hmx:=qlq (d:Int) 0;rw[if_neg (show ¬((0:Int)>(d:Int)) by omega)] at hmx;have hmm:=@run_makeMap Tryz.prog;go_enter Tryz.func35,Tryz.ntmps35;go_wp2;go_ret;have m0:=MapOk.made w;have hb0:Below w.heap.size w (w.alloc (.map #[] 0)):=qaa (Below.refl _ _) _;have z0:(w.alloc (.map #[] 0)).heap.size=w.heap.size+1:=by simp[World.alloc_eq]
 generalize w.alloc (.map #[] 0)=w1 at *;have m1:=MapOk.made w1;have hb1:Below w1.heap.size w1 (w1.alloc (.map #[] 0)):=qaa (Below.refl _ _) _;have z1:(w1.alloc (.map #[] 0)).heap.size=w1.heap.size+1:=by simp[World.alloc_eq]
 generalize w1.alloc (.map #[] 0)=w2 at *;rw[←z0,←z1];refine⟨w2.heap.size,⟨d,w.heap.size,w1.heap.size,0,0,0,0,0,0,-1,0⟩,qaj (qaj (qaj lab w 18) w1 19) w2 9,rfl,?_,?_⟩
 ·have hb2:Below w2.heap.size w2 (w2.alloc (.cells (qif ⟨d,w.heap.size,w1.heap.size,0,0,0,0,0,0,-1,0⟩).toArray 146)):=qaa (Below.refl _ _) _;have m0':=(m0.only (qag hb1) (fun e=>e) (fun _ e=>e.elim)).only (qag hb2) (fun e=>e) (fun _ e=>e.elim);have m1':=m1.only (qag hb2) (fun e=>e) (fun _ e=>e.elim);refine⟨heap_alloc_new w2 _,qas (Nat.le_refl _),?_,?_,m0',m1',by simp;omega⟩
  ·show qaj (qaj (qaj lab w 18) w1 19) w2 9 w.heap.size=18;rw[qa1 (by omega),qa1 (by omega)];exact qas (Nat.le_refl _)
  ·show qaj (qaj (qaj lab w 18) w1 19) w2 9 w1.heap.size=19;rw[qa1 (by omega)];exact qas (Nat.le_refl _)
 ·exact((Stps.below (i:=18) hb0 (by decide)).trans (Stps.below (i:=19) hb1 (by decide))).trans (Stps.below (i:=9) (qaa (Below.refl _ _) _) (by decide))
theorem qih {w:World} {lab:Nat→Nat} {t m:Nat} {V:TrV} (h:TrIs w lab t V m) (k e:Nat) (he:e≤2000000000) {A:Option Addr} {n c:Nat} {l:List Nat} (hx:Oct w (.slice A n c) l) :
  Calls Tryz.prog 158 #[.pointer (some ⟨t,0,none⟩),.int .i64 0,.agg #[.int .u8 k,.slice A n c,.int .i64 e]] w fun x w'=>x=.returned (.tuple #[])∧∃lab' V',Stps lab w (fun k=>k=9∨16≤k) lab' w'∧TrIs w' lab' t V' m:=by
 have H0:=am h;have HE:=am he;have HX:=am hx;clear h he hx;go_enter Tryz.func158,Tryz.ntmps158;refine sq fun K0 J0=>?_
 go_wp2_with fail
 refine J0.out _ _ ?_;clear J0;have hbw:Below w.heap.size w (w.alloc (.cells #[.int .u8 k,.slice A n c,.int .i64 e] 139)):=qaa (Below.refl _ _) _;have hst:Stps lab w (·=16) (qaj lab w 16) (w.alloc (.cells #[.int .u8 k,.slice A n c,.int .i64 e] 139)):=Stps.below hbw rfl;have HS1:=am (hst.mono (P':=fun k=>k=9∨16≤k) (fun i e=>by omega));have HI1:=am (H0.out.far hst (fun i e=>by omega));have hb:Blk (w.alloc (.cells #[.int .u8 k,.slice A n c,.int .i64 e] 139)) w.heap.size 139 [.int .u8 k,.slice A n c,.int .i64 e]:=heap_alloc_new w _;have HX1:=am (HX.out.below hbw);obtain⟨B,eB⟩:∃B,w.heap.size=B:=⟨_,rfl⟩;rw[eB] at hb ⊢;obtain⟨lab1,el⟩:∃l,qaj lab w 16=l:=⟨_,rfl⟩;rw[el] at HS1 HI1;have HLB:qac (lab1 B=16):=⟨by rw[←el,←eB];exact qas (Nat.le_refl _)⟩;have HB:=am hb;clear hbw hst eB el hb H0 HX;generalize (w.alloc (.cells #[.int .u8 k,.slice A n c,.int .i64 e] 139))=w1 at *;have b0:=HB.out.c 0 rfl;have b1:=HB.out.c 1 rfl;have b2:=HB.out.c 2 rfl;by_cases hk:k=0
 ·have e1:(((k:Nat):Int) != 0)=false:=by simp[hk]
  clear hk;refine sq fun K1 J1=>?_
  go_wp2_with fail
  refine J1.out _ _ ?_;clear J1;refine sq fun K2 J2=>?_;have hc:=HI1.out.blk.c 5 rfl;have kf:=HI1.out.blk.f
  go_wp2_with fail
  refine sr 13 (fun W=>W.cell? ⟨t,5,none⟩=some (.int .i64 V.x2)) [12] hc (fun hY=>?_);refine pu 0 25 ?_;refine pu 1 26 ?_;refine pu 2 27 ?_;refine pu 3 28 ?_;refine pu 4 29 ?_;refine pu 5 30 ?_;refine pu 8 33 ?_;refine pu 9 34 ?_;refine pu 10 35 ?_;refine tk 6 31 hY ?_;refine pu 7 32 ?_;refine pu 11 36 ?_;refine laN 12 (fun K hK=>?_);refine sk ?_;refine hK.out _ _ ?_;clear hK K;refine qav (by kernel_rfl) ?_;have hsc:=(HI1.out.far (Stps.drew lab1 w1 (fun _=>False)) (fun _ e=>e.elim)).cell 5 (.int .i64 (wrap64 (V.x2+1))) (V':={ V with x2:=wrap64 (V.x2+1) }) rfl ⟨rfl,rfl,rfl⟩;have HS2:qac (Stps lab w (fun k=>k=9∨16≤k) lab1 ((w1.setCell ⟨t,5,none⟩ (.int .i64 (wrap64 (V.x2+1)))).drew)):=⟨(HS1.out.trans (Stps.drew lab1 w1 _)).trans (hsc.2.mono (fun i e=>by omega))⟩;have HB2:qac (Blk ((w1.setCell ⟨t,5,none⟩ (.int .i64 (wrap64 (V.x2+1)))).drew) B 139 [.int .u8 k,.slice A n c,.int .i64 e]):=⟨hsc.2.blk HB.out (by rw[HLB.out];decide)⟩;have HX2:qac (Oct ((w1.setCell ⟨t,5,none⟩ (.int .i64 (wrap64 (V.x2+1)))).drew) (.slice A n c) l):=⟨hsc.2.oct (HX1.out.below (qaf (Below.refl _ _)))⟩;obtain⟨V2,hV2⟩:∃V2:TrV,TrIs ((w1.setCell ⟨t,5,none⟩ (.int .i64 (wrap64 (V.x2+1)))).drew) lab1 t V2 m:=⟨_,hsc.1⟩;have HI2:=am hV2;clear hsc hc kf hV2 HI1 HS1 HB HX1 b0 b1 b2 hY;generalize ((w1.setCell ⟨t,5,none⟩ (.int .i64 (wrap64 (V.x2+1)))).drew)=w2 at *;refine J2.out _ _ ?_;clear J2;refine sq fun K4 J4=>?_;have hc:=HI2.out.blk.c 0 rfl;have b2:=HB2.out.c 2 rfl
  go_wp2_with fail
  refine sr 9 (fun W=>W.cell? ⟨t,0,none⟩=some (.int .i64 V2.d)∧W.cell? ⟨B,2,none⟩=some (.int .i64 e)) [] (show _∧_ from ⟨hc,b2⟩) (fun hY=>?_);refine pu 0 37 ?_;refine pu 2 39 ?_;refine pu 3 40 ?_;refine pu 4 41 ?_;refine tk 1 38 hY ?_;refine tk 5 42 hY ?_;refine pu 6 43 ?_;refine pu 7 44 ?_;refine pu 8 6 ?_;refine qav (by kernel_rfl) ?_;obtain⟨kk,hkk⟩:∃x,wrap64 (wrap64 ((e:Int)-V2.d)-8)=x:=⟨_,rfl⟩;have hkr:-9223372036854775808≤kk∧kk≤9223372036854775807:=by rw[←hkk];unfold wrap64;omega
  rw[hkk];clear hkk hc b2;have HS3:=am (HS2.out.trans (Stps.drew lab1 w2 _));have HI3:=am (HI2.out.far (Stps.drew lab1 w2 (fun _=>False)) (fun _ e=>e.elim));have HB3:qac (Blk w2.drew B 139 [.int .u8 k,.slice A n c,.int .i64 e]):=⟨HB2.out⟩;have HX3:=am (HX2.out.below (qaf (Below.refl _ _)));clear HS2 HI2 HB2 HX2 hY;generalize w2.drew=w3 at *;refine J4.out _ _ ?_;clear J4;obtain⟨v5,ok,l5,hlook,ho5⟩:=HI3.out.m1.look hkr;obtain⟨A5,c5,rfl,-,-,-⟩:=ho5.slice;have HO5:=am ho5;obtain⟨w4,hdel,hm4,hon4⟩:=HI3.out.m1.delete hkr 0;have h4:=HI3.out.map1 (Nat.le_refl _) hm4 hon4;have HDEL:=am hdel;have HI4:=am h4.1;have HS4:=am (HS3.out.trans (h4.2.mono (P':=fun k=>k=9∨16≤k) (fun i e=>by omega)));have HB4:=am (h4.2.blk HB3.out (by rw[HLB.out];decide));have HX4:=am (h4.2.oct HX3.out);have HO54:=am (h4.2.oct HO5.out);clear hdel hm4 hon4 h4 ho5;have hc:=HI3.out.blk.c 2 rfl;have hdel:=HDEL.out;refine sq fun K5 J5=>?_
  go_wp2_with fail
  refine J5.out _ _ ?_;clear J5;refine sq fun K6 J6=>?_
  go_wp2_with fail
  refine J6.out _ _ ?_;clear J6 hc hdel hlook HI3 HS3 HB3 HX3 HO5 HDEL;have b1:=HB4.out.c 1 rfl;cases ok
  ·go_wp2_with fail
   obtain⟨nd,hnd⟩:∃n,n=0:=⟨0,rfl⟩;rw[show w4=w4.drewN nd from by rw[hnd];rfl];clear hnd;obtain⟨lab5,h5,HI5',HS5'⟩:∃lab5,Stps lab w (fun k=>k=9∨16≤k) lab5 (w4.drewN nd)∧TrIs (w4.drewN nd) lab5 t V2 m∧True:=⟨_,HS4.out.trans (Stps.below (i:=16) (qab (Below.refl _ _) nd) (by decide)),HI4.out.far (Stps.below (i:=16) (qab (Below.refl _ _) nd) rfl) (fun i e=>by omega),trivial⟩;have HS5:=am h5;have HI5:=am HI5';clear h5 HI5' HS5';generalize (w4.drewN nd)=w5 at *;clear HI4 HS4 HB4 HX4 HO54 b1;have hc:=HI5.out.blk.c 3 rfl;have kf:=HI5.out.blk.f
   go_wp2_with fail
   refine sr 13 (fun W=>W.cell? ⟨t,3,none⟩=some (.int .i64 V2.x0)) [12] hc (fun hY=>?_);refine pu 0 73 ?_;refine pu 1 74 ?_;refine pu 2 75 ?_;refine pu 3 76 ?_;refine pu 4 77 ?_;refine pu 5 78 ?_;refine pu 8 81 ?_;refine pu 9 82 ?_;refine pu 10 83 ?_;refine tk 6 79 hY ?_;refine pu 7 80 ?_;refine pu 11 84 ?_;refine laN 12 (fun K hK=>?_);refine sk ?_;refine hK.out _ _ ?_;clear hK K;refine qav (by kernel_rfl) ?_;have hsc:=(HI5.out.far (Stps.drew lab5 w5 (fun _=>False)) (fun _ e=>e.elim)).cell 3 (.int .i64 (wrap64 (V2.x0+1))) (V':={ V2 with x0:=wrap64 (V2.x0+1) }) rfl ⟨rfl,rfl,rfl⟩;have HS6:qac (Stps lab w (fun k=>k=9∨16≤k) lab5 ((w5.setCell ⟨t,3,none⟩ (.int .i64 (wrap64 (V2.x0+1)))).drew)):=⟨(HS5.out.trans (Stps.drew lab5 w5 _)).trans (hsc.2.mono (fun i e=>by omega))⟩;obtain⟨V6,hV6⟩:∃V6:TrV,TrIs ((w5.setCell ⟨t,3,none⟩ (.int .i64 (wrap64 (V2.x0+1)))).drew) lab5 t V6 m:=⟨_,hsc.1⟩;have HI6:=am hV6;clear hsc hc kf hV6 HI5 HS5 hY;generalize ((w5.setCell ⟨t,3,none⟩ (.int .i64 (wrap64 (V2.x0+1)))).drew)=w6 at *;have c9:=HI6.out.blk.c 9 rfl;have c10:=HI6.out.blk.c 10 rfl;have cf:=HI6.out.blk.f;by_cases hf:V6.x6<0
   ·have e9:decide (V6.x6<0)=true:=decide_eq_true hf;go_wp2
    first|go_end0|refine bodyPost_ret (v:=.tuple #[]) (by simp[results,Tryz.results158,go_sem]) rfl ?_
    have hsc:=HI6.out.cell 9 (.int .i64 V6.x7) (V':={ V6 with x6:=V6.x7 }) rfl ⟨rfl,rfl,rfl⟩;exact⟨rfl,lab5,_,HS6.out.trans (hsc.2.mono (fun i e=>by omega)),hsc.1⟩
   ·have e9:decide (V6.x6<0)=false:=decide_eq_false hf;go_wp2
    first|go_end0|refine bodyPost_ret (v:=.tuple #[]) (by simp[results,Tryz.results158,go_sem]) rfl ?_
    first|exact⟨rfl,lab5,V6,HS6.out,HI6.out⟩|exact⟨rfl,lab5,HS6.out,V6,HI6.out⟩
  ·go_wp2_with fail
   refine(qgr HO54.out HX4.out).mono ?_;rintro x w5' ⟨b,nd,rfl,rfl⟩;cases b
   ·go_wp2_with fail
    obtain⟨lab5,h5,HI5',HS5'⟩:∃lab5,Stps lab w (fun k=>k=9∨16≤k) lab5 (w4.drewN nd)∧TrIs (w4.drewN nd) lab5 t V2 m∧True:=⟨_,HS4.out.trans (Stps.below (i:=16) (qab (Below.refl _ _) nd) (by decide)),HI4.out.far (Stps.below (i:=16) (qab (Below.refl _ _) nd) rfl) (fun i e=>by omega),trivial⟩;have HS5:=am h5;have HI5:=am HI5';clear h5 HI5' HS5';generalize (w4.drewN nd)=w5 at *;clear HI4 HS4 HB4 HX4 HO54 b1;have hc:=HI5.out.blk.c 3 rfl;have kf:=HI5.out.blk.f
    go_wp2_with fail
    refine sr 13 (fun W=>W.cell? ⟨t,3,none⟩=some (.int .i64 V2.x0)) [12] hc (fun hY=>?_);refine pu 0 73 ?_;refine pu 1 74 ?_;refine pu 2 75 ?_;refine pu 3 76 ?_;refine pu 4 77 ?_;refine pu 5 78 ?_;refine pu 8 81 ?_;refine pu 9 82 ?_;refine pu 10 83 ?_;refine tk 6 79 hY ?_;refine pu 7 80 ?_;refine pu 11 84 ?_;refine laN 12 (fun K hK=>?_);refine sk ?_;refine hK.out _ _ ?_;clear hK K;refine qav (by kernel_rfl) ?_;have hsc:=(HI5.out.far (Stps.drew lab5 w5 (fun _=>False)) (fun _ e=>e.elim)).cell 3 (.int .i64 (wrap64 (V2.x0+1))) (V':={ V2 with x0:=wrap64 (V2.x0+1) }) rfl ⟨rfl,rfl,rfl⟩;have HS6:qac (Stps lab w (fun k=>k=9∨16≤k) lab5 ((w5.setCell ⟨t,3,none⟩ (.int .i64 (wrap64 (V2.x0+1)))).drew)):=⟨(HS5.out.trans (Stps.drew lab5 w5 _)).trans (hsc.2.mono (fun i e=>by omega))⟩;obtain⟨V6,hV6⟩:∃V6:TrV,TrIs ((w5.setCell ⟨t,3,none⟩ (.int .i64 (wrap64 (V2.x0+1)))).drew) lab5 t V6 m:=⟨_,hsc.1⟩;have HI6:=am hV6;clear hsc hc kf hV6 HI5 HS5 hY;generalize ((w5.setCell ⟨t,3,none⟩ (.int .i64 (wrap64 (V2.x0+1)))).drew)=w6 at *;have c9:=HI6.out.blk.c 9 rfl;have c10:=HI6.out.blk.c 10 rfl;have cf:=HI6.out.blk.f;by_cases hf:V6.x6<0
    ·have e9:decide (V6.x6<0)=true:=decide_eq_true hf;go_wp2
     first|go_end0|refine bodyPost_ret (v:=.tuple #[]) (by simp[results,Tryz.results158,go_sem]) rfl ?_
     have hsc:=HI6.out.cell 9 (.int .i64 V6.x7) (V':={ V6 with x6:=V6.x7 }) rfl ⟨rfl,rfl,rfl⟩;exact⟨rfl,lab5,_,HS6.out.trans (hsc.2.mono (fun i e=>by omega)),hsc.1⟩
    ·have e9:decide (V6.x6<0)=false:=decide_eq_false hf;go_wp2
     first|go_end0|refine bodyPost_ret (v:=.tuple #[]) (by simp[results,Tryz.results158,go_sem]) rfl ?_
     first|exact⟨rfl,lab5,V6,HS6.out,HI6.out⟩|exact⟨rfl,lab5,HS6.out,V6,HI6.out⟩
   ·go_wp2
    first|go_end0|refine bodyPost_ret (v:=.tuple #[]) (by simp[results,Tryz.results158,go_sem]) rfl ?_
    exact⟨rfl,_,V2,HS4.out.trans (Stps.below (i:=16) (qab (Below.refl _ _) nd) (by decide)),HI4.out.far (Stps.below (i:=16) (qab (Below.refl _ _) nd) rfl) (fun i e=>by omega)⟩
 ·have e1:(((k:Nat):Int) != 0)=true:=by simp;omega
  clear hk;have hc:=HI1.out.blk.c 7 rfl;have kf:=HI1.out.blk.f
  go_wp2_with fail
  refine sr 13 (fun W=>W.cell? ⟨t,7,none⟩=some (.int .i64 V.x4)) [12] hc (fun hY=>?_);refine pu 0 13 ?_;refine pu 1 14 ?_;refine pu 2 15 ?_;refine pu 3 16 ?_;refine pu 4 17 ?_;refine pu 5 18 ?_;refine pu 8 21 ?_;refine pu 9 22 ?_;refine pu 10 23 ?_;refine tk 6 19 hY ?_;refine pu 7 20 ?_;refine pu 11 24 ?_;refine laN 12 (fun K hK=>?_);refine sk ?_;refine hK.out _ _ ?_;clear hK K;refine qav (by kernel_rfl) ?_;have hsc:=(HI1.out.far (Stps.drew lab1 w1 (fun _=>False)) (fun _ e=>e.elim)).cell 7 (.int .i64 (wrap64 (V.x4+1))) (V':={ V with x4:=wrap64 (V.x4+1) }) rfl ⟨rfl,rfl,rfl⟩;go_wp2
  first|go_end0|refine bodyPost_ret (v:=.tuple #[]) (by simp[results,Tryz.results158,go_sem]) rfl ?_
  exact⟨rfl,lab1,_,(HS1.out.trans (Stps.drew lab1 w1 _)).trans (hsc.2.mono (fun i e=>by omega)),hsc.1⟩
theorem qig {w:World} {lab:Nat→Nat} {t m:Nat} {V:TrV} (h:TrIs w lab t V m) (k e:Nat) (he:e≤2000000000) {A:Option Addr} {n c:Nat} {l:List Nat} (hx:Oct w (.slice A n c) l) :
  Calls Tryz.prog 158 #[.pointer (some ⟨t,0,none⟩),.int .i64 1,.agg #[.int .u8 k,.slice A n c,.int .i64 e]] w fun x w'=>x=.returned (.tuple #[])∧∃lab' V',Stps lab w (fun k=>k=9∨16≤k) lab' w'∧TrIs w' lab' t V' m:=by
 have H0:=am h;have HE:=am he;have HX:=am hx;clear h he hx;go_enter Tryz.func158,Tryz.ntmps158;refine sq fun K0 J0=>?_
 go_wp2_with fail
 refine J0.out _ _ ?_;clear J0;have hbw:Below w.heap.size w (w.alloc (.cells #[.int .u8 k,.slice A n c,.int .i64 e] 139)):=qaa (Below.refl _ _) _;have hst:Stps lab w (·=16) (qaj lab w 16) (w.alloc (.cells #[.int .u8 k,.slice A n c,.int .i64 e] 139)):=Stps.below hbw rfl;have HS1:=am (hst.mono (P':=fun k=>k=9∨16≤k) (fun i e=>by omega));have HI1:=am (H0.out.far hst (fun i e=>by omega));have hb:Blk (w.alloc (.cells #[.int .u8 k,.slice A n c,.int .i64 e] 139)) w.heap.size 139 [.int .u8 k,.slice A n c,.int .i64 e]:=heap_alloc_new w _;have HX1:=am (HX.out.below hbw);obtain⟨B,eB⟩:∃B,w.heap.size=B:=⟨_,rfl⟩;rw[eB] at hb ⊢;obtain⟨lab1,el⟩:∃l,qaj lab w 16=l:=⟨_,rfl⟩;rw[el] at HS1 HI1;have HLB:qac (lab1 B=16):=⟨by rw[←el,←eB];exact qas (Nat.le_refl _)⟩;have HB:=am hb;clear hbw hst eB el hb H0 HX;generalize (w.alloc (.cells #[.int .u8 k,.slice A n c,.int .i64 e] 139))=w1 at *;have b0:=HB.out.c 0 rfl;have b1:=HB.out.c 1 rfl;have b2:=HB.out.c 2 rfl;by_cases hk:k=0
 ·have e1:(((k:Nat):Int) != 0)=false:=by simp[hk]
  clear hk;refine sq fun K1 J1=>?_
  go_wp2_with fail
  refine J1.out _ _ ?_;clear J1;refine sq fun K2 J2=>?_;have hc:=HI1.out.blk.c 6 rfl;have kf:=HI1.out.blk.f
  go_wp2_with fail
  refine sr 13 (fun W=>W.cell? ⟨t,6,none⟩=some (.int .i64 V.x3)) [12] hc (fun hY=>?_);refine pu 0 25 ?_;refine pu 1 26 ?_;refine pu 2 27 ?_;refine pu 3 28 ?_;refine pu 4 29 ?_;refine pu 5 30 ?_;refine pu 8 33 ?_;refine pu 9 34 ?_;refine pu 10 35 ?_;refine tk 6 31 hY ?_;refine pu 7 32 ?_;refine pu 11 36 ?_;refine laN 12 (fun K hK=>?_);refine sk ?_;refine hK.out _ _ ?_;clear hK K;refine qav (by kernel_rfl) ?_;have hsc:=(HI1.out.far (Stps.drew lab1 w1 (fun _=>False)) (fun _ e=>e.elim)).cell 6 (.int .i64 (wrap64 (V.x3+1))) (V':={ V with x3:=wrap64 (V.x3+1) }) rfl ⟨rfl,rfl,rfl⟩;have HS2:qac (Stps lab w (fun k=>k=9∨16≤k) lab1 ((w1.setCell ⟨t,6,none⟩ (.int .i64 (wrap64 (V.x3+1)))).drew)):=⟨(HS1.out.trans (Stps.drew lab1 w1 _)).trans (hsc.2.mono (fun i e=>by omega))⟩;have HB2:qac (Blk ((w1.setCell ⟨t,6,none⟩ (.int .i64 (wrap64 (V.x3+1)))).drew) B 139 [.int .u8 k,.slice A n c,.int .i64 e]):=⟨hsc.2.blk HB.out (by rw[HLB.out];decide)⟩;have HX2:qac (Oct ((w1.setCell ⟨t,6,none⟩ (.int .i64 (wrap64 (V.x3+1)))).drew) (.slice A n c) l):=⟨hsc.2.oct (HX1.out.below (qaf (Below.refl _ _)))⟩;obtain⟨V2,hV2⟩:∃V2:TrV,TrIs ((w1.setCell ⟨t,6,none⟩ (.int .i64 (wrap64 (V.x3+1)))).drew) lab1 t V2 m:=⟨_,hsc.1⟩;have HI2:=am hV2;clear hsc hc kf hV2 HI1 HS1 HB HX1 b0 b1 b2 hY;generalize ((w1.setCell ⟨t,6,none⟩ (.int .i64 (wrap64 (V.x3+1)))).drew)=w2 at *;refine J2.out _ _ ?_;clear J2;refine sq fun K4 J4=>?_;have hc:=HI2.out.blk.c 0 rfl;have b2:=HB2.out.c 2 rfl
  go_wp2_with fail
  refine sr 9 (fun W=>W.cell? ⟨t,0,none⟩=some (.int .i64 V2.d)∧W.cell? ⟨B,2,none⟩=some (.int .i64 e)) [] (show _∧_ from ⟨hc,b2⟩) (fun hY=>?_);refine pu 0 37 ?_;refine pu 2 39 ?_;refine pu 3 40 ?_;refine pu 4 41 ?_;refine tk 1 38 hY ?_;refine tk 5 42 hY ?_;refine pu 6 43 ?_;refine pu 7 44 ?_;refine pu 8 6 ?_;refine qav (by kernel_rfl) ?_;obtain⟨kk,hkk⟩:∃x,wrap64 (wrap64 ((e:Int)-V2.d)-8)=x:=⟨_,rfl⟩;have hkr:-9223372036854775808≤kk∧kk≤9223372036854775807:=by rw[←hkk];unfold wrap64;omega
  rw[hkk];clear hkk hc b2;have HS3:=am (HS2.out.trans (Stps.drew lab1 w2 _));have HI3:=am (HI2.out.far (Stps.drew lab1 w2 (fun _=>False)) (fun _ e=>e.elim));have HB3:qac (Blk w2.drew B 139 [.int .u8 k,.slice A n c,.int .i64 e]):=⟨HB2.out⟩;have HX3:=am (HX2.out.below (qaf (Below.refl _ _)));clear HS2 HI2 HB2 HX2 hY;generalize w2.drew=w3 at *;refine J4.out _ _ ?_;clear J4;obtain⟨v5,ok,l5,hlook,ho5⟩:=HI3.out.m0.look hkr;obtain⟨A5,c5,rfl,-,-,-⟩:=ho5.slice;have HO5:=am ho5;obtain⟨w4,hdel,hm4,hon4⟩:=HI3.out.m0.delete hkr 0;have h4:=HI3.out.map0 (Nat.le_refl _) hm4 hon4;have HDEL:=am hdel;have HI4:=am h4.1;have HS4:=am (HS3.out.trans (h4.2.mono (P':=fun k=>k=9∨16≤k) (fun i e=>by omega)));have HB4:=am (h4.2.blk HB3.out (by rw[HLB.out];decide));have HX4:=am (h4.2.oct HX3.out);have HO54:=am (h4.2.oct HO5.out);clear hdel hm4 hon4 h4 ho5;have hc:=HI3.out.blk.c 1 rfl;have hdel:=HDEL.out;refine sq fun K5 J5=>?_
  go_wp2_with fail
  refine J5.out _ _ ?_;clear J5;refine sq fun K6 J6=>?_
  go_wp2_with fail
  refine J6.out _ _ ?_;clear J6 hc hdel hlook HI3 HS3 HB3 HX3 HO5 HDEL;have b1:=HB4.out.c 1 rfl;cases ok
  ·go_wp2_with fail
   obtain⟨nd,hnd⟩:∃n,n=0:=⟨0,rfl⟩;rw[show w4=w4.drewN nd from by rw[hnd];rfl];clear hnd;obtain⟨lab5,h5,HI5',HS5'⟩:∃lab5,Stps lab w (fun k=>k=9∨16≤k) lab5 (w4.drewN nd)∧TrIs (w4.drewN nd) lab5 t V2 m∧True:=⟨_,HS4.out.trans (Stps.below (i:=16) (qab (Below.refl _ _) nd) (by decide)),HI4.out.far (Stps.below (i:=16) (qab (Below.refl _ _) nd) rfl) (fun i e=>by omega),trivial⟩;have HS5:=am h5;have HI5:=am HI5';clear h5 HI5' HS5';generalize (w4.drewN nd)=w5 at *;clear HI4 HS4 HB4 HX4 HO54 b1;have hc:=HI5.out.blk.c 4 rfl;have kf:=HI5.out.blk.f
   go_wp2_with fail
   refine sr 13 (fun W=>W.cell? ⟨t,4,none⟩=some (.int .i64 V2.x1)) [12] hc (fun hY=>?_);refine pu 0 73 ?_;refine pu 1 74 ?_;refine pu 2 75 ?_;refine pu 3 76 ?_;refine pu 4 77 ?_;refine pu 5 78 ?_;refine pu 8 81 ?_;refine pu 9 82 ?_;refine pu 10 83 ?_;refine tk 6 79 hY ?_;refine pu 7 80 ?_;refine pu 11 84 ?_;refine laN 12 (fun K hK=>?_);refine sk ?_;refine hK.out _ _ ?_;clear hK K;refine qav (by kernel_rfl) ?_;have hsc:=(HI5.out.far (Stps.drew lab5 w5 (fun _=>False)) (fun _ e=>e.elim)).cell 4 (.int .i64 (wrap64 (V2.x1+1))) (V':={ V2 with x1:=wrap64 (V2.x1+1) }) rfl ⟨rfl,rfl,rfl⟩;have HS6:qac (Stps lab w (fun k=>k=9∨16≤k) lab5 ((w5.setCell ⟨t,4,none⟩ (.int .i64 (wrap64 (V2.x1+1)))).drew)):=⟨(HS5.out.trans (Stps.drew lab5 w5 _)).trans (hsc.2.mono (fun i e=>by omega))⟩;obtain⟨V6,hV6⟩:∃V6:TrV,TrIs ((w5.setCell ⟨t,4,none⟩ (.int .i64 (wrap64 (V2.x1+1)))).drew) lab5 t V6 m:=⟨_,hsc.1⟩;have HI6:=am hV6;clear hsc hc kf hV6 HI5 HS5 hY;generalize ((w5.setCell ⟨t,4,none⟩ (.int .i64 (wrap64 (V2.x1+1)))).drew)=w6 at *;have c9:=HI6.out.blk.c 9 rfl;have c10:=HI6.out.blk.c 10 rfl;have cf:=HI6.out.blk.f;by_cases hf:V6.x6<0
   ·have e9:decide (V6.x6<0)=true:=decide_eq_true hf;go_wp2
    first|go_end0|refine bodyPost_ret (v:=.tuple #[]) (by simp[results,Tryz.results158,go_sem]) rfl ?_
    have hsc:=HI6.out.cell 9 (.int .i64 V6.x7) (V':={ V6 with x6:=V6.x7 }) rfl ⟨rfl,rfl,rfl⟩;exact⟨rfl,lab5,_,HS6.out.trans (hsc.2.mono (fun i e=>by omega)),hsc.1⟩
   ·have e9:decide (V6.x6<0)=false:=decide_eq_false hf;go_wp2
    first|go_end0|refine bodyPost_ret (v:=.tuple #[]) (by simp[results,Tryz.results158,go_sem]) rfl ?_
    first|exact⟨rfl,lab5,V6,HS6.out,HI6.out⟩|exact⟨rfl,lab5,HS6.out,V6,HI6.out⟩
  ·go_wp2_with fail
   refine(qgr HO54.out HX4.out).mono ?_;rintro x w5' ⟨b,nd,rfl,rfl⟩;cases b
   ·go_wp2_with fail
    obtain⟨lab5,h5,HI5',HS5'⟩:∃lab5,Stps lab w (fun k=>k=9∨16≤k) lab5 (w4.drewN nd)∧TrIs (w4.drewN nd) lab5 t V2 m∧True:=⟨_,HS4.out.trans (Stps.below (i:=16) (qab (Below.refl _ _) nd) (by decide)),HI4.out.far (Stps.below (i:=16) (qab (Below.refl _ _) nd) rfl) (fun i e=>by omega),trivial⟩;have HS5:=am h5;have HI5:=am HI5';clear h5 HI5' HS5';generalize (w4.drewN nd)=w5 at *;clear HI4 HS4 HB4 HX4 HO54 b1;have hc:=HI5.out.blk.c 4 rfl;have kf:=HI5.out.blk.f
    go_wp2_with fail
    refine sr 13 (fun W=>W.cell? ⟨t,4,none⟩=some (.int .i64 V2.x1)) [12] hc (fun hY=>?_);refine pu 0 73 ?_;refine pu 1 74 ?_;refine pu 2 75 ?_;refine pu 3 76 ?_;refine pu 4 77 ?_;refine pu 5 78 ?_;refine pu 8 81 ?_;refine pu 9 82 ?_;refine pu 10 83 ?_;refine tk 6 79 hY ?_;refine pu 7 80 ?_;refine pu 11 84 ?_;refine laN 12 (fun K hK=>?_);refine sk ?_;refine hK.out _ _ ?_;clear hK K;refine qav (by kernel_rfl) ?_;have hsc:=(HI5.out.far (Stps.drew lab5 w5 (fun _=>False)) (fun _ e=>e.elim)).cell 4 (.int .i64 (wrap64 (V2.x1+1))) (V':={ V2 with x1:=wrap64 (V2.x1+1) }) rfl ⟨rfl,rfl,rfl⟩;have HS6:qac (Stps lab w (fun k=>k=9∨16≤k) lab5 ((w5.setCell ⟨t,4,none⟩ (.int .i64 (wrap64 (V2.x1+1)))).drew)):=⟨(HS5.out.trans (Stps.drew lab5 w5 _)).trans (hsc.2.mono (fun i e=>by omega))⟩;obtain⟨V6,hV6⟩:∃V6:TrV,TrIs ((w5.setCell ⟨t,4,none⟩ (.int .i64 (wrap64 (V2.x1+1)))).drew) lab5 t V6 m:=⟨_,hsc.1⟩;have HI6:=am hV6;clear hsc hc kf hV6 HI5 HS5 hY;generalize ((w5.setCell ⟨t,4,none⟩ (.int .i64 (wrap64 (V2.x1+1)))).drew)=w6 at *;have c9:=HI6.out.blk.c 9 rfl;have c10:=HI6.out.blk.c 10 rfl;have cf:=HI6.out.blk.f;by_cases hf:V6.x6<0
    ·have e9:decide (V6.x6<0)=true:=decide_eq_true hf;go_wp2
     first|go_end0|refine bodyPost_ret (v:=.tuple #[]) (by simp[results,Tryz.results158,go_sem]) rfl ?_
     have hsc:=HI6.out.cell 9 (.int .i64 V6.x7) (V':={ V6 with x6:=V6.x7 }) rfl ⟨rfl,rfl,rfl⟩;exact⟨rfl,lab5,_,HS6.out.trans (hsc.2.mono (fun i e=>by omega)),hsc.1⟩
    ·have e9:decide (V6.x6<0)=false:=decide_eq_false hf;go_wp2
     first|go_end0|refine bodyPost_ret (v:=.tuple #[]) (by simp[results,Tryz.results158,go_sem]) rfl ?_
     first|exact⟨rfl,lab5,V6,HS6.out,HI6.out⟩|exact⟨rfl,lab5,HS6.out,V6,HI6.out⟩
   ·go_wp2
    first|go_end0|refine bodyPost_ret (v:=.tuple #[]) (by simp[results,Tryz.results158,go_sem]) rfl ?_
    exact⟨rfl,_,V2,HS4.out.trans (Stps.below (i:=16) (qab (Below.refl _ _) nd) (by decide)),HI4.out.far (Stps.below (i:=16) (qab (Below.refl _ _) nd) rfl) (fun i e=>by omega)⟩
 ·have e1:(((k:Nat):Int) != 0)=true:=by simp;omega
  clear hk;have hc:=HI1.out.blk.c 8 rfl;have kf:=HI1.out.blk.f
  go_wp2_with fail
  refine sr 13 (fun W=>W.cell? ⟨t,8,none⟩=some (.int .i64 V.x5)) [12] hc (fun hY=>?_);refine pu 0 13 ?_;refine pu 1 14 ?_;refine pu 2 15 ?_;refine pu 3 16 ?_;refine pu 4 17 ?_;refine pu 5 18 ?_;refine pu 8 21 ?_;refine pu 9 22 ?_;refine pu 10 23 ?_;refine tk 6 19 hY ?_;refine pu 7 20 ?_;refine pu 11 24 ?_;refine laN 12 (fun K hK=>?_);refine sk ?_;refine hK.out _ _ ?_;clear hK K;refine qav (by kernel_rfl) ?_;have hsc:=(HI1.out.far (Stps.drew lab1 w1 (fun _=>False)) (fun _ e=>e.elim)).cell 8 (.int .i64 (wrap64 (V.x5+1))) (V':={ V with x5:=wrap64 (V.x5+1) }) rfl ⟨rfl,rfl,rfl⟩;go_wp2
  first|go_end0|refine bodyPost_ret (v:=.tuple #[]) (by simp[results,Tryz.results158,go_sem]) rfl ?_
  exact⟨rfl,lab1,_,(HS1.out.trans (Stps.drew lab1 w1 _)).trans (hsc.2.mono (fun i e=>by omega)),hsc.1⟩
theorem SR.long {w:World} {P:Nat→Prop} {e sz n:Nat} {Q:List Value→Prop} {v:Value} (h:SR w P e sz Q v n):n≤9223372036854775807:=by
 obtain⟨inner,⟨_,ho⟩,_⟩:=h;rcases ho with ⟨_,rfl⟩|⟨g,cap,cur,_,_,_,hn,hm,_⟩
 ·exact Nat.zero_le _
 ·unfold maxLen at hm;omega
theorem qid {w:World} {lab:Nat→Nat} {t g m:Nat} {A:Adr} {p:Sig.Post} {q:PoV} {V:TrV} (h:TrIs w lab t V m) (hm:m≤900000000) (hp:PoS w lab 0 g A p q) (hq:q.ns≤8) (At:Option Addr) (nt ct:Nat) :
  Calls Tryz.prog 155 #[.pointer (some ⟨t,0,none⟩),.int .i64 0,.pointer (some ⟨g,0,none⟩),.slice At nt ct] w fun e w'=>e=.returned (.tuple #[])∧∃lab' V',Stps lab w (fun k=>k=9∨16≤k) lab' w'∧TrIs w' lab' t V' (m+8):=by
 have HP:=am hp;have HM:=am hm;have HQ:=am hq;have c10:=h.blk.c 10 rfl;have cf:=h.blk.f;have H0:=am h;clear h hp hm hq;have hsc:=H0.out.cell 10 (.int .i64 (wrap64 (V.x7+1))) (V':={ V with x7:=wrap64 (V.x7+1) }) rfl ⟨rfl,rfl,rfl⟩;have HS1:qac (Stps lab w (fun k=>k=9∨16≤k) lab (w.setCell ⟨t,10,none⟩ (.int .i64 (wrap64 (V.x7+1))))):=⟨hsc.2.mono (fun i e=>by omega)⟩;obtain⟨V1,hV1⟩:∃V1:TrV,TrIs (w.setCell ⟨t,10,none⟩ (.int .i64 (wrap64 (V.x7+1)))) lab t V1 m:=⟨_,hsc.1⟩;have HI1:=am hV1;clear hsc hV1;have HP1:qac (PoS (w.setCell ⟨t,10,none⟩ (.int .i64 (wrap64 (V.x7+1)))) lab 0 g A p q):=⟨HP.out.far HS1.out (by decide)⟩;obtain⟨O,vt,hpi,hpl⟩:=HP1.out;obtain⟨As,cs,es,-⟩:=hpi.rows.sent.slice;have HC:=am (qfq hpi);rw[es] at HC;have HES:=am es;clear hpi hpl es;go_enter Tryz.func155,Tryz.ntmps155
 go_wp2_with fail
 clear c10 cf;generalize (w.setCell ⟨t,10,none⟩ (.int .i64 (wrap64 (V.x7+1))))=w1 at *;refine HC.out.mono ?_;rintro e w2 ⟨rfl,rfl⟩;clear HC
 go_wp2_with fail
 go_loopw [34] (fun v34 wr=>∃j:Nat,j≤q.ns∧v34=.int .i64 j∧qac (∃lab' V',Stps lab w (fun k=>k=9∨16≤k) lab' wr∧TrIs wr lab' t V' (m+j))) (fun v34 _=>q.ns-(intOf v34).toNat)
 case atStart=>exact⟨0,Nat.zero_le _,rfl,⟨lab,V1,HS1.out,HI1.out⟩⟩
 case round =>
  obtain⟨j,hj,rfl,⟨lab2,V2,hs2,hi2⟩⟩:=hrel;clear HI1 HS1 HP1;have HS:=am hs2;have HI:=am hi2;clear hs2 hi2;by_cases hlt:j<q.ns
  ·have HLT:=am hlt;obtain⟨O2,vt2,hpi2,-⟩:=HP.out.far HS.out (by decide);obtain⟨gs,eg,cs2,-,⟨As2,n2,c2,l2,k2,ecs,ho2,hk2⟩,hcell⟩:=hpi2.rows.sent.cell HES.out j hlt;subst ecs;obtain⟨u0,e0,d0⟩:=hcell 0 (by decide);obtain⟨u1,e1,d1⟩:=hcell 1 (by decide);simp at e0 e1;subst e0 e1;subst eg;have d0:wr.cell? ⟨gs,j*2,none⟩=_:=d0;have d1:wr.cell? ⟨gs,j*2+1,none⟩=_:=d1;have HO:=am ho2;have HK2:=am hk2;clear hpi2 hcell ho2 hk2;have b1:decide ((j:Int)<(q.ns:Int))=true:=decide_eq_true (by omega);have p1:=eq_true (show 0≤(j:Int) by omega);have p2:=eq_true (show (j:Int)<(q.ns:Int) by omega);clear hlt;refine sq fun K2 J2=>?_
   go_wp2_with fail
   refine J2.out _ _ ?_;clear J2;refine sq fun K3 J3=>?_
   go_wp2_with fail
   refine J3.out _ _ ?_;clear J3;refine sq fun K9 J9=>?_;refine wp_block ?_;refine sq fun K4 J4=>?_
   go_wp2_with fail
   refine J4.out _ _ ?_;clear J4;have hbw:Below wr.heap.size wr (wr.alloc (.cells #[.slice As2 n2 c2,.int .i64 k2] 107)):=qaa (Below.refl _ _) _;have hst:Stps lab2 wr (·=16) (qaj lab2 wr 16) (wr.alloc (.cells #[.slice As2 n2 c2,.int .i64 k2] 107)):=Stps.below hbw rfl;have HS2:=am (HS.out.trans (hst.mono (P':=fun k=>k=9∨16≤k) (fun i e=>by omega)));have HI2:=am (HI.out.far hst (fun i e=>by omega));have hb:Blk (wr.alloc (.cells #[.slice As2 n2 c2,.int .i64 k2] 107)) wr.heap.size 107 [.slice As2 n2 c2,.int .i64 k2]:=heap_alloc_new wr _;have HO2:=am (HO.out.below hbw);obtain⟨B,eB⟩:∃B,wr.heap.size=B:=⟨_,rfl⟩;rw[eB] at hb ⊢;have b0:=hb.c 0 rfl;have b1':=hb.c 1 rfl;obtain⟨lab3,el3⟩:∃l,qaj lab2 wr 16=l:=⟨_,rfl⟩;rw[el3] at HS2 HI2;clear hbw hst eB el3 HS HI HO hb d0 d1 b1 p1 p2;generalize (wr.alloc (.cells #[.slice As2 n2 c2,.int .i64 k2] 107))=w3 at *;have HI3:=am (HI2.out.far (Stps.drew lab3 w3 (fun _=>False)) (fun _ e=>e.elim));obtain⟨w5,hupd,hm5,hon5⟩:=HI3.out.m0.update (by have:=HM.out;have:=HLT.out;have:=HQ.out;omega) (k:=(k2:Int)) (by have:=HK2.out;omega) (HO2.out.below (qaf (Below.refl _ _)));have h5:=HI3.out.map0 (Nat.le_succ _) hm5 hon5;have HF:qac (∃lab' V',Stps lab w (fun k=>k=9∨16≤k) lab' w5∧TrIs w5 lab' t V' (m+(j+1))):=⟨_,V2,(HS2.out.trans (Stps.drew lab3 w3 _)).trans (h5.2.mono (fun i e=>by omega)),h5.1⟩;have hc:=HI2.out.blk.c 1 rfl;clear h5 hm5 hon5
   go_wp2_with fail
   refine sr 11 (fun W=>W.cell? ⟨t,1,none⟩=some (.map (some V2.b0))∧W.cell? ⟨B,0,none⟩=some (.slice As2 n2 c2)∧W.cell? ⟨B,1,none⟩=some (.int .i64 k2)) [10] (show _∧_∧_ from ⟨hc,b0,b1'⟩) (fun hY=>?_);refine pu 0 38 ?_;refine pu 1 39 ?_;refine pu 2 40 ?_;refine pu 3 41 ?_;refine pu 4 42 ?_;refine pu 6 44 ?_;refine pu 8 46 ?_;refine tk 5 43 hY ?_;refine tk 7 45 hY ?_;refine tk 9 47 hY ?_;refine laN 10 (fun K hK=>?_);refine sk ?_;refine hK.out _ _ ?_;clear hK K;refine qav (by kernel_rfl) ?_
   go_wp2_with fail
   refine J9.out _ _ ?_;clear J9;have ew:wrap64 ((j:Int)+1)=((j+1:Nat):Int):=by have:=HQ.out;have:=HLT.out;unfold wrap64;omega
   go_wp2;exact⟨⟨j+1,by have:=HLT.out;omega,by first|rfl|(simp[ew];done)|(rw[ew];done),⟨HF.out⟩⟩,by have:=HLT.out;(try rw[ew]);simp[intOf];omega⟩
  ·obtain rfl:j=q.ns:=by omega
   have HI1:=am (HI.out.mono (show m+q.ns≤m+8 by have:=HQ.out;omega));have HS1:=HS;clear HI HS;obtain⟨O2,vt2,hpi2,-⟩:=HP.out.far HS1.out (by decide);obtain⟨Ag,cg,eg,-⟩:=hpi2.rows.got.slice;have HC:=am (qfr hpi2);rw[eg] at HC;have HEG:=am eg;have HNG:=am hpi2.rows.got.long;clear hpi2 eg;have b1:decide ((q.ns:Int)<(q.ns:Int))=false:=decide_eq_false (by omega)
   go_wp2_with fail
   refine HC.out.mono ?_;rintro e w2 ⟨rfl,rfl⟩;clear HC b1
   go_wp2_with fail
   go_loopw [52] (fun v52 wr=>∃j:Nat,j≤q.ng∧v52=.int .i64 j∧qac (∃lab' V',Stps lab w (fun k=>k=9∨16≤k) lab' wr∧TrIs wr lab' t V' (m+8))) (fun v52 _=>q.ng-(intOf v52).toNat)
   case atStart=>exact⟨0,Nat.zero_le _,rfl,⟨lab2,V2,HS1.out,HI1.out⟩⟩
   case round =>
    obtain⟨j,hj,rfl,⟨lab3,V3,hs3,hi3⟩⟩:=hrel;clear HI1 HS1;have HS:=am hs3;have HI:=am hi3;clear hs3 hi3;by_cases hlt:j<q.ng
    ·have HLT:=am hlt;obtain⟨O3,vt3,hpi3,-⟩:=HP.out.far HS.out (by decide);obtain⟨gs,eg,cs2,-,⟨As2,n2,c2,l2,k2,e2,ecs,ho2,hk2⟩,hcell⟩:=hpi3.rows.got.cell HEG.out j hlt;subst ecs;obtain⟨u0,e0,d0⟩:=hcell 0 (by decide);obtain⟨u1,e1,d1⟩:=hcell 1 (by decide);obtain⟨u2,e2',d2⟩:=hcell 2 (by decide);simp at e0 e1 e2';subst e0 e1 e2';subst eg;have d0:wr.cell? ⟨gs,j*3,none⟩=_:=d0;have d1:wr.cell? ⟨gs,j*3+1,none⟩=_:=d1;have d2:wr.cell? ⟨gs,j*3+2,none⟩=_:=d2;have HO:=am ho2;have HK2:=am hk2;clear hpi3 hcell ho2 hk2;have b1:decide ((j:Int)<(q.ng:Int))=true:=decide_eq_true (by omega);have p1:=eq_true (show 0≤(j:Int) by omega);have p2:=eq_true (show (j:Int)<(q.ng:Int) by omega);clear hlt;refine sq fun K2 J2=>?_
     go_wp2_with fail
     refine J2.out _ _ ?_;clear J2;refine sq fun K3 J3=>?_
     go_wp2_with fail
     refine J3.out _ _ ?_;clear J3;refine sq fun K9 J9=>?_;refine wp_block ?_;refine sq fun K4 J4=>?_
     go_wp2_with fail
     refine J4.out _ _ ?_;clear J4;have hbw:Below wr.heap.size wr (wr.alloc (.cells #[.int .u8 k2,.slice As2 n2 c2,.int .i64 e2] 139)):=qaa (Below.refl _ _) _;have hst:Stps lab3 wr (·=16) (qaj lab3 wr 16) (wr.alloc (.cells #[.int .u8 k2,.slice As2 n2 c2,.int .i64 e2] 139)):=Stps.below hbw rfl;have HS2:=am (HS.out.trans (hst.mono (P':=fun k=>k=9∨16≤k) (fun i e=>by omega)));have HI2:=am (HI.out.far hst (fun i e=>by omega));have hb:Blk (wr.alloc (.cells #[.int .u8 k2,.slice As2 n2 c2,.int .i64 e2] 139)) wr.heap.size 139 [.int .u8 k2,.slice As2 n2 c2,.int .i64 e2]:=heap_alloc_new wr _;have HO2:=am (HO.out.below hbw);obtain⟨B,eB⟩:∃B,wr.heap.size=B:=⟨_,rfl⟩;rw[eB] at hb ⊢;have b0:=hb.c 0 rfl;have b1':=hb.c 1 rfl;have b2:=hb.c 2 rfl;obtain⟨lab4,el4⟩:∃l,qaj lab3 wr 16=l:=⟨_,rfl⟩;rw[el4] at HS2 HI2;clear hbw hst eB el4 HS HI HO hb d0 d1 d2 b1 p1 p2;generalize (wr.alloc (.cells #[.int .u8 k2,.slice As2 n2 c2,.int .i64 e2] 139))=w3 at *
     go_wp2_with fail
     refine(qih HI2.out k2 e2 HK2.out HO2.out).mono ?_;rintro e w5 ⟨rfl,lab5,V5,h5,h6⟩;have HF:qac (∃lab' V',Stps lab w (fun k=>k=9∨16≤k) lab' w5∧TrIs w5 lab' t V' (m+8)):=⟨_,V5,HS2.out.trans h5,h6⟩;clear h5 h6
     go_wp2_with fail
     refine J9.out _ _ ?_;clear J9;have ew:wrap64 ((j:Int)+1)=((j+1:Nat):Int):=by have:=HNG.out;have:=HLT.out;unfold wrap64;omega
     go_wp2;exact⟨⟨j+1,by have:=HLT.out;omega,by first|rfl|(simp[ew];done)|(rw[ew];done),⟨HF.out⟩⟩,by have:=HLT.out;(try rw[ew]);simp[intOf];omega⟩
    ·obtain rfl:j=q.ng:=by omega
     have b1:decide ((q.ng:Int)<(q.ng:Int))=false:=decide_eq_false (by omega);go_wp2
     first|go_end0|refine bodyPost_ret (v:=.tuple #[]) (by simp[results,Tryz.results155,go_sem]) rfl ?_
     exact⟨rfl,lab3,V3,HS.out,HI.out⟩
theorem qic {w:World} {lab:Nat→Nat} {t g m:Nat} {A:Adr} {p:Sig.Post} {q:PoV} {V:TrV} (h:TrIs w lab t V m) (hm:m≤900000000) (hp:PoS w lab 1 g A p q) (hq:q.ns≤8) (At:Option Addr) (nt ct:Nat) :
  Calls Tryz.prog 155 #[.pointer (some ⟨t,0,none⟩),.int .i64 1,.pointer (some ⟨g,0,none⟩),.slice At nt ct] w fun e w'=>e=.returned (.tuple #[])∧∃lab' V',Stps lab w (fun k=>k=9∨16≤k) lab' w'∧TrIs w' lab' t V' (m+8):=by
 have HP:=am hp;have HM:=am hm;have HQ:=am hq;have c10:=h.blk.c 10 rfl;have cf:=h.blk.f;have H0:=am h;clear h hp hm hq;have HS1:qac (Stps lab w (fun k=>k=9∨16≤k) lab w):=⟨Stps.refl _ _ _⟩;have HI1:=H0;obtain⟨V1,eV1⟩:∃V1:TrV,V=V1:=⟨V,rfl⟩;rw[eV1] at HI1;clear eV1;have HP1:qac (PoS w lab 1 g A p q):=⟨HP.out.far HS1.out (by decide)⟩;obtain⟨O,vt,hpi,hpl⟩:=HP1.out;obtain⟨As,cs,es,-⟩:=hpi.rows.sent.slice;have HC:=am (qfq hpi);rw[es] at HC;have HES:=am es;clear hpi hpl es;go_enter Tryz.func155,Tryz.ntmps155
 go_wp2_with fail
 clear c10 cf;refine HC.out.mono ?_;rintro e w2 ⟨rfl,rfl⟩;clear HC
 go_wp2_with fail
 go_loopw [34] (fun v34 wr=>∃j:Nat,j≤q.ns∧v34=.int .i64 j∧qac (∃lab' V',Stps lab w (fun k=>k=9∨16≤k) lab' wr∧TrIs wr lab' t V' (m+j))) (fun v34 _=>q.ns-(intOf v34).toNat)
 case atStart=>exact⟨0,Nat.zero_le _,rfl,⟨lab,V1,HS1.out,HI1.out⟩⟩
 case round =>
  obtain⟨j,hj,rfl,⟨lab2,V2,hs2,hi2⟩⟩:=hrel;clear HI1 HS1 HP1;have HS:=am hs2;have HI:=am hi2;clear hs2 hi2;by_cases hlt:j<q.ns
  ·have HLT:=am hlt;obtain⟨O2,vt2,hpi2,-⟩:=HP.out.far HS.out (by decide);obtain⟨gs,eg,cs2,-,⟨As2,n2,c2,l2,k2,ecs,ho2,hk2⟩,hcell⟩:=hpi2.rows.sent.cell HES.out j hlt;subst ecs;obtain⟨u0,e0,d0⟩:=hcell 0 (by decide);obtain⟨u1,e1,d1⟩:=hcell 1 (by decide);simp at e0 e1;subst e0 e1;subst eg;have d0:wr.cell? ⟨gs,j*2,none⟩=_:=d0;have d1:wr.cell? ⟨gs,j*2+1,none⟩=_:=d1;have HO:=am ho2;have HK2:=am hk2;clear hpi2 hcell ho2 hk2;have b1:decide ((j:Int)<(q.ns:Int))=true:=decide_eq_true (by omega);have p1:=eq_true (show 0≤(j:Int) by omega);have p2:=eq_true (show (j:Int)<(q.ns:Int) by omega);clear hlt;refine sq fun K2 J2=>?_
   go_wp2_with fail
   refine J2.out _ _ ?_;clear J2;refine sq fun K3 J3=>?_
   go_wp2_with fail
   refine J3.out _ _ ?_;clear J3;refine sq fun K9 J9=>?_;refine wp_block ?_;refine sq fun K4 J4=>?_
   go_wp2_with fail
   refine J4.out _ _ ?_;clear J4;have hbw:Below wr.heap.size wr (wr.alloc (.cells #[.slice As2 n2 c2,.int .i64 k2] 107)):=qaa (Below.refl _ _) _;have hst:Stps lab2 wr (·=16) (qaj lab2 wr 16) (wr.alloc (.cells #[.slice As2 n2 c2,.int .i64 k2] 107)):=Stps.below hbw rfl;have HS2:=am (HS.out.trans (hst.mono (P':=fun k=>k=9∨16≤k) (fun i e=>by omega)));have HI2:=am (HI.out.far hst (fun i e=>by omega));have hb:Blk (wr.alloc (.cells #[.slice As2 n2 c2,.int .i64 k2] 107)) wr.heap.size 107 [.slice As2 n2 c2,.int .i64 k2]:=heap_alloc_new wr _;have HO2:=am (HO.out.below hbw);obtain⟨B,eB⟩:∃B,wr.heap.size=B:=⟨_,rfl⟩;rw[eB] at hb ⊢;have b0:=hb.c 0 rfl;have b1':=hb.c 1 rfl;obtain⟨lab3,el3⟩:∃l,qaj lab2 wr 16=l:=⟨_,rfl⟩;rw[el3] at HS2 HI2;clear hbw hst eB el3 HS HI HO hb d0 d1 b1 p1 p2;generalize (wr.alloc (.cells #[.slice As2 n2 c2,.int .i64 k2] 107))=w3 at *;have HI3:=am (HI2.out.far (Stps.drew lab3 w3 (fun _=>False)) (fun _ e=>e.elim));obtain⟨w5,hupd,hm5,hon5⟩:=HI3.out.m1.update (by have:=HM.out;have:=HLT.out;have:=HQ.out;omega) (k:=(k2:Int)) (by have:=HK2.out;omega) (HO2.out.below (qaf (Below.refl _ _)));have h5:=HI3.out.map1 (Nat.le_succ _) hm5 hon5;have HF:qac (∃lab' V',Stps lab w (fun k=>k=9∨16≤k) lab' w5∧TrIs w5 lab' t V' (m+(j+1))):=⟨_,V2,(HS2.out.trans (Stps.drew lab3 w3 _)).trans (h5.2.mono (fun i e=>by omega)),h5.1⟩;have hc:=HI2.out.blk.c 2 rfl;clear h5 hm5 hon5
   go_wp2_with fail
   refine sr 11 (fun W=>W.cell? ⟨t,2,none⟩=some (.map (some V2.b1))∧W.cell? ⟨B,0,none⟩=some (.slice As2 n2 c2)∧W.cell? ⟨B,1,none⟩=some (.int .i64 k2)) [10] (show _∧_∧_ from ⟨hc,b0,b1'⟩) (fun hY=>?_);refine pu 0 38 ?_;refine pu 1 39 ?_;refine pu 2 40 ?_;refine pu 3 41 ?_;refine pu 4 42 ?_;refine pu 6 44 ?_;refine pu 8 46 ?_;refine tk 5 43 hY ?_;refine tk 7 45 hY ?_;refine tk 9 47 hY ?_;refine laN 10 (fun K hK=>?_);refine sk ?_;refine hK.out _ _ ?_;clear hK K;refine qav (by kernel_rfl) ?_
   go_wp2_with fail
   refine J9.out _ _ ?_;clear J9;have ew:wrap64 ((j:Int)+1)=((j+1:Nat):Int):=by have:=HQ.out;have:=HLT.out;unfold wrap64;omega
   go_wp2;exact⟨⟨j+1,by have:=HLT.out;omega,by first|rfl|(simp[ew];done)|(rw[ew];done),⟨HF.out⟩⟩,by have:=HLT.out;(try rw[ew]);simp[intOf];omega⟩
  ·obtain rfl:j=q.ns:=by omega
   have HI1:=am (HI.out.mono (show m+q.ns≤m+8 by have:=HQ.out;omega));have HS1:=HS;clear HI HS;obtain⟨O2,vt2,hpi2,-⟩:=HP.out.far HS1.out (by decide);obtain⟨Ag,cg,eg,-⟩:=hpi2.rows.got.slice;have HC:=am (qfr hpi2);rw[eg] at HC;have HEG:=am eg;have HNG:=am hpi2.rows.got.long;clear hpi2 eg;have b1:decide ((q.ns:Int)<(q.ns:Int))=false:=decide_eq_false (by omega)
   go_wp2_with fail
   refine HC.out.mono ?_;rintro e w2 ⟨rfl,rfl⟩;clear HC b1
   go_wp2_with fail
   go_loopw [52] (fun v52 wr=>∃j:Nat,j≤q.ng∧v52=.int .i64 j∧qac (∃lab' V',Stps lab w (fun k=>k=9∨16≤k) lab' wr∧TrIs wr lab' t V' (m+8))) (fun v52 _=>q.ng-(intOf v52).toNat)
   case atStart=>exact⟨0,Nat.zero_le _,rfl,⟨lab2,V2,HS1.out,HI1.out⟩⟩
   case round =>
    obtain⟨j,hj,rfl,⟨lab3,V3,hs3,hi3⟩⟩:=hrel;clear HI1 HS1;have HS:=am hs3;have HI:=am hi3;clear hs3 hi3;by_cases hlt:j<q.ng
    ·have HLT:=am hlt;obtain⟨O3,vt3,hpi3,-⟩:=HP.out.far HS.out (by decide);obtain⟨gs,eg,cs2,-,⟨As2,n2,c2,l2,k2,e2,ecs,ho2,hk2⟩,hcell⟩:=hpi3.rows.got.cell HEG.out j hlt;subst ecs;obtain⟨u0,e0,d0⟩:=hcell 0 (by decide);obtain⟨u1,e1,d1⟩:=hcell 1 (by decide);obtain⟨u2,e2',d2⟩:=hcell 2 (by decide);simp at e0 e1 e2';subst e0 e1 e2';subst eg;have d0:wr.cell? ⟨gs,j*3,none⟩=_:=d0;have d1:wr.cell? ⟨gs,j*3+1,none⟩=_:=d1;have d2:wr.cell? ⟨gs,j*3+2,none⟩=_:=d2;have HO:=am ho2;have HK2:=am hk2;clear hpi3 hcell ho2 hk2;have b1:decide ((j:Int)<(q.ng:Int))=true:=decide_eq_true (by omega);have p1:=eq_true (show 0≤(j:Int) by omega);have p2:=eq_true (show (j:Int)<(q.ng:Int) by omega);clear hlt;refine sq fun K2 J2=>?_
     go_wp2_with fail
     refine J2.out _ _ ?_;clear J2;refine sq fun K3 J3=>?_
     go_wp2_with fail
     refine J3.out _ _ ?_;clear J3;refine sq fun K9 J9=>?_;refine wp_block ?_;refine sq fun K4 J4=>?_
     go_wp2_with fail
     refine J4.out _ _ ?_;clear J4;have hbw:Below wr.heap.size wr (wr.alloc (.cells #[.int .u8 k2,.slice As2 n2 c2,.int .i64 e2] 139)):=qaa (Below.refl _ _) _;have hst:Stps lab3 wr (·=16) (qaj lab3 wr 16) (wr.alloc (.cells #[.int .u8 k2,.slice As2 n2 c2,.int .i64 e2] 139)):=Stps.below hbw rfl;have HS2:=am (HS.out.trans (hst.mono (P':=fun k=>k=9∨16≤k) (fun i e=>by omega)));have HI2:=am (HI.out.far hst (fun i e=>by omega));have hb:Blk (wr.alloc (.cells #[.int .u8 k2,.slice As2 n2 c2,.int .i64 e2] 139)) wr.heap.size 139 [.int .u8 k2,.slice As2 n2 c2,.int .i64 e2]:=heap_alloc_new wr _;have HO2:=am (HO.out.below hbw);obtain⟨B,eB⟩:∃B,wr.heap.size=B:=⟨_,rfl⟩;rw[eB] at hb ⊢;have b0:=hb.c 0 rfl;have b1':=hb.c 1 rfl;have b2:=hb.c 2 rfl;obtain⟨lab4,el4⟩:∃l,qaj lab3 wr 16=l:=⟨_,rfl⟩;rw[el4] at HS2 HI2;clear hbw hst eB el4 HS HI HO hb d0 d1 d2 b1 p1 p2;generalize (wr.alloc (.cells #[.int .u8 k2,.slice As2 n2 c2,.int .i64 e2] 139))=w3 at *
     go_wp2_with fail
     refine(qig HI2.out k2 e2 HK2.out HO2.out).mono ?_;rintro e w5 ⟨rfl,lab5,V5,h5,h6⟩;have HF:qac (∃lab' V',Stps lab w (fun k=>k=9∨16≤k) lab' w5∧TrIs w5 lab' t V' (m+8)):=⟨_,V5,HS2.out.trans h5,h6⟩;clear h5 h6
     go_wp2_with fail
     refine J9.out _ _ ?_;clear J9;have ew:wrap64 ((j:Int)+1)=((j+1:Nat):Int):=by have:=HNG.out;have:=HLT.out;unfold wrap64;omega
     go_wp2;exact⟨⟨j+1,by have:=HLT.out;omega,by first|rfl|(simp[ew];done)|(rw[ew];done),⟨HF.out⟩⟩,by have:=HLT.out;(try rw[ew]);simp[intOf];omega⟩
    ·obtain rfl:j=q.ng:=by omega
     have b1:decide ((q.ng:Int)<(q.ng:Int))=false:=decide_eq_false (by omega);go_wp2
     first|go_end0|refine bodyPost_ret (v:=.tuple #[]) (by simp[results,Tryz.results155,go_sem]) rfl ?_
     exact⟨rfl,lab3,V3,HS.out,HI.out⟩
end Go.Proofs.YtjbijdmcceloaaaGreat.Top
namespace Sig
def qbi (e:Ear):List Bool→Ear×List (Option (List Nat))
 |[]=>(e,[])
 |b::t=>((qbi (e.bit b).1 t).1,(e.bit b).2.toList++(qbi (e.bit b).1 t).2)
theorem qa4 (a b:List Bool):∀e,qbi e (a++b)=((qbi (qbi e a).1 b).1,(qbi e a).2++(qbi (qbi e a).1 b).2):=by
 induction a with
 |nil=>intro e;rfl
 |cons x a ih=>intro e;simp only[List.cons_append,qbi,ih,List.append_assoc]
def hears (x:Link) (h:Option (List Nat)):Link:=match h with
 |none=>x.count true
 |some q=>if (decode q).2≠0 then x.count true else x.hear (decode q).1
theorem qnu (p:Post) (h:Option (List Nat)):p.hear h={ p with x:=hears p.x h }:=by
 unfold Post.hear hears;cases h with
 |none=>rfl
 |some q=>simp only;split <;> rfl
theorem qfe (l:List Bool):∀p:Post,l.foldl Post.inBit p={ p with ear:=(qbi p.ear l).1,x:=(qbi p.ear l).2.foldl hears p.x }:=by
 induction l with
 |nil=>intro p;rfl
 |cons b l ih =>
  intro p;rw[List.foldl_cons,ih];unfold Post.inBit;simp only[qbi];cases h:(p.ear.bit b).2 with
  |none=>simp only[Option.toList,List.nil_append]
  |some r=>simp only[qnu,Option.toList,List.cons_append,List.nil_append,List.foldl_cons]
def uF (u:Unit):List Bool:=frame u.encode.1
inductive Fetch:Link→List Unit→Link→Prop
 |nil (x:Link):Fetch x [] x
 |cons (x:Link) (us:List Unit) (y:Link) (h:Fetch x.next.1 us y):Fetch x (x.next.2::us) y
theorem qeb (P:Link→Prop) (L:Nat) (hP:∀x,P x→P x.next.1∧uF x.next.2≠[]∧(uF x.next.2).length≤L):∀(n:Nat) (p:Post),P p.x→p.out.length≤L →
  ∃us,Fetch p.x us (Post.outBits n p).1.x∧(Post.outBits n p).2++(Post.outBits n p).1.out=p.out++us.flatMap uF∧(Post.outBits n p).2.length=n∧(Post.outBits n p).1.ear=p.ear∧(Post.outBits n p).1.out.length≤L∧P (Post.outBits n p).1.x:=by
 intro n
 induction n with
 |zero=>intro p h hl;exact⟨[],Fetch.nil _,by simp[Post.outBits],rfl,rfl,hl,h⟩
 |succ n ih =>
  intro p h hl;obtain⟨x,ear,out⟩:=p;simp only[Post.outBits];cases out with
  |cons b t =>
   have e:(Post.outBit ⟨x,ear,b::t⟩)=(⟨x,ear,t⟩,b):=rfl;rw[e];obtain⟨us,h1,h2,h3,h4,h5,h6⟩:=ih ⟨x,ear,t⟩ h (by simp only[List.length_cons] at hl ⊢;omega);exact⟨us,h1,by simp only[List.cons_append,h2],by simp only[List.length_cons,h3],h4,h5,h6⟩
  |nil =>
   obtain⟨p1,p2,p3⟩:=hP x h;cases hf:uF x.next.2 with
   |nil=>exact absurd hf p2
   |cons b t =>
    have e:(Post.outBit ⟨x,ear,[]⟩)=(⟨x.next.1,ear,t⟩,b):=by
     unfold uF at hf;simp only[Post.outBit,hf]
    rw[e];rw[hf] at p3;obtain⟨us,h1,h2,h3,h4,h5,h6⟩:=ih ⟨x.next.1,ear,t⟩ p1 (by simp only[List.length_cons] at p3 ⊢;omega);exact⟨x.next.2::us,Fetch.cons _ _ _ h1,by simp only[List.cons_append,h2,List.nil_append,List.flatMap_cons,hf],by simp only[List.length_cons,h3],h4,h5,h6⟩
theorem qe9 (a:List Bool):∀w:Wire,w.mask=[]→w.ones=0→(w.passes a).1.mask=[]∧(w.passes a).1.ones=0∧(w.passes a).2++(w.passes a).1.l=w.l++a∧(w.passes a).2.length=a.length:=by
 induction a with
 |nil=>intro w h1 h2;exact⟨h1,h2,by simp[Wire.passes],rfl⟩
 |cons b a ih =>
  intro w h1 h2;obtain⟨l,mask,ones⟩:=w;simp only at h1 h2;subst h1 h2;simp only[Wire.passes];cases l with
  |nil =>
   have e:Wire.pass ⟨[],[],0⟩ b=(⟨[],[],0⟩,b):=rfl;rw[e];obtain⟨i1,i2,i3,i4⟩:=ih ⟨[],[],0⟩ rfl rfl;exact⟨i1,i2,by simp only[List.cons_append,i3,List.nil_append],by simp only[List.length_cons,i4]⟩
  |cons c l =>
   have e:Wire.pass ⟨c::l,[],0⟩ b=(⟨l++[b],[],0⟩,c):=rfl;rw[e];obtain⟨i1,i2,i3,i4⟩:=ih ⟨l++[b],[],0⟩ rfl rfl;exact⟨i1,i2,by simp only[List.cons_append,i3,List.append_assoc,List.nil_append],by simp only[List.length_cons,i4]⟩
theorem run_noughts (k:Nat):∀n,n<128→∃m c,m<128∧qbi ⟨[],0,0,false,n⟩ (List.replicate k false)=(⟨[],0,0,false,m⟩,List.replicate c none):=by
 induction k with
 |zero=>intro n h;exact⟨n,0,h,rfl⟩
 |succ k ih =>
  intro n h;by_cases h1:n+1=128
  ·obtain⟨m,c,h2,h3⟩:=ih 0 (by decide);refine⟨m,c+1,h2,?_⟩;have e:(Ear.bit ⟨[],0,0,false,n⟩ false)=(⟨[],0,0,false,0⟩,some none):=by
    simp only[Ear.bit,Bool.false_eq_true,if_false,h1,if_true];rfl
   simp only[List.replicate_succ,qbi,e,h3];rfl
  ·obtain⟨m,c,h2,h3⟩:=ih (n+1) (by omega);refine⟨m,c,h2,?_⟩;have e:(Ear.bit ⟨[],0,0,false,n⟩ false)=(⟨[],0,0,false,n+1⟩,none):=by
    simp only[Ear.bit,Bool.false_eq_true,if_false,h1];rfl
   simp only[List.replicate_succ,qbi,e,h3];rfl
def qb8:Ear:=⟨[],0,0,true,0⟩
theorem qo4 (m:Nat) (hm:m<128):∃c,qbi ⟨[],0,0,false,m⟩ flagBits=(qb8,List.replicate c none):=by
 have key:∀m:Fin 128,(qbi ⟨[],0,0,false,m.val⟩ flagBits).1=qb8∧(qbi ⟨[],0,0,false,m.val⟩ flagBits).2=List.replicate (qbi ⟨[],0,0,false,m.val⟩ flagBits).2.length none:=by decide +kernel
 exact⟨_,Prod.ext (key ⟨m,hm⟩).1 (key ⟨m,hm⟩).2⟩
theorem qo6 (k:Nat):∃c,qbi ⟨[],0,0,false,0⟩ (List.replicate k false++flagBits)=(qb8,List.replicate c none):=by
 obtain⟨m,c,h1,h2⟩:=run_noughts k 0 (by decide);obtain⟨c',h3⟩:=qo4 m h1;exact⟨c+c',by rw[qa4,h2,h3,List.replicate_append_replicate]⟩
def sOf:Nat→Nat
 |0=>0
 |1=>1
 |2=>1
 |3=>1
 |4=>2
 |_=>4
def aOf:Nat→Nat
 |1=>1
 |2=>2
 |3=>3
 |_=>0
def cOf (h:Bool) (v:Nat):Nat→qmd
 |1=>[0,0,v,0,0,0,0,0]
 |2=>[0,0,0,v,0,0,0,0]
 |3=>if h then [v,0,0,0,0,0,0,0] else [0,0,0,0,v,0,0,0]
 |4=>[0,v,0,0,0,0,0,0]
 |_=>cZero
structure PhS where
 ph:Nat
 th:Bool
 v:Nat
def lk (cyc own:Bool) (S:PhS) (p:Proof) (told:List Told) (fails:Nat):Link :=
 ⟨usualT,sOf S.ph,cOf (own||S.th) S.v S.ph,⟨aOf S.ph,own,S.th,p⟩,⟨false,false,false⟩,qsm cyc,⟨false,false,false⟩,⟨0,0⟩,told,fails⟩
def IsPh (cyc own:Bool) (S:PhS) (x:Link):Prop:=∃p told fails,p.n=0∧msgs told=[]∧x=lk cyc own S p told fails
def ev (oj:Bool):Nat→Option (List Nat)
 |0=>none
 |1=>some [255,255,1,3]
 |2=>some [255,255,1,0]
 |3=>some [255,255,1,if oj then 2 else 1]
 |_=>some [255,255,0]
def qf6 (oj:Bool):Nat→Unit
 |1=>⟨127,127,true,true,1,3,false,[]⟩
 |2=>⟨127,127,true,true,1,0,false,[]⟩
 |3=>⟨127,127,true,true,1,if oj then 2 else 1,false,[]⟩
 |_=>⟨127,127,true,true,0,0,false,[]⟩
def lb:Nat→Nat
 |0=>0
 |1=>0
 |2=>2
 |3=>3
 |4=>3
 |_=>4
def sr:Nat→Nat
 |0=>1
 |1=>2
 |2=>3
 |3=>3
 |_=>4
def qbk (own oj:Bool) (S:PhS) (k:Nat):PhS :=
 if S.ph=1∧k=2 then ⟨2,S.th,4000⟩
 else if S.ph=1∧k=3 then ⟨2,S.th||oj,4000⟩
 else if S.ph=2∧k=3 then ⟨3,S.th||oj,if own||(S.th||oj) then 600 else 1200⟩
 else if S.ph=4∧k=4 then ⟨5,S.th,0⟩
 else S
def qbz (S:PhS):PhS :=
 if S.ph=3∧S.v=1 then ⟨4,false,12000⟩ else if S.ph=0∨S.ph=5 then S else ⟨S.ph,S.th,S.v-1⟩
theorem six {n:Nat} (h:n≤5):n=0∨n=1∨n=2∨n=3∨n=4∨n=5:=by omega
theorem qtp (cyc own:Bool) (S:PhS) (p:Proof) (told:List Told) (fails:Nat) (h:S.ph≤5) (hv:S.ph=0∨S.ph=5∨2≤S.v∨(S.ph=3∧S.v=1)) :
  (lk cyc own S p told fails).tick=lk cyc own (qbz S) p told fails:=by
 obtain⟨ph,th,v⟩:=S;simp only at h hv;rcases six h with rfl|rfl|rfl|rfl|rfl|rfl
 ·rfl
 ·obtain⟨w,rfl⟩:∃w,v=w+2:=⟨v-2,by omega⟩;rfl
 ·obtain⟨w,rfl⟩:∃w,v=w+2:=⟨v-2,by omega⟩;rfl
 ·by_cases h1:v=1
  ·subst h1;cases own <;> cases th <;> rfl
  ·obtain⟨w,rfl⟩:∃w,v=w+2:=⟨v-2,by omega⟩;have e:qbz ⟨3,th,w+2⟩=⟨3,th,w+1⟩:=by simp[qbz]
   rw[e];cases own <;> cases th <;> rfl
 ·obtain⟨w,rfl⟩:∃w,v=w+2:=⟨v-2,by omega⟩;rfl
 ·rfl
theorem qtq (cyc own:Bool) (S:PhS) (p:Proof) (told:List Told) (fails:Nat) (h:S.ph≤5) :
  (lk cyc own S p told fails).next=(lk cyc own S p told fails,qf6 own (sr S.ph)):=by
 obtain⟨ph,th,v⟩:=S;simp only at h;rcases six h with rfl|rfl|rfl|rfl|rfl|rfl <;> cases cyc <;> first|rfl|(cases own <;> rfl)
theorem qu1 {n k:Nat} (h:n≤k) (hk:k≤4):k=0∨k=1∨k=2∨k=3∨k=4:=by omega
theorem qtr (cyc own oj:Bool) (S:PhS) (p:Proof) (told:List Told) (fails:Nat) (hp:p.n=0) (hm:msgs told=[]) (h:S.ph≤5) (k:Nat) (hk:lb S.ph≤k) (hk4:k≤4) (h3:S.ph=3→S.th=oj) :
  IsPh cyc own (qbk own oj S k) (hears (lk cyc own S p told fails) (ev oj k)):=by
 obtain⟨ph,th,v⟩:=S;obtain⟨hu,pn,tr⟩:=p;simp only at h hk hp h3;subst hp;have hm':msgs (told++[⟨1,0,[]⟩])=[]:=by
  unfold msgs at hm ⊢;rw[List.filter_append,List.map_append,hm];rfl
 have key:∀{S':PhS} {y:Link} (p':Proof),p'.n=0→y=lk cyc own S' p' told fails→IsPh cyc own S' y:=fun p' e h=>⟨p',told,fails,e,hm,h⟩;rcases six h with rfl|rfl|rfl|rfl|rfl|rfl
 ·rcases qu1 hk hk4 with rfl|rfl|rfl|rfl|rfl <;> refine key ⟨hu,0,tr⟩ rfl ?_ <;> cases oj <;> rfl
 ·rcases qu1 hk hk4 with rfl|rfl|rfl|rfl|rfl <;> refine key ⟨hu,0,tr⟩ rfl ?_ <;> cases oj <;> cases own <;> cases th <;> rfl
 ·rcases qu1 hk hk4 with rfl|rfl|rfl|rfl|rfl
  ·exact absurd hk (by decide)
  ·exact absurd hk (by decide)
  ·refine key ⟨hu,0,tr⟩ rfl ?_;cases oj <;> cases own <;> cases th <;> rfl
  ·refine key ⟨own||(th||oj),0,0⟩ rfl ?_;cases oj <;> cases own <;> cases th <;> rfl
  ·refine key ⟨hu,0,tr⟩ rfl ?_;cases oj <;> cases own <;> cases th <;> rfl
 ·have h3:=h3 rfl;subst h3;rcases qu1 hk hk4 with rfl|rfl|rfl|rfl|rfl
  ·exact absurd hk (by decide)
  ·exact absurd hk (by decide)
  ·exact absurd hk (by decide)
  ·refine key ⟨hu,0,tr⟩ rfl ?_;cases hu <;> cases own <;> cases th <;> rfl
  ·refine key ⟨hu,0,tr⟩ rfl ?_;cases hu <;> cases own <;> cases th <;> rfl
 ·rcases qu1 hk hk4 with rfl|rfl|rfl|rfl|rfl
  ·exact absurd hk (by decide)
  ·exact absurd hk (by decide)
  ·exact absurd hk (by decide)
  ·refine key ⟨hu,0,tr⟩ rfl ?_;cases oj <;> rfl
  ·refine⟨⟨hu,0,tr⟩,told++[⟨1,0,[]⟩],fails,rfl,hm',?_⟩;cases cyc <;> cases oj <;> rfl
 ·rcases qu1 hk hk4 with rfl|rfl|rfl|rfl|rfl
  ·exact absurd hk (by decide)
  ·exact absurd hk (by decide)
  ·exact absurd hk (by decide)
  ·exact absurd hk (by decide)
  ·refine key ⟨hu,0,tr⟩ rfl ?_;cases cyc <;> cases oj <;> rfl
theorem qo2 (oj:Bool) (k:Nat) (h1:1≤k) (h4:k≤4):qbi qb8 (uF (qf6 oj k))=(qb8,[ev oj k])∧uF (qf6 oj k)≠[]∧(uF (qf6 oj k)).length≤65:=by
 have h:k=1∨k=2∨k=3∨k=4:=by omega
 rcases h with rfl|rfl|rfl|rfl <;> cases oj <;> decide +kernel
theorem qvn (cyc:Bool):newLink cyc usualT=lk cyc false ⟨0,false,0⟩ ⟨false,0,0⟩ [] 0:=rfl
theorem qru (cyc own:Bool) (v:Nat) (p:Proof):(lk cyc own ⟨0,false,v⟩ p [] 0).order 3 []=(lk cyc true ⟨0,false,v⟩ p [] 0,0):=rfl
theorem qmq (cyc own th:Bool) (v:Nat) (p:Proof) (told:List Told) (fails:Nat):(lk cyc own ⟨0,th,v⟩ p told fails).order 1 []=(lk cyc own ⟨1,false,8000⟩ ⟨false,0,0⟩ told fails,0):=by
 cases cyc <;> rfl
def chain (a:Nat):List Nat→Nat→Prop
 |[],b=>a≤b
 |k::E,b=>a≤k∧chain k E b
theorem chain.left {E:List Nat}:∀{a a' b:Nat},a'≤a→chain a E b→chain a' E b:=by
 cases E with
 |nil=>intro a a' b h1 h2;exact Nat.le_trans h1 h2
 |cons k E=>intro a a' b h1 h2;exact⟨Nat.le_trans h1 h2.1,h2.2⟩
theorem chain.right {E:List Nat}:∀{a b b':Nat},b≤b'→chain a E b→chain a E b':=by
 induction E with
 |nil=>intro a b b' h1 h2;exact Nat.le_trans h2 h1
 |cons k E ih=>intro a b b' h1 h2;exact⟨h2.1,ih h1 h2.2⟩
theorem chain.app {E:List Nat} (n:Nat):∀{a b:Nat},chain a E b→chain a (E++List.replicate n b) b:=by
 induction E with
 |nil =>
  intro a b h
  induction n generalizing a with
  |zero=>exact h
  |succ n ih=>exact⟨h,ih (Nat.le_refl b)⟩
 |cons k E ih=>intro a b h;exact⟨h.1,ih h.2⟩
theorem chain.le {E:List Nat}:∀{a b:Nat},chain a E b→a≤b:=by
 induction E with
 |nil=>intro a b h;exact h
 |cons k E ih=>intro a b h;exact Nat.le_trans h.1 (ih h.2)
theorem chain.mem {E:List Nat}:∀{a b:Nat},chain a E b→∀k∈E,a≤k∧k≤b:=by
 induction E with
 |nil=>intro a b _ k hk;simp at hk
 |cons c E ih =>
  intro a b h k hk;rcases List.mem_cons.1 hk with rfl|hk
  ·exact⟨h.1,h.2.le⟩
  ·have:=ih h.2 k hk;exact⟨Nat.le_trans h.1 this.1,this.2⟩
theorem qov (n:Nat):sr n≤4:=by unfold sr;split <;> decide
theorem qs7 (n:Nat):1≤sr n:=by unfold sr;split <;> decide
structure Th (oj:Bool) (S:PhS):Prop where
 le:S.ph≤5
 th:S.th=true→oj=true
 th3:S.ph=3→S.th=oj
theorem qmr (own oj:Bool) (S:PhS) (k:Nat) (h:Th oj S) (hk:lb S.ph≤k):Th oj (qbk own oj S k)∧lb (qbk own oj S k).ph≤k∧sr S.ph≤sr (qbk own oj S k).ph∧S.ph≤(qbk own oj S k).ph:=by
 obtain⟨ph,th,v⟩:=S;obtain⟨h1,h2,h3⟩:=h;simp only at h1 h2 h3 hk;have ho:(th||oj)=oj:=by cases th <;> cases oj <;> simp_all
 unfold qbk;simp only;split
 ·rename_i hc;obtain⟨rfl,rfl⟩:=hc;exact⟨⟨(by decide:2≤5),h2,fun e=>by simp at e⟩,(by decide:2≤2),(by decide:2≤3),(by decide:1≤2)⟩
 split
 ·rename_i hc;obtain⟨rfl,rfl⟩:=hc;exact⟨⟨(by decide:2≤5),fun e=>by rw[ho] at e;exact e,fun e=>by simp at e⟩,(by decide:2≤3),(by decide:2≤3),(by decide:1≤2)⟩
 split
 ·rename_i hc;obtain⟨rfl,rfl⟩:=hc;exact⟨⟨(by decide:3≤5),fun e=>by rw[ho] at e;exact e,fun _=>ho⟩,(by decide:3≤3),(by decide:3≤3),(by decide:2≤3)⟩
 split
 ·rename_i hc;obtain⟨rfl,rfl⟩:=hc;exact⟨⟨(by decide:5≤5),h2,fun e=>by simp at e⟩,(by decide:4≤4),(by decide:4≤4),(by decide:4≤5)⟩
 ·exact⟨⟨h1,h2,h3⟩,hk,Nat.le_refl _,Nat.le_refl _⟩
theorem quc (cyc own oj:Bool) (H:List Nat):∀(S:PhS) (x:Link) (E:List Nat) (b:Nat),b≤4→Th oj S→IsPh cyc own S x→chain (lb S.ph) (H++E) b →
  Th oj (H.foldl (qbk own oj) S)∧IsPh cyc own (H.foldl (qbk own oj) S) ((H.map (ev oj)).foldl hears x)∧chain (lb (H.foldl (qbk own oj) S).ph) E b∧sr S.ph≤sr (H.foldl (qbk own oj) S).ph∧S.ph≤(H.foldl (qbk own oj) S).ph:=by
 induction H with
 |nil=>intro S x E b _ h hi hc;exact⟨h,hi,hc,Nat.le_refl _,Nat.le_refl _⟩
 |cons k H ih =>
  intro S x E b hb h hi hc;obtain⟨h1,h2,h3,h4⟩:=qmr own oj S k h hc.1;obtain⟨p,told,fails,hp,hm,rfl⟩:=hi;have hx:=qtr cyc own oj S p told fails hp hm h.le k hc.1 (Nat.le_trans hc.2.le hb) h.th3;obtain⟨a,b,c,d,e⟩:=ih _ _ E b hb h1 hx (hc.2.left h2);exact⟨a,b,c,Nat.le_trans h3 d,Nat.le_trans h4 e⟩
def qwj (S:PhS):Prop:=S.ph=0∨S.ph=5∨2≤S.v∨(S.ph=3∧S.v=1)
theorem qcb (oj:Bool) (S:PhS) (h:Th oj S):Th oj (qbz S)∧lb (qbz S).ph=lb S.ph∧sr S.ph≤sr (qbz S).ph∧S.ph≤(qbz S).ph:=by
 obtain⟨ph,th,v⟩:=S;unfold qbz;simp only;split
 ·rename_i hc;obtain⟨rfl,rfl⟩:=hc;exact⟨⟨(by decide:4≤5),(fun e=>by simp at e),fun e=>by simp at e⟩,rfl,by decide,by decide⟩
 split
 ·exact⟨h,rfl,Nat.le_refl _,Nat.le_refl _⟩
 ·exact⟨⟨h.le,h.th,h.th3⟩,rfl,Nat.le_refl _,Nat.le_refl _⟩
structure Half (cyc o oj:Bool) (d:Nat) (p:Post) (n:List Bool) (w:Wire) (q:Post) (S Sj:PhS) (E:List Nat):Prop where
 ph:IsPh cyc o S p.x
 th:Th oj S
 n8:n.length=8
 dl:w.l.length=d
 mask:w.mask=[]
 ones:w.ones=0
 run:qbi p.ear (n++(w.l++q.out))=(qb8,E.map (ev oj))
 chn:chain (lb S.ph) E (sr Sj.ph)
 out:p.out.length≤65
structure Did (cyc o oj:Bool) (p p':Post) (n a rest:List Bool) (S S':PhS) (b:Nat) (E H E':List Nat) (k:Nat):Prop where
 evs:E=H++E'
 eqS:S'=H.foldl (qbk o oj) (qbz S)
 ph:IsPh cyc o S' p'.x
 th:Th oj S'
 chn:chain (lb S'.ph) E' b
 heard:(qbi p.ear n).2.length=H.length
 ear:p'.ear=(qbi p.ear n).1
 run:qbi p'.ear rest=(qb8,E'.map (ev oj))
 put:a++p'.out=p.out++(List.replicate k (qf6 o (sr S'.ph))).flatMap uF
 len:a.length=8
 out:p'.out.length≤65
 srs:sr S.ph≤sr S'.ph
 up:S.ph≤S'.ph
theorem qd2 {x:Link} {u:Unit} (h:x.next=(x,u)) {us:List Unit} {y:Link} (f:Fetch x us y):y=x∧us=List.replicate us.length u:=by
 induction f with
 |nil x=>exact⟨rfl,rfl⟩
 |cons x us y f ih =>
  have h1:x.next.1=x:=by rw[h]
  rw[h1] at ih f;obtain⟨a,b⟩:=ih h;exact⟨a,by rw[h,List.length_cons,List.replicate_succ,←b]⟩
theorem Half.did {cyc o oj:Bool} {d:Nat} {p:Post} {n:List Bool} {w:Wire} {q:Post} {S Sj:PhS} {E:List Nat} (h:Half cyc o oj d p n w q S Sj E) (hr:qwj S) :
  ∃S' H E' k,Did cyc o oj p (p.tick n).1 n (p.tick n).2 (w.l++q.out) S S' (sr Sj.ph) E H E' k:=by
 obtain⟨pr,told,fails,hp,hm,hx⟩:=h.ph;have hrun:=h.run;rw[qa4] at hrun;obtain⟨H,E',e1,e2,e3⟩:=List.map_eq_append_iff.1 (congrArg Prod.snd hrun).symm;obtain⟨t1,t2,t3,t4⟩:=qcb oj S h.th;have hc:=h.chn;rw[e1,←t2] at hc;have hi:IsPh cyc o (qbz S) p.x.tick:=⟨pr,told,fails,hp,hm,by rw[hx];exact qtp cyc o S pr told fails h.th.le hr⟩;obtain⟨f1,f2,f3,f4,f5⟩:=quc cyc o oj H (qbz S) p.x.tick E' _ (qov _) t1 hi hc;obtain⟨pr',qcs,fails',hp',hm',hx'⟩:=f2;have hn:=qtq cyc o (H.foldl (qbk o oj) (qbz S)) pr' qcs fails' f1.le;rw[←hx'] at hn;have e0:p.tick n=Post.outBits 8 { { p with x:=p.x.tick } with ear:=(qbi p.ear n).1,x:=(qbi p.ear n).2.foldl hears p.x.tick }:=by
  unfold Post.tick;rw[qfe]
 rw[e2.symm] at e0;obtain⟨us,g1,g2,g3,g4,g5,g6⟩:=qeb (fun y=>y=(H.map (ev oj)).foldl hears p.x.tick) 65 (fun y hy=>by
   subst hy;rw[hn];have:=qo2 o _ (qs7 (H.foldl (qbk o oj) (qbz S)).ph) (qov _);exact⟨rfl,this.2.1,this.2.2⟩) 8 { { p with x:=p.x.tick } with ear:=(qbi p.ear n).1,x:=(H.map (ev oj)).foldl hears p.x.tick } rfl h.out
 obtain⟨g7,g8⟩:=qd2 hn g1;rw[←e0] at g1 g2 g3 g4 g5 g6;refine⟨_,H,E',us.length,e1,rfl,?_,f1,f3,by rw[←e2,List.length_map],g4,?_,?_,g3,g5,Nat.le_trans t3 f4,Nat.le_trans t4 f5⟩
 ·rw[g6,hx'];exact⟨pr',qcs,fails',hp',hm',rfl⟩
 ·rw[g4];show qbi (qbi p.ear n).1 _=_;exact Prod.ext (show (qbi (qbi p.ear n).1 (w.l++q.out)).1=qb8 from congrArg Prod.fst hrun) e3.symm
 ·rw[g2,←g8]
def qu2 (r m:Nat) (e:Ear) (fl:List Bool) (E:List Nat) (b:Nat):Prop :=
 (∃i k,E[i]?=some k∧r≤k∧i<(qbi e (fl.take (8*m))).2.length)∨(r≤b∧fl.length+65≤8*m)
theorem qfz (e:Ear) (fl g:List Bool) (n:Nat):(qbi e (fl.take n)).2.length≤(qbi e ((fl++g).take n)).2.length:=by
 rw[List.take_append,qa4];simp only[List.length_append];omega
theorem qo1 (oj:Bool) (c:Nat) (h1:1≤c) (h4:c≤4) (k:Nat):qbi qb8 ((List.replicate k (qf6 oj c)).flatMap uF)=(qb8,(List.replicate k c).map (ev oj)):=by
 induction k with
 |zero=>rfl
 |succ k ih =>
  rw[List.replicate_succ,List.flatMap_cons,qa4,(qo2 oj c h1 h4).1,ih];rfl
theorem IsPh.told {cyc o:Bool} {S:PhS} {x:Link} (h:IsPh cyc o S x):IsPh cyc o S { x with told:=[] }:=by
 obtain⟨p,told,fails,hp,hm,rfl⟩:=h;exact⟨p,[],fails,hp,rfl,rfl⟩
theorem Did.half {cyc o oj:Bool} {d:Nat} {p p' q q':Post} {n a nq c:List Bool} {w:Wire} {S S' T T':PhS} {E H E' F G F':List Nat} {k l:Nat} {r':List Bool} (h:Half cyc o oj d p n w q S T E)
  (u:Did cyc o oj p p' n a (w.l++q.out) S S' (sr T.ph) E H E' k) (v:Did cyc oj o q q' nq c r' T T' (sr S.ph) F G F' l) :
  Half cyc o oj d { p' with x:={ p'.x with told:=[] } } (w.passes c).2 (w.passes c).1 { q' with x:={ q'.x with told:=[] } } S' T' (E'++List.replicate l (sr T'.ph)) ∧
  (∀k∈H,k≤sr T.ph) ∧
  (∀r m,qu2 r (m+1) p.ear (n++(w.l++q.out)) E (sr T.ph)→(∃k∈H,r≤k)∨qu2 r m p'.ear ((w.passes c).2++((w.passes c).1.l++q'.out)) (E'++List.replicate l (sr T'.ph)) (sr T'.ph)):=by
 obtain⟨i1,i2,i3,i4⟩:=qe9 c w h.mask h.ones;have hl:=congrArg List.length i3;simp only[List.length_append] at hl;have efl:(w.passes c).2++((w.passes c).1.l++q'.out)=(w.l++q.out)++(List.replicate l (qf6 oj (sr T'.ph))).flatMap uF:=by
  rw[←List.append_assoc,i3,List.append_assoc,v.put,List.append_assoc]
 have hfr:=qo1 oj (sr T'.ph) (qs7 _) (qov _) l;refine⟨⟨u.ph.told,u.th,i4.trans v.len,by have:=h.dl;omega,i1,i2,?_,(u.chn.right v.srs).app l,u.out⟩,?_,?_⟩
 ·show qbi p'.ear ((w.passes c).2++((w.passes c).1.l++q'.out))=_;rw[efl,qa4,u.run,hfr,List.map_append]
 ·intro k hk;exact(h.chn.mem k (by rw[u.evs];exact List.mem_append_left _ hk)).2
 ·intro r m hs;rw[efl];have etk:∀m,(n++(w.l++q.out)).take (8*(m+1))=n++(w.l++q.out).take (8*m):=fun m=>by
   rw[List.take_append,h.n8,List.take_of_length_le (by rw[h.n8];omega),show 8*(m+1)-8=8*m by omega]
  rcases hs with ⟨i,x,s1,s2,s3⟩|⟨s1,s2⟩
  ·rw[etk,qa4] at s3;simp only[List.length_append] at s3;rw[u.heard,←u.ear] at s3;by_cases hi:i<H.length
   ·rw[u.evs,List.getElem?_append_left hi] at s1;exact Or.inl ⟨x,List.mem_of_getElem? s1,s2⟩
   ·rw[u.evs,List.getElem?_append_right (by omega)] at s1;refine Or.inr (Or.inl ⟨i-H.length,x,?_,s2,?_⟩)
    ·have hlt:i-H.length<E'.length:=(List.getElem?_eq_some_iff.1 s1).1;rw[List.getElem?_append_left hlt];exact s1
    ·exact Nat.lt_of_lt_of_le (by omega) (qfz _ _ _ _)
  ·right;have hn8:=h.n8;cases l with
   |zero =>
    refine Or.inr ⟨Nat.le_trans s1 v.srs,?_⟩;simp only[List.length_append,List.replicate_zero,List.flatMap_nil,List.length_nil] at s2 ⊢;omega
   |succ l =>
    have hf:=qo2 oj _ (qs7 T'.ph) (qov _);refine Or.inl ⟨E'.length,sr T'.ph,?_,Nat.le_trans s1 v.srs,?_⟩
    ·rw[List.getElem?_append_right (Nat.le_refl _),Nat.sub_self,List.replicate_succ];rfl
    ·rw[List.replicate_succ,List.flatMap_cons,←List.append_assoc];refine Nat.lt_of_lt_of_le ?_ (qfz _ _ _ _);rw[List.take_of_length_le (by
      have:=hf.2.2;simp only[List.length_append] at s2 ⊢;omega),qa4,u.run,hf.1]
     simp
structure Two (cyc o0 o1:Bool) (d:Nat) (x:Pair) (S0 S1:PhS) (E0 E1:List Nat):Prop where
 h0:Half cyc o0 o1 d x.p0 x.n0 x.w1 x.p1 S0 S1 E0
 h1:Half cyc o1 o0 d x.p1 x.n1 x.w0 x.p0 S1 S0 E1
def qsb (r m:Nat) (x:Pair) (S1:PhS) (E0:List Nat):Prop:=qu2 r m x.p0.ear (x.n0++(x.w1.l++x.p1.out)) E0 (sr S1.ph)
def qsa (r m:Nat) (x:Pair) (S0:PhS) (E1:List Nat):Prop:=qu2 r m x.p1.ear (x.n1++(x.w0.l++x.p0.out)) E1 (sr S0.ph)
theorem IsPh.msgs {cyc o:Bool} {S:PhS} {x:Link} (h:IsPh cyc o S x):Sig.msgs x.told=[]:=by
 obtain⟨p,told,fails,hp,hm,rfl⟩:=h;exact hm
def Pair.of (x:Pair) (a b:Post×List Bool):Pair :=
 ⟨{ a.1 with x:={ a.1.x with told:=[] } },{ b.1 with x:={ b.1.x with told:=[] } },(x.w0.passes a.2).1,(x.w1.passes b.2).1,(x.w1.passes b.2).2,(x.w0.passes a.2).2,x.out0++msgs a.1.x.told,x.out1++msgs b.1.x.told⟩
theorem tick_of (x:Pair):x.tick=x.of (x.p0.tick x.n0) (x.p1.tick x.n1):=by
 unfold Pair.tick;generalize x.p0.tick x.n0=a;generalize x.p1.tick x.n1=b;rfl
structure Ticked (cyc o0 o1:Bool) (d:Nat) (x:Pair) (S0 S1:PhS) (E0 E1:List Nat) (y:Pair) (H0 H1:List Nat) (T0 T1:PhS) (F0 F1:List Nat):Prop where
 eq0:T0=H0.foldl (qbk o0 o1) (qbz S0)
 eq1:T1=H1.foldl (qbk o1 o0) (qbz S1)
 two:Two cyc o0 o1 d y T0 T1 F0 F1
 le0:∀k∈H0,k≤sr S1.ph
 le1:∀k∈H1,k≤sr S0.ph
 ch:(∃F,chain (lb (qbz S0).ph) (H0++F) (sr S1.ph))∧∃F,chain (lb (qbz S1).ph) (H1++F) (sr S0.ph)
 soon0:∀r m,qsb r (m+1) x S1 E0→(∃k∈H0,r≤k)∨qsb r m y T1 F0
 soon1:∀r m,qsa r (m+1) x S0 E1→(∃k∈H1,r≤k)∨qsa r m y T0 F1
 out0:y.out0=x.out0
 out1:y.out1=x.out1
theorem Two.tick {cyc o0 o1:Bool} {d:Nat} {x:Pair} {S0 S1:PhS} {E0 E1:List Nat} (h:Two cyc o0 o1 d x S0 S1 E0 E1) (r0:qwj S0) (r1:qwj S1) :
  ∃H0 H1 T0 T1 F0 F1,Ticked cyc o0 o1 d x S0 S1 E0 E1 x.tick H0 H1 T0 T1 F0 F1:=by
 obtain⟨S0',H0,E0',k0,D0⟩:=h.h0.did r0;obtain⟨S1',H1,E1',k1,D1⟩:=h.h1.did r1;obtain⟨a1,a2,a3⟩:=Did.half h.h0 D0 D1;obtain⟨b1,b2,b3⟩:=Did.half h.h1 D1 D0;have m0:=D0.ph.msgs;have m1:=D1.ph.msgs;rw[tick_of];generalize x.p0.tick x.n0=a at *;generalize x.p1.tick x.n1=b at *;exact⟨H0,H1,S0',S1',_,_,⟨D0.eqS,D1.eqS,⟨a1,b1⟩,a2,b2,⟨⟨E0',by rw[←D0.evs,(qcb o1 S0 h.h0.th).2.1];exact h.h0.chn⟩,E1',by rw[←D1.evs,(qcb o0 S1 h.h1.th).2.1];exact h.h1.chn⟩,a3,b3,by show x.out0++_=_;rw[m0,List.append_nil],by show x.out1++_=_;rw[m1,List.append_nil]⟩⟩
def HB (h:Hold):Prop:=h.most=16∧h.octets=600∧h.sent.length+h.next.length≤16∧size h.sent+size h.next≤600
def WB (cyc:Bool):Way→Prop
 |.basic b=>cyc=false∧HB b.h
 |.cyclic c=>cyc=true∧HB c.h∧c.n1=8∧c.n2=300∧c.h.sent.length≤8∧(1<c.h.sent.length→size c.h.sent≤300)
theorem qik (a b:List (List Nat)):size (a++b)=size a+size b:=by simp[size]
theorem qox (a:List (List Nat)):∀n,size (a.drop n)≤size a:=by
 induction a with
 |nil=>intro n;simp[size]
 |cons p a ih =>
  intro n;cases n with
  |zero=>exact Nat.le_refl _
  |succ n=>exact Nat.le_trans (ih n) (by simp[size])
theorem HB.free {h:Hold} (k:HB h) (n:Nat):HB (h.free n).1∧(h.free n).1.sent.length≤h.sent.length∧size (h.free n).1.sent≤size h.sent:=by
 obtain⟨a,b,c,d⟩:=k;have h1:=qox h.sent (rGap (rPrev h.first) n);have h2:(h.sent.drop (rGap (rPrev h.first) n)).length≤h.sent.length:=by rw[List.length_drop];omega
 exact⟨⟨a,b,by show (h.sent.drop _).length+h.next.length≤16;omega,by show size (h.sent.drop _)+size h.next≤600;omega⟩,h2,h1⟩
theorem HB.send {h:Hold} (k:HB h):HB h.send.1:=by
 unfold Hold.send;split
 ·exact k
 ·rename_i p r hn;obtain⟨a,b,c,d⟩:=k;rw[hn] at c d;split
  ·exact⟨a,b,by rw[hn];exact c,by rw[hn];exact d⟩
  ·refine⟨a,b,?_,?_⟩
   ·show (h.sent++[p]).length+r.length≤16;simp only[List.length_append,List.length_cons,List.length_nil] at c ⊢;omega
   ·show size (h.sent++[p])+size r≤600;rw[qik];simp only[size,List.map_cons,List.sum_cons,List.map_nil,List.sum_nil] at d ⊢;omega
theorem HB.clear {h:Hold} (k:HB h):HB h.clear:=⟨k.1,k.2.1,by simp[Hold.clear],by simp[Hold.clear,size]⟩
theorem HB.put {h:Hold} (k:HB h) (p:List Nat):HB (h.put p).1∧(h.put p).1.sent=h.sent:=by
 obtain⟨a,b,c,d⟩:=k;unfold Hold.put;split
 ·exact⟨⟨a,b,c,d⟩,rfl⟩
 split
 ·exact⟨⟨a,b,c,d⟩,rfl⟩
 split
 ·exact⟨⟨a,b,c,d⟩,rfl⟩
 ·rename_i hc;refine⟨⟨a,b,?_,?_⟩,rfl⟩
  ·show h.sent.length+(h.next++[p]).length≤16;simp only[List.length_append,List.length_cons,List.length_nil];omega
  ·show size h.sent+size (h.next++[p])≤600;rw[qik];simp only[size,List.map_cons,List.sum_cons,List.map_nil,List.sum_nil] at hc ⊢;omega
theorem WB.reset {cyc:Bool} {w:Way} (h:WB cyc w):WB cyc w.reset:=by
 cases w with
 |basic b=>exact⟨h.1,h.2.clear⟩
 |cyclic c=>exact⟨h.1,h.2.1.clear,h.2.2.1,h.2.2.2.1,by simp[Cyclic.reset,Hold.clear],by simp[Cyclic.reset,Hold.clear]⟩
theorem qql (b:Basic):b.new.1.h=b.h∨b.new.1.h=b.h.send.1:=by
 unfold Basic.new;split
 ·rename_i h n p e;exact Or.inr (by rw[e])
 ·exact Or.inl rfl
theorem HB.of_new {b:Basic} (h:HB b.h):HB b.new.1.h:=by
 rcases qql b with e|e
 ·rw[e];exact h
 ·rw[e];exact h.send
theorem WB.next {cyc:Bool} {w:Way} (h:WB cyc w):WB cyc w.next.1:=by
 cases w with
 |basic b =>
  refine⟨h.1,?_⟩;show HB b.next.1.h;unfold Basic.next;split
  ·split
   ·exact h.2
   ·exact HB.of_new (b:={ b with again:=none }) h.2
  ·exact HB.of_new h.2
 |cyclic c =>
  obtain⟨h0,h1,h2,h3,h4,h5⟩:=h;have key:∀d:Cyclic,d.h=c.h→d.n1=c.n1→d.n2=c.n2→WB cyc (.cyclic d):=fun d e1 e2 e3=>⟨h0,by rw[e1];exact h1,by rw[e2];exact h2,by rw[e3];exact h3,by rw[e1];exact h4,by rw[e1];exact h5⟩;have old:∀d:Cyclic,d.h=c.h→d.n1=c.n1→d.n2=c.n2→WB cyc (.cyclic d.old.1):=fun d e1 e2 e3=>by
   unfold Cyclic.old;simp only;split
   ·split
    ·exact key _ e1 e2 e3
    ·exact key _ e1 e2 e3
   ·split
    ·exact key _ e1 e2 e3
    ·exact key _ e1 e2 e3
  show WB cyc (.cyclic c.next.1);unfold Cyclic.next;by_cases hf:(Nat.blt 0 c.h.next.length&&!c.fits)=true
  ·rw[if_pos hf];simp only[Bool.not_true,Bool.false_eq_true,if_false];exact old _ rfl rfl rfl
  ·rw[if_neg hf];simp only;split
   ·split
    ·rename_i hh n p e;have hs:HB hh:=by have:=h1.send;rw[e] at this;exact this
     obtain⟨q,r,hn⟩:∃q r,c.h.next=q::r:=by
      cases hn:c.h.next with
      |nil=>unfold Hold.send at e;rw[hn] at e;exact absurd (congrArg Prod.snd e) (by simp)
      |cons q r=>exact⟨q,r,rfl⟩
     have e':hh={ c.h with sent:=c.h.sent++[q],next:=r }:=by
      unfold Hold.send at e;rw[hn] at e;simp only at e;split at e
      ·exact absurd (congrArg Prod.snd e) (by simp)
      ·exact(congrArg Prod.fst e).symm
     have hfit:c.fits=true:=by
      rw[hn] at hf;cases hc:c.fits
      ·rw[hc] at hf;exact absurd rfl hf
      ·rfl
     refine⟨h0,hs,h2,h3,?_,?_⟩
     ·show hh.sent.length≤8;rw[e'];show (c.h.sent++[q]).length≤8;unfold Cyclic.fits at hfit;rw[h2] at hfit;simp only[Bool.or_eq_true,Bool.and_eq_true,decide_eq_true_eq,Nat.blt_eq] at hfit;rw[List.length_append,List.length_singleton];omega
     ·show 1<hh.sent.length→size hh.sent≤300;rw[e'];show 1<(c.h.sent++[q]).length→size (c.h.sent++[q])≤300;unfold Cyclic.fits at hfit;rw[h2,h3,hn] at hfit;simp only[Bool.or_eq_true,Bool.and_eq_true,decide_eq_true_eq,Nat.blt_eq,Nat.ble_eq,List.headD_cons] at hfit;rw[List.length_append,List.length_singleton,qik];intro hl;rcases hfit with hfit|hfit
      ·omega
      ·have:=hfit.2;simp only[size,List.map_cons,List.sum_cons,List.map_nil,List.sum_nil] at this ⊢;omega
    ·exact old _ rfl rfl rfl
   ·exact old _ rfl rfl rfl
theorem WB.answer {cyc:Bool} {w:Way} (h:WB cyc w) (u:Unit):WB cyc (w.answer u).1:=by
 cases w with
 |basic b =>
  refine⟨h.1,?_⟩;show HB (b.answer u).1.h;unfold Basic.answer;simp only;split
  ·exact h.2
  split
  ·exact h.2
  split
  ·exact(h.2.free u.bsn).1
  ·exact(h.2.free u.bsn).1
 |cyclic c =>
  obtain⟨h0,h1,h2,h3,h4,h5⟩:=h;show WB cyc (.cyclic (c.answer u).1);unfold Cyclic.answer;simp only;split
  ·exact⟨h0,h1,h2,h3,h4,h5⟩
  split
  ·exact⟨h0,h1,h2,h3,h4,h5⟩
  ·obtain⟨a,b,d⟩:=h1.free u.bsn;exact⟨h0,a,h2,h3,Nat.le_trans b h4,fun e=>Nat.le_trans d (h5 (Nat.lt_of_lt_of_le e b))⟩
theorem WB.take {cyc:Bool} {w:Way} (h:WB cyc w) (u:Unit):WB cyc (w.take u).1:=by
 cases w with
 |basic b =>
  refine⟨h.1,?_⟩;show HB (b.take u).1.h;unfold Basic.take;simp only;split
  ·exact h.2
  split
  ·exact h.2
  split
  ·exact h.2
  ·exact h.2
 |cyclic c =>
  show WB cyc (.cyclic (c.take u).1);unfold Cyclic.take;split
  ·exact h
  ·exact h
theorem WB.hold {cyc:Bool} {w:Way} (h:WB cyc w) {y:Hold} (hy:HB y) (e:y.sent=w.hold.sent):WB cyc (w.setHold y):=by
 cases w with
 |basic b=>exact⟨h.1,hy⟩
 |cyclic c =>
  have e:y.sent=c.h.sent:=e;exact⟨h.1,hy,h.2.2.1,h.2.2.2.1,by show y.sent.length≤8;rw[e];exact h.2.2.2.2.1,by show 1<y.sent.length→size y.sent≤300;rw[e];exact h.2.2.2.2.2⟩
theorem WB.hb {cyc:Bool} {w:Way} (h:WB cyc w):HB w.hold:=by
 cases w with
 |basic b=>exact h.2
 |cyclic c=>exact h.2.1
structure LB (cyc:Bool) (x:Link):Prop where
 w:WB cyc x.w
 s:x.s≤5
 td:∀t∈x.told,t.p.length≤1000
theorem LB.to {cyc:Bool} {x y:Link} (h:LB cyc x) (hw:y.w=x.w) (hs:y.s=x.s∨y.s≤5) (ht:y.told=x.told:=by rfl):LB cyc y:=⟨by rw[hw];exact h.w,by rcases hs with e|e;rw[e];exact h.s;exact e,by rw[ht];exact h.td⟩
theorem LB.tell {cyc:Bool} {x:Link} (h:LB cyc x) (t:Told) (ht:t.p.length≤1000):LB cyc (x.tell t):=⟨h.w,h.s,fun u hu=>by
 rcases List.mem_append.1 hu with hu|hu
 ·exact h.td u hu
 ·rw[List.mem_singleton.1 hu];exact ht⟩
theorem LB.tell0 {cyc:Bool} {x:Link} (h:LB cyc x) (k y:Nat):LB cyc (x.tell ⟨k,y,[]⟩):=h.tell _ (by decide:([]:List Nat).length≤1000)
theorem LB.og {cyc:Bool} {x:Link} (h:LB cyc x) (o:Outage):LB cyc { x with o:=o }:=h.to rfl (Or.inl rfl)
theorem LB.st {cyc:Bool} {x:Link} (h:LB cyc x) (n:Nat) (hn:n≤5):LB cyc { x with s:=n }:=h.to rfl (Or.inr hn)
theorem LB.stop {cyc:Bool} {x:Link} (h:LB cyc x) (l:List Nat):LB cyc (x.stop l):=h.to rfl (Or.inl rfl)
theorem qu0:([]:List Nat).length≤1000:=by decide
theorem qdl (x:Link):x.prove.w=x.w∧x.prove.s=x.s∧x.prove.told=x.told:=by unfold Link.prove;simp only;split <;> exact⟨rfl,rfl,rfl⟩
theorem LB.fail {cyc:Bool} {x:Link} (h:LB cyc x) (why:Nat):LB cyc (x.fail why):=by
 unfold Link.fail;split
 ·exact h
 ·exact LB.tell0 (x:={ x.aEnd.jClear with c:=cZero,s:=0,leak:=⟨0,0⟩,o:=⟨x.o.own,false,false⟩,fails:=x.fails+1 }) (h.to rfl (Or.inr (Nat.zero_le _))) _ _
theorem qji (x:Link) (b:Bool):(x.aHurry b).w=x.w∧(x.aHurry b).s=x.s∧(x.aHurry b).told=x.told:=by
 unfold Link.aHurry;simp only;split
 ·exact qdl _
 ·exact⟨rfl,rfl,rfl⟩
theorem qjj (x:Link) (s:Nat):(x.aHeard s).1.w=x.w∧(x.aHeard s).1.s=x.s∧(x.aHeard s).1.told=x.told:=by
 unfold Link.aHeard;split
 ·exact⟨rfl,rfl,rfl⟩
 ·simp only;have hy:∀y:Link,(if s=2 then { x with a:={ x.a with their:=true } } else x)=y→y.w=x.w∧y.s=x.s∧y.told=x.told:=by
   intro y e;subst e;split <;> exact⟨rfl,rfl,rfl⟩
  generalize (if s=2 then { x with a:={ x.a with their:=true } } else x)=y at hy ⊢;obtain⟨h1,h2,h3⟩:=hy y rfl;split
  ·exact⟨h1,h2,h3⟩
  split
  ·exact⟨h1,h2,h3⟩
  split
  ·exact⟨(qdl _).1.trans h1,(qdl _).2.1.trans h2,(qdl _).2.2.trans h3⟩
  split
  ·exact⟨h1,h2,h3⟩
  split
  ·exact⟨(qdl _).1.trans h1,(qdl _).2.1.trans h2,(qdl _).2.2.trans h3⟩
  ·exact⟨h1,h2,h3⟩
theorem ql6 (x:Link) (b:Bool):(x.aUnit b).1.w=x.w∧(x.aUnit b).1.s=x.s∧(x.aUnit b).1.told=x.told:=by
 unfold Link.aUnit;split
 ·exact⟨rfl,rfl,rfl⟩
 ·simp only;split
  ·exact⟨rfl,rfl,rfl⟩
  split
  ·exact qdl _
  ·exact⟨rfl,rfl,rfl⟩
theorem qqo (x:Link) (i:Nat):(x.aOut i).1.w=x.w∧(x.aOut i).1.s=x.s∧(x.aOut i).1.told=x.told:=by
 unfold Link.aOut;split
 ·exact⟨rfl,rfl,rfl⟩
 split <;> exact⟨rfl,rfl,rfl⟩
theorem qpq (x:Link) (i:Nat):(x.jOut i).1.w=x.w∧(x.jOut i).1.s=x.s∧(x.jOut i).1.told=x.told:=by
 unfold Link.jOut;split
 ·exact⟨rfl,rfl,rfl⟩
 split <;> exact⟨rfl,rfl,rfl⟩
theorem qi7 (x:Link) (b:Bool):(x.jHeard b).1.w=x.w∧(x.jHeard b).1.s=x.s∧(x.jHeard b).1.told=x.told:=by
 unfold Link.jHeard;cases b <;> simp only[if_true,Bool.false_eq_true,if_false] <;> split <;> exact⟨rfl,rfl,rfl⟩
theorem qgm (x:Link):x.jAnswer.1.w=x.w∧x.jAnswer.1.s=x.s∧x.jAnswer.1.told=x.told:=by
 unfold Link.jAnswer;split <;> exact⟨rfl,rfl,rfl⟩
theorem qei (x:Link) (b:Bool):(x.wait b).w=x.w∧(x.wait b).s=x.s∧(x.wait b).told=x.told:=by
 unfold Link.wait;split
 ·exact⟨rfl,rfl,rfl⟩
 split <;> exact⟨rfl,rfl,rfl⟩
theorem LB.resume {cyc:Bool} {x:Link} (h:LB cyc x):LB cyc x.resume:=by
 unfold Link.resume;split
 ·exact h
 ·exact h.to (qei _ _).1 (Or.inr (by rw[(qei _ _).2.1];exact(by decide:4≤5))) (qei _ _).2.2
theorem LB.halt {cyc:Bool} {x:Link} (h:LB cyc x):LB cyc x.halt:=h.to rfl (Or.inr (by decide:5≤5))
theorem LB.serve {cyc:Bool} {x:Link} (h:LB cyc x):LB cyc x.serve:=by
 unfold Link.serve;simp only;split
 ·exact LB.halt (LB.tell0 ((h.stop _).st 4 (by decide)) _ _)
 ·exact LB.tell0 ((h.stop _).st 4 (by decide)) _ _
theorem LB.remote {cyc:Bool} {x:Link} (h:LB cyc x) (b:Bool):LB cyc (x.remote b):=by
 unfold Link.remote;simp only;have hy:LB cyc (if x.s=2∨x.s=3 then x.serve else x):=by split;exact h.serve;exact h
 generalize (if x.s=2∨x.s=3 then x.serve else x)=y at hy ⊢;split
 ·exact hy.to rfl (Or.inl rfl)
 split
 ·split
  ·exact LB.halt (LB.tell0 (hy.og _) _ _)
  ·exact LB.tell0 (hy.og _) _ _
 ·exact LB.resume (LB.tell0 (hy.og _) _ _)
theorem LB.local_ {cyc:Bool} {x:Link} (h:LB cyc x) (b:Bool):LB cyc (x.local_ b):=by
 unfold Link.local_;split
 ·exact h
 ·simp only;have hy:LB cyc { x with o:={ x.o with own:=b } }:=h.to rfl (Or.inl rfl);split
  ·exact hy.halt
  split
  ·exact hy.resume
  split
  ·exact hy.to rfl (Or.inr (by decide:3≤5))
  split
  ·exact hy.to rfl (Or.inr (by decide:2≤5))
  ·exact hy
theorem LB.out {cyc:Bool} {x:Link} (h:LB cyc x) (i:Nat):LB cyc (x.out i):=by
 unfold Link.out;split
 ·exact h
 split
 ·simp only;have ha:LB cyc (x.aOut i).1:=h.to (qqo x i).1 (Or.inl (qqo x i).2.1) (qqo x i).2.2;split
  ·exact ha.fail _
  split
  ·refine ha.to rfl (Or.inr ?_);show (if _ then 3 else 2)≤5;split <;> decide
  ·exact ha
 split
 ·exact h.fail _
 split
 ·exact h.fail _
 ·simp only;have ha:LB cyc (x.jOut i).1:=h.to (qpq x i).1 (Or.inl (qpq x i).2.1) (qpq x i).2.2;split
  ·exact ha.fail _
  ·exact ha
theorem LB.tick {cyc:Bool} {x:Link} (h:LB cyc x):LB cyc x.tick:=by
 have key:∀(l:List Nat) (y:Link),LB cyc y→LB cyc (l.foldl Link.out y):=fun l=>by
  induction l with
  |nil=>intro y hy;exact hy
  |cons i l ih=>intro y hy;exact ih _ (hy.out i)
 exact key _ _ (h.to rfl (Or.inl rfl))
theorem LB.count {cyc:Bool} {x:Link} (h:LB cyc x) (b:Bool):LB cyc (x.count b):=by
 unfold Link.count;split
 ·exact h
 split
 ·simp only;have ha:LB cyc (x.aUnit b).1:=h.to (ql6 x b).1 (Or.inl (ql6 x b).2.1) (ql6 x b).2.2;split
  ·exact ha.fail _
  ·exact ha
 ·simp only;split
  ·exact LB.fail (x:={ x with leak:=(x.leak.unit b).1 }) (h.to rfl (Or.inl rfl)) _
  ·exact h.to rfl (Or.inl rfl)
theorem LB.status {cyc:Bool} {x:Link} (h:LB cyc x) (s:Nat):LB cyc (x.status s):=by
 unfold Link.status;split
 ·simp only;have ha:LB cyc (x.aHeard s).1:=h.to (qjj x s).1 (Or.inl (qjj x s).2.1) (qjj x s).2.2;split
  ·exact ha.fail _
  ·exact ha
 split
 ·exact h.fail _
 split
 ·exact h.fail _
 split
 ·exact h.remote _
 split
 ·simp only;have ha:∀b,LB cyc (x.jHeard b).1:=fun b=>h.to (qi7 x b).1 (Or.inl (qi7 x b).2.1) (qi7 x b).2.2;split
  ·exact(ha _).tell0 _ _
  ·exact ha _
 ·exact h
theorem qor (w:Way) (u:Unit) (p:List Nat) (h:(w.take u).2=some (some p)):p=u.info:=by
 cases w with
 |basic b =>
  have h:(b.take u).2=some (some p):=h;unfold Basic.take at h;simp only at h;split at h
  ·split at h <;> simp at h
  split at h
  ·simpa using h.symm
  split at h <;> simp at h
 |cyclic c =>
  have h:(c.take u).2=some (some p):=h;unfold Cyclic.take at h;split at h
  ·simp at h
  ·simpa using h.symm
theorem LB.ordinary {cyc:Bool} {x:Link} (h:LB cyc x) (u:Unit) (hu:u.info.length≤1000):LB cyc (x.ordinary u):=by
 unfold Link.ordinary;simp only;have hy:LB cyc (if x.s=2∨x.s=3 then x.serve else x):=by split;exact h.serve;exact h
 generalize (if x.s=2∨x.s=3 then x.serve else x)=y at hy ⊢;have hz:LB cyc (if y.o.their then y.remote false else y):=by split;exact hy.remote _;exact hy
 generalize (if y.o.their then y.remote false else y)=z at hz ⊢;have ha:LB cyc { z with w:=(z.w.answer u).1 }:=⟨hz.w.answer u,hz.s,hz.td⟩;split
 ·exact ha.fail _
 ·rename_i k _;have hb:LB cyc (if 0<k∧z.s=4 then ({ z with w:=(z.w.answer u).1 }:Link).wait true else { z with w:=(z.w.answer u).1 }):=by
   split
   ·exact ha.to (qei _ _).1 (Or.inl (qei _ _).2.1) (qei _ _).2.2
   ·exact ha
  generalize (if 0<k∧z.s=4 then ({ z with w:=(z.w.answer u).1 }:Link).wait true else { z with w:=(z.w.answer u).1 })=y2 at hb ⊢;have hc:LB cyc (if y2.j.their∧(0<k∨y2.w.hold.sent.length=0) then y2.jAnswer.1.tell ⟨7,0,[]⟩ else y2):=by
   split
   ·exact LB.tell0 (hb.to (qgm y2).1 (Or.inl (qgm y2).2.1) (qgm y2).2.2) _ _
   ·exact hb
  generalize (if y2.j.their∧(0<k∨y2.w.hold.sent.length=0) then y2.jAnswer.1.tell ⟨7,0,[]⟩ else y2)=y3 at hc ⊢;split
  ·exact hc
  ·have hd:LB cyc { y3 with w:=(y3.w.take u).1 }:=⟨hc.w.take u,hc.s,hc.td⟩;split
   ·exact hd.fail _
   ·exact hd
   ·rename_i p hp;exact hd.tell _ (by show p.length≤1000;rw[qor _ _ _ hp];exact hu)
theorem LB.hear {cyc:Bool} {x:Link} (h:LB cyc x) (u:Unit) (hu:u.info.length≤1000):LB cyc (x.hear u):=by
 unfold Link.hear;simp only;have hc:=h.count false;split
 ·exact hc
 split
 ·exact hc.status _
 split
 ·exact hc
 ·exact hc.ordinary u hu
theorem LB.next {cyc:Bool} {x:Link} (h:LB cyc x):LB cyc x.next.1:=by
 unfold Link.next;split
 ·exact h
 split
 ·exact h
 split
 ·split
  ·exact h.to rfl (Or.inl rfl)
  ·have ha:LB cyc { x with w:=x.w.next.1 }:=⟨h.w.next,h.s,h.td⟩;exact ha.to (qei _ _).1 (Or.inl (qei _ _).2.1) (qei _ _).2.2
 split
 ·exact h
 ·exact h
theorem LB.order {cyc:Bool} {x:Link} (h:LB cyc x) (k:Nat) (p:List Nat):LB cyc (x.order k p).1:=by
 unfold Link.order;split
 ·split
  ·exact h
  ·exact⟨h.w.reset,(by decide:1≤5),h.td⟩
 split
 ·split
  ·exact h
  ·exact h.fail _
 split
 ·exact h.to (qji _ _).1 (Or.inl (qji _ _).2.1) (qji _ _).2.2
 split
 ·split
  ·have hp:=h.w.hb.put p;exact⟨h.w.hold hp.1 hp.2,h.s,h.td⟩
  ·exact h
 split
 ·exact h.local_ _
 split
 ·refine⟨h.w.hold ⟨h.w.hb.1,h.w.hb.2.1,?_,?_⟩ rfl,h.s,h.td⟩
  ·show x.w.hold.sent.length+0≤16;have:=h.w.hb.2.2.1;omega
  ·show size x.w.hold.sent+size []≤600;have:=h.w.hb.2.2.2;simp only[size,List.map_nil,List.sum_nil] at this ⊢;omega
 split
 ·simp only;split
  ·exact LB.resume (h.to rfl (Or.inl rfl))
  ·exact h.to rfl (Or.inl rfl)
 split
 ·split
  ·split
   ·show LB cyc x.jBegin;unfold Link.jBegin;split
    ·exact h
    ·exact h.to rfl (Or.inl rfl)
   ·exact h.to rfl (Or.inl rfl)
  ·exact h
 ·exact h
theorem qly (q:List Nat) (h:(decode q).2=0):(decode q).1.info.length≤1000:=by
 unfold decode at h ⊢;split
 ·exact qu0
 split
 ·exact qu0
 rename_i h2;have hd:(q.drop 3).length≤1000:=by rw[List.length_drop];omega
 simp only;split
 ·exact qu0
 ·generalize q.drop 3=r at hd;split
  ·exact qu0
  ·exact qu0
  ·exact qu0
  ·exact hd
theorem LB.hears {cyc:Bool} {x:Link} (h:LB cyc x) (r:Option (List Nat)):LB cyc (hears x r):=by
 unfold Sig.hears;split
 ·exact h.count _
 ·split
  ·exact h.count _
  ·rename_i q hq;exact h.hear _ (qly _ (Decidable.of_not_not hq))
theorem LB.post {cyc:Bool} {p:Post} (h:LB cyc p.x) (inp:List Bool):LB cyc (p.tick inp).1.x:=by
 have hb:∀(l:List (Option (List Nat))) (y:Link),LB cyc y→LB cyc (l.foldl Sig.hears y):=fun l=>by
  induction l with
  |nil=>intro y hy;exact hy
  |cons i l ih=>intro y hy;exact ih _ (hy.hears i)
 have ho:∀(n:Nat) (q:Post),LB cyc q.x→LB cyc (Post.outBits n q).1.x:=fun n=>by
  induction n with
  |zero=>intro q hq;exact hq
  |succ n ih =>
   intro q hq;refine ih _ ?_;unfold Post.outBit;split
   ·exact hq
   ·simp only;split
    ·exact hq.next
    ·exact hq.next
 unfold Post.tick;rw[qfe];exact ho 8 _ (hb _ _ h.tick)
theorem LB.new (cyc:Bool) (t:List Nat):LB cyc (newLink cyc t):=by
 cases cyc
 ·exact⟨⟨rfl,rfl,rfl,by decide,by decide⟩,(by decide:0≤5),fun t ht=>by simp[newLink] at ht⟩
 ·exact⟨⟨rfl,⟨rfl,rfl,by decide,by decide⟩,rfl,rfl,by decide,by decide⟩,(by decide:0≤5),fun t ht=>by simp[newLink] at ht⟩
end Sig
