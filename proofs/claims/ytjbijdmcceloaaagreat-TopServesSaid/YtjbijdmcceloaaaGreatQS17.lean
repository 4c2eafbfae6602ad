/- Part of the proof of topServes_holds. No condition. -/
import Derived.Test.YtjbijdmcceloaaaGreatQS16
set_option linter.unusedVariables false
set_option linter.unusedSimpArgs false
set_option maxHeartbeats 80000000
set_option maxRecDepth 100000
namespace Go.Proofs.YtjbijdmcceloaaaGreat.Top
open Go Go.RowKit Go.Proofs.YtjbijdmcceloaaaGreat Go.Proofs.YtjbijdmcceloaaaGreatW.PrintWords Go.Proofs.YtjbijdmcceloaaaGreatW.PrintLast Go.Proofs.YtjbijdmcceloaaaGreatW.PrintMore
theorem qfq {g:Nat} {A:Adr} {O:Nat→Prop} {w:World} {p:Sig.Post} {q:PoV} {vt:Value} (h:PoIs w g A O p q vt) :
  Calls Tryz.prog 156 #[.pointer (some ⟨g,0,none⟩)] w fun e w'=>e=.returned (q.vs)∧w=w':=by
 have a:=Blk.c h.blk 10 rfl;clear h;go_enter Tryz.func156,Tryz.ntmps156
 go_wp2_with fail
 go_wp2;go_ret;exact⟨rfl,rfl⟩
theorem qfr {g:Nat} {A:Adr} {O:Nat→Prop} {w:World} {p:Sig.Post} {q:PoV} {vt:Value} (h:PoIs w g A O p q vt) :
  Calls Tryz.prog 157 #[.pointer (some ⟨g,0,none⟩)] w fun e w'=>e=.returned (q.vg)∧w=w':=by
 have a:=Blk.c h.blk 11 rfl;clear h;go_enter Tryz.func157,Tryz.ntmps157
 go_wp2_with fail
 go_wp2;go_ret;exact⟨rfl,rfl⟩
theorem qcd {g:Nat} {A:Adr} {O:Nat→Prop} {w:World} {p:Sig.Post} {q:PoV} {vt:Value} (h:PoIs w g A O p q vt) :
  Calls Tryz.prog 13 #[.pointer (some ⟨g,0,none⟩)] w fun e w'=>e=.returned (.pointer (some ⟨A.s,0,none⟩))∧w=w':=by
 have a:=Blk.c h.blk 0 rfl;change w.cell? ⟨g,0,none⟩=some (.pointer (some ⟨A.s,0,none⟩)) at a;clear h;go_enter Tryz.func13,Tryz.ntmps13
 go_wp2_with fail
 go_wp2;go_ret;exact⟨rfl,rfl⟩
theorem qfo {g:Nat} {A:Adr} {O:Nat→Prop} {w:World} {p:Sig.Post} {q:PoV} {vt:Value} (h:PoIs w g A O p q vt) :
  Calls Tryz.prog 33 #[.pointer (some ⟨g,0,none⟩)] w fun e w'=>e=.returned vt∧Kd.R kT 184 w' 0 (qbe O w w') vt p.x.told∧∃vt',PAcc g A O w { p with x:={ p.x with told:=[] } } q vt' w':=by
 have H:=am h;have a:=h.c0;have hs:=Kd.R_slice h.lk.told;clear h;obtain⟨At,ct,rfl⟩:=hs;go_enter Tryz.func33,Tryz.ntmps33
 go_wp2_with fail
 refine(qm4 H.out.lk H.out.way).mono ?_;rintro e w1 ⟨rfl,hR,vt',hf⟩;have HR:=am hR;have HP:=am (PAcc.link H.out hf rfl);clear hR hf;go_wp2;go_ret;exact⟨rfl,HR.out,vt',HP.out⟩
theorem qeq {g:Nat} {A:Adr} {O:Nat→Prop} {w:World} {p:Sig.Post} {q:PoV} {vt:Value} (h:PoIs w g A O p q vt) (ok:LOk p.x) (k:Nat) (l:List Nat) (vp:Value) (hp:Oct w vp l) :
  Calls Tryz.prog 29 #[.pointer (some ⟨g,0,none⟩),.agg #[.int .u8 k,vp]] w fun e w'=>e=.returned (.int .i64 ((p.x.order k l).2:Nat))∧∃vt',PAcc g A O w { p with x:=(p.x.order k l).1 } q vt' w':=by
 obtain⟨Ap,cp,rfl,-,-,-⟩:=hp.slice;have H0:=am h;have OK:=am ok;have HP:=am hp;clear h ok hp;go_enter Tryz.func29,Tryz.ntmps29;refine sq fun K0 J0=>?_
 go_wp2_with fail
 refine J0.out _ _ ?_;clear J0;have BX:qac (Blk (w.alloc (.cells #[.int .u8 k,.slice Ap l.length cp] 36)) w.heap.size 36 [.int .u8 k,.slice Ap l.length cp]):=⟨heap_alloc_new w _⟩;have hb:Below w.heap.size w (w.alloc (.cells #[.int .u8 k,.slice Ap l.length cp] 36)):=qaa (Below.refl _ _) _;have HA:=am (PAcc.below H0.out hb);have HP1:=am (HP.out.below hb);clear hb HP;generalize w.alloc (.cells #[.int .u8 k,.slice Ap l.length cp] 36)=W at *;obtain⟨B,hB⟩:∃B,w.heap.size=B:=⟨_,rfl⟩;rw[hB] at BX ⊢;clear hB;have H1:=am HA.out.is;have a0:=H1.out.c0;have b0:=BX.out.c 0 rfl;have b1:=BX.out.c 1 rfl
 go_wp2_with fail
 go_still_tail 5,(by kernel_rfl);change wpList _ _ _ _ _ W.drew
 go_wp2_with fail
 have HA2:=am (HA.out.trans (PAcc.below H1.out (qaf (Below.refl _ _))));have H2:=am HA2.out.is;refine(qll H2.out.lk H2.out.way OK.out.way (by have:=OK.out.fails;omega) (by have:=OK.out.told;omega) k l _ HP1.out.drew).mono ?_;rintro e w3 ⟨rfl,vt3,hf⟩;have HA3:=am (HA2.out.trans (PAcc.link H2.out hf (qte _ _ _)));clear hf;go_wp2;go_ret;exact⟨rfl,vt3,HA3.out⟩
def TOk (t0 t1 t2 t3 t4 t5 t6 t7:Nat):Prop:=(∀n∈[t0,t1,t2,t3,t4,t5,t6,t7],1≤n∧n≤4294967296)∧t0≤t4∧t5<t6
theorem TOk.all {t0 t1 t2 t3 t4 t5 t6 t7:Nat} (h:TOk t0 t1 t2 t3 t4 t5 t6 t7):∀n∈[t0,t1,t2,t3,t4,t5,t6,t7],1≤n∧n≤4294967296:=And.left h
theorem qb5 (n a b:Int) (w:World) (h1:a≤n) (h2:n≤b):Calls Tryz.prog 56 #[.int .i64 n,.int .i64 a,.int .i64 b] w fun e w'=>e=.returned (.bool true)∧∃k,w'=w.drewN k:=by
 refine(MTopTotal.setup_within_int.calls n a b true w ?_).mono ?_
 ·unfold MTopTotal.setup_within_int.f;rw[if_pos (by omega),decide_eq_true h2]
 ·rintro e w' ⟨rfl,k,h⟩;exact⟨rfl,k,h⟩
theorem qvs (t0 t1 t2 t3 t4 t5 t6 t7:Nat) {i:Nat} (hi:i<8) {x:Nat} (hx:[t0,t1,t2,t3,t4,t5,t6,t7][i]?=some x) (W:World):(Instr.index 25 (.agg #[.int .i64 t0,.int .i64 t1,.int .i64 t2,.int .i64 t3,.int .i64 t4,.int .i64 t5,.int .i64 t6,.int .i64 t7]) (.int .i64 (i:Int))).run Tryz.prog W=.ok (.int .i64 (x:Int)) W:=by
 match i,hi with
 |0,_=>(obtain rfl:t0=x:=Option.some.inj hx);exact qp3 _ _ _ _ _ _ _ _ W
 |1,_=>(obtain rfl:t1=x:=Option.some.inj hx);exact qp2 _ _ _ _ _ _ _ _ W
 |2,_=>(obtain rfl:t2=x:=Option.some.inj hx);exact qp1 _ _ _ _ _ _ _ _ W
 |3,_=>(obtain rfl:t3=x:=Option.some.inj hx);exact qp0 _ _ _ _ _ _ _ _ W
 |4,_=>(obtain rfl:t4=x:=Option.some.inj hx);exact qpz _ _ _ _ _ _ _ _ W
 |5,_=>(obtain rfl:t5=x:=Option.some.inj hx);exact qpy _ _ _ _ _ _ _ _ W
 |6,_=>(obtain rfl:t6=x:=Option.some.inj hx);exact qpx _ _ _ _ _ _ _ _ W
 |7,_=>(obtain rfl:t7=x:=Option.some.inj hx);exact qpw _ _ _ _ _ _ _ _ W
theorem ql2 (cyc:Bool) (t0 t1 t2 t3 t4 t5 t6 t7:Nat) (w:World) (ht:TOk t0 t1 t2 t3 t4 t5 t6 t7) :
  Calls Tryz.prog 44 #[setA cyc t0 t1 t2 t3 t4 t5 t6 t7] w (qm1 w (.int .i64 0)):=by
 have HT:=am ht;clear ht;unfold setA;go_enter Tryz.func44,Tryz.ntmps44
 go_wp2_with fail
 have BX:qac (Blk (w.alloc (.cells #[.bool cyc,.int .i64 8,.int .i64 300,.int .i64 16,.int .i64 600,.int .i64 t0,.int .i64 t1,.int .i64 t2,.int .i64 t3,.int .i64 t4,.int .i64 t5,.int .i64 t6,.int .i64 t7] 27)) w.heap.size 27 (qe5 cyc t0 t1 t2 t3 t4 t5 t6 t7)):=⟨heap_alloc_new w _⟩;have HB:qac (Below w.heap.size w (w.alloc (.cells #[.bool cyc,.int .i64 8,.int .i64 300,.int .i64 16,.int .i64 600,.int .i64 t0,.int .i64 t1,.int .i64 t2,.int .i64 t3,.int .i64 t4,.int .i64 t5,.int .i64 t6,.int .i64 t7] 27))):=⟨qaa (Below.refl _ _) _⟩;generalize w.alloc (.cells #[.bool cyc,.int .i64 8,.int .i64 300,.int .i64 16,.int .i64 600,.int .i64 t0,.int .i64 t1,.int .i64 t2,.int .i64 t3,.int .i64 t4,.int .i64 t5,.int .i64 t6,.int .i64 t7] 27)=W at *;obtain⟨B,hB⟩:∃B,w.heap.size=B:=⟨_,rfl⟩;rw[hB] at BX HB ⊢;have HBB:=am hB;clear hB;go_loopw [7] (fun v7 wr=>∃i:Nat,i≤8∧v7=.int .i64 i∧qac (Blk wr B 27 (qe5 cyc t0 t1 t2 t3 t4 t5 t6 t7)∧Below B w wr)) (fun v7 _=>8-(intOf v7).toNat)
 case atStart=>exact⟨0,Nat.zero_le _,rfl,⟨BX.out,HB.out⟩⟩
 case round =>
  obtain⟨i,hi,rfl,⟨⟨hx,hb⟩⟩⟩:=hrel;clear BX HB;have BX:=am hx;have HB:=am hb;clear hx hb;by_cases hlt:i<8
  ·have HLT:=am hlt;obtain⟨x,hx⟩:∃x,[t0,t1,t2,t3,t4,t5,t6,t7][i]?=some x:=⟨_,List.getElem?_eq_getElem (by simpa using hlt)⟩;have hxb:=HT.out.1 x (List.mem_of_getElem? hx);have hid:=qvs t0 t1 t2 t3 t4 t5 t6 t7 hlt hx;have b1:decide ((i:Int)<8)=true:=decide_eq_true (by omega);have HXB:=am hxb;clear hx hxb
   go_wp2_with fail
   refine(qb5 x 1 4294967296 wr (by have:=HXB.out;omega) (by have:=HXB.out;omega)).mono ?_;rintro e w2 ⟨rfl,k,rfl⟩;go_wp2
   go_roundw
   case rel=>exact⟨i+1,by have:=HLT.out;omega,by first|rfl|(simp;done),⟨BX.out,HB.out.trans (qab (Below.refl _ _) k)⟩⟩
   case measure=>(have:=HLT.out;simp[intOf];omega)
  obtain rfl:i=8:=by omega
  simp only[show ((8:Nat):Int)=8 from rfl];obtain⟨x0,x1,x2,x3,x4,x5,x6,x7,x8,x9,x10,x11,x12⟩:=qjy BX.out;have d1:decide (t4<t0)=false:=decide_eq_false (by have:=HT.out.2.1;omega);have d2:decide (t6≤t5)=false:=decide_eq_false (by have:=HT.out.2.2;omega);clear hi hlt
  go_wp2_with fail
  refine(qb5 8 1 127 _ (by decide) (by decide)).mono ?_;rintro e w3 ⟨rfl,k3,rfl⟩
  go_wp2_with fail
  refine(qb5 300 1 1048576 _ (by decide) (by decide)).mono ?_;rintro e w4 ⟨rfl,k4,rfl⟩
  go_wp2_with fail
  refine(qb5 16 1 512 _ (by decide) (by decide)).mono ?_;rintro e w5 ⟨rfl,k5,rfl⟩
  go_wp2_with fail
  refine(qb5 600 273 1048576 _ (by decide) (by decide)).mono ?_;rintro e w6 ⟨rfl,k6,rfl⟩;go_wp2;go_ret;refine⟨rfl,?_⟩;rw[HBB.out];exact qab HB.out _
structure qxq (w:World) (g:Nat) (A:Adr) (O:Nat→Prop) (p:Sig.Post) (q:PoV) (w':World):Prop where
 is:PoIs w' g A O p q (.slice none 0 0)
 own:∀k,k=g∨Own A k∨k=A.w∨k=A.h∨O k→w.heap.size≤k∧k<w'.heap.size
 q0:q.gone=0∧q.came=0∧q.ns=0∧q.ng=0∧q.ends=0
 below:Below w.heap.size w w'
theorem pnew {cyc:Bool} {t0 t1 t2 t3 t4 t5 t6 t7:Nat} {w w1 w2 w3:World} {A:Adr} (hA:A.cyc=cyc) (hb0:Below w.heap.size w w1) (hl:qxv w1 A (Sig.newLink cyc [t0,t1,t2,t3,t4,t5,t6,t7]) w2) {v:Value} (hv:Rw w3 (fun k=>w2.heap.size≤k) 4 v (bools Sig.flagBits)) (hb3:Below w2.heap.size w2 w3) :
  ∃O q,qxq w w3.heap.size A O (Sig.newPost cyc [t0,t1,t2,t3,t4,t5,t6,t7]) q (w3.alloc (.cells #[.pointer (some ⟨A.s,0,none⟩),.slice none 0 0,.int .i64 0,.bool false,.int .i64 0,v,.slice none 0 0,.int .i64 0,.int .i64 0,.int .i64 0,.slice none 0 0,.slice none 0 0,.bool cyc,.int .i64 8,.int .i64 300,.int .i64 16,.int .i64 600,.int .i64 t0,.int .i64 t1,.int .i64 t2,.int .i64 t3,.int .i64 t4,.int .i64 t5,.int .i64 t6,.int .i64 t7] 111)):=by
 subst hA;generalize ho:Obj.cells _ 111=o;have hbo:Below w3.heap.size w3 (w3.alloc o):=qaa (Below.refl _ _) o;have hsz:(w3.alloc o).heap.size=w3.heap.size+1:=by simp[World.alloc_eq]
 have s0:=hb0.size;have s1:=hl.below.size;have s2:=hb3.size;have hvb:∀k,qau v=some k→w2.heap.size≤k∧Typed w3 k 4∧k<w3.heap.size:=by
  intro k hk;obtain⟨A',c',e,_,_,h⟩:=hv.slice;exact h k hk
 have hb23:Below w2.heap.size w2 (w3.alloc o):=hb3.trans (hbo.mono s2);have hlk:Lk (w3.alloc o) A (fun k=>qau v=some k) (Sig.newLink A.cyc [t0,t1,t2,t3,t4,t5,t6,t7]) (.slice none 0 0):=by
  have h1:=LkWay.far (Q:=fun _=>False) hl.lk hl.way (qag hb23) (fun _ _ _ _ h=>h);refine⟨h1.1.core,Kd.R_nil _ _ _ _ _,fun k hk=>⟨by have:=(hvb k hk).2.2;omega,fun hn=>?_⟩⟩;have h2:=hl.lk.own_lt k hn;have:=(hvb k hk).1;omega
 have hw:WayAt (w3.alloc o) A (fun k=>qau v=some k) (Sig.newLink A.cyc [t0,t1,t2,t3,t4,t5,t6,t7]).w:=(hl.way.below hb23).mono (fun k hk=>hk.elim);refine⟨fun k=>qau v=some k,⟨.slice none 0 0,v,.slice none 0 0,0,0,0,.slice none 0 0,.slice none 0 0,0,0⟩,⟨?_,hlk,hw,?_⟩,fun k hk=>?_,⟨rfl,rfl,rfl,rfl,rfl⟩,hb0.trans ((hl.below.trans (hb3.mono s1 |>.trans (hbo.mono (by omega)))).mono s0)⟩
 ·subst ho;exact heap_alloc_new w3 _
 ·refine⟨Rw.nil _ _ _,rfl,(hv.below hbo).mono (fun k _ _ _ hk=>hk),⟨none,0,0,[],rfl,Rw.nil _ _ _⟩,SR.nil _ _ _ _ _,SR.nil _ _ _ _ _⟩
 ·have hown:=hl.own k;rcases hk with rfl|hk|hk|hk|hk
  ·omega
  ·exact⟨by have:=hown (Or.inl hk);omega,by have:=hlk.own_lt k hk;omega⟩
  ·refine⟨by have:=hown (Or.inr (Or.inl hk));omega,?_⟩;subst hk;rcases hw.typed.1 with ⟨c,_,h⟩|⟨c,_,h⟩
   ·exact(Array.getElem?_eq_some_iff.1 h).1
   ·exact(Array.getElem?_eq_some_iff.1 h).1
  ·refine⟨by have:=hown (Or.inr (Or.inr hk));omega,?_⟩;subst hk;obtain⟨c,_,h⟩:=hw.typed.2;exact(Array.getElem?_eq_some_iff.1 h).1
  ·exact⟨by have:=(hvb k hk).1;omega,by have:=(hvb k hk).2.2;omega⟩
theorem qep (cyc:Bool) (t0 t1 t2 t3 t4 t5 t6 t7:Nat) (w:World) (ht:TOk t0 t1 t2 t3 t4 t5 t6 t7) :
  Calls Tryz.prog 23 #[setA cyc t0 t1 t2 t3 t4 t5 t6 t7] w fun e w'=>∃g A O q,e=.returned (.tuple #[.pointer (some ⟨g,0,none⟩),.int .i64 0])∧A.cyc=cyc∧qxq w g A O (Sig.newPost cyc [t0,t1,t2,t3,t4,t5,t6,t7]) q w':=by
 have HT:=am ht;clear ht;unfold setA;go_enter Tryz.func23,Tryz.ntmps23;refine sq fun K0 J0=>?_
 go_wp2_with fail
 refine J0.out _ _ ?_;clear J0;have BX:qac (Blk (w.alloc (.cells #[.bool cyc,.int .i64 8,.int .i64 300,.int .i64 16,.int .i64 600,.int .i64 t0,.int .i64 t1,.int .i64 t2,.int .i64 t3,.int .i64 t4,.int .i64 t5,.int .i64 t6,.int .i64 t7] 27)) w.heap.size 27 (qe5 cyc t0 t1 t2 t3 t4 t5 t6 t7)):=⟨heap_alloc_new w _⟩;have HB:qac (Below w.heap.size w (w.alloc (.cells #[.bool cyc,.int .i64 8,.int .i64 300,.int .i64 16,.int .i64 600,.int .i64 t0,.int .i64 t1,.int .i64 t2,.int .i64 t3,.int .i64 t4,.int .i64 t5,.int .i64 t6,.int .i64 t7] 27))):=⟨qaa (Below.refl _ _) _⟩;generalize w.alloc (.cells #[.bool cyc,.int .i64 8,.int .i64 300,.int .i64 16,.int .i64 600,.int .i64 t0,.int .i64 t1,.int .i64 t2,.int .i64 t3,.int .i64 t4,.int .i64 t5,.int .i64 t6,.int .i64 t7] 27)=W at *;obtain⟨B,hB⟩:∃B,w.heap.size=B:=⟨_,rfl⟩;rw[hB] at BX ⊢;have HBB:=am hB;clear hB;obtain⟨x0,x1,x2,x3,x4,x5,x6,x7,x8,x9,x10,x11,x12⟩:=qjy BX.out
 go_wp2_with fail
 refine(ql2 cyc t0 t1 t2 t3 t4 t5 t6 t7 W HT.out).mono ?_;rintro e w1 ⟨rfl,hb1⟩;have BX1:=am (BX.out.only (qag hb1) (fun h=>h));have HB1:=am (HB.out.trans (hb1.mono HB.out.size));clear hb1 x0 x1 x2 x3 x4 x5 x6 x7 x8 x9 x10 x11 x12
 go_wp2_with fail
 refine sr 8 (fun W'=>Blk W' B 27 (qe5 cyc t0 t1 t2 t3 t4 t5 t6 t7)) [5] BX1.out.drew (fun hY=>?_);refine take_ (i:=0) (N:=some 10) (v:=?_) (a':=?_) #[true,false,false,false,false,false,false,false] rfl rfl (by kernel_rfl) (fun _ _ _ h=>h) (Or.inl ⟨by rfl,?_⟩) hY ?_ ?_;rotate_left
 ·intro w' hS';obtain⟨s0_,s1_,s2_,s3_,s4_,s5_,s6_,s7_,s8_,s9_,s10_,s11_,s12_⟩:=qjy hS';go_simp
  with_reducible rfl
 rotate_left
 ·simp only[Act.put,List.setIfInBounds_toArray,List.set_cons_zero,List.set_cons_succ,qed,qet];rfl
 refine take_ (i:=3) (N:=some 13) (v:=?_) (a':=?_) #[true,false,false,true,false,false,false,false] rfl rfl (by kernel_rfl) (fun _ _ _ h=>h) (Or.inl ⟨by rfl,?_⟩) hY ?_ ?_;rotate_left
 ·intro w' hS';obtain⟨s0_,s1_,s2_,s3_,s4_,s5_,s6_,s7_,s8_,s9_,s10_,s11_,s12_⟩:=qjy hS';go_simp
  with_reducible rfl
 rotate_left
 ·simp only[Act.put,List.setIfInBounds_toArray,List.set_cons_zero,List.set_cons_succ,qed,qet];rfl
 refine on_ 1 11 (fun K hK=>?_);refine gs Tryz.func45 #[setA cyc t0 t1 t2 t3 t4 t5 t6 t7] ?_
 with_reducible refine(qg7 cyc t0 t1 t2 t3 t4 t5 t6 t7 w1.drew HT.out.all).mono ?_
 rintro e w2 ⟨A,rfl,hcy,hl⟩;refine⟨_,rfl,?_⟩;unfold ptr;refine hK.out _ _ (hY.only (qag hl.below) (fun h=>h)) (fun hY=>?_);clear hK K;refine nm 11 ?_;refine on_ 2 12 (fun K hK=>?_);refine gs Tryz.func46 #[] ?_
 with_reducible refine(qnz w2).mono ?_
 rintro e w3 ⟨vf,rfl,hvf,hb3⟩;refine⟨_,rfl,?_⟩;obtain⟨Af,cf,hvs,-,-,-⟩:=hvf.slice;subst hvs;refine hK.out _ _ (hY.only (qag hb3) (fun h=>h)) (fun hY=>?_);clear hK K;refine nm 12 ?_;refine pu 4 14 ?_;refine la_ 5 15 (fun K hK=>?_);refine qbf (w1:=?_) (v:=?_) (by rfl) rfl ?_ ?_;rotate_left 2
 ·go_simp;constructor
  ·rfl
  ·rfl
 refine hK.out _ _ ?_;clear hK K;refine nm 15 ?_;refine pu 6 2 ?_;refine pu 7 3 ?_;refine qav (by kernel_rfl) ?_;obtain⟨O,q,hp⟩:=pnew hcy (qad HB1.out) hl hvf hb3;go_wp2;go_ret2;exact⟨_,A,O,q,rfl,hcy,hp⟩
structure WV where
 gl:Nat
 i:Nat
 bent:Nat
 vm:Value
def qd9 (x:Sig.Wire) (q:WV):List Value:=[.slice (some ⟨q.gl,0,none⟩) x.l.length x.l.length,.int .i64 (q.i:Int),q.vm,.int .i64 (x.ones:Int),.int .i64 (q.bent:Int)]
structure WrIs (w:World) (g:Nat) (O:Nat→Prop) (x:Sig.Wire) (q:WV):Prop where
 blk:Blk w g 134 (qd9 x q)
 ex:∃lm,Blk w q.gl 4 (bools lm)∧lm.length=x.l.length∧x.l=lm.drop q.i++lm.take q.i∧(x.l.length=0∨q.i<x.l.length)
 gl:O q.gl
 mask:Rw w (fun k=>O k∧k≠q.gl) 4 q.vm (bools x.mask)
def WW (g:Nat) (O:Nat→Prop) (w:World) (k:Nat):Prop:=k=g∨(O k∧Typed w k 4)
def Sig.Wire.pass3 (x:Sig.Wire) (on:Bool):Sig.Wire×Bool:=match x.l with
 |[]=>(⟨[],x.mask,x.ones⟩,on)
 |b::r=>(⟨r++[on],x.mask,x.ones⟩,b)
def Sig.Wire.pass2 (x:Sig.Wire) (on:Bool):Sig.Wire×Bool:=if 0<x.ones then Sig.Wire.pass3 { x with ones:=x.ones-1 } true else Sig.Wire.pass3 x on
theorem qrg {x:Sig.Wire} (h:x.mask=[]) (on:Bool):x.pass on=Sig.Wire.pass2 x on:=by
 obtain⟨l,mask,ones⟩:=x;simp only at h;subst h;unfold Sig.Wire.pass Sig.Wire.pass2 Sig.Wire.pass3;by_cases ho:0<ones
 ·simp only[if_pos ho];cases l <;> rfl
 ·have:ones=0:=by omega
  subst this;simp only[if_neg ho];cases l <;> rfl
theorem qke {x:Sig.Wire} {m:Bool} {r:List Bool} (h:x.mask=m::r) (on:Bool):x.pass on=Sig.Wire.pass2 { x with mask:=r } (on != m):=by
 obtain⟨l,mask,ones⟩:=x;simp only at h;subst h;unfold Sig.Wire.pass Sig.Wire.pass2 Sig.Wire.pass3;by_cases ho:0<ones
 ·simp only[if_pos ho];cases l <;> rfl
 ·have:ones=0:=by omega
  subst this;simp only[if_neg ho];cases l <;> rfl
theorem qjx (l:List Bool) (i:Nat) (b:Bool) (h:i<l.length):(l.set i b).take (i+1)=l.take i++[b]:=by
 rw[List.take_set,List.take_add_one,List.getElem?_eq_getElem h,List.set_append_right _ _ (by simp only[List.length_take];omega)];simp[Nat.min_eq_left (Nat.le_of_lt h)]
section
variable {g:Nat} {O:Nat→Prop} {w:World} {x:Sig.Wire} {q:WV}
theorem WrIs.cs (h:WrIs w g O x q):w.cell? ⟨g,0,none⟩=some (.slice (some ⟨q.gl,0,none⟩) x.l.length x.l.length)∧w.cell? ⟨g,1,none⟩=some (.int .i64 (q.i:Int))∧w.cell? ⟨g,2,none⟩=some q.vm∧w.cell? ⟨g,3,none⟩=some (.int .i64 (x.ones:Int))∧w.cell? ⟨g,4,none⟩=some (.int .i64 (q.bent:Int))∧∀i,w.frozen? ⟨g,i,none⟩=false :=
 ⟨Blk.c h.blk 0 rfl,Blk.c h.blk 1 rfl,Blk.c h.blk 2 rfl,Blk.c h.blk 3 rfl,Blk.c h.blk 4 rfl,Blk.f h.blk⟩
theorem WrIs.ne (h:WrIs w g O x q):g≠q.gl:=by
 obtain⟨lm,hb,_⟩:=h.ex;exact h.blk.ne hb (by decide)
theorem WrIs.cell (h:WrIs w g O x q) (i:Nat) (v:Value) {x':Sig.Wire} {q':WV} (e:(qd9 x q).set i v=qd9 x' q') (hl:x'.l=x.l) (hg:q'.gl=q.gl) (hi:q'.i=q.i) (hm:Rw w (fun k=>O k∧k≠q.gl) 4 q'.vm (bools x'.mask)) :
  WrIs (w.setCell ⟨g,i,none⟩ v) g O x' q':=by
 obtain⟨lm,hb,h1,h2,h3⟩:=h.ex;refine⟨by rw[←e];exact h.blk.set i v,⟨lm,?_,by rw[hl];exact h1,by rw[hl,hi];exact h2,by rw[hl,hi];exact h3⟩,by rw[hg];exact h.gl,?_⟩
 ·rw[hg];exact hb.far (fun e=>h.ne e.symm) v
 ·rw[hg];exact hm.only ((Only.refl (·=g) w).set rfl v) (fun k _ ht _ e=>by have e:k=g:=e;subst e;exact absurd (ht.ne h.blk.typed) (by decide))
theorem WrIs.only (h:WrIs w g O x q) {P:Nat→Prop} {w':World} (ho:Only P w w') (h1:¬P g) (h2:∀k,O k→Typed w k 4→¬P k):WrIs w' g O x q:=by
 obtain⟨lm,hb,h3⟩:=h.ex;exact⟨h.blk.only ho h1,⟨lm,hb.only ho (h2 _ h.gl hb.typed),h3⟩,h.gl,h.mask.only ho (fun k hk ht _=>h2 k hk.1 ht)⟩
theorem WrIs.below (h:WrIs w g O x q) {w':World} (hb:Below w.heap.size w w'):WrIs w' g O x q:=h.only (qag hb) (fun h=>h) (fun _ _ _ h=>h)
theorem WW.step {w1 w2:World} (h1:Only (WW g O w) w w1) (h2:Only (WW g O w1) w1 w2):Only (WW g O w) w w2 :=
 ⟨h2.os.trans h1.os,h2.tape.trans h1.tape,h2.output.trans h1.output,Nat.le_trans h1.size h2.size,fun k hk hn=>(h2.block k (Nat.lt_of_lt_of_le hk h1.size) (fun e=>by
  rcases e with e|⟨e1,cs,fr,e2⟩
  ·exact hn (Or.inl e)
  ·exact hn (Or.inr ⟨e1,cs,fr,(h1.block k hk hn).symm.trans e2⟩))).trans (h1.block k hk hn)⟩
theorem WrIs.turn (h:WrIs w g O x q) {b on:Bool} {r:List Bool} (hx:x.l=b::r) {i':Int} (hi:i'=(((q.i+1)%x.l.length:Nat):Int)) :
  w.cell? ⟨q.gl,q.i,none⟩=some (.bool b)∧(∀i,w.frozen? ⟨q.gl,i,none⟩=false)∧WrIs ((w.setCell ⟨q.gl,q.i,none⟩ (.bool on)).setCell ⟨g,1,none⟩ (.int .i64 i')) g O ⟨r++[on],x.mask,x.ones⟩ { q with i:=(q.i+1)%x.l.length }∧Only (WW g O w) w ((w.setCell ⟨q.gl,q.i,none⟩ (.bool on)).setCell ⟨g,1,none⟩ (.int .i64 i')):=by
 obtain⟨lm,hb,h1,h2,h3⟩:=h.ex;have hlt:q.i<lm.length:=by rw[h1];rcases h3 with h3|h3;(· rw[hx] at h3;simp at h3);exact h3
 have hd:lm.drop q.i=lm[q.i]::lm.drop (q.i+1):=List.drop_eq_getElem_cons hlt;have hb0:lm[q.i]=b:=by
  rw[hd,hx] at h2;simp only[List.cons_append,List.cons.injEq] at h2;exact h2.1.symm
 have hr:r=lm.drop (q.i+1)++lm.take q.i:=by
  rw[hd,hx] at h2;simp only[List.cons_append,List.cons.injEq] at h2;exact h2.2
 have ho1:Only (·=q.gl) w (w.setCell ⟨q.gl,q.i,none⟩ (.bool on)):=(Only.refl (·=q.gl) w).set rfl _;have hlen:(r++[on]).length=x.l.length:=by rw[hx];simp
 have hgl:=hb.set q.i (.bool on);have hbs:(bools lm).set q.i (.bool on)=bools (lm.set q.i on):=by simp[bools,List.map_set]
 rw[hbs] at hgl;have hne:=h.ne;refine⟨?_,hb.f,⟨?_,⟨lm.set q.i on,hgl.far (fun e=>hne e.symm) _,by rw[List.length_set,h1];exact hlen.symm,?_,?_⟩,h.gl,?_⟩,?_⟩
 ·refine hb.c q.i ?_;rw[←hb0];simp[bools,List.getElem?_eq_getElem hlt]
 ·have e:=((h.blk.only ho1 (fun e=>hne e)).set 1 (.int .i64 i'));rw[hi] at e ⊢;simp only[qd9,List.set] at e;simp only[qd9,hlen];exact e
 ·show r++[on]=_;rw[hr];by_cases hw:q.i+1=x.l.length
  ·rw[hw,Nat.mod_self,List.drop_zero,List.take_zero,List.append_nil,←hw,List.drop_of_length_le (i:=q.i+1) (by omega),List.nil_append,←qjx lm q.i on hlt,List.take_of_length_le (by rw[List.length_set];omega)]
  ·rw[Nat.mod_eq_of_lt (show q.i+1<x.l.length by omega),List.drop_set_of_lt (show q.i<q.i+1 by omega),qjx lm q.i on hlt,List.append_assoc]
 ·refine Or.inr ?_;rw[hlen];exact Nat.mod_lt _ (by rw[hx];simp)
 ·refine(h.mask.only ho1 (fun k hk _ _ e=>hk.2 e)).only ((Only.refl (·=g) _).set rfl _) (fun k hk ht _ e=>?_);have e:k=g:=e;subst e;have ht':=Blk.typed (h.blk.only ho1 (fun e=>hne e));exact absurd (ht.ne ht') (by decide)
 ·exact((ho1.mono (Q:=WW g O w) (fun k e=>Or.inr (by have e:k=q.gl:=e;subst e;exact⟨h.gl,hb.typed⟩))).set (p:=⟨g,1,none⟩) (Or.inl rfl) _)
theorem Only.cellW (g:Nat) (O:Nat→Prop) (w:World) (i:Nat) (v:Value):Only (WW g O w) w (w.setCell ⟨g,i,none⟩ v):=(Only.refl (WW g O w) w).set (p:=⟨g,i,none⟩) (Or.inl rfl) v
end
theorem qhm {g:Nat} {O:Nat→Prop} {w:World} {x:Sig.Wire} {q:WV} (h:WrIs w g O x q) (hb:q.bent≤1000000000000) (ho:x.ones≤1000000) (hl:x.l.length≤1000000) (on:Bool) :
  Calls Tryz.prog 32 #[.pointer (some ⟨g,0,none⟩),.bool on] w fun e w'=>e=.returned (.bool (x.pass on).2)∧∃q',q'.bent≤q.bent+2∧q'.gl=q.gl∧WrIs w' g O (x.pass on).1 q'∧Only (WW g O w) w w':=by
 have H0:=am h;have HB:=am hb;have HO:=am ho;have HL:=am hl;clear h hb ho hl;go_enter Tryz.func32,Tryz.ntmps32;refine sq fun K0 J0=>?_
 go_wp2_with fail
 refine J0.out _ _ ?_;clear J0;refine sq fun K1 J1=>?_
 go_wp2_with fail
 refine J1.out _ _ ?_;clear J1;refine wp_seq_k (fun K3 k3=>?_);have J3:qac (∀(u2_ u3_ u4_ u5_ u6_ u7_ u8_ u9_ u10_ u11_ u12_ u13_ u14_ u15_ u16_ u17_ u18_ u19_ u20_ u21_ u22_ u23_ u24_ u25_ u26_ u27_ u28_ u29_ u30_ u31_ u32_ u33_ u34_ u35_ u36_ u37_ u38_ u39_ u40_ u41_ u42_ u43_ u44_ u45_ u46_ u47_ u48_ u49_ u50_ u51_ u52_ u53_ u54_ u55_ u56_ u57_ u58_ u59_ u60_ u61_ u62_ u63_ u64_ u65_ u66_ u67_ u68_ u69_ u70_ u71_ u72_ u73_ u74_ u75_ u76_ u77_ u78_ u79_ u80_ u81_ u82_ u83_ u84_ u85_ u86_ u87_ u88_ u89_ u90_ u91_ u92_ u93_ u94_ u95_ u96_ u97_ u98_ u99_ u100_:Value) (b:Bool) (x1:Sig.Wire) (q1:WV) (w1:World),WrIs w1 g O x1 q1→Only (WW g O w) w w1→q1.gl=q.gl→q1.bent≤q.bent+1→x1.ones≤x.ones→x1.l=x.l→x.pass on=Sig.Wire.pass2 x1 b→K3 ⟨#[.pointer (some ⟨g,0,none⟩),.bool b,u2_,u3_,u4_,u5_,u6_,u7_,u8_,u9_,u10_,u11_,u12_,u13_,u14_,u15_,u16_,u17_,u18_,u19_,u20_,u21_,u22_,u23_,u24_,u25_,u26_,u27_,u28_,u29_,u30_,u31_,u32_,u33_,u34_,u35_,u36_,u37_,u38_,u39_,u40_,u41_,u42_,u43_,u44_,u45_,u46_,u47_,u48_,u49_,u50_,u51_,u52_,u53_,u54_,u55_,u56_,u57_,u58_,u59_,u60_,u61_,u62_,u63_,u64_,u65_,u66_,u67_,u68_,u69_,u70_,u71_,u72_,u73_,u74_,u75_,u76_,u77_,u78_,u79_,u80_,u81_,u82_,u83_,u84_,u85_,u86_,u87_,u88_,u89_,u90_,u91_,u92_,u93_,u94_,u95_,u96_,u97_,u98_,u99_,u100_],[]⟩ w1):=by
  refine⟨fun u2_ u3_ u4_ u5_ u6_ u7_ u8_ u9_ u10_ u11_ u12_ u13_ u14_ u15_ u16_ u17_ u18_ u19_ u20_ u21_ u22_ u23_ u24_ u25_ u26_ u27_ u28_ u29_ u30_ u31_ u32_ u33_ u34_ u35_ u36_ u37_ u38_ u39_ u40_ u41_ u42_ u43_ u44_ u45_ u46_ u47_ u48_ u49_ u50_ u51_ u52_ u53_ u54_ u55_ u56_ u57_ u58_ u59_ u60_ u61_ u62_ u63_ u64_ u65_ u66_ u67_ u68_ u69_ u70_ u71_ u72_ u73_ u74_ u75_ u76_ u77_ u78_ u79_ u80_ u81_ u82_ u83_ u84_ u85_ u86_ u87_ u88_ u89_ u90_ u91_ u92_ u93_ u94_ u95_ u96_ u97_ u98_ u99_ u100_ b x1 q1 w1 h1 o1 e1 e2 e3 e4 e5=>k3 _ _ ?_⟩;clear k3;have H1:=am h1;have O1:=am o1;have E1:=am e1;have E2:=am e2;have E3:=am e3;have E4:=am e4;have E5:=am e5;clear h1 o1 e1 e2 e3 e4 e5;obtain⟨c0,c1,c2,c3,c4,cf⟩:=H1.out.cs;refine wp_seq_k (fun K5 k5=>?_);have J5:qac (∀(u2_ u3_ u4_ u5_ u6_ u7_ u8_ u9_ u10_ u11_ u12_ u13_ u14_ u15_ u16_ u17_ u18_ u19_ u20_ u21_ u22_ u23_ u24_ u25_ u26_ u27_ u28_ u29_ u30_ u31_ u32_ u33_ u34_ u35_ u36_ u37_ u38_ u39_ u40_ u41_ u42_ u43_ u44_ u45_ u46_ u47_ u48_ u49_ u50_ u51_ u52_ u53_ u54_ u55_ u56_ u57_ u58_ u59_ u60_ u61_ u62_ u63_ u64_ u65_ u66_ u67_ u68_ u69_ u70_ u71_ u72_ u73_ u74_ u75_ u76_ u77_ u78_ u79_ u80_ u81_ u82_ u83_ u84_ u85_ u86_ u87_ u88_ u89_ u90_ u91_ u92_ u93_ u94_ u95_ u96_ u97_ u98_ u99_ u100_:Value) (b:Bool) (x1:Sig.Wire) (q1:WV) (w1:World),WrIs w1 g O x1 q1→Only (WW g O w) w w1→q1.gl=q.gl→q1.bent≤q.bent+2→x1.ones≤x.ones→x1.l=x.l→x.pass on=Sig.Wire.pass3 x1 b→K5 ⟨#[.pointer (some ⟨g,0,none⟩),.bool b,u2_,u3_,u4_,u5_,u6_,u7_,u8_,u9_,u10_,u11_,u12_,u13_,u14_,u15_,u16_,u17_,u18_,u19_,u20_,u21_,u22_,u23_,u24_,u25_,u26_,u27_,u28_,u29_,u30_,u31_,u32_,u33_,u34_,u35_,u36_,u37_,u38_,u39_,u40_,u41_,u42_,u43_,u44_,u45_,u46_,u47_,u48_,u49_,u50_,u51_,u52_,u53_,u54_,u55_,u56_,u57_,u58_,u59_,u60_,u61_,u62_,u63_,u64_,u65_,u66_,u67_,u68_,u69_,u70_,u71_,u72_,u73_,u74_,u75_,u76_,u77_,u78_,u79_,u80_,u81_,u82_,u83_,u84_,u85_,u86_,u87_,u88_,u89_,u90_,u91_,u92_,u93_,u94_,u95_,u96_,u97_,u98_,u99_,u100_],[]⟩ w1):=by
   refine⟨fun u2_ u3_ u4_ u5_ u6_ u7_ u8_ u9_ u10_ u11_ u12_ u13_ u14_ u15_ u16_ u17_ u18_ u19_ u20_ u21_ u22_ u23_ u24_ u25_ u26_ u27_ u28_ u29_ u30_ u31_ u32_ u33_ u34_ u35_ u36_ u37_ u38_ u39_ u40_ u41_ u42_ u43_ u44_ u45_ u46_ u47_ u48_ u49_ u50_ u51_ u52_ u53_ u54_ u55_ u56_ u57_ u58_ u59_ u60_ u61_ u62_ u63_ u64_ u65_ u66_ u67_ u68_ u69_ u70_ u71_ u72_ u73_ u74_ u75_ u76_ u77_ u78_ u79_ u80_ u81_ u82_ u83_ u84_ u85_ u86_ u87_ u88_ u89_ u90_ u91_ u92_ u93_ u94_ u95_ u96_ u97_ u98_ u99_ u100_ b x1 q1 w1 h1 o1 e1 e2 e3 e4 e5=>k5 _ _ ?_⟩;clear k5;have H1:=am h1;have O1:=am o1;have E1:=am e1;have E2:=am e2;have E3:=am e3;have E4:=am e4;have E5:=am e5;clear h1 o1 e1 e2 e3 e4 e5;obtain⟨c0,c1,c2,c3,c4,cf⟩:=H1.out.cs;rcases hx:x1.l with _|⟨b0,r0⟩
   ·rw[hx] at c0;simp only[List.length_nil] at c0;go_wp2;go_ret;have hp:x.pass on=(x1,b):=by rw[E5.out];unfold Sig.Wire.pass3;rw[hx];obtain⟨l,m,n⟩:=x1;simp only at hx;subst hx;rfl
    rw[hp];exact⟨rfl,q1,E2.out,E1.out,H1.out,O1.out⟩
   ·have hlen:0<x1.l.length:=by rw[hx];simp
    have hle:x1.l.length≤1000000:=by rw[E4.out];exact HL.out
    have hil:q1.i<x1.l.length:=by obtain⟨_,_,_,_,h3⟩:=H1.out.ex;omega
    have hp:x.pass on=(⟨r0++[b],x1.mask,x1.ones⟩,b0):=by rw[E5.out];unfold Sig.Wire.pass3;rw[hx]
    have ht:=fun (W:World) (h:WrIs W g O x1 q1)=>WrIs.turn (on:=b) h hx (i':=((q1.i:Int)+1)%(x1.l.length:Int)) (by push_cast;rfl);obtain⟨i,hi⟩:∃i,q1.i=i:=⟨_,rfl⟩;obtain⟨n,hn⟩:∃n,x1.l.length=n:=⟨_,rfl⟩;obtain⟨gl,hgl⟩:∃n,q1.gl=n:=⟨_,rfl⟩;skip;have hne:=H1.out.ne;have HT:=am ht;have HPS:=am hp;have t1:=(ht w1 H1.out).1;have t2:=(ht w1 H1.out).2.1;simp only[hi,hn,hgl] at c0 c1 t1 t2 hlen hle hil hne;have HI:=am hi;have HN:=am hn;have HG:=am hgl;have HX:=am hx;clear ht hp hi hn hgl hx;have hne2:¬gl=g:=fun e=>hne e.symm;have p1:=eq_true (show 0≤(i:Int) by omega);have p2:=eq_true (show (i:Int)<(n:Int) by omega);have q2:((n:Int)==0)=false:=beq_eq_false_iff_ne.mpr (by omega);have q3:(n==0)=false:=beq_eq_false_iff_ne.mpr (by omega);have q4:¬(n=0):=by omega
    have q5:¬((n:Int)=0):=by omega
    refine sq fun K6 J6=>?_;go_wp2;refine J6.out _ _ ?_;clear J6;go_wp2
    repeat (go_quiet (fail);try go_wp2)
    go_region
    go_wp2
    go_region
    go_wp2;go_ret;rw[HPS.out];have hD:WrIs (w1.drewN (nq+1)) g O x1 q1:=H1.out.only ((Only.refl (fun _=>False) w1).drewN _) (fun h=>h) (fun _ _ _ h=>h);have hT:=(HT.out _ hD).2.2;rw[HI.out,HN.out,HG.out] at hT;have HTT:=am hT;clear hT hD;exact⟨rfl,{ q1 with gl:=gl,i:=(i+1)%n },E2.out,HG.out.symm.trans E1.out,HTT.out.1.below (qaf (Below.refl _ _)),WW.step O1.out (WW.step (w1:=w1.drewN (nq+1)) ((Only.refl (WW g O w1) w1).drewN _) (HTT.out.2.drewN 1))⟩
  clear k5;by_cases h0:0<x1.ones
  ·obtain⟨n,hn⟩:∃n,x1.ones=n+1:=⟨x1.ones-1,by omega⟩;have ew:wrap64 ((n:Nat):Int)=((n:Nat):Int):=by have:=HO.out;have:=E3.out;unfold wrap64;omega
   have e0:=eq_true (show 0<n+1 by omega);obtain⟨bt,hbt⟩:∃n,q1.bent=n:=⟨_,rfl⟩;have eb:wrap64 ((bt:Int)+1)=((bt+1:Nat):Int):=by have:=HB.out;have:=E2.out;unfold wrap64;omega
   have hp:=E5.out;unfold Sig.Wire.pass2 at hp;rw[if_pos h0,hn,Nat.add_sub_cancel] at hp;have HP:=am hp;have HN:=am hn;have HBT:=am hbt;rw[hn] at c3;rw[hbt] at c4;clear hp hn h0 hbt;have hI:=H1.out.cell 3 (.int .i64 (n:Int)) (x':={ x1 with ones:=n }) (q':=q1) rfl rfl rfl rfl H1.out.mask;have hO:=WW.step O1.out (Only.cellW g O w1 3 (.int .i64 (n:Int)));have HI2:=am hI;have HO2:=am hO;clear hI hO;cases b with
   |true =>
    go_wp2;exact J5.out _ _ _ _ _ _ _ _ _ _ _ _ _ _ _ _ _ _ _ _ _ _ _ _ _ _ _ _ _ _ _ _ _ _ _ _ _ _ _ _ _ _ _ _ _ _ _ _ _ _ _ _ _ _ _ _ _ _ _ _ _ _ _ _ _ _ _ _ _ _ _ _ _ _ _ _ _ _ _ _ _ _ _ _ _ _ _ _ _ _ _ _ _ _ _ _ _ _ _ true _ _ _ HI2.out HO2.out E1.out (by have:=E2.out;omega) (by have:=E3.out;have:=HN.out;show n≤_;omega) E4.out HP.out
   |false =>
    have hJ:=HI2.out.cell 4 (.int .i64 ((bt:Int)+1)) (x':={ x1 with ones:=n }) (q':={ q1 with bent:=q1.bent+1 }) (by rw[←HBT.out];rfl) rfl rfl rfl HI2.out.mask;have hO:=WW.step HO2.out (Only.cellW g O _ 4 (.int .i64 ((bt:Int)+1)));have HI3:=am hJ;have HO3:=am hO;clear hJ hO;go_wp2;exact J5.out _ _ _ _ _ _ _ _ _ _ _ _ _ _ _ _ _ _ _ _ _ _ _ _ _ _ _ _ _ _ _ _ _ _ _ _ _ _ _ _ _ _ _ _ _ _ _ _ _ _ _ _ _ _ _ _ _ _ _ _ _ _ _ _ _ _ _ _ _ _ _ _ _ _ _ _ _ _ _ _ _ _ _ _ _ _ _ _ _ _ _ _ _ _ _ _ _ _ _ true _ _ _ HI3.out HO3.out E1.out (by have:=E2.out;show q1.bent+1≤_;omega) (by have:=E3.out;have:=HN.out;show n≤_;omega) E4.out HP.out
  ·have e0:=eq_false h0;have hp:=E5.out;unfold Sig.Wire.pass2 at hp;rw[if_neg h0] at hp;have HP:=am hp;have h00:x1.ones=0:=by omega
   rw[h00] at c3;clear hp h0 h00 e0;skip;go_wp2;exact J5.out _ _ _ _ _ _ _ _ _ _ _ _ _ _ _ _ _ _ _ _ _ _ _ _ _ _ _ _ _ _ _ _ _ _ _ _ _ _ _ _ _ _ _ _ _ _ _ _ _ _ _ _ _ _ _ _ _ _ _ _ _ _ _ _ _ _ _ _ _ _ _ _ _ _ _ _ _ _ _ _ _ _ _ _ _ _ _ _ _ _ _ _ _ _ _ _ _ _ _ b _ _ _ H1.out O1.out E1.out (by have:=E2.out;omega) E3.out E4.out HP.out
 clear k3;obtain⟨c0,c1,c2,c3,c4,cf⟩:=H0.out.cs;rcases hm:x.mask with _|⟨m,r⟩
 ·have hk:=H0.out.mask;rw[hm] at hk;obtain⟨A,c,hv,-,-,-⟩:=hk.slice;rw[hv] at c2;simp only[bools,List.map_nil,List.length_nil] at c2;have HM:=am hm;clear hk hv hm;go_wp2;exact J3.out _ _ _ _ _ _ _ _ _ _ _ _ _ _ _ _ _ _ _ _ _ _ _ _ _ _ _ _ _ _ _ _ _ _ _ _ _ _ _ _ _ _ _ _ _ _ _ _ _ _ _ _ _ _ _ _ _ _ _ _ _ _ _ _ _ _ _ _ _ _ _ _ _ _ _ _ _ _ _ _ _ _ _ _ _ _ _ _ _ _ _ _ _ _ _ _ _ _ _ on x q w H0.out (Only.refl _ _) rfl (by omega) (Nat.le_refl _) rfl (qrg HM.out on)
 ·have hk:=H0.out.mask;rw[hm] at hk;have hkt:=Rw.tail hk;obtain⟨n,hn⟩:∃n,r.length+1=n:=⟨_,rfl⟩;obtain⟨A,c,hv,-,-,-⟩:=hk.slice;rw[qbb,List.length_cons,hn] at hv;rw[hv] at hk hkt c2;obtain⟨go,off,rfl,hc⟩:=hk.cells (by simp[bools]);have kb:w.cell? ⟨go,off,none⟩=some (.bool m):=hc 0 _ rfl;have n1:1≤n:=by omega
  obtain⟨i0,hi,-,hz1,-⟩:=info_parts el4.info;have hcut:=run_tail 94 4 .i64 el4.ht hi hz1 (some ⟨go,off,none⟩) n c n1;obtain⟨TA,tm,TC,htv⟩:∃A m k,qct (.slice (some ⟨go,off,none⟩) n c)=.slice A m k:=⟨_,_,_,rfl⟩;rw[htv] at hcut hkt;obtain⟨bt,hbt⟩:∃n,q.bent=n:=⟨_,rfl⟩;have eb:wrap64 ((bt:Int)+1)=((bt+1:Nat):Int):=by have:=HB.out;unfold wrap64;omega
  rw[hbt] at c4;have HBT:=am hbt;have HM:=am hm;have HKT:=am hkt;have e0:=eq_true (show 0<n by omega);have HV:=am hv;clear hi hz1 hc hk htv hbt hm hkt hn n1 hv;cases m with
  |false =>
   have hJ:=H0.out.cell 2 (.slice TA tm TC) (x':={ x with mask:=r }) (q':={ q with vm:=.slice TA tm TC }) rfl rfl rfl rfl HKT.out;have hO:=Only.cellW g O w 2 (.slice TA tm TC);have HI3:=am hJ;have HO3:=am hO;clear hJ hO;go_wp2;exact J3.out _ _ _ _ _ _ _ _ _ _ _ _ _ _ _ _ _ _ _ _ _ _ _ _ _ _ _ _ _ _ _ _ _ _ _ _ _ _ _ _ _ _ _ _ _ _ _ _ _ _ _ _ _ _ _ _ _ _ _ _ _ _ _ _ _ _ _ _ _ _ _ _ _ _ _ _ _ _ _ _ _ _ _ _ _ _ _ _ _ _ _ _ _ _ _ _ _ _ _ on _ _ _ HI3.out HO3.out rfl (by show q.bent≤_;omega) (Nat.le_refl _) rfl (by rw[qke HM.out];cases on <;> rfl)
  |true =>
   have hJ1:=H0.out.cell 4 (.int .i64 ((bt:Int)+1)) (x':=x) (q':={ q with bent:=q.bent+1 }) (by rw[←HBT.out];rfl) rfl rfl rfl H0.out.mask;have hJ:=hJ1.cell 2 (.slice TA tm TC) (x':={ x with mask:=r }) (q':={ q with bent:=q.bent+1,vm:=.slice TA tm TC }) rfl rfl rfl rfl (HKT.out.only (w':=w.setCell ⟨g,4,none⟩ (.int .i64 ((bt:Int)+1))) ((Only.refl (·=g) w).set rfl _) (fun k _ ht _ e=>by have e:k=g:=e;subst e;exact absurd (ht.ne H0.out.blk.typed) (by decide)));have hO:=WW.step (Only.cellW g O w 4 (.int .i64 ((bt:Int)+1))) (Only.cellW g O _ 2 (.slice TA tm TC));have HI3:=am hJ;have HO3:=am hO;clear hJ1 hJ hO;go_wp2;exact J3.out _ _ _ _ _ _ _ _ _ _ _ _ _ _ _ _ _ _ _ _ _ _ _ _ _ _ _ _ _ _ _ _ _ _ _ _ _ _ _ _ _ _ _ _ _ _ _ _ _ _ _ _ _ _ _ _ _ _ _ _ _ _ _ _ _ _ _ _ _ _ _ _ _ _ _ _ _ _ _ _ _ _ _ _ _ _ _ _ _ _ _ _ _ _ _ _ _ _ _ (!on) _ _ _ HI3.out HO3.out rfl (by show q.bent+1≤_;omega) (Nat.le_refl _) rfl (by rw[qke HM.out];cases on <;> rfl)
theorem info4:(Tryz.prog.info? 4).map (fun i=>(i.zero,i.size,i.bytes))=some (some (.bool false),1,1):=by kernel_rfl
theorem qrt (d:Nat):(madeCells #[.bool false] d)=(bools (List.replicate d false)).toArray:=by
 apply Array.ext
 ·simp[madeCells,bools]
 ·intro i h1 h2;simp[madeCells,bools,Nat.mod_one]
theorem qm2 (d:Nat) (hd:d≤65536) (w:World) :
  Calls Tryz.prog 24 #[.int .i64 (d:Int)] w fun e w'=>e=.returned (.tuple #[.pointer (some ⟨w.heap.size+1,0,none⟩),.int .i64 0])∧w'=(w.alloc (.cells (madeCells #[.bool false] d) 4)).alloc (.cells #[.slice (some ⟨w.heap.size,0,none⟩) d d,.int .i64 0,.slice none 0 0,.int .i64 0,.int .i64 0] 134):=by
 have hm:=qiu (P:=Tryz.prog) 94 4 (.bool false) 1 el4.ht info4 rfl (by decide) d (by omega);have d1:decide ((d:Int)<0)=false:=decide_eq_false (by omega);have d2:decide ((65536:Int)<(d:Int))=false:=decide_eq_false (by omega);have d3:decide (65536<d)=false:=decide_eq_false (by omega);go_enter Tryz.func24,Tryz.ntmps24;go_wp2;go_ret2;exact⟨rfl,rfl⟩
theorem qf2 (d:Nat) (hd:d≤65536) (w:World) :
  Calls Tryz.prog 24 #[.int .i64 (d:Int)] w fun e w'=>∃g q,e=.returned (.tuple #[.pointer (some ⟨g,0,none⟩),.int .i64 0])∧q.bent=0∧w.heap.size≤g∧g<w'.heap.size∧WrIs w' g (fun k=>w.heap.size≤k∧k<w'.heap.size) ⟨List.replicate d false,[],0⟩ q∧Below w.heap.size w w':=by
 refine(qm2 d hd w).mono ?_;rintro e w' ⟨rfl,rfl⟩;have hsz:((w.alloc (.cells (madeCells #[.bool false] d) 4)).alloc (.cells #[.slice (some ⟨w.heap.size,0,none⟩) d d,.int .i64 0,.slice none 0 0,.int .i64 0,.int .i64 0] 134)).heap.size=w.heap.size+2:=by simp[World.alloc_eq]
 refine⟨w.heap.size+1,⟨w.heap.size,0,0,.slice none 0 0⟩,rfl,rfl,by omega,by omega,⟨?_,⟨List.replicate d false,?_,rfl,by simp,?_⟩,⟨Nat.le_refl _,by show w.heap.size<_;omega⟩,Rw.nil _ _ _⟩,qaa (qaa (Below.refl _ _) _) _⟩
 ·have:=heap_alloc_new (w.alloc (.cells (madeCells #[.bool false] d) 4)) (.cells #[.slice (some ⟨w.heap.size,0,none⟩) d d,.int .i64 0,.slice none 0 0,.int .i64 0,.int .i64 0] 134);have hs:(w.alloc (.cells (madeCells #[.bool false] d) 4)).heap.size=w.heap.size+1:=by simp[World.alloc_eq]
  rw[hs] at this;unfold Blk qd9;simp only[List.length_replicate];exact this
 ·unfold Blk;rw[←qrt,Below.heap_alloc _ _ _ (by simp)];exact heap_alloc_new w _
 ·simp only[List.length_replicate];omega
theorem WrIs.mono' {g:Nat} {O:Nat→Prop} {w:World} {x:Sig.Wire} {q:WV} (h:WrIs w g O x q) (w0:World):WrIs w g (qbe O w0 w) x q:=⟨h.blk,h.ex,Or.inl h.gl,h.mask.mono (fun k hk _ _ _=>⟨Or.inl hk.1,hk.2⟩)⟩
theorem WrIs.grow_set {g:Nat} {O:Nat→Prop} {w0 w:World} {i:Nat} {v:Value} {x:Sig.Wire} {q:WV} (h:WrIs (w.setCell ⟨g,i,none⟩ v) g (qbe O w0 w) x q):WrIs (w.setCell ⟨g,i,none⟩ v) g (qbe O w0 (w.setCell ⟨g,i,none⟩ v)) x q:=by
 have e:∀k,qbe O w0 w k→qbe O w0 (w.setCell ⟨g,i,none⟩ v) k:=fun k hk=>hk.imp id (fun hk=>⟨hk.1,by rw[qa0];exact hk.2⟩);exact⟨h.blk,h.ex,e _ h.gl,h.mask.mono (fun k hk _ _ _=>⟨e k hk.1,hk.2⟩)⟩
theorem qsz {g:Nat} {O M:Nat→Prop} {w:World} {x:Sig.Wire} {q:WV} (h:WrIs w g O x q) {nv:Value} {l:List Bool} (hn:Rw w M 4 nv (bools l)) (hl:x.mask.length+l.length≤65536) :
  ∃A1 c1 w1,(Builtin.append_ #[94,94] 94 #[q.vm,nv]).run Tryz.prog w=.ok (.slice A1 (x.mask.length+l.length) c1) w1∧Blk w1 g 134 (qd9 x q)∧WrIs (w1.setCell ⟨g,2,none⟩ (.slice A1 (x.mask.length+l.length) c1)) g (qbe O w w1) { x with mask:=x.mask++l } { q with vm:=.slice A1 (x.mask.length+l.length) c1 }∧Only (WW g O w) w (w1.setCell ⟨g,2,none⟩ (.slice A1 (x.mask.length+l.length) c1)):=by
 obtain⟨v1,w1,hrun,hR1,hO1,hat⟩:=Rw.append el4 94 (P:=fun k=>(O k∧k≠q.gl)∨w.heap.size≤k) (h.mask.mono (fun k hk _ _ _=>Or.inl hk)) hn (qg0 l) (qg0 _) (by rw[qbb,qbb];omega) (fun k hk=>Or.inr hk);have hap:bools x.mask++bools l=bools (x.mask++l):=by simp[bools]
 rw[hap] at hR1;obtain⟨A1,c1,e1,-,-,hty⟩:=hR1.slice;rw[qbb,List.length_append] at e1;subst e1;have hty0:∀k,qau q.vm=some k→Typed w k 4∧O k∧k≠q.gl:=by
  intro k hk;obtain⟨A',c',e,_,_,h⟩:=h.mask.slice;exact⟨(h k hk).2.1,(h k hk).1⟩
 have hg1:¬qau q.vm=some g:=fun e=>absurd ((hty0 g e).1.ne h.blk.typed) (by decide);obtain⟨lm,hb,hex⟩:=h.ex;have hblk:=h.blk.only hO1 hg1;have hrow:=hb.only hO1 (fun e=>(hty0 _ e).2.2 rfl);have hs:Only (·=g) w1 (w1.setCell ⟨g,2,none⟩ (.slice A1 (x.mask.length+l.length) c1)):=(Only.refl (·=g) w1).set rfl _;refine⟨A1,c1,w1,hrun,hblk,⟨?_,⟨lm,hrow.far (fun e=>h.ne e.symm) _,hex⟩,Or.inl h.gl,?_⟩,?_⟩
 ·have e:=hblk.set 2 (.slice A1 (x.mask.length+l.length) c1);exact e
 ·refine(hR1.mono (fun k hk _ hlt hbk=>?_)).only hs (fun k _ ht _ e=>by have e:k=g:=e;subst e;exact absurd (ht.ne hblk.typed) (by decide));rcases hk with hk|hk
  ·exact⟨Or.inl hk.1,hk.2⟩
  ·exact⟨Or.inr ⟨hk,hlt⟩,fun e=>by have:=hb.lt;have e:k=q.gl:=e;omega⟩
 ·exact(hO1.mono (Q:=WW g O w) (fun k hk=>Or.inr ⟨(hty0 k hk).2.1,(hty0 k hk).1⟩)).set (p:=⟨g,2,none⟩) (Or.inl rfl) _
theorem qjl {g:Nat} {O M:Nat→Prop} {w:World} {x:Sig.Wire} {q:WV} (h:WrIs w g O x q) {nv:Value} {l:List Bool} (hn:Rw w M 4 nv (bools l)) (hx:x.mask.length≤65536) (hl:l.length≤65536) :
  Calls Tryz.prog 26 #[.pointer (some ⟨g,0,none⟩),nv] w fun e w'=>∃q',e=.returned (.int .i64 (if 65536<x.mask.length+l.length then 3 else 0))∧q'.gl=q.gl∧q'.bent=q.bent∧WrIs w' g (qbe O w w') (if 65536<x.mask.length+l.length then x else { x with mask:=x.mask++l }) q'∧Only (WW g O w) w w':=by
 obtain⟨c0,c1,c2,c3,c4,cf⟩:=h.cs;obtain⟨Am,cm,hvm,-,-,-⟩:=h.mask.slice;obtain⟨An,cn,hvn,-,-,-⟩:=hn.slice;rw[qbb] at hvm hvn;have H0:=am h;have HN:=am hn;subst hvn;rw[hvm] at c2;have HVM:=am hvm;clear h hn hvm;by_cases hb:65536<x.mask.length+l.length
 ·simp only[if_pos hb];have ew:wrap64 ((x.mask.length:Int)+(l.length:Int))=((x.mask.length+l.length:Nat):Int):=by unfold wrap64;omega
  have d1:decide ((65536:Int)<(x.mask.length:Int)+(l.length:Int))=true:=decide_eq_true (by omega);have d2:decide (65536<x.mask.length+l.length)=true:=decide_eq_true hb;go_enter Tryz.func26,Tryz.ntmps26;go_wp2;go_ret;exact⟨q,rfl,rfl,rfl,H0.out.mono' _,Only.refl _ _⟩
 ·simp only[if_neg hb];have ew:wrap64 ((x.mask.length:Int)+(l.length:Int))=((x.mask.length+l.length:Nat):Int):=by unfold wrap64;omega
  have d1:decide ((65536:Int)<(x.mask.length:Int)+(l.length:Int))=false:=decide_eq_false (by omega);have d2:decide (65536<x.mask.length+l.length)=false:=decide_eq_false hb;obtain⟨A1,k1,w1,hrun,hb1,hi1,ho1⟩:=qsz H0.out HN.out (by omega);rw[HVM.out] at hrun;have b0:=Blk.c hb1 2 rfl;have bf:=Blk.f hb1;have HRUN:=am hrun;have HI:=am hi1;have HO:=am ho1;clear hrun hi1 ho1 hb1 hb;generalize x.mask.length=n at *;generalize l.length=m at *;go_enter Tryz.func26,Tryz.ntmps26
  go_wp2_with (first|fail|((with_reducible refine qao (b:=.append) (xs:=#[.tmp 22,.tmp 23]) rfl ?_);refine qap rfl (.tmp 22) (.tmp 23) 94 rfl (.slice Am n cm) (.slice An m cn) rfl rfl (.slice A1 (n+m) k1) w1 HRUN.out ?_))
  go_ret;refine⟨_,rfl,?_,?_,HI.out.grow_set,HO.out⟩
  ·rfl
  ·rfl
structure Stp (lab:Nat→Nat) (w:World) (i:Nat) (lab':Nat→Nat) (w':World):Prop where
 old:∀k,k<w.heap.size→lab' k=lab k
 new:∀k,w.heap.size≤k→k<w'.heap.size→lab' k=i
 only:Only (fun k=>lab k=i∧¬Typed w k 5) w w'
def qaj (lab:Nat→Nat) (w:World) (i:Nat) (k:Nat):Nat:=if k<w.heap.size then lab k else i
theorem qa1 {lab:Nat→Nat} {w:World} {i k:Nat} (h:k<w.heap.size):qaj lab w i k=lab k:=if_pos h
theorem qas {lab:Nat→Nat} {w:World} {i k:Nat} (h:w.heap.size≤k):qaj lab w i k=i:=if_neg (by omega)
theorem Stp.mk' {lab:Nat→Nat} {w w':World} {i:Nat} (h:Only (fun k=>lab k=i∧¬Typed w k 5) w w'):Stp lab w i (qaj lab w i) w':=⟨fun k hk=>qa1 hk,fun k hk _=>qas hk,h⟩
structure Stps (lab:Nat→Nat) (w:World) (P:Nat→Prop) (lab':Nat→Nat) (w':World):Prop where
 old:∀k,k<w.heap.size→lab' k=lab k
 new:∀k,w.heap.size≤k→k<w'.heap.size→P (lab' k)
 only:Only (fun k=>P (lab k)∧¬Typed w k 5) w w'
section
variable {lab lab' lab'':Nat→Nat} {w w' w'':World} {i j:Nat} {P P':Nat→Prop}
theorem Stp.stps (h:Stp lab w i lab' w') (hp:P i):Stps lab w P lab' w':=⟨h.old,fun k h1 h2=>by rw[h.new k h1 h2];exact hp,h.only.mono (fun k hk=>⟨by rw[hk.1];exact hp,hk.2⟩)⟩
theorem Stps.refl (lab:Nat→Nat) (w:World) (P:Nat→Prop):Stps lab w P lab w:=⟨fun _ _=>rfl,fun k h1 h2=>by omega,Only.refl _ _⟩
theorem Stps.mono (h:Stps lab w P lab' w') (hp:∀i,P i→P' i):Stps lab w P' lab' w':=⟨h.old,fun k h1 h2=>hp _ (h.new k h1 h2),h.only.mono (fun k hk=>⟨hp _ hk.1,hk.2⟩)⟩
theorem Stps.trans (h:Stps lab w P lab' w') (h':Stps lab' w' P lab'' w''):Stps lab w P lab'' w'':=by
 have hs:=h.only.size;refine⟨fun k hk=>(h'.old k (by omega)).trans (h.old k hk),fun k h1 h2=>?_,h'.only.os.trans h.only.os,h'.only.tape.trans h.only.tape,h'.only.output.trans h.only.output,Nat.le_trans h.only.size h'.only.size,fun k hk hn=>?_⟩
 ·by_cases hk:k<w'.heap.size
  ·rw[h'.old k hk];exact h.new k h1 hk
  ·exact h'.new k (by omega) h2
 ·refine(h'.only.block k (by omega) (fun e=>hn ⟨?_,fun ht=>e.2 ?_⟩)).trans (h.only.block k hk hn)
  ·rw[←h.old k hk];exact e.1
  ·obtain⟨c,fr,hc⟩:=ht;exact⟨c,fr,(h.only.block k hk hn).trans hc⟩
theorem Stps.below (hb:Below w.heap.size w w') (hp:P i):Stps lab w P (qaj lab w i) w':=(Stp.mk' (qag hb |>.mono (fun _ h=>h.elim))).stps hp
theorem Stps.noOct (h:Stps lab w P lab' w'):qca (fun k=>P (lab k)∧¬Typed w k 5) w:=fun k hk ht=>hk.2 ht
theorem Stps.oct (h:Stps lab w P lab' w') {v:Value} {l:List Nat} (ho:Oct w v l):Oct w' v l:=ho.only h.only h.noOct
theorem Stps.blk (h:Stps lab w P lab' w') {g t:Nat} {cs:List Value} (hb:Blk w g t cs) (hl:¬P (lab g)):Blk w' g t cs:=hb.only h.only (fun e=>hl e.1)
theorem Stps.lb (h:Stps lab w P lab' w') {g t:Nat} {cs:List Value} (hb:Blk w g t cs):lab' g=lab g:=h.old g hb.lt
theorem Stps.set (h:Stps lab w P lab' w') {g t:Nat} {cs:List Value} (hb:Blk w' g t cs) (ht:t≠5) (hl:P (lab' g)) (n:Nat) (v:Value):Stps lab w P lab' (w'.setCell ⟨g,n,none⟩ v) :=
 h.trans ⟨fun _ _=>rfl,fun k h1 h2=>by rw[qa0] at h2;omega,(Only.refl _ w').set (p:=⟨g,n,none⟩) ⟨hl,fun h5=>ht (hb.typed.ne h5)⟩ v⟩
end
def qma (g:Nat) (A:Adr) (O:Nat→Prop) (k:Nat):Prop:=k=g∨Own A k∨k=A.w∨k=A.h∨O k
def PoS (w:World) (lab:Nat→Nat) (i g:Nat) (A:Adr) (p:Sig.Post) (q:PoV):Prop:=∃O vt,PoIs w g A O p q vt∧∀k,qma g A O k→lab k=i
section
variable {lab lab':Nat→Nat} {w w':World} {i j g:Nat} {A:Adr} {O P:Nat→Prop} {p p':Sig.Post} {q q':PoV} {vt vt':Value}
theorem PoIs.lt (h:PoIs w g A O p q vt) (k:Nat) (hk:qma g A O k):k<w.heap.size:=by
 have tl:∀k t,Typed w k t→k<w.heap.size:=fun k t ⟨c,_,e⟩=>(Array.getElem?_eq_some_iff.1 e).1;rcases hk with rfl|hk|rfl|rfl|hk
 ·exact tl _ _ h.typed
 ·exact h.lk.own_lt k hk
 ·exact h.way.typed.1.elim (tl _ _) (tl _ _)
 ·exact tl _ _ h.way.typed.2
 ·exact(h.lk.lt k hk).1
theorem qsy {k:Nat} (h:WrP g A O w k):qma g A O k:=by
 rcases h with h|((h|⟨h,ht⟩)|(h|h|⟨h,ht⟩))|⟨h,ht⟩
 ·exact Or.inl h
 ·exact Or.inr (Or.inl h)
 ·exact Or.inr (Or.inr (Or.inr (Or.inr h)))
 ·exact Or.inr (Or.inr (Or.inl h))
 ·exact Or.inr (Or.inr (Or.inr (Or.inl h)))
 ·exact Or.inr (Or.inr (Or.inr (Or.inr h)))
 ·exact Or.inr (Or.inr (Or.inr (Or.inr h)))
theorem PoIs.only {Q:Nat→Prop} (h:PoIs w g A O p q vt) (ho:Only Q w w') (hq:∀k,qma g A O k→¬Q k) (h5:qca Q w):PoIs w' g A O p q vt:=by
 have hO:∀k,O k→¬Q k:=fun k hk=>hq k (Or.inr (Or.inr (Or.inr (Or.inr hk))));exact⟨h.blk.only ho (hq _ (Or.inl rfl)),h.lk.far ho (fun k hk=>hq k (Or.inr (Or.inl hk))) (fun k hk _=>hO k hk) h5,h.way.only ho (hq _ (Or.inr (Or.inr (Or.inl rfl)))) (hq _ (Or.inr (Or.inr (Or.inr (Or.inl rfl))))) (fun k hk _=>hO k hk) h5,h.rows.only ho h5 (fun k hk _=>hO k hk)⟩
theorem PoS.far (h:PoS w lab i g A p q) (hs:Stps lab w P lab' w') (hij:¬P i):PoS w' lab' i g A p q:=by
 obtain⟨O,vt,hi,hl⟩:=h;exact⟨O,vt,hi.only hs.only (fun k hk e=>hij (hl k hk▸e.1)) hs.noOct,fun k hk=>(hs.old k (hi.lt k hk)).trans (hl k hk)⟩
theorem PoS.step (h:PoIs w g A O p q vt) (hl:∀k,qma g A O k→lab k=i) (ha:PAcc g A O w p' q' vt' w'):PoS w' (qaj lab w i) i g A p' q'∧Stp lab w i (qaj lab w i) w':=by
 refine⟨⟨_,_,ha.is,fun k hk=>?_⟩,Stp.mk' (ha.only.mono (fun k hk=>⟨hl k (qsy hk),fun ht=>h.wrp_not ht (by decide) hk⟩))⟩;by_cases hlt:k<w.heap.size
 ·rw[qa1 hlt];refine hl k ?_;rcases hk with hk|hk|hk|hk|hk|hk
  ·exact Or.inl hk
  ·exact Or.inr (Or.inl hk)
  ·exact Or.inr (Or.inr (Or.inl hk))
  ·exact Or.inr (Or.inr (Or.inr (Or.inl hk)))
  ·exact Or.inr (Or.inr (Or.inr (Or.inr hk)))
  ·omega
 ·exact qas (by omega)
theorem PoS.new (hn:qxq w g A O p q w'):PoS w' (qaj lab w i) i g A p q∧Stp lab w i (qaj lab w i) w' :=
 ⟨⟨_,_,hn.is,fun k hk=>qas (hn.own k hk).1⟩,Stp.mk' ((qag hn.below).mono (fun _ h=>h.elim))⟩
end
def WrS (w:World) (lab:Nat→Nat) (i g:Nat) (x:Sig.Wire) (q:WV):Prop:=∃O,WrIs w g O x q∧(∀k,k=g∨O k→lab k=i∧k<w.heap.size)
section
variable {lab lab':Nat→Nat} {w w':World} {i j g:Nat} {O P:Nat→Prop} {x x':Sig.Wire} {q q':WV}
theorem qsx (h:WrIs w g O x q) {k:Nat} (hk:WW g O w k):¬Typed w k 5:=fun ht=>by
 rcases hk with rfl|⟨_,h4⟩
 ·exact absurd (ht.ne h.blk.typed) (by decide)
 ·exact absurd (ht.ne h4) (by decide)
theorem WrS.far (h:WrS w lab i g x q) (hs:Stps lab w P lab' w') (hij:¬P i):WrS w' lab' i g x q:=by
 obtain⟨O,hi,hl⟩:=h;exact⟨O,hi.only hs.only (fun e=>hij ((hl g (Or.inl rfl)).1▸e.1)) (fun k hk _ e=>hij ((hl k (Or.inr hk)).1▸e.1)),fun k hk=>⟨(hs.old k (hl k hk).2).trans (hl k hk).1,Nat.lt_of_lt_of_le (hl k hk).2 hs.only.size⟩⟩
theorem WrS.step (h:WrIs w g O x q) (hl:∀k,k=g∨O k→lab k=i∧k<w.heap.size) (h':WrIs w' g (qbe O w w') x' q') (ho:Only (WW g O w) w w'):WrS w' (qaj lab w i) i g x' q'∧Stp lab w i (qaj lab w i) w':=by
 refine⟨⟨_,h',fun k hk=>?_⟩,Stp.mk' (ho.mono (fun k hk=>⟨(hl k (hk.imp id (fun e=>e.1))).1,qsx h hk⟩))⟩;rcases hk with hk|hk|hk
 ·have e:=hl k (Or.inl hk);exact⟨by rw[qa1 e.2];exact e.1,Nat.lt_of_lt_of_le e.2 ho.size⟩
 ·have e:=hl k (Or.inr hk);exact⟨by rw[qa1 e.2];exact e.1,Nat.lt_of_lt_of_le e.2 ho.size⟩
 ·exact⟨qas hk.1,hk.2⟩
theorem WrS.pass (h:WrIs w g O x q) (hl:∀k,k=g∨O k→lab k=i∧k<w.heap.size) (h':WrIs w' g O x' q') (ho:Only (WW g O w) w w'):WrS w' (qaj lab w i) i g x' q'∧Stp lab w i (qaj lab w i) w':=WrS.step h hl (h'.mono' w) ho
theorem WrS.new (h:WrIs w' g (fun k=>w.heap.size≤k∧k<w'.heap.size) x q) (h1:w.heap.size≤g) (h2:g<w'.heap.size) (hb:Below w.heap.size w w'):WrS w' (qaj lab w i) i g x q∧Stp lab w i (qaj lab w i) w' :=
 ⟨⟨_,h,fun k hk=>by
  rcases hk with rfl|hk
  ·exact⟨qas h1,h2⟩
  ·exact⟨qas hk.1,hk.2⟩⟩,Stp.mk' ((qag hb).mono (fun _ h=>h.elim))⟩
end
theorem qpv (a b:Value) (W:World):(Instr.index 79 (.agg #[a,b]) (.int .i64 0)).run Tryz.prog W=.ok a W:=by kernel_rfl
theorem qpu (a b:Value) (W:World):(Instr.index 79 (.agg #[a,b]) (.int .i64 1)).run Tryz.prog W=.ok b W:=by kernel_rfl
theorem qt4 (a b:Value) (W:World):(Instr.index 81 (.agg #[a,b]) (.int .i64 0)).run Tryz.prog W=.ok a W:=by kernel_rfl
theorem qt3 (a b:Value) (W:World):(Instr.index 81 (.agg #[a,b]) (.int .i64 1)).run Tryz.prog W=.ok b W:=by kernel_rfl
theorem qaw {l:List Bool} (h:l.length=8):∃b0 b1 b2 b3 b4 b5 b6 b7,l=[b0,b1,b2,b3,b4,b5,b6,b7]:=by
 match l,h with
 |[b0,b1,b2,b3,b4,b5,b6,b7],_=>exact⟨b0,b1,b2,b3,b4,b5,b6,b7,rfl⟩
structure PrA where
 b:Nat
 g0:Nat
 g1:Nat
 h0:Nat
 h1:Nat
 A0:Adr
 A1:Adr
structure PrV where
 q0:PoV
 q1:PoV
 r0:WV
 r1:WV
 time:Int
 vw:Value
def qb9 (X:PrA) (n0 n1:List Bool) (time:Int) (vw:Value):List Value:=[ptr X.g0,ptr X.g1,ptr X.h0,ptr X.h1]++bools n0++bools n1++[.int .i64 time,vw]
structure PrIs (w:World) (lab:Nat→Nat) (X:PrA) (x:Sig.Pair) (V:PrV):Prop where
 blk:Blk w X.b 86 (qb9 X x.n0 x.n1 V.time V.vw)
 lb:lab X.b=4
 p0:PoS w lab 0 X.g0 X.A0 x.p0 V.q0
 p1:PoS w lab 1 X.g1 X.A1 x.p1 V.q1
 w0:WrS w lab 2 X.h0 x.w0 V.r0
 w1:WrS w lab 3 X.h1 x.w1 V.r1
 n0:x.n0.length=8
 n1:x.n1.length=8
structure PoB (p:Sig.Post) (q:PoV) (n:Nat):Prop where
 inv:qg3 p
 fails:p.x.fails≤24*n
 told:p.x.told.length≤1000
 gone:q.gone≤8*n
 came:q.came≤8*n
 ends:q.ends≤2000000000
 ones:p.ear.ones≤8*n
 ns:q.ns≤8
theorem PoB.mono {p:Sig.Post} {q:PoV} {n m:Nat} (h:PoB p q n) (hm:n≤m):PoB p q m:=⟨h.inv,by have:=h.fails;omega,h.told,by have:=h.gone;omega,by have:=h.came;omega,h.ends,by have:=h.ones;omega,h.ns⟩
theorem qa7 {p:Sig.Post} (h:qg3 p) {inp:List Bool} (hl:inp.length=8):qg3 (p.tick inp).1∧More p.x (p.tick inp).1.x 56 24∧(p.tick inp).1.ear.ones≤p.ear.ones+8∧(p.tick inp).2.length=8:=by
 have h0:qg3 { p with x:=p.x.tick }:=⟨h.x.tick,h.ear⟩;have h1:=qdq inp h0;rw[hl] at h1;have h2:=qer 8 h1.1;have h3:=qec 8 (inp.foldl Sig.Post.inBit { p with x:=p.x.tick });have hm:=More.trans (qjq p.x) h1.2.1;have e:p.tick inp=Sig.Post.outBits 8 (inp.foldl Sig.Post.inBit { p with x:=p.x.tick }):=rfl;rw[e];refine⟨h2.1,⟨?_,?_⟩,?_,h3⟩
 ·rw[h2.2.1];exact hm.1
 ·rw[h2.2.2.1];exact hm.2
 ·rw[h2.2.2.2];exact h1.2.2.1
theorem PoB.tick {p:Sig.Post} {q q':PoV} {n:Nat} (h:PoB p q n) {inp:List Bool} (hl:inp.length=8) (h0:p.x.told.length≤900) (h1:q'.gone=q.gone+8) (h2:q'.came=q.came+8) (h3:q'.ends≤2000000000) (h4:q'.ns≤8):PoB (p.tick inp).1 q' (n+1):=by
 have k:=qa7 h.inv hl;exact⟨k.1,by have:=k.2.1.2;have:=h.fails;omega,by have:=k.2.1.1;omega,by have:=h.gone;omega,by have:=h.came;omega,h3,by have:=k.2.2.1;have:=h.ones;omega,h4⟩
section
variable {w w':World} {lab lab':Nat→Nat} {X:PrA} {x:Sig.Pair} {V:PrV} {P:Nat→Prop}
theorem PrIs.far (h:PrIs w lab X x V) (hs:Stps lab w P lab' w') (hp:∀i,P i→5≤i):PrIs w' lab' X x V:=by
 have n:∀i,i<5→¬P i:=fun i hi e=>by have:=hp i e;omega
 exact⟨hs.blk h.blk (by rw[h.lb];exact n 4 (by decide)),(hs.lb h.blk).trans h.lb,h.p0.far hs (n 0 (by decide)),h.p1.far hs (n 1 (by decide)),h.w0.far hs (n 2 (by decide)),h.w1.far hs (n 3 (by decide)),h.n0,h.n1⟩
theorem PrIs.below (h:PrIs w lab X x V) (hb:Below w.heap.size w w') (i:Nat):PrIs w' (qaj lab w i) X x V:=by
 have hs:Stps lab w (fun _=>False) lab w:=Stps.refl _ _ _;have o:Stps lab w (fun _=>False) (qaj lab w i) w'→PrIs w' (qaj lab w i) X x V:=fun hs=>h.far hs (fun _ e=>e.elim);have hk:∀j,(¬j=i)→(PoS w lab j=PoS w lab j):=fun _ _=>rfl;have old:∀k,k<w.heap.size→qaj lab w i k=lab k:=fun k hk=>qa1 hk;have ho:Only (fun _=>False) w w':=qag hb;have po:∀{j g A p q},PoS w lab j g A p q→PoS w' (qaj lab w i) j g A p q:=fun ⟨O,vt,hi,hl⟩=>⟨O,vt,hi.only ho (fun _ _ e=>e) (fun _ e=>e.elim),fun k hk=>(old k (hi.lt k hk)).trans (hl k hk)⟩;have wo:∀{j g x q},WrS w lab j g x q→WrS w' (qaj lab w i) j g x q:=fun ⟨O,hi,hl⟩=>⟨O,hi.only ho (fun e=>e) (fun _ _ _ e=>e),fun k hk=>⟨(old k (hl k hk).2).trans (hl k hk).1,Nat.lt_of_lt_of_le (hl k hk).2 ho.size⟩⟩;exact⟨h.blk.only ho (fun e=>e),(old _ h.blk.lt).trans h.lb,po h.p0,po h.p1,wo h.w0,wo h.w1,h.n0,h.n1⟩
theorem PrIs.own (h:PrIs w lab X x V) (hs:Stps lab w (·=4) lab' w') {x':Sig.Pair} {V':PrV} (hb:Blk w' X.b 86 (qb9 X x'.n0 x'.n1 V'.time V'.vw)) (e0:x'.p0=x.p0) (e1:x'.p1=x.p1) (e2:x'.w0=x.w0) (e3:x'.w1=x.w1) (f0:V'.q0=V.q0) (f1:V'.q1=V.q1) (f2:V'.r0=V.r0) (f3:V'.r1=V.r1) (l0:x'.n0.length=8) (l1:x'.n1.length=8):PrIs w' lab' X x' V':=by
 refine⟨hb,(hs.lb h.blk).trans h.lb,?_,?_,?_,?_,l0,l1⟩
 ·rw[e0,f0];exact h.p0.far hs (by decide)
 ·rw[e1,f1];exact h.p1.far hs (by decide)
 ·rw[e2,f2];exact h.w0.far hs (by decide)
 ·rw[e3,f3];exact h.w1.far hs (by decide)
theorem PrIs.post0 (h:PrIs w lab X x V) (hs:Stp lab w 0 lab' w') {p:Sig.Post} {q:PoV} (hp:PoS w' lab' 0 X.g0 X.A0 p q):PrIs w' lab' X { x with p0:=p } { V with q0:=q }:=by
 have s:=hs.stps (P:=(·=0)) rfl;exact⟨s.blk h.blk (by rw[h.lb];decide),(s.lb h.blk).trans h.lb,hp,h.p1.far s (by decide),h.w0.far s (by decide),h.w1.far s (by decide),h.n0,h.n1⟩
theorem PrIs.post1 (h:PrIs w lab X x V) (hs:Stp lab w 1 lab' w') {p:Sig.Post} {q:PoV} (hp:PoS w' lab' 1 X.g1 X.A1 p q):PrIs w' lab' X { x with p1:=p } { V with q1:=q }:=by
 have s:=hs.stps (P:=(·=1)) rfl;exact⟨s.blk h.blk (by rw[h.lb];decide),(s.lb h.blk).trans h.lb,h.p0.far s (by decide),hp,h.w0.far s (by decide),h.w1.far s (by decide),h.n0,h.n1⟩
theorem PrIs.wire0 (h:PrIs w lab X x V) (hs:Stp lab w 2 lab' w') {y:Sig.Wire} {r:WV} (hp:WrS w' lab' 2 X.h0 y r):PrIs w' lab' X { x with w0:=y } { V with r0:=r }:=by
 have s:=hs.stps (P:=(·=2)) rfl;exact⟨s.blk h.blk (by rw[h.lb];decide),(s.lb h.blk).trans h.lb,h.p0.far s (by decide),h.p1.far s (by decide),hp,h.w1.far s (by decide),h.n0,h.n1⟩
theorem PrIs.wire1 (h:PrIs w lab X x V) (hs:Stp lab w 3 lab' w') {y:Sig.Wire} {r:WV} (hp:WrS w' lab' 3 X.h1 y r):PrIs w' lab' X { x with w1:=y } { V with r1:=r }:=by
 have s:=hs.stps (P:=(·=3)) rfl;exact⟨s.blk h.blk (by rw[h.lb];decide),(s.lb h.blk).trans h.lb,h.p0.far s (by decide),h.p1.far s (by decide),h.w0.far s (by decide),hp,h.n0,h.n1⟩
theorem PrIs.c (h:PrIs w lab X x V) (i:Nat) {v:Value} (e:(qb9 X x.n0 x.n1 V.time V.vw)[i]?=some v):w.cell? ⟨X.b,i,none⟩=some v:=h.blk.c i e
end
def qlo (cyc:Bool) (t:List Nat):Sig.Post:=Sig.newPost cyc t
def qkk (d:Nat):Sig.Wire:=⟨List.replicate d false,[],0⟩
def qpl (i g0 g1 h0 h1:Nat):List Value:=[if 1≤i then ptr g0 else .pointer none,if 2≤i then ptr g1 else .pointer none,if 1≤i then ptr h0 else .pointer none,if 2≤i then ptr h1 else .pointer none]++List.replicate 16 (.bool false)++[.int .i64 0,.slice none 0 0]
theorem Stps.drew' (lab:Nat→Nat) (w:World) (P:Nat→Prop):Stps lab w P lab w.drew:=⟨fun _ _=>rfl,fun k h1 h2=>absurd (show k<w.heap.size from h2) (by omega),(Only.refl _ w).drewN 1⟩
structure Side (w:World) (lab:Nat→Nat) (s:Nat) (p:Sig.Post) (y:Sig.Wire) (g h:Nat) (A:Adr) (q:PoV) (r:WV):Prop where
 p:PoS w lab s g A p q
 w:WrS w lab (2+s) h y r
 q0:q.gone=0∧q.came=0∧q.ns=0∧q.ng=0∧q.ends=0
 r0:r.bent=0
theorem Side.far {w w':World} {lab lab':Nat→Nat} {s g h:Nat} {p:Sig.Post} {y:Sig.Wire} {A:Adr} {q:PoV} {r:WV} {P:Nat→Prop} (k:Side w lab s p y g h A q r) (hs:Stps lab w P lab' w') (h1:¬P s) (h2:¬P (2+s)):Side w' lab' s p y g h A q r:=⟨k.p.far hs h1,k.w.far hs h2,k.q0,k.r0⟩
structure NwA (w:World) (lab:Nat→Nat) (cyc:Bool) (cs:List Value) (p:Sig.Post) (y:Sig.Wire) (b c i:Nat) (w':World) (lab':Nat→Nat) (X:PrA) (V:PrV):Prop where
 st:Stps lab w (fun i=>i≤4) lab' w'
 set:Blk w' c 27 cs
 lc:lab' c=4
 blk:Blk w' b 86 (qpl i X.g0 X.g1 X.h0 X.h1)
 lb:lab' b=4
 s0:1≤i→Side w' lab' 0 p y X.g0 X.h0 X.A0 V.q0 V.r0
 s1:2≤i→Side w' lab' 1 p y X.g1 X.h1 X.A1 V.q1 V.r1
theorem qgh (cyc:Bool) (t0 t1 t2 t3 t4 t5 t6 t7:Nat) (ht:TOk t0 t1 t2 t3 t4 t5 t6 t7) (d:Nat) (hd:d≤65536) (w:World) (lab:Nat→Nat) :
  Calls Tryz.prog 8 #[setA cyc t0 t1 t2 t3 t4 t5 t6 t7,.int .i64 (d:Int)] w fun e w'=>∃lab' X V b c,e=.returned (.tuple #[.pointer (some ⟨b,0,none⟩),.int .i64 0])∧NwA w lab cyc (qe5 cyc t0 t1 t2 t3 t4 t5 t6 t7) (qlo cyc [t0,t1,t2,t3,t4,t5,t6,t7]) (qkk d) b c 2 w' lab' X V:=by
 have HT:=am ht;have HD:=am hd;clear ht hd;unfold setA;go_enter Tryz.func8,Tryz.ntmps8;refine sq fun K0 J0=>?_
 go_wp2_with fail
 refine J0.out _ _ ?_;clear J0;refine sq fun K1 J1=>?_
 go_wp2_with fail
 refine J1.out _ _ ?_;clear J1;have hb:Below w.heap.size w ((w.alloc (.cells #[.bool cyc,.int .i64 8,.int .i64 300,.int .i64 16,.int .i64 600,.int .i64 t0,.int .i64 t1,.int .i64 t2,.int .i64 t3,.int .i64 t4,.int .i64 t5,.int .i64 t6,.int .i64 t7] 27)).alloc (.cells #[.pointer none,.pointer none,.pointer none,.pointer none,.bool false,.bool false,.bool false,.bool false,.bool false,.bool false,.bool false,.bool false,.bool false,.bool false,.bool false,.bool false,.bool false,.bool false,.bool false,.bool false,.int .i64 0,.slice none 0 0] 86)):=qaa (qaa (Below.refl _ _) _) _;have hs1:Blk (w.alloc (.cells #[.bool cyc,.int .i64 8,.int .i64 300,.int .i64 16,.int .i64 600,.int .i64 t0,.int .i64 t1,.int .i64 t2,.int .i64 t3,.int .i64 t4,.int .i64 t5,.int .i64 t6,.int .i64 t7] 27)) w.heap.size 27 (qe5 cyc t0 t1 t2 t3 t4 t5 t6 t7):=heap_alloc_new w _;have hz1:(w.alloc (.cells #[.bool cyc,.int .i64 8,.int .i64 300,.int .i64 16,.int .i64 600,.int .i64 t0,.int .i64 t1,.int .i64 t2,.int .i64 t3,.int .i64 t4,.int .i64 t5,.int .i64 t6,.int .i64 t7] 27)).heap.size=w.heap.size+1:=by simp[World.alloc_eq]
 have SB:qac (Blk ((w.alloc (.cells #[.bool cyc,.int .i64 8,.int .i64 300,.int .i64 16,.int .i64 600,.int .i64 t0,.int .i64 t1,.int .i64 t2,.int .i64 t3,.int .i64 t4,.int .i64 t5,.int .i64 t6,.int .i64 t7] 27)).alloc (.cells #[.pointer none,.pointer none,.pointer none,.pointer none,.bool false,.bool false,.bool false,.bool false,.bool false,.bool false,.bool false,.bool false,.bool false,.bool false,.bool false,.bool false,.bool false,.bool false,.bool false,.bool false,.int .i64 0,.slice none 0 0] 86)) w.heap.size 27 (qe5 cyc t0 t1 t2 t3 t4 t5 t6 t7)):=⟨hs1.only ((Only.refl (fun _=>False) _).alloc _) (fun h=>h)⟩;have PB:qac (Blk ((w.alloc (.cells #[.bool cyc,.int .i64 8,.int .i64 300,.int .i64 16,.int .i64 600,.int .i64 t0,.int .i64 t1,.int .i64 t2,.int .i64 t3,.int .i64 t4,.int .i64 t5,.int .i64 t6,.int .i64 t7] 27)).alloc (.cells #[.pointer none,.pointer none,.pointer none,.pointer none,.bool false,.bool false,.bool false,.bool false,.bool false,.bool false,.bool false,.bool false,.bool false,.bool false,.bool false,.bool false,.bool false,.bool false,.bool false,.bool false,.int .i64 0,.slice none 0 0] 86)) (w.heap.size+1) 86 (qpl 0 0 0 0 0)):=⟨by rw[←hz1];exact heap_alloc_new (w.alloc (.cells #[.bool cyc,.int .i64 8,.int .i64 300,.int .i64 16,.int .i64 600,.int .i64 t0,.int .i64 t1,.int .i64 t2,.int .i64 t3,.int .i64 t4,.int .i64 t5,.int .i64 t6,.int .i64 t7] 27)) _⟩;have LB:qac (qaj lab w 4 w.heap.size=4∧qaj lab w 4 (w.heap.size+1)=4):=⟨⟨qas (Nat.le_refl _),qas (by omega)⟩⟩;have ST:=am (Stps.below (lab:=lab) (P:=fun i=>i≤4) (i:=4) hb (by decide));obtain⟨l1,hl1⟩:∃l,qaj lab w 4=l:=⟨_,rfl⟩;rw[hl1] at LB ST;obtain⟨c,hc⟩:∃c,w.heap.size=c:=⟨_,rfl⟩;obtain⟨b,hbb⟩:∃b,c+1=b:=⟨_,rfl⟩;rw[hc] at LB SB PB ⊢;rw[hbb] at LB PB ⊢;clear hb hs1 hz1 hl1 hc hbb;generalize ((w.alloc (.cells #[.bool cyc,.int .i64 8,.int .i64 300,.int .i64 16,.int .i64 600,.int .i64 t0,.int .i64 t1,.int .i64 t2,.int .i64 t3,.int .i64 t4,.int .i64 t5,.int .i64 t6,.int .i64 t7] 27)).alloc (.cells #[.pointer none,.pointer none,.pointer none,.pointer none,.bool false,.bool false,.bool false,.bool false,.bool false,.bool false,.bool false,.bool false,.bool false,.bool false,.bool false,.bool false,.bool false,.bool false,.bool false,.bool false,.int .i64 0,.slice none 0 0] 86))=w1 at *;have NW:qac (∃X V,NwA w lab cyc (qe5 cyc t0 t1 t2 t3 t4 t5 t6 t7) (qlo cyc [t0,t1,t2,t3,t4,t5,t6,t7]) (qkk d) b c 0 w1 l1 X V):=⟨⟨⟨0,0,0,0,0,⟨0,0,0,0,0,0,cyc⟩,⟨0,0,0,0,0,0,cyc⟩⟩,⟨⟨.bool false,.bool false,.bool false,0,0,0,.bool false,.bool false,0,0⟩,⟨.bool false,.bool false,.bool false,0,0,0,.bool false,.bool false,0,0⟩,⟨0,0,0,.bool false⟩,⟨0,0,0,.bool false⟩,0,.bool false⟩,ST.out,SB.out,LB.out.1,PB.out,LB.out.2,fun e=>absurd e (by decide),fun e=>absurd e (by decide)⟩⟩;clear ST SB PB LB;refine sq fun K2 J2=>?_
 go_wp2_with fail
 go_loopw [13] (fun v13 wr=>∃i:Nat,i≤2∧v13=.int .i64 i∧qac (∃lab' X V,NwA w lab cyc (qe5 cyc t0 t1 t2 t3 t4 t5 t6 t7) (qlo cyc [t0,t1,t2,t3,t4,t5,t6,t7]) (qkk d) b c i wr lab' X V)) (fun v13 _=>2-(intOf v13).toNat)
 case atStart=>exact⟨0,Nat.zero_le _,rfl,⟨l1,NW.out⟩⟩
 case round =>
  obtain⟨i,hi,rfl,⟨lab2,X,V,ht⟩⟩:=hrel;clear NW;have HN:=am ht;clear ht;obtain rfl|rfl|rfl:i=0∨i=1∨i=2:=by omega
  ·skip;simp only[show ((0:Nat):Int)=0 from rfl];have hs:=HN.out.set;unfold qe5 at hs;have s0:=hs.c 0 rfl;have s1:=hs.c 1 rfl;have s2:=hs.c 2 rfl;have s3:=hs.c 3 rfl;have s4:=hs.c 4 rfl;have s5:=hs.c 5 rfl;have s6:=hs.c 6 rfl;have s7:=hs.c 7 rfl;have s8:=hs.c 8 rfl;have s9:=hs.c 9 rfl;have s10:=hs.c 10 rfl;have s11:=hs.c 11 rfl;have s12:=hs.c 12 rfl;clear hs;have HC:=am (qep cyc t0 t1 t2 t3 t4 t5 t6 t7 wr HT.out);rw[setA] at HC
   go_wp2_with fail
   refine HC.out.mono ?_;rintro e w3 ⟨g,A,O,q,rfl,hA,hn⟩;clear HC s0 s1 s2 s3 s4 s5 s6 s7 s8 s9 s10 s11 s12;have hq0:=am hn.q0;have hs:=PoS.new (lab:=lab2) (i:=0) hn;have S3:=am hs.2;have P3:=am hs.1;clear hs hn;obtain⟨l3,hl3⟩:∃l,qaj lab2 wr 0=l:=⟨_,rfl⟩;rw[hl3] at S3 P3;clear hl3
   go_wp2_with fail
   refine(qf2 d HD.out w3).mono ?_;rintro e w4 ⟨h,r,rfl,hr0,h1,h2,hw,hbw⟩;have hs:=WrS.new (lab:=l3) (i:=2) hw h1 h2 hbw;have S4:=am hs.2;have W4:=am hs.1;have HR0:=am hr0;clear hs hw hbw h1 h2 hr0;obtain⟨l4,hl4⟩:∃l,qaj l3 w3 2=l:=⟨_,rfl⟩;rw[hl4] at S4 W4;clear hl4;have T3:=S3.out.stps (P:=(·=0)) rfl;have T4:=S4.out.stps (P:=(·=2)) rfl;have PB4:=am (T4.blk (T3.blk HN.out.blk (by rw[HN.out.lb];decide)) (by rw[T3.lb HN.out.blk,HN.out.lb];decide));have CB4:=am (T4.blk (T3.blk HN.out.set (by rw[HN.out.lc];decide)) (by rw[T3.lb HN.out.set,HN.out.lc];decide));have LB4:=am ((T4.lb (T3.blk HN.out.blk (by rw[HN.out.lb];decide))).trans ((T3.lb HN.out.blk).trans HN.out.lb));have LC4:=am ((T4.lb (T3.blk HN.out.set (by rw[HN.out.lc];decide))).trans ((T3.lb HN.out.set).trans HN.out.lc));have ST4:=am (HN.out.st.trans ((S3.out.stps (P:=fun i=>i≤4) (by decide)).trans (S4.out.stps (P:=fun i=>i≤4) (by decide))));have SD4:qac (Side w4 l4 0 (qlo cyc [t0,t1,t2,t3,t4,t5,t6,t7]) (qkk d) g h A q r):=⟨⟨P3.out.far T4 (by decide),W4.out,hq0.out,HR0.out⟩⟩;clear T3 T4 S3 S4 P3 W4 hq0 HR0;have c0:=PB4.out.c 0 rfl;have c1:=PB4.out.c 2 rfl;have cf:=PB4.out.f
   go_wp2_with fail
   refine sr 14 (fun _=>True) [] trivial (fun hY=>?_);refine pu 0 32 ?_;refine pu 1 33 ?_;refine pu 2 34 ?_;refine pu 3 35 ?_;refine pu 4 36 ?_;refine pu 5 37 ?_;refine pu 6 38 ?_;refine pu 7 39 ?_;refine pu 8 40 ?_;refine pu 10 41 ?_;refine pu 11 42 ?_;refine onN 9 (fun K hK=>?_);refine sk ?_;refine hK.out _ _ trivial (fun hY=>?_);clear hK K;refine pu 12 43 ?_;refine onN 13 (fun K hK=>?_);refine sk ?_;refine hK.out _ _ trivial (fun hY=>?_);clear hK K;refine qav (by kernel_rfl) ?_
   go_wp2_with fail
   have hst:=((Stps.drew' l4 w4 (·=4)).set (g:=b) (show Blk w4.drew b 86 _ from PB4.out) (by decide) LB4.out 0 (ptr g)).set (g:=b) ((show Blk w4.drew b 86 _ from PB4.out).set 0 (ptr g)) (by decide) LB4.out 2 (ptr h);have hbl:=(((show Blk w4.drew b 86 _ from PB4.out).set 0 (ptr g)).set 2 (ptr h));exact⟨⟨1,by omega,by first|rfl|(simp;done),⟨l4,{ X with g0:=g,h0:=h,A0:=A },{ V with q0:=q,r0:=r },ST4.out.trans (hst.mono (fun i e=>by omega)),(((show Blk w4.drew c 27 _ from CB4.out).far (CB4.out.ne PB4.out (by decide)) _).far (CB4.out.ne PB4.out (by decide)) _),LC4.out,hbl,LB4.out,fun _=>(SD4.out.far hst (by decide) (by decide)),fun e=>absurd e (by decide)⟩⟩,by simp[intOf]⟩
  ·skip;simp only[show ((1:Nat):Int)=1 from rfl];have hs:=HN.out.set;unfold qe5 at hs;have s0:=hs.c 0 rfl;have s1:=hs.c 1 rfl;have s2:=hs.c 2 rfl;have s3:=hs.c 3 rfl;have s4:=hs.c 4 rfl;have s5:=hs.c 5 rfl;have s6:=hs.c 6 rfl;have s7:=hs.c 7 rfl;have s8:=hs.c 8 rfl;have s9:=hs.c 9 rfl;have s10:=hs.c 10 rfl;have s11:=hs.c 11 rfl;have s12:=hs.c 12 rfl;clear hs;have HC:=am (qep cyc t0 t1 t2 t3 t4 t5 t6 t7 wr HT.out);rw[setA] at HC
   go_wp2_with fail
   refine HC.out.mono ?_;rintro e w3 ⟨g,A,O,q,rfl,hA,hn⟩;clear HC s0 s1 s2 s3 s4 s5 s6 s7 s8 s9 s10 s11 s12;have hq0:=am hn.q0;have hs:=PoS.new (lab:=lab2) (i:=1) hn;have S3:=am hs.2;have P3:=am hs.1;clear hs hn;obtain⟨l3,hl3⟩:∃l,qaj lab2 wr 1=l:=⟨_,rfl⟩;rw[hl3] at S3 P3;clear hl3
   go_wp2_with fail
   refine(qf2 d HD.out w3).mono ?_;rintro e w4 ⟨h,r,rfl,hr0,h1,h2,hw,hbw⟩;have hs:=WrS.new (lab:=l3) (i:=3) hw h1 h2 hbw;have S4:=am hs.2;have W4:=am hs.1;have HR0:=am hr0;clear hs hw hbw h1 h2 hr0;obtain⟨l4,hl4⟩:∃l,qaj l3 w3 3=l:=⟨_,rfl⟩;rw[hl4] at S4 W4;clear hl4;have T3:=S3.out.stps (P:=(·=1)) rfl;have T4:=S4.out.stps (P:=(·=3)) rfl;have PB4:=am (T4.blk (T3.blk HN.out.blk (by rw[HN.out.lb];decide)) (by rw[T3.lb HN.out.blk,HN.out.lb];decide));have CB4:=am (T4.blk (T3.blk HN.out.set (by rw[HN.out.lc];decide)) (by rw[T3.lb HN.out.set,HN.out.lc];decide));have LB4:=am ((T4.lb (T3.blk HN.out.blk (by rw[HN.out.lb];decide))).trans ((T3.lb HN.out.blk).trans HN.out.lb));have LC4:=am ((T4.lb (T3.blk HN.out.set (by rw[HN.out.lc];decide))).trans ((T3.lb HN.out.set).trans HN.out.lc));have ST4:=am (HN.out.st.trans ((S3.out.stps (P:=fun i=>i≤4) (by decide)).trans (S4.out.stps (P:=fun i=>i≤4) (by decide))));have SD4:qac (Side w4 l4 1 (qlo cyc [t0,t1,t2,t3,t4,t5,t6,t7]) (qkk d) g h A q r):=⟨⟨P3.out.far T4 (by decide),W4.out,hq0.out,HR0.out⟩⟩;have SE4:=am (((HN.out.s0 (by decide)).far T3 (by decide) (by decide)).far T4 (by decide) (by decide));clear T3 T4 S3 S4 P3 W4 hq0 HR0;have c0:=PB4.out.c 1 rfl;have c1:=PB4.out.c 3 rfl;have cf:=PB4.out.f
   go_wp2_with fail
   refine sr 14 (fun _=>True) [] trivial (fun hY=>?_);refine pu 0 32 ?_;refine pu 1 33 ?_;refine pu 2 34 ?_;refine pu 3 35 ?_;refine pu 4 36 ?_;refine pu 5 37 ?_;refine pu 6 38 ?_;refine pu 7 39 ?_;refine pu 8 40 ?_;refine pu 10 41 ?_;refine pu 11 42 ?_;refine onN 9 (fun K hK=>?_);refine sk ?_;refine hK.out _ _ trivial (fun hY=>?_);clear hK K;refine pu 12 43 ?_;refine onN 13 (fun K hK=>?_);refine sk ?_;refine hK.out _ _ trivial (fun hY=>?_);clear hK K;refine qav (by kernel_rfl) ?_
   go_wp2_with fail
   have hst:=((Stps.drew' l4 w4 (·=4)).set (g:=b) (show Blk w4.drew b 86 _ from PB4.out) (by decide) LB4.out 1 (ptr g)).set (g:=b) ((show Blk w4.drew b 86 _ from PB4.out).set 1 (ptr g)) (by decide) LB4.out 3 (ptr h);have hbl:=(((show Blk w4.drew b 86 _ from PB4.out).set 1 (ptr g)).set 3 (ptr h));exact⟨⟨2,by omega,by first|rfl|(simp;done),⟨l4,{ X with g1:=g,h1:=h,A1:=A },{ V with q1:=q,r1:=r },ST4.out.trans (hst.mono (fun i e=>by omega)),(((show Blk w4.drew c 27 _ from CB4.out).far (CB4.out.ne PB4.out (by decide)) _).far (CB4.out.ne PB4.out (by decide)) _),LC4.out,hbl,LB4.out,fun _=>SE4.out.far hst (by decide) (by decide),fun _=>(SD4.out.far hst (by decide) (by decide))⟩⟩,by simp[intOf]⟩
  ·simp only[show ((2:Nat):Int)=2 from rfl];have b1:decide ((2:Int)<2)=false:=by decide
   go_wp2_with fail
   refine J2.out _ _ ?_;go_wp2;go_ret2;exact⟨lab2,X,V,b,c,rfl,HN.out⟩
theorem qvd {w w':World} {lab lab':Nat→Nat} {cyc:Bool} {cs:List Value} {t:List Nat} {d b c:Nat} {X:PrA} {V:PrV} (h:NwA w lab cyc cs (qlo cyc t) (qkk d) b c 2 w' lab' X V):PrIs w' lab' { X with b:=b } (Sig.newPair cyc t d) { V with time:=0,vw:=.slice none 0 0 }:=by
 refine⟨h.blk,h.lb,(h.s0 (by decide)).p,(h.s1 (by decide)).p,(h.s0 (by decide)).w,(h.s1 (by decide)).w,rfl,rfl⟩
theorem qcv (n:Int) (w:World) :
  Calls Tryz.prog 25 #[.int .i64 n] w fun e w'=>e=.returned (.bool (n==0||n==1))∧w=w':=by
 go_enter Tryz.func25,Tryz.ntmps25;go_wp2
 ·rename_i h0;subst h0;go_ret;exact⟨rfl,rfl⟩
 ·go_ret;exact⟨rfl,rfl⟩
theorem qiw {w:World} {lab:Nat→Nat} {X:PrA} {x:Sig.Pair} {V:PrV} (h:PrIs w lab X x V) :
  Calls Tryz.prog 12 #[.pointer (some ⟨X.b,0,none⟩),.int .i64 0] w fun e w'=>e=.returned (.pointer (some ⟨X.g0,0,none⟩))∧∃k,w'=w.drewN k:=by
 have c:=h.c 0 rfl;clear h;go_enter Tryz.func12,Tryz.ntmps12
 go_wp2_with fail
 refine(qcv _ _).mono ?_;rintro e w1 ⟨rfl,rfl⟩;go_wp2
 repeat (go_quiet (fail);try go_wp2)
 go_ret;exact⟨rfl,0,rfl⟩
theorem qiv {w:World} {lab:Nat→Nat} {X:PrA} {x:Sig.Pair} {V:PrV} (h:PrIs w lab X x V) :
  Calls Tryz.prog 12 #[.pointer (some ⟨X.b,0,none⟩),.int .i64 1] w fun e w'=>e=.returned (.pointer (some ⟨X.g1,0,none⟩))∧∃k,w'=w.drewN k:=by
 have c:=h.c 1 rfl;clear h;go_enter Tryz.func12,Tryz.ntmps12
 go_wp2_with fail
 refine(qcv _ _).mono ?_;rintro e w1 ⟨rfl,rfl⟩;go_wp2
 repeat (go_quiet (fail);try go_wp2)
 go_ret;exact⟨rfl,0,rfl⟩
theorem qw3 (t:Nat) (a:Addr) (W:World):(binOp .neq 99 (.iface t (.pointer (some a))) .nilIface).run Tryz.prog W=.ok (.bool true) W:=by kernel_rfl
theorem el99:El 84 99 .nilIface 16:=⟨by kernel_rfl,by kernel_rfl,rfl,by decide⟩
theorem qb1 (X:PrA) {n0 n1:List Bool} (h0:n0.length=8) (h1:n1.length=8) (t:Int) (vw v:Value):(qb9 X n0 n1 t vw)[21]?=some vw∧(qb9 X n0 n1 t vw).set 21 v=qb9 X n0 n1 t v:=by
 obtain⟨a0,a1,a2,a3,a4,a5,a6,a7,rfl⟩:=qaw h0;obtain⟨d0,d1,d2,d3,d4,d5,d6,d7,rfl⟩:=qaw h1;exact⟨rfl,rfl⟩
theorem qjn {w:World} {lab:Nat→Nat} {X:PrA} {x:Sig.Pair} {V:PrV} {ws:List Value} (h:PrIs w lab X x V) (hw:Rw w (fun k=>lab k=4) 99 V.vw ws) (h1:∀u∈ws,u.oneCell'=true) (hl:ws.length≤100) (u:Value) (hu:u.oneCell'=true) :
  ∃A1 c1 w1 lab1,(Builtin.append_ #[84,84] 84 #[V.vw,.slice (some ⟨w.heap.size,0,none⟩) 1 1]).run Tryz.prog (w.alloc (.cells #[u] 99))=.ok (.slice A1 (ws.length+1) c1) w1∧Rw w1 (fun k=>lab1 k=4) 99 (.slice A1 (ws.length+1) c1) (ws++[u])∧PrIs w1 lab1 X x V∧Stps lab w (·=4) lab1 w1:=by
 have hba:Below w.heap.size w (w.alloc (.cells #[u] 99)):=qaa (Below.refl _ _) _;have hs1:Stps lab w (·=4) (qaj lab w 4) (w.alloc (.cells #[u] 99)):=Stps.below hba rfl;have hp1:=h.below hba 4;have hty0:∀k,qau V.vw=some k→Typed w k 99∧lab k=4∧k<w.heap.size:=by
  intro k hk;obtain⟨A',c',e,_,_,h⟩:=hw.slice;exact⟨(h k hk).2.1,(h k hk).1,(h k hk).2.2⟩
 obtain⟨v1,w1,hrun,hR1,hO1,hat⟩:=Rw.append el99 84 (P:=fun k=>qau V.vw=some k∨(w.alloc (.cells #[u] 99)).heap.size≤k) ((hw.below hba).mono (fun k hk _ _ hb=>Or.inl hb)) (qfg w (fun _=>True) trivial 99 u) (fun q hq=>by rw[List.mem_singleton.1 hq];exact hu) h1 (by simp only[List.length_singleton];omega) (fun k hk=>Or.inr hk);obtain⟨A1,c1,e1,-,-,hty⟩:=hR1.slice;rw[List.length_append,List.length_singleton] at e1;subst e1;have hs2:Stps (qaj lab w 4) (w.alloc (.cells #[u] 99)) (·=4) (qaj (qaj lab w 4) (w.alloc (.cells #[u] 99)) 4) w1:=(Stp.mk' (hO1.mono (fun k hk=>⟨by rw[qa1 (hty0 k hk).2.2];exact(hty0 k hk).2.1,fun h5=>by
  obtain⟨cs,fr,hc⟩:=(hty0 k hk).1;have ht:Typed (w.alloc (.cells #[u] 99)) k 99:=⟨cs,fr,(hba.block k (hty0 k hk).2.2).trans hc⟩;exact absurd (h5.ne ht) (by decide)⟩))).stps rfl
 refine⟨A1,c1,w1,_,hrun,hR1.mono (fun k hk _ hlt _=>?_),?_,hs1.trans hs2⟩
 ·rcases hk with hk|hk
  ·have hlt1:k<(w.alloc (.cells #[u] 99)).heap.size:=Nat.lt_of_lt_of_le (hty0 k hk).2.2 hba.size;rw[qa1 hlt1,qa1 (hty0 k hk).2.2];exact(hty0 k hk).2.1
  ·exact qas hk
 ·refine hp1.own hs2 ?_ rfl rfl rfl rfl rfl rfl rfl rfl h.n0 h.n1;refine hp1.blk.only hO1 (fun e=>?_);exact absurd ((hty0 _ e).1.ne h.blk.typed) (by decide)
theorem qeo {w:World} {lab:Nat→Nat} {X:PrA} {x:Sig.Pair} {V:PrV} {ws:List Value} (h:PrIs w lab X x V) (hw:Rw w (fun k=>lab k=4) 99 V.vw ws) (h1:∀u∈ws,u.oneCell'=true) (hl:ws.length≤100) (t:Nat) (a:Addr) :
  Calls Tryz.prog 36 #[.pointer (some ⟨X.b,0,none⟩),.iface t (.pointer (some a))] w fun e w'=>e=.returned (.tuple #[])∧∃lab' vw',Stps lab w (·=4) lab' w'∧PrIs w' lab' X x { V with vw:=vw' }∧Rw w' (fun k=>lab' k=4) 99 vw' (ws++[.iface t (.pointer (some a))]):=by
 obtain⟨A0,c0,hv,-,-,-⟩:=hw.slice;obtain⟨A1,c1,w1,lab1,hrun,hr,hp,hs⟩:=qjn h hw h1 hl (.iface t (.pointer (some a))) rfl;have hc:=h.c 21 (qb1 X h.n0 h.n1 V.time V.vw .nilIface).1;rw[hv] at hc hrun;have HRUN:=am hrun;have HR:=am hr;have HP:=am hp;have HS:=am hs;have k21:=hp.c 21 (qb1 X hp.n0 hp.n1 V.time V.vw .nilIface).1;have kf:=hp.blk.f;rw[hv] at k21;have hx:=qw3 t a;clear h hw h1 hl hrun hr hp hs hv;generalize ws.length=n at *;go_enter Tryz.func36,Tryz.ntmps36
 go_wp2_with (first|fail|((with_reducible refine qao (b:=.append) (xs:=#[.tmp 14,.tmp 16]) rfl ?_);refine qap rfl (.tmp 14) (.tmp 16) 84 rfl (.slice A0 n c0) (.slice (some ⟨w.heap.size,0,none⟩) 1 1) rfl rfl (.slice A1 (n+1) c1) w1 HRUN.out ?_))
 have hb:=HP.out.blk.set 21 (.slice A1 (n+1) c1);rw[(qb1 X HP.out.n0 HP.out.n1 V.time V.vw (.slice A1 (n+1) c1)).2] at hb;have hs2:=(Stps.refl lab1 w1 (·=4)).set HP.out.blk (by decide) HP.out.lb 21 (.slice A1 (n+1) c1);have hr2:Rw (w1.setCell ⟨X.b,21,none⟩ (.slice A1 (n+1) c1)) (fun k=>lab1 k=4) 99 (.slice A1 (n+1) c1) (ws++[.iface t (.pointer (some a))]):=HR.out.only ((Only.refl (·=X.b) w1).set rfl _) (fun k _ ht _ e=>by have e:k=X.b:=e;subst e;exact absurd (ht.ne HP.out.blk.typed) (by decide));have HF:=am (And.intro (HS.out.trans hs2) (And.intro (HP.out.own (V':={ V with vw:=.slice A1 (n+1) c1 }) hs2 hb rfl rfl rfl rfl rfl rfl rfl rfl HP.out.n0 HP.out.n1) hr2));clear hb hs2 hr2
 first|go_end0|refine bodyPost_ret (v:=.tuple #[]) (by simp[results,Tryz.results36,go_sem]) rfl ?_
 exact⟨rfl,lab1,_,HF.out⟩
end Go.Proofs.YtjbijdmcceloaaaGreat.Top
