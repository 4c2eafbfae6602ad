/- Part of the proof of topServes_holds. No condition. -/
import Derived.Test.YtjbijdmcceloaaaGreatQS21
set_option linter.unusedVariables false
set_option linter.unusedSimpArgs false
set_option maxHeartbeats 80000000
set_option maxRecDepth 100000
namespace Go.Proofs.YtjbijdmcceloaaaGreat.Top
open Go Go.RowKit Go.Proofs.YtjbijdmcceloaaaGreat Go.Proofs.YtjbijdmcceloaaaGreatW.PrintWords Go.Proofs.YtjbijdmcceloaaaGreatW.PrintLast Go.Proofs.YtjbijdmcceloaaaGreatW.PrintMore
def qcs (k:Nat) (e:Nat) (o:List (List Nat)):List (List Nat):=if e=0∧k=1 then [] else o
structure qef (us:List Value) (W:Nat→List (List Nat)→List (List Nat)→World→(Nat→Nat)→Prop):Prop where
 len:us.length≤100
 far:∀{n o0 o1 w lab w' lab'},W n o0 o1 w lab→Stps lab w (fun k=>k≤4) lab' w'→W n o0 o1 w' lab'
 mono:∀{n o0 o1 w lab},W n o0 o1 w lab→W (n+1) o0 o1 w lab
 tick:∀(n:Nat) (o0 o1:List (List Nat)) (l0 l1:List Sig.Told),n≤20000→(∀t∈l0,t.p.length≤1000)→(∀t∈l1,t.p.length≤1000)→l0.length≤100→l1.length≤100 →
  ∃K,quw us l0 l1 K∧(∀{w lab},W n o0 o1 w lab→K 0 0 w lab)∧(∀{w lab},K 1 us.length w lab→W (n+1) (o0++Sig.msgs l0) (o1++Sig.msgs l1) w lab)
 order:∀(n:Nat) (o0 o1:List (List Nat)) (i:Nat) (k e:Nat) (A:Option Addr) (c:Nat) (l:List Nat),n≤20000→i<2→l.length≤1000 →
  ∃K:Nat→World→(Nat→Nat)→Prop,(∀{w lab},W n o0 o1 w lab→K 0 w lab)∧(∀{w lab},K us.length w lab→W (n+1) (if i=0 then qcs k e o0 else o0) (if i=0 then o1 else qcs k e o1) w lab) ∧
   ∀{j w lab},j<us.length→K j w lab→Oct w (.slice A l.length c) l →
    ∃ty ad f,us[j]?=some (.iface ty (.pointer (some ad)))∧(∀W,(method 356 ty (.pointer (some ad)) "Order").run Tryz.prog W=.ok (f,.pointer (some ad)) W)∧(∀W args,(callFunc f args).run Tryz.prog W=.ok (.enter f args) W) ∧
     Calls Tryz.prog f #[.pointer (some ad),.int .i64 (i:Nat),.agg #[.int .u8 (k:Nat),.slice A l.length c],.int .i64 (e:Nat)] w fun x w'=>x=.returned (.tuple #[])∧∃lab',Stps lab w (fun k=>8≤k) lab' w'∧K (j+1) w' lab'
theorem qbu:qef [] (fun _ _ _ _ _=>True) where
 len:=by decide
 far:=fun _ _=>trivial
 mono:=fun _=>trivial
 tick:=fun n o0 o1 l0 l1 _ _ _ _ _=>⟨fun _ _ _ _=>True,⟨fun _ _=>trivial,fun _=>trivial,fun {i j g A p q w lab tv l} _ hj _ _ _ _ _ _=>absurd hj (Nat.not_lt_zero j)⟩,fun _=>trivial,fun _=>trivial⟩
 order:=fun n o0 o1 i k e A c l _ _ _=>⟨fun _ _ _=>True,fun _=>trivial,fun _=>trivial,fun {j w lab} hj _ _=>absurd hj (Nat.not_lt_zero j)⟩
def ST (s t m mt:Nat) (o0 o1:List (List Nat)) (w:World) (lab:Nat→Nat):Prop:=(∃V,ScIs w lab s V m o0 o1)∧∃V,TrIs w lab t V mt
def quy (s t:Nat):List Value:=[.iface 64 (.pointer (some ⟨s,0,none⟩)),.iface 65 (.pointer (some ⟨t,0,none⟩))]
def stW (s t n:Nat) (o0 o1:List (List Nat)) (w:World) (lab:Nat→Nat):Prop:=ST s t (1000*n) (1000*n) o0 o1 w lab
section
variable {s t m mt m' mt':Nat} {o0 o1:List (List Nat)} {w w':World} {lab lab':Nat→Nat}
theorem ST.far {P:Nat→Prop} (h:ST s t m mt o0 o1 w lab) (hs:Stps lab w P lab' w') (hp:∀i,P i→i≤7):ST s t m mt o0 o1 w' lab':=by
 obtain⟨⟨V,a⟩,V',b⟩:=h;exact⟨⟨V,a.far hs (fun i e=>Or.inl (hp i e))⟩,V',b.far hs (fun i e=>by have:=hp i e;omega)⟩
theorem ST.mono (h:ST s t m mt o0 o1 w lab) (hm:m≤m') (ht:mt≤mt'):ST s t m' mt' o0 o1 w lab:=by
 obtain⟨⟨V,a⟩,V',b⟩:=h;exact⟨⟨V,a.mono hm⟩,V',b.mono ht⟩
end
theorem qvj (a:Addr) (W:World):(method 356 64 (.pointer (some a)) "Tick").run Tryz.prog W=.ok (152,.pointer (some a)) W:=by kernel_rfl
theorem qvi (a:Addr) (W:World):(method 356 65 (.pointer (some a)) "Tick").run Tryz.prog W=.ok (155,.pointer (some a)) W:=by kernel_rfl
theorem qtm (a:Addr) (W:World):(method 356 64 (.pointer (some a)) "Order").run Tryz.prog W=.ok (151,.pointer (some a)) W:=by kernel_rfl
theorem qtl (a:Addr) (W:World):(method 356 65 (.pointer (some a)) "Order").run Tryz.prog W=.ok (154,.pointer (some a)) W:=by kernel_rfl
theorem e152 (W:World) (args:Array Value):(callFunc 152 args).run Tryz.prog W=.ok (.enter 152 args) W:=qbl Tryz.func152 rfl rfl args W
theorem e155 (W:World) (args:Array Value):(callFunc 155 args).run Tryz.prog W=.ok (.enter 155 args) W:=qbl Tryz.func155 rfl rfl args W
theorem e151 (W:World) (args:Array Value):(callFunc 151 args).run Tryz.prog W=.ok (.enter 151 args) W:=qbl Tryz.func151 rfl rfl args W
theorem e154 (W:World) (args:Array Value):(callFunc 154 args).run Tryz.prog W=.ok (.enter 154 args) W:=qbl Tryz.func154 rfl rfl args W
def stK (s t m mt:Nat) (o0 o1:List (List Nat)) (l0 l1:List Sig.Told) (i j:Nat):World→(Nat→Nat)→Prop:=match i,j with
 |0,0=>ST s t m mt o0 o1
 |0,1=>ST s t (m+2*l0.length) mt (o0++Sig.msgs l0) o1
 |0,_=>ST s t (m+2*l0.length) (mt+8) (o0++Sig.msgs l0) o1
 |_,0=>ST s t (m+2*l0.length) (mt+8) (o0++Sig.msgs l0) o1
 |_,1=>ST s t (m+2*l0.length+2*l1.length) (mt+8) (o0++Sig.msgs l0) (o1++Sig.msgs l1)
 |_,_=>ST s t (m+2*l0.length+2*l1.length) (mt+8+8) (o0++Sig.msgs l0) (o1++Sig.msgs l1)
theorem qs6 {s t m mt:Nat} {o0 o1:List (List Nat)} {l0 l1:List Sig.Told} {i j:Nat} {w w':World} {lab lab':Nat→Nat} (h:stK s t m mt o0 o1 l0 l1 i j w lab) (hs:Stps lab w (fun k=>k≤4) lab' w'):stK s t m mt o0 o1 l0 l1 i j w' lab':=by
 unfold stK at h ⊢;split at h <;> exact h.far hs (fun i e=>by omega)
theorem qq7 (s t m mt:Nat) (o0 o1:List (List Nat)) (l0 l1:List Sig.Told) (hm:m≤50000000) (ht:mt≤50000000) (h0:∀t∈l0,t.p.length≤1000) (h1:∀t∈l1,t.p.length≤1000) (n0:l0.length≤100) (n1:l1.length≤100) :
  quw (quy s t) l0 l1 (stK s t m mt o0 o1 l0 l1):=by
 refine⟨qs6,fun h=>h,?_⟩;intro i j g A p q w lab tv l hi hj hk hp hq htd e0 e1;have hj2:j=0∨j=1:=by have:j<2:=hj;omega
 have hi2:i=0∨i=1:=by omega
 have hl:∃At ct,tv=.slice At l.length ct:=by obtain⟨At,ct,e,_⟩:=htd;exact⟨At,ct,e⟩
 rcases hj2 with rfl|rfl
 ·refine⟨64,_,152,rfl,qvj _,e152,?_⟩;rcases hi2 with rfl|rfl
  ·have e:=e0 rfl;subst e;obtain⟨⟨V,a⟩,V2,b⟩:=hk;refine(qin a hp htd (by omega) h0).mono ?_;rintro x w' ⟨rfl,lab',V',hs,ha⟩;exact⟨rfl,lab',hs.mono (fun i e=>e.1),⟨V',ha⟩,V2,b.far hs (fun i e=>by omega)⟩
  ·have e:=e1 rfl;subst e;obtain⟨⟨V,a⟩,V2,b⟩:=hk;refine(qim a hp htd (by omega) h1).mono ?_;rintro x w' ⟨rfl,lab',V',hs,ha⟩;exact⟨rfl,lab',hs.mono (fun i e=>e.1),⟨V',ha⟩,V2,b.far hs (fun i e=>by omega)⟩
 ·refine⟨65,_,155,rfl,qvi _,e155,?_⟩;obtain⟨At,ct,rfl⟩:=hl;rcases hi2 with rfl|rfl
  ·obtain⟨⟨V,a⟩,V2,b⟩:=hk;refine(qid b (by omega) hp hq At l.length ct).mono ?_;rintro x w' ⟨rfl,lab',V',hs,hb⟩;exact⟨rfl,lab',hs.mono (fun i e=>by omega),⟨V,a.far hs (fun i e=>by omega)⟩,V',hb⟩
  ·obtain⟨⟨V,a⟩,V2,b⟩:=hk;refine(qic b (by omega) hp hq At l.length ct).mono ?_;rintro x w' ⟨rfl,lab',V',hs,hb⟩;exact⟨rfl,lab',hs.mono (fun i e=>by omega),⟨V,a.far hs (fun i e=>by omega)⟩,V',hb⟩
def stO (s t m mt:Nat) (o0 o1 p0 p1:List (List Nat)) (j:Nat):World→(Nat→Nat)→Prop:=match j with
 |0=>ST s t m mt o0 o1
 |_=>ST s t (m+1) mt p0 p1
theorem qmj (k e:Nat) (o:List (List Nat)):(if (e:Int)=0∧k=1 then [] else o)=qcs k e o:=by
 unfold qcs;by_cases h:e=0∧k=1
 ·rw[if_pos h,if_pos ⟨by omega,h.2⟩]
 ·rw[if_neg h,if_neg (fun e=>h ⟨by omega,e.2⟩)]
theorem qdu (s t:Nat):qef (quy s t) (stW s t) where
 len:=(by decide:2≤100)
 far:=fun h hs=>ST.far h hs (fun i e=>by omega)
 mono:=fun h=>ST.mono h (by omega) (by omega)
 tick:=fun n o0 o1 l0 l1 hn h0 h1 n0 n1=>⟨_,qq7 s t (1000*n) (1000*n) o0 o1 l0 l1 (by omega) (by omega) h0 h1 n0 n1,fun h=>h,fun h=>ST.mono (m:=1000*n+2*l0.length+2*l1.length) (mt:=1000*n+8+8) h (by omega) (by omega)⟩
 order:=fun n o0 o1 i k e A c l hn hi hl=>⟨stO s t (1000*n) (1000*n) o0 o1 (if i=0 then qcs k e o0 else o0) (if i=0 then o1 else qcs k e o1),fun h=>h,fun h=>ST.mono (m:=1000*n+1) (mt:=1000*n) h (by omega) (by omega),by
  intro j w lab hj hk hx;have hj2:j=0∨j=1:=by have:j<2:=hj;omega
  have hi2:i=0∨i=1:=by omega
  rcases hj2 with rfl|rfl
  ·refine⟨64,_,151,rfl,qtm _,e151,?_⟩;obtain⟨⟨V,a⟩,V2,b⟩:=hk;rcases hi2 with rfl|rfl
   ·refine(qhd a (by omega) k (e:Int) hx (by omega)).mono ?_;rintro x w' ⟨rfl,lab',V',hs,ha⟩;rw[qmj] at ha;exact⟨rfl,lab',hs.mono (fun i e=>e.1),⟨V',ha⟩,V2,b.far hs (fun i e=>by omega)⟩
   ·refine(qha a (by omega) k (e:Int) hx (by omega)).mono ?_;rintro x w' ⟨rfl,lab',V',hs,ha⟩;rw[qmj] at ha;exact⟨rfl,lab',hs.mono (fun i e=>e.1),⟨V',ha⟩,V2,b.far hs (fun i e=>by omega)⟩
  ·refine⟨65,_,154,rfl,qtl _,e154,?_⟩;obtain⟨⟨V,a⟩,V2,b⟩:=hk;refine(qie _ (i:Nat) (e:Nat) k A l.length c w).mono ?_;rintro x w' ⟨rfl,hb⟩;have hs:Stps lab w (·=16) (qaj lab w 16) w':=Stps.below hb rfl;exact⟨rfl,_,hs.mono (fun i e=>by omega),⟨V,a.far hs (fun i e=>by omega)⟩,V2,b.far hs (fun i e=>by omega)⟩⟩
section
open _root_.Sig
theorem qfa (x:Link) (k:Nat) (p:List Nat):More x (x.order k p).1 1 1:=by
 have same:∀y:Link,y.told=x.told→y.fails=x.fails→More x y 1 1:=fun y a b=>⟨by rw[a];omega,by rw[b];omega⟩;have pk:∀y:Link,y.prove.told=y.told∧y.prove.fails=y.fails:=fun y=>by unfold Link.prove;simp only;split <;> exact⟨rfl,rfl⟩
 unfold Link.order;split
 ·split
  ·exact same _ rfl rfl
  ·exact same _ rfl rfl
 split
 ·split
  ·exact same _ rfl rfl
  ·exact qb7 _ _
 split
 ·show More x (x.aHurry (k==3)) 1 1;unfold Link.aHurry;simp only;split
  ·exact same _ (pk _).1 (pk _).2
  ·exact same _ rfl rfl
 split
 ·split
  ·exact same _ rfl rfl
  ·exact same _ rfl rfl
 split
 ·show More x (x.local_ (k==6)) 1 1;unfold Link.local_;split
  ·exact same _ rfl rfl
  ·simp only;split
   ·exact same _ rfl rfl
   split
   ·exact same _ (qb0 _).1 (qb0 _).2.1
   split
   ·exact same _ rfl rfl
   split
   ·exact same _ rfl rfl
   ·exact same _ rfl rfl
 split
 ·exact same _ rfl rfl
 split
 ·simp only;split
  ·exact same _ (qb0 _).1 (qb0 _).2.1
  ·exact same _ rfl rfl
 split
 ·split
  ·split
   ·show More x x.jBegin 1 1;unfold Link.jBegin;split <;> exact same _ rfl rfl
   ·exact same _ rfl rfl
  ·exact same _ rfl rfl
 ·exact same _ rfl rfl
end
structure PSt (us:List Value) (W:Nat→List (List Nat)→List (List Nat)→World→(Nat→Nat)→Prop) (cyc:Bool) (w:World) (lab:Nat→Nat) (X:PrA) (V:PrV) (x:Sig.Pair) (n b:Nat):Prop where
 is:PrIs w lab X x V
 b0:PoB x.p0 V.q0 n
 b1:PoB x.p1 V.q1 n
 t0:x.p0.x.told.length≤b
 t1:x.p1.x.told.length≤b
 c0:WiB x.w0 V.r0 n
 c1:WiB x.w1 V.r1 n
 row:Rw w (fun k=>lab k=7) 99 V.vw us
 wt:W n x.out0 x.out1 w lab
 l0:Sig.LB cyc x.p0.x
 l1:Sig.LB cyc x.p1.x
theorem WiB.mono {x:Sig.Wire} {q:WV} {n m:Nat} (h:WiB x q n) (hm:n≤m):WiB x q m:=⟨h.l,h.ones,h.mask,by have:=h.bent;omega⟩
def qcr (P:Nat→Prop) (us:List Value) (W:Nat→List (List Nat)→List (List Nat)→World→(Nat→Nat)→Prop) (cyc:Bool) (w:World) (lab:Nat→Nat) (X:PrA) (y:Sig.Pair) (m b:Nat) (w':World):Prop :=
 ∃lab' V',Stps lab w P lab' w'∧PSt us W cyc w' lab' X V' y m b
theorem qj5 {us:List Value} {W:Nat→List (List Nat)→List (List Nat)→World→(Nat→Nat)→Prop} {cyc:Bool} {w:World} {lab:Nat→Nat} {X:PrA} {V:PrV} {x:Sig.Pair} {n b:Nat} (T:qef us W) (h:PSt us W cyc w lab X V x n b) (hn:n≤20000) (hb:b≤40) :
  Calls Tryz.prog 14 #[.pointer (some ⟨X.b,0,none⟩)] w fun e w'=>e=.returned (.tuple #[])∧qcr (fun i=>i≤4∨8≤i) us W cyc w lab X x.tick (n+1) 0 w':=by
 have k0:=qa7 h.b0.inv h.is.n0;have k1:=qa7 h.b1.inv h.is.n1;have lb0:=h.l0.post x.n0;have lb1:=h.l1.post x.n1;obtain⟨K,S,s0,s1⟩:=T.tick n x.out0 x.out1 _ _ hn lb0.td lb1.td (by have:=k0.2.1.1;have:=h.t0;omega) (by have:=k1.2.1.1;have:=h.t1;omega);refine(qj7 h.is h.b0 h.b1 (by have:=h.t0;omega) (by have:=h.t1;omega) h.c0 h.c1 hn S h.row T.len (s0 h.wt)).mono ?_;rintro e w' ⟨rfl,lab',V',hs,hi,hr,c0,c1,e0,e1,d0,d1,hk⟩;refine⟨rfl,lab',V',hs,hi,c0,c1,by rw[e0];exact Nat.zero_le _,by rw[e1];exact Nat.zero_le _,d0,d1,hr,?_,?_,?_⟩
 ·have e:=s1 hk;rw[tick_of] at ⊢;exact e
 ·rw[tick_of];generalize x.p0.tick x.n0=a at *;exact lb0.to rfl (Or.inl rfl) |> fun h=>⟨lb0.w,lb0.s,fun t ht=>by simp[Sig.Pair.of] at ht⟩
 ·rw[tick_of];generalize x.p1.tick x.n1=a at *;exact⟨lb1.w,lb1.s,fun t ht=>by simp[Sig.Pair.of] at ht⟩
def qh8 (x:Sig.Wire) (l:List Bool):Sig.Wire×Nat:=if 65536<x.mask.length+l.length then (x,3) else ({ x with mask:=x.mask++l },0)
def Sig.Pair.tell0 (x:Sig.Pair) (k:Nat) (p:List Nat):Sig.Pair:={ x with p0:={ x.p0 with x:=(x.p0.x.order k p).1 },out0:=qcs k (x.p0.x.order k p).2 x.out0 }
def Sig.Pair.tell1 (x:Sig.Pair) (k:Nat) (p:List Nat):Sig.Pair:={ x with p1:={ x.p1 with x:=(x.p1.x.order k p).1 },out1:=qcs k (x.p1.x.order k p).2 x.out1 }
section
variable {us:List Value} {W:Nat→List (List Nat)→List (List Nat)→World→(Nat→Nat)→Prop} {cyc:Bool} {w w':World} {lab lab':Nat→Nat} {X:PrA} {V V':PrV} {x y:Sig.Pair} {n b:Nat}
theorem PSt.mono (T:qef us W) (h:PSt us W cyc w lab X V x n b):PSt us W cyc w lab X V x (n+1) (b+1) :=
 ⟨h.is,h.b0.mono (by omega),h.b1.mono (by omega),by have:=h.t0;omega,by have:=h.t1;omega,h.c0.mono (by omega),h.c1.mono (by omega),h.row,T.mono h.wt,h.l0,h.l1⟩
theorem PSt.below (T:qef us W) (h:PSt us W cyc w lab X V x n b) (hb:Below w.heap.size w w'):PSt us W cyc w' (qaj lab w 4) X V x n b∧Stps lab w (·=4) (qaj lab w 4) w':=by
 have hs:Stps lab w (·=4) (qaj lab w 4) w':=Stps.below hb rfl;exact⟨⟨h.is.below hb 4,h.b0,h.b1,h.t0,h.t1,h.c0,h.c1,h.row.lab hs (by decide),T.far h.wt (hs.mono (fun i e=>by omega)),h.l0,h.l1⟩,hs⟩
theorem PSt.wire0 (T:qef us W) (h:PSt us W cyc w lab X V x n b) {O:Nat→Prop} {z:Sig.Wire} {q:WV} (hw:WrIs w X.h0 O x.w0 V.r0) (hl:∀k,k=X.h0∨O k→lab k=2∧k<w.heap.size) (h':WrIs w' X.h0 (qbe O w w') z q) (ho:Only (WW X.h0 O w) w w') (hb:WiB z q n) :
  PSt us W cyc w' (qaj lab w 2) X { V with r0:=q } { x with w0:=z } n b∧Stps lab w (·=2) (qaj lab w 2) w':=by
 obtain⟨a,s⟩:=WrS.step (i:=2) hw hl h' ho;have s':=s.stps (P:=(·=2)) rfl;exact⟨⟨h.is.wire0 s a,h.b0,h.b1,h.t0,h.t1,hb,h.c1,h.row.lab s' (by decide),T.far h.wt (s'.mono (fun i e=>by omega)),h.l0,h.l1⟩,s'⟩
theorem PoB.order {p:Sig.Post} {q:PoV} {n:Nat} (h:PoB p q n) (ht:p.x.told.length≤900) (k:Nat) (l:List Nat) (hl:∀b∈l,b<256):PoB { p with x:=(p.x.order k l).1 } q (n+1):=by
 have m:=qfa p.x k l;exact⟨⟨h.inv.x.order k l hl,h.inv.ear⟩,by have:=m.2;have:=h.fails;show (p.x.order k l).1.fails≤_;omega,by have:=m.1;show (p.x.order k l).1.told.length≤_;omega,by have:=h.gone;omega,by have:=h.came;omega,h.ends,by have:=h.ones;show p.ear.ones≤_;omega,h.ns⟩
theorem PrIs.ord0 (h:PSt us W cyc w lab X V x n b) (hb:b≤40) {O:Nat→Prop} {vt vt':Value} (hi:PoIs w X.g0 X.A0 O x.p0 V.q0 vt) (hl:∀k,qma X.g0 X.A0 O k→lab k=0) (k:Nat) (l:List Nat) (hb2:∀b∈l,b<256) (ha:PAcc X.g0 X.A0 O w { x.p0 with x:=(x.p0.x.order k l).1 } V.q0 vt' w') :
  PrIs w' (qaj lab w 0) X (Sig.Pair.tell0 x k l) V∧Stps lab w (·=0) (qaj lab w 0) w'∧PoB (Sig.Pair.tell0 x k l).p0 V.q0 (n+1)∧(Sig.Pair.tell0 x k l).p0.x.told.length≤b+1∧Sig.LB cyc (Sig.Pair.tell0 x k l).p0.x:=by
 obtain⟨a,s⟩:=PoS.step hi hl ha;have e:=h.is.post0 s a;exact⟨qli e rfl rfl rfl rfl rfl rfl,s.stps rfl,h.b0.order (by have:=h.t0;omega) k l hb2,by have:=(qfa x.p0.x k l).1;have:=h.t0;show (x.p0.x.order k l).1.told.length≤_;omega,h.l0.order k l⟩
theorem PrIs.ord1 (h:PSt us W cyc w lab X V x n b) (hb:b≤40) {O:Nat→Prop} {vt vt':Value} (hi:PoIs w X.g1 X.A1 O x.p1 V.q1 vt) (hl:∀k,qma X.g1 X.A1 O k→lab k=1) (k:Nat) (l:List Nat) (hb2:∀b∈l,b<256) (ha:PAcc X.g1 X.A1 O w { x.p1 with x:=(x.p1.x.order k l).1 } V.q1 vt' w') :
  PrIs w' (qaj lab w 1) X (Sig.Pair.tell1 x k l) V∧Stps lab w (·=1) (qaj lab w 1) w'∧PoB (Sig.Pair.tell1 x k l).p1 V.q1 (n+1)∧(Sig.Pair.tell1 x k l).p1.x.told.length≤b+1∧Sig.LB cyc (Sig.Pair.tell1 x k l).p1.x:=by
 obtain⟨a,s⟩:=PoS.step hi hl ha;have e:=h.is.post1 s a;exact⟨qli e rfl rfl rfl rfl rfl rfl,s.stps rfl,h.b1.order (by have:=h.t1;omega) k l hb2,by have:=(qfa x.p1.x k l).1;have:=h.t1;show (x.p1.x.order k l).1.told.length≤_;omega,h.l1.order k l⟩
theorem qm5 (n:Nat):∀x:Sig.Pair,Sig.Pair.ticks (n+1) x=(Sig.Pair.ticks n x).tick:=by
 induction n with
 |zero=>intro x;rfl
 |succ n ih=>intro x;exact ih x.tick
end
def qjs (k:Nat) (side n:Int) (vm:Value) (ok:Nat) (vp:Value):Value:=.agg #[.int .u8 (k:Nat),.int .i64 side,.int .i64 n,vm,.int .u8 (ok:Nat),vp]
theorem PSt.wk {us:List Value} {W:Nat→List (List Nat)→List (List Nat)→World→(Nat→Nat)→Prop} {cyc:Bool} {w:World} {lab:Nat→Nat} {X:PrA} {V:PrV} {x:Sig.Pair} {n b b':Nat} (h:PSt us W cyc w lab X V x n b) (hb:b≤b'):PSt us W cyc w lab X V x n b' :=
 ⟨h.is,h.b0,h.b1,Nat.le_trans h.t0 hb,Nat.le_trans h.t1 hb,h.c0,h.c1,h.row,h.wt,h.l0,h.l1⟩
theorem qjd {us:List Value} {W:Nat→List (List Nat)→List (List Nat)→World→(Nat→Nat)→Prop} {cyc:Bool} {w:World} {lab:Nat→Nat} {X:PrA} {V:PrV} {x:Sig.Pair} {n b:Nat} (T:qef us W) (h:PSt us W cyc w lab X V x n b) (k:Nat) (sd:Int) (m:Nat) {Am:Option Addr} {cm:Nat} {mask:List Nat} (ok:Nat) {Ap:Option Addr} {cp:Nat} {op:List Nat} (hk:k=0) (hm:m≤65536) (hn:n+m≤20000) (hb40:b≤40) :
  Calls Tryz.prog 10 #[.pointer (some ⟨X.b,0,none⟩),qjs k sd (m:Int) (.slice Am mask.length cm) ok (.slice Ap op.length cp)] w fun e w'=>e=.returned (.int .i64 0)∧qcr (fun i=>i≤4∨8≤i) us W cyc w lab X (Sig.Pair.ticks m x) (n+m) b w':=by
 have HT:=am T;have H0:=am h;have HK:=am hk;have HM:=am hm;have HN:=am hn;have HB40:=am hb40;clear T h hk hm hn hb40;unfold qjs;go_enter Tryz.func10,Tryz.ntmps10;refine sq fun K0 J0=>?_
 go_wp2_with fail
 refine J0.out _ _ ?_;clear J0;have hbw:Below w.heap.size w (w.alloc (.cells #[.int .u8 (k:Nat),.int .i64 sd,.int .i64 (m:Int),.slice Am mask.length cm,.int .u8 (ok:Nat),.slice Ap op.length cp] 38)):=qaa (Below.refl _ _) _;have hps:=H0.out.below HT.out hbw;have hb:Blk (w.alloc (.cells #[.int .u8 (k:Nat),.int .i64 sd,.int .i64 (m:Int),.slice Am mask.length cm,.int .u8 (ok:Nat),.slice Ap op.length cp] 38)) w.heap.size 38 [.int .u8 (k:Nat),.int .i64 sd,.int .i64 (m:Int),.slice Am mask.length cm,.int .u8 (ok:Nat),.slice Ap op.length cp]:=heap_alloc_new w _;have HBW:=am hbw;have H1:=am hps.1;have HS1:=am (hps.2.mono (P':=fun i=>i≤4∨8≤i) (fun i e=>by omega));have HLB:qac (qaj lab w 4 w.heap.size=4):=⟨qas (Nat.le_refl _)⟩;have hBX:w.heap.size≠X.b:=hb.ne hps.1.is.blk (by decide);obtain⟨B,eB⟩:∃B,w.heap.size=B:=⟨_,rfl⟩;have HEB:=am eB;rw[eB] at hb HLB hBX ⊢;obtain⟨lab1,el⟩:∃l,qaj lab w 4=l:=⟨_,rfl⟩;rw[el] at H1 HS1 HLB;have HB:=am hb;have c0:=hb.c 0 rfl;have c2:=hb.c 2 rfl;clear hbw hps el hb;generalize (w.alloc (.cells #[.int .u8 (k:Nat),.int .i64 sd,.int .i64 (m:Int),.slice Am mask.length cm,.int .u8 (ok:Nat),.slice Ap op.length cp] 38))=w1 at *;have e0:(((k:Nat):Int)==0)=true:=beq_iff_eq.2 (by have:=HK.out;omega);have e1:decide (0≤(m:Int))=true:=decide_eq_true (by omega);have e2:decide ((m:Int)≤65536)=true:=decide_eq_true (by have:=HM.out;omega);have e3:decide ((m:Int)≥0)=true:=decide_eq_true (by omega);have e4:decide (m≤65536)=true:=decide_eq_true HM.out;clear hBX HB HLB
 go_wp2_with fail
 clear c0 c2 e0 e1 e2 e3 e4;go_loopw [27] (fun v27 wr=>∃j:Nat,j≤m∧v27=.int .i64 j∧qac (∃lab' V',Stps lab w (fun i=>i≤4∨8≤i) lab' wr∧PSt us W cyc wr lab' X V' (Sig.Pair.ticks j x) (n+j) b)) (fun v27 _=>m-(intOf v27).toNat)
 case atStart=>exact⟨0,Nat.zero_le _,rfl,⟨lab1,V,HS1.out,H1.out⟩⟩
 case round =>
  obtain⟨j,hj,rfl,⟨lab2,V2,hs2,hi2⟩⟩:=hrel;clear H1 HS1;have HS:=am hs2;have HI:=am hi2;clear hs2 hi2;by_cases hlt:j<m
  ·have HLT:=am hlt;have b1:decide ((j:Int)<(m:Int))=true:=decide_eq_true (by omega);have b2:decide (j<m)=true:=decide_eq_true hlt;clear hlt
   go_wp2_with fail
   refine(qj5 HT.out HI.out (by have:=HN.out;have:=HLT.out;omega) HB40.out).mono ?_;rintro e w3 ⟨rfl,lab3,V3,h3,h4⟩;have HF:qac (∃lab' V',Stps lab w (fun i=>i≤4∨8≤i) lab' w3∧PSt us W cyc w3 lab' X V' (Sig.Pair.ticks (j+1) x) (n+(j+1)) b):=⟨lab3,V3,HS.out.trans h3,by rw[qm5];exact h4.wk (Nat.zero_le _)⟩;clear h3 h4;have ew:wrap64 ((j:Int)+1)=((j+1:Nat):Int):=by have:=HM.out;have:=HLT.out;unfold wrap64;omega
   go_wp2;exact⟨⟨j+1,by have:=HLT.out;omega,by first|rfl|(simp[ew];done)|(rw[ew];done),⟨HF.out⟩⟩,by have:=HLT.out;(try rw[ew]);simp[intOf];omega⟩
  ·obtain rfl:j=m:=by omega
   have b1:decide ((j:Int)<(j:Int))=false:=decide_eq_false (by omega);have b2:decide (j<j)=false:=decide_eq_false (by omega);go_wp2;go_ret;exact⟨rfl,lab2,V2,HS.out,HI.out⟩
theorem qn7 (l:List Nat):(Sig.bitsOf l).length=8*l.length:=by
 induction l with
 |nil=>rfl
 |cons a l ih =>
  show (Sig.octet a++Sig.bitsOf l).length=_;rw[List.length_append,ih];simp[Sig.octet];omega
theorem qs2 (x:Sig.Wire) (l:List Bool):(if 65536<x.mask.length+l.length then x else { x with mask:=x.mask++l })=(qh8 x l).1:=by unfold qh8;split <;> rfl
theorem qs1 (x:Sig.Wire) (l:List Bool):(if 65536<x.mask.length+l.length then (3:Int) else 0)=((qh8 x l).2:Nat):=by unfold qh8;split <;> rfl
theorem qr3 {us:List Value} {W:Nat→List (List Nat)→List (List Nat)→World→(Nat→Nat)→Prop} {cyc:Bool} {w:World} {lab:Nat→Nat} {X:PrA} {V:PrV} {x:Sig.Pair} {n b:Nat} (T:qef us W) (h:PSt us W cyc w lab X V x n b) (k:Nat) (m:Int) {Am:Option Addr} {cm:Nat} {mask:List Nat} (ok:Nat) {Ap:Option Addr} {cp:Nat} {op:List Nat} (hk:k=2) (hx:Oct w (.slice Am mask.length cm) mask) (hl:mask.length≤1000) (hb2:∀b∈mask,b<256) :
  Calls Tryz.prog 10 #[.pointer (some ⟨X.b,0,none⟩),qjs k 0 m (.slice Am mask.length cm) ok (.slice Ap op.length cp)] w fun e w'=>e=.returned (.int .i64 ((qh8 x.w0 (Sig.bitsOf mask)).2:Nat))∧qcr (fun i=>i≤4∨8≤i) us W cyc w lab X { x with w0:=(qh8 x.w0 (Sig.bitsOf mask)).1 } n b w':=by
 have HT:=am T;have H0:=am h;have HK:=am hk;have HX:=am hx;have HL:=am hl;have HBY:=am hb2;clear T h hk hx hl hb2;unfold qjs;go_enter Tryz.func10,Tryz.ntmps10;refine sq fun K0 J0=>?_
 go_wp2_with fail
 refine J0.out _ _ ?_;clear J0;have hbw:Below w.heap.size w (w.alloc (.cells #[.int .u8 (k:Nat),.int .i64 0,.int .i64 m,.slice Am mask.length cm,.int .u8 (ok:Nat),.slice Ap op.length cp] 38)):=qaa (Below.refl _ _) _;have hps:=H0.out.below HT.out hbw;have hb:Blk (w.alloc (.cells #[.int .u8 (k:Nat),.int .i64 0,.int .i64 m,.slice Am mask.length cm,.int .u8 (ok:Nat),.slice Ap op.length cp] 38)) w.heap.size 38 [.int .u8 (k:Nat),.int .i64 0,.int .i64 m,.slice Am mask.length cm,.int .u8 (ok:Nat),.slice Ap op.length cp]:=heap_alloc_new w _;have HBW:=am hbw;have H1:=am hps.1;have HS1:=am (hps.2.mono (P':=fun i=>i≤4∨8≤i) (fun i e=>by omega));have HLB:qac (qaj lab w 4 w.heap.size=4):=⟨qas (Nat.le_refl _)⟩;have hBX:w.heap.size≠X.b:=hb.ne hps.1.is.blk (by decide);obtain⟨B,eB⟩:∃B,w.heap.size=B:=⟨_,rfl⟩;have HEB:=am eB;rw[eB] at hb HLB hBX ⊢;obtain⟨lab1,el⟩:∃l,qaj lab w 4=l:=⟨_,rfl⟩;rw[el] at H1 HS1 HLB;have HB:=am hb;have c0:=hb.c 0 rfl;have c1:=hb.c 1 rfl;have c2:=hb.c 2 rfl;have c3:=hb.c 3 rfl;clear hbw hps el hb;generalize (w.alloc (.cells #[.int .u8 (k:Nat),.int .i64 0,.int .i64 m,.slice Am mask.length cm,.int .u8 (ok:Nat),.slice Ap op.length cp] 38))=w1 at *;have hd:=H1.out.is.c 2 rfl;have e0:(((k:Nat):Int)==0)=false:=beq_eq_false_iff_ne.2 (by have:=HK.out;omega);have e3:decide ((3:Int)<(k:Int))=false:=decide_eq_false (by have:=HK.out;omega);have e3':decide ((k:Int)>3)=false:=decide_eq_false (by have:=HK.out;omega);have f2:(((k:Nat):Int)==2)=true:=beq_iff_eq.2 (by have:=HK.out;omega);have f3:(((k:Nat):Int)==3)=false:=beq_eq_false_iff_ne.2 (by have:=HK.out;omega)
 go_wp2_with fail
 refine(qcv 0 _).mono ?_;rintro e w2 ⟨rfl,rfl⟩;rw[show ((0:Int)==0||(0:Int)==1)=true from rfl];have hps2:=H1.out.below HT.out (qaf (Below.refl _ w1));have H2:=am hps2.1;have HS2:=am (HS1.out.trans (hps2.2.mono (P':=fun i=>i≤4∨8≤i) (fun i e=>by omega)));have HX2:=am ((HX.out.below (HBW.out)).below (qaf (Below.refl _ w1)));clear hps2
 go_wp2_with fail
 refine sr 12 (fun W=>W.cell? ⟨B,1,none⟩=some (.int .i64 0)∧W.cell? ⟨X.b,2,none⟩=some (.pointer (some ⟨X.h0,0,none⟩))∧W.cell? ⟨B,3,none⟩=some (.slice Am mask.length cm)) [10] (show _∧_∧_ from ⟨c1,hd,c3⟩) (fun hY=>?_);refine pu 0 51 ?_;refine pu 1 52 ?_;refine pu 3 54 ?_;refine pu 4 55 ?_;refine pu 7 58 ?_;refine tk 2 53 hY ?_;refine pu 5 56 ?_;refine tk 6 57 hY ?_;refine tk 8 59 hY ?_;refine on_ 9 60 (fun K hK=>?_);refine gs Tryz.func27 #[.slice Am mask.length cm] ?_
 with_reducible refine(qro HX2.out (by have:=HL.out;omega) HBY.out).mono ?_
 rintro e w3 ⟨v3,rfl,hR,hbw3⟩;refine⟨_,rfl,?_⟩;obtain⟨A3,k3,e3',-,-,-⟩:=hR.slice;subst e3';have hps3:=H2.out.below HT.out hbw3;have H3:=am hps3.1;have HS3:=am (HS2.out.trans (hps3.2.mono (P':=fun i=>i≤4∨8≤i) (fun i e=>by omega)));have HR:=am hR;have HBW3:=am hbw3;clear hps3 hR hbw3;obtain⟨lab3,el3⟩:∃l,qaj (qaj lab1 w1 4) w1.drew 4=l:=⟨_,rfl⟩;rw[el3] at H3 HS3;clear el3;obtain⟨O,hwi,hwl⟩:=H3.out.is.w0;have HW:=am hwi;have HWL:=am hwl;clear hwi hwl;refine hK.out _ _ ⟨qae HBW3.out hY.1,qae HBW3.out hY.2.1,qae HBW3.out hY.2.2⟩ (fun hY=>?_);clear hK K;refine nm 60 ?_;refine la_ 10 61 (fun K hK=>?_);refine gs Tryz.func26 #[.pointer (some ⟨X.h0,0,none⟩),.slice A3 (bools (Sig.bitsOf mask)).length k3] ?_
 with_reducible refine(qjl HW.out HR.out H3.out.c0.mask (by rw[qn7];have:=HL.out;omega)).mono ?_
 rintro e w4 ⟨q4,rfl,hgl,hbt,hwi4,hon4⟩;refine⟨_,rfl,?_⟩;have hwb:WiB (qh8 x.w0 (Sig.bitsOf mask)).1 q4 n:=by
  have c:=H3.out.c0;unfold qh8;split
  ·exact⟨c.l,c.ones,c.mask,by rw[hbt];exact c.bent⟩
  ·rename_i hc;exact⟨c.l,c.ones,by show (x.w0.mask++Sig.bitsOf mask).length≤65536;rw[List.length_append];omega,by rw[hbt];exact c.bent⟩
 rw[qs2] at hwi4;have h4:=H3.out.wire0 HT.out HW.out HWL.out hwi4 hon4 hwb;have HF:qac (qcr (fun i=>i≤4∨8≤i) us W cyc w lab X { x with w0:=(qh8 x.w0 (Sig.bitsOf mask)).1 } n b w4):=⟨_,_,HS3.out.trans (h4.2.mono (fun i e=>by omega)),h4.1⟩;have hr:=qs1 x.w0 (Sig.bitsOf mask);have HRR:=am hr;clear hgl hbt hwi4 hon4 hwb h4 hr;refine hK.out _ _ ?_;clear hK K;refine nm 61 ?_;refine pu 11 4 ?_;refine qav (by kernel_rfl) ?_;rw[HRR.out];go_wp2;go_ret;exact⟨rfl,HF.out⟩
theorem qex {us:List Value} {W:Nat→List (List Nat)→List (List Nat)→World→(Nat→Nat)→Prop} {cyc:Bool} {w:World} {lab:Nat→Nat} {X:PrA} {V:PrV} {x:Sig.Pair} {n b:Nat} (T:qef us W) (h:PSt us W cyc w lab X V x n b) (k:Nat) (m:Int) {Am:Option Addr} {cm:Nat} {mask:List Nat} (ok:Nat) {Ap:Option Addr} {cp:Nat} {op:List Nat} (hk:k=1) (hx:Oct w (.slice Ap op.length cp) op) (hl:op.length≤1000) (hb2:∀b∈op,b<256) (hn:n≤20000) (hb40:b≤40) :
  Calls Tryz.prog 10 #[.pointer (some ⟨X.b,0,none⟩),qjs k 0 m (.slice Am mask.length cm) ok (.slice Ap op.length cp)] w fun e w'=>e=.returned (.int .i64 ((x.p0.x.order ok op).2:Nat))∧qcr (fun i=>i≤4∨8≤i) us W cyc w lab X (Sig.Pair.tell0 x ok op) (n+1) (b+1) w':=by
 have HT:=am T;have H0:=am h;have HK:=am hk;have HX:=am hx;have HL:=am hl;have HBY:=am hb2;have HN:=am hn;have HB40:=am hb40;clear T h hk hx hl hb2 hn hb40;unfold qjs;go_enter Tryz.func10,Tryz.ntmps10;refine sq fun K0 J0=>?_
 go_wp2_with fail
 refine J0.out _ _ ?_;clear J0;have hbw:Below w.heap.size w (w.alloc (.cells #[.int .u8 (k:Nat),.int .i64 0,.int .i64 m,.slice Am mask.length cm,.int .u8 (ok:Nat),.slice Ap op.length cp] 38)):=qaa (Below.refl _ _) _;have hps:=H0.out.below HT.out hbw;have hb:Blk (w.alloc (.cells #[.int .u8 (k:Nat),.int .i64 0,.int .i64 m,.slice Am mask.length cm,.int .u8 (ok:Nat),.slice Ap op.length cp] 38)) w.heap.size 38 [.int .u8 (k:Nat),.int .i64 0,.int .i64 m,.slice Am mask.length cm,.int .u8 (ok:Nat),.slice Ap op.length cp]:=heap_alloc_new w _;have HBW:=am hbw;have H1:=am hps.1;have HS1:=am (hps.2.mono (P':=fun i=>i≤4∨8≤i) (fun i e=>by omega));have HLB:qac (qaj lab w 4 w.heap.size=4):=⟨qas (Nat.le_refl _)⟩;have hBX:w.heap.size≠X.b:=hb.ne hps.1.is.blk (by decide);obtain⟨B,eB⟩:∃B,w.heap.size=B:=⟨_,rfl⟩;have HEB:=am eB;rw[eB] at hb HLB hBX ⊢;obtain⟨lab1,el⟩:∃l,qaj lab w 4=l:=⟨_,rfl⟩;rw[el] at H1 HS1 HLB;have HB:=am hb;have c0:=hb.c 0 rfl;have c1:=hb.c 1 rfl;have c2:=hb.c 2 rfl;have c4:=hb.c 4 rfl;have c5:=hb.c 5 rfl;clear hbw hps el hb;generalize (w.alloc (.cells #[.int .u8 (k:Nat),.int .i64 0,.int .i64 m,.slice Am mask.length cm,.int .u8 (ok:Nat),.slice Ap op.length cp] 38))=w1 at *;have hd:=H1.out.is.c 0 rfl;have e0:(((k:Nat):Int)==0)=false:=beq_eq_false_iff_ne.2 (by have:=HK.out;omega);have e3:decide ((3:Int)<(k:Int))=false:=decide_eq_false (by have:=HK.out;omega);have e3':decide ((k:Int)>3)=false:=decide_eq_false (by have:=HK.out;omega);have f2:(((k:Nat):Int)==2)=false:=beq_eq_false_iff_ne.2 (by have:=HK.out;omega);have f3:(((k:Nat):Int)==3)=false:=beq_eq_false_iff_ne.2 (by have:=HK.out;omega);refine sq fun K4 J4=>?_
 go_wp2_with fail
 refine(qcv 0 _).mono ?_;rintro e w2 ⟨rfl,rfl⟩;rw[show ((0:Int)==0||(0:Int)==1)=true from rfl]
 go_wp2_with fail
 refine J4.out _ _ ?_;clear J4;have hps2:=H1.out.below HT.out (qaf (Below.refl _ w1));have H2:=am hps2.1;have HS2:=am (HS1.out.trans (hps2.2.mono (P':=fun i=>i≤4∨8≤i) (fun i e=>by omega)));have HX2:=am ((HX.out.below (HBW.out)).below (qaf (Below.refl _ w1)));have HB2:qac (Blk w1.drew B 38 [.int .u8 (k:Nat),.int .i64 0,.int .i64 m,.slice Am mask.length cm,.int .u8 (ok:Nat),.slice Ap op.length cp]):=⟨HB.out⟩;have HLB2:qac (qaj lab1 w1 4 B=4):=⟨(hps2.2.lb HB.out).trans HLB.out⟩;clear hps2;obtain⟨lab2,el2⟩:∃l,qaj lab1 w1 4=l:=⟨_,rfl⟩;rw[el2] at H2 HS2 HLB2;clear el2;obtain⟨O,vt,hpi,hpl⟩:=H2.out.is.p0;have HPI:=am hpi;have HPL:=am hpl;clear hpi hpl;obtain⟨er,her⟩:∃e,(x.p0.x.order ok op).2=e:=⟨_,rfl⟩;have HER:=am her;clear her;refine sq fun K5 J5=>?_
 go_wp2_with fail
 refine sr 11 (fun W=>W.cell? ⟨B,1,none⟩=some (.int .i64 0)∧W.cell? ⟨X.b,0,none⟩=some (.pointer (some ⟨X.g0,0,none⟩))∧W.cell? ⟨B,4,none⟩=some (.int .u8 ok)∧W.cell? ⟨B,5,none⟩=some (.slice Ap op.length cp)) [9] (show _∧_∧_∧_ from ⟨c1,hd,c4,c5⟩) (fun hY=>?_);refine pu 0 76 ?_;refine pu 1 77 ?_;refine pu 3 79 ?_;refine pu 4 80 ?_;refine pu 7 83 ?_;refine tk 2 78 hY ?_;refine pu 5 81 ?_;refine tk 6 82 hY ?_;refine tk 8 84 hY ?_;refine la_ 9 85 (fun K hK=>?_);refine gs Tryz.func29 #[.pointer (some ⟨X.g0,0,none⟩),.agg #[.int .u8 ok,.slice Ap op.length cp]] ?_
 with_reducible refine(qeq HPI.out (H2.out.b0.inv.x.ok (by have:=H2.out.b0.fails;have:=HN.out;omega) (by have:=H2.out.t0;have:=HB40.out;omega)) ok op _ HX2.out).mono ?_
 rintro e w4 ⟨rfl,vt4,hacc⟩;refine⟨_,rfl,?_⟩;obtain⟨h4,hs4,hb4,ht4,hl4⟩:=PrIs.ord0 H2.out HB40.out HPI.out HPL.out ok op HBY.out hacc;rw[HER.out];have HS4:qac (Stps lab w (fun i=>i≤4∨8≤i) (qaj lab2 w1.drew 0) w4):=⟨HS2.out.trans (hs4.mono (fun i e=>by omega))⟩;have H4:qac (PrIs w4 (qaj lab2 w1.drew 0) X (Sig.Pair.tell0 x ok op) V):=⟨h4⟩;have HK4:qac (PoB (Sig.Pair.tell0 x ok op).p0 V.q0 (n+1)∧(Sig.Pair.tell0 x ok op).p0.x.told.length≤b+1∧Sig.LB cyc (Sig.Pair.tell0 x ok op).p0.x):=⟨hb4,ht4,hl4⟩;have HR4:=am (H2.out.row.lab hs4 (by decide));have HW4:=am (HT.out.far H2.out.wt (hs4.mono (fun i e=>by omega)));have HB4:=am (hs4.blk HB2.out (by rw[HLB2.out];decide));have HLB4:=am ((hs4.lb HB2.out).trans HLB2.out);have HX4:=am (hs4.oct HX2.out);clear h4 hs4 hb4 ht4 hl4 hacc;refine hK.out _ _ ?_;clear hK K;refine nm 85 ?_;refine pu 10 5 ?_;refine qav (by kernel_rfl) ?_;clear hY c0 c1 c2 c4 c5 hd HB HB2 HLB HLB2 HPI HPL HX HX2 HS1 HS2 H1;obtain⟨lab4,el4⟩:∃l,qaj lab2 w1.drew 0=l:=⟨_,rfl⟩;rw[el4] at HS4 H4 HR4 HW4 HLB4;clear el4;refine J5.out _ _ ?_;clear J5;obtain⟨Av,nv,ev,-,-,-⟩:=HR4.out.slice;have c21:=H4.out.c 21 (qb1 X H4.out.n0 H4.out.n1 V.time V.vw .nilIface).1;rw[ev] at c21;obtain⟨KO,ko1,ko2,ko3⟩:=HT.out.order n x.out0 x.out1 0 ok er Ap cp op HN.out (by decide) HL.out;have HKO2:qac (∀{w lab},KO us.length w lab→W (n+1) (Sig.Pair.tell0 x ok op).out0 (Sig.Pair.tell0 x ok op).out1 w lab):=⟨fun {w lab} hk=>by have:=ko2 hk;unfold Sig.Pair.tell0;rw[HER.out];exact this⟩;have HKO3:=am @ko3;have HKO1:=am (ko1 HW4.out);clear ko1 ko2 ko3;refine sq fun K6 J6=>?_
 go_wp2_with fail
 clear c21;have ULEN:qac (us.length≤100):=⟨HT.out.len⟩;go_loopw [91] (fun v91 wr=>∃j:Nat,j≤us.length∧v91=.int .i64 j∧qac (∃lab',Stps lab w (fun i=>i≤4∨8≤i) lab' wr∧PrIs wr lab' X (Sig.Pair.tell0 x ok op) V∧Rw wr (fun k=>lab' k=7) 99 V.vw us∧KO j wr lab'∧Blk wr B 38 [.int .u8 (k:Nat),.int .i64 0,.int .i64 m,.slice Am mask.length cm,.int .u8 (ok:Nat),.slice Ap op.length cp]∧lab' B=4∧Oct wr (.slice Ap op.length cp) op)) (fun v91 _=>us.length-(intOf v91).toNat)
 case atStart=>exact⟨0,Nat.zero_le _,rfl,⟨lab4,HS4.out,H4.out,HR4.out,HKO1.out,HB4.out,HLB4.out,HX4.out⟩⟩
 case round =>
  obtain⟨j,hj,rfl,⟨lab5,g1,g2,g3,g4,g5,g6,g7⟩⟩:=hrel;clear HS4 H4 HR4 HKO1 HB4 HLB4 HX4 HW4;have G1:=am g1;have G2:=am g2;have G3:=am g3;have G4:=am g4;have G5:=am g5;have G6:=am g6;have G7:=am g7;clear g1 g2 g3 g4 g5 g6 g7;by_cases hlt:j<us.length
  ·have HLT:=am hlt;obtain⟨ty,ad,f,hus,hm,hc,hcall⟩:=HKO3.out hlt G4.out G7.out;obtain⟨gr,off,cr,er',-,hcell⟩:=G3.out.get j hus;rw[ev] at er';have er'':=(Value.slice.inj er').1;subst er'';have HCALL:=am hcall;have c1:=G5.out.c 1 rfl;have c4:=G5.out.c 4 rfl;have c5:=G5.out.c 5 rfl;clear hcall hus er';have b1:decide ((j:Int)<(us.length:Int))=true:=decide_eq_true (by omega);have p1:=eq_true (show 0≤(j:Int) by omega);have p2:=eq_true (show (j:Int)<(us.length:Int) by omega);clear hlt
   go_wp2_with fail
   refine HCALL.out.mono ?_;rintro e w6 ⟨rfl,lab6,hs6,hk6⟩;clear HCALL hm hc hcell c1 c4 c5 b1 p1 p2;have HF:qac (∃lab',Stps lab w (fun i=>i≤4∨8≤i) lab' w6∧PrIs w6 lab' X (Sig.Pair.tell0 x ok op) V∧Rw w6 (fun k=>lab' k=7) 99 V.vw us∧KO (j+1) w6 lab'∧Blk w6 B 38 [.int .u8 (k:Nat),.int .i64 0,.int .i64 m,.slice Am mask.length cm,.int .u8 (ok:Nat),.slice Ap op.length cp]∧lab' B=4∧Oct w6 (.slice Ap op.length cp) op):=⟨lab6,G1.out.trans (hs6.mono (fun i e=>by omega)),G2.out.far hs6 (fun i e=>by omega),G3.out.lab hs6 (by decide),hk6,hs6.blk G5.out (by rw[G6.out];decide),(hs6.lb G5.out).trans G6.out,hs6.oct G7.out⟩;clear hs6 hk6;have ew:wrap64 ((j:Int)+1)=((j+1:Nat):Int):=by have:=ULEN.out;have:=HLT.out;unfold wrap64;omega
   go_wp2;exact⟨⟨j+1,by have:=HLT.out;omega,by first|rfl|(simp[ew];done)|(rw[ew];done),⟨HF.out⟩⟩,by have:=HLT.out;(try rw[ew]);simp[intOf];omega⟩
  ·obtain rfl:j=us.length:=by omega
   have b1:decide ((us.length:Int)<(us.length:Int))=false:=decide_eq_false (by omega)
   go_wp2_with fail
   refine J6.out _ _ ?_;clear J6;go_wp2;go_ret;refine⟨by rw[HER.out];rfl,lab5,V,G1.out,⟨G2.out,HK4.out.1,H2.out.b1.mono (by omega),HK4.out.2.1,Nat.le_succ_of_le H2.out.t1,H2.out.c0.mono (by omega),H2.out.c1.mono (by omega),G3.out,HKO2.out G4.out,HK4.out.2.2,H2.out.l1⟩⟩
theorem qje {us:List Value} {W:Nat→List (List Nat)→List (List Nat)→World→(Nat→Nat)→Prop} {cyc:Bool} {w:World} {lab:Nat→Nat} {X:PrA} {V:PrV} {x:Sig.Pair} {n b:Nat} (T:qef us W) (h:PSt us W cyc w lab X V x n b) (k:Nat) (m:Int) {Am:Option Addr} {cm:Nat} {mask:List Nat} (ok:Nat) {Ap:Option Addr} {cp:Nat} {op:List Nat} (hk:k=1) (hx:Oct w (.slice Ap op.length cp) op) (hl:op.length≤1000) (hb2:∀b∈op,b<256) (hn:n≤20000) (hb40:b≤40) :
  Calls Tryz.prog 10 #[.pointer (some ⟨X.b,0,none⟩),qjs k 1 m (.slice Am mask.length cm) ok (.slice Ap op.length cp)] w fun e w'=>e=.returned (.int .i64 ((x.p1.x.order ok op).2:Nat))∧qcr (fun i=>i≤4∨8≤i) us W cyc w lab X (Sig.Pair.tell1 x ok op) (n+1) (b+1) w':=by
 have HT:=am T;have H0:=am h;have HK:=am hk;have HX:=am hx;have HL:=am hl;have HBY:=am hb2;have HN:=am hn;have HB40:=am hb40;clear T h hk hx hl hb2 hn hb40;unfold qjs;go_enter Tryz.func10,Tryz.ntmps10;refine sq fun K0 J0=>?_
 go_wp2_with fail
 refine J0.out _ _ ?_;clear J0;have hbw:Below w.heap.size w (w.alloc (.cells #[.int .u8 (k:Nat),.int .i64 1,.int .i64 m,.slice Am mask.length cm,.int .u8 (ok:Nat),.slice Ap op.length cp] 38)):=qaa (Below.refl _ _) _;have hps:=H0.out.below HT.out hbw;have hb:Blk (w.alloc (.cells #[.int .u8 (k:Nat),.int .i64 1,.int .i64 m,.slice Am mask.length cm,.int .u8 (ok:Nat),.slice Ap op.length cp] 38)) w.heap.size 38 [.int .u8 (k:Nat),.int .i64 1,.int .i64 m,.slice Am mask.length cm,.int .u8 (ok:Nat),.slice Ap op.length cp]:=heap_alloc_new w _;have HBW:=am hbw;have H1:=am hps.1;have HS1:=am (hps.2.mono (P':=fun i=>i≤4∨8≤i) (fun i e=>by omega));have HLB:qac (qaj lab w 4 w.heap.size=4):=⟨qas (Nat.le_refl _)⟩;have hBX:w.heap.size≠X.b:=hb.ne hps.1.is.blk (by decide);obtain⟨B,eB⟩:∃B,w.heap.size=B:=⟨_,rfl⟩;have HEB:=am eB;rw[eB] at hb HLB hBX ⊢;obtain⟨lab1,el⟩:∃l,qaj lab w 4=l:=⟨_,rfl⟩;rw[el] at H1 HS1 HLB;have HB:=am hb;have c0:=hb.c 0 rfl;have c1:=hb.c 1 rfl;have c2:=hb.c 2 rfl;have c4:=hb.c 4 rfl;have c5:=hb.c 5 rfl;clear hbw hps el hb;generalize (w.alloc (.cells #[.int .u8 (k:Nat),.int .i64 1,.int .i64 m,.slice Am mask.length cm,.int .u8 (ok:Nat),.slice Ap op.length cp] 38))=w1 at *;have hd:=H1.out.is.c 1 rfl;have e0:(((k:Nat):Int)==0)=false:=beq_eq_false_iff_ne.2 (by have:=HK.out;omega);have e3:decide ((3:Int)<(k:Int))=false:=decide_eq_false (by have:=HK.out;omega);have e3':decide ((k:Int)>3)=false:=decide_eq_false (by have:=HK.out;omega);have f2:(((k:Nat):Int)==2)=false:=beq_eq_false_iff_ne.2 (by have:=HK.out;omega);have f3:(((k:Nat):Int)==3)=false:=beq_eq_false_iff_ne.2 (by have:=HK.out;omega);refine sq fun K4 J4=>?_
 go_wp2_with fail
 refine(qcv 1 _).mono ?_;rintro e w2 ⟨rfl,rfl⟩;rw[show ((1:Int)==0||(1:Int)==1)=true from rfl]
 go_wp2_with fail
 refine J4.out _ _ ?_;clear J4;have hps2:=H1.out.below HT.out (qaf (Below.refl _ w1));have H2:=am hps2.1;have HS2:=am (HS1.out.trans (hps2.2.mono (P':=fun i=>i≤4∨8≤i) (fun i e=>by omega)));have HX2:=am ((HX.out.below (HBW.out)).below (qaf (Below.refl _ w1)));have HB2:qac (Blk w1.drew B 38 [.int .u8 (k:Nat),.int .i64 1,.int .i64 m,.slice Am mask.length cm,.int .u8 (ok:Nat),.slice Ap op.length cp]):=⟨HB.out⟩;have HLB2:qac (qaj lab1 w1 4 B=4):=⟨(hps2.2.lb HB.out).trans HLB.out⟩;clear hps2;obtain⟨lab2,el2⟩:∃l,qaj lab1 w1 4=l:=⟨_,rfl⟩;rw[el2] at H2 HS2 HLB2;clear el2;obtain⟨O,vt,hpi,hpl⟩:=H2.out.is.p1;have HPI:=am hpi;have HPL:=am hpl;clear hpi hpl;obtain⟨er,her⟩:∃e,(x.p1.x.order ok op).2=e:=⟨_,rfl⟩;have HER:=am her;clear her;refine sq fun K5 J5=>?_
 go_wp2_with fail
 refine sr 11 (fun W=>W.cell? ⟨B,1,none⟩=some (.int .i64 1)∧W.cell? ⟨X.b,1,none⟩=some (.pointer (some ⟨X.g1,0,none⟩))∧W.cell? ⟨B,4,none⟩=some (.int .u8 ok)∧W.cell? ⟨B,5,none⟩=some (.slice Ap op.length cp)) [9] (show _∧_∧_∧_ from ⟨c1,hd,c4,c5⟩) (fun hY=>?_);refine pu 0 76 ?_;refine pu 1 77 ?_;refine pu 3 79 ?_;refine pu 4 80 ?_;refine pu 7 83 ?_;refine tk 2 78 hY ?_;refine pu 5 81 ?_;refine tk 6 82 hY ?_;refine tk 8 84 hY ?_;refine la_ 9 85 (fun K hK=>?_);refine gs Tryz.func29 #[.pointer (some ⟨X.g1,0,none⟩),.agg #[.int .u8 ok,.slice Ap op.length cp]] ?_
 with_reducible refine(qeq HPI.out (H2.out.b1.inv.x.ok (by have:=H2.out.b1.fails;have:=HN.out;omega) (by have:=H2.out.t1;have:=HB40.out;omega)) ok op _ HX2.out).mono ?_
 rintro e w4 ⟨rfl,vt4,hacc⟩;refine⟨_,rfl,?_⟩;obtain⟨h4,hs4,hb4,ht4,hl4⟩:=PrIs.ord1 H2.out HB40.out HPI.out HPL.out ok op HBY.out hacc;rw[HER.out];have HS4:qac (Stps lab w (fun i=>i≤4∨8≤i) (qaj lab2 w1.drew 1) w4):=⟨HS2.out.trans (hs4.mono (fun i e=>by omega))⟩;have H4:qac (PrIs w4 (qaj lab2 w1.drew 1) X (Sig.Pair.tell1 x ok op) V):=⟨h4⟩;have HK4:qac (PoB (Sig.Pair.tell1 x ok op).p1 V.q1 (n+1)∧(Sig.Pair.tell1 x ok op).p1.x.told.length≤b+1∧Sig.LB cyc (Sig.Pair.tell1 x ok op).p1.x):=⟨hb4,ht4,hl4⟩;have HR4:=am (H2.out.row.lab hs4 (by decide));have HW4:=am (HT.out.far H2.out.wt (hs4.mono (fun i e=>by omega)));have HB4:=am (hs4.blk HB2.out (by rw[HLB2.out];decide));have HLB4:=am ((hs4.lb HB2.out).trans HLB2.out);have HX4:=am (hs4.oct HX2.out);clear h4 hs4 hb4 ht4 hl4 hacc;refine hK.out _ _ ?_;clear hK K;refine nm 85 ?_;refine pu 10 5 ?_;refine qav (by kernel_rfl) ?_;clear hY c0 c1 c2 c4 c5 hd HB HB2 HLB HLB2 HPI HPL HX HX2 HS1 HS2 H1;obtain⟨lab4,el4⟩:∃l,qaj lab2 w1.drew 1=l:=⟨_,rfl⟩;rw[el4] at HS4 H4 HR4 HW4 HLB4;clear el4;refine J5.out _ _ ?_;clear J5;obtain⟨Av,nv,ev,-,-,-⟩:=HR4.out.slice;have c21:=H4.out.c 21 (qb1 X H4.out.n0 H4.out.n1 V.time V.vw .nilIface).1;rw[ev] at c21;obtain⟨KO,ko1,ko2,ko3⟩:=HT.out.order n x.out0 x.out1 1 ok er Ap cp op HN.out (by decide) HL.out;have HKO2:qac (∀{w lab},KO us.length w lab→W (n+1) (Sig.Pair.tell1 x ok op).out0 (Sig.Pair.tell1 x ok op).out1 w lab):=⟨fun {w lab} hk=>by have:=ko2 hk;unfold Sig.Pair.tell1;rw[HER.out];exact this⟩;have HKO3:=am @ko3;have HKO1:=am (ko1 HW4.out);clear ko1 ko2 ko3;refine sq fun K6 J6=>?_
 go_wp2_with fail
 clear c21;have ULEN:qac (us.length≤100):=⟨HT.out.len⟩;go_loopw [91] (fun v91 wr=>∃j:Nat,j≤us.length∧v91=.int .i64 j∧qac (∃lab',Stps lab w (fun i=>i≤4∨8≤i) lab' wr∧PrIs wr lab' X (Sig.Pair.tell1 x ok op) V∧Rw wr (fun k=>lab' k=7) 99 V.vw us∧KO j wr lab'∧Blk wr B 38 [.int .u8 (k:Nat),.int .i64 1,.int .i64 m,.slice Am mask.length cm,.int .u8 (ok:Nat),.slice Ap op.length cp]∧lab' B=4∧Oct wr (.slice Ap op.length cp) op)) (fun v91 _=>us.length-(intOf v91).toNat)
 case atStart=>exact⟨0,Nat.zero_le _,rfl,⟨lab4,HS4.out,H4.out,HR4.out,HKO1.out,HB4.out,HLB4.out,HX4.out⟩⟩
 case round =>
  obtain⟨j,hj,rfl,⟨lab5,g1,g2,g3,g4,g5,g6,g7⟩⟩:=hrel;clear HS4 H4 HR4 HKO1 HB4 HLB4 HX4 HW4;have G1:=am g1;have G2:=am g2;have G3:=am g3;have G4:=am g4;have G5:=am g5;have G6:=am g6;have G7:=am g7;clear g1 g2 g3 g4 g5 g6 g7;by_cases hlt:j<us.length
  ·have HLT:=am hlt;obtain⟨ty,ad,f,hus,hm,hc,hcall⟩:=HKO3.out hlt G4.out G7.out;obtain⟨gr,off,cr,er',-,hcell⟩:=G3.out.get j hus;rw[ev] at er';have er'':=(Value.slice.inj er').1;subst er'';have HCALL:=am hcall;have c1:=G5.out.c 1 rfl;have c4:=G5.out.c 4 rfl;have c5:=G5.out.c 5 rfl;clear hcall hus er';have b1:decide ((j:Int)<(us.length:Int))=true:=decide_eq_true (by omega);have p1:=eq_true (show 0≤(j:Int) by omega);have p2:=eq_true (show (j:Int)<(us.length:Int) by omega);clear hlt
   go_wp2_with fail
   refine HCALL.out.mono ?_;rintro e w6 ⟨rfl,lab6,hs6,hk6⟩;clear HCALL hm hc hcell c1 c4 c5 b1 p1 p2;have HF:qac (∃lab',Stps lab w (fun i=>i≤4∨8≤i) lab' w6∧PrIs w6 lab' X (Sig.Pair.tell1 x ok op) V∧Rw w6 (fun k=>lab' k=7) 99 V.vw us∧KO (j+1) w6 lab'∧Blk w6 B 38 [.int .u8 (k:Nat),.int .i64 1,.int .i64 m,.slice Am mask.length cm,.int .u8 (ok:Nat),.slice Ap op.length cp]∧lab' B=4∧Oct w6 (.slice Ap op.length cp) op):=⟨lab6,G1.out.trans (hs6.mono (fun i e=>by omega)),G2.out.far hs6 (fun i e=>by omega),G3.out.lab hs6 (by decide),hk6,hs6.blk G5.out (by rw[G6.out];decide),(hs6.lb G5.out).trans G6.out,hs6.oct G7.out⟩;clear hs6 hk6;have ew:wrap64 ((j:Int)+1)=((j+1:Nat):Int):=by have:=ULEN.out;have:=HLT.out;unfold wrap64;omega
   go_wp2;exact⟨⟨j+1,by have:=HLT.out;omega,by first|rfl|(simp[ew];done)|(rw[ew];done),⟨HF.out⟩⟩,by have:=HLT.out;(try rw[ew]);simp[intOf];omega⟩
  ·obtain rfl:j=us.length:=by omega
   have b1:decide ((us.length:Int)<(us.length:Int))=false:=decide_eq_false (by omega)
   go_wp2_with fail
   refine J6.out _ _ ?_;clear J6;go_wp2;go_ret;refine⟨by rw[HER.out];rfl,lab5,V,G1.out,⟨G2.out,H2.out.b0.mono (by omega),HK4.out.1,Nat.le_succ_of_le H2.out.t0,HK4.out.2.1,H2.out.c0.mono (by omega),H2.out.c1.mono (by omega),G3.out,HKO2.out G4.out,H2.out.l0,HK4.out.2.2⟩⟩
theorem qcn {us:List Value} {W:Nat→List (List Nat)→List (List Nat)→World→(Nat→Nat)→Prop} {cyc:Bool} {w:World} {lab:Nat→Nat} {X:PrA} {V:PrV} {x:Sig.Pair} {n b:Nat} (T:qef us W) (h:PSt us W cyc w lab X V x n b) (i:Nat) (hi:i<2) (k:Nat) (hn:n≤20000) (hb:b≤40) :
  Calls Tryz.prog 10 #[.pointer (some ⟨X.b,0,none⟩),.agg #[.int .u8 1,.int .i64 (i:Nat),.int .i64 0,.slice none 0 0,.int .u8 (k:Nat),.slice none 0 0]] w fun e w'=>(∃r:Int,e=.returned (.int .i64 r))∧qcr (fun i=>i≤4∨8≤i) us W cyc w lab X (if i=0 then Sig.Pair.tell0 x k [] else Sig.Pair.tell1 x k []) (n+1) (b+1) w':=by
 have hi2:i=0∨i=1:=by omega
 rcases hi2 with rfl|rfl
 ·refine(qex T h 1 0 (mask:=[]) (Am:=none) (cm:=0) (Ap:=none) (cp:=0) (op:=[]) k rfl (Rw.nil _ _ _) (by decide) (fun b hb=>by simp at hb) hn hb).mono ?_;rintro e w' ⟨rfl,k⟩;exact⟨⟨_,rfl⟩,k⟩
 ·refine(qje T h 1 0 (mask:=[]) (Am:=none) (cm:=0) (Ap:=none) (cp:=0) (op:=[]) k rfl (Rw.nil _ _ _) (by decide) (fun b hb=>by simp at hb) hn hb).mono ?_;rintro e w' ⟨rfl,k⟩;exact⟨⟨_,rfl⟩,k⟩
theorem qc3 {us:List Value} {W:Nat→List (List Nat)→List (List Nat)→World→(Nat→Nat)→Prop} {cyc:Bool} {w:World} {lab:Nat→Nat} {X:PrA} {V:PrV} {x:Sig.Pair} {n b:Nat} (T:qef us W) (h:PSt us W cyc w lab X V x n b) (m:Nat) (hm:m≤65536) (hn:n+m≤20000) (hb:b≤40) :
  Calls Tryz.prog 10 #[.pointer (some ⟨X.b,0,none⟩),.agg #[.int .u8 0,.int .i64 0,.int .i64 (m:Nat),.slice none 0 0,.int .u8 0,.slice none 0 0]] w fun e w'=>e=.returned (.int .i64 0)∧qcr (fun i=>i≤4∨8≤i) us W cyc w lab X (Sig.Pair.ticks m x) (n+m) b w' :=
 qjd T h 0 0 m (mask:=[]) (Am:=none) (cm:=0) (Ap:=none) (cp:=0) (op:=[]) 0 rfl hm hn hb
def Sig.Pair.starts (x:Sig.Pair) (g:Nat) (i:Nat):Sig.Pair:=match i with
 |0=>x
 |1=>Sig.Pair.ticks g (Sig.Pair.tell0 x 1 [])
 |_=>Sig.Pair.tell1 (Sig.Pair.ticks g (Sig.Pair.tell0 x 1 [])) 1 []
def qhl (g:Nat):Nat→Nat
 |0=>0
 |1=>g+1
 |_=>g+2
theorem qel {us:List Value} {W:Nat→List (List Nat)→List (List Nat)→World→(Nat→Nat)→Prop} {cyc:Bool} {w:World} {lab:Nat→Nat} {X:PrA} {V:PrV} {x:Sig.Pair} {n b:Nat} (T:qef us W) (h:PSt us W cyc w lab X V x n b) (g N:Nat) (hg:g≤65536) (hN:N≤65536) (hn:n+g+N+2≤20000) (hb:b≤30) :
  Calls Tryz.prog 17 #[.pointer (some ⟨X.b,0,none⟩),.int .i64 (g:Nat),.int .i64 (N:Nat)] w fun e w'=>e=.returned (.tuple #[])∧qcr (fun i=>i≤4∨8≤i) us W cyc w lab X (Sig.Pair.ticks N (Sig.Pair.starts x g 2)) (n+g+N+2) (b+2) w':=by
 have HT:=am T;have H0:=am h;have HG:=am hg;have HNN:=am hN;have HN:=am hn;have HB:=am hb;clear T h hg hN hn hb;go_enter Tryz.func17,Tryz.ntmps17;refine sq fun K0 J0=>?_
 go_wp2_with fail
 go_loopw [7] (fun v7 wr=>∃i:Nat,i≤2∧v7=.int .i64 i∧qac (∃lab' V',Stps lab w (fun i=>i≤4∨8≤i) lab' wr∧PSt us W cyc wr lab' X V' (Sig.Pair.starts x g i) (n+qhl g i) (b+i))) (fun v7 _=>2-(intOf v7).toNat)
 case atStart=>exact⟨0,Nat.zero_le _,rfl,⟨lab,V,Stps.refl _ _ _,H0.out⟩⟩
 case round =>
  obtain⟨i,hi,rfl,⟨lab2,V2,hs2,hi2⟩⟩:=hrel;have HS:=am hs2;have HI:=am hi2;clear hs2 hi2;obtain rfl|rfl|rfl:i=0∨i=1∨i=2:=by omega
  ·simp only[show ((0:Nat):Int)=0 from rfl]
   go_wp2_with fail
   refine(qcn HT.out HI.out 0 (by decide) 1 (by have:=HN.out;show n+0≤20000;omega) (by have:=HB.out;omega)).mono ?_;rintro e w3 ⟨⟨r,rfl⟩,lab3,V3,h3,h4⟩;have HS3:=am (HS.out.trans h3);have HI3:=am h4;clear h3 h4 HS HI
   go_wp2_with fail
   refine(qc3 HT.out HI3.out g HG.out (by have:=HN.out;show n+0+1+g≤20000;omega) (by have:=HB.out;omega)).mono ?_;rintro e w5 ⟨rfl,lab5,V5,h5,h6⟩;have HF:qac (∃lab' V',Stps lab w (fun i=>i≤4∨8≤i) lab' w5∧PSt us W cyc w5 lab' X V' (Sig.Pair.starts x g 1) (n+qhl g 1) (b+1)):=⟨lab5,V5,HS3.out.trans h5,by have e:n+qhl g 1=n+qhl g 0+1+g:=(by show n+(g+1)=n+0+1+g;omega);rw[e];exact h6⟩;clear h5 h6;go_wp2;exact⟨⟨1,by omega,by first|rfl|(simp;done),⟨HF.out⟩⟩,by simp[intOf]⟩
  ·simp only[show ((1:Nat):Int)=1 from rfl]
   go_wp2_with fail
   refine(qcn HT.out HI.out 1 (by decide) 1 (by have:=HN.out;show n+(g+1)≤20000;omega) (by have:=HB.out;omega)).mono ?_;rintro e w3 ⟨⟨r,rfl⟩,lab3,V3,h3,h4⟩;have HF:qac (∃lab' V',Stps lab w (fun i=>i≤4∨8≤i) lab' w3∧PSt us W cyc w3 lab' X V' (Sig.Pair.starts x g 2) (n+qhl g 2) (b+2)):=⟨lab3,V3,HS.out.trans h3,h4⟩;clear h3 h4;go_wp2;exact⟨⟨2,by omega,by first|rfl|(simp;done),⟨HF.out⟩⟩,by simp[intOf]⟩
  ·simp only[show ((2:Nat):Int)=2 from rfl]
   go_wp2_with fail
   refine J0.out _ _ ?_;clear J0
   go_wp2_with fail
   refine(qc3 HT.out HI.out N HNN.out (by have:=HN.out;show n+(g+2)+N≤20000;omega) (by have:=HB.out;omega)).mono ?_;rintro e w5 ⟨rfl,lab5,V5,h5,h6⟩;have HF:qac (qcr (fun i=>i≤4∨8≤i) us W cyc w lab X (Sig.Pair.ticks N (Sig.Pair.starts x g 2)) (n+g+N+2) (b+2) w5):=⟨lab5,V5,HS.out.trans h5,by have e:n+g+N+2=n+qhl g 2+N:=(by show n+g+N+2=n+(g+2)+N;omega);rw[e];exact h6⟩;clear h5 h6;go_wp2
   first|go_end0|refine bodyPost_ret (v:=.tuple #[]) (by simp[results,Tryz.results17,go_sem]) rfl ?_
   exact⟨rfl,HF.out⟩
theorem qd5 {us:List Value} {W:Nat→List (List Nat)→List (List Nat)→World→(Nat→Nat)→Prop} {cyc:Bool} {w:World} {lab:Nat→Nat} {X:PrA} {V:PrV} {x:Sig.Pair} {n b:Nat} (T:qef us W) (h:PSt us W cyc w lab X V x n b) (h0:x.p0.x.s=4) (h1:x.p1.x.s=4) :
  Calls Tryz.prog 20 #[.pointer (some ⟨X.b,0,none⟩)] w fun e w'=>e=.returned (.bool true)∧∃k,w'=w.drewN k:=by
 have H0:=am h;have E0:=am h0;have E1:=am h1;clear T h h0 h1;go_enter Tryz.func20,Tryz.ntmps20
 go_wp2_with fail
 refine(qiw H0.out.is).mono ?_;rintro e w1 ⟨rfl,k1,rfl⟩;have h1:=H0.out.is.below (qab (Below.refl w.heap.size w) k1) 4
 go_wp2_with fail
 refine(qiv h1).mono ?_;rintro e w2 ⟨rfl,k2,rfl⟩;clear h1;have h2:=H0.out.is.below (qab (Below.refl w.heap.size w) (k1+k2)) 4;obtain⟨O0,vt0,hp0,-⟩:=h2.p0;obtain⟨O1,vt1,hp1,-⟩:=h2.p1;have s0:=hp0.lk.core.st.c 0 rfl;have s1:=hp1.lk.core.st.c 0 rfl;rw[E0.out] at s0;rw[E1.out] at s1;have HC0:=am (qcd hp0);have HC1:=am (qcd hp1);clear h2 hp0 hp1
 go_wp2_with fail
 refine HC0.out.mono ?_;rintro e w3 ⟨rfl,rfl⟩
 go_wp2_with fail
 refine HC1.out.mono ?_;rintro e w4 ⟨rfl,rfl⟩;go_wp2;go_ret;exact⟨rfl,k1+k2,rfl⟩
theorem qrv (cyc:Bool) (t0 t1 t2 t3 t4 t5 t6 t7:Nat) (ht:TOk t0 t1 t2 t3 t4 t5 t6 t7):LInv (Sig.newLink cyc [t0,t1,t2,t3,t4,t5,t6,t7]):=by
 have ha:=ht.all;have hh:HOk Sig.newHold:=⟨by decide,by decide,by decide,by decide,by decide,by decide,fun p hp=>by simp[Sig.newHold] at hp⟩;refine⟨(by decide:0≤3),(by decide:0≤5),fun e=>by simp[Sig.newLink] at e,(by decide:0≤63),(by decide:0≤256),?_,fun n hn=>?_,rfl,fun i=>?_⟩
 ·cases cyc
  ·exact⟨hh,by decide,fun i e=>by simp[Sig.newHold] at e⟩
  ·exact⟨hh,by decide,by decide,by decide,by decide⟩
 ·simp[Sig.newLink,Sig.cZero] at hn;omega
 ·unfold Sig.Link.T;show [t0,t1,t2,t3,t4,t5,t6,t7].getD i 0≤_;by_cases hi:i<8
  ·rw[List.getD_eq_getElem?_getD,List.getElem?_eq_getElem (by simpa using hi)];exact(ha _ (List.getElem_mem _)).2
  ·rw[List.getD_eq_getElem?_getD,List.getElem?_eq_none (by simp;omega)];exact Nat.zero_le _
theorem qpk {w w':World} {lab lab':Nat→Nat} {cyc:Bool} {cs:List Value} {t0 t1 t2 t3 t4 t5 t6 t7 d b c:Nat} {X:PrA} {V:PrV} (ht:TOk t0 t1 t2 t3 t4 t5 t6 t7) (hd:d≤65536) (h:NwA w lab cyc cs (qlo cyc [t0,t1,t2,t3,t4,t5,t6,t7]) (qkk d) b c 2 w' lab' X V) :
  PSt [] (fun _ _ _ _ _=>True) cyc w' lab' { X with b:=b } { V with time:=0,vw:=.slice none 0 0 } (Sig.newPair cyc [t0,t1,t2,t3,t4,t5,t6,t7] d) 0 0:=by
 have hi:=qvd h;have s0:=h.s0 (by decide);have s1:=h.s1 (by decide);have li:=qrv cyc _ _ _ _ _ _ _ _ ht;have po:∀q:PoV,(q.gone=0∧q.came=0∧q.ns=0∧q.ng=0∧q.ends=0)→PoB (Sig.newPost cyc [t0,t1,t2,t3,t4,t5,t6,t7]) q 0:=fun q hq =>
  ⟨⟨li,⟨(by decide:0<128),fun e=>by simp[Sig.newPost] at e,fun _=>rfl⟩⟩,Nat.le_refl _,Nat.zero_le _,by omega,by omega,by omega,Nat.le_refl _,by omega⟩
 have wb:∀r:WV,r.bent=0→WiB (qkk d) r 0:=fun r hr=>⟨by show (List.replicate d false).length≤_;rw[List.length_replicate];exact hd,Nat.zero_le _,Nat.zero_le _,by omega⟩;exact⟨hi,po _ s0.q0,po _ s1.q0,Nat.le_refl _,Nat.le_refl _,wb _ s0.r0,wb _ s1.r0,Rw.nil _ _ _,trivial,Sig.LB.new cyc _,Sig.LB.new cyc _⟩
def relRow (lab:Nat→Nat) (v:Value) (k:Nat):Nat:=if qau v=some k then 7 else lab k
section
variable {w w':World} {lab lab':Nat→Nat} {v:Value} {us:List Value}
theorem qbr {k i:Nat} (h4:∀k,qau v=some k→lab k=4) (hi:i≠4) (h:lab k=i):relRow lab v k=i:=by
 unfold relRow;rw[if_neg (fun e=>hi (h.symm.trans (h4 k e)))];exact h
theorem PrIs.relRow {X:PrA} {x:Sig.Pair} {V:PrV} (h:PrIs w lab X x V) (hr:Rw w (fun k=>lab k=4) 99 v us):PrIs w (relRow lab v) X x V:=by
 have h4:∀k,qau v=some k→lab k=4:=fun k e=>by obtain⟨A,c,_,_,_,f⟩:=hr.slice;exact(f k e).1
 have po:∀{i g A p q},i≠4→PoS w lab i g A p q→PoS w (Top.relRow lab v) i g A p q:=fun hi ⟨O,vt,a,b⟩=>⟨O,vt,a,fun k hk=>qbr h4 hi (b k hk)⟩;have wo:∀{i g x q},i≠4→WrS w lab i g x q→WrS w (Top.relRow lab v) i g x q:=fun hi ⟨O,a,b⟩=>⟨O,a,fun k hk=>⟨qbr h4 hi (b k hk).1,(b k hk).2⟩⟩;refine⟨h.blk,?_,po (by decide) h.p0,po (by decide) h.p1,wo (by decide) h.w0,wo (by decide) h.w1,h.n0,h.n1⟩;unfold Top.relRow;rw[if_neg (fun e=>by obtain⟨A,c,_,_,_,f⟩:=hr.slice;exact absurd ((f _ e).2.1.ne h.blk.typed) (by decide))];exact h.lb
theorem Rw.relRow (hr:Rw w (fun k=>lab k=4) 99 v us):Rw w (fun k=>Top.relRow lab v k=7) 99 v us:=hr.mono (fun k _ _ _ e=>by unfold Top.relRow;rw[if_pos e])
theorem ST.relRow {s t m mt:Nat} {o0 o1:List (List Nat)} (h:ST s t m mt o0 o1 w lab) (hr:Rw w (fun k=>lab k=4) 99 v us):ST s t m mt o0 o1 w (Top.relRow lab v):=by
 have h4:∀k,qau v=some k→lab k=4:=fun k e=>by obtain⟨A,c,_,_,_,f⟩:=hr.slice;exact(f k e).1
 obtain⟨⟨V,a⟩,V2,b⟩:=h;have ro:∀{i v' l},i≠4→ORow w lab i v' l→ORow w (Top.relRow lab v) i v' l:=fun hi ⟨us,c,d⟩=>⟨us,c.mono (fun k hk _ _ _=>qbr h4 hi hk),d⟩;have so:∀{i v' n},i≠4→SR w (fun k=>lab k=i) 184 3 (fun _=>True) v' n→SR w (fun k=>Top.relRow lab v k=i) 184 3 (fun _=>True) v' n:=fun hi c=>c.mono (fun k hk _=>qbr h4 hi hk);exact⟨⟨V,a.blk,qbr h4 (by decide) a.lb,a.i0.imp (fun _ k=>⟨ro (by decide) k.1,k.2⟩),a.i1.imp (fun _ k=>⟨ro (by decide) k.1,k.2⟩),⟨ro (by decide) a.o0.1,a.o0.2⟩,⟨ro (by decide) a.o1.1,a.o1.2⟩,a.l0.imp (fun _ k=>⟨so (by decide) k.1,k.2⟩),a.l1.imp (fun _ k=>⟨so (by decide) k.1,k.2⟩)⟩,
  V2,b.blk,qbr h4 (by decide) b.lb,qbr h4 (by decide) b.l0,qbr h4 (by decide) b.l1,b.m0,b.m1,b.d⟩
theorem Stps.relRow (h:Stps lab w (·≠6) lab' w') (hr:Rw w' (fun k=>lab' k=4) 99 v us) (hn:∀k,k<w.heap.size→lab k=6∨qau v≠some k):Stps lab w (·≠6) (Top.relRow lab' v) w':=by
 have h4:∀k,qau v=some k→lab' k=4:=fun k e=>by obtain⟨A,c,_,_,_,f⟩:=hr.slice;exact(f k e).1
 refine⟨fun k hk=>?_,fun k h1 h2=>?_,h.only⟩
 ·unfold Top.relRow;by_cases e:qau v=some k
  ·have a:=h.old k hk;have b:=h4 k e;rcases hn k hk with c|c
   ·omega
   ·exact absurd e c
  ·rw[if_neg e];exact h.old k hk
 ·unfold Top.relRow;split
  ·decide
  ·exact h.new k h1 h2
end
theorem qjr {us:List Value} {W:Nat→List (List Nat)→List (List Nat)→World→(Nat→Nat)→Prop} {cyc:Bool} {w:World} {lab:Nat→Nat} {X:PrA} {V:PrV} {x:Sig.Pair} {n b:Nat} (T:qef us W) (h:PSt us W cyc w lab X V x n b) {gl cl:Nat} {Ap:Option Addr} {cp:Nat} {op:List Nat} (hc:w.cell? ⟨gl,0,none⟩=some (.slice Ap op.length cp)) (hx:Oct w (.slice Ap op.length cp) op) (hl:op.length≤1000) (hb2:∀b∈op,b<256) (hn:n≤20000) (hb40:b≤40) (h0:(x.p0.x.order 5 op).2=0) :
  Calls Tryz.prog 21 #[.pointer (some ⟨X.b,0,none⟩),.int .i64 0,.slice (some ⟨gl,0,none⟩) 1 cl] w fun e w'=>e=.returned (.int .i64 1)∧qcr (fun i=>i≤4∨8≤i) us W cyc w lab X (Sig.Pair.tell0 x 5 op) (n+1) (b+1) w':=by
 have H0:=am h;have HC:qac (Calls Tryz.prog 10 #[.pointer (some ⟨X.b,0,none⟩),.agg #[.int .u8 1,.int .i64 0,.int .i64 0,.slice none 0 0,.int .u8 5,.slice Ap op.length cp]] w fun e w'=>e=.returned (.int .i64 0)∧qcr (fun i=>i≤4∨8≤i) us W cyc w lab X (Sig.Pair.tell0 x 5 op) (n+1) (b+1) w'):=⟨by
  have e:=qex T h 1 0 (mask:=[]) (Am:=none) (cm:=0) 5 rfl hx hl hb2 hn hb40;rw[h0] at e;exact e⟩
 clear T h hx hl hb2 hn hb40 h0;obtain⟨nl,hnl⟩:∃n,op.length=n:=⟨_,rfl⟩;rw[hnl] at HC hc;clear hnl;go_enter Tryz.func21,Tryz.ntmps21
 go_wp2_with fail
 go_loopw [7,15] (fun v7 v15 wr=>(v7=.int .i64 0∧v15=.int .i64 0∧wr=w)∨(v7=.int .i64 1∧v15=.int .i64 1∧qac (qcr (fun i=>i≤4∨8≤i) us W cyc w lab X (Sig.Pair.tell0 x 5 op) (n+1) (b+1) wr))) (fun _ v15 _=>1-(intOf v15).toNat)
 case atStart=>exact Or.inl ⟨rfl,rfl,rfl⟩
 case round =>
  rcases hrel with ⟨rfl,rfl,rfl⟩|⟨rfl,rfl,hf⟩
  ·go_wp2_with fail
   refine HC.out.mono ?_;rintro e w3 ⟨rfl,hk⟩;have HF:=am hk;clear hk;go_wp2;exact⟨Or.inr ⟨rfl,rfl,HF⟩,by simp[intOf]⟩
  ·go_wp2;go_ret;exact⟨rfl,hf.out⟩
end Go.Proofs.YtjbijdmcceloaaaGreat.Top
namespace Sig
structure Tim (Tm t:Nat) (S:PhS):Prop where
 ge:1≤S.ph
 p1:S.ph=1→3500≤S.v+t
 p2:S.ph=2→4000≤S.v+t
 p3:S.ph=3→Tm≤S.v+t∧1≤S.v∧S.v≤Tm
 p4:S.ph=4→12000≤S.v+t
 early:4≤S.ph→Tm≤t
theorem qev (own oj:Bool) (S:PhS) (k:Nat):S.ph≤(qbk own oj S k).ph:=by
 obtain⟨ph,th,v⟩:=S;unfold qbk;simp only;split
 ·rename_i h;rw[h.1];exact(by decide:1≤2)
 split
 ·rename_i h;rw[h.1];exact(by decide:1≤2)
 split
 ·rename_i h;rw[h.1];exact(by decide:2≤3)
 split
 ·rename_i h;rw[h.1];exact(by decide:4≤5)
 ·exact Nat.le_refl _
theorem qgq (own oj:Bool) (H:List Nat):∀S:PhS,S.ph≤(H.foldl (qbk own oj) S).ph:=by
 induction H with
 |nil=>intro S;exact Nat.le_refl _
 |cons k H ih=>intro S;exact Nat.le_trans (qev own oj S k) (ih _)
theorem Tim.hear {Tm t:Nat} {S:PhS} {own oj:Bool} (h:Tim Tm t S) (ht:Th oj S) (hT:Tm=if own||oj then 600 else 1200) (k:Nat):Tim Tm t (qbk own oj S k):=by
 obtain⟨ph,th,v⟩:=S;have ho:(th||oj)=oj:=by have:=ht.th;simp only at this;cases th <;> cases oj <;> simp_all
 have hT1:600≤Tm:=by rw[hT];split <;> decide
 obtain⟨h0,h1,h2,h3,h4,h5⟩:=h;unfold qbk;simp only at *;split
 ·exact⟨by simp,by simp,by simp,by simp,by simp,by simp⟩
 split
 ·exact⟨by simp,by simp,by simp,by simp,by simp,by simp⟩
 split
 ·rw[ho,←hT];exact⟨by simp,by simp,by simp,by simp;omega,by simp,by simp⟩
 split
 ·rename_i hc;obtain⟨rfl,rfl⟩:=hc;exact⟨by simp,by simp,by simp,by simp,by simp,fun _=>h5 (Nat.le_refl _)⟩
 ·exact⟨h0,h1,h2,h3,h4,h5⟩
theorem Tim.tick {Tm t:Nat} {S:PhS} (h:Tim Tm t S) (h5:S.ph≤5) (ht:t≤3000∨3≤S.ph) (ht':t≤10000):qwj S∧Tim Tm (t+1) (qbz S):=by
 obtain⟨ph,th,v⟩:=S;obtain⟨h0,h1,h2,h3,h4,h6⟩:=h;unfold qwj qbz;simp only at *;constructor
 ·omega
 ·split
  ·rename_i hc;obtain⟨rfl,rfl⟩:=hc;have:=h3 rfl;exact⟨by simp,by simp,by simp,by simp,by simp,by simp;omega⟩
  split
  ·exact⟨h0,fun e=>by have e:ph=1:=e;omega,fun e=>by have e:ph=2:=e;omega,fun e=>by have e:ph=3:=e;omega,fun e=>by have e:ph=4:=e;omega,fun e=>by have e:4≤ph:=e;omega⟩
  ·exact⟨h0,fun e=>by have e:ph=1:=e;show 3500≤v-1+(t+1);omega,fun e=>by have e:ph=2:=e;show 4000≤v-1+(t+1);omega,fun e=>by have e:ph=3:=e;show Tm≤v-1+(t+1)∧1≤v-1∧v-1≤Tm;omega,fun e=>by have e:ph=4:=e;show 12000≤v-1+(t+1);omega,fun e=>by have e:4≤ph:=e;omega⟩
theorem Tim.fold {Tm t:Nat} {own oj:Bool} (hT:Tm=if own||oj then 600 else 1200) (H:List Nat):∀{S:PhS} {E:List Nat} {b:Nat},Tim Tm t S→Th oj S→chain (lb S.ph) (H++E) b→Tim Tm t (H.foldl (qbk own oj) S):=by
 induction H with
 |nil=>intro S E b h _ _;exact h
 |cons k H ih =>
  intro S E b h ht hc;obtain⟨a,b',_,_⟩:=qmr own oj S k ht hc.1;exact ih (h.hear ht hT k) a (hc.2.left b')
structure Run (cyc o0 o1:Bool) (d Tm t:Nat) (x:Pair) (S0 S1:PhS) (E0 E1:List Nat):Prop where
 two:Two cyc o0 o1 d x S0 S1 E0 E1
 t0:Tim Tm t S0
 t1:Tim Tm t S1
 hT:Tm=if o0||o1 then 600 else 1200
theorem Two.step {cyc o0 o1:Bool} {d Tm t:Nat} {x:Pair} {S0 S1:PhS} {E0 E1:List Nat} (h:Run cyc o0 o1 d Tm t x S0 S1 E0 E1) (ht:t≤3000∨3≤S0.ph∧3≤S1.ph) (ht':t≤10000) :
  ∃H0 H1 T0 T1 F0 F1,Ticked cyc o0 o1 d x S0 S1 E0 E1 x.tick H0 H1 T0 T1 F0 F1∧Run cyc o0 o1 d Tm (t+1) x.tick T0 T1 F0 F1:=by
 obtain⟨a0,b0⟩:=h.t0.tick h.two.h0.th.le (by omega) ht';obtain⟨a1,b1⟩:=h.t1.tick h.two.h1.th.le (by omega) ht';obtain⟨H0,H1,T0,T1,F0,F1,hk⟩:=h.two.tick a0 a1;obtain⟨c0,c1⟩:=hk.ch;refine⟨H0,H1,T0,T1,F0,F1,hk,hk.two,?_,?_,h.hT⟩
 ·rw[hk.eq0];obtain⟨F,c0⟩:=c0;exact b0.fold h.hT H0 (qcb o1 S0 h.two.h0.th).1 c0
 ·rw[hk.eq1];obtain⟨F,c1⟩:=c1;exact b1.fold (by rw[Bool.or_comm];exact h.hT) H1 (qcb o0 S1 h.two.h1.th).1 c1
def Up (b c r g:Nat):Prop:=∀(own oj:Bool) (H:List Nat) (S:PhS),b≤S.ph→(∀k∈H,k≤c)→(∃k∈H,r≤k)→g≤(H.foldl (qbk own oj) S).ph
theorem Up.of {b c r g:Nat} (h:∀(own oj:Bool) (S:PhS) (k:Nat),b≤S.ph→r≤k→k≤c→g≤(qbk own oj S k).ph):Up b c r g:=by
 intro own oj H
 induction H with
 |nil=>intro S _ _ ⟨k,hk,_⟩;simp at hk
 |cons k H ih =>
  intro S hb hc ⟨k',hk,hr⟩;rcases List.mem_cons.1 hk with rfl|hk
  ·exact Nat.le_trans (h own oj S k' hb hr (hc k' (List.mem_cons_self ..))) (qgq own oj H _)
  ·exact ih _ (Nat.le_trans hb (qev own oj S k)) (fun c hc'=>hc c (List.mem_cons_of_mem _ hc')) ⟨k',hk,hr⟩
theorem up2:Up 1 3 2 2:=Up.of (fun own oj S k hb hr hc=>by
 unfold qbk;by_cases h2:2≤S.ph
 ·exact Nat.le_trans h2 (qev own oj S k)
 ·have h1:S.ph=1:=by omega
  have hk:k=2∨k=3:=by omega
  rcases hk with rfl|rfl
  ·rw[if_pos ⟨h1,rfl⟩];exact Nat.le_refl 2
  ·rw[if_neg (by simp),if_pos ⟨h1,rfl⟩];exact Nat.le_refl 2)
theorem up3:Up 2 3 3 3:=Up.of (fun own oj S k hb hr hc=>by
 unfold qbk;by_cases h2:3≤S.ph
 ·exact Nat.le_trans h2 (qev own oj S k)
 ·have h1:S.ph=2:=by omega
  have hk:k=3:=by omega
  subst hk;rw[if_neg (by simp),if_neg (by omega),if_pos ⟨h1,rfl⟩];exact Nat.le_refl 3)
theorem up5:Up 4 4 4 5:=Up.of (fun own oj S k hb hr hc=>by
 unfold qbk;by_cases h2:5≤S.ph
 ·exact Nat.le_trans h2 (qev own oj S k)
 ·have h1:S.ph=4:=by omega
  have hk:k=4:=by omega
  subst hk;rw[if_neg (by omega),if_neg (by omega),if_neg (by omega),if_pos ⟨h1,rfl⟩];exact Nat.le_refl 5)
theorem qmn {r:Nat} {e:Ear} {fl:List Bool} {E:List Nat} {b:Nat} (h:qu2 r 0 e fl E b):False:=by
 rcases h with ⟨i,k,_,_,h⟩|⟨_,h⟩
 ·rw[Nat.mul_zero,List.take_zero] at h;exact absurd h (Nat.not_lt_zero _)
 ·omega
theorem Ticked.up {cyc o0 o1:Bool} {d:Nat} {x y:Pair} {S0 S1 T0 T1:PhS} {E0 E1 H0 H1 F0 F1:List Nat} (h:Two cyc o0 o1 d x S0 S1 E0 E1) (k:Ticked cyc o0 o1 d x S0 S1 E0 E1 y H0 H1 T0 T1 F0 F1):S0.ph≤T0.ph∧S1.ph≤T1.ph:=by
 rw[k.eq0,k.eq1];exact⟨Nat.le_trans (qcb o1 S0 h.h0.th).2.2.2 (qgq ..),Nat.le_trans (qcb o0 S1 h.h1.th).2.2.2 (qgq ..)⟩
theorem qa6 (n:Nat) (x:Pair):Pair.ticks (n+1) x=Pair.ticks n x.tick:=rfl
theorem Run.stage {cyc o0 o1:Bool} {d Tm:Nat} {b c r g:Nat} (hu:Up b c r g) (hc:c=4∨c=3) (m:Nat):∀{t:Nat} {x:Pair} {S0 S1:PhS} {E0 E1:List Nat},Run cyc o0 o1 d Tm t x S0 S1 E0 E1 →
  (t+m≤590∨(3≤S0.ph∧3≤S1.ph∧c=4))→t+m≤10000→b≤S0.ph→b≤S1.ph→(g≤S0.ph∨qsb r m x S1 E0)→(g≤S1.ph∨qsa r m x S0 E1) →
  ∃T0 T1 F0 F1,Run cyc o0 o1 d Tm (t+m) (Pair.ticks m x) T0 T1 F0 F1∧g≤T0.ph∧g≤T1.ph∧(Pair.ticks m x).out0=x.out0∧(Pair.ticks m x).out1=x.out1:=by
 induction m with
 |zero =>
  intro t x S0 S1 E0 E1 h _ _ _ _ h0 h1;exact⟨S0,S1,E0,E1,h,h0.resolve_right qmn,h1.resolve_right qmn,rfl,rfl⟩
 |succ m ih =>
  intro t x S0 S1 E0 E1 h ht ht' b0 b1 h0 h1;obtain⟨H0,H1,T0,T1,F0,F1,k,hr⟩:=Two.step h (by omega) (by omega);obtain⟨u0,u1⟩:=k.up h.two;have hT:600≤Tm:=by rw[h.hT];split <;> decide
  have cap:∀S:PhS,Tim Tm t S→sr S.ph≤c:=fun S hS=>by
   rcases hc with rfl|rfl
   ·exact qov _
   ·have h4:¬4≤S.ph:=fun e=>by have:=hS.early e;omega
    have:=hS.ge;have h3:S.ph=1∨S.ph=2∨S.ph=3:=by omega
    rcases h3 with e|e|e <;> rw[e] <;> decide
  have q0:g≤T0.ph∨qsb r m x.tick T1 F0:=by
   rcases h0 with h0|h0
   ·exact Or.inl (Nat.le_trans h0 u0)
   ·rcases k.soon0 r m h0 with hh|hh
    ·left;rw[k.eq0];exact hu _ _ _ _ (Nat.le_trans b0 (qcb o1 S0 h.two.h0.th).2.2.2) (fun c' hc'=>Nat.le_trans (k.le0 c' hc') (cap S1 h.t1)) hh
    ·exact Or.inr hh
  have q1:g≤T1.ph∨qsa r m x.tick T0 F1:=by
   rcases h1 with h1|h1
   ·exact Or.inl (Nat.le_trans h1 u1)
   ·rcases k.soon1 r m h1 with hh|hh
    ·left;rw[k.eq1];exact hu _ _ _ _ (Nat.le_trans b1 (qcb o0 S1 h.two.h1.th).2.2.2) (fun c' hc'=>Nat.le_trans (k.le1 c' hc') (cap S0 h.t0)) hh
    ·exact Or.inr hh
  obtain⟨A,B,C,D,r1,r2,r3,r4,r5⟩:=ih hr (by omega) (by omega) (Nat.le_trans b0 u0) (Nat.le_trans b1 u1) q0 q1;exact⟨A,B,C,D,by rw[qa6,show t+(m+1)=t+1+m by omega];exact r1,r2,r3,by rw[qa6,r4,k.out0],by rw[qa6,r5,k.out1]⟩
theorem qxc (own oj:Bool) (H:List Nat):∀S:PhS,S.ph=3→H.foldl (qbk own oj) S=S:=by
 induction H with
 |nil=>intro S _;rfl
 |cons k H ih =>
  intro S h;have e:qbk own oj S k=S:=by
   unfold qbk;rw[if_neg (by omega),if_neg (by omega),if_neg (by omega),if_neg (by omega)]
  rw[List.foldl_cons,e,ih S h]
theorem qvp {own oj:Bool} {H:List Nat} {S:PhS} {m:Nat} (h5:S.ph≤5) (h:4≤S.ph∨(S.ph=3∧1≤S.v∧S.v≤m+1)):4≤(H.foldl (qbk own oj) (qbz S)).ph∨((H.foldl (qbk own oj) (qbz S)).ph=3∧1≤(H.foldl (qbk own oj) (qbz S)).v∧(H.foldl (qbk own oj) (qbz S)).v≤m):=by
 obtain⟨ph,th,v⟩:=S;simp only at h h5;rcases h with h|⟨rfl,h1,h2⟩
 ·left;refine Nat.le_trans ?_ (qgq ..);unfold qbz;simp only;rw[if_neg (by omega)];split <;> exact h
 ·by_cases hv:v=1
  ·left;refine Nat.le_trans ?_ (qgq ..);unfold qbz;rw[if_pos ⟨rfl,hv⟩];exact Nat.le_refl 4
  ·right;have e:qbz ⟨3,th,v⟩=⟨3,th,v-1⟩:=by
    unfold qbz;simp only;rw[if_neg (by omega),if_neg (by omega)]
   rw[e,qxc own oj H _ rfl];exact⟨rfl,by show 1≤v-1;omega,by show v-1≤m;omega⟩
theorem Run.proved {cyc o0 o1:Bool} {d Tm:Nat} (m:Nat):∀{t:Nat} {x:Pair} {S0 S1:PhS} {E0 E1:List Nat},Run cyc o0 o1 d Tm t x S0 S1 E0 E1→t+m≤10000 →
  (4≤S0.ph∨(S0.ph=3∧1≤S0.v∧S0.v≤m))→(4≤S1.ph∨(S1.ph=3∧1≤S1.v∧S1.v≤m)) →
  ∃T0 T1 F0 F1,Run cyc o0 o1 d Tm (t+m) (Pair.ticks m x) T0 T1 F0 F1∧4≤T0.ph∧4≤T1.ph∧(Pair.ticks m x).out0=x.out0∧(Pair.ticks m x).out1=x.out1:=by
 induction m with
 |zero =>
  intro t x S0 S1 E0 E1 h _ h0 h1;exact⟨S0,S1,E0,E1,h,by omega,by omega,rfl,rfl⟩
 |succ m ih =>
  intro t x S0 S1 E0 E1 h ht' h0 h1;obtain⟨H0,H1,T0,T1,F0,F1,k,hr⟩:=Two.step h (by omega) (by omega);have q0:=qvp (own:=o0) (oj:=o1) (H:=H0) h.two.h0.th.le h0;have q1:=qvp (own:=o1) (oj:=o0) (H:=H1) h.two.h1.th.le h1;rw[←k.eq0] at q0;rw[←k.eq1] at q1;obtain⟨A,B,C,D,r1,r2,r3,r4,r5⟩:=ih hr (by omega) q0 q1;exact⟨A,B,C,D,by rw[qa6,show t+(m+1)=t+1+m by omega];exact r1,r2,r3,by rw[qa6,r4,k.out0],by rw[qa6,r5,k.out1]⟩
theorem Run.goes {cyc o0 o1:Bool} {d Tm:Nat} (m:Nat):∀{t:Nat} {x:Pair} {S0 S1:PhS} {E0 E1:List Nat},Run cyc o0 o1 d Tm t x S0 S1 E0 E1→t+m≤10000→5≤S0.ph→5≤S1.ph →
  ∃T0 T1 F0 F1,Run cyc o0 o1 d Tm (t+m) (Pair.ticks m x) T0 T1 F0 F1∧5≤T0.ph∧5≤T1.ph∧(Pair.ticks m x).out0=x.out0∧(Pair.ticks m x).out1=x.out1:=by
 induction m with
 |zero =>
  intro t x S0 S1 E0 E1 h _ h0 h1;exact⟨S0,S1,E0,E1,h,h0,h1,rfl,rfl⟩
 |succ m ih =>
  intro t x S0 S1 E0 E1 h ht' h0 h1;obtain⟨H0,H1,T0,T1,F0,F1,k,hr⟩:=Two.step h (by omega) (by omega);obtain⟨u0,u1⟩:=k.up h.two;obtain⟨A,B,C,D,r1,r2,r3,r4,r5⟩:=ih hr (by omega) (by omega) (by omega);exact⟨A,B,C,D,by rw[qa6,show t+(m+1)=t+1+m by omega];exact r1,r2,r3,by rw[qa6,r4,k.out0],by rw[qa6,r5,k.out1]⟩
theorem qek (a b:Nat) (x:Pair):Pair.ticks (a+b) x=Pair.ticks b (Pair.ticks a x):=by
 induction a generalizing x with
 |zero=>rw[Nat.zero_add];rfl
 |succ a ih=>rw[show a+1+b=(a+b)+1 by omega,qa6,ih,qa6]
theorem Half.far {cyc o oj:Bool} {d:Nat} {p:Post} {n:List Bool} {w:Wire} {q:Post} {S Sj:PhS} {E:List Nat} (h:Half cyc o oj d p n w q S Sj E) (hq:q.out.length≤65) {r m:Nat} (hr:r≤sr Sj.ph) (hm:d+138≤8*m):qu2 r m p.ear (n++(w.l++q.out)) E (sr Sj.ph) :=
 Or.inr ⟨hr,by have:=h.n8;have:=h.dl;simp only[List.length_append];omega⟩
theorem Run.serves {cyc o0 o1:Bool} {d Tm N:Nat} {x:Pair} {S0 S1:PhS} {E0 E1:List Nat} (h:Run cyc o0 o1 d Tm 0 x S0 S1 E0 E1) (hd:d≤1275) (hN:N≤10000) (hW:3*((d+145)/8)+1200≤N) :
  ∃T0 T1 F0 F1,Run cyc o0 o1 d Tm N (Pair.ticks N x) T0 T1 F0 F1∧5≤T0.ph∧5≤T1.ph∧(Pair.ticks N x).out0=x.out0∧(Pair.ticks N x).out1=x.out1:=by
 have hTm:Tm≤1200∧600≤Tm:=by rw[h.hT];split <;> decide
 obtain⟨W,eW⟩:∃W,W=(d+145)/8:=⟨_,rfl⟩;rw[←eW] at hW;have hWd:d+138≤8*W:=by omega
 have hW2:W≤178:=by omega
 have srg:∀{ph:Nat},1≤ph→2≤sr ph:=fun {ph} e=>by unfold sr;split <;> omega
 have srg2:∀{ph:Nat},2≤ph→3≤sr ph:=fun {ph} e=>by unfold sr;split <;> omega
 have srg4:∀{ph:Nat},4≤ph→4≤sr ph:=fun {ph} e=>by unfold sr;split <;> omega
 obtain⟨A0,A1,B0,B1,a,a0,a1,a2,a3⟩:=h.stage up2 (Or.inr rfl) W (Or.inl (by omega)) (by omega) h.t0.ge h.t1.ge (Or.inr (h.two.h0.far h.two.h1.out (srg h.t1.ge) hWd)) (Or.inr (h.two.h1.far h.two.h0.out (srg h.t0.ge) hWd));obtain⟨C0,C1,D0,D1,b,b0,b1,b2,b3⟩:=a.stage up3 (Or.inr rfl) W (Or.inl (by omega)) (by omega) a0 a1 (Or.inr (a.two.h0.far a.two.h1.out (srg2 a1) hWd)) (Or.inr (a.two.h1.far a.two.h0.out (srg2 a0) hWd));have pr:∀S:PhS,Tim Tm (0+W+W) S→3≤S.ph→4≤S.ph∨(S.ph=3∧1≤S.v∧S.v≤Tm):=fun S hS e=>by
  by_cases h4:4≤S.ph
  ·exact Or.inl h4
  ·have e3:S.ph=3:=by omega
   have:=hS.p3 e3;exact Or.inr ⟨e3,this.2.1,this.2.2⟩
 obtain⟨G0,G1,I0,I1,c,c0,c1,c2,c3⟩:=b.proved Tm (by omega) (pr C0 b.t0 b0) (pr C1 b.t1 b1);obtain⟨K0,K1,L0,L1,e,e0,e1,e2,e3⟩:=c.stage up5 (Or.inl rfl) W (Or.inr ⟨by omega,by omega,rfl⟩) (by omega) c0 c1 (Or.inr (c.two.h0.far c.two.h1.out (srg4 c1) hWd)) (Or.inr (c.two.h1.far c.two.h0.out (srg4 c0) hWd));obtain⟨P0,P1,Q0,Q1,f,f0,f1,f2,f3⟩:=e.goes (N-(0+W+W+Tm+W)) (by omega) e0 e1;have et:Pair.ticks N x=Pair.ticks (N-(0+W+W+Tm+W)) (Pair.ticks W (Pair.ticks Tm (Pair.ticks W (Pair.ticks W x)))):=by
  rw[←qek,←qek,←qek,←qek]
  congr 1
  omega
 rw[←et] at f f2 f3;rw[show 0+W+W+Tm+W+(N-(0+W+W+Tm+W))=N by omega] at f;exact⟨P0,P1,Q0,Q1,f,f0,f1,by rw[f2,e2,c2,b2,a2],by rw[f3,e3,c3,b3,a3]⟩
def Pair.ord0 (x:Pair) (k:Nat) (p:List Nat):Pair:={ x with p0:={ x.p0 with x:=(x.p0.x.order k p).1 } }
def Pair.ord1 (x:Pair) (k:Nat) (p:List Nat):Pair:={ x with p1:={ x.p1 with x:=(x.p1.x.order k p).1 } }
def hur0 (o:Bool) (x:Pair):Pair:=if o then x.ord0 3 [] else x
def hur1 (o:Bool) (x:Pair):Pair:=if o then x.ord1 3 [] else x
theorem qn3 (c:Nat):∀{a b:Nat},a=0→chain a (List.replicate c 0) b:=by
 induction c with
 |zero=>intro a b e;rw[e];exact Nat.zero_le _
 |succ c ih=>intro a b e;rw[e];exact⟨Nat.le_refl _,ih rfl⟩
theorem two_new (cyc o0 o1:Bool) (d:Nat):∃c,Two cyc o0 o1 d (hur1 o1 (hur0 o0 (newPair cyc usualT d))) ⟨0,false,0⟩ ⟨0,false,0⟩ (List.replicate c 0) (List.replicate c 0):=by
 obtain⟨c,hc⟩:=qo6 (8+d);refine⟨c,?_⟩;have hx:∀o:Bool,IsPh cyc o ⟨0,false,0⟩ (if o then ((newLink cyc usualT).order 3 []).1 else newLink cyc usualT):=fun o=>by
  rw[qvn];cases o
  ·exact⟨⟨false,0,0⟩,[],0,rfl,rfl,rfl⟩
  ·rw[if_pos rfl,qru];exact⟨⟨false,0,0⟩,[],0,rfl,rfl,rfl⟩
 have half:∀o oj:Bool,∀x y:Link,IsPh cyc o ⟨0,false,0⟩ x →
   Half cyc o oj d ⟨x,⟨[],0,0,false,0⟩,flagBits⟩ (List.replicate 8 false) ⟨List.replicate d false,[],0⟩ ⟨y,⟨[],0,0,false,0⟩,flagBits⟩ ⟨0,false,0⟩ ⟨0,false,0⟩ (List.replicate c 0):=fun o oj x y h =>
  ⟨h,⟨Nat.zero_le _,fun e=>by simp at e,fun e=>by simp at e⟩,rfl,List.length_replicate,rfl,rfl,by
   rw[←List.append_assoc,List.replicate_append_replicate,hc,List.map_replicate];rfl,qn3 c rfl,(by decide:8≤65)⟩
 have e:hur1 o1 (hur0 o0 (newPair cyc usualT d))=⟨⟨(if o0 then ((newLink cyc usualT).order 3 []).1 else newLink cyc usualT),⟨[],0,0,false,0⟩,flagBits⟩,⟨(if o1 then ((newLink cyc usualT).order 3 []).1 else newLink cyc usualT),⟨[],0,0,false,0⟩,flagBits⟩,⟨List.replicate d false,[],0⟩,⟨List.replicate d false,[],0⟩,List.replicate 8 false,List.replicate 8 false,[],[]⟩:=by
  cases o0 <;> cases o1 <;> rfl
 rw[e];exact⟨half _ _ _ _ (hx o0),half _ _ _ _ (hx o1)⟩
theorem Two.start0 {cyc o0 o1:Bool} {d:Nat} {x:Pair} {th:Bool} {v:Nat} {S1:PhS} {E0 E1:List Nat} (h:Two cyc o0 o1 d x ⟨0,th,v⟩ S1 E0 E1):Two cyc o0 o1 d x.start0 ⟨1,false,8000⟩ S1 E0 E1:=by
 obtain⟨h0,h1⟩:=h;obtain⟨p,told,fails,hp,hm,hx⟩:=h0.ph;refine⟨⟨⟨⟨false,0,0⟩,told,fails,rfl,hm,?_⟩,⟨(by decide:1≤5),fun e=>by simp at e,fun e=>by simp at e⟩,h0.n8,h0.dl,h0.mask,h0.ones,h0.run,h0.chn,h0.out⟩,⟨h1.ph,h1.th,h1.n8,h1.dl,h1.mask,h1.ones,h1.run,h1.chn.right (by decide:1≤2),h1.out⟩⟩;show (x.p0.x.order 1 []).1=_;rw[hx,qmq]
theorem Two.start1 {cyc o0 o1:Bool} {d:Nat} {x:Pair} {th:Bool} {v:Nat} {S0:PhS} {E0 E1:List Nat} (h:Two cyc o0 o1 d x S0 ⟨0,th,v⟩ E0 E1):Two cyc o0 o1 d x.start1 S0 ⟨1,false,8000⟩ E0 E1:=by
 obtain⟨h0,h1⟩:=h;obtain⟨p,told,fails,hp,hm,hx⟩:=h1.ph;refine⟨⟨h0.ph,h0.th,h0.n8,h0.dl,h0.mask,h0.ones,h0.run,h0.chn.right (by decide:1≤2),h0.out⟩,⟨⟨⟨false,0,0⟩,told,fails,rfl,hm,?_⟩,⟨(by decide:1≤5),fun e=>by simp at e,fun e=>by simp at e⟩,h1.n8,h1.dl,h1.mask,h1.ones,h1.run,h1.chn,h1.out⟩⟩;show (x.p1.x.order 1 []).1=_;rw[hx,qmq]
theorem qmu (own oj:Bool) (H:List Nat):∀S:PhS,(S.ph=0∨(S.ph=1∧∀k∈H,k≤1))→H.foldl (qbk own oj) S=S:=by
 induction H with
 |nil=>intro S _;rfl
 |cons k H ih =>
  intro S h;have e:qbk own oj S k=S:=by
   unfold qbk;rcases h with h|⟨h,hk⟩
   ·rw[if_neg (by omega),if_neg (by omega),if_neg (by omega),if_neg (by omega)]
   ·have:=hk k (List.mem_cons_self ..);rw[if_neg (by omega),if_neg (by omega),if_neg (by omega),if_neg (by omega)]
  rw[List.foldl_cons,e];exact ih S (h.imp id (fun h=>⟨h.1,fun k hk=>h.2 k (List.mem_cons_of_mem _ hk)⟩))
theorem Two.waits {cyc o0 o1:Bool} {d:Nat} (g:Nat):∀{x:Pair} {v:Nat} {th1:Bool} {v1:Nat} {E0 E1:List Nat},Two cyc o0 o1 d x ⟨1,false,v⟩ ⟨0,th1,v1⟩ E0 E1→g+2≤v →
  ∃F0 F1,Two cyc o0 o1 d (Pair.ticks g x) ⟨1,false,v-g⟩ ⟨0,th1,v1⟩ F0 F1∧(Pair.ticks g x).out0=x.out0∧(Pair.ticks g x).out1=x.out1:=by
 induction g with
 |zero=>intro x v th1 v1 E0 E1 h _;exact⟨E0,E1,h,rfl,rfl⟩
 |succ g ih =>
  intro x v th1 v1 E0 E1 h hv;obtain⟨H0,H1,T0,T1,F0,F1,k⟩:=h.tick (Or.inr (Or.inr (Or.inl (by show 2≤v;omega)))) (Or.inl rfl);have e0:T0=⟨1,false,v-1⟩:=by
   rw[k.eq0];exact qmu o0 o1 H0 _ (Or.inr ⟨rfl,k.le0⟩)
  have e1:T1=⟨0,th1,v1⟩:=by
   rw[k.eq1];exact qmu o1 o0 H1 _ (Or.inl rfl)
  have ht:=k.two;rw[e0,e1] at ht;obtain⟨G0,G1,a,b,c⟩:=ih ht (by omega);exact⟨G0,G1,by rw[qa6,show v-(g+1)=v-1-g by omega];exact a,by rw[qa6,b,k.out0],by rw[qa6,c,k.out1]⟩
theorem serves (cyc o0 o1:Bool) (d g N:Nat) (hd:d≤1275) (hg:g≤4499) (hN:N≤10000) (hW:3*((d+145)/8)+1200≤N) :
  ∃Tm T0 T1 F0 F1,Run cyc o0 o1 d Tm N (Pair.ticks N (Pair.ticks g (hur1 o1 (hur0 o0 (newPair cyc usualT d))).start0).start1) T0 T1 F0 F1∧5≤T0.ph∧5≤T1.ph ∧
   (Pair.ticks N (Pair.ticks g (hur1 o1 (hur0 o0 (newPair cyc usualT d))).start0).start1).out0=[]∧(Pair.ticks N (Pair.ticks g (hur1 o1 (hur0 o0 (newPair cyc usualT d))).start0).start1).out1=[]:=by
 obtain⟨c,h⟩:=two_new cyc o0 o1 d;have ho:(hur1 o1 (hur0 o0 (newPair cyc usualT d))).start0.out0=[]∧(hur1 o1 (hur0 o0 (newPair cyc usualT d))).start0.out1=[]:=by
  cases o0 <;> cases o1 <;> exact⟨rfl,rfl⟩
 generalize hur1 o1 (hur0 o0 (newPair cyc usualT d))=x at *;obtain⟨F0,F1,a,b0,b1⟩:=h.start0.waits g (by omega);have ht:∀v,3500≤v→Tim (if o0||o1 then 600 else 1200) 0 ⟨1,false,v⟩:=fun v hv=>⟨Nat.le_refl _,fun _=>hv,fun e=>by simp at e,fun e=>by simp at e,fun e=>by simp at e,fun e=>by simp at e⟩;obtain⟨T0,T1,G0,G1,k,k0,k1,k2,k3⟩:=Run.serves (Tm:=if o0||o1 then 600 else 1200) ⟨a.start1,ht _ (by omega),ht _ (by decide),rfl⟩ hd hN hW;exact⟨_,T0,T1,G0,G1,k,k0,k1,by rw[k2];exact b0.trans ho.1,by rw[k3];exact b1.trans ho.2⟩
end Sig
