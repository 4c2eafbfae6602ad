/- Part of the proof of topServes_holds. No condition. -/
import Derived.Test.YtjbijdmcceloaaaGreatQS22
set_option linter.unusedVariables false
set_option linter.unusedSimpArgs false
set_option maxHeartbeats 80000000
set_option maxRecDepth 100000
namespace Sig
def hello:List Nat:=[104,101,108,108,111]
def hb:Nat→Basic
 |0=>⟨⟨16,600,[],0,[hello]⟩,true,true,127,false,none,(false,false),(false,false)⟩
 |1=>⟨⟨16,600,[hello],0,[]⟩,true,true,127,false,none,(false,false),(false,false)⟩
 |_=>⟨⟨16,600,[],1,[]⟩,true,true,127,false,none,(false,false),(false,false)⟩
def hl:Nat→Nat
 |0=>127
 |_=>0
def hk (s v:Nat) (th:Bool) (p:Proof) (told:List Told) (fails:Nat):Link :=
 ⟨usualT,4,[0,0,0,0,0,0,0,v],⟨0,false,th,p⟩,⟨false,false,false⟩,.basic (hb s),⟨false,false,false⟩,⟨0,0⟩,told,fails⟩
def hm (t:Nat) (th:Bool) (p:Proof) (told:List Told) (fails:Nat):Link :=
 ⟨usualT,4,cZero,⟨0,false,th,p⟩,⟨false,false,false⟩,.basic ⟨newHold,true,true,hl t,false,none,(false,false),(false,false)⟩,⟨false,false,false⟩,⟨0,0⟩,told,fails⟩
def evh:Nat→Option (List Nat)
 |4=>some [255,255,0]
 |5=>some [255,128,5,104,101,108,108,111]
 |6=>some [255,128,0]
 |_=>some [128,255,0]
def uH:Nat→Unit
 |4=>⟨127,127,true,true,0,0,false,[]⟩
 |5=>⟨127,0,true,true,2,0,false,hello⟩
 |6=>⟨127,0,true,true,0,0,false,[]⟩
 |_=>⟨0,127,true,true,0,0,false,[]⟩
theorem qfl (k:Nat) (h:k=4∨k=5∨k=6∨k=7):qbi qb8 (uF (uH k))=(qb8,[evh k])∧uF (uH k)≠[]∧(uF (uH k)).length≤110:=by
 rcases h with rfl|rfl|rfl|rfl <;> decide +kernel
def h0 (s k:Nat):Nat:=if s=1∧k=7 then 2 else s
def h1 (t k:Nat):Nat:=if t=0∧k=5 then 1 else t
def ok0 (s k:Nat):Prop:=(k=4∧s≤1)∨(k=7∧1≤s∧s≤2)
def ok1 (t k:Nat):Prop:=(t=0∧(k=4∨k=5))∨(t=1∧k=6)
def G0 (s:Nat):List Nat→Nat→Prop
 |[],t=>(t=0→s≤1)∧(1≤t→1≤s)
 |k::E,t=>ok0 s k∧G0 (h0 s k) E t
def G1 (t:Nat):List Nat→Nat→Prop
 |[],s=>t≤1∧(s=0↔t=0)
 |k::E,s=>ok1 t k∧G1 (h1 t k) E s
def v0 (s v k:Nat):Nat:=if s=1∧k=7 then 0 else v
theorem qt7 (s v:Nat) (th:Bool) (p:Proof) (told:List Told) (fails:Nat) (hv:v≠1):(hk s v th p told fails).tick=hk s (v-1) th p told fails:=by
 by_cases h:v=0
 ·subst h;rfl
 ·obtain⟨w,rfl⟩:∃w,v=w+2:=⟨v-2,by omega⟩;rfl
theorem qt5 (t:Nat) (th:Bool) (p:Proof) (told:List Told) (fails:Nat):(hm t th p told fails).tick=hm t th p told fails:=rfl
theorem qt8 (s v k:Nat) (th:Bool) (p:Proof) (told:List Told) (fails:Nat) (h:ok0 s k) (hs:s≤2) (hv:s=2→v=0):hears (hk s v th p told fails) (evh k)=hk (h0 s k) (v0 s v k) th p told fails:=by
 have h2:s=0∨s=1∨s=2:=by omega
 rcases h with ⟨rfl,h⟩|⟨rfl,h,_⟩ <;> rcases h2 with rfl|rfl|rfl
 ·rfl
 ·rfl
 ·exact absurd h (by decide)
 ·exact absurd h (by decide)
 ·rfl
 ·rw[hv rfl];rfl
theorem qt6 (t k:Nat) (th:Bool) (p:Proof) (told:List Told) (fails:Nat) (h:ok1 t k):hears (hm t th p told fails) (evh k)=hm (h1 t k) th p (if t=0∧k=5 then told++[⟨3,0,hello⟩] else told) fails:=by
 rcases h with ⟨rfl,rfl|rfl⟩|⟨rfl,rfl⟩ <;> rfl
theorem qi8 (s v:Nat) (th:Bool) (p:Proof) (told:List Told) (fails:Nat) (hs:s≤2) (h1:s=1→0<v) (h2:s≠1→v=0):(hk s v th p told fails).next=if s=0 then (hk 1 6000 th p told fails,uH 5) else (hk s v th p told fails,uH 6):=by
 have h:s=0∨s=1∨s=2:=by omega
 rcases h with rfl|rfl|rfl
 ·rw[h2 (by decide)];rfl
 ·obtain⟨w,rfl⟩:∃w,v=w+1:=⟨v-1,by have:=h1 rfl;omega⟩;rfl
 ·rw[h2 (by decide)];rfl
theorem qp4 (t:Nat) (th:Bool) (p:Proof) (told:List Told) (fails:Nat) (ht:t≤1):(hm t th p told fails).next=(hm t th p told fails,if t=0 then uH 4 else uH 7):=by
 have h:t=0∨t=1:=by omega
 rcases h with rfl|rfl <;> rfl
theorem G1.pos {E:List Nat}:∀{t s:Nat},G1 t E s→t≤1∧(1≤t→1≤s):=by
 induction E with
 |nil=>intro t s h;exact⟨h.1,by have:=h.2;omega⟩
 |cons k E ih =>
  intro t s h;obtain⟨a,b⟩:=ih h.2;have hk:=h.1;unfold ok1 at hk;have hle:t≤h1 t k:=by unfold h1;split <;> omega
  exact⟨by omega,fun e=>b (by omega)⟩
theorem G0.up {E:List Nat}:∀{s t:Nat},1≤s→G0 s E t→G0 s E 1:=by
 induction E with
 |nil=>intro s t hs h;exact⟨fun e=>by simp at e,fun _=>hs⟩
 |cons k E ih=>intro s t hs h;exact⟨h.1,ih (by unfold h0;split <;> omega) h.2⟩
theorem G0.one {E:List Nat}:∀{t:Nat},t=0→G0 0 E t→G0 1 E t:=by
 induction E with
 |nil=>intro t ht h;exact⟨fun _=>by decide,fun _=>by decide⟩
 |cons k E ih =>
  intro t ht h;have hk:=h.1;unfold ok0 at hk;have h4:k=4:=by omega
  subst h4;exact⟨Or.inl ⟨rfl,by decide⟩,ih ht h.2⟩
theorem G0.app {E:List Nat} (n:Nat):∀{s t:Nat},s≤2→t≤1→G0 s E t→G0 s (E++List.replicate n (if t=0 then 4 else 7)) t:=by
 induction E with
 |nil =>
  induction n with
  |zero=>intro s t _ _ h;exact h
  |succ n ih =>
   intro s t hs ht h;rw[List.replicate_succ];by_cases h0:t=0
   ·subst h0;have:=h.1 rfl;refine⟨Or.inl ⟨rfl,this⟩,?_⟩;have e:Sig.h0 s (if (0:Nat)=0 then 4 else 7)=s:=by unfold Sig.h0;rw[if_neg (by simp)]
    rw[e];exact ih hs ht h
   ·rw[if_neg h0];have h1:=h.2 (by omega);refine⟨Or.inr ⟨rfl,h1,hs⟩,?_⟩;have hn:G0 (Sig.h0 s 7) [] t:=⟨fun e=>absurd e h0,fun _=>by unfold Sig.h0;split <;> omega⟩;have:=ih (s:=Sig.h0 s 7) (t:=t) (by unfold Sig.h0;split <;> omega) ht hn;rw[if_neg h0] at this;exact this
 |cons k E ih =>
  intro s t hs ht h;exact⟨h.1,ih (by unfold Sig.h0;split <;> omega) ht h.2⟩
theorem G1.app {E:List Nat} (n:Nat):∀{t s:Nat},1≤s→G1 t E s→G1 t (E++List.replicate n 6) s:=by
 induction E with
 |nil =>
  induction n with
  |zero=>intro t s _ h;exact h
  |succ n ih =>
   intro t s hs h;have h1:t=1:=by have:=h.1;have:=h.2;omega
   subst h1;exact⟨Or.inr ⟨rfl,rfl⟩,ih hs h⟩
 |cons k E ih=>intro t s hs h;exact⟨h.1,ih hs h.2⟩
theorem G1.first {E:List Nat} (n:Nat):∀{t:Nat},G1 t E 0→G1 t (E++5::List.replicate n 6) 1:=by
 induction E with
 |nil =>
  intro t h;have h0:t=0:=h.2.1 rfl;subst h0;refine⟨Or.inl ⟨rfl,Or.inr rfl⟩,?_⟩;exact G1.app n (E:=[]) (t:=1) (s:=1) (by decide) ⟨by decide,by decide⟩
 |cons k E ih=>intro t h;exact⟨h.1,ih h.2⟩
theorem G1.move {E:List Nat}:∀{t s s':Nat},(s=0↔s'=0)→G1 t E s→G1 t E s':=by
 induction E with
 |nil=>intro t s s' hs h;exact⟨h.1,hs.symm.trans h.2⟩
 |cons k E ih=>intro t s s' hs h;exact⟨h.1,ih hs h.2⟩
theorem qxe (H:List Nat):∀(s v:Nat) (E:List Nat) (t:Nat) (th:Bool) (p:Proof) (told:List Told) (fails:Nat),s≤2→(s≠1→v=0)→G0 s (H++E) t →
  ∃s' v',(H.map evh).foldl hears (hk s v th p told fails)=hk s' v' th p told fails∧s'≤2∧(s'≠1→v'=0)∧(s'=1→s=1∧v'=v)∧(s=0↔s'=0)∧G0 s' E t:=by
 induction H with
 |nil=>intro s v E t th p told fails hs hv h;exact⟨s,v,rfl,hs,hv,fun e=>⟨e,rfl⟩,Iff.rfl,h⟩
 |cons k H ih =>
  intro s v E t th p told fails hs hv h;rw[List.map_cons,List.foldl_cons,qt8 s v k th p told fails h.1 hs (fun e=>hv (by omega))];have h2:h0 s k≤2:=by unfold h0;split <;> omega
  have h3:h0 s k≠1→v0 s v k=0:=by
   unfold h0 v0;split
   ·intro _;rfl
   ·exact hv
  obtain⟨s',v',a,b,c,d,e,f⟩:=ih _ _ E t th p told fails h2 h3 h.2;refine⟨s',v',a,b,c,?_,?_,f⟩
  ·intro e1;obtain⟨e2,e3⟩:=d e1;unfold h0 v0 at *;split at e2
   ·omega
   ·rename_i hn;rw[if_neg hn] at e3;exact⟨e2,e3⟩
  ·rw[←e];unfold h0;split <;> omega
theorem qxd (H:List Nat):∀(t:Nat) (E:List Nat) (s:Nat) (th:Bool) (p:Proof) (told:List Told) (fails:Nat),G1 t (H++E) s →
  ∃t' qcs,(H.map evh).foldl hears (hm t th p told fails)=hm t' th p qcs fails∧t≤t'∧G1 t' E s∧msgs qcs=msgs told++(if t=0∧t'=1 then [hello] else [])∧(5∈H→t=0→t'=1):=by
 induction H with
 |nil=>intro t E s th p told fails h;exact⟨t,told,rfl,Nat.le_refl _,h,by rw[if_neg (by omega),List.append_nil],fun e=>by simp at e⟩
 |cons k H ih =>
  intro t E s th p told fails h;rw[List.map_cons,List.foldl_cons,qt6 t k th p told fails h.1];obtain⟨t',qcs,a,b,c,d,e⟩:=ih (h1 t k) E s th p _ fails h.2;have hle:t≤h1 t k:=by unfold h1;split <;> omega
  refine⟨t',qcs,a,by omega,c,?_,?_⟩
  ·rw[d];by_cases h5:t=0∧k=5
   ·have h6:h1 t k=1:=by unfold h1;rw[if_pos h5]
    have h7:=c.pos.1;rw[if_pos h5,if_neg (by omega),if_pos ⟨h5.1,by omega⟩,List.append_nil];unfold msgs;rw[List.filter_append,List.map_append];rfl
   ·have h6:h1 t k=t:=by unfold h1;rw[if_neg h5]
    rw[if_neg h5,h6]
  ·intro h5 h0;rcases List.mem_cons.1 h5 with e5|h5
   ·have h6:h1 t k=1:=by unfold h1;rw[if_pos ⟨h0,e5.symm⟩]
    have:=c.pos.1;omega
   ·by_cases h7:h1 t k=0
    ·exact e h5 h7
    ·have:=c.pos.1;omega
theorem qv2 {s v:Nat} {th:Bool} {p:Proof} {told:List Told} {fails:Nat} (hs:s≤2) (hv1:s=1→0<v) (hv2:s≠1→v=0) {us:List Unit} {y:Link} (f:Fetch (hk s v th p told fails) us y) :
  (∃k,1≤s∧us=List.replicate k (uH 6)∧y=hk s v th p told fails)∨(s=0∧us=[]∧y=hk s v th p told fails)∨(∃k,s=0∧us=uH 5::List.replicate k (uH 6)∧y=hk 1 6000 th p told fails):=by
 have hn:=qi8 s v th p told fails hs hv1 hv2;by_cases h0:s=0
 ·rw[if_pos h0] at hn;rcases f with _|⟨_,us,_,f⟩
  ·exact Or.inr (Or.inl ⟨h0,rfl,rfl⟩)
  ·rw[hn] at f ⊢;have hn1:=qi8 1 6000 th p told fails (by decide) (fun _=>by decide) (fun e=>absurd rfl e);rw[if_neg (by decide)] at hn1;obtain⟨a,b⟩:=qd2 hn1 f;exact Or.inr (Or.inr ⟨us.length,h0,by rw[←b],a⟩)
 ·rw[if_neg h0] at hn;obtain⟨a,b⟩:=qd2 hn f;exact Or.inl ⟨us.length,by omega,b,a⟩
theorem qlb (k:Nat) (h:k=4∨k=5∨k=6∨k=7) (n:Nat):qbi qb8 ((List.replicate n (uH k)).flatMap uF)=(qb8,(List.replicate n k).map evh):=by
 induction n with
 |zero=>rfl
 |succ n ih =>
  rw[List.replicate_succ,List.flatMap_cons,qa4,(qfl k h).1,ih];rfl
structure Hel (n:Nat) (x:Pair) (s t v:Nat) (E0 E1:List Nat):Prop where
 x0:∃th p told fails,x.p0.x=hk s v th p told fails
 x1:∃th p told fails,Sig.msgs told=[]∧x.p1.x=hm t th p told fails
 s2:s≤2
 v1:s=1→6000≤v+n
 v2:s≠1→v=0
 l0:x.n0.length=8
 l1:x.n1.length=8
 c0:x.w0.mask=[]∧x.w0.ones=0
 c1:x.w1.mask=[]∧x.w1.ones=0
 r0:qbi x.p0.ear (x.n0++(x.w1.l++x.p1.out))=(qb8,E0.map evh)
 r1:qbi x.p1.ear (x.n1++(x.w0.l++x.p0.out))=(qb8,E1.map evh)
 g0:G0 s E0 t
 g1:G1 t E1 s
 o0:x.p0.out.length≤110
 o1:x.p1.out.length≤110
 out:x.out1=if t=0 then [] else [hello]
def qqq (m:Nat) (x:Pair) (s t:Nat) (E1:List Nat):Prop :=
 t=1∨(∃i,E1[i]?=some 5∧i<(qbi x.p1.ear ((x.n1++(x.w0.l++x.p0.out)).take (8*m))).2.length)∨(s=0∧(x.n1++(x.w0.l++x.p0.out)).length+110≤8*m)
theorem qju {e:Ear} {n rest:List Bool} {E:List Nat} (h:qbi e (n++rest)=(qb8,E.map evh)):∃H F,E=H++F∧(qbi e n).2=H.map evh∧qbi (qbi e n).1 rest=(qb8,F.map evh):=by
 rw[qa4] at h;obtain⟨H,F,e1,e2,e3⟩:=List.map_eq_append_iff.1 (congrArg Prod.snd h).symm;exact⟨H,F,e1,e2.symm,Prod.ext (show (qbi (qbi e n).1 rest).1=qb8 from congrArg Prod.fst h) e3.symm⟩
theorem qjp (p:Post) (n:List Bool):p.tick n=Post.outBits 8 { { p with x:=p.x.tick } with ear:=(qbi p.ear n).1,x:=(qbi p.ear n).2.foldl hears p.x.tick }:=by
 unfold Post.tick;rw[qfe]
theorem Hel.tick {n:Nat} {x:Pair} {s t v:Nat} {E0 E1:List Nat} (h:Hel n x s t v E0 E1) (hn:n≤5000) :
  ∃s' t' v' F0 F1,Hel (n+1) x.tick s' t' v' F0 F1∧∀m,qqq (m+1) x s t E1→qqq m x.tick s' t' F1:=by
 obtain⟨th0,p0,told0,fails0,hx0⟩:=h.x0;obtain⟨th1,p1,told1,fails1,hm1,hx1⟩:=h.x1;obtain⟨H0,F0,a1,a2,a3⟩:=qju h.r0;obtain⟨H1,F1,b1,b2,b3⟩:=qju h.r1;have g0:=h.g0;have g1:=h.g1;rw[a1] at g0;rw[b1] at g1;have hv1:v≠1:=fun e=>by
  by_cases hs:s=1
  ·have:=h.v1 hs;omega
  ·have:=h.v2 hs;omega
 obtain⟨s1,v1,c1,c2,c3,c4,c5,c6⟩:=qxe H0 s (v-1) F0 t th0 p0 told0 fails0 h.s2 (fun e=>by have:=h.v2 e;omega) g0;obtain⟨t1,told1',d1,d2,d3,d4,d5⟩:=qxd H1 t F1 s th1 p1 told1 fails1 g1;have ht1:=d3.pos;have hv1':s1=1→6000≤v1+(n+1):=fun e=>by
  obtain⟨e1,e2⟩:=c4 e;have:=h.v1 e1;omega
 have e0:=qjp x.p0 x.n0;have e1:=qjp x.p1 x.n1;rw[a2,hx0,qt7 s v th0 p0 told0 fails0 hv1,c1] at e0;rw[b2,hx1,qt5,d1] at e1;obtain⟨us,f1,f2,f3,f4,f5,f6⟩:=qeb (fun y=>y=hk s1 v1 th0 p0 told0 fails0∨y=hk 1 6000 th0 p0 told0 fails0) 110 (fun y hy=>by
   rcases hy with rfl|rfl
   ·rw[qi8 s1 v1 th0 p0 told0 fails0 c2 (fun e=>by have:=hv1' e;omega) c3];split
    ·exact⟨Or.inr rfl,(qfl 5 (by decide)).2⟩
    ·exact⟨Or.inl rfl,(qfl 6 (by decide)).2⟩
   ·rw[qi8 1 6000 th0 p0 told0 fails0 (by decide) (fun _=>by decide) (fun e=>absurd rfl e),if_neg (by decide)];exact⟨Or.inr rfl,(qfl 6 (by decide)).2⟩) 8 { { x.p0 with x:=x.p0.x.tick } with ear:=(qbi x.p0.ear x.n0).1,x:=hk s1 v1 th0 p0 told0 fails0 } (Or.inl rfl) h.o0
 obtain⟨us',k1,k2,k3,k4,k5,k6⟩:=qeb (fun y=>y=hm t1 th1 p1 told1' fails1) 110 (fun y hy=>by
   subst hy;rw[qp4 t1 th1 p1 told1' fails1 ht1.1];split
   ·exact⟨rfl,(qfl 4 (by decide)).2⟩
   ·exact⟨rfl,(qfl 7 (by decide)).2⟩) 8 { { x.p1 with x:=x.p1.x.tick } with ear:=(qbi x.p1.ear x.n1).1,x:=hm t1 th1 p1 told1' fails1 } rfl h.o1
 rw[←e0] at f1 f2 f3 f4 f5 f6;rw[←e1] at k1 k2 k3 k4 k5 k6;have hk1:=qd2 (qp4 t1 th1 p1 told1' fails1 ht1.1) k1;have hf0:=qv2 c2 (fun e=>by have:=hv1' e;omega) c3 f1;rw[tick_of];generalize x.p0.tick x.n0=a at *;generalize x.p1.tick x.n1=b at *;obtain⟨i1,i2,i3,i4⟩:=qe9 a.2 x.w0 h.c0.1 h.c0.2;obtain⟨j1,j2,j3,j4⟩:=qe9 b.2 x.w1 h.c1.1 h.c1.2;have w1:(x.w0.passes a.2).2++((x.w0.passes a.2).1.l++a.1.out)=(x.w0.l++x.p0.out)++us.flatMap uF:=by
  rw[←List.append_assoc,i3,List.append_assoc,f2,←List.append_assoc]
 have w0:(x.w1.passes b.2).2++((x.w1.passes b.2).1.l++b.1.out)=(x.w1.l++x.p1.out)++us'.flatMap uF:=by
  rw[←List.append_assoc,j3,List.append_assoc,k2,←List.append_assoc]
 have out':x.out1++Sig.msgs told1'=if t1=0 then [] else [hello]:=by
  rw[h.out,d4,hm1,List.nil_append];have:=h.g1.pos.1;by_cases ht:t=0
  ·by_cases ht':t1=0
   ·rw[if_pos ht,if_pos ht',if_neg (by omega)];rfl
   ·rw[if_pos ht,if_neg ht',if_pos (by omega)];rfl
  ·rw[if_neg ht,if_neg (by omega),if_neg (by omega)];rfl
 have q0:qbi b.1.ear ((x.w0.passes a.2).2++((x.w0.passes a.2).1.l++a.1.out))=((qbi qb8 (us.flatMap uF)).1,F1.map evh++(qbi qb8 (us.flatMap uF)).2):=by
  rw[w1,qa4,k4];show ((qbi (qbi (qbi x.p1.ear x.n1).1 (x.w0.l++x.p0.out)).1 _).1,_)=_;rw[b3]
 have q1:qbi a.1.ear ((x.w1.passes b.2).2++((x.w1.passes b.2).1.l++b.1.out))=((qbi qb8 (us'.flatMap uF)).1,F0.map evh++(qbi qb8 (us'.flatMap uF)).2):=by
  rw[w0,qa4,f4];show ((qbi (qbi (qbi x.p0.ear x.n0).1 (x.w1.l++x.p1.out)).1 _).1,_)=_;rw[a3]
 have hc7:(if t1=0 then 4 else 7)=4∨(if t1=0 then 4 else 7)=5∨(if t1=0 then 4 else 7)=6∨(if t1=0 then 4 else 7)=7:=by split <;> decide
 have q1':qbi a.1.ear ((x.w1.passes b.2).2++((x.w1.passes b.2).1.l++b.1.out))=(qb8,(F0++List.replicate us'.length (if t1=0 then 4 else 7)).map evh):=by
  have e:(if t1=0 then uH 4 else uH 7)=uH (if t1=0 then 4 else 7):=by split <;> rfl
  rw[e] at hk1;rw[q1,hk1.2,qlb _ hc7,List.length_replicate,List.map_append]
 have fin:∀(s' v':Nat) (G:List Nat),a.1.x=hk s' v' th0 p0 told0 fails0→s'≤2→(s'=1→6000≤v'+(n+1))→(s'≠1→v'=0)→G0 s' F0 t1→G1 t1 (F1++G) s'→qbi qb8 (us.flatMap uF)=(qb8,G.map evh) →
   Hel (n+1) (x.of a b) s' t1 v' (F0++List.replicate us'.length (if t1=0 then 4 else 7)) (F1++G):=fun s' v' G y1 y2 y3 y4 y5 y6 y7 =>
  ⟨⟨th0,p0,[],fails0,by show { a.1.x with told:=[] }=_;rw[y1];rfl⟩,⟨th1,p1,[],fails1,rfl,by show { b.1.x with told:=[] }=_;rw[hk1.1];rfl⟩,y2,y3,y4,j4.trans k3,i4.trans f3,⟨i1,i2⟩,⟨j1,j2⟩,q1',by
   show qbi b.1.ear ((x.w0.passes a.2).2++((x.w0.passes a.2).1.l++a.1.out))=_;rw[q0,y7,List.map_append],y5.app us'.length y2 ht1.1,y6,f5,k5,by
   show x.out1++Sig.msgs b.1.x.told=_;rw[hk1.1];exact out'⟩
 have c7:G0 s1 F0 t1:=by
  by_cases h1:t1=0
  ·have h0:t=0:=by omega
   rw[h1];rw[h0] at c6;exact c6
  ·have:s1≠0:=fun e=>by
    have:=ht1.2 (by omega);omega
   have e1:t1=1:=by omega
   rw[e1];exact c6.up (by omega)
 have d3':G1 t1 F1 s1:=d3.move c5;have soon:∀(s':Nat) (G:List Nat),(s=0→us=[]→s'=0)→(s=0→us≠[]→∃k,us=uH 5::List.replicate k (uH 6)∧∃G',G=5::G')→∀m,qqq (m+1) x s t E1→qqq m (x.of a b) s' t1 (F1++G):=by
  intro s' G y1 y2 m hs;have hn8:=h.l1;rcases hs with hs|⟨i,i5,hi⟩|⟨hs0,hs⟩
  ·exact Or.inl (by have:=ht1.1;omega)
  ·have etk:(x.n1++(x.w0.l++x.p0.out)).take (8*(m+1))=x.n1++(x.w0.l++x.p0.out).take (8*m):=by
    rw[List.take_append,hn8,List.take_of_length_le (by rw[hn8];omega),show 8*(m+1)-8=8*m by omega]
   rw[etk,qa4] at hi;simp only[List.length_append] at hi;rw[b2,List.length_map] at hi;by_cases hlt:i<H1.length
   ·left;rw[b1,List.getElem?_append_left hlt] at i5;by_cases ht:t=0
    ·exact d5 (List.mem_of_getElem? i5) ht
    ·have:=ht1.1;omega
   ·rw[b1,List.getElem?_append_right (by omega)] at i5;refine Or.inr (Or.inl ⟨i-H1.length,?_,?_⟩)
    ·have hlt':i-H1.length<F1.length:=(List.getElem?_eq_some_iff.1 i5).1;rw[List.getElem?_append_left hlt'];exact i5
    ·show _<(qbi b.1.ear (((x.w0.passes a.2).2++((x.w0.passes a.2).1.l++a.1.out)).take (8*m))).2.length;rw[w1,k4];exact Nat.lt_of_lt_of_le (by show i-H1.length<(qbi (qbi x.p1.ear x.n1).1 _).2.length;omega) (qfz _ _ _ _)
  ·right;have hl1:(x.w0.l++x.p0.out).length+8+110≤8*(m+1):=by
    have:=hs;simp only[List.length_append] at this ⊢;omega
   by_cases hu:us=[]
   ·right;refine⟨y1 hs0 hu,?_⟩;show ((x.w0.passes a.2).2++((x.w0.passes a.2).1.l++a.1.out)).length+110≤8*m;rw[w1,hu];simp only[List.flatMap_nil,List.append_nil];omega
   ·left;obtain⟨k,ek,G',eG⟩:=y2 hs0 hu;have hf:=qfl 5 (by decide);refine⟨F1.length,by rw[eG,List.getElem?_append_right (Nat.le_refl _),Nat.sub_self];rfl,?_⟩;show _<(qbi b.1.ear (((x.w0.passes a.2).2++((x.w0.passes a.2).1.l++a.1.out)).take (8*m))).2.length;rw[w1,ek,List.flatMap_cons,←List.append_assoc,k4];refine Nat.lt_of_lt_of_le ?_ (qfz _ _ _ _);rw[List.take_of_length_le (by
     have:=hf.2.2;rw[List.length_append];omega),qa4]
    show _<((qbi (qbi x.p1.ear x.n1).1 (x.w0.l++x.p0.out)).2++(qbi (qbi (qbi x.p1.ear x.n1).1 (x.w0.l++x.p0.out)).1 (uF (uH 5))).2).length;rw[b3,hf.1];simp
 rcases hf0 with ⟨k,z1,z2,z3⟩|⟨z1,z2,z3⟩|⟨k,z1,z2,z3⟩
 ·exact⟨s1,t1,v1,_,_,fin s1 v1 (List.replicate k 6) z3 c2 hv1' c3 c7 (d3'.app k z1) (by rw[z2];exact qlb 6 (by decide) k),soon s1 _ (fun e _=>c5.1 e) (fun e _=>by have:=c5.1 e;omega)⟩
 ·exact⟨s1,t1,v1,_,_,fin s1 v1 [] z3 c2 hv1' c3 c7 (by rw[List.append_nil];exact d3') (by rw[z2];rfl),soon s1 _ (fun e _=>c5.1 e) (fun _ e=>absurd z2 e)⟩
 ·have ht0:t1=0:=by
   rw[z1] at d3';have:=d3'.pos;omega
  refine⟨1,t1,6000,_,_,fin 1 6000 (5::List.replicate k 6) z3 (by decide) (fun _=>by omega) (fun e=>absurd rfl e) (by rw[z1] at c7;exact c7.one ht0) (by rw[z1] at d3';exact d3'.first k) ?_,soon 1 _ (fun _ e=>by rw[z2] at e;simp at e) (fun _ _=>⟨k,z2,_,rfl⟩)⟩;rw[z2,List.flatMap_cons,qa4,(qfl 5 (by decide)).1,qlb 6 (by decide) k];rfl
theorem Hel.ticks (m:Nat):∀{n:Nat} {x:Pair} {s t v:Nat} {E0 E1:List Nat},Hel n x s t v E0 E1→n+m≤5000→qqq m x s t E1→(Pair.ticks m x).out1=[hello]:=by
 induction m with
 |zero =>
  intro n x s t v E0 E1 h _ hs;rcases hs with hs|⟨i,_,hs⟩|⟨_,hs⟩
  ·show x.out1=_;rw[h.out,if_neg (by omega)]
  ·rw[Nat.mul_zero,List.take_zero] at hs;exact absurd hs (Nat.not_lt_zero _)
  ·omega
 |succ m ih =>
  intro n x s t v E0 E1 h hn hs;obtain⟨s',t',v',F0,F1,a,b⟩:=h.tick (by omega);exact ih a (by omega) (b m hs)
theorem all4 {E:List Nat} (h:chain 4 E 4):∀k∈E,k=4:=fun k hk=>by
 have:=h.mem k hk;omega
theorem G0.four {E:List Nat} (h:∀k∈E,k=4):G0 0 E 0:=by
 induction E with
 |nil=>exact⟨fun _=>by decide,fun e=>by simp at e⟩
 |cons k E ih =>
  have hk:=h k (List.mem_cons_self ..);subst hk;exact⟨Or.inl ⟨rfl,by decide⟩,ih (fun k hk=>h k (List.mem_cons_of_mem _ hk))⟩
theorem G1.four {E:List Nat} (h:∀k∈E,k=4):G1 0 E 0:=by
 induction E with
 |nil=>exact⟨by decide,by simp⟩
 |cons k E ih =>
  have hk:=h k (List.mem_cons_self ..);subst hk;exact⟨Or.inl ⟨rfl,Or.inl rfl⟩,ih (fun k hk=>h k (List.mem_cons_of_mem _ hk))⟩
theorem map4 {E:List Nat} (oj:Bool) (h:∀k∈E,k=4):E.map (ev oj)=E.map evh:=List.map_congr_left (fun k hk=>by rw[h k hk];rfl)
theorem Run.hello {d Tm t:Nat} {x:Pair} {S0 S1:PhS} {E0 E1:List Nat} (h:Run false false false d Tm t x S0 S1 E0 E1) (h0:5≤S0.ph) (h1:5≤S1.ph) (ho:x.out1=[]) (hd:d≤1275) :
  x.p0.x.s=4∧x.p1.x.s=4∧(x.p0.x.order 5 Sig.hello).2=0∧(Pair.ticks 500 (x.send0 Sig.hello)).out1=[Sig.hello]:=by
 obtain⟨⟨a,b⟩,_,_,_⟩:=h;obtain⟨ph0,th0,v0⟩:=S0;obtain⟨ph1,th1,v1⟩:=S1;have e0:ph0=5:=Nat.le_antisymm a.th.le h0;have e1:ph1=5:=Nat.le_antisymm b.th.le h1;subst e0;subst e1;obtain⟨p0,told0,fails0,hp0,hm0,hx0⟩:=a.ph;obtain⟨p1,told1,fails1,hp1,hm1,hx1⟩:=b.ph;have f0:=all4 a.chn;have f1:=all4 b.chn;refine⟨by rw[hx0];rfl,by rw[hx1];rfl,by rw[hx0];rfl,?_⟩;have hh:Hel 0 (x.send0 Sig.hello) 0 0 0 E0 E1 :=
  ⟨⟨th0,p0,told0,fails0,by show (x.p0.x.order 5 Sig.hello).1=_;rw[hx0];rfl⟩,⟨th1,p1,told1,fails1,hm1,by show x.p1.x=_;rw[hx1];rfl⟩,by decide,fun e=>by simp at e,fun _=>rfl,a.n8,b.n8,⟨b.mask,b.ones⟩,⟨a.mask,a.ones⟩,
   by have:=a.run;rw[map4 false f0] at this;exact this,by have:=b.run;rw[map4 false f1] at this;exact this,G0.four f0,G1.four f1,Nat.le_trans a.out (by decide),Nat.le_trans b.out (by decide),ho⟩
 refine hh.ticks 500 (by decide) (Or.inr (Or.inr ⟨rfl,?_⟩));show (x.n1++(x.w0.l++x.p0.out)).length+110≤8*500;have l1:=b.n8;have l2:=b.dl;have l3:=a.out;simp only[List.length_append];omega
theorem ticks_zero (x:Pair):Pair.ticks 0 x=x:=rfl
theorem qvv (x:Pair):hur1 false (hur0 false x)=x:=rfl
theorem goes_all (N:Nat) (hN:N=inService usualT 45 0) (x:Pair) (hx:x=Pair.ticks N (newPair false usualT 45).start0.start1) :
  x.p0.x.s=4∧x.p1.x.s=4∧(x.p0.x.order 5 Sig.hello).2=0∧(Pair.ticks 500 (x.send0 Sig.hello)).out1=[Sig.hello]:=by
 have h1:N≤10000∧3*((45+145)/8)+1200≤N:=by rw[hN];decide
 obtain⟨Tm,T0,T1,F0,F1,k,k0,k1,k2,k3⟩:=serves false false false 45 0 N (by decide) (by decide) h1.1 h1.2;rw[qvv,ticks_zero,←hx] at k k3;exact k.hello k0 k1 k3 (by decide)
end Sig
namespace Go.Proofs.YtjbijdmcceloaaaGreat.Top
open Go Go.RowKit Go.Proofs.YtjbijdmcceloaaaGreat Go.Proofs.YtjbijdmcceloaaaGreatW.PrintWords Go.Proofs.YtjbijdmcceloaaaGreatW.PrintLast Go.Proofs.YtjbijdmcceloaaaGreatW.PrintMore
def qmh (b s t d:Nat) (cyc:Bool):List Value:=[ptr b,ptr s,ptr t,.int .i64 (d:Nat)]++qe5 cyc 600 12000 8000 4000 1200 100 4000 6000
def wV (b s t d:Nat) (cyc:Bool):Value:=.agg (qmh b s t d cyc).toArray
def qi0 (d:Nat):Nat:=Sig.inService Sig.usualT d 0
def qiz (cyc:Bool) (d:Nat):Sig.Pair:=Sig.Pair.ticks (qi0 d) (Sig.Pair.starts (Sig.newPair cyc Sig.usualT d) 0 2)
theorem qej:TOk 600 12000 8000 4000 1200 100 4000 6000:=⟨by decide,by decide,by decide⟩
theorem PSt.far5 {us:List Value} {W:Nat→List (List Nat)→List (List Nat)→World→(Nat→Nat)→Prop} {cyc:Bool} {w w':World} {lab lab':Nat→Nat} {X:PrA} {V:PrV} {x:Sig.Pair} {n b:Nat} {P:Nat→Prop} (h:PSt us W cyc w lab X V x n b) (hs:Stps lab w P lab' w') (hp:∀i,P i→i=5∨i=17) (hw:W n x.out0 x.out1 w' lab'):PSt us W cyc w' lab' X V x n b :=
 ⟨h.is.far hs (fun i e=>by have:=hp i e;omega),h.b0,h.b1,h.t0,h.t1,h.c0,h.c1,h.row.lab hs (fun e=>by have:=hp 7 e;omega),hw,h.l0,h.l1⟩
theorem qlm (w:World) (R:Nat) (cs:Array Value):Only (·=R) w (w.setRow R cs):=⟨rfl,rfl,rfl,by rw[size_setRow];exact Nat.le_refl _,fun k _ h=>setRow_other w R k cs h⟩
theorem qnk (cyc:Bool) (dl:Nat) (hdl:dl<256) (w:World) :
  Calls Tryz.prog 15 #[.bool cyc,.int .u8 (dl:Nat)] w fun e w'=>∃X s t lab' V,e=.returned (wV X.b s t (dl*5) cyc)∧Stps (fun _=>6) w (·≠6) lab' w'∧PSt (quy s t) (stW s t) cyc w' lab' X V (qiz cyc (dl*5)) (qi0 (dl*5)+2) 2:=by
 obtain⟨d,ed⟩:∃d,dl*5=d:=⟨_,rfl⟩;have HDL:qac (∀w:World,Calls Tryz.prog 9 #[.int .u8 (dl:Nat)] w fun e w'=>e=.returned (.int .i64 (d:Nat))∧w=w'):=⟨fun w=>by rw[←ed];exact qgu dl hdl w⟩;have HD:qac (d≤1275):=⟨by omega⟩;rw[ed];clear hdl ed;go_enter Tryz.func15,Tryz.ntmps15;refine sq fun K0 J0=>?_
 go_wp2_with fail
 refine J0.out _ _ ?_;clear J0;have hbw:Below w.heap.size w (w.alloc (.cells #[.pointer none,.pointer none,.pointer none,.int .i64 0,.bool false,.int .i64 0,.int .i64 0,.int .i64 0,.int .i64 0,.int .i64 0,.int .i64 0,.int .i64 0,.int .i64 0,.int .i64 0,.int .i64 0,.int .i64 0,.int .i64 0] 67)):=qaa (Below.refl _ _) _;have hs1:Stps (fun _=>6) w (·≠6) (qaj (fun _=>6) w 5) (w.alloc (.cells #[.pointer none,.pointer none,.pointer none,.int .i64 0,.bool false,.int .i64 0,.int .i64 0,.int .i64 0,.int .i64 0,.int .i64 0,.int .i64 0,.int .i64 0,.int .i64 0,.int .i64 0,.int .i64 0,.int .i64 0,.int .i64 0] 67)):=Stps.below hbw (by decide);have RR1:qac (Blk (w.alloc (.cells #[.pointer none,.pointer none,.pointer none,.int .i64 0,.bool false,.int .i64 0,.int .i64 0,.int .i64 0,.int .i64 0,.int .i64 0,.int .i64 0,.int .i64 0,.int .i64 0,.int .i64 0,.int .i64 0,.int .i64 0,.int .i64 0] 67)) w.heap.size 67 [.pointer none,.pointer none,.pointer none,.int .i64 0,.bool false,.int .i64 0,.int .i64 0,.int .i64 0,.int .i64 0,.int .i64 0,.int .i64 0,.int .i64 0,.int .i64 0,.int .i64 0,.int .i64 0,.int .i64 0,.int .i64 0]∧qaj (fun _=>6) w 5 w.heap.size=5):=⟨heap_alloc_new w _,qas (Nat.le_refl _)⟩;have HS1:=am hs1;obtain⟨R,eR⟩:∃R,w.heap.size=R:=⟨_,rfl⟩;rw[eR] at RR1 ⊢;obtain⟨lab1,el⟩:∃l,qaj (fun _=>6) w 5=l:=⟨_,rfl⟩;rw[el] at RR1 HS1;clear hbw hs1 el;generalize (w.alloc (.cells #[.pointer none,.pointer none,.pointer none,.int .i64 0,.bool false,.int .i64 0,.int .i64 0,.int .i64 0,.int .i64 0,.int .i64 0,.int .i64 0,.int .i64 0,.int .i64 0,.int .i64 0,.int .i64 0,.int .i64 0,.int .i64 0] 67))=w1 at *;refine sq fun K1 J1=>?_
 go_wp2_with fail
 refine(qla w1).mono ?_;rintro e w2 ⟨s,rfl,hs,hb,hbw⟩;have hs2:Stps lab1 w1 (·=8) (qaj lab1 w1 8) w2:=Stps.below hbw rfl;have SC2:qac (ScIs w2 (qaj lab1 w1 8) s qsl 0 [] []):=⟨⟨hb,qas hs,⟨[],ORow.nil _ _ _,Nat.le_refl _⟩,⟨[],ORow.nil _ _ _,Nat.le_refl _⟩,⟨ORow.nil _ _ _,Nat.le_refl _⟩,⟨ORow.nil _ _ _,Nat.le_refl _⟩,⟨0,SR.nil _ _ _ _ _,Nat.le_refl _⟩,⟨0,SR.nil _ _ _ _ _,Nat.le_refl _⟩⟩⟩;have HS2:=am (HS1.out.trans (hs2.mono (fun i e=>by omega)));have RR2:=am (And.intro (hs2.blk RR1.out.1 (by rw[RR1.out.2];decide)) ((hs2.lb RR1.out.1).trans RR1.out.2));clear hs hb hbw hs2 RR1 HS1;obtain⟨lab2,el2⟩:∃l,qaj lab1 w1 8=l:=⟨_,rfl⟩;rw[el2] at SC2 HS2 RR2;clear el2
 go_wp2_with fail
 refine(HDL.out _).mono ?_;rintro e w2' ⟨rfl,rfl⟩
 go_wp2_with fail
 refine(qk4 w2 lab2 d (by have:=HD.out;omega)).mono ?_;rintro e w3 ⟨t,V3,lab3,rfl,htr,hs3⟩;have TR3:=am htr;have HS3:=am (HS2.out.trans (hs3.mono (fun i e=>by omega)));have RR3:=am (And.intro (hs3.blk RR2.out.1 (by rw[RR2.out.2];decide)) ((hs3.lb RR2.out.1).trans RR2.out.2));have SC3:=am (SC2.out.far hs3 (fun i e=>by omega));clear htr hs3 SC2 HS2 RR2
 go_wp2_with fail
 refine(HDL.out _).mono ?_;rintro e w3' ⟨rfl,rfl⟩
 go_wp2_with fail
 refine(qf5 cyc w3).mono ?_;rintro e w4 ⟨rfl,hbw⟩;have hs4:Stps lab3 w3 (·=17) (qaj lab3 w3 17) w4:=Stps.below hbw rfl;have HS4:=am (HS3.out.trans (hs4.mono (fun i e=>by omega)));have RR4:=am (And.intro (hs4.blk RR3.out.1 (by rw[RR3.out.2];decide)) ((hs4.lb RR3.out.1).trans RR3.out.2));have SC4:=am (SC3.out.far hs4 (fun i e=>by omega));have TR4:=am (TR3.out.far hs4 (fun i e=>by omega));obtain⟨lab4,el4⟩:∃l,qaj lab3 w3 17=l:=⟨_,rfl⟩;rw[el4] at SC4 HS4 RR4 TR4;clear el4 hbw hs4 SC3 TR3 HS3 RR3;unfold setA
 go_wp2_with fail
 refine J1.out _ _ ?_;clear J1;have hbw:Below w4.heap.size w4 (w4.alloc (.cells #[.pointer none,.pointer (some ⟨s,0,none⟩),.pointer (some ⟨t,0,none⟩),.int .i64 (d:Nat),.bool cyc,.int .i64 8,.int .i64 300,.int .i64 16,.int .i64 600,.int .i64 600,.int .i64 12000,.int .i64 8000,.int .i64 4000,.int .i64 1200,.int .i64 100,.int .i64 4000,.int .i64 6000] 67)):=qaa (Below.refl _ _) _;have hs5:Stps lab4 w4 (·=5) (qaj lab4 w4 5) (w4.alloc (.cells #[.pointer none,.pointer (some ⟨s,0,none⟩),.pointer (some ⟨t,0,none⟩),.int .i64 (d:Nat),.bool cyc,.int .i64 8,.int .i64 300,.int .i64 16,.int .i64 600,.int .i64 600,.int .i64 12000,.int .i64 8000,.int .i64 4000,.int .i64 1200,.int .i64 100,.int .i64 4000,.int .i64 6000] 67)):=Stps.below hbw rfl;have hs5':Stps lab4 w4 (·=17) lab4 w4:=Stps.refl _ _ _;have BX5:qac (Blk (w4.alloc (.cells #[.pointer none,.pointer (some ⟨s,0,none⟩),.pointer (some ⟨t,0,none⟩),.int .i64 (d:Nat),.bool cyc,.int .i64 8,.int .i64 300,.int .i64 16,.int .i64 600,.int .i64 600,.int .i64 12000,.int .i64 8000,.int .i64 4000,.int .i64 1200,.int .i64 100,.int .i64 4000,.int .i64 6000] 67)) w4.heap.size 67 [.pointer none,.pointer (some ⟨s,0,none⟩),.pointer (some ⟨t,0,none⟩),.int .i64 (d:Nat),.bool cyc,.int .i64 8,.int .i64 300,.int .i64 16,.int .i64 600,.int .i64 600,.int .i64 12000,.int .i64 8000,.int .i64 4000,.int .i64 1200,.int .i64 100,.int .i64 4000,.int .i64 6000]∧qaj lab4 w4 5 w4.heap.size=5):=⟨heap_alloc_new w4 _,qas (Nat.le_refl _)⟩;have HS5:=am (HS4.out.trans (hs5.mono (fun i e=>by omega)));have SC5:=am (SC4.out.far hs5 (fun i e=>by omega));have TR5:=am (TR4.out.far hs5 (fun i e=>by omega));have RR5:qac (Blk (w4.alloc (.cells #[.pointer none,.pointer (some ⟨s,0,none⟩),.pointer (some ⟨t,0,none⟩),.int .i64 (d:Nat),.bool cyc,.int .i64 8,.int .i64 300,.int .i64 16,.int .i64 600,.int .i64 600,.int .i64 12000,.int .i64 8000,.int .i64 4000,.int .i64 1200,.int .i64 100,.int .i64 4000,.int .i64 6000] 67)) R 67 [.pointer none,.pointer none,.pointer none,.int .i64 0,.bool false,.int .i64 0,.int .i64 0,.int .i64 0,.int .i64 0,.int .i64 0,.int .i64 0,.int .i64 0,.int .i64 0,.int .i64 0,.int .i64 0,.int .i64 0,.int .i64 0]∧qaj lab4 w4 5 R=5):=⟨RR4.out.1.below hbw,(qa1 RR4.out.1.lt).trans RR4.out.2⟩;have HRB:qac (R≠w4.heap.size):=⟨fun e=>by have:=RR4.out.1.lt;omega⟩;obtain⟨B,eB⟩:∃B,w4.heap.size=B:=⟨_,rfl⟩;rw[eB] at BX5 HRB ⊢;obtain⟨lab5,el5⟩:∃l,qaj lab4 w4 5=l:=⟨_,rfl⟩;rw[el5] at BX5 HS5 SC5 TR5 RR5;clear hbw hs5 hs5' eB el5 SC4 TR4 HS4 RR4;generalize (w4.alloc (.cells #[.pointer none,.pointer (some ⟨s,0,none⟩),.pointer (some ⟨t,0,none⟩),.int .i64 (d:Nat),.bool cyc,.int .i64 8,.int .i64 300,.int .i64 16,.int .i64 600,.int .i64 600,.int .i64 12000,.int .i64 8000,.int .i64 4000,.int .i64 1200,.int .i64 100,.int .i64 4000,.int .i64 6000] 67))=w5 at *
 as_aux_lemma =>
  have c0:=BX5.out.1.c 0 rfl;have c1:=BX5.out.1.c 1 rfl;have c2:=BX5.out.1.c 2 rfl;have c3:=BX5.out.1.c 3 rfl;have c4:=BX5.out.1.c 4 rfl;have c5:=BX5.out.1.c 5 rfl;have c6:=BX5.out.1.c 6 rfl;have c7:=BX5.out.1.c 7 rfl;have c8:=BX5.out.1.c 8 rfl;have c9:=BX5.out.1.c 9 rfl;have c10:=BX5.out.1.c 10 rfl;have c11:=BX5.out.1.c 11 rfl;have c12:=BX5.out.1.c 12 rfl;have c13:=BX5.out.1.c 13 rfl;have c14:=BX5.out.1.c 14 rfl;have c15:=BX5.out.1.c 15 rfl;have c16:=BX5.out.1.c 16 rfl;have bf:=BX5.out.1.f;refine sq fun K2 J2=>?_
  go_wp2_with fail
  clear c0 c1 c2 c3 c4 c5 c6 c7 c8 c9 c10 c11 c12 c13 c14 c15 c16;refine(qgh cyc 600 12000 8000 4000 1200 100 4000 6000 qej d (by have:=HD.out;omega) w5 lab5).mono ?_;rintro e w6 ⟨lab6,X0,V6,b6,c6,rfl,hnw⟩;have hps:=qpk qej (by have:=HD.out;omega) hnw;have hs6:=hnw.st;have HS6:=am (HS5.out.trans (hs6.mono (fun i e=>by omega)));have RR6:=am (And.intro (hs6.blk RR5.out.1 (by rw[RR5.out.2];decide)) ((hs6.lb RR5.out.1).trans RR5.out.2));have SC6:=am (SC5.out.far hs6 (fun i e=>by omega));have TR6:=am (TR5.out.far hs6 (fun i e=>by omega));have BX6:=am (And.intro (hs6.blk BX5.out.1 (by rw[BX5.out.2];decide)) ((hs6.lb BX5.out.1).trans BX5.out.2));obtain⟨X,eX⟩:∃X:PrA,({ X0 with b:=b6 }:PrA)=X:=⟨_,rfl⟩;have eb:b6=X.b:=by rw[←eX]
  rw[eX] at hps;subst eb;obtain⟨V7,eV7⟩:∃V:PrV,({ V6 with time:=0,vw:=.slice none 0 0 }:PrV)=V:=⟨_,rfl⟩;have HVW:qac (V7.vw=.slice none 0 0):=⟨by rw[←eV7]⟩;rw[eV7] at hps;have PS6:=am hps;clear hnw hps hs6 eX eV7 SC5 TR5 HS5 RR5 BX5;have bf:=BX6.out.1.f;have c0:=BX6.out.1.c 0 rfl
  go_wp2_with fail
  refine J2.out _ _ ?_;clear J2;have hs7:=(Stps.refl lab6 w6 (·=5)).set BX6.out.1 (by decide) BX6.out.2 0 (.pointer (some ⟨X.b,0,none⟩));have BX7:qac (Blk (w6.setCell ⟨B,0,none⟩ (.pointer (some ⟨X.b,0,none⟩))) B 67 [.pointer (some ⟨X.b,0,none⟩),.pointer (some ⟨s,0,none⟩),.pointer (some ⟨t,0,none⟩),.int .i64 (d:Nat),.bool cyc,.int .i64 8,.int .i64 300,.int .i64 16,.int .i64 600,.int .i64 600,.int .i64 12000,.int .i64 8000,.int .i64 4000,.int .i64 1200,.int .i64 100,.int .i64 4000,.int .i64 6000]∧lab6 B=5):=⟨BX6.out.1.set 0 _,BX6.out.2⟩;have RR7:qac (Blk (w6.setCell ⟨B,0,none⟩ (.pointer (some ⟨X.b,0,none⟩))) R 67 [.pointer none,.pointer none,.pointer none,.int .i64 0,.bool false,.int .i64 0,.int .i64 0,.int .i64 0,.int .i64 0,.int .i64 0,.int .i64 0,.int .i64 0,.int .i64 0,.int .i64 0,.int .i64 0,.int .i64 0,.int .i64 0]∧lab6 R=5):=⟨RR6.out.1.far HRB.out _,RR6.out.2⟩;have HS7:=am (HS6.out.trans (hs7.mono (fun i e=>by omega)));have SC7:=am (SC6.out.far hs7 (fun i e=>by omega));have TR7:=am (TR6.out.far hs7 (fun i e=>by omega));have PS7:=am (PS6.out.far5 hs7 (fun i e=>Or.inl e) trivial);clear hs7 bf c0 BX6 RR6 HS6 SC6 TR6 PS6;generalize (w6.setCell ⟨B,0,none⟩ (.pointer (some ⟨X.b,0,none⟩)))=w7 at *;have hrow:Rw w7 (fun k=>lab6 k=4) 99 V7.vw []:=by rw[HVW.out];exact Rw.nil _ _ _
  as_aux_lemma =>
   have c0:=BX7.out.1.c 0 rfl;have c1:=BX7.out.1.c 1 rfl;refine sq fun K7 J7=>?_
   go_wp2_with fail
   refine(qeo PS7.out.is hrow (by simp[Value.oneCell']) (by simp) 64 ⟨s,0,none⟩).mono ?_;rintro e w8 ⟨rfl,lab8,vw8,hs8,hi8,hrow8⟩;have HS8:=am (HS7.out.trans (hs8.mono (fun i e=>by omega)));have RR8:=am (And.intro (hs8.blk RR7.out.1 (by rw[RR7.out.2];decide)) ((hs8.lb RR7.out.1).trans RR7.out.2));have SC8:=am (SC7.out.far hs8 (fun i e=>by omega));have TR8:=am (TR7.out.far hs8 (fun i e=>by omega));have BX8:=am (And.intro (hs8.blk BX7.out.1 (by rw[BX7.out.2];decide)) ((hs8.lb BX7.out.1).trans BX7.out.2));have IS8:=am hi8;clear hrow;have hrow:=hrow8;clear hrow8 hi8 hs8 c0 c1 SC7 TR7 HS7 RR7 BX7
   go_wp2_with fail
   refine J7.out _ _ ?_;clear J7;have c0:=BX8.out.1.c 0 rfl;have c2:=BX8.out.1.c 2 rfl;refine sq fun K8 J8=>?_
   go_wp2_with fail
   refine(qeo IS8.out hrow (by simp[Value.oneCell']) (by simp) 65 ⟨t,0,none⟩).mono ?_;rintro e w9 ⟨rfl,lab9,vw9,hs9,hi9,hrow9⟩;have HS9:=am (HS8.out.trans (hs9.mono (fun i e=>by omega)));have RR9:=am (And.intro (hs9.blk RR8.out.1 (by rw[RR8.out.2];decide)) ((hs9.lb RR8.out.1).trans RR8.out.2));have SC9:=am (SC8.out.far hs9 (fun i e=>by omega));have TR9:=am (TR8.out.far hs9 (fun i e=>by omega));have BX9:=am (And.intro (hs9.blk BX8.out.1 (by rw[BX8.out.2];decide)) ((hs9.lb BX8.out.1).trans BX8.out.2));have IS9:=am hi9;clear hrow;have hrow:=hrow9;clear hrow9 hi9 hs9 c0 c2 SC8 TR8 HS8 RR8 BX8
   go_wp2_with fail
   refine J8.out _ _ ?_;clear J8;obtain⟨lab10,el10⟩:∃l,relRow lab9 vw9=l:=⟨_,rfl⟩;have HROW:=am hrow;have h4:∀k,qau vw9=some k→lab9 k=4:=fun k e=>by obtain⟨A,c,_,_,_,f⟩:=hrow.slice;exact(f k e).1
   have HS10:qac (Stps (fun _=>6) w (·≠6) lab10 w9):=⟨by rw[←el10];exact HS9.out.relRow hrow (fun k hk=>Or.inl rfl)⟩;have BX10:qac (Blk w9 B 67 [.pointer (some ⟨X.b,0,none⟩),.pointer (some ⟨s,0,none⟩),.pointer (some ⟨t,0,none⟩),.int .i64 (d:Nat),.bool cyc,.int .i64 8,.int .i64 300,.int .i64 16,.int .i64 600,.int .i64 600,.int .i64 12000,.int .i64 8000,.int .i64 4000,.int .i64 1200,.int .i64 100,.int .i64 4000,.int .i64 6000]∧lab10 B=5):=⟨BX9.out.1,by rw[←el10];exact qbr h4 (by decide) BX9.out.2⟩;have RR10:qac (Blk w9 R 67 [.pointer none,.pointer none,.pointer none,.int .i64 0,.bool false,.int .i64 0,.int .i64 0,.int .i64 0,.int .i64 0,.int .i64 0,.int .i64 0,.int .i64 0,.int .i64 0,.int .i64 0,.int .i64 0,.int .i64 0,.int .i64 0]∧lab10 R=5):=⟨RR9.out.1,by rw[←el10];exact qbr h4 (by decide) RR9.out.2⟩;have PS10:qac (PSt (quy s t) (stW s t) cyc w9 lab10 X { V7 with vw:=vw9 } (Sig.newPair cyc Sig.usualT d) 0 0):=⟨by
    rw[←el10];exact⟨IS9.out.relRow hrow,PS7.out.b0,PS7.out.b1,PS7.out.t0,PS7.out.t1,PS7.out.c0,PS7.out.c1,hrow.relRow,ST.relRow ⟨⟨_,SC9.out⟩,_,TR9.out⟩ hrow,PS7.out.l0,PS7.out.l1⟩⟩
   clear hrow h4 el10 HROW IS8 IS9 SC9 TR9 HS9 RR9 BX9 PS7 HVW
   as_aux_lemma =>
    have hps:=PS10.out.below (qdu s t) (qaf (Below.refl _ w9));have PS11:=am hps.1;have HS11:=am (HS10.out.trans (hps.2.mono (P':=(·≠6)) (fun i e=>by omega)));have BX11:=am (And.intro (hps.2.blk BX10.out.1 (by rw[BX10.out.2];decide)) ((hps.2.lb BX10.out.1).trans BX10.out.2));have RR11:=am (And.intro (hps.2.blk RR10.out.1 (by rw[RR10.out.2];decide)) ((hps.2.lb RR10.out.1).trans RR10.out.2));obtain⟨lab11,el11⟩:∃l,qaj lab10 w9 4=l:=⟨_,rfl⟩;rw[el11] at PS11 HS11 BX11 RR11;clear el11 hps;have c0:=BX10.out.1.c 0 rfl;have c3:=BX10.out.1.c 3 rfl;have c4:=BX10.out.1.c 4 rfl;have c5:=BX10.out.1.c 5 rfl;have c6:=BX10.out.1.c 6 rfl;have c7:=BX10.out.1.c 7 rfl;have c8:=BX10.out.1.c 8 rfl;have c9:=BX10.out.1.c 9 rfl;have c10:=BX10.out.1.c 10 rfl;have c11:=BX10.out.1.c 11 rfl;have c12:=BX10.out.1.c 12 rfl;have c13:=BX10.out.1.c 13 rfl;have c14:=BX10.out.1.c 14 rfl;have c15:=BX10.out.1.c 15 rfl;have c16:=BX10.out.1.c 16 rfl;obtain⟨N,eN⟩:∃N,qi0 d=N:=⟨_,rfl⟩;have HN:qac (N≤6300):=⟨by rw[←eN];have:=HD.out;show 0+1200+6*((d+7)/8+2*337+2)≤6300;omega⟩;have HIS:qac (Calls Tryz.prog 18 #[.agg #[.bool cyc,.int .i64 8,.int .i64 300,.int .i64 16,.int .i64 600,.int .i64 600,.int .i64 12000,.int .i64 8000,.int .i64 4000,.int .i64 1200,.int .i64 100,.int .i64 4000,.int .i64 6000],.int .i64 (d:Nat),.int .i64 0] w9.drew fun e w'=>e=.returned (.int .i64 (N:Nat))∧Below w9.drew.heap.size w9.drew w'):=⟨by rw[←eN];exact qdp cyc 600 12000 8000 4000 1200 100 4000 6000 d 0 (by have:=HD.out;omega) (by decide) (by decide) w9.drew⟩;have EN:=am eN;clear eN;refine sq fun K12 J12=>?_
    go_wp2_with fail
    refine sr 8 (fun W=>W.cell? ⟨B,0,none⟩=some (.pointer (some ⟨X.b,0,none⟩))∧W.cell? ⟨B,3,none⟩=some (.int .i64 (d:Nat))∧W.cell? ⟨B,4,none⟩=some (.bool cyc)∧W.cell? ⟨B,5,none⟩=some (.int .i64 8)∧W.cell? ⟨B,6,none⟩=some (.int .i64 300)∧W.cell? ⟨B,7,none⟩=some (.int .i64 16)∧W.cell? ⟨B,8,none⟩=some (.int .i64 600)∧W.cell? ⟨B,9,none⟩=some (.int .i64 600)∧W.cell? ⟨B,10,none⟩=some (.int .i64 12000)∧W.cell? ⟨B,11,none⟩=some (.int .i64 8000)∧W.cell? ⟨B,12,none⟩=some (.int .i64 4000)∧W.cell? ⟨B,13,none⟩=some (.int .i64 1200)∧W.cell? ⟨B,14,none⟩=some (.int .i64 100)∧W.cell? ⟨B,15,none⟩=some (.int .i64 4000)∧W.cell? ⟨B,16,none⟩=some (.int .i64 6000)) [7] (show _∧_∧_∧_∧_∧_∧_∧_∧_∧_∧_∧_∧_∧_∧_ from ⟨c0,c3,c4,c5,c6,c7,c8,c9,c10,c11,c12,c13,c14,c15,c16⟩) (fun hY=>?_);refine pu 0 36 ?_;refine pu 2 38 ?_;refine pu 4 40 ?_;refine tk 1 37 hY ?_;refine tk 3 39 hY ?_;refine tk 5 41 hY ?_;refine on_ 6 42 (fun K hK=>?_);refine gs Tryz.func18 #[.agg #[.bool cyc,.int .i64 8,.int .i64 300,.int .i64 16,.int .i64 600,.int .i64 600,.int .i64 12000,.int .i64 8000,.int .i64 4000,.int .i64 1200,.int .i64 100,.int .i64 4000,.int .i64 6000],.int .i64 (d:Nat),.int .i64 0] ?_
    with_reducible refine(HIS.out).mono ?_
    rintro e w12 ⟨rfl,hbw12⟩;refine⟨_,rfl,?_⟩;have hps:=PS11.out.below (qdu s t) hbw12;have PS12:=am hps.1;have HS12:=am (HS11.out.trans (hps.2.mono (P':=(·≠6)) (fun i e=>by omega)));have BX12:=am (And.intro (hps.2.blk BX11.out.1 (by rw[BX11.out.2];decide)) ((hps.2.lb BX11.out.1).trans BX11.out.2));have RR12:=am (And.intro (hps.2.blk RR11.out.1 (by rw[RR11.out.2];decide)) ((hps.2.lb RR11.out.1).trans RR11.out.2));have HBW12:=am hbw12;clear hps hbw12;refine hK.out _ _ ⟨qae HBW12.out (hY.1),qae HBW12.out (hY.2.1),qae HBW12.out (hY.2.2.1),qae HBW12.out (hY.2.2.2.1),qae HBW12.out (hY.2.2.2.2.1),qae HBW12.out (hY.2.2.2.2.2.1),qae HBW12.out (hY.2.2.2.2.2.2.1),qae HBW12.out (hY.2.2.2.2.2.2.2.1),qae HBW12.out (hY.2.2.2.2.2.2.2.2.1),qae HBW12.out (hY.2.2.2.2.2.2.2.2.2.1),qae HBW12.out (hY.2.2.2.2.2.2.2.2.2.2.1),qae HBW12.out (hY.2.2.2.2.2.2.2.2.2.2.2.1),qae HBW12.out (hY.2.2.2.2.2.2.2.2.2.2.2.2.1),qae HBW12.out (hY.2.2.2.2.2.2.2.2.2.2.2.2.2.1),qae HBW12.out (hY.2.2.2.2.2.2.2.2.2.2.2.2.2.2)⟩ (fun hY=>?_);clear hK K;refine nm 42 ?_;refine la_ 7 43 (fun K hK=>?_);refine gs Tryz.func17 #[.pointer (some ⟨X.b,0,none⟩),.int .i64 0,.int .i64 (N:Nat)] ?_
    with_reducible refine(show Calls Tryz.prog 17 #[.pointer (some ⟨X.b,0,none⟩),.int .i64 0,.int .i64 (N:Nat)] w12 _ from qel (qdu s t) PS12.out 0 N (by decide) (by have:=HN.out;omega) (by have:=HN.out;omega) (by decide)).mono ?_
    rintro e w13 ⟨rfl,lab13,V13,hs13,hp13⟩;refine⟨_,rfl,?_⟩;have PS13:=am hp13;have HS13:=am (HS12.out.trans (hs13.mono (P':=(·≠6)) (fun i e=>by omega)));have BX13:=am (And.intro (hs13.blk BX12.out.1 (by rw[BX12.out.2];decide)) ((hs13.lb BX12.out.1).trans BX12.out.2));have RR13:=am (And.intro (hs13.blk RR12.out.1 (by rw[RR12.out.2];decide)) ((hs13.lb RR12.out.1).trans RR12.out.2));clear hs13 hp13;refine hK.out _ _ ?_;clear hK K;refine nm 43 ?_;refine qav (by kernel_rfl) ?_;clear c0 c3 c4 c5 c6 c7 c8 c9 c10 c11 c12 c13 c14 c15 c16 PS10 HS10 BX10 RR10 PS11 HS11 BX11 RR11 HS12 BX12 RR12 PS12 HBW12 HIS
    go_wp2_with fail
    refine J12.out _ _ ?_;clear J12
    as_aux_lemma =>
     refine sq fun K13 J13=>?_;refine wp_region_lit ?_;refine wpList_load_row rfl 67 (.tmp 5) rfl B rfl 67 (#[.pointer (some ⟨X.b,0,none⟩),.pointer (some ⟨s,0,none⟩),.pointer (some ⟨t,0,none⟩),.int .i64 (d:Nat),.bool cyc,.int .i64 8,.int .i64 300,.int .i64 16,.int .i64 600,.int .i64 600,.int .i64 12000,.int .i64 8000,.int .i64 4000,.int .i64 1200,.int .i64 100,.int .i64 4000,.int .i64 6000]) (0,0) _ BX13.out.1 Tryz.underlying67 rfl (by kernel_rfl) ?_;refine wpList_store_row rfl 67 (.tmp 4) (.tmp 44) rfl R (#[.pointer (some ⟨X.b,0,none⟩),.pointer (some ⟨s,0,none⟩),.pointer (some ⟨t,0,none⟩),.int .i64 (d:Nat),.bool cyc,.int .i64 8,.int .i64 300,.int .i64 16,.int .i64 600,.int .i64 600,.int .i64 12000,.int .i64 8000,.int .i64 4000,.int .i64 1200,.int .i64 100,.int .i64 4000,.int .i64 6000]) rfl rfl 67 _ RR13.out.1 (by kernel_rfl) rfl (by simp[Value.oneCell']) ?_;have HR14:qac (Blk (w13.setRow R #[.pointer (some ⟨X.b,0,none⟩),.pointer (some ⟨s,0,none⟩),.pointer (some ⟨t,0,none⟩),.int .i64 (d:Nat),.bool cyc,.int .i64 8,.int .i64 300,.int .i64 16,.int .i64 600,.int .i64 600,.int .i64 12000,.int .i64 8000,.int .i64 4000,.int .i64 1200,.int .i64 100,.int .i64 4000,.int .i64 6000]) R 67 (qmh X.b s t d cyc)):=⟨setRow_heap w13 R _ _ 67 (0,0) RR13.out.1⟩;have hs14:Stps lab13 w13 (·=5) (qaj lab13 w13 5) (w13.setRow R #[.pointer (some ⟨X.b,0,none⟩),.pointer (some ⟨s,0,none⟩),.pointer (some ⟨t,0,none⟩),.int .i64 (d:Nat),.bool cyc,.int .i64 8,.int .i64 300,.int .i64 16,.int .i64 600,.int .i64 600,.int .i64 12000,.int .i64 8000,.int .i64 4000,.int .i64 1200,.int .i64 100,.int .i64 4000,.int .i64 6000]):=(Stp.mk' ((qlm w13 R _).mono (fun k e=>by have e:k=R:=e;subst e;exact⟨RR13.out.2,fun h5=>absurd (h5.ne RR13.out.1.typed) (by decide)⟩))).stps rfl;have HF:qac (∃X' s' t' lab' V',Ending.returned (wV X.b s t d cyc)=Ending.returned (wV X'.b s' t' d cyc)∧Stps (fun _=>6) w (·≠6) lab' (w13.setRow R #[.pointer (some ⟨X.b,0,none⟩),.pointer (some ⟨s,0,none⟩),.pointer (some ⟨t,0,none⟩),.int .i64 (d:Nat),.bool cyc,.int .i64 8,.int .i64 300,.int .i64 16,.int .i64 600,.int .i64 600,.int .i64 12000,.int .i64 8000,.int .i64 4000,.int .i64 1200,.int .i64 100,.int .i64 4000,.int .i64 6000])∧PSt (quy s' t') (stW s' t') cyc (w13.setRow R #[.pointer (some ⟨X.b,0,none⟩),.pointer (some ⟨s,0,none⟩),.pointer (some ⟨t,0,none⟩),.int .i64 (d:Nat),.bool cyc,.int .i64 8,.int .i64 300,.int .i64 16,.int .i64 600,.int .i64 600,.int .i64 12000,.int .i64 8000,.int .i64 4000,.int .i64 1200,.int .i64 100,.int .i64 4000,.int .i64 6000]) lab' X' V' (qiz cyc d) (qi0 d+2) 2):=⟨X,s,t,_,V13,rfl,HS13.out.trans (hs14.mono (fun i e=>by omega)),by
      have hp:=PS13.out.far5 hs14 (fun i e=>Or.inl e) (ST.far PS13.out.wt hs14 (fun i e=>by omega));have en:=EN.out;rw[←en] at hp;have e0:0+0+qi0 d+2=qi0 d+2:=by omega
      rw[e0] at hp;exact hp⟩
     clear hs14;generalize (w13.setRow R #[.pointer (some ⟨X.b,0,none⟩),.pointer (some ⟨s,0,none⟩),.pointer (some ⟨t,0,none⟩),.int .i64 (d:Nat),.bool cyc,.int .i64 8,.int .i64 300,.int .i64 16,.int .i64 600,.int .i64 600,.int .i64 12000,.int .i64 8000,.int .i64 4000,.int .i64 1200,.int .i64 100,.int .i64 4000,.int .i64 6000])=w14 at *
     go_wp2_with fail
     refine J13.out _ _ ?_;clear J13
     go_wp2_with fail
     refine bodyPost_ret (qhe (r:=.cell 4 67) rfl (.cell R 67 (qmh X.b s t d cyc).toArray (0,0) _ rfl HR14.out Tryz.underlying67 rfl (by kernel_rfl) .nil)) rfl ?_;exact HF.out
end Go.Proofs.YtjbijdmcceloaaaGreat.Top
