/- Part of the proof of topServes_holds. No condition. -/
import Derived.Test.YtjbijdmcceloaaaGreatQS17
set_option linter.unusedVariables false
set_option linter.unusedSimpArgs false
set_option maxHeartbeats 80000000
set_option maxRecDepth 100000
namespace Go.Proofs.YtjbijdmcceloaaaGreat.Top
open Go Go.RowKit Go.Proofs.YtjbijdmcceloaaaGreat Go.Proofs.YtjbijdmcceloaaaGreatW.PrintWords Go.Proofs.YtjbijdmcceloaaaGreatW.PrintLast Go.Proofs.YtjbijdmcceloaaaGreatW.PrintMore
def Sig.Pair.mid (x:Sig.Pair) (i:Nat):Sig.Pair:=match i with
 |0=>x
 |1=>{ x with p0:=(x.p0.tick x.n0).1 }
 |_=>{ x with p0:=(x.p0.tick x.n0).1,p1:=(x.p1.tick x.n1).1 }
def Sig.Pair.room (x:Sig.Pair) (i:Nat):List Bool:=match i with
 |0=>List.replicate 8 false++List.replicate 8 false
 |1=>(x.p0.tick x.n0).2++List.replicate 8 false
 |_=>(x.p0.tick x.n0).2++(x.p1.tick x.n1).2
theorem qem (b:Nat):∀(vs:List Value) (o:Nat) (w:World),(w.setCells b o vs).heap.size=w.heap.size
 |[],_,_=>rfl
 |v::vs,o,w=>(qem b vs (o+1) _).trans (qa0 _ _ _)
structure TkA (w:World) (lab:Nat→Nat) (X:PrA) (x:Sig.Pair) (V:PrV) (n B:Nat) (i:Nat) (w':World) (lab':Nat→Nat) (V':PrV):Prop where
 st:Stps lab w (fun i=>i≤4) lab' w'
 is:PrIs w' lab' X (Sig.Pair.mid x i) V'
 rm:Blk w' B 83 (bools (Sig.Pair.room x i))
 lb:lab' B=4
 time:V'.time=V.time
 vw:V'.vw=V.vw
 r0:V'.r0=V.r0
 r1:V'.r1=V.r1
 q0:i=0→V'.q0=V.q0
 q1:i≤1→V'.q1=V.q1
 b0:1≤i→PoB (Sig.Pair.mid x i).p0 V'.q0 (n+1)
 b1:2≤i→PoB (Sig.Pair.mid x i).p1 V'.q1 (n+1)
theorem qc4 (l:List Bool) (b:Bool):∀w:Sig.Wire,w.passes (l++[b])=(((w.passes l).1.pass b).1,(w.passes l).2++[((w.passes l).1.pass b).2]):=by
 induction l with
 |nil=>intro w;rfl
 |cons a l ih =>
  intro w;show (let r:=w.pass a;let q:=r.1.passes (l++[b]);(q.1,r.2::q.2))=_;simp only[ih];rfl
theorem qnh (w:Sig.Wire) (b:Bool):(w.pass b).1.l.length=w.l.length∧(w.pass b).1.ones≤w.ones∧(w.pass b).1.mask.length≤w.mask.length:=by
 obtain⟨l,mask,ones⟩:=w;unfold Sig.Wire.pass;cases mask <;> cases l <;> by_cases h:0<ones <;> simp[h]
theorem qco (l:List Bool):∀w:Sig.Wire,(w.passes l).2.length=l.length∧(w.passes l).1.l.length=w.l.length∧(w.passes l).1.ones≤w.ones∧(w.passes l).1.mask.length≤w.mask.length:=by
 induction l with
 |nil=>intro w;exact⟨rfl,rfl,Nat.le_refl _,Nat.le_refl _⟩
 |cons a l ih =>
  intro w;have h:=ih (w.pass a).1;have k:=qnh w a;exact⟨by show ((w.pass a).1.passes l).2.length+1=l.length+1;rw[h.1],h.2.1.trans k.1,Nat.le_trans h.2.2.1 k.2.1,Nat.le_trans h.2.2.2 k.2.2⟩
structure WiB (x:Sig.Wire) (q:WV) (n:Nat):Prop where
 l:x.l.length≤65536
 ones:x.ones≤65536
 mask:x.mask.length≤65536
 bent:q.bent≤32*n
def Sig.Pair.midk (x:Sig.Pair) (i k:Nat):Sig.Pair:=match i with
 |0=>{ Sig.Pair.mid x 2 with w0:=(x.w0.passes ((x.p0.tick x.n0).2.take k)).1,n1:=(x.w0.passes ((x.p0.tick x.n0).2.take k)).2++x.n1.drop k }
 |_=>{ Sig.Pair.mid x 2 with w0:=(x.w0.passes ((x.p0.tick x.n0).2.take 8)).1,n1:=(x.w0.passes ((x.p0.tick x.n0).2.take 8)).2++x.n1.drop 8,w1:=(x.w1.passes ((x.p1.tick x.n1).2.take k)).1,n0:=(x.w1.passes ((x.p1.tick x.n1).2.take k)).2++x.n0.drop k }
structure TkB (w:World) (lab:Nat→Nat) (X:PrA) (x:Sig.Pair) (V:PrV) (n B:Nat) (i k:Nat) (w':World) (lab':Nat→Nat) (V':PrV):Prop where
 st:Stps lab w (fun i=>i≤4) lab' w'
 is:PrIs w' lab' X (Sig.Pair.midk x i k) V'
 rm:Blk w' B 83 (bools (Sig.Pair.room x 2))
 lb:lab' B=4
 time:V'.time=V.time
 vw:V'.vw=V.vw
 b0:PoB (Sig.Pair.mid x 2).p0 V'.q0 (n+1)
 b1:PoB (Sig.Pair.mid x 2).p1 V'.q1 (n+1)
 r0:V'.r0.bent≤V.r0.bent+2*(8*i+k)
 r1:V'.r1.bent≤V.r1.bent+2*(8*i+k)
theorem Stps.drew (lab:Nat→Nat) (w:World) (P:Nat→Prop):Stps lab w P lab w.drew:=⟨fun _ _=>rfl,fun k h1 h2=>absurd (show k<w.heap.size from h2) (by omega),(Only.refl _ w).drewN 1⟩
theorem TkB.drew {w:World} {lab:Nat→Nat} {X:PrA} {x:Sig.Pair} {V:PrV} {n B i k:Nat} {w':World} {lab':Nat→Nat} {V':PrV} (h:TkB w lab X x V n B i k w' lab' V'):TkB w lab X x V n B i k w'.drew lab' V' :=
 ⟨h.st.trans (Stps.drew _ _ _),h.is.far (Stps.drew _ _ (fun _=>False)) (fun _ e=>e.elim),h.rm,h.lb,h.time,h.vw,h.b0,h.b1,h.r0,h.r1⟩
theorem qti (x:Sig.Pair) (j k:Nat):(Sig.Pair.midk x 1 j).w0=(Sig.Pair.midk x 1 k).w0:=by simp only[Sig.Pair.midk]
theorem qtk (x:Sig.Pair) (j k:Nat):(Sig.Pair.midk x 1 j).n1=(Sig.Pair.midk x 1 k).n1:=by simp only[Sig.Pair.midk]
theorem qsn (x:Sig.Pair) (i j k:Nat):(Sig.Pair.midk x i j).p0=(Sig.Pair.midk x i k).p0∧(Sig.Pair.midk x i j).p1=(Sig.Pair.midk x i k).p1:=by
 unfold Sig.Pair.midk;split <;> exact⟨rfl,rfl⟩
theorem qmo (x:Sig.Pair) (k:Nat):(Sig.Pair.midk x 0 k).w0=(x.w0.passes ((x.p0.tick x.n0).2.take k)).1:=by simp only[Sig.Pair.midk]
theorem qi4 (x:Sig.Pair) (k:Nat):(Sig.Pair.midk x 1 k).w1=(x.w1.passes ((x.p1.tick x.n1).2.take k)).1:=by simp only[Sig.Pair.midk]
theorem qmp (x:Sig.Pair) (k:Nat):(Sig.Pair.midk x 0 k).n1=(x.w0.passes ((x.p0.tick x.n0).2.take k)).2++x.n1.drop k:=by simp only[Sig.Pair.midk]
theorem qi5 (x:Sig.Pair) (k:Nat):(Sig.Pair.midk x 1 k).n0=(x.w1.passes ((x.p1.tick x.n1).2.take k)).2++x.n0.drop k:=by simp only[Sig.Pair.midk]
theorem qrr (x:Sig.Pair) (j k:Nat):(Sig.Pair.midk x 0 j).w1=(Sig.Pair.midk x 0 k).w1:=by simp only[Sig.Pair.midk]
theorem qrs (x:Sig.Pair) (j k:Nat):(Sig.Pair.midk x 0 j).n0=(Sig.Pair.midk x 0 k).n0:=by simp only[Sig.Pair.midk]
theorem qvg (x:Sig.Pair):Sig.Pair.midk x 0 0=Sig.Pair.mid x 2:=rfl
theorem qtj (x:Sig.Pair) (h0:x.n0.length=8):Sig.Pair.midk x 1 0=Sig.Pair.midk x 0 8:=by
 unfold Sig.Pair.midk;simp only[List.take_zero,List.drop_zero];rfl
theorem TkB.up {w:World} {lab:Nat→Nat} {X:PrA} {x:Sig.Pair} {V:PrV} {n B:Nat} {w':World} {lab':Nat→Nat} {V':PrV} (h:TkB w lab X x V n B 0 8 w' lab' V') (h0:x.n0.length=8):TkB w lab X x V n B 1 0 w' lab' V' :=
 ⟨h.st,by rw[qtj x h0];exact h.is,h.rm,h.lb,h.time,h.vw,h.b0,h.b1,h.r0,h.r1⟩
theorem qmk {l s:List Bool} {k:Nat} (hl:l.length=8) (hs:s.length=k) (hk:k<8) (b:Bool):(s++l.drop k).set k b=(s++[b])++l.drop (k+1):=by
 have hd:l.drop k=l[k]::l.drop (k+1):=List.drop_eq_getElem_cons (by omega);rw[hd,List.set_append_right _ _ (by omega),hs,Nat.sub_self,List.append_assoc];rfl
theorem qka (X:PrA) (n0 n1:List Bool) (t:Int) (vw:Value) (h0:n0.length=8) (h1:n1.length=8) {k:Nat} (hk:k<8):∃b,(qb9 X n0 n1 t vw)[12+k]?=some (.bool b):=by
 obtain⟨a0,a1,a2,a3,a4,a5,a6,a7,rfl⟩:=qaw h0;obtain⟨d0,d1,d2,d3,d4,d5,d6,d7,rfl⟩:=qaw h1
 match k,hk with
 |0,_=>exact⟨_,rfl⟩
 |1,_=>exact⟨_,rfl⟩
 |2,_=>exact⟨_,rfl⟩
 |3,_=>exact⟨_,rfl⟩
 |4,_=>exact⟨_,rfl⟩
 |5,_=>exact⟨_,rfl⟩
 |6,_=>exact⟨_,rfl⟩
 |7,_=>exact⟨_,rfl⟩
theorem qkb (X:PrA) (n0 n1:List Bool) (t:Int) (vw:Value) (h0:n0.length=8) (h1:n1.length=8) {k:Nat} (hk:k<8):∃b,(qb9 X n0 n1 t vw)[4+k]?=some (.bool b):=by
 obtain⟨a0,a1,a2,a3,a4,a5,a6,a7,rfl⟩:=qaw h0;obtain⟨d0,d1,d2,d3,d4,d5,d6,d7,rfl⟩:=qaw h1
 match k,hk with
 |0,_=>exact⟨_,rfl⟩
 |1,_=>exact⟨_,rfl⟩
 |2,_=>exact⟨_,rfl⟩
 |3,_=>exact⟨_,rfl⟩
 |4,_=>exact⟨_,rfl⟩
 |5,_=>exact⟨_,rfl⟩
 |6,_=>exact⟨_,rfl⟩
 |7,_=>exact⟨_,rfl⟩
theorem qj8 (X:PrA) (n0 n1:List Bool) (t:Int) (vw:Value) (h0:n0.length=8) (h1:n1.length=8) {k:Nat} (hk:k<8) (b:Bool):(qb9 X n0 n1 t vw).set (12+k) (.bool b)=qb9 X n0 (n1.set k b) t vw:=by
 obtain⟨a0,a1,a2,a3,a4,a5,a6,a7,rfl⟩:=qaw h0;obtain⟨d0,d1,d2,d3,d4,d5,d6,d7,rfl⟩:=qaw h1
 match k,hk with
 |0,_=>rfl
 |1,_=>rfl
 |2,_=>rfl
 |3,_=>rfl
 |4,_=>rfl
 |5,_=>rfl
 |6,_=>rfl
 |7,_=>rfl
theorem qj9 (X:PrA) (n0 n1:List Bool) (t:Int) (vw:Value) (h0:n0.length=8) (h1:n1.length=8) {k:Nat} (hk:k<8) (b:Bool):(qb9 X n0 n1 t vw).set (4+k) (.bool b)=qb9 X (n0.set k b) n1 t vw:=by
 obtain⟨a0,a1,a2,a3,a4,a5,a6,a7,rfl⟩:=qaw h0;obtain⟨d0,d1,d2,d3,d4,d5,d6,d7,rfl⟩:=qaw h1
 match k,hk with
 |0,_=>rfl
 |1,_=>rfl
 |2,_=>rfl
 |3,_=>rfl
 |4,_=>rfl
 |5,_=>rfl
 |6,_=>rfl
 |7,_=>rfl
theorem PrIs.room {w:World} {lab:Nat→Nat} {X:PrA} {x:Sig.Pair} {V:PrV} {B:Nat} {cs:List Value} (h:PrIs w lab X x V) (hb:Blk w B 83 cs) (hl:lab B=4) (o:Nat) (vs:List Value):PrIs (w.setCells B o vs) lab X x V∧Stps lab w (·=4) lab (w.setCells B o vs):=by
 have hne:B≠X.b:=hb.ne h.blk (by decide);have ho:Only (·=B) w (w.setCells B o vs):=Only.setCells (P:=(·=B)) rfl vs o w w (Only.refl _ _);have hsz:(w.setCells B o vs).heap.size=w.heap.size:=qem B vs o w;have hs:Stps lab w (·=4) lab (w.setCells B o vs):=⟨fun _ _=>rfl,fun k h1 h2=>by omega,ho.mono (fun k e=>by have e:k=B:=e;subst e;exact⟨hl,fun h5=>absurd (h5.ne hb.typed) (by decide)⟩)⟩;exact⟨h.own hs (h.blk.only ho (fun e=>hne (show X.b=B from e).symm)) rfl rfl rfl rfl rfl rfl rfl rfl h.n0 h.n1,hs⟩
def TdRow (w:World) (P:Nat→Prop) (v:Value) (l:List Sig.Told):Prop:=∃A c,v=.slice A l.length c∧l.length≤c∧c≤maxLen ∧
 ∀j t,l[j]?=some t→∃g vp,A=some ⟨g,0,none⟩∧P g∧Typed w g 184∧g<w.heap.size∧w.cell? ⟨g,j*3,none⟩=some (.int .u8 t.kind)∧w.cell? ⟨g,j*3+1,none⟩=some (.int .u8 t.why)∧w.cell? ⟨g,j*3+2,none⟩=some vp∧Oct w vp t.p
theorem TdRow.only {w w':World} {P Q:Nat→Prop} {v:Value} {l:List Sig.Told} (h:TdRow w P v l) (ho:Only Q w w') (hq:∀k,P k→Typed w k 184→¬Q k) (h5:qca Q w):TdRow w' P v l:=by
 obtain⟨A,c,e,h1,h2,h3⟩:=h;refine⟨A,c,e,h1,h2,fun j t hj=>?_⟩;obtain⟨g,vp,a1,a2,a3,a4,a5,a6,a7,a8⟩:=h3 j t hj;have hb:=ho.block g a4 (hq g a2 a3);have hc:∀n,w'.cell? ⟨g,n,none⟩=w.cell? ⟨g,n,none⟩:=fun n=>by simp only[World.cell?,hb]
 exact⟨g,vp,a1,a2,by obtain⟨cs,fr,hc⟩:=a3;exact⟨cs,fr,hb.trans hc⟩,Nat.lt_of_lt_of_le a4 ho.size,by rw[hc];exact a5,by rw[hc];exact a6,by rw[hc];exact a7,a8.only ho h5⟩
theorem TdRow.mono {w:World} {P P':Nat→Prop} {v:Value} {l:List Sig.Told} (h:TdRow w P v l) (hp:∀k,P k→k<w.heap.size→P' k):TdRow w P' v l:=by
 obtain⟨A,c,e,h1,h2,h3⟩:=h;refine⟨A,c,e,h1,h2,fun j t hj=>?_⟩;obtain⟨g,vp,a1,a2,a3,a4,a5⟩:=h3 j t hj;exact⟨g,vp,a1,hp g a2 a4,a3,a4,a5⟩
theorem qsj {w:World} {P:Nat→Prop} {v:Value} {l:List Sig.Told} (h:Kd.R kT 184 w 0 P v l):TdRow w P v l:=by
 obtain⟨h0,inner,⟨hl,ho⟩,hr⟩:=h;rcases ho with ⟨rfl,hn⟩|⟨g,cap,cur,rfl,_,hg,hn,hm,hs,ht⟩
 ·exact⟨none,0,by rw[hn],by omega,Nat.zero_le _,fun j t hj=>by rw[List.eq_nil_of_length_eq_zero hn] at hj;simp at hj⟩
 ·refine⟨_,cap,rfl,hn,hm,fun j t hj=>?_⟩;have hjl:j<l.length:=(List.getElem?_eq_some_iff.1 hj).1;have hR:=hr.2 j t hj;obtain⟨c1,c2,e1,m1,c3,c4,e2,m2,vp,m3,m4⟩:=hR;have m1:c1=[Value.int .u8 (t.kind:Int)]:=m1;have m2:c3=[Value.int .u8 (t.why:Int)]:=m2;have e1:(inner.drop (j*3)).take 3=c1++c2:=e1;have hin:∀n u,n<3→((inner.drop (j*3)).take 3)[n]?=some u→w.cell? ⟨g,j*3+n,none⟩=some u:=fun n u hn3 hu=>by
   rw[List.getElem?_take,if_pos hn3,List.getElem?_drop] at hu;have h5:(cur.toList.take (l.length*kT.sz))[j*3+n]?=some u:=by rw[ht];exact hu
   have hb:j*3+n<l.length*kT.sz:=by
    have e:kT.sz=3:=rfl;rw[e];omega
   rw[List.getElem?_take,if_pos hb] at h5;simp only[World.cell?,hg]
   simpa using h5
  have e3:(inner.drop (j*3)).take 3=[Value.int .u8 (t.kind:Int),Value.int .u8 (t.why:Int),vp]:=by rw[e1,m1,e2,m2,m3];rfl
  rw[e3] at hin;have w2':w.ownsRow 0 5 1 vp (octs t.p).length (octs t.p):=by
   have w2:=Kd.own_of_R m4;rw[List.length_map] at w2;rw[qbc];have e4:octs t.p=qlw (Value.int .u8) (t.p.map (fun n:Nat=>(n:Int))):=by simp[octs,qlw,List.map_map]
   rw[e4];exact w2
  exact⟨g,vp,rfl,h0 g rfl,⟨cur,_,hg⟩,(Array.getElem?_eq_some_iff.1 hg).1,hin 0 _ (by decide) rfl,hin 1 _ (by decide) rfl,hin 2 _ (by decide) rfl,qdj w2' (fun _ _=>trivial)⟩
structure quw (us:List Value) (l0 l1:List Sig.Told) (K:Nat→Nat→World→(Nat→Nat)→Prop):Prop where
 far:∀{i j w lab w' lab'},K i j w lab→Stps lab w (fun k=>k≤4) lab' w'→K i j w' lab'
 side:∀{w lab},K 0 us.length w lab→K 1 0 w lab
 call:∀{i j g A p q w lab tv l},i<2→j<us.length→K i j w lab→PoS w lab i g A p q→q.ns≤8→TdRow w (fun k=>lab k=i) tv l→(i=0→l=l0)→(i=1→l=l1) →
  ∃ty ad f,us[j]?=some (.iface ty (.pointer (some ad)))∧(∀W,(method 356 ty (.pointer (some ad)) "Tick").run Tryz.prog W=.ok (f,.pointer (some ad)) W)∧(∀W args,(callFunc f args).run Tryz.prog W=.ok (.enter f args) W) ∧
   Calls Tryz.prog f #[.pointer (some ad),.int .i64 (i:Nat),.pointer (some ⟨g,0,none⟩),tv] w fun e w'=>e=.returned (.tuple #[])∧∃lab',Stps lab w (fun k=>8≤k) lab' w'∧K i (j+1) w' lab'
theorem TkB.fin {w:World} {lab:Nat→Nat} {X:PrA} {x:Sig.Pair} {V:PrV} {n B:Nat} {w':World} {lab':Nat→Nat} {V':PrV} (h:TkB w lab X x V n B 1 8 w' lab' V') (h0:x.n0.length=8) (h1:x.n1.length=8) (l0:(x.p0.tick x.n0).2.length=8) (l1:(x.p1.tick x.n1).2.length=8) :
  ∃y:Sig.Pair,PrIs w' lab' X y V'∧y.p0=(x.p0.tick x.n0).1∧y.p1=(x.p1.tick x.n1).1∧y.w0=(x.w0.passes (x.p0.tick x.n0).2).1∧y.w1=(x.w1.passes (x.p1.tick x.n1).2).1∧y.n0=(x.w1.passes (x.p1.tick x.n1).2).2∧y.n1=(x.w0.passes (x.p0.tick x.n0).2).2:=by
 have t0:(x.p0.tick x.n0).2.take 8=(x.p0.tick x.n0).2:=List.take_of_length_le (by omega);have t1:(x.p1.tick x.n1).2.take 8=(x.p1.tick x.n1).2:=List.take_of_length_le (by omega);have d0:x.n0.drop 8=[]:=List.drop_eq_nil_of_le (by omega);have d1:x.n1.drop 8=[]:=List.drop_eq_nil_of_le (by omega);have e2:(Sig.Pair.midk x 1 8).w0=(x.w0.passes (x.p0.tick x.n0).2).1:=by simp only[Sig.Pair.midk,t0]
 have e3:(Sig.Pair.midk x 1 8).w1=(x.w1.passes (x.p1.tick x.n1).2).1:=by rw[qi4,t1]
 have e4:(Sig.Pair.midk x 1 8).n0=(x.w1.passes (x.p1.tick x.n1).2).2:=by rw[qi5,t1,d0,List.append_nil]
 have e5:(Sig.Pair.midk x 1 8).n1=(x.w0.passes (x.p0.tick x.n0).2).2:=by simp only[Sig.Pair.midk,t0,d1,List.append_nil]
 have e0:(Sig.Pair.midk x 1 8).p0=(x.p0.tick x.n0).1:=by simp only[Sig.Pair.midk,Sig.Pair.mid]
 have e1:(Sig.Pair.midk x 1 8).p1=(x.p1.tick x.n1).1:=by simp only[Sig.Pair.midk,Sig.Pair.mid]
 have hi:=h.is;generalize Sig.Pair.midk x 1 8=y at *;exact⟨y,hi,e0,e1,e2,e3,e4,e5⟩
theorem qli {w:World} {lab:Nat→Nat} {X:PrA} {y z:Sig.Pair} {V:PrV} (h:PrIs w lab X y V) (e0:z.p0=y.p0) (e1:z.p1=y.p1) (e2:z.w0=y.w0) (e3:z.w1=y.w1) (e4:z.n0=y.n0) (e5:z.n1=y.n1):PrIs w lab X z V:=by
 obtain⟨a,b,c,d,e,f,g,k⟩:=h;exact⟨by rw[e4,e5];exact a,b,by rw[e0];exact c,by rw[e1];exact d,by rw[e2];exact e,by rw[e3];exact f,by rw[e4];exact g,by rw[e5];exact k⟩
theorem PoB.quiet {p:Sig.Post} {q:PoV} {n:Nat} (h:PoB p q n):PoB { p with x:={ p.x with told:=[] } } q n:=⟨⟨h.inv.x.td [],h.inv.ear⟩,h.fails,Nat.zero_le _,h.gone,h.came,h.ends,h.ones,h.ns⟩
def Sig.Pair.of (x:Sig.Pair) (a b:Sig.Post×List Bool):Sig.Pair :=
 ⟨{ a.1 with x:={ a.1.x with told:=[] } },{ b.1 with x:={ b.1.x with told:=[] } },(x.w0.passes a.2).1,(x.w1.passes b.2).1,(x.w1.passes b.2).2,(x.w0.passes a.2).2,x.out0++Sig.msgs a.1.x.told,x.out1++Sig.msgs b.1.x.told⟩
theorem tick_of (x:Sig.Pair):x.tick=Sig.Pair.of x (x.p0.tick x.n0) (x.p1.tick x.n1):=by
 unfold Sig.Pair.tick;generalize x.p0.tick x.n0=a;generalize x.p1.tick x.n1=b;rfl
def Sig.Pair.still (y:Sig.Pair) (i:Nat):Sig.Pair:=match i with
 |0=>y
 |1=>{ y with p0:={ y.p0 with x:={ y.p0.x with told:=[] } } }
 |_=>{ y with p0:={ y.p0 with x:={ y.p0.x with told:=[] } },p1:={ y.p1 with x:={ y.p1.x with told:=[] } } }
structure TkC (w:World) (lab:Nat→Nat) (X:PrA) (y:Sig.Pair) (V:PrV) (us:List Value) (K:Nat→Nat→World→(Nat→Nat)→Prop) (i:Nat) (w':World) (lab':Nat→Nat):Prop where
 st:Stps lab w (fun i=>i≤4∨8≤i) lab' w'
 is:PrIs w' lab' X (Sig.Pair.still y i) V
 row:Rw w' (fun k=>lab' k=7) 99 V.vw us
 k:K (if i=2 then 1 else i) (if i=2 then us.length else 0) w' lab'
structure TkD (w:World) (lab:Nat→Nat) (X:PrA) (y:Sig.Pair) (V:PrV) (us:List Value) (K:Nat→Nat→World→(Nat→Nat)→Prop) (i j:Nat) (tv:Value) (l:List Sig.Told) (w':World) (lab':Nat→Nat):Prop where
 st:Stps lab w (fun i=>i≤4∨8≤i) lab' w'
 is:PrIs w' lab' X (Sig.Pair.still y (i+1)) V
 row:Rw w' (fun k=>lab' k=7) 99 V.vw us
 k:K i j w' lab'
 td:TdRow w' (fun k=>lab' k=i) tv l
theorem Rw.stps {w w':World} {lab lab':Nat→Nat} {P:Nat→Prop} {v:Value} {us:List Value} (h:Rw w (fun k=>lab k=7) 99 v us) (hs:Stps lab w P lab' w') (hp:¬P 7):Rw w' (fun k=>lab' k=7) 99 v us :=
 (h.mono (P':=fun k=>lab k=7∧k<w.heap.size) (fun k hk _ hl _=>⟨hk,hl⟩)).only hs.only (fun k hk _ _ e=>hp (hk.1▸e.1)) |>.mono (fun k hk _ _ _=>(hs.old k hk.2).trans hk.1)
theorem TdRow.stps {w w':World} {lab lab':Nat→Nat} {P:Nat→Prop} {i:Nat} {v:Value} {l:List Sig.Told} (h:TdRow w (fun k=>lab k=i) v l) (hs:Stps lab w P lab' w') (hp:¬P i):TdRow w' (fun k=>lab' k=i) v l:=by
 have h1:=(h.mono (P':=fun k=>lab k=i∧k<w.heap.size) (fun k hk hl=>⟨hk,hl⟩)).only hs.only (fun k hk _ e=>hp (hk.1▸e.1)) hs.noOct;exact h1.mono (fun k hk _=>(hs.old k hk.2).trans hk.1)
theorem qj7 {w:World} {lab:Nat→Nat} {X:PrA} {x:Sig.Pair} {V:PrV} {n:Nat} (h:PrIs w lab X x V) (b0:PoB x.p0 V.q0 n) (b1:PoB x.p1 V.q1 n) (t0:x.p0.x.told.length≤900) (t1:x.p1.x.told.length≤900) (c0:WiB x.w0 V.r0 n) (c1:WiB x.w1 V.r1 n) (hn:n≤20000) {us:List Value} {K:Nat→Nat→World→(Nat→Nat)→Prop} (S:quw us (x.p0.tick x.n0).1.x.told (x.p1.tick x.n1).1.x.told K) (hw:Rw w (fun k=>lab k=7) 99 V.vw us) (hu:us.length≤100) (hk:K 0 0 w lab) :
  Calls Tryz.prog 14 #[.pointer (some ⟨X.b,0,none⟩)] w fun e w'=>e=.returned (.tuple #[])∧∃lab' V',Stps lab w (fun i=>i≤4∨8≤i) lab' w'∧PrIs w' lab' X x.tick V'∧Rw w' (fun k=>lab' k=7) 99 V'.vw us∧PoB x.tick.p0 V'.q0 (n+1)∧PoB x.tick.p1 V'.q1 (n+1)∧x.tick.p0.x.told=[]∧x.tick.p1.x.told=[]∧WiB x.tick.w0 V'.r0 (n+1)∧WiB x.tick.w1 V'.r1 (n+1)∧K 1 us.length w' lab':=by
 have H0:=am h;have B0:=am b0;have B1:=am b1;have T0:=am t0;have T1:=am t1;have HN:=am hn;have C0:=am c0;have C1:=am c1;have SK:=am S;have RW:=am hw;have HU:=am hu;have KK:=am hk;clear h b0 b1 t0 t1 hn c0 c1 S hw hu hk;obtain⟨a0,a1,a2,a3,a4,a5,a6,a7,ea⟩:=qaw H0.out.n0;obtain⟨d0,d1,d2,d3,d4,d5,d6,d7,ed⟩:=qaw H0.out.n1;have EA:=am ea;have ED:=am ed;clear ea ed;have hb:=H0.out.blk;rw[EA.out,ED.out] at hb;have c0:=hb.c 0 rfl;have c1:=hb.c 1 rfl;have c20:=hb.c 20 rfl;have cf:=hb.f;have HB:=am hb;clear hb;go_enter Tryz.func14,Tryz.ntmps14;refine sq fun K0 J0=>?_
 go_wp2_with fail
 refine J0.out _ _ ?_;clear J0;refine sq fun K1 J1=>?_
 go_wp2_with fail
 refine J1.out _ _ ?_;clear J1;obtain⟨tm,htm⟩:∃t,wrap64 (V.time+1)=t:=⟨_,rfl⟩
 first|rw[htm]|skip
 have hs1:=(Stps.refl lab w (·=4)).set H0.out.blk (by decide) H0.out.lb 20 (.int .i64 tm);have hp1:PrIs (w.setCell ⟨X.b,20,none⟩ (.int .i64 tm)) lab X x { V with time:=tm }:=H0.out.own hs1 (by have e:=HB.out.set 20 (.int .i64 tm);rw[EA.out,ED.out];exact e) rfl rfl rfl rfl rfl rfl rfl rfl H0.out.n0 H0.out.n1;have HS1:=am (hs1.mono (P':=fun i=>i≤4) (fun i e=>by omega));have H1:=am hp1;clear hs1 hp1 c0 c1 c20 cf HB htm;generalize w.setCell ⟨X.b,20,none⟩ (.int .i64 tm)=w1 at *;refine sq fun K2 J2=>?_
 go_wp2_with fail
 refine J2.out _ _ ?_;clear J2;have hb:Below w1.heap.size w1 (w1.alloc (.cells #[.bool false,.bool false,.bool false,.bool false,.bool false,.bool false,.bool false,.bool false,.bool false,.bool false,.bool false,.bool false,.bool false,.bool false,.bool false,.bool false] 83)):=qaa (Below.refl _ _) _;have RM:qac (Blk (w1.alloc (.cells #[.bool false,.bool false,.bool false,.bool false,.bool false,.bool false,.bool false,.bool false,.bool false,.bool false,.bool false,.bool false,.bool false,.bool false,.bool false,.bool false] 83)) w1.heap.size 83 (bools (List.replicate 8 false++List.replicate 8 false))):=⟨heap_alloc_new w1 _⟩;have H2:=am (H1.out.below hb 4);have HS2:=am (HS1.out.trans (Stps.below (i:=4) hb (by decide)));have LB:qac (qaj lab w1 4 w1.heap.size=4):=⟨qas (Nat.le_refl _)⟩;obtain⟨B,hB⟩:∃B,w1.heap.size=B:=⟨_,rfl⟩;rw[hB] at RM LB ⊢;obtain⟨lb,hlb⟩:∃l,qaj lab w1 4=l:=⟨_,rfl⟩;rw[hlb] at H2 HS2 LB;clear hb hB hlb;generalize (w1.alloc (.cells #[.bool false,.bool false,.bool false,.bool false,.bool false,.bool false,.bool false,.bool false,.bool false,.bool false,.bool false,.bool false,.bool false,.bool false,.bool false,.bool false] 83))=w2 at *;have HT0:qac (TkA w lab X x { V with time:=tm } n B 0 w2 lb { V with time:=tm }):=⟨HS2.out,H2.out,RM.out,LB.out,rfl,rfl,rfl,rfl,fun _=>rfl,fun _=>rfl,fun e=>absurd e (by decide),fun e=>absurd e (by decide)⟩;have c0:=H2.out.c 0 rfl;have c1:=H2.out.c 1 rfl;clear H1 HS1 H2 HS2 RM LB;refine sq fun K3 J3=>?_
 go_wp2_with fail
 clear c0 c1;go_loopw [27] (fun v27 wr=>∃i:Nat,i≤2∧v27=.int .i64 i∧qac (∃lab' V',TkA w lab X x { V with time:=tm } n B i wr lab' V')) (fun v27 _=>2-(intOf v27).toNat)
 case atStart=>exact⟨0,Nat.zero_le _,rfl,⟨_,_,HT0.out⟩⟩
 case round =>
  obtain⟨i,hi,rfl,⟨lab',V',ht⟩⟩:=hrel;clear HT0;have HT:=am ht;clear ht;obtain rfl|rfl|rfl:i=0∨i=1∨i=2:=by omega
  ·skip;simp only[show ((0:Nat):Int)=0 from rfl];obtain⟨O,vt,hpi,hpl⟩:=HT.out.is.p0;have HPI:=am hpi;have HPL:=am hpl;clear hpi hpl;have hb:=HT.out.is.blk;rw[show (Sig.Pair.mid x 0).n0=x.n0 from rfl,show (Sig.Pair.mid x 0).n1=x.n1 from rfl,EA.out,ED.out] at hb;have cf:=hb.f;have c4:=hb.c 4 rfl;have c5:=hb.c 5 rfl;have c6:=hb.c 6 rfl;have c7:=hb.c 7 rfl;have c8:=hb.c 8 rfl;have c9:=hb.c 9 rfl;have c10:=hb.c 10 rfl;have c11:=hb.c 11 rfl;have rm:=HT.out.rm.f;have hx:=qpv;clear hb;have HPB:=am (show PoB x.p0 V'.q0 n from HT.out.q0 rfl▸B0.out);have HC:=am (qfp HPI.out (show qg3 x.p0 from HPB.out.inv) (by have:=HPB.out.fails;have:=HN.out;show x.p0.x.fails≤_;omega) (by have:=T0.out;exact Nat.le_trans this (by decide)) (by have:=HPB.out.gone;have:=HN.out;omega) (by have:=HPB.out.came;have:=HN.out;omega) HPB.out.ends (by have:=HPB.out.ones;have:=HN.out;show x.p0.ear.ones≤_;omega) a0 a1 a2 a3 a4 a5 a6 a7);rw[show (Sig.Pair.mid x 0).p0=x.p0 from rfl,←EA.out] at HC
   go_wp2_with fail
   refine HC.out.mono ?_;rintro e w3 ⟨rfl,q',vt',hq1,hq2,hq3,hq4,hq5,hacc⟩;obtain⟨o0,o1,o2,o3,o4,o5,o6,o7,eo⟩:=qaw (qa7 HPB.out.inv H0.out.n0).2.2.2;rw[eo];have EO:=am eo;clear eo c4 c5 c6 c7 c8 c9 c10 c11 cf rm hx HC;have hs:=PoS.step HPI.out HPL.out hacc;have HS:=am hs.2;have IS3:=am (HT.out.is.post0 hs.2 hs.1);have RM3:=am ((hs.2.stps (P:=(·=0)) rfl).blk HT.out.rm (by rw[HT.out.lb];decide));have LB3:=am (((hs.2.stps (P:=(·=0)) rfl).lb HT.out.rm).trans HT.out.lb);have HQ:qac (q'.gone=V'.q0.gone+8∧q'.came=V'.q0.came+8∧q'.ends≤2000000000∧q'.ns≤8):=⟨⟨hq1,hq2,hq5,hq3⟩⟩;clear hs hacc hq1 hq2 hq3 hq4 hq5;obtain⟨l3,hl3⟩:∃l,qaj lab' wr 0=l:=⟨_,rfl⟩;rw[hl3] at HS IS3 LB3;clear hl3;have RMX:qac (Blk w3 B 83 [.bool false,.bool false,.bool false,.bool false,.bool false,.bool false,.bool false,.bool false,.bool false,.bool false,.bool false,.bool false,.bool false,.bool false,.bool false,.bool false]):=⟨by have e:=RM3.out;exact e⟩;have e0:=RMX.out.c 0 rfl;have e1:=RMX.out.c 1 rfl;have e2:=RMX.out.c 2 rfl;have e3:=RMX.out.c 3 rfl;have e4:=RMX.out.c 4 rfl;have e5:=RMX.out.c 5 rfl;have e6:=RMX.out.c 6 rfl;have e7:=RMX.out.c 7 rfl;have rm:=RMX.out.f;simp only[bools,List.map_cons,List.map_nil];go_wp2;have hR:=PrIs.room IS3.out RMX.out LB3.out 0 [.bool o0,.bool o1,.bool o2,.bool o3,.bool o4,.bool o5,.bool o6,.bool o7];have hRB:=((((((((RMX.out.set 0 (.bool o0)).set 1 (.bool o1)).set 2 (.bool o2)).set 3 (.bool o3)).set 4 (.bool o4)).set 5 (.bool o5)).set 6 (.bool o6)).set 7 (.bool o7));refine⟨⟨1,by omega,by first|rfl|(simp;done),⟨l3,{ V' with q0:=q' },HT.out.st.trans ((HS.out.stps (by decide)).trans (hR.2.mono (fun i e=>by omega))),hR.1,?_,LB3.out,HT.out.time,HT.out.vw,HT.out.r0,HT.out.r1,fun e=>absurd e (by decide),fun _=>HT.out.q1 (by decide),fun _=>?_,fun e=>absurd e (by decide)⟩⟩,by simp[intOf]⟩
   ·show Blk _ B 83 (bools (Sig.Pair.room x 1));have e:Sig.Pair.room x 1=[o0,o1,o2,o3,o4,o5,o6,o7,false,false,false,false,false,false,false,false]:=by unfold Sig.Pair.room;rw[EO.out];rfl
    rw[e];exact hRB
   ·exact PoB.tick HPB.out H0.out.n0 T0.out HQ.out.1 HQ.out.2.1 HQ.out.2.2.1 HQ.out.2.2.2
  ·skip;simp only[show ((1:Nat):Int)=1 from rfl];obtain⟨O,vt,hpi,hpl⟩:=HT.out.is.p1;have HPI:=am hpi;have HPL:=am hpl;clear hpi hpl;have hb:=HT.out.is.blk;rw[show (Sig.Pair.mid x 1).n0=x.n0 from rfl,show (Sig.Pair.mid x 1).n1=x.n1 from rfl,EA.out,ED.out] at hb;have cf:=hb.f;have c12:=hb.c 12 rfl;have c13:=hb.c 13 rfl;have c14:=hb.c 14 rfl;have c15:=hb.c 15 rfl;have c16:=hb.c 16 rfl;have c17:=hb.c 17 rfl;have c18:=hb.c 18 rfl;have c19:=hb.c 19 rfl;have rm:=HT.out.rm.f;have hx:=qpu;clear hb;have HPB:=am (show PoB x.p1 V'.q1 n from HT.out.q1 (Nat.le_refl _)▸B1.out);have HC:=am (qfp HPI.out (show qg3 x.p1 from HPB.out.inv) (by have:=HPB.out.fails;have:=HN.out;show x.p1.x.fails≤_;omega) (by have:=T1.out;exact Nat.le_trans this (by decide)) (by have:=HPB.out.gone;have:=HN.out;omega) (by have:=HPB.out.came;have:=HN.out;omega) HPB.out.ends (by have:=HPB.out.ones;have:=HN.out;show x.p1.ear.ones≤_;omega) d0 d1 d2 d3 d4 d5 d6 d7);rw[show (Sig.Pair.mid x 1).p1=x.p1 from rfl,←ED.out] at HC
   go_wp2_with fail
   refine HC.out.mono ?_;rintro e w3 ⟨rfl,q',vt',hq1,hq2,hq3,hq4,hq5,hacc⟩;obtain⟨o0,o1,o2,o3,o4,o5,o6,o7,eo⟩:=qaw (qa7 HPB.out.inv H0.out.n1).2.2.2;rw[eo];have EO:=am eo;clear eo c12 c13 c14 c15 c16 c17 c18 c19 cf rm hx HC;have hs:=PoS.step HPI.out HPL.out hacc;have HS:=am hs.2;have IS3:=am (HT.out.is.post1 hs.2 hs.1);have RM3:=am ((hs.2.stps (P:=(·=1)) rfl).blk HT.out.rm (by rw[HT.out.lb];decide));have LB3:=am (((hs.2.stps (P:=(·=1)) rfl).lb HT.out.rm).trans HT.out.lb);have HQ:qac (q'.gone=V'.q1.gone+8∧q'.came=V'.q1.came+8∧q'.ends≤2000000000∧q'.ns≤8):=⟨⟨hq1,hq2,hq5,hq3⟩⟩;clear hs hacc hq1 hq2 hq3 hq4 hq5;obtain⟨l3,hl3⟩:∃l,qaj lab' wr 1=l:=⟨_,rfl⟩;rw[hl3] at HS IS3 LB3;clear hl3;obtain⟨p0,p1,p2,p3,p4,p5,p6,p7,ep⟩:=qaw (qa7 B0.out.inv H0.out.n0).2.2.2;have EP:=am ep;have RMX:qac (Blk w3 B 83 [.bool p0,.bool p1,.bool p2,.bool p3,.bool p4,.bool p5,.bool p6,.bool p7,.bool false,.bool false,.bool false,.bool false,.bool false,.bool false,.bool false,.bool false]):=⟨by have e:=RM3.out;unfold Sig.Pair.room at e;simp only at e;rw[ep] at e;exact e⟩;clear ep;have e0:=RMX.out.c 8 rfl;have e1:=RMX.out.c 9 rfl;have e2:=RMX.out.c 10 rfl;have e3:=RMX.out.c 11 rfl;have e4:=RMX.out.c 12 rfl;have e5:=RMX.out.c 13 rfl;have e6:=RMX.out.c 14 rfl;have e7:=RMX.out.c 15 rfl;have rm:=RMX.out.f;simp only[bools,List.map_cons,List.map_nil];go_wp2;have hR:=PrIs.room IS3.out RMX.out LB3.out 8 [.bool o0,.bool o1,.bool o2,.bool o3,.bool o4,.bool o5,.bool o6,.bool o7];have hRB:=((((((((RMX.out.set 8 (.bool o0)).set 9 (.bool o1)).set 10 (.bool o2)).set 11 (.bool o3)).set 12 (.bool o4)).set 13 (.bool o5)).set 14 (.bool o6)).set 15 (.bool o7));refine⟨⟨2,by omega,by first|rfl|(simp;done),⟨l3,{ V' with q1:=q' },HT.out.st.trans ((HS.out.stps (by decide)).trans (hR.2.mono (fun i e=>by omega))),hR.1,?_,LB3.out,HT.out.time,HT.out.vw,HT.out.r0,HT.out.r1,fun e=>absurd e (by decide),fun e=>absurd e (by decide),fun _=>HT.out.b0 (by decide),fun _=>?_⟩⟩,by simp[intOf]⟩
   ·show Blk _ B 83 (bools (Sig.Pair.room x 2));have e:Sig.Pair.room x 2=[p0,p1,p2,p3,p4,p5,p6,p7,o0,o1,o2,o3,o4,o5,o6,o7]:=by unfold Sig.Pair.room;rw[EP.out];rw[EO.out];rfl
    rw[e];exact hRB
   ·exact PoB.tick HPB.out H0.out.n1 T1.out HQ.out.1 HQ.out.2.1 HQ.out.2.2.1 HQ.out.2.2.2
  ·skip;simp only[show ((2:Nat):Int)=2 from rfl];have b1:decide ((2:Int)<2)=false:=by decide
   go_wp2_with fail
   refine J3.out _ _ ?_;clear J3 b1;have hB0:TkB w lab X x { V with time:=tm } n B 0 0 wr lab' V':=⟨HT.out.st,by rw[qvg];exact HT.out.is,HT.out.rm,HT.out.lb,HT.out.time,HT.out.vw,HT.out.b0 (by decide),HT.out.b1 (by decide),by rw[HT.out.r0];exact Nat.le_refl _,by rw[HT.out.r1];exact Nat.le_refl _⟩;have HB0:=am hB0;clear hB0;have c2:=HB0.out.is.c 2 rfl;have c3:=HB0.out.is.c 3 rfl;refine sq fun K8 J8=>?_
   go_wp2_with fail
   clear c2 c3 HT;go_loopw [46] (fun v46 wr=>∃i:Nat,i≤2∧v46=.int .i64 i∧qac (∃lab' V',TkB w lab X x { V with time:=tm } n B (if i=2 then 1 else i) (if i=2 then 8 else 0) wr lab' V')) (fun v46 _=>2-(intOf v46).toNat)
   case atStart=>exact⟨0,Nat.zero_le _,rfl,⟨_,_,HB0.out⟩⟩
   case round =>
    obtain⟨i,hi,rfl,⟨lab2,V2,ht⟩⟩:=hrel;clear HB0;have HT:=am ht;clear ht;obtain rfl|rfl|rfl:i=0∨i=1∨i=2:=by omega
    ·skip;simp only[show ((0:Nat):Int)=0 from rfl];have HS:qac (TkB w lab X x { V with time:=tm } n B 0 0 wr lab2 V2):=⟨HT.out⟩;clear HT;obtain⟨o0,o1,o2,o3,o4,o5,o6,o7,ep0⟩:=qaw (qa7 B0.out.inv H0.out.n0).2.2.2;have EP0:=am ep0;obtain⟨z0,z1,z2,z3,z4,z5,z6,z7,ep1⟩:=qaw (qa7 B1.out.inv H0.out.n1).2.2.2;have EP1:=am ep1;have RMX:qac (Blk wr B 83 [.bool o0,.bool o1,.bool o2,.bool o3,.bool o4,.bool o5,.bool o6,.bool o7,.bool z0,.bool z1,.bool z2,.bool z3,.bool z4,.bool z5,.bool z6,.bool z7]):=⟨by have e:=HS.out.rm;unfold Sig.Pair.room at e;simp only at e;rw[ep0,ep1] at e;exact e⟩;clear ep0 ep1;have e0:=RMX.out.c 0 rfl;have e1:=RMX.out.c 1 rfl;have e2:=RMX.out.c 2 rfl;have e3:=RMX.out.c 3 rfl;have e4:=RMX.out.c 4 rfl;have e5:=RMX.out.c 5 rfl;have e6:=RMX.out.c 6 rfl;have e7:=RMX.out.c 7 rfl;have hx:=qt4;skip
     go_wp2_with fail
     clear hx e0 e1 e2 e3 e4 e5 e6 e7;go_loopw [53] (fun v53 wr=>∃k:Nat,k≤8∧v53=.int .i64 k∧qac (∃lab' V',TkB w lab X x { V with time:=tm } n B 0 k wr lab' V')) (fun v53 _=>8-(intOf v53).toNat)
     case atStart=>exact⟨0,Nat.zero_le _,rfl,⟨_,_,HS.out⟩⟩
     case round =>
      obtain⟨k,hk,rfl,⟨lab3,V3,ht⟩⟩:=hrel;clear HS RMX;have HT0:=am ht;clear ht;by_cases hlt:k<8
      ·have HLT:=am hlt;have HT:=am HT0.out.drew;clear HT0;obtain⟨outs,hin⟩:∃l,[o0,o1,o2,o3,o4,o5,o6,o7]=l:=⟨_,rfl⟩;obtain⟨on,hon⟩:∃b,outs[k]?=some b:=⟨outs[k]'(by rw[←hin];exact hlt),List.getElem?_eq_getElem _⟩;have hx:=qpt o0 o1 o2 o3 o4 o5 o6 o7 hin hlt hon;have hst:outs.take (k+1)=outs.take k++[on]:=by rw[List.take_add_one,hon];rfl
       have HST:=am hst;have HOUT:qac ((x.p0.tick x.n0).2=outs):=⟨EP0.out.trans hin⟩;have hlo:(outs.take k).length=k:=by rw[List.length_take,←hin];simp only[List.length_cons,List.length_nil];omega
       have HLO:=am hlo;clear hst hlo hin hon;obtain⟨O,hw,hl⟩:=HT.out.is.w0;have hkp:=qco (outs.take k) x.w0;have hwe:(Sig.Pair.midk x 0 k).w0=(x.w0.passes (outs.take k)).1:=by rw[←HOUT.out];exact qmo x k
       rw[hwe] at hw;obtain⟨⟨y,ys⟩,hy⟩:∃p,x.w0.passes (outs.take k)=p:=⟨_,rfl⟩;rw[hy] at hw hkp;have HY:=am hy;have HKP:=am hkp;have HW:=am hw;have HL:=am hl;clear hy hkp hw hl hwe;have b1:decide ((k:Int)<8)=true:=decide_eq_true (by omega);have p1:=eq_true (show 0≤(k:Int) by omega);have p2:=eq_true (show (k:Int)<8 by omega)
       go_wp2_with fail
       have ww:wrap64 1=1:=by unfold wrap64;decide
       refine sr 12 (fun _=>True) [] trivial (fun hY=>?_);refine pu 0 57 ?_;refine pu 1 58 ?_;refine pu 2 59 ?_;refine pu 3 60 ?_;refine pu 4 61 ?_;refine pu 5 62 ?_;refine pu 7 64 ?_;refine pu 8 65 ?_;refine pu 9 66 ?_;refine on_ 6 63 (fun K hK=>?_);refine gs Tryz.func32 #[.pointer (some ⟨X.h0,0,none⟩),.bool on] ?_
       with_reducible refine(qhm HW.out (by have:=(show V3.r0.bent≤V.r0.bent+2*(8*0+k) from HT.out.r0);have:=C0.out.bent;have:=HN.out;have:=HLT.out;omega) (by have:=HKP.out.2.2.1;have:=C0.out.ones;omega) (by have:=HKP.out.2.1;have:=C0.out.l;omega) on).mono ?_
       rintro e w3 ⟨rfl,r',hqb,hqg,hpi,hpo⟩;refine⟨_,rfl,?_⟩;have hs:=WrS.pass HW.out HL.out hpi hpo;have IS3:=am (HT.out.is.wire0 hs.2 hs.1);have ST3:=am (HT.out.st.trans (hs.2.stps (P:=fun i=>i≤4) (by decide)));have RM3:=am ((hs.2.stps (P:=(·=2)) rfl).blk HT.out.rm (by rw[HT.out.lb];decide));have LB3:=am (((hs.2.stps (P:=(·=2)) rfl).lb HT.out.rm).trans HT.out.lb);have HR:=am hqb;clear hs hpi hpo hqb;have hbk:=IS3.out.blk;obtain⟨vv,hvv⟩:=qka X _ _ V3.time V3.vw IS3.out.n0 IS3.out.n1 HLT.out;have kc:=hbk.c (12+k) hvv;have kf:=hbk.f (12+k);clear hvv hbk;refine hK.out _ _ trivial (fun hY=>?_);clear hK K;refine nm 63 ?_;refine pu 10 67 ?_;refine onN 11 (fun K hK=>?_);refine sk ?_;refine hK.out _ _ trivial (fun hY=>?_);clear hK K;refine qav (by kernel_rfl) ?_
       go_wp2_with fail
       have hwq:(Sig.Pair.midk x 0 (k+1)).w0=(y.pass on).1:=by rw[qmo,HOUT.out,HST.out,qc4,HY.out]
       have hnq:(Sig.Pair.midk x 0 (k+1)).n1=(Sig.Pair.midk x 0 k).n1.set k (y.pass on).2:=by
        rw[qmp,qmp,HOUT.out,HST.out,qc4,HY.out];exact(qmk H0.out.n1 (HKP.out.1.trans HLO.out) HLT.out _).symm
       have hlen:(Sig.Pair.midk x 0 (k+1)).n1.length=8:=by rw[hnq,List.length_set];exact IS3.out.n1
       have hs1:=(Stps.refl (qaj lab3 wr.drew 2) w3 (·=4)).set IS3.out.blk (by decide) IS3.out.lb (12+k) (.bool (y.pass on).2);have hkw:=(qrr x (k+1) k);have hkn:=(qrs x (k+1) k);have hpp:=qsn x 0 (k+1) k;have hxx:=IS3.out;have hz0:=hxx.n0;have hz1:=hxx.n1;obtain⟨xn,hxn⟩:∃z,Sig.Pair.midk x 0 (k+1)=z:=⟨_,rfl⟩;rw[hxn] at hwq hnq hlen hkw hkn hpp;have hp1:PrIs (w3.setCell ⟨X.b,12+k,none⟩ (.bool (y.pass on).2)) (qaj lab3 wr.drew 2) X xn { V3 with r0:=r' }:=by
        have e:=hxx.blk.set (12+k) (.bool (y.pass on).2);rw[qj8 X _ _ _ _ hz0 hz1 HLT.out] at e;generalize Sig.Pair.midk x 0 k=xo at *;refine hxx.own hs1 ?_ hpp.1 hpp.2 hwq hkw rfl rfl rfl rfl (by rw[hkn];exact hz0) hlen;rw[hnq,hkn];exact e
       have hrm:Blk (w3.setCell ⟨X.b,12+k,none⟩ (.bool (y.pass on).2)) B 83 (bools (Sig.Pair.room x 2)):=RM3.out.far (RM3.out.ne IS3.out.blk (by decide)) _;refine⟨⟨k+1,by have:=HLT.out;omega,by first|rfl|(simp;done),⟨_,{ V3 with r0:=r' },ST3.out.trans (hs1.mono (fun i e=>by omega)),by rw[hxn];exact hp1,hrm,LB3.out,HT.out.time,HT.out.vw,HT.out.b0,HT.out.b1,?_,?_⟩⟩,(by have:=HLT.out;simp[intOf];omega)⟩
       ·show r'.bent≤V.r0.bent+2*(8*0+(k+1));have:=HR.out;have:=(show V3.r0.bent≤V.r0.bent+2*(8*0+k) from HT.out.r0);omega
       ·show V3.r1.bent≤V.r1.bent+2*(8*0+(k+1));have:=(show V3.r1.bent≤V.r1.bent+2*(8*0+k) from HT.out.r1);omega
      ·obtain rfl:k=8:=by omega
       simp only[show ((8:Nat):Int)=8 from rfl];have b1:decide ((8:Int)<8)=false:=by decide
       go_wp2;exact⟨⟨1,by omega,by first|rfl|(simp;done),⟨lab3,V3,HT0.out.up H0.out.n0⟩⟩,by simp[intOf]⟩
    ·skip;simp only[show ((1:Nat):Int)=1 from rfl];have HS:qac (TkB w lab X x { V with time:=tm } n B 1 0 wr lab2 V2):=⟨HT.out⟩;clear HT;obtain⟨z0,z1,z2,z3,z4,z5,z6,z7,ep0⟩:=qaw (qa7 B0.out.inv H0.out.n0).2.2.2;have EP0:=am ep0;obtain⟨o0,o1,o2,o3,o4,o5,o6,o7,ep1⟩:=qaw (qa7 B1.out.inv H0.out.n1).2.2.2;have EP1:=am ep1;have RMX:qac (Blk wr B 83 [.bool z0,.bool z1,.bool z2,.bool z3,.bool z4,.bool z5,.bool z6,.bool z7,.bool o0,.bool o1,.bool o2,.bool o3,.bool o4,.bool o5,.bool o6,.bool o7]):=⟨by have e:=HS.out.rm;unfold Sig.Pair.room at e;simp only at e;rw[ep0,ep1] at e;exact e⟩;clear ep0 ep1;have e0:=RMX.out.c 8 rfl;have e1:=RMX.out.c 9 rfl;have e2:=RMX.out.c 10 rfl;have e3:=RMX.out.c 11 rfl;have e4:=RMX.out.c 12 rfl;have e5:=RMX.out.c 13 rfl;have e6:=RMX.out.c 14 rfl;have e7:=RMX.out.c 15 rfl;have hx:=qt3;skip
     go_wp2_with fail
     clear hx e0 e1 e2 e3 e4 e5 e6 e7;go_loopw [53] (fun v53 wr=>∃k:Nat,k≤8∧v53=.int .i64 k∧qac (∃lab' V',TkB w lab X x { V with time:=tm } n B 1 k wr lab' V')) (fun v53 _=>8-(intOf v53).toNat)
     case atStart=>exact⟨0,Nat.zero_le _,rfl,⟨_,_,HS.out⟩⟩
     case round =>
      obtain⟨k,hk,rfl,⟨lab3,V3,ht⟩⟩:=hrel;clear HS RMX;have HT0:=am ht;clear ht;by_cases hlt:k<8
      ·have HLT:=am hlt;have HT:=am HT0.out.drew;clear HT0;obtain⟨outs,hin⟩:∃l,[o0,o1,o2,o3,o4,o5,o6,o7]=l:=⟨_,rfl⟩;obtain⟨on,hon⟩:∃b,outs[k]?=some b:=⟨outs[k]'(by rw[←hin];exact hlt),List.getElem?_eq_getElem _⟩;have hx:=qpt o0 o1 o2 o3 o4 o5 o6 o7 hin hlt hon;have hst:outs.take (k+1)=outs.take k++[on]:=by rw[List.take_add_one,hon];rfl
       have HST:=am hst;have HOUT:qac ((x.p1.tick x.n1).2=outs):=⟨EP1.out.trans hin⟩;have hlo:(outs.take k).length=k:=by rw[List.length_take,←hin];simp only[List.length_cons,List.length_nil];omega
       have HLO:=am hlo;clear hst hlo hin hon;obtain⟨O,hw,hl⟩:=HT.out.is.w1;have hkp:=qco (outs.take k) x.w1;have hwe:(Sig.Pair.midk x 1 k).w1=(x.w1.passes (outs.take k)).1:=by rw[←HOUT.out];exact qi4 x k
       rw[hwe] at hw;obtain⟨⟨y,ys⟩,hy⟩:∃p,x.w1.passes (outs.take k)=p:=⟨_,rfl⟩;rw[hy] at hw hkp;have HY:=am hy;have HKP:=am hkp;have HW:=am hw;have HL:=am hl;clear hy hkp hw hl hwe;have b1:decide ((k:Int)<8)=true:=decide_eq_true (by omega);have p1:=eq_true (show 0≤(k:Int) by omega);have p2:=eq_true (show (k:Int)<8 by omega)
       go_wp2_with fail
       have ww:wrap64 0=0:=by unfold wrap64;decide
       refine sr 12 (fun _=>True) [] trivial (fun hY=>?_);refine pu 0 57 ?_;refine pu 1 58 ?_;refine pu 2 59 ?_;refine pu 3 60 ?_;refine pu 4 61 ?_;refine pu 5 62 ?_;refine pu 7 64 ?_;refine pu 8 65 ?_;refine pu 9 66 ?_;refine on_ 6 63 (fun K hK=>?_);refine gs Tryz.func32 #[.pointer (some ⟨X.h1,0,none⟩),.bool on] ?_
       with_reducible refine(qhm HW.out (by have:=(show V3.r1.bent≤V.r1.bent+2*(8*1+k) from HT.out.r1);have:=C1.out.bent;have:=HN.out;have:=HLT.out;omega) (by have:=HKP.out.2.2.1;have:=C1.out.ones;omega) (by have:=HKP.out.2.1;have:=C1.out.l;omega) on).mono ?_
       rintro e w3 ⟨rfl,r',hqb,hqg,hpi,hpo⟩;refine⟨_,rfl,?_⟩;have hs:=WrS.pass HW.out HL.out hpi hpo;have IS3:=am (HT.out.is.wire1 hs.2 hs.1);have ST3:=am (HT.out.st.trans (hs.2.stps (P:=fun i=>i≤4) (by decide)));have RM3:=am ((hs.2.stps (P:=(·=3)) rfl).blk HT.out.rm (by rw[HT.out.lb];decide));have LB3:=am (((hs.2.stps (P:=(·=3)) rfl).lb HT.out.rm).trans HT.out.lb);have HR:=am hqb;clear hs hpi hpo hqb;have hbk:=IS3.out.blk;obtain⟨vv,hvv⟩:=qkb X _ _ V3.time V3.vw IS3.out.n0 IS3.out.n1 HLT.out;have kc:=hbk.c (4+k) hvv;have kf:=hbk.f (4+k);clear hvv hbk;refine hK.out _ _ trivial (fun hY=>?_);clear hK K;refine nm 63 ?_;refine pu 10 67 ?_;refine onN 11 (fun K hK=>?_);refine sk ?_;refine hK.out _ _ trivial (fun hY=>?_);clear hK K;refine qav (by kernel_rfl) ?_
       go_wp2_with fail
       have hwq:(Sig.Pair.midk x 1 (k+1)).w1=(y.pass on).1:=by rw[qi4,HOUT.out,HST.out,qc4,HY.out]
       have hnq:(Sig.Pair.midk x 1 (k+1)).n0=(Sig.Pair.midk x 1 k).n0.set k (y.pass on).2:=by
        rw[qi5,qi5,HOUT.out,HST.out,qc4,HY.out];exact(qmk H0.out.n0 (HKP.out.1.trans HLO.out) HLT.out _).symm
       have hlen:(Sig.Pair.midk x 1 (k+1)).n0.length=8:=by rw[hnq,List.length_set];exact IS3.out.n0
       have hs1:=(Stps.refl (qaj lab3 wr.drew 3) w3 (·=4)).set IS3.out.blk (by decide) IS3.out.lb (4+k) (.bool (y.pass on).2);have hkw:=(qti x (k+1) k);have hkn:=(qtk x (k+1) k);have hpp:=qsn x 1 (k+1) k;have hxx:=IS3.out;have hz0:=hxx.n0;have hz1:=hxx.n1;obtain⟨xn,hxn⟩:∃z,Sig.Pair.midk x 1 (k+1)=z:=⟨_,rfl⟩;rw[hxn] at hwq hnq hlen hkw hkn hpp;have hp1:PrIs (w3.setCell ⟨X.b,4+k,none⟩ (.bool (y.pass on).2)) (qaj lab3 wr.drew 3) X xn { V3 with r1:=r' }:=by
        have e:=hxx.blk.set (4+k) (.bool (y.pass on).2);rw[qj9 X _ _ _ _ hz0 hz1 HLT.out] at e;generalize Sig.Pair.midk x 1 k=xo at *;refine hxx.own hs1 ?_ hpp.1 hpp.2 hkw hwq rfl rfl rfl rfl hlen (by rw[hkn];exact hz1);rw[hnq,hkn];exact e
       have hrm:Blk (w3.setCell ⟨X.b,4+k,none⟩ (.bool (y.pass on).2)) B 83 (bools (Sig.Pair.room x 2)):=RM3.out.far (RM3.out.ne IS3.out.blk (by decide)) _;refine⟨⟨k+1,by have:=HLT.out;omega,by first|rfl|(simp;done),⟨_,{ V3 with r1:=r' },ST3.out.trans (hs1.mono (fun i e=>by omega)),by rw[hxn];exact hp1,hrm,LB3.out,HT.out.time,HT.out.vw,HT.out.b0,HT.out.b1,?_,?_⟩⟩,(by have:=HLT.out;simp[intOf];omega)⟩
       ·show V3.r0.bent≤V.r0.bent+2*(8*1+(k+1));have:=(show V3.r0.bent≤V.r0.bent+2*(8*1+k) from HT.out.r0);omega
       ·show r'.bent≤V.r1.bent+2*(8*1+(k+1));have:=HR.out;have:=(show V3.r1.bent≤V.r1.bent+2*(8*1+k) from HT.out.r1);omega
      ·obtain rfl:k=8:=by omega
       simp only[show ((8:Nat):Int)=8 from rfl];have b1:decide ((8:Int)<8)=false:=by decide
       go_wp2;exact⟨⟨2,by omega,by first|rfl|(simp;done),⟨lab3,V3,HT0.out⟩⟩,by simp[intOf]⟩
    ·simp only[show ((2:Nat):Int)=2 from rfl];have hB2:TkB w lab X x { V with time:=tm } n B 1 8 wr lab2 V2:=HT.out;have b1:decide ((2:Int)<2)=false:=by decide
     go_wp2_with fail
     refine J8.out _ _ ?_;clear J8 b1;have kp0:=qa7 B0.out.inv H0.out.n0;have kp1:=qa7 B1.out.inv H0.out.n1;obtain⟨y,hy,y0,y1,y2,y3,y4,y5⟩:=hB2.fin H0.out.n0 H0.out.n1 kp0.2.2.2 kp1.2.2.2;have hst:=hB2.st;have HC0:=am (show TkC w lab X y V2 us K 0 wr lab2 from ⟨hst.mono (fun i e=>by omega),hy,by rw[hB2.vw];exact RW.out.stps hst (by decide),SK.out.far KK.out hst⟩);have hv2:=hB2.vw;have HVW:=am hv2;have HEND:qac (PoB (x.p0.tick x.n0).1 V2.q0 (n+1)∧PoB (x.p1.tick x.n1).1 V2.q1 (n+1)∧V2.r0.bent≤V.r0.bent+32∧V2.r1.bent≤V.r1.bent+32):=⟨⟨hB2.b0,hB2.b1,hB2.r0,hB2.r1⟩⟩;have HY:qac (y.p0=(x.p0.tick x.n0).1∧y.p1=(x.p1.tick x.n1).1∧y.w0=(x.w0.passes (x.p0.tick x.n0).2).1∧y.w1=(x.w1.passes (x.p1.tick x.n1).2).1∧y.n0=(x.w1.passes (x.p1.tick x.n1).2).2∧y.n1=(x.w0.passes (x.p0.tick x.n0).2).2):=⟨y0,y1,y2,y3,y4,y5⟩;clear HT hB2 kp0 kp1 hy y0 y1 y2 y3 y4 y5 hst hv2;have c0:=HC0.out.is.c 0 rfl;have c1:=HC0.out.is.c 1 rfl
     go_wp2_with fail
     clear c0 c1;go_loopw [74] (fun v74 wr=>∃i:Nat,i≤2∧v74=.int .i64 i∧qac (∃lab',TkC w lab X y V2 us K i wr lab')) (fun v74 _=>2-(intOf v74).toNat)
     case atStart=>exact⟨0,Nat.zero_le _,rfl,⟨_,HC0.out⟩⟩
     case round =>
      obtain⟨i,hi,rfl,⟨lab3,ht⟩⟩:=hrel;clear HC0;have HT:=am ht;clear ht;obtain rfl|rfl|rfl:i=0∨i=1∨i=2:=by omega
      ·skip;simp only[show ((0:Nat):Int)=0 from rfl];obtain⟨O,vt,hpi,hpl⟩:=HT.out.is.p0;have HPI:=am hpi;have HPL:=am hpl;clear hpi hpl;have hx:=qpv
       go_wp2_with fail
       refine(qfo HPI.out).mono ?_;rintro e w4 ⟨rfl,hR,vt',hacc⟩;have hs:=PoS.step HPI.out HPL.out hacc;have hs':=hs.2.stps (P:=(·=0)) rfl;have hnew:∀k,qbe O wr w4 k→qaj lab3 wr 0 k=0:=fun k hk=>by
        rcases hk with hk|hk
        ·rw[qa1 (HPI.out.lt k (Or.inr (Or.inr (Or.inr (Or.inr hk)))))];exact HPL.out k (Or.inr (Or.inr (Or.inr (Or.inr hk))))
        ·exact qas hk.1
       have htd:=(qsj hR).mono (fun k hk _=>hnew k hk);obtain⟨At,ct,htv⟩:=Kd.R_slice hR;have HD:qac (TkD w lab X y V2 us K 0 0 vt y.p0.x.told w4 (qaj lab3 wr 0)):=⟨⟨HT.out.st.trans (hs'.mono (fun i e=>by omega)),HT.out.is.post0 hs.2 hs.1,HT.out.row.stps hs' (by decide),SK.out.far HT.out.k (hs'.mono (fun k e=>by omega)),htd⟩⟩;obtain⟨lab4,hl4⟩:∃l,qaj lab3 wr 0=l:=⟨_,rfl⟩;rw[hl4] at HD;clear hl4 hnew htd hR hacc hs hs' HPI HPL HT hx;obtain⟨Av,nv,ev,-,-,-⟩:=HD.out.row.slice;have c21:=HD.out.is.c 21 (qb1 X HD.out.is.n0 HD.out.is.n1 V2.time V2.vw .nilIface).1;rw[ev] at c21;subst htv
       go_wp2_with fail
       clear c21;go_loopw [85] (fun v85 wr=>∃j:Nat,j≤us.length∧v85=.int .i64 j∧qac (∃lab',TkD w lab X y V2 us K 0 j (.slice At y.p0.x.told.length ct) y.p0.x.told wr lab')) (fun v85 _=>us.length-(intOf v85).toNat)
       case atStart=>exact⟨0,Nat.zero_le _,rfl,⟨_,HD.out⟩⟩
       case round =>
        obtain⟨j,hj,rfl,⟨lab5,hd⟩⟩:=hrel;clear HD;have HD:=am hd;clear hd;by_cases hlt:j<us.length
        ·have HLT:=am hlt;have hy0:y.p0.x.told=(x.p0.tick x.n0).1.x.told:=by rw[HY.out.1]
         obtain⟨ty,ad,f,hus,hm,hc,hcall⟩:=SK.out.call (by decide) hlt HD.out.k HD.out.is.p0 HEND.out.1.ns HD.out.td (fun _=>hy0) (fun e=>absurd e (by decide));obtain⟨gr,off,cr,er,hcr,hcell⟩:=HD.out.row.get j hus;have b1:decide ((j:Int)<(us.length:Int))=true:=decide_eq_true (by omega);have p1:=eq_true (show 0≤(j:Int) by omega);have p2:=eq_true (show (j:Int)<(us.length:Int) by omega);have HCALL:=am hcall;rw[ev] at er;have er':=(Value.slice.inj er).1;subst er';clear hcall hus er hcr hlt
         go_wp2_with fail
         refine HCALL.out.mono ?_;rintro e w5 ⟨rfl,lab6,hs6,hk6⟩;clear HCALL hm hc hcell;have hsS:=HD.out.st.trans (hs6.mono (P':=fun i=>i≤4∨8≤i) (fun i e=>by omega));have HD2:qac (TkD w lab X y V2 us K 0 (j+1) (.slice At y.p0.x.told.length ct) y.p0.x.told w5 lab6):=⟨⟨hsS,HD.out.is.far hs6 (fun i e=>by omega),HD.out.row.stps hs6 (by decide),hk6,HD.out.td.stps hs6 (by decide)⟩⟩;clear hs6 hk6 hsS;have ew:wrap64 ((j:Int)+1)=((j+1:Nat):Int):=by have:=HU.out;have:=HLT.out;unfold wrap64;omega
         go_wp2;exact⟨⟨j+1,by have:=HLT.out;omega,by first|rfl|(simp[ew];done)|(rw[ew];done),⟨_,HD2.out⟩⟩,by have:=HLT.out;(try rw[ew]);simp[intOf];omega⟩
        ·obtain rfl:j=us.length:=by omega
         have b1:decide ((us.length:Int)<(us.length:Int))=false:=decide_eq_false (by omega);go_wp2;exact⟨⟨1,by omega,by first|rfl|(simp;done),⟨lab5,HD.out.st,HD.out.is,HD.out.row,SK.out.side HD.out.k⟩⟩,by simp[intOf]⟩
      ·skip;simp only[show ((1:Nat):Int)=1 from rfl];obtain⟨O,vt,hpi,hpl⟩:=HT.out.is.p1;have HPI:=am hpi;have HPL:=am hpl;clear hpi hpl;have hx:=qpu
       go_wp2_with fail
       refine(qfo HPI.out).mono ?_;rintro e w4 ⟨rfl,hR,vt',hacc⟩;have hs:=PoS.step HPI.out HPL.out hacc;have hs':=hs.2.stps (P:=(·=1)) rfl;have hnew:∀k,qbe O wr w4 k→qaj lab3 wr 1 k=1:=fun k hk=>by
        rcases hk with hk|hk
        ·rw[qa1 (HPI.out.lt k (Or.inr (Or.inr (Or.inr (Or.inr hk)))))];exact HPL.out k (Or.inr (Or.inr (Or.inr (Or.inr hk))))
        ·exact qas hk.1
       have htd:=(qsj hR).mono (fun k hk _=>hnew k hk);obtain⟨At,ct,htv⟩:=Kd.R_slice hR;have HD:qac (TkD w lab X y V2 us K 1 0 vt y.p1.x.told w4 (qaj lab3 wr 1)):=⟨⟨HT.out.st.trans (hs'.mono (fun i e=>by omega)),HT.out.is.post1 hs.2 hs.1,HT.out.row.stps hs' (by decide),SK.out.far HT.out.k (hs'.mono (fun k e=>by omega)),htd⟩⟩;obtain⟨lab4,hl4⟩:∃l,qaj lab3 wr 1=l:=⟨_,rfl⟩;rw[hl4] at HD;clear hl4 hnew htd hR hacc hs hs' HPI HPL HT hx;obtain⟨Av,nv,ev,-,-,-⟩:=HD.out.row.slice;have c21:=HD.out.is.c 21 (qb1 X HD.out.is.n0 HD.out.is.n1 V2.time V2.vw .nilIface).1;rw[ev] at c21;subst htv
       go_wp2_with fail
       clear c21;go_loopw [85] (fun v85 wr=>∃j:Nat,j≤us.length∧v85=.int .i64 j∧qac (∃lab',TkD w lab X y V2 us K 1 j (.slice At y.p1.x.told.length ct) y.p1.x.told wr lab')) (fun v85 _=>us.length-(intOf v85).toNat)
       case atStart=>exact⟨0,Nat.zero_le _,rfl,⟨_,HD.out⟩⟩
       case round =>
        obtain⟨j,hj,rfl,⟨lab5,hd⟩⟩:=hrel;clear HD;have HD:=am hd;clear hd;by_cases hlt:j<us.length
        ·have HLT:=am hlt;have hy1:y.p1.x.told=(x.p1.tick x.n1).1.x.told:=by rw[HY.out.2.1]
         obtain⟨ty,ad,f,hus,hm,hc,hcall⟩:=SK.out.call (by decide) hlt HD.out.k HD.out.is.p1 HEND.out.2.1.ns HD.out.td (fun e=>absurd e (by decide)) (fun _=>hy1);obtain⟨gr,off,cr,er,hcr,hcell⟩:=HD.out.row.get j hus;have b1:decide ((j:Int)<(us.length:Int))=true:=decide_eq_true (by omega);have p1:=eq_true (show 0≤(j:Int) by omega);have p2:=eq_true (show (j:Int)<(us.length:Int) by omega);have HCALL:=am hcall;rw[ev] at er;have er':=(Value.slice.inj er).1;subst er';clear hcall hus er hcr hlt
         go_wp2_with fail
         refine HCALL.out.mono ?_;rintro e w5 ⟨rfl,lab6,hs6,hk6⟩;clear HCALL hm hc hcell;have hsS:=HD.out.st.trans (hs6.mono (P':=fun i=>i≤4∨8≤i) (fun i e=>by omega));have HD2:qac (TkD w lab X y V2 us K 1 (j+1) (.slice At y.p1.x.told.length ct) y.p1.x.told w5 lab6):=⟨⟨hsS,HD.out.is.far hs6 (fun i e=>by omega),HD.out.row.stps hs6 (by decide),hk6,HD.out.td.stps hs6 (by decide)⟩⟩;clear hs6 hk6 hsS;have ew:wrap64 ((j:Int)+1)=((j+1:Nat):Int):=by have:=HU.out;have:=HLT.out;unfold wrap64;omega
         go_wp2;exact⟨⟨j+1,by have:=HLT.out;omega,by first|rfl|(simp[ew];done)|(rw[ew];done),⟨_,HD2.out⟩⟩,by have:=HLT.out;(try rw[ew]);simp[intOf];omega⟩
        ·obtain rfl:j=us.length:=by omega
         have b1:decide ((us.length:Int)<(us.length:Int))=false:=decide_eq_false (by omega);go_wp2;exact⟨⟨2,by omega,by first|rfl|(simp;done),⟨lab5,HD.out.st,HD.out.is,HD.out.row,HD.out.k⟩⟩,by simp[intOf]⟩
      ·simp only[show ((2:Nat):Int)=2 from rfl];have b1:decide ((2:Int)<2)=false:=by decide
       go_wp2_with fail
       first|go_end0|refine bodyPost_ret (v:=.tuple #[]) (by simp[results,Tryz.results14,go_sem]) rfl ?_
       refine⟨rfl,lab3,V2,HT.out.st,?_,HT.out.row,?_⟩
       ·have h:=HT.out.is;rw[tick_of];obtain⟨z0,z1,z2,z3,z4,z5⟩:=HY.out;generalize x.p0.tick x.n0=a at *;generalize x.p1.tick x.n1=b at *;exact qli h (by show ({ a.1 with x:={ a.1.x with told:=[] } }:Sig.Post)={ y.p0 with x:={ y.p0.x with told:=[] } };rw[z0]) (by show ({ b.1 with x:={ b.1.x with told:=[] } }:Sig.Post)={ y.p1 with x:={ y.p1.x with told:=[] } };rw[z1]) z2.symm z3.symm z4.symm z5.symm
       have hend:=HEND.out;have w0:=qco (x.p0.tick x.n0).2 x.w0;have w1:=qco (x.p1.tick x.n1).2 x.w1;have hk:=HT.out.k;have k0:=C0.out;have k1:=C1.out;rw[tick_of];generalize x.p0.tick x.n0=a at *;generalize x.p1.tick x.n1=b at *;exact⟨hend.1.quiet,hend.2.1.quiet,rfl,rfl,⟨Nat.le_trans (Nat.le_of_eq w0.2.1) k0.l,Nat.le_trans w0.2.2.1 k0.ones,Nat.le_trans w0.2.2.2 k0.mask,by have:=k0.bent;have:=hend.2.2.1;omega⟩,⟨Nat.le_trans (Nat.le_of_eq w1.2.1) k1.l,Nat.le_trans w1.2.2.1 k1.ones,Nat.le_trans w1.2.2.2 k1.mask,by have:=k1.bent;have:=hend.2.2.2;omega⟩,hk⟩
theorem below_then {B:Nat} {w w1 w2:World} (h:Below B w w1) (hB:w.heap.size=B) (ho:Only (fun k=>B≤k) w1 w2):Below B w w2 :=
 h.trans ⟨ho.os,ho.tape,ho.output,ho.size,fun k hk=>ho.block k (by have:=h.size;omega) (fun e=>by omega)⟩
theorem qf5 (cyc:Bool) (w:World) :
  Calls Tryz.prog 7 #[.bool cyc] w fun e w'=>e=.returned (setA cyc 600 12000 8000 4000 1200 100 4000 6000)∧Below w.heap.size w w':=by
 unfold setA;go_enter Tryz.func7,Tryz.ntmps7;refine sq fun K0 J0=>?_
 go_wp2_with fail
 refine J0.out _ _ ?_;clear J0;have hb:Below w.heap.size w (w.alloc (.cells #[.bool false,.int .i64 0,.int .i64 0,.int .i64 0,.int .i64 0,.int .i64 0,.int .i64 0,.int .i64 0,.int .i64 0,.int .i64 0,.int .i64 0,.int .i64 0,.int .i64 0] 27)):=qaa (Below.refl _ _) _;have hx:Blk (w.alloc (.cells #[.bool false,.int .i64 0,.int .i64 0,.int .i64 0,.int .i64 0,.int .i64 0,.int .i64 0,.int .i64 0,.int .i64 0,.int .i64 0,.int .i64 0,.int .i64 0,.int .i64 0] 27)) w.heap.size 27 [.bool false,.int .i64 0,.int .i64 0,.int .i64 0,.int .i64 0,.int .i64 0,.int .i64 0,.int .i64 0,.int .i64 0,.int .i64 0,.int .i64 0,.int .i64 0,.int .i64 0]:=heap_alloc_new w _;have HB:=am hb;have HX:=am hx;clear hb hx;obtain⟨B,hB⟩:∃B,w.heap.size=B:=⟨_,rfl⟩;rw[hB] at HX HB ⊢;have HBB:=am hB;clear hB;generalize w.alloc (.cells #[.bool false,.int .i64 0,.int .i64 0,.int .i64 0,.int .i64 0,.int .i64 0,.int .i64 0,.int .i64 0,.int .i64 0,.int .i64 0,.int .i64 0,.int .i64 0,.int .i64 0] 27)=w1 at *;have c0:=HX.out.c 0 rfl;have c1:=HX.out.c 1 rfl;have c2:=HX.out.c 2 rfl;have c3:=HX.out.c 3 rfl;have c4:=HX.out.c 4 rfl;have c5:=HX.out.c 5 rfl;have c6:=HX.out.c 6 rfl;have c7:=HX.out.c 7 rfl;have c8:=HX.out.c 8 rfl;have c9:=HX.out.c 9 rfl;have c10:=HX.out.c 10 rfl;have c11:=HX.out.c 11 rfl;have c12:=HX.out.c 12 rfl;have cf:=HX.out.f;refine sq fun K1 J1=>?_
 go_wp2_with fail
 refine J1.out _ _ ?_;clear J1 c0 c1 c2 c3 c4 c5 c6 c7 c8 c9 c10 c11 c12 cf;have hy:=(((((((((((((HX.out.set 0 (.bool cyc)).set 1 (.int .i64 8)).set 2 (.int .i64 300)).set 3 (.int .i64 16)).set 4 (.int .i64 600)).set 5 (.int .i64 600)).set 6 (.int .i64 12000)).set 7 (.int .i64 8000)).set 8 (.int .i64 4000)).set 9 (.int .i64 1200)).set 10 (.int .i64 100)).set 11 (.int .i64 4000)).set 12 (.int .i64 6000));simp only[List.set] at hy;have ho:Only (fun k=>B≤k) w1 (((((((((((((w1.setCell ⟨B,0,none⟩ (.bool cyc)).setCell ⟨B,1,none⟩ (.int .i64 8)).setCell ⟨B,2,none⟩ (.int .i64 300)).setCell ⟨B,3,none⟩ (.int .i64 16)).setCell ⟨B,4,none⟩ (.int .i64 600)).setCell ⟨B,5,none⟩ (.int .i64 600)).setCell ⟨B,6,none⟩ (.int .i64 12000)).setCell ⟨B,7,none⟩ (.int .i64 8000)).setCell ⟨B,8,none⟩ (.int .i64 4000)).setCell ⟨B,9,none⟩ (.int .i64 1200)).setCell ⟨B,10,none⟩ (.int .i64 100)).setCell ⟨B,11,none⟩ (.int .i64 4000)).setCell ⟨B,12,none⟩ (.int .i64 6000)):=Only.setCells (P:=fun k=>B≤k) (Nat.le_refl _) [.bool cyc,.int .i64 8,.int .i64 300,.int .i64 16,.int .i64 600,.int .i64 600,.int .i64 12000,.int .i64 8000,.int .i64 4000,.int .i64 1200,.int .i64 100,.int .i64 4000,.int .i64 6000] 0 w1 w1 (Only.refl _ _);have HO:=am ho;clear ho;generalize (((((((((((((w1.setCell ⟨B,0,none⟩ (.bool cyc)).setCell ⟨B,1,none⟩ (.int .i64 8)).setCell ⟨B,2,none⟩ (.int .i64 300)).setCell ⟨B,3,none⟩ (.int .i64 16)).setCell ⟨B,4,none⟩ (.int .i64 600)).setCell ⟨B,5,none⟩ (.int .i64 600)).setCell ⟨B,6,none⟩ (.int .i64 12000)).setCell ⟨B,7,none⟩ (.int .i64 8000)).setCell ⟨B,8,none⟩ (.int .i64 4000)).setCell ⟨B,9,none⟩ (.int .i64 1200)).setCell ⟨B,10,none⟩ (.int .i64 100)).setCell ⟨B,11,none⟩ (.int .i64 4000)).setCell ⟨B,12,none⟩ (.int .i64 6000))=w2 at *;have c0:=Blk.c hy 0 rfl;have c1:=Blk.c hy 1 rfl;have c2:=Blk.c hy 2 rfl;have c3:=Blk.c hy 3 rfl;have c4:=Blk.c hy 4 rfl;have c5:=Blk.c hy 5 rfl;have c6:=Blk.c hy 6 rfl;have c7:=Blk.c hy 7 rfl;have c8:=Blk.c hy 8 rfl;have c9:=Blk.c hy 9 rfl;have c10:=Blk.c hy 10 rfl;have c11:=Blk.c hy 11 rfl;have c12:=Blk.c hy 12 rfl
 go_wp2_with fail
 refine bodyPost_ret (v:=.agg #[.bool cyc,.int .i64 8,.int .i64 300,.int .i64 16,.int .i64 600,.int .i64 600,.int .i64 12000,.int .i64 8000,.int .i64 4000,.int .i64 1200,.int .i64 100,.int .i64 4000,.int .i64 6000]) (by simp[results,Tryz.results7,go_sem,c0,c1,c2,c3,c4,c5,c6,c7,c8,c9,c10,c11,c12]) rfl ?_;exact⟨rfl,below_then HB.out HBB.out HO.out⟩
theorem qgu (n:Nat) (hn:n<256) (w:World) :
  Calls Tryz.prog 9 #[.int .u8 (n:Int)] w fun e w'=>e=.returned (.int .i64 ((n*5:Nat):Int))∧w=w':=by
 have e2:wrap64 ((n:Int)*5)=((n*5:Nat):Int):=by unfold wrap64;omega
 have e3:wrap64 (n:Int)=(n:Int):=by unfold wrap64;omega
 go_enter Tryz.func9,Tryz.ntmps9;go_wp2;go_ret;exact⟨by first|rfl|(simp;done)|(rw[←e2];rfl),rfl⟩
theorem qr1:MTopTotal.limit_frame.f=some 337:=by kernel_rfl
theorem qmg (d:Nat) (hd:d≤65536):MTopTotal.limit_way.f (d:Int)=some ((Sig.wayT d:Nat):Int):=by
 unfold MTopTotal.limit_way.f;rw[qr1];simp only[Option.bind_some,Option.some.injEq];have hf:Sig.frameT=337:=rfl;have hm:mx (d:Int) 0=(d:Int):=by unfold mx;split <;> omega
 rw[hm];unfold Sig.wayT;rw[hf];have h1:wrap64 ((d:Int)+7)=((d+7:Nat):Int):=by unfold wrap64;omega
 rw[h1,Int.tdiv_eq_ediv_of_nonneg (by omega)];unfold wrap64;omega
theorem qdp (cyc:Bool) (t0 t1 t2 t3 t4 t5 t6 t7 d gap:Nat) (hd:d≤65536) (hg:gap≤1000000) (h4:t4≤4294967296) (w:World) :
  Calls Tryz.prog 18 #[setA cyc t0 t1 t2 t3 t4 t5 t6 t7,.int .i64 (d:Int),.int .i64 (gap:Int)] w fun e w'=>e=.returned (.int .i64 ((Sig.inService [t0,t1,t2,t3,t4,t5,t6,t7] d gap:Nat):Int))∧Below w.heap.size w w':=by
 unfold setA;go_enter Tryz.func18,Tryz.ntmps18;refine sq fun K0 J0=>?_
 go_wp2_with fail
 refine J0.out _ _ ?_;clear J0;have hb:Below w.heap.size w (w.alloc (.cells #[.bool cyc,.int .i64 8,.int .i64 300,.int .i64 16,.int .i64 600,.int .i64 t0,.int .i64 t1,.int .i64 t2,.int .i64 t3,.int .i64 t4,.int .i64 t5,.int .i64 t6,.int .i64 t7] 27)):=qaa (Below.refl _ _) _;have hx:Blk (w.alloc (.cells #[.bool cyc,.int .i64 8,.int .i64 300,.int .i64 16,.int .i64 600,.int .i64 t0,.int .i64 t1,.int .i64 t2,.int .i64 t3,.int .i64 t4,.int .i64 t5,.int .i64 t6,.int .i64 t7] 27)) w.heap.size 27 (qe5 cyc t0 t1 t2 t3 t4 t5 t6 t7):=heap_alloc_new w _;have c9:=hx.c 9 rfl;have HB:=am hb;clear hb hx;obtain⟨B,hB⟩:∃B,w.heap.size=B:=⟨_,rfl⟩;rw[hB] at c9 HB ⊢;have HBB:=am hB;clear hB;generalize w.alloc (.cells #[.bool cyc,.int .i64 8,.int .i64 300,.int .i64 16,.int .i64 600,.int .i64 t0,.int .i64 t1,.int .i64 t2,.int .i64 t3,.int .i64 t4,.int .i64 t5,.int .i64 t6,.int .i64 t7] 27)=w1 at *;have wb:Sig.wayT d≤100000:=by unfold Sig.wayT;rw[show Sig.frameT=337 from rfl];omega
 have HW:=am (qmg d hd);have hin:Sig.inService [t0,t1,t2,t3,t4,t5,t6,t7] d gap=gap+t4+6*Sig.wayT d:=rfl;rw[hin];clear hin;generalize Sig.wayT d=wy at *;have hmx:(if (gap:Int)<0 then (0:Int) else (gap:Int))=(gap:Int):=if_neg (by omega);skip;have e1:wrap64 ((gap:Int)+(t4:Int))=((gap+t4:Nat):Int):=by unfold wrap64;omega
 have e2:wrap64 (6*(wy:Int))=((6*wy:Nat):Int):=by unfold wrap64;omega
 have e3:wrap64 ((gap:Int)+(t4:Int)+6*(wy:Int))=((gap+t4+6*wy:Nat):Int):=by unfold wrap64;omega
 refine sq fun K1 J1=>?_
 go_wp2_with fail
 refine sr 11 (fun W=>W.cell? ⟨B,9,none⟩=some (.int .i64 (t4:Int))) [] c9 (fun hY=>?_);refine pu 0 7 ?_;refine pu 1 8 ?_;refine pu 2 9 ?_;refine pu 3 10 ?_;refine pu 6 13 ?_;refine tk 4 11 hY ?_;refine pu 5 12 ?_;refine on_ 7 14 (fun K hK=>?_);refine gs Tryz.func42 #[.int .i64 (d:Int)] ?_
 with_reducible refine(MTopTotal.limit_way.calls (d:Int) (wy:Int) _ HW.out).mono ?_
 rintro e w3 ⟨rfl,hbw⟩;refine⟨_,rfl,?_⟩;have HBW:=am hbw;clear hbw;refine hK.out _ _ (qae HBW.out hY) (fun hY=>?_);clear hK K;refine nm 14 ?_;refine pu 8 15 ?_;refine pu 9 16 ?_;refine pu 10 6 ?_;refine qav (by kernel_rfl) ?_;refine J1.out _ _ ?_;go_wp2;go_ret;refine⟨?_,below_then HB.out HBB.out (((Only.refl (fun k=>B≤k) w1).drewN 1).trans ((qag HBW.out).mono (fun _ h=>h.elim)))⟩;rw[show ((gap+t4+6*wy:Nat):Int)=(gap:Int)+(t4:Int)+6*(wy:Int) from by omega]
 first|rfl|simp
structure ScV where
 i0:Value
 i1:Value
 o0:Value
 o1:Value
 a0:Int
 a1:Int
 g0:Int
 g1:Int
 l0:Value
 l1:Value
 b0:Int
 b1:Int
 s0:Int
 s1:Int
 y0:Int
 y1:Int
def qcg (V:ScV):List Value:=[V.i0,V.i1,V.o0,V.o1,.int .i64 V.a0,.int .i64 V.a1,.int .i64 V.g0,.int .i64 V.g1,V.l0,V.l1,.int .i64 V.b0,.int .i64 V.b1,.int .i64 V.s0,.int .i64 V.s1,.int .u8 V.y0,.int .u8 V.y1]
def qsl:ScV:=⟨.slice none 0 0,.slice none 0 0,.slice none 0 0,.slice none 0 0,0,0,0,0,.slice none 0 0,.slice none 0 0,0,0,0,0,0,0⟩
theorem qla (w:World) :
  Calls Tryz.prog 34 #[] w fun e w'=>∃s,e=.returned (.pointer (some ⟨s,0,none⟩))∧w.heap.size≤s∧Blk w' s 129 (qcg qsl)∧Below w.heap.size w w':=by
 go_enter Tryz.func34,Tryz.ntmps34;go_wp2;go_ret;exact⟨_,rfl,Nat.le_refl _,heap_alloc_new w _,qaa (Below.refl _ _) _⟩
theorem qj0 {w:World} {s:Nat} {V:ScV} (h:Blk w s 129 (qcg V)) {A:Option Addr} {n c:Nat} (hv:V.o1=.slice A n c) :
  Calls Tryz.prog 22 #[.pointer (some ⟨s,0,none⟩),.int .i64 1] w fun e w'=>e=.returned V.o1∧w=w':=by
 have c3:=h.c 3 rfl;rw[hv] at c3 ⊢;clear h hv;go_enter Tryz.func22,Tryz.ntmps22;go_wp2;go_ret;exact⟨rfl,rfl⟩
theorem qj2 (s k:Nat) (A:Option Addr) (n c:Nat) (e:Int) (he:e≠0) (w:World) :
  Calls Tryz.prog 151 #[.pointer (some ⟨s,0,none⟩),.int .i64 0,.agg #[.int .u8 (k:Int),.slice A n c],.int .i64 e] w fun x w'=>x=.returned (.tuple #[])∧Below w.heap.size w w':=by
 have e1:(e==0)=false:=beq_eq_false_iff_ne.2 he;have e2:(e != 0)=true:=by simp[he]
 go_enter Tryz.func151,Tryz.ntmps151;go_wp2
 first|go_end0|refine bodyPost_ret (v:=.tuple #[]) (by simp[results,Tryz.results151,go_sem]) rfl ?_
 exact⟨rfl,qaa (Below.refl _ _) _⟩
theorem qj1 (s k:Nat) (A:Option Addr) (n c:Nat) (e:Int) (he:e≠0) (w:World) :
  Calls Tryz.prog 151 #[.pointer (some ⟨s,0,none⟩),.int .i64 1,.agg #[.int .u8 (k:Int),.slice A n c],.int .i64 e] w fun x w'=>x=.returned (.tuple #[])∧Below w.heap.size w w':=by
 have e1:(e==0)=false:=beq_eq_false_iff_ne.2 he;have e2:(e != 0)=true:=by simp[he]
 go_enter Tryz.func151,Tryz.ntmps151;go_wp2
 first|go_end0|refine bodyPost_ret (v:=.tuple #[]) (by simp[results,Tryz.results151,go_sem]) rfl ?_
 exact⟨rfl,qaa (Below.refl _ _) _⟩
theorem qhc (s k:Nat) (A:Option Addr) (n c:Nat) (h1:k≠1) (h5:k≠5) (w:World) :
  Calls Tryz.prog 151 #[.pointer (some ⟨s,0,none⟩),.int .i64 0,.agg #[.int .u8 (k:Int),.slice A n c],.int .i64 0] w fun x w'=>x=.returned (.tuple #[])∧Below w.heap.size w w':=by
 have e1:((k:Int)==1)=false:=beq_eq_false_iff_ne.2 (by omega);have e5:((k:Int)==5)=false:=beq_eq_false_iff_ne.2 (by omega);have f1:(k==1)=false:=beq_eq_false_iff_ne.2 h1;have f5:(k==5)=false:=beq_eq_false_iff_ne.2 h5;go_enter Tryz.func151,Tryz.ntmps151;go_wp2
 first|go_end0|refine bodyPost_ret (v:=.tuple #[]) (by simp[results,Tryz.results151,go_sem]) rfl ?_|skip
 exact⟨rfl,qaa (Below.refl _ _) _⟩
theorem qg9 (s k:Nat) (A:Option Addr) (n c:Nat) (h1:k≠1) (h5:k≠5) (w:World) :
  Calls Tryz.prog 151 #[.pointer (some ⟨s,0,none⟩),.int .i64 1,.agg #[.int .u8 (k:Int),.slice A n c],.int .i64 0] w fun x w'=>x=.returned (.tuple #[])∧Below w.heap.size w w':=by
 have e1:((k:Int)==1)=false:=beq_eq_false_iff_ne.2 (by omega);have e5:((k:Int)==5)=false:=beq_eq_false_iff_ne.2 (by omega);have f1:(k==1)=false:=beq_eq_false_iff_ne.2 h1;have f5:(k==5)=false:=beq_eq_false_iff_ne.2 h5;go_enter Tryz.func151,Tryz.ntmps151;go_wp2
 first|go_end0|refine bodyPost_ret (v:=.tuple #[]) (by simp[results,Tryz.results151,go_sem]) rfl ?_|skip
 exact⟨rfl,qaa (Below.refl _ _) _⟩
theorem qhb {w:World} {s:Nat} {V:ScV} (h:Blk w s 129 (qcg V)) (A:Option Addr) (n c:Nat) :
  Calls Tryz.prog 151 #[.pointer (some ⟨s,0,none⟩),.int .i64 0,.agg #[.int .u8 1,.slice A n c],.int .i64 0] w fun x w'=>x=.returned (.tuple #[])∧Blk w' s 129 (qcg { V with i0:=.slice none 0 0,o0:=.slice none 0 0 })∧Only (·=s) w w':=by
 have H:=am h;go_enter Tryz.func151,Tryz.ntmps151;refine sq fun K0 J0=>?_
 go_wp2_with fail
 refine J0.out _ _ ?_;clear J0;have ho:Only (·=s) w (w.alloc (.cells #[.int .u8 1,.slice A n c] 36)):=(qag (qaa (Below.refl _ _) _)).mono (fun _ h=>h.elim);have h1:Blk (w.alloc (.cells #[.int .u8 1,.slice A n c] 36)) s 129 (qcg V):=h.only (qag (qaa (Below.refl _ _) _)) (fun h=>h);have hx:Blk (w.alloc (.cells #[.int .u8 1,.slice A n c] 36)) w.heap.size 36 [.int .u8 1,.slice A n c]:=heap_alloc_new w _;have x0:=hx.c 0 rfl;have x1:=hx.c 1 rfl;have c0:=h1.c 0 rfl;have c2:=h1.c 2 rfl;have cf:=h1.f;have HO:=am ho;have H1:=am h1;clear h ho h1 hx H;generalize w.heap.size=B at *;generalize w.alloc (.cells #[.int .u8 1,.slice A n c] 36)=w1 at *
 go_wp2_with fail
 refine sr 12 (fun _=>True) [] trivial (fun hY=>?_);refine pu 0 26 ?_;refine pu 1 27 ?_;refine pu 2 28 ?_;refine pu 3 29 ?_;refine pu 4 30 ?_;refine pu 5 31 ?_;refine pu 6 32 ?_;refine pu 8 33 ?_;refine pu 9 34 ?_;refine onN 7 (fun K hK=>?_);refine sk ?_;refine hK.out _ _ trivial (fun hY=>?_);clear hK K;refine pu 10 35 ?_;refine onN 11 (fun K hK=>?_);refine sk ?_;refine hK.out _ _ trivial (fun hY=>?_);clear hK K;refine qav (by kernel_rfl) ?_;go_wp2
 first|go_end0|refine bodyPost_ret (v:=.tuple #[]) (by simp[results,Tryz.results151,go_sem]) rfl ?_|skip
 exact⟨rfl,((show Blk w1.drew s 129 _ from H1.out).set 0 (.slice none 0 0)).set 2 (.slice none 0 0),HO.out.trans ((((Only.refl (·=s) w1).drewN 1).set (p:=⟨s,0,none⟩) rfl _).set (p:=⟨s,2,none⟩) rfl _)⟩
theorem qg8 {w:World} {s:Nat} {V:ScV} (h:Blk w s 129 (qcg V)) (A:Option Addr) (n c:Nat) :
  Calls Tryz.prog 151 #[.pointer (some ⟨s,0,none⟩),.int .i64 1,.agg #[.int .u8 1,.slice A n c],.int .i64 0] w fun x w'=>x=.returned (.tuple #[])∧Blk w' s 129 (qcg { V with i1:=.slice none 0 0,o1:=.slice none 0 0 })∧Only (·=s) w w':=by
 have H:=am h;go_enter Tryz.func151,Tryz.ntmps151;refine sq fun K0 J0=>?_
 go_wp2_with fail
 refine J0.out _ _ ?_;clear J0;have ho:Only (·=s) w (w.alloc (.cells #[.int .u8 1,.slice A n c] 36)):=(qag (qaa (Below.refl _ _) _)).mono (fun _ h=>h.elim);have h1:Blk (w.alloc (.cells #[.int .u8 1,.slice A n c] 36)) s 129 (qcg V):=h.only (qag (qaa (Below.refl _ _) _)) (fun h=>h);have hx:Blk (w.alloc (.cells #[.int .u8 1,.slice A n c] 36)) w.heap.size 36 [.int .u8 1,.slice A n c]:=heap_alloc_new w _;have x0:=hx.c 0 rfl;have x1:=hx.c 1 rfl;have c1:=h1.c 1 rfl;have c3:=h1.c 3 rfl;have cf:=h1.f;have HO:=am ho;have H1:=am h1;clear h ho h1 hx H;generalize w.heap.size=B at *;generalize w.alloc (.cells #[.int .u8 1,.slice A n c] 36)=w1 at *
 go_wp2_with fail
 refine sr 12 (fun _=>True) [] trivial (fun hY=>?_);refine pu 0 26 ?_;refine pu 1 27 ?_;refine pu 2 28 ?_;refine pu 3 29 ?_;refine pu 4 30 ?_;refine pu 5 31 ?_;refine pu 6 32 ?_;refine pu 8 33 ?_;refine pu 9 34 ?_;refine onN 7 (fun K hK=>?_);refine sk ?_;refine hK.out _ _ trivial (fun hY=>?_);clear hK K;refine pu 10 35 ?_;refine onN 11 (fun K hK=>?_);refine sk ?_;refine hK.out _ _ trivial (fun hY=>?_);clear hK K;refine qav (by kernel_rfl) ?_;go_wp2
 first|go_end0|refine bodyPost_ret (v:=.tuple #[]) (by simp[results,Tryz.results151,go_sem]) rfl ?_|skip
 exact⟨rfl,((show Blk w1.drew s 129 _ from H1.out).set 1 (.slice none 0 0)).set 3 (.slice none 0 0),HO.out.trans ((((Only.refl (·=s) w1).drewN 1).set (p:=⟨s,1,none⟩) rfl _).set (p:=⟨s,3,none⟩) rfl _)⟩
theorem qie (p:Addr) (i e:Int) (k:Nat) (A:Option Addr) (n c:Nat) (w:World) :
  Calls Tryz.prog 154 #[.pointer (some p),.int .i64 i,.agg #[.int .u8 (k:Int),.slice A n c],.int .i64 e] w fun x w'=>x=.returned (.tuple #[])∧Below w.heap.size w w':=by
 go_enter Tryz.func154,Tryz.ntmps154
 first|go_wp2|skip
 first|go_end0|refine bodyPost_ret (v:=.tuple #[]) (by simp[results,Tryz.results154,go_sem]) rfl ?_|skip
 exact⟨rfl,qaa (Below.refl _ _) _⟩
theorem qp8 (W:World):(binOp .eql 23 (.slice none 0 0) (.slice none 0 0)).run Tryz.prog W=.ok (.bool true) W:=by kernel_rfl
theorem qey {w:World} {v:Value} {l:List Nat} (h:Oct w v l) (hl:l.length≤1000000):Calls Tryz.prog 91 #[v] w (qm0 w l):=by
 obtain⟨i0,hi,hz0,hz1,hz2⟩:=info_parts el5.info;rcases h with ⟨hv,e⟩|⟨g,off,c,cells,rfl,n1,n2,⟨frn,n3,_⟩,n4,n5,_⟩
 ·have h9:l=[]:=List.eq_nil_of_length_eq_zero (by rw[←qbc l,e];rfl);subst h9;subst hv;have hnil:=fun (W:World)=>qp8 W;go_enter Tryz.func91,Tryz.ntmps91;go_wp2;go_ret;exact⟨_,rfl,Below.refl _ _,by simp[octs],Or.inl ⟨rfl,rfl⟩⟩
 ·rw[qbc] at n1 ⊢;have hcells:∀j u,(octs l)[j]?=some u→(w.alloc (.cells #[] 5)).cell? ((⟨g,off,none⟩:Addr).add j)=some u:=by
   intro j u hu;rw[Addr.add_lit];exact Lib.cell?_alloc_some _ (by simp[World.cell?,n3,n5 j u hu])
  have hrow:(w.alloc (.cells #[] 5)).ownsRow w.heap.size 5 1 (.slice (some ⟨w.heap.size,0,none⟩) 0 0) 0 []:=⟨rfl,Or.inr ⟨w.heap.size,0,#[],rfl,Nat.le_refl _,heap_alloc_new w _,Nat.le_refl _,Nat.zero_le _,rfl,rfl⟩⟩;have hsz:(w.alloc (.cells #[] 5)).heap.size=w.heap.size+1:=by simp[World.alloc_eq]
  obtain⟨v1,w1,hrun,ho,hg,-,-⟩:=run_append_own_at (P:=Tryz.prog) (w.alloc (.cells #[] 5)) w.heap.size 23 23 5 i0 (.int .u8 0) 1 1 el5.ht hi hz0 hz1 hz2 rfl (by omega) (.slice (some ⟨w.heap.size,0,none⟩) 0 0) 0 [] hrow ⟨g,off,none⟩ l.length c (octs l) (by rw[qbc];omega) hcells (qi2 l) (by simp only[maxLen];omega) (by omega) (by omega);have HM:qac (Made w w1 v1 l):=⟨(qaa (Below.refl _ _) _).grown hg (by omega) (fun k hk=>by simp[Value.ownBlock] at hk;omega),by
   simpa using ho⟩
  have HK:=am hrun;have hnil:=fun (W:World)=>Lib.run_eql_slice_nil (P:=Tryz.prog) W 23 5 (some ⟨g,off,none⟩) l.length c 0 0 el5.ht;clear hrun ho hg hsz hcells hi hz0 hz1 hz2 n1 n2 n3 n4 n5;go_enter Tryz.func91,Tryz.ntmps91
  go_wp2_with (first
  |((with_reducible refine qao (b:=.append) (xs:=#[.tmp 5,.tmp 6]) rfl ?_);refine qap rfl (.tmp 5) (.tmp 6) 23 rfl (.slice (some ⟨w.heap.size,0,none⟩) 0 0) (.slice (some ⟨g,off,none⟩) l.length c) rfl rfl v1 w1 HK.out ?_))
  go_ret;exact⟨_,rfl,HM.out⟩
def ORow (w:World) (lab:Nat→Nat) (i:Nat) (v:Value) (l:List (List Nat)):Prop:=∃us,Rw w (fun k=>lab k=i) 23 v us∧Octs w us l
theorem Rw.lab {w w':World} {lab lab':Nat→Nat} {P:Nat→Prop} {e i:Nat} {v:Value} {us:List Value} (h:Rw w (fun k=>lab k=i) e v us) (hs:Stps lab w P lab' w') (hp:¬P i):Rw w' (fun k=>lab' k=i) e v us :=
 (h.mono (P':=fun k=>lab k=i∧k<w.heap.size) (fun k hk _ hl _=>⟨hk,hl⟩)).only hs.only (fun k hk _ _ e=>hp (hk.1▸e.1)) |>.mono (fun k hk _ _ _=>(hs.old k hk.2).trans hk.1)
theorem ORow.far {w w':World} {lab lab':Nat→Nat} {P:Nat→Prop} {i:Nat} {v:Value} {l:List (List Nat)} (h:ORow w lab i v l) (hs:Stps lab w P lab' w') (hp:¬P i):ORow w' lab' i v l:=by
 obtain⟨us,a,b⟩:=h;exact⟨us,a.lab hs hp,b.imp (fun _ _ hh=>hs.oct hh)⟩
theorem ORow.nil (w:World) (lab:Nat→Nat) (i:Nat):ORow w lab i (.slice none 0 0) []:=⟨[],Rw.nil _ _ _,trivial⟩
theorem SR.lab {w w':World} {lab lab':Nat→Nat} {P:Nat→Prop} {e sz i n:Nat} {v:Value} {Q:List Value→Prop} (h:SR w (fun k=>lab k=i) e sz Q v n) (hs:Stps lab w P lab' w') (hp:¬P i):SR w' (fun k=>lab' k=i) e sz Q v n :=
 ((h.mono (P':=fun k=>lab k=i∧k<w.heap.size) (fun k hk hl=>⟨hk,hl⟩)).only hs.only (fun k hk _ e=>hp (hk.1▸e.1)) (fun _ h=>h)).mono (fun k hk _=>(hs.old k hk.2).trans hk.1)
theorem qnd {t e bytes:Nat} {z:Value} (E:El t e z bytes) (i:Nat) {w:World} {lab:Nat→Nat} {v:Value} {us:List Value} (h:Rw w (fun k=>lab k=i) e v us) (he:e≠5) (h1:∀u∈us,u.oneCell'=true) (hl:us.length≤1000000000) (hb:bytes≤100) (u:Value) (hu:u.oneCell'=true) :
  ∃A1 c1 w1 lab1,(Builtin.append_ #[t,t] t #[v,.slice (some ⟨w.heap.size,0,none⟩) 1 1]).run Tryz.prog (w.alloc (.cells #[u] e))=.ok (.slice A1 (us.length+1) c1) w1∧Rw w1 (fun k=>lab1 k=i) e (.slice A1 (us.length+1) c1) (us++[u])∧Stps lab w (·=i) lab1 w1:=by
 have hba:Below w.heap.size w (w.alloc (.cells #[u] e)):=qaa (Below.refl _ _) _;have hs1:Stps lab w (·=i) (qaj lab w i) (w.alloc (.cells #[u] e)):=Stps.below hba rfl;have hty0:∀k,qau v=some k→Typed w k e∧lab k=i∧k<w.heap.size:=by
  intro k hk;obtain⟨A',c',e1,_,_,h⟩:=h.slice;exact⟨(h k hk).2.1,(h k hk).1,(h k hk).2.2⟩
 obtain⟨v1,w1,hrun,hR1,hO1,hat⟩:=Rw.append E t (P:=fun k=>qau v=some k∨(w.alloc (.cells #[u] e)).heap.size≤k) ((h.below hba).mono (fun k hk _ _ hb=>Or.inl hb)) (qfg w (fun _=>True) trivial e u) (fun q hq=>by rw[List.mem_singleton.1 hq];exact hu) h1 (by
  have:=Nat.mul_le_mul (show us.length+1≤1000000001 by omega) hb;simp only[List.length_singleton];omega) (fun k hk=>Or.inr hk) (fun h=>absurd h he)
 obtain⟨A1,c1,e1,-,-,hty⟩:=hR1.slice;rw[List.length_append,List.length_singleton] at e1;subst e1;have hs2:Stps (qaj lab w i) (w.alloc (.cells #[u] e)) (·=i) (qaj (qaj lab w i) (w.alloc (.cells #[u] e)) i) w1:=(Stp.mk' (hO1.mono (fun k hk=>⟨by rw[qa1 (hty0 k hk).2.2];exact(hty0 k hk).2.1,fun h5=>by
  obtain⟨cs,fr,hc⟩:=(hty0 k hk).1;have ht:Typed (w.alloc (.cells #[u] e)) k e:=⟨cs,fr,(hba.block k (hty0 k hk).2.2).trans hc⟩;exact he (h5.ne ht).symm⟩))).stps rfl
 refine⟨A1,c1,w1,_,hrun,hR1.mono (fun k hk _ hlt _=>?_),hs1.trans hs2⟩;rcases hk with hk|hk
 ·have hlt1:k<(w.alloc (.cells #[u] e)).heap.size:=Nat.lt_of_lt_of_le (hty0 k hk).2.2 hba.size;rw[qa1 hlt1,qa1 (hty0 k hk).2.2];exact(hty0 k hk).2.1
 ·exact qas hk
theorem ORow.append (i:Nat) {w:World} {lab:Nat→Nat} {v vx:Value} {l:List (List Nat)} {p:List Nat} (h:ORow w lab i v l) (hl:l.length≤1000000000) (hx:Oct w vx p) :
  ∃A1 c1 w1 lab1,(Builtin.append_ #[77,77] 77 #[v,.slice (some ⟨w.heap.size,0,none⟩) 1 1]).run Tryz.prog (w.alloc (.cells #[vx] 23))=.ok (.slice A1 (l.length+1) c1) w1∧ORow w1 lab1 i (.slice A1 (l.length+1) c1) (l++[p])∧Stps lab w (·=i) lab1 w1:=by
 obtain⟨us,a,b⟩:=h;have e:=b.len;obtain⟨A',c',rfl,-,-,-⟩:=hx.slice;obtain⟨A1,c1,w1,lab1,h1,h2,h3⟩:=qnd el23 i a (by decide) b.one (by omega) (by decide) (.slice A' p.length c') rfl;rw[e] at h1 h2;exact⟨A1,c1,w1,lab1,h1,⟨_,h2,(b.imp (fun _ _ hh=>h3.oct hh)).snoc (h3.oct hx)⟩,h3⟩
theorem TRow.append (i:Nat) {w:World} {lab:Nat→Nat} {v:Value} {n:Nat} (h:SR w (fun k=>lab k=i) 184 3 (fun _=>True) v n) (hn:n≤100000000) (k y:Int) :
  ∃v1 w1 lab1,(Builtin.append_ #[52,52] 52 #[v,.slice (some ⟨w.heap.size,0,none⟩) 1 1]).run Tryz.prog (w.alloc (.cells #[.int .u8 k,.int .u8 y,.slice none 0 0] 184))=.ok v1 w1∧SR w1 (fun k=>lab1 k=i) 184 3 (fun _=>True) v1 (n+1)∧Stps lab w (·=i) lab1 w1:=by
 obtain⟨i0,hi,hz0,hz1,hz2⟩:=info_parts qps;have hba:Below w.heap.size w (w.alloc (.cells #[.int .u8 k,.int .u8 y,.slice none 0 0] 184)):=qaa (Below.refl _ _) _;have hs1:Stps lab w (·=i) (qaj lab w i) (w.alloc (.cells #[.int .u8 k,.int .u8 y,.slice none 0 0] 184)):=Stps.below hba rfl;obtain⟨v1,w1,hrun,hR,hO,hat⟩:=SR.append (ty:=52) (P:=fun k=>qau v=some k∨w.heap.size≤k) (t:=52) (by kernel_rfl) hi hz0 hz1 hz2 rfl (by decide) (by decide) ((h.mono (P':=fun k=>True) (fun _ _ _=>trivial)).move (fun _ _=>rfl) (fun _ h=>h) (fun k hk _=>Or.inl hk)) hba (a:=⟨w.heap.size,0,none⟩) (cs:=[.int .u8 k,.int .u8 y,.slice none 0 0]) rfl (fun j u hu=>by
  rw[Addr.add_lit,World.cell?_alloc_mark,Nat.zero_add]
  simpa using hu) (by simp[Value.oneCell']) hn (by decide) trivial (fun k hk=>Or.inr hk)
 have hold:∀j,qau v=some j→j<w.heap.size∧lab j=i∧Typed w j 184:=fun j hj=>⟨(h.blk j hj).2.2,(h.blk j hj).1,(h.blk j hj).2.1⟩;have hs2:Stps (qaj lab w i) (w.alloc (.cells #[.int .u8 k,.int .u8 y,.slice none 0 0] 184)) (·=i) (qaj (qaj lab w i) (w.alloc (.cells #[.int .u8 k,.int .u8 y,.slice none 0 0] 184)) i) w1:=(Stp.mk' (hO.mono (fun j hj=>⟨by rw[qa1 (hold j hj).1];exact(hold j hj).2.1,fun h5=>by
  obtain⟨cs,fr,hc⟩:=(hold j hj).2.2;have ht:Typed (w.alloc (.cells #[.int .u8 k,.int .u8 y,.slice none 0 0] 184)) j 184:=⟨cs,fr,(hba.block j (hold j hj).1).trans hc⟩;exact absurd (h5.ne ht) (by decide)⟩))).stps rfl
 refine⟨v1,w1,_,hrun,hR.mono (fun j hj hlt=>?_),hs1.trans hs2⟩;have hsz:(w.alloc (.cells #[.int .u8 k,.int .u8 y,.slice none 0 0] 184)).heap.size=w.heap.size+1:=by simp[World.alloc_eq]
 rcases hj with hj|hj
 ·have h1:=hold j hj;rw[qa1 (by omega),qa1 h1.1];exact h1.2.1
 ·by_cases he:j<w.heap.size+1
  ·rw[qa1 (by omega)];exact qas hj
  ·exact qas (by omega)
structure ScIs (w:World) (lab:Nat→Nat) (s:Nat) (V:ScV) (m:Nat) (o0 o1:List (List Nat)):Prop where
 blk:Blk w s 129 (qcg V)
 lb:lab s=8
 i0:∃l,ORow w lab 10 V.i0 l∧l.length≤m
 i1:∃l,ORow w lab 11 V.i1 l∧l.length≤m
 o0:ORow w lab 12 V.o0 o0∧o0.length≤m
 o1:ORow w lab 13 V.o1 o1∧o1.length≤m
 l0:∃n,SR w (fun k=>lab k=14) 184 3 (fun _=>True) V.l0 n∧n≤m
 l1:∃n,SR w (fun k=>lab k=15) 184 3 (fun _=>True) V.l1 n∧n≤m
section
variable {w w':World} {lab lab':Nat→Nat} {s m m':Nat} {V V':ScV} {o0 o1:List (List Nat)} {P:Nat→Prop}
theorem ScIs.mono (h:ScIs w lab s V m o0 o1) (hm:m≤m'):ScIs w lab s V m' o0 o1 :=
 ⟨h.blk,h.lb,h.i0.imp (fun _ k=>⟨k.1,Nat.le_trans k.2 hm⟩),h.i1.imp (fun _ k=>⟨k.1,Nat.le_trans k.2 hm⟩),⟨h.o0.1,Nat.le_trans h.o0.2 hm⟩,⟨h.o1.1,Nat.le_trans h.o1.2 hm⟩,h.l0.imp (fun _ k=>⟨k.1,Nat.le_trans k.2 hm⟩),h.l1.imp (fun _ k=>⟨k.1,Nat.le_trans k.2 hm⟩)⟩
theorem ScIs.far (h:ScIs w lab s V m o0 o1) (hs:Stps lab w P lab' w') (hp:∀i,P i→i≤7∨i=9∨16≤i):ScIs w' lab' s V m o0 o1:=by
 have n:∀i,8≤i→i≠9→i<16→¬P i:=fun i h1 h2 h3 e=>by have:=hp i e;omega
 exact⟨hs.blk h.blk (by rw[h.lb];exact n 8 (by decide) (by decide) (by decide)),(hs.lb h.blk).trans h.lb,h.i0.imp (fun _ k=>⟨k.1.far hs (n 10 (by decide) (by decide) (by decide)),k.2⟩),h.i1.imp (fun _ k=>⟨k.1.far hs (n 11 (by decide) (by decide) (by decide)),k.2⟩),⟨h.o0.1.far hs (n 12 (by decide) (by decide) (by decide)),h.o0.2⟩,⟨h.o1.1.far hs (n 13 (by decide) (by decide) (by decide)),h.o1.2⟩,h.l0.imp (fun _ k=>⟨k.1.lab hs (n 14 (by decide) (by decide) (by decide)),k.2⟩),h.l1.imp (fun _ k=>⟨k.1.lab hs (n 15 (by decide) (by decide) (by decide)),k.2⟩)⟩
theorem ScIs.cell (h:ScIs w lab s V m o0 o1) (i:Nat) (u:Value) (e:(qcg V).set i u=qcg V') (e1:V'.i0=V.i0∧V'.i1=V.i1∧V'.o0=V.o0∧V'.o1=V.o1∧V'.l0=V.l0∧V'.l1=V.l1):ScIs (w.setCell ⟨s,i,none⟩ u) lab s V' m o0 o1∧Stps lab w (·=8) lab (w.setCell ⟨s,i,none⟩ u):=by
 have hs:=(Stps.refl lab w (·=8)).set h.blk (by decide) h.lb i u;obtain⟨a,b,c,d,f,g⟩:=e1;refine⟨⟨by rw[←e];exact h.blk.set i u,h.lb,?_,?_,?_,?_,?_,?_⟩,hs⟩
 ·rw[a];exact h.i0.imp (fun _ k=>⟨k.1.far hs (by decide),k.2⟩)
 ·rw[b];exact h.i1.imp (fun _ k=>⟨k.1.far hs (by decide),k.2⟩)
 ·rw[c];exact⟨h.o0.1.far hs (by decide),h.o0.2⟩
 ·rw[d];exact⟨h.o1.1.far hs (by decide),h.o1.2⟩
 ·rw[f];exact h.l0.imp (fun _ k=>⟨k.1.lab hs (by decide),k.2⟩)
 ·rw[g];exact h.l1.imp (fun _ k=>⟨k.1.lab hs (by decide),k.2⟩)
theorem ScIs.put_i0 (h:ScIs w lab s V m o0 o1) (hs:Stps lab w (·=10) lab' w') {v:Value} (hr:∃l,ORow w' lab' 10 v l∧l.length≤m+1):ScIs (w'.setCell ⟨s,0,none⟩ v) lab' s { V with i0:=v } (m+1) o0 o1∧Stps lab w (fun k=>8≤k∧k≠9∧k<16) lab' (w'.setCell ⟨s,0,none⟩ v):=by
 have hb:=hs.blk h.blk (by rw[h.lb];decide);have hl:=(hs.lb h.blk).trans h.lb;have hs2:=(Stps.refl lab' w' (·=8)).set hb (by decide) hl 0 v;exact⟨⟨hb.set 0 v,hl,hr.imp (fun _ k=>⟨k.1.far hs2 (by decide),k.2⟩),h.i1.imp (fun _ k=>⟨(k.1.far hs (by decide)).far hs2 (by decide),Nat.le_succ_of_le k.2⟩),⟨(h.o0.1.far hs (by decide)).far hs2 (by decide),Nat.le_succ_of_le h.o0.2⟩,⟨(h.o1.1.far hs (by decide)).far hs2 (by decide),Nat.le_succ_of_le h.o1.2⟩,h.l0.imp (fun _ k=>⟨(k.1.lab hs (by decide)).lab hs2 (by decide),Nat.le_succ_of_le k.2⟩),h.l1.imp (fun _ k=>⟨(k.1.lab hs (by decide)).lab hs2 (by decide),Nat.le_succ_of_le k.2⟩)⟩,(hs.mono (fun i e=>by omega)).trans (hs2.mono (fun i e=>by omega))⟩
theorem ScIs.put_i1 (h:ScIs w lab s V m o0 o1) (hs:Stps lab w (·=11) lab' w') {v:Value} (hr:∃l,ORow w' lab' 11 v l∧l.length≤m+1):ScIs (w'.setCell ⟨s,1,none⟩ v) lab' s { V with i1:=v } (m+1) o0 o1∧Stps lab w (fun k=>8≤k∧k≠9∧k<16) lab' (w'.setCell ⟨s,1,none⟩ v):=by
 have hb:=hs.blk h.blk (by rw[h.lb];decide);have hl:=(hs.lb h.blk).trans h.lb;have hs2:=(Stps.refl lab' w' (·=8)).set hb (by decide) hl 1 v;exact⟨⟨hb.set 1 v,hl,h.i0.imp (fun _ k=>⟨(k.1.far hs (by decide)).far hs2 (by decide),Nat.le_succ_of_le k.2⟩),hr.imp (fun _ k=>⟨k.1.far hs2 (by decide),k.2⟩),⟨(h.o0.1.far hs (by decide)).far hs2 (by decide),Nat.le_succ_of_le h.o0.2⟩,⟨(h.o1.1.far hs (by decide)).far hs2 (by decide),Nat.le_succ_of_le h.o1.2⟩,h.l0.imp (fun _ k=>⟨(k.1.lab hs (by decide)).lab hs2 (by decide),Nat.le_succ_of_le k.2⟩),h.l1.imp (fun _ k=>⟨(k.1.lab hs (by decide)).lab hs2 (by decide),Nat.le_succ_of_le k.2⟩)⟩,(hs.mono (fun i e=>by omega)).trans (hs2.mono (fun i e=>by omega))⟩
theorem ScIs.put_o0 (h:ScIs w lab s V m o0 o1) (hs:Stps lab w (·=12) lab' w') {v:Value} {o:List (List Nat)} (hr:ORow w' lab' 12 v o∧o.length≤m+1):ScIs (w'.setCell ⟨s,2,none⟩ v) lab' s { V with o0:=v } (m+1) o o1∧Stps lab w (fun k=>8≤k∧k≠9∧k<16) lab' (w'.setCell ⟨s,2,none⟩ v):=by
 have hb:=hs.blk h.blk (by rw[h.lb];decide);have hl:=(hs.lb h.blk).trans h.lb;have hs2:=(Stps.refl lab' w' (·=8)).set hb (by decide) hl 2 v;exact⟨⟨hb.set 2 v,hl,h.i0.imp (fun _ k=>⟨(k.1.far hs (by decide)).far hs2 (by decide),Nat.le_succ_of_le k.2⟩),h.i1.imp (fun _ k=>⟨(k.1.far hs (by decide)).far hs2 (by decide),Nat.le_succ_of_le k.2⟩),⟨hr.1.far hs2 (by decide),hr.2⟩,⟨(h.o1.1.far hs (by decide)).far hs2 (by decide),Nat.le_succ_of_le h.o1.2⟩,h.l0.imp (fun _ k=>⟨(k.1.lab hs (by decide)).lab hs2 (by decide),Nat.le_succ_of_le k.2⟩),h.l1.imp (fun _ k=>⟨(k.1.lab hs (by decide)).lab hs2 (by decide),Nat.le_succ_of_le k.2⟩)⟩,(hs.mono (fun i e=>by omega)).trans (hs2.mono (fun i e=>by omega))⟩
theorem ScIs.put_o1 (h:ScIs w lab s V m o0 o1) (hs:Stps lab w (·=13) lab' w') {v:Value} {o:List (List Nat)} (hr:ORow w' lab' 13 v o∧o.length≤m+1):ScIs (w'.setCell ⟨s,3,none⟩ v) lab' s { V with o1:=v } (m+1) o0 o∧Stps lab w (fun k=>8≤k∧k≠9∧k<16) lab' (w'.setCell ⟨s,3,none⟩ v):=by
 have hb:=hs.blk h.blk (by rw[h.lb];decide);have hl:=(hs.lb h.blk).trans h.lb;have hs2:=(Stps.refl lab' w' (·=8)).set hb (by decide) hl 3 v;exact⟨⟨hb.set 3 v,hl,h.i0.imp (fun _ k=>⟨(k.1.far hs (by decide)).far hs2 (by decide),Nat.le_succ_of_le k.2⟩),h.i1.imp (fun _ k=>⟨(k.1.far hs (by decide)).far hs2 (by decide),Nat.le_succ_of_le k.2⟩),⟨(h.o0.1.far hs (by decide)).far hs2 (by decide),Nat.le_succ_of_le h.o0.2⟩,⟨hr.1.far hs2 (by decide),hr.2⟩,h.l0.imp (fun _ k=>⟨(k.1.lab hs (by decide)).lab hs2 (by decide),Nat.le_succ_of_le k.2⟩),h.l1.imp (fun _ k=>⟨(k.1.lab hs (by decide)).lab hs2 (by decide),Nat.le_succ_of_le k.2⟩)⟩,(hs.mono (fun i e=>by omega)).trans (hs2.mono (fun i e=>by omega))⟩
theorem ScIs.put_l0 (h:ScIs w lab s V m o0 o1) (hs:Stps lab w (·=14) lab' w') {v:Value} (hr:∃n,SR w' (fun k=>lab' k=14) 184 3 (fun _=>True) v n∧n≤m+1):ScIs (w'.setCell ⟨s,8,none⟩ v) lab' s { V with l0:=v } (m+1) o0 o1∧Stps lab w (fun k=>8≤k∧k≠9∧k<16) lab' (w'.setCell ⟨s,8,none⟩ v):=by
 have hb:=hs.blk h.blk (by rw[h.lb];decide);have hl:=(hs.lb h.blk).trans h.lb;have hs2:=(Stps.refl lab' w' (·=8)).set hb (by decide) hl 8 v;exact⟨⟨hb.set 8 v,hl,h.i0.imp (fun _ k=>⟨(k.1.far hs (by decide)).far hs2 (by decide),Nat.le_succ_of_le k.2⟩),h.i1.imp (fun _ k=>⟨(k.1.far hs (by decide)).far hs2 (by decide),Nat.le_succ_of_le k.2⟩),⟨(h.o0.1.far hs (by decide)).far hs2 (by decide),Nat.le_succ_of_le h.o0.2⟩,⟨(h.o1.1.far hs (by decide)).far hs2 (by decide),Nat.le_succ_of_le h.o1.2⟩,hr.imp (fun _ k=>⟨k.1.lab hs2 (by decide),k.2⟩),h.l1.imp (fun _ k=>⟨(k.1.lab hs (by decide)).lab hs2 (by decide),Nat.le_succ_of_le k.2⟩)⟩,(hs.mono (fun i e=>by omega)).trans (hs2.mono (fun i e=>by omega))⟩
theorem ScIs.put_l1 (h:ScIs w lab s V m o0 o1) (hs:Stps lab w (·=15) lab' w') {v:Value} (hr:∃n,SR w' (fun k=>lab' k=15) 184 3 (fun _=>True) v n∧n≤m+1):ScIs (w'.setCell ⟨s,9,none⟩ v) lab' s { V with l1:=v } (m+1) o0 o1∧Stps lab w (fun k=>8≤k∧k≠9∧k<16) lab' (w'.setCell ⟨s,9,none⟩ v):=by
 have hb:=hs.blk h.blk (by rw[h.lb];decide);have hl:=(hs.lb h.blk).trans h.lb;have hs2:=(Stps.refl lab' w' (·=8)).set hb (by decide) hl 9 v;exact⟨⟨hb.set 9 v,hl,h.i0.imp (fun _ k=>⟨(k.1.far hs (by decide)).far hs2 (by decide),Nat.le_succ_of_le k.2⟩),h.i1.imp (fun _ k=>⟨(k.1.far hs (by decide)).far hs2 (by decide),Nat.le_succ_of_le k.2⟩),⟨(h.o0.1.far hs (by decide)).far hs2 (by decide),Nat.le_succ_of_le h.o0.2⟩,⟨(h.o1.1.far hs (by decide)).far hs2 (by decide),Nat.le_succ_of_le h.o1.2⟩,h.l0.imp (fun _ k=>⟨(k.1.lab hs (by decide)).lab hs2 (by decide),Nat.le_succ_of_le k.2⟩),hr.imp (fun _ k=>⟨k.1.lab hs2 (by decide),k.2⟩)⟩,(hs.mono (fun i e=>by omega)).trans (hs2.mono (fun i e=>by omega))⟩
end
end Go.Proofs.YtjbijdmcceloaaaGreat.Top
