/- Part of the proof of topServes_holds. No condition. -/
import Derived.Laws.Bits128
import Derived.Test.YtjbijdmcceloaaaGreatQS7
set_option linter.unusedVariables false
set_option linter.unusedSimpArgs false
set_option maxHeartbeats 80000000
set_option maxRecDepth 100000
namespace Go.Proofs.YtjbijdmcceloaaaGreat.Top
open Go Go.RowKit Go.Proofs.YtjbijdmcceloaaaGreat Go.Proofs.YtjbijdmcceloaaaGreatW.PrintWords Go.Proofs.YtjbijdmcceloaaaGreatW.PrintLast Go.Proofs.YtjbijdmcceloaaaGreatW.PrintMore
theorem qlc {k:IntKind} {a b:Int} (h:a=b):Ending.returned (.int k a)=.returned (.int k b):=by rw[h]
theorem qea (n:Nat) (h:n<128) (w:World):Calls Tryz.prog 180 #[.int .u8 n] w fun e w'=>e=.returned (.int .u8 (Sig.rNext n:Nat))∧w=w':=by
 have h0:(0:Int)≤n:=by omega
 have h1:(n:Int)<128:=by omega
 go_enter Tryz.func180,Tryz.ntmps180;go_wp2;go_ret;exact⟨qlc (by unfold Sig.rNext;omega),rfl⟩
theorem qgg (n:Nat) (h:n<128) (w:World):Calls Tryz.prog 182 #[.int .u8 n] w fun e w'=>e=.returned (.int .u8 (Sig.rPrev n:Nat))∧w=w':=by
 have h0:(0:Int)≤n:=by omega
 have h1:(n:Int)<128:=by omega
 go_enter Tryz.func182,Tryz.ntmps182;go_wp2;go_ret;exact⟨qlc (by unfold Sig.rPrev;omega),rfl⟩
theorem qe8 (a b:Nat) (ha:a<128) (hb:b<128) (w:World):Calls Tryz.prog 183 #[.int .u8 a,.int .u8 b] w fun e w'=>e=.returned (.int .i64 (Sig.rGap a b:Nat))∧w=w':=by
 have h0:(0:Int)≤a:=by omega
 have h1:(a:Int)<128:=by omega
 have h2:(0:Int)≤b:=by omega
 have h3:(b:Int)<128:=by omega
 go_enter Tryz.func183,Tryz.ntmps183;go_wp2;go_ret;exact⟨qlc (by unfold Sig.rGap;omega),rfl⟩
theorem qj4 (n:Int) (h0:-1≤n) (h1:n<1000000) (w:World):Calls Tryz.prog 185 #[.int .i64 n] w fun e w'=>e=.returned (.int .u8 ((n+128).toNat%128:Nat))∧w=w':=by
 go_enter Tryz.func185,Tryz.ntmps185;go_wp2;go_ret;exact⟨qlc (by rw[i64_and127];omega),rfl⟩
def octs (l:List Nat):List Value:=l.map fun n:Nat=>.int .u8 (n:Int)
def Oct (w:World) (v:Value) (l:List Nat):Prop:=Rw w (fun _=>True) 5 v (octs l)
def Octs (w:World):List Value→List (List Nat)→Prop
 |[],[]=>True
 |v::vs,p::ps=>Oct w v p∧Octs w vs ps
 |_,_=>False
theorem qbc (l:List Nat):(octs l).length=l.length:=by simp[octs]
theorem Oct.slice {w:World} {v:Value} {l:List Nat} (h:Oct w v l):∃A c,v=.slice A l.length c∧l.length≤c∧c≤maxLen∧∀k,qau v=some k→Typed w k 5∧k<w.heap.size:=by
 obtain⟨A,c,e,h1,h2,h3⟩:=Rw.slice h;rw[qbc] at e h1;exact⟨A,c,e,h1,h2,fun k hk=>⟨(h3 k hk).2.1,(h3 k hk).2.2⟩⟩
def qca (P:Nat→Prop) (w:World):Prop:=∀k,P k→¬Typed w k 5
theorem Oct.only {P:Nat→Prop} {w w':World} {v:Value} {l:List Nat} (h:Oct w v l) (ho:Only P w w') (hn:qca P w):Oct w' v l:=Rw.only h ho (fun k _ ht _ hp=>hn k hp ht)
theorem Oct.below {w w':World} {v:Value} {l:List Nat} (h:Oct w v l) (hb:Below w.heap.size w w'):Oct w' v l:=Rw.below h hb
theorem Octs.len {w:World}:∀{vs:List Value} {l:List (List Nat)},Octs w vs l→vs.length=l.length
 |[],[],_=>rfl
 |v::vs,p::ps,h=>by simp[Octs.len h.2]
theorem Octs.imp {w w':World} (hi:∀v p,Oct w v p→Oct w' v p):∀{vs:List Value} {l:List (List Nat)},Octs w vs l→Octs w' vs l
 |[],[],_=>trivial
 |v::vs,p::ps,h=>⟨hi _ _ h.1,Octs.imp hi h.2⟩
theorem Octs.get {w:World}:∀{vs:List Value} {l:List (List Nat)},Octs w vs l→∀(i:Nat) (hi:i<l.length),∃v,vs[i]?=some v∧Oct w v l[i]
 |v::vs,p::ps,h,0,_=>⟨v,rfl,h.1⟩
 |v::vs,p::ps,h,i+1,hi=>by
  obtain⟨u,h1,h2⟩:=Octs.get h.2 i (by simpa using hi);exact⟨u,by simpa using h1,by simpa using h2⟩
 |[],[],_,_,hi=>absurd hi (Nat.not_lt_zero _)
 |[],_::_,h,_,_=>h.elim
theorem Octs.snoc {w:World} {v:Value} {p:List Nat} (hv:Oct w v p):∀{vs:List Value} {l:List (List Nat)},Octs w vs l→Octs w (vs++[v]) (l++[p])
 |[],[],_=>⟨hv,trivial⟩
 |u::us,q::qs,h=>⟨h.1,Octs.snoc hv h.2⟩
theorem Octs.drop {w:World}:∀(k:Nat) {vs:List Value} {l:List (List Nat)},Octs w vs l→Octs w (vs.drop k) (l.drop k)
 |0,vs,l,h=>by simpa using h
 |k+1,[],[],h=>by simp[Octs]
 |k+1,v::vs,p::ps,h=>by simpa using Octs.drop k h.2
theorem Octs.one {w:World}:∀{vs:List Value} {l:List (List Nat)},Octs w vs l→∀u∈vs,u.oneCell'=true
 |[],[],_,u,hu=>by cases hu
 |v::vs,p::ps,h,u,hu=>by
  rcases List.mem_cons.1 hu with rfl|hu
  ·obtain⟨A,c,rfl,_⟩:=h.1.slice;rfl
  ·exact Octs.one h.2 u hu
theorem qi2 (l:List Nat):∀u∈octs l,u.oneCell'=true:=by
 intro u hu;simp only[octs,List.mem_map] at hu;obtain⟨n,_,rfl⟩:=hu;rfl
structure HoldAt (w:World) (g:Nat) (O:Nat→Prop) (x:Sig.Hold) (vs vn:Value):Prop where
 blk:Blk w g 148 [.int .i64 x.most,.int .i64 x.octets,vs,.int .u8 x.first,vn]
 sent:∃ss,Rw w O 23 vs ss∧Octs w ss x.sent
 next:∃ns,Rw w O 23 vn ns∧Octs w ns x.next
 ne:∀k,qau vs=some k→qau vn≠some k
structure HOk (x:Sig.Hold):Prop where
 most:x.most≤512
 octets:x.octets≤1048576
 first:x.first<128
 sent:x.sent.length≤127
 all:x.sent.length+x.next.length≤512
 size:Sig.size x.sent+Sig.size x.next≤1048576
 long:∀p,p∈x.sent∨p∈x.next→3≤p.length∧p.length≤273∧∀b∈p,b<256
theorem HoldAt.slices {w:World} {g:Nat} {O:Nat→Prop} {x:Sig.Hold} {vs vn:Value} (h:HoldAt w g O x vs vn) :
  ∃As cs An cn,vs=.slice As x.sent.length cs∧vn=.slice An x.next.length cn∧x.sent.length≤cs∧cs≤maxLen∧x.next.length≤cn∧cn≤maxLen:=by
 obtain⟨ss,hs,hs'⟩:=h.sent;obtain⟨ns,hn,hn'⟩:=h.next;obtain⟨As,cs,e1,a1,a2,_⟩:=hs.slice;obtain⟨An,cn,e2,b1,b2,_⟩:=hn.slice;rw[hs'.len] at e1 a1;rw[hn'.len] at e2 b1;exact⟨As,cs,An,cn,e1,e2,a1,a2,b1,b2⟩
theorem HoldAt.cells {w:World} {g:Nat} {O:Nat→Prop} {x:Sig.Hold} {vs vn:Value} (h:HoldAt w g O x vs vn) :
  w.cell? ⟨g,0,none⟩=some (.int .i64 x.most)∧w.cell? ⟨g,1,none⟩=some (.int .i64 x.octets)∧w.cell? ⟨g,2,none⟩=some vs∧w.cell? ⟨g,3,none⟩=some (.int .u8 x.first)∧w.cell? ⟨g,4,none⟩=some vn∧w.frozen? ⟨g,2,none⟩=false∧w.frozen? ⟨g,3,none⟩=false∧w.frozen? ⟨g,4,none⟩=false :=
 ⟨h.blk.c 0 rfl,h.blk.c 1 rfl,h.blk.c 2 rfl,h.blk.c 3 rfl,h.blk.c 4 rfl,h.blk.f _,h.blk.f _,h.blk.f _⟩
theorem qd4 {w:World} {g:Nat} {O:Nat→Prop} {x:Sig.Hold} {vs vn:Value} (h:HoldAt w g O x vs vn):Calls Tryz.prog 38 #[.pointer (some ⟨g,0,none⟩)] w fun e w'=>e=.returned (.int .i64 (x.sent.length:Nat))∧w=w':=by
 obtain⟨As,cs,An,cn,rfl,rfl,_⟩:=h.slices;obtain⟨c0,c1,c2,c3,c4,f2,f3,f4⟩:=h.cells;clear h;go_enter Tryz.func38,Tryz.ntmps38;go_wp2;go_ret;exact⟨rfl,rfl⟩
theorem qry {w:World} {g:Nat} {O:Nat→Prop} {x:Sig.Hold} {vs vn:Value} (h:HoldAt w g O x vs vn):Calls Tryz.prog 40 #[.pointer (some ⟨g,0,none⟩)] w fun e w'=>e=.returned (.int .i64 (x.next.length:Nat))∧w=w':=by
 obtain⟨As,cs,An,cn,rfl,rfl,_⟩:=h.slices;obtain⟨c0,c1,c2,c3,c4,f2,f3,f4⟩:=h.cells;clear h;go_enter Tryz.func40,Tryz.ntmps40;go_wp2;go_ret;exact⟨rfl,rfl⟩
theorem qow (l:List (List Nat)) (i:Nat) (h:i<l.length):Sig.size (l.take (i+1))=Sig.size (l.take i)+l[i].length:=by
 unfold Sig.size;rw[List.take_succ_eq_append_getElem h,List.map_append,List.sum_append];simp
theorem qfk (l:List (List Nat)) (i:Nat):Sig.size (l.take i)≤Sig.size l:=by
 have:Sig.size l=Sig.size (l.take i)+Sig.size (l.drop i):=by
  unfold Sig.size;rw[←List.sum_append,←List.map_append,List.take_append_drop]
 omega
theorem qe4 {w:World} {P:Nat→Prop} {v:Value} {us:List Value} {l:List (List Nat)} (h:Rw w P 23 v us) (ho:Octs w us l) (hl:l.length≤1000000) (hs:Sig.size l≤10000000):Calls Tryz.prog 53 #[v] w fun e w'=>e=.returned (.int .i64 (Sig.size l:Nat))∧w=w':=by
 obtain⟨A,c,rfl,hlc,_⟩:=h.slice;have hlen:=ho.len;rw[hlen];rw[hlen] at hlc h;have H:=am h;have HO:=am ho;have HL:=am hlen;clear h ho hlen;go_enter Tryz.func53,Tryz.ntmps53;go_wp2
 go_loop [3,8] (fun v3 v8=>∃i:Nat,i≤l.length∧v8=.int .i64 i∧v3=.int .i64 ((Sig.size (l.take i):Nat):Int)) (fun _ v8=>l.length-(intOf v8).toNat)
 case atStart=>exact⟨0,Nat.zero_le _,rfl,rfl⟩
 case round =>
  obtain⟨i,hi,rfl,rfl⟩:=hrel;by_cases hlt:i<l.length
  ·obtain⟨u,hu,hoct⟩:=HO.out.get i hlt;obtain⟨g,off,c',e,_,hc⟩:=H.out.get i hu;simp only[Value.slice.injEq] at e;obtain⟨rfl,_,_⟩:=e;obtain⟨B,d,rfl,_⟩:=hoct.slice;have HST:=am (qow l i hlt);have hle:=qfk l i;have hle1:=qfk l (i+1);rw[HST.out] at hle1;have b1:decide ((i:Int)<(l.length:Int))=true:=decide_eq_true (by omega);have p1:=eq_true (show 0≤(i:Int) by omega);have p2:=eq_true (show (i:Int)<(l.length:Int) by omega);clear hu hoct;generalize l[i]=p at *;generalize Sig.size (l.take i)=m at *;go_wp2
   go_round
   case rel=>exact⟨i+1,by omega,by first|rfl|go_num,by rw[HST.out];first|rfl|go_num⟩
   case measure=>(simp[intOf];omega)
  ·obtain rfl:i=l.length:=by omega
   have b1:decide ((l.length:Int)<(l.length:Int))=false:=decide_eq_false (by omega);rw[List.take_length];go_wp2;go_ret;exact⟨rfl,rfl⟩
theorem qf {P:Program} {f:FuncId} {args:Array Value} {w:World} {v:Value} (h:Calls P f args w fun e w'=>e=.returned v∧w=w'):Calls P f args w fun e w'=>e=.returned v∧w'=w:=h.mono fun _ _ ⟨a,b⟩=>⟨a,b.symm⟩
theorem HoldAt.drew {w:World} {g:Nat} {O:Nat→Prop} {x:Sig.Hold} {vs vn:Value} (h:HoldAt w g O x vs vn):HoldAt w.drew g O x vs vn:=⟨h.blk,h.sent.imp fun _ h=>⟨h.1,Octs.imp (w:=w) (w':=w.drew) (fun _ _ h=>h) h.2⟩,h.next.imp fun _ h=>⟨h.1,Octs.imp (w:=w) (w':=w.drew) (fun _ _ h=>h) h.2⟩,h.ne⟩
theorem qoi (a b:Nat) (h:a+b<9000000000000000000):IntKind.i64.wrap ((a:Int)+(b:Int))=(a:Int)+(b:Int):=IntWalk.i64_in _ (by omega)
theorem qf0 {w:World} {g:Nat} {O:Nat→Prop} {x:Sig.Hold} {vs vn:Value} (h:HoldAt w g O x vs vn) (ok:HOk x) :
  Calls Tryz.prog 39 #[.pointer (some ⟨g,0,none⟩)] w fun e w'=>e=.returned (.int .i64 (Sig.size x.sent:Nat))∧w=w':=by
 obtain⟨ss,hs,hs'⟩:=h.sent;obtain⟨As,cs,An,cn,rfl,rfl,l1,l2,l3,l4⟩:=h.slices;obtain⟨c0,c1,c2,c3,c4,f2,f3,f4⟩:=h.cells;have HS:=am hs;have HO:=am hs';have b1:=ok.size;have b2:=ok.sent;clear h hs hs' ok;go_enter Tryz.func39,Tryz.ntmps39
 go_wp2_with fail
 refine(qe4 HS.out HO.out (by omega) (by omega)).mono ?_;rintro e w1 ⟨rfl,rfl⟩;go_wp2;go_ret;exact⟨rfl,rfl⟩
theorem qub {w:World} {g:Nat} {O:Nat→Prop} {x:Sig.Hold} {vs vn:Value} (h:HoldAt w g O x vs vn) (ok:HOk x) :
  Calls Tryz.prog 41 #[.pointer (some ⟨g,0,none⟩)] w fun e w'=>e=.returned (.int .i64 ((Sig.size x.sent+Sig.size x.next:Nat):Int))∧w'=w.drew:=by
 have hd:=h.drew;obtain⟨ss,hs,hs'⟩:=hd.sent;obtain⟨ns,hn,hn'⟩:=hd.next;obtain⟨As,cs,An,cn,rfl,rfl,l1,l2,l3,l4⟩:=h.slices;obtain⟨c0,c1,c2,c3,c4,f2,f3,f4⟩:=h.cells;have HS:=am hs;have HO:=am hs';have HN:=am hn;have HP:=am hn';have b1:=ok.size;have b2:=ok.sent;have b3:=ok.all;have hw:=qoi (Sig.size x.sent) (Sig.size x.next) (by omega);clear h hs hs' hn hn' ok hd;go_enter Tryz.func41,Tryz.ntmps41
 go_wp2_with fail
 go_still_tail 11,(by kernel_rfl)
 still_call (qf (qe4 HS.out HO.out (by omega) (by omega)))
 repeat still_step
 still_call (qf (qe4 HN.out HP.out (by omega) (by omega)))
 repeat still_step
 refine wpStill_nil ?_;change wpList _ _ _ _ _ w.drew;go_wp2;go_ret;exact⟨qlc (by omega),rfl⟩
theorem qw8 {w:World} {g:Nat} {O:Nat→Prop} {x:Sig.Hold} {vs vn:Value} (h:HoldAt w g O x vs vn) (ok:HOk x) :
  Calls Tryz.prog 186 #[.pointer (some ⟨g,0,none⟩)] w fun e w'=>e=.returned (.int .i64 (((x.next.headD []).length:Nat):Int))∧w=w':=by
 obtain⟨ns,hn,hn'⟩:=h.next;obtain⟨As,cs,An,cn,rfl,rfl,l1,l2,l3,l4⟩:=h.slices;obtain⟨c0,c1,c2,c3,c4,f2,f3,f4⟩:=h.cells;have H:=am h;have hlen:=hn'.len;clear h ok;rcases hx:x.next with _|⟨p,r⟩
 ·have b1:(((x.next.length:Nat):Int)==0)=true:=by rw[hx];rfl
  clear hx hn hn' hlen c0 c1 c2 c3 c4 f2 f3 f4;go_enter Tryz.func186,Tryz.ntmps186
  go_wp2_with fail
  refine(qry H.out).mono ?_;rintro e w1 ⟨rfl,rfl⟩;go_wp2;go_ret;exact⟨rfl,rfl⟩
 ·have b1:(((x.next.length:Nat):Int)==0)=false:=by rw[hx];exact beq_eq_false_iff_ne.2 (by simp only[List.length_cons];omega)
  obtain⟨u,hu,hoct⟩:=hn'.get 0 (by rw[hx];simp);obtain⟨g1,off,c',e,_,hc⟩:=hn.get 0 hu;simp only[Value.slice.injEq] at e;obtain⟨rfl,_,_⟩:=e;obtain⟨B,d,rfl,hz⟩:=hoct.slice;clear hz;have p2:=eq_true (show (0:Int)<(x.next.length:Int) by rw[hx];simp only[List.length_cons];omega);have p3:0<x.next.length:=by rw[hx];simp
  have hq:x.next[0]'(by rw[hx];simp)=p:=by simp[hx]
  rw[hq] at hc;rw[Nat.add_zero] at hc;clear hu hoct hn hn' hlen;clear hq;clear hx;go_enter Tryz.func186,Tryz.ntmps186
  go_wp2_with fail
  refine(qry H.out).mono ?_;rintro e w1 ⟨rfl,rfl⟩;go_wp2;go_ret;exact⟨rfl,rfl⟩
theorem qrz {w:World} {g:Nat} {O:Nat→Prop} {x:Sig.Hold} {vs vn:Value} (h:HoldAt w g O x vs vn) (ok:HOk x) :
  Calls Tryz.prog 175 #[.pointer (some ⟨g,0,none⟩)] w fun e w'=>e=.returned (.int .u8 (x.last:Nat))∧w'=w.drew:=by
 obtain⟨As,cs,An,cn,rfl,rfl,l1,l2,l3,l4⟩:=h.slices;obtain⟨c0,c1,c2,c3,c4,f2,f3,f4⟩:=h.cells;have b1:=ok.first;have b2:=ok.sent;have i1:(0:Int)≤(x.first:Int):=by omega
 have i2:(x.first:Int)<128:=by omega
 clear h ok;go_enter Tryz.func175,Tryz.ntmps175
 go_wp2_with fail
 go_still_tail 12,(by kernel_rfl);change wpList _ _ _ _ _ w.drew
 go_wp2_with fail
 refine(qj4 _ (by omega) (by omega) _).mono ?_;rintro e w1 ⟨rfl,rfl⟩;go_wp2;go_ret;exact⟨qlc (by unfold Sig.Hold.last;omega),rfl⟩
theorem qis (n first last:Nat) (hn:n<128) (h1:first<128) (h2:last<128) (w:World) :
  Calls Tryz.prog 181 #[.int .u8 n,.int .u8 first,.int .u8 last] w fun e w'=>e=.returned (.bool (Sig.rWithin n first last))∧w=w':=by
 have hw:Sig.rWithin n first last=decide (Sig.rGap first n≤Sig.rGap first last):=by unfold Sig.rWithin;rw[Bool.eq_iff_iff];simp
 rw[hw];clear hw;go_enter Tryz.func181,Tryz.ntmps181
 go_wp2_with fail
 refine(qe8 _ _ h1 hn _).mono ?_;rintro e w1 ⟨rfl,rfl⟩
 go_wp2_with fail
 refine(qe8 _ _ h1 h2 _).mono ?_;rintro e w1 ⟨rfl,rfl⟩;go_wp2;go_ret;exact⟨rfl,rfl⟩
theorem qsq {w:World} {g:Nat} {O:Nat→Prop} {x:Sig.Hold} {vs vn:Value} (h:HoldAt w g O x vs vn) (ok:HOk x) (n:Nat) (hn:n<256) :
  Calls Tryz.prog 171 #[.pointer (some ⟨g,0,none⟩),.int .u8 n] w fun e w'=>e=.returned (.bool (x.knows n))∧∃k,w'=w.drewN k:=by
 obtain⟨As,cs,An,cn,rfl,rfl,l1,l2,l3,l4⟩:=h.slices;obtain⟨c0,c1,c2,c3,c4,f2,f3,f4⟩:=h.cells;have b1:=ok.first;have H:=am h;have OK:=am ok;clear h ok;by_cases hlt:n<128
 ·have d1:decide ((n:Int)<128)=true:=decide_eq_true (by omega);have hp1:Sig.rPrev x.first<128:=by unfold Sig.rPrev;omega
  have hp2:x.last<128:=by unfold Sig.Hold.last;omega
  have hk:x.knows n=Sig.rWithin n (Sig.rPrev x.first) x.last:=by unfold Sig.Hold.knows;simp[hlt]
  rw[hk];clear hk;go_enter Tryz.func171,Tryz.ntmps171
  go_wp2_with fail
  refine(qgg _ b1 _).mono ?_;rintro e w1 ⟨rfl,rfl⟩
  go_wp2_with fail
  refine(qrz H.out OK.out).mono ?_;rintro e w1 ⟨rfl,rfl⟩
  go_wp2_with fail
  refine(qis _ _ _ hlt hp1 hp2 _).mono ?_;rintro e w1 ⟨rfl,rfl⟩;go_wp2;go_ret;exact⟨rfl,1,rfl⟩
 ·have d1:decide ((n:Int)<128)=false:=decide_eq_false (by omega);have hk:x.knows n=false:=by unfold Sig.Hold.knows;simp[hlt]
  rw[hk];clear hk;go_enter Tryz.func171,Tryz.ntmps171
  go_wp2_with fail
  go_ret;exact⟨rfl,0,rfl⟩
theorem qa8 {P:Program} {o:Oper} {a:Act} {w:World} {s x:Operand} {t:TypeId} (ho:o.op=.call { callee:=.builtin .append,args:=#[s,x],argTypes:=#[t,t] }) {vs vx:Value} (hs:a.eval s=vs) (hx:a.eval x=vx) {v1:Value} {w1:World} (hrun:(Builtin.append_ #[t,t] o.type #[vs,vx]).run P w=.ok v1 w1):(execOp a.eval o).run P w=.ok (.value v1) w1:=by
 unfold execOp;simp[ho,resolve,invoke,builtin,hs,hx,hrun,Result.andThen]
theorem qap {P:Program} {w:World} {ops:Array Oper} {rest:List Oper} {o:Oper} {a:Act} {Q:Exit→Act→World→Prop} (hgd:o.guard=none) (s x:Operand) (t:TypeId)
  (ho:o.op=.call { callee:=.builtin .append,args:=#[s,x],argTypes:=#[t,t] }) (vs vx:Value) (hs:a.eval s=vs) (hx:a.eval x=vx) (v1:Value) (w1:World) (hrun:(Builtin.append_ #[t,t] o.type #[vs,vx]).run P w=.ok v1 w1)
  (h:wpList P ops Q rest (a.put o.dst v1) w1):wpList P ops Q (o::rest) a w:=by
 refine wpList_plain hgd fun K hK=>?_;unfold Oper.wp;simp[execOp,ho,resolve,invoke,builtin,hs,hx,hrun,Result.andThen];exact hK _ _ h
structure Made (w w':World) (v:Value) (l:List Nat):Prop where
 below:Below w.heap.size w w'
 own:w'.ownsRow w.heap.size 5 1 v l.length (octs l)
theorem Made.oct {w w':World} {v:Value} {l:List Nat} (h:Made w w' v l):Oct w' v l:=by
 have:=h.own;rw[←qbc l] at this;exact qdj this (fun _ _=>trivial)
theorem Made.kd {w w':World} {v:Value} {l:List Nat} (h:Made w w' v l) (O:Nat→Prop) (hO:∀k,w.heap.size≤k→k<w'.heap.size→O k):(Kd.int .u8).R 5 w' 0 O v (l.map (fun n:Nat=>(n:Int))):=by
 have h1:w'.ownsRow w.heap.size 5 1 v (l.map (fun n:Nat=>(n:Int))).length (qlw (Value.int .u8) (l.map (fun n:Nat=>(n:Int)))):=by
  have:=h.own;simp only[List.length_map,qlw,List.map_map];exact this
 have h2:=Kd.R_of_own (h1:=fun _=>rfl) h1 (ok:=O) (fun k hk=>hO k (qcp h1 k hk) (own_lt h1 k hk));exact Kd.R_lower h2 (Nat.zero_le _)
def qm0 (w:World) (l:List Nat) (e:Ending) (w':World):Prop:=∃v,e=.returned v∧Made w w' v l
theorem qb3 {w:World} {v:Value} {l:List Nat} (h:Oct w v l) (h0:0<l.length) (hl:l.length≤1000000):Calls Tryz.prog 91 #[v] w (qm0 w l):=by
 obtain⟨i0,hi,hz0,hz1,hz2⟩:=info_parts el5.info;rcases h with ⟨_,e⟩|⟨g,off,c,cells,rfl,n1,n2,⟨frn,n3,_⟩,n4,n5,_⟩
 ·have h9:l.length=0:=by rw[←qbc l,e];rfl
  omega
 ·rw[qbc] at n1 ⊢;have hcells:∀j u,(octs l)[j]?=some u→(w.alloc (.cells #[] 5)).cell? ((⟨g,off,none⟩:Addr).add j)=some u:=by
   intro j u hu;rw[Addr.add_lit];exact Lib.cell?_alloc_some _ (by simp[World.cell?,n3,n5 j u hu])
  obtain⟨v1,w1,hrun,ho,hg⟩:=run_append_arg_grows (P:=Tryz.prog) (w.alloc (.cells #[] 5)) 23 23 5 i0 (.int .u8 0) 1 1 el5.ht hi hz0 hz1 hz2 rfl (by omega) ⟨w.heap.size,0,none⟩ 0 0 [] rfl (by intro j u hj;simp at hj) ⟨g,off,none⟩ l.length c (octs l) (by rw[qbc];omega) hcells (by omega) (by simp only[maxLen];omega) (by omega);have hsz:(w.alloc (.cells #[] 5)).heap.size=w.heap.size+1:=by simp[World.alloc_eq]
  have HM:qac (Made w w1 v1 l):=⟨(qaa (Below.refl _ _) _).grown hg (by omega) (fun k hk=>by simp at hk),by
   simpa using qhn ho (show w.heap.size≤(w.alloc (.cells #[] 5)).heap.size by omega)⟩
  have HK:=am hrun;have hnil:=fun (W:World)=>Lib.run_eql_slice_nil (P:=Tryz.prog) W 23 5 (some ⟨g,off,none⟩) l.length c 0 0 el5.ht;clear hrun ho hg hsz hcells hi hz0 hz1 hz2 n1 n2 n3 n4 n5;go_enter Tryz.func91,Tryz.ntmps91
  go_wp2_with (first
  |((with_reducible refine qao (b:=.append) (xs:=#[.tmp 5,.tmp 6]) rfl ?_);refine qap rfl (.tmp 5) (.tmp 6) 23 rfl (.slice (some ⟨w.heap.size,0,none⟩) 0 0) (.slice (some ⟨g,off,none⟩) l.length c) rfl rfl v1 w1 HK.out ?_))
  go_ret;exact⟨_,rfl,HM.out⟩
def WrH (g:Nat) (O:Nat→Prop) (w:World) (k:Nat):Prop:=k=g∨(O k∧Typed w k 23)
def HActs (g:Nat) (O:Nat→Prop) (w:World) (x:Sig.Hold) (r:Value) (e:Ending) (w':World):Prop:=e=.returned r∧(∃vs vn,HoldAt w' g (qbe O w w') x vs vn)∧Only (WrH g O w) w w'
section
variable {w w' w1 w2:World} {g:Nat} {O Q:Nat→Prop} {x:Sig.Hold} {vs vn:Value}
theorem HoldAt.only (h:HoldAt w g O x vs vn) (ho:Only Q w w') (hg:¬Q g) (h23:∀k,O k→Typed w k 23→¬Q k) (h5:qca Q w):HoldAt w' g O x vs vn:=by
 obtain⟨ss,a1,a2⟩:=h.sent;obtain⟨ns,b1,b2⟩:=h.next;exact⟨h.blk.only ho hg,⟨ss,a1.only ho (fun k hk ht _=>h23 k hk ht),a2.imp (fun _ _ hh=>hh.only ho h5)⟩,⟨ns,b1.only ho (fun k hk ht _=>h23 k hk ht),b2.imp (fun _ _ hh=>hh.only ho h5)⟩,h.ne⟩
theorem Only.below {P:Nat→Prop} (hb:Below w.heap.size w w'):Only P w w':=⟨hb.os,hb.tape,hb.output,hb.size,fun k hk _=>hb.block k hk⟩
theorem HoldAt.below (h:HoldAt w g O x vs vn) (hb:Below w.heap.size w w'):HoldAt w' g O x vs vn:=h.only (Only.below (P:=fun _=>False) hb) (fun h=>h) (fun _ _ _ h=>h) (fun _ h=>h.elim)
theorem HoldAt.mono {O':Nat→Prop} (h:HoldAt w g O x vs vn) (hm:∀k,O k→k<w.heap.size→O' k):HoldAt w g O' x vs vn:=by
 obtain⟨ss,a1,a2⟩:=h.sent;obtain⟨ns,b1,b2⟩:=h.next;exact⟨h.blk,⟨ss,a1.mono (fun k hk _ hlt _=>hm k hk hlt),a2⟩,⟨ns,b1.mono (fun k hk _ hlt _=>hm k hk hlt),b2⟩,h.ne⟩
theorem HoldAt.same (h:HoldAt w g O x vs vn) (hb:Below w.heap.size w w') {r:Value}:HActs g O w x r (.returned r) w':=⟨rfl,⟨vs,vn,(h.below hb).mono (fun k hk _=>Or.inl hk)⟩,Only.below hb⟩
theorem HoldAt.drewN (h:HoldAt w g O x vs vn) (n:Nat):HoldAt (w.drewN n) g O x vs vn:=h.below (qab (Below.refl _ _) n)
theorem qfg (w:World) (P:Nat→Prop) (hP:P w.heap.size) (e:Nat) (v:Value):Rw (w.alloc (.cells #[v] e)) P e (.slice (some ⟨w.heap.size,0,none⟩) 1 1) [v] :=
 Or.inr ⟨w.heap.size,0,1,#[v],rfl,Nat.le_refl _,by simp[maxLen],⟨(0,0),heap_alloc_new w _,fun _=>rfl⟩,by simp,fun j u hj=>by
  match j with
  |0=>simpa using hj
  |j+1=>simp at hj,hP⟩
theorem qmt (h:HoldAt w g O x vs vn) (ok:HOk x) (n:Nat):Calls Tryz.prog 41 #[.pointer (some ⟨g,0,none⟩)] (w.drewN n) fun e w'=>e=.returned (.int .i64 ((Sig.size x.sent+Sig.size x.next:Nat):Int))∧∃m,w'=(w.drewN n).drewN m :=
 (qub (h.drewN n) ok).mono fun _ _ ⟨a,b⟩=>⟨a,1,b⟩
theorem qta (h:HoldAt w g O x vs vn) (ok:HOk x) {p:List Nat} {v1:Value} (hb:Below w.heap.size w w2) (hc:Oct w2 v1 p) (r:Value) :
  ∃v4 w4,(∃A n c,v4=.slice A n c)∧(Builtin.append_ #[77,77] 77 #[vn,.slice (some ⟨w2.heap.size,0,none⟩) 1 1]).run Tryz.prog (w2.alloc (.cells #[v1] 23))=.ok v4 w4∧w4.cell? ⟨g,4,none⟩=some vn∧w4.frozen? ⟨g,4,none⟩=false ∧
   HActs g O w { x with next:=x.next++[p] } r (.returned r) (w4.setCell ⟨g,4,none⟩ v4):=by
 have hb3:Below w.heap.size w (w2.alloc (.cells #[v1] 23)):=hb.alloc (by have:=hb.size;omega) _;have hb23:Below w2.heap.size w2 (w2.alloc (.cells #[v1] 23)):=qaa (Below.refl _ _) _;have h3:=h.below hb3;have hs3:(w2.alloc (.cells #[v1] 23)).heap.size=w2.heap.size+1:=by simp[World.alloc_eq]
 have hs2:=hb.size;obtain⟨ns,b1,b2⟩:=h3.next;have hln:=b2.len;have hall:=ok.all;obtain⟨v4,w4,hrun,hR,hO,hat⟩:=Rw.append el23 77 (P:=fun k=>O k∨w.heap.size≤k) (b1.mono (fun k hk _ _ _=>Or.inl hk)) (qfg w2 (fun _=>True) trivial 23 v1) (fun u hu=>by rw[List.mem_singleton.1 hu];obtain⟨A,c,rfl,_⟩:=hc.slice;rfl) b2.one (by simp only[List.length_singleton];omega) (fun k hk=>Or.inr (by omega));have hvn:∀k,qau vn=some k→O k∧Typed w k 23∧k<w.heap.size:=fun k hk=>by
  obtain⟨ns0,c1,_⟩:=h.next;obtain⟨_,_,_,_,_,hh⟩:=c1.slice;exact hh k hk
 have hg:=h.blk.lt;have hgt:∀k,qau vn=some k→k≠g:=fun k hk e=>by
  subst e;exact absurd ((hvn k hk).2.1.ne h.blk.typed) (by decide)
 have hO4:Only (fun k=>qau vn=some k) w w4:=(Only.below hb3).trans hO;have hblk4:=h3.blk.only hO (fun e=>hgt g e rfl);have hno:qca (fun k=>qau vn=some k) (w2.alloc (.cells #[v1] 23)):=fun k hk ht=>absurd (ht.ne ((hvn k hk).2.1.elim fun c ⟨fr,e⟩=>⟨c,fr,(hb3.block k (hvn k hk).2.2).trans e⟩)) (by decide);have hsz4:=hO4.size;have hsg:Only (·=g) w4 (w4.setCell ⟨g,4,none⟩ v4):=(Only.refl (·=g) w4).set (p:=⟨g,4,none⟩) rfl v4;have hss:=qa0 w4 ⟨g,4,none⟩ v4;have hg4:∀k,Typed w4 k 23→¬k=g:=fun k ht e=>by subst e;exact absurd (ht.ne hblk4.typed) (by decide)
 have hg5:qca (·=g) w4:=fun k e ht=>by
  have e:k=g:=e;subst e;exact absurd (ht.ne hblk4.typed) (by decide)
 refine⟨v4,w4,hR.slice.imp fun A h=>⟨_,h.imp fun c h=>h.1⟩,hrun,hblk4.c 4 rfl,hblk4.f 4,rfl,⟨vs,v4,?_,?_,?_,?_⟩,?_⟩
 ·exact hblk4.set 4 v4
 ·obtain⟨ss,a1,a2⟩:=h3.sent;refine⟨ss,(((a1.only hO (fun k _ _ hk hh=>h.ne k hk hh)).only hsg (fun k _ ht _=>hg4 k ht))).mono (fun k hk _ _ _=>Or.inl hk),a2.imp (fun _ _ hh=>(hh.only hO hno).only hsg hg5)⟩
 ·refine⟨ns++[v1],(hR.only hsg (fun k _ ht _=>hg4 k ht)).mono (fun k hk _ hlt _=>?_),Octs.imp (fun _ _ hh=>(hh.only hO hno).only hsg hg5) (Octs.snoc (hc.below hb23) b2)⟩;rcases hk with hk|hk
  ·exact Or.inl hk
  ·exact Or.inr ⟨hk,hlt⟩
 ·intro k hk e;rcases hat with hat|⟨b,hb',hle⟩
  ·exact h.ne k hk (hat.symm.trans e)
  ·rw[hb'] at e;simp only[Option.some.injEq] at e;subst e;obtain⟨ss0,c1,_⟩:=h.sent;obtain⟨_,_,_,_,_,hh⟩:=c1.slice;have:=(hh _ hk).2.2;omega
 ·exact(hO4.mono (fun k hk=>Or.inr ⟨(hvn k hk).1,(hvn k hk).2.1⟩)).trans (hsg.mono (fun k hk=>Or.inl hk))
end
theorem qv1 {w:World} {g:Nat} {O:Nat→Prop} {x:Sig.Hold} {vs vn:Value} (h:HoldAt w g O x vs vn) :
  Calls Tryz.prog 65 #[.pointer (some ⟨g,0,none⟩)] w (HActs g O w { x with next:=[] } (.int .i64 (x.next.length:Nat))):=by
 obtain⟨As,cs,An,cn,rfl,rfl,l1,l2,l3,l4⟩:=h.slices;obtain⟨c0,c1,c2,c3,c4,f2,f3,f4⟩:=h.cells;have H:=am h;clear h;go_enter Tryz.func65,Tryz.ntmps65
 go_wp2_with fail
 go_ret;have h':=H.out.blk.set 4 (.slice none 0 0);have hsg:Only (·=g) w (w.setCell ⟨g,4,none⟩ (.slice none 0 0)):=(Only.refl (·=g) w).set (p:=⟨g,4,none⟩) rfl _;have hg4:∀k,Typed w k 23→¬k=g:=fun k ht e=>by subst e;exact absurd (ht.ne H.out.blk.typed) (by decide)
 have hg5:qca (·=g) w:=fun k e ht=>by
  have e:k=g:=e;subst e;exact absurd (ht.ne H.out.blk.typed) (by decide)
 obtain⟨ss,a1,a2⟩:=H.out.sent;exact⟨rfl,⟨_,_,h',⟨ss,(a1.only hsg (fun k _ ht _=>hg4 k ht)).mono (fun k hk _ _ _=>Or.inl hk),a2.imp (fun _ _ hh=>hh.only hsg hg5)⟩,⟨[],Rw.nil _ _ _,trivial⟩,fun k _ e=>by simp[qau] at e⟩,hsg.mono (fun k hk=>Or.inl hk)⟩
theorem qss {w:World} {g:Nat} {O:Nat→Prop} {x:Sig.Hold} {vs vn:Value} (h:HoldAt w g O x vs vn) :
  Calls Tryz.prog 162 #[.pointer (some ⟨g,0,none⟩)] w (HActs g O w x.clear (.tuple #[])):=by
 obtain⟨As,cs,An,cn,rfl,rfl,l1,l2,l3,l4⟩:=h.slices;obtain⟨c0,c1,c2,c3,c4,f2,f3,f4⟩:=h.cells;have H:=am h;clear h;go_enter Tryz.func162,Tryz.ntmps162
 go_wp2_with fail
 go_end0;have h':=((H.out.blk.set 2 (.slice none 0 0)).set 4 (.slice none 0 0)).set 3 (.int .u8 0);exact⟨rfl,⟨_,_,h',⟨[],Rw.nil _ _ _,trivial⟩,⟨[],Rw.nil _ _ _,trivial⟩,fun k _ e=>by simp[qau] at e⟩,((((Only.refl (·=g) w).set (p:=⟨g,2,none⟩) rfl _).set (p:=⟨g,4,none⟩) rfl _).set (p:=⟨g,3,none⟩) rfl _).mono (fun k hk=>Or.inl hk)⟩
theorem hPut {w:World} {g:Nat} {O:Nat→Prop} {x:Sig.Hold} {vs vn:Value} (h:HoldAt w g O x vs vn) (ok:HOk x) {vp:Value} {p:List Nat} (hp:Oct w vp p) :
  Calls Tryz.prog 63 #[.pointer (some ⟨g,0,none⟩),vp] w (HActs g O w (x.put p).1 (.int .i64 (x.put p).2)):=by
 obtain⟨Ap,cp,rfl,l5,l6,_⟩:=hp.slice;obtain⟨As,cs,An,cn,rfl,rfl,l1,l2,l3,l4⟩:=h.slices;obtain⟨c0,c1,c2,c3,c4,f2,f3,f4⟩:=h.cells;have H:=am h;have OK:=am ok;have HP:=am hp;have b1:=ok.most;have b2:=ok.octets;have b3:=ok.all;have b4:=ok.size;have b5:=ok.sent;clear h ok hp;unfold maxLen at l6;by_cases h3:p.length<3
 ·skip;have hx:x.put p=(x,5):=by unfold Sig.Hold.put;rw[if_pos h3]
  rw[hx];clear hx;have d1:decide ((p.length:Int)<3)=true:=decide_eq_true (by omega);have e1:decide (p.length<3)=true:=decide_eq_true (by omega);go_enter Tryz.func63,Tryz.ntmps63
  go_wp2_with fail
  go_ret;exact H.out.same (Below.refl _ _)
 ·by_cases h4:273<p.length
  ·skip;have hx:x.put p=(x,6):=by unfold Sig.Hold.put;rw[if_neg h3,if_pos h4]
   rw[hx];clear hx;have d1:decide ((p.length:Int)<3)=false:=decide_eq_false (by omega);have e1:decide (p.length<3)=false:=decide_eq_false (by omega);have d2:decide ((273:Int)<(p.length:Int))=true:=decide_eq_true (by omega);have e2:decide (273<p.length)=true:=decide_eq_true (by omega);go_enter Tryz.func63,Tryz.ntmps63
   go_wp2_with fail
   go_ret;exact H.out.same (Below.refl _ _)
  ·by_cases h5:x.most≤x.sent.length+x.next.length
   ·skip;have hx:x.put p=(x,3):=by unfold Sig.Hold.put;rw[if_neg h3,if_neg h4,if_pos (Or.inl h5)]
    rw[hx];clear hx;have d1:decide ((p.length:Int)<3)=false:=decide_eq_false (by omega);have e1:decide (p.length<3)=false:=decide_eq_false (by omega);have d2:decide ((273:Int)<(p.length:Int))=false:=decide_eq_false (by omega);have e2:decide (273<p.length)=false:=decide_eq_false (by omega);have hw:=qoi x.sent.length x.next.length (by omega);have d3:decide ((x.most:Int)≤(x.sent.length:Int)+(x.next.length:Int))=true:=decide_eq_true (by omega);go_enter Tryz.func63,Tryz.ntmps63
    go_wp2_with fail
    go_quiet (fail)
    go_wp2;go_ret;exact H.out.same (qab (Below.refl _ _) _)
   ·by_cases h6:x.octets<Sig.size x.sent+Sig.size x.next+p.length
    ·skip;have hx:x.put p=(x,3):=by unfold Sig.Hold.put;rw[if_neg h3,if_neg h4,if_pos (Or.inr h6)]
     rw[hx];clear hx;have d1:decide ((p.length:Int)<3)=false:=decide_eq_false (by omega);have e1:decide (p.length<3)=false:=decide_eq_false (by omega);have d2:decide ((273:Int)<(p.length:Int))=false:=decide_eq_false (by omega);have e2:decide (273<p.length)=false:=decide_eq_false (by omega);have hw:=qoi x.sent.length x.next.length (by omega);have hw2:IntKind.i64.wrap (((Sig.size x.sent+Sig.size x.next:Nat):Int)+(p.length:Int))=((Sig.size x.sent+Sig.size x.next:Nat):Int)+(p.length:Int):=qoi _ _ (by omega);have d3:decide ((x.most:Int)≤(x.sent.length:Int)+(x.next.length:Int))=false:=decide_eq_false (by omega);have d4:decide ((x.octets:Int)<((Sig.size x.sent+Sig.size x.next:Nat):Int)+(p.length:Int))=true:=decide_eq_true (by omega);go_enter Tryz.func63,Tryz.ntmps63
     go_wp2_with fail
     go_quiet (exact Calls.quiet_of (qmt H.out OK.out _))
     go_wp2;go_ret;exact H.out.same (qab (Below.refl _ _) _)
    ·skip;have hx:x.put p=({ x with next:=x.next++[p] },0):=by unfold Sig.Hold.put;rw[if_neg h3,if_neg h4,if_neg (by omega)]
     rw[hx];clear hx;have d1:decide ((p.length:Int)<3)=false:=decide_eq_false (by omega);have e1:decide (p.length<3)=false:=decide_eq_false (by omega);have d2:decide ((273:Int)<(p.length:Int))=false:=decide_eq_false (by omega);have e2:decide (273<p.length)=false:=decide_eq_false (by omega);have hw:=qoi x.sent.length x.next.length (by omega);have hw2:IntKind.i64.wrap (((Sig.size x.sent+Sig.size x.next:Nat):Int)+(p.length:Int))=((Sig.size x.sent+Sig.size x.next:Nat):Int)+(p.length:Int):=qoi _ _ (by omega);have d3:decide ((x.most:Int)≤(x.sent.length:Int)+(x.next.length:Int))=false:=decide_eq_false (by omega);have d4:decide ((x.octets:Int)<((Sig.size x.sent+Sig.size x.next:Nat):Int)+(p.length:Int))=false:=decide_eq_false (by omega);go_enter Tryz.func63,Tryz.ntmps63
     go_wp2_with fail
     go_quiet (exact Calls.quiet_of (qmt H.out OK.out _))
     go_wp2_with fail
     refine sr 12 (fun W=>W.cell? ⟨g,4,none⟩=some (.slice An x.next.length cn)) [8,11] c4 (fun hY=>?_);have hbw:Below w.heap.size w (w.drewN nq).drew:=qaf (qab (Below.refl _ _) _);generalize (w.drewN nq).drew=W0 at hY hbw ⊢;have HBW:=am hbw;have HP0:=am (HP.out.below hbw);clear hbw c0 c1 c2 c3 c4 f2 f3 f4 hw hw2;refine pu 0 45 ?_;refine pu 1 46 ?_;refine pu 2 47 ?_;refine pu 3 48 ?_;refine pu 5 50 ?_;refine tk 4 49 hY ?_;refine on_ 6 51 (fun K hK=>?_);refine gs Tryz.func91 #[.slice Ap p.length cp] ?_
     with_reducible refine(qb3 HP0.out (by omega) (by omega)).mono ?_
     rintro e w2 ⟨v1,rfl,hM⟩;refine⟨_,rfl,?_⟩;obtain⟨A1,cA1,e1,_⟩:=hM.oct.slice;subst e1;have HM:=am hM;clear hM;refine hK.out _ _ (qae HM.out.below hY) (fun hY=>?_);clear hK K;refine nm 51 ?_;refine on_ 7 52 (fun K hK=>?_);refine qbf (w1:=?_) (v:=?_) (by rfl) rfl ?_ ?_;rotate_left 2
     ·go_simp;constructor
      ·rfl
      ·rfl
     refine hK.out _ _ (Lib.cell?_alloc_some _ hY) (fun hY=>?_);clear hK K;refine nm 52 ?_;obtain⟨_,w4,⟨A4,n4,k4,rfl⟩,hrun,c4,f4,hfin⟩:=qta H.out OK.out (below_then HBW.out HBW.out.size HM.out.below) HM.out.oct (.int .i64 (0:Nat));have HK:=am hrun;have FIN:=am hfin;clear hrun hfin;refine la_ 8 53 (fun K hK=>?_);refine qbf (by rfl) rfl (qa8 (t:=77) (s:=.tmp 49) (x:=.tmp 52) rfl (vs:=(.slice An x.next.length cn)) (vx:=(.slice (some ⟨w2.heap.size,0,none⟩) 1 1)) rfl rfl HK.out) ?_;refine hK.out _ _ ?_;clear hK K;refine nm 53 ?_;refine pu 9 54 ?_;refine pu 10 55 ?_;refine laN 11 (fun K hK=>?_);refine sk ?_;refine hK.out _ _ ?_;clear hK K;refine qav (by kernel_rfl) ?_;go_wp2;go_ret;exact FIN.out
theorem qna {P:Program} {o:Oper} {a:Act} {w:World} {s:Operand} {t e:TypeId} {n:Value} (ho:o.op=.slice t s (some (.const n)) none none) (ht:P.underlying t=some (.slice e)) {vs v1:Value} (hs:a.eval s=vs) (hrun:(Instr.slice t vs (some n) none none).run P w=.ok v1 w):(execOp a.eval o).run P w=.ok (.value v1) w:=by
 have hel:P.underlying t=some (.slice (P.elem t)):=by rw[ht];simp[Program.elem,ht]
 unfold execOp;rw[ho];simp only[Option.map_some,Option.map_none,hs];have h2:(Instr.sliceAt t vs (some n) none none).run P w=.ok v1 w:=by rw[run_sliceAt_slice _ _ _ _ _ _ hel];exact hrun
 simp[h2,Result.andThen,Act.eval]
theorem HOk.sends {x:Sig.Hold} (ok:HOk x) {p:List Nat} {r:List (List Nat)} (hx:x.next=p::r) (hl:x.sent.length<127):HOk { x with sent:=x.sent++[p],next:=r }:=by
 have h1:=ok.all;have h2:=ok.size;have h3:=ok.long;rw[hx] at h1 h2 h3;refine⟨ok.most,ok.octets,ok.first,?_,?_,?_,fun q hq=>h3 q ?_⟩
 ·simp only[List.length_append,List.length_singleton];omega
 ·simp only[List.length_append,List.length_cons,List.length_nil] at h1 ⊢;omega
 ·unfold Sig.size at h2 ⊢;simp only[List.map_append,List.sum_append,List.map_cons,List.sum_cons,List.map_nil,List.sum_nil] at h2 ⊢;omega
 ·rcases hq with hq|hq
  ·rcases List.mem_append.1 hq with hq|hq
   ·exact Or.inl hq
   ·rw[List.mem_singleton.1 hq];exact Or.inr List.mem_cons_self
  ·exact Or.inr (List.mem_cons_of_mem _ hq)
def qmb (g:Nat) (O:Nat→Prop) (w:World) (x:Sig.Hold) (p:List Nat) (f:Value→Value) (e:Ending) (w':World):Prop:=∃v,e=.returned (f v)∧Oct w' v p∧(∃vs vn,HoldAt w' g (qbe O w w') x vs vn)∧Only (WrH g O w) w w'
def Cuts (w:World) (P:Nat→Prop) (v:Value) (us:List Value) (e:Ending) (w':World):Prop:=∃v',e=.returned v'∧Rw w' P 23 v' us∧Only (fun k=>qau v=some k) w w'∧(∀k,qau v'=some k→qau v=some k)
section
variable {w w' w1 w2:World} {g:Nat} {O Q:Nat→Prop} {x:Sig.Hold} {vs vn:Value}
theorem HoldAt.ns (h:HoldAt w g O x vs vn) (k:Nat) (hk:qau vs=some k):O k∧Typed w k 23∧k<w.heap.size:=by
 obtain⟨ns0,c1,_⟩:=h.sent;obtain⟨_,_,_,_,_,hh⟩:=c1.slice;exact hh k hk
theorem HoldAt.nn (h:HoldAt w g O x vs vn) (k:Nat) (hk:qau vn=some k):O k∧Typed w k 23∧k<w.heap.size:=by
 obtain⟨ns0,c1,_⟩:=h.next;obtain⟨_,_,_,_,_,hh⟩:=c1.slice;exact hh k hk
theorem HActs.brings {r:Value} {p:List Nat} {v:Value} {e:Ending} {f:Value→Value} (h:HActs g O w x r e w1) (hm:Made w1 w2 v p):qmb g O w x p f (.returned (f v)) w2:=by
 obtain⟨_,⟨vs,vn,ha⟩,ho⟩:=h;refine⟨v,rfl,hm.oct,⟨vs,vn,(ha.below hm.below).mono (fun k hk hlt=>?_)⟩,ho.trans (Only.below hm.below)⟩;rcases hk with hk|hk
 ·exact Or.inl hk
 ·exact Or.inr ⟨hk.1,hlt⟩
theorem qq9 (h:HoldAt w g O x vs vn) (ok:HOk x) {p:List Nat} {r:List (List Nat)} (hx:x.next=p::r) {u:Value} (hu:∃ns,Rw w O 23 vn (u::ns)∧Octs w (u::ns) x.next) (hl:x.sent.length<127) :
  ∃v4 w4,(∃A n c,v4=.slice A n c)∧(Builtin.append_ #[77,77] 77 #[vs,.slice (some ⟨w.heap.size,0,none⟩) 1 1]).run Tryz.prog (w.alloc (.cells #[u] 23))=.ok v4 w4∧w4.cell? ⟨g,2,none⟩=some vs∧w4.frozen? ⟨g,2,none⟩=false∧w4.cell? ⟨g,4,none⟩=some vn∧w4.frozen? ⟨g,4,none⟩=false∧Oct ((w4.setCell ⟨g,2,none⟩ v4).setCell ⟨g,4,none⟩ (qct vn)) u p ∧
   HoldAt ((w4.setCell ⟨g,2,none⟩ v4).setCell ⟨g,4,none⟩ (qct vn)) g (qbe O w ((w4.setCell ⟨g,2,none⟩ v4).setCell ⟨g,4,none⟩ (qct vn))) { x with sent:=x.sent++[p],next:=r } v4 (qct vn)∧Only (WrH g O w) w ((w4.setCell ⟨g,2,none⟩ v4).setCell ⟨g,4,none⟩ (qct vn)):=by
 obtain⟨ns,hr,ho⟩:=hu;rw[hx] at ho;have hb3:Below w.heap.size w (w.alloc (.cells #[u] 23)):=qaa (Below.refl _ _) _;have h3:=h.below hb3;have hs3:(w.alloc (.cells #[u] 23)).heap.size=w.heap.size+1:=by simp[World.alloc_eq]
 obtain⟨ss,b1,b2⟩:=h3.sent;have hln:=b2.len;obtain⟨v4,w4,hrun,hR,hO,hat⟩:=Rw.append el23 77 (P:=fun k=>O k∨w.heap.size≤k) (b1.mono (fun k hk _ _ _=>Or.inl hk)) (qfg w (fun _=>True) trivial 23 u) (fun q hq=>by rw[List.mem_singleton.1 hq];obtain⟨A,c,rfl,_⟩:=ho.1.slice;rfl) b2.one (by simp only[List.length_singleton];omega) (fun k hk=>Or.inr (by omega));have hgt:∀k,qau vs=some k→k≠g:=fun k hk e=>by
  subst e;exact absurd ((h.ns k hk).2.1.ne h.blk.typed) (by decide)
 have hO4:Only (fun k=>qau vs=some k) w w4:=(Only.below hb3).trans hO;have hblk4:=h3.blk.only hO (fun e=>hgt g e rfl);have hno:qca (fun k=>qau vs=some k) (w.alloc (.cells #[u] 23)):=fun k hk ht=>absurd (ht.ne ((h.ns k hk).2.1.elim fun c ⟨fr,e⟩=>⟨c,fr,(hb3.block k (h.ns k hk).2.2).trans e⟩)) (by decide);have hsg:Only (·=g) w4 ((w4.setCell ⟨g,2,none⟩ v4).setCell ⟨g,4,none⟩ (qct vn)):=((Only.refl (·=g) w4).set (p:=⟨g,2,none⟩) rfl v4).set (p:=⟨g,4,none⟩) rfl (qct vn);have hg4:∀k,Typed w4 k 23→¬k=g:=fun k ht e=>by subst e;exact absurd (ht.ne hblk4.typed) (by decide)
 have hg5:qca (·=g) w4:=fun k e ht=>by
  have e:k=g:=e;subst e;exact absurd (ht.ne hblk4.typed) (by decide)
 have hoct:∀v q,Oct w v q→Oct ((w4.setCell ⟨g,2,none⟩ v4).setCell ⟨g,4,none⟩ (qct vn)) v q:=fun v q hh=>((hh.below hb3).only hO hno).only hsg hg5;refine⟨v4,w4,hR.slice.imp fun A h=>⟨_,h.imp fun c h=>h.1⟩,hrun,hblk4.c 2 rfl,hblk4.f 2,hblk4.c 4 rfl,hblk4.f 4,hoct _ _ ho.1,⟨?_,?_,?_,?_⟩,?_⟩
 ·exact(hblk4.set 2 v4).set 4 (qct vn)
 ·refine⟨ss++[u],(hR.only hsg (fun k _ ht _=>hg4 k ht)).mono (fun k hk _ hlt _=>?_),Octs.imp (fun v q hh=>(hh.only hO hno).only hsg hg5) (Octs.snoc (ho.1.below hb3) b2)⟩;rcases hk with hk|hk
  ·exact Or.inl hk
  ·exact Or.inr ⟨hk,hlt⟩
 ·refine⟨ns,((((hr.below hb3).only hO (fun k _ _ hk hh=>h.ne k hh hk)).only hsg (fun k _ ht _=>hg4 k ht)).tail).mono (fun k hk _ _ _=>Or.inl hk),Octs.imp hoct ho.2⟩
 ·intro k hk e;rw[qhy] at e;rcases hat with hat|⟨b,hb',hle⟩
  ·exact h.ne k (hat.symm.trans hk) e
  ·rw[hb'] at hk;simp only[Option.some.injEq] at hk;subst hk;have:=(h.nn _ e).2.2;omega
 ·exact(hO4.mono (fun k hk=>Or.inr ⟨(h.ns k hk).1,(h.ns k hk).2.1⟩)).trans (hsg.mono (fun k hk=>Or.inl hk))
theorem HoldAt.actsW {W:World} {vs' vn':Value} {r:Value} (h:HoldAt W g (qbe O w W) x vs' vn') (ho:Only (WrH g O w) w W) (hb:Below W.heap.size W w'):HActs g O w x r (.returned r) w':=by
 refine⟨rfl,⟨vs',vn',(h.below hb).mono (fun k hk hlt=>?_)⟩,ho.trans (Only.below hb)⟩;rcases hk with hk|hk
 ·exact Or.inl hk
 ·exact Or.inr ⟨hk.1,hlt⟩
end
theorem qd1 {w:World} {g:Nat} {O:Nat→Prop} {x:Sig.Hold} {vs vn:Value} (h:HoldAt w g O x vs vn) (ok:HOk x) (hx:x.send.2=none) :
  Calls Tryz.prog 177 #[.pointer (some ⟨g,0,none⟩)] w (fun e w'=>∃c:Nat,e=.returned (.tuple #[.int .u8 0,.slice none 0 0,.int .i64 c])∧(c=2∨c=3)∧w=w'):=by
 obtain⟨As,cs,An,cn,rfl,rfl,l1,l2,l3,l4⟩:=h.slices;obtain⟨c0,c1,c2,c3,c4,f2,f3,f4⟩:=h.cells;have b1:=ok.sent;have b2:=ok.all;clear h ok;rcases hn:x.next with _|⟨p,r⟩
 ·have e1:(((x.next.length:Nat):Int)==(0))=true:=beq_iff_eq.2 (by rw[hn];rfl);clear hx hn;go_enter Tryz.func177,Tryz.ntmps177
  go_wp2_with fail
  go_ret3
  exact⟨2,rfl,Or.inl rfl,rfl⟩
 ·have h1:127≤x.sent.length:=by
   by_cases hlt:127≤x.sent.length
   ·exact hlt
   ·unfold Sig.Hold.send at hx;rw[hn] at hx;simp only at hx;rw[if_neg hlt] at hx;simp at hx
  have e1:(((x.next.length:Nat):Int)==(0))=false:=beq_eq_false_iff_ne.2 (by rw[hn];simp only[List.length_cons];omega);have d1:decide ((127:Int)≤(x.sent.length:Int))=true:=decide_eq_true (by omega);have d2:decide (127≤x.sent.length)=true:=decide_eq_true (by omega);clear hx hn;go_enter Tryz.func177,Tryz.ntmps177
  go_wp2_with fail
  go_ret3
  exact⟨3,rfl,Or.inr rfl,rfl⟩
theorem qd0 {w:World} {g:Nat} {O:Nat→Prop} {x:Sig.Hold} {vs vn:Value} (h:HoldAt w g O x vs vn) (ok:HOk x) {p:List Nat} {r:List (List Nat)} (hx:x.next=p::r) (hl:x.sent.length<127) :
  Calls Tryz.prog 177 #[.pointer (some ⟨g,0,none⟩)] w (qmb g O w { x with sent:=x.sent++[p],next:=r } p (fun v=>.tuple #[.int .u8 (({ x with sent:=x.sent++[p],next:=r }:Sig.Hold).last:Nat),v,.int .i64 (0:Nat)])):=by
 obtain⟨ns,hn,hn'⟩:=h.next;obtain⟨As,cs,An,cn,rfl,rfl,l1,l2,l3,l4⟩:=h.slices;obtain⟨c0,c1,c2,c3,c4,f2,f3,f4⟩:=h.cells;have hlen:=hn'.len;rw[hx] at hn';rcases ns with _|⟨u,ns⟩
 ·exact hn'.elim
 have hoct:=hn'.1;obtain⟨g1,off,c',e,_,hc⟩:=hn.get 0 (u:=u) rfl;simp only[Value.slice.injEq] at e;obtain⟨rfl,-,-⟩:=e;rw[Nat.add_zero] at hc;obtain⟨Bu,du,rfl,hz⟩:=hoct.slice;clear hz;have hpl:=ok.long p (Or.inr (by rw[hx];exact List.mem_cons_self));have OK:=am ok;have OK':=am (ok.sends hx hl);have HN:=am hn;have HN':=am hn';have HX:=am hx;have H:=am h;have hnl:1≤x.next.length:=by rw[hx];simp
 have i0:0<x.next.length:=by omega
 have e1:(((x.next.length:Nat):Int)==(0))=false:=beq_eq_false_iff_ne.2 (by omega);have d1:decide ((127:Int)≤(x.sent.length:Int))=false:=decide_eq_false (by omega);have d2:decide (127≤x.sent.length)=false:=decide_eq_false (by omega);clear h hx hn hn' hoct ok hlen;go_enter Tryz.func177,Tryz.ntmps177
 go_wp2_with fail
 refine sr 20 (fun W=>W.cell? ⟨g,2,none⟩=some (.slice As x.sent.length cs)∧W.cell? ⟨g,4,none⟩=some (.slice (some ⟨g1,off,none⟩) x.next.length cn)) [16,19] (show _∧_ from ⟨c2,c4⟩) (fun hY=>?_);have hbw:Below w.heap.size w w.drew:=qaf (Below.refl _ _);have h0:=H.out.below hbw;have hn0:=HN.out.below hbw;have ho0:Octs w.drew _ _:=Octs.imp (fun _ _ hh=>hh.below hbw) HN'.out;obtain⟨i0,hi,hz0,hz1,hz2⟩:=info_parts el23.info;have hcut:=fun W=>run_tail (P:=Tryz.prog) 77 23 .i64 el23.ht hi hz1 (some ⟨g1,off,none⟩) x.next.length cn hnl W;obtain⟨TA,TN,TC,htl⟩:∃TA TN TC,qct (.slice (some ⟨g1,off,none⟩) x.next.length cn)=.slice TA TN TC:=⟨_,_,_,rfl⟩;obtain⟨_,w4,⟨A4,n4,k4,rfl⟩,hrun,c2',f2',c4',f4',hou,hfin,hon⟩:=qq9 h0 OK.out HX.out ⟨ns,hn0,HX.out▸ho0⟩ hl;rw[htl] at hcut hfin hon hou;have HCUT:=am hcut;have HK:=am hrun;have HOU:=am hou;have HFIN:=am hfin;have HON:=am ((Only.below hbw).trans (hon.mono (Q:=WrH g O w) (fun k hk=>hk)));have HBW:=am hbw;clear hrun hfin hon hou hbw hi hz0 hz1 hz2 htl h0 hn0 ho0 c0 c1 c2 c3 c4 f2 f3 f4 hcut hc;refine pu 0 30 ?_;refine pu 1 31 ?_;refine pu 2 32 ?_;refine pu 3 33 ?_;refine pu 4 34 ?_;refine pu 6 36 ?_;refine pu 9 39 ?_;refine pu 10 40 ?_;refine pu 11 41 ?_;refine tk 5 35 hY ?_;refine tk 12 42 hY ?_;refine qrf (i:=13) (N:=some 43) (v:=.slice TA TN TC) (a':=?_) #[true,true,true,true,true,true,true,false,false,true,true,true,true,true,false,false,false,false,false,false] rfl rfl (by kernel_rfl) (fun _ _ _ h=>h) (Or.inl ⟨by rfl,?_⟩) ?_ ?_
 ·intro w';exact qna (t:=77) (s:=.tmp 42) rfl el23.ht (vs:=.slice (some ⟨g1,off,none⟩) x.next.length cn) rfl (HCUT.out w')
 rotate_left
 ·simp only[Act.put,List.setIfInBounds_toArray,List.set_cons_zero,List.set_cons_succ,qed,qet];rfl
 refine on_ 7 37 (fun K hK=>?_);refine qbf (w1:=?_) (v:=?_) (by rfl) rfl ?_ ?_;rotate_left 2
 ·go_simp;constructor
  ·rfl
  ·rfl
 refine hK.out _ _ ⟨Lib.cell?_alloc_some _ hY.1,Lib.cell?_alloc_some _ hY.2⟩ (fun hY=>?_);clear hK K;refine nm 37 ?_;refine on_ 8 38 (fun K hK=>?_);refine qbf (by rfl) rfl (qa8 (t:=77) (s:=.tmp 35) (x:=.tmp 37) rfl (vs:=(.slice As x.sent.length cs)) (vx:=(.slice (some ⟨w.heap.size,0,none⟩) 1 1)) rfl rfl HK.out) ?_;refine hK.out _ _ ⟨c2',c4'⟩ (fun hY=>?_);clear hK K;refine nm 38 ?_;refine pu 14 44 ?_;refine pu 15 45 ?_;refine laN 16 (fun K hK=>?_);refine sk ?_;refine hK.out _ _ ?_;clear hK K;refine pu 17 46 ?_;refine pu 18 47 ?_;refine laN 19 (fun K hK=>?_);refine sk ?_;refine hK.out _ _ ?_;clear hK K;refine qav (by kernel_rfl) ?_
 go_wp2_with fail
 refine(qrz HFIN.out OK'.out).mono ?_;rintro e w5 ⟨rfl,rfl⟩
 go_wp2_with fail
 refine(qb3 (HOU.out.below (qaf (Below.refl _ _))) (by omega) (by omega)).mono ?_;rintro e w6 ⟨v6,rfl,hM⟩;go_wp2
 go_ret3
 exact HActs.brings (HoldAt.actsW HFIN.out HON.out (qaf (Below.refl _ _)) (r:=.tuple #[])) hM
theorem qng (a b:Nat) (h1:a+b<1000000) (w:World):Calls Tryz.prog 185 #[.int .i64 ((a:Int)+(b:Int))] w fun e w'=>e=.returned (.int .u8 (((a:Int)+(b:Int))%128))∧w=w' :=
 (qj4 _ (by omega) (by omega) w).mono fun e w' ⟨he,hw⟩=>⟨by rw[he];exact qlc (by omega),hw⟩
theorem qrd {P:Program} (t e:TypeId) (kl:IntKind) {i:TypeInfo} (ht:P.underlying t=some (.slice e)) (hi:P.info? e=some i) (hsz:i.size=1) (ad:Addr) (n c m:Nat) (hm:m≤n) (hc:n≤c) :
  ∃a,(n=m∨a=ad.add m)∧∀W:World,(Instr.slice t (.slice (some ad) n c) (some (.int kl (m:Int))) none none).run P W=.ok (.slice (some a) (n-m) (c-m)) W:=by
 have hel:P.elem t=e:=by simp[Program.elem,ht]
 have hu:P.underlying t=some (.slice (P.elem t)):=by rw[hel];exact ht
 refine⟨if c=m then ad else ad.add m,?_,fun W=>?_⟩
 ·by_cases h:c=m
  ·exact Or.inl (by omega)
  ·exact Or.inr (by rw[if_neg h])
 ·rw[run_slice_l W t (some ad) n c hu kl (m:Int) (Int.natCast_nonneg _) (by omega),hel];simp[sizeOf,typeInfo,hi,hsz,sliced,Result.andThen];by_cases h:c=m <;> simp[h]
theorem qjb {w:World} {g:Nat} {O:Nat→Prop} {x:Sig.Hold} {vs vn:Value} (h:HoldAt w g O x vs vn) (i:Nat) (hi:x.sent.length≤i) :
  Calls Tryz.prog 179 #[.pointer (some ⟨g,0,none⟩),.int .i64 i] w (fun e w'=>e=.returned (.tuple #[.int .u8 0,.slice none 0 0,.int .i64 (2:Nat)])∧w=w'):=by
 have H:=am h;clear h;have d0:decide ((i:Int)<0)=false:=decide_eq_false (by omega);have d1:decide ((x.sent.length:Int)≤(i:Int))=true:=decide_eq_true (by omega);have d2:decide (x.sent.length≤i)=true:=decide_eq_true (by omega);go_enter Tryz.func179,Tryz.ntmps179
 go_wp2_with fail
 refine(qd4 H.out).mono ?_;rintro e w1 ⟨rfl,rfl⟩;go_wp2
 go_ret3
 exact⟨rfl,rfl⟩
theorem qja {w:World} {g:Nat} {O:Nat→Prop} {x:Sig.Hold} {vs vn:Value} (h:HoldAt w g O x vs vn) (ok:HOk x) (i:Nat) (hi:i<x.sent.length) :
  Calls Tryz.prog 179 #[.pointer (some ⟨g,0,none⟩),.int .i64 i] w (qmb g O w x x.sent[i] (fun v=>.tuple #[.int .u8 (((x.first:Int)+(i:Int))%128),v,.int .i64 (0:Nat)])):=by
 obtain⟨ss,hs,hs'⟩:=h.sent;obtain⟨As,cs,An,cn,rfl,rfl,l1,l2,l3,l4⟩:=h.slices;obtain⟨c0,c1,c2,c3,c4,f2,f3,f4⟩:=h.cells;have hlen:=hs'.len;obtain⟨u,hu,hoct⟩:=hs'.get i hi;obtain⟨g1,off,c',e,_,hc⟩:=hs.get i hu;simp only[Value.slice.injEq] at e;obtain⟨rfl,-,-⟩:=e;obtain⟨Bu,du,rfl,hz⟩:=hoct.slice;clear hz;have hpl:=ok.long x.sent[i] (Or.inl (List.getElem_mem hi));have b1:=ok.first;have b2:=ok.sent;have H:=am h;have HOCT:=am hoct;clear hs hs' hu hoct hlen h;generalize x.sent[i]=p at *;have d0:decide ((i:Int)<0)=false:=decide_eq_false (by omega);have d1:decide ((x.sent.length:Int)≤(i:Int))=false:=decide_eq_false (by omega);have d2:decide (x.sent.length≤i)=false:=decide_eq_false (by omega);have p1:=eq_true (show 0≤(i:Int) by omega);have p2:=eq_true (show (i:Int)<(x.sent.length:Int) by omega);have hw:=qoi x.first i (by omega);have hw0:IntKind.i64.wrap (x.first:Int)=(x.first:Int):=IntWalk.i64_in _ (by omega);go_enter Tryz.func179,Tryz.ntmps179
 go_wp2_with fail
 refine(qd4 H.out).mono ?_;rintro e w1 ⟨rfl,rfl⟩
 go_wp2_with fail
 go_still_tail 15,(by kernel_rfl)
 still_call (qf (qng x.first i (by omega) _))
 repeat still_step
 refine wpStill_nil ?_;change wpList _ _ _ _ _ w.drew
 go_wp2_with fail
 refine(qb3 (HOCT.out.below (qaf (Below.refl _ _))) (by omega) (by omega)).mono ?_;rintro e w6 ⟨v6,rfl,hM⟩;go_wp2
 go_ret3
 exact HActs.brings (p:=p) (f:=fun v=>.tuple #[.int .u8 (((x.first:Int)+(i:Int))%128),v,.int .i64 (0:Nat)]) (H.out.same (qaf (Below.refl _ _)) (r:=.tuple #[])) hM
theorem qk8 {P:Program} {o:Oper} {a:Act} {w:World} {s l:Operand} {t e:TypeId} (ho:o.op=.slice t s (some l) none none) (ht:P.underlying t=some (.slice e)) {vs n v1:Value} (hs:a.eval s=vs) (hl:a.eval l=n) (hrun:(Instr.slice t vs (some n) none none).run P w=.ok v1 w):(execOp a.eval o).run P w=.ok (.value v1) w:=by
 have hel:P.underlying t=some (.slice (P.elem t)):=by rw[ht];simp[Program.elem,ht]
 unfold execOp;rw[ho];simp only[Option.map_some,Option.map_none,hs,hl];have h2:(Instr.sliceAt t vs (some n) none none).run P w=.ok v1 w:=by rw[run_sliceAt_slice _ _ _ _ _ _ hel];exact hrun
 simp[h2,Result.andThen]
theorem qr4 {w:World} {P:Nat→Prop} {us:List Value} {g off c:Nat} {cells:Array Value} (h1:us.length≤c) (h2:c≤maxLen) (h3:w.heap[g]?=some (.cells cells 23 (0,0))) (h4:off+c≤cells.size) (h5:∀j u,us[j]?=some u→cells[off+j]?=some u) (h6:P g) (ho:∀u∈us,u.oneCell'=true) (k:Nat) (hk:k≤us.length) (a:Addr) (ha:us.length=k∨a=(⟨g,off,none⟩:Addr).add k) :
  (Builtin.append_ #[77,77] 77 #[.slice (some ⟨g,off,none⟩) 0 c,.slice (some a) (us.length-k) (c-k)]).run Tryz.prog w=.ok (.slice (some ⟨g,off,none⟩) (us.length-k) c) (w.setCells g off (us.drop k)) ∧
  (0<k→∀W,W=w.setCells g off (us.drop k)→∀c',(Builtin.clear_ #[77] 0 #[.slice (some ⟨g,off+(us.length-k),none⟩) k c']).run Tryz.prog W=.ok (.tuple #[]) (W.setCells g (off+(us.length-k)) (List.replicate k (.slice none 0 0)))) ∧
  Rw ((w.setCells g off (us.drop k)).setCells g (off+(us.length-k)) (List.replicate k (.slice none 0 0))) P 23 (.slice (some ⟨g,off,none⟩) (us.length-k) c) (us.drop k):=by
 obtain⟨i0,hi,hz0,hz1,hz2⟩:=info_parts el23.info;have hdl:(us.drop k).length=us.length-k:=by simp
 obtain⟨ce,e1,e2,e3,e4,e5⟩:=setCells_row (us.drop k) off w cells h3 (by omega);obtain⟨cf,f1,f2,f3,f4,f5⟩:=setCells_row (List.replicate k (.slice none 0 0)) (off+(us.length-k)) _ ce e1 (by simp only[List.length_replicate];omega);refine⟨?_,?_,?_⟩
 ·have hnews:∀j u,(us.drop k)[j]?=some u→w.cell? (a.add j)=some u:=by
   intro j u hu;have hjl:j<(us.drop k).length:=(List.getElem?_eq_some_iff.1 hu).1;rcases ha with ha|ha
   ·omega
   subst ha;rw[List.getElem?_drop] at hu;rw[Addr.add_lit,Addr.add_lit];have:=h5 (k+j) u hu;rw[show off+(k+j)=off+k+j from by omega] at this;simp[World.cell?,h3,this]
  have hrun:=run_append_room_cells (P:=Tryz.prog) w 77 77 23 i0 el23.ht hi g off 0 c a (us.length-k) (c-k) (us.drop k) (by rw[hz1,Nat.mul_one,hdl]) hnews (fun u hu=>ho u (List.mem_of_mem_drop hu)) (by omega) (fun j hj=>by
   have hlt:off+j<cells.size:=by omega
   simp[World.cell?,h3,Array.getElem?_eq_getElem hlt]) (fun j hj=>by simp[World.frozen?,h3])
  simpa using hrun
 ·intro hk0 W hW c';subst hW;exact Lib.run_clear_slice (P:=Tryz.prog) _ 77 23 0 (.slice none 0 0) el23.ht (fun w=>by kernel_rfl) rfl rfl g (off+(us.length-k)) k c' hk0 (fun j hj=>by
   have hlt:off+(us.length-k)+j<ce.size:=by omega
   simp[World.cell?,e1,Array.getElem?_eq_getElem hlt]) (fun j hj=>by simp[World.frozen?,e1])
 ·refine Or.inr ⟨g,off,c,cf,by rw[hdl],by omega,h2,⟨(0,0),f1,fun _=>rfl⟩,by omega,fun j u hj=>?_,h6⟩;have hjl:j<(us.drop k).length:=(List.getElem?_eq_some_iff.1 hj).1;rw[f3 _ (by omega),e4 j hjl];exact hj
theorem qkt {w:World} {P:Nat→Prop} {v:Value} {us:List Value} (h:Rw w P 23 v us) (ho:∀u∈us,u.oneCell'=true) (k:Nat) (hk:k≤us.length) (hl:us.length≤1000000) :
  Calls Tryz.prog 184 #[v,.int .i64 (0:Nat),.int .i64 k] w (Cuts w P v (us.drop k)):=by
 by_cases hk0:k=0
 ·subst hk0;obtain⟨A,c,rfl,h1,h2,_⟩:=h.slice;have H:=am h;have q1:=eq_true (show (0:Int)≤(us.length:Int) by omega);have q2:=eq_true (show (us.length:Int)≤(c:Int) by omega);clear h hk;go_enter Tryz.func184,Tryz.ntmps184
  go_wp2_with fail
  go_wp2;go_ret;exact⟨_,rfl,by rw[List.drop_zero];exact H.out,Only.refl _ _,fun _ h=>h⟩
 ·rcases h with ⟨_,e⟩|⟨g,off,c,cells,rfl,h1,h2,⟨fr,h3,hf⟩,h4,h5,h6⟩
  ·subst e;simp at hk;omega
  ·obtain⟨i0,hi,hz0,hz1,hz2⟩:=info_parts el23.info;obtain⟨a,ha,hcut⟩:=qrd (P:=Tryz.prog) 77 23 .i64 el23.ht hi hz1 ⟨g,off,none⟩ us.length c k hk h1;have hf:=hf (by decide);subst hf;obtain⟨r1,r2,r3⟩:=qr4 (w:=w.drew) (P:=P) h1 h2 h3 h4 h5 h6 ho k hk a ha;have R1:=am r1;have R2:=am (r2 (by omega) _ rfl);have R3:=am r3;have HCUT:=am hcut;have O1:qac (Only (fun k=>g=k) w ((w.drew.setCells g off (us.drop k)).setCells g (off+(us.length-k)) (List.replicate k (.slice none 0 0)))):=⟨Only.setCells (P:=fun k=>g=k) rfl _ _ _ _ (Only.setCells (P:=fun k=>g=k) rfl _ _ _ _ (Only.drew1 w))⟩;generalize w.drew.setCells g off (us.drop k)=w1 at *;generalize w1.setCells g (off+(us.length-k)) (List.replicate k (.slice none 0 0))=w2 at *;obtain⟨m,hm⟩:∃m,us.length=m+k:=⟨us.length-k,by omega⟩;rw[hm] at R1 R2 R3 HCUT hl h1 ⊢;rw[Nat.add_sub_cancel] at R1 R2 R3 HCUT;unfold maxLen at h2;clear r1 r2 r3 h3 h4 h5 hz0 hz1 hz2 hi hcut ha ho hm hk;have b0:(((0:Int))==((k:Nat):Int))=false:=beq_eq_false_iff_ne.2 (by omega);have b1:(((0:Nat))==(k))=false:=beq_eq_false_iff_ne.2 (by omega);go_enter Tryz.func184,Tryz.ntmps184
   go_wp2_with fail
   refine sr 8 (fun _=>True) [] trivial (fun hY=>?_);refine pu 0 20 ?_;refine pu 1 21 ?_;refine pu 2 22 ?_;refine pu 3 23 ?_;refine pu 4 24 ?_;refine qrf (i:=5) (N:=some 25) (v:=.slice (some a) m (c-k)) (a':=?_) #[true,true,true,true,true,true,false,false] rfl rfl (by kernel_rfl) (fun _ _ _ h=>h) (Or.inl ⟨by rfl,?_⟩) ?_ ?_
   ·intro w';exact qk8 (t:=77) (s:=.tmp 23) (l:=.tmp 24) rfl el23.ht (vs:=.slice (some ⟨g,off,none⟩) (m+k) c) (n:=.int .i64 k) rfl rfl (HCUT.out w')
   rotate_left
   ·simp only[Act.put,List.setIfInBounds_toArray,List.set_cons_zero,List.set_cons_succ,qed,qet];rfl
   refine on_ 6 26 (fun K hK=>?_);refine qbf (by rfl) rfl (qa8 (t:=77) (s:=.tmp 22) (x:=.tmp 25) rfl (vs:=(.slice (some ⟨g,off,none⟩) 0 c)) (vx:=(.slice (some a) m (c-k))) rfl rfl R1.out) ?_;refine hK.out _ _ trivial (fun hY=>?_);clear hK K;refine nm 26 ?_;refine pu 7 0 ?_;refine qav (by kernel_rfl) ?_;have hcl:=R2.out (c-m);go_wp2;go_ret;exact⟨_,rfl,R3.out,O1.out.mono (fun _ h=>by subst h;rfl),fun _ h=>h⟩
theorem qs9 {x:Sig.Hold} (ok:HOk x) (n:Nat) (hk:x.knows n=true):n<128∧Sig.rGap (Sig.rPrev x.first) n≤x.sent.length:=by
 have h1:=ok.first;have h2:=ok.sent;unfold Sig.Hold.knows Sig.rWithin at hk;simp only[Bool.and_eq_true,Nat.blt_eq,Nat.ble_eq] at hk;obtain⟨h3,h4⟩:=hk;refine⟨h3,Nat.le_trans h4 ?_⟩;unfold Sig.rGap Sig.rPrev Sig.Hold.last;omega
theorem qr0 {w w1:World} {g:Nat} {O:Nat→Prop} {x:Sig.Hold} {vs vn v1:Value} {ss:List Value} (h:HoldAt w g O x vs vn) (h2:Octs w ss x.sent) (k n:Nat) (hr:Rw w1 O 23 v1 (ss.drop k)) (ho:Only (fun j=>qau vs=some j) w w1) (hb:∀j,qau v1=some j→qau vs=some j) (r:Value) :
  w1.cell? ⟨g,2,none⟩=some vs∧w1.frozen? ⟨g,2,none⟩=false∧w1.cell? ⟨g,3,none⟩=some (.int .u8 x.first)∧w1.frozen? ⟨g,3,none⟩=false ∧
  HActs g O w { x with sent:=x.sent.drop k,first:=n } r (.returned r) ((w1.setCell ⟨g,2,none⟩ v1).setCell ⟨g,3,none⟩ (.int .u8 n)):=by
 have hgt:∀k,qau vs=some k→k≠g:=fun k hk e=>by
  subst e;exact absurd ((h.ns k hk).2.1.ne h.blk.typed) (by decide)
 have hblk:=h.blk.only ho (fun e=>hgt g e rfl);have hno:qca (fun k=>qau vs=some k) w:=fun k hk ht=>absurd (ht.ne (h.ns k hk).2.1) (by decide);have hsg:Only (·=g) w1 ((w1.setCell ⟨g,2,none⟩ v1).setCell ⟨g,3,none⟩ (.int .u8 n)):=((Only.refl (·=g) w1).set (p:=⟨g,2,none⟩) rfl v1).set (p:=⟨g,3,none⟩) rfl _;have hg4:∀k,Typed w1 k 23→¬k=g:=fun k ht e=>by subst e;exact absurd (ht.ne hblk.typed) (by decide)
 have hg5:qca (·=g) w1:=fun k e ht=>by
  have e:k=g:=e;subst e;exact absurd (ht.ne hblk.typed) (by decide)
 obtain⟨ns,b1,b2⟩:=h.next;refine⟨hblk.c 2 rfl,hblk.f 2,hblk.c 3 rfl,hblk.f 3,rfl,⟨v1,vn,(hblk.set 2 v1).set 3 _,?_,?_,fun j hj=>h.ne j (hb j hj)⟩,?_⟩
 ·exact⟨ss.drop k,(hr.only hsg (fun k _ ht _=>hg4 k ht)).mono (fun k hk _ _ _=>Or.inl hk),Octs.imp (fun _ _ hh=>(hh.only ho hno).only hsg hg5) (Octs.drop k h2)⟩
 ·exact⟨ns,((b1.only ho (fun k _ _ hk hh=>h.ne k hh hk)).only hsg (fun k _ ht _=>hg4 k ht)).mono (fun k hk _ _ _=>Or.inl hk),Octs.imp (fun _ _ hh=>(hh.only ho hno).only hsg hg5) b2⟩
 ·exact(ho.mono (fun k hk=>Or.inr ⟨(h.ns k hk).1,(h.ns k hk).2.1⟩)).trans (hsg.mono (fun k hk=>Or.inl hk))
theorem qxa {w:World} {g:Nat} {O:Nat→Prop} {x:Sig.Hold} {vs vn:Value} (h:HoldAt w g O x vs vn) (ok:HOk x) (n:Nat) (hk:x.knows n=true) :
  Calls Tryz.prog 173 #[.pointer (some ⟨g,0,none⟩),.int .u8 n] w (HActs g O w (x.free n).1 (.tuple #[.int .i64 ((x.free n).2:Nat),.int .i64 (0:Nat)])):=by
 obtain⟨hn,hgap⟩:=qs9 ok n hk;obtain⟨k,hkk⟩:∃k,Sig.rGap (Sig.rPrev x.first) n=k:=⟨_,rfl⟩;have hx:x.free n=({ x with sent:=x.sent.drop k,first:=Sig.rNext n },k):=by unfold Sig.Hold.free;rw[hkk]
 rw[hx];rw[hkk] at hgap;have hp1:Sig.rPrev x.first<128:=by unfold Sig.rPrev;omega
 have b1:=ok.first;have b2:=ok.sent;obtain⟨ss,hs,hs'⟩:=h.sent;obtain⟨As,cs,An,cn,rfl,rfl,l1,l2,l3,l4⟩:=h.slices;obtain⟨c0,c1,c2,c3,c4,f2,f3,f4⟩:=h.cells;have hlen:=hs'.len;have H:=am h;have OK:=am ok;have HK:=am hk;have HKK:=am hkk;have HS:=am hs;have HS':=am hs';have HL:=am hlen;clear h ok hk hx hkk hs hs' hlen;go_enter Tryz.func173,Tryz.ntmps173
 go_wp2_with fail
 refine(qsq H.out OK.out n (by omega)).mono ?_;rw[HK.out];rintro e w1 ⟨rfl,q,rfl⟩
 go_wp2_with fail
 refine(qgg _ b1 _).mono ?_;rintro e w2 ⟨rfl,rfl⟩
 go_wp2_with fail
 refine(qe8 _ _ hp1 hn _).mono ?_;rw[HKK.out];rintro e w2 ⟨rfl,rfl⟩
 go_wp2_with fail
 refine(qkt (HS.out.below (qab (Below.refl _ _) q)) HS'.out.one k (by rw[HL.out];exact hgap) (by rw[HL.out];omega)).mono ?_;rintro e w2 ⟨v1,rfl,hr,ho,hb⟩;obtain⟨A1,n1,c1',hv⟩:∃A n c,v1=.slice A n c:=by obtain⟨A,c,e,_⟩:=hr.slice;exact⟨A,_,c,e⟩
 subst hv;have hfin:=qr0 (H.out.drewN q) (Octs.imp (fun _ _ h=>h.below (qab (Below.refl _ _) q)) HS'.out) k (Sig.rNext n) hr ho hb (.tuple #[.int .i64 (k:Nat),.int .i64 (0:Nat)]);obtain⟨c2',f2',c3',f3',hfin⟩:=hfin;have FIN:=am hfin;clear hfin hr ho hb
 go_wp2_with fail
 refine(qea _ hn _).mono ?_;rintro e w3 ⟨rfl,rfl⟩;go_wp2;go_ret2;obtain⟨q1,⟨vs',vn',q2⟩,q3⟩:=FIN.out;exact⟨rfl,⟨vs',vn',q2⟩,(Only.below (P:=WrH g O w) (qab (Below.refl _ _) q)).trans (q3.mono (Q:=WrH g O w) (fun k hk=>hk))⟩
def qax (u:Sig.Unit) (v:Value):Value:=.agg #[.int .u8 u.bsn,.int .u8 u.fsn,.bool u.bib,.bool u.fib,.int .u8 u.kind,.int .u8 u.status,.bool u.wide,v]
def qba:Option Nat→Value
 |none=>.int .i64 (-1)
 |some i=>.int .i64 i
def qat (gh:Nat) (b:Sig.Basic):List Value:=[ptr gh,.bool b.fib,.bool b.bib,.int .u8 b.last,.bool b.asked,qba b.again,.bool b.bsn.1,.bool b.bsn.2,.bool b.ind.1,.bool b.ind.2]
def qa2 (gh:Nat) (c:Sig.Cyclic):List Value:=[ptr gh,.int .i64 c.n1,.int .i64 c.n2,.int .u8 c.last,.int .i64 c.at_,.bool c.force,.bool c.bsn.1,.bool c.bsn.2]
def WrB (gb gh:Nat) (O:Nat→Prop) (w:World) (k:Nat):Prop:=k=gb∨k=gh∨(O k∧Typed w k 23)
structure PAt (T gb gh:Nat) (O:Nat→Prop) (w:World) (cs:List Value) (h:Sig.Hold) (w':World):Prop where
 blk:Blk w' gb T cs
 hold:∃vs vn,HoldAt w' gh (qbe O w w') h vs vn
 only:Only (WrB gb gh O w) w w'
 ty:T≠148∧T≠23∧T≠5
section
variable {T gb gh:Nat} {O:Nat→Prop} {w w1 w2:World} {cs:List Value} {h h':Sig.Hold} {vs vn r:Value} {e:Ending}
theorem PAt.refl (hb:Blk w gb T cs) (hh:HoldAt w gh O h vs vn) (ty:T≠148∧T≠23∧T≠5):PAt T gb gh O w cs h w:=⟨hb,⟨vs,vn,hh.mono (fun k hk _=>Or.inl hk)⟩,Only.refl _ _,ty⟩
theorem PAt.hacts (a:PAt T gb gh O w cs h w1) (k:HActs gh (qbe O w w1) w1 h' r e w2):e=.returned r∧PAt T gb gh O w cs h' w2:=by
 obtain⟨he,⟨vs',vn',hh⟩,ho⟩:=k;have hg:∀k,qbe (qbe O w w1) w1 w2 k→qbe O w w2 k:=qbp a.only.size ho.size;obtain⟨vs0,vn0,h0⟩:=a.hold;refine⟨he,a.blk.only ho ?_,⟨vs',vn',hh.mono (fun k hk _=>hg k hk)⟩,⟨ho.os.trans a.only.os,ho.tape.trans a.only.tape,ho.output.trans a.only.output,Nat.le_trans a.only.size ho.size,fun k hk hn=>?_⟩,a.ty⟩
 ·rintro(e|⟨_,ht⟩)
  ·subst e;exact a.ty.1 (a.blk.typed.ne h0.blk.typed)
  ·exact a.ty.2.1 (a.blk.typed.ne ht)
 ·refine(ho.block k (Nat.lt_of_lt_of_le hk a.only.size) (fun hw=>hn ?_)).trans (a.only.block k hk hn);rcases hw with hw|⟨hw|hw,ht⟩
  ·exact Or.inr (Or.inl hw)
  ·refine Or.inr (Or.inr ⟨hw,?_⟩);obtain⟨c,fr,e⟩:=ht;exact⟨c,fr,(a.only.block k hk hn).symm.trans e⟩
  ·omega
theorem PAt.below (a:PAt T gb gh O w cs h w1) (hb:Below w1.heap.size w1 w2):PAt T gb gh O w cs h w2:=by
 obtain⟨vs',vn',hh⟩:=a.hold;exact(a.hacts (hh.same hb (r:=.tuple #[]))).2
theorem PAt.set (a:PAt T gb gh O w cs h w1) (i:Nat) (u:Value) {cs':List Value} (hc:cs.set i u=cs'):PAt T gb gh O w cs' h (w1.setCell ⟨gb,i,none⟩ u):=by
 subst hc;obtain⟨vs',vn',hh⟩:=a.hold;have ho:Only (·=gb) w1 (w1.setCell ⟨gb,i,none⟩ u):=(Only.refl (·=gb) w1).set (p:=⟨gb,i,none⟩) rfl u;have hz:=qa0 w1 ⟨gb,i,none⟩ u;refine⟨a.blk.set i u,⟨vs',vn',(hh.only ho ?_ ?_ ?_).mono (fun k hk _=>?_)⟩,a.only.trans (ho.mono (fun k hk=>Or.inl hk)),a.ty⟩
 ·intro e;subst e;exact a.ty.1 (a.blk.typed.ne hh.blk.typed)
 ·intro k _ ht e;subst e;exact a.ty.2.1 (a.blk.typed.ne ht)
 ·intro k e ht;have e:k=gb:=e;subst e;exact a.ty.2.2 (a.blk.typed.ne ht)
 ·rcases hk with hk|hk
  ·exact Or.inl hk
  ·exact Or.inr ⟨hk.1,by rw[hz];exact hk.2⟩
theorem PAt.drew (a:PAt T gb gh O w cs h w1):PAt T gb gh O w cs h w1.drew:=a.below (qaf (Below.refl _ _))
end
def PActs (T gb gh:Nat) (O:Nat→Prop) (w:World) (cs:List Value) (h:Sig.Hold) (r:Value) (e:Ending) (w':World):Prop:=e=.returned r∧PAt T gb gh O w cs h w'
def qda (T gb gh:Nat) (O:Nat→Prop) (w:World) (cs:List Value) (h:Sig.Hold) (p:List Nat) (f:Value→Value) (e:Ending) (w':World):Prop:=∃v,e=.returned (f v)∧Oct w' v p∧PAt T gb gh O w cs h w'
def qdf:Obj:=.cells #[.int .u8 0,.int .u8 0,.bool false,.bool false,.int .u8 0,.int .u8 0,.bool false,.slice none 0 0] 167
def qm1 (w:World) (r:Value) (e:Ending) (w':World):Prop:=e=.returned r∧Below w.heap.size w w'
theorem qcw (g i:Nat) (a b odd:Bool) (w:World) (c0:w.cell? ⟨g,i,none⟩=some (.bool a)) (c1:w.cell? ⟨g,i+1,none⟩=some (.bool b)) (f0:w.frozen? ⟨g,i,none⟩=false) (f1:w.frozen? ⟨g,i+1,none⟩=false) :
  Calls Tryz.prog 172 #[.pointer (some ⟨g,i,none⟩),.bool odd] w fun e w'=>e=.returned (.bool (odd&&(a||b)))∧w'=(w.drew.setCell ⟨g,i,none⟩ (.bool b)).setCell ⟨g,i+1,none⟩ (.bool odd):=by
 cases odd
 ·skip;go_enter Tryz.func172,Tryz.ntmps172
  go_wp2_with fail
  refine sr 13 (fun W=>W.cell? ⟨g,i,none⟩=some (.bool a)∧W.cell? ⟨g,i+1,none⟩=some (.bool b)) [9,12] (show _∧_ from ⟨c0,c1⟩) (fun hY=>?_);refine pu 0 19 ?_;refine pu 1 20 ?_;refine pu 2 21 ?_;refine pu 3 22 ?_;refine pu 4 23 ?_;refine pu 6 25 ?_;refine pu 7 26 ?_;refine pu 10 28 ?_;refine tk 5 24 hY ?_;refine pu 8 27 ?_;refine laN 9 (fun K hK=>?_);refine sk ?_;refine hK.out _ _ ?_;clear hK K;refine pu 11 29 ?_;refine laN 12 (fun K hK=>?_);refine sk ?_;refine hK.out _ _ ?_;clear hK K;refine qav (by kernel_rfl) ?_;go_wp2;go_ret;exact⟨by simp,rfl⟩
 ·cases a
  ·skip;go_enter Tryz.func172,Tryz.ntmps172
   go_wp2_with fail
   refine sr 13 (fun W=>W.cell? ⟨g,i,none⟩=some (.bool false)∧W.cell? ⟨g,i+1,none⟩=some (.bool b)) [9,12] (show _∧_ from ⟨c0,c1⟩) (fun hY=>?_);refine pu 0 19 ?_;refine pu 1 20 ?_;refine pu 2 21 ?_;refine pu 3 22 ?_;refine pu 4 23 ?_;refine pu 6 25 ?_;refine pu 7 26 ?_;refine pu 10 28 ?_;refine tk 5 24 hY ?_;refine pu 8 27 ?_;refine laN 9 (fun K hK=>?_);refine sk ?_;refine hK.out _ _ ?_;clear hK K;refine pu 11 29 ?_;refine laN 12 (fun K hK=>?_);refine sk ?_;refine hK.out _ _ ?_;clear hK K;refine qav (by kernel_rfl) ?_;go_wp2;go_ret;exact⟨by simp,rfl⟩
  ·skip;go_enter Tryz.func172,Tryz.ntmps172
   go_wp2_with fail
   refine sr 13 (fun W=>W.cell? ⟨g,i,none⟩=some (.bool true)∧W.cell? ⟨g,i+1,none⟩=some (.bool b)) [9,12] (show _∧_ from ⟨c0,c1⟩) (fun hY=>?_);refine pu 0 19 ?_;refine pu 1 20 ?_;refine pu 2 21 ?_;refine pu 3 22 ?_;refine pu 4 23 ?_;refine pu 6 25 ?_;refine pu 7 26 ?_;refine pu 10 28 ?_;refine tk 5 24 hY ?_;refine pu 8 27 ?_;refine laN 9 (fun K hK=>?_);refine sk ?_;refine hK.out _ _ ?_;clear hK K;refine pu 11 29 ?_;refine laN 12 (fun K hK=>?_);refine sk ?_;refine hK.out _ _ ?_;clear hK K;refine qav (by kernel_rfl) ?_;go_wp2;go_ret;exact⟨by simp,rfl⟩
theorem Blk.below {w w':World} {g t:Nat} {cs:List Value} (h:Blk w g t cs) (hb:Below w.heap.size w w'):Blk w' g t cs:=(hb.block g h.lt).trans h
theorem HoldAt.alloc {w:World} {g:Nat} {O:Nat→Prop} {x:Sig.Hold} {vs vn:Value} (h:HoldAt w g O x vs vn) (o:Obj):HoldAt (w.alloc o) g O x vs vn:=h.below (qaa (Below.refl _ _) o)
theorem Blk.alloc {w:World} {g t:Nat} {cs:List Value} (h:Blk w g t cs) (o:Obj):Blk (w.alloc o) g t cs:=h.below (qaa (Below.refl _ _) o)
theorem room {w w1:World} (hb:Below (w.alloc qdf).heap.size (w.alloc qdf) w1):Blk w1 w.heap.size 167 [.int .u8 0,.int .u8 0,.bool false,.bool false,.int .u8 0,.int .u8 0,.bool false,.slice none 0 0] :=
 (hb.block _ (by simp[World.alloc_eq])).trans (heap_alloc_new w _)
theorem qc2 {fn:Func} {a:Act} {w:World} {Q:Ending→World→Prop} {p:Tmp} (h:fn.results=#[.cell p 167]) {g:Nat} {cs:List Value} (hg:Blk w g 167 cs) (hl:cs.length=8) (hp:a.tmps.getD p undef=.pointer (some ⟨g,0,none⟩)) (hd:a.defers=[]) (hQ:Q (.returned (.agg cs.toArray)) w):bodyPost Tryz.prog fn Q .ret a w:=by
 have hp':a.tmps[p]?.getD undef=.pointer (some ⟨g,0,none⟩):=by simpa using hp
 have hi:(Tryz.prog.info? 167).map (·.size)=some cs.toArray.size:=by
  rw[List.size_toArray,hl];kernel_rfl
 refine bodyPost_ret (v:=.agg cs.toArray) ?_ hd hQ;simp[results,h,hp',asAddr,run_loadVar_row w g 167 167 cs.toArray (0,0) _ hg Tryz.underlying167 rfl hi]
theorem Blk.room8 {w:World} {g:Nat} {a0 a1 a2 a3 a4 a5 a6 a7:Value} (h:Blk w g 167 [a0,a1,a2,a3,a4,a5,a6,a7]) :
  w.cell? ⟨g,0,none⟩=some a0∧w.cell? ⟨g,1,none⟩=some a1∧w.cell? ⟨g,2,none⟩=some a2∧w.cell? ⟨g,3,none⟩=some a3∧w.cell? ⟨g,4,none⟩=some a4∧w.cell? ⟨g,5,none⟩=some a5∧w.cell? ⟨g,6,none⟩=some a6∧w.cell? ⟨g,7,none⟩=some a7 ∧
  w.frozen? ⟨g,0,none⟩=false∧w.frozen? ⟨g,1,none⟩=false∧w.frozen? ⟨g,2,none⟩=false∧w.frozen? ⟨g,3,none⟩=false∧w.frozen? ⟨g,4,none⟩=false∧w.frozen? ⟨g,5,none⟩=false∧w.frozen? ⟨g,6,none⟩=false∧w.frozen? ⟨g,7,none⟩=false :=
 ⟨h.c 0 rfl,h.c 1 rfl,h.c 2 rfl,h.c 3 rfl,h.c 4 rfl,h.c 5 rfl,h.c 6 rfl,h.c 7 rfl,h.f 0,h.f 1,h.f 2,h.f 3,h.f 4,h.f 5,h.f 6,h.f 7⟩
theorem qwg {gb gh:Nat} {b:Sig.Basic} {w:World} (hb:Blk w gb 205 (qat gh b)) (n:Nat) :
  Calls Tryz.prog 195 #[.pointer (some ⟨gb,0,none⟩),.int .u8 n] w (qm1 w (qax (b.head n) (.slice none 0 0))):=by
 have c1:=hb.c 1 (v:=.bool b.fib) rfl;have c2:=hb.c 2 (v:=.bool b.bib) rfl;have c3:=hb.c 3 (v:=.int .u8 b.last) rfl;have n1:=World.new_ne w _ c1;have n2:=World.new_ne w _ c2;have n3:=World.new_ne w _ c3;clear hb;go_enter Tryz.func195,Tryz.ntmps195
 go_wp2_with fail
 go_region_held3 (fun w'=>w'.cell? ⟨gb,1,none⟩=some (.bool b.fib)∧w'.cell? ⟨gb,2,none⟩=some (.bool b.bib)∧w'.cell? ⟨gb,3,none⟩=some (.int .u8 b.last)) (go_keep) (fail)
 go_wp2;exact bodyPost_ret (v:=qax (b.head n) (.slice none 0 0)) (by simp[results,Tryz.results195,go_sem,qax,Sig.Basic.head]) rfl ⟨rfl,qaf (qaa (Below.refl _ _) _)⟩
theorem qwt {gb gh:Nat} {b:Sig.Basic} {w:World} (hb:Blk w gb 205 (qat gh b)) (n:Nat) (A:Option Addr) (k c:Nat) (p:List Nat) :
  Calls Tryz.prog 196 #[.pointer (some ⟨gb,0,none⟩),.int .u8 n,.slice A k c] w (qm1 w (qax (b.msg n p) (.slice A k c))):=by
 go_enter Tryz.func196,Tryz.ntmps196
 go_wp2_with fail
 refine(qwg (hb.alloc qdf) n).mono ?_;rintro e w1 ⟨rfl,hb1⟩;have hr:=room hb1;have r0:=fun (o:Obj)=>(hr.alloc o).c 0 rfl;have r1:=fun (o:Obj)=>(hr.alloc o).c 1 rfl;have r2:=fun (o:Obj)=>(hr.alloc o).c 2 rfl;have r3:=fun (o:Obj)=>(hr.alloc o).c 3 rfl;have r4:=fun (o:Obj)=>(hr.alloc o).c 4 rfl;have r5:=fun (o:Obj)=>(hr.alloc o).c 5 rfl;have r6:=fun (o:Obj)=>(hr.alloc o).c 6 rfl;have r7:=fun (o:Obj)=>(hr.alloc o).c 7 rfl;have HB:=am hb1;have qa:∀(o:Obj) (j:Nat),(w1.alloc o).frozen? ⟨w.heap.size,j,none⟩=false:=fun o j=>(hr.alloc o).f j;clear hb1;unfold qax;have HR:=am hr;clear hr;go_wp2;refine qc2 rfl (((((((((HR.out.alloc _).set 0 _).set 1 _).set 2 _).set 3 _).set 4 _).set 5 _).set 6 _).set 7 _) rfl rfl rfl ⟨rfl,?_⟩;have hs:w.heap.size≤w1.heap.size:=by have:=HB.out.size;simp[World.alloc_eq] at this;omega
 exact(((((((((((qaa (Below.refl _ _) qdf).trans (HB.out.mono (by simp[World.alloc_eq]))).alloc hs _).setCell (Nat.le_refl _) _).setCell (Nat.le_refl _) _).setCell (Nat.le_refl _) _).setCell (Nat.le_refl _) _).setCell (Nat.le_refl _) _).setCell (Nat.le_refl _) _).setCell (Nat.le_refl _) _).setCell (Nat.le_refl _) _)
theorem qul {gb gh:Nat} {O:Nat→Prop} {b:Sig.Basic} {w:World} (hb:Blk w gb 205 (qat gh b)) {vs vn:Value} (h:HoldAt w gh O b.h vs vn) (ok:HOk b.h) :
  Calls Tryz.prog 188 #[.pointer (some ⟨gb,0,none⟩)] w (qm1 w (qax b.fill (.slice none 0 0))):=by
 have c0:=hb.c 0 (v:=ptr gh) rfl;unfold ptr at c0;have a0:=fun o=>Lib.cell?_alloc_some (W:=w) o c0;have H:=am h;have OK:=am ok;have HBk:=am hb;clear h ok hb;go_enter Tryz.func188,Tryz.ntmps188
 go_wp2_with fail
 refine(qrz (H.out.alloc qdf) OK.out).mono ?_;rintro e w1 ⟨rfl,rfl⟩
 go_wp2_with fail
 refine(qwg ((HBk.out.alloc qdf).drew) _).mono ?_;rintro e w1 ⟨rfl,hb1⟩;have hb2:Below (w.alloc qdf).heap.size (w.alloc qdf) w1:=below_then (qaf (Below.refl _ _)) (Nat.le_refl _) hb1;have hr:=room hb2;obtain⟨r0,r1,r2,r3,r4,r5,r6,r7,q0,q1,q2,q3,q4,q5,q6,q7⟩:=hr.room8;have HR:=am hr;have HB:=am hb2;clear hr hb1 hb2;unfold qax;go_wp2;refine qc2 rfl ((((((((HR.out.set 0 _).set 1 _).set 2 _).set 3 _).set 4 _).set 5 _).set 6 _).set 7 _) rfl rfl rfl ⟨rfl,?_⟩;exact((((((((((qaa (Below.refl _ _) qdf).trans (HB.out.mono (by simp[World.alloc_eq]))).setCell (Nat.le_refl _) _).setCell (Nat.le_refl _) _).setCell (Nat.le_refl _) _).setCell (Nat.le_refl _) _).setCell (Nat.le_refl _) _).setCell (Nat.le_refl _) _).setCell (Nat.le_refl _) _).setCell (Nat.le_refl _) _)
theorem qxo {gb gh:Nat} {b:Sig.Basic} {w:World} (hb:Blk w gb 205 (qat gh b)) :
  Calls Tryz.prog 189 #[.pointer (some ⟨gb,0,none⟩)] w fun e w'=>e=.returned (.pointer (some ⟨gh,0,none⟩))∧w=w':=by
 have c0:=hb.c 0 (v:=ptr gh) rfl;unfold ptr at c0;clear hb;go_enter Tryz.func189,Tryz.ntmps189
 go_wp2_with fail
 go_ret;exact⟨rfl,rfl⟩
theorem qwb {gb gh:Nat} {b:Sig.Cyclic} {w:World} (hb:Blk w gb 203 (qa2 gh b)) (n:Nat) :
  Calls Tryz.prog 174 #[.pointer (some ⟨gb,0,none⟩),.int .u8 n] w (qm1 w (qax (b.head n) (.slice none 0 0))):=by
 have c3:=hb.c 3 (v:=.int .u8 b.last) rfl;have a3:=fun o=>Lib.cell?_alloc_some (W:=w) o c3;clear hb;go_enter Tryz.func174,Tryz.ntmps174
 go_wp2_with fail
 exact bodyPost_ret (v:=qax (b.head n) (.slice none 0 0)) (by simp[results,Tryz.results174,go_sem,qax,Sig.Cyclic.head]) rfl ⟨rfl,qaa (Below.refl _ _) _⟩
theorem qxj {gb gh:Nat} {b:Sig.Cyclic} {w:World} (hb:Blk w gb 203 (qa2 gh b)) (n:Nat) (A:Option Addr) (k c:Nat) (p:List Nat) :
  Calls Tryz.prog 178 #[.pointer (some ⟨gb,0,none⟩),.int .u8 n,.slice A k c] w (qm1 w (qax (b.msg n p) (.slice A k c))):=by
 go_enter Tryz.func178,Tryz.ntmps178
 go_wp2_with fail
 refine(qwb (hb.alloc qdf) n).mono ?_;rintro e w1 ⟨rfl,hb1⟩;have hr:=room hb1;have r0:=fun (o:Obj)=>(hr.alloc o).c 0 rfl;have r1:=fun (o:Obj)=>(hr.alloc o).c 1 rfl;have r2:=fun (o:Obj)=>(hr.alloc o).c 2 rfl;have r3:=fun (o:Obj)=>(hr.alloc o).c 3 rfl;have r4:=fun (o:Obj)=>(hr.alloc o).c 4 rfl;have r5:=fun (o:Obj)=>(hr.alloc o).c 5 rfl;have r6:=fun (o:Obj)=>(hr.alloc o).c 6 rfl;have r7:=fun (o:Obj)=>(hr.alloc o).c 7 rfl;have HB:=am hb1;have qa:∀(o:Obj) (j:Nat),(w1.alloc o).frozen? ⟨w.heap.size,j,none⟩=false:=fun o j=>(hr.alloc o).f j;clear hb1;unfold qax;have HR:=am hr;clear hr;go_wp2;refine qc2 rfl (((((((((HR.out.alloc _).set 0 _).set 1 _).set 2 _).set 3 _).set 4 _).set 5 _).set 6 _).set 7 _) rfl rfl rfl ⟨rfl,?_⟩;have hs:w.heap.size≤w1.heap.size:=by have:=HB.out.size;simp[World.alloc_eq] at this;omega
 exact(((((((((((qaa (Below.refl _ _) qdf).trans (HB.out.mono (by simp[World.alloc_eq]))).alloc hs _).setCell (Nat.le_refl _) _).setCell (Nat.le_refl _) _).setCell (Nat.le_refl _) _).setCell (Nat.le_refl _) _).setCell (Nat.le_refl _) _).setCell (Nat.le_refl _) _).setCell (Nat.le_refl _) _).setCell (Nat.le_refl _) _)
theorem qwc {gb gh:Nat} {O:Nat→Prop} {b:Sig.Cyclic} {w:World} (hb:Blk w gb 203 (qa2 gh b)) {vs vn:Value} (h:HoldAt w gh O b.h vs vn) (ok:HOk b.h) :
  Calls Tryz.prog 164 #[.pointer (some ⟨gb,0,none⟩)] w (qm1 w (qax b.fill (.slice none 0 0))):=by
 have c0:=hb.c 0 (v:=ptr gh) rfl;unfold ptr at c0;have a0:=fun o=>Lib.cell?_alloc_some (W:=w) o c0;have H:=am h;have OK:=am ok;have HBk:=am hb;clear h ok hb;go_enter Tryz.func164,Tryz.ntmps164
 go_wp2_with fail
 refine(qrz (H.out.alloc qdf) OK.out).mono ?_;rintro e w1 ⟨rfl,rfl⟩
 go_wp2_with fail
 refine(qwb ((HBk.out.alloc qdf).drew) _).mono ?_;rintro e w1 ⟨rfl,hb1⟩;have hb2:Below (w.alloc qdf).heap.size (w.alloc qdf) w1:=below_then (qaf (Below.refl _ _)) (Nat.le_refl _) hb1;have hr:=room hb2;obtain⟨r0,r1,r2,r3,r4,r5,r6,r7,q0,q1,q2,q3,q4,q5,q6,q7⟩:=hr.room8;have HR:=am hr;have HB:=am hb2;clear hr hb1 hb2;unfold qax;go_wp2;refine qc2 rfl ((((((((HR.out.set 0 _).set 1 _).set 2 _).set 3 _).set 4 _).set 5 _).set 6 _).set 7 _) rfl rfl rfl ⟨rfl,?_⟩;exact((((((((((qaa (Below.refl _ _) qdf).trans (HB.out.mono (by simp[World.alloc_eq]))).setCell (Nat.le_refl _) _).setCell (Nat.le_refl _) _).setCell (Nat.le_refl _) _).setCell (Nat.le_refl _) _).setCell (Nat.le_refl _) _).setCell (Nat.le_refl _) _).setCell (Nat.le_refl _) _).setCell (Nat.le_refl _) _)
theorem qxk {gb gh:Nat} {b:Sig.Cyclic} {w:World} (hb:Blk w gb 203 (qa2 gh b)) :
  Calls Tryz.prog 165 #[.pointer (some ⟨gb,0,none⟩)] w fun e w'=>e=.returned (.pointer (some ⟨gh,0,none⟩))∧w=w':=by
 have c0:=hb.c 0 (v:=ptr gh) rfl;unfold ptr at c0;clear hb;go_enter Tryz.func165,Tryz.ntmps165
 go_wp2_with fail
 go_ret;exact⟨rfl,rfl⟩
end Go.Proofs.YtjbijdmcceloaaaGreat.Top
