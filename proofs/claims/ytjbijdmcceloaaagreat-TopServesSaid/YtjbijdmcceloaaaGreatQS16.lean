/- Part of the proof of topServes_holds. No condition. -/
import Derived.Test.YtjbijdmcceloaaaGreatQS15
set_option linter.unusedVariables false
set_option linter.unusedSimpArgs false
set_option maxHeartbeats 80000000
set_option maxRecDepth 100000
namespace Go.Proofs.YtjbijdmcceloaaaGreat.Top
open Go Go.RowKit Go.Proofs.YtjbijdmcceloaaaGreat Go.Proofs.YtjbijdmcceloaaaGreatW.PrintWords Go.Proofs.YtjbijdmcceloaaaGreatW.PrintLast Go.Proofs.YtjbijdmcceloaaaGreatW.PrintMore
section
variable {g:Nat} {A:Adr} {O O' Q:Nat→Prop} {w w1 w2:World} {p p':Sig.Post} {q q':PoV} {vt vt':Value}
theorem LkWay.far {x:Sig.Link} (h:Lk w A O x vt) (hw:WayAt w A O x.w) (ho:Only Q w w1) (hq:∀k t,Typed w k t→(t=54∨t=152∨t=62∨t=177∨t=184∨t=205∨t=203∨t=148∨t=23∨t=5)→¬Q k):Lk w1 A (qbe O w w1) x vt∧WayAt w1 A (qbe O w w1) x.w:=by
 have hown:∀k,Own A k→¬Q k:=fun k hk=>by
  obtain⟨t,h1,h2⟩:=h.ownT k hk;exact hq k t h1 (by omega)
 have h5:qca Q w:=fun k hk ht=>hq k 5 ht (by decide) hk;have hl:=h.far ho hown (fun k _ ht=>hq k 184 ht (by decide)) h5;refine⟨hl.mono (fun k hk=>Or.inl hk) (fun k hk=>?_),(hw.only ho ?_ (hq _ _ hw.typed.2 (by decide)) (fun k _ ht=>hq k 23 ht (by decide)) h5).mono (fun k hk _=>Or.inl hk)⟩
 ·rcases hk with hk|hk
  ·exact hl.lt k hk
  ·exact⟨hk.2,fun hn=>by have:=h.own_lt k hn;omega⟩
 ·rcases hw.typed.1 with ht|ht
  ·exact hq _ _ ht (by decide)
  ·exact hq _ _ ht (by decide)
theorem PAcc.cell (h:PoIs w g A O p q vt) (i:Nat) (u:Value) (hx:p'.x=p.x) (e:(ptr A.s::q.vin::.int .i64 (p.ear.ones:Int)::.bool p.ear.found::.int .i64 (p.ear.n:Int)::qgi A p.x.t q).set i u=ptr A.s::q'.vin::.int .i64 (p'.ear.ones:Int)::.bool p'.ear.found::.int .i64 (p'.ear.n:Int)::qgi A p.x.t q') (hr:PoRows w O p' q'):PAcc g A O w p' q' vt (w.setCell ⟨g,i,none⟩ u):=by
 have ho:Only (·=g) w (w.setCell ⟨g,i,none⟩ u):=(Only.refl (·=g) w).set rfl _;have hq:∀k t,Typed w k t→t≠111→¬k=g:=fun k t ht hn e=>by subst e;exact hn (ht.ne h.typed)
 obtain⟨hl,hw⟩:=LkWay.far h.lk h.way ho (fun k t ht h=>hq k t ht (by omega));refine⟨⟨?_,by rw[hx];exact hl,by rw[hx];exact hw,?_⟩,ho.mono (fun k e=>Or.inl e)⟩
 ·have:=Blk.set h.blk i u;rw[e] at this;unfold EB;rw[hx];exact this
 ·refine PoRows.mono (hr.only ho (fun k e ht=>hq k 5 ht (by decide) e) (fun k _ ht=>?_)) (fun k hk _=>Or.inl hk);rcases ht with ht|ht|ht
  ·exact hq k _ ht (by decide)
  ·exact hq k _ ht (by decide)
  ·exact hq k _ ht (by decide)
theorem PAcc.ear (h:PoIs w g A O p q vt) {e1:Sig.Ear} (he:EarIs w1 g (ptr A.s) (qgi A p.x.t q) (qbe (fun k=>O k∧qau q.vout≠some k) w w1) e1) (ho:Only (BW g (fun k=>O k∧qau q.vout≠some k) w) w w1):∃vin,PAcc g A O w { p with ear:=e1 } { q with vin:=vin } vt w1:=by
 obtain⟨⟨vin,hb,hr⟩,hl⟩:=he;have hq:∀k t,Typed w k t→t≠111∧t≠4→¬BW g (fun k=>O k∧qau q.vout≠some k) w k:=by
  rintro k t ht hn (rfl|⟨_,h4⟩)
  ·exact hn.1 (ht.ne h.typed)
  ·exact hn.2 (ht.ne h4)
 obtain⟨hlk,hw⟩:=LkWay.far h.lk h.way ho (fun k t ht h=>hq k t ht (by omega));have hout:∀k,qau q.vout=some k→k<w.heap.size∧Typed w k 4:=by
  intro k hk;obtain⟨A',c',e,_,_,h⟩:=h.rows.out.slice;exact⟨(h k hk).2.2,(h k hk).2.1⟩
 refine⟨vin,⟨⟨hb,hlk,hw,?_⟩,ho.mono (fun k hk=>?_)⟩⟩
 ·refine⟨hr.mono (fun k hk _ _ _=>?_),hl,(h.rows.out.only ho (fun k hk ht hb=>?_)).mono (fun k hk _ _ _=>Or.inl hk),?_,?_,?_⟩
  ·rcases hk with ⟨h1,h2⟩|hk
   ·exact⟨Or.inl h1,h2⟩
   ·exact⟨Or.inr hk,fun e=>by have:=hout k e;omega⟩
  ·rintro(rfl|⟨⟨_,h2⟩,_⟩)
   ·exact absurd (ht.ne h.typed) (by decide)
   ·exact h2 hb
  ·obtain⟨A',n,c,l,e,ho'⟩:=h.rows.np;exact⟨A',n,c,l,e,ho'.only ho (fun k hk ht=>hq k 5 ht (by decide) hk)⟩
  ·exact(h.rows.sent.only ho (fun k _ ht=>hq k 107 ht (by decide)) (SentOk.only ho (fun k hk ht=>hq k 5 ht (by decide) hk))).mono (fun k hk _=>Or.inl hk)
  ·exact(h.rows.got.only ho (fun k _ ht=>hq k 139 ht (by decide)) (CameOk.only ho (fun k hk ht=>hq k 5 ht (by decide) hk))).mono (fun k hk _=>Or.inl hk)
 ·rcases hk with hk|⟨⟨h1,_⟩,h2⟩
  ·exact Or.inl hk
  ·exact Or.inr (Or.inr ⟨h1,Or.inl h2⟩)
theorem PoIs.earIs (h:PoIs w g A O p q vt):EarIs w g (ptr A.s) (qgi A p.x.t q) (fun k=>O k∧qau q.vout≠some k) p.ear:=⟨⟨q.vin,h.blk,h.rows.ear⟩,h.rows.elen⟩
theorem PoIs.c0 (h:PoIs w g A O p q vt):w.cell? ⟨g,0,none⟩=some (.pointer (some ⟨A.s,0,none⟩)):=Blk.c h.blk 0 rfl
end
structure LOk (x:Sig.Link):Prop where
 fails:x.fails<800000
 told:x.told.length≤600000
 n:x.a.p.n≤900
 tries:x.a.p.tries≤900
 leak:x.leak.n≤900
 seen:x.leak.seen≤900
 way:WOk x.w
 clock:∀n∈x.c,n≤4294967296
theorem qp9 (p:List Nat) (hb:∀b∈p,b<256):(Sig.decode p).1.bsn<256∧((Sig.decode p).1.kind=2→0<(Sig.decode p).1.info.length)∧(Sig.decode p).1.info.length≤p.length:=by
 unfold Sig.decode;split
 ·exact⟨by decide,fun h=>absurd h (by decide),Nat.zero_le _⟩
 split
 ·exact⟨by decide,fun h=>absurd h (by decide),Nat.zero_le _⟩
 simp only;split
 ·exact⟨by decide,fun h=>absurd h (by decide),Nat.zero_le _⟩
 ·have hd:(p.drop 3).length≤p.length:=by rw[List.length_drop];omega
  generalize p.drop 3=r at hd;have hm:p.getD 0 0%128<256:=by omega
  split
  ·exact⟨hm,fun h=>absurd h (by simp),Nat.zero_le _⟩
  ·exact⟨hm,fun h=>absurd h (by simp),Nat.zero_le _⟩
  ·exact⟨hm,fun h=>absurd h (by simp),Nat.zero_le _⟩
  ·rename_i h1 h2 h3;refine⟨hm,fun _=>?_,hd⟩
   match r,h1 with
   |[],h1=>exact absurd rfl h1
   |_::_,_=>simp
theorem qkc {g:Nat} {A:Adr} {O:Nat→Prop} {w:World} {p:Sig.Post} {q:PoV} {vt:Value} (h:PoIs w g A O p q vt) (ok:LOk p.x) (r:Option (List Nat)) (k:Nat) (vv:Value) (hh:HeardIs (some r) k vv w) (hb:∀l,r=some l→l.length≤1000000∧∀b∈l,b<256) :
  Calls Tryz.prog 50 #[.pointer (some ⟨g,0,none⟩),.agg #[.int .u8 k,vv]] w (fun e w'=>e=.returned (.tuple #[])∧∃vt',PAcc g A O w (p.hear r) q vt' w'):=by
 obtain⟨Av,nv,cv,rfl⟩:=hh.sl;have H0:=am h;have OK:=am ok;have HH:=am hh;have HBY:=am hb;clear h ok hh hb;go_enter Tryz.func50,Tryz.ntmps50;refine sq fun K0 J0=>?_
 go_wp2_with fail
 refine J0.out _ _ ?_;clear J0;have BX:qac (Blk (w.alloc (.cells #[.int .u8 k,.slice Av nv cv] 135)) w.heap.size 135 [.int .u8 k,.slice Av nv cv]):=⟨heap_alloc_new w _⟩;have hbW:Below w.heap.size w (w.alloc (.cells #[.int .u8 k,.slice Av nv cv] 135)):=qaa (Below.refl _ _) _;have HA:=am (PAcc.below H0.out hbW);have HH1:=am (HH.out.only (qag hbW) (fun _ h=>h.elim));clear hbW HH;generalize w.alloc (.cells #[.int .u8 k,.slice Av nv cv] 135)=W at *;obtain⟨B,hB⟩:∃B,w.heap.size=B:=⟨_,rfl⟩;rw[hB] at BX ⊢;clear hB;have H1:=am HA.out.is;have b0:=BX.out.c 0 rfl;have b1:=BX.out.c 1 rfl;have a0:=H1.out.c0;cases r with
 |none =>
  skip;have hk:k≠0:=by have:=HH1.out.1;omega
  have e1:(((k:Nat):Int) != 0)=true:=bne_iff_ne.2 (by omega);clear hk
  go_wp2_with fail
  refine(qft H1.out.lk H1.out.way (by have:=OK.out.fails;omega) (by have:=OK.out.told;omega) (by have:=OK.out.n;omega) (by have:=OK.out.tries;omega) (by have:=OK.out.leak;omega) (by have:=OK.out.seen;omega)).mono ?_;rintro e w2 ⟨rfl,vt2,hf⟩;have hq:=PAcc.link H1.out hf (qlz _ _);have HQ:=am hq;clear hf hq;go_wp2;refine bodyPost_ret (v:=.tuple #[]) (by simp[results,Tryz.results50,go_sem]) rfl ?_;refine⟨rfl,vt2,?_⟩;rw[show p.hear none={ p with x:=p.x.count true } from rfl];exact HA.out.trans HQ.out
 |some l =>
  obtain⟨rfl,ho⟩:=HH1.out;have HOC:=am ho;have e1:(((0:Nat):Int) != 0)=false:=rfl;have hby:=HBY.out l rfl;have HBL:=am hby;clear ho hby HH1
  go_wp2_with fail
  refine(qib W _ l HOC.out HBL.out.2 HBL.out.1).mono ?_;rintro e w2 ⟨vi,rfl,hoi,hb2⟩;obtain⟨⟨u,er⟩,hd⟩:∃d,Sig.decode l=d:=⟨_,rfl⟩;have hdo:=qp9 l HBL.out.2;rw[hd] at hoi hdo ⊢;obtain⟨Ai,ci,rfl,-,-,-⟩:=hoi.slice;have HA2:=am (PAcc.below H1.out hb2);have H2:=am HA2.out.is;have HOI:=am hoi;have HD:=am hd;have HDO:=am hdo;clear hb2 hoi hd hdo a0 b0 b1;have a0:=H2.out.c0;unfold qax;have hb3:Below w2.heap.size w2 (w2.alloc (.cells #[.int .u8 u.bsn,.int .u8 u.fsn,.bool u.bib,.bool u.fib,.int .u8 u.kind,.int .u8 u.status,.bool u.wide,.slice Ai u.info.length ci] 167)):=qaa (Below.refl _ _) _;have HA3:=am (HA.out.trans (HA2.out.trans (PAcc.below H2.out hb3)));have H3:=am HA3.out.is;have BX3:qac (Blk (w2.alloc (.cells #[.int .u8 u.bsn,.int .u8 u.fsn,.bool u.bib,.bool u.fib,.int .u8 u.kind,.int .u8 u.status,.bool u.wide,.slice Ai u.info.length ci] 167)) w2.heap.size 167 (qbg u (.slice Ai u.info.length ci))):=⟨heap_alloc_new w2 _⟩;have HOI3:=am (HOI.out.below hb3);have aa:=fun (o:Obj)=>Lib.cell?_alloc_some (W:=w2) o a0;clear hb3 a0;by_cases h0:er=0
  ·have e2:(((er:Nat):Int) != 0)=false:=by rw[bne_eq_false_iff_eq];omega
   have HZ:=am h0;clear h0
   go_wp2_with fail
   generalize w2.alloc (.cells #[.int .u8 u.bsn,.int .u8 u.fsn,.bool u.bib,.bool u.fib,.int .u8 u.kind,.int .u8 u.status,.bool u.wide,.slice Ai u.info.length ci] 167)=W3 at *;obtain⟨C,hC⟩:∃C,w2.heap.size=C:=⟨_,rfl⟩;rw[hC] at BX3 ⊢;clear hC aa;have b0:=BX3.out.c 0 rfl;have b1:=BX3.out.c 1 rfl;have b2:=BX3.out.c 2 rfl;have b3:=BX3.out.c 3 rfl;have b4:=BX3.out.c 4 rfl;have b5:=BX3.out.c 5 rfl;have b6:=BX3.out.c 6 rfl;have b7:=BX3.out.c 7 rfl;have a0:=H3.out.c0;go_still_tail 5,(by kernel_rfl);change wpList _ _ _ _ _ W3.drew
   go_wp2_with fail
   have HA4:=am (HA3.out.trans (PAcc.below H3.out (qaf (Below.refl _ _))));have H4:=am HA4.out.is;refine(qnv H4.out.lk H4.out.way (by have:=OK.out.fails;omega) (by have:=OK.out.told;omega) (by have:=OK.out.n;omega) (by have:=OK.out.tries;omega) (by have:=OK.out.leak;omega) (by have:=OK.out.seen;omega) OK.out.way u Ai ci HDO.out.1 (HOI3.out.below (qaf (Below.refl _ _))) HDO.out.2.1 (Nat.le_trans HDO.out.2.2 HBL.out.1)).mono ?_;rintro e w5 ⟨rfl,vt5,hf⟩;have hq:=PAcc.link H4.out hf (qvx _ _);have HQ:=am hq;clear hf hq;go_wp2;go_end0;refine⟨rfl,vt5,?_⟩;rw[show p.hear (some l)={ p with x:=p.x.hear u } from by show (if (Sig.decode l).2≠0 then _ else _)=_;rw[HD.out,if_neg (by intro h;exact h HZ.out)]];exact HA4.out.trans HQ.out
  have e2:(((er:Nat):Int) != 0)=true:=bne_iff_ne.2 (by omega);have HZ:=am h0;clear h0
  go_wp2_with fail
  refine(qft H3.out.lk H3.out.way (by have:=OK.out.fails;omega) (by have:=OK.out.told;omega) (by have:=OK.out.n;omega) (by have:=OK.out.tries;omega) (by have:=OK.out.leak;omega) (by have:=OK.out.seen;omega)).mono ?_;rintro e w5 ⟨rfl,vt5,hf⟩;have hq:=PAcc.link H3.out hf (qlz _ _);have HQ:=am hq;clear hf hq;go_wp2;refine bodyPost_ret (v:=.tuple #[]) (by simp[results,Tryz.results50,go_sem]) rfl ?_;refine⟨rfl,vt5,?_⟩;rw[show p.hear (some l)={ p with x:=p.x.count true } from by show (if (Sig.decode l).2≠0 then _ else _)=_;rw[HD.out,if_pos HZ.out]];exact HA3.out.trans HQ.out
section
variable {g:Nat} {A:Adr} {O O' Q:Nat→Prop} {w w1 w2:World} {p p':Sig.Post} {q q':PoV} {vt vt':Value}
theorem PAcc.mk' (h:PoIs w g A O p q vt) (ho:Only Q w w2) (hQ:∀k,Q k→k=g∨(O k∧(Typed w k 4∨Typed w k 107∨Typed w k 139))) (hx:p'.x=p.x) (hb:EB w2 g (ptr A.s) (qgi A p.x.t q') q'.vin p'.ear.ones p'.ear.found p'.ear.n) (hr:PoRows w2 (qbe O w w2) p' q'):PAcc g A O w p' q' vt w2:=by
 have hq:∀k t,Typed w k t→t≠111∧t≠4∧t≠107∧t≠139→¬Q k:=by
  intro k t ht hn hk;rcases hQ k hk with rfl|⟨_,h4|h4|h4⟩
  ·exact hn.1 (ht.ne h.typed)
  ·exact hn.2.1 (ht.ne h4)
  ·exact hn.2.2.1 (ht.ne h4)
  ·exact hn.2.2.2 (ht.ne h4)
 obtain⟨hlk,hw⟩:=LkWay.far h.lk h.way ho (fun k t ht h=>hq k t ht (by omega));refine⟨⟨by rw[hx];exact hb,by rw[hx];exact hlk,by rw[hx];exact hw,hr⟩,ho.mono (fun k hk=>?_)⟩;rcases hQ k hk with hk|hk
 ·exact Or.inl hk
 ·exact Or.inr (Or.inr hk)
theorem qtu:(Tryz.prog.info? 107).map (fun i=>(i.zero,i.size,i.bytes))=some (some (.agg #[.slice none 0 0,.int .i64 0]),2,32):=by kernel_rfl
theorem qtt:(Tryz.prog.info? 139).map (fun i=>(i.zero,i.size,i.bytes))=some (some (.agg #[.int .u8 0,.slice none 0 0,.int .i64 0]),3,40):=by kernel_rfl
theorem qkx (w:World) (cs:List Value) (t:Nat):∀j u,cs[j]?=some u→(w.alloc (.cells cs.toArray t)).cell? ((⟨w.heap.size,0,none⟩:Addr).add j)=some u:=by
 intro j u hj;rw[Addr.add_lit,World.cell?_alloc_mark]
 simpa using hj
theorem qk9 (h:PoIs w g A O p q vt) (hn:q.ns≤900) (hb0:Below w.heap.size w w1) {An:Option Addr} {nn cn:Nat} {l:List Nat} (ho:Oct w1 (.slice An nn cn) l) {k:Nat} (hk:k≤2000000000) {N:Nat} (hN:w1.heap.size=N) :
  ∃A1 n1 c1 w2,(Builtin.append_ #[108,108] 108 #[q.vs,.slice (some ⟨N,0,none⟩) 1 1]).run Tryz.prog (w1.alloc (.cells #[.slice An nn cn,.int .i64 (k:Int)] 107))=.ok (.slice A1 n1 c1) w2∧PAcc g A O w p { q with vs:=.slice A1 n1 c1,ns:=q.ns+1 } vt (w2.setCell ⟨g,10,none⟩ (.slice A1 n1 c1))∧w2.cell? ⟨g,10,none⟩=some q.vs∧w2.frozen? ⟨g,10,none⟩=false:=by
 subst hN;obtain⟨i0,hi,hz0,hz1,hz2⟩:=info_parts qtu;obtain⟨W,hW⟩:∃W,w1.alloc (.cells #[.slice An nn cn,.int .i64 (k:Int)] 107)=W:=⟨_,rfl⟩;have hba:Below w1.heap.size w1 W:=by rw[←hW];exact qaa (Below.refl _ _) _
 have hbW:Below w.heap.size w W:=hb0.trans (hba.mono hb0.size);have hcs:=qkx w1 [.slice An nn cn,.int .i64 (k:Int)] 107;rw[hW];rw[show w1.alloc (.cells [.slice An nn cn,.int .i64 (k:Int)].toArray 107)=W from hW] at hcs;have hs0:SR w (fun k=>O k∨w.heap.size≤k) 107 2 (fun _=>True) q.vs q.ns:=h.rows.sent.move (fun _ _=>rfl) (fun _ _=>trivial) (fun _ _ hp=>Or.inl hp);obtain⟨v1,w2,hrun,hS,hO,hat⟩:=SR.append (t:=108) (ty:=108) Tryz.underlying108 hi hz0 hz1 hz2 rfl (by decide) (by decide) hs0 hbW rfl hcs (by intro u hu;simp at hu;rcases hu with rfl|rfl <;> rfl) (by omega) (by decide) trivial (fun k hk=>Or.inr hk);obtain⟨A1,c1,rfl,-⟩:=hS.slice;have hvs:=h.rows.sent.blk;have hsz:=hbW.size;have hOw:Only (fun k=>qau q.vs=some k) w w2:=⟨hO.os.trans hbW.os,hO.tape.trans hbW.tape,hO.output.trans hbW.output,Nat.le_trans hbW.size hO.size,fun k hk hn=>(hO.block k (by omega) hn).trans (hbW.block k hk)⟩;have hq:∀k t,Typed w k t→t≠107→¬qau q.vs=some k:=fun k t ht hn e=>hn (ht.ne (hvs k e).2.1);have h5:qca (fun k=>qau q.vs=some k) w:=fun k hk ht=>hq k 5 ht (by decide) hk;have hg2:=h.blk.only hOw (hq g 111 h.typed (by decide));have hOg:Only (fun k=>qau q.vs=some k∨k=g) w (w2.setCell ⟨g,10,none⟩ (.slice A1 (q.ns+1) c1)):=(hOw.mono (Q:=fun k=>qau q.vs=some k∨k=g) (fun _ h=>Or.inl h)).set (p:=⟨g,10,none⟩) (Or.inr rfl) _;have hz:=qa0 w2 ⟨g,10,none⟩ (.slice A1 (q.ns+1) c1);have hog:Only (·=g) w2 (w2.setCell ⟨g,10,none⟩ (.slice A1 (q.ns+1) c1)):=(Only.refl (·=g) w2).set rfl _;have hng:∀k t,Typed w2 k t→t≠111→¬k=g:=fun k t ht hn e=>by subst e;exact hn (ht.ne (Blk.typed hg2))
 have hol:Oct w2 (.slice An nn cn) l:=(ho.below hba).only hO (fun k hk ht=>by
  have hlt:=(hvs k hk).2.2;obtain⟨cs,fr,hc⟩:=(hvs k hk).2.1;exact absurd (ht.ne ⟨cs,fr,(hbW.block k hlt).trans hc⟩) (by decide))
 refine⟨A1,_,c1,w2,hrun,PAcc.mk' h hOg (fun k hk=>?_) rfl (Blk.set hg2 10 _) ?_,Blk.c hg2 10 rfl,Blk.f hg2 10⟩
 ·rcases hk with hk|hk
  ·exact Or.inr ⟨(hvs k hk).1,Or.inr (Or.inl (hvs k hk).2.1)⟩
  ·exact Or.inl hk
 ·have hqg:∀k t,Typed w k t→t≠107∧t≠111→¬(qau q.vs=some k∨k=g):=by
   rintro k t ht hn (e|e)
   ·exact hq k t ht hn.1 e
   ·subst e;exact hn.2 (ht.ne h.typed)
  have h5g:qca (fun k=>qau q.vs=some k∨k=g) w:=fun k hk ht=>hqg k 5 ht (by decide) hk;obtain⟨inner,hown,hin,-,hone⟩:=hS;refine⟨(h.rows.ear.only hOg (fun k _ ht _=>hqg k 4 ht (by decide))).mono (fun k hk _ _ _=>⟨Or.inl hk.1,hk.2⟩),h.rows.elen,(h.rows.out.only hOg (fun k _ ht _=>hqg k 4 ht (by decide))).mono (fun k hk _ _ _=>Or.inl hk),?_,?_,(h.rows.got.only hOg (fun k _ ht=>hqg k 139 ht (by decide)) (CameOk.only hOg h5g)).mono (fun k hk _=>Or.inl hk)⟩
  ·obtain⟨A',n,c,l',e,h'⟩:=h.rows.np;exact⟨A',n,c,l',e,h'.only hOg h5g⟩
  ·have hS2:SR w (fun k=>O k∨w.heap.size≤k) 107 2 (SentOk w2) q.vs q.ns:=h.rows.sent.move (fun _ _=>rfl) (SentOk.only hOw h5) (fun _ _ hp=>Or.inl hp);obtain⟨v1',w2',hrun',hS',-,-⟩:=SR.append (t:=108) (ty:=108) Tryz.underlying108 hi hz0 hz1 hz2 rfl (by decide) (by decide) hS2 hbW rfl hcs (by intro u hu;simp at hu;rcases hu with rfl|rfl <;> rfl) (by omega) (by decide) ⟨An,nn,cn,l,k,rfl,hol,hk⟩ (fun k hk=>Or.inr hk);rw[hrun] at hrun';simp only[Result.ok.injEq] at hrun';obtain⟨rfl,rfl⟩:=hrun';refine(hS'.only hog (fun k hk ht e=>hng k 107 ht (by decide) e) (SentOk.only hog (fun k e ht=>hng k 5 ht (by decide) e))).mono (fun k hk hlt=>?_);rcases hk with hk|hk
   ·exact Or.inl hk
   ·exact Or.inr ⟨hk,hlt⟩
theorem qnw (h:PoIs w g A O p q vt) (hn:q.ng≤900) (hb0:Below w.heap.size w w1) {kd:Nat} {An:Option Addr} {nn cn:Nat} {l:List Nat} (ho:Oct w1 (.slice An nn cn) l) {k:Nat} (hk:k≤2000000000) {N:Nat} (hN:w1.heap.size=N) :
  ∃A1 n1 c1 w2,(Builtin.append_ #[109,109] 109 #[q.vg,.slice (some ⟨N,0,none⟩) 1 1]).run Tryz.prog (w1.alloc (.cells #[.int .u8 (kd:Int),.slice An nn cn,.int .i64 (k:Int)] 139))=.ok (.slice A1 n1 c1) w2∧PAcc g A O w p { q with vg:=.slice A1 n1 c1,ng:=q.ng+1 } vt (w2.setCell ⟨g,11,none⟩ (.slice A1 n1 c1))∧w2.cell? ⟨g,11,none⟩=some q.vg∧w2.frozen? ⟨g,11,none⟩=false:=by
 subst hN;obtain⟨i0,hi,hz0,hz1,hz2⟩:=info_parts qtt;obtain⟨W,hW⟩:∃W,w1.alloc (.cells #[.int .u8 (kd:Int),.slice An nn cn,.int .i64 (k:Int)] 139)=W:=⟨_,rfl⟩;have hba:Below w1.heap.size w1 W:=by rw[←hW];exact qaa (Below.refl _ _) _
 have hbW:Below w.heap.size w W:=hb0.trans (hba.mono hb0.size);have hcs:=qkx w1 [.int .u8 (kd:Int),.slice An nn cn,.int .i64 (k:Int)] 139;rw[hW];rw[show w1.alloc (.cells [.int .u8 (kd:Int),.slice An nn cn,.int .i64 (k:Int)].toArray 139)=W from hW] at hcs;have hs0:SR w (fun k=>O k∨w.heap.size≤k) 139 3 (fun _=>True) q.vg q.ng:=h.rows.got.move (fun _ _=>rfl) (fun _ _=>trivial) (fun _ _ hp=>Or.inl hp);obtain⟨v1,w2,hrun,hS,hO,hat⟩:=SR.append (t:=109) (ty:=109) Tryz.underlying109 hi hz0 hz1 hz2 rfl (by decide) (by decide) hs0 hbW rfl hcs (by intro u hu;simp at hu;rcases hu with rfl|rfl|rfl <;> rfl) (by omega) (by decide) trivial (fun k hk=>Or.inr hk);obtain⟨A1,c1,rfl,-⟩:=hS.slice;have hvs:=h.rows.got.blk;have hsz:=hbW.size;have hOw:Only (fun k=>qau q.vg=some k) w w2:=⟨hO.os.trans hbW.os,hO.tape.trans hbW.tape,hO.output.trans hbW.output,Nat.le_trans hbW.size hO.size,fun k hk hn=>(hO.block k (by omega) hn).trans (hbW.block k hk)⟩;have hq:∀k t,Typed w k t→t≠139→¬qau q.vg=some k:=fun k t ht hn e=>hn (ht.ne (hvs k e).2.1);have h5:qca (fun k=>qau q.vg=some k) w:=fun k hk ht=>hq k 5 ht (by decide) hk;have hg2:=h.blk.only hOw (hq g 111 h.typed (by decide));have hOg:Only (fun k=>qau q.vg=some k∨k=g) w (w2.setCell ⟨g,11,none⟩ (.slice A1 (q.ng+1) c1)):=(hOw.mono (Q:=fun k=>qau q.vg=some k∨k=g) (fun _ h=>Or.inl h)).set (p:=⟨g,11,none⟩) (Or.inr rfl) _;have hz:=qa0 w2 ⟨g,11,none⟩ (.slice A1 (q.ng+1) c1);have hog:Only (·=g) w2 (w2.setCell ⟨g,11,none⟩ (.slice A1 (q.ng+1) c1)):=(Only.refl (·=g) w2).set rfl _;have hng:∀k t,Typed w2 k t→t≠111→¬k=g:=fun k t ht hn e=>by subst e;exact hn (ht.ne (Blk.typed hg2))
 have hol:Oct w2 (.slice An nn cn) l:=(ho.below hba).only hO (fun k hk ht=>by
  have hlt:=(hvs k hk).2.2;obtain⟨cs,fr,hc⟩:=(hvs k hk).2.1;exact absurd (ht.ne ⟨cs,fr,(hbW.block k hlt).trans hc⟩) (by decide))
 refine⟨A1,_,c1,w2,hrun,PAcc.mk' h hOg (fun k hk=>?_) rfl (Blk.set hg2 11 _) ?_,Blk.c hg2 11 rfl,Blk.f hg2 11⟩
 ·rcases hk with hk|hk
  ·exact Or.inr ⟨(hvs k hk).1,Or.inr (Or.inr (hvs k hk).2.1)⟩
  ·exact Or.inl hk
 ·have hqg:∀k t,Typed w k t→t≠139∧t≠111→¬(qau q.vg=some k∨k=g):=by
   rintro k t ht hn (e|e)
   ·exact hq k t ht hn.1 e
   ·subst e;exact hn.2 (ht.ne h.typed)
  have h5g:qca (fun k=>qau q.vg=some k∨k=g) w:=fun k hk ht=>hqg k 5 ht (by decide) hk;obtain⟨inner,hown,hin,-,hone⟩:=hS;refine⟨(h.rows.ear.only hOg (fun k _ ht _=>hqg k 4 ht (by decide))).mono (fun k hk _ _ _=>⟨Or.inl hk.1,hk.2⟩),h.rows.elen,(h.rows.out.only hOg (fun k _ ht _=>hqg k 4 ht (by decide))).mono (fun k hk _ _ _=>Or.inl hk),?_,(h.rows.sent.only hOg (fun k _ ht=>hqg k 107 ht (by decide)) (SentOk.only hOg h5g)).mono (fun k hk _=>Or.inl hk),?_⟩
  ·obtain⟨A',n,c,l',e,h'⟩:=h.rows.np;exact⟨A',n,c,l',e,h'.only hOg h5g⟩
  ·have hS2:SR w (fun k=>O k∨w.heap.size≤k) 139 3 (CameOk w2) q.vg q.ng:=h.rows.got.move (fun _ _=>rfl) (CameOk.only hOw h5) (fun _ _ hp=>Or.inl hp);obtain⟨v1',w2',hrun',hS',-,-⟩:=SR.append (t:=109) (ty:=109) Tryz.underlying109 hi hz0 hz1 hz2 rfl (by decide) (by decide) hS2 hbW rfl hcs (by intro u hu;simp at hu;rcases hu with rfl|rfl|rfl <;> rfl) (by omega) (by decide) ⟨An,nn,cn,l,kd,k,rfl,hol,hk⟩ (fun k hk=>Or.inr hk);rw[hrun] at hrun';simp only[Result.ok.injEq] at hrun';obtain⟨rfl,rfl⟩:=hrun';refine(hS'.only hog (fun k hk ht e=>hng k 139 ht (by decide) e) (CameOk.only hog (fun k e ht=>hng k 5 ht (by decide) e))).mono (fun k hk hlt=>?_);rcases hk with hk|hk
   ·exact Or.inl hk
   ·exact Or.inr ⟨hk,hlt⟩
end
theorem qr2 (p:List Nat) (h:3≤p.length∧p.length≤277):(∃b t,Sig.frame p=b::t)∧(Sig.frame p).length≤20000:=by
 unfold Sig.frame;rw[if_neg (by omega)];have h1:=Bits.stuffed_len (Sig.bitsOf (p++Sig.chk p)) 0;rw[Bits.mstuffed,←Bits.mbits,Base.bitsOf_length,Bits.ints_len,List.length_append,Bits.mbits] at h1;have h2:(Sig.chk p).length=2:=rfl;refine⟨?_,by rw[List.length_append];have:Sig.flagBits.length=8:=rfl;omega⟩;generalize Sig.stuffed 0 (Sig.bitsOf (p++Sig.chk p))=l;cases l with
 |nil=>exact⟨false,_,rfl⟩
 |cons b t=>exact⟨b,t++Sig.flagBits,rfl⟩
theorem qlk {p:Sig.Post} {b:Bool} {t:List Bool} (h:p.out=b::t):p.outBit=({ p with out:=t },b):=by
 unfold Sig.Post.outBit;rw[h]
theorem qni {p:Sig.Post} {b:Bool} {t:List Bool} (h:p.out=[]) (hf:Sig.frame p.x.next.2.encode.1=b::t):p.outBit=({ p with x:=p.x.next.1,out:=t },b):=by
 unfold Sig.Post.outBit;rw[h];simp only[hf]
theorem qay {g:Nat} {A:Adr} {O:Nat→Prop} {w:World} {p:Sig.Post} {q:PoV} {vt:Value} (h:PoIs w g A O p q vt):w.cell? ⟨g,0,none⟩=some (.pointer (some ⟨A.s,0,none⟩))∧w.cell? ⟨g,5,none⟩=some q.vout∧w.cell? ⟨g,6,none⟩=some q.vnp∧w.cell? ⟨g,7,none⟩=some (.int .i64 (q.ends:Int))∧w.cell? ⟨g,8,none⟩=some (.int .i64 (q.gone:Int))∧w.cell? ⟨g,9,none⟩=some (.int .i64 (q.came:Int))∧w.cell? ⟨g,10,none⟩=some q.vs∧w.cell? ⟨g,11,none⟩=some q.vg∧∀i,w.frozen? ⟨g,i,none⟩=false :=
 ⟨h.c0,Blk.c h.blk 5 rfl,Blk.c h.blk 6 rfl,Blk.c h.blk 7 rfl,Blk.c h.blk 8 rfl,Blk.c h.blk 9 rfl,Blk.c h.blk 10 rfl,Blk.c h.blk 11 rfl,Blk.f h.blk⟩
section
variable {g:Nat} {A:Adr} {O:Nat→Prop} {w w1:World} {p:Sig.Post} {q:PoV} {vt:Value}
theorem PAcc.tail (h:PoIs w g A O p q vt) {b:Bool} {t:List Bool} (hp:p.out=b::t):PAcc g A O w { p with out:=t } { q with vout:=qct q.vout } vt (w.setCell ⟨g,5,none⟩ (qct q.vout)):=by
 have ho:=h.rows.out;rw[hp] at ho;exact PAcc.cell h 5 _ rfl rfl ⟨by rw[qhy];exact h.rows.ear,h.rows.elen,Rw.tail ho,h.rows.np,h.rows.sent,h.rows.got⟩
theorem PAcc.gone (h:PoIs w g A O p q vt) (k:Nat) {x:Int} (hx:x=(k:Int)):PAcc g A O w p { q with gone:=k } vt (w.setCell ⟨g,8,none⟩ (.int .i64 x)):=by
 subst hx;exact PAcc.cell h 8 _ rfl rfl ⟨h.rows.ear,h.rows.elen,h.rows.out,h.rows.np,h.rows.sent,h.rows.got⟩
theorem PAcc.came (h:PoIs w g A O p q vt) (k:Nat) {x:Int} (hx:x=(k:Int)):PAcc g A O w p { q with came:=k } vt (w.setCell ⟨g,9,none⟩ (.int .i64 x)):=by
 subst hx;exact PAcc.cell h 9 _ rfl rfl ⟨h.rows.ear,h.rows.elen,h.rows.out,h.rows.np,h.rows.sent,h.rows.got⟩
theorem PAcc.frame (h:PoIs w g A O p q vt) (hb:Below w.heap.size w w1) {v:Value} {l:List Bool} (hv:Rw w1 (fun k=>w.heap.size≤k) 4 v (bools l)):PAcc g A O w { p with out:=l } { q with vout:=v } vt (w1.setCell ⟨g,5,none⟩ v):=by
 have h1:=PAcc.below h hb;refine h1.trans (PAcc.cell h1.is 5 _ rfl rfl ⟨?_,h1.is.rows.elen,hv.mono (fun k hk _ hlt _=>Or.inr ⟨hk,hlt⟩),h1.is.rows.np,h1.is.rows.sent,h1.is.rows.got⟩);obtain⟨A',c',e,_,_,hl⟩:=h.rows.ear.slice;refine h1.is.rows.ear.mono (fun k hk _ _ hbk=>⟨hk.1,fun e=>?_⟩);obtain⟨A2,c2,e2,_,_,hl2⟩:=hv.slice;have:=(hl k hbk).2.2;have:=(hl2 k e).1;omega
theorem PAcc.np (h:PoIs w g A O p q vt) {An:Option Addr} {n c:Nat} {l:List Nat} (ho:Oct w (.slice An n c) l) (k:Nat):PAcc g A O w p { q with vnp:=.slice An n c,ends:=k } vt ((w.setCell ⟨g,6,none⟩ (.slice An n c)).setCell ⟨g,7,none⟩ (.int .i64 (k:Int))):=by
 have h1:=PAcc.cell (p':=p) (q':={ q with vnp:=.slice An n c }) h 6 (.slice An n c) rfl rfl ⟨h.rows.ear,h.rows.elen,h.rows.out,⟨An,n,c,l,rfl,ho⟩,h.rows.sent,h.rows.got⟩;exact h1.trans (PAcc.cell h1.is 7 _ rfl rfl ⟨h1.is.rows.ear,h1.is.rows.elen,h1.is.rows.out,h1.is.rows.np,h1.is.rows.sent,h1.is.rows.got⟩)
end
theorem qrq (W:World):(binOp .neq 23 (.slice none 0 0) (.slice none 0 0)).run Tryz.prog W=.ok (.bool false) W:=by kernel_rfl
theorem qrp (a:Addr) (n c:Nat) (W:World):(binOp .neq 23 (.slice (some a) n c) (.slice none 0 0)).run Tryz.prog W=.ok (.bool true) W:=by kernel_rfl
def qwp (g:Nat) (A:Adr) (O:Nat→Prop) (w:World) (p1:Sig.Post) (q:PoV) (w':World):Prop:=∃q' vt',q'.gone=q.gone+1∧q'.came=q.came∧q'.ns≤q.ns+1∧q'.ng=q.ng∧q'.ends≤2000000000∧PAcc g A O w p1 q' vt' w'
theorem qlj {g:Nat} {A:Adr} {O:Nat→Prop} {w:World} {p:Sig.Post} {q:PoV} {vt:Value} (h:PoIs w g A O p q vt) (ok:WOk p.x.w) (hg:q.gone≤1000000000) (hn:q.ns≤900) (hee:q.ends≤2000000000) :
  Calls Tryz.prog 51 #[.pointer (some ⟨g,0,none⟩)] w fun e w'=>e=.returned (.bool p.outBit.2)∧qwp g A O w p.outBit.1 q w':=by
 have H0:=am h;have OK:=am ok;have HG:=am hg;have HN:=am hn;have HEE:=am hee;clear h ok hg hn hee;go_enter Tryz.func51,Tryz.ntmps51;refine sq fun K0 J0=>?_
 go_wp2_with fail
 refine J0.out _ _ ?_;clear J0;refine wp_seq_k (fun K3 k3=>?_);have J3:qac (∀(u1_ u2_ u3_ u4_ u5_ u6_ u7_ u8_ u9_ u10_ u11_ u12_ u13_ u14_ u15_ u16_ u17_ u18_ u19_ u20_ u21_ u22_ u23_ u24_ u25_ u26_ u27_ u28_ u29_ u30_ u31_ u32_ u33_ u34_ u35_ u36_ u37_ u38_ u39_ u40_ u41_ u42_ u43_ u44_ u45_ u46_ u47_ u48_ u49_ u50_ u51_ u52_ u53_ u54_ u55_ u56_ u57_ u58_ u59_ u60_ u61_ u62_ u63_ u64_ u65_ u66_ u67_ u68_ u69_ u70_ u71_ u72_ u73_ u74_ u75_ u76_ u77_ u78_ u79_ u80_ u81_ u82_ u83_ u84_ u85_ u86_ u87_ u88_ u89_ u90_ u91_ u92_:Value) (p1:Sig.Post) (q1:PoV) (vt1:Value) (w1:World) (b:Bool) (t:List Bool),PAcc g A O w p1 q1 vt1 w1→p1.out=b::t→p.outBit=({ p1 with out:=t },b)→(q1.gone=q.gone∧q1.came=q.came∧q1.ns=q.ns∧q1.ng=q.ng∧q1.ends≤2000000000)→K3 ⟨#[.pointer (some ⟨g,0,none⟩),u1_,u2_,u3_,u4_,u5_,u6_,u7_,u8_,u9_,u10_,u11_,u12_,u13_,u14_,u15_,u16_,u17_,u18_,u19_,u20_,u21_,u22_,u23_,u24_,u25_,u26_,u27_,u28_,u29_,u30_,u31_,u32_,u33_,u34_,u35_,u36_,u37_,u38_,u39_,u40_,u41_,u42_,u43_,u44_,u45_,u46_,u47_,u48_,u49_,u50_,u51_,u52_,u53_,u54_,u55_,u56_,u57_,u58_,u59_,u60_,u61_,u62_,u63_,u64_,u65_,u66_,u67_,u68_,u69_,u70_,u71_,u72_,u73_,u74_,u75_,u76_,u77_,u78_,u79_,u80_,u81_,u82_,u83_,u84_,u85_,u86_,u87_,u88_,u89_,u90_,u91_,u92_],[]⟩ w1):=by
  refine⟨fun u1_ u2_ u3_ u4_ u5_ u6_ u7_ u8_ u9_ u10_ u11_ u12_ u13_ u14_ u15_ u16_ u17_ u18_ u19_ u20_ u21_ u22_ u23_ u24_ u25_ u26_ u27_ u28_ u29_ u30_ u31_ u32_ u33_ u34_ u35_ u36_ u37_ u38_ u39_ u40_ u41_ u42_ u43_ u44_ u45_ u46_ u47_ u48_ u49_ u50_ u51_ u52_ u53_ u54_ u55_ u56_ u57_ u58_ u59_ u60_ u61_ u62_ u63_ u64_ u65_ u66_ u67_ u68_ u69_ u70_ u71_ u72_ u73_ u74_ u75_ u76_ u77_ u78_ u79_ u80_ u81_ u82_ u83_ u84_ u85_ u86_ u87_ u88_ u89_ u90_ u91_ u92_ p1 q1 vt1 w1 b t ha hp hs hq=>k3 _ _ ?_⟩;clear k3;have HA:=am ha;have HP:=am hp;have HS:=am hs;have HQ:=am hq;clear ha hp hs hq;have H1:=am HA.out.is;obtain⟨a0,a5,-,-,-,-,-,-,af⟩:=qay H1.out;have ho:=H1.out.rows.out;rw[HP.out] at ho;obtain⟨n,hn⟩:∃n,t.length+1=n:=⟨_,rfl⟩;obtain⟨Ao,co,hvo,-,-,-⟩:=ho.slice;rw[qbb,List.length_cons,hn] at hvo;rw[hvo] at ho a5;obtain⟨go,off,rfl,hc⟩:=ho.cells (by simp[bools]);have kb:w1.cell? ⟨go,off,none⟩=some (.bool b):=hc 0 _ rfl;have n1:1≤n:=by omega
  obtain⟨i0,hi,-,hz1,-⟩:=info_parts el4.info;have hcut:=run_tail 94 4 .i64 el4.ht hi hz1 (some ⟨go,off,none⟩) n co n1;obtain⟨TA,m,TC,htv⟩:∃A m k,qct (.slice (some ⟨go,off,none⟩) n co)=.slice A m k:=⟨_,_,_,rfl⟩;have hm:m=t.length:=by simp only[qct,Value.slice.injEq] at htv;omega
  rw[htv] at hcut;have hT:=PAcc.tail H1.out HP.out;rw[hvo,htv] at hT;have HT:=am (HA.out.trans hT);have H2:=am HT.out.is;have HM:=am hm;have p0:=eq_true (show 0<n by omega);clear hi hz1 hc ho hT htv hvo hm hn n1;have hbit:p.outBit=({ p1 with out:=t },b):=HS.out;skip;refine sq fun K5 J5=>?_
  go_wp2_with fail
  refine J5.out _ _ ?_;clear J5;refine sq fun K6 J6=>?_
  go_wp2_with fail
  refine J6.out _ _ ?_;clear J6;clear kb a0 a5 af hcut p0;generalize w1.setCell ⟨g,5,none⟩ (.slice TA m TC)=w2 at *;obtain⟨a0,-,-,-,a8,-,-,-,af⟩:=qay H2.out;have hgone:q1.gone=q.gone:=HQ.out.1;obtain⟨k,hk⟩:∃k,q1.gone=k:=⟨_,rfl⟩;simp only[hk] at a8 hgone;have ew:wrap64 ((k:Int)+1)=((k+1:Nat):Int):=by have:=HG.out;unfold wrap64;omega
  have hk9:k≤1000000000:=by have:=HG.out;omega
  have HK:=am hk;have HK9:=am hk9;clear hgone hk;refine sq fun K7 J7=>?_
  go_wp2_with fail
  refine J7.out _ _ ?_;clear J7;clear a0 a8 af ew;have hT:=PAcc.gone H2.out (k+1) (x:=(k:Int)+1) (by omega);have HT3:=am (HT.out.trans hT);clear hT;generalize w2.setCell ⟨g,8,none⟩ (.int .i64 ((k:Int)+1))=w3 at *;have H3:=am HT3.out.is;have a5:w3.cell? ⟨g,5,none⟩=some (.slice TA m TC):=(qay H3.out).2.1;have HBITS:qac (p.outBit.2=b):=⟨by rw[HS.out]⟩;by_cases hm0:m=0
  ·have e0:=b_t m 0 (by omega);have HZ:=am hm0;clear hm0;have a6:=(qay H3.out).2.2.1;have a7:=(qay H3.out).2.2.2.1;obtain⟨An,nn,cn,ll,hnp,hno⟩:=H3.out.rows.np;rw[hnp] at a6;rcases hno with ⟨e1,e2⟩|⟨gg,oo,cc,cells,e1,hnr⟩
   ·simp only[Value.slice.injEq] at e1;obtain⟨rfl,rfl,rfl⟩:=e1;clear e2 hnp a7;have hnn:=qrq;go_wp2;go_ret;refine⟨by first|rfl|(rw[HBITS.out];rfl),_,_,?_,?_,?_,?_,?_,by first|exact HT3.out|(rw[HS.out];exact HT3.out)⟩
    ·show k+1=q.gone+1;have:=HK.out;have:=HQ.out.1;omega
    ·exact HQ.out.2.1
    ·show q1.ns≤q.ns+1;have:=HQ.out.2.2.1;omega
    ·exact HQ.out.2.2.2.1
    ·exact HQ.out.2.2.2.2
   ·have hno:Oct w3 (.slice An nn cn) ll:=Or.inr ⟨gg,oo,cc,cells,e1,hnr⟩;simp only[Value.slice.injEq] at e1;obtain⟨rfl,-,-⟩:=e1;have HNO:=am hno;obtain⟨Av,cv,hvs,-⟩:=H3.out.rows.sent.slice;have a10:=(qay H3.out).2.2.2.2.2.2.1;rw[hvs] at a10;obtain⟨A1,n1,c1,w4,hrun,hacc,s10,sf⟩:=qk9 H3.out (by show q1.ns≤900;have:=HQ.out.2.2.1;have:=HN.out;omega) (qaf (Below.refl _ _)) (hno.drew) (k:=q1.ends) HQ.out.2.2.2.2 (N:=w3.heap.size) rfl;rw[hvs] at hrun s10;have HRUN:=am hrun;have HACC:=am (HT3.out.trans hacc);skip;clear hnr hnp hno hvs hrun hacc;have hnn:=qrp ⟨gg,oo,none⟩ nn cn
    go_wp2_with fail
    refine sr 14 (fun W=>W.cell? ⟨g,10,none⟩=some (.slice Av q1.ns cv)∧W.cell? ⟨g,6,none⟩=some (.slice (some ⟨gg,oo,none⟩) nn cn)∧W.cell? ⟨g,7,none⟩=some (.int .i64 (q1.ends:Int))) [10,13] (show _∧_∧_ from ⟨a10,a6,a7⟩) (fun hY=>?_);refine pu 0 79 ?_;refine pu 1 80 ?_;refine pu 2 81 ?_;refine pu 3 82 ?_;refine pu 5 84 ?_;refine pu 6 85 ?_;refine pu 7 86 ?_;refine tk 4 83 hY ?_;refine tk 8 87 hY ?_;refine on_ 9 88 (fun K hK=>?_);refine qbf (w1:=?_) (v:=?_) (by rfl) rfl ?_ ?_;rotate_left 2
    ·go_simp;constructor
     ·rfl
     ·rfl
    refine hK.out _ _ ⟨Lib.cell?_alloc_some _ hY.1,Lib.cell?_alloc_some _ hY.2.1,Lib.cell?_alloc_some _ hY.2.2⟩ (fun hY=>?_);clear hK K;refine nm 88 ?_;refine la_ 10 89 (fun K hK=>?_);refine qbf (by rfl) rfl (qa8 (t:=108) (s:=.tmp 83) (x:=.tmp 88) rfl (vs:=(.slice Av q1.ns cv)) (vx:=(.slice (some ⟨w3.heap.size,0,none⟩) 1 1)) rfl rfl HRUN.out) ?_;refine hK.out _ _ ?_;clear hK K;refine nm 89 ?_;refine pu 11 90 ?_;refine pu 12 91 ?_;refine laN 13 (fun K hK=>?_);refine sk ?_;refine hK.out _ _ ?_;clear hK K;refine qav (by kernel_rfl) ?_;go_wp2;go_ret;refine⟨by first|rfl|(rw[HBITS.out];rfl),_,_,?_,?_,?_,?_,?_,by first|exact HACC.out|(rw[HS.out];exact HACC.out)⟩
    ·show k+1=q.gone+1;have:=HK.out;have:=HQ.out.1;omega
    ·exact HQ.out.2.1
    ·show q1.ns+1≤q.ns+1;have:=HQ.out.2.2.1;omega
    ·exact HQ.out.2.2.2.1
    ·exact HQ.out.2.2.2.2
  have e0:=b_f m 0 (by omega);go_wp2;go_ret;refine⟨by first|rfl|(rw[HBITS.out];rfl),_,_,?_,?_,?_,?_,?_,by first|exact HT3.out|(rw[HS.out];exact HT3.out)⟩
  ·show k+1=q.gone+1;have:=HK.out;have:=HQ.out.1;omega
  ·exact HQ.out.2.1
  ·show q1.ns≤q.ns+1;have:=HQ.out.2.2.1;omega
  ·exact HQ.out.2.2.2.1
  ·exact HQ.out.2.2.2.2
 clear k3;have ho:=H0.out.rows.out;obtain⟨a0,a5,-,-,-,-,-,-,af⟩:=qay H0.out;obtain⟨n,hn⟩:∃n,p.out.length=n:=⟨_,rfl⟩;obtain⟨Ao,co,hvo,-,-,-⟩:=ho.slice;rw[qbb,hn] at hvo;rw[hvo] at a5;clear ho hvo;cases hp:p.out with
 |cons b t =>
  have hn0:n≠0:=by rw[←hn,hp];simp
  have e0:=b_f n 0 (by omega);have HP:=am hp;clear hp hn hn0;go_wp2;exact J3.out _ _ _ _ _ _ _ _ _ _ _ _ _ _ _ _ _ _ _ _ _ _ _ _ _ _ _ _ _ _ _ _ _ _ _ _ _ _ _ _ _ _ _ _ _ _ _ _ _ _ _ _ _ _ _ _ _ _ _ _ _ _ _ _ _ _ _ _ _ _ _ _ _ _ _ _ _ _ _ _ _ _ _ _ _ _ _ _ _ _ _ _ p q vt w b t (PAcc.refl H0.out) HP.out (qlk HP.out) ⟨rfl,rfl,rfl,rfl,HEE.out⟩
 |nil =>
  have hn0:n=0:=by rw[←hn,hp];rfl
  have e0:=b_t n 0 (by omega);have HP:=am hp;clear hp hn hn0;obtain⟨x1,hx1⟩:∃y,p.x.next=y:=⟨_,rfl⟩;have HX:=am hx1;have huo:=qtg OK.out;have hnt:=qve p.x;rw[hx1] at huo hnt;have HUO:=am huo;have HNT:=am hnt;have hcall:=qnm H0.out.lk H0.out.way OK.out;rw[hx1] at hcall;have HC:=am hcall;clear hx1 huo hnt hcall;obtain⟨x1,u⟩:=x1;have heo:3≤u.encode.1.length∧u.encode.1.length≤276∧∀b∈u.encode.1,b<256:=qv3 HUO.out;obtain⟨⟨b,t,hf⟩,hfl⟩:=qr2 u.encode.1 ⟨heo.1,by omega⟩;have HEO:=am heo;have HF:=am hf;have HFL:=am hfl;clear heo hf hfl
  go_wp2_with fail
  refine HC.out.mono ?_;rintro e w1 ⟨v1,rfl,hov,vt1,hfa⟩;obtain⟨Au,cu,rfl,-,-,-⟩:=hov.slice;have hA1:=PAcc.link H0.out hfa HNT.out;have HA1:=am hA1;have H1:=am hA1.is;have HOV:=am hov;clear hov hfa hA1 a0 a5 af;unfold qax
  go_wp2_with fail
  refine(qia u HUO.out Au cu w1 HOV.out).mono ?_;rintro e w2 ⟨v2,rfl,ho2,hb2⟩;obtain⟨Ae,ce,rfl,-,-,-⟩:=ho2.slice;obtain⟨ne,hne⟩:∃k,u.encode.1.length=k:=⟨_,rfl⟩;rw[hne] at ho2 ⊢;have HO2:=am ho2;have HA2:=am (HA1.out.trans (PAcc.below H1.out hb2));have H2:=am HA2.out.is;clear ho2 hb2 hne
  go_wp2_with fail
  refine(qlv HO2.out ⟨HEO.out.1,by have:=HEO.out.2.1;omega⟩ HEO.out.2.2).mono ?_;rintro e w3 ⟨v3,rfl,hr3,hb3⟩;obtain⟨Af,cf,rfl,-,-,-⟩:=hr3.slice;obtain⟨nf,hnf⟩:∃k,(Sig.frame u.encode.1).length=k:=⟨_,rfl⟩;have hnl:nf≤20000:=by rw[←hnf];exact HFL.out
  rw[qbb,hnf] at hr3 ⊢;have hA3:=PAcc.frame H2.out hb3 hr3;have HA3:=am (HA2.out.trans hA3);have HO3:=am (HO2.out.below hb3);obtain⟨w4,hw4⟩:∃W,w3.setCell ⟨g,5,none⟩ (.slice Af nf cf)=W:=⟨_,rfl⟩;have HW4:=am hw4;clear hw4;have a0:=(qay (PAcc.below H2.out hb3).is).1;have a5:=(qay (PAcc.below H2.out hb3).is).2.1;have af:=(qay (PAcc.below H2.out hb3).is).2.2.2.2.2.2.2.2;have HNL:=am hnl;have HB3:=am hb3;clear hr3 hb3 hnf hA3 hnl
  go_wp2_with fail
  rw[HW4.out] at HA3 ⊢;have H4:=am HA3.out.is;clear a0 a5 af;have a5:w4.cell? ⟨g,5,none⟩=some (.slice Af nf cf):=(qay H4.out).2.1;have a6:=(qay H4.out).2.2.1;have a7:=(qay H4.out).2.2.2.1;have a8:w4.cell? ⟨g,8,none⟩=some (.int .i64 (q.gone:Int)):=(qay H4.out).2.2.2.2.1;have af:=(qay H4.out).2.2.2.2.2.2.2.2;obtain⟨gn,hgn⟩:∃k,q.gone=k:=⟨_,rfl⟩;have hg9:=HG.out;rw[hgn] at a8 hg9;have hnl:=HNL.out;have ew:wrap64 ((gn:Int)+(nf:Int))=((gn+nf:Nat):Int):=by unfold wrap64;omega
  have HGN:=am hgn;clear hgn;go_still_tail 15,(by kernel_rfl);change wpList _ _ _ _ _ w4.drew
  go_wp2_with fail
  have hA5:=HA3.out.trans (PAcc.below H4.out (qaf (Below.refl _ _)));have hoc:Oct w4 (.slice Ae ne ce) u.encode.1:=by rw[←HW4.out];exact HO3.out.only (((Only.refl (·=g) w3).set rfl _)) (fun k e ht=>by have e:k=g:=e;subst e;exact absurd (ht.ne (PAcc.below H2.out HB3.out).is.typed) (by decide))
  have hA6:=hA5.trans (PAcc.np hA5.is hoc.drew (gn+nf));refine J3.out _ _ _ _ _ _ _ _ _ _ _ _ _ _ _ _ _ _ _ _ _ _ _ _ _ _ _ _ _ _ _ _ _ _ _ _ _ _ _ _ _ _ _ _ _ _ _ _ _ _ _ _ _ _ _ _ _ _ _ _ _ _ _ _ _ _ _ _ _ _ _ _ _ _ _ _ _ _ _ _ _ _ _ _ _ _ _ _ _ _ _ _ _ _ _ _ b t hA6 HF.out ?_ ⟨rfl,rfl,rfl,rfl,?_⟩
  ·rw[qni HP.out (b:=b) (t:=t) (by rw[HX.out];exact HF.out),HX.out]
  ·show gn+nf≤2000000000;have:=HNL.out;have:=HG.out;have:=HGN.out;omega
structure LInv (x:Sig.Link):Prop where
 n:x.a.p.n≤3
 tries:x.a.p.tries≤5
 tries3:x.a.state=3→x.a.p.tries≤4
 leak:x.leak.n≤63
 seen:x.leak.seen≤256
 way:WOk x.w
 clock:∀n∈x.c,n≤4294967296
 clen:x.c.length=8
 T:∀i,x.T i≤4294967296
theorem qkv {c:List Nat} {v:Nat} (h:∀n∈c,n≤4294967296) (hv:v≤4294967296) (i:Nat):∀n∈c.set i v,n≤4294967296:=by
 intro n hn;rcases List.mem_or_eq_of_mem_set hn with h1|h1
 ·exact h n h1
 ·omega
theorem qhu (l:List Nat):∀{c:List Nat},(∀n∈c,n≤4294967296)→(∀n∈Sig.cStop c l,n≤4294967296)∧(Sig.cStop c l).length=c.length:=by
 induction l with
 |nil=>intro c h;exact⟨h,rfl⟩
 |cons i l ih =>
  intro c h;obtain⟨a,b⟩:=ih (qkv h (Nat.zero_le _) i);exact⟨a,b.trans (List.length_set ..)⟩
section
open Sig
theorem LInv.clk {x:Link} (h:LInv x) {c:List Nat} (h1:∀n∈c,n≤4294967296) (h2:c.length=8):LInv { x with c:=c }:=⟨h.n,h.tries,h.tries3,h.leak,h.seen,h.way,h1,h2,h.T⟩
theorem LInv.start {x:Link} (h:LInv x) (i:Nat):LInv (x.start i):=h.clk (qkv h.clock (h.T i) i) (by rw[List.length_set];exact h.clen)
theorem LInv.stop {x:Link} (h:LInv x) (l:List Nat):LInv (x.stop l):=h.clk (qhu l h.clock).1 ((qhu l h.clock).2.trans h.clen)
theorem LInv.al {x:Link} (h:LInv x) (a:Align) (h1:a.p.n≤3) (h2:a.p.tries≤5) (h3:a.state=3→a.p.tries≤4):LInv { x with a:=a }:=⟨h1,h2,h3,h.leak,h.seen,h.way,h.clock,h.clen,h.T⟩
theorem LInv.jm {x:Link} (h:LInv x) (j:Jam):LInv { x with j:=j }:=⟨h.n,h.tries,h.tries3,h.leak,h.seen,h.way,h.clock,h.clen,h.T⟩
theorem LInv.st {x:Link} (h:LInv x) (s:Nat):LInv { x with s:=s }:=⟨h.n,h.tries,h.tries3,h.leak,h.seen,h.way,h.clock,h.clen,h.T⟩
theorem LInv.og {x:Link} (h:LInv x) (o:Outage):LInv { x with o:=o }:=⟨h.n,h.tries,h.tries3,h.leak,h.seen,h.way,h.clock,h.clen,h.T⟩
theorem LInv.lk {x:Link} (h:LInv x) (l:Leak) (h1:l.n≤63) (h2:l.seen≤256):LInv { x with leak:=l }:=⟨h.n,h.tries,h.tries3,h1,h2,h.way,h.clock,h.clen,h.T⟩
theorem LInv.wy {x:Link} (h:LInv x) {w:Sig.Way} (hw:WOk w):LInv { x with w:=w }:=⟨h.n,h.tries,h.tries3,h.leak,h.seen,hw,h.clock,h.clen,h.T⟩
theorem LInv.td {x:Link} (h:LInv x) (l:List Sig.Told):LInv { x with told:=l }:=⟨h.n,h.tries,h.tries3,h.leak,h.seen,h.way,h.clock,h.clen,h.T⟩
theorem LInv.tell {x:Link} (h:LInv x) (t:Sig.Told):LInv (x.tell t):=h.td _
theorem LInv.aBegin {x:Link} (h:LInv x):LInv x.aBegin:=((h.al { x.a with state:=1,their:=false,p:=⟨false,0,0⟩ } (by simp) (by simp) (fun e=>by simp at e)).stop _).start 2
theorem LInv.aEnd {x:Link} (h:LInv x):LInv x.aEnd:=(h.al { x.a with state:=0,their:=false } h.n h.tries (fun e=>by simp at e)).stop _
theorem LInv.near {x:Link} (h:LInv x):LInv x.near:=((h.al { x.a with state:=2 } h.n h.tries (fun e=>by simp at e)).stop _).start 3
theorem LInv.prove {x:Link} (h:LInv x) (ht:x.a.p.tries≤4):LInv x.prove:=by
 have h1:=(h.al { x.a with state:=3,p:=⟨x.hurry,0,x.a.p.tries⟩ } (Nat.zero_le _) h.tries (fun _=>ht)).stop [0,2,3,4];unfold Link.prove;simp only;split
 ·exact h1.start 0
 ·exact h1.start 4
theorem LInv.jClear {x:Link} (h:LInv x):LInv x.jClear:=(h.jm _).stop _
theorem LInv.fail {x:Link} (h:LInv x) (why:Nat):LInv (x.fail why):=by
 unfold Link.fail;split
 ·exact h
 ·have h1:=h.aEnd.jClear;simp only;refine LInv.tell ?_ _;exact⟨h1.n,h1.tries,h1.tries3,Nat.zero_le _,Nat.zero_le _,h1.way,fun n hn=>by simp[cZero] at hn;omega,rfl,h1.T⟩
theorem LInv.aHurry {x:Link} (h:LInv x) (b:Bool):LInv (x.aHurry b):=by
 unfold Link.aHurry;simp only;have h1:=h.al { x.a with own:=b } h.n h.tries h.tries3;split
 ·rename_i hc;exact h1.prove (h.tries3 hc.1)
 ·exact h1
theorem LInv.aHeard {x:Link} (h:LInv x) (s:Nat):LInv (x.aHeard s).1:=by
 unfold Link.aHeard;split
 ·exact h
 ·simp only;have hy:∀y:Link,(if s=2 then { x with a:={ x.a with their:=true } } else x)=y→LInv y∧y.a.p=x.a.p∧y.a.state=x.a.state:=by
   intro y e;subst e;split
   ·exact⟨h.al _ h.n h.tries h.tries3,rfl,rfl⟩
   ·exact⟨h,rfl,rfl⟩
  generalize (if s=2 then { x with a:={ x.a with their:=true } } else x)=y at hy ⊢;obtain⟨hi,hp,hs⟩:=hy y rfl;split
  ·exact hi
  split
  ·exact hi.near
  split
  ·exact LInv.prove (hi.al { y.a with p:=⟨false,0,0⟩ } (Nat.zero_le _) (Nat.zero_le _) (fun _=>Nat.zero_le _)) (Nat.zero_le _)
  split
  ·exact hi.near
  split
  ·rename_i hc;exact hi.prove (by rw[hp];exact h.tries3 (by rw[←hs];exact hc.1))
  ·exact hi
theorem qu6 (p:Proof) (b:Bool) (hn:p.n≤3) (ht:p.tries≤4):(p.unit b).1.n≤3∧(p.unit b).1.tries≤p.tries+1∧((p.unit b).2.2=false→(p.unit b).1.tries≤4):=by
 have hm:p.most≤4:=by unfold Proof.most;split <;> decide
 cases b
 ·unfold Proof.unit;simp only[Bool.false_eq_true,if_false];split
  ·exact⟨hn,by simp,fun _=>ht⟩
  ·exact⟨Nat.zero_le _,by simp,fun h=>by simp at h;simp;omega⟩
 ·unfold Proof.unit;simp only[if_true];have hm2:({ p with n:=p.n+1 }:Proof).most=p.most:=rfl;split
  ·rename_i hc;rw[hm2] at hc;exact⟨by show p.n+1≤3;have hc:p.n+1<p.most:=hc;omega,by simp,fun _=>ht⟩
  ·exact⟨Nat.zero_le _,by simp,fun h=>by simp at h;simp;omega⟩
theorem LInv.aUnit {x:Link} (h:LInv x) (b:Bool) (h0:x.s≠0):LInv ((if (x.aUnit b).2≠0 then (x.aUnit b).1.fail (x.aUnit b).2 else (x.aUnit b).1)):=by
 by_cases h3:x.a.state=3
 ·obtain⟨u1,u2,u3⟩:=qu6 x.a.p b h.n (h.tries3 h3);have ht:=h.tries3 h3;have e:x.aUnit b=(if (x.a.p.unit b).2.2 then ({ x with a:={ x.a with p:=(x.a.p.unit b).1 } },5) else if (x.a.p.unit b).2.1 then (({ x with a:={ x.a with p:=(x.a.p.unit b).1 } }:Link).prove,0) else ({ x with a:={ x.a with p:=(x.a.p.unit b).1 } },0)):=by
   unfold Link.aUnit;rw[if_neg (fun hn=>hn h3)]
  rw[e];clear e;generalize x.a.p.unit b=r at u1 u2 u3 ⊢;cases hr:r.2.2 with
  |true =>
   rw[if_pos rfl,if_pos (by simp)];have hx:LInv { x with a:={ x.a with p:=r.1,state:=0 } }:=h.al _ u1 (by show r.1.tries≤5;omega) (fun e=>by simp at e);have hf:({ x with a:={ x.a with p:=r.1 } }:Link).fail 5=(({ x with a:={ x.a with p:=r.1,state:=0 } }:Link).fail 5):=by
    unfold Link.fail;rw[if_neg h0,if_neg h0];rfl
   rw[hf];exact hx.fail 5
  |false =>
   rw[if_neg Bool.false_ne_true];have hx:LInv { x with a:={ x.a with p:=r.1 } }:=h.al _ u1 (by show r.1.tries≤5;have:=u3 hr;omega) (fun _=>u3 hr);cases hq:r.2.1 with
   |true =>
    rw[if_pos rfl,if_neg (by simp)];exact hx.prove (u3 hr)
   |false =>
    rw[if_neg Bool.false_ne_true,if_neg (by simp)];exact hx
 ·have e:x.aUnit b=(x,0):=by unfold Link.aUnit;rw[if_pos h3]
  rw[e];exact h
theorem LInv.aOut {x:Link} (h:LInv x) (i:Nat):LInv (x.aOut i).1:=by
 unfold Link.aOut;split
 ·exact h
 split
 ·exact h.aEnd
 ·exact h
theorem LInv.jOut {x:Link} (h:LInv x) (i:Nat):LInv (x.jOut i).1:=by
 unfold Link.jOut;split
 ·exact(h.jm _).start 5
 split
 ·exact h
 ·exact h
theorem LInv.out {x:Link} (h:LInv x) (i:Nat):LInv (x.out i):=by
 unfold Link.out;split
 ·exact h
 split
 ·have h1:=h.aOut i;simp only;split
  ·exact h1.fail _
  split
  ·exact(h1.st _).start 1
  ·exact h1
 split
 ·exact h.fail 6
 split
 ·exact h.fail 2
 ·have h1:=h.jOut i;simp only;split
  ·exact h1.fail _
  ·exact h1
theorem LInv.tick {x:Link} (h:LInv x):LInv x.tick:=by
 unfold Link.tick;have hc:LInv { x with c:=(cTick x.c).1 }:=by
  refine h.clk (fun n hn=>?_) (by unfold cTick;rw[List.length_map];exact h.clen);obtain⟨m,hm,rfl⟩:=List.mem_map.1 hn;have:=h.clock m hm;omega
 have key:∀(l:List Nat) (y:Link),LInv y→LInv (l.foldl Link.out y):=by
  intro l
  induction l with
  |nil=>intro y hy;exact hy
  |cons i l ih=>intro y hy;exact ih _ (hy.out i)
 exact key _ _ hc
theorem qu7 (l:Leak) (b:Bool) (hn:l.n≤63) (hs:l.seen≤256):(l.unit b).1.n≤64∧(l.unit b).1.seen≤256∧((l.unit b).2=false→(l.unit b).1.n≤63):=by
 have h1:∀m:Leak,(if 0<l.n then (if 256≤l.seen+1 then (⟨l.n-1,0⟩:Leak) else ⟨l.n,l.seen+1⟩) else l)=m→m.n≤63∧m.seen≤256:=by
  intro m e;subst e;split
  ·split
   ·exact⟨by show l.n-1≤63;omega,Nat.zero_le _⟩
   ·exact⟨hn,by show l.seen+1≤256;omega⟩
  ·exact⟨hn,hs⟩
 unfold Leak.unit;simp only;generalize (if 0<l.n then (if 256≤l.seen+1 then (⟨l.n-1,0⟩:Leak) else ⟨l.n,l.seen+1⟩) else l)=m at h1 ⊢;obtain⟨a,c⟩:=h1 m rfl;have h2:∀k:Leak,(if b=true then (⟨m.n+1,if m.n=0 then 0 else m.seen⟩:Leak) else m)=k→k.n≤64∧k.seen≤256:=by
  intro k e;subst e;split
  ·exact⟨by show m.n+1≤64;omega,by show (if m.n=0 then 0 else m.seen)≤256;split <;> omega⟩
  ·exact⟨by omega,c⟩
 generalize (if b=true then (⟨m.n+1,if m.n=0 then 0 else m.seen⟩:Leak) else m)=k at h2 ⊢;obtain⟨d,e⟩:=h2 k rfl;exact⟨d,e,fun h=>by simp at h;omega⟩
theorem LInv.count {x:Link} (h:LInv x) (b:Bool):LInv (x.count b):=by
 unfold Link.count;split
 ·exact h
 rename_i h0;split
 ·exact h.aUnit b h0
 ·obtain⟨a,c,d⟩:=qu7 x.leak b h.leak h.seen;simp only;generalize x.leak.unit b=r at a c d ⊢;cases hr:r.2 with
  |true =>
   simp only[if_true];have hf:({ x with leak:=r.1 }:Link).fail 1=x.fail 1:=by
    unfold Link.fail;rw[if_neg h0,if_neg h0];rfl
   rw[hf];exact h.fail 1
  |false =>
   simp only[Bool.false_eq_true,if_false];exact h.lk _ (d hr) c
theorem LInv.wait {x:Link} (h:LInv x) (b:Bool):LInv (x.wait b):=by
 unfold Link.wait;split
 ·exact h.stop _
 split
 ·exact h.start 7
 ·exact h
theorem LInv.halt {x:Link} (h:LInv x):LInv x.halt:=((h.st 5).jClear).stop _
theorem LInv.resume {x:Link} (h:LInv x):LInv x.resume:=by
 unfold Link.resume;split
 ·exact h
 ·exact(h.st 4).wait false
theorem LInv.serve {x:Link} (h:LInv x):LInv x.serve:=by
 have h1:=((h.stop [1]).st 4).tell ⟨1,0,[]⟩;unfold Link.serve;simp only;split
 ·exact h1.halt
 ·exact h1
theorem LInv.remote {x:Link} (h:LInv x) (b:Bool):LInv (x.remote b):=by
 unfold Link.remote;have h1:LInv (if x.s=2∨x.s=3 then x.serve else x):=by split;exact h.serve;exact h
 simp only;generalize (if x.s=2∨x.s=3 then x.serve else x)=y at h1 ⊢;have h2:=h1.og (y.o.remote b).1;split
 ·exact h2
 split
 ·split
  ·exact(h2.tell _).halt
  ·exact h2.tell _
 ·exact(h2.tell _).resume
theorem LInv.jHeard {x:Link} (h:LInv x) (b:Bool):LInv (x.jHeard b).1:=by
 unfold Link.jHeard;have h1:LInv (if b=true then x.start 7 else x):=by split;exact h.start 7;exact h
 simp only;generalize (if b=true then x.start 7 else x)=y at h1 ⊢;split
 ·exact h1
 ·exact(h1.jm _).start 6
theorem LInv.status {x:Link} (h:LInv x) (s:Nat):LInv (x.status s):=by
 unfold Link.status;split
 ·have h1:=h.aHeard s;simp only;split
  ·exact h1.fail _
  ·exact h1
 split
 ·exact h.fail 8
 split
 ·exact h.fail 9
 split
 ·exact h.remote true
 split
 ·have h1:=h.jHeard (Nat.blt 0 x.w.hold.sent.length);simp only;split
  ·exact h1.tell _
  ·exact h1
 ·exact h
theorem LInv.o1 {x:Link} (h:LInv x):LInv (o1 x):=by
 unfold Top.o1;split
 ·exact h.serve
 ·exact h
theorem LInv.o2 {x:Link} (h:LInv x):LInv (o2 x):=by
 unfold Top.o2;split
 ·exact h.remote false
 ·exact h
theorem LInv.o3 {x:Link} (h:LInv x) (k:Nat):LInv (o3 x k):=by
 unfold Top.o3;split
 ·exact h.wait true
 ·exact h
theorem LInv.o4 {x:Link} (h:LInv x) (k:Nat):LInv (o4 x k):=by
 unfold Top.o4;split
 ·refine LInv.tell ?_ _;unfold Link.jAnswer;split
  ·exact(h.jm _).stop _
  ·exact h
 ·exact h
theorem LInv.o5 {x:Link} (h:LInv x) (u:Sig.Unit):LInv (o5 x u):=by
 unfold Top.o5;split
 ·exact h
 ·have h1:LInv (upW x (x.w.take u).1):=h.wy (h.way.take u);unfold o6;split
  ·exact h1.fail 4
  ·exact h1
  ·exact h1.tell _
theorem LInv.ordinary {x:Link} (h:LInv x) (u:Sig.Unit):LInv (x.ordinary u):=by
 rw[qc6];have h2:=h.o1.o2;have h3:LInv (upW (Top.o2 (Top.o1 x)) ((Top.o2 (Top.o1 x)).w.answer u).1):=h2.wy (h2.way.answer u);generalize upW (Top.o2 (Top.o1 x)) ((Top.o2 (Top.o1 x)).w.answer u).1=y at h3 ⊢;unfold oA;split
 ·exact h3.fail 4
 ·exact((h3.o3 _).o4 _).o5 u
theorem LInv.hear {x:Link} (h:LInv x) (u:Sig.Unit):LInv (x.hear u):=by
 unfold Link.hear;have h1:=h.count false;simp only;split
 ·exact h1
 split
 ·exact h1.status _
 split
 ·exact h1
 ·exact h1.ordinary u
theorem LInv.next {x:Link} (h:LInv x):LInv x.next.1:=by
 unfold Link.next;split
 ·exact h
 split
 ·exact h
 split
 ·split
  ·exact h.jm _
  ·exact(h.wy h.way.next).wait false
 split
 ·exact h
 ·exact h
theorem LInv.local_ {x:Link} (h:LInv x) (b:Bool):LInv (x.local_ b):=by
 unfold Link.local_;split
 ·exact h
 ·have h1:=h.og { x.o with own:=b };simp only;split
  ·exact h1.halt
  split
  ·exact h1.resume
  split
  ·exact h1.st 3
  split
  ·exact h1.st 2
  ·exact h1
theorem LInv.begin_ {x:Link} (h:LInv x):LInv x.begin_:=by
 have h1:LInv { x with w:=x.w.reset,s:=1,leak:=⟨0,0⟩,o:=⟨x.o.own,false,false⟩ }:=⟨h.n,h.tries,h.tries3,Nat.zero_le _,Nat.zero_le _,h.way.reset,h.clock,h.clen,h.T⟩;exact h1.aBegin
theorem LInv.order {x:Link} (h:LInv x) (k:Nat) (p:List Nat) (hb:∀b∈p,b<256):LInv (x.order k p).1:=by
 unfold Link.order;split
 ·split
  ·exact h
  ·exact h.begin_
 split
 ·split
  ·exact h
  ·exact h.fail 10
 split
 ·exact h.aHurry _
 split
 ·split
  ·exact h.wy (h.way.setHold (h.way.hold.put p hb))
  ·exact h
 split
 ·exact h.local_ _
 split
 ·exact h.wy (h.way.setHold h.way.hold.flush)
 split
 ·have h1:=h.og x.o.continue.1;simp only;split
  ·exact h1.resume
  ·exact h1
 split
 ·split
  ·split
   ·show LInv x.jBegin;unfold Link.jBegin;split
    ·exact h
    ·exact(h.jm _).start 5
   ·exact(h.jm _).stop _
  ·exact h
 ·exact h
end
section
open Sig
def More (x y:Link) (k j:Nat):Prop:=y.told.length≤x.told.length+k∧y.fails≤x.fails+j
theorem More.trans {x y z:Link} {k j k' j':Nat} (h:More x y k j) (h':More y z k' j'):More x z (k+k') (j+j'):=⟨by have:=h.1;have:=h'.1;omega,by have:=h.2;have:=h'.2;omega⟩
theorem qjq (x:Link):More x x.tick 8 8:=by
 obtain⟨h1,h2,_⟩:=qkg (cTick x.c).2 { x with c:=(cTick x.c).1 };have hl:=qkw x.c;simp only at h1 h2;unfold More Link.tick;simp only;exact⟨by omega,by omega⟩
theorem qht (x:Link) (b:Bool):More x (x.count b) 1 1:=⟨(qff x b).1,(qff x b).2.1⟩
theorem qb7 (x:Link) (k:Nat):More x (x.fail k) 1 1:=⟨(qbs x k).1,(qbs x k).2.1⟩
theorem qgf (x:Link) (b:Bool):More x (x.remote b) 2 0:=by
 unfold Link.remote;have h1:More x (if x.s=2∨x.s=3 then x.serve else x) 1 0:=by
  split
  ·exact⟨by rw[qe6];exact Nat.le_refl _,by rw[qgb];exact Nat.le_refl _⟩
  ·exact⟨by omega,by omega⟩
 simp only;generalize (if x.s=2∨x.s=3 then x.serve else x)=y at h1 ⊢;obtain⟨a,c⟩:=h1;split
 ·exact⟨by show y.told.length≤_;omega,c⟩
 split
 ·split
  ·exact⟨by show (y.told++[_]).length≤_;rw[List.length_append,List.length_singleton];omega,c⟩
  ·exact⟨by show (y.told++[_]).length≤_;rw[List.length_append,List.length_singleton];omega,c⟩
 ·obtain⟨d,e,_⟩:=qb0 (({ y with o:=(y.o.remote b).1 }:Link).tell ⟨5,0,[]⟩);exact⟨by rw[d];show (y.told++[_]).length≤_;rw[List.length_append,List.length_singleton];omega,by rw[e];exact c⟩
theorem qk6 (x:Link) (s:Nat):More x (x.status s) 2 1:=by
 have hA:(x.aHeard s).1.told=x.told∧(x.aHeard s).1.fails=x.fails:=by
  unfold Link.aHeard;split
  ·exact⟨rfl,rfl⟩
  ·simp only;have hy:∀y:Link,(if s=2 then { x with a:={ x.a with their:=true } } else x)=y→y.told=x.told∧y.fails=x.fails:=by
    intro y e;subst e;split <;> exact⟨rfl,rfl⟩
   generalize (if s=2 then { x with a:={ x.a with their:=true } } else x)=y at hy ⊢;have hy:=hy y rfl;have hp:∀z:Link,z.prove.told=z.told∧z.prove.fails=z.fails:=fun z=>by unfold Link.prove;simp only;split <;> exact⟨rfl,rfl⟩
   split
   ·exact hy
   split
   ·exact hy
   split
   ·rw[(hp _).1,(hp _).2];exact hy
   split
   ·exact hy
   split
   ·rw[(hp _).1,(hp _).2];exact hy
   ·exact hy
 unfold Link.status;split
 ·simp only;split
  ·obtain⟨a,b⟩:=qb7 (x.aHeard s).1 (x.aHeard s).2;rw[hA.1] at a;rw[hA.2] at b;exact⟨by omega,b⟩
  ·exact⟨by rw[hA.1];omega,by rw[hA.2];omega⟩
 split
 ·exact⟨by have:=(qb7 x 8).1;omega,(qb7 x 8).2⟩
 split
 ·exact⟨by have:=(qb7 x 9).1;omega,(qb7 x 9).2⟩
 split
 ·exact⟨(qgf x true).1,by have:=(qgf x true).2;omega⟩
 split
 ·have h:(x.jHeard (Nat.blt 0 x.w.hold.sent.length)).1.told=x.told∧(x.jHeard (Nat.blt 0 x.w.hold.sent.length)).1.fails=x.fails:=by
   unfold Link.jHeard;simp only;split <;> split <;> exact⟨rfl,rfl⟩
  simp only;split
  ·exact⟨by show (_++[_]).length≤_;rw[h.1,List.length_append,List.length_singleton];omega,by show (x.jHeard _).1.fails≤_;rw[h.2];omega⟩
  ·exact⟨by rw[h.1];omega,by rw[h.2];omega⟩
 ·exact⟨by omega,by omega⟩
theorem qiy (x:Link) (u:Sig.Unit):More x (x.ordinary u) 5 1:=by
 rw[qc6];have h1:=qln x;have h2:=qpj (o1 x);have h3:More x (upW (o2 (o1 x)) ((o2 (o1 x)).w.answer u).1) 3 0:=⟨by show (o2 (o1 x)).told.length≤_;omega,by show (o2 (o1 x)).fails≤_;omega⟩;generalize upW (o2 (o1 x)) ((o2 (o1 x)).w.answer u).1=y at h3 ⊢;obtain⟨a,b⟩:=h3;unfold oA;split
 ·obtain⟨c,d⟩:=qb7 y 4;exact⟨by omega,by omega⟩
 ·rename_i k _;have h4:=qpi y k;have h5:=qph (o3 y k) k;rw[h4.1,h4.2.1] at h5;unfold o5;split
  ·exact⟨by omega,by omega⟩
  ·have e1:(upW (o4 (o3 y k) k) ((o4 (o3 y k) k).w.take u).1).told=(o4 (o3 y k) k).told:=rfl;have e2:(upW (o4 (o3 y k) k) ((o4 (o3 y k) k).w.take u).1).fails=(o4 (o3 y k) k).fails:=rfl;unfold o6;split
   ·obtain⟨c,d⟩:=qb7 (upW (o4 (o3 y k) k) ((o4 (o3 y k) k).w.take u).1) 4;rw[e1] at c;rw[e2] at d;exact⟨by omega,by omega⟩
   ·exact⟨by rw[e1];omega,by rw[e2];omega⟩
   ·exact⟨by show (_++[_]).length≤_;rw[e1,List.length_append,List.length_singleton];omega,by show (upW (o4 (o3 y k) k) ((o4 (o3 y k) k).w.take u).1).fails≤_;rw[e2];omega⟩
theorem qp6 (x:Link) (u:Sig.Unit):More x (x.hear u) 6 2:=by
 have h:=qht x false;unfold Link.hear;simp only;generalize x.count false=y at h ⊢;obtain⟨a,b⟩:=h;split
 ·exact⟨by omega,by omega⟩
 split
 ·obtain⟨c,d⟩:=qk6 y u.status;exact⟨by omega,by omega⟩
 split
 ·exact⟨by omega,by omega⟩
 ·obtain⟨c,d⟩:=qiy y u;exact⟨by omega,by omega⟩
theorem qpm (x:Link):x.next.1.told=x.told∧x.next.1.fails=x.fails:=by
 unfold Link.next;split
 ·exact⟨rfl,rfl⟩
 split
 ·exact⟨rfl,rfl⟩
 split
 ·split
  ·exact⟨rfl,rfl⟩
  ·obtain⟨a,b,_⟩:=qf4 { x with w:=x.w.next.1 } false;exact⟨a,b⟩
 split <;> exact⟨rfl,rfl⟩
end
theorem LInv.ok {x:Sig.Link} (h:LInv x) (hf:x.fails<800000) (ht:x.told.length≤600000):LOk x:=⟨hf,ht,by have:=h.n;omega,by have:=h.tries;omega,by have:=h.leak;omega,by have:=h.seen;omega,h.way,h.clock⟩
structure EOk (e:Sig.Ear):Prop where
 n:e.n<128
 fnd:e.found=true→e.ones≤6∧e.len≤2687+e.ones
 los:e.found=false→e.len=0
theorem EOk.len {e:Sig.Ear} (h:EOk e):e.len≤3000:=by
 cases hf:e.found with
 |true=>have:=h.fnd hf;omega
 |false=>have:=h.los hf;omega
theorem EOk.bit {e:Sig.Ear} (h:EOk e) (on:Bool):EOk (e.bit on).1∧(e.bit on).1.ones≤e.ones+1:=by
 obtain⟨inb,len,ones,found,n⟩:=e;have hn:=h.n;have h1:=h.fnd;have h2:=h.los;simp only at hn h1 h2;unfold Sig.Ear.bit;cases found with
 |true =>
  have h1:=h1 rfl;simp only[if_true];cases on with
  |true =>
   simp only[if_true];by_cases h7:7≤ones+1
   ·rw[if_pos h7];exact⟨⟨(by decide:0<128),fun h=>by simp at h,fun _=>rfl⟩,Nat.le_refl _⟩
   ·rw[if_neg h7];exact⟨⟨hn,fun _=>⟨by show ones+1≤6;omega,by show len+1≤2687+(ones+1);omega⟩,fun h=>by simp at h⟩,Nat.le_refl _⟩
  |false =>
   simp only[Bool.false_eq_true,if_false];by_cases h6:ones=6
   ·rw[if_pos h6];exact⟨⟨hn,fun _=>⟨Nat.zero_le _,Nat.zero_le _⟩,fun h=>by simp at h⟩,Nat.zero_le _⟩
   ·rw[if_neg h6];by_cases hl:2687<len+1
    ·rw[if_pos hl];exact⟨⟨(by decide:0<128),fun h=>by simp at h,fun _=>rfl⟩,Nat.zero_le _⟩
    ·rw[if_neg hl];exact⟨⟨hn,fun _=>⟨Nat.zero_le _,by show len+1≤2687+0;omega⟩,fun h=>by simp at h⟩,Nat.zero_le _⟩
 |false =>
  have h2:=h2 rfl;simp only[Bool.false_eq_true,if_false];cases on with
  |true =>
   simp only[if_true];by_cases h1:n+1=128
   ·rw[if_pos h1];exact⟨⟨(by decide:0<128),fun h=>by simp at h,fun _=>h2⟩,Nat.le_refl _⟩
   ·rw[if_neg h1];exact⟨⟨by show n+1<128;omega,fun h=>by simp at h,fun _=>h2⟩,Nat.le_refl _⟩
  |false =>
   simp only[Bool.false_eq_true,if_false];by_cases h6:ones=6
   ·rw[if_pos h6];exact⟨⟨(by decide:0<128),fun _=>⟨Nat.zero_le _,Nat.zero_le _⟩,fun h=>by simp at h⟩,Nat.zero_le _⟩
   ·rw[if_neg h6];by_cases h1:n+1=128
    ·rw[if_pos h1];exact⟨⟨(by decide:0<128),fun h=>by simp at h,fun _=>h2⟩,Nat.zero_le _⟩
    ·rw[if_neg h1];exact⟨⟨by show n+1<128;omega,fun h=>by simp at h,fun _=>h2⟩,Nat.zero_le _⟩
theorem qqk {w:World} {g:Nat} {c0:Value} {rest:List Value} {P:Nat→Prop} {e:Sig.Ear} (h:EarIs w g c0 rest P e) (hP:∀k,P k→k<w.heap.size) (ok:EOk e) (ho:e.ones<1000000000) (on:Bool) :
  Calls Tryz.prog 49 #[.pointer (some ⟨g,1,none⟩),.bool on] w (qjk w g c0 rest P (e.bit on).1 (e.bit on).2):=by
 cases hf:e.found with
 |true=>exact qqj h hP hf ho ok.len on
 |false=>exact qr9 h hf ho ok.n on
structure qg3 (p:Sig.Post):Prop where
 x:LInv p.x
 ear:EOk p.ear
theorem qnt {p:Sig.Post} (h:qg3 p) (r:Option (List Nat)):qg3 (p.hear r)∧More p.x (p.hear r).x 6 2∧(p.hear r).ear=p.ear∧(p.hear r).out=p.out:=by
 have hc:=qht p.x true;have hcc:qg3 { p with x:=p.x.count true }∧More p.x (p.x.count true) 6 2:=⟨⟨h.x.count true,h.ear⟩,⟨by have:=hc.1;omega,by have:=hc.2;omega⟩⟩;unfold Sig.Post.hear;split
 ·exact⟨hcc.1,hcc.2,rfl,rfl⟩
 ·simp only;split
  ·exact⟨hcc.1,hcc.2,rfl,rfl⟩
  ·exact⟨⟨h.x.hear _,h.ear⟩,qp6 p.x _,rfl,rfl⟩
theorem qlu {p:Sig.Post} (h:qg3 p) (on:Bool):qg3 (p.inBit on)∧More p.x (p.inBit on).x 6 2∧(p.inBit on).ear.ones≤p.ear.ones+1∧(p.inBit on).out=p.out:=by
 obtain⟨a,b⟩:=h.ear.bit on;unfold Sig.Post.inBit;simp only;have hp:qg3 { p with ear:=(p.ear.bit on).1 }:=⟨h.x,a⟩;split
 ·exact⟨hp,⟨Nat.le_add_right _ _,Nat.le_add_right _ _⟩,b,rfl⟩
 ·rename_i r _;obtain⟨c,d,e,f⟩:=qnt hp r;exact⟨c,d,by rw[e];exact b,f⟩
theorem qdq (l:List Bool):∀{p:Sig.Post},qg3 p→qg3 (l.foldl Sig.Post.inBit p)∧More p.x (l.foldl Sig.Post.inBit p).x (6*l.length) (2*l.length)∧(l.foldl Sig.Post.inBit p).ear.ones≤p.ear.ones+l.length∧(l.foldl Sig.Post.inBit p).out=p.out:=by
 induction l with
 |nil=>intro p h;exact⟨h,⟨Nat.le_refl _,Nat.le_refl _⟩,Nat.le_refl _,rfl⟩
 |cons b l ih =>
  intro p h;obtain⟨a1,a2,a3,a4⟩:=qlu h b;obtain⟨b1,b2,b3,b4⟩:=ih a1;simp only[List.foldl_cons,List.length_cons];exact⟨b1,⟨by have:=a2.1;have:=b2.1;omega,by have:=a2.2;have:=b2.2;omega⟩,by omega,b4.trans a4⟩
theorem qkh {p:Sig.Post} (h:qg3 p):qg3 p.outBit.1∧p.outBit.1.x.told=p.x.told∧p.outBit.1.x.fails=p.x.fails∧p.outBit.1.ear=p.ear:=by
 unfold Sig.Post.outBit;split
 ·exact⟨⟨h.x,h.ear⟩,rfl,rfl,rfl⟩
 ·simp only;obtain⟨a,b⟩:=qpm p.x;split
  ·exact⟨⟨h.x.next,h.ear⟩,a,b,rfl⟩
  ·exact⟨⟨h.x.next,h.ear⟩,a,b,rfl⟩
theorem qdn (n:Nat):∀p:Sig.Post,Sig.Post.outBits (n+1) p=((Sig.Post.outBits n p).1.outBit.1,(Sig.Post.outBits n p).2++[(Sig.Post.outBits n p).1.outBit.2]):=by
 induction n with
 |zero=>intro p;rfl
 |succ n ih =>
  intro p;have e:Sig.Post.outBits (n+1+1) p=((Sig.Post.outBits (n+1) p.outBit.1).1,p.outBit.2::(Sig.Post.outBits (n+1) p.outBit.1).2):=rfl;rw[e,ih p.outBit.1];rfl
theorem qec (n:Nat):∀p:Sig.Post,(Sig.Post.outBits n p).2.length=n:=by
 induction n with
 |zero=>intro p;rfl
 |succ n ih=>intro p;rw[qdn,List.length_append,ih];rfl
theorem qer (n:Nat):∀{p:Sig.Post},qg3 p→qg3 (Sig.Post.outBits n p).1∧(Sig.Post.outBits n p).1.x.told=p.x.told∧(Sig.Post.outBits n p).1.x.fails=p.x.fails∧(Sig.Post.outBits n p).1.ear=p.ear:=by
 induction n with
 |zero=>intro p h;exact⟨h,rfl,rfl,rfl⟩
 |succ n ih =>
  intro p h;obtain⟨a,b,c,d⟩:=ih h;obtain⟨a',b',c',d'⟩:=qkh a;rw[qdn];exact⟨a',b'.trans b,c'.trans c,d'.trans d⟩
theorem qt2 (b0 b1 b2 b3 b4 b5 b6 b7:Value) (W:World):(Instr.index 82 (.agg #[b0,b1,b2,b3,b4,b5,b6,b7]) (.int .i64 0)).run Tryz.prog W=.ok b0 W:=by kernel_rfl
theorem qt1 (b0 b1 b2 b3 b4 b5 b6 b7:Value) (W:World):(Instr.index 82 (.agg #[b0,b1,b2,b3,b4,b5,b6,b7]) (.int .i64 1)).run Tryz.prog W=.ok b1 W:=by kernel_rfl
theorem qt0 (b0 b1 b2 b3 b4 b5 b6 b7:Value) (W:World):(Instr.index 82 (.agg #[b0,b1,b2,b3,b4,b5,b6,b7]) (.int .i64 2)).run Tryz.prog W=.ok b2 W:=by kernel_rfl
theorem qtz (b0 b1 b2 b3 b4 b5 b6 b7:Value) (W:World):(Instr.index 82 (.agg #[b0,b1,b2,b3,b4,b5,b6,b7]) (.int .i64 3)).run Tryz.prog W=.ok b3 W:=by kernel_rfl
theorem qty (b0 b1 b2 b3 b4 b5 b6 b7:Value) (W:World):(Instr.index 82 (.agg #[b0,b1,b2,b3,b4,b5,b6,b7]) (.int .i64 4)).run Tryz.prog W=.ok b4 W:=by kernel_rfl
theorem qtx (b0 b1 b2 b3 b4 b5 b6 b7:Value) (W:World):(Instr.index 82 (.agg #[b0,b1,b2,b3,b4,b5,b6,b7]) (.int .i64 5)).run Tryz.prog W=.ok b5 W:=by kernel_rfl
theorem qtw (b0 b1 b2 b3 b4 b5 b6 b7:Value) (W:World):(Instr.index 82 (.agg #[b0,b1,b2,b3,b4,b5,b6,b7]) (.int .i64 6)).run Tryz.prog W=.ok b6 W:=by kernel_rfl
theorem qtv (b0 b1 b2 b3 b4 b5 b6 b7:Value) (W:World):(Instr.index 82 (.agg #[b0,b1,b2,b3,b4,b5,b6,b7]) (.int .i64 7)).run Tryz.prog W=.ok b7 W:=by kernel_rfl
theorem qw7 (b0 b1 b2 b3 b4 b5 b6 b7:Value) (i:Nat) (hi:i<8) (v:Value) (hv:[b0,b1,b2,b3,b4,b5,b6,b7][i]?=some v) (W:World):(Instr.index 82 (.agg #[b0,b1,b2,b3,b4,b5,b6,b7]) (.int .i64 (i:Int))).run Tryz.prog W=.ok v W:=by
 match i,hi with
 |0,_=>(obtain rfl:b0=v:=Option.some.inj hv);exact qt2 b0 b1 b2 b3 b4 b5 b6 b7 W
 |1,_=>(obtain rfl:b1=v:=Option.some.inj hv);exact qt1 b0 b1 b2 b3 b4 b5 b6 b7 W
 |2,_=>(obtain rfl:b2=v:=Option.some.inj hv);exact qt0 b0 b1 b2 b3 b4 b5 b6 b7 W
 |3,_=>(obtain rfl:b3=v:=Option.some.inj hv);exact qtz b0 b1 b2 b3 b4 b5 b6 b7 W
 |4,_=>(obtain rfl:b4=v:=Option.some.inj hv);exact qty b0 b1 b2 b3 b4 b5 b6 b7 W
 |5,_=>(obtain rfl:b5=v:=Option.some.inj hv);exact qtx b0 b1 b2 b3 b4 b5 b6 b7 W
 |6,_=>(obtain rfl:b6=v:=Option.some.inj hv);exact qtw b0 b1 b2 b3 b4 b5 b6 b7 W
 |7,_=>(obtain rfl:b7=v:=Option.some.inj hv);exact qtv b0 b1 b2 b3 b4 b5 b6 b7 W
section
variable {g:Nat} {A:Adr} {O O' Q:Nat→Prop} {w w1 w2:World} {p p':Sig.Post} {q q':PoV} {vt vt':Value}
theorem PoIs.wrp_not (h:PoIs w g A O p q vt) {k t:Nat} (ht:Typed w k t) (hn:t≠54∧t≠152∧t≠62∧t≠177∧t≠184∧t≠205∧t≠203∧t≠148∧t≠23∧t≠111∧t≠4∧t≠107∧t≠139):¬WrP g A O w k:=by
 rintro(rfl|hk|⟨_,h4|h4|h4⟩)
 ·have:=ht.ne h.typed;omega
 ·exact h.wrf_not ht (by omega) hk
 ·have:=ht.ne h4;omega
 ·have:=ht.ne h4;omega
 ·have:=ht.ne h4;omega
theorem PAcc.keep (h:PoIs w1 g A O p q vt) (h':PAcc g A O w1 p' q' vt' w2) {b t:Nat} {cs:List Value} (hb:Blk w1 b t cs) (hn:t≠54∧t≠152∧t≠62∧t≠177∧t≠184∧t≠205∧t≠203∧t≠148∧t≠23∧t≠111∧t≠4∧t≠107∧t≠139):Blk w2 b t cs:=hb.only h'.only (h.wrp_not hb.typed hn)
theorem PAcc.room (h:PAcc g A O w p q vt w1) {b t:Nat} (hb:w.heap.size≤b) (ht:Typed w1 b t) (hn:t≠54∧t≠152∧t≠62∧t≠177∧t≠184∧t≠205∧t≠203∧t≠148∧t≠23∧t≠111∧t≠4∧t≠107∧t≠139∧t≠5) (ho:Only (fun k=>k=b) w1 w2):PAcc g A O w p q vt w2:=by
 have hq:∀k s,Typed w1 k s→s≠t→¬k=b:=fun k s hk hs e=>by subst e;exact hs (hk.ne ht)
 obtain⟨hl,hw⟩:=LkWay.far h.is.lk h.is.way ho (fun k s hk hs=>hq k s hk (by omega));refine⟨PoIs.grow (w1:=w1) ⟨h.is.blk.only ho (hq g 111 h.is.typed (by omega)),hl,hw,(h.is.rows.only ho (fun k e hk=>hq k 5 hk (by omega) e) (fun k _ hk=>?_)).mono (fun k hk _=>Or.inl hk)⟩ h.only.size ho.size,?_⟩
 ·rcases hk with hk|hk|hk
  ·exact hq k 4 hk (by omega)
  ·exact hq k 107 hk (by omega)
  ·exact hq k 139 hk (by omega)
 ·exact⟨ho.os.trans h.only.os,ho.tape.trans h.only.tape,ho.output.trans h.only.output,Nat.le_trans h.only.size ho.size,fun k hk hk'=>(ho.block k (Nat.lt_of_lt_of_le hk h.only.size) (fun e=>by omega)).trans (h.only.block k hk hk')⟩
theorem PAcc.nils (h:PoIs w g A O p q vt):PAcc g A O w p { q with vs:=.slice none 0 0,ns:=0,vg:=.slice none 0 0,ng:=0 } vt ((w.setCell ⟨g,10,none⟩ (.slice none 0 0)).setCell ⟨g,11,none⟩ (.slice none 0 0)):=by
 have h1:=PAcc.cell (p':=p) (q':={ q with vs:=.slice none 0 0,ns:=0 }) h 10 (.slice none 0 0) rfl rfl ⟨h.rows.ear,h.rows.elen,h.rows.out,h.rows.np,SR.nil _ _ _ _ _,h.rows.got⟩;exact h1.trans (PAcc.cell h1.is 11 _ rfl rfl ⟨h1.is.rows.ear,h1.is.rows.elen,h1.is.rows.out,h1.is.rows.np,h1.is.rows.sent,SR.nil _ _ _ _ _⟩)
theorem PoIs.olt (h:PoIs w g A O p q vt):∀k,(O k∧qau q.vout≠some k)→k<w.heap.size:=fun k hk=>(h.lk.lt k hk.1).1
end
theorem qds (b:Bool):Sig.bval b≤1:=by cases b <;> decide
theorem qki:∀(n:Nat) (t:List Bool),t.length≤n→(∀b∈Sig.octets t,b<256)∧(Sig.octets t).length≤t.length:=by
 intro n
 induction n with
 |zero =>
  intro t ht;obtain rfl:t=[]:=List.eq_nil_of_length_eq_zero (by omega);exact⟨fun b hb=>by simp[Sig.octets] at hb,by simp[Sig.octets]⟩
 |succ n ih =>
  intro t ht
  match t,ht with
  |a::b::c::d::e::f::g::h::t,ht =>
   obtain⟨i1,i2⟩:=ih t (by simp only[List.length_cons] at ht;omega);have:=qds a;have:=qds b;have:=qds c;have:=qds d;have:=qds e;have:=qds f;have:=qds g;have:=qds h;refine⟨fun x hx=>?_,?_⟩
   ·rcases List.mem_cons.1 hx with rfl|hx
    ·omega
    ·exact i1 x hx
   ·show (Sig.octets t).length+1≤_;simp only[List.length_cons];omega
  |[],_=>exact⟨fun b hb=>by simp[Sig.octets] at hb,by simp[Sig.octets]⟩
  |[_],_=>exact⟨fun b hb=>by simp[Sig.octets] at hb,by simp[Sig.octets]⟩
  |[_,_],_=>exact⟨fun b hb=>by simp[Sig.octets] at hb,by simp[Sig.octets]⟩
  |[_,_,_],_=>exact⟨fun b hb=>by simp[Sig.octets] at hb,by simp[Sig.octets]⟩
  |[_,_,_,_],_=>exact⟨fun b hb=>by simp[Sig.octets] at hb,by simp[Sig.octets]⟩
  |[_,_,_,_,_],_=>exact⟨fun b hb=>by simp[Sig.octets] at hb,by simp[Sig.octets]⟩
  |[_,_,_,_,_,_],_=>exact⟨fun b hb=>by simp[Sig.octets] at hb,by simp[Sig.octets]⟩
  |[_,_,_,_,_,_,_],_=>exact⟨fun b hb=>by simp[Sig.octets] at hb,by simp[Sig.octets]⟩
theorem qlr {t:List Bool} {p:List Nat} (h:Sig.judge t=some p):p.length≤1000000∧∀b∈p,b<256:=by
 unfold Sig.judge at h;split at h
 ·simp at h
 ·rename_i l _;split at h
  ·simp at h
  ·simp only at h;split at h
   ·simp at h
   ·split at h
    ·simp only[Option.some.injEq] at h;obtain⟨a,b⟩:=qki l.length l (Nat.le_refl _);subst h;refine⟨by rw[List.length_take];omega,fun b hb=>a b (List.mem_of_mem_take hb)⟩
    ·simp at h
theorem qqi (e:Sig.Ear) (on:Bool) (r:Option (List Nat)) (h:(e.bit on).2=some r):∀l,r=some l→l.length≤1000000∧∀b∈l,b<256:=by
 intro l hl;subst hl;have key:∀o:Option (Option (List Nat)),(∃t,o=some (Sig.judge t))∨o=none∨o=some none→o=some (some l)→l.length≤1000000∧∀b∈l,b<256:=by
  rintro o (⟨t,rfl⟩|rfl|rfl) e
  ·exact qlr (Option.some.inj e)
  ·simp at e
  ·simp at e
 refine key _ ?_ h;unfold Sig.Ear.bit;split
 ·split
  ·split
   ·exact Or.inr (Or.inl rfl)
   ·exact Or.inr (Or.inl rfl)
  split
  ·simp only;split
   ·exact Or.inr (Or.inl rfl)
   ·exact Or.inl ⟨_,rfl⟩
  split
  ·exact Or.inr (Or.inl rfl)
  ·exact Or.inr (Or.inl rfl)
 ·split
  ·split
   ·exact Or.inr (Or.inr rfl)
   ·exact Or.inr (Or.inl rfl)
  split
  ·exact Or.inr (Or.inl rfl)
  split
  ·exact Or.inr (Or.inr rfl)
  ·exact Or.inr (Or.inl rfl)
theorem HeardIs.oct {r:Option (Option (List Nat))} {k n c:Nat} {A:Option Addr} {w:World} (h:HeardIs r k (.slice A n c) w):∃l,Oct w (.slice A n c) l:=by
 rcases r with _|(_|p)
 ·rw[h.2];exact⟨[],Rw.nil _ _ _⟩
 ·rw[h.2];exact⟨[],Rw.nil _ _ _⟩
 ·exact⟨p,h.2⟩
def qvw (p:Sig.Post) (e1:Sig.Ear):Option (Option (List Nat))→Sig.Post
 |none=>{ p with ear:=e1 }
 |some h=>({ p with ear:=e1 }:Sig.Post).hear h
theorem qrx {p:Sig.Post} {on:Bool} {e1:Sig.Ear} {r:Option (Option (List Nat))} (h:p.ear.bit on=(e1,r)):p.inBit on=qvw p e1 r:=by
 unfold Sig.Post.inBit;rw[h];rcases r with _|r <;> rfl
theorem qpt (i0 i1 i2 i3 i4 i5 i6 i7:Bool) {inp:List Bool} (h:[i0,i1,i2,i3,i4,i5,i6,i7]=inp) {i:Nat} (hi:i<8) {on:Bool} (hon:inp[i]?=some on) (W:World):(Instr.index 82 (.agg #[.bool i0,.bool i1,.bool i2,.bool i3,.bool i4,.bool i5,.bool i6,.bool i7]) (.int .i64 (i:Int))).run Tryz.prog W=.ok (.bool on) W:=by
 refine qw7 _ _ _ _ _ _ _ _ i hi (.bool on) ?_ W;have h2:(inp.map Value.bool)[i]?=some (.bool on):=by rw[List.getElem?_map,hon];rfl
 rw[←h] at h2;exact h2
theorem qtc (l:List Bool) (i:Nat) (h:l.length=i) (h8:i<8):(bools l++List.replicate (8-i) (Value.bool false))[i]?=some (.bool false):=by
 have hl:=qbb l;rw[List.getElem?_append_right (by omega),show i-(bools l).length=0 by omega,show 8-i=(8-(i+1))+1 by omega];rfl
theorem qtb (l:List Bool) (i:Nat) (h:l.length=i) (h8:i<8) (b:Bool):(bools l++List.replicate (8-i) (Value.bool false)).set i (.bool b)=bools (l++[b])++List.replicate (8-(i+1)) (.bool false):=by
 have hl:=qbb l;rw[List.set_append_right _ _ (by omega),show i-(bools l).length=0 by omega,show 8-i=(8-(i+1))+1 by omega,←qhx,List.append_assoc];rfl
def qhs:List Value:=List.replicate 8 (.bool false)
def qwi (g:Nat) (A:Adr) (O:Nat→Prop) (w:World) (p1:Sig.Post) (q0:PoV) (inp:List Bool) (B2 B3 i:Nat) (wr:World):Prop:=(∃q' vt',q'.gone=q0.gone∧q'.came=q0.came+i∧q'.ns=0∧q'.ng≤i∧q'.ends≤2000000000∧PAcc g A O w ((inp.take i).foldl Sig.Post.inBit p1) q' vt' wr)∧Blk wr B2 82 qhs∧Blk wr B3 82 qhs
def qxr (g:Nat) (A:Adr) (O:Nat→Prop) (w:World) (p8:Sig.Post) (q0:PoV) (B2 B3 i:Nat) (wr:World):Prop:=(∃q' vt',q'.gone=q0.gone+i∧q'.came=q0.came+8∧q'.ns≤i∧q'.ng≤8∧q'.ends≤2000000000∧PAcc g A O w (Sig.Post.outBits i p8).1 q' vt' wr)∧Blk wr B2 82 qhs∧Blk wr B3 82 (bools (Sig.Post.outBits i p8).2++List.replicate (8-i) (.bool false))
theorem qre {fn:Func} {a:Act} {w:World} {Q:Ending→World→Prop} {p:Tmp} (h:fn.results=#[.cell p 82]) {g:Nat} {cs:List Value} (hg:Blk w g 82 cs) (hl:cs.length=8) (hp:a.tmps.getD p undef=.pointer (some ⟨g,0,none⟩)) (hd:a.defers=[]) (hQ:Q (.returned (.agg cs.toArray)) w):bodyPost Tryz.prog fn Q .ret a w:=by
 have hp':a.tmps[p]?.getD undef=.pointer (some ⟨g,0,none⟩):=by simpa using hp
 have hi:(Tryz.prog.info? 82).map (·.size)=some cs.toArray.size:=by
  rw[List.size_toArray,hl];kernel_rfl
 refine bodyPost_ret (v:=.agg cs.toArray) ?_ hd hQ;simp[results,h,hp',asAddr,run_loadVar_row w g 82 82 cs.toArray (0,0) _ hg Tryz.underlying82 rfl hi]
def qus (g:Nat) (A:Adr) (O:Nat→Prop) (w:World) (p1:Sig.Post) (q:PoV) (w':World):Prop:=∃q' vt',q'.gone=q.gone+8∧q'.came=q.came+8∧q'.ns≤8∧q'.ng≤8∧q'.ends≤2000000000∧PAcc g A O w p1 q' vt' w'
theorem qfp {g:Nat} {A:Adr} {O:Nat→Prop} {w:World} {p:Sig.Post} {q:PoV} {vt:Value} (h:PoIs w g A O p q vt) (inv:qg3 p) (hf:p.x.fails≤700000) (ht:p.x.told.length≤1000) (hg:q.gone≤900000000) (hc:q.came≤900000000) (hee:q.ends≤2000000000) (ho:p.ear.ones≤900000000) (i0 i1 i2 i3 i4 i5 i6 i7:Bool) :
  Calls Tryz.prog 31 #[.pointer (some ⟨g,0,none⟩),.agg #[.bool i0,.bool i1,.bool i2,.bool i3,.bool i4,.bool i5,.bool i6,.bool i7]] w fun e w'=>e=.returned (.agg (bools (p.tick [i0,i1,i2,i3,i4,i5,i6,i7]).2).toArray)∧qus g A O w (p.tick [i0,i1,i2,i3,i4,i5,i6,i7]).1 q w':=by
 have H0:=am h;have INV:=am inv;have HF:=am hf;have HT:=am ht;have HG:=am hg;have HC:=am hc;have HEE:=am hee;have HO:=am ho;clear h inv hf ht hg hc hee ho;obtain⟨inp,hin⟩:∃l,[i0,i1,i2,i3,i4,i5,i6,i7]=l:=⟨_,rfl⟩;have HIN:=am hin;rw[hin];clear hin;go_enter Tryz.func31,Tryz.ntmps31;refine sq fun K0 J0=>?_
 go_wp2_with fail
 refine J0.out _ _ ?_;clear J0;refine sq fun K1 J1=>?_
 go_wp2_with fail
 refine J1.out _ _ ?_;clear J1;have hb:Below w.heap.size w (((w.alloc (.cells #[.bool i0,.bool i1,.bool i2,.bool i3,.bool i4,.bool i5,.bool i6,.bool i7] 82)).alloc (.cells #[.bool false,.bool false,.bool false,.bool false,.bool false,.bool false,.bool false,.bool false] 82)).alloc (.cells #[.bool false,.bool false,.bool false,.bool false,.bool false,.bool false,.bool false,.bool false] 82)):=((qaa (Below.refl _ _) _).alloc (by simp[World.alloc_eq]) _).alloc (by simp[World.alloc_eq] <;> omega) _;have X1:qac (Blk (((w.alloc (.cells #[.bool i0,.bool i1,.bool i2,.bool i3,.bool i4,.bool i5,.bool i6,.bool i7] 82)).alloc (.cells #[.bool false,.bool false,.bool false,.bool false,.bool false,.bool false,.bool false,.bool false] 82)).alloc (.cells #[.bool false,.bool false,.bool false,.bool false,.bool false,.bool false,.bool false,.bool false] 82)) w.heap.size 82 [.bool i0,.bool i1,.bool i2,.bool i3,.bool i4,.bool i5,.bool i6,.bool i7]):=⟨((show Blk (w.alloc (.cells #[.bool i0,.bool i1,.bool i2,.bool i3,.bool i4,.bool i5,.bool i6,.bool i7] 82)) w.heap.size 82 [.bool i0,.bool i1,.bool i2,.bool i3,.bool i4,.bool i5,.bool i6,.bool i7] from heap_alloc_new w _).only ((Only.refl (fun _=>False) _).alloc _) (fun h=>h)).only ((Only.refl (fun _=>False) _).alloc _) (fun h=>h)⟩;have X2:qac (Blk (((w.alloc (.cells #[.bool i0,.bool i1,.bool i2,.bool i3,.bool i4,.bool i5,.bool i6,.bool i7] 82)).alloc (.cells #[.bool false,.bool false,.bool false,.bool false,.bool false,.bool false,.bool false,.bool false] 82)).alloc (.cells #[.bool false,.bool false,.bool false,.bool false,.bool false,.bool false,.bool false,.bool false] 82)) (w.heap.size+1) 82 qhs):=⟨(show Blk ((w.alloc (.cells #[.bool i0,.bool i1,.bool i2,.bool i3,.bool i4,.bool i5,.bool i6,.bool i7] 82)).alloc (.cells #[.bool false,.bool false,.bool false,.bool false,.bool false,.bool false,.bool false,.bool false] 82)) (w.heap.size+1) 82 qhs from blk_new (by simp[World.alloc_eq])).only ((Only.refl (fun _=>False) _).alloc _) (fun h=>h)⟩;have X3:qac (Blk (((w.alloc (.cells #[.bool i0,.bool i1,.bool i2,.bool i3,.bool i4,.bool i5,.bool i6,.bool i7] 82)).alloc (.cells #[.bool false,.bool false,.bool false,.bool false,.bool false,.bool false,.bool false,.bool false] 82)).alloc (.cells #[.bool false,.bool false,.bool false,.bool false,.bool false,.bool false,.bool false,.bool false] 82)) (w.heap.size+1+1) 82 qhs):=⟨blk_new (by simp[World.alloc_eq])⟩;have HA:=am (PAcc.below H0.out hb);clear hb;generalize (((w.alloc (.cells #[.bool i0,.bool i1,.bool i2,.bool i3,.bool i4,.bool i5,.bool i6,.bool i7] 82)).alloc (.cells #[.bool false,.bool false,.bool false,.bool false,.bool false,.bool false,.bool false,.bool false] 82)).alloc (.cells #[.bool false,.bool false,.bool false,.bool false,.bool false,.bool false,.bool false,.bool false] 82))=W at *;obtain⟨B1,hB1⟩:∃B,w.heap.size=B:=⟨_,rfl⟩;obtain⟨B2,hB2⟩:∃B,B1+1=B:=⟨_,rfl⟩;obtain⟨B3,hB3⟩:∃B,B2+1=B:=⟨_,rfl⟩;have HB:=am (And.intro hB1 (And.intro hB2 hB3));rw[hB1] at X1 X2 X3 ⊢;rw[hB2] at X2 X3 ⊢;rw[hB3] at X3 ⊢;clear hB1 hB2 hB3;have H1:=am HA.out.is;refine sq fun K2 J2=>?_
 go_wp2_with fail
 refine J2.out _ _ ?_;clear J2;obtain⟨a0,-,-,-,-,a9,a10,a11,af⟩:=qay H1.out;refine sq fun K4 J4=>?_
 go_wp2_with fail
 refine J4.out _ _ ?_;clear J4;have hA2:=HA.out.trans (PAcc.nils H1.out);have hX1:=PAcc.keep H1.out (PAcc.nils H1.out) X1.out (by decide);have hX2:=PAcc.keep H1.out (PAcc.nils H1.out) X2.out (by decide);have hX3:=PAcc.keep H1.out (PAcc.nils H1.out) X3.out (by decide);clear X1 X2 X3 a0 a9 a10 a11 af;have HA2:=am hA2;have X1:=am hX1;have X2:=am hX2;have X3:=am hX3;clear hA2 hX1 hX2 hX3;generalize (W.setCell ⟨g,10,none⟩ (.slice none 0 0)).setCell ⟨g,11,none⟩ (.slice none 0 0)=W2 at *;have H2:=am HA2.out.is;have a0:=H2.out.c0;refine sq fun K5 J5=>?_
 go_wp2_with fail
 refine(qm6 H2.out.lk H2.out.way (by have:=HF.out;omega) (by have:=HT.out;omega) INV.out.x.clock).mono ?_;rintro e w3 ⟨rfl,vt3,hfa⟩;have hq:=PAcc.link H2.out hfa (qu8 p.x);have hX1:=PAcc.keep H2.out hq X1.out (by decide);have hX2:=PAcc.keep H2.out hq X2.out (by decide);have hX3:=PAcc.keep H2.out hq X3.out (by decide);have HA3:=am (HA2.out.trans hq);clear X1 X2 X3 a0 hq hfa;have Y1:=am hX1;have Y2:=am hX2;have Y3:=am hX3;clear hX1 hX2 hX3
 go_wp2_with fail
 refine J5.out _ _ ?_;clear J5;have hpt:p.tick inp=Sig.Post.outBits 8 (inp.foldl Sig.Post.inBit { p with x:=p.x.tick }):=rfl;have HPT:=am hpt;clear hpt;obtain⟨p1,hp1⟩:∃y:Sig.Post,({ p with x:=p.x.tick }:Sig.Post)=y:=⟨_,rfl⟩;rw[hp1] at HA3 HPT;have hm1:=qjq p.x;have INV1:qac (qg3 p1∧p1.x.fails≤700008∧p1.x.told.length≤1008∧p1.ear.ones≤900000000):=⟨by rw[←hp1];exact⟨⟨INV.out.x.tick,INV.out.ear⟩,(by have:=hm1.2;have:=HF.out;show p.x.tick.fails≤_;omega),(by have:=hm1.1;have:=HT.out;show p.x.tick.told.length≤_;omega),HO.out⟩⟩;clear hp1 hm1 H1 HA HA2 H2;have hil:inp.length=8:=by rw[←HIN.out];rfl
 have HIL:=am hil;clear hil;have x0:=Y1.out.c 0 rfl;have x1:=Y1.out.c 1 rfl;have x2:=Y1.out.c 2 rfl;have x3:=Y1.out.c 3 rfl;have x4:=Y1.out.c 4 rfl;have x5:=Y1.out.c 5 rfl;have x6:=Y1.out.c 6 rfl;have x7:=Y1.out.c 7 rfl;refine sq fun K6 J6=>?_
 go_wp2_with fail
 clear x0 x1 x2 x3 x4 x5 x6 x7;go_loopw [26] (fun v26 wr=>∃i:Nat,i≤8∧v26=.int .i64 i∧qac (qwi g A O w p1 q inp B2 B3 i wr)) (fun v26 _=>8-(intOf v26).toNat)
 case atStart=>exact⟨0,Nat.zero_le _,rfl,⟨⟨{ q with vs:=.slice none 0 0,ns:=0,vg:=.slice none 0 0,ng:=0 },_,rfl,rfl,rfl,Nat.zero_le _,HEE.out,HA3.out⟩,Y2.out,Y3.out⟩⟩
 case round =>
  obtain⟨i,hi,rfl,⟨⟨⟨q',vt',hq1,hq2,hq3,hq4,hq5,hacc⟩,hy2,hy3⟩⟩⟩:=hrel;clear HA3 Y1 Y2 Y3;have HA4:=am hacc;have Y2:=am hy2;have Y3:=am hy3;have HQ:qac (q'.gone=q.gone∧q'.came=q.came+i∧q'.ns=0∧q'.ng≤i∧q'.ends≤2000000000):=⟨⟨hq1,hq2,hq3,hq4,hq5⟩⟩;clear hacc hy2 hy3 hq1 hq2 hq3 hq4 hq5;by_cases hlt:i<8
  ·have HLT:=am hlt;obtain⟨on,hon⟩:∃b,inp[i]?=some b:=⟨inp[i]'(by rw[HIL.out];exact hlt),List.getElem?_eq_getElem _⟩;have hst:(inp.take (i+1)).foldl Sig.Post.inBit p1=((inp.take i).foldl Sig.Post.inBit p1).inBit on:=by rw[List.take_add_one,hon,List.foldl_append];rfl
   have hkp:=qdq (inp.take i) INV1.out.1;have hlen:(inp.take i).length=i:=by rw[List.length_take,HIL.out];omega
   rw[hlen] at hkp;have HST:=am hst;clear hst hlen;generalize (inp.take i).foldl Sig.Post.inBit p1=P at *;have HKP:qac (qg3 P∧P.x.fails≤700100∧P.x.told.length≤1100∧P.ear.ones≤900000010):=⟨⟨hkp.1,(by have:=hkp.2.1.2;have:=INV1.out.2.1;omega),(by have:=hkp.2.1.1;have:=INV1.out.2.2.1;omega),(by have:=hkp.2.2.1;have:=INV1.out.2.2.2;omega)⟩⟩;clear hkp;have hx:=qpt i0 i1 i2 i3 i4 i5 i6 i7 HIN.out hlt hon;have b1:decide ((i:Int)<8)=true:=decide_eq_true (by omega);have H4:=am HA4.out.is;have a9:=(qay H4.out).2.2.2.2.2.1;have af:=(qay H4.out).2.2.2.2.2.2.2.2;obtain⟨cm,hcm⟩:∃k,q'.came=k:=⟨_,rfl⟩;have hc9:cm≤900000010:=by rw[←hcm,HQ.out.2.1];have:=HC.out;omega
   rw[hcm] at a9;have ew:wrap64 ((cm:Int)+1)=((cm+1:Nat):Int):=by unfold wrap64;omega
   have HCM:=am hcm;have HC9:=am hc9;clear hcm hon
   go_wp2_with fail
   have hq5:=PAcc.came H4.out (cm+1) (x:=(cm:Int)+1) (by omega);have X2:=am (PAcc.keep H4.out hq5 Y2.out (by decide));have X3:=am (PAcc.keep H4.out hq5 Y3.out (by decide));have HA5:=am (HA4.out.trans hq5);clear hq5 Y2 Y3 a9 af ew hx b1;generalize wr.setCell ⟨g,9,none⟩ (.int .i64 ((cm:Int)+1))=w5 at *;have H5:=am HA5.out.is;refine(qqk H5.out.earIs H5.out.olt HKP.out.1.ear (by have:=HKP.out.2.2.2;omega) on).mono ?_;rintro e w6 ⟨k,vv,rfl,hh,he,hob⟩;obtain⟨vin,hq6⟩:=PAcc.ear H5.out he hob;have Z2:=am (PAcc.keep H5.out hq6 X2.out (by decide));have Z3:=am (PAcc.keep H5.out hq6 X3.out (by decide));have HA6:=am (HA5.out.trans hq6);have H6:=am HA6.out.is;obtain⟨Av,nv,cv,rfl⟩:=hh.sl;have HH:=am hh;have hbr:=qqi P.ear on;obtain⟨⟨e1,r⟩,her⟩:∃y,P.ear.bit on=y:=⟨_,rfl⟩;have hin:=qrx her;rw[her] at HA6 H6 HH hbr;skip;have HIB:=am hin;have HBR:=am hbr;have HEAR:=am (HKP.out.1.ear.bit on);rw[her] at HEAR ⊢;clear hin hbr her he hob hq6 hh X2 X3;have hb7:Below w6.heap.size w6 (w6.alloc (.cells #[.int .u8 k,.slice Av nv cv] 135)):=qaa (Below.refl _ _) _;have hq7:=PAcc.below H6.out hb7;have X2:=am (PAcc.keep H6.out hq7 Z2.out (by decide));have X3:=am (PAcc.keep H6.out hq7 Z3.out (by decide));have XB:qac (Blk (w6.alloc (.cells #[.int .u8 k,.slice Av nv cv] 135)) w6.heap.size 135 [.int .u8 k,.slice Av nv cv]):=⟨heap_alloc_new w6 _⟩;have HA7:=am (HA6.out.trans hq7);have HH7:=am (HH.out.only (qag hb7) (fun _ h=>h.elim));clear hb7 hq7 Z2 Z3 HH;cases r with
   |none =>
    have hlt:=HLT.out;go_wp2
    go_roundw
    case rel =>
     refine⟨i+1,by have:=HLT.out;omega,by first|rfl|(simp;done),⟨⟨{ q' with vin:=vin,came:=cm+1 },vt',HQ.out.1,?_,HQ.out.2.2.1,?_,HQ.out.2.2.2.2,by rw[HST.out,HIB.out];exact HA7.out⟩,X2.out,X3.out⟩⟩
     ·show cm+1=q.came+(i+1);have:=HCM.out;have:=HQ.out.2.1;omega
     ·exact Nat.le_succ_of_le HQ.out.2.2.2.1
    case measure=>(have:=HLT.out;simp[intOf];omega)
   |some hd =>
    skip
    go_wp2_with fail
    generalize w6.alloc (.cells #[.int .u8 k,.slice Av nv cv] 135)=w7 at *;obtain⟨C,hC⟩:∃C,w6.heap.size=C:=⟨_,rfl⟩;rw[hC] at XB ⊢;clear hC;have H7:=am HA7.out.is;obtain⟨Ag,cg,hvg,-⟩:=H7.out.rows.got.slice;have a11:=(qay H7.out).2.2.2.2.2.2.2.1;have a9:w7.cell? ⟨g,9,none⟩=some (.int .i64 ((cm+1:Nat):Int)):=(qay H7.out).2.2.2.2.2.1;simp only at hvg a11;rw[hvg] at a11;have b0:=XB.out.c 0 rfl;have b1:=XB.out.c 1 rfl;obtain⟨ll,hol⟩:=HH7.out.oct;obtain⟨A1,n1,c1,w8,hrun,hacc,s11,sfr⟩:=qnw H7.out (by show q'.ng≤900;have:=HQ.out.2.2.2.1;have:=HLT.out;omega) (qaf (Below.refl _ _)) (kd:=k) hol.drew (k:=cm+1) (by have:=HC9.out;omega) (N:=w7.heap.size) rfl;simp only at hrun;rw[hvg] at hrun s11;have HRUN:=am hrun;have Z2:=am (PAcc.keep H7.out hacc X2.out (by decide));have Z3:=am (PAcc.keep H7.out hacc X3.out (by decide));have ZB:=am (PAcc.keep H7.out hacc XB.out (by decide));have hsz8:=hacc.only;have HA8:=am (HA7.out.trans hacc);have HH8:=am (HH7.out.only hsz8 (fun k hk ht=>H7.out.wrp_not ht (by decide) hk));clear hrun hacc hol hvg hsz8 X2 X3;refine sr 16 (fun W=>W.cell? ⟨g,11,none⟩=some (.slice Ag q'.ng cg)∧W.cell? ⟨C,0,none⟩=some (.int .u8 k)∧W.cell? ⟨C,1,none⟩=some (.slice Av nv cv)∧W.cell? ⟨g,9,none⟩=some (.int .i64 ((cm+1:Nat):Int))) [12,15] (show _∧_∧_∧_ from ⟨a11,b0,b1,a9⟩) (fun hY=>?_);refine pu 0 45 ?_;refine pu 1 46 ?_;refine pu 2 47 ?_;refine pu 3 48 ?_;refine pu 6 51 ?_;refine pu 7 52 ?_;refine pu 8 53 ?_;refine tk 4 49 hY ?_;refine tk 5 50 hY ?_;refine tk 9 54 hY ?_;refine pu 10 55 ?_;refine on_ 11 56 (fun K hK=>?_);refine qbf (w1:=?_) (v:=?_) (by rfl) rfl ?_ ?_;rotate_left 2
    ·go_simp;constructor
     ·rfl
     ·rfl
    refine hK.out _ _ ⟨Lib.cell?_alloc_some _ hY.1,Lib.cell?_alloc_some _ hY.2.1,Lib.cell?_alloc_some _ hY.2.2.1,Lib.cell?_alloc_some _ hY.2.2.2⟩ (fun hY=>?_);clear hK K;refine nm 56 ?_;refine la_ 12 57 (fun K hK=>?_);refine qbf (by rfl) rfl (qa8 (t:=109) (s:=.tmp 49) (x:=.tmp 56) rfl (vs:=(.slice Ag q'.ng cg)) (vx:=(.slice (some ⟨w7.heap.size,0,none⟩) 1 1)) rfl rfl HRUN.out) ?_;refine hK.out _ _ ?_;clear hK K;refine nm 57 ?_;refine pu 13 58 ?_;refine pu 14 59 ?_;refine laN 15 (fun K hK=>?_);refine sk ?_;refine hK.out _ _ ?_;clear hK K;refine qav (by kernel_rfl) ?_;clear a11 a9 b0 b1 s11 sfr;generalize w8.setCell ⟨g,11,none⟩ (.slice A1 n1 c1)=w9 at *;have H8:=am HA8.out.is;have b0:=ZB.out.c 0 rfl;have b1:=ZB.out.c 1 rfl
    go_wp2_with fail
    refine(qkc H8.out (LInv.ok HKP.out.1.x (show P.x.fails<800000 by have:=HKP.out.2.1;omega) (show P.x.told.length≤600000 by have:=HKP.out.2.2.1;omega)) hd k (.slice Av nv cv) HH8.out (HBR.out hd rfl)).mono ?_;rintro e w10 ⟨rfl,vt10,hq10⟩;have X2:=am (PAcc.keep H8.out hq10 Z2.out (by decide));have X3:=am (PAcc.keep H8.out hq10 Z3.out (by decide));have HA10:=am (HA8.out.trans hq10);clear hq10 b0 b1;have hlt:=HLT.out;go_wp2
    go_roundw
    case rel =>
     refine⟨i+1,by have:=HLT.out;omega,by first|rfl|(simp;done),⟨⟨_,_,?_,?_,?_,?_,?_,by rw[HST.out,HIB.out];exact HA10.out⟩,X2.out,X3.out⟩⟩
     ·exact HQ.out.1
     ·show cm+1=q.came+(i+1);have:=HCM.out;have:=HQ.out.2.1;omega
     ·exact HQ.out.2.2.1
     ·show q'.ng+1≤i+1;have:=HQ.out.2.2.2.1;omega
     ·exact HQ.out.2.2.2.2
    case measure=>(have:=HLT.out;simp[intOf];omega)
  obtain rfl:i=8:=by omega
  simp only[show ((8:Nat):Int)=8 from rfl];have htk:inp.take 8=inp:=List.take_of_length_le (by rw[HIL.out];exact Nat.le_refl _);rw[htk] at HA4;have hkp:=qdq inp INV1.out.1;rw[HIL.out] at hkp;obtain⟨P8,hP8⟩:∃y,inp.foldl Sig.Post.inBit p1=y:=⟨_,rfl⟩;rw[hP8] at HA4 HPT hkp;have HKP:qac (qg3 P8):=⟨hkp.1⟩;clear hkp htk hP8 hi hlt
  go_wp2_with fail
  refine J6.out _ _ ?_;clear J6;refine sq fun K15 J15=>?_
  go_wp2_with fail
  go_loopw [64] (fun v64 wr=>∃i:Nat,i≤8∧v64=.int .i64 i∧qac (qxr g A O w P8 q B2 B3 i wr)) (fun v64 _=>8-(intOf v64).toNat)
  case atStart=>exact⟨0,Nat.zero_le _,rfl,⟨⟨q',vt',HQ.out.1,HQ.out.2.1,by rw[HQ.out.2.2.1];exact Nat.le_refl _,HQ.out.2.2.2.1,HQ.out.2.2.2.2,HA4.out⟩,Y2.out,Y3.out⟩⟩
  case round =>
   clear HA4 Y2 Y3 HQ;obtain⟨i,hi,rfl,⟨⟨⟨q',vt',hq1,hq2,hq3,hq4,hq5,hacc⟩,hy2,hy3⟩⟩⟩:=hrel;have HA4:=am hacc;have Y2:=am hy2;have Y3:=am hy3;have HQ:qac (q'.gone=q.gone+i∧q'.came=q.came+8∧q'.ns≤i∧q'.ng≤8∧q'.ends≤2000000000):=⟨⟨hq1,hq2,hq3,hq4,hq5⟩⟩;clear hacc hy2 hy3 hq1 hq2 hq3 hq4 hq5;by_cases hlt:i<8
   ·have HLT:=am hlt;have hst:=qdn i P8;have hkp:=(qer i HKP.out).1;have hol:=qec i P8;have H4:=am HA4.out.is;obtain⟨⟨P,bs⟩,hPB⟩:∃y,Sig.Post.outBits i P8=y:=⟨_,rfl⟩;rw[hPB] at HA4 H4 Y3 hst hkp hol;skip;have HST:=am hst;have HKI:=am hkp;have HOL:=am hol;have b1:decide ((i:Int)<8)=true:=decide_eq_true (by omega);have p1_:=eq_true (show 0≤(i:Int) by omega);have p2_:=eq_true (show (i:Int)<8 by omega);clear hst hkp hol hPB
    go_wp2_with fail
    refine(qlj H4.out HKI.out.x.way (by have:=HQ.out.1;have:=HG.out;omega) (by have:=HQ.out.2.2.1;omega) HQ.out.2.2.2.2).mono ?_;rintro e w5 ⟨rfl,q5,vt5,hr1,hr2,hr3,hr4,hr5,hq5⟩;have Z2:=am (PAcc.keep H4.out hq5 Y2.out (by decide));have Z3:=am (PAcc.keep H4.out hq5 Y3.out (by decide));have HA5:=am (HA4.out.trans hq5);have HR:qac (q5.gone=q'.gone+1∧q5.came=q'.came∧q5.ns≤q'.ns+1∧q5.ng=q'.ng∧q5.ends≤2000000000):=⟨⟨hr1,hr2,hr3,hr4,hr5⟩⟩;clear hq5 hr1 hr2 hr3 hr4 hr5 Y2 Y3;obtain⟨⟨P',b⟩,hb⟩:∃y,P.outBit=y:=⟨_,rfl⟩;have HBT:=am hb;rw[hb] at HA5;skip;have kc:w5.cell? ⟨B3,i,none⟩=some (.bool false):=Z3.out.c i (qtc bs i HOL.out hlt);have kf:=Z3.out.f i;have hb2:P.outBit.2=b:=by rw[hb]
    have hb1:P.outBit.1=P':=by rw[hb]
    have hb1':(P,bs).1.outBit.2=b:=hb2
    try rw[hb1']
    clear hb hb2 hb1 hb1'
    go_wp2_with fail
    go_roundw
    case rel =>
     have hset:Blk (w5.setCell ⟨B3,i,none⟩ (.bool b)) B3 82 (bools (bs++[b])++List.replicate (8-(i+1)) (.bool false)):=by rw[←qtb bs i HOL.out HLT.out b];exact Z3.out.set i (.bool b)
     have ho:Only (fun k=>k=B3) w5 (w5.setCell ⟨B3,i,none⟩ (.bool b)):=(Only.refl (fun k=>k=B3) w5).set rfl _;have hB:=HB.out;refine⟨i+1,by have:=HLT.out;omega,by first|rfl|(simp;done),⟨⟨q5,vt5,?_,?_,?_,?_,HR.out.2.2.2.2,?_⟩,?_,?_⟩⟩
     ·have:=HR.out.1;have:=HQ.out.1;omega
     ·exact HR.out.2.1.trans HQ.out.2.1
     ·have:=HR.out.2.2.1;have:=HQ.out.2.2.1;omega
     ·have:=HR.out.2.2.2.1;have:=HQ.out.2.2.2.1;omega
     ·rw[HST.out,HBT.out];exact PAcc.room HA5.out (by omega) Z3.out.typed (by decide) ho
     ·exact Z2.out.only ho (fun e=>by omega)
     ·rw[HST.out,HBT.out];exact hset
    case measure=>(have:=HLT.out;simp[intOf];omega)
   obtain rfl:i=8:=by omega
   have b1:decide (((8:Nat):Int)<8)=false:=by decide
   have hol:=qec 8 P8;obtain⟨⟨PF,bs⟩,hPB⟩:∃y,Sig.Post.outBits 8 P8=y:=⟨_,rfl⟩;rw[hPB] at HA4 Y3 hol HPT;obtain⟨o0,o1,o2,o3,o4,o5,o6,o7,hbs⟩:∃o0 o1 o2 o3 o4 o5 o6 o7,bs=[o0,o1,o2,o3,o4,o5,o6,o7]:=by
     match bs,hol with
     |[o0,o1,o2,o3,o4,o5,o6,o7],_=>exact⟨o0,o1,o2,o3,o4,o5,o6,o7,rfl⟩
   subst hbs;have y0:=Y3.out.c 0 (v:=.bool o0) rfl;have y1:=Y3.out.c 1 (v:=.bool o1) rfl;have y2:=Y3.out.c 2 (v:=.bool o2) rfl;have y3:=Y3.out.c 3 (v:=.bool o3) rfl;have y4:=Y3.out.c 4 (v:=.bool o4) rfl;have y5:=Y3.out.c 5 (v:=.bool o5) rfl;have y6:=Y3.out.c 6 (v:=.bool o6) rfl;have y7:=Y3.out.c 7 (v:=.bool o7) rfl;have z0:=Y2.out.c 0 (v:=.bool false) rfl;have z1:=Y2.out.c 1 (v:=.bool false) rfl;have z2:=Y2.out.c 2 (v:=.bool false) rfl;have z3:=Y2.out.c 3 (v:=.bool false) rfl;have z4:=Y2.out.c 4 (v:=.bool false) rfl;have z5:=Y2.out.c 5 (v:=.bool false) rfl;have z6:=Y2.out.c 6 (v:=.bool false) rfl;have z7:=Y2.out.c 7 (v:=.bool false) rfl;have zf:=Y2.out.f;have hB:=HB.out;have n1:B2≠B3:=by omega
   clear hPB hol hi hlt
   go_wp2_with fail
   refine J15.out _ _ ?_;clear J15;go_wp2;refine qre (p:=4) rfl ((((((((Y2.out.set 0 _).set 1 _).set 2 _).set 3 _).set 4 _).set 5 _).set 6 _).set 7 _) rfl rfl rfl ⟨by rw[HPT.out];rfl,?_⟩;rw[HPT.out];refine⟨q',vt',HQ.out.1,HQ.out.2.1,HQ.out.2.2.1,HQ.out.2.2.2.1,HQ.out.2.2.2.2,PAcc.room HA4.out (by omega) Y2.out.typed (by decide) ?_⟩;exact((((((((Only.refl (fun k=>k=B2) wr).set rfl _).set rfl _).set rfl _).set rfl _).set rfl _).set rfl _).set rfl _).set rfl _
end Go.Proofs.YtjbijdmcceloaaaGreat.Top
