/- Part of the proof of topServes_holds. No condition. -/
import Derived.Test.YtjbijdmcceloaaaGreatQS8
set_option linter.unusedVariables false
set_option linter.unusedSimpArgs false
set_option maxHeartbeats 80000000
set_option maxRecDepth 100000
namespace Go.Proofs.YtjbijdmcceloaaaGreat.Top
open Go Go.RowKit Go.Proofs.YtjbijdmcceloaaaGreat Go.Proofs.YtjbijdmcceloaaaGreatW.PrintWords Go.Proofs.YtjbijdmcceloaaaGreatW.PrintLast Go.Proofs.YtjbijdmcceloaaaGreatW.PrintMore
structure QAt (rs:List Value) (T gb gh:Nat) (O:Nat→Prop) (w:World) (cs:List Value) (h:Sig.Hold) (w':World):Prop where
 at_:PAt T gb gh O w cs h w'
 room:Blk w' w.heap.size 167 rs
 t167:T≠167
section
variable {rs:List Value} {T gb gh:Nat} {O:Nat→Prop} {w w1 w2:World} {cs:List Value} {h h':Sig.Hold} {vs vn r:Value} {e:Ending}
theorem QAt.start (hb:Blk w gb T cs) (hh:HoldAt w gh O h vs vn) (ty:T≠148∧T≠23∧T≠5) (t1:T≠167) (rs:List Value):QAt rs T gb gh O w cs h (w.alloc (.cells rs.toArray 167)):=⟨(PAt.refl hb hh ty).below (qaa (Below.refl _ _) _),heap_alloc_new w _,t1⟩
theorem QAt.hacts (q:QAt rs T gb gh O w cs h w1) (k:HActs gh (qbe O w w1) w1 h' r e w2):e=.returned r∧QAt rs T gb gh O w cs h' w2:=by
 obtain⟨he,hp⟩:=q.at_.hacts k;obtain⟨vs0,vn0,h0⟩:=q.at_.hold;refine⟨he,hp,q.room.only k.2.2 ?_,q.t167⟩;rintro(e|⟨_,ht⟩)
 ·exact absurd (q.room.typed.ne (e▸h0.blk.typed)) (by decide)
 ·exact absurd (q.room.typed.ne ht) (by decide)
theorem QAt.below (q:QAt rs T gb gh O w cs h w1) (hb:Below w1.heap.size w1 w2):QAt rs T gb gh O w cs h w2:=⟨q.at_.below hb,q.room.below hb,q.t167⟩
theorem QAt.set (q:QAt rs T gb gh O w cs h w1) (i:Nat) (u:Value) {cs':List Value} (hc:cs.set i u=cs'):QAt rs T gb gh O w cs' h (w1.setCell ⟨gb,i,none⟩ u) :=
 ⟨q.at_.set i u hc,q.room.far (fun e=>q.t167 (q.at_.blk.typed.ne (by have e:w.heap.size=gb:=e;rw[←e];exact q.room.typed))) u,q.t167⟩
theorem PAt.fresh (a:PAt T gb gh O w cs h w1) {g:Nat} (hg:w.heap.size≤g) (ht:Typed w1 g 167) (t1:T≠167) (ho:Only (·=g) w1 w2):PAt T gb gh O w cs h w2:=by
 obtain⟨vs',vn',hh⟩:=a.hold;refine⟨a.blk.only ho (fun e=>t1 (a.blk.typed.ne (e▸ht))),⟨vs',vn',(hh.only ho ?_ ?_ ?_).mono (fun k hk _=>?_)⟩,?_,a.ty⟩
 ·intro e;exact absurd ((e▸hh.blk.typed:Typed w1 g 148).ne ht) (by decide)
 ·intro k _ h23 e;exact absurd ((e▸h23:Typed w1 g 23).ne ht) (by decide)
 ·intro k e h5;have e:k=g:=e;exact absurd ((e▸h5:Typed w1 g 5).ne ht) (by decide)
 ·rcases hk with hk|hk
  ·exact Or.inl hk
  ·exact Or.inr ⟨hk.1,Nat.lt_of_lt_of_le hk.2 ho.size⟩
 ·exact⟨ho.os.trans a.only.os,ho.tape.trans a.only.tape,ho.output.trans a.only.output,Nat.le_trans a.only.size ho.size,fun k hk hn=>(ho.block k (Nat.lt_of_lt_of_le hk a.only.size) (fun e=>by have e:k=g:=e;omega)).trans (a.only.block k hk hn)⟩
theorem qfx (g:Nat) (a0 a1 a2 a3 a4 a5 a6 a7:Value) (w:World):Only (·=g) w ((((((((w.setCell ⟨g,0,none⟩ a0).setCell ⟨g,1,none⟩ a1).setCell ⟨g,2,none⟩ a2).setCell ⟨g,3,none⟩ a3).setCell ⟨g,4,none⟩ a4).setCell ⟨g,5,none⟩ a5).setCell ⟨g,6,none⟩ a6).setCell ⟨g,7,none⟩ a7) :=
 ((((((((Only.refl (·=g) w).set (p:=⟨g,0,none⟩) rfl _).set (p:=⟨g,1,none⟩) rfl _).set (p:=⟨g,2,none⟩) rfl _).set (p:=⟨g,3,none⟩) rfl _).set (p:=⟨g,4,none⟩) rfl _).set (p:=⟨g,5,none⟩) rfl _).set (p:=⟨g,6,none⟩) rfl _).set (p:=⟨g,7,none⟩) rfl _
def zero8:List Value:=[.int .u8 0,.int .u8 0,.bool false,.bool false,.int .u8 0,.int .u8 0,.bool false,.slice none 0 0]
theorem QAt.ret {fn:Func} {a:Act} {p:Tmp} (hres:fn.results=#[.cell p 167]) (q:QAt zero8 T gb gh O w cs h w1) {u:Sig.Unit} {v:Value} (ho:Oct w1 v u.info) (hp:a.tmps.getD p undef=.pointer (some ⟨w.heap.size,0,none⟩)) (hd:a.defers=[]) :
  bodyPost Tryz.prog fn (qda T gb gh O w cs h u.info (qax u)) .ret a ((((((((w1.setCell ⟨w.heap.size,0,none⟩ (.int .u8 u.bsn)).setCell ⟨w.heap.size,1,none⟩ (.int .u8 u.fsn)).setCell ⟨w.heap.size,2,none⟩ (.bool u.bib)).setCell ⟨w.heap.size,3,none⟩ (.bool u.fib)).setCell ⟨w.heap.size,4,none⟩ (.int .u8 u.kind)).setCell ⟨w.heap.size,5,none⟩ (.int .u8 u.status)).setCell ⟨w.heap.size,6,none⟩ (.bool u.wide)).setCell ⟨w.heap.size,7,none⟩ v):=by
 refine qc2 hres ((((((((q.room.set 0 _).set 1 _).set 2 _).set 3 _).set 4 _).set 5 _).set 6 _).set 7 _) rfl hp hd ⟨v,rfl,?_,q.at_.fresh (Nat.le_refl _) q.room.typed q.t167 (qfx _ _ _ _ _ _ _ _ _ _)⟩;exact ho.only (qfx w.heap.size _ _ _ _ _ _ _ _ _) (fun k e ht=>by
  have e:k=w.heap.size:=e;subst e;exact absurd (ht.ne q.room.typed) (by decide))
end
structure BOk (b:Sig.Basic):Prop where
 h:HOk b.h
 last:b.last<128
 again:∀i,b.again=some i→i<1000
theorem qhi {gb gh:Nat} {O:Nat→Prop} {b:Sig.Basic} {w:World} (hb:Blk w gb 205 (qat gh b)) {vs vn:Value} (h:HoldAt w gh O b.h vs vn) (ok:BOk b) (ha:b.again=none) {p:List Nat} {r:List (List Nat)} (hx:b.h.next=p::r) (hl:b.h.sent.length<127) :
  Calls Tryz.prog 190 #[.pointer (some ⟨gb,0,none⟩)] w (qda 205 gb gh O w (qat gh ({ b with h:={ b.h with sent:=b.h.sent++[p],next:=r } })) ({ b with h:={ b.h with sent:=b.h.sent++[p],next:=r } }).h (b.msg ({ b.h with sent:=b.h.sent++[p],next:=r }:Sig.Hold).last p).info (qax (b.msg ({ b.h with sent:=b.h.sent++[p],next:=r }:Sig.Hold).last p))):=by
 have H0:=am (QAt.start hb h ⟨by decide,by decide,by decide⟩ (by decide) zero8);have OK:=am ok;have LIM:=ok.again;have HLIM:=am LIM;clear LIM h ok;have HX:=am hx;have hag:qba b.again=.int .i64 (-1):=by rw[ha];rfl
 have HAG:=am hag;clear hx ha hag;have c0:=fun (o:Obj)=>Lib.cell?_alloc_some (W:=w) o (hb.c 0 (v:=.pointer (some ⟨gh,0,none⟩)) rfl);have c5:=fun (o:Obj)=>Lib.cell?_alloc_some (W:=w) o (hb.c 5 (v:=.int .i64 (-1)) (by rw[←HAG.out];rfl));clear hb;go_enter Tryz.func190,Tryz.ntmps190
 go_wp2_with fail
 obtain⟨vs0,vn0,hh0⟩:=H0.out.at_.hold;have HH0:=am hh0;clear hh0;refine(qd0 HH0.out OK.out.h HX.out hl).mono ?_;rintro e w1 ⟨v9,rfl,ho9,hh9,hon9⟩;have hq:=H0.out.hacts (r:=.tuple #[]) ⟨rfl,hh9,hon9⟩;have H1:=am hq.2;obtain⟨A9,k9,hv9,_⟩:=ho9.slice;subst hv9;have HO:=am ho9;clear hq ho9 hh9 hon9;clear c0 c5;have f5:=H1.out.at_.blk.f;obtain⟨r0,r1,r2,r3,r4,r5,r6,r7,q0,q1,q2,q3,q4,q5,q6,q7⟩:=H1.out.room.room8
 go_wp2_with fail
 refine(qwt H1.out.at_.blk _ _ _ _ p).mono ?_;rintro e w2 ⟨rfl,hb9⟩;have H2:=am (H1.out.below (hb9));have HO2:=am (HO.out.below hb9);clear hb9;clear f5 r0 r1 r2 r3 r4 r5 r6 r7 q0 q1 q2 q3 q4 q5 q6 q7;have f5:=H2.out.at_.blk.f;obtain⟨r0,r1,r2,r3,r4,r5,r6,r7,q0,q1,q2,q3,q4,q5,q6,q7⟩:=H2.out.room.room8;unfold qax;go_wp2;exact QAt.ret rfl H2.out HO2.out rfl rfl
theorem qd8 {gb gh:Nat} {O:Nat→Prop} {b:Sig.Basic} {w:World} (hb:Blk w gb 205 (qat gh b)) {vs vn:Value} (h:HoldAt w gh O b.h vs vn) (ok:BOk b) (ha:b.again=none) (hx:b.h.send.2=none) :
  Calls Tryz.prog 190 #[.pointer (some ⟨gb,0,none⟩)] w (qda 205 gb gh O w (qat gh (b)) (b).h (b.fill).info (qax (b.fill))):=by
 have H0:=am (QAt.start hb h ⟨by decide,by decide,by decide⟩ (by decide) zero8);have OK:=am ok;have LIM:=ok.again;have HLIM:=am LIM;clear LIM h ok;have HX:=am hx;have hag:qba b.again=.int .i64 (-1):=by rw[ha];rfl
 have HAG:=am hag;clear hx ha hag;have c0:=fun (o:Obj)=>Lib.cell?_alloc_some (W:=w) o (hb.c 0 (v:=.pointer (some ⟨gh,0,none⟩)) rfl);have c5:=fun (o:Obj)=>Lib.cell?_alloc_some (W:=w) o (hb.c 5 (v:=.int .i64 (-1)) (by rw[←HAG.out];rfl));clear hb;go_enter Tryz.func190,Tryz.ntmps190
 go_wp2_with fail
 obtain⟨vs0,vn0,hh0⟩:=H0.out.at_.hold;have HH0:=am hh0;clear hh0;refine(qd1 HH0.out OK.out.h HX.out).mono ?_;rintro e w1 ⟨cc,rfl,hcc,rfl⟩;have e9:(((cc:Nat):Int)==(0))=false:=beq_eq_false_iff_ne.2 (by omega);clear hcc
 go_wp2_with fail
 refine(qul (b:=b) H0.out.at_.blk HH0.out OK.out.h).mono ?_;rintro e w1 ⟨rfl,hb9⟩;have H1:=am (H0.out.below (hb9));clear hb9;clear c0 c5;have f5:=H1.out.at_.blk.f;obtain⟨r0,r1,r2,r3,r4,r5,r6,r7,q0,q1,q2,q3,q4,q5,q6,q7⟩:=H1.out.room.room8;unfold qax;go_wp2;exact QAt.ret rfl H1.out (Rw.nil _ _ _) rfl rfl
theorem qde {gb gh:Nat} {O:Nat→Prop} {b:Sig.Basic} {w:World} (hb:Blk w gb 205 (qat gh b)) {vs vn:Value} (h:HoldAt w gh O b.h vs vn) (ok:BOk b) (i:Nat) (ha:b.again=some i) (hi:i<b.h.sent.length) (hlast:b.h.sent.length≤i+1) (n:Nat) (hn:(b.h.first+i)%128=n) (p:List Nat) (hp:b.h.sent[i]=p) :
  Calls Tryz.prog 190 #[.pointer (some ⟨gb,0,none⟩)] w (qda 205 gb gh O w (qat gh ({ b with again:=none })) ({ b with again:=none }).h (b.msg n p).info (qax (b.msg n p))):=by
 have H0:=am (QAt.start hb h ⟨by decide,by decide,by decide⟩ (by decide) zero8);have OK:=am ok;have LIM:=ok.again;have HLIM:=am LIM;clear LIM h ok;have hag:qba b.again=.int .i64 i:=by rw[ha];rfl
 have hlim:=HLIM.out i ha;have HAG:=am hag;have b1:=OK.out.h.first;have b2:=OK.out.h.sent;clear ha hag;have c0:=fun (o:Obj)=>Lib.cell?_alloc_some (W:=w) o (hb.c 0 (v:=.pointer (some ⟨gh,0,none⟩)) rfl);have c5:=fun (o:Obj)=>Lib.cell?_alloc_some (W:=w) o (hb.c 5 (v:=.int .i64 i) (by rw[←HAG.out];rfl));clear hb;have d0:decide ((0:Int)≤(i:Int))=true:=decide_eq_true (by omega);have d1:decide (0≤i)=true:=decide_eq_true (by omega);have d7:decide ((b.h.sent.length:Int)≤(i:Int)+1)=true:=decide_eq_true (by omega);have hni:((b.h.first:Int)+(i:Int))%128=(n:Int):=by omega
 have HN:=am hni;have HPP:=am hp;clear hni hn hp;go_enter Tryz.func190,Tryz.ntmps190
 go_wp2_with fail
 obtain⟨W0,hW0⟩:∃W0,w.alloc (.cells zero8.toArray 167)=W0:=⟨_,rfl⟩;change Code.wp _ _ _ _ (w.alloc (.cells zero8.toArray 167));rw[hW0];have hq:=H0.out;rw[hW0] at hq;have H1:=am hq;clear hq hW0;clear c0 c5;have c0:=H1.out.at_.blk.c 0 (v:=.pointer (some ⟨gh,0,none⟩)) rfl;have c5:=H1.out.at_.blk.c 5 (v:=qba b.again) rfl;have f5:=H1.out.at_.blk.f;obtain⟨r0,r1,r2,r3,r4,r5,r6,r7,q0,q1,q2,q3,q4,q5,q6,q7⟩:=H1.out.room.room8;rw[HAG.out] at c5;refine sr 16 (fun W=>W.cell? ⟨gb,0,none⟩=some (.pointer (some ⟨gh,0,none⟩))∧W.cell? ⟨gb,5,none⟩=some (.int .i64 i)) [8] (show _∧_ from ⟨c0,c5⟩) (fun hY=>?_);have H2:=am (H1.out.below (qaf (Below.refl _ _)));obtain⟨vs0,vn0,hh0⟩:=H2.out.at_.hold;have HH:=am hh0;clear hh0 c0 c5 f5 r0 r1 r2 r3 r4 r5 r6 r7 q0 q1 q2 q3 q4 q5 q6 q7;refine pu 0 18 ?_;refine pu 1 19 ?_;refine pu 2 20 ?_;refine pu 4 22 ?_;refine pu 5 23 ?_;refine pu 6 24 ?_;refine tk 3 21 hY ?_;refine tk 7 25 hY ?_;refine la_ 8 26 (fun K hK=>?_);refine gs Tryz.func179 #[.pointer (some ⟨gh,0,none⟩),.int .i64 i] ?_
 with_reducible refine(qja HH.out OK.out.h i hi).mono ?_
 rintro e w3 ⟨v9,rfl,ho9,hh9,hon9⟩;refine⟨_,rfl,?_⟩;rw[HN.out];rw[HPP.out] at ho9;have hq:=H2.out.hacts (r:=.tuple #[]) ⟨rfl,hh9,hon9⟩;have H3:=am hq.2;obtain⟨A9,k9,hv9,_⟩:=ho9.slice;subst hv9;have HO:=am ho9;clear hq ho9 hh9 hon9;refine hK.out _ _ ?_;clear hK K;refine nm 26 ?_;refine pu 9 17 ?_;refine pu 10 27 ?_;refine pu 11 28 ?_;refine pu 12 29 ?_;refine pu 13 3 ?_;refine pu 14 4 ?_;refine pu 15 5 ?_;refine qav (by kernel_rfl) ?_;have c0:=H3.out.at_.blk.c 0 (v:=.pointer (some ⟨gh,0,none⟩)) rfl;have c5:=H3.out.at_.blk.c 5 (v:=qba b.again) rfl;have f5:=H3.out.at_.blk.f;obtain⟨r0,r1,r2,r3,r4,r5,r6,r7,q0,q1,q2,q3,q4,q5,q6,q7⟩:=H3.out.room.room8;rw[HAG.out] at c5;have hw:=qoi i 1 (by omega)
 go_wp2_with fail
 have H4:=am (H3.out.set 5 (.int .i64 ((i:Int)+1)) (cs':=qat gh { b with again:=some (i+1) }) rfl);have HO2:=am (HO.out.only ((Only.refl (·=gb) w3).set (p:=⟨gb,5,none⟩) rfl (.int .i64 ((i:Int)+1))) (fun k e ht=>by have e:k=gb:=e;subst e;exact absurd (ht.ne H3.out.at_.blk.typed) (by decide)));generalize (w3.setCell ⟨gb,5,none⟩ (.int .i64 ((i:Int)+1)))=w4 at *;clear c0 c5 f5 r0 r1 r2 r3 r4 r5 r6 r7 q0 q1 q2 q3 q4 q5 q6 q7;have c0:=H4.out.at_.blk.c 0 (v:=.pointer (some ⟨gh,0,none⟩)) rfl;have c5:=H4.out.at_.blk.c 5 (v:=.int .i64 ((i:Int)+1)) rfl;have f5:=H4.out.at_.blk.f;obtain⟨r0,r1,r2,r3,r4,r5,r6,r7,q0,q1,q2,q3,q4,q5,q6,q7⟩:=H4.out.room.room8;obtain⟨vs4,vn4,hh4⟩:=H4.out.at_.hold;have HH4:=am hh4.drew;clear hh4;go_still_tail 9,(by kernel_rfl)
 still_call (qf (qd4 HH4.out))
 repeat still_step
 refine wpStill_nil ?_;change wpList _ _ _ _ _ w4.drew;have H5:=am (H4.out.below (qaf (Below.refl _ _)));clear c0 c5 f5 r0 r1 r2 r3 r4 r5 r6 r7 q0 q1 q2 q3 q4 q5 q6 q7;have c0:=H5.out.at_.blk.c 0 (v:=.pointer (some ⟨gh,0,none⟩)) rfl;have c5:=H5.out.at_.blk.c 5 (v:=.int .i64 ((i:Int)+1)) rfl;have f5:=H5.out.at_.blk.f;obtain⟨r0,r1,r2,r3,r4,r5,r6,r7,q0,q1,q2,q3,q4,q5,q6,q7⟩:=H5.out.room.room8;have HO3:=am (HO2.out.below (qaf (Below.refl _ _)))
 go_wp2_with fail
 have H6:=am (H5.out.set 5 (.int .i64 (-1)) (cs':=qat gh { b with again:=none }) rfl);have HO3:=am (HO3.out.only ((Only.refl (·=gb) w4.drew).set (p:=⟨gb,5,none⟩) rfl (.int .i64 (-1))) (fun k e ht=>by have e:k=gb:=e;subst e;exact absurd (ht.ne H5.out.at_.blk.typed) (by decide)));refine(qwt (b:={ b with again:=none }) H6.out.at_.blk _ _ _ _ p).mono ?_;rintro e w9 ⟨rfl,hb9⟩;have H7:=am (H6.out.below (hb9));have HO4:=am (HO3.out.below hb9);clear hb9;clear c0 c5 f5 r0 r1 r2 r3 r4 r5 r6 r7 q0 q1 q2 q3 q4 q5 q6 q7;have f5:=H7.out.at_.blk.f;obtain⟨r0,r1,r2,r3,r4,r5,r6,r7,q0,q1,q2,q3,q4,q5,q6,q7⟩:=H7.out.room.room8;unfold qax;go_wp2;exact QAt.ret rfl H7.out HO4.out rfl rfl
theorem qdd {gb gh:Nat} {O:Nat→Prop} {b:Sig.Basic} {w:World} (hb:Blk w gb 205 (qat gh b)) {vs vn:Value} (h:HoldAt w gh O b.h vs vn) (ok:BOk b) (i:Nat) (ha:b.again=some i) (hi:i<b.h.sent.length) (hlast:i+1<b.h.sent.length) (n:Nat) (hn:(b.h.first+i)%128=n) (p:List Nat) (hp:b.h.sent[i]=p) :
  Calls Tryz.prog 190 #[.pointer (some ⟨gb,0,none⟩)] w (qda 205 gb gh O w (qat gh ({ b with again:=some (i+1) })) ({ b with again:=some (i+1) }).h (b.msg n p).info (qax (b.msg n p))):=by
 have H0:=am (QAt.start hb h ⟨by decide,by decide,by decide⟩ (by decide) zero8);have OK:=am ok;have LIM:=ok.again;have HLIM:=am LIM;clear LIM h ok;have hag:qba b.again=.int .i64 i:=by rw[ha];rfl
 have hlim:=HLIM.out i ha;have HAG:=am hag;have b1:=OK.out.h.first;have b2:=OK.out.h.sent;clear ha hag;have c0:=fun (o:Obj)=>Lib.cell?_alloc_some (W:=w) o (hb.c 0 (v:=.pointer (some ⟨gh,0,none⟩)) rfl);have c5:=fun (o:Obj)=>Lib.cell?_alloc_some (W:=w) o (hb.c 5 (v:=.int .i64 i) (by rw[←HAG.out];rfl));clear hb;have d0:decide ((0:Int)≤(i:Int))=true:=decide_eq_true (by omega);have d1:decide (0≤i)=true:=decide_eq_true (by omega);have d7:decide ((b.h.sent.length:Int)≤(i:Int)+1)=false:=decide_eq_false (by omega);have hni:((b.h.first:Int)+(i:Int))%128=(n:Int):=by omega
 have HN:=am hni;have HPP:=am hp;clear hni hn hp;go_enter Tryz.func190,Tryz.ntmps190
 go_wp2_with fail
 obtain⟨W0,hW0⟩:∃W0,w.alloc (.cells zero8.toArray 167)=W0:=⟨_,rfl⟩;change Code.wp _ _ _ _ (w.alloc (.cells zero8.toArray 167));rw[hW0];have hq:=H0.out;rw[hW0] at hq;have H1:=am hq;clear hq hW0;clear c0 c5;have c0:=H1.out.at_.blk.c 0 (v:=.pointer (some ⟨gh,0,none⟩)) rfl;have c5:=H1.out.at_.blk.c 5 (v:=qba b.again) rfl;have f5:=H1.out.at_.blk.f;obtain⟨r0,r1,r2,r3,r4,r5,r6,r7,q0,q1,q2,q3,q4,q5,q6,q7⟩:=H1.out.room.room8;rw[HAG.out] at c5;refine sr 16 (fun W=>W.cell? ⟨gb,0,none⟩=some (.pointer (some ⟨gh,0,none⟩))∧W.cell? ⟨gb,5,none⟩=some (.int .i64 i)) [8] (show _∧_ from ⟨c0,c5⟩) (fun hY=>?_);have H2:=am (H1.out.below (qaf (Below.refl _ _)));obtain⟨vs0,vn0,hh0⟩:=H2.out.at_.hold;have HH:=am hh0;clear hh0 c0 c5 f5 r0 r1 r2 r3 r4 r5 r6 r7 q0 q1 q2 q3 q4 q5 q6 q7;refine pu 0 18 ?_;refine pu 1 19 ?_;refine pu 2 20 ?_;refine pu 4 22 ?_;refine pu 5 23 ?_;refine pu 6 24 ?_;refine tk 3 21 hY ?_;refine tk 7 25 hY ?_;refine la_ 8 26 (fun K hK=>?_);refine gs Tryz.func179 #[.pointer (some ⟨gh,0,none⟩),.int .i64 i] ?_
 with_reducible refine(qja HH.out OK.out.h i hi).mono ?_
 rintro e w3 ⟨v9,rfl,ho9,hh9,hon9⟩;refine⟨_,rfl,?_⟩;rw[HN.out];rw[HPP.out] at ho9;have hq:=H2.out.hacts (r:=.tuple #[]) ⟨rfl,hh9,hon9⟩;have H3:=am hq.2;obtain⟨A9,k9,hv9,_⟩:=ho9.slice;subst hv9;have HO:=am ho9;clear hq ho9 hh9 hon9;refine hK.out _ _ ?_;clear hK K;refine nm 26 ?_;refine pu 9 17 ?_;refine pu 10 27 ?_;refine pu 11 28 ?_;refine pu 12 29 ?_;refine pu 13 3 ?_;refine pu 14 4 ?_;refine pu 15 5 ?_;refine qav (by kernel_rfl) ?_;have c0:=H3.out.at_.blk.c 0 (v:=.pointer (some ⟨gh,0,none⟩)) rfl;have c5:=H3.out.at_.blk.c 5 (v:=qba b.again) rfl;have f5:=H3.out.at_.blk.f;obtain⟨r0,r1,r2,r3,r4,r5,r6,r7,q0,q1,q2,q3,q4,q5,q6,q7⟩:=H3.out.room.room8;rw[HAG.out] at c5;have hw:=qoi i 1 (by omega)
 go_wp2_with fail
 have H4:=am (H3.out.set 5 (.int .i64 ((i:Int)+1)) (cs':=qat gh { b with again:=some (i+1) }) rfl);have HO2:=am (HO.out.only ((Only.refl (·=gb) w3).set (p:=⟨gb,5,none⟩) rfl (.int .i64 ((i:Int)+1))) (fun k e ht=>by have e:k=gb:=e;subst e;exact absurd (ht.ne H3.out.at_.blk.typed) (by decide)));generalize (w3.setCell ⟨gb,5,none⟩ (.int .i64 ((i:Int)+1)))=w4 at *;clear c0 c5 f5 r0 r1 r2 r3 r4 r5 r6 r7 q0 q1 q2 q3 q4 q5 q6 q7;have c0:=H4.out.at_.blk.c 0 (v:=.pointer (some ⟨gh,0,none⟩)) rfl;have c5:=H4.out.at_.blk.c 5 (v:=.int .i64 ((i:Int)+1)) rfl;have f5:=H4.out.at_.blk.f;obtain⟨r0,r1,r2,r3,r4,r5,r6,r7,q0,q1,q2,q3,q4,q5,q6,q7⟩:=H4.out.room.room8;obtain⟨vs4,vn4,hh4⟩:=H4.out.at_.hold;have HH4:=am hh4.drew;clear hh4;go_still_tail 9,(by kernel_rfl)
 still_call (qf (qd4 HH4.out))
 repeat still_step
 refine wpStill_nil ?_;change wpList _ _ _ _ _ w4.drew;have H5:=am (H4.out.below (qaf (Below.refl _ _)));clear c0 c5 f5 r0 r1 r2 r3 r4 r5 r6 r7 q0 q1 q2 q3 q4 q5 q6 q7;have c0:=H5.out.at_.blk.c 0 (v:=.pointer (some ⟨gh,0,none⟩)) rfl;have c5:=H5.out.at_.blk.c 5 (v:=.int .i64 ((i:Int)+1)) rfl;have f5:=H5.out.at_.blk.f;obtain⟨r0,r1,r2,r3,r4,r5,r6,r7,q0,q1,q2,q3,q4,q5,q6,q7⟩:=H5.out.room.room8;have HO3:=am (HO2.out.below (qaf (Below.refl _ _)))
 go_wp2_with fail
 refine(qwt (b:={ b with again:=some (i+1) }) H5.out.at_.blk _ _ _ _ p).mono ?_;rintro e w9 ⟨rfl,hb9⟩;have H6:=am (H5.out.below (hb9));have HO4:=am (HO3.out.below hb9);clear hb9;clear c0 c5 f5 r0 r1 r2 r3 r4 r5 r6 r7 q0 q1 q2 q3 q4 q5 q6 q7;have f5:=H6.out.at_.blk.f;obtain⟨r0,r1,r2,r3,r4,r5,r6,r7,q0,q1,q2,q3,q4,q5,q6,q7⟩:=H6.out.room.room8;unfold qax;go_wp2;exact QAt.ret rfl H6.out HO4.out rfl rfl
theorem qg1 {gb gh:Nat} {O:Nat→Prop} {b:Sig.Basic} {w:World} (hb:Blk w gb 205 (qat gh b)) {vs vn:Value} (h:HoldAt w gh O b.h vs vn) (ok:BOk b) (i:Nat) (ha:b.again=some i) (hi:b.h.sent.length≤i) {p:List Nat} {r:List (List Nat)} (hx:b.h.next=p::r) (hl:b.h.sent.length<127) :
  Calls Tryz.prog 190 #[.pointer (some ⟨gb,0,none⟩)] w (qda 205 gb gh O w (qat gh ({ b with h:={ b.h with sent:=b.h.sent++[p],next:=r },again:=none })) ({ b with h:={ b.h with sent:=b.h.sent++[p],next:=r },again:=none }).h (b.msg ({ b.h with sent:=b.h.sent++[p],next:=r }:Sig.Hold).last p).info (qax (b.msg ({ b.h with sent:=b.h.sent++[p],next:=r }:Sig.Hold).last p))):=by
 have H0:=am (QAt.start hb h ⟨by decide,by decide,by decide⟩ (by decide) zero8);have OK:=am ok;have LIM:=ok.again;have HLIM:=am LIM;clear LIM h ok;have HX:=am hx;have hag:qba b.again=.int .i64 i:=by rw[ha];rfl
 have hlim:=HLIM.out i ha;have HAG:=am hag;clear hx ha hag;have c0:=fun (o:Obj)=>Lib.cell?_alloc_some (W:=w) o (hb.c 0 (v:=.pointer (some ⟨gh,0,none⟩)) rfl);have c5:=fun (o:Obj)=>Lib.cell?_alloc_some (W:=w) o (hb.c 5 (v:=.int .i64 i) (by rw[←HAG.out];rfl));clear hb;have d0:decide ((0:Int)≤(i:Int))=true:=decide_eq_true (by omega);have d1:decide (0≤i)=true:=decide_eq_true (by omega);go_enter Tryz.func190,Tryz.ntmps190
 go_wp2_with fail
 obtain⟨W0,hW0⟩:∃W0,w.alloc (.cells zero8.toArray 167)=W0:=⟨_,rfl⟩;change Code.wp _ _ _ _ (w.alloc (.cells zero8.toArray 167));rw[hW0];have hq:=H0.out;rw[hW0] at hq;have H1:=am hq;clear hq hW0;clear c0 c5;have c0:=H1.out.at_.blk.c 0 (v:=.pointer (some ⟨gh,0,none⟩)) rfl;have c5:=H1.out.at_.blk.c 5 (v:=qba b.again) rfl;have f5:=H1.out.at_.blk.f;obtain⟨r0,r1,r2,r3,r4,r5,r6,r7,q0,q1,q2,q3,q4,q5,q6,q7⟩:=H1.out.room.room8;rw[HAG.out] at c5;refine sr 16 (fun W=>W.cell? ⟨gb,0,none⟩=some (.pointer (some ⟨gh,0,none⟩))∧W.cell? ⟨gb,5,none⟩=some (.int .i64 i)) [8] (show _∧_ from ⟨c0,c5⟩) (fun hY=>?_);have H2:=am (H1.out.below (qaf (Below.refl _ _)));obtain⟨vs0,vn0,hh0⟩:=H2.out.at_.hold;have HH:=am hh0;clear hh0 c0 c5 f5 r0 r1 r2 r3 r4 r5 r6 r7 q0 q1 q2 q3 q4 q5 q6 q7;refine pu 0 18 ?_;refine pu 1 19 ?_;refine pu 2 20 ?_;refine pu 4 22 ?_;refine pu 5 23 ?_;refine pu 6 24 ?_;refine tk 3 21 hY ?_;refine tk 7 25 hY ?_;refine la_ 8 26 (fun K hK=>?_);refine gs Tryz.func179 #[.pointer (some ⟨gh,0,none⟩),.int .i64 i] ?_
 with_reducible refine(qjb HH.out i hi).mono ?_
 rintro e w3 ⟨rfl,rfl⟩;refine⟨_,rfl,?_⟩;refine hK.out _ _ ?_;clear hK K;refine nm 26 ?_;refine pu 9 17 ?_;refine pu 10 27 ?_;refine pu 11 28 ?_;refine pu 12 29 ?_;refine pu 13 3 ?_;refine pu 14 4 ?_;refine pu 15 5 ?_;refine qav (by kernel_rfl) ?_;generalize W0.drew=W2 at *;have c0:=H2.out.at_.blk.c 0 (v:=.pointer (some ⟨gh,0,none⟩)) rfl;have c5:=H2.out.at_.blk.c 5 (v:=qba b.again) rfl;have f5:=H2.out.at_.blk.f;obtain⟨r0,r1,r2,r3,r4,r5,r6,r7,q0,q1,q2,q3,q4,q5,q6,q7⟩:=H2.out.room.room8
 go_wp2_with fail
 have H3:=am (H2.out.set 5 (.int .i64 (-1)) (cs':=qat gh { b with again:=none }) rfl);obtain⟨vs3,vn3,hh3⟩:=H3.out.at_.hold;have HH3:=am hh3;clear hh3;refine(qd0 HH3.out OK.out.h HX.out hl).mono ?_;rintro e w4 ⟨v9,rfl,ho9,hh9,hon9⟩;have hq:=H3.out.hacts (r:=.tuple #[]) ⟨rfl,hh9,hon9⟩;have H4:=am hq.2;obtain⟨A9,k9,hv9,_⟩:=ho9.slice;subst hv9;have HO:=am ho9;clear hq ho9 hh9 hon9;clear c0 c5 f5 r0 r1 r2 r3 r4 r5 r6 r7 q0 q1 q2 q3 q4 q5 q6 q7;have f5:=H4.out.at_.blk.f;obtain⟨r0,r1,r2,r3,r4,r5,r6,r7,q0,q1,q2,q3,q4,q5,q6,q7⟩:=H4.out.room.room8
 go_wp2_with fail
 refine(qwt H4.out.at_.blk _ _ _ _ p).mono ?_;rintro e w5 ⟨rfl,hb9⟩;have H5:=am (H4.out.below (hb9));have HO2:=am (HO.out.below hb9);clear hb9;clear f5 r0 r1 r2 r3 r4 r5 r6 r7 q0 q1 q2 q3 q4 q5 q6 q7;have f5:=H5.out.at_.blk.f;obtain⟨r0,r1,r2,r3,r4,r5,r6,r7,q0,q1,q2,q3,q4,q5,q6,q7⟩:=H5.out.room.room8;unfold qax;go_wp2;exact QAt.ret rfl H5.out HO2.out rfl rfl
theorem qdt {gb gh:Nat} {O:Nat→Prop} {b:Sig.Basic} {w:World} (hb:Blk w gb 205 (qat gh b)) {vs vn:Value} (h:HoldAt w gh O b.h vs vn) (ok:BOk b) (i:Nat) (ha:b.again=some i) (hi:b.h.sent.length≤i) (hx:b.h.send.2=none) :
  Calls Tryz.prog 190 #[.pointer (some ⟨gb,0,none⟩)] w (qda 205 gb gh O w (qat gh ({ b with again:=none })) ({ b with again:=none }).h (b.fill).info (qax (b.fill))):=by
 have H0:=am (QAt.start hb h ⟨by decide,by decide,by decide⟩ (by decide) zero8);have OK:=am ok;have LIM:=ok.again;have HLIM:=am LIM;clear LIM h ok;have HX:=am hx;have hag:qba b.again=.int .i64 i:=by rw[ha];rfl
 have hlim:=HLIM.out i ha;have HAG:=am hag;clear hx ha hag;have c0:=fun (o:Obj)=>Lib.cell?_alloc_some (W:=w) o (hb.c 0 (v:=.pointer (some ⟨gh,0,none⟩)) rfl);have c5:=fun (o:Obj)=>Lib.cell?_alloc_some (W:=w) o (hb.c 5 (v:=.int .i64 i) (by rw[←HAG.out];rfl));clear hb;have d0:decide ((0:Int)≤(i:Int))=true:=decide_eq_true (by omega);have d1:decide (0≤i)=true:=decide_eq_true (by omega);go_enter Tryz.func190,Tryz.ntmps190
 go_wp2_with fail
 obtain⟨W0,hW0⟩:∃W0,w.alloc (.cells zero8.toArray 167)=W0:=⟨_,rfl⟩;change Code.wp _ _ _ _ (w.alloc (.cells zero8.toArray 167));rw[hW0];have hq:=H0.out;rw[hW0] at hq;have H1:=am hq;clear hq hW0;clear c0 c5;have c0:=H1.out.at_.blk.c 0 (v:=.pointer (some ⟨gh,0,none⟩)) rfl;have c5:=H1.out.at_.blk.c 5 (v:=qba b.again) rfl;have f5:=H1.out.at_.blk.f;obtain⟨r0,r1,r2,r3,r4,r5,r6,r7,q0,q1,q2,q3,q4,q5,q6,q7⟩:=H1.out.room.room8;rw[HAG.out] at c5;refine sr 16 (fun W=>W.cell? ⟨gb,0,none⟩=some (.pointer (some ⟨gh,0,none⟩))∧W.cell? ⟨gb,5,none⟩=some (.int .i64 i)) [8] (show _∧_ from ⟨c0,c5⟩) (fun hY=>?_);have H2:=am (H1.out.below (qaf (Below.refl _ _)));obtain⟨vs0,vn0,hh0⟩:=H2.out.at_.hold;have HH:=am hh0;clear hh0 c0 c5 f5 r0 r1 r2 r3 r4 r5 r6 r7 q0 q1 q2 q3 q4 q5 q6 q7;refine pu 0 18 ?_;refine pu 1 19 ?_;refine pu 2 20 ?_;refine pu 4 22 ?_;refine pu 5 23 ?_;refine pu 6 24 ?_;refine tk 3 21 hY ?_;refine tk 7 25 hY ?_;refine la_ 8 26 (fun K hK=>?_);refine gs Tryz.func179 #[.pointer (some ⟨gh,0,none⟩),.int .i64 i] ?_
 with_reducible refine(qjb HH.out i hi).mono ?_
 rintro e w3 ⟨rfl,rfl⟩;refine⟨_,rfl,?_⟩;refine hK.out _ _ ?_;clear hK K;refine nm 26 ?_;refine pu 9 17 ?_;refine pu 10 27 ?_;refine pu 11 28 ?_;refine pu 12 29 ?_;refine pu 13 3 ?_;refine pu 14 4 ?_;refine pu 15 5 ?_;refine qav (by kernel_rfl) ?_;generalize W0.drew=W2 at *;have c0:=H2.out.at_.blk.c 0 (v:=.pointer (some ⟨gh,0,none⟩)) rfl;have c5:=H2.out.at_.blk.c 5 (v:=qba b.again) rfl;have f5:=H2.out.at_.blk.f;obtain⟨r0,r1,r2,r3,r4,r5,r6,r7,q0,q1,q2,q3,q4,q5,q6,q7⟩:=H2.out.room.room8
 go_wp2_with fail
 have H3:=am (H2.out.set 5 (.int .i64 (-1)) (cs':=qat gh { b with again:=none }) rfl);obtain⟨vs3,vn3,hh3⟩:=H3.out.at_.hold;have HH3:=am hh3;clear hh3;refine(qd1 HH3.out OK.out.h HX.out).mono ?_;rintro e w4 ⟨cc,rfl,hcc,rfl⟩;have e9:(((cc:Nat):Int)==(0))=false:=beq_eq_false_iff_ne.2 (by omega);clear hcc
 go_wp2_with fail
 refine(qul (b:={ b with again:=none }) H3.out.at_.blk HH3.out OK.out.h).mono ?_;rintro e w4 ⟨rfl,hb9⟩;have H4:=am (H3.out.below (hb9));clear hb9;clear c0 c5 f5 r0 r1 r2 r3 r4 r5 r6 r7 q0 q1 q2 q3 q4 q5 q6 q7;have f5:=H4.out.at_.blk.f;obtain⟨r0,r1,r2,r3,r4,r5,r6,r7,q0,q1,q2,q3,q4,q5,q6,q7⟩:=H4.out.room.room8;unfold qax;go_wp2;exact QAt.ret rfl H4.out (Rw.nil _ _ _) rfl rfl
theorem qxn {gb gh:Nat} {O:Nat→Prop} {b:Sig.Basic} {w:World} (hb:Blk w gb 205 (qat gh b)) {vs vn:Value} (h:HoldAt w gh O b.h vs vn) (ok:BOk b):Calls Tryz.prog 190 #[.pointer (some ⟨gb,0,none⟩)] w (qda 205 gb gh O w (qat gh b.next.1) b.next.1.h b.next.2.info (qax b.next.2)):=by
 rcases hs:b.h.next with _|⟨p,r⟩
 ·have h2:b.h.send=(b.h,none):=by unfold Sig.Hold.send;rw[hs]
  rcases ha:b.again with _|i
  ·have e:b.next=(b,b.fill):=by unfold Sig.Basic.next;rw[ha];simp only;unfold Sig.Basic.new;rw[h2]
   rw[e];exact qd8 hb h ok ha (by rw[h2])
  ·by_cases hi:i<b.h.sent.length
   ·have e:b.next=({ b with again:=if b.h.sent.length≤i+1 then none else some (i+1) },b.msg ((b.h.first+i)%128) b.h.sent[i]):=by
     unfold Sig.Basic.next Sig.Hold.at;rw[ha];simp only[List.getElem?_eq_getElem hi]
    rw[e];by_cases hl:b.h.sent.length≤i+1
    ·simp only[if_pos hl];exact qde hb h ok i ha hi hl _ rfl _ rfl
    ·simp only[if_neg hl];exact qdd hb h ok i ha hi (by omega) _ rfl _ rfl
   ·have e:b.next=({ b with again:=none },b.fill):=by
     unfold Sig.Basic.next Sig.Hold.at;rw[ha];simp only[List.getElem?_eq_none (show b.h.sent.length≤i by omega)];unfold Sig.Basic.new;simp only[h2];rfl
    rw[e];exact qdt hb h ok i ha (by omega) (by rw[h2])
 ·have h2:∀hl:b.h.sent.length<127,b.h.send=({ b.h with sent:=b.h.sent++[p],next:=r },some (({ b.h with sent:=b.h.sent++[p],next:=r }:Sig.Hold).last,p)):=fun hl=>by unfold Sig.Hold.send;rw[hs];simp only;rw[if_neg (by omega)]
  have h3:¬b.h.sent.length<127→b.h.send=(b.h,none):=fun hl=>by unfold Sig.Hold.send;rw[hs];simp only;rw[if_pos (by omega)]
  rcases ha:b.again with _|i
  ·by_cases hl:b.h.sent.length<127
   ·have e:b.next=({ b with h:={ b.h with sent:=b.h.sent++[p],next:=r } },b.msg ({ b.h with sent:=b.h.sent++[p],next:=r }:Sig.Hold).last p):=by unfold Sig.Basic.next;simp only[ha];unfold Sig.Basic.new;simp only[h2 hl,ha]
    rw[e];exact qhi hb h ok ha hs hl
   ·have e:b.next=(b,b.fill):=by unfold Sig.Basic.next;rw[ha];simp only;unfold Sig.Basic.new;rw[h3 hl]
    rw[e];exact qd8 hb h ok ha (by rw[h3 hl])
  ·by_cases hi:i<b.h.sent.length
   ·have e:b.next=({ b with again:=if b.h.sent.length≤i+1 then none else some (i+1) },b.msg ((b.h.first+i)%128) b.h.sent[i]):=by
     unfold Sig.Basic.next Sig.Hold.at;rw[ha];simp only[List.getElem?_eq_getElem hi]
    rw[e];by_cases hl:b.h.sent.length≤i+1
    ·simp only[if_pos hl];exact qde hb h ok i ha hi hl _ rfl _ rfl
    ·simp only[if_neg hl];exact qdd hb h ok i ha hi (by omega) _ rfl _ rfl
   ·by_cases hl:b.h.sent.length<127
    ·have e:b.next=({ b with h:={ b.h with sent:=b.h.sent++[p],next:=r },again:=none },b.msg ({ b.h with sent:=b.h.sent++[p],next:=r }:Sig.Hold).last p):=by
      unfold Sig.Basic.next Sig.Hold.at;rw[ha];simp only[List.getElem?_eq_none (show b.h.sent.length≤i by omega)];unfold Sig.Basic.new;simp only[h2 hl];rfl
     rw[e];exact qg1 hb h ok i ha (by omega) hs hl
    ·have e:b.next=({ b with again:=none },b.fill):=by
      unfold Sig.Basic.next Sig.Hold.at;rw[ha];simp only[List.getElem?_eq_none (show b.h.sent.length≤i by omega)];unfold Sig.Basic.new;simp only[h3 hl];rfl
     rw[e];exact qdt hb h ok i ha (by omega) (by rw[h3 hl])
def qbg (u:Sig.Unit) (v:Value):List Value:=[.int .u8 u.bsn,.int .u8 u.fsn,.bool u.bib,.bool u.fib,.int .u8 u.kind,.int .u8 u.status,.bool u.wide,v]
theorem PActs.of {rs:List Value} {T gb gh:Nat} {O:Nat→Prop} {w w':World} {cs:List Value} {h:Sig.Hold} {r:Value} (q:QAt rs T gb gh O w cs h w'):PActs T gb gh O w cs h r (.returned r) w':=⟨rfl,q.at_⟩
theorem qsr {w:World} {g:Nat} {O:Nat→Prop} {x:Sig.Hold} {vs vn:Value} (h:HoldAt w g O x vs vn) (ok:HOk x) (n:Nat) (hk:x.knows n=true) {f:Sig.Hold} {k:Nat} (hf:x.free n=(f,k)):Calls Tryz.prog 173 #[.pointer (some ⟨g,0,none⟩),.int .u8 n] w (HActs g O w f (.tuple #[.int .i64 k,.int .i64 (0:Nat)])):=by
 have:=qxa h ok n hk;rw[hf] at this;exact this
def qun:Option Nat→Value
 |none=>.tuple #[.int .i64 (0:Nat),.int .i64 (10:Nat)]
 |some k=>.tuple #[.int .i64 k,.int .i64 (0:Nat)]
theorem qgo {x f:Sig.Hold} {n k:Nat} (ok:HOk x) (hf:x.free n=(f,k)):k≤127∧f.sent.length≤127:=by
 unfold Sig.Hold.free at hf;obtain⟨rfl,rfl⟩:=Prod.mk.injEq ..▸hf;refine⟨by unfold Sig.rGap;omega,?_⟩;have:=ok.sent;simp only[List.length_drop];omega
theorem qhz {b:Sig.Basic} {u:Sig.Unit} (hk:b.h.knows u.bsn=false) {o:Bool} (ho:(b.bsn.1||b.bsn.2)=o):b.answer u=({ b with bsn:=(b.bsn.2,true) },if o then none else some 0):=by
 unfold Sig.Basic.answer Sig.see;simp only[hk,ho,Bool.not_false,Bool.true_and];cases o <;> rfl
def qv6 (n:Nat):Option Nat→Option Nat
 |none=>none
 |some i=>if n≤i then none else some i
theorem qcq {b:Sig.Basic} {u:Sig.Unit} (hk:b.h.knows u.bsn=true) {f:Sig.Hold} {k:Nat} (hf:b.h.free u.bsn=(f,k)) {a:Option Nat} (ha:b.again=a) {j:Option Nat} (hj:(a.map (· - k))=j) :
  b.answer u=(if u.bib≠b.fib then (if 0<f.sent.length then { b with bsn:=(b.bsn.2,false),h:=f,again:=some 0,fib:=u.bib } else { b with bsn:=(b.bsn.2,false),h:=f,again:=none,fib:=u.bib },some k)
   else ({ b with bsn:=(b.bsn.2,false),h:=f,again:=qv6 f.sent.length j },some k)):=by
 subst ha;subst hj;unfold Sig.Basic.answer Sig.see;simp only[hk,hf,Bool.not_true,Bool.false_and];by_cases hb:u.bib=b.fib
 ·simp[hb];cases b.again <;> rfl
 ·simp[hb];by_cases hs:0<f.sent.length <;> simp[hs]
theorem qlp (i k j:Nat) (h:max (0:Int) ((i:Int)-(k:Int))=(j:Int)):∀W:World,(Builtin.max_ #[3,3] 3 #[.int .i64 0,.int .i64 ((i:Int)-(k:Int))]).run Tryz.prog W=.ok (.int .i64 (j:Int)) W:=fun W=>by
 rw[run_max_int2,←h]
 congr 2
 by_cases hg:(i:Int)-(k:Int)>0
 ·rw[if_pos hg];omega
 ·rw[if_neg hg];omega
theorem qi9 {w:World} {g:Nat} {O:Nat→Prop} {x:Sig.Hold} {vs vn:Value} (h:HoldAt w g O x vs vn) (ok:HOk x) (n:Nat) (hn:n<256) {k:Bool} (hk:x.knows n=k):Calls Tryz.prog 171 #[.pointer (some ⟨g,0,none⟩),.int .u8 n] w fun e w'=>e=.returned (.bool k)∧∃k,w'=w.drewN k:=by
 subst hk;exact qsq h ok n hn
theorem qum {gb gh:Nat} {O:Nat→Prop} {b:Sig.Basic} {w:World} (hb:Blk w gb 205 (qat gh b)) {vs vn:Value} (h:HoldAt w gh O b.h vs vn) (ok:BOk b) (u:Sig.Unit) (Au:Option Addr) (cu:Nat) (hu:u.bsn<256) :
  Calls Tryz.prog 187 #[.pointer (some ⟨gb,0,none⟩),qax u (.slice Au u.info.length cu)] w (PActs 205 gb gh O w (qat gh (b.answer u).1) (b.answer u).1.h (qun (b.answer u).2)):=by
 obtain⟨kb,hk⟩:∃kb,b.h.knows u.bsn=kb:=⟨_,rfl⟩;have H0:=am (QAt.start hb h ⟨by decide,by decide,by decide⟩ (by decide) (qbg u (.slice Au u.info.length cu)));have OK:=am ok;clear h ok;have HKN:=am hk;clear hk;cases kb
 ·skip;have c0:=fun (o:Obj)=>Lib.cell?_alloc_some (W:=w) o (hb.c 0 (v:=.pointer (some ⟨gh,0,none⟩)) rfl);clear hb;unfold qax;go_enter Tryz.func187,Tryz.ntmps187
  go_wp2_with fail
  obtain⟨W0,hW0⟩:∃W0,w.alloc (.cells ((qbg u (.slice Au u.info.length cu))).toArray 167)=W0:=⟨_,rfl⟩;change Code.wp _ _ _ _ (w.alloc (.cells ((qbg u (.slice Au u.info.length cu))).toArray 167));rw[hW0];have hq:=H0.out;rw[hW0] at hq;have H1:=am hq;clear hq hW0;clear c0;have c0:=H1.out.at_.blk.c 0 (v:=.pointer (some ⟨gh,0,none⟩)) rfl;have f5:=H1.out.at_.blk.f;obtain⟨r0,r1,r2,r3,r4,r5,r6,r7,q0,q1,q2,q3,q4,q5,q6,q7⟩:=H1.out.room.room8;refine sr 8 (fun W=>W.cell? ⟨gb,0,none⟩=some (.pointer (some ⟨gh,0,none⟩))∧W.cell? ⟨w.heap.size,0,none⟩=some (.int .u8 u.bsn)) [6] (show _∧_ from ⟨c0,r0⟩) (fun hY=>?_);have H2:=am (H1.out.below (qaf (Below.refl _ _)));obtain⟨vs2,vn2,hh2⟩:=H2.out.at_.hold;have HH2:=am hh2;clear hh2;clear c0 f5 r0 r1 r2 r3 r4 r5 r6 r7 q0 q1 q2 q3 q4 q5 q6 q7;refine pu 0 11 ?_;refine pu 1 12 ?_;refine pu 2 13 ?_;refine pu 4 15 ?_;refine tk 3 14 hY ?_;refine tk 5 16 hY ?_;refine la_ 6 17 (fun K hK=>?_);refine gs Tryz.func171 #[.pointer (some ⟨gh,0,none⟩),.int .u8 u.bsn] ?_
  with_reducible refine(qi9 HH2.out OK.out.h u.bsn hu HKN.out).mono ?_
  rintro e w3 ⟨rfl,kk,rfl⟩;refine⟨_,rfl,?_⟩;have H3:=am (H2.out.below (qab (Below.refl _ _) kk));generalize W0.drew.drewN kk=w3 at *;refine hK.out _ _ ?_;clear hK K;refine nm 17 ?_;refine pu 7 6 ?_;refine qav (by kernel_rfl) ?_;have c6:=H3.out.at_.blk.c 6 (v:=.bool b.bsn.1) rfl;have c7:=H3.out.at_.blk.c 7 (v:=.bool b.bsn.2) rfl;have f5:=H3.out.at_.blk.f;obtain⟨r0,r1,r2,r3,r4,r5,r6,r7,q0,q1,q2,q3,q4,q5,q6,q7⟩:=H3.out.room.room8
  go_wp2_with fail
  refine(qcw gb 6 b.bsn.1 b.bsn.2 true w3 c6 c7 (f5 _) (f5 _)).mono ?_;rintro e w4 ⟨rfl,rfl⟩;have H4:=am (H3.out.below (qaf (Below.refl _ _)));have H5:=am (H4.out.set 6 (.bool b.bsn.2) (cs':=qat gh { b with bsn:=(b.bsn.2,b.bsn.2) }) rfl);have H6:=am (H5.out.set 7 (.bool true) (cs':=qat gh { b with bsn:=(b.bsn.2,true) }) rfl);generalize (w3.drew.setCell ⟨gb,6,none⟩ (.bool b.bsn.2)).setCell ⟨gb,6+1,none⟩ (.bool true)=w6 at *;clear c6 c7 f5 r0 r1 r2 r3 r4 r5 r6 r7 q0 q1 q2 q3 q4 q5 q6 q7;have c0:=H6.out.at_.blk.c 0 (v:=.pointer (some ⟨gh,0,none⟩)) rfl;have f5:=H6.out.at_.blk.f;obtain⟨r0,r1,r2,r3,r4,r5,r6,r7,q0,q1,q2,q3,q4,q5,q6,q7⟩:=H6.out.room.room8;obtain⟨bo,ho⟩:∃bo,(b.bsn.1||b.bsn.2)=bo:=⟨_,rfl⟩;have HO:=am ho;clear ho;rw[HO.out];have HE:=am (qhz (u:=u) HKN.out HO.out);cases bo
  ·go_wp2;go_ret2;rw[HE.out];exact PActs.of H6.out
  ·go_wp2;go_ret2;rw[HE.out];exact PActs.of H6.out
 ·skip;have c0:=fun (o:Obj)=>Lib.cell?_alloc_some (W:=w) o (hb.c 0 (v:=.pointer (some ⟨gh,0,none⟩)) rfl);clear hb;unfold qax;go_enter Tryz.func187,Tryz.ntmps187
  go_wp2_with fail
  obtain⟨W0,hW0⟩:∃W0,w.alloc (.cells ((qbg u (.slice Au u.info.length cu))).toArray 167)=W0:=⟨_,rfl⟩;change Code.wp _ _ _ _ (w.alloc (.cells ((qbg u (.slice Au u.info.length cu))).toArray 167));rw[hW0];have hq:=H0.out;rw[hW0] at hq;have H1:=am hq;clear hq hW0;clear c0;have c0:=H1.out.at_.blk.c 0 (v:=.pointer (some ⟨gh,0,none⟩)) rfl;have f5:=H1.out.at_.blk.f;obtain⟨r0,r1,r2,r3,r4,r5,r6,r7,q0,q1,q2,q3,q4,q5,q6,q7⟩:=H1.out.room.room8;refine sr 8 (fun W=>W.cell? ⟨gb,0,none⟩=some (.pointer (some ⟨gh,0,none⟩))∧W.cell? ⟨w.heap.size,0,none⟩=some (.int .u8 u.bsn)) [6] (show _∧_ from ⟨c0,r0⟩) (fun hY=>?_);have H2:=am (H1.out.below (qaf (Below.refl _ _)));obtain⟨vs2,vn2,hh2⟩:=H2.out.at_.hold;have HH2:=am hh2;clear hh2;clear c0 f5 r0 r1 r2 r3 r4 r5 r6 r7 q0 q1 q2 q3 q4 q5 q6 q7;refine pu 0 11 ?_;refine pu 1 12 ?_;refine pu 2 13 ?_;refine pu 4 15 ?_;refine tk 3 14 hY ?_;refine tk 5 16 hY ?_;refine la_ 6 17 (fun K hK=>?_);refine gs Tryz.func171 #[.pointer (some ⟨gh,0,none⟩),.int .u8 u.bsn] ?_
  with_reducible refine(qi9 HH2.out OK.out.h u.bsn hu HKN.out).mono ?_
  rintro e w3 ⟨rfl,kk,rfl⟩;refine⟨_,rfl,?_⟩;have H3:=am (H2.out.below (qab (Below.refl _ _) kk));generalize W0.drew.drewN kk=w3 at *;refine hK.out _ _ ?_;clear hK K;refine nm 17 ?_;refine pu 7 6 ?_;refine qav (by kernel_rfl) ?_;have c6:=H3.out.at_.blk.c 6 (v:=.bool b.bsn.1) rfl;have c7:=H3.out.at_.blk.c 7 (v:=.bool b.bsn.2) rfl;have f5:=H3.out.at_.blk.f;obtain⟨r0,r1,r2,r3,r4,r5,r6,r7,q0,q1,q2,q3,q4,q5,q6,q7⟩:=H3.out.room.room8
  go_wp2_with fail
  refine(qcw gb 6 b.bsn.1 b.bsn.2 false w3 c6 c7 (f5 _) (f5 _)).mono ?_;rintro e w4 ⟨rfl,rfl⟩;have H4:=am (H3.out.below (qaf (Below.refl _ _)));have H5:=am (H4.out.set 6 (.bool b.bsn.2) (cs':=qat gh { b with bsn:=(b.bsn.2,b.bsn.2) }) rfl);have H6:=am (H5.out.set 7 (.bool false) (cs':=qat gh { b with bsn:=(b.bsn.2,false) }) rfl);generalize (w3.drew.setCell ⟨gb,6,none⟩ (.bool b.bsn.2)).setCell ⟨gb,6+1,none⟩ (.bool false)=w6 at *;clear c6 c7 f5 r0 r1 r2 r3 r4 r5 r6 r7 q0 q1 q2 q3 q4 q5 q6 q7;have c0:=H6.out.at_.blk.c 0 (v:=.pointer (some ⟨gh,0,none⟩)) rfl;have f5:=H6.out.at_.blk.f;obtain⟨r0,r1,r2,r3,r4,r5,r6,r7,q0,q1,q2,q3,q4,q5,q6,q7⟩:=H6.out.room.room8;obtain⟨⟨f,k⟩,hf⟩:∃p,b.h.free u.bsn=p:=⟨_,rfl⟩;have HF:=am hf;obtain⟨hkl,hfl⟩:=qgo OK.out.h hf;clear hf
  go_wp2_with fail
  refine sr 12 (fun W=>W.cell? ⟨gb,0,none⟩=some (.pointer (some ⟨gh,0,none⟩))∧W.cell? ⟨w.heap.size,0,none⟩=some (.int .u8 u.bsn)) [6] (show _∧_ from ⟨c0,r0⟩) (fun hY=>?_);have H7:=am (H6.out.below (qaf (Below.refl _ _)));obtain⟨vs7,vn7,hh7⟩:=H7.out.at_.hold;have HH7:=am hh7;clear hh7;clear c0 f5 r0 r1 r2 r3 r4 r5 r6 r7 q0 q1 q2 q3 q4 q5 q6 q7;refine pu 0 27 ?_;refine pu 1 28 ?_;refine pu 2 29 ?_;refine pu 4 31 ?_;refine tk 3 30 hY ?_;refine tk 5 32 hY ?_;refine la_ 6 33 (fun K hK=>?_);refine gs Tryz.func173 #[.pointer (some ⟨gh,0,none⟩),.int .u8 u.bsn] ?_
  with_reducible refine(qsr HH7.out OK.out.h u.bsn HKN.out HF.out).mono ?_
  rintro e w8 ⟨rfl,hh8,hon8⟩;refine⟨_,rfl,?_⟩;have H8:=am (H7.out.hacts (r:=.tuple #[]) ⟨rfl,hh8,hon8⟩).2;clear hh8 hon8;refine hK.out _ _ ?_;clear hK K;refine nm 33 ?_;refine pu 7 26 ?_;refine pu 8 34 ?_;refine pu 9 35 ?_;refine pu 10 7 ?_;refine pu 11 8 ?_;refine qav (by kernel_rfl) ?_;rcases ha:b.again with _|i
  ·skip;have hag:qba b.again=.int .i64 (-1):=by rw[ha];rfl
   have HAG:=am hag;have HA:=am ha;have d3:decide ((f.sent.length:Int)≤(-1:Int))=false:=decide_eq_false (by omega);clear ha hag;have c0:=H8.out.at_.blk.c 0 (v:=.pointer (some ⟨gh,0,none⟩)) rfl;have c5:=H8.out.at_.blk.c 5 (v:=qba b.again) rfl;have f5:=H8.out.at_.blk.f;obtain⟨r0,r1,r2,r3,r4,r5,r6,r7,q0,q1,q2,q3,q4,q5,q6,q7⟩:=H8.out.room.room8;rw[HAG.out] at c5
   go_wp2_with fail
   clear c0 c5 f5 r0 r1 r2 r3 r4 r5 r6 r7 q0 q1 q2 q3 q4 q5 q6 q7;have c0:=H8.out.at_.blk.c 0 (v:=.pointer (some ⟨gh,0,none⟩)) rfl;have c5:=H8.out.at_.blk.c 5 (v:=qba b.again) rfl;have f5:=H8.out.at_.blk.f;obtain⟨r0,r1,r2,r3,r4,r5,r6,r7,q0,q1,q2,q3,q4,q5,q6,q7⟩:=H8.out.room.room8;rw[HAG.out] at c5;obtain⟨vs8,vn8,hh8⟩:=H8.out.at_.hold;have HH8:=am hh8;clear hh8;have HD:=am HH8.out.drew;go_still_tail 9,(by kernel_rfl)
   still_call (qf (qd4 HD.out))
   repeat still_step
   refine wpStill_nil ?_;change wpList _ _ _ _ _ w8.drew;have H9:=am (H8.out.below (qaf (Below.refl _ _)));generalize w8.drew=w10 at *;clear c0 c5 f5 r0 r1 r2 r3 r4 r5 r6 r7 q0 q1 q2 q3 q4 q5 q6 q7;have c0:=H9.out.at_.blk.c 0 (v:=.pointer (some ⟨gh,0,none⟩)) rfl;have f5:=H9.out.at_.blk.f;obtain⟨r0,r1,r2,r3,r4,r5,r6,r7,q0,q1,q2,q3,q4,q5,q6,q7⟩:=H9.out.room.room8
   go_wp2_with fail
   have H10:qac (QAt (qbg u (.slice Au u.info.length cu)) 205 gb gh O w (qat gh { b with bsn:=(b.bsn.2,false),h:=f,again:=none,fib:=b.fib }) f w10):=⟨by have h:=H9.out;unfold qat at h ⊢;rw[HAG.out] at h;exact h⟩;clear c0 f5 r0 r1 r2 r3 r4 r5 r6 r7 q0 q1 q2 q3 q4 q5 q6 q7;have c0:=H10.out.at_.blk.c 0 (v:=.pointer (some ⟨gh,0,none⟩)) rfl;have c1:=H10.out.at_.blk.c 1 (v:=.bool b.fib) rfl;have f5:=H10.out.at_.blk.f;obtain⟨r0,r1,r2,r3,r4,r5,r6,r7,q0,q1,q2,q3,q4,q5,q6,q7⟩:=H10.out.room.room8;go_still_tail 6,(by kernel_rfl);change wpList _ _ _ _ _ w10.drew;have H11:=am (H10.out.below (qaf (Below.refl _ _)));generalize w10.drew=w12 at *;clear c0 c1 f5 r0 r1 r2 r3 r4 r5 r6 r7 q0 q1 q2 q3 q4 q5 q6 q7;have c0:=H11.out.at_.blk.c 0 (v:=.pointer (some ⟨gh,0,none⟩)) rfl;have c1:=H11.out.at_.blk.c 1 (v:=.bool b.fib) rfl;have c5:=H11.out.at_.blk.c 5 (v:=.int .i64 (-1)) rfl;have f5:=H11.out.at_.blk.f;obtain⟨r0,r1,r2,r3,r4,r5,r6,r7,q0,q1,q2,q3,q4,q5,q6,q7⟩:=H11.out.room.room8;have HE:=am (qcq (u:=u) HKN.out HF.out HA.out (j:=none) rfl);by_cases hbb:u.bib=b.fib
   ·have hne:(u.bib==b.fib)=true:=by rw[hbb];simp
    have HBB:=am hbb;clear hbb;go_wp2;go_ret2;rw[HE.out,if_neg (by simp[HBB.out])];exact PActs.of H11.out
   ·have hne:(u.bib==b.fib)=false:=by simp[hbb]
    have HBB:=am hbb;clear hbb
    go_wp2_with fail
    have H12:=am (H11.out.set 1 (.bool u.bib) (cs':=qat gh { b with bsn:=(b.bsn.2,false),h:=f,again:=none,fib:=u.bib }) rfl);have H13:=am (H12.out.set 5 (.int .i64 (-1)) (cs':=qat gh { b with bsn:=(b.bsn.2,false),h:=f,again:=none,fib:=u.bib }) rfl);generalize ((w12.setCell ⟨gb,1,none⟩ (.bool u.bib)).setCell ⟨gb,5,none⟩ (.int .i64 (-1)))=w13 at *;clear c0 c1 c5 f5 r0 r1 r2 r3 r4 r5 r6 r7 q0 q1 q2 q3 q4 q5 q6 q7;have c0:=H13.out.at_.blk.c 0 (v:=.pointer (some ⟨gh,0,none⟩)) rfl;have c5:=H13.out.at_.blk.c 5 (v:=.int .i64 (-1)) rfl;have f5:=H13.out.at_.blk.f;obtain⟨r0,r1,r2,r3,r4,r5,r6,r7,q0,q1,q2,q3,q4,q5,q6,q7⟩:=H13.out.room.room8;obtain⟨vs13,vn13,hh13⟩:=H13.out.at_.hold;have HH13:=am hh13;clear hh13;refine(qd4 HH13.out).mono ?_;rintro e w14 ⟨rfl,rfl⟩;by_cases hw:0<f.sent.length
    ·have d5:decide ((0:Int)<(f.sent.length:Int))=true:=decide_eq_true (by omega);have d6:decide (0<f.sent.length)=true:=decide_eq_true (by omega);go_wp2;have H14:=am (H13.out.set 5 (.int .i64 0) (cs':=qat gh { b with bsn:=(b.bsn.2,false),h:=f,again:=some 0,fib:=u.bib }) rfl);go_ret2;rw[HE.out,if_pos HBB.out,if_pos hw];exact PActs.of H14.out
    ·have d5:decide ((0:Int)<(f.sent.length:Int))=false:=decide_eq_false (by omega);have d6:decide (0<f.sent.length)=false:=decide_eq_false (by omega);go_wp2;go_ret2;rw[HE.out,if_pos HBB.out,if_neg hw];exact PActs.of H13.out
  ·by_cases hi:f.sent.length≤i-k
   ·skip;have hag:qba b.again=.int .i64 i:=by rw[ha];rfl
    have HAG:=am hag;have HA:=am ha;have hlim:=OK.out.again i ha;have d0:decide ((0:Int)≤(i:Int))=true:=decide_eq_true (by omega);have d1:decide (0≤i)=true:=decide_eq_true (by omega);have hsub:max (0:Int) ((i:Int)-(k:Int))=((i-k:Nat):Int):=by omega
    obtain⟨j,hj⟩:∃j,i-k=j:=⟨_,rfl⟩;rw[hj] at hi hsub;have hmx:=qlp i k j hsub;have HJ:=am hj;have d3:decide ((f.sent.length:Int)≤(j:Int))=true:=decide_eq_true (by omega);have d4:decide (f.sent.length≤j)=true:=decide_eq_true (by omega);clear hj hsub;clear ha hag;have c0:=H8.out.at_.blk.c 0 (v:=.pointer (some ⟨gh,0,none⟩)) rfl;have c5:=H8.out.at_.blk.c 5 (v:=qba b.again) rfl;have f5:=H8.out.at_.blk.f;obtain⟨r0,r1,r2,r3,r4,r5,r6,r7,q0,q1,q2,q3,q4,q5,q6,q7⟩:=H8.out.room.room8;rw[HAG.out] at c5
    go_wp2_with fail
    clear hmx;have H9:=am (H8.out.set 5 (.int .i64 (j:Int)) (cs':=qat gh { b with bsn:=(b.bsn.2,false),h:=f,again:=some j,fib:=b.fib }) rfl);generalize (w8.setCell ⟨gb,5,none⟩ (.int .i64 (j:Int)))=w9 at *;clear c0 c5 f5 r0 r1 r2 r3 r4 r5 r6 r7 q0 q1 q2 q3 q4 q5 q6 q7;have c0:=H9.out.at_.blk.c 0 (v:=.pointer (some ⟨gh,0,none⟩)) rfl;have c5:=H9.out.at_.blk.c 5 (v:=.int .i64 (j:Int)) rfl;have f5:=H9.out.at_.blk.f;obtain⟨r0,r1,r2,r3,r4,r5,r6,r7,q0,q1,q2,q3,q4,q5,q6,q7⟩:=H9.out.room.room8;obtain⟨vs9,vn9,hh9⟩:=H9.out.at_.hold;have HH9:=am hh9;clear hh9;have HD:=am HH9.out.drew;go_still_tail 9,(by kernel_rfl)
    still_call (qf (qd4 HD.out))
    repeat still_step
    refine wpStill_nil ?_;change wpList _ _ _ _ _ w9.drew;have H10:=am (H9.out.below (qaf (Below.refl _ _)));generalize w9.drew=w10 at *;clear c0 c5 f5 r0 r1 r2 r3 r4 r5 r6 r7 q0 q1 q2 q3 q4 q5 q6 q7;have c0:=H10.out.at_.blk.c 0 (v:=.pointer (some ⟨gh,0,none⟩)) rfl;have c5:=H10.out.at_.blk.c 5 (v:=.int .i64 (j:Int)) rfl;have f5:=H10.out.at_.blk.f;obtain⟨r0,r1,r2,r3,r4,r5,r6,r7,q0,q1,q2,q3,q4,q5,q6,q7⟩:=H10.out.room.room8
    go_wp2_with fail
    have H11:=am (H10.out.set 5 (.int .i64 (-1)) (cs':=qat gh { b with bsn:=(b.bsn.2,false),h:=f,again:=none,fib:=b.fib }) rfl);generalize (w10.setCell ⟨gb,5,none⟩ (.int .i64 (-1)))=w11 at *;clear c0 c5 f5 r0 r1 r2 r3 r4 r5 r6 r7 q0 q1 q2 q3 q4 q5 q6 q7;have c0:=H11.out.at_.blk.c 0 (v:=.pointer (some ⟨gh,0,none⟩)) rfl;have c1:=H11.out.at_.blk.c 1 (v:=.bool b.fib) rfl;have f5:=H11.out.at_.blk.f;obtain⟨r0,r1,r2,r3,r4,r5,r6,r7,q0,q1,q2,q3,q4,q5,q6,q7⟩:=H11.out.room.room8;go_still_tail 6,(by kernel_rfl);change wpList _ _ _ _ _ w11.drew;have H12:=am (H11.out.below (qaf (Below.refl _ _)));generalize w11.drew=w12 at *;clear c0 c1 f5 r0 r1 r2 r3 r4 r5 r6 r7 q0 q1 q2 q3 q4 q5 q6 q7;have c0:=H12.out.at_.blk.c 0 (v:=.pointer (some ⟨gh,0,none⟩)) rfl;have c1:=H12.out.at_.blk.c 1 (v:=.bool b.fib) rfl;have c5:=H12.out.at_.blk.c 5 (v:=.int .i64 (-1)) rfl;have f5:=H12.out.at_.blk.f;obtain⟨r0,r1,r2,r3,r4,r5,r6,r7,q0,q1,q2,q3,q4,q5,q6,q7⟩:=H12.out.room.room8;have HE:=am (qcq (u:=u) HKN.out HF.out HA.out (j:=some j) (congrArg some HJ.out));by_cases hbb:u.bib=b.fib
    ·have hne:(u.bib==b.fib)=true:=by rw[hbb];simp
     have HBB:=am hbb;clear hbb;go_wp2;go_ret2;rw[HE.out,if_neg (by simp[HBB.out])];rw[show qv6 f.sent.length (some j)=none from if_pos hi];exact PActs.of H12.out
    ·have hne:(u.bib==b.fib)=false:=by simp[hbb]
     have HBB:=am hbb;clear hbb
     go_wp2_with fail
     have H13:=am (H12.out.set 1 (.bool u.bib) (cs':=qat gh { b with bsn:=(b.bsn.2,false),h:=f,again:=none,fib:=u.bib }) rfl);have H14:=am (H13.out.set 5 (.int .i64 (-1)) (cs':=qat gh { b with bsn:=(b.bsn.2,false),h:=f,again:=none,fib:=u.bib }) rfl);generalize ((w12.setCell ⟨gb,1,none⟩ (.bool u.bib)).setCell ⟨gb,5,none⟩ (.int .i64 (-1)))=w13 at *;clear c0 c1 c5 f5 r0 r1 r2 r3 r4 r5 r6 r7 q0 q1 q2 q3 q4 q5 q6 q7;have c0:=H14.out.at_.blk.c 0 (v:=.pointer (some ⟨gh,0,none⟩)) rfl;have c5:=H14.out.at_.blk.c 5 (v:=.int .i64 (-1)) rfl;have f5:=H14.out.at_.blk.f;obtain⟨r0,r1,r2,r3,r4,r5,r6,r7,q0,q1,q2,q3,q4,q5,q6,q7⟩:=H14.out.room.room8;obtain⟨vs14,vn14,hh14⟩:=H14.out.at_.hold;have HH14:=am hh14;clear hh14;refine(qd4 HH14.out).mono ?_;rintro e w14 ⟨rfl,rfl⟩;by_cases hw:0<f.sent.length
     ·have d5:decide ((0:Int)<(f.sent.length:Int))=true:=decide_eq_true (by omega);have d6:decide (0<f.sent.length)=true:=decide_eq_true (by omega);go_wp2;have H15:=am (H14.out.set 5 (.int .i64 0) (cs':=qat gh { b with bsn:=(b.bsn.2,false),h:=f,again:=some 0,fib:=u.bib }) rfl);go_ret2;rw[HE.out,if_pos HBB.out,if_pos hw];exact PActs.of H15.out
     ·have d5:decide ((0:Int)<(f.sent.length:Int))=false:=decide_eq_false (by omega);have d6:decide (0<f.sent.length)=false:=decide_eq_false (by omega);go_wp2;go_ret2;rw[HE.out,if_pos HBB.out,if_neg hw];exact PActs.of H14.out
   ·skip;have hag:qba b.again=.int .i64 i:=by rw[ha];rfl
    have HAG:=am hag;have HA:=am ha;have hlim:=OK.out.again i ha;have d0:decide ((0:Int)≤(i:Int))=true:=decide_eq_true (by omega);have d1:decide (0≤i)=true:=decide_eq_true (by omega);have hsub:max (0:Int) ((i:Int)-(k:Int))=((i-k:Nat):Int):=by omega
    obtain⟨j,hj⟩:∃j,i-k=j:=⟨_,rfl⟩;rw[hj] at hi hsub;have hmx:=qlp i k j hsub;have HJ:=am hj;have d3:decide ((f.sent.length:Int)≤(j:Int))=false:=decide_eq_false (by omega);have d4:decide (f.sent.length≤j)=false:=decide_eq_false (by omega);clear hj hsub;clear ha hag;have c0:=H8.out.at_.blk.c 0 (v:=.pointer (some ⟨gh,0,none⟩)) rfl;have c5:=H8.out.at_.blk.c 5 (v:=qba b.again) rfl;have f5:=H8.out.at_.blk.f;obtain⟨r0,r1,r2,r3,r4,r5,r6,r7,q0,q1,q2,q3,q4,q5,q6,q7⟩:=H8.out.room.room8;rw[HAG.out] at c5
    go_wp2_with fail
    clear hmx;have H9:=am (H8.out.set 5 (.int .i64 (j:Int)) (cs':=qat gh { b with bsn:=(b.bsn.2,false),h:=f,again:=some j,fib:=b.fib }) rfl);generalize (w8.setCell ⟨gb,5,none⟩ (.int .i64 (j:Int)))=w9 at *;clear c0 c5 f5 r0 r1 r2 r3 r4 r5 r6 r7 q0 q1 q2 q3 q4 q5 q6 q7;have c0:=H9.out.at_.blk.c 0 (v:=.pointer (some ⟨gh,0,none⟩)) rfl;have c5:=H9.out.at_.blk.c 5 (v:=.int .i64 (j:Int)) rfl;have f5:=H9.out.at_.blk.f;obtain⟨r0,r1,r2,r3,r4,r5,r6,r7,q0,q1,q2,q3,q4,q5,q6,q7⟩:=H9.out.room.room8;obtain⟨vs9,vn9,hh9⟩:=H9.out.at_.hold;have HH9:=am hh9;clear hh9;have HD:=am HH9.out.drew;go_still_tail 9,(by kernel_rfl)
    still_call (qf (qd4 HD.out))
    repeat still_step
    refine wpStill_nil ?_;change wpList _ _ _ _ _ w9.drew;have H10:=am (H9.out.below (qaf (Below.refl _ _)));generalize w9.drew=w10 at *;clear c0 c5 f5 r0 r1 r2 r3 r4 r5 r6 r7 q0 q1 q2 q3 q4 q5 q6 q7;have c0:=H10.out.at_.blk.c 0 (v:=.pointer (some ⟨gh,0,none⟩)) rfl;have c5:=H10.out.at_.blk.c 5 (v:=.int .i64 (j:Int)) rfl;have f5:=H10.out.at_.blk.f;obtain⟨r0,r1,r2,r3,r4,r5,r6,r7,q0,q1,q2,q3,q4,q5,q6,q7⟩:=H10.out.room.room8
    go_wp2_with fail
    clear c0 c5 f5 r0 r1 r2 r3 r4 r5 r6 r7 q0 q1 q2 q3 q4 q5 q6 q7;have c0:=H10.out.at_.blk.c 0 (v:=.pointer (some ⟨gh,0,none⟩)) rfl;have c1:=H10.out.at_.blk.c 1 (v:=.bool b.fib) rfl;have f5:=H10.out.at_.blk.f;obtain⟨r0,r1,r2,r3,r4,r5,r6,r7,q0,q1,q2,q3,q4,q5,q6,q7⟩:=H10.out.room.room8;go_still_tail 6,(by kernel_rfl);change wpList _ _ _ _ _ w10.drew;have H11:=am (H10.out.below (qaf (Below.refl _ _)));generalize w10.drew=w12 at *;clear c0 c1 f5 r0 r1 r2 r3 r4 r5 r6 r7 q0 q1 q2 q3 q4 q5 q6 q7;have c0:=H11.out.at_.blk.c 0 (v:=.pointer (some ⟨gh,0,none⟩)) rfl;have c1:=H11.out.at_.blk.c 1 (v:=.bool b.fib) rfl;have c5:=H11.out.at_.blk.c 5 (v:=.int .i64 (j:Int)) rfl;have f5:=H11.out.at_.blk.f;obtain⟨r0,r1,r2,r3,r4,r5,r6,r7,q0,q1,q2,q3,q4,q5,q6,q7⟩:=H11.out.room.room8;have HE:=am (qcq (u:=u) HKN.out HF.out HA.out (j:=some j) (congrArg some HJ.out));by_cases hbb:u.bib=b.fib
    ·have hne:(u.bib==b.fib)=true:=by rw[hbb];simp
     have HBB:=am hbb;clear hbb;go_wp2;go_ret2;rw[HE.out,if_neg (by simp[HBB.out])];rw[show qv6 f.sent.length (some j)=some j from if_neg hi];exact PActs.of H11.out
    ·have hne:(u.bib==b.fib)=false:=by simp[hbb]
     have HBB:=am hbb;clear hbb
     go_wp2_with fail
     have H12:=am (H11.out.set 1 (.bool u.bib) (cs':=qat gh { b with bsn:=(b.bsn.2,false),h:=f,again:=(some j),fib:=u.bib }) rfl);have H13:=am (H12.out.set 5 (.int .i64 (-1)) (cs':=qat gh { b with bsn:=(b.bsn.2,false),h:=f,again:=none,fib:=u.bib }) rfl);generalize ((w12.setCell ⟨gb,1,none⟩ (.bool u.bib)).setCell ⟨gb,5,none⟩ (.int .i64 (-1)))=w13 at *;clear c0 c1 c5 f5 r0 r1 r2 r3 r4 r5 r6 r7 q0 q1 q2 q3 q4 q5 q6 q7;have c0:=H13.out.at_.blk.c 0 (v:=.pointer (some ⟨gh,0,none⟩)) rfl;have c5:=H13.out.at_.blk.c 5 (v:=.int .i64 (-1)) rfl;have f5:=H13.out.at_.blk.f;obtain⟨r0,r1,r2,r3,r4,r5,r6,r7,q0,q1,q2,q3,q4,q5,q6,q7⟩:=H13.out.room.room8;obtain⟨vs13,vn13,hh13⟩:=H13.out.at_.hold;have HH13:=am hh13;clear hh13;refine(qd4 HH13.out).mono ?_;rintro e w14 ⟨rfl,rfl⟩;by_cases hw:0<f.sent.length
     ·have d5:decide ((0:Int)<(f.sent.length:Int))=true:=decide_eq_true (by omega);have d6:decide (0<f.sent.length)=true:=decide_eq_true (by omega);go_wp2;have H14:=am (H13.out.set 5 (.int .i64 0) (cs':=qat gh { b with bsn:=(b.bsn.2,false),h:=f,again:=some 0,fib:=u.bib }) rfl);go_ret2;rw[HE.out,if_pos HBB.out,if_pos hw];exact PActs.of H14.out
     ·have d5:decide ((0:Int)<(f.sent.length:Int))=false:=decide_eq_false (by omega);have d6:decide (0<f.sent.length)=false:=decide_eq_false (by omega);go_wp2;go_ret2;rw[HE.out,if_pos HBB.out,if_neg hw];exact PActs.of H13.out
def qm8 (r:Option (Option (List Nat))) (v:Value):Value:=match r with
 |none=>.tuple #[.slice none 0 0,.bool false,.int .i64 (10:Nat)]
 |some none=>.tuple #[.slice none 0 0,.bool false,.int .i64 (0:Nat)]
 |some (some _)=>.tuple #[v,.bool true,.int .i64 (0:Nat)]
def qs4 (r:Option (Option (List Nat))):List Nat:=match r with
 |some (some p)=>p
 |_=>[]
def PTakes (T gb gh:Nat) (O:Nat→Prop) (w:World) (cs:List Value) (h:Sig.Hold) (r:Option (Option (List Nat))) (e:Ending) (w':World):Prop:=∃v,e=.returned (qm8 r v)∧(Kd.int .u8).R 5 w' 0 (qbe O w w') v ((qs4 r).map (fun n:Nat=>(n:Int)))∧PAt T gb gh O w cs h w'
theorem PTakes.no {rs:List Value} {T gb gh:Nat} {O:Nat→Prop} {w w':World} {cs:List Value} {h:Sig.Hold} {r:Option (Option (List Nat))} (hr:qs4 r=[]) (hv:∀v,qm8 r v=qm8 r (.slice none 0 0)) (q:QAt rs T gb gh O w cs h w'):PTakes T gb gh O w cs h r (.returned (qm8 r (.slice none 0 0))) w':=⟨_,rfl,by rw[hr];exact Kd.R_nil _ _ _ _ _,q.at_⟩
theorem PTakes.yes {rs:List Value} {T gb gh:Nat} {O:Nat→Prop} {w w1 w2:World} {cs:List Value} {h:Sig.Hold} {p:List Nat} {v:Value} (q:QAt rs T gb gh O w cs h w1) (hm:Made w1 w2 v p):PTakes T gb gh O w cs h (some (some p)) (.returned (.tuple #[v,.bool true,.int .i64 (0:Nat)])) w2 :=
 ⟨v,rfl,hm.kd _ (fun k h1 h2=>Or.inr ⟨Nat.le_trans q.at_.only.size h1,h2⟩),q.at_.below hm.below⟩
theorem QAt.octs {rs:List Value} {T gb gh:Nat} {O:Nat→Prop} {w w1:World} {cs cs0:List Value} {h h0:Sig.Hold} {vs vn:Value} (q:QAt rs T gb gh O w cs h w1) (hb:Blk w gb T cs0) (hh:HoldAt w gh O h0 vs vn) {v:Value} {p:List Nat} (ho:Oct w v p):Oct w1 v p:=by
 refine ho.only q.at_.only ?_;rintro k (e|e|⟨_,ht⟩) h5
 ·exact q.at_.ty.2.2 (hb.typed.ne (e▸h5))
 ·exact absurd (hh.blk.typed.ne (e▸h5)) (by decide)
 ·exact absurd (ht.ne h5) (by decide)
theorem qq2 {b:Sig.Basic} {u:Sig.Unit} (hf:u.fib≠b.bib) {o:Bool} (ho:(!b.asked&&(b.ind.1||b.ind.2))=o):b.take u=({ b with ind:=(b.ind.2,!b.asked) },if o then none else some none):=by
 unfold Sig.Basic.take Sig.see;simp[hf,ho]
theorem qq1 {b:Sig.Basic} {u:Sig.Unit} (hf:u.fib=b.bib) (hk:u.kind=2) {n:Nat} (hn:Sig.rNext b.last=n) (hs:u.fsn=n):b.take u=({ b with ind:=(b.ind.2,false),last:=n,asked:=false },some (some u.info)):=by
 subst hn;unfold Sig.Basic.take Sig.see;simp[hf,hk,hs]
theorem qoq {b:Sig.Basic} {u:Sig.Unit} (hf:u.fib=b.bib) (hk:¬(u.kind=2∧u.fsn=Sig.rNext b.last)) (hs:u.fsn=b.last):b.take u=({ b with ind:=(b.ind.2,false),asked:=false },some none):=by
 unfold Sig.Basic.take Sig.see;simp only[hf,bne_self_eq_false,Bool.false_eq_true,if_false,Bool.false_and];rw[if_neg hk,if_pos hs]
theorem qos {b:Sig.Basic} {u:Sig.Unit} (hf:u.fib=b.bib) (hk:¬(u.kind=2∧u.fsn=Sig.rNext b.last)) (hs:u.fsn≠b.last):b.take u=({ b with ind:=(b.ind.2,false),bib:=!b.bib,asked:=true },some none):=by
 unfold Sig.Basic.take Sig.see;simp only[hf,bne_self_eq_false,Bool.false_eq_true,if_false,Bool.false_and];rw[if_neg hk,if_neg hs]
theorem qxm {gb gh:Nat} {O:Nat→Prop} {b:Sig.Basic} {w:World} (hb:Blk w gb 205 (qat gh b)) {vs vn:Value} (h:HoldAt w gh O b.h vs vn) (ok:BOk b) (u:Sig.Unit) (Au:Option Addr) (cu:Nat) (hoct:Oct w (.slice Au u.info.length cu) u.info) (hlen:u.kind=2→0<u.info.length) (hmax:u.info.length≤1000000) :
  Calls Tryz.prog 193 #[.pointer (some ⟨gb,0,none⟩),qax u (.slice Au u.info.length cu)] w (PTakes 205 gb gh O w (qat gh (b.take u).1) (b.take u).1.h (b.take u).2):=by
 have HOCT:=am hoct;have HLEN:=am hlen;have HBX:=am hb;have HHX:=am h;clear hoct hlen;have H0:=am (QAt.start hb h ⟨by decide,by decide,by decide⟩ (by decide) (qbg u (.slice Au u.info.length cu)));have OK:=am ok;clear h ok;clear hb;unfold qax;go_enter Tryz.func193,Tryz.ntmps193
 go_wp2_with fail
 obtain⟨W0,hW0⟩:∃W0,w.alloc (.cells ((qbg u (.slice Au u.info.length cu))).toArray 167)=W0:=⟨_,rfl⟩;change Code.wp _ _ _ _ (w.alloc (.cells ((qbg u (.slice Au u.info.length cu))).toArray 167));rw[hW0];have hq:=H0.out;rw[hW0] at hq;have H1:=am hq;clear hq hW0;have c2:=H1.out.at_.blk.c 2 (v:=.bool b.bib) rfl;have c4:=H1.out.at_.blk.c 4 (v:=.bool b.asked) rfl;have c8:=H1.out.at_.blk.c 8 (v:=.bool b.ind.1) rfl;have c9:=H1.out.at_.blk.c 9 (v:=.bool b.ind.2) rfl;have c3:=H1.out.at_.blk.c 3 (v:=.int .u8 b.last) rfl;have f5:=H1.out.at_.blk.f;obtain⟨r0,r1,r2,r3,r4,r5,r6,r7,q0,q1,q2,q3,q4,q5,q6,q7⟩:=H1.out.room.room8;go_still_tail 6,(by kernel_rfl);change wpList _ _ _ _ _ W0.drew;have H2:=am (H1.out.below (qaf (Below.refl _ _)));generalize W0.drew=w2 at *;clear c2 c4 c8 c9 c3 f5 r0 r1 r2 r3 r4 r5 r6 r7 q0 q1 q2 q3 q4 q5 q6 q7;have c2:=H2.out.at_.blk.c 2 (v:=.bool b.bib) rfl;have c4:=H2.out.at_.blk.c 4 (v:=.bool b.asked) rfl;have c8:=H2.out.at_.blk.c 8 (v:=.bool b.ind.1) rfl;have c9:=H2.out.at_.blk.c 9 (v:=.bool b.ind.2) rfl;have c3:=H2.out.at_.blk.c 3 (v:=.int .u8 b.last) rfl;have f5:=H2.out.at_.blk.f;obtain⟨r0,r1,r2,r3,r4,r5,r6,r7,q0,q1,q2,q3,q4,q5,q6,q7⟩:=H2.out.room.room8;by_cases hf:u.fib=b.bib
 ·have hne:(u.fib==b.bib)=true:=by rw[hf];simp
  have HFI:=am hf;clear hf
  go_wp2_with fail
  refine(qcw gb 8 b.ind.1 b.ind.2 false w2 c8 c9 (f5 _) (f5 _)).mono ?_;rintro e w3 ⟨rfl,rfl⟩;have H3:=am (H2.out.below (qaf (Below.refl _ _)));have H4:=am (H3.out.set 8 (.bool b.ind.2) (cs':=qat gh { b with ind:=(b.ind.2,b.ind.2) }) rfl);have H5:=am (H4.out.set 9 (.bool false) (cs':=qat gh { b with ind:=(b.ind.2,false) }) rfl);generalize (w2.drew.setCell ⟨gb,8,none⟩ (.bool b.ind.2)).setCell ⟨gb,8+1,none⟩ (.bool false)=w5 at *;clear c2 c4 c8 c9 c3 f5 r0 r1 r2 r3 r4 r5 r6 r7 q0 q1 q2 q3 q4 q5 q6 q7;have c2:=H5.out.at_.blk.c 2 (v:=.bool b.bib) rfl;have c3:=H5.out.at_.blk.c 3 (v:=.int .u8 b.last) rfl;have c4:=H5.out.at_.blk.c 4 (v:=.bool b.asked) rfl;have f5:=H5.out.at_.blk.f;obtain⟨r0,r1,r2,r3,r4,r5,r6,r7,q0,q1,q2,q3,q4,q5,q6,q7⟩:=H5.out.room.room8;have hlast:=OK.out.last;obtain⟨n,hn⟩:∃n,Sig.rNext b.last=n:=⟨_,rfl⟩;have hn128:n<128:=by rw[←hn];unfold Sig.rNext;omega
  have HN:=am hn;clear hn
  go_wp2_with fail
  refine(qea b.last hlast w5).mono ?_;rw[HN.out];rintro e w6 ⟨rfl,rfl⟩;by_cases hy:u.kind=2∧u.fsn=n
  ·have e1:(((u.kind:Nat):Int)==(2))=true:=beq_iff_eq.2 (by omega);have e2:(((u.fsn:Nat):Int)==((n:Nat):Int))=true:=beq_iff_eq.2 (by omega);have e2n:((u.fsn)==(n))=true:=beq_iff_eq.2 (by omega);have HE:=am (qq1 (u:=u) HFI.out hy.1 HN.out hy.2);have hl0:=HLEN.out hy.1;clear hy
   go_wp2_with fail
   have H6:=am (H5.out.set 3 (.int .u8 n) (cs':=qat gh { b with ind:=(b.ind.2,false),last:=n }) rfl);have H7:=am (H6.out.set 4 (.bool false) (cs':=qat gh { b with ind:=(b.ind.2,false),last:=n,asked:=false }) rfl);have HO:=am (H7.out.octs HBX.out HHX.out HOCT.out);generalize ((w5.setCell ⟨gb,3,none⟩ (.int .u8 n)).setCell ⟨gb,4,none⟩ (.bool false))=w6 at *;clear c2 c3 c4 f5 r0 r1 r2 r3 r4 r5 r6 r7 q0 q1 q2 q3 q4 q5 q6 q7;have f5:=H7.out.at_.blk.f;obtain⟨r0,r1,r2,r3,r4,r5,r6,r7,q0,q1,q2,q3,q4,q5,q6,q7⟩:=H7.out.room.room8;refine(qb3 HO.out hl0 hmax).mono ?_;rintro e w7 ⟨v7,rfl,hM⟩;go_wp2
   go_ret3
   rw[HE.out];exact PTakes.yes H7.out hM
  ·by_cases hs:u.fsn=b.last
   ·have HE:=am (qoq (u:=u) HFI.out (by rw[HN.out];exact hy) hs);have e3:(((u.fsn:Nat):Int)==((b.last:Nat):Int))=true:=beq_iff_eq.2 (by omega);have e3n:((u.fsn)==(b.last))=true:=beq_iff_eq.2 (by omega);by_cases hk2:u.kind=2
    ·have e1:(((u.kind:Nat):Int)==(2))=true:=beq_iff_eq.2 (by omega);have e2:(((u.fsn:Nat):Int)==((n:Nat):Int))=false:=beq_eq_false_iff_ne.2 (by omega);have e2n:((u.fsn)==(n))=false:=beq_eq_false_iff_ne.2 (by omega);clear hk2 hs hy
     go_wp2_with fail
     go_still_tail 6,(by kernel_rfl);change wpList _ _ _ _ _ w5.drew;have H6:=am (H5.out.below (qaf (Below.refl _ _)));generalize w5.drew=w6 at *;clear c2 c3 c4 f5 r0 r1 r2 r3 r4 r5 r6 r7 q0 q1 q2 q3 q4 q5 q6 q7;have c2:=H6.out.at_.blk.c 2 (v:=.bool b.bib) rfl;have c3:=H6.out.at_.blk.c 3 (v:=.int .u8 b.last) rfl;have c4:=H6.out.at_.blk.c 4 (v:=.bool b.asked) rfl;have f5:=H6.out.at_.blk.f;obtain⟨r0,r1,r2,r3,r4,r5,r6,r7,q0,q1,q2,q3,q4,q5,q6,q7⟩:=H6.out.room.room8;go_wp2;have H7:=am (H6.out.set 4 (.bool false) (cs':=qat gh { b with ind:=(b.ind.2,false),asked:=false }) rfl)
     go_ret3
     rw[HE.out];exact PTakes.no rfl (fun _=>rfl) H7.out
    ·have e1:(((u.kind:Nat):Int)==(2))=false:=beq_eq_false_iff_ne.2 (by omega);clear hk2 hs hy
     go_wp2_with fail
     go_still_tail 6,(by kernel_rfl);change wpList _ _ _ _ _ w5.drew;have H6:=am (H5.out.below (qaf (Below.refl _ _)));generalize w5.drew=w6 at *;clear c2 c3 c4 f5 r0 r1 r2 r3 r4 r5 r6 r7 q0 q1 q2 q3 q4 q5 q6 q7;have c2:=H6.out.at_.blk.c 2 (v:=.bool b.bib) rfl;have c3:=H6.out.at_.blk.c 3 (v:=.int .u8 b.last) rfl;have c4:=H6.out.at_.blk.c 4 (v:=.bool b.asked) rfl;have f5:=H6.out.at_.blk.f;obtain⟨r0,r1,r2,r3,r4,r5,r6,r7,q0,q1,q2,q3,q4,q5,q6,q7⟩:=H6.out.room.room8;go_wp2;have H7:=am (H6.out.set 4 (.bool false) (cs':=qat gh { b with ind:=(b.ind.2,false),asked:=false }) rfl)
     go_ret3
     rw[HE.out];exact PTakes.no rfl (fun _=>rfl) H7.out
   ·have HE:=am (qos (u:=u) HFI.out (by rw[HN.out];exact hy) hs);have e3:(((u.fsn:Nat):Int)==((b.last:Nat):Int))=false:=beq_eq_false_iff_ne.2 (by omega);have e3n:((u.fsn)==(b.last))=false:=beq_eq_false_iff_ne.2 (by omega);by_cases hk2:u.kind=2
    ·have e1:(((u.kind:Nat):Int)==(2))=true:=beq_iff_eq.2 (by omega);have e2:(((u.fsn:Nat):Int)==((n:Nat):Int))=false:=beq_eq_false_iff_ne.2 (by omega);have e2n:((u.fsn)==(n))=false:=beq_eq_false_iff_ne.2 (by omega);clear hk2 hs hy
     go_wp2_with fail
     go_still_tail 6,(by kernel_rfl);change wpList _ _ _ _ _ w5.drew;have H6:=am (H5.out.below (qaf (Below.refl _ _)));generalize w5.drew=w6 at *;clear c2 c3 c4 f5 r0 r1 r2 r3 r4 r5 r6 r7 q0 q1 q2 q3 q4 q5 q6 q7;have c2:=H6.out.at_.blk.c 2 (v:=.bool b.bib) rfl;have c3:=H6.out.at_.blk.c 3 (v:=.int .u8 b.last) rfl;have c4:=H6.out.at_.blk.c 4 (v:=.bool b.asked) rfl;have f5:=H6.out.at_.blk.f;obtain⟨r0,r1,r2,r3,r4,r5,r6,r7,q0,q1,q2,q3,q4,q5,q6,q7⟩:=H6.out.room.room8;go_wp2;have H7:=am (H6.out.set 2 (.bool (!b.bib)) (cs':=qat gh { b with ind:=(b.ind.2,false),bib:=!b.bib }) rfl);have H8:=am (H7.out.set 4 (.bool true) (cs':=qat gh { b with ind:=(b.ind.2,false),bib:=!b.bib,asked:=true }) rfl)
     go_ret3
     rw[HE.out];exact PTakes.no rfl (fun _=>rfl) H8.out
    ·have e1:(((u.kind:Nat):Int)==(2))=false:=beq_eq_false_iff_ne.2 (by omega);clear hk2 hs hy
     go_wp2_with fail
     go_still_tail 6,(by kernel_rfl);change wpList _ _ _ _ _ w5.drew;have H6:=am (H5.out.below (qaf (Below.refl _ _)));generalize w5.drew=w6 at *;clear c2 c3 c4 f5 r0 r1 r2 r3 r4 r5 r6 r7 q0 q1 q2 q3 q4 q5 q6 q7;have c2:=H6.out.at_.blk.c 2 (v:=.bool b.bib) rfl;have c3:=H6.out.at_.blk.c 3 (v:=.int .u8 b.last) rfl;have c4:=H6.out.at_.blk.c 4 (v:=.bool b.asked) rfl;have f5:=H6.out.at_.blk.f;obtain⟨r0,r1,r2,r3,r4,r5,r6,r7,q0,q1,q2,q3,q4,q5,q6,q7⟩:=H6.out.room.room8;go_wp2;have H7:=am (H6.out.set 2 (.bool (!b.bib)) (cs':=qat gh { b with ind:=(b.ind.2,false),bib:=!b.bib }) rfl);have H8:=am (H7.out.set 4 (.bool true) (cs':=qat gh { b with ind:=(b.ind.2,false),bib:=!b.bib,asked:=true }) rfl)
     go_ret3
     rw[HE.out];exact PTakes.no rfl (fun _=>rfl) H8.out
 ·have hne:(u.fib==b.bib)=false:=by simp[hf]
  have HFI:=am hf;clear hf
  go_wp2_with fail
  go_still_tail 8,(by kernel_rfl);change wpList _ _ _ _ _ w2.drew;have H3:=am (H2.out.below (qaf (Below.refl _ _)));generalize w2.drew=w2 at *;clear c2 c4 c8 c9 c3 f5 r0 r1 r2 r3 r4 r5 r6 r7 q0 q1 q2 q3 q4 q5 q6 q7;have c2:=H3.out.at_.blk.c 2 (v:=.bool b.bib) rfl;have c4:=H3.out.at_.blk.c 4 (v:=.bool b.asked) rfl;have c8:=H3.out.at_.blk.c 8 (v:=.bool b.ind.1) rfl;have c9:=H3.out.at_.blk.c 9 (v:=.bool b.ind.2) rfl;have c3:=H3.out.at_.blk.c 3 (v:=.int .u8 b.last) rfl;have f5:=H3.out.at_.blk.f;obtain⟨r0,r1,r2,r3,r4,r5,r6,r7,q0,q1,q2,q3,q4,q5,q6,q7⟩:=H3.out.room.room8
  go_wp2_with fail
  obtain⟨o,ho⟩:∃o,(!b.asked&&(b.ind.1||b.ind.2))=o:=⟨_,rfl⟩;have HE:=am (qq2 (u:=u) HFI.out ho);have HO:=am ho;clear ho;refine(qcw gb 8 b.ind.1 b.ind.2 (!b.asked) w2 c8 c9 (f5 _) (f5 _)).mono ?_;rw[HO.out];rintro e w3 ⟨rfl,rfl⟩;have H4:=am (H3.out.below (qaf (Below.refl _ _)));have H5:=am (H4.out.set 8 (.bool b.ind.2) (cs':=qat gh { b with ind:=(b.ind.2,b.ind.2) }) rfl);have H6:=am (H5.out.set 9 (.bool (!b.asked)) (cs':=qat gh { b with ind:=(b.ind.2,(!b.asked)) }) rfl);generalize (w2.drew.setCell ⟨gb,8,none⟩ (.bool b.ind.2)).setCell ⟨gb,8+1,none⟩ (.bool (!b.asked))=w5 at *;clear c2 c4 c8 c9 c3 f5 r0 r1 r2 r3 r4 r5 r6 r7 q0 q1 q2 q3 q4 q5 q6 q7;have f5:=H6.out.at_.blk.f;obtain⟨r0,r1,r2,r3,r4,r5,r6,r7,q0,q1,q2,q3,q4,q5,q6,q7⟩:=H6.out.room.room8;cases o
  ·go_wp2
   go_ret3
   rw[HE.out];exact PTakes.no rfl (fun _=>rfl) H6.out
  ·go_wp2
   go_ret3
   rw[HE.out];exact PTakes.no rfl (fun _=>rfl) H6.out
theorem PAt.hacts0 {T gb gh:Nat} {O:Nat→Prop} {w w2:World} {cs:List Value} {h h':Sig.Hold} {r:Value} {e:Ending} (a:PAt T gb gh O w cs h w) (k:HActs gh O w h' r e w2):e=.returned r∧PAt T gb gh O w cs h' w2:=by
 obtain⟨he,⟨vs',vn',hh⟩,ho⟩:=k;refine a.hacts ⟨he,⟨vs',vn',hh.mono (fun k hk _=>?_)⟩,ho.mono (fun k hk=>?_)⟩
 ·rcases hk with hk|hk
  ·exact Or.inl (Or.inl hk)
  ·exact Or.inr hk
 ·rcases hk with hk|hk
  ·exact Or.inl hk
  ·exact Or.inr ⟨Or.inl hk.1,hk.2⟩
theorem qms {w:World} {g:Nat} {O:Nat→Prop} {x:Sig.Hold} {vs vn:Value} (h:HoldAt w g O x vs vn) (ok:HOk x) {z:Nat} (hz:(x.next.headD []).length=z):Calls Tryz.prog 186 #[.pointer (some ⟨g,0,none⟩)] w fun e w'=>e=.returned (.int .i64 (z:Nat))∧w=w':=by
 subst hz;exact qw8 h ok
structure COk (c:Sig.Cyclic):Prop where
 h:HOk c.h
 n1:c.n1≤1000
 n2:c.n2≤10000000
 last:c.last<128
 at_:c.at_≤1000
theorem qwf {gb gh:Nat} {O:Nat→Prop} {b:Sig.Basic} {w:World} (hb:Blk w gb 205 (qat gh b)) {vs vn:Value} (h:HoldAt w gh O b.h vs vn) :
  Calls Tryz.prog 192 #[.pointer (some ⟨gb,0,none⟩)] w (PActs 205 gb gh O w (qat gh b.reset) b.reset.h (.tuple #[])):=by
 have H0:=am (PAt.refl hb h ⟨by decide,by decide,by decide⟩);have c0:=hb.c 0 (v:=.pointer (some ⟨gh,0,none⟩)) rfl;have HH:=am h;clear hb h;go_enter Tryz.func192,Tryz.ntmps192
 go_wp2_with fail
 refine(qss HH.out).mono ?_;rintro e w1 hh1;obtain⟨rfl,H1'⟩:=H0.out.hacts0 hh1;have H1:=am H1';clear H1' hh1 c0;have hB:=H1.out.blk;have c0:=hB.c 0 (v:=ptr gh) rfl;have c1:=hB.c 1 (v:=.bool b.fib) rfl;have c2:=hB.c 2 (v:=.bool b.bib) rfl;have c3:=hB.c 3 (v:=.int .u8 b.last) rfl;have c4:=hB.c 4 (v:=.bool b.asked) rfl;have c5:=hB.c 5 (v:=qba b.again) rfl;have c6:=hB.c 6 (v:=.bool b.bsn.1) rfl;have c7:=hB.c 7 (v:=.bool b.bsn.2) rfl;have c8:=hB.c 8 (v:=.bool b.ind.1) rfl;have c9:=hB.c 9 (v:=.bool b.ind.2) rfl;unfold ptr at c0;have f:=hB.f;clear hB
 go_wp2_with fail
 go_end0;exact⟨rfl,((((((((((H1.out.set 0 _ rfl).set 1 _ rfl).set 2 _ rfl).set 3 _ rfl).set 4 _ rfl).set 5 _ rfl).set 6 _ rfl).set 7 _ rfl).set 8 _ rfl).set 9 _ rfl)⟩
theorem qv8 {gb gh:Nat} {O:Nat→Prop} {b:Sig.Cyclic} {w:World} (hb:Blk w gb 203 (qa2 gh b)) {vs vn:Value} (h:HoldAt w gh O b.h vs vn) :
  Calls Tryz.prog 168 #[.pointer (some ⟨gb,0,none⟩)] w (PActs 203 gb gh O w (qa2 gh b.reset) b.reset.h (.tuple #[])):=by
 have H0:=am (PAt.refl hb h ⟨by decide,by decide,by decide⟩);have c0:=hb.c 0 (v:=.pointer (some ⟨gh,0,none⟩)) rfl;have HH:=am h;clear hb h;go_enter Tryz.func168,Tryz.ntmps168
 go_wp2_with fail
 refine(qss HH.out).mono ?_;rintro e w1 hh1;obtain⟨rfl,H1'⟩:=H0.out.hacts0 hh1;have H1:=am H1';clear H1' hh1 c0;have hB:=H1.out.blk;have c0:=hB.c 0 (v:=ptr gh) rfl;have c1:=hB.c 1 (v:=.int .i64 b.n1) rfl;have c2:=hB.c 2 (v:=.int .i64 b.n2) rfl;have c3:=hB.c 3 (v:=.int .u8 b.last) rfl;have c4:=hB.c 4 (v:=.int .i64 b.at_) rfl;have c5:=hB.c 5 (v:=.bool b.force) rfl;have c6:=hB.c 6 (v:=.bool b.bsn.1) rfl;have c7:=hB.c 7 (v:=.bool b.bsn.2) rfl;unfold ptr at c0;have f:=hB.f;clear hB
 go_wp2_with fail
 go_still_tail 15,(by kernel_rfl);change wpList _ _ _ _ _ w1.drew;go_wp2;go_end0;exact⟨rfl,(((((((((H1.out.set 0 _ rfl).set 1 _ rfl).set 2 _ rfl).set 3 _ rfl).set 4 _ rfl).set 5 _ rfl).set 6 _ rfl).set 7 _ rfl)).drew⟩
theorem qxl {gb gh:Nat} {O:Nat→Prop} {b:Sig.Cyclic} {w:World} (hb:Blk w gb 203 (qa2 gh b)) {vs vn:Value} (h:HoldAt w gh O b.h vs vn) (ok:COk b) :
  Calls Tryz.prog 176 #[.pointer (some ⟨gb,0,none⟩)] w fun e w'=>e=.returned (.bool b.fits)∧∃k,w'=w.drewN k:=by
 have c0:=hb.c 0 (v:=.pointer (some ⟨gh,0,none⟩)) rfl;have c1:=hb.c 1 (v:=.int .i64 b.n1) rfl;have c2:=hb.c 2 (v:=.int .i64 b.n2) rfl;have HD:=am h;have OK:=am ok.h;have b1:=ok.h.sent;have b2:=ok.h.size;have b3:=ok.n1;have b4:=ok.n2;have b5:(b.h.next.headD []).length≤1000:=by
  rcases hn:b.h.next with _|⟨p,r⟩
  ·simp
  ·have:=(ok.h.long p (Or.inr (by rw[hn];exact List.mem_cons_self))).2.1;simp only[List.headD_cons];omega
 obtain⟨z,hz⟩:∃z,(b.h.next.headD []).length=z:=⟨_,rfl⟩;have HZ:=am hz;rw[hz] at b5;have hw:=qoi (Sig.size b.h.sent) z (by omega);clear hb h ok;by_cases h0:b.h.sent.length=0
 ·have e0:(((b.h.sent.length:Nat):Int)==(0))=true:=beq_iff_eq.2 (by omega);have hf:b.fits=true:=by unfold Sig.Cyclic.fits;simp[h0]
  rw[hf];clear hf h0 hz;go_enter Tryz.func176,Tryz.ntmps176
  go_wp2_with fail
  go_quiet (first|exact Calls.quiet_of_same (qf (qd4 (HD.out.drewN _)))|exact Calls.quiet_of_same (qf (qf0 (HD.out.drewN _) OK.out))|exact Calls.quiet_of_same (qf (qms (HD.out.drewN _) OK.out HZ.out)))
  go_wp2;go_ret;exact⟨rfl,_,rfl⟩
 ·by_cases h1:b.h.sent.length<b.n1
  ·by_cases h2:Sig.size b.h.sent+z≤b.n2
   ·have e0:(((b.h.sent.length:Nat):Int)==(0))=false:=beq_eq_false_iff_ne.2 (by omega);have d1:decide ((b.h.sent.length:Int)<(b.n1:Int))=true:=decide_eq_true (by omega);have d1n:decide (b.h.sent.length<b.n1)=true:=decide_eq_true (by omega);have d2:decide ((Sig.size b.h.sent:Int)+(z:Int)≤(b.n2:Int))=true:=decide_eq_true (by omega);have hf:b.fits=true:=by unfold Sig.Cyclic.fits;rw[hz,show Nat.blt b.h.sent.length b.n1=true from by simpa using h1,show Nat.ble (Sig.size b.h.sent+z) b.n2=true from by simpa using h2];simp
    rw[hf];clear hf h0 h1 h2 hz;go_enter Tryz.func176,Tryz.ntmps176
    go_wp2_with fail
    go_quiet (first|exact Calls.quiet_of_same (qf (qd4 (HD.out.drewN _)))|exact Calls.quiet_of_same (qf (qf0 (HD.out.drewN _) OK.out))|exact Calls.quiet_of_same (qf (qms (HD.out.drewN _) OK.out HZ.out)))
    go_wp2;go_ret;exact⟨rfl,_,rfl⟩
   ·have e0:(((b.h.sent.length:Nat):Int)==(0))=false:=beq_eq_false_iff_ne.2 (by omega);have d1:decide ((b.h.sent.length:Int)<(b.n1:Int))=true:=decide_eq_true (by omega);have d1n:decide (b.h.sent.length<b.n1)=true:=decide_eq_true (by omega);have d2:decide ((Sig.size b.h.sent:Int)+(z:Int)≤(b.n2:Int))=false:=decide_eq_false (by omega);have hf:b.fits=false:=by unfold Sig.Cyclic.fits;rw[hz,show Nat.blt b.h.sent.length b.n1=true from by simpa using h1,show Nat.ble (Sig.size b.h.sent+z) b.n2=false from by rw[Bool.eq_false_iff];simpa using h2];simp;exact fun h=>h0 (by simp[h])
    rw[hf];clear hf h0 h1 h2 hz;go_enter Tryz.func176,Tryz.ntmps176
    go_wp2_with fail
    go_quiet (first|exact Calls.quiet_of_same (qf (qd4 (HD.out.drewN _)))|exact Calls.quiet_of_same (qf (qf0 (HD.out.drewN _) OK.out))|exact Calls.quiet_of_same (qf (qms (HD.out.drewN _) OK.out HZ.out)))
    go_wp2;go_ret;exact⟨rfl,_,rfl⟩
  ·have e0:(((b.h.sent.length:Nat):Int)==(0))=false:=beq_eq_false_iff_ne.2 (by omega);have d1:decide ((b.h.sent.length:Int)<(b.n1:Int))=false:=decide_eq_false (by omega);have d1n:decide (b.h.sent.length<b.n1)=false:=decide_eq_false (by omega);have hf:b.fits=false:=by unfold Sig.Cyclic.fits;rw[show Nat.blt b.h.sent.length b.n1=false from by rw[Bool.eq_false_iff];simpa using h1];simp;exact fun h=>h0 (by simp[h])
   rw[hf];clear hf h0 h1 hz;go_enter Tryz.func176,Tryz.ntmps176
   go_wp2_with fail
   go_quiet (first|exact Calls.quiet_of_same (qf (qd4 (HD.out.drewN _)))|exact Calls.quiet_of_same (qf (qf0 (HD.out.drewN _) OK.out))|exact Calls.quiet_of_same (qf (qms (HD.out.drewN _) OK.out HZ.out)))
   go_wp2;go_ret;exact⟨rfl,_,rfl⟩
theorem qgy {b:Sig.Cyclic} {u:Sig.Unit} (hk:b.h.knows u.bsn=false) {o:Bool} (ho:(b.bsn.1||b.bsn.2)=o):b.answer u=({ b with bsn:=(b.bsn.2,true) },if o then none else some 0):=by
 unfold Sig.Cyclic.answer Sig.see;simp only[hk,ho,Bool.not_false,Bool.true_and];cases o <;> rfl
theorem qez {b:Sig.Cyclic} {u:Sig.Unit} (hk:b.h.knows u.bsn=true) {f:Sig.Hold} {k:Nat} (hf:b.h.free u.bsn=(f,k)) {j:Nat} (hj:b.at_-k=j):b.answer u=({ b with bsn:=(b.bsn.2,false),h:=f,at_:=j },some k):=by
 subst hj;unfold Sig.Cyclic.answer Sig.see;simp only[hk,hf,Bool.not_true,Bool.false_and];rfl
theorem qmw {b:Sig.Cyclic} {u:Sig.Unit} (hk:¬(u.kind=2∧u.fsn=Sig.rNext b.last)):b.take u=(b,some none):=by
 unfold Sig.Cyclic.take;rw[if_pos (by omega)]
theorem qqe {b:Sig.Cyclic} {u:Sig.Unit} (hk:u.kind=2) {n:Nat} (hn:Sig.rNext b.last=n) (hs:u.fsn=n):b.take u=({ b with last:=n },some (some u.info)):=by
 subst hn;unfold Sig.Cyclic.take;rw[if_neg (by omega),hs]
theorem quh {gb gh:Nat} {O:Nat→Prop} {b:Sig.Cyclic} {w:World} (hb:Blk w gb 203 (qa2 gh b)) {vs vn:Value} (h:HoldAt w gh O b.h vs vn) (ok:COk b) (u:Sig.Unit) (Au:Option Addr) (cu:Nat) (hu:u.bsn<256) :
  Calls Tryz.prog 163 #[.pointer (some ⟨gb,0,none⟩),qax u (.slice Au u.info.length cu)] w (PActs 203 gb gh O w (qa2 gh (b.answer u).1) (b.answer u).1.h (qun (b.answer u).2)):=by
 obtain⟨kb,hk⟩:∃kb,b.h.knows u.bsn=kb:=⟨_,rfl⟩;have H0:=am (QAt.start hb h ⟨by decide,by decide,by decide⟩ (by decide) (qbg u (.slice Au u.info.length cu)));have OK:=am ok;clear h ok;have HKN:=am hk;clear hk;cases kb
 ·skip;have c0:=fun (o:Obj)=>Lib.cell?_alloc_some (W:=w) o (hb.c 0 (v:=.pointer (some ⟨gh,0,none⟩)) rfl);clear hb;unfold qax;go_enter Tryz.func163,Tryz.ntmps163
  go_wp2_with fail
  obtain⟨W0,hW0⟩:∃W0,w.alloc (.cells ((qbg u (.slice Au u.info.length cu))).toArray 167)=W0:=⟨_,rfl⟩;change Code.wp _ _ _ _ (w.alloc (.cells ((qbg u (.slice Au u.info.length cu))).toArray 167));rw[hW0];have hq:=H0.out;rw[hW0] at hq;have H1:=am hq;clear hq hW0;clear c0;have c0:=H1.out.at_.blk.c 0 (v:=.pointer (some ⟨gh,0,none⟩)) rfl;have f5:=H1.out.at_.blk.f;obtain⟨r0,r1,r2,r3,r4,r5,r6,r7,q0,q1,q2,q3,q4,q5,q6,q7⟩:=H1.out.room.room8;refine sr 8 (fun W=>W.cell? ⟨gb,0,none⟩=some (.pointer (some ⟨gh,0,none⟩))∧W.cell? ⟨w.heap.size,0,none⟩=some (.int .u8 u.bsn)) [6] (show _∧_ from ⟨c0,r0⟩) (fun hY=>?_);have H2:=am (H1.out.below (qaf (Below.refl _ _)));obtain⟨vs2,vn2,hh2⟩:=H2.out.at_.hold;have HH2:=am hh2;clear hh2;clear c0 f5 r0 r1 r2 r3 r4 r5 r6 r7 q0 q1 q2 q3 q4 q5 q6 q7;refine pu 0 11 ?_;refine pu 1 12 ?_;refine pu 2 13 ?_;refine pu 4 15 ?_;refine tk 3 14 hY ?_;refine tk 5 16 hY ?_;refine la_ 6 17 (fun K hK=>?_);refine gs Tryz.func171 #[.pointer (some ⟨gh,0,none⟩),.int .u8 u.bsn] ?_
  with_reducible refine(qi9 HH2.out OK.out.h u.bsn hu HKN.out).mono ?_
  rintro e w3 ⟨rfl,kk,rfl⟩;refine⟨_,rfl,?_⟩;have H3:=am (H2.out.below (qab (Below.refl _ _) kk));generalize W0.drew.drewN kk=w3 at *;refine hK.out _ _ ?_;clear hK K;refine nm 17 ?_;refine pu 7 6 ?_;refine qav (by kernel_rfl) ?_;have c6:=H3.out.at_.blk.c 6 (v:=.bool b.bsn.1) rfl;have c7:=H3.out.at_.blk.c 7 (v:=.bool b.bsn.2) rfl;have f5:=H3.out.at_.blk.f;obtain⟨r0,r1,r2,r3,r4,r5,r6,r7,q0,q1,q2,q3,q4,q5,q6,q7⟩:=H3.out.room.room8
  go_wp2_with fail
  refine(qcw gb 6 b.bsn.1 b.bsn.2 true w3 c6 c7 (f5 _) (f5 _)).mono ?_;rintro e w4 ⟨rfl,rfl⟩;have H4:=am (H3.out.below (qaf (Below.refl _ _)));have H5:=am (H4.out.set 6 (.bool b.bsn.2) (cs':=qa2 gh { b with bsn:=(b.bsn.2,b.bsn.2) }) rfl);have H6:=am (H5.out.set 7 (.bool true) (cs':=qa2 gh { b with bsn:=(b.bsn.2,true) }) rfl);generalize (w3.drew.setCell ⟨gb,6,none⟩ (.bool b.bsn.2)).setCell ⟨gb,6+1,none⟩ (.bool true)=w6 at *;clear c6 c7 f5 r0 r1 r2 r3 r4 r5 r6 r7 q0 q1 q2 q3 q4 q5 q6 q7;have c0:=H6.out.at_.blk.c 0 (v:=.pointer (some ⟨gh,0,none⟩)) rfl;have f5:=H6.out.at_.blk.f;obtain⟨r0,r1,r2,r3,r4,r5,r6,r7,q0,q1,q2,q3,q4,q5,q6,q7⟩:=H6.out.room.room8;obtain⟨bo,ho⟩:∃bo,(b.bsn.1||b.bsn.2)=bo:=⟨_,rfl⟩;have HO:=am ho;clear ho;rw[HO.out];have HE:=am (qgy (u:=u) HKN.out HO.out);cases bo
  ·go_wp2;go_ret2;rw[HE.out];exact PActs.of H6.out
  ·go_wp2;go_ret2;rw[HE.out];exact PActs.of H6.out
 ·skip;have c0:=fun (o:Obj)=>Lib.cell?_alloc_some (W:=w) o (hb.c 0 (v:=.pointer (some ⟨gh,0,none⟩)) rfl);clear hb;unfold qax;go_enter Tryz.func163,Tryz.ntmps163
  go_wp2_with fail
  obtain⟨W0,hW0⟩:∃W0,w.alloc (.cells ((qbg u (.slice Au u.info.length cu))).toArray 167)=W0:=⟨_,rfl⟩;change Code.wp _ _ _ _ (w.alloc (.cells ((qbg u (.slice Au u.info.length cu))).toArray 167));rw[hW0];have hq:=H0.out;rw[hW0] at hq;have H1:=am hq;clear hq hW0;clear c0;have c0:=H1.out.at_.blk.c 0 (v:=.pointer (some ⟨gh,0,none⟩)) rfl;have f5:=H1.out.at_.blk.f;obtain⟨r0,r1,r2,r3,r4,r5,r6,r7,q0,q1,q2,q3,q4,q5,q6,q7⟩:=H1.out.room.room8;refine sr 8 (fun W=>W.cell? ⟨gb,0,none⟩=some (.pointer (some ⟨gh,0,none⟩))∧W.cell? ⟨w.heap.size,0,none⟩=some (.int .u8 u.bsn)) [6] (show _∧_ from ⟨c0,r0⟩) (fun hY=>?_);have H2:=am (H1.out.below (qaf (Below.refl _ _)));obtain⟨vs2,vn2,hh2⟩:=H2.out.at_.hold;have HH2:=am hh2;clear hh2;clear c0 f5 r0 r1 r2 r3 r4 r5 r6 r7 q0 q1 q2 q3 q4 q5 q6 q7;refine pu 0 11 ?_;refine pu 1 12 ?_;refine pu 2 13 ?_;refine pu 4 15 ?_;refine tk 3 14 hY ?_;refine tk 5 16 hY ?_;refine la_ 6 17 (fun K hK=>?_);refine gs Tryz.func171 #[.pointer (some ⟨gh,0,none⟩),.int .u8 u.bsn] ?_
  with_reducible refine(qi9 HH2.out OK.out.h u.bsn hu HKN.out).mono ?_
  rintro e w3 ⟨rfl,kk,rfl⟩;refine⟨_,rfl,?_⟩;have H3:=am (H2.out.below (qab (Below.refl _ _) kk));generalize W0.drew.drewN kk=w3 at *;refine hK.out _ _ ?_;clear hK K;refine nm 17 ?_;refine pu 7 6 ?_;refine qav (by kernel_rfl) ?_;have c6:=H3.out.at_.blk.c 6 (v:=.bool b.bsn.1) rfl;have c7:=H3.out.at_.blk.c 7 (v:=.bool b.bsn.2) rfl;have f5:=H3.out.at_.blk.f;obtain⟨r0,r1,r2,r3,r4,r5,r6,r7,q0,q1,q2,q3,q4,q5,q6,q7⟩:=H3.out.room.room8
  go_wp2_with fail
  refine(qcw gb 6 b.bsn.1 b.bsn.2 false w3 c6 c7 (f5 _) (f5 _)).mono ?_;rintro e w4 ⟨rfl,rfl⟩;have H4:=am (H3.out.below (qaf (Below.refl _ _)));have H5:=am (H4.out.set 6 (.bool b.bsn.2) (cs':=qa2 gh { b with bsn:=(b.bsn.2,b.bsn.2) }) rfl);have H6:=am (H5.out.set 7 (.bool false) (cs':=qa2 gh { b with bsn:=(b.bsn.2,false) }) rfl);generalize (w3.drew.setCell ⟨gb,6,none⟩ (.bool b.bsn.2)).setCell ⟨gb,6+1,none⟩ (.bool false)=w6 at *;clear c6 c7 f5 r0 r1 r2 r3 r4 r5 r6 r7 q0 q1 q2 q3 q4 q5 q6 q7;have c0:=H6.out.at_.blk.c 0 (v:=.pointer (some ⟨gh,0,none⟩)) rfl;have f5:=H6.out.at_.blk.f;obtain⟨r0,r1,r2,r3,r4,r5,r6,r7,q0,q1,q2,q3,q4,q5,q6,q7⟩:=H6.out.room.room8;obtain⟨⟨f,k⟩,hf⟩:∃p,b.h.free u.bsn=p:=⟨_,rfl⟩;have HF:=am hf;obtain⟨hkl,hfl⟩:=qgo OK.out.h hf;clear hf
  go_wp2_with fail
  refine sr 12 (fun W=>W.cell? ⟨gb,0,none⟩=some (.pointer (some ⟨gh,0,none⟩))∧W.cell? ⟨w.heap.size,0,none⟩=some (.int .u8 u.bsn)) [6] (show _∧_ from ⟨c0,r0⟩) (fun hY=>?_);have H7:=am (H6.out.below (qaf (Below.refl _ _)));obtain⟨vs7,vn7,hh7⟩:=H7.out.at_.hold;have HH7:=am hh7;clear hh7;clear c0 f5 r0 r1 r2 r3 r4 r5 r6 r7 q0 q1 q2 q3 q4 q5 q6 q7;refine pu 0 27 ?_;refine pu 1 28 ?_;refine pu 2 29 ?_;refine pu 4 31 ?_;refine tk 3 30 hY ?_;refine tk 5 32 hY ?_;refine la_ 6 33 (fun K hK=>?_);refine gs Tryz.func173 #[.pointer (some ⟨gh,0,none⟩),.int .u8 u.bsn] ?_
  with_reducible refine(qsr HH7.out OK.out.h u.bsn HKN.out HF.out).mono ?_
  rintro e w8 ⟨rfl,hh8,hon8⟩;refine⟨_,rfl,?_⟩;have H8:=am (H7.out.hacts (r:=.tuple #[]) ⟨rfl,hh8,hon8⟩).2;clear hh8 hon8;refine hK.out _ _ ?_;clear hK K;refine nm 33 ?_;refine pu 7 26 ?_;refine pu 8 34 ?_;refine pu 9 35 ?_;refine pu 10 7 ?_;refine pu 11 8 ?_;refine qav (by kernel_rfl) ?_;have hlim:=OK.out.at_;obtain⟨i,hi⟩:∃i,b.at_=i:=⟨_,rfl⟩;have HI:=am hi;rw[hi] at hlim;clear hi;obtain⟨j,hj⟩:∃j,i-k=j:=⟨_,rfl⟩;have hsub:max (0:Int) ((i:Int)-(k:Int))=(j:Int):=by omega
  have HJ:=am hj;clear hj;have hmx:=qlp i k j hsub;clear hsub;have c0:=H8.out.at_.blk.c 0 (v:=.pointer (some ⟨gh,0,none⟩)) rfl;have c4:=H8.out.at_.blk.c 4 (v:=.int .i64 b.at_) rfl;have f5:=H8.out.at_.blk.f;obtain⟨r0,r1,r2,r3,r4,r5,r6,r7,q0,q1,q2,q3,q4,q5,q6,q7⟩:=H8.out.room.room8;rw[HI.out] at c4;go_wp2;have H9:=am (H8.out.set 4 (.int .i64 (j:Int)) (cs':=qa2 gh { b with bsn:=(b.bsn.2,false),h:=f,at_:=j }) rfl);go_ret2;rw[qez (j:=j) HKN.out HF.out (by rw[HI.out];exact HJ.out)];exact PActs.of H9.out
theorem qxh {gb gh:Nat} {O:Nat→Prop} {b:Sig.Cyclic} {w:World} (hb:Blk w gb 203 (qa2 gh b)) {vs vn:Value} (h:HoldAt w gh O b.h vs vn) (ok:COk b) (u:Sig.Unit) (Au:Option Addr) (cu:Nat) (hoct:Oct w (.slice Au u.info.length cu) u.info) (hlen:u.kind=2→0<u.info.length) (hmax:u.info.length≤1000000) :
  Calls Tryz.prog 169 #[.pointer (some ⟨gb,0,none⟩),qax u (.slice Au u.info.length cu)] w (PTakes 203 gb gh O w (qa2 gh (b.take u).1) (b.take u).1.h (b.take u).2):=by
 have HOCT:=am hoct;have HLEN:=am hlen;have HBX:=am hb;have HHX:=am h;clear hoct hlen;have H0:=am (QAt.start hb h ⟨by decide,by decide,by decide⟩ (by decide) (qbg u (.slice Au u.info.length cu)));have OK:=am ok;clear h ok;clear hb;unfold qax;go_enter Tryz.func169,Tryz.ntmps169
 go_wp2_with fail
 obtain⟨W0,hW0⟩:∃W0,w.alloc (.cells ((qbg u (.slice Au u.info.length cu))).toArray 167)=W0:=⟨_,rfl⟩;change Code.wp _ _ _ _ (w.alloc (.cells ((qbg u (.slice Au u.info.length cu))).toArray 167));rw[hW0];have hq:=H0.out;rw[hW0] at hq;have H1:=am hq;clear hq hW0;have c3:=H1.out.at_.blk.c 3 (v:=.int .u8 b.last) rfl;have f5:=H1.out.at_.blk.f;obtain⟨r0,r1,r2,r3,r4,r5,r6,r7,q0,q1,q2,q3,q4,q5,q6,q7⟩:=H1.out.room.room8;have hlast:=OK.out.last;obtain⟨n,hn⟩:∃n,Sig.rNext b.last=n:=⟨_,rfl⟩;have HN:=am hn;have hcall:Calls Tryz.prog 180 #[.int .u8 b.last] W0.drew fun e w'=>e=.returned (.int .u8 n)∧W0.drew=w':=by rw[←hn];exact qea b.last hlast _
 have HC:=am hcall;clear hn hcall;by_cases hk:u.kind=2
 ·have e1:(((u.kind:Nat):Int) != 2)=false:=by rw[hk];rfl
  by_cases hs:u.fsn=n
  ·have e2:(((u.fsn:Nat):Int) != ((n:Nat):Int))=false:=by rw[hs];simp
   have e2n:(u.fsn != n)=false:=by rw[hs];simp
   have HE:=am (qqe (u:=u) hk HN.out hs);have hl0:=HLEN.out hk;have HS:=am hs;clear hk hs;go_still_tail 11,(by kernel_rfl)
   still_call (qf HC.out)
   repeat still_step
   refine wpStill_nil ?_;change wpList _ _ _ _ _ W0.drew;have H2:=am (H1.out.below (qaf (Below.refl _ _)));generalize W0.drew=w2 at *;clear c3 f5 r0 r1 r2 r3 r4 r5 r6 r7 q0 q1 q2 q3 q4 q5 q6 q7;have c3:=H2.out.at_.blk.c 3 (v:=.int .u8 b.last) rfl;have f5:=H2.out.at_.blk.f;obtain⟨r0,r1,r2,r3,r4,r5,r6,r7,q0,q1,q2,q3,q4,q5,q6,q7⟩:=H2.out.room.room8
   go_wp2_with fail
   have H3:=am (H2.out.set 3 (.int .u8 (u.fsn:Nat)) (cs':=qa2 gh { b with last:=u.fsn }) rfl);have HO:=am (H3.out.octs HBX.out HHX.out HOCT.out);generalize (w2.setCell ⟨gb,3,none⟩ (.int .u8 (u.fsn:Nat)))=w3 at *;clear c3 f5 r0 r1 r2 r3 r4 r5 r6 r7 q0 q1 q2 q3 q4 q5 q6 q7;have f5:=H3.out.at_.blk.f;obtain⟨r0,r1,r2,r3,r4,r5,r6,r7,q0,q1,q2,q3,q4,q5,q6,q7⟩:=H3.out.room.room8;refine(qb3 HO.out hl0 hmax).mono ?_;rintro e w7 ⟨v7,rfl,hM⟩;go_wp2
   go_ret3
   rw[HE.out,←HS.out];exact PTakes.yes H3.out hM
  ·have e2:(((u.fsn:Nat):Int) != ((n:Nat):Int))=true:=bne_iff_ne.2 (by omega);have e2n:(u.fsn != n)=true:=bne_iff_ne.2 hs;have HE:=am (qmw (b:=b) (u:=u) (by rw[HN.out];omega));clear hk hs;go_still_tail 11,(by kernel_rfl)
   still_call (qf HC.out)
   repeat still_step
   refine wpStill_nil ?_;change wpList _ _ _ _ _ W0.drew;have H2:=am (H1.out.below (qaf (Below.refl _ _)));generalize W0.drew=w2 at *;clear c3 f5 r0 r1 r2 r3 r4 r5 r6 r7 q0 q1 q2 q3 q4 q5 q6 q7;have c3:=H2.out.at_.blk.c 3 (v:=.int .u8 b.last) rfl;have f5:=H2.out.at_.blk.f;obtain⟨r0,r1,r2,r3,r4,r5,r6,r7,q0,q1,q2,q3,q4,q5,q6,q7⟩:=H2.out.room.room8;go_wp2
   go_ret3
   rw[HE.out];exact PTakes.no rfl (fun _=>rfl) H2.out
 ·have e1:(((u.kind:Nat):Int) != 2)=true:=bne_iff_ne.2 (by omega);have HE:=am (qmw (b:=b) (u:=u) (by omega));clear hk
  go_quiet (fail)
  have H2:=am (H1.out.below (qab (Below.refl _ _) nq));generalize W0.drewN nq=w2 at *;clear c3 f5 r0 r1 r2 r3 r4 r5 r6 r7 q0 q1 q2 q3 q4 q5 q6 q7;have c3:=H2.out.at_.blk.c 3 (v:=.int .u8 b.last) rfl;have f5:=H2.out.at_.blk.f;obtain⟨r0,r1,r2,r3,r4,r5,r6,r7,q0,q1,q2,q3,q4,q5,q6,q7⟩:=H2.out.room.room8;go_wp2
  go_ret3
  rw[HE.out];exact PTakes.no rfl (fun _=>rfl) H2.out
end Go.Proofs.YtjbijdmcceloaaaGreat.Top
