/- Part of the proof of topServes_holds. No condition. -/
import Derived.StillTailTactics
import Derived.Test.YtjbijdmcceloaaaGreatQS3
set_option linter.unusedVariables false
set_option linter.unusedSimpArgs false
set_option maxHeartbeats 80000000
set_option maxRecDepth 100000
namespace Go.Proofs.YtjbijdmcceloaaaGreat.Top
open Go Go.RowKit Go.Proofs.YtjbijdmcceloaaaGreat Go.Proofs.YtjbijdmcceloaaaGreatW.PrintWords Go.Proofs.YtjbijdmcceloaaaGreatW.PrintLast Go.Proofs.YtjbijdmcceloaaaGreatW.PrintMore
structure Adr where
 s:Nat
 c:Nat
 a:Nat
 j:Nat
 w:Nat
 h:Nat
 cyc:Bool
def ptr (g:Nat):Value:=.pointer (some ⟨g,0,none⟩)
def qcf (cyc:Bool) (t:List Nat):List Value:=[.bool cyc,.int .i64 8,.int .i64 300,.int .i64 16,.int .i64 600]++qdg t
def Adr.ty (A:Adr):Nat:=if A.cyc then 178 else 180
def qcu (A:Adr):Value:=.iface A.ty (ptr A.w)
def qqm (A:Adr) (x:Sig.Link):List Value:=qcf A.cyc x.t++[ptr A.c,.int .u8 x.a.state,.bool x.a.own,.bool x.a.their,.bool x.a.p.hurry,.int .i64 x.a.p.n,.int .i64 x.a.p.tries]
def qpp (A:Adr) (x:Sig.Link):List Value:=qcf A.cyc x.t++[ptr A.c,.bool x.j.own,.bool x.j.their,.bool x.j.due]
def qij (A:Adr) (x:Sig.Link) (vt:Value):List Value:=[.int .u8 x.s]++qcf A.cyc x.t++[ptr A.c,ptr A.a,ptr A.j,qcu A,.bool x.o.own,.bool x.o.their,.bool x.o.wait,.int .i64 x.leak.n,.int .i64 x.leak.seen,vt,.int .i64 x.fails]
structure Core (w:World) (A:Adr) (x:Sig.Link) (vt:Value):Prop where
 st:Blk w A.s 54 (qij A x vt)
 cl:ClockAt w A.c x.c
 al:Blk w A.a 62 (qqm A x)
 ja:Blk w A.j 177 (qpp A x)
 tl:∃t0 t1 t2 t3 t4 t5 t6 t7,x.t=[t0,t1,t2,t3,t4,t5,t6,t7]
 tk:∀i,i<8→1≤x.T i∧x.T i≤4294967296
theorem Core.ne {w:World} {A:Adr} {x:Sig.Link} {vt:Value} (h:Core w A x vt):A.s≠A.c∧A.s≠A.a∧A.s≠A.j∧A.c≠A.a∧A.c≠A.j∧A.a≠A.j :=
 ⟨h.st.ne h.cl.blk (by decide),h.st.ne h.al (by decide),h.st.ne h.ja (by decide),h.cl.blk.ne h.al (by decide),h.cl.blk.ne h.ja (by decide),h.al.ne h.ja (by decide)⟩
theorem qns (w:World) (l:List Nat) (hl:l.length≤8):qsw (w.alloc (.cells (qdg l).toArray 3)) (some ⟨w.heap.size,0,none⟩) l:=by
 refine⟨rfl,by omega,fun _=>⟨_,rfl,fun j hj=>?_⟩⟩;rw[Addr.add_lit,World.cell?_alloc_mark,Nat.zero_add];simp[qdg,List.getD_eq_getElem?_getD,hj]
theorem Only.alloc {P:Nat→Prop} {w w':World} (h:Only P w w') (o:Obj):Only P w (w'.alloc o):=by
 have hs:(w'.alloc o).heap.size=w'.heap.size+1:=by simp[World.alloc_eq]
 have hb:=qaa (Below.refl w'.heap.size w') o;exact⟨hb.os.trans h.os,hb.tape.trans h.tape,hb.output.trans h.output,by have:=h.size;omega,fun k hk hn=>(hb.block k (by have:=h.size;omega)).trans (h.block k hk hn)⟩
theorem ClockAt.only {P:Nat→Prop} {w w':World} {g:Nat} {c:List Nat} (h:ClockAt w g c) (ho:Only P w w') (hp:¬P g):ClockAt w' g c:=⟨h.len,h.blk.only ho hp⟩
theorem qwy (g:Nat) (c:List Nat) (l:List Nat) (w:World) (h:ClockAt w g c) (hl:∀i∈l,i<8) (hn:l.length≤8) {b:Nat} (hb:w.heap.size=b) {k:Nat} (hk:l.length=k) {cs:Array Value} (hcs:(qdg l).toArray=cs) :
  Calls Tryz.prog 97 #[.pointer (some ⟨g,0,none⟩),.slice (some ⟨b,0,none⟩) k k] (w.alloc (.cells cs 3)) fun e w'=>e=.returned (.tuple #[])∧ClockAt w' g (Sig.cStop c l)∧Only (·=g) w w':=by
 subst hb;subst hk;subst hcs;have ha:=(Only.refl (·=g) w).alloc (.cells (qdg l).toArray 3);refine(qm9 g c _ l _ (h.only ((Only.refl (fun _=>False) w).alloc _) (fun h=>h)) (qns w l hn) (fun ad e=>by cases e;have:=h.blk.lt;exact fun e=>by simp only at e;omega) hl hn).mono ?_;rintro e w' ⟨rfl,h1,h2⟩;exact⟨rfl,h1,ha.trans h2⟩
theorem ClockAt.far {w:World} {g:Nat} {c:List Nat} (h:ClockAt w g c) {p:Addr} (hp:g≠p.block) (u:Value):ClockAt (w.setCell p u) g c:=⟨h.len,h.blk.far hp u⟩
theorem qa0 (w:World) (p:Addr) (u:Value):(w.setCell p u).heap.size=w.heap.size:=by simp[World.setCell]
theorem ClockAt.drew {w:World} {g:Nat} {c:List Nat} (h:ClockAt w g c):ClockAt w.drew g c:=⟨h.len,h.blk⟩
theorem Only.drew1 {P:Nat→Prop} (w:World):Only P w w.drew:=⟨rfl,rfl,rfl,Nat.le_refl _,fun _ _ _=>rfl⟩
theorem Blk.drew {w:World} {g t:Nat} {cs:List Value} (h:Blk w g t cs):Blk w.drew g t cs:=h
theorem Core.drew {w:World} {A:Adr} {x:Sig.Link} {vt:Value} (h:Core w A x vt):Core w.drew A x vt:=⟨h.st,h.cl.drew,h.al,h.ja,h.tl,h.tk⟩
def Own (A:Adr) (k:Nat):Prop:=k=A.s∨k=A.c∨k=A.a∨k=A.j
theorem Core.only {P:Nat→Prop} {w w':World} {A:Adr} {x:Sig.Link} {vt:Value} (h:Core w A x vt) (ho:Only P w w') (hp:∀k,Own A k→¬P k):Core w' A x vt :=
 ⟨h.st.only ho (hp _ (Or.inl rfl)),h.cl.only ho (hp _ (Or.inr (Or.inl rfl))),h.al.only ho (hp _ (Or.inr (Or.inr (Or.inl rfl)))),h.ja.only ho (hp _ (Or.inr (Or.inr (Or.inr rfl)))),h.tl,h.tk⟩
theorem Core.alloc {w:World} {A:Adr} {x:Sig.Link} {vt:Value} (h:Core w A x vt) (o:Obj):Core (w.alloc o) A x vt:=h.only ((Only.refl (fun _=>False) w).alloc o) (fun _ _ h=>h)
theorem Core.T' {w:World} {A:Adr} {x:Sig.Link} {vt:Value} (h:Core w A x vt):x.t=[x.T 0,x.T 1,x.T 2,x.T 3,x.T 4,x.T 5,x.T 6,x.T 7]:=by
 obtain⟨t0,t1,t2,t3,t4,t5,t6,t7,ht⟩:=h.tl;unfold Sig.Link.T;rw[ht];rfl
theorem qgn (A:Adr) (x:Sig.Link) (h:x.t=[x.T 0,x.T 1,x.T 2,x.T 3,x.T 4,x.T 5,x.T 6,x.T 7]) (i:Nat) (hi:i<8) (r:List Value):(qcf A.cyc x.t++r)[5+i]?=some (.int .i64 (x.T i:Nat)):=by
 generalize x.T=T at h;rw[h]
 match i,hi with
 |0,_=>rfl
 |1,_=>rfl
 |2,_=>rfl
 |3,_=>rfl
 |4,_=>rfl
 |5,_=>rfl
 |6,_=>rfl
 |7,_=>rfl
theorem qbt (A:Adr) (x:Sig.Link) (h:x.t=[x.T 0,x.T 1,x.T 2,x.T 3,x.T 4,x.T 5,x.T 6,x.T 7]) (i:Nat) (r:List Value):(qcf A.cyc x.t++r)[13+i]?=r[i]?:=by
 rw[List.getElem?_append_right (by rw[h];simp[qcf,qdg])];rw[h];simp[qcf,qdg]
theorem qil (A:Adr) (x:Sig.Link) (h:x.t=[x.T 0,x.T 1,x.T 2,x.T 3,x.T 4,x.T 5,x.T 6,x.T 7]) (i:Nat) (u:Value) (r:List Value):(qcf A.cyc x.t++r).set (13+i) u=qcf A.cyc x.t++r.set i u:=by
 rw[List.set_append_right _ _ (by rw[h];simp[qcf,qdg])];rw[h];simp[qcf,qdg]
section
variable {w:World} {A:Adr} {x:Sig.Link} {vt:Value}
theorem Core.fa (h:Core w A x vt):w.cell? ⟨A.a,13,none⟩=some (.pointer (some ⟨A.c,0,none⟩))∧w.cell? ⟨A.a,14,none⟩=some (.int .u8 x.a.state)∧w.cell? ⟨A.a,15,none⟩=some (.bool x.a.own)∧w.cell? ⟨A.a,16,none⟩=some (.bool x.a.their)∧w.cell? ⟨A.a,17,none⟩=some (.bool x.a.p.hurry)∧w.cell? ⟨A.a,18,none⟩=some (.int .i64 x.a.p.n)∧w.cell? ⟨A.a,19,none⟩=some (.int .i64 x.a.p.tries)∧w.frozen? ⟨A.a,14,none⟩=false∧w.frozen? ⟨A.a,15,none⟩=false∧w.frozen? ⟨A.a,16,none⟩=false∧w.frozen? ⟨A.a,17,none⟩=false∧w.frozen? ⟨A.a,18,none⟩=false∧w.frozen? ⟨A.a,19,none⟩=false :=
 ⟨h.al.c 13 (qbt A x h.T' 0 _),h.al.c 14 (qbt A x h.T' 1 _),h.al.c 15 (qbt A x h.T' 2 _),h.al.c 16 (qbt A x h.T' 3 _),h.al.c 17 (qbt A x h.T' 4 _),h.al.c 18 (qbt A x h.T' 5 _),h.al.c 19 (qbt A x h.T' 6 _),h.al.f _,h.al.f _,h.al.f _,h.al.f _,h.al.f _,h.al.f _⟩
theorem Core.aT (h:Core w A x vt) (i:Nat) (hi:i<8):w.cell? ⟨A.a,5+i,none⟩=some (.int .i64 (x.T i:Nat)):=h.al.c (5+i) (qgn A x h.T' i hi _)
theorem Core.fj (h:Core w A x vt):w.cell? ⟨A.j,13,none⟩=some (.pointer (some ⟨A.c,0,none⟩))∧w.cell? ⟨A.j,14,none⟩=some (.bool x.j.own)∧w.cell? ⟨A.j,15,none⟩=some (.bool x.j.their)∧w.cell? ⟨A.j,16,none⟩=some (.bool x.j.due)∧w.frozen? ⟨A.j,14,none⟩=false∧w.frozen? ⟨A.j,15,none⟩=false∧w.frozen? ⟨A.j,16,none⟩=false :=
 ⟨h.ja.c 13 (qbt A x h.T' 0 _),h.ja.c 14 (qbt A x h.T' 1 _),h.ja.c 15 (qbt A x h.T' 2 _),h.ja.c 16 (qbt A x h.T' 3 _),h.ja.f _,h.ja.f _,h.ja.f _⟩
theorem Core.jT (h:Core w A x vt) (i:Nat) (hi:i<8):w.cell? ⟨A.j,5+i,none⟩=some (.int .i64 (x.T i:Nat)):=h.ja.c (5+i) (qgn A x h.T' i hi _)
theorem Core.setA (h:Core w A x vt) (i:Nat) (u:Value) (a:Sig.Align) (e:([ptr A.c,.int .u8 x.a.state,.bool x.a.own,.bool x.a.their,.bool x.a.p.hurry,.int .i64 x.a.p.n,.int .i64 x.a.p.tries]:List Value).set i u=[ptr A.c,.int .u8 a.state,.bool a.own,.bool a.their,.bool a.p.hurry,.int .i64 a.p.n,.int .i64 a.p.tries]):Core (w.setCell ⟨A.a,13+i,none⟩ u) A { x with a:=a } vt:=by
 obtain⟨n1,n2,n3,n4,n5,n6⟩:=h.ne;refine⟨h.st.far n2 _,h.cl.far n4 _,?_,h.ja.far (Ne.symm n6) _,h.tl,h.tk⟩;have:=h.al.set (13+i) u;unfold qqm at this;rw[qil A x h.T',e] at this;exact this
theorem Core.setJ (h:Core w A x vt) (i:Nat) (u:Value) (j:Sig.Jam) (e:([ptr A.c,.bool x.j.own,.bool x.j.their,.bool x.j.due]:List Value).set i u=[ptr A.c,.bool j.own,.bool j.their,.bool j.due]):Core (w.setCell ⟨A.j,13+i,none⟩ u) A { x with j:=j } vt:=by
 obtain⟨n1,n2,n3,n4,n5,n6⟩:=h.ne;refine⟨h.st.far n3 _,h.cl.far n5 _,h.al.far n6 _,?_,h.tl,h.tk⟩;have:=h.ja.set (13+i) u;unfold qpp at this;rw[qil A x h.T',e] at this;exact this
theorem Core.clock {w':World} (h:Core w A x vt) (ho:Only (·=A.c) w w') {c:List Nat} (hc:ClockAt w' A.c c):Core w' A { x with c:=c } vt:=by
 obtain⟨n1,n2,n3,n4,n5,n6⟩:=h.ne;exact⟨h.st.only ho n1,hc,h.al.only ho (Ne.symm n4),h.ja.only ho (Ne.symm n5),h.tl,h.tk⟩
end
theorem qrj {A:Adr} {w w':World} (h:Only (·=A.c) w w'):Only (Own A) w w':=h.mono (fun k e=>Or.inr (Or.inl e))
theorem qbn {A:Adr} {w:World} (i:Nat) (u:Value):Only (Own A) w (w.setCell ⟨A.a,i,none⟩ u):=(Only.refl _ w).set (Or.inr (Or.inr (Or.inl rfl))) u
theorem qfw {A:Adr} {w:World} (i:Nat) (u:Value):Only (Own A) w (w.setCell ⟨A.j,i,none⟩ u):=(Only.refl _ w).set (Or.inr (Or.inr (Or.inr rfl))) u
theorem qaz {A:Adr} {w:World} (i:Nat) (u:Value):Only (Own A) w (w.setCell ⟨A.s,i,none⟩ u):=(Only.refl _ w).set (Or.inl rfl) u
def qc9 (A:Adr) (w:World) (x:Sig.Link) (vt:Value) (r:Value) (e:Ending) (w':World):Prop:=e=.returned r∧Core w' A x vt∧Only (Own A) w w'
theorem qak {A:Adr} {w w':World} {x:Sig.Link} {vt r:Value} {e:Ending} (h1:e=.returned r) (h2:Core w' A x vt) (h3:Only (Own A) w w'):qc9 A w x vt r e w':=⟨h1,h2,h3⟩
theorem qf9 {w:World} {A:Adr} {x:Sig.Link} {vt:Value} (h:Core w A x vt) (l:List Nat) (hl:∀i∈l,i<8) (hn:l.length≤8) {b:Nat} (hb:w.heap.size=b) {k:Nat} (hk:l.length=k) {cs:Array Value} (hcs:(qdg l).toArray=cs) :
  Calls Tryz.prog 97 #[.pointer (some ⟨A.c,0,none⟩),.slice (some ⟨b,0,none⟩) k k] (w.alloc (.cells cs 3)) (qc9 A w (x.stop l) vt (.tuple #[])):=by
 refine(qwy A.c x.c l w h.cl hl hn hb hk hcs).mono ?_;rintro e w' ⟨rfl,h1,h2⟩;exact⟨rfl,h.clock h2 h1,qrj h2⟩
theorem qcm {w:World} {A:Adr} {x:Sig.Link} {vt:Value} (h:Core w A x vt) (i:Nat) (hi:i<8) {n:Int} (hn:(i:Int)=n):Calls Tryz.prog 96 #[.pointer (some ⟨A.c,0,none⟩),.int .i64 n,.int .i64 (x.T i:Nat)] w (qc9 A w (x.start i) vt (.int .i64 0)):=by
 subst hn;refine(qk7 A.c x.c i (x.T i) w h.cl hi (h.tk i hi).1 (h.tk i hi).2).mono ?_;rintro e w' ⟨rfl,h1,h2⟩;exact⟨rfl,h.clock h2 h1,qrj h2⟩
theorem qdv {A:Adr} {x:Sig.Link} {vt:Value} {w:World} (h:Core w A x vt) :
  Calls Tryz.prog 131 #[.pointer (some ⟨A.a,0,none⟩)] w (qc9 A w x.near vt (.tuple #[])):=by
 have H:=am h;obtain⟨a13,a14,a15,a16,a17,a18,a19,g14,g15,g16,g17,g18,g19⟩:=h.fa;clear h;go_enter Tryz.func131,Tryz.ntmps131
 go_wp2_with fail
 refine(qf9 (H.out.setA 1 (.int .u8 2) { x.a with state:=2 } rfl) [0,2,4] (by decide) (by decide) (by simp only[qa0];first|done|rfl) rfl rfl).mono ?_;rintro e w1 ⟨rfl,h1,o1⟩;clear a13 a14 a15 a16 a17 a18 a19 g14 g15 g16 g17 g18 g19;obtain⟨a13,a14,a15,a16,a17,a18,a19,g14,g15,g16,g17,g18,g19⟩:=h1.fa;have t3:w1.cell? ⟨A.a,8,none⟩=some (.int .i64 (x.T 3:Nat)):=h1.aT 3 (by decide);have H1:=am h1;have O1:=am o1;clear h1 o1
 go_wp2_with fail
 go_still_tail 10,(by kernel_rfl);change wpList _ _ _ _ _ w1.drew
 go_wp2_with fail
 refine(qcm H1.out.drew 3 (by decide) rfl).mono ?_;rintro e w2 ⟨rfl,h2,o2⟩;go_wp2;go_end0;exact⟨rfl,h2,((qbn _ _).trans O1.out).trans ((Only.drew1 w1).trans o2)⟩
theorem qfj {A:Adr} {x:Sig.Link} {vt:Value} {w:World} (h:Core w A x vt) :
  Calls Tryz.prog 85 #[.pointer (some ⟨A.a,0,none⟩)] w (qc9 A w x.aEnd vt (.tuple #[])):=by
 have H:=am h;obtain⟨a13,a14,a15,a16,a17,a18,a19,g14,g15,g16,g17,g18,g19⟩:=h.fa;clear h;go_enter Tryz.func85,Tryz.ntmps85
 go_wp2_with fail
 refine(qf9 ((H.out.setA 1 (.int .u8 0) { x.a with state:=0 } rfl).setA 3 (.bool false) { x.a with state:=0,their:=false } rfl) [0,2,3,4] (by decide) (by decide) (by simp only[qa0];first|done|rfl) rfl rfl).mono ?_;rintro e w1 ⟨rfl,h1,o1⟩;clear a13 a14 a15 a16 a17 a18 a19 g14 g15 g16 g17 g18 g19;go_wp2;go_end0;exact⟨rfl,h1,((qbn _ _).trans (qbn _ _)).trans o1⟩
theorem qk1 {A:Adr} {x:Sig.Link} {vt:Value} {w:World} (h:Core w A x vt) :
  Calls Tryz.prog 84 #[.pointer (some ⟨A.a,0,none⟩)] w (qc9 A w x.aBegin vt (.tuple #[])):=by
 have H:=am h;obtain⟨a13,a14,a15,a16,a17,a18,a19,g14,g15,g16,g17,g18,g19⟩:=h.fa;clear h;go_enter Tryz.func84,Tryz.ntmps84
 go_wp2_with fail
 refine(qf9 (((((H.out.setA 1 (.int .u8 1) { x.a with state:=1 } rfl).setA 3 (.bool false) { x.a with state:=1,their:=false } rfl).setA 4 (.bool false) { x.a with state:=1,their:=false,p:=⟨false,x.a.p.n,x.a.p.tries⟩ } rfl).setA 5 (.int .i64 0) { x.a with state:=1,their:=false,p:=⟨false,0,x.a.p.tries⟩ } rfl).setA 6 (.int .i64 0) { x.a with state:=1,their:=false,p:=⟨false,0,0⟩ } rfl) [0,3,4] (by decide) (by decide) (by simp only[qa0];first|done|rfl) rfl rfl).mono ?_;rintro e w1 ⟨rfl,h1,o1⟩;clear a13 a14 a15 a16 a17 a18 a19 g14 g15 g16 g17 g18 g19;obtain⟨a13,a14,a15,a16,a17,a18,a19,g14,g15,g16,g17,g18,g19⟩:=h1.fa;have t2:w1.cell? ⟨A.a,7,none⟩=some (.int .i64 (x.T 2:Nat)):=h1.aT 2 (by decide);have H1:=am h1;have O1:=am o1;clear h1 o1
 go_wp2_with fail
 go_still_tail 10,(by kernel_rfl);change wpList _ _ _ _ _ w1.drew
 go_wp2_with fail
 refine(qcm H1.out.drew 2 (by decide) rfl).mono ?_;rintro e w2 ⟨rfl,h2,o2⟩;go_wp2;go_end0;exact⟨rfl,h2,((((((qbn _ _).trans (qbn _ _)).trans (qbn _ _)).trans (qbn _ _)).trans (qbn _ _)).trans O1.out).trans ((Only.drew1 w1).trans o2)⟩
theorem qan {A:Adr} {x:Sig.Link} {vt:Value} {w:World} (h:Core w A x vt) {b:Bool} (hb:x.hurry=b) :
  Calls Tryz.prog 89 #[.pointer (some ⟨A.a,0,none⟩)] w fun e w'=>e=.returned (.bool b)∧w'=w:=by
 obtain⟨a13,a14,a15,a16,a17,a18,a19,g14,g15,g16,g17,g18,g19⟩:=h.fa;have hu:x.hurry=(x.a.own||x.a.their):=rfl;rw[←hb,hu];clear hu hb;cases ho:x.a.own
 all_goals
  rw[ho] at a15;go_enter Tryz.func89,Tryz.ntmps89;go_wp2;go_ret;exact⟨by simp,rfl⟩
theorem qci {A:Adr} {x:Sig.Link} {vt:Value} {w:World} (h:Core w A x vt) :
  Calls Tryz.prog 90 #[.pointer (some ⟨A.a,0,none⟩)] w (qc9 A w x.prove vt (.tuple #[])):=by
 have H:=am h;obtain⟨a13,a14,a15,a16,a17,a18,a19,g14,g15,g16,g17,g18,g19⟩:=h.fa;obtain⟨b,hb⟩:∃b,x.hurry=b:=⟨_,rfl⟩;have HB:=am hb;clear h hb;go_enter Tryz.func90,Tryz.ntmps90
 go_wp2_with fail
 have h1:=H.out.setA 1 (.int .u8 3) { x.a with state:=3 } rfl;have o1:=qbn (A:=A) (w:=w) 14 (.int .u8 3);generalize (w.setCell ⟨A.a,14,none⟩ (.int .u8 3))=w1 at h1 o1 ⊢;clear a13 a14 a15 a16 a17 a18 a19 g14 g15 g16 g17 g18 g19;obtain⟨a13,a14,a15,a16,a17,a18,a19,g14,g15,g16,g17,g18,g19⟩:=h1.fa;have H1:=am h1;have O1:=am o1;clear h1 o1;go_still_tail 11,(by kernel_rfl)
 still_call (qan H1.out.drew HB.out)
 repeat still_step
 refine wpStill_nil ?_;change wpList _ _ _ _ _ w1.drew
 go_wp2_with fail
 refine(qf9 (((H1.out.drew.setA 4 (.bool b) { x.a with state:=3,p:=⟨b,x.a.p.n,x.a.p.tries⟩ } rfl).setA 5 (.int .i64 0) { x.a with state:=3,p:=⟨b,0,x.a.p.tries⟩ } rfl).setA 6 (.int .i64 x.a.p.tries) { x.a with state:=3,p:=⟨b,0,x.a.p.tries⟩ } rfl) [0,2,3,4] (by decide) (by decide) (by simp only[qa0];first|done|rfl) rfl rfl).mono ?_;rintro e w2 ⟨rfl,h2,o2⟩;clear a13 a14 a15 a16 a17 a18 a19 g14 g15 g16 g17 g18 g19;have O2:=am (((O1.out.trans (Only.drew1 _)).trans (((qbn 17 (.bool b)).trans (qbn 18 (.int .i64 0))).trans (qbn 19 (.int .i64 x.a.p.tries)))).trans o2);have H2:=am h2;clear h2 o2
 go_wp2_with fail
 refine(qan H2.out HB.out).mono ?_;rintro e w3 ⟨rfl,rfl⟩;have hp:x.prove=if x.hurry=true then Sig.Link.start (Sig.Link.stop { x with a:={ x.a with state:=3,p:=⟨x.hurry,0,x.a.p.tries⟩ } } [0,2,3,4]) 0 else Sig.Link.start (Sig.Link.stop { x with a:={ x.a with state:=3,p:=⟨x.hurry,0,x.a.p.tries⟩ } } [0,2,3,4]) 4:=rfl;rw[HB.out] at hp;have HP:=am hp;clear hp;have h3:=H2.out;obtain⟨a13,a14,a15,a16,a17,a18,a19,g14,g15,g16,g17,g18,g19⟩:=h3.fa;have t0:w3.cell? ⟨A.a,5,none⟩=some (.int .i64 (x.T 0:Nat)):=h3.aT 0 (by decide);have t4:w3.cell? ⟨A.a,9,none⟩=some (.int .i64 (x.T 4:Nat)):=h3.aT 4 (by decide);clear h3;cases b
 case false =>
  go_wp2_with fail
  go_still_tail 10,(by kernel_rfl);change wpList _ _ _ _ _ w3.drew
  go_wp2_with fail
  refine(qcm H2.out.drew 4 (by decide) rfl).mono ?_;rintro e w4 ⟨rfl,h4,o4⟩;have h5:Core w4 A x.prove vt:=by rw[HP.out];exact h4
  have o5:=O2.out.trans ((Only.drew1 w3).trans o4);clear h4 o4;go_wp2;go_end0;exact qak rfl h5 o5
 case true =>
  go_wp2_with fail
  go_still_tail 10,(by kernel_rfl);change wpList _ _ _ _ _ w3.drew
  go_wp2_with fail
  refine(qcm H2.out.drew 0 (by decide) rfl).mono ?_;rintro e w4 ⟨rfl,h4,o4⟩;have h5:Core w4 A x.prove vt:=by rw[HP.out];exact h4
  have o5:=O2.out.trans ((Only.drew1 w3).trans o4);clear h4 o4;go_wp2;go_end0;exact qak rfl h5 o5
theorem qfu {A:Adr} {x:Sig.Link} {vt:Value} {w:World} (h:Core w A x vt) (on:Bool) :
  Calls Tryz.prog 62 #[.pointer (some ⟨A.a,0,none⟩),.bool on] w (qc9 A w (x.aHurry on) vt (.tuple #[])):=by
 have H:=am h;obtain⟨a13,a14,a15,a16,a17,a18,a19,g14,g15,g16,g17,g18,g19⟩:=h.fa;obtain⟨b,hb⟩:∃b,x.hurry=b:=⟨_,rfl⟩;have HB:=am hb;clear h hb;have hp:x.aHurry on=if x.a.state=3∧x.hurry=false∧on=true then Sig.Link.prove { x with a:={ x.a with own:=on } } else { x with a:={ x.a with own:=on } }:=rfl;rw[HB.out] at hp;have HP:=am hp;clear hp;by_cases hs:x.a.state=3
 ·have e1:=b_t x.a.state 3 (by omega);cases b
  ·cases on
   ·go_enter Tryz.func62,Tryz.ntmps62
    go_wp2_with fail
    refine(qan H.out HB.out).mono ?_;rintro e w1 ⟨rfl,hw⟩;obtain rfl:=hw.symm;go_wp2;go_end0;exact qak rfl (by rw[HP.out,if_neg (by simp[hs])];exact H.out.setA 2 (.bool _) { x.a with own:=_ } rfl) (qbn _ _)
   ·go_enter Tryz.func62,Tryz.ntmps62
    go_wp2_with fail
    refine(qan H.out HB.out).mono ?_;rintro e w1 ⟨rfl,hw⟩;obtain rfl:=hw.symm
    go_wp2_with fail
    refine(qci (H.out.setA 2 (.bool true) { x.a with own:=true } rfl)).mono ?_;rintro e w2 ⟨rfl,h2,o2⟩;go_wp2;go_end0;exact qak rfl (by rw[HP.out,if_pos (by simp[hs])];exact h2) ((qbn _ _).trans o2)
  ·go_enter Tryz.func62,Tryz.ntmps62
   go_wp2_with fail
   refine(qan H.out HB.out).mono ?_;rintro e w1 ⟨rfl,hw⟩;obtain rfl:=hw.symm;go_wp2;go_end0;exact qak rfl (by rw[HP.out,if_neg (by simp[hs])];exact H.out.setA 2 (.bool _) { x.a with own:=_ } rfl) (qbn _ _)
 ·have e1:=b_f x.a.state 3 (by omega);go_enter Tryz.func62,Tryz.ntmps62
  go_wp2_with fail
  refine(qan H.out HB.out).mono ?_;rintro e w1 ⟨rfl,hw⟩;obtain rfl:=hw.symm;go_wp2;go_end0;exact qak rfl (by rw[HP.out,if_neg (by simp[hs])];exact H.out.setA 2 (.bool _) { x.a with own:=_ } rfl) (qbn _ _)
theorem qfi {A:Adr} {x:Sig.Link} {vt:Value} {w:World} (h:Core w A x vt) (i:Nat) :
  Calls Tryz.prog 98 #[.pointer (some ⟨A.a,0,none⟩),.int .i64 i] w (qc9 A w (x.aOut i).1 vt (.tuple #[.bool (x.aOut i).2.1,.int .u8 (x.aOut i).2.2])):=by
 have H:=am h;obtain⟨a13,a14,a15,a16,a17,a18,a19,g14,g15,g16,g17,g18,g19⟩:=h.fa;clear h;by_cases hi:i=2
 ·by_cases hs:x.a.state=1
  ·skip;have hp:x.aOut i=(x,false,7):=by simp[Sig.Link.aOut,hi,hs]
   rw[hp];clear hp;have e2:=b_t i 2 (by omega);have e3:=b_f i 3 (by omega);have e4:=b_f i 4 (by omega);have e0:=b_f i 0 (by omega);have s1:=b_t x.a.state 1 (by omega);go_enter Tryz.func98,Tryz.ntmps98
   go_wp2_with fail
   go_ret2;exact qak rfl H.out (Only.refl _ _)
  ·skip;have hp:x.aOut i=(x,false,0):=by simp[Sig.Link.aOut,hi,hs]
   rw[hp];clear hp;have e2:=b_t i 2 (by omega);have e3:=b_f i 3 (by omega);have e4:=b_f i 4 (by omega);have e0:=b_f i 0 (by omega);have s1:=b_f x.a.state 1 (by omega);go_enter Tryz.func98,Tryz.ntmps98
   go_wp2_with fail
   go_ret2;exact qak rfl H.out (Only.refl _ _)
 ·by_cases hj:i=3
  ·by_cases hs:x.a.state=2
   ·skip;have hp:x.aOut i=(x,false,7):=by simp[Sig.Link.aOut,hj,hs]
    rw[hp];clear hp;have e2:=b_f i 2 (by omega);have e3:=b_t i 3 (by omega);have e4:=b_f i 4 (by omega);have e0:=b_f i 0 (by omega);have s2:=b_t x.a.state 2 (by omega);go_enter Tryz.func98,Tryz.ntmps98
    go_wp2_with fail
    go_ret2;exact qak rfl H.out (Only.refl _ _)
   ·skip;have hp:x.aOut i=(x,false,0):=by simp[Sig.Link.aOut,hj,hs]
    rw[hp];clear hp;have e2:=b_f i 2 (by omega);have e3:=b_t i 3 (by omega);have e4:=b_f i 4 (by omega);have e0:=b_f i 0 (by omega);have s2:=b_f x.a.state 2 (by omega);go_enter Tryz.func98,Tryz.ntmps98
    go_wp2_with fail
    go_ret2;exact qak rfl H.out (Only.refl _ _)
  ·by_cases hk:i=4
   ·by_cases hs:x.a.state=3
    ·skip;have hp:x.aOut i=(x.aEnd,true,0):=by simp[Sig.Link.aOut,hk,hs]
     rw[hp];clear hp;have e2:=b_f i 2 (by omega);have e3:=b_f i 3 (by omega);have e4:=b_t i 4 (by omega);have e0:=b_f i 0 (by omega);have s3:=b_t x.a.state 3 (by omega);go_enter Tryz.func98,Tryz.ntmps98
     go_wp2_with fail
     refine(qfj H.out).mono ?_;rintro e w1 ⟨rfl,h1,o1⟩;go_wp2;go_ret2;exact qak rfl h1 o1
    ·skip;have hp:x.aOut i=(x,false,0):=by simp[Sig.Link.aOut,hk,hs]
     rw[hp];clear hp;have e2:=b_f i 2 (by omega);have e3:=b_f i 3 (by omega);have e4:=b_t i 4 (by omega);have e0:=b_f i 0 (by omega);have s3:=b_f x.a.state 3 (by omega);go_enter Tryz.func98,Tryz.ntmps98
     go_wp2_with fail
     go_ret2;exact qak rfl H.out (Only.refl _ _)
   ·by_cases hl:i=0
    ·by_cases hs:x.a.state=3
     ·skip;have hp:x.aOut i=(x.aEnd,true,0):=by simp[Sig.Link.aOut,hl,hs]
      rw[hp];clear hp;have e2:=b_f i 2 (by omega);have e3:=b_f i 3 (by omega);have e4:=b_f i 4 (by omega);have e0:=b_t i 0 (by omega);have s3:=b_t x.a.state 3 (by omega);go_enter Tryz.func98,Tryz.ntmps98
      go_wp2_with fail
      refine(qfj H.out).mono ?_;rintro e w1 ⟨rfl,h1,o1⟩;go_wp2;go_ret2;exact qak rfl h1 o1
     ·skip;have hp:x.aOut i=(x,false,0):=by simp[Sig.Link.aOut,hl,hs]
      rw[hp];clear hp;have e2:=b_f i 2 (by omega);have e3:=b_f i 3 (by omega);have e4:=b_f i 4 (by omega);have e0:=b_t i 0 (by omega);have s3:=b_f x.a.state 3 (by omega);go_enter Tryz.func98,Tryz.ntmps98
      go_wp2_with fail
      go_ret2;exact qak rfl H.out (Only.refl _ _)
    ·skip;have hp:x.aOut i=(x,false,0):=by simp[Sig.Link.aOut,hi,hj,hk,hl]
     rw[hp];clear hp;have e2:=b_f i 2 (by omega);have e3:=b_f i 3 (by omega);have e4:=b_f i 4 (by omega);have e0:=b_f i 0 (by omega);go_enter Tryz.func98,Tryz.ntmps98
     go_wp2_with fail
     go_ret2;exact qak rfl H.out (Only.refl _ _)
theorem qgc {A:Adr} {x:Sig.Link} {vt:Value} {w:World} (h:Core w A x vt) :
  Calls Tryz.prog 109 #[.pointer (some ⟨A.a,0,none⟩)] w fun e w'=>e=.returned (.int .u8 x.sends)∧w'=w:=by
 obtain⟨a13,a14,a15,a16,a17,a18,a19,g14,g15,g16,g17,g18,g19⟩:=h.fa;clear h;by_cases h0:x.a.state=0
 ·skip;have hp:x.sends=3:=by simp[Sig.Link.sends,h0]
  rw[hp];clear hp;have s0:=b_t x.a.state 0 (by omega);go_enter Tryz.func109,Tryz.ntmps109;go_wp2;go_ret;exact⟨rfl,rfl⟩
 ·by_cases h1:x.a.state=1
  ·skip;have hp:x.sends=0:=by simp[Sig.Link.sends,h0,h1]
   rw[hp];clear hp;have s0:=b_f x.a.state 0 (by omega);have s1:=b_t x.a.state 1 (by omega);go_enter Tryz.func109,Tryz.ntmps109;go_wp2;go_ret;exact⟨rfl,rfl⟩
  ·cases ho:x.a.own
   all_goals rw[ho] at a15
   ·skip;have hp:x.sends=1:=by simp[Sig.Link.sends,h0,h1,ho]
    rw[hp];clear hp;have s0:=b_f x.a.state 0 (by omega);have s1:=b_f x.a.state 1 (by omega);go_enter Tryz.func109,Tryz.ntmps109;go_wp2;go_ret;exact⟨rfl,rfl⟩
   ·skip;have hp:x.sends=2:=by simp[Sig.Link.sends,h0,h1,ho]
    rw[hp];clear hp;have s0:=b_f x.a.state 0 (by omega);have s1:=b_f x.a.state 1 (by omega);go_enter Tryz.func109,Tryz.ntmps109;go_wp2;go_ret;exact⟨rfl,rfl⟩
section
variable {P:Program} {md:Region.Mode} {ops:Array Oper} {Q:Exit→Act→World→Prop} {S:World→Prop} {ds:List Nat}
variable {oi:Oper} {v:Value} {fuel:Nat} {l l':Array Bool} {a a':Act} {w:World}
theorem pu (i n:Nat) (h:qal P md ops Q S ds fuel l' a' w) (hi:ops[i]?=some oi:=by rfl) (hN:oi.dst=some n:=by rfl) (hl:l.setIfInBounds i true=l':=by simp only[List.setIfInBounds_toArray,List.set_cons_zero,List.set_cons_succ];rfl)
  (hc:qwu md ops l l' i=true:=by kernel_rfl) (hQ:∀c a w,Q (.panic c) (a.put oi.dst v) w→Q (.panic c) a w:=by exact fun _ _ _ h=>h) (hw:Region.wanted oi (yielded ops a.tmps)=true:=by rfl)
  (hy:∀w',(execOp a.eval oi).run P w'=.ok (.value v) w':=by intro w';go_simp;with_reducible rfl)
  (ha:a.put (some n) v=a':=by simp only[Act.put,List.setIfInBounds_toArray,List.set_cons_zero,List.set_cons_succ,qed,qet];rfl) :
  qal P md ops Q S ds (fuel+1) l a w:=qrf l' hi hN hc hQ (.inl ⟨hw,hy⟩) ha h
theorem tk (i n:Nat) (hS:S w) (h:qal P md ops Q S ds fuel l' a' w) (hi:ops[i]?=some oi:=by rfl) (hN:oi.dst=some n:=by rfl) (hl:l.setIfInBounds i true=l':=by simp only[List.setIfInBounds_toArray,List.set_cons_zero,List.set_cons_succ];rfl)
  (hc:qs5 md ops ds l l' i=true:=by kernel_rfl) (hQ:∀c a w,Q (.panic c) (a.put oi.dst v) w→Q (.panic c) a w:=by exact fun _ _ _ h=>h) (hw:Region.wanted oi (yielded ops a.tmps)=true:=by rfl)
  (hy:∀w',S w'→(execOp a.eval oi).run P w'=.ok (.value v) w':=by intro w' hS;(first|obtain⟨s1,s2,s3,s4,s5,s6,s7,s8,s9,s10,s11,s12,s13,s14,s15⟩:=hS|obtain⟨s1,s2,s3,s4,s5,s6,s7,s8,s9,s10,s11,s12,s13⟩:=hS|obtain⟨s1,s2,s3,s4,s5,s6,s7,s8,s9⟩:=hS|obtain⟨s1,s2,s3,s4,s5,s6,s7,s8⟩:=hS|obtain⟨s1,s2,s3,s4,s5,s6,s7⟩:=hS|obtain⟨s1,s2,s3,s4,s5,s6⟩:=hS|obtain⟨s1,s2,s3,s4,s5⟩:=hS|obtain⟨s1,s2,s3,s4⟩:=hS|obtain⟨s1,s2,s3⟩:=hS|obtain⟨s1,s2⟩:=hS|skip);go_simp;with_reducible rfl)
  (ha:a.put (some n) v=a':=by simp only[Act.put,List.setIfInBounds_toArray,List.set_cons_zero,List.set_cons_succ,qed,qet];rfl) :
  qal P md ops Q S ds (fuel+1) l a w:=take_ l' hi hN hc hQ (.inl ⟨hw,hy⟩) hS ha h
theorem pf (i n:Nat) (h:qal P md ops Q S ds fuel l' a' w) (hi:ops[i]?=some oi:=by rfl) (hN:oi.dst=some n:=by rfl) (hl:l.setIfInBounds i true=l':=by simp only[List.setIfInBounds_toArray,List.set_cons_zero,List.set_cons_succ];rfl)
  (hc:qwu md ops l l' i=true:=by kernel_rfl) (hQ:∀c a w,Q (.panic c) (a.put oi.dst undef) w→Q (.panic c) a w:=by exact fun _ _ _ h=>h) (hw:Region.wanted oi (yielded ops a.tmps)=false:=by rfl)
  (ha:a.put (some n) undef=a':=by simp only[Act.put,List.setIfInBounds_toArray,List.set_cons_zero,List.set_cons_succ,qed,qet];rfl) :
  qal P md ops Q S ds (fuel+1) l a w:=qrf l' hi hN hc hQ (.inr ⟨hw,rfl⟩) ha h
theorem nm (n:Nat) (h:qal P md ops Q S ds fuel l a' w) (ha:a.put (some n) v=a':=by simp only[Act.put,List.setIfInBounds_toArray,List.set_cons_zero,List.set_cons_succ,qed,qet];rfl):qal P md ops Q S ds fuel l (a.put (some n) v) w:=qw2 ha h
theorem sr {id:Nat} (n:Nat) (S:World→Prop) (ds:List Nat) (hS:S w.drew) (h:S w.drew→qal P .any ops Q S ds n l a w.drew) (hm:P.follows .mixedOrders=true:=by kernel_rfl) (hn:ops.size=n:=by rfl) (hl:(List.replicate n false).toArray=l:=by simp only[List.replicate];rfl):(Code.region id ops true).wp P Q a w:=qou l hm hn (by rw[←hl];simp) hS h
variable {N:Option Tmp} {w1:World} {K0:Act→World→Prop}
theorem on_ (i n:Nat) (h:∀K:Act→World→Prop,Shut (∀a' w',S w'→(S w'→qal P md ops Q S ds fuel l' a' w')→K a' w')→if Region.wanted oi (yielded ops a.tmps)=true then Oper.wp P oi a w K Q else K (a.put (some n) undef) w) (hi:ops[i]?=some oi:=by rfl) (hN:oi.dst=some n:=by rfl) (hl:l.setIfInBounds i true=l':=by simp only[List.setIfInBounds_toArray,List.set_cons_zero,List.set_cons_succ];rfl) (hc:qfn md ops l l' i=true:=by kernel_rfl) (hd:i∉ds:=by decide):qal P md ops Q S ds (fuel+1) l a w:=one_ l' hi hN hc hd h
theorem onN (i:Nat) (h:∀K:Act→World→Prop,Shut (∀a' w',S w'→(S w'→qal P md ops Q S ds fuel l' a' w')→K a' w')→if Region.wanted oi (yielded ops a.tmps)=true then Oper.wp P oi a w K Q else K (a.put none undef) w) (hi:ops[i]?=some oi:=by rfl) (hN:oi.dst=none:=by rfl) (hl:l.setIfInBounds i true=l':=by simp only[List.setIfInBounds_toArray,List.set_cons_zero,List.set_cons_succ];rfl) (hc:qfn md ops l l' i=true:=by kernel_rfl) (hd:i∉ds:=by decide):qal P md ops Q S ds (fuel+1) l a w:=one_ l' hi hN hc hd h
theorem la_ (i n:Nat) (h:∀K:Act→World→Prop,Shut (∀a' w',qal P md ops Q S ds fuel l' a' w'→K a' w')→if Region.wanted oi (yielded ops a.tmps)=true then Oper.wp P oi a w K Q else K (a.put (some n) undef) w) (hi:ops[i]?=some oi:=by rfl) (hN:oi.dst=some n:=by rfl) (hl:l.setIfInBounds i true=l':=by simp only[List.setIfInBounds_toArray,List.set_cons_zero,List.set_cons_succ];rfl) (hc:qfn md ops l l' i=true:=by kernel_rfl) (hd:i∈ds:=by decide):qal P md ops Q S ds (fuel+1) l a w:=qvq l' hi hN hc hd h
theorem laN (i:Nat) (h:∀K:Act→World→Prop,Shut (∀a' w',qal P md ops Q S ds fuel l' a' w'→K a' w')→if Region.wanted oi (yielded ops a.tmps)=true then Oper.wp P oi a w K Q else K (a.put none undef) w) (hi:ops[i]?=some oi:=by rfl) (hN:oi.dst=none:=by rfl) (hl:l.setIfInBounds i true=l':=by simp only[List.setIfInBounds_toArray,List.set_cons_zero,List.set_cons_succ];rfl) (hc:qfn md ops l l' i=true:=by kernel_rfl) (hd:i∈ds:=by decide):qal P md ops Q S ds (fuel+1) l a w:=qvq l' hi hN hc hd h
theorem sk (h:K0 a w1) (hw:Region.wanted oi (yielded ops a.tmps)=true:=by rfl) (hN:oi.dst=none:=by rfl) (hrun:(execOp a.eval oi).run P w=.ok .skip w1:=by go_simp;with_reducible rfl):if Region.wanted oi (yielded ops a.tmps)=true then Oper.wp P oi a w K0 Q else K0 (a.put none undef) w:=qwz hw hN hrun h
theorem gs {f:FuncId} {fn:Func} {oa:Array Operand} {ts:Array TypeId} (hf:P.funcs[f]?=some fn) (args:Array Value) (h:Calls P f args w fun e w'=>∃v,e=.returned v∧K0 (a.put N v) w') (hname:(fn.name=="runtime.NumGoroutine")=false:=by kernel_rfl) (hb:fn.body.isSome=true:=by rfl) (hw:Region.wanted oi (yielded ops a.tmps)=true:=by rfl) (hN:oi.dst=N:=by rfl) (hop:oi.op=.call { callee:=.value (.func f),args:=oa,argTypes:=ts }:=by rfl) (hargs:oa.map a.eval=args:=by(try simp only[List.map_toArray,List.map_cons,List.map_nil]);first|done|rfl):if Region.wanted oi (yielded ops a.tmps)=true then Oper.wp P oi a w K0 Q else K0 (a.put N undef) w:=qxb hf hname hb args hw hN hop hargs h
end
theorem hIs (a b c r:Bool) (w:World) (hr:(a||b||c)=r):Calls Tryz.prog 94 #[.agg #[.bool a,.bool b,.bool c]] w fun e w'=>e=.returned (.bool r)∧Below w.heap.size w w':=by
 subst hr;cases a <;> cases b <;> cases c <;> (go_enter Tryz.func94,Tryz.ntmps94;go_wp2;go_ret;exact⟨rfl,qaa (Below.refl _ _) _⟩)
theorem qua (a b c d r s:Bool) (w:World) (hr:(c||d)=r) (hs:(b != d)=s):Calls Tryz.prog 132 #[.agg #[.bool a,.bool b,.bool c],.bool d] w fun e w'=>e=.returned (.tuple #[.agg #[.bool a,.bool d,.bool r],.bool s])∧Below w.heap.size w w':=by
 subst hr;subst hs;cases a <;> cases b <;> cases c <;> cases d <;> (go_enter Tryz.func132,Tryz.ntmps132;go_wp2;refine bodyPost_ret (by simp[results,Tryz.results132,go_sem]) rfl ⟨rfl,qaa (qaa (Below.refl _ _) _) _⟩)
theorem qp7 (a b c:Bool) (v:Value) (r:Bool) (w:World) (hv:.agg #[.bool a,.bool b,.bool (c&&(a||b))]=v) (hr:(!(a||b))=r):Calls Tryz.prog 66 #[.agg #[.bool a,.bool b,.bool c]] w fun e w'=>e=.returned (.tuple #[v,.bool r])∧Below w.heap.size w w':=by
 subst hv;subst hr;cases a <;> cases b <;> cases c <;> (go_enter Tryz.func66,Tryz.ntmps66;go_wp2;refine bodyPost_ret (by simp[results,Tryz.results66,go_sem]) rfl ⟨rfl,qaa (qaa (Below.refl _ _) _) _⟩)
theorem gen2 {P:Program} {c:Code} {Q:Exit→Act→World→Prop} {a:Act} {w:World} {t:Nat} {xs ys:List Value} (h:∀W,Below w.heap.size w W→Blk W w.heap.size t xs→Blk W (w.heap.size+1) t ys→Code.wp P c Q a W):Code.wp P c Q a ((w.alloc (.cells xs.toArray t)).alloc (.cells ys.toArray t)):=by
 refine h _ (qaa (qaa (Below.refl _ _) _) _) ?_ ?_
 ·exact(qaa (Below.refl _ _) _:Below (w.alloc (.cells xs.toArray t)).heap.size _ _).block _ (by simp[World.alloc_eq]) |>.trans (heap_alloc_new w _)
 ·have e:(w.alloc (.cells xs.toArray t)).heap.size=w.heap.size+1:=by simp[World.alloc_eq]
  rw[←e];exact heap_alloc_new _ _
theorem qu9 {P:Program} {ops:Array Oper} {Q:Exit→Act→World→Prop} {ds:List Nat} {id n:Nat} {a:Act} {w:World} {p q:Addr} {x y:Value} (l:Array Bool) (hm:P.follows .mixedOrders=true) (hn:ops.size=n) (hl:Array.replicate n false=l) (h0:w.cell? p=some x) (h1:w.cell? q=some y)
  (h:∀hY:w.drew.cell? p=some x∧w.drew.cell? q=some y,qal P .any ops Q (fun W=>W.cell? p=some x∧W.cell? q=some y) ds n l a w.drew):(Code.region id ops true).wp P Q a w:=qou (S:=fun W=>W.cell? p=some x∧W.cell? q=some y) l hm hn hl ⟨h0,h1⟩ h
theorem qxg {W:World} {a:Addr} {x u v:Value} {g i j:Nat} (h:W.cell? a=some x) (ha:a.block≠g):((W.setCell ⟨g,i,none⟩ u).setCell ⟨g,j,none⟩ v).cell? a=some x:=by
 rw[qjf ha,qjf ha];exact h
theorem qw9 (n s:Nat) (b:Bool) (hn:n≤1000) (hs:s≤1000) (w:World):Calls Tryz.prog 120 #[.agg #[.int .i64 (n:Nat),.int .i64 (s:Nat)],.bool b] w fun e w'=>e=.returned (.tuple #[.agg #[.int .i64 (((Sig.Leak.unit ⟨n,s⟩ b).1.n:Nat):Int),.int .i64 (((Sig.Leak.unit ⟨n,s⟩ b).1.seen:Nat):Int)],.bool (Sig.Leak.unit ⟨n,s⟩ b).2])∧Below w.heap.size w w':=by
 have e1:wrap64 ((s:Int)+1)=((s+1:Nat):Int):=by unfold wrap64;omega
 have e2:wrap64 ((n:Int)+1)=((n+1:Nat):Int):=by unfold wrap64;omega
 go_enter Tryz.func120,Tryz.ntmps120;go_wp2
 all_goals
  refine gen2 (fun W hb hx hz=>?_);have c0:=hx.c 0 rfl;have c1:=hx.c 1 rfl;have d0:=hz.c 0 rfl;have d1:=hz.c 1 rfl;have zf:=hz.f;refine qu9 (ds:=[]) #[false,false,false,false,false,false] (by kernel_rfl) rfl rfl c0 c1 (fun hY=>?_);refine pu 1 31 ?_;refine tk 2 32 hY ?_;refine pu 3 33 ?_;refine tk 0 30 hY ?_;refine onN 4 (fun K hK=>?_);refine sk ?_;refine hK.out _ _ ⟨qxg hY.1 (by simp),qxg hY.2 (by simp)⟩ (fun hY=>?_);clear hK K;refine pu 5 5 ?_;refine qav (by kernel_rfl) ?_;go_wp2;refine bodyPost_ret (qne rfl _ _ (w.heap.size+1) 51 _ (0,0) _ rfl ((hz.set 0 _).set 1 _) Tryz.underlying51 rfl (by kernel_rfl)) rfl ⟨?_,qbh (qbh (qaf hb) (by simp)) (by simp)⟩;clear c0 c1 d0 d1 zf hb hx hz;simp only[beq_iff_eq,beq_eq_false_iff_ne,ne_eq] at *;simp only[Sig.Leak.unit];cases b <;> simp_all
 all_goals (by_cases hq:255≤s <;> by_cases hn0:n=0 <;> simp[hq,hn0] <;> omega)
theorem qvz (n t:Int) (w:World):Calls Tryz.prog 134 #[.agg #[.bool true,.int .i64 n,.int .i64 t]] w fun e w'=>e=.returned (.int .i64 1)∧Below w.heap.size w w':=by
 go_enter Tryz.func134,Tryz.ntmps134;go_wp2;go_ret;exact⟨rfl,qaa (Below.refl _ _) _⟩
theorem qv0 (n t:Int) (w:World):Calls Tryz.prog 134 #[.agg #[.bool false,.int .i64 n,.int .i64 t]] w fun e w'=>e=.returned (.int .i64 4)∧Below w.heap.size w w':=by
 go_enter Tryz.func134,Tryz.ntmps134;go_wp2;go_ret;exact⟨rfl,qaa (Below.refl _ _) _⟩
theorem qsk {P:Program} {ops:Array Oper} {Q:Exit→Act→World→Prop} {ds:List Nat} {id n:Nat} {a:Act} {w:World} {p q r:Addr} {x y z:Value} (l:Array Bool) (hm:P.follows .mixedOrders=true) (hn:ops.size=n) (hl:Array.replicate n false=l) (h0:w.cell? p=some x) (h1:w.cell? q=some y) (h2:w.cell? r=some z)
  (h:∀hY:w.drew.cell? p=some x∧w.drew.cell? q=some y∧w.drew.cell? r=some z,qal P .any ops Q (fun W=>W.cell? p=some x∧W.cell? q=some y∧W.cell? r=some z) ds n l a w.drew):(Code.region id ops true).wp P Q a w:=qou (S:=fun W=>W.cell? p=some x∧W.cell? q=some y∧W.cell? r=some z) l hm hn hl ⟨h0,h1,h2⟩ h
theorem qxf {W:World} {a:Addr} {x u v s:Value} {g i j k:Nat} (h:W.cell? a=some x) (ha:a.block≠g):(((W.setCell ⟨g,i,none⟩ u).setCell ⟨g,j,none⟩ v).setCell ⟨g,k,none⟩ s).cell? a=some x:=(qjf ha _).trans (qxg h ha)
theorem qvy (p:Sig.Proof) (wrong:Bool) (w:World) (hn:p.n≤1000) (ht:p.tries≤1000):Calls Tryz.prog 130 #[.agg #[.bool p.hurry,.int .i64 p.n,.int .i64 p.tries],.bool wrong] w fun e w'=>e=.returned (.tuple #[.agg #[.bool (p.unit wrong).1.hurry,.int .i64 (p.unit wrong).1.n,.int .i64 (p.unit wrong).1.tries],.bool (p.unit wrong).2.1,.bool (p.unit wrong).2.2])∧Below w.heap.size w w':=by
 obtain⟨hu,n,t⟩:=p;simp only at hn ht ⊢;have e1:wrap64 ((n:Int)+1)=((n+1:Nat):Int):=by unfold wrap64;omega
 have e2:wrap64 ((t:Int)+1)=((t+1:Nat):Int):=by unfold wrap64;omega
 go_enter Tryz.func130,Tryz.ntmps130;cases wrong <;> cases hu
 all_goals
  go_wp2;refine gen2 (fun W hb hx hz=>?_);refine qsk (ds:=[]) #[false,false,false,false,false] (by kernel_rfl) rfl rfl (hx.c 0 rfl) (hx.c 1 rfl) (hx.c 2 rfl) (fun hY=>?_);refine pu 0 12 ?_;refine tk 1 13 hY ?_;refine tk 2 14 hY ?_;refine on_ 3 15 (fun K hK=>?_);refine gs Tryz.func134 #[.agg #[.bool _,.int .i64 _,.int .i64 (t:Int)]] ?_
  first|with_reducible refine(qvz _ _ _).mono ?_|with_reducible refine(qv0 _ _ _).mono ?_
  rintro e w3 ⟨rfl,hb3⟩;refine⟨_,rfl,?_⟩;refine hK.out _ _ ⟨qae hb3 hY.1,qae hb3 hY.2.1,qae hb3 hY.2.2⟩ (fun hY=>?_);clear hK K;refine nm 15 ?_;refine pu 4 16 ?_;refine qav (by kernel_rfl) ?_;have hx3:Blk w3 _ _ _:=(hb3.block _ (Array.getElem?_eq_some_iff.1 hx).1).trans hx;have hz3:Blk w3 _ _ _:=(hb3.block _ (Array.getElem?_eq_some_iff.1 hz).1).trans hz;have hb4:Below w.heap.size w w3:=(qaf hb).trans (hb3.mono (qaf hb).size);clear hb hx hz hb3 hY;have c0:=hx3.c 0 rfl;have c1:=hx3.c 1 rfl;have c2:=hx3.c 2 rfl;have d0:=hz3.c 0 rfl;have d1:=hz3.c 1 rfl;have d2:=hz3.c 2 rfl;have zf:=hz3.f;have xf:=hx3.f;go_wp2
  all_goals first
  |(refine bodyPost_ret (qgd rfl _ _ (w.heap.size+1) 60 _ (0,0) _ rfl (((hz3.set 0 _).set 1 _).set 2 _) Tryz.underlying60 rfl (by kernel_rfl)) rfl ⟨?_,qbh (qbh (qbh hb4 (by simp)) (by simp)) (by simp)⟩;clear c0 c1 c2 d0 d1 d2 zf xf hx3 hz3 hb4;clear hY;simp only[Sig.Proof.unit,Sig.Proof.most];(repeat' split) <;> simp_all <;> omega)
  |skip
  all_goals
   have hx4:=(hx3.set 1 (.int .i64 0)).set 2 (.int .i64 (t+1));have hz4:=(hz3.far (p:=⟨w.heap.size,1,none⟩) (by simp) (.int .i64 0)).far (p:=⟨w.heap.size,2,none⟩) (by simp) (.int .i64 (t+1));have hb5:=qbh (j:=2) (v:=.int .i64 (t+1)) (qbh (j:=1) (v:=.int .i64 0) hb4 (Nat.le_refl _)) (Nat.le_refl _);clear c0 c1 c2 d0 d1 d2 zf xf hx3 hz3 hb4 hY;generalize (w3.setCell ⟨w.heap.size,1,none⟩ (.int .i64 0)).setCell ⟨w.heap.size,2,none⟩ (.int .i64 (t+1))=w5 at *;have d0:=hz4.c 0 rfl;have d1:=hz4.c 1 rfl;have d2:=hz4.c 2 rfl;have zf:=hz4.f;refine qsk (ds:=[]) #[false,false,false,false,false,false,false] (by kernel_rfl) rfl rfl (hx4.c 0 rfl) (hx4.c 1 rfl) (hx4.c 2 rfl) (fun hY=>?_);refine pu 1 24 ?_;refine tk 2 25 hY ?_;refine pu 3 26 ?_;refine tk 0 23 hY ?_;refine onN 4 (fun K hK=>?_);refine sk ?_;refine hK.out _ _ ⟨qxf hY.1 (by simp),qxf hY.2.1 (by simp),qxf hY.2.2 (by simp)⟩ (fun hY=>?_);clear hK K;refine pu 5 5 ?_;refine pu 6 6 ?_;refine qav (by kernel_rfl) ?_;go_wp2;refine bodyPost_ret (qgd rfl _ _ (w.heap.size+1) 60 _ (0,0) _ rfl (((hz4.set 0 _).set 1 _).set 2 _) Tryz.underlying60 rfl (by kernel_rfl)) rfl ⟨?_,qbh (qbh (qbh (qaf hb5) (by simp)) (by simp)) (by simp)⟩;clear d0 d1 d2 zf hx4 hz4 hb5 hY;simp only[Sig.Proof.unit,Sig.Proof.most]
   (repeat' split) <;> simp_all <;> omega
end Go.Proofs.YtjbijdmcceloaaaGreat.Top
namespace Go.Proofs.YtjbijdmcceloaaaGreat.Crc
def stepN (r:Nat) (b:Bool):Nat:=if (r.testBit 0 != b) then (r >>> 1) ^^^ 33800 else r >>> 1
def run (r:Nat) (t:List Bool):Nat:=t.foldl stepN r
def crc (t:List Bool):Nat:=run 65535 t
theorem qii (r:Nat) (b:Bool) (hr:r<65536):stepN r b<65536:=by
 have h:r >>> 1<2^16:=by rw[Nat.shiftRight_eq_div_pow];omega
 unfold stepN;split
 ·exact Nat.xor_lt_two_pow h (by decide)
 ·exact h
theorem run_lt (t:List Bool):∀r,r<65536→run r t<65536:=by
 induction t with
 |nil=>intro r h;exact h
 |cons b t ih=>intro r h;exact ih _ (qii r b h)
theorem qdi (r:Nat) (b:Bool) (i:Nat):(stepN r b).testBit i=(r.testBit (i+1) ^^ ((r.testBit 0 != b)&&Nat.testBit 33800 i)):=by
 unfold stepN;split
 ·rename_i h;rw[Nat.testBit_xor,Nat.testBit_shiftRight,h,Bool.true_and,Nat.add_comm 1 i]
 ·rename_i h;rw[Nat.testBit_shiftRight,Bool.eq_false_iff.mpr h,Bool.false_and,Bool.xor_false,Nat.add_comm 1 i]
theorem high (r:Nat) (hr:r<65536) (i:Nat) (hi:16≤i):r.testBit i=false :=
 Nat.testBit_lt_two_pow (Nat.lt_of_lt_of_le hr (Nat.pow_le_pow_right (by decide) hi:2^16≤2^i))
theorem ones_bit:∀i:Fin 16,Nat.testBit 65535 i.val=true:=by decide
theorem qot (a b:Nat) (x y:Bool):stepN (a ^^^ b) (x ^^ y)=stepN a x ^^^ stepN b y:=by
 apply Nat.eq_of_testBit_eq;intro i;rw[Nat.testBit_xor,qdi,qdi,qdi,Nat.testBit_xor,Nat.testBit_xor];cases a.testBit (i+1) <;> cases b.testBit (i+1) <;> cases a.testBit 0 <;> cases b.testBit 0 <;> cases x <;> cases y <;> cases Nat.testBit 33800 i <;> rfl
def qwq (s t:List Bool):List Bool:=List.zipWith Bool.xor s t
theorem qs8 (s:List Bool):∀(t:List Bool) (a b:Nat),s.length=t.length→run (a ^^^ b) (qwq s t)=run a s ^^^ run b t:=by
 induction s with
 |nil=>intro t a b h;cases t with
  |nil=>rfl
  |cons y t=>simp at h
 |cons x s ih =>
  intro t a b h;cases t with
  |nil=>simp at h
  |cons y t =>
   show run (stepN (a ^^^ b) (x ^^ y)) (qwq s t)=_;rw[qot,ih t _ _ (by simpa using h)];rfl
theorem qnc (r:Nat) (s t:List Bool):run r (s++t)=run (run r s) t:=List.foldl_append
def bits16 (r:Nat):List Bool:=(List.range 16).map r.testBit
theorem qrb (r:Nat):∀n,run r ((List.range n).map r.testBit)=r >>> n:=by
 intro n
 induction n with
 |zero=>rfl
 |succ n ih =>
  rw[List.range_succ,List.map_append,qnc,ih];show stepN (r >>> n) (r.testBit n)=_;unfold stepN;have h0:(r >>> n).testBit 0=r.testBit n:=by rw[Nat.testBit_shiftRight];rfl
  rw[h0,if_neg (by simp),←Nat.shiftRight_add]
theorem qnb (r:Nat) (hr:r<65536):run r (bits16 r)=0:=by
 have:=qrb r 16;rw[bits16,this,Nat.shiftRight_eq_div_pow];omega
theorem qrc:run 0 (List.replicate 16 true)=61624:=by decide +kernel
theorem qra (w:List Bool):∀s,s<65536→w.length≤16→run s w=0→∀i,s.testBit i=w.getD i false:=by
 induction w with
 |nil=>intro s _ _ h i;have:s=0:=h;subst this;simp
 |cons b w ih =>
  intro s hs hl h i;have hl':w.length≤15:=by simpa using hl
  have key:=ih (stepN s b) (qii s b hs) (by omega) h;have h15:=key 15;rw[qdi,high s hs 16 (by omega),List.getD_eq_getElem?_getD,List.getElem?_eq_none (by omega)] at h15;have hc:(s.testBit 0 != b)=false:=by
   have e:Nat.testBit 33800 15=true:=by decide
   rw[e] at h15
   simpa using h15
  cases i with
  |zero=>simpa using hc
  |succ i =>
   have:=key i;rw[qdi,hc,Bool.false_and,Bool.xor_false] at this;rw[this];simp
theorem run_noughts (n:Nat):∀s,s<65536→run s (List.replicate n false)=0→s=0:=by
 induction n with
 |zero=>intro s _ h;exact h
 |succ n ih =>
  intro s hs h;have h1:stepN s false=0:=ih _ (qii s false hs) h;have key:=qra [false] s hs (by decide) h1;apply Nat.eq_of_testBit_eq;intro i;rw[key i];cases i <;> simp
def tail (r:Nat):List Bool:=(bits16 r).map (!·)
theorem qq4 (r:Nat):tail r=qwq (bits16 r) (List.replicate 16 true):=by
 unfold tail qwq bits16;simp[List.range_succ]
theorem tail_length (r:Nat):(tail r).length=16:=by simp[tail,bits16]
theorem run_tail (r:Nat) (hr:r<65536):run r (tail r)=61624:=by
 have:=qs8 (bits16 r) (List.replicate 16 true) r 0 (by simp[bits16]);rw[Nat.xor_zero,qnb r hr,qrc,Nat.zero_xor] at this;rw[qq4];exact this
end Go.Proofs.YtjbijdmcceloaaaGreat.Crc
namespace Go.Proofs.YtjbijdmcceloaaaGreatW.PrintWords
theorem Reps.one {α:Type} {R:α→List Value→Prop} {ps:List α} {cs:List Value} {p:α} {v:Value} (hp:R p [v]) (h:Reps R 1 ps cs):Reps R 1 (p::ps) (v::cs):=by
 refine⟨by simp[h.1],fun j q hq=>?_⟩;cases j with
 |zero =>
  simp only[List.getElem?_cons_zero,Option.some.injEq] at hq;subst hq
  simpa using hp
 |succ j =>
  simp only[List.getElem?_cons_succ] at hq;have h1:=h.2 j q hq
  simpa [Nat.mul_one] using h1
end Go.Proofs.YtjbijdmcceloaaaGreatW.PrintWords
namespace Go.Proofs.YtjbijdmcceloaaaGreatW.PrintLast
def up (b:Nat→Bool) (i:Nat):Nat→Bool:=fun j=>if j=i then true else b j
end Go.Proofs.YtjbijdmcceloaaaGreatW.PrintLast
