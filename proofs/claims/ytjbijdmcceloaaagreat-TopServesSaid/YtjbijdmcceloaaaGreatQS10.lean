/- Part of the proof of topServes_holds. No condition. -/
import Derived.Test.YtjbijdmcceloaaaGreatQS9
set_option linter.unusedVariables false
set_option linter.unusedSimpArgs false
set_option maxHeartbeats 80000000
set_option maxRecDepth 100000
namespace Go.Proofs.YtjbijdmcceloaaaGreat.Top
open Go Go.RowKit Go.Proofs.YtjbijdmcceloaaaGreat Go.Proofs.YtjbijdmcceloaaaGreatW.PrintWords Go.Proofs.YtjbijdmcceloaaaGreatW.PrintLast Go.Proofs.YtjbijdmcceloaaaGreatW.PrintMore
theorem qdr {b:Sig.Cyclic} {f1:Bool} (hf:(b.force||(Nat.blt 0 b.h.next.length&&!b.fits))=f1) (h:f1=true∨b.h.send.2=none):b.next=({ b with force:=f1 }:Sig.Cyclic).old:=by
 have e:(if (Nat.blt 0 b.h.next.length&&!b.fits)=true then { b with force:=true } else b)=({ b with force:=f1 }:Sig.Cyclic):=by
  rw[←hf];cases hb:(Nat.blt 0 b.h.next.length&&!b.fits) <;> simp
 unfold Sig.Cyclic.next;simp only[e];rcases h with h|h
 ·subst h;rfl
 ·cases f1
  ·rcases hs:b.h.send with ⟨h',_|_⟩
   ·rfl
   ·rw[hs] at h;simp at h
  ·rfl
theorem qhv {b:Sig.Cyclic} (hf:(b.force||(Nat.blt 0 b.h.next.length&&!b.fits))=false) {p:List Nat} {r:List (List Nat)} (hx:b.h.next=p::r) (hl:b.h.sent.length<127) :
  b.next=({ b with force:=false,h:={ b.h with sent:=b.h.sent++[p],next:=r } },b.msg ({ b.h with sent:=b.h.sent++[p],next:=r }:Sig.Hold).last p):=by
 have e:(if (Nat.blt 0 b.h.next.length&&!b.fits)=true then { b with force:=true } else b)=({ b with force:=false }:Sig.Cyclic):=by
  rw[←hf];cases hb:(Nat.blt 0 b.h.next.length&&!b.fits) <;> simp
 have h2:b.h.send=({ b.h with sent:=b.h.sent++[p],next:=r },some (({ b.h with sent:=b.h.sent++[p],next:=r }:Sig.Hold).last,p)):=by unfold Sig.Hold.send;rw[hx];simp only;rw[if_neg (by omega)]
 unfold Sig.Cyclic.next;simp only[e,h2];rfl
theorem qi1 {c:Sig.Cyclic} {i:Nat} {fo:Bool} (h:(c.h.sent.length≤c.at_∧i=0∧fo=(Nat.blt 0 c.h.next.length&&!c.fits))∨(¬c.h.sent.length≤c.at_∧i=c.at_∧fo=c.force)) (hi:i<c.h.sent.length) {n:Nat} (hn:(c.h.first+i)%128=n) {p:List Nat} (hp:c.h.sent[i]=p):c.old=({ c with at_:=i+1,force:=fo },c.msg n p):=by
 subst hn;subst hp;have ha:∀j,(hj:j<c.h.sent.length)→c.h.at j=some ((c.h.first+j)%128,c.h.sent[j]):=fun j hj=>by unfold Sig.Hold.at;simp only[List.getElem?_eq_getElem hj]
 unfold Sig.Cyclic.old;rcases h with ⟨h1,rfl,rfl⟩|⟨h1,rfl,rfl⟩
 ·simp only[if_pos h1,ha 0 hi];rfl
 ·simp only[if_neg h1,ha c.at_ hi]
theorem qmm {c:Sig.Cyclic} {i:Nat} {fo:Bool} (h:(c.h.sent.length≤c.at_∧i=0∧fo=(Nat.blt 0 c.h.next.length&&!c.fits))∨(¬c.h.sent.length≤c.at_∧i=c.at_∧fo=c.force)) (hi:c.h.sent.length≤i):c.old=({ c with at_:=i,force:=fo },c.fill):=by
 have ha:c.h.at i=none:=by unfold Sig.Hold.at;simp only[List.getElem?_eq_none hi]
 unfold Sig.Cyclic.old;rcases h with ⟨h1,rfl,rfl⟩|⟨h1,rfl,rfl⟩
 ·simp only[if_pos h1,ha];rfl
 ·omega
theorem qxi {gb gh:Nat} {O:Nat→Prop} {b:Sig.Cyclic} {w:World} (hb:Blk w gb 203 (qa2 gh b)) {vs vn:Value} (h:HoldAt w gh O b.h vs vn) (ok:COk b) :
  Calls Tryz.prog 166 #[.pointer (some ⟨gb,0,none⟩)] w (qda 203 gb gh O w (qa2 gh b.next.1) b.next.1.h b.next.2.info (qax b.next.2)):=by
 have c0:=fun (o:Obj)=>Lib.cell?_alloc_some (W:=w) o (hb.c 0 (v:=.pointer (some ⟨gh,0,none⟩)) rfl);have H0:=am (QAt.start hb h ⟨by decide,by decide,by decide⟩ (by decide) zero8);have OK:=am ok;clear h ok;clear hb;go_enter Tryz.func166,Tryz.ntmps166
 go_wp2_with fail
 obtain⟨vs0,vn0,hh0⟩:=H0.out.at_.hold;have HH0:=am hh0;clear hh0;refine(qry HH0.out).mono ?_;rintro e W0 ⟨rfl,hW0⟩;have H1:qac (QAt zero8 203 gb gh O w (qa2 gh b) b.h W0):=⟨hW0▸H0.out⟩;clear hW0;clear c0;have c0:=H1.out.at_.blk.c 0 (v:=.pointer (some ⟨gh,0,none⟩)) rfl;have f5:=H1.out.at_.blk.f;obtain⟨r0,r1,r2,r3,r4,r5,r6,r7,q0,q1,q2,q3,q4,q5,q6,q7⟩:=H1.out.room.room8;obtain⟨vs1,vn1,hh1⟩:=H1.out.at_.hold;have HH1:=am hh1;clear hh1;obtain⟨bf,hbf⟩:∃bf,b.fits=bf:=⟨_,rfl⟩;have HBF:=am hbf;clear hbf;have hfit:∀(fo:Bool) (i:Nat) (W:World),i≤1000→QAt zero8 203 gb gh O w (qa2 gh { b with force:=fo,at_:=i }) b.h W→Calls Tryz.prog 176 #[.pointer (some ⟨gb,0,none⟩)] W fun e w'=>e=.returned (.bool bf)∧∃k,w'=W.drewN k:=fun fo i W hi q=>by
  rw[←HBF.out];obtain⟨vs',vn',hh⟩:=q.at_.hold;exact qxl (b:={ b with force:=fo,at_:=i }) q.at_.blk hh ⟨OK.out.h,OK.out.n1,OK.out.n2,OK.out.last,hi⟩
 have HFIT:=am hfit;have hfb:=hfit;rw[←HBF.out] at hfb;have HFB:=am hfb;clear hfit hfb;obtain⟨f0,hf0⟩:∃f0,b.force=f0:=⟨_,rfl⟩;have HF0:=am hf0;clear hf0;by_cases hn0:0<b.h.next.length
 focus
  have d0:decide ((0:Int)<(b.h.next.length:Int))=true:=decide_eq_true (by omega);have d0n:decide (0<b.h.next.length)=true:=decide_eq_true (by omega);have hN0:qac (Nat.blt 0 b.h.next.length=true):=⟨by simpa using hn0⟩
  go_wp2_with fail
  refine(HFIT.out b.force b.at_ W0 OK.out.at_ H1.out).mono ?_;rintro e w2 ⟨rfl,kk,rfl⟩;have H2:=am (H1.out.below (qab (Below.refl _ _) kk));generalize W0.drewN kk=w2 at *;clear c0 f5 r0 r1 r2 r3 r4 r5 r6 r7 q0 q1 q2 q3 q4 q5 q6 q7;have c0:=H2.out.at_.blk.c 0 (v:=.pointer (some ⟨gh,0,none⟩)) rfl;have c5:=H2.out.at_.blk.c 5 (v:=.bool b.force) rfl;have f5:=H2.out.at_.blk.f;obtain⟨r0,r1,r2,r3,r4,r5,r6,r7,q0,q1,q2,q3,q4,q5,q6,q7⟩:=H2.out.room.room8;rw[HF0.out] at c5;cases bf
  focus
   go_wp2_with fail
   have H3:=am (H2.out.set 5 (.bool true) (cs':=qa2 gh { b with force:=true }) rfl);generalize (w2.setCell ⟨gb,5,none⟩ (.bool true))=wA at *;obtain⟨fo,HA,HE⟩:∃fo,qac (QAt zero8 203 gb gh O w (qa2 gh { b with force:=fo }) b.h wA)∧qac (b.next=({ b with force:=fo }:Sig.Cyclic).old):=⟨true,H3,⟨qdr (by rw[hN0.out,HBF.out];simp) (Or.inl rfl)⟩⟩;clear H2 H3 HF0 c0 c5 f5 r0 r1 r2 r3 r4 r5 r6 r7 q0 q1 q2 q3 q4 q5 q6 q7 d0 d0n hN0 hn0 H1 HH1
  rotate_left
  focus
   cases f0
   focus
    go_wp2_with fail
    obtain⟨vs2,vn2,hh2⟩:=H2.out.at_.hold;have HH2:=am hh2;clear hh2;by_cases hs:∃p r,b.h.next=p::r∧b.h.sent.length<127
    ·obtain⟨p,r,hx,hl⟩:=hs;have HX:=am hx;clear hx;refine(qd0 HH2.out OK.out.h HX.out hl).mono ?_;rintro e w5 ⟨v9,rfl,ho9,hh9,hon9⟩;have H5:=am (H2.out.hacts (r:=.tuple #[]) ⟨rfl,hh9,hon9⟩).2;obtain⟨A9,k9,hv9,_⟩:=ho9.slice;subst hv9;have HO:=am ho9;clear ho9 hh9 hon9;clear c0 c5 f5 r0 r1 r2 r3 r4 r5 r6 r7 q0 q1 q2 q3 q4 q5 q6 q7;have f5:=H5.out.at_.blk.f;obtain⟨r0,r1,r2,r3,r4,r5,r6,r7,q0,q1,q2,q3,q4,q5,q6,q7⟩:=H5.out.room.room8
     go_wp2_with fail
     refine(qxj (b:=b) H5.out.at_.blk _ _ _ _ p).mono ?_;rintro e w6 ⟨rfl,hb9⟩;have H6:=am (H5.out.below (hb9));have HO2:=am (HO.out.below hb9);clear hb9;clear f5 r0 r1 r2 r3 r4 r5 r6 r7 q0 q1 q2 q3 q4 q5 q6 q7;have f5:=H6.out.at_.blk.f;obtain⟨r0,r1,r2,r3,r4,r5,r6,r7,q0,q1,q2,q3,q4,q5,q6,q7⟩:=H6.out.room.room8;unfold qax;go_wp2;have e:=qhv (by rw[hN0.out,HBF.out,HF0.out];rfl) HX.out hl;rw[e,show ({ b with force:=false,h:={ b.h with sent:=b.h.sent++[p],next:=r } }:Sig.Cyclic)={ b with h:={ b.h with sent:=b.h.sent++[p],next:=r } } from by rw[←HF0.out]];exact QAt.ret rfl H6.out HO2.out rfl rfl
    have hsn:b.h.send.2=none:=by
     unfold Sig.Hold.send;rcases hx:b.h.next with _|⟨p,r⟩
     ·rfl
     ·simp only;rw[if_pos (Nat.le_of_not_lt (fun hl=>hs ⟨p,r,hx,hl⟩))]
    have HSN:=am hsn;clear hs hsn;refine(qd1 HH2.out OK.out.h HSN.out).mono ?_;rintro e w5 ⟨cc,rfl,hcc,rfl⟩;have e9:(((cc:Nat):Int)==(0))=false:=beq_eq_false_iff_ne.2 (by omega);clear hcc
    go_wp2_with fail
    have HA0:qac (QAt zero8 203 gb gh O w (qa2 gh { b with force:=false }) b.h w2):=⟨by have q:=H2.out;rw[show ({ b with force:=false }:Sig.Cyclic)=b from by rw[←HF0.out]];exact q⟩;generalize w2=wA at *;obtain⟨fo,HA,HE⟩:∃fo,qac (QAt zero8 203 gb gh O w (qa2 gh { b with force:=fo }) b.h wA)∧qac (b.next=({ b with force:=fo }:Sig.Cyclic).old):=⟨false,HA0,⟨qdr (by rw[hN0.out,HBF.out,HF0.out];rfl) (Or.inr HSN.out)⟩⟩;clear HA0 H2 HH2 HSN e9 HF0 c0 c5 f5 r0 r1 r2 r3 r4 r5 r6 r7 q0 q1 q2 q3 q4 q5 q6 q7 d0 d0n hN0 hn0 H1 HH1
   rotate_left
   focus
    go_wp2_with fail
    have HA0:qac (QAt zero8 203 gb gh O w (qa2 gh { b with force:=true }) b.h w2):=⟨by have q:=H2.out;rw[show ({ b with force:=true }:Sig.Cyclic)=b from by rw[←HF0.out]];exact q⟩;generalize w2=wA at *;obtain⟨fo,HA,HE⟩:∃fo,qac (QAt zero8 203 gb gh O w (qa2 gh { b with force:=fo }) b.h wA)∧qac (b.next=({ b with force:=fo }:Sig.Cyclic).old):=⟨true,HA0,⟨qdr (by rw[hN0.out,HBF.out,HF0.out];rfl) (Or.inl rfl)⟩⟩;clear HA0 H2 HF0 c0 c5 f5 r0 r1 r2 r3 r4 r5 r6 r7 q0 q1 q2 q3 q4 q5 q6 q7 d0 d0n hN0 hn0 H1 HH1
 rotate_right
 focus
  have d0:decide ((0:Int)<(b.h.next.length:Int))=false:=decide_eq_false (by omega);have d0n:decide (0<b.h.next.length)=false:=decide_eq_false (by omega);have hN0:qac (Nat.blt 0 b.h.next.length=false):=⟨by rw[Bool.eq_false_iff];simpa using hn0⟩;clear c0 f5 r0 r1 r2 r3 r4 r5 r6 r7 q0 q1 q2 q3 q4 q5 q6 q7;have c0:=H1.out.at_.blk.c 0 (v:=.pointer (some ⟨gh,0,none⟩)) rfl;have c5:=H1.out.at_.blk.c 5 (v:=.bool b.force) rfl;have f5:=H1.out.at_.blk.f;obtain⟨r0,r1,r2,r3,r4,r5,r6,r7,q0,q1,q2,q3,q4,q5,q6,q7⟩:=H1.out.room.room8;rw[HF0.out] at c5;cases f0
  focus
   go_wp2_with fail
   obtain⟨vs1,vn1,hh1⟩:=H1.out.at_.hold;have HH1:=am hh1;clear hh1;by_cases hs:∃p r,b.h.next=p::r∧b.h.sent.length<127
   ·obtain⟨p,r,hx,hl⟩:=hs;have HX:=am hx;clear hx;refine(qd0 HH1.out OK.out.h HX.out hl).mono ?_;rintro e w5 ⟨v9,rfl,ho9,hh9,hon9⟩;have H5:=am (H1.out.hacts (r:=.tuple #[]) ⟨rfl,hh9,hon9⟩).2;obtain⟨A9,k9,hv9,_⟩:=ho9.slice;subst hv9;have HO:=am ho9;clear ho9 hh9 hon9;clear c0 c5 f5 r0 r1 r2 r3 r4 r5 r6 r7 q0 q1 q2 q3 q4 q5 q6 q7;have f5:=H5.out.at_.blk.f;obtain⟨r0,r1,r2,r3,r4,r5,r6,r7,q0,q1,q2,q3,q4,q5,q6,q7⟩:=H5.out.room.room8
    go_wp2_with fail
    refine(qxj (b:=b) H5.out.at_.blk _ _ _ _ p).mono ?_;rintro e w6 ⟨rfl,hb9⟩;have H6:=am (H5.out.below (hb9));have HO2:=am (HO.out.below hb9);clear hb9;clear f5 r0 r1 r2 r3 r4 r5 r6 r7 q0 q1 q2 q3 q4 q5 q6 q7;have f5:=H6.out.at_.blk.f;obtain⟨r0,r1,r2,r3,r4,r5,r6,r7,q0,q1,q2,q3,q4,q5,q6,q7⟩:=H6.out.room.room8;unfold qax;go_wp2;have e:=qhv (by rw[hN0.out,HF0.out];rfl) HX.out hl;rw[e,show ({ b with force:=false,h:={ b.h with sent:=b.h.sent++[p],next:=r } }:Sig.Cyclic)={ b with h:={ b.h with sent:=b.h.sent++[p],next:=r } } from by rw[←HF0.out]];exact QAt.ret rfl H6.out HO2.out rfl rfl
   have hsn:b.h.send.2=none:=by
    unfold Sig.Hold.send;rcases hx:b.h.next with _|⟨p,r⟩
    ·rfl
    ·simp only;rw[if_pos (Nat.le_of_not_lt (fun hl=>hs ⟨p,r,hx,hl⟩))]
   have HSN:=am hsn;clear hs hsn;refine(qd1 HH1.out OK.out.h HSN.out).mono ?_;rintro e w5 ⟨cc,rfl,hcc,rfl⟩;have e9:(((cc:Nat):Int)==(0))=false:=beq_eq_false_iff_ne.2 (by omega);clear hcc
   go_wp2_with fail
   have HA0:qac (QAt zero8 203 gb gh O w (qa2 gh { b with force:=false }) b.h W0):=⟨by have q:=H1.out;rw[show ({ b with force:=false }:Sig.Cyclic)=b from by rw[←HF0.out]];exact q⟩;generalize W0=wA at *;obtain⟨fo,HA,HE⟩:∃fo,qac (QAt zero8 203 gb gh O w (qa2 gh { b with force:=fo }) b.h wA)∧qac (b.next=({ b with force:=fo }:Sig.Cyclic).old):=⟨false,HA0,⟨qdr (by rw[hN0.out,HF0.out];rfl) (Or.inr HSN.out)⟩⟩;clear HA0 H1 HH1 HSN e9 HF0 c0 c5 f5 r0 r1 r2 r3 r4 r5 r6 r7 q0 q1 q2 q3 q4 q5 q6 q7 d0 d0n hN0 hn0
  rotate_left
  focus
   go_wp2_with fail
   have HA0:qac (QAt zero8 203 gb gh O w (qa2 gh { b with force:=true }) b.h W0):=⟨by have q:=H1.out;rw[show ({ b with force:=true }:Sig.Cyclic)=b from by rw[←HF0.out]];exact q⟩;generalize W0=wA at *;obtain⟨fo,HA,HE⟩:∃fo,qac (QAt zero8 203 gb gh O w (qa2 gh { b with force:=fo }) b.h wA)∧qac (b.next=({ b with force:=fo }:Sig.Cyclic).old):=⟨true,HA0,⟨qdr (by rw[hN0.out,HF0.out];rfl) (Or.inl rfl)⟩⟩;clear HA0 H1 HF0 c0 c5 f5 r0 r1 r2 r3 r4 r5 r6 r7 q0 q1 q2 q3 q4 q5 q6 q7 d0 d0n hN0 hn0
 all_goals
  have H5:=HA;have c0:=H5.out.at_.blk.c 0 (v:=.pointer (some ⟨gh,0,none⟩)) rfl;have c4:=H5.out.at_.blk.c 4 (v:=.int .i64 b.at_) rfl;have c5:=H5.out.at_.blk.c 5 (v:=.bool fo) rfl;have f5:=H5.out.at_.blk.f;obtain⟨r0,r1,r2,r3,r4,r5,r6,r7,q0,q1,q2,q3,q4,q5,q6,q7⟩:=H5.out.room.room8;obtain⟨vs5,vn5,hh5⟩:=H5.out.at_.hold;have HH5:=am hh5;clear hh5;have HD:=am HH5.out.drew;have hal:=OK.out.at_;go_still_tail 9,(by kernel_rfl)
  still_call (qf (qd4 HD.out))
  repeat still_step
  refine wpStill_nil ?_;change wpList _ _ _ _ _ wA.drew;have H6:=am (H5.out.below (qaf (Below.refl _ _)));generalize wA.drew=w6 at *;clear c0 c4 c5 f5 r0 r1 r2 r3 r4 r5 r6 r7 q0 q1 q2 q3 q4 q5 q6 q7;have c0:=H6.out.at_.blk.c 0 (v:=.pointer (some ⟨gh,0,none⟩)) rfl;have c4:=H6.out.at_.blk.c 4 (v:=.int .i64 b.at_) rfl;have c5:=H6.out.at_.blk.c 5 (v:=.bool fo) rfl;have f5:=H6.out.at_.blk.f;obtain⟨r0,r1,r2,r3,r4,r5,r6,r7,q0,q1,q2,q3,q4,q5,q6,q7⟩:=H6.out.room.room8;obtain⟨vs6,vn6,hh6⟩:=H6.out.at_.hold;have HH6:=am hh6;clear hh6;by_cases hat:b.h.sent.length≤b.at_
  focus
   have d1:decide ((b.h.sent.length:Int)≤(b.at_:Int))=true:=decide_eq_true (by omega);have d1n:decide (b.h.sent.length≤b.at_)=true:=decide_eq_true (by omega)
   go_wp2_with fail
   refine(qry HH6.out).mono ?_;rintro e w7 ⟨rfl,rfl⟩;by_cases hn0:0<b.h.next.length
   focus
    have d0:decide ((0:Int)<(b.h.next.length:Int))=true:=decide_eq_true (by omega);have d0n:decide (0<b.h.next.length)=true:=decide_eq_true (by omega)
    go_wp2_with fail
    refine(HFB.out fo b.at_ w6 hal H6.out).mono ?_;rintro e w7 ⟨rfl,kk,rfl⟩;have H7:=am (H6.out.below (qab (Below.refl _ _) kk));generalize w6.drewN kk=w7 at *;clear c0 c4 c5 f5 r0 r1 r2 r3 r4 r5 r6 r7 q0 q1 q2 q3 q4 q5 q6 q7;have c0:=H7.out.at_.blk.c 0 (v:=.pointer (some ⟨gh,0,none⟩)) rfl;have c4:=H7.out.at_.blk.c 4 (v:=.int .i64 b.at_) rfl;have c5:=H7.out.at_.blk.c 5 (v:=.bool fo) rfl;have f5:=H7.out.at_.blk.f;obtain⟨r0,r1,r2,r3,r4,r5,r6,r7,q0,q1,q2,q3,q4,q5,q6,q7⟩:=H7.out.room.room8
    go_wp2_with fail
    have H8:=am (H7.out.set 4 (.int .i64 0) (cs':=qa2 gh { b with force:=fo,at_:=0 }) rfl);have H9:=am (H8.out.set 5 (.bool (!b.fits)) (cs':=qa2 gh { b with force:=!b.fits,at_:=0 }) rfl);generalize ((w7.setCell ⟨gb,4,none⟩ (.int .i64 0)).setCell ⟨gb,5,none⟩ (.bool (!b.fits)))=wB at *;obtain⟨i,f2,hi1000,HB,HO⟩:∃(i:Nat) (f2:Bool),i≤1000∧qac (QAt zero8 203 gb gh O w (qa2 gh { b with force:=f2,at_:=i }) b.h wB)∧qac (((({ b with force:=fo }:Sig.Cyclic)).h.sent.length≤(({ b with force:=fo }:Sig.Cyclic)).at_∧i=0∧f2=(Nat.blt 0 (({ b with force:=fo }:Sig.Cyclic)).h.next.length&&!(({ b with force:=fo }:Sig.Cyclic)).fits))∨(¬(({ b with force:=fo }:Sig.Cyclic)).h.sent.length≤(({ b with force:=fo }:Sig.Cyclic)).at_∧i=(({ b with force:=fo }:Sig.Cyclic)).at_∧f2=(({ b with force:=fo }:Sig.Cyclic)).force)):=⟨0,(!b.fits),by omega,⟨H9.out⟩,⟨Or.inl ⟨hat,rfl,by rw[show (({ b with force:=fo }:Sig.Cyclic)).fits=b.fits from rfl,show Nat.blt 0 (({ b with force:=fo }:Sig.Cyclic)).h.next.length=true from by simpa using hn0];simp⟩⟩⟩;clear d0 d0n hn0 d1 d1n hat H7 H8 H9 c0 c4 c5 f5 r0 r1 r2 r3 r4 r5 r6 r7 q0 q1 q2 q3 q4 q5 q6 q7
   rotate_left
   focus
    have d0:decide ((0:Int)<(b.h.next.length:Int))=false:=decide_eq_false (by omega);have d0n:decide (0<b.h.next.length)=false:=decide_eq_false (by omega)
    go_wp2_with fail
    have H7:=am (H6.out.set 4 (.int .i64 0) (cs':=qa2 gh { b with force:=fo,at_:=0 }) rfl);have H8:=am (H7.out.set 5 (.bool false) (cs':=qa2 gh { b with force:=false,at_:=0 }) rfl);generalize ((w6.setCell ⟨gb,4,none⟩ (.int .i64 0)).setCell ⟨gb,5,none⟩ (.bool false))=wB at *;obtain⟨i,f2,hi1000,HB,HO⟩:∃(i:Nat) (f2:Bool),i≤1000∧qac (QAt zero8 203 gb gh O w (qa2 gh { b with force:=f2,at_:=i }) b.h wB)∧qac (((({ b with force:=fo }:Sig.Cyclic)).h.sent.length≤(({ b with force:=fo }:Sig.Cyclic)).at_∧i=0∧f2=(Nat.blt 0 (({ b with force:=fo }:Sig.Cyclic)).h.next.length&&!(({ b with force:=fo }:Sig.Cyclic)).fits))∨(¬(({ b with force:=fo }:Sig.Cyclic)).h.sent.length≤(({ b with force:=fo }:Sig.Cyclic)).at_∧i=(({ b with force:=fo }:Sig.Cyclic)).at_∧f2=(({ b with force:=fo }:Sig.Cyclic)).force)):=⟨0,false,by omega,⟨H8.out⟩,⟨Or.inl ⟨hat,rfl,by rw[show Nat.blt 0 (({ b with force:=fo }:Sig.Cyclic)).h.next.length=false from by rw[Bool.eq_false_iff];simpa using hn0];simp⟩⟩⟩;clear d0 d0n hn0 d1 d1n hat H7 H8 c0 c4 c5 f5 r0 r1 r2 r3 r4 r5 r6 r7 q0 q1 q2 q3 q4 q5 q6 q7
  rotate_right
  focus
   have d1:decide ((b.h.sent.length:Int)≤(b.at_:Int))=false:=decide_eq_false (by omega);have d1n:decide (b.h.sent.length≤b.at_)=false:=decide_eq_false (by omega)
   go_wp2_with fail
   generalize w6=wB at *;obtain⟨i,f2,hi1000,HB,HO⟩:∃(i:Nat) (f2:Bool),i≤1000∧qac (QAt zero8 203 gb gh O w (qa2 gh { b with force:=f2,at_:=i }) b.h wB)∧qac (((({ b with force:=fo }:Sig.Cyclic)).h.sent.length≤(({ b with force:=fo }:Sig.Cyclic)).at_∧i=0∧f2=(Nat.blt 0 (({ b with force:=fo }:Sig.Cyclic)).h.next.length&&!(({ b with force:=fo }:Sig.Cyclic)).fits))∨(¬(({ b with force:=fo }:Sig.Cyclic)).h.sent.length≤(({ b with force:=fo }:Sig.Cyclic)).at_∧i=(({ b with force:=fo }:Sig.Cyclic)).at_∧f2=(({ b with force:=fo }:Sig.Cyclic)).force)):=⟨b.at_,fo,hal,⟨H6.out⟩,⟨Or.inr ⟨hat,rfl,rfl⟩⟩⟩;clear d1 d1n hat c0 c4 c5 f5 r0 r1 r2 r3 r4 r5 r6 r7 q0 q1 q2 q3 q4 q5 q6 q7
 all_goals
  have H9:=HB;have c0:=H9.out.at_.blk.c 0 (v:=.pointer (some ⟨gh,0,none⟩)) rfl;have c4:=H9.out.at_.blk.c 4 (v:=.int .i64 i) rfl;have f5:=H9.out.at_.blk.f;obtain⟨r0,r1,r2,r3,r4,r5,r6,r7,q0,q1,q2,q3,q4,q5,q6,q7⟩:=H9.out.room.room8;have hsl:=OK.out.h.sent;have hfi:=OK.out.h.first;by_cases hi:i<b.h.sent.length
  ·obtain⟨n,hn⟩:∃n,(b.h.first+i)%128=n:=⟨_,rfl⟩;have hni:((b.h.first:Int)+(i:Int))%128=(n:Int):=by omega
   have HN:=am hni;obtain⟨p,hp⟩:∃p,b.h.sent[i]=p:=⟨_,rfl⟩;have HPP:=am hp;have HE2:=am (HE.out.trans (qi1 HO.out hi hn hp));clear hni hn hp HO;refine sr 16 (fun W=>W.cell? ⟨gb,0,none⟩=some (.pointer (some ⟨gh,0,none⟩))∧W.cell? ⟨gb,4,none⟩=some (.int .i64 i)) [8] (show _∧_ from ⟨c0,c4⟩) (fun hY=>?_);have H10:=am (H9.out.below (qaf (Below.refl _ _)));obtain⟨vs0,vn0,hh0⟩:=H10.out.at_.hold;have HH:=am hh0;clear hh0 c0 c4 f5 r0 r1 r2 r3 r4 r5 r6 r7 q0 q1 q2 q3 q4 q5 q6 q7;refine pu 0 74 ?_;refine pu 1 75 ?_;refine pu 2 76 ?_;refine pu 4 78 ?_;refine pu 5 79 ?_;refine pu 6 80 ?_;refine tk 3 77 hY ?_;refine tk 7 81 hY ?_;refine la_ 8 82 (fun K hK=>?_);refine gs Tryz.func179 #[.pointer (some ⟨gh,0,none⟩),.int .i64 i] ?_
   with_reducible refine(qja HH.out OK.out.h i hi).mono ?_
   rintro e w11 ⟨v9,rfl,ho9,hh9,hon9⟩;refine⟨_,rfl,?_⟩;rw[HN.out];rw[HPP.out] at ho9;have H11:=am (H10.out.hacts (r:=.tuple #[]) ⟨rfl,hh9,hon9⟩).2;obtain⟨A9,k9,hv9,_⟩:=ho9.slice;subst hv9;have HO:=am ho9;clear ho9 hh9 hon9;refine hK.out _ _ ?_;clear hK K;refine nm 82 ?_;refine pu 9 73 ?_;refine pu 10 83 ?_;refine pu 11 84 ?_;refine pu 12 85 ?_;refine pu 13 6 ?_;refine pu 14 7 ?_;refine pu 15 8 ?_;refine qav (by kernel_rfl) ?_;have c0:=H11.out.at_.blk.c 0 (v:=.pointer (some ⟨gh,0,none⟩)) rfl;have c4:=H11.out.at_.blk.c 4 (v:=.int .i64 i) rfl;have f5:=H11.out.at_.blk.f;obtain⟨r0,r1,r2,r3,r4,r5,r6,r7,q0,q1,q2,q3,q4,q5,q6,q7⟩:=H11.out.room.room8;have hw:=qoi i 1 (by omega)
   go_wp2_with fail
   have H12:=am (H11.out.set 4 (.int .i64 ((i:Int)+1)) (cs':=qa2 gh { b with force:=f2,at_:=i+1 }) rfl);have HO2:=am (HO.out.only ((Only.refl (·=gb) w11).set (p:=⟨gb,4,none⟩) rfl (.int .i64 ((i:Int)+1))) (fun k e ht=>by have e:k=gb:=e;subst e;exact absurd (ht.ne H11.out.at_.blk.typed) (by decide)));generalize (w11.setCell ⟨gb,4,none⟩ (.int .i64 ((i:Int)+1)))=w12 at *;refine(qxj (b:={ b with force:=f2,at_:=i+1 }) H12.out.at_.blk _ _ _ _ p).mono ?_;rintro e w13 ⟨rfl,hb9⟩;have H13:=am (H12.out.below (hb9));have HO4:=am (HO2.out.below hb9);clear hb9;clear c0 c4 f5 r0 r1 r2 r3 r4 r5 r6 r7 q0 q1 q2 q3 q4 q5 q6 q7;have f5:=H13.out.at_.blk.f;obtain⟨r0,r1,r2,r3,r4,r5,r6,r7,q0,q1,q2,q3,q4,q5,q6,q7⟩:=H13.out.room.room8;unfold qax;go_wp2;rw[HE2.out];exact QAt.ret rfl H13.out HO4.out rfl rfl
  ·have HE2:=am (HE.out.trans (qmm HO.out (Nat.le_of_not_lt hi)));refine sr 16 (fun W=>W.cell? ⟨gb,0,none⟩=some (.pointer (some ⟨gh,0,none⟩))∧W.cell? ⟨gb,4,none⟩=some (.int .i64 i)) [8] (show _∧_ from ⟨c0,c4⟩) (fun hY=>?_);have H10:=am (H9.out.below (qaf (Below.refl _ _)));obtain⟨vs0,vn0,hh0⟩:=H10.out.at_.hold;have HH:=am hh0;clear hh0 c0 c4 f5 r0 r1 r2 r3 r4 r5 r6 r7 q0 q1 q2 q3 q4 q5 q6 q7;refine pu 0 74 ?_;refine pu 1 75 ?_;refine pu 2 76 ?_;refine pu 4 78 ?_;refine pu 5 79 ?_;refine pu 6 80 ?_;refine tk 3 77 hY ?_;refine tk 7 81 hY ?_;refine la_ 8 82 (fun K hK=>?_);refine gs Tryz.func179 #[.pointer (some ⟨gh,0,none⟩),.int .i64 i] ?_
   with_reducible refine(qjb HH.out i (Nat.le_of_not_lt hi)).mono ?_
   rintro e w11 ⟨rfl,rfl⟩;refine⟨_,rfl,?_⟩;refine hK.out _ _ ?_;clear hK K;refine nm 82 ?_;refine pu 9 73 ?_;refine pu 10 83 ?_;refine pu 11 84 ?_;refine pu 12 85 ?_;refine pu 13 6 ?_;refine pu 14 7 ?_;refine pu 15 8 ?_;refine qav (by kernel_rfl) ?_;generalize wB.drew=w11 at *;have c0:=H10.out.at_.blk.c 0 (v:=.pointer (some ⟨gh,0,none⟩)) rfl;have f5:=H10.out.at_.blk.f;obtain⟨r0,r1,r2,r3,r4,r5,r6,r7,q0,q1,q2,q3,q4,q5,q6,q7⟩:=H10.out.room.room8
   go_wp2_with fail
   refine(qwc (b:={ b with force:=f2,at_:=i }) H10.out.at_.blk HH.out OK.out.h).mono ?_;rintro e w12 ⟨rfl,hb9⟩;have H11:=am (H10.out.below (hb9));clear hb9;clear c0 f5 r0 r1 r2 r3 r4 r5 r6 r7 q0 q1 q2 q3 q4 q5 q6 q7;have f5:=H11.out.at_.blk.f;obtain⟨r0,r1,r2,r3,r4,r5,r6,r7,q0,q1,q2,q3,q4,q5,q6,q7⟩:=H11.out.room.room8;unfold qax;go_wp2;rw[HE2.out];exact QAt.ret rfl H11.out (Rw.nil _ _ _) rfl rfl
def Adr.fFill (A:Adr):Nat:=if A.cyc then 164 else 188
theorem qvl (A:Adr) (W:World) (a:Addr):(method 356 A.ty (.pointer (some a)) "Fill").run Tryz.prog W=.ok (A.fFill,.pointer (some a)) W:=by
 unfold Adr.ty Adr.fFill;cases A.cyc <;> kernel_rfl
theorem qsu (A:Adr) (W:World) (args:Array Value):(callFunc A.fFill args).run Tryz.prog W=.ok (.enter A.fFill args) W:=by
 unfold Adr.fFill;cases A.cyc
 ·exact qbl Tryz.func188 rfl rfl args W
 ·exact qbl Tryz.func164 rfl rfl args W
def Adr.fHold (A:Adr):Nat:=if A.cyc then 165 else 189
theorem qnn (A:Adr) (W:World) (a:Addr):(method 356 A.ty (.pointer (some a)) "Hold").run Tryz.prog W=.ok (A.fHold,.pointer (some a)) W:=by
 unfold Adr.ty Adr.fHold;cases A.cyc <;> kernel_rfl
theorem qhw (A:Adr) (W:World) (args:Array Value):(callFunc A.fHold args).run Tryz.prog W=.ok (.enter A.fHold args) W:=by
 unfold Adr.fHold;cases A.cyc
 ·exact qbl Tryz.func189 rfl rfl args W
 ·exact qbl Tryz.func165 rfl rfl args W
def Adr.fNext (A:Adr):Nat:=if A.cyc then 166 else 190
theorem qw5 (A:Adr) (W:World) (a:Addr):(method 356 A.ty (.pointer (some a)) "Next").run Tryz.prog W=.ok (A.fNext,.pointer (some a)) W:=by
 unfold Adr.ty Adr.fNext;cases A.cyc <;> kernel_rfl
theorem qwa (A:Adr) (W:World) (args:Array Value):(callFunc A.fNext args).run Tryz.prog W=.ok (.enter A.fNext args) W:=by
 unfold Adr.fNext;cases A.cyc
 ·exact qbl Tryz.func190 rfl rfl args W
 ·exact qbl Tryz.func166 rfl rfl args W
def Adr.fReset (A:Adr):Nat:=if A.cyc then 168 else 192
theorem qvk (A:Adr) (W:World) (a:Addr):(method 356 A.ty (.pointer (some a)) "Reset").run Tryz.prog W=.ok (A.fReset,.pointer (some a)) W:=by
 unfold Adr.ty Adr.fReset;cases A.cyc <;> kernel_rfl
theorem qug (A:Adr) (W:World) (args:Array Value):(callFunc A.fReset args).run Tryz.prog W=.ok (.enter A.fReset args) W:=by
 unfold Adr.fReset;cases A.cyc
 ·exact qbl Tryz.func192 rfl rfl args W
 ·exact qbl Tryz.func168 rfl rfl args W
def Adr.fAnswer (A:Adr):Nat:=if A.cyc then 163 else 187
theorem qtn (A:Adr) (W:World) (a:Addr):(method 356 A.ty (.pointer (some a)) "Answer").run Tryz.prog W=.ok (A.fAnswer,.pointer (some a)) W:=by
 unfold Adr.ty Adr.fAnswer;cases A.cyc <;> kernel_rfl
theorem qr7 (A:Adr) (W:World) (args:Array Value):(callFunc A.fAnswer args).run Tryz.prog W=.ok (.enter A.fAnswer args) W:=by
 unfold Adr.fAnswer;cases A.cyc
 ·exact qbl Tryz.func187 rfl rfl args W
 ·exact qbl Tryz.func163 rfl rfl args W
def Adr.fTake (A:Adr):Nat:=if A.cyc then 169 else 193
theorem qw4 (A:Adr) (W:World) (a:Addr):(method 356 A.ty (.pointer (some a)) "Take").run Tryz.prog W=.ok (A.fTake,.pointer (some a)) W:=by
 unfold Adr.ty Adr.fTake;cases A.cyc <;> kernel_rfl
theorem qv9 (A:Adr) (W:World) (args:Array Value):(callFunc A.fTake args).run Tryz.prog W=.ok (.enter A.fTake args) W:=by
 unfold Adr.fTake;cases A.cyc
 ·exact qbl Tryz.func193 rfl rfl args W
 ·exact qbl Tryz.func169 rfl rfl args W
def WayAt (w:World) (A:Adr) (O:Nat→Prop) (x:Sig.Way):Prop:=match x with
 |.basic b=>A.cyc=false∧Blk w A.w 205 (qat A.h b)∧∃vs vn,HoldAt w A.h O b.h vs vn
 |.cyclic c=>A.cyc=true∧Blk w A.w 203 (qa2 A.h c)∧∃vs vn,HoldAt w A.h O c.h vs vn
def WOk (x:Sig.Way):Prop:=match x with
 |.basic b=>BOk b
 |.cyclic c=>COk c
def WrW (A:Adr) (O:Nat→Prop) (w:World) (k:Nat):Prop:=WrB A.w A.h O w k
def quq (A:Adr) (O:Nat→Prop) (w:World) (x:Sig.Way) (r:Value) (e:Ending) (w':World):Prop:=e=.returned r∧WayAt w' A (qbe O w w') x∧Only (WrW A O w) w w'
def qup (A:Adr) (O:Nat→Prop) (w:World) (x:Sig.Way) (p:List Nat) (f:Value→Value) (e:Ending) (w':World):Prop:=∃v,e=.returned (f v)∧Oct w' v p∧WayAt w' A (qbe O w w') x∧Only (WrW A O w) w w'
def qsv (A:Adr) (O:Nat→Prop) (w:World) (x:Sig.Way) (r:Option (Option (List Nat))) (e:Ending) (w':World):Prop:=∃v,e=.returned (qm8 r v)∧(Kd.int .u8).R 5 w' 0 (qbe O w w') v ((qs4 r).map (fun n:Nat=>(n:Int)))∧WayAt w' A (qbe O w w') x∧Only (WrW A O w) w w'
section
variable {w w':World} {A:Adr} {O:Nat→Prop} {x:Sig.Way}
theorem WayAt.hold (h:WayAt w A O x):∃vs vn,HoldAt w A.h O x.hold vs vn:=by
 cases x with
 |basic b=>exact h.2.2
 |cyclic c=>exact h.2.2
theorem WOk.hold (h:WOk x):HOk x.hold:=by
 cases x with
 |basic b=>exact h.h
 |cyclic c=>exact h.h
theorem WayAt.typed (h:WayAt w A O x):(Typed w A.w 205∨Typed w A.w 203)∧Typed w A.h 148:=by
 cases x with
 |basic b=>obtain⟨_,h1,vs,vn,h2⟩:=h;exact⟨Or.inl h1.typed,h2.blk.typed⟩
 |cyclic c=>obtain⟨_,h1,vs,vn,h2⟩:=h;exact⟨Or.inr h1.typed,h2.blk.typed⟩
theorem WayAt.only {Q:Nat→Prop} (h:WayAt w A O x) (ho:Only Q w w') (hw:¬Q A.w) (hh:¬Q A.h) (h23:∀k,O k→Typed w k 23→¬Q k) (h5:qca Q w):WayAt w' A O x:=by
 cases x with
 |basic b=>obtain⟨h0,h1,vs,vn,h2⟩:=h;exact⟨h0,h1.only ho hw,vs,vn,h2.only ho hh h23 h5⟩
 |cyclic c=>obtain⟨h0,h1,vs,vn,h2⟩:=h;exact⟨h0,h1.only ho hw,vs,vn,h2.only ho hh h23 h5⟩
theorem WayAt.mono {O':Nat→Prop} (h:WayAt w A O x) (hm:∀k,O k→k<w.heap.size→O' k):WayAt w A O' x:=by
 cases x with
 |basic b=>obtain⟨h0,h1,vs,vn,h2⟩:=h;exact⟨h0,h1,vs,vn,h2.mono hm⟩
 |cyclic c=>obtain⟨h0,h1,vs,vn,h2⟩:=h;exact⟨h0,h1,vs,vn,h2.mono hm⟩
theorem WayAt.below (h:WayAt w A O x) (hb:Below w.heap.size w w'):WayAt w' A O x:=h.only (Only.below (P:=fun _=>False) hb) (fun h=>h) (fun h=>h) (fun _ _ _ h=>h) (fun _ h=>h.elim)
theorem WayAt.hacts (h:WayAt w A O x) {h':Sig.Hold} {r:Value} {e:Ending} (k:HActs A.h O w h' r e w'):quq A O w (x.setHold h') r e w':=by
 cases x with
 |basic b =>
  obtain⟨h0,h1,vs,vn,h2⟩:=h;obtain⟨he,hp⟩:=(PAt.refl h1 h2 ⟨by decide,by decide,by decide⟩).hacts0 k;exact⟨he,⟨h0,hp.blk,hp.hold⟩,hp.only⟩
 |cyclic c =>
  obtain⟨h0,h1,vs,vn,h2⟩:=h;obtain⟨he,hp⟩:=(PAt.refl h1 h2 ⟨by decide,by decide,by decide⟩).hacts0 k;exact⟨he,⟨h0,hp.blk,hp.hold⟩,hp.only⟩
theorem qfv (h:WayAt w A O x):Calls Tryz.prog A.fHold #[.pointer (some ⟨A.w,0,none⟩)] w fun e w'=>e=.returned (.pointer (some ⟨A.h,0,none⟩))∧w=w':=by
 unfold Adr.fHold;cases x with
 |basic b=>rw[h.1];exact qxo h.2.1
 |cyclic c=>rw[h.1];exact qxk h.2.1
theorem qs0 (h:WayAt w A O x) (ok:WOk x):Calls Tryz.prog A.fFill #[.pointer (some ⟨A.w,0,none⟩)] w (qm1 w (qax x.fill (.slice none 0 0))):=by
 unfold Adr.fFill;cases x with
 |basic b=>obtain⟨h0,h1,vs,vn,h2⟩:=h;rw[h0];exact qul h1 h2 ok.h
 |cyclic c=>obtain⟨h0,h1,vs,vn,h2⟩:=h;rw[h0];exact qwc h1 h2 ok.h
theorem qwx (h:WayAt w A O x) (ok:WOk x):Calls Tryz.prog A.fNext #[.pointer (some ⟨A.w,0,none⟩)] w (qup A O w x.next.1 x.next.2.info (qax x.next.2)):=by
 unfold Adr.fNext;cases x with
 |basic b =>
  obtain⟨h0,h1,vs,vn,h2⟩:=h;rw[h0];exact(qxn h1 h2 ok).mono fun e w1 ⟨v,a,b,c⟩=>⟨v,a,b,⟨h0,c.blk,c.hold⟩,c.only⟩
 |cyclic c =>
  obtain⟨h0,h1,vs,vn,h2⟩:=h;rw[h0];exact(qxi h1 h2 ok).mono fun e w1 ⟨v,a,b,c⟩=>⟨v,a,b,⟨h0,c.blk,c.hold⟩,c.only⟩
theorem qu4 (h:WayAt w A O x):Calls Tryz.prog A.fReset #[.pointer (some ⟨A.w,0,none⟩)] w (quq A O w x.reset (.tuple #[])):=by
 unfold Adr.fReset;cases x with
 |basic b =>
  obtain⟨h0,h1,vs,vn,h2⟩:=h;rw[h0];exact(qwf h1 h2).mono fun e w1 ⟨a,c⟩=>⟨a,⟨h0,c.blk,c.hold⟩,c.only⟩
 |cyclic c =>
  obtain⟨h0,h1,vs,vn,h2⟩:=h;rw[h0];exact(qv8 h1 h2).mono fun e w1 ⟨a,c⟩=>⟨a,⟨h0,c.blk,c.hold⟩,c.only⟩
theorem qs3 (h:WayAt w A O x) (ok:WOk x) (u:Sig.Unit) (Au:Option Addr) (cu:Nat) (hu:u.bsn<256):Calls Tryz.prog A.fAnswer #[.pointer (some ⟨A.w,0,none⟩),qax u (.slice Au u.info.length cu)] w (quq A O w (x.answer u).1 (qun (x.answer u).2)):=by
 unfold Adr.fAnswer;cases x with
 |basic b =>
  obtain⟨h0,h1,vs,vn,h2⟩:=h;rw[h0];exact(qum h1 h2 ok u Au cu hu).mono fun e w1 ⟨a,c⟩=>⟨a,⟨h0,c.blk,c.hold⟩,c.only⟩
 |cyclic c =>
  obtain⟨h0,h1,vs,vn,h2⟩:=h;rw[h0];exact(quh h1 h2 ok u Au cu hu).mono fun e w1 ⟨a,c⟩=>⟨a,⟨h0,c.blk,c.hold⟩,c.only⟩
theorem qww (h:WayAt w A O x) (ok:WOk x) (u:Sig.Unit) (Au:Option Addr) (cu:Nat) (hoct:Oct w (.slice Au u.info.length cu) u.info) (hlen:u.kind=2→0<u.info.length) (hmax:u.info.length≤1000000):Calls Tryz.prog A.fTake #[.pointer (some ⟨A.w,0,none⟩),qax u (.slice Au u.info.length cu)] w (qsv A O w (x.take u).1 (x.take u).2):=by
 unfold Adr.fTake;cases x with
 |basic b =>
  obtain⟨h0,h1,vs,vn,h2⟩:=h;rw[h0];exact(qxm h1 h2 ok u Au cu hoct hlen hmax).mono fun e w1 ⟨v,a,b,c⟩=>⟨v,a,b,⟨h0,c.blk,c.hold⟩,c.only⟩
 |cyclic c =>
  obtain⟨h0,h1,vs,vn,h2⟩:=h;rw[h0];exact(qxh h1 h2 ok u Au cu hoct hlen hmax).mono fun e w1 ⟨v,a,b,c⟩=>⟨v,a,b,⟨h0,c.blk,c.hold⟩,c.only⟩
end
theorem qh7 {w:World} {A:Adr} {O:Nat→Prop} {x:Sig.Way} (h:WayAt w A O x) (ok:WOk x) (s:Nat) :
  Calls Tryz.prog 108 #[.iface A.ty (.pointer (some ⟨A.w,0,none⟩)),.int .u8 s] w (qm1 w (qax (x.status s) (.slice none 0 0))):=by
 have hm:=qvl A;have hc:=qsu A;have H:=am h;have OK:=am ok;clear h ok;go_enter Tryz.func108,Tryz.ntmps108
 go_wp2_with fail
 refine(qs0 (H.out.below (qaa (Below.refl _ _) qdf)) OK.out).mono ?_;rintro e w1 ⟨rfl,hb1⟩;have hr:=room hb1;have r0:=fun (o:Obj)=>(hr.alloc o).c 0 rfl;have r1:=fun (o:Obj)=>(hr.alloc o).c 1 rfl;have r2:=fun (o:Obj)=>(hr.alloc o).c 2 rfl;have r3:=fun (o:Obj)=>(hr.alloc o).c 3 rfl;have r4:=fun (o:Obj)=>(hr.alloc o).c 4 rfl;have r5:=fun (o:Obj)=>(hr.alloc o).c 5 rfl;have r6:=fun (o:Obj)=>(hr.alloc o).c 6 rfl;have r7:=fun (o:Obj)=>(hr.alloc o).c 7 rfl;have qa:∀(o:Obj) (j:Nat),(w1.alloc o).frozen? ⟨w.heap.size,j,none⟩=false:=fun o j=>(hr.alloc o).f j;have HB:=am hb1;have HR:=am hr;clear hr hb1;unfold qax;go_wp2;refine qc2 rfl (((((((((HR.out.alloc _).set 0 _).set 1 _).set 2 _).set 3 _).set 4 _).set 5 _).set 6 _).set 7 _) rfl rfl rfl ⟨rfl,?_⟩;have hs:w.heap.size≤w1.heap.size:=by have:=HB.out.size;simp[World.alloc_eq] at this;omega
 exact(((((((((((qaa (Below.refl _ _) qdf).trans (HB.out.mono (by simp[World.alloc_eq]))).alloc hs _).setCell (Nat.le_refl _) _).setCell (Nat.le_refl _) _).setCell (Nat.le_refl _) _).setCell (Nat.le_refl _) _).setCell (Nat.le_refl _) _).setCell (Nat.le_refl _) _).setCell (Nat.le_refl _) _).setCell (Nat.le_refl _) _)
theorem Lk.mono {w:World} {A:Adr} {O O':Nat→Prop} {x:Sig.Link} {vt:Value} (h:Lk w A O x vt) (hm:∀k,O k→O' k) (hl:∀k,O' k→k<w.heap.size∧¬Own A k):Lk w A O' x vt:=⟨h.core,Kd.R_mono h.told hm,hl⟩
structure At (A:Adr) (O:Nat→Prop) (w:World) (x:Sig.Link) (w':World) (vt:Value):Prop where
 lk:Lk w' A (qbe O w w') x vt
 only:Only (Wr A O w) w w'
def up (x:Sig.Link) (s:Nat) (o:Sig.Outage) (leak:Sig.Leak) (fails:Nat):Sig.Link:={ x with s:=s,o:=o,leak:=leak,fails:=fails }
theorem Core.up0 {w:World} {A:Adr} {x:Sig.Link} {vt:Value} (h:Core w A x vt) (n:Nat) {u:Value} (hu:u=.int .u8 (n:Nat)):Core (w.setCell ⟨A.s,0,none⟩ u) A (up x n x.o x.leak x.fails) vt:=h.setS0 n hu
theorem Core.up1 {w:World} {A:Adr} {x:Sig.Link} {vt:Value} (h:Core w A x vt) (i:Nat) (u:Value) (o:Sig.Outage) (leak:Sig.Leak) (vt':Value) (fails:Nat) (e:(qj3 A x.o x.leak vt x.fails).set i u=qj3 A o leak vt' fails):Core (w.setCell ⟨A.s,14+i,none⟩ u) A (up x x.s o leak fails) vt':=h.setS i u o leak vt' fails e
section
variable {A:Adr} {O:Nat→Prop} {w w1 w2:World} {x x':Sig.Link} {vt:Value} {r:Value} {e:Ending}
theorem At.refl (h:Lk w A O x vt):At A O w x w vt:=⟨h.mono (fun k hk=>Or.inl hk) (fun k hk=>by rcases hk with hk|hk;exact h.lt k hk;omega),Only.refl _ _⟩
theorem At.acts (h:At A O w x w1 vt) (h':qqs A (qbe O w w1) w1 x' r e w2):e=.returned r∧∃vt',At A O w x' w2 vt':=by
 obtain⟨he,⟨vt',hk⟩,ho⟩:=h';exact⟨he,vt',hk.mono (qbp h.only.size ho.size) (fun k hk'=>by
  rcases hk' with hk'|hk'
  ·exact hk.lt k (Or.inl (Or.inl hk'))
  ·by_cases hlt:k<w1.heap.size
   ·exact hk.lt k (Or.inl (Or.inr ⟨hk'.1,hlt⟩))
   ·exact hk.lt k (Or.inr ⟨by omega,hk'.2⟩)),qme h.only ho⟩
theorem At.turn (h:At A O w x w1 vt) (h':Core w2 A x' vt) (ho:Only (Own A) w1 w2) (ht:x'.told=x.told):At A O w x' w2 vt:=by
 obtain⟨a,b⟩:=h.lk.turn h' ho ht;exact(h.acts (x':=x') (r:=.tuple #[]) ⟨rfl,⟨vt,a⟩,b⟩).elim fun _ hx=>by
  refine⟨a.mono (qbp h.only.size ho.size) (fun k hk'=>?_),qme h.only b⟩;rcases hk' with hk'|hk'
  ·exact a.lt k (Or.inl (Or.inl hk'))
  ·by_cases hlt:k<w1.heap.size
   ·exact a.lt k (Or.inl (Or.inr ⟨hk'.1,hlt⟩))
   ·exact a.lt k (Or.inr ⟨by omega,hk'.2⟩)
theorem At.fin (h:At A O w x w1 vt):qqs A O w x r (.returned r) w1:=⟨rfl,⟨vt,h.lk⟩,h.only⟩
theorem At.drew (h:At A O w x w1 vt):At A O w x w1.drew vt:=h.turn h.lk.core.drew (Only.drew1 w1) rfl
theorem At.below (h:At A O w x w1 vt) (hb:Below w1.heap.size w1 w2):At A O w x w2 vt:=h.turn (h.lk.core.below hb) (qdm hb) rfl
theorem qv7 (h:Core w A x vt):Calls Tryz.prog 87 #[.pointer (some ⟨A.c,0,none⟩)] w (qc9 A w { x with c:=Sig.cZero } vt (.tuple #[])):=by
 refine(ql1 A.c x.c w h.cl).mono ?_;rintro e w' ⟨rfl,h1,h2⟩;exact⟨rfl,h.clock h2 h1,qrj h2⟩
theorem qa9 (w:World) (O:Nat→Prop):(Kd.int .u8).R 5 w 0 O (.slice none 0 0) (([]:List Nat).map (fun n:Nat=>(n:Int))):=Kd.R_nil _ _ _ _ _
end
theorem qa3 {A:Adr} {O:Nat→Prop} {x:Sig.Link} {vt:Value} {w:World} (h:Lk w A O x vt) (hf:x.fails<1000000) (hl:x.told.length≤1000000) (why:Nat) :
  Calls Tryz.prog 61 #[.pointer (some ⟨A.s,0,none⟩),.int .u8 why] w (qqs A O w (x.fail why) (.tuple #[])):=by
 have H0:=am (At.refl h);have HF:=am hf;have HL:=am hl;obtain⟨s0,s14,s15,s16,s17,s18,s19,s20,s21,s22,s23,s24,z0,z18,z19,z20,z21,z22,z23,z24⟩:=h.core.fs;clear h hf hl;by_cases hs:x.s=0
 ·have s0e:=b_t x.s 0 (by omega);have hp:x.fail why=x:=by simp[Sig.Link.fail,hs]
  rw[hp];clear hp;go_enter Tryz.func61,Tryz.ntmps61
  go_wp2_with fail
  go_end0;exact H0.out.fin
 ·have s0e:=b_f x.s 0 (by omega);have hp:x.fail why=Sig.Link.tell (up { x.aEnd.jClear with c:=Sig.cZero } 0 ⟨x.o.own,false,false⟩ ⟨0,0⟩ (x.fails+1)) ⟨2,why,[]⟩:=by simp[Sig.Link.fail,hs,up,Sig.Link.aEnd,Sig.Link.jClear,Sig.Link.stop]
  rw[hp];clear hp;go_enter Tryz.func61,Tryz.ntmps61
  go_wp2_with fail
  refine(qfj H0.out.lk.core).mono ?_;rintro e w1 ⟨rfl,h',o'⟩;have H1:=am (H0.out.turn h' o' rfl);clear h' o';clear s0 s14 s15 s16 s17 s18 s19 s20 s21 s22 s23 s24 z0 z18 z19 z20 z21 z22 z23 z24;have hfs:=H1.out.lk.core;obtain⟨s0,s14,s15,s16,s17,s18,s19,s20,s21,s22,s23,s24,z0,z18,z19,z20,z21,z22,z23,z24⟩:=hfs.fs;clear hfs
  go_wp2_with fail
  refine(qfs H1.out.lk.core).mono ?_;rintro e w2 ⟨rfl,h',o'⟩;have H2:=am (H1.out.turn h' o' rfl);clear h' o';clear s0 s14 s15 s16 s17 s18 s19 s20 s21 s22 s23 s24 z0 z18 z19 z20 z21 z22 z23 z24;have hfs:=H2.out.lk.core;obtain⟨s0,s14,s15,s16,s17,s18,s19,s20,s21,s22,s23,s24,z0,z18,z19,z20,z21,z22,z23,z24⟩:=hfs.fs;clear hfs
  go_wp2_with fail
  refine(qv7 H2.out.lk.core).mono ?_;rintro e w3 ⟨rfl,h',o'⟩;have H3:=am (H2.out.turn h' o' rfl);clear h' o';clear s0 s14 s15 s16 s17 s18 s19 s20 s21 s22 s23 s24 z0 z18 z19 z20 z21 z22 z23 z24;have hfs:=H3.out.lk.core;obtain⟨s0,s14,s15,s16,s17,s18,s19,s20,s21,s22,s23,s24,z0,z18,z19,z20,z21,z22,z23,z24⟩:=hfs.fs;clear hfs;have wf:=w64n x.fails HF.out;replace s18:w3.cell? ⟨A.s,18,none⟩=some (.bool x.o.own):=s18;replace s24:w3.cell? ⟨A.s,24,none⟩=some (.int .i64 (x.fails:Nat)):=s24
  go_wp2_with fail
  have c':=H3.out.lk.core.up0 0 (u:=(.int .u8 0)) rfl;have c':=c'.up1 7 (.int .i64 0) ⟨x.o.own,x.o.their,x.o.wait⟩ ⟨0,x.leak.seen⟩ vt x.fails rfl;have c':=c'.up1 8 (.int .i64 0) ⟨x.o.own,x.o.their,x.o.wait⟩ ⟨0,0⟩ vt x.fails rfl;have c':=c'.up1 4 (.bool x.o.own) ⟨x.o.own,x.o.their,x.o.wait⟩ ⟨0,0⟩ vt x.fails rfl;have c':=c'.up1 5 (.bool false) ⟨x.o.own,false,x.o.wait⟩ ⟨0,0⟩ vt x.fails rfl;have c':=c'.up1 6 (.bool false) ⟨x.o.own,false,false⟩ ⟨0,0⟩ vt x.fails rfl;have c':=c'.up1 10 (.int .i64 ((x.fails:Int)+1)) ⟨x.o.own,false,false⟩ ⟨0,0⟩ vt (x.fails+1) rfl;have o':=((((((((Only.refl (Own A) w3).trans (qaz 0 (.int .u8 0))).trans (qaz 21 (.int .i64 0))).trans (qaz 22 (.int .i64 0))).trans (qaz 18 (.bool x.o.own))).trans (qaz 19 (.bool false))).trans (qaz 20 (.bool false))).trans (qaz 24 (.int .i64 ((x.fails:Int)+1))));generalize (((((((w3.setCell ⟨A.s,0,none⟩ (.int .u8 0)).setCell ⟨A.s,21,none⟩ (.int .i64 0)).setCell ⟨A.s,22,none⟩ (.int .i64 0)).setCell ⟨A.s,18,none⟩ (.bool x.o.own)).setCell ⟨A.s,19,none⟩ (.bool false)).setCell ⟨A.s,20,none⟩ (.bool false)).setCell ⟨A.s,24,none⟩ (.int .i64 ((x.fails:Int)+1)))=w4 at c' o' ⊢;have H4:qac (At A O w (up { x.aEnd.jClear with c:=Sig.cZero } 0 ⟨x.o.own,false,false⟩ ⟨0,0⟩ (x.fails+1)) w4 vt):=⟨H3.out.turn c' o' rfl⟩;clear c' o';refine(qa5 H4.out.lk HL.out ⟨2,why,[]⟩ _ (qa9 _ _)).mono ?_;rintro e w5 h';obtain⟨rfl,vt5,h''⟩:=H4.out.acts h';have H5:=am h'';clear h' h'';go_wp2;go_end0;exact H5.out.fin
theorem qcz {A:Adr} {O:Nat→Prop} {x:Sig.Link} {vt:Value} {w:World} (h:Lk w A O x vt) :
  Calls Tryz.prog 93 #[.pointer (some ⟨A.s,0,none⟩)] w (qqs A O w x.halt (.tuple #[])):=by
 have H0:=am (At.refl h);obtain⟨s0,s14,s15,s16,s17,s18,s19,s20,s21,s22,s23,s24,z0,z18,z19,z20,z21,z22,z23,z24⟩:=h.core.fs;clear h ;go_enter Tryz.func93,Tryz.ntmps93
 go_wp2_with fail
 have c':=H0.out.lk.core.up0 5 (u:=(.int .u8 5)) rfl;have o':=((Only.refl (Own A) w).trans (qaz 0 (.int .u8 5)));generalize (w.setCell ⟨A.s,0,none⟩ (.int .u8 5))=w1 at c' o' ⊢;have H1:qac (At A O w (up x 5 ⟨x.o.own,x.o.their,x.o.wait⟩ ⟨x.leak.n,x.leak.seen⟩ x.fails) w1 vt):=⟨H0.out.turn c' o' rfl⟩;clear c' o';clear s0 s14 s15 s16 s17 s18 s19 s20 s21 s22 s23 s24 z0 z18 z19 z20 z21 z22 z23 z24;have hfs:=H1.out.lk.core;obtain⟨s0,s14,s15,s16,s17,s18,s19,s20,s21,s22,s23,s24,z0,z18,z19,z20,z21,z22,z23,z24⟩:=hfs.fs;clear hfs
 go_wp2_with fail
 refine(qfs H1.out.lk.core).mono ?_;rintro e w2 ⟨rfl,h',o'⟩;have H2:=am (H1.out.turn h' o' rfl);clear h' o';clear s0 s14 s15 s16 s17 s18 s19 s20 s21 s22 s23 s24 z0 z18 z19 z20 z21 z22 z23 z24;have hfs:=H2.out.lk.core;obtain⟨s0,s14,s15,s16,s17,s18,s19,s20,s21,s22,s23,s24,z0,z18,z19,z20,z21,z22,z23,z24⟩:=hfs.fs;clear hfs
 go_wp2_with fail
 refine(qf9 H2.out.lk.core [7] (by decide) (by decide) rfl rfl rfl).mono ?_;rintro e w3 ⟨rfl,h',o'⟩;have H3:=am (H2.out.turn h' o' rfl);clear h' o';go_wp2;go_end0;exact H3.out.fin
theorem qjh {A:Adr} {O:Nat→Prop} {x:Sig.Link} {vt:Value} {w:World} (h:Lk w A O x vt) :
  Calls Tryz.prog 99 #[.pointer (some ⟨A.s,0,none⟩)] w (qqs A O w x.aligned (.tuple #[])):=by
 have H0:=am (At.refl h);obtain⟨s0,s14,s15,s16,s17,s18,s19,s20,s21,s22,s23,s24,z0,z18,z19,z20,z21,z22,z23,z24⟩:=h.core.fs;clear h ;cases ho:x.o.own
 all_goals rw[ho] at s18
 ·have hp:x.aligned=Sig.Link.start (up x 2 x.o x.leak x.fails) 1:=by simp[Sig.Link.aligned,up,ho]
  rw[hp];clear hp;go_enter Tryz.func99,Tryz.ntmps99
  go_wp2_with fail
  have c':=H0.out.lk.core.up0 2 (u:=(.int .u8 2)) rfl;have o':=((Only.refl (Own A) w).trans (qaz 0 (.int .u8 2)));generalize (w.setCell ⟨A.s,0,none⟩ (.int .u8 2))=w1 at c' o' ⊢;have H1:qac (At A O w (up x 2 ⟨x.o.own,x.o.their,x.o.wait⟩ ⟨x.leak.n,x.leak.seen⟩ x.fails) w1 vt):=⟨H0.out.turn c' o' rfl⟩;clear c' o';clear s0 s14 s15 s16 s17 s18 s19 s20 s21 s22 s23 s24 z0 z18 z19 z20 z21 z22 z23 z24;have hfs:=H1.out.lk.core;obtain⟨s0,s14,s15,s16,s17,s18,s19,s20,s21,s22,s23,s24,z0,z18,z19,z20,z21,z22,z23,z24⟩:=hfs.fs;clear hfs;have t1:w1.cell? ⟨A.s,7,none⟩=some (.int .i64 (x.T 1:Nat)):=H1.out.lk.core.sT 1 (by decide)
  go_wp2_with fail
  go_still_tail 10,(by kernel_rfl);change wpList _ _ _ _ _ w1.drew
  go_wp2_with fail
  have H2:=am H1.out.drew;refine(qcm H2.out.lk.core 1 (by decide) rfl).mono ?_;rintro e w2 ⟨rfl,h',o'⟩;have H3:=am (H2.out.turn h' o' rfl);clear h' o';go_wp2;go_end0;exact H3.out.fin
 ·have hp:x.aligned=Sig.Link.start (up x 3 x.o x.leak x.fails) 1:=by simp[Sig.Link.aligned,up,ho]
  rw[hp];clear hp;go_enter Tryz.func99,Tryz.ntmps99
  go_wp2_with fail
  have c':=H0.out.lk.core.up0 2 (u:=(.int .u8 2)) rfl;have c':=c'.up0 3 (u:=(.int .u8 3)) rfl;have o':=(((Only.refl (Own A) w).trans (qaz 0 (.int .u8 2))).trans (qaz 0 (.int .u8 3)));generalize ((w.setCell ⟨A.s,0,none⟩ (.int .u8 2)).setCell ⟨A.s,0,none⟩ (.int .u8 3))=w1 at c' o' ⊢;have H1:qac (At A O w (up x 3 ⟨x.o.own,x.o.their,x.o.wait⟩ ⟨x.leak.n,x.leak.seen⟩ x.fails) w1 vt):=⟨H0.out.turn c' o' rfl⟩;clear c' o';clear s0 s14 s15 s16 s17 s18 s19 s20 s21 s22 s23 s24 z0 z18 z19 z20 z21 z22 z23 z24;have hfs:=H1.out.lk.core;obtain⟨s0,s14,s15,s16,s17,s18,s19,s20,s21,s22,s23,s24,z0,z18,z19,z20,z21,z22,z23,z24⟩:=hfs.fs;clear hfs;have t1:w1.cell? ⟨A.s,7,none⟩=some (.int .i64 (x.T 1:Nat)):=H1.out.lk.core.sT 1 (by decide)
  go_wp2_with fail
  go_still_tail 10,(by kernel_rfl);change wpList _ _ _ _ _ w1.drew
  go_wp2_with fail
  have H2:=am H1.out.drew;refine(qcm H2.out.lk.core 1 (by decide) rfl).mono ?_;rintro e w2 ⟨rfl,h',o'⟩;have H3:=am (H2.out.turn h' o' rfl);clear h' o';go_wp2;go_end0;exact H3.out.fin
theorem qc1 {A:Adr} {O:Nat→Prop} {x:Sig.Link} {vt:Value} {w:World} (h:Lk w A O x vt) (hl:x.told.length≤1000000) :
  Calls Tryz.prog 124 #[.pointer (some ⟨A.s,0,none⟩)] w (qqs A O w x.serve (.tuple #[])):=by
 have H0:=am (At.refl h);have HL:=am hl;obtain⟨s0,s14,s15,s16,s17,s18,s19,s20,s21,s22,s23,s24,z0,z18,z19,z20,z21,z22,z23,z24⟩:=h.core.fs;clear h hl;obtain⟨io,hio⟩:∃b,x.o.is=b:=⟨_,rfl⟩;cases io
 ·have hp:x.serve=Sig.Link.tell (up (x.stop [1]) 4 x.o x.leak x.fails) ⟨1,0,[]⟩:=by simp[Sig.Link.serve,up,Sig.Link.tell,Sig.Link.stop,hio]
  rw[hp];clear hp;go_enter Tryz.func124,Tryz.ntmps124
  go_wp2_with fail
  refine(qf9 H0.out.lk.core [1] (by decide) (by decide) rfl rfl rfl).mono ?_;rintro e w1 ⟨rfl,h',o'⟩;have H1:=am (H0.out.turn h' o' rfl);clear h' o';clear s0 s14 s15 s16 s17 s18 s19 s20 s21 s22 s23 s24 z0 z18 z19 z20 z21 z22 z23 z24;have hfs:=H1.out.lk.core;obtain⟨s0,s14,s15,s16,s17,s18,s19,s20,s21,s22,s23,s24,z0,z18,z19,z20,z21,z22,z23,z24⟩:=hfs.fs;clear hfs
  go_wp2_with fail
  have c':=H1.out.lk.core.up0 4 (u:=(.int .u8 4)) rfl;have o':=((Only.refl (Own A) w1).trans (qaz 0 (.int .u8 4)));generalize (w1.setCell ⟨A.s,0,none⟩ (.int .u8 4))=w2 at c' o' ⊢;have H2:qac (At A O w (up (x.stop [1]) 4 ⟨x.o.own,x.o.their,x.o.wait⟩ ⟨x.leak.n,x.leak.seen⟩ x.fails) w2 vt):=⟨H1.out.turn c' o' rfl⟩;clear c' o';refine(qa5 H2.out.lk HL.out ⟨1,0,[]⟩ _ (qa9 _ _)).mono ?_;rintro e w3 h';obtain⟨rfl,vt3,h''⟩:=H2.out.acts h';have H3:=am h'';clear h' h'';clear s0 s14 s15 s16 s17 s18 s19 s20 s21 s22 s23 s24 z0 z18 z19 z20 z21 z22 z23 z24;have hfs:=H3.out.lk.core;obtain⟨s0,s14,s15,s16,s17,s18,s19,s20,s21,s22,s23,s24,z0,z18,z19,z20,z21,z22,z23,z24⟩:=hfs.fs;clear hfs
  go_wp2_with fail
  refine(MTopTotal.outage_Outage_Is.calls x.o.own x.o.their x.o.wait false w3 (by rw[←hio];simp only[MTopTotal.outage_Outage_Is.f,Sig.Outage.is];cases x.o.own <;> cases x.o.their <;> cases x.o.wait <;> rfl)).mono ?_;rintro e w4 ⟨rfl,hb⟩;have H4:=am (H3.out.below hb);clear hb;go_wp2;go_end0;exact H4.out.fin
 ·have hp:x.serve=Sig.Link.halt (Sig.Link.tell (up (x.stop [1]) 4 x.o x.leak x.fails) ⟨1,0,[]⟩):=by simp[Sig.Link.serve,up,Sig.Link.tell,Sig.Link.stop,hio]
  rw[hp];clear hp;go_enter Tryz.func124,Tryz.ntmps124
  go_wp2_with fail
  refine(qf9 H0.out.lk.core [1] (by decide) (by decide) rfl rfl rfl).mono ?_;rintro e w1 ⟨rfl,h',o'⟩;have H1:=am (H0.out.turn h' o' rfl);clear h' o';clear s0 s14 s15 s16 s17 s18 s19 s20 s21 s22 s23 s24 z0 z18 z19 z20 z21 z22 z23 z24;have hfs:=H1.out.lk.core;obtain⟨s0,s14,s15,s16,s17,s18,s19,s20,s21,s22,s23,s24,z0,z18,z19,z20,z21,z22,z23,z24⟩:=hfs.fs;clear hfs
  go_wp2_with fail
  have c':=H1.out.lk.core.up0 4 (u:=(.int .u8 4)) rfl;have o':=((Only.refl (Own A) w1).trans (qaz 0 (.int .u8 4)));generalize (w1.setCell ⟨A.s,0,none⟩ (.int .u8 4))=w2 at c' o' ⊢;have H2:qac (At A O w (up (x.stop [1]) 4 ⟨x.o.own,x.o.their,x.o.wait⟩ ⟨x.leak.n,x.leak.seen⟩ x.fails) w2 vt):=⟨H1.out.turn c' o' rfl⟩;clear c' o';refine(qa5 H2.out.lk HL.out ⟨1,0,[]⟩ _ (qa9 _ _)).mono ?_;rintro e w3 h';obtain⟨rfl,vt3,h''⟩:=H2.out.acts h';have H3:=am h'';clear h' h'';clear s0 s14 s15 s16 s17 s18 s19 s20 s21 s22 s23 s24 z0 z18 z19 z20 z21 z22 z23 z24;have hfs:=H3.out.lk.core;obtain⟨s0,s14,s15,s16,s17,s18,s19,s20,s21,s22,s23,s24,z0,z18,z19,z20,z21,z22,z23,z24⟩:=hfs.fs;clear hfs
  go_wp2_with fail
  refine(MTopTotal.outage_Outage_Is.calls x.o.own x.o.their x.o.wait true w3 (by rw[←hio];simp only[MTopTotal.outage_Outage_Is.f,Sig.Outage.is];cases x.o.own <;> cases x.o.their <;> cases x.o.wait <;> rfl)).mono ?_;rintro e w4 ⟨rfl,hb⟩;have H4:=am (H3.out.below hb);clear hb;clear s0 s14 s15 s16 s17 s18 s19 s20 s21 s22 s23 s24 z0 z18 z19 z20 z21 z22 z23 z24;have hfs:=H4.out.lk.core;obtain⟨s0,s14,s15,s16,s17,s18,s19,s20,s21,s22,s23,s24,z0,z18,z19,z20,z21,z22,z23,z24⟩:=hfs.fs;clear hfs
  go_wp2_with fail
  refine(qcz H4.out.lk).mono ?_;rintro e w5 h';obtain⟨rfl,vt5,h''⟩:=H4.out.acts h';have H5:=am h'';clear h' h'';go_wp2;go_end0;exact H5.out.fin
theorem qpb {A:Adr} {O:Nat→Prop} {x:Sig.Link} {vt:Value} {w:World} (h:Lk w A O x vt) (hf:x.fails<1000000) (hl:x.told.length≤1000000) (i:Nat) :
  Calls Tryz.prog 71 #[.pointer (some ⟨A.s,0,none⟩),.int .i64 i] w (qqs A O w (x.out i) (.tuple #[])):=by
 have H0:=am (At.refl h);have HF:=am hf;have HL:=am hl;obtain⟨s0,s14,s15,s16,s17,s18,s19,s20,s21,s22,s23,s24,z0,z18,z19,z20,z21,z22,z23,z24⟩:=h.core.fs;clear h hf hl;by_cases h0:x.s=0
 ·skip;have hp:x.out i=x:=by simp[Sig.Link.out,h0]
  rw[hp];clear hp;have e0:=b_t x.s 0 (by omega)
  try clear hr
  try clear hw
  try clear i1
  try clear i7
  try clear h0
  try clear h1
  try clear h2
  try clear h3
  try clear h4
  go_enter Tryz.func71,Tryz.ntmps71
  go_wp2_with fail
  go_end0;exact H0.out.fin
 ·by_cases h1:x.s=1
  ·rcases hr:x.aOut i with ⟨y,done,why⟩
   have hy:y.fails=x.fails∧y.told=x.told:=by have:=congrArg (·.1.fails) hr;have h2:=congrArg (·.1.told) hr;simp only at this h2;rw[←this,←h2];unfold Sig.Link.aOut;(repeat' split) <;> exact⟨rfl,rfl⟩
   have HY:=am hy;have HR:=am hr;clear hy;by_cases hw:why=0
   ·subst hw;cases done
    ·skip;have hp:x.out i=y:=by simp[Sig.Link.out,h0,h1,hr]
     rw[hp];clear hp;have e0:=b_f x.s 0 (by omega);have e1:=b_t x.s 1 (by omega)
     try clear hr
     try clear hw
     try clear i1
     try clear i7
     try clear h0
     try clear h1
     try clear h2
     try clear h3
     try clear h4
     go_enter Tryz.func71,Tryz.ntmps71
     go_wp2_with fail
     refine(qfi H0.out.lk.core i).mono ?_;rw[HR.out];rintro e w1 ⟨rfl,h',o'⟩;have H1:=am (H0.out.turn h' o' HY.out.2);clear h' o';clear s0 s14 s15 s16 s17 s18 s19 s20 s21 s22 s23 s24 z0 z18 z19 z20 z21 z22 z23 z24;have hfs:=H1.out.lk.core;obtain⟨s0,s14,s15,s16,s17,s18,s19,s20,s21,s22,s23,s24,z0,z18,z19,z20,z21,z22,z23,z24⟩:=hfs.fs;clear hfs
     go_wp2_with fail
     go_end0;exact H1.out.fin
    ·skip;have hp:x.out i=y.aligned:=by simp[Sig.Link.out,h0,h1,hr]
     rw[hp];clear hp;have e0:=b_f x.s 0 (by omega);have e1:=b_t x.s 1 (by omega)
     try clear hr
     try clear hw
     try clear i1
     try clear i7
     try clear h0
     try clear h1
     try clear h2
     try clear h3
     try clear h4
     go_enter Tryz.func71,Tryz.ntmps71
     go_wp2_with fail
     refine(qfi H0.out.lk.core i).mono ?_;rw[HR.out];rintro e w1 ⟨rfl,h',o'⟩;have H1:=am (H0.out.turn h' o' HY.out.2);clear h' o';clear s0 s14 s15 s16 s17 s18 s19 s20 s21 s22 s23 s24 z0 z18 z19 z20 z21 z22 z23 z24;have hfs:=H1.out.lk.core;obtain⟨s0,s14,s15,s16,s17,s18,s19,s20,s21,s22,s23,s24,z0,z18,z19,z20,z21,z22,z23,z24⟩:=hfs.fs;clear hfs
     go_wp2_with fail
     refine(qjh H1.out.lk).mono ?_;rintro e w2 h';obtain⟨rfl,vt2,h''⟩:=H1.out.acts h';have H2:=am h'';clear h' h'';go_wp2;go_end0;exact H2.out.fin
   ·skip;have wn:(((why:Nat):Int) != 0)=true:=bne_iff_ne.2 (by omega);have hp:x.out i=y.fail why:=by simp[Sig.Link.out,h0,h1,hr,hw]
    rw[hp];clear hp;have e0:=b_f x.s 0 (by omega);have e1:=b_t x.s 1 (by omega)
    try clear hr
    try clear hw
    try clear i1
    try clear i7
    try clear h0
    try clear h1
    try clear h2
    try clear h3
    try clear h4
    go_enter Tryz.func71,Tryz.ntmps71
    go_wp2_with fail
    refine(qfi H0.out.lk.core i).mono ?_;rw[HR.out];rintro e w1 ⟨rfl,h',o'⟩;have H1:=am (H0.out.turn h' o' HY.out.2);clear h' o';clear s0 s14 s15 s16 s17 s18 s19 s20 s21 s22 s23 s24 z0 z18 z19 z20 z21 z22 z23 z24;have hfs:=H1.out.lk.core;obtain⟨s0,s14,s15,s16,s17,s18,s19,s20,s21,s22,s23,s24,z0,z18,z19,z20,z21,z22,z23,z24⟩:=hfs.fs;clear hfs
    go_wp2_with fail
    refine(qa3 H1.out.lk (by rw[HY.out.1];exact HF.out) (by rw[HY.out.2];exact HL.out) why).mono ?_;rintro e w2 h';obtain⟨rfl,vt2,h''⟩:=H1.out.acts h';have H2:=am h'';clear h' h'';go_wp2;go_end0;exact H2.out.fin
  ·by_cases i1:i=1
   ·by_cases h2:x.s=2
    ·skip;have hp:x.out i=x.fail 6:=by simp[Sig.Link.out,h0,h1,h2,i1]
     rw[hp];clear hp;have e0:=b_f x.s 0 (by omega);have e1:=b_f x.s 1 (by omega);have e2:=b_t x.s 2 (by omega);have q1:=b_t i 1 (by omega)
     try clear hr
     try clear hw
     try clear i1
     try clear i7
     try clear h0
     try clear h1
     try clear h2
     try clear h3
     try clear h4
     go_enter Tryz.func71,Tryz.ntmps71
     go_wp2_with fail
     refine(qa3 H0.out.lk HF.out HL.out 6).mono ?_;rintro e w1 h';obtain⟨rfl,vt1,h''⟩:=H0.out.acts h';have H1:=am h'';clear h' h'';go_wp2;go_end0;exact H1.out.fin
    ·by_cases h3:x.s=3
     ·skip;have hp:x.out i=x.fail 6:=by simp[Sig.Link.out,h0,h1,h3,i1]
      rw[hp];clear hp;have e0:=b_f x.s 0 (by omega);have e1:=b_f x.s 1 (by omega);have e2:=b_f x.s 2 (by omega);have e3:=b_t x.s 3 (by omega);have q1:=b_t i 1 (by omega)
      try clear hr
      try clear hw
      try clear i1
      try clear i7
      try clear h0
      try clear h1
      try clear h2
      try clear h3
      try clear h4
      go_enter Tryz.func71,Tryz.ntmps71
      go_wp2_with fail
      refine(qa3 H0.out.lk HF.out HL.out 6).mono ?_;rintro e w1 h';obtain⟨rfl,vt1,h''⟩:=H0.out.acts h';have H1:=am h'';clear h' h'';go_wp2;go_end0;exact H1.out.fin
     ·rcases hr:x.jOut i with ⟨y,why⟩
      have hy:y.fails=x.fails∧y.told=x.told:=by have:=congrArg (·.1.fails) hr;have h2:=congrArg (·.1.told) hr;simp only at this h2;rw[←this,←h2];unfold Sig.Link.jOut;(repeat' split) <;> exact⟨rfl,rfl⟩
      have HY:=am hy;have HR:=am hr;clear hy;by_cases hw:why=0
      ·subst hw;have hp:x.out i=y:=by unfold Sig.Link.out;rw[if_neg h0,if_neg h1,if_neg (by omega),if_neg (by omega),hr];rfl
       rw[hp];clear hp;have e0:=b_f x.s 0 (by omega);have e1:=b_f x.s 1 (by omega);have e2:=b_f x.s 2 (by omega);have e3:=b_f x.s 3 (by omega);have q1:=b_t i 1 (by omega);have q7:=b_f i 7 (by omega)
       try clear hr
       try clear hw
       try clear i1
       try clear i7
       try clear h0
       try clear h1
       try clear h2
       try clear h3
       try clear h4
       go_enter Tryz.func71,Tryz.ntmps71
       go_wp2_with fail
       refine(qce H0.out.lk.core i).mono ?_;rw[HR.out];rintro e w1 ⟨rfl,h',o'⟩;have H1:=am (H0.out.turn h' o' HY.out.2);clear h' o';clear s0 s14 s15 s16 s17 s18 s19 s20 s21 s22 s23 s24 z0 z18 z19 z20 z21 z22 z23 z24;have hfs:=H1.out.lk.core;obtain⟨s0,s14,s15,s16,s17,s18,s19,s20,s21,s22,s23,s24,z0,z18,z19,z20,z21,z22,z23,z24⟩:=hfs.fs;clear hfs
       go_wp2_with fail
       go_end0;exact H1.out.fin
      ·skip;have wn:(((why:Nat):Int) != 0)=true:=bne_iff_ne.2 (by omega);have hp:x.out i=y.fail why:=by unfold Sig.Link.out;rw[if_neg h0,if_neg h1,if_neg (by omega),if_neg (by omega),hr];exact if_pos hw
       rw[hp];clear hp;have e0:=b_f x.s 0 (by omega);have e1:=b_f x.s 1 (by omega);have e2:=b_f x.s 2 (by omega);have e3:=b_f x.s 3 (by omega);have q1:=b_t i 1 (by omega);have q7:=b_f i 7 (by omega)
       try clear hr
       try clear hw
       try clear i1
       try clear i7
       try clear h0
       try clear h1
       try clear h2
       try clear h3
       try clear h4
       go_enter Tryz.func71,Tryz.ntmps71
       go_wp2_with fail
       refine(qce H0.out.lk.core i).mono ?_;rw[HR.out];rintro e w1 ⟨rfl,h',o'⟩;have H1:=am (H0.out.turn h' o' HY.out.2);clear h' o';clear s0 s14 s15 s16 s17 s18 s19 s20 s21 s22 s23 s24 z0 z18 z19 z20 z21 z22 z23 z24;have hfs:=H1.out.lk.core;obtain⟨s0,s14,s15,s16,s17,s18,s19,s20,s21,s22,s23,s24,z0,z18,z19,z20,z21,z22,z23,z24⟩:=hfs.fs;clear hfs
       go_wp2_with fail
       refine(qa3 H1.out.lk (by rw[HY.out.1];exact HF.out) (by rw[HY.out.2];exact HL.out) why).mono ?_;rintro e w2 h';obtain⟨rfl,vt2,h''⟩:=H1.out.acts h';have H2:=am h'';clear h' h'';go_wp2;go_end0;exact H2.out.fin
   ·by_cases i7:i=7
    ·by_cases h4:x.s=4
     ·skip;have hp:x.out i=x.fail 2:=by simp[Sig.Link.out,h0,h1,h4,i7]
      rw[hp];clear hp;have e0:=b_f x.s 0 (by omega);have e1:=b_f x.s 1 (by omega);have e4:=b_t x.s 4 (by omega);have q1:=b_f i 1 (by omega);have q7:=b_t i 7 (by omega)
      try clear hr
      try clear hw
      try clear i1
      try clear i7
      try clear h0
      try clear h1
      try clear h2
      try clear h3
      try clear h4
      go_enter Tryz.func71,Tryz.ntmps71
      go_wp2_with fail
      refine(qa3 H0.out.lk HF.out HL.out 2).mono ?_;rintro e w1 h';obtain⟨rfl,vt1,h''⟩:=H0.out.acts h';have H1:=am h'';clear h' h'';go_wp2;go_end0;exact H1.out.fin
     ·rcases hr:x.jOut i with ⟨y,why⟩
      have hy:y.fails=x.fails∧y.told=x.told:=by have:=congrArg (·.1.fails) hr;have h2:=congrArg (·.1.told) hr;simp only at this h2;rw[←this,←h2];unfold Sig.Link.jOut;(repeat' split) <;> exact⟨rfl,rfl⟩
      have HY:=am hy;have HR:=am hr;clear hy;by_cases hw:why=0
      ·subst hw;have hp:x.out i=y:=by unfold Sig.Link.out;rw[if_neg h0,if_neg h1,if_neg (by omega),if_neg (by omega),hr];rfl
       rw[hp];clear hp;have e0:=b_f x.s 0 (by omega);have e1:=b_f x.s 1 (by omega);have e4:=b_f x.s 4 (by omega);have q1:=b_f i 1 (by omega);have q7:=b_t i 7 (by omega)
       try clear hr
       try clear hw
       try clear i1
       try clear i7
       try clear h0
       try clear h1
       try clear h2
       try clear h3
       try clear h4
       go_enter Tryz.func71,Tryz.ntmps71
       go_wp2_with fail
       refine(qce H0.out.lk.core i).mono ?_;rw[HR.out];rintro e w1 ⟨rfl,h',o'⟩;have H1:=am (H0.out.turn h' o' HY.out.2);clear h' o';clear s0 s14 s15 s16 s17 s18 s19 s20 s21 s22 s23 s24 z0 z18 z19 z20 z21 z22 z23 z24;have hfs:=H1.out.lk.core;obtain⟨s0,s14,s15,s16,s17,s18,s19,s20,s21,s22,s23,s24,z0,z18,z19,z20,z21,z22,z23,z24⟩:=hfs.fs;clear hfs
       go_wp2_with fail
       go_end0;exact H1.out.fin
      ·skip;have wn:(((why:Nat):Int) != 0)=true:=bne_iff_ne.2 (by omega);have hp:x.out i=y.fail why:=by unfold Sig.Link.out;rw[if_neg h0,if_neg h1,if_neg (by omega),if_neg (by omega),hr];exact if_pos hw
       rw[hp];clear hp;have e0:=b_f x.s 0 (by omega);have e1:=b_f x.s 1 (by omega);have e4:=b_f x.s 4 (by omega);have q1:=b_f i 1 (by omega);have q7:=b_t i 7 (by omega)
       try clear hr
       try clear hw
       try clear i1
       try clear i7
       try clear h0
       try clear h1
       try clear h2
       try clear h3
       try clear h4
       go_enter Tryz.func71,Tryz.ntmps71
       go_wp2_with fail
       refine(qce H0.out.lk.core i).mono ?_;rw[HR.out];rintro e w1 ⟨rfl,h',o'⟩;have H1:=am (H0.out.turn h' o' HY.out.2);clear h' o';clear s0 s14 s15 s16 s17 s18 s19 s20 s21 s22 s23 s24 z0 z18 z19 z20 z21 z22 z23 z24;have hfs:=H1.out.lk.core;obtain⟨s0,s14,s15,s16,s17,s18,s19,s20,s21,s22,s23,s24,z0,z18,z19,z20,z21,z22,z23,z24⟩:=hfs.fs;clear hfs
       go_wp2_with fail
       refine(qa3 H1.out.lk (by rw[HY.out.1];exact HF.out) (by rw[HY.out.2];exact HL.out) why).mono ?_;rintro e w2 h';obtain⟨rfl,vt2,h''⟩:=H1.out.acts h';have H2:=am h'';clear h' h'';go_wp2;go_end0;exact H2.out.fin
    ·rcases hr:x.jOut i with ⟨y,why⟩
     have hy:y.fails=x.fails∧y.told=x.told:=by have:=congrArg (·.1.fails) hr;have h2:=congrArg (·.1.told) hr;simp only at this h2;rw[←this,←h2];unfold Sig.Link.jOut;(repeat' split) <;> exact⟨rfl,rfl⟩
     have HY:=am hy;have HR:=am hr;clear hy;by_cases hw:why=0
     ·subst hw;have hp:x.out i=y:=by unfold Sig.Link.out;rw[if_neg h0,if_neg h1,if_neg (by omega),if_neg (by omega),hr];rfl
      rw[hp];clear hp;have e0:=b_f x.s 0 (by omega);have e1:=b_f x.s 1 (by omega);have q1:=b_f i 1 (by omega);have q7:=b_f i 7 (by omega)
      try clear hr
      try clear hw
      try clear i1
      try clear i7
      try clear h0
      try clear h1
      try clear h2
      try clear h3
      try clear h4
      go_enter Tryz.func71,Tryz.ntmps71
      go_wp2_with fail
      refine(qce H0.out.lk.core i).mono ?_;rw[HR.out];rintro e w1 ⟨rfl,h',o'⟩;have H1:=am (H0.out.turn h' o' HY.out.2);clear h' o';clear s0 s14 s15 s16 s17 s18 s19 s20 s21 s22 s23 s24 z0 z18 z19 z20 z21 z22 z23 z24;have hfs:=H1.out.lk.core;obtain⟨s0,s14,s15,s16,s17,s18,s19,s20,s21,s22,s23,s24,z0,z18,z19,z20,z21,z22,z23,z24⟩:=hfs.fs;clear hfs
      go_wp2_with fail
      go_end0;exact H1.out.fin
     ·skip;have wn:(((why:Nat):Int) != 0)=true:=bne_iff_ne.2 (by omega);have hp:x.out i=y.fail why:=by unfold Sig.Link.out;rw[if_neg h0,if_neg h1,if_neg (by omega),if_neg (by omega),hr];exact if_pos hw
      rw[hp];clear hp;have e0:=b_f x.s 0 (by omega);have e1:=b_f x.s 1 (by omega);have q1:=b_f i 1 (by omega);have q7:=b_f i 7 (by omega)
      try clear hr
      try clear hw
      try clear i1
      try clear i7
      try clear h0
      try clear h1
      try clear h2
      try clear h3
      try clear h4
      go_enter Tryz.func71,Tryz.ntmps71
      go_wp2_with fail
      refine(qce H0.out.lk.core i).mono ?_;rw[HR.out];rintro e w1 ⟨rfl,h',o'⟩;have H1:=am (H0.out.turn h' o' HY.out.2);clear h' o';clear s0 s14 s15 s16 s17 s18 s19 s20 s21 s22 s23 s24 z0 z18 z19 z20 z21 z22 z23 z24;have hfs:=H1.out.lk.core;obtain⟨s0,s14,s15,s16,s17,s18,s19,s20,s21,s22,s23,s24,z0,z18,z19,z20,z21,z22,z23,z24⟩:=hfs.fs;clear hfs
      go_wp2_with fail
      refine(qa3 H1.out.lk (by rw[HY.out.1];exact HF.out) (by rw[HY.out.2];exact HL.out) why).mono ?_;rintro e w2 h';obtain⟨rfl,vt2,h''⟩:=H1.out.acts h';have H2:=am h'';clear h' h'';go_wp2;go_end0;exact H2.out.fin
theorem qjv (l:List (List Nat)) (k:Nat):Sig.size (l.drop k)≤Sig.size l:=by
 have:Sig.size l=Sig.size (l.take k)+Sig.size (l.drop k):=by
  unfold Sig.size;rw[←List.sum_append,←List.map_append,List.take_append_drop]
 omega
theorem HOk.clear {x:Sig.Hold} (h:HOk x):HOk x.clear:=⟨h.most,h.octets,by simp[Sig.Hold.clear],by simp[Sig.Hold.clear],by simp[Sig.Hold.clear],by simp[Sig.Hold.clear,Sig.size],fun p hp=>by simp[Sig.Hold.clear] at hp⟩
theorem HOk.flush {x:Sig.Hold} (h:HOk x):HOk { x with next:=[] }:=⟨h.most,h.octets,h.first,h.sent,by have:=h.all;simp only[List.length_nil];omega,by have:=h.size;simp[Sig.size] at this ⊢;omega,fun p hp=>h.long p (by simpa using Or.inl hp)⟩
theorem HOk.free {x:Sig.Hold} (h:HOk x) {n:Nat} (hk:x.knows n=true):HOk (x.free n).1:=by
 have hs:=qjv x.sent (Sig.rGap (Sig.rPrev x.first) n);have h1:=h.size;have h2:=h.all;have h3:=h.sent;unfold Sig.Hold.free;refine⟨h.most,h.octets,?_,?_,?_,?_,fun p hp=>h.long p ?_⟩
 ·simp only[Sig.rNext];omega
 ·simp only[List.length_drop];omega
 ·simp only[List.length_drop];omega
 ·simp only;omega
 ·rcases hp with hp|hp
  ·exact Or.inl (List.mem_of_mem_drop hp)
  ·exact Or.inr hp
theorem HOk.put {x:Sig.Hold} (h:HOk x) (p:List Nat) (hb:∀b∈p,b<256):HOk (x.put p).1:=by
 unfold Sig.Hold.put;split
 ·exact h
 split
 ·exact h
 split
 ·exact h
 rename_i h1 h2 h3;have hm:=h.most;have ho:=h.octets;refine⟨h.most,h.octets,h.first,h.sent,?_,?_,fun q hq=>?_⟩
 ·simp only[List.length_append,List.length_singleton];omega
 ·simp only[Sig.size,List.map_append,List.sum_append,List.map_cons,List.sum_cons,List.map_nil,List.sum_nil] at h3 ⊢;omega
 ·simp only at hq;rcases hq with hq|hq
  ·exact h.long q (Or.inl hq)
  ·rcases List.mem_append.1 hq with hq|hq
   ·exact h.long q (Or.inr hq)
   ·rw[List.mem_singleton.1 hq];exact⟨by omega,by omega,hb⟩
theorem HOk.send {x:Sig.Hold} (h:HOk x):HOk x.send.1:=by
 unfold Sig.Hold.send;rcases hn:x.next with _|⟨p,r⟩
 ·exact h
 ·simp only;by_cases hl:127≤x.sent.length
  ·rw[if_pos hl];exact h
  ·rw[if_neg hl];exact h.sends hn (by omega)
theorem BOk.new {b:Sig.Basic} (h:BOk b):BOk b.new.1:=by
 have hs:=h.h.send;unfold Sig.Basic.new;rcases hx:b.h.send with ⟨h',_|⟨n,p⟩⟩
 ·exact h
 ·rw[hx] at hs;exact⟨hs,h.last,h.again⟩
theorem BOk.next {b:Sig.Basic} (h:BOk b):BOk b.next.1:=by
 unfold Sig.Basic.next;rcases ha:b.again with _|i
 ·exact h.new
 ·simp only;rcases hx:b.h.at i with _|⟨n,p⟩
  ·exact BOk.new ⟨h.h,h.last,fun i hi=>by simp at hi⟩
  ·refine⟨h.h,h.last,fun j hj=>?_⟩;simp only at hj;by_cases hl:b.h.sent.length≤i+1
   ·rw[if_pos hl] at hj;simp at hj
   ·rw[if_neg hl] at hj;simp at hj;have:=h.h.sent;omega
theorem BOk.answer {b:Sig.Basic} (h:BOk b) (u:Sig.Unit):BOk (b.answer u).1:=by
 cases hk:b.h.knows u.bsn
 ·rw[qhz hk rfl];exact⟨h.h,h.last,h.again⟩
 ·obtain⟨⟨f,k⟩,hf⟩:∃p,b.h.free u.bsn=p:=⟨_,rfl⟩;have hfo:=h.h.free hk;rw[hf] at hfo;have hfs:f.sent.length≤127:=hfo.sent;rw[qcq hk hf rfl rfl];split
  ·split
   ·exact⟨hfo,h.last,fun i hi=>by simp at hi;omega⟩
   ·exact⟨hfo,h.last,fun i hi=>by simp at hi⟩
  ·refine⟨hfo,h.last,fun i hi=>?_⟩;simp only at hi;rcases ha:b.again with _|j
   ·rw[ha] at hi;simp[qv6] at hi
   ·rw[ha] at hi;simp only[Option.map_some,qv6] at hi;split at hi
    ·simp at hi
    ·simp at hi;omega
theorem BOk.take {b:Sig.Basic} (h:BOk b) (u:Sig.Unit):BOk (b.take u).1:=by
 have hn:Sig.rNext b.last<128:=by unfold Sig.rNext;omega
 unfold Sig.Basic.take;split
 ·exact⟨h.h,h.last,h.again⟩
 ·simp only;split
  ·exact⟨h.h,hn,h.again⟩
  split
  ·exact⟨h.h,h.last,h.again⟩
  ·exact⟨h.h,h.last,h.again⟩
theorem COk.old {c:Sig.Cyclic} (h:COk c):COk c.old.1:=by
 have hs:=h.h.sent;by_cases hl:c.h.sent.length≤c.at_
 ·by_cases h0:0<c.h.sent.length
  ·rw[qi1 (i:=0) (Or.inl ⟨hl,rfl,rfl⟩) h0 rfl rfl];exact⟨h.h,h.n1,h.n2,h.last,by simp⟩
  ·rw[qmm (i:=0) (Or.inl ⟨hl,rfl,rfl⟩) (by omega)];exact⟨h.h,h.n1,h.n2,h.last,Nat.zero_le _⟩
 ·rw[qi1 (i:=c.at_) (Or.inr ⟨hl,rfl,rfl⟩) (by omega) rfl rfl];exact⟨h.h,h.n1,h.n2,h.last,by simp only;omega⟩
theorem COk.next {c:Sig.Cyclic} (h:COk c):COk c.next.1:=by
 have key:∀d:Sig.Cyclic,COk d→COk (if !d.force then match d.h.send with|(h,some (n,p))=>({ d with h:=h },d.msg n p)|(_,none)=>d.old else d.old).1:=by
  intro d hd;split
  ·have hs:=hd.h.send;rcases hx:d.h.send with ⟨h',_|⟨n,p⟩⟩
   ·exact hd.old
   ·rw[hx] at hs;exact⟨hs,hd.n1,hd.n2,hd.last,hd.at_⟩
  ·exact hd.old
 unfold Sig.Cyclic.next;refine key _ ?_;split
 ·exact⟨h.h,h.n1,h.n2,h.last,h.at_⟩
 ·exact h
theorem COk.answer {c:Sig.Cyclic} (h:COk c) (u:Sig.Unit):COk (c.answer u).1:=by
 cases hk:c.h.knows u.bsn
 ·rw[qgy hk rfl];exact⟨h.h,h.n1,h.n2,h.last,h.at_⟩
 ·obtain⟨⟨f,k⟩,hf⟩:∃p,c.h.free u.bsn=p:=⟨_,rfl⟩;have hfo:=h.h.free hk;rw[hf] at hfo;rw[qez hk hf rfl];exact⟨hfo,h.n1,h.n2,h.last,by have:=h.at_;simp only;omega⟩
theorem COk.take {c:Sig.Cyclic} (h:COk c) (u:Sig.Unit):COk (c.take u).1:=by
 unfold Sig.Cyclic.take;split
 ·exact h
 ·rename_i hk;have:u.fsn=Sig.rNext c.last:=by omega
  exact⟨h.h,h.n1,h.n2,by simp only[this];unfold Sig.rNext;omega,h.at_⟩
theorem WOk.next {x:Sig.Way} (h:WOk x):WOk x.next.1:=by cases x with|basic b=>exact BOk.next h|cyclic c=>exact COk.next h
theorem WOk.answer {x:Sig.Way} (h:WOk x) (u:Sig.Unit):WOk (x.answer u).1:=by cases x with|basic b=>exact BOk.answer h u|cyclic c=>exact COk.answer h u
theorem WOk.take {x:Sig.Way} (h:WOk x) (u:Sig.Unit):WOk (x.take u).1:=by cases x with|basic b=>exact BOk.take h u|cyclic c=>exact COk.take h u
theorem WOk.reset {x:Sig.Way} (h:WOk x):WOk x.reset:=by
 cases x with
 |basic b=>exact⟨HOk.clear (show BOk b from h).h,by simp[Sig.Basic.reset],fun i hi=>by simp[Sig.Basic.reset] at hi⟩
 |cyclic c=>exact⟨HOk.clear (show COk c from h).h,(show COk c from h).n1,(show COk c from h).n2,by simp[Sig.Cyclic.reset],by simp[Sig.Cyclic.reset]⟩
theorem WOk.setHold {x:Sig.Way} (h:WOk x) {y:Sig.Hold} (hy:HOk y):WOk (x.setHold y):=by
 cases x with
 |basic b=>exact⟨hy,(show BOk b from h).last,(show BOk b from h).again⟩
 |cyclic c=>exact⟨hy,(show COk c from h).n1,(show COk c from h).n2,(show COk c from h).last,(show COk c from h).at_⟩
def WrF (A:Adr) (O:Nat→Prop) (w:World) (k:Nat):Prop:=Wr A O w k∨WrW A O w k
structure FAt (A:Adr) (O:Nat→Prop) (w:World) (x:Sig.Link) (w':World) (vt:Value):Prop where
 lk:Lk w' A (qbe O w w') x vt
 way:WayAt w' A (qbe O w w') x.w
 only:Only (WrF A O w) w w'
def qe0 (A:Adr) (O:Nat→Prop) (w:World) (x:Sig.Link) (r:Value) (e:Ending) (w':World):Prop:=e=.returned r∧∃vt,FAt A O w x w' vt
section
variable {A:Adr} {O:Nat→Prop} {w w1 w2:World} {x x':Sig.Link} {vt:Value} {r:Value} {e:Ending}
theorem Lk.ownT (h:Lk w A O x vt) (k:Nat) (hk:Own A k):∃t,Typed w k t∧(t=54∨t=152∨t=62∨t=177):=by
 rcases hk with rfl|rfl|rfl|rfl
 ·exact⟨54,h.core.st.typed,Or.inl rfl⟩
 ·exact⟨152,h.core.cl.blk.typed,Or.inr (Or.inl rfl)⟩
 ·exact⟨62,h.core.al.typed,Or.inr (Or.inr (Or.inl rfl))⟩
 ·exact⟨177,h.core.ja.typed,Or.inr (Or.inr (Or.inr rfl))⟩
theorem qby (h:Lk w A O x vt) {k t:Nat} (ht:Typed w k t) (hn:t≠54∧t≠152∧t≠62∧t≠177∧t≠184):¬Wr A O w k:=by
 rintro(hk|⟨_,h8⟩)
 ·obtain⟨t',h1,h2⟩:=h.ownT k hk;have:=ht.ne h1;omega
 ·have:=ht.ne h8;omega
theorem qf1 {y:Sig.Way} (h:WayAt w A O y) {k t:Nat} (ht:Typed w k t) (hn:t≠205∧t≠203∧t≠148∧t≠23):¬WrW A O w k:=by
 rintro(rfl|rfl|⟨_,h2⟩)
 ·rcases h.typed.1 with h1|h1 <;> have:=ht.ne h1 <;> omega
 ·have:=ht.ne h.typed.2;omega
 ·have:=ht.ne h2;omega
theorem FAt.refl (h:Lk w A O x vt) (hw:WayAt w A O x.w):FAt A O w x w vt:=⟨(At.refl h).lk,hw.mono (fun k hk _=>Or.inl hk),Only.refl _ _⟩
theorem qeg (h1:Only (WrF A O w) w w1) (h2:Only (WrF A (qbe O w w1) w1) w1 w2):Only (WrF A O w) w w2:=by
 refine⟨h2.os.trans h1.os,h2.tape.trans h1.tape,h2.output.trans h1.output,Nat.le_trans h1.size h2.size,fun k hk hn=>?_⟩;refine(h2.block k (Nat.lt_of_lt_of_le hk h1.size) (fun h=>hn ?_)).trans (h1.block k hk hn);have back:∀t,Typed w1 k t→Typed w k t:=fun t ht=>by
  obtain⟨c,fr,e⟩:=ht;exact⟨c,fr,(h1.block k hk hn).symm.trans e⟩
 rcases h with (h|⟨h|h,ht⟩)|(h|h|⟨h|h,ht⟩)
 ·exact Or.inl (Or.inl h)
 ·exact Or.inl (Or.inr ⟨h,back _ ht⟩)
 ·omega
 ·exact Or.inr (Or.inl h)
 ·exact Or.inr (Or.inr (Or.inl h))
 ·exact Or.inr (Or.inr (Or.inr ⟨h,back _ ht⟩))
 ·omega
theorem FAt.acts (h:FAt A O w x w1 vt) (h':qqs A (qbe O w w1) w1 x' r e w2) (hw:x'.w=x.w):e=.returned r∧∃vt',FAt A O w x' w2 vt':=by
 obtain⟨he,⟨vt',hk⟩,ho⟩:=h';have hg:∀k,qbe (qbe O w w1) w1 w2 k→qbe O w w2 k:=qbp h.only.size ho.size;refine⟨he,vt',hk.mono hg (fun k hk'=>?_),?_,qeg h.only (ho.mono (fun k hk=>Or.inl hk))⟩
 ·rcases hk' with hk'|hk'
  ·exact hk.lt k (Or.inl (Or.inl hk'))
  ·by_cases hlt:k<w1.heap.size
   ·exact hk.lt k (Or.inl (Or.inr ⟨hk'.1,hlt⟩))
   ·exact hk.lt k (Or.inr ⟨by omega,hk'.2⟩)
 ·rw[hw];refine(h.way.only ho ?_ ?_ ?_ ?_).mono (fun k hk _=>hg k (Or.inl hk))
  ·rcases h.way.typed.1 with ht|ht
   ·exact qby h.lk ht (by decide)
   ·exact qby h.lk ht (by decide)
  ·exact qby h.lk h.way.typed.2 (by decide)
  ·exact fun k _ ht=>qby h.lk ht (by decide)
  ·exact fun k hk ht=>qby h.lk ht (by decide) hk
theorem FAt.turn (h:FAt A O w x w1 vt) (h':Core w2 A x' vt) (ho:Only (Own A) w1 w2) (ht:x'.told=x.told) (hw:x'.w=x.w):FAt A O w x' w2 vt:=by
 obtain⟨a,b⟩:=h.lk.turn h' ho ht;have hg:∀k,qbe (qbe O w w1) w1 w2 k→qbe O w w2 k:=qbp h.only.size ho.size;refine⟨a.mono hg (fun k hk'=>?_),?_,qeg h.only (b.mono (fun k hk=>Or.inl hk))⟩
 ·rcases hk' with hk'|hk'
  ·exact a.lt k (Or.inl (Or.inl hk'))
  ·by_cases hlt:k<w1.heap.size
   ·exact a.lt k (Or.inl (Or.inr ⟨hk'.1,hlt⟩))
   ·exact a.lt k (Or.inr ⟨by omega,hk'.2⟩)
 ·rw[hw];refine(h.way.only b ?_ ?_ ?_ ?_).mono (fun k hk _=>hg k (Or.inl hk))
  ·rcases h.way.typed.1 with ht|ht
   ·exact qby h.lk ht (by decide)
   ·exact qby h.lk ht (by decide)
  ·exact qby h.lk h.way.typed.2 (by decide)
  ·exact fun k _ ht=>qby h.lk ht (by decide)
  ·exact fun k hk ht=>qby h.lk ht (by decide) hk
def upW (x:Sig.Link) (y:Sig.Way):Sig.Link:={ x with w:=y }
theorem Lk.way (h:Lk w A O x vt) {y0 y:Sig.Way} (hw:WayAt w A O y0) (ho:Only (WrW A O w) w w2):Lk w2 A (qbe O w w2) (upW x y) vt:=by
 have hown:∀k,Own A k→¬WrW A O w k:=fun k hk=>by
  obtain⟨t,h1,h2⟩:=h.ownT k hk;exact qf1 hw h1 (by omega)
 have hc:=h.core.only ho hown;refine⟨⟨hc.st,hc.cl,hc.al,hc.ja,hc.tl,hc.tk⟩,?_,fun k hk=>?_⟩
 ·refine Kd.R_mono (Kd.R_step (Kd.R_bound h.told) (fun k hk hlt=>ho.block k hlt (fun hwr=>?_))) (fun k hk=>Or.inl hk.1);obtain⟨_,_,_,q,hq,cells,hc'⟩:=hk;have hq':q=184∨q=5:=by
   rcases List.mem_cons.1 hq with rfl|hq
   ·exact Or.inl rfl
   ·have:q∈([5]:List Nat):=hq;exact Or.inr (List.mem_singleton.1 this)
  exact qf1 hw (t:=q) ⟨cells,_,hc'⟩ (by omega) hwr
 ·rcases hk with hk|hk
  ·exact⟨Nat.lt_of_lt_of_le (h.lt k hk).1 ho.size,(h.lt k hk).2⟩
  ·exact⟨hk.2,fun hn=>by have:=h.own_lt k hn;omega⟩
theorem FAt.wacts (h:FAt A O w x w1 vt) {y:Sig.Way} (hy:WayAt w2 A (qbe (qbe O w w1) w1 w2) y) (ho:Only (WrW A (qbe O w w1) w1) w1 w2):FAt A O w (upW x y) w2 vt:=by
 have a:=h.lk.way (y:=y) h.way ho;have hg:∀k,qbe (qbe O w w1) w1 w2 k→qbe O w w2 k:=qbp h.only.size ho.size;refine⟨a.mono hg (fun k hk'=>?_),hy.mono (fun k hk _=>hg k hk),qeg h.only (ho.mono (fun k hk=>Or.inr hk))⟩;rcases hk' with hk'|hk'
 ·exact a.lt k (Or.inl (Or.inl hk'))
 ·by_cases hlt:k<w1.heap.size
  ·exact a.lt k (Or.inl (Or.inr ⟨hk'.1,hlt⟩))
  ·exact a.lt k (Or.inr ⟨by omega,hk'.2⟩)
theorem FAt.facts (h:FAt A O w x w1 vt) (h':qe0 A (qbe O w w1) w1 x' r e w2):e=.returned r∧∃vt',FAt A O w x' w2 vt':=by
 obtain⟨he,vt',hf⟩:=h';have hg:∀k,qbe (qbe O w w1) w1 w2 k→qbe O w w2 k:=qbp h.only.size hf.only.size;refine⟨he,vt',hf.lk.mono hg (fun k hk'=>?_),hf.way.mono (fun k hk _=>hg k hk),qeg h.only hf.only⟩;rcases hk' with hk'|hk'
 ·exact hf.lk.lt k (Or.inl (Or.inl hk'))
 ·by_cases hlt:k<w1.heap.size
  ·exact hf.lk.lt k (Or.inl (Or.inr ⟨hk'.1,hlt⟩))
  ·exact hf.lk.lt k (Or.inr ⟨by omega,hk'.2⟩)
theorem FAt.below (h:FAt A O w x w1 vt) (hb:Below w1.heap.size w1 w2):FAt A O w x w2 vt:=h.turn (h.lk.core.below hb) (qdm hb) rfl rfl
theorem FAt.drew (h:FAt A O w x w1 vt):FAt A O w x w1.drew vt:=h.below (qaf (Below.refl _ _))
theorem FAt.fin (h:FAt A O w x w1 vt):qe0 A O w x r (.returned r) w1:=⟨rfl,vt,h⟩
end
theorem qrn (g:Nat) (c:List Nat) (i:Nat) (w:World) (h:ClockAt w g c) (hi:i<8) :
  Calls Tryz.prog 114 #[.pointer (some ⟨g,0,none⟩),.int .i64 i] w fun e w'=>e=.returned (.bool (decide (0<c.getD i 0)))∧w=w':=by
 have H:=am h;clear h;go_enter Tryz.func114,Tryz.ntmps114
 go_wp2_with fail
 refine(qno g c i w H.out hi).mono ?_;rintro e w1 ⟨rfl,rfl⟩;go_wp2;go_ret;exact⟨by simp,rfl⟩
theorem qd6 {w:World} {g:Nat} {O:Nat→Prop} {x:Sig.Hold} {vs vn:Value} (h:HoldAt w g O x vs vn) {n:Nat} (hn:x.sent.length=n):Calls Tryz.prog 38 #[.pointer (some ⟨g,0,none⟩)] w fun e w'=>e=.returned (.int .i64 (n:Nat))∧w=w':=by
 subst hn;exact qd4 h
theorem qe2 {A:Adr} {O:Nat→Prop} {x:Sig.Link} {vt:Value} {w:World} (h:Lk w A O x vt) (hw:WayAt w A O x.w) (b:Bool) :
  Calls Tryz.prog 95 #[.pointer (some ⟨A.s,0,none⟩),.bool b] w (qe0 A O w (x.wait b) (.tuple #[])):=by
 have hm:=qnn A;have hc:=qhw A;obtain⟨n,hn⟩:∃n,x.w.hold.sent.length=n:=⟨_,rfl⟩;have HN:=am hn;obtain⟨vs,vn,hh⟩:=hw.hold;have HH:=am hh;clear hh;have H0:=am (FAt.refl h hw);obtain⟨s0,s14,s15,s16,s17,s18,s19,s20,s21,s22,s23,s24,z0,z18,z19,z20,z21,z22,z23,z24⟩:=h.core.fs;clear h hw ;unfold qcu ptr at s17;clear hn;by_cases hn0:n=0
 ·have e0:=b_t n 0 (by omega);have hp:x.wait b=x.stop [7]:=by unfold Sig.Link.wait;rw[HN.out,if_pos hn0]
  rw[hp];clear hp hn0;go_enter Tryz.func95,Tryz.ntmps95
  go_wp2_with fail
  refine(qfv H0.out.way).mono ?_;rintro e w1 ⟨rfl,rfl⟩
  go_wp2_with fail
  refine(qd6 HH.out HN.out).mono ?_;rintro e w1 ⟨rfl,rfl⟩
  go_wp2_with fail
  refine(qf9 H0.out.lk.core [7] (by decide) (by decide) rfl rfl rfl).mono ?_;rintro e w1 ⟨rfl,h',o'⟩;have H1:=am (H0.out.turn h' o' rfl rfl);clear h' o';go_wp2;go_end0;exact H1.out.fin
 ·have e0:=b_f n 0 (by omega);cases b
  ·obtain⟨q,hq⟩:∃q,x.c.getD 7 0=q:=⟨_,rfl⟩;have HQ:=am hq;clear hq;have hon:=qrn A.c x.c 7 w H0.out.lk.core.cl (by decide);rw[HQ.out] at hon;have HON:=am hon;clear hon;by_cases hq0:q=0
   ·have e1:decide (0<q)=false:=decide_eq_false (by omega);have hp:x.wait false=x.start 7:=by unfold Sig.Link.wait;rw[HN.out,if_neg hn0,if_pos (Or.inr (by rw[HQ.out];exact hq0))]
    have t7:w.cell? ⟨A.s,13,none⟩=some (.int .i64 (x.T 7:Nat)):=H0.out.lk.core.sT 7 (by decide);rw[hp];clear hp hq0 hn0;go_enter Tryz.func95,Tryz.ntmps95
    go_wp2_with fail
    refine(qfv H0.out.way).mono ?_;rintro e w1 ⟨rfl,rfl⟩
    go_wp2_with fail
    refine(qd6 HH.out HN.out).mono ?_;rintro e w1 ⟨rfl,rfl⟩
    go_wp2_with fail
    refine HON.out.mono ?_;rintro e w1 ⟨rfl,rfl⟩
    go_wp2_with fail
    go_still_tail 10,(by kernel_rfl);change wpList _ _ _ _ _ w.drew
    go_wp2_with fail
    have H1:=am H0.out.drew;refine(qcm H1.out.lk.core 7 (by decide) rfl).mono ?_;rintro e w2 ⟨rfl,h',o'⟩;have H2:=am (H1.out.turn h' o' rfl rfl);clear h' o';go_wp2;go_end0;exact H2.out.fin
   ·have e1:decide (0<q)=true:=decide_eq_true (by omega);have hp:x.wait false=x:=by unfold Sig.Link.wait;rw[HN.out,if_neg hn0,if_neg (by rw[HQ.out];simp[hq0])]
    rw[hp];clear hp hq0 hn0;go_enter Tryz.func95,Tryz.ntmps95
    go_wp2_with fail
    refine(qfv H0.out.way).mono ?_;rintro e w1 ⟨rfl,rfl⟩
    go_wp2_with fail
    refine(qd6 HH.out HN.out).mono ?_;rintro e w1 ⟨rfl,rfl⟩
    go_wp2_with fail
    refine HON.out.mono ?_;rintro e w1 ⟨rfl,rfl⟩;go_wp2;go_end0;exact H0.out.fin
  ·have hp:x.wait true=x.start 7:=by unfold Sig.Link.wait;rw[HN.out,if_neg hn0,if_pos (Or.inl rfl)]
   have t7:w.cell? ⟨A.s,13,none⟩=some (.int .i64 (x.T 7:Nat)):=H0.out.lk.core.sT 7 (by decide);rw[hp];clear hp hn0;go_enter Tryz.func95,Tryz.ntmps95
   go_wp2_with fail
   refine(qfv H0.out.way).mono ?_;rintro e w1 ⟨rfl,rfl⟩
   go_wp2_with fail
   refine(qd6 HH.out HN.out).mono ?_;rintro e w1 ⟨rfl,rfl⟩
   go_wp2_with fail
   go_still_tail 10,(by kernel_rfl);change wpList _ _ _ _ _ w.drew
   go_wp2_with fail
   have H1:=am H0.out.drew;refine(qcm H1.out.lk.core 7 (by decide) rfl).mono ?_;rintro e w2 ⟨rfl,h',o'⟩;have H2:=am (H1.out.turn h' o' rfl rfl);clear h' o';go_wp2;go_end0;exact H2.out.fin
theorem qbv {A:Adr} {O:Nat→Prop} {x:Sig.Link} {vt:Value} {w:World} (h:Lk w A O x vt) (hw:WayAt w A O x.w) :
  Calls Tryz.prog 67 #[.pointer (some ⟨A.s,0,none⟩)] w (qe0 A O w (x.resume) (.tuple #[])):=by
 have H0:=am (FAt.refl h hw);obtain⟨s0,s14,s15,s16,s17,s18,s19,s20,s21,s22,s23,s24,z0,z18,z19,z20,z21,z22,z23,z24⟩:=h.core.fs;clear h hw ;by_cases hs:x.s=5
 ·have s5:(((x.s:Nat):Int) != 5)=false:=by rw[hs];rfl
  obtain⟨io,hio⟩:∃b,x.o.is=b:=⟨_,rfl⟩;have HIO:=am hio;clear hio;cases io
  ·have hp:x.resume=Sig.Link.wait (up x 4 x.o x.leak x.fails) false:=by unfold Sig.Link.resume up;rw[if_neg (by rw[HIO.out];simp[hs])]
   rw[hp];clear hp hs;go_enter Tryz.func67,Tryz.ntmps67
   go_wp2_with fail
   refine(hIs x.o.own x.o.their x.o.wait false w HIO.out).mono ?_;rintro e w1 ⟨rfl,hb⟩;have H1:=am (H0.out.below hb);clear hb;clear s0 s14 s15 s16 s17 s18 s19 s20 s21 s22 s23 s24 z0 z18 z19 z20 z21 z22 z23 z24;have hfs:=H1.out.lk.core;obtain⟨s0,s14,s15,s16,s17,s18,s19,s20,s21,s22,s23,s24,z0,z18,z19,z20,z21,z22,z23,z24⟩:=hfs.fs;clear hfs
   go_wp2_with fail
   have c':=H1.out.lk.core.up0 4 (u:=(.int .u8 4)) rfl;have o':=((Only.refl (Own A) w1).trans (qaz 0 (.int .u8 4)));generalize (w1.setCell ⟨A.s,0,none⟩ (.int .u8 4))=w2 at c' o' ⊢;have H2:qac (FAt A O w (up x 4 ⟨x.o.own,x.o.their,x.o.wait⟩ ⟨x.leak.n,x.leak.seen⟩ x.fails) w2 vt):=⟨H1.out.turn c' o' rfl rfl⟩;clear c' o';clear s0 s14 s15 s16 s17 s18 s19 s20 s21 s22 s23 s24 z0 z18 z19 z20 z21 z22 z23 z24;have hfs:=H2.out.lk.core;obtain⟨s0,s14,s15,s16,s17,s18,s19,s20,s21,s22,s23,s24,z0,z18,z19,z20,z21,z22,z23,z24⟩:=hfs.fs;clear hfs
   go_wp2_with fail
   refine(qe2 H2.out.lk H2.out.way false).mono ?_;rintro e w3 h';obtain⟨rfl,vt3,h''⟩:=H2.out.facts h';have H3:=am h'';clear h' h'';go_wp2;go_end0;exact H3.out.fin
  ·have hp:x.resume=x:=by unfold Sig.Link.resume;rw[if_pos (Or.inr HIO.out)]
   rw[hp];clear hp hs;go_enter Tryz.func67,Tryz.ntmps67
   go_wp2_with fail
   refine(hIs x.o.own x.o.their x.o.wait true w HIO.out).mono ?_;rintro e w1 ⟨rfl,hb⟩;have H1:=am (H0.out.below hb);clear hb;clear s0 s14 s15 s16 s17 s18 s19 s20 s21 s22 s23 s24 z0 z18 z19 z20 z21 z22 z23 z24;have hfs:=H1.out.lk.core;obtain⟨s0,s14,s15,s16,s17,s18,s19,s20,s21,s22,s23,s24,z0,z18,z19,z20,z21,z22,z23,z24⟩:=hfs.fs;clear hfs;go_wp2;go_end0;exact H1.out.fin
 ·have s5:(((x.s:Nat):Int) != 5)=true:=bne_iff_ne.2 (by omega);have hp:x.resume=x:=by unfold Sig.Link.resume;rw[if_pos (Or.inl hs)]
  rw[hp];clear hp hs;go_enter Tryz.func67,Tryz.ntmps67
  go_wp2_with fail
  go_end0;exact H0.out.fin
end Go.Proofs.YtjbijdmcceloaaaGreat.Top
namespace Go.Proofs.YtjbijdmcceloaaaGreat.MTopTotal
open Go.RowKit Go.Proofs.YtjbijdmcceloaaaGreat Go.Proofs.YtjbijdmcceloaaaGreatW.PrintWords Go.Proofs.YtjbijdmcceloaaaGreatW.PrintLast Go.Proofs.YtjbijdmcceloaaaGreatW.PrintMore
attribute [local go_sem] qdz qdx qfc qfb qcy qcx qdy qdw  
def setup_within_int.f (a0:Int) (a1:Int) (a2:Int):Option (Bool):=if a0≥a1 then (some (decide (a0≤a2))) else (some false)
theorem setup_within_int.calls (a0:Int) (a1:Int) (a2:Int) (r:Bool) (w:World) (h:setup_within_int.f a0 a1 a2=some r) :
  Calls Tryz.prog 56 #[.int .i64 a0,.int .i64 a1,.int .i64 a2] w fun e w'=>e=.returned (.bool r)∧Drawn0 w w':=by
 have H:(if a0≥a1 then (some (decide (a0≤a2))) else (some false))=some r:=h;clear h;by_cases c4:a0≥a1
 ·rw[if_pos c4] at H;have c4b0:decide (a1≤a0)=true:=decide_eq_true c4;clear c4;obtain rfl:=Option.some.inj H;go_enter Tryz.func56,Tryz.ntmps56;go_wp2;go_ret;exact⟨by first|rfl|(simp;done)|(simp[*];done),by repeat (first|exact Drawn0.refl _|apply Drawn0.step)⟩
 ·rw[if_neg c4] at H;have c4b0:decide (a1≤a0)=false:=decide_eq_false c4;clear c4;obtain rfl:=Option.some.inj H;go_enter Tryz.func56,Tryz.ntmps56;go_wp2;go_ret;exact⟨by first|rfl|(simp;done)|(simp[*];done),by repeat (first|exact Drawn0.refl _|apply Drawn0.step)⟩
def setup_Unit.f (a0:Int):Option (Int):=some (wrap64 ((wrap64 (Int.tdiv (wrap64 ((wrap64 ((wrap64 ((wrap64 ((mx a0 0)*8))+(wrap64 (Int.tdiv (wrap64 ((mx a0 0)*8)) 5))))+8))+7)) 8))+1))
theorem setup_Unit.calls (a0:Int) (r:Int) (w:World) (h:setup_Unit.f a0=some r) :
  Calls Tryz.prog 55 #[.int .i64 a0] w fun e w'=>e=.returned (.int .i64 r)∧Below w.heap.size w w':=by
 have HB:=am (Below.refl w.heap.size w);have H:(some (wrap64 ((wrap64 (Int.tdiv (wrap64 ((wrap64 ((wrap64 ((wrap64 ((mx a0 0)*8))+(wrap64 (Int.tdiv (wrap64 ((mx a0 0)*8)) 5))))+8))+7)) 8))+1)))=some r:=h;clear h;obtain⟨ji2,hji2⟩:∃j_:Int,(mx a0 0)=j_:=⟨_,rfl⟩;replace H:(some (wrap64 ((wrap64 (Int.tdiv (wrap64 ((wrap64 ((wrap64 ((wrap64 ((ji2)*8))+(wrap64 (Int.tdiv (wrap64 ((ji2)*8)) 5))))+8))+7)) 8))+1)))=some r:=by first|(rw[hji2] at H;exact H)|(simp only[hji2] at H ⊢;exact H)
 (try (have hji2l:0≤ji2:=by(rw[←hji2];unfold mx;(repeat' split) <;> omega)))
 (try (have hji2m:0≤ji2:=by omega))
 have hji2_:(if a0<0 then 0 else a0)=ji2:=hji2;obtain rfl:=Option.some.inj H;go_enter Tryz.func55,Tryz.ntmps55;go_wp2;go_ret;exact⟨by first|rfl|(simp[qai,qah] <;> rfl)|(simp only[←hji2];first|rfl|(simp[qai,qah] <;> rfl))|(simp[*,qai,qah] <;> rfl),by repeat (first|(with_reducible first|exact HB.out|apply qaa|apply qab|apply qad)|exact HB.out)⟩
def limit_frame.f :Option (Int):=(setup_Unit.f 279).bind fun t224=>(some t224)
theorem limit_frame.calls  (r:Int) (w:World) (h:limit_frame.f =some r) :
  Calls Tryz.prog 54 #[] w fun e w'=>e=.returned (.int .i64 r)∧Below w.heap.size w w':=by
 have HB:=am (Below.refl w.heap.size w);have H:((setup_Unit.f 279).bind fun t224=>(some t224))=some r:=h;clear h;replace H:=Option.bind_eq_some_iff.mp H;obtain⟨t224,A10,H⟩:=H;replace H:(some t224)=some r:=H;have A1:=am A10;clear A10;obtain rfl:=Option.some.inj H;go_enter Tryz.func54,Tryz.ntmps54
 go_wp2_with (first|((with_reducible refine qaq (f:=55) rfl ?_);refine qbm (some 1) rfl rfl Tryz.func55 (by kernel_rfl) rfl #[.int .i64 279] rfl (by(try simp only[List.map_toArray,List.map_cons,List.map_nil]);first|done|rfl|(simp only[List.length_drop,List.length_take];rfl)|(simp[Act.eval, *];done)) ?_;(with_reducible refine(setup_Unit.calls 279 t224 _ A1.out).mono ?_);rintro e w2 ⟨rfl,hb⟩;refine⟨_,rfl,?_⟩;have n0_:=am (qar (by repeat (first|(with_reducible first|exact HB.out|apply qaa|apply qab|apply qad)|exact HB.out)) hb);clear HB;have HB:=n0_;clear n0_;(try clear hb);(try clear hb2);(try clear hk);(try clear hi)))
 go_ret;exact⟨by first|rfl|(simp[qai,qah] <;> rfl)|(simp[*,qai,qah] <;> rfl),by repeat (first|(with_reducible first|exact HB.out|apply qaa|apply qab|apply qad)|exact HB.out)⟩
def limit_way.f (a0:Int):Option (Int):=(limit_frame.f).bind fun t225=>(some (wrap64 ((wrap64 ((wrap64 (Int.tdiv (wrap64 ((mx a0 0)+7)) 8))+(wrap64 (2*t225))))+2)))
theorem limit_way.calls (a0:Int) (r:Int) (w:World) (h:limit_way.f a0=some r) :
  Calls Tryz.prog 42 #[.int .i64 a0] w fun e w'=>e=.returned (.int .i64 r)∧Below w.heap.size w w':=by
 have HB:=am (Below.refl w.heap.size w);have H:((limit_frame.f).bind fun t225=>(some (wrap64 ((wrap64 ((wrap64 (Int.tdiv (wrap64 ((mx a0 0)+7)) 8))+(wrap64 (2*t225))))+2))))=some r:=h;clear h;obtain⟨ji2,hji2⟩:∃j_:Int,(mx a0 0)=j_:=⟨_,rfl⟩;replace H:((limit_frame.f).bind fun t225=>(some (wrap64 ((wrap64 ((wrap64 (Int.tdiv (wrap64 ((ji2)+7)) 8))+(wrap64 (2*t225))))+2))))=some r:=by first|(rw[hji2] at H;exact H)|(simp only[hji2] at H ⊢;exact H)
 (try (have hji2l:0≤ji2:=by(rw[←hji2];unfold mx;(repeat' split) <;> omega)))
 (try (have hji2m:0≤ji2:=by omega))
 have hji2_:(if a0<0 then 0 else a0)=ji2:=hji2;replace H:=Option.bind_eq_some_iff.mp H;obtain⟨t225,A30,H⟩:=H;replace H:(some (wrap64 ((wrap64 ((wrap64 (Int.tdiv (wrap64 ((ji2)+7)) 8))+(wrap64 (2*t225))))+2)))=some r:=H;have A3:=am A30;clear A30;obtain rfl:=Option.some.inj H;go_enter Tryz.func42,Tryz.ntmps42
 go_wp2_with (first|((with_reducible refine qaq (f:=54) rfl ?_);refine qbm (some 7) rfl rfl Tryz.func54 (by kernel_rfl) rfl #[] rfl (by(try simp only[List.map_toArray,List.map_cons,List.map_nil]);first|done|rfl|(simp only[List.length_drop,List.length_take];rfl)|(simp[Act.eval, *];done)) ?_;(with_reducible refine(limit_frame.calls  t225 _ A3.out).mono ?_);rintro e w4 ⟨rfl,hb⟩;refine⟨_,rfl,?_⟩;have n0_:=am (qar (by repeat (first|(with_reducible first|exact HB.out|apply qaa|apply qab|apply qad)|exact HB.out)) hb);clear HB;have HB:=n0_;clear n0_;(try clear hb);(try clear hb2);(try clear hk);(try clear hi)))
 go_ret;exact⟨by first|rfl|(simp[qai,qah] <;> rfl)|(simp only[←hji2];first|rfl|(simp[qai,qah] <;> rfl))|(simp[*,qai,qah] <;> rfl),by repeat (first|(with_reducible first|exact HB.out|apply qaa|apply qab|apply qad)|exact HB.out)⟩
end Go.Proofs.YtjbijdmcceloaaaGreat.MTopTotal
